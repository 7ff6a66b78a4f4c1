/- Parts of the proof, one behind the other. -/
import Derived.Test.YtihahfhagobnoaaGreatDoorProg
import Derived.Test.YtihahfhagobnoaaGreatDoorG02
namespace Go.Proofs.YtihahfhagobnoaaGreatDoor.Lg
open Go
set_option linter.unusedVariables false
set_option linter.unusedSimpArgs false
set_option maxRecDepth 100000
theorem Jd{i:Nat}{ti:TypeInfo}(h:Tryz.prog.types[i]?=some ti):Tryz.prog.info? i=some ti:=by
 have hlt:i<Tryz.prog.types.size:=(Array.getElem?_eq_some_iff.1 h).1
 simp only[Tables.info?,if_pos hlt,h]
def ty1:TyI:=⟨.func,1,8,[.nilf]⟩
theorem Jn1:Jl Tryz.prog 1 ty1:=.inr ⟨Tryz.t1,Jd Tryz.type1,rfl,rfl,⟨_,rfl,rfl,rfl⟩,_,Tryz.underlying1,rfl⟩
theorem Jpu:Jm Tryz.prog 1 ty1:=.inr ⟨Tryz.t1,_,Jd Tryz.type1,rfl,rfl⟩
def ty2:TyI:=⟨.int .i64,1,8,[.int .i64 0]⟩
theorem Jor:Jl Tryz.prog 2 ty2:=.inr ⟨Tryz.t2,Jd Tryz.type2,rfl,rfl,⟨_,rfl,rfl,rfl⟩,_,Tryz.underlying2,rfl⟩
theorem JpU:Jm Tryz.prog 2 ty2:=.inr ⟨Tryz.t2,_,Jd Tryz.type2,rfl,rfl⟩
def ty3:TyI:=⟨.int .i64,1,8,[.int .i64 0]⟩
theorem JoU:Jl Tryz.prog 3 ty3:=.inr ⟨Tryz.t3,Jd Tryz.type3,rfl,rfl,⟨_,rfl,rfl,rfl⟩,_,Tryz.underlying3,rfl⟩
theorem Jqn:Jm Tryz.prog 3 ty3:=.inr ⟨Tryz.t3,_,Jd Tryz.type3,rfl,rfl⟩
def ty4:TyI:=⟨.bool,1,1,[.bool false]⟩
theorem Jo1:Jl Tryz.prog 4 ty4:=.inr ⟨Tryz.t4,Jd Tryz.type4,rfl,rfl,⟨_,rfl,rfl,rfl⟩,_,Tryz.underlying4,rfl⟩
theorem Jqu:Jm Tryz.prog 4 ty4:=.inr ⟨Tryz.t4,_,Jd Tryz.type4,rfl,rfl⟩
def ty5:TyI:=⟨.int .u8,1,1,[.int .u8 0]⟩
theorem Jo8:Jl Tryz.prog 5 ty5:=.inr ⟨Tryz.t5,Jd Tryz.type5,rfl,rfl,⟨_,rfl,rfl,rfl⟩,_,Tryz.underlying5,rfl⟩
theorem JqB:Jm Tryz.prog 5 ty5:=.inr ⟨Tryz.t5,_,Jd Tryz.type5,rfl,rfl⟩
def ty6:TyI:=⟨.int .u8,1,1,[.int .u8 0]⟩
theorem Jpe:Jl Tryz.prog 6 ty6:=.inr ⟨Tryz.t6,Jd Tryz.type6,rfl,rfl,⟨_,rfl,rfl,rfl⟩,_,Tryz.underlying6,rfl⟩
theorem JqH:Jm Tryz.prog 6 ty6:=.inr ⟨Tryz.t6,_,Jd Tryz.type6,rfl,rfl⟩
def ty7 : TyI := ⟨.struct [(0, 2, "x"), (1, 3, "y"), (2, 4, "signed"), (3, 6, "code")], 4, 24, [.int .i64 0, .int .i64 0, .bool false, .int .u8 0]⟩
theorem Jpi:Jl Tryz.prog 7 ty7:=.inr ⟨Tryz.t7,Jd Tryz.type7,rfl,rfl,⟨_,rfl,rfl,rfl⟩,_,Tryz.underlying7,rfl⟩
theorem JqL:Jm Tryz.prog 7 ty7:=.inr ⟨Tryz.t7,_,Jd Tryz.type7,rfl,rfl⟩
def ty8 : TyI := ⟨.struct [(0, 2, "x"), (1, 3, "y"), (2, 4, "signed"), (3, 6, "code")], 4, 24, [.int .i64 0, .int .i64 0, .bool false, .int .u8 0]⟩
theorem Jpm:Jl Tryz.prog 8 ty8:=.inr ⟨Tryz.t8,Jd Tryz.type8,rfl,rfl,⟨_,rfl,rfl,rfl⟩,_,Tryz.underlying8,rfl⟩
theorem JqP:Jm Tryz.prog 8 ty8:=.inr ⟨Tryz.t8,_,Jd Tryz.type8,rfl,rfl⟩
def ty9:TyI:=⟨.str,1,16,[.str []]⟩
theorem Jpq:Jl Tryz.prog 9 ty9:=.inr ⟨Tryz.t9,Jd Tryz.type9,rfl,rfl,⟨_,rfl,rfl,rfl⟩,_,Tryz.underlying9,rfl⟩
theorem JqT:Jm Tryz.prog 9 ty9:=.inr ⟨Tryz.t9,_,Jd Tryz.type9,rfl,rfl⟩
def ty10:TyI:=⟨.str,1,16,[.str []]⟩
theorem Jn2:Jl Tryz.prog 10 ty10:=.inr ⟨Tryz.t10,Jd Tryz.type10,rfl,rfl,⟨_,rfl,rfl,rfl⟩,_,Tryz.underlying10,rfl⟩
theorem Jpv:Jm Tryz.prog 10 ty10:=.inr ⟨Tryz.t10,_,Jd Tryz.type10,rfl,rfl⟩
def ty12:TyI:=⟨.int .u64,1,8,[.int .u64 0]⟩
theorem Jn6:Jl Tryz.prog 12 ty12:=.inr ⟨Tryz.t12,Jd Tryz.type12,rfl,rfl,⟨_,rfl,rfl,rfl⟩,_,Tryz.underlying12,rfl⟩
theorem Jpz:Jm Tryz.prog 12 ty12:=.inr ⟨Tryz.t12,_,Jd Tryz.type12,rfl,rfl⟩
def ty13 : TyI := ⟨.struct [(0, 9, "msg"), (1, 12, "addr")], 2, 24, [.str [], .int .u64 0]⟩
theorem Jn7:Jl Tryz.prog 13 ty13:=.inr ⟨Tryz.t13,Jd Tryz.type13,rfl,rfl,⟨_,rfl,rfl,rfl⟩,_,Tryz.underlying13,rfl⟩
theorem JpA:Jm Tryz.prog 13 ty13:=.inr ⟨Tryz.t13,_,Jd Tryz.type13,rfl,rfl⟩
def ty15:TyI:=⟨.ptr 269,1,8,[.nilp]⟩
theorem Jod:Jl Tryz.prog 15 ty15:=.inr ⟨Tryz.t15,Jd Tryz.type15,rfl,rfl,⟨_,rfl,rfl,rfl⟩,_,Tryz.underlying15,rfl⟩
theorem JpG:Jm Tryz.prog 15 ty15:=.inr ⟨Tryz.t15,_,Jd Tryz.type15,rfl,rfl⟩
def ty16:TyI:=⟨.ptr 272,1,8,[.nilp]⟩
theorem Jog:Jl Tryz.prog 16 ty16:=.inr ⟨Tryz.t16,Jd Tryz.type16,rfl,rfl,⟨_,rfl,rfl,rfl⟩,_,Tryz.underlying16,rfl⟩
theorem JpJ:Jm Tryz.prog 16 ty16:=.inr ⟨Tryz.t16,_,Jd Tryz.type16,rfl,rfl⟩
def ty17:TyI:=⟨.ptr 280,1,8,[.nilp]⟩
theorem Jok:Jl Tryz.prog 17 ty17:=.inr ⟨Tryz.t17,Jd Tryz.type17,rfl,rfl,⟨_,rfl,rfl,rfl⟩,_,Tryz.underlying17,rfl⟩
theorem JpN:Jm Tryz.prog 17 ty17:=.inr ⟨Tryz.t17,_,Jd Tryz.type17,rfl,rfl⟩
def ty21:TyI:=⟨.int .i32,1,4,[.int .i32 0]⟩
theorem Jot:Jl Tryz.prog 21 ty21:=.inr ⟨Tryz.t21,Jd Tryz.type21,rfl,rfl,⟨_,rfl,rfl,rfl⟩,_,Tryz.underlying21,rfl⟩
theorem JpW:Jm Tryz.prog 21 ty21:=.inr ⟨Tryz.t21,_,Jd Tryz.type21,rfl,rfl⟩
def ty22:TyI:=⟨.array 4 3,4,32,[.int .i64 0,.int .i64 0,.int .i64 0,.int .i64 0]⟩
theorem Joy:Jl Tryz.prog 22 ty22:=.inr ⟨Tryz.t22,Jd Tryz.type22,rfl,rfl,⟨_,rfl,rfl,rfl⟩,_,Tryz.underlying22,rfl⟩
theorem Jp1:Jm Tryz.prog 22 ty22:=.inr ⟨Tryz.t22,_,Jd Tryz.type22,rfl,rfl⟩
def ty24 : TyI := ⟨.struct [(0, 22, "Last"), (4, 3, "Max")], 5, 40, [.int .i64 0, .int .i64 0, .int .i64 0, .int .i64 0, .int .i64 0]⟩
theorem JoE:Jl Tryz.prog 24 ty24:=.inr ⟨Tryz.t24,Jd Tryz.type24,rfl,rfl,⟨_,rfl,rfl,rfl⟩,_,Tryz.underlying24,rfl⟩
theorem Jp7:Jm Tryz.prog 24 ty24:=.inr ⟨Tryz.t24,_,Jd Tryz.type24,rfl,rfl⟩
def ty25:TyI:=⟨.int .i64,1,8,[.int .i64 0]⟩
theorem JoG:Jl Tryz.prog 25 ty25:=.inr ⟨Tryz.t25,Jd Tryz.type25,rfl,rfl,⟨_,rfl,rfl,rfl⟩,_,Tryz.underlying25,rfl⟩
theorem Jp9:Jm Tryz.prog 25 ty25:=.inr ⟨Tryz.t25,_,Jd Tryz.type25,rfl,rfl⟩
def ty26:TyI:=⟨.array 4 25,4,32,[.int .i64 0,.int .i64 0,.int .i64 0,.int .i64 0]⟩
theorem JoH:Jl Tryz.prog 26 ty26:=.inr ⟨Tryz.t26,Jd Tryz.type26,rfl,rfl,⟨_,rfl,rfl,rfl⟩,_,Tryz.underlying26,rfl⟩
theorem Jqa:Jm Tryz.prog 26 ty26:=.inr ⟨Tryz.t26,_,Jd Tryz.type26,rfl,rfl⟩
def ty27:TyI:=⟨.slice 87,1,24,[.slice true []]⟩
theorem JoJ:Jl Tryz.prog 27 ty27:=.inr ⟨Tryz.t27,Jd Tryz.type27,rfl,rfl,⟨_,rfl,rfl,rfl⟩,_,Tryz.underlying27,rfl⟩
theorem Jqc:Jm Tryz.prog 27 ty27:=.inr ⟨Tryz.t27,_,Jd Tryz.type27,rfl,rfl⟩
def ty29 : TyI := ⟨.struct [(0, 3, "Cap"), (1, 27, "L")], 2, 32, [.int .i64 0, .slice true []]⟩
theorem JoT:Jl Tryz.prog 29 ty29:=.inr ⟨Tryz.t29,Jd Tryz.type29,rfl,rfl,⟨_,rfl,rfl,rfl⟩,_,Tryz.underlying29,rfl⟩
theorem Jqm:Jm Tryz.prog 29 ty29:=.inr ⟨Tryz.t29,_,Jd Tryz.type29,rfl,rfl⟩
def ty30 : TyI := ⟨.struct [(0, 29, "C"), (2, 4, "Ready"), (3, 27, "Shown")], 4, 64, [.int .i64 0, .slice true [], .bool false, .slice true []]⟩
theorem JoV:Jl Tryz.prog 30 ty30:=.inr ⟨Tryz.t30,Jd Tryz.type30,rfl,rfl,⟨_,rfl,rfl,rfl⟩,_,Tryz.underlying30,rfl⟩
theorem Jqo:Jm Tryz.prog 30 ty30:=.inr ⟨Tryz.t30,_,Jd Tryz.type30,rfl,rfl⟩
def ty31 : TyI := ⟨.struct [(0, 29, "C"), (2, 4, "Ready"), (3, 27, "Shown")], 4, 64, [.int .i64 0, .slice true [], .bool false, .slice true []]⟩
theorem JoW:Jl Tryz.prog 31 ty31:=.inr ⟨Tryz.t31,Jd Tryz.type31,rfl,rfl,⟨_,rfl,rfl,rfl⟩,_,Tryz.underlying31,rfl⟩
theorem Jqp:Jm Tryz.prog 31 ty31:=.inr ⟨Tryz.t31,_,Jd Tryz.type31,rfl,rfl⟩
def ty32:TyI:=⟨.slice 141,1,24,[.slice true []]⟩
theorem JoX:Jl Tryz.prog 32 ty32:=.inr ⟨Tryz.t32,Jd Tryz.type32,rfl,rfl,⟨_,rfl,rfl,rfl⟩,_,Tryz.underlying32,rfl⟩
theorem Jqq:Jm Tryz.prog 32 ty32:=.inr ⟨Tryz.t32,_,Jd Tryz.type32,rfl,rfl⟩
def ty34 : TyI := ⟨.struct [(0, 3, "Next"), (1, 32, "Snaps")], 2, 32, [.int .i64 0, .slice true []]⟩
theorem JoY:Jl Tryz.prog 34 ty34:=.inr ⟨Tryz.t34,Jd Tryz.type34,rfl,rfl,⟨_,rfl,rfl,rfl⟩,_,Tryz.underlying34,rfl⟩
theorem Jqr:Jm Tryz.prog 34 ty34:=.inr ⟨Tryz.t34,_,Jd Tryz.type34,rfl,rfl⟩
def ty36 : TyI := ⟨.struct [(0, 3, "Epoch"), (1, 3, "Turn"), (2, 4, "Up"), (3, 24, "In"), (8, 26, "Errs"), (12, 31, "W"), (16, 34, "P")], 18, 192, [.int .i64 0, .int .i64 0, .bool false, .int .i64 0, .int .i64 0, .int .i64 0, .int .i64 0, .int .i64 0, .int .i64 0, .int .i64 0, .int .i64 0, .int .i64 0, .int .i64 0, .slice true [], .bool false, .slice true [], .int .i64 0, .slice true []]⟩
theorem JoZ:Jl Tryz.prog 36 ty36:=.inr ⟨Tryz.t36,Jd Tryz.type36,rfl,rfl,⟨_,rfl,rfl,rfl⟩,_,Tryz.underlying36,rfl⟩
theorem Jqs:Jm Tryz.prog 36 ty36:=.inr ⟨Tryz.t36,_,Jd Tryz.type36,rfl,rfl⟩
def ty37:TyI:=⟨.slice 90,1,24,[.slice true []]⟩
theorem Jo0:Jl Tryz.prog 37 ty37:=.inr ⟨Tryz.t37,Jd Tryz.type37,rfl,rfl,⟨_,rfl,rfl,rfl⟩,_,Tryz.underlying37,rfl⟩
theorem Jqt:Jm Tryz.prog 37 ty37:=.inr ⟨Tryz.t37,_,Jd Tryz.type37,rfl,rfl⟩
def ty43:TyI:=⟨.func,1,8,[.nilf]⟩
theorem Jo2:Jl Tryz.prog 43 ty43:=.inr ⟨Tryz.t43,Jd Tryz.type43,rfl,rfl,⟨_,rfl,rfl,rfl⟩,_,Tryz.underlying43,rfl⟩
theorem Jqv:Jm Tryz.prog 43 ty43:=.inr ⟨Tryz.t43,_,Jd Tryz.type43,rfl,rfl⟩
def ty45 : TyI := ⟨.struct [(0, 22, "Last"), (4, 3, "Max")], 5, 40, [.int .i64 0, .int .i64 0, .int .i64 0, .int .i64 0, .int .i64 0]⟩
theorem Jo3:Jl Tryz.prog 45 ty45:=.inr ⟨Tryz.t45,Jd Tryz.type45,rfl,rfl,⟨_,rfl,rfl,rfl⟩,_,Tryz.underlying45,rfl⟩
theorem Jqw:Jm Tryz.prog 45 ty45:=.inr ⟨Tryz.t45,_,Jd Tryz.type45,rfl,rfl⟩
def ty46 : TyI := ⟨.struct [(0, 3, "Cap"), (1, 27, "L")], 2, 32, [.int .i64 0, .slice true []]⟩
theorem Jo4:Jl Tryz.prog 46 ty46:=.inr ⟨Tryz.t46,Jd Tryz.type46,rfl,rfl,⟨_,rfl,rfl,rfl⟩,_,Tryz.underlying46,rfl⟩
theorem Jqx:Jm Tryz.prog 46 ty46:=.inr ⟨Tryz.t46,_,Jd Tryz.type46,rfl,rfl⟩
def ty47 : TyI := ⟨.struct [(0, 46, "C"), (2, 4, "Ready"), (3, 27, "Shown")], 4, 64, [.int .i64 0, .slice true [], .bool false, .slice true []]⟩
theorem Jo5:Jl Tryz.prog 47 ty47:=.inr ⟨Tryz.t47,Jd Tryz.type47,rfl,rfl,⟨_,rfl,rfl,rfl⟩,_,Tryz.underlying47,rfl⟩
theorem Jqy:Jm Tryz.prog 47 ty47:=.inr ⟨Tryz.t47,_,Jd Tryz.type47,rfl,rfl⟩
def ty48 : TyI := ⟨.struct [(0, 46, "C"), (2, 4, "Ready"), (3, 27, "Shown")], 4, 64, [.int .i64 0, .slice true [], .bool false, .slice true []]⟩
theorem Jo6:Jl Tryz.prog 48 ty48:=.inr ⟨Tryz.t48,Jd Tryz.type48,rfl,rfl,⟨_,rfl,rfl,rfl⟩,_,Tryz.underlying48,rfl⟩
theorem Jqz:Jm Tryz.prog 48 ty48:=.inr ⟨Tryz.t48,_,Jd Tryz.type48,rfl,rfl⟩
def ty49:TyI:=⟨.slice 81,1,24,[.slice true []]⟩
theorem Jo7:Jl Tryz.prog 49 ty49:=.inr ⟨Tryz.t49,Jd Tryz.type49,rfl,rfl,⟨_,rfl,rfl,rfl⟩,_,Tryz.underlying49,rfl⟩
theorem JqA:Jm Tryz.prog 49 ty49:=.inr ⟨Tryz.t49,_,Jd Tryz.type49,rfl,rfl⟩
def ty51 : TyI := ⟨.struct [(0, 3, "Next"), (1, 49, "Snaps")], 2, 32, [.int .i64 0, .slice true []]⟩
theorem Jo9:Jl Tryz.prog 51 ty51:=.inr ⟨Tryz.t51,Jd Tryz.type51,rfl,rfl,⟨_,rfl,rfl,rfl⟩,_,Tryz.underlying51,rfl⟩
theorem JqC:Jm Tryz.prog 51 ty51:=.inr ⟨Tryz.t51,_,Jd Tryz.type51,rfl,rfl⟩
def ty53 : TyI := ⟨.struct [(0, 3, "Epoch"), (1, 3, "Turn"), (2, 4, "Up"), (3, 45, "In"), (8, 26, "Errs"), (12, 48, "W"), (16, 51, "P")], 18, 192, [.int .i64 0, .int .i64 0, .bool false, .int .i64 0, .int .i64 0, .int .i64 0, .int .i64 0, .int .i64 0, .int .i64 0, .int .i64 0, .int .i64 0, .int .i64 0, .int .i64 0, .slice true [], .bool false, .slice true [], .int .i64 0, .slice true []]⟩
theorem Jpa:Jl Tryz.prog 53 ty53:=.inr ⟨Tryz.t53,Jd Tryz.type53,rfl,rfl,⟨_,rfl,rfl,rfl⟩,_,Tryz.underlying53,rfl⟩
theorem JqD:Jm Tryz.prog 53 ty53:=.inr ⟨Tryz.t53,_,Jd Tryz.type53,rfl,rfl⟩
def ty55:TyI:=⟨.slice 60,1,24,[.slice true []]⟩
theorem Jpb:Jl Tryz.prog 55 ty55:=.inr ⟨Tryz.t55,Jd Tryz.type55,rfl,rfl,⟨_,rfl,rfl,rfl⟩,_,Tryz.underlying55,rfl⟩
theorem JqE:Jm Tryz.prog 55 ty55:=.inr ⟨Tryz.t55,_,Jd Tryz.type55,rfl,rfl⟩
def ty58:TyI:=⟨.slice 110,1,24,[.slice true []]⟩
theorem Jpc:Jl Tryz.prog 58 ty58:=.inr ⟨Tryz.t58,Jd Tryz.type58,rfl,rfl,⟨_,rfl,rfl,rfl⟩,_,Tryz.underlying58,rfl⟩
theorem JqF:Jm Tryz.prog 58 ty58:=.inr ⟨Tryz.t58,_,Jd Tryz.type58,rfl,rfl⟩
def ty59 : TyI := ⟨.struct [(0, 3, "Type"), (1, 3, "Epoch"), (2, 3, "Kind"), (3, 3, "Nonce"), (4, 3, "Turn"), (5, 27, "Adds"), (6, 37, "Gone"), (7, 25, "Err"), (8, 58, "Have"), (9, 37, "Held")], 10, 144, [.int .i64 0, .int .i64 0, .int .i64 0, .int .i64 0, .int .i64 0, .slice true [], .slice true [], .int .i64 0, .slice true [], .slice true []]⟩
theorem Jpd:Jl Tryz.prog 59 ty59:=.inr ⟨Tryz.t59,Jd Tryz.type59,rfl,rfl,⟨_,rfl,rfl,rfl⟩,_,Tryz.underlying59,rfl⟩
theorem JqG:Jm Tryz.prog 59 ty59:=.inr ⟨Tryz.t59,_,Jd Tryz.type59,rfl,rfl⟩
def ty60 : TyI := ⟨.struct [(0, 3, "Type"), (1, 3, "Epoch"), (2, 3, "Kind"), (3, 3, "Nonce"), (4, 3, "Turn"), (5, 27, "Adds"), (6, 37, "Gone"), (7, 25, "Err"), (8, 58, "Have"), (9, 37, "Held")], 10, 144, [.int .i64 0, .int .i64 0, .int .i64 0, .int .i64 0, .int .i64 0, .slice true [], .slice true [], .int .i64 0, .slice true [], .slice true []]⟩
theorem Jpf:Jl Tryz.prog 60 ty60:=.inr ⟨Tryz.t60,Jd Tryz.type60,rfl,rfl,⟨_,rfl,rfl,rfl⟩,_,Tryz.underlying60,rfl⟩
theorem JqI:Jm Tryz.prog 60 ty60:=.inr ⟨Tryz.t60,_,Jd Tryz.type60,rfl,rfl⟩
def ty62:TyI:=⟨.func,1,8,[.nilf]⟩
theorem Jpg:Jl Tryz.prog 62 ty62:=.inr ⟨Tryz.t62,Jd Tryz.type62,rfl,rfl,⟨_,rfl,rfl,rfl⟩,_,Tryz.underlying62,rfl⟩
theorem JqJ:Jm Tryz.prog 62 ty62:=.inr ⟨Tryz.t62,_,Jd Tryz.type62,rfl,rfl⟩
def ty68:TyI:=⟨.func,1,8,[.nilf]⟩
theorem Jph:Jl Tryz.prog 68 ty68:=.inr ⟨Tryz.t68,Jd Tryz.type68,rfl,rfl,⟨_,rfl,rfl,rfl⟩,_,Tryz.underlying68,rfl⟩
theorem JqK:Jm Tryz.prog 68 ty68:=.inr ⟨Tryz.t68,_,Jd Tryz.type68,rfl,rfl⟩
def ty74:TyI:=⟨.slice 3,1,24,[.slice true []]⟩
theorem Jpj:Jl Tryz.prog 74 ty74:=.inr ⟨Tryz.t74,Jd Tryz.type74,rfl,rfl,⟨_,rfl,rfl,rfl⟩,_,Tryz.underlying74,rfl⟩
theorem JqM:Jm Tryz.prog 74 ty74:=.inr ⟨Tryz.t74,_,Jd Tryz.type74,rfl,rfl⟩
def ty75:TyI:=⟨.slice 27,1,24,[.slice true []]⟩
theorem Jpk:Jl Tryz.prog 75 ty75:=.inr ⟨Tryz.t75,Jd Tryz.type75,rfl,rfl,⟨_,rfl,rfl,rfl⟩,_,Tryz.underlying75,rfl⟩
theorem JqN:Jm Tryz.prog 75 ty75:=.inr ⟨Tryz.t75,_,Jd Tryz.type75,rfl,rfl⟩
def ty76:TyI:=⟨.int .u64,1,8,[.int .u64 0]⟩
theorem Jpl:Jl Tryz.prog 76 ty76:=.inr ⟨Tryz.t76,Jd Tryz.type76,rfl,rfl,⟨_,rfl,rfl,rfl⟩,_,Tryz.underlying76,rfl⟩
theorem JqO:Jm Tryz.prog 76 ty76:=.inr ⟨Tryz.t76,_,Jd Tryz.type76,rfl,rfl⟩
def ty81 : TyI := ⟨.struct [(0, 3, "Id"), (1, 3, "Pins"), (2, 27, "L")], 3, 40, [.int .i64 0, .int .i64 0, .slice true []]⟩
theorem Jpn:Jl Tryz.prog 81 ty81:=.inr ⟨Tryz.t81,Jd Tryz.type81,rfl,rfl,⟨_,rfl,rfl,rfl⟩,_,Tryz.underlying81,rfl⟩
theorem JqQ:Jm Tryz.prog 81 ty81:=.inr ⟨Tryz.t81,_,Jd Tryz.type81,rfl,rfl⟩
def ty85:TyI:=⟨.slice 168,1,24,[.slice true []]⟩
theorem Jpo:Jl Tryz.prog 85 ty85:=.inr ⟨Tryz.t85,Jd Tryz.type85,rfl,rfl,⟨_,rfl,rfl,rfl⟩,_,Tryz.underlying85,rfl⟩
theorem JqR:Jm Tryz.prog 85 ty85:=.inr ⟨Tryz.t85,_,Jd Tryz.type85,rfl,rfl⟩
def ty87 : TyI := ⟨.struct [(0, 3, "Kind"), (1, 9, "Name"), (2, 3, "Ver"), (3, 3, "Port"), (4, 9, "To"), (5, 85, "Rules"), (6, 74, "Hosts")], 7, 104, [.int .i64 0, .str [], .int .i64 0, .int .i64 0, .str [], .slice true [], .slice true []]⟩
theorem Jpp:Jl Tryz.prog 87 ty87:=.inr ⟨Tryz.t87,Jd Tryz.type87,rfl,rfl,⟨_,rfl,rfl,rfl⟩,_,Tryz.underlying87,rfl⟩
theorem JqS:Jm Tryz.prog 87 ty87:=.inr ⟨Tryz.t87,_,Jd Tryz.type87,rfl,rfl⟩
def ty90 : TyI := ⟨.struct [(0, 3, "Kind"), (1, 9, "Name")], 2, 24, [.int .i64 0, .str []]⟩
theorem Jpr:Jl Tryz.prog 90 ty90:=.inr ⟨Tryz.t90,Jd Tryz.type90,rfl,rfl,⟨_,rfl,rfl,rfl⟩,_,Tryz.underlying90,rfl⟩
theorem JqU:Jm Tryz.prog 90 ty90:=.inr ⟨Tryz.t90,_,Jd Tryz.type90,rfl,rfl⟩
def ty95:TyI:=⟨.slice 25,1,24,[.slice true []]⟩
theorem Jps:Jl Tryz.prog 95 ty95:=.inr ⟨Tryz.t95,Jd Tryz.type95,rfl,rfl,⟨_,rfl,rfl,rfl⟩,_,Tryz.underlying95,rfl⟩
theorem JqV:Jm Tryz.prog 95 ty95:=.inr ⟨Tryz.t95,_,Jd Tryz.type95,rfl,rfl⟩
def ty96:TyI:=⟨.func,1,8,[.nilf]⟩
theorem Jpt:Jl Tryz.prog 96 ty96:=.inr ⟨Tryz.t96,Jd Tryz.type96,rfl,rfl,⟨_,rfl,rfl,rfl⟩,_,Tryz.underlying96,rfl⟩
theorem JqW:Jm Tryz.prog 96 ty96:=.inr ⟨Tryz.t96,_,Jd Tryz.type96,rfl,rfl⟩
def ty105:TyI:=⟨.func,1,8,[.nilf]⟩
theorem Jn3:Jl Tryz.prog 105 ty105:=.inr ⟨Tryz.t105,Jd Tryz.type105,rfl,rfl,⟨_,rfl,rfl,rfl⟩,_,Tryz.underlying105,rfl⟩
theorem Jpw:Jm Tryz.prog 105 ty105:=.inr ⟨Tryz.t105,_,Jd Tryz.type105,rfl,rfl⟩
def ty110 : TyI := ⟨.struct [(0, 90, "K"), (2, 3, "Ver")], 3, 32, [.int .i64 0, .str [], .int .i64 0]⟩
theorem Jn4:Jl Tryz.prog 110 ty110:=.inr ⟨Tryz.t110,Jd Tryz.type110,rfl,rfl,⟨_,rfl,rfl,rfl⟩,_,Tryz.underlying110,rfl⟩
theorem Jpx:Jm Tryz.prog 110 ty110:=.inr ⟨Tryz.t110,_,Jd Tryz.type110,rfl,rfl⟩
def ty116:TyI:=⟨.func,1,8,[.nilf]⟩
theorem Jn5:Jl Tryz.prog 116 ty116:=.inr ⟨Tryz.t116,Jd Tryz.type116,rfl,rfl,⟨_,rfl,rfl,rfl⟩,_,Tryz.underlying116,rfl⟩
theorem Jpy:Jm Tryz.prog 116 ty116:=.inr ⟨Tryz.t116,_,Jd Tryz.type116,rfl,rfl⟩
def ty132:TyI:=⟨.map 90 4,1,8,[.nilm]⟩
theorem Jn8:Jl Tryz.prog 132 ty132:=.inr ⟨Tryz.t132,Jd Tryz.type132,rfl,rfl,⟨_,rfl,rfl,rfl⟩,_,Tryz.underlying132,rfl⟩
theorem JpB:Jm Tryz.prog 132 ty132:=.inr ⟨Tryz.t132,_,Jd Tryz.type132,rfl,rfl⟩
def ty136:TyI:=⟨.func,1,8,[.nilf]⟩
theorem Jn9:Jl Tryz.prog 136 ty136:=.inr ⟨Tryz.t136,Jd Tryz.type136,rfl,rfl,⟨_,rfl,rfl,rfl⟩,_,Tryz.underlying136,rfl⟩
theorem JpC:Jm Tryz.prog 136 ty136:=.inr ⟨Tryz.t136,_,Jd Tryz.type136,rfl,rfl⟩
def ty139:TyI:=⟨.func,1,8,[.nilf]⟩
theorem Joa:Jl Tryz.prog 139 ty139:=.inr ⟨Tryz.t139,Jd Tryz.type139,rfl,rfl,⟨_,rfl,rfl,rfl⟩,_,Tryz.underlying139,rfl⟩
theorem JpD:Jm Tryz.prog 139 ty139:=.inr ⟨Tryz.t139,_,Jd Tryz.type139,rfl,rfl⟩
def ty140:TyI:=⟨.func,1,8,[.nilf]⟩
theorem Job:Jl Tryz.prog 140 ty140:=.inr ⟨Tryz.t140,Jd Tryz.type140,rfl,rfl,⟨_,rfl,rfl,rfl⟩,_,Tryz.underlying140,rfl⟩
theorem JpE:Jm Tryz.prog 140 ty140:=.inr ⟨Tryz.t140,_,Jd Tryz.type140,rfl,rfl⟩
def ty141 : TyI := ⟨.struct [(0, 3, "Id"), (1, 3, "Pins"), (2, 27, "L")], 3, 40, [.int .i64 0, .int .i64 0, .slice true []]⟩
theorem Joc:Jl Tryz.prog 141 ty141:=.inr ⟨Tryz.t141,Jd Tryz.type141,rfl,rfl,⟨_,rfl,rfl,rfl⟩,_,Tryz.underlying141,rfl⟩
theorem JpF:Jm Tryz.prog 141 ty141:=.inr ⟨Tryz.t141,_,Jd Tryz.type141,rfl,rfl⟩
def ty153:TyI:=⟨.array 4 4,4,4,[.bool false,.bool false,.bool false,.bool false]⟩
theorem Joe:Jl Tryz.prog 153 ty153:=.inr ⟨Tryz.t153,Jd Tryz.type153,rfl,rfl,⟨_,rfl,rfl,rfl⟩,_,Tryz.underlying153,rfl⟩
theorem JpH:Jm Tryz.prog 153 ty153:=.inr ⟨Tryz.t153,_,Jd Tryz.type153,rfl,rfl⟩
def ty155 : TyI := ⟨.struct [(0, 22, "Last"), (4, 153, "Open"), (8, 3, "Max")], 9, 48, [.int .i64 0, .int .i64 0, .int .i64 0, .int .i64 0, .bool false, .bool false, .bool false, .bool false, .int .i64 0]⟩
theorem Jof:Jl Tryz.prog 155 ty155:=.inr ⟨Tryz.t155,Jd Tryz.type155,rfl,rfl,⟨_,rfl,rfl,rfl⟩,_,Tryz.underlying155,rfl⟩
theorem JpI:Jm Tryz.prog 155 ty155:=.inr ⟨Tryz.t155,_,Jd Tryz.type155,rfl,rfl⟩
def ty161:TyI:=⟨.map 3 4,1,8,[.nilm]⟩
theorem Joh:Jl Tryz.prog 161 ty161:=.inr ⟨Tryz.t161,Jd Tryz.type161,rfl,rfl,⟨_,rfl,rfl,rfl⟩,_,Tryz.underlying161,rfl⟩
theorem JpK:Jm Tryz.prog 161 ty161:=.inr ⟨Tryz.t161,_,Jd Tryz.type161,rfl,rfl⟩
def ty166:TyI:=⟨.slice 170,1,24,[.slice true []]⟩
theorem Joi:Jl Tryz.prog 166 ty166:=.inr ⟨Tryz.t166,Jd Tryz.type166,rfl,rfl,⟨_,rfl,rfl,rfl⟩,_,Tryz.underlying166,rfl⟩
theorem JpL:Jm Tryz.prog 166 ty166:=.inr ⟨Tryz.t166,_,Jd Tryz.type166,rfl,rfl⟩
def ty168 : TyI := ⟨.struct [(0, 9, "Host"), (1, 9, "Prefix"), (2, 166, "Split")], 3, 56, [.str [], .str [], .slice true []]⟩
theorem Joj:Jl Tryz.prog 168 ty168:=.inr ⟨Tryz.t168,Jd Tryz.type168,rfl,rfl,⟨_,rfl,rfl,rfl⟩,_,Tryz.underlying168,rfl⟩
theorem JpM:Jm Tryz.prog 168 ty168:=.inr ⟨Tryz.t168,_,Jd Tryz.type168,rfl,rfl⟩
def ty170 : TyI := ⟨.struct [(0, 9, "Cluster"), (1, 3, "W")], 2, 24, [.str [], .int .i64 0]⟩
theorem Jol:Jl Tryz.prog 170 ty170:=.inr ⟨Tryz.t170,Jd Tryz.type170,rfl,rfl,⟨_,rfl,rfl,rfl⟩,_,Tryz.underlying170,rfl⟩
theorem JpO:Jm Tryz.prog 170 ty170:=.inr ⟨Tryz.t170,_,Jd Tryz.type170,rfl,rfl⟩
def ty176:TyI:=⟨.map 90 37,1,8,[.nilm]⟩
theorem Jom:Jl Tryz.prog 176 ty176:=.inr ⟨Tryz.t176,Jd Tryz.type176,rfl,rfl,⟨_,rfl,rfl,rfl⟩,_,Tryz.underlying176,rfl⟩
theorem JpP:Jm Tryz.prog 176 ty176:=.inr ⟨Tryz.t176,_,Jd Tryz.type176,rfl,rfl⟩
def ty178:TyI:=⟨.func,1,8,[.nilf]⟩
theorem Jon:Jl Tryz.prog 178 ty178:=.inr ⟨Tryz.t178,Jd Tryz.type178,rfl,rfl,⟨_,rfl,rfl,rfl⟩,_,Tryz.underlying178,rfl⟩
theorem JpQ:Jm Tryz.prog 178 ty178:=.inr ⟨Tryz.t178,_,Jd Tryz.type178,rfl,rfl⟩
def ty189 : TyI := ⟨.struct [(0, 48, "Warm"), (4, 4, "changed")], 5, 72, [.int .i64 0, .slice true [], .bool false, .slice true [], .bool false]⟩
theorem Joo:Jl Tryz.prog 189 ty189:=.inr ⟨Tryz.t189,Jd Tryz.type189,rfl,rfl,⟨_,rfl,rfl,rfl⟩,_,Tryz.underlying189,rfl⟩
theorem JpR:Jm Tryz.prog 189 ty189:=.inr ⟨Tryz.t189,_,Jd Tryz.type189,rfl,rfl⟩
def ty194:TyI:=⟨.func,1,8,[.nilf]⟩
theorem Jop:Jl Tryz.prog 194 ty194:=.inr ⟨Tryz.t194,Jd Tryz.type194,rfl,rfl,⟨_,rfl,rfl,rfl⟩,_,Tryz.underlying194,rfl⟩
theorem JpS:Jm Tryz.prog 194 ty194:=.inr ⟨Tryz.t194,_,Jd Tryz.type194,rfl,rfl⟩
def ty196:TyI:=⟨.func,1,8,[.nilf]⟩
theorem Joq:Jl Tryz.prog 196 ty196:=.inr ⟨Tryz.t196,Jd Tryz.type196,rfl,rfl,⟨_,rfl,rfl,rfl⟩,_,Tryz.underlying196,rfl⟩
theorem JpT:Jm Tryz.prog 196 ty196:=.inr ⟨Tryz.t196,_,Jd Tryz.type196,rfl,rfl⟩
def ty204:TyI:=⟨.int .i64,1,8,[.int .i64 0]⟩
theorem Jos:Jl Tryz.prog 204 ty204:=.inr ⟨Tryz.t204,Jd Tryz.type204,rfl,rfl,⟨_,rfl,rfl,rfl⟩,_,Tryz.underlying204,rfl⟩
theorem JpV:Jm Tryz.prog 204 ty204:=.inr ⟨Tryz.t204,_,Jd Tryz.type204,rfl,rfl⟩
def ty212:TyI:=⟨.int .u32,1,4,[.int .u32 0]⟩
theorem Jou:Jl Tryz.prog 212 ty212:=.inr ⟨Tryz.t212,Jd Tryz.type212,rfl,rfl,⟨_,rfl,rfl,rfl⟩,_,Tryz.underlying212,rfl⟩
theorem JpX:Jm Tryz.prog 212 ty212:=.inr ⟨Tryz.t212,_,Jd Tryz.type212,rfl,rfl⟩
def ty214:TyI:=⟨.int .u64,1,8,[.int .u64 0]⟩
theorem Jov:Jl Tryz.prog 214 ty214:=.inr ⟨Tryz.t214,Jd Tryz.type214,rfl,rfl,⟨_,rfl,rfl,rfl⟩,_,Tryz.underlying214,rfl⟩
theorem JpY:Jm Tryz.prog 214 ty214:=.inr ⟨Tryz.t214,_,Jd Tryz.type214,rfl,rfl⟩
def ty216 : TyI := ⟨.struct [(0, 25, "e")], 1, 8, [.int .i64 0]⟩
theorem Jow:Jl Tryz.prog 216 ty216:=.inr ⟨Tryz.t216,Jd Tryz.type216,rfl,rfl,⟨_,rfl,rfl,rfl⟩,_,Tryz.underlying216,rfl⟩
theorem JpZ:Jm Tryz.prog 216 ty216:=.inr ⟨Tryz.t216,_,Jd Tryz.type216,rfl,rfl⟩
def ty219:TyI:=⟨.func,1,8,[.nilf]⟩
theorem Jox:Jl Tryz.prog 219 ty219:=.inr ⟨Tryz.t219,Jd Tryz.type219,rfl,rfl,⟨_,rfl,rfl,rfl⟩,_,Tryz.underlying219,rfl⟩
theorem Jp0:Jm Tryz.prog 219 ty219:=.inr ⟨Tryz.t219,_,Jd Tryz.type219,rfl,rfl⟩
def ty226:TyI:=⟨.func,1,8,[.nilf]⟩
theorem Joz:Jl Tryz.prog 226 ty226:=.inr ⟨Tryz.t226,Jd Tryz.type226,rfl,rfl,⟨_,rfl,rfl,rfl⟩,_,Tryz.underlying226,rfl⟩
theorem Jp2:Jm Tryz.prog 226 ty226:=.inr ⟨Tryz.t226,_,Jd Tryz.type226,rfl,rfl⟩
def ty228 : TyI := ⟨.struct [(0, 4, "port"), (1, 4, "to"), (2, 4, "rules"), (3, 4, "hosts")], 4, 4, [.bool false, .bool false, .bool false, .bool false]⟩
theorem JoA:Jl Tryz.prog 228 ty228:=.inr ⟨Tryz.t228,Jd Tryz.type228,rfl,rfl,⟨_,rfl,rfl,rfl⟩,_,Tryz.underlying228,rfl⟩
theorem Jp3:Jm Tryz.prog 228 ty228:=.inr ⟨Tryz.t228,_,Jd Tryz.type228,rfl,rfl⟩
def ty232:TyI:=⟨.func,1,8,[.nilf]⟩
theorem JoB:Jl Tryz.prog 232 ty232:=.inr ⟨Tryz.t232,Jd Tryz.type232,rfl,rfl,⟨_,rfl,rfl,rfl⟩,_,Tryz.underlying232,rfl⟩
theorem Jp4:Jm Tryz.prog 232 ty232:=.inr ⟨Tryz.t232,_,Jd Tryz.type232,rfl,rfl⟩
def ty234:TyI:=⟨.int .u64,1,8,[.int .u64 0]⟩
theorem JoC:Jl Tryz.prog 234 ty234:=.inr ⟨Tryz.t234,Jd Tryz.type234,rfl,rfl,⟨_,rfl,rfl,rfl⟩,_,Tryz.underlying234,rfl⟩
theorem Jp5:Jm Tryz.prog 234 ty234:=.inr ⟨Tryz.t234,_,Jd Tryz.type234,rfl,rfl⟩
def ty238:TyI:=⟨.ptr 3,1,8,[.nilp]⟩
theorem JoD:Jl Tryz.prog 238 ty238:=.inr ⟨Tryz.t238,Jd Tryz.type238,rfl,rfl,⟨_,rfl,rfl,rfl⟩,_,Tryz.underlying238,rfl⟩
theorem Jp6:Jm Tryz.prog 238 ty238:=.inr ⟨Tryz.t238,_,Jd Tryz.type238,rfl,rfl⟩
def ty246:TyI:=⟨.ptr 234,1,8,[.nilp]⟩
theorem JoF:Jl Tryz.prog 246 ty246:=.inr ⟨Tryz.t246,Jd Tryz.type246,rfl,rfl,⟨_,rfl,rfl,rfl⟩,_,Tryz.underlying246,rfl⟩
theorem Jp8:Jm Tryz.prog 246 ty246:=.inr ⟨Tryz.t246,_,Jd Tryz.type246,rfl,rfl⟩
def ty269 : TyI := ⟨.struct [(0, 17, "_interface"), (1, 17, "concrete"), (2, 17, "asserted"), (3, 9, "missingMethod")], 4, 40, [.nilp, .nilp, .nilp, .str []]⟩
theorem JoI:Jl Tryz.prog 269 ty269:=.inr ⟨Tryz.t269,Jd Tryz.type269,rfl,rfl,⟨_,rfl,rfl,rfl⟩,_,Tryz.underlying269,rfl⟩
theorem Jqb:Jm Tryz.prog 269 ty269:=.inr ⟨Tryz.t269,_,Jd Tryz.type269,rfl,rfl⟩
def ty270:TyI:=⟨.array 0 16,0,0,[]⟩
theorem JoK:Jl Tryz.prog 270 ty270:=.inr ⟨Tryz.t270,Jd Tryz.type270,rfl,rfl,⟨_,rfl,rfl,rfl⟩,_,Tryz.underlying270,rfl⟩
theorem Jqd:Jm Tryz.prog 270 ty270:=.inr ⟨Tryz.t270,_,Jd Tryz.type270,rfl,rfl⟩
def ty272 : TyI := ⟨.struct [(0, 270, "_")], 0, 0, []⟩
theorem JoL:Jl Tryz.prog 272 ty272:=.inr ⟨Tryz.t272,Jd Tryz.type272,rfl,rfl,⟨_,rfl,rfl,rfl⟩,_,Tryz.underlying272,rfl⟩
theorem Jqe:Jm Tryz.prog 272 ty272:=.inr ⟨Tryz.t272,_,Jd Tryz.type272,rfl,rfl⟩
def ty273:TyI:=⟨.int .u8,1,1,[.int .u8 0]⟩
theorem JoM:Jl Tryz.prog 273 ty273:=.inr ⟨Tryz.t273,Jd Tryz.type273,rfl,rfl,⟨_,rfl,rfl,rfl⟩,_,Tryz.underlying273,rfl⟩
theorem Jqf:Jm Tryz.prog 273 ty273:=.inr ⟨Tryz.t273,_,Jd Tryz.type273,rfl,rfl⟩
def ty274:TyI:=⟨.int .u8,1,1,[.int .u8 0]⟩
theorem JoN:Jl Tryz.prog 274 ty274:=.inr ⟨Tryz.t274,Jd Tryz.type274,rfl,rfl,⟨_,rfl,rfl,rfl⟩,_,Tryz.underlying274,rfl⟩
theorem Jqg:Jm Tryz.prog 274 ty274:=.inr ⟨Tryz.t274,_,Jd Tryz.type274,rfl,rfl⟩
def ty275:TyI:=⟨.func,1,8,[.nilf]⟩
theorem JoO:Jl Tryz.prog 275 ty275:=.inr ⟨Tryz.t275,Jd Tryz.type275,rfl,rfl,⟨_,rfl,rfl,rfl⟩,_,Tryz.underlying275,rfl⟩
theorem Jqh:Jm Tryz.prog 275 ty275:=.inr ⟨Tryz.t275,_,Jd Tryz.type275,rfl,rfl⟩
def ty276:TyI:=⟨.ptr 5,1,8,[.nilp]⟩
theorem JoP:Jl Tryz.prog 276 ty276:=.inr ⟨Tryz.t276,Jd Tryz.type276,rfl,rfl,⟨_,rfl,rfl,rfl⟩,_,Tryz.underlying276,rfl⟩
theorem Jqi:Jm Tryz.prog 276 ty276:=.inr ⟨Tryz.t276,_,Jd Tryz.type276,rfl,rfl⟩
def ty277:TyI:=⟨.int .i32,1,4,[.int .i32 0]⟩
theorem JoQ:Jl Tryz.prog 277 ty277:=.inr ⟨Tryz.t277,Jd Tryz.type277,rfl,rfl,⟨_,rfl,rfl,rfl⟩,_,Tryz.underlying277,rfl⟩
theorem Jqj:Jm Tryz.prog 277 ty277:=.inr ⟨Tryz.t277,_,Jd Tryz.type277,rfl,rfl⟩
def ty278:TyI:=⟨.int .i32,1,4,[.int .i32 0]⟩
theorem JoR:Jl Tryz.prog 278 ty278:=.inr ⟨Tryz.t278,Jd Tryz.type278,rfl,rfl,⟨_,rfl,rfl,rfl⟩,_,Tryz.underlying278,rfl⟩
theorem Jqk:Jm Tryz.prog 278 ty278:=.inr ⟨Tryz.t278,_,Jd Tryz.type278,rfl,rfl⟩
def ty280 : TyI := ⟨.struct [(0, 12, "Size_"), (1, 12, "PtrBytes"), (2, 212, "Hash"), (3, 273, "TFlag"), (4, 5, "Align_"), (5, 5, "FieldAlign_"), (6, 274, "Kind_"), (7, 275, "Equal"), (8, 276, "GCData"), (9, 277, "Str"), (10, 278, "PtrToThis")], 11, 48, [.int .u64 0, .int .u64 0, .int .u32 0, .int .u8 0, .int .u8 0, .int .u8 0, .int .u8 0, .nilf, .nilp, .int .i32 0, .int .i32 0]⟩
theorem JoS:Jl Tryz.prog 280 ty280:=.inr ⟨Tryz.t280,Jd Tryz.type280,rfl,rfl,⟨_,rfl,rfl,rfl⟩,_,Tryz.underlying280,rfl⟩
theorem Jql:Jm Tryz.prog 280 ty280:=.inr ⟨Tryz.t280,_,Jd Tryz.type280,rfl,rfl⟩
def tyL:List (Nat×TyI):=[(1,ty1),(2,ty2),(3,ty3),(4,ty4),(5,ty5),(6,ty6),(7,ty7),(8,ty8),(9,ty9),(10,ty10),(12,ty12),(13,ty13),(15,ty15),(16,ty16),(17,ty17),(21,ty21),(22,ty22),(24,ty24),(25,ty25),(26,ty26),(27,ty27),(29,ty29),(30,ty30),(31,ty31),(32,ty32),(34,ty34),(36,ty36),(37,ty37),(43,ty43),(45,ty45),(46,ty46),(47,ty47),(48,ty48),(49,ty49),(51,ty51),(53,ty53),(55,ty55),(58,ty58),(59,ty59),(60,ty60),(62,ty62),(68,ty68),(74,ty74),(75,ty75),(76,ty76),(81,ty81),(85,ty85),(87,ty87),(90,ty90),(95,ty95),(96,ty96),(105,ty105),(110,ty110),(116,ty116),(132,ty132),(136,ty136),(139,ty139),(140,ty140),(141,ty141),(153,ty153),(155,ty155),(161,ty161),(166,ty166),(168,ty168),(170,ty170),(176,ty176),(178,ty178),(189,ty189),(194,ty194),(196,ty196),(204,ty204),(212,ty212),(214,ty214),(216,ty216),(219,ty219),(226,ty226),(228,ty228),(232,ty232),(234,ty234),(238,ty238),(246,ty246),(269,ty269),(270,ty270),(272,ty272),(273,ty273),(274,ty274),(275,ty275),(276,ty276),(277,ty277),(278,ty278),(280,ty280)]
def Jev(P:Program):List (Nat×TyI)→Prop
 | []=>True
 |p :: r=>Jm P p.1 p.2∧Jev P r
def Jeu(P:Program):List (Nat×TyI)→Prop
 | []=>True
 |p :: r=>Jl P p.1 p.2∧Jeu P r
def Jc4(l:List (Nat×TyI))(t:Nat):TyI:=(l.lookup t).getD ⟨.unk,0,0,[]⟩
theorem Jgb{P:Program}:∀(l:List (Nat×TyI)),Jeu P l→∀t,Jl P t (Jc4 l t)
 | [],_,t=>.inl rfl
 | (i,x) :: r,h,t=>by
  unfold Jc4
  by_cases e:t=i
  ·subst e;simpa[List.lookup] using h.1
  ·have e':(t == i)=false:=by simpa using e
   have:((i,x) :: r).lookup t=r.lookup t:=by simp[List.lookup,e']
   rw[this];exact Jgb r h.2 t
theorem Jgc{P:Program}:∀(l:List (Nat×TyI)),Jev P l→∀t,Jm P t (Jc4 l t)
 | [],_,t=>.inl rfl
 | (i,x) :: r,h,t=>by
  unfold Jc4
  by_cases e:t=i
  ·subst e;simpa[List.lookup] using h.1
  ·have e':(t == i)=false:=by simpa using e
   have:((i,x) :: r).lookup t=r.lookup t:=by simp[List.lookup,e']
   rw[this];exact Jgc r h.2 t
theorem Jn0:Jev Tryz.prog tyL:=⟨Jpu,JpU,Jqn,Jqu,JqB,JqH,JqL,JqP,JqT,Jpv,Jpz,JpA,JpG,JpJ,JpN,JpW,Jp1,Jp7,Jp9,Jqa,Jqc,Jqm,Jqo,Jqp,Jqq,Jqr,Jqs,Jqt,Jqv,Jqw,Jqx,Jqy,Jqz,JqA,JqC,JqD,JqE,JqF,JqG,JqI,JqJ,JqK,JqM,JqN,JqO,JqQ,JqR,JqS,JqU,JqV,JqW,Jpw,Jpx,Jpy,JpB,JpC,JpD,JpE,JpF,JpH,JpI,JpK,JpL,JpM,JpO,JpP,JpQ,JpR,JpS,JpT,JpV,JpX,JpY,JpZ,Jp0,Jp2,Jp3,Jp4,Jp5,Jp6,Jp8,Jqb,Jqd,Jqe,Jqf,Jqg,Jqh,Jqi,Jqj,Jqk,Jql,trivial⟩
theorem JnZ:Jeu Tryz.prog tyL:=⟨Jn1,Jor,JoU,Jo1,Jo8,Jpe,Jpi,Jpm,Jpq,Jn2,Jn6,Jn7,Jod,Jog,Jok,Jot,Joy,JoE,JoG,JoH,JoJ,JoT,JoV,JoW,JoX,JoY,JoZ,Jo0,Jo2,Jo3,Jo4,Jo5,Jo6,Jo7,Jo9,Jpa,Jpb,Jpc,Jpd,Jpf,Jpg,Jph,Jpj,Jpk,Jpl,Jpn,Jpo,Jpp,Jpr,Jps,Jpt,Jn3,Jn4,Jn5,Jn8,Jn9,Joa,Job,Joc,Joe,Jof,Joh,Joi,Joj,Jol,Jom,Jon,Joo,Jop,Joq,Jos,Jou,Jov,Jow,Jox,Joz,JoA,JoB,JoC,JoD,JoF,JoI,JoK,JoL,JoM,JoN,JoO,JoP,JoQ,JoR,JoS,trivial⟩
def T:Tys Tryz.prog:=⟨Jc4 tyL,Jgb tyL JnZ,Jgc tyL Jn0,fun _=>false⟩
@[go_sem] theorem JxL(d:Nat):T.fz d=false:=rfl
@[go_sem] theorem T_1:T.ty 1=ty1:=rfl
@[go_sem] theorem k_1:ty1.k=.func:=rfl
@[go_sem] theorem JHA:ty1.sz=1:=rfl
@[go_sem] theorem JtU:ty1.bytes=8:=rfl
@[go_sem] theorem JK0:ty1.zero=[.nilf]:=rfl
@[go_sem] theorem T_2:T.ty 2=ty2:=rfl
@[go_sem] theorem k_2:ty2.k=.int .i64:=rfl
@[go_sem] theorem JH0:ty2.sz=1:=rfl
@[go_sem] theorem Juk:ty2.bytes=8:=rfl
@[go_sem] theorem JLq:ty2.zero=[.int .i64 0]:=rfl
@[go_sem] theorem T_3:T.ty 3=ty3:=rfl
@[go_sem] theorem k_3:ty3.k=.int .i64:=rfl
@[go_sem] theorem JIt:ty3.sz=1:=rfl
@[go_sem] theorem JuN:ty3.bytes=8:=rfl
@[go_sem] theorem JLT:ty3.zero=[.int .i64 0]:=rfl
@[go_sem] theorem T_4:T.ty 4=ty4:=rfl
@[go_sem] theorem k_4:ty4.k=.bool:=rfl
@[go_sem] theorem JIA:ty4.sz=1:=rfl
@[go_sem] theorem JuU:ty4.bytes=1:=rfl
@[go_sem] theorem JL0:ty4.zero=[.bool false]:=rfl
@[go_sem] theorem T_5:T.ty 5=ty5:=rfl
@[go_sem] theorem k_5:ty5.k=.int .u8:=rfl
@[go_sem] theorem JIH:ty5.sz=1:=rfl
@[go_sem] theorem Ju1:ty5.bytes=1:=rfl
@[go_sem] theorem JL7:ty5.zero=[.int .u8 0]:=rfl
@[go_sem] theorem T_6:T.ty 6=ty6:=rfl
@[go_sem] theorem k_6:ty6.k=.int .u8:=rfl
@[go_sem] theorem JIN:ty6.sz=1:=rfl
@[go_sem] theorem Ju7:ty6.bytes=1:=rfl
@[go_sem] theorem JMd:ty6.zero=[.int .u8 0]:=rfl
@[go_sem] theorem T_7:T.ty 7=ty7:=rfl
@[go_sem] theorem k_7 : ty7.k = .struct [(0, 2, "x"), (1, 3, "y"), (2, 4, "signed"), (3, 6, "code")] := rfl
@[go_sem] theorem JIR:ty7.sz=4:=rfl
@[go_sem] theorem Jvb:ty7.bytes=24:=rfl
@[go_sem] theorem JMh:ty7.zero=[.int .i64 0,.int .i64 0,.bool false,.int .u8 0]:=rfl
@[go_sem] theorem T_8:T.ty 8=ty8:=rfl
@[go_sem] theorem k_8 : ty8.k = .struct [(0, 2, "x"), (1, 3, "y"), (2, 4, "signed"), (3, 6, "code")] := rfl
@[go_sem] theorem JIV:ty8.sz=4:=rfl
@[go_sem] theorem Jvf:ty8.bytes=24:=rfl
@[go_sem] theorem JMl:ty8.zero=[.int .i64 0,.int .i64 0,.bool false,.int .u8 0]:=rfl
@[go_sem] theorem T_9:T.ty 9=ty9:=rfl
@[go_sem] theorem k_9:ty9.k=.str:=rfl
@[go_sem] theorem JIZ:ty9.sz=1:=rfl
@[go_sem] theorem Jvj:ty9.bytes=16:=rfl
@[go_sem] theorem JMp:ty9.zero=[.str []]:=rfl
@[go_sem] theorem Jre:T.ty 10=ty10:=rfl
@[go_sem] theorem Jyf:ty10.k=.str:=rfl
@[go_sem] theorem JHB:ty10.sz=1:=rfl
@[go_sem] theorem JtV:ty10.bytes=16:=rfl
@[go_sem] theorem JK1:ty10.zero=[.str []]:=rfl
@[go_sem] theorem Jri:T.ty 12=ty12:=rfl
@[go_sem] theorem Jyj:ty12.k=.int .u64:=rfl
@[go_sem] theorem JHF:ty12.sz=1:=rfl
@[go_sem] theorem JtZ:ty12.bytes=8:=rfl
@[go_sem] theorem JK5:ty12.zero=[.int .u64 0]:=rfl
@[go_sem] theorem Jrj:T.ty 13=ty13:=rfl
@[go_sem] theorem Jyk : ty13.k = .struct [(0, 9, "msg"), (1, 12, "addr")] := rfl
@[go_sem] theorem JHG:ty13.sz=2:=rfl
@[go_sem] theorem Jt0:ty13.bytes=24:=rfl
@[go_sem] theorem JK6:ty13.zero=[.str [],.int .u64 0]:=rfl
@[go_sem] theorem Jrp:T.ty 15=ty15:=rfl
@[go_sem] theorem Jyq:ty15.k=.ptr 269:=rfl
@[go_sem] theorem JHM:ty15.sz=1:=rfl
@[go_sem] theorem Jt6:ty15.bytes=8:=rfl
@[go_sem] theorem JLc:ty15.zero=[.nilp]:=rfl
@[go_sem] theorem Jrs:T.ty 16=ty16:=rfl
@[go_sem] theorem Jyt:ty16.k=.ptr 272:=rfl
@[go_sem] theorem JHP:ty16.sz=1:=rfl
@[go_sem] theorem Jt9:ty16.bytes=8:=rfl
@[go_sem] theorem JLf:ty16.zero=[.nilp]:=rfl
@[go_sem] theorem Jrw:T.ty 17=ty17:=rfl
@[go_sem] theorem Jyx:ty17.k=.ptr 280:=rfl
@[go_sem] theorem JHT:ty17.sz=1:=rfl
@[go_sem] theorem Jud:ty17.bytes=8:=rfl
@[go_sem] theorem JLj:ty17.zero=[.nilp]:=rfl
@[go_sem] theorem JrF:T.ty 21=ty21:=rfl
@[go_sem] theorem JyG:ty21.k=.int .i32:=rfl
@[go_sem] theorem JH2:ty21.sz=1:=rfl
@[go_sem] theorem Jum:ty21.bytes=4:=rfl
@[go_sem] theorem JLs:ty21.zero=[.int .i32 0]:=rfl
@[go_sem] theorem JrK:T.ty 22=ty22:=rfl
@[go_sem] theorem JyL:ty22.k=.array 4 3:=rfl
@[go_sem] theorem JH7:ty22.sz=4:=rfl
@[go_sem] theorem Jur:ty22.bytes=32:=rfl
@[go_sem] theorem JLx:ty22.zero=[.int .i64 0,.int .i64 0,.int .i64 0,.int .i64 0]:=rfl
@[go_sem] theorem JrQ:T.ty 24=ty24:=rfl
@[go_sem] theorem JyR : ty24.k = .struct [(0, 22, "Last"), (4, 3, "Max")] := rfl
@[go_sem] theorem JId:ty24.sz=5:=rfl
@[go_sem] theorem Jux:ty24.bytes=40:=rfl
@[go_sem] theorem JLD:ty24.zero=[.int .i64 0,.int .i64 0,.int .i64 0,.int .i64 0,.int .i64 0]:=rfl
@[go_sem] theorem JrS:T.ty 25=ty25:=rfl
@[go_sem] theorem JyT:ty25.k=.int .i64:=rfl
@[go_sem] theorem JIf:ty25.sz=1:=rfl
@[go_sem] theorem Juz:ty25.bytes=8:=rfl
@[go_sem] theorem JLF:ty25.zero=[.int .i64 0]:=rfl
@[go_sem] theorem JrT:T.ty 26=ty26:=rfl
@[go_sem] theorem JyU:ty26.k=.array 4 25:=rfl
@[go_sem] theorem JIg:ty26.sz=4:=rfl
@[go_sem] theorem JuA:ty26.bytes=32:=rfl
@[go_sem] theorem JLG:ty26.zero=[.int .i64 0,.int .i64 0,.int .i64 0,.int .i64 0]:=rfl
@[go_sem] theorem JrV:T.ty 27=ty27:=rfl
@[go_sem] theorem JyW:ty27.k=.slice 87:=rfl
@[go_sem] theorem JIi:ty27.sz=1:=rfl
@[go_sem] theorem JuC:ty27.bytes=24:=rfl
@[go_sem] theorem JLI:ty27.zero=[.slice true []]:=rfl
@[go_sem] theorem Jr5:T.ty 29=ty29:=rfl
@[go_sem] theorem Jy6 : ty29.k = .struct [(0, 3, "Cap"), (1, 27, "L")] := rfl
@[go_sem] theorem JIs:ty29.sz=2:=rfl
@[go_sem] theorem JuM:ty29.bytes=32:=rfl
@[go_sem] theorem JLS:ty29.zero=[.int .i64 0,.slice true []]:=rfl
@[go_sem] theorem Jr7:T.ty 30=ty30:=rfl
@[go_sem] theorem Jy8 : ty30.k = .struct [(0, 29, "C"), (2, 4, "Ready"), (3, 27, "Shown")] := rfl
@[go_sem] theorem JIu:ty30.sz=4:=rfl
@[go_sem] theorem JuO:ty30.bytes=64:=rfl
@[go_sem] theorem JLU:ty30.zero=[.int .i64 0,.slice true [],.bool false,.slice true []]:=rfl
@[go_sem] theorem Jr8:T.ty 31=ty31:=rfl
@[go_sem] theorem Jy9 : ty31.k = .struct [(0, 29, "C"), (2, 4, "Ready"), (3, 27, "Shown")] := rfl
@[go_sem] theorem JIv:ty31.sz=4:=rfl
@[go_sem] theorem JuP:ty31.bytes=64:=rfl
@[go_sem] theorem JLV:ty31.zero=[.int .i64 0,.slice true [],.bool false,.slice true []]:=rfl
@[go_sem] theorem Jr9:T.ty 32=ty32:=rfl
@[go_sem] theorem Jza:ty32.k=.slice 141:=rfl
@[go_sem] theorem JIw:ty32.sz=1:=rfl
@[go_sem] theorem JuQ:ty32.bytes=24:=rfl
@[go_sem] theorem JLW:ty32.zero=[.slice true []]:=rfl
@[go_sem] theorem Jsa:T.ty 34=ty34:=rfl
@[go_sem] theorem Jzb : ty34.k = .struct [(0, 3, "Next"), (1, 32, "Snaps")] := rfl
@[go_sem] theorem JIx:ty34.sz=2:=rfl
@[go_sem] theorem JuR:ty34.bytes=32:=rfl
@[go_sem] theorem JLX:ty34.zero=[.int .i64 0,.slice true []]:=rfl
@[go_sem] theorem Jsb:T.ty 36=ty36:=rfl
@[go_sem] theorem Jzc : ty36.k = .struct [(0, 3, "Epoch"), (1, 3, "Turn"), (2, 4, "Up"), (3, 24, "In"), (8, 26, "Errs"), (12, 31, "W"), (16, 34, "P")] := rfl
@[go_sem] theorem JIy:ty36.sz=18:=rfl
@[go_sem] theorem JuS:ty36.bytes=192:=rfl
@[go_sem] theorem JLY:ty36.zero=[.int .i64 0,.int .i64 0,.bool false,.int .i64 0,.int .i64 0,.int .i64 0,.int .i64 0,.int .i64 0,.int .i64 0,.int .i64 0,.int .i64 0,.int .i64 0,.int .i64 0,.slice true [],.bool false,.slice true [],.int .i64 0,.slice true []]:=rfl
@[go_sem] theorem Jsc:T.ty 37=ty37:=rfl
@[go_sem] theorem Jzd:ty37.k=.slice 90:=rfl
@[go_sem] theorem JIz:ty37.sz=1:=rfl
@[go_sem] theorem JuT:ty37.bytes=24:=rfl
@[go_sem] theorem JLZ:ty37.zero=[.slice true []]:=rfl
@[go_sem] theorem Jse:T.ty 43=ty43:=rfl
@[go_sem] theorem Jzf:ty43.k=.func:=rfl
@[go_sem] theorem JIB:ty43.sz=1:=rfl
@[go_sem] theorem JuV:ty43.bytes=8:=rfl
@[go_sem] theorem JL1:ty43.zero=[.nilf]:=rfl
@[go_sem] theorem Jsf:T.ty 45=ty45:=rfl
@[go_sem] theorem Jzg : ty45.k = .struct [(0, 22, "Last"), (4, 3, "Max")] := rfl
@[go_sem] theorem JIC:ty45.sz=5:=rfl
@[go_sem] theorem JuW:ty45.bytes=40:=rfl
@[go_sem] theorem JL2:ty45.zero=[.int .i64 0,.int .i64 0,.int .i64 0,.int .i64 0,.int .i64 0]:=rfl
@[go_sem] theorem Jsg:T.ty 46=ty46:=rfl
@[go_sem] theorem Jzh : ty46.k = .struct [(0, 3, "Cap"), (1, 27, "L")] := rfl
@[go_sem] theorem JID:ty46.sz=2:=rfl
@[go_sem] theorem JuX:ty46.bytes=32:=rfl
@[go_sem] theorem JL3:ty46.zero=[.int .i64 0,.slice true []]:=rfl
@[go_sem] theorem Jsh:T.ty 47=ty47:=rfl
@[go_sem] theorem Jzi : ty47.k = .struct [(0, 46, "C"), (2, 4, "Ready"), (3, 27, "Shown")] := rfl
@[go_sem] theorem JIE:ty47.sz=4:=rfl
@[go_sem] theorem JuY:ty47.bytes=64:=rfl
@[go_sem] theorem JL4:ty47.zero=[.int .i64 0,.slice true [],.bool false,.slice true []]:=rfl
@[go_sem] theorem Jsi:T.ty 48=ty48:=rfl
@[go_sem] theorem Jzj : ty48.k = .struct [(0, 46, "C"), (2, 4, "Ready"), (3, 27, "Shown")] := rfl
@[go_sem] theorem JIF:ty48.sz=4:=rfl
@[go_sem] theorem JuZ:ty48.bytes=64:=rfl
@[go_sem] theorem JL5:ty48.zero=[.int .i64 0,.slice true [],.bool false,.slice true []]:=rfl
@[go_sem] theorem Jsj:T.ty 49=ty49:=rfl
@[go_sem] theorem Jzk:ty49.k=.slice 81:=rfl
@[go_sem] theorem JIG:ty49.sz=1:=rfl
@[go_sem] theorem Ju0:ty49.bytes=24:=rfl
@[go_sem] theorem JL6:ty49.zero=[.slice true []]:=rfl
@[go_sem] theorem Jsl:T.ty 51=ty51:=rfl
@[go_sem] theorem Jzm : ty51.k = .struct [(0, 3, "Next"), (1, 49, "Snaps")] := rfl
@[go_sem] theorem JII:ty51.sz=2:=rfl
@[go_sem] theorem Ju2:ty51.bytes=32:=rfl
@[go_sem] theorem JL8:ty51.zero=[.int .i64 0,.slice true []]:=rfl
@[go_sem] theorem Jsm:T.ty 53=ty53:=rfl
@[go_sem] theorem Jzn : ty53.k = .struct [(0, 3, "Epoch"), (1, 3, "Turn"), (2, 4, "Up"), (3, 45, "In"), (8, 26, "Errs"), (12, 48, "W"), (16, 51, "P")] := rfl
@[go_sem] theorem JIJ:ty53.sz=18:=rfl
@[go_sem] theorem Ju3:ty53.bytes=192:=rfl
@[go_sem] theorem JL9:ty53.zero=[.int .i64 0,.int .i64 0,.bool false,.int .i64 0,.int .i64 0,.int .i64 0,.int .i64 0,.int .i64 0,.int .i64 0,.int .i64 0,.int .i64 0,.int .i64 0,.int .i64 0,.slice true [],.bool false,.slice true [],.int .i64 0,.slice true []]:=rfl
@[go_sem] theorem Jsn:T.ty 55=ty55:=rfl
@[go_sem] theorem Jzo:ty55.k=.slice 60:=rfl
@[go_sem] theorem JIK:ty55.sz=1:=rfl
@[go_sem] theorem Ju4:ty55.bytes=24:=rfl
@[go_sem] theorem JMa:ty55.zero=[.slice true []]:=rfl
@[go_sem] theorem Jso:T.ty 58=ty58:=rfl
@[go_sem] theorem Jzp:ty58.k=.slice 110:=rfl
@[go_sem] theorem JIL:ty58.sz=1:=rfl
@[go_sem] theorem Ju5:ty58.bytes=24:=rfl
@[go_sem] theorem JMb:ty58.zero=[.slice true []]:=rfl
@[go_sem] theorem Jsp:T.ty 59=ty59:=rfl
@[go_sem] theorem Jzq : ty59.k = .struct [(0, 3, "Type"), (1, 3, "Epoch"), (2, 3, "Kind"), (3, 3, "Nonce"), (4, 3, "Turn"), (5, 27, "Adds"), (6, 37, "Gone"), (7, 25, "Err"), (8, 58, "Have"), (9, 37, "Held")] := rfl
@[go_sem] theorem JIM:ty59.sz=10:=rfl
@[go_sem] theorem Ju6:ty59.bytes=144:=rfl
@[go_sem] theorem JMc:ty59.zero=[.int .i64 0,.int .i64 0,.int .i64 0,.int .i64 0,.int .i64 0,.slice true [],.slice true [],.int .i64 0,.slice true [],.slice true []]:=rfl
@[go_sem] theorem Jsr:T.ty 60=ty60:=rfl
@[go_sem] theorem Jzs : ty60.k = .struct [(0, 3, "Type"), (1, 3, "Epoch"), (2, 3, "Kind"), (3, 3, "Nonce"), (4, 3, "Turn"), (5, 27, "Adds"), (6, 37, "Gone"), (7, 25, "Err"), (8, 58, "Have"), (9, 37, "Held")] := rfl
@[go_sem] theorem JIO:ty60.sz=10:=rfl
@[go_sem] theorem Ju8:ty60.bytes=144:=rfl
@[go_sem] theorem JMe:ty60.zero=[.int .i64 0,.int .i64 0,.int .i64 0,.int .i64 0,.int .i64 0,.slice true [],.slice true [],.int .i64 0,.slice true [],.slice true []]:=rfl
@[go_sem] theorem Jss:T.ty 62=ty62:=rfl
@[go_sem] theorem Jzt:ty62.k=.func:=rfl
@[go_sem] theorem JIP:ty62.sz=1:=rfl
@[go_sem] theorem Ju9:ty62.bytes=8:=rfl
@[go_sem] theorem JMf:ty62.zero=[.nilf]:=rfl
@[go_sem] theorem Jst:T.ty 68=ty68:=rfl
@[go_sem] theorem Jzu:ty68.k=.func:=rfl
@[go_sem] theorem JIQ:ty68.sz=1:=rfl
@[go_sem] theorem Jva:ty68.bytes=8:=rfl
@[go_sem] theorem JMg:ty68.zero=[.nilf]:=rfl
@[go_sem] theorem Jsv:T.ty 74=ty74:=rfl
@[go_sem] theorem Jzw:ty74.k=.slice 3:=rfl
@[go_sem] theorem JIS:ty74.sz=1:=rfl
@[go_sem] theorem Jvc:ty74.bytes=24:=rfl
@[go_sem] theorem JMi:ty74.zero=[.slice true []]:=rfl
@[go_sem] theorem Jsw:T.ty 75=ty75:=rfl
@[go_sem] theorem Jzx:ty75.k=.slice 27:=rfl
@[go_sem] theorem JIT:ty75.sz=1:=rfl
@[go_sem] theorem Jvd:ty75.bytes=24:=rfl
@[go_sem] theorem JMj:ty75.zero=[.slice true []]:=rfl
@[go_sem] theorem Jsx:T.ty 76=ty76:=rfl
@[go_sem] theorem Jzy:ty76.k=.int .u64:=rfl
@[go_sem] theorem JIU:ty76.sz=1:=rfl
@[go_sem] theorem Jve:ty76.bytes=8:=rfl
@[go_sem] theorem JMk:ty76.zero=[.int .u64 0]:=rfl
@[go_sem] theorem Jsz:T.ty 81=ty81:=rfl
@[go_sem] theorem JzA : ty81.k = .struct [(0, 3, "Id"), (1, 3, "Pins"), (2, 27, "L")] := rfl
@[go_sem] theorem JIW:ty81.sz=3:=rfl
@[go_sem] theorem Jvg:ty81.bytes=40:=rfl
@[go_sem] theorem JMm:ty81.zero=[.int .i64 0,.int .i64 0,.slice true []]:=rfl
@[go_sem] theorem JsA:T.ty 85=ty85:=rfl
@[go_sem] theorem JzB:ty85.k=.slice 168:=rfl
@[go_sem] theorem JIX:ty85.sz=1:=rfl
@[go_sem] theorem Jvh:ty85.bytes=24:=rfl
@[go_sem] theorem JMn:ty85.zero=[.slice true []]:=rfl
@[go_sem] theorem JsB:T.ty 87=ty87:=rfl
@[go_sem] theorem JzC : ty87.k = .struct [(0, 3, "Kind"), (1, 9, "Name"), (2, 3, "Ver"), (3, 3, "Port"), (4, 9, "To"), (5, 85, "Rules"), (6, 74, "Hosts")] := rfl
@[go_sem] theorem JIY:ty87.sz=7:=rfl
@[go_sem] theorem Jvi:ty87.bytes=104:=rfl
@[go_sem] theorem JMo:ty87.zero=[.int .i64 0,.str [],.int .i64 0,.int .i64 0,.str [],.slice true [],.slice true []]:=rfl
@[go_sem] theorem JsD:T.ty 90=ty90:=rfl
@[go_sem] theorem JzE : ty90.k = .struct [(0, 3, "Kind"), (1, 9, "Name")] := rfl
@[go_sem] theorem JI0:ty90.sz=2:=rfl
@[go_sem] theorem Jvk:ty90.bytes=24:=rfl
@[go_sem] theorem JMq:ty90.zero=[.int .i64 0,.str []]:=rfl
@[go_sem] theorem JsE:T.ty 95=ty95:=rfl
@[go_sem] theorem JzF:ty95.k=.slice 25:=rfl
@[go_sem] theorem JI1:ty95.sz=1:=rfl
@[go_sem] theorem Jvl:ty95.bytes=24:=rfl
@[go_sem] theorem JMr:ty95.zero=[.slice true []]:=rfl
@[go_sem] theorem JsF:T.ty 96=ty96:=rfl
@[go_sem] theorem JzG:ty96.k=.func:=rfl
@[go_sem] theorem JI2:ty96.sz=1:=rfl
@[go_sem] theorem Jvm:ty96.bytes=8:=rfl
@[go_sem] theorem JMs:ty96.zero=[.nilf]:=rfl
@[go_sem] theorem Jrf:T.ty 105=ty105:=rfl
@[go_sem] theorem Jyg:ty105.k=.func:=rfl
@[go_sem] theorem JHC:ty105.sz=1:=rfl
@[go_sem] theorem JtW:ty105.bytes=8:=rfl
@[go_sem] theorem JK2:ty105.zero=[.nilf]:=rfl
@[go_sem] theorem Jrg:T.ty 110=ty110:=rfl
@[go_sem] theorem Jyh : ty110.k = .struct [(0, 90, "K"), (2, 3, "Ver")] := rfl
@[go_sem] theorem JHD:ty110.sz=3:=rfl
@[go_sem] theorem JtX:ty110.bytes=32:=rfl
@[go_sem] theorem JK3:ty110.zero=[.int .i64 0,.str [],.int .i64 0]:=rfl
@[go_sem] theorem Jrh:T.ty 116=ty116:=rfl
@[go_sem] theorem Jyi:ty116.k=.func:=rfl
@[go_sem] theorem JHE:ty116.sz=1:=rfl
@[go_sem] theorem JtY:ty116.bytes=8:=rfl
@[go_sem] theorem JK4:ty116.zero=[.nilf]:=rfl
@[go_sem] theorem Jrk:T.ty 132=ty132:=rfl
@[go_sem] theorem Jyl:ty132.k=.map 90 4:=rfl
@[go_sem] theorem JHH:ty132.sz=1:=rfl
@[go_sem] theorem Jt1:ty132.bytes=8:=rfl
@[go_sem] theorem JK7:ty132.zero=[.nilm]:=rfl
@[go_sem] theorem Jrl:T.ty 136=ty136:=rfl
@[go_sem] theorem Jym:ty136.k=.func:=rfl
@[go_sem] theorem JHI:ty136.sz=1:=rfl
@[go_sem] theorem Jt2:ty136.bytes=8:=rfl
@[go_sem] theorem JK8:ty136.zero=[.nilf]:=rfl
@[go_sem] theorem Jrm:T.ty 139=ty139:=rfl
@[go_sem] theorem Jyn:ty139.k=.func:=rfl
@[go_sem] theorem JHJ:ty139.sz=1:=rfl
@[go_sem] theorem Jt3:ty139.bytes=8:=rfl
@[go_sem] theorem JK9:ty139.zero=[.nilf]:=rfl
@[go_sem] theorem Jrn:T.ty 140=ty140:=rfl
@[go_sem] theorem Jyo:ty140.k=.func:=rfl
@[go_sem] theorem JHK:ty140.sz=1:=rfl
@[go_sem] theorem Jt4:ty140.bytes=8:=rfl
@[go_sem] theorem JLa:ty140.zero=[.nilf]:=rfl
@[go_sem] theorem Jro:T.ty 141=ty141:=rfl
@[go_sem] theorem Jyp : ty141.k = .struct [(0, 3, "Id"), (1, 3, "Pins"), (2, 27, "L")] := rfl
@[go_sem] theorem JHL:ty141.sz=3:=rfl
@[go_sem] theorem Jt5:ty141.bytes=40:=rfl
@[go_sem] theorem JLb:ty141.zero=[.int .i64 0,.int .i64 0,.slice true []]:=rfl
@[go_sem] theorem Jrq:T.ty 153=ty153:=rfl
@[go_sem] theorem Jyr:ty153.k=.array 4 4:=rfl
@[go_sem] theorem JHN:ty153.sz=4:=rfl
@[go_sem] theorem Jt7:ty153.bytes=4:=rfl
@[go_sem] theorem JLd:ty153.zero=[.bool false,.bool false,.bool false,.bool false]:=rfl
@[go_sem] theorem Jrr:T.ty 155=ty155:=rfl
@[go_sem] theorem Jys : ty155.k = .struct [(0, 22, "Last"), (4, 153, "Open"), (8, 3, "Max")] := rfl
@[go_sem] theorem JHO:ty155.sz=9:=rfl
@[go_sem] theorem Jt8:ty155.bytes=48:=rfl
@[go_sem] theorem JLe:ty155.zero=[.int .i64 0,.int .i64 0,.int .i64 0,.int .i64 0,.bool false,.bool false,.bool false,.bool false,.int .i64 0]:=rfl
@[go_sem] theorem Jrt:T.ty 161=ty161:=rfl
@[go_sem] theorem Jyu:ty161.k=.map 3 4:=rfl
@[go_sem] theorem JHQ:ty161.sz=1:=rfl
@[go_sem] theorem Jua:ty161.bytes=8:=rfl
@[go_sem] theorem JLg:ty161.zero=[.nilm]:=rfl
@[go_sem] theorem Jru:T.ty 166=ty166:=rfl
@[go_sem] theorem Jyv:ty166.k=.slice 170:=rfl
@[go_sem] theorem JHR:ty166.sz=1:=rfl
@[go_sem] theorem Jub:ty166.bytes=24:=rfl
@[go_sem] theorem JLh:ty166.zero=[.slice true []]:=rfl
@[go_sem] theorem Jrv:T.ty 168=ty168:=rfl
@[go_sem] theorem Jyw : ty168.k = .struct [(0, 9, "Host"), (1, 9, "Prefix"), (2, 166, "Split")] := rfl
@[go_sem] theorem JHS:ty168.sz=3:=rfl
@[go_sem] theorem Juc:ty168.bytes=56:=rfl
@[go_sem] theorem JLi:ty168.zero=[.str [],.str [],.slice true []]:=rfl
@[go_sem] theorem Jrx:T.ty 170=ty170:=rfl
@[go_sem] theorem Jyy : ty170.k = .struct [(0, 9, "Cluster"), (1, 3, "W")] := rfl
@[go_sem] theorem JHU:ty170.sz=2:=rfl
@[go_sem] theorem Jue:ty170.bytes=24:=rfl
@[go_sem] theorem JLk:ty170.zero=[.str [],.int .i64 0]:=rfl
@[go_sem] theorem Jry:T.ty 176=ty176:=rfl
@[go_sem] theorem Jyz:ty176.k=.map 90 37:=rfl
@[go_sem] theorem JHV:ty176.sz=1:=rfl
@[go_sem] theorem Juf:ty176.bytes=8:=rfl
@[go_sem] theorem JLl:ty176.zero=[.nilm]:=rfl
@[go_sem] theorem Jrz:T.ty 178=ty178:=rfl
@[go_sem] theorem JyA:ty178.k=.func:=rfl
@[go_sem] theorem JHW:ty178.sz=1:=rfl
@[go_sem] theorem Jug:ty178.bytes=8:=rfl
@[go_sem] theorem JLm:ty178.zero=[.nilf]:=rfl
@[go_sem] theorem JrA:T.ty 189=ty189:=rfl
@[go_sem] theorem JyB : ty189.k = .struct [(0, 48, "Warm"), (4, 4, "changed")] := rfl
@[go_sem] theorem JHX:ty189.sz=5:=rfl
@[go_sem] theorem Juh:ty189.bytes=72:=rfl
@[go_sem] theorem JLn:ty189.zero=[.int .i64 0,.slice true [],.bool false,.slice true [],.bool false]:=rfl
@[go_sem] theorem JrB:T.ty 194=ty194:=rfl
@[go_sem] theorem JyC:ty194.k=.func:=rfl
@[go_sem] theorem JHY:ty194.sz=1:=rfl
@[go_sem] theorem Jui:ty194.bytes=8:=rfl
@[go_sem] theorem JLo:ty194.zero=[.nilf]:=rfl
@[go_sem] theorem JrC:T.ty 196=ty196:=rfl
@[go_sem] theorem JyD:ty196.k=.func:=rfl
@[go_sem] theorem JHZ:ty196.sz=1:=rfl
@[go_sem] theorem Juj:ty196.bytes=8:=rfl
@[go_sem] theorem JLp:ty196.zero=[.nilf]:=rfl
@[go_sem] theorem JrE:T.ty 204=ty204:=rfl
@[go_sem] theorem JyF:ty204.k=.int .i64:=rfl
@[go_sem] theorem JH1:ty204.sz=1:=rfl
@[go_sem] theorem Jul:ty204.bytes=8:=rfl
@[go_sem] theorem JLr:ty204.zero=[.int .i64 0]:=rfl
@[go_sem] theorem JrG:T.ty 212=ty212:=rfl
@[go_sem] theorem JyH:ty212.k=.int .u32:=rfl
@[go_sem] theorem JH3:ty212.sz=1:=rfl
@[go_sem] theorem Jun:ty212.bytes=4:=rfl
@[go_sem] theorem JLt:ty212.zero=[.int .u32 0]:=rfl
@[go_sem] theorem JrH:T.ty 214=ty214:=rfl
@[go_sem] theorem JyI:ty214.k=.int .u64:=rfl
@[go_sem] theorem JH4:ty214.sz=1:=rfl
@[go_sem] theorem Juo:ty214.bytes=8:=rfl
@[go_sem] theorem JLu:ty214.zero=[.int .u64 0]:=rfl
@[go_sem] theorem JrI:T.ty 216=ty216:=rfl
@[go_sem] theorem JyJ : ty216.k = .struct [(0, 25, "e")] := rfl
@[go_sem] theorem JH5:ty216.sz=1:=rfl
@[go_sem] theorem Jup:ty216.bytes=8:=rfl
@[go_sem] theorem JLv:ty216.zero=[.int .i64 0]:=rfl
@[go_sem] theorem JrJ:T.ty 219=ty219:=rfl
@[go_sem] theorem JyK:ty219.k=.func:=rfl
@[go_sem] theorem JH6:ty219.sz=1:=rfl
@[go_sem] theorem Juq:ty219.bytes=8:=rfl
@[go_sem] theorem JLw:ty219.zero=[.nilf]:=rfl
@[go_sem] theorem JrL:T.ty 226=ty226:=rfl
@[go_sem] theorem JyM:ty226.k=.func:=rfl
@[go_sem] theorem JH8:ty226.sz=1:=rfl
@[go_sem] theorem Jus:ty226.bytes=8:=rfl
@[go_sem] theorem JLy:ty226.zero=[.nilf]:=rfl
@[go_sem] theorem JrM:T.ty 228=ty228:=rfl
@[go_sem] theorem JyN : ty228.k = .struct [(0, 4, "port"), (1, 4, "to"), (2, 4, "rules"), (3, 4, "hosts")] := rfl
@[go_sem] theorem JH9:ty228.sz=4:=rfl
@[go_sem] theorem Jut:ty228.bytes=4:=rfl
@[go_sem] theorem JLz:ty228.zero=[.bool false,.bool false,.bool false,.bool false]:=rfl
@[go_sem] theorem JrN:T.ty 232=ty232:=rfl
@[go_sem] theorem JyO:ty232.k=.func:=rfl
@[go_sem] theorem JIa:ty232.sz=1:=rfl
@[go_sem] theorem Juu:ty232.bytes=8:=rfl
@[go_sem] theorem JLA:ty232.zero=[.nilf]:=rfl
@[go_sem] theorem JrO:T.ty 234=ty234:=rfl
@[go_sem] theorem JyP:ty234.k=.int .u64:=rfl
@[go_sem] theorem JIb:ty234.sz=1:=rfl
@[go_sem] theorem Juv:ty234.bytes=8:=rfl
@[go_sem] theorem JLB:ty234.zero=[.int .u64 0]:=rfl
@[go_sem] theorem JrP:T.ty 238=ty238:=rfl
@[go_sem] theorem JyQ:ty238.k=.ptr 3:=rfl
@[go_sem] theorem JIc:ty238.sz=1:=rfl
@[go_sem] theorem Juw:ty238.bytes=8:=rfl
@[go_sem] theorem JLC:ty238.zero=[.nilp]:=rfl
@[go_sem] theorem JrR:T.ty 246=ty246:=rfl
@[go_sem] theorem JyS:ty246.k=.ptr 234:=rfl
@[go_sem] theorem JIe:ty246.sz=1:=rfl
@[go_sem] theorem Juy:ty246.bytes=8:=rfl
@[go_sem] theorem JLE:ty246.zero=[.nilp]:=rfl
@[go_sem] theorem JrU:T.ty 269=ty269:=rfl
@[go_sem] theorem JyV : ty269.k = .struct [(0, 17, "_interface"), (1, 17, "concrete"), (2, 17, "asserted"), (3, 9, "missingMethod")] := rfl
@[go_sem] theorem JIh:ty269.sz=4:=rfl
@[go_sem] theorem JuB:ty269.bytes=40:=rfl
@[go_sem] theorem JLH:ty269.zero=[.nilp,.nilp,.nilp,.str []]:=rfl
@[go_sem] theorem JrW:T.ty 270=ty270:=rfl
@[go_sem] theorem JyX:ty270.k=.array 0 16:=rfl
@[go_sem] theorem JIj:ty270.sz=0:=rfl
@[go_sem] theorem JuD:ty270.bytes=0:=rfl
@[go_sem] theorem JLJ:ty270.zero=[]:=rfl
@[go_sem] theorem JrX:T.ty 272=ty272:=rfl
@[go_sem] theorem JyY : ty272.k = .struct [(0, 270, "_")] := rfl
@[go_sem] theorem JIk:ty272.sz=0:=rfl
@[go_sem] theorem JuE:ty272.bytes=0:=rfl
@[go_sem] theorem JLK:ty272.zero=[]:=rfl
@[go_sem] theorem JrY:T.ty 273=ty273:=rfl
@[go_sem] theorem JyZ:ty273.k=.int .u8:=rfl
@[go_sem] theorem JIl:ty273.sz=1:=rfl
@[go_sem] theorem JuF:ty273.bytes=1:=rfl
@[go_sem] theorem JLL:ty273.zero=[.int .u8 0]:=rfl
@[go_sem] theorem JrZ:T.ty 274=ty274:=rfl
@[go_sem] theorem Jy0:ty274.k=.int .u8:=rfl
@[go_sem] theorem JIm:ty274.sz=1:=rfl
@[go_sem] theorem JuG:ty274.bytes=1:=rfl
@[go_sem] theorem JLM:ty274.zero=[.int .u8 0]:=rfl
@[go_sem] theorem Jr0:T.ty 275=ty275:=rfl
@[go_sem] theorem Jy1:ty275.k=.func:=rfl
@[go_sem] theorem JIn:ty275.sz=1:=rfl
@[go_sem] theorem JuH:ty275.bytes=8:=rfl
@[go_sem] theorem JLN:ty275.zero=[.nilf]:=rfl
@[go_sem] theorem Jr1:T.ty 276=ty276:=rfl
@[go_sem] theorem Jy2:ty276.k=.ptr 5:=rfl
@[go_sem] theorem JIo:ty276.sz=1:=rfl
@[go_sem] theorem JuI:ty276.bytes=8:=rfl
@[go_sem] theorem JLO:ty276.zero=[.nilp]:=rfl
@[go_sem] theorem Jr2:T.ty 277=ty277:=rfl
@[go_sem] theorem Jy3:ty277.k=.int .i32:=rfl
@[go_sem] theorem JIp:ty277.sz=1:=rfl
@[go_sem] theorem JuJ:ty277.bytes=4:=rfl
@[go_sem] theorem JLP:ty277.zero=[.int .i32 0]:=rfl
@[go_sem] theorem Jr3:T.ty 278=ty278:=rfl
@[go_sem] theorem Jy4:ty278.k=.int .i32:=rfl
@[go_sem] theorem JIq:ty278.sz=1:=rfl
@[go_sem] theorem JuK:ty278.bytes=4:=rfl
@[go_sem] theorem JLQ:ty278.zero=[.int .i32 0]:=rfl
@[go_sem] theorem Jr4:T.ty 280=ty280:=rfl
@[go_sem] theorem Jy5 : ty280.k = .struct [(0, 12, "Size_"), (1, 12, "PtrBytes"), (2, 212, "Hash"), (3, 273, "TFlag"), (4, 5, "Align_"), (5, 5, "FieldAlign_"), (6, 274, "Kind_"), (7, 275, "Equal"), (8, 276, "GCData"), (9, 277, "Str"), (10, 278, "PtrToThis")] := rfl
@[go_sem] theorem JIr:ty280.sz=11:=rfl
@[go_sem] theorem JuL:ty280.bytes=48:=rfl
@[go_sem] theorem JLR:ty280.zero=[.int .u64 0,.int .u64 0,.int .u32 0,.int .u8 0,.int .u8 0,.int .u8 0,.int .u8 0,.nilf,.nilp,.int .i32 0,.int .i32 0]:=rfl
@[go_sem] theorem Jwo:Tryz.prog.eqGuardType Tryz.prog.depth 90=false:=by kernel_rfl
@[go_sem] theorem JHx:Tryz.prog.stoodInHeld 90=false:=by kernel_rfl
@[go_sem] theorem Jwl:Tryz.prog.eqGuardType Tryz.prog.depth 170=false:=by kernel_rfl
@[go_sem] theorem JHu:Tryz.prog.stoodInHeld 170=false:=by kernel_rfl
@[go_sem] theorem Jwm:Tryz.prog.eqGuardType Tryz.prog.depth 216=false:=by kernel_rfl
@[go_sem] theorem JHv:Tryz.prog.stoodInHeld 216=false:=by kernel_rfl
@[go_sem] theorem Jwn:Tryz.prog.eqGuardType Tryz.prog.depth 228=false:=by kernel_rfl
@[go_sem] theorem JHw:Tryz.prog.stoodInHeld 228=false:=by kernel_rfl
theorem mixed:Tryz.prog.follows .mixedOrders=true:=by kernel_rfl
@[ext] structure BoundsError where
 x:Int
 y:Int
 signed:Bool
 code:UInt8
 deriving Inhabited,DecidableEq
instance:Dat BoundsError where
 av x:=.agg [.int .i64 x.x,.int .i64 x.y,.bool x.signed,.int .u8 x.code.toNat]
 sz:=4
 len _:=rfl
 pure x:=by simp only[go_sem,Bool.and_self]
 nrm x:=by simp only[go_sem]
 one x:=by simp only[go_sem,List.all_cons,List.all_nil,Bool.and_self]
 known x:=rfl
@[go_sem] theorem Jj5(x:BoundsError):Dat.av x=.agg [.int .i64 x.x,.int .i64 x.y,.bool x.signed,.int .u8 x.code.toNat]:=rfl
@[go_sem] theorem JI5:Dat.sz BoundsError=4:=rfl
@[go_sem] theorem JGy(l:List BoundsError)(n:Nat)(f0:Int)(f1:Int)(f2:Bool)(f3:UInt8):(Ja l).set n (.agg [.int .i64 f0,.int .i64 f1,.bool f2,.int .u8 f3.toNat])=Ja (l.set n ⟨f0,f1,f2,f3⟩):=Va l n (⟨f0,f1,f2,f3⟩:BoundsError)
@[go_sem] theorem JG8(l:List BoundsError)(f0:Int)(f1:Int)(f2:Bool)(f3:UInt8):Ja l++[.agg [.int .i64 f0,.int .i64 f1,.bool f2,.int .u8 f3.toNat]]=Ja (l++[⟨f0,f1,f2,f3⟩]):=by rw[J5];rfl
@[go_sem] theorem JkY:∀l:List BoundsError,AV.flat.flatL (Ja l)=true
 | []=>rfl
 |_ :: r=>by simp only[Yj,AV.flat.flatL,JkY r,Jj5,AV.flat,Bool.and_self]
@[go_sem] theorem Jwv(x:BoundsError):BoundsError.mk x.x x.y x.signed x.code=x:=rfl
@[ext] structure Four where
 a0:Int
 a1:Int
 a2:Int
 a3:Int
 deriving Inhabited,DecidableEq
instance:Dat Four where
 av x:=.agg [.int .i64 x.a0,.int .i64 x.a1,.int .i64 x.a2,.int .i64 x.a3]
 sz:=4
 len _:=rfl
 pure x:=by simp only[go_sem,Bool.and_self]
 nrm x:=by simp only[go_sem]
 one x:=by simp only[go_sem,List.all_cons,List.all_nil,Bool.and_self]
 known x:=rfl
@[go_sem] theorem Jj7(x:Four):Dat.av x=.agg [.int .i64 x.a0,.int .i64 x.a1,.int .i64 x.a2,.int .i64 x.a3]:=rfl
@[go_sem] theorem JI8:Dat.sz Four=4:=rfl
@[go_sem] theorem JGB(l:List Four)(n:Nat)(f0:Int)(f1:Int)(f2:Int)(f3:Int):(Ja l).set n (.agg [.int .i64 f0,.int .i64 f1,.int .i64 f2,.int .i64 f3])=Ja (l.set n ⟨f0,f1,f2,f3⟩):=Va l n (⟨f0,f1,f2,f3⟩:Four)
@[go_sem] theorem JHb(l:List Four)(f0:Int)(f1:Int)(f2:Int)(f3:Int):Ja l++[.agg [.int .i64 f0,.int .i64 f1,.int .i64 f2,.int .i64 f3]]=Ja (l++[⟨f0,f1,f2,f3⟩]):=by rw[J5];rfl
@[go_sem] theorem Jk0:∀l:List Four,AV.flat.flatL (Ja l)=true
 | []=>rfl
 |_ :: r=>by simp only[Yj,AV.flat.flatL,Jk0 r,Jj7,AV.flat,Bool.and_self]
@[go_sem] theorem Jwy(x:Four):Four.mk x.a0 x.a1 x.a2 x.a3=x:=rfl
@[ext] structure In where
 last:Four
 max:Int
 deriving Inhabited,DecidableEq
instance:Dat In where
 av x:=.agg [.int .i64 x.last.a0,.int .i64 x.last.a1,.int .i64 x.last.a2,.int .i64 x.last.a3,.int .i64 x.max]
 sz:=5
 len _:=rfl
 pure x:=by simp only[go_sem,Bool.and_self]
 nrm x:=by simp only[go_sem]
 one x:=by simp only[go_sem,List.all_cons,List.all_nil,Bool.and_self]
 known x:=rfl
@[go_sem] theorem Jj9(x:In):Dat.av x=.agg [.int .i64 x.last.a0,.int .i64 x.last.a1,.int .i64 x.last.a2,.int .i64 x.last.a3,.int .i64 x.max]:=rfl
@[go_sem] theorem JJb:Dat.sz In=5:=rfl
@[go_sem] theorem JGE(l:List In)(n:Nat)(f0:Four)(f1:Int):(Ja l).set n (.agg [.int .i64 f0.a0,.int .i64 f0.a1,.int .i64 f0.a2,.int .i64 f0.a3,.int .i64 f1])=Ja (l.set n ⟨f0,f1⟩):=Va l n (⟨f0,f1⟩:In)
@[go_sem] theorem JHe(l:List In)(f0:Four)(f1:Int):Ja l++[.agg [.int .i64 f0.a0,.int .i64 f0.a1,.int .i64 f0.a2,.int .i64 f0.a3,.int .i64 f1]]=Ja (l++[⟨f0,f1⟩]):=by rw[J5];rfl
@[go_sem] theorem Jk2:∀l:List In,AV.flat.flatL (Ja l)=true
 | []=>rfl
 |_ :: r=>by simp only[Yj,AV.flat.flatL,Jk2 r,Jj9,AV.flat,Bool.and_self]
@[go_sem] theorem JwB(x:In):In.mk x.last x.max=x:=rfl
@[ext] structure Weight where
 cluster:List UInt8
 w:Int
 deriving Inhabited,DecidableEq
instance:Dat Weight where
 av x:=.agg [.str x.cluster,.int .i64 x.w]
 sz:=2
 len _:=rfl
 pure x:=by simp only[go_sem,Bool.and_self]
 nrm x:=by simp only[go_sem]
 one x:=by simp only[go_sem,List.all_cons,List.all_nil,Bool.and_self]
 known x:=rfl
@[go_sem] theorem Jkd(x:Weight):Dat.av x=.agg [.str x.cluster,.int .i64 x.w]:=rfl
@[go_sem] theorem JJn:Dat.sz Weight=2:=rfl
@[go_sem] theorem JGS(l:List Weight)(n:Nat)(f0:List UInt8)(f1:Int):(Ja l).set n (.agg [.str f0,.int .i64 f1])=Ja (l.set n ⟨f0,f1⟩):=Va l n (⟨f0,f1⟩:Weight)
@[go_sem] theorem JHs(l:List Weight)(f0:List UInt8)(f1:Int):Ja l++[.agg [.str f0,.int .i64 f1]]=Ja (l++[⟨f0,f1⟩]):=by rw[J5];rfl
@[go_sem] theorem Jk8:∀l:List Weight,AV.flat.flatL (Ja l)=true
 | []=>rfl
 |_ :: r=>by simp only[Yj,AV.flat.flatL,Jk8 r,Jkd,AV.flat,Bool.and_self]
theorem Jdv(x y:Weight):x=y↔x.cluster=y.cluster∧x.w=y.w:=by cases x;cases y;simp
@[go_sem] theorem JwM(x:Weight):Weight.mk x.cluster x.w=x:=rfl
@[ext] structure Rule where
 host:List UInt8
 pfx:List UInt8
 split:List Weight
 deriving Inhabited,DecidableEq
instance:Dat Rule where
 av x:=.agg [.str x.host,.str x.pfx,.slice false (Ja x.split)]
 sz:=3
 len _:=rfl
 pure x:=by simp only[go_sem,Bool.and_self]
 nrm x:=by simp only[go_sem]
 one x:=by simp only[go_sem,List.all_cons,List.all_nil,Bool.and_self]
 known x:=rfl
@[go_sem] theorem Jtc(x:Rule):Dat.av x=.agg [.str x.host,.str x.pfx,.slice false (Ja x.split)]:=rfl
@[go_sem] theorem JJj:Dat.sz Rule=3:=rfl
@[go_sem] theorem JGM(l:List Rule)(n:Nat)(f0:List UInt8)(f1:List UInt8)(f2:List Weight):(Ja l).set n (.agg [.str f0,.str f1,.slice false (Ja f2)])=Ja (l.set n ⟨f0,f1,f2⟩):=Va l n (⟨f0,f1,f2⟩:Rule)
@[go_sem] theorem JHm(l:List Rule)(f0:List UInt8)(f1:List UInt8)(f2:List Weight):Ja l++[.agg [.str f0,.str f1,.slice false (Ja f2)]]=Ja (l++[⟨f0,f1,f2⟩]):=by rw[J5];rfl
theorem Jg0(x y:Rule):x=y↔x.host=y.host∧x.pfx=y.pfx∧x.split=y.split:=by cases x;cases y;simp
@[go_sem] theorem JwI(x:Rule):Rule.mk x.host x.pfx x.split=x:=rfl
@[ext] structure Res where
 kind:Int
 name:List UInt8
 ver:Int
 port:Int
 to':List UInt8
 rules':List Rule
 hosts:List Int
 deriving Inhabited,DecidableEq
instance:Dat Res where
 av x:=.agg [.int .i64 x.kind,.str x.name,.int .i64 x.ver,.int .i64 x.port,.str x.to',.slice false (Ja x.rules'),.slice false (Ja x.hosts)]
 sz:=7
 len _:=rfl
 pure x:=by simp only[go_sem,Bool.and_self]
 nrm x:=by simp only[go_sem]
 one x:=by simp only[go_sem,List.all_cons,List.all_nil,Bool.and_self]
 known x:=rfl
@[go_sem] theorem Jtb(x:Res):Dat.av x=.agg [.int .i64 x.kind,.str x.name,.int .i64 x.ver,.int .i64 x.port,.str x.to',.slice false (Ja x.rules'),.slice false (Ja x.hosts)]:=rfl
@[go_sem] theorem JJi:Dat.sz Res=7:=rfl
@[go_sem] theorem JGL(l:List Res)(n:Nat)(f0:Int)(f1:List UInt8)(f2:Int)(f3:Int)(f4:List UInt8)(f5:List Rule)(f6:List Int):(Ja l).set n (.agg [.int .i64 f0,.str f1,.int .i64 f2,.int .i64 f3,.str f4,.slice false (Ja f5),.slice false (Ja f6)])=Ja (l.set n ⟨f0,f1,f2,f3,f4,f5,f6⟩):=Va l n (⟨f0,f1,f2,f3,f4,f5,f6⟩:Res)
@[go_sem] theorem JHl(l:List Res)(f0:Int)(f1:List UInt8)(f2:Int)(f3:Int)(f4:List UInt8)(f5:List Rule)(f6:List Int):Ja l++[.agg [.int .i64 f0,.str f1,.int .i64 f2,.int .i64 f3,.str f4,.slice false (Ja f5),.slice false (Ja f6)]]=Ja (l++[⟨f0,f1,f2,f3,f4,f5,f6⟩]):=by rw[J5];rfl
@[go_sem] theorem JwH(x:Res):Res.mk x.kind x.name x.ver x.port x.to' x.rules' x.hosts=x:=rfl
@[ext] structure Cache where
 cap:Int
 l:List Res
 deriving Inhabited,DecidableEq
instance:Dat Cache where
 av x:=.agg [.int .i64 x.cap,.slice false (Ja x.l)]
 sz:=2
 len _:=rfl
 pure x:=by simp only[go_sem,Bool.and_self]
 nrm x:=by simp only[go_sem]
 one x:=by simp only[go_sem,List.all_cons,List.all_nil,Bool.and_self]
 known x:=rfl
@[go_sem] theorem Js7(x:Cache):Dat.av x=.agg [.int .i64 x.cap,.slice false (Ja x.l)]:=rfl
@[go_sem] theorem JI6:Dat.sz Cache=2:=rfl
@[go_sem] theorem JGz(l:List Cache)(n:Nat)(f0:Int)(f1:List Res):(Ja l).set n (.agg [.int .i64 f0,.slice false (Ja f1)])=Ja (l.set n ⟨f0,f1⟩):=Va l n (⟨f0,f1⟩:Cache)
@[go_sem] theorem JG9(l:List Cache)(f0:Int)(f1:List Res):Ja l++[.agg [.int .i64 f0,.slice false (Ja f1)]]=Ja (l++[⟨f0,f1⟩]):=by rw[J5];rfl
@[go_sem] theorem Jww(x:Cache):Cache.mk x.cap x.l=x:=rfl
@[ext] structure Warm where
 c:Cache
 ready:Bool
 shown:List Res
 deriving Inhabited,DecidableEq
instance:Dat Warm where
 av x:=.agg [.int .i64 x.c.cap,.slice false (Ja x.c.l),.bool x.ready,.slice false (Ja x.shown)]
 sz:=4
 len _:=rfl
 pure x:=by simp only[go_sem,Bool.and_self]
 nrm x:=by simp only[go_sem]
 one x:=by simp only[go_sem,List.all_cons,List.all_nil,Bool.and_self]
 known x:=rfl
@[go_sem] theorem Jtf(x:Warm):Dat.av x=.agg [.int .i64 x.c.cap,.slice false (Ja x.c.l),.bool x.ready,.slice false (Ja x.shown)]:=rfl
@[go_sem] theorem JJm:Dat.sz Warm=4:=rfl
@[go_sem] theorem JGR(l:List Warm)(n:Nat)(f0:Cache)(f1:Bool)(f2:List Res):(Ja l).set n (.agg [.int .i64 f0.cap,.slice false (Ja f0.l),.bool f1,.slice false (Ja f2)])=Ja (l.set n ⟨f0,f1,f2⟩):=Va l n (⟨f0,f1,f2⟩:Warm)
@[go_sem] theorem JHr(l:List Warm)(f0:Cache)(f1:Bool)(f2:List Res):Ja l++[.agg [.int .i64 f0.cap,.slice false (Ja f0.l),.bool f1,.slice false (Ja f2)]]=Ja (l++[⟨f0,f1,f2⟩]):=by rw[J5];rfl
@[go_sem] theorem JwL(x:Warm):Warm.mk x.c x.ready x.shown=x:=rfl
@[ext] structure Snap where
 id:Int
 pins:Int
 l:List Res
 deriving Inhabited,DecidableEq
instance:Dat Snap where
 av x:=.agg [.int .i64 x.id,.int .i64 x.pins,.slice false (Ja x.l)]
 sz:=3
 len _:=rfl
 pure x:=by simp only[go_sem,Bool.and_self]
 nrm x:=by simp only[go_sem]
 one x:=by simp only[go_sem,List.all_cons,List.all_nil,Bool.and_self]
 known x:=rfl
@[go_sem] theorem Jte(x:Snap):Dat.av x=.agg [.int .i64 x.id,.int .i64 x.pins,.slice false (Ja x.l)]:=rfl
@[go_sem] theorem JJl:Dat.sz Snap=3:=rfl
@[go_sem] theorem JGO(l:List Snap)(n:Nat)(f0:Int)(f1:Int)(f2:List Res):(Ja l).set n (.agg [.int .i64 f0,.int .i64 f1,.slice false (Ja f2)])=Ja (l.set n ⟨f0,f1,f2⟩):=Va l n (⟨f0,f1,f2⟩:Snap)
@[go_sem] theorem JHo(l:List Snap)(f0:Int)(f1:Int)(f2:List Res):Ja l++[.agg [.int .i64 f0,.int .i64 f1,.slice false (Ja f2)]]=Ja (l++[⟨f0,f1,f2⟩]):=by rw[J5];rfl
theorem Jg1(x y:Snap):x=y↔x.id=y.id∧x.pins=y.pins∧x.l=y.l:=by cases x;cases y;simp
@[go_sem] theorem JwK(x:Snap):Snap.mk x.id x.pins x.l=x:=rfl
@[ext] structure Pins where
 next':Int
 snaps:List Snap
 deriving Inhabited,DecidableEq
instance:Dat Pins where
 av x:=.agg [.int .i64 x.next',.slice false (Ja x.snaps)]
 sz:=2
 len _:=rfl
 pure x:=by simp only[go_sem,Bool.and_self]
 nrm x:=by simp only[go_sem]
 one x:=by simp only[go_sem,List.all_cons,List.all_nil,Bool.and_self]
 known x:=rfl
@[go_sem] theorem Jkc(x:Pins):Dat.av x=.agg [.int .i64 x.next',.slice false (Ja x.snaps)]:=rfl
@[go_sem] theorem JJh:Dat.sz Pins=2:=rfl
@[go_sem] theorem JGK(l:List Pins)(n:Nat)(f0:Int)(f1:List Snap):(Ja l).set n (.agg [.int .i64 f0,.slice false (Ja f1)])=Ja (l.set n ⟨f0,f1⟩):=Va l n (⟨f0,f1⟩:Pins)
@[go_sem] theorem JHk(l:List Pins)(f0:Int)(f1:List Snap):Ja l++[.agg [.int .i64 f0,.slice false (Ja f1)]]=Ja (l++[⟨f0,f1⟩]):=by rw[J5];rfl
@[go_sem] theorem JwG(x:Pins):Pins.mk x.next' x.snaps=x:=rfl
@[ext] structure Side where
 epoch:Int
 turn:Int
 up:Bool
 in':In
 errs:Four
 w:Warm
 p:Pins
 deriving Inhabited,DecidableEq
instance:Dat Side where
 av x:=.agg [.int .i64 x.epoch,.int .i64 x.turn,.bool x.up,.int .i64 x.in'.last.a0,.int .i64 x.in'.last.a1,.int .i64 x.in'.last.a2,.int .i64 x.in'.last.a3,.int .i64 x.in'.max,.int .i64 x.errs.a0,.int .i64 x.errs.a1,.int .i64 x.errs.a2,.int .i64 x.errs.a3,.int .i64 x.w.c.cap,.slice false (Ja x.w.c.l),.bool x.w.ready,.slice false (Ja x.w.shown),.int .i64 x.p.next',.slice false (Ja x.p.snaps)]
 sz:=18
 len _:=rfl
 pure x:=by simp only[go_sem,Bool.and_self]
 nrm x:=by simp only[go_sem]
 one x:=by simp only[go_sem,List.all_cons,List.all_nil,Bool.and_self]
 known x:=rfl
@[go_sem] theorem Jtd(x:Side):Dat.av x=.agg [.int .i64 x.epoch,.int .i64 x.turn,.bool x.up,.int .i64 x.in'.last.a0,.int .i64 x.in'.last.a1,.int .i64 x.in'.last.a2,.int .i64 x.in'.last.a3,.int .i64 x.in'.max,.int .i64 x.errs.a0,.int .i64 x.errs.a1,.int .i64 x.errs.a2,.int .i64 x.errs.a3,.int .i64 x.w.c.cap,.slice false (Ja x.w.c.l),.bool x.w.ready,.slice false (Ja x.w.shown),.int .i64 x.p.next',.slice false (Ja x.p.snaps)]:=rfl
@[go_sem] theorem JJk:Dat.sz Side=18:=rfl
@[go_sem] theorem JGN(l:List Side)(n:Nat)(f0:Int)(f1:Int)(f2:Bool)(f3:In)(f4:Four)(f5:Warm)(f6:Pins):(Ja l).set n (.agg [.int .i64 f0,.int .i64 f1,.bool f2,.int .i64 f3.last.a0,.int .i64 f3.last.a1,.int .i64 f3.last.a2,.int .i64 f3.last.a3,.int .i64 f3.max,.int .i64 f4.a0,.int .i64 f4.a1,.int .i64 f4.a2,.int .i64 f4.a3,.int .i64 f5.c.cap,.slice false (Ja f5.c.l),.bool f5.ready,.slice false (Ja f5.shown),.int .i64 f6.next',.slice false (Ja f6.snaps)])=Ja (l.set n ⟨f0,f1,f2,f3,f4,f5,f6⟩):=Va l n (⟨f0,f1,f2,f3,f4,f5,f6⟩:Side)
@[go_sem] theorem JHn(l:List Side)(f0:Int)(f1:Int)(f2:Bool)(f3:In)(f4:Four)(f5:Warm)(f6:Pins):Ja l++[.agg [.int .i64 f0,.int .i64 f1,.bool f2,.int .i64 f3.last.a0,.int .i64 f3.last.a1,.int .i64 f3.last.a2,.int .i64 f3.last.a3,.int .i64 f3.max,.int .i64 f4.a0,.int .i64 f4.a1,.int .i64 f4.a2,.int .i64 f4.a3,.int .i64 f5.c.cap,.slice false (Ja f5.c.l),.bool f5.ready,.slice false (Ja f5.shown),.int .i64 f6.next',.slice false (Ja f6.snaps)]]=Ja (l++[⟨f0,f1,f2,f3,f4,f5,f6⟩]):=by rw[J5];rfl
@[go_sem] theorem JwJ(x:Side):Side.mk x.epoch x.turn x.up x.in' x.errs x.w x.p=x:=rfl
@[ext] structure Key where
 kind:Int
 name:List UInt8
 deriving Inhabited,DecidableEq
instance:Dat Key where
 av x:=.agg [.int .i64 x.kind,.str x.name]
 sz:=2
 len _:=rfl
 pure x:=by simp only[go_sem,Bool.and_self]
 nrm x:=by simp only[go_sem]
 one x:=by simp only[go_sem,List.all_cons,List.all_nil,Bool.and_self]
 known x:=rfl
@[go_sem] theorem JeF(x:Key):Dat.av x=.agg [.int .i64 x.kind,.str x.name]:=rfl
@[go_sem] theorem JJc:Dat.sz Key=2:=rfl
@[go_sem] theorem JGG(l:List Key)(n:Nat)(f0:Int)(f1:List UInt8):(Ja l).set n (.agg [.int .i64 f0,.str f1])=Ja (l.set n ⟨f0,f1⟩):=Va l n (⟨f0,f1⟩:Key)
@[go_sem] theorem JHg(l:List Key)(f0:Int)(f1:List UInt8):Ja l++[.agg [.int .i64 f0,.str f1]]=Ja (l++[⟨f0,f1⟩]):=by rw[J5];rfl
@[go_sem] theorem Jk4:∀l:List Key,AV.flat.flatL (Ja l)=true
 | []=>rfl
 |_ :: r=>by simp only[Yj,AV.flat.flatL,Jk4 r,JeF,AV.flat,Bool.and_self]
theorem Z5(x y:Key):x=y↔x.kind=y.kind∧x.name=y.name:=by cases x;cases y;simp
@[go_sem] theorem JwC(x:Key):Key.mk x.kind x.name=x:=rfl
@[ext] structure Mark where
 k:Key
 ver:Int
 deriving Inhabited,DecidableEq
instance:Dat Mark where
 av x:=.agg [.int .i64 x.k.kind,.str x.k.name,.int .i64 x.ver]
 sz:=3
 len _:=rfl
 pure x:=by simp only[go_sem,Bool.and_self]
 nrm x:=by simp only[go_sem]
 one x:=by simp only[go_sem,List.all_cons,List.all_nil,Bool.and_self]
 known x:=rfl
@[go_sem] theorem Jka(x:Mark):Dat.av x=.agg [.int .i64 x.k.kind,.str x.k.name,.int .i64 x.ver]:=rfl
@[go_sem] theorem JJe:Dat.sz Mark=3:=rfl
@[go_sem] theorem JGH(l:List Mark)(n:Nat)(f0:Key)(f1:Int):(Ja l).set n (.agg [.int .i64 f0.kind,.str f0.name,.int .i64 f1])=Ja (l.set n ⟨f0,f1⟩):=Va l n (⟨f0,f1⟩:Mark)
@[go_sem] theorem JHh(l:List Mark)(f0:Key)(f1:Int):Ja l++[.agg [.int .i64 f0.kind,.str f0.name,.int .i64 f1]]=Ja (l++[⟨f0,f1⟩]):=by rw[J5];rfl
@[go_sem] theorem Jk5:∀l:List Mark,AV.flat.flatL (Ja l)=true
 | []=>rfl
 |_ :: r=>by simp only[Yj,AV.flat.flatL,Jk5 r,Jka,AV.flat,Bool.and_self]
theorem JgZ(x y:Mark):x=y↔x.k=y.k∧x.ver=y.ver:=by cases x;cases y;simp
@[go_sem] theorem JwD(x:Mark):Mark.mk x.k x.ver=x:=rfl
@[ext] structure Frame where
 type:Int
 epoch:Int
 kind:Int
 nonce:Int
 turn:Int
 adds:List Res
 gone:List Key
 err:Int
 have':List Mark
 held:List Key
 deriving Inhabited,DecidableEq
instance:Dat Frame where
 av x:=.agg [.int .i64 x.type,.int .i64 x.epoch,.int .i64 x.kind,.int .i64 x.nonce,.int .i64 x.turn,.slice false (Ja x.adds),.slice false (Ja x.gone),.int .i64 x.err,.slice false (Ja x.have'),.slice false (Ja x.held)]
 sz:=10
 len _:=rfl
 pure x:=by simp only[go_sem,Bool.and_self]
 nrm x:=by simp only[go_sem]
 one x:=by simp only[go_sem,List.all_cons,List.all_nil,Bool.and_self]
 known x:=rfl
@[go_sem] theorem Js8(x:Frame):Dat.av x=.agg [.int .i64 x.type,.int .i64 x.epoch,.int .i64 x.kind,.int .i64 x.nonce,.int .i64 x.turn,.slice false (Ja x.adds),.slice false (Ja x.gone),.int .i64 x.err,.slice false (Ja x.have'),.slice false (Ja x.held)]:=rfl
@[go_sem] theorem JI9:Dat.sz Frame=10:=rfl
@[go_sem] theorem JGC(l:List Frame)(n:Nat)(f0:Int)(f1:Int)(f2:Int)(f3:Int)(f4:Int)(f5:List Res)(f6:List Key)(f7:Int)(f8:List Mark)(f9:List Key):(Ja l).set n (.agg [.int .i64 f0,.int .i64 f1,.int .i64 f2,.int .i64 f3,.int .i64 f4,.slice false (Ja f5),.slice false (Ja f6),.int .i64 f7,.slice false (Ja f8),.slice false (Ja f9)])=Ja (l.set n ⟨f0,f1,f2,f3,f4,f5,f6,f7,f8,f9⟩):=Va l n (⟨f0,f1,f2,f3,f4,f5,f6,f7,f8,f9⟩:Frame)
@[go_sem] theorem JHc(l:List Frame)(f0:Int)(f1:Int)(f2:Int)(f3:Int)(f4:Int)(f5:List Res)(f6:List Key)(f7:Int)(f8:List Mark)(f9:List Key):Ja l++[.agg [.int .i64 f0,.int .i64 f1,.int .i64 f2,.int .i64 f3,.int .i64 f4,.slice false (Ja f5),.slice false (Ja f6),.int .i64 f7,.slice false (Ja f8),.slice false (Ja f9)]]=Ja (l++[⟨f0,f1,f2,f3,f4,f5,f6,f7,f8,f9⟩]):=by rw[J5];rfl
theorem JkQ(x y:Frame):x=y↔x.type=y.type∧x.epoch=y.epoch∧x.kind=y.kind∧x.nonce=y.nonce∧x.turn=y.turn∧x.adds=y.adds∧x.gone=y.gone∧x.err=y.err∧x.have'=y.have'∧x.held=y.held:=by cases x;cases y;simp
@[go_sem] theorem Jwz(x:Frame):Frame.mk x.type x.epoch x.kind x.nonce x.turn x.adds x.gone x.err x.have' x.held=x:=rfl
@[ext] structure Flags where
 a0:Bool
 a1:Bool
 a2:Bool
 a3:Bool
 deriving Inhabited,DecidableEq
instance:Dat Flags where
 av x:=.agg [.bool x.a0,.bool x.a1,.bool x.a2,.bool x.a3]
 sz:=4
 len _:=rfl
 pure x:=by simp only[go_sem,Bool.and_self]
 nrm x:=by simp only[go_sem]
 one x:=by simp only[go_sem,List.all_cons,List.all_nil,Bool.and_self]
 known x:=rfl
@[go_sem] theorem Jj6(x:Flags):Dat.av x=.agg [.bool x.a0,.bool x.a1,.bool x.a2,.bool x.a3]:=rfl
@[go_sem] theorem JI7:Dat.sz Flags=4:=rfl
@[go_sem] theorem JGA(l:List Flags)(n:Nat)(f0:Bool)(f1:Bool)(f2:Bool)(f3:Bool):(Ja l).set n (.agg [.bool f0,.bool f1,.bool f2,.bool f3])=Ja (l.set n ⟨f0,f1,f2,f3⟩):=Va l n (⟨f0,f1,f2,f3⟩:Flags)
@[go_sem] theorem JHa(l:List Flags)(f0:Bool)(f1:Bool)(f2:Bool)(f3:Bool):Ja l++[.agg [.bool f0,.bool f1,.bool f2,.bool f3]]=Ja (l++[⟨f0,f1,f2,f3⟩]):=by rw[J5];rfl
@[go_sem] theorem JkZ:∀l:List Flags,AV.flat.flatL (Ja l)=true
 | []=>rfl
 |_ :: r=>by simp only[Yj,AV.flat.flatL,JkZ r,Jj6,AV.flat,Bool.and_self]
@[go_sem] theorem Jwx(x:Flags):Flags.mk x.a0 x.a1 x.a2 x.a3=x:=rfl
@[ext] structure Out where
 last:Four
 open':Flags
 max:Int
 deriving Inhabited,DecidableEq
instance:Dat Out where
 av x:=.agg [.int .i64 x.last.a0,.int .i64 x.last.a1,.int .i64 x.last.a2,.int .i64 x.last.a3,.bool x.open'.a0,.bool x.open'.a1,.bool x.open'.a2,.bool x.open'.a3,.int .i64 x.max]
 sz:=9
 len _:=rfl
 pure x:=by simp only[go_sem,Bool.and_self]
 nrm x:=by simp only[go_sem]
 one x:=by simp only[go_sem,List.all_cons,List.all_nil,Bool.and_self]
 known x:=rfl
@[go_sem] theorem Jkb(x:Out):Dat.av x=.agg [.int .i64 x.last.a0,.int .i64 x.last.a1,.int .i64 x.last.a2,.int .i64 x.last.a3,.bool x.open'.a0,.bool x.open'.a1,.bool x.open'.a2,.bool x.open'.a3,.int .i64 x.max]:=rfl
@[go_sem] theorem JJg:Dat.sz Out=9:=rfl
@[go_sem] theorem JGJ(l:List Out)(n:Nat)(f0:Four)(f1:Flags)(f2:Int):(Ja l).set n (.agg [.int .i64 f0.a0,.int .i64 f0.a1,.int .i64 f0.a2,.int .i64 f0.a3,.bool f1.a0,.bool f1.a1,.bool f1.a2,.bool f1.a3,.int .i64 f2])=Ja (l.set n ⟨f0,f1,f2⟩):=Va l n (⟨f0,f1,f2⟩:Out)
@[go_sem] theorem JHj(l:List Out)(f0:Four)(f1:Flags)(f2:Int):Ja l++[.agg [.int .i64 f0.a0,.int .i64 f0.a1,.int .i64 f0.a2,.int .i64 f0.a3,.bool f1.a0,.bool f1.a1,.bool f1.a2,.bool f1.a3,.int .i64 f2]]=Ja (l++[⟨f0,f1,f2⟩]):=by rw[J5];rfl
@[go_sem] theorem Jk6:∀l:List Out,AV.flat.flatL (Ja l)=true
 | []=>rfl
 |_ :: r=>by simp only[Yj,AV.flat.flatL,Jk6 r,Jkb,AV.flat,Bool.and_self]
@[go_sem] theorem JwF(x:Out):Out.mk x.last x.open' x.max=x:=rfl
@[ext] structure Move where
 warm:Warm
 changed:Bool
 deriving Inhabited,DecidableEq
instance:Dat Move where
 av x:=.agg [.int .i64 x.warm.c.cap,.slice false (Ja x.warm.c.l),.bool x.warm.ready,.slice false (Ja x.warm.shown),.bool x.changed]
 sz:=5
 len _:=rfl
 pure x:=by simp only[go_sem,Bool.and_self]
 nrm x:=by simp only[go_sem]
 one x:=by simp only[go_sem,List.all_cons,List.all_nil,Bool.and_self]
 known x:=rfl
@[go_sem] theorem Jta(x:Move):Dat.av x=.agg [.int .i64 x.warm.c.cap,.slice false (Ja x.warm.c.l),.bool x.warm.ready,.slice false (Ja x.warm.shown),.bool x.changed]:=rfl
@[go_sem] theorem JJf:Dat.sz Move=5:=rfl
@[go_sem] theorem JGI(l:List Move)(n:Nat)(f0:Warm)(f1:Bool):(Ja l).set n (.agg [.int .i64 f0.c.cap,.slice false (Ja f0.c.l),.bool f0.ready,.slice false (Ja f0.shown),.bool f1])=Ja (l.set n ⟨f0,f1⟩):=Va l n (⟨f0,f1⟩:Move)
@[go_sem] theorem JHi(l:List Move)(f0:Warm)(f1:Bool):Ja l++[.agg [.int .i64 f0.c.cap,.slice false (Ja f0.c.l),.bool f0.ready,.slice false (Ja f0.shown),.bool f1]]=Ja (l++[⟨f0,f1⟩]):=by rw[J5];rfl
@[go_sem] theorem JwE(x:Move):Move.mk x.warm x.changed=x:=rfl
@[ext] structure Bad where
 e:Int
 deriving Inhabited,DecidableEq
instance:Dat Bad where
 av x:=.agg [.int .i64 x.e]
 sz:=1
 len _:=rfl
 pure x:=by simp only[go_sem,Bool.and_self]
 nrm x:=by simp only[go_sem]
 one x:=by simp only[go_sem,List.all_cons,List.all_nil,Bool.and_self]
 known x:=rfl
@[go_sem] theorem Jj4(x:Bad):Dat.av x=.agg [.int .i64 x.e]:=rfl
@[go_sem] theorem JI4:Dat.sz Bad=1:=rfl
@[go_sem] theorem JGw(l:List Bad)(n:Nat)(f0:Int):(Ja l).set n (.agg [.int .i64 f0])=Ja (l.set n ⟨f0⟩):=Va l n (⟨f0⟩:Bad)
@[go_sem] theorem JG6(l:List Bad)(f0:Int):Ja l++[.agg [.int .i64 f0]]=Ja (l++[⟨f0⟩]):=by rw[J5];rfl
@[go_sem] theorem JkX:∀l:List Bad,AV.flat.flatL (Ja l)=true
 | []=>rfl
 |_ :: r=>by simp only[Yj,AV.flat.flatL,JkX r,Jj4,AV.flat,Bool.and_self]
@[go_sem] theorem Jwu(x:Bad):Bad.mk x.e=x:=rfl
@[ext] structure Has where
 port:Bool
 to':Bool
 rules':Bool
 hosts:Bool
 deriving Inhabited,DecidableEq
instance:Dat Has where
 av x:=.agg [.bool x.port,.bool x.to',.bool x.rules',.bool x.hosts]
 sz:=4
 len _:=rfl
 pure x:=by simp only[go_sem,Bool.and_self]
 nrm x:=by simp only[go_sem]
 one x:=by simp only[go_sem,List.all_cons,List.all_nil,Bool.and_self]
 known x:=rfl
@[go_sem] theorem Jj8(x:Has):Dat.av x=.agg [.bool x.port,.bool x.to',.bool x.rules',.bool x.hosts]:=rfl
@[go_sem] theorem JJa:Dat.sz Has=4:=rfl
@[go_sem] theorem JGD(l:List Has)(n:Nat)(f0:Bool)(f1:Bool)(f2:Bool)(f3:Bool):(Ja l).set n (.agg [.bool f0,.bool f1,.bool f2,.bool f3])=Ja (l.set n ⟨f0,f1,f2,f3⟩):=Va l n (⟨f0,f1,f2,f3⟩:Has)
@[go_sem] theorem JHd(l:List Has)(f0:Bool)(f1:Bool)(f2:Bool)(f3:Bool):Ja l++[.agg [.bool f0,.bool f1,.bool f2,.bool f3]]=Ja (l++[⟨f0,f1,f2,f3⟩]):=by rw[J5];rfl
@[go_sem] theorem Jk1:∀l:List Has,AV.flat.flatL (Ja l)=true
 | []=>rfl
 |_ :: r=>by simp only[Yj,AV.flat.flatL,Jk1 r,Jj8,AV.flat,Bool.and_self]
@[go_sem] theorem JwA(x:Has):Has.mk x.port x.to' x.rules' x.hosts=x:=rfl
@[ext] structure AcceptRange where
 lo:UInt8
 hi:UInt8
 deriving Inhabited,DecidableEq
instance:Dat AcceptRange where
 av x:=.agg [.int .u8 x.lo.toNat,.int .u8 x.hi.toNat]
 sz:=2
 len _:=rfl
 pure x:=by simp only[go_sem,Bool.and_self]
 nrm x:=by simp only[go_sem]
 one x:=by simp only[go_sem,List.all_cons,List.all_nil,Bool.and_self]
 known x:=rfl
@[go_sem] theorem Jj3(x:AcceptRange):Dat.av x=.agg [.int .u8 x.lo.toNat,.int .u8 x.hi.toNat]:=rfl
@[go_sem] theorem JI3:Dat.sz AcceptRange=2:=rfl
@[go_sem] theorem JGv(l:List AcceptRange)(n:Nat)(f0:UInt8)(f1:UInt8):(Ja l).set n (.agg [.int .u8 f0.toNat,.int .u8 f1.toNat])=Ja (l.set n ⟨f0,f1⟩):=Va l n (⟨f0,f1⟩:AcceptRange)
@[go_sem] theorem JG5(l:List AcceptRange)(f0:UInt8)(f1:UInt8):Ja l++[.agg [.int .u8 f0.toNat,.int .u8 f1.toNat]]=Ja (l++[⟨f0,f1⟩]):=by rw[J5];rfl
@[go_sem] theorem JkW:∀l:List AcceptRange,AV.flat.flatL (Ja l)=true
 | []=>rfl
 |_ :: r=>by simp only[Yj,AV.flat.flatL,JkW r,Jj3,AV.flat,Bool.and_self]
@[go_sem] theorem Jwt(x:AcceptRange):AcceptRange.mk x.lo x.hi=x:=rfl
def Jdc(x:Four):Prop:=True
def Jf1(x:In):Prop:=Jdc x.last
def Jde(x:Weight):Prop:=Jc x.cluster.length
def Yi(x:Rule):Prop:=Jc x.host.length∧Jc x.pfx.length∧Jc x.split.length∧(∀y∈x.split,Jde y)
def Ju(x:Res):Prop:=Jc x.name.length∧Jc x.to'.length∧Jc x.rules'.length∧(∀y∈x.rules',Yi y)∧Jc x.hosts.length
def Jf0(x:Cache):Prop:=Jc x.l.length∧(∀y∈x.l,Ju y)
def Jas(x:Warm):Prop:=Jf0 x.c∧Jc x.shown.length∧(∀y∈x.shown,Ju y)
def Yw(x:Snap):Prop:=Jc x.l.length∧(∀y∈x.l,Ju y)
def Jf3(x:Pins):Prop:=Jc x.snaps.length∧(∀y∈x.snaps,Yw y)
def JjO(x:Side):Prop:=Jf1 x.in'∧Jdc x.errs∧Jas x.w∧Jf3 x.p
def Jdd(x:Key):Prop:=Jc x.name.length
def Jf2(x:Mark):Prop:=Jdd x.k
def Yv(x:Frame):Prop:=Jc x.adds.length∧(∀y∈x.adds,Ju y)∧Jc x.gone.length∧(∀y∈x.gone,Jdd y)∧Jc x.have'.length∧(∀y∈x.have',Jf2 y)∧Jc x.held.length∧(∀y∈x.held,Jdd y)
end Go.Proofs.YtihahfhagobnoaaGreatDoor.Lg
