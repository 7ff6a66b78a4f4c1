/- Parts of the proof, one behind the other. -/
import Derived.Test.YtihahfhagobnoaaGreatDoorProg
import Derived.Test.YtihahfhagobnoaaGreatDoorG02
namespace Go.Proofs.YtihahfhagobnoaaGreatDoor.Lg
open Go
set_option linter.unusedVariables false
set_option linter.unusedSimpArgs false
set_option maxRecDepth 100000
theorem Jd{i:Nat}{ti:TypeInfo}(h:Tryz.prog.types[i]?=some ti):Tryz.prog.info? i=some ti:=by
 have hlt:i<Tryz.prog.types.size:=(Array.getElem?_eq_some_iff.1 h).1
 simp only[Tables.info?,if_pos hlt,h]
def ty1:TyI:=⟨.func,1,8,[.nilf]⟩
theorem JoR:Jl Tryz.prog 1 ty1:=.inr ⟨Tryz.t1,Jd Tryz.type1,rfl,rfl,⟨_,rfl,rfl,rfl⟩,_,Tryz.underlying1,rfl⟩
theorem Jqo:Jm Tryz.prog 1 ty1:=.inr ⟨Tryz.t1,_,Jd Tryz.type1,rfl,rfl⟩
def ty2:TyI:=⟨.int .i64,1,8,[.int .i64 0]⟩
theorem Jph:Jl Tryz.prog 2 ty2:=.inr ⟨Tryz.t2,Jd Tryz.type2,rfl,rfl,⟨_,rfl,rfl,rfl⟩,_,Tryz.underlying2,rfl⟩
theorem JqO:Jm Tryz.prog 2 ty2:=.inr ⟨Tryz.t2,_,Jd Tryz.type2,rfl,rfl⟩
def ty3:TyI:=⟨.int .i64,1,8,[.int .i64 0]⟩
theorem JpK:Jl Tryz.prog 3 ty3:=.inr ⟨Tryz.t3,Jd Tryz.type3,rfl,rfl,⟨_,rfl,rfl,rfl⟩,_,Tryz.underlying3,rfl⟩
theorem Jrh:Jm Tryz.prog 3 ty3:=.inr ⟨Tryz.t3,_,Jd Tryz.type3,rfl,rfl⟩
def ty4:TyI:=⟨.bool,1,1,[.bool false]⟩
theorem JpS:Jl Tryz.prog 4 ty4:=.inr ⟨Tryz.t4,Jd Tryz.type4,rfl,rfl,⟨_,rfl,rfl,rfl⟩,_,Tryz.underlying4,rfl⟩
theorem Jrp:Jm Tryz.prog 4 ty4:=.inr ⟨Tryz.t4,_,Jd Tryz.type4,rfl,rfl⟩
def ty5:TyI:=⟨.int .u8,1,1,[.int .u8 0]⟩
theorem Jp0:Jl Tryz.prog 5 ty5:=.inr ⟨Tryz.t5,Jd Tryz.type5,rfl,rfl,⟨_,rfl,rfl,rfl⟩,_,Tryz.underlying5,rfl⟩
theorem Jrx:Jm Tryz.prog 5 ty5:=.inr ⟨Tryz.t5,_,Jd Tryz.type5,rfl,rfl⟩
def ty6:TyI:=⟨.int .u8,1,1,[.int .u8 0]⟩
theorem Jp6:Jl Tryz.prog 6 ty6:=.inr ⟨Tryz.t6,Jd Tryz.type6,rfl,rfl,⟨_,rfl,rfl,rfl⟩,_,Tryz.underlying6,rfl⟩
theorem JrD:Jm Tryz.prog 6 ty6:=.inr ⟨Tryz.t6,_,Jd Tryz.type6,rfl,rfl⟩
def ty7 : TyI := ⟨.struct [(0, 2, "x"), (1, 3, "y"), (2, 4, "signed"), (3, 6, "code")], 4, 24, [.int .i64 0, .int .i64 0, .bool false, .int .u8 0]⟩
theorem Jp8:Jl Tryz.prog 7 ty7:=.inr ⟨Tryz.t7,Jd Tryz.type7,rfl,rfl,⟨_,rfl,rfl,rfl⟩,_,Tryz.underlying7,rfl⟩
theorem JrF:Jm Tryz.prog 7 ty7:=.inr ⟨Tryz.t7,_,Jd Tryz.type7,rfl,rfl⟩
def ty8 : TyI := ⟨.struct [(0, 2, "x"), (1, 3, "y"), (2, 4, "signed"), (3, 6, "code")], 4, 24, [.int .i64 0, .int .i64 0, .bool false, .int .u8 0]⟩
theorem Jqe:Jl Tryz.prog 8 ty8:=.inr ⟨Tryz.t8,Jd Tryz.type8,rfl,rfl,⟨_,rfl,rfl,rfl⟩,_,Tryz.underlying8,rfl⟩
theorem JrL:Jm Tryz.prog 8 ty8:=.inr ⟨Tryz.t8,_,Jd Tryz.type8,rfl,rfl⟩
def ty9:TyI:=⟨.str,1,16,[.str []]⟩
theorem Jqj:Jl Tryz.prog 9 ty9:=.inr ⟨Tryz.t9,Jd Tryz.type9,rfl,rfl,⟨_,rfl,rfl,rfl⟩,_,Tryz.underlying9,rfl⟩
theorem JrQ:Jm Tryz.prog 9 ty9:=.inr ⟨Tryz.t9,_,Jd Tryz.type9,rfl,rfl⟩
def ty10:TyI:=⟨.str,1,16,[.str []]⟩
theorem JoS:Jl Tryz.prog 10 ty10:=.inr ⟨Tryz.t10,Jd Tryz.type10,rfl,rfl,⟨_,rfl,rfl,rfl⟩,_,Tryz.underlying10,rfl⟩
theorem Jqp:Jm Tryz.prog 10 ty10:=.inr ⟨Tryz.t10,_,Jd Tryz.type10,rfl,rfl⟩
def ty12:TyI:=⟨.int .u64,1,8,[.int .u64 0]⟩
theorem JoW:Jl Tryz.prog 12 ty12:=.inr ⟨Tryz.t12,Jd Tryz.type12,rfl,rfl,⟨_,rfl,rfl,rfl⟩,_,Tryz.underlying12,rfl⟩
theorem Jqt:Jm Tryz.prog 12 ty12:=.inr ⟨Tryz.t12,_,Jd Tryz.type12,rfl,rfl⟩
def ty13 : TyI := ⟨.struct [(0, 9, "msg"), (1, 12, "addr")], 2, 24, [.str [], .int .u64 0]⟩
theorem JoX:Jl Tryz.prog 13 ty13:=.inr ⟨Tryz.t13,Jd Tryz.type13,rfl,rfl,⟨_,rfl,rfl,rfl⟩,_,Tryz.underlying13,rfl⟩
theorem Jqu:Jm Tryz.prog 13 ty13:=.inr ⟨Tryz.t13,_,Jd Tryz.type13,rfl,rfl⟩
def ty15:TyI:=⟨.ptr 269,1,8,[.nilp]⟩
theorem Jo3:Jl Tryz.prog 15 ty15:=.inr ⟨Tryz.t15,Jd Tryz.type15,rfl,rfl,⟨_,rfl,rfl,rfl⟩,_,Tryz.underlying15,rfl⟩
theorem JqA:Jm Tryz.prog 15 ty15:=.inr ⟨Tryz.t15,_,Jd Tryz.type15,rfl,rfl⟩
def ty16:TyI:=⟨.ptr 272,1,8,[.nilp]⟩
theorem Jo6:Jl Tryz.prog 16 ty16:=.inr ⟨Tryz.t16,Jd Tryz.type16,rfl,rfl,⟨_,rfl,rfl,rfl⟩,_,Tryz.underlying16,rfl⟩
theorem JqD:Jm Tryz.prog 16 ty16:=.inr ⟨Tryz.t16,_,Jd Tryz.type16,rfl,rfl⟩
def ty17:TyI:=⟨.ptr 280,1,8,[.nilp]⟩
theorem Jpa:Jl Tryz.prog 17 ty17:=.inr ⟨Tryz.t17,Jd Tryz.type17,rfl,rfl,⟨_,rfl,rfl,rfl⟩,_,Tryz.underlying17,rfl⟩
theorem JqH:Jm Tryz.prog 17 ty17:=.inr ⟨Tryz.t17,_,Jd Tryz.type17,rfl,rfl⟩
def ty21:TyI:=⟨.int .i32,1,4,[.int .i32 0]⟩
theorem Jpj:Jl Tryz.prog 21 ty21:=.inr ⟨Tryz.t21,Jd Tryz.type21,rfl,rfl,⟨_,rfl,rfl,rfl⟩,_,Tryz.underlying21,rfl⟩
theorem JqQ:Jm Tryz.prog 21 ty21:=.inr ⟨Tryz.t21,_,Jd Tryz.type21,rfl,rfl⟩
def ty22:TyI:=⟨.array 4 3,4,32,[.int .i64 0,.int .i64 0,.int .i64 0,.int .i64 0]⟩
theorem Jpo:Jl Tryz.prog 22 ty22:=.inr ⟨Tryz.t22,Jd Tryz.type22,rfl,rfl,⟨_,rfl,rfl,rfl⟩,_,Tryz.underlying22,rfl⟩
theorem JqV:Jm Tryz.prog 22 ty22:=.inr ⟨Tryz.t22,_,Jd Tryz.type22,rfl,rfl⟩
def ty24 : TyI := ⟨.struct [(0, 22, "Last"), (4, 3, "Max")], 5, 40, [.int .i64 0, .int .i64 0, .int .i64 0, .int .i64 0, .int .i64 0]⟩
theorem Jpu:Jl Tryz.prog 24 ty24:=.inr ⟨Tryz.t24,Jd Tryz.type24,rfl,rfl,⟨_,rfl,rfl,rfl⟩,_,Tryz.underlying24,rfl⟩
theorem Jq1:Jm Tryz.prog 24 ty24:=.inr ⟨Tryz.t24,_,Jd Tryz.type24,rfl,rfl⟩
def ty25:TyI:=⟨.int .i64,1,8,[.int .i64 0]⟩
theorem Jpw:Jl Tryz.prog 25 ty25:=.inr ⟨Tryz.t25,Jd Tryz.type25,rfl,rfl,⟨_,rfl,rfl,rfl⟩,_,Tryz.underlying25,rfl⟩
theorem Jq3:Jm Tryz.prog 25 ty25:=.inr ⟨Tryz.t25,_,Jd Tryz.type25,rfl,rfl⟩
def ty26:TyI:=⟨.array 4 25,4,32,[.int .i64 0,.int .i64 0,.int .i64 0,.int .i64 0]⟩
theorem Jpx:Jl Tryz.prog 26 ty26:=.inr ⟨Tryz.t26,Jd Tryz.type26,rfl,rfl,⟨_,rfl,rfl,rfl⟩,_,Tryz.underlying26,rfl⟩
theorem Jq4:Jm Tryz.prog 26 ty26:=.inr ⟨Tryz.t26,_,Jd Tryz.type26,rfl,rfl⟩
def ty27:TyI:=⟨.slice 87,1,24,[.slice true []]⟩
theorem Jpz:Jl Tryz.prog 27 ty27:=.inr ⟨Tryz.t27,Jd Tryz.type27,rfl,rfl,⟨_,rfl,rfl,rfl⟩,_,Tryz.underlying27,rfl⟩
theorem Jq6:Jm Tryz.prog 27 ty27:=.inr ⟨Tryz.t27,_,Jd Tryz.type27,rfl,rfl⟩
def ty29 : TyI := ⟨.struct [(0, 3, "Cap"), (1, 27, "L")], 2, 32, [.int .i64 0, .slice true []]⟩
theorem JpJ:Jl Tryz.prog 29 ty29:=.inr ⟨Tryz.t29,Jd Tryz.type29,rfl,rfl,⟨_,rfl,rfl,rfl⟩,_,Tryz.underlying29,rfl⟩
theorem Jrg:Jm Tryz.prog 29 ty29:=.inr ⟨Tryz.t29,_,Jd Tryz.type29,rfl,rfl⟩
def ty31 : TyI := ⟨.struct [(0, 29, "C"), (2, 4, "Ready"), (3, 27, "Shown")], 4, 64, [.int .i64 0, .slice true [], .bool false, .slice true []]⟩
theorem JpL:Jl Tryz.prog 31 ty31:=.inr ⟨Tryz.t31,Jd Tryz.type31,rfl,rfl,⟨_,rfl,rfl,rfl⟩,_,Tryz.underlying31,rfl⟩
theorem Jri:Jm Tryz.prog 31 ty31:=.inr ⟨Tryz.t31,_,Jd Tryz.type31,rfl,rfl⟩
def ty32:TyI:=⟨.slice 141,1,24,[.slice true []]⟩
theorem JpM:Jl Tryz.prog 32 ty32:=.inr ⟨Tryz.t32,Jd Tryz.type32,rfl,rfl,⟨_,rfl,rfl,rfl⟩,_,Tryz.underlying32,rfl⟩
theorem Jrj:Jm Tryz.prog 32 ty32:=.inr ⟨Tryz.t32,_,Jd Tryz.type32,rfl,rfl⟩
def ty33 : TyI := ⟨.struct [(0, 3, "Next"), (1, 32, "Snaps")], 2, 32, [.int .i64 0, .slice true []]⟩
theorem JpN:Jl Tryz.prog 33 ty33:=.inr ⟨Tryz.t33,Jd Tryz.type33,rfl,rfl,⟨_,rfl,rfl,rfl⟩,_,Tryz.underlying33,rfl⟩
theorem Jrk:Jm Tryz.prog 33 ty33:=.inr ⟨Tryz.t33,_,Jd Tryz.type33,rfl,rfl⟩
def ty34 : TyI := ⟨.struct [(0, 3, "Next"), (1, 32, "Snaps")], 2, 32, [.int .i64 0, .slice true []]⟩
theorem JpO:Jl Tryz.prog 34 ty34:=.inr ⟨Tryz.t34,Jd Tryz.type34,rfl,rfl,⟨_,rfl,rfl,rfl⟩,_,Tryz.underlying34,rfl⟩
theorem Jrl:Jm Tryz.prog 34 ty34:=.inr ⟨Tryz.t34,_,Jd Tryz.type34,rfl,rfl⟩
def ty36 : TyI := ⟨.struct [(0, 3, "Epoch"), (1, 3, "Turn"), (2, 4, "Up"), (3, 24, "In"), (8, 26, "Errs"), (12, 31, "W"), (16, 34, "P")], 18, 192, [.int .i64 0, .int .i64 0, .bool false, .int .i64 0, .int .i64 0, .int .i64 0, .int .i64 0, .int .i64 0, .int .i64 0, .int .i64 0, .int .i64 0, .int .i64 0, .int .i64 0, .slice true [], .bool false, .slice true [], .int .i64 0, .slice true []]⟩
theorem JpP:Jl Tryz.prog 36 ty36:=.inr ⟨Tryz.t36,Jd Tryz.type36,rfl,rfl,⟨_,rfl,rfl,rfl⟩,_,Tryz.underlying36,rfl⟩
theorem Jrm:Jm Tryz.prog 36 ty36:=.inr ⟨Tryz.t36,_,Jd Tryz.type36,rfl,rfl⟩
def ty37:TyI:=⟨.slice 90,1,24,[.slice true []]⟩
theorem JpQ:Jl Tryz.prog 37 ty37:=.inr ⟨Tryz.t37,Jd Tryz.type37,rfl,rfl,⟨_,rfl,rfl,rfl⟩,_,Tryz.underlying37,rfl⟩
theorem Jrn:Jm Tryz.prog 37 ty37:=.inr ⟨Tryz.t37,_,Jd Tryz.type37,rfl,rfl⟩
def ty38:TyI:=⟨.slice 92,1,24,[.slice true []]⟩
theorem JpR:Jl Tryz.prog 38 ty38:=.inr ⟨Tryz.t38,Jd Tryz.type38,rfl,rfl,⟨_,rfl,rfl,rfl⟩,_,Tryz.underlying38,rfl⟩
theorem Jro:Jm Tryz.prog 38 ty38:=.inr ⟨Tryz.t38,_,Jd Tryz.type38,rfl,rfl⟩
def ty40 : TyI := ⟨.struct [(0, 3, "Type"), (1, 3, "Epoch"), (2, 3, "Kind"), (3, 3, "Nonce"), (4, 3, "Turn"), (5, 27, "Adds"), (6, 37, "Gone"), (7, 25, "Err"), (8, 38, "Have"), (9, 37, "Held")], 10, 144, [.int .i64 0, .int .i64 0, .int .i64 0, .int .i64 0, .int .i64 0, .slice true [], .slice true [], .int .i64 0, .slice true [], .slice true []]⟩
theorem JpT:Jl Tryz.prog 40 ty40:=.inr ⟨Tryz.t40,Jd Tryz.type40,rfl,rfl,⟨_,rfl,rfl,rfl⟩,_,Tryz.underlying40,rfl⟩
theorem Jrq:Jm Tryz.prog 40 ty40:=.inr ⟨Tryz.t40,_,Jd Tryz.type40,rfl,rfl⟩
def ty43:TyI:=⟨.func,1,8,[.nilf]⟩
theorem JpU:Jl Tryz.prog 43 ty43:=.inr ⟨Tryz.t43,Jd Tryz.type43,rfl,rfl,⟨_,rfl,rfl,rfl⟩,_,Tryz.underlying43,rfl⟩
theorem Jrr:Jm Tryz.prog 43 ty43:=.inr ⟨Tryz.t43,_,Jd Tryz.type43,rfl,rfl⟩
def ty45 : TyI := ⟨.struct [(0, 22, "Last"), (4, 3, "Max")], 5, 40, [.int .i64 0, .int .i64 0, .int .i64 0, .int .i64 0, .int .i64 0]⟩
theorem JpV:Jl Tryz.prog 45 ty45:=.inr ⟨Tryz.t45,Jd Tryz.type45,rfl,rfl,⟨_,rfl,rfl,rfl⟩,_,Tryz.underlying45,rfl⟩
theorem Jrs:Jm Tryz.prog 45 ty45:=.inr ⟨Tryz.t45,_,Jd Tryz.type45,rfl,rfl⟩
def ty46 : TyI := ⟨.struct [(0, 3, "Cap"), (1, 27, "L")], 2, 32, [.int .i64 0, .slice true []]⟩
theorem JpW:Jl Tryz.prog 46 ty46:=.inr ⟨Tryz.t46,Jd Tryz.type46,rfl,rfl,⟨_,rfl,rfl,rfl⟩,_,Tryz.underlying46,rfl⟩
theorem Jrt:Jm Tryz.prog 46 ty46:=.inr ⟨Tryz.t46,_,Jd Tryz.type46,rfl,rfl⟩
def ty47 : TyI := ⟨.struct [(0, 46, "C"), (2, 4, "Ready"), (3, 27, "Shown")], 4, 64, [.int .i64 0, .slice true [], .bool false, .slice true []]⟩
theorem JpX:Jl Tryz.prog 47 ty47:=.inr ⟨Tryz.t47,Jd Tryz.type47,rfl,rfl,⟨_,rfl,rfl,rfl⟩,_,Tryz.underlying47,rfl⟩
theorem Jru:Jm Tryz.prog 47 ty47:=.inr ⟨Tryz.t47,_,Jd Tryz.type47,rfl,rfl⟩
def ty48 : TyI := ⟨.struct [(0, 46, "C"), (2, 4, "Ready"), (3, 27, "Shown")], 4, 64, [.int .i64 0, .slice true [], .bool false, .slice true []]⟩
theorem JpY:Jl Tryz.prog 48 ty48:=.inr ⟨Tryz.t48,Jd Tryz.type48,rfl,rfl,⟨_,rfl,rfl,rfl⟩,_,Tryz.underlying48,rfl⟩
theorem Jrv:Jm Tryz.prog 48 ty48:=.inr ⟨Tryz.t48,_,Jd Tryz.type48,rfl,rfl⟩
def ty49:TyI:=⟨.slice 81,1,24,[.slice true []]⟩
theorem JpZ:Jl Tryz.prog 49 ty49:=.inr ⟨Tryz.t49,Jd Tryz.type49,rfl,rfl,⟨_,rfl,rfl,rfl⟩,_,Tryz.underlying49,rfl⟩
theorem Jrw:Jm Tryz.prog 49 ty49:=.inr ⟨Tryz.t49,_,Jd Tryz.type49,rfl,rfl⟩
def ty51 : TyI := ⟨.struct [(0, 3, "Next"), (1, 49, "Snaps")], 2, 32, [.int .i64 0, .slice true []]⟩
theorem Jp1:Jl Tryz.prog 51 ty51:=.inr ⟨Tryz.t51,Jd Tryz.type51,rfl,rfl,⟨_,rfl,rfl,rfl⟩,_,Tryz.underlying51,rfl⟩
theorem Jry:Jm Tryz.prog 51 ty51:=.inr ⟨Tryz.t51,_,Jd Tryz.type51,rfl,rfl⟩
def ty53 : TyI := ⟨.struct [(0, 3, "Epoch"), (1, 3, "Turn"), (2, 4, "Up"), (3, 45, "In"), (8, 26, "Errs"), (12, 48, "W"), (16, 51, "P")], 18, 192, [.int .i64 0, .int .i64 0, .bool false, .int .i64 0, .int .i64 0, .int .i64 0, .int .i64 0, .int .i64 0, .int .i64 0, .int .i64 0, .int .i64 0, .int .i64 0, .int .i64 0, .slice true [], .bool false, .slice true [], .int .i64 0, .slice true []]⟩
theorem Jp2:Jl Tryz.prog 53 ty53:=.inr ⟨Tryz.t53,Jd Tryz.type53,rfl,rfl,⟨_,rfl,rfl,rfl⟩,_,Tryz.underlying53,rfl⟩
theorem Jrz:Jm Tryz.prog 53 ty53:=.inr ⟨Tryz.t53,_,Jd Tryz.type53,rfl,rfl⟩
def ty55:TyI:=⟨.slice 60,1,24,[.slice true []]⟩
theorem Jp3:Jl Tryz.prog 55 ty55:=.inr ⟨Tryz.t55,Jd Tryz.type55,rfl,rfl,⟨_,rfl,rfl,rfl⟩,_,Tryz.underlying55,rfl⟩
theorem JrA:Jm Tryz.prog 55 ty55:=.inr ⟨Tryz.t55,_,Jd Tryz.type55,rfl,rfl⟩
def ty58:TyI:=⟨.slice 110,1,24,[.slice true []]⟩
theorem Jp4:Jl Tryz.prog 58 ty58:=.inr ⟨Tryz.t58,Jd Tryz.type58,rfl,rfl,⟨_,rfl,rfl,rfl⟩,_,Tryz.underlying58,rfl⟩
theorem JrB:Jm Tryz.prog 58 ty58:=.inr ⟨Tryz.t58,_,Jd Tryz.type58,rfl,rfl⟩
def ty59 : TyI := ⟨.struct [(0, 3, "Type"), (1, 3, "Epoch"), (2, 3, "Kind"), (3, 3, "Nonce"), (4, 3, "Turn"), (5, 27, "Adds"), (6, 37, "Gone"), (7, 25, "Err"), (8, 58, "Have"), (9, 37, "Held")], 10, 144, [.int .i64 0, .int .i64 0, .int .i64 0, .int .i64 0, .int .i64 0, .slice true [], .slice true [], .int .i64 0, .slice true [], .slice true []]⟩
theorem Jp5:Jl Tryz.prog 59 ty59:=.inr ⟨Tryz.t59,Jd Tryz.type59,rfl,rfl,⟨_,rfl,rfl,rfl⟩,_,Tryz.underlying59,rfl⟩
theorem JrC:Jm Tryz.prog 59 ty59:=.inr ⟨Tryz.t59,_,Jd Tryz.type59,rfl,rfl⟩
def ty60 : TyI := ⟨.struct [(0, 3, "Type"), (1, 3, "Epoch"), (2, 3, "Kind"), (3, 3, "Nonce"), (4, 3, "Turn"), (5, 27, "Adds"), (6, 37, "Gone"), (7, 25, "Err"), (8, 58, "Have"), (9, 37, "Held")], 10, 144, [.int .i64 0, .int .i64 0, .int .i64 0, .int .i64 0, .int .i64 0, .slice true [], .slice true [], .int .i64 0, .slice true [], .slice true []]⟩
theorem Jp7:Jl Tryz.prog 60 ty60:=.inr ⟨Tryz.t60,Jd Tryz.type60,rfl,rfl,⟨_,rfl,rfl,rfl⟩,_,Tryz.underlying60,rfl⟩
theorem JrE:Jm Tryz.prog 60 ty60:=.inr ⟨Tryz.t60,_,Jd Tryz.type60,rfl,rfl⟩
def ty72:TyI:=⟨.slice 40,1,24,[.slice true []]⟩
theorem Jp9:Jl Tryz.prog 72 ty72:=.inr ⟨Tryz.t72,Jd Tryz.type72,rfl,rfl,⟨_,rfl,rfl,rfl⟩,_,Tryz.underlying72,rfl⟩
theorem JrG:Jm Tryz.prog 72 ty72:=.inr ⟨Tryz.t72,_,Jd Tryz.type72,rfl,rfl⟩
def ty73:TyI:=⟨.func,1,8,[.nilf]⟩
theorem Jqa:Jl Tryz.prog 73 ty73:=.inr ⟨Tryz.t73,Jd Tryz.type73,rfl,rfl,⟨_,rfl,rfl,rfl⟩,_,Tryz.underlying73,rfl⟩
theorem JrH:Jm Tryz.prog 73 ty73:=.inr ⟨Tryz.t73,_,Jd Tryz.type73,rfl,rfl⟩
def ty74:TyI:=⟨.slice 3,1,24,[.slice true []]⟩
theorem Jqb:Jl Tryz.prog 74 ty74:=.inr ⟨Tryz.t74,Jd Tryz.type74,rfl,rfl,⟨_,rfl,rfl,rfl⟩,_,Tryz.underlying74,rfl⟩
theorem JrI:Jm Tryz.prog 74 ty74:=.inr ⟨Tryz.t74,_,Jd Tryz.type74,rfl,rfl⟩
def ty75:TyI:=⟨.slice 27,1,24,[.slice true []]⟩
theorem Jqc:Jl Tryz.prog 75 ty75:=.inr ⟨Tryz.t75,Jd Tryz.type75,rfl,rfl,⟨_,rfl,rfl,rfl⟩,_,Tryz.underlying75,rfl⟩
theorem JrJ:Jm Tryz.prog 75 ty75:=.inr ⟨Tryz.t75,_,Jd Tryz.type75,rfl,rfl⟩
def ty76:TyI:=⟨.int .u64,1,8,[.int .u64 0]⟩
theorem Jqd:Jl Tryz.prog 76 ty76:=.inr ⟨Tryz.t76,Jd Tryz.type76,rfl,rfl,⟨_,rfl,rfl,rfl⟩,_,Tryz.underlying76,rfl⟩
theorem JrK:Jm Tryz.prog 76 ty76:=.inr ⟨Tryz.t76,_,Jd Tryz.type76,rfl,rfl⟩
def ty80 : TyI := ⟨.struct [(0, 3, "Id"), (1, 3, "Pins"), (2, 27, "L")], 3, 40, [.int .i64 0, .int .i64 0, .slice true []]⟩
theorem Jqf:Jl Tryz.prog 80 ty80:=.inr ⟨Tryz.t80,Jd Tryz.type80,rfl,rfl,⟨_,rfl,rfl,rfl⟩,_,Tryz.underlying80,rfl⟩
theorem JrM:Jm Tryz.prog 80 ty80:=.inr ⟨Tryz.t80,_,Jd Tryz.type80,rfl,rfl⟩
def ty81 : TyI := ⟨.struct [(0, 3, "Id"), (1, 3, "Pins"), (2, 27, "L")], 3, 40, [.int .i64 0, .int .i64 0, .slice true []]⟩
theorem Jqg:Jl Tryz.prog 81 ty81:=.inr ⟨Tryz.t81,Jd Tryz.type81,rfl,rfl,⟨_,rfl,rfl,rfl⟩,_,Tryz.underlying81,rfl⟩
theorem JrN:Jm Tryz.prog 81 ty81:=.inr ⟨Tryz.t81,_,Jd Tryz.type81,rfl,rfl⟩
def ty85:TyI:=⟨.slice 168,1,24,[.slice true []]⟩
theorem Jqh:Jl Tryz.prog 85 ty85:=.inr ⟨Tryz.t85,Jd Tryz.type85,rfl,rfl,⟨_,rfl,rfl,rfl⟩,_,Tryz.underlying85,rfl⟩
theorem JrO:Jm Tryz.prog 85 ty85:=.inr ⟨Tryz.t85,_,Jd Tryz.type85,rfl,rfl⟩
def ty87 : TyI := ⟨.struct [(0, 3, "Kind"), (1, 9, "Name"), (2, 3, "Ver"), (3, 3, "Port"), (4, 9, "To"), (5, 85, "Rules"), (6, 74, "Hosts")], 7, 104, [.int .i64 0, .str [], .int .i64 0, .int .i64 0, .str [], .slice true [], .slice true []]⟩
theorem Jqi:Jl Tryz.prog 87 ty87:=.inr ⟨Tryz.t87,Jd Tryz.type87,rfl,rfl,⟨_,rfl,rfl,rfl⟩,_,Tryz.underlying87,rfl⟩
theorem JrP:Jm Tryz.prog 87 ty87:=.inr ⟨Tryz.t87,_,Jd Tryz.type87,rfl,rfl⟩
def ty90 : TyI := ⟨.struct [(0, 3, "Kind"), (1, 9, "Name")], 2, 24, [.int .i64 0, .str []]⟩
theorem Jqk:Jl Tryz.prog 90 ty90:=.inr ⟨Tryz.t90,Jd Tryz.type90,rfl,rfl,⟨_,rfl,rfl,rfl⟩,_,Tryz.underlying90,rfl⟩
theorem JrR:Jm Tryz.prog 90 ty90:=.inr ⟨Tryz.t90,_,Jd Tryz.type90,rfl,rfl⟩
def ty92 : TyI := ⟨.struct [(0, 90, "K"), (2, 3, "Ver")], 3, 32, [.int .i64 0, .str [], .int .i64 0]⟩
theorem Jql:Jl Tryz.prog 92 ty92:=.inr ⟨Tryz.t92,Jd Tryz.type92,rfl,rfl,⟨_,rfl,rfl,rfl⟩,_,Tryz.underlying92,rfl⟩
theorem JrS:Jm Tryz.prog 92 ty92:=.inr ⟨Tryz.t92,_,Jd Tryz.type92,rfl,rfl⟩
def ty95:TyI:=⟨.slice 25,1,24,[.slice true []]⟩
theorem Jqm:Jl Tryz.prog 95 ty95:=.inr ⟨Tryz.t95,Jd Tryz.type95,rfl,rfl,⟨_,rfl,rfl,rfl⟩,_,Tryz.underlying95,rfl⟩
theorem JrT:Jm Tryz.prog 95 ty95:=.inr ⟨Tryz.t95,_,Jd Tryz.type95,rfl,rfl⟩
def ty96:TyI:=⟨.func,1,8,[.nilf]⟩
theorem Jqn:Jl Tryz.prog 96 ty96:=.inr ⟨Tryz.t96,Jd Tryz.type96,rfl,rfl,⟨_,rfl,rfl,rfl⟩,_,Tryz.underlying96,rfl⟩
theorem JrU:Jm Tryz.prog 96 ty96:=.inr ⟨Tryz.t96,_,Jd Tryz.type96,rfl,rfl⟩
def ty105:TyI:=⟨.func,1,8,[.nilf]⟩
theorem JoT:Jl Tryz.prog 105 ty105:=.inr ⟨Tryz.t105,Jd Tryz.type105,rfl,rfl,⟨_,rfl,rfl,rfl⟩,_,Tryz.underlying105,rfl⟩
theorem Jqq:Jm Tryz.prog 105 ty105:=.inr ⟨Tryz.t105,_,Jd Tryz.type105,rfl,rfl⟩
def ty110 : TyI := ⟨.struct [(0, 90, "K"), (2, 3, "Ver")], 3, 32, [.int .i64 0, .str [], .int .i64 0]⟩
theorem JoU:Jl Tryz.prog 110 ty110:=.inr ⟨Tryz.t110,Jd Tryz.type110,rfl,rfl,⟨_,rfl,rfl,rfl⟩,_,Tryz.underlying110,rfl⟩
theorem Jqr:Jm Tryz.prog 110 ty110:=.inr ⟨Tryz.t110,_,Jd Tryz.type110,rfl,rfl⟩
def ty116:TyI:=⟨.func,1,8,[.nilf]⟩
theorem JoV:Jl Tryz.prog 116 ty116:=.inr ⟨Tryz.t116,Jd Tryz.type116,rfl,rfl,⟨_,rfl,rfl,rfl⟩,_,Tryz.underlying116,rfl⟩
theorem Jqs:Jm Tryz.prog 116 ty116:=.inr ⟨Tryz.t116,_,Jd Tryz.type116,rfl,rfl⟩
def ty132:TyI:=⟨.map 90 4,1,8,[.nilm]⟩
theorem JoY:Jl Tryz.prog 132 ty132:=.inr ⟨Tryz.t132,Jd Tryz.type132,rfl,rfl,⟨_,rfl,rfl,rfl⟩,_,Tryz.underlying132,rfl⟩
theorem Jqv:Jm Tryz.prog 132 ty132:=.inr ⟨Tryz.t132,_,Jd Tryz.type132,rfl,rfl⟩
def ty136:TyI:=⟨.func,1,8,[.nilf]⟩
theorem JoZ:Jl Tryz.prog 136 ty136:=.inr ⟨Tryz.t136,Jd Tryz.type136,rfl,rfl,⟨_,rfl,rfl,rfl⟩,_,Tryz.underlying136,rfl⟩
theorem Jqw:Jm Tryz.prog 136 ty136:=.inr ⟨Tryz.t136,_,Jd Tryz.type136,rfl,rfl⟩
def ty139:TyI:=⟨.func,1,8,[.nilf]⟩
theorem Jo0:Jl Tryz.prog 139 ty139:=.inr ⟨Tryz.t139,Jd Tryz.type139,rfl,rfl,⟨_,rfl,rfl,rfl⟩,_,Tryz.underlying139,rfl⟩
theorem Jqx:Jm Tryz.prog 139 ty139:=.inr ⟨Tryz.t139,_,Jd Tryz.type139,rfl,rfl⟩
def ty140:TyI:=⟨.func,1,8,[.nilf]⟩
theorem Jo1:Jl Tryz.prog 140 ty140:=.inr ⟨Tryz.t140,Jd Tryz.type140,rfl,rfl,⟨_,rfl,rfl,rfl⟩,_,Tryz.underlying140,rfl⟩
theorem Jqy:Jm Tryz.prog 140 ty140:=.inr ⟨Tryz.t140,_,Jd Tryz.type140,rfl,rfl⟩
def ty141 : TyI := ⟨.struct [(0, 3, "Id"), (1, 3, "Pins"), (2, 27, "L")], 3, 40, [.int .i64 0, .int .i64 0, .slice true []]⟩
theorem Jo2:Jl Tryz.prog 141 ty141:=.inr ⟨Tryz.t141,Jd Tryz.type141,rfl,rfl,⟨_,rfl,rfl,rfl⟩,_,Tryz.underlying141,rfl⟩
theorem Jqz:Jm Tryz.prog 141 ty141:=.inr ⟨Tryz.t141,_,Jd Tryz.type141,rfl,rfl⟩
def ty153:TyI:=⟨.array 4 4,4,4,[.bool false,.bool false,.bool false,.bool false]⟩
theorem Jo4:Jl Tryz.prog 153 ty153:=.inr ⟨Tryz.t153,Jd Tryz.type153,rfl,rfl,⟨_,rfl,rfl,rfl⟩,_,Tryz.underlying153,rfl⟩
theorem JqB:Jm Tryz.prog 153 ty153:=.inr ⟨Tryz.t153,_,Jd Tryz.type153,rfl,rfl⟩
def ty155 : TyI := ⟨.struct [(0, 22, "Last"), (4, 153, "Open"), (8, 3, "Max")], 9, 48, [.int .i64 0, .int .i64 0, .int .i64 0, .int .i64 0, .bool false, .bool false, .bool false, .bool false, .int .i64 0]⟩
theorem Jo5:Jl Tryz.prog 155 ty155:=.inr ⟨Tryz.t155,Jd Tryz.type155,rfl,rfl,⟨_,rfl,rfl,rfl⟩,_,Tryz.underlying155,rfl⟩
theorem JqC:Jm Tryz.prog 155 ty155:=.inr ⟨Tryz.t155,_,Jd Tryz.type155,rfl,rfl⟩
def ty161:TyI:=⟨.map 3 4,1,8,[.nilm]⟩
theorem Jo7:Jl Tryz.prog 161 ty161:=.inr ⟨Tryz.t161,Jd Tryz.type161,rfl,rfl,⟨_,rfl,rfl,rfl⟩,_,Tryz.underlying161,rfl⟩
theorem JqE:Jm Tryz.prog 161 ty161:=.inr ⟨Tryz.t161,_,Jd Tryz.type161,rfl,rfl⟩
def ty166:TyI:=⟨.slice 170,1,24,[.slice true []]⟩
theorem Jo8:Jl Tryz.prog 166 ty166:=.inr ⟨Tryz.t166,Jd Tryz.type166,rfl,rfl,⟨_,rfl,rfl,rfl⟩,_,Tryz.underlying166,rfl⟩
theorem JqF:Jm Tryz.prog 166 ty166:=.inr ⟨Tryz.t166,_,Jd Tryz.type166,rfl,rfl⟩
def ty168 : TyI := ⟨.struct [(0, 9, "Host"), (1, 9, "Prefix"), (2, 166, "Split")], 3, 56, [.str [], .str [], .slice true []]⟩
theorem Jo9:Jl Tryz.prog 168 ty168:=.inr ⟨Tryz.t168,Jd Tryz.type168,rfl,rfl,⟨_,rfl,rfl,rfl⟩,_,Tryz.underlying168,rfl⟩
theorem JqG:Jm Tryz.prog 168 ty168:=.inr ⟨Tryz.t168,_,Jd Tryz.type168,rfl,rfl⟩
def ty170 : TyI := ⟨.struct [(0, 9, "Cluster"), (1, 3, "W")], 2, 24, [.str [], .int .i64 0]⟩
theorem Jpb:Jl Tryz.prog 170 ty170:=.inr ⟨Tryz.t170,Jd Tryz.type170,rfl,rfl,⟨_,rfl,rfl,rfl⟩,_,Tryz.underlying170,rfl⟩
theorem JqI:Jm Tryz.prog 170 ty170:=.inr ⟨Tryz.t170,_,Jd Tryz.type170,rfl,rfl⟩
def ty176:TyI:=⟨.map 90 37,1,8,[.nilm]⟩
theorem Jpc:Jl Tryz.prog 176 ty176:=.inr ⟨Tryz.t176,Jd Tryz.type176,rfl,rfl,⟨_,rfl,rfl,rfl⟩,_,Tryz.underlying176,rfl⟩
theorem JqJ:Jm Tryz.prog 176 ty176:=.inr ⟨Tryz.t176,_,Jd Tryz.type176,rfl,rfl⟩
def ty178:TyI:=⟨.func,1,8,[.nilf]⟩
theorem Jpd:Jl Tryz.prog 178 ty178:=.inr ⟨Tryz.t178,Jd Tryz.type178,rfl,rfl,⟨_,rfl,rfl,rfl⟩,_,Tryz.underlying178,rfl⟩
theorem JqK:Jm Tryz.prog 178 ty178:=.inr ⟨Tryz.t178,_,Jd Tryz.type178,rfl,rfl⟩
def ty189 : TyI := ⟨.struct [(0, 48, "Warm"), (4, 4, "changed")], 5, 72, [.int .i64 0, .slice true [], .bool false, .slice true [], .bool false]⟩
theorem Jpe:Jl Tryz.prog 189 ty189:=.inr ⟨Tryz.t189,Jd Tryz.type189,rfl,rfl,⟨_,rfl,rfl,rfl⟩,_,Tryz.underlying189,rfl⟩
theorem JqL:Jm Tryz.prog 189 ty189:=.inr ⟨Tryz.t189,_,Jd Tryz.type189,rfl,rfl⟩
def ty194:TyI:=⟨.func,1,8,[.nilf]⟩
theorem Jpf:Jl Tryz.prog 194 ty194:=.inr ⟨Tryz.t194,Jd Tryz.type194,rfl,rfl,⟨_,rfl,rfl,rfl⟩,_,Tryz.underlying194,rfl⟩
theorem JqM:Jm Tryz.prog 194 ty194:=.inr ⟨Tryz.t194,_,Jd Tryz.type194,rfl,rfl⟩
def ty196:TyI:=⟨.func,1,8,[.nilf]⟩
theorem Jpg:Jl Tryz.prog 196 ty196:=.inr ⟨Tryz.t196,Jd Tryz.type196,rfl,rfl,⟨_,rfl,rfl,rfl⟩,_,Tryz.underlying196,rfl⟩
theorem JqN:Jm Tryz.prog 196 ty196:=.inr ⟨Tryz.t196,_,Jd Tryz.type196,rfl,rfl⟩
def ty204:TyI:=⟨.int .i64,1,8,[.int .i64 0]⟩
theorem Jpi:Jl Tryz.prog 204 ty204:=.inr ⟨Tryz.t204,Jd Tryz.type204,rfl,rfl,⟨_,rfl,rfl,rfl⟩,_,Tryz.underlying204,rfl⟩
theorem JqP:Jm Tryz.prog 204 ty204:=.inr ⟨Tryz.t204,_,Jd Tryz.type204,rfl,rfl⟩
def ty212:TyI:=⟨.int .u32,1,4,[.int .u32 0]⟩
theorem Jpk:Jl Tryz.prog 212 ty212:=.inr ⟨Tryz.t212,Jd Tryz.type212,rfl,rfl,⟨_,rfl,rfl,rfl⟩,_,Tryz.underlying212,rfl⟩
theorem JqR:Jm Tryz.prog 212 ty212:=.inr ⟨Tryz.t212,_,Jd Tryz.type212,rfl,rfl⟩
def ty214:TyI:=⟨.int .u64,1,8,[.int .u64 0]⟩
theorem Jpl:Jl Tryz.prog 214 ty214:=.inr ⟨Tryz.t214,Jd Tryz.type214,rfl,rfl,⟨_,rfl,rfl,rfl⟩,_,Tryz.underlying214,rfl⟩
theorem JqS:Jm Tryz.prog 214 ty214:=.inr ⟨Tryz.t214,_,Jd Tryz.type214,rfl,rfl⟩
def ty216 : TyI := ⟨.struct [(0, 25, "e")], 1, 8, [.int .i64 0]⟩
theorem Jpm:Jl Tryz.prog 216 ty216:=.inr ⟨Tryz.t216,Jd Tryz.type216,rfl,rfl,⟨_,rfl,rfl,rfl⟩,_,Tryz.underlying216,rfl⟩
theorem JqT:Jm Tryz.prog 216 ty216:=.inr ⟨Tryz.t216,_,Jd Tryz.type216,rfl,rfl⟩
def ty219:TyI:=⟨.func,1,8,[.nilf]⟩
theorem Jpn:Jl Tryz.prog 219 ty219:=.inr ⟨Tryz.t219,Jd Tryz.type219,rfl,rfl,⟨_,rfl,rfl,rfl⟩,_,Tryz.underlying219,rfl⟩
theorem JqU:Jm Tryz.prog 219 ty219:=.inr ⟨Tryz.t219,_,Jd Tryz.type219,rfl,rfl⟩
def ty226:TyI:=⟨.func,1,8,[.nilf]⟩
theorem Jpp:Jl Tryz.prog 226 ty226:=.inr ⟨Tryz.t226,Jd Tryz.type226,rfl,rfl,⟨_,rfl,rfl,rfl⟩,_,Tryz.underlying226,rfl⟩
theorem JqW:Jm Tryz.prog 226 ty226:=.inr ⟨Tryz.t226,_,Jd Tryz.type226,rfl,rfl⟩
def ty228 : TyI := ⟨.struct [(0, 4, "port"), (1, 4, "to"), (2, 4, "rules"), (3, 4, "hosts")], 4, 4, [.bool false, .bool false, .bool false, .bool false]⟩
theorem Jpq:Jl Tryz.prog 228 ty228:=.inr ⟨Tryz.t228,Jd Tryz.type228,rfl,rfl,⟨_,rfl,rfl,rfl⟩,_,Tryz.underlying228,rfl⟩
theorem JqX:Jm Tryz.prog 228 ty228:=.inr ⟨Tryz.t228,_,Jd Tryz.type228,rfl,rfl⟩
def ty232:TyI:=⟨.func,1,8,[.nilf]⟩
theorem Jpr:Jl Tryz.prog 232 ty232:=.inr ⟨Tryz.t232,Jd Tryz.type232,rfl,rfl,⟨_,rfl,rfl,rfl⟩,_,Tryz.underlying232,rfl⟩
theorem JqY:Jm Tryz.prog 232 ty232:=.inr ⟨Tryz.t232,_,Jd Tryz.type232,rfl,rfl⟩
def ty234:TyI:=⟨.int .u64,1,8,[.int .u64 0]⟩
theorem Jps:Jl Tryz.prog 234 ty234:=.inr ⟨Tryz.t234,Jd Tryz.type234,rfl,rfl,⟨_,rfl,rfl,rfl⟩,_,Tryz.underlying234,rfl⟩
theorem JqZ:Jm Tryz.prog 234 ty234:=.inr ⟨Tryz.t234,_,Jd Tryz.type234,rfl,rfl⟩
def ty238:TyI:=⟨.ptr 3,1,8,[.nilp]⟩
theorem Jpt:Jl Tryz.prog 238 ty238:=.inr ⟨Tryz.t238,Jd Tryz.type238,rfl,rfl,⟨_,rfl,rfl,rfl⟩,_,Tryz.underlying238,rfl⟩
theorem Jq0:Jm Tryz.prog 238 ty238:=.inr ⟨Tryz.t238,_,Jd Tryz.type238,rfl,rfl⟩
def ty246:TyI:=⟨.ptr 234,1,8,[.nilp]⟩
theorem Jpv:Jl Tryz.prog 246 ty246:=.inr ⟨Tryz.t246,Jd Tryz.type246,rfl,rfl,⟨_,rfl,rfl,rfl⟩,_,Tryz.underlying246,rfl⟩
theorem Jq2:Jm Tryz.prog 246 ty246:=.inr ⟨Tryz.t246,_,Jd Tryz.type246,rfl,rfl⟩
def ty269 : TyI := ⟨.struct [(0, 17, "_interface"), (1, 17, "concrete"), (2, 17, "asserted"), (3, 9, "missingMethod")], 4, 40, [.nilp, .nilp, .nilp, .str []]⟩
theorem Jpy:Jl Tryz.prog 269 ty269:=.inr ⟨Tryz.t269,Jd Tryz.type269,rfl,rfl,⟨_,rfl,rfl,rfl⟩,_,Tryz.underlying269,rfl⟩
theorem Jq5:Jm Tryz.prog 269 ty269:=.inr ⟨Tryz.t269,_,Jd Tryz.type269,rfl,rfl⟩
def ty270:TyI:=⟨.array 0 16,0,0,[]⟩
theorem JpA:Jl Tryz.prog 270 ty270:=.inr ⟨Tryz.t270,Jd Tryz.type270,rfl,rfl,⟨_,rfl,rfl,rfl⟩,_,Tryz.underlying270,rfl⟩
theorem Jq7:Jm Tryz.prog 270 ty270:=.inr ⟨Tryz.t270,_,Jd Tryz.type270,rfl,rfl⟩
def ty272 : TyI := ⟨.struct [(0, 270, "_")], 0, 0, []⟩
theorem JpB:Jl Tryz.prog 272 ty272:=.inr ⟨Tryz.t272,Jd Tryz.type272,rfl,rfl,⟨_,rfl,rfl,rfl⟩,_,Tryz.underlying272,rfl⟩
theorem Jq8:Jm Tryz.prog 272 ty272:=.inr ⟨Tryz.t272,_,Jd Tryz.type272,rfl,rfl⟩
def ty273:TyI:=⟨.int .u8,1,1,[.int .u8 0]⟩
theorem JpC:Jl Tryz.prog 273 ty273:=.inr ⟨Tryz.t273,Jd Tryz.type273,rfl,rfl,⟨_,rfl,rfl,rfl⟩,_,Tryz.underlying273,rfl⟩
theorem Jq9:Jm Tryz.prog 273 ty273:=.inr ⟨Tryz.t273,_,Jd Tryz.type273,rfl,rfl⟩
def ty274:TyI:=⟨.int .u8,1,1,[.int .u8 0]⟩
theorem JpD:Jl Tryz.prog 274 ty274:=.inr ⟨Tryz.t274,Jd Tryz.type274,rfl,rfl,⟨_,rfl,rfl,rfl⟩,_,Tryz.underlying274,rfl⟩
theorem Jra:Jm Tryz.prog 274 ty274:=.inr ⟨Tryz.t274,_,Jd Tryz.type274,rfl,rfl⟩
def ty275:TyI:=⟨.func,1,8,[.nilf]⟩
theorem JpE:Jl Tryz.prog 275 ty275:=.inr ⟨Tryz.t275,Jd Tryz.type275,rfl,rfl,⟨_,rfl,rfl,rfl⟩,_,Tryz.underlying275,rfl⟩
theorem Jrb:Jm Tryz.prog 275 ty275:=.inr ⟨Tryz.t275,_,Jd Tryz.type275,rfl,rfl⟩
def ty276:TyI:=⟨.ptr 5,1,8,[.nilp]⟩
theorem JpF:Jl Tryz.prog 276 ty276:=.inr ⟨Tryz.t276,Jd Tryz.type276,rfl,rfl,⟨_,rfl,rfl,rfl⟩,_,Tryz.underlying276,rfl⟩
theorem Jrc:Jm Tryz.prog 276 ty276:=.inr ⟨Tryz.t276,_,Jd Tryz.type276,rfl,rfl⟩
def ty277:TyI:=⟨.int .i32,1,4,[.int .i32 0]⟩
theorem JpG:Jl Tryz.prog 277 ty277:=.inr ⟨Tryz.t277,Jd Tryz.type277,rfl,rfl,⟨_,rfl,rfl,rfl⟩,_,Tryz.underlying277,rfl⟩
theorem Jrd:Jm Tryz.prog 277 ty277:=.inr ⟨Tryz.t277,_,Jd Tryz.type277,rfl,rfl⟩
def ty278:TyI:=⟨.int .i32,1,4,[.int .i32 0]⟩
theorem JpH:Jl Tryz.prog 278 ty278:=.inr ⟨Tryz.t278,Jd Tryz.type278,rfl,rfl,⟨_,rfl,rfl,rfl⟩,_,Tryz.underlying278,rfl⟩
theorem Jre:Jm Tryz.prog 278 ty278:=.inr ⟨Tryz.t278,_,Jd Tryz.type278,rfl,rfl⟩
def ty280 : TyI := ⟨.struct [(0, 12, "Size_"), (1, 12, "PtrBytes"), (2, 212, "Hash"), (3, 273, "TFlag"), (4, 5, "Align_"), (5, 5, "FieldAlign_"), (6, 274, "Kind_"), (7, 275, "Equal"), (8, 276, "GCData"), (9, 277, "Str"), (10, 278, "PtrToThis")], 11, 48, [.int .u64 0, .int .u64 0, .int .u32 0, .int .u8 0, .int .u8 0, .int .u8 0, .int .u8 0, .nilf, .nilp, .int .i32 0, .int .i32 0]⟩
theorem JpI:Jl Tryz.prog 280 ty280:=.inr ⟨Tryz.t280,Jd Tryz.type280,rfl,rfl,⟨_,rfl,rfl,rfl⟩,_,Tryz.underlying280,rfl⟩
theorem Jrf:Jm Tryz.prog 280 ty280:=.inr ⟨Tryz.t280,_,Jd Tryz.type280,rfl,rfl⟩
def tyL:List (Nat×TyI):=[(1,ty1),(2,ty2),(3,ty3),(4,ty4),(5,ty5),(6,ty6),(7,ty7),(8,ty8),(9,ty9),(10,ty10),(12,ty12),(13,ty13),(15,ty15),(16,ty16),(17,ty17),(21,ty21),(22,ty22),(24,ty24),(25,ty25),(26,ty26),(27,ty27),(29,ty29),(31,ty31),(32,ty32),(33,ty33),(34,ty34),(36,ty36),(37,ty37),(38,ty38),(40,ty40),(43,ty43),(45,ty45),(46,ty46),(47,ty47),(48,ty48),(49,ty49),(51,ty51),(53,ty53),(55,ty55),(58,ty58),(59,ty59),(60,ty60),(72,ty72),(73,ty73),(74,ty74),(75,ty75),(76,ty76),(80,ty80),(81,ty81),(85,ty85),(87,ty87),(90,ty90),(92,ty92),(95,ty95),(96,ty96),(105,ty105),(110,ty110),(116,ty116),(132,ty132),(136,ty136),(139,ty139),(140,ty140),(141,ty141),(153,ty153),(155,ty155),(161,ty161),(166,ty166),(168,ty168),(170,ty170),(176,ty176),(178,ty178),(189,ty189),(194,ty194),(196,ty196),(204,ty204),(212,ty212),(214,ty214),(216,ty216),(219,ty219),(226,ty226),(228,ty228),(232,ty232),(234,ty234),(238,ty238),(246,ty246),(269,ty269),(270,ty270),(272,ty272),(273,ty273),(274,ty274),(275,ty275),(276,ty276),(277,ty277),(278,ty278),(280,ty280)]
def Je0(P:Program):List (Nat×TyI)→Prop
 | []=>True
 |p :: r=>Jm P p.1 p.2∧Je0 P r
def JeZ(P:Program):List (Nat×TyI)→Prop
 | []=>True
 |p :: r=>Jl P p.1 p.2∧JeZ P r
def Jdp(l:List (Nat×TyI))(t:Nat):TyI:=(l.lookup t).getD ⟨.unk,0,0,[]⟩
theorem JgN{P:Program}:∀(l:List (Nat×TyI)),JeZ P l→∀t,Jl P t (Jdp l t)
 | [],_,t=>.inl rfl
 | (i,x) :: r,h,t=>by
  unfold Jdp
  by_cases e:t=i
  ·subst e;simpa[List.lookup] using h.1
  ·have e':(t == i)=false:=by simpa using e
   have:((i,x) :: r).lookup t=r.lookup t:=by simp[List.lookup,e']
   rw[this];exact JgN r h.2 t
theorem JgO{P:Program}:∀(l:List (Nat×TyI)),Je0 P l→∀t,Jm P t (Jdp l t)
 | [],_,t=>.inl rfl
 | (i,x) :: r,h,t=>by
  unfold Jdp
  by_cases e:t=i
  ·subst e;simpa[List.lookup] using h.1
  ·have e':(t == i)=false:=by simpa using e
   have:((i,x) :: r).lookup t=r.lookup t:=by simp[List.lookup,e']
   rw[this];exact JgO r h.2 t
theorem JoQ:Je0 Tryz.prog tyL:=⟨Jqo,JqO,Jrh,Jrp,Jrx,JrD,JrF,JrL,JrQ,Jqp,Jqt,Jqu,JqA,JqD,JqH,JqQ,JqV,Jq1,Jq3,Jq4,Jq6,Jrg,Jri,Jrj,Jrk,Jrl,Jrm,Jrn,Jro,Jrq,Jrr,Jrs,Jrt,Jru,Jrv,Jrw,Jry,Jrz,JrA,JrB,JrC,JrE,JrG,JrH,JrI,JrJ,JrK,JrM,JrN,JrO,JrP,JrR,JrS,JrT,JrU,Jqq,Jqr,Jqs,Jqv,Jqw,Jqx,Jqy,Jqz,JqB,JqC,JqE,JqF,JqG,JqI,JqJ,JqK,JqL,JqM,JqN,JqP,JqR,JqS,JqT,JqU,JqW,JqX,JqY,JqZ,Jq0,Jq2,Jq5,Jq7,Jq8,Jq9,Jra,Jrb,Jrc,Jrd,Jre,Jrf,trivial⟩
theorem JoP:JeZ Tryz.prog tyL:=⟨JoR,Jph,JpK,JpS,Jp0,Jp6,Jp8,Jqe,Jqj,JoS,JoW,JoX,Jo3,Jo6,Jpa,Jpj,Jpo,Jpu,Jpw,Jpx,Jpz,JpJ,JpL,JpM,JpN,JpO,JpP,JpQ,JpR,JpT,JpU,JpV,JpW,JpX,JpY,JpZ,Jp1,Jp2,Jp3,Jp4,Jp5,Jp7,Jp9,Jqa,Jqb,Jqc,Jqd,Jqf,Jqg,Jqh,Jqi,Jqk,Jql,Jqm,Jqn,JoT,JoU,JoV,JoY,JoZ,Jo0,Jo1,Jo2,Jo4,Jo5,Jo7,Jo8,Jo9,Jpb,Jpc,Jpd,Jpe,Jpf,Jpg,Jpi,Jpk,Jpl,Jpm,Jpn,Jpp,Jpq,Jpr,Jps,Jpt,Jpv,Jpy,JpA,JpB,JpC,JpD,JpE,JpF,JpG,JpH,JpI,trivial⟩
def T:Tys Tryz.prog:=⟨Jdp tyL,JgN tyL JoP,JgO tyL JoQ,fun _=>false⟩
@[go_sem] theorem JyV(d:Nat):T.fz d=false:=rfl
@[go_sem] theorem T_1:T.ty 1=ty1:=rfl
@[go_sem] theorem k_1:ty1.k=.func:=rfl
@[go_sem] theorem JIO:ty1.sz=1:=rfl
@[go_sem] theorem JuZ:ty1.bytes=8:=rfl
@[go_sem] theorem JMj:ty1.zero=[.nilf]:=rfl
@[go_sem] theorem T_2:T.ty 2=ty2:=rfl
@[go_sem] theorem k_2:ty2.k=.int .i64:=rfl
@[go_sem] theorem JJe:ty2.sz=1:=rfl
@[go_sem] theorem Jvp:ty2.bytes=8:=rfl
@[go_sem] theorem JMJ:ty2.zero=[.int .i64 0]:=rfl
@[go_sem] theorem T_3:T.ty 3=ty3:=rfl
@[go_sem] theorem k_3:ty3.k=.int .i64:=rfl
@[go_sem] theorem JJH:ty3.sz=1:=rfl
@[go_sem] theorem JvS:ty3.bytes=8:=rfl
@[go_sem] theorem JNc:ty3.zero=[.int .i64 0]:=rfl
@[go_sem] theorem T_4:T.ty 4=ty4:=rfl
@[go_sem] theorem k_4:ty4.k=.bool:=rfl
@[go_sem] theorem JJP:ty4.sz=1:=rfl
@[go_sem] theorem Jv0:ty4.bytes=1:=rfl
@[go_sem] theorem JNk:ty4.zero=[.bool false]:=rfl
@[go_sem] theorem T_5:T.ty 5=ty5:=rfl
@[go_sem] theorem k_5:ty5.k=.int .u8:=rfl
@[go_sem] theorem JJX:ty5.sz=1:=rfl
@[go_sem] theorem Jv8:ty5.bytes=1:=rfl
@[go_sem] theorem JNs:ty5.zero=[.int .u8 0]:=rfl
@[go_sem] theorem T_6:T.ty 6=ty6:=rfl
@[go_sem] theorem k_6:ty6.k=.int .u8:=rfl
@[go_sem] theorem JJ3:ty6.sz=1:=rfl
@[go_sem] theorem Jwe:ty6.bytes=1:=rfl
@[go_sem] theorem JNy:ty6.zero=[.int .u8 0]:=rfl
@[go_sem] theorem T_7:T.ty 7=ty7:=rfl
@[go_sem] theorem k_7 : ty7.k = .struct [(0, 2, "x"), (1, 3, "y"), (2, 4, "signed"), (3, 6, "code")] := rfl
@[go_sem] theorem JJ5:ty7.sz=4:=rfl
@[go_sem] theorem Jwg:ty7.bytes=24:=rfl
@[go_sem] theorem JNA:ty7.zero=[.int .i64 0,.int .i64 0,.bool false,.int .u8 0]:=rfl
@[go_sem] theorem T_8:T.ty 8=ty8:=rfl
@[go_sem] theorem k_8 : ty8.k = .struct [(0, 2, "x"), (1, 3, "y"), (2, 4, "signed"), (3, 6, "code")] := rfl
@[go_sem] theorem JKb:ty8.sz=4:=rfl
@[go_sem] theorem Jwm:ty8.bytes=24:=rfl
@[go_sem] theorem JNG:ty8.zero=[.int .i64 0,.int .i64 0,.bool false,.int .u8 0]:=rfl
@[go_sem] theorem T_9:T.ty 9=ty9:=rfl
@[go_sem] theorem k_9:ty9.k=.str:=rfl
@[go_sem] theorem JKg:ty9.sz=1:=rfl
@[go_sem] theorem Jwr:ty9.bytes=16:=rfl
@[go_sem] theorem JNL:ty9.zero=[.str []]:=rfl
@[go_sem] theorem Jse:T.ty 10=ty10:=rfl
@[go_sem] theorem Jzp:ty10.k=.str:=rfl
@[go_sem] theorem JIP:ty10.sz=1:=rfl
@[go_sem] theorem Ju0:ty10.bytes=16:=rfl
@[go_sem] theorem JMk:ty10.zero=[.str []]:=rfl
@[go_sem] theorem Jsi:T.ty 12=ty12:=rfl
@[go_sem] theorem Jzt:ty12.k=.int .u64:=rfl
@[go_sem] theorem JIT:ty12.sz=1:=rfl
@[go_sem] theorem Ju4:ty12.bytes=8:=rfl
@[go_sem] theorem JMo:ty12.zero=[.int .u64 0]:=rfl
@[go_sem] theorem Jsj:T.ty 13=ty13:=rfl
@[go_sem] theorem Jzu : ty13.k = .struct [(0, 9, "msg"), (1, 12, "addr")] := rfl
@[go_sem] theorem JIU:ty13.sz=2:=rfl
@[go_sem] theorem Ju5:ty13.bytes=24:=rfl
@[go_sem] theorem JMp:ty13.zero=[.str [],.int .u64 0]:=rfl
@[go_sem] theorem Jsp:T.ty 15=ty15:=rfl
@[go_sem] theorem JzA:ty15.k=.ptr 269:=rfl
@[go_sem] theorem JI0:ty15.sz=1:=rfl
@[go_sem] theorem Jvb:ty15.bytes=8:=rfl
@[go_sem] theorem JMv:ty15.zero=[.nilp]:=rfl
@[go_sem] theorem Jss:T.ty 16=ty16:=rfl
@[go_sem] theorem JzD:ty16.k=.ptr 272:=rfl
@[go_sem] theorem JI3:ty16.sz=1:=rfl
@[go_sem] theorem Jve:ty16.bytes=8:=rfl
@[go_sem] theorem JMy:ty16.zero=[.nilp]:=rfl
@[go_sem] theorem Jsw:T.ty 17=ty17:=rfl
@[go_sem] theorem JzH:ty17.k=.ptr 280:=rfl
@[go_sem] theorem JI7:ty17.sz=1:=rfl
@[go_sem] theorem Jvi:ty17.bytes=8:=rfl
@[go_sem] theorem JMC:ty17.zero=[.nilp]:=rfl
@[go_sem] theorem JsF:T.ty 21=ty21:=rfl
@[go_sem] theorem JzQ:ty21.k=.int .i32:=rfl
@[go_sem] theorem JJg:ty21.sz=1:=rfl
@[go_sem] theorem Jvr:ty21.bytes=4:=rfl
@[go_sem] theorem JML:ty21.zero=[.int .i32 0]:=rfl
@[go_sem] theorem JsK:T.ty 22=ty22:=rfl
@[go_sem] theorem JzV:ty22.k=.array 4 3:=rfl
@[go_sem] theorem JJl:ty22.sz=4:=rfl
@[go_sem] theorem Jvw:ty22.bytes=32:=rfl
@[go_sem] theorem JMQ:ty22.zero=[.int .i64 0,.int .i64 0,.int .i64 0,.int .i64 0]:=rfl
@[go_sem] theorem JsQ:T.ty 24=ty24:=rfl
@[go_sem] theorem Jz1 : ty24.k = .struct [(0, 22, "Last"), (4, 3, "Max")] := rfl
@[go_sem] theorem JJr:ty24.sz=5:=rfl
@[go_sem] theorem JvC:ty24.bytes=40:=rfl
@[go_sem] theorem JMW:ty24.zero=[.int .i64 0,.int .i64 0,.int .i64 0,.int .i64 0,.int .i64 0]:=rfl
@[go_sem] theorem JsS:T.ty 25=ty25:=rfl
@[go_sem] theorem Jz3:ty25.k=.int .i64:=rfl
@[go_sem] theorem JJt:ty25.sz=1:=rfl
@[go_sem] theorem JvE:ty25.bytes=8:=rfl
@[go_sem] theorem JMY:ty25.zero=[.int .i64 0]:=rfl
@[go_sem] theorem JsT:T.ty 26=ty26:=rfl
@[go_sem] theorem Jz4:ty26.k=.array 4 25:=rfl
@[go_sem] theorem JJu:ty26.sz=4:=rfl
@[go_sem] theorem JvF:ty26.bytes=32:=rfl
@[go_sem] theorem JMZ:ty26.zero=[.int .i64 0,.int .i64 0,.int .i64 0,.int .i64 0]:=rfl
@[go_sem] theorem JsV:T.ty 27=ty27:=rfl
@[go_sem] theorem Jz6:ty27.k=.slice 87:=rfl
@[go_sem] theorem JJw:ty27.sz=1:=rfl
@[go_sem] theorem JvH:ty27.bytes=24:=rfl
@[go_sem] theorem JM1:ty27.zero=[.slice true []]:=rfl
@[go_sem] theorem Js5:T.ty 29=ty29:=rfl
@[go_sem] theorem JAg : ty29.k = .struct [(0, 3, "Cap"), (1, 27, "L")] := rfl
@[go_sem] theorem JJG:ty29.sz=2:=rfl
@[go_sem] theorem JvR:ty29.bytes=32:=rfl
@[go_sem] theorem JNb:ty29.zero=[.int .i64 0,.slice true []]:=rfl
@[go_sem] theorem Js7:T.ty 31=ty31:=rfl
@[go_sem] theorem JAi : ty31.k = .struct [(0, 29, "C"), (2, 4, "Ready"), (3, 27, "Shown")] := rfl
@[go_sem] theorem JJI:ty31.sz=4:=rfl
@[go_sem] theorem JvT:ty31.bytes=64:=rfl
@[go_sem] theorem JNd:ty31.zero=[.int .i64 0,.slice true [],.bool false,.slice true []]:=rfl
@[go_sem] theorem Js8:T.ty 32=ty32:=rfl
@[go_sem] theorem JAj:ty32.k=.slice 141:=rfl
@[go_sem] theorem JJJ:ty32.sz=1:=rfl
@[go_sem] theorem JvU:ty32.bytes=24:=rfl
@[go_sem] theorem JNe:ty32.zero=[.slice true []]:=rfl
@[go_sem] theorem Js9:T.ty 33=ty33:=rfl
@[go_sem] theorem JAk : ty33.k = .struct [(0, 3, "Next"), (1, 32, "Snaps")] := rfl
@[go_sem] theorem JJK:ty33.sz=2:=rfl
@[go_sem] theorem JvV:ty33.bytes=32:=rfl
@[go_sem] theorem JNf:ty33.zero=[.int .i64 0,.slice true []]:=rfl
@[go_sem] theorem Jta:T.ty 34=ty34:=rfl
@[go_sem] theorem JAl : ty34.k = .struct [(0, 3, "Next"), (1, 32, "Snaps")] := rfl
@[go_sem] theorem JJL:ty34.sz=2:=rfl
@[go_sem] theorem JvW:ty34.bytes=32:=rfl
@[go_sem] theorem JNg:ty34.zero=[.int .i64 0,.slice true []]:=rfl
@[go_sem] theorem Jtb:T.ty 36=ty36:=rfl
@[go_sem] theorem JAm : ty36.k = .struct [(0, 3, "Epoch"), (1, 3, "Turn"), (2, 4, "Up"), (3, 24, "In"), (8, 26, "Errs"), (12, 31, "W"), (16, 34, "P")] := rfl
@[go_sem] theorem JJM:ty36.sz=18:=rfl
@[go_sem] theorem JvX:ty36.bytes=192:=rfl
@[go_sem] theorem JNh:ty36.zero=[.int .i64 0,.int .i64 0,.bool false,.int .i64 0,.int .i64 0,.int .i64 0,.int .i64 0,.int .i64 0,.int .i64 0,.int .i64 0,.int .i64 0,.int .i64 0,.int .i64 0,.slice true [],.bool false,.slice true [],.int .i64 0,.slice true []]:=rfl
@[go_sem] theorem Jtc:T.ty 37=ty37:=rfl
@[go_sem] theorem JAn:ty37.k=.slice 90:=rfl
@[go_sem] theorem JJN:ty37.sz=1:=rfl
@[go_sem] theorem JvY:ty37.bytes=24:=rfl
@[go_sem] theorem JNi:ty37.zero=[.slice true []]:=rfl
@[go_sem] theorem Jtd:T.ty 38=ty38:=rfl
@[go_sem] theorem JAo:ty38.k=.slice 92:=rfl
@[go_sem] theorem JJO:ty38.sz=1:=rfl
@[go_sem] theorem JvZ:ty38.bytes=24:=rfl
@[go_sem] theorem JNj:ty38.zero=[.slice true []]:=rfl
@[go_sem] theorem Jtf:T.ty 40=ty40:=rfl
@[go_sem] theorem JAq : ty40.k = .struct [(0, 3, "Type"), (1, 3, "Epoch"), (2, 3, "Kind"), (3, 3, "Nonce"), (4, 3, "Turn"), (5, 27, "Adds"), (6, 37, "Gone"), (7, 25, "Err"), (8, 38, "Have"), (9, 37, "Held")] := rfl
@[go_sem] theorem JJQ:ty40.sz=10:=rfl
@[go_sem] theorem Jv1:ty40.bytes=144:=rfl
@[go_sem] theorem JNl:ty40.zero=[.int .i64 0,.int .i64 0,.int .i64 0,.int .i64 0,.int .i64 0,.slice true [],.slice true [],.int .i64 0,.slice true [],.slice true []]:=rfl
@[go_sem] theorem Jtg:T.ty 43=ty43:=rfl
@[go_sem] theorem JAr:ty43.k=.func:=rfl
@[go_sem] theorem JJR:ty43.sz=1:=rfl
@[go_sem] theorem Jv2:ty43.bytes=8:=rfl
@[go_sem] theorem JNm:ty43.zero=[.nilf]:=rfl
@[go_sem] theorem Jth:T.ty 45=ty45:=rfl
@[go_sem] theorem JAs : ty45.k = .struct [(0, 22, "Last"), (4, 3, "Max")] := rfl
@[go_sem] theorem JJS:ty45.sz=5:=rfl
@[go_sem] theorem Jv3:ty45.bytes=40:=rfl
@[go_sem] theorem JNn:ty45.zero=[.int .i64 0,.int .i64 0,.int .i64 0,.int .i64 0,.int .i64 0]:=rfl
@[go_sem] theorem Jti:T.ty 46=ty46:=rfl
@[go_sem] theorem JAt : ty46.k = .struct [(0, 3, "Cap"), (1, 27, "L")] := rfl
@[go_sem] theorem JJT:ty46.sz=2:=rfl
@[go_sem] theorem Jv4:ty46.bytes=32:=rfl
@[go_sem] theorem JNo:ty46.zero=[.int .i64 0,.slice true []]:=rfl
@[go_sem] theorem Jtj:T.ty 47=ty47:=rfl
@[go_sem] theorem JAu : ty47.k = .struct [(0, 46, "C"), (2, 4, "Ready"), (3, 27, "Shown")] := rfl
@[go_sem] theorem JJU:ty47.sz=4:=rfl
@[go_sem] theorem Jv5:ty47.bytes=64:=rfl
@[go_sem] theorem JNp:ty47.zero=[.int .i64 0,.slice true [],.bool false,.slice true []]:=rfl
@[go_sem] theorem Jtk:T.ty 48=ty48:=rfl
@[go_sem] theorem JAv : ty48.k = .struct [(0, 46, "C"), (2, 4, "Ready"), (3, 27, "Shown")] := rfl
@[go_sem] theorem JJV:ty48.sz=4:=rfl
@[go_sem] theorem Jv6:ty48.bytes=64:=rfl
@[go_sem] theorem JNq:ty48.zero=[.int .i64 0,.slice true [],.bool false,.slice true []]:=rfl
@[go_sem] theorem Jtl:T.ty 49=ty49:=rfl
@[go_sem] theorem JAw:ty49.k=.slice 81:=rfl
@[go_sem] theorem JJW:ty49.sz=1:=rfl
@[go_sem] theorem Jv7:ty49.bytes=24:=rfl
@[go_sem] theorem JNr:ty49.zero=[.slice true []]:=rfl
@[go_sem] theorem Jtn:T.ty 51=ty51:=rfl
@[go_sem] theorem JAy : ty51.k = .struct [(0, 3, "Next"), (1, 49, "Snaps")] := rfl
@[go_sem] theorem JJY:ty51.sz=2:=rfl
@[go_sem] theorem Jv9:ty51.bytes=32:=rfl
@[go_sem] theorem JNt:ty51.zero=[.int .i64 0,.slice true []]:=rfl
@[go_sem] theorem Jto:T.ty 53=ty53:=rfl
@[go_sem] theorem JAz : ty53.k = .struct [(0, 3, "Epoch"), (1, 3, "Turn"), (2, 4, "Up"), (3, 45, "In"), (8, 26, "Errs"), (12, 48, "W"), (16, 51, "P")] := rfl
@[go_sem] theorem JJZ:ty53.sz=18:=rfl
@[go_sem] theorem Jwa:ty53.bytes=192:=rfl
@[go_sem] theorem JNu:ty53.zero=[.int .i64 0,.int .i64 0,.bool false,.int .i64 0,.int .i64 0,.int .i64 0,.int .i64 0,.int .i64 0,.int .i64 0,.int .i64 0,.int .i64 0,.int .i64 0,.int .i64 0,.slice true [],.bool false,.slice true [],.int .i64 0,.slice true []]:=rfl
@[go_sem] theorem Jtp:T.ty 55=ty55:=rfl
@[go_sem] theorem JAA:ty55.k=.slice 60:=rfl
@[go_sem] theorem JJ0:ty55.sz=1:=rfl
@[go_sem] theorem Jwb:ty55.bytes=24:=rfl
@[go_sem] theorem JNv:ty55.zero=[.slice true []]:=rfl
@[go_sem] theorem Jtq:T.ty 58=ty58:=rfl
@[go_sem] theorem JAB:ty58.k=.slice 110:=rfl
@[go_sem] theorem JJ1:ty58.sz=1:=rfl
@[go_sem] theorem Jwc:ty58.bytes=24:=rfl
@[go_sem] theorem JNw:ty58.zero=[.slice true []]:=rfl
@[go_sem] theorem Jtr:T.ty 59=ty59:=rfl
@[go_sem] theorem JAC : ty59.k = .struct [(0, 3, "Type"), (1, 3, "Epoch"), (2, 3, "Kind"), (3, 3, "Nonce"), (4, 3, "Turn"), (5, 27, "Adds"), (6, 37, "Gone"), (7, 25, "Err"), (8, 58, "Have"), (9, 37, "Held")] := rfl
@[go_sem] theorem JJ2:ty59.sz=10:=rfl
@[go_sem] theorem Jwd:ty59.bytes=144:=rfl
@[go_sem] theorem JNx:ty59.zero=[.int .i64 0,.int .i64 0,.int .i64 0,.int .i64 0,.int .i64 0,.slice true [],.slice true [],.int .i64 0,.slice true [],.slice true []]:=rfl
@[go_sem] theorem Jtt:T.ty 60=ty60:=rfl
@[go_sem] theorem JAE : ty60.k = .struct [(0, 3, "Type"), (1, 3, "Epoch"), (2, 3, "Kind"), (3, 3, "Nonce"), (4, 3, "Turn"), (5, 27, "Adds"), (6, 37, "Gone"), (7, 25, "Err"), (8, 58, "Have"), (9, 37, "Held")] := rfl
@[go_sem] theorem JJ4:ty60.sz=10:=rfl
@[go_sem] theorem Jwf:ty60.bytes=144:=rfl
@[go_sem] theorem JNz:ty60.zero=[.int .i64 0,.int .i64 0,.int .i64 0,.int .i64 0,.int .i64 0,.slice true [],.slice true [],.int .i64 0,.slice true [],.slice true []]:=rfl
@[go_sem] theorem Jtv:T.ty 72=ty72:=rfl
@[go_sem] theorem JAG:ty72.k=.slice 40:=rfl
@[go_sem] theorem JJ6:ty72.sz=1:=rfl
@[go_sem] theorem Jwh:ty72.bytes=24:=rfl
@[go_sem] theorem JNB:ty72.zero=[.slice true []]:=rfl
@[go_sem] theorem Jtw:T.ty 73=ty73:=rfl
@[go_sem] theorem JAH:ty73.k=.func:=rfl
@[go_sem] theorem JJ7:ty73.sz=1:=rfl
@[go_sem] theorem Jwi:ty73.bytes=8:=rfl
@[go_sem] theorem JNC:ty73.zero=[.nilf]:=rfl
@[go_sem] theorem Jtx:T.ty 74=ty74:=rfl
@[go_sem] theorem JAI:ty74.k=.slice 3:=rfl
@[go_sem] theorem JJ8:ty74.sz=1:=rfl
@[go_sem] theorem Jwj:ty74.bytes=24:=rfl
@[go_sem] theorem JND:ty74.zero=[.slice true []]:=rfl
@[go_sem] theorem Jty:T.ty 75=ty75:=rfl
@[go_sem] theorem JAJ:ty75.k=.slice 27:=rfl
@[go_sem] theorem JJ9:ty75.sz=1:=rfl
@[go_sem] theorem Jwk:ty75.bytes=24:=rfl
@[go_sem] theorem JNE:ty75.zero=[.slice true []]:=rfl
@[go_sem] theorem Jtz:T.ty 76=ty76:=rfl
@[go_sem] theorem JAK:ty76.k=.int .u64:=rfl
@[go_sem] theorem JKa:ty76.sz=1:=rfl
@[go_sem] theorem Jwl:ty76.bytes=8:=rfl
@[go_sem] theorem JNF:ty76.zero=[.int .u64 0]:=rfl
@[go_sem] theorem JtB:T.ty 80=ty80:=rfl
@[go_sem] theorem JAM : ty80.k = .struct [(0, 3, "Id"), (1, 3, "Pins"), (2, 27, "L")] := rfl
@[go_sem] theorem JKc:ty80.sz=3:=rfl
@[go_sem] theorem Jwn:ty80.bytes=40:=rfl
@[go_sem] theorem JNH:ty80.zero=[.int .i64 0,.int .i64 0,.slice true []]:=rfl
@[go_sem] theorem JtC:T.ty 81=ty81:=rfl
@[go_sem] theorem JAN : ty81.k = .struct [(0, 3, "Id"), (1, 3, "Pins"), (2, 27, "L")] := rfl
@[go_sem] theorem JKd:ty81.sz=3:=rfl
@[go_sem] theorem Jwo:ty81.bytes=40:=rfl
@[go_sem] theorem JNI:ty81.zero=[.int .i64 0,.int .i64 0,.slice true []]:=rfl
@[go_sem] theorem JtD:T.ty 85=ty85:=rfl
@[go_sem] theorem JAO:ty85.k=.slice 168:=rfl
@[go_sem] theorem JKe:ty85.sz=1:=rfl
@[go_sem] theorem Jwp:ty85.bytes=24:=rfl
@[go_sem] theorem JNJ:ty85.zero=[.slice true []]:=rfl
@[go_sem] theorem JtE:T.ty 87=ty87:=rfl
@[go_sem] theorem JAP : ty87.k = .struct [(0, 3, "Kind"), (1, 9, "Name"), (2, 3, "Ver"), (3, 3, "Port"), (4, 9, "To"), (5, 85, "Rules"), (6, 74, "Hosts")] := rfl
@[go_sem] theorem JKf:ty87.sz=7:=rfl
@[go_sem] theorem Jwq:ty87.bytes=104:=rfl
@[go_sem] theorem JNK:ty87.zero=[.int .i64 0,.str [],.int .i64 0,.int .i64 0,.str [],.slice true [],.slice true []]:=rfl
@[go_sem] theorem JtG:T.ty 90=ty90:=rfl
@[go_sem] theorem JAR : ty90.k = .struct [(0, 3, "Kind"), (1, 9, "Name")] := rfl
@[go_sem] theorem JKh:ty90.sz=2:=rfl
@[go_sem] theorem Jws:ty90.bytes=24:=rfl
@[go_sem] theorem JNM:ty90.zero=[.int .i64 0,.str []]:=rfl
@[go_sem] theorem JtH:T.ty 92=ty92:=rfl
@[go_sem] theorem JAS : ty92.k = .struct [(0, 90, "K"), (2, 3, "Ver")] := rfl
@[go_sem] theorem JKi:ty92.sz=3:=rfl
@[go_sem] theorem Jwt:ty92.bytes=32:=rfl
@[go_sem] theorem JNN:ty92.zero=[.int .i64 0,.str [],.int .i64 0]:=rfl
@[go_sem] theorem JtI:T.ty 95=ty95:=rfl
@[go_sem] theorem JAT:ty95.k=.slice 25:=rfl
@[go_sem] theorem JKj:ty95.sz=1:=rfl
@[go_sem] theorem Jwu:ty95.bytes=24:=rfl
@[go_sem] theorem JNO:ty95.zero=[.slice true []]:=rfl
@[go_sem] theorem JtJ:T.ty 96=ty96:=rfl
@[go_sem] theorem JAU:ty96.k=.func:=rfl
@[go_sem] theorem JKk:ty96.sz=1:=rfl
@[go_sem] theorem Jwv:ty96.bytes=8:=rfl
@[go_sem] theorem JNP:ty96.zero=[.nilf]:=rfl
@[go_sem] theorem Jsf:T.ty 105=ty105:=rfl
@[go_sem] theorem Jzq:ty105.k=.func:=rfl
@[go_sem] theorem JIQ:ty105.sz=1:=rfl
@[go_sem] theorem Ju1:ty105.bytes=8:=rfl
@[go_sem] theorem JMl:ty105.zero=[.nilf]:=rfl
@[go_sem] theorem Jsg:T.ty 110=ty110:=rfl
@[go_sem] theorem Jzr : ty110.k = .struct [(0, 90, "K"), (2, 3, "Ver")] := rfl
@[go_sem] theorem JIR:ty110.sz=3:=rfl
@[go_sem] theorem Ju2:ty110.bytes=32:=rfl
@[go_sem] theorem JMm:ty110.zero=[.int .i64 0,.str [],.int .i64 0]:=rfl
@[go_sem] theorem Jsh:T.ty 116=ty116:=rfl
@[go_sem] theorem Jzs:ty116.k=.func:=rfl
@[go_sem] theorem JIS:ty116.sz=1:=rfl
@[go_sem] theorem Ju3:ty116.bytes=8:=rfl
@[go_sem] theorem JMn:ty116.zero=[.nilf]:=rfl
@[go_sem] theorem Jsk:T.ty 132=ty132:=rfl
@[go_sem] theorem Jzv:ty132.k=.map 90 4:=rfl
@[go_sem] theorem JIV:ty132.sz=1:=rfl
@[go_sem] theorem Ju6:ty132.bytes=8:=rfl
@[go_sem] theorem JMq:ty132.zero=[.nilm]:=rfl
@[go_sem] theorem Jsl:T.ty 136=ty136:=rfl
@[go_sem] theorem Jzw:ty136.k=.func:=rfl
@[go_sem] theorem JIW:ty136.sz=1:=rfl
@[go_sem] theorem Ju7:ty136.bytes=8:=rfl
@[go_sem] theorem JMr:ty136.zero=[.nilf]:=rfl
@[go_sem] theorem Jsm:T.ty 139=ty139:=rfl
@[go_sem] theorem Jzx:ty139.k=.func:=rfl
@[go_sem] theorem JIX:ty139.sz=1:=rfl
@[go_sem] theorem Ju8:ty139.bytes=8:=rfl
@[go_sem] theorem JMs:ty139.zero=[.nilf]:=rfl
@[go_sem] theorem Jsn:T.ty 140=ty140:=rfl
@[go_sem] theorem Jzy:ty140.k=.func:=rfl
@[go_sem] theorem JIY:ty140.sz=1:=rfl
@[go_sem] theorem Ju9:ty140.bytes=8:=rfl
@[go_sem] theorem JMt:ty140.zero=[.nilf]:=rfl
@[go_sem] theorem Jso:T.ty 141=ty141:=rfl
@[go_sem] theorem Jzz : ty141.k = .struct [(0, 3, "Id"), (1, 3, "Pins"), (2, 27, "L")] := rfl
@[go_sem] theorem JIZ:ty141.sz=3:=rfl
@[go_sem] theorem Jva:ty141.bytes=40:=rfl
@[go_sem] theorem JMu:ty141.zero=[.int .i64 0,.int .i64 0,.slice true []]:=rfl
@[go_sem] theorem Jsq:T.ty 153=ty153:=rfl
@[go_sem] theorem JzB:ty153.k=.array 4 4:=rfl
@[go_sem] theorem JI1:ty153.sz=4:=rfl
@[go_sem] theorem Jvc:ty153.bytes=4:=rfl
@[go_sem] theorem JMw:ty153.zero=[.bool false,.bool false,.bool false,.bool false]:=rfl
@[go_sem] theorem Jsr:T.ty 155=ty155:=rfl
@[go_sem] theorem JzC : ty155.k = .struct [(0, 22, "Last"), (4, 153, "Open"), (8, 3, "Max")] := rfl
@[go_sem] theorem JI2:ty155.sz=9:=rfl
@[go_sem] theorem Jvd:ty155.bytes=48:=rfl
@[go_sem] theorem JMx:ty155.zero=[.int .i64 0,.int .i64 0,.int .i64 0,.int .i64 0,.bool false,.bool false,.bool false,.bool false,.int .i64 0]:=rfl
@[go_sem] theorem Jst:T.ty 161=ty161:=rfl
@[go_sem] theorem JzE:ty161.k=.map 3 4:=rfl
@[go_sem] theorem JI4:ty161.sz=1:=rfl
@[go_sem] theorem Jvf:ty161.bytes=8:=rfl
@[go_sem] theorem JMz:ty161.zero=[.nilm]:=rfl
@[go_sem] theorem Jsu:T.ty 166=ty166:=rfl
@[go_sem] theorem JzF:ty166.k=.slice 170:=rfl
@[go_sem] theorem JI5:ty166.sz=1:=rfl
@[go_sem] theorem Jvg:ty166.bytes=24:=rfl
@[go_sem] theorem JMA:ty166.zero=[.slice true []]:=rfl
@[go_sem] theorem Jsv:T.ty 168=ty168:=rfl
@[go_sem] theorem JzG : ty168.k = .struct [(0, 9, "Host"), (1, 9, "Prefix"), (2, 166, "Split")] := rfl
@[go_sem] theorem JI6:ty168.sz=3:=rfl
@[go_sem] theorem Jvh:ty168.bytes=56:=rfl
@[go_sem] theorem JMB:ty168.zero=[.str [],.str [],.slice true []]:=rfl
@[go_sem] theorem Jsx:T.ty 170=ty170:=rfl
@[go_sem] theorem JzI : ty170.k = .struct [(0, 9, "Cluster"), (1, 3, "W")] := rfl
@[go_sem] theorem JI8:ty170.sz=2:=rfl
@[go_sem] theorem Jvj:ty170.bytes=24:=rfl
@[go_sem] theorem JMD:ty170.zero=[.str [],.int .i64 0]:=rfl
@[go_sem] theorem Jsy:T.ty 176=ty176:=rfl
@[go_sem] theorem JzJ:ty176.k=.map 90 37:=rfl
@[go_sem] theorem JI9:ty176.sz=1:=rfl
@[go_sem] theorem Jvk:ty176.bytes=8:=rfl
@[go_sem] theorem JME:ty176.zero=[.nilm]:=rfl
@[go_sem] theorem Jsz:T.ty 178=ty178:=rfl
@[go_sem] theorem JzK:ty178.k=.func:=rfl
@[go_sem] theorem JJa:ty178.sz=1:=rfl
@[go_sem] theorem Jvl:ty178.bytes=8:=rfl
@[go_sem] theorem JMF:ty178.zero=[.nilf]:=rfl
@[go_sem] theorem JsA:T.ty 189=ty189:=rfl
@[go_sem] theorem JzL : ty189.k = .struct [(0, 48, "Warm"), (4, 4, "changed")] := rfl
@[go_sem] theorem JJb:ty189.sz=5:=rfl
@[go_sem] theorem Jvm:ty189.bytes=72:=rfl
@[go_sem] theorem JMG:ty189.zero=[.int .i64 0,.slice true [],.bool false,.slice true [],.bool false]:=rfl
@[go_sem] theorem JsB:T.ty 194=ty194:=rfl
@[go_sem] theorem JzM:ty194.k=.func:=rfl
@[go_sem] theorem JJc:ty194.sz=1:=rfl
@[go_sem] theorem Jvn:ty194.bytes=8:=rfl
@[go_sem] theorem JMH:ty194.zero=[.nilf]:=rfl
@[go_sem] theorem JsC:T.ty 196=ty196:=rfl
@[go_sem] theorem JzN:ty196.k=.func:=rfl
@[go_sem] theorem JJd:ty196.sz=1:=rfl
@[go_sem] theorem Jvo:ty196.bytes=8:=rfl
@[go_sem] theorem JMI:ty196.zero=[.nilf]:=rfl
@[go_sem] theorem JsE:T.ty 204=ty204:=rfl
@[go_sem] theorem JzP:ty204.k=.int .i64:=rfl
@[go_sem] theorem JJf:ty204.sz=1:=rfl
@[go_sem] theorem Jvq:ty204.bytes=8:=rfl
@[go_sem] theorem JMK:ty204.zero=[.int .i64 0]:=rfl
@[go_sem] theorem JsG:T.ty 212=ty212:=rfl
@[go_sem] theorem JzR:ty212.k=.int .u32:=rfl
@[go_sem] theorem JJh:ty212.sz=1:=rfl
@[go_sem] theorem Jvs:ty212.bytes=4:=rfl
@[go_sem] theorem JMM:ty212.zero=[.int .u32 0]:=rfl
@[go_sem] theorem JsH:T.ty 214=ty214:=rfl
@[go_sem] theorem JzS:ty214.k=.int .u64:=rfl
@[go_sem] theorem JJi:ty214.sz=1:=rfl
@[go_sem] theorem Jvt:ty214.bytes=8:=rfl
@[go_sem] theorem JMN:ty214.zero=[.int .u64 0]:=rfl
@[go_sem] theorem JsI:T.ty 216=ty216:=rfl
@[go_sem] theorem JzT : ty216.k = .struct [(0, 25, "e")] := rfl
@[go_sem] theorem JJj:ty216.sz=1:=rfl
@[go_sem] theorem Jvu:ty216.bytes=8:=rfl
@[go_sem] theorem JMO:ty216.zero=[.int .i64 0]:=rfl
@[go_sem] theorem JsJ:T.ty 219=ty219:=rfl
@[go_sem] theorem JzU:ty219.k=.func:=rfl
@[go_sem] theorem JJk:ty219.sz=1:=rfl
@[go_sem] theorem Jvv:ty219.bytes=8:=rfl
@[go_sem] theorem JMP:ty219.zero=[.nilf]:=rfl
@[go_sem] theorem JsL:T.ty 226=ty226:=rfl
@[go_sem] theorem JzW:ty226.k=.func:=rfl
@[go_sem] theorem JJm:ty226.sz=1:=rfl
@[go_sem] theorem Jvx:ty226.bytes=8:=rfl
@[go_sem] theorem JMR:ty226.zero=[.nilf]:=rfl
@[go_sem] theorem JsM:T.ty 228=ty228:=rfl
@[go_sem] theorem JzX : ty228.k = .struct [(0, 4, "port"), (1, 4, "to"), (2, 4, "rules"), (3, 4, "hosts")] := rfl
@[go_sem] theorem JJn:ty228.sz=4:=rfl
@[go_sem] theorem Jvy:ty228.bytes=4:=rfl
@[go_sem] theorem JMS:ty228.zero=[.bool false,.bool false,.bool false,.bool false]:=rfl
@[go_sem] theorem JsN:T.ty 232=ty232:=rfl
@[go_sem] theorem JzY:ty232.k=.func:=rfl
@[go_sem] theorem JJo:ty232.sz=1:=rfl
@[go_sem] theorem Jvz:ty232.bytes=8:=rfl
@[go_sem] theorem JMT:ty232.zero=[.nilf]:=rfl
@[go_sem] theorem JsO:T.ty 234=ty234:=rfl
@[go_sem] theorem JzZ:ty234.k=.int .u64:=rfl
@[go_sem] theorem JJp:ty234.sz=1:=rfl
@[go_sem] theorem JvA:ty234.bytes=8:=rfl
@[go_sem] theorem JMU:ty234.zero=[.int .u64 0]:=rfl
@[go_sem] theorem JsP:T.ty 238=ty238:=rfl
@[go_sem] theorem Jz0:ty238.k=.ptr 3:=rfl
@[go_sem] theorem JJq:ty238.sz=1:=rfl
@[go_sem] theorem JvB:ty238.bytes=8:=rfl
@[go_sem] theorem JMV:ty238.zero=[.nilp]:=rfl
@[go_sem] theorem JsR:T.ty 246=ty246:=rfl
@[go_sem] theorem Jz2:ty246.k=.ptr 234:=rfl
@[go_sem] theorem JJs:ty246.sz=1:=rfl
@[go_sem] theorem JvD:ty246.bytes=8:=rfl
@[go_sem] theorem JMX:ty246.zero=[.nilp]:=rfl
@[go_sem] theorem JsU:T.ty 269=ty269:=rfl
@[go_sem] theorem Jz5 : ty269.k = .struct [(0, 17, "_interface"), (1, 17, "concrete"), (2, 17, "asserted"), (3, 9, "missingMethod")] := rfl
@[go_sem] theorem JJv:ty269.sz=4:=rfl
@[go_sem] theorem JvG:ty269.bytes=40:=rfl
@[go_sem] theorem JM0:ty269.zero=[.nilp,.nilp,.nilp,.str []]:=rfl
@[go_sem] theorem JsW:T.ty 270=ty270:=rfl
@[go_sem] theorem Jz7:ty270.k=.array 0 16:=rfl
@[go_sem] theorem JJx:ty270.sz=0:=rfl
@[go_sem] theorem JvI:ty270.bytes=0:=rfl
@[go_sem] theorem JM2:ty270.zero=[]:=rfl
@[go_sem] theorem JsX:T.ty 272=ty272:=rfl
@[go_sem] theorem Jz8 : ty272.k = .struct [(0, 270, "_")] := rfl
@[go_sem] theorem JJy:ty272.sz=0:=rfl
@[go_sem] theorem JvJ:ty272.bytes=0:=rfl
@[go_sem] theorem JM3:ty272.zero=[]:=rfl
@[go_sem] theorem JsY:T.ty 273=ty273:=rfl
@[go_sem] theorem Jz9:ty273.k=.int .u8:=rfl
@[go_sem] theorem JJz:ty273.sz=1:=rfl
@[go_sem] theorem JvK:ty273.bytes=1:=rfl
@[go_sem] theorem JM4:ty273.zero=[.int .u8 0]:=rfl
@[go_sem] theorem JsZ:T.ty 274=ty274:=rfl
@[go_sem] theorem JAa:ty274.k=.int .u8:=rfl
@[go_sem] theorem JJA:ty274.sz=1:=rfl
@[go_sem] theorem JvL:ty274.bytes=1:=rfl
@[go_sem] theorem JM5:ty274.zero=[.int .u8 0]:=rfl
@[go_sem] theorem Js0:T.ty 275=ty275:=rfl
@[go_sem] theorem JAb:ty275.k=.func:=rfl
@[go_sem] theorem JJB:ty275.sz=1:=rfl
@[go_sem] theorem JvM:ty275.bytes=8:=rfl
@[go_sem] theorem JM6:ty275.zero=[.nilf]:=rfl
@[go_sem] theorem Js1:T.ty 276=ty276:=rfl
@[go_sem] theorem JAc:ty276.k=.ptr 5:=rfl
@[go_sem] theorem JJC:ty276.sz=1:=rfl
@[go_sem] theorem JvN:ty276.bytes=8:=rfl
@[go_sem] theorem JM7:ty276.zero=[.nilp]:=rfl
@[go_sem] theorem Js2:T.ty 277=ty277:=rfl
@[go_sem] theorem JAd:ty277.k=.int .i32:=rfl
@[go_sem] theorem JJD:ty277.sz=1:=rfl
@[go_sem] theorem JvO:ty277.bytes=4:=rfl
@[go_sem] theorem JM8:ty277.zero=[.int .i32 0]:=rfl
@[go_sem] theorem Js3:T.ty 278=ty278:=rfl
@[go_sem] theorem JAe:ty278.k=.int .i32:=rfl
@[go_sem] theorem JJE:ty278.sz=1:=rfl
@[go_sem] theorem JvP:ty278.bytes=4:=rfl
@[go_sem] theorem JM9:ty278.zero=[.int .i32 0]:=rfl
@[go_sem] theorem Js4:T.ty 280=ty280:=rfl
@[go_sem] theorem JAf : ty280.k = .struct [(0, 12, "Size_"), (1, 12, "PtrBytes"), (2, 212, "Hash"), (3, 273, "TFlag"), (4, 5, "Align_"), (5, 5, "FieldAlign_"), (6, 274, "Kind_"), (7, 275, "Equal"), (8, 276, "GCData"), (9, 277, "Str"), (10, 278, "PtrToThis")] := rfl
@[go_sem] theorem JJF:ty280.sz=11:=rfl
@[go_sem] theorem JvQ:ty280.bytes=48:=rfl
@[go_sem] theorem JNa:ty280.zero=[.int .u64 0,.int .u64 0,.int .u32 0,.int .u8 0,.int .u8 0,.int .u8 0,.int .u8 0,.nilf,.nilp,.int .i32 0,.int .i32 0]:=rfl
@[go_sem] theorem Jxy:Tryz.prog.eqGuardType Tryz.prog.depth 90=false:=by kernel_rfl
@[go_sem] theorem JIL:Tryz.prog.stoodInHeld 90=false:=by kernel_rfl
@[go_sem] theorem Jxv:Tryz.prog.eqGuardType Tryz.prog.depth 170=false:=by kernel_rfl
@[go_sem] theorem JII:Tryz.prog.stoodInHeld 170=false:=by kernel_rfl
@[go_sem] theorem Jxw:Tryz.prog.eqGuardType Tryz.prog.depth 216=false:=by kernel_rfl
@[go_sem] theorem JIJ:Tryz.prog.stoodInHeld 216=false:=by kernel_rfl
@[go_sem] theorem Jxx:Tryz.prog.eqGuardType Tryz.prog.depth 228=false:=by kernel_rfl
@[go_sem] theorem JIK:Tryz.prog.stoodInHeld 228=false:=by kernel_rfl
theorem mixed:Tryz.prog.follows .mixedOrders=true:=by kernel_rfl
@[ext] structure BoundsError where
 x:Int
 y:Int
 signed:Bool
 code:UInt8
 deriving Inhabited,DecidableEq
instance:Dat BoundsError where
 av x:=.agg [.int .i64 x.x,.int .i64 x.y,.bool x.signed,.int .u8 x.code.toNat]
 sz:=4
 len _:=rfl
 pure x:=by simp only[go_sem,Bool.and_self]
 nrm x:=by simp only[go_sem]
 one x:=by simp only[go_sem,List.all_cons,List.all_nil,Bool.and_self]
 known x:=rfl
@[go_sem] theorem JkE(x:BoundsError):Dat.av x=.agg [.int .i64 x.x,.int .i64 x.y,.bool x.signed,.int .u8 x.code.toNat]:=rfl
@[go_sem] theorem JKn:Dat.sz BoundsError=4:=rfl
@[go_sem] theorem JHK(l:List BoundsError)(n:Nat)(f0:Int)(f1:Int)(f2:Bool)(f3:UInt8):(Ja l).set n (.agg [.int .i64 f0,.int .i64 f1,.bool f2,.int .u8 f3.toNat])=Ja (l.set n ⟨f0,f1,f2,f3⟩):=Vd l n (⟨f0,f1,f2,f3⟩:BoundsError)
@[go_sem] theorem JIl(l:List BoundsError)(f0:Int)(f1:Int)(f2:Bool)(f3:UInt8):Ja l++[.agg [.int .i64 f0,.int .i64 f1,.bool f2,.int .u8 f3.toNat]]=Ja (l++[⟨f0,f1,f2,f3⟩]):=by rw[J7];rfl
@[go_sem] theorem Jlw:∀l:List BoundsError,AV.flat.flatL (Ja l)=true
 | []=>rfl
 |_ :: r=>by simp only[Yx,AV.flat.flatL,Jlw r,JkE,AV.flat,Bool.and_self]
@[go_sem] theorem JxF(x:BoundsError):BoundsError.mk x.x x.y x.signed x.code=x:=rfl
@[ext] structure Four where
 a0:Int
 a1:Int
 a2:Int
 a3:Int
 deriving Inhabited,DecidableEq
instance:Dat Four where
 av x:=.agg [.int .i64 x.a0,.int .i64 x.a1,.int .i64 x.a2,.int .i64 x.a3]
 sz:=4
 len _:=rfl
 pure x:=by simp only[go_sem,Bool.and_self]
 nrm x:=by simp only[go_sem]
 one x:=by simp only[go_sem,List.all_cons,List.all_nil,Bool.and_self]
 known x:=rfl
@[go_sem] theorem JkG(x:Four):Dat.av x=.agg [.int .i64 x.a0,.int .i64 x.a1,.int .i64 x.a2,.int .i64 x.a3]:=rfl
@[go_sem] theorem JKq:Dat.sz Four=4:=rfl
@[go_sem] theorem JHN(l:List Four)(n:Nat)(f0:Int)(f1:Int)(f2:Int)(f3:Int):(Ja l).set n (.agg [.int .i64 f0,.int .i64 f1,.int .i64 f2,.int .i64 f3])=Ja (l.set n ⟨f0,f1,f2,f3⟩):=Vd l n (⟨f0,f1,f2,f3⟩:Four)
@[go_sem] theorem JIo(l:List Four)(f0:Int)(f1:Int)(f2:Int)(f3:Int):Ja l++[.agg [.int .i64 f0,.int .i64 f1,.int .i64 f2,.int .i64 f3]]=Ja (l++[⟨f0,f1,f2,f3⟩]):=by rw[J7];rfl
@[go_sem] theorem Jly:∀l:List Four,AV.flat.flatL (Ja l)=true
 | []=>rfl
 |_ :: r=>by simp only[Yx,AV.flat.flatL,Jly r,JkG,AV.flat,Bool.and_self]
@[go_sem] theorem JxI(x:Four):Four.mk x.a0 x.a1 x.a2 x.a3=x:=rfl
@[ext] structure In where
 last:Four
 max:Int
 deriving Inhabited,DecidableEq
instance:Dat In where
 av x:=.agg [.int .i64 x.last.a0,.int .i64 x.last.a1,.int .i64 x.last.a2,.int .i64 x.last.a3,.int .i64 x.max]
 sz:=5
 len _:=rfl
 pure x:=by simp only[go_sem,Bool.and_self]
 nrm x:=by simp only[go_sem]
 one x:=by simp only[go_sem,List.all_cons,List.all_nil,Bool.and_self]
 known x:=rfl
@[go_sem] theorem JkI(x:In):Dat.av x=.agg [.int .i64 x.last.a0,.int .i64 x.last.a1,.int .i64 x.last.a2,.int .i64 x.last.a3,.int .i64 x.max]:=rfl
@[go_sem] theorem JKt:Dat.sz In=5:=rfl
@[go_sem] theorem JHQ(l:List In)(n:Nat)(f0:Four)(f1:Int):(Ja l).set n (.agg [.int .i64 f0.a0,.int .i64 f0.a1,.int .i64 f0.a2,.int .i64 f0.a3,.int .i64 f1])=Ja (l.set n ⟨f0,f1⟩):=Vd l n (⟨f0,f1⟩:In)
@[go_sem] theorem JIr(l:List In)(f0:Four)(f1:Int):Ja l++[.agg [.int .i64 f0.a0,.int .i64 f0.a1,.int .i64 f0.a2,.int .i64 f0.a3,.int .i64 f1]]=Ja (l++[⟨f0,f1⟩]):=by rw[J7];rfl
@[go_sem] theorem JlA:∀l:List In,AV.flat.flatL (Ja l)=true
 | []=>rfl
 |_ :: r=>by simp only[Yx,AV.flat.flatL,JlA r,JkI,AV.flat,Bool.and_self]
@[go_sem] theorem JxL(x:In):In.mk x.last x.max=x:=rfl
@[ext] structure Weight where
 cluster:List UInt8
 w:Int
 deriving Inhabited,DecidableEq
instance:Dat Weight where
 av x:=.agg [.str x.cluster,.int .i64 x.w]
 sz:=2
 len _:=rfl
 pure x:=by simp only[go_sem,Bool.and_self]
 nrm x:=by simp only[go_sem]
 one x:=by simp only[go_sem,List.all_cons,List.all_nil,Bool.and_self]
 known x:=rfl
@[go_sem] theorem JkM(x:Weight):Dat.av x=.agg [.str x.cluster,.int .i64 x.w]:=rfl
@[go_sem] theorem JKG:Dat.sz Weight=2:=rfl
@[go_sem] theorem JH4(l:List Weight)(n:Nat)(f0:List UInt8)(f1:Int):(Ja l).set n (.agg [.str f0,.int .i64 f1])=Ja (l.set n ⟨f0,f1⟩):=Vd l n (⟨f0,f1⟩:Weight)
@[go_sem] theorem JIG(l:List Weight)(f0:List UInt8)(f1:Int):Ja l++[.agg [.str f0,.int .i64 f1]]=Ja (l++[⟨f0,f1⟩]):=by rw[J7];rfl
@[go_sem] theorem JlG:∀l:List Weight,AV.flat.flatL (Ja l)=true
 | []=>rfl
 |_ :: r=>by simp only[Yx,AV.flat.flatL,JlG r,JkM,AV.flat,Bool.and_self]
theorem JdQ(x y:Weight):x=y↔x.cluster=y.cluster∧x.w=y.w:=by cases x;cases y;simp
@[go_sem] theorem JxW(x:Weight):Weight.mk x.cluster x.w=x:=rfl
@[ext] structure Rule where
 host:List UInt8
 pfx:List UInt8
 split:List Weight
 deriving Inhabited,DecidableEq
instance:Dat Rule where
 av x:=.agg [.str x.host,.str x.pfx,.slice false (Ja x.split)]
 sz:=3
 len _:=rfl
 pure x:=by simp only[go_sem,Bool.and_self]
 nrm x:=by simp only[go_sem]
 one x:=by simp only[go_sem,List.all_cons,List.all_nil,Bool.and_self]
 known x:=rfl
@[go_sem] theorem Juh(x:Rule):Dat.av x=.agg [.str x.host,.str x.pfx,.slice false (Ja x.split)]:=rfl
@[go_sem] theorem JKC:Dat.sz Rule=3:=rfl
@[go_sem] theorem JHY(l:List Rule)(n:Nat)(f0:List UInt8)(f1:List UInt8)(f2:List Weight):(Ja l).set n (.agg [.str f0,.str f1,.slice false (Ja f2)])=Ja (l.set n ⟨f0,f1,f2⟩):=Vd l n (⟨f0,f1,f2⟩:Rule)
@[go_sem] theorem JIA(l:List Rule)(f0:List UInt8)(f1:List UInt8)(f2:List Weight):Ja l++[.agg [.str f0,.str f1,.slice false (Ja f2)]]=Ja (l++[⟨f0,f1,f2⟩]):=by rw[J7];rfl
theorem JhD(x y:Rule):x=y↔x.host=y.host∧x.pfx=y.pfx∧x.split=y.split:=by cases x;cases y;simp
@[go_sem] theorem JxS(x:Rule):Rule.mk x.host x.pfx x.split=x:=rfl
@[ext] structure Res where
 kind:Int
 name:List UInt8
 ver:Int
 port:Int
 to':List UInt8
 rules':List Rule
 hosts:List Int
 deriving Inhabited,DecidableEq
instance:Dat Res where
 av x:=.agg [.int .i64 x.kind,.str x.name,.int .i64 x.ver,.int .i64 x.port,.str x.to',.slice false (Ja x.rules'),.slice false (Ja x.hosts)]
 sz:=7
 len _:=rfl
 pure x:=by simp only[go_sem,Bool.and_self]
 nrm x:=by simp only[go_sem]
 one x:=by simp only[go_sem,List.all_cons,List.all_nil,Bool.and_self]
 known x:=rfl
@[go_sem] theorem Jug(x:Res):Dat.av x=.agg [.int .i64 x.kind,.str x.name,.int .i64 x.ver,.int .i64 x.port,.str x.to',.slice false (Ja x.rules'),.slice false (Ja x.hosts)]:=rfl
@[go_sem] theorem JKB:Dat.sz Res=7:=rfl
@[go_sem] theorem JHX(l:List Res)(n:Nat)(f0:Int)(f1:List UInt8)(f2:Int)(f3:Int)(f4:List UInt8)(f5:List Rule)(f6:List Int):(Ja l).set n (.agg [.int .i64 f0,.str f1,.int .i64 f2,.int .i64 f3,.str f4,.slice false (Ja f5),.slice false (Ja f6)])=Ja (l.set n ⟨f0,f1,f2,f3,f4,f5,f6⟩):=Vd l n (⟨f0,f1,f2,f3,f4,f5,f6⟩:Res)
@[go_sem] theorem JIz(l:List Res)(f0:Int)(f1:List UInt8)(f2:Int)(f3:Int)(f4:List UInt8)(f5:List Rule)(f6:List Int):Ja l++[.agg [.int .i64 f0,.str f1,.int .i64 f2,.int .i64 f3,.str f4,.slice false (Ja f5),.slice false (Ja f6)]]=Ja (l++[⟨f0,f1,f2,f3,f4,f5,f6⟩]):=by rw[J7];rfl
@[go_sem] theorem JxR(x:Res):Res.mk x.kind x.name x.ver x.port x.to' x.rules' x.hosts=x:=rfl
@[ext] structure Cache where
 cap:Int
 l:List Res
 deriving Inhabited,DecidableEq
instance:Dat Cache where
 av x:=.agg [.int .i64 x.cap,.slice false (Ja x.l)]
 sz:=2
 len _:=rfl
 pure x:=by simp only[go_sem,Bool.and_self]
 nrm x:=by simp only[go_sem]
 one x:=by simp only[go_sem,List.all_cons,List.all_nil,Bool.and_self]
 known x:=rfl
@[go_sem] theorem Jub(x:Cache):Dat.av x=.agg [.int .i64 x.cap,.slice false (Ja x.l)]:=rfl
@[go_sem] theorem JKo:Dat.sz Cache=2:=rfl
@[go_sem] theorem JHL(l:List Cache)(n:Nat)(f0:Int)(f1:List Res):(Ja l).set n (.agg [.int .i64 f0,.slice false (Ja f1)])=Ja (l.set n ⟨f0,f1⟩):=Vd l n (⟨f0,f1⟩:Cache)
@[go_sem] theorem JIm(l:List Cache)(f0:Int)(f1:List Res):Ja l++[.agg [.int .i64 f0,.slice false (Ja f1)]]=Ja (l++[⟨f0,f1⟩]):=by rw[J7];rfl
@[go_sem] theorem JxG(x:Cache):Cache.mk x.cap x.l=x:=rfl
@[ext] structure Warm where
 c:Cache
 ready:Bool
 shown:List Res
 deriving Inhabited,DecidableEq
instance:Dat Warm where
 av x:=.agg [.int .i64 x.c.cap,.slice false (Ja x.c.l),.bool x.ready,.slice false (Ja x.shown)]
 sz:=4
 len _:=rfl
 pure x:=by simp only[go_sem,Bool.and_self]
 nrm x:=by simp only[go_sem]
 one x:=by simp only[go_sem,List.all_cons,List.all_nil,Bool.and_self]
 known x:=rfl
@[go_sem] theorem Juk(x:Warm):Dat.av x=.agg [.int .i64 x.c.cap,.slice false (Ja x.c.l),.bool x.ready,.slice false (Ja x.shown)]:=rfl
@[go_sem] theorem JKF:Dat.sz Warm=4:=rfl
@[go_sem] theorem JH3(l:List Warm)(n:Nat)(f0:Cache)(f1:Bool)(f2:List Res):(Ja l).set n (.agg [.int .i64 f0.cap,.slice false (Ja f0.l),.bool f1,.slice false (Ja f2)])=Ja (l.set n ⟨f0,f1,f2⟩):=Vd l n (⟨f0,f1,f2⟩:Warm)
@[go_sem] theorem JIF(l:List Warm)(f0:Cache)(f1:Bool)(f2:List Res):Ja l++[.agg [.int .i64 f0.cap,.slice false (Ja f0.l),.bool f1,.slice false (Ja f2)]]=Ja (l++[⟨f0,f1,f2⟩]):=by rw[J7];rfl
@[go_sem] theorem JxV(x:Warm):Warm.mk x.c x.ready x.shown=x:=rfl
@[ext] structure Snap where
 id:Int
 pins:Int
 l:List Res
 deriving Inhabited,DecidableEq
instance:Dat Snap where
 av x:=.agg [.int .i64 x.id,.int .i64 x.pins,.slice false (Ja x.l)]
 sz:=3
 len _:=rfl
 pure x:=by simp only[go_sem,Bool.and_self]
 nrm x:=by simp only[go_sem]
 one x:=by simp only[go_sem,List.all_cons,List.all_nil,Bool.and_self]
 known x:=rfl
@[go_sem] theorem Juj(x:Snap):Dat.av x=.agg [.int .i64 x.id,.int .i64 x.pins,.slice false (Ja x.l)]:=rfl
@[go_sem] theorem JKE:Dat.sz Snap=3:=rfl
@[go_sem] theorem JH0(l:List Snap)(n:Nat)(f0:Int)(f1:Int)(f2:List Res):(Ja l).set n (.agg [.int .i64 f0,.int .i64 f1,.slice false (Ja f2)])=Ja (l.set n ⟨f0,f1,f2⟩):=Vd l n (⟨f0,f1,f2⟩:Snap)
@[go_sem] theorem JIC(l:List Snap)(f0:Int)(f1:Int)(f2:List Res):Ja l++[.agg [.int .i64 f0,.int .i64 f1,.slice false (Ja f2)]]=Ja (l++[⟨f0,f1,f2⟩]):=by rw[J7];rfl
@[go_sem] theorem JxU(x:Snap):Snap.mk x.id x.pins x.l=x:=rfl
@[ext] structure Pins where
 next':Int
 snaps:List Snap
 deriving Inhabited,DecidableEq
instance:Dat Pins where
 av x:=.agg [.int .i64 x.next',.slice false (Ja x.snaps)]
 sz:=2
 len _:=rfl
 pure x:=by simp only[go_sem,Bool.and_self]
 nrm x:=by simp only[go_sem]
 one x:=by simp only[go_sem,List.all_cons,List.all_nil,Bool.and_self]
 known x:=rfl
@[go_sem] theorem JkL(x:Pins):Dat.av x=.agg [.int .i64 x.next',.slice false (Ja x.snaps)]:=rfl
@[go_sem] theorem JKA:Dat.sz Pins=2:=rfl
@[go_sem] theorem JHW(l:List Pins)(n:Nat)(f0:Int)(f1:List Snap):(Ja l).set n (.agg [.int .i64 f0,.slice false (Ja f1)])=Ja (l.set n ⟨f0,f1⟩):=Vd l n (⟨f0,f1⟩:Pins)
@[go_sem] theorem JIy(l:List Pins)(f0:Int)(f1:List Snap):Ja l++[.agg [.int .i64 f0,.slice false (Ja f1)]]=Ja (l++[⟨f0,f1⟩]):=by rw[J7];rfl
@[go_sem] theorem JxQ(x:Pins):Pins.mk x.next' x.snaps=x:=rfl
@[ext] structure Side where
 epoch:Int
 turn:Int
 up:Bool
 in':In
 errs:Four
 w:Warm
 p:Pins
 deriving Inhabited,DecidableEq
instance:Dat Side where
 av x:=.agg [.int .i64 x.epoch,.int .i64 x.turn,.bool x.up,.int .i64 x.in'.last.a0,.int .i64 x.in'.last.a1,.int .i64 x.in'.last.a2,.int .i64 x.in'.last.a3,.int .i64 x.in'.max,.int .i64 x.errs.a0,.int .i64 x.errs.a1,.int .i64 x.errs.a2,.int .i64 x.errs.a3,.int .i64 x.w.c.cap,.slice false (Ja x.w.c.l),.bool x.w.ready,.slice false (Ja x.w.shown),.int .i64 x.p.next',.slice false (Ja x.p.snaps)]
 sz:=18
 len _:=rfl
 pure x:=by simp only[go_sem,Bool.and_self]
 nrm x:=by simp only[go_sem]
 one x:=by simp only[go_sem,List.all_cons,List.all_nil,Bool.and_self]
 known x:=rfl
@[go_sem] theorem Jui(x:Side):Dat.av x=.agg [.int .i64 x.epoch,.int .i64 x.turn,.bool x.up,.int .i64 x.in'.last.a0,.int .i64 x.in'.last.a1,.int .i64 x.in'.last.a2,.int .i64 x.in'.last.a3,.int .i64 x.in'.max,.int .i64 x.errs.a0,.int .i64 x.errs.a1,.int .i64 x.errs.a2,.int .i64 x.errs.a3,.int .i64 x.w.c.cap,.slice false (Ja x.w.c.l),.bool x.w.ready,.slice false (Ja x.w.shown),.int .i64 x.p.next',.slice false (Ja x.p.snaps)]:=rfl
@[go_sem] theorem JKD:Dat.sz Side=18:=rfl
@[go_sem] theorem JHZ(l:List Side)(n:Nat)(f0:Int)(f1:Int)(f2:Bool)(f3:In)(f4:Four)(f5:Warm)(f6:Pins):(Ja l).set n (.agg [.int .i64 f0,.int .i64 f1,.bool f2,.int .i64 f3.last.a0,.int .i64 f3.last.a1,.int .i64 f3.last.a2,.int .i64 f3.last.a3,.int .i64 f3.max,.int .i64 f4.a0,.int .i64 f4.a1,.int .i64 f4.a2,.int .i64 f4.a3,.int .i64 f5.c.cap,.slice false (Ja f5.c.l),.bool f5.ready,.slice false (Ja f5.shown),.int .i64 f6.next',.slice false (Ja f6.snaps)])=Ja (l.set n ⟨f0,f1,f2,f3,f4,f5,f6⟩):=Vd l n (⟨f0,f1,f2,f3,f4,f5,f6⟩:Side)
@[go_sem] theorem JIB(l:List Side)(f0:Int)(f1:Int)(f2:Bool)(f3:In)(f4:Four)(f5:Warm)(f6:Pins):Ja l++[.agg [.int .i64 f0,.int .i64 f1,.bool f2,.int .i64 f3.last.a0,.int .i64 f3.last.a1,.int .i64 f3.last.a2,.int .i64 f3.last.a3,.int .i64 f3.max,.int .i64 f4.a0,.int .i64 f4.a1,.int .i64 f4.a2,.int .i64 f4.a3,.int .i64 f5.c.cap,.slice false (Ja f5.c.l),.bool f5.ready,.slice false (Ja f5.shown),.int .i64 f6.next',.slice false (Ja f6.snaps)]]=Ja (l++[⟨f0,f1,f2,f3,f4,f5,f6⟩]):=by rw[J7];rfl
@[go_sem] theorem JxT(x:Side):Side.mk x.epoch x.turn x.up x.in' x.errs x.w x.p=x:=rfl
@[ext] structure Key where
 kind:Int
 name:List UInt8
 deriving Inhabited,DecidableEq
instance:Dat Key where
 av x:=.agg [.int .i64 x.kind,.str x.name]
 sz:=2
 len _:=rfl
 pure x:=by simp only[go_sem,Bool.and_self]
 nrm x:=by simp only[go_sem]
 one x:=by simp only[go_sem,List.all_cons,List.all_nil,Bool.and_self]
 known x:=rfl
@[go_sem] theorem Jfb(x:Key):Dat.av x=.agg [.int .i64 x.kind,.str x.name]:=rfl
@[go_sem] theorem JKu:Dat.sz Key=2:=rfl
@[go_sem] theorem JHS(l:List Key)(n:Nat)(f0:Int)(f1:List UInt8):(Ja l).set n (.agg [.int .i64 f0,.str f1])=Ja (l.set n ⟨f0,f1⟩):=Vd l n (⟨f0,f1⟩:Key)
@[go_sem] theorem JIt(l:List Key)(f0:Int)(f1:List UInt8):Ja l++[.agg [.int .i64 f0,.str f1]]=Ja (l++[⟨f0,f1⟩]):=by rw[J7];rfl
@[go_sem] theorem JlC:∀l:List Key,AV.flat.flatL (Ja l)=true
 | []=>rfl
 |_ :: r=>by simp only[Yx,AV.flat.flatL,JlC r,Jfb,AV.flat,Bool.and_self]
theorem Jax(x y:Key):x=y↔x.kind=y.kind∧x.name=y.name:=by cases x;cases y;simp
@[go_sem] theorem JxM(x:Key):Key.mk x.kind x.name=x:=rfl
@[ext] structure Mark where
 k:Key
 ver:Int
 deriving Inhabited,DecidableEq
instance:Dat Mark where
 av x:=.agg [.int .i64 x.k.kind,.str x.k.name,.int .i64 x.ver]
 sz:=3
 len _:=rfl
 pure x:=by simp only[go_sem,Bool.and_self]
 nrm x:=by simp only[go_sem]
 one x:=by simp only[go_sem,List.all_cons,List.all_nil,Bool.and_self]
 known x:=rfl
@[go_sem] theorem JkJ(x:Mark):Dat.av x=.agg [.int .i64 x.k.kind,.str x.k.name,.int .i64 x.ver]:=rfl
@[go_sem] theorem JKx:Dat.sz Mark=3:=rfl
@[go_sem] theorem JHT(l:List Mark)(n:Nat)(f0:Key)(f1:Int):(Ja l).set n (.agg [.int .i64 f0.kind,.str f0.name,.int .i64 f1])=Ja (l.set n ⟨f0,f1⟩):=Vd l n (⟨f0,f1⟩:Mark)
@[go_sem] theorem JIv(l:List Mark)(f0:Key)(f1:Int):Ja l++[.agg [.int .i64 f0.kind,.str f0.name,.int .i64 f1]]=Ja (l++[⟨f0,f1⟩]):=by rw[J7];rfl
@[go_sem] theorem JlD:∀l:List Mark,AV.flat.flatL (Ja l)=true
 | []=>rfl
 |_ :: r=>by simp only[Yx,AV.flat.flatL,JlD r,JkJ,AV.flat,Bool.and_self]
theorem JhC(x y:Mark):x=y↔x.k=y.k∧x.ver=y.ver:=by cases x;cases y;simp
@[go_sem] theorem JxN(x:Mark):Mark.mk x.k x.ver=x:=rfl
@[ext] structure Frame where
 type:Int
 epoch:Int
 kind:Int
 nonce:Int
 turn:Int
 adds:List Res
 gone:List Key
 err:Int
 have':List Mark
 held:List Key
 deriving Inhabited,DecidableEq
instance:Dat Frame where
 av x:=.agg [.int .i64 x.type,.int .i64 x.epoch,.int .i64 x.kind,.int .i64 x.nonce,.int .i64 x.turn,.slice false (Ja x.adds),.slice false (Ja x.gone),.int .i64 x.err,.slice false (Ja x.have'),.slice false (Ja x.held)]
 sz:=10
 len _:=rfl
 pure x:=by simp only[go_sem,Bool.and_self]
 nrm x:=by simp only[go_sem]
 one x:=by simp only[go_sem,List.all_cons,List.all_nil,Bool.and_self]
 known x:=rfl
@[go_sem] theorem Juc(x:Frame):Dat.av x=.agg [.int .i64 x.type,.int .i64 x.epoch,.int .i64 x.kind,.int .i64 x.nonce,.int .i64 x.turn,.slice false (Ja x.adds),.slice false (Ja x.gone),.int .i64 x.err,.slice false (Ja x.have'),.slice false (Ja x.held)]:=rfl
@[go_sem] theorem JKr:Dat.sz Frame=10:=rfl
@[go_sem] theorem JHO(l:List Frame)(n:Nat)(f0:Int)(f1:Int)(f2:Int)(f3:Int)(f4:Int)(f5:List Res)(f6:List Key)(f7:Int)(f8:List Mark)(f9:List Key):(Ja l).set n (.agg [.int .i64 f0,.int .i64 f1,.int .i64 f2,.int .i64 f3,.int .i64 f4,.slice false (Ja f5),.slice false (Ja f6),.int .i64 f7,.slice false (Ja f8),.slice false (Ja f9)])=Ja (l.set n ⟨f0,f1,f2,f3,f4,f5,f6,f7,f8,f9⟩):=Vd l n (⟨f0,f1,f2,f3,f4,f5,f6,f7,f8,f9⟩:Frame)
@[go_sem] theorem JIp(l:List Frame)(f0:Int)(f1:Int)(f2:Int)(f3:Int)(f4:Int)(f5:List Res)(f6:List Key)(f7:Int)(f8:List Mark)(f9:List Key):Ja l++[.agg [.int .i64 f0,.int .i64 f1,.int .i64 f2,.int .i64 f3,.int .i64 f4,.slice false (Ja f5),.slice false (Ja f6),.int .i64 f7,.slice false (Ja f8),.slice false (Ja f9)]]=Ja (l++[⟨f0,f1,f2,f3,f4,f5,f6,f7,f8,f9⟩]):=by rw[J7];rfl
theorem Jlo(x y:Frame):x=y↔x.type=y.type∧x.epoch=y.epoch∧x.kind=y.kind∧x.nonce=y.nonce∧x.turn=y.turn∧x.adds=y.adds∧x.gone=y.gone∧x.err=y.err∧x.have'=y.have'∧x.held=y.held:=by cases x;cases y;simp
@[go_sem] theorem JxJ(x:Frame):Frame.mk x.type x.epoch x.kind x.nonce x.turn x.adds x.gone x.err x.have' x.held=x:=rfl
@[ext] structure Flags where
 a0:Bool
 a1:Bool
 a2:Bool
 a3:Bool
 deriving Inhabited,DecidableEq
instance:Dat Flags where
 av x:=.agg [.bool x.a0,.bool x.a1,.bool x.a2,.bool x.a3]
 sz:=4
 len _:=rfl
 pure x:=by simp only[go_sem,Bool.and_self]
 nrm x:=by simp only[go_sem]
 one x:=by simp only[go_sem,List.all_cons,List.all_nil,Bool.and_self]
 known x:=rfl
@[go_sem] theorem JkF(x:Flags):Dat.av x=.agg [.bool x.a0,.bool x.a1,.bool x.a2,.bool x.a3]:=rfl
@[go_sem] theorem JKp:Dat.sz Flags=4:=rfl
@[go_sem] theorem JHM(l:List Flags)(n:Nat)(f0:Bool)(f1:Bool)(f2:Bool)(f3:Bool):(Ja l).set n (.agg [.bool f0,.bool f1,.bool f2,.bool f3])=Ja (l.set n ⟨f0,f1,f2,f3⟩):=Vd l n (⟨f0,f1,f2,f3⟩:Flags)
@[go_sem] theorem JIn(l:List Flags)(f0:Bool)(f1:Bool)(f2:Bool)(f3:Bool):Ja l++[.agg [.bool f0,.bool f1,.bool f2,.bool f3]]=Ja (l++[⟨f0,f1,f2,f3⟩]):=by rw[J7];rfl
@[go_sem] theorem Jlx:∀l:List Flags,AV.flat.flatL (Ja l)=true
 | []=>rfl
 |_ :: r=>by simp only[Yx,AV.flat.flatL,Jlx r,JkF,AV.flat,Bool.and_self]
@[go_sem] theorem JxH(x:Flags):Flags.mk x.a0 x.a1 x.a2 x.a3=x:=rfl
@[ext] structure Out where
 last:Four
 open':Flags
 max:Int
 deriving Inhabited,DecidableEq
instance:Dat Out where
 av x:=.agg [.int .i64 x.last.a0,.int .i64 x.last.a1,.int .i64 x.last.a2,.int .i64 x.last.a3,.bool x.open'.a0,.bool x.open'.a1,.bool x.open'.a2,.bool x.open'.a3,.int .i64 x.max]
 sz:=9
 len _:=rfl
 pure x:=by simp only[go_sem,Bool.and_self]
 nrm x:=by simp only[go_sem]
 one x:=by simp only[go_sem,List.all_cons,List.all_nil,Bool.and_self]
 known x:=rfl
@[go_sem] theorem JkK(x:Out):Dat.av x=.agg [.int .i64 x.last.a0,.int .i64 x.last.a1,.int .i64 x.last.a2,.int .i64 x.last.a3,.bool x.open'.a0,.bool x.open'.a1,.bool x.open'.a2,.bool x.open'.a3,.int .i64 x.max]:=rfl
@[go_sem] theorem JKz:Dat.sz Out=9:=rfl
@[go_sem] theorem JHV(l:List Out)(n:Nat)(f0:Four)(f1:Flags)(f2:Int):(Ja l).set n (.agg [.int .i64 f0.a0,.int .i64 f0.a1,.int .i64 f0.a2,.int .i64 f0.a3,.bool f1.a0,.bool f1.a1,.bool f1.a2,.bool f1.a3,.int .i64 f2])=Ja (l.set n ⟨f0,f1,f2⟩):=Vd l n (⟨f0,f1,f2⟩:Out)
@[go_sem] theorem JIx(l:List Out)(f0:Four)(f1:Flags)(f2:Int):Ja l++[.agg [.int .i64 f0.a0,.int .i64 f0.a1,.int .i64 f0.a2,.int .i64 f0.a3,.bool f1.a0,.bool f1.a1,.bool f1.a2,.bool f1.a3,.int .i64 f2]]=Ja (l++[⟨f0,f1,f2⟩]):=by rw[J7];rfl
@[go_sem] theorem JlE:∀l:List Out,AV.flat.flatL (Ja l)=true
 | []=>rfl
 |_ :: r=>by simp only[Yx,AV.flat.flatL,JlE r,JkK,AV.flat,Bool.and_self]
@[go_sem] theorem JxP(x:Out):Out.mk x.last x.open' x.max=x:=rfl
@[ext] structure Move where
 warm:Warm
 changed:Bool
 deriving Inhabited,DecidableEq
instance:Dat Move where
 av x:=.agg [.int .i64 x.warm.c.cap,.slice false (Ja x.warm.c.l),.bool x.warm.ready,.slice false (Ja x.warm.shown),.bool x.changed]
 sz:=5
 len _:=rfl
 pure x:=by simp only[go_sem,Bool.and_self]
 nrm x:=by simp only[go_sem]
 one x:=by simp only[go_sem,List.all_cons,List.all_nil,Bool.and_self]
 known x:=rfl
@[go_sem] theorem Juf(x:Move):Dat.av x=.agg [.int .i64 x.warm.c.cap,.slice false (Ja x.warm.c.l),.bool x.warm.ready,.slice false (Ja x.warm.shown),.bool x.changed]:=rfl
@[go_sem] theorem JKy:Dat.sz Move=5:=rfl
@[go_sem] theorem JHU(l:List Move)(n:Nat)(f0:Warm)(f1:Bool):(Ja l).set n (.agg [.int .i64 f0.c.cap,.slice false (Ja f0.c.l),.bool f0.ready,.slice false (Ja f0.shown),.bool f1])=Ja (l.set n ⟨f0,f1⟩):=Vd l n (⟨f0,f1⟩:Move)
@[go_sem] theorem JIw(l:List Move)(f0:Warm)(f1:Bool):Ja l++[.agg [.int .i64 f0.c.cap,.slice false (Ja f0.c.l),.bool f0.ready,.slice false (Ja f0.shown),.bool f1]]=Ja (l++[⟨f0,f1⟩]):=by rw[J7];rfl
@[go_sem] theorem JxO(x:Move):Move.mk x.warm x.changed=x:=rfl
@[ext] structure Bad where
 e:Int
 deriving Inhabited,DecidableEq
instance:Dat Bad where
 av x:=.agg [.int .i64 x.e]
 sz:=1
 len _:=rfl
 pure x:=by simp only[go_sem,Bool.and_self]
 nrm x:=by simp only[go_sem]
 one x:=by simp only[go_sem,List.all_cons,List.all_nil,Bool.and_self]
 known x:=rfl
@[go_sem] theorem JkD(x:Bad):Dat.av x=.agg [.int .i64 x.e]:=rfl
@[go_sem] theorem JKm:Dat.sz Bad=1:=rfl
@[go_sem] theorem JHI(l:List Bad)(n:Nat)(f0:Int):(Ja l).set n (.agg [.int .i64 f0])=Ja (l.set n ⟨f0⟩):=Vd l n (⟨f0⟩:Bad)
@[go_sem] theorem JIj(l:List Bad)(f0:Int):Ja l++[.agg [.int .i64 f0]]=Ja (l++[⟨f0⟩]):=by rw[J7];rfl
@[go_sem] theorem Jlv:∀l:List Bad,AV.flat.flatL (Ja l)=true
 | []=>rfl
 |_ :: r=>by simp only[Yx,AV.flat.flatL,Jlv r,JkD,AV.flat,Bool.and_self]
@[go_sem] theorem JxE(x:Bad):Bad.mk x.e=x:=rfl
@[ext] structure Has where
 port:Bool
 to':Bool
 rules':Bool
 hosts:Bool
 deriving Inhabited,DecidableEq
instance:Dat Has where
 av x:=.agg [.bool x.port,.bool x.to',.bool x.rules',.bool x.hosts]
 sz:=4
 len _:=rfl
 pure x:=by simp only[go_sem,Bool.and_self]
 nrm x:=by simp only[go_sem]
 one x:=by simp only[go_sem,List.all_cons,List.all_nil,Bool.and_self]
 known x:=rfl
@[go_sem] theorem JkH(x:Has):Dat.av x=.agg [.bool x.port,.bool x.to',.bool x.rules',.bool x.hosts]:=rfl
@[go_sem] theorem JKs:Dat.sz Has=4:=rfl
@[go_sem] theorem JHP(l:List Has)(n:Nat)(f0:Bool)(f1:Bool)(f2:Bool)(f3:Bool):(Ja l).set n (.agg [.bool f0,.bool f1,.bool f2,.bool f3])=Ja (l.set n ⟨f0,f1,f2,f3⟩):=Vd l n (⟨f0,f1,f2,f3⟩:Has)
@[go_sem] theorem JIq(l:List Has)(f0:Bool)(f1:Bool)(f2:Bool)(f3:Bool):Ja l++[.agg [.bool f0,.bool f1,.bool f2,.bool f3]]=Ja (l++[⟨f0,f1,f2,f3⟩]):=by rw[J7];rfl
@[go_sem] theorem Jlz:∀l:List Has,AV.flat.flatL (Ja l)=true
 | []=>rfl
 |_ :: r=>by simp only[Yx,AV.flat.flatL,Jlz r,JkH,AV.flat,Bool.and_self]
@[go_sem] theorem JxK(x:Has):Has.mk x.port x.to' x.rules' x.hosts=x:=rfl
@[ext] structure AcceptRange where
 lo:UInt8
 hi:UInt8
 deriving Inhabited,DecidableEq
instance:Dat AcceptRange where
 av x:=.agg [.int .u8 x.lo.toNat,.int .u8 x.hi.toNat]
 sz:=2
 len _:=rfl
 pure x:=by simp only[go_sem,Bool.and_self]
 nrm x:=by simp only[go_sem]
 one x:=by simp only[go_sem,List.all_cons,List.all_nil,Bool.and_self]
 known x:=rfl
@[go_sem] theorem JkC(x:AcceptRange):Dat.av x=.agg [.int .u8 x.lo.toNat,.int .u8 x.hi.toNat]:=rfl
@[go_sem] theorem JKl:Dat.sz AcceptRange=2:=rfl
@[go_sem] theorem JHH(l:List AcceptRange)(n:Nat)(f0:UInt8)(f1:UInt8):(Ja l).set n (.agg [.int .u8 f0.toNat,.int .u8 f1.toNat])=Ja (l.set n ⟨f0,f1⟩):=Vd l n (⟨f0,f1⟩:AcceptRange)
@[go_sem] theorem JIi(l:List AcceptRange)(f0:UInt8)(f1:UInt8):Ja l++[.agg [.int .u8 f0.toNat,.int .u8 f1.toNat]]=Ja (l++[⟨f0,f1⟩]):=by rw[J7];rfl
@[go_sem] theorem Jlu:∀l:List AcceptRange,AV.flat.flatL (Ja l)=true
 | []=>rfl
 |_ :: r=>by simp only[Yx,AV.flat.flatL,Jlu r,JkC,AV.flat,Bool.and_self]
@[go_sem] theorem JxD(x:AcceptRange):AcceptRange.mk x.lo x.hi=x:=rfl
def Jdz(x:Weight):Prop:=Jc x.cluster.length
def Yw(x:Rule):Prop:=Jc x.host.length∧Jc x.pfx.length∧Jc x.split.length∧(∀y∈x.split,Jdz y)
def Ju(x:Res):Prop:=Jc x.name.length∧Jc x.to'.length∧Jc x.rules'.length∧(∀y∈x.rules',Yw y)∧Jc x.hosts.length
def Jkm(x:Cache):Prop:=Jc x.l.length∧(∀y∈x.l,Ju y)
def Jkn(x:Warm):Prop:=Jkm x.c∧Jc x.shown.length∧(∀y∈x.shown,Ju y)
def Jdy(x:Snap):Prop:=Jc x.l.length∧(∀y∈x.l,Ju y)
def JaV(x:Key):Prop:=Jc x.name.length
def Jdx(x:Mark):Prop:=JaV x.k
def VG(x:Frame):Prop:=Jc x.adds.length∧(∀y∈x.adds,Ju y)∧Jc x.gone.length∧(∀y∈x.gone,JaV y)∧Jc x.have'.length∧(∀y∈x.have',Jdx y)∧Jc x.held.length∧(∀y∈x.held,JaV y)
end Go.Proofs.YtihahfhagobnoaaGreatDoor.Lg
