/- Parts of the proof, one behind the other. -/
import Derived.Test.YtmjkjmoeicnbnaaGreatDoorProg
import Derived.Test.YtmjkjmoeicnbnaaGreatDoorG02
namespace Go.Proofs.YtmjkjmoeicnbnaaGreatDoor.Lg
open Go
set_option linter.unusedVariables false
set_option linter.unusedSimpArgs false
theorem Jg{i:Nat}{ti:TypeInfo}(h:Tryz.prog.types[i]?=some ti):Tryz.prog.info? i=some ti:=by
 have hlt:i<Tryz.prog.types.size:=(Array.getElem?_eq_some_iff.1 h).1
 simp only[Tables.info?,if_pos hlt,h]
def ty1:TyI:=⟨.func,1,8,[.nilf]⟩
theorem Jm6:Jq Tryz.prog 1 ty1:=.inr ⟨Tryz.t1,Jg Tryz.type1,rfl,rfl,⟨_,rfl,rfl,rfl⟩,_,Tryz.underlying1,rfl⟩
theorem Jof:Jr Tryz.prog 1 ty1:=.inr ⟨Tryz.t1,_,Jg Tryz.type1,rfl,rfl⟩
def ty2:TyI:=⟨.int .i64,1,8,[.int .i64 0]⟩
theorem JnA:Jq Tryz.prog 2 ty2:=.inr ⟨Tryz.t2,Jg Tryz.type2,rfl,rfl,⟨_,rfl,rfl,rfl⟩,_,Tryz.underlying2,rfl⟩
theorem JoJ:Jr Tryz.prog 2 ty2:=.inr ⟨Tryz.t2,_,Jg Tryz.type2,rfl,rfl⟩
def ty3:TyI:=⟨.int .i64,1,8,[.int .i64 0]⟩
theorem JnT:Jq Tryz.prog 3 ty3:=.inr ⟨Tryz.t3,Jg Tryz.type3,rfl,rfl,⟨_,rfl,rfl,rfl⟩,_,Tryz.underlying3,rfl⟩
theorem Jo2:Jr Tryz.prog 3 ty3:=.inr ⟨Tryz.t3,_,Jg Tryz.type3,rfl,rfl⟩
def ty4:TyI:=⟨.bool,1,1,[.bool false]⟩
theorem JnY:Jq Tryz.prog 4 ty4:=.inr ⟨Tryz.t4,Jg Tryz.type4,rfl,rfl,⟨_,rfl,rfl,rfl⟩,_,Tryz.underlying4,rfl⟩
theorem Jo7:Jr Tryz.prog 4 ty4:=.inr ⟨Tryz.t4,_,Jg Tryz.type4,rfl,rfl⟩
def ty5:TyI:=⟨.int .u8,1,1,[.int .u8 0]⟩
theorem Jn3:Jq Tryz.prog 5 ty5:=.inr ⟨Tryz.t5,Jg Tryz.type5,rfl,rfl,⟨_,rfl,rfl,rfl⟩,_,Tryz.underlying5,rfl⟩
theorem Jpc:Jr Tryz.prog 5 ty5:=.inr ⟨Tryz.t5,_,Jg Tryz.type5,rfl,rfl⟩
def ty6:TyI:=⟨.int .u8,1,1,[.int .u8 0]⟩
theorem Jn5:Jq Tryz.prog 6 ty6:=.inr ⟨Tryz.t6,Jg Tryz.type6,rfl,rfl,⟨_,rfl,rfl,rfl⟩,_,Tryz.underlying6,rfl⟩
theorem Jpe:Jr Tryz.prog 6 ty6:=.inr ⟨Tryz.t6,_,Jg Tryz.type6,rfl,rfl⟩
def ty7 : TyI := ⟨.struct [(0, 2, "x"), (1, 3, "y"), (2, 4, "signed"), (3, 6, "code")], 4, 24, [.int .i64 0, .int .i64 0, .bool false, .int .u8 0]⟩
theorem Jn6:Jq Tryz.prog 7 ty7:=.inr ⟨Tryz.t7,Jg Tryz.type7,rfl,rfl,⟨_,rfl,rfl,rfl⟩,_,Tryz.underlying7,rfl⟩
theorem Jpf:Jr Tryz.prog 7 ty7:=.inr ⟨Tryz.t7,_,Jg Tryz.type7,rfl,rfl⟩
def ty8 : TyI := ⟨.struct [(0, 2, "x"), (1, 3, "y"), (2, 4, "signed"), (3, 6, "code")], 4, 24, [.int .i64 0, .int .i64 0, .bool false, .int .u8 0]⟩
theorem Jn7:Jq Tryz.prog 8 ty8:=.inr ⟨Tryz.t8,Jg Tryz.type8,rfl,rfl,⟨_,rfl,rfl,rfl⟩,_,Tryz.underlying8,rfl⟩
theorem Jpg:Jr Tryz.prog 8 ty8:=.inr ⟨Tryz.t8,_,Jg Tryz.type8,rfl,rfl⟩
def ty9:TyI:=⟨.str,1,16,[.str []]⟩
theorem Job:Jq Tryz.prog 9 ty9:=.inr ⟨Tryz.t9,Jg Tryz.type9,rfl,rfl,⟨_,rfl,rfl,rfl⟩,_,Tryz.underlying9,rfl⟩
theorem Jpk:Jr Tryz.prog 9 ty9:=.inr ⟨Tryz.t9,_,Jg Tryz.type9,rfl,rfl⟩
def ty10:TyI:=⟨.str,1,16,[.str []]⟩
theorem Jm7:Jq Tryz.prog 10 ty10:=.inr ⟨Tryz.t10,Jg Tryz.type10,rfl,rfl,⟨_,rfl,rfl,rfl⟩,_,Tryz.underlying10,rfl⟩
theorem Jog:Jr Tryz.prog 10 ty10:=.inr ⟨Tryz.t10,_,Jg Tryz.type10,rfl,rfl⟩
def ty11:TyI:=⟨.str,1,16,[.str []]⟩
theorem Jnb:Jq Tryz.prog 11 ty11:=.inr ⟨Tryz.t11,Jg Tryz.type11,rfl,rfl,⟨_,rfl,rfl,rfl⟩,_,Tryz.underlying11,rfl⟩
theorem Jok:Jr Tryz.prog 11 ty11:=.inr ⟨Tryz.t11,_,Jg Tryz.type11,rfl,rfl⟩
def ty12:TyI:=⟨.int .u64,1,8,[.int .u64 0]⟩
theorem Jng:Jq Tryz.prog 12 ty12:=.inr ⟨Tryz.t12,Jg Tryz.type12,rfl,rfl,⟨_,rfl,rfl,rfl⟩,_,Tryz.underlying12,rfl⟩
theorem Jop:Jr Tryz.prog 12 ty12:=.inr ⟨Tryz.t12,_,Jg Tryz.type12,rfl,rfl⟩
def ty13 : TyI := ⟨.struct [(0, 9, "msg"), (1, 12, "addr")], 2, 24, [.str [], .int .u64 0]⟩
theorem Jnh:Jq Tryz.prog 13 ty13:=.inr ⟨Tryz.t13,Jg Tryz.type13,rfl,rfl,⟨_,rfl,rfl,rfl⟩,_,Tryz.underlying13,rfl⟩
theorem Joq:Jr Tryz.prog 13 ty13:=.inr ⟨Tryz.t13,_,Jg Tryz.type13,rfl,rfl⟩
def ty15:TyI:=⟨.ptr 236,1,8,[.nilp]⟩
theorem Jnn:Jq Tryz.prog 15 ty15:=.inr ⟨Tryz.t15,Jg Tryz.type15,rfl,rfl,⟨_,rfl,rfl,rfl⟩,_,Tryz.underlying15,rfl⟩
theorem Jow:Jr Tryz.prog 15 ty15:=.inr ⟨Tryz.t15,_,Jg Tryz.type15,rfl,rfl⟩
def ty17:TyI:=⟨.ptr 248,1,8,[.nilp]⟩
theorem Jnr:Jq Tryz.prog 17 ty17:=.inr ⟨Tryz.t17,Jg Tryz.type17,rfl,rfl,⟨_,rfl,rfl,rfl⟩,_,Tryz.underlying17,rfl⟩
theorem JoA:Jr Tryz.prog 17 ty17:=.inr ⟨Tryz.t17,_,Jg Tryz.type17,rfl,rfl⟩
def ty18 : TyI := ⟨.struct [(0, 17, "typ")], 1, 8, [.nilp]⟩
theorem Jnt:Jq Tryz.prog 18 ty18:=.inr ⟨Tryz.t18,Jg Tryz.type18,rfl,rfl,⟨_,rfl,rfl,rfl⟩,_,Tryz.underlying18,rfl⟩
theorem JoC:Jr Tryz.prog 18 ty18:=.inr ⟨Tryz.t18,_,Jg Tryz.type18,rfl,rfl⟩
def ty19 : TyI := ⟨.struct [(0, 17, "typ")], 1, 8, [.nilp]⟩
theorem Jnw:Jq Tryz.prog 19 ty19:=.inr ⟨Tryz.t19,Jg Tryz.type19,rfl,rfl,⟨_,rfl,rfl,rfl⟩,_,Tryz.underlying19,rfl⟩
theorem JoF:Jr Tryz.prog 19 ty19:=.inr ⟨Tryz.t19,_,Jg Tryz.type19,rfl,rfl⟩
def ty21:TyI:=⟨.int .i32,1,4,[.int .i32 0]⟩
theorem JnE:Jq Tryz.prog 21 ty21:=.inr ⟨Tryz.t21,Jg Tryz.type21,rfl,rfl,⟨_,rfl,rfl,rfl⟩,_,Tryz.underlying21,rfl⟩
theorem JoN:Jr Tryz.prog 21 ty21:=.inr ⟨Tryz.t21,_,Jg Tryz.type21,rfl,rfl⟩
def ty22:TyI:=⟨.slice 87,1,24,[.slice true []]⟩
theorem JnH:Jq Tryz.prog 22 ty22:=.inr ⟨Tryz.t22,Jg Tryz.type22,rfl,rfl,⟨_,rfl,rfl,rfl⟩,_,Tryz.underlying22,rfl⟩
theorem JoQ:Jr Tryz.prog 22 ty22:=.inr ⟨Tryz.t22,_,Jg Tryz.type22,rfl,rfl⟩
def ty23 : TyI := ⟨.struct [(0, 3, "Kind"), (1, 9, "Name")], 2, 24, [.int .i64 0, .str []]⟩
theorem JnI:Jq Tryz.prog 23 ty23:=.inr ⟨Tryz.t23,Jg Tryz.type23,rfl,rfl,⟨_,rfl,rfl,rfl⟩,_,Tryz.underlying23,rfl⟩
theorem JoR:Jr Tryz.prog 23 ty23:=.inr ⟨Tryz.t23,_,Jg Tryz.type23,rfl,rfl⟩
def ty24 : TyI := ⟨.struct [(0, 3, "Kind"), (1, 9, "Name")], 2, 24, [.int .i64 0, .str []]⟩
theorem JnK:Jq Tryz.prog 24 ty24:=.inr ⟨Tryz.t24,Jg Tryz.type24,rfl,rfl,⟨_,rfl,rfl,rfl⟩,_,Tryz.underlying24,rfl⟩
theorem JoT:Jr Tryz.prog 24 ty24:=.inr ⟨Tryz.t24,_,Jg Tryz.type24,rfl,rfl⟩
def ty28:TyI:=⟨.slice 24,1,24,[.slice true []]⟩
theorem JnS:Jq Tryz.prog 28 ty28:=.inr ⟨Tryz.t28,Jg Tryz.type28,rfl,rfl,⟨_,rfl,rfl,rfl⟩,_,Tryz.underlying28,rfl⟩
theorem Jo1:Jr Tryz.prog 28 ty28:=.inr ⟨Tryz.t28,_,Jg Tryz.type28,rfl,rfl⟩
def ty31:TyI:=⟨.func,1,8,[.nilf]⟩
theorem JnU:Jq Tryz.prog 31 ty31:=.inr ⟨Tryz.t31,Jg Tryz.type31,rfl,rfl,⟨_,rfl,rfl,rfl⟩,_,Tryz.underlying31,rfl⟩
theorem Jo3:Jr Tryz.prog 31 ty31:=.inr ⟨Tryz.t31,_,Jg Tryz.type31,rfl,rfl⟩
def ty32:TyI:=⟨.func,1,8,[.nilf]⟩
theorem JnV:Jq Tryz.prog 32 ty32:=.inr ⟨Tryz.t32,Jg Tryz.type32,rfl,rfl,⟨_,rfl,rfl,rfl⟩,_,Tryz.underlying32,rfl⟩
theorem Jo4:Jr Tryz.prog 32 ty32:=.inr ⟨Tryz.t32,_,Jg Tryz.type32,rfl,rfl⟩
def ty33:TyI:=⟨.int .i64,1,8,[.int .i64 0]⟩
theorem JnW:Jq Tryz.prog 33 ty33:=.inr ⟨Tryz.t33,Jg Tryz.type33,rfl,rfl,⟨_,rfl,rfl,rfl⟩,_,Tryz.underlying33,rfl⟩
theorem Jo5:Jr Tryz.prog 33 ty33:=.inr ⟨Tryz.t33,_,Jg Tryz.type33,rfl,rfl⟩
def ty38 : TyI := ⟨.struct [(0, 3, "Kind"), (1, 22, "Adds"), (2, 28, "Gone")], 3, 56, [.int .i64 0, .slice true [], .slice true []]⟩
theorem JnX:Jq Tryz.prog 38 ty38:=.inr ⟨Tryz.t38,Jg Tryz.type38,rfl,rfl,⟨_,rfl,rfl,rfl⟩,_,Tryz.underlying38,rfl⟩
theorem Jo6:Jr Tryz.prog 38 ty38:=.inr ⟨Tryz.t38,_,Jg Tryz.type38,rfl,rfl⟩
def ty41 : TyI := ⟨.struct [(0, 3, "Kind"), (1, 22, "Adds"), (2, 28, "Gone")], 3, 56, [.int .i64 0, .slice true [], .slice true []]⟩
theorem JnZ:Jq Tryz.prog 41 ty41:=.inr ⟨Tryz.t41,Jg Tryz.type41,rfl,rfl,⟨_,rfl,rfl,rfl⟩,_,Tryz.underlying41,rfl⟩
theorem Jo8:Jr Tryz.prog 41 ty41:=.inr ⟨Tryz.t41,_,Jg Tryz.type41,rfl,rfl⟩
def ty44:TyI:=⟨.slice 38,1,24,[.slice true []]⟩
theorem Jn0:Jq Tryz.prog 44 ty44:=.inr ⟨Tryz.t44,Jg Tryz.type44,rfl,rfl,⟨_,rfl,rfl,rfl⟩,_,Tryz.underlying44,rfl⟩
theorem Jo9:Jr Tryz.prog 44 ty44:=.inr ⟨Tryz.t44,_,Jg Tryz.type44,rfl,rfl⟩
def ty46:TyI:=⟨.slice 41,1,24,[.slice true []]⟩
theorem Jn1:Jq Tryz.prog 46 ty46:=.inr ⟨Tryz.t46,Jg Tryz.type46,rfl,rfl,⟨_,rfl,rfl,rfl⟩,_,Tryz.underlying46,rfl⟩
theorem Jpa:Jr Tryz.prog 46 ty46:=.inr ⟨Tryz.t46,_,Jg Tryz.type46,rfl,rfl⟩
def ty47:TyI:=⟨.func,1,8,[.nilf]⟩
theorem Jn2:Jq Tryz.prog 47 ty47:=.inr ⟨Tryz.t47,Jg Tryz.type47,rfl,rfl,⟨_,rfl,rfl,rfl⟩,_,Tryz.underlying47,rfl⟩
theorem Jpb:Jr Tryz.prog 47 ty47:=.inr ⟨Tryz.t47,_,Jg Tryz.type47,rfl,rfl⟩
def ty54 : TyI := ⟨.struct [(0, 3, "Cap"), (1, 22, "L")], 2, 32, [.int .i64 0, .slice true []]⟩
theorem Jn4:Jq Tryz.prog 54 ty54:=.inr ⟨Tryz.t54,Jg Tryz.type54,rfl,rfl,⟨_,rfl,rfl,rfl⟩,_,Tryz.underlying54,rfl⟩
theorem Jpd:Jr Tryz.prog 54 ty54:=.inr ⟨Tryz.t54,_,Jg Tryz.type54,rfl,rfl⟩
def ty84:TyI:=⟨.slice 142,1,24,[.slice true []]⟩
theorem Jn8:Jq Tryz.prog 84 ty84:=.inr ⟨Tryz.t84,Jg Tryz.type84,rfl,rfl,⟨_,rfl,rfl,rfl⟩,_,Tryz.underlying84,rfl⟩
theorem Jph:Jr Tryz.prog 84 ty84:=.inr ⟨Tryz.t84,_,Jg Tryz.type84,rfl,rfl⟩
def ty85:TyI:=⟨.slice 3,1,24,[.slice true []]⟩
theorem Jn9:Jq Tryz.prog 85 ty85:=.inr ⟨Tryz.t85,Jg Tryz.type85,rfl,rfl,⟨_,rfl,rfl,rfl⟩,_,Tryz.underlying85,rfl⟩
theorem Jpi:Jr Tryz.prog 85 ty85:=.inr ⟨Tryz.t85,_,Jg Tryz.type85,rfl,rfl⟩
def ty87 : TyI := ⟨.struct [(0, 3, "Kind"), (1, 9, "Name"), (2, 3, "Ver"), (3, 3, "Port"), (4, 9, "To"), (5, 84, "Rules"), (6, 85, "Hosts")], 7, 104, [.int .i64 0, .str [], .int .i64 0, .int .i64 0, .str [], .slice true [], .slice true []]⟩
theorem Joa:Jq Tryz.prog 87 ty87:=.inr ⟨Tryz.t87,Jg Tryz.type87,rfl,rfl,⟨_,rfl,rfl,rfl⟩,_,Tryz.underlying87,rfl⟩
theorem Jpj:Jr Tryz.prog 87 ty87:=.inr ⟨Tryz.t87,_,Jg Tryz.type87,rfl,rfl⟩
def ty94:TyI:=⟨.func,1,8,[.nilf]⟩
theorem Joc:Jq Tryz.prog 94 ty94:=.inr ⟨Tryz.t94,Jg Tryz.type94,rfl,rfl,⟨_,rfl,rfl,rfl⟩,_,Tryz.underlying94,rfl⟩
theorem Jpl:Jr Tryz.prog 94 ty94:=.inr ⟨Tryz.t94,_,Jg Tryz.type94,rfl,rfl⟩
def ty95:TyI:=⟨.map 24 4,1,8,[.nilm]⟩
theorem Jod:Jq Tryz.prog 95 ty95:=.inr ⟨Tryz.t95,Jg Tryz.type95,rfl,rfl,⟨_,rfl,rfl,rfl⟩,_,Tryz.underlying95,rfl⟩
theorem Jpm:Jr Tryz.prog 95 ty95:=.inr ⟨Tryz.t95,_,Jg Tryz.type95,rfl,rfl⟩
def ty96:TyI:=⟨.map 24 4,1,8,[.nilm]⟩
theorem Joe:Jq Tryz.prog 96 ty96:=.inr ⟨Tryz.t96,Jg Tryz.type96,rfl,rfl,⟨_,rfl,rfl,rfl⟩,_,Tryz.underlying96,rfl⟩
theorem Jpn:Jr Tryz.prog 96 ty96:=.inr ⟨Tryz.t96,_,Jg Tryz.type96,rfl,rfl⟩
def ty100:TyI:=⟨.func,1,8,[.nilf]⟩
theorem Jm8:Jq Tryz.prog 100 ty100:=.inr ⟨Tryz.t100,Jg Tryz.type100,rfl,rfl,⟨_,rfl,rfl,rfl⟩,_,Tryz.underlying100,rfl⟩
theorem Joh:Jr Tryz.prog 100 ty100:=.inr ⟨Tryz.t100,_,Jg Tryz.type100,rfl,rfl⟩
def ty105:TyI:=⟨.func,1,8,[.nilf]⟩
theorem Jm9:Jq Tryz.prog 105 ty105:=.inr ⟨Tryz.t105,Jg Tryz.type105,rfl,rfl,⟨_,rfl,rfl,rfl⟩,_,Tryz.underlying105,rfl⟩
theorem Joi:Jr Tryz.prog 105 ty105:=.inr ⟨Tryz.t105,_,Jg Tryz.type105,rfl,rfl⟩
def ty106:TyI:=⟨.func,1,8,[.nilf]⟩
theorem Jna:Jq Tryz.prog 106 ty106:=.inr ⟨Tryz.t106,Jg Tryz.type106,rfl,rfl,⟨_,rfl,rfl,rfl⟩,_,Tryz.underlying106,rfl⟩
theorem Joj:Jr Tryz.prog 106 ty106:=.inr ⟨Tryz.t106,_,Jg Tryz.type106,rfl,rfl⟩
def ty110:TyI:=⟨.slice 116,1,24,[.slice true []]⟩
theorem Jnc:Jq Tryz.prog 110 ty110:=.inr ⟨Tryz.t110,Jg Tryz.type110,rfl,rfl,⟨_,rfl,rfl,rfl⟩,_,Tryz.underlying110,rfl⟩
theorem Jol:Jr Tryz.prog 110 ty110:=.inr ⟨Tryz.t110,_,Jg Tryz.type110,rfl,rfl⟩
def ty111:TyI:=⟨.ptr 157,1,8,[.nilp]⟩
theorem Jnd:Jq Tryz.prog 111 ty111:=.inr ⟨Tryz.t111,Jg Tryz.type111,rfl,rfl,⟨_,rfl,rfl,rfl⟩,_,Tryz.underlying111,rfl⟩
theorem Jom:Jr Tryz.prog 111 ty111:=.inr ⟨Tryz.t111,_,Jg Tryz.type111,rfl,rfl⟩
def ty114:TyI:=⟨.func,1,8,[.nilf]⟩
theorem Jne:Jq Tryz.prog 114 ty114:=.inr ⟨Tryz.t114,Jg Tryz.type114,rfl,rfl,⟨_,rfl,rfl,rfl⟩,_,Tryz.underlying114,rfl⟩
theorem Jon:Jr Tryz.prog 114 ty114:=.inr ⟨Tryz.t114,_,Jg Tryz.type114,rfl,rfl⟩
def ty116 : TyI := ⟨.struct [(0, 85, "kinds"), (1, 114, "step")], 2, 32, [.slice true [], .nilf]⟩
theorem Jnf:Jq Tryz.prog 116 ty116:=.inr ⟨Tryz.t116,Jg Tryz.type116,rfl,rfl,⟨_,rfl,rfl,rfl⟩,_,Tryz.underlying116,rfl⟩
theorem Joo:Jr Tryz.prog 116 ty116:=.inr ⟨Tryz.t116,_,Jg Tryz.type116,rfl,rfl⟩
def ty134:TyI:=⟨.map 24 87,1,8,[.nilm]⟩
theorem Jni:Jq Tryz.prog 134 ty134:=.inr ⟨Tryz.t134,Jg Tryz.type134,rfl,rfl,⟨_,rfl,rfl,rfl⟩,_,Tryz.underlying134,rfl⟩
theorem Jor:Jr Tryz.prog 134 ty134:=.inr ⟨Tryz.t134,_,Jg Tryz.type134,rfl,rfl⟩
def ty140:TyI:=⟨.slice 144,1,24,[.slice true []]⟩
theorem Jnj:Jq Tryz.prog 140 ty140:=.inr ⟨Tryz.t140,Jg Tryz.type140,rfl,rfl,⟨_,rfl,rfl,rfl⟩,_,Tryz.underlying140,rfl⟩
theorem Jos:Jr Tryz.prog 140 ty140:=.inr ⟨Tryz.t140,_,Jg Tryz.type140,rfl,rfl⟩
def ty142 : TyI := ⟨.struct [(0, 9, "Host"), (1, 9, "Prefix"), (2, 140, "Split")], 3, 56, [.str [], .str [], .slice true []]⟩
theorem Jnk:Jq Tryz.prog 142 ty142:=.inr ⟨Tryz.t142,Jg Tryz.type142,rfl,rfl,⟨_,rfl,rfl,rfl⟩,_,Tryz.underlying142,rfl⟩
theorem Jot:Jr Tryz.prog 142 ty142:=.inr ⟨Tryz.t142,_,Jg Tryz.type142,rfl,rfl⟩
def ty144 : TyI := ⟨.struct [(0, 9, "Cluster"), (1, 3, "W")], 2, 24, [.str [], .int .i64 0]⟩
theorem Jnl:Jq Tryz.prog 144 ty144:=.inr ⟨Tryz.t144,Jg Tryz.type144,rfl,rfl,⟨_,rfl,rfl,rfl⟩,_,Tryz.underlying144,rfl⟩
theorem Jou:Jr Tryz.prog 144 ty144:=.inr ⟨Tryz.t144,_,Jg Tryz.type144,rfl,rfl⟩
def ty147:TyI:=⟨.int .u64,1,8,[.int .u64 0]⟩
theorem Jnm:Jq Tryz.prog 147 ty147:=.inr ⟨Tryz.t147,Jg Tryz.type147,rfl,rfl,⟨_,rfl,rfl,rfl⟩,_,Tryz.underlying147,rfl⟩
theorem Jov:Jr Tryz.prog 147 ty147:=.inr ⟨Tryz.t147,_,Jg Tryz.type147,rfl,rfl⟩
def ty152:TyI:=⟨.map 24 28,1,8,[.nilm]⟩
theorem Jno:Jq Tryz.prog 152 ty152:=.inr ⟨Tryz.t152,Jg Tryz.type152,rfl,rfl,⟨_,rfl,rfl,rfl⟩,_,Tryz.underlying152,rfl⟩
theorem Jox:Jr Tryz.prog 152 ty152:=.inr ⟨Tryz.t152,_,Jg Tryz.type152,rfl,rfl⟩
def ty154:TyI:=⟨.func,1,8,[.nilf]⟩
theorem Jnp:Jq Tryz.prog 154 ty154:=.inr ⟨Tryz.t154,Jg Tryz.type154,rfl,rfl,⟨_,rfl,rfl,rfl⟩,_,Tryz.underlying154,rfl⟩
theorem Joy:Jr Tryz.prog 154 ty154:=.inr ⟨Tryz.t154,_,Jg Tryz.type154,rfl,rfl⟩
def ty157 : TyI := ⟨.struct [(0, 22, "adds"), (1, 28, "gone"), (2, 95, "reach"), (3, 22, "have"), (4, 28, "held")], 5, 104, [.slice true [], .slice true [], .nilm, .slice true [], .slice true []]⟩
theorem Jnq:Jq Tryz.prog 157 ty157:=.inr ⟨Tryz.t157,Jg Tryz.type157,rfl,rfl,⟨_,rfl,rfl,rfl⟩,_,Tryz.underlying157,rfl⟩
theorem Joz:Jr Tryz.prog 157 ty157:=.inr ⟨Tryz.t157,_,Jg Tryz.type157,rfl,rfl⟩
def ty174:TyI:=⟨.int .i64,1,8,[.int .i64 0]⟩
theorem Jns:Jq Tryz.prog 174 ty174:=.inr ⟨Tryz.t174,Jg Tryz.type174,rfl,rfl,⟨_,rfl,rfl,rfl⟩,_,Tryz.underlying174,rfl⟩
theorem JoB:Jr Tryz.prog 174 ty174:=.inr ⟨Tryz.t174,_,Jg Tryz.type174,rfl,rfl⟩
def ty182:TyI:=⟨.int .u32,1,4,[.int .u32 0]⟩
theorem Jnu:Jq Tryz.prog 182 ty182:=.inr ⟨Tryz.t182,Jg Tryz.type182,rfl,rfl,⟨_,rfl,rfl,rfl⟩,_,Tryz.underlying182,rfl⟩
theorem JoD:Jr Tryz.prog 182 ty182:=.inr ⟨Tryz.t182,_,Jg Tryz.type182,rfl,rfl⟩
def ty184:TyI:=⟨.int .u64,1,8,[.int .u64 0]⟩
theorem Jnv:Jq Tryz.prog 184 ty184:=.inr ⟨Tryz.t184,Jg Tryz.type184,rfl,rfl,⟨_,rfl,rfl,rfl⟩,_,Tryz.underlying184,rfl⟩
theorem JoE:Jr Tryz.prog 184 ty184:=.inr ⟨Tryz.t184,_,Jg Tryz.type184,rfl,rfl⟩
def ty192:TyI:=⟨.func,1,8,[.nilf]⟩
theorem Jnx:Jq Tryz.prog 192 ty192:=.inr ⟨Tryz.t192,Jg Tryz.type192,rfl,rfl,⟨_,rfl,rfl,rfl⟩,_,Tryz.underlying192,rfl⟩
theorem JoG:Jr Tryz.prog 192 ty192:=.inr ⟨Tryz.t192,_,Jg Tryz.type192,rfl,rfl⟩
def ty194 : TyI := ⟨.struct [(0, 4, "port"), (1, 4, "to"), (2, 4, "rules"), (3, 4, "hosts")], 4, 4, [.bool false, .bool false, .bool false, .bool false]⟩
theorem Jny:Jq Tryz.prog 194 ty194:=.inr ⟨Tryz.t194,Jg Tryz.type194,rfl,rfl,⟨_,rfl,rfl,rfl⟩,_,Tryz.underlying194,rfl⟩
theorem JoH:Jr Tryz.prog 194 ty194:=.inr ⟨Tryz.t194,_,Jg Tryz.type194,rfl,rfl⟩
def ty198:TyI:=⟨.func,1,8,[.nilf]⟩
theorem Jnz:Jq Tryz.prog 198 ty198:=.inr ⟨Tryz.t198,Jg Tryz.type198,rfl,rfl,⟨_,rfl,rfl,rfl⟩,_,Tryz.underlying198,rfl⟩
theorem JoI:Jr Tryz.prog 198 ty198:=.inr ⟨Tryz.t198,_,Jg Tryz.type198,rfl,rfl⟩
def ty202:TyI:=⟨.func,1,8,[.nilf]⟩
theorem JnB:Jq Tryz.prog 202 ty202:=.inr ⟨Tryz.t202,Jg Tryz.type202,rfl,rfl,⟨_,rfl,rfl,rfl⟩,_,Tryz.underlying202,rfl⟩
theorem JoK:Jr Tryz.prog 202 ty202:=.inr ⟨Tryz.t202,_,Jg Tryz.type202,rfl,rfl⟩
def ty205:TyI:=⟨.int .u64,1,8,[.int .u64 0]⟩
theorem JnC:Jq Tryz.prog 205 ty205:=.inr ⟨Tryz.t205,Jg Tryz.type205,rfl,rfl,⟨_,rfl,rfl,rfl⟩,_,Tryz.underlying205,rfl⟩
theorem JoL:Jr Tryz.prog 205 ty205:=.inr ⟨Tryz.t205,_,Jg Tryz.type205,rfl,rfl⟩
def ty209:TyI:=⟨.ptr 3,1,8,[.nilp]⟩
theorem JnD:Jq Tryz.prog 209 ty209:=.inr ⟨Tryz.t209,Jg Tryz.type209,rfl,rfl,⟨_,rfl,rfl,rfl⟩,_,Tryz.underlying209,rfl⟩
theorem JoM:Jr Tryz.prog 209 ty209:=.inr ⟨Tryz.t209,_,Jg Tryz.type209,rfl,rfl⟩
def ty212:TyI:=⟨.slice 22,1,24,[.slice true []]⟩
theorem JnF:Jq Tryz.prog 212 ty212:=.inr ⟨Tryz.t212,Jg Tryz.type212,rfl,rfl,⟨_,rfl,rfl,rfl⟩,_,Tryz.underlying212,rfl⟩
theorem JoO:Jr Tryz.prog 212 ty212:=.inr ⟨Tryz.t212,_,Jg Tryz.type212,rfl,rfl⟩
def ty216:TyI:=⟨.ptr 205,1,8,[.nilp]⟩
theorem JnG:Jq Tryz.prog 216 ty216:=.inr ⟨Tryz.t216,Jg Tryz.type216,rfl,rfl,⟨_,rfl,rfl,rfl⟩,_,Tryz.underlying216,rfl⟩
theorem JoP:Jr Tryz.prog 216 ty216:=.inr ⟨Tryz.t216,_,Jg Tryz.type216,rfl,rfl⟩
def ty236 : TyI := ⟨.struct [(0, 17, "_interface"), (1, 17, "concrete"), (2, 17, "asserted"), (3, 9, "missingMethod")], 4, 40, [.nilp, .nilp, .nilp, .str []]⟩
theorem JnJ:Jq Tryz.prog 236 ty236:=.inr ⟨Tryz.t236,Jg Tryz.type236,rfl,rfl,⟨_,rfl,rfl,rfl⟩,_,Tryz.underlying236,rfl⟩
theorem JoS:Jr Tryz.prog 236 ty236:=.inr ⟨Tryz.t236,_,Jg Tryz.type236,rfl,rfl⟩
def ty241:TyI:=⟨.int .u8,1,1,[.int .u8 0]⟩
theorem JnL:Jq Tryz.prog 241 ty241:=.inr ⟨Tryz.t241,Jg Tryz.type241,rfl,rfl,⟨_,rfl,rfl,rfl⟩,_,Tryz.underlying241,rfl⟩
theorem JoU:Jr Tryz.prog 241 ty241:=.inr ⟨Tryz.t241,_,Jg Tryz.type241,rfl,rfl⟩
def ty242:TyI:=⟨.int .u8,1,1,[.int .u8 0]⟩
theorem JnM:Jq Tryz.prog 242 ty242:=.inr ⟨Tryz.t242,Jg Tryz.type242,rfl,rfl,⟨_,rfl,rfl,rfl⟩,_,Tryz.underlying242,rfl⟩
theorem JoV:Jr Tryz.prog 242 ty242:=.inr ⟨Tryz.t242,_,Jg Tryz.type242,rfl,rfl⟩
def ty243:TyI:=⟨.func,1,8,[.nilf]⟩
theorem JnN:Jq Tryz.prog 243 ty243:=.inr ⟨Tryz.t243,Jg Tryz.type243,rfl,rfl,⟨_,rfl,rfl,rfl⟩,_,Tryz.underlying243,rfl⟩
theorem JoW:Jr Tryz.prog 243 ty243:=.inr ⟨Tryz.t243,_,Jg Tryz.type243,rfl,rfl⟩
def ty244:TyI:=⟨.ptr 5,1,8,[.nilp]⟩
theorem JnO:Jq Tryz.prog 244 ty244:=.inr ⟨Tryz.t244,Jg Tryz.type244,rfl,rfl,⟨_,rfl,rfl,rfl⟩,_,Tryz.underlying244,rfl⟩
theorem JoX:Jr Tryz.prog 244 ty244:=.inr ⟨Tryz.t244,_,Jg Tryz.type244,rfl,rfl⟩
def ty245:TyI:=⟨.int .i32,1,4,[.int .i32 0]⟩
theorem JnP:Jq Tryz.prog 245 ty245:=.inr ⟨Tryz.t245,Jg Tryz.type245,rfl,rfl,⟨_,rfl,rfl,rfl⟩,_,Tryz.underlying245,rfl⟩
theorem JoY:Jr Tryz.prog 245 ty245:=.inr ⟨Tryz.t245,_,Jg Tryz.type245,rfl,rfl⟩
def ty246:TyI:=⟨.int .i32,1,4,[.int .i32 0]⟩
theorem JnQ:Jq Tryz.prog 246 ty246:=.inr ⟨Tryz.t246,Jg Tryz.type246,rfl,rfl,⟨_,rfl,rfl,rfl⟩,_,Tryz.underlying246,rfl⟩
theorem JoZ:Jr Tryz.prog 246 ty246:=.inr ⟨Tryz.t246,_,Jg Tryz.type246,rfl,rfl⟩
def ty248 : TyI := ⟨.struct [(0, 12, "Size_"), (1, 12, "PtrBytes"), (2, 182, "Hash"), (3, 241, "TFlag"), (4, 5, "Align_"), (5, 5, "FieldAlign_"), (6, 242, "Kind_"), (7, 243, "Equal"), (8, 244, "GCData"), (9, 245, "Str"), (10, 246, "PtrToThis")], 11, 48, [.int .u64 0, .int .u64 0, .int .u32 0, .int .u8 0, .int .u8 0, .int .u8 0, .int .u8 0, .nilf, .nilp, .int .i32 0, .int .i32 0]⟩
theorem JnR:Jq Tryz.prog 248 ty248:=.inr ⟨Tryz.t248,Jg Tryz.type248,rfl,rfl,⟨_,rfl,rfl,rfl⟩,_,Tryz.underlying248,rfl⟩
theorem Jo0:Jr Tryz.prog 248 ty248:=.inr ⟨Tryz.t248,_,Jg Tryz.type248,rfl,rfl⟩
def tyL:List (Nat×TyI):=[(1,ty1),(2,ty2),(3,ty3),(4,ty4),(5,ty5),(6,ty6),(7,ty7),(8,ty8),(9,ty9),(10,ty10),(11,ty11),(12,ty12),(13,ty13),(15,ty15),(17,ty17),(18,ty18),(19,ty19),(21,ty21),(22,ty22),(23,ty23),(24,ty24),(28,ty28),(31,ty31),(32,ty32),(33,ty33),(38,ty38),(41,ty41),(44,ty44),(46,ty46),(47,ty47),(54,ty54),(84,ty84),(85,ty85),(87,ty87),(94,ty94),(95,ty95),(96,ty96),(100,ty100),(105,ty105),(106,ty106),(110,ty110),(111,ty111),(114,ty114),(116,ty116),(134,ty134),(140,ty140),(142,ty142),(144,ty144),(147,ty147),(152,ty152),(154,ty154),(157,ty157),(174,ty174),(182,ty182),(184,ty184),(192,ty192),(194,ty194),(198,ty198),(202,ty202),(205,ty205),(209,ty209),(212,ty212),(216,ty216),(236,ty236),(241,ty241),(242,ty242),(243,ty243),(244,ty244),(245,ty245),(246,ty246),(248,ty248)]
def JdU(P:Program):List (Nat×TyI)→Prop
 | []=>True
 |p :: r=>Jr P p.1 p.2∧JdU P r
def JdT(P:Program):List (Nat×TyI)→Prop
 | []=>True
 |p :: r=>Jq P p.1 p.2∧JdT P r
def JcF(l:List (Nat×TyI))(t:Nat):TyI:=(l.lookup t).getD ⟨.unk,0,0,[]⟩
theorem JfN{P:Program}:∀(l:List (Nat×TyI)),JdT P l→∀t,Jq P t (JcF l t)
 | [],_,t=>.inl rfl
 | (i,x) :: r,h,t=>by
  unfold JcF
  by_cases e:t=i
  ·subst e;simpa[List.lookup] using h.1
  ·have e':(t == i)=false:=by simpa using e
   have:((i,x) :: r).lookup t=r.lookup t:=by simp[List.lookup,e']
   rw[this];exact JfN r h.2 t
theorem JfO{P:Program}:∀(l:List (Nat×TyI)),JdU P l→∀t,Jr P t (JcF l t)
 | [],_,t=>.inl rfl
 | (i,x) :: r,h,t=>by
  unfold JcF
  by_cases e:t=i
  ·subst e;simpa[List.lookup] using h.1
  ·have e':(t == i)=false:=by simpa using e
   have:((i,x) :: r).lookup t=r.lookup t:=by simp[List.lookup,e']
   rw[this];exact JfO r h.2 t
theorem Jm5:JdU Tryz.prog tyL:=⟨Jof,JoJ,Jo2,Jo7,Jpc,Jpe,Jpf,Jpg,Jpk,Jog,Jok,Jop,Joq,Jow,JoA,JoC,JoF,JoN,JoQ,JoR,JoT,Jo1,Jo3,Jo4,Jo5,Jo6,Jo8,Jo9,Jpa,Jpb,Jpd,Jph,Jpi,Jpj,Jpl,Jpm,Jpn,Joh,Joi,Joj,Jol,Jom,Jon,Joo,Jor,Jos,Jot,Jou,Jov,Jox,Joy,Joz,JoB,JoD,JoE,JoG,JoH,JoI,JoK,JoL,JoM,JoO,JoP,JoS,JoU,JoV,JoW,JoX,JoY,JoZ,Jo0,trivial⟩
theorem Jm4:JdT Tryz.prog tyL:=⟨Jm6,JnA,JnT,JnY,Jn3,Jn5,Jn6,Jn7,Job,Jm7,Jnb,Jng,Jnh,Jnn,Jnr,Jnt,Jnw,JnE,JnH,JnI,JnK,JnS,JnU,JnV,JnW,JnX,JnZ,Jn0,Jn1,Jn2,Jn4,Jn8,Jn9,Joa,Joc,Jod,Joe,Jm8,Jm9,Jna,Jnc,Jnd,Jne,Jnf,Jni,Jnj,Jnk,Jnl,Jnm,Jno,Jnp,Jnq,Jns,Jnu,Jnv,Jnx,Jny,Jnz,JnB,JnC,JnD,JnF,JnG,JnJ,JnL,JnM,JnN,JnO,JnP,JnQ,JnR,trivial⟩
def T:Tys Tryz.prog:=⟨JcF tyL,JfN tyL Jm4,JfO tyL Jm5,fun _=>false⟩
@[go_sem] theorem Ju9(d:Nat):T.fz d=false:=rfl
@[go_sem] theorem T_1:T.ty 1=ty1:=rfl
@[go_sem] theorem k_1:ty1.k=.func:=rfl
@[go_sem] theorem JEe:ty1.sz=1:=rfl
@[go_sem] theorem Jr0:ty1.bytes=8:=rfl
@[go_sem] theorem JHb:ty1.zero=[.nilf]:=rfl
@[go_sem] theorem T_2:T.ty 2=ty2:=rfl
@[go_sem] theorem k_2:ty2.k=.int .i64:=rfl
@[go_sem] theorem JEI:ty2.sz=1:=rfl
@[go_sem] theorem Jsu:ty2.bytes=8:=rfl
@[go_sem] theorem JHF:ty2.zero=[.int .i64 0]:=rfl
@[go_sem] theorem T_3:T.ty 3=ty3:=rfl
@[go_sem] theorem k_3:ty3.k=.int .i64:=rfl
@[go_sem] theorem JE1:ty3.sz=1:=rfl
@[go_sem] theorem JsN:ty3.bytes=8:=rfl
@[go_sem] theorem JHY:ty3.zero=[.int .i64 0]:=rfl
@[go_sem] theorem T_4:T.ty 4=ty4:=rfl
@[go_sem] theorem k_4:ty4.k=.bool:=rfl
@[go_sem] theorem JE6:ty4.sz=1:=rfl
@[go_sem] theorem JsS:ty4.bytes=1:=rfl
@[go_sem] theorem JH3:ty4.zero=[.bool false]:=rfl
@[go_sem] theorem T_5:T.ty 5=ty5:=rfl
@[go_sem] theorem k_5:ty5.k=.int .u8:=rfl
@[go_sem] theorem JFb:ty5.sz=1:=rfl
@[go_sem] theorem JsX:ty5.bytes=1:=rfl
@[go_sem] theorem JH8:ty5.zero=[.int .u8 0]:=rfl
@[go_sem] theorem T_6:T.ty 6=ty6:=rfl
@[go_sem] theorem k_6:ty6.k=.int .u8:=rfl
@[go_sem] theorem JFd:ty6.sz=1:=rfl
@[go_sem] theorem JsZ:ty6.bytes=1:=rfl
@[go_sem] theorem JIa:ty6.zero=[.int .u8 0]:=rfl
@[go_sem] theorem T_7:T.ty 7=ty7:=rfl
@[go_sem] theorem k_7 : ty7.k = .struct [(0, 2, "x"), (1, 3, "y"), (2, 4, "signed"), (3, 6, "code")] := rfl
@[go_sem] theorem JFe:ty7.sz=4:=rfl
@[go_sem] theorem Js0:ty7.bytes=24:=rfl
@[go_sem] theorem JIb:ty7.zero=[.int .i64 0,.int .i64 0,.bool false,.int .u8 0]:=rfl
@[go_sem] theorem T_8:T.ty 8=ty8:=rfl
@[go_sem] theorem k_8 : ty8.k = .struct [(0, 2, "x"), (1, 3, "y"), (2, 4, "signed"), (3, 6, "code")] := rfl
@[go_sem] theorem JFf:ty8.sz=4:=rfl
@[go_sem] theorem Js1:ty8.bytes=24:=rfl
@[go_sem] theorem JIc:ty8.zero=[.int .i64 0,.int .i64 0,.bool false,.int .u8 0]:=rfl
@[go_sem] theorem T_9:T.ty 9=ty9:=rfl
@[go_sem] theorem k_9:ty9.k=.str:=rfl
@[go_sem] theorem JFj:ty9.sz=1:=rfl
@[go_sem] theorem Js5:ty9.bytes=16:=rfl
@[go_sem] theorem JIg:ty9.zero=[.str []]:=rfl
@[go_sem] theorem JpI:T.ty 10=ty10:=rfl
@[go_sem] theorem JvB:ty10.k=.str:=rfl
@[go_sem] theorem JEf:ty10.sz=1:=rfl
@[go_sem] theorem Jr1:ty10.bytes=16:=rfl
@[go_sem] theorem JHc:ty10.zero=[.str []]:=rfl
@[go_sem] theorem JpM:T.ty 11=ty11:=rfl
@[go_sem] theorem JvF:ty11.k=.str:=rfl
@[go_sem] theorem JEj:ty11.sz=1:=rfl
@[go_sem] theorem Jr5:ty11.bytes=16:=rfl
@[go_sem] theorem JHg:ty11.zero=[.str []]:=rfl
@[go_sem] theorem JpR:T.ty 12=ty12:=rfl
@[go_sem] theorem JvK:ty12.k=.int .u64:=rfl
@[go_sem] theorem JEo:ty12.sz=1:=rfl
@[go_sem] theorem Jsa:ty12.bytes=8:=rfl
@[go_sem] theorem JHl:ty12.zero=[.int .u64 0]:=rfl
@[go_sem] theorem JpS:T.ty 13=ty13:=rfl
@[go_sem] theorem JvL : ty13.k = .struct [(0, 9, "msg"), (1, 12, "addr")] := rfl
@[go_sem] theorem JEp:ty13.sz=2:=rfl
@[go_sem] theorem Jsb:ty13.bytes=24:=rfl
@[go_sem] theorem JHm:ty13.zero=[.str [],.int .u64 0]:=rfl
@[go_sem] theorem JpY:T.ty 15=ty15:=rfl
@[go_sem] theorem JvR:ty15.k=.ptr 236:=rfl
@[go_sem] theorem JEv:ty15.sz=1:=rfl
@[go_sem] theorem Jsh:ty15.bytes=8:=rfl
@[go_sem] theorem JHs:ty15.zero=[.nilp]:=rfl
@[go_sem] theorem Jp2:T.ty 17=ty17:=rfl
@[go_sem] theorem JvV:ty17.k=.ptr 248:=rfl
@[go_sem] theorem JEz:ty17.sz=1:=rfl
@[go_sem] theorem Jsl:ty17.bytes=8:=rfl
@[go_sem] theorem JHw:ty17.zero=[.nilp]:=rfl
@[go_sem] theorem Jp4:T.ty 18=ty18:=rfl
@[go_sem] theorem JvX : ty18.k = .struct [(0, 17, "typ")] := rfl
@[go_sem] theorem JEB:ty18.sz=1:=rfl
@[go_sem] theorem Jsn:ty18.bytes=8:=rfl
@[go_sem] theorem JHy:ty18.zero=[.nilp]:=rfl
@[go_sem] theorem Jp7:T.ty 19=ty19:=rfl
@[go_sem] theorem Jv0 : ty19.k = .struct [(0, 17, "typ")] := rfl
@[go_sem] theorem JEE:ty19.sz=1:=rfl
@[go_sem] theorem Jsq:ty19.bytes=8:=rfl
@[go_sem] theorem JHB:ty19.zero=[.nilp]:=rfl
@[go_sem] theorem Jqf:T.ty 21=ty21:=rfl
@[go_sem] theorem Jv8:ty21.k=.int .i32:=rfl
@[go_sem] theorem JEM:ty21.sz=1:=rfl
@[go_sem] theorem Jsy:ty21.bytes=4:=rfl
@[go_sem] theorem JHJ:ty21.zero=[.int .i32 0]:=rfl
@[go_sem] theorem Jqi:T.ty 22=ty22:=rfl
@[go_sem] theorem Jwb:ty22.k=.slice 87:=rfl
@[go_sem] theorem JEP:ty22.sz=1:=rfl
@[go_sem] theorem JsB:ty22.bytes=24:=rfl
@[go_sem] theorem JHM:ty22.zero=[.slice true []]:=rfl
@[go_sem] theorem Jqj:T.ty 23=ty23:=rfl
@[go_sem] theorem Jwc : ty23.k = .struct [(0, 3, "Kind"), (1, 9, "Name")] := rfl
@[go_sem] theorem JEQ:ty23.sz=2:=rfl
@[go_sem] theorem JsC:ty23.bytes=24:=rfl
@[go_sem] theorem JHN:ty23.zero=[.int .i64 0,.str []]:=rfl
@[go_sem] theorem Jql:T.ty 24=ty24:=rfl
@[go_sem] theorem Jwe : ty24.k = .struct [(0, 3, "Kind"), (1, 9, "Name")] := rfl
@[go_sem] theorem JES:ty24.sz=2:=rfl
@[go_sem] theorem JsE:ty24.bytes=24:=rfl
@[go_sem] theorem JHP:ty24.zero=[.int .i64 0,.str []]:=rfl
@[go_sem] theorem Jqt:T.ty 28=ty28:=rfl
@[go_sem] theorem Jwm:ty28.k=.slice 24:=rfl
@[go_sem] theorem JE0:ty28.sz=1:=rfl
@[go_sem] theorem JsM:ty28.bytes=24:=rfl
@[go_sem] theorem JHX:ty28.zero=[.slice true []]:=rfl
@[go_sem] theorem Jqv:T.ty 31=ty31:=rfl
@[go_sem] theorem Jwo:ty31.k=.func:=rfl
@[go_sem] theorem JE2:ty31.sz=1:=rfl
@[go_sem] theorem JsO:ty31.bytes=8:=rfl
@[go_sem] theorem JHZ:ty31.zero=[.nilf]:=rfl
@[go_sem] theorem Jqw:T.ty 32=ty32:=rfl
@[go_sem] theorem Jwp:ty32.k=.func:=rfl
@[go_sem] theorem JE3:ty32.sz=1:=rfl
@[go_sem] theorem JsP:ty32.bytes=8:=rfl
@[go_sem] theorem JH0:ty32.zero=[.nilf]:=rfl
@[go_sem] theorem Jqx:T.ty 33=ty33:=rfl
@[go_sem] theorem Jwq:ty33.k=.int .i64:=rfl
@[go_sem] theorem JE4:ty33.sz=1:=rfl
@[go_sem] theorem JsQ:ty33.bytes=8:=rfl
@[go_sem] theorem JH1:ty33.zero=[.int .i64 0]:=rfl
@[go_sem] theorem Jqy:T.ty 38=ty38:=rfl
@[go_sem] theorem Jwr : ty38.k = .struct [(0, 3, "Kind"), (1, 22, "Adds"), (2, 28, "Gone")] := rfl
@[go_sem] theorem JE5:ty38.sz=3:=rfl
@[go_sem] theorem JsR:ty38.bytes=56:=rfl
@[go_sem] theorem JH2:ty38.zero=[.int .i64 0,.slice true [],.slice true []]:=rfl
@[go_sem] theorem JqA:T.ty 41=ty41:=rfl
@[go_sem] theorem Jwt : ty41.k = .struct [(0, 3, "Kind"), (1, 22, "Adds"), (2, 28, "Gone")] := rfl
@[go_sem] theorem JE7:ty41.sz=3:=rfl
@[go_sem] theorem JsT:ty41.bytes=56:=rfl
@[go_sem] theorem JH4:ty41.zero=[.int .i64 0,.slice true [],.slice true []]:=rfl
@[go_sem] theorem JqB:T.ty 44=ty44:=rfl
@[go_sem] theorem Jwu:ty44.k=.slice 38:=rfl
@[go_sem] theorem JE8:ty44.sz=1:=rfl
@[go_sem] theorem JsU:ty44.bytes=24:=rfl
@[go_sem] theorem JH5:ty44.zero=[.slice true []]:=rfl
@[go_sem] theorem JqC:T.ty 46=ty46:=rfl
@[go_sem] theorem Jwv:ty46.k=.slice 41:=rfl
@[go_sem] theorem JE9:ty46.sz=1:=rfl
@[go_sem] theorem JsV:ty46.bytes=24:=rfl
@[go_sem] theorem JH6:ty46.zero=[.slice true []]:=rfl
@[go_sem] theorem JqD:T.ty 47=ty47:=rfl
@[go_sem] theorem Jww:ty47.k=.func:=rfl
@[go_sem] theorem JFa:ty47.sz=1:=rfl
@[go_sem] theorem JsW:ty47.bytes=8:=rfl
@[go_sem] theorem JH7:ty47.zero=[.nilf]:=rfl
@[go_sem] theorem JqF:T.ty 54=ty54:=rfl
@[go_sem] theorem Jwy : ty54.k = .struct [(0, 3, "Cap"), (1, 22, "L")] := rfl
@[go_sem] theorem JFc:ty54.sz=2:=rfl
@[go_sem] theorem JsY:ty54.bytes=32:=rfl
@[go_sem] theorem JH9:ty54.zero=[.int .i64 0,.slice true []]:=rfl
@[go_sem] theorem JqJ:T.ty 84=ty84:=rfl
@[go_sem] theorem JwC:ty84.k=.slice 142:=rfl
@[go_sem] theorem JFg:ty84.sz=1:=rfl
@[go_sem] theorem Js2:ty84.bytes=24:=rfl
@[go_sem] theorem JId:ty84.zero=[.slice true []]:=rfl
@[go_sem] theorem JqK:T.ty 85=ty85:=rfl
@[go_sem] theorem JwD:ty85.k=.slice 3:=rfl
@[go_sem] theorem JFh:ty85.sz=1:=rfl
@[go_sem] theorem Js3:ty85.bytes=24:=rfl
@[go_sem] theorem JIe:ty85.zero=[.slice true []]:=rfl
@[go_sem] theorem JqL:T.ty 87=ty87:=rfl
@[go_sem] theorem JwE : ty87.k = .struct [(0, 3, "Kind"), (1, 9, "Name"), (2, 3, "Ver"), (3, 3, "Port"), (4, 9, "To"), (5, 84, "Rules"), (6, 85, "Hosts")] := rfl
@[go_sem] theorem JFi:ty87.sz=7:=rfl
@[go_sem] theorem Js4:ty87.bytes=104:=rfl
@[go_sem] theorem JIf:ty87.zero=[.int .i64 0,.str [],.int .i64 0,.int .i64 0,.str [],.slice true [],.slice true []]:=rfl
@[go_sem] theorem JqN:T.ty 94=ty94:=rfl
@[go_sem] theorem JwG:ty94.k=.func:=rfl
@[go_sem] theorem JFk:ty94.sz=1:=rfl
@[go_sem] theorem Js6:ty94.bytes=8:=rfl
@[go_sem] theorem JIh:ty94.zero=[.nilf]:=rfl
@[go_sem] theorem JqO:T.ty 95=ty95:=rfl
@[go_sem] theorem JwH:ty95.k=.map 24 4:=rfl
@[go_sem] theorem JFl:ty95.sz=1:=rfl
@[go_sem] theorem Js7:ty95.bytes=8:=rfl
@[go_sem] theorem JIi:ty95.zero=[.nilm]:=rfl
@[go_sem] theorem JqP:T.ty 96=ty96:=rfl
@[go_sem] theorem JwI:ty96.k=.map 24 4:=rfl
@[go_sem] theorem JFm:ty96.sz=1:=rfl
@[go_sem] theorem Js8:ty96.bytes=8:=rfl
@[go_sem] theorem JIj:ty96.zero=[.nilm]:=rfl
@[go_sem] theorem JpJ:T.ty 100=ty100:=rfl
@[go_sem] theorem JvC:ty100.k=.func:=rfl
@[go_sem] theorem JEg:ty100.sz=1:=rfl
@[go_sem] theorem Jr2:ty100.bytes=8:=rfl
@[go_sem] theorem JHd:ty100.zero=[.nilf]:=rfl
@[go_sem] theorem JpK:T.ty 105=ty105:=rfl
@[go_sem] theorem JvD:ty105.k=.func:=rfl
@[go_sem] theorem JEh:ty105.sz=1:=rfl
@[go_sem] theorem Jr3:ty105.bytes=8:=rfl
@[go_sem] theorem JHe:ty105.zero=[.nilf]:=rfl
@[go_sem] theorem JpL:T.ty 106=ty106:=rfl
@[go_sem] theorem JvE:ty106.k=.func:=rfl
@[go_sem] theorem JEi:ty106.sz=1:=rfl
@[go_sem] theorem Jr4:ty106.bytes=8:=rfl
@[go_sem] theorem JHf:ty106.zero=[.nilf]:=rfl
@[go_sem] theorem JpN:T.ty 110=ty110:=rfl
@[go_sem] theorem JvG:ty110.k=.slice 116:=rfl
@[go_sem] theorem JEk:ty110.sz=1:=rfl
@[go_sem] theorem Jr6:ty110.bytes=24:=rfl
@[go_sem] theorem JHh:ty110.zero=[.slice true []]:=rfl
@[go_sem] theorem JpO:T.ty 111=ty111:=rfl
@[go_sem] theorem JvH:ty111.k=.ptr 157:=rfl
@[go_sem] theorem JEl:ty111.sz=1:=rfl
@[go_sem] theorem Jr7:ty111.bytes=8:=rfl
@[go_sem] theorem JHi:ty111.zero=[.nilp]:=rfl
@[go_sem] theorem JpP:T.ty 114=ty114:=rfl
@[go_sem] theorem JvI:ty114.k=.func:=rfl
@[go_sem] theorem JEm:ty114.sz=1:=rfl
@[go_sem] theorem Jr8:ty114.bytes=8:=rfl
@[go_sem] theorem JHj:ty114.zero=[.nilf]:=rfl
@[go_sem] theorem JpQ:T.ty 116=ty116:=rfl
@[go_sem] theorem JvJ : ty116.k = .struct [(0, 85, "kinds"), (1, 114, "step")] := rfl
@[go_sem] theorem JEn:ty116.sz=2:=rfl
@[go_sem] theorem Jr9:ty116.bytes=32:=rfl
@[go_sem] theorem JHk:ty116.zero=[.slice true [],.nilf]:=rfl
@[go_sem] theorem JpT:T.ty 134=ty134:=rfl
@[go_sem] theorem JvM:ty134.k=.map 24 87:=rfl
@[go_sem] theorem JEq:ty134.sz=1:=rfl
@[go_sem] theorem Jsc:ty134.bytes=8:=rfl
@[go_sem] theorem JHn:ty134.zero=[.nilm]:=rfl
@[go_sem] theorem JpU:T.ty 140=ty140:=rfl
@[go_sem] theorem JvN:ty140.k=.slice 144:=rfl
@[go_sem] theorem JEr:ty140.sz=1:=rfl
@[go_sem] theorem Jsd:ty140.bytes=24:=rfl
@[go_sem] theorem JHo:ty140.zero=[.slice true []]:=rfl
@[go_sem] theorem JpV:T.ty 142=ty142:=rfl
@[go_sem] theorem JvO : ty142.k = .struct [(0, 9, "Host"), (1, 9, "Prefix"), (2, 140, "Split")] := rfl
@[go_sem] theorem JEs:ty142.sz=3:=rfl
@[go_sem] theorem Jse:ty142.bytes=56:=rfl
@[go_sem] theorem JHp:ty142.zero=[.str [],.str [],.slice true []]:=rfl
@[go_sem] theorem JpW:T.ty 144=ty144:=rfl
@[go_sem] theorem JvP : ty144.k = .struct [(0, 9, "Cluster"), (1, 3, "W")] := rfl
@[go_sem] theorem JEt:ty144.sz=2:=rfl
@[go_sem] theorem Jsf:ty144.bytes=24:=rfl
@[go_sem] theorem JHq:ty144.zero=[.str [],.int .i64 0]:=rfl
@[go_sem] theorem JpX:T.ty 147=ty147:=rfl
@[go_sem] theorem JvQ:ty147.k=.int .u64:=rfl
@[go_sem] theorem JEu:ty147.sz=1:=rfl
@[go_sem] theorem Jsg:ty147.bytes=8:=rfl
@[go_sem] theorem JHr:ty147.zero=[.int .u64 0]:=rfl
@[go_sem] theorem JpZ:T.ty 152=ty152:=rfl
@[go_sem] theorem JvS:ty152.k=.map 24 28:=rfl
@[go_sem] theorem JEw:ty152.sz=1:=rfl
@[go_sem] theorem Jsi:ty152.bytes=8:=rfl
@[go_sem] theorem JHt:ty152.zero=[.nilm]:=rfl
@[go_sem] theorem Jp0:T.ty 154=ty154:=rfl
@[go_sem] theorem JvT:ty154.k=.func:=rfl
@[go_sem] theorem JEx:ty154.sz=1:=rfl
@[go_sem] theorem Jsj:ty154.bytes=8:=rfl
@[go_sem] theorem JHu:ty154.zero=[.nilf]:=rfl
@[go_sem] theorem Jp1:T.ty 157=ty157:=rfl
@[go_sem] theorem JvU : ty157.k = .struct [(0, 22, "adds"), (1, 28, "gone"), (2, 95, "reach"), (3, 22, "have"), (4, 28, "held")] := rfl
@[go_sem] theorem JEy:ty157.sz=5:=rfl
@[go_sem] theorem Jsk:ty157.bytes=104:=rfl
@[go_sem] theorem JHv:ty157.zero=[.slice true [],.slice true [],.nilm,.slice true [],.slice true []]:=rfl
@[go_sem] theorem Jp3:T.ty 174=ty174:=rfl
@[go_sem] theorem JvW:ty174.k=.int .i64:=rfl
@[go_sem] theorem JEA:ty174.sz=1:=rfl
@[go_sem] theorem Jsm:ty174.bytes=8:=rfl
@[go_sem] theorem JHx:ty174.zero=[.int .i64 0]:=rfl
@[go_sem] theorem Jp5:T.ty 182=ty182:=rfl
@[go_sem] theorem JvY:ty182.k=.int .u32:=rfl
@[go_sem] theorem JEC:ty182.sz=1:=rfl
@[go_sem] theorem Jso:ty182.bytes=4:=rfl
@[go_sem] theorem JHz:ty182.zero=[.int .u32 0]:=rfl
@[go_sem] theorem Jp6:T.ty 184=ty184:=rfl
@[go_sem] theorem JvZ:ty184.k=.int .u64:=rfl
@[go_sem] theorem JED:ty184.sz=1:=rfl
@[go_sem] theorem Jsp:ty184.bytes=8:=rfl
@[go_sem] theorem JHA:ty184.zero=[.int .u64 0]:=rfl
@[go_sem] theorem Jp8:T.ty 192=ty192:=rfl
@[go_sem] theorem Jv1:ty192.k=.func:=rfl
@[go_sem] theorem JEF:ty192.sz=1:=rfl
@[go_sem] theorem Jsr:ty192.bytes=8:=rfl
@[go_sem] theorem JHC:ty192.zero=[.nilf]:=rfl
@[go_sem] theorem Jp9:T.ty 194=ty194:=rfl
@[go_sem] theorem Jv2 : ty194.k = .struct [(0, 4, "port"), (1, 4, "to"), (2, 4, "rules"), (3, 4, "hosts")] := rfl
@[go_sem] theorem JEG:ty194.sz=4:=rfl
@[go_sem] theorem Jss:ty194.bytes=4:=rfl
@[go_sem] theorem JHD:ty194.zero=[.bool false,.bool false,.bool false,.bool false]:=rfl
@[go_sem] theorem Jqa:T.ty 198=ty198:=rfl
@[go_sem] theorem Jv3:ty198.k=.func:=rfl
@[go_sem] theorem JEH:ty198.sz=1:=rfl
@[go_sem] theorem Jst:ty198.bytes=8:=rfl
@[go_sem] theorem JHE:ty198.zero=[.nilf]:=rfl
@[go_sem] theorem Jqc:T.ty 202=ty202:=rfl
@[go_sem] theorem Jv5:ty202.k=.func:=rfl
@[go_sem] theorem JEJ:ty202.sz=1:=rfl
@[go_sem] theorem Jsv:ty202.bytes=8:=rfl
@[go_sem] theorem JHG:ty202.zero=[.nilf]:=rfl
@[go_sem] theorem Jqd:T.ty 205=ty205:=rfl
@[go_sem] theorem Jv6:ty205.k=.int .u64:=rfl
@[go_sem] theorem JEK:ty205.sz=1:=rfl
@[go_sem] theorem Jsw:ty205.bytes=8:=rfl
@[go_sem] theorem JHH:ty205.zero=[.int .u64 0]:=rfl
@[go_sem] theorem Jqe:T.ty 209=ty209:=rfl
@[go_sem] theorem Jv7:ty209.k=.ptr 3:=rfl
@[go_sem] theorem JEL:ty209.sz=1:=rfl
@[go_sem] theorem Jsx:ty209.bytes=8:=rfl
@[go_sem] theorem JHI:ty209.zero=[.nilp]:=rfl
@[go_sem] theorem Jqg:T.ty 212=ty212:=rfl
@[go_sem] theorem Jv9:ty212.k=.slice 22:=rfl
@[go_sem] theorem JEN:ty212.sz=1:=rfl
@[go_sem] theorem Jsz:ty212.bytes=24:=rfl
@[go_sem] theorem JHK:ty212.zero=[.slice true []]:=rfl
@[go_sem] theorem Jqh:T.ty 216=ty216:=rfl
@[go_sem] theorem Jwa:ty216.k=.ptr 205:=rfl
@[go_sem] theorem JEO:ty216.sz=1:=rfl
@[go_sem] theorem JsA:ty216.bytes=8:=rfl
@[go_sem] theorem JHL:ty216.zero=[.nilp]:=rfl
@[go_sem] theorem Jqk:T.ty 236=ty236:=rfl
@[go_sem] theorem Jwd : ty236.k = .struct [(0, 17, "_interface"), (1, 17, "concrete"), (2, 17, "asserted"), (3, 9, "missingMethod")] := rfl
@[go_sem] theorem JER:ty236.sz=4:=rfl
@[go_sem] theorem JsD:ty236.bytes=40:=rfl
@[go_sem] theorem JHO:ty236.zero=[.nilp,.nilp,.nilp,.str []]:=rfl
@[go_sem] theorem Jqm:T.ty 241=ty241:=rfl
@[go_sem] theorem Jwf:ty241.k=.int .u8:=rfl
@[go_sem] theorem JET:ty241.sz=1:=rfl
@[go_sem] theorem JsF:ty241.bytes=1:=rfl
@[go_sem] theorem JHQ:ty241.zero=[.int .u8 0]:=rfl
@[go_sem] theorem Jqn:T.ty 242=ty242:=rfl
@[go_sem] theorem Jwg:ty242.k=.int .u8:=rfl
@[go_sem] theorem JEU:ty242.sz=1:=rfl
@[go_sem] theorem JsG:ty242.bytes=1:=rfl
@[go_sem] theorem JHR:ty242.zero=[.int .u8 0]:=rfl
@[go_sem] theorem Jqo:T.ty 243=ty243:=rfl
@[go_sem] theorem Jwh:ty243.k=.func:=rfl
@[go_sem] theorem JEV:ty243.sz=1:=rfl
@[go_sem] theorem JsH:ty243.bytes=8:=rfl
@[go_sem] theorem JHS:ty243.zero=[.nilf]:=rfl
@[go_sem] theorem Jqp:T.ty 244=ty244:=rfl
@[go_sem] theorem Jwi:ty244.k=.ptr 5:=rfl
@[go_sem] theorem JEW:ty244.sz=1:=rfl
@[go_sem] theorem JsI:ty244.bytes=8:=rfl
@[go_sem] theorem JHT:ty244.zero=[.nilp]:=rfl
@[go_sem] theorem Jqq:T.ty 245=ty245:=rfl
@[go_sem] theorem Jwj:ty245.k=.int .i32:=rfl
@[go_sem] theorem JEX:ty245.sz=1:=rfl
@[go_sem] theorem JsJ:ty245.bytes=4:=rfl
@[go_sem] theorem JHU:ty245.zero=[.int .i32 0]:=rfl
@[go_sem] theorem Jqr:T.ty 246=ty246:=rfl
@[go_sem] theorem Jwk:ty246.k=.int .i32:=rfl
@[go_sem] theorem JEY:ty246.sz=1:=rfl
@[go_sem] theorem JsK:ty246.bytes=4:=rfl
@[go_sem] theorem JHV:ty246.zero=[.int .i32 0]:=rfl
@[go_sem] theorem Jqs:T.ty 248=ty248:=rfl
@[go_sem] theorem Jwl : ty248.k = .struct [(0, 12, "Size_"), (1, 12, "PtrBytes"), (2, 182, "Hash"), (3, 241, "TFlag"), (4, 5, "Align_"), (5, 5, "FieldAlign_"), (6, 242, "Kind_"), (7, 243, "Equal"), (8, 244, "GCData"), (9, 245, "Str"), (10, 246, "PtrToThis")] := rfl
@[go_sem] theorem JEZ:ty248.sz=11:=rfl
@[go_sem] theorem JsL:ty248.bytes=48:=rfl
@[go_sem] theorem JHW:ty248.zero=[.int .u64 0,.int .u64 0,.int .u32 0,.int .u8 0,.int .u8 0,.int .u8 0,.int .u8 0,.nilf,.nilp,.int .i32 0,.int .i32 0]:=rfl
@[go_sem] theorem JtV:Tryz.prog.eqGuardType Tryz.prog.depth 24=false:=by kernel_rfl
@[go_sem] theorem JEd:Tryz.prog.stoodInHeld 24=false:=by kernel_rfl
@[go_sem] theorem JtT:Tryz.prog.eqGuardType Tryz.prog.depth 144=false:=by kernel_rfl
@[go_sem] theorem JEb:Tryz.prog.stoodInHeld 144=false:=by kernel_rfl
@[go_sem] theorem JtU:Tryz.prog.eqGuardType Tryz.prog.depth 194=false:=by kernel_rfl
@[go_sem] theorem JEc:Tryz.prog.stoodInHeld 194=false:=by kernel_rfl
theorem mixed:Tryz.prog.follows .mixedOrders=true:=by kernel_rfl
@[ext] structure BoundsError where
 x:Int
 y:Int
 signed:Bool
 code:UInt8
 deriving Inhabited,DecidableEq
instance:Dat BoundsError where
 av x:=.agg [.int .i64 x.x,.int .i64 x.y,.bool x.signed,.int .u8 x.code.toNat]
 sz:=4
 len _:=rfl
 pure x:=by simp only[go_sem,Bool.and_self]
 nrm x:=by simp only[go_sem]
 one x:=by simp only[go_sem,List.all_cons,List.all_nil,Bool.and_self]
 known x:=rfl
@[go_sem] theorem Ji5(x:BoundsError):Dat.av x=.agg [.int .i64 x.x,.int .i64 x.y,.bool x.signed,.int .u8 x.code.toNat]:=rfl
@[go_sem] theorem JFp:Dat.sz BoundsError=4:=rfl
@[go_sem] theorem JDx(l:List BoundsError)(n:Nat)(f0:Int)(f1:Int)(f2:Bool)(f3:UInt8):(Ja l).set n (.agg [.int .i64 f0,.int .i64 f1,.bool f2,.int .u8 f3.toNat])=Ja (l.set n ⟨f0,f1,f2,f3⟩):=V2 l n (⟨f0,f1,f2,f3⟩:BoundsError)
@[go_sem] theorem JDY(l:List BoundsError)(f0:Int)(f1:Int)(f2:Bool)(f3:UInt8):Ja l++[.agg [.int .i64 f0,.int .i64 f1,.bool f2,.int .u8 f3.toNat]]=Ja (l++[⟨f0,f1,f2,f3⟩]):=by rw[VY];rfl
@[go_sem] theorem JjR:∀l:List BoundsError,AV.flat.flatL (Ja l)=true
 | []=>rfl
 |_ :: r=>by simp only[ZN,AV.flat.flatL,JjR r,Ji5,AV.flat,Bool.and_self]
@[go_sem] theorem JtY(x:BoundsError):BoundsError.mk x.x x.y x.signed x.code=x:=rfl
@[ext] structure Weight where
 cluster:List UInt8
 w:Int
 deriving Inhabited,DecidableEq
instance:Dat Weight where
 av x:=.agg [.str x.cluster,.int .i64 x.w]
 sz:=2
 len _:=rfl
 pure x:=by simp only[go_sem,Bool.and_self]
 nrm x:=by simp only[go_sem]
 one x:=by simp only[go_sem,List.all_cons,List.all_nil,Bool.and_self]
 known x:=rfl
@[go_sem] theorem Ji7(x:Weight):Dat.av x=.agg [.str x.cluster,.int .i64 x.w]:=rfl
@[go_sem] theorem JFA:Dat.sz Weight=2:=rfl
@[go_sem] theorem JDJ(l:List Weight)(n:Nat)(f0:List UInt8)(f1:Int):(Ja l).set n (.agg [.str f0,.int .i64 f1])=Ja (l.set n ⟨f0,f1⟩):=V2 l n (⟨f0,f1⟩:Weight)
@[go_sem] theorem JEa(l:List Weight)(f0:List UInt8)(f1:Int):Ja l++[.agg [.str f0,.int .i64 f1]]=Ja (l++[⟨f0,f1⟩]):=by rw[VY];rfl
@[go_sem] theorem JjW:∀l:List Weight,AV.flat.flatL (Ja l)=true
 | []=>rfl
 |_ :: r=>by simp only[ZN,AV.flat.flatL,JjW r,Ji7,AV.flat,Bool.and_self]
theorem JcZ(x y:Weight):x=y↔x.cluster=y.cluster∧x.w=y.w:=by cases x;cases y;simp
@[go_sem] theorem Jt7(x:Weight):Weight.mk x.cluster x.w=x:=rfl
@[ext] structure Rule where
 host:List UInt8
 pfx:List UInt8
 split:List Weight
 deriving Inhabited,DecidableEq
instance:Dat Rule where
 av x:=.agg [.str x.host,.str x.pfx,.slice false (Ja x.split)]
 sz:=3
 len _:=rfl
 pure x:=by simp only[go_sem,Bool.and_self]
 nrm x:=by simp only[go_sem]
 one x:=by simp only[go_sem,List.all_cons,List.all_nil,Bool.and_self]
 known x:=rfl
@[go_sem] theorem Jrl(x:Rule):Dat.av x=.agg [.str x.host,.str x.pfx,.slice false (Ja x.split)]:=rfl
@[go_sem] theorem JFx:Dat.sz Rule=3:=rfl
@[go_sem] theorem JDE(l:List Rule)(n:Nat)(f0:List UInt8)(f1:List UInt8)(f2:List Weight):(Ja l).set n (.agg [.str f0,.str f1,.slice false (Ja f2)])=Ja (l.set n ⟨f0,f1,f2⟩):=V2 l n (⟨f0,f1,f2⟩:Rule)
@[go_sem] theorem JD5(l:List Rule)(f0:List UInt8)(f1:List UInt8)(f2:List Weight):Ja l++[.agg [.str f0,.str f1,.slice false (Ja f2)]]=Ja (l++[⟨f0,f1,f2⟩]):=by rw[VY];rfl
theorem Jgk(x y:Rule):x=y↔x.host=y.host∧x.pfx=y.pfx∧x.split=y.split:=by cases x;cases y;simp
@[go_sem] theorem Jt4(x:Rule):Rule.mk x.host x.pfx x.split=x:=rfl
@[ext] structure Res where
 kind:Int
 name:List UInt8
 ver:Int
 port:Int
 to':List UInt8
 rules':List Rule
 hosts:List Int
 deriving Inhabited,DecidableEq
instance:Dat Res where
 av x:=.agg [.int .i64 x.kind,.str x.name,.int .i64 x.ver,.int .i64 x.port,.str x.to',.slice false (Ja x.rules'),.slice false (Ja x.hosts)]
 sz:=7
 len _:=rfl
 pure x:=by simp only[go_sem,Bool.and_self]
 nrm x:=by simp only[go_sem]
 one x:=by simp only[go_sem,List.all_cons,List.all_nil,Bool.and_self]
 known x:=rfl
@[go_sem] theorem JbZ(x:Res):Dat.av x=.agg [.int .i64 x.kind,.str x.name,.int .i64 x.ver,.int .i64 x.port,.str x.to',.slice false (Ja x.rules'),.slice false (Ja x.hosts)]:=rfl
@[go_sem] theorem JFw:Dat.sz Res=7:=rfl
@[go_sem] theorem JDD(l:List Res)(n:Nat)(f0:Int)(f1:List UInt8)(f2:Int)(f3:Int)(f4:List UInt8)(f5:List Rule)(f6:List Int):(Ja l).set n (.agg [.int .i64 f0,.str f1,.int .i64 f2,.int .i64 f3,.str f4,.slice false (Ja f5),.slice false (Ja f6)])=Ja (l.set n ⟨f0,f1,f2,f3,f4,f5,f6⟩):=V2 l n (⟨f0,f1,f2,f3,f4,f5,f6⟩:Res)
@[go_sem] theorem JD4(l:List Res)(f0:Int)(f1:List UInt8)(f2:Int)(f3:Int)(f4:List UInt8)(f5:List Rule)(f6:List Int):Ja l++[.agg [.int .i64 f0,.str f1,.int .i64 f2,.int .i64 f3,.str f4,.slice false (Ja f5),.slice false (Ja f6)]]=Ja (l++[⟨f0,f1,f2,f3,f4,f5,f6⟩]):=by rw[VY];rfl
@[go_sem] theorem Jt3(x:Res):Res.mk x.kind x.name x.ver x.port x.to' x.rules' x.hosts=x:=rfl
@[ext] structure Key where
 kind:Int
 name:List UInt8
 deriving Inhabited,DecidableEq
instance:Dat Key where
 av x:=.agg [.int .i64 x.kind,.str x.name]
 sz:=2
 len _:=rfl
 pure x:=by simp only[go_sem,Bool.and_self]
 nrm x:=by simp only[go_sem]
 one x:=by simp only[go_sem,List.all_cons,List.all_nil,Bool.and_self]
 known x:=rfl
@[go_sem] theorem Jeb(x:Key):Dat.av x=.agg [.int .i64 x.kind,.str x.name]:=rfl
@[go_sem] theorem JFs:Dat.sz Key=2:=rfl
@[go_sem] theorem JDB(l:List Key)(n:Nat)(f0:Int)(f1:List UInt8):(Ja l).set n (.agg [.int .i64 f0,.str f1])=Ja (l.set n ⟨f0,f1⟩):=V2 l n (⟨f0,f1⟩:Key)
@[go_sem] theorem JD2(l:List Key)(f0:Int)(f1:List UInt8):Ja l++[.agg [.int .i64 f0,.str f1]]=Ja (l++[⟨f0,f1⟩]):=by rw[VY];rfl
@[go_sem] theorem JjU:∀l:List Key,AV.flat.flatL (Ja l)=true
 | []=>rfl
 |_ :: r=>by simp only[ZN,AV.flat.flatL,JjU r,Jeb,AV.flat,Bool.and_self]
theorem Zd(x y:Key):x=y↔x.kind=y.kind∧x.name=y.name:=by cases x;cases y;simp
@[go_sem] theorem Jt1(x:Key):Key.mk x.kind x.name=x:=rfl
@[ext] structure Step where
 kind:Int
 adds:List Res
 gone:List Key
 deriving Inhabited,DecidableEq
instance:Dat Step where
 av x:=.agg [.int .i64 x.kind,.slice false (Ja x.adds),.slice false (Ja x.gone)]
 sz:=3
 len _:=rfl
 pure x:=by simp only[go_sem,Bool.and_self]
 nrm x:=by simp only[go_sem]
 one x:=by simp only[go_sem,List.all_cons,List.all_nil,Bool.and_self]
 known x:=rfl
@[go_sem] theorem Jrm(x:Step):Dat.av x=.agg [.int .i64 x.kind,.slice false (Ja x.adds),.slice false (Ja x.gone)]:=rfl
@[go_sem] theorem JFy:Dat.sz Step=3:=rfl
@[go_sem] theorem JDF(l:List Step)(n:Nat)(f0:Int)(f1:List Res)(f2:List Key):(Ja l).set n (.agg [.int .i64 f0,.slice false (Ja f1),.slice false (Ja f2)])=Ja (l.set n ⟨f0,f1,f2⟩):=V2 l n (⟨f0,f1,f2⟩:Step)
@[go_sem] theorem JD6(l:List Step)(f0:Int)(f1:List Res)(f2:List Key):Ja l++[.agg [.int .i64 f0,.slice false (Ja f1),.slice false (Ja f2)]]=Ja (l++[⟨f0,f1,f2⟩]):=by rw[VY];rfl
@[go_sem] theorem Jt5(x:Step):Step.mk x.kind x.adds x.gone=x:=rfl
@[ext] structure Cache where
 cap:Int
 l:List Res
 deriving Inhabited,DecidableEq
instance:Dat Cache where
 av x:=.agg [.int .i64 x.cap,.slice false (Ja x.l)]
 sz:=2
 len _:=rfl
 pure x:=by simp only[go_sem,Bool.and_self]
 nrm x:=by simp only[go_sem]
 one x:=by simp only[go_sem,List.all_cons,List.all_nil,Bool.and_self]
 known x:=rfl
@[go_sem] theorem Jrh(x:Cache):Dat.av x=.agg [.int .i64 x.cap,.slice false (Ja x.l)]:=rfl
@[go_sem] theorem JFq:Dat.sz Cache=2:=rfl
@[go_sem] theorem JDy(l:List Cache)(n:Nat)(f0:Int)(f1:List Res):(Ja l).set n (.agg [.int .i64 f0,.slice false (Ja f1)])=Ja (l.set n ⟨f0,f1⟩):=V2 l n (⟨f0,f1⟩:Cache)
@[go_sem] theorem JDZ(l:List Cache)(f0:Int)(f1:List Res):Ja l++[.agg [.int .i64 f0,.slice false (Ja f1)]]=Ja (l++[⟨f0,f1⟩]):=by rw[VY];rfl
@[go_sem] theorem JtZ(x:Cache):Cache.mk x.cap x.l=x:=rfl
@[ext] structure Warm where
 c:Cache
 ready:Bool
 shown:List Res
 deriving Inhabited,DecidableEq
instance:Dat Warm where
 av x:=.agg [.int .i64 x.c.cap,.slice false (Ja x.c.l),.bool x.ready,.slice false (Ja x.shown)]
 sz:=4
 len _:=rfl
 pure x:=by simp only[go_sem,Bool.and_self]
 nrm x:=by simp only[go_sem]
 one x:=by simp only[go_sem,List.all_cons,List.all_nil,Bool.and_self]
 known x:=rfl
@[go_sem] theorem Jrn(x:Warm):Dat.av x=.agg [.int .i64 x.c.cap,.slice false (Ja x.c.l),.bool x.ready,.slice false (Ja x.shown)]:=rfl
@[go_sem] theorem JFz:Dat.sz Warm=4:=rfl
@[go_sem] theorem JDI(l:List Warm)(n:Nat)(f0:Cache)(f1:Bool)(f2:List Res):(Ja l).set n (.agg [.int .i64 f0.cap,.slice false (Ja f0.l),.bool f1,.slice false (Ja f2)])=Ja (l.set n ⟨f0,f1,f2⟩):=V2 l n (⟨f0,f1,f2⟩:Warm)
@[go_sem] theorem JD9(l:List Warm)(f0:Cache)(f1:Bool)(f2:List Res):Ja l++[.agg [.int .i64 f0.cap,.slice false (Ja f0.l),.bool f1,.slice false (Ja f2)]]=Ja (l++[⟨f0,f1,f2⟩]):=by rw[VY];rfl
@[go_sem] theorem Jt6(x:Warm):Warm.mk x.c x.ready x.shown=x:=rfl
@[ext] structure Move where
 warm:Warm
 changed:Bool
 deriving Inhabited,DecidableEq
instance:Dat Move where
 av x:=.agg [.int .i64 x.warm.c.cap,.slice false (Ja x.warm.c.l),.bool x.warm.ready,.slice false (Ja x.warm.shown),.bool x.changed]
 sz:=5
 len _:=rfl
 pure x:=by simp only[go_sem,Bool.and_self]
 nrm x:=by simp only[go_sem]
 one x:=by simp only[go_sem,List.all_cons,List.all_nil,Bool.and_self]
 known x:=rfl
@[go_sem] theorem Jrj(x:Move):Dat.av x=.agg [.int .i64 x.warm.c.cap,.slice false (Ja x.warm.c.l),.bool x.warm.ready,.slice false (Ja x.warm.shown),.bool x.changed]:=rfl
@[go_sem] theorem JFu:Dat.sz Move=5:=rfl
@[go_sem] theorem JDC(l:List Move)(n:Nat)(f0:Warm)(f1:Bool):(Ja l).set n (.agg [.int .i64 f0.c.cap,.slice false (Ja f0.c.l),.bool f0.ready,.slice false (Ja f0.shown),.bool f1])=Ja (l.set n ⟨f0,f1⟩):=V2 l n (⟨f0,f1⟩:Move)
@[go_sem] theorem JD3(l:List Move)(f0:Warm)(f1:Bool):Ja l++[.agg [.int .i64 f0.c.cap,.slice false (Ja f0.c.l),.bool f0.ready,.slice false (Ja f0.shown),.bool f1]]=Ja (l++[⟨f0,f1⟩]):=by rw[VY];rfl
@[go_sem] theorem Jt2(x:Move):Move.mk x.warm x.changed=x:=rfl
@[ext] structure Bad where
 e:Int
 deriving Inhabited,DecidableEq
instance:Dat Bad where
 av x:=.agg [.int .i64 x.e]
 sz:=1
 len _:=rfl
 pure x:=by simp only[go_sem,Bool.and_self]
 nrm x:=by simp only[go_sem]
 one x:=by simp only[go_sem,List.all_cons,List.all_nil,Bool.and_self]
 known x:=rfl
@[go_sem] theorem Ji4(x:Bad):Dat.av x=.agg [.int .i64 x.e]:=rfl
@[go_sem] theorem JFo:Dat.sz Bad=1:=rfl
@[go_sem] theorem JDv(l:List Bad)(n:Nat)(f0:Int):(Ja l).set n (.agg [.int .i64 f0])=Ja (l.set n ⟨f0⟩):=V2 l n (⟨f0⟩:Bad)
@[go_sem] theorem JDW(l:List Bad)(f0:Int):Ja l++[.agg [.int .i64 f0]]=Ja (l++[⟨f0⟩]):=by rw[VY];rfl
@[go_sem] theorem JjQ:∀l:List Bad,AV.flat.flatL (Ja l)=true
 | []=>rfl
 |_ :: r=>by simp only[ZN,AV.flat.flatL,JjQ r,Ji4,AV.flat,Bool.and_self]
@[go_sem] theorem JtX(x:Bad):Bad.mk x.e=x:=rfl
@[ext] structure Has where
 port:Bool
 to':Bool
 rules':Bool
 hosts:Bool
 deriving Inhabited,DecidableEq
instance:Dat Has where
 av x:=.agg [.bool x.port,.bool x.to',.bool x.rules',.bool x.hosts]
 sz:=4
 len _:=rfl
 pure x:=by simp only[go_sem,Bool.and_self]
 nrm x:=by simp only[go_sem]
 one x:=by simp only[go_sem,List.all_cons,List.all_nil,Bool.and_self]
 known x:=rfl
@[go_sem] theorem Ji6(x:Has):Dat.av x=.agg [.bool x.port,.bool x.to',.bool x.rules',.bool x.hosts]:=rfl
@[go_sem] theorem JFr:Dat.sz Has=4:=rfl
@[go_sem] theorem JDz(l:List Has)(n:Nat)(f0:Bool)(f1:Bool)(f2:Bool)(f3:Bool):(Ja l).set n (.agg [.bool f0,.bool f1,.bool f2,.bool f3])=Ja (l.set n ⟨f0,f1,f2,f3⟩):=V2 l n (⟨f0,f1,f2,f3⟩:Has)
@[go_sem] theorem JD0(l:List Has)(f0:Bool)(f1:Bool)(f2:Bool)(f3:Bool):Ja l++[.agg [.bool f0,.bool f1,.bool f2,.bool f3]]=Ja (l++[⟨f0,f1,f2,f3⟩]):=by rw[VY];rfl
@[go_sem] theorem JjS:∀l:List Has,AV.flat.flatL (Ja l)=true
 | []=>rfl
 |_ :: r=>by simp only[ZN,AV.flat.flatL,JjS r,Ji6,AV.flat,Bool.and_self]
@[go_sem] theorem Jt0(x:Has):Has.mk x.port x.to' x.rules' x.hosts=x:=rfl
@[ext] structure AcceptRange where
 lo:UInt8
 hi:UInt8
 deriving Inhabited,DecidableEq
instance:Dat AcceptRange where
 av x:=.agg [.int .u8 x.lo.toNat,.int .u8 x.hi.toNat]
 sz:=2
 len _:=rfl
 pure x:=by simp only[go_sem,Bool.and_self]
 nrm x:=by simp only[go_sem]
 one x:=by simp only[go_sem,List.all_cons,List.all_nil,Bool.and_self]
 known x:=rfl
@[go_sem] theorem Ji3(x:AcceptRange):Dat.av x=.agg [.int .u8 x.lo.toNat,.int .u8 x.hi.toNat]:=rfl
@[go_sem] theorem JFn:Dat.sz AcceptRange=2:=rfl
@[go_sem] theorem JDu(l:List AcceptRange)(n:Nat)(f0:UInt8)(f1:UInt8):(Ja l).set n (.agg [.int .u8 f0.toNat,.int .u8 f1.toNat])=Ja (l.set n ⟨f0,f1⟩):=V2 l n (⟨f0,f1⟩:AcceptRange)
@[go_sem] theorem JDV(l:List AcceptRange)(f0:UInt8)(f1:UInt8):Ja l++[.agg [.int .u8 f0.toNat,.int .u8 f1.toNat]]=Ja (l++[⟨f0,f1⟩]):=by rw[VY];rfl
@[go_sem] theorem JjP:∀l:List AcceptRange,AV.flat.flatL (Ja l)=true
 | []=>rfl
 |_ :: r=>by simp only[ZN,AV.flat.flatL,JjP r,Ji3,AV.flat,Bool.and_self]
@[go_sem] theorem JtW(x:AcceptRange):AcceptRange.mk x.lo x.hi=x:=rfl
def JbW(x:Weight):Prop:=Jc x.cluster.length
def VB(x:Rule):Prop:=Jc x.host.length∧Jc x.pfx.length∧Jc x.split.length∧(∀y∈x.split,JbW y)
def Jw(x:Res):Prop:=Jc x.name.length∧Jc x.to'.length∧Jc x.rules'.length∧(∀y∈x.rules',VB y)∧Jc x.hosts.length
def JdY(x:Key):Prop:=Jc x.name.length
end Go.Proofs.YtmjkjmoeicnbnaaGreatDoor.Lg
