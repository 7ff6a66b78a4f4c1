/- Parts of the proof, one behind the other. -/
import Derived.Test.YthjalhfmpffbjaaGreatDoorProg
import Derived.Test.YthjalhfmpffbjaaGreatDoorG02
namespace Go.Proofs.YthjalhfmpffbjaaGreatDoor.Lg
open Go
set_option linter.unusedVariables false
set_option linter.unusedSimpArgs false
set_option maxRecDepth 100000
set_option maxHeartbeats 64000000
theorem Jiy{i:Nat}{ti:TypeInfo}(h:Tryz.prog.types[i]?=some ti):Tryz.prog.info? i=some ti:=by
 have hlt:i<Tryz.prog.types.size:=(Array.getElem?_eq_some_iff.1 h).1
 simp only[Tables.info?,if_pos hlt,h]
@[go_sem] def ty1:TyI:=⟨.func,1,8,[.nilf]⟩
@[go_sem] def ty2:TyI:=⟨.int .i64,1,8,[.int .i64 0]⟩
@[go_sem] def ty3:TyI:=⟨.int .i64,1,8,[.int .i64 0]⟩
@[go_sem] def ty4:TyI:=⟨.bool,1,1,[.bool false]⟩
@[go_sem] def ty5:TyI:=⟨.int .u8,1,1,[.int .u8 0]⟩
@[go_sem] def ty6:TyI:=⟨.int .u8,1,1,[.int .u8 0]⟩
@[go_sem] def ty7 : TyI := ⟨.struct [(0, 2, "x"), (1, 3, "y"), (2, 4, "signed"), (3, 6, "code")], 4, 24, [.int .i64 0, .int .i64 0, .bool false, .int .u8 0]⟩
@[go_sem] def ty8 : TyI := ⟨.struct [(0, 2, "x"), (1, 3, "y"), (2, 4, "signed"), (3, 6, "code")], 4, 24, [.int .i64 0, .int .i64 0, .bool false, .int .u8 0]⟩
@[go_sem] def ty9:TyI:=⟨.str,1,16,[.str []]⟩
@[go_sem] def JkB:TyI:=⟨.str,1,16,[.str []]⟩
@[go_sem] def JkG:TyI:=⟨.str,1,16,[.str []]⟩
@[go_sem] def JkL:TyI:=⟨.int .u64,1,8,[.int .u64 0]⟩
@[go_sem] def JkO : TyI := ⟨.struct [(0, 9, "msg"), (1, 12, "addr")], 2, 24, [.str [], .int .u64 0]⟩
@[go_sem] def JkR : TyI := ⟨.struct [(0, 9, "msg"), (1, 12, "addr")], 2, 24, [.str [], .int .u64 0]⟩
@[go_sem] def JkT:TyI:=⟨.ptr 309,1,8,[.nilp]⟩
@[go_sem] def JkU:TyI:=⟨.ptr 312,1,8,[.nilp]⟩
@[go_sem] def JkX:TyI:=⟨.ptr 320,1,8,[.nilp]⟩
@[go_sem] def Jk0 : TyI := ⟨.struct [(0, 17, "typ")], 1, 8, [.nilp]⟩
@[go_sem] def Jk6:TyI:=⟨.int .i32,1,4,[.int .i32 0]⟩
@[go_sem] def Jk9 : TyI := ⟨.struct [(0, 3, "Port"), (1, 9, "Host"), (2, 9, "Path"), (3, 3, "First"), (4, 3, "Other")], 5, 56, [.int .i64 0, .str [], .str [], .int .i64 0, .int .i64 0]⟩
@[go_sem] def Jld : TyI := ⟨.struct [(0, 3, "Port"), (1, 9, "Host"), (2, 9, "Path"), (3, 3, "First"), (4, 3, "Other")], 5, 56, [.int .i64 0, .str [], .str [], .int .i64 0, .int .i64 0]⟩
@[go_sem] def Jlf : TyI := ⟨.struct [(0, 3, "What"), (1, 9, "Cluster"), (2, 3, "Host")], 3, 32, [.int .i64 0, .str [], .int .i64 0]⟩
@[go_sem] def Jlh : TyI := ⟨.struct [(0, 3, "What"), (1, 9, "Cluster"), (2, 3, "Host")], 3, 32, [.int .i64 0, .str [], .int .i64 0]⟩
@[go_sem] def Jll : TyI := ⟨.struct [(0, 23, "A"), (5, 3, "Stage"), (6, 3, "Id"), (7, 9, "Route"), (8, 9, "Cluster"), (9, 25, "Out")], 12, 136, [.int .i64 0, .str [], .str [], .int .i64 0, .int .i64 0, .int .i64 0, .int .i64 0, .str [], .str [], .int .i64 0, .str [], .int .i64 0]⟩
@[go_sem] def Jlo : TyI := ⟨.struct [(0, 23, "A"), (5, 3, "Stage"), (6, 3, "Id"), (7, 9, "Route"), (8, 9, "Cluster"), (9, 25, "Out")], 12, 136, [.int .i64 0, .str [], .str [], .int .i64 0, .int .i64 0, .int .i64 0, .int .i64 0, .str [], .str [], .int .i64 0, .str [], .int .i64 0]⟩
@[go_sem] def Jlr:TyI:=⟨.array 4 3,4,32,[.int .i64 0,.int .i64 0,.int .i64 0,.int .i64 0]⟩
@[go_sem] def Jlx : TyI := ⟨.struct [(0, 28, "Last"), (4, 3, "Max")], 5, 40, [.int .i64 0, .int .i64 0, .int .i64 0, .int .i64 0, .int .i64 0]⟩
@[go_sem] def Jlz:TyI:=⟨.int .i64,1,8,[.int .i64 0]⟩
@[go_sem] def JlI:TyI:=⟨.array 4 31,4,32,[.int .i64 0,.int .i64 0,.int .i64 0,.int .i64 0]⟩
@[go_sem] def JlK:TyI:=⟨.slice 118,1,24,[.slice true []]⟩
@[go_sem] def JlL : TyI := ⟨.struct [(0, 3, "Cap"), (1, 33, "L")], 2, 32, [.int .i64 0, .slice true []]⟩
@[go_sem] def JlM : TyI := ⟨.struct [(0, 35, "C"), (2, 4, "Ready"), (3, 33, "Shown")], 4, 64, [.int .i64 0, .slice true [], .bool false, .slice true []]⟩
@[go_sem] def JlN:TyI:=⟨.slice 72,1,24,[.slice true []]⟩
@[go_sem] def JlP : TyI := ⟨.struct [(0, 3, "Next"), (1, 38, "Snaps")], 2, 32, [.int .i64 0, .slice true []]⟩
@[go_sem] def JlQ : TyI := ⟨.struct [(0, 3, "Epoch"), (1, 3, "Turn"), (2, 4, "Up"), (3, 30, "In"), (8, 32, "Errs"), (12, 37, "W"), (16, 40, "P")], 18, 192, [.int .i64 0, .int .i64 0, .bool false, .int .i64 0, .int .i64 0, .int .i64 0, .int .i64 0, .int .i64 0, .int .i64 0, .int .i64 0, .int .i64 0, .int .i64 0, .int .i64 0, .slice true [], .bool false, .slice true [], .int .i64 0, .slice true []]⟩
@[go_sem] def JlR : TyI := ⟨.struct [(0, 3, "Epoch"), (1, 3, "Turn"), (2, 4, "Up"), (3, 30, "In"), (8, 32, "Errs"), (12, 37, "W"), (16, 40, "P")], 18, 192, [.int .i64 0, .int .i64 0, .bool false, .int .i64 0, .int .i64 0, .int .i64 0, .int .i64 0, .int .i64 0, .int .i64 0, .int .i64 0, .int .i64 0, .int .i64 0, .int .i64 0, .slice true [], .bool false, .slice true [], .int .i64 0, .slice true []]⟩
@[go_sem] def JlS:TyI:=⟨.func,1,8,[.nilf]⟩
@[go_sem] def JlT:TyI:=⟨.func,1,8,[.nilf]⟩
@[go_sem] def JlU : TyI := ⟨.struct [(0, 23, "A"), (5, 3, "Stage"), (6, 3, "Id"), (7, 9, "Route"), (8, 9, "Cluster"), (9, 25, "Out")], 12, 136, [.int .i64 0, .str [], .str [], .int .i64 0, .int .i64 0, .int .i64 0, .int .i64 0, .str [], .str [], .int .i64 0, .str [], .int .i64 0]⟩
@[go_sem] def JlV:TyI:=⟨.func,1,8,[.nilf]⟩
@[go_sem] def JlW:TyI:=⟨.func,1,8,[.nilf]⟩
@[go_sem] def JlX : TyI := ⟨.struct [(0, 28, "Last"), (4, 3, "Max")], 5, 40, [.int .i64 0, .int .i64 0, .int .i64 0, .int .i64 0, .int .i64 0]⟩
@[go_sem] def JlZ : TyI := ⟨.struct [(0, 3, "Cap"), (1, 33, "L")], 2, 32, [.int .i64 0, .slice true []]⟩
@[go_sem] def Jl0 : TyI := ⟨.struct [(0, 50, "C"), (2, 4, "Ready"), (3, 33, "Shown")], 4, 64, [.int .i64 0, .slice true [], .bool false, .slice true []]⟩
@[go_sem] def Jl1:TyI:=⟨.slice 103,1,24,[.slice true []]⟩
@[go_sem] def Jl2 : TyI := ⟨.struct [(0, 3, "Next"), (1, 53, "Snaps")], 2, 32, [.int .i64 0, .slice true []]⟩
@[go_sem] def Jl3 : TyI := ⟨.struct [(0, 3, "Next"), (1, 53, "Snaps")], 2, 32, [.int .i64 0, .slice true []]⟩
@[go_sem] def Jl4 : TyI := ⟨.struct [(0, 3, "Epoch"), (1, 3, "Turn"), (2, 4, "Up"), (3, 49, "In"), (8, 32, "Errs"), (12, 52, "W"), (16, 55, "P")], 18, 192, [.int .i64 0, .int .i64 0, .bool false, .int .i64 0, .int .i64 0, .int .i64 0, .int .i64 0, .int .i64 0, .int .i64 0, .int .i64 0, .int .i64 0, .int .i64 0, .int .i64 0, .slice true [], .bool false, .slice true [], .int .i64 0, .slice true []]⟩
@[go_sem] def Jl6:TyI:=⟨.slice 85,1,24,[.slice true []]⟩
@[go_sem] def Jl8 : TyI := ⟨.struct [(0, 3, "Id"), (1, 3, "Pins"), (2, 33, "L")], 3, 40, [.int .i64 0, .int .i64 0, .slice true []]⟩
@[go_sem] def Jl9:TyI:=⟨.slice 80,1,24,[.slice true []]⟩
@[go_sem] def Jma:TyI:=⟨.slice 134,1,24,[.slice true []]⟩
@[go_sem] def Jmb:TyI:=⟨.slice 136,1,24,[.slice true []]⟩
@[go_sem] def Jmd : TyI := ⟨.struct [(0, 3, "Type"), (1, 3, "Epoch"), (2, 3, "Kind"), (3, 3, "Nonce"), (4, 3, "Turn"), (5, 33, "Adds"), (6, 77, "Gone"), (7, 31, "Err"), (8, 78, "Have"), (9, 77, "Held")], 10, 144, [.int .i64 0, .int .i64 0, .int .i64 0, .int .i64 0, .int .i64 0, .slice true [], .slice true [], .int .i64 0, .slice true [], .slice true []]⟩
@[go_sem] def Jme:TyI:=⟨.slice 145,1,24,[.slice true []]⟩
@[go_sem] def Jmf : TyI := ⟨.struct [(0, 3, "Type"), (1, 3, "Epoch"), (2, 3, "Kind"), (3, 3, "Nonce"), (4, 3, "Turn"), (5, 33, "Adds"), (6, 77, "Gone"), (7, 31, "Err"), (8, 83, "Have"), (9, 77, "Held")], 10, 144, [.int .i64 0, .int .i64 0, .int .i64 0, .int .i64 0, .int .i64 0, .slice true [], .slice true [], .int .i64 0, .slice true [], .slice true []]⟩
@[go_sem] def Jmg : TyI := ⟨.struct [(0, 3, "Type"), (1, 3, "Epoch"), (2, 3, "Kind"), (3, 3, "Nonce"), (4, 3, "Turn"), (5, 33, "Adds"), (6, 77, "Gone"), (7, 31, "Err"), (8, 83, "Have"), (9, 77, "Held")], 10, 144, [.int .i64 0, .int .i64 0, .int .i64 0, .int .i64 0, .int .i64 0, .slice true [], .slice true [], .int .i64 0, .slice true [], .slice true []]⟩
@[go_sem] def Jmi:TyI:=⟨.slice 31,1,24,[.slice true []]⟩
@[go_sem] def Jmj:TyI:=⟨.func,1,8,[.nilf]⟩
@[go_sem] def JkC : TyI := ⟨.struct [(0, 3, "Id"), (1, 3, "Pins"), (2, 33, "L")], 3, 40, [.int .i64 0, .int .i64 0, .slice true []]⟩
@[go_sem] def JkD:TyI:=⟨.ptr 108,1,8,[.nilp]⟩
@[go_sem] def JkE:TyI:=⟨.func,1,8,[.nilf]⟩
@[go_sem] def JkF : TyI := ⟨.struct [(0, 46, "Req"), (12, 57, "side"), (30, 61, "told")], 31, 352, [.int .i64 0, .str [], .str [], .int .i64 0, .int .i64 0, .int .i64 0, .int .i64 0, .str [], .str [], .int .i64 0, .str [], .int .i64 0, .int .i64 0, .int .i64 0, .bool false, .int .i64 0, .int .i64 0, .int .i64 0, .int .i64 0, .int .i64 0, .int .i64 0, .int .i64 0, .int .i64 0, .int .i64 0, .int .i64 0, .slice true [], .bool false, .slice true [], .int .i64 0, .slice true [], .slice true []]⟩
@[go_sem] def JkH:TyI:=⟨.func,1,8,[.nilf]⟩
@[go_sem] def JkI:TyI:=⟨.slice 123,1,24,[.slice true []]⟩
@[go_sem] def JkJ:TyI:=⟨.slice 3,1,24,[.slice true []]⟩
@[go_sem] def JkK : TyI := ⟨.struct [(0, 3, "Kind"), (1, 9, "Name"), (2, 3, "Ver"), (3, 3, "Port"), (4, 9, "To"), (5, 115, "Rules"), (6, 116, "Hosts")], 7, 104, [.int .i64 0, .str [], .int .i64 0, .int .i64 0, .str [], .slice true [], .slice true []]⟩
@[go_sem] def JkM:TyI:=⟨.slice 167,1,24,[.slice true []]⟩
@[go_sem] def JkN : TyI := ⟨.struct [(0, 9, "Host"), (1, 9, "Prefix"), (2, 121, "Split")], 3, 56, [.str [], .str [], .slice true []]⟩
@[go_sem] def JkP : TyI := ⟨.struct [(0, 3, "Kind"), (1, 9, "Name")], 2, 24, [.int .i64 0, .str []]⟩
@[go_sem] def JkQ : TyI := ⟨.struct [(0, 134, "K"), (2, 3, "Ver")], 3, 32, [.int .i64 0, .str [], .int .i64 0]⟩
@[go_sem] def JkS : TyI := ⟨.struct [(0, 134, "K"), (2, 3, "Ver")], 3, 32, [.int .i64 0, .str [], .int .i64 0]⟩
@[go_sem] def JkV:TyI:=⟨.func,1,8,[.nilf]⟩
@[go_sem] def JkW : TyI := ⟨.struct [(0, 9, "Cluster"), (1, 3, "W")], 2, 24, [.str [], .int .i64 0]⟩
@[go_sem] def JkY:TyI:=⟨.array 4 4,4,4,[.bool false,.bool false,.bool false,.bool false]⟩
@[go_sem] def JkZ : TyI := ⟨.struct [(0, 28, "Last"), (4, 177, "Open"), (8, 3, "Max")], 9, 48, [.int .i64 0, .int .i64 0, .int .i64 0, .int .i64 0, .bool false, .bool false, .bool false, .bool false, .int .i64 0]⟩
@[go_sem] def Jk1:TyI:=⟨.func,1,8,[.nilf]⟩
@[go_sem] def Jk3:TyI:=⟨.func,1,8,[.nilf]⟩
@[go_sem] def Jk4:TyI:=⟨.func,1,8,[.nilf]⟩
@[go_sem] def Jk5 : TyI := ⟨.struct [(0, 52, "Warm"), (4, 4, "changed")], 5, 72, [.int .i64 0, .slice true [], .bool false, .slice true [], .bool false]⟩
@[go_sem] def Jk7:TyI:=⟨.func,1,8,[.nilf]⟩
@[go_sem] def Jk8 : TyI := ⟨.struct [(0, 31, "e")], 1, 8, [.int .i64 0]⟩
@[go_sem] def Jla:TyI:=⟨.map 134 4,1,8,[.nilm]⟩
@[go_sem] def Jlb:TyI:=⟨.func,1,8,[.nilf]⟩
@[go_sem] def Jlc:TyI:=⟨.func,1,8,[.nilf]⟩
@[go_sem] def Jle:TyI:=⟨.int .u64,1,8,[.int .u64 0]⟩
@[go_sem] def Jlg:TyI:=⟨.map 3 4,1,8,[.nilm]⟩
@[go_sem] def Jli:TyI:=⟨.map 134 77,1,8,[.nilm]⟩
@[go_sem] def Jlj:TyI:=⟨.func,1,8,[.nilf]⟩
@[go_sem] def Jlk:TyI:=⟨.int .i64,1,8,[.int .i64 0]⟩
@[go_sem] def Jlm:TyI:=⟨.int .u32,1,4,[.int .u32 0]⟩
@[go_sem] def Jln:TyI:=⟨.int .u64,1,8,[.int .u64 0]⟩
@[go_sem] def Jlp:TyI:=⟨.func,1,8,[.nilf]⟩
@[go_sem] def Jlq : TyI := ⟨.struct [(0, 4, "port"), (1, 4, "to"), (2, 4, "rules"), (3, 4, "hosts")], 4, 4, [.bool false, .bool false, .bool false, .bool false]⟩
@[go_sem] def Jls:TyI:=⟨.int .u64,1,8,[.int .u64 0]⟩
@[go_sem] def Jlt:TyI:=⟨.ptr 3,1,8,[.nilp]⟩
@[go_sem] def Jlu:TyI:=⟨.ptr 280,1,8,[.nilp]⟩
@[go_sem] def Jlv:TyI:=⟨.slice 33,1,24,[.slice true []]⟩
@[go_sem] def Jly : TyI := ⟨.struct [(0, 17, "_interface"), (1, 17, "concrete"), (2, 17, "asserted"), (3, 9, "missingMethod")], 4, 40, [.nilp, .nilp, .nilp, .str []]⟩
@[go_sem] def JlA:TyI:=⟨.array 0 16,0,0,[]⟩
@[go_sem] def JlB : TyI := ⟨.struct [(0, 310, "_")], 0, 0, []⟩
@[go_sem] def JlC:TyI:=⟨.int .u8,1,1,[.int .u8 0]⟩
@[go_sem] def JlD:TyI:=⟨.int .u8,1,1,[.int .u8 0]⟩
@[go_sem] def JlE:TyI:=⟨.func,1,8,[.nilf]⟩
@[go_sem] def JlF:TyI:=⟨.ptr 5,1,8,[.nilp]⟩
@[go_sem] def JlG:TyI:=⟨.int .i32,1,4,[.int .i32 0]⟩
@[go_sem] def JlH:TyI:=⟨.int .i32,1,4,[.int .i32 0]⟩
@[go_sem] def JlJ : TyI := ⟨.struct [(0, 12, "Size_"), (1, 12, "PtrBytes"), (2, 265, "Hash"), (3, 313, "TFlag"), (4, 5, "Align_"), (5, 5, "FieldAlign_"), (6, 314, "Kind_"), (7, 315, "Equal"), (8, 316, "GCData"), (9, 317, "Str"), (10, 318, "PtrToThis")], 11, 48, [.int .u64 0, .int .u64 0, .int .u32 0, .int .u8 0, .int .u8 0, .int .u8 0, .int .u8 0, .nilf, .nilp, .int .i32 0, .int .i32 0]⟩
def tyL:List (Nat×TyI):=[(1,ty1),(2,ty2),(3,ty3),(4,ty4),(5,ty5),(6,ty6),(7,ty7),(8,ty8),(9,ty9),(10,JkB),(11,JkG),(12,JkL),(13,JkO),(14,JkR),(15,JkT),(16,JkU),(17,JkX),(18,Jk0),(21,Jk6),(22,Jk9),(23,Jld),(24,Jlf),(25,Jlh),(26,Jll),(27,Jlo),(28,Jlr),(30,Jlx),(31,Jlz),(32,JlI),(33,JlK),(35,JlL),(37,JlM),(38,JlN),(40,JlP),(41,JlQ),(42,JlR),(43,JlS),(44,JlT),(46,JlU),(47,JlV),(48,JlW),(49,JlX),(50,JlZ),(52,Jl0),(53,Jl1),(54,Jl2),(55,Jl3),(57,Jl4),(61,Jl6),(72,Jl8),(75,Jl9),(77,Jma),(78,Jmb),(80,Jmd),(83,Jme),(84,Jmf),(85,Jmg),(94,Jmi),(95,Jmj),(103,JkC),(104,JkD),(105,JkE),(108,JkF),(114,JkH),(115,JkI),(116,JkJ),(118,JkK),(121,JkM),(123,JkN),(134,JkP),(136,JkQ),(145,JkS),(163,JkV),(167,JkW),(177,JkY),(179,JkZ),(194,Jk1),(200,Jk3),(201,Jk4),(208,Jk5),(214,Jk7),(216,Jk8),(220,Jla),(225,Jlb),(229,Jlc),(234,Jle),(245,Jlg),(251,Jli),(253,Jlj),(258,Jlk),(265,Jlm),(267,Jln),(274,Jlp),(276,Jlq),(280,Jls),(284,Jlt),(293,Jlu),(297,Jlv),(309,Jly),(310,JlA),(312,JlB),(313,JlC),(314,JlD),(315,JlE),(316,JlF),(317,JlG),(318,JlH),(320,JlJ)]
def Jfc(P:Program):List (Nat×TyI)→Prop
 | []=>True
 |p :: r=>(JdP P p.1 p.2∧TyZ P p.1 p.2)∧Jfc P r
theorem tk{t:Nat}{i:TyI}{ti:TypeInfo}{d:TypeDesc}(h:Tryz.prog.types[t]?=some ti)(hd:Tryz.prog.underlying t=some d)(he:(ti.size,ti.bytes,ti.zero.map fun z=>(z.cells.toList.map Zb,z.cells.size,Jha z),VE d)=(i.sz,i.bytes,some (i.zero,ti.size,i.k.agg),i.k)):JdP Tryz.prog t i∧TyZ Tryz.prog t i:=by
 simp only[Prod.mk.injEq] at he
 obtain⟨h1,h2,h3,h4⟩:=he
 obtain⟨z,hz,h5⟩:=Option.map_eq_some_iff.1 h3
 simp only[Prod.mk.injEq] at h5
 exact⟨.inr ⟨ti,Jiy h,h1,h2,⟨z,hz,h5.1,h5.2.1⟩,d,hd,h4⟩,.inr ⟨ti,z,Jiy h,hz,h5.2.2⟩⟩
def Je6(l:List (Nat×TyI))(t:Nat):TyI:=(l.lookup t).getD ⟨.unk,0,0,[]⟩
theorem Jfm{P:Program}:∀(l:List (Nat×TyI)),Jfc P l→∀t,JdP P t (Je6 l t)∧TyZ P t (Je6 l t)
 | [],_,t=>⟨.inl rfl,.inl rfl⟩
 | (i,x) :: r,h,t=>by
  unfold Je6
  by_cases e:t=i
  ·subst e;simpa[List.lookup] using h.1
  ·have e':(t == i)=false:=by simpa using e
   have:((i,x) :: r).lookup t=r.lookup t:=by simp[List.lookup,e']
   rw[this];exact Jfm r h.2 t
theorem Jmk:Jfc Tryz.prog tyL:=⟨tk Tryz.type1 Tryz.underlying1 rfl,tk Tryz.type2 Tryz.underlying2 rfl,tk Tryz.type3 Tryz.underlying3 rfl,tk Tryz.type4 Tryz.underlying4 rfl,tk Tryz.type5 Tryz.underlying5 rfl,tk Tryz.type6 Tryz.underlying6 rfl,tk Tryz.type7 Tryz.underlying7 rfl,tk Tryz.type8 Tryz.underlying8 rfl,tk Tryz.type9 Tryz.underlying9 rfl,tk Tryz.type10 Tryz.underlying10 rfl,tk Tryz.type11 Tryz.underlying11 rfl,tk Tryz.type12 Tryz.underlying12 rfl,tk Tryz.type13 Tryz.underlying13 rfl,tk Tryz.type14 Tryz.underlying14 rfl,tk Tryz.type15 Tryz.underlying15 rfl,tk Tryz.type16 Tryz.underlying16 rfl,tk Tryz.type17 Tryz.underlying17 rfl,tk Tryz.type18 Tryz.underlying18 rfl,tk Tryz.type21 Tryz.underlying21 rfl,tk Tryz.type22 Tryz.underlying22 rfl,tk Tryz.type23 Tryz.underlying23 rfl,tk Tryz.type24 Tryz.underlying24 rfl,tk Tryz.type25 Tryz.underlying25 rfl,tk Tryz.type26 Tryz.underlying26 rfl,tk Tryz.type27 Tryz.underlying27 rfl,tk Tryz.type28 Tryz.underlying28 rfl,tk Tryz.type30 Tryz.underlying30 rfl,tk Tryz.type31 Tryz.underlying31 rfl,tk Tryz.type32 Tryz.underlying32 rfl,tk Tryz.type33 Tryz.underlying33 rfl,tk Tryz.type35 Tryz.underlying35 rfl,tk Tryz.type37 Tryz.underlying37 rfl,tk Tryz.type38 Tryz.underlying38 rfl,tk Tryz.type40 Tryz.underlying40 rfl,tk Tryz.type41 Tryz.underlying41 rfl,tk Tryz.type42 Tryz.underlying42 rfl,tk Tryz.type43 Tryz.underlying43 rfl,tk Tryz.type44 Tryz.underlying44 rfl,tk Tryz.type46 Tryz.underlying46 rfl,tk Tryz.type47 Tryz.underlying47 rfl,tk Tryz.type48 Tryz.underlying48 rfl,tk Tryz.type49 Tryz.underlying49 rfl,tk Tryz.type50 Tryz.underlying50 rfl,tk Tryz.type52 Tryz.underlying52 rfl,tk Tryz.type53 Tryz.underlying53 rfl,tk Tryz.type54 Tryz.underlying54 rfl,tk Tryz.type55 Tryz.underlying55 rfl,tk Tryz.type57 Tryz.underlying57 rfl,tk Tryz.type61 Tryz.underlying61 rfl,tk Tryz.type72 Tryz.underlying72 rfl,tk Tryz.type75 Tryz.underlying75 rfl,tk Tryz.type77 Tryz.underlying77 rfl,tk Tryz.type78 Tryz.underlying78 rfl,tk Tryz.type80 Tryz.underlying80 rfl,tk Tryz.type83 Tryz.underlying83 rfl,tk Tryz.type84 Tryz.underlying84 rfl,tk Tryz.type85 Tryz.underlying85 rfl,tk Tryz.type94 Tryz.underlying94 rfl,tk Tryz.type95 Tryz.underlying95 rfl,tk Tryz.type103 Tryz.underlying103 rfl,tk Tryz.type104 Tryz.underlying104 rfl,tk Tryz.type105 Tryz.underlying105 rfl,tk Tryz.type108 Tryz.underlying108 rfl,tk Tryz.type114 Tryz.underlying114 rfl,tk Tryz.type115 Tryz.underlying115 rfl,tk Tryz.type116 Tryz.underlying116 rfl,tk Tryz.type118 Tryz.underlying118 rfl,tk Tryz.type121 Tryz.underlying121 rfl,tk Tryz.type123 Tryz.underlying123 rfl,tk Tryz.type134 Tryz.underlying134 rfl,tk Tryz.type136 Tryz.underlying136 rfl,tk Tryz.type145 Tryz.underlying145 rfl,tk Tryz.type163 Tryz.underlying163 rfl,tk Tryz.type167 Tryz.underlying167 rfl,tk Tryz.type177 Tryz.underlying177 rfl,tk Tryz.type179 Tryz.underlying179 rfl,tk Tryz.type194 Tryz.underlying194 rfl,tk Tryz.type200 Tryz.underlying200 rfl,tk Tryz.type201 Tryz.underlying201 rfl,tk Tryz.type208 Tryz.underlying208 rfl,tk Tryz.type214 Tryz.underlying214 rfl,tk Tryz.type216 Tryz.underlying216 rfl,tk Tryz.type220 Tryz.underlying220 rfl,tk Tryz.type225 Tryz.underlying225 rfl,tk Tryz.type229 Tryz.underlying229 rfl,tk Tryz.type234 Tryz.underlying234 rfl,tk Tryz.type245 Tryz.underlying245 rfl,tk Tryz.type251 Tryz.underlying251 rfl,tk Tryz.type253 Tryz.underlying253 rfl,tk Tryz.type258 Tryz.underlying258 rfl,tk Tryz.type265 Tryz.underlying265 rfl,tk Tryz.type267 Tryz.underlying267 rfl,tk Tryz.type274 Tryz.underlying274 rfl,tk Tryz.type276 Tryz.underlying276 rfl,tk Tryz.type280 Tryz.underlying280 rfl,tk Tryz.type284 Tryz.underlying284 rfl,tk Tryz.type293 Tryz.underlying293 rfl,tk Tryz.type297 Tryz.underlying297 rfl,tk Tryz.type309 Tryz.underlying309 rfl,tk Tryz.type310 Tryz.underlying310 rfl,tk Tryz.type312 Tryz.underlying312 rfl,tk Tryz.type313 Tryz.underlying313 rfl,tk Tryz.type314 Tryz.underlying314 rfl,tk Tryz.type315 Tryz.underlying315 rfl,tk Tryz.type316 Tryz.underlying316 rfl,tk Tryz.type317 Tryz.underlying317 rfl,tk Tryz.type318 Tryz.underlying318 rfl,tk Tryz.type320 Tryz.underlying320 rfl,trivial⟩
def T:Tys Tryz.prog:=⟨Je6 tyL,fun t=>(Jfm tyL Jmk t).1,fun t=>(Jfm tyL Jmk t).2,fun _=>false⟩
@[go_sem] theorem Jw8(d:Nat):T.fz d=false:=rfl
@[go_sem] theorem T_1:T.ty 1=ty1:=rfl
@[go_sem] theorem T_2:T.ty 2=ty2:=rfl
@[go_sem] theorem T_3:T.ty 3=ty3:=rfl
@[go_sem] theorem T_4:T.ty 4=ty4:=rfl
@[go_sem] theorem T_5:T.ty 5=ty5:=rfl
@[go_sem] theorem T_6:T.ty 6=ty6:=rfl
@[go_sem] theorem T_7:T.ty 7=ty7:=rfl
@[go_sem] theorem T_8:T.ty 8=ty8:=rfl
@[go_sem] theorem T_9:T.ty 9=ty9:=rfl
@[go_sem] theorem JrF:T.ty 10=JkB:=rfl
@[go_sem] theorem JrK:T.ty 11=JkG:=rfl
@[go_sem] theorem JrP:T.ty 12=JkL:=rfl
@[go_sem] theorem JrS:T.ty 13=JkO:=rfl
@[go_sem] theorem JrV:T.ty 14=JkR:=rfl
@[go_sem] theorem JrX:T.ty 15=JkT:=rfl
@[go_sem] theorem JrY:T.ty 16=JkU:=rfl
@[go_sem] theorem Jr1:T.ty 17=JkX:=rfl
@[go_sem] theorem Jr4:T.ty 18=Jk0:=rfl
@[go_sem] theorem Jsa:T.ty 21=Jk6:=rfl
@[go_sem] theorem Jsd:T.ty 22=Jk9:=rfl
@[go_sem] theorem Jsh:T.ty 23=Jld:=rfl
@[go_sem] theorem Jsj:T.ty 24=Jlf:=rfl
@[go_sem] theorem Jsl:T.ty 25=Jlh:=rfl
@[go_sem] theorem Jsp:T.ty 26=Jll:=rfl
@[go_sem] theorem Jss:T.ty 27=Jlo:=rfl
@[go_sem] theorem Jsv:T.ty 28=Jlr:=rfl
@[go_sem] theorem JsB:T.ty 30=Jlx:=rfl
@[go_sem] theorem JsD:T.ty 31=Jlz:=rfl
@[go_sem] theorem JsM:T.ty 32=JlI:=rfl
@[go_sem] theorem JsO:T.ty 33=JlK:=rfl
@[go_sem] theorem JsP:T.ty 35=JlL:=rfl
@[go_sem] theorem JsQ:T.ty 37=JlM:=rfl
@[go_sem] theorem JsR:T.ty 38=JlN:=rfl
@[go_sem] theorem JsT:T.ty 40=JlP:=rfl
@[go_sem] theorem JsU:T.ty 41=JlQ:=rfl
@[go_sem] theorem JsV:T.ty 42=JlR:=rfl
@[go_sem] theorem JsW:T.ty 43=JlS:=rfl
@[go_sem] theorem JsX:T.ty 44=JlT:=rfl
@[go_sem] theorem JsY:T.ty 46=JlU:=rfl
@[go_sem] theorem JsZ:T.ty 47=JlV:=rfl
@[go_sem] theorem Js0:T.ty 48=JlW:=rfl
@[go_sem] theorem Js1:T.ty 49=JlX:=rfl
@[go_sem] theorem Js3:T.ty 50=JlZ:=rfl
@[go_sem] theorem Js4:T.ty 52=Jl0:=rfl
@[go_sem] theorem Js5:T.ty 53=Jl1:=rfl
@[go_sem] theorem Js6:T.ty 54=Jl2:=rfl
@[go_sem] theorem Js7:T.ty 55=Jl3:=rfl
@[go_sem] theorem Js8:T.ty 57=Jl4:=rfl
@[go_sem] theorem Jta:T.ty 61=Jl6:=rfl
@[go_sem] theorem Jtc:T.ty 72=Jl8:=rfl
@[go_sem] theorem Jtd:T.ty 75=Jl9:=rfl
@[go_sem] theorem Jte:T.ty 77=Jma:=rfl
@[go_sem] theorem Jtf:T.ty 78=Jmb:=rfl
@[go_sem] theorem Jth:T.ty 80=Jmd:=rfl
@[go_sem] theorem Jti:T.ty 83=Jme:=rfl
@[go_sem] theorem Jtj:T.ty 84=Jmf:=rfl
@[go_sem] theorem Jtk:T.ty 85=Jmg:=rfl
@[go_sem] theorem Jtm:T.ty 94=Jmi:=rfl
@[go_sem] theorem Jtn:T.ty 95=Jmj:=rfl
@[go_sem] theorem JrG:T.ty 103=JkC:=rfl
@[go_sem] theorem JrH:T.ty 104=JkD:=rfl
@[go_sem] theorem JrI:T.ty 105=JkE:=rfl
@[go_sem] theorem JrJ:T.ty 108=JkF:=rfl
@[go_sem] theorem JrL:T.ty 114=JkH:=rfl
@[go_sem] theorem JrM:T.ty 115=JkI:=rfl
@[go_sem] theorem JrN:T.ty 116=JkJ:=rfl
@[go_sem] theorem JrO:T.ty 118=JkK:=rfl
@[go_sem] theorem JrQ:T.ty 121=JkM:=rfl
@[go_sem] theorem JrR:T.ty 123=JkN:=rfl
@[go_sem] theorem JrT:T.ty 134=JkP:=rfl
@[go_sem] theorem JrU:T.ty 136=JkQ:=rfl
@[go_sem] theorem JrW:T.ty 145=JkS:=rfl
@[go_sem] theorem JrZ:T.ty 163=JkV:=rfl
@[go_sem] theorem Jr0:T.ty 167=JkW:=rfl
@[go_sem] theorem Jr2:T.ty 177=JkY:=rfl
@[go_sem] theorem Jr3:T.ty 179=JkZ:=rfl
@[go_sem] theorem Jr5:T.ty 194=Jk1:=rfl
@[go_sem] theorem Jr7:T.ty 200=Jk3:=rfl
@[go_sem] theorem Jr8:T.ty 201=Jk4:=rfl
@[go_sem] theorem Jr9:T.ty 208=Jk5:=rfl
@[go_sem] theorem Jsb:T.ty 214=Jk7:=rfl
@[go_sem] theorem Jsc:T.ty 216=Jk8:=rfl
@[go_sem] theorem Jse:T.ty 220=Jla:=rfl
@[go_sem] theorem Jsf:T.ty 225=Jlb:=rfl
@[go_sem] theorem Jsg:T.ty 229=Jlc:=rfl
@[go_sem] theorem Jsi:T.ty 234=Jle:=rfl
@[go_sem] theorem Jsk:T.ty 245=Jlg:=rfl
@[go_sem] theorem Jsm:T.ty 251=Jli:=rfl
@[go_sem] theorem Jsn:T.ty 253=Jlj:=rfl
@[go_sem] theorem Jso:T.ty 258=Jlk:=rfl
@[go_sem] theorem Jsq:T.ty 265=Jlm:=rfl
@[go_sem] theorem Jsr:T.ty 267=Jln:=rfl
@[go_sem] theorem Jst:T.ty 274=Jlp:=rfl
@[go_sem] theorem Jsu:T.ty 276=Jlq:=rfl
@[go_sem] theorem Jsw:T.ty 280=Jls:=rfl
@[go_sem] theorem Jsx:T.ty 284=Jlt:=rfl
@[go_sem] theorem Jsy:T.ty 293=Jlu:=rfl
@[go_sem] theorem Jsz:T.ty 297=Jlv:=rfl
@[go_sem] theorem JsC:T.ty 309=Jly:=rfl
@[go_sem] theorem JsE:T.ty 310=JlA:=rfl
@[go_sem] theorem JsF:T.ty 312=JlB:=rfl
@[go_sem] theorem JsG:T.ty 313=JlC:=rfl
@[go_sem] theorem JsH:T.ty 314=JlD:=rfl
@[go_sem] theorem JsI:T.ty 315=JlE:=rfl
@[go_sem] theorem JsJ:T.ty 316=JlF:=rfl
@[go_sem] theorem JsK:T.ty 317=JlG:=rfl
@[go_sem] theorem JsL:T.ty 318=JlH:=rfl
@[go_sem] theorem JsN:T.ty 320=JlJ:=rfl
@[go_sem] theorem JvK:Tryz.prog.eqGuardType Tryz.prog.depth 23=false:=by kernel_rfl
@[go_sem] theorem JE2:Tryz.prog.stoodInHeld 23=false:=by kernel_rfl
@[go_sem] theorem JvL:Tryz.prog.eqGuardType Tryz.prog.depth 25=false:=by kernel_rfl
@[go_sem] theorem JE3:Tryz.prog.stoodInHeld 25=false:=by kernel_rfl
@[go_sem] theorem JvH:Tryz.prog.eqGuardType Tryz.prog.depth 134=false:=by kernel_rfl
@[go_sem] theorem JEZ:Tryz.prog.stoodInHeld 134=false:=by kernel_rfl
@[go_sem] theorem JvI:Tryz.prog.eqGuardType Tryz.prog.depth 167=false:=by kernel_rfl
@[go_sem] theorem JE0:Tryz.prog.stoodInHeld 167=false:=by kernel_rfl
@[go_sem] theorem JvJ:Tryz.prog.eqGuardType Tryz.prog.depth 216=false:=by kernel_rfl
@[go_sem] theorem JE1:Tryz.prog.stoodInHeld 216=false:=by kernel_rfl
@[go_sem] theorem JvM:Tryz.prog.eqGuardType Tryz.prog.depth 276=false:=by kernel_rfl
@[go_sem] theorem JE4:Tryz.prog.stoodInHeld 276=false:=by kernel_rfl
theorem GO0 {f:FuncId} {fn:Func} {c:Code} {rs:Array ResultVar} {r:Ret} {n:Nat} (hcall:∀ (vals:Array Value) (w:World),(callFunc f vals).run Tryz.prog w=.ok (.enter f vals) w) (hf:Tryz.prog.funcs[f]?=some fn) (hb:fn.body=some c) (hnt:fn.ntmps=n) (hrs:fn.results=rs) (h:∀ ts:TS,ts.n=n→SpecC Tryz.prog c ts (Vn (V4 T rs.toList r))):CallR Tryz.prog f [] r:=CallR.go0 (T:=T) hcall hf hb hnt (congrArg Array.toList hrs) h
theorem Jl {f:FuncId} {fn:Func} {c:Code} {rs:Array ResultVar} {r:Ret} {n:Nat} {a:AV} (hcall:∀ (vals:Array Value) (w:World),(callFunc f vals).run Tryz.prog w=.ok (.enter f vals) w) (hf:Tryz.prog.funcs[f]?=some fn) (hb:fn.body=some c) (hnt:fn.ntmps=n) (hrs:fn.results=rs) (h:∀ ts:TS,ts.n=n→ts.tmp 0=a→SpecC Tryz.prog c ts (Vn (V4 T rs.toList r))) (hn:1≤n:=by decide):CallR Tryz.prog f [a] r:=CallR.go1 (T:=T) hcall hf hb hnt (congrArg Array.toList hrs) hn h
theorem Jm {f:FuncId} {fn:Func} {c:Code} {rs:Array ResultVar} {r:Ret} {n:Nat} {a b:AV} (hcall:∀ (vals:Array Value) (w:World),(callFunc f vals).run Tryz.prog w=.ok (.enter f vals) w) (hf:Tryz.prog.funcs[f]?=some fn) (hb:fn.body=some c) (hnt:fn.ntmps=n) (hrs:fn.results=rs) (h:∀ ts:TS,ts.n=n→ts.tmp 0=a→ts.tmp 1=b→SpecC Tryz.prog c ts (Vn (V4 T rs.toList r))) (hn:2≤n:=by decide):CallR Tryz.prog f [a,b] r:=CallR.go2 (T:=T) hcall hf hb hnt (congrArg Array.toList hrs) hn h
theorem J1 {f:FuncId} {fn:Func} {c:Code} {rs:Array ResultVar} {r:Ret} {n:Nat} {a b d:AV} (hcall:∀ (vals:Array Value) (w:World),(callFunc f vals).run Tryz.prog w=.ok (.enter f vals) w) (hf:Tryz.prog.funcs[f]?=some fn) (hb:fn.body=some c) (hnt:fn.ntmps=n) (hrs:fn.results=rs) (h:∀ ts:TS,ts.n=n→ts.tmp 0=a→ts.tmp 1=b→ts.tmp 2=d→SpecC Tryz.prog c ts (Vn (V4 T rs.toList r))) (hn:3≤n:=by decide):CallR Tryz.prog f [a,b,d] r:=CallR.go3 (T:=T) hcall hf hb hnt (congrArg Array.toList hrs) hn h
theorem mixed:Tryz.prog.follows .mixedOrders=true:=by kernel_rfl
@[ext] structure Ask where
 port:Int
 host:List UInt8
 path:List UInt8
 first:Int
 other:Int
 deriving Inhabited,DecidableEq
instance:Dat Ask where
 av x:=.agg [.int .i64 x.port,.str x.host,.str x.path,.int .i64 x.first,.int .i64 x.other]
 sz:=5
 len _:=rfl
 pure x:=by simp only[go_sem,Bool.and_self]
 nrm x:=by simp only[go_sem]
 one x:=by simp only[go_sem,List.all_cons,List.all_nil,Bool.and_self]
 known x:=rfl
@[go_sem] theorem JtQ(x:Ask):Dat.av x=.agg [.int .i64 x.port,.str x.host,.str x.path,.int .i64 x.first,.int .i64 x.other]:=rfl
@[go_sem] theorem JE8:Dat.sz Ask=5:=rfl
@[go_sem] theorem JvS(x:Ask):Ask.mk x.port x.host x.path x.first x.other=x:=rfl
@[ext] structure Answer where
 what:Int
 cluster:List UInt8
 host:Int
 deriving Inhabited,DecidableEq
instance:Dat Answer where
 av x:=.agg [.int .i64 x.what,.str x.cluster,.int .i64 x.host]
 sz:=3
 len _:=rfl
 pure x:=by simp only[go_sem,Bool.and_self]
 nrm x:=by simp only[go_sem]
 one x:=by simp only[go_sem,List.all_cons,List.all_nil,Bool.and_self]
 known x:=rfl
@[go_sem] theorem JtP(x:Answer):Dat.av x=.agg [.int .i64 x.what,.str x.cluster,.int .i64 x.host]:=rfl
@[go_sem] theorem JE7:Dat.sz Answer=3:=rfl
@[go_sem] theorem JvR(x:Answer):Answer.mk x.what x.cluster x.host=x:=rfl
@[ext] structure Req where
 a:Ask
 stage:Int
 id:Int
 route:List UInt8
 cluster:List UInt8
 out:Answer
 deriving Inhabited,DecidableEq
instance:Dat Req where
 av x:=.agg [.int .i64 x.a.port,.str x.a.host,.str x.a.path,.int .i64 x.a.first,.int .i64 x.a.other,.int .i64 x.stage,.int .i64 x.id,.str x.route,.str x.cluster,.int .i64 x.out.what,.str x.out.cluster,.int .i64 x.out.host]
 sz:=12
 len _:=rfl
 pure x:=by simp only[go_sem,Bool.and_self]
 nrm x:=by simp only[go_sem]
 one x:=by simp only[go_sem,List.all_cons,List.all_nil,Bool.and_self]
 known x:=rfl
@[go_sem] theorem JtY(x:Req):Dat.av x=.agg [.int .i64 x.a.port,.str x.a.host,.str x.a.path,.int .i64 x.a.first,.int .i64 x.a.other,.int .i64 x.stage,.int .i64 x.id,.str x.route,.str x.cluster,.int .i64 x.out.what,.str x.out.cluster,.int .i64 x.out.host]:=rfl
@[go_sem] theorem JFj:Dat.sz Req=12:=rfl
@[go_sem] theorem Jv2(x:Req):Req.mk x.a x.stage x.id x.route x.cluster x.out=x:=rfl
@[ext] structure Four where
 a0:Int
 a1:Int
 a2:Int
 a3:Int
 deriving Inhabited,DecidableEq
instance:Dat Four where
 av x:=.agg [.int .i64 x.a0,.int .i64 x.a1,.int .i64 x.a2,.int .i64 x.a3]
 sz:=4
 len _:=rfl
 pure x:=by simp only[go_sem,Bool.and_self]
 nrm x:=by simp only[go_sem]
 one x:=by simp only[go_sem,List.all_cons,List.all_nil,Bool.and_self]
 known x:=rfl
@[go_sem] theorem JtT(x:Four):Dat.av x=.agg [.int .i64 x.a0,.int .i64 x.a1,.int .i64 x.a2,.int .i64 x.a3]:=rfl
@[go_sem] theorem JFb:Dat.sz Four=4:=rfl
@[go_sem] theorem JvV(x:Four):Four.mk x.a0 x.a1 x.a2 x.a3=x:=rfl
@[ext] structure In where
 last:Four
 max:Int
 deriving Inhabited,DecidableEq
instance:Dat In where
 av x:=.agg [.int .i64 x.last.a0,.int .i64 x.last.a1,.int .i64 x.last.a2,.int .i64 x.last.a3,.int .i64 x.max]
 sz:=5
 len _:=rfl
 pure x:=by simp only[go_sem,Bool.and_self]
 nrm x:=by simp only[go_sem]
 one x:=by simp only[go_sem,List.all_cons,List.all_nil,Bool.and_self]
 known x:=rfl
@[go_sem] theorem JtV(x:In):Dat.av x=.agg [.int .i64 x.last.a0,.int .i64 x.last.a1,.int .i64 x.last.a2,.int .i64 x.last.a3,.int .i64 x.max]:=rfl
@[go_sem] theorem JFd:Dat.sz In=5:=rfl
@[go_sem] theorem JvX(x:In):In.mk x.last x.max=x:=rfl
@[ext] structure Weight where
 cluster:List UInt8
 w:Int
 deriving Inhabited,DecidableEq
instance:Dat Weight where
 av x:=.agg [.str x.cluster,.int .i64 x.w]
 sz:=2
 len _:=rfl
 pure x:=by simp only[go_sem,Bool.and_self]
 nrm x:=by simp only[go_sem]
 one x:=by simp only[go_sem,List.all_cons,List.all_nil,Bool.and_self]
 known x:=rfl
@[go_sem] theorem JmV(x:Weight):Dat.av x=.agg [.str x.cluster,.int .i64 x.w]:=rfl
@[go_sem] theorem JFp:Dat.sz Weight=2:=rfl
@[go_sem] theorem JEA(l:List Weight)(n:Nat)(f0:List UInt8)(f1:Int):(Ja l).set n (.agg [.str f0,.int .i64 f1])=Ja (l.set n ⟨f0,f1⟩):=Y5 l n (⟨f0,f1⟩:Weight)
@[go_sem] theorem JEX(l:List Weight)(f0:List UInt8)(f1:Int):Ja l++[.agg [.str f0,.int .i64 f1]]=Ja (l++[⟨f0,f1⟩]):=by rw[YQ];rfl
@[go_sem] theorem JnT:∀l:List Weight,AV.flat.flatL (Ja l)=true
 | []=>rfl
 |_ :: r=>by simp only[JbR,AV.flat.flatL,JnT r,JmV,AV.flat,Bool.and_self]
theorem Jh0(x y:Weight):x=y↔x.cluster=y.cluster∧x.w=y.w:=by cases x;cases y;simp
@[go_sem] theorem Jv8(x:Weight):Weight.mk x.cluster x.w=x:=rfl
@[ext] structure Rule where
 host:List UInt8
 pfx:List UInt8
 split:List Weight
 deriving Inhabited,DecidableEq
instance:Dat Rule where
 av x:=.agg [.str x.host,.str x.pfx,.slice false (Ja x.split)]
 sz:=3
 len _:=rfl
 pure x:=by simp only[go_sem,Bool.and_self]
 nrm x:=by simp only[go_sem]
 one x:=by simp only[go_sem,List.all_cons,List.all_nil,Bool.and_self]
 known x:=rfl
@[go_sem] theorem Jt0(x:Rule):Dat.av x=.agg [.str x.host,.str x.pfx,.slice false (Ja x.split)]:=rfl
@[go_sem] theorem JFl:Dat.sz Rule=3:=rfl
@[go_sem] theorem JEw(l:List Rule)(n:Nat)(f0 f1:List UInt8)(f2:List Weight):(Ja l).set n (.agg [.str f0,.str f1,.slice false (Ja f2)])=Ja (l.set n ⟨f0,f1,f2⟩):=Y5 l n (⟨f0,f1,f2⟩:Rule)
@[go_sem] theorem JET(l:List Rule)(f0 f1:List UInt8)(f2:List Weight):Ja l++[.agg [.str f0,.str f1,.slice false (Ja f2)]]=Ja (l++[⟨f0,f1,f2⟩]):=by rw[YQ];rfl
@[go_sem] theorem Jv4(x:Rule):Rule.mk x.host x.pfx x.split=x:=rfl
@[ext] structure Res where
 kind:Int
 name:List UInt8
 ver:Int
 port:Int
 to':List UInt8
 rules':List Rule
 hosts:List Int
 deriving Inhabited,DecidableEq
instance:Dat Res where
 av x:=.agg [.int .i64 x.kind,.str x.name,.int .i64 x.ver,.int .i64 x.port,.str x.to',.slice false (Ja x.rules'),.slice false (Ja x.hosts)]
 sz:=7
 len _:=rfl
 pure x:=by simp only[go_sem,Bool.and_self]
 nrm x:=by simp only[go_sem]
 one x:=by simp only[go_sem,List.all_cons,List.all_nil,Bool.and_self]
 known x:=rfl
@[go_sem] theorem JtZ(x:Res):Dat.av x=.agg [.int .i64 x.kind,.str x.name,.int .i64 x.ver,.int .i64 x.port,.str x.to',.slice false (Ja x.rules'),.slice false (Ja x.hosts)]:=rfl
@[go_sem] theorem JFk:Dat.sz Res=7:=rfl
@[go_sem] theorem JEv(l:List Res)(n:Nat)(f0:Int)(f1:List UInt8)(f2 f3:Int)(f4:List UInt8)(f5:List Rule)(f6:List Int):(Ja l).set n (.agg [.int .i64 f0,.str f1,.int .i64 f2,.int .i64 f3,.str f4,.slice false (Ja f5),.slice false (Ja f6)])=Ja (l.set n ⟨f0,f1,f2,f3,f4,f5,f6⟩):=Y5 l n (⟨f0,f1,f2,f3,f4,f5,f6⟩:Res)
@[go_sem] theorem JES(l:List Res)(f0:Int)(f1:List UInt8)(f2 f3:Int)(f4:List UInt8)(f5:List Rule)(f6:List Int):Ja l++[.agg [.int .i64 f0,.str f1,.int .i64 f2,.int .i64 f3,.str f4,.slice false (Ja f5),.slice false (Ja f6)]]=Ja (l++[⟨f0,f1,f2,f3,f4,f5,f6⟩]):=by rw[YQ];rfl
@[go_sem] theorem Jv3(x:Res):Res.mk x.kind x.name x.ver x.port x.to' x.rules' x.hosts=x:=rfl
@[ext] structure Cache where
 cap:Int
 l:List Res
 deriving Inhabited,DecidableEq
instance:Dat Cache where
 av x:=.agg [.int .i64 x.cap,.slice false (Ja x.l)]
 sz:=2
 len _:=rfl
 pure x:=by simp only[go_sem,Bool.and_self]
 nrm x:=by simp only[go_sem]
 one x:=by simp only[go_sem,List.all_cons,List.all_nil,Bool.and_self]
 known x:=rfl
@[go_sem] theorem JtR(x:Cache):Dat.av x=.agg [.int .i64 x.cap,.slice false (Ja x.l)]:=rfl
@[go_sem] theorem JE9:Dat.sz Cache=2:=rfl
@[go_sem] theorem JvT(x:Cache):Cache.mk x.cap x.l=x:=rfl
@[ext] structure Warm where
 c:Cache
 ready:Bool
 shown:List Res
 deriving Inhabited,DecidableEq
instance:Dat Warm where
 av x:=.agg [.int .i64 x.c.cap,.slice false (Ja x.c.l),.bool x.ready,.slice false (Ja x.shown)]
 sz:=4
 len _:=rfl
 pure x:=by simp only[go_sem,Bool.and_self]
 nrm x:=by simp only[go_sem]
 one x:=by simp only[go_sem,List.all_cons,List.all_nil,Bool.and_self]
 known x:=rfl
@[go_sem] theorem Jt3(x:Warm):Dat.av x=.agg [.int .i64 x.c.cap,.slice false (Ja x.c.l),.bool x.ready,.slice false (Ja x.shown)]:=rfl
@[go_sem] theorem JFo:Dat.sz Warm=4:=rfl
@[go_sem] theorem Jv7(x:Warm):Warm.mk x.c x.ready x.shown=x:=rfl
@[ext] structure Snap where
 id:Int
 pins:Int
 l:List Res
 deriving Inhabited,DecidableEq
instance:Dat Snap where
 av x:=.agg [.int .i64 x.id,.int .i64 x.pins,.slice false (Ja x.l)]
 sz:=3
 len _:=rfl
 pure x:=by simp only[go_sem,Bool.and_self]
 nrm x:=by simp only[go_sem]
 one x:=by simp only[go_sem,List.all_cons,List.all_nil,Bool.and_self]
 known x:=rfl
@[go_sem] theorem Jt2(x:Snap):Dat.av x=.agg [.int .i64 x.id,.int .i64 x.pins,.slice false (Ja x.l)]:=rfl
@[go_sem] theorem JFn:Dat.sz Snap=3:=rfl
@[go_sem] theorem JEx(l:List Snap)(n:Nat)(f0 f1:Int)(f2:List Res):(Ja l).set n (.agg [.int .i64 f0,.int .i64 f1,.slice false (Ja f2)])=Ja (l.set n ⟨f0,f1,f2⟩):=Y5 l n (⟨f0,f1,f2⟩:Snap)
@[go_sem] theorem JEU(l:List Snap)(f0 f1:Int)(f2:List Res):Ja l++[.agg [.int .i64 f0,.int .i64 f1,.slice false (Ja f2)]]=Ja (l++[⟨f0,f1,f2⟩]):=by rw[YQ];rfl
@[go_sem] theorem Jv6(x:Snap):Snap.mk x.id x.pins x.l=x:=rfl
@[ext] structure Pins where
 next':Int
 snaps:List Snap
 deriving Inhabited,DecidableEq
instance:Dat Pins where
 av x:=.agg [.int .i64 x.next',.slice false (Ja x.snaps)]
 sz:=2
 len _:=rfl
 pure x:=by simp only[go_sem,Bool.and_self]
 nrm x:=by simp only[go_sem]
 one x:=by simp only[go_sem,List.all_cons,List.all_nil,Bool.and_self]
 known x:=rfl
@[go_sem] theorem JmU(x:Pins):Dat.av x=.agg [.int .i64 x.next',.slice false (Ja x.snaps)]:=rfl
@[go_sem] theorem JFi:Dat.sz Pins=2:=rfl
@[go_sem] theorem Jv1(x:Pins):Pins.mk x.next' x.snaps=x:=rfl
@[ext] structure Side where
 epoch:Int
 turn:Int
 up:Bool
 in':In
 errs:Four
 w:Warm
 p:Pins
 deriving Inhabited,DecidableEq
instance:Dat Side where
 av x:=.agg [.int .i64 x.epoch,.int .i64 x.turn,.bool x.up,.int .i64 x.in'.last.a0,.int .i64 x.in'.last.a1,.int .i64 x.in'.last.a2,.int .i64 x.in'.last.a3,.int .i64 x.in'.max,.int .i64 x.errs.a0,.int .i64 x.errs.a1,.int .i64 x.errs.a2,.int .i64 x.errs.a3,.int .i64 x.w.c.cap,.slice false (Ja x.w.c.l),.bool x.w.ready,.slice false (Ja x.w.shown),.int .i64 x.p.next',.slice false (Ja x.p.snaps)]
 sz:=18
 len _:=rfl
 pure x:=by simp only[go_sem,Bool.and_self]
 nrm x:=by simp only[go_sem]
 one x:=by simp only[go_sem,List.all_cons,List.all_nil,Bool.and_self]
 known x:=rfl
@[go_sem] theorem Jt1(x:Side):Dat.av x=.agg [.int .i64 x.epoch,.int .i64 x.turn,.bool x.up,.int .i64 x.in'.last.a0,.int .i64 x.in'.last.a1,.int .i64 x.in'.last.a2,.int .i64 x.in'.last.a3,.int .i64 x.in'.max,.int .i64 x.errs.a0,.int .i64 x.errs.a1,.int .i64 x.errs.a2,.int .i64 x.errs.a3,.int .i64 x.w.c.cap,.slice false (Ja x.w.c.l),.bool x.w.ready,.slice false (Ja x.w.shown),.int .i64 x.p.next',.slice false (Ja x.p.snaps)]:=rfl
@[go_sem] theorem JFm:Dat.sz Side=18:=rfl
@[go_sem] theorem Jv5(x:Side):Side.mk x.epoch x.turn x.up x.in' x.errs x.w x.p=x:=rfl
@[ext] structure Key where
 kind:Int
 name:List UInt8
 deriving Inhabited,DecidableEq
instance:Dat Key where
 av x:=.agg [.int .i64 x.kind,.str x.name]
 sz:=2
 len _:=rfl
 pure x:=by simp only[go_sem,Bool.and_self]
 nrm x:=by simp only[go_sem]
 one x:=by simp only[go_sem,List.all_cons,List.all_nil,Bool.and_self]
 known x:=rfl
@[go_sem] theorem Jfp(x:Key):Dat.av x=.agg [.int .i64 x.kind,.str x.name]:=rfl
@[go_sem] theorem JFe:Dat.sz Key=2:=rfl
@[go_sem] theorem JEt(l:List Key)(n:Nat)(f0:Int)(f1:List UInt8):(Ja l).set n (.agg [.int .i64 f0,.str f1])=Ja (l.set n ⟨f0,f1⟩):=Y5 l n (⟨f0,f1⟩:Key)
@[go_sem] theorem JEQ(l:List Key)(f0:Int)(f1:List UInt8):Ja l++[.agg [.int .i64 f0,.str f1]]=Ja (l++[⟨f0,f1⟩]):=by rw[YQ];rfl
@[go_sem] theorem JnQ:∀l:List Key,AV.flat.flatL (Ja l)=true
 | []=>rfl
 |_ :: r=>by simp only[JbR,AV.flat.flatL,JnQ r,Jfp,AV.flat,Bool.and_self]
theorem Jaw(x y:Key):x=y↔x.kind=y.kind∧x.name=y.name:=by cases x;cases y;simp
@[go_sem] theorem JvY(x:Key):Key.mk x.kind x.name=x:=rfl
@[ext] structure Mark where
 k:Key
 ver:Int
 deriving Inhabited,DecidableEq
instance:Dat Mark where
 av x:=.agg [.int .i64 x.k.kind,.str x.k.name,.int .i64 x.ver]
 sz:=3
 len _:=rfl
 pure x:=by simp only[go_sem,Bool.and_self]
 nrm x:=by simp only[go_sem]
 one x:=by simp only[go_sem,List.all_cons,List.all_nil,Bool.and_self]
 known x:=rfl
@[go_sem] theorem JmT(x:Mark):Dat.av x=.agg [.int .i64 x.k.kind,.str x.k.name,.int .i64 x.ver]:=rfl
@[go_sem] theorem JFg:Dat.sz Mark=3:=rfl
@[go_sem] theorem JEu(l:List Mark)(n:Nat)(f0:Key)(f1:Int):(Ja l).set n (.agg [.int .i64 f0.kind,.str f0.name,.int .i64 f1])=Ja (l.set n ⟨f0,f1⟩):=Y5 l n (⟨f0,f1⟩:Mark)
@[go_sem] theorem JER(l:List Mark)(f0:Key)(f1:Int):Ja l++[.agg [.int .i64 f0.kind,.str f0.name,.int .i64 f1]]=Ja (l++[⟨f0,f1⟩]):=by rw[YQ];rfl
@[go_sem] theorem JnR:∀l:List Mark,AV.flat.flatL (Ja l)=true
 | []=>rfl
 |_ :: r=>by simp only[JbR,AV.flat.flatL,JnR r,JmT,AV.flat,Bool.and_self]
theorem JhZ(x y:Mark):x=y↔x.k=y.k∧x.ver=y.ver:=by cases x;cases y;simp
@[go_sem] theorem JvZ(x:Mark):Mark.mk x.k x.ver=x:=rfl
@[ext] structure Frame where
 type:Int
 epoch:Int
 kind:Int
 nonce:Int
 turn:Int
 adds:List Res
 gone:List Key
 err:Int
 have':List Mark
 held:List Key
 deriving Inhabited,DecidableEq
instance:Dat Frame where
 av x:=.agg [.int .i64 x.type,.int .i64 x.epoch,.int .i64 x.kind,.int .i64 x.nonce,.int .i64 x.turn,.slice false (Ja x.adds),.slice false (Ja x.gone),.int .i64 x.err,.slice false (Ja x.have'),.slice false (Ja x.held)]
 sz:=10
 len _:=rfl
 pure x:=by simp only[go_sem,Bool.and_self]
 nrm x:=by simp only[go_sem]
 one x:=by simp only[go_sem,List.all_cons,List.all_nil,Bool.and_self]
 known x:=rfl
@[go_sem] theorem JtU(x:Frame):Dat.av x=.agg [.int .i64 x.type,.int .i64 x.epoch,.int .i64 x.kind,.int .i64 x.nonce,.int .i64 x.turn,.slice false (Ja x.adds),.slice false (Ja x.gone),.int .i64 x.err,.slice false (Ja x.have'),.slice false (Ja x.held)]:=rfl
@[go_sem] theorem JFc:Dat.sz Frame=10:=rfl
@[go_sem] theorem JEr(l:List Frame)(n:Nat)(f0 f1:Int)(f2 f3 f4:Int)(f5:List Res)(f6:List Key)(f7:Int)(f8:List Mark)(f9:List Key):(Ja l).set n (.agg [.int .i64 f0,.int .i64 f1,.int .i64 f2,.int .i64 f3,.int .i64 f4,.slice false (Ja f5),.slice false (Ja f6),.int .i64 f7,.slice false (Ja f8),.slice false (Ja f9)])=Ja (l.set n ⟨f0,f1,f2,f3,f4,f5,f6,f7,f8,f9⟩):=Y5 l n (⟨f0,f1,f2,f3,f4,f5,f6,f7,f8,f9⟩:Frame)
@[go_sem] theorem JEO(l:List Frame)(f0 f1:Int)(f2 f3 f4:Int)(f5:List Res)(f6:List Key)(f7:Int)(f8:List Mark)(f9:List Key):Ja l++[.agg [.int .i64 f0,.int .i64 f1,.int .i64 f2,.int .i64 f3,.int .i64 f4,.slice false (Ja f5),.slice false (Ja f6),.int .i64 f7,.slice false (Ja f8),.slice false (Ja f9)]]=Ja (l++[⟨f0,f1,f2,f3,f4,f5,f6,f7,f8,f9⟩]):=by rw[YQ];rfl
theorem JnF(x y:Frame):x=y↔x.type=y.type∧x.epoch=y.epoch∧x.kind=y.kind∧x.nonce=y.nonce∧x.turn=y.turn∧x.adds=y.adds∧x.gone=y.gone∧x.err=y.err∧x.have'=y.have'∧x.held=y.held:=by cases x;cases y;simp
@[go_sem] theorem JvW(x:Frame):Frame.mk x.type x.epoch x.kind x.nonce x.turn x.adds x.gone x.err x.have' x.held=x:=rfl
@[ext] structure Work where
 req:Req
 side:Side
 told:List Frame
 deriving Inhabited,DecidableEq
instance:Dat Work where
 av x:=.agg [.int .i64 x.req.a.port,.str x.req.a.host,.str x.req.a.path,.int .i64 x.req.a.first,.int .i64 x.req.a.other,.int .i64 x.req.stage,.int .i64 x.req.id,.str x.req.route,.str x.req.cluster,.int .i64 x.req.out.what,.str x.req.out.cluster,.int .i64 x.req.out.host,.int .i64 x.side.epoch,.int .i64 x.side.turn,.bool x.side.up,.int .i64 x.side.in'.last.a0,.int .i64 x.side.in'.last.a1,.int .i64 x.side.in'.last.a2,.int .i64 x.side.in'.last.a3,.int .i64 x.side.in'.max,.int .i64 x.side.errs.a0,.int .i64 x.side.errs.a1,.int .i64 x.side.errs.a2,.int .i64 x.side.errs.a3,.int .i64 x.side.w.c.cap,.slice false (Ja x.side.w.c.l),.bool x.side.w.ready,.slice false (Ja x.side.w.shown),.int .i64 x.side.p.next',.slice false (Ja x.side.p.snaps),.slice false (Ja x.told)]
 sz:=31
 len _:=rfl
 pure x:=by simp only[go_sem,Bool.and_self]
 nrm x:=by simp only[go_sem]
 one x:=by simp only[go_sem,List.all_cons,List.all_nil,Bool.and_self]
 known x:=rfl
@[go_sem] theorem Jt4(x:Work):Dat.av x=.agg [.int .i64 x.req.a.port,.str x.req.a.host,.str x.req.a.path,.int .i64 x.req.a.first,.int .i64 x.req.a.other,.int .i64 x.req.stage,.int .i64 x.req.id,.str x.req.route,.str x.req.cluster,.int .i64 x.req.out.what,.str x.req.out.cluster,.int .i64 x.req.out.host,.int .i64 x.side.epoch,.int .i64 x.side.turn,.bool x.side.up,.int .i64 x.side.in'.last.a0,.int .i64 x.side.in'.last.a1,.int .i64 x.side.in'.last.a2,.int .i64 x.side.in'.last.a3,.int .i64 x.side.in'.max,.int .i64 x.side.errs.a0,.int .i64 x.side.errs.a1,.int .i64 x.side.errs.a2,.int .i64 x.side.errs.a3,.int .i64 x.side.w.c.cap,.slice false (Ja x.side.w.c.l),.bool x.side.w.ready,.slice false (Ja x.side.w.shown),.int .i64 x.side.p.next',.slice false (Ja x.side.p.snaps),.slice false (Ja x.told)]:=rfl
@[go_sem] theorem JFq:Dat.sz Work=31:=rfl
@[go_sem] theorem Jv9(x:Work):Work.mk x.req x.side x.told=x:=rfl
@[ext] structure Flags where
 a0:Bool
 a1:Bool
 a2:Bool
 a3:Bool
 deriving Inhabited,DecidableEq
instance:Dat Flags where
 av x:=.agg [.bool x.a0,.bool x.a1,.bool x.a2,.bool x.a3]
 sz:=4
 len _:=rfl
 pure x:=by simp only[go_sem,Bool.and_self]
 nrm x:=by simp only[go_sem]
 one x:=by simp only[go_sem,List.all_cons,List.all_nil,Bool.and_self]
 known x:=rfl
@[go_sem] theorem JtS(x:Flags):Dat.av x=.agg [.bool x.a0,.bool x.a1,.bool x.a2,.bool x.a3]:=rfl
@[go_sem] theorem JFa:Dat.sz Flags=4:=rfl
@[go_sem] theorem JvU(x:Flags):Flags.mk x.a0 x.a1 x.a2 x.a3=x:=rfl
@[ext] structure Out where
 last:Four
 open':Flags
 max:Int
 deriving Inhabited,DecidableEq
instance:Dat Out where
 av x:=.agg [.int .i64 x.last.a0,.int .i64 x.last.a1,.int .i64 x.last.a2,.int .i64 x.last.a3,.bool x.open'.a0,.bool x.open'.a1,.bool x.open'.a2,.bool x.open'.a3,.int .i64 x.max]
 sz:=9
 len _:=rfl
 pure x:=by simp only[go_sem,Bool.and_self]
 nrm x:=by simp only[go_sem]
 one x:=by simp only[go_sem,List.all_cons,List.all_nil,Bool.and_self]
 known x:=rfl
@[go_sem] theorem JtX(x:Out):Dat.av x=.agg [.int .i64 x.last.a0,.int .i64 x.last.a1,.int .i64 x.last.a2,.int .i64 x.last.a3,.bool x.open'.a0,.bool x.open'.a1,.bool x.open'.a2,.bool x.open'.a3,.int .i64 x.max]:=rfl
@[go_sem] theorem JFh:Dat.sz Out=9:=rfl
@[go_sem] theorem Jv0(x:Out):Out.mk x.last x.open' x.max=x:=rfl
def JmE(x:Ask):Prop:=Jc x.host.length∧Jc x.path.length
def JdM(x:Four):Prop:=True
def Jg3(x:In):Prop:=JdM x.last
def JdO(x:Weight):Prop:=Jc x.cluster.length
def Yh(x:Rule):Prop:=Jc x.host.length∧Jc x.pfx.length∧Jc x.split.length∧(∀y∈x.split,JdO y)
def Jw(x:Res):Prop:=Jc x.name.length∧Jc x.to'.length∧Jc x.rules'.length∧(∀y∈x.rules',Yh y)∧Jc x.hosts.length
def Jg2(x:Cache):Prop:=Jc x.l.length∧(∀y∈x.l,Jw y)
def JaW(x:Warm):Prop:=Jg2 x.c∧Jc x.shown.length∧(∀y∈x.shown,Jw y)
def Yt(x:Snap):Prop:=Jc x.l.length∧(∀y∈x.l,Jw y)
def Jg4(x:Pins):Prop:=Jc x.snaps.length∧(∀y∈x.snaps,Yt y)
def JmF(x:Side):Prop:=Jg3 x.in'∧JdM x.errs∧JaW x.w∧Jg4 x.p
def JaV(x:Key):Prop:=Jc x.name.length
def JdN(x:Mark):Prop:=JaV x.k
def V5(x:Frame):Prop:=Jc x.adds.length∧(∀y∈x.adds,Jw y)∧Jc x.gone.length∧(∀y∈x.gone,JaV y)∧Jc x.have'.length∧(∀y∈x.have',JdN y)∧Jc x.held.length∧(∀y∈x.held,JaV y)
end Go.Proofs.YthjalhfmpffbjaaGreatDoor.Lg
