/- Parts of the proof, one behind the other. -/
import Derived.Test.YthjalhfmpffbjaaGreatDoorProg
import Derived.Test.YthjalhfmpffbjaaGreatDoorG02
set_option linter.unusedVariables false
set_option linter.unusedSimpArgs false
set_option maxRecDepth 100000
set_option maxHeartbeats 64000000
namespace Go.Proofs.YthjalhfmpffbjaaGreatDoor.Lg
open Go
open Tryz
theorem JiH{i:Nat}{ti:TypeInfo}(h:Tryz.prog.types[i]?=some ti):Tryz.prog.info? i=some ti:=by
 have hlt:i<Tryz.prog.types.size:=(Array.getElem?_eq_some_iff.1 h).1
 simp only[Tables.info?,if_pos hlt,h]
@[go_sem] def ty1:TyI:=⟨.func,1,8,[.nilf]⟩
@[go_sem] def ty2:TyI:=⟨.int .i64,1,8,[.int .i64 0]⟩
@[go_sem] def ty3:TyI:=⟨.int .i64,1,8,[.int .i64 0]⟩
@[go_sem] def ty4:TyI:=⟨.bool,1,1,[.bool false]⟩
@[go_sem] def ty5:TyI:=⟨.int .u8,1,1,[.int .u8 0]⟩
@[go_sem] def ty6:TyI:=⟨.int .u8,1,1,[.int .u8 0]⟩
@[go_sem] def ty7 : TyI := ⟨.struct [(0, 2, "x"), (1, 3, "y"), (2, 4, "signed"), (3, 6, "code")], 4, 24, [.int .i64 0, .int .i64 0, .bool false, .int .u8 0]⟩
@[go_sem] def ty8 : TyI := ⟨.struct [(0, 2, "x"), (1, 3, "y"), (2, 4, "signed"), (3, 6, "code")], 4, 24, [.int .i64 0, .int .i64 0, .bool false, .int .u8 0]⟩
@[go_sem] def ty9:TyI:=⟨.str,1,16,[.str []]⟩
@[go_sem] def JkE:TyI:=⟨.str,1,16,[.str []]⟩
@[go_sem] def JkO:TyI:=⟨.int .u64,1,8,[.int .u64 0]⟩
@[go_sem] def JkR : TyI := ⟨.struct [(0, 9, "msg"), (1, 12, "addr")], 2, 24, [.str [], .int .u64 0]⟩
@[go_sem] def JkV : TyI := ⟨.struct [(0, 9, "msg"), (1, 12, "addr")], 2, 24, [.str [], .int .u64 0]⟩
@[go_sem] def JkY:TyI:=⟨.ptr 309,1,8,[.nilp]⟩
@[go_sem] def Jk0:TyI:=⟨.ptr 312,1,8,[.nilp]⟩
@[go_sem] def Jk3:TyI:=⟨.ptr 320,1,8,[.nilp]⟩
@[go_sem] def Jk6 : TyI := ⟨.struct [(0, 17, "typ")], 1, 8, [.nilp]⟩
@[go_sem] def Jlc:TyI:=⟨.int .i32,1,4,[.int .i32 0]⟩
@[go_sem] def Jlf : TyI := ⟨.struct [(0, 3, "Port"), (1, 9, "Host"), (2, 9, "Path"), (3, 3, "First"), (4, 3, "Other")], 5, 56, [.int .i64 0, .str [], .str [], .int .i64 0, .int .i64 0]⟩
@[go_sem] def Jlj : TyI := ⟨.struct [(0, 3, "Port"), (1, 9, "Host"), (2, 9, "Path"), (3, 3, "First"), (4, 3, "Other")], 5, 56, [.int .i64 0, .str [], .str [], .int .i64 0, .int .i64 0]⟩
@[go_sem] def Jll : TyI := ⟨.struct [(0, 3, "What"), (1, 9, "Cluster"), (2, 3, "Host")], 3, 32, [.int .i64 0, .str [], .int .i64 0]⟩
@[go_sem] def Jln : TyI := ⟨.struct [(0, 3, "What"), (1, 9, "Cluster"), (2, 3, "Host")], 3, 32, [.int .i64 0, .str [], .int .i64 0]⟩
@[go_sem] def Jlt : TyI := ⟨.struct [(0, 23, "A"), (5, 3, "Stage"), (6, 3, "Id"), (7, 9, "Route"), (8, 9, "Cluster"), (9, 25, "Out")], 12, 136, [.int .i64 0, .str [], .str [], .int .i64 0, .int .i64 0, .int .i64 0, .int .i64 0, .str [], .str [], .int .i64 0, .str [], .int .i64 0]⟩
@[go_sem] def Jlw:TyI:=⟨.array 4 3,4,32,[.int .i64 0,.int .i64 0,.int .i64 0,.int .i64 0]⟩
@[go_sem] def JlC : TyI := ⟨.struct [(0, 28, "Last"), (4, 3, "Max")], 5, 40, [.int .i64 0, .int .i64 0, .int .i64 0, .int .i64 0, .int .i64 0]⟩
@[go_sem] def JlE:TyI:=⟨.int .i64,1,8,[.int .i64 0]⟩
@[go_sem] def JlN:TyI:=⟨.array 4 31,4,32,[.int .i64 0,.int .i64 0,.int .i64 0,.int .i64 0]⟩
@[go_sem] def JlP:TyI:=⟨.slice 118,1,24,[.slice true []]⟩
@[go_sem] def JlQ : TyI := ⟨.struct [(0, 3, "Cap"), (1, 33, "L")], 2, 32, [.int .i64 0, .slice true []]⟩
@[go_sem] def JlR : TyI := ⟨.struct [(0, 35, "C"), (2, 4, "Ready"), (3, 33, "Shown")], 4, 64, [.int .i64 0, .slice true [], .bool false, .slice true []]⟩
@[go_sem] def JlS:TyI:=⟨.slice 72,1,24,[.slice true []]⟩
@[go_sem] def JlU : TyI := ⟨.struct [(0, 3, "Next"), (1, 38, "Snaps")], 2, 32, [.int .i64 0, .slice true []]⟩
@[go_sem] def JlV : TyI := ⟨.struct [(0, 3, "Epoch"), (1, 3, "Turn"), (2, 4, "Up"), (3, 30, "In"), (8, 32, "Errs"), (12, 37, "W"), (16, 40, "P")], 18, 192, [.int .i64 0, .int .i64 0, .bool false, .int .i64 0, .int .i64 0, .int .i64 0, .int .i64 0, .int .i64 0, .int .i64 0, .int .i64 0, .int .i64 0, .int .i64 0, .int .i64 0, .slice true [], .bool false, .slice true [], .int .i64 0, .slice true []]⟩
@[go_sem] def JlW : TyI := ⟨.struct [(0, 3, "Epoch"), (1, 3, "Turn"), (2, 4, "Up"), (3, 30, "In"), (8, 32, "Errs"), (12, 37, "W"), (16, 40, "P")], 18, 192, [.int .i64 0, .int .i64 0, .bool false, .int .i64 0, .int .i64 0, .int .i64 0, .int .i64 0, .int .i64 0, .int .i64 0, .int .i64 0, .int .i64 0, .int .i64 0, .int .i64 0, .slice true [], .bool false, .slice true [], .int .i64 0, .slice true []]⟩
@[go_sem] def JlX:TyI:=⟨.func,1,8,[.nilf]⟩
@[go_sem] def JlY:TyI:=⟨.func,1,8,[.nilf]⟩
@[go_sem] def JlZ : TyI := ⟨.struct [(0, 23, "A"), (5, 3, "Stage"), (6, 3, "Id"), (7, 9, "Route"), (8, 9, "Cluster"), (9, 25, "Out")], 12, 136, [.int .i64 0, .str [], .str [], .int .i64 0, .int .i64 0, .int .i64 0, .int .i64 0, .str [], .str [], .int .i64 0, .str [], .int .i64 0]⟩
@[go_sem] def Jl0:TyI:=⟨.func,1,8,[.nilf]⟩
@[go_sem] def Jl1 : TyI := ⟨.struct [(0, 28, "Last"), (4, 3, "Max")], 5, 40, [.int .i64 0, .int .i64 0, .int .i64 0, .int .i64 0, .int .i64 0]⟩
@[go_sem] def Jl3 : TyI := ⟨.struct [(0, 3, "Cap"), (1, 33, "L")], 2, 32, [.int .i64 0, .slice true []]⟩
@[go_sem] def Jl4 : TyI := ⟨.struct [(0, 50, "C"), (2, 4, "Ready"), (3, 33, "Shown")], 4, 64, [.int .i64 0, .slice true [], .bool false, .slice true []]⟩
@[go_sem] def Jl5:TyI:=⟨.slice 103,1,24,[.slice true []]⟩
@[go_sem] def Jl6 : TyI := ⟨.struct [(0, 3, "Next"), (1, 53, "Snaps")], 2, 32, [.int .i64 0, .slice true []]⟩
@[go_sem] def Jl7 : TyI := ⟨.struct [(0, 3, "Next"), (1, 53, "Snaps")], 2, 32, [.int .i64 0, .slice true []]⟩
@[go_sem] def Jl8 : TyI := ⟨.struct [(0, 3, "Epoch"), (1, 3, "Turn"), (2, 4, "Up"), (3, 49, "In"), (8, 32, "Errs"), (12, 52, "W"), (16, 55, "P")], 18, 192, [.int .i64 0, .int .i64 0, .bool false, .int .i64 0, .int .i64 0, .int .i64 0, .int .i64 0, .int .i64 0, .int .i64 0, .int .i64 0, .int .i64 0, .int .i64 0, .int .i64 0, .slice true [], .bool false, .slice true [], .int .i64 0, .slice true []]⟩
@[go_sem] def Jma:TyI:=⟨.func,1,8,[.nilf]⟩
@[go_sem] def Jmb:TyI:=⟨.slice 85,1,24,[.slice true []]⟩
@[go_sem] def Jmd : TyI := ⟨.struct [(0, 3, "Id"), (1, 3, "Pins"), (2, 33, "L")], 3, 40, [.int .i64 0, .int .i64 0, .slice true []]⟩
@[go_sem] def Jme:TyI:=⟨.slice 80,1,24,[.slice true []]⟩
@[go_sem] def Jmf:TyI:=⟨.slice 134,1,24,[.slice true []]⟩
@[go_sem] def Jmg:TyI:=⟨.slice 136,1,24,[.slice true []]⟩
@[go_sem] def Jmi : TyI := ⟨.struct [(0, 3, "Type"), (1, 3, "Epoch"), (2, 3, "Kind"), (3, 3, "Nonce"), (4, 3, "Turn"), (5, 33, "Adds"), (6, 77, "Gone"), (7, 31, "Err"), (8, 78, "Have"), (9, 77, "Held")], 10, 144, [.int .i64 0, .int .i64 0, .int .i64 0, .int .i64 0, .int .i64 0, .slice true [], .slice true [], .int .i64 0, .slice true [], .slice true []]⟩
@[go_sem] def Jmj:TyI:=⟨.slice 145,1,24,[.slice true []]⟩
@[go_sem] def Jmk : TyI := ⟨.struct [(0, 3, "Type"), (1, 3, "Epoch"), (2, 3, "Kind"), (3, 3, "Nonce"), (4, 3, "Turn"), (5, 33, "Adds"), (6, 77, "Gone"), (7, 31, "Err"), (8, 83, "Have"), (9, 77, "Held")], 10, 144, [.int .i64 0, .int .i64 0, .int .i64 0, .int .i64 0, .int .i64 0, .slice true [], .slice true [], .int .i64 0, .slice true [], .slice true []]⟩
@[go_sem] def Jmm:TyI:=⟨.slice 31,1,24,[.slice true []]⟩
@[go_sem] def Jmn:TyI:=⟨.func,1,8,[.nilf]⟩
@[go_sem] def JkF : TyI := ⟨.struct [(0, 3, "Id"), (1, 3, "Pins"), (2, 33, "L")], 3, 40, [.int .i64 0, .int .i64 0, .slice true []]⟩
@[go_sem] def JkG:TyI:=⟨.ptr 108,1,8,[.nilp]⟩
@[go_sem] def JkH:TyI:=⟨.func,1,8,[.nilf]⟩
@[go_sem] def JkI : TyI := ⟨.struct [(0, 46, "Req"), (12, 57, "side"), (30, 61, "told")], 31, 352, [.int .i64 0, .str [], .str [], .int .i64 0, .int .i64 0, .int .i64 0, .int .i64 0, .str [], .str [], .int .i64 0, .str [], .int .i64 0, .int .i64 0, .int .i64 0, .bool false, .int .i64 0, .int .i64 0, .int .i64 0, .int .i64 0, .int .i64 0, .int .i64 0, .int .i64 0, .int .i64 0, .int .i64 0, .int .i64 0, .slice true [], .bool false, .slice true [], .int .i64 0, .slice true [], .slice true []]⟩
@[go_sem] def JkJ:TyI:=⟨.func,1,8,[.nilf]⟩
@[go_sem] def JkK:TyI:=⟨.func,1,8,[.nilf]⟩
@[go_sem] def JkL:TyI:=⟨.slice 123,1,24,[.slice true []]⟩
@[go_sem] def JkM:TyI:=⟨.slice 3,1,24,[.slice true []]⟩
@[go_sem] def JkN : TyI := ⟨.struct [(0, 3, "Kind"), (1, 9, "Name"), (2, 3, "Ver"), (3, 3, "Port"), (4, 9, "To"), (5, 115, "Rules"), (6, 116, "Hosts")], 7, 104, [.int .i64 0, .str [], .int .i64 0, .int .i64 0, .str [], .slice true [], .slice true []]⟩
@[go_sem] def JkP:TyI:=⟨.slice 167,1,24,[.slice true []]⟩
@[go_sem] def JkQ : TyI := ⟨.struct [(0, 9, "Host"), (1, 9, "Prefix"), (2, 121, "Split")], 3, 56, [.str [], .str [], .slice true []]⟩
@[go_sem] def JkS : TyI := ⟨.struct [(0, 3, "Kind"), (1, 9, "Name")], 2, 24, [.int .i64 0, .str []]⟩
@[go_sem] def JkT : TyI := ⟨.struct [(0, 134, "K"), (2, 3, "Ver")], 3, 32, [.int .i64 0, .str [], .int .i64 0]⟩
@[go_sem] def JkU:TyI:=⟨.func,1,8,[.nilf]⟩
@[go_sem] def JkW:TyI:=⟨.func,1,8,[.nilf]⟩
@[go_sem] def JkX : TyI := ⟨.struct [(0, 134, "K"), (2, 3, "Ver")], 3, 32, [.int .i64 0, .str [], .int .i64 0]⟩
@[go_sem] def JkZ:TyI:=⟨.func,1,8,[.nilf]⟩
@[go_sem] def Jk1:TyI:=⟨.func,1,8,[.nilf]⟩
@[go_sem] def Jk2 : TyI := ⟨.struct [(0, 9, "Cluster"), (1, 3, "W")], 2, 24, [.str [], .int .i64 0]⟩
@[go_sem] def Jk4:TyI:=⟨.array 4 4,4,4,[.bool false,.bool false,.bool false,.bool false]⟩
@[go_sem] def Jk5 : TyI := ⟨.struct [(0, 28, "Last"), (4, 177, "Open"), (8, 3, "Max")], 9, 48, [.int .i64 0, .int .i64 0, .int .i64 0, .int .i64 0, .bool false, .bool false, .bool false, .bool false, .int .i64 0]⟩
@[go_sem] def Jk7:TyI:=⟨.func,1,8,[.nilf]⟩
@[go_sem] def Jk9:TyI:=⟨.func,1,8,[.nilf]⟩
@[go_sem] def Jla:TyI:=⟨.func,1,8,[.nilf]⟩
@[go_sem] def Jlb : TyI := ⟨.struct [(0, 52, "Warm"), (4, 4, "changed")], 5, 72, [.int .i64 0, .slice true [], .bool false, .slice true [], .bool false]⟩
@[go_sem] def Jld:TyI:=⟨.func,1,8,[.nilf]⟩
@[go_sem] def Jle : TyI := ⟨.struct [(0, 31, "e")], 1, 8, [.int .i64 0]⟩
@[go_sem] def Jlg:TyI:=⟨.map 134 4,1,8,[.nilm]⟩
@[go_sem] def Jlh:TyI:=⟨.func,1,8,[.nilf]⟩
@[go_sem] def Jli:TyI:=⟨.func,1,8,[.nilf]⟩
@[go_sem] def Jlk:TyI:=⟨.int .u64,1,8,[.int .u64 0]⟩
@[go_sem] def Jlm:TyI:=⟨.map 3 4,1,8,[.nilm]⟩
@[go_sem] def Jlo:TyI:=⟨.map 134 77,1,8,[.nilm]⟩
@[go_sem] def Jlp:TyI:=⟨.func,1,8,[.nilf]⟩
@[go_sem] def Jlq:TyI:=⟨.int .i64,1,8,[.int .i64 0]⟩
@[go_sem] def Jlr:TyI:=⟨.int .u32,1,4,[.int .u32 0]⟩
@[go_sem] def Jls:TyI:=⟨.int .u64,1,8,[.int .u64 0]⟩
@[go_sem] def Jlu:TyI:=⟨.func,1,8,[.nilf]⟩
@[go_sem] def Jlv : TyI := ⟨.struct [(0, 4, "port"), (1, 4, "to"), (2, 4, "rules"), (3, 4, "hosts")], 4, 4, [.bool false, .bool false, .bool false, .bool false]⟩
@[go_sem] def Jlx:TyI:=⟨.int .u64,1,8,[.int .u64 0]⟩
@[go_sem] def Jly:TyI:=⟨.ptr 3,1,8,[.nilp]⟩
@[go_sem] def Jlz:TyI:=⟨.ptr 280,1,8,[.nilp]⟩
@[go_sem] def JlA:TyI:=⟨.slice 33,1,24,[.slice true []]⟩
@[go_sem] def JlD : TyI := ⟨.struct [(0, 17, "_interface"), (1, 17, "concrete"), (2, 17, "asserted"), (3, 9, "missingMethod")], 4, 40, [.nilp, .nilp, .nilp, .str []]⟩
@[go_sem] def JlF:TyI:=⟨.array 0 16,0,0,[]⟩
@[go_sem] def JlG : TyI := ⟨.struct [(0, 310, "_")], 0, 0, []⟩
@[go_sem] def JlH:TyI:=⟨.int .u8,1,1,[.int .u8 0]⟩
@[go_sem] def JlI:TyI:=⟨.int .u8,1,1,[.int .u8 0]⟩
@[go_sem] def JlJ:TyI:=⟨.func,1,8,[.nilf]⟩
@[go_sem] def JlK:TyI:=⟨.ptr 5,1,8,[.nilp]⟩
@[go_sem] def JlL:TyI:=⟨.int .i32,1,4,[.int .i32 0]⟩
@[go_sem] def JlM:TyI:=⟨.int .i32,1,4,[.int .i32 0]⟩
@[go_sem] def JlO : TyI := ⟨.struct [(0, 12, "Size_"), (1, 12, "PtrBytes"), (2, 265, "Hash"), (3, 313, "TFlag"), (4, 5, "Align_"), (5, 5, "FieldAlign_"), (6, 314, "Kind_"), (7, 315, "Equal"), (8, 316, "GCData"), (9, 317, "Str"), (10, 318, "PtrToThis")], 11, 48, [.int .u64 0, .int .u64 0, .int .u32 0, .int .u8 0, .int .u8 0, .int .u8 0, .int .u8 0, .nilf, .nilp, .int .i32 0, .int .i32 0]⟩
def tyL:List (Nat×TyI):=[(1,ty1),(2,ty2),(3,ty3),(4,ty4),(5,ty5),(6,ty6),(7,ty7),(8,ty8),(9,ty9),(10,JkE),(12,JkO),(13,JkR),(14,JkV),(15,JkY),(16,Jk0),(17,Jk3),(18,Jk6),(21,Jlc),(22,Jlf),(23,Jlj),(24,Jll),(25,Jln),(27,Jlt),(28,Jlw),(30,JlC),(31,JlE),(32,JlN),(33,JlP),(35,JlQ),(37,JlR),(38,JlS),(40,JlU),(41,JlV),(42,JlW),(43,JlX),(44,JlY),(46,JlZ),(47,Jl0),(49,Jl1),(50,Jl3),(52,Jl4),(53,Jl5),(54,Jl6),(55,Jl7),(57,Jl8),(60,Jma),(61,Jmb),(72,Jmd),(75,Jme),(77,Jmf),(78,Jmg),(80,Jmi),(83,Jmj),(85,Jmk),(94,Jmm),(95,Jmn),(103,JkF),(104,JkG),(105,JkH),(108,JkI),(109,JkJ),(114,JkK),(115,JkL),(116,JkM),(118,JkN),(121,JkP),(123,JkQ),(134,JkS),(136,JkT),(137,JkU),(144,JkW),(145,JkX),(152,JkZ),(163,Jk1),(167,Jk2),(177,Jk4),(179,Jk5),(194,Jk7),(200,Jk9),(201,Jla),(208,Jlb),(214,Jld),(216,Jle),(220,Jlg),(225,Jlh),(229,Jli),(234,Jlk),(245,Jlm),(251,Jlo),(253,Jlp),(258,Jlq),(265,Jlr),(267,Jls),(274,Jlu),(276,Jlv),(280,Jlx),(284,Jly),(293,Jlz),(297,JlA),(309,JlD),(310,JlF),(312,JlG),(313,JlH),(314,JlI),(315,JlJ),(316,JlK),(317,JlL),(318,JlM),(320,JlO)]
def Jfk(P:Program):List (Nat×TyI)→Prop
 | []=>True
 |p :: r=>(JdL P p.1 p.2∧TyZ P p.1 p.2)∧Jfk P r
theorem tk{t:Nat}{i:TyI}{ti:TypeInfo}{d:TypeDesc}(h:Tryz.prog.types[t]?=some ti)(hd:Tryz.prog.underlying t=some d)(he:(ti.size,ti.bytes,ti.zero.map fun z=>(z.cells.toList.map Y8,z.cells.size,Jhi z),VD d)=(i.sz,i.bytes,some (i.zero,ti.size,i.k.agg),i.k)):JdL prog t i∧TyZ prog t i:=by
 simp only[Prod.mk.injEq] at he
 obtain⟨h1,h2,h3,h4⟩:=he
 obtain⟨z,hz,h5⟩:=Option.map_eq_some_iff.1 h3
 simp only[Prod.mk.injEq] at h5
 exact⟨.inr ⟨ti,JiH h,h1,h2,⟨z,hz,h5.1,h5.2.1⟩,d,hd,h4⟩,.inr ⟨ti,z,JiH h,hz,h5.2.2⟩⟩
def Jfe(l:List (Nat×TyI))(t:Nat):TyI:=(l.lookup t).getD ⟨.unk,0,0,[]⟩
theorem Jfw{P:Program}:∀(l:List (Nat×TyI)),Jfk P l→∀t,JdL P t (Jfe l t)∧TyZ P t (Jfe l t)
 | [],_,t=>⟨.inl rfl,.inl rfl⟩
 | (i,x) :: r,h,t=>by
  unfold Jfe
  by_cases e:t=i
  ·subst e;simpa[List.lookup] using h.1
  ·have e':(t == i)=false:=by simpa using e
   have:((i,x) :: r).lookup t=r.lookup t:=by simp[List.lookup,e']
   rw[this];exact Jfw r h.2 t
theorem Jmo:Jfk prog tyL:=⟨tk type1 underlying1 rfl,tk type2 underlying2 rfl,tk type3 underlying3 rfl,tk type4 underlying4 rfl,tk type5 underlying5 rfl,tk type6 underlying6 rfl,tk type7 underlying7 rfl,tk type8 underlying8 rfl,tk type9 underlying9 rfl,tk type10 underlying10 rfl,tk type12 underlying12 rfl,tk type13 underlying13 rfl,tk type14 underlying14 rfl,tk type15 underlying15 rfl,tk type16 underlying16 rfl,tk type17 underlying17 rfl,tk type18 underlying18 rfl,tk type21 underlying21 rfl,tk type22 underlying22 rfl,tk type23 underlying23 rfl,tk type24 underlying24 rfl,tk type25 underlying25 rfl,tk type27 underlying27 rfl,tk type28 underlying28 rfl,tk type30 underlying30 rfl,tk type31 underlying31 rfl,tk type32 underlying32 rfl,tk type33 underlying33 rfl,tk type35 underlying35 rfl,tk type37 underlying37 rfl,tk type38 underlying38 rfl,tk type40 underlying40 rfl,tk type41 underlying41 rfl,tk type42 underlying42 rfl,tk type43 underlying43 rfl,tk type44 underlying44 rfl,tk type46 underlying46 rfl,tk type47 underlying47 rfl,tk type49 underlying49 rfl,tk type50 underlying50 rfl,tk type52 underlying52 rfl,tk type53 underlying53 rfl,tk type54 underlying54 rfl,tk type55 underlying55 rfl,tk type57 underlying57 rfl,tk type60 underlying60 rfl,tk type61 underlying61 rfl,tk type72 underlying72 rfl,tk type75 underlying75 rfl,tk type77 underlying77 rfl,tk type78 underlying78 rfl,tk type80 underlying80 rfl,tk type83 underlying83 rfl,tk type85 underlying85 rfl,tk type94 underlying94 rfl,tk type95 underlying95 rfl,tk type103 underlying103 rfl,tk type104 underlying104 rfl,tk type105 underlying105 rfl,tk type108 underlying108 rfl,tk type109 underlying109 rfl,tk type114 underlying114 rfl,tk type115 underlying115 rfl,tk type116 underlying116 rfl,tk type118 underlying118 rfl,tk type121 underlying121 rfl,tk type123 underlying123 rfl,tk type134 underlying134 rfl,tk type136 underlying136 rfl,tk type137 underlying137 rfl,tk type144 underlying144 rfl,tk type145 underlying145 rfl,tk type152 underlying152 rfl,tk type163 underlying163 rfl,tk type167 underlying167 rfl,tk type177 underlying177 rfl,tk type179 underlying179 rfl,tk type194 underlying194 rfl,tk type200 underlying200 rfl,tk type201 underlying201 rfl,tk type208 underlying208 rfl,tk type214 underlying214 rfl,tk type216 underlying216 rfl,tk type220 underlying220 rfl,tk type225 underlying225 rfl,tk type229 underlying229 rfl,tk type234 underlying234 rfl,tk type245 underlying245 rfl,tk type251 underlying251 rfl,tk type253 underlying253 rfl,tk type258 underlying258 rfl,tk type265 underlying265 rfl,tk type267 underlying267 rfl,tk type274 underlying274 rfl,tk type276 underlying276 rfl,tk type280 underlying280 rfl,tk type284 underlying284 rfl,tk type293 underlying293 rfl,tk type297 underlying297 rfl,tk type309 underlying309 rfl,tk type310 underlying310 rfl,tk type312 underlying312 rfl,tk type313 underlying313 rfl,tk type314 underlying314 rfl,tk type315 underlying315 rfl,tk type316 underlying316 rfl,tk type317 underlying317 rfl,tk type318 underlying318 rfl,tk type320 underlying320 rfl,trivial⟩
def T:Tys prog:=⟨Jfe tyL,fun t=>(Jfw tyL Jmo t).1,fun t=>(Jfw tyL Jmo t).2,fun _=>false⟩
@[go_sem] theorem Jxf(d:Nat):T.fz d=false:=rfl
@[go_sem] theorem T_1:T.ty 1=ty1:=rfl
@[go_sem] theorem T_2:T.ty 2=ty2:=rfl
@[go_sem] theorem T_3:T.ty 3=ty3:=rfl
@[go_sem] theorem T_4:T.ty 4=ty4:=rfl
@[go_sem] theorem T_5:T.ty 5=ty5:=rfl
@[go_sem] theorem T_6:T.ty 6=ty6:=rfl
@[go_sem] theorem T_7:T.ty 7=ty7:=rfl
@[go_sem] theorem T_8:T.ty 8=ty8:=rfl
@[go_sem] theorem T_9:T.ty 9=ty9:=rfl
@[go_sem] theorem JrL:T.ty 10=JkE:=rfl
@[go_sem] theorem JrV:T.ty 12=JkO:=rfl
@[go_sem] theorem JrY:T.ty 13=JkR:=rfl
@[go_sem] theorem Jr2:T.ty 14=JkV:=rfl
@[go_sem] theorem Jr5:T.ty 15=JkY:=rfl
@[go_sem] theorem Jr7:T.ty 16=Jk0:=rfl
@[go_sem] theorem Jsa:T.ty 17=Jk3:=rfl
@[go_sem] theorem Jsd:T.ty 18=Jk6:=rfl
@[go_sem] theorem Jsj:T.ty 21=Jlc:=rfl
@[go_sem] theorem Jsm:T.ty 22=Jlf:=rfl
@[go_sem] theorem Jsq:T.ty 23=Jlj:=rfl
@[go_sem] theorem Jss:T.ty 24=Jll:=rfl
@[go_sem] theorem Jsu:T.ty 25=Jln:=rfl
@[go_sem] theorem JsA:T.ty 27=Jlt:=rfl
@[go_sem] theorem JsD:T.ty 28=Jlw:=rfl
@[go_sem] theorem JsJ:T.ty 30=JlC:=rfl
@[go_sem] theorem JsL:T.ty 31=JlE:=rfl
@[go_sem] theorem JsU:T.ty 32=JlN:=rfl
@[go_sem] theorem JsW:T.ty 33=JlP:=rfl
@[go_sem] theorem JsX:T.ty 35=JlQ:=rfl
@[go_sem] theorem JsY:T.ty 37=JlR:=rfl
@[go_sem] theorem JsZ:T.ty 38=JlS:=rfl
@[go_sem] theorem Js1:T.ty 40=JlU:=rfl
@[go_sem] theorem Js2:T.ty 41=JlV:=rfl
@[go_sem] theorem Js3:T.ty 42=JlW:=rfl
@[go_sem] theorem Js4:T.ty 43=JlX:=rfl
@[go_sem] theorem Js5:T.ty 44=JlY:=rfl
@[go_sem] theorem Js6:T.ty 46=JlZ:=rfl
@[go_sem] theorem Js7:T.ty 47=Jl0:=rfl
@[go_sem] theorem Js8:T.ty 49=Jl1:=rfl
@[go_sem] theorem Jta:T.ty 50=Jl3:=rfl
@[go_sem] theorem Jtb:T.ty 52=Jl4:=rfl
@[go_sem] theorem Jtc:T.ty 53=Jl5:=rfl
@[go_sem] theorem Jtd:T.ty 54=Jl6:=rfl
@[go_sem] theorem Jte:T.ty 55=Jl7:=rfl
@[go_sem] theorem Jtf:T.ty 57=Jl8:=rfl
@[go_sem] theorem Jth:T.ty 60=Jma:=rfl
@[go_sem] theorem Jti:T.ty 61=Jmb:=rfl
@[go_sem] theorem Jtk:T.ty 72=Jmd:=rfl
@[go_sem] theorem Jtl:T.ty 75=Jme:=rfl
@[go_sem] theorem Jtm:T.ty 77=Jmf:=rfl
@[go_sem] theorem Jtn:T.ty 78=Jmg:=rfl
@[go_sem] theorem Jtp:T.ty 80=Jmi:=rfl
@[go_sem] theorem Jtq:T.ty 83=Jmj:=rfl
@[go_sem] theorem Jtr:T.ty 85=Jmk:=rfl
@[go_sem] theorem Jtt:T.ty 94=Jmm:=rfl
@[go_sem] theorem Jtu:T.ty 95=Jmn:=rfl
@[go_sem] theorem JrM:T.ty 103=JkF:=rfl
@[go_sem] theorem JrN:T.ty 104=JkG:=rfl
@[go_sem] theorem JrO:T.ty 105=JkH:=rfl
@[go_sem] theorem JrP:T.ty 108=JkI:=rfl
@[go_sem] theorem JrQ:T.ty 109=JkJ:=rfl
@[go_sem] theorem JrR:T.ty 114=JkK:=rfl
@[go_sem] theorem JrS:T.ty 115=JkL:=rfl
@[go_sem] theorem JrT:T.ty 116=JkM:=rfl
@[go_sem] theorem JrU:T.ty 118=JkN:=rfl
@[go_sem] theorem JrW:T.ty 121=JkP:=rfl
@[go_sem] theorem JrX:T.ty 123=JkQ:=rfl
@[go_sem] theorem JrZ:T.ty 134=JkS:=rfl
@[go_sem] theorem Jr0:T.ty 136=JkT:=rfl
@[go_sem] theorem Jr1:T.ty 137=JkU:=rfl
@[go_sem] theorem Jr3:T.ty 144=JkW:=rfl
@[go_sem] theorem Jr4:T.ty 145=JkX:=rfl
@[go_sem] theorem Jr6:T.ty 152=JkZ:=rfl
@[go_sem] theorem Jr8:T.ty 163=Jk1:=rfl
@[go_sem] theorem Jr9:T.ty 167=Jk2:=rfl
@[go_sem] theorem Jsb:T.ty 177=Jk4:=rfl
@[go_sem] theorem Jsc:T.ty 179=Jk5:=rfl
@[go_sem] theorem Jse:T.ty 194=Jk7:=rfl
@[go_sem] theorem Jsg:T.ty 200=Jk9:=rfl
@[go_sem] theorem Jsh:T.ty 201=Jla:=rfl
@[go_sem] theorem Jsi:T.ty 208=Jlb:=rfl
@[go_sem] theorem Jsk:T.ty 214=Jld:=rfl
@[go_sem] theorem Jsl:T.ty 216=Jle:=rfl
@[go_sem] theorem Jsn:T.ty 220=Jlg:=rfl
@[go_sem] theorem Jso:T.ty 225=Jlh:=rfl
@[go_sem] theorem Jsp:T.ty 229=Jli:=rfl
@[go_sem] theorem Jsr:T.ty 234=Jlk:=rfl
@[go_sem] theorem Jst:T.ty 245=Jlm:=rfl
@[go_sem] theorem Jsv:T.ty 251=Jlo:=rfl
@[go_sem] theorem Jsw:T.ty 253=Jlp:=rfl
@[go_sem] theorem Jsx:T.ty 258=Jlq:=rfl
@[go_sem] theorem Jsy:T.ty 265=Jlr:=rfl
@[go_sem] theorem Jsz:T.ty 267=Jls:=rfl
@[go_sem] theorem JsB:T.ty 274=Jlu:=rfl
@[go_sem] theorem JsC:T.ty 276=Jlv:=rfl
@[go_sem] theorem JsE:T.ty 280=Jlx:=rfl
@[go_sem] theorem JsF:T.ty 284=Jly:=rfl
@[go_sem] theorem JsG:T.ty 293=Jlz:=rfl
@[go_sem] theorem JsH:T.ty 297=JlA:=rfl
@[go_sem] theorem JsK:T.ty 309=JlD:=rfl
@[go_sem] theorem JsM:T.ty 310=JlF:=rfl
@[go_sem] theorem JsN:T.ty 312=JlG:=rfl
@[go_sem] theorem JsO:T.ty 313=JlH:=rfl
@[go_sem] theorem JsP:T.ty 314=JlI:=rfl
@[go_sem] theorem JsQ:T.ty 315=JlJ:=rfl
@[go_sem] theorem JsR:T.ty 316=JlK:=rfl
@[go_sem] theorem JsS:T.ty 317=JlL:=rfl
@[go_sem] theorem JsT:T.ty 318=JlM:=rfl
@[go_sem] theorem JsV:T.ty 320=JlO:=rfl
@[go_sem] theorem JvR:Tryz.prog.eqGuardType Tryz.prog.depth 23=false:=by kernel_rfl
@[go_sem] theorem JE9:Tryz.prog.stoodInHeld 23=false:=by kernel_rfl
@[go_sem] theorem JvS:Tryz.prog.eqGuardType Tryz.prog.depth 25=false:=by kernel_rfl
@[go_sem] theorem JFa:Tryz.prog.stoodInHeld 25=false:=by kernel_rfl
@[go_sem] theorem JvO:Tryz.prog.eqGuardType Tryz.prog.depth 134=false:=by kernel_rfl
@[go_sem] theorem JE6:Tryz.prog.stoodInHeld 134=false:=by kernel_rfl
@[go_sem] theorem JvP:Tryz.prog.eqGuardType Tryz.prog.depth 167=false:=by kernel_rfl
@[go_sem] theorem JE7:Tryz.prog.stoodInHeld 167=false:=by kernel_rfl
@[go_sem] theorem JvQ:Tryz.prog.eqGuardType Tryz.prog.depth 216=false:=by kernel_rfl
@[go_sem] theorem JE8:Tryz.prog.stoodInHeld 216=false:=by kernel_rfl
@[go_sem] theorem JvT:Tryz.prog.eqGuardType Tryz.prog.depth 276=false:=by kernel_rfl
@[go_sem] theorem JFb:Tryz.prog.stoodInHeld 276=false:=by kernel_rfl
theorem GO0 {f:FuncId} {fn:Func} {c:Code} {rs:Array ResultVar} {r:Ret} {n:Nat} (hcall:∀ (vals:Array Value) (w:World),(callFunc f vals).run prog w=.ok (.enter f vals) w) (hf:Tryz.prog.funcs[f]?=some fn) (hb:fn.body=some c) (hnt:fn.ntmps=n) (hrs:fn.results=rs) (h:∀ ts:TS,ts.n=n→SpecC prog c ts (Vl (V3 T rs.toList r))):CallR prog f [] r:=CallR.go0 (T:=T) hcall hf hb hnt (congrArg Array.toList hrs) h
theorem Jl {f:FuncId} {fn:Func} {c:Code} {rs:Array ResultVar} {r:Ret} {n:Nat} {a:AV} (hcall:∀ (vals:Array Value) (w:World),(callFunc f vals).run prog w=.ok (.enter f vals) w) (hf:Tryz.prog.funcs[f]?=some fn) (hb:fn.body=some c) (hnt:fn.ntmps=n) (hrs:fn.results=rs) (h:∀ ts:TS,ts.n=n→ts.tmp 0=a→SpecC prog c ts (Vl (V3 T rs.toList r))) (hn:1≤n:=by decide):CallR prog f [a] r:=CallR.go1 (T:=T) hcall hf hb hnt (congrArg Array.toList hrs) hn h
theorem Jn {f:FuncId} {fn:Func} {c:Code} {rs:Array ResultVar} {r:Ret} {n:Nat} {a b:AV} (hcall:∀ (vals:Array Value) (w:World),(callFunc f vals).run prog w=.ok (.enter f vals) w) (hf:Tryz.prog.funcs[f]?=some fn) (hb:fn.body=some c) (hnt:fn.ntmps=n) (hrs:fn.results=rs) (h:∀ ts:TS,ts.n=n→ts.tmp 0=a→ts.tmp 1=b→SpecC prog c ts (Vl (V3 T rs.toList r))) (hn:2≤n:=by decide):CallR prog f [a,b] r:=CallR.go2 (T:=T) hcall hf hb hnt (congrArg Array.toList hrs) hn h
theorem Vs {f:FuncId} {fn:Func} {c:Code} {rs:Array ResultVar} {r:Ret} {n:Nat} {a b d:AV} (hcall:∀ (vals:Array Value) (w:World),(callFunc f vals).run prog w=.ok (.enter f vals) w) (hf:Tryz.prog.funcs[f]?=some fn) (hb:fn.body=some c) (hnt:fn.ntmps=n) (hrs:fn.results=rs) (h:∀ ts:TS,ts.n=n→ts.tmp 0=a→ts.tmp 1=b→ts.tmp 2=d→SpecC prog c ts (Vl (V3 T rs.toList r))) (hn:3≤n:=by decide):CallR prog f [a,b,d] r:=CallR.go3 (T:=T) hcall hf hb hnt (congrArg Array.toList hrs) hn h
theorem mixed:Tryz.prog.follows .mixedOrders=true:=by kernel_rfl
@[ext] structure Ask where
 port:Int
 host:List UInt8
 path:List UInt8
 first:Int
 other:Int
 deriving Inhabited,DecidableEq
instance:Dat Ask where
 av x:=.agg [.int .i64 x.port,.str x.host,.str x.path,.int .i64 x.first,.int .i64 x.other]
 sz:=5
 len _:=rfl
 pure x:=by simp only[go_sem,Bool.and_self]
 nrm x:=by simp only[go_sem]
 one x:=by simp only[go_sem,List.all_cons,List.all_nil,Bool.and_self]
 known x:=rfl
@[go_sem] theorem JtX(x:Ask):Dat.av x=.agg [.int .i64 x.port,.str x.host,.str x.path,.int .i64 x.first,.int .i64 x.other]:=rfl
@[go_sem] theorem JFf:Dat.sz Ask=5:=rfl
@[go_sem] theorem JvZ(x:Ask):Ask.mk x.port x.host x.path x.first x.other=x:=rfl
@[ext] structure Answer where
 what:Int
 cluster:List UInt8
 host:Int
 deriving Inhabited,DecidableEq
instance:Dat Answer where
 av x:=.agg [.int .i64 x.what,.str x.cluster,.int .i64 x.host]
 sz:=3
 len _:=rfl
 pure x:=by simp only[go_sem,Bool.and_self]
 nrm x:=by simp only[go_sem]
 one x:=by simp only[go_sem,List.all_cons,List.all_nil,Bool.and_self]
 known x:=rfl
@[go_sem] theorem JtW(x:Answer):Dat.av x=.agg [.int .i64 x.what,.str x.cluster,.int .i64 x.host]:=rfl
@[go_sem] theorem JFe:Dat.sz Answer=3:=rfl
@[go_sem] theorem JvY(x:Answer):Answer.mk x.what x.cluster x.host=x:=rfl
@[ext] structure Req where
 a:Ask
 stage:Int
 id:Int
 route:List UInt8
 cluster:List UInt8
 out:Answer
 deriving Inhabited,DecidableEq
instance:Dat Req where
 av x:=.agg [.int .i64 x.a.port,.str x.a.host,.str x.a.path,.int .i64 x.a.first,.int .i64 x.a.other,.int .i64 x.stage,.int .i64 x.id,.str x.route,.str x.cluster,.int .i64 x.out.what,.str x.out.cluster,.int .i64 x.out.host]
 sz:=12
 len _:=rfl
 pure x:=by simp only[go_sem,Bool.and_self]
 nrm x:=by simp only[go_sem]
 one x:=by simp only[go_sem,List.all_cons,List.all_nil,Bool.and_self]
 known x:=rfl
@[go_sem] theorem Jt5(x:Req):Dat.av x=.agg [.int .i64 x.a.port,.str x.a.host,.str x.a.path,.int .i64 x.a.first,.int .i64 x.a.other,.int .i64 x.stage,.int .i64 x.id,.str x.route,.str x.cluster,.int .i64 x.out.what,.str x.out.cluster,.int .i64 x.out.host]:=rfl
@[go_sem] theorem JFq:Dat.sz Req=12:=rfl
@[go_sem] theorem Jv9(x:Req):Req.mk x.a x.stage x.id x.route x.cluster x.out=x:=rfl
@[ext] structure Four where
 a0:Int
 a1:Int
 a2:Int
 a3:Int
 deriving Inhabited,DecidableEq
instance:Dat Four where
 av x:=.agg [.int .i64 x.a0,.int .i64 x.a1,.int .i64 x.a2,.int .i64 x.a3]
 sz:=4
 len _:=rfl
 pure x:=by simp only[go_sem,Bool.and_self]
 nrm x:=by simp only[go_sem]
 one x:=by simp only[go_sem,List.all_cons,List.all_nil,Bool.and_self]
 known x:=rfl
@[go_sem] theorem Jt0(x:Four):Dat.av x=.agg [.int .i64 x.a0,.int .i64 x.a1,.int .i64 x.a2,.int .i64 x.a3]:=rfl
@[go_sem] theorem JFi:Dat.sz Four=4:=rfl
@[go_sem] theorem Jv2(x:Four):Four.mk x.a0 x.a1 x.a2 x.a3=x:=rfl
@[ext] structure In where
 last:Four
 max:Int
 deriving Inhabited,DecidableEq
instance:Dat In where
 av x:=.agg [.int .i64 x.last.a0,.int .i64 x.last.a1,.int .i64 x.last.a2,.int .i64 x.last.a3,.int .i64 x.max]
 sz:=5
 len _:=rfl
 pure x:=by simp only[go_sem,Bool.and_self]
 nrm x:=by simp only[go_sem]
 one x:=by simp only[go_sem,List.all_cons,List.all_nil,Bool.and_self]
 known x:=rfl
@[go_sem] theorem Jt2(x:In):Dat.av x=.agg [.int .i64 x.last.a0,.int .i64 x.last.a1,.int .i64 x.last.a2,.int .i64 x.last.a3,.int .i64 x.max]:=rfl
@[go_sem] theorem JFk:Dat.sz In=5:=rfl
@[go_sem] theorem Jv4(x:In):In.mk x.last x.max=x:=rfl
@[ext] structure Weight where
 cluster:List UInt8
 w:Int
 deriving Inhabited,DecidableEq
instance:Dat Weight where
 av x:=.agg [.str x.cluster,.int .i64 x.w]
 sz:=2
 len _:=rfl
 pure x:=by simp only[go_sem,Bool.and_self]
 nrm x:=by simp only[go_sem]
 one x:=by simp only[go_sem,List.all_cons,List.all_nil,Bool.and_self]
 known x:=rfl
@[go_sem] theorem JmZ(x:Weight):Dat.av x=.agg [.str x.cluster,.int .i64 x.w]:=rfl
@[go_sem] theorem JFw:Dat.sz Weight=2:=rfl
@[go_sem] theorem JEH(l:List Weight)(n:Nat)(f0:List UInt8)(f1:Int):(Ja l).set n (.agg [.str f0,.int .i64 f1])=Ja (l.set n ⟨f0,f1⟩):=Y2 l n (⟨f0,f1⟩:Weight)
@[go_sem] theorem JE4(l:List Weight)(f0:List UInt8)(f1:Int):Ja l++[.agg [.str f0,.int .i64 f1]]=Ja (l++[⟨f0,f1⟩]):=by rw[YM];rfl
@[go_sem] theorem JnY:∀l:List Weight,AV.flat.flatL (Ja l)=true
 | []=>rfl
 |_ :: r=>by simp only[JbN,AV.flat.flatL,JnY r,JmZ,AV.flat,Bool.and_self]
theorem Jd4(x y:Weight):x=y↔x.cluster=y.cluster∧x.w=y.w:=by cases x;cases y;simp
@[go_sem] theorem Jwf(x:Weight):Weight.mk x.cluster x.w=x:=rfl
@[ext] structure Rule where
 host:List UInt8
 pfx:List UInt8
 split:List Weight
 deriving Inhabited,DecidableEq
instance:Dat Rule where
 av x:=.agg [.str x.host,.str x.pfx,.slice false (Ja x.split)]
 sz:=3
 len _:=rfl
 pure x:=by simp only[go_sem,Bool.and_self]
 nrm x:=by simp only[go_sem]
 one x:=by simp only[go_sem,List.all_cons,List.all_nil,Bool.and_self]
 known x:=rfl
@[go_sem] theorem Jt7(x:Rule):Dat.av x=.agg [.str x.host,.str x.pfx,.slice false (Ja x.split)]:=rfl
@[go_sem] theorem JFs:Dat.sz Rule=3:=rfl
@[go_sem] theorem JED(l:List Rule)(n:Nat)(f0 f1:List UInt8)(f2:List Weight):(Ja l).set n (.agg [.str f0,.str f1,.slice false (Ja f2)])=Ja (l.set n ⟨f0,f1,f2⟩):=Y2 l n (⟨f0,f1,f2⟩:Rule)
@[go_sem] theorem JE0(l:List Rule)(f0 f1:List UInt8)(f2:List Weight):Ja l++[.agg [.str f0,.str f1,.slice false (Ja f2)]]=Ja (l++[⟨f0,f1,f2⟩]):=by rw[YM];rfl
theorem Jh7(x y:Rule):x=y↔x.host=y.host∧x.pfx=y.pfx∧x.split=y.split:=by cases x;cases y;simp
@[go_sem] theorem Jwb(x:Rule):Rule.mk x.host x.pfx x.split=x:=rfl
@[ext] structure Res where
 kind:Int
 name:List UInt8
 ver:Int
 port:Int
 to':List UInt8
 rules':List Rule
 hosts:List Int
 deriving Inhabited,DecidableEq
instance:Dat Res where
 av x:=.agg [.int .i64 x.kind,.str x.name,.int .i64 x.ver,.int .i64 x.port,.str x.to',.slice false (Ja x.rules'),.slice false (Ja x.hosts)]
 sz:=7
 len _:=rfl
 pure x:=by simp only[go_sem,Bool.and_self]
 nrm x:=by simp only[go_sem]
 one x:=by simp only[go_sem,List.all_cons,List.all_nil,Bool.and_self]
 known x:=rfl
@[go_sem] theorem Jt6(x:Res):Dat.av x=.agg [.int .i64 x.kind,.str x.name,.int .i64 x.ver,.int .i64 x.port,.str x.to',.slice false (Ja x.rules'),.slice false (Ja x.hosts)]:=rfl
@[go_sem] theorem JFr:Dat.sz Res=7:=rfl
@[go_sem] theorem JEC(l:List Res)(n:Nat)(f0:Int)(f1:List UInt8)(f2 f3:Int)(f4:List UInt8)(f5:List Rule)(f6:List Int):(Ja l).set n (.agg [.int .i64 f0,.str f1,.int .i64 f2,.int .i64 f3,.str f4,.slice false (Ja f5),.slice false (Ja f6)])=Ja (l.set n ⟨f0,f1,f2,f3,f4,f5,f6⟩):=Y2 l n (⟨f0,f1,f2,f3,f4,f5,f6⟩:Res)
@[go_sem] theorem JEZ(l:List Res)(f0:Int)(f1:List UInt8)(f2 f3:Int)(f4:List UInt8)(f5:List Rule)(f6:List Int):Ja l++[.agg [.int .i64 f0,.str f1,.int .i64 f2,.int .i64 f3,.str f4,.slice false (Ja f5),.slice false (Ja f6)]]=Ja (l++[⟨f0,f1,f2,f3,f4,f5,f6⟩]):=by rw[YM];rfl
@[go_sem] theorem Jwa(x:Res):Res.mk x.kind x.name x.ver x.port x.to' x.rules' x.hosts=x:=rfl
@[ext] structure Cache where
 cap:Int
 l:List Res
 deriving Inhabited,DecidableEq
instance:Dat Cache where
 av x:=.agg [.int .i64 x.cap,.slice false (Ja x.l)]
 sz:=2
 len _:=rfl
 pure x:=by simp only[go_sem,Bool.and_self]
 nrm x:=by simp only[go_sem]
 one x:=by simp only[go_sem,List.all_cons,List.all_nil,Bool.and_self]
 known x:=rfl
@[go_sem] theorem JtY(x:Cache):Dat.av x=.agg [.int .i64 x.cap,.slice false (Ja x.l)]:=rfl
@[go_sem] theorem JFg:Dat.sz Cache=2:=rfl
@[go_sem] theorem Jv0(x:Cache):Cache.mk x.cap x.l=x:=rfl
@[ext] structure Warm where
 c:Cache
 ready:Bool
 shown:List Res
 deriving Inhabited,DecidableEq
instance:Dat Warm where
 av x:=.agg [.int .i64 x.c.cap,.slice false (Ja x.c.l),.bool x.ready,.slice false (Ja x.shown)]
 sz:=4
 len _:=rfl
 pure x:=by simp only[go_sem,Bool.and_self]
 nrm x:=by simp only[go_sem]
 one x:=by simp only[go_sem,List.all_cons,List.all_nil,Bool.and_self]
 known x:=rfl
@[go_sem] theorem Jua(x:Warm):Dat.av x=.agg [.int .i64 x.c.cap,.slice false (Ja x.c.l),.bool x.ready,.slice false (Ja x.shown)]:=rfl
@[go_sem] theorem JFv:Dat.sz Warm=4:=rfl
@[go_sem] theorem Jwe(x:Warm):Warm.mk x.c x.ready x.shown=x:=rfl
@[ext] structure Snap where
 id:Int
 pins:Int
 l:List Res
 deriving Inhabited,DecidableEq
instance:Dat Snap where
 av x:=.agg [.int .i64 x.id,.int .i64 x.pins,.slice false (Ja x.l)]
 sz:=3
 len _:=rfl
 pure x:=by simp only[go_sem,Bool.and_self]
 nrm x:=by simp only[go_sem]
 one x:=by simp only[go_sem,List.all_cons,List.all_nil,Bool.and_self]
 known x:=rfl
@[go_sem] theorem Jt9(x:Snap):Dat.av x=.agg [.int .i64 x.id,.int .i64 x.pins,.slice false (Ja x.l)]:=rfl
@[go_sem] theorem JFu:Dat.sz Snap=3:=rfl
@[go_sem] theorem JEE(l:List Snap)(n:Nat)(f0 f1:Int)(f2:List Res):(Ja l).set n (.agg [.int .i64 f0,.int .i64 f1,.slice false (Ja f2)])=Ja (l.set n ⟨f0,f1,f2⟩):=Y2 l n (⟨f0,f1,f2⟩:Snap)
@[go_sem] theorem JE1(l:List Snap)(f0 f1:Int)(f2:List Res):Ja l++[.agg [.int .i64 f0,.int .i64 f1,.slice false (Ja f2)]]=Ja (l++[⟨f0,f1,f2⟩]):=by rw[YM];rfl
@[go_sem] theorem Jwd(x:Snap):Snap.mk x.id x.pins x.l=x:=rfl
@[ext] structure Pins where
 next':Int
 snaps:List Snap
 deriving Inhabited,DecidableEq
instance:Dat Pins where
 av x:=.agg [.int .i64 x.next',.slice false (Ja x.snaps)]
 sz:=2
 len _:=rfl
 pure x:=by simp only[go_sem,Bool.and_self]
 nrm x:=by simp only[go_sem]
 one x:=by simp only[go_sem,List.all_cons,List.all_nil,Bool.and_self]
 known x:=rfl
@[go_sem] theorem JmY(x:Pins):Dat.av x=.agg [.int .i64 x.next',.slice false (Ja x.snaps)]:=rfl
@[go_sem] theorem JFp:Dat.sz Pins=2:=rfl
@[go_sem] theorem Jv8(x:Pins):Pins.mk x.next' x.snaps=x:=rfl
@[ext] structure Side where
 epoch:Int
 turn:Int
 up:Bool
 in':In
 errs:Four
 w:Warm
 p:Pins
 deriving Inhabited,DecidableEq
instance:Dat Side where
 av x:=.agg [.int .i64 x.epoch,.int .i64 x.turn,.bool x.up,.int .i64 x.in'.last.a0,.int .i64 x.in'.last.a1,.int .i64 x.in'.last.a2,.int .i64 x.in'.last.a3,.int .i64 x.in'.max,.int .i64 x.errs.a0,.int .i64 x.errs.a1,.int .i64 x.errs.a2,.int .i64 x.errs.a3,.int .i64 x.w.c.cap,.slice false (Ja x.w.c.l),.bool x.w.ready,.slice false (Ja x.w.shown),.int .i64 x.p.next',.slice false (Ja x.p.snaps)]
 sz:=18
 len _:=rfl
 pure x:=by simp only[go_sem,Bool.and_self]
 nrm x:=by simp only[go_sem]
 one x:=by simp only[go_sem,List.all_cons,List.all_nil,Bool.and_self]
 known x:=rfl
@[go_sem] theorem Jt8(x:Side):Dat.av x=.agg [.int .i64 x.epoch,.int .i64 x.turn,.bool x.up,.int .i64 x.in'.last.a0,.int .i64 x.in'.last.a1,.int .i64 x.in'.last.a2,.int .i64 x.in'.last.a3,.int .i64 x.in'.max,.int .i64 x.errs.a0,.int .i64 x.errs.a1,.int .i64 x.errs.a2,.int .i64 x.errs.a3,.int .i64 x.w.c.cap,.slice false (Ja x.w.c.l),.bool x.w.ready,.slice false (Ja x.w.shown),.int .i64 x.p.next',.slice false (Ja x.p.snaps)]:=rfl
@[go_sem] theorem JFt:Dat.sz Side=18:=rfl
@[go_sem] theorem Jwc(x:Side):Side.mk x.epoch x.turn x.up x.in' x.errs x.w x.p=x:=rfl
@[ext] structure Key where
 kind:Int
 name:List UInt8
 deriving Inhabited,DecidableEq
instance:Dat Key where
 av x:=.agg [.int .i64 x.kind,.str x.name]
 sz:=2
 len _:=rfl
 pure x:=by simp only[go_sem,Bool.and_self]
 nrm x:=by simp only[go_sem]
 one x:=by simp only[go_sem,List.all_cons,List.all_nil,Bool.and_self]
 known x:=rfl
@[go_sem] theorem Jfz(x:Key):Dat.av x=.agg [.int .i64 x.kind,.str x.name]:=rfl
@[go_sem] theorem JFl:Dat.sz Key=2:=rfl
@[go_sem] theorem JEA(l:List Key)(n:Nat)(f0:Int)(f1:List UInt8):(Ja l).set n (.agg [.int .i64 f0,.str f1])=Ja (l.set n ⟨f0,f1⟩):=Y2 l n (⟨f0,f1⟩:Key)
@[go_sem] theorem JEX(l:List Key)(f0:Int)(f1:List UInt8):Ja l++[.agg [.int .i64 f0,.str f1]]=Ja (l++[⟨f0,f1⟩]):=by rw[YM];rfl
@[go_sem] theorem JnV:∀l:List Key,AV.flat.flatL (Ja l)=true
 | []=>rfl
 |_ :: r=>by simp only[JbN,AV.flat.flatL,JnV r,Jfz,AV.flat,Bool.and_self]
theorem Jaw(x y:Key):x=y↔x.kind=y.kind∧x.name=y.name:=by cases x;cases y;simp
@[go_sem] theorem Jv5(x:Key):Key.mk x.kind x.name=x:=rfl
@[ext] structure Mark where
 k:Key
 ver:Int
 deriving Inhabited,DecidableEq
instance:Dat Mark where
 av x:=.agg [.int .i64 x.k.kind,.str x.k.name,.int .i64 x.ver]
 sz:=3
 len _:=rfl
 pure x:=by simp only[go_sem,Bool.and_self]
 nrm x:=by simp only[go_sem]
 one x:=by simp only[go_sem,List.all_cons,List.all_nil,Bool.and_self]
 known x:=rfl
@[go_sem] theorem JmX(x:Mark):Dat.av x=.agg [.int .i64 x.k.kind,.str x.k.name,.int .i64 x.ver]:=rfl
@[go_sem] theorem JFn:Dat.sz Mark=3:=rfl
@[go_sem] theorem JEB(l:List Mark)(n:Nat)(f0:Key)(f1:Int):(Ja l).set n (.agg [.int .i64 f0.kind,.str f0.name,.int .i64 f1])=Ja (l.set n ⟨f0,f1⟩):=Y2 l n (⟨f0,f1⟩:Mark)
@[go_sem] theorem JEY(l:List Mark)(f0:Key)(f1:Int):Ja l++[.agg [.int .i64 f0.kind,.str f0.name,.int .i64 f1]]=Ja (l++[⟨f0,f1⟩]):=by rw[YM];rfl
@[go_sem] theorem JnW:∀l:List Mark,AV.flat.flatL (Ja l)=true
 | []=>rfl
 |_ :: r=>by simp only[JbN,AV.flat.flatL,JnW r,JmX,AV.flat,Bool.and_self]
theorem Jh6(x y:Mark):x=y↔x.k=y.k∧x.ver=y.ver:=by cases x;cases y;simp
@[go_sem] theorem Jv6(x:Mark):Mark.mk x.k x.ver=x:=rfl
@[ext] structure Frame where
 type:Int
 epoch:Int
 kind:Int
 nonce:Int
 turn:Int
 adds:List Res
 gone:List Key
 err:Int
 have':List Mark
 held:List Key
 deriving Inhabited,DecidableEq
instance:Dat Frame where
 av x:=.agg [.int .i64 x.type,.int .i64 x.epoch,.int .i64 x.kind,.int .i64 x.nonce,.int .i64 x.turn,.slice false (Ja x.adds),.slice false (Ja x.gone),.int .i64 x.err,.slice false (Ja x.have'),.slice false (Ja x.held)]
 sz:=10
 len _:=rfl
 pure x:=by simp only[go_sem,Bool.and_self]
 nrm x:=by simp only[go_sem]
 one x:=by simp only[go_sem,List.all_cons,List.all_nil,Bool.and_self]
 known x:=rfl
@[go_sem] theorem Jt1(x:Frame):Dat.av x=.agg [.int .i64 x.type,.int .i64 x.epoch,.int .i64 x.kind,.int .i64 x.nonce,.int .i64 x.turn,.slice false (Ja x.adds),.slice false (Ja x.gone),.int .i64 x.err,.slice false (Ja x.have'),.slice false (Ja x.held)]:=rfl
@[go_sem] theorem JFj:Dat.sz Frame=10:=rfl
@[go_sem] theorem JEy(l:List Frame)(n:Nat)(f0 f1:Int)(f2 f3 f4:Int)(f5:List Res)(f6:List Key)(f7:Int)(f8:List Mark)(f9:List Key):(Ja l).set n (.agg [.int .i64 f0,.int .i64 f1,.int .i64 f2,.int .i64 f3,.int .i64 f4,.slice false (Ja f5),.slice false (Ja f6),.int .i64 f7,.slice false (Ja f8),.slice false (Ja f9)])=Ja (l.set n ⟨f0,f1,f2,f3,f4,f5,f6,f7,f8,f9⟩):=Y2 l n (⟨f0,f1,f2,f3,f4,f5,f6,f7,f8,f9⟩:Frame)
@[go_sem] theorem JEV(l:List Frame)(f0 f1:Int)(f2 f3 f4:Int)(f5:List Res)(f6:List Key)(f7:Int)(f8:List Mark)(f9:List Key):Ja l++[.agg [.int .i64 f0,.int .i64 f1,.int .i64 f2,.int .i64 f3,.int .i64 f4,.slice false (Ja f5),.slice false (Ja f6),.int .i64 f7,.slice false (Ja f8),.slice false (Ja f9)]]=Ja (l++[⟨f0,f1,f2,f3,f4,f5,f6,f7,f8,f9⟩]):=by rw[YM];rfl
theorem JnJ(x y:Frame):x=y↔x.type=y.type∧x.epoch=y.epoch∧x.kind=y.kind∧x.nonce=y.nonce∧x.turn=y.turn∧x.adds=y.adds∧x.gone=y.gone∧x.err=y.err∧x.have'=y.have'∧x.held=y.held:=by cases x;cases y;simp
@[go_sem] theorem Jv3(x:Frame):Frame.mk x.type x.epoch x.kind x.nonce x.turn x.adds x.gone x.err x.have' x.held=x:=rfl
@[ext] structure Work where
 req:Req
 side:Side
 told:List Frame
 deriving Inhabited,DecidableEq
instance:Dat Work where
 av x:=.agg [.int .i64 x.req.a.port,.str x.req.a.host,.str x.req.a.path,.int .i64 x.req.a.first,.int .i64 x.req.a.other,.int .i64 x.req.stage,.int .i64 x.req.id,.str x.req.route,.str x.req.cluster,.int .i64 x.req.out.what,.str x.req.out.cluster,.int .i64 x.req.out.host,.int .i64 x.side.epoch,.int .i64 x.side.turn,.bool x.side.up,.int .i64 x.side.in'.last.a0,.int .i64 x.side.in'.last.a1,.int .i64 x.side.in'.last.a2,.int .i64 x.side.in'.last.a3,.int .i64 x.side.in'.max,.int .i64 x.side.errs.a0,.int .i64 x.side.errs.a1,.int .i64 x.side.errs.a2,.int .i64 x.side.errs.a3,.int .i64 x.side.w.c.cap,.slice false (Ja x.side.w.c.l),.bool x.side.w.ready,.slice false (Ja x.side.w.shown),.int .i64 x.side.p.next',.slice false (Ja x.side.p.snaps),.slice false (Ja x.told)]
 sz:=31
 len _:=rfl
 pure x:=by simp only[go_sem,Bool.and_self]
 nrm x:=by simp only[go_sem]
 one x:=by simp only[go_sem,List.all_cons,List.all_nil,Bool.and_self]
 known x:=rfl
@[go_sem] theorem Jub(x:Work):Dat.av x=.agg [.int .i64 x.req.a.port,.str x.req.a.host,.str x.req.a.path,.int .i64 x.req.a.first,.int .i64 x.req.a.other,.int .i64 x.req.stage,.int .i64 x.req.id,.str x.req.route,.str x.req.cluster,.int .i64 x.req.out.what,.str x.req.out.cluster,.int .i64 x.req.out.host,.int .i64 x.side.epoch,.int .i64 x.side.turn,.bool x.side.up,.int .i64 x.side.in'.last.a0,.int .i64 x.side.in'.last.a1,.int .i64 x.side.in'.last.a2,.int .i64 x.side.in'.last.a3,.int .i64 x.side.in'.max,.int .i64 x.side.errs.a0,.int .i64 x.side.errs.a1,.int .i64 x.side.errs.a2,.int .i64 x.side.errs.a3,.int .i64 x.side.w.c.cap,.slice false (Ja x.side.w.c.l),.bool x.side.w.ready,.slice false (Ja x.side.w.shown),.int .i64 x.side.p.next',.slice false (Ja x.side.p.snaps),.slice false (Ja x.told)]:=rfl
@[go_sem] theorem JFx:Dat.sz Work=31:=rfl
@[go_sem] theorem Jwg(x:Work):Work.mk x.req x.side x.told=x:=rfl
@[ext] structure Flags where
 a0:Bool
 a1:Bool
 a2:Bool
 a3:Bool
 deriving Inhabited,DecidableEq
instance:Dat Flags where
 av x:=.agg [.bool x.a0,.bool x.a1,.bool x.a2,.bool x.a3]
 sz:=4
 len _:=rfl
 pure x:=by simp only[go_sem,Bool.and_self]
 nrm x:=by simp only[go_sem]
 one x:=by simp only[go_sem,List.all_cons,List.all_nil,Bool.and_self]
 known x:=rfl
@[go_sem] theorem JtZ(x:Flags):Dat.av x=.agg [.bool x.a0,.bool x.a1,.bool x.a2,.bool x.a3]:=rfl
@[go_sem] theorem JFh:Dat.sz Flags=4:=rfl
@[go_sem] theorem Jv1(x:Flags):Flags.mk x.a0 x.a1 x.a2 x.a3=x:=rfl
@[ext] structure Out where
 last:Four
 open':Flags
 max:Int
 deriving Inhabited,DecidableEq
instance:Dat Out where
 av x:=.agg [.int .i64 x.last.a0,.int .i64 x.last.a1,.int .i64 x.last.a2,.int .i64 x.last.a3,.bool x.open'.a0,.bool x.open'.a1,.bool x.open'.a2,.bool x.open'.a3,.int .i64 x.max]
 sz:=9
 len _:=rfl
 pure x:=by simp only[go_sem,Bool.and_self]
 nrm x:=by simp only[go_sem]
 one x:=by simp only[go_sem,List.all_cons,List.all_nil,Bool.and_self]
 known x:=rfl
@[go_sem] theorem Jt4(x:Out):Dat.av x=.agg [.int .i64 x.last.a0,.int .i64 x.last.a1,.int .i64 x.last.a2,.int .i64 x.last.a3,.bool x.open'.a0,.bool x.open'.a1,.bool x.open'.a2,.bool x.open'.a3,.int .i64 x.max]:=rfl
@[go_sem] theorem JFo:Dat.sz Out=9:=rfl
@[go_sem] theorem Jv7(x:Out):Out.mk x.last x.open' x.max=x:=rfl
def JmI(x:Ask):Prop:=Jc x.host.length∧Jc x.path.length
def JdI(x:Four):Prop:=True
def Jhb(x:In):Prop:=JdI x.last
def JdK(x:Weight):Prop:=Jc x.cluster.length
def VR(x:Rule):Prop:=Jc x.host.length∧Jc x.pfx.length∧Jc x.split.length∧(∀y∈x.split,JdK y)
def Jy(x:Res):Prop:=Jc x.name.length∧Jc x.to'.length∧Jc x.rules'.length∧(∀y∈x.rules',VR y)∧Jc x.hosts.length
def Jha(x:Cache):Prop:=Jc x.l.length∧(∀y∈x.l,Jy y)
def JaY(x:Warm):Prop:=Jha x.c∧Jc x.shown.length∧(∀y∈x.shown,Jy y)
def Yp(x:Snap):Prop:=Jc x.l.length∧(∀y∈x.l,Jy y)
def Jhc(x:Pins):Prop:=Jc x.snaps.length∧(∀y∈x.snaps,Yp y)
def JmJ(x:Side):Prop:=Jhb x.in'∧JdI x.errs∧JaY x.w∧Jhc x.p
def JaX(x:Key):Prop:=Jc x.name.length
def JdJ(x:Mark):Prop:=JaX x.k
def V4(x:Frame):Prop:=Jc x.adds.length∧(∀y∈x.adds,Jy y)∧Jc x.gone.length∧(∀y∈x.gone,JaX y)∧Jc x.have'.length∧(∀y∈x.have',JdJ y)∧Jc x.held.length∧(∀y∈x.held,JaX y)
end Go.Proofs.YthjalhfmpffbjaaGreatDoor.Lg
