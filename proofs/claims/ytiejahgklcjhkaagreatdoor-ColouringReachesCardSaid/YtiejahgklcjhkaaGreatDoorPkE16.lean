/- Lemmas, joined: ScKc KcA SiC SiD SiE SiF SiG Run Nb Loc. -/
import Derived.Test.YtiejahgklcjhkaaGreatDoorPkE11
import Derived.Test.YtiejahgklcjhkaaGreatDoorPkE12
import Derived.Test.YtiejahgklcjhkaaGreatDoorPkE15
import Derived.Test.YtiejahgklcjhkaaGreatDoorPkE13
import Derived.Lib.TrailingZeros
import Derived.Test.YtiejahgklcjhkaaGreatDoorPkE14
set_option linter.unusedSimpArgs false
set_option linter.unusedVariables false
namespace Go.Proofs.YtiejahgklcjhkaaGreatDoor
namespace Sh
open Go Ev
def ydbi:LO:=[o3 (.mv (.const (.string (ByteArray.mk #[])))) 0 0]
def ydax:LO:=[o3 (.mv (.const (.string (ByteArray.mk #[112,114,111,103,114,97,109,32,99,111,108,111,117,114,105,110,103,59,10,118,97,114,32,99,32,58,32,48,32,46,46,32,110,59,10,114,117,108,101,32,102,105,120,58,32,115,111,109,101,40,113,46,99,32,61,61,32,99,41,32,45,62,32,99,32,58,61,32,109,101,120,40,113,46,99,41,59,10])))) 0 0]
def c54:SC:=(.seq (.reg false ydbi) (.seq (.reg false ydax) .ret))
theorem ydbr:Fn 54 c54 [.t 0]:=fn_0 Tryz.func54 (by kernel_rfl) (by kernel_rfl)
def ycfu:LO:=[o3 (.box 27 (.tmp 0)) 1 0,o3 (.mv (.const (.bool false))) 2 0]
def ycck:LO:=[ld' true 2 1 3 0,cl' 96 [3] 4 1,mv' 4 2 3]
def c114:SC:=(.seq (.reg false ycfu) (.seq (.reg false ycck) .ret))
theorem ycxb:Fn 114 c114 [.t 2]:=fn_0 Tryz.func114 (by kernel_rfl) (by kernel_rfl)
def ybnx:LO:=[o3 (.box 27 (.tmp 0)) 2 0,o3 (.mv (.const (.bool false))) 4 0]
def ybmv:LO:=[ld' true 2 2 5 0,cl' 114 [5] 6 1,mv' 6 7 3,⟨.load true 2 (.tmp 2),some 8,some (7,true),7⟩,⟨.mv (.tmp 1),some 9,some (7,true),7⟩,⟨.faddr 0 1 (.tmp 2),some 10,some (7,true),7⟩,⟨.load false 1 (.tmp 10),some 11,some (7,true),39⟩,⟨.len (.tmp 11),some 12,some (7,true),103⟩,⟨.bslice 3 1 1 [.i .i64 0] [(0,1,(.tmp 12))],some 13,some (7,true),231⟩,⟨.call (.func 102) [(.tmp 8),(.tmp 9),(.tmp 13)],some 14,some (7,true),511⟩,o3 (.pick (.tmp 7) (.tmp 14) (.const (.bool false))) 15 1023,mv' 15 4 2047]
def c106:SC:=(.seq (.reg false ybnx) (.seq (.reg false ybmv) .ret))
theorem ycuc:Fn 106 c106 [.t 4]:=fn_0 Tryz.func106 (by kernel_rfl) (by kernel_rfl)
def yccm:LO:=[o3 (.box 27 (.tmp 0)) 2 0,o3 (.box 34 (.tmp 1)) 3 0,o3 (.mv (.const (.int .u32 0))) 4 0]
def ycls:LO:=[o3 (.alloc 40 1 [.i .u32 0]) 5 0,o0 (.store 1 (.tmp 5) (.const (.int .u32 0))) 1]
def yccn:LO:=[ld' true 2 2 8 0,cl' 120 [8] 9 1]
def ybmt:LO:=[mv' 10 6 0]
def ybsm:LO:=[o3 (.alloc 95 1 [.i .i64 0,.i .i64 0]) 7 0,o0 (.store 2 (.tmp 7) (.tmp 11)) 1]
def ybtb:LO:=[ld' false 1 3 12 0,mv' 6 13 0,ix' 1 12 13 14 3,ld' false 1 14 15 7,o3 (.idx 1 (.tmp 15) (ci' 0)) 16 15,ld' false 1 16 17 31,ld' false 1 3 18 0,fa' 0 1 7 19 0,ld' false 1 19 20 128,ix' 1 18 20 21 448,ld' false 1 21 22 960,o3 (.idx 1 (.tmp 22) (ci' 0)) 23 1984,ld' false 1 23 24 4032,bn' .eql 17 24 25 8191]
def ybst:LO:=[ld' false 1 5 26 0,mv' 6 27 0,o3 (.bin .shl (.const (.int .u32 1)) (.tmp 27)) 28 2,bn' .or 26 28 29 7,o0 (.store 1 (.tmp 5) (.tmp 29)) 15]
def ycnx:LO:=[ld' false 1 5 30 0,mv' 30 4 1]
def c107:SC:=(.seq (.reg false yccm) (.seq (.reg false ycls) (.seq (.seq (.reg false yccn) (.block 0 (.range (.tmp 9) [10,11] (.seq (.reg false ybmt) (.reg false ybsm)) (.block 1 (.seq (.reg true ybtb) (.cond (.tmp 25) (.reg true ybst) .skip)))))) (.seq (.reg false ycnx) .ret))))
theorem ycuo:Fn 107 c107 [.t 4]:=fn_0 Tryz.func107 (by kernel_rfl) (by kernel_rfl)
def ycqw:LO:=[o3 (.box 27 (.tmp 0)) 2 0,o3 (.mv (.const (.int .u32 0))) 4 0]
def ycro:LO:=[ld' true 2 2 5 0,mv' 1 6 0,cl' 106 [5,6] 7 3,o3 (.un .not (.tmp 7)) 8 7]
def ydcm:LO:=[o3 (.mv (.const (.int .u32 0))) 4 0]
def ydcf:LO:=[ld' true 2 2 9 0,mv' 1 10 0,cl' 107 [9,10] 11 3,mv' 11 4 7]
def c50:SC:=(.seq (.reg false ycqw) (.seq (.seq (.reg false ycro) (.cond (.tmp 8) (.seq (.reg false ydcm) .ret) .skip)) (.seq (.reg false ydcf) .ret)))
theorem yczp:Fn 50 c50 [.t 4]:=fn_0 Tryz.func50 (by kernel_rfl) (by kernel_rfl)
def ycrh:LO:=[o3 (.box 27 (.tmp 0)) 2 0,o3 (.mv (.const (.bool false))) 4 0]
def ycwu:LO:=[ld' true 2 2 5 0,mv' 1 6 0,cl' 106 [5,6] 7 3,mv' 7 8 7,⟨.load true 2 (.tmp 2),some 9,some (8,true),15⟩,⟨.mv (.tmp 1),some 10,some (8,true),15⟩,⟨.call (.func 107) [(.tmp 9),(.tmp 10)],some 11,some (8,true),63⟩,⟨.bin .eql (.tmp 11) (.const (.int .u32 0)),some 12,some (8,true),127⟩,o3 (.pick (.tmp 8) (.tmp 12) (.const (.bool false))) 13 255,mv' 13 4 511]
def c58:SC:=(.seq (.reg false ycrh) (.seq (.reg false ycwu) .ret))
theorem ycyj:Fn 58 c58 [.t 4]:=fn_0 Tryz.func58 (by kernel_rfl) (by kernel_rfl)
def ycvt:LO:=[o3 (.box 27 (.tmp 0)) 1 0,o3 (.alloc 51 1 [.i .i64 0,.b false,.b false,.i .i64 0,.i .i64 0]) 2 0]
def ycwn:LO:=[ld' true 2 1 3 0,cl' 114 [3] 4 1,o3 (.un .not (.tmp 4)) 5 3]
def ydei:LO:=[o3 (.build [.i .i64 0,.b false,.b false,.i .i64 0,.i .i64 0] []) 6 0,o0 (.store 5 (.tmp 2) (.tmp 6)) 1]
def ydbj:LO:=[fa' 0 1 1 7 0,ld' false 1 7 8 1,ln' 8 9 3,o3 (.build [.i .i64 0,.b false,.b false,.i .i64 0,.i .i64 0] [(0,1,(ci' 2)),(2,1,(.const (.bool true))),(3,1,(ci' 1)),(4,1,(.tmp 9))]) 10 7,o0 (.store 5 (.tmp 2) (.tmp 10)) 15]
def c56:SC:=(.seq (.reg false ycvt) (.seq (.seq (.reg false ycwn) (.cond (.tmp 5) (.seq (.reg false ydei) .ret) .skip)) (.seq (.reg false ydbj) .ret)))
theorem ydck:Fn 56 c56 [.c 2 true 5]:=fn_0 Tryz.func56 (by kernel_rfl) (by kernel_rfl)
def ydcg:LO:=[o3 (.mv (.const (.slice none 0 0))) 0 0]
def ydgc:LO:=[o3 (.call (.func 79) [(.const (.string (ByteArray.mk #[99]))),(ci' 0),(ci' 1),(ci' 0)]) 1 0,o3 (.bslice 87 6 1 [.a (.string (ByteArray.mk #[])),.i .i64 0,.i .i64 0,.i .i64 0,.i .i64 0,.i .i64 0] [(0,6,(.tmp 1))]) 2 1,mv' 2 0 3]
def c49:SC:=(.seq (.reg false ydcg) (.seq (.reg false ydgc) .ret))
theorem yczb:Fn 49 c49 [.t 0]:=fn_0 Tryz.func49 (by kernel_rfl) (by kernel_rfl)
def ycdh:LO:=[o3 (.box 27 (.tmp 0)) 1 0,o3 (.mv (.const (.bool false))) 2 0]
def ycbc:LO:=[ld' true 2 1 3 0,cl' 85 [3] 4 1,mv' 4 2 3]
def c115:SC:=(.seq (.reg false ycdh) (.seq (.reg false ycbc) .ret))
theorem ycuv:Fn 115 c115 [.t 2]:=fn_0 Tryz.func115 (by kernel_rfl) (by kernel_rfl)
def ycra:LO:=[o3 (.box 27 (.tmp 0)) 1 0,o3 (.alloc 51 1 [.i .i64 0,.b false,.b false,.i .i64 0,.i .i64 0]) 2 0]
def ycun:LO:=[ld' true 2 1 3 0,cl' 115 [3] 4 1,o3 (.un .not (.tmp 4)) 5 3]
def ydfu:LO:=[o3 (.build [.i .i64 0,.b false,.b false,.i .i64 0,.i .i64 0] []) 6 0,o0 (.store 5 (.tmp 2) (.tmp 6)) 1]
def yddk:LO:=[fa' 1 1 1 7 0,ld' false 1 7 8 1,ln' 8 9 3,o3 (.build [.i .i64 0,.b false,.b false,.i .i64 0,.i .i64 0] [(0,1,(ci' 2)),(2,1,(.const (.bool true))),(3,1,(ci' 1)),(4,1,(.tmp 9))]) 10 7,o0 (.store 5 (.tmp 2) (.tmp 10)) 15]
def c57:SC:=(.seq (.reg false ycra) (.seq (.seq (.reg false ycun) (.cond (.tmp 5) (.seq (.reg false ydfu) .ret) .skip)) (.seq (.reg false yddk) .ret)))
theorem yddv:Fn 57 c57 [.c 2 true 5]:=fn_0 Tryz.func57 (by kernel_rfl) (by kernel_rfl)
def ycxo:LO:=[o3 (.box 24 (.tmp 0)) 3 0,o3 (.mv (.const (.bool false))) 6 0]
def yddb:LO:=[ld' true 6 3 14 0,o3 (.call (.func 48) [(.tmp 14),(ci' 9)]) 15 1,o3 (.alloc 27 1 [.a (.slice none 0 0),.a (.slice none 0 0)]) 7 0,o0 (.store 2 (.tmp 7) (.tmp 15)) 7]
def ydfl:LO:=[ld' true 2 7 16 0,cl' 49 [] 17 0,mv' 1 18 0,cl' 24 [16,17,18] 19 7,mv' 19 8 15]
def yddt:LO:=[ld' true 2 7 20 0,mv' 8 21 0,cl' 50 [20,21] 22 3,mv' 22 9 7]
def ycub:LO:=[mv' 9 23 0,o3 (.bin .eql (.tmp 23) (.const (.int .u32 0))) 24 1]
def ydce:LO:=[cl' 51 [] 25 0,mv' 25 6 1]
def ydbb:LO:=[ld' true 2 7 26 0,mv' 9 27 0,mv' 2 28 0,o3 (.call (.func 52) [(.tmp 26),(ci' 2),(.tmp 27),(.tmp 28)]) 29 7,mv' 29 10 15]
def yczj:LO:=[cl' 54 [] 31 0,cl' 37 [31] 32 1,ld' true 2 7 33 0,mv' 8 34 0,mv' 10 35 0,cl' 53 [32,33,34,35] 36 31,mv' 36 30 63,xt' 30 0 37 127,xt' 30 1 38 127,mv' 37 11 255,mv' 38 12 1023]
def ydga:LO:=[mv' 12 39 0,o3 (.bin .neq (.tmp 39) (ci' 0)) 40 1,mv' 40 41 3,⟨.mv (.tmp 11),some 42,some (41,false),7⟩,⟨.len (.tmp 42),some 43,some (41,false),15⟩,⟨.mv (.tmp 8),some 44,some (41,false),7⟩,⟨.len (.tmp 44),some 45,some (41,false),39⟩,⟨.bin .neq (.tmp 43) (.tmp 45),some 46,some (41,false),127⟩,o3 (.pick (.tmp 41) (.const (.bool true)) (.tmp 46)) 47 255,mv' 47 48 511,⟨.mv (.tmp 10),some 49,some (48,false),1023⟩,⟨.bin .eql (.tmp 49) (.const (.int .u32 0)),some 50,some (48,false),2047⟩,o3 (.pick (.tmp 48) (.const (.bool true)) (.tmp 50)) 51 4095]
def ydgs:LO:=[o3 (.mv (.const (.bool false))) 6 0]
def ycjo:LO:=[o3 (.mv (ci' 0)) 13 0]
def ybfb:LO:=[mv' 13 52 0,mv' 8 53 0,ln' 53 54 2,bn' .lss 52 54 55 7]
def ybla:LO:=[mv' 10 58 0,mv' 13 59 0,cl' 55 [58,59] 60 3,mv' 60 61 7,⟨.mv (.tmp 11),some 62,some (61,true),15⟩,⟨.mv (.tmp 13),some 63,some (61,true),15⟩,⟨.idx 1 (.tmp 62) (.tmp 63),some 64,some (61,true),63⟩,⟨.load false 1 (.tmp 64),some 65,some (61,true),127⟩,⟨.len (.tmp 65),some 66,some (61,true),255⟩,⟨.bin .neq (.tmp 66) (ci' 1),some 67,some (61,true),511⟩,⟨.mv (.tmp 67),some 68,some (61,true),1023⟩,⟨.mv (.tmp 11),some 69,some (68,false),2047⟩,⟨.mv (.tmp 13),some 70,some (68,false),2047⟩,⟨.idx 1 (.tmp 69) (.tmp 70),some 71,some (68,false),8191⟩,⟨.load false 1 (.tmp 71),some 72,some (68,false),16383⟩,⟨.idx 1 (.tmp 72) (ci' 0),some 73,some (68,false),32767⟩,⟨.load false 1 (.tmp 73),some 74,some (68,false),65535⟩,⟨.bin .lss (.tmp 74) (ci' 0),some 75,some (68,false),131071⟩,⟨.pick (.tmp 68) (.const (.bool true)) (.tmp 75),some 76,some (61,true),262143⟩,⟨.mv (.tmp 76),some 77,some (61,true),524287⟩,⟨.mv (.tmp 11),some 78,some (77,false),1048575⟩,⟨.mv (.tmp 13),some 79,some (77,false),1048575⟩,⟨.idx 1 (.tmp 78) (.tmp 79),some 80,some (77,false),4194303⟩,⟨.load false 1 (.tmp 80),some 81,some (77,false),8388607⟩,⟨.idx 1 (.tmp 81) (ci' 0),some 82,some (77,false),16777215⟩,⟨.load false 1 (.tmp 82),some 83,some (77,false),33554431⟩,⟨.faddr 1 1 (.tmp 7),some 84,some (77,false),1048575⟩,⟨.load false 1 (.tmp 84),some 85,some (77,false),68157439⟩,⟨.mv (.tmp 13),some 86,some (77,false),1048575⟩,⟨.idx 1 (.tmp 85) (.tmp 86),some 87,some (77,false),470810623⟩,⟨.load false 1 (.tmp 87),some 88,some (77,false),1007681535⟩,⟨.len (.tmp 88),some 89,some (77,false),2081423359⟩,⟨.bin .gtr (.tmp 83) (.tmp 89),some 90,some (77,false),4294967295⟩,⟨.pick (.tmp 77) (.const (.bool true)) (.tmp 90),some 91,some (61,true),8589934591⟩,o3 (.pick (.tmp 61) (.tmp 91) (.const (.bool false))) 92 17179869183]
def ydau:LO:=[o3 (.mv (.const (.bool false))) 6 0]
def ybpq:LO:=[mv' 13 56 0,o3 (.bin .add (.tmp 56) (ci' 1)) 57 1,mv' 57 13 3]
def ycod:LO:=[cl' 51 [] 93 0,mv' 93 94 1,⟨.load true 2 (.tmp 7),some 95,some (94,true),3⟩,⟨.mv (.tmp 11),some 96,some (94,true),3⟩,⟨.call (.func 50) [(.tmp 95),(.tmp 96)],some 97,some (94,true),15⟩,⟨.mv (.tmp 9),some 98,some (94,true),3⟩,⟨.bin .andNot (.tmp 97) (.tmp 98),some 99,some (94,true),63⟩,⟨.bin .eql (.tmp 99) (.const (.int .u32 0)),some 100,some (94,true),127⟩,o3 (.pick (.tmp 94) (.tmp 100) (.const (.bool false))) 101 255,mv' 101 102 511,⟨.load true 2 (.tmp 7),some 103,some (102,true),1023⟩,⟨.mv (.tmp 11),some 104,some (102,true),1023⟩,⟨.call (.func 50) [(.tmp 103),(.tmp 104)],some 105,some (102,true),4095⟩,⟨.mv (.tmp 10),some 106,some (102,true),1023⟩,⟨.bin .and (.tmp 105) (.tmp 106),some 107,some (102,true),16383⟩,⟨.bin .eql (.tmp 107) (.const (.int .u32 0)),some 108,some (102,true),32767⟩,o3 (.pick (.tmp 102) (.tmp 108) (.const (.bool false))) 109 65535,mv' 109 6 131071]
def c12:SC:=(.seq (.reg false ycxo) (.seq (.reg false yddb) (.seq (.reg true ydfl) (.seq (.reg false yddt) (.seq (.seq (.reg false ycub) (.cond (.tmp 24) (.seq (.reg false ydce) .ret) .skip)) (.seq (.reg false ydbb) (.seq (.reg true yczj) (.seq (.seq (.reg false ydga) (.cond (.tmp 51) (.seq (.reg false ydgs) .ret) .skip)) (.seq (.seq (.reg false ycjo) (.block 0 (.loop (.seq (.seq (.reg false ybfb) (.cond (.tmp 55) .skip (.exit 0))) (.seq (.block 1 (.seq (.reg true ybla) (.cond (.tmp 92) (.seq (.reg false ydau) .ret) .skip))) (.reg false ybpq)))))) (.seq (.reg false ycod) .ret))))))))))
theorem ycyg:Fn 12 c12 [.t 6]:=fn_0 Tryz.func12 (by kernel_rfl) (by kernel_rfl)
def ydfe:LO:=[o3 (.box 24 (.tmp 0)) 3 0,o3 (.mv (.const (.bool false))) 6 0]
def yczi:LO:=[ld' true 6 3 15 0,o3 (.call (.func 48) [(.tmp 15),(ci' 9)]) 16 1,o3 (.alloc 27 1 [.a (.slice none 0 0),.a (.slice none 0 0)]) 7 0,o0 (.store 2 (.tmp 7) (.tmp 16)) 7]
def yczz:LO:=[ld' true 2 7 17 0,cl' 49 [] 18 0,mv' 1 19 0,cl' 24 [17,18,19] 20 7,mv' 20 8 15]
def yczl:LO:=[cl' 54 [] 22 0,ld' true 2 7 23 0,ld' true 2 7 24 0,cl' 56 [24] 25 5,o3 (.field false 0 1 (.tmp 25)) 26 13,mv' 8 27 0,mv' 2 28 0,o3 (.call (.func 26) [(.tmp 28),(ci' 120)]) 29 77,cl' 22 [22,23,26,27,29] 30 255,mv' 30 21 511,xt' 21 0 31 1023,xt' 21 1 32 1023,xt' 21 2 33 1023,mv' 31 9 2047,mv' 32 10 12287,mv' 33 11 32767]
def ycyh:LO:=[mv' 11 34 0,o3 (.un .not (.tmp 34)) 35 1,mv' 35 36 3,⟨.load true 2 (.tmp 7),some 37,some (36,false),7⟩,⟨.call (.func 56) [(.tmp 37)],some 38,some (36,false),15⟩,⟨.load true 2 (.tmp 7),some 39,some (36,false),7⟩,⟨.call (.func 57) [(.tmp 39)],some 40,some (36,false),63⟩,⟨.seq true [false,true,true,false,false] (.tmp 38) (.tmp 40),some 41,some (36,false),127⟩,o3 (.pick (.tmp 36) (.const (.bool true)) (.tmp 41)) 42 255]
def ydgp:LO:=[o3 (.mv (.const (.bool false))) 6 0]
def ydao:LO:=[o3 (.mv (.const (.slice none 0 0))) 12 0]
def ycxm:LO:=[o3 (.mv (ci' 0)) 13 0]
def ycrq:LO:=[mv' 13 43 0,mv' 9 44 0,ln' 44 45 2,bn' .lss 43 45 46 7]
def ycea:LO:=[mv' 12 49 0,ld' true 2 7 50 0,mv' 9 51 0,mv' 13 52 0,ix' 1 51 52 53 12,ld' false 1 53 54 28,cl' 58 [50,54] 55 62,o3 (.bslice 4 1 1 [.b false] [(0,1,(.tmp 55))]) 56 126,o3 (.app 4 1 1 (.tmp 49) (.tmp 56)) 57 255,mv' 57 12 511]
def ycya:LO:=[mv' 13 47 0,o3 (.bin .add (.tmp 47) (ci' 1)) 48 1,mv' 48 13 3]
def yccb:LO:=[cl' 54 [] 58 0,cl' 37 [58] 59 1,ld' true 2 7 60 0,mv' 9 61 0,mv' 9 62 0,ln' 62 63 16,o3 (.bin .sub (.tmp 63) (ci' 1)) 64 48,ix' 1 61 64 65 120,ld' false 1 65 66 248,cl' 36 [59,60,66] 67 511,o3 (.bin .eql (.tmp 67) (.const (.int .u32 0))) 68 1023,mv' 68 14 2047]
def ycpu:LO:=[cl' 51 [] 69 0,mv' 69 70 1,⟨.mv (.tmp 12),some 71,some (70,true),3⟩,⟨.mv (.tmp 10),some 72,some (70,true),3⟩,⟨.load true 2 (.tmp 7),some 73,some (70,true),3⟩,⟨.call (.func 56) [(.tmp 73)],some 74,some (70,true),19⟩,⟨.mv (.tmp 14),some 75,some (70,true),3⟩,⟨.call (.func 38) [(.tmp 71),(.tmp 72),(.tmp 74),(.tmp 75)],some 76,some (70,true),127⟩,o3 (.pick (.tmp 70) (.tmp 76) (.const (.bool false))) 77 255,mv' 77 6 511]
def c13:SC:=(.seq (.reg false ydfe) (.seq (.reg false yczi) (.seq (.reg true yczz) (.seq (.reg true yczl) (.seq (.seq (.reg true ycyh) (.cond (.tmp 42) (.seq (.reg false ydgp) .ret) .skip)) (.seq (.reg false ydao) (.seq (.seq (.reg false ycxm) (.block 0 (.loop (.seq (.seq (.reg false ycrq) (.cond (.tmp 46) .skip (.exit 0))) (.seq (.block 1 (.reg true ycea)) (.reg false ycya)))))) (.seq (.reg true yccb) (.seq (.reg false ycpu) .ret)))))))))
theorem ydfp:Fn 13 c13 [.t 6]:=fn_0 Tryz.func13 (by kernel_rfl) (by kernel_rfl)
def ydbf:LO:=[o3 (.box 24 (.tmp 0)) 3 0,o3 (.mv (.const (.bool false))) 6 0]
def ydgh:LO:=[ld' true 6 3 13 0,o3 (.call (.func 48) [(.tmp 13),(ci' 9)]) 14 1,o3 (.alloc 27 1 [.a (.slice none 0 0),.a (.slice none 0 0)]) 7 0,o0 (.store 2 (.tmp 7) (.tmp 14)) 7]
def ydch:LO:=[cl' 54 [] 15 0,cl' 37 [15] 16 1,o3 (.alloc 58 1 [.a (.string (ByteArray.mk #[])),.a (.slice none 0 0),.a (.slice none 0 0)]) 8 0,o0 (.store 3 (.tmp 8) (.tmp 16)) 7]
def ycxz:LO:=[cl' 54 [] 18 0,ld' true 2 7 19 0,ld' true 2 7 20 0,cl' 56 [20] 21 5,o3 (.field false 0 1 (.tmp 21)) 22 13,ld' true 2 7 23 0,cl' 49 [] 24 13,mv' 1 25 0,cl' 24 [23,24,25] 26 237,mv' 2 27 0,o3 (.call (.func 26) [(.tmp 27),(ci' 60)]) 28 1005,cl' 22 [18,19,22,26,28] 29 2047,mv' 29 17 4095,xt' 17 0 30 8191,xt' 17 1 31 8191,xt' 17 2 32 8191,mv' 30 9 16383,mv' 31 10 98303,mv' 32 11 262143]
def yddf:LO:=[o3 (.mv (ci' 0)) 12 0]
def ycvp:LO:=[mv' 12 33 0,mv' 9 34 0,ln' 34 35 2,bn' .lss 33 35 36 7]
def ycxt:LO:=[ld' true 3 8 39 0,ld' true 2 7 40 0,mv' 9 41 0,mv' 12 42 0,ix' 1 41 42 43 12,ld' false 1 43 44 28,cl' 36 [39,40,44] 45 63,o3 (.bin .eql (.tmp 45) (.const (.int .u32 0))) 46 127,ld' true 2 7 47 0,mv' 9 48 0,mv' 12 49 0,ix' 1 48 49 50 1536,ld' false 1 50 51 3584,cl' 58 [47,51] 52 8063,o3 (.beq true (.tmp 46) (.tmp 52)) 53 16383]
def ydgk:LO:=[o3 (.mv (.const (.bool false))) 6 0]
def ydep:LO:=[mv' 12 37 0,o3 (.bin .add (.tmp 37) (ci' 1)) 38 1,mv' 38 12 3]
def yczc:LO:=[cl' 51 [] 54 0,mv' 54 55 1,⟨.mv (.tmp 11),some 56,some (55,true),3⟩,o3 (.pick (.tmp 55) (.tmp 56) (.const (.bool false))) 57 7,mv' 57 6 15]
def c14:SC:=(.seq (.reg false ydbf) (.seq (.reg false ydgh) (.seq (.reg false ydch) (.seq (.reg true ycxz) (.seq (.seq (.reg false yddf) (.block 0 (.loop (.seq (.seq (.reg false ycvp) (.cond (.tmp 36) .skip (.exit 0))) (.seq (.block 1 (.seq (.reg true ycxt) (.cond (.tmp 53) (.seq (.reg false ydgk) .ret) .skip))) (.reg false ydep)))))) (.seq (.reg false yczc) .ret))))))
theorem ycxk:Fn 14 c14 [.t 6]:=fn_0 Tryz.func14 (by kernel_rfl) (by kernel_rfl)
end Sh
end Go.Proofs.YtiejahgklcjhkaaGreatDoor

namespace Go.Proofs.YtiejahgklcjhkaaGreatDoor
open Go
def yga(g:Gr)(c:Conf):Bool:=yci g && yph g.ports.length (ycy g [(g.ids.length:Int)]) c
def kcEl(c:Conf)(s:Nat)(e:Ev.El):Nat:=if yfn c e.v=yfn c e.a.toNat then s ||| 2 ^ e.v else s
def kcTo(g:Gr)(c:Conf)(k:Nat):Nat:=((Ev.flatAt 0 g.ports).take k).foldl (kcEl c) 0
def yib(g:Gr)(c:Conf):Nat:=(Ev.flatAt 0 g.ports).foldl (kcEl c) 0
theorem yym{g:Gr}{c:Conf}{k:Nat}(hk:k<(Ev.flatAt 0 g.ports).length):kcTo g c (k+1)=kcEl c (kcTo g c k) (Sh.ycx g.ports k):=ybnj (kcEl c) 0 hk
theorem ybfg(g:Gr)(c:Conf):kcTo g c (Ev.flatAt 0 g.ports).length=yib g c:=by unfold kcTo yib;rw[List.take_length]
theorem ybcz{g:Gr}(hg:GoodG g)(c:Conf):∀ k,k<=(Ev.flatAt 0 g.ports).length->kcTo g c k<2 ^ 24
 | 0,_=>Nat.two_pow_pos 24
 | k+1,hk=>by
  rw[yym (by omega)]
  have h:=ybcz hg c k (by omega)
  have h2:=(yrr hg (k:=k) (by omega)).1
  have:=hg.2.1;unfold kcEl;split
  ·exact Nat.or_lt_two_pow h (Nat.pow_lt_pow_right (by omega) (by omega))
  ·exact h
theorem ybtg(c:Conf):∀ (l:List Ev.El) (s i:Nat),(l.foldl (kcEl c) s).testBit i=true ↔ s.testBit i=true \/ ∃ e ∈ l,e.v=i/\yfn c e.v=yfn c e.a.toNat
 | [],s,i=>⟨.inl,fun h=>h.resolve_right fun⟨_,h,_⟩=>nomatch h⟩
 | x :: l,s,i=>by
  rw[List.foldl_cons,ybtg c l]
  have hb:(kcEl c s x).testBit i=true ↔ s.testBit i=true\/(x.v=i/\yfn c x.v=yfn c x.a.toNat):=by
   unfold kcEl;split
   ·rename_i q
    rw[Nat.testBit_or,Bool.or_eq_true,Nat.testBit_two_pow,decide_eq_true_iff];exact or_congr Iff.rfl ⟨fun h=>⟨h,q⟩,fun h=>h.1⟩
   ·rename_i q
    exact⟨.inl,fun h=>h.resolve_right fun h=>q h.2⟩
  rw[hb];constructor
  ·rintro((h | h) | ⟨e,he,h⟩)
   ·exact .inl h
   ·exact .inr ⟨x,List.mem_cons_self,h⟩
   ·exact .inr ⟨e,List.mem_cons_of_mem _ he,h⟩
  ·rintro(h | ⟨e,he,h⟩)
   ·exact .inl (.inl h)
   ·rcases List.mem_cons.1 he with r | r
    ·rw[r]at h;exact .inl (.inr h)
    ·exact .inr ⟨e,r,h⟩
theorem ybxn{ps:List (List (Int × Int))}{v:Nat}{l:Int × Int}(hv:v<ps.length)(hl:l ∈ ps.getD v []):(⟨v,l.1,l.2⟩:Ev.El) ∈ Ev.flatAt 0 ps:=by
 have key:∀ (ps:List (List (Int × Int))) (b v:Nat),v<ps.length->l ∈ ps.getD v []->(⟨b+v,l.1,l.2⟩:Ev.El) ∈ Ev.flatAt b ps:=by
  intro ps
  induction ps with
  | nil=>intro b v h;simp at h
  | cons x ps ih =>
   intro b v h hl;show _ ∈ (x.map fun y=>(⟨b,y.1,y.2⟩:Ev.El)) ++ Ev.flatAt (b+1) ps;rw[List.mem_append];cases v with
   | zero=>exact .inl (List.mem_map.2 ⟨l,hl,rfl⟩)
   | succ v =>
    right
    have:=ih (b+1) v (by simpa using h) hl
    rwa [show b+1+v=b+(v+1)by omega]at this
 have:=key ps 0 v hv hl
 rwa [Nat.zero_add]at this
theorem yhv{g:Gr}(hg:GoodG g){c:Conf}{v:Nat}:(yib g c).testBit v=true ↔ v<g.ports.length/\yhk g c v:=by
 unfold yib;rw[ybtg];constructor
 ·rintro(h | ⟨e,he,rfl,hq⟩)
  ·simp at h
  ·obtain⟨k,hk,rfl⟩:=List.getElem_of_mem he;obtain⟨h1,h2⟩:=yrr hg hk;have e0:Sh.ycx g.ports k=(Ev.flatAt 0 g.ports)[k]:=by unfold Sh.ycx;rw[Sh.getD_at hk]
   rw[e0]at h1 h2;exact⟨h1,_,(ykp hg h1 h2).2.2.1,hq.symm⟩
 ·rintro⟨hv,u,hu,e⟩;obtain⟨l,hl,rfl⟩:=yvd hu;exact .inr ⟨_,ybxn hv hl,rfl,e.symm⟩
theorem ybxq{g:Gr}(hg:GoodG g)(c:Conf):yib g c<2 ^ 24:=by rw[<- ybfg];exact ybcz hg c _ (Nat.le_refl _)
def ymd(g:Gr)(c:Conf):Nat:=if yga g c=true then yib g c else 0
def yee(g:Gr)(c:Conf):Bool:=yga g c && decide (yib g c=0)
def ynl(g:Gr):Sh.SV:=if yci g=true then .ag (Sh.clmV 2 false true 1 (g.ids.length:Nat))else .ag (Sh.clmV 0 false false 0 0)
theorem yyg{g:Gr}{c:Conf}(h:yga g c=true):GoodG g/\c.length=g.ports.length /\ ∀ v,v<c.length->(c.getD v []).length=1:=by
 unfold yga at h;rw[Bool.and_eq_true]at h;have hck:=(ydy _ _ _).1 h.2;refine⟨(ycu g).1 h.1,hck.1,fun v hv=>?_⟩;rw[Sh.getD_at hv];have:=(hck.2 v _ (List.getElem?_eq_getElem hv)).1
 simpa [ycy]using this
namespace Sh
open Ev Go.RowKit
set_option maxRecDepth 8000
theorem ybex{g:Gr}(hI:GrI g):Returns Tryz.prog 114 [grV g] (.b (yci g)):=by
 refine Returns.of (ycxb _ _ ?_);have hC:=yni hI;simp only[grV]at hC;simp only[c114,ycfu,ycck,grV,go_sem,Nat.reduceEqDiff,Nat.reduceAdd,Nat.reduceLT,↓reduceIte];refine hC.use ?_;simp only[thenO,sim_b,go_sem,Nat.reduceEqDiff,Nat.reduceAdd,↓reduceIte,reduceCtorEq]
theorem ybjs{g:Gr}(hI:GrI g):Returns Tryz.prog 115 [grV g] (.b (yci g)):=by
 refine Returns.of (ycuv _ _ ?_);have hC:=ybib hI;simp only[grV]at hC;simp only[c115,ycdh,ycbc,grV,go_sem,Nat.reduceEqDiff,Nat.reduceAdd,Nat.reduceLT,↓reduceIte];refine hC.use ?_;simp only[thenO,sim_b,go_sem,Nat.reduceEqDiff,Nat.reduceAdd,↓reduceIte,reduceCtorEq]
theorem yxk{g:Gr}(hI:GrI g){c:Conf}(hR:ybin c):Returns Tryz.prog 106 [grV g,yba c] (.b (yga g c)):=by
 refine Returns.of (ycuc _ _ ?_);have hF:=ybex hI;unfold yga;cases ht:yci g with
 | false =>
  rw[ht]at hF;simp only[grV]at hF;simp only[c106,ybnx,ybmv,grV,clash,go_sem,Nat.reduceEqDiff,Nat.reduceAdd,Nat.reduceLT,↓reduceIte];refine hF.use ?_;simp only[thenO,clash,go_sem,Nat.reduceEqDiff,Nat.reduceAdd,↓reduceIte,reduceCtorEq];exact Sim.refl _
 | true =>
  have hg:=(ycu g).1 ht;have h24:=hg.2.1;have hpl:=hg.2.2.1
  have hC:=ybzx hg hR (G:=[(g.ids.length:Int)]) (fun x hx=>by
   simp at hx;subst hx;exact yej (by omega))
  rw[ht]at hF;simp only[grV]at hF;simp only[c106,ybnx,ybmv,grV,clash,go_sem,Nat.reduceEqDiff,Nat.reduceAdd,Nat.reduceLT,↓reduceIte];refine hF.use ?_;simp only[thenO,yg,splice,clash,go_sem,Nat.reduceEqDiff,Nat.reduceAdd,Nat.reduceLeDiff,Nat.reduceLT,↓reduceIte,reduceCtorEq];have one:∀ {q:Nat},q<1->q=0:=fun {q} h=>by omega
  refine .inl ⟨fun q hq=>by obtain rfl:=one hq;simp only[go_sem],hC.useS ?_ ?_⟩
  ·refine⟨Sim.refl (grV g),Sim.refl _,?_,trivial⟩;refine ygb fun q hq=>?_;obtain rfl:=one hq;simp only[List.getD_cons_zero,go_sem];exact⟨Sim.refl _,trivial⟩
  simp only[go_sem];exact Sim.refl _
set_option maxHeartbeats 1000000 in
theorem yzs{g:Gr}(hg:GoodG g){c:Conf}(hl:c.length=g.ports.length)(h1:∀ v,v<c.length->(c.getD v []).length=1):Returns Tryz.prog 107 [grV g,yba c] (.i .u32 (yib g c)):=by
 refine Returns.of (ycuo _ _ ?_);have hLk:=ybrr (g:=g);have h24:=hg.2.1;have hs0:kcTo g c 0=0:=rfl;simp only[grV]at hLk;simp only[c107,yccm,ycls,yccn,grV,splice,clash,go_sem,Nat.reduceEqDiff,Nat.reduceAdd,Nat.reduceLT,↓reduceIte,reduceCtorEq];refine hLk.use ?_;simp only[thenO,clash,go_sem]
 refine yvp (ybxx (yboe hg)) [(2,0),(3,0),(5,0)] (fun i (_:Unit)=>⟨[(9,.fn 158 [] [.rf [yg g.ids,yx g.ports]]),(2,.pt (2,0) 0 0),(3,.pt (3,0) 0 0),(5,.pt (5,0) 0 0)],
  [(2,.one (some ⟨27,true,2,1,fun _=>[yg g.ids,yx g.ports]⟩)),(3,.one (some ⟨34,true,1,1,fun _=>[yba c]⟩)),(5,.one (some ⟨40,true,1,1,fun _=>[.i .u32 (kcTo g c i:Nat)]⟩))]⟩) (fun i _=>i<=(flatAt 0 g.ports).length) () (Nat.zero_le _) ⟨fun _ h=>absurd h List.not_mem_nil,fun _ h=>absurd h List.not_mem_nil⟩ ?_ (fun _=>rfl) ?_ ?_ ?_
 ·refine weak_all [] [] [] ?_;simp only[hs0,allQ,live,sim_self,Int.natCast_zero,go_sem,Nat.reduceEqDiff,↓reduceIte,reduceCtorEq]
 ·intro i _ hi _;refine⟨trivial,?_⟩;simp only[go_sem,allQ,go_sem,Nat.reduceEqDiff]
 ·intro i _ hi hlti;have hlti:i<(flatAt 0 g.ports).length:=hlti;obtain⟨e1,e2⟩:=yrr hg hlti;have hs:=yym (c:=c) hlti;have hb:=ybcz hg c i hi;obtain⟨E,hE⟩:∃ E,ycx g.ports i=E:=⟨_,rfl⟩;rw[hE]at hs e1 e2;obtain⟨a1,a2,_⟩:=ykp hg e1 e2;have a1:0<=E.a:=a1;have a2:E.a.toNat<g.ports.length:=a2;have l1:=h1 E.v (by omega)
  have l2:=h1 E.a.toNat (by omega)
  obtain⟨a,ha⟩:∃ a,kcTo g c i=a:=⟨_,rfl⟩;rw[ha]at hs hb;obtain⟨cl,hcl⟩:∃ m,c.length=m:=⟨_,rfl⟩;rw[hcl]at hl;refine⟨_,rfl,?_⟩;simp only[ybuj];obtain⟨x,hx⟩:∃ x,(c.getD E.v []).getD 0 0=x:=⟨_,rfl⟩;obtain⟨y,hy⟩:∃ y,(c.getD E.a.toNat []).getD 0 0=y:=⟨_,rfl⟩;have hxy:kcEl c a E=if x=y then a ||| 2 ^ E.v else a:=by unfold kcEl yfn;rw[hx,hy]
  rw[hxy]at hs
  by_cases q:x=y
  ·have z1:(x == y)=true:=by rw[beq_iff_eq];exact q
   have sh:=ylb (v:=E.v) (by omega)
   have ov:=u32_or (a:=a) (b:=2 ^ E.v) (by omega) (Nat.pow_lt_pow_right (by omega) (by omega))
   rw[if_pos q]at hs;simp only[IntKind.bits,Int.toNat_natCast]at sh ov;simp(maxSteps:=5000000) only [ybmt,ybsm,ybtb,ybst,yba,yg,ha,hE,hcl,l1,l2,hx,hy,z1,sh,ov,splice,clash,go_sem,Int.reduceToNat,Nat.reduceEqDiff,Nat.reduceAdd,Nat.reduceLeDiff,Nat.reduceLT,↓reduceIte,reduceCtorEq]
   repeat (first | refine⟨by omega,?_⟩ | refine⟨by decide,?_⟩)
   refine yby [] [] [] ?_;simp only[hs,allQ,live,sim_self,go_sem,Nat.reduceEqDiff,↓reduceIte,reduceCtorEq]
  ·have z1:(x == y)=false:=by rw[beq_eq_false_iff_ne];exact q
   rw[if_neg q]at hs;simp(maxSteps:=5000000) only [ybmt,ybsm,ybtb,ybst,yba,yg,ha,hE,hcl,l1,l2,hx,hy,z1,splice,clash,go_sem,Int.reduceToNat,Nat.reduceEqDiff,Nat.reduceAdd,Nat.reduceLeDiff,Nat.reduceLT,↓reduceIte,reduceCtorEq]
   repeat (first | refine⟨by omega,?_⟩ | refine⟨by decide,?_⟩)
   refine yby [] [] [] ?_;simp only[hs,allQ,live,sim_self,go_sem,Nat.reduceEqDiff,↓reduceIte,reduceCtorEq]
 ·intro _ _;have e:=ybfg g c;simp only[ycnx,ybuj,e,clash,go_sem,Nat.reduceEqDiff,Nat.reduceAdd,↓reduceIte,reduceCtorEq];exact Sim.refl _
theorem yjm{g:Gr}(hI:GrI g){c:Conf}(hR:ybin c):Returns Tryz.prog 50 [grV g,yba c] (.i .u32 (ymd g c)):=by
 refine Returns.of (yczp _ _ ?_);have hC:=yxk hI hR;unfold ymd;cases hcf:yga g c with
 | false =>
  rw[hcf]at hC;simp only[grV]at hC;simp only[c50,ycqw,ycro,ydcm,grV,clash,go_sem,Nat.reduceEqDiff,Nat.reduceAdd,Nat.reduceLT,↓reduceIte,reduceCtorEq];refine hC.use ?_;simp only[thenO,clash,go_sem,Nat.reduceAdd,↓reduceIte];exact Sim.refl _
 | true =>
  obtain⟨hg,hl,h1⟩:=yyg hcf;have hK:=yzs hg hl h1;rw[hcf]at hC;rw[if_pos rfl];simp only[grV]at hC hK;simp only[c50,ycqw,ycro,ydcf,grV,clash,go_sem,Nat.reduceEqDiff,Nat.reduceAdd,Nat.reduceLT,↓reduceIte,reduceCtorEq];refine hC.use ?_;simp only[thenO,clash,go_sem,Nat.reduceEqDiff,Nat.reduceAdd,↓reduceIte,reduceCtorEq];refine hK.use ?_;simp only[go_sem];exact Sim.refl _
theorem yuj{g:Gr}(hI:GrI g){c:Conf}(hR:ybin c):Returns Tryz.prog 58 [grV g,yba c] (.b (yee g c)):=by
 refine Returns.of (ycyj _ _ ?_);have hC:=yxk hI hR;unfold yee;cases hcf:yga g c with
 | false =>
  rw[hcf]at hC;simp only[grV]at hC;simp only[c58,ycrh,ycwu,grV,clash,go_sem,Nat.reduceEqDiff,Nat.reduceAdd,Nat.reduceLT,↓reduceIte,reduceCtorEq];refine hC.use ?_;simp only[thenO,clash,go_sem,Nat.reduceEqDiff,Nat.reduceAdd,↓reduceIte,reduceCtorEq];exact Sim.refl _
 | true =>
  obtain⟨hg,hl,h1⟩:=yyg hcf;have hK:=yzs hg hl h1;have e:(((yib g c:Nat):Int) == 0)=decide (yib g c=0):=by rw[Bool.eq_iff_iff,beq_iff_eq,decide_eq_true_iff];omega
  rw[hcf]at hC;rw[Bool.true_and,<- e];simp only[grV]at hC hK;simp only[c58,ycrh,ycwu,grV,clash,go_sem,Nat.reduceEqDiff,Nat.reduceAdd,Nat.reduceLT,↓reduceIte,reduceCtorEq];refine hC.use ?_;simp only[thenO,clash,go_sem,Nat.reduceEqDiff,Nat.reduceAdd,↓reduceIte,reduceCtorEq];refine hK.use ?_;simp only[go_sem,↓reduceIte];exact Sim.refl _
theorem ybht{g:Gr}(hI:GrI g):Returns Tryz.prog 56 [grV g] (ynl g):=by
 refine Returns.of (ydck _ _ ?_);have hF:=ybex hI;unfold ynl;cases ht:yci g with
 | false =>
  rw[ht]at hF;simp only[grV]at hF;simp only[c56,ycvt,ycwn,ydei,grV,clmV,clash,go_sem,Nat.reduceEqDiff,Nat.reduceAdd,Nat.reduceLT,↓reduceIte];refine hF.use ?_;simp only[thenO,splice,clash,go_sem,Nat.reduceEqDiff,Nat.reduceAdd,↓reduceIte];exact Sim.refl _
 | true =>
  rw[ht]at hF;simp only[grV]at hF;simp only[c56,ycvt,ycwn,ydbj,grV,clmV,clash,go_sem,Nat.reduceEqDiff,Nat.reduceAdd,Nat.reduceLT,↓reduceIte];refine hF.use ?_;simp only[thenO,yg,splice,clash,go_sem,Nat.reduceEqDiff,Nat.reduceAdd,Nat.reduceLeDiff,↓reduceIte,reduceCtorEq];exact Sim.refl _
theorem yzw{g:Gr}(hI:GrI g):Returns Tryz.prog 57 [grV g] (ynl g):=by
 refine Returns.of (yddv _ _ ?_);have hF:=ybjs hI;unfold ynl;cases ht:yci g with
 | false =>
  rw[ht]at hF;simp only[grV]at hF;simp only[c57,ycra,ycun,ydfu,grV,clmV,clash,go_sem,Nat.reduceEqDiff,Nat.reduceAdd,Nat.reduceLT,↓reduceIte];refine hF.use ?_;simp only[thenO,splice,clash,go_sem,Nat.reduceEqDiff,Nat.reduceAdd,↓reduceIte];exact Sim.refl _
 | true =>
  have hpl:=((ycu g).1 ht).2.2.1;rw[ht]at hF;rw[hpl];simp only[grV]at hF;simp only[c57,ycra,ycun,yddk,grV,clmV,clash,go_sem,Nat.reduceEqDiff,Nat.reduceAdd,Nat.reduceLT,↓reduceIte];refine hF.use ?_;simp only[thenO,yx,splice,clash,go_sem,Nat.reduceEqDiff,Nat.reduceAdd,Nat.reduceLeDiff,↓reduceIte,reduceCtorEq];exact Sim.refl _
theorem ybnb:Returns Tryz.prog 49 [] (ycn [⟨⟨#[99]⟩,1,0,0,1,0⟩]):=by
 refine Returns.of (yczb _ _ ?_);have h1:=ybhl ⟨#[99]⟩ 0 1 0;simp only[varC]at h1;simp only[c49,ydcg,ydgc,go_sem,↓reduceIte];refine h1.use ?_;simp only[thenO,splice,clash,go_sem,Nat.reduceEqDiff,Nat.reduceAdd,Nat.reduceLT,↓reduceIte,reduceCtorEq];have one:∀ {q:Nat},q<1->q=0:=fun {q} h=>by omega
 refine⟨fun q hq=>by obtain rfl:=one hq;simp only[go_sem],?_⟩
 refine ygb fun q hq=>?_;obtain rfl:=one hq;simp only[varC,List.getD_cons_zero,go_sem];exact⟨Sim.refl _,Sim.refl _,Sim.refl _,Sim.refl _,Sim.refl _,Sim.refl _,trivial⟩
end Sh
end Go.Proofs.YtiejahgklcjhkaaGreatDoor

namespace Go.Proofs.YtiejahgklcjhkaaGreatDoor
open Go
def yki(ls:List (Int × Int))(b:Int):Bool:=ls.any fun l=>decide (l.1=b)
namespace Sh
open Ev Go.RowKit
set_option maxRecDepth 8000
theorem ybio{ids:List Int}{ports:List (List (Int × Int))}{a b:Nat}(ha:a<ports.length)(hl:(ports.getD a []).length<=100000) :
  Returns Tryz.prog 128 [.ag [yg ids,yx ports],.i .i64 a,.i .i64 b] (.b (yki (ports.getD a []) b)):=by
 refine Returns.of (yctf _ _ ?_);obtain⟨n,hn⟩:∃ n,ports.length=n:=⟨_,rfl⟩;obtain⟨L,hL⟩:∃ L,ports.getD a []=L:=⟨_,rfl⟩;rw[hL]at hl ⊢;obtain⟨m,hm⟩:∃ m,L.length=m:=⟨_,rfl⟩;simp only[c128,ycpy,yccu,go_sem,Nat.reduceAdd,Nat.reduceLT,↓reduceIte];refine ybd (σ:=Nat) (fun k=>⟨[(7,.i .i64 k),(3,.pt (3,0) 0 0),(1,.i .i64 a),(2,.i .i64 b)],[(3,.one (some ⟨27,true,2,1,fun _=>[yg ids,yx ports]⟩))]⟩) (fun k=>k<=m /\ ∀ j,j<k->(L.getD j (0,0)).1 ≠ b) (fun k=>m - k) 0 ⟨Nat.zero_le _,fun j hj=>absurd hj (Nat.not_lt_zero j)⟩ ?_ ?_
 ·refine weak_all [] [] [] ?_;simp only[go_sem,allQ,live,sim_self,Int.natCast_zero,go_sem,Nat.reduceEqDiff,↓reduceIte,reduceCtorEq]
 ·rintro k ⟨hk,hno⟩;simp only[ycbs,ycho,ycao,ycfm,ychg,yx,yu,hn,hL,hm,go_sem,Nat.reduceEqDiff,Nat.reduceAdd,Nat.reduceLeDiff,↓reduceIte,reduceCtorEq];refine⟨⟨by omega,by omega⟩,fun hlt=>⟨⟨by omega,by omega⟩,⟨by omega,by omega⟩,fun he=>?_,fun hne=>⟨ikw (by omega) (by omega),?_⟩⟩,fun hge=>?_⟩
  ·have hk':k<L.length:=by omega
   have:yki L b=true:=List.any_eq_true.2 ⟨L[k],List.getElem_mem _,by rw[getD_at hk']at he;exact decide_eq_true he⟩
   rw[this];exact Sim.refl _
  ·refine yc (k+1) ⟨by omega,fun j hj=>?_⟩ (by omega) ?_
   ·by_cases q:j=k
    ·rw[q];exact hne
    ·exact hno j (by omega)
   refine weak_all [] [] [] ?_;simp only[allQ,live,sim_self,yh,go_sem,Nat.reduceEqDiff,↓reduceIte,reduceCtorEq];omega
  ·have:yki L b=false:=List.any_eq_false.2 fun l hl he=>by
    obtain⟨j,hj,rfl⟩:=List.getElem_of_mem hl;have:=hno j (by omega)
    rw[getD_at hj]at this;exact this (of_decide_eq_true he)
   rw[this];exact Sim.refl _
end Sh
end Go.Proofs.YtiejahgklcjhkaaGreatDoor

namespace Go.Proofs.YtiejahgklcjhkaaGreatDoor
open Go
structure NetR where
 n:Int
 links:List Int
 weights:List Int
 ids:List Int
 apart:Bool
 back:Bool
def NetR.ok(x:NetR):Prop:=Sh.inK .i64 x.n/\(∀ k,Sh.inK .i64 (x.links.getD k 0))/\(∀ k,Sh.inK .i64 (x.weights.getD k 0))/\(∀ k,Sh.inK .i64 (x.ids.getD k 0))
theorem ybbs(a r:Nat)(hr:r<=256):((List.range r).map fun i=>(((a+i) % 256:Nat):Int)).Nodup:=by
 unfold List.Nodup;rw[List.pairwise_map];refine List.Pairwise.imp_of_mem (R:=(· < ·)) (fun {i j} hi hj h=>?_) List.pairwise_lt_range;have hi:=List.mem_range.1 hi;have hj:=List.mem_range.1 hj;intro e;omega
theorem ybgr{a r:Nat}{l:List Int}(hr:r<=256)(h:∀ i,i<r->(((a+i) % 256:Nat):Int) ∈ l):r<=l.length:=by
 have:=List.Nodup.length_le_of_subset (ybbs a r hr) (l₂:=l) fun x hx=>by
  obtain⟨i,hi,rfl⟩:=List.mem_map.1 hx;exact h i (List.mem_range.1 hi)
 simpa using this
namespace Sh
open Ev Go.RowKit
set_option maxRecDepth 8000
def netC(x:NetR):List SV:=[.i .i64 x.n,yg x.links,yg x.weights,yg x.ids,.b x.apart,.b x.back]
theorem wrap64_in(z:Int):inK .i64 (IntKind.wrap .i64 z):=by
 unfold inK;have e1:IntKind.i64.min = -9223372036854775808:=rfl;have e2:IntKind.i64.max=9223372036854775807:=rfl;have h1:=Int.emod_nonneg z (show(18446744073709551616:Int) ≠ 0 by decide)
 have h2:=Int.emod_lt_of_pos z (show(0:Int)<18446744073709551616 by decide)
 rw[e1,e2]
 have e:IntKind.wrap .i64 z=if z % 18446744073709551616 >= 9223372036854775808 then z % 18446744073709551616 - 18446744073709551616 else z % 18446744073709551616:=by
  show(if (true && decide (z % 18446744073709551616 >= 9223372036854775808))=true then z % 18446744073709551616 - 18446744073709551616 else z % 18446744073709551616)=_
  simp only[Bool.true_and,decide_eq_true_eq]
 rw[e];split<;>omega
theorem nodes_ok{x:NetR}(hx:x.ok){most:Nat}(hm:1<=most/\most<=24) :
  Cm Tryz.prog 75 [] [] [.ag (netC x),.i .i64 most] fun r o=>∃ ids:List Int,(1<=ids.length/\ids.length<=most)/\(∀ y ∈ ids,0<=y/\y<=255)/\ids.Nodup/\r = .ag [yg ids,.os (17,0) 0 ids.length true] /\
   o = [(17,.one (some ⟨71,false,1,ids.length,fun _=>[.a (.slice none 0 0)]⟩))]:=by
 refine yctx [] [] _ _ _ ?_;obtain⟨hx1,hx2,hx3,hx4⟩:=hx;have hin:=ycm (v:=IntKind.wrap .i64 (x.n - 1)) (m:=(most:Int)) (by omega)
 obtain⟨k,hk⟩:∃ k:Nat,ycg (IntKind.wrap .i64 (x.n - 1)) most=k:=Int.eq_ofNat_of_zero_le hin.1;have hW:=ycl (IntKind.wrap .i64 (x.n - 1)) most (by omega) (wrap64_in _)
 rw[hk]at hW hin;obtain⟨n,hn⟩:∃ n:Nat,(1:Int)+(k:Int)=(n:Int):=⟨1+k,by omega⟩
 have hn1:1<=n/\n<=most:=by omega
 simp only[c75,ydcl,yday,netC,go_sem,Nat.reduceEqDiff,Nat.reduceAdd,Nat.reduceLeDiff,Nat.reduceLT,↓reduceIte,reduceCtorEq];refine hW.use ?_;simp only[thenO,ydcx,yddp,hn,clash,go_sem,Nat.reduceEqDiff,Nat.reduceAdd,Nat.reduceLT,↓reduceIte,reduceCtorEq];refine⟨ikw (by omega) (by omega),⟨by omega,by omega,by omega⟩,?_⟩
 refine ybd (σ:=List Int) (fun l=>⟨[(7,.i .i64 l.length),(5,.i .i64 n),(2,.pt (2,0) 0 0),(6,.pt (6,0) 0 0),(4,.pt (4,0) 0 0)],
   [(2,.one (some ⟨24,true,6,1,fun _=>netC x⟩)),(4,.one (some ⟨27,true,2,1,fun _=>[.a (.slice none 0 0),.a (.slice none 0 0)]⟩)),
    (6,.one (some ⟨27,true,2,1,fun _=>[.os (148,0) 0 l.length true,.os (17,0) 0 n true]⟩)),(17,.one (some ⟨71,false,1,n,fun _=>[.a (.slice none 0 0)]⟩)),
    (148,.one (some ⟨3,false,1,l.length,fun k=>[.i .i64 (l.getD k 0)]⟩))]⟩)
  (fun l=>l.length<=n/\(∀ y ∈ l,0<=y/\y<=255)/\l.Nodup) (fun l=>n - l.length) [] ⟨Nat.zero_le _,fun y hy=>(List.not_mem_nil hy).elim,List.nodup_nil⟩ ?_ ?_
 ·refine weak_all [] [148] [] ?_;simp only[netC,allQ,live,sim_self,Int.natCast_zero,go_sem,Nat.reduceEqDiff,Nat.reduceBEq,↓reduceIte,reduceCtorEq];exact fun i _=>⟨(148,0),rfl,rfl,rfl⟩
 ·rintro l ⟨hl,hl2,hl3⟩;obtain⟨v,hv⟩:∃ v,l.length=v:=⟨_,rfl⟩;rw[hv]at hl;have hA:=at_ret x.ids v;have hi2:=ycm (v:=atP x.ids v) (m:=256) (by omega)
  obtain⟨a,ha⟩:∃ a:Nat,ycg (atP x.ids v) 256=a:=Int.eq_ofNat_of_zero_le hi2.1;have hW2:=ycl (atP x.ids v) 256 (by omega) (hx4 v)
  rw[ha]at hW2 hi2;simp only[ydak,ydbk,ydfn,ycqb,netC,hv,splice,clash,go_sem,Nat.reduceEqDiff,Nat.reduceAdd,Nat.reduceLeDiff,↓reduceIte,reduceCtorEq];refine⟨fun hlt=>?_,fun hge=>?_⟩
  ·refine hA.use ?_;simp only[thenO,clash,go_sem,Nat.reduceEqDiff,Nat.reduceAdd,↓reduceIte,reduceCtorEq];refine hW2.use ?_
   refine ybd (σ:=Nat × Nat) (fun q=>⟨[(9,.i .i64 q.2),(8,.i .i64 ((a+q.1) % 256:Nat)),(7,.i .i64 v),(5,.i .i64 n),(2,.pt (2,0) 0 0),(6,.pt (6,0) 0 0),(4,.pt (4,0) 0 0)],
    [(2,.one (some ⟨24,true,6,1,fun _=>netC x⟩)),(4,.one (some ⟨27,true,2,1,fun _=>[.a (.slice none 0 0),.a (.slice none 0 0)]⟩)),
     (6,.one (some ⟨27,true,2,1,fun _=>[.os (148,0) 0 v true,.os (17,0) 0 n true]⟩)),(17,.one (some ⟨71,false,1,n,fun _=>[.a (.slice none 0 0)]⟩)),
     (148,.one (some ⟨3,false,1,v,fun k=>[.i .i64 (l.getD k 0)]⟩))]⟩)
    (fun q=>q.2<=v/\(∀ i,i<q.1->(((a+i) % 256:Nat):Int) ∈ l)/\q.1<=256 /\ ∀ j,j<q.2->l.getD j 0 ≠ (((a+q.1) % 256:Nat):Int)) (fun q=>(v - q.1) * (v+2)+(v - q.2)) (0,0) ⟨Nat.zero_le _,fun i hi=>absurd hi (Nat.not_lt_zero i),by omega,fun j hj=>absurd hj (Nat.not_lt_zero j)⟩ ?_ ?_
   ·refine weak_all [] [] [] ?_;simp only[netC,allQ,live,sim_self,yh,Int.natCast_zero,go_sem,Nat.reduceEqDiff,↓reduceIte,reduceCtorEq];rw[Nat.mod_eq_of_lt (by omega)]
   ·rintro⟨r,u⟩ ⟨hu,hr,hr256,hno⟩;obtain⟨b,hb⟩:∃ b,(a+r) % 256=b:=⟨_,rfl⟩;have hb256:b<256:=by omega
    simp only[yczg,yddo,ycdk,ycpa,ychv,ycxl,netC,hb,splice,clash,go_sem,Nat.reduceEqDiff,Nat.reduceAdd,Nat.reduceLeDiff,Nat.reduceLT,↓reduceIte,reduceCtorEq];have hu:u<=v:=hu;have hr:∀ i,i<r->(((a+i) % 256:Nat):Int) ∈ l:=hr;have hr256:r<=256:=hr256;have hno:∀ j,j<u->l.getD j 0 ≠ (b:Int):=fun j hj=>by rw[<- hb];exact hno j hj
    have hrv:r<=v:=by rw[<- hv];exact ybgr hr256 hr
    refine⟨fun hlt2=>⟨⟨by omega,by omega⟩,by omega,fun he=>⟨ikw (by omega) (by omega),by decide,ikw (by omega) (by omega),?_⟩,fun hne=>⟨ikw (by omega) (by omega),?_⟩⟩,fun hge2=>?_⟩
    ·have hmem:(b:Int) ∈ l:=by
      rw[<- he,getD_at (show u<l.length by omega)]
      exact List.getElem_mem _
     have hr':∀ i,i<r+1->(((a+i) % 256:Nat):Int) ∈ l:=fun i hi=>by
      by_cases q:i=r
      ·rw[q,hb];exact hmem
      ·exact hr i (by omega)
     have hrv':r+1<=v:=by rw[<- hv];exact ybgr (by omega) hr'
     refine yc (r+1,0) ⟨Nat.zero_le _,hr',by show r+1<=256;omega,fun j hj=>absurd hj (Nat.not_lt_zero j)⟩ ?_ ?_
     ·show(v - (r+1)) * (v+2)+(v - 0)<(v - r) * (v+2)+(v - u);obtain⟨m,hm⟩:∃ m,v - r=m+1:=⟨v - r - 1,by omega⟩
      rw[show v - (r+1)=m by omega,hm,Nat.succ_mul]
      generalize m * (v+2)=z
      omega
     ·refine weak_all [] [] [] ?_;simp only[allQ,live,sim_self,yh,Int.natCast_zero,go_sem,Nat.reduceEqDiff,↓reduceIte,reduceCtorEq];refine⟨by omega,?_⟩
      rw[Int.tmod_eq_emod_of_nonneg (by omega)]
      omega
    ·refine yc (r,u+1) ⟨by show u+1<=v;omega,hr,hr256,fun j hj=>?_⟩ ?_ ?_
     ·show l.getD j 0 ≠ (((a+r) % 256:Nat):Int);rw[hb]
      by_cases q:j=u
      ·rw[q];exact hne
      ·exact hno j (by have:j<u+1:=hj;omega)
     ·show(v - r) * (v+2)+(v - (u+1))<(v - r) * (v+2)+(v - u)
      generalize (v - r) * (v+2)=z
      omega
     ·refine weak_all [] [] [] ?_;simp only[hb,allQ,live,sim_self,yh,go_sem,Nat.reduceEqDiff,↓reduceIte,reduceCtorEq];omega
    ·obtain rfl:u=v:=by omega
     refine⟨⟨by omega,by omega⟩,ikw (by omega) (by omega),?_⟩
     have hno':(b:Int) ∉ l:=fun hm=>by
      obtain⟨j,hj,e⟩:=List.getElem_of_mem hm;exact hno j (by omega) (by rw[getD_at hj,e])
     refine yc (l ++ [(b:Int)]) ⟨by rw[List.length_append,List.length_singleton];omega,fun y hy=>?_,?_⟩ (by rw[List.length_append,List.length_singleton];omega) ?_
     ·rcases List.mem_append.1 hy with hy | hy
      ·exact hl2 y hy
      ·rw[List.mem_singleton.1 hy];omega
     ·rw[List.nodup_append];exact⟨hl3,by simp,fun y hy z hz=>by rw[List.mem_singleton.1 hz];exact fun e=>hno' (e ▸ hy)⟩
     refine weak_all [(148,fun i=>(48,i))] [] [] ?_;simp only[List.length_append,hv,allQ,live,sim_self,yh,go_sem,Nat.reduceEqDiff,↓reduceIte,reduceCtorEq];refine⟨by omega,fun i hi=>?_⟩
     rw[yrv,hv]
     by_cases q:i<u
     ·simp only[if_pos q];simp only[live,sim_self,go_sem,reduceCtorEq]
     ·obtain rfl:i=u:=by omega
      simp only[if_neg q,Nat.sub_self];simp only[live,sim_self,go_sem,↓reduceIte,reduceCtorEq]
  ·obtain rfl:v=n:=by omega
   simp only[yev,go_sem];refine⟨.ag [yg l,.os (17,0) 0 v true],[(17,.one (some ⟨71,false,1,v,fun _=>[.a (.slice none 0 0)]⟩))],?_,?_,l,by rw[hv];exact hn1,hl2,hl3,by rw[hv],by rw[hv]⟩
   ·refine weak_all [] [] [(148,0)] ?_;simp only[yg,hv,allQ,live,sim_self,go_sem,Nat.reduceEqDiff,↓reduceIte,reduceCtorEq]
   ·simp only[famCln,obCln,allQ,live,go_sem,↓reduceIte]
end Sh
end Go.Proofs.YtiejahgklcjhkaaGreatDoor

namespace Go.Proofs.YtiejahgklcjhkaaGreatDoor
open Go
def ygc(back:Bool)(g:Gr)(a b:Nat)(w:Int):Gr:=if a=b\/yki (g.ports.getD a []) b=true then g else ybr back g a b w
namespace Sh
open Ev Go.RowKit
set_option maxRecDepth 8000
def rowO(l:List (Int × Int)):OB:=⟨95,false,2,l.length,fun k=>[.i .i64 (l.getD k (0,0)).1,.i .i64 (l.getD k (0,0)).2]⟩
def linkO(ports:List (List (Int × Int))):Own:=[(211,.one (some ⟨71,false,1,ports.length,fun v=>[.os (212,v) 0 (ports.getD v []).length true]⟩)),
 (212,.many fun v=>if v<ports.length then some (rowO (ports.getD v []))else none)]
def linkA(g:Gr):SV:=.ag [yg g.ids,.os (211,0) 0 g.ports.length true]
theorem some_row{i n:Nat}{x b:OB}(h:(if i<n then some x else none)=some b):i<n/\b=x:=by
 split at h
 ·cases h;exact⟨by assumption,rfl⟩
 ·cases h
theorem ybl(back:Bool)(L:List (Int × Int))(x:Int × Int):(addL back L x).length=L.length+1:=by
 unfold addL;cases back<;>simp
theorem yzr(L:List (Int × Int))(x:Int × Int){k:Nat}(hk:k<L.length+1):(if k<L.length then[SV.i .i64 (L.getD k (0,0)).1,SV.i .i64 (L.getD k (0,0)).2]else List.take 2 (List.drop ((k - L.length) * 2) [SV.i .i64 x.1,SV.i .i64 x.2])) = [SV.i .i64 ((addL false L x).getD k (0,0)).1,SV.i .i64 ((addL false L x).getD k (0,0)).2]:=by
 show _ = [SV.i .i64 ((L ++ [x]).getD k (0,0)).1,SV.i .i64 ((L ++ [x]).getD k (0,0)).2];rw[yrv]
 by_cases h:k<L.length
 ·rw[if_pos h,if_pos h]
 ·obtain rfl:k=L.length:=by omega
  rw[if_neg h,if_neg h,if_pos rfl,Nat.sub_self];rfl
theorem yks(L:List (Int × Int))(x:Int × Int)(k:Nat):(if k<1 then List.take 2 (List.drop (k * 2) [SV.i .i64 x.1,SV.i .i64 x.2])else[SV.i .i64 (L.getD (k - 1) (0,0)).1,SV.i .i64 (L.getD (k - 1) (0,0)).2]) = [SV.i .i64 ((addL true L x).getD k (0,0)).1,SV.i .i64 ((addL true L x).getD k (0,0)).2]:=by
 show _ = [SV.i .i64 ((x :: L).getD k (0,0)).1,SV.i .i64 ((x :: L).getD k (0,0)).2];cases k with
 | zero=>rfl
 | succ k=>rw[if_neg (by omega)];rfl
theorem cells_one(L:List (Int × Int))(h:L.length=0)(x:Int × Int){k:Nat}(hk:k<1):List.take 2 (List.drop (k * 2) [SV.i .i64 x.1,SV.i .i64 x.2]) = [SV.i .i64 ((addL true L x).getD k (0,0)).1,SV.i .i64 ((addL true L x).getD k (0,0)).2]:=by
 obtain rfl:k=0:=by omega
 rfl
theorem ygx {n:Nat} {o:Own} {P':List (List (Int × Int))} (hl:P'.length=n) (A:Nat->Nm) {R:Nat->List SV} (h11:lookO o (211,0)=some ⟨71,false,1,n,R⟩) (hR:∀ v,v<n->R v = [.os (A v) 0 (P'.getD v []).length true])
  (hA:∀ v,v<n -> ∃ q,lookO o (A v)=some ⟨95,false,2,(P'.getD v []).length,q⟩ /\ ∀ k,k<(P'.getD v []).length->q k = [.i .i64 ((P'.getD v []).getD k (0,0)).1,.i .i64 ((P'.getD v []).getD k (0,0)).2])
  (hi:∀ u v,u<n->v<n->A u=A v->u=v) (h0:∀ v,v<n->A v ≠ (211,0)) :
  ∃ r o',Weak [(211,0)] ⟨[(0,.tp [])],o⟩ ⟨[(0,r)],o'⟩/\(cln (live o') 5 r=true/\allQ (fun p=>famCln (live o') p.2) o'/\allQ (fun β=>live o' β=true) [(211,0)])/\r = .tp []/\o'=linkO P':=by
 subst hl
 have hsome:∀ i,(if i<P'.length then some (rowO (P'.getD i []))else none).isSome=true->i<P'.length:=fun i h=>by
  by_cases q:i<P'.length
  ·exact q
  ·rw[if_neg q]at h;cases h
 have hlive:∀ i,i<P'.length->live (linkO P') (212,i)=true:=fun i hi=>by
  show(if i<P'.length then some (rowO (P'.getD i []))else none).isSome=true
  rw[if_pos hi];rfl
 refine⟨.tp [],linkO P',yber [(212,A)] [] [] trivial ⟨.inr ⟨.inr fun e=>⟨rfl,rfl⟩,.inr fun j hj e=>?_,trivial⟩,.inr ⟨.inr fun i hi' e=>?_,.inr fun i hi' j hj e=>⟨rfl,?_⟩,trivial⟩,trivial⟩ ⟨?_,trivial⟩ ⟨?_,fun i b hb=>?_,trivial⟩ ⟨⟨rfl,rfl,rfl⟩,trivial⟩,⟨rfl,⟨?_,?_,trivial⟩,rfl,trivial⟩,rfl,rfl⟩
 ·exact absurd e.symm (h0 j (hsome j hj))
 ·exact absurd e (h0 i (hsome i hi'))
 ·exact hi i j (hsome i hi') (hsome j hj) e
 ·exact⟨_,rfl,.inl ⟨trivial,Sim.refl _,rfl⟩⟩
 ·refine⟨_,h11,⟨rfl,rfl,rfl,rfl,rfl⟩,fun i hi'=>?_⟩;have hi':i<P'.length:=hi';show telL _ _ _ _ _ (R i) _;rw[hR i hi'];refine⟨.inl ⟨by simp only[go_sem],Sim.refl _,?_⟩,rfl,trivial⟩
  show(live (linkO P') (212,i) && !(List.elem 212 []))=true;rw[hlive i hi'];rfl
 ·obtain⟨hi',rfl⟩:=some_row hb;obtain⟨q,q1,q2⟩:=hA i hi';refine⟨_,q1,⟨rfl,rfl,rfl,rfl,rfl⟩,fun k hk=>?_⟩;show telL _ _ _ _ _ (q k) _;rw[q2 k hk];exact⟨.inl ⟨trivial,Sim.refl _,rfl⟩,rfl,.inl ⟨trivial,Sim.refl _,rfl⟩,rfl,trivial⟩
 ·intro k hk;have:live (linkO P') (212,k)=true:=hlive k hk;simp only[linkO,List.all_cons,List.all_nil,Bool.and_true]at this ⊢;exact this
 ·intro i b hb k hk;obtain⟨hi',rfl⟩:=some_row hb;rfl
section
variable {x:NetR} {g:Gr} {a b:Nat} {w:Int}
theorem ybpf(ha:a<g.ports.length)(hb:b<g.ports.length)(hn:g.ports.length<=24)(hd:∀ v,(g.ports.getD v []).length<=1000) :
  Cm Tryz.prog 76 [(211,0)] (linkO g.ports) [.ag (netC x),linkA g,.i .i64 a,.i .i64 b,.i .i64 w] fun r o=>r = .tp []/\o=linkO (ygc x.back g a b w).ports:=by
 refine ycst [(211,0)] [] _ _ _ ?_;obtain⟨O2,hO2⟩:∃ O,linkO (ygc x.back g a b w).ports=O:=⟨_,rfl⟩;rw[hO2]
 by_cases hab:a=b
 ·subst hab;have hP:ygc x.back g a a w=g:=if_pos (.inl rfl);rw[hP]at hO2;simp only[c76,ycqy,ycvk,netC,linkA,linkO,yev,go_sem,Nat.reduceEqDiff,Nat.reduceAdd,Nat.reduceLT,↓reduceIte,reduceCtorEq];subst hO2;exact ygx rfl (fun v=>(212,v)) rfl (fun v hv=>rfl) (fun v hv=>⟨_,if_pos hv,fun k hk=>rfl⟩) (fun u v _ _ e=>congrArg Prod.snd e) (fun v _ e=>by cases e)
 ·have hne:((a:Int) == (b:Int))=false:=by rw[beq_eq_false_iff_ne];omega
  have hL:=ybio (ids:=g.ids) (ports:=g.ports) (b:=b) ha (by have:=hd a;omega)
  simp only[c76,ycqy,ycvk,netC,linkA,linkO,hne,clash,go_sem,Nat.reduceEqDiff,Nat.reduceAdd,Nat.reduceLT,↓reduceIte,reduceCtorEq];refine .inl ⟨fun q hq=>by rw[if_pos hq];exact⟨Nat.le_refl _,fun k hk=>by simp only[rowO,go_sem]⟩,hL.useS ?_ ?_⟩
  ·refine⟨ylk ⟨Sim.refl _,?_,trivial⟩,Sim.refl _,Sim.refl _,trivial⟩;refine ygb fun q hq=>?_;rw[if_pos hq];simp only[rowO,yu,go_sem];exact⟨Sim.refl _,trivial⟩
  cases hlk:yki (g.ports.getD a []) b with
  | true =>
   have hP:ygc x.back g a b w=g:=if_pos (.inr hlk);rw[hP]at hO2;simp only[thenO,clash,yev,go_sem,Nat.reduceEqDiff,Nat.reduceAdd,↓reduceIte];subst hO2;exact ygx rfl (fun v=>(212,v)) rfl (fun v hv=>rfl) (fun v hv=>⟨_,if_pos hv,fun k hk=>rfl⟩) (fun u v _ _ e=>congrArg Prod.snd e) (fun v _ e=>by cases e)
  | false =>
   have hP:ygc x.back g a b w=ybr x.back g a b w:=if_neg (fun q=>by rcases q with q | q;exact hab q;rw[hlk]at q;cases q)
   rw[hP]at hO2;subst hO2;have hba:¬ b=a:=fun e=>hab e.symm;have hlen:(ybr x.back g a b w).ports.length=g.ports.length:=by simp[ybr]
   have hat:=yct x.back g w ha hb;obtain⟨G',hG'⟩:∃ G,(ybr x.back g a b w).ports=G:=⟨_,rfl⟩;rw[hG']at hlen ⊢;have hat:∀ v,G'.getD v []=if v=b then addL x.back (g.ports.getD b []) (a,w)else if v=a then addL x.back (g.ports.getD a []) (b,w)else g.ports.getD v []:=fun v=>by rw[<- hG'];exact hat v
   clear hG' hP
   obtain⟨x1,x2,x3,x4,x5,back⟩:=x;have hda:=hd a;have hdb:=hd b;cases back with
   | false =>
    simp only[thenO,clash,ybhx,ybja,ydey,rowO,if_pos ha,if_pos hb,hab,hba,yev,and_false,go_sem,Nat.reduceEqDiff,Nat.reduceAdd,Nat.reduceLeDiff,Nat.reduceLT,↓reduceIte,reduceCtorEq];refine⟨⟨by omega,by omega⟩,by omega,⟨by omega,by omega⟩,by decide,⟨by omega,by omega⟩,by omega,⟨by omega,by omega⟩,by decide,⟨by omega,by omega⟩,by omega,by decide,⟨by omega,by omega⟩,by omega,by decide,?_⟩
    refine ygx hlen (fun v=>if v=b then(74,0)else if v=a then(66,0)else(212,v)) rfl (fun v hv=>?_) (fun v hv=>?_) (fun u v _ _ e=>?_) (fun v _ e=>?_)
    ·rw[hat v]
     by_cases q:v=b
     ·simp only[if_pos q,ybl]
     ·by_cases q2:v=a
      ·simp only[if_neg q,if_pos q2,ybl]
      ·simp only[if_neg q,if_neg q2]
    ·rw[hat v]
     by_cases q:v=b
     ·simp only[if_pos q,ybl];exact⟨_,rfl,fun k hk=>yzr _ (_,_) hk⟩
     ·by_cases q2:v=a
      ·simp only[if_neg q,if_pos q2,ybl];exact⟨_,rfl,fun k hk=>yzr _ (_,_) hk⟩
      ·simp only[if_neg q,if_neg q2];refine⟨fun k=>[.i .i64 ((g.ports.getD v []).getD k (0,0)).1,.i .i64 ((g.ports.getD v []).getD k (0,0)).2],?_,fun k hk=>rfl⟩;show(if v=b then none else if v=a then none else if v<g.ports.length then some _ else none)=some _
       rw[if_neg q,if_neg q2,if_pos hv]
    ·by_cases q:u=b<;>by_cases q2:u=a<;>by_cases q3:v=b<;>by_cases q4:v=a<;>simp[q,q2,q3,q4,hab]at e ⊢<;>omega
    ·by_cases q:v=b<;>by_cases q2:v=a<;>simp[q,q2,hab]at e
   | true =>
    by_cases hza:(g.ports.getD a []).length=0
    ·by_cases hzb:(g.ports.getD b []).length=0
     ·simp only[thenO,clash,ybhx,ybja,ybrn,ybtc,rowO,if_pos ha,if_pos hb,hba,yev,and_false,hza,hzb,go_sem,Nat.reduceEqDiff,Nat.reduceAdd,Nat.reduceLeDiff,Nat.reduceLT,Nat.reduceMul,↓reduceIte,reduceCtorEq]
      repeat' apply And.intro
      all_goals first | omega | decide | skip
      refine ygx hlen (fun v=>if v=b then(45,0)else if v=a then(33,0)else(212,v)) rfl (fun v hv=>?_) (fun v hv=>?_) (fun u v _ _ e=>?_) (fun v _ e=>?_)
      ·rw[hat v]
       by_cases q:v=b
       ·simp only[if_pos q,ybl,hzb,Nat.zero_add]
       ·by_cases q2:v=a
        ·simp only[if_neg q,if_pos q2,ybl,hza,Nat.zero_add]
        ·simp only[if_neg q,if_neg q2]
      ·rw[hat v]
       by_cases q:v=b
       ·simp only[if_pos q,ybl,hzb,Nat.zero_add];exact⟨_,rfl,fun k hk=>cells_one _ hzb (_,_) hk⟩
       ·by_cases q2:v=a
        ·simp only[if_neg q,if_pos q2,ybl,hza,Nat.zero_add];exact⟨_,rfl,fun k hk=>cells_one _ hza (_,_) hk⟩
        ·simp only[if_neg q,if_neg q2];refine⟨fun k=>[.i .i64 ((g.ports.getD v []).getD k (0,0)).1,.i .i64 ((g.ports.getD v []).getD k (0,0)).2],?_,fun k hk=>rfl⟩;show(if v<g.ports.length then some _ else none)=some _
         rw[if_pos hv]
      ·by_cases q:u=b<;>by_cases q2:u=a<;>by_cases q3:v=b<;>by_cases q4:v=a<;>simp[q,q2,q3,q4,hab]at e ⊢<;>omega
      ·by_cases q:v=b<;>by_cases q2:v=a<;>simp[q,q2,hab]at e
     ·simp only[thenO,clash,ybhx,ybja,ybrn,ybtc,rowO,if_pos ha,if_pos hb,hba,yev,and_false,hza,hzb,go_sem,Nat.reduceEqDiff,Nat.reduceAdd,Nat.reduceLeDiff,Nat.reduceLT,Nat.reduceMul,↓reduceIte,reduceCtorEq]
      repeat' apply And.intro
      all_goals first | omega | decide | skip
      refine ygx hlen (fun v=>if v=b then(51,0)else if v=a then(33,0)else(212,v)) rfl (fun v hv=>?_) (fun v hv=>?_) (fun u v _ _ e=>?_) (fun v _ e=>?_)
      ·rw[hat v]
       by_cases q:v=b
       ·simp only[if_pos q,ybl,Nat.add_comm]
       ·by_cases q2:v=a
        ·simp only[if_neg q,if_pos q2,ybl,hza,Nat.zero_add,Nat.add_comm]
        ·simp only[if_neg q,if_neg q2]
      ·rw[hat v]
       by_cases q:v=b
       ·simp only[if_pos q,ybl];exact⟨_,congrArg some (congrArg (fun n=>OB.mk _ _ _ n _) (Nat.add_comm _ _)),fun k hk=>yks _ (_,_) k⟩
       ·by_cases q2:v=a
        ·simp only[if_neg q,if_pos q2,ybl,hza,Nat.zero_add];exact⟨_,rfl,fun k hk=>cells_one _ hza (_,_) hk⟩
        ·simp only[if_neg q,if_neg q2];refine⟨fun k=>[.i .i64 ((g.ports.getD v []).getD k (0,0)).1,.i .i64 ((g.ports.getD v []).getD k (0,0)).2],?_,fun k hk=>rfl⟩;show(if v<g.ports.length then some _ else none)=some _
         rw[if_pos hv]
      ·by_cases q:u=b<;>by_cases q2:u=a<;>by_cases q3:v=b<;>by_cases q4:v=a<;>simp[q,q2,q3,q4,hab]at e ⊢<;>omega
      ·by_cases q:v=b<;>by_cases q2:v=a<;>simp[q,q2,hab]at e
    ·by_cases hzb:(g.ports.getD b []).length=0
     ·simp only[thenO,clash,ybhx,ybja,ybrn,ybtc,rowO,if_pos ha,if_pos hb,hba,yev,and_false,hza,hzb,go_sem,Nat.reduceEqDiff,Nat.reduceAdd,Nat.reduceLeDiff,Nat.reduceLT,Nat.reduceMul,↓reduceIte,reduceCtorEq]
      repeat' apply And.intro
      all_goals first | omega | decide | skip
      refine ygx hlen (fun v=>if v=b then(45,0)else if v=a then(39,0)else(212,v)) rfl (fun v hv=>?_) (fun v hv=>?_) (fun u v _ _ e=>?_) (fun v _ e=>?_)
      ·rw[hat v]
       by_cases q:v=b
       ·simp only[if_pos q,ybl,hzb,Nat.zero_add,Nat.add_comm]
       ·by_cases q2:v=a
        ·simp only[if_neg q,if_pos q2,ybl,Nat.add_comm]
        ·simp only[if_neg q,if_neg q2]
      ·rw[hat v]
       by_cases q:v=b
       ·simp only[if_pos q,ybl,hzb,Nat.zero_add];exact⟨_,rfl,fun k hk=>cells_one _ hzb (_,_) hk⟩
       ·by_cases q2:v=a
        ·simp only[if_neg q,if_pos q2,ybl];exact⟨_,congrArg some (congrArg (fun n=>OB.mk _ _ _ n _) (Nat.add_comm _ _)),fun k hk=>yks _ (_,_) k⟩
        ·simp only[if_neg q,if_neg q2];refine⟨fun k=>[.i .i64 ((g.ports.getD v []).getD k (0,0)).1,.i .i64 ((g.ports.getD v []).getD k (0,0)).2],?_,fun k hk=>rfl⟩;show(if v<g.ports.length then some _ else none)=some _
         rw[if_pos hv]
      ·by_cases q:u=b<;>by_cases q2:u=a<;>by_cases q3:v=b<;>by_cases q4:v=a<;>simp[q,q2,q3,q4,hab]at e ⊢<;>omega
      ·by_cases q:v=b<;>by_cases q2:v=a<;>simp[q,q2,hab]at e
     ·simp only[thenO,clash,ybhx,ybja,ybrn,ybtc,rowO,if_pos ha,if_pos hb,hba,yev,and_false,hza,hzb,go_sem,Nat.reduceEqDiff,Nat.reduceAdd,Nat.reduceLeDiff,Nat.reduceLT,↓reduceIte,reduceCtorEq]
      repeat' apply And.intro
      all_goals first | omega | decide | skip
      refine ygx hlen (fun v=>if v=b then(51,0)else if v=a then(39,0)else(212,v)) rfl (fun v hv=>?_) (fun v hv=>?_) (fun u v _ _ e=>?_) (fun v _ e=>?_)
      ·rw[hat v]
       by_cases q:v=b
       ·simp only[if_pos q,ybl,Nat.add_comm]
       ·by_cases q2:v=a
        ·simp only[if_neg q,if_pos q2,ybl,Nat.add_comm]
        ·simp only[if_neg q,if_neg q2]
      ·rw[hat v]
       by_cases q:v=b
       ·simp only[if_pos q,ybl];exact⟨_,congrArg some (congrArg (fun n=>OB.mk _ _ _ n _) (Nat.add_comm _ _)),fun k hk=>yks _ (_,_) k⟩
       ·by_cases q2:v=a
        ·simp only[if_neg q,if_pos q2,ybl];exact⟨_,congrArg some (congrArg (fun n=>OB.mk _ _ _ n _) (Nat.add_comm _ _)),fun k hk=>yks _ (_,_) k⟩
        ·simp only[if_neg q,if_neg q2];refine⟨fun k=>[.i .i64 ((g.ports.getD v []).getD k (0,0)).1,.i .i64 ((g.ports.getD v []).getD k (0,0)).2],?_,fun k hk=>rfl⟩;show(if v<g.ports.length then some _ else none)=some _
         rw[if_pos hv]
      ·by_cases q:u=b<;>by_cases q2:u=a<;>by_cases q3:v=b<;>by_cases q4:v=a<;>simp[q,q2,q3,q4,hab]at e ⊢<;>omega
      ·by_cases q:v=b<;>by_cases q2:v=a<;>simp[q,q2,hab]at e
end
end Sh
end Go.Proofs.YtiejahgklcjhkaaGreatDoor

namespace Go.Proofs.YtiejahgklcjhkaaGreatDoor
open Go
theorem yua{back:Bool}{g:Gr}{a b:Nat}{w:Int}(hg:GoodG g)(ha:a<g.ports.length)(hb:b<g.ports.length)(hw:1<=w/\w<=15):GoodG (ygc back g a b w)/\(ygc back g a b w).ids=g.ids/\(ygc back g a b w).ports.length=g.ports.length:=by
 unfold ygc
 by_cases h:a=b\/yki (g.ports.getD a []) b=true
 ·rw[if_pos h];exact⟨hg,rfl,rfl⟩
 ·rw[if_neg h];refine⟨ybaj hg ha hb (fun e=>h (.inl e)) hw fun l hl e=>h (.inr (List.any_eq_true.2 ⟨l,hl,decide_eq_true e⟩)),rfl,by simp[ybr]⟩
theorem ybae{back:Bool}{g:Gr}{a b:Nat}{w:Int}(ha:a<g.ports.length)(hb:b<g.ports.length){m:Nat}(h:Tre g m):Tre (ygc back g a b w) m:=by
 unfold ygc;split
 ·exact h
 ·exact h.add ha hb
theorem ybuh{back:Bool}{g:Gr}{a b:Nat}{w:Int}(ha:a<g.ports.length)(hb:b<g.ports.length)(hab:a ≠ b):adj (ygc back g a b w) a b:=by
 unfold ygc;split
 ·rename_i h
  rcases h with h | h
  ·exact absurd h hab
  ·obtain⟨l,hl,e⟩:=List.any_eq_true.1 h;exact yhg.2 ⟨l,hl,of_decide_eq_true e⟩
 ·exact ybcu ha hb hab
theorem ybec:∀ (l:List Nat) (i x:Nat) (h:i<l.length),(l.set i x).sum+l[i]=l.sum+x
 | a :: l,0,x,_=>by simp;omega
 | a :: l,i+1,x,h=>by
  have:=ybec l i x (by simpa using h)
  simp only[List.set_cons_succ,List.sum_cons,List.getElem_cons_succ];omega
theorem ybiv{back:Bool}{g:Gr}{a b:Nat}{w:Int}(ha:a<g.ports.length)(hb:b<g.ports.length)(hab:a ≠ b):yus (ybr back g a b w)=yus g+2:=by
 unfold yus ybr;simp only[List.map_set,Sh.ybl];have h1:=ybec (g.ports.map List.length) a ((g.ports.getD a []).length+1) (by simpa using ha)
 have h2:=ybec ((g.ports.map List.length).set a ((g.ports.getD a []).length+1)) b ((g.ports.getD b []).length+1) (by simpa using hb)
 rw[List.getElem_set_ne hab,List.getElem_map,<- Sh.getD_at hb (d:=[])]at h2;rw[List.getElem_map,<- Sh.getD_at ha (d:=[])]at h1;omega
def WtF(x:NetR)(g:Gr):Prop:=∀ v l,l ∈ g.ports.getD v [] -> ∃ i,l.2=1+ycg (atP x.weights i) 15
theorem ybgz{x:NetR}{back:Bool}{g:Gr}{a b:Nat}{w:Int}(ha:a<g.ports.length)(hb:b<g.ports.length)(hw:∃ i,w=1+ycg (atP x.weights i) 15)(h:WtF x g):WtF x (ygc back g a b w):=by
 unfold ygc;split
 ·exact h
 ·intro v l hl;rw[yct back g w ha hb]at hl;split at hl
  ·rcases ydk.1 hl with rfl | hl
   ·exact hw
   ·exact h _ _ hl
  ·split at hl
   ·rcases ydk.1 hl with rfl | hl
    ·exact hw
    ·exact h _ _ hl
   ·exact h _ _ hl
structure TreeTo(x:NetR)(v:Nat)(g:Gr):Prop where
 tre:Tre g v
 wt:WtF x g
 none_:∀ u,v<=u->g.ports.getD u [] = []
 count:yus g+2=2 * v
theorem bare_ports(ids:List Int)(v:Nat):(bare ids).ports.getD v [] = []:=by
 unfold bare;rw[List.getD_eq_getElem?_getD,List.getElem?_replicate];split<;>rfl
theorem TreeTo.zero(x:NetR)(ids:List Int):TreeTo x 1 (bare ids):=by
 refine⟨fun v h0 h1=>by omega,fun v l hl=>?_,fun u _=>bare_ports ids u,?_⟩
 ·rw[bare_ports]at hl;exact absurd hl List.not_mem_nil
 ·have:yus (bare ids)=0:=by
   unfold yus bare;simp
  omega
theorem TreeTo.succ{x:NetR}{v:Nat}{g:Gr}(hg:GoodG g)(h:TreeTo x v g)(hv:v<g.ports.length)(h1:1<=v){a:Nat}(ha:a<v){w:Int}(hw:∃ i,w=1+ycg (atP x.weights i) 15):TreeTo x (v+1) (ygc x.back g a v w):=by
 have hadj:=ybuh (back:=x.back) (g:=g) (a:=a) (b:=v) (w:=w) (by omega) (by omega) (by omega)
 have hno:¬ (a=v\/yki (g.ports.getD a []) v=true):=by
  rintro(e | e)
  ·omega
  ·obtain⟨l,hl,e⟩:=List.any_eq_true.1 e;have e:=of_decide_eq_true e;have:adj g v a:=hg.adj_symm (yhg.2 ⟨l,hl,e⟩);obtain⟨l',hl',_⟩:=yhg.1 this;rw[h.none_ v (Nat.le_refl _)]at hl';exact absurd hl' List.not_mem_nil
 have e:ygc x.back g a v w=ybr x.back g a v w:=by unfold ygc;rw[if_neg hno]
 refine⟨fun u h0 hu=>?_,ybgz (by omega) hv hw h.wt,fun u hu=>?_,?_⟩
 ·by_cases q:u=v
  ·subst q;exact⟨a,ha,hadj⟩
  ·exact ybae (by omega) hv h.tre u h0 (by omega)
 ·rw[e,yct x.back g w (by omega) hv,if_neg (by omega),if_neg (by omega)]
  exact h.none_ u (by omega)
 ·rw[e,ybiv (by omega) hv (by omega)]
  have:=h.count;omega
namespace Sh
open Ev Go.RowKit
set_option maxRecDepth 8000
theorem yqd{n:Nat}{P:List (List (Int × Int))}{f:SV->SV}(hf:∀ k z,f (.i k z) = .i k z){i:Nat}(hi:i<n):(match (if i<n then some (rowO (P.getD i []))else none)with | some b=>some (⟨b.e,b.bx,b.z,b.n,fun k=>(b.g k).map f⟩:OB) | none=>none)=some (rowO (P.getD i [])):=by
 rw[if_pos hi];simp[rowO,hf]
theorem ycwa{x:NetR}(hx:x.ok){most:Nat}(hm:1<=most/\most<=24) :
  Cm Tryz.prog 21 [] [] [.ag (netC x),.i .i64 most] fun r o=>∃ g,GoodG g/\TreeTo x g.ports.length g/\g.ports.length<=most/\r=linkA g/\o=linkO g.ports:=by
 refine ycsq [] [75,76] _ _ _ ?_;have hN:=nodes_ok hx hm;obtain⟨hx1,hx2,hx3,hx4⟩:=hx;simp only[netC]at hN;simp only[c21,ydeu,yddh,netC,go_sem,Nat.reduceEqDiff,Nat.reduceAdd,Nat.reduceLT,↓reduceIte,reduceCtorEq];refine callM_of hN [(17,117)] 0 [2,4] [2,4] ?_ ?_
 ·simp only[okN,famCln,obCln,keepF,keepO,allQ,live,sim_self,go_sem,Nat.reduceEqDiff,Nat.reduceAdd,Nat.reduceBEq,↓reduceIte,reduceCtorEq]
 rintro r o' ⟨ids,h1,h2,h3,rfl,rfl⟩;obtain⟨n,hn⟩:∃ n,ids.length=n:=⟨_,rfl⟩;rw[hn]at h1;simp only[hn,thenM,ygw,nuF,nu,difN,keepF,keepO,Fam.ren,OB.ren,dim,ycxf,ylh,ygs,go_sem,Nat.reduceEqDiff,Nat.reduceAdd,Nat.reduceLT,Nat.reduceBEq,↓reduceIte];simp only[ydbl,go_sem]
 refine ybd (σ:=Nat × Gr) (fun q=>⟨[(6,.i .i64 q.1),(5,.pt (5,0) 0 0),(2,.pt (2,0) 0 0),(4,.pt (4,0) 0 0)],
   (5,.one (some ⟨27,true,2,1,fun _=>[yg q.2.ids,.os (211,0) 0 n true]⟩)) :: (2,.one (some ⟨24,true,6,1,fun _=>netC x⟩)) :: (4,.one (some ⟨27,true,2,1,fun _=>[.a (.slice none 0 0),.a (.slice none 0 0)]⟩)) :: linkO q.2.ports⟩)
  (fun q=>GoodG q.2/\q.2.ports.length=n/\TreeTo x q.1 q.2/\1<=q.1/\q.1<=n) (fun q=>n - q.1) (1,bare ids) ⟨bare_good (by omega) (by omega) h2 h3,by simp[bare,hn],TreeTo.zero x ids,by omega,by omega⟩ ?_ ?_
 ·refine weak_all [(211,fun i=>(117,i))] [212] [] ?_;have b1:(bare ids).ids=ids:=rfl;have b2:(bare ids).ports.length=n:=by simp[bare,hn]
  have b3:∀ v,(bare ids).ports.getD v [] = []:=bare_ports ids;simp only[netC,linkO,rowO,b1,b2,b3,List.length_nil,allQ,live,sim_self,yh,go_sem,Nat.reduceEqDiff,Nat.reduceBEq,↓reduceIte,reduceCtorEq];refine⟨rfl,fun i hi=>⟨(212,i),rfl,rfl,by simp[hi]⟩,fun i b hb=>?_⟩
  obtain⟨_,rfl⟩:=some_row hb;exact⟨rfl,rfl⟩
 ·rintro⟨v,g⟩ ⟨hg,hgn,htr,hv1,hvn⟩;have hg:GoodG g:=hg;have hgn:g.ports.length=n:=hgn;have htr:TreeTo x v g:=htr;have hv1:1<=v:=hv1;have hvn:v<=n:=hvn
  by_cases hlt:v<n
  ·have ht:decide ((v:Int)<(n:Int))=true:=decide_eq_true (by omega)
   have hv2:(v:Int) - 1=((v - 1:Nat):Int):=by omega
   have hA1:=at_ret x.links (v - 1);have hA2:=at_ret x.weights (v - 1);have hi1:=ycm (v:=atP x.links (v - 1)) (m:=(v:Int)) (by omega)
   have hi2:=ycm (v:=atP x.weights (v - 1)) (m:=15) (by omega)
   have hW1:=ycl (atP x.links (v - 1)) v (by omega) (hx2 _)
   have hW2:=ycl (atP x.weights (v - 1)) 15 (by omega) (hx3 _)
   obtain⟨a,ha⟩:∃ a:Nat,ycg (atP x.links (v - 1)) v=a:=Int.eq_ofNat_of_zero_le hi1.1;obtain⟨w,hw⟩:∃ w:Int,ycg (atP x.weights (v - 1)) 15=w:=⟨_,rfl⟩;rw[ha]at hW1 hi1;rw[hw]at hW2 hi2;have hL:=ybpf (x:=x) (g:=g) (a:=a) (b:=v) (w:=1+w) (by omega) (by omega) (by omega) (fun u=>by have:=hg.deg_lt (v:=u);omega)
   simp only[ycvc,ydcb,ydbd,netC,linkO,ht,hv2,clash,go_sem,Nat.reduceEqDiff,Nat.reduceAdd,Nat.reduceLeDiff,Nat.reduceBEq,↓reduceIte,reduceCtorEq];refine⟨ikw (by omega) (by omega),hA1.use ?_⟩
   simp only[thenO,clash,go_sem,Nat.reduceEqDiff,Nat.reduceAdd,Nat.reduceLeDiff,Nat.reduceBEq,↓reduceIte,reduceCtorEq];refine hW1.use ?_;simp only[hv2,go_sem];refine⟨ikw (by omega) (by omega),hA2.use ?_⟩
   simp only[go_sem,↓reduceIte];refine hW2.use ?_;simp only[go_sem,Nat.reduceEqDiff,Nat.reduceBEq,↓reduceIte];refine⟨ikw (by omega) (by omega),callM_of hL [(211,211),(212,212)] 0 [2,4,5,6] [2,4,5] ?_ ?_⟩
   ·simp only[netC,linkA,linkO,hgn,to1,okN,famCln,obCln,keepF,keepO,allQ,live,sim_self,go_sem,Nat.reduceEqDiff,Nat.reduceAdd,Nat.reduceBEq,↓reduceIte,reduceCtorEq];refine⟨⟨fun i _ j _ e=>e,fun i hi=>by rw[if_pos hi],fun i b hb=>?_⟩,by decide⟩
    obtain⟨hi,rfl⟩:=some_row hb;exact⟨_,if_pos hi,⟨rfl,rfl,rfl,rfl⟩,fun k hk=>by simp only[rowO,live,sim_self,go_sem,reduceCtorEq]⟩
   ·rintro r o' ⟨rfl,rfl⟩;simp only[linkO,thenM,ygw,nuF,nu,difN,keepF,keepO,Fam.ren,OB.ren,dim,yrx,ygs,go_sem,Nat.reduceEqDiff,Nat.reduceAdd,Nat.reduceBEq,↓reduceIte,reduceCtorEq];obtain⟨gg1,gg2,gg3⟩:=yua (back:=x.back) (a:=a) (b:=v) (w:=1+w) hg (by omega) (by omega) (by omega)
    have gg4:=htr.succ hg (by omega) hv1 (a:=a) (by omega) (w:=1+w) ⟨v - 1,by rw[hw]⟩
    obtain⟨G,hG⟩:∃ G,ygc x.back g a v (1+w)=G:=⟨_,rfl⟩;rw[hG]at gg1 gg2 gg3 gg4 ⊢;rw[hgn]at gg3;refine⟨ikw (by omega) (by omega),yc (v+1,G) ⟨gg1,gg3,gg4,by omega,by omega⟩ (by show n - (v+1)<n - v;omega) ?_⟩
    ·refine weak_all [] [] [] ?_;simp only[gg3,gg2,allQ,live,sim_self,yh,go_sem,Nat.reduceEqDiff,↓reduceIte,reduceCtorEq];refine⟨fun i _ j _ e=>e,by omega,fun i hi=>by rw[if_pos hi],fun i b hb=>?_⟩
     obtain⟨hi,rfl⟩:=some_row hb;refine⟨_,yqd (f:=ren (nu [(211,211),(212,212)] 0) 5) (fun _ _=>rfl) hi,⟨rfl,rfl,rfl,rfl⟩,fun k hk=>?_⟩;simp only[rowO,live,sim_self,go_sem,reduceCtorEq]
  ·obtain rfl:v=n:=by omega
   have ht:decide ((v:Int)<(v:Int))=false:=decide_eq_false (by omega)
   simp only[ycvc,ydca,netC,linkO,ht,clash,splice,yev,go_sem,Nat.reduceEqDiff,Nat.reduceAdd,↓reduceIte,reduceCtorEq];refine⟨linkA g,linkO g.ports,?_,?_,g,hg,by rw[hgn];exact htr,by omega,rfl,rfl⟩
   ·refine weak_all [] [] [] ?_;simp only[linkO,linkA,hgn,allQ,live,sim_self,go_sem,Nat.reduceEqDiff,↓reduceIte,reduceCtorEq];refine⟨fun i _ j _ e=>e,fun i hi=>by rw[if_pos hi],fun i b hb=>?_⟩
    obtain⟨hi,rfl⟩:=some_row hb;exact⟨_,if_pos hi,⟨rfl,rfl,rfl,rfl⟩,fun k hk=>by simp only[rowO,live,sim_self,go_sem,reduceCtorEq]⟩
   ·simp only[linkO,linkA,famCln,obCln,allQ,live,go_sem,Nat.reduceEqDiff,↓reduceIte];refine⟨fun i hi=>by rw[if_pos hi],fun i b hb k hk=>?_⟩
    obtain⟨hi,rfl⟩:=some_row hb;simp only[rowO,go_sem]
end Sh
end Go.Proofs.YtiejahgklcjhkaaGreatDoor

namespace Go.Proofs.YtiejahgklcjhkaaGreatDoor
open Go
namespace Sh
open Ev Go.RowKit
set_option maxRecDepth 8000
theorem ybmx{x:NetR}(hx:x.ok){g:Gr}(hg:GoodG g){Q:Gr->Prop}(ht:Q g)(hQ:∀ G a b w,GoodG G->G.ports.length=g.ports.length->a<G.ports.length->b<G.ports.length->(∃ i,w=1+ycg (atP x.weights i) 15)->Q G->Q (ygc x.back G a b w)) :
  Cm Tryz.prog 105 [] (linkO g.ports) [.ag (netC x),linkA g] fun r o=>∃ g',GoodG g'/\Q g'/\g'.ports.length=g.ports.length/\r=linkA g'/\o=linkO g'.ports:=by
 refine ybwd [] [76] _ _ _ ?_;obtain⟨hx1,hx2,hx3,hx4⟩:=hx;have h1:=hg.1;have h24:=hg.2.1;obtain⟨n,hn⟩:∃ n,g.ports.length=n:=⟨_,rfl⟩;rw[hn]at h1 h24 hQ;obtain⟨L,hL⟩:∃ L,x.links.length=L:=⟨_,rfl⟩;simp only[c105,ycbi,ycnq,ycfj,netC,linkA,linkO,hn,clash,go_sem,Nat.reduceEqDiff,Nat.reduceAdd,Nat.reduceLT,↓reduceIte,reduceCtorEq]
 refine ybd (σ:=Nat × Gr) (fun q=>⟨[(6,.i .i64 q.1),(5,.i .i64 n),(3,.pt (3,0) 0 0),(2,.pt (2,0) 0 0),(4,.pt (4,0) 0 0)],
   (3,.one (some ⟨27,true,2,1,fun _=>[yg q.2.ids,.os (211,0) 0 n true]⟩)) :: (2,.one (some ⟨24,true,6,1,fun _=>netC x⟩)) :: (4,.one (some ⟨27,true,2,1,fun _=>[.a (.slice none 0 0),.a (.slice none 0 0)]⟩)) :: linkO q.2.ports⟩)
  (fun q=>GoodG q.2/\q.2.ports.length=n/\Q q.2/\q.1<=61) (fun q=>62 - q.1) (n,g) ⟨hg,hn,ht,by show n<=61;omega⟩ ?_ ?_
 ·refine weak_all [] [] [] ?_;simp only[netC,linkO,hn,allQ,live,sim_self,go_sem,Nat.reduceEqDiff,↓reduceIte,reduceCtorEq];refine⟨fun i _ j _ e=>e,fun i hi=>by rw[if_pos hi],fun i b hb=>?_⟩
  obtain⟨hi,rfl⟩:=some_row hb;exact⟨_,if_pos hi,⟨rfl,rfl,rfl,rfl⟩,fun k hk=>by simp only[rowO,live,sim_self,go_sem,reduceCtorEq]⟩
 ·rintro⟨i,G⟩ ⟨gg,ggn,gtr,hi61⟩;have gg:GoodG G:=gg;have ggn:G.ports.length=n:=ggn;have gtr:Q G:=gtr;have hi61:i<=61:=hi61;have hi1:(i:Int)+1=((i+1:Nat):Int):=by omega
  by_cases hlt:i+1<L
  ·by_cases h60:i<60
   ·have ht1:decide (((i+1:Nat):Int)<(L:Int))=true:=decide_eq_true (by omega)
    have ht2:decide ((i:Int)<60)=true:=decide_eq_true (by omega)
    have hA2:=at_ret x.weights i;have hi2:=ycm (v:=atP x.weights i) (m:=15) (by omega)
    have hw1:=ycm (v:=x.links.getD i 0) (m:=(n:Int)) (by omega)
    have hw2:=ycm (v:=x.links.getD (i+1) 0) (m:=(n:Int)) (by omega)
    have hW1:=ycl (x.links.getD i 0) n (by omega) (hx2 i)
    have hW2:=ycl (x.links.getD (i+1) 0) n (by omega) (hx2 (i+1))
    have hW3:=ycl (atP x.weights i) 15 (by omega) (hx3 _)
    obtain⟨a,ha⟩:∃ a:Nat,ycg (x.links.getD i 0) n=a:=Int.eq_ofNat_of_zero_le hw1.1;obtain⟨b,hb⟩:∃ b:Nat,ycg (x.links.getD (i+1) 0) n=b:=Int.eq_ofNat_of_zero_le hw2.1;obtain⟨w,hw⟩:∃ w:Int,ycg (atP x.weights i) 15=w:=⟨_,rfl⟩;rw[ha]at hW1 hw1;rw[hb]at hW2 hw2;rw[hw]at hW3 hi2;have hK:=ybpf (x:=x) (g:=G) (a:=a) (b:=b) (w:=1+w) (by omega) (by omega) (by omega) (fun u=>by have:=gg.deg_lt (v:=u);omega)
    simp only[ybgv,yckr,yckt,netC,linkO,yg,hL,hi1,ht1,ht2,clash,go_sem,Nat.reduceEqDiff,Nat.reduceAdd,Nat.reduceLeDiff,Nat.reduceBEq,↓reduceIte,reduceCtorEq];refine⟨ikw (by omega) (by omega),⟨by omega,by omega⟩,hW1.use ?_⟩
    simp only[thenO,clash,hi1,go_sem,Nat.reduceEqDiff,Nat.reduceAdd,Nat.reduceLeDiff,Nat.reduceBEq,↓reduceIte,reduceCtorEq];refine⟨ikw (by omega) (by omega),⟨by omega,by omega⟩,hW2.use ?_⟩
    simp only[go_sem];simp only[yg]at hA2;refine hA2.use ?_;simp only[go_sem,↓reduceIte];refine hW3.use ?_;simp only[go_sem,Nat.reduceEqDiff,↓reduceIte];refine⟨ikw (by omega) (by omega),callM_of hK [(211,211),(212,212)] 0 [2,3,4,5,6] [2,3,4] ?_ ?_⟩
    ·simp only[netC,linkA,linkO,ggn,yg,hL,to1,okN,famCln,obCln,keepF,keepO,allQ,live,sim_self,go_sem,Nat.reduceEqDiff,Nat.reduceAdd,Nat.reduceBEq,↓reduceIte,reduceCtorEq];refine⟨⟨fun i _ j _ e=>e,fun i hi=>by rw[if_pos hi],fun i b hb=>?_⟩,by decide⟩
     obtain⟨hi,rfl⟩:=some_row hb;exact⟨_,if_pos hi,⟨rfl,rfl,rfl,rfl⟩,fun k hk=>by simp only[rowO,live,sim_self,go_sem,reduceCtorEq]⟩
    ·rintro r o' ⟨rfl,rfl⟩;simp only[linkO,thenM,ygw,nuF,nu,difN,keepF,keepO,Fam.ren,OB.ren,dim,yrx,ygs,go_sem,Nat.reduceEqDiff,Nat.reduceAdd,Nat.reduceBEq,↓reduceIte,reduceCtorEq];obtain⟨gg1,gg2,gg3⟩:=yua (back:=x.back) (a:=a) (b:=b) (w:=1+w) gg (by omega) (by omega) (by omega)
     have gg4:=hQ G a b (1+w) gg ggn (by omega) (by omega) ⟨i,by rw[hw]⟩ gtr
     obtain⟨H,hH⟩:∃ H,ygc x.back G a b (1+w)=H:=⟨_,rfl⟩;rw[hH]at gg1 gg2 gg3 gg4 ⊢;rw[ggn]at gg3;refine⟨ikw (by omega) (by omega),yc (i+2,H) ⟨gg1,gg3,gg4,by show i+2<=61;omega⟩ (by show 62 - (i+2)<62 - i;omega) ?_⟩
     refine weak_all [] [] [] ?_;simp only[gg3,gg2,allQ,live,sim_self,yh,go_sem,Nat.reduceEqDiff,↓reduceIte,reduceCtorEq];refine⟨fun i _ j _ e=>e,by omega,fun i hi=>by rw[if_pos hi],fun i b hb=>?_⟩
     obtain⟨hi,rfl⟩:=some_row hb;refine⟨_,yqd (f:=ren (nu [(211,211),(212,212)] 0) 5) (fun _ _=>rfl) hi,⟨rfl,rfl,rfl,rfl⟩,fun k hk=>?_⟩;simp only[rowO,live,sim_self,go_sem,reduceCtorEq]
   ·have ht1:decide (((i+1:Nat):Int)<(L:Int))=true:=decide_eq_true (by omega)
    have ht2:decide ((i:Int)<60)=false:=decide_eq_false (by omega)
    simp only[ybgv,ybvd,netC,linkO,yg,hL,hi1,ht1,ht2,clash,splice,yev,go_sem,Nat.reduceEqDiff,Nat.reduceAdd,Nat.reduceLeDiff,↓reduceIte,reduceCtorEq];refine⟨ikw (by omega) (by omega),?_⟩
    refine⟨linkA G,linkO G.ports,?_,?_,G,gg,gtr,ggn,rfl,rfl⟩
    ·refine weak_all [] [] [] ?_;simp only[linkO,linkA,ggn,yg,allQ,live,sim_self,go_sem,Nat.reduceEqDiff,↓reduceIte,reduceCtorEq];refine⟨fun i _ j _ e=>e,fun i hi=>by rw[if_pos hi],fun i b hb=>?_⟩
     obtain⟨hi,rfl⟩:=some_row hb;exact⟨_,if_pos hi,⟨rfl,rfl,rfl,rfl⟩,fun k hk=>by simp only[rowO,live,sim_self,go_sem,reduceCtorEq]⟩
    ·simp only[linkO,linkA,famCln,obCln,allQ,live,go_sem,Nat.reduceEqDiff,↓reduceIte];refine⟨fun i hi=>by rw[if_pos hi],fun i b hb k hk=>?_⟩
     obtain⟨hi,rfl⟩:=some_row hb;simp only[rowO,go_sem]
  ·have ht1:decide (((i+1:Nat):Int)<(L:Int))=false:=decide_eq_false (by omega)
   simp only[ybgv,ybvd,netC,linkO,yg,hL,hi1,ht1,clash,splice,yev,go_sem,Nat.reduceEqDiff,Nat.reduceAdd,Nat.reduceLeDiff,↓reduceIte,reduceCtorEq];refine⟨ikw (by omega) (by omega),?_⟩
   refine⟨linkA G,linkO G.ports,?_,?_,G,gg,gtr,ggn,rfl,rfl⟩
   ·refine weak_all [] [] [] ?_;simp only[linkO,linkA,ggn,yg,allQ,live,sim_self,go_sem,Nat.reduceEqDiff,↓reduceIte,reduceCtorEq];refine⟨fun i _ j _ e=>e,fun i hi=>by rw[if_pos hi],fun i b hb=>?_⟩
    obtain⟨hi,rfl⟩:=some_row hb;exact⟨_,if_pos hi,⟨rfl,rfl,rfl,rfl⟩,fun k hk=>by simp only[rowO,live,sim_self,go_sem,reduceCtorEq]⟩
   ·simp only[linkO,linkA,famCln,obCln,allQ,live,go_sem,Nat.reduceEqDiff,↓reduceIte];refine⟨fun i hi=>by rw[if_pos hi],fun i b hb k hk=>?_⟩
    obtain⟨hi,rfl⟩:=some_row hb;simp only[rowO,go_sem]
theorem ysm{x:NetR}(hx:x.ok){most:Nat}(hm:1<=most/\most<=24) :
  Ct Tryz.prog 70 [.ag (netC x),.i .i64 most] fun r=>∃ g,GoodG g/\ype g=true/\(g.ports.length<=most/\WtF x g)/\Sim r (grV g):=by
 refine ycsk [21,105] _ _ ?_;have hT:=ycwa hx hm;simp only[netC]at hT;simp only[c70,yddm,ydea,netC,clash,go_sem,Nat.reduceEqDiff,Nat.reduceAdd,Nat.reduceLT,↓reduceIte,reduceCtorEq];refine callM_of hT [(211,211),(212,212)] 0 [2,4,5] [2,4] ?_ ?_
 ·simp only[okN,famCln,obCln,keepF,keepO,allQ,live,sim_self,go_sem,Nat.reduceEqDiff,Nat.reduceAdd,Nat.reduceBEq,↓reduceIte,reduceCtorEq]
 rintro r o' ⟨g,hg,ht,hn,rfl,rfl⟩;have hM:=ybmx (Q:=fun G=>Tre G g.ports.length/\WtF x G) hx hg ⟨ht.tre,ht.wt⟩ (fun G a b w gG gl ga gb gw gQ=>⟨ybae ga gb gQ.1,ybgz ga gb gw gQ.2⟩);simp only[netC]at hM;simp only[linkO,linkA,thenM,ygw,nuF,nu,difN,keepF,keepO,Fam.ren,OB.ren,dim,ylh,ygs,go_sem,Nat.reduceEqDiff,Nat.reduceAdd,Nat.reduceBEq,↓reduceIte];refine callM_of hM [(211,211),(212,212)] 0 [4] [4] ?_ ?_
 ·simp only[linkA,linkO,to1,okN,famCln,obCln,keepF,keepO,allQ,live,sim_self,go_sem,Nat.reduceEqDiff,Nat.reduceAdd,Nat.reduceBEq,↓reduceIte,reduceCtorEq];refine⟨⟨fun i _ j _ e=>e,fun i hi=>by rw[if_pos hi],fun i b hb=>?_⟩,by decide⟩
  obtain⟨hi,rfl⟩:=some_row hb;refine⟨_,yqd (f:=ren (nu [(211,211),(212,212)] 0) 5) (fun _ _=>rfl) hi,⟨rfl,rfl,rfl,rfl⟩,fun k hk=>?_⟩;simp only[rowO,live,sim_self,go_sem,reduceCtorEq]
 rintro r o' ⟨G,gg,⟨gt,gw⟩,gn,rfl,rfl⟩;simp only[linkO,linkA,clash,splice,thenM,ygw,nuF,nu,difN,keepF,keepO,Fam.ren,OB.ren,dim,ylh,ygs,go_sem,Nat.reduceEqDiff,Nat.reduceAdd,Nat.reduceBEq,↓reduceIte];refine⟨by decide,fun q hq=>?_,G,gg,Tre.conn gg (by rw[gn];exact gt),⟨by omega,gw⟩,?_⟩
 ·simp only[if_pos hq];exact⟨Nat.le_refl _,fun k hk=>by simp only[rowO,go_sem]⟩
 ·refine ylk ⟨Sim.refl _,?_,trivial⟩;refine ygb fun q hq=>?_;simp only[if_pos hq];simp only[rowO,yu,yex,go_sem];exact⟨Sim.refl _,trivial⟩
theorem ywx{x:NetR}(hx:x.ok){most:Nat}(hm:1<=most/\most<=24) :
  Ct Tryz.prog 70 [.ag (netC x),.i .i64 most] fun r=>∃ g,GoodG g/\ype g=true/\g.ports.length<=most/\Sim r (grV g) :=
 (ysm hx hm).mono fun _ ⟨g,h1,h2,h3,h4⟩=>⟨g,h1,h2,h3.1,h4⟩
end Sh
end Go.Proofs.YtiejahgklcjhkaaGreatDoor

namespace Go.Proofs.YtiejahgklcjhkaaGreatDoor
open Go
namespace Sh
open Ev Go.RowKit
set_option maxRecDepth 8000
theorem ybys(l:List Nat):one1 (usV l)=true:=rfl
theorem ybpk{n:Nat}(l:List Nat):owned (n+1) (usV l)=false:=rfl
theorem ybhw{n:Nat}(l:List Nat):scalar (n+1) (usV l)=false:=rfl
theorem ybvk{n:Nat}(o:Own)(l:List Nat):view o (n+1) (usV l)=usV l:=rfl
theorem ycsg{n:Nat}(o:Own)(l:List Nat):vok o (n+1) (usV l)=True:=rfl
theorem ycrf{n:Nat}(h:Nm->Nm)(l:List Nat):ren h (n+1) (usV l)=usV l:=rfl
theorem ycqg{n:Nat}(D:Nm->Bool)(l:List Nat):cln D (n+1) (usV l)=true:=rfl
theorem ybsk{n:Nat}(fr:List Nm)(o:Own)(l:List Nat):ycj fr o (n+1) (usV l)=usV l:=rfl
theorem yctr{n:Nat}(fr:List Nm)(o:Own)(l:List Nat):pok fr o (n+1) (usV l)=True:=rfl
theorem ybvb(l:List Nat):SV.cells (usV l) = [usV l]:=rfl
theorem ybei(l:List Conf):one1 (ydd l)=true:=rfl
theorem yxh{n:Nat}(l:List Conf):owned (n+1) (ydd l)=false:=rfl
theorem yvz{n:Nat}(l:List Conf):scalar (n+1) (ydd l)=false:=rfl
theorem ybdi{n:Nat}(o:Own)(l:List Conf):view o (n+1) (ydd l)=ydd l:=rfl
theorem ybkx{n:Nat}(o:Own)(l:List Conf):vok o (n+1) (ydd l)=True:=rfl
theorem ybkr{n:Nat}(h:Nm->Nm)(l:List Conf):ren h (n+1) (ydd l)=ydd l:=rfl
theorem ybku{n:Nat}(D:Nm->Bool)(l:List Conf):cln D (n+1) (ydd l)=true:=rfl
theorem ybad{n:Nat}(fr:List Nm)(o:Own)(l:List Conf):ycj fr o (n+1) (ydd l)=ydd l:=rfl
theorem ybit{n:Nat}(fr:List Nm)(o:Own)(l:List Conf):pok fr o (n+1) (ydd l)=True:=rfl
theorem ybaf(l:List Conf):SV.cells (ydd l) = [ydd l]:=rfl
theorem ybhs(l:List Cnt):one1 (ydr l)=true:=rfl
theorem ybbo{n:Nat}(l:List Cnt):owned (n+1) (ydr l)=false:=rfl
theorem ybao{n:Nat}(l:List Cnt):scalar (n+1) (ydr l)=false:=rfl
theorem ybho{n:Nat}(o:Own)(l:List Cnt):view o (n+1) (ydr l)=ydr l:=rfl
theorem ybmd{n:Nat}(o:Own)(l:List Cnt):vok o (n+1) (ydr l)=True:=rfl
theorem yblo{n:Nat}(h:Nm->Nm)(l:List Cnt):ren h (n+1) (ydr l)=ydr l:=rfl
theorem ybsu{n:Nat}(D:Nm->Bool)(l:List Cnt):cln D (n+1) (ydr l)=true:=rfl
theorem ybbm{n:Nat}(fr:List Nm)(o:Own)(l:List Cnt):ycj fr o (n+1) (ydr l)=ydr l:=rfl
theorem ybsi{n:Nat}(fr:List Nm)(o:Own)(l:List Cnt):pok fr o (n+1) (ydr l)=True:=rfl
theorem ybby(l:List Cnt):SV.cells (ydr l) = [ydr l]:=rfl
theorem ybyu(l:List Bool):one1 (blV l)=true:=rfl
theorem ybpz{n:Nat}(l:List Bool):owned (n+1) (blV l)=false:=rfl
theorem ybjp{n:Nat}(l:List Bool):scalar (n+1) (blV l)=false:=rfl
theorem ybxp{n:Nat}(o:Own)(l:List Bool):view o (n+1) (blV l)=blV l:=rfl
theorem ycwb{n:Nat}(o:Own)(l:List Bool):vok o (n+1) (blV l)=True:=rfl
theorem ycwx{n:Nat}(h:Nm->Nm)(l:List Bool):ren h (n+1) (blV l)=blV l:=rfl
theorem ycwe{n:Nat}(D:Nm->Bool)(l:List Bool):cln D (n+1) (blV l)=true:=rfl
theorem ybmq{n:Nat}(fr:List Nm)(o:Own)(l:List Bool):ycj fr o (n+1) (blV l)=blV l:=rfl
theorem ycqo{n:Nat}(fr:List Nm)(o:Own)(l:List Bool):pok fr o (n+1) (blV l)=True:=rfl
theorem ybtz(l:List Bool):SV.cells (blV l) = [blV l]:=rfl
attribute [go_sem] ybys ybpk ybhw ybvk ycsg ycrf ycqg ybsk yctr ybvb ybei yxh yvz ybdi ybkx ybkr ybku ybad ybit ybaf ybhs ybbo ybao ybho ybmd yblo ybsu ybbm ybsi ybby ybyu ybpz ybjp ybxp ycwb ycwx ycwe ybmq ycqo ybtz
theorem Ct.found{P:Program}{g:FuncId}{args:List SV}{α:Type}{R:SV->α->Prop}{V:α->SV}{Q:SV->Prop}(h:Ct P g args fun r=>∃ x,R r x)(hs:∀ r x,R r x->Sim r (V x))(hq:∀ r x,R r x->Q (V x)):Ct P g args Q:=fun G m us h1 h2 h3=>by
 obtain⟨v,m',r,a,b,c,⟨x,hx⟩,e⟩:=h G m us h1 h2 h3;exact⟨v,m',V x,a,b,c,hq r x hx,hs r x hx _ _ _ e⟩
theorem Sys.run_len(S:Sys)(res:Nat->Nat->Nat):∀ (ws:List Nat) (c:Conf) (k:Cnt),(S.run res ws c k).length<=ws.length
 | [],_,_=>Nat.le_refl _
 | w :: ws,c,k=>by
  unfold Sys.run;split
  ·exact Nat.zero_le _
  ·simp only[List.length_cons];have:=Sys.run_len S res ws (S.mv c (res (S.en c) w)) (addP k (res (S.en c) w) (S.en (S.mv c (res (S.en c) w))));omega
structure RunD(S:Sys)(res:Nat->Nat->Nat)(ws:List Nat)(c:Conf)(n:Nat)(Cs:List Conf)(Ks:List Cnt):Prop where
 cs:(S.runs res ws c).map (·.1)=Cs
 ks:(S.runs res ws c).map (·.2)=Ks
 len:(S.runs res ws c).length=n
 pos:0<n
 le:n<=ws.length+1
theorem RunD.at_{S:Sys}{res:Nat->Nat->Nat}{ws:List Nat}{c:Conf}{n:Nat}{Cs:List Conf}{Ks:List Cnt}(h:RunD S res ws c n Cs Ks){k:Nat}(hk:k<n):(Cs.getD k [],Ks.getD k default) ∈ S.runs res ws c/\(S.runs res ws c)[k]? = some (Cs.getD k [],Ks.getD k default):=by
 have hk':k<(S.runs res ws c).length:=by rw[h.len];exact hk
 have e:(S.runs res ws c)[k]=(Cs.getD k [],Ks.getD k default):=by
  rw[<- h.cs,<- h.ks];simp[List.getD,hk']
 exact⟨by rw[<- e];exact List.getElem_mem hk',by rw[<- e];exact List.getElem?_eq_getElem hk'⟩
theorem RunD.lC{S:Sys}{res:Nat->Nat->Nat}{ws:List Nat}{c:Conf}{n:Nat}{Cs:List Conf}{Ks:List Cnt}(h:RunD S res ws c n Cs Ks):Cs.length=n:=by rw[<- h.cs,List.length_map,h.len]
theorem RunD.lK{S:Sys}{res:Nat->Nat->Nat}{ws:List Nat}{c:Conf}{n:Nat}{Cs:List Conf}{Ks:List Cnt}(h:RunD S res ws c n Cs Ks):Ks.length=n:=by rw[<- h.ks,List.length_map,h.len]
theorem runD(S:Sys)(res:Nat->Nat->Nat)(ws:List Nat)(c:Conf):∃ n Cs Ks,RunD S res ws c n Cs Ks :=
 ⟨_,_,_,rfl,rfl,rfl,by simp[Sys.runs],by have:=Sys.run_len S res ws c (yei (S.en c));simp only[Sys.runs,List.length_cons];omega⟩
theorem RunD.last{S:Sys}{res:Nat->Nat->Nat}{ws:List Nat}{c:Conf}{n:Nat}{Cs:List Conf}{Ks:List Cnt}(h:RunD S res ws c n Cs Ks){k:Nat}(hk:k+1<n):S.en (Cs.getD k []) ≠ 0:=by
 have h1:=(h.at_ (show k<n by omega)).2
 exact Sys.runs_last (by rw[h.len];exact hk) h1
theorem ybxe {L:Conf->Bool} {S:Sys} {res:Nat->Nat->Nat} {ws:List Nat} {c:Conf} {n:Nat} {Cs:List Conf} {Ks:List Cnt} (h:RunD S res ws c n Cs Ks) {B:Nat->Bool} (hB:(fun k=>L (Cs.getD k []))=B) {kind rounds moves:Int} {fair silent ended:Bool}
  (hh:HeldOk ((S.runs res ws c).map fun p=>L p.1) ((S.runs res ws c).map (·.2)) rounds moves ended) (hl:n<=100000) {Q:SV->Prop} (hq:Q (.b true)) :
  Ct Tryz.prog 38 [.sl 1 n fun j=>[.b (B j)],.sl 5 n fun i=>cntV (Ks.getD i default),.ag [.i .i64 kind,.b fair,.b silent,.i .i64 rounds,.i .i64 moves],.b ended] Q:=by
 have lL:((S.runs res ws c).map fun p=>L p.1).length=n:=by rw[List.length_map,h.len]
 refine(ybvr hh (by rw[lL];exact hl)).useS ⟨?_,?_,Sim.refl _,Sim.refl _,trivial⟩ hq
 ·unfold blV;rw[lL];refine sim_sl fun k hk=>?_
  have e:((S.runs res ws c).map fun p=>L p.1).getD k false=B k:=by
   rw[List.getD_eq_getElem?_getD,List.getElem?_map,(h.at_ hk).2,<- hB];rfl
  rw[e]
 ·unfold ydr;rw[h.ks,h.lK];exact Sim.refl _
theorem ybng{S:Sys}{res:Nat->Nat->Nat}{ws:List Nat}{c:Conf}{n:Nat}{Cs:List Conf}{Ks:List Cnt}(h:RunD S res ws c n Cs Ks){ended:Bool}(he:decide (S.en (Cs.getD (n - 1) [])=0)=ended) :
  ended=true -> ∀ p,(S.runs res ws c)[(S.runs res ws c).length - 1]? = some p->S.en p.1=0:=fun hq p hp=>by
 rw[h.len]at hp;have h1:=(h.at_ (show n - 1<n by have:=h.pos;omega)).2
 rw[h1]at hp;cases hp
 rw[hq]at he;exact of_decide_eq_true he
end Sh
end Go.Proofs.YtiejahgklcjhkaaGreatDoor

namespace Go.Proofs.YtiejahgklcjhkaaGreatDoor
open Go
def ybh(s:Nat):List Nat:=(List.range 32).filter s.testBit
theorem yxv{p q:Nat->Bool}{n t:Nat}(ht:t<n)(h1:p t=true)(h2:∀ i,i<t->p i=false)(h3:∀ i,q i=(p i && !decide (i=t))):(List.range n).filter p=t :: (List.range n).filter q:=by
 obtain⟨d,rfl⟩:∃ d,n=t+(d+1):=⟨n - t - 1,by omega⟩
 rw[List.range_add,List.filter_append,List.filter_append,List.range_succ_eq_map];have a1:(List.range t).filter p = []:=List.filter_eq_nil_iff.2 fun x hx=>by rw[h2 x (List.mem_range.1 hx)];simp
 have a2:(List.range t).filter q = []:=List.filter_eq_nil_iff.2 fun x hx=>by rw[h3,h2 x (List.mem_range.1 hx)];simp
 rw[a1,a2,List.map_cons,List.nil_append,List.nil_append,Nat.add_zero,List.filter_cons_of_pos h1,List.filter_cons_of_neg (by rw[h3];simp)]
 congr 1;refine List.filter_congr fun x hx=>?_;obtain⟨y,hy,rfl⟩:=List.mem_map.1 hx;obtain⟨z,_,rfl⟩:=List.mem_map.1 hy;rw[h3];have:decide (t+z.succ=t)=false:=decide_eq_false (by omega)
 rw[this];simp
theorem ycad{x:Nat}(h0:x ≠ 0)(h:x<2 ^ 32):Lib.ctz 32 x<32/\x.testBit (Lib.ctz 32 x)=true/\(∀ i,i<Lib.ctz 32 x->x.testBit i=false) /\ ∀ i,(x &&& (x - 1)).testBit i=(x.testBit i && !decide (i=Lib.ctz 32 x)):=by
 obtain⟨m,hm,hk⟩:=Lib.ctzFrom_spec 32 x (by omega) h
 have e:Lib.ctz 32 x=Lib.ctzFrom 32 x:=by simp[Lib.ctz,h0]
 rw[e];obtain⟨k,hkk⟩:∃ k,Lib.ctzFrom 32 x=k:=⟨_,rfl⟩;rw[hkk]at hm hk ⊢;have hp:0<2 ^ k:=Nat.two_pow_pos k
 have b1:∀ j,x.testBit j=if j<k then false else(2 * m+1).testBit (j - k):=fun j=>by
  have:=Nat.testBit_two_pow_mul_add (2 * m+1) hp j;rw[Nat.add_zero,<- hm]at this;rw[this];simp
 have e2:x - 1=2 ^ k * (2 * m)+(2 ^ k - 1):=by
  have:2 ^ k * (2 * m+1)=2 ^ k * (2 * m)+2 ^ k:=by rw[Nat.mul_add,Nat.mul_one]
  omega
 have b2:∀ j,(x - 1).testBit j=if j<k then(2 ^ k - 1).testBit j else(2 * m).testBit (j - k):=fun j=>by
  rw[e2];exact Nat.testBit_two_pow_mul_add (2 * m) (show 2 ^ k - 1<2 ^ k by omega) j
 refine⟨hk,by rw[b1,if_neg (by omega),Nat.sub_self];simp,fun i hi=>by rw[b1,if_pos hi],fun i=>?_⟩
 rw[Nat.testBit_and,b1,b2]
 by_cases q:i<k
 ·rw[if_pos q];simp
 ·rw[if_neg q,if_neg q]
  by_cases q2:i=k
  ·subst q2;simp
  ·obtain⟨j,hj⟩:∃ j,i - k=j+1:=⟨i - k - 1,by omega⟩
   rw[hj,Nat.testBit_succ,Nat.testBit_succ,show(2 * m+1) / 2=m by omega,show 2 * m / 2=m by omega]
   simp[q2]
theorem ymt:ybh 0 = []:=List.filter_eq_nil_iff.2 fun x _=>by simp
theorem ymc{x:Nat}(h0:x ≠ 0)(h:x<2 ^ 32):ybh x=Lib.ctz 32 x :: ybh (x &&& (x - 1)):=by
 obtain⟨h1,h2,h3,h4⟩:=ycad h0 h;exact yxv h1 h2 h3 h4
def ych(s:Nat):Nat->Nat
 | 0=>s
 | k+1=>ych s k &&& (ych s k - 1)
theorem ylm{s:Nat}(h:s<2 ^ 32):∀ k,ych s k<2 ^ 32
 | 0=>h
 | k+1=>Nat.lt_of_le_of_lt Nat.and_le_left (ylm h k)
theorem ynh{s:Nat}(h:s<2 ^ 32):∀ k,ybh (ych s k)=(ybh s).drop k
 | 0=>by simp[ych]
 | k+1=>by
  have ih:=ynh h k;show ybh (ych s k &&& (ych s k - 1))=_
  by_cases h0:ych s k=0
  ·rw[h0,ymt]at ih;rw[h0,Nat.zero_and,ymt,<- List.drop_drop,<- ih];rfl
  ·rw[ymc h0 (ylm h k)]at ih;rw[<- List.drop_drop,<- ih];rfl
theorem rest_end{s k:Nat}(h:s<2 ^ 32)(hk:k<=(ybh s).length):ych s k=0 ↔ k=(ybh s).length:=by
 have hd:=ynh h k;constructor
 ·intro e;rw[e,ymt]at hd;have:=congrArg List.length hd;rw[List.length_drop,List.length_nil]at this;omega
 ·intro e;rw[e,List.drop_length]at hd;refine Classical.byContradiction fun q=>?_;rw[<- e]at hd;rw[ymc q (ylm h k)]at hd;cases hd
theorem ycui{s k:Nat}(h:s<2 ^ 32)(hk:k<(ybh s).length):ych s k ≠ 0/\Lib.ctz 32 (ych s k)=(ybh s).getD k 0:=by
 have h0:ych s k ≠ 0:=fun e=>by have:=(rest_end h (Nat.le_of_lt hk)).1 e;omega
 refine⟨h0,?_⟩;have hd:=ynh h k;rw[ymc h0 (ylm h k),List.drop_eq_getElem_cons hk]at hd;have:=(List.cons.inj hd).1;rw[this,List.getD_eq_getElem?_getD,List.getElem?_eq_getElem hk];rfl
theorem ybtk{s v:Nat}:v ∈ ybh s ↔ v<32/\s.testBit v=true:=by
 unfold ybh;rw[List.mem_filter,List.mem_range]
end Go.Proofs.YtiejahgklcjhkaaGreatDoor

namespace Go.Proofs.YtiejahgklcjhkaaGreatDoor
def takeB(net:Nat->Nat)(t v:Nat):Nat:=if net v &&& t=0 then t ||| 2 ^ v else t
def resL(net:Nat->Nat)(e w:Nat):Nat:=if e<2 ^ 24 then(ybh (resD e w)).foldl (takeB net) 0 else 2 ^ e.log2
theorem yos{t v i:Nat}:(t ||| 2 ^ v).testBit i=true ↔ t.testBit i=true\/i=v:=by
 rw[Nat.testBit_or,Bool.or_eq_true,Nat.testBit_two_pow,decide_eq_true_iff];exact or_congr Iff.rfl eq_comm
theorem ylx{g:Gr}(hg:GoodG g){net:Nat->Nat}(hn:∀ u v,adj g u v->(net u).testBit v=true):∀ (l:List Nat) (t:Nat),yll g t ->
  yll g (l.foldl (takeB net) t)/\(∀ i,(l.foldl (takeB net) t).testBit i=true->t.testBit i=true\/i ∈ l)/\(∀ i,t.testBit i=true->(l.foldl (takeB net) t).testBit i=true)
 | [],t,h=>⟨h,fun _ h=>.inl h,fun _ h=>h⟩
 | v :: l,t,h=>by
  have h':yll g (takeB net t v):=by
   unfold takeB;split
   ·rename_i q
    have no:∀ w,adj g v w->t.testBit w=false:=fun w hw=>by
     cases r:t.testBit w with
     | false=>rfl
     | true =>
      have:(net v &&& t).testBit w=true:=by rw[Nat.testBit_and,hn v w hw,r];rfl
      rw[q]at this;simp at this
    intro a b hab ha;cases r:(t ||| 2 ^ v).testBit b with
    | false=>rfl
    | true =>
     exfalso
     rcases yos.1 ha with a1 | a1<;>rcases yos.1 r with b1 | b1
     ·have:=h a b hab a1;rw[b1]at this;cases this
     ·rw[b1]at hab;have:=no a (hg.adj_symm hab);rw[a1]at this;cases this
     ·rw[a1]at hab;have:=no b hab;rw[b1]at this;cases this
     ·rw[a1,b1]at hab;obtain⟨hu,_⟩:=hg.adj_lt hab;obtain⟨l,hl,e⟩:=yhg.1 hab;have e3:g.ports[v]? = some (g.ports.getD v []):=by simp[List.getD,hu]
      exact(hg.link e3 hl).2.2.1 e
   ·exact h
  obtain⟨a1,a2,a3⟩:=ylx hg hn l _ h';rw[List.foldl_cons];refine⟨a1,fun i hi=>?_,fun i hi=>a3 i ?_⟩
  ·rcases a2 i hi with q | q
   ·unfold takeB at q;split at q
    ·rcases yos.1 q with q | q
     ·exact .inl q
     ·exact .inr (by rw[q];exact List.mem_cons_self)
    ·exact .inl q
   ·exact .inr (List.mem_cons_of_mem _ q)
  ·unfold takeB;split
   ·exact yos.2 (.inl hi)
   ·exact hi
theorem ytq(g:Gr):yll g 0:=fun _ _ _ h=>by simp at h
theorem ycrg{g:Gr}(hg:GoodG g){net:Nat->Nat}(hn:∀ u v,adj g u v->(net u).testBit v=true):ResD (yll g) (resL net):=fun e w h0=>by
 unfold resL
 by_cases he:e<2 ^ 24
 ·rw[if_pos he];obtain⟨r1,r2⟩:=Sh.ycrs e w h0 he;obtain⟨a1,a2,a3⟩:=ylx hg hn (ybh (resD e w)) 0 (ytq g)
  have hmem:∀ i,i ∈ ybh (resD e w) ↔ i<32/\(resD e w).testBit i=true:=fun i=>by
   unfold ybh;rw[List.mem_filter,List.mem_range]
  refine⟨?_,fun i hi=>?_,a1⟩
  ·obtain⟨i,hi⟩:∃ i,(resD e w).testBit i=true:=by
    refine Classical.byContradiction fun hq=>r1 ((ybg _).2 fun i=>?_);cases q:(resD e w).testBit i with
    | false=>rfl
    | true=>exact absurd ⟨i,q⟩ hq
   have hi32:i<32:=by
    refine Classical.byContradiction fun hq=>?_;have:=r2 i hi;rw[Nat.testBit_lt_two_pow (Nat.lt_of_lt_of_le he (Nat.pow_le_pow_right (by omega) (by omega)))]at this
    cases this
   have hm:=(hmem i).2 ⟨hi32,hi⟩
   obtain⟨x,l,e1⟩:∃ x l,ybh (resD e w)=x :: l:=by
    cases q:ybh (resD e w)with
    | nil=>rw[q]at hm;cases hm
    | cons x l=>exact⟨x,l,rfl⟩
   rw[e1,List.foldl_cons];have hx:yll g (takeB net 0 x):=(ylx hg hn [x] 0 (ytq g)).1
   have:=(ylx hg hn l _ hx).2.2 x (by
    unfold takeB;rw[if_pos (by simp)]
    exact yos.2 (.inr rfl))
   intro hz;rw[hz]at this;simp at this
  ·rcases a2 i hi with q | q
   ·simp at q
   ·exact r2 i ((hmem i).1 q).2
 ·rw[if_neg he]
  have hb:∀ i,(2 ^ e.log2).testBit i=true ↔ i=e.log2:=fun i=>by
   rw[Nat.testBit_two_pow,decide_eq_true_iff];exact eq_comm
  refine⟨Nat.pos_iff_ne_zero.1 (Nat.two_pow_pos _),fun i hi=>?_,?_⟩
  ·rw[(hb i).1 hi];exact Nat.testBit_log2 h0
  ·have:=ybph (v:=e.log2) hg
   rwa [Nat.one_shiftLeft]at this
theorem ybws{g:Gr}(hg:GoodG g):∀ u v,adj g u v->(netP (g.ports.getD u [])).testBit v=true:=fun u v h=>by
 obtain⟨l,hl,e⟩:=yvd h
 have key:∀ (ls:List (Int × Int)) (a:Nat),(a.testBit v=true \/ ∃ l ∈ ls,l.1.toNat=v)->(ls.foldl (fun a l=>a ||| 2 ^ l.1.toNat) a).testBit v=true:=by
  intro ls
  induction ls with
  | nil=>intro a ha;exact ha.resolve_right fun⟨_,h,_⟩=>nomatch h
  | cons x ls ih =>
   intro a ha;rw[List.foldl_cons];refine ih _ ?_;rcases ha with q | ⟨l,hl,q⟩
   ·exact .inl (yos.2 (.inl q))
   ·rcases List.mem_cons.1 hl with r | r
    ·exact .inl (yos.2 (.inr (by rw[<- q,r])))
    ·exact .inr ⟨l,r,q⟩
 exact key _ 0 (.inr ⟨l,hl,e⟩)
end Go.Proofs.YtiejahgklcjhkaaGreatDoor

