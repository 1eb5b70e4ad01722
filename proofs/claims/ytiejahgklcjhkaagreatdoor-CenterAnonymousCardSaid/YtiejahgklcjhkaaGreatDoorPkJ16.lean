/- Lemmas, joined: ScCe CeA CeB RnA RnB Pk ShZ ScPq Fl Lks CeC SiC SiD SiE. -/
import Derived.Test.YtiejahgklcjhkaaGreatDoorPkJ11
import Derived.Test.YtiejahgklcjhkaaGreatDoorPkJ12
import Derived.Test.YtiejahgklcjhkaaGreatDoorPkJ15
import Derived.Test.YtiejahgklcjhkaaGreatDoorPkJ9
set_option linter.unusedSimpArgs false
set_option linter.unusedVariables false
namespace Go.Proofs.YtiejahgklcjhkaaGreatDoor
namespace Sh
open Go Ev
def ybql:LO:=[o3 (.box 27 (.tmp 0)) 1 0,o3 (.mv (ci' 0)) 2 0,o3 (.mv (ci' 0)) 3 2]
def ybpt:LO:=[ld' true 2 1 6 0,cl' 96 [6] 7 1,o3 (.un .not (.tmp 7)) 8 3]
def ycfq:LO:=[o3 (.mv (ci' 0)) 2 0,o3 (.mv (ci' 0)) 3 1]
def ycjf:LO:=[fa' 1 1 1 9 0,ld' false 1 9 10 1,ln' 10 11 3,o3 (.mv (ci' 0)) 12 0]
def ybtu:LO:=[bn' .lss 12 11 13 0]
def ycci:LO:=[ix' 1 10 12 14 0,ld' false 1 14 15 1,mv' 15 5 3]
def ycoc:LO:=[mv' 3 16 0,mv' 5 17 0,ln' 17 18 2,bn' .add 16 18 19 7,mv' 19 3 15]
def ycgk:LO:=[o3 (.bin .add (.tmp 12) (ci' 1)) 20 0,mv' 20 12 1]
def yciq:LO:=[fa' 0 1 1 21 0,ld' false 1 21 22 1,ln' 22 23 3,mv' 3 24 0,o3 (.bin .quo (.tmp 24) (ci' 2)) 25 8,mv' 23 2 7,mv' 25 3 63]
def c122:SC:=(.seq (.reg false ybql) (.seq (.seq (.reg false ybpt) (.cond (.tmp 8) (.seq (.reg false ycfq) .ret) .skip)) (.seq (.seq (.reg false ycjf) (.block 0 (.loop (.seq (.reg false ybtu) (.seq (.cond (.tmp 13) .skip (.exit 0)) (.seq (.block 1 (.seq (.reg false ycci) (.reg false ycoc))) (.reg false ycgk))))))) (.seq (.reg false yciq) .ret))))
theorem ycui:Fn 122 c122 [.t 2,.t 3]:=fn_0 Tryz.func122 (by kernel_rfl) (by kernel_rfl)
def ybrm:LO:=[o3 (.box 27 (.tmp 0)) 1 0,o3 (.mv (.const (.bool false))) 2 0]
def ybpo:LO:=[ld' true 2 1 5 0,cl' 137 [5] 6 1,o3 (.un .not (.tmp 6)) 7 3]
def ycil:LO:=[o3 (.mv (.const (.bool false))) 2 0]
def ycbx:LO:=[ld' true 2 1 9 0,cl' 122 [9] 10 1,mv' 10 8 3,xt' 8 0 11 7,xt' 8 1 12 7,mv' 11 3 15,mv' 12 4 63]
def ycdy:LO:=[mv' 4 13 0,mv' 3 14 0,o3 (.bin .sub (.tmp 14) (ci' 1)) 15 2,bn' .eql 13 15 16 7,mv' 16 2 15]
def c136:SC:=(.seq (.reg false ybrm) (.seq (.seq (.reg false ybpo) (.cond (.tmp 7) (.seq (.reg false ycil) .ret) .skip)) (.seq (.reg false ycbx) (.seq (.reg false ycdy) .ret))))
theorem ycry:Fn 136 c136 [.t 2]:=fn_0 Tryz.func136 (by kernel_rfl) (by kernel_rfl)
def ydbc:LO:=[o3 (.box 27 (.tmp 0)) 1 0,o3 (.mv (.const (.bool false))) 2 0]
def ydab:LO:=[ld' true 2 1 3 0,cl' 136 [3] 4 1,mv' 4 2 3]
def c87:SC:=(.seq (.reg false ydbc) (.seq (.reg false ydab) .ret))
theorem ycyk:Fn 87 c87 [.t 2]:=fn_0 Tryz.func87 (by kernel_rfl) (by kernel_rfl)
def ycrn:LO:=[o3 (.box 27 (.tmp 0)) 2 0,o3 (.mv (.const (.bool false))) 4 0]
def ycpl:LO:=[ld' true 2 2 5 0,cl' 87 [5] 6 1,mv' 6 7 3,⟨.load true 2 (.tmp 2),some 8,some (7,true),7⟩,⟨.mv (.tmp 1),some 9,some (7,true),7⟩,⟨.faddr 0 1 (.tmp 2),some 10,some (7,true),7⟩,⟨.load false 1 (.tmp 10),some 11,some (7,true),39⟩,⟨.len (.tmp 11),some 12,some (7,true),103⟩,⟨.bslice 3 1 1 [.i .i64 0] [(0,1,(.tmp 12))],some 13,some (7,true),231⟩,⟨.call (.func 102) [(.tmp 8),(.tmp 9),(.tmp 13)],some 14,some (7,true),511⟩,o3 (.pick (.tmp 7) (.tmp 14) (.const (.bool false))) 15 1023,mv' 15 4 2047]
def c80:SC:=(.seq (.reg false ycrn) (.seq (.reg false ycpl) .ret))
theorem yczt:Fn 80 c80 [.t 4]:=fn_0 Tryz.func80 (by kernel_rfl) (by kernel_rfl)
def ycyy:LO:=[o3 (.box 27 (.tmp 0)) 2 0,o3 (.box 90 (.tmp 1)) 3 0,o3 (.mv (.const (.int .u32 0))) 4 0]
def ydbi:LO:=[ld' true 2 2 8 0,cl' 109 [8] 9 1,o3 (.alloc 40 1 [.i .u32 0]) 5 0,o0 (.store 1 (.tmp 5) (.tmp 9)) 7]
def ydca:LO:=[ld' true 2 2 10 0,cl' 120 [10] 11 1]
def ydcj:LO:=[mv' 12 6 0]
def yczr:LO:=[o3 (.alloc 95 1 [.i .i64 0,.i .i64 0]) 7 0,o0 (.store 2 (.tmp 7) (.tmp 13)) 1]
def yczn:LO:=[ld' false 1 3 14 0,mv' 6 15 0,o3 (.call (.tmp 14) [(.tmp 15)]) 16 3,ld' false 1 3 17 0,fa' 0 1 7 18 0,ld' false 1 18 19 16,o3 (.call (.tmp 17) [(.tmp 19)]) 20 63,bn' .lss 16 20 21 127]
def yddg:LO:=[ld' false 1 5 22 0,mv' 6 23 0,o3 (.bin .shl (.const (.int .u32 1)) (.tmp 23)) 24 2,bn' .andNot 22 24 25 7,o0 (.store 1 (.tmp 5) (.tmp 25)) 15]
def yczf:LO:=[ld' false 1 5 26 0,mv' 26 4 1]
def c81:SC:=(.seq (.reg false ycyy) (.seq (.reg false ydbi) (.seq (.seq (.reg false ydca) (.block 0 (.range (.tmp 11) [12,13] (.seq (.reg false ydcj) (.reg false yczr)) (.block 1 (.seq (.reg true yczn) (.cond (.tmp 21) (.reg true yddg) .skip)))))) (.seq (.reg false yczf) .ret))))
theorem ycwm:Fn 81 c81 [.t 4]:=fn_0 Tryz.func81 (by kernel_rfl) (by kernel_rfl)
def ycrj:LO:=[o3 (.box 27 (.tmp 0)) 2 0,o3 (.box 34 (.tmp 1)) 3 0,o3 (.mv (.const (.int .u32 0))) 4 0]
def ycrl:LO:=[ld' true 2 2 5 0,ld' false 1 3 6 0,cl' 80 [5,6] 7 3,o3 (.un .not (.tmp 7)) 8 7]
def ycyv:LO:=[o3 (.mv (.const (.int .u32 0))) 4 0]
def ydaa:LO:=[ld' true 2 2 9 0,o3 (.mkfn 82 [] [(.tmp 3)]) 10 0,cl' 81 [9,10] 11 3,mv' 11 4 7]
def c27:SC:=(.seq (.reg false ycrj) (.seq (.seq (.reg false ycrl) (.cond (.tmp 8) (.seq (.reg false ycyv) .ret) .skip)) (.seq (.reg false ydaa) .ret)))
theorem ycvr:Fn 27 c27 [.t 4]:=fn_0 Tryz.func27 (by kernel_rfl) (by kernel_rfl)
def yczy:LO:=[o3 (.mv (ci' 0)) 3 0]
def ycxd:LO:=[ld' false 1 1 4 0,mv' 0 5 0,ix' 1 4 5 6 3,ld' false 1 6 7 7,o3 (.idx 1 (.tmp 7) (ci' 0)) 8 15,ld' false 1 8 9 31,mv' 9 3 63]
def c82:SC:=(.seq (.reg false yczy) (.seq (.reg false ycxd) .ret))
theorem ydcx:Fn 82 c82 [.t 3]:=fn_0 Tryz.func82 (by kernel_rfl) (by kernel_rfl)
def ydbl:LO:=[o3 (.mv (.const (.string (ByteArray.mk #[])))) 0 0]
def ycys:LO:=[o3 (.mv (.const (.string (ByteArray.mk #[112,114,111,103,114,97,109,32,99,101,110,116,101,114,59,10,118,97,114,32,104,32,58,32,48,32,46,46,32,110,59,10,114,117,108,101,32,102,105,120,58,32,104,32,33,61,32,40,100,101,103,32,60,32,50,32,63,32,48,32,58,32,40,115,101,99,111,110,100,40,113,46,104,41,32,60,32,110,32,63,32,115,101,99,111,110,100,40,113,46,104,41,32,43,32,49,32,58,32,110,41,41,32,45,62,32,104,32,58,61,32,40,100,101,103,32,60,32,50,32,63,32,48,32,58,32,40,115,101,99,111,110,100,40,113,46,104,41,32,60,32,110,32,63,32,115,101,99,111,110,100,40,113,46,104,41,32,43,32,49,32,58,32,110,41,41,59,10])))) 0 0]
def c23:SC:=(.seq (.reg false ydbl) (.seq (.reg false ycys) .ret))
theorem ycww:Fn 23 c23 [.t 0]:=fn_0 Tryz.func23 (by kernel_rfl) (by kernel_rfl)
def ydad:LO:=[o3 (.mv (.const (.slice none 0 0))) 0 0]
def ycvw:LO:=[o3 (.call (.func 79) [(.const (.string (ByteArray.mk #[104]))),(ci' 0),(ci' 1),(ci' 0)]) 1 0,o3 (.bslice 87 6 1 [.a (.string (ByteArray.mk #[])),.i .i64 0,.i .i64 0,.i .i64 0,.i .i64 0,.i .i64 0] [(0,6,(.tmp 1))]) 2 1,mv' 2 0 3]
def c25:SC:=(.seq (.reg false ydad) (.seq (.reg false ycvw) .ret))
theorem ydaw:Fn 25 c25 [.t 0]:=fn_0 Tryz.func25 (by kernel_rfl) (by kernel_rfl)
def c5_0:LO:=[o3 (.box 24 (.tmp 0)) 3 0,o3 (.mv (.const (.bool false))) 6 0]
def c5_1:LO:=[ld' true 6 3 15 0,o3 (.call (.func 21) [(.tmp 15),(ci' 10)]) 16 1,o3 (.alloc 27 1 [.a (.slice none 0 0),.a (.slice none 0 0)]) 7 0,o0 (.store 2 (.tmp 7) (.tmp 16)) 7]
def c5_2:LO:=[ld' true 2 7 17 0,cl' 25 [] 18 0,mv' 1 19 0,cl' 24 [17,18,19] 20 7,mv' 20 8 15]
def c5_3:LO:=[cl' 23 [] 22 0,ld' true 2 7 23 0,ld' true 2 7 24 0,cl' 33 [24] 25 5,o3 (.field false 0 1 (.tmp 25)) 26 13,mv' 8 27 0,mv' 2 28 0,o3 (.call (.func 26) [(.tmp 28),(ci' 120)]) 29 77,cl' 22 [22,23,26,27,29] 30 255,mv' 30 21 511,xt' 21 0 31 1023,xt' 21 1 32 1023,xt' 21 2 33 1023,mv' 31 9 2047,mv' 32 10 12287,mv' 33 11 32767]
def c5_4:LO:=[mv' 11 34 0,o3 (.un .not (.tmp 34)) 35 1,mv' 35 36 3,⟨.load true 2 (.tmp 7),some 37,some (36,false),7⟩,⟨.call (.func 33) [(.tmp 37)],some 38,some (36,false),15⟩,⟨.load true 2 (.tmp 7),some 39,some (36,false),7⟩,⟨.call (.func 34) [(.tmp 39)],some 40,some (36,false),63⟩,⟨.seq true [false,true,true,false,false] (.tmp 38) (.tmp 40),some 41,some (36,false),127⟩,o3 (.pick (.tmp 36) (.const (.bool true)) (.tmp 41)) 42 255]
def c5_5:LO:=[o3 (.mv (.const (.bool false))) 6 0]
def c5_6:LO:=[o3 (.mv (.const (.slice none 0 0))) 12 0]
def c5_7:LO:=[o3 (.mv (ci' 0)) 13 0]
def c5_8:LO:=[mv' 13 43 0,mv' 9 44 0,ln' 44 45 2,bn' .lss 43 45 46 7]
def ydec:LO:=[mv' 12 49 0,ld' true 2 7 50 0,mv' 9 51 0,mv' 13 52 0,ix' 1 51 52 53 12,ld' false 1 53 54 28,cl' 35 [50,54] 55 62,o3 (.bslice 4 1 1 [.b false] [(0,1,(.tmp 55))]) 56 126,o3 (.app 4 1 1 (.tmp 49) (.tmp 56)) 57 255,mv' 57 12 511]
def c5_9:LO:=[mv' 13 47 0,o3 (.bin .add (.tmp 47) (ci' 1)) 48 1,mv' 48 13 3]
def ydfi:LO:=[cl' 23 [] 58 0,cl' 37 [58] 59 1,ld' true 2 7 60 0,mv' 9 61 0,mv' 9 62 0,ln' 62 63 16,o3 (.bin .sub (.tmp 63) (ci' 1)) 64 48,ix' 1 61 64 65 120,ld' false 1 65 66 248,cl' 36 [59,60,66] 67 511,o3 (.bin .eql (.tmp 67) (.const (.int .u32 0))) 68 1023,mv' 68 14 2047]
def yddx:LO:=[cl' 30 [] 69 0,mv' 69 70 1,⟨.mv (.tmp 12),some 71,some (70,true),3⟩,⟨.mv (.tmp 10),some 72,some (70,true),3⟩,⟨.load true 2 (.tmp 7),some 73,some (70,true),3⟩,⟨.call (.func 33) [(.tmp 73)],some 74,some (70,true),19⟩,⟨.mv (.tmp 14),some 75,some (70,true),3⟩,⟨.call (.func 38) [(.tmp 71),(.tmp 72),(.tmp 74),(.tmp 75)],some 76,some (70,true),127⟩,o3 (.pick (.tmp 70) (.tmp 76) (.const (.bool false))) 77 255,mv' 77 6 511]
def c5:SC:=(.seq (.reg false c5_0) (.seq (.reg false c5_1) (.seq (.reg true c5_2) (.seq (.reg true c5_3) (.seq (.seq (.reg true c5_4) (.cond (.tmp 42) (.seq (.reg false c5_5) .ret) .skip)) (.seq (.reg false c5_6) (.seq (.seq (.reg false c5_7) (.block 0 (.loop (.seq (.seq (.reg false c5_8) (.cond (.tmp 46) .skip (.exit 0))) (.seq (.block 1 (.reg true ydec)) (.reg false c5_9)))))) (.seq (.reg true ydfi) (.seq (.reg false yddx) .ret)))))))))
def c6_0:LO:=[o3 (.box 24 (.tmp 0)) 3 0,o3 (.mv (.const (.bool false))) 6 0]
def c6_1:LO:=[ld' true 6 3 13 0,o3 (.call (.func 21) [(.tmp 13),(ci' 10)]) 14 1,o3 (.alloc 27 1 [.a (.slice none 0 0),.a (.slice none 0 0)]) 7 0,o0 (.store 2 (.tmp 7) (.tmp 14)) 7]
def c6_2:LO:=[cl' 23 [] 15 0,cl' 37 [15] 16 1,o3 (.alloc 58 1 [.a (.string (ByteArray.mk #[])),.a (.slice none 0 0),.a (.slice none 0 0)]) 8 0,o0 (.store 3 (.tmp 8) (.tmp 16)) 7]
def c6_3:LO:=[cl' 23 [] 18 0,ld' true 2 7 19 0,ld' true 2 7 20 0,cl' 33 [20] 21 5,o3 (.field false 0 1 (.tmp 21)) 22 13,ld' true 2 7 23 0,cl' 25 [] 24 13,mv' 1 25 0,cl' 24 [23,24,25] 26 237,mv' 2 27 0,o3 (.call (.func 26) [(.tmp 27),(ci' 60)]) 28 1005,cl' 22 [18,19,22,26,28] 29 2047,mv' 29 17 4095,xt' 17 0 30 8191,xt' 17 1 31 8191,xt' 17 2 32 8191,mv' 30 9 16383,mv' 31 10 98303,mv' 32 11 262143]
def c6_4:LO:=[o3 (.mv (ci' 0)) 12 0]
def c6_5:LO:=[mv' 12 33 0,mv' 9 34 0,ln' 34 35 2,bn' .lss 33 35 36 7]
def c6_7:LO:=[ld' true 3 8 39 0,ld' true 2 7 40 0,mv' 9 41 0,mv' 12 42 0,ix' 1 41 42 43 12,ld' false 1 43 44 28,cl' 36 [39,40,44] 45 63,o3 (.bin .eql (.tmp 45) (.const (.int .u32 0))) 46 127,ld' true 2 7 47 0,mv' 9 48 0,mv' 12 49 0,ix' 1 48 49 50 1536,ld' false 1 50 51 3584,cl' 35 [47,51] 52 8063,o3 (.beq true (.tmp 46) (.tmp 52)) 53 16383]
def c6_8:LO:=[o3 (.mv (.const (.bool false))) 6 0]
def c6_6:LO:=[mv' 12 37 0,o3 (.bin .add (.tmp 37) (ci' 1)) 38 1,mv' 38 12 3]
def c6_9:LO:=[cl' 30 [] 54 0,mv' 54 55 1,⟨.mv (.tmp 11),some 56,some (55,true),3⟩,o3 (.pick (.tmp 55) (.tmp 56) (.const (.bool false))) 57 7,mv' 57 6 15]
def c6:SC:=(.seq (.reg false c6_0) (.seq (.reg false c6_1) (.seq (.reg false c6_2) (.seq (.reg true c6_3) (.seq (.seq (.reg false c6_4) (.block 0 (.loop (.seq (.seq (.reg false c6_5) (.cond (.tmp 36) .skip (.exit 0))) (.seq (.block 1 (.seq (.reg true c6_7) (.cond (.tmp 53) (.seq (.reg false c6_8) .ret) .skip))) (.reg false c6_6)))))) (.seq (.reg false c6_9) .ret))))))
def c4_0:LO:=[o3 (.box 24 (.tmp 0)) 3 0,o3 (.mv (.const (.bool false))) 6 0]
def c4_1:LO:=[ld' true 6 3 16 0,o3 (.call (.func 21) [(.tmp 16),(ci' 10)]) 17 1,o3 (.alloc 27 1 [.a (.slice none 0 0),.a (.slice none 0 0)]) 7 0,o0 (.store 2 (.tmp 7) (.tmp 17)) 7]
def c4_2:LO:=[cl' 23 [] 19 0,ld' true 2 7 20 0,ld' true 2 7 21 0,cl' 25 [] 22 1,mv' 1 23 0,cl' 24 [21,22,23] 24 29,mv' 2 25 0,o3 (.call (.func 26) [(.tmp 25),(ci' 80)]) 26 125,o3 (.call (.func 22) [(.tmp 19),(.tmp 20),(ci' 3),(.tmp 24),(.tmp 26)]) 27 255,mv' 27 18 511,xt' 18 0 28 1023,xt' 18 1 29 1023,xt' 18 2 30 1023,mv' 28 8 2047,mv' 29 9 12287,mv' 30 10 32767]
def c4_3:LO:=[o3 (.mv (ci' 0)) 11 0]
def c4_4:LO:=[mv' 11 31 0,mv' 8 32 0,ln' 32 33 2,bn' .lss 31 33 34 7]
def c4_6:LO:=[mv' 9 37 0,mv' 11 38 0,ix' 5 37 38 39 3,fa' 2 1 39 40 7,ld' false 1 40 41 15,o3 (.bin .sub (.tmp 41) (ci' 1)) 42 31,mv' 42 12 63]
def c4_7:LO:=[o3 (.mv (ci' 0)) 13 0]
def c4_8:LO:=[mv' 13 43 0,fa' 1 1 7 44 0,ld' false 1 44 45 2,ln' 45 46 6,bn' .lss 43 46 47 15,mv' 47 48 31,⟨.mv (.tmp 12),some 49,some (48,true),63⟩,⟨.bin .geq (.tmp 49) (ci' 0),some 50,some (48,true),127⟩,o3 (.pick (.tmp 48) (.tmp 50) (.const (.bool false))) 51 255]
def ydfu:LO:=[mv' 8 54 0,mv' 11 55 0,ix' 1 54 55 56 3,ld' false 1 56 57 7,ln' 57 58 15,fa' 1 1 7 59 0,ld' false 1 59 60 32,ln' 60 61 96,bn' .neq 58 61 62 255,mv' 62 63 511,⟨.mv (.tmp 8),some 64,some (63,false),1023⟩,⟨.mv (.tmp 11),some 65,some (63,false),1023⟩,⟨.idx 1 (.tmp 64) (.tmp 65),some 66,some (63,false),4095⟩,⟨.load false 1 (.tmp 66),some 67,some (63,false),8191⟩,⟨.mv (.tmp 13),some 68,some (63,false),1023⟩,⟨.idx 1 (.tmp 67) (.tmp 68),some 69,some (63,false),32767⟩,⟨.load false 1 (.tmp 69),some 70,some (63,false),65535⟩,⟨.len (.tmp 70),some 71,some (63,false),131071⟩,⟨.bin .neq (.tmp 71) (ci' 1),some 72,some (63,false),262143⟩,o3 (.pick (.tmp 63) (.const (.bool true)) (.tmp 72)) 73 524287]
def ydey:LO:=[o3 (.mv (.const (.bool false))) 6 0]
def ydfy:LO:=[mv' 8 74 0,mv' 11 75 0,ix' 1 74 75 76 3,ld' false 1 76 77 7,mv' 13 78 0,ix' 1 77 78 79 31,ld' false 1 79 80 63,o3 (.idx 1 (.tmp 80) (ci' 0)) 81 127,ld' false 1 81 82 255,ld' true 2 7 83 0,mv' 13 84 0,cl' 32 [83,84] 85 1536,mv' 82 14 4095,mv' 85 15 8191]
def ydfx:LO:=[mv' 15 86 0,mv' 12 87 0,bn' .leq 86 87 88 3,mv' 88 89 7,⟨.mv (.tmp 14),some 90,some (89,true),15⟩,⟨.mv (.tmp 15),some 91,some (89,true),15⟩,⟨.bin .neq (.tmp 90) (.tmp 91),some 92,some (89,true),63⟩,o3 (.pick (.tmp 89) (.tmp 92) (.const (.bool false))) 93 127,mv' 93 94 255,⟨.mv (.tmp 15),some 95,some (94,false),511⟩,⟨.mv (.tmp 12),some 96,some (94,false),511⟩,⟨.bin .gtr (.tmp 95) (.tmp 96),some 97,some (94,false),2047⟩,⟨.mv (.tmp 97),some 98,some (94,false),4095⟩,⟨.mv (.tmp 14),some 99,some (98,true),8191⟩,⟨.mv (.tmp 12),some 100,some (98,true),8191⟩,⟨.bin .add (.tmp 100) (ci' 1),some 101,some (98,true),24575⟩,⟨.bin .lss (.tmp 99) (.tmp 101),some 102,some (98,true),65535⟩,⟨.pick (.tmp 98) (.tmp 102) (.const (.bool false)),some 103,some (94,false),131071⟩,o3 (.pick (.tmp 94) (.const (.bool true)) (.tmp 103)) 104 262143]
def yddw:LO:=[o3 (.mv (.const (.bool false))) 6 0]
def c4_9:LO:=[mv' 13 52 0,o3 (.bin .add (.tmp 52) (ci' 1)) 53 1,mv' 53 13 3]
def c4_5:LO:=[mv' 11 35 0,o3 (.bin .add (.tmp 35) (ci' 1)) 36 1,mv' 36 11 3]
def yden:LO:=[cl' 30 [] 105 0,mv' 105 106 1,⟨.mv (.tmp 10),some 107,some (106,true),3⟩,o3 (.pick (.tmp 106) (.tmp 107) (.const (.bool false))) 108 7,mv' 108 6 15]
def c4:SC:=(.seq (.reg false c4_0) (.seq (.reg false c4_1) (.seq (.reg true c4_2) (.seq (.seq (.reg false c4_3) (.block 0 (.loop (.seq (.seq (.reg false c4_4) (.cond (.tmp 34) .skip (.exit 0))) (.seq (.block 1 (.seq (.reg false c4_6) (.seq (.reg false c4_7) (.block 2 (.loop (.seq (.seq (.reg false c4_8) (.cond (.tmp 51) .skip (.exit 2))) (.seq (.block 3 (.seq (.seq (.reg true ydfu) (.cond (.tmp 73) (.seq (.reg false ydey) .ret) .skip)) (.seq (.reg true ydfy) (.seq (.reg false ydfx) (.cond (.tmp 104) (.seq (.reg false yddw) .ret) .skip))))) (.reg false c4_9)))))))) (.reg false c4_5)))))) (.seq (.reg false yden) .ret)))))
def c3_0:LO:=[o3 (.box 24 (.tmp 0)) 2 0,o3 (.mv (.const (.bool false))) 4 0]
def c3_1:LO:=[ld' true 6 2 14 0,o3 (.call (.func 21) [(.tmp 14),(ci' 10)]) 15 1,o3 (.alloc 27 1 [.a (.slice none 0 0),.a (.slice none 0 0)]) 5 0,o0 (.store 2 (.tmp 5) (.tmp 15)) 7]
def c3_2:LO:=[cl' 23 [] 17 0,ld' true 2 5 18 0,ld' true 2 5 19 0,cl' 25 [] 20 1,mv' 1 21 0,cl' 24 [19,20,21] 22 29,o3 (.call (.func 26) [(.const (.slice none 0 0)),(ci' 12)]) 23 61,o3 (.call (.func 22) [(.tmp 17),(.tmp 18),(ci' 4),(.tmp 22),(.tmp 23)]) 24 127,mv' 24 16 255,xt' 16 0 25 511,xt' 16 1 26 511,xt' 16 2 27 511,mv' 25 6 1023,mv' 26 7 6143,mv' 27 8 16383]
def c3_3:LO:=[mv' 8 28 0,o3 (.un .not (.tmp 28)) 29 1]
def c3_4:LO:=[o3 (.mv (.const (.bool false))) 4 0]
def c3_5:LO:=[ld' true 2 5 30 0,mv' 6 31 0,mv' 6 32 0,ln' 32 33 4,o3 (.bin .sub (.tmp 33) (ci' 1)) 34 12,ix' 1 31 34 35 30,ld' false 1 35 36 62,cl' 27 [30,36] 37 127,mv' 37 9 255,o3 (.mv (ci' 24)) 10 511]
def c3_6:LO:=[o3 (.mv (ci' 0)) 11 0]
def c3_7:LO:=[mv' 11 38 0,fa' 1 1 5 39 0,ld' false 1 39 40 2,ln' 40 41 6,bn' .lss 38 41 42 15]
def c3_9:LO:=[mv' 10 45 0,ld' true 2 5 46 0,mv' 11 47 0,cl' 28 [46,47] 48 6,o3 (.mm false (.tmp 45) (.tmp 48)) 49 15,mv' 49 10 31]
def c3_8:LO:=[mv' 11 43 0,o3 (.bin .add (.tmp 43) (ci' 1)) 44 1,mv' 44 11 3]
def ydfo:LO:=[o3 (.mv (ci' 0)) 12 0]
def ydeb:LO:=[o3 (.mv (ci' 0)) 13 0]
def yded:LO:=[mv' 13 50 0,fa' 1 1 5 51 0,ld' false 1 51 52 2,ln' 52 53 6,bn' .lss 50 53 54 15]
def ydfr:LO:=[mv' 9 57 0,mv' 13 58 0,cl' 29 [57,58] 59 3,ld' true 2 5 60 0,mv' 13 61 0,cl' 28 [60,61] 62 31,mv' 10 63 0,bn' .eql 62 63 64 127,o3 (.beq true (.tmp 59) (.tmp 64)) 65 255]
def ydea:LO:=[o3 (.mv (.const (.bool false))) 4 0]
def ydez:LO:=[mv' 9 66 0,mv' 13 67 0,cl' 29 [66,67] 68 3]
def ydet:LO:=[mv' 12 69 0,o3 (.bin .add (.tmp 69) (ci' 1)) 70 1,mv' 70 12 3]
def ydex:LO:=[mv' 13 55 0,o3 (.bin .add (.tmp 55) (ci' 1)) 56 1,mv' 56 13 3]
def ydfk:LO:=[cl' 30 [] 71 0,mv' 71 72 1,⟨.mv (.tmp 12),some 73,some (72,true),3⟩,⟨.bin .eql (.tmp 73) (ci' 1),some 74,some (72,true),7⟩,⟨.mv (.tmp 74),some 75,some (72,true),15⟩,⟨.mv (.tmp 12),some 76,some (75,false),31⟩,⟨.bin .eql (.tmp 76) (ci' 2),some 77,some (75,false),63⟩,⟨.mv (.tmp 77),some 78,some (75,false),127⟩,⟨.load true 2 (.tmp 5),some 79,some (78,true),255⟩,⟨.mv (.tmp 9),some 80,some (78,true),255⟩,⟨.call (.func 31) [(.tmp 79),(.tmp 80)],some 81,some (78,true),1023⟩,⟨.mv (.tmp 9),some 82,some (78,true),255⟩,⟨.bin .and (.tmp 81) (.tmp 82),some 83,some (78,true),4095⟩,⟨.mv (.tmp 9),some 84,some (78,true),255⟩,⟨.bin .eql (.tmp 83) (.tmp 84),some 85,some (78,true),16383⟩,⟨.pick (.tmp 78) (.tmp 85) (.const (.bool false)),some 86,some (75,false),32767⟩,⟨.pick (.tmp 75) (.const (.bool true)) (.tmp 86),some 87,some (72,true),65535⟩,o3 (.pick (.tmp 72) (.tmp 87) (.const (.bool false))) 88 131071,mv' 88 4 262143]
def c3:SC:=(.seq (.reg false c3_0) (.seq (.reg false c3_1) (.seq (.reg true c3_2) (.seq (.seq (.reg false c3_3) (.cond (.tmp 29) (.seq (.reg false c3_4) .ret) .skip)) (.seq (.reg true c3_5) (.seq (.seq (.reg false c3_6) (.block 0 (.loop (.seq (.seq (.reg false c3_7) (.cond (.tmp 42) .skip (.exit 0))) (.seq (.block 1 (.reg false c3_9)) (.reg false c3_8)))))) (.seq (.reg false ydfo) (.seq (.seq (.reg false ydeb) (.block 2 (.loop (.seq (.seq (.reg false yded) (.cond (.tmp 54) .skip (.exit 2))) (.seq (.block 3 (.seq (.seq (.reg true ydfr) (.cond (.tmp 65) (.seq (.reg false ydea) .ret) .skip)) (.seq (.reg false ydez) (.cond (.tmp 68) (.reg false ydet) .skip)))) (.reg false ydex)))))) (.seq (.reg false ydfk) .ret)))))))))
def c7_0:LO:=[o3 (.box 24 (.tmp 0)) 2 0,o3 (.mv (.const (.bool false))) 4 0]
def c7_1:LO:=[ld' true 6 2 20 0,o3 (.call (.func 21) [(.tmp 20),(ci' 10)]) 21 1,o3 (.alloc 27 1 [.a (.slice none 0 0),.a (.slice none 0 0)]) 5 0,o0 (.store 2 (.tmp 5) (.tmp 21)) 7]
def c7_2:LO:=[fa' 1 1 5 22 0,ld' false 1 22 23 1,ln' 23 24 3,mv' 24 6 7]
def c7_3:LO:=[mv' 1 25 0,mv' 6 26 0,cl' 39 [25,26] 27 3,mv' 27 1 7]
def c7_4:LO:=[mv' 6 28 0,o3 (.mk 3 1 8 [.i .i64 0] (.tmp 28) (.tmp 28)) 29 1,mv' 29 7 3]
def c7_5:LO:=[o3 (.mv (ci' 0)) 8 0]
def c7_6:LO:=[mv' 8 30 0,mv' 6 31 0,bn' .lss 30 31 32 3]
def c7_8:LO:=[mv' 7 35 0,mv' 8 36 0,mv' 8 37 0,mv' 1 38 0,bn' .add 37 38 39 12,mv' 6 40 0,bn' .rem 39 40 41 60,ix' 1 35 36 42 127,o0 (.store 1 (.tmp 42) (.tmp 41)) 255]
def c7_7:LO:=[mv' 8 33 0,o3 (.bin .add (.tmp 33) (ci' 1)) 34 1,mv' 34 8 3]
def c7_9:LO:=[ld' true 2 5 44 0,mv' 7 45 0,cl' 40 [44,45] 46 3,mv' 46 43 7,xt' 43 0 47 15,xt' 43 1 48 15,o3 (.alloc 27 1 [.a (.slice none 0 0),.a (.slice none 0 0)]) 9 0,o0 (.store 2 (.tmp 9) (.tmp 47)) 95,mv' 48 10 255]
def ydas:LO:=[cl' 23 [] 50 0,ld' true 2 5 51 0,ld' true 2 5 52 0,cl' 25 [] 53 1,o3 (.call (.func 24) [(.tmp 52),(.tmp 53),(.const (.slice none 0 0))]) 54 13,o3 (.call (.func 26) [(.const (.slice none 0 0)),(ci' 12)]) 55 29,o3 (.call (.func 22) [(.tmp 50),(.tmp 51),(ci' 4),(.tmp 54),(.tmp 55)]) 56 63,mv' 56 49 127,xt' 49 0 57 255,xt' 49 1 58 255,xt' 49 2 59 255,mv' 57 11 511,mv' 58 12 3071,mv' 59 13 8191]
def ydci:LO:=[cl' 23 [] 61 0,ld' true 2 9 62 0,ld' true 2 9 63 0,cl' 25 [] 64 1,o3 (.call (.func 24) [(.tmp 63),(.tmp 64),(.const (.slice none 0 0))]) 65 13,o3 (.call (.func 26) [(.const (.slice none 0 0)),(ci' 12)]) 66 29,o3 (.call (.func 22) [(.tmp 61),(.tmp 62),(ci' 4),(.tmp 65),(.tmp 66)]) 67 63,mv' 67 60 127,xt' 60 0 68 255,xt' 60 1 69 255,xt' 60 2 70 255,mv' 68 14 511,mv' 69 15 3071,mv' 70 16 8191]
def ydbz:LO:=[mv' 10 71 0,o3 (.bin .neq (.tmp 71) (ci' 0)) 72 1,mv' 72 73 3,⟨.mv (.tmp 13),some 74,some (73,false),7⟩,⟨.un .not (.tmp 74),some 75,some (73,false),15⟩,o3 (.pick (.tmp 73) (.const (.bool true)) (.tmp 75)) 76 31,mv' 76 77 63,⟨.mv (.tmp 16),some 78,some (77,false),127⟩,⟨.un .not (.tmp 78),some 79,some (77,false),255⟩,o3 (.pick (.tmp 77) (.const (.bool true)) (.tmp 79)) 80 511]
def ydel:LO:=[o3 (.mv (.const (.bool false))) 4 0]
def ydah:LO:=[ld' true 2 5 81 0,mv' 11 82 0,mv' 11 83 0,ln' 83 84 4,o3 (.bin .sub (.tmp 84) (ci' 1)) 85 12,ix' 1 82 85 86 30,ld' false 1 86 87 62,cl' 27 [81,87] 88 127,ld' true 2 9 89 0,mv' 14 90 0,mv' 14 91 0,ln' 91 92 1024,o3 (.bin .sub (.tmp 92) (ci' 1)) 93 3072,ix' 1 90 93 94 7680,ld' false 1 94 95 15872,cl' 27 [89,95] 96 32767,mv' 88 17 65535,mv' 96 18 131071]
def ydar:LO:=[o3 (.mv (ci' 0)) 19 0]
def ycuk:LO:=[mv' 19 97 0,mv' 6 98 0,bn' .lss 97 98 99 3]
def ydbw:LO:=[mv' 17 102 0,mv' 19 103 0,cl' 29 [102,103] 104 3,mv' 18 105 0,mv' 7 106 0,mv' 19 107 0,ix' 1 106 107 108 48,ld' false 1 108 109 112,cl' 29 [105,109] 110 255,o3 (.beq true (.tmp 104) (.tmp 110)) 111 511]
def ydev:LO:=[o3 (.mv (.const (.bool false))) 4 0]
def yczb:LO:=[mv' 19 100 0,o3 (.bin .add (.tmp 100) (ci' 1)) 101 1,mv' 101 19 3]
def ydaz:LO:=[cl' 30 [] 112 0,mv' 112 113 1,⟨.mv (.tmp 17),some 114,some (113,true),3⟩,⟨.bin .neq (.tmp 114) (.const (.int .u32 0)),some 115,some (113,true),7⟩,o3 (.pick (.tmp 113) (.tmp 115) (.const (.bool false))) 116 15,mv' 116 4 31]
def c7:SC:=(.seq (.reg false c7_0) (.seq (.reg false c7_1) (.seq (.reg false c7_2) (.seq (.reg false c7_3) (.seq (.reg false c7_4) (.seq (.seq (.reg false c7_5) (.block 0 (.loop (.seq (.seq (.reg false c7_6) (.cond (.tmp 32) .skip (.exit 0))) (.seq (.block 1 (.reg false c7_8)) (.reg false c7_7)))))) (.seq (.reg false c7_9) (.seq (.reg true ydas) (.seq (.reg true ydci) (.seq (.seq (.reg false ydbz) (.cond (.tmp 80) (.seq (.reg false ydel) .ret) .skip)) (.seq (.reg true ydah) (.seq (.seq (.reg false ydar) (.block 2 (.loop (.seq (.seq (.reg false ycuk) (.cond (.tmp 99) .skip (.exit 2))) (.seq (.block 3 (.seq (.reg true ydbw) (.cond (.tmp 111) (.seq (.reg false ydev) .ret) .skip))) (.reg false yczb)))))) (.seq (.reg false ydaz) .ret)))))))))))))
theorem ydeg:Fn 7 c7 [.t 4]:=fn_0 Tryz.func7 (by kernel_rfl) (by kernel_rfl)
end Sh
end Go.Proofs.YtiejahgklcjhkaaGreatDoor

namespace Go.Proofs.YtiejahgklcjhkaaGreatDoor
open Go
def yfh(g:Gr)(k:Nat):Nat:=((g.ports.take k).map List.length).sum
theorem ymy{g:Gr}{k:Nat}(h:k<g.ports.length):yfh g (k+1)=yfh g k+(g.ports.getD k []).length:=by
 unfold yfh;rw[List.take_succ_eq_append_getElem h,List.map_append,List.sum_append,Sh.getD_at h];simp
theorem ymb{g:Gr}(hg:ybb g):∀ k,k<=g.ports.length->yfh g k<=24 * k
 | 0,_=>by simp[yfh]
 | k+1,h=>by
  rw[ymy (by omega)]
  have:=ymb hg k (by omega)
  have:=hg.deg_lt (v:=k);omega
theorem ybcs(g:Gr):yfh g g.ports.length=yec g:=by unfold yfh yec;rw[List.take_length]
def ybfc(g:Gr):Nat:=yec g / 2
namespace Sh
open Ev Go.RowKit
set_option maxRecDepth 8000
def ycpx(g:Gr):List SV:=if yfi g=true then[.i .i64 g.ports.length,.i .i64 (ybfc g)]else[.i .i64 0,.i .i64 0]
theorem ybwj(n:Nat):((n:Nat):Int).tdiv 2=((n / 2:Nat):Int):=by
 rw[Int.tdiv_eq_ediv_of_nonneg (by omega)]
 omega
theorem yblj{g:Gr}(hI:GrI g):Returns Tryz.prog 122 [grV g] (.tp (ycpx g)):=by
 refine Returns.of (ycui _ _ ?_);have hV:=ymt hI;unfold ycpx;cases hv:yfi g with
 | false =>
  rw[hv]at hV;simp only[grV]at hV;simp only[c122,ybql,ybpt,ycfq,grV,clash,go_sem,Nat.reduceEqDiff,Nat.reduceAdd,Nat.reduceLT,↓reduceIte];refine hV.use ?_;simp only[thenO,clash,go_sem,Nat.reduceEqDiff,Nat.reduceAdd,↓reduceIte];exact Sim.refl _
 | true =>
  have hg:=(ycw g).1 hv;have h24:=hg.2.1;have hpl:=hg.2.2.1;obtain⟨n,hn⟩:∃ n,g.ports.length=n:=⟨_,rfl⟩;rw[hv]at hV;simp only[grV]at hV;rw[hn]at h24 hpl;simp only[c122,ybql,ybpt,ycjf,grV,clash,go_sem,Nat.reduceEqDiff,Nat.reduceAdd,Nat.reduceLT,↓reduceIte];refine hV.use ?_;simp only[thenO,yw,hn,clash,go_sem,Nat.reduceEqDiff,Nat.reduceAdd,↓reduceIte,reduceCtorEq];refine ybd (σ:=Nat) (fun k=>⟨[(12,.i .i64 k),(11,.i .i64 n),(10,yw g.ports),(3,.i .i64 (yfh g k:Nat)),(1,.pt (1,0) 0 0)],[(1,.one (some ⟨27,true,2,1,fun _=>[yj g.ids,yw g.ports]⟩))]⟩) (fun k=>k<=n) (fun k=>n - k) 0 (Nat.zero_le _) ?_ ?_
  ·refine yg [] [] [] ?_;simp only[yw,hn,allQ,live,yc,yu,Int.natCast_zero,go_sem,Nat.reduceEqDiff,↓reduceIte,reduceCtorEq];rfl
  intro k hk
  by_cases hlt:k<n
  ·have t1:decide ((k:Int)<(n:Int))=true:=decide_eq_true (by omega)
   have hs:=ymy (g:=g) (k:=k) (by omega)
   have hb:=ymb hg k (by omega)
   have hd:=hg.deg_lt (v:=k);obtain⟨d,hdd⟩:∃ d,(g.ports.getD k []).length=d:=⟨_,rfl⟩;rw[hdd]at hs hd;have e:(yfh g k:Int)+(d:Int)=((yfh g (k+1):Nat):Int):=by rw[hs];omega
   simp only[ybtu,ycci,ycoc,ycgk,yw,yba,hn,t1,hdd,e,clash,go_sem,Nat.reduceEqDiff,Nat.reduceAdd,↓reduceIte,reduceCtorEq];refine⟨by omega,ikw (by omega) (by omega),ikw (by omega) (by omega),?_⟩
   refine yh (k+1) (by omega) (by omega) ?_
   refine yg [] [] [] ?_;simp only[allQ,live,yc,yu,go_sem,Nat.reduceEqDiff,↓reduceIte,reduceCtorEq];omega
  ·obtain rfl:k=n:=by omega
   have t1:decide ((k:Int)<(k:Int))=false:=decide_eq_false (by omega)
   have hb:=ymb hg k (by omega)
   have e:=ybcs g;rw[hn]at e;have e2:=ybwj (yfh g k);simp only[ybtu,yciq,yw,yj,hn,hpl,t1,e2,clash,go_sem,Nat.reduceEqDiff,Nat.reduceAdd,Nat.reduceLeDiff,↓reduceIte,reduceCtorEq];unfold ybfc;rw[<- e];exact⟨⟨by decide,ikw (by omega) (by omega)⟩,Sim.refl _⟩
theorem ybkk{g:Gr}(hI:GrI g):Returns Tryz.prog 136 [grV g] (.b (isTreeB g)):=by
 refine Returns.of (ycry _ _ ?_);have hC:=ybrd hI;have hS:=yblj hI;unfold isTreeB;cases hcn:yee g with
 | false =>
  rw[hcn]at hC;simp only[grV]at hC;simp only[c136,ybrm,ybpo,ycil,grV,clash,go_sem,Nat.reduceEqDiff,Nat.reduceAdd,Nat.reduceLT,↓reduceIte];refine hC.use ?_;simp only[thenO,clash,go_sem,Nat.reduceAdd,↓reduceIte];exact Sim.refl _
 | true =>
  have hv:=yjn hcn;have hg:=(ycw g).1 hv;have h24:=hg.2.1;rw[hcn]at hC;unfold ycpx at hS;rw[if_pos hv]at hS;simp only[grV]at hC hS;simp only[c136,ybrm,ybpo,ycbx,ycdy,grV,clash,go_sem,Nat.reduceEqDiff,Nat.reduceAdd,Nat.reduceLT,↓reduceIte];refine hC.use ?_;simp only[thenO,clash,go_sem,Nat.reduceEqDiff,Nat.reduceAdd,↓reduceIte,reduceCtorEq];refine hS.use ?_;simp only[go_sem,Nat.reduceEqDiff,↓reduceIte]
  refine⟨ikw (by omega) (by omega),?_⟩
  have e:(((ybfc g:Nat):Int) == (g.ports.length:Int) - 1)=decide (yec g / 2+1=g.ports.length):=by
   rw[Bool.eq_iff_iff,beq_iff_eq,decide_eq_true_iff];unfold ybfc;omega
  rw[<- e];exact Sim.refl _
end Sh
end Go.Proofs.YtiejahgklcjhkaaGreatDoor

namespace Go.Proofs.YtiejahgklcjhkaaGreatDoor
open Go
def yif(g:Gr)(c:Conf):Bool:=isTreeB g && ynw g.ports.length (yda g [(g.ids.length:Int)]) c
namespace Sh
open Ev Go.RowKit
set_option maxRecDepth 8000
theorem ybzl{g:Gr}(hI:GrI g):Returns Tryz.prog 87 [grV g] (.b (isTreeB g)):=by
 refine Returns.of (ycyk _ _ ?_);have hC:=ybkk hI;simp only[grV]at hC;simp only[c87,ydbc,ydab,grV,go_sem,Nat.reduceEqDiff,Nat.reduceAdd,Nat.reduceLT,↓reduceIte];refine hC.use ?_;simp only[thenO,sim_b,go_sem,Nat.reduceEqDiff,Nat.reduceAdd,↓reduceIte,reduceCtorEq]
theorem ybna{g:Gr}(hI:GrI g){c:Conf}(hR:ybkh c):Returns Tryz.prog 80 [grV g,ybe c] (.b (yif g c)):=by
 refine Returns.of (yczt _ _ ?_);have hF:=ybzl hI;unfold yif;cases ht:isTreeB g with
 | false =>
  rw[ht]at hF;simp only[grV]at hF;simp only[c80,ycrn,ycpl,grV,clash,go_sem,Nat.reduceEqDiff,Nat.reduceAdd,Nat.reduceLT,↓reduceIte];refine hF.use ?_;simp only[thenO,clash,go_sem,Nat.reduceEqDiff,Nat.reduceAdd,↓reduceIte,reduceCtorEq];exact Sim.refl _
 | true =>
  have hcn:yee g=true:=by
   unfold isTreeB at ht;rw[Bool.and_eq_true]at ht;exact ht.1
  have hg:=(ycw g).1 (yjn hcn);have h24:=hg.2.1;have hpl:=hg.2.2.1
  have hC:=ybzt hg hR (G:=[(g.ids.length:Int)]) (fun x hx=>by
   simp at hx;subst hx;exact yej (by omega))
  rw[ht]at hF;simp only[grV]at hF;simp only[c80,ycrn,ycpl,grV,clash,go_sem,Nat.reduceEqDiff,Nat.reduceAdd,Nat.reduceLT,↓reduceIte];refine hF.use ?_;simp only[thenO,yj,splice,clash,go_sem,Nat.reduceEqDiff,Nat.reduceAdd,Nat.reduceLeDiff,Nat.reduceLT,↓reduceIte,reduceCtorEq];have one:∀ {q:Nat},q<1->q=0:=fun {q} h=>by omega
  refine .inl ⟨fun q hq=>by obtain rfl:=one hq;simp only[go_sem],hC.useS ?_ ?_⟩
  ·refine⟨Sim.refl (grV g),Sim.refl _,?_,trivial⟩;refine ygm fun q hq=>?_;obtain rfl:=one hq;simp only[List.getD_cons_zero,go_sem];exact⟨Sim.refl _,trivial⟩
  simp only[go_sem];exact Sim.refl _
end Sh
end Go.Proofs.YtiejahgklcjhkaaGreatDoor

namespace Go.Proofs.YtiejahgklcjhkaaGreatDoor
def rotN(n t v:Nat):Nat:=if v+t<n then v+t else v+t - n
theorem yed{n t v:Nat}(ht:t<=n)(hv:v<n):rotN n t v<n:=by unfold rotN;split<;>omega
theorem yhh{n t v:Nat}(ht:t<=n)(hv:v<n):rotN n (n - t) (rotN n t v)=v:=by unfold rotN;split<;>split<;>omega
theorem yco{n t v:Nat}(ht:t<=n)(hv:v<n):rotN n t (rotN n (n - t) v)=v:=by unfold rotN;split<;>split<;>omega
theorem ycpy{n t v:Nat}(ht:t<n)(hv:v<n):(v+t) % n=rotN n t v:=by
 unfold rotN;split
 ·exact Nat.mod_eq_of_lt (by assumption)
 ·rw[Nat.mod_eq_sub_mod (by omega),Nat.mod_eq_of_lt (by omega)]
theorem yql{n t u v:Nat}(ht:t<=n)(hu:u<n)(hv:v<n)(e:rotN n t u=rotN n t v):u=v:=by
 rw[<- yhh ht hu,e,yhh ht hv]
def rotL(n t:Nat)(l:Int × Int):Int × Int:=(((rotN n t l.1.toNat:Nat):Int),l.2)
def rotG(g:Gr)(t:Nat):Gr :=
 ⟨(List.range g.ports.length).map fun w=>g.ids.getD (rotN g.ports.length (g.ports.length - t) w) 0,(List.range g.ports.length).map fun w=>(g.ports.getD (rotN g.ports.length (g.ports.length - t) w) []).map (rotL g.ports.length t)⟩
section
variable {g:Gr} {t u v:Nat}
theorem ycg:(rotG g t).ports.length=g.ports.length:=by simp[rotG]
theorem ybdq:(rotG g t).ids.length=g.ports.length:=by simp[rotG]
theorem yoc(ht:t<=g.ports.length)(hv:v<g.ports.length):(rotG g t).ports.getD (rotN g.ports.length t v) []=(g.ports.getD v []).map (rotL g.ports.length t):=by
 show((List.range g.ports.length).map fun w=>(g.ports.getD (rotN g.ports.length (g.ports.length - t) w) []).map (rotL g.ports.length t)).getD (rotN g.ports.length t v) []=_;rw[Sh.getD_at (by simpa using yed ht hv),List.getElem_map,List.getElem_range,yhh ht hv]
theorem ycxs(ht:t<=g.ports.length)(hv:v<g.ports.length):(rotG g t).ids.getD (rotN g.ports.length t v) 0=g.ids.getD v 0:=by
 show((List.range g.ports.length).map fun w=>g.ids.getD (rotN g.ports.length (g.ports.length - t) w) 0).getD (rotN g.ports.length t v) 0=_;rw[Sh.getD_at (by simpa using yed ht hv),List.getElem_map,List.getElem_range,yhh ht hv]
theorem yuq(hg:ybb g)(ht:t<=g.ports.length)(hv:v<g.ports.length){l:Int × Int}:l ∈ (rotG g t).ports.getD (rotN g.ports.length t v) [] ↔ ∃ l' ∈ g.ports.getD v [],l=rotL g.ports.length t l':=by
 rw[yoc ht hv,List.mem_map];exact⟨fun⟨a,h1,h2⟩=>⟨a,h1,h2.symm⟩,fun⟨a,h1,h2⟩=>⟨a,h1,h2.symm⟩⟩
theorem ypx(hg:ybb g)(ht:t<=g.ports.length)(hu:u<g.ports.length)(hv:v<g.ports.length):adj (rotG g t) (rotN g.ports.length t u) (rotN g.ports.length t v) ↔ adj g u v:=by
 rw[ygj,ygj];constructor
 ·rintro⟨l,hl,e⟩;obtain⟨l',hl',rfl⟩:=(yuq hg ht hu).1 hl;obtain⟨h1,h2,_⟩:=ydo hg hu hl'
  have:rotN g.ports.length t l'.1.toNat=rotN g.ports.length t v:=by
   have e:((rotN g.ports.length t l'.1.toNat:Nat):Int)=_:=e;omega
  have:=yql ht h2 hv this;exact⟨l',hl',by omega⟩
 ·rintro⟨l,hl,e⟩;refine⟨rotL g.ports.length t l,(yuq hg ht hu).2 ⟨l,hl,rfl⟩,?_⟩;show((rotN g.ports.length t l.1.toNat:Nat):Int)=_;rw[e,Int.toNat_natCast]
theorem yog(hg:ybb g)(ht:t<=g.ports.length):ybb (rotG g t):=by
 obtain⟨h1,h2,h3,h4,h5,h6,h7⟩:=hg;have hg:ybb g:=⟨h1,h2,h3,h4,h5,h6,h7⟩;have ht':g.ports.length - t<=g.ports.length:=by omega
 have at_:∀ w,w<g.ports.length->(rotG g t).ports.getD w []=(g.ports.getD (rotN g.ports.length (g.ports.length - t) w) []).map (rotL g.ports.length t):=fun w hw=>by
  have:=yoc (g:=g) ht (yed ht' hw)
  rwa [yco ht hw]at this
 refine⟨by rw[ycg];exact h1,by rw[ycg];exact h2,by rw[ycg,ybdq],?_,?_,?_,?_⟩
 ·intro x hx;obtain⟨w,hw,rfl⟩:=List.mem_map.1 hx;have hl:rotN g.ports.length (g.ports.length - t) w<g.ids.length:=by rw[h3];exact yed ht' (List.mem_range.1 hw)
  rw[Sh.getD_at hl];exact h4 _ (List.getElem_mem hl)
 ·show((List.range g.ports.length).map _).Nodup;rw[List.Nodup,List.pairwise_map];refine(List.Pairwise.and_mem.1 (List.nodup_range (n:=g.ports.length))).imp ?_;rintro a b ⟨ha,hb,hne⟩ e;have la:rotN g.ports.length (g.ports.length - t) a<g.ids.length:=by rw[h3];exact yed ht' (List.mem_range.1 ha)
  have lb:rotN g.ports.length (g.ports.length - t) b<g.ids.length:=by rw[h3];exact yed ht' (List.mem_range.1 hb)
  rw[Sh.getD_at la,Sh.getD_at lb]at e;exact hne (yql ht' (List.mem_range.1 ha) (List.mem_range.1 hb) ((List.getElem_inj (h₀:=la) (h₁:=lb) h5).1 e))
 ·rintro⟨w,hw⟩;have hw':w<g.ports.length:=by rwa [ycg]at hw
  have e0:(rotG g t).ports[w]=(rotG g t).ports.getD w []:=by rw[Sh.getD_at hw]
  show ybu (rotG g t).ports[w] (w:Int) ((rotG g t).ports.length:Int);rw[e0,at_ w hw',ycg];have hb:=yed ht' hw';refine⟨fun l hl=>?_,?_⟩
  ·obtain⟨l',hl',rfl⟩:=List.mem_map.1 hl;obtain⟨a1,a2,a3,a4,a5⟩:=ydo hg hb hl';have a6:=yed ht a2;refine⟨Int.natCast_nonneg _,?_,?_,a4,a5⟩
   ·show((rotN g.ports.length t l'.1.toNat:Nat):Int)<=_;omega
   ·intro e;have e:((rotN g.ports.length t l'.1.toNat:Nat):Int)=(w:Int):=e;have e1:rotN g.ports.length t l'.1.toNat=rotN g.ports.length t (rotN g.ports.length (g.ports.length - t) w):=by rw[yco ht hw'];omega
    have e2:=yql ht a2 hb e1;obtain⟨l2,hl2,e3⟩:=ygj.1 a3;have e4:g.ports[rotN g.ports.length (g.ports.length - t) w]? = some (g.ports.getD (rotN g.ports.length (g.ports.length - t) w) []):=by simp[List.getD,hb]
    exact(hg.link e4 hl2).2.2.1 (by rw[e3,e2])
  ·rw[List.map_map,List.Nodup,List.pairwise_map];have hn:=yjo hg hb;rw[List.Nodup,List.pairwise_map]at hn;refine(List.Pairwise.and_mem.1 hn).imp ?_;rintro a b ⟨ha,hb',hne⟩ e;obtain⟨a1,a2,_⟩:=ydo hg hb ha;obtain⟨b1,b2,_⟩:=ydo hg hb hb';have e:((rotN g.ports.length t a.1.toNat:Nat):Int)=((rotN g.ports.length t b.1.toNat:Nat):Int):=e;have:=yql ht a2 b2 (by omega)
   exact hne (by omega)
 ·rintro⟨w,hw⟩ l hl;have hw':w<g.ports.length:=by rwa [ycg]at hw
  have e0:(rotG g t).ports[w]=(rotG g t).ports.getD w []:=by rw[Sh.getD_at hw]
  have hl:l ∈ (rotG g t).ports[w]:=hl;rw[e0,at_ w hw']at hl;obtain⟨l',hl',rfl⟩:=List.mem_map.1 hl;have hb:=yed ht' hw';obtain⟨a1,a2,_⟩:=ydo hg hb hl'
  have back:=h7 ⟨rotN g.ports.length (g.ports.length - t) w,hb⟩ l' (by
   show l' ∈ g.ports[rotN g.ports.length (g.ports.length - t) w];rw[<- Sh.getD_at hb (d:=[])];exact hl')
  show((w:Int),l'.2) ∈ (rotG g t).ports.getD ((rotN g.ports.length t l'.1.toNat:Nat):Int).toNat [];rw[Int.toNat_natCast];refine(yuq hg ht a2).2 ⟨_,back,?_⟩;show _=(((rotN g.ports.length t ((rotN g.ports.length (g.ports.length - t) w:Nat):Int).toNat:Nat):Int),l'.2);rw[Int.toNat_natCast,yco ht hw']
theorem yot(hg:ybb g)(ht:t<=g.ports.length)(hu:u<g.ports.length):∀ (k v:Nat),v<g.ports.length->(Walk (rotG g t) (rotN g.ports.length t u) k (rotN g.ports.length t v) ↔ Walk g u k v)
 | 0,v,hv=>⟨fun e=>yql ht hv hu e,fun e=>by have e:v=u:=e;rw[e];rfl⟩
 | k+1,v,hv=>by
  constructor
  ·rintro⟨x,hx,ha⟩;have hxl:=((yog hg ht).adj_lt ha).1;rw[ycg]at hxl;have hb:=yed (show g.ports.length - t<=g.ports.length by omega) hxl
   rw[<- yco ht hxl]at hx ha;exact⟨_,(yot hg ht hu k _ hb).1 hx,(ypx hg ht hb hv).1 ha⟩
  ·rintro⟨x,hx,ha⟩;have hxl:=(hg.adj_lt ha).1;exact⟨_,(yot hg ht hu k x hxl).2 hx,(ypx hg ht hxl hv).2 ha⟩
end
end Go.Proofs.YtiejahgklcjhkaaGreatDoor

namespace Go.Proofs.YtiejahgklcjhkaaGreatDoor
section
variable {g:Gr} {t u v a:Nat}
theorem yho(ht:t<=g.ports.length){w:Nat}(hw:w<(rotG g t).ports.length):∃ v,v<g.ports.length/\w=rotN g.ports.length t v:=by
 rw[ycg]at hw;exact⟨rotN g.ports.length (g.ports.length - t) w,yed (by omega) hw,(yco ht hw).symm⟩
theorem yqb(ht:t<=g.ports.length)(hv:v<g.ports.length):rotN g.ports.length t v<(rotG g t).ports.length:=by
 rw[ycg];exact yed ht hv
theorem ybdx(hg:ybb g)(ht:t<=g.ports.length)(hc:yee g=true):yee (rotG g t)=true:=by
 have hh:=yog hg ht;have h0:=hg.1;unfold yee at hc ⊢;rw[Bool.and_eq_true]at hc ⊢;refine⟨(ycw _).2 hh,?_⟩;obtain⟨z,hz,e⟩:=yho (g:=g) ht (w:=0) (by rw[ycg];exact h0)
 have all:=(ypm hg hz).1 (ybdp hg h0 hz hc.2);refine(ypm hh (by rw[ycg];exact h0)).2 fun w hw=>?_
 obtain⟨v,hv,rfl⟩:=yho ht hw;obtain⟨k,hk⟩:=all v hv;refine⟨k,?_⟩;rw[e];exact(yot hg ht hz k v hv).2 hk
theorem yeg(hg:ybb g)(ht:t<=g.ports.length)(ha:a<g.ports.length)(hv:v<g.ports.length):dP (rotG g t) (rotN g.ports.length t a) (rotN g.ports.length t v)=dP g a v:=by
 have hh:=yog hg ht;have ha':=yqb ht ha;have hv':=yqb ht hv;obtain⟨l1,d1⟩:=ydt hg ha;obtain⟨l2,d2⟩:=ydt hh ha';have e1:(ybs g a)[v]? = some (dP g a v):=by simp[dP,List.getD,l1,hv]
 have e2:(ybs (rotG g t) (rotN g.ports.length t a))[rotN g.ports.length t v]? = some (dP (rotG g t) (rotN g.ports.length t a) (rotN g.ports.length t v)):=by
  unfold dP;rw[List.getD_eq_getElem?_getD,List.getElem?_eq_getElem (by rw[l2];exact hv')]
  rfl
 have v1:=d1 v _ e1;have v2:=d2 _ _ e2;have w:=fun k=>yot hg ht ha k v hv;refine yqg.unique v2 ?_;rcases v1 with⟨q1,q2⟩ | ⟨k,q1,q2,q3⟩
 ·exact .inl ⟨q1,fun k r=>q2 k ((w k).1 r)⟩
 ·exact .inr ⟨k,q1,(w k).2 q2,fun j hj r=>q3 j hj ((w j).1 r)⟩
theorem ytx(h:Tr g)(ht:t<=g.ports.length):Tr (rotG g t):=by
 have hg:=h.good;have hh:=yog hg ht;refine⟨hh,ybdx hg ht h.conn,⟨fun a v u ha hu=>?_,fun a v u w ha hu hw e1 e2=>?_⟩⟩
 ·obtain⟨hv',hu'⟩:=hh.adj_lt hu;obtain⟨a,ha0,rfl⟩:=yho ht ha;obtain⟨v,hv,rfl⟩:=yho ht hv';obtain⟨u,hul,rfl⟩:=yho ht hu';have:=h.up ha0 ((ypx hg ht hv hul).1 hu);show dP _ _ _=dP _ _ _ - 1\/dP _ _ _=dP _ _ _+1
  rwa [yeg hg ht ha0 hul,yeg hg ht ha0 hv]
 ·obtain⟨hv',hu'⟩:=hh.adj_lt hu;obtain⟨_,hw'⟩:=hh.adj_lt hw;obtain⟨a,ha0,rfl⟩:=yho ht ha;obtain⟨v,hv,rfl⟩:=yho ht hv';obtain⟨u,hul,rfl⟩:=yho ht hu';obtain⟨w,hwl,rfl⟩:=yho ht hw';have e1:dP _ _ _=dP _ _ _ - 1:=e1;have e2:dP _ _ _=dP _ _ _ - 1:=e2;rw[yeg hg ht ha0 hul,yeg hg ht ha0 hv]at e1;rw[yeg hg ht ha0 hwl,yeg hg ht ha0 hv]at e2;rw[h.one ha0 ((ypx hg ht hv hul).1 hu) ((ypx hg ht hv hwl).1 hw) e1 e2]
theorem yto(hg:ybb g)(ht:t<=g.ports.length)(hv:v<g.ports.length){e:Int}:ykg (rotG g t) (rotN g.ports.length t v) e ↔ ykg g v e:=by
 constructor
 ·rintro⟨h1,w,hw,h2⟩;obtain⟨w,hw0,rfl⟩:=yho ht hw;rw[yeg hg ht hw0 hv]at h2;refine⟨fun x hx=>?_,w,hw0,h2⟩;have:=h1 _ (yqb ht hx)
  rwa [yeg hg ht hx hv]at this
 ·rintro⟨h1,w,hw,h2⟩;refine⟨fun x hx=>?_,_,yqb ht hw,by rw[yeg hg ht hw hv];exact h2⟩
  obtain⟨x,hx0,rfl⟩:=yho ht hx;rw[yeg hg ht hx0 hv];exact h1 x hx0
theorem ybdd(h:Tr g)(hv:v<g.ports.length):Peak g v ↔ ∀ ev x ex,ykg g v ev->x<g.ports.length->ykg g x ex->ev<=ex:=by
 constructor
 ·intro hp ev x ex he hx he';exact(h.peak_least hp hv hx he he').1
 ·intro hl;obtain⟨ev,he⟩:=ybsp (g:=g) hv;exact h.least_peak hv he fun x ex hx he'=>hl ev x ex he hx he'
theorem ybxn(h:Tr g)(ht:t<=g.ports.length)(hv:v<g.ports.length):Peak (rotG g t) (rotN g.ports.length t v) ↔ Peak g v:=by
 have hg:=h.good;rw[ybdd h hv,ybdd (ytx h ht) (yqb ht hv)];constructor
 ·intro hl ev x ex he hx he';exact hl ev _ ex ((yto hg ht hv).2 he) (yqb ht hx) ((yto hg ht hx).2 he')
 ·intro hl ev x ex he hx he';obtain⟨x,hx0,rfl⟩:=yho ht hx;exact hl ev x ex ((yto hg ht hv).1 he) hx0 ((yto hg ht hx0).1 he')
end
end Go.Proofs.YtiejahgklcjhkaaGreatDoor

namespace Go.Proofs.YtiejahgklcjhkaaGreatDoor
def pkL(f:Nat->Int)(v:Nat)(s:Nat)(l:Int × Int):Nat:=if f v<f l.1.toNat then difB s (2 ^ v)else s
def pkV(f:Nat->Int)(g:Gr)(s v:Nat):Nat:=(g.ports.getD v []).foldl (pkL f v) s
def yem(f:Nat->Int)(g:Gr):Nat:=(List.range g.ports.length).foldl (pkV f g) (2 ^ g.ports.length - 1)
section
variable {g:Gr} {f:Nat->Int}
theorem ybeb{v i:Nat}:∀ (ls:List (Int × Int)) (s:Nat),(ls.foldl (pkL f v) s).testBit i=true ↔ s.testBit i=true/\(i=v -> ∀ l ∈ ls,f l.1.toNat<=f v)
 | [],s=>⟨fun h=>⟨h,fun _ _ hl=>nomatch hl⟩,fun h=>h.1⟩
 | l :: ls,s=>by
  rw[List.foldl_cons,ybeb ls]
  have hb:(pkL f v s l).testBit i=true ↔ s.testBit i=true/\(i=v->f l.1.toNat<=f v):=by
   unfold pkL
   by_cases q:f v<f l.1.toNat
   ·rw[if_pos q,yhk,Bool.and_eq_true,Bool.not_eq_true',Nat.testBit_two_pow,decide_eq_false_iff_not];exact and_congr Iff.rfl ⟨fun h e=>absurd e.symm h,fun h e=>by have:=h e.symm;omega⟩
   ·rw[if_neg q];exact⟨fun h=>⟨h,fun _=>by omega⟩,fun h=>h.1⟩
  rw[hb];constructor
  ·rintro⟨⟨h1,h2⟩,h3⟩;refine⟨h1,fun e x hx=>?_⟩;rcases List.mem_cons.1 hx with r | r
   ·rw[r];exact h2 e
   ·exact h3 e x r
  ·rintro⟨h1,h2⟩;exact⟨⟨h1,fun e=>h2 e l List.mem_cons_self⟩,fun e x hx=>h2 e x (List.mem_cons_of_mem _ hx)⟩
theorem ybet{i:Nat}:∀ (vs:List Nat) (s:Nat),(vs.foldl (pkV f g) s).testBit i=true ↔ s.testBit i=true/\(i ∈ vs -> ∀ l ∈ g.ports.getD i [],f l.1.toNat<=f i)
 | [],s=>⟨fun h=>⟨h,fun hl=>nomatch hl⟩,fun h=>h.1⟩
 | v :: vs,s=>by
  rw[List.foldl_cons,ybet vs];have hb:(pkV f g s v).testBit i=true ↔ s.testBit i=true/\(i=v -> ∀ l ∈ g.ports.getD v [],f l.1.toNat<=f v):=ybeb _ _;rw[hb];constructor
  ·rintro⟨⟨h1,h2⟩,h3⟩;refine⟨h1,fun hm=>?_⟩;rcases List.mem_cons.1 hm with r | r
   ·subst r;exact h2 rfl
   ·exact h3 r
  ·rintro⟨h1,h2⟩;exact⟨⟨h1,fun e=>by subst e;exact h2 List.mem_cons_self⟩,fun hm=>h2 (List.mem_cons_of_mem _ hm)⟩
theorem yyc(hg:ybb g){v:Nat}:(yem f g).testBit v=true ↔ v<g.ports.length /\ ∀ u,adj g v u->f u<=f v:=by
 unfold yem;rw[ybet,Nat.testBit_two_pow_sub_one,decide_eq_true_iff,List.mem_range];constructor
 ·rintro⟨h1,h2⟩;refine⟨h1,fun u hu=>?_⟩;obtain⟨l,hl,e⟩:=ymp hu;rw[<- e];exact h2 h1 l hl
 ·rintro⟨h1,h2⟩;exact⟨h1,fun _ l hl=>h2 _ (ydo hg h1 hl).2.2.1⟩
theorem yjq(h:Tr g){c:Conf}(hr:yhb g c){v:Nat}:(yem (fun x=>(c.getD x []).getD 0 0) g).testBit v=true ↔ v<g.ports.length/\Peak g v:=by
 have hpl:=h.good.2.2.1;have at_:∀ x,x<g.ports.length->(c.getD x []).getD 0 0=htP g x:=fun x hx=>by rw[hr x (by omega)];rfl
 rw[yyc h.good];refine and_congr_right fun hv=>?_;unfold Peak;constructor
 ·intro q u hu;have:=q u hu
  rwa [at_ u (h.good.adj_lt hu).2,at_ v hv]at this
 ·intro q u hu;rw[at_ u (h.good.adj_lt hu).2,at_ v hv];exact q u hu
theorem ybqf(h:Tr g){t:Nat}(ht:t<=g.ports.length){c d:Conf}(hc:yhb g c)(hd:yhb (rotG g t) d){v:Nat}(hv:v<g.ports.length) :
  (yem (fun x=>(c.getD x []).getD 0 0) g).testBit v=(yem (fun x=>(d.getD x []).getD 0 0) (rotG g t)).testBit (rotN g.ports.length t v):=by
 rw[Bool.eq_iff_iff,yjq h hc,yjq (ytx h ht) hd,ybxn h ht hv];exact and_congr_left fun _=>⟨fun _=>yqb ht hv,fun _=>hv⟩
theorem ybyk(h:Tr g){c:Conf}(hc:yhb g c):yem (fun x=>(c.getD x []).getD 0 0) g ≠ 0:=fun e=>by
 obtain⟨v,hv,hp⟩:=h.peak_ex;have:=(yjq h hc).2 ⟨hv,hp⟩;rw[e]at this;simp at this
end
end Go.Proofs.YtiejahgklcjhkaaGreatDoor

namespace Go.Proofs.YtiejahgklcjhkaaGreatDoor
namespace Sh
open Go Ev Go.RowKit
section
variable {m:Mem} {F:AM}
theorem row_of{z bk p n cp N e zz:Nat}{Tb:Ev.T Value}{L:Nat->List Value}(h1:m.b.get bk=some (.cells Tb N e zz))(h2:0<n)(h3:p+n * z<=N)(h4:∀ a,a<n->(L a).length=z)(h5:∀ a,a<n -> ∀ j,j<z->Tb.get (p+a * z+j)=(L a)[j]?) :
  rowOf m z (.slice (some ⟨bk,p,none⟩) n cp)=some (ybo L n,[bk]):=by
 have hl:=ycd h4;show(bif Nat.beq n 0 then _ else _)=_;rw[show Nat.beq n 0=false by cases n with | zero=>omega | succ n=>rfl]
 simp only[cond_false];rw[h1];simp only;rw[Nat.ble_eq_true_of_le h3];simp only[cond_true]
 have hg:=yff (T:=Tb) (L:=ybo L n) (o:=p) (fun j hj=>by
  rw[hl]at hj;rcases Nat.eq_zero_or_pos z with hz | hz
  ·subst hz;omega
  ·have hd:=Nat.div_add_mod j z;have hm:=Nat.mod_lt j hz;have hk:j / z<n:=Nat.div_lt_of_lt_mul (by rwa [Nat.mul_comm]at hj)
   have e1:j=j / z * z+j % z:=by rw[Nat.mul_comm];exact hd.symm
   rw[e1,yep h4 _ _ hk hm,<- Nat.add_assoc];exact h5 _ hk _ hm)
 rw[hl]at hg;rw[hg]
theorem row_zero{u:Value}(h:Z0 u)(z:Nat):rowOf m z u=some ([],[]):=by
 rcases h with rfl | ⟨b,o,c,rfl⟩
 ·rfl
 ·rfl
theorem in64{n:Int}(h:I64 n):inI64 n=true:=by
 unfold I64 at h;unfold inI64;split
 ·rename_i k;exact Nat.ble_eq_true_of_le (by simp only[Int.ofNat_eq_natCast]at h;omega)
 ·rename_i k;exact Nat.ble_eq_true_of_le (by omega)
theorem yni{a b:Int}(ha:I64 a)(hb:I64 b):∀ {l:List Value} {r:List (Int × Int)},pairsOf l=some r->pairsOf (l ++ [.int .i64 a,.int .i64 b])=some (r ++ [(a,b)])
 | [],r,h=>by
  cases h
  show(bif inI64 a && inI64 b then _ else _)=_;rw[in64 ha,in64 hb];rfl
 | .int .i64 x :: .int .i64 y :: l,r,h=>by
  unfold pairsOf at h;split at h
  ·rename_i r' hr
   rw[Bool.cond_eq_ite]at h;split at h
   ·rename_i hc
    cases h
    show(match pairsOf (l ++ [.int .i64 a,.int .i64 b])with | some r=>bif inI64 x && inI64 y then some ((x,y) :: r)else none | none=>none)=_
    rw[yni ha hb hr];simp only[hc,cond_true];rfl
   ·cases h
  ·cases h
theorem ybgj(hF:Le F m.b.get){ls:List (Int × Int)}{u:Value}(h:RV F om0 (yba ls) u)(hI:∀ l ∈ ls,I64 l.1/\I64 l.2):linksOf m u=some ls:=by
 unfold linksOf;rcases h.sl_inv with⟨h0,hz⟩ | ⟨bk,p,cp,T,N,e,zz,L,rfl,g1,g2,g3,g4,g5,g6,g7⟩
 ·rw[row_zero hz];have:ls = []:=List.eq_nil_of_length_eq_zero h0;subst this;rfl
 ·rcases Nat.eq_zero_or_pos ls.length with h0 | h0
  ·have:ls = []:=List.eq_nil_of_length_eq_zero h0;subst this;rfl
  ·rw[row_of (hF _ _ g1) h0 g3 g4 g5]
   have:∀ n,n<=ls.length->pairsOf (ybo L n)=some (ls.take n):=by
    intro n
    induction n with
    | zero=>intro _;rfl
    | succ n ih =>
     intro hn;have hn':n<ls.length:=by omega
     have hl:=g6 n hn'
     have e1:L n = [.int .i64 ls[n].1,.int .i64 ls[n].2]:=by
      have e0:ls.getD n (0,0)=ls[n]:=by simp[List.getD,hn']
      rw[e0]at hl;obtain⟨x,y,e2,hx,hy⟩:=rvl2 hl;rw[e2,hx.int_inv,hy.int_inv]
     show pairsOf (ybo L n ++ L n)=_;rw[e1,List.take_succ_eq_append_getElem hn'];have:=hI ls[n] (List.getElem_mem hn');exact yni this.1 this.2 (ih (by omega))
   simp only;rw[this _ (Nat.le_refl _),List.take_length]
theorem ybmf{α β:Type}{f:α->Option β}:∀ {l:List α} {r:List β},l.length=r.length->(∀ (k:Nat) x y,l[k]? = some x->r[k]? = some y->f x=some y)->mapO f l=some r
 | [],[],_,_=>rfl
 | x :: l,y :: r,hl,h=>by
  unfold mapO;rw[h 0 x y rfl rfl];simp only;rw[ybmf (by simpa using hl) fun k a b h1 h2=>h (k+1) a b (by simpa using h1) (by simpa using h2)]
 | [],_ :: _,hl,_=>by simp at hl
 | _ :: _,[],hl,_=>by simp at hl
theorem yblh{L:Nat->List Value}{n:Nat}(h:∀ a,a<n->(L a).length=1){k:Nat}(hk:k<n):(ybo L n)[k]? = (L k)[0]?:=by
 have:=yep h k 0 hk (by omega)
 simpa using this
theorem ybgs{ids:SV}{P:List (List (Int × Int))}{u:Value}(h:RV F om0 (.rf [ids,yw P]) u)(hI:∀ ls ∈ P,∀ l ∈ ls,I64 l.1/\I64 l.2) :
  ∃ A v us,u = .pointer (some A) /\ ∀ m:Mem,Le F m.b.get->graphOf m A=some ⟨v,us,P⟩:=by
 obtain⟨bk,p,T,N,e,zz,L,rfl,h1,h2,h3,h4,_⟩:=h.rf_inv;cases h4 with
 | cons a0 b0 =>
  cases b0 with
  | cons a1 b1 =>
   rename_i u0 _ u1 _
   cases b1
   have hbox:∀ m:Mem,Le F m.b.get->boxPorts m ⟨bk,p,none⟩=some u1:=fun m hF=>by
    unfold boxPorts;simp only;rw[hF _ _ h1];simp only;rw[show Nat.blt (p+1) N=true from Nat.ble_eq_true_of_le (show p+1+1<=N by simp at h2;omega)]
    simp only[cond_true];exact h3 1 (by simp)
   have fin:∀ (us:List Value) (ft:List Nat),(∀ m:Mem,Le F m.b.get->rowOf m 1 u1=some (us,ft))->us.length=P.length->(∀ (k:Nat) x y,us[k]? = some x->P[k]? = some y->RV F om0 (yba y) x) ->
     ∃ A v us,Value.pointer (some ⟨bk,p,none⟩) = .pointer (some A) /\ ∀ m:Mem,Le F m.b.get->graphOf m A=some ⟨v,us,P⟩:=fun us ft hr hl hx=>by
    refine⟨_,u1,us,rfl,fun m hF=>?_⟩;unfold graphOf;rw[hbox m hF];show ob (rowOf m 1 u1) _=_;rw[hr m hF];show ob (mapO (linksOf m) us) _=_;rw[ybmf hl fun k x y q1 q2=>ybgj hF (hx k x y q1 q2) (hI y (List.mem_of_getElem? q2))];rfl
   rcases a1.sl_inv with⟨k0,hz⟩ | ⟨bk',p',cp,T',N',e',zz',L',rfl,g1,g2,g3,g4,g5,g6,g7⟩
   ·have:P = []:=List.eq_nil_of_length_eq_zero k0;subst this;exact fin [] [] (fun m _=>row_zero hz 1) rfl (fun k x y q _=>by simp at q)
   ·rcases Nat.eq_zero_or_pos P.length with h0 | h0
    ·have:P = []:=List.eq_nil_of_length_eq_zero h0;subst this;exact fin [] [] (fun m _=>rfl) rfl (fun k x y q _=>by simp at q)
    ·refine fin (ybo L' P.length) [bk'] (fun m hF=>row_of (hF _ _ g1) h0 g3 g4 g5) (by rw[ycd g4,Nat.mul_one]) fun k x y q1 q2=>?_
     have hk:k<P.length:=(List.getElem?_eq_some_iff.1 q2).1;rw[yblh g4 hk]at q1;have hl:=g6 k hk;have e0:P.getD k []=y:=by simp[List.getD,q2]
     rw[e0]at hl;obtain⟨v,e1,hv⟩:=rvl1 hl;rw[e1]at q1;cases q1
     exact hv
end
def ydq(P:List (List (Int × Int)))(k:Nat):El:=(flatAt 0 P).getD k ⟨0,0,0⟩
def ybsh(P:List (List (Int × Int))):ItS:=⟨(flatAt 0 P).length,fun k=>[.i .i64 (ydq P k).v,.ag [.i .i64 (ydq P k).a,.i .i64 (ydq P k).b]],[],fun _ _=>True,fun _ o=>o⟩
theorem ybvb{ids:SV}{P:List (List (Int × Int))}(hI:∀ ls ∈ P,∀ l ∈ ls,I64 l.1/\I64 l.2):ItC Tryz.prog 158 [.rf [ids,yw P]] (ybsh P):=by
 intro lo F ω s f m us hc hr _;obtain⟨u,rfl,hu⟩:=rvl1 hr
 have hu0:RV F om0 (.rf [ids,yw P]) u:=by
  obtain⟨bk,p,T,N,e,zz,L,rfl,h1,h2,h3,h4,h5⟩:=hu.rf_inv;exact .rf h1 h2 h3 h4 h5
 obtain⟨A,v,vs,rfl,hg⟩:=ybgs hu0 hI;have el0:∀ k,k<(flatAt 0 P).length->(flatAt 0 P)[k]? = some (ydq P k):=fun k hk=>by simp[ydq,List.getD,hk]
 refine⟨⟨(flatAt 0 P).length,fun k=>[(ydq P k).v0,(ydq P k).v1],fun _ m=>graphOf m A=some ⟨v,vs,P⟩,fun _ m=>m,fun _ _ M w M' w'=>M'=M/\w'=w⟩,⟨yut.1,fun k m hk hw _=>Grow.refl hw,?_,?_⟩,rfl,fun F' ω' s' f' m' k hF _ hc' hk _=>⟨hg m' (hF.trans hc'.sub),fun hk=>⟨.cons .i (.cons (.ag (.cons .i (.cons .i .nil))) .nil),hc'⟩⟩⟩
 ·rintro k φ M w m M' w' hk hw hR hs hp ⟨rfl,rfl⟩;exact Good.refl hR hs
 ·intro l St Stop φ M w cap' hread hgrow hyield h0 hcap;obtain⟨box,rfl,hbox⟩:=yfk hcap;refine CallsIn.mono (yut.2 l A ⟨v,vs,P⟩ (fun pre φ' M' w'=>φ.le φ'/\(∃ post,flatAt 0 P=pre ++ post)/\St pre.length φ' M' w') Stop φ M w box ?_ ?_ ?_ ⟨φ.le_refl,⟨_,rfl⟩,h0⟩ hbox) ?_
  ·rintro pre φ' M' w' ⟨_,_,hst⟩;exact(hread _ _ _ _ hst).2
  ·rintro pre φ' M' w' w'' ⟨h1,h2,hst⟩ hb;exact⟨h1,h2,hgrow _ _ _ _ _ hst hb⟩
  ·rintro pre x post φ' M' w' ⟨h1,_,hst⟩ hfl;have hfl:flatAt 0 P=pre ++ x :: post:=hfl;have hk:pre.length<(flatAt 0 P).length:=by rw[hfl];simp
   have ex:ydq P pre.length=x:=by
    have:=el0 _ hk;rw[hfl,List.getElem?_append_right (Nat.le_refl _)]at this
    simpa using this.symm
   obtain⟨fn,tmps,asg,bd,hy1,hy2⟩:=hyield pre.length φ' M' w' [x.v0,x.v1] hk hst (by
    show VRL φ' [(ydq P pre.length).v0,(ydq P pre.length).v1] _;rw[ex];exact .cons (.simple rfl) (.cons (VR.atomA (v:=x.v1) rfl) .nil))
   refine⟨fn,tmps,asg,bd,hy1,hy2.mono ?_⟩
   ·rintro e w'' (⟨he,φ'',M'',h3,_,h4⟩ | h)
    ·refine .inl ⟨he,φ'',M'',h3,Phi.le_trans h1 h3,⟨post,by rw[hfl];simp⟩,?_⟩
     rw[List.length_append];exact h4 M'' w'' ⟨rfl,rfl⟩
    ·exact .inr h
  ·rintro e w' ⟨h1,(⟨φ',M',_,_,hst⟩ | h)⟩
   ·exact⟨h1,.inl ⟨φ',M',hst⟩⟩
   ·exact⟨h1,.inr h⟩
end Sh
end Go.Proofs.YtiejahgklcjhkaaGreatDoor

namespace Go.Proofs.YtiejahgklcjhkaaGreatDoor
namespace Sh
open Go Ev
def ychf:LO:=[o3 (.box 27 (.tmp 0)) 1 0,o3 (.mv (.const (.nilFunc))) 2 0]
def ycgj:LO:=[o3 (.mkfn 158 [] [(.tmp 1)]) 3 0,mv' 3 2 1]
def c120:SC:=(.seq (.reg false ychf) (.seq (.reg false ycgj) .ret))
theorem ycpp:Fn 120 c120 [.t 2]:=fn_0 Tryz.func120 (by kernel_rfl) (by kernel_rfl)
end Sh
end Go.Proofs.YtiejahgklcjhkaaGreatDoor

namespace Go.Proofs.YtiejahgklcjhkaaGreatDoor
open Ev
theorem yxi:∀ (ps:List (List (Int × Int))) (v:Nat) (x:El),x ∈ flatAt v ps->v<=x.v/\x.v<v+ps.length/\(x.a,x.b) ∈ ps.getD (x.v - v) []
 | [],_,_,h=>absurd h List.not_mem_nil
 | ls :: l,v,x,h=>by
  rcases List.mem_append.1 h with h | h
  ·obtain⟨y,hy,rfl⟩:=List.mem_map.1 h;refine⟨Nat.le_refl _,by simp,?_⟩
   simp only[Nat.sub_self,List.getD_cons_zero];exact hy
  ·obtain⟨h1,h2,h3⟩:=yxi l (v+1) x h;refine⟨by omega,by simp only[List.length_cons];omega,?_⟩
   have e:x.v - v=(x.v - (v+1))+1:=by omega
   rw[e,List.getD_cons_succ];exact h3
theorem ybok{g:Gr}{k:Nat}(hk:k<g.ports.length):flatAt 0 (g.ports.take (k+1))=flatAt 0 (g.ports.take k) ++ (g.ports.getD k []).map fun x=>(⟨k,x.1,x.2⟩:El):=by
 have h:=yjs (ps:=g.ports) (k:=k) (ls:=g.ports.getD k []) (by simp[List.getD,hk])
 rw[<- h];unfold yew;rw[List.take_length]
theorem yxb{α:Type}{g:Gr}(f:α->El->α)(a:α):∀ k,k<=g.ports.length->(flatAt 0 (g.ports.take k)).foldl f a=(List.range k).foldl (fun a v=>(g.ports.getD v []).foldl (fun a l=>f a ⟨v,l.1,l.2⟩) a) a
 | 0,_=>by simp[flatAt]
 | k+1,hk=>by
  rw[ybok (by omega),List.foldl_append,yxb f a k (by omega),List.range_succ,List.foldl_append,List.foldl_map]
  rfl
theorem ybyv{α:Type}{g:Gr}(f:α->El->α)(a:α):(flatAt 0 g.ports).foldl f a=(List.range g.ports.length).foldl (fun a v=>(g.ports.getD v []).foldl (fun a l=>f a ⟨v,l.1,l.2⟩) a) a:=by
 have:=yxb (g:=g) f a g.ports.length (Nat.le_refl _)
 rwa [List.take_length]at this
theorem ybsa{g:Gr}(hg:ybb g){k:Nat}(hk:k<(flatAt 0 g.ports).length):(Sh.ydq g.ports k).v<g.ports.length/\((Sh.ydq g.ports k).a,(Sh.ydq g.ports k).b) ∈ g.ports.getD (Sh.ydq g.ports k).v []:=by
 have hm:Sh.ydq g.ports k ∈ flatAt 0 g.ports:=by unfold Sh.ydq;rw[Sh.getD_at hk];exact List.getElem_mem hk
 obtain⟨_,h2,h3⟩:=yxi _ _ _ hm;exact⟨by omega,by simpa using h3⟩
theorem ybrg{α:Type}{g:Gr}(f:α->El->α)(a:α){k:Nat}(hk:k<(flatAt 0 g.ports).length):((flatAt 0 g.ports).take (k+1)).foldl f a=f (((flatAt 0 g.ports).take k).foldl f a) (Sh.ydq g.ports k):=by
 rw[List.take_succ_eq_append_getElem hk,List.foldl_append];unfold Sh.ydq;rw[Sh.getD_at hk];rfl
theorem ybkl{g:Gr}(hg:ybb g):∀ ls ∈ g.ports,∀ l ∈ ls,I64 l.1/\I64 l.2:=fun ls hls l hl=>by
 obtain⟨v,hv,e⟩:=List.getElem_of_mem hls;have h24:=hg.2.1;have:g.ports.getD v []=ls:=by simp[List.getD,hv,e]
 obtain⟨h1,h2,_,h4,h5⟩:=ydo hg hv (by rw[this];exact hl)
 exact⟨Sh.yej (by omega),Sh.yej (by omega)⟩
end Go.Proofs.YtiejahgklcjhkaaGreatDoor

namespace Go.Proofs.YtiejahgklcjhkaaGreatDoor
open Go
namespace Sh
open Ev Go.RowKit
set_option maxRecDepth 8000
theorem ybmt{g:Gr}:Returns Tryz.prog 120 [grV g] (.fn 158 [] [.rf [yj g.ids,yw g.ports]]):=by
 refine Returns.of (ycpp _ _ ?_);simp only[c120,ychf,ycgj,grV,clash,go_sem,Nat.reduceEqDiff,Nat.reduceAdd,Nat.reduceLeDiff,Nat.reduceLT,↓reduceIte,reduceCtorEq];exact Sim.refl _
end Sh
end Go.Proofs.YtiejahgklcjhkaaGreatDoor

namespace Go.Proofs.YtiejahgklcjhkaaGreatDoor
open Go
def pkEl(f:Nat->Int)(s:Nat)(e:Ev.El):Nat:=if f e.v<f e.a.toNat then difB s (2 ^ e.v)else s
theorem ybgx(f:Nat->Int)(g:Gr):(Ev.flatAt 0 g.ports).foldl (pkEl f) (2 ^ g.ports.length - 1)=yem f g:=by
 rw[ybyv];rfl
theorem ybce{g:Gr}(h:isTreeB g=true):yee g=true:=by
 unfold isTreeB at h;rw[Bool.and_eq_true]at h;exact h.1
theorem ybal{g:Gr}(h:isTreeB g=true):ybb g:=(ycw g).1 (yjn (ybce h))
theorem ybno{g:Gr}{c:Conf}(h:yif g c=true):isTreeB g=true/\c.length=g.ports.length /\ ∀ v,v<c.length->(c.getD v []).length=1:=by
 unfold yif at h;rw[Bool.and_eq_true]at h;have hck:=(ydz _ _ _).1 h.2;refine⟨h.1,hck.1,fun v hv=>?_⟩;rw[Sh.getD_at hv];have:=(hck.2 v _ (List.getElem?_eq_getElem hv)).1
 simpa [yda]using this
namespace Sh
open Ev Go.RowKit
set_option maxRecDepth 8000
theorem ybml:Returns Tryz.prog 25 [] (ych [⟨⟨#[104]⟩,1,0,0,1,0⟩]):=by
 refine Returns.of (ydaw _ _ ?_);have h1:=ybio ⟨#[104]⟩ 0 1 0;simp only[varC]at h1;simp only[c25,ydad,ycvw,go_sem,↓reduceIte];refine h1.use ?_;simp only[thenO,splice,clash,go_sem,Nat.reduceEqDiff,Nat.reduceAdd,Nat.reduceLT,↓reduceIte,reduceCtorEq];have one:∀ {q:Nat},q<1->q=0:=fun {q} h=>by omega
 refine⟨fun q hq=>by obtain rfl:=one hq;simp only[go_sem],?_⟩
 refine ygm fun q hq=>?_;obtain rfl:=one hq;simp only[varC,List.getD_cons_zero,go_sem];exact⟨Sim.refl _,Sim.refl _,Sim.refl _,Sim.refl _,Sim.refl _,Sim.refl _,trivial⟩
theorem yoq(o:Own)(n:Nat):∀ l:List SV,allP (pok [] o n) l
 | []=>trivial
 | v :: l=>⟨by rw[yzk];trivial,yoq o n l⟩
theorem yge(o:Own)(n:Nat):∀ l:List SV,l.map (ycf [] o n)=l
 | []=>rfl
 | v :: l=>by rw[List.map_cons,yqi,yge o n l]
set_option maxHeartbeats 1000000 in
theorem ybjz{g:Gr}(hg:ybb g){f:Nat->Int}{h:FuncId}{cp:List SV}(hcp4:cp.any (owned 4)=false)(hf:∀ v,v<g.ports.length->Returns Tryz.prog h (.i .i64 v :: cp) (.i .i64 (f v))) :
  Returns Tryz.prog 81 [grV g,.fn h [] cp] (.i .u32 (yem f g)):=by
 refine Returns.of (ycwm _ _ ?_);have hcp:=yjg hcp4;have hA:=ybkv hg;have hLk:=ybmt (g:=g);have h24:=hg.2.1;have hpl:=hg.2.2.1;have hpk:=ybgx f g;rw[hpl]at hA;obtain⟨n,hn⟩:∃ n,g.ports.length=n:=⟨_,rfl⟩;rw[hn]at hA h24 hpl hf hpk;obtain⟨A,hAe⟩:∃ A,2 ^ n - 1=A:=⟨_,rfl⟩;have hAl:A<2 ^ 24:=by rw[<- hAe];have:2 ^ n<=2 ^ 24:=Nat.pow_le_pow_right (by omega) h24;have:=Nat.two_pow_pos n;omega
 rw[hAe]at hA hpk;obtain⟨S,hS⟩:∃ S:Nat->Nat,(fun k=>((flatAt 0 g.ports).take k).foldl (pkEl f) A)=S:=⟨_,rfl⟩;have hS0:S 0=A:=by rw[<- hS];rfl
 have hSn:S (flatAt 0 g.ports).length=yem f g:=by rw[<- hS,<- hpk];simp
 have hSs:∀ k,k<(flatAt 0 g.ports).length->S (k+1)=pkEl f (S k) (ydq g.ports k):=fun k hk=>by rw[<- hS];exact ybrg (pkEl f) A hk
 have hSl:∀ k,k<=(flatAt 0 g.ports).length->S k<2 ^ 24:=fun k=>by
  induction k with
  | zero=>intro _;rw[hS0];exact hAl
  | succ k ih =>
   intro hk;rw[hSs k hk];unfold pkEl;split
   ·exact yvf (ih (by omega))
   ·exact ih (by omega)
 rw[<- hSn];simp only[grV]at hA hLk;simp only[c81,ycyy,ydbi,ydca,grV,clash,go_sem,Nat.reduceEqDiff,Nat.reduceAdd,Nat.reduceLT,↓reduceIte,reduceCtorEq];refine hA.use ?_;simp only[thenO,splice,clash,go_sem,Nat.reduceEqDiff,Nat.reduceAdd,Nat.reduceLT,↓reduceIte];refine hLk.use ?_
 refine ybxl (ybvb (ybkl hg)) [(2,0),(3,0),(5,0)] (fun i (_:Unit)=>⟨[(11,.fn 158 [] [.rf [yj g.ids,yw g.ports]]),(2,.pt (2,0) 0 0),(3,.pt (3,0) 0 0),(5,.pt (5,0) 0 0)],
  [(2,.one (some ⟨27,true,2,1,fun _=>[yj g.ids,yw g.ports]⟩)),(3,.one (some ⟨90,true,1,1,fun _=>[.fn h [] cp]⟩)),(5,.one (some ⟨40,true,1,1,fun _=>[.i .u32 (S i)]⟩))]⟩) (fun i _=>i<=(flatAt 0 g.ports).length) () (Nat.zero_le _) ⟨fun _ h=>absurd h List.not_mem_nil,fun _ h=>absurd h List.not_mem_nil⟩ ?_ (fun _=>rfl) ?_ ?_ ?_
 ·refine yg [] [] [] ?_;simp only[hS0,ycx _ hcp4,ycu _ hcp4,allQ,live,yc,go_sem,Nat.reduceEqDiff,↓reduceIte,reduceCtorEq];intro _ _;refine⟨yoq _ _ cp,?_⟩;rw[yge];exact Sim.refl _
 ·intro i _ hi _;refine⟨trivial,?_⟩;simp only[go_sem,allQ,go_sem,Nat.reduceEqDiff]
 ·intro i _ hi hlti;have hlti:i<(flatAt 0 g.ports).length:=hlti;obtain⟨e1,e2⟩:=ybsa hg hlti;have hs:=hSs i hlti;have hb:=hSl i hi;obtain⟨E,hE⟩:∃ E,ydq g.ports i=E:=⟨_,rfl⟩;rw[hE]at hs e1 e2;obtain⟨a1,a2,_⟩:=ydo hg e1 e2;have a1:0<=E.a:=a1;have a2:E.a.toNat<g.ports.length:=a2;have f1:=hf E.v (by omega)
  have f2:=hf E.a.toNat (by omega)
  rw[Int.toNat_of_nonneg a1]at f2;obtain⟨a,ha⟩:∃ a,S i=a:=⟨_,rfl⟩;rw[ha]at hs hb;refine⟨_,rfl,?_⟩;simp only[ybsh];obtain⟨x,hx⟩:∃ x,f E.v=x:=⟨_,rfl⟩;obtain⟨y,hy⟩:∃ y,f E.a.toNat=y:=⟨_,rfl⟩;rw[hx]at f1;rw[hy]at f2;simp only[ydcj,yczr,yczn,ha,hE,splice,hcp,clash,go_sem,Nat.reduceEqDiff,Nat.reduceAdd,Nat.reduceLT,↓reduceIte,reduceCtorEq];refine f1.use ?_;simp only[thenO,hcp,clash,go_sem,Nat.reduceEqDiff,Nat.reduceAdd,Nat.reduceLeDiff,↓reduceIte,reduceCtorEq]
  refine f2.use ?_
  by_cases q:x<y
  ·have z1:decide (x<y)=true:=decide_eq_true q;have e:S (i+1)=difB a (2 ^ E.v):=by rw[hs];unfold pkEl;rw[hx,hy,if_pos q]
   have sh:=yoa (v:=E.v) (by omega)
   have an:=u32_andNot (a:=a) (b:=2 ^ E.v) (by omega) (Nat.pow_lt_pow_right (by omega) (by omega))
   simp only[IntKind.bits,Int.toNat_natCast]at sh an;simp only[yddg,splice,z1,sh,an,clash,go_sem,Nat.reduceEqDiff,Nat.reduceAdd,↓reduceIte,reduceCtorEq]
   repeat (first | refine⟨by omega,?_⟩ | refine⟨by decide,?_⟩)
   refine ydf [] [] [] ?_;simp only[e,ycx _ hcp4,ycu _ hcp4,allQ,live,yc,go_sem,Nat.reduceEqDiff,↓reduceIte,reduceCtorEq];intro _ _;refine⟨yoq _ _ cp,?_⟩;rw[yge];exact Sim.refl _
  ·have z1:decide (x<y)=false:=decide_eq_false q;have e:S (i+1)=a:=by rw[hs];unfold pkEl;rw[hx,hy,if_neg q]
   simp only[z1,go_sem,↓reduceIte]
   repeat (first | refine⟨by omega,?_⟩ | refine⟨by decide,?_⟩)
   refine ydf [] [] [] ?_;simp only[e,ycx _ hcp4,ycu _ hcp4,allQ,live,yc,go_sem,Nat.reduceEqDiff,↓reduceIte,reduceCtorEq];intro _ _;refine⟨yoq _ _ cp,?_⟩;rw[yge];exact Sim.refl _
 ·intro _ _;simp only[yczf,ybsh,clash,go_sem,Nat.reduceEqDiff,Nat.reduceAdd,↓reduceIte,reduceCtorEq];exact Sim.refl _
end Sh
end Go.Proofs.YtiejahgklcjhkaaGreatDoor

namespace Go.Proofs.YtiejahgklcjhkaaGreatDoor
open Go
def yju(ls:List (Int × Int))(b:Int):Bool:=ls.any fun l=>decide (l.1=b)
namespace Sh
open Ev Go.RowKit
set_option maxRecDepth 8000
theorem ybgy{ids:List Int}{ports:List (List (Int × Int))}{a b:Nat}(ha:a<ports.length)(hl:(ports.getD a []).length<=100000) :
  Returns Tryz.prog 128 [.ag [yj ids,yw ports],.i .i64 a,.i .i64 b] (.b (yju (ports.getD a []) b)):=by
 refine Returns.of (ycqk _ _ ?_);obtain⟨n,hn⟩:∃ n,ports.length=n:=⟨_,rfl⟩;obtain⟨L,hL⟩:∃ L,ports.getD a []=L:=⟨_,rfl⟩;rw[hL]at hl ⊢;obtain⟨m,hm⟩:∃ m,L.length=m:=⟨_,rfl⟩;simp only[c128,ycag,ycik,go_sem,Nat.reduceAdd,Nat.reduceLT,↓reduceIte];refine ybd (σ:=Nat) (fun k=>⟨[(7,.i .i64 k),(3,.pt (3,0) 0 0),(1,.i .i64 a),(2,.i .i64 b)],[(3,.one (some ⟨27,true,2,1,fun _=>[yj ids,yw ports]⟩))]⟩) (fun k=>k<=m /\ ∀ j,j<k->(L.getD j (0,0)).1 ≠ b) (fun k=>m - k) 0 ⟨Nat.zero_le _,fun j hj=>absurd hj (Nat.not_lt_zero j)⟩ ?_ ?_
 ·refine yg [] [] [] ?_;simp only[go_sem,allQ,live,yc,Int.natCast_zero,go_sem,Nat.reduceEqDiff,↓reduceIte,reduceCtorEq]
 ·rintro k ⟨hk,hno⟩;simp only[yckf,ycfa,yclz,ycgu,yccc,yw,yba,hn,hL,hm,go_sem,Nat.reduceEqDiff,Nat.reduceAdd,Nat.reduceLeDiff,↓reduceIte,reduceCtorEq];refine⟨⟨by omega,by omega⟩,fun hlt=>⟨⟨by omega,by omega⟩,⟨by omega,by omega⟩,fun he=>?_,fun hne=>⟨ikw (by omega) (by omega),?_⟩⟩,fun hge=>?_⟩
  ·have hk':k<L.length:=by omega
   have:yju L b=true:=List.any_eq_true.2 ⟨L[k],List.getElem_mem _,by rw[getD_at hk']at he;exact decide_eq_true he⟩
   rw[this];exact Sim.refl _
  ·refine yh (k+1) ⟨by omega,fun j hj=>?_⟩ (by omega) ?_
   ·by_cases q:j=k
    ·rw[q];exact hne
    ·exact hno j (by omega)
   refine yg [] [] [] ?_;simp only[allQ,live,yc,yu,go_sem,Nat.reduceEqDiff,↓reduceIte,reduceCtorEq];omega
  ·have:yju L b=false:=List.any_eq_false.2 fun l hl he=>by
    obtain⟨j,hj,rfl⟩:=List.getElem_of_mem hl;have:=hno j (by omega)
    rw[getD_at hj]at this;exact this (of_decide_eq_true he)
   rw[this];exact Sim.refl _
end Sh
end Go.Proofs.YtiejahgklcjhkaaGreatDoor

namespace Go.Proofs.YtiejahgklcjhkaaGreatDoor
open Go
structure NetR where
 n:Int
 links:List Int
 weights:List Int
 ids:List Int
 apart:Bool
 back:Bool
def NetR.ok(x:NetR):Prop:=Sh.inK .i64 x.n/\(∀ k,Sh.inK .i64 (x.links.getD k 0))/\(∀ k,Sh.inK .i64 (x.weights.getD k 0))/\(∀ k,Sh.inK .i64 (x.ids.getD k 0))
theorem ybbe(a r:Nat)(hr:r<=256):((List.range r).map fun i=>(((a+i) % 256:Nat):Int)).Nodup:=by
 unfold List.Nodup;rw[List.pairwise_map];refine List.Pairwise.imp_of_mem (R:=(· < ·)) (fun {i j} hi hj h=>?_) List.pairwise_lt_range;have hi:=List.mem_range.1 hi;have hj:=List.mem_range.1 hj;intro e;omega
theorem ybej{a r:Nat}{l:List Int}(hr:r<=256)(h:∀ i,i<r->(((a+i) % 256:Nat):Int) ∈ l):r<=l.length:=by
 have:=List.Nodup.length_le_of_subset (ybbe a r hr) (l₂:=l) fun x hx=>by
  obtain⟨i,hi,rfl⟩:=List.mem_map.1 hx;exact h i (List.mem_range.1 hi)
 simpa using this
namespace Sh
open Ev Go.RowKit
set_option maxRecDepth 8000
def netC(x:NetR):List SV:=[.i .i64 x.n,yj x.links,yj x.weights,yj x.ids,.b x.apart,.b x.back]
theorem wrap64_in(z:Int):inK .i64 (IntKind.wrap .i64 z):=by
 unfold inK;have e1:IntKind.i64.min = -9223372036854775808:=rfl;have e2:IntKind.i64.max=9223372036854775807:=rfl;have h1:=Int.emod_nonneg z (show(18446744073709551616:Int) ≠ 0 by decide)
 have h2:=Int.emod_lt_of_pos z (show(0:Int)<18446744073709551616 by decide)
 rw[e1,e2]
 have e:IntKind.wrap .i64 z=if z % 18446744073709551616 >= 9223372036854775808 then z % 18446744073709551616 - 18446744073709551616 else z % 18446744073709551616:=by
  show(if (true && decide (z % 18446744073709551616 >= 9223372036854775808))=true then z % 18446744073709551616 - 18446744073709551616 else z % 18446744073709551616)=_
  simp only[Bool.true_and,decide_eq_true_eq]
 rw[e];split<;>omega
theorem ybyf{x:NetR}(hx:x.ok){most:Nat}(hm:1<=most/\most<=24) :
  Cm Tryz.prog 75 [] [] [.ag (netC x),.i .i64 most] fun r o=>∃ ids:List Int,(1<=ids.length/\ids.length<=most)/\(∀ y ∈ ids,0<=y/\y<=255)/\ids.Nodup/\r = .ag [yj ids,.os (17,0) 0 ids.length true] /\
   o = [(17,.one (some ⟨71,false,1,ids.length,fun _=>[.a (.slice none 0 0)]⟩))]:=by
 refine ycti [] [] _ _ _ ?_;obtain⟨hx1,hx2,hx3,hx4⟩:=hx;have hin:=yds (v:=IntKind.wrap .i64 (x.n - 1)) (m:=(most:Int)) (by omega)
 obtain⟨k,hk⟩:∃ k:Nat,ycy (IntKind.wrap .i64 (x.n - 1)) most=k:=Int.eq_ofNat_of_zero_le hin.1;have hW:=ydr (IntKind.wrap .i64 (x.n - 1)) most (by omega) (wrap64_in _)
 rw[hk]at hW hin;obtain⟨n,hn⟩:∃ n:Nat,(1:Int)+(k:Int)=(n:Int):=⟨1+k,by omega⟩
 have hn1:1<=n/\n<=most:=by omega
 simp only[c75,ydav,ycye,netC,go_sem,Nat.reduceEqDiff,Nat.reduceAdd,Nat.reduceLeDiff,Nat.reduceLT,↓reduceIte,reduceCtorEq];refine hW.use ?_;simp only[thenO,yddm,ycxl,hn,clash,go_sem,Nat.reduceEqDiff,Nat.reduceAdd,Nat.reduceLT,↓reduceIte,reduceCtorEq];refine⟨ikw (by omega) (by omega),⟨by omega,by omega,by omega⟩,?_⟩
 refine ybd (σ:=List Int) (fun l=>⟨[(7,.i .i64 l.length),(5,.i .i64 n),(2,.pt (2,0) 0 0),(6,.pt (6,0) 0 0),(4,.pt (4,0) 0 0)],
   [(2,.one (some ⟨24,true,6,1,fun _=>netC x⟩)),(4,.one (some ⟨27,true,2,1,fun _=>[.a (.slice none 0 0),.a (.slice none 0 0)]⟩)),
    (6,.one (some ⟨27,true,2,1,fun _=>[.os (148,0) 0 l.length true,.os (17,0) 0 n true]⟩)),(17,.one (some ⟨71,false,1,n,fun _=>[.a (.slice none 0 0)]⟩)),
    (148,.one (some ⟨3,false,1,l.length,fun k=>[.i .i64 (l.getD k 0)]⟩))]⟩)
  (fun l=>l.length<=n/\(∀ y ∈ l,0<=y/\y<=255)/\l.Nodup) (fun l=>n - l.length) [] ⟨Nat.zero_le _,fun y hy=>(List.not_mem_nil hy).elim,List.nodup_nil⟩ ?_ ?_
 ·refine yg [] [148] [] ?_;simp only[netC,allQ,live,yc,Int.natCast_zero,go_sem,Nat.reduceEqDiff,Nat.reduceBEq,↓reduceIte,reduceCtorEq];exact fun i _=>⟨(148,0),rfl,rfl,rfl⟩
 ·rintro l ⟨hl,hl2,hl3⟩;obtain⟨v,hv⟩:∃ v,l.length=v:=⟨_,rfl⟩;rw[hv]at hl;have hA:=at_ret x.ids v;have hi2:=yds (v:=atP x.ids v) (m:=256) (by omega)
  obtain⟨a,ha⟩:∃ a:Nat,ycy (atP x.ids v) 256=a:=Int.eq_ofNat_of_zero_le hi2.1;have hW2:=ydr (atP x.ids v) 256 (by omega) (hx4 v)
  rw[ha]at hW2 hi2;simp only[ycvm,ycyp,ydam,ycij,netC,hv,splice,clash,go_sem,Nat.reduceEqDiff,Nat.reduceAdd,Nat.reduceLeDiff,↓reduceIte,reduceCtorEq];refine⟨fun hlt=>?_,fun hge=>?_⟩
  ·refine hA.use ?_;simp only[thenO,clash,go_sem,Nat.reduceEqDiff,Nat.reduceAdd,↓reduceIte,reduceCtorEq];refine hW2.use ?_
   refine ybd (σ:=Nat × Nat) (fun q=>⟨[(9,.i .i64 q.2),(8,.i .i64 ((a+q.1) % 256:Nat)),(7,.i .i64 v),(5,.i .i64 n),(2,.pt (2,0) 0 0),(6,.pt (6,0) 0 0),(4,.pt (4,0) 0 0)],
    [(2,.one (some ⟨24,true,6,1,fun _=>netC x⟩)),(4,.one (some ⟨27,true,2,1,fun _=>[.a (.slice none 0 0),.a (.slice none 0 0)]⟩)),
     (6,.one (some ⟨27,true,2,1,fun _=>[.os (148,0) 0 v true,.os (17,0) 0 n true]⟩)),(17,.one (some ⟨71,false,1,n,fun _=>[.a (.slice none 0 0)]⟩)),
     (148,.one (some ⟨3,false,1,v,fun k=>[.i .i64 (l.getD k 0)]⟩))]⟩)
    (fun q=>q.2<=v/\(∀ i,i<q.1->(((a+i) % 256:Nat):Int) ∈ l)/\q.1<=256 /\ ∀ j,j<q.2->l.getD j 0 ≠ (((a+q.1) % 256:Nat):Int)) (fun q=>(v - q.1) * (v+2)+(v - q.2)) (0,0) ⟨Nat.zero_le _,fun i hi=>absurd hi (Nat.not_lt_zero i),by omega,fun j hj=>absurd hj (Nat.not_lt_zero j)⟩ ?_ ?_
   ·refine yg [] [] [] ?_;simp only[netC,allQ,live,yc,yu,Int.natCast_zero,go_sem,Nat.reduceEqDiff,↓reduceIte,reduceCtorEq];rw[Nat.mod_eq_of_lt (by omega)]
   ·rintro⟨r,u⟩ ⟨hu,hr,hr256,hno⟩;obtain⟨b,hb⟩:∃ b,(a+r) % 256=b:=⟨_,rfl⟩;have hb256:b<256:=by omega
    simp only[ycxx,ycyd,ycdz,yclv,ycgq,ydck,netC,hb,splice,clash,go_sem,Nat.reduceEqDiff,Nat.reduceAdd,Nat.reduceLeDiff,Nat.reduceLT,↓reduceIte,reduceCtorEq];have hu:u<=v:=hu;have hr:∀ i,i<r->(((a+i) % 256:Nat):Int) ∈ l:=hr;have hr256:r<=256:=hr256;have hno:∀ j,j<u->l.getD j 0 ≠ (b:Int):=fun j hj=>by rw[<- hb];exact hno j hj
    have hrv:r<=v:=by rw[<- hv];exact ybej hr256 hr
    refine⟨fun hlt2=>⟨⟨by omega,by omega⟩,by omega,fun he=>⟨ikw (by omega) (by omega),by decide,ikw (by omega) (by omega),?_⟩,fun hne=>⟨ikw (by omega) (by omega),?_⟩⟩,fun hge2=>?_⟩
    ·have hmem:(b:Int) ∈ l:=by
      rw[<- he,getD_at (show u<l.length by omega)]
      exact List.getElem_mem _
     have hr':∀ i,i<r+1->(((a+i) % 256:Nat):Int) ∈ l:=fun i hi=>by
      by_cases q:i=r
      ·rw[q,hb];exact hmem
      ·exact hr i (by omega)
     have hrv':r+1<=v:=by rw[<- hv];exact ybej (by omega) hr'
     refine yh (r+1,0) ⟨Nat.zero_le _,hr',by show r+1<=256;omega,fun j hj=>absurd hj (Nat.not_lt_zero j)⟩ ?_ ?_
     ·show(v - (r+1)) * (v+2)+(v - 0)<(v - r) * (v+2)+(v - u);obtain⟨m,hm⟩:∃ m,v - r=m+1:=⟨v - r - 1,by omega⟩
      rw[show v - (r+1)=m by omega,hm,Nat.succ_mul]
      generalize m * (v+2)=z
      omega
     ·refine yg [] [] [] ?_;simp only[allQ,live,yc,yu,Int.natCast_zero,go_sem,Nat.reduceEqDiff,↓reduceIte,reduceCtorEq];refine⟨by omega,?_⟩
      rw[Int.tmod_eq_emod_of_nonneg (by omega)]
      omega
    ·refine yh (r,u+1) ⟨by show u+1<=v;omega,hr,hr256,fun j hj=>?_⟩ ?_ ?_
     ·show l.getD j 0 ≠ (((a+r) % 256:Nat):Int);rw[hb]
      by_cases q:j=u
      ·rw[q];exact hne
      ·exact hno j (by have:j<u+1:=hj;omega)
     ·show(v - r) * (v+2)+(v - (u+1))<(v - r) * (v+2)+(v - u)
      generalize (v - r) * (v+2)=z
      omega
     ·refine yg [] [] [] ?_;simp only[hb,allQ,live,yc,yu,go_sem,Nat.reduceEqDiff,↓reduceIte,reduceCtorEq];omega
    ·obtain rfl:u=v:=by omega
     refine⟨⟨by omega,by omega⟩,ikw (by omega) (by omega),?_⟩
     have hno':(b:Int) ∉ l:=fun hm=>by
      obtain⟨j,hj,e⟩:=List.getElem_of_mem hm;exact hno j (by omega) (by rw[getD_at hj,e])
     refine yh (l ++ [(b:Int)]) ⟨by rw[List.length_append,List.length_singleton];omega,fun y hy=>?_,?_⟩ (by rw[List.length_append,List.length_singleton];omega) ?_
     ·rcases List.mem_append.1 hy with hy | hy
      ·exact hl2 y hy
      ·rw[List.mem_singleton.1 hy];omega
     ·rw[List.nodup_append];exact⟨hl3,by simp,fun y hy z hz=>by rw[List.mem_singleton.1 hz];exact fun e=>hno' (e ▸ hy)⟩
     refine yg [(148,fun i=>(48,i))] [] [] ?_;simp only[List.length_append,hv,allQ,live,yc,yu,go_sem,Nat.reduceEqDiff,↓reduceIte,reduceCtorEq];refine⟨by omega,fun i hi=>?_⟩
     rw[yqr,hv]
     by_cases q:i<u
     ·simp only[if_pos q];simp only[live,yc,go_sem,reduceCtorEq]
     ·obtain rfl:i=u:=by omega
      simp only[if_neg q,Nat.sub_self];simp only[live,yc,go_sem,↓reduceIte,reduceCtorEq]
  ·obtain rfl:v=n:=by omega
   simp only[yfu,go_sem];refine⟨.ag [yj l,.os (17,0) 0 v true],[(17,.one (some ⟨71,false,1,v,fun _=>[.a (.slice none 0 0)]⟩))],?_,?_,l,by rw[hv];exact hn1,hl2,hl3,by rw[hv],by rw[hv]⟩
   ·refine yg [] [] [(148,0)] ?_;simp only[yj,hv,allQ,live,yc,go_sem,Nat.reduceEqDiff,↓reduceIte,reduceCtorEq]
   ·simp only[famCln,yfn,allQ,live,go_sem,↓reduceIte]
end Sh
end Go.Proofs.YtiejahgklcjhkaaGreatDoor

namespace Go.Proofs.YtiejahgklcjhkaaGreatDoor
open Go
def yhe(back:Bool)(g:Gr)(a b:Nat)(w:Int):Gr:=if a=b\/yju (g.ports.getD a []) b=true then g else ybr back g a b w
namespace Sh
open Ev Go.RowKit
set_option maxRecDepth 8000
def rowO(l:List (Int × Int)):OB:=⟨95,false,2,l.length,fun k=>[.i .i64 (l.getD k (0,0)).1,.i .i64 (l.getD k (0,0)).2]⟩
def yfa(ports:List (List (Int × Int))):Own:=[(211,.one (some ⟨71,false,1,ports.length,fun v=>[.os (212,v) 0 (ports.getD v []).length true]⟩)),
 (212,.many fun v=>if v<ports.length then some (rowO (ports.getD v []))else none)]
def yqz(g:Gr):SV:=.ag [yj g.ids,.os (211,0) 0 g.ports.length true]
theorem ydu{i n:Nat}{x b:OB}(h:(if i<n then some x else none)=some b):i<n/\b=x:=by
 split at h
 ·cases h;exact⟨by assumption,rfl⟩
 ·cases h
theorem ybj(back:Bool)(L:List (Int × Int))(x:Int × Int):(addL back L x).length=L.length+1:=by
 unfold addL;cases back<;>simp
theorem ypw(L:List (Int × Int))(x:Int × Int){k:Nat}(hk:k<L.length+1):(if k<L.length then[SV.i .i64 (L.getD k (0,0)).1,SV.i .i64 (L.getD k (0,0)).2]else List.take 2 (List.drop ((k - L.length) * 2) [SV.i .i64 x.1,SV.i .i64 x.2])) = [SV.i .i64 ((addL false L x).getD k (0,0)).1,SV.i .i64 ((addL false L x).getD k (0,0)).2]:=by
 show _ = [SV.i .i64 ((L ++ [x]).getD k (0,0)).1,SV.i .i64 ((L ++ [x]).getD k (0,0)).2];rw[yqr]
 by_cases h:k<L.length
 ·rw[if_pos h,if_pos h]
 ·obtain rfl:k=L.length:=by omega
  rw[if_neg h,if_neg h,if_pos rfl,Nat.sub_self];rfl
theorem ykk(L:List (Int × Int))(x:Int × Int)(k:Nat):(if k<1 then List.take 2 (List.drop (k * 2) [SV.i .i64 x.1,SV.i .i64 x.2])else[SV.i .i64 (L.getD (k - 1) (0,0)).1,SV.i .i64 (L.getD (k - 1) (0,0)).2]) = [SV.i .i64 ((addL true L x).getD k (0,0)).1,SV.i .i64 ((addL true L x).getD k (0,0)).2]:=by
 show _ = [SV.i .i64 ((x :: L).getD k (0,0)).1,SV.i .i64 ((x :: L).getD k (0,0)).2];cases k with
 | zero=>rfl
 | succ k=>rw[if_neg (by omega)];rfl
theorem cells_one(L:List (Int × Int))(h:L.length=0)(x:Int × Int){k:Nat}(hk:k<1):List.take 2 (List.drop (k * 2) [SV.i .i64 x.1,SV.i .i64 x.2]) = [SV.i .i64 ((addL true L x).getD k (0,0)).1,SV.i .i64 ((addL true L x).getD k (0,0)).2]:=by
 obtain rfl:k=0:=by omega
 rfl
theorem yhj {n:Nat} {o:Own} {P':List (List (Int × Int))} (hl:P'.length=n) (A:Nat->Nm) {R:Nat->List SV} (h11:lookO o (211,0)=some ⟨71,false,1,n,R⟩) (hR:∀ v,v<n->R v = [.os (A v) 0 (P'.getD v []).length true])
  (hA:∀ v,v<n -> ∃ q,lookO o (A v)=some ⟨95,false,2,(P'.getD v []).length,q⟩ /\ ∀ k,k<(P'.getD v []).length->q k = [.i .i64 ((P'.getD v []).getD k (0,0)).1,.i .i64 ((P'.getD v []).getD k (0,0)).2])
  (hi:∀ u v,u<n->v<n->A u=A v->u=v) (h0:∀ v,v<n->A v ≠ (211,0)) :
  ∃ r o',Weak [(211,0)] ⟨[(0,.tp [])],o⟩ ⟨[(0,r)],o'⟩/\(cln (live o') 5 r=true/\allQ (fun p=>famCln (live o') p.2) o'/\allQ (fun β=>live o' β=true) [(211,0)])/\r = .tp []/\o'=yfa P':=by
 subst hl
 have hsome:∀ i,(if i<P'.length then some (rowO (P'.getD i []))else none).isSome=true->i<P'.length:=fun i h=>by
  by_cases q:i<P'.length
  ·exact q
  ·rw[if_neg q]at h;cases h
 have hlive:∀ i,i<P'.length->live (yfa P') (212,i)=true:=fun i hi=>by
  show(if i<P'.length then some (rowO (P'.getD i []))else none).isSome=true
  rw[if_pos hi];rfl
 refine⟨.tp [],yfa P',ybbb [(212,A)] [] [] trivial ⟨.inr ⟨.inr fun e=>⟨rfl,rfl⟩,.inr fun j hj e=>?_,trivial⟩,.inr ⟨.inr fun i hi' e=>?_,.inr fun i hi' j hj e=>⟨rfl,?_⟩,trivial⟩,trivial⟩ ⟨?_,trivial⟩ ⟨?_,fun i b hb=>?_,trivial⟩ ⟨⟨rfl,rfl,rfl⟩,trivial⟩,⟨rfl,⟨?_,?_,trivial⟩,rfl,trivial⟩,rfl,rfl⟩
 ·exact absurd e.symm (h0 j (hsome j hj))
 ·exact absurd e (h0 i (hsome i hi'))
 ·exact hi i j (hsome i hi') (hsome j hj) e
 ·exact⟨_,rfl,.inl ⟨trivial,Sim.refl _,rfl⟩⟩
 ·refine⟨_,h11,⟨rfl,rfl,rfl,rfl,rfl⟩,fun i hi'=>?_⟩;have hi':i<P'.length:=hi';show telL _ _ _ _ _ (R i) _;rw[hR i hi'];refine⟨.inl ⟨by simp only[go_sem],Sim.refl _,?_⟩,rfl,trivial⟩
  show(live (yfa P') (212,i) && !(List.elem 212 []))=true;rw[hlive i hi'];rfl
 ·obtain⟨hi',rfl⟩:=ydu hb;obtain⟨q,q1,q2⟩:=hA i hi';refine⟨_,q1,⟨rfl,rfl,rfl,rfl,rfl⟩,fun k hk=>?_⟩;show telL _ _ _ _ _ (q k) _;rw[q2 k hk];exact⟨.inl ⟨trivial,Sim.refl _,rfl⟩,rfl,.inl ⟨trivial,Sim.refl _,rfl⟩,rfl,trivial⟩
 ·intro k hk;have:live (yfa P') (212,k)=true:=hlive k hk;simp only[yfa,List.all_cons,List.all_nil,Bool.and_true]at this ⊢;exact this
 ·intro i b hb k hk;obtain⟨hi',rfl⟩:=ydu hb;rfl
section
variable {x:NetR} {g:Gr} {a b:Nat} {w:Int}
theorem ycqq(ha:a<g.ports.length)(hb:b<g.ports.length)(hn:g.ports.length<=24)(hd:∀ v,(g.ports.getD v []).length<=1000) :
  Cm Tryz.prog 76 [(211,0)] (yfa g.ports) [.ag (netC x),yqz g,.i .i64 a,.i .i64 b,.i .i64 w] fun r o=>r = .tp []/\o=yfa (yhe x.back g a b w).ports:=by
 refine ycux [(211,0)] [] _ _ _ ?_;obtain⟨O2,hO2⟩:∃ O,yfa (yhe x.back g a b w).ports=O:=⟨_,rfl⟩;rw[hO2]
 by_cases hab:a=b
 ·subst hab;have hP:yhe x.back g a a w=g:=if_pos (.inl rfl);rw[hP]at hO2;simp only[c76,ycqz,ycqc,netC,yqz,yfa,yfu,go_sem,Nat.reduceEqDiff,Nat.reduceAdd,Nat.reduceLT,↓reduceIte,reduceCtorEq];subst hO2;exact yhj rfl (fun v=>(212,v)) rfl (fun v hv=>rfl) (fun v hv=>⟨_,if_pos hv,fun k hk=>rfl⟩) (fun u v _ _ e=>congrArg Prod.snd e) (fun v _ e=>by cases e)
 ·have hne:((a:Int) == (b:Int))=false:=by rw[beq_eq_false_iff_ne];omega
  have hL:=ybgy (ids:=g.ids) (ports:=g.ports) (b:=b) ha (by have:=hd a;omega)
  simp only[c76,ycqz,ycqc,netC,yqz,yfa,hne,clash,go_sem,Nat.reduceEqDiff,Nat.reduceAdd,Nat.reduceLT,↓reduceIte,reduceCtorEq];refine .inl ⟨fun q hq=>by rw[if_pos hq];exact⟨Nat.le_refl _,fun k hk=>by simp only[rowO,go_sem]⟩,hL.useS ?_ ?_⟩
  ·refine⟨yqk ⟨Sim.refl _,?_,trivial⟩,Sim.refl _,Sim.refl _,trivial⟩;refine ygm fun q hq=>?_;rw[if_pos hq];simp only[rowO,yba,go_sem];exact⟨Sim.refl _,trivial⟩
  cases hlk:yju (g.ports.getD a []) b with
  | true =>
   have hP:yhe x.back g a b w=g:=if_pos (.inr hlk);rw[hP]at hO2;simp only[thenO,clash,yfu,go_sem,Nat.reduceEqDiff,Nat.reduceAdd,↓reduceIte];subst hO2;exact yhj rfl (fun v=>(212,v)) rfl (fun v hv=>rfl) (fun v hv=>⟨_,if_pos hv,fun k hk=>rfl⟩) (fun u v _ _ e=>congrArg Prod.snd e) (fun v _ e=>by cases e)
  | false =>
   have hP:yhe x.back g a b w=ybr x.back g a b w:=if_neg (fun q=>by rcases q with q | q;exact hab q;rw[hlk]at q;cases q)
   rw[hP]at hO2;subst hO2;have hba:¬ b=a:=fun e=>hab e.symm;have hlen:(ybr x.back g a b w).ports.length=g.ports.length:=by simp[ybr]
   have hat:=ycs x.back g w ha hb;obtain⟨G',hG'⟩:∃ G,(ybr x.back g a b w).ports=G:=⟨_,rfl⟩;rw[hG']at hlen ⊢;have hat:∀ v,G'.getD v []=if v=b then addL x.back (g.ports.getD b []) (a,w)else if v=a then addL x.back (g.ports.getD a []) (b,w)else g.ports.getD v []:=fun v=>by rw[<- hG'];exact hat v
   clear hG' hP
   obtain⟨x1,x2,x3,x4,x5,back⟩:=x;have hda:=hd a;have hdb:=hd b;cases back with
   | false =>
    simp only[thenO,clash,ybjd,ybhc,yczp,rowO,if_pos ha,if_pos hb,hab,hba,yfu,and_false,go_sem,Nat.reduceEqDiff,Nat.reduceAdd,Nat.reduceLeDiff,Nat.reduceLT,↓reduceIte,reduceCtorEq];refine⟨⟨by omega,by omega⟩,by omega,⟨by omega,by omega⟩,by decide,⟨by omega,by omega⟩,by omega,⟨by omega,by omega⟩,by decide,⟨by omega,by omega⟩,by omega,by decide,⟨by omega,by omega⟩,by omega,by decide,?_⟩
    refine yhj hlen (fun v=>if v=b then(74,0)else if v=a then(66,0)else(212,v)) rfl (fun v hv=>?_) (fun v hv=>?_) (fun u v _ _ e=>?_) (fun v _ e=>?_)
    ·rw[hat v]
     by_cases q:v=b
     ·simp only[if_pos q,ybj]
     ·by_cases q2:v=a
      ·simp only[if_neg q,if_pos q2,ybj]
      ·simp only[if_neg q,if_neg q2]
    ·rw[hat v]
     by_cases q:v=b
     ·simp only[if_pos q,ybj];exact⟨_,rfl,fun k hk=>ypw _ (_,_) hk⟩
     ·by_cases q2:v=a
      ·simp only[if_neg q,if_pos q2,ybj];exact⟨_,rfl,fun k hk=>ypw _ (_,_) hk⟩
      ·simp only[if_neg q,if_neg q2];refine⟨fun k=>[.i .i64 ((g.ports.getD v []).getD k (0,0)).1,.i .i64 ((g.ports.getD v []).getD k (0,0)).2],?_,fun k hk=>rfl⟩;show(if v=b then none else if v=a then none else if v<g.ports.length then some _ else none)=some _
       rw[if_neg q,if_neg q2,if_pos hv]
    ·by_cases q:u=b<;>by_cases q2:u=a<;>by_cases q3:v=b<;>by_cases q4:v=a<;>simp[q,q2,q3,q4,hab]at e ⊢<;>omega
    ·by_cases q:v=b<;>by_cases q2:v=a<;>simp[q,q2,hab]at e
   | true =>
    by_cases hza:(g.ports.getD a []).length=0
    ·by_cases hzb:(g.ports.getD b []).length=0
     ·simp only[thenO,clash,ybjd,ybhc,ybrc,ybpi,rowO,if_pos ha,if_pos hb,hba,yfu,and_false,hza,hzb,go_sem,Nat.reduceEqDiff,Nat.reduceAdd,Nat.reduceLeDiff,Nat.reduceLT,Nat.reduceMul,↓reduceIte,reduceCtorEq]
      repeat' apply And.intro
      all_goals first | omega | decide | skip
      refine yhj hlen (fun v=>if v=b then(45,0)else if v=a then(33,0)else(212,v)) rfl (fun v hv=>?_) (fun v hv=>?_) (fun u v _ _ e=>?_) (fun v _ e=>?_)
      ·rw[hat v]
       by_cases q:v=b
       ·simp only[if_pos q,ybj,hzb,Nat.zero_add]
       ·by_cases q2:v=a
        ·simp only[if_neg q,if_pos q2,ybj,hza,Nat.zero_add]
        ·simp only[if_neg q,if_neg q2]
      ·rw[hat v]
       by_cases q:v=b
       ·simp only[if_pos q,ybj,hzb,Nat.zero_add];exact⟨_,rfl,fun k hk=>cells_one _ hzb (_,_) hk⟩
       ·by_cases q2:v=a
        ·simp only[if_neg q,if_pos q2,ybj,hza,Nat.zero_add];exact⟨_,rfl,fun k hk=>cells_one _ hza (_,_) hk⟩
        ·simp only[if_neg q,if_neg q2];refine⟨fun k=>[.i .i64 ((g.ports.getD v []).getD k (0,0)).1,.i .i64 ((g.ports.getD v []).getD k (0,0)).2],?_,fun k hk=>rfl⟩;show(if v<g.ports.length then some _ else none)=some _
         rw[if_pos hv]
      ·by_cases q:u=b<;>by_cases q2:u=a<;>by_cases q3:v=b<;>by_cases q4:v=a<;>simp[q,q2,q3,q4,hab]at e ⊢<;>omega
      ·by_cases q:v=b<;>by_cases q2:v=a<;>simp[q,q2,hab]at e
     ·simp only[thenO,clash,ybjd,ybhc,ybrc,ybpi,rowO,if_pos ha,if_pos hb,hba,yfu,and_false,hza,hzb,go_sem,Nat.reduceEqDiff,Nat.reduceAdd,Nat.reduceLeDiff,Nat.reduceLT,Nat.reduceMul,↓reduceIte,reduceCtorEq]
      repeat' apply And.intro
      all_goals first | omega | decide | skip
      refine yhj hlen (fun v=>if v=b then(51,0)else if v=a then(33,0)else(212,v)) rfl (fun v hv=>?_) (fun v hv=>?_) (fun u v _ _ e=>?_) (fun v _ e=>?_)
      ·rw[hat v]
       by_cases q:v=b
       ·simp only[if_pos q,ybj,Nat.add_comm]
       ·by_cases q2:v=a
        ·simp only[if_neg q,if_pos q2,ybj,hza,Nat.zero_add,Nat.add_comm]
        ·simp only[if_neg q,if_neg q2]
      ·rw[hat v]
       by_cases q:v=b
       ·simp only[if_pos q,ybj];exact⟨_,congrArg some (congrArg (fun n=>OB.mk _ _ _ n _) (Nat.add_comm _ _)),fun k hk=>ykk _ (_,_) k⟩
       ·by_cases q2:v=a
        ·simp only[if_neg q,if_pos q2,ybj,hza,Nat.zero_add];exact⟨_,rfl,fun k hk=>cells_one _ hza (_,_) hk⟩
        ·simp only[if_neg q,if_neg q2];refine⟨fun k=>[.i .i64 ((g.ports.getD v []).getD k (0,0)).1,.i .i64 ((g.ports.getD v []).getD k (0,0)).2],?_,fun k hk=>rfl⟩;show(if v<g.ports.length then some _ else none)=some _
         rw[if_pos hv]
      ·by_cases q:u=b<;>by_cases q2:u=a<;>by_cases q3:v=b<;>by_cases q4:v=a<;>simp[q,q2,q3,q4,hab]at e ⊢<;>omega
      ·by_cases q:v=b<;>by_cases q2:v=a<;>simp[q,q2,hab]at e
    ·by_cases hzb:(g.ports.getD b []).length=0
     ·simp only[thenO,clash,ybjd,ybhc,ybrc,ybpi,rowO,if_pos ha,if_pos hb,hba,yfu,and_false,hza,hzb,go_sem,Nat.reduceEqDiff,Nat.reduceAdd,Nat.reduceLeDiff,Nat.reduceLT,Nat.reduceMul,↓reduceIte,reduceCtorEq]
      repeat' apply And.intro
      all_goals first | omega | decide | skip
      refine yhj hlen (fun v=>if v=b then(45,0)else if v=a then(39,0)else(212,v)) rfl (fun v hv=>?_) (fun v hv=>?_) (fun u v _ _ e=>?_) (fun v _ e=>?_)
      ·rw[hat v]
       by_cases q:v=b
       ·simp only[if_pos q,ybj,hzb,Nat.zero_add,Nat.add_comm]
       ·by_cases q2:v=a
        ·simp only[if_neg q,if_pos q2,ybj,Nat.add_comm]
        ·simp only[if_neg q,if_neg q2]
      ·rw[hat v]
       by_cases q:v=b
       ·simp only[if_pos q,ybj,hzb,Nat.zero_add];exact⟨_,rfl,fun k hk=>cells_one _ hzb (_,_) hk⟩
       ·by_cases q2:v=a
        ·simp only[if_neg q,if_pos q2,ybj];exact⟨_,congrArg some (congrArg (fun n=>OB.mk _ _ _ n _) (Nat.add_comm _ _)),fun k hk=>ykk _ (_,_) k⟩
        ·simp only[if_neg q,if_neg q2];refine⟨fun k=>[.i .i64 ((g.ports.getD v []).getD k (0,0)).1,.i .i64 ((g.ports.getD v []).getD k (0,0)).2],?_,fun k hk=>rfl⟩;show(if v<g.ports.length then some _ else none)=some _
         rw[if_pos hv]
      ·by_cases q:u=b<;>by_cases q2:u=a<;>by_cases q3:v=b<;>by_cases q4:v=a<;>simp[q,q2,q3,q4,hab]at e ⊢<;>omega
      ·by_cases q:v=b<;>by_cases q2:v=a<;>simp[q,q2,hab]at e
     ·simp only[thenO,clash,ybjd,ybhc,ybrc,ybpi,rowO,if_pos ha,if_pos hb,hba,yfu,and_false,hza,hzb,go_sem,Nat.reduceEqDiff,Nat.reduceAdd,Nat.reduceLeDiff,Nat.reduceLT,↓reduceIte,reduceCtorEq]
      repeat' apply And.intro
      all_goals first | omega | decide | skip
      refine yhj hlen (fun v=>if v=b then(51,0)else if v=a then(39,0)else(212,v)) rfl (fun v hv=>?_) (fun v hv=>?_) (fun u v _ _ e=>?_) (fun v _ e=>?_)
      ·rw[hat v]
       by_cases q:v=b
       ·simp only[if_pos q,ybj,Nat.add_comm]
       ·by_cases q2:v=a
        ·simp only[if_neg q,if_pos q2,ybj,Nat.add_comm]
        ·simp only[if_neg q,if_neg q2]
      ·rw[hat v]
       by_cases q:v=b
       ·simp only[if_pos q,ybj];exact⟨_,congrArg some (congrArg (fun n=>OB.mk _ _ _ n _) (Nat.add_comm _ _)),fun k hk=>ykk _ (_,_) k⟩
       ·by_cases q2:v=a
        ·simp only[if_neg q,if_pos q2,ybj];exact⟨_,congrArg some (congrArg (fun n=>OB.mk _ _ _ n _) (Nat.add_comm _ _)),fun k hk=>ykk _ (_,_) k⟩
        ·simp only[if_neg q,if_neg q2];refine⟨fun k=>[.i .i64 ((g.ports.getD v []).getD k (0,0)).1,.i .i64 ((g.ports.getD v []).getD k (0,0)).2],?_,fun k hk=>rfl⟩;show(if v<g.ports.length then some _ else none)=some _
         rw[if_pos hv]
      ·by_cases q:u=b<;>by_cases q2:u=a<;>by_cases q3:v=b<;>by_cases q4:v=a<;>simp[q,q2,q3,q4,hab]at e ⊢<;>omega
      ·by_cases q:v=b<;>by_cases q2:v=a<;>simp[q,q2,hab]at e
end
end Sh
end Go.Proofs.YtiejahgklcjhkaaGreatDoor

