/- Lemmas, joined: ScWo SgT SgU SgV SgX SgY SgZ SiA SiJ ScBf RdA Pa BfP Pg Ph Pb Pc. -/
import Derived.Test.YtiejahgklcjhkaaGreatDoorPkD11
import Derived.Test.YtiejahgklcjhkaaGreatDoorPkD14
import Derived.Test.YtiejahgklcjhkaaGreatDoorPkD12
import Derived.Test.YtiejahgklcjhkaaGreatDoorPkD8
set_option linter.unusedSimpArgs false
set_option linter.unusedVariables false
namespace Go.Proofs.YtiejahgklcjhkaaGreatDoor
namespace Sh
open Go Ev
def ycyc:LO:=[o3 (.mv (ci' 0)) 4 0]
def ycyy:LO:=[mv' 1 5 0,o3 (.bin .lss (.tmp 5) (ci' 1)) 6 1]
def ydeq:LO:=[o3 (.mv (ci' 0)) 4 0]
def ycyw:LO:=[mv' 0 7 0,mv' 1 8 0,bn' .rem 7 8 9 3,mv' 9 0 7]
def yczm:LO:=[mv' 0 10 0,o3 (.bin .lss (.tmp 10) (ci' 0)) 11 1]
def yddg:LO:=[mv' 0 12 0,mv' 1 13 0,bn' .add 12 13 14 3,mv' 14 0 7]
def ydam:LO:=[mv' 0 15 0,mv' 15 4 1]
def c39:SC:=(.seq (.reg false ycyc) (.seq (.seq (.reg false ycyy) (.cond (.tmp 6) (.seq (.reg false ydeq) .ret) .skip)) (.seq (.reg false ycyw) (.seq (.seq (.reg false yczm) (.cond (.tmp 11) (.reg false yddg) .skip)) (.seq (.reg false ydam) .ret)))))
theorem ycxq:Fn 39 c39 [.t 4]:=fn_0 Tryz.func39 (by kernel_rfl) (by kernel_rfl)
def ydcq:LO:=[o3 (.mv (ci' 0)) 4 0]
def ydcf:LO:=[mv' 1 5 0,mv' 0 6 0,ln' 6 7 2,bn' .lss 5 7 8 7]
def yddk:LO:=[mv' 0 9 0,mv' 1 10 0,ix' 1 9 10 11 3,ld' false 1 11 12 7,mv' 12 4 15]
def yddj:LO:=[o3 (.mv (ci' 0)) 4 0]
def c77:SC:=(.seq (.reg false ydcq) (.seq (.seq (.reg false ydcf) (.cond (.tmp 8) (.seq (.reg false yddk) .ret) .skip)) (.seq (.reg false yddj) .ret)))
theorem yddl:Fn 77 c77 [.t 4]:=fn_0 Tryz.func77 (by kernel_rfl) (by kernel_rfl)
def ycjs:LO:=[o3 (.box 27 (.tmp 0)) 3 0,o3 (.mv (.const (.bool false))) 6 0]
def ycpp:LO:=[o3 (.mv (ci' 0)) 7 0]
def yckg:LO:=[mv' 7 8 0,fa' 1 1 3 9 0,ld' false 1 9 10 2,mv' 1 11 0,ix' 1 10 11 12 14,ld' false 1 12 13 30,ln' 13 14 62,bn' .lss 8 14 15 127]
def yccu:LO:=[fa' 1 1 3 18 0,ld' false 1 18 19 1,mv' 1 20 0,ix' 1 19 20 21 7,ld' false 1 21 22 15,mv' 7 23 0,ix' 2 22 23 24 63,fa' 0 1 24 25 127,ld' false 1 25 26 255,mv' 2 27 0,bn' .eql 26 27 28 1023]
def yccz:LO:=[o3 (.mv (.const (.bool true))) 6 0]
def yclp:LO:=[mv' 7 16 0,o3 (.bin .add (.tmp 16) (ci' 1)) 17 1,mv' 17 7 3]
def ycjy:LO:=[o3 (.mv (.const (.bool false))) 6 0]
def c128:SC:=(.seq (.reg false ycjs) (.seq (.seq (.reg false ycpp) (.block 0 (.loop (.seq (.seq (.reg false yckg) (.cond (.tmp 15) .skip (.exit 0))) (.seq (.block 1 (.seq (.reg false yccu) (.cond (.tmp 28) (.seq (.reg false yccz) .ret) .skip))) (.reg false yclp)))))) (.seq (.reg false ycjy) .ret)))
theorem ycuz:Fn 128 c128 [.t 6]:=fn_0 Tryz.func128 (by kernel_rfl) (by kernel_rfl)
def ycvz:LO:=[o3 (.box 24 (.tmp 0)) 5 0,o3 (.box 27 (.tmp 1)) 6 0]
def ycre:LO:=[mv' 2 12 0,mv' 3 13 0,bn' .eql 12 13 14 3,mv' 14 15 7,⟨.load true 2 (.tmp 6),some 16,some (15,false),15⟩,⟨.mv (.tmp 2),some 17,some (15,false),15⟩,⟨.mv (.tmp 3),some 18,some (15,false),15⟩,⟨.call (.func 128) [(.tmp 16),(.tmp 17),(.tmp 18)],some 19,some (15,false),127⟩,o3 (.pick (.tmp 15) (.const (.bool true)) (.tmp 19)) 20 255]
def ybkc:LO:=[mv' 3 21 0,mv' 4 22 0,o3 (.build [.i .i64 0,.i .i64 0] [(0,1,(.tmp 21)),(1,1,(.tmp 22))]) 23 3,mv' 2 24 0,mv' 4 25 0,o3 (.build [.i .i64 0,.i .i64 0] [(0,1,(.tmp 24)),(1,1,(.tmp 25))]) 26 24,o3 (.alloc 95 1 [.i .i64 0,.i .i64 0]) 10 0,o3 (.alloc 95 1 [.i .i64 0,.i .i64 0]) 11 0,o0 (.store 2 (.tmp 10) (.tmp 23)) 199,o0 (.store 2 (.tmp 11) (.tmp 26)) 511]
def ybjh:LO:=[fa' 5 1 5 27 0,ld' false 1 27 28 1]
def ybmn:LO:=[fa' 1 1 6 29 0,ld' false 1 29 30 1,mv' 2 31 0,ld' true 2 10 32 0,o3 (.bslice 95 2 1 [.i .i64 0,.i .i64 0] [(0,2,(.tmp 32))]) 33 8,fa' 1 1 6 34 0,ld' false 1 34 35 32,mv' 2 36 0,ix' 1 35 36 37 224,ld' false 1 37 38 480,o3 (.app 95 2 16 (.tmp 33) (.tmp 38)) 39 1016,ix' 1 30 31 40 2047,o0 (.store 1 (.tmp 40) (.tmp 39)) 4095]
def ybti:LO:=[fa' 1 1 6 41 0,ld' false 1 41 42 1,mv' 3 43 0,ld' true 2 11 44 0,o3 (.bslice 95 2 1 [.i .i64 0,.i .i64 0] [(0,2,(.tmp 44))]) 45 8,fa' 1 1 6 46 0,ld' false 1 46 47 32,mv' 3 48 0,ix' 1 47 48 49 224,ld' false 1 49 50 480,o3 (.app 95 2 16 (.tmp 45) (.tmp 50)) 51 1016,ix' 1 42 43 52 2047,o0 (.store 1 (.tmp 52) (.tmp 51)) 4095]
def yczb:LO:=[fa' 1 1 6 53 0,ld' false 1 53 54 1,mv' 2 55 0,fa' 1 1 6 56 0,ld' false 1 56 57 8,mv' 3 58 0,fa' 1 1 6 59 0,ld' false 1 59 60 64,mv' 2 61 0,ix' 1 60 61 62 448,ld' false 1 62 63 960,ld' true 2 10 64 0,o3 (.bslice 95 2 1 [.i .i64 0,.i .i64 0] [(0,2,(.tmp 64))]) 65 2048,o3 (.app 95 2 16 (.tmp 63) (.tmp 65)) 66 8128,fa' 1 1 6 67 0,ld' false 1 67 68 16384,mv' 3 69 0,ix' 1 68 69 70 114688,ld' false 1 70 71 245760,ld' true 2 11 72 0,o3 (.bslice 95 2 1 [.i .i64 0,.i .i64 0] [(0,2,(.tmp 72))]) 73 524288,o3 (.app 95 2 16 (.tmp 71) (.tmp 73)) 74 2097088,ix' 1 54 55 75 4194247,o0 (.store 1 (.tmp 75) (.tmp 66)) 8388551,ix' 1 57 58 76 16777215,o0 (.store 1 (.tmp 76) (.tmp 74)) 33554431]
def c76:SC:=(.seq (.reg false ycvz) (.seq (.seq (.reg false ycre) (.cond (.tmp 20) .ret .skip)) (.seq (.reg false ybkc) (.seq (.seq (.reg false ybjh) (.cond (.tmp 28) (.seq (.reg true ybmn) (.seq (.reg true ybti) .ret)) .skip)) (.reg true yczb)))))
theorem ycqy:FnM 76 c76 []:=fn_m Tryz.func76 (by kernel_rfl) (by kernel_rfl)
def ydbb:LO:=[o3 (.box 24 (.tmp 0)) 2 0,o3 (.alloc 27 1 [.a (.slice none 0 0),.a (.slice none 0 0)]) 4 0]
def ydde:LO:=[fa' 0 1 2 10 0,ld' false 1 10 11 1,o3 (.wsub (.tmp 11) (ci' 1)) 12 3,mv' 1 13 0,cl' 39 [12,13] 14 15,o3 (.bin .add (ci' 1) (.tmp 14)) 15 31,mv' 15 5 63]
def ydcy:LO:=[mv' 5 16 0,o3 (.mk 71 1 24 [.a (.slice none 0 0)] (.tmp 16) (.tmp 16)) 17 1,o3 (.build [.a (.slice none 0 0),.a (.slice none 0 0)] [(1,1,(.tmp 17))]) 18 3,o3 (.alloc 27 1 [.a (.slice none 0 0),.a (.slice none 0 0)]) 6 0,o0 (.store 2 (.tmp 6) (.tmp 18)) 15]
def yddm:LO:=[o3 (.mv (ci' 0)) 7 0]
def ydbt:LO:=[mv' 7 19 0,mv' 5 20 0,bn' .lss 19 20 21 3]
def ycxt:LO:=[fa' 3 1 2 24 0,ld' false 1 24 25 1,mv' 7 26 0,cl' 77 [25,26] 27 7,o3 (.call (.func 39) [(.tmp 27),(ci' 256)]) 28 15,mv' 28 8 31]
def ydez:LO:=[o3 (.mv (ci' 0)) 9 0]
def ydaq:LO:=[mv' 9 29 0,mv' 7 30 0,bn' .lss 29 30 31 3]
def yclh:LO:=[fa' 0 1 6 34 0,ld' false 1 34 35 1,mv' 9 36 0,ix' 1 35 36 37 7,ld' false 1 37 38 15,mv' 8 39 0,bn' .eql 38 39 40 63]
def ycme:LO:=[mv' 8 41 0,o3 (.bin .add (.tmp 41) (ci' 1)) 42 1,o3 (.bin .rem (.tmp 42) (ci' 256)) 43 3,mv' 43 8 7,o3 (.mv (.const (.int .i64 (-1)))) 9 15]
def ydep:LO:=[mv' 9 32 0,o3 (.bin .add (.tmp 32) (ci' 1)) 33 1,mv' 33 9 3]
def ycmx:LO:=[fa' 0 1 6 44 0,ld' false 1 44 45 1,mv' 8 46 0,o3 (.bslice 3 1 1 [.i .i64 0] [(0,1,(.tmp 46))]) 47 4,o3 (.app 3 1 8 (.tmp 45) (.tmp 47)) 48 15,fa' 0 1 6 49 31,o0 (.store 1 (.tmp 49) (.tmp 48)) 63]
def ycxi:LO:=[mv' 7 22 0,o3 (.bin .add (.tmp 22) (ci' 1)) 23 1,mv' 23 7 3]
def ycfi:LO:=[ld' true 2 6 50 0,o0 (.store 2 (.tmp 4) (.tmp 50)) 1]
def c75:SC:=(.seq (.reg false ydbb) (.seq (.reg false ydde) (.seq (.reg false ydcy) (.seq (.seq (.reg false yddm) (.block 0 (.loop (.seq (.seq (.reg false ydbt) (.cond (.tmp 21) .skip (.exit 0))) (.seq (.block 1 (.seq (.reg false ycxt) (.seq (.seq (.reg false ydez) (.block 2 (.loop (.seq (.seq (.reg false ydaq) (.cond (.tmp 31) .skip (.exit 2))) (.seq (.block 3 (.seq (.reg false yclh) (.cond (.tmp 40) (.reg false ycme) .skip))) (.reg false ydep)))))) (.reg false ycmx)))) (.reg false ycxi)))))) (.seq (.reg false ycfi) .ret)))))
theorem ycrm:FnM 75 c75 [.c 4 true 2]:=fn_m Tryz.func75 (by kernel_rfl) (by kernel_rfl)
def yddd:LO:=[o3 (.box 24 (.tmp 0)) 2 0,o3 (.alloc 27 1 [.a (.slice none 0 0),.a (.slice none 0 0)]) 4 0]
def ydeu:LO:=[ld' true 6 2 7 0,mv' 1 8 0,cl' 75 [7,8] 9 3,o3 (.alloc 27 1 [.a (.slice none 0 0),.a (.slice none 0 0)]) 5 0,o0 (.store 2 (.tmp 5) (.tmp 9)) 15]
def yczk:LO:=[o3 (.mv (ci' 1)) 6 0]
def ycwd:LO:=[mv' 6 10 0,fa' 1 1 5 11 0,ld' false 1 11 12 2,ln' 12 13 6,bn' .lss 10 13 14 15]
def ycyn:LO:=[ld' true 6 2 17 0,ld' true 2 5 18 0,fa' 1 1 2 19 0,ld' false 1 19 20 4,mv' 6 21 0,o3 (.bin .sub (.tmp 21) (ci' 1)) 22 16,cl' 77 [20,22] 23 60,mv' 6 24 0,cl' 39 [23,24] 25 252,mv' 6 26 0,fa' 2 1 2 27 0,ld' false 1 27 28 1024,mv' 6 29 0,o3 (.bin .sub (.tmp 29) (ci' 1)) 30 4096,cl' 77 [28,30] 31 15868,o3 (.call (.func 39) [(.tmp 31),(ci' 15)]) 32 32252,o3 (.bin .add (ci' 1) (.tmp 32)) 33 65020,cl' 76 [17,18,25,26,33] 34 131071]
def yddx:LO:=[mv' 6 15 0,o3 (.bin .add (.tmp 15) (ci' 1)) 16 1,mv' 16 6 3]
def yczq:LO:=[ld' true 2 5 35 0,o0 (.store 2 (.tmp 4) (.tmp 35)) 1]
def c21:SC:=(.seq (.reg false yddd) (.seq (.reg false ydeu) (.seq (.seq (.reg false yczk) (.block 0 (.loop (.seq (.seq (.reg false ycwd) (.cond (.tmp 14) .skip (.exit 0))) (.seq (.block 1 (.reg true ycyn)) (.reg false yddx)))))) (.seq (.reg false yczq) .ret))))
theorem ycsw:FnM 21 c21 [.c 4 true 2]:=fn_m Tryz.func21 (by kernel_rfl) (by kernel_rfl)
def yczg:LO:=[o3 (.box 27 (.tmp 0)) 3 0,o3 (.mv (.const (.slice none 0 0))) 6 0]
def ycxr:LO:=[fa' 1 1 3 16 0,ld' false 1 16 17 1,ln' 17 18 3,mv' 18 7 7,o3 (.mv (ci' 0)) 8 15]
def ydbe:LO:=[o3 (.mv (ci' 0)) 9 0]
def ydab:LO:=[mv' 9 19 0,mv' 7 20 0,bn' .lss 19 20 21 3]
def ydbs:LO:=[mv' 8 24 0,fa' 0 1 3 25 0,ld' false 1 25 26 2,mv' 9 27 0,ix' 1 26 27 28 14,ld' false 1 28 29 30,o3 (.mm true (.tmp 24) (.tmp 29)) 30 63,mv' 30 8 127]
def ydcx:LO:=[mv' 9 22 0,o3 (.bin .add (.tmp 22) (ci' 1)) 23 1,mv' 23 9 3]
def ydal:LO:=[o3 (.mv (.const (.slice none 0 0))) 10 0]
def ydfc:LO:=[o3 (.mv (ci' 0)) 11 0]
def ydbd:LO:=[mv' 11 31 0,mv' 7 32 0,bn' .lss 31 32 33 3]
def ycea:LO:=[o3 (.mv (.const (.slice none 0 0))) 12 0]
def ycnc:LO:=[o3 (.mv (ci' 0)) 13 0]
def ycge:LO:=[mv' 13 36 0,mv' 1 37 0,ln' 37 38 2,bn' .lss 36 38 39 7]
def ycih:LO:=[mv' 1 42 0,mv' 13 43 0,ix' 6 42 43 44 3,fa' 2 1 44 45 7,ld' false 1 45 46 15,mv' 1 47 0,mv' 13 48 0,ix' 6 47 48 49 96,fa' 3 1 49 50 224,ld' false 1 50 51 480,mv' 1 52 0,mv' 13 53 0,ix' 6 52 53 54 3072,fa' 4 1 54 55 7168,ld' false 1 55 56 15360,mv' 7 57 0,bn' .mul 56 57 58 64512,bn' .add 51 58 59 131040,mv' 1 60 0,mv' 13 61 0,ix' 6 60 61 62 786432,fa' 5 1 62 63 1835008,ld' false 1 63 64 3932160,mv' 8 65 0,bn' .mul 64 65 66 16515072,bn' .add 59 66 67 33554400,mv' 46 14 31,mv' 67 15 134217727]
def ycoj:LO:=[mv' 1 68 0,mv' 13 69 0,ix' 6 68 69 70 3,fa' 1 1 70 71 7,ld' false 1 71 72 15]
def ybhh:LO:=[o3 (.bin .eql (.tmp 72) (ci' 2)) 74 0,mv' 74 73 1]
def ybgj:LO:=[o3 (.mv (ci' 0)) 14 0,o3 (.mv (ci' 1)) 15 1]
def ybhc:LO:=[o3 (.bin .eql (.tmp 72) (ci' 3)) 76 0,mv' 76 75 1]
def ybgr:LO:=[fa' 1 1 3 77 0,ld' false 1 77 78 1,mv' 11 79 0,ix' 1 78 79 80 7,ld' false 1 80 81 15,ln' 81 82 31,o3 (.bin .sub (.tmp 82) (ci' 1)) 83 63,o3 (.mv (.const (.int .i64 (-1)))) 14 0,mv' 83 15 255]
def ybfs:LO:=[mv' 12 84 0,mv' 14 85 0,mv' 2 86 0,mv' 11 87 0,mv' 1 88 0,ln' 88 89 16,bn' .mul 87 89 90 56,mv' 13 91 0,bn' .add 90 91 92 248,cl' 77 [86,92] 93 508,mv' 15 94 0,mv' 14 95 0,bn' .sub 94 95 96 3072,o3 (.bin .add (.tmp 96) (ci' 1)) 97 7168,cl' 39 [93,97] 98 16380,bn' .add 85 98 99 32766,o3 (.bslice 3 1 1 [.i .i64 0] [(0,1,(.tmp 99))]) 100 65534,o3 (.app 3 1 8 (.tmp 84) (.tmp 100)) 101 131071,mv' 101 12 262143]
def ybga:LO:=[mv' 13 40 0,o3 (.bin .add (.tmp 40) (ci' 1)) 41 1,mv' 41 13 3]
def ycji:LO:=[mv' 10 102 0,mv' 12 103 0,o3 (.bslice 22 1 1 [.a (.slice none 0 0)] [(0,1,(.tmp 103))]) 104 2,o3 (.app 22 1 24 (.tmp 102) (.tmp 104)) 105 7,mv' 105 10 15]
def ydec:LO:=[mv' 11 34 0,o3 (.bin .add (.tmp 34) (ci' 1)) 35 1,mv' 35 11 3]
def ycjv:LO:=[mv' 10 106 0,mv' 106 6 1]
def c24:SC:=(.seq (.reg false yczg) (.seq (.reg false ycxr) (.seq (.seq (.reg false ydbe) (.block 0 (.loop (.seq (.seq (.reg false ydab) (.cond (.tmp 21) .skip (.exit 0))) (.seq (.block 1 (.reg false ydbs)) (.reg false ydcx)))))) (.seq (.reg false ydal) (.seq (.seq (.reg false ydfc) (.block 2 (.loop (.seq (.seq (.reg false ydbd) (.cond (.tmp 33) .skip (.exit 2))) (.seq (.block 3 (.seq (.reg false ycea) (.seq (.seq (.reg false ycnc) (.block 4 (.loop (.seq (.seq (.reg false ycge) (.cond (.tmp 39) .skip (.exit 4))) (.seq (.block 5 (.seq (.reg true ycih) (.seq (.seq (.reg false ycoj) (.block 6 (.seq (.reg false ybhh) (.cond (.tmp 73) (.reg false ybgj) (.seq (.reg false ybhc) (.cond (.tmp 75) (.reg true ybgr) .skip)))))) (.reg false ybfs)))) (.reg false ybga)))))) (.reg false ycji)))) (.reg false ydec)))))) (.seq (.reg false ycjv) .ret))))))
theorem yddn:Fn 24 c24 [.t 6]:=fn_0 Tryz.func24 (by kernel_rfl) (by kernel_rfl)
def ydee:LO:=[o3 (.mv (.const (.slice none 0 0))) 4 0]
def ycxs:LO:=[o3 (.mv (.const (.slice none 0 0))) 5 0]
def ydet:LO:=[o3 (.mv (ci' 0)) 6 0]
def ydda:LO:=[mv' 6 9 0,mv' 1 10 0,bn' .lss 9 10 11 3]
def ydbp:LO:=[mv' 0 14 0,ln' 14 15 1,o3 (.bin .eql (.tmp 15) (ci' 0)) 16 3]
def ydcu:LO:=[mv' 5 17 0,o3 (.bslice 40 1 1 [.i .u32 0] [(0,1,(.const (.int .u32 4294967295)))]) 18 0,o3 (.app 40 1 4 (.tmp 17) (.tmp 18)) 19 3,mv' 19 5 7]
def ycyx:LO:=[mv' 0 20 0,mv' 6 21 0,mv' 0 22 0,ln' 22 23 4,bn' .rem 21 23 24 14,ix' 1 20 24 25 31,ld' false 1 25 26 63,mv' 6 27 0,mv' 0 28 0,ln' 28 29 256,bn' .quo 27 29 30 896,o3 (.bin .rem (.tmp 30) (ci' 24)) 31 1920,o3 (.conv .u64 (.tmp 31)) 32 3968,mv' 26 7 127,mv' 32 8 16383]
def yczv:LO:=[mv' 7 33 0,o3 (.bin .and (.tmp 33) (.const (.int .u32 16777215))) 34 1,mv' 34 7 3]
def ydfb:LO:=[mv' 5 35 0,mv' 7 36 0,mv' 8 37 0,bn' .shl 36 37 38 6,mv' 7 39 0,mv' 8 40 0,o3 (.bin .sub (.const (.int .u64 24)) (.tmp 40)) 41 32,bn' .shr 39 41 42 112,bn' .or 38 42 43 254,o3 (.bin .and (.tmp 43) (.const (.int .u32 16777215))) 44 510,o3 (.bslice 40 1 1 [.i .u32 0] [(0,1,(.tmp 44))]) 45 1022,o3 (.app 40 1 4 (.tmp 35) (.tmp 45)) 46 2047,mv' 46 5 4095]
def ycry:LO:=[mv' 6 12 0,o3 (.bin .add (.tmp 12) (ci' 1)) 13 1,mv' 13 6 3]
def ycct:LO:=[mv' 5 47 0,mv' 47 4 1]
def c26:SC:=(.seq (.reg false ydee) (.seq (.reg false ycxs) (.seq (.seq (.reg false ydet) (.block 0 (.loop (.seq (.seq (.reg false ydda) (.cond (.tmp 11) .skip (.exit 0))) (.seq (.block 1 (.seq (.seq (.reg false ydbp) (.cond (.tmp 16) (.seq (.reg false ydcu) (.exit 1)) .skip)) (.seq (.reg true ycyx) (.seq (.reg false yczv) (.reg false ydfb))))) (.reg false ycry)))))) (.seq (.reg false ycct) .ret))))
theorem ycyd:Fn 26 c26 [.t 4]:=fn_0 Tryz.func26 (by kernel_rfl) (by kernel_rfl)
def ydfd:LO:=[o3 (.box 27 (.tmp 1)) 6 0,o3 (.mv (.const (.slice none 0 0))) 10 0,o3 (.mv (.const (.slice none 0 0))) 11 2,o3 (.mv (.const (.bool false))) 12 6]
def yddz:LO:=[mv' 0 17 0,cl' 37 [17] 18 1,ld' true 2 6 19 0,mv' 2 20 0,mv' 3 21 0,mv' 4 22 0,cl' 78 [18,19,20,21,22] 23 63,mv' 23 16 127,xt' 16 0 24 255,xt' 16 1 25 255,xt' 16 2 26 255,mv' 24 13 511,mv' 25 14 3071,mv' 26 15 8191]
def yczr:LO:=[mv' 13 27 0,mv' 14 28 0,mv' 15 29 0,o3 (.bin .eql (.tmp 29) (ci' 0)) 30 4,mv' 30 31 12,⟨.mv (.tmp 13),some 32,some (31,true),28⟩,⟨.len (.tmp 32),some 33,some (31,true),60⟩,⟨.mv (.tmp 14),some 34,some (31,true),28⟩,⟨.len (.tmp 34),some 35,some (31,true),156⟩,⟨.bin .eql (.tmp 33) (.tmp 35),some 36,some (31,true),508⟩,o3 (.pick (.tmp 31) (.tmp 36) (.const (.bool false))) 37 1020,mv' 37 38 2044,⟨.mv (.tmp 13),some 39,some (38,true),4092⟩,⟨.len (.tmp 39),some 40,some (38,true),8188⟩,⟨.bin .gtr (.tmp 40) (ci' 0),some 41,some (38,true),16380⟩,o3 (.pick (.tmp 38) (.tmp 41) (.const (.bool false))) 42 32764,mv' 27 10 4093,mv' 28 11 69631,mv' 42 12 262143]
def c22:SC:=(.seq (.reg false ydfd) (.seq (.reg true yddz) (.seq (.reg false yczr) .ret)))
theorem ydel:Fn 22 c22 [.t 10,.t 11,.t 12]:=fn_0 Tryz.func22 (by kernel_rfl) (by kernel_rfl)
end Sh
end Go.Proofs.YtiejahgklcjhkaaGreatDoor

namespace Go.Proofs.YtiejahgklcjhkaaGreatDoor
open Go
namespace Sh
open Ev Go.RowKit
set_option maxRecDepth 8000
instance:Inhabited Cnt:=⟨⟨0,0,0,0,0⟩⟩
def seeO(cs:List Conf)(ks:List Cnt):Own:=[(1,.one (some ⟨29,true,1,1,fun _=>[.os (2,0) 0 cs.length true]⟩)),(2,.one (some ⟨34,false,1,cs.length,fun i=>[ybf (cs.getD i [])]⟩)),
 (3,.one (some ⟨30,true,1,1,fun _=>[.os (4,0) 0 ks.length true]⟩)),(4,.one (some ⟨48,false,5,ks.length,fun i=>cntV (ks.getD i default)⟩))]
def ycse:Own:=[(1,.one (some ⟨29,true,1,1,fun _=>[.a (.slice none 0 0)]⟩)),(3,.one (some ⟨30,true,1,1,fun _=>[.a (.slice none 0 0)]⟩))]
theorem ybzp(cs:List Conf)(ks:List Cnt)(h1:0<cs.length/\cs.length<=5000)(h2:0<ks.length/\ks.length<=5000){c:Conf}(hc:∀ s ∈ c,0<s.length/\s.length<=1000)(hl:c.length<=1000)(e:Nat)(k:Cnt) :
  Cm Tryz.prog 131 [(1,0),(3,0)] (seeO cs ks) [ybf c,.i .u32 e,.ag (cntV k),.pt (1,0) 0 0,.pt (3,0) 0 0] fun r o=>r = .tp []/\o=seeO (cs ++ [c]) (ks ++ [k]):=by
 refine ybfx [(1,0),(3,0)] [] _ _ _ ?_;obtain⟨n,hn⟩:∃ n,cs.length=n:=⟨_,rfl⟩;obtain⟨m,hm⟩:∃ m,ks.length=m:=⟨_,rfl⟩;have hC:=yxd c hc hl;obtain⟨O2,hO2⟩:∃ O,seeO (cs ++ [c]) (ks ++ [k])=O:=⟨_,rfl⟩;rw[hO2];simp only[c131,ybps,ybqf,ybtj,seeO,cntV,hn,hm,go_sem,Nat.reduceEqDiff,Nat.reduceAdd,Nat.reduceLT,↓reduceIte,reduceCtorEq];refine hC.use ?_;simp only[thenO,clash,ygm,go_sem,Nat.reduceEqDiff,Nat.reduceAdd,Nat.reduceLeDiff,Nat.reduceLT,↓reduceIte,reduceCtorEq]
 refine⟨by decide,⟨by omega,by omega⟩,by decide,by decide,⟨by omega,by omega⟩,.tp [],O2,?_,?_,rfl,rfl⟩
 ·subst hO2;refine ydg [(2,fun i=>(12,i)),(4,fun i=>(16,i))] [] [] ?_;simp only[seeO,cntV,List.length_append,hn,hm,allQ,live,yc,go_sem,Nat.reduceEqDiff,↓reduceIte,reduceCtorEq];have gl:∀ {α:Type} (l:List α) (x d:α) (i:Nat),i<l.length->(l ++ [x]).getD i d=l.getD i d:=fun l x d i h=>by simp[List.getD,List.getElem?_append_left h]
  have gr:∀ {α:Type} (l:List α) (x d:α),(l ++ [x]).getD l.length d=x:=fun l x d=>by simp[List.getD]
  refine⟨fun i hi=>?_,fun i hi=>?_⟩
  ·by_cases q:i<n
   ·simp only[if_pos q,gl cs c [] i (by omega)]
    simp only[go_sem,live,yc,go_sem]
   ·obtain rfl:i=n:=by omega
    simp only[if_neg q,Nat.sub_self,Nat.zero_mul];have e:=gr cs c [];rw[hn]at e;simp only[e,live,yc,go_sem]
  ·by_cases q:i<m
   ·simp only[if_pos q,gl ks k default i (by omega)]
    simp only[go_sem,live,yc,go_sem,reduceCtorEq]
   ·obtain rfl:i=m:=by omega
    simp only[if_neg q,Nat.sub_self,Nat.zero_mul];have e:=gr ks k default;rw[hm]at e;simp only[e,live,yc,go_sem,reduceCtorEq]
 ·subst hO2;simp only[seeO,cntV,famCln,ygr,allQ,live,go_sem,Nat.reduceEqDiff,↓reduceIte]
theorem ybvh{c:Conf}(hc:∀ s ∈ c,0<s.length/\s.length<=1000)(hl:c.length<=1000)(e:Nat)(k:Cnt) :
  Cm Tryz.prog 131 [(1,0),(3,0)] ycse [ybf c,.i .u32 e,.ag (cntV k),.pt (1,0) 0 0,.pt (3,0) 0 0] fun r o=>r = .tp []/\o=seeO [c] [k]:=by
 refine ybfx [(1,0),(3,0)] [] _ _ _ ?_;have hC:=yxd c hc hl;obtain⟨O2,hO2⟩:∃ O,seeO [c] [k]=O:=⟨_,rfl⟩;rw[hO2];simp only[c131,ybps,ybqf,ybtj,ycse,cntV,go_sem,Nat.reduceEqDiff,Nat.reduceAdd,Nat.reduceLT,↓reduceIte,reduceCtorEq];refine hC.use ?_;simp only[thenO,clash,ygm,go_sem,Nat.reduceEqDiff,Nat.reduceAdd,Nat.reduceLeDiff,Nat.reduceLT,Nat.reduceMul,↓reduceIte,reduceCtorEq];refine⟨by decide,by decide,by decide,.tp [],O2,?_,?_,rfl,rfl⟩
 ·subst hO2;refine ydg [(2,fun i=>(12,i)),(4,fun i=>(16,i))] [] [] ?_;simp only[seeO,cntV,allQ,live,yc,go_sem,Nat.reduceEqDiff,↓reduceIte,reduceCtorEq];refine⟨fun i hi=>?_,fun i hi=>?_⟩
  ·obtain rfl:i=0:=by omega
   simp only[Nat.zero_mul];simp only[List.getD_cons_zero,live,yc,go_sem]
  ·obtain rfl:i=0:=by omega
   simp only[Nat.zero_mul];simp only[List.getD_cons_zero,live,yc,go_sem,reduceCtorEq]
 ·subst hO2;simp only[seeO,cntV,famCln,ygr,allQ,live,go_sem,Nat.reduceEqDiff,↓reduceIte]
structure DaemonOk(kind:Int)(net:List Nat)(res:Nat->Nat->Nat):Prop where
 resolve:∀ (e w:Nat),e<2 ^ 24->e<2 ^ net.length->e ≠ 0->w<2 ^ 32->Returns Tryz.prog 111 [usV net,.i .i64 kind,.i .u32 e,.i .u32 w] (.i .u32 (res e w))
 permits:∀ (e w:Nat),e<2 ^ 24->e<2 ^ net.length->e ≠ 0->w<2 ^ 32->Returns Tryz.prog 196 [usV net,.i .i64 kind,.i .u32 e,.i .u32 (res e w)] (.b true)
 zero:∀ (w:Nat),w<2 ^ 32 -> ∃ x:Nat,Returns Tryz.prog 111 [usV net,.i .i64 kind,.i .u32 0,.i .u32 w] (.i .u32 x)
 sub:∀ (e w:Nat),e ≠ 0->e<2 ^ 24->res e w ≠ 0/\subB (res e w) e
theorem ybdz{kind:Int}{net:List Nat}{res:Nat->Nat->Nat}(hd:DaemonOk kind net res)(rest:SV)(liv:SV)(mv:SV){ws:List Nat}(hw:∀ k,ws.getD k 0<2 ^ 32){e:Nat}(he:e<2 ^ 24)(hen:e<2 ^ net.length)(h0:e ≠ 0){k:Nat}(hk:k<ws.length) :
  Returns Tryz.prog 169 [.i .i64 k,.i .u32 e,.rf [mv,usV net,.i .i64 kind,liv,rest],.rf [usV ws]] (.tp [.i .u32 (res e (ws.getD k 0)),.b true]):=by
 refine Returns.of (ybob _ _ ?_);have hR:=hd.resolve e (ws.getD k 0) he hen h0 (hw k);have z0:((e:Int) != 0)=true:=by simp;omega
 simp only[usV]at hR;simp only[c169,yblx,ybqd,usV,clash,go_sem,Nat.reduceEqDiff,Nat.reduceAdd,Nat.reduceLeDiff,↓reduceIte,reduceCtorEq];refine⟨by omega,hR.use ?_⟩
 simp only[thenO,clash,z0,go_sem,Nat.reduceEqDiff,Nat.reduceAdd,↓reduceIte,reduceCtorEq];exact Sim.refl _
theorem ybew{kind:Int}{net:List Nat}{res:Nat->Nat->Nat}(hd:DaemonOk kind net res)(rest:SV)(liv:SV)(mv:SV){ws:List Nat}(hw:∀ k,ws.getD k 0<2 ^ 32){k:Nat}(hk:k<ws.length) :
  ∃ x:Nat,Returns Tryz.prog 169 [.i .i64 k,.i .u32 0,.rf [mv,usV net,.i .i64 kind,liv,rest],.rf [usV ws]] (.tp [.i .u32 x,.b false]):=by
 obtain⟨x,hR⟩:=hd.zero (ws.getD k 0) (hw k);refine⟨x,Returns.of (ybob _ _ ?_)⟩;simp only[usV]at hR;simp only[c169,yblx,ybqd,usV,clash,go_sem,Nat.reduceEqDiff,Nat.reduceAdd,Nat.reduceLeDiff,↓reduceIte,reduceCtorEq];refine⟨by omega,hR.use ?_⟩
 simp only[thenO,clash,Int.reduceBNe,go_sem,Nat.reduceEqDiff,Nat.reduceAdd,↓reduceIte,reduceCtorEq];exact Sim.refl _
theorem ybox{s e n:Nat}(h:subB s e)(he:e<2 ^ n):s<2 ^ n:=by
 refine Nat.lt_pow_two_of_testBit _ fun i hi=>?_;cases hb:s.testBit i with
 | false=>rfl
 | true =>
  have:=h i hb;rw[Nat.testBit_lt_two_pow (Nat.lt_of_lt_of_le he (Nat.pow_le_pow_right (by omega) hi))]at this
  cases this
theorem ybzr{s e:Nat}(h:subB s e):difB s e=0:=by
 rw[ycl];intro i;rw[ygj];cases hb:s.testBit i with
 | false=>rfl
 | true=>rw[h i hb];rfl
theorem ybcq(e w:Nat)(h0:e ≠ 0)(he:e<2 ^ 24):resD e w ≠ 0/\subB (resD e w) e:=by
 unfold resD;split
 ·exact⟨ycqw h0 (by omega),ycab e⟩
 ·rename_i h
  refine⟨h,fun i hi=>?_⟩;rw[Nat.testBit_and,Bool.and_eq_true]at hi;exact hi.2
theorem ybfb(net:List Nat):DaemonOk 3 net resD where
 resolve:=fun e w he _ h0 hw=>yyu (usV net) (by simp[usV,yvx,ybdy]) he h0 hw
 permits:=fun e w he _ h0 hw=>by
  obtain⟨h1,h2⟩:=ybcq e w h0 he;exact ybav (usV net) he h1 (ybox h2 he) (ybzr h2)
 zero:=fun w hw=>⟨0,by
  refine Returns.of (yvn _ _ ?_);have a0:=u32_and (a:=w) (b:=0) (by omega) (by omega)
  rw[Nat.and_zero]at a0;have a1:IntKind.wrap .u32 (0 - 0)=0:=by decide
  have a2:=u32_and (a:=0) (b:=0) (by omega) (by omega)
  rw[Nat.and_zero]at a2;simp only[Int.natCast_zero,IntKind.bits]at a0 a2;simp only[usV,c111,yzf,ybbl,yyd,ybaa,yqp,yrn,ysj,yju,yvp,IntKind.signed,a0,a1,a2,Int.reduceBEq,yw,go_sem,Nat.reduceEqDiff,Nat.reduceAdd,Nat.reduceLT,↓reduceIte,reduceCtorEq];rfl⟩
 sub:=fun e w h0 he=>ybcq e w h0 he
theorem ycwp(net:List Nat):DaemonOk 4 net resS where
 resolve:=fun e w he _ h0 hw=>ybal (usV net) (by simp[usV,yvx,ybdy]) he h0 hw
 permits:=fun e w he _ h0 hw=>ybac (usV net) he h0
 zero:=fun w hw=>⟨0,by
  refine Returns.of (yvn _ _ ?_);have a0:=u32_and (a:=w) (b:=0) (by omega) (by omega)
  rw[Nat.and_zero]at a0;have a1:IntKind.wrap .u32 (0 - 0)=0:=by decide
  have a2:=u32_and (a:=0) (b:=0) (by omega) (by omega)
  rw[Nat.and_zero]at a2;simp only[Int.natCast_zero,IntKind.bits]at a0 a2;simp only[usV,c111,yzf,ybbl,yyd,ybaa,yqp,yrn,ysj,yju,yvr,IntKind.signed,a0,a1,a2,Int.reduceBEq,yw,go_sem,Nat.reduceEqDiff,Nat.reduceAdd,Nat.reduceLT,↓reduceIte,reduceCtorEq];rfl⟩
 sub:=fun e w h0 _=>⟨h0,fun _ h=>h⟩
end Sh
end Go.Proofs.YtiejahgklcjhkaaGreatDoor

namespace Go.Proofs.YtiejahgklcjhkaaGreatDoor
open Go
def stAt(S:Sys)(res:Nat->Nat->Nat):List Nat->Conf->Cnt->Nat->Conf × Cnt
 | _,c,k,0=>(c,k)
 | ws,c,k,i+1=>stAt S res ws.tail (S.mv c (res (S.en c) (ws.getD 0 0))) (addP k (res (S.en c) (ws.getD 0 0)) (S.en (S.mv c (res (S.en c) (ws.getD 0 0))))) i
theorem yzk(S:Sys)(res:Nat->Nat->Nat):∀ (i:Nat) (ws:List Nat) (c:Conf) (k:Cnt),
  stAt S res ws c k (i+1)=(S.mv (stAt S res ws c k i).1 (res (S.en (stAt S res ws c k i).1) (ws.getD i 0)),addP (stAt S res ws c k i).2 (res (S.en (stAt S res ws c k i).1) (ws.getD i 0)) (S.en (S.mv (stAt S res ws c k i).1 (res (S.en (stAt S res ws c k i).1) (ws.getD i 0)))))
 | 0,ws,c,k=>rfl
 | i+1,ws,c,k=>by
  show stAt S res ws.tail _ _ (i+1)=_;rw[yzk S res i ws.tail];have e:ws.tail.getD i 0=ws.getD (i+1) 0:=by cases ws<;>rfl
  rw[e];rfl
theorem ybbe(S:Sys)(res:Nat->Nat->Nat):∀ (ws:List Nat) (c:Conf) (k:Cnt) (i:Nat),(∀ j,j<i->S.en (stAt S res ws c k j).1 ≠ 0)->i<=ws.length->(i=ws.length\/S.en (stAt S res ws c k i).1=0) ->
  S.run res ws c k=(List.range i).map fun j=>stAt S res ws c k (j+1)
 | [],c,k,i,_,hi,_=>by
  have:i=0:=by simpa using hi
  subst this;rfl
 | w :: ws,c,k,0,_,_,h=>by
  have h0:S.en c=0:=by
   rcases h with h | h
   ·simp at h
   ·exact h
  unfold Sys.run;rw[if_pos h0];rfl
 | w :: ws,c,k,i+1,hj,hi,h=>by
  have h0:S.en c ≠ 0:=hj 0 (by omega)
  unfold Sys.run;rw[if_neg h0];simp only
  have e:=ybbe S res ws (S.mv c (res (S.en c) w)) (addP k (res (S.en c) w) (S.en (S.mv c (res (S.en c) w)))) i (fun j hj'=>hj (j+1) (by omega)) (by simpa using hi) (by
   rcases h with h | h
   ·exact .inl (by simpa using h)
   ·exact .inr h)
  rw[e,List.range_succ_eq_map,List.map_cons,List.map_map];rfl
theorem ybld(S:Sys)(res:Nat->Nat->Nat)(ws:List Nat)(c:Conf)(i:Nat)(hj:∀ j,j<i->S.en (stAt S res ws c (yci (S.en c)) j).1 ≠ 0)(hi:i<=ws.length)(h:i=ws.length\/S.en (stAt S res ws c (yci (S.en c)) i).1=0) :
  S.runs res ws c=(List.range (i+1)).map fun j=>stAt S res ws c (yci (S.en c)) j:=by
 unfold Sys.runs;rw[ybbe S res ws c _ i hj hi h,List.range_succ_eq_map,List.map_cons,List.map_map];rfl
theorem ybxh{kind:Int}{b:Int × Int}(hb:b.1<=b.2)(h3:kind=3->b.1 <= -1 /\ -1<=b.2)(x:Int):b.1<=yjg kind b x/\yjg kind b x<=b.2:=by
 unfold yjg;split
 ·assumption
 ·split
  ·exact h3 (by assumption)
  ·split<;>omega
namespace Sh
theorem ybgs{p:ProgT}{g:Gr}(hg:ybb g)(hp:p.ok=true)(hf:ywn p g=true){x:VarR}(hx:x ∈ p.vars)(v:Nat):(ybd g v x).1<=(ybd g v x).2/\(x.kind=3->(ybd g v x).1 <= -1 /\ -1<=(ybd g v x).2):=by
 have h1:=List.all_eq_true.1 hf x hx;have hp':=hp;unfold ProgT.ok at hp';simp only[Bool.and_eq_true,decide_eq_true_eq]at hp';have hxo:=ybff (List.all_eq_true.1 hp'.1.1.2 _ hx);rcases hxo.1 with h | h | h
 ·have e:ybd g v x=ybd g 0 x:=by unfold ybd;rw[if_pos h,if_pos h]
  rw[e];simp[h]at h1;exact⟨h1.1,fun q=>by omega⟩
 ·unfold ybd;rw[if_neg (by omega),if_pos h]
  exact⟨by decide,fun q=>by omega⟩
 ·unfold ybd;rw[if_neg (by omega),if_neg (by omega),if_pos h]
  exact⟨by simp only[];omega,fun _=>⟨by simp only[];omega,by simp only[];omega⟩⟩
theorem ybtv{p:ProgT}{g:Gr}(hg:ybb g)(hp:p.ok=true)(hf:ywn p g=true){v:Nat}{s:List Int}(hs:ydr (p.vars.map (ybd g v)) s){a:Int}(ha:0<=a/\a<p.vars.length)(y:Int) :
  ydr (p.vars.map (ybd g v)) (s.set a.toNat (yjg (p.vars.getD a.toNat default).kind (ybd g v (p.vars.getD a.toNat default)) y)):=by
 refine⟨by rw[List.length_set];exact hs.1,fun i b x hb hx=>?_⟩
 by_cases q:a.toNat=i
 ·subst q;have hlt:a.toNat<p.vars.length:=by omega
  rw[List.getElem?_map,List.getElem?_eq_getElem hlt]at hb;cases hb
  have hl:a.toNat<s.length:=by rw[hs.1,List.length_map];exact hlt
  rw[List.getElem?_set_self hl]at hx;cases hx
  rw[getD_at hlt];obtain⟨h1,h2⟩:=ybgs hg hp hf (List.getElem_mem hlt) v;exact ybxh h1 h2 y
 ·rw[List.getElem?_set_ne q]at hx;exact hs.2 i b x hb hx
theorem yuz{p:ProgT}{g:Gr}(hg:ybb g)(hp:p.ok=true)(hf:ywn p g=true)(c:Conf)(v:Nat):∀ (sets:List (Int × Ex)) (s:List Int),(∀ a ∈ sets,0<=a.1/\a.1<p.vars.length)->ydr (p.vars.map (ybd g v)) s->ydr (p.vars.map (ybd g v)) (ymr p g c v s sets)
 | [],s,_,hs=>hs
 | a :: sets,s,ha,hs=>by
  show ydr _ (ymr p g c v (s.set _ _) sets);exact yuz hg hp hf c v sets _ (fun x hx=>ha x (List.mem_cons_of_mem _ hx)) (ybtv hg hp hf hs (ha a List.mem_cons_self) _)
theorem yuu{p:ProgT}{g:Gr}(hg:ybb g)(hp:p.ok=true)(hf:ywn p g=true){c:Conf}(hc:yft p g c=true)(s:Nat):yft p g (ykp p g c s)=true:=by
 have h:=(ydy _ _ _).1 hc;refine(ydy _ _ _).2 ⟨by rw[yij];exact h.1,fun v st hst=>?_⟩
 have hv:v<c.length:=by
  have:=(List.getElem?_eq_some_iff.1 hst).1
  rwa [yij]at this
 have e:st=(ykp p g c s).getD v []:=by simp[List.getD,hst]
 rw[yko p g c s hv]at e;have hold:=h.2 v (c.getD v []) (by rw[getD_at hv];exact List.getElem?_eq_getElem hv)
 rw[e];split
 ·unfold ybfh;refine yuz hg hp hf c v _ _ (fun a ha=>?_) hold;have hp':=hp;unfold ProgT.ok at hp';simp only[Bool.and_eq_true,decide_eq_true_eq]at hp'
  by_cases hr:(ygo p g c v).toNat<p.rules.length
  ·rw[getD_at hr]at ha;have hok:=List.all_eq_true.1 hp'.2 _ (List.getElem_mem hr);unfold RuleT.ok at hok;simp only[Bool.and_eq_true,decide_eq_true_eq]at hok;have:=List.all_eq_true.1 hok.2 a ha;simp only[Bool.and_eq_true,decide_eq_true_eq]at this;exact this.1.1
  ·have:p.rules.getD (ygo p g c v).toNat default=default:=by simp[List.getD,List.getElem?_eq_none (Nat.le_of_not_lt hr)]
   rw[this]at ha;cases ha
 ·exact hold
theorem ylj{p:ProgT}{g:Gr}(hg:ybb g)(hp:p.ok=true){c:Conf}(hc:yft p g c=true):(∀ s ∈ c,0<s.length/\s.length<=1000)/\c.length<=1000:=by
 have h:=ykk hg hp hc;have hp':=hp;unfold ProgT.ok at hp';simp only[Bool.and_eq_true,decide_eq_true_eq]at hp';have:=hg.2.1;exact⟨fun s hs=>by have:=(h.row s hs).1;omega,by rw[h.len];omega⟩
theorem ybwp(p:ProgT)(g:Gr)(c:Conf):ybp p g c<2 ^ g.ids.length:=ypa _ _
end Sh
end Go.Proofs.YtiejahgklcjhkaaGreatDoor

namespace Go.Proofs.YtiejahgklcjhkaaGreatDoor
open Go
namespace Sh
open Ev Go.RowKit
set_option maxRecDepth 8000
def seeC:SV:=.fn 131 [] [.pt (201,0) 0 0,.pt (203,0) 0 0]
def seeX(cs:List Conf)(ks:List Cnt):Own:=[(201,.one (some ⟨29,true,1,1,fun _=>[.os (202,0) 0 cs.length true]⟩)),(202,.one (some ⟨34,false,1,cs.length,fun i=>[ybf (cs.getD i [])]⟩)),
 (203,.one (some ⟨30,true,1,1,fun _=>[.os (204,0) 0 ks.length true]⟩)),(204,.one (some ⟨48,false,5,ks.length,fun i=>cntV (ks.getD i default)⟩))]
def ylb:Own:=[(201,.one (some ⟨29,true,1,1,fun _=>[.a (.slice none 0 0)]⟩)),(203,.one (some ⟨30,true,1,1,fun _=>[.a (.slice none 0 0)]⟩))]
def TT:(Nat->Option ABlk)->Value->Prop:=fun _ _=>True
def yem(p:ProgT)(g:Gr):SV:=.ex TT (.rf (ydh p.raw g))
def ydc(p:ProgT)(g:Gr)(net:List Nat)(kind:Int):List SV:=[yem p g,usV net,.i .i64 kind,.i .u32 (2 ^ g.ids.length - 1:Nat),seeC]
def ybuo(p:ProgT)(g:Gr)(net:List Nat)(kind:Int)(ws:List Nat):Own:=[(205,.one (some ⟨126,true,5,1,fun _=>ydc p g net kind⟩)),(206,.one (some ⟨38,true,1,1,fun _=>[usV ws]⟩))]
theorem gmr{α:Type}(f:Nat->α)(n k:Nat)(d:α)(h:k<n):((List.range n).map f).getD k d=f k:=by simp[List.getD,h]
def mapR{α:Type}(n:Nat)(f:Nat->α):List α:=(List.range n).map f
theorem gmR{α:Type}(f:Nat->α)(n k:Nat)(d:α)(h:k<n):(mapR n f).getD k d=f k:=gmr f n k d h
theorem ybhn{α:Type}(n:Nat)(f:Nat->α):(mapR n f).length=n:=by simp[mapR]
theorem ybgo{α β:Type}(n:Nat)(f:Nat->α)(h:α->β):(mapR n f).map h=mapR n fun k=>h (f k):=by simp[mapR,Function.comp_def]
theorem ybse{α:Type}(f:Nat->α)(n:Nat)(x d:α)(hx:f n=x)(k:Nat)(h:k<n+1):(((List.range n).map f) ++ [x]).getD k d=f k:=by
 rw[<- hx,show[f n] = [n].map f from rfl,<- List.map_append,<- List.range_succ]
 exact gmr f (n+1) k d h
section
variable {Q1 Q2:(Nat->Option ABlk)->Value->Prop} {p:ProgT} {g:Gr}
theorem ybje(h:Checked Q1 Q2 p g){kind:Int}{net:List Nat}(hnl:g.ids.length<=net.length){res:Nat->Nat->Nat}(hd:DaemonOk kind net res){c:Conf}(hc:yft p g c=true){ws:List Nat}(hw:∀ k,ws.getD k 0<2 ^ 32)(hwl:ws.length<=4000) :
  Cm Tryz.prog 168 [(201,0),(203,0)] (ylb ++ ybuo p g net kind ws) [.ag (ydc p g net kind),ybf c,.i .i64 ws.length,.fn 169 [] [.pt (205,0) 0 0,.pt (206,0) 0 0]]
   fun r o=>(∃ l1 l2 c' k',r = .tp [.ag (usV l1 :: usV l2 :: ybf c' :: cntV k'),.i .i64 0])/\o=seeX ((ybk p g).runs res ws c |>.map (·.1)) ((ybk p g).runs res ws c |>.map (·.2)):=by
 refine ybxz [(201,0),(203,0)] [131] _ _ _ ?_;obtain⟨O2,hO2⟩:∃ O,seeX ((ybk p g).runs res ws c |>.map (·.1)) ((ybk p g).runs res ws c |>.map (·.2))=O:=⟨_,rfl⟩;rw[hO2];obtain⟨hr1,hr2⟩:=ylj h.hg h.hp hc;have hcin:=ykk h.hg h.hp hc;have hC:=yxd c hr1 hr2;have hE:=ynt p h.hg h.hp hcin;have hX:SimL [yem p g,ybf c] [.rf (ydh p.raw g),ybf c]:=⟨yqv _ _,Sim.refl _,trivial⟩
 have hen:=ybwp p g c;have hid:=h.hg.2.2.1;have h24:=h.hg.2.1;have h2n:2 ^ g.ids.length<=2 ^ 24:=Nat.pow_le_pow_right (by omega) (by omega)
 simp only[c168,yccl,ycbw,ycdw,ylb,ybuo,ydc,seeC,usV,yem,go_sem,Nat.reduceEqDiff,Nat.reduceAdd,Nat.reduceLT,Nat.reduceBEq,↓reduceIte,reduceCtorEq];refine hC.use ?_;simp only[thenO,yclz,clash,go_sem,Nat.reduceEqDiff,Nat.reduceAdd,Nat.reduceLeDiff,Nat.reduceBEq,↓reduceIte,reduceCtorEq];refine hE.useS ?_ ?_
 ·exact hX
 have ha:IntKind.wrap .u32 (((BitVec.ofInt (IntKind.bits .u32) (ybp p g c:Int)) &&& BitVec.ofInt (IntKind.bits .u32) ((2 ^ g.ids.length - 1:Nat):Int)).toNat:Int)=(ybp p g c:Int):=by
  have e:=u32_and (a:=ybp p g c) (b:=2 ^ g.ids.length - 1) (by omega) (by omega)
  rw[Nat.and_two_pow_sub_one_of_lt_two_pow hen]at e;exact e
 simp only[IntKind.bits]at ha;simp only[thenO,ycou,clash,ha,go_sem,Nat.reduceEqDiff,Nat.reduceAdd,Nat.reduceLT,Nat.reduceBEq,↓reduceIte];have hB:=ybpj (e:=ybp p g c) (by omega)
 obtain⟨K0,hK0⟩:∃ K,yci (ybp p g c)=K:=⟨_,rfl⟩;rw[hK0]at hB;refine hB.use ?_;simp only[ycbt,cntV,go_sem,Nat.reduceEqDiff,Nat.reduceAdd,↓reduceIte,reduceCtorEq];have hS:=ybvh hr1 hr2 (ybp p g c) K0;simp only[cntV]at hS;refine callM_of hS [(1,201),(3,203)] 200 [1,2,3,4,8,9,10,11,12] [4,8,10,12,205,206] ?_ ?_
 ·simp only[ycse,to1,okN,famCln,ygr,keepF,keepO,allQ,live,yc,go_sem,Nat.reduceEqDiff,Nat.reduceAdd,Nat.reduceBEq,↓reduceIte,reduceCtorEq]
 ·rintro r o' ⟨rfl,rfl⟩;simp only[seeO,thenM,yoj,nuF,nu,difN,keepF,keepO,Fam.ren,OB.ren,dim,yti,yoc,go_sem,Nat.reduceEqDiff,Nat.reduceAdd,Nat.reduceBEq,↓reduceIte,reduceCtorEq];simp only[ycin,ycgs,splice,go_sem,Nat.reduceEqDiff,Nat.reduceAdd,Nat.reduceLeDiff,Nat.reduceLT,Nat.reduceMul,↓reduceIte,reduceCtorEq]
  let st:Nat->Conf × Cnt:=stAt (ybk p g) res ws c K0
  let en:Nat->Nat:=fun i=>ybp p g (st i).1
  let ch:Nat->Nat:=fun i=>res (en i) (ws.getD i 0)
  refine ybe (σ:=Nat) (fun i=>⟨[(40,.i .i64 i),(39,.i .i64 ws.length),(1,ybf (st i).1),(3,.fn 169 [] [.pt (205,0) 0 0,.pt (206,0) 0 0]),(4,.pt (4,0) 0 0),(8,.pt (8,0) 0 0),(9,.i .i64 0),(10,.pt (10,0) 0 0),(11,.i .u32 (en i)),(12,.pt (12,0) 0 0)],
   [(4,.one (some ⟨126,true,5,1,fun _=>ydc p g net kind⟩)),
    (8,.one (some ⟨130,true,8,1,fun _=>[.a (.slice none 0 0),.a (.slice none 0 0),.a (.slice none 0 0),.i .i64 0,.i .i64 0,.i .i64 0,.i .i64 0,.i .u32 0]⟩)),
    (10,.one (some ⟨130,true,8,1,fun _=>[.os (301,0) 0 i true,.os (302,0) 0 (i+1) true,.a (.slice none 0 0),.i .i64 0,.i .i64 0,.i .i64 0,.i .i64 0,.i .u32 0]⟩)),
    (301,.one (some ⟨40,false,1,i,fun j=>[.i .u32 (ch j)]⟩)),(302,.one (some ⟨40,false,1,i+1,fun j=>[.i .u32 (en j)]⟩)),
    (12,.one (some ⟨48,true,5,1,fun _=>cntV (st i).2⟩)),
    (201,.one (some ⟨29,true,1,1,fun _=>[.os (202,0) 0 (i+1) true]⟩)),(202,.one (some ⟨34,false,1,i+1,fun j=>[ybf (st j).1]⟩)),
    (203,.one (some ⟨30,true,1,1,fun _=>[.os (204,0) 0 (i+1) true]⟩)),(204,.one (some ⟨48,false,5,i+1,fun j=>cntV (st j).2⟩)),
    (205,.one (some ⟨126,true,5,1,fun _=>ydc p g net kind⟩)),(206,.one (some ⟨38,true,1,1,fun _=>[usV ws]⟩))]⟩)
   (fun i=>i<=ws.length/\(∀ j,j<i->en j ≠ 0)/\yft p g (st i).1=true/\(st i).2.ok/\(st i).2.steps=i) (fun i=>ws.length - i) 0 ⟨Nat.zero_le _,fun j hj=>absurd hj (Nat.not_lt_zero j),hc,by show K0.ok;rw[<- hK0];exact ybru (by omega),by show K0.steps=0;rw[<- hK0];rfl⟩ ?_ ?_
  ·refine ydg [(302,fun i=>(37,i))] [301] [] ?_;have st0:st 0=(c,K0):=rfl;have en0:en 0=ybp p g c:=rfl;simp only[ydc,yem,seeC,usV,cntV,st0,en0,allQ,live,yc,yw,Int.natCast_zero,go_sem,Nat.reduceEqDiff,Nat.reduceLeDiff,Nat.reduceBEq,↓reduceIte,reduceCtorEq];refine⟨fun i _=>⟨(301,0),rfl,?_⟩,?_⟩
   ·simp only[go_sem,go_sem,Nat.reduceEqDiff,↓reduceIte]
   refine⟨fun i hi=>?_,fun i hi=>?_,fun i hi=>?_⟩
   ·obtain rfl:i=0:=by omega
    simp only[Nat.zero_mul];simp only[en0,live,yc,go_sem,reduceCtorEq]
   ·obtain rfl:i=0:=by omega
    simp only[st0,List.getD_cons_zero,yc,go_sem]
   ·obtain rfl:i=0:=by omega
    simp only[st0,List.getD_cons_zero,go_sem]
  ·rintro i ⟨hi,hj,hci,hko,hks⟩;obtain⟨cr1,cr2⟩:=ylj h.hg h.hp hci;have cin:=ykk h.hg h.hp hci;have eni:=ybwp p g (st i).1
   have fin:(i=ws.length\/en i=0)->(ybk p g).runs res ws c=mapR (i+1) st:=fun hq=>by
    have e:=ybld (ybk p g) res ws c i;rw[show(ybk p g).en c=ybp p g c from rfl,hK0]at e
    exact e hj hi hq
   simp only[ycox,ycnw,ybuw,ydc,yem,seeC,usV,cntV,go_sem,Nat.reduceEqDiff,Nat.reduceAdd,Nat.reduceLeDiff,Nat.reduceBEq,↓reduceIte,reduceCtorEq];refine⟨fun hlt=>.inl ?_,fun hlt=>?_⟩
   ·have hi':i<ws.length:=by omega
    by_cases h0:en i=0
    ·obtain⟨x,hF⟩:=ybew hd (.fn 131 [] [.rf [.sl 1 (i+1) fun j=>[ybf (st j).1]],.rf [.sl 5 (i+1) fun j=>cntV (st j).2]]) (.i .u32 (2 ^ g.ids.length - 1:Nat)) (yem p g) hw hi';simp only[yem,usV,cntV]at hF;simp only[h0,Int.natCast_zero];refine hF.use ?_;simp only[thenO,ybcs,ybee,ybfc,go_sem,Nat.reduceEqDiff,Nat.reduceAdd,Nat.reduceLeDiff,↓reduceIte,reduceCtorEq];refine⟨by decide,?_⟩
     simp only[ygm,go_sem];refine⟨.tp [.ag (usV (mapR i ch) :: usV (mapR (i+1) en) :: ybf (st i).1 :: cntV (st i).2),.i .i64 0],O2,?_,?_,⟨_,_,_,_,rfl⟩,rfl⟩
     ·subst hO2;rw[fin (.inr h0)];refine ydg [] [] [(301,0),(302,0)] ?_;simp only[seeX,usV,cntV,ybgo,ybhn,allQ,live,yc,yw,go_sem,Nat.reduceEqDiff,↓reduceIte,reduceCtorEq];refine⟨ycdq ⟨ytp ⟨sim_sl fun q hq=>by rw[gmR _ _ _ _ hq],sim_sl fun q hq=>by rw[gmR _ _ _ _ hq],Sim.refl _,Sim.refl _,Sim.refl _,Sim.refl _,Sim.refl _,Sim.refl _,trivial⟩,Sim.refl _,trivial⟩,fun q hq=>?_,fun q hq=>?_⟩
      ·rw[gmR _ _ _ _ hq];exact Sim.refl _
      ·rw[gmR _ _ _ _ hq];exact⟨rfl,rfl,rfl,rfl,rfl⟩
     ·subst hO2;simp only[seeX,usV,cntV,famCln,ygr,allQ,live,go_sem,Nat.reduceEqDiff,↓reduceIte]
    ·have hen24:en i<2 ^ 24:=by show ybp p g (st i).1<_;omega
     have henn:en i<2 ^ net.length:=Nat.lt_of_lt_of_le eni (Nat.pow_le_pow_right (by omega) hnl)
     have hF:=ybdz hd (.fn 131 [] [.rf [.sl 1 (i+1) fun j=>[ybf (st j).1]],.rf [.sl 5 (i+1) fun j=>cntV (st j).2]]) (.i .u32 (2 ^ g.ids.length - 1:Nat)) (yem p g) hw hen24 henn h0 hi';obtain⟨hch0,hchs⟩:=hd.sub (en i) (ws.getD i 0) h0 hen24;have hP:=hd.permits (en i) (ws.getD i 0) hen24 henn h0 (hw i);have hch24:ch i<2 ^ 24:=ybox hchs hen24;have hSt:=ybwj p h.hg h.hp cin (s:=ch i) (by omega) hchs
     obtain⟨d,hdd⟩:∃ d,ykp p g (st i).1 (ch i)=d:=⟨_,rfl⟩;rw[hdd]at hSt;have hcd:yft p g d=true:=by rw[<- hdd];exact yuu h.hg h.hp h.hf hci (ch i)
     simp only[yem,usV,cntV]at hF hP;refine hF.use ?_;simp only[thenO,ybcs,ybsf,go_sem,Nat.reduceEqDiff,Nat.reduceAdd,Nat.reduceLeDiff,Nat.reduceBEq,↓reduceIte,reduceCtorEq];refine hP.use ?_;simp only[thenO,ybqz,go_sem,Nat.reduceEqDiff,Nat.reduceAdd,Nat.reduceLeDiff,Nat.reduceBEq,↓reduceIte,reduceCtorEq];refine hSt.useS ?_ ?_
     ·exact⟨yqv _ _,Sim.refl _,Sim.refl _,trivial⟩
     obtain⟨dr1,dr2⟩:=ylj h.hg h.hp hcd;have dcin:=ykk h.hg h.hp hcd;have hE2:=ynt p h.hg h.hp dcin;have hen2:=ybwp p g d;obtain⟨e2,he2⟩:∃ e,ybp p g d=e:=⟨_,rfl⟩;rw[he2]at hE2 hen2
     have ha2:IntKind.wrap .u32 (((BitVec.ofInt (IntKind.bits .u32) (e2:Int)) &&& BitVec.ofInt (IntKind.bits .u32) ((2 ^ g.ids.length - 1:Nat):Int)).toNat:Int)=(e2:Int):=by
      have e:=u32_and (a:=e2) (b:=2 ^ g.ids.length - 1) (by omega) (by omega)
      rw[Nat.and_two_pow_sub_one_of_lt_two_pow hen2]at e;exact e
     simp only[IntKind.bits]at ha2;simp only[thenO,ybmb,clash,go_sem,Nat.reduceEqDiff,Nat.reduceAdd,Nat.reduceLeDiff,Nat.reduceBEq,↓reduceIte,reduceCtorEq];refine hE2.useS ?_ ?_
     ·exact⟨yqv _ _,Sim.refl _,trivial⟩
     have hA:=yctz hko (by omega) hch0 hch24 (e:=e2) (by omega)
     obtain⟨K2,hK2⟩:∃ K,addP (st i).2 (ch i) e2=K:=⟨_,rfl⟩;rw[hK2]at hA;simp only[cntV]at hA;simp only[thenO,ybvb,clash,ha2,go_sem,Nat.reduceEqDiff,Nat.reduceAdd,Nat.reduceBEq,↓reduceIte,reduceCtorEq];refine hA.use ?_;simp only[ybqn,go_sem,Nat.reduceEqDiff,Nat.reduceAdd,↓reduceIte,reduceCtorEq]
     let cs:List Conf:=(List.range (i+1)).map fun j=>(st j).1
     let ks:List Cnt:=(List.range (i+1)).map fun j=>(st j).2
     have lc:cs.length=i+1:=by simp[cs]
     have lk:ks.length=i+1:=by simp[ks]
     have hS2:=ybzp cs ks (by omega) (by omega) dr1 dr2 e2 K2
     simp only[cntV]at hS2;refine callM_of hS2 [(1,201),(2,202),(3,203),(4,204)] 400 [40,39,1,3,4,8,9,10,11,12,14] [4,8,10,301,302,12,205,206] ?_ ?_
     ·simp only[seeO,lc,lk,cntV,to1,okN,famCln,ygr,keepF,keepO,allQ,live,yc,yw,go_sem,Nat.reduceEqDiff,Nat.reduceAdd,Nat.reduceBEq,↓reduceIte,reduceCtorEq];refine⟨fun q hq=>?_,fun q hq=>?_⟩
      ·simp only[cs,gmr _ _ _ _ hq];exact Sim.refl _
      ·simp only[ks,gmr _ _ _ _ hq];exact⟨trivial,trivial,trivial,trivial,trivial⟩
     ·rintro r o' ⟨rfl,rfl⟩;simp only[seeO,cntV,List.length_append,lc,lk,thenM,yoj,nuF,nu,difN,keepF,keepO,Fam.ren,OB.ren,dim,yhd,yti,yoc,go_sem,Nat.reduceEqDiff,Nat.reduceBEq,↓reduceIte];simp only[ybna,ybnj,ybou,splice,go_sem,Nat.reduceEqDiff,Nat.reduceAdd,Nat.reduceLeDiff,Nat.reduceLT,↓reduceIte,reduceCtorEq]
      have hst:st (i+1)=(d,K2):=by
       show stAt (ybk p g) res ws c K0 (i+1)=_;rw[yzk];show(ykp p g (st i).1 (ch i),addP (st i).2 (ch i) (ybp p g (ykp p g (st i).1 (ch i))))=_;rw[hdd,he2,hK2]
      have hen':en (i+1)=e2:=by
       show ybp p g (st (i+1)).1=_;rw[hst];exact he2
      refine⟨⟨by omega,by omega⟩,⟨by omega,by omega⟩,ikw (by omega) (by omega),?_⟩
      refine yh (i+1) ⟨by omega,fun j hj'=>?_,by rw[hst];exact hcd,by rw[hst,<- hK2];exact ycus hko hch24 hch0 (by omega),by rw[hst,<- hK2];show(st i).2.steps+1=i+1;omega⟩ (by omega) ?_
      ·by_cases q:j=i
       ·rw[q];exact h0
       ·exact hj j (by omega)
      refine ydg [(301,fun i=>(90,i)),(302,fun i=>(96,i))] [] [] ?_;simp only[hst,hen',allQ,live,yc,yw,go_sem,Nat.reduceEqDiff,Nat.reduceLeDiff,↓reduceIte,reduceCtorEq];have hcs:∀ k,k<i+1+1->(cs ++ [d]).getD k []=(st k).1:=ybse (fun j=>(st j).1) (i+1) d [] (by rw[hst])
      have hksx:∀ k,k<i+1+1->(ks ++ [K2]).getD k default=(st k).2:=ybse (fun j=>(st j).2) (i+1) K2 default (by rw[hst])
      refine⟨by omega,fun q hq=>?_,fun q hq=>?_,fun q hq=>?_,fun q hq=>?_⟩
      ·by_cases q1:q<i
       ·simp only[if_pos q1];simp only[go_sem,live,yc,go_sem,reduceCtorEq]
       ·obtain rfl:q=i:=by omega
        simp only[if_neg q1,Nat.sub_self,Nat.zero_mul];simp only[ch,live,yc,go_sem,reduceCtorEq]
      ·by_cases q1:q<i+1
       ·simp only[if_pos q1];simp only[go_sem,live,yc,go_sem,reduceCtorEq]
       ·obtain rfl:q=i+1:=by omega
        simp only[if_neg q1,Nat.sub_self,Nat.zero_mul];simp only[hen',live,yc,go_sem,reduceCtorEq]
      ·rw[hcs q hq];exact Sim.refl _
      ·rw[hksx q hq];exact⟨rfl,rfl,rfl,rfl,rfl⟩
   ·obtain rfl:i=ws.length:=by omega
    simp only[ybee,ybfc,go_sem,Nat.reduceEqDiff,Nat.reduceAdd,Nat.reduceLeDiff,↓reduceIte,reduceCtorEq];refine⟨by decide,?_⟩
    simp only[ygm,go_sem];refine⟨.tp [.ag (usV (mapR ws.length ch) :: usV (mapR (ws.length+1) en) :: ybf (st ws.length).1 :: cntV (st ws.length).2),.i .i64 0],O2,?_,?_,⟨_,_,_,_,rfl⟩,rfl⟩
    ·subst hO2;rw[fin (.inl rfl)];refine ydg [] [] [(301,0),(302,0)] ?_;simp only[seeX,usV,cntV,ybgo,ybhn,allQ,live,yc,yw,go_sem,Nat.reduceEqDiff,↓reduceIte,reduceCtorEq];refine⟨ycdq ⟨ytp ⟨sim_sl fun q hq=>by rw[gmR _ _ _ _ hq],sim_sl fun q hq=>by rw[gmR _ _ _ _ hq],Sim.refl _,Sim.refl _,Sim.refl _,Sim.refl _,Sim.refl _,Sim.refl _,trivial⟩,Sim.refl _,trivial⟩,fun q hq=>?_,fun q hq=>?_⟩
     ·rw[gmR _ _ _ _ hq];exact Sim.refl _
     ·rw[gmR _ _ _ _ hq];exact⟨rfl,rfl,rfl,rfl,rfl⟩
    ·subst hO2;simp only[seeX,usV,cntV,famCln,ygr,allQ,live,go_sem,Nat.reduceEqDiff,↓reduceIte]
end
end Sh
end Go.Proofs.YtiejahgklcjhkaaGreatDoor

namespace Go.Proofs.YtiejahgklcjhkaaGreatDoor
open Go
namespace Sh
open Ev Go.RowKit
set_option maxRecDepth 8000
theorem Returns.exT{P:Program}{g:FuncId}{args:List SV}{r:SV}(h:Returns P g args r):Returns P g args (.ex TT r):=fun G m us h1 h2 h3=>by
 obtain⟨v,m',x,a,b,c,d,e⟩:=h G m us h1 h2 h3;exact⟨v,m',.ex TT r,a,b,c,rfl,.ex trivial (fun _ _ _ _ _=>trivial) (d ▸ e)⟩
section
variable {Q1 Q2:(Nat->Option ABlk)->Value->Prop} {p:ProgT} {g:Gr}
theorem ybrg(h:Checked Q1 Q2 p g){kind:Int}(hk:1<=kind/\kind<=4){c:Conf}(hc:yft p g c=true){len:Nat}(hl:len<=4096):Returns Tryz.prog 129 [.ag (yfi Q1 Q2 p.raw),grV g,.i .i64 kind,ybf c,.i .i64 len] (.i .i64 0):=by
 refine Returns.of (ycrv _ _ ?_);have hC:=ybqs h c;rw[if_pos hc]at hC;have hD:=ybjs kind;rw[decide_eq_true hk.1,decide_eq_true hk.2]at hD;have f1:decide ((len:Int) > 4096)=false:=by simp;omega
 simp only[yfi,grV]at hC;simp only[c129,yceh,ycor,yfi,grV,go_sem,Nat.reduceEqDiff,Nat.reduceAdd,Nat.reduceLT,↓reduceIte,reduceCtorEq];refine hC.use ?_;simp only[thenO,ycjq,ycoq,Int.reduceBNe,go_sem,Nat.reduceEqDiff,Nat.reduceAdd,↓reduceIte,reduceCtorEq];refine hD.use ?_;simp only[ycnm,ycla,f1,yw,Bool.and_self,go_sem,Nat.reduceEqDiff,Nat.reduceAdd,↓reduceIte,reduceCtorEq]
theorem ybij(h:Checked Q1 Q2 p g):Returns Tryz.prog 93 [.ag (ykh p.raw),grV g] (yem p g):=by
 have hp':=h.hp;unfold ProgT.ok at hp';simp only[Bool.and_eq_true,decide_eq_true_eq]at hp';exact(yzd p.raw h.hg hp'.1.1.2 hp'.1.1.1.2).exT
theorem yyv(h:Checked Q1 Q2 p g)(kind:Int):Cm Tryz.prog 130 [(201,0),(203,0)] ylb [.ag (yfi Q1 Q2 p.raw),grV g,.i .i64 kind,seeC] fun r o=>r = .ag (ydc p g (g.ports.map netP) kind)/\o=ylb:=by
 refine ycav [(201,0),(203,0)] [] _ _ _ ?_;have hM:=ybij h;have hN:=ybkq h.hg;have hA:=ybln h.hg;simp only[grV]at hM hN hA;simp only[c130,yckd,ycgh,yfi,grV,seeC,ylb,clash,go_sem,Nat.reduceEqDiff,Nat.reduceAdd,Nat.reduceLT,↓reduceIte,reduceCtorEq];refine hM.useS ?_ ?_
 ·exact⟨ytp ⟨Sim.refl _,yqv _ _,yqv _ _,trivial⟩,Sim.refl _,trivial⟩
 simp only[usV,yem]at hN ⊢;simp only[thenO,clash,go_sem,Nat.reduceEqDiff,Nat.reduceAdd,Nat.reduceLeDiff,↓reduceIte,reduceCtorEq];refine hN.use ?_;simp only[go_sem,Nat.reduceAdd,Nat.reduceLeDiff,↓reduceIte];refine⟨by decide,hA.use ?_⟩
 simp only[ygm,go_sem,Nat.reduceEqDiff,Nat.reduceAdd,↓reduceIte];refine⟨by decide,by decide,.ag (ydc p g (g.ports.map netP) kind),ylb,?_,?_,rfl,rfl⟩
 ·refine ydg [] [] [] ?_;simp only[ydc,yem,usV,seeC,ylb,allQ,live,yc,go_sem,Nat.reduceEqDiff,↓reduceIte,reduceCtorEq]
 ·simp only[ydc,yem,usV,seeC,ylb,famCln,ygr,allQ,live,go_sem,Nat.reduceEqDiff,↓reduceIte]
theorem ybwd(h:Checked Q1 Q2 p g){kind:Int}{net:List Nat}(hnl:g.ids.length<=net.length){res:Nat->Nat->Nat}(hd:DaemonOk kind net res){c:Conf}(hc:yft p g c=true){ws:List Nat}(hw:∀ k,ws.getD k 0<2 ^ 32)(hwl:ws.length<=4000) :
  Cm Tryz.prog 133 [(201,0),(203,0)] ylb [.ag (ydc p g net kind),ybf c,usV ws]
   fun r o=>(∃ l1 l2 c' k',r = .tp [.ag (usV l1 :: usV l2 :: ybf c' :: cntV k'),.i .i64 0])/\o=seeX ((ybk p g).runs res ws c |>.map (·.1)) ((ybk p g).runs res ws c |>.map (·.2)):=by
 refine ybze [(201,0),(203,0)] [168] _ _ _ ?_;have hX:=ybje h hnl hd hc hw hwl
 generalize ((ybk p g).runs res ws c).map (·.1)=CS at hX ⊢
 generalize ((ybk p g).runs res ws c).map (·.2)=KS at hX ⊢
 simp only[c133,ycoo,ycja,ylb,ydc,yem,usV,seeC,go_sem,Nat.reduceEqDiff,Nat.reduceAdd,Nat.reduceLT,↓reduceIte,reduceCtorEq];refine callM_of hX [(201,201),(203,203),(205,3),(206,5)] 0 [6,7] [6] ?_ ?_
 ·simp only[ylb,ybuo,ydc,yem,usV,seeC,List.cons_append,List.nil_append,to1,okN,famCln,ygr,keepF,keepO,allQ,live,yc,go_sem,Nat.reduceEqDiff,Nat.reduceAdd,Nat.reduceLeDiff,Nat.reduceBEq,↓reduceIte,reduceCtorEq]
 ·rintro r o' ⟨⟨l1,l2,c',k',rfl⟩,rfl⟩;simp only[seeX,usV,cntV,thenM,yoj,nuF,nu,difN,keepF,keepO,Fam.ren,OB.ren,dim,yhd,ybaj,ybbk,yti,yoc,go_sem,Nat.reduceEqDiff,Nat.reduceAdd,Nat.reduceBEq,↓reduceIte,reduceCtorEq];simp only[ygm,go_sem];refine⟨.tp [.ag (usV l1 :: usV l2 :: ybf c' :: cntV k'),.i .i64 0],seeX CS KS,?_,?_,⟨l1,l2,c',k',rfl⟩,rfl⟩
  ·refine ydg [] [] [] ?_;simp only[seeX,usV,cntV,allQ,live,yc,go_sem,Nat.reduceEqDiff,↓reduceIte,reduceCtorEq]
  ·simp only[seeX,usV,cntV,famCln,ygr,allQ,live,go_sem,Nat.reduceEqDiff,↓reduceIte]
def ydf(l:List Conf):SV:=.sl 1 l.length (fun i=>[ybf (l.getD i [])])
def ygl(l:List Cnt):SV:=.sl 5 l.length (fun i=>cntV (l.getD i default))
theorem ybqc(h:Checked Q1 Q2 p g){kind:Int}(hk:1<=kind/\kind<=4){res:Nat->Nat->Nat}(hd:DaemonOk kind (g.ports.map netP) res){c:Conf}(hc:yft p g c=true){ws:List Nat}(hw:∀ k,ws.getD k 0<2 ^ 32)(hwl:ws.length<=4000) :
  Returns Tryz.prog 78 [.ag (yfi Q1 Q2 p.raw),grV g,.i .i64 kind,ybf c,usV ws] (.tp [ydf (((ybk p g).runs res ws c).map (·.1)),ygl (((ybk p g).runs res ws c).map (·.2)),.i .i64 0]):=by
 refine Returns.of (ycso [130,133] _ _ ?_);have hC:=ybrg h hk hc (len:=ws.length) (by omega)
 have hN:=yyv h kind;have hX:=ybwd h (by have:=h.hg.2.2.1;rw[List.length_map];omega) hd hc hw hwl
 generalize ((ybk p g).runs res ws c).map (·.1)=CS at hX ⊢
 generalize ((ybk p g).runs res ws c).map (·.2)=KS at hX ⊢
 simp only[yfi,grV]at hC;simp only[c78,ycyg,yczc,yfi,grV,usV,go_sem,Nat.reduceEqDiff,Nat.reduceAdd,Nat.reduceLT,Nat.reduceBEq,↓reduceIte,reduceCtorEq];refine hC.use ?_;simp only[thenO,ydey,yddy,ydfk,ydas,Int.reduceBNe,go_sem,Nat.reduceEqDiff,Nat.reduceAdd,Nat.reduceLT,↓reduceIte,reduceCtorEq];refine callM_of hN [(201,14),(203,15)] 0 [3,4,14,15] [] ?_ ?_
 ·simp only[ylb,seeC,yfi,grV,to1,okN,famCln,ygr,keepF,keepO,allQ,live,yc,go_sem,Nat.reduceEqDiff,Nat.reduceAdd,↓reduceIte,reduceCtorEq]
 rintro r o' ⟨rfl,rfl⟩;simp only[ylb,ydc,yem,usV,seeC,thenM,yoj,nuF,nu,difN,keepF,keepO,Fam.ren,OB.ren,dim,yhd,ycqt,ybaj,ycqj,ybbk,yclx,ycnf,go_sem,Nat.reduceEqDiff,Nat.reduceAdd,Nat.reduceLT,Nat.reduceBEq,↓reduceIte,reduceCtorEq];simp only[ycyv,go_sem,Nat.reduceEqDiff,Nat.reduceAdd,Nat.reduceBEq,↓reduceIte,reduceCtorEq];simp only[ydc,yem,usV,seeC]at hX;refine callM_of hX [(201,14),(203,15)] 0 [14,15] [] ?_ ?_
 ·simp only[ylb,to1,okN,famCln,ygr,keepF,keepO,allQ,live,yc,go_sem,Nat.reduceEqDiff,Nat.reduceAdd,↓reduceIte,reduceCtorEq]
 rintro r o' ⟨⟨l1,l2,c',k',rfl⟩,rfl⟩;simp only[seeX,cntV,thenM,yoj,nuF,nu,difN,keepF,keepO,Fam.ren,OB.ren,dim,yhd,ybaj,ybbk,yti,yoc,go_sem,Nat.reduceEqDiff,Nat.reduceAdd,Nat.reduceLT,Nat.reduceBEq,↓reduceIte,reduceCtorEq];simp only[ycxv,ycnr,clash,Int.reduceBNe,ydf,ygl,go_sem,Nat.reduceEqDiff,Nat.reduceAdd,↓reduceIte,reduceCtorEq];exact Sim.refl _
end
end Sh
end Go.Proofs.YtiejahgklcjhkaaGreatDoor

namespace Go.Proofs.YtiejahgklcjhkaaGreatDoor
open Go
def ydo(v m:Int):Int:=if m<1 then 0 else v % m
def atP(l:List Int)(i:Nat):Int:=l.getD i 0
theorem yef{v m:Int}(h:1<=m):0<=ydo v m/\ydo v m<m:=by
 unfold ydo;rw[if_neg (by omega)]
 exact⟨Int.emod_nonneg _ (by omega),Int.emod_lt_of_pos _ (by omega)⟩
namespace Sh
open Ev Go.RowKit
set_option maxRecDepth 8000
theorem ybgm{v m:Int}(h:1<=m):(if v.tmod m<0 then v.tmod m+m else v.tmod m)=v % m:=by
 have h1:=Int.emod_add_mul_ediv v m;have h2:=Int.emod_nonneg v (show m ≠ 0 by omega)
 have h3:=Int.emod_lt_of_pos v (show 0<m by omega)
 have h4:=Int.tmod_eq_emod (a:=v) (b:=m);have h5:(m.natAbs:Int)=m:=by omega
 rw[h4]
 by_cases q:0<=v\/m ∣ v
 ·simp only[if_pos q,Int.natCast_zero,Int.sub_zero];rw[if_neg (by omega)]
 ·simp only[if_neg q,h5];rw[if_pos (by omega)]
  omega
theorem yeg(v m:Int)(hm:m<=4611686018427387904)(hv:inK .i64 v):Returns Tryz.prog 39 [.i .i64 v,.i .i64 m] (.i .i64 (ydo v m)):=by
 refine Returns.of (ycxq _ _ ?_);simp only[c39,ycyc,ycyy,ydeq,ycyw,yczm,yddg,ydam,yw,go_sem,Nat.reduceEqDiff,Nat.reduceAdd,↓reduceIte,reduceCtorEq];unfold ydo;refine⟨fun h=>by rw[if_pos h],fun h=>⟨by omega,fun h2=>?_,fun h2=>?_⟩⟩
 ·have h3:=ybgm (v:=v) (show 1<=m by omega)
  rw[if_pos h2]at h3;rw[if_neg h,h3];have h4:=Int.emod_nonneg v (show m ≠ 0 by omega)
  have h5:=Int.emod_lt_of_pos v (show 0<m by omega)
  exact⟨ikw (by omega) (by omega),rfl⟩
 ·have h3:=ybgm (v:=v) (show 1<=m by omega)
  rw[if_neg h2]at h3;rw[if_neg h,h3]
theorem at_ret(l:List Int)(i:Nat):Returns Tryz.prog 77 [yj l,.i .i64 i] (.i .i64 (atP l i)):=by
 refine Returns.of (yddl _ _ ?_);simp only[c77,ydcq,ydcf,yddk,yddj,yj,yw,go_sem,Nat.reduceEqDiff,Nat.reduceAdd,↓reduceIte,reduceCtorEq];exact⟨fun h=>⟨by omega,rfl⟩,fun h=>by unfold atP;rw[List.getD,List.getElem?_eq_none (by omega)];rfl⟩
theorem wrap32(z:Int):0<=IntKind.wrap .u32 z/\IntKind.wrap .u32 z<2 ^ 32:=by
 unfold IntKind.wrap;simp only[IntKind.signed,IntKind.bits];exact⟨Int.emod_nonneg _ (by decide),Int.emod_lt_of_pos _ (by decide)⟩
theorem yro{α:Type}(l:List α)(x d:α)(i:Nat):(l ++ [x]).getD i d=if i<l.length then l.getD i d else if i=l.length then x else d:=by
 by_cases h:i<l.length
 ·simp[List.getD,List.getElem?_append_left h,h]
 ·by_cases e:i=l.length
  ·subst e;simp[List.getD]
  ·rw[if_neg h,if_neg e,List.getD,List.getElem?_eq_none (by simp;omega)]
   rfl
theorem yua(l:List Nat)(hb:∀ k,l.getD k 0<2 ^ 32)(n:Nat)(hn:n<=1000):Ct Tryz.prog 26 [usV l,.i .i64 n] fun r=>∃ ws:List Nat,ws.length=n/\(∀ k,ws.getD k 0<2 ^ 32)/\Sim r (usV ws):=by
 refine ycyd _ _ ?_;simp only[c26,ydee,ycxs,ydet,usV,go_sem,↓reduceIte];refine ybe (σ:=List Nat) (fun ws=>⟨[(6,.i .i64 ws.length),(1,.i .i64 n),(0,usV l),(5,.os (100,0) 0 ws.length true)],[(100,.one (some ⟨40,false,1,ws.length,fun k=>[.i .u32 (ws.getD k 0:Nat)]⟩))]⟩) (fun ws=>ws.length<=n /\ ∀ k,ws.getD k 0<2 ^ 32) (fun ws=>n - ws.length) [] ⟨Nat.zero_le _,fun k=>by simp⟩ ?_ ?_
 ·refine yg [] [100] [] ?_;simp only[usV,allQ,live,yc,Int.natCast_zero,go_sem,Nat.reduceEqDiff,↓reduceIte,reduceCtorEq];exact⟨(100,0),rfl,rfl,rfl⟩
 ·rintro ws ⟨h1,h2⟩;simp only[ydda,ydbp,usV,go_sem,Nat.reduceEqDiff,Nat.reduceAdd,↓reduceIte,reduceCtorEq];refine⟨fun hlt=>⟨fun h0=>?_,fun h0=>?_⟩,fun hlt=>?_⟩
  ·simp only[ycry,ydcu,splice,go_sem,Nat.reduceEqDiff,Nat.reduceAdd,Nat.reduceLeDiff,Nat.reduceLT,↓reduceIte,reduceCtorEq];refine⟨⟨by omega,by omega⟩,ikw (by omega) (by omega),?_⟩
   refine yh (ws ++ [4294967295]) ⟨by simp;omega,fun k=>?_⟩ (by simp;omega) ?_
   ·rw[yro];split
    ·exact h2 k
    ·split<;>decide
   refine yg [(100,fun i=>(19,i))] [] [] ?_;simp only[List.length_append,allQ,live,yc,yw,go_sem,Nat.reduceEqDiff,↓reduceIte,reduceCtorEq];refine⟨by omega,fun i hi=>?_⟩
   rw[yro]
   by_cases q:i<ws.length
   ·simp only[if_pos q];simp only[live,yc,go_sem,reduceCtorEq]
   ·obtain rfl:i=ws.length:=by omega
    simp only[if_neg q,Nat.sub_self,Nat.zero_mul];simp only[live,yw,go_sem,↓reduceIte,reduceCtorEq];rfl
  ·simp only[ycyx,yczv,clash,go_sem,Nat.reduceEqDiff,Nat.reduceAdd,↓reduceIte,reduceCtorEq];have hl0:0<l.length:=by omega
   have t1:(ws.length:Int).tmod (l.length:Int)=((ws.length % l.length:Nat):Int):=(Int.ofNat_tmod _ _).symm;have t2:(ws.length:Int).tdiv (l.length:Int)=((ws.length / l.length:Nat):Int):=(Int.ofNat_tdiv _ _).symm;have t3:((ws.length / l.length:Nat):Int).tmod 24=((ws.length / l.length % 24:Nat):Int):=(Int.ofNat_tmod _ 24).symm;have hlt1:=Nat.mod_lt ws.length hl0;have hle1:=Nat.div_le_self ws.length l.length
   obtain⟨D,hD⟩:∃ D,ws.length / l.length=D:=⟨_,rfl⟩;rw[hD]at t2 t3 hle1;obtain⟨K,hK⟩:∃ K,D % 24=K:=⟨_,rfl⟩;have hK24:K<24:=by rw[<- hK];exact Nat.mod_lt _ (by decide)
   have t4:IntKind.wrap .u64 (K:Int)=K:=by unfold IntKind.wrap;simp[IntKind.bits,IntKind.signed];omega
   simp only[t1,t2,t3,hK,t4]
   generalize IntKind.wrap .u32 _=A
   refine⟨by omega,⟨by omega,by omega⟩,⟨by omega,ikw (by omega) (by omega)⟩,by decide,?_⟩
   simp only[ycry,ydfb,splice,go_sem,Nat.reduceEqDiff,Nat.reduceAdd,Nat.reduceLeDiff,Nat.reduceLT,↓reduceIte,reduceCtorEq]
   generalize hZ:IntKind.wrap .u32 ((BitVec.toNat _:Nat):Int)=Z
   have hz:0<=Z/\Z<2 ^ 32:=by rw[<- hZ];exact wrap32 _
   obtain⟨z,rfl⟩:∃ z:Nat,Z=z:=⟨Z.toNat,by omega⟩
   refine⟨⟨by omega,by show _<((32:Nat):Int);omega⟩,⟨by simp[IntKind.min,IntKind.signed];omega,by simp[IntKind.max,IntKind.bits,IntKind.signed];omega⟩,⟨by omega,by show _<((32:Nat):Int);omega⟩,⟨by omega,by omega⟩,ikw (by omega) (by omega),?_⟩
   refine yh (ws ++ [z]) ⟨by simp;omega,fun k=>?_⟩ (by simp;omega) ?_
   ·rw[yro];split
    ·exact h2 k
    ·split<;>omega
   refine yg [(100,fun i=>(46,i))] [] [] ?_;simp only[List.length_append,allQ,live,yc,yw,go_sem,Nat.reduceEqDiff,↓reduceIte,reduceCtorEq];refine⟨by omega,fun i hi=>?_⟩
   rw[yro]
   by_cases q:i<ws.length
   ·simp only[if_pos q];simp only[live,yc,go_sem,reduceCtorEq]
   ·obtain rfl:i=ws.length:=by omega
    simp only[if_neg q,Nat.sub_self,Nat.zero_mul];simp only[live,yc,go_sem,↓reduceIte,reduceCtorEq]
  ·simp only[ycct,go_sem,Nat.reduceEqDiff,Nat.reduceAdd,↓reduceIte,reduceCtorEq];exact⟨ws,by omega,h2,Sim.refl _⟩
end Sh
end Go.Proofs.YtiejahgklcjhkaaGreatDoor

namespace Go.Proofs.YtiejahgklcjhkaaGreatDoor
open Go
namespace Sh
open Ev Go.RowKit
set_option maxRecDepth 8000
def ysu(l:List Int)(k:Nat):Int:=(l.take k).foldl max 0
theorem ybwy{l:List Int}(h:∀ x ∈ l,0<=x/\x<=255):∀ k,0<=ysu l k/\ysu l k<=255:=by
 intro k;unfold ysu
 have:∀ (l:List Int) (a:Int),(∀ x ∈ l,0<=x/\x<=255)->0<=a/\a<=255->0<=l.foldl max a/\l.foldl max a<=255:=by
  intro l
  induction l with
  | nil=>intro a _ h;exact h
  | cons x l ih=>intro a hl ha;exact ih _ (fun y hy=>hl y (List.mem_cons_of_mem _ hy)) (by have:=hl x List.mem_cons_self;omega)
 exact this _ 0 (fun x hx=>h x (List.mem_of_mem_take hx)) (by omega)
theorem ybka{l:List Int}{k:Nat}(hk:k<l.length):ysu l (k+1)=max (ysu l k) (l.getD k 0):=by
 unfold ysu;rw[List.take_succ_eq_append_getElem hk,List.foldl_append,getD_at hk];rfl
theorem ybtd{l:List Int}(h:∀ x ∈ l,0<=x/\x<=255)(hl:0<l.length):ysu l l.length=maxI l:=by
 unfold ysu;rw[List.take_length];exact(ybhq hl fun x hx=>(h x hx).1).symm
theorem ylr{vars:List VarR}{b:VarR->Int × Int}{L:List Int}(h:ydr ((vars.take L.length).map b) L)(hl:L.length<vars.length){y:Int}(hy:(b (vars.getD L.length default)).1<=y/\y<=(b (vars.getD L.length default)).2):ydr ((vars.take (L ++ [y]).length).map b) (L ++ [y]):=by
 refine⟨by simp;omega,fun i c x hb hx=>?_⟩
 rw[List.length_append,List.length_singleton,List.getElem?_map]at hb;have hi:i<L.length+1:=by have:=(List.getElem?_eq_some_iff.1 hx).1;simpa using this
 rw[List.getElem?_take_of_lt hi]at hb
 by_cases q:i<L.length
 ·rw[List.getElem?_append_left q]at hx;refine h.2 i c x ?_ hx;rw[List.getElem?_map,List.getElem?_take_of_lt q];exact hb
 ·obtain rfl:i=L.length:=by omega
  rw[List.getElem?_append_right (Nat.le_refl _),Nat.sub_self]at hx;cases hx
  rw[List.getElem?_eq_getElem hl]at hb;cases hb
  rw[getD_at hl]at hy;exact hy
section
variable {p:ProgT} {g:Gr}
theorem ytj(hg:ybb g)(hp:p.ok=true)(hf:ywn p g=true){raw:List Int}(hr:∀ k,inK .i64 (raw.getD k 0)) :
  Ct Tryz.prog 24 [grV g,ycp p.vars,yj raw] fun r=>∃ c,yft p g c=true/\Sim r (ybf c):=by
 refine yddn _ _ ?_;have hid:=hg.2.2.1;have h24:=hg.2.1;have h1:=hg.1;have hids:=hg.2.2.2.1;simp only[c24,yczg,ycxr,ydbe,grV,yu,go_sem,Nat.reduceEqDiff,Nat.reduceAdd,Nat.reduceLT,↓reduceIte,reduceCtorEq];obtain⟨n,hn⟩:∃ n,g.ports.length=n:=⟨_,rfl⟩;refine ybe (σ:=Nat) (fun k=>⟨[(9,.i .i64 k),(8,.i .i64 (ysu g.ids k)),(7,.i .i64 n),(3,.pt (3,0) 0 0),(1,ycp p.vars),(2,yj raw)],[(3,.one (some ⟨27,true,2,1,fun _=>[yj g.ids,yu g.ports]⟩))]⟩) (fun k=>k<=n) (fun k=>n - k) 0 (Nat.zero_le _) ?_ ?_
 ·refine yg [] [] [] ?_;simp only[yu,hn,allQ,live,yc,yw,Int.natCast_zero,go_sem,Nat.reduceEqDiff,↓reduceIte,reduceCtorEq];rfl
 ·intro k hk;have htop:=ybwy hids k;simp only[ydab,ydcx,ydbs,ydal,ydfc,yj,go_sem,Nat.reduceEqDiff,Nat.reduceAdd,Nat.reduceLeDiff,↓reduceIte,reduceCtorEq];refine⟨fun hlt=>?_,fun hlt=>?_⟩
  ·have hs:=ybka (l:=g.ids) (k:=k) (by omega)
   refine⟨by omega,ikw (by omega) (by omega),?_⟩
   refine yh (k+1) (by omega) (by omega) ?_
   refine yg [] [] [] ?_;simp only[allQ,live,yc,yw,go_sem,Nat.reduceEqDiff,↓reduceIte,reduceCtorEq];exact⟨by omega,hs.symm⟩
  ·obtain rfl:k=n:=by omega
   have htm:ysu g.ids k=maxI g.ids:=by rw[<- hn,<- hid];exact ybtd hids (by omega)
   rw[htm]at htop ⊢;obtain⟨top,htp⟩:∃ t,maxI g.ids=t:=⟨_,rfl⟩;rw[htp]at htop ⊢;obtain⟨nv,hnv⟩:∃ k,p.vars.length=k:=⟨_,rfl⟩;have hp':=hp;unfold ProgT.ok at hp';simp only[Bool.and_eq_true,decide_eq_true_eq]at hp'
   refine ybe (σ:=Conf) (fun C=>⟨[(11,.i .i64 C.length),(10,.os (300,0) 0 C.length true),(8,.i .i64 top),(7,.i .i64 k),(3,.pt (3,0) 0 0),(1,ycp p.vars),(2,yj raw)],
    [(3,.one (some ⟨27,true,2,1,fun _=>[yj g.ids,yu g.ports]⟩)),(300,.one (some ⟨22,false,1,C.length,fun j=>[yj (C.getD j [])]⟩))]⟩)
    (fun C=>C.length<=k /\ ∀ v,v<C.length->ydr (p.vars.map (ybd g v)) (C.getD v [])) (fun C=>k - C.length) [] ⟨Nat.zero_le _,fun v hv=>absurd hv (Nat.not_lt_zero v)⟩ ?_ ?_
   ·refine yg [] [300] [] ?_;simp only[yj,yu,allQ,live,yc,Int.natCast_zero,go_sem,Nat.reduceEqDiff,Nat.reduceBEq,↓reduceIte,reduceCtorEq];exact⟨(300,0),rfl,rfl,rfl⟩
   ·rintro C ⟨hC1,hC2⟩;simp only[ydbd,ycea,ycnc,yj,go_sem,Nat.reduceEqDiff,Nat.reduceAdd,↓reduceIte,reduceCtorEq];refine⟨fun hlt=>?_,fun hlt=>?_⟩
    ·refine ybe (σ:=List Int) (fun L=>⟨[(13,.i .i64 L.length),(12,.os (301,0) 0 L.length true),(11,.i .i64 C.length),(10,.os (300,0) 0 C.length true),(8,.i .i64 top),(7,.i .i64 k),(3,.pt (3,0) 0 0),(1,ycp p.vars),(2,yj raw)],
      [(301,.one (some ⟨3,false,1,L.length,fun j=>[.i .i64 (L.getD j 0)]⟩)),(3,.one (some ⟨27,true,2,1,fun _=>[yj g.ids,yu g.ports]⟩)),(300,.one (some ⟨22,false,1,C.length,fun j=>[yj (C.getD j [])]⟩))]⟩)
      (fun L=>L.length<=nv/\ydr ((p.vars.take L.length).map (ybd g C.length)) L) (fun L=>nv - L.length) [] ⟨Nat.zero_le _,rfl,fun i b x hb=>by simp at hb⟩ ?_ ?_
     ·refine yg [] [301] [] ?_;simp only[yj,yu,allQ,live,yc,Int.natCast_zero,go_sem,Nat.reduceEqDiff,Nat.reduceBEq,↓reduceIte,reduceCtorEq];exact⟨(301,0),rfl,rfl,rfl⟩
     ·rintro L ⟨hL1,hL2⟩;obtain⟨x,hx⟩:∃ x,p.vars.getD L.length default=x:=⟨_,rfl⟩;simp only[ycge,ycih,ycoj,yj,ycp,hnv,hx,varC,clash,go_sem,Nat.reduceEqDiff,Nat.reduceAdd,Nat.reduceLeDiff,↓reduceIte,reduceCtorEq];refine⟨fun hlt2=>?_,fun hlt2=>?_⟩
      ·have hLn:L.length<p.vars.length:=by omega
       have hxm:x ∈ p.vars:=by rw[<- hx,getD_at hLn];exact List.getElem_mem _
       have hxo:=List.all_eq_true.1 hp'.1.1.2 x hxm;have hvo:=ybff hxo;obtain⟨hb1,hb2⟩:=ykq hg hxo;rw[hid,hn]at hb1;rw[htp]at hb2;have hbn:=ybgs hg hp hf hxm C.length;have hidx:(C.length:Int) * (nv:Int)+(L.length:Int)=((C.length * nv+L.length:Nat):Int):=by push_cast;rfl
       have hdeg:=hg.deg_lt (v:=C.length);have hmi:(C.length:Int) * (nv:Int)=((C.length * nv:Nat):Int):=by push_cast;rfl
       have hmul:C.length * nv<=24 * 6:=Nat.mul_le_mul (by omega) (by omega)
       have hAt:=at_ret raw (C.length * nv+L.length);have hav:inK .i64 (atP raw (C.length * nv+L.length)):=hr _;simp only[yj]at hAt;refine⟨by omega,by omega,by omega,ikw (by omega) (by omega),ikw (by omega) (by omega),by omega,ikw (by omega) (by omega),ikw (by omega) (by omega),by omega,?_⟩
       rcases hvo.1 with hkk | hkk | hkk
       ·have hbt:ybd g C.length x=(x.lo,x.hi+x.perNode * (k:Int)+x.perID * top):=by
         unfold ybd;rw[if_pos hkk,hid,hn,htp]
        rw[hbt]at hbn;simp only[]at hbn;simp only[hkk];simp only[ybhh,ybgj,ybhc,ybgr,ybfs,clash,Int.reduceBEq,hidx,go_sem,Nat.reduceEqDiff,Nat.reduceAdd,↓reduceIte,reduceCtorEq];refine⟨by rw[hmi];exact ikw (by omega) (by omega),ikw (by omega) (by omega),hAt.use ?_⟩
        simp only[thenO,go_sem,Nat.reduceEqDiff,Nat.reduceAdd,Nat.reduceLT,↓reduceIte,reduceCtorEq];have hW:=yeg (atP raw (C.length * nv+L.length)) (x.hi+x.perNode * (k:Int)+x.perID * top - (x.lo)+1) (by omega) hav
        obtain⟨w1,w2⟩:=yef (v:=atP raw (C.length * nv+L.length)) (m:=x.hi+x.perNode * (k:Int)+x.perID * top - (x.lo)+1) (by omega)
        generalize ydo (atP raw (C.length * nv+L.length)) (x.hi+x.perNode * (k:Int)+x.perID * top - (x.lo)+1)=W at hW w1 w2
        refine⟨ikw (by omega) (by omega),ikw (by omega) (by omega),hW.use ?_⟩
        simp only[ybga,go_sem,Nat.reduceEqDiff,Nat.reduceAdd,Nat.reduceLeDiff,↓reduceIte,reduceCtorEq];refine⟨ikw (by omega) (by omega),⟨by omega,by omega⟩,ikw (by omega) (by omega),?_⟩
        refine yh (L ++ [x.lo+W]) ⟨by simp;omega,ylr hL2 hLn (by rw[hx,hbt];exact⟨by simp only[];omega,by simp only[];omega⟩)⟩ (by simp;omega) ?_
        refine yg [(301,fun i=>(101,i))] [] [] ?_;simp only[yu,yba,hn,List.length_append,allQ,live,yc,yw,go_sem,Nat.reduceEqDiff,↓reduceIte,reduceCtorEq];refine⟨by omega,fun i hi=>?_⟩
        rw[yro]
        by_cases q:i<L.length
        ·simp only[if_pos q];simp only[live,yc,go_sem,reduceCtorEq]
        ·obtain rfl:i=L.length:=by omega
         simp only[if_neg q,Nat.sub_self,Nat.zero_mul];simp only[live,yc,go_sem,↓reduceIte,reduceCtorEq]
       ·have hbt:ybd g C.length x=(0,1):=by
         unfold ybd;rw[if_neg (by omega),if_pos hkk]
        rw[hbt]at hbn;simp only[]at hbn;simp only[hkk];simp only[ybhh,ybgj,ybhc,ybgr,ybfs,clash,hidx,go_sem,Nat.reduceEqDiff,Nat.reduceAdd,↓reduceIte,reduceCtorEq];refine⟨by rw[hmi];exact ikw (by omega) (by omega),ikw (by omega) (by omega),hAt.use ?_⟩
        simp only[thenO,go_sem,Nat.reduceEqDiff,Nat.reduceAdd,Nat.reduceLT,↓reduceIte,reduceCtorEq];have hW:=yeg (atP raw (C.length * nv+L.length)) (1 - (0)+1) (by omega) hav
        obtain⟨w1,w2⟩:=yef (v:=atP raw (C.length * nv+L.length)) (m:=1 - (0)+1) (by omega)
        generalize ydo (atP raw (C.length * nv+L.length)) (1 - (0)+1)=W at hW w1 w2
        refine⟨ikw (by omega) (by omega),ikw (by omega) (by omega),hW.use ?_⟩
        simp only[ybga,go_sem,Nat.reduceEqDiff,Nat.reduceAdd,Nat.reduceLeDiff,↓reduceIte,reduceCtorEq];refine⟨ikw (by omega) (by omega),⟨by omega,by omega⟩,ikw (by omega) (by omega),?_⟩
        refine yh (L ++ [0+W]) ⟨by simp;omega,ylr hL2 hLn (by rw[hx,hbt];exact⟨by simp only[];omega,by simp only[];omega⟩)⟩ (by simp;omega) ?_
        refine yg [(301,fun i=>(101,i))] [] [] ?_;simp only[yu,yba,hn,List.length_append,allQ,live,yc,yw,go_sem,Nat.reduceEqDiff,↓reduceIte,reduceCtorEq];refine⟨by omega,fun i hi=>?_⟩
        rw[yro]
        by_cases q:i<L.length
        ·simp only[if_pos q];simp only[live,yc,go_sem,reduceCtorEq]
        ·obtain rfl:i=L.length:=by omega
         simp only[if_neg q,Nat.sub_self,Nat.zero_mul];simp only[live,yc,go_sem,↓reduceIte,reduceCtorEq]
       ·have hbt:ybd g C.length x=(-1,((g.ports.getD C.length []).length:Int) - 1):=by
         unfold ybd;rw[if_neg (by omega),if_neg (by omega),if_pos hkk]
        rw[hbt]at hbn;simp only[]at hbn;simp only[hkk];simp only[ybhh,ybgj,ybhc,ybgr,ybfs,clash,Int.reduceBEq,hidx,yu,yba,hn,go_sem,Nat.reduceEqDiff,Nat.reduceAdd,↓reduceIte,reduceCtorEq];refine⟨by omega,ikw (by omega) (by omega),by rw[hmi];exact ikw (by omega) (by omega),ikw (by omega) (by omega),hAt.use ?_⟩
        simp only[thenO,go_sem,Nat.reduceEqDiff,Nat.reduceAdd,Nat.reduceLT,↓reduceIte,reduceCtorEq];have hW:=yeg (atP raw (C.length * nv+L.length)) (((g.ports.getD C.length []).length:Int) - 1 - (-1)+1) (by omega) hav
        obtain⟨w1,w2⟩:=yef (v:=atP raw (C.length * nv+L.length)) (m:=((g.ports.getD C.length []).length:Int) - 1 - (-1)+1) (by omega)
        generalize ydo (atP raw (C.length * nv+L.length)) (((g.ports.getD C.length []).length:Int) - 1 - (-1)+1)=W at hW w1 w2
        refine⟨ikw (by omega) (by omega),ikw (by omega) (by omega),hW.use ?_⟩
        simp only[ybga,go_sem,Nat.reduceEqDiff,Nat.reduceAdd,Nat.reduceLeDiff,↓reduceIte,reduceCtorEq];refine⟨ikw (by omega) (by omega),⟨by omega,by omega⟩,ikw (by omega) (by omega),?_⟩
        refine yh (L ++ [-1+W]) ⟨by simp;omega,ylr hL2 hLn (by rw[hx,hbt];exact⟨by simp only[];omega,by simp only[];omega⟩)⟩ (by simp;omega) ?_
        refine yg [(301,fun i=>(101,i))] [] [] ?_;simp only[List.length_append,allQ,live,yc,yw,go_sem,Nat.reduceEqDiff,↓reduceIte,reduceCtorEq];refine⟨by omega,fun i hi=>?_⟩
        rw[yro]
        by_cases q:i<L.length
        ·simp only[if_pos q];simp only[live,yc,go_sem,reduceCtorEq]
        ·obtain rfl:i=L.length:=by omega
         simp only[if_neg q,Nat.sub_self,Nat.zero_mul];simp only[live,yc,go_sem,↓reduceIte,reduceCtorEq]
      ·have hLe:L.length=nv:=by omega
       rw[hLe,<- hnv,List.take_length]at hL2;simp only[ydec,ycji,splice,go_sem,Nat.reduceEqDiff,Nat.reduceAdd,Nat.reduceLeDiff,Nat.reduceLT,↓reduceIte,reduceCtorEq];refine⟨⟨by omega,by omega⟩,ikw (by omega) (by omega),?_⟩
       refine yh (C ++ [L]) ⟨by simp;omega,fun v hv=>?_⟩ (by simp;omega) ?_
       ·rw[yro];split
        ·exact hC2 v (by assumption)
        ·have:v=C.length:=by simp at hv;omega
         subst this;rw[if_pos rfl];exact hL2
       refine yg [(300,fun i=>(105,i))] [] [(301,0)] ?_;simp only[yu,yba,hn,List.length_append,allQ,live,yc,yw,go_sem,Nat.reduceEqDiff,Nat.reduceLeDiff,↓reduceIte,reduceCtorEq];refine⟨by omega,fun i hi=>?_⟩
       have e:=yro C L [] i;rw[e]
       by_cases q:i<C.length
       ·simp only[if_pos q];simp only[go_sem,live,yc,go_sem,reduceCtorEq]
       ·obtain rfl:i=C.length:=by omega
        simp only[if_neg q,Nat.sub_self,Nat.zero_mul,if_true];simp only[go_sem,live,yc,go_sem,Nat.reduceEqDiff,↓reduceIte,reduceCtorEq]
    ·simp only[ycjv,go_sem,Nat.reduceEqDiff,Nat.reduceAdd,↓reduceIte,reduceCtorEq];refine⟨C,(ydy _ _ _).2 ⟨by omega,fun v st hst=>?_⟩,Sim.refl _⟩
     have hv:=(List.getElem?_eq_some_iff.1 hst).1;have:=hC2 v hv
     rwa [List.getD,hst]at this
end
end Sh
end Go.Proofs.YtiejahgklcjhkaaGreatDoor

namespace Go.Proofs.YtiejahgklcjhkaaGreatDoor
open Go
namespace Sh
open Ev Go.RowKit
set_option maxRecDepth 8000
def blV(l:List Bool):SV:=.sl 1 l.length (fun k=>[.b (l.getD k false)])
def ybxx(l:List Bool)(k:Nat):Bool:=(l.take k).any id
structure HeldOk(legit:List Bool)(ks:List Cnt)(rounds moves:Int)(ended:Bool):Prop where
 len:legit.length=ks.length
 pos:0<legit.length
 stays:∀ i,i<legit.length->ybxx legit i=true->legit.getD i false=true
 rounds:∀ i,i<legit.length->ybxx legit (i+1)=false->((ks.getD i default).begun:Int)<=rounds
 moves:∀ i,i<legit.length->ybxx legit (i+1)=false->0<=moves->((ks.getD i default).moves:Int)<=moves
 ends:ybxx legit legit.length=true\/ended=false
theorem ybrv{Q1 Q2:(Nat->Option ABlk)->Value->Prop}{p:ProgT}{g:Gr}{t:ByteArray}(hpr:Returns Tryz.prog 37 [.a (.string t)] (.ag (yfi Q1 Q2 p.raw)))(h:Checked Q1 Q2 p g){kind:Int}(hk:1<=kind/\kind<=4){res:Nat->Nat->Nat}(hd:DaemonOk kind (g.ports.map netP) res){c:Conf}(hc:yft p g c=true){ws:List Nat}(hw:∀ k,ws.getD k 0<2 ^ 32)(hwl:ws.length<=4000) :
  Returns Tryz.prog 22 [.a (.string t),grV g,.i .i64 kind,ybf c,usV ws] (.tp [ydf (((ybk p g).runs res ws c).map (·.1)),ygl (((ybk p g).runs res ws c).map (·.2)),.b true]):=by
 refine Returns.of (ydel _ _ ?_);have hX:=ybqc h hk hd hc hw hwl;obtain⟨R,hR⟩:∃ R,(ybk p g).runs res ws c=R:=⟨_,rfl⟩;rw[hR]at hX ⊢;have hRl:0<R.length:=by rw[<- hR];simp[Sys.runs]
 obtain⟨m,hm⟩:∃ m,R.length=m:=⟨_,rfl⟩;rw[hm]at hRl;have f1:((m:Int) == (m:Int))=true:=by simp
 have f2:decide ((m:Int) > 0)=true:=by simp;omega
 simp only[yfi]at hpr hX;simp only[grV,usV,ydf,ygl,List.length_map,hm]at hX;simp only[c22,ydfd,yddz,grV,usV,clash,go_sem,Nat.reduceAdd,Nat.reduceLT,↓reduceIte,reduceCtorEq];refine hpr.use ?_;simp only[thenO,clash,go_sem,Nat.reduceEqDiff,Nat.reduceAdd,↓reduceIte,reduceCtorEq];refine hX.use ?_;simp(maxSteps:=5000000) only [yczr,clash,f1,f2,go_sem,Nat.reduceEqDiff,Nat.reduceAdd,↓reduceIte,reduceCtorEq]
 refine⟨by decide,?_⟩
 unfold ydf ygl;rw[List.length_map,List.length_map,hm];exact Sim.refl _
end Sh
end Go.Proofs.YtiejahgklcjhkaaGreatDoor

namespace Go.Proofs.YtiejahgklcjhkaaGreatDoor
open Go
namespace Sh
open Ev Go.RowKit
set_option maxRecDepth 8000
theorem ybzh{n nv:Nat}{c:Conf}(h:ConfIn n nv c):ybnb c:=fun s hs x hx=>by
 have:=(h.row s hs).2 x hx;unfold InB at this;exact ydx (by omega)
end Sh
end Go.Proofs.YtiejahgklcjhkaaGreatDoor

namespace Go.Proofs.YtiejahgklcjhkaaGreatDoor
namespace Sh
open Go Ev
end Sh
end Go.Proofs.YtiejahgklcjhkaaGreatDoor

namespace Go.Proofs.YtiejahgklcjhkaaGreatDoor
open Go
namespace Sh
open Ev Go.RowKit
set_option maxRecDepth 8000
theorem ybis{g:Gr}(hI:GrI g):Returns Tryz.prog 85 [grV g] (.b (ycb g)):=by
 refine yuc ⟨_,_,Tryz.func85,rfl⟩ (fun _=>.b) (fun _=>.simple rfl) fun G m us hG hr φ M w us' hRl hs hv=>?_;obtain⟨u,rfl,h1⟩:=rvl1 hr;obtain⟨u',rfl,h2⟩:=yey hv;exact yfw u' g w (ybvn hG h1 h2 hRl hs hI)
theorem yto{R:List Int}{x:Int}{ls:List (Int × Int)}{i:Nat}(hi:i<ls.length):yjb R x (ls.take (i+1))=(yjb R x (ls.take i) || decide (R[(ls.getD i (0,0)).1.toNat]? = some x)):=by
 unfold yjb;rw[List.take_succ_eq_append_getElem hi,List.any_append,getD_at hi];simp
end Sh
end Go.Proofs.YtiejahgklcjhkaaGreatDoor

namespace Go.Proofs.YtiejahgklcjhkaaGreatDoor
structure Tgt(S:Sys)(V:Conf->Prop)(T:Conf->Nat->List Int):Prop where
 valid:∀ c s,V c->s ≠ 0->subB s (S.en c)->V (S.mv c s)
 stay:∀ c s v,V c->v<S.n->s.testBit v=false->(S.mv c s).getD v []=c.getD v []
 move:∀ c s v,V c->v<S.n->s.testBit v=true->subB s (S.en c)->(S.mv c s).getD v []=T c v
 en:∀ c v,V c->v<S.n->((S.en c).testBit v=false ↔ c.getD v []=T c v)
theorem Tgt.rounds{S:Sys}{V:Conf->Prop}{T:Conf->Nat->List Int}(h:Tgt S V T){P:Nat->Nat->List Int->Prop}(hT:∀ c v r,V c->v<S.n->(∀ u,u<S.n->P r u (c.getD u []))->P (r+1) v (T c v))(hl:∀ r v s,P (r+1) v s->P r v s):ByRounds S V P where
 valid:=h.valid
 stay:=h.stay
 move:=fun c s v r hv hn hb hs hall=>by rw[h.move c s v hv hn hb hs];exact hT c v r hv hn hall
 rest:=fun c v r hv hn hb hall=>by rw[(h.en c v hv hn).1 hb];exact hT c v r hv hn hall
 less:=hl
theorem Tgt.silent{S:Sys}{V:Conf->Prop}{T:Conf->Nat->List Int}(h:Tgt S V T){P:Nat->Nat->List Int->Prop}(hT:∀ c v r,V c->v<S.n->(∀ u,u<S.n->P r u (c.getD u []))->P (r+1) v (T c v)){c:Conf}(hv:V c)(h0:∀ v,v<S.n->P 0 v (c.getD v []))(he:S.en c=0):∀ r v,v<S.n->P r v (c.getD v [])
 | 0,v,hn=>h0 v hn
 | r+1,v,hn=>by
  rw[(h.en c v hv hn).1 (by rw[he];simp)]
  exact hT c v r hv hn (Tgt.silent h hT hv h0 he r)
theorem Tgt.en_zero{S:Sys}{V:Conf->Prop}{T:Conf->Nat->List Int}(h:Tgt S V T){c:Conf}(hv:V c)(hlt:S.en c<2 ^ S.n)(ht:∀ v,v<S.n->c.getD v []=T c v):S.en c=0:=by
 rw[ycl];intro i
 by_cases hi:i<S.n
 ·exact(h.en c i hv hi).2 (ht i hi)
 ·exact Nat.testBit_lt_two_pow (Nat.lt_of_lt_of_le hlt (Nat.pow_le_pow_right (by omega) (by omega)))
theorem Sys.run_last{S:Sys}{res:Nat->Nat->Nat}:∀ (ws:List Nat) (c:Conf) (k:Cnt) (i:Nat),i+1<(S.run res ws c k).length -> ∀ p,(S.run res ws c k)[i]? = some p->S.en p.1 ≠ 0
 | [],c,k,i,h,p,hp=>by simp[Sys.run]at h
 | w :: ws,c,k,i,h,p,hp=>by
  unfold Sys.run at h hp;split at h
  ·simp at h
  ·rename_i h0
   rw[if_neg h0]at hp;cases i with
   | zero =>
    simp only[List.getElem?_cons_zero]at hp;cases hp
    simp only[List.length_cons]at h;cases ws with
    | nil=>simp[Sys.run]at h
    | cons w' ws =>
     unfold Sys.run at h;split at h
     ·simp at h
     ·assumption
   | succ i=>exact Sys.run_last ws _ _ i (by simpa using h) p (by simpa using hp)
theorem Sys.runs_last{S:Sys}{res:Nat->Nat->Nat}{ws:List Nat}{c:Conf}{i:Nat}(h:i+1<(S.runs res ws c).length){p:Conf × Cnt}(hp:(S.runs res ws c)[i]? = some p):S.en p.1 ≠ 0:=by
 unfold Sys.runs at h hp;cases i with
 | zero =>
  simp only[List.getElem?_cons_zero]at hp;cases hp
  cases ws with
  | nil=>simp[Sys.run]at h
  | cons w ws =>
   unfold Sys.run at h;split at h
   ·simp at h
   ·assumption
 | succ i=>exact Sys.run_last ws _ _ i (by simpa using h) p (by simpa using hp)
end Go.Proofs.YtiejahgklcjhkaaGreatDoor

namespace Go.Proofs.YtiejahgklcjhkaaGreatDoor
open Go.RowKit

end Go.Proofs.YtiejahgklcjhkaaGreatDoor

namespace Go.Proofs.YtiejahgklcjhkaaGreatDoor
def ygd(g:Gr):Nat:=(g.ports.map List.length).sum
def addL(back:Bool)(l:List (Int × Int))(x:Int × Int):List (Int × Int):=if back then x :: l else l ++ [x]
theorem ydl{back:Bool}{l:List (Int × Int)}{x y:Int × Int}:y ∈ addL back l x ↔ y=x\/y ∈ l:=by
 unfold addL;cases back<;>simp[or_comm]
def ybt(back:Bool)(g:Gr)(a b:Nat)(w:Int):Gr:=⟨g.ids,(g.ports.set a (addL back (g.ports.getD a []) (b,w))).set b (addL back (g.ports.getD b []) (a,w))⟩
theorem ycx(back:Bool)(g:Gr){a b:Nat}(w:Int)(ha:a<g.ports.length)(hb:b<g.ports.length)(v:Nat) :
  (ybt back g a b w).ports.getD v []=if v=b then addL back (g.ports.getD b []) (a,w)else if v=a then addL back (g.ports.getD a []) (b,w)else g.ports.getD v []:=by
 unfold ybt;simp only[List.getD]
 by_cases h1:v=b
 ·subst h1;rw[if_pos rfl,List.getElem?_set_self (by simpa using hb)]
  rfl
 ·rw[if_neg h1,List.getElem?_set_ne (fun q=>h1 q.symm)]
  by_cases h2:v=a
  ·subst h2;rw[if_pos rfl,List.getElem?_set_self ha];rfl
  ·rw[if_neg h2,List.getElem?_set_ne (fun q=>h2 q.symm)]
theorem yns{back:Bool}{l:List (Int × Int)}{v n:Int}{x:Int × Int}(h:ybq l v n)(hx:ygz v n x)(hno:∀ y ∈ l,y.1 ≠ x.1):ybq (addL back l x) v n:=by
 refine⟨fun y hy=>?_,?_⟩
 ·rcases ydl.1 hy with rfl | hy
  ·exact hx
  ·exact h.1 y hy
 ·have hn:x.1 ∉ l.map (·.1):=fun hm=>by
   obtain⟨y,hy,e⟩:=List.mem_map.1 hm;exact hno y hy e
  unfold addL;cases back
  ·simp only[Bool.false_eq_true,if_false,List.map_append,List.map_cons,List.map_nil];rw[List.nodup_append];refine⟨h.2,by simp,fun p hp q hq=>?_⟩
   rw[List.mem_singleton]at hq;subst hq;intro e;exact hn (e ▸ hp)
  ·simp only[if_true,List.map_cons];exact List.nodup_cons.2 ⟨hn,h.2⟩
theorem yxz{back:Bool}{g:Gr}(hg:ybb g){a b:Nat}{w:Int}(ha:a<g.ports.length)(hb:b<g.ports.length)(hab:a ≠ b)(hw:1<=w/\w<=15)(hno:∀ y ∈ g.ports.getD a [],y.1 ≠ (b:Int)):ybb (ybt back g a b w):=by
 obtain⟨h1,h2,h3,h4,h5,h6,h7⟩:=hg;have hlen:(ybt back g a b w).ports.length=g.ports.length:=by simp[ybt]
 have gd:∀ (v:Nat) (hv:v<g.ports.length),g.ports.getD v []=g.ports[v]:=fun v hv=>by simp[List.getD,hv]
 have hno2:∀ y ∈ g.ports.getD b [],y.1 ≠ (a:Int):=fun y hy e=>by
  rw[gd b hb]at hy;have:=h7 ⟨b,hb⟩ y hy;rw[e,Int.toNat_natCast]at this;exact hno _ this rfl
 have at_:∀ (v:Nat) (hv:v<g.ports.length),(ybt back g a b w).ports[v]'(by rw[hlen];exact hv)=if v=b then addL back (g.ports.getD b []) (a,w)else if v=a then addL back (g.ports.getD a []) (b,w)else g.ports.getD v []:=fun v hv=>by
  rw[<- ycx back g w ha hb v];simp[List.getD,hlen,hv]
 refine⟨by rw[hlen];exact h1,by rw[hlen];exact h2,by rw[hlen];exact h3,h4,h5,fun v=>?_,fun v l hl=>?_⟩
 ·have hv:v.1<g.ports.length:=Nat.lt_of_lt_of_eq v.isLt hlen;have hl':(((ybt back g a b w).ports.length:Nat):Int)=(g.ports.length:Int):=by rw[hlen]
  rw[hl'];show ybq ((ybt back g a b w).ports[v.1]) _ _;rw[at_ v.1 hv];split
  ·rename_i e
   rw[e];refine yns ?_ ⟨by simp only[];omega,by simp only[];omega,by simp only[];omega,hw.1,hw.2⟩ hno2
   rw[gd b hb];exact h6 ⟨b,hb⟩
  ·split
   ·rename_i e
    rw[e];refine yns ?_ ⟨by simp only[];omega,by simp only[];omega,by simp only[];omega,hw.1,hw.2⟩ hno
    rw[gd a ha];exact h6 ⟨a,ha⟩
   ·rw[gd v.1 hv];exact h6 ⟨v.1,hv⟩
 ·have hv:v.1<g.ports.length:=Nat.lt_of_lt_of_eq v.isLt hlen
  change l ∈ (ybt back g a b w).ports[v.1]at hl
  rw[at_ v.1 hv]at hl
  have old:∀ u x,x ∈ g.ports.getD u []->x ∈ (ybt back g a b w).ports.getD u []:=fun u x hx=>by
   rw[ycx back g w ha hb u];split
   ·rename_i e;subst e;exact ydl.2 (.inr hx)
   ·split
    ·rename_i e;subst e;exact ydl.2 (.inr hx)
    ·exact hx
  have sym:∀ (u:Nat) (hu:u<g.ports.length),l ∈ g.ports.getD u []->((u:Int),l.2) ∈ (ybt back g a b w).ports.getD l.1.toNat []:=fun u hu hx=>by
   rw[gd u hu]at hx;exact old _ _ (h7 ⟨u,hu⟩ l hx)
  split at hl
  ·rename_i e
   rcases ydl.1 hl with rfl | hl
   ·rw[ycx back g w ha hb,e];simp only[Int.toNat_natCast];simp only[if_neg hab,if_true];exact ydl.2 (.inl rfl)
   ·rw[e];exact sym b hb hl
  ·split at hl
   ·rename_i e
    rcases ydl.1 hl with rfl | hl
    ·rw[ycx back g w ha hb,e];simp only[Int.toNat_natCast];simp only[if_true];exact ydl.2 (.inl rfl)
    ·rw[e];exact sym a ha hl
   ·exact sym v.1 hv hl
end Go.Proofs.YtiejahgklcjhkaaGreatDoor

namespace Go.Proofs.YtiejahgklcjhkaaGreatDoor
def Tre(g:Gr)(m:Nat):Prop:=∀ v,0<v->v<m -> ∃ u,u<v/\adj g u v
theorem Tre.walk{g:Gr}{m:Nat}(h:Tre g m):∀ v,v<m -> ∃ k,Walk g 0 k v:=by
 intro v
 induction v using Nat.strongRecOn with
 | _ v ih =>
  intro hv
  by_cases h0:v=0
  ·subst h0;exact⟨0,rfl⟩
  ·obtain⟨u,hu,ha⟩:=h v (by omega) hv
   obtain⟨k,hk⟩:=ih u hu (by omega)
   exact⟨k+1,u,hk,ha⟩
theorem Tre.conn{g:Gr}(hg:ybb g)(h:Tre g g.ports.length):yee g=true:=by
 unfold yee;rw[(ycm g).2 hg,Bool.true_and,ybcj hg (a:=0) (by have:=hg.1;omega)]
 exact h.walk
theorem yjv{g:Gr}{u v:Nat}:adj g u v ↔ ∃ l,l ∈ g.ports.getD u []/\l.1=(v:Int):=by
 constructor
 ·rintro⟨ls,h,l,hl,e⟩;exact⟨l,by simpa [List.getD,h]using hl,e⟩
 ·rintro⟨l,hl,e⟩;cases h:g.ports[u]? with
  | none=>simp[List.getD,h]at hl
  | some ls=>exact⟨ls,h,l,by simpa [List.getD,h]using hl,e⟩
theorem ybcu{back:Bool}{g:Gr}{a b:Nat}{w:Int}(ha:a<g.ports.length)(hb:b<g.ports.length){u v:Nat}(h:adj g u v):adj (ybt back g a b w) u v:=by
 obtain⟨l,hl,e⟩:=yjv.1 h;refine yjv.2 ⟨l,?_,e⟩;rw[ycx back g w ha hb u];split
 ·rename_i q;subst q;exact ydl.2 (.inr hl)
 ·split
  ·rename_i q;subst q;exact ydl.2 (.inr hl)
  ·exact hl
theorem ybcl{back:Bool}{g:Gr}{a b:Nat}{w:Int}(ha:a<g.ports.length)(hb:b<g.ports.length)(hab:a ≠ b):adj (ybt back g a b w) a b:=by
 refine yjv.2 ⟨((b:Int),w),?_,rfl⟩;rw[ycx back g w ha hb a,if_neg hab,if_pos rfl];exact ydl.2 (.inl rfl)
theorem Tre.add{back:Bool}{g:Gr}{a b:Nat}{w:Int}(ha:a<g.ports.length)(hb:b<g.ports.length){m:Nat}(h:Tre g m):Tre (ybt back g a b w) m:=fun v h0 hv=>by
 obtain⟨u,hu,hadj⟩:=h v h0 hv;exact⟨u,hu,ybcu ha hb hadj⟩
def bare(ids:List Int):Gr:=⟨ids,List.replicate ids.length []⟩
theorem ybnw{ids:List Int}(h1:1<=ids.length)(h2:ids.length<=24)(h3:∀ x ∈ ids,0<=x/\x<=255)(h4:ids.Nodup):ybb (bare ids):=by
 have e:∀ v:Fin (bare ids).ports.length,(bare ids).ports[v] = []:=fun v=>by
  have hv:v.1<ids.length:=by have:=v.isLt;simpa [bare]using this
  show(List.replicate ids.length ([]:List (Int × Int)))[v.1]'(by simpa using hv) = []
  exact List.getElem_replicate ..
 refine⟨by simpa [bare]using h1,by simpa [bare]using h2,by simp[bare],h3,h4,fun v=>?_,fun v l hl=>?_⟩
 ·rw[e v];exact⟨fun l hl=>(nomatch hl),List.nodup_nil⟩
 ·rw[e v]at hl;cases hl
end Go.Proofs.YtiejahgklcjhkaaGreatDoor

namespace Go.Proofs.YtiejahgklcjhkaaGreatDoor
abbrev eNum(k:Int):Ex:=.leaf 1 k
abbrev eVar(k:Int):Ex:=.leaf 5 k
abbrev eN:Ex:=.leaf 6 0
abbrev eQ(k:Int):Ex:=.leaf 12 k

theorem ybvr{α:Type}(g:Gr)(v:Nat)(f:Int × Int->α)(h:Nat->α)(e:∀ q,q<(g.ports.getD v []).length->h q=f ((g.ports.getD v []).getD q (0,0))):(List.range (g.ports.getD v []).length).map h=(g.ports.getD v []).map f:=by
 refine List.ext_getElem (by simp) fun i h1 h2=>?_
 have hi:i<(g.ports.getD v []).length:=by simpa using h1
 rw[List.getElem_map,List.getElem_range,List.getElem_map,e i hi];congr 1;rw[List.getD_eq_getElem?_getD,List.getElem?_eq_getElem hi];rfl
def endP(c:Conf)(k:Nat)(l:Int × Int):Int:=(c.getD l.1.toNat []).getD k 0
theorem ybsg(b:Bool):(yen b != 0)=b:=by cases b<;>rfl
section
variable {nm nd np nt nl:ByteArray} {g:Gr} {c:Conf} {v:Nat}
theorem bT1{x:ByteArray}:ybd g v ⟨x,1,0,0,1,0⟩=(0,0+1 * (g.ids.length:Int)+0 * maxI g.ids):=by
 show(if (1:Int)=1 then _ else _)=_
 rw[if_pos rfl]
end
end Go.Proofs.YtiejahgklcjhkaaGreatDoor

namespace Go.Proofs.YtiejahgklcjhkaaGreatDoor
section
variable {g:Gr} {a v:Nat}
theorem ydu(hg:ybb g)(hc:yee g=true)(ha:a<g.ports.length)(hv:v<g.ports.length):∃ k:Nat,(ybl g a).getD v 0=k/\Walk g a k v/\(∀ j,j<k -> ¬ Walk g a j v)/\k<g.ports.length:=by
 have h0:0<g.ports.length:=by omega
 have hall:(ybl g a).all (fun x=>decide (0<=x))=true:=yvo hg h0 ha ((Bool.and_eq_true _ _ ▸ hc).2);have hl:=yih hg ha;have hvl:v<(ybl g a).length:=by rw[hl];exact hv
 have e:(ybl g a).getD v 0=(ybl g a)[v]:=by simp[List.getD,hvl]
 have hpos:0<=(ybl g a)[v]:=by simpa using List.all_eq_true.1 hall _ (List.getElem_mem hvl)
 rcases(yev hg ha).2 v _ (List.getElem?_eq_getElem hvl)with⟨h,_⟩ | ⟨k,h1,h2,h3⟩
 ·omega
 ·exact⟨k,by rw[e,h1],h2,h3,yvt hg ha h2 h3⟩
theorem yctp{k:Nat}(hg:ybb g)(hc:yee g=true)(ha:a<g.ports.length)(hv:v<g.ports.length)(h1:Walk g a k v)(h2:∀ j,j<k -> ¬ Walk g a j v):(ybl g a).getD v 0=k:=by
 obtain⟨j,e,h3,h4,_⟩:=ydu hg hc ha hv;rcases Nat.lt_trichotomy j k with h | h | h
 ·exact absurd h3 (h2 j h)
 ·rw[e,h]
 ·exact absurd h1 (h4 k h)
theorem ybpo(hg:ybb g)(hc:yee g=true)(ha:a<g.ports.length):(ybl g a).getD a 0=0:=yctp hg hc ha ha (k:=0) rfl fun j hj=>by omega
theorem ybpc(hg:ybb g)(hc:yee g=true)(ha:a<g.ports.length)(hv:v<g.ports.length):0<=(ybl g a).getD v 0/\(ybl g a).getD v 0<g.ports.length:=by
 obtain⟨k,e,_,_,h⟩:=ydu hg hc ha hv;omega
theorem ybxm(hg:ybb g)(hc:yee g=true)(ha:a<g.ports.length)(hv:v<g.ports.length)(hne:v ≠ a):1<=(ybl g a).getD v 0:=by
 obtain⟨k,e,h1,_,_⟩:=ydu hg hc ha hv;cases k with
 | zero=>exact absurd h1 hne
 | succ k=>omega
theorem ybwt(hg:ybb g)(hc:yee g=true)(ha:a<g.ports.length){u:Nat}(h:adj g u v):(ybl g a).getD v 0<=(ybl g a).getD u 0+1:=by
 obtain⟨hu,hv⟩:=hg.adj_lt h;obtain⟨k,e,h1,_,_⟩:=ydu hg hc ha hu;obtain⟨j,e',_,h3,_⟩:=ydu hg hc ha hv;rw[e,e'];rcases Nat.lt_or_ge (k+1) j with q | q
 ·exact absurd ⟨u,h1,h⟩ (h3 (k+1) q)
 ·omega
theorem yze(hg:ybb g)(hc:yee g=true)(ha:a<g.ports.length)(hv:v<g.ports.length)(hne:v ≠ a):∃ u,adj g v u/\(ybl g a).getD u 0=(ybl g a).getD v 0 - 1:=by
 obtain⟨k,e,h1,h2,_⟩:=ydu hg hc ha hv;cases k with
 | zero=>exact absurd h1 hne
 | succ k =>
  obtain⟨u,h3,h4⟩:=h1;refine⟨u,hg.adj_symm h4,?_⟩;have h5:=ybwt hg hc ha h4;obtain⟨hu,_⟩:=hg.adj_lt h4;obtain⟨j,e',_,h6,_⟩:=ydu hg hc ha hu;rw[e,e']at h5;rcases Nat.lt_or_ge k j with q | q
  ·exact absurd h3 (h6 k q)
  ·rw[e,e'];omega
theorem yco{l:Int × Int}(hg:ybb g)(hv:v<g.ports.length)(hl:l ∈ g.ports.getD v []):0<=l.1/\l.1.toNat<g.ports.length/\adj g v l.1.toNat/\1<=l.2/\l.2<=15:=by
 have e:g.ports[v]? = some (g.ports.getD v []):=by simp[List.getD,hv]
 have h:=hg.link e hl;exact⟨h.1,by omega,⟨_,e,l,hl,by omega⟩,h.2.2.2.1,h.2.2.2.2⟩
theorem yhs{u:Nat}(h:adj g v u):∃ l ∈ g.ports.getD v [],l.1.toNat=u:=by
 obtain⟨l,hl,e⟩:=yjv.1 h;exact⟨l,hl,by rw[e];simp⟩
end
section
variable {nm nd np nt nl:ByteArray} {g:Gr}
end
end Go.Proofs.YtiejahgklcjhkaaGreatDoor

