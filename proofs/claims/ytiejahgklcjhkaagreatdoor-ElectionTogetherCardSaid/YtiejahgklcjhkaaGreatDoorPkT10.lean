/- Joined. -/
import Derived.Test.YtiejahgklcjhkaaGreatDoorPkT9
import Derived.Test.YtiejahgklcjhkaaGreatDoorPkT6
import Derived.Lib.TrailingZeros
set_option linter.unusedSimpArgs false
set_option linter.unusedVariables false
set_option maxRecDepth 1000000
open Bool renaming and_eq_true->zA,true_and->zK,not_eq_true'->zO,false_and->zAH
open Nat renaming reduceEqDiff->zB,reduceAdd->zC,beq_refl->zF,beq->zG,le_of_ble_eq_true->zH,eq_of_beq_eq_true->zJ,ble_eq_true_of_le->zM,blt->zN,reduceLT->zQ,ble->zT,pow_lt_pow_right->zX,le_refl->zAC,reduceLeDiff->zAD,not_lt_zero->zAF
open Go.Proofs.Tryz renaming prog->zD,func46->zAL
open List renaming map_congr_left->zI,length_map->zL,map_map->zS,pairwise_map->zV,nodup_cons->zW,mem_cons_of_mem->zY,mem_of_mem_take->zZ,mem_of_mem_drop->zAA,mem_cons_self->zAB,range->zAE,nodup_nil->zAI,map_cons->zAJ
open Int renaming toNat_natCast->zU,reduceToNat->zAG
open Eq renaming trans->zAK
open Go
namespace Go.Proofs.YtiejahgklcjhkaaGreatDoor
section
namespace Sh
open Go Ev
def ydcb:LO:=[o3 (.mv (.const (.string (ByteArray.mk #[])))) 0 0]
def ydce:LO:=[o3 (.mv (.const (.string (ByteArray.mk #[112,114,111,103,114,97,109,32,101,108,101,99,116,105,111,110,59,10,118,97,114,32,104,32,58,32,48,32,46,46,32,110,59,10,118,97,114,32,108,32,58,32,98,111,111,108,59,10,114,117,108,101,32,102,105,120,58,32,104,32,33,61,32,40,100,101,103,32,60,32,50,32,63,32,48,32,58,32,40,115,101,99,111,110,100,40,113,46,104,41,32,60,32,110,32,63,32,115,101,99,111,110,100,40,113,46,104,41,32,43,32,49,32,58,32,110,41,41,32,45,62,32,104,32,58,61,32,40,100,101,103,32,60,32,50,32,63,32,48,32,58,32,40,115,101,99,111,110,100,40,113,46,104,41,32,60,32,110,32,63,32,115,101,99,111,110,100,40,113,46,104,41,32,43,32,49,32,58,32,110,41,41,59,10,114,117,108,101,32,100,114,111,112,58,32,108,32,38,38,32,33,97,108,108,40,113,46,104,32,60,61,32,104,41,32,45,62,32,108,32,58,61,32,102,97,108,115,101,59,10,114,117,108,101,32,116,97,107,101,58,32,33,108,32,38,38,32,97,108,108,40,113,46,104,32,60,32,104,41,32,45,62,32,108,32,58,61,32,116,114,117,101,59,10,114,117,108,101,32,116,105,101,58,32,104,32,60,32,110,32,38,38,32,97,108,108,40,113,46,104,32,60,61,32,104,41,32,38,38,32,115,111,109,101,40,113,46,104,32,61,61,32,104,32,38,38,32,113,46,108,32,61,61,32,108,41,32,45,62,32,108,32,58,61,32,33,108,59,10])))) 0 0]
def c42:SC:=(.seq (.reg false ydcb) (.seq (.reg false ydce) .ret))
theorem ydbp:Fn 42 c42 [.t 0]:=fn_0 Tryz.func42 (by kernel_rfl) (by kernel_rfl)
def ycoh:LO:=[o3 (.box 27 (.tmp 0)) 1 0,o3 (.mv (.const (.bool false))) 2 0]
def ycin:LO:=[ld' true 2 1 3 0,cl' 136 [3] 4 1,mv' 4 2 3]
def c100:SC:=(.seq (.reg false ycoh) (.seq (.reg false ycin) .ret))
theorem ycyo:Fn 100 c100 [.t 2]:=fn_0 Tryz.func100 (by kernel_rfl) (by kernel_rfl)
def ycxt:LO:=[o3 (.box 27 (.tmp 0)) 2 0,o3 (.mv (.const (.bool false))) 4 0]
def ycur:LO:=[ld' true 2 2 10 0,cl' 100 [10] 11 1,o3 (.un .not (.tmp 11)) 12 3,mv' 12 13 7,⟨.load true 2 (.tmp 2),some 14,some (13,false),15⟩,⟨.mv (.tmp 1),some 15,some (13,false),15⟩,⟨.faddr 0 1 (.tmp 2),some 16,some (13,false),15⟩,⟨.load false 1 (.tmp 16),some 17,some (13,false),79⟩,⟨.len (.tmp 17),some 18,some (13,false),207⟩,⟨.bslice 3 1 2 [.i .i64 0,.i .i64 0] [(0,1,(.tmp 18)),(1,1,(ci' 1))],some 19,some (13,false),463⟩,⟨.call (.func 102) [(.tmp 14),(.tmp 15),(.tmp 19)],some 20,some (13,false),1023⟩,⟨.un .not (.tmp 20),some 21,some (13,false),2047⟩,o3 (.pick (.tmp 13) (.const (.bool true)) (.tmp 21)) 22 4095]
def yczp:LO:=[o3 (.mv (.const (.bool false))) 4 0]
def yddh:LO:=[ld' true 2 2 23 0,cl' 91 [23] 24 1,o3 (.alloc 22 1 [.a (.slice none 0 0)]) 5 0,o0 (.store 1 (.tmp 5) (.tmp 24)) 7]
def ydel:LO:=[o3 (.mv (.const (.int .u32 0))) 6 0]
def ydho:LO:=[mv' 1 25 0,ln' 25 26 1,o3 (.mv (ci' 0)) 27 0]
def ybxk:LO:=[bn' .lss 27 26 28 0]
def ycwt:LO:=[mv' 27 29 0,ix' 1 25 27 30 0,ld' false 1 30 31 2,mv' 29 7 7,mv' 31 8 15]
def ycyc:LO:=[mv' 8 32 0,o3 (.idx 1 (.tmp 32) (ci' 0)) 33 1,ld' false 1 33 34 3,ld' false 1 5 35 0,mv' 7 36 0,ix' 1 35 36 37 24,ld' false 1 37 38 56,bn' .neq 34 38 39 127]
def ydfq:LO:=[o3 (.mv (.const (.bool false))) 4 0]
def ycni:LO:=[mv' 6 40 0,mv' 8 41 0,o3 (.idx 1 (.tmp 41) (ci' 1)) 42 2,ld' false 1 42 43 6,o3 (.conv .u32 (.tmp 43)) 44 14,mv' 7 45 0,bn' .shl 44 45 46 62,bn' .or 40 46 47 127,mv' 47 6 255]
def ycdt:LO:=[o3 (.bin .add (.tmp 27) (ci' 1)) 48 0,mv' 48 27 1]
def ycjn:LO:=[ld' true 2 2 49 0,o3 (.mkfn 103 [] [(.tmp 5)]) 50 0,cl' 81 [49,50] 51 3,mv' 51 9 7]
def ycqq:LO:=[mv' 6 52 0,cl' 104 [52] 53 1,o3 (.bin .eql (.tmp 53) (ci' 1)) 54 3,mv' 54 55 7,⟨.mv (.tmp 6),some 56,some (55,true),15⟩,⟨.mv (.tmp 9),some 57,some (55,true),15⟩,⟨.bin .andNot (.tmp 56) (.tmp 57),some 58,some (55,true),63⟩,⟨.bin .eql (.tmp 58) (.const (.int .u32 0)),some 59,some (55,true),127⟩,o3 (.pick (.tmp 55) (.tmp 59) (.const (.bool false))) 60 255,mv' 60 4 511]
def c45:SC:=(.seq (.reg false ycxt) (.seq (.seq (.reg false ycur) (.cond (.tmp 22) (.seq (.reg false yczp) .ret) .skip)) (.seq (.reg false yddh) (.seq (.reg false ydel) (.seq (.seq (.reg false ydho) (.block 0 (.loop (.seq (.reg false ybxk) (.seq (.cond (.tmp 28) .skip (.exit 0)) (.seq (.block 1 (.seq (.reg false ycwt) (.seq (.seq (.reg true ycyc) (.cond (.tmp 39) (.seq (.reg false ydfq) .ret) .skip)) (.reg false ycni)))) (.reg false ycdt))))))) (.seq (.reg false ycjn) (.seq (.reg false ycqq) .ret)))))))
theorem ydej:Fn 45 c45 [.t 4]:=fn_0 Tryz.func45 (by kernel_rfl) (by kernel_rfl)
def ycrc:LO:=[o3 (.mv (ci' 0)) 3 0]
def ycef:LO:=[ld' false 1 1 4 0,mv' 0 5 0,ix' 1 4 5 6 3,ld' false 1 6 7 7,mv' 7 3 15]
def c103:SC:=(.seq (.reg false ycrc) (.seq (.reg false ycef) .ret))
theorem ycvf:Fn 103 c103 [.t 3]:=fn_0 Tryz.func103 (by kernel_rfl) (by kernel_rfl)
def c8_0:LO:=[o3 (.box 24 (.tmp 0)) 3 0,o3 (.mv (.const (.bool false))) 6 0]
def c8_1:LO:=[ld' true 6 3 15 0,o3 (.call (.func 21) [(.tmp 15),(ci' 9)]) 16 1,o3 (.alloc 27 1 [.a (.slice none 0 0),.a (.slice none 0 0)]) 7 0,o0 (.store 2 (.tmp 7) (.tmp 16)) 7]
def c8_2:LO:=[ld' true 2 7 17 0,cl' 41 [] 18 0,mv' 1 19 0,cl' 24 [17,18,19] 20 7,mv' 20 8 15]
def c8_3:LO:=[cl' 42 [] 22 0,ld' true 2 7 23 0,ld' true 2 7 24 0,cl' 43 [24] 25 5,o3 (.field false 0 1 (.tmp 25)) 26 13,mv' 8 27 0,mv' 2 28 0,o3 (.call (.func 26) [(.tmp 28),(ci' 120)]) 29 77,cl' 22 [22,23,26,27,29] 30 255,mv' 30 21 511,xt' 21 0 31 1023,xt' 21 1 32 1023,xt' 21 2 33 1023,mv' 31 9 2047,mv' 32 10 12287,mv' 33 11 32767]
def c8_4:LO:=[mv' 11 34 0,o3 (.un .not (.tmp 34)) 35 1,mv' 35 36 3,⟨.load true 2 (.tmp 7),some 37,some (36,false),7⟩,⟨.call (.func 43) [(.tmp 37)],some 38,some (36,false),15⟩,⟨.load true 2 (.tmp 7),some 39,some (36,false),7⟩,⟨.call (.func 44) [(.tmp 39)],some 40,some (36,false),63⟩,⟨.seq true [false,true,true,false,false] (.tmp 38) (.tmp 40),some 41,some (36,false),127⟩,o3 (.pick (.tmp 36) (.const (.bool true)) (.tmp 41)) 42 255]
def c8_5:LO:=[o3 (.mv (.const (.bool false))) 6 0]
def c8_6:LO:=[o3 (.mv (.const (.slice none 0 0))) 12 0]
def c8_7:LO:=[o3 (.mv (ci' 0)) 13 0]
def c8_8:LO:=[mv' 13 43 0,mv' 9 44 0,ln' 44 45 2,bn' .lss 43 45 46 7]
def ydik:LO:=[mv' 12 49 0,ld' true 2 7 50 0,mv' 9 51 0,mv' 13 52 0,ix' 1 51 52 53 12,ld' false 1 53 54 28,cl' 45 [50,54] 55 62,o3 (.bslice 4 1 1 [.b false] [(0,1,(.tmp 55))]) 56 126,o3 (.app 4 1 1 (.tmp 49) (.tmp 56)) 57 255,mv' 57 12 511]
def c8_9:LO:=[mv' 13 47 0,o3 (.bin .add (.tmp 47) (ci' 1)) 48 1,mv' 48 13 3]
def ydkw:LO:=[cl' 42 [] 58 0,cl' 37 [58] 59 1,ld' true 2 7 60 0,mv' 9 61 0,mv' 9 62 0,ln' 62 63 16,o3 (.bin .sub (.tmp 63) (ci' 1)) 64 48,ix' 1 61 64 65 120,ld' false 1 65 66 248,cl' 36 [59,60,66] 67 511,o3 (.bin .eql (.tmp 67) (.const (.int .u32 0))) 68 1023,mv' 68 14 2047]
def ydis:LO:=[cl' 46 [] 69 0,mv' 69 70 1,⟨.mv (.tmp 12),some 71,some (70,true),3⟩,⟨.mv (.tmp 10),some 72,some (70,true),3⟩,⟨.load true 2 (.tmp 7),some 73,some (70,true),3⟩,⟨.call (.func 43) [(.tmp 73)],some 74,some (70,true),19⟩,⟨.mv (.tmp 14),some 75,some (70,true),3⟩,⟨.call (.func 38) [(.tmp 71),(.tmp 72),(.tmp 74),(.tmp 75)],some 76,some (70,true),127⟩,o3 (.pick (.tmp 70) (.tmp 76) (.const (.bool false))) 77 255,mv' 77 6 511]
def c8:SC:=(.seq (.reg false c8_0) (.seq (.reg false c8_1) (.seq (.reg true c8_2) (.seq (.reg true c8_3) (.seq (.seq (.reg true c8_4) (.cond (.tmp 42) (.seq (.reg false c8_5) .ret) .skip)) (.seq (.reg false c8_6) (.seq (.seq (.reg false c8_7) (.block 0 (.loop (.seq (.seq (.reg false c8_8) (.cond (.tmp 46) .skip (.exit 0))) (.seq (.block 1 (.reg true ydik)) (.reg false c8_9)))))) (.seq (.reg true ydkw) (.seq (.reg false ydis) .ret)))))))))
def c9_0:LO:=[o3 (.box 24 (.tmp 0)) 3 0,o3 (.mv (.const (.bool false))) 6 0]
def c9_1:LO:=[ld' true 6 3 13 0,o3 (.call (.func 21) [(.tmp 13),(ci' 9)]) 14 1,o3 (.alloc 27 1 [.a (.slice none 0 0),.a (.slice none 0 0)]) 7 0,o0 (.store 2 (.tmp 7) (.tmp 14)) 7]
def c9_2:LO:=[cl' 42 [] 15 0,cl' 37 [15] 16 1,o3 (.alloc 58 1 [.a (.string (ByteArray.mk #[])),.a (.slice none 0 0),.a (.slice none 0 0)]) 8 0,o0 (.store 3 (.tmp 8) (.tmp 16)) 7]
def c9_3:LO:=[cl' 42 [] 18 0,ld' true 2 7 19 0,ld' true 2 7 20 0,cl' 43 [20] 21 5,o3 (.field false 0 1 (.tmp 21)) 22 13,ld' true 2 7 23 0,cl' 41 [] 24 13,mv' 1 25 0,cl' 24 [23,24,25] 26 237,mv' 2 27 0,o3 (.call (.func 26) [(.tmp 27),(ci' 60)]) 28 1005,cl' 22 [18,19,22,26,28] 29 2047,mv' 29 17 4095,xt' 17 0 30 8191,xt' 17 1 31 8191,xt' 17 2 32 8191,mv' 30 9 16383,mv' 31 10 98303,mv' 32 11 262143]
def c9_4:LO:=[o3 (.mv (ci' 0)) 12 0]
def c9_5:LO:=[mv' 12 33 0,mv' 9 34 0,ln' 34 35 2,bn' .lss 33 35 36 7]
def c9_7:LO:=[ld' true 3 8 39 0,ld' true 2 7 40 0,mv' 9 41 0,mv' 12 42 0,ix' 1 41 42 43 12,ld' false 1 43 44 28,cl' 36 [39,40,44] 45 63,o3 (.bin .eql (.tmp 45) (.const (.int .u32 0))) 46 127,ld' true 2 7 47 0,mv' 9 48 0,mv' 12 49 0,ix' 1 48 49 50 1536,ld' false 1 50 51 3584,cl' 45 [47,51] 52 8063,o3 (.beq true (.tmp 46) (.tmp 52)) 53 16383]
def c9_8:LO:=[o3 (.mv (.const (.bool false))) 6 0]
def c9_6:LO:=[mv' 12 37 0,o3 (.bin .add (.tmp 37) (ci' 1)) 38 1,mv' 38 12 3]
def c9_9:LO:=[cl' 46 [] 54 0,mv' 54 55 1,⟨.mv (.tmp 11),some 56,some (55,true),3⟩,o3 (.pick (.tmp 55) (.tmp 56) (.const (.bool false))) 57 7,mv' 57 6 15]
def c9:SC:=(.seq (.reg false c9_0) (.seq (.reg false c9_1) (.seq (.reg false c9_2) (.seq (.reg true c9_3) (.seq (.seq (.reg false c9_4) (.block 0 (.loop (.seq (.seq (.reg false c9_5) (.cond (.tmp 36) .skip (.exit 0))) (.seq (.block 1 (.seq (.reg true c9_7) (.cond (.tmp 53) (.seq (.reg false c9_8) .ret) .skip))) (.reg false c9_6)))))) (.seq (.reg false c9_9) .ret))))))
def ydfn:LO:=[o3 (.mv (.const (.bool false))) 2 0]
def yddy:LO:=[o3 (.build [.i .i64 0,.a (.slice none 0 0),.a (.slice none 0 0),.a (.slice none 0 0),.b false,.b false] [(0,1,(ci' 2))]) 8 0,o3 (.call (.func 21) [(.tmp 8),(ci' 2)]) 9 1,o3 (.alloc 27 1 [.a (.slice none 0 0),.a (.slice none 0 0)]) 3 0,o0 (.store 2 (.tmp 3) (.tmp 9)) 7]
def ycwh:LO:=[mv' 0 10 0,o3 (.call (.func 39) [(.tmp 10),(ci' 60)]) 11 1,mv' 11 0 3]
def ydbw:LO:=[cl' 42 [] 13 0,ld' true 2 3 14 0,o3 (.bslice 3 1 2 [.i .i64 0,.i .i64 0] [(0,1,(ci' 0)),(1,1,(ci' 0))]) 15 0,o3 (.bslice 3 1 2 [.i .i64 0,.i .i64 0] [(0,1,(ci' 0)),(1,1,(ci' 0))]) 16 0,o3 (.bslice 22 1 2 [.a (.slice none 0 0),.a (.slice none 0 0)] [(0,1,(.tmp 15)),(1,1,(.tmp 16))]) 17 12,mv' 0 18 0,o3 (.call (.func 26) [(.const (.slice none 0 0)),(.tmp 18)]) 19 33,o3 (.call (.func 22) [(.tmp 13),(.tmp 14),(ci' 4),(.tmp 17),(.tmp 19)]) 20 127,mv' 20 12 255,xt' 12 0 21 511,xt' 12 1 22 511,xt' 12 2 23 511,mv' 21 4 1023,mv' 22 5 6143,mv' 23 6 16383]
def ydex:LO:=[o3 (.mv (ci' 0)) 7 0]
def ycvv:LO:=[mv' 7 24 0,mv' 4 25 0,ln' 25 26 2,bn' .lss 24 26 27 7]
def ydib:LO:=[ld' true 2 3 30 0,mv' 4 31 0,mv' 7 32 0,ix' 1 31 32 33 6,ld' false 1 33 34 14,cl' 45 [30,34] 35 31,mv' 35 36 63,⟨.mv (.tmp 4),some 37,some (36,false),127⟩,⟨.mv (.tmp 7),some 38,some (36,false),127⟩,⟨.idx 1 (.tmp 37) (.tmp 38),some 39,some (36,false),511⟩,⟨.load false 1 (.tmp 39),some 40,some (36,false),1023⟩,⟨.len (.tmp 40),some 41,some (36,false),2047⟩,⟨.bin .neq (.tmp 41) (ci' 2),some 42,some (36,false),4095⟩,o3 (.pick (.tmp 36) (.const (.bool true)) (.tmp 42)) 43 8191,mv' 43 44 16383,⟨.mv (.tmp 4),some 45,some (44,false),32767⟩,⟨.mv (.tmp 7),some 46,some (44,false),32767⟩,⟨.idx 1 (.tmp 45) (.tmp 46),some 47,some (44,false),131071⟩,⟨.load false 1 (.tmp 47),some 48,some (44,false),262143⟩,⟨.idx 1 (.tmp 48) (ci' 0),some 49,some (44,false),524287⟩,⟨.load false 1 (.tmp 49),some 50,some (44,false),1048575⟩,⟨.len (.tmp 50),some 51,some (44,false),2097151⟩,⟨.bin .neq (.tmp 51) (ci' 2),some 52,some (44,false),4194303⟩,o3 (.pick (.tmp 44) (.const (.bool true)) (.tmp 52)) 53 8388607,mv' 53 54 16777215,⟨.mv (.tmp 4),some 55,some (54,false),33554431⟩,⟨.mv (.tmp 7),some 56,some (54,false),33554431⟩,⟨.idx 1 (.tmp 55) (.tmp 56),some 57,some (54,false),134217727⟩,⟨.load false 1 (.tmp 57),some 58,some (54,false),268435455⟩,⟨.idx 1 (.tmp 58) (ci' 0),some 59,some (54,false),536870911⟩,⟨.load false 1 (.tmp 59),some 60,some (54,false),1073741823⟩,⟨.idx 1 (.tmp 60) (ci' 1),some 61,some (54,false),2147483647⟩,⟨.load false 1 (.tmp 61),some 62,some (54,false),4294967295⟩,⟨.mv (.tmp 7),some 63,some (54,false),33554431⟩,⟨.bin .rem (.tmp 63) (ci' 2),some 64,some (54,false),8623489023⟩,⟨.bin .neq (.tmp 62) (.tmp 64),some 65,some (54,false),34359738367⟩,o3 (.pick (.tmp 54) (.const (.bool true)) (.tmp 65)) 66 68719476735]
def ydiv:LO:=[o3 (.mv (.const (.bool false))) 2 0]
def ydda:LO:=[mv' 7 28 0,o3 (.bin .add (.tmp 28) (ci' 1)) 29 1,mv' 29 7 3]
def ydhw:LO:=[cl' 46 [] 67 0,mv' 67 68 1,⟨.mv (.tmp 6),some 69,some (68,true),3⟩,o3 (.pick (.tmp 68) (.tmp 69) (.const (.bool false))) 70 7,mv' 70 71 15,⟨.mv (.tmp 4),some 72,some (71,true),31⟩,⟨.len (.tmp 72),some 73,some (71,true),63⟩,⟨.mv (.tmp 0),some 74,some (71,true),31⟩,⟨.bin .add (.tmp 74) (ci' 1),some 75,some (71,true),159⟩,⟨.bin .eql (.tmp 73) (.tmp 75),some 76,some (71,true),511⟩,o3 (.pick (.tmp 71) (.tmp 76) (.const (.bool false))) 77 1023,mv' 77 2 2047]
def c11:SC:=(.seq (.reg false ydfn) (.seq (.reg false yddy) (.seq (.reg false ycwh) (.seq (.reg true ydbw) (.seq (.seq (.reg false ydex) (.block 0 (.loop (.seq (.seq (.reg false ycvv) (.cond (.tmp 27) .skip (.exit 0))) (.seq (.block 1 (.seq (.reg true ydib) (.cond (.tmp 66) (.seq (.reg false ydiv) .ret) .skip))) (.reg false ydda)))))) (.seq (.reg false ydhw) .ret))))))
theorem yczr:FnU 11 c11 [.t 2]:=fn_u Tryz.func11 (by kernel_rfl) (by kernel_rfl)
end Sh
end
section
namespace Sh
open Go Ev
end Sh
end
section
theorem yzf(c:Conf)(k:Nat):ledB c (k+1)=ledB c k|||(lAt c k).toNat*2^k:=by
 unfold ledB;rw[List.range_succ,List.foldl_append];rfl
theorem ybws{c:Conf}(hl:∀v,v<c.length->lAt c v=0\/lAt c v=1)(h24:c.length<=24):∀k,k<=c.length->ledB c k<2^24
 |0,_=>Nat.two_pow_pos 24
 | k+1,hk=>by
   rw[yzf];refine Nat.or_lt_two_pow (ybws hl h24 k (by omega)) ?_
   have h1:2^k<2^24:=zX (by omega) (by omega)
   rcases hl k (by omega)with e|e
   .rw[e];simp
   .rw[e];show 1*2^k<_;omega
theorem ybyg{b v:Nat}(h:b*2^v<2^32):IntKind.wrap .u32 ((b:Int)*2^(v:Int).toNat)=((b*2^v:Nat):Int):=by
 have e:((b:Int)*2^(v:Int).toNat)=((b*2^v:Nat):Int):=by
  rw[zU]
  push_cast
  rfl
 rw[e];exact yka h
theorem ybxs{g:Gr}(hg:ybg g)(f:Nat->Int):yia f g<2^24:=by
 have h24:=hg.2.1;refine Nat.lt_pow_two_of_testBit _ fun i hi=>?_;cases h:(yia f g).testBit i with
 |false=>rfl
 |true=>have:=((yrm hg).1 h).1;omega
namespace Sh
open Ev Go.RowKit
theorem ycbi{g:Gr}(hI:GrI g):Returns zD 100 [grV g] (.b (yhi g)):=by
 refine Returns.of (ycyo _ _ ?_);have hC:=ybmr hI;simp only[grV]at hC;simp only[c100,ycoh,ycin,grV,go_sem,zB,zC,zQ,↓reduceIte];refine hC.use ?_;simp only[ybh,yfk,go_sem,zB,zC,↓reduceIte,reduceCtorEq]
theorem ybay{H:List Int}{v:Nat}(hv:v<H.length)(hl:H.length<=1000):Returns zD 103 [.i .i64 v,.rf [yw H]] (.i .i64 (H.getD v 0)):=by
 refine Returns.of (ycvf _ _ ?_);simp only[c103,ycrc,ycef,yw,clash,go_sem,zB,zC,↓reduceIte,reduceCtorEq];exact⟨⟨by omega,by omega⟩,Sim.refl _⟩
set_option maxHeartbeats 2000000 in
theorem ybjw{g:Gr}(hI:GrI g){c:Conf}(hR:yccl c)(he:yhi g=true->Tr g):Returns zD 45 [grV g,ybm c] (.b (yjx g c)):=by
 refine Returns.of (ydej _ _ ?_);have hF:=ycbi hI;unfold yjx;cases ht:yhi g with
 | false =>
   have e:yfi g c=false:=by unfold yfi;rw[ht];rfl
   rw[e,zAH];rw[ht]at hF;simp only[grV]at hF;simp only[c45,ycxt,ycur,yczp,grV,clash,go_sem,zB,zC,zQ,↓reduceIte];refine hF.use ?_;simp only[ybh,clash,go_sem,zB,zC,↓reduceIte,reduceCtorEq];exact Sim.refl _
 | true =>
   have hT:=he ht;have hg:=hT.good;have h24:=hg.2.1;have hpl:=hg.2.2.1
   have hC:=ybyk hg hR (G:=[(g.ids.length:Int),1]) (fun x hx=>by
    simp at hx;rcases hx with rfl|rfl<;>exact ygk (by omega))
   rw[ht]at hF;simp only[grV]at hF;simp only[c45,ycxt,ycur,grV,yw,clash,go_sem,zB,zC,zQ,↓reduceIte];refine hF.use ?_;simp only[ybh,splice,clash,go_sem,zB,zC,zAD,zQ,↓reduceIte,reduceCtorEq];have two:∀{q:Nat},q<2->q=0\/q=1:=fun {q} h=>by omega
   refine .inl ⟨fun q hq=>by rcases two hq with rfl|rfl<;>simp only[go_sem],hC.useS ?_ ?_⟩
   .refine⟨Sim.refl (grV g),Sim.refl _,?_,trivial⟩;refine yjo fun q hq=>?_;rcases two hq with rfl|rfl<;>(simp only[List.getD_cons_zero,List.getD_cons_succ,go_sem];exact⟨Sim.refl _,trivial⟩)
   have eC:yfi g c=yow g.ports.length (ydf g [(g.ids.length:Int),1]) c:=by unfold yfi;rw[ht,zK]
   rw[<-eC];cases hcf:yfi g c with
   | false =>
     simp only[yczp,go_sem,↓reduceIte];exact Sim.refl _
   | true =>
     obtain⟨_,hcl,hc1⟩:=yru hcf;have hH:=ybda hT;have hhb:=fun v hv=>hT.ht_le (v:=v) hv;have hLl:=ybws (c:=c) (fun v hv=>(hc1 v hv).2.2) (by omega)
     have hLs:=yzf c;have hL0:ledB c 0=0:=rfl;have hPl:=ybxs hg (htP g);obtain⟨n,hn⟩:∃n,g.ports.length=n:=⟨_,rfl⟩
     have hP:=ybvz hg (f:=htP g) (h:=103) (cp:=[.rf [yw (mapR n (htP g))]]) (by rfl) (fun v hv=>by
      have:=ybay (H:=mapR n (htP g)) (v:=v) (by rw[yjy];omega) (by rw[yjy];omega)
      rw[gmR _ _ _ _ (show v<n by omega)]at this
      exact this)
     have hHe:ybqz g c=(zAE c.length).all fun v=>!(hAt c v != htP g v):=rfl;have hOe:ybwz g c=(((popP (ledB c c.length):Int)==1)&&((difB (ledB c c.length) (yia (htP g) g):Int)==0)):=rfl;rw[hn]at h24 hH hcl;rw[hcl]at hHe hOe hLl;have hml:=yjy n (htP g);have hmg:∀v,v<n->(mapR n (htP g)).getD v 0=htP g v:=fun v hv=>gmR _ _ _ _ hv;obtain⟨H,hHH⟩:∃H,mapR n (htP g)=H:=⟨_,rfl⟩;rw[hHH]at hH hml hmg hP;obtain⟨Pk,hPk⟩:∃x,yia (htP g) g=x:=⟨_,rfl⟩
     rw[hPk]at hP hOe hPl;obtain⟨L,hLL⟩:∃L:Nat->Nat,(fun k=>ledB c k)=L:=⟨_,rfl⟩;have hL':∀k,ledB c k=L k:=fun k=>by rw[<-hLL]
     simp only[hL']at hLl hLs hL0 hOe;simp only[grV]at hH hP;simp only[yw,hml]at hH hP;rw[zK];simp only[ybh,yddh,clash,go_sem,zB,zC,zQ,↓reduceIte];refine hH.use ?_;simp only[ydel,ydho,ybm,hcl,clash,go_sem,zB,zC,↓reduceIte,reduceCtorEq]
     refine ybn (σ:=Nat) (fun k=>⟨[(27,.i .i64 k),(26,.i .i64 n),(25,.sl 1 n fun v=>[yw (c.getD v [])]),(6,.i .u32 (L k)),(2,.pt (2,0) 0 0),(5,.pt (5,0) 0 0)],
      [(2,.one (some ⟨27,true,2,1,fun _=>[yw g.ids,ybe g.ports]⟩)),(5,.one (some ⟨22,true,1,1,fun _=>[.sl 1 n fun v=>[.i .i64 (H.getD v 0)]]⟩))]⟩)
        (fun k=>k<=n/\∀j,j<k->hAt c j=htP g j) (fun k=>n-k) 0 ⟨Nat.zero_le _,fun j hj=>absurd hj (zAF j)⟩ ?_ ?_
     .refine yh [] [] [] ?_;simp only[hL0,allQ,live,yc,Int.natCast_zero,go_sem,zB,↓reduceIte,reduceCtorEq];exact fun _ _=>Sim.refl _
     rintro k ⟨hk,hall⟩
     by_cases hlt:k<n
     .have t1:decide ((k:Int)<(n:Int))=true:=decide_eq_true (by omega)
      obtain⟨hs1,hs2,hs3⟩:=hc1 k (by omega)
      have hgk:=hmg k hlt;have hLk:=hLl k (by omega)
      have hLn:=hLs k;have hke:hAt c k=(c.getD k []).getD 0 0:=rfl;have hle:lAt c k=(c.getD k []).getD 1 0:=rfl
      obtain⟨b,hb,hb1⟩:∃b:Nat,lAt c k=(b:Int)/\b<=1:=by
       rcases hs3 with e|e
       .exact⟨0,e,by omega⟩
       .exact⟨1,e,by omega⟩
      obtain⟨s,hs⟩:∃s,c.getD k []=s:=⟨_,rfl⟩;rw[hs]at hs1 hke hle;obtain⟨x,hx⟩:∃x,s.getD 0 0=x:=⟨_,rfl⟩;rw[hx]at hke;rw[hb]at hle hLn
      by_cases heq:x=htP g k
      .have t2:(x != htP g k)=false:=by rw[heq];simp
       have cv:=yka (a:=b) (by omega)
       have hbl:b*2^k<2^24:=by
        have h1:2^k<2^24:=zX (by omega) (by omega)
        rcases(show b=0\/b=1 by omega)with e|e
        .rw[e];simp
        .rw[e];omega
       have sh:=ybyg (b:=b) (v:=k) (by omega)
       have ov:=u32_or (a:=L k) (b:=b*2^k) (by omega) (by omega)
       rw[zU]at hLn;rw[<-hLn]at ov;simp only[IntKind.bits,zU]at sh ov;simp only[ybxk,ycwt,ycyc,ycni,ycdt,yw,hs,hs1,<-hle,hgk,hx,t1,t2,cv,sh,ov,clash,go_sem,zAG,zB,zC,↓reduceIte,reduceCtorEq]
       repeat (refine⟨by omega,?_⟩)
       refine⟨ikw (by omega) (by omega),?_⟩
       refine yu (k+1) ⟨by omega,fun j hj=>?_⟩ (by omega) ?_
       .by_cases q:j=k
        .rw[q,hke];exact heq
        .exact hall j (by omega)
       .refine yh [] [] [] ?_;simp only[go_sem,allQ,live,yc,yba,go_sem,zB,↓reduceIte,reduceCtorEq];omega
      .have t2:(x != htP g k)=true:=by rw[bne_iff_ne];exact heq
       have e:(zAE n).all (fun v=>!(hAt c v != htP g v))=false:=by
        rw[List.all_eq_false];exact⟨k,List.mem_range.2 hlt,by rw[hke,t2];decide⟩
       rw[hHe,e,zAH];simp only[ybxk,ycwt,ycyc,ydfq,yw,hs,hs1,hgk,hx,t1,t2,clash,go_sem,zAG,zB,zC,↓reduceIte,reduceCtorEq]
       repeat (refine⟨by omega,?_⟩)
       exact Sim.refl _
     .obtain rfl:k=n:=by omega
      have t1:decide ((k:Int)<(k:Int))=false:=decide_eq_false (by omega)
      have e:(zAE k).all (fun v=>!(hAt c v != htP g v))=true:=by
       rw[List.all_eq_true];intro v hv;rw[zO,bne_eq_false_iff_eq];exact hall v (List.mem_range.1 hv)
      have hLk:=hLl k (by omega)
      have hO:=ybfv (s:=L k) (by omega)
      have an:=u32_andNot (a:=L k) (b:=Pk) (by omega) (by omega)
      simp only[IntKind.bits]at an;rw[hHe,e,zK,hOe];simp only[ybxk,ycjn,t1,clash,go_sem,zB,zC,zAD,↓reduceIte];refine .inl (hP.use ?_);simp only[ybh,ycqq,clash,go_sem,zB,zC,↓reduceIte,reduceCtorEq];refine hO.use ?_;cases o1:((popP (L k):Int)==1)with
      | false =>
        simp only[o1,clash,go_sem,zB,zC,↓reduceIte,reduceCtorEq];exact Sim.refl _
      | true =>
        simp only[o1,an,clash,go_sem,zB,zC,↓reduceIte,reduceCtorEq];exact Sim.refl _
end Sh
end
section
theorem TreeTo.tr{x:NetR}{g:Gr}(hg:ybg g)(h:TreeTo x g.ports.length g):Tr g:=by
 have hc:=Tre.conn hg h.tre;refine⟨hg,hc,ydbc hg hc ?_⟩;have:=h.count;have:=hg.1;omega
namespace Sh
open Ev Go.RowKit
theorem ybax(g:Gr):vok (yfn g.ports) 5 (ysu g)/\Sim (view (yfn g.ports) 5 (ysu g)) (grV g):=by
 obtain⟨P,hP⟩:∃P,g.ports=P:=⟨_,rfl⟩;simp only[ysu,yfn,grV,hP,go_sem,zB,↓reduceIte];refine⟨fun q hq=>?_,?_⟩
 .simp only[if_pos hq];exact⟨zAC _,fun k hk=>by simp only[rowO,go_sem]⟩
 .refine ysb ⟨Sim.refl _,?_,trivial⟩;refine yjo fun q hq=>?_;simp only[if_pos hq];simp only[rowO,ybd,go_sem];exact⟨Sim.refl _,trivial⟩
theorem ybru{x:NetR}(hx:x.ok){most:Nat}(hm:1<=most/\most<=24) :
 Ct zD 21 [.ag (netC x),.i .i64 most] fun r=>∃g,Tr g/\yhi g=true/\(g.ports.length<=most/\(g.ports.length:Int)=1+ycu (IntKind.wrap .i64 (x.n-1)) most)/\Sim r (grV g) :=
 (ycxf hx hm).ct fun r o' ⟨g,hg,ht,hn,e1,e2⟩=>by
   subst e1 e2;have hT:=ht.tr hg;refine⟨(ybax g).1,g,hT,?_,hn,(ybax g).2⟩;unfold yhi;rw[hT.conn];have:=ht.count;have:=hg.1;simp only[zK,decide_eq_true_eq];omega
end Sh
end
section
namespace Ev
def Nzb0:BlkL:=⟨4,71,1,[.slice (some ⟨17,0,none⟩) 1 CU,.slice (some ⟨19,0,none⟩) 1 CU]⟩
def Nzb1:BlkL:=⟨1257,240,2,[.int .i64 36,.int .i64 0,.int .i64 5,.int .i64 0,.int .i64 43,.int .i64 0,.int .i64 37,.int .i64 0,.int .i64 9,.int .i64 0,.int .i64 1,.int .i64 2,.int .i64 1,.int .i64 0,.int .i64 43,.int .i64 0,.int .i64 37,.int .i64 0,.int .i64 28,.int .i64 0,.int .i64 12,.int .i64 0,.int .i64 6,.int .i64 0,.int .i64 33,.int .i64 0,.int .i64 28,.int .i64 0,.int .i64 12,.int .i64 0,.int .i64 1,.int .i64 1,.int .i64 6,.int .i64 0]⟩
def Nzb2:BlkL:=⟨1413,240,2,[.int .i64 43,.int .i64 0,.int .i64 37,.int .i64 0,.int .i64 9,.int .i64 0,.int .i64 1,.int .i64 2,.int .i64 1,.int .i64 0,.int .i64 43,.int .i64 0,.int .i64 37,.int .i64 0,.int .i64 28,.int .i64 0,.int .i64 12,.int .i64 0,.int .i64 6,.int .i64 0,.int .i64 33,.int .i64 0,.int .i64 28,.int .i64 0,.int .i64 12,.int .i64 0,.int .i64 1,.int .i64 1,.int .i64 6,.int .i64 0]⟩
def Nzb3:BlkL:=⟨1422,200,2,[.int .i64 0,.slice (some ⟨1413,0,none⟩) 15 CU]⟩
def Nzb4:BlkL:=⟨1495,240,2,[.int .i64 41,.int .i64 0,.int .i64 5,.int .i64 1,.int .i64 19,.int .i64 0,.int .i64 20,.int .i64 0,.int .i64 38,.int .i64 0,.int .i64 12,.int .i64 0,.int .i64 5,.int .i64 0]⟩
def Nzb5:BlkL:=⟨1508,240,2,[.int .i64 3,.int .i64 0]⟩
def Nzb6:BlkL:=⟨1515,200,2,[.int .i64 1,.slice (some ⟨1508,0,none⟩) 1 1]⟩
def Nzb7:BlkL:=⟨1588,240,2,[.int .i64 41,.int .i64 0,.int .i64 19,.int .i64 0,.int .i64 5,.int .i64 1,.int .i64 20,.int .i64 0,.int .i64 37,.int .i64 0,.int .i64 12,.int .i64 0,.int .i64 5,.int .i64 0]⟩
def Nzb8:BlkL:=⟨1601,240,2,[.int .i64 2,.int .i64 0]⟩
def Nzb9:BlkL:=⟨1608,200,2,[.int .i64 1,.slice (some ⟨1601,0,none⟩) 1 1]⟩
def yctu:BlkL:=⟨1766,240,2,[.int .i64 41,.int .i64 0,.int .i64 41,.int .i64 0,.int .i64 37,.int .i64 0,.int .i64 5,.int .i64 0,.int .i64 6,.int .i64 0,.int .i64 20,.int .i64 0,.int .i64 38,.int .i64 0,.int .i64 12,.int .i64 0,.int .i64 5,.int .i64 0,.int .i64 21,.int .i64 0,.int .i64 41,.int .i64 0,.int .i64 35,.int .i64 0,.int .i64 12,.int .i64 0,.int .i64 5,.int .i64 0,.int .i64 35,.int .i64 0,.int .i64 12,.int .i64 1,.int .i64 5,.int .i64 1]⟩
def ycwe:BlkL:=⟨1785,240,2,[.int .i64 19,.int .i64 0,.int .i64 5,.int .i64 1]⟩
def ycyt:BlkL:=⟨1792,200,2,[.int .i64 1,.slice (some ⟨1785,0,none⟩) 2 CU]⟩
def ycxa:BlkL:=⟨2927,22,1,[.slice (some ⟨2925,0,none⟩) 2 2,.slice (some ⟨2926,0,none⟩) 2 2]⟩
end Ev
end
section
namespace Ev
def Nzm1:Fact:=yxh.move [1257,1413,1422] 2950
theorem yczo:ycr zD Nzm1:=ycm (ybb.at_ yge 0 rfl) (by kernel_rfl)
def Nzm2:Fact:=yvy.move [1766,1785,1792] 3250
theorem ycti:ycr zD Nzm2:=ycm (ybb.at_ yge 1 rfl) (by kernel_rfl)
def Nzm3:Fact:=yxk.move [1257,1413,1422,3368] 3372
theorem ydab:ycr zD Nzm3:=ycm (ybb.at_ ymr 0 rfl) (by kernel_rfl)
def Nzm4:Fact:=ywk.move [1766,1785,1792,3368] 3867
theorem ycwl:ycr zD Nzm4:=ycm (ybb.at_ ymp 0 rfl) (by kernel_rfl)
/- selfstab/memory.Check -/
def yckk:Fact:=⟨112,[.agg #[.string (by8 [101,108,101,99,116,105,111,110]),.slice (some ⟨1083,0,none⟩) 2 CU,.slice (some ⟨1796,0,none⟩) 4 CU],.agg #[.slice (some ⟨9,0,none⟩) 2 CU,.slice (some ⟨4,0,none⟩) 2 2],.slice (some ⟨2927,0,none⟩) 2 2],2930,[Nzb0,⟨9,3,1,[.int .i64 0,.int .i64 1]⟩,⟨17,95,2,[.int .i64 1,.int .i64 1]⟩,⟨19,95,2,[.int .i64 0,.int .i64 1]⟩,⟨1083,87,6,[.string (by8 [104]),.int .i64 1,.int .i64 0,.int .i64 0,.int .i64 1,.int .i64 0,.string (by8 [108]),.int .i64 2,.int .i64 0,.int .i64 0,.int .i64 0,.int .i64 0]⟩,Nzb1,Nzb2,Nzb3,Nzb4,Nzb5,Nzb6,Nzb7,Nzb8,Nzb9,yctu,ycwe,ycyt,⟨1796,191,3,[.string (by8 [102,105,120]),.slice (some ⟨1257,0,none⟩) 17 CU,.slice (some ⟨1422,0,none⟩) 1 CU,.string (by8 [100,114,111,112]),.slice (some ⟨1495,0,none⟩) 7 CU,.slice (some ⟨1515,0,none⟩) 1 CU,.string (by8 [116,97,107,101]),.slice (some ⟨1588,0,none⟩) 7 CU,.slice (some ⟨1608,0,none⟩) 1 CU,.string (by8 [116,105,101]),.slice (some ⟨1766,0,none⟩) 17 CU,.slice (some ⟨1792,0,none⟩) 1 CU]⟩,⟨2925,3,1,[.int .i64 0,.int .i64 0]⟩,⟨2926,3,1,[.int .i64 0,.int .i64 0]⟩,ycxa],.int .i64 0,4106,[],2930⟩
def ydkp:List Fact:=[yckk]
theorem ybze:ybb ydkp:=ybb.seq (ybb.cons (f:=Nzm1) yczo (ybb.cons (f:=Nzm2) ycti (ybb.cons (f:=Nzm3) ydab (ybb.cons (f:=Nzm4) ycwl ybb.nil)))) (by kernel_rfl)
def Nzm5:Fact:=yxh.move [1257,1413,1422] 4471
theorem ycvr:ycr zD Nzm5:=ycm (ybb.at_ yge 0 rfl) (by kernel_rfl)
def Nzm6:Fact:=yvy.move [1766,1785,1792] 4771
theorem ycxi:ycr zD Nzm6:=ycm (ybb.at_ yge 1 rfl) (by kernel_rfl)
def Nzm7:Fact:=yxk.move [1257,1413,1422,4889] 4893
theorem yctj:ycr zD Nzm7:=ycm (ybb.at_ ymr 0 rfl) (by kernel_rfl)
def Nzm8:Fact:=ywk.move [1766,1785,1792,4889] 5388
theorem ycwv:ycr zD Nzm8:=ycm (ybb.at_ ymp 0 rfl) (by kernel_rfl)
/- selfstab/memory.Valid -/
def ybso:Fact:=⟨92,[.agg #[.string (by8 [101,108,101,99,116,105,111,110]),.slice (some ⟨1083,0,none⟩) 2 CU,.slice (some ⟨1796,0,none⟩) 4 CU],.agg #[.slice (some ⟨9,0,none⟩) 2 CU,.slice (some ⟨4,0,none⟩) 2 2],.slice (some ⟨2927,0,none⟩) 2 2],4449,[Nzb0,⟨9,3,1,[.int .i64 0,.int .i64 1]⟩,⟨17,95,2,[.int .i64 1,.int .i64 1]⟩,⟨19,95,2,[.int .i64 0,.int .i64 1]⟩,⟨1083,87,6,[.string (by8 [104]),.int .i64 1,.int .i64 0,.int .i64 0,.int .i64 1,.int .i64 0,.string (by8 [108]),.int .i64 2,.int .i64 0,.int .i64 0,.int .i64 0,.int .i64 0]⟩,Nzb1,Nzb2,Nzb3,Nzb4,Nzb5,Nzb6,Nzb7,Nzb8,Nzb9,yctu,ycwe,ycyt,⟨1796,191,3,[.string (by8 [102,105,120]),.slice (some ⟨1257,0,none⟩) 17 CU,.slice (some ⟨1422,0,none⟩) 1 CU,.string (by8 [100,114,111,112]),.slice (some ⟨1495,0,none⟩) 7 CU,.slice (some ⟨1515,0,none⟩) 1 CU,.string (by8 [116,97,107,101]),.slice (some ⟨1588,0,none⟩) 7 CU,.slice (some ⟨1608,0,none⟩) 1 CU,.string (by8 [116,105,101]),.slice (some ⟨1766,0,none⟩) 17 CU,.slice (some ⟨1792,0,none⟩) 1 CU]⟩,⟨2925,3,1,[.int .i64 0,.int .i64 0]⟩,⟨2926,3,1,[.int .i64 0,.int .i64 0]⟩,ycxa],.bool true,5627,[],4449⟩
def ydkv:List Fact:=[ybso]
theorem ycbj:ybb ydkv:=ybb.seq (ybb.cons (f:=Nzm5) ycvr (ybb.cons (f:=Nzm6) ycxi (ybb.cons (f:=Nzm7) yctj (ybb.cons (f:=Nzm8) ycwv ybb.nil)))) (by kernel_rfl)
end Ev
end
section
namespace Ev
/- selfstab/step.Step -/
def ybob:Fact:=⟨53,[.agg #[.string (by8 [101,108,101,99,116,105,111,110]),.slice (some ⟨1083,0,none⟩) 2 CU,.slice (some ⟨1796,0,none⟩) 4 CU],.agg #[.slice (some ⟨9,0,none⟩) 2 CU,.slice (some ⟨4,0,none⟩) 2 2],.slice (some ⟨2927,0,none⟩) 2 2,.int .u32 1],2928,[Nzb0,⟨9,3,1,[.int .i64 0,.int .i64 1]⟩,⟨17,95,2,[.int .i64 1,.int .i64 1]⟩,⟨19,95,2,[.int .i64 0,.int .i64 1]⟩,⟨1083,87,6,[.string (by8 [104]),.int .i64 1,.int .i64 0,.int .i64 0,.int .i64 1,.int .i64 0,.string (by8 [108]),.int .i64 2,.int .i64 0,.int .i64 0,.int .i64 0,.int .i64 0]⟩,Nzb1,Nzb2,Nzb3,Nzb4,Nzb5,Nzb6,Nzb7,Nzb8,Nzb9,yctu,ycwe,ycyt,⟨1796,191,3,[.string (by8 [102,105,120]),.slice (some ⟨1257,0,none⟩) 17 CU,.slice (some ⟨1422,0,none⟩) 1 CU,.string (by8 [100,114,111,112]),.slice (some ⟨1495,0,none⟩) 7 CU,.slice (some ⟨1515,0,none⟩) 1 CU,.string (by8 [116,97,107,101]),.slice (some ⟨1588,0,none⟩) 7 CU,.slice (some ⟨1608,0,none⟩) 1 CU,.string (by8 [116,105,101]),.slice (some ⟨1766,0,none⟩) 17 CU,.slice (some ⟨1792,0,none⟩) 1 CU]⟩,⟨2925,3,1,[.int .i64 0,.int .i64 0]⟩,⟨2926,3,1,[.int .i64 0,.int .i64 0]⟩,ycxa],.tuple #[.slice (some ⟨4322,0,none⟩) 2 2,.int .i64 0],4413,[⟨4322,22,1,[.slice (some ⟨4406,0,none⟩) 2 CU,.slice (some ⟨4324,0,none⟩) 2 CU]⟩,⟨4324,3,1,[.int .i64 0,.int .i64 0]⟩,⟨4406,3,1,[.int .i64 0,.int .i64 1]⟩],2928⟩
def ydjv:List Fact:=[ybob]
theorem yccw:ybb ydjv:=ybb.seq (ybb.cons (f:=yckk) (ybb.at_ ybze 0 rfl) ybb.nil) (by kernel_rfl)
end Ev
end
section
namespace Ev
def Nzm0:Fact:=ylj.move [] 21
theorem ycvm:ycr zD Nzm0:=ycm (ybb.at_ ybaa 0 rfl) (by kernel_rfl)
end Ev
end
section
namespace Ev
open Go Go.RowKit
def nzF:List Fact:=[Nzm0,ybob,ybso]
theorem ydfx:ybb nzF:=(ybb.cons (f:=Nzm0) ycvm (ybb.cons (f:=ybob) (ybb.at_ yccw 0 rfl) (ybb.cons (f:=ybso) (ybb.at_ ycbj 0 rfl) ybb.nil)))
def nzH:Hooks:=⟨some 149,some 261,some 153,symB,[⟨1000000000000,nzF⟩],some 158⟩
theorem ydhe:HooksOk zD nzH:=⟨fun g h=>(by cases h;exact ybgs),fun g h=>(by cases h;exact ypp),fun g h=>(by cases h;exact ybmd),ycf.cons ydfx ycf.nil,fun g h=>(by cases h;exact yvv)⟩
def nzT:Option Value->Bool
 |some (.bool b)=>b
 |_=>false
theorem ydbh:∀{o:Option Value},nzT o=true->o=some (.bool true)
 |some (.bool true),_=>rfl
set_option maxRecDepth 1000000 in
theorem ybds:outV (ev zD nzH 3000 (.call 46 [] mem0))=some (.bool true):=ydbh (by kernel_rfl)
theorem ycxr(w:World)(hG:GlW w):Calls zD 46 #[] w fun e w'=>e = .returned (.bool true)/\Below w.heap.size w w' :=
 yxs mix ysg ydhe ybds rfl rfl ⟨_,_,zAL,rfl⟩ w hG
end Ev
end
section
namespace Sh
open Go Ev Go.RowKit
theorem ybdy:Returns zD 46 [] (.b true):=by
 refine ybhc ⟨_,_,zAL,rfl⟩ (fun _=>.b) (fun _=>.simple rfl) fun G m us hG hr φ M w us' hRl hs hv=>?_;cases hr
 cases hv
 exact ycxr w fun x hx=>(hRl.gl x hx).1
end Sh
end
section
namespace Ev
theorem yqc:∀l:List UInt8,eqBytes l l=true
 |[]=>rfl
 | x::l=>by
   show(zG x.toNat x.toNat&&eqBytes l l)=true;rw[zF,yqc l];rfl
theorem yur{ρ:Nat->Nat}{a:Addr}(h:a.spot.isNone=true):eqAddr (renA ρ a) (renA ρ a)=true:=by
 rw[yjm];unfold eqAddr;simp only[zF,h,Bool.and_self]
theorem ybvt{ρ:Nat->Nat}{v:Value}(hf:yqe v=true)(h:eq1 v v=true):eq1 (ren1 ρ v) (ren1 ρ v)=true:=by
 unfold yqe at hf;split at hf
 .exact yur hf
 .rename_i a n c
  show(eqAddr (renA ρ a) (renA ρ a)&&zG n n&&zG c c)=true;rw[yur hf,zF,zF];rfl
 .rename_i h1 h2
  have:ren1 ρ v=v:=by
   unfold ren1;split
   .rename_i a;exact absurd rfl (h1 a)
   .rename_i a n c;exact absurd rfl (h2 a n c)
   .rfl
  rw[this];exact h
theorem yql{ρ:Nat->Nat}:∀{l:List Value},l.all yqe=true->eqL1 l l=true->eqL1 (l.map (ren1 ρ)) (l.map (ren1 ρ))=true
 |[],_,_=>rfl
 | x::l,hf,h=>by
   simp only[List.all_cons,zA]at hf;have h:(eq1 x x&&eqL1 l l)=true:=h;rw[zA]at h;show(eq1 (ren1 ρ x) (ren1 ρ x)&&eqL1 (l.map (ren1 ρ)) (l.map (ren1 ρ)))=true;rw[ybvt hf.1 h.1,yql hf.2 h.2];rfl
theorem ybos{v:Value}(h1:∀a,v = .agg a->False)(h2:∀g a c,v = .func (.func g) a c->False):eq2 v v=eq1 v v:=by
 cases v with
 |agg a=>exact(h1 a rfl).elim
 | func f a c=>cases f with
   |func g=>exact(h2 g a c rfl).elim
   |_=>rfl
 |_=>rfl
theorem ybnp{ρ:Nat->Nat}{v:Value}(h1:∀a,v = .agg a->False)(h2:∀g a c,v = .func (.func g) a c->False)(hf:yqe v=true):ren2 ρ v=ren1 ρ v:=by
 cases v with
 |agg a=>exact(h1 a rfl).elim
 | func f a c=>cases f with
   |func g=>exact(h2 g a c rfl).elim
   |_=>cases hf
 |_=>rfl
theorem yvd{ρ:Nat->Nat}{v:Value}(hf:yqe v=true):(∀a,ren1 ρ v = .agg a->False)/\∀g a c,ren1 ρ v = .func (.func g) a c->False:=by
 cases v with
 |agg a=>cases hf
 |func f a c=>cases hf
 |pointer p=>cases p<;>exact⟨fun _ h=>(by cases h),fun _ _ _ h=>(by cases h)⟩
 |slice p n c=>cases p<;>exact⟨fun _ h=>(by cases h),fun _ _ _ h=>(by cases h)⟩
 |_=>exact⟨fun _ h=>(by cases h),fun _ _ _ h=>(by cases h)⟩
theorem ybvk{ρ:Nat->Nat}{v:Value}(hf:ykj v=true)(h:eq2 v v=true):eq2 (ren2 ρ v) (ren2 ρ v)=true:=by
 unfold ykj at hf;split at hf
 .rename_i a
  have h:eqL1 a.toList a.toList=true:=h;show eqL1 (a.toList.map (ren1 ρ)).toArray.toList (a.toList.map (ren1 ρ)).toArray.toList=true;exact yql hf h
 .rename_i g a c
  rw[zA]at hf;have h:(zG g g&&eqL1 a.toList a.toList&&eqL1 c.toList c.toList)=true:=h;simp only[zA]at h;show(zG g g&&eqL1 (a.toList.map (ren1 ρ)).toArray.toList (a.toList.map (ren1 ρ)).toArray.toList&&eqL1 (c.toList.map (ren1 ρ)).toArray.toList (c.toList.map (ren1 ρ)).toArray.toList)=true;rw[zF,yql hf.1 h.1.2,yql hf.2 h.2];rfl
 .rename_i h1 h2
  rw[ybos h1 h2]at h;rw[ybnp h1 h2 hf,ybos (yvd hf).1 (yvd hf).2];exact ybvt hf h
def reflB(b:BlkL):Bool:=b.l.all (fun v=>eq2 v v&&ykj v)&&zN b.l.length 1000000
theorem ysl{ρ:Nat->Nat}{b:BlkL}(h:reflB b=true):∀v∈(b.ren ρ).l,eq2 v v=true:=by
 unfold reflB at h;rw[zA]at h;intro v hv;obtain⟨x,hx,rfl⟩:=List.mem_map.1 hv;have:=List.all_eq_true.1 h.1 x hx;rw[zA]at this;exact ybvk this.2 this.1
theorem ylx{l:List Value}(h:∀v∈l,eq2 v v=true):∀(k:List Value) (n:Nat),l.drop n=k->cellsAre (tOf l) n k=true
 |[],_,_=>rfl
 | v :: k,n,e=>by
   have hn:n<l.length:=by
    rcases Nat.lt_or_ge n l.length with q|q
    .exact q
    .rw[List.drop_eq_nil_of_le q]at e;cases e
   rw[List.drop_eq_getElem_cons hn]at e
   injection e with e1 e2
   unfold cellsAre;rw[yca,List.getElem?_eq_getElem hn,e1];simp only;rw[h v (by rw[<-e1];exact List.getElem_mem _),ylx h k (n+1) e2]
   rfl
theorem yoh{m:Mem}{b:BlkL}(hg:m.b.get b.i=some b.blk)(h:∀v∈b.l,eq2 v v=true)(hl:zN b.l.length 1000000=true):blkIs m b=true:=by
 unfold blkIs;rw[hg];show(zG b.l.length b.l.length&&zG b.e b.e&&zG b.z b.z&&zN b.l.length 1000000&&cellsAre (tOf b.l) 0 b.l)=true;rw[zF,zF,zF,hl,ylx h b.l 0 (List.drop_zero ..)];rfl
theorem ysx:∀{l:List BlkL}{t:T ABlk}{i:Nat},(∀b∈l,b.i≠i)->(blksT t l).get i=t.get i
 |[],_,_,_=>rfl
 | b::l,t,i,h=>by
   unfold blksT;rw[T.strict_eq,ysx fun c hc=>h c (zY _ hc),T.set_at,if_neg (fun e=>h b zAB e.symm)]
theorem yqi:∀{l:List BlkL}{t:T ABlk},ygm (l.map (·.i))=true->∀b∈l,(blksT t l).get b.i=some b.blk
 |[],_,_,b,hb=>by cases hb
 | c :: l,t,h,b,hb=>by
   have h:(!(l.map (·.i)).elem c.i&&ygm (l.map (·.i)))=true:=h;rw[zA,zO]at h;unfold blksT;rw[T.strict_eq];rcases List.mem_cons.1 hb with e|hb
   .subst e;rw[ysx fun d hd e=>?_,T.set_at,if_pos rfl];have:(l.map (·.i)).elem b.i=true:=List.elem_eq_true_of_mem (List.mem_map.2 ⟨d,hd,e⟩);rw[this]at h;cases h.1
   .exact yqi h.2 b hb
theorem ynf:∀{l:List Nat},l.Nodup->ygm l=true
 |[],_=>rfl
 | x :: l,h=>by
   rw[zW]at h;show(!(l.elem x)&&ygm l)=true
   have:l.elem x=false:=by
    cases hq:l.elem x with
    |false=>rfl
    |true=>exact absurd (by simpa using hq) h.1
   rw[this,ynf h.2];rfl
theorem ywr:∀{l:List Nat},ygm l=true->l.Nodup
 |[],_=>zAI
 | x::l,h=>by
   have h:(!(l.elem x)&&ygm l)=true:=h;rw[zA,zO]at h;rw[zW];refine⟨fun hm=>?_,ywr h.2⟩;have:l.elem x=true:=by simpa using hm
   rw[this]at h;cases h.1
theorem ybhv{d:Nat}:∀{l:List BlkL}{k:List Nat},(l.map (·.i)).Nodup->l.length=k.length->l.map (fun b=>yxw l k d b.i)=k
 |[],[],_,_=>rfl
 | b :: l,t::k,hn,hl=>by
   rw[zAJ,zW]at hn;have ih:=ybhv (d:=d) hn.2 (by simpa using hl)
   rw[zAJ];have e1:yxw (b::l) (t::k) d b.i=t:=by unfold yxw;rw[zF];rfl
   rw[e1];congr 1;refine zAK (zI fun c hc=>?_) ih;show(bif zG b.i c.i then t else yxw l k d c.i)=_
   have:zG b.i c.i=false:=by
    cases hq:zG b.i c.i with
    |false=>rfl
    |true=>exact absurd (List.mem_map.2 ⟨c,hc,(zJ hq).symm⟩) hn.1
   rw[this];rfl
 |[],_::_,_,h=>by cases h
 |_::_,[],_,h=>by cases h
def Fact.still(f:Fact):Bool:=zT f.next0 f.low&&f.args.all ykj&&ybtz f.v&&f.pre.all (fun b=>zN b.i f.next0&&reflB b)&&ygm (f.pre.map (·.i))&&f.post.all (fun b=>zT f.next0 b.i&&zN b.i f.next1&&reflB b)&&ygm (f.post.map (·.i))&&zT f.next0 f.next1
theorem yckn{a b:Nat}(h:zN a b=true):a<b:=Nat.lt_of_lt_of_le (Nat.lt_succ_self _) (zH h)
theorem ybhm{a b:Nat}(h:a<b):zN a b=true:=zM h
theorem yky{f:Fact}(h:f.still=true):f.next0<=f.low/\(f.args.all ykj=true/\ybtz f.v=true)/\(∀b∈f.pre,b.i<f.next0/\reflB b=true)/\(f.pre.map (·.i)).Nodup/\(∀b∈f.post,f.next0<=b.i/\b.i<f.next1/\reflB b=true)/\(f.post.map (·.i)).Nodup/\f.next0<=f.next1:=by
 unfold Fact.still at h;simp only[zA]at h;obtain⟨⟨⟨⟨⟨⟨⟨h1,h2⟩,h3⟩,h4⟩,h5⟩,h6⟩,h7⟩,h8⟩:=h;refine⟨zH h1,⟨h2,h3⟩,fun b hb=>?_,ywr h5,fun b hb=>?_,ywr h7,zH h8⟩
 .have:=List.all_eq_true.1 h4 b hb;rw[zA]at this;exact⟨yckn this.1,this.2⟩
 .have:=List.all_eq_true.1 h6 b hb;simp only[zA]at this;exact⟨zH this.1.1,yckn this.1.2,this.2⟩
theorem ybni{f:Fact}{tgt:List Nat}{n0:Nat}(hp:∀b∈f.pre,b.i<f.next0/\reflB b=true)(hn:(f.pre.map (·.i)).Nodup)(hl:f.pre.length=tgt.length):f.pre.map (fun b=>f.rho tgt n0 b.i)=tgt:=by
 refine zAK (zI fun b hb=>?_) (ybhv (d:=Nat.add n0 (Nat.sub f.next1 f.next0)) hn hl);unfold Fact.rho;have h1:=(hp b hb).1
 have:(zT f.next0 b.i&&zN b.i f.next1)=false:=by
  rw[Bool.and_eq_false_iff];left
  cases hq:zT f.next0 b.i with
  |false=>rfl
  |true=>have:=zH hq;omega
 rw[this];rfl
theorem ybfr{f:Fact}{tgt:List Nat}{n0 i:Nat}(h1:f.next0<=i)(h2:i<f.next1):f.rho tgt n0 i=i-f.next0+n0:=by
 unfold Fact.rho;rw[Bool.cond_eq_ite,if_pos (by rw[zM h1,ybhm h2];rfl)]
 rfl
theorem yvj{P:Program}{f:Fact}{tgt:List Nat}{n0:Nat}(hok:ycr P f)(hs:f.still=true)(hl:f.pre.length=tgt.length)(hn:tgt.Nodup)(hlt:∀t∈tgt,t<n0):ycr P (f.move tgt n0):=by
 refine ycm hok ?_;obtain⟨s1,⟨s2,s3⟩,s4,s5,s6,s7,s8⟩:=yky hs
 have hpi:(f.move tgt n0).pre.map (·.i)=tgt:=by
  show(f.pre.map (BlkL.ren (f.rho tgt n0))).map (·.i)=tgt;rw[zS];exact zAK (zI fun b hb=>b.yhk) (ybni (n0:=n0) s4 s5 hl)
 have hqi:ygm ((f.move tgt n0).post.map (·.i))=true:=by
  refine ynf ?_;show((f.post.map (BlkL.ren (f.rho tgt n0))).map (·.i)).Nodup
  have e:(f.post.map (BlkL.ren (f.rho tgt n0))).map (·.i)=(f.post.map (·.i)).map (fun i=>i-f.next0+n0):=by
   rw[zS,zS];refine zI fun b hb=>?_;show(b.ren (f.rho tgt n0)).i=b.i-f.next0+n0;rw[b.yhk,ybfr (s6 b hb).1 (s6 b hb).2.1]
  rw[e];unfold List.Nodup at s7 ⊢;rw[zV];refine List.Pairwise.imp_of_mem (fun {x y} hx hy h=>?_) s7;obtain⟨bx,hbx,rfl⟩:=List.mem_map.1 hx;obtain⟨by_,hby,rfl⟩:=List.mem_map.1 hy;have:=(s6 bx hbx).1;have:=(s6 by_ hby).1;omega
 have hpre:ygm ((f.move tgt n0).pre.map (·.i))=true:=by rw[hpi];exact ynf hn
 unfold Fact.moves;simp only[zA];refine⟨⟨⟨⟨⟨⟨⟨⟨zM s1,s2⟩,s3⟩,?_⟩,?_⟩,hpre⟩,?_⟩,?_⟩,zM s8⟩
 .refine List.all_eq_true.2 fun b hb=>?_;have:=(s4 b hb).2;unfold reflB at this;rw[zA]at this;rw[ybhm (s4 b hb).1,zK];exact List.all_eq_true.2 fun v hv=>by have:=List.all_eq_true.1 this.1 v hv;rw[zA]at this;exact this.2
 .refine List.all_eq_true.2 fun b hb=>?_;have:=(s6 b hb).2.2;unfold reflB at this;rw[zA]at this;rw[ybhm (s6 b hb).2.1,zK];exact List.all_eq_true.2 fun v hv=>by have:=List.all_eq_true.1 this.1 v hv;rw[zA]at this;exact this.2
 .refine List.all_eq_true.2 fun b' hb'=>?_;obtain⟨b,hb,rfl⟩:=List.mem_map.1 hb';have h2:=(s4 b hb).2;have h3:(b.ren (f.rho tgt n0)).i∈(f.move tgt n0).pre.map (·.i):=List.mem_map.2 ⟨_,hb',rfl⟩;rw[hpi]at h3;rw[ybhm (hlt _ h3),zK];refine yoh (yqi hpre _ hb') (ysl h2) ?_;show zN (b.l.map _).length 1000000=true;rw[zL];unfold reflB at h2;rw[zA]at h2;exact h2.2
 .refine List.all_eq_true.2 fun b' hb'=>?_;obtain⟨b,hb,rfl⟩:=List.mem_map.1 hb';have h2:=(s6 b hb).2.2;refine yoh (yqi hqi _ hb') (ysl h2) ?_;show zN (b.l.map _).length 1000000=true;rw[zL];unfold reflB at h2;rw[zA]at h2;exact h2.2
end Ev
end
section
namespace Sh
open Go Ev
def Lies(B:List BlkL)(v:Value)(F:AM)(u:Value):Prop :=
 ∃ρ:Nat->Nat,(∀b∈B,∀c∈B,ρ b.i=ρ c.i->b.i=c.i)/\(∀b∈B,F (ρ b.i)=some (b.ren ρ).blk)/\u=ren1 ρ v
theorem Lies.mono{B:List BlkL}{v:Value}(F G:AM)(u:Value)(h:Le F G)(k:Lies B v F u):Lies B v G u:=by
 obtain⟨ρ,h1,h2,h3⟩:=k;exact⟨ρ,h1,fun b hb=>h _ _ (h2 b hb),h3⟩
def ydkh(B:List BlkL)(j:Nat):Option BlkL:=B.find? fun b=>zG b.i j
def yccy(p:Nat->Bool):Nat->Bool
 |0=>true
 |n+1=>p n&&yccy p n
theorem ybgk{p:Nat->Bool}:∀{n:Nat},yccy p n=true->∀k,k<n->p k=true
 |0,_,k,h=>absurd h (zAF k)
 | n+1,h,k,hk=>by
   have h:(p n&&yccy p n)=true:=h;rw[zA]at h
   by_cases q:k=n
   .rw[q];exact h.1
   .exact ybgk h.2 k (by omega)
def ybdl(B:List BlkL)(z n:Nat)(row:Nat->List Value->Bool):Value->Bool
 | .slice (some a) m _=>a.spot.isNone&&zG m n&&(match ydkh B a.block with
   |some b=>zG b.z z&&zT (a.off+n*z) b.l.length&&yccy (fun k=>row k ((b.l.drop (a.off+k*z)).take z)) n
   |none=>false)
 |.slice none 0 0=>zG n 0
 |_=>false
theorem yqm {B:List BlkL}{F:AM}{ρ:Nat->Nat}{z n:Nat}{row:Nat->List Value->Bool}{v:Value}{g:Nat->List SV}(hF:∀b∈B,F (ρ b.i)=some (b.ren ρ).blk) (h:ybdl B z n row v=true)
 (hr:∀k L,k<n->row k L=true->L.length=z/\RVL F om0 (g k) (L.map (ren2 ρ))/\(g k).all one1=true):RV F om0 (.sl z n g) (ren1 ρ v):=by
 unfold ybdl at h;split at h
 .rename_i a m c
  simp only[zA]at h;obtain⟨⟨h1,h2⟩,h3⟩:=h;split at h3
  .rename_i b hb
   simp only[zA]at h3;obtain⟨⟨h3,h4⟩,h5⟩:=h3;have hm:m=n:=zJ h2;have hz:=zJ h3;have h4:=zH h4;have hmem:=List.mem_of_find?_eq_some hb;have hi:b.i=a.block:=zJ (List.find?_some (p:=fun b:BlkL=>zG b.i a.block) hb);have h6:=hF b hmem;rw[hi]at h6;show RV F om0 _ (.slice (some (renA ρ a)) m c);rw[yjm];subst hm;obtain⟨A,o,sp⟩:=a;have hsp:sp=none:=by simpa using h1
   subst hsp;have h6:F (ρ A)=some (.cells (tOf (b.l.map (ren2 ρ))) (b.l.map (ren2 ρ)).length b.e b.z):=h6;have hrow:∀k,k<m->_:=fun k hk=>hr k _ hk (ybgk h5 k hk);refine .sl (L:=fun k=>((b.l.drop (o+k*z)).take z).map (ren2 ρ)) h6 (.inl hz) (by rw[zL];exact h4) ?_ ?_ (fun k hk=>(hrow k hk).2.1) (fun k hk=>(hrow k hk).2.2)
   .intro k hk;rw[zL];exact(hrow k hk).1
   .intro k hk j hj;rw[yca];simp only[List.getElem?_map,List.getElem?_take,List.getElem?_drop,hj,if_true]
  .cases h3
 .have h:zG n 0=true:=h;have h0:=zJ h;subst h0;exact .sl0 (.inl rfl)
 .cases h
def isI(v:Value)(n:Int):Bool:=match v with
 |.int .i64 m=>eqInt m n
 |_=>false
def isS(v:Value)(s:ByteArray):Bool:=match v with
 |.string t=>eqBytes t.data.toList s.data.toList
 |_=>false
theorem ypk{F:AM}{ρ:Nat->Nat}{v:Value}{n:Int}(h:isI v n=true):RV F om0 (.i .i64 n) (ren2 ρ v):=by
 unfold isI at h;split at h
 .rw[yqq h];exact .i
 .cases h
theorem ycgh{F:AM}{ρ:Nat->Nat}{v:Value}{s:ByteArray}(h:isS v s=true):RV F om0 (.a (.string s)) (ren2 ρ v):=by
 unfold isS at h;split at h
 .rename_i t
  have e:=ynv h
  have:t=s:=by
   cases t;cases s
   congr 1;exact Array.toList_inj.1 e
  rw[this];exact .a rfl
 .cases h
def yddz(ls:List (Int×Int))(k:Nat):List Value->Bool
 |[x,y]=>isI x (ls.getD k (0,0)).1&&isI y (ls.getD k (0,0)).2
 |_=>false
def ycjb(l:List VarR)(k:Nat):List Value->Bool
 |[s,a,b,c,d,e]=>isS s (l.getD k default).name&&isI a (l.getD k default).kind&&isI b (l.getD k default).lo&&isI c (l.getD k default).hi&&isI d (l.getD k default).perNode&&isI e (l.getD k default).perID
 |_=>false
def yxd(B:List BlkL)(ls:List (Int×Int))(v:Value):Bool:=ybdl B 2 ls.length (yddz ls) v
def isSl:Value->Bool
 |.slice _ _ _=>true
 |_=>false
def ybuc(B:List BlkL)(l:List SetR)(k:Nat):List Value->Bool
 |[a,v]=>isI a (l.getD k default).var&&isSl v&&yxd B (l.getD k default).val v
 |_=>false
def ybwk(B:List BlkL)(l:List RuleR)(k:Nat):List Value->Bool
 |[s,v,w]=>isS s (l.getD k default).name&&isSl v&&yxd B (l.getD k default).guard v&&isSl w&&ybdl B 2 (l.getD k default).sets.length (ybuc B (l.getD k default).sets) w
 |_=>false
def ybrd(B:List BlkL)(v:Value)(l:List VarR):Bool:=ybdl B 6 l.length (ycjb l) v
def ybhw(B:List BlkL)(v:Value)(l:List RuleR):Bool:=ybdl B 3 l.length (ybwk B l) v
section
variable {B:List BlkL}{F:AM}{ρ:Nat->Nat}
theorem ybcs{v:Value}(h:isSl v=true):ren2 ρ v=ren1 ρ v:=by
 unfold isSl at h;split at h
 .rfl
 .cases h
theorem yrc(hF:∀b∈B,F (ρ b.i)=some (b.ren ρ).blk){ls:List (Int×Int)}{v:Value}(h:yxd B ls v=true):RV F om0 (ybd ls) (ren1 ρ v):=by
 refine yqm hF h fun k L hk hq=>?_;unfold yddz at hq;split at hq
 .simp only[zA]at hq;exact⟨rfl,.cons (ypk hq.1) (.cons (ypk hq.2) .nil),rfl⟩
 .cases hq
theorem ybkx(hF:∀b∈B,F (ρ b.i)=some (b.ren ρ).blk){l:List VarR}{v:Value}(h:ybrd B v l=true):RV F om0 (yek l) (ren1 ρ v):=by
 refine yqm hF h fun k L hk hq=>?_;unfold ycjb at hq;split at hq
 .simp only[zA]at hq;obtain⟨⟨⟨⟨⟨h1,h2⟩,h3⟩,h4⟩,h5⟩,h6⟩:=hq;exact⟨rfl,.cons (ycgh h1) (.cons (ypk h2) (.cons (ypk h3) (.cons (ypk h4) (.cons (ypk h5) (.cons (ypk h6) .nil))))),rfl⟩
 .cases hq
theorem ybjr(hF:∀b∈B,F (ρ b.i)=some (b.ren ρ).blk){l:List SetR}{v:Value}(h:ybdl B 2 l.length (ybuc B l) v=true):RV F om0 (yhs l) (ren1 ρ v):=by
 refine yqm hF h fun k L hk hq=>?_;unfold ybuc at hq;split at hq
 .simp only[zA]at hq;obtain⟨⟨h1,h2⟩,h3⟩:=hq;refine⟨rfl,.cons (ypk h1) (.cons ?_ .nil),rfl⟩;rw[ybcs h2];exact yrc hF h3
 .cases hq
theorem ybcr(hF:∀b∈B,F (ρ b.i)=some (b.ren ρ).blk){l:List RuleR}{v:Value}(h:ybhw B v l=true):RV F om0 (ycx l) (ren1 ρ v):=by
 refine yqm hF h fun k L hk hq=>?_;unfold ybwk at hq;split at hq
 .simp only[zA]at hq;obtain⟨⟨⟨⟨h1,h2⟩,h3⟩,h4⟩,h5⟩:=hq;refine⟨rfl,.cons (ycgh h1) (.cons ?_ (.cons ?_ .nil)),rfl⟩
  .rw[ybcs h2];exact yrc hF h3
  .rw[ybcs h4];exact ybjr hF h5
 .cases hq
end
structure LaidP(fp:Fact)(t:ByteArray)(p:ProgR)(vv vr:Value)(Bv Br:List BlkL):Prop where
 args:fp.args=[.string t]
 pre:fp.pre=[]
 v:fp.v = .agg #[.string p.name,vv,vr]
 still:fp.still=true
 bv:∀b∈Bv,b∈fp.post
 br:∀b∈Br,b∈fp.post
 vars:ybrd Bv vv p.vars=true
 rules:ybhw Br vr p.rules=true
theorem ycad{P:Program}{fp:Fact}{t:ByteArray}{p:ProgR}{vv vr:Value}{Bv Br:List BlkL}(hok:ycr P fp)(h:LaidP fp t p vv vr Bv Br):Returns P fp.g [.a (.string t)] (.ag (ygd (Lies Bv vv) (Lies Br vr) p)):=by
 intro G m us hwf hle hus
 have hu:us=[.string t]:=by
  cases hus with
  |cons a b=>cases a with|a _=>cases b with|nil=>rfl
 subst hu;obtain⟨s1,⟨s2,s3⟩,s4,s5,s6,s7,s8⟩:=yky h.still;have hmv:=yvj (tgt:=[]) (n0:=m.next) hok h.still (by rw[h.pre];rfl) zAI (fun t ht=>by cases ht)
 obtain⟨ρ,hρ⟩:∃ρ,fp.rho [] m.next=ρ:=⟨_,rfl⟩
 have hpost:(fp.move [] m.next).post=fp.post.map (BlkL.ren ρ):=by rw[<-hρ];rfl
 have hv:(fp.move [] m.next).v = .agg #[.string p.name,ren1 ρ vv,ren1 ρ vr]:=by
  show renV (fp.rho [] m.next) fp.v=_
  rw[hρ,h.v];rfl
 have hpre:(fp.move [] m.next).pre=[]:=by
  show fp.pre.map _=[];rw[h.pre];rfl
 have hfit:(fp.move [] m.next).fits fp.g [.string t] m=true:=by
  unfold Fact.fits;rw[hpre];show(zG fp.g fp.g&&zG m.next m.next&&eqL2 (fp.args.map (ren2 _)) [.string t]&&true)=true
  rw[zF,zF,h.args];show(true&&true&&(eqBytes t.data.toList t.data.toList&&true)&&true)=true;rw[yqc];rfl
 have hri:∀b∈fp.post,ρ b.i=b.i-fp.next0+m.next:=fun b hb=>by rw[<-hρ];exact ybfr (s6 b hb).1 (s6 b hb).2.1
 have hnd:ygm ((fp.post.map (BlkL.ren ρ)).map (·.i))=true:=by
  refine ynf ?_
  have e:(fp.post.map (BlkL.ren ρ)).map (·.i)=(fp.post.map (·.i)).map (fun i=>i-fp.next0+m.next):=by
   rw[zS,zS];refine zI fun b hb=>?_;show(b.ren ρ).i=_;rw[b.yhk,hri b hb];rfl
  rw[e];unfold List.Nodup at s7 ⊢;rw[zV];refine List.Pairwise.imp_of_mem (fun {x y} hx hy h=>?_) s7;obtain⟨bx,hbx,rfl⟩:=List.mem_map.1 hx;obtain⟨by_,hby,rfl⟩:=List.mem_map.1 hy;have:=(s6 bx hbx).1;have:=(s6 by_ hby).1;omega
 have hs:=yvt hmv hfit;unfold Fact.out at hs;rw[hv,hpre,hpost]at hs;refine⟨_,_,_,hs,zAC _,?_,rfl,?_⟩
 .intro i b hb;show(blksT m.b (fp.post.map (BlkL.ren ρ))).get i=some b;rw[ysx fun c hc=>?_]
  .exact hb
  .obtain⟨c,hc',rfl⟩:=List.mem_map.1 hc;have:=hwf i b hb;rw[c.yhk,hri c hc'];omega
 .have hF:∀b∈fp.post,frsh m.next ⟨(fp.move [] m.next).next1,blksT m.b (fp.post.map (BlkL.ren ρ)),(fp.move [] m.next).low⟩ G (ρ b.i)=some (b.ren ρ).blk:=fun b hb=>by
   unfold frsh;rw[if_pos (by rw[hri b hb];omega)]
   have:=yqi (t:=m.b) hnd _ (List.mem_map.2 ⟨b,hb,rfl⟩);rw[b.yhk]at this;exact this
  have hinj:∀b∈fp.post,∀c∈fp.post,ρ b.i=ρ c.i->b.i=c.i:=fun b hb c hc e=>by
   rw[hri b hb,hri c hc]at e;have:=(s6 b hb).1;have:=(s6 c hc).1;omega
  refine .ag (.cons (.a rfl) (.cons (.ex ?_ (fun A B w=>Lies.mono A B w) ?_) (.cons (.ex ?_ (fun A B w=>Lies.mono A B w) ?_) .nil)))
  .exact⟨ρ,fun b hb c hc=>hinj b (h.bv b hb) c (h.bv c hc),fun b hb=>hF b (h.bv b hb),rfl⟩
  .exact ybkx (fun b hb=>hF b (h.bv b hb)) h.vars
  .exact⟨ρ,fun b hb c hc=>hinj b (h.br b hb) c (h.br c hc),fun b hb=>hF b (h.br b hb),rfl⟩
  .exact ybcr (fun b hb=>hF b (h.br b hb)) h.rules
def inB(B:List BlkL):Value->Bool
 |.slice (some a) _ _=>(B.map (·.i)).elem a.block
 |.pointer (some a)=>(B.map (·.i)).elem a.block
 |.agg _=>false
 |.func _ _ _=>false
 |_=>true
theorem yhr{B:List BlkL}{ρ σ:Nat->Nat}(h:∀b∈B,ρ b.i=σ b.i){v:Value}(hv:inB B v=true):ren1 ρ v=ren1 σ v:=by
 have hk:∀j,(B.map (·.i)).elem j=true->ρ j=σ j:=fun j hj=>by
  have:j∈B.map (·.i):=by simpa using hj
  obtain⟨b,hb,rfl⟩:=List.mem_map.1 this;exact h b hb
 cases v with
 | slice p n c=>cases p with
   |none=>rfl
   | some a =>
     show Value.slice (some (renA ρ a)) n c = .slice (some (renA σ a)) n c;rw[yjm,yjm,hk _ hv]
 | pointer p=>cases p with
   |none=>rfl
   | some a =>
     show Value.pointer (some (renA ρ a)) = .pointer (some (renA σ a));rw[yjm,yjm,hk _ hv]
 |agg a=>cases hv
 |func f a c=>cases hv
 |_=>rfl
theorem ybgc{B:List BlkL}{τ:Nat->Nat}{v:Value}(hv:inB B v=true):ren2 τ v=ren1 τ v:=by
 cases v with
 |agg a=>cases hv
 |func f a c=>cases hv
 |_=>rfl
theorem ybjg{B:List BlkL}{ρ σ:Nat->Nat}(h:∀b∈B,ρ b.i=σ b.i){v:Value}(hv:inB B v=true):ren2 ρ v=ren2 σ v:=by
 rw[ybgc hv,ybgc hv];exact yhr h hv
def ybed(B:List BlkL):Bool:=B.all fun b=>b.l.all (inB B)
theorem ybah{B:List BlkL}{ρ σ:Nat->Nat}(hc:ybed B=true)(h:∀b∈B,ρ b.i=σ b.i){b:BlkL}(hb:b∈B):b.ren ρ=b.ren σ:=by
 have h1:=List.all_eq_true.1 (List.all_eq_true.1 hc b hb)
 have e:∀τ:Nat->Nat,b.ren τ=⟨τ b.i,b.e,b.z,b.l.map (ren2 τ)⟩:=fun τ=>by
  unfold BlkL.ren;rw[ybl]
 rw[e,e,h b hb];congr 1;exact zI fun v hv=>ybjg h (h1 v hv)
theorem yuq{low:Nat}:∀{l:List BlkL}{t:T ABlk},(∀b∈l,b.i<low)->dropT t low l=t
 |[],_,_=>rfl
 | b :: l,t,h=>by
   have hb:=h b zAB;unfold dropT
   have e:zT low b.i=false:=by
    cases q:zT low b.i with
    |false=>rfl
    |true=>have:=zH q;omega
   rw[e,ybf,if_neg (by simp)]
   exact yuq fun c hc=>h c (zY _ hc)
structure GoodV(fv:Fact)(p:ProgR)(vv vr:Value)(Bv Br:List BlkL):Prop where
 args:fv.args=[.agg #[.string p.name,vv,vr]]
 pre:∀b∈fv.pre,b∈Bv\/b∈Br
 bv:∀b∈Bv,b∈fv.pre
 br:∀b∈Br,b∈fv.pre
 v:fv.v = .bool true
 post:fv.post=[]
 still:fv.still=true
 apart:(Bv.all fun b=>Br.all fun c=>!(zG b.e c.e) && !(zG b.i c.i))=true
 cv:ybed Bv=true
 cr:ybed Br=true
 iv:inB Bv vv=true
 ir:inB Br vr=true
 refl:eq2 (.agg #[.string p.name,vv,vr]) (.agg #[.string p.name,vv,vr])=true
theorem ycbr{P:Program}{fv:Fact}{p:ProgR}{vv vr:Value}{Bv Br:List BlkL}(hok:ycr P fv)(h:GoodV fv p vv vr Bv Br):Returns P fv.g [.ag (ygd (Lies Bv vv) (Lies Br vr) p)] (.b true):=by
 intro G m us hwf hle hus
 obtain⟨ρ1,ρ2,hu,a1,a2,a3,a4⟩:∃ρ1 ρ2:Nat->Nat,us=[.agg #[.string p.name,ren1 ρ1 vv,ren1 ρ2 vr]]/\(∀b∈Bv,∀c∈Bv,ρ1 b.i=ρ1 c.i->b.i=c.i)/\(∀b∈Bv,G (ρ1 b.i)=some (b.ren ρ1).blk) /\
  (∀b∈Br,∀c∈Br,ρ2 b.i=ρ2 c.i->b.i=c.i)/\∀b∈Br,G (ρ2 b.i)=some (b.ren ρ2).blk:=by
  cases hus with
  | cons a b =>
    cases b
    cases a with
    | ag hl =>
      cases hl with
      | cons x1 hl =>
        cases x1
        cases hl with
        | cons x2 hl =>
          cases x2 with
          | ex q2 _ _ =>
            cases hl with
            | cons x3 hl =>
              cases x3 with
              | ex q3 _ _ =>
                cases hl
                obtain⟨ρ1,b1,b2,rfl⟩:=q2;obtain⟨ρ2,b3,b4,rfl⟩:=q3;exact⟨ρ1,ρ2,rfl,b1,b2,b3,b4⟩
 subst hu;obtain⟨s1,⟨s2,s3⟩,s4,s5,s6,s7,s8⟩:=yky h.still
 have hap:∀b∈Bv,∀c∈Br,b.e≠c.e/\b.i≠c.i:=fun b hb c hc=>by
  have:=List.all_eq_true.1 (List.all_eq_true.1 h.apart b hb) c hc;simp only[zA,zO]at this;exact⟨fun e=>(by rw[e,zF]at this;exact absurd this.1 (by decide)),fun e=>(by rw[e,zF]at this;exact absurd this.2 (by decide))⟩
 let σ:Nat->Nat:=fun i=>if (Bv.map (·.i)).elem i then ρ1 i else ρ2 i
 have hcross:∀b∈Bv,∀c∈Br,ρ1 b.i≠ρ2 c.i:=fun b hb c hc e=>by
  have e1:=a2 b hb;have e2:=a4 c hc;rw[e,e2]at e1
  injection e1 with e1
  unfold BlkL.blk at e1
  injection e1 with _ _ e3 _
  exact(hap b hb c hc).1 e3.symm
 have hG:∀i b,G i=some b->i<m.next:=fun i b hb=>hwf i b (hle i b hb)
 have sv:∀b∈Bv,σ b.i=ρ1 b.i:=fun b hb=>if_pos (by simpa using⟨b,hb,rfl⟩)
 have sr:∀b∈Br,σ b.i=ρ2 b.i:=fun b hb=>by
  refine if_neg fun q=>?_;have:b.i∈Bv.map (·.i):=by simpa using q
  obtain⟨d,hd,hdi⟩:=List.mem_map.1 this;exact(hap d hd b hb).2 hdi
 have tgtLt:∀b∈fv.pre,σ b.i<m.next:=fun b hb=>by
  rcases h.pre b hb with q|q
  .rw[sv b q];exact hG _ _ (a2 b q)
  .rw[sr b q];exact hG _ _ (a4 b q)
 have sinj:∀b∈fv.pre,∀c∈fv.pre,σ b.i=σ c.i->b.i=c.i:=fun b hb c hc e=>by
  rcases h.pre b hb with q|q<;>rcases h.pre c hc with q'|q'
  .rw[sv b q,sv c q']at e;exact a1 b q c q' e
  .rw[sv b q,sr c q']at e;exact absurd e (hcross b q c q')
  .rw[sr b q,sv c q']at e;exact absurd e.symm (hcross c q' b q)
  .rw[sr b q,sr c q']at e;exact a3 b q c q' e
 obtain⟨tgt,htgt⟩:∃t,fv.pre.map (fun b=>σ b.i)=t:=⟨_,rfl⟩
 have tlt:∀t∈tgt,t<m.next:=fun t ht=>by
  rw[<-htgt]at ht;obtain⟨b,hb,rfl⟩:=List.mem_map.1 ht;exact tgtLt b hb
 have tnd:tgt.Nodup:=by
  rw[<-htgt];have s5:=s5;unfold List.Nodup at s5 ⊢;rw[zV]at s5 ⊢;exact List.Pairwise.imp_of_mem (fun {x y} hx hy h e=>h (sinj x hx y hy e)) s5
 have tlen:fv.pre.length=tgt.length:=by rw[<-htgt,zL]
 have hmv:=yvj (n0:=m.next) hok h.still tlen tnd tlt
 have hrho:=ybni (n0:=m.next) s4 s5 tlen
 obtain⟨ρ,hρ⟩:∃ρ,fv.rho tgt m.next=ρ:=⟨_,rfl⟩
 rw[hρ,<-htgt]at hrho;have hri:∀b∈fv.pre,ρ b.i=σ b.i:=List.map_inj_left.1 hrho;have hv1:∀b∈Bv,ρ b.i=ρ1 b.i:=fun b hb=>by rw[hri b (h.bv b hb),sv b hb]
 have hr1:∀b∈Br,ρ b.i=ρ2 b.i:=fun b hb=>by rw[hri b (h.br b hb),sr b hb]
 have hargs:(fv.move tgt m.next).args=[.agg #[.string p.name,ren1 ρ1 vv,ren1 ρ2 vr]]:=by
  show fv.args.map (ren2 (fv.rho tgt m.next))=_
  rw[hρ,h.args,<-yhr hv1 h.iv,<-yhr hr1 h.ir];rfl
 have hself:eqL2 [.agg #[.string p.name,ren1 ρ1 vv,ren1 ρ2 vr]] [.agg #[.string p.name,ren1 ρ1 vv,ren1 ρ2 vr]]=true:=by
  have hf:ykj (.agg #[.string p.name,vv,vr])=true:=by
   have:=s2;rw[h.args]at this
   simpa using this
  have e:=ybvk (ρ:=ρ) hf h.refl;rw[show ren2 ρ (.agg #[.string p.name,vv,vr]) = .agg #[.string p.name,ren1 ρ vv,ren1 ρ vr]from rfl,yhr hv1 h.iv,yhr hr1 h.ir]at e
  show(eq2 _ _&&true)=true;rw[e];rfl
 have hpre:∀b∈fv.pre,m.b.get (ρ b.i)=some (b.ren ρ).blk:=fun b hb=>by
  rcases h.pre b hb with q|q
  .rw[ybah h.cv hv1 q,hv1 b q];exact hle _ _ (a2 b q)
  .rw[ybah h.cr hr1 q,hr1 b q];exact hle _ _ (a4 b q)
 have hp:(fv.move tgt m.next).pre=fv.pre.map (BlkL.ren ρ):=by rw[<-hρ];rfl
 have hfit:(fv.move tgt m.next).fits fv.g [.agg #[.string p.name,ren1 ρ1 vv,ren1 ρ2 vr]] m=true:=by
  unfold Fact.fits;rw[hargs,hself];show(zG fv.g fv.g&&zG m.next m.next&&true&&(fv.move tgt m.next).pre.all (blkIs m))=true
  rw[zF,zF,hp];show List.all _ _=true;refine List.all_eq_true.2 fun b' hb'=>?_;obtain⟨b,hb,rfl⟩:=List.mem_map.1 hb';have h2:=(s4 b hb).2;refine yoh ?_ (ysl h2) ?_
  .rw[b.yhk];exact hpre b hb
  .show zN (b.l.map _).length 1000000=true;rw[zL];unfold reflB at h2;rw[zA]at h2;exact h2.2
 have hs:=yvt hmv hfit;unfold Fact.out at hs
 have hv:(fv.move tgt m.next).v = .bool true:=by
  show renV (fv.rho tgt m.next) fv.v=_
  rw[h.v];rfl
 have hpost:(fv.move tgt m.next).post=[]:=by
  show fv.post.map _=[];rw[h.post];rfl
 rw[hv,hpost]at hs;refine⟨_,_,_,hs,zAC _,?_,rfl,.b⟩;intro i b hb;show(dropT m.b m.next (fv.move tgt m.next).pre).get i=some b
 rw[yuq fun c hc=>?_]
 .exact hb
 .rw[hp]at hc;obtain⟨c,hc',rfl⟩:=List.mem_map.1 hc;rw[c.yhk,hri c hc'];exact tgtLt c hc'
end Sh
end
section
namespace Sh
open Go Ev
def NqP:ProgT:=ybj (by8 [101,108,101,99,116,105,111,110]) (by8 [104]) (by8 [108]) (by8 [102,105,120]) (by8 [100,114,111,112]) (by8 [116,97,107,101]) (by8 [116,105,101])
def Nqt:ByteArray:=yj
def Nqv:Value:=.slice (some ⟨1062,0,none⟩) 2 CU
def Nqr:Value:=.slice (some ⟨1775,0,none⟩) 4 CU
def NqB:List BlkL:=ylj.post.take 1
def NqC:List BlkL:=ylj.post.drop 1
theorem ybkp:Returns zD 37 [.a (.string Nqt)] (.ag (ygd (Lies NqB Nqv) (Lies NqC Nqr) NqP.raw)) :=
 ycad (fp:=ylj) (ybb.at_ ybaa 0 rfl) ⟨rfl,rfl,rfl,by kernel_rfl,fun _ h=>zZ h,fun _ h=>zAA h,by kernel_rfl,by kernel_rfl⟩
theorem ydbv:ybee.pre=ylj.post:=rfl
theorem ybxz:Returns zD 191 [.ag (ygd (Lies NqB Nqv) (Lies NqC Nqr) NqP.raw)] (.b true) :=
 ycbr (fv:=ybee) (ybb.at_ ybvb 0 rfl) ⟨rfl,fun b h=>by
  rw[ydbv,<-List.take_append_drop 1 ylj.post]at h;exact List.mem_append.1 h,fun _ h=>zZ h,fun _ h=>zAA h,rfl,rfl,by kernel_rfl,by kernel_rfl,by kernel_rfl,by kernel_rfl,by kernel_rfl,by kernel_rfl,by kernel_rfl⟩
theorem ydfy:NqP.ok=true:=by kernel_rfl
end Sh
end
section
end
section
open Go.RowKit
namespace Sh
open Ev
end Sh
end
section
namespace Ev
open Go Go.RowKit
section
variable {φ:Phi}{M:AM}{w:World}{m:Mem}{b x y:Nat}
end
end Ev
end
section
section
variable {nm nc nr:ByteArray}{g:Gr}{c:Conf}{u v s:Nat}
end
end
section
end
section
namespace Sh
open Ev Go.RowKit
end Sh
end
section
namespace Sh
open Go Ev
end Sh
end
section
structure LdC(g:Gr)(c:Conf):Prop where
 len:c.length=g.ids.length
 row:∀v,v<g.ids.length->(c.getD v []).length=3/\(0<=(c.getD v []).getD 0 0/\(c.getD v []).getD 0 0<=ybeb g)/\(0<=(c.getD v []).getD 1 0/\(c.getD v []).getD 1 0<g.ids.length)/\(-1<=(c.getD v []).getD 2 0/\(c.getD v []).getD 2 0<(g.ports.getD v []).length)
section
variable {nm nl nd np no nj:ByteArray}{g:Gr}{c:Conf}{v:Nat}
theorem LdC.link(h:LdC g c)(hg:ybg g)(hv:v<g.ids.length){l:Int×Int}(hl:l∈g.ports.getD v []):0<=l.1/\l.1.toNat<g.ids.length/\adj g v l.1.toNat/\(0<=endP c 0 l/\endP c 0 l<=ybeb g)/\(0<=endP c 1 l/\endP c 1 l<g.ids.length):=by
 have hpl:=hg.2.2.1;obtain⟨h1,h2,h3,_⟩:=ydc hg (by omega) hl
 have h4:=h.row l.1.toNat (by omega)
 exact⟨h1,by omega,h3,h4.2.1,h4.2.2.1⟩
end
end
section
section
variable {nm nl nd np no nj:ByteArray}{g:Gr}{c:Conf}{v:Nat}
end
end
section
section
variable {nm nl nd np no nj:ByteArray}{g:Gr}{c:Conf}{v:Nat}
end
end
section
namespace Sh
open Ev Go.RowKit
end Sh
end
section
namespace Sh
open Ev Go.RowKit
end Sh
end
section
namespace Sh
open Ev Go.RowKit
end Sh
end
section
namespace Sh
open Ev Go.RowKit
theorem ybne:Returns zD 42 [] (.a (.string Nqt)):=by
 refine Returns.of (ydbp _ _ ?_);simp only[c42,ydcb,ydce,go_sem,↓reduceIte];exact Sim.refl _
end Sh
end
end Go.Proofs.YtiejahgklcjhkaaGreatDoor
