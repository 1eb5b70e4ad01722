/- Joined. -/
import Derived.Test.YtiejahgklcjhkaaGreatDoorPkG17
import Derived.Test.YtiejahgklcjhkaaGreatDoorPkG10
import Derived.Lib.TrailingZeros
set_option linter.unusedSimpArgs false
set_option linter.unusedVariables false
set_option maxRecDepth 1000000
open Bool renaming and_eq_true→zA,true_and→zK,not_eq_true'→zU,false_and→zAZ
open Nat renaming reduceEqDiff→zB,reduceAdd→zC,beq_refl→zD,beq→zF,le_of_ble_eq_true→zG,reduceLT→zI,eq_of_beq_eq_true→zJ,ble_eq_true_of_le→zM,reduceLeDiff→zN,blt→zQ,lt_of_lt_of_le→zT,le_refl→zV,testBit_two_pow→zY,ble→zZ,testBit_two_pow_mul_add→zAB,two_pow_pos→zAG,pow_lt_pow_right→zAK,one_shiftLeft→zAS,testBit_succ→zAT,not_lt_zero→zAU,testBit_and→zAW,add_zero→zBE
open List renaming map_congr_left→zH,length_map→zL,range→zO,mem_cons_of_mem→zW,map_map→zX,mem_cons_self→zAA,pairwise_map→zAD,drop_eq_getElem_cons→zAE,getElem?_eq_getElem→zAF,nodup_cons→zAH,nil_append→zAI,foldl_cons→zAJ,mem_of_mem_take→zAL,mem_of_mem_drop→zAM,map_cons→zAN,getD_cons_zero→zAO,getD_cons_succ→zAP,filter_append→zAQ,getElem?_map→zAR,length_nil→zAX,mem_filter→zAY,nodup_nil→zBA,drop_drop→zBB,mem_range→zBC,getD→zBF
open Classical renaming byContradiction→zS
open Int renaming toNat_natCast→zAC,reduceToNat→zAV
open Eq renaming trans→zBD
open Go
namespace Go.Proofs.YtiejahgklcjhkaaGreatDoor
section
namespace Sh
open Go Ev
def ydjn:LO:=[o3 (.mv (.const (.string (ByteArray.mk #[])))) 0 0]
def ydhn:LO:=[o3 (.mv (.const (.string (ByteArray.mk #[112,114,111,103,114,97,109,32,101,108,101,99,116,105,111,110,59,10,118,97,114,32,104,32,58,32,48,32,46,46,32,110,59,10,118,97,114,32,108,32,58,32,98,111,111,108,59,10,114,117,108,101,32,102,105,120,58,32,104,32,33,61,32,40,100,101,103,32,60,32,50,32,63,32,48,32,58,32,40,115,101,99,111,110,100,40,113,46,104,41,32,60,32,110,32,63,32,115,101,99,111,110,100,40,113,46,104,41,32,43,32,49,32,58,32,110,41,41,32,45,62,32,104,32,58,61,32,40,100,101,103,32,60,32,50,32,63,32,48,32,58,32,40,115,101,99,111,110,100,40,113,46,104,41,32,60,32,110,32,63,32,115,101,99,111,110,100,40,113,46,104,41,32,43,32,49,32,58,32,110,41,41,59,10,114,117,108,101,32,100,114,111,112,58,32,108,32,38,38,32,33,97,108,108,40,113,46,104,32,60,61,32,104,41,32,45,62,32,108,32,58,61,32,102,97,108,115,101,59,10,114,117,108,101,32,116,97,107,101,58,32,33,108,32,38,38,32,97,108,108,40,113,46,104,32,60,32,104,41,32,45,62,32,108,32,58,61,32,116,114,117,101,59,10,114,117,108,101,32,116,105,101,58,32,104,32,60,32,110,32,38,38,32,97,108,108,40,113,46,104,32,60,61,32,104,41,32,38,38,32,115,111,109,101,40,113,46,104,32,61,61,32,104,32,38,38,32,113,46,108,32,61,61,32,108,41,32,45,62,32,108,32,58,61,32,33,108,59,10])))) 0 0]
def c42:SC:=(.seq (.reg false ydjn) (.seq (.reg false ydhn) .ret))
theorem ydml:Fn 42 c42 [.t 0]:=fn_0 Tryz.func42 (by kernel_rfl) (by kernel_rfl)
def yclx:LO:=[o3 (.box 27 (.tmp 0)) 1 0,o3 (.mv (.const (.bool false))) 2 0]
def ycsp:LO:=[ld' true 2 1 3 0,cl' 136 [3] 4 1,mv' 4 2 3]
def c100:SC:=(.seq (.reg false yclx) (.seq (.reg false ycsp) .ret))
theorem ydee:Fn 100 c100 [.t 2]:=fn_0 Tryz.func100 (by kernel_rfl) (by kernel_rfl)
def ydcn:LO:=[o3 (.box 27 (.tmp 0)) 2 0,o3 (.mv (.const (.bool false))) 4 0]
def ydfm:LO:=[ld' true 2 2 10 0,cl' 100 [10] 11 1,o3 (.un .not (.tmp 11)) 12 3,mv' 12 13 7,⟨.load true 2 (.tmp 2),some 14,some (13,false),15⟩,⟨.mv (.tmp 1),some 15,some (13,false),15⟩,⟨.faddr 0 1 (.tmp 2),some 16,some (13,false),15⟩,⟨.load false 1 (.tmp 16),some 17,some (13,false),79⟩,⟨.len (.tmp 17),some 18,some (13,false),207⟩,⟨.bslice 3 1 2 [.i .i64 0,.i .i64 0] [(0,1,(.tmp 18)),(1,1,(ci' 1))],some 19,some (13,false),463⟩,⟨.call (.func 102) [(.tmp 14),(.tmp 15),(.tmp 19)],some 20,some (13,false),1023⟩,⟨.un .not (.tmp 20),some 21,some (13,false),2047⟩,o3 (.pick (.tmp 13) (.const (.bool true)) (.tmp 21)) 22 4095]
def yczl:LO:=[o3 (.mv (.const (.bool false))) 4 0]
def ydoi:LO:=[ld' true 2 2 23 0,cl' 91 [23] 24 1,o3 (.alloc 22 1 [.a (.slice none 0 0)]) 5 0,o0 (.store 1 (.tmp 5) (.tmp 24)) 7]
def ydlu:LO:=[o3 (.mv (.const (.int .u32 0))) 6 0]
def ydni:LO:=[mv' 1 25 0,ln' 25 26 1,o3 (.mv (ci' 0)) 27 0]
def ycgc:LO:=[bn' .lss 27 26 28 0]
def ydeg:LO:=[mv' 27 29 0,ix' 1 25 27 30 0,ld' false 1 30 31 2,mv' 29 7 7,mv' 31 8 15]
def ydak:LO:=[mv' 8 32 0,o3 (.idx 1 (.tmp 32) (ci' 0)) 33 1,ld' false 1 33 34 3,ld' false 1 5 35 0,mv' 7 36 0,ix' 1 35 36 37 24,ld' false 1 37 38 56,bn' .neq 34 38 39 127]
def ydjl:LO:=[o3 (.mv (.const (.bool false))) 4 0]
def ycsf:LO:=[mv' 6 40 0,mv' 8 41 0,o3 (.idx 1 (.tmp 41) (ci' 1)) 42 2,ld' false 1 42 43 6,o3 (.conv .u32 (.tmp 43)) 44 14,mv' 7 45 0,bn' .shl 44 45 46 62,bn' .or 40 46 47 127,mv' 47 6 255]
def yctj:LO:=[o3 (.bin .add (.tmp 27) (ci' 1)) 48 0,mv' 48 27 1]
def ycol:LO:=[ld' true 2 2 49 0,o3 (.mkfn 103 [] [(.tmp 5)]) 50 0,cl' 81 [49,50] 51 3,mv' 51 9 7]
def ycgu:LO:=[mv' 6 52 0,cl' 104 [52] 53 1,o3 (.bin .eql (.tmp 53) (ci' 1)) 54 3,mv' 54 55 7,⟨.mv (.tmp 6),some 56,some (55,true),15⟩,⟨.mv (.tmp 9),some 57,some (55,true),15⟩,⟨.bin .andNot (.tmp 56) (.tmp 57),some 58,some (55,true),63⟩,⟨.bin .eql (.tmp 58) (.const (.int .u32 0)),some 59,some (55,true),127⟩,o3 (.pick (.tmp 55) (.tmp 59) (.const (.bool false))) 60 255,mv' 60 4 511]
def c45:SC:=(.seq (.reg false ydcn) (.seq (.seq (.reg false ydfm) (.cond (.tmp 22) (.seq (.reg false yczl) .ret) .skip)) (.seq (.reg false ydoi) (.seq (.reg false ydlu) (.seq (.seq (.reg false ydni) (.block 0 (.loop (.seq (.reg false ycgc) (.seq (.cond (.tmp 28) .skip (.exit 0)) (.seq (.block 1 (.seq (.reg false ydeg) (.seq (.seq (.reg true ydak) (.cond (.tmp 39) (.seq (.reg false ydjl) .ret) .skip)) (.reg false ycsf)))) (.reg false yctj))))))) (.seq (.reg false ycol) (.seq (.reg false ycgu) .ret)))))))
theorem ydnm:Fn 45 c45 [.t 4]:=fn_0 Tryz.func45 (by kernel_rfl) (by kernel_rfl)
def ycwc:LO:=[o3 (.mv (ci' 0)) 3 0]
def ycnu:LO:=[ld' false 1 1 4 0,mv' 0 5 0,ix' 1 4 5 6 3,ld' false 1 6 7 7,mv' 7 3 15]
def c103:SC:=(.seq (.reg false ycwc) (.seq (.reg false ycnu) .ret))
theorem ycyb:Fn 103 c103 [.t 3]:=fn_0 Tryz.func103 (by kernel_rfl) (by kernel_rfl)
def ydam:LO:=[o3 (.box 27 (.tmp 0)) 1 0,o3 (.alloc 51 1 [.i .i64 0,.b false,.b false,.i .i64 0,.i .i64 0]) 2 0]
def ydeb:LO:=[ld' true 2 1 3 0,cl' 100 [3] 4 1,o3 (.un .not (.tmp 4)) 5 3]
def ydmw:LO:=[o3 (.build [.i .i64 0,.b false,.b false,.i .i64 0,.i .i64 0] []) 6 0,o0 (.store 5 (.tmp 2) (.tmp 6)) 1]
def ydkd:LO:=[ld' true 2 1 7 0,cl' 88 [7] 8 1,o3 (.bin .quo (.tmp 8) (ci' 2)) 9 3,o3 (.bin .add (.tmp 9) (ci' 2)) 10 7,o3 (.build [.i .i64 0,.b false,.b false,.i .i64 0,.i .i64 0] [(0,1,(ci' 2)),(2,1,(.const (.bool true))),(3,1,(.tmp 10)),(4,1,(.const (.int .i64 (-1))))]) 11 15,o0 (.store 5 (.tmp 2) (.tmp 11)) 31]
def c43:SC:=(.seq (.reg false ydam) (.seq (.seq (.reg false ydeb) (.cond (.tmp 5) (.seq (.reg false ydmw) .ret) .skip)) (.seq (.reg false ydkd) .ret)))
theorem ydhq:Fn 43 c43 [.c 2 true 5]:=fn_0 Tryz.func43 (by kernel_rfl) (by kernel_rfl)
def ydlo:LO:=[o3 (.mv (.const (.slice none 0 0))) 0 0]
def ydjb:LO:=[o3 (.call (.func 79) [(.const (.string (ByteArray.mk #[104]))),(ci' 0),(ci' 1),(ci' 0)]) 1 0,o3 (.call (.func 99) [(.const (.string (ByteArray.mk #[108])))]) 2 1,o3 (.bslice 87 6 2 [.a (.string (ByteArray.mk #[])),.i .i64 0,.i .i64 0,.i .i64 0,.i .i64 0,.i .i64 0,.a (.string (ByteArray.mk #[])),.i .i64 0,.i .i64 0,.i .i64 0,.i .i64 0,.i .i64 0] [(0,6,(.tmp 1)),(6,6,(.tmp 2))]) 3 3,mv' 3 0 7]
def c41:SC:=(.seq (.reg false ydlo) (.seq (.reg false ydjb) .ret))
theorem ydjr:Fn 41 c41 [.t 0]:=fn_0 Tryz.func41 (by kernel_rfl) (by kernel_rfl)
def c8_0:LO:=[o3 (.box 24 (.tmp 0)) 3 0,o3 (.mv (.const (.bool false))) 6 0]
def c8_1:LO:=[ld' true 6 3 15 0,o3 (.call (.func 21) [(.tmp 15),(ci' 9)]) 16 1,o3 (.alloc 27 1 [.a (.slice none 0 0),.a (.slice none 0 0)]) 7 0,o0 (.store 2 (.tmp 7) (.tmp 16)) 7]
def c8_2:LO:=[ld' true 2 7 17 0,cl' 41 [] 18 0,mv' 1 19 0,cl' 24 [17,18,19] 20 7,mv' 20 8 15]
def c8_3:LO:=[cl' 42 [] 22 0,ld' true 2 7 23 0,ld' true 2 7 24 0,cl' 43 [24] 25 5,o3 (.field false 0 1 (.tmp 25)) 26 13,mv' 8 27 0,mv' 2 28 0,o3 (.call (.func 26) [(.tmp 28),(ci' 120)]) 29 77,cl' 22 [22,23,26,27,29] 30 255,mv' 30 21 511,xt' 21 0 31 1023,xt' 21 1 32 1023,xt' 21 2 33 1023,mv' 31 9 2047,mv' 32 10 12287,mv' 33 11 32767]
def c8_4:LO:=[mv' 11 34 0,o3 (.un .not (.tmp 34)) 35 1,mv' 35 36 3,⟨.load true 2 (.tmp 7),some 37,some (36,false),7⟩,⟨.call (.func 43) [(.tmp 37)],some 38,some (36,false),15⟩,⟨.load true 2 (.tmp 7),some 39,some (36,false),7⟩,⟨.call (.func 44) [(.tmp 39)],some 40,some (36,false),63⟩,⟨.seq true [false,true,true,false,false] (.tmp 38) (.tmp 40),some 41,some (36,false),127⟩,o3 (.pick (.tmp 36) (.const (.bool true)) (.tmp 41)) 42 255]
def c8_5:LO:=[o3 (.mv (.const (.bool false))) 6 0]
def c8_6:LO:=[o3 (.mv (.const (.slice none 0 0))) 12 0]
def c8_7:LO:=[o3 (.mv (ci' 0)) 13 0]
def c8_8:LO:=[mv' 13 43 0,mv' 9 44 0,ln' 44 45 2,bn' .lss 43 45 46 7]
def ydpx:LO:=[mv' 12 49 0,ld' true 2 7 50 0,mv' 9 51 0,mv' 13 52 0,ix' 1 51 52 53 12,ld' false 1 53 54 28,cl' 45 [50,54] 55 62,o3 (.bslice 4 1 1 [.b false] [(0,1,(.tmp 55))]) 56 126,o3 (.app 4 1 1 (.tmp 49) (.tmp 56)) 57 255,mv' 57 12 511]
def c8_9:LO:=[mv' 13 47 0,o3 (.bin .add (.tmp 47) (ci' 1)) 48 1,mv' 48 13 3]
def ydpl:LO:=[cl' 42 [] 58 0,cl' 37 [58] 59 1,ld' true 2 7 60 0,mv' 9 61 0,mv' 9 62 0,ln' 62 63 16,o3 (.bin .sub (.tmp 63) (ci' 1)) 64 48,ix' 1 61 64 65 120,ld' false 1 65 66 248,cl' 36 [59,60,66] 67 511,o3 (.bin .eql (.tmp 67) (.const (.int .u32 0))) 68 1023,mv' 68 14 2047]
def ydrn:LO:=[cl' 46 [] 69 0,mv' 69 70 1,⟨.mv (.tmp 12),some 71,some (70,true),3⟩,⟨.mv (.tmp 10),some 72,some (70,true),3⟩,⟨.load true 2 (.tmp 7),some 73,some (70,true),3⟩,⟨.call (.func 43) [(.tmp 73)],some 74,some (70,true),19⟩,⟨.mv (.tmp 14),some 75,some (70,true),3⟩,⟨.call (.func 38) [(.tmp 71),(.tmp 72),(.tmp 74),(.tmp 75)],some 76,some (70,true),127⟩,o3 (.pick (.tmp 70) (.tmp 76) (.const (.bool false))) 77 255,mv' 77 6 511]
def c8:SC:=(.seq (.reg false c8_0) (.seq (.reg false c8_1) (.seq (.reg true c8_2) (.seq (.reg true c8_3) (.seq (.seq (.reg true c8_4) (.cond (.tmp 42) (.seq (.reg false c8_5) .ret) .skip)) (.seq (.reg false c8_6) (.seq (.seq (.reg false c8_7) (.block 0 (.loop (.seq (.seq (.reg false c8_8) (.cond (.tmp 46) .skip (.exit 0))) (.seq (.block 1 (.reg true ydpx)) (.reg false c8_9)))))) (.seq (.reg true ydpl) (.seq (.reg false ydrn) .ret)))))))))
def c9_0:LO:=[o3 (.box 24 (.tmp 0)) 3 0,o3 (.mv (.const (.bool false))) 6 0]
def c9_1:LO:=[ld' true 6 3 13 0,o3 (.call (.func 21) [(.tmp 13),(ci' 9)]) 14 1,o3 (.alloc 27 1 [.a (.slice none 0 0),.a (.slice none 0 0)]) 7 0,o0 (.store 2 (.tmp 7) (.tmp 14)) 7]
def c9_2:LO:=[cl' 42 [] 15 0,cl' 37 [15] 16 1,o3 (.alloc 58 1 [.a (.string (ByteArray.mk #[])),.a (.slice none 0 0),.a (.slice none 0 0)]) 8 0,o0 (.store 3 (.tmp 8) (.tmp 16)) 7]
def c9_3:LO:=[cl' 42 [] 18 0,ld' true 2 7 19 0,ld' true 2 7 20 0,cl' 43 [20] 21 5,o3 (.field false 0 1 (.tmp 21)) 22 13,ld' true 2 7 23 0,cl' 41 [] 24 13,mv' 1 25 0,cl' 24 [23,24,25] 26 237,mv' 2 27 0,o3 (.call (.func 26) [(.tmp 27),(ci' 60)]) 28 1005,cl' 22 [18,19,22,26,28] 29 2047,mv' 29 17 4095,xt' 17 0 30 8191,xt' 17 1 31 8191,xt' 17 2 32 8191,mv' 30 9 16383,mv' 31 10 98303,mv' 32 11 262143]
def c9_4:LO:=[o3 (.mv (ci' 0)) 12 0]
def c9_5:LO:=[mv' 12 33 0,mv' 9 34 0,ln' 34 35 2,bn' .lss 33 35 36 7]
def c9_7:LO:=[ld' true 3 8 39 0,ld' true 2 7 40 0,mv' 9 41 0,mv' 12 42 0,ix' 1 41 42 43 12,ld' false 1 43 44 28,cl' 36 [39,40,44] 45 63,o3 (.bin .eql (.tmp 45) (.const (.int .u32 0))) 46 127,ld' true 2 7 47 0,mv' 9 48 0,mv' 12 49 0,ix' 1 48 49 50 1536,ld' false 1 50 51 3584,cl' 45 [47,51] 52 8063,o3 (.beq true (.tmp 46) (.tmp 52)) 53 16383]
def c9_8:LO:=[o3 (.mv (.const (.bool false))) 6 0]
def c9_6:LO:=[mv' 12 37 0,o3 (.bin .add (.tmp 37) (ci' 1)) 38 1,mv' 38 12 3]
def c9_9:LO:=[cl' 46 [] 54 0,mv' 54 55 1,⟨.mv (.tmp 11),some 56,some (55,true),3⟩,o3 (.pick (.tmp 55) (.tmp 56) (.const (.bool false))) 57 7,mv' 57 6 15]
def c9:SC:=(.seq (.reg false c9_0) (.seq (.reg false c9_1) (.seq (.reg false c9_2) (.seq (.reg true c9_3) (.seq (.seq (.reg false c9_4) (.block 0 (.loop (.seq (.seq (.reg false c9_5) (.cond (.tmp 36) .skip (.exit 0))) (.seq (.block 1 (.seq (.reg true c9_7) (.cond (.tmp 53) (.seq (.reg false c9_8) .ret) .skip))) (.reg false c9_6)))))) (.seq (.reg false c9_9) .ret))))))
theorem ydqo:Fn 9 c9 [.t 6]:=fn_0 Tryz.func9 (by kernel_rfl) (by kernel_rfl)
end Sh
end
section
namespace Sh
open Go Ev
def ycwx:LO:=[o3 (.box 40 (.tmp 0)) 1 0,o3 (.mv (.const (.nilFunc))) 2 0]
def ycjw:LO:=[o3 (.mkfn 189 [] [(.tmp 1)]) 3 0,mv' 3 2 1]
def c154:SC:=(.seq (.reg false ycwx) (.seq (.reg false ycjw) .ret))
theorem ycbk:FnM 154 c154 [.t 2]:=fn_m Tryz.func154 (by kernel_rfl) (by kernel_rfl)
def ycmj:LO:=[o3 (.box 110 (.tmp 0)) 2 0,o3 (.box 40 (.tmp 1)) 3 0,o3 (.alloc 4 1 [.b false]) 4 0]
def ycon:LO:=[ld' false 1 3 6 0,cl' 154 [6] 7 1]
def ycnb:LO:=[mv' 8 5 0]
def ycod:LO:=[ld' false 1 2 9 0,mv' 5 10 0,ix' 1 9 10 11 3,ld' false 1 11 12 7,ld' false 1 3 13 0,bn' .and 12 13 14 31,o3 (.bin .neq (.tmp 14) (.const (.int .u32 0))) 15 63]
def ydmf:LO:=[o0 (.store 1 (.tmp 4) (.const (.bool false))) 0]
def ycpd:LO:=[o0 (.store 1 (.tmp 4) (.const (.bool true))) 0]
def c221:SC:=(.seq (.reg false ycmj) (.seq (.seq (.reg false ycon) (.block 0 (.range (.tmp 7) [8] (.reg false ycnb) (.block 1 (.seq (.reg true ycod) (.cond (.tmp 15) (.seq (.reg false ydmf) .ret) .skip)))))) (.seq (.reg false ycpd) .ret)))
theorem ycej:FnU 221 c221 [.c 4 false 1]:=fn_u Tryz.func221 (by kernel_rfl) (by kernel_rfl)
def ydjc:LO:=[o3 (.alloc 87 1 [.a (.string (ByteArray.mk #[])),.i .i64 0,.i .i64 0,.i .i64 0,.i .i64 0,.i .i64 0]) 2 0]
def ydif:LO:=[mv' 0 3 0,o3 (.build [.a (.string (ByteArray.mk #[])),.i .i64 0,.i .i64 0,.i .i64 0,.i .i64 0,.i .i64 0] [(0,1,(.tmp 3)),(1,1,(ci' 2))]) 4 1,o0 (.store 6 (.tmp 2) (.tmp 4)) 3]
def c99:SC:=(.seq (.reg false ydjc) (.seq (.reg false ydif) .ret))
theorem ydmx:Fn 99 c99 [.c 2 true 6]:=fn_0 Tryz.func99 (by kernel_rfl) (by kernel_rfl)
end Sh
end
section
def ybfx(g:Gr):Sh.SV:=if ydn g=true then .ag (Sh.clmV 2 false true (yqt g/2+2) (-1))else .ag (Sh.clmV 0 false false 0 0)
theorem ybbf(c:Conf)(k:Nat):ledB c (k+1)=ledB c k|||(lAt c k).toNat*2^k:=by
 unfold ledB;rw[List.range_succ,List.foldl_append];rfl
theorem ybor{c:Conf}(hl:∀v,v<c.length->lAt c v=0\/lAt c v=1)(h24:c.length<=24):∀k,k<=c.length->ledB c k<2^24
 |0,_=>zAG 24
 | k+1,hk=>by
   rw[ybbf];refine Nat.or_lt_two_pow (ybor hl h24 k (by omega)) ?_
   have h1:2^k<2^24:=zAK (by omega) (by omega)
   rcases hl k (by omega)with e|e
   ·rw[e];simp
   ·rw[e];show 1*2^k<_;omega
theorem ycgj{b v:Nat}(h:b*2^v<2^32):IntKind.wrap .u32 ((b:Int)*2^(v:Int).toNat)=((b*2^v:Nat):Int):=by
 have e:((b:Int)*2^(v:Int).toNat)=((b*2^v:Nat):Int):=by
  rw[zAC]
  push_cast
  rfl
 rw[e];exact yhh h
theorem ycbo{g:Gr}(hg:ybe g)(f:Nat->Int):yid f g<2^24:=by
 have h24:=hg.2.1;refine Nat.lt_pow_two_of_testBit _ fun i hi=>?_;cases h:(yid f g).testBit i with
 |false=>rfl
 |true=>have:=((ysb hg).1 h).1;omega
namespace Sh
open Ev Go.RowKit
theorem ybis{g:Gr}(hI:GrI g):Returns Tryz.prog 100 [grV g] (.b (ydn g)):=by
 refine Returns.of (ydee _ _ ?_);have hC:=ybsk hI;simp only[grV]at hC;simp only[c100,yclx,ycsp,grV,go_sem,zB,zC,zI,↓reduceIte];refine hC.use ?_;simp only[ybh,ykh,go_sem,zB,zC,↓reduceIte,reduceCtorEq]
theorem yzx{H:List Int}{v:Nat}(hv:v<H.length)(hl:H.length<=1000):Returns Tryz.prog 103 [.i .i64 v,.rf [yw H]] (.i .i64 (H.getD v 0)):=by
 refine Returns.of (ycyb _ _ ?_);simp only[c103,ycwc,ycnu,yw,clash,go_sem,zB,zC,↓reduceIte,reduceCtorEq];exact⟨⟨by omega,by omega⟩,Sim.refl _⟩
set_option maxHeartbeats 2000000 in
theorem ybll{g:Gr}(hI:GrI g){c:Conf}(hR:ycfy c)(he:ydn g=true->Tr g):Returns Tryz.prog 45 [grV g,ybl c] (.b (yhc g c)):=by
 refine Returns.of (ydnm _ _ ?_);have hF:=ybis hI;unfold yhc;cases ht:ydn g with
 | false =>
   have e:yfx g c=false:=by unfold yfx;rw[ht];rfl
   rw[e,zAZ];rw[ht]at hF;simp only[grV]at hF;simp only[c45,ydcn,ydfm,yczl,grV,clash,go_sem,zB,zC,zI,↓reduceIte];refine hF.use ?_;simp only[ybh,clash,go_sem,zB,zC,↓reduceIte,reduceCtorEq];exact Sim.refl _
 | true =>
   have hT:=he ht;have hg:=hT.good;have h24:=hg.2.1;have hpl:=hg.2.2.1
   have hC:=ycgk hg hR (G:=[(g.ids.length:Int),1]) (fun x hx=>by
    simp at hx;rcases hx with rfl|rfl<;>exact yft (by omega))
   rw[ht]at hF;simp only[grV]at hF;simp only[c45,ydcn,ydfm,grV,yw,clash,go_sem,zB,zC,zI,↓reduceIte];refine hF.use ?_;simp only[ybh,splice,clash,go_sem,zB,zC,zN,zI,↓reduceIte,reduceCtorEq];have two:∀{q:Nat},q<2->q=0\/q=1:=fun {q} h=>by omega
   refine .inl ⟨fun q hq=>by rcases two hq with rfl|rfl<;>simp only[go_sem],hC.useS ?_ ?_⟩
   ·refine⟨Sim.refl (grV g),Sim.refl _,?_,trivial⟩;refine yiv fun q hq=>?_;rcases two hq with rfl|rfl<;>(simp only[zAO,zAP,go_sem];exact⟨Sim.refl _,trivial⟩)
   have eC:yfx g c=yoy g.ports.length (ydi g [(g.ids.length:Int),1]) c:=by unfold yfx;rw[ht,zK]
   rw[<-eC];cases hcf:yfx g c with
   | false =>
     simp only[yczl,go_sem,↓reduceIte];exact Sim.refl _
   | true =>
     obtain⟨_,hcl,hc1⟩:=ysz hcf;have hH:=ybea hT;have hhb:=fun v hv=>hT.ht_le (v:=v) hv;have hLl:=ybor (c:=c) (fun v hv=>(hc1 v hv).2.2) (by omega)
     have hLs:=ybbf c;have hL0:ledB c 0=0:=rfl;have hPl:=ycbo hg (htP g);obtain⟨n,hn⟩:∃n,g.ports.length=n:=⟨_,rfl⟩
     have hP:=ybzc hg (f:=htP g) (h:=103) (cp:=[.rf [yw (mapR n (htP g))]]) (by rfl) (fun v hv=>by
      have:=yzx (H:=mapR n (htP g)) (v:=v) (by rw[yjq];omega) (by rw[yjq];omega)
      rw[gmR _ _ _ _ (show v<n by omega)]at this
      exact this)
     have hHe:ybzi g c=(zO c.length).all fun v=>!(hAt c v != htP g v):=rfl;have hOe:ybys g c=(((popP (ledB c c.length):Int)==1)&&((difB (ledB c c.length) (yid (htP g) g):Int)==0)):=rfl;rw[hn]at h24 hH hcl;rw[hcl]at hHe hOe hLl;have hml:=yjq n (htP g);have hmg:∀v,v<n->(mapR n (htP g)).getD v 0=htP g v:=fun v hv=>gmR _ _ _ _ hv;obtain⟨H,hHH⟩:∃H,mapR n (htP g)=H:=⟨_,rfl⟩;rw[hHH]at hH hml hmg hP;obtain⟨Pk,hPk⟩:∃x,yid (htP g) g=x:=⟨_,rfl⟩
     rw[hPk]at hP hOe hPl;obtain⟨L,hLL⟩:∃L:Nat->Nat,(fun k=>ledB c k)=L:=⟨_,rfl⟩;have hL':∀k,ledB c k=L k:=fun k=>by rw[<-hLL]
     simp only[hL']at hLl hLs hL0 hOe;simp only[grV]at hH hP;simp only[yw,hml]at hH hP;rw[zK];simp only[ybh,ydoi,clash,go_sem,zB,zC,zI,↓reduceIte];refine hH.use ?_;simp only[ydlu,ydni,ybl,hcl,clash,go_sem,zB,zC,↓reduceIte,reduceCtorEq]
     refine ybj (σ:=Nat) (fun k=>⟨[(27,.i .i64 k),(26,.i .i64 n),(25,.sl 1 n fun v=>[yw (c.getD v [])]),(6,.i .u32 (L k)),(2,.pt (2,0) 0 0),(5,.pt (5,0) 0 0)],
      [(2,.one (some ⟨27,true,2,1,fun _=>[yw g.ids,yx g.ports]⟩)),(5,.one (some ⟨22,true,1,1,fun _=>[.sl 1 n fun v=>[.i .i64 (H.getD v 0)]]⟩))]⟩)
        (fun k=>k<=n/\∀j,j<k->hAt c j=htP g j) (fun k=>n-k) 0 ⟨Nat.zero_le _,fun j hj=>absurd hj (zAU j)⟩ ?_ ?_
     ·refine yh [] [] [] ?_;simp only[hL0,allQ,live,yc,Int.natCast_zero,go_sem,zB,↓reduceIte,reduceCtorEq];exact fun _ _=>Sim.refl _
     rintro k ⟨hk,hall⟩
     by_cases hlt:k<n
     ·have t1:decide ((k:Int)<(n:Int))=true:=decide_eq_true (by omega)
      obtain⟨hs1,hs2,hs3⟩:=hc1 k (by omega)
      have hgk:=hmg k hlt;have hLk:=hLl k (by omega)
      have hLn:=hLs k;have hke:hAt c k=(c.getD k []).getD 0 0:=rfl;have hle:lAt c k=(c.getD k []).getD 1 0:=rfl
      obtain⟨b,hb,hb1⟩:∃b:Nat,lAt c k=(b:Int)/\b<=1:=by
       rcases hs3 with e|e
       ·exact⟨0,e,by omega⟩
       ·exact⟨1,e,by omega⟩
      obtain⟨s,hs⟩:∃s,c.getD k []=s:=⟨_,rfl⟩;rw[hs]at hs1 hke hle;obtain⟨x,hx⟩:∃x,s.getD 0 0=x:=⟨_,rfl⟩;rw[hx]at hke;rw[hb]at hle hLn
      by_cases heq:x=htP g k
      ·have t2:(x != htP g k)=false:=by rw[heq];simp
       have cv:=yhh (a:=b) (by omega)
       have hbl:b*2^k<2^24:=by
        have h1:2^k<2^24:=zAK (by omega) (by omega)
        rcases(show b=0\/b=1 by omega)with e|e
        ·rw[e];simp
        ·rw[e];omega
       have sh:=ycgj (b:=b) (v:=k) (by omega)
       have ov:=u32_or (a:=L k) (b:=b*2^k) (by omega) (by omega)
       rw[zAC]at hLn;rw[<-hLn]at ov;simp only[IntKind.bits,zAC]at sh ov;simp only[ycgc,ydeg,ydak,ycsf,yctj,yw,hs,hs1,<-hle,hgk,hx,t1,t2,cv,sh,ov,clash,go_sem,zAV,zB,zC,↓reduceIte,reduceCtorEq]
       repeat (refine⟨by omega,?_⟩)
       refine⟨ikw (by omega) (by omega),?_⟩
       refine yj (k+1) ⟨by omega,fun j hj=>?_⟩ (by omega) ?_
       ·by_cases q:j=k
        ·rw[q,hke];exact heq
        ·exact hall j (by omega)
       ·refine yh [] [] [] ?_;simp only[go_sem,allQ,live,yc,ybb,go_sem,zB,↓reduceIte,reduceCtorEq];omega
      ·have t2:(x != htP g k)=true:=by rw[bne_iff_ne];exact heq
       have e:(zO n).all (fun v=>!(hAt c v != htP g v))=false:=by
        rw[List.all_eq_false];exact⟨k,List.mem_range.2 hlt,by rw[hke,t2];decide⟩
       rw[hHe,e,zAZ];simp only[ycgc,ydeg,ydak,ydjl,yw,hs,hs1,hgk,hx,t1,t2,clash,go_sem,zAV,zB,zC,↓reduceIte,reduceCtorEq]
       repeat (refine⟨by omega,?_⟩)
       exact Sim.refl _
     ·obtain rfl:k=n:=by omega
      have t1:decide ((k:Int)<(k:Int))=false:=decide_eq_false (by omega)
      have e:(zO k).all (fun v=>!(hAt c v != htP g v))=true:=by
       rw[List.all_eq_true];intro v hv;rw[zU,bne_eq_false_iff_eq];exact hall v (List.mem_range.1 hv)
      have hLk:=hLl k (by omega)
      have hO:=ybhw (s:=L k) (by omega)
      have an:=u32_andNot (a:=L k) (b:=Pk) (by omega) (by omega)
      simp only[IntKind.bits]at an;rw[hHe,e,zK,hOe];simp only[ycgc,ycol,t1,clash,go_sem,zB,zC,zN,↓reduceIte];refine .inl (hP.use ?_);simp only[ybh,ycgu,clash,go_sem,zB,zC,↓reduceIte,reduceCtorEq];refine hO.use ?_;cases o1:((popP (L k):Int)==1)with
      | false =>
        simp only[o1,clash,go_sem,zB,zC,↓reduceIte,reduceCtorEq];exact Sim.refl _
      | true =>
        simp only[o1,an,clash,go_sem,zB,zC,↓reduceIte,reduceCtorEq];exact Sim.refl _
theorem ybmp{g:Gr}(hI:GrI g):Returns Tryz.prog 43 [grV g] (ybfx g):=by
 refine Returns.of (ydhq _ _ ?_);have hF:=ybis hI;unfold ybfx;cases ht:ydn g with
 | false =>
   rw[ht]at hF;simp only[grV]at hF;simp only[c43,ydam,ydeb,ydmw,grV,clmV,clash,go_sem,zB,zC,zI,↓reduceIte];refine hF.use ?_;simp only[ybh,splice,clash,go_sem,zB,zC,↓reduceIte];exact Sim.refl _
 | true =>
   have hD:=ybrw hI;rw[if_pos (ytt ht)]at hD;have hg:=ybdu ht;have h24:=hg.2.1;have d1:=ylk (g:=g) g.ports.length;have d2:=ybtz hg g.ports.length (zV _);have d3:(yqt g).tdiv 2=yqt g/2:=Int.tdiv_eq_ediv_of_nonneg d1;have d1:0<=yqt g:=d1;have d2:yqt g<=24:=d2;rw[ht]at hF;simp only[grV]at hF hD;simp only[c43,ydam,ydeb,ydkd,grV,clmV,clash,go_sem,zB,zC,zI,↓reduceIte];refine hF.use ?_;simp only[ybh,splice,clash,go_sem,zB,zC,zN,↓reduceIte]
   refine hD.use ?_;simp only[d3,go_sem,zB,zC,↓reduceIte];exact⟨⟨by decide,ikw (by omega) (by omega)⟩,ikw (by omega) (by omega),Sim.refl _⟩
theorem ybwo(nm:ByteArray):Returns Tryz.prog 99 [.a (.string nm)] (.ag (varC ⟨nm,2,0,0,0,0⟩)):=by
 refine Returns.of (ydmx _ _ ?_);simp only[c99,ydjc,ydif,varC,go_sem,zB,zC,zN,zI,↓reduceIte,reduceCtorEq];exact Sim.refl _
theorem ybpo:Returns Tryz.prog 41 [] (ydh [⟨⟨#[104]⟩,1,0,0,1,0⟩,⟨⟨#[108]⟩,2,0,0,0,0⟩]):=by
 refine Returns.of (ydjr _ _ ?_);have h1:=ybls ⟨#[104]⟩ 0 1 0;have h2:=ybwo ⟨#[108]⟩;simp only[varC]at h1 h2;simp only[c41,ydlo,ydjb,go_sem,↓reduceIte];refine h1.use ?_;simp only[ybh,clash,go_sem,zB,zC,zN,zI,↓reduceIte,reduceCtorEq];refine h2.use ?_;simp only[go_sem,zC,↓reduceIte];have two:∀{q:Nat},q<2->q=0\/q=1:=fun {q} h=>by omega
 refine⟨fun q hq=>by rcases two hq with rfl|rfl<;>simp only[go_sem],?_⟩
 refine yiv fun q hq=>?_;rcases two hq with rfl|rfl<;>(simp only[varC,zAO,zAP,go_sem];exact⟨Sim.refl _,Sim.refl _,Sim.refl _,Sim.refl _,Sim.refl _,Sim.refl _,trivial⟩)
end Sh
end
section
namespace Sh
open Go Ev
theorem Cm.ct{P:Program}{g:FuncId}{args:List SV}{Q:SV->Own->Prop}{R:SV->Prop}(h:Cm P g [] [] args Q)(hq:∀r o',Q r o'->vok o' 5 r/\R (view o' 5 r)):Ct P g args R:=by
 intro G m us hw hle hargs
 have hc0:Conc m.next G om0 ⟨[],[]⟩ ⟨0,.leaf⟩ (enterM m) :=
  ⟨hw,zV _,zV _,hle,fun β b h=>(by cases h),fun β _=>rfl,fun β γ k z k' z' h=>(by cases h),fun β k z h=>(by cases h),fun t v hv=>(by cases hv)⟩
 obtain⟨v,m1,r,o',F',ω',s0,t2,hrv,l1,l2,_,_,hQ⟩:=h m.next G om0 ⟨0,.leaf⟩ (enterM m) us hc0 hargs
 obtain⟨r3,r4⟩:=hq r o' hQ
 have hs0:ybq P (.call g us m) (.call v m1):=by
  obtain⟨n,b,l⟩:=m;exact ybq.relow s0
 have hm1:m.next<=m1.low:=t2.low
 have hold:∀{i x},m.b.get i=some x->i<m.next:=fun {i x} q=>hw i x q
 have hview:∀H:AM,Le F' H->(∀β k z,ω' β=some (some (k,z))->∀b,m1.b.get k=some b->H k=some b)->RV H om0 (view o' 5 r) v:=fun H h1 h2=>yir t2 h1 h2 hrv r3
 have hs1:ybq P (.call g us m) (.call v ⟨m1.next,ygs m.b m1.b,m1.low⟩):=by
  intro hwm;obtain⟨ext,hcall⟩:=hs0 hwm
  have hget:∀{i x},(ygs m.b m1.b).get i=some x->m.b.get i=some x\/m1.b.get i=some x:=fun {i x} q=>by
   rw[ycy]at q;split at q
   ·rename_i y hy;cases q;exact .inl hy
   ·exact .inr q
  refine⟨⟨ext.next,fun i b hq=>?_,fun i b h1 h2 hq=>?_,fun i b hq=>?_⟩,fun φ M w args' hR hs ha hf=>?_⟩
  ·rcases hget hq with q|q
   ·exact .inl ⟨b,q⟩
   ·exact ext.dom i b q
  ·rcases hget hq with q|q
   ·exact q
   ·exact ext.old i b h1 h2 q
  ·rcases hget hq with q|q
   ·exact zT (hold q) ext.next
   ·exact ext.wf i b q
  ·refine(hcall φ M w args' hR hs ha hf).mono ?_;rintro e' w' ⟨v',rfl,φ',M',hgd,hv⟩;refine⟨v',rfl,φ',M',⟨hgd.le,hgd.out,hgd.rel,fun i b hq=>?_,hgd.frame,hgd.wg⟩,hv⟩;rcases hget hq with q|q
   ·have hi:=hold q;rw[hgd.frame i (fun z=>by omega) (.inr (zT hi hm1))]
    exact hs i b q
   ·exact hgd.sub i b q
 have hnone:∀{i},m.next<=i->m.b.get i=none:=fun {i} q=>by
  cases hh:m.b.get i with
  |none=>rfl
  |some x=>have:=hold hh;omega
 refine⟨_,_,view o' 5 r,hs1,hm1,fun i b hq=>?_,r4,hview _ (fun i b hq=>?_) (fun β k z hk b hq=>?_)⟩
 ·show(ygs m.b m1.b).get i=some b;rw[ycy,hq]
 ·unfold frsh;rcases l2 i b hq with q|q
  ·rw[if_neg (by have:=hold (hle i b q);omega)];exact q
  ·rw[if_pos q];show(ygs m.b m1.b).get i=some b;rw[ycy,hnone q];exact t2.sub i b hq
 ·unfold frsh;have:=(t2.apart β k z hk).2.1;rw[if_pos this];show(ygs m.b m1.b).get k=some b;rw[ycy,hnone this];exact hq
theorem Cm.weak {P:Program}{g:FuncId}{o:Own}{args:List SV}{Q R:SV->Own->Prop}(h:Cm P g [] o args Q)
 (hq:∀r o',Q r o'->∃r2 o2,Weak [] ⟨[(0,r)],o'⟩ ⟨[(0,r2)],o2⟩/\(cln (live o2) 5 r2=true/\allQ (fun p=>ycz (live o2) p.2) o2)/\R r2 o2):Cm P g [] o args R:=by
 intro lo G ω f m us hc hargs;obtain⟨v,m1,r,o',F',ω',s0,t2,hrv,l1,l2,_,_,hQ⟩:=h lo G ω f m us hc hargs;obtain⟨r2,o2,hw,hcl,hR⟩:=hq r o' hQ
 have t3:Conc lo F' ω' ⟨[(0,r)],o'⟩ ⟨1,tOf [v]⟩ m1:=⟨t2.wf,t2.low,t2.nxt,t2.sub,t2.own,t2.dom,t2.inj,t2.apart,fun t x hx=>by
  unfold look at hx;split at hx
  ·rename_i e
   cases hx
   exact⟨v,by rw[yco];simp[<-e],hrv⟩
  ·cases hx⟩
 obtain⟨ω2,F2,k1,k2,k3,_⟩:=hw lo F' ω' _ m1 t3;obtain⟨u,q1,q2⟩:=k3.fr 0 r2 rfl
 have e:u=v:=by
  rw[yco]at q1
  simpa using q1.symm
 subst e
 exact⟨u,m1,r2,o2,F2,ω2,s0,⟨k3.wf,k3.low,k3.nxt,k3.sub,k3.own,k3.dom,k3.inj,k3.apart,fun t x hx=>(by cases hx)⟩,q2,fun x b hx=>k1 x b (l1 x b hx),fun x b hx=>by
  rcases k2 x b hx with z|z
  ·exact l2 x b z
  ·exact .inr z,fun β hβ=>absurd hβ List.not_mem_nil,⟨hcl.1,hcl.2,trivial⟩,hR⟩
end Sh
end
section
theorem TreeTo.tr{x:NetR}{g:Gr}(hg:ybe g)(h:TreeTo x g.ports.length g):Tr g:=by
 have hc:=Tre.conn hg h.tre;refine⟨hg,hc,ydil hg hc ?_⟩;have:=h.count;have:=hg.1;omega
namespace Sh
open Ev Go.RowKit
theorem ybas(g:Gr):vok (yge g.ports) 5 (yuc g)/\Sim (view (yge g.ports) 5 (yuc g)) (grV g):=by
 obtain⟨P,hP⟩:∃P,g.ports=P:=⟨_,rfl⟩;simp only[yuc,yge,grV,hP,go_sem,zB,↓reduceIte];refine⟨fun q hq=>?_,?_⟩
 ·simp only[if_pos hq];exact⟨zV _,fun k hk=>by simp only[rowO,go_sem]⟩
 ·refine yub ⟨Sim.refl _,?_,trivial⟩;refine yiv fun q hq=>?_;simp only[if_pos hq];simp only[rowO,yba,go_sem];exact⟨Sim.refl _,trivial⟩
theorem ycak{x:NetR}(hx:x.ok){most:Nat}(hm:1<=most/\most<=24) :
 Ct Tryz.prog 21 [.ag (netC x),.i .i64 most] fun r=>∃g,Tr g/\ydn g=true/\g.ports.length<=most/\Sim r (grV g) :=
 (ydaa hx hm).ct fun r o' ⟨g,hg,ht,hn,e1,e2⟩=>by
   subst e1 e2;have hT:=ht.tr hg;refine⟨(ybas g).1,g,hT,?_,hn,(ybas g).2⟩;unfold ydn;rw[hT.conn];have:=ht.count;have:=hg.1;simp only[zK,decide_eq_true_eq];omega
end Sh
end
section
namespace Ev
def Nzb0:BlkL:=⟨4,71,1,[.slice (some ⟨17,0,none⟩) 1 CU,.slice (some ⟨19,0,none⟩) 1 CU]⟩
def Nzb1:BlkL:=⟨1257,240,2,[.int .i64 36,.int .i64 0,.int .i64 5,.int .i64 0,.int .i64 43,.int .i64 0,.int .i64 37,.int .i64 0,.int .i64 9,.int .i64 0,.int .i64 1,.int .i64 2,.int .i64 1,.int .i64 0,.int .i64 43,.int .i64 0,.int .i64 37,.int .i64 0,.int .i64 28,.int .i64 0,.int .i64 12,.int .i64 0,.int .i64 6,.int .i64 0,.int .i64 33,.int .i64 0,.int .i64 28,.int .i64 0,.int .i64 12,.int .i64 0,.int .i64 1,.int .i64 1,.int .i64 6,.int .i64 0]⟩
def Nzb2:BlkL:=⟨1413,240,2,[.int .i64 43,.int .i64 0,.int .i64 37,.int .i64 0,.int .i64 9,.int .i64 0,.int .i64 1,.int .i64 2,.int .i64 1,.int .i64 0,.int .i64 43,.int .i64 0,.int .i64 37,.int .i64 0,.int .i64 28,.int .i64 0,.int .i64 12,.int .i64 0,.int .i64 6,.int .i64 0,.int .i64 33,.int .i64 0,.int .i64 28,.int .i64 0,.int .i64 12,.int .i64 0,.int .i64 1,.int .i64 1,.int .i64 6,.int .i64 0]⟩
def Nzb3:BlkL:=⟨1422,200,2,[.int .i64 0,.slice (some ⟨1413,0,none⟩) 15 CU]⟩
def Nzb4:BlkL:=⟨1495,240,2,[.int .i64 41,.int .i64 0,.int .i64 5,.int .i64 1,.int .i64 19,.int .i64 0,.int .i64 20,.int .i64 0,.int .i64 38,.int .i64 0,.int .i64 12,.int .i64 0,.int .i64 5,.int .i64 0]⟩
def Nzb5:BlkL:=⟨1508,240,2,[.int .i64 3,.int .i64 0]⟩
def Nzb6:BlkL:=⟨1515,200,2,[.int .i64 1,.slice (some ⟨1508,0,none⟩) 1 1]⟩
def Nzb7:BlkL:=⟨1588,240,2,[.int .i64 41,.int .i64 0,.int .i64 19,.int .i64 0,.int .i64 5,.int .i64 1,.int .i64 20,.int .i64 0,.int .i64 37,.int .i64 0,.int .i64 12,.int .i64 0,.int .i64 5,.int .i64 0]⟩
def Nzb8:BlkL:=⟨1601,240,2,[.int .i64 2,.int .i64 0]⟩
def Nzb9:BlkL:=⟨1608,200,2,[.int .i64 1,.slice (some ⟨1601,0,none⟩) 1 1]⟩
def yczz:BlkL:=⟨1766,240,2,[.int .i64 41,.int .i64 0,.int .i64 41,.int .i64 0,.int .i64 37,.int .i64 0,.int .i64 5,.int .i64 0,.int .i64 6,.int .i64 0,.int .i64 20,.int .i64 0,.int .i64 38,.int .i64 0,.int .i64 12,.int .i64 0,.int .i64 5,.int .i64 0,.int .i64 21,.int .i64 0,.int .i64 41,.int .i64 0,.int .i64 35,.int .i64 0,.int .i64 12,.int .i64 0,.int .i64 5,.int .i64 0,.int .i64 35,.int .i64 0,.int .i64 12,.int .i64 1,.int .i64 5,.int .i64 1]⟩
def ycyz:BlkL:=⟨1785,240,2,[.int .i64 19,.int .i64 0,.int .i64 5,.int .i64 1]⟩
def ycxv:BlkL:=⟨1792,200,2,[.int .i64 1,.slice (some ⟨1785,0,none⟩) 2 CU]⟩
def yczv:BlkL:=⟨2927,22,1,[.slice (some ⟨2925,0,none⟩) 2 2,.slice (some ⟨2926,0,none⟩) 2 2]⟩
end Ev
end
section
namespace Ev
def Nzm1:Fact:=yyt.move [1257,1413,1422] 2950
theorem ydfd:ycs Tryz.prog Nzm1:=ycn (ybc.at_ ygv 0 rfl) (by kernel_rfl)
def Nzm2:Fact:=yxw.move [1766,1785,1792] 3250
theorem ydco:ycs Tryz.prog Nzm2:=ycn (ybc.at_ ygv 1 rfl) (by kernel_rfl)
def Nzm3:Fact:=yyn.move [1257,1413,1422,3368] 3372
theorem ydfq:ycs Tryz.prog Nzm3:=ycn (ybc.at_ ylo 0 rfl) (by kernel_rfl)
def Nzm4:Fact:=yyv.move [1766,1785,1792,3368] 3867
theorem ydbu:ycs Tryz.prog Nzm4:=ycn (ybc.at_ ymy 0 rfl) (by kernel_rfl)
/- selfstab/memory.Check -/
def ycox:Fact:=⟨112,[.agg #[.string (by8 [101,108,101,99,116,105,111,110]),.slice (some ⟨1083,0,none⟩) 2 CU,.slice (some ⟨1796,0,none⟩) 4 CU],.agg #[.slice (some ⟨9,0,none⟩) 2 CU,.slice (some ⟨4,0,none⟩) 2 2],.slice (some ⟨2927,0,none⟩) 2 2],2930,[Nzb0,⟨9,3,1,[.int .i64 0,.int .i64 1]⟩,⟨17,95,2,[.int .i64 1,.int .i64 1]⟩,⟨19,95,2,[.int .i64 0,.int .i64 1]⟩,⟨1083,87,6,[.string (by8 [104]),.int .i64 1,.int .i64 0,.int .i64 0,.int .i64 1,.int .i64 0,.string (by8 [108]),.int .i64 2,.int .i64 0,.int .i64 0,.int .i64 0,.int .i64 0]⟩,Nzb1,Nzb2,Nzb3,Nzb4,Nzb5,Nzb6,Nzb7,Nzb8,Nzb9,yczz,ycyz,ycxv,⟨1796,191,3,[.string (by8 [102,105,120]),.slice (some ⟨1257,0,none⟩) 17 CU,.slice (some ⟨1422,0,none⟩) 1 CU,.string (by8 [100,114,111,112]),.slice (some ⟨1495,0,none⟩) 7 CU,.slice (some ⟨1515,0,none⟩) 1 CU,.string (by8 [116,97,107,101]),.slice (some ⟨1588,0,none⟩) 7 CU,.slice (some ⟨1608,0,none⟩) 1 CU,.string (by8 [116,105,101]),.slice (some ⟨1766,0,none⟩) 17 CU,.slice (some ⟨1792,0,none⟩) 1 CU]⟩,⟨2925,3,1,[.int .i64 0,.int .i64 0]⟩,⟨2926,3,1,[.int .i64 0,.int .i64 0]⟩,yczv],.int .i64 0,4106,[],2930⟩
def ydqq:List Fact:=[ycox]
theorem ycfd:ybc ydqq:=ybc.seq (ybc.cons (f:=Nzm1) ydfd (ybc.cons (f:=Nzm2) ydco (ybc.cons (f:=Nzm3) ydfq (ybc.cons (f:=Nzm4) ydbu ybc.nil)))) (by kernel_rfl)
def Nzm5:Fact:=yyt.move [1257,1413,1422] 4471
theorem ycyt:ycs Tryz.prog Nzm5:=ycn (ybc.at_ ygv 0 rfl) (by kernel_rfl)
def Nzm6:Fact:=yxw.move [1766,1785,1792] 4771
theorem ydbe:ycs Tryz.prog Nzm6:=ycn (ybc.at_ ygv 1 rfl) (by kernel_rfl)
def Nzm7:Fact:=yyn.move [1257,1413,1422,4889] 4893
theorem ycxw:ycs Tryz.prog Nzm7:=ycn (ybc.at_ ylo 0 rfl) (by kernel_rfl)
def Nzm8:Fact:=yyv.move [1766,1785,1792,4889] 5388
theorem ydew:ycs Tryz.prog Nzm8:=ycn (ybc.at_ ymy 0 rfl) (by kernel_rfl)
/- selfstab/memory.Valid -/
def ybrd:Fact:=⟨92,[.agg #[.string (by8 [101,108,101,99,116,105,111,110]),.slice (some ⟨1083,0,none⟩) 2 CU,.slice (some ⟨1796,0,none⟩) 4 CU],.agg #[.slice (some ⟨9,0,none⟩) 2 CU,.slice (some ⟨4,0,none⟩) 2 2],.slice (some ⟨2927,0,none⟩) 2 2],4449,[Nzb0,⟨9,3,1,[.int .i64 0,.int .i64 1]⟩,⟨17,95,2,[.int .i64 1,.int .i64 1]⟩,⟨19,95,2,[.int .i64 0,.int .i64 1]⟩,⟨1083,87,6,[.string (by8 [104]),.int .i64 1,.int .i64 0,.int .i64 0,.int .i64 1,.int .i64 0,.string (by8 [108]),.int .i64 2,.int .i64 0,.int .i64 0,.int .i64 0,.int .i64 0]⟩,Nzb1,Nzb2,Nzb3,Nzb4,Nzb5,Nzb6,Nzb7,Nzb8,Nzb9,yczz,ycyz,ycxv,⟨1796,191,3,[.string (by8 [102,105,120]),.slice (some ⟨1257,0,none⟩) 17 CU,.slice (some ⟨1422,0,none⟩) 1 CU,.string (by8 [100,114,111,112]),.slice (some ⟨1495,0,none⟩) 7 CU,.slice (some ⟨1515,0,none⟩) 1 CU,.string (by8 [116,97,107,101]),.slice (some ⟨1588,0,none⟩) 7 CU,.slice (some ⟨1608,0,none⟩) 1 CU,.string (by8 [116,105,101]),.slice (some ⟨1766,0,none⟩) 17 CU,.slice (some ⟨1792,0,none⟩) 1 CU]⟩,⟨2925,3,1,[.int .i64 0,.int .i64 0]⟩,⟨2926,3,1,[.int .i64 0,.int .i64 0]⟩,yczv],.bool true,5627,[],4449⟩
def ydox:List Fact:=[ybrd]
theorem yccj:ybc ydox:=ybc.seq (ybc.cons (f:=Nzm5) ycyt (ybc.cons (f:=Nzm6) ydbe (ybc.cons (f:=Nzm7) ycxw (ybc.cons (f:=Nzm8) ydew ybc.nil)))) (by kernel_rfl)
end Ev
end
section
namespace Ev
/- selfstab/step.Step -/
def ybyh:Fact:=⟨53,[.agg #[.string (by8 [101,108,101,99,116,105,111,110]),.slice (some ⟨1083,0,none⟩) 2 CU,.slice (some ⟨1796,0,none⟩) 4 CU],.agg #[.slice (some ⟨9,0,none⟩) 2 CU,.slice (some ⟨4,0,none⟩) 2 2],.slice (some ⟨2927,0,none⟩) 2 2,.int .u32 1],2928,[Nzb0,⟨9,3,1,[.int .i64 0,.int .i64 1]⟩,⟨17,95,2,[.int .i64 1,.int .i64 1]⟩,⟨19,95,2,[.int .i64 0,.int .i64 1]⟩,⟨1083,87,6,[.string (by8 [104]),.int .i64 1,.int .i64 0,.int .i64 0,.int .i64 1,.int .i64 0,.string (by8 [108]),.int .i64 2,.int .i64 0,.int .i64 0,.int .i64 0,.int .i64 0]⟩,Nzb1,Nzb2,Nzb3,Nzb4,Nzb5,Nzb6,Nzb7,Nzb8,Nzb9,yczz,ycyz,ycxv,⟨1796,191,3,[.string (by8 [102,105,120]),.slice (some ⟨1257,0,none⟩) 17 CU,.slice (some ⟨1422,0,none⟩) 1 CU,.string (by8 [100,114,111,112]),.slice (some ⟨1495,0,none⟩) 7 CU,.slice (some ⟨1515,0,none⟩) 1 CU,.string (by8 [116,97,107,101]),.slice (some ⟨1588,0,none⟩) 7 CU,.slice (some ⟨1608,0,none⟩) 1 CU,.string (by8 [116,105,101]),.slice (some ⟨1766,0,none⟩) 17 CU,.slice (some ⟨1792,0,none⟩) 1 CU]⟩,⟨2925,3,1,[.int .i64 0,.int .i64 0]⟩,⟨2926,3,1,[.int .i64 0,.int .i64 0]⟩,yczv],.tuple #[.slice (some ⟨4322,0,none⟩) 2 2,.int .i64 0],4413,[⟨4322,22,1,[.slice (some ⟨4406,0,none⟩) 2 CU,.slice (some ⟨4324,0,none⟩) 2 CU]⟩,⟨4324,3,1,[.int .i64 0,.int .i64 0]⟩,⟨4406,3,1,[.int .i64 0,.int .i64 1]⟩],2928⟩
def ydqy:List Fact:=[ybyh]
theorem ycdg:ybc ydqy:=ybc.seq (ybc.cons (f:=ycox) (ybc.at_ ycfd 0 rfl) ybc.nil) (by kernel_rfl)
end Ev
end
section
namespace Ev
def Nzm0:Fact:=yku.move [] 21
theorem ydaz:ycs Tryz.prog Nzm0:=ycn (ybc.at_ ybcz 0 rfl) (by kernel_rfl)
end Ev
end
section
namespace Ev
open Go Go.RowKit
def nzF:List Fact:=[Nzm0,ybyh,ybrd]
theorem ydhv:ybc nzF:=(ybc.cons (f:=Nzm0) ydaz (ybc.cons (f:=ybyh) (ybc.at_ ycdg 0 rfl) (ybc.cons (f:=ybrd) (ybc.at_ yccj 0 rfl) ybc.nil)))
def nzH:Hooks:=⟨some 149,some 261,some 153,symB,[⟨1000000000000,nzF⟩],some 158⟩
theorem ydkb:HooksOk Tryz.prog nzH:=⟨fun g h=>(by cases h;exact ybjz),fun g h=>(by cases h;exact yph),fun g h=>(by cases h;exact ybup),ycg.cons ydhv ycg.nil,fun g h=>(by cases h;exact yxv)⟩
def nzT:Option Value->Bool
 |some (.bool b)=>b
 |_=>false
theorem ydlk:∀{o:Option Value},nzT o=true->o=some (.bool true)
 |some (.bool true),_=>rfl
set_option maxRecDepth 1000000 in
theorem ybhr:outV (ev Tryz.prog nzH 3000 (.call 46 [] mem0))=some (.bool true):=ydlk (by kernel_rfl)
theorem ycxs(w:World)(hG:GlW w):Calls Tryz.prog 46 #[] w fun e w'=>e = .returned (.bool true)/\Below w.heap.size w w' :=
 yxq mix yrc ydkb ybhr rfl rfl ⟨_,_,Tryz.func46,rfl⟩ w hG
end Ev
end
section
namespace Sh
open Go Ev Go.RowKit
theorem ybft:Returns Tryz.prog 46 [] (.b true):=by
 refine ybjy ⟨_,_,Tryz.func46,rfl⟩ (fun _=>.b) (fun _=>.simple rfl) fun G m us hG hr φ M w us' hRl hs hv=>?_;cases hr
 cases hv
 exact ycxs w fun x hx=>(hRl.gl x hx).1
end Sh
end
section
namespace Ev
theorem ypo:∀l:List UInt8,eqBytes l l=true
 |[]=>rfl
 | x::l=>by
   show(zF x.toNat x.toNat&&eqBytes l l)=true;rw[zD,ypo l];rfl
theorem yux{ρ:Nat->Nat}{a:Addr}(h:a.spot.isNone=true):eqAddr (renA ρ a) (renA ρ a)=true:=by
 rw[yji];unfold eqAddr;simp only[zD,h,Bool.and_self]
theorem ybpb{ρ:Nat->Nat}{v:Value}(hf:yqv v=true)(h:eq1 v v=true):eq1 (ren1 ρ v) (ren1 ρ v)=true:=by
 unfold yqv at hf;split at hf
 ·exact yux hf
 ·rename_i a n c
  show(eqAddr (renA ρ a) (renA ρ a)&&zF n n&&zF c c)=true;rw[yux hf,zD,zD];rfl
 ·rename_i h1 h2
  have:ren1 ρ v=v:=by
   unfold ren1;split
   ·rename_i a;exact absurd rfl (h1 a)
   ·rename_i a n c;exact absurd rfl (h2 a n c)
   ·rfl
  rw[this];exact h
theorem yrl{ρ:Nat->Nat}:∀{l:List Value},l.all yqv=true->eqL1 l l=true->eqL1 (l.map (ren1 ρ)) (l.map (ren1 ρ))=true
 |[],_,_=>rfl
 | x::l,hf,h=>by
   simp only[List.all_cons,zA]at hf;have h:(eq1 x x&&eqL1 l l)=true:=h;rw[zA]at h;show(eq1 (ren1 ρ x) (ren1 ρ x)&&eqL1 (l.map (ren1 ρ)) (l.map (ren1 ρ)))=true;rw[ybpb hf.1 h.1,yrl hf.2 h.2];rfl
theorem ybwf{v:Value}(h1:∀a,v = .agg a->False)(h2:∀g a c,v = .func (.func g) a c->False):eq2 v v=eq1 v v:=by
 cases v with
 |agg a=>exact(h1 a rfl).elim
 | func f a c=>cases f with
   |func g=>exact(h2 g a c rfl).elim
   |_=>rfl
 |_=>rfl
theorem ybxj{ρ:Nat->Nat}{v:Value}(h1:∀a,v = .agg a->False)(h2:∀g a c,v = .func (.func g) a c->False)(hf:yqv v=true):ren2 ρ v=ren1 ρ v:=by
 cases v with
 |agg a=>exact(h1 a rfl).elim
 | func f a c=>cases f with
   |func g=>exact(h2 g a c rfl).elim
   |_=>cases hf
 |_=>rfl
theorem ywp{ρ:Nat->Nat}{v:Value}(hf:yqv v=true):(∀a,ren1 ρ v = .agg a->False)/\∀g a c,ren1 ρ v = .func (.func g) a c->False:=by
 cases v with
 |agg a=>cases hf
 |func f a c=>cases hf
 |pointer p=>cases p<;>exact⟨fun _ h=>(by cases h),fun _ _ _ h=>(by cases h)⟩
 |slice p n c=>cases p<;>exact⟨fun _ h=>(by cases h),fun _ _ _ h=>(by cases h)⟩
 |_=>exact⟨fun _ h=>(by cases h),fun _ _ _ h=>(by cases h)⟩
theorem ybri{ρ:Nat->Nat}{v:Value}(hf:ykg v=true)(h:eq2 v v=true):eq2 (ren2 ρ v) (ren2 ρ v)=true:=by
 unfold ykg at hf;split at hf
 ·rename_i a
  have h:eqL1 a.toList a.toList=true:=h;show eqL1 (a.toList.map (ren1 ρ)).toArray.toList (a.toList.map (ren1 ρ)).toArray.toList=true;exact yrl hf h
 ·rename_i g a c
  rw[zA]at hf;have h:(zF g g&&eqL1 a.toList a.toList&&eqL1 c.toList c.toList)=true:=h;simp only[zA]at h;show(zF g g&&eqL1 (a.toList.map (ren1 ρ)).toArray.toList (a.toList.map (ren1 ρ)).toArray.toList&&eqL1 (c.toList.map (ren1 ρ)).toArray.toList (c.toList.map (ren1 ρ)).toArray.toList)=true;rw[zD,yrl hf.1 h.1.2,yrl hf.2 h.2];rfl
 ·rename_i h1 h2
  rw[ybwf h1 h2]at h;rw[ybxj h1 h2 hf,ybwf (ywp hf).1 (ywp hf).2];exact ybpb hf h
def reflB(b:BlkL):Bool:=b.l.all (fun v=>eq2 v v&&ykg v)&&zQ b.l.length 1000000
theorem ytg{ρ:Nat->Nat}{b:BlkL}(h:reflB b=true):∀v∈(b.ren ρ).l,eq2 v v=true:=by
 unfold reflB at h;rw[zA]at h;intro v hv;obtain⟨x,hx,rfl⟩:=List.mem_map.1 hv;have:=List.all_eq_true.1 h.1 x hx;rw[zA]at this;exact ybri this.2 this.1
theorem ynj{l:List Value}(h:∀v∈l,eq2 v v=true):∀(k:List Value) (n:Nat),l.drop n=k->cellsAre (tOf l) n k=true
 |[],_,_=>rfl
 | v :: k,n,e=>by
   have hn:n<l.length:=by
    rcases Nat.lt_or_ge n l.length with q|q
    ·exact q
    ·rw[List.drop_eq_nil_of_le q]at e;cases e
   rw[zAE hn]at e
   injection e with e1 e2
   unfold cellsAre;rw[yco,zAF hn,e1];simp only;rw[h v (by rw[<-e1];exact List.getElem_mem _),ynj h k (n+1) e2]
   rfl
theorem yot{m:Mem}{b:BlkL}(hg:m.b.get b.i=some b.blk)(h:∀v∈b.l,eq2 v v=true)(hl:zQ b.l.length 1000000=true):blkIs m b=true:=by
 unfold blkIs;rw[hg];show(zF b.l.length b.l.length&&zF b.e b.e&&zF b.z b.z&&zQ b.l.length 1000000&&cellsAre (tOf b.l) 0 b.l)=true;rw[zD,zD,zD,hl,ynj h b.l 0 (List.drop_zero ..)];rfl
theorem yto:∀{l:List BlkL}{t:T ABlk}{i:Nat},(∀b∈l,b.i≠i)->(blksT t l).get i=t.get i
 |[],_,_,_=>rfl
 | b::l,t,i,h=>by
   unfold blksT;rw[T.strict_eq,yto fun c hc=>h c (zW _ hc),T.set_at,if_neg (fun e=>h b zAA e.symm)]
theorem yrn:∀{l:List BlkL}{t:T ABlk},ygx (l.map (·.i))=true->∀b∈l,(blksT t l).get b.i=some b.blk
 |[],_,_,b,hb=>by cases hb
 | c :: l,t,h,b,hb=>by
   have h:(!(l.map (·.i)).elem c.i&&ygx (l.map (·.i)))=true:=h;rw[zA,zU]at h;unfold blksT;rw[T.strict_eq];rcases List.mem_cons.1 hb with e|hb
   ·subst e;rw[yto fun d hd e=>?_,T.set_at,if_pos rfl];have:(l.map (·.i)).elem b.i=true:=List.elem_eq_true_of_mem (List.mem_map.2 ⟨d,hd,e⟩);rw[this]at h;cases h.1
   ·exact yrn h.2 b hb
theorem ymo:∀{l:List Nat},l.Nodup->ygx l=true
 |[],_=>rfl
 | x :: l,h=>by
   rw[zAH]at h;show(!(l.elem x)&&ygx l)=true
   have:l.elem x=false:=by
    cases hq:l.elem x with
    |false=>rfl
    |true=>exact absurd (by simpa using hq) h.1
   rw[this,ymo h.2];rfl
theorem yxz:∀{l:List Nat},ygx l=true->l.Nodup
 |[],_=>zBA
 | x::l,h=>by
   have h:(!(l.elem x)&&ygx l)=true:=h;rw[zA,zU]at h;rw[zAH];refine⟨fun hm=>?_,yxz h.2⟩;have:l.elem x=true:=by simpa using hm
   rw[this]at h;cases h.1
theorem ybjt{d:Nat}:∀{l:List BlkL}{k:List Nat},(l.map (·.i)).Nodup->l.length=k.length->l.map (fun b=>yyi l k d b.i)=k
 |[],[],_,_=>rfl
 | b :: l,t::k,hn,hl=>by
   rw[zAN,zAH]at hn;have ih:=ybjt (d:=d) hn.2 (by simpa using hl)
   rw[zAN];have e1:yyi (b::l) (t::k) d b.i=t:=by unfold yyi;rw[zD];rfl
   rw[e1];congr 1;refine zBD (zH fun c hc=>?_) ih;show(bif zF b.i c.i then t else yyi l k d c.i)=_
   have:zF b.i c.i=false:=by
    cases hq:zF b.i c.i with
    |false=>rfl
    |true=>exact absurd (List.mem_map.2 ⟨c,hc,(zJ hq).symm⟩) hn.1
   rw[this];rfl
 |[],_::_,_,h=>by cases h
 |_::_,[],_,h=>by cases h
def Fact.still(f:Fact):Bool:=zZ f.next0 f.low&&f.args.all ykg&&ybxo f.v&&f.pre.all (fun b=>zQ b.i f.next0&&reflB b)&&ygx (f.pre.map (·.i))&&f.post.all (fun b=>zZ f.next0 b.i&&zQ b.i f.next1&&reflB b)&&ygx (f.post.map (·.i))&&zZ f.next0 f.next1
theorem ycwj{a b:Nat}(h:zQ a b=true):a<b:=zT (Nat.lt_succ_self _) (zG h)
theorem ybim{a b:Nat}(h:a<b):zQ a b=true:=zM h
theorem ykw{f:Fact}(h:f.still=true):f.next0<=f.low/\(f.args.all ykg=true/\ybxo f.v=true)/\(∀b∈f.pre,b.i<f.next0/\reflB b=true)/\(f.pre.map (·.i)).Nodup/\(∀b∈f.post,f.next0<=b.i/\b.i<f.next1/\reflB b=true)/\(f.post.map (·.i)).Nodup/\f.next0<=f.next1:=by
 unfold Fact.still at h;simp only[zA]at h;obtain⟨⟨⟨⟨⟨⟨⟨h1,h2⟩,h3⟩,h4⟩,h5⟩,h6⟩,h7⟩,h8⟩:=h;refine⟨zG h1,⟨h2,h3⟩,fun b hb=>?_,yxz h5,fun b hb=>?_,yxz h7,zG h8⟩
 ·have:=List.all_eq_true.1 h4 b hb;rw[zA]at this;exact⟨ycwj this.1,this.2⟩
 ·have:=List.all_eq_true.1 h6 b hb;simp only[zA]at this;exact⟨zG this.1.1,ycwj this.1.2,this.2⟩
theorem ybuf{f:Fact}{tgt:List Nat}{n0:Nat}(hp:∀b∈f.pre,b.i<f.next0/\reflB b=true)(hn:(f.pre.map (·.i)).Nodup)(hl:f.pre.length=tgt.length):f.pre.map (fun b=>f.rho tgt n0 b.i)=tgt:=by
 refine zBD (zH fun b hb=>?_) (ybjt (d:=Nat.add n0 (Nat.sub f.next1 f.next0)) hn hl);unfold Fact.rho;have h1:=(hp b hb).1
 have:(zZ f.next0 b.i&&zQ b.i f.next1)=false:=by
  rw[Bool.and_eq_false_iff];left
  cases hq:zZ f.next0 b.i with
  |false=>rfl
  |true=>have:=zG hq;omega
 rw[this];rfl
theorem ybhu{f:Fact}{tgt:List Nat}{n0 i:Nat}(h1:f.next0<=i)(h2:i<f.next1):f.rho tgt n0 i=i-f.next0+n0:=by
 unfold Fact.rho;rw[Bool.cond_eq_ite,if_pos (by rw[zM h1,ybim h2];rfl)]
 rfl
theorem ywh{P:Program}{f:Fact}{tgt:List Nat}{n0:Nat}(hok:ycs P f)(hs:f.still=true)(hl:f.pre.length=tgt.length)(hn:tgt.Nodup)(hlt:∀t∈tgt,t<n0):ycs P (f.move tgt n0):=by
 refine ycn hok ?_;obtain⟨s1,⟨s2,s3⟩,s4,s5,s6,s7,s8⟩:=ykw hs
 have hpi:(f.move tgt n0).pre.map (·.i)=tgt:=by
  show(f.pre.map (BlkL.ren (f.rho tgt n0))).map (·.i)=tgt;rw[zX];exact zBD (zH fun b hb=>b.ygz) (ybuf (n0:=n0) s4 s5 hl)
 have hqi:ygx ((f.move tgt n0).post.map (·.i))=true:=by
  refine ymo ?_;show((f.post.map (BlkL.ren (f.rho tgt n0))).map (·.i)).Nodup
  have e:(f.post.map (BlkL.ren (f.rho tgt n0))).map (·.i)=(f.post.map (·.i)).map (fun i=>i-f.next0+n0):=by
   rw[zX,zX];refine zH fun b hb=>?_;show(b.ren (f.rho tgt n0)).i=b.i-f.next0+n0;rw[b.ygz,ybhu (s6 b hb).1 (s6 b hb).2.1]
  rw[e];unfold List.Nodup at s7 ⊢;rw[zAD];refine List.Pairwise.imp_of_mem (fun {x y} hx hy h=>?_) s7;obtain⟨bx,hbx,rfl⟩:=List.mem_map.1 hx;obtain⟨by_,hby,rfl⟩:=List.mem_map.1 hy;have:=(s6 bx hbx).1;have:=(s6 by_ hby).1;omega
 have hpre:ygx ((f.move tgt n0).pre.map (·.i))=true:=by rw[hpi];exact ymo hn
 unfold Fact.moves;simp only[zA];refine⟨⟨⟨⟨⟨⟨⟨⟨zM s1,s2⟩,s3⟩,?_⟩,?_⟩,hpre⟩,?_⟩,?_⟩,zM s8⟩
 ·refine List.all_eq_true.2 fun b hb=>?_;have:=(s4 b hb).2;unfold reflB at this;rw[zA]at this;rw[ybim (s4 b hb).1,zK];exact List.all_eq_true.2 fun v hv=>by have:=List.all_eq_true.1 this.1 v hv;rw[zA]at this;exact this.2
 ·refine List.all_eq_true.2 fun b hb=>?_;have:=(s6 b hb).2.2;unfold reflB at this;rw[zA]at this;rw[ybim (s6 b hb).2.1,zK];exact List.all_eq_true.2 fun v hv=>by have:=List.all_eq_true.1 this.1 v hv;rw[zA]at this;exact this.2
 ·refine List.all_eq_true.2 fun b' hb'=>?_;obtain⟨b,hb,rfl⟩:=List.mem_map.1 hb';have h2:=(s4 b hb).2;have h3:(b.ren (f.rho tgt n0)).i∈(f.move tgt n0).pre.map (·.i):=List.mem_map.2 ⟨_,hb',rfl⟩;rw[hpi]at h3;rw[ybim (hlt _ h3),zK];refine yot (yrn hpre _ hb') (ytg h2) ?_;show zQ (b.l.map _).length 1000000=true;rw[zL];unfold reflB at h2;rw[zA]at h2;exact h2.2
 ·refine List.all_eq_true.2 fun b' hb'=>?_;obtain⟨b,hb,rfl⟩:=List.mem_map.1 hb';have h2:=(s6 b hb).2.2;refine yot (yrn hqi _ hb') (ytg h2) ?_;show zQ (b.l.map _).length 1000000=true;rw[zL];unfold reflB at h2;rw[zA]at h2;exact h2.2
end Ev
end
section
namespace Sh
open Go Ev
def Lies(B:List BlkL)(v:Value)(F:AM)(u:Value):Prop :=
 ∃ρ:Nat->Nat,(∀b∈B,∀c∈B,ρ b.i=ρ c.i->b.i=c.i)/\(∀b∈B,F (ρ b.i)=some (b.ren ρ).blk)/\u=ren1 ρ v
theorem Lies.mono{B:List BlkL}{v:Value}(F G:AM)(u:Value)(h:Le F G)(k:Lies B v F u):Lies B v G u:=by
 obtain⟨ρ,h1,h2,h3⟩:=k;exact⟨ρ,h1,fun b hb=>h _ _ (h2 b hb),h3⟩
def ydqa(B:List BlkL)(j:Nat):Option BlkL:=B.find? fun b=>zF b.i j
def ycah(p:Nat->Bool):Nat->Bool
 |0=>true
 |n+1=>p n&&ycah p n
theorem ybjo{p:Nat->Bool}:∀{n:Nat},ycah p n=true->∀k,k<n->p k=true
 |0,_,k,h=>absurd h (zAU k)
 | n+1,h,k,hk=>by
   have h:(p n&&ycah p n)=true:=h;rw[zA]at h
   by_cases q:k=n
   ·rw[q];exact h.1
   ·exact ybjo h.2 k (by omega)
def ybeb(B:List BlkL)(z n:Nat)(row:Nat->List Value->Bool):Value->Bool
 | .slice (some a) m _=>a.spot.isNone&&zF m n&&(match ydqa B a.block with
   |some b=>zF b.z z&&zZ (a.off+n*z) b.l.length&&ycah (fun k=>row k ((b.l.drop (a.off+k*z)).take z)) n
   |none=>false)
 |.slice none 0 0=>zF n 0
 |_=>false
theorem yrt {B:List BlkL}{F:AM}{ρ:Nat->Nat}{z n:Nat}{row:Nat->List Value->Bool}{v:Value}{g:Nat->List SV}(hF:∀b∈B,F (ρ b.i)=some (b.ren ρ).blk) (h:ybeb B z n row v=true)
 (hr:∀k L,k<n->row k L=true->L.length=z/\RVL F om0 (g k) (L.map (ren2 ρ))/\(g k).all one1=true):RV F om0 (.sl z n g) (ren1 ρ v):=by
 unfold ybeb at h;split at h
 ·rename_i a m c
  simp only[zA]at h;obtain⟨⟨h1,h2⟩,h3⟩:=h;split at h3
  ·rename_i b hb
   simp only[zA]at h3;obtain⟨⟨h3,h4⟩,h5⟩:=h3;have hm:m=n:=zJ h2;have hz:=zJ h3;have h4:=zG h4;have hmem:=List.mem_of_find?_eq_some hb;have hi:b.i=a.block:=zJ (List.find?_some (p:=fun b:BlkL=>zF b.i a.block) hb);have h6:=hF b hmem;rw[hi]at h6;show RV F om0 _ (.slice (some (renA ρ a)) m c);rw[yji];subst hm;obtain⟨A,o,sp⟩:=a;have hsp:sp=none:=by simpa using h1
   subst hsp;have h6:F (ρ A)=some (.cells (tOf (b.l.map (ren2 ρ))) (b.l.map (ren2 ρ)).length b.e b.z):=h6;have hrow:∀k,k<m->_:=fun k hk=>hr k _ hk (ybjo h5 k hk);refine .sl (L:=fun k=>((b.l.drop (o+k*z)).take z).map (ren2 ρ)) h6 (.inl hz) (by rw[zL];exact h4) ?_ ?_ (fun k hk=>(hrow k hk).2.1) (fun k hk=>(hrow k hk).2.2)
   ·intro k hk;rw[zL];exact(hrow k hk).1
   ·intro k hk j hj;rw[yco];simp only[zAR,List.getElem?_take,List.getElem?_drop,hj,if_true]
  ·cases h3
 ·have h:zF n 0=true:=h;have h0:=zJ h;subst h0;exact .sl0 (.inl rfl)
 ·cases h
def isI(v:Value)(n:Int):Bool:=match v with
 |.int .i64 m=>eqInt m n
 |_=>false
def isS(v:Value)(s:ByteArray):Bool:=match v with
 |.string t=>eqBytes t.data.toList s.data.toList
 |_=>false
theorem yqm{F:AM}{ρ:Nat->Nat}{v:Value}{n:Int}(h:isI v n=true):RV F om0 (.i .i64 n) (ren2 ρ v):=by
 unfold isI at h;split at h
 ·rw[yrj h];exact .i
 ·cases h
theorem yciz{F:AM}{ρ:Nat->Nat}{v:Value}{s:ByteArray}(h:isS v s=true):RV F om0 (.a (.string s)) (ren2 ρ v):=by
 unfold isS at h;split at h
 ·rename_i t
  have e:=yoj h
  have:t=s:=by
   cases t;cases s
   congr 1;exact Array.toList_inj.1 e
  rw[this];exact .a rfl
 ·cases h
def ydoj(ls:List (Int×Int))(k:Nat):List Value->Bool
 |[x,y]=>isI x (ls.getD k (0,0)).1&&isI y (ls.getD k (0,0)).2
 |_=>false
def ycrj(l:List VarR)(k:Nat):List Value->Bool
 |[s,a,b,c,d,e]=>isS s (l.getD k default).name&&isI a (l.getD k default).kind&&isI b (l.getD k default).lo&&isI c (l.getD k default).hi&&isI d (l.getD k default).perNode&&isI e (l.getD k default).perID
 |_=>false
def yxm(B:List BlkL)(ls:List (Int×Int))(v:Value):Bool:=ybeb B 2 ls.length (ydoj ls) v
def isSl:Value->Bool
 |.slice _ _ _=>true
 |_=>false
def ybsj(B:List BlkL)(l:List SetR)(k:Nat):List Value->Bool
 |[a,v]=>isI a (l.getD k default).var&&isSl v&&yxm B (l.getD k default).val v
 |_=>false
def ybqz(B:List BlkL)(l:List RuleR)(k:Nat):List Value->Bool
 |[s,v,w]=>isS s (l.getD k default).name&&isSl v&&yxm B (l.getD k default).guard v&&isSl w&&ybeb B 2 (l.getD k default).sets.length (ybsj B (l.getD k default).sets) w
 |_=>false
def ybxw(B:List BlkL)(v:Value)(l:List VarR):Bool:=ybeb B 6 l.length (ycrj l) v
def ybih(B:List BlkL)(v:Value)(l:List RuleR):Bool:=ybeb B 3 l.length (ybqz B l) v
section
variable {B:List BlkL}{F:AM}{ρ:Nat->Nat}
theorem ybgu{v:Value}(h:isSl v=true):ren2 ρ v=ren1 ρ v:=by
 unfold isSl at h;split at h
 ·rfl
 ·cases h
theorem yti(hF:∀b∈B,F (ρ b.i)=some (b.ren ρ).blk){ls:List (Int×Int)}{v:Value}(h:yxm B ls v=true):RV F om0 (yba ls) (ren1 ρ v):=by
 refine yrt hF h fun k L hk hq=>?_;unfold ydoj at hq;split at hq
 ·simp only[zA]at hq;exact⟨rfl,.cons (yqm hq.1) (.cons (yqm hq.2) .nil),rfl⟩
 ·cases hq
theorem ybmh(hF:∀b∈B,F (ρ b.i)=some (b.ren ρ).blk){l:List VarR}{v:Value}(h:ybxw B v l=true):RV F om0 (ydh l) (ren1 ρ v):=by
 refine yrt hF h fun k L hk hq=>?_;unfold ycrj at hq;split at hq
 ·simp only[zA]at hq;obtain⟨⟨⟨⟨⟨h1,h2⟩,h3⟩,h4⟩,h5⟩,h6⟩:=hq;exact⟨rfl,.cons (yciz h1) (.cons (yqm h2) (.cons (yqm h3) (.cons (yqm h4) (.cons (yqm h5) (.cons (yqm h6) .nil))))),rfl⟩
 ·cases hq
theorem yblc(hF:∀b∈B,F (ρ b.i)=some (b.ren ρ).blk){l:List SetR}{v:Value}(h:ybeb B 2 l.length (ybsj B l) v=true):RV F om0 (yhv l) (ren1 ρ v):=by
 refine yrt hF h fun k L hk hq=>?_;unfold ybsj at hq;split at hq
 ·simp only[zA]at hq;obtain⟨⟨h1,h2⟩,h3⟩:=hq;refine⟨rfl,.cons (yqm h1) (.cons ?_ .nil),rfl⟩;rw[ybgu h2];exact yti hF h3
 ·cases hq
theorem ybex(hF:∀b∈B,F (ρ b.i)=some (b.ren ρ).blk){l:List RuleR}{v:Value}(h:ybih B v l=true):RV F om0 (yda l) (ren1 ρ v):=by
 refine yrt hF h fun k L hk hq=>?_;unfold ybqz at hq;split at hq
 ·simp only[zA]at hq;obtain⟨⟨⟨⟨h1,h2⟩,h3⟩,h4⟩,h5⟩:=hq;refine⟨rfl,.cons (yciz h1) (.cons ?_ (.cons ?_ .nil)),rfl⟩
  ·rw[ybgu h2];exact yti hF h3
  ·rw[ybgu h4];exact yblc hF h5
 ·cases hq
end
structure LaidP(fp:Fact)(t:ByteArray)(p:ProgR)(vv vr:Value)(Bv Br:List BlkL):Prop where
 args:fp.args=[.string t]
 pre:fp.pre=[]
 v:fp.v = .agg #[.string p.name,vv,vr]
 still:fp.still=true
 bv:∀b∈Bv,b∈fp.post
 br:∀b∈Br,b∈fp.post
 vars:ybxw Bv vv p.vars=true
 rules:ybih Br vr p.rules=true
theorem ycfw{P:Program}{fp:Fact}{t:ByteArray}{p:ProgR}{vv vr:Value}{Bv Br:List BlkL}(hok:ycs P fp)(h:LaidP fp t p vv vr Bv Br):Returns P fp.g [.a (.string t)] (.ag (yds (Lies Bv vv) (Lies Br vr) p)):=by
 intro G m us hwf hle hus
 have hu:us=[.string t]:=by
  cases hus with
  |cons a b=>cases a with|a _=>cases b with|nil=>rfl
 subst hu;obtain⟨s1,⟨s2,s3⟩,s4,s5,s6,s7,s8⟩:=ykw h.still;have hmv:=ywh (tgt:=[]) (n0:=m.next) hok h.still (by rw[h.pre];rfl) zBA (fun t ht=>by cases ht)
 obtain⟨ρ,hρ⟩:∃ρ,fp.rho [] m.next=ρ:=⟨_,rfl⟩
 have hpost:(fp.move [] m.next).post=fp.post.map (BlkL.ren ρ):=by rw[<-hρ];rfl
 have hv:(fp.move [] m.next).v = .agg #[.string p.name,ren1 ρ vv,ren1 ρ vr]:=by
  show renV (fp.rho [] m.next) fp.v=_
  rw[hρ,h.v];rfl
 have hpre:(fp.move [] m.next).pre=[]:=by
  show fp.pre.map _=[];rw[h.pre];rfl
 have hfit:(fp.move [] m.next).fits fp.g [.string t] m=true:=by
  unfold Fact.fits;rw[hpre];show(zF fp.g fp.g&&zF m.next m.next&&eqL2 (fp.args.map (ren2 _)) [.string t]&&true)=true
  rw[zD,zD,h.args];show(true&&true&&(eqBytes t.data.toList t.data.toList&&true)&&true)=true;rw[ypo];rfl
 have hri:∀b∈fp.post,ρ b.i=b.i-fp.next0+m.next:=fun b hb=>by rw[<-hρ];exact ybhu (s6 b hb).1 (s6 b hb).2.1
 have hnd:ygx ((fp.post.map (BlkL.ren ρ)).map (·.i))=true:=by
  refine ymo ?_
  have e:(fp.post.map (BlkL.ren ρ)).map (·.i)=(fp.post.map (·.i)).map (fun i=>i-fp.next0+m.next):=by
   rw[zX,zX];refine zH fun b hb=>?_;show(b.ren ρ).i=_;rw[b.ygz,hri b hb];rfl
  rw[e];unfold List.Nodup at s7 ⊢;rw[zAD];refine List.Pairwise.imp_of_mem (fun {x y} hx hy h=>?_) s7;obtain⟨bx,hbx,rfl⟩:=List.mem_map.1 hx;obtain⟨by_,hby,rfl⟩:=List.mem_map.1 hy;have:=(s6 bx hbx).1;have:=(s6 by_ hby).1;omega
 have hs:=yxj hmv hfit;unfold Fact.out at hs;rw[hv,hpre,hpost]at hs;refine⟨_,_,_,hs,zV _,?_,rfl,?_⟩
 ·intro i b hb;show(blksT m.b (fp.post.map (BlkL.ren ρ))).get i=some b;rw[yto fun c hc=>?_]
  ·exact hb
  ·obtain⟨c,hc',rfl⟩:=List.mem_map.1 hc;have:=hwf i b hb;rw[c.ygz,hri c hc'];omega
 ·have hF:∀b∈fp.post,frsh m.next ⟨(fp.move [] m.next).next1,blksT m.b (fp.post.map (BlkL.ren ρ)),(fp.move [] m.next).low⟩ G (ρ b.i)=some (b.ren ρ).blk:=fun b hb=>by
   unfold frsh;rw[if_pos (by rw[hri b hb];omega)]
   have:=yrn (t:=m.b) hnd _ (List.mem_map.2 ⟨b,hb,rfl⟩);rw[b.ygz]at this;exact this
  have hinj:∀b∈fp.post,∀c∈fp.post,ρ b.i=ρ c.i->b.i=c.i:=fun b hb c hc e=>by
   rw[hri b hb,hri c hc]at e;have:=(s6 b hb).1;have:=(s6 c hc).1;omega
  refine .ag (.cons (.a rfl) (.cons (.ex ?_ (fun A B w=>Lies.mono A B w) ?_) (.cons (.ex ?_ (fun A B w=>Lies.mono A B w) ?_) .nil)))
  ·exact⟨ρ,fun b hb c hc=>hinj b (h.bv b hb) c (h.bv c hc),fun b hb=>hF b (h.bv b hb),rfl⟩
  ·exact ybmh (fun b hb=>hF b (h.bv b hb)) h.vars
  ·exact⟨ρ,fun b hb c hc=>hinj b (h.br b hb) c (h.br c hc),fun b hb=>hF b (h.br b hb),rfl⟩
  ·exact ybex (fun b hb=>hF b (h.br b hb)) h.rules
def inB(B:List BlkL):Value->Bool
 |.slice (some a) _ _=>(B.map (·.i)).elem a.block
 |.pointer (some a)=>(B.map (·.i)).elem a.block
 |.agg _=>false
 |.func _ _ _=>false
 |_=>true
theorem yhw{B:List BlkL}{ρ σ:Nat->Nat}(h:∀b∈B,ρ b.i=σ b.i){v:Value}(hv:inB B v=true):ren1 ρ v=ren1 σ v:=by
 have hk:∀j,(B.map (·.i)).elem j=true->ρ j=σ j:=fun j hj=>by
  have:j∈B.map (·.i):=by simpa using hj
  obtain⟨b,hb,rfl⟩:=List.mem_map.1 this;exact h b hb
 cases v with
 | slice p n c=>cases p with
   |none=>rfl
   | some a =>
     show Value.slice (some (renA ρ a)) n c = .slice (some (renA σ a)) n c;rw[yji,yji,hk _ hv]
 | pointer p=>cases p with
   |none=>rfl
   | some a =>
     show Value.pointer (some (renA ρ a)) = .pointer (some (renA σ a));rw[yji,yji,hk _ hv]
 |agg a=>cases hv
 |func f a c=>cases hv
 |_=>rfl
theorem ybjb{B:List BlkL}{τ:Nat->Nat}{v:Value}(hv:inB B v=true):ren2 τ v=ren1 τ v:=by
 cases v with
 |agg a=>cases hv
 |func f a c=>cases hv
 |_=>rfl
theorem ybmy{B:List BlkL}{ρ σ:Nat->Nat}(h:∀b∈B,ρ b.i=σ b.i){v:Value}(hv:inB B v=true):ren2 ρ v=ren2 σ v:=by
 rw[ybjb hv,ybjb hv];exact yhw h hv
def ybeo(B:List BlkL):Bool:=B.all fun b=>b.l.all (inB B)
theorem ybav{B:List BlkL}{ρ σ:Nat->Nat}(hc:ybeo B=true)(h:∀b∈B,ρ b.i=σ b.i){b:BlkL}(hb:b∈B):b.ren ρ=b.ren σ:=by
 have h1:=List.all_eq_true.1 (List.all_eq_true.1 hc b hb)
 have e:∀τ:Nat->Nat,b.ren τ=⟨τ b.i,b.e,b.z,b.l.map (ren2 τ)⟩:=fun τ=>by
  unfold BlkL.ren;rw[ybk]
 rw[e,e,h b hb];congr 1;exact zH fun v hv=>ybmy h (h1 v hv)
theorem ywa{low:Nat}:∀{l:List BlkL}{t:T ABlk},(∀b∈l,b.i<low)->dropT t low l=t
 |[],_,_=>rfl
 | b :: l,t,h=>by
   have hb:=h b zAA;unfold dropT
   have e:zZ low b.i=false:=by
    cases q:zZ low b.i with
    |false=>rfl
    |true=>have:=zG q;omega
   rw[e,ybg,if_neg (by simp)]
   exact ywa fun c hc=>h c (zW _ hc)
structure GoodV(fv:Fact)(p:ProgR)(vv vr:Value)(Bv Br:List BlkL):Prop where
 args:fv.args=[.agg #[.string p.name,vv,vr]]
 pre:∀b∈fv.pre,b∈Bv\/b∈Br
 bv:∀b∈Bv,b∈fv.pre
 br:∀b∈Br,b∈fv.pre
 v:fv.v = .bool true
 post:fv.post=[]
 still:fv.still=true
 apart:(Bv.all fun b=>Br.all fun c=>!(zF b.e c.e) && !(zF b.i c.i))=true
 cv:ybeo Bv=true
 cr:ybeo Br=true
 iv:inB Bv vv=true
 ir:inB Br vr=true
 refl:eq2 (.agg #[.string p.name,vv,vr]) (.agg #[.string p.name,vv,vr])=true
theorem ycfe{P:Program}{fv:Fact}{p:ProgR}{vv vr:Value}{Bv Br:List BlkL}(hok:ycs P fv)(h:GoodV fv p vv vr Bv Br):Returns P fv.g [.ag (yds (Lies Bv vv) (Lies Br vr) p)] (.b true):=by
 intro G m us hwf hle hus
 obtain⟨ρ1,ρ2,hu,a1,a2,a3,a4⟩:∃ρ1 ρ2:Nat->Nat,us=[.agg #[.string p.name,ren1 ρ1 vv,ren1 ρ2 vr]]/\(∀b∈Bv,∀c∈Bv,ρ1 b.i=ρ1 c.i->b.i=c.i)/\(∀b∈Bv,G (ρ1 b.i)=some (b.ren ρ1).blk) /\
  (∀b∈Br,∀c∈Br,ρ2 b.i=ρ2 c.i->b.i=c.i)/\∀b∈Br,G (ρ2 b.i)=some (b.ren ρ2).blk:=by
  cases hus with
  | cons a b =>
    cases b
    cases a with
    | ag hl =>
      cases hl with
      | cons x1 hl =>
        cases x1
        cases hl with
        | cons x2 hl =>
          cases x2 with
          | ex q2 _ _ =>
            cases hl with
            | cons x3 hl =>
              cases x3 with
              | ex q3 _ _ =>
                cases hl
                obtain⟨ρ1,b1,b2,rfl⟩:=q2;obtain⟨ρ2,b3,b4,rfl⟩:=q3;exact⟨ρ1,ρ2,rfl,b1,b2,b3,b4⟩
 subst hu;obtain⟨s1,⟨s2,s3⟩,s4,s5,s6,s7,s8⟩:=ykw h.still
 have hap:∀b∈Bv,∀c∈Br,b.e≠c.e/\b.i≠c.i:=fun b hb c hc=>by
  have:=List.all_eq_true.1 (List.all_eq_true.1 h.apart b hb) c hc;simp only[zA,zU]at this;exact⟨fun e=>(by rw[e,zD]at this;exact absurd this.1 (by decide)),fun e=>(by rw[e,zD]at this;exact absurd this.2 (by decide))⟩
 let σ:Nat->Nat:=fun i=>if (Bv.map (·.i)).elem i then ρ1 i else ρ2 i
 have hcross:∀b∈Bv,∀c∈Br,ρ1 b.i≠ρ2 c.i:=fun b hb c hc e=>by
  have e1:=a2 b hb;have e2:=a4 c hc;rw[e,e2]at e1
  injection e1 with e1
  unfold BlkL.blk at e1
  injection e1 with _ _ e3 _
  exact(hap b hb c hc).1 e3.symm
 have hG:∀i b,G i=some b->i<m.next:=fun i b hb=>hwf i b (hle i b hb)
 have sv:∀b∈Bv,σ b.i=ρ1 b.i:=fun b hb=>if_pos (by simpa using⟨b,hb,rfl⟩)
 have sr:∀b∈Br,σ b.i=ρ2 b.i:=fun b hb=>by
  refine if_neg fun q=>?_;have:b.i∈Bv.map (·.i):=by simpa using q
  obtain⟨d,hd,hdi⟩:=List.mem_map.1 this;exact(hap d hd b hb).2 hdi
 have tgtLt:∀b∈fv.pre,σ b.i<m.next:=fun b hb=>by
  rcases h.pre b hb with q|q
  ·rw[sv b q];exact hG _ _ (a2 b q)
  ·rw[sr b q];exact hG _ _ (a4 b q)
 have sinj:∀b∈fv.pre,∀c∈fv.pre,σ b.i=σ c.i->b.i=c.i:=fun b hb c hc e=>by
  rcases h.pre b hb with q|q<;>rcases h.pre c hc with q'|q'
  ·rw[sv b q,sv c q']at e;exact a1 b q c q' e
  ·rw[sv b q,sr c q']at e;exact absurd e (hcross b q c q')
  ·rw[sr b q,sv c q']at e;exact absurd e.symm (hcross c q' b q)
  ·rw[sr b q,sr c q']at e;exact a3 b q c q' e
 obtain⟨tgt,htgt⟩:∃t,fv.pre.map (fun b=>σ b.i)=t:=⟨_,rfl⟩
 have tlt:∀t∈tgt,t<m.next:=fun t ht=>by
  rw[<-htgt]at ht;obtain⟨b,hb,rfl⟩:=List.mem_map.1 ht;exact tgtLt b hb
 have tnd:tgt.Nodup:=by
  rw[<-htgt];have s5:=s5;unfold List.Nodup at s5 ⊢;rw[zAD]at s5 ⊢;exact List.Pairwise.imp_of_mem (fun {x y} hx hy h e=>h (sinj x hx y hy e)) s5
 have tlen:fv.pre.length=tgt.length:=by rw[<-htgt,zL]
 have hmv:=ywh (n0:=m.next) hok h.still tlen tnd tlt
 have hrho:=ybuf (n0:=m.next) s4 s5 tlen
 obtain⟨ρ,hρ⟩:∃ρ,fv.rho tgt m.next=ρ:=⟨_,rfl⟩
 rw[hρ,<-htgt]at hrho;have hri:∀b∈fv.pre,ρ b.i=σ b.i:=List.map_inj_left.1 hrho;have hv1:∀b∈Bv,ρ b.i=ρ1 b.i:=fun b hb=>by rw[hri b (h.bv b hb),sv b hb]
 have hr1:∀b∈Br,ρ b.i=ρ2 b.i:=fun b hb=>by rw[hri b (h.br b hb),sr b hb]
 have hargs:(fv.move tgt m.next).args=[.agg #[.string p.name,ren1 ρ1 vv,ren1 ρ2 vr]]:=by
  show fv.args.map (ren2 (fv.rho tgt m.next))=_
  rw[hρ,h.args,<-yhw hv1 h.iv,<-yhw hr1 h.ir];rfl
 have hself:eqL2 [.agg #[.string p.name,ren1 ρ1 vv,ren1 ρ2 vr]] [.agg #[.string p.name,ren1 ρ1 vv,ren1 ρ2 vr]]=true:=by
  have hf:ykg (.agg #[.string p.name,vv,vr])=true:=by
   have:=s2;rw[h.args]at this
   simpa using this
  have e:=ybri (ρ:=ρ) hf h.refl;rw[show ren2 ρ (.agg #[.string p.name,vv,vr]) = .agg #[.string p.name,ren1 ρ vv,ren1 ρ vr]from rfl,yhw hv1 h.iv,yhw hr1 h.ir]at e
  show(eq2 _ _&&true)=true;rw[e];rfl
 have hpre:∀b∈fv.pre,m.b.get (ρ b.i)=some (b.ren ρ).blk:=fun b hb=>by
  rcases h.pre b hb with q|q
  ·rw[ybav h.cv hv1 q,hv1 b q];exact hle _ _ (a2 b q)
  ·rw[ybav h.cr hr1 q,hr1 b q];exact hle _ _ (a4 b q)
 have hp:(fv.move tgt m.next).pre=fv.pre.map (BlkL.ren ρ):=by rw[<-hρ];rfl
 have hfit:(fv.move tgt m.next).fits fv.g [.agg #[.string p.name,ren1 ρ1 vv,ren1 ρ2 vr]] m=true:=by
  unfold Fact.fits;rw[hargs,hself];show(zF fv.g fv.g&&zF m.next m.next&&true&&(fv.move tgt m.next).pre.all (blkIs m))=true
  rw[zD,zD,hp];show List.all _ _=true;refine List.all_eq_true.2 fun b' hb'=>?_;obtain⟨b,hb,rfl⟩:=List.mem_map.1 hb';have h2:=(s4 b hb).2;refine yot ?_ (ytg h2) ?_
  ·rw[b.ygz];exact hpre b hb
  ·show zQ (b.l.map _).length 1000000=true;rw[zL];unfold reflB at h2;rw[zA]at h2;exact h2.2
 have hs:=yxj hmv hfit;unfold Fact.out at hs
 have hv:(fv.move tgt m.next).v = .bool true:=by
  show renV (fv.rho tgt m.next) fv.v=_
  rw[h.v];rfl
 have hpost:(fv.move tgt m.next).post=[]:=by
  show fv.post.map _=[];rw[h.post];rfl
 rw[hv,hpost]at hs;refine⟨_,_,_,hs,zV _,?_,rfl,.b⟩;intro i b hb;show(dropT m.b m.next (fv.move tgt m.next).pre).get i=some b
 rw[ywa fun c hc=>?_]
 ·exact hb
 ·rw[hp]at hc;obtain⟨c,hc',rfl⟩:=List.mem_map.1 hc;rw[c.ygz,hri c hc'];exact tgtLt c hc'
end Sh
end
section
namespace Sh
open Go Ev
def NqP:ProgT:=ybs (by8 [101,108,101,99,116,105,111,110]) (by8 [104]) (by8 [108]) (by8 [102,105,120]) (by8 [100,114,111,112]) (by8 [116,97,107,101]) (by8 [116,105,101])
def Nqt:ByteArray:=yu
def Nqv:Value:=.slice (some ⟨1062,0,none⟩) 2 CU
def Nqr:Value:=.slice (some ⟨1775,0,none⟩) 4 CU
def NqB:List BlkL:=yku.post.take 1
def NqC:List BlkL:=yku.post.drop 1
theorem yvu:Returns Tryz.prog 37 [.a (.string Nqt)] (.ag (yds (Lies NqB Nqv) (Lies NqC Nqr) NqP.raw)) :=
 ycfw (fp:=yku) (ybc.at_ ybcz 0 rfl) ⟨rfl,rfl,rfl,by kernel_rfl,fun _ h=>zAL h,fun _ h=>zAM h,by kernel_rfl,by kernel_rfl⟩
theorem ydgo:ybez.pre=yku.post:=rfl
theorem ycdi:Returns Tryz.prog 191 [.ag (yds (Lies NqB Nqv) (Lies NqC Nqr) NqP.raw)] (.b true) :=
 ycfe (fv:=ybez) (ybc.at_ ybuq 0 rfl) ⟨rfl,fun b h=>by
  rw[ydgo,<-List.take_append_drop 1 yku.post]at h;exact List.mem_append.1 h,fun _ h=>zAL h,fun _ h=>zAM h,rfl,rfl,by kernel_rfl,by kernel_rfl,by kernel_rfl,by kernel_rfl,by kernel_rfl,by kernel_rfl,by kernel_rfl⟩
theorem yddb:NqP.ok=true:=by kernel_rfl
end Sh
end
section
def ybr(s:Nat):List Nat:=(zO 32).filter s.testBit
theorem yzz{p q:Nat->Bool}{n t:Nat}(ht:t<n)(h1:p t=true)(h2:∀i,i<t->p i=false)(h3:∀i,q i=(p i && !decide (i=t))):(zO n).filter p=t::(zO n).filter q:=by
 obtain⟨d,rfl⟩:∃d,n=t+(d+1):=⟨n-t-1,by omega⟩
 rw[List.range_add,zAQ,zAQ,List.range_succ_eq_map];have a1:(zO t).filter p=[]:=List.filter_eq_nil_iff.2 fun x hx=>by rw[h2 x (List.mem_range.1 hx)];simp
 have a2:(zO t).filter q=[]:=List.filter_eq_nil_iff.2 fun x hx=>by rw[h3,h2 x (List.mem_range.1 hx)];simp
 rw[a1,a2,zAN,zAI,zAI,zBE,List.filter_cons_of_pos h1,List.filter_cons_of_neg (by rw[h3];simp)]
 congr 1;refine List.filter_congr fun x hx=>?_;obtain⟨y,hy,rfl⟩:=List.mem_map.1 hx;obtain⟨z,_,rfl⟩:=List.mem_map.1 hy;rw[h3];have:decide (t+z.succ=t)=false:=decide_eq_false (by omega)
 rw[this];simp
theorem ycdl{x:Nat}(h0:x≠0)(h:x<2^32):Lib.ctz 32 x<32/\x.testBit (Lib.ctz 32 x)=true/\(∀i,i<Lib.ctz 32 x->x.testBit i=false)/\∀i,(x&&&(x-1)).testBit i=(x.testBit i && !decide (i=Lib.ctz 32 x)):=by
 obtain⟨m,hm,hk⟩:=Lib.ctzFrom_spec 32 x (by omega) h
 have e:Lib.ctz 32 x=Lib.ctzFrom 32 x:=by simp[Lib.ctz,h0]
 rw[e];obtain⟨k,hkk⟩:∃k,Lib.ctzFrom 32 x=k:=⟨_,rfl⟩;rw[hkk]at hm hk ⊢;have hp:0<2^k:=zAG k
 have b1:∀j,x.testBit j=if j<k then false else(2*m+1).testBit (j-k):=fun j=>by
  have:=zAB (2*m+1) hp j;rw[zBE,<-hm]at this;rw[this];simp
 have e2:x-1=2^k*(2*m)+(2^k-1):=by
  have:2^k*(2*m+1)=2^k*(2*m)+2^k:=by rw[Nat.mul_add,Nat.mul_one]
  omega
 have b2:∀j,(x-1).testBit j=if j<k then(2^k-1).testBit j else(2*m).testBit (j-k):=fun j=>by
  rw[e2];exact zAB (2*m) (show 2^k-1<2^k by omega) j
 refine⟨hk,by rw[b1,if_neg (by omega),Nat.sub_self];simp,fun i hi=>by rw[b1,if_pos hi],fun i=>?_⟩
 rw[zAW,b1,b2]
 by_cases q:i<k
 ·rw[if_pos q];simp
 ·rw[if_neg q,if_neg q]
  by_cases q2:i=k
  ·subst q2;simp
  ·obtain⟨j,hj⟩:∃j,i-k=j+1:=⟨i-k-1,by omega⟩
   rw[hj,zAT,zAT,show(2*m+1)/2=m by omega,show 2*m/2=m by omega]
   simp[q2]
theorem ynv:ybr 0=[]:=List.filter_eq_nil_iff.2 fun x _=>by simp
theorem ypg{x:Nat}(h0:x≠0)(h:x<2^32):ybr x=Lib.ctz 32 x::ybr (x&&&(x-1)):=by
 obtain⟨h1,h2,h3,h4⟩:=ycdl h0 h;exact yzz h1 h2 h3 h4
def ydc(s:Nat):Nat->Nat
 |0=>s
 |k+1=>ydc s k&&&(ydc s k-1)
theorem ymm{s:Nat}(h:s<2^32):∀k,ydc s k<2^32
 |0=>h
 |k+1=>Nat.lt_of_le_of_lt Nat.and_le_left (ymm h k)
theorem yoc{s:Nat}(h:s<2^32):∀k,ybr (ydc s k)=(ybr s).drop k
 |0=>by simp[ydc]
 | k + 1=>by
   have ih:=yoc h k;show ybr (ydc s k&&&(ydc s k-1))=_
   by_cases h0:ydc s k=0
   ·rw[h0,ynv]at ih;rw[h0,Nat.zero_and,ynv,<-zBB,<-ih];rfl
   ·rw[ypg h0 (ymm h k)]at ih;rw[<-zBB,<-ih];rfl
theorem rest_end{s k:Nat}(h:s<2^32)(hk:k<=(ybr s).length):ydc s k=0↔k=(ybr s).length:=by
 have hd:=yoc h k;constructor
 ·intro e;rw[e,ynv]at hd;have:=congrArg List.length hd;rw[List.length_drop,zAX]at this;omega
 ·intro e;rw[e,List.drop_length]at hd;refine zS fun q=>?_;rw[<-e]at hd;rw[ypg q (ymm h k)]at hd;cases hd
theorem ydes{s k:Nat}(h:s<2^32)(hk:k<(ybr s).length):ydc s k≠0/\Lib.ctz 32 (ydc s k)=(ybr s).getD k 0:=by
 have h0:ydc s k≠0:=fun e=>by have:=(rest_end h (Nat.le_of_lt hk)).1 e;omega
 refine⟨h0,?_⟩;have hd:=yoc h k;rw[ypg h0 (ymm h k),zAE hk]at hd;have:=(List.cons.inj hd).1;rw[this,List.getD_eq_getElem?_getD,zAF hk];rfl
theorem ybqr{s v:Nat}:v∈ybr s↔v<32/\s.testBit v=true:=by
 unfold ybr;rw[zAY,zBC]
end
section
open Go.RowKit
theorem ydhw(x a:Nat)(hx:x<4294967296)(hx0:x≠0)(hlow:x&&&(4294967296-x)=a) :
 bits BinOp.and IntKind.u32 (x:Int) (-(x:Int)%4294967296)*125613361%4294967296/134217728=((a*125613361%4294967296/134217728:Nat):Int):=by
 have e1:-(x:Int)%4294967296=((4294967296-x:Nat):Int):=by omega
 have e2:bits BinOp.and IntKind.u32 (x:Int) ((4294967296-x:Nat):Int)=((x&&&(4294967296-x):Nat):Int):=u32_and (a:=x) (b:=4294967296-x) (by omega) (by omega)
 rw[e1,e2,hlow];omega
set_option maxHeartbeats 1000000 in
theorem ydeh (x k idx:Nat) (w:World) (hx0:((x:Int)==0)=false) (key:bits BinOp.and IntKind.u32 (x:Int) (-(x:Int)%4294967296)*125613361%4294967296/134217728=(idx:Int))
 (hi:idx<32) (hk:k<32) (hcell:w.cell? ⟨0,idx,none⟩=some (.int .u8 k)) :
 Calls Tryz.prog 190 #[.int .u32 x] w fun e w'=>e = .returned (.int .i64 k)/\w'=w:=by
 go_enter Tryz.func190,Tryz.ntmps190
 go_wp2_with (simp only[key])
 go_ret
 exact⟨rfl,rfl⟩
theorem yddk(w:World):Calls Tryz.prog 190 #[.int .u32 0] w fun e w'=>e = .returned (.int .i64 32)/\w'=w:=by
 go_enter Tryz.func190,Tryz.ntmps190
 go_wp2
 go_ret
 exact⟨rfl,rfl⟩
theorem ydjv{w:World}{x:Nat}(hx:x<2^32)(hw:∃e fz,w.heap[0]?=some (.cells Ev.ybdk.toArray e fz)) :
 Calls Tryz.prog 190 #[.int .u32 x] w fun e w'=>e = .returned (.int .i64 (Lib.ctz 32 x))/\w'=w:=by
 by_cases hx0:x=0
 ·subst hx0;exact yddk w
 ·obtain⟨hlow,hk⟩:=Lib.lowest_bit 32 x hx0 hx;obtain⟨hi,htab⟩:=Lib.deBruijn32_at _ hk;obtain⟨e,fz,hw⟩:=hw;refine ydeh x _ _ w (by simp;omega) (ydhw x _ hx hx0 hlow) hi hk ?_
  have keyN:∀j,j<32->([0,1,28,2,29,14,24,3,30,22,20,15,25,17,4,8,31,27,13,23,21,19,16,7,26,12,18,6,11,5,10,9]:List Int)[j]?=some ((Lib.deBruijn32tab.getD j 0:Nat):Int):=by decide +kernel
  have key:∀j,j<32->Ev.ybdk[j]?=some (.int .u8 (Lib.deBruijn32tab.getD j 0:Nat)):=fun j hj=>by
   unfold Ev.ybdk;rw[zAR,keyN j hj];rfl
  rw[World.cell?,hw];have:=key _ hi;rw[htab]at this
  simpa using this
namespace Sh
open Ev
end Sh
end
section
namespace Ev
open Go Go.RowKit
theorem ybjd(v:Value):(T.sets .leaf 0 [v]).get 0=some v:=ybso (l:=[v]) (j:=0) (by simp)
noncomputable def ywn(x:Nat):ABlk:=.cells (T.sets .leaf 0 [.int .u32 x]) 1 40 0
def setAt(b x:Nat)(m:Mem):Prop:=∃c,m.b.get b=some (.cells c 1 40 0)/\c.get 0=some (.int .u32 x)
section
variable {φ:Phi}{M:AM}{w:World}{m:Mem}{b x y:Nat}
theorem yxg(h:setAt b x m)(hR:Rel φ M w)(hs:Sub m M):∃l cs,φ b=some l/\l.sz=0/\l.base+1<=l.size/\l.ob=none/\w.heap[l.blk]?=some (.cells cs 40 (0,0))/\cs.size=l.size/\cs[l.base]?=some (.int .u32 x):=by
 obtain⟨c,h1,h2⟩:=h;obtain⟨l,cs,e',fz,g1,g2,g3,g4,g5,g6,g7⟩:=hR.cellsAt (hs _ _ h1);obtain⟨q1,q2,q3⟩:=g4 (by decide)
 subst q1 q2;obtain⟨v',k1,k2⟩:=g7 0 _ (by omega) h2
 have e:=k2.eq_simple rfl;subst e;exact⟨l,cs.toArray,g1,g2,g3,q3,g5,by simpa using g6,by simpa using k1⟩
theorem yddz(h:setAt b x m)(hR:Rel φ M w)(hs:Sub m M){l:Loc}(hl:φ b=some l) :
 Rel φ (upd M b (some (ywn y))) (w.setCell ⟨l.blk,l.base,none⟩ (.int .u32 y))/\WG φ M w φ (upd M b (some (ywn y))) (w.setCell ⟨l.blk,l.base,none⟩ (.int .u32 y)):=by
 obtain⟨l',cs,g1,g2,g3,g4,g5,g6,g7⟩:=yxg h hR hs;rw[hl]at g1;cases g1
 obtain⟨c,h1,_⟩:=h;rw[setCell_eq_setRow w l.blk l.base cs _ _ _ g5];refine hR.setRow (hs _ _ h1) hl ⟨g2,g3,(cs.setIfInBounds l.base (.int .u32 y)).toList,40,(0,0),⟨fun _=>⟨rfl,rfl,g4⟩,fun o ho=>(by rw[g4]at ho;cases ho)⟩,?_,by simpa using g6,fun j v hj hv=>?_⟩
 ·rw[Array.toArray_toList];exact setRow_heap w _ _ _ _ _ g5
 ·obtain rfl:j=0:=by omega
  rw[ybjd]at hv;cases hv
  refine⟨.int .u32 y,?_,.simple rfl⟩;have hlt:l.base<cs.size:=by omega
  simp[hlt]
end
noncomputable def ypv(b y:Nat)(m:Mem):Mem:=m.app (.upd b (ywn y))
theorem yboc(b y:Nat)(m:Mem)(i:Nat):(ypv b y m).b.get i=if i=b then some (ywn y)else m.b.get i:=by
 unfold ypv;rw[Sh.ybga];exact T.set_at _ _ _ _
noncomputable def ycnw(b s:Nat):It where
 n:=(ybr s).length
 el:=fun k=>[.int .i64 ((ybr s).getD k 0:Nat)]
 pre:=fun k m=>setAt b (ydc s k) m
 adv:=fun k m=>ypv b (ydc s (k+1)) m
 step:=fun k φ M w M' w'=>∃l,φ b=some l/\M'=upd M b (some (ywn (ydc s (k+1))))/\w'=w.setCell ⟨l.blk,l.base,none⟩ (.int .u32 (ydc s (k+1):Nat))
theorem ydbn{a:Nat}(h0:a≠0)(h:a<2^32):bits BinOp.and IntKind.u32 (a:Int) (IntKind.wrap .u32 ((a:Int)-1))=((a&&&(a-1):Nat):Int):=by
 have e:IntKind.wrap .u32 ((a:Int)-1)=((a-1:Nat):Int):=by
  have e1:(a:Int)-1=((a-1:Nat):Int):=by omega
  rw[e1];exact yhh (by omega)
 rw[e];exact u32_and (a:=a) (b:=a-1) h (by omega)
set_option maxRecDepth 100000 in
set_option maxHeartbeats 2000000 in
theorem yccu{b s:Nat}(hs32:s<2^32):ItOk Tryz.prog 189 [.pointer (some ⟨b,0,none⟩)] (ycnw b s):=by
 refine⟨fun args w=>ybv yrc Tryz.func189 rfl args w,fun k m hk hw hp=>?_,?_,?_⟩
 ·obtain⟨c,h1,_⟩:=hp;have hb:=hw _ _ h1;show Grow m (ypv b _ m);unfold ypv
  exact⟨ybtl hw (fun i hi=>by
   have hi:i∈[b]:=hi;rw[List.mem_singleton.1 hi];exact⟨_,h1⟩),(ysq m _).1⟩
 ·rintro k φ M w m M' w' hk hw hR hs hp ⟨l,hl,rfl,rfl⟩;obtain⟨r1,r2⟩:=yddz (y:=ydc s (k+1)) hp hR hs hl;obtain⟨c,h1,_⟩:=hp;refine⟨φ.le_refl,fun _ _=>rfl,r1,fun i x hx=>?_,fun i hi hn=>?_,r2⟩
  ·have hx:(ypv b (ydc s (k+1)) m).b.get i=some x:=hx;rw[yboc]at hx;show(if i=b then _ else _)=_
   split at hx
   ·rename_i q;rw[if_pos q];exact hx
   ·rename_i q;rw[if_neg q];exact hs _ _ hx
  ·show(if i=b then _ else _)=_
   rw[if_neg fun q=>?_];subst q;rcases hn with hn|hn
   ·rw[h1]at hn;cases hn
   ·have hn:i<(ypv i (ydc s (k+1)) m).low:=hn;unfold ypv at hn;rw[Sh.ybga]at hn;have hn:i<Nat.min m.low i:=hn;exact absurd hn (Nat.not_lt.2 (Nat.min_le_right m.low i))
 ·intro l St Stop φ M w cap' hread hgrow hyield h0 hcap;obtain⟨box,rfl,hbox⟩:=yfv hcap;obtain⟨lc,hlc,_,rfl⟩:=hbox.ptr_inv;obtain⟨N,hN⟩:∃N,(ybr s).length=N:=⟨_,rfl⟩;have Hread:=Lib.hid hread;have Hgrow:=Lib.hid hgrow;have Hyield:=Lib.hid hyield;have H0:=Lib.hid h0;have Hlc:=Lib.hid hlc
  have cellOf:Hid (∀k φ' M' W,St k φ' M' W->φ.le φ'/\W.cell? ⟨lc.blk,lc.base,none⟩=some (.int .u32 (ydc s k:Nat))/\W.frozen? ⟨lc.blk,lc.base,none⟩=false/\(∃e fz,W.heap[0]?=some (.cells ybdk.toArray e fz))/\lc.blk<W.heap.size):=Lib.hid fun k φ' M' W hst=>by
   obtain⟨hle,m,hR,hsu,hpre⟩:=hread k φ' M' W hst;obtain⟨l',cs,g1,g2,g3,g4,g5,g6,g7⟩:=yxg hpre hR hsu;rw[hle _ _ hlc]at g1;cases g1
   exact⟨hle,by simp[World.cell?,g5,g7],by simp[World.frozen?,g5],(hR.gl _ rfl).1,(Array.getElem?_eq_some_iff.1 g5).1⟩
  clear hread hgrow hyield h0 hbox hlc hcap
  refine callsIn_of_wp Tryz.func189 rfl trivial ?_
  simp only[Tryz.ntmps189,List.size_toArray,List.length_cons,zAX,zC,Nat.reduceSub,Array.replicate_succ,
   Array.replicate_zero,List.push_toArray,List.append_toArray,zAI,List.cons_append]
  gi_wp2
  gi_loopg [] N (fun q wr=>∃k:Nat,q+k=N/\Hid (∃φ' M',φ.le φ'/\St k φ' M' wr))
  case atStart=>exact⟨0,by omega,Lib.hid ⟨φ,M,φ.le_refl,H0.out⟩⟩
  case round =>
   obtain⟨k,hq,hst⟩:=hrel;obtain⟨φ1,M1,hle1,hst1⟩:=hst.out;obtain⟨_,hc1,hf1,hg1,hb1⟩:=cellOf.out _ _ _ _ hst1
   by_cases hlt:k<N
   ·obtain⟨h0,hz⟩:=ydes hs32 (k:=k) (by omega)
    have hx32:=ymm hs32 k;have key:=ydbn h0 hx32;have hrs:ydc s (k+1)=ydc s k&&&(ydc s k-1):=rfl;obtain⟨x,hx⟩:∃x,ydc s k=x:=⟨_,rfl⟩;obtain⟨y,hy⟩:∃y,ydc s (k+1)=y:=⟨_,rfl⟩;rw[hx]at hc1 h0 hz hx32 key hrs;rw[hy]at hrs;rw[<-hrs]at key;have hne:((x:Int)!=0)=true:=by rw[bne_iff_ne];omega
    have htz:=ydjv (w:=wr) (x:=x) hx32 hg1;rw[hz]at htz;obtain⟨v,hv⟩:∃v,(ybr s).getD k 0=v:=⟨_,rfl⟩
    obtain⟨fn,tmps,assign,body,hy',hRd⟩:=Hyield.out k φ1 M1 wr [.int .i64 (v:Nat)] (by show k<(ybr s).length;omega) hst1 (by
     show VRL φ1 [.int .i64 ((ybr s).getD k 0:Nat)] _;rw[hv];exact .cons (.simple rfl) .nil)
    rw[hv]at htz;have hyl:(Instr.yield l #[.int .i64 (v:Int)]).run Tryz.prog wr = .ok (.round l fn tmps assign body) wr:=hy';have Hst1:=Lib.hid hst1;have Hle1:=Lib.hid hle1;have Hy:=Lib.hid hy;have Hx:=Lib.hid hx
    clear hst hst1 hle1 hy' hg1 hz hrs hx hy
    gi_wp2
    refine⟨trivial,callsIn_wide.2 (htz.mono ?_)⟩;rintro e w' ⟨rfl,rfl⟩
    gi_wp2
    refine hRd.mono ?_;rintro e W3 (⟨rfl,φ3,M3,hle3,⟨m3,hR3,hS3,hp3⟩,hst3⟩|⟨rfl,hstop⟩)
    ·obtain⟨l',cs,g1,g2,g3,g4,g5,g6,g7⟩:=yxg hp3 hR3 hS3;rw[hle3 _ _ (Hle1.out _ _ Hlc.out)]at g1;cases g1
     have hc3:W3.cell? ⟨lc.blk,lc.base,none⟩=some (.int .u32 (x:Nat)):=by
      have hxe:ydc s k=x:=Hx.out;simp[World.cell?,g5,g7,hxe]
     have hf3:W3.frozen? ⟨lc.blk,lc.base,none⟩=false:=by simp[World.frozen?,g5]
     have Hst3:=Lib.hid (hst3 _ _ ⟨lc,hle3 _ _ (Hle1.out _ _ Hlc.out),rfl,rfl⟩);have Hle3:=Lib.hid hle3
     clear hst3 hle3 hRd hyl hR3 hS3 hp3 g2 g3 g4 g5 g6 g7
     gi_wp2
     gi_roundg (gk-1)
     case measure=>omega
     case rel =>
      have hthis:=Hst3.out;rw[Hy.out]at hthis;refine⟨k+1,by omega,Lib.hid ⟨φ3,upd M3 b (some (ywn y)),Phi.le_trans Hle1.out Hle3.out,?_⟩⟩
      clear Hread Hgrow Hyield H0 cellOf Hst3
      have e1:IntKind.wrap .u32 ((x:Int)-1)=(x:Int)-1:=by
       have e:(x:Int)-1=((x-1:Nat):Int):=by omega
       rw[e];exact yhh (by omega)
      rw[e1]at key;rw[key];exact hthis
    ·have Hstop:=Lib.hid hstop
     clear hstop hRd hyl
     gi_wp2
     refine bodyPost_ret (results_none rfl _ _ _) rfl ?_;exact⟨⟨_,rfl⟩,.inr Hstop.out⟩
   ·have hk:k=N:=by omega
    have h0:ydc s k=0:=(rest_end hs32 (by omega)).2 (by omega)
    rw[h0]at hc1;have Hst1:=Lib.hid hst1;have Hle1:=Lib.hid hle1
    clear hst hst1 hle1 hg1
    gi_wp2
    go_end0
    exact⟨⟨_,rfl⟩,.inl ⟨φ1,M1,by
     have:=Hst1.out;rw[hk,<-hN]at this;exact this⟩⟩
end Ev
end
section
section
variable {nm nc nr:ByteArray}{g:Gr}{c:Conf}{u v s:Nat}
theorem ydbr{i:Nat}:(1<<<v).testBit i=true↔i=v:=by
 rw[zAS,zY,decide_eq_true_iff];exact eq_comm
theorem ybvs(hg:ybe g):yoh g (1<<<v):=fun a b hab ha=>by
 cases q:(1<<<v).testBit b with
 |false=>rfl
 | true =>
   rw[ydbr]at ha q;subst ha;subst q
   exact absurd hab fun h=>by
    obtain⟨hu,_⟩:=hg.adj_lt h;obtain⟨l,hl,e⟩:=yij.1 h;have e3:g.ports[b]?=some (g.ports.getD b []):=by simp[zBF,hu]
    exact(hg.link e3 hl).2.2.1 e
end
end
section
def takeB(net:Nat->Nat)(t v:Nat):Nat:=if net v&&&t=0 then t|||2^v else t
def resL(net:Nat->Nat)(e w:Nat):Nat:=if e<2^24 then(ybr (resD e w)).foldl (takeB net) 0 else 2^e.log2
theorem yqn{t v i:Nat}:(t|||2^v).testBit i=true↔t.testBit i=true\/i=v:=by
 rw[Nat.testBit_or,Bool.or_eq_true,zY,decide_eq_true_iff];exact or_congr Iff.rfl eq_comm
theorem ymb{g:Gr}(hg:ybe g){net:Nat->Nat}(hn:∀u v,adj g u v->(net u).testBit v=true):∀(l:List Nat) (t:Nat),yoh g t ->
 yoh g (l.foldl (takeB net) t)/\(∀i,(l.foldl (takeB net) t).testBit i=true->t.testBit i=true\/i∈l)/\(∀i,t.testBit i=true->(l.foldl (takeB net) t).testBit i=true)
 |[],t,h=>⟨h,fun _ h=>.inl h,fun _ h=>h⟩
 | v :: l,t,h=>by
   have h' : yoh g (takeB net t v):=by
    unfold takeB;split
    ·rename_i q
     have no:∀w,adj g v w->t.testBit w=false:=fun w hw=>by
      cases r:t.testBit w with
      |false=>rfl
      | true =>
        have:(net v&&&t).testBit w=true:=by rw[zAW,hn v w hw,r];rfl
        rw[q]at this;simp at this
     intro a b hab ha;cases r:(t|||2^v).testBit b with
     |false=>rfl
     | true =>
       exfalso
       rcases yqn.1 ha with a1|a1<;>rcases yqn.1 r with b1|b1
       ·have:=h a b hab a1;rw[b1]at this;cases this
       ·rw[b1]at hab;have:=no a (hg.adj_symm hab);rw[a1]at this;cases this
       ·rw[a1]at hab;have:=no b hab;rw[b1]at this;cases this
       ·rw[a1,b1]at hab;obtain⟨hu,_⟩:=hg.adj_lt hab;obtain⟨l,hl,e⟩:=yij.1 hab;have e3:g.ports[v]?=some (g.ports.getD v []):=by simp[zBF,hu]
        exact(hg.link e3 hl).2.2.1 e
    ·exact h
   obtain⟨a1,a2,a3⟩:=ymb hg hn l _ h';rw[zAJ];refine⟨a1,fun i hi=>?_,fun i hi=>a3 i ?_⟩
   ·rcases a2 i hi with q|q
    ·unfold takeB at q;split at q
     ·rcases yqn.1 q with q|q
      ·exact .inl q
      ·exact .inr (by rw[q];exact zAA)
     ·exact .inl q
    ·exact .inr (zW _ q)
   ·unfold takeB;split
    ·exact yqn.2 (.inl hi)
    ·exact hi
theorem ywu(g:Gr):yoh g 0:=fun _ _ _ h=>by simp at h
theorem ydeo{g:Gr}(hg:ybe g){net:Nat->Nat}(hn:∀u v,adj g u v->(net u).testBit v=true):ResD (yoh g) (resL net):=fun e w h0=>by
 unfold resL
 by_cases he:e<2^24
 ·rw[if_pos he];obtain⟨r1,r2⟩:=Sh.ydbx e w h0 he;obtain⟨a1,a2,a3⟩:=ymb hg hn (ybr (resD e w)) 0 (ywu g)
  have hmem:∀i,i∈ybr (resD e w)↔i<32/\(resD e w).testBit i=true:=fun i=>by
   unfold ybr;rw[zAY,zBC]
  refine⟨?_,fun i hi=>?_,a1⟩
  ·obtain⟨i,hi⟩:∃i,(resD e w).testBit i=true:=by
    refine zS fun hq=>r1 ((yby _).2 fun i=>?_);cases q:(resD e w).testBit i with
    |false=>rfl
    |true=>exact absurd ⟨i,q⟩ hq
   have hi32:i<32:=by
    refine zS fun hq=>?_;have:=r2 i hi;rw[Nat.testBit_lt_two_pow (zT he (Nat.pow_le_pow_right (by omega) (by omega)))]at this
    cases this
   have hm:=(hmem i).2 ⟨hi32,hi⟩
   obtain⟨x,l,e1⟩:∃x l,ybr (resD e w)=x::l:=by
    cases q:ybr (resD e w)with
    |nil=>rw[q]at hm;cases hm
    |cons x l=>exact⟨x,l,rfl⟩
   rw[e1,zAJ];have hx:yoh g (takeB net 0 x):=(ymb hg hn [x] 0 (ywu g)).1
   have:=(ymb hg hn l _ hx).2.2 x (by
    unfold takeB;rw[if_pos (by simp)]
    exact yqn.2 (.inr rfl))
   intro hz;rw[hz]at this;simp at this
  ·rcases a2 i hi with q|q
   ·simp at q
   ·exact r2 i ((hmem i).1 q).2
 ·rw[if_neg he]
  have hb:∀i,(2^e.log2).testBit i=true↔i=e.log2:=fun i=>by
   rw[zY,decide_eq_true_iff];exact eq_comm
  refine⟨Nat.pos_iff_ne_zero.1 (zAG _),fun i hi=>?_,?_⟩
  ·rw[(hb i).1 hi];exact Nat.testBit_log2 h0
  ·have:=ybvs (v:=e.log2) hg
   rwa [zAS]at this
theorem ycai{g:Gr}(hg:ybe g):∀u v,adj g u v->(netP (g.ports.getD u [])).testBit v=true:=fun u v h=>by
 obtain⟨l,hl,e⟩:=yhr h
 have key:∀(ls:List (Int×Int)) (a:Nat),(a.testBit v=true\/∃l∈ls,l.1.toNat=v)->(ls.foldl (fun a l=>a|||2^l.1.toNat) a).testBit v=true:=by
  intro ls
  induction ls with
  |nil=>intro a ha;exact ha.resolve_right fun⟨_,h,_⟩=>nomatch h
  | cons x ls ih =>
    intro a ha;rw[zAJ];refine ih _ ?_;rcases ha with q|⟨l,hl,q⟩
    ·exact .inl (yqn.2 (.inl q))
    ·rcases List.mem_cons.1 hl with r|r
     ·exact .inl (yqn.2 (.inr (by rw[<-q,r])))
     ·exact .inr ⟨l,r,q⟩
 exact key _ 0 (.inr ⟨l,hl,e⟩)
end
end Go.Proofs.YtiejahgklcjhkaaGreatDoor
