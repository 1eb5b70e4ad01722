/- Joined. -/
import Derived.Test.YtiejahgklcjhkaaGreatDoorPkG14
set_option linter.unusedSimpArgs false
set_option linter.unusedVariables false
set_option maxRecDepth 8000
open Nat renaming reduceEqDiff→zA,reduceAdd→zB,reduceLeDiff→zC,reduceLT→zD,reduceBEq→zF,zero_mul→zI,sub_self→zK,and_two_pow_sub_one_of_lt_two_pow→zU,pow_le_pow_right→zAA,zero_le→zAD,lt_of_lt_of_le→zAO,lt_of_lt_of_eq→zAP,not_lt_zero→zAX,reduceMul→zBA,lt_or_ge→zBD,mod_lt→zBG
open List renaming length_append→zG,getD→zH,range→zL,getElem?_eq_getElem→zM,length_map→zO,mem_cons_of_mem→zQ,getD_cons_zero→zS,getElem?_append_left→zT,mem_cons_self→zV,getElem?_set_self→zX,getElem_mem→zY,getElem?_eq_none→zZ,getElem?_set_ne→zAB,map_cons→zAF,getElem?_map→zAG,getElem?_take_of_lt→zAJ,length_erase_of_mem→zAK,getElem?_cons_zero→zAL,range_succ_eq_map→zAM,mem_erase_of_ne→zAN,nodup_append→zAQ,pairwise_map→zAR,take_length→zAS,length_cons→zAT,ext_getElem→zAU,getElem_map→zAV,map_append→zAW,replicate→zAZ,map_map→zBC,flatMap→zBE
open Bool renaming and_eq_true→zJ
open Int renaming natCast_zero→zN,emod_lt_of_pos→zW,emod_nonneg→zAC,reduceBNe→zAE,toNat_natCast→zAH,ofNat_tmod→zAY,reduceBEq→zBB
open BitVec renaming ofInt→zAI
open Classical renaming choose_spec→zBF,choose→zBH
open Go
namespace Go.Proofs.YtiejahgklcjhkaaGreatDoor
section
namespace Sh
open Go Ev
def ydhl:LO:=[o3 (.mv (ci' 0)) 4 0]
def ydgq:LO:=[mv' 1 5 0,o3 (.bin .lss (.tmp 5) (ci' 1)) 6 1]
def ydnq:LO:=[o3 (.mv (ci' 0)) 4 0]
def ydmb:LO:=[mv' 0 7 0,mv' 1 8 0,bn' .rem 7 8 9 3,mv' 9 0 7]
def ydny:LO:=[mv' 0 10 0,o3 (.bin .lss (.tmp 10) (ci' 0)) 11 1]
def ydia:LO:=[mv' 0 12 0,mv' 1 13 0,bn' .add 12 13 14 3,mv' 14 0 7]
def ydkt:LO:=[mv' 0 15 0,mv' 15 4 1]
def c39:SC:=(.seq (.reg false ydhl) (.seq (.seq (.reg false ydgq) (.cond (.tmp 6) (.seq (.reg false ydnq) .ret) .skip)) (.seq (.reg false ydmb) (.seq (.seq (.reg false ydny) (.cond (.tmp 11) (.reg false ydia) .skip)) (.seq (.reg false ydkt) .ret)))))
theorem ydly:Fn 39 c39 [.t 4]:=fn_0 Tryz.func39 (by kernel_rfl) (by kernel_rfl)
def ydgm:LO:=[o3 (.mv (ci' 0)) 4 0]
def ydfz:LO:=[mv' 1 5 0,mv' 0 6 0,ln' 6 7 2,bn' .lss 5 7 8 7]
def ydon:LO:=[mv' 0 9 0,mv' 1 10 0,ix' 1 9 10 11 3,ld' false 1 11 12 7,mv' 12 4 15]
def ydme:LO:=[o3 (.mv (ci' 0)) 4 0]
def c77:SC:=(.seq (.reg false ydgm) (.seq (.seq (.reg false ydfz) (.cond (.tmp 8) (.seq (.reg false ydon) .ret) .skip)) (.seq (.reg false ydme) .ret)))
theorem ydnw:Fn 77 c77 [.t 4]:=fn_0 Tryz.func77 (by kernel_rfl) (by kernel_rfl)
def yctx:LO:=[o3 (.box 27 (.tmp 0)) 3 0,o3 (.mv (.const (.bool false))) 6 0]
def yctk:LO:=[o3 (.mv (ci' 0)) 7 0]
def ycrb:LO:=[mv' 7 8 0,fa' 1 1 3 9 0,ld' false 1 9 10 2,mv' 1 11 0,ix' 1 10 11 12 14,ld' false 1 12 13 30,ln' 13 14 62,bn' .lss 8 14 15 127]
def ycpp:LO:=[fa' 1 1 3 18 0,ld' false 1 18 19 1,mv' 1 20 0,ix' 1 19 20 21 7,ld' false 1 21 22 15,mv' 7 23 0,ix' 2 22 23 24 63,fa' 0 1 24 25 127,ld' false 1 25 26 255,mv' 2 27 0,bn' .eql 26 27 28 1023]
def ycth:LO:=[o3 (.mv (.const (.bool true))) 6 0]
def ycse:LO:=[mv' 7 16 0,o3 (.bin .add (.tmp 16) (ci' 1)) 17 1,mv' 17 7 3]
def ycrf:LO:=[o3 (.mv (.const (.bool false))) 6 0]
def c128:SC:=(.seq (.reg false yctx) (.seq (.seq (.reg false yctk) (.block 0 (.loop (.seq (.seq (.reg false ycrb) (.cond (.tmp 15) .skip (.exit 0))) (.seq (.block 1 (.seq (.reg false ycpp) (.cond (.tmp 28) (.seq (.reg false ycth) .ret) .skip))) (.reg false ycse)))))) (.seq (.reg false ycrf) .ret)))
theorem yczi:Fn 128 c128 [.t 6]:=fn_0 Tryz.func128 (by kernel_rfl) (by kernel_rfl)
def ydas:LO:=[o3 (.box 24 (.tmp 0)) 5 0,o3 (.box 27 (.tmp 1)) 6 0]
def yczx:LO:=[mv' 2 12 0,mv' 3 13 0,bn' .eql 12 13 14 3,mv' 14 15 7,⟨.load true 2 (.tmp 6),some 16,some (15,false),15⟩,⟨.mv (.tmp 2),some 17,some (15,false),15⟩,⟨.mv (.tmp 3),some 18,some (15,false),15⟩,⟨.call (.func 128) [(.tmp 16),(.tmp 17),(.tmp 18)],some 19,some (15,false),127⟩,o3 (.pick (.tmp 15) (.const (.bool true)) (.tmp 19)) 20 255]
def yblx:LO:=[mv' 3 21 0,mv' 4 22 0,o3 (.build [.i .i64 0,.i .i64 0] [(0,1,(.tmp 21)),(1,1,(.tmp 22))]) 23 3,mv' 2 24 0,mv' 4 25 0,o3 (.build [.i .i64 0,.i .i64 0] [(0,1,(.tmp 24)),(1,1,(.tmp 25))]) 26 24,o3 (.alloc 95 1 [.i .i64 0,.i .i64 0]) 10 0,o3 (.alloc 95 1 [.i .i64 0,.i .i64 0]) 11 0,o0 (.store 2 (.tmp 10) (.tmp 23)) 199,o0 (.store 2 (.tmp 11) (.tmp 26)) 511]
def ybni:LO:=[fa' 5 1 5 27 0,ld' false 1 27 28 1]
def ybxb:LO:=[fa' 1 1 6 29 0,ld' false 1 29 30 1,mv' 2 31 0,ld' true 2 10 32 0,o3 (.bslice 95 2 1 [.i .i64 0,.i .i64 0] [(0,2,(.tmp 32))]) 33 8,fa' 1 1 6 34 0,ld' false 1 34 35 32,mv' 2 36 0,ix' 1 35 36 37 224,ld' false 1 37 38 480,o3 (.app 95 2 16 (.tmp 33) (.tmp 38)) 39 1016,ix' 1 30 31 40 2047,o0 (.store 1 (.tmp 40) (.tmp 39)) 4095]
def ybzq:LO:=[fa' 1 1 6 41 0,ld' false 1 41 42 1,mv' 3 43 0,ld' true 2 11 44 0,o3 (.bslice 95 2 1 [.i .i64 0,.i .i64 0] [(0,2,(.tmp 44))]) 45 8,fa' 1 1 6 46 0,ld' false 1 46 47 32,mv' 3 48 0,ix' 1 47 48 49 224,ld' false 1 49 50 480,o3 (.app 95 2 16 (.tmp 45) (.tmp 50)) 51 1016,ix' 1 42 43 52 2047,o0 (.store 1 (.tmp 52) (.tmp 51)) 4095]
def ydnn:LO:=[fa' 1 1 6 53 0,ld' false 1 53 54 1,mv' 2 55 0,fa' 1 1 6 56 0,ld' false 1 56 57 8,mv' 3 58 0,fa' 1 1 6 59 0,ld' false 1 59 60 64,mv' 2 61 0,ix' 1 60 61 62 448,ld' false 1 62 63 960,ld' true 2 10 64 0,o3 (.bslice 95 2 1 [.i .i64 0,.i .i64 0] [(0,2,(.tmp 64))]) 65 2048,o3 (.app 95 2 16 (.tmp 63) (.tmp 65)) 66 8128,fa' 1 1 6 67 0,ld' false 1 67 68 16384,mv' 3 69 0,ix' 1 68 69 70 114688,ld' false 1 70 71 245760,ld' true 2 11 72 0,o3 (.bslice 95 2 1 [.i .i64 0,.i .i64 0] [(0,2,(.tmp 72))]) 73 524288,o3 (.app 95 2 16 (.tmp 71) (.tmp 73)) 74 2097088,ix' 1 54 55 75 4194247,o0 (.store 1 (.tmp 75) (.tmp 66)) 8388551,ix' 1 57 58 76 16777215,o0 (.store 1 (.tmp 76) (.tmp 74)) 33554431]
def c76:SC:=(.seq (.reg false ydas) (.seq (.seq (.reg false yczx) (.cond (.tmp 20) .ret .skip)) (.seq (.reg false yblx) (.seq (.seq (.reg false ybni) (.cond (.tmp 28) (.seq (.reg true ybxb) (.seq (.reg true ybzq) .ret)) .skip)) (.reg true ydnn)))))
theorem ycyw:FnM 76 c76 []:=fn_m Tryz.func76 (by kernel_rfl) (by kernel_rfl)
def ydgd:LO:=[o3 (.box 24 (.tmp 0)) 2 0,o3 (.alloc 27 1 [.a (.slice none 0 0),.a (.slice none 0 0)]) 4 0]
def ydli:LO:=[fa' 0 1 2 10 0,ld' false 1 10 11 1,o3 (.wsub (.tmp 11) (ci' 1)) 12 3,mv' 1 13 0,cl' 39 [12,13] 14 15,o3 (.bin .add (ci' 1) (.tmp 14)) 15 31,mv' 15 5 63]
def ydmn:LO:=[mv' 5 16 0,o3 (.mk 71 1 24 [.a (.slice none 0 0)] (.tmp 16) (.tmp 16)) 17 1,o3 (.build [.a (.slice none 0 0),.a (.slice none 0 0)] [(1,1,(.tmp 17))]) 18 3,o3 (.alloc 27 1 [.a (.slice none 0 0),.a (.slice none 0 0)]) 6 0,o0 (.store 2 (.tmp 6) (.tmp 18)) 15]
def ydgp:LO:=[o3 (.mv (ci' 0)) 7 0]
def ydhf:LO:=[mv' 7 19 0,mv' 5 20 0,bn' .lss 19 20 21 3]
def ydiz:LO:=[fa' 3 1 2 24 0,ld' false 1 24 25 1,mv' 7 26 0,cl' 77 [25,26] 27 7,o3 (.call (.func 39) [(.tmp 27),(ci' 256)]) 28 15,mv' 28 8 31]
def ydge:LO:=[o3 (.mv (ci' 0)) 9 0]
def ydol:LO:=[mv' 9 29 0,mv' 7 30 0,bn' .lss 29 30 31 3]
def ycuo:LO:=[fa' 0 1 6 34 0,ld' false 1 34 35 1,mv' 9 36 0,ix' 1 35 36 37 7,ld' false 1 37 38 15,mv' 8 39 0,bn' .eql 38 39 40 63]
def yctv:LO:=[mv' 8 41 0,o3 (.bin .add (.tmp 41) (ci' 1)) 42 1,o3 (.bin .rem (.tmp 42) (ci' 256)) 43 3,mv' 43 8 7,o3 (.mv (.const (.int .i64 (-1)))) 9 15]
def ydkz:LO:=[mv' 9 32 0,o3 (.bin .add (.tmp 32) (ci' 1)) 33 1,mv' 33 9 3]
def ycsi:LO:=[fa' 0 1 6 44 0,ld' false 1 44 45 1,mv' 8 46 0,o3 (.bslice 3 1 1 [.i .i64 0] [(0,1,(.tmp 46))]) 47 4,o3 (.app 3 1 8 (.tmp 45) (.tmp 47)) 48 15,fa' 0 1 6 49 31,o0 (.store 1 (.tmp 49) (.tmp 48)) 63]
def ydnr:LO:=[mv' 7 22 0,o3 (.bin .add (.tmp 22) (ci' 1)) 23 1,mv' 23 7 3]
def ycmd:LO:=[ld' true 2 6 50 0,o0 (.store 2 (.tmp 4) (.tmp 50)) 1]
def c75:SC:=(.seq (.reg false ydgd) (.seq (.reg false ydli) (.seq (.reg false ydmn) (.seq (.seq (.reg false ydgp) (.block 0 (.loop (.seq (.seq (.reg false ydhf) (.cond (.tmp 21) .skip (.exit 0))) (.seq (.block 1 (.seq (.reg false ydiz) (.seq (.seq (.reg false ydge) (.block 2 (.loop (.seq (.seq (.reg false ydol) (.cond (.tmp 31) .skip (.exit 2))) (.seq (.block 3 (.seq (.reg false ycuo) (.cond (.tmp 40) (.reg false yctv) .skip))) (.reg false ydkz)))))) (.reg false ycsi)))) (.reg false ydnr)))))) (.seq (.reg false ycmd) .ret)))))
theorem yder:FnM 75 c75 [.c 4 true 2]:=fn_m Tryz.func75 (by kernel_rfl) (by kernel_rfl)
def ydfw:LO:=[o3 (.box 24 (.tmp 0)) 2 0,o3 (.alloc 27 1 [.a (.slice none 0 0),.a (.slice none 0 0)]) 4 0]
def ydnu:LO:=[ld' true 6 2 7 0,mv' 1 8 0,cl' 75 [7,8] 9 3,o3 (.alloc 27 1 [.a (.slice none 0 0),.a (.slice none 0 0)]) 5 0,o0 (.store 2 (.tmp 5) (.tmp 9)) 15]
def ydkv:LO:=[o3 (.mv (ci' 1)) 6 0]
def ydfj:LO:=[mv' 6 10 0,fa' 1 1 5 11 0,ld' false 1 11 12 2,ln' 12 13 6,bn' .lss 10 13 14 15]
def ydnt:LO:=[ld' true 6 2 17 0,ld' true 2 5 18 0,fa' 1 1 2 19 0,ld' false 1 19 20 4,mv' 6 21 0,o3 (.bin .sub (.tmp 21) (ci' 1)) 22 16,cl' 77 [20,22] 23 60,mv' 6 24 0,cl' 39 [23,24] 25 252,mv' 6 26 0,fa' 2 1 2 27 0,ld' false 1 27 28 1024,mv' 6 29 0,o3 (.bin .sub (.tmp 29) (ci' 1)) 30 4096,cl' 77 [28,30] 31 15868,o3 (.call (.func 39) [(.tmp 31),(ci' 15)]) 32 32252,o3 (.bin .add (ci' 1) (.tmp 32)) 33 65020,cl' 76 [17,18,25,26,33] 34 131071]
def ydlw:LO:=[mv' 6 15 0,o3 (.bin .add (.tmp 15) (ci' 1)) 16 1,mv' 16 6 3]
def ydhm:LO:=[ld' true 2 5 35 0,o0 (.store 2 (.tmp 4) (.tmp 35)) 1]
def c21:SC:=(.seq (.reg false ydfw) (.seq (.reg false ydnu) (.seq (.seq (.reg false ydkv) (.block 0 (.loop (.seq (.seq (.reg false ydfj) (.cond (.tmp 14) .skip (.exit 0))) (.seq (.block 1 (.reg true ydnt)) (.reg false ydlw)))))) (.seq (.reg false ydhm) .ret))))
theorem ycxz:FnM 21 c21 [.c 4 true 2]:=fn_m Tryz.func21 (by kernel_rfl) (by kernel_rfl)
def ydhh:LO:=[o3 (.box 27 (.tmp 0)) 3 0,o3 (.mv (.const (.slice none 0 0))) 6 0]
def ydho:LO:=[fa' 1 1 3 16 0,ld' false 1 16 17 1,ln' 17 18 3,mv' 18 7 7,o3 (.mv (ci' 0)) 8 15]
def ydks:LO:=[o3 (.mv (ci' 0)) 9 0]
def ydhp:LO:=[mv' 9 19 0,mv' 7 20 0,bn' .lss 19 20 21 3]
def ydns:LO:=[mv' 8 24 0,fa' 0 1 3 25 0,ld' false 1 25 26 2,mv' 9 27 0,ix' 1 26 27 28 14,ld' false 1 28 29 30,o3 (.mm true (.tmp 24) (.tmp 29)) 30 63,mv' 30 8 127]
def ydgg:LO:=[mv' 9 22 0,o3 (.bin .add (.tmp 22) (ci' 1)) 23 1,mv' 23 9 3]
def ydhj:LO:=[o3 (.mv (.const (.slice none 0 0))) 10 0]
def ydhb:LO:=[o3 (.mv (ci' 0)) 11 0]
def ydnx:LO:=[mv' 11 31 0,mv' 7 32 0,bn' .lss 31 32 33 3]
def yckq:LO:=[o3 (.mv (.const (.slice none 0 0))) 12 0]
def ycsr:LO:=[o3 (.mv (ci' 0)) 13 0]
def ychb:LO:=[mv' 13 36 0,mv' 1 37 0,ln' 37 38 2,bn' .lss 36 38 39 7]
def yctd:LO:=[mv' 1 42 0,mv' 13 43 0,ix' 6 42 43 44 3,fa' 2 1 44 45 7,ld' false 1 45 46 15,mv' 1 47 0,mv' 13 48 0,ix' 6 47 48 49 96,fa' 3 1 49 50 224,ld' false 1 50 51 480,mv' 1 52 0,mv' 13 53 0,ix' 6 52 53 54 3072,fa' 4 1 54 55 7168,ld' false 1 55 56 15360,mv' 7 57 0,bn' .mul 56 57 58 64512,bn' .add 51 58 59 131040,mv' 1 60 0,mv' 13 61 0,ix' 6 60 61 62 786432,fa' 5 1 62 63 1835008,ld' false 1 63 64 3932160,mv' 8 65 0,bn' .mul 64 65 66 16515072,bn' .add 59 66 67 33554400,mv' 46 14 31,mv' 67 15 134217727]
def yciu:LO:=[mv' 1 68 0,mv' 13 69 0,ix' 6 68 69 70 3,fa' 1 1 70 71 7,ld' false 1 71 72 15]
def ybhx:LO:=[o3 (.bin .eql (.tmp 72) (ci' 2)) 74 0,mv' 74 73 1]
def ybkd:LO:=[o3 (.mv (ci' 0)) 14 0,o3 (.mv (ci' 1)) 15 1]
def ybik:LO:=[o3 (.bin .eql (.tmp 72) (ci' 3)) 76 0,mv' 76 75 1]
def ybji:LO:=[fa' 1 1 3 77 0,ld' false 1 77 78 1,mv' 11 79 0,ix' 1 78 79 80 7,ld' false 1 80 81 15,ln' 81 82 31,o3 (.bin .sub (.tmp 82) (ci' 1)) 83 63,o3 (.mv (.const (.int .i64 (-1)))) 14 0,mv' 83 15 255]
def ybib:LO:=[mv' 12 84 0,mv' 14 85 0,mv' 2 86 0,mv' 11 87 0,mv' 1 88 0,ln' 88 89 16,bn' .mul 87 89 90 56,mv' 13 91 0,bn' .add 90 91 92 248,cl' 77 [86,92] 93 508,mv' 15 94 0,mv' 14 95 0,bn' .sub 94 95 96 3072,o3 (.bin .add (.tmp 96) (ci' 1)) 97 7168,cl' 39 [93,97] 98 16380,bn' .add 85 98 99 32766,o3 (.bslice 3 1 1 [.i .i64 0] [(0,1,(.tmp 99))]) 100 65534,o3 (.app 3 1 8 (.tmp 84) (.tmp 100)) 101 131071,mv' 101 12 262143]
def ybjh:LO:=[mv' 13 40 0,o3 (.bin .add (.tmp 40) (ci' 1)) 41 1,mv' 41 13 3]
def ycpa:LO:=[mv' 10 102 0,mv' 12 103 0,o3 (.bslice 22 1 1 [.a (.slice none 0 0)] [(0,1,(.tmp 103))]) 104 2,o3 (.app 22 1 24 (.tmp 102) (.tmp 104)) 105 7,mv' 105 10 15]
def ydir:LO:=[mv' 11 34 0,o3 (.bin .add (.tmp 34) (ci' 1)) 35 1,mv' 35 11 3]
def ycsb:LO:=[mv' 10 106 0,mv' 106 6 1]
def c24:SC:=(.seq (.reg false ydhh) (.seq (.reg false ydho) (.seq (.seq (.reg false ydks) (.block 0 (.loop (.seq (.seq (.reg false ydhp) (.cond (.tmp 21) .skip (.exit 0))) (.seq (.block 1 (.reg false ydns)) (.reg false ydgg)))))) (.seq (.reg false ydhj) (.seq (.seq (.reg false ydhb) (.block 2 (.loop (.seq (.seq (.reg false ydnx) (.cond (.tmp 33) .skip (.exit 2))) (.seq (.block 3 (.seq (.reg false yckq) (.seq (.seq (.reg false ycsr) (.block 4 (.loop (.seq (.seq (.reg false ychb) (.cond (.tmp 39) .skip (.exit 4))) (.seq (.block 5 (.seq (.reg true yctd) (.seq (.seq (.reg false yciu) (.block 6 (.seq (.reg false ybhx) (.cond (.tmp 73) (.reg false ybkd) (.seq (.reg false ybik) (.cond (.tmp 75) (.reg true ybji) .skip)))))) (.reg false ybib)))) (.reg false ybjh)))))) (.reg false ycpa)))) (.reg false ydir)))))) (.seq (.reg false ycsb) .ret))))))
theorem ydmu:Fn 24 c24 [.t 6]:=fn_0 Tryz.func24 (by kernel_rfl) (by kernel_rfl)
def ydji:LO:=[o3 (.mv (.const (.slice none 0 0))) 4 0]
def ydkh:LO:=[o3 (.mv (.const (.slice none 0 0))) 5 0]
def ydjz:LO:=[o3 (.mv (ci' 0)) 6 0]
def ydhi:LO:=[mv' 6 9 0,mv' 1 10 0,bn' .lss 9 10 11 3]
def ydip:LO:=[mv' 0 14 0,ln' 14 15 1,o3 (.bin .eql (.tmp 15) (ci' 0)) 16 3]
def ydis:LO:=[mv' 5 17 0,o3 (.bslice 40 1 1 [.i .u32 0] [(0,1,(.const (.int .u32 4294967295)))]) 18 0,o3 (.app 40 1 4 (.tmp 17) (.tmp 18)) 19 3,mv' 19 5 7]
def ydjm:LO:=[mv' 0 20 0,mv' 6 21 0,mv' 0 22 0,ln' 22 23 4,bn' .rem 21 23 24 14,ix' 1 20 24 25 31,ld' false 1 25 26 63,mv' 6 27 0,mv' 0 28 0,ln' 28 29 256,bn' .quo 27 29 30 896,o3 (.bin .rem (.tmp 30) (ci' 24)) 31 1920,o3 (.conv .u64 (.tmp 31)) 32 3968,mv' 26 7 127,mv' 32 8 16383]
def ydiq:LO:=[mv' 7 33 0,o3 (.bin .and (.tmp 33) (.const (.int .u32 16777215))) 34 1,mv' 34 7 3]
def ydnf:LO:=[mv' 5 35 0,mv' 7 36 0,mv' 8 37 0,bn' .shl 36 37 38 6,mv' 7 39 0,mv' 8 40 0,o3 (.bin .sub (.const (.int .u64 24)) (.tmp 40)) 41 32,bn' .shr 39 41 42 112,bn' .or 38 42 43 254,o3 (.bin .and (.tmp 43) (.const (.int .u32 16777215))) 44 510,o3 (.bslice 40 1 1 [.i .u32 0] [(0,1,(.tmp 44))]) 45 1022,o3 (.app 40 1 4 (.tmp 35) (.tmp 45)) 46 2047,mv' 46 5 4095]
def ydfs:LO:=[mv' 6 12 0,o3 (.bin .add (.tmp 12) (ci' 1)) 13 1,mv' 13 6 3]
def ycgv:LO:=[mv' 5 47 0,mv' 47 4 1]
def c26:SC:=(.seq (.reg false ydji) (.seq (.reg false ydkh) (.seq (.seq (.reg false ydjz) (.block 0 (.loop (.seq (.seq (.reg false ydhi) (.cond (.tmp 11) .skip (.exit 0))) (.seq (.block 1 (.seq (.seq (.reg false ydip) (.cond (.tmp 16) (.seq (.reg false ydis) (.exit 1)) .skip)) (.seq (.reg true ydjm) (.seq (.reg false ydiq) (.reg false ydnf))))) (.reg false ydfs)))))) (.seq (.reg false ycgv) .ret))))
theorem ydgb:Fn 26 c26 [.t 4]:=fn_0 Tryz.func26 (by kernel_rfl) (by kernel_rfl)
def ydit:LO:=[o3 (.box 27 (.tmp 1)) 6 0,o3 (.mv (.const (.slice none 0 0))) 10 0,o3 (.mv (.const (.slice none 0 0))) 11 2,o3 (.mv (.const (.bool false))) 12 6]
def ydkx:LO:=[mv' 0 17 0,cl' 37 [17] 18 1,ld' true 2 6 19 0,mv' 2 20 0,mv' 3 21 0,mv' 4 22 0,cl' 78 [18,19,20,21,22] 23 63,mv' 23 16 127,xt' 16 0 24 255,xt' 16 1 25 255,xt' 16 2 26 255,mv' 24 13 511,mv' 25 14 3071,mv' 26 15 8191]
def ydls:LO:=[mv' 13 27 0,mv' 14 28 0,mv' 15 29 0,o3 (.bin .eql (.tmp 29) (ci' 0)) 30 4,mv' 30 31 12,⟨.mv (.tmp 13),some 32,some (31,true),28⟩,⟨.len (.tmp 32),some 33,some (31,true),60⟩,⟨.mv (.tmp 14),some 34,some (31,true),28⟩,⟨.len (.tmp 34),some 35,some (31,true),156⟩,⟨.bin .eql (.tmp 33) (.tmp 35),some 36,some (31,true),508⟩,o3 (.pick (.tmp 31) (.tmp 36) (.const (.bool false))) 37 1020,mv' 37 38 2044,⟨.mv (.tmp 13),some 39,some (38,true),4092⟩,⟨.len (.tmp 39),some 40,some (38,true),8188⟩,⟨.bin .gtr (.tmp 40) (ci' 0),some 41,some (38,true),16380⟩,o3 (.pick (.tmp 38) (.tmp 41) (.const (.bool false))) 42 32764,mv' 27 10 4093,mv' 28 11 69631,mv' 42 12 262143]
def c22:SC:=(.seq (.reg false ydit) (.seq (.reg true ydkx) (.seq (.reg false ydls) .ret)))
theorem ydim:Fn 22 c22 [.t 10,.t 11,.t 12]:=fn_0 Tryz.func22 (by kernel_rfl) (by kernel_rfl)
end Sh
end
section
namespace Sh
open Ev Go.RowKit
instance:Inhabited Cnt:=⟨⟨0,0,0,0,0⟩⟩
def seeO(cs:List Conf)(ks:List Cnt):Own:=[(1,.one (some ⟨29,true,1,1,fun _=>[.os (2,0) 0 cs.length true]⟩)),(2,.one (some ⟨34,false,1,cs.length,fun i=>[ybl (cs.getD i [])]⟩)),
 (3,.one (some ⟨30,true,1,1,fun _=>[.os (4,0) 0 ks.length true]⟩)),(4,.one (some ⟨48,false,5,ks.length,fun i=>cntV (ks.getD i default)⟩))]
def ydda:Own:=[(1,.one (some ⟨29,true,1,1,fun _=>[.a (.slice none 0 0)]⟩)),(3,.one (some ⟨30,true,1,1,fun _=>[.a (.slice none 0 0)]⟩))]
theorem ycbi(cs:List Conf)(ks:List Cnt)(h1:0<cs.length/\cs.length<=5000)(h2:0<ks.length/\ks.length<=5000){c:Conf}(hc:∀s∈c,0<s.length/\s.length<=1000)(hl:c.length<=1000)(e:Nat)(k:Cnt) :
 Cm Tryz.prog 131 [(1,0),(3,0)] (seeO cs ks) [ybl c,.i .u32 e,.ag (cntV k),.pt (1,0) 0 0,.pt (3,0) 0 0] fun r o=>r = .tp []/\o=seeO (cs++[c]) (ks++[k]):=by
 refine ybja [(1,0),(3,0)] [] _ _ _ ?_;obtain⟨n,hn⟩:∃n,cs.length=n:=⟨_,rfl⟩;obtain⟨m,hm⟩:∃m,ks.length=m:=⟨_,rfl⟩;have hC:=yzh c hc hl;obtain⟨O2,hO2⟩:∃O,seeO (cs++[c]) (ks++[k])=O:=⟨_,rfl⟩;rw[hO2];simp only[c131,ybou,ybvz,ybvm,seeO,cntV,hn,hm,go_sem,zA,zB,zD,↓reduceIte,reduceCtorEq];refine hC.use ?_;simp only[ybh,clash,yha,go_sem,zA,zB,zC,zD,↓reduceIte,reduceCtorEq];refine⟨by decide,⟨by omega,by omega⟩,by decide,by decide,⟨by omega,by omega⟩,.tp [],O2,?_,?_,rfl,rfl⟩
 ·subst hO2;refine ycx [(2,fun i=>(12,i)),(4,fun i=>(16,i))] [] [] ?_;simp only[seeO,cntV,zG,hn,hm,allQ,live,yc,go_sem,zA,↓reduceIte,reduceCtorEq];have gl:∀{α:Type}(l:List α) (x d:α) (i:Nat),i<l.length->(l++[x]).getD i d=l.getD i d:=fun l x d i h=>by simp[zH,zT h]
  have gr:∀{α:Type}(l:List α) (x d:α),(l++[x]).getD l.length d=x:=fun l x d=>by simp[zH]
  refine⟨fun i hi=>?_,fun i hi=>?_⟩
  ·by_cases q:i<n
   ·simp only[if_pos q,gl cs c [] i (by omega)]
    simp only[go_sem,live,yc,go_sem]
   ·obtain rfl:i=n:=by omega
    simp only[if_neg q,zK,zI];have e:=gr cs c [];rw[hn]at e;simp only[e,live,yc,go_sem]
  ·by_cases q:i<m
   ·simp only[if_pos q,gl ks k default i (by omega)]
    simp only[go_sem,live,yc,go_sem,reduceCtorEq]
   ·obtain rfl:i=m:=by omega
    simp only[if_neg q,zK,zI];have e:=gr ks k default;rw[hm]at e;simp only[e,live,yc,go_sem,reduceCtorEq]
 ·subst hO2;simp only[seeO,cntV,ycz,ygc,allQ,live,go_sem,zA,↓reduceIte]
theorem ybqp{c:Conf}(hc:∀s∈c,0<s.length/\s.length<=1000)(hl:c.length<=1000)(e:Nat)(k:Cnt) :
 Cm Tryz.prog 131 [(1,0),(3,0)] ydda [ybl c,.i .u32 e,.ag (cntV k),.pt (1,0) 0 0,.pt (3,0) 0 0] fun r o=>r = .tp []/\o=seeO [c] [k]:=by
 refine ybja [(1,0),(3,0)] [] _ _ _ ?_;have hC:=yzh c hc hl;obtain⟨O2,hO2⟩:∃O,seeO [c] [k]=O:=⟨_,rfl⟩;rw[hO2];simp only[c131,ybou,ybvz,ybvm,ydda,cntV,go_sem,zA,zB,zD,↓reduceIte,reduceCtorEq];refine hC.use ?_;simp only[ybh,clash,yha,go_sem,zA,zB,zC,zD,zBA,↓reduceIte,reduceCtorEq];refine⟨by decide,by decide,by decide,.tp [],O2,?_,?_,rfl,rfl⟩
 ·subst hO2;refine ycx [(2,fun i=>(12,i)),(4,fun i=>(16,i))] [] [] ?_;simp only[seeO,cntV,allQ,live,yc,go_sem,zA,↓reduceIte,reduceCtorEq];refine⟨fun i hi=>?_,fun i hi=>?_⟩
  ·obtain rfl:i=0:=by omega
   simp only[zI];simp only[zS,live,yc,go_sem]
  ·obtain rfl:i=0:=by omega
   simp only[zI];simp only[zS,live,yc,go_sem,reduceCtorEq]
 ·subst hO2;simp only[seeO,cntV,ycz,ygc,allQ,live,go_sem,zA,↓reduceIte]
structure DaemonOk(kind:Int)(net:List Nat)(res:Nat->Nat->Nat):Prop where
 resolve:∀(e w:Nat),e<2^24->e<2^net.length->e≠0->w<2^32->Returns Tryz.prog 111 [usV net,.i .i64 kind,.i .u32 e,.i .u32 w] (.i .u32 (res e w))
 permits:∀(e w:Nat),e<2^24->e<2^net.length->e≠0->w<2^32->Returns Tryz.prog 196 [usV net,.i .i64 kind,.i .u32 e,.i .u32 (res e w)] (.b true)
 zero:∀(w:Nat),w<2^32->∃x:Nat,Returns Tryz.prog 111 [usV net,.i .i64 kind,.i .u32 0,.i .u32 w] (.i .u32 x)
 sub:∀(e w:Nat),e≠0->e<2^24->res e w≠0/\subB (res e w) e
theorem ybfk{kind:Int}{net:List Nat}{res:Nat->Nat->Nat}(hd:DaemonOk kind net res)(rest:SV)(liv:SV)(mv:SV){ws:List Nat}(hw:∀k,ws.getD k 0<2^32){e:Nat}(he:e<2^24)(hen:e<2^net.length)(h0:e≠0){k:Nat}(hk:k<ws.length) :
 Returns Tryz.prog 169 [.i .i64 k,.i .u32 e,.rf [mv,usV net,.i .i64 kind,liv,rest],.rf [usV ws]] (.tp [.i .u32 (res e (ws.getD k 0)),.b true]):=by
 refine Returns.of (ybvk _ _ ?_);have hR:=hd.resolve e (ws.getD k 0) he hen h0 (hw k);have z0:((e:Int)!=0)=true:=by simp;omega
 simp only[usV]at hR;simp only[c169,ybwj,ybsn,usV,clash,go_sem,zA,zB,zC,↓reduceIte,reduceCtorEq];refine⟨by omega,hR.use ?_⟩
 simp only[ybh,clash,z0,go_sem,zA,zB,↓reduceIte,reduceCtorEq];exact Sim.refl _
theorem ybfs{kind:Int}{net:List Nat}{res:Nat->Nat->Nat}(hd:DaemonOk kind net res)(rest:SV)(liv:SV)(mv:SV){ws:List Nat}(hw:∀k,ws.getD k 0<2^32){k:Nat}(hk:k<ws.length) :
 ∃x:Nat,Returns Tryz.prog 169 [.i .i64 k,.i .u32 0,.rf [mv,usV net,.i .i64 kind,liv,rest],.rf [usV ws]] (.tp [.i .u32 x,.b false]):=by
 obtain⟨x,hR⟩:=hd.zero (ws.getD k 0) (hw k);refine⟨x,Returns.of (ybvk _ _ ?_)⟩;simp only[usV]at hR;simp only[c169,ybwj,ybsn,usV,clash,go_sem,zA,zB,zC,↓reduceIte,reduceCtorEq];refine⟨by omega,hR.use ?_⟩
 simp only[ybh,clash,zAE,go_sem,zA,zB,↓reduceIte,reduceCtorEq];exact Sim.refl _
theorem ybep{s e n:Nat}(h:subB s e)(he:e<2^n):s<2^n:=by
 refine Nat.lt_pow_two_of_testBit _ fun i hi=>?_;cases hb:s.testBit i with
 |false=>rfl
 | true =>
   have:=h i hb;rw[Nat.testBit_lt_two_pow (zAO he (zAA (by omega) hi))]at this
   cases this
theorem ycew{s e:Nat}(h:subB s e):difB s e=0:=by
 rw[yby];intro i;rw[ygf];cases hb:s.testBit i with
 |false=>rfl
 |true=>rw[h i hb];rfl
theorem ydbx(e w:Nat)(h0:e≠0)(he:e<2^24):resD e w≠0/\subB (resD e w) e:=by
 unfold resD;split
 ·exact⟨ycyh h0 (by omega),ybiq e⟩
 ·rename_i h
  refine⟨h,fun i hi=>?_⟩;rw[Nat.testBit_and,zJ]at hi;exact hi.2
end Sh
end
section
def stAt(S:Sys)(res:Nat->Nat->Nat):List Nat->Conf->Cnt->Nat->Conf×Cnt
 |_,c,k,0=>(c,k)
 |ws,c,k,i+1=>stAt S res ws.tail (S.mv c (res (S.en c) (ws.getD 0 0))) (addP k (res (S.en c) (ws.getD 0 0)) (S.en (S.mv c (res (S.en c) (ws.getD 0 0))))) i
theorem ybdc(S:Sys)(res:Nat->Nat->Nat):∀(i:Nat) (ws:List Nat) (c:Conf) (k:Cnt),
 stAt S res ws c k (i+1)=(S.mv (stAt S res ws c k i).1 (res (S.en (stAt S res ws c k i).1) (ws.getD i 0)),addP (stAt S res ws c k i).2 (res (S.en (stAt S res ws c k i).1) (ws.getD i 0)) (S.en (S.mv (stAt S res ws c k i).1 (res (S.en (stAt S res ws c k i).1) (ws.getD i 0)))))
 |0,ws,c,k=>rfl
 | i+1,ws,c,k=>by
   show stAt S res ws.tail _ _ (i+1)=_;rw[ybdc S res i ws.tail];have e:ws.tail.getD i 0=ws.getD (i+1) 0:=by cases ws<;>rfl
   rw[e];rfl
theorem ybay(S:Sys)(res:Nat->Nat->Nat):∀(ws:List Nat) (c:Conf) (k:Cnt) (i:Nat),(∀j,j<i->S.en (stAt S res ws c k j).1≠0)->i<=ws.length->(i=ws.length\/S.en (stAt S res ws c k i).1=0) ->
 S.run res ws c k=(zL i).map fun j=>stAt S res ws c k (j+1)
 | [],c,k,i,_,hi,_=>by
   have:i=0:=by simpa using hi
   subst this;rfl
 | w :: ws,c,k,0,_,_,h=>by
   have h0:S.en c=0:=by
    rcases h with h|h
    ·simp at h
    ·exact h
   unfold Sys.run;rw[if_pos h0];rfl
 | w :: ws,c,k,i+1,hj,hi,h=>by
   have h0:S.en c≠0:=hj 0 (by omega)
   unfold Sys.run;rw[if_neg h0];simp only
   have e:=ybay S res ws (S.mv c (res (S.en c) w)) (addP k (res (S.en c) w) (S.en (S.mv c (res (S.en c) w)))) i (fun j hj'=>hj (j+1) (by omega)) (by simpa using hi) (by
    rcases h with h|h
    ·exact .inl (by simpa using h)
    ·exact .inr h)
   rw[e,zAM,zAF,zBC];rfl
theorem yboi(S:Sys)(res:Nat->Nat->Nat)(ws:List Nat)(c:Conf)(i:Nat)(hj:∀j,j<i->S.en (stAt S res ws c (ydp (S.en c)) j).1≠0)(hi:i<=ws.length)(h:i=ws.length\/S.en (stAt S res ws c (ydp (S.en c)) i).1=0) :
 S.runs res ws c=(zL (i+1)).map fun j=>stAt S res ws c (ydp (S.en c)) j:=by
 unfold Sys.runs;rw[ybay S res ws c _ i hj hi h,zAM,zAF,zBC];rfl
theorem ycbq{kind:Int}{b:Int×Int}(hb:b.1<=b.2)(h3:kind=3->b.1 <= -1 /\ -1<=b.2)(x:Int):b.1<=yfp kind b x/\yfp kind b x<=b.2:=by
 unfold yfp;split
 ·assumption
 ·split
  ·exact h3 (by assumption)
  ·split<;>omega
namespace Sh
theorem ybiz{p:ProgT}{g:Gr}(hg:ybe g)(hp:p.ok=true)(hf:yxd p g=true){x:VarR}(hx:x∈p.vars)(v:Nat):(ybi g v x).1<=(ybi g v x).2/\(x.kind=3->(ybi g v x).1 <= -1 /\ -1<=(ybi g v x).2):=by
 have h1:=List.all_eq_true.1 hf x hx;have hp':=hp;unfold ProgT.ok at hp';simp only[zJ,decide_eq_true_eq]at hp';have hxo:=ybff (List.all_eq_true.1 hp'.1.1.2 _ hx);rcases hxo.1 with h|h|h
 ·have e:ybi g v x=ybi g 0 x:=by unfold ybi;rw[if_pos h,if_pos h]
  rw[e];simp[h]at h1;exact⟨h1.1,fun q=>by omega⟩
 ·unfold ybi;rw[if_neg (by omega),if_pos h]
  exact⟨by decide,fun q=>by omega⟩
 ·unfold ybi;rw[if_neg (by omega),if_neg (by omega),if_pos h]
  exact⟨by simp only[];omega,fun _=>⟨by simp only[];omega,by simp only[];omega⟩⟩
theorem ybyz{p:ProgT}{g:Gr}(hg:ybe g)(hp:p.ok=true)(hf:yxd p g=true){v:Nat}{s:List Int}(hs:yej (p.vars.map (ybi g v)) s){a:Int}(ha:0<=a/\a<p.vars.length)(y:Int) :
 yej (p.vars.map (ybi g v)) (s.set a.toNat (yfp (p.vars.getD a.toNat default).kind (ybi g v (p.vars.getD a.toNat default)) y)):=by
 refine⟨by rw[List.length_set];exact hs.1,fun i b x hb hx=>?_⟩
 by_cases q:a.toNat=i
 ·subst q;have hlt:a.toNat<p.vars.length:=by omega
  rw[zAG,zM hlt]at hb;cases hb
  have hl:a.toNat<s.length:=by rw[hs.1,zO];exact hlt
  rw[zX hl]at hx;cases hx
  rw[getD_at hlt];obtain⟨h1,h2⟩:=ybiz hg hp hf (zY hlt) v;exact ycbq h1 h2 y
 ·rw[zAB q]at hx;exact hs.2 i b x hb hx
theorem yvi{p:ProgT}{g:Gr}(hg:ybe g)(hp:p.ok=true)(hf:yxd p g=true)(c:Conf)(v:Nat):∀(sets:List (Int×Ex)) (s:List Int),(∀a∈sets,0<=a.1/\a.1<p.vars.length)->yej (p.vars.map (ybi g v)) s->yej (p.vars.map (ybi g v)) (yoa p g c v s sets)
 |[],s,_,hs=>hs
 | a::sets,s,ha,hs=>by
   show yej _ (yoa p g c v (s.set _ _) sets);exact yvi hg hp hf c v sets _ (fun x hx=>ha x (zQ _ hx)) (ybyz hg hp hf hs (ha a zV) _)
theorem ywr{p:ProgT}{g:Gr}(hg:ybe g)(hp:p.ok=true)(hf:yxd p g=true){c:Conf}(hc:yeq p g c=true)(s:Nat):yeq p g (yfa p g c s)=true:=by
 have h:=(yew _ _ _).1 hc;refine(yew _ _ _).2 ⟨by rw[yjp];exact h.1,fun v st hst=>?_⟩
 have hv:v<c.length:=by
  have:=(List.getElem?_eq_some_iff.1 hst).1
  rwa [yjp]at this
 have e:st=(yfa p g c s).getD v []:=by simp[zH,hst]
 rw[ymf p g c s hv]at e;have hold:=h.2 v (c.getD v []) (by rw[getD_at hv];exact zM hv)
 rw[e];split
 ·unfold ybaf;refine yvi hg hp hf c v _ _ (fun a ha=>?_) hold;have hp':=hp;unfold ProgT.ok at hp';simp only[zJ,decide_eq_true_eq]at hp'
  by_cases hr:(yhb p g c v).toNat<p.rules.length
  ·rw[getD_at hr]at ha;have hok:=List.all_eq_true.1 hp'.2 _ (zY hr);unfold RuleT.ok at hok;simp only[zJ,decide_eq_true_eq]at hok;have:=List.all_eq_true.1 hok.2 a ha;simp only[zJ,decide_eq_true_eq]at this;exact this.1.1
  ·have:p.rules.getD (yhb p g c v).toNat default=default:=by simp[zH,zZ (Nat.le_of_not_lt hr)]
   rw[this]at ha;cases ha
 ·exact hold
theorem yoz{p:ProgT}{g:Gr}(hg:ybe g)(hp:p.ok=true){c:Conf}(hc:yeq p g c=true):(∀s∈c,0<s.length/\s.length<=1000)/\c.length<=1000:=by
 have h:=yjs hg hp hc;have hp':=hp;unfold ProgT.ok at hp';simp only[zJ,decide_eq_true_eq]at hp';have:=hg.2.1;exact⟨fun s hs=>by have:=(h.row s hs).1;omega,by rw[h.len];omega⟩
theorem yccq(p:ProgT)(g:Gr)(c:Conf):ybm p g c<2^g.ids.length:=ybig _ _
end Sh
end
section
namespace Sh
open Ev Go.RowKit
def seeC:SV:=.fn 131 [] [.pt (201,0) 0 0,.pt (203,0) 0 0]
def seeX(cs:List Conf)(ks:List Cnt):Own:=[(201,.one (some ⟨29,true,1,1,fun _=>[.os (202,0) 0 cs.length true]⟩)),(202,.one (some ⟨34,false,1,cs.length,fun i=>[ybl (cs.getD i [])]⟩)),
 (203,.one (some ⟨30,true,1,1,fun _=>[.os (204,0) 0 ks.length true]⟩)),(204,.one (some ⟨48,false,5,ks.length,fun i=>cntV (ks.getD i default)⟩))]
def ylz:Own:=[(201,.one (some ⟨29,true,1,1,fun _=>[.a (.slice none 0 0)]⟩)),(203,.one (some ⟨30,true,1,1,fun _=>[.a (.slice none 0 0)]⟩))]
def TT:(Nat->Option ABlk)->Value->Prop:=fun _ _=>True
def yfn(p:ProgT)(g:Gr):SV:=.ex TT (.rf (yeb p.raw g))
def yea(p:ProgT)(g:Gr)(net:List Nat)(kind:Int):List SV:=[yfn p g,usV net,.i .i64 kind,.i .u32 (2^g.ids.length-1:Nat),seeC]
def ybws(p:ProgT)(g:Gr)(net:List Nat)(kind:Int)(ws:List Nat):Own:=[(205,.one (some ⟨126,true,5,1,fun _=>yea p g net kind⟩)),(206,.one (some ⟨38,true,1,1,fun _=>[usV ws]⟩))]
theorem gmr{α:Type}(f:Nat->α)(n k:Nat)(d:α)(h:k<n):((zL n).map f).getD k d=f k:=by simp[zH,h]
def mapR{α:Type}(n:Nat)(f:Nat->α):List α:=(zL n).map f
theorem gmR{α:Type}(f:Nat->α)(n k:Nat)(d:α)(h:k<n):(mapR n f).getD k d=f k:=gmr f n k d h
theorem yjq{α:Type}(n:Nat)(f:Nat->α):(mapR n f).length=n:=by simp[mapR]
theorem ybkm{α β:Type}(n:Nat)(f:Nat->α)(h:α->β):(mapR n f).map h=mapR n fun k=>h (f k):=by simp[mapR,Function.comp_def]
theorem ybrb{α:Type}(f:Nat->α)(n:Nat)(x d:α)(hx:f n=x)(k:Nat)(h:k<n+1):(((zL n).map f)++[x]).getD k d=f k:=by
 rw[<-hx,show[f n]=[n].map f from rfl,<-zAW,<-List.range_succ]
 exact gmr f (n+1) k d h
section
variable {Q1 Q2:(Nat->Option ABlk)->Value->Prop}{p:ProgT}{g:Gr}
theorem yboh(h:Checked Q1 Q2 p g){kind:Int}{net:List Nat}(hnl:g.ids.length<=net.length){res:Nat->Nat->Nat}(hd:DaemonOk kind net res){c:Conf}(hc:yeq p g c=true){ws:List Nat}(hw:∀k,ws.getD k 0<2^32)(hwl:ws.length<=4000) :
 Cm Tryz.prog 168 [(201,0),(203,0)] (ylz++ybws p g net kind ws) [.ag (yea p g net kind),ybl c,.i .i64 ws.length,.fn 169 [] [.pt (205,0) 0 0,.pt (206,0) 0 0]]
  fun r o=>(∃l1 l2 c' k',r = .tp [.ag (usV l1::usV l2::ybl c'::cntV k'),.i .i64 0])/\o=seeX ((ybu p g).runs res ws c |>.map (·.1)) ((ybu p g).runs res ws c |>.map (·.2)):=by
 refine ycby [(201,0),(203,0)] [131] _ _ _ ?_;obtain⟨O2,hO2⟩:∃O,seeX ((ybu p g).runs res ws c |>.map (·.1)) ((ybu p g).runs res ws c |>.map (·.2))=O:=⟨_,rfl⟩;rw[hO2];obtain⟨hr1,hr2⟩:=yoz h.hg h.hp hc;have hcin:=yjs h.hg h.hp hc;have hC:=yzh c hr1 hr2;have hE:=yjj p h.hg h.hp hcin;have hX:SimL [yfn p g,ybl c] [.rf (yeb p.raw g),ybl c]:=⟨ylr _ _,Sim.refl _,trivial⟩;have hen:=yccq p g c;have hid:=h.hg.2.2.1
 have h24:=h.hg.2.1;have h2n:2^g.ids.length<=2^24:=zAA (by omega) (by omega)
 simp only[c168,ycpz,ycsj,ycju,ylz,ybws,yea,seeC,usV,yfn,go_sem,zA,zB,zD,zF,↓reduceIte,reduceCtorEq];refine hC.use ?_;simp only[ybh,ycnm,clash,go_sem,zA,zB,zC,zF,↓reduceIte,reduceCtorEq];refine hE.useS ?_ ?_
 ·exact hX
 have ha:IntKind.wrap .u32 (((zAI (IntKind.bits .u32) (ybm p g c:Int))&&&zAI (IntKind.bits .u32) ((2^g.ids.length-1:Nat):Int)).toNat:Int)=(ybm p g c:Int):=by
  have e:=u32_and (a:=ybm p g c) (b:=2^g.ids.length-1) (by omega) (by omega)
  rw[zU hen]at e;exact e
 simp only[IntKind.bits]at ha;simp only[ybh,ycus,clash,ha,go_sem,zA,zB,zD,zF,↓reduceIte];have hB:=ybps (e:=ybm p g c) (by omega)
 obtain⟨K0,hK0⟩:∃K,ydp (ybm p g c)=K:=⟨_,rfl⟩;rw[hK0]at hB;refine hB.use ?_;simp only[ycxk,cntV,go_sem,zA,zB,↓reduceIte,reduceCtorEq];have hS:=ybqp hr1 hr2 (ybm p g c) K0;simp only[cntV]at hS;refine yfi hS [(1,201),(3,203)] 200 [1,2,3,4,8,9,10,11,12] [4,8,10,12,205,206] ?_ ?_
 ·simp only[ydda,to1,okN,ycz,ygc,yev,yef,allQ,live,yc,go_sem,zA,zB,zF,↓reduceIte,reduceCtorEq]
 ·rintro r o' ⟨rfl,rfl⟩;simp only[seeO,yrd,ymq,nuF,nu,difN,yev,yef,Fam.ren,OB.ren,dim,yve,ypr,go_sem,zA,zB,zF,↓reduceIte,reduceCtorEq];simp only[ycgs,ycwn,splice,go_sem,zA,zB,zC,zD,zBA,↓reduceIte,reduceCtorEq]
  let st:Nat->Conf×Cnt:=stAt (ybu p g) res ws c K0
  let en:Nat->Nat:=fun i=>ybm p g (st i).1
  let ch:Nat->Nat:=fun i=>res (en i) (ws.getD i 0)
  refine ybj (σ:=Nat) (fun i=>⟨[(40,.i .i64 i),(39,.i .i64 ws.length),(1,ybl (st i).1),(3,.fn 169 [] [.pt (205,0) 0 0,.pt (206,0) 0 0]),(4,.pt (4,0) 0 0),(8,.pt (8,0) 0 0),(9,.i .i64 0),(10,.pt (10,0) 0 0),(11,.i .u32 (en i)),(12,.pt (12,0) 0 0)],
   [(4,.one (some ⟨126,true,5,1,fun _=>yea p g net kind⟩)),
    (8,.one (some ⟨130,true,8,1,fun _=>[.a (.slice none 0 0),.a (.slice none 0 0),.a (.slice none 0 0),.i .i64 0,.i .i64 0,.i .i64 0,.i .i64 0,.i .u32 0]⟩)),
    (10,.one (some ⟨130,true,8,1,fun _=>[.os (301,0) 0 i true,.os (302,0) 0 (i+1) true,.a (.slice none 0 0),.i .i64 0,.i .i64 0,.i .i64 0,.i .i64 0,.i .u32 0]⟩)),
    (301,.one (some ⟨40,false,1,i,fun j=>[.i .u32 (ch j)]⟩)),(302,.one (some ⟨40,false,1,i+1,fun j=>[.i .u32 (en j)]⟩)),
    (12,.one (some ⟨48,true,5,1,fun _=>cntV (st i).2⟩)),
    (201,.one (some ⟨29,true,1,1,fun _=>[.os (202,0) 0 (i+1) true]⟩)),(202,.one (some ⟨34,false,1,i+1,fun j=>[ybl (st j).1]⟩)),
    (203,.one (some ⟨30,true,1,1,fun _=>[.os (204,0) 0 (i+1) true]⟩)),(204,.one (some ⟨48,false,5,i+1,fun j=>cntV (st j).2⟩)),
    (205,.one (some ⟨126,true,5,1,fun _=>yea p g net kind⟩)),(206,.one (some ⟨38,true,1,1,fun _=>[usV ws]⟩))]⟩)
   (fun i=>i<=ws.length/\(∀j,j<i->en j≠0)/\yeq p g (st i).1=true/\(st i).2.ok/\(st i).2.steps=i) (fun i=>ws.length-i) 0 ⟨zAD _,fun j hj=>absurd hj (zAX j),hc,by show K0.ok;rw[<-hK0];exact ybvb (by omega),by show K0.steps=0;rw[<-hK0];rfl⟩ ?_ ?_
  ·refine ycx [(302,fun i=>(37,i))] [301] [] ?_;have st0:st 0=(c,K0):=rfl;have en0:en 0=ybm p g c:=rfl;simp only[yea,yfn,seeC,usV,cntV,st0,en0,allQ,live,yc,ybb,zN,go_sem,zA,zC,zF,↓reduceIte,reduceCtorEq];refine⟨fun i _=>⟨(301,0),rfl,?_⟩,?_⟩
   ·simp only[go_sem,go_sem,zA,↓reduceIte]
   refine⟨fun i hi=>?_,fun i hi=>?_,fun i hi=>?_⟩
   ·obtain rfl:i=0:=by omega
    simp only[zI];simp only[en0,live,yc,go_sem,reduceCtorEq]
   ·obtain rfl:i=0:=by omega
    simp only[st0,zS,yc,go_sem]
   ·obtain rfl:i=0:=by omega
    simp only[st0,zS,go_sem]
  ·rintro i ⟨hi,hj,hci,hko,hks⟩;obtain⟨cr1,cr2⟩:=yoz h.hg h.hp hci;have cin:=yjs h.hg h.hp hci;have eni:=yccq p g (st i).1
   have fin:(i=ws.length\/en i=0)->(ybu p g).runs res ws c=mapR (i+1) st:=fun hq=>by
    have e:=yboi (ybu p g) res ws c i;rw[show(ybu p g).en c=ybm p g c from rfl,hK0]at e
    exact e hj hi hq
   simp only[ycqk,ycld,ybug,yea,yfn,seeC,usV,cntV,go_sem,zA,zB,zC,zF,↓reduceIte,reduceCtorEq];refine⟨fun hlt=>.inl ?_,fun hlt=>?_⟩
   ·have hi':i<ws.length:=by omega
    by_cases h0:en i=0
    ·obtain⟨x,hF⟩:=ybfs hd (.fn 131 [] [.rf [.sl 1 (i+1) fun j=>[ybl (st j).1]],.rf [.sl 5 (i+1) fun j=>cntV (st j).2]]) (.i .u32 (2^g.ids.length-1:Nat)) (yfn p g) hw hi';simp only[yfn,usV,cntV]at hF;simp only[h0,zN];refine hF.use ?_;simp only[ybh,ybhs,ybfm,ybfv,go_sem,zA,zB,zC,↓reduceIte,reduceCtorEq];refine⟨by decide,?_⟩
     simp only[yha,go_sem];refine⟨.tp [.ag (usV (mapR i ch)::usV (mapR (i+1) en)::ybl (st i).1::cntV (st i).2),.i .i64 0],O2,?_,?_,⟨_,_,_,_,rfl⟩,rfl⟩
     ·subst hO2;rw[fin (.inr h0)];refine ycx [] [] [(301,0),(302,0)] ?_;simp only[seeX,usV,cntV,ybkm,yjq,allQ,live,yc,ybb,go_sem,zA,↓reduceIte,reduceCtorEq];refine⟨yclp ⟨yub ⟨yks fun q hq=>by rw[gmR _ _ _ _ hq],yks fun q hq=>by rw[gmR _ _ _ _ hq],Sim.refl _,Sim.refl _,Sim.refl _,Sim.refl _,Sim.refl _,Sim.refl _,trivial⟩,Sim.refl _,trivial⟩,fun q hq=>?_,fun q hq=>?_⟩
      ·rw[gmR _ _ _ _ hq];exact Sim.refl _
      ·rw[gmR _ _ _ _ hq];exact⟨rfl,rfl,rfl,rfl,rfl⟩
     ·subst hO2;simp only[seeX,usV,cntV,ycz,ygc,allQ,live,go_sem,zA,↓reduceIte]
    ·have hen24:en i<2^24:=by show ybm p g (st i).1<_;omega
     have henn:en i<2^net.length:=zAO eni (zAA (by omega) hnl)
     have hF:=ybfk hd (.fn 131 [] [.rf [.sl 1 (i+1) fun j=>[ybl (st j).1]],.rf [.sl 5 (i+1) fun j=>cntV (st j).2]]) (.i .u32 (2^g.ids.length-1:Nat)) (yfn p g) hw hen24 henn h0 hi';obtain⟨hch0,hchs⟩:=hd.sub (en i) (ws.getD i 0) h0 hen24;have hP:=hd.permits (en i) (ws.getD i 0) hen24 henn h0 (hw i);have hch24:ch i<2^24:=ybep hchs hen24;have hSt:=ycdu p h.hg h.hp cin (s:=ch i) (by omega) hchs
     obtain⟨d,hdd⟩:∃d,yfa p g (st i).1 (ch i)=d:=⟨_,rfl⟩;rw[hdd]at hSt;have hcd:yeq p g d=true:=by rw[<-hdd];exact ywr h.hg h.hp h.hf hci (ch i)
     simp only[yfn,usV,cntV]at hF hP;refine hF.use ?_;simp only[ybh,ybhs,ybvg,go_sem,zA,zB,zC,zF,↓reduceIte,reduceCtorEq];refine hP.use ?_;simp only[ybh,ybos,go_sem,zA,zB,zC,zF,↓reduceIte,reduceCtorEq];refine hSt.useS ?_ ?_
     ·exact⟨ylr _ _,Sim.refl _,Sim.refl _,trivial⟩
     obtain⟨dr1,dr2⟩:=yoz h.hg h.hp hcd;have dcin:=yjs h.hg h.hp hcd;have hE2:=yjj p h.hg h.hp dcin;have hen2:=yccq p g d;obtain⟨e2,he2⟩:∃e,ybm p g d=e:=⟨_,rfl⟩;rw[he2]at hE2 hen2
     have ha2:IntKind.wrap .u32 (((zAI (IntKind.bits .u32) (e2:Int))&&&zAI (IntKind.bits .u32) ((2^g.ids.length-1:Nat):Int)).toNat:Int)=(e2:Int):=by
      have e:=u32_and (a:=e2) (b:=2^g.ids.length-1) (by omega) (by omega)
      rw[zU hen2]at e;exact e
     simp only[IntKind.bits]at ha2;simp only[ybh,ybre,clash,go_sem,zA,zB,zC,zF,↓reduceIte,reduceCtorEq];refine hE2.useS ?_ ?_
     ·exact⟨ylr _ _,Sim.refl _,trivial⟩
     have hA:=ycyd hko (by omega) hch0 hch24 (e:=e2) (by omega)
     obtain⟨K2,hK2⟩:∃K,addP (st i).2 (ch i) e2=K:=⟨_,rfl⟩;rw[hK2]at hA;simp only[cntV]at hA;simp only[ybh,ybyn,clash,ha2,go_sem,zA,zB,zF,↓reduceIte,reduceCtorEq];refine hA.use ?_;simp only[ybpe,go_sem,zA,zB,↓reduceIte,reduceCtorEq]
     let cs:List Conf:=(zL (i+1)).map fun j=>(st j).1
     let ks:List Cnt:=(zL (i+1)).map fun j=>(st j).2
     have lc:cs.length=i+1:=by simp[cs]
     have lk:ks.length=i+1:=by simp[ks]
     have hS2:=ycbi cs ks (by omega) (by omega) dr1 dr2 e2 K2
     simp only[cntV]at hS2;refine yfi hS2 [(1,201),(2,202),(3,203),(4,204)] 400 [40,39,1,3,4,8,9,10,11,12,14] [4,8,10,301,302,12,205,206] ?_ ?_
     ·simp only[seeO,lc,lk,cntV,to1,okN,ycz,ygc,yev,yef,allQ,live,yc,ybb,go_sem,zA,zB,zF,↓reduceIte,reduceCtorEq];refine⟨fun q hq=>?_,fun q hq=>?_⟩
      ·simp only[cs,gmr _ _ _ _ hq];exact Sim.refl _
      ·simp only[ks,gmr _ _ _ _ hq];exact⟨trivial,trivial,trivial,trivial,trivial⟩
     ·rintro r o' ⟨rfl,rfl⟩;simp only[seeO,cntV,zG,lc,lk,yrd,ymq,nuF,nu,difN,yev,yef,Fam.ren,OB.ren,dim,ygz,yve,ypr,go_sem,zA,zF,↓reduceIte];simp only[ybzt,ybvn,ybsi,splice,go_sem,zA,zB,zC,zD,↓reduceIte,reduceCtorEq]
      have hst:st (i+1)=(d,K2):=by
       show stAt (ybu p g) res ws c K0 (i+1)=_;rw[ybdc];show(yfa p g (st i).1 (ch i),addP (st i).2 (ch i) (ybm p g (yfa p g (st i).1 (ch i))))=_;rw[hdd,he2,hK2]
      have hen':en (i+1)=e2:=by
       show ybm p g (st (i+1)).1=_;rw[hst];exact he2
      refine⟨⟨by omega,by omega⟩,⟨by omega,by omega⟩,ikw (by omega) (by omega),?_⟩
      refine yj (i+1) ⟨by omega,fun j hj'=>?_,by rw[hst];exact hcd,by rw[hst,<-hK2];exact yday hko hch24 hch0 (by omega),by rw[hst,<-hK2];show(st i).2.steps+1=i+1;omega⟩ (by omega) ?_
      ·by_cases q:j=i
       ·rw[q];exact h0
       ·exact hj j (by omega)
      refine ycx [(301,fun i=>(90,i)),(302,fun i=>(96,i))] [] [] ?_;simp only[hst,hen',allQ,live,yc,ybb,go_sem,zA,zC,↓reduceIte,reduceCtorEq];have hcs:∀k,k<i+1+1->(cs++[d]).getD k []=(st k).1:=ybrb (fun j=>(st j).1) (i+1) d [] (by rw[hst])
      have hksx:∀k,k<i+1+1->(ks++[K2]).getD k default=(st k).2:=ybrb (fun j=>(st j).2) (i+1) K2 default (by rw[hst])
      refine⟨by omega,fun q hq=>?_,fun q hq=>?_,fun q hq=>?_,fun q hq=>?_⟩
      ·by_cases q1:q<i
       ·simp only[if_pos q1];simp only[go_sem,live,yc,go_sem,reduceCtorEq]
       ·obtain rfl:q=i:=by omega
        simp only[if_neg q1,zK,zI];simp only[ch,live,yc,go_sem,reduceCtorEq]
      ·by_cases q1:q<i+1
       ·simp only[if_pos q1];simp only[go_sem,live,yc,go_sem,reduceCtorEq]
       ·obtain rfl:q=i+1:=by omega
        simp only[if_neg q1,zK,zI];simp only[hen',live,yc,go_sem,reduceCtorEq]
      ·rw[hcs q hq];exact Sim.refl _
      ·rw[hksx q hq];exact⟨rfl,rfl,rfl,rfl,rfl⟩
   ·obtain rfl:i=ws.length:=by omega
    simp only[ybfm,ybfv,go_sem,zA,zB,zC,↓reduceIte,reduceCtorEq];refine⟨by decide,?_⟩
    simp only[yha,go_sem];refine⟨.tp [.ag (usV (mapR ws.length ch)::usV (mapR (ws.length+1) en)::ybl (st ws.length).1::cntV (st ws.length).2),.i .i64 0],O2,?_,?_,⟨_,_,_,_,rfl⟩,rfl⟩
    ·subst hO2;rw[fin (.inl rfl)];refine ycx [] [] [(301,0),(302,0)] ?_;simp only[seeX,usV,cntV,ybkm,yjq,allQ,live,yc,ybb,go_sem,zA,↓reduceIte,reduceCtorEq];refine⟨yclp ⟨yub ⟨yks fun q hq=>by rw[gmR _ _ _ _ hq],yks fun q hq=>by rw[gmR _ _ _ _ hq],Sim.refl _,Sim.refl _,Sim.refl _,Sim.refl _,Sim.refl _,Sim.refl _,trivial⟩,Sim.refl _,trivial⟩,fun q hq=>?_,fun q hq=>?_⟩
     ·rw[gmR _ _ _ _ hq];exact Sim.refl _
     ·rw[gmR _ _ _ _ hq];exact⟨rfl,rfl,rfl,rfl,rfl⟩
    ·subst hO2;simp only[seeX,usV,cntV,ycz,ygc,allQ,live,go_sem,zA,↓reduceIte]
end
end Sh
end
section
namespace Sh
open Ev Go.RowKit
theorem Returns.exT{P:Program}{g:FuncId}{args:List SV}{r:SV}(h:Returns P g args r):Returns P g args (.ex TT r):=fun G m us h1 h2 h3=>by
 obtain⟨v,m',x,a,b,c,d,e⟩:=h G m us h1 h2 h3;exact⟨v,m',.ex TT r,a,b,c,rfl,.ex trivial (fun _ _ _ _ _=>trivial) (d▸e)⟩
section
variable {Q1 Q2:(Nat->Option ABlk)->Value->Prop}{p:ProgT}{g:Gr}
theorem ybzn(h:Checked Q1 Q2 p g){kind:Int}(hk:1<=kind/\kind<=4){c:Conf}(hc:yeq p g c=true){len:Nat}(hl:len<=4096):Returns Tryz.prog 129 [.ag (yds Q1 Q2 p.raw),grV g,.i .i64 kind,ybl c,.i .i64 len] (.i .i64 0):=by
 refine Returns.of (ydaf _ _ ?_);have hC:=yzl h c;rw[if_pos hc]at hC;have hD:=yblq kind;rw[decide_eq_true hk.1,decide_eq_true hk.2]at hD;have f1:decide ((len:Int)>4096)=false:=by simp;omega
 simp only[yds,grV]at hC;simp only[c129,ycid,ycmo,yds,grV,go_sem,zA,zB,zD,↓reduceIte,reduceCtorEq];refine hC.use ?_;simp only[ybh,ycrq,ycpw,zAE,go_sem,zA,zB,↓reduceIte,reduceCtorEq];refine hD.use ?_;simp only[ycrw,ycwq,f1,ybb,Bool.and_self,go_sem,zA,zB,↓reduceIte,reduceCtorEq]
theorem ybku(h:Checked Q1 Q2 p g):Returns Tryz.prog 93 [.ag (ynh p.raw),grV g] (yfn p g):=by
 have hp':=h.hp;unfold ProgT.ok at hp';simp only[zJ,decide_eq_true_eq]at hp';exact(yqb p.raw h.hg hp'.1.1.2 hp'.1.1.1.2).exT
theorem ybdj(h:Checked Q1 Q2 p g)(kind:Int):Cm Tryz.prog 130 [(201,0),(203,0)] ylz [.ag (yds Q1 Q2 p.raw),grV g,.i .i64 kind,seeC] fun r o=>r = .ag (yea p g (g.ports.map netP) kind)/\o=ylz:=by
 refine ycet [(201,0),(203,0)] [] _ _ _ ?_;have hM:=ybku h;have hN:=ybkv h.hg;have hA:=ybph h.hg;simp only[grV]at hM hN hA;simp only[c130,yckt,ycne,yds,grV,seeC,ylz,clash,go_sem,zA,zB,zD,↓reduceIte,reduceCtorEq];refine hM.useS ?_ ?_
 ·exact⟨yub ⟨Sim.refl _,ylr _ _,ylr _ _,trivial⟩,Sim.refl _,trivial⟩
 simp only[usV,yfn]at hN ⊢;simp only[ybh,clash,go_sem,zA,zB,zC,↓reduceIte,reduceCtorEq];refine hN.use ?_;simp only[go_sem,zB,zC,↓reduceIte];refine⟨by decide,hA.use ?_⟩
 simp only[yha,go_sem,zA,zB,↓reduceIte];refine⟨by decide,by decide,.ag (yea p g (g.ports.map netP) kind),ylz,?_,?_,rfl,rfl⟩
 ·refine ycx [] [] [] ?_;simp only[yea,yfn,usV,seeC,ylz,allQ,live,yc,go_sem,zA,↓reduceIte,reduceCtorEq]
 ·simp only[yea,yfn,usV,seeC,ylz,ycz,ygc,allQ,live,go_sem,zA,↓reduceIte]
theorem ybvv(h:Checked Q1 Q2 p g){kind:Int}{net:List Nat}(hnl:g.ids.length<=net.length){res:Nat->Nat->Nat}(hd:DaemonOk kind net res){c:Conf}(hc:yeq p g c=true){ws:List Nat}(hw:∀k,ws.getD k 0<2^32)(hwl:ws.length<=4000) :
 Cm Tryz.prog 133 [(201,0),(203,0)] ylz [.ag (yea p g net kind),ybl c,usV ws]
  fun r o=>(∃l1 l2 c' k',r = .tp [.ag (usV l1::usV l2::ybl c'::cntV k'),.i .i64 0])/\o=seeX ((ybu p g).runs res ws c |>.map (·.1)) ((ybu p g).runs res ws c |>.map (·.2)):=by
 refine ycee [(201,0),(203,0)] [168] _ _ _ ?_;have hX:=yboh h hnl hd hc hw hwl
 generalize ((ybu p g).runs res ws c).map (·.1)=CS at hX ⊢
 generalize ((ybu p g).runs res ws c).map (·.2)=KS at hX ⊢
 simp only[c133,ychj,ycxc,ylz,yea,yfn,usV,seeC,go_sem,zA,zB,zD,↓reduceIte,reduceCtorEq];refine yfi hX [(201,201),(203,203),(205,3),(206,5)] 0 [6,7] [6] ?_ ?_
 ·simp only[ylz,ybws,yea,yfn,usV,seeC,List.cons_append,List.nil_append,to1,okN,ycz,ygc,yev,yef,allQ,live,yc,go_sem,zA,zB,zC,zF,↓reduceIte,reduceCtorEq]
 ·rintro r o' ⟨⟨l1,l2,c',k',rfl⟩,rfl⟩;simp only[seeX,usV,cntV,yrd,ymq,nuF,nu,difN,yev,yef,Fam.ren,OB.ren,dim,ygz,ybdn,ybcb,yve,ypr,go_sem,zA,zB,zF,↓reduceIte,reduceCtorEq];simp only[yha,go_sem];refine⟨.tp [.ag (usV l1::usV l2::ybl c'::cntV k'),.i .i64 0],seeX CS KS,?_,?_,⟨l1,l2,c',k',rfl⟩,rfl⟩
  ·refine ycx [] [] [] ?_;simp only[seeX,usV,cntV,allQ,live,yc,go_sem,zA,↓reduceIte,reduceCtorEq]
  ·simp only[seeX,usV,cntV,ycz,ygc,allQ,live,go_sem,zA,↓reduceIte]
def yen(l:List Conf):SV:=.sl 1 l.length (fun i=>[ybl (l.getD i [])])
def yht(l:List Cnt):SV:=.sl 5 l.length (fun i=>cntV (l.getD i default))
theorem ybra(h:Checked Q1 Q2 p g){kind:Int}(hk:1<=kind/\kind<=4){res:Nat->Nat->Nat}(hd:DaemonOk kind (g.ports.map netP) res){c:Conf}(hc:yeq p g c=true){ws:List Nat}(hw:∀k,ws.getD k 0<2^32)(hwl:ws.length<=4000) :
 Returns Tryz.prog 78 [.ag (yds Q1 Q2 p.raw),grV g,.i .i64 kind,ybl c,usV ws] (.tp [yen (((ybu p g).runs res ws c).map (·.1)),yht (((ybu p g).runs res ws c).map (·.2)),.i .i64 0]):=by
 refine Returns.of (ydds [130,133] _ _ ?_);have hC:=ybzn h hk hc (len:=ws.length) (by omega)
 have hN:=ybdj h kind;have hX:=ybvv h (by have:=h.hg.2.2.1;rw[zO];omega) hd hc hw hwl
 generalize ((ybu p g).runs res ws c).map (·.1)=CS at hX ⊢
 generalize ((ybu p g).runs res ws c).map (·.2)=KS at hX ⊢
 simp only[yds,grV]at hC;simp only[c78,ydkj,ydlg,yds,grV,usV,go_sem,zA,zB,zD,zF,↓reduceIte,reduceCtorEq];refine hC.use ?_;simp only[ybh,ydlh,ydlj,ydne,ydno,zAE,go_sem,zA,zB,zD,↓reduceIte,reduceCtorEq];refine yfi hN [(201,14),(203,15)] 0 [3,4,14,15] [] ?_ ?_
 ·simp only[ylz,seeC,yds,grV,to1,okN,ycz,ygc,yev,yef,allQ,live,yc,go_sem,zA,zB,↓reduceIte,reduceCtorEq]
 rintro r o' ⟨rfl,rfl⟩;simp only[ylz,yea,yfn,usV,seeC,yrd,ymq,nuF,nu,difN,yev,yef,Fam.ren,OB.ren,dim,ygz,ydai,ybdn,yclv,ybcb,ybir,ybia,go_sem,zA,zB,zD,zF,↓reduceIte,reduceCtorEq];simp only[ydmj,go_sem,zA,zB,zF,↓reduceIte,reduceCtorEq];simp only[yea,yfn,usV,seeC]at hX;refine yfi hX [(201,14),(203,15)] 0 [14,15] [] ?_ ?_
 ·simp only[ylz,to1,okN,ycz,ygc,yev,yef,allQ,live,yc,go_sem,zA,zB,↓reduceIte,reduceCtorEq]
 rintro r o' ⟨⟨l1,l2,c',k',rfl⟩,rfl⟩;simp only[seeX,cntV,yrd,ymq,nuF,nu,difN,yev,yef,Fam.ren,OB.ren,dim,ygz,ybdn,ybcb,yve,ypr,go_sem,zA,zB,zD,zF,↓reduceIte,reduceCtorEq];simp only[ydom,yclw,clash,zAE,yen,yht,go_sem,zA,zB,↓reduceIte,reduceCtorEq];exact Sim.refl _
end
end Sh
end
section
def yek(v m:Int):Int:=if m<1 then 0 else v%m
def atP(l:List Int)(i:Nat):Int:=l.getD i 0
theorem yfg{v m:Int}(h:1<=m):0<=yek v m/\yek v m<m:=by
 unfold yek;rw[if_neg (by omega)]
 exact⟨zAC _ (by omega),zW _ (by omega)⟩
namespace Sh
open Ev Go.RowKit
theorem ybif{v m:Int}(h:1<=m):(if v.tmod m<0 then v.tmod m+m else v.tmod m)=v%m:=by
 have h1:=Int.emod_add_mul_ediv v m;have h2:=zAC v (show m≠0 by omega)
 have h3:=zW v (show 0<m by omega)
 have h4:=Int.tmod_eq_emod (a:=v) (b:=m);have h5:(m.natAbs:Int)=m:=by omega
 rw[h4]
 by_cases q:0<=v\/m ∣ v
 ·simp only[if_pos q,zN,Int.sub_zero];rw[if_neg (by omega)]
 ·simp only[if_neg q,h5];rw[if_pos (by omega)]
  omega
theorem yff(v m:Int)(hm:m<=4611686018427387904)(hv:inK .i64 v):Returns Tryz.prog 39 [.i .i64 v,.i .i64 m] (.i .i64 (yek v m)):=by
 refine Returns.of (ydly _ _ ?_);simp only[c39,ydhl,ydgq,ydnq,ydmb,ydny,ydia,ydkt,ybb,go_sem,zA,zB,↓reduceIte,reduceCtorEq];unfold yek;refine⟨fun h=>by rw[if_pos h],fun h=>⟨by omega,fun h2=>?_,fun h2=>?_⟩⟩
 ·have h3:=ybif (v:=v) (show 1<=m by omega)
  rw[if_pos h2]at h3;rw[if_neg h,h3];have h4:=zAC v (show m≠0 by omega)
  have h5:=zW v (show 0<m by omega)
  exact⟨ikw (by omega) (by omega),rfl⟩
 ·have h3:=ybif (v:=v) (show 1<=m by omega)
  rw[if_neg h2]at h3;rw[if_neg h,h3]
theorem at_ret(l:List Int)(i:Nat):Returns Tryz.prog 77 [yw l,.i .i64 i] (.i .i64 (atP l i)):=by
 refine Returns.of (ydnw _ _ ?_);simp only[c77,ydgm,ydfz,ydon,ydme,yw,ybb,go_sem,zA,zB,↓reduceIte,reduceCtorEq];exact⟨fun h=>⟨by omega,rfl⟩,fun h=>by unfold atP;rw[zH,zZ (by omega)];rfl⟩
theorem wrap32(z:Int):0<=IntKind.wrap .u32 z/\IntKind.wrap .u32 z<2^32:=by
 unfold IntKind.wrap;simp only[IntKind.signed,IntKind.bits];exact⟨zAC _ (by decide),zW _ (by decide)⟩
theorem yta{α:Type}(l:List α)(x d:α)(i:Nat):(l++[x]).getD i d=if i<l.length then l.getD i d else if i=l.length then x else d:=by
 by_cases h:i<l.length
 ·simp[zH,zT h,h]
 ·by_cases e:i=l.length
  ·subst e;simp[zH]
  ·rw[if_neg h,if_neg e,zH,zZ (by simp;omega)]
   rfl
theorem ybnl(l:List Nat)(hb:∀k,l.getD k 0<2^32)(n:Nat)(hn:n<=1000):Ct Tryz.prog 26 [usV l,.i .i64 n] fun r=>∃ws:List Nat,ws.length=n/\(∀k,ws.getD k 0<2^32)/\Sim r (usV ws):=by
 refine ydgb _ _ ?_;simp only[c26,ydji,ydkh,ydjz,usV,go_sem,↓reduceIte];refine ybj (σ:=List Nat) (fun ws=>⟨[(6,.i .i64 ws.length),(1,.i .i64 n),(0,usV l),(5,.os (100,0) 0 ws.length true)],[(100,.one (some ⟨40,false,1,ws.length,fun k=>[.i .u32 (ws.getD k 0:Nat)]⟩))]⟩) (fun ws=>ws.length<=n/\∀k,ws.getD k 0<2^32) (fun ws=>n-ws.length) [] ⟨zAD _,fun k=>by simp⟩ ?_ ?_
 ·refine yh [] [100] [] ?_;simp only[usV,allQ,live,yc,zN,go_sem,zA,↓reduceIte,reduceCtorEq];exact⟨(100,0),rfl,rfl,rfl⟩
 ·rintro ws ⟨h1,h2⟩;simp only[ydhi,ydip,usV,go_sem,zA,zB,↓reduceIte,reduceCtorEq];refine⟨fun hlt=>⟨fun h0=>?_,fun h0=>?_⟩,fun hlt=>?_⟩
  ·simp only[ydfs,ydis,splice,go_sem,zA,zB,zC,zD,↓reduceIte,reduceCtorEq];refine⟨⟨by omega,by omega⟩,ikw (by omega) (by omega),?_⟩
   refine yj (ws++[4294967295]) ⟨by simp;omega,fun k=>?_⟩ (by simp;omega) ?_
   ·rw[yta];split
    ·exact h2 k
    ·split<;>decide
   refine yh [(100,fun i=>(19,i))] [] [] ?_;simp only[zG,allQ,live,yc,ybb,go_sem,zA,↓reduceIte,reduceCtorEq];refine⟨by omega,fun i hi=>?_⟩
   rw[yta]
   by_cases q:i<ws.length
   ·simp only[if_pos q];simp only[live,yc,go_sem,reduceCtorEq]
   ·obtain rfl:i=ws.length:=by omega
    simp only[if_neg q,zK,zI];simp only[live,ybb,go_sem,↓reduceIte,reduceCtorEq];rfl
  ·simp only[ydjm,ydiq,clash,go_sem,zA,zB,↓reduceIte,reduceCtorEq];have hl0:0<l.length:=by omega
   have t1:(ws.length:Int).tmod (l.length:Int)=((ws.length%l.length:Nat):Int):=(zAY _ _).symm;have t2:(ws.length:Int).tdiv (l.length:Int)=((ws.length/l.length:Nat):Int):=(Int.ofNat_tdiv _ _).symm;have t3:((ws.length/l.length:Nat):Int).tmod 24=((ws.length/l.length%24:Nat):Int):=(zAY _ 24).symm;have hlt1:=zBG ws.length hl0;have hle1:=Nat.div_le_self ws.length l.length;obtain⟨D,hD⟩:∃D,ws.length/l.length=D:=⟨_,rfl⟩
   rw[hD]at t2 t3 hle1;obtain⟨K,hK⟩:∃K,D%24=K:=⟨_,rfl⟩;have hK24:K<24:=by rw[<-hK];exact zBG _ (by decide)
   have t4:IntKind.wrap .u64 (K:Int)=K:=by unfold IntKind.wrap;simp[IntKind.bits,IntKind.signed];omega
   simp only[t1,t2,t3,hK,t4]
   generalize IntKind.wrap .u32 _=A
   refine⟨by omega,⟨by omega,by omega⟩,⟨by omega,ikw (by omega) (by omega)⟩,by decide,?_⟩
   simp only[ydfs,ydnf,splice,go_sem,zA,zB,zC,zD,↓reduceIte,reduceCtorEq]
   generalize hZ:IntKind.wrap .u32 ((BitVec.toNat _:Nat):Int)=Z
   have hz:0<=Z/\Z<2^32:=by rw[<-hZ];exact wrap32 _
   obtain⟨z,rfl⟩:∃z:Nat,Z=z:=⟨Z.toNat,by omega⟩
   refine⟨⟨by omega,by show _<((32:Nat):Int);omega⟩,⟨by simp[IntKind.min,IntKind.signed];omega,by simp[IntKind.max,IntKind.bits,IntKind.signed];omega⟩,⟨by omega,by show _<((32:Nat):Int);omega⟩,⟨by omega,by omega⟩,ikw (by omega) (by omega),?_⟩
   refine yj (ws++[z]) ⟨by simp;omega,fun k=>?_⟩ (by simp;omega) ?_
   ·rw[yta];split
    ·exact h2 k
    ·split<;>omega
   refine yh [(100,fun i=>(46,i))] [] [] ?_;simp only[zG,allQ,live,yc,ybb,go_sem,zA,↓reduceIte,reduceCtorEq];refine⟨by omega,fun i hi=>?_⟩
   rw[yta]
   by_cases q:i<ws.length
   ·simp only[if_pos q];simp only[live,yc,go_sem,reduceCtorEq]
   ·obtain rfl:i=ws.length:=by omega
    simp only[if_neg q,zK,zI];simp only[live,yc,go_sem,↓reduceIte,reduceCtorEq]
  ·simp only[ycgv,go_sem,zA,zB,↓reduceIte,reduceCtorEq];exact⟨ws,by omega,h2,Sim.refl _⟩
end Sh
end
section
namespace Sh
open Ev Go.RowKit
def yuq(l:List Int)(k:Nat):Int:=(l.take k).foldl max 0
theorem ycbt{l:List Int}(h:∀x∈l,0<=x/\x<=255):∀k,0<=yuq l k/\yuq l k<=255:=by
 intro k;unfold yuq
 have:∀(l:List Int) (a:Int),(∀x∈l,0<=x/\x<=255)->0<=a/\a<=255->0<=l.foldl max a/\l.foldl max a<=255:=by
  intro l
  induction l with
  |nil=>intro a _ h;exact h
  |cons x l ih=>intro a hl ha;exact ih _ (fun y hy=>hl y (zQ _ hy)) (by have:=hl x zV;omega)
 exact this _ 0 (fun x hx=>h x (List.mem_of_mem_take hx)) (by omega)
theorem yble{l:List Int}{k:Nat}(hk:k<l.length):yuq l (k+1)=max (yuq l k) (l.getD k 0):=by
 unfold yuq;rw[List.take_succ_eq_append_getElem hk,List.foldl_append,getD_at hk];rfl
theorem ybuh{l:List Int}(h:∀x∈l,0<=x/\x<=255)(hl:0<l.length):yuq l l.length=maxI l:=by
 unfold yuq;rw[zAS];exact(ybit hl fun x hx=>(h x hx).1).symm
theorem yol{vars:List VarR}{b:VarR->Int×Int}{L:List Int}(h:yej ((vars.take L.length).map b) L)(hl:L.length<vars.length){y:Int}(hy:(b (vars.getD L.length default)).1<=y/\y<=(b (vars.getD L.length default)).2):yej ((vars.take (L++[y]).length).map b) (L++[y]):=by
 refine⟨by simp;omega,fun i c x hb hx=>?_⟩
 rw[zG,List.length_singleton,zAG]at hb;have hi:i<L.length+1:=by have:=(List.getElem?_eq_some_iff.1 hx).1;simpa using this
 rw[zAJ hi]at hb
 by_cases q:i<L.length
 ·rw[zT q]at hx;refine h.2 i c x ?_ hx;rw[zAG,zAJ q];exact hb
 ·obtain rfl:i=L.length:=by omega
  rw[List.getElem?_append_right (Nat.le_refl _),zK]at hx;cases hx
  rw[zM hl]at hb;cases hb
  rw[getD_at hl]at hy;exact hy
section
variable {p:ProgT}{g:Gr}
theorem yblh(hg:ybe g)(hp:p.ok=true)(hf:yxd p g=true){raw:List Int}(hr:∀k,inK .i64 (raw.getD k 0)) :
 Ct Tryz.prog 24 [grV g,ydh p.vars,yw raw] fun r=>∃c,yeq p g c=true/\Sim r (ybl c):=by
 refine ydmu _ _ ?_;have hid:=hg.2.2.1;have h24:=hg.2.1;have h1:=hg.1;have hids:=hg.2.2.2.1;simp only[c24,ydhh,ydho,ydks,grV,yx,go_sem,zA,zB,zD,↓reduceIte,reduceCtorEq];obtain⟨n,hn⟩:∃n,g.ports.length=n:=⟨_,rfl⟩;refine ybj (σ:=Nat) (fun k=>⟨[(9,.i .i64 k),(8,.i .i64 (yuq g.ids k)),(7,.i .i64 n),(3,.pt (3,0) 0 0),(1,ydh p.vars),(2,yw raw)],[(3,.one (some ⟨27,true,2,1,fun _=>[yw g.ids,yx g.ports]⟩))]⟩) (fun k=>k<=n) (fun k=>n-k) 0 (zAD _) ?_ ?_
 ·refine yh [] [] [] ?_;simp only[yx,hn,allQ,live,yc,ybb,zN,go_sem,zA,↓reduceIte,reduceCtorEq];rfl
 ·intro k hk;have htop:=ycbt hids k;simp only[ydhp,ydgg,ydns,ydhj,ydhb,yw,go_sem,zA,zB,zC,↓reduceIte,reduceCtorEq];refine⟨fun hlt=>?_,fun hlt=>?_⟩
  ·have hs:=yble (l:=g.ids) (k:=k) (by omega)
   refine⟨by omega,ikw (by omega) (by omega),?_⟩
   refine yj (k+1) (by omega) (by omega) ?_
   refine yh [] [] [] ?_;simp only[allQ,live,yc,ybb,go_sem,zA,↓reduceIte,reduceCtorEq];exact⟨by omega,hs.symm⟩
  ·obtain rfl:k=n:=by omega
   have htm:yuq g.ids k=maxI g.ids:=by rw[<-hn,<-hid];exact ybuh hids (by omega)
   rw[htm]at htop ⊢;obtain⟨top,htp⟩:∃t,maxI g.ids=t:=⟨_,rfl⟩;rw[htp]at htop ⊢;obtain⟨nv,hnv⟩:∃k,p.vars.length=k:=⟨_,rfl⟩;have hp':=hp;unfold ProgT.ok at hp';simp only[zJ,decide_eq_true_eq]at hp'
   refine ybj (σ:=Conf) (fun C=>⟨[(11,.i .i64 C.length),(10,.os (300,0) 0 C.length true),(8,.i .i64 top),(7,.i .i64 k),(3,.pt (3,0) 0 0),(1,ydh p.vars),(2,yw raw)],
    [(3,.one (some ⟨27,true,2,1,fun _=>[yw g.ids,yx g.ports]⟩)),(300,.one (some ⟨22,false,1,C.length,fun j=>[yw (C.getD j [])]⟩))]⟩)
    (fun C=>C.length<=k/\∀v,v<C.length->yej (p.vars.map (ybi g v)) (C.getD v [])) (fun C=>k-C.length) [] ⟨zAD _,fun v hv=>absurd hv (zAX v)⟩ ?_ ?_
   ·refine yh [] [300] [] ?_;simp only[yw,yx,allQ,live,yc,zN,go_sem,zA,zF,↓reduceIte,reduceCtorEq];exact⟨(300,0),rfl,rfl,rfl⟩
   ·rintro C ⟨hC1,hC2⟩;simp only[ydnx,yckq,ycsr,yw,go_sem,zA,zB,↓reduceIte,reduceCtorEq];refine⟨fun hlt=>?_,fun hlt=>?_⟩
    ·refine ybj (σ:=List Int) (fun L=>⟨[(13,.i .i64 L.length),(12,.os (301,0) 0 L.length true),(11,.i .i64 C.length),(10,.os (300,0) 0 C.length true),(8,.i .i64 top),(7,.i .i64 k),(3,.pt (3,0) 0 0),(1,ydh p.vars),(2,yw raw)],
      [(301,.one (some ⟨3,false,1,L.length,fun j=>[.i .i64 (L.getD j 0)]⟩)),(3,.one (some ⟨27,true,2,1,fun _=>[yw g.ids,yx g.ports]⟩)),(300,.one (some ⟨22,false,1,C.length,fun j=>[yw (C.getD j [])]⟩))]⟩)
      (fun L=>L.length<=nv/\yej ((p.vars.take L.length).map (ybi g C.length)) L) (fun L=>nv-L.length) [] ⟨zAD _,rfl,fun i b x hb=>by simp at hb⟩ ?_ ?_
     ·refine yh [] [301] [] ?_;simp only[yw,yx,allQ,live,yc,zN,go_sem,zA,zF,↓reduceIte,reduceCtorEq];exact⟨(301,0),rfl,rfl,rfl⟩
     ·rintro L ⟨hL1,hL2⟩;obtain⟨x,hx⟩:∃x,p.vars.getD L.length default=x:=⟨_,rfl⟩;simp only[ychb,yctd,yciu,yw,ydh,hnv,hx,varC,clash,go_sem,zA,zB,zC,↓reduceIte,reduceCtorEq];refine⟨fun hlt2=>?_,fun hlt2=>?_⟩
      ·have hLn:L.length<p.vars.length:=by omega
       have hxm:x∈p.vars:=by rw[<-hx,getD_at hLn];exact zY _
       have hxo:=List.all_eq_true.1 hp'.1.1.2 x hxm;have hvo:=ybff hxo;obtain⟨hb1,hb2⟩:=yma hg hxo;rw[hid,hn]at hb1;rw[htp]at hb2;have hbn:=ybiz hg hp hf hxm C.length;have hidx:(C.length:Int)*(nv:Int)+(L.length:Int)=((C.length*nv+L.length:Nat):Int):=by push_cast;rfl
       have hdeg:=hg.deg_lt (v:=C.length);have hmi:(C.length:Int)*(nv:Int)=((C.length*nv:Nat):Int):=by push_cast;rfl
       have hmul:C.length*nv<=24*6:=Nat.mul_le_mul (by omega) (by omega)
       have hAt:=at_ret raw (C.length*nv+L.length);have hav:inK .i64 (atP raw (C.length*nv+L.length)):=hr _;simp only[yw]at hAt;refine⟨by omega,by omega,by omega,ikw (by omega) (by omega),ikw (by omega) (by omega),by omega,ikw (by omega) (by omega),ikw (by omega) (by omega),by omega,?_⟩
       rcases hvo.1 with hkk|hkk|hkk
       ·have hbt:ybi g C.length x=(x.lo,x.hi+x.perNode*(k:Int)+x.perID*top):=by
         unfold ybi;rw[if_pos hkk,hid,hn,htp]
        rw[hbt]at hbn;simp only[]at hbn;simp only[hkk];simp only[ybhx,ybkd,ybik,ybji,ybib,clash,zBB,hidx,go_sem,zA,zB,↓reduceIte,reduceCtorEq];refine⟨by rw[hmi];exact ikw (by omega) (by omega),ikw (by omega) (by omega),hAt.use ?_⟩
        simp only[ybh,go_sem,zA,zB,zD,↓reduceIte,reduceCtorEq];have hW:=yff (atP raw (C.length*nv+L.length)) (x.hi+x.perNode*(k:Int)+x.perID*top-(x.lo)+1) (by omega) hav
        obtain⟨w1,w2⟩:=yfg (v:=atP raw (C.length*nv+L.length)) (m:=x.hi+x.perNode*(k:Int)+x.perID*top-(x.lo)+1) (by omega)
        generalize yek (atP raw (C.length*nv+L.length)) (x.hi+x.perNode*(k:Int)+x.perID*top-(x.lo)+1)=W at hW w1 w2
        refine⟨ikw (by omega) (by omega),ikw (by omega) (by omega),hW.use ?_⟩
        simp only[ybjh,go_sem,zA,zB,zC,↓reduceIte,reduceCtorEq];refine⟨ikw (by omega) (by omega),⟨by omega,by omega⟩,ikw (by omega) (by omega),?_⟩
        refine yj (L++[x.lo+W]) ⟨by simp;omega,yol hL2 hLn (by rw[hx,hbt];exact⟨by simp only[];omega,by simp only[];omega⟩)⟩ (by simp;omega) ?_
        refine yh [(301,fun i=>(101,i))] [] [] ?_;simp only[yx,yba,hn,zG,allQ,live,yc,ybb,go_sem,zA,↓reduceIte,reduceCtorEq];refine⟨by omega,fun i hi=>?_⟩
        rw[yta]
        by_cases q:i<L.length
        ·simp only[if_pos q];simp only[live,yc,go_sem,reduceCtorEq]
        ·obtain rfl:i=L.length:=by omega
         simp only[if_neg q,zK,zI];simp only[live,yc,go_sem,↓reduceIte,reduceCtorEq]
       ·have hbt:ybi g C.length x=(0,1):=by
         unfold ybi;rw[if_neg (by omega),if_pos hkk]
        rw[hbt]at hbn;simp only[]at hbn;simp only[hkk];simp only[ybhx,ybkd,ybik,ybji,ybib,clash,hidx,go_sem,zA,zB,↓reduceIte,reduceCtorEq];refine⟨by rw[hmi];exact ikw (by omega) (by omega),ikw (by omega) (by omega),hAt.use ?_⟩
        simp only[ybh,go_sem,zA,zB,zD,↓reduceIte,reduceCtorEq];have hW:=yff (atP raw (C.length*nv+L.length)) (1-(0)+1) (by omega) hav
        obtain⟨w1,w2⟩:=yfg (v:=atP raw (C.length*nv+L.length)) (m:=1-(0)+1) (by omega)
        generalize yek (atP raw (C.length*nv+L.length)) (1-(0)+1)=W at hW w1 w2
        refine⟨ikw (by omega) (by omega),ikw (by omega) (by omega),hW.use ?_⟩
        simp only[ybjh,go_sem,zA,zB,zC,↓reduceIte,reduceCtorEq];refine⟨ikw (by omega) (by omega),⟨by omega,by omega⟩,ikw (by omega) (by omega),?_⟩
        refine yj (L++[0+W]) ⟨by simp;omega,yol hL2 hLn (by rw[hx,hbt];exact⟨by simp only[];omega,by simp only[];omega⟩)⟩ (by simp;omega) ?_
        refine yh [(301,fun i=>(101,i))] [] [] ?_;simp only[yx,yba,hn,zG,allQ,live,yc,ybb,go_sem,zA,↓reduceIte,reduceCtorEq];refine⟨by omega,fun i hi=>?_⟩
        rw[yta]
        by_cases q:i<L.length
        ·simp only[if_pos q];simp only[live,yc,go_sem,reduceCtorEq]
        ·obtain rfl:i=L.length:=by omega
         simp only[if_neg q,zK,zI];simp only[live,yc,go_sem,↓reduceIte,reduceCtorEq]
       ·have hbt:ybi g C.length x=(-1,((g.ports.getD C.length []).length:Int)-1):=by
         unfold ybi;rw[if_neg (by omega),if_neg (by omega),if_pos hkk]
        rw[hbt]at hbn;simp only[]at hbn;simp only[hkk];simp only[ybhx,ybkd,ybik,ybji,ybib,clash,zBB,hidx,yx,yba,hn,go_sem,zA,zB,↓reduceIte,reduceCtorEq];refine⟨by omega,ikw (by omega) (by omega),by rw[hmi];exact ikw (by omega) (by omega),ikw (by omega) (by omega),hAt.use ?_⟩
        simp only[ybh,go_sem,zA,zB,zD,↓reduceIte,reduceCtorEq];have hW:=yff (atP raw (C.length*nv+L.length)) (((g.ports.getD C.length []).length:Int)-1-(-1)+1) (by omega) hav
        obtain⟨w1,w2⟩:=yfg (v:=atP raw (C.length*nv+L.length)) (m:=((g.ports.getD C.length []).length:Int)-1-(-1)+1) (by omega)
        generalize yek (atP raw (C.length*nv+L.length)) (((g.ports.getD C.length []).length:Int)-1-(-1)+1)=W at hW w1 w2
        refine⟨ikw (by omega) (by omega),ikw (by omega) (by omega),hW.use ?_⟩
        simp only[ybjh,go_sem,zA,zB,zC,↓reduceIte,reduceCtorEq];refine⟨ikw (by omega) (by omega),⟨by omega,by omega⟩,ikw (by omega) (by omega),?_⟩
        refine yj (L++[-1+W]) ⟨by simp;omega,yol hL2 hLn (by rw[hx,hbt];exact⟨by simp only[];omega,by simp only[];omega⟩)⟩ (by simp;omega) ?_
        refine yh [(301,fun i=>(101,i))] [] [] ?_;simp only[zG,allQ,live,yc,ybb,go_sem,zA,↓reduceIte,reduceCtorEq];refine⟨by omega,fun i hi=>?_⟩
        rw[yta]
        by_cases q:i<L.length
        ·simp only[if_pos q];simp only[live,yc,go_sem,reduceCtorEq]
        ·obtain rfl:i=L.length:=by omega
         simp only[if_neg q,zK,zI];simp only[live,yc,go_sem,↓reduceIte,reduceCtorEq]
      ·have hLe:L.length=nv:=by omega
       rw[hLe,<-hnv,zAS]at hL2;simp only[ydir,ycpa,splice,go_sem,zA,zB,zC,zD,↓reduceIte,reduceCtorEq];refine⟨⟨by omega,by omega⟩,ikw (by omega) (by omega),?_⟩
       refine yj (C++[L]) ⟨by simp;omega,fun v hv=>?_⟩ (by simp;omega) ?_
       ·rw[yta];split
        ·exact hC2 v (by assumption)
        ·have:v=C.length:=by simp at hv;omega
         subst this;rw[if_pos rfl];exact hL2
       refine yh [(300,fun i=>(105,i))] [] [(301,0)] ?_;simp only[yx,yba,hn,zG,allQ,live,yc,ybb,go_sem,zA,zC,↓reduceIte,reduceCtorEq];refine⟨by omega,fun i hi=>?_⟩
       have e:=yta C L [] i;rw[e]
       by_cases q:i<C.length
       ·simp only[if_pos q];simp only[go_sem,live,yc,go_sem,reduceCtorEq]
       ·obtain rfl:i=C.length:=by omega
        simp only[if_neg q,zK,zI,if_true];simp only[go_sem,live,yc,go_sem,zA,↓reduceIte,reduceCtorEq]
    ·simp only[ycsb,go_sem,zA,zB,↓reduceIte,reduceCtorEq];refine⟨C,(yew _ _ _).2 ⟨by omega,fun v st hst=>?_⟩,Sim.refl _⟩
     have hv:=(List.getElem?_eq_some_iff.1 hst).1;have:=hC2 v hv
     rwa [zH,hst]at this
end
end Sh
end
section
namespace Sh
open Ev Go.RowKit
def blV(l:List Bool):SV:=.sl 1 l.length (fun k=>[.b (l.getD k false)])
def ycgb(l:List Bool)(k:Nat):Bool:=(l.take k).any id
structure HeldOk(legit:List Bool)(ks:List Cnt)(rounds moves:Int)(ended:Bool):Prop where
 len:legit.length=ks.length
 pos:0<legit.length
 stays:∀i,i<legit.length->ycgb legit i=true->legit.getD i false=true
 rounds:∀i,i<legit.length->ycgb legit (i+1)=false->((ks.getD i default).begun:Int)<=rounds
 moves:∀i,i<legit.length->ycgb legit (i+1)=false->0<=moves->((ks.getD i default).moves:Int)<=moves
 ends:ycgb legit legit.length=true\/ended=false
def ycli(kind:Int)(fair silent:Bool)(rounds moves:Int):List SV:=[.i .i64 kind,.b fair,.b silent,.i .i64 rounds,.i .i64 moves]
theorem ydbj{Q1 Q2:(Nat->Option ABlk)->Value->Prop}{p:ProgT}{g:Gr}{t:ByteArray}(hpr:Returns Tryz.prog 37 [.a (.string t)] (.ag (yds Q1 Q2 p.raw)))(h:Checked Q1 Q2 p g){kind:Int}(hk:1<=kind/\kind<=4){res:Nat->Nat->Nat}(hd:DaemonOk kind (g.ports.map netP) res){c:Conf}(hc:yeq p g c=true){ws:List Nat}(hw:∀k,ws.getD k 0<2^32)(hwl:ws.length<=4000) :
 Returns Tryz.prog 22 [.a (.string t),grV g,.i .i64 kind,ybl c,usV ws] (.tp [yen (((ybu p g).runs res ws c).map (·.1)),yht (((ybu p g).runs res ws c).map (·.2)),.b true]):=by
 refine Returns.of (ydim _ _ ?_);have hX:=ybra h hk hd hc hw hwl;obtain⟨R,hR⟩:∃R,(ybu p g).runs res ws c=R:=⟨_,rfl⟩;rw[hR]at hX ⊢;have hRl:0<R.length:=by rw[<-hR];simp[Sys.runs]
 obtain⟨m,hm⟩:∃m,R.length=m:=⟨_,rfl⟩;rw[hm]at hRl;have f1:((m:Int)==(m:Int))=true:=by simp
 have f2:decide ((m:Int)>0)=true:=by simp;omega
 simp only[yds]at hpr hX;simp only[grV,usV,yen,yht,zO,hm]at hX;simp only[c22,ydit,ydkx,grV,usV,clash,go_sem,zB,zD,↓reduceIte,reduceCtorEq];refine hpr.use ?_;simp only[ybh,clash,go_sem,zA,zB,↓reduceIte,reduceCtorEq];refine hX.use ?_;simp(maxSteps:=5000000) only [ydls,clash,f1,f2,go_sem,zA,zB,↓reduceIte,reduceCtorEq];refine⟨by decide,?_⟩
 unfold yen yht;rw[zO,zO,hm];exact Sim.refl _
end Sh
end
section
namespace Sh
open Ev Go.RowKit
theorem ycam{n nv:Nat}{c:Conf}(h:ConfIn n nv c):ycfy c:=fun s hs x hx=>by
 have:=(h.row s hs).2 x hx;unfold InB at this;exact yft (by omega)
end Sh
end
section
namespace Sh
open Go Ev
end Sh
end
section
namespace Sh
open Ev Go.RowKit
end Sh
end
section
structure Tgt(S:Sys)(V:Conf->Prop)(T:Conf->Nat->List Int):Prop where
 valid:∀c s,V c->s≠0->subB s (S.en c)->V (S.mv c s)
 stay:∀c s v,V c->v<S.n->s.testBit v=false->(S.mv c s).getD v []=c.getD v []
 move:∀c s v,V c->v<S.n->s.testBit v=true->subB s (S.en c)->(S.mv c s).getD v []=T c v
 en:∀c v,V c->v<S.n->((S.en c).testBit v=false↔c.getD v []=T c v)
theorem Tgt.rounds{S:Sys}{V:Conf->Prop}{T:Conf->Nat->List Int}(h:Tgt S V T){P:Nat->Nat->List Int->Prop}(hT:∀c v r,V c->v<S.n->(∀u,u<S.n->P r u (c.getD u []))->P (r+1) v (T c v))(hl:∀r v s,P (r+1) v s->P r v s):ByRounds S V P where
 valid:=h.valid
 stay:=h.stay
 move:=fun c s v r hv hn hb hs hall=>by rw[h.move c s v hv hn hb hs];exact hT c v r hv hn hall
 rest:=fun c v r hv hn hb hall=>by rw[(h.en c v hv hn).1 hb];exact hT c v r hv hn hall
 less:=hl
theorem Tgt.silent{S:Sys}{V:Conf->Prop}{T:Conf->Nat->List Int}(h:Tgt S V T){P:Nat->Nat->List Int->Prop}(hT:∀c v r,V c->v<S.n->(∀u,u<S.n->P r u (c.getD u []))->P (r+1) v (T c v)){c:Conf}(hv:V c)(h0:∀v,v<S.n->P 0 v (c.getD v []))(he:S.en c=0):∀r v,v<S.n->P r v (c.getD v [])
 |0,v,hn=>h0 v hn
 | r+1,v,hn=>by
   rw[(h.en c v hv hn).1 (by rw[he];simp)]
   exact hT c v r hv hn (Tgt.silent h hT hv h0 he r)
theorem Sys.run_last{S:Sys}{res:Nat->Nat->Nat}:∀(ws:List Nat) (c:Conf) (k:Cnt) (i:Nat),i+1<(S.run res ws c k).length->∀p,(S.run res ws c k)[i]?=some p->S.en p.1≠0
 |[],c,k,i,h,p,hp=>by simp[Sys.run]at h
 | w :: ws,c,k,i,h,p,hp=>by
   unfold Sys.run at h hp;split at h
   ·simp at h
   ·rename_i h0
    rw[if_neg h0]at hp;cases i with
    | zero =>
      simp only[zAL]at hp;cases hp
      simp only[zAT]at h;cases ws with
      |nil=>simp[Sys.run]at h
      | cons w' ws =>
        unfold Sys.run at h;split at h
        ·simp at h
        ·assumption
    |succ i=>exact Sys.run_last ws _ _ i (by simpa using h) p (by simpa using hp)
theorem Sys.runs_last{S:Sys}{res:Nat->Nat->Nat}{ws:List Nat}{c:Conf}{i:Nat}(h:i+1<(S.runs res ws c).length){p:Conf×Cnt}(hp:(S.runs res ws c)[i]?=some p):S.en p.1≠0:=by
 unfold Sys.runs at h hp;cases i with
 | zero =>
   simp only[zAL]at hp;cases hp
   cases ws with
   |nil=>simp[Sys.run]at h
   | cons w ws =>
     unfold Sys.run at h;split at h
     ·simp at h
     ·assumption
 |succ i=>exact Sys.run_last ws _ _ i (by simpa using h) p (by simpa using hp)
end
section
open Go.RowKit
end
section
def ygt(g:Gr):Nat:=(g.ports.map List.length).sum
def addL(back:Bool)(l:List (Int×Int))(x:Int×Int):List (Int×Int):=if back then x::l else l++[x]
theorem yeg{back:Bool}{l:List (Int×Int)}{x y:Int×Int}:y∈addL back l x↔y=x\/y∈l:=by
 unfold addL;cases back<;>simp[or_comm]
def ycd(back:Bool)(g:Gr)(a b:Nat)(w:Int):Gr:=⟨g.ids,(g.ports.set a (addL back (g.ports.getD a []) (b,w))).set b (addL back (g.ports.getD b []) (a,w))⟩
theorem ydt(back:Bool)(g:Gr){a b:Nat}(w:Int)(ha:a<g.ports.length)(hb:b<g.ports.length)(v:Nat) :
 (ycd back g a b w).ports.getD v []=if v=b then addL back (g.ports.getD b []) (a,w)else if v=a then addL back (g.ports.getD a []) (b,w)else g.ports.getD v []:=by
 unfold ycd;simp only[zH]
 by_cases h1:v=b
 ·subst h1;rw[if_pos rfl,zX (by simpa using hb)]
  rfl
 ·rw[if_neg h1,zAB (fun q=>h1 q.symm)]
  by_cases h2:v=a
  ·subst h2;rw[if_pos rfl,zX ha];rfl
  ·rw[if_neg h2,zAB (fun q=>h2 q.symm)]
theorem ypy{back:Bool}{l:List (Int×Int)}{v n:Int}{x:Int×Int}(h:ycr l v n)(hx:ykq v n x)(hno:∀y∈l,y.1≠x.1):ycr (addL back l x) v n:=by
 refine⟨fun y hy=>?_,?_⟩
 ·rcases yeg.1 hy with rfl|hy
  ·exact hx
  ·exact h.1 y hy
 ·have hn:x.1∉l.map (·.1):=fun hm=>by
   obtain⟨y,hy,e⟩:=List.mem_map.1 hm;exact hno y hy e
  unfold addL;cases back
  ·simp only[Bool.false_eq_true,if_false,zAW,zAF,List.map_nil];rw[zAQ];refine⟨h.2,by simp,fun p hp q hq=>?_⟩
   rw[List.mem_singleton]at hq;subst hq;intro e;exact hn (e▸hp)
  ·simp only[if_true,zAF];exact List.nodup_cons.2 ⟨hn,h.2⟩
theorem ybar{back:Bool}{g:Gr}(hg:ybe g){a b:Nat}{w:Int}(ha:a<g.ports.length)(hb:b<g.ports.length)(hab:a≠b)(hw:1<=w/\w<=15)(hno:∀y∈g.ports.getD a [],y.1≠(b:Int)):ybe (ycd back g a b w):=by
 obtain⟨h1,h2,h3,h4,h5,h6,h7⟩:=hg;have hlen:(ycd back g a b w).ports.length=g.ports.length:=by simp[ycd]
 have gd:∀(v:Nat) (hv:v<g.ports.length),g.ports.getD v []=g.ports[v]:=fun v hv=>by simp[zH,hv]
 have hno2:∀y∈g.ports.getD b [],y.1≠(a:Int):=fun y hy e=>by
  rw[gd b hb]at hy;have:=h7 ⟨b,hb⟩ y hy;rw[e,zAH]at this;exact hno _ this rfl
 have at_:∀(v:Nat) (hv:v<g.ports.length),(ycd back g a b w).ports[v]'(by rw[hlen];exact hv)=if v=b then addL back (g.ports.getD b []) (a,w)else if v=a then addL back (g.ports.getD a []) (b,w)else g.ports.getD v []:=fun v hv=>by
  rw[<-ydt back g w ha hb v];simp[zH,hlen,hv]
 refine⟨by rw[hlen];exact h1,by rw[hlen];exact h2,by rw[hlen];exact h3,h4,h5,fun v=>?_,fun v l hl=>?_⟩
 ·have hv:v.1<g.ports.length:=zAP v.isLt hlen;have hl':(((ycd back g a b w).ports.length:Nat):Int)=(g.ports.length:Int):=by rw[hlen]
  rw[hl'];show ycr ((ycd back g a b w).ports[v.1]) _ _;rw[at_ v.1 hv];split
  ·rename_i e
   rw[e];refine ypy ?_ ⟨by simp only[];omega,by simp only[];omega,by simp only[];omega,hw.1,hw.2⟩ hno2
   rw[gd b hb];exact h6 ⟨b,hb⟩
  ·split
   ·rename_i e
    rw[e];refine ypy ?_ ⟨by simp only[];omega,by simp only[];omega,by simp only[];omega,hw.1,hw.2⟩ hno
    rw[gd a ha];exact h6 ⟨a,ha⟩
   ·rw[gd v.1 hv];exact h6 ⟨v.1,hv⟩
 ·have hv:v.1<g.ports.length:=zAP v.isLt hlen
  change l∈(ycd back g a b w).ports[v.1]at hl
  rw[at_ v.1 hv]at hl
  have old:∀u x,x∈g.ports.getD u []->x∈(ycd back g a b w).ports.getD u []:=fun u x hx=>by
   rw[ydt back g w ha hb u];split
   ·rename_i e;subst e;exact yeg.2 (.inr hx)
   ·split
    ·rename_i e;subst e;exact yeg.2 (.inr hx)
    ·exact hx
  have sym:∀(u:Nat) (hu:u<g.ports.length),l∈g.ports.getD u []->((u:Int),l.2)∈(ycd back g a b w).ports.getD l.1.toNat []:=fun u hu hx=>by
   rw[gd u hu]at hx;exact old _ _ (h7 ⟨u,hu⟩ l hx)
  split at hl
  ·rename_i e
   rcases yeg.1 hl with rfl|hl
   ·rw[ydt back g w ha hb,e];simp only[zAH];simp only[if_neg hab,if_true];exact yeg.2 (.inl rfl)
   ·rw[e];exact sym b hb hl
  ·split at hl
   ·rename_i e
    rcases yeg.1 hl with rfl|hl
    ·rw[ydt back g w ha hb,e];simp only[zAH];simp only[if_true];exact yeg.2 (.inl rfl)
    ·rw[e];exact sym a ha hl
   ·exact sym v.1 hv hl
end
section
def Tre(g:Gr)(m:Nat):Prop:=∀v,0<v->v<m->∃u,u<v/\adj g u v
theorem Tre.walk{g:Gr}{m:Nat}(h:Tre g m):∀v,v<m->∃k,Walk g 0 k v:=by
 intro v
 induction v using Nat.strongRecOn with
 | _ v ih =>
   intro hv
   by_cases h0:v=0
   ·subst h0;exact⟨0,rfl⟩
   ·obtain⟨u,hu,ha⟩:=h v (by omega) hv
    obtain⟨k,hk⟩:=ih u hu (by omega)
    exact⟨k+1,u,hk,ha⟩
theorem Tre.conn{g:Gr}(hg:ybe g)(h:Tre g g.ports.length):yfy g=true:=by
 unfold yfy;rw[(yfh g).2 hg,Bool.true_and,ybev hg (a:=0) (by have:=hg.1;omega)]
 exact h.walk
theorem yij{g:Gr}{u v:Nat}:adj g u v↔∃l,l∈g.ports.getD u []/\l.1=(v:Int):=by
 constructor
 ·rintro⟨ls,h,l,hl,e⟩;exact⟨l,by simpa[zH,h]using hl,e⟩
 ·rintro⟨l,hl,e⟩;cases h:g.ports[u]? with
  |none=>simp[zH,h]at hl
  |some ls=>exact⟨ls,h,l,by simpa[zH,h]using hl,e⟩
theorem ybgt{back:Bool}{g:Gr}{a b:Nat}{w:Int}(ha:a<g.ports.length)(hb:b<g.ports.length){u v:Nat}(h:adj g u v):adj (ycd back g a b w) u v:=by
 obtain⟨l,hl,e⟩:=yij.1 h;refine yij.2 ⟨l,?_,e⟩;rw[ydt back g w ha hb u];split
 ·rename_i q;subst q;exact yeg.2 (.inr hl)
 ·split
  ·rename_i q;subst q;exact yeg.2 (.inr hl)
  ·exact hl
theorem ybfj{back:Bool}{g:Gr}{a b:Nat}{w:Int}(ha:a<g.ports.length)(hb:b<g.ports.length)(hab:a≠b):adj (ycd back g a b w) a b:=by
 refine yij.2 ⟨((b:Int),w),?_,rfl⟩;rw[ydt back g w ha hb a,if_neg hab,if_pos rfl];exact yeg.2 (.inl rfl)
theorem Tre.add{back:Bool}{g:Gr}{a b:Nat}{w:Int}(ha:a<g.ports.length)(hb:b<g.ports.length){m:Nat}(h:Tre g m):Tre (ycd back g a b w) m:=fun v h0 hv=>by
 obtain⟨u,hu,hadj⟩:=h v h0 hv;exact⟨u,hu,ybgt ha hb hadj⟩
def bare(ids:List Int):Gr:=⟨ids,zAZ ids.length []⟩
theorem ybtm{ids:List Int}(h1:1<=ids.length)(h2:ids.length<=24)(h3:∀x∈ids,0<=x/\x<=255)(h4:ids.Nodup):ybe (bare ids):=by
 have e:∀v:Fin (bare ids).ports.length,(bare ids).ports[v]=[]:=fun v=>by
  have hv:v.1<ids.length:=by have:=v.isLt;simpa[bare]using this
  show(zAZ ids.length ([]:List (Int×Int)))[v.1]'(by simpa using hv)=[]
  exact List.getElem_replicate ..
 refine⟨by simpa[bare]using h1,by simpa[bare]using h2,by simp[bare],h3,h4,fun v=>?_,fun v l hl=>?_⟩
 ·rw[e v];exact⟨fun l hl=>(nomatch hl),List.nodup_nil⟩
 ·rw[e v]at hl;cases hl
end
section
abbrev eNum(k:Int):Ex:=.leaf 1 k
abbrev ybxh:Ex:=.leaf 4 0
abbrev eVar(k:Int):Ex:=.leaf 5 k
abbrev eN:Ex:=.leaf 6 0
abbrev eQ(k:Int):Ex:=.leaf 12 k
theorem yrz{α:Type}(g:Gr)(v:Nat)(f:Int×Int->α)(h:Nat->α)(e:∀q,q<(g.ports.getD v []).length->h q=f ((g.ports.getD v []).getD q (0,0))):(zL (g.ports.getD v []).length).map h=(g.ports.getD v []).map f:=by
 refine zAU (by simp) fun i h1 h2=>?_
 have hi:i<(g.ports.getD v []).length:=by simpa using h1
 rw[zAV,List.getElem_range,zAV,e i hi];congr 1;rw[List.getD_eq_getElem?_getD,zM hi];rfl
def endP(c:Conf)(k:Nat)(l:Int×Int):Int:=(c.getD l.1.toNat []).getD k 0
theorem ylx(b:Bool):(ybp b != 0)=b:=by cases b<;>rfl
section
variable {nm nd np nt nl:ByteArray}{g:Gr}{c:Conf}{v:Nat}
theorem bT1{x:ByteArray}:ybi g v ⟨x,1,0,0,1,0⟩=(0,0+1*(g.ids.length:Int)+0*maxI g.ids):=by
 show(if (1:Int)=1 then _ else _)=_
 rw[if_pos rfl]
end
end
section
section
variable {g:Gr}{a v:Nat}
theorem ygw(hg:ybe g)(hc:yfy g=true)(ha:a<g.ports.length)(hv:v<g.ports.length):∃k:Nat,(ybx g a).getD v 0=k/\Walk g a k v/\(∀j,j<k->¬Walk g a j v)/\k<g.ports.length:=by
 have h0:0<g.ports.length:=by omega
 have hall:(ybx g a).all (fun x=>decide (0<=x))=true:=ycdp hg h0 ha ((zJ _ _▸hc).2);have hl:=yhk hg ha;have hvl:v<(ybx g a).length:=by rw[hl];exact hv
 have e:(ybx g a).getD v 0=(ybx g a)[v]:=by simp[zH,hvl]
 have hpos:0<=(ybx g a)[v]:=by simpa using List.all_eq_true.1 hall _ (zY hvl)
 rcases(yeo hg ha).2 v _ (zM hvl)with⟨h,_⟩|⟨k,h1,h2,h3⟩
 ·omega
 ·exact⟨k,by rw[e,h1],h2,h3,yuf hg ha h2 h3⟩
theorem ydau{k:Nat}(hg:ybe g)(hc:yfy g=true)(ha:a<g.ports.length)(hv:v<g.ports.length)(h1:Walk g a k v)(h2:∀j,j<k->¬Walk g a j v):(ybx g a).getD v 0=k:=by
 obtain⟨j,e,h3,h4,_⟩:=ygw hg hc ha hv;rcases Nat.lt_trichotomy j k with h|h|h
 ·exact absurd h3 (h2 j h)
 ·rw[e,h]
 ·exact absurd h1 (h4 k h)
theorem ybow(hg:ybe g)(hc:yfy g=true)(ha:a<g.ports.length):(ybx g a).getD a 0=0:=ydau hg hc ha ha (k:=0) rfl fun j hj=>by omega
theorem ybrn(hg:ybe g)(hc:yfy g=true)(ha:a<g.ports.length)(hv:v<g.ports.length):0<=(ybx g a).getD v 0/\(ybx g a).getD v 0<g.ports.length:=by
 obtain⟨k,e,_,_,h⟩:=ygw hg hc ha hv;omega
theorem yccr(hg:ybe g)(hc:yfy g=true)(ha:a<g.ports.length)(hv:v<g.ports.length)(hne:v≠a):1<=(ybx g a).getD v 0:=by
 obtain⟨k,e,h1,_,_⟩:=ygw hg hc ha hv;cases k with
 |zero=>exact absurd h1 hne
 |succ k=>omega
theorem ycae(hg:ybe g)(hc:yfy g=true)(ha:a<g.ports.length){u:Nat}(h:adj g u v):(ybx g a).getD v 0<=(ybx g a).getD u 0+1:=by
 obtain⟨hu,hv⟩:=hg.adj_lt h;obtain⟨k,e,h1,_,_⟩:=ygw hg hc ha hu;obtain⟨j,e',_,h3,_⟩:=ygw hg hc ha hv;rw[e,e'];rcases zBD (k+1) j with q|q
 ·exact absurd ⟨u,h1,h⟩ (h3 (k+1) q)
 ·omega
theorem ybbq(hg:ybe g)(hc:yfy g=true)(ha:a<g.ports.length)(hv:v<g.ports.length)(hne:v≠a):∃u,adj g v u/\(ybx g a).getD u 0=(ybx g a).getD v 0-1:=by
 obtain⟨k,e,h1,h2,_⟩:=ygw hg hc ha hv;cases k with
 |zero=>exact absurd h1 hne
 | succ k =>
   obtain⟨u,h3,h4⟩:=h1;refine⟨u,hg.adj_symm h4,?_⟩;have h5:=ycae hg hc ha h4;obtain⟨hu,_⟩:=hg.adj_lt h4;obtain⟨j,e',_,h6,_⟩:=ygw hg hc ha hu;rw[e,e']at h5;rcases zBD k j with q|q
   ·exact absurd h3 (h6 k q)
   ·rw[e,e'];omega
theorem ydj{l:Int×Int}(hg:ybe g)(hv:v<g.ports.length)(hl:l∈g.ports.getD v []):0<=l.1/\l.1.toNat<g.ports.length/\adj g v l.1.toNat/\1<=l.2/\l.2<=15:=by
 have e:g.ports[v]?=some (g.ports.getD v []):=by simp[zH,hv]
 have h:=hg.link e hl;exact⟨h.1,by omega,⟨_,e,l,hl,by omega⟩,h.2.2.2.1,h.2.2.2.2⟩
theorem yhr{u:Nat}(h:adj g v u):∃l∈g.ports.getD v [],l.1.toNat=u:=by
 obtain⟨l,hl,e⟩:=yij.1 h;exact⟨l,hl,by rw[e];simp⟩
end
section
variable {nm nd np nt nl:ByteArray}{g:Gr}
end
end
section
def ydn(g:Gr):Bool:=yfy g&&decide (ygt g/2+1=g.ports.length)
theorem ybyd{α:Type}[DecidableEq α]:∀{l1 l2:List α},l1.Nodup->(∀x∈l1,x∈l2)->l2.length<=l1.length->∀x∈l2,x∈l1
 | [],l2,_,_,h,x,hx=>by
   have:l2=[]:=List.eq_nil_of_length_eq_zero (by simpa using h)
   rw[this]at hx;exact absurd hx List.not_mem_nil
 | a :: t,l2,hn,hs,h,x,hx=>by
   have hn:=List.nodup_cons.1 hn
   by_cases q:x=a
   ·rw[q];exact zV
   ·refine zQ _ (ybyd (l2:=l2.erase a) hn.2 (fun y hy=>?_) ?_ x ((zAN q).2 hx))
    ·refine(zAN fun e=>hn.1 (by rw[<-e];exact hy)).2 (hs y (zQ _ hy))
    ·rw[zAK (hs a zV)];simp only[zAT]at h;omega
structure TreeM(g:Gr):Prop where
 up:∀a v u,a<g.ports.length->adj g v u->(ybx g a).getD u 0=(ybx g a).getD v 0-1\/(ybx g a).getD u 0=(ybx g a).getD v 0+1
 one:∀a v u w,a<g.ports.length->adj g v u->adj g v w->(ybx g a).getD u 0=(ybx g a).getD v 0-1->(ybx g a).getD w 0=(ybx g a).getD v 0-1->u=w
theorem ydil{g:Gr}(hg:ybe g)(hc:yfy g=true)(ht:ygt g<=2*(g.ports.length-1)):TreeM g:=by
 have key:∀a,a<g.ports.length->∃up:Nat->Nat,∀v u,adj g v u->(v≠a/\u=up v/\(ybx g a).getD u 0=(ybx g a).getD v 0-1)\/(ybx g a).getD u 0=(ybx g a).getD v 0+1:=fun a ha=>by
  have ex:∀v,v<g.ports.length->v≠a->∃u,adj g v u/\(ybx g a).getD u 0=(ybx g a).getD v 0-1:=fun v hv hne=>ybbq hg hc ha hv hne
  obtain⟨up,hup⟩:∃up:Nat->Nat,∀v,v<g.ports.length->v≠a->adj g v (up v)/\(ybx g a).getD (up v) 0=(ybx g a).getD v 0-1:=by
   refine⟨fun v=>if h:v<g.ports.length/\v≠a then zBH (ex v h.1 h.2)else 0,fun v hv hne=>?_⟩
   simp only[dif_pos (show v<g.ports.length/\v≠a from⟨hv,hne⟩)]
   exact zBF (ex v hv hne)
  let U:List (Nat×Nat):=((zL g.ports.length).erase a).map fun v=>(v,up v)
  let P:List (Nat×Nat):=(zL g.ports.length).flatMap fun v=>(g.ports.getD v []).map fun l=>(v,l.1.toNat)
  have hnd:((zL g.ports.length).erase a).Nodup:=List.nodup_range.erase a
  have mU:∀x y,(x,y)∈U↔x<g.ports.length/\x≠a/\y=up x:=fun x y=>by
   show(x,y)∈((zL g.ports.length).erase a).map (fun v=>(v,up v))↔_;rw[List.mem_map];constructor
   ·rintro⟨v,hv,e⟩;cases e
    have hv:=(List.nodup_range.mem_erase_iff).1 hv;exact⟨List.mem_range.1 hv.2,hv.1,rfl⟩
   ·rintro⟨h1,h2,rfl⟩;exact⟨x,(List.nodup_range.mem_erase_iff).2 ⟨h2,List.mem_range.2 h1⟩,rfl⟩
  have mP:∀x y,(x,y)∈P↔x<g.ports.length/\adj g x y:=fun x y=>by
   show(x,y)∈zBE _ _↔_;rw[List.mem_flatMap];constructor
   ·rintro⟨v,hv,h⟩;obtain⟨l,hl,e⟩:=List.mem_map.1 h;cases e
    have hv:=List.mem_range.1 hv;exact⟨hv,(ydj hg hv hl).2.2.1⟩
   ·rintro⟨h1,h2⟩;obtain⟨l,hl,e⟩:=yhr h2;exact⟨x,List.mem_range.2 h1,List.mem_map.2 ⟨l,hl,by rw[e]⟩⟩
  have dU:∀x y,(x,y)∈U->(ybx g a).getD y 0=(ybx g a).getD x 0-1:=fun x y h=>by
   obtain⟨h1,h2,rfl⟩:=(mU x y).1 h;exact(hup x h1 h2).2
  have nU:U.Nodup:=by
   show(((zL g.ports.length).erase a).map (fun v=>(v,up v))).Nodup;rw[List.Nodup,zAR];exact hnd.imp fun h e=>h (congrArg Prod.fst e)
  have nD:(U.map fun p=>(p.2,p.1)).Nodup:=by
   rw[List.Nodup,zAR];exact nU.imp fun h e=>h (by simp only[Prod.mk.injEq]at e;exact Prod.ext e.2 e.1)
  have nUD:(U++U.map fun p=>(p.2,p.1)).Nodup:=by
   rw[zAQ];refine⟨nU,nD,?_⟩;rintro⟨x,y⟩ h1 ⟨x',y'⟩ h2 e;cases e
   obtain⟨⟨p,q⟩,h3,e⟩:=List.mem_map.1 h2;cases e
   have a1:=dU _ _ h1;have a2:=dU _ _ h3;simp only at a1 a2;omega
  have lU:U.length=g.ports.length-1:=by
   show(List.map _ _).length=_;rw[zO,zAK (List.mem_range.2 ha),List.length_range]
  have lP:P.length=ygt g:=by
   show(zBE _ _).length=_;rw[List.length_flatMap];unfold ygt;congr 1;refine zAU (by simp) fun i h1 h2=>?_
   have hi:i<g.ports.length:=by simpa using h2
   simp[zH,hi]
  have hall:=ybyd nUD (l2:=P) (fun p hp=>by
   obtain⟨x,y⟩:=p;rcases List.mem_append.1 hp with h|h
   ·obtain⟨h1,h2,rfl⟩:=(mU x y).1 h;exact(mP _ _).2 ⟨h1,(hup x h1 h2).1⟩
   ·obtain⟨⟨p,q⟩,h3,e⟩:=List.mem_map.1 h;cases e
    obtain⟨h1,h2,e⟩:=(mU _ _).1 h3;simp only at e ⊢;subst e;have h4:=(hup p h1 h2).1;exact(mP _ _).2 ⟨(hg.adj_lt h4).2,hg.adj_symm h4⟩) (by have lD:(U.map fun p=>(p.2,p.1)).length=U.length:=zO _;rw[zG,lD,lU,lP];omega)
  refine⟨up,fun v u h=>?_⟩;have h1:=hall (v,u) ((mP v u).2 ⟨(hg.adj_lt h).1,h⟩);rcases List.mem_append.1 h1 with h|h
  ·left
   obtain⟨_,h2,h3⟩:=(mU v u).1 h;exact⟨h2,h3,dU _ _ h⟩
  ·right
   obtain⟨⟨p,q⟩,h3,e⟩:=List.mem_map.1 h;cases e
   have:=dU _ _ h3;simp only at this ⊢;omega
 constructor
 ·intro a v u ha h;obtain⟨up,hup⟩:=key a ha;rcases hup v u h with⟨_,_,h3⟩|h3
  ·exact .inl h3
  ·exact .inr h3
 ·intro a v u w ha h1 h2 e1 e2;obtain⟨up,hup⟩:=key a ha;rcases hup v u h1 with⟨_,h3,_⟩|h3
  ·rcases hup v w h2 with⟨_,h4,_⟩|h4
   ·rw[h3,h4]
   ·omega
  ·omega
end
end Go.Proofs.YtiejahgklcjhkaaGreatDoor
