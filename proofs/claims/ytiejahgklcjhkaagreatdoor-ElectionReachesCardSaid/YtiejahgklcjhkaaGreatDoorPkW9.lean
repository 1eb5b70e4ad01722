/- Joined. -/
import Derived.Test.YtiejahgklcjhkaaGreatDoorPkW8
set_option linter.unusedSimpArgs false
set_option linter.unusedVariables false
set_option maxRecDepth 8000
open Nat renaming reduceEqDiff->zA,reduceAdd->zB,reduceLeDiff->zC,reduceLT->zD,reduceBEq->zF,zero_mul->zN,sub_self->zU,le_refl->zAA,pow_le_pow_right->zAC,and_two_pow_sub_one_of_lt_two_pow->zAH,zero_le->zAK,lt_of_lt_of_le->zAS,lt_succ_self->zBB,not_lt_zero->zBH,testBit_lt_two_pow->zBI,lt_of_lt_of_eq->zBO,testBit_and->zBU,reduceMul->zCB,lt_or_ge->zCF,le_succ->zCI,mod_lt->zCK
open List renaming range->zG,getElem?_eq_getElem->zH,length_append->zK,getD->zL,mem_cons_of_mem->zM,length_map->zQ,getElem_mem->zV,take_succ_eq_append_getElem->zX,mem_cons_self->zY,getElem?_take_of_lt->zZ,getElem?_map->zAB,map_cons->zAD,getD_eq_getElem?_getD->zAE,getD_cons_zero->zAF,getElem?_append_left->zAG,getElem?_set_self->zAJ,getElem_map->zAL,filter_cons->zAM,getElem?_eq_none->zAN,getElem?_set_ne->zAO,foldl_cons->zAQ,getElem_of_mem->zAR,foldl_append->zAU,take_length->zAX,length_cons->zAY,not_mem_nil->zAZ,length_erase_of_mem->zBA,any_eq_true->zBC,getElem?_cons_zero->zBE,map_append->zBF,range_succ->zBG,range_succ_eq_map->zBJ,length_singleton->zBK,mem_erase_of_ne->zBL,nodup_append->zBP,pairwise_map->zBQ,ext_getElem->zBR,countP_cons->zBS,all_eq_true->zBT,any_append->zBV,countP_nil->zBW,replicate->zCA,map_map->zCE,flatMap->zCG,length->zCH
open Bool renaming and_eq_true->zI,or_self->zBM,false_eq_true->zBN,eq_iff_iff->zBY,true_and->zCD
open Go.Proofs.Tryz renaming prog->zJ
open Int renaming le_refl->zO,lt_or_le->zT,natCast_zero->zW,emod_lt_of_pos->zAI,emod_nonneg->zAP,reduceBNe->zAT,toNat_natCast->zAV,le_trans->zBD,le_antisymm->zBX,ofNat_tmod->zBZ,reduceBEq->zCC
open Classical renaming byContradiction->zS,choose_spec->zCJ,choose->zCL
open BitVec renaming ofInt->zAW
open Go
namespace Go.Proofs.YtiejahgklcjhkaaGreatDoor
section
namespace Sh
open Go Ev
def ydnj:LO:=[o3 (.mv (ci' 0)) 4 0]
def ydpa:LO:=[mv' 1 5 0,o3 (.bin .lss (.tmp 5) (ci' 1)) 6 1]
def ydkf:LO:=[o3 (.mv (ci' 0)) 4 0]
def ydsl:LO:=[mv' 0 7 0,mv' 1 8 0,bn' .rem 7 8 9 3,mv' 9 0 7]
def ydks:LO:=[mv' 0 10 0,o3 (.bin .lss (.tmp 10) (ci' 0)) 11 1]
def ydoz:LO:=[mv' 0 12 0,mv' 1 13 0,bn' .add 12 13 14 3,mv' 14 0 7]
def ydoq:LO:=[mv' 0 15 0,mv' 15 4 1]
def c39:SC:=(.seq (.reg false ydnj) (.seq (.seq (.reg false ydpa) (.cond (.tmp 6) (.seq (.reg false ydkf) .ret) .skip)) (.seq (.reg false ydsl) (.seq (.seq (.reg false ydks) (.cond (.tmp 11) (.reg false ydoz) .skip)) (.seq (.reg false ydoq) .ret)))))
theorem ydlx:Fn 39 c39 [.t 4]:=fn_0 Tryz.func39 (by kernel_rfl) (by kernel_rfl)
def ydqb:LO:=[o3 (.mv (ci' 0)) 4 0]
def ydkd:LO:=[mv' 1 5 0,mv' 0 6 0,ln' 6 7 2,bn' .lss 5 7 8 7]
def ydpx:LO:=[mv' 0 9 0,mv' 1 10 0,ix' 1 9 10 11 3,ld' false 1 11 12 7,mv' 12 4 15]
def ydql:LO:=[o3 (.mv (ci' 0)) 4 0]
def c77:SC:=(.seq (.reg false ydqb) (.seq (.seq (.reg false ydkd) (.cond (.tmp 8) (.seq (.reg false ydpx) .ret) .skip)) (.seq (.reg false ydql) .ret)))
theorem ydna:Fn 77 c77 [.t 4]:=fn_0 Tryz.func77 (by kernel_rfl) (by kernel_rfl)
def ycoo:LO:=[o3 (.box 27 (.tmp 0)) 3 0,o3 (.mv (.const (.bool false))) 6 0]
def ycrj:LO:=[o3 (.mv (ci' 0)) 7 0]
def ydac:LO:=[mv' 7 8 0,fa' 1 1 3 9 0,ld' false 1 9 10 2,mv' 1 11 0,ix' 1 10 11 12 14,ld' false 1 12 13 30,ln' 13 14 62,bn' .lss 8 14 15 127]
def ycjf:LO:=[fa' 1 1 3 18 0,ld' false 1 18 19 1,mv' 1 20 0,ix' 1 19 20 21 7,ld' false 1 21 22 15,mv' 7 23 0,ix' 2 22 23 24 63,fa' 0 1 24 25 127,ld' false 1 25 26 255,mv' 2 27 0,bn' .eql 26 27 28 1023]
def ydab:LO:=[o3 (.mv (.const (.bool true))) 6 0]
def ycuv:LO:=[mv' 7 16 0,o3 (.bin .add (.tmp 16) (ci' 1)) 17 1,mv' 17 7 3]
def yczl:LO:=[o3 (.mv (.const (.bool false))) 6 0]
def c128:SC:=(.seq (.reg false ycoo) (.seq (.seq (.reg false ycrj) (.block 0 (.loop (.seq (.seq (.reg false ydac) (.cond (.tmp 15) .skip (.exit 0))) (.seq (.block 1 (.seq (.reg false ycjf) (.cond (.tmp 28) (.seq (.reg false ydab) .ret) .skip))) (.reg false ycuv)))))) (.seq (.reg false yczl) .ret)))
theorem yddl:Fn 128 c128 [.t 6]:=fn_0 Tryz.func128 (by kernel_rfl) (by kernel_rfl)
def yddf:LO:=[o3 (.box 24 (.tmp 0)) 5 0,o3 (.box 27 (.tmp 1)) 6 0]
def yday:LO:=[mv' 2 12 0,mv' 3 13 0,bn' .eql 12 13 14 3,mv' 14 15 7,⟨.load true 2 (.tmp 6),some 16,some (15,false),15⟩,⟨.mv (.tmp 2),some 17,some (15,false),15⟩,⟨.mv (.tmp 3),some 18,some (15,false),15⟩,⟨.call (.func 128) [(.tmp 16),(.tmp 17),(.tmp 18)],some 19,some (15,false),127⟩,o3 (.pick (.tmp 15) (.const (.bool true)) (.tmp 19)) 20 255]
def ybpl:LO:=[mv' 3 21 0,mv' 4 22 0,o3 (.build [.i .i64 0,.i .i64 0] [(0,1,(.tmp 21)),(1,1,(.tmp 22))]) 23 3,mv' 2 24 0,mv' 4 25 0,o3 (.build [.i .i64 0,.i .i64 0] [(0,1,(.tmp 24)),(1,1,(.tmp 25))]) 26 24,o3 (.alloc 95 1 [.i .i64 0,.i .i64 0]) 10 0,o3 (.alloc 95 1 [.i .i64 0,.i .i64 0]) 11 0,o0 (.store 2 (.tmp 10) (.tmp 23)) 199,o0 (.store 2 (.tmp 11) (.tmp 26)) 511]
def ybnu:LO:=[fa' 5 1 5 27 0,ld' false 1 27 28 1]
def ycbz:LO:=[fa' 1 1 6 29 0,ld' false 1 29 30 1,mv' 2 31 0,ld' true 2 10 32 0,o3 (.bslice 95 2 1 [.i .i64 0,.i .i64 0] [(0,2,(.tmp 32))]) 33 8,fa' 1 1 6 34 0,ld' false 1 34 35 32,mv' 2 36 0,ix' 1 35 36 37 224,ld' false 1 37 38 480,o3 (.app 95 2 16 (.tmp 33) (.tmp 38)) 39 1016,ix' 1 30 31 40 2047,o0 (.store 1 (.tmp 40) (.tmp 39)) 4095]
def ybqv:LO:=[fa' 1 1 6 41 0,ld' false 1 41 42 1,mv' 3 43 0,ld' true 2 11 44 0,o3 (.bslice 95 2 1 [.i .i64 0,.i .i64 0] [(0,2,(.tmp 44))]) 45 8,fa' 1 1 6 46 0,ld' false 1 46 47 32,mv' 3 48 0,ix' 1 47 48 49 224,ld' false 1 49 50 480,o3 (.app 95 2 16 (.tmp 45) (.tmp 50)) 51 1016,ix' 1 42 43 52 2047,o0 (.store 1 (.tmp 52) (.tmp 51)) 4095]
def ydrl:LO:=[fa' 1 1 6 53 0,ld' false 1 53 54 1,mv' 2 55 0,fa' 1 1 6 56 0,ld' false 1 56 57 8,mv' 3 58 0,fa' 1 1 6 59 0,ld' false 1 59 60 64,mv' 2 61 0,ix' 1 60 61 62 448,ld' false 1 62 63 960,ld' true 2 10 64 0,o3 (.bslice 95 2 1 [.i .i64 0,.i .i64 0] [(0,2,(.tmp 64))]) 65 2048,o3 (.app 95 2 16 (.tmp 63) (.tmp 65)) 66 8128,fa' 1 1 6 67 0,ld' false 1 67 68 16384,mv' 3 69 0,ix' 1 68 69 70 114688,ld' false 1 70 71 245760,ld' true 2 11 72 0,o3 (.bslice 95 2 1 [.i .i64 0,.i .i64 0] [(0,2,(.tmp 72))]) 73 524288,o3 (.app 95 2 16 (.tmp 71) (.tmp 73)) 74 2097088,ix' 1 54 55 75 4194247,o0 (.store 1 (.tmp 75) (.tmp 66)) 8388551,ix' 1 57 58 76 16777215,o0 (.store 1 (.tmp 76) (.tmp 74)) 33554431]
def c76:SC:=(.seq (.reg false yddf) (.seq (.seq (.reg false yday) (.cond (.tmp 20) .ret .skip)) (.seq (.reg false ybpl) (.seq (.seq (.reg false ybnu) (.cond (.tmp 28) (.seq (.reg true ycbz) (.seq (.reg true ybqv) .ret)) .skip)) (.reg true ydrl)))))
theorem ydgq:FnM 76 c76 []:=fn_m Tryz.func76 (by kernel_rfl) (by kernel_rfl)
def ydnw:LO:=[o3 (.box 24 (.tmp 0)) 2 0,o3 (.alloc 27 1 [.a (.slice none 0 0),.a (.slice none 0 0)]) 4 0]
def ydpv:LO:=[fa' 0 1 2 10 0,ld' false 1 10 11 1,o3 (.wsub (.tmp 11) (ci' 1)) 12 3,mv' 1 13 0,cl' 39 [12,13] 14 15,o3 (.bin .add (ci' 1) (.tmp 14)) 15 31,mv' 15 5 63]
def ydoe:LO:=[mv' 5 16 0,o3 (.mk 71 1 24 [.a (.slice none 0 0)] (.tmp 16) (.tmp 16)) 17 1,o3 (.build [.a (.slice none 0 0),.a (.slice none 0 0)] [(1,1,(.tmp 17))]) 18 3,o3 (.alloc 27 1 [.a (.slice none 0 0),.a (.slice none 0 0)]) 6 0,o0 (.store 2 (.tmp 6) (.tmp 18)) 15]
def ydnk:LO:=[o3 (.mv (ci' 0)) 7 0]
def ydnl:LO:=[mv' 7 19 0,mv' 5 20 0,bn' .lss 19 20 21 3]
def ydmp:LO:=[fa' 3 1 2 24 0,ld' false 1 24 25 1,mv' 7 26 0,cl' 77 [25,26] 27 7,o3 (.call (.func 39) [(.tmp 27),(ci' 256)]) 28 15,mv' 28 8 31]
def ydlp:LO:=[o3 (.mv (ci' 0)) 9 0]
def ydjm:LO:=[mv' 9 29 0,mv' 7 30 0,bn' .lss 29 30 31 3]
def ycqe:LO:=[fa' 0 1 6 34 0,ld' false 1 34 35 1,mv' 9 36 0,ix' 1 35 36 37 7,ld' false 1 37 38 15,mv' 8 39 0,bn' .eql 38 39 40 63]
def yczf:LO:=[mv' 8 41 0,o3 (.bin .add (.tmp 41) (ci' 1)) 42 1,o3 (.bin .rem (.tmp 42) (ci' 256)) 43 3,mv' 43 8 7,o3 (.mv (.const (.int .i64 (-1)))) 9 15]
def ydry:LO:=[mv' 9 32 0,o3 (.bin .add (.tmp 32) (ci' 1)) 33 1,mv' 33 9 3]
def ycxh:LO:=[fa' 0 1 6 44 0,ld' false 1 44 45 1,mv' 8 46 0,o3 (.bslice 3 1 1 [.i .i64 0] [(0,1,(.tmp 46))]) 47 4,o3 (.app 3 1 8 (.tmp 45) (.tmp 47)) 48 15,fa' 0 1 6 49 31,o0 (.store 1 (.tmp 49) (.tmp 48)) 63]
def ydqa:LO:=[mv' 7 22 0,o3 (.bin .add (.tmp 22) (ci' 1)) 23 1,mv' 23 7 3]
def yckh:LO:=[ld' true 2 6 50 0,o0 (.store 2 (.tmp 4) (.tmp 50)) 1]
def c75:SC:=(.seq (.reg false ydnw) (.seq (.reg false ydpv) (.seq (.reg false ydoe) (.seq (.seq (.reg false ydnk) (.block 0 (.loop (.seq (.seq (.reg false ydnl) (.cond (.tmp 21) .skip (.exit 0))) (.seq (.block 1 (.seq (.reg false ydmp) (.seq (.seq (.reg false ydlp) (.block 2 (.loop (.seq (.seq (.reg false ydjm) (.cond (.tmp 31) .skip (.exit 2))) (.seq (.block 3 (.seq (.reg false ycqe) (.cond (.tmp 40) (.reg false yczf) .skip))) (.reg false ydry)))))) (.reg false ycxh)))) (.reg false ydqa)))))) (.seq (.reg false yckh) .ret)))))
theorem ydbu:FnM 75 c75 [.c 4 true 2]:=fn_m Tryz.func75 (by kernel_rfl) (by kernel_rfl)
def ydju:LO:=[o3 (.box 24 (.tmp 0)) 2 0,o3 (.alloc 27 1 [.a (.slice none 0 0),.a (.slice none 0 0)]) 4 0]
def ydqf:LO:=[ld' true 6 2 7 0,mv' 1 8 0,cl' 75 [7,8] 9 3,o3 (.alloc 27 1 [.a (.slice none 0 0),.a (.slice none 0 0)]) 5 0,o0 (.store 2 (.tmp 5) (.tmp 9)) 15]
def ydkj:LO:=[o3 (.mv (ci' 1)) 6 0]
def ydhw:LO:=[mv' 6 10 0,fa' 1 1 5 11 0,ld' false 1 11 12 2,ln' 12 13 6,bn' .lss 10 13 14 15]
def ydkq:LO:=[ld' true 6 2 17 0,ld' true 2 5 18 0,fa' 1 1 2 19 0,ld' false 1 19 20 4,mv' 6 21 0,o3 (.bin .sub (.tmp 21) (ci' 1)) 22 16,cl' 77 [20,22] 23 60,mv' 6 24 0,cl' 39 [23,24] 25 252,mv' 6 26 0,fa' 2 1 2 27 0,ld' false 1 27 28 1024,mv' 6 29 0,o3 (.bin .sub (.tmp 29) (ci' 1)) 30 4096,cl' 77 [28,30] 31 15868,o3 (.call (.func 39) [(.tmp 31),(ci' 15)]) 32 32252,o3 (.bin .add (ci' 1) (.tmp 32)) 33 65020,cl' 76 [17,18,25,26,33] 34 131071]
def ydlu:LO:=[mv' 6 15 0,o3 (.bin .add (.tmp 15) (ci' 1)) 16 1,mv' 16 6 3]
def ydpp:LO:=[ld' true 2 5 35 0,o0 (.store 2 (.tmp 4) (.tmp 35)) 1]
def c21:SC:=(.seq (.reg false ydju) (.seq (.reg false ydqf) (.seq (.seq (.reg false ydkj) (.block 0 (.loop (.seq (.seq (.reg false ydhw) (.cond (.tmp 14) .skip (.exit 0))) (.seq (.block 1 (.reg true ydkq)) (.reg false ydlu)))))) (.seq (.reg false ydpp) .ret))))
theorem ydft:FnM 21 c21 [.c 4 true 2]:=fn_m Tryz.func21 (by kernel_rfl) (by kernel_rfl)
def ydnv:LO:=[o3 (.box 27 (.tmp 0)) 3 0,o3 (.mv (.const (.slice none 0 0))) 6 0]
def ydlg:LO:=[fa' 1 1 3 16 0,ld' false 1 16 17 1,ln' 17 18 3,mv' 18 7 7,o3 (.mv (ci' 0)) 8 15]
def ydrx:LO:=[o3 (.mv (ci' 0)) 9 0]
def ydqh:LO:=[mv' 9 19 0,mv' 7 20 0,bn' .lss 19 20 21 3]
def ydls:LO:=[mv' 8 24 0,fa' 0 1 3 25 0,ld' false 1 25 26 2,mv' 9 27 0,ix' 1 26 27 28 14,ld' false 1 28 29 30,o3 (.mm true (.tmp 24) (.tmp 29)) 30 63,mv' 30 8 127]
def ydns:LO:=[mv' 9 22 0,o3 (.bin .add (.tmp 22) (ci' 1)) 23 1,mv' 23 9 3]
def ydoa:LO:=[o3 (.mv (.const (.slice none 0 0))) 10 0]
def ydpg:LO:=[o3 (.mv (ci' 0)) 11 0]
def ydkv:LO:=[mv' 11 31 0,mv' 7 32 0,bn' .lss 31 32 33 3]
def yczi:LO:=[o3 (.mv (.const (.slice none 0 0))) 12 0]
def ycjt:LO:=[o3 (.mv (ci' 0)) 13 0]
def ydak:LO:=[mv' 13 36 0,mv' 1 37 0,ln' 37 38 2,bn' .lss 36 38 39 7]
def yckm:LO:=[mv' 1 42 0,mv' 13 43 0,ix' 6 42 43 44 3,fa' 2 1 44 45 7,ld' false 1 45 46 15,mv' 1 47 0,mv' 13 48 0,ix' 6 47 48 49 96,fa' 3 1 49 50 224,ld' false 1 50 51 480,mv' 1 52 0,mv' 13 53 0,ix' 6 52 53 54 3072,fa' 4 1 54 55 7168,ld' false 1 55 56 15360,mv' 7 57 0,bn' .mul 56 57 58 64512,bn' .add 51 58 59 131040,mv' 1 60 0,mv' 13 61 0,ix' 6 60 61 62 786432,fa' 5 1 62 63 1835008,ld' false 1 63 64 3932160,mv' 8 65 0,bn' .mul 64 65 66 16515072,bn' .add 59 66 67 33554400,mv' 46 14 31,mv' 67 15 134217727]
def yczd:LO:=[mv' 1 68 0,mv' 13 69 0,ix' 6 68 69 70 3,fa' 1 1 70 71 7,ld' false 1 71 72 15]
def ybmd:LO:=[o3 (.bin .eql (.tmp 72) (ci' 2)) 74 0,mv' 74 73 1]
def ybmf:LO:=[o3 (.mv (ci' 0)) 14 0,o3 (.mv (ci' 1)) 15 1]
def ybkr:LO:=[o3 (.bin .eql (.tmp 72) (ci' 3)) 76 0,mv' 76 75 1]
def yblh:LO:=[fa' 1 1 3 77 0,ld' false 1 77 78 1,mv' 11 79 0,ix' 1 78 79 80 7,ld' false 1 80 81 15,ln' 81 82 31,o3 (.bin .sub (.tmp 82) (ci' 1)) 83 63,o3 (.mv (.const (.int .i64 (-1)))) 14 0,mv' 83 15 255]
def yblf:LO:=[mv' 12 84 0,mv' 14 85 0,mv' 2 86 0,mv' 11 87 0,mv' 1 88 0,ln' 88 89 16,bn' .mul 87 89 90 56,mv' 13 91 0,bn' .add 90 91 92 248,cl' 77 [86,92] 93 508,mv' 15 94 0,mv' 14 95 0,bn' .sub 94 95 96 3072,o3 (.bin .add (.tmp 96) (ci' 1)) 97 7168,cl' 39 [93,97] 98 16380,bn' .add 85 98 99 32766,o3 (.bslice 3 1 1 [.i .i64 0] [(0,1,(.tmp 99))]) 100 65534,o3 (.app 3 1 8 (.tmp 84) (.tmp 100)) 101 131071,mv' 101 12 262143]
def ybkt:LO:=[mv' 13 40 0,o3 (.bin .add (.tmp 40) (ci' 1)) 41 1,mv' 41 13 3]
def ycte:LO:=[mv' 10 102 0,mv' 12 103 0,o3 (.bslice 22 1 1 [.a (.slice none 0 0)] [(0,1,(.tmp 103))]) 104 2,o3 (.app 22 1 24 (.tmp 102) (.tmp 104)) 105 7,mv' 105 10 15]
def ydpc:LO:=[mv' 11 34 0,o3 (.bin .add (.tmp 34) (ci' 1)) 35 1,mv' 35 11 3]
def ycjv:LO:=[mv' 10 106 0,mv' 106 6 1]
def c24:SC:=(.seq (.reg false ydnv) (.seq (.reg false ydlg) (.seq (.seq (.reg false ydrx) (.block 0 (.loop (.seq (.seq (.reg false ydqh) (.cond (.tmp 21) .skip (.exit 0))) (.seq (.block 1 (.reg false ydls)) (.reg false ydns)))))) (.seq (.reg false ydoa) (.seq (.seq (.reg false ydpg) (.block 2 (.loop (.seq (.seq (.reg false ydkv) (.cond (.tmp 33) .skip (.exit 2))) (.seq (.block 3 (.seq (.reg false yczi) (.seq (.seq (.reg false ycjt) (.block 4 (.loop (.seq (.seq (.reg false ydak) (.cond (.tmp 39) .skip (.exit 4))) (.seq (.block 5 (.seq (.reg true yckm) (.seq (.seq (.reg false yczd) (.block 6 (.seq (.reg false ybmd) (.cond (.tmp 73) (.reg false ybmf) (.seq (.reg false ybkr) (.cond (.tmp 75) (.reg true yblh) .skip)))))) (.reg false yblf)))) (.reg false ybkt)))))) (.reg false ycte)))) (.reg false ydpc)))))) (.seq (.reg false ycjv) .ret))))))
theorem ydli:Fn 24 c24 [.t 6]:=fn_0 Tryz.func24 (by kernel_rfl) (by kernel_rfl)
def ydol:LO:=[o3 (.mv (.const (.slice none 0 0))) 4 0]
def ydkl:LO:=[o3 (.mv (.const (.slice none 0 0))) 5 0]
def ydqm:LO:=[o3 (.mv (ci' 0)) 6 0]
def ydjz:LO:=[mv' 6 9 0,mv' 1 10 0,bn' .lss 9 10 11 3]
def ydrh:LO:=[mv' 0 14 0,ln' 14 15 1,o3 (.bin .eql (.tmp 15) (ci' 0)) 16 3]
def ydiz:LO:=[mv' 5 17 0,o3 (.bslice 40 1 1 [.i .u32 0] [(0,1,(.const (.int .u32 4294967295)))]) 18 0,o3 (.app 40 1 4 (.tmp 17) (.tmp 18)) 19 3,mv' 19 5 7]
def ydjv:LO:=[mv' 0 20 0,mv' 6 21 0,mv' 0 22 0,ln' 22 23 4,bn' .rem 21 23 24 14,ix' 1 20 24 25 31,ld' false 1 25 26 63,mv' 6 27 0,mv' 0 28 0,ln' 28 29 256,bn' .quo 27 29 30 896,o3 (.bin .rem (.tmp 30) (ci' 24)) 31 1920,o3 (.conv .u64 (.tmp 31)) 32 3968,mv' 26 7 127,mv' 32 8 16383]
def ydll:LO:=[mv' 7 33 0,o3 (.bin .and (.tmp 33) (.const (.int .u32 16777215))) 34 1,mv' 34 7 3]
def ydle:LO:=[mv' 5 35 0,mv' 7 36 0,mv' 8 37 0,bn' .shl 36 37 38 6,mv' 7 39 0,mv' 8 40 0,o3 (.bin .sub (.const (.int .u64 24)) (.tmp 40)) 41 32,bn' .shr 39 41 42 112,bn' .or 38 42 43 254,o3 (.bin .and (.tmp 43) (.const (.int .u32 16777215))) 44 510,o3 (.bslice 40 1 1 [.i .u32 0] [(0,1,(.tmp 44))]) 45 1022,o3 (.app 40 1 4 (.tmp 35) (.tmp 45)) 46 2047,mv' 46 5 4095]
def ydgp:LO:=[mv' 6 12 0,o3 (.bin .add (.tmp 12) (ci' 1)) 13 1,mv' 13 6 3]
def ycji:LO:=[mv' 5 47 0,mv' 47 4 1]
def c26:SC:=(.seq (.reg false ydol) (.seq (.reg false ydkl) (.seq (.seq (.reg false ydqm) (.block 0 (.loop (.seq (.seq (.reg false ydjz) (.cond (.tmp 11) .skip (.exit 0))) (.seq (.block 1 (.seq (.seq (.reg false ydrh) (.cond (.tmp 16) (.seq (.reg false ydiz) (.exit 1)) .skip)) (.seq (.reg true ydjv) (.seq (.reg false ydll) (.reg false ydle))))) (.reg false ydgp)))))) (.seq (.reg false ycji) .ret))))
theorem ydnz:Fn 26 c26 [.t 4]:=fn_0 Tryz.func26 (by kernel_rfl) (by kernel_rfl)
def ydrq:LO:=[o3 (.box 27 (.tmp 1)) 6 0,o3 (.mv (.const (.slice none 0 0))) 10 0,o3 (.mv (.const (.slice none 0 0))) 11 2,o3 (.mv (.const (.bool false))) 12 6]
def ydoy:LO:=[mv' 0 17 0,cl' 37 [17] 18 1,ld' true 2 6 19 0,mv' 2 20 0,mv' 3 21 0,mv' 4 22 0,cl' 78 [18,19,20,21,22] 23 63,mv' 23 16 127,xt' 16 0 24 255,xt' 16 1 25 255,xt' 16 2 26 255,mv' 24 13 511,mv' 25 14 3071,mv' 26 15 8191]
def ydoi:LO:=[mv' 13 27 0,mv' 14 28 0,mv' 15 29 0,o3 (.bin .eql (.tmp 29) (ci' 0)) 30 4,mv' 30 31 12,⟨.mv (.tmp 13),some 32,some (31,true),28⟩,⟨.len (.tmp 32),some 33,some (31,true),60⟩,⟨.mv (.tmp 14),some 34,some (31,true),28⟩,⟨.len (.tmp 34),some 35,some (31,true),156⟩,⟨.bin .eql (.tmp 33) (.tmp 35),some 36,some (31,true),508⟩,o3 (.pick (.tmp 31) (.tmp 36) (.const (.bool false))) 37 1020,mv' 37 38 2044,⟨.mv (.tmp 13),some 39,some (38,true),4092⟩,⟨.len (.tmp 39),some 40,some (38,true),8188⟩,⟨.bin .gtr (.tmp 40) (ci' 0),some 41,some (38,true),16380⟩,o3 (.pick (.tmp 38) (.tmp 41) (.const (.bool false))) 42 32764,mv' 27 10 4093,mv' 28 11 69631,mv' 42 12 262143]
def c22:SC:=(.seq (.reg false ydrq) (.seq (.reg true ydoy) (.seq (.reg false ydoi) .ret)))
theorem ydrg:Fn 22 c22 [.t 10,.t 11,.t 12]:=fn_0 Tryz.func22 (by kernel_rfl) (by kernel_rfl)
def ydjo:LO:=[o3 (.box 51 (.tmp 2)) 6 0,o3 (.mv (.const (.bool false))) 8 0]
def ydru:LO:=[mv' 0 11 0,ln' 11 12 1,mv' 1 13 0,ln' 13 14 4,bn' .neq 12 14 15 15,mv' 15 16 31,⟨.mv (.tmp 0),some 17,some (16,false),63⟩,⟨.len (.tmp 17),some 18,some (16,false),127⟩,⟨.bin .eql (.tmp 18) (ci' 0),some 19,some (16,false),255⟩,o3 (.pick (.tmp 16) (.const (.bool true)) (.tmp 19)) 20 511]
def ydji:LO:=[o3 (.mv (.const (.bool false))) 8 0]
def ydkw:LO:=[o3 (.mv (.const (.bool false))) 9 0]
def ydof:LO:=[o3 (.mv (ci' 0)) 10 0]
def ybot:LO:=[mv' 10 21 0,mv' 0 22 0,ln' 22 23 2,bn' .lss 21 23 24 7]
def ybxv:LO:=[mv' 9 27 0,mv' 27 28 1,⟨.mv (.tmp 0),some 29,some (28,true),3⟩,⟨.mv (.tmp 10),some 30,some (28,true),3⟩,⟨.idx 1 (.tmp 29) (.tmp 30),some 31,some (28,true),15⟩,⟨.load false 1 (.tmp 31),some 32,some (28,true),31⟩,⟨.un .not (.tmp 32),some 33,some (28,true),63⟩,o3 (.pick (.tmp 28) (.tmp 33) (.const (.bool false))) 34 127]
def ydsv:LO:=[o3 (.mv (.const (.bool false))) 8 0]
def ybwx:LO:=[mv' 9 35 0,mv' 35 36 1,⟨.mv (.tmp 0),some 37,some (36,false),3⟩,⟨.mv (.tmp 10),some 38,some (36,false),3⟩,⟨.idx 1 (.tmp 37) (.tmp 38),some 39,some (36,false),15⟩,⟨.load false 1 (.tmp 39),some 40,some (36,false),31⟩,o3 (.pick (.tmp 36) (.const (.bool true)) (.tmp 40)) 41 63,mv' 41 9 127]
def ybel:LO:=[mv' 9 42 0,o3 (.un .not (.tmp 42)) 43 1,mv' 43 44 3,⟨.mv (.tmp 1),some 45,some (44,true),7⟩,⟨.mv (.tmp 10),some 46,some (44,true),7⟩,⟨.idx 5 (.tmp 45) (.tmp 46),some 47,some (44,true),31⟩,⟨.faddr 3 1 (.tmp 47),some 48,some (44,true),63⟩,⟨.load false 1 (.tmp 48),some 49,some (44,true),127⟩,⟨.faddr 3 1 (.tmp 6),some 50,some (44,true),7⟩,⟨.load false 1 (.tmp 50),some 51,some (44,true),263⟩,⟨.bin .gtr (.tmp 49) (.tmp 51),some 52,some (44,true),1023⟩,⟨.mv (.tmp 52),some 53,some (44,true),2047⟩,⟨.faddr 4 1 (.tmp 6),some 54,some (53,false),4095⟩,⟨.load false 1 (.tmp 54),some 55,some (53,false),8191⟩,⟨.bin .geq (.tmp 55) (ci' 0),some 56,some (53,false),16383⟩,⟨.mv (.tmp 56),some 57,some (53,false),32767⟩,⟨.mv (.tmp 1),some 58,some (57,true),65535⟩,⟨.mv (.tmp 10),some 59,some (57,true),65535⟩,⟨.idx 5 (.tmp 58) (.tmp 59),some 60,some (57,true),262143⟩,⟨.faddr 1 1 (.tmp 60),some 61,some (57,true),524287⟩,⟨.load false 1 (.tmp 61),some 62,some (57,true),1048575⟩,⟨.faddr 4 1 (.tmp 6),some 63,some (57,true),65535⟩,⟨.load false 1 (.tmp 63),some 64,some (57,true),2162687⟩,⟨.bin .gtr (.tmp 62) (.tmp 64),some 65,some (57,true),8388607⟩,⟨.pick (.tmp 57) (.tmp 65) (.const (.bool false)),some 66,some (53,false),16777215⟩,⟨.pick (.tmp 53) (.const (.bool true)) (.tmp 66),some 67,some (44,true),33554431⟩,o3 (.pick (.tmp 44) (.tmp 67) (.const (.bool false))) 68 67108863]
def ydpq:LO:=[o3 (.mv (.const (.bool false))) 8 0]
def yzi:LO:=[mv' 10 25 0,o3 (.bin .add (.tmp 25) (ci' 1)) 26 1,mv' 26 10 3]
def yctm:LO:=[mv' 9 69 0,mv' 69 70 1,⟨.mv (.tmp 3),some 71,some (70,false),3⟩,⟨.un .not (.tmp 71),some 72,some (70,false),7⟩,o3 (.pick (.tmp 70) (.const (.bool true)) (.tmp 72)) 73 15,mv' 73 8 31]
def c38:SC:=(.seq (.reg false ydjo) (.seq (.seq (.reg false ydru) (.cond (.tmp 20) (.seq (.reg false ydji) .ret) .skip)) (.seq (.reg false ydkw) (.seq (.seq (.reg false ydof) (.block 0 (.loop (.seq (.seq (.reg false ybot) (.cond (.tmp 24) .skip (.exit 0))) (.seq (.block 1 (.seq (.seq (.reg false ybxv) (.cond (.tmp 34) (.seq (.reg false ydsv) .ret) .skip)) (.seq (.reg false ybwx) (.seq (.reg true ybel) (.cond (.tmp 68) (.seq (.reg false ydpq) .ret) .skip))))) (.reg false yzi)))))) (.seq (.reg false yctm) .ret)))))
theorem ydmz:Fn 38 c38 [.t 8]:=fn_0 Tryz.func38 (by kernel_rfl) (by kernel_rfl)
end Sh
end
section
namespace Sh
open Ev Go.RowKit
instance:Inhabited Cnt:=⟨⟨0,0,0,0,0⟩⟩
def seeO(cs:List Conf)(ks:List Cnt):Own:=[(1,.one (some ⟨29,true,1,1,fun _=>[.os (2,0) 0 cs.length true]⟩)),(2,.one (some ⟨34,false,1,cs.length,fun i=>[ybm (cs.getD i [])]⟩)),
 (3,.one (some ⟨30,true,1,1,fun _=>[.os (4,0) 0 ks.length true]⟩)),(4,.one (some ⟨48,false,5,ks.length,fun i=>cntV (ks.getD i default)⟩))]
def ydhy:Own:=[(1,.one (some ⟨29,true,1,1,fun _=>[.a (.slice none 0 0)]⟩)),(3,.one (some ⟨30,true,1,1,fun _=>[.a (.slice none 0 0)]⟩))]
theorem ycea(cs:List Conf)(ks:List Cnt)(h1:0<cs.length/\cs.length<=5000)(h2:0<ks.length/\ks.length<=5000){c:Conf}(hc:∀s∈c,0<s.length/\s.length<=1000)(hl:c.length<=1000)(e:Nat)(k:Cnt) :
 Cm zJ 131 [(1,0),(3,0)] (seeO cs ks) [ybm c,.i .u32 e,.ag (cntV k),.pt (1,0) 0 0,.pt (3,0) 0 0] fun r o=>r = .tp []/\o=seeO (cs++[c]) (ks++[k]):=by
 refine ybly [(1,0),(3,0)] [] _ _ _ ?_;obtain⟨n,hn⟩:∃n,cs.length=n:=⟨_,rfl⟩;obtain⟨m,hm⟩:∃m,ks.length=m:=⟨_,rfl⟩;have hC:=ybas c hc hl;obtain⟨O2,hO2⟩:∃O,seeO (cs++[c]) (ks++[k])=O:=⟨_,rfl⟩;rw[hO2];simp only[c131,ybvx,ybrd,yccm,seeO,cntV,hn,hm,go_sem,zA,zB,zD,↓reduceIte,reduceCtorEq];refine hC.use ?_;simp only[ybg,clash,yhn,go_sem,zA,zB,zC,zD,↓reduceIte,reduceCtorEq];refine⟨by decide,⟨by omega,by omega⟩,by decide,by decide,⟨by omega,by omega⟩,.tp [],O2,?_,?_,rfl,rfl⟩
 .subst hO2;refine ydd [(2,fun i=>(12,i)),(4,fun i=>(16,i))] [] [] ?_;simp only[seeO,cntV,zK,hn,hm,allQ,live,yc,go_sem,zA,↓reduceIte,reduceCtorEq];have gl:∀{α:Type}(l:List α) (x d:α) (i:Nat),i<l.length->(l++[x]).getD i d=l.getD i d:=fun l x d i h=>by simp[zL,zAG h]
  have gr:∀{α:Type}(l:List α) (x d:α),(l++[x]).getD l.length d=x:=fun l x d=>by simp[zL]
  refine⟨fun i hi=>?_,fun i hi=>?_⟩
  .by_cases q:i<n
   .simp only[if_pos q,gl cs c [] i (by omega)]
    simp only[go_sem,live,yc,go_sem]
   .obtain rfl:i=n:=by omega
    simp only[if_neg q,zU,zN];have e:=gr cs c [];rw[hn]at e;simp only[e,live,yc,go_sem]
  .by_cases q:i<m
   .simp only[if_pos q,gl ks k default i (by omega)]
    simp only[go_sem,live,yc,go_sem,reduceCtorEq]
   .obtain rfl:i=m:=by omega
    simp only[if_neg q,zU,zN];have e:=gr ks k default;rw[hm]at e;simp only[e,live,yc,go_sem,reduceCtorEq]
 .subst hO2;simp only[seeO,cntV,ycz,yge,allQ,live,go_sem,zA,↓reduceIte]
theorem ybvg{c:Conf}(hc:∀s∈c,0<s.length/\s.length<=1000)(hl:c.length<=1000)(e:Nat)(k:Cnt) :
 Cm zJ 131 [(1,0),(3,0)] ydhy [ybm c,.i .u32 e,.ag (cntV k),.pt (1,0) 0 0,.pt (3,0) 0 0] fun r o=>r = .tp []/\o=seeO [c] [k]:=by
 refine ybly [(1,0),(3,0)] [] _ _ _ ?_;have hC:=ybas c hc hl;obtain⟨O2,hO2⟩:∃O,seeO [c] [k]=O:=⟨_,rfl⟩;rw[hO2];simp only[c131,ybvx,ybrd,yccm,ydhy,cntV,go_sem,zA,zB,zD,↓reduceIte,reduceCtorEq];refine hC.use ?_;simp only[ybg,clash,yhn,go_sem,zA,zB,zC,zD,zCB,↓reduceIte,reduceCtorEq];refine⟨by decide,by decide,by decide,.tp [],O2,?_,?_,rfl,rfl⟩
 .subst hO2;refine ydd [(2,fun i=>(12,i)),(4,fun i=>(16,i))] [] [] ?_;simp only[seeO,cntV,allQ,live,yc,go_sem,zA,↓reduceIte,reduceCtorEq];refine⟨fun i hi=>?_,fun i hi=>?_⟩
  .obtain rfl:i=0:=by omega
   simp only[zN];simp only[zAF,live,yc,go_sem]
  .obtain rfl:i=0:=by omega
   simp only[zN];simp only[zAF,live,yc,go_sem,reduceCtorEq]
 .subst hO2;simp only[seeO,cntV,ycz,yge,allQ,live,go_sem,zA,↓reduceIte]
structure DaemonOk(kind:Int)(net:List Nat)(res:Nat->Nat->Nat):Prop where
 resolve:∀(e w:Nat),e<2^24->e<2^net.length->e≠0->w<2^32->Returns zJ 111 [usV net,.i .i64 kind,.i .u32 e,.i .u32 w] (.i .u32 (res e w))
 permits:∀(e w:Nat),e<2^24->e<2^net.length->e≠0->w<2^32->Returns zJ 196 [usV net,.i .i64 kind,.i .u32 e,.i .u32 (res e w)] (.b true)
 zero:∀(w:Nat),w<2^32->∃x:Nat,Returns zJ 111 [usV net,.i .i64 kind,.i .u32 0,.i .u32 w] (.i .u32 x)
 sub:∀(e w:Nat),e≠0->e<2^24->res e w≠0/\subB (res e w) e
theorem ybih{kind:Int}{net:List Nat}{res:Nat->Nat->Nat}(hd:DaemonOk kind net res)(rest:SV)(liv:SV)(mv:SV){ws:List Nat}(hw:∀k,ws.getD k 0<2^32){e:Nat}(he:e<2^24)(hen:e<2^net.length)(h0:e≠0){k:Nat}(hk:k<ws.length) :
 Returns zJ 169 [.i .i64 k,.i .u32 e,.rf [mv,usV net,.i .i64 kind,liv,rest],.rf [usV ws]] (.tp [.i .u32 (res e (ws.getD k 0)),.b true]):=by
 refine Returns.of (ybwm _ _ ?_);have hR:=hd.resolve e (ws.getD k 0) he hen h0 (hw k);have z0:((e:Int)!=0)=true:=by simp;omega
 simp only[usV]at hR;simp only[c169,ybzl,ybxo,usV,clash,go_sem,zA,zB,zC,↓reduceIte,reduceCtorEq];refine⟨by omega,hR.use ?_⟩
 simp only[ybg,clash,z0,go_sem,zA,zB,↓reduceIte,reduceCtorEq];exact Sim.refl _
theorem ybis{kind:Int}{net:List Nat}{res:Nat->Nat->Nat}(hd:DaemonOk kind net res)(rest:SV)(liv:SV)(mv:SV){ws:List Nat}(hw:∀k,ws.getD k 0<2^32){k:Nat}(hk:k<ws.length) :
 ∃x:Nat,Returns zJ 169 [.i .i64 k,.i .u32 0,.rf [mv,usV net,.i .i64 kind,liv,rest],.rf [usV ws]] (.tp [.i .u32 x,.b false]):=by
 obtain⟨x,hR⟩:=hd.zero (ws.getD k 0) (hw k);refine⟨x,Returns.of (ybwm _ _ ?_)⟩;simp only[usV]at hR;simp only[c169,ybzl,ybxo,usV,clash,go_sem,zA,zB,zC,↓reduceIte,reduceCtorEq];refine⟨by omega,hR.use ?_⟩
 simp only[ybg,clash,zAT,go_sem,zA,zB,↓reduceIte,reduceCtorEq];exact Sim.refl _
theorem ybhu{s e n:Nat}(h:subB s e)(he:e<2^n):s<2^n:=by
 refine Nat.lt_pow_two_of_testBit _ fun i hi=>?_;cases hb:s.testBit i with
 |false=>rfl
 | true =>
   have:=h i hb;rw[zBI (zAS he (zAC (by omega) hi))]at this
   cases this
theorem ycez{s e:Nat}(h:subB s e):difB s e=0:=by
 rw[ycb];intro i;rw[ygm];cases hb:s.testBit i with
 |false=>rfl
 |true=>rw[h i hb];rfl
theorem ydby(e w:Nat)(h0:e≠0)(he:e<2^24):resD e w≠0/\subB (resD e w) e:=by
 unfold resD;split
 .exact⟨ydim h0 (by omega),yblj e⟩
 .rename_i h
  refine⟨h,fun i hi=>?_⟩;rw[zBU,zI]at hi;exact hi.2
end Sh
end
section
def stAt(S:Sys)(res:Nat->Nat->Nat):List Nat->Conf->Cnt->Nat->Conf×Cnt
 |_,c,k,0=>(c,k)
 |ws,c,k,i+1=>stAt S res ws.tail (S.mv c (res (S.en c) (ws.getD 0 0))) (addP k (res (S.en c) (ws.getD 0 0)) (S.en (S.mv c (res (S.en c) (ws.getD 0 0))))) i
theorem ybfd(S:Sys)(res:Nat->Nat->Nat):∀(i:Nat) (ws:List Nat) (c:Conf) (k:Cnt),
 stAt S res ws c k (i+1)=(S.mv (stAt S res ws c k i).1 (res (S.en (stAt S res ws c k i).1) (ws.getD i 0)),addP (stAt S res ws c k i).2 (res (S.en (stAt S res ws c k i).1) (ws.getD i 0)) (S.en (S.mv (stAt S res ws c k i).1 (res (S.en (stAt S res ws c k i).1) (ws.getD i 0)))))
 |0,ws,c,k=>rfl
 | i+1,ws,c,k=>by
   show stAt S res ws.tail _ _ (i+1)=_;rw[ybfd S res i ws.tail];have e:ws.tail.getD i 0=ws.getD (i+1) 0:=by cases ws<;>rfl
   rw[e];rfl
theorem ybes(S:Sys)(res:Nat->Nat->Nat):∀(ws:List Nat) (c:Conf) (k:Cnt) (i:Nat),(∀j,j<i->S.en (stAt S res ws c k j).1≠0)->i<=ws.length->(i=ws.length\/S.en (stAt S res ws c k i).1=0) ->
 S.run res ws c k=(zG i).map fun j=>stAt S res ws c k (j+1)
 | [],c,k,i,_,hi,_=>by
   have:i=0:=by simpa using hi
   subst this;rfl
 | w :: ws,c,k,0,_,_,h=>by
   have h0:S.en c=0:=by
    rcases h with h|h
    .simp at h
    .exact h
   unfold Sys.run;rw[if_pos h0];rfl
 | w :: ws,c,k,i+1,hj,hi,h=>by
   have h0:S.en c≠0:=hj 0 (by omega)
   unfold Sys.run;rw[if_neg h0];simp only
   have e:=ybes S res ws (S.mv c (res (S.en c) w)) (addP k (res (S.en c) w) (S.en (S.mv c (res (S.en c) w)))) i (fun j hj'=>hj (j+1) (by omega)) (by simpa using hi) (by
    rcases h with h|h
    .exact .inl (by simpa using h)
    .exact .inr h)
   rw[e,zBJ,zAD,zCE];rfl
theorem ybpn(S:Sys)(res:Nat->Nat->Nat)(ws:List Nat)(c:Conf)(i:Nat)(hj:∀j,j<i->S.en (stAt S res ws c (ydt (S.en c)) j).1≠0)(hi:i<=ws.length)(h:i=ws.length\/S.en (stAt S res ws c (ydt (S.en c)) i).1=0) :
 S.runs res ws c=(zG (i+1)).map fun j=>stAt S res ws c (ydt (S.en c)) j:=by
 unfold Sys.runs;rw[ybes S res ws c _ i hj hi h,zBJ,zAD,zCE];rfl
theorem ycfu{kind:Int}{b:Int×Int}(hb:b.1<=b.2)(h3:kind=3->b.1 <= -1 /\ -1<=b.2)(x:Int):b.1<=yfw kind b x/\yfw kind b x<=b.2:=by
 unfold yfw;split
 .assumption
 .split
  .exact h3 (by assumption)
  .split<;>omega
namespace Sh
theorem ybln{p:ProgT}{g:Gr}(hg:ybe g)(hp:p.ok=true)(hf:ywh p g=true){x:VarR}(hx:x∈p.vars)(v:Nat):(ybi g v x).1<=(ybi g v x).2/\(x.kind=3->(ybi g v x).1 <= -1 /\ -1<=(ybi g v x).2):=by
 have h1:=List.all_eq_true.1 hf x hx;have hp':=hp;unfold ProgT.ok at hp';simp only[zI,decide_eq_true_eq]at hp';have hxo:=ybgi (List.all_eq_true.1 hp'.1.1.2 _ hx);rcases hxo.1 with h|h|h
 .have e:ybi g v x=ybi g 0 x:=by unfold ybi;rw[if_pos h,if_pos h]
  rw[e];simp[h]at h1;exact⟨h1.1,fun q=>by omega⟩
 .unfold ybi;rw[if_neg (by omega),if_pos h]
  exact⟨by decide,fun q=>by omega⟩
 .unfold ybi;rw[if_neg (by omega),if_neg (by omega),if_pos h]
  exact⟨by simp only[];omega,fun _=>⟨by simp only[];omega,by simp only[];omega⟩⟩
theorem ycak{p:ProgT}{g:Gr}(hg:ybe g)(hp:p.ok=true)(hf:ywh p g=true){v:Nat}{s:List Int}(hs:yeq (p.vars.map (ybi g v)) s){a:Int}(ha:0<=a/\a<p.vars.length)(y:Int) :
 yeq (p.vars.map (ybi g v)) (s.set a.toNat (yfw (p.vars.getD a.toNat default).kind (ybi g v (p.vars.getD a.toNat default)) y)):=by
 refine⟨by rw[List.length_set];exact hs.1,fun i b x hb hx=>?_⟩
 by_cases q:a.toNat=i
 .subst q;have hlt:a.toNat<p.vars.length:=by omega
  rw[zAB,zH hlt]at hb;cases hb
  have hl:a.toNat<s.length:=by rw[hs.1,zQ];exact hlt
  rw[zAJ hl]at hx;cases hx
  rw[getD_at hlt];obtain⟨h1,h2⟩:=ybln hg hp hf (zV hlt) v;exact ycfu h1 h2 y
 .rw[zAO q]at hx;exact hs.2 i b x hb hx
theorem yyd{p:ProgT}{g:Gr}(hg:ybe g)(hp:p.ok=true)(hf:ywh p g=true)(c:Conf)(v:Nat):∀(sets:List (Int×Ex)) (s:List Int),(∀a∈sets,0<=a.1/\a.1<p.vars.length)->yeq (p.vars.map (ybi g v)) s->yeq (p.vars.map (ybi g v)) (ype p g c v s sets)
 |[],s,_,hs=>hs
 | a::sets,s,ha,hs=>by
   show yeq _ (ype p g c v (s.set _ _) sets);exact yyd hg hp hf c v sets _ (fun x hx=>ha x (zM _ hx)) (ycak hg hp hf hs (ha a zY) _)
theorem yyn{p:ProgT}{g:Gr}(hg:ybe g)(hp:p.ok=true)(hf:ywh p g=true){c:Conf}(hc:ydz p g c=true)(s:Nat):ydz p g (yfb p g c s)=true:=by
 have h:=(yfd _ _ _).1 hc;refine(yfd _ _ _).2 ⟨by rw[ykk];exact h.1,fun v st hst=>?_⟩
 have hv:v<c.length:=by
  have:=(List.getElem?_eq_some_iff.1 hst).1
  rwa [ykk]at this
 have e:st=(yfb p g c s).getD v []:=by simp[zL,hst]
 rw[yny p g c s hv]at e;have hold:=h.2 v (c.getD v []) (by rw[getD_at hv];exact zH hv)
 rw[e];split
 .unfold ybbo;refine yyd hg hp hf c v _ _ (fun a ha=>?_) hold;have hp':=hp;unfold ProgT.ok at hp';simp only[zI,decide_eq_true_eq]at hp'
  by_cases hr:(yho p g c v).toNat<p.rules.length
  .rw[getD_at hr]at ha;have hok:=List.all_eq_true.1 hp'.2 _ (zV hr);unfold RuleT.ok at hok;simp only[zI,decide_eq_true_eq]at hok;have:=List.all_eq_true.1 hok.2 a ha;simp only[zI,decide_eq_true_eq]at this;exact this.1.1
  .have:p.rules.getD (yho p g c v).toNat default=default:=by simp[zL,zAN (Nat.le_of_not_lt hr)]
   rw[this]at ha;cases ha
 .exact hold
theorem ypl{p:ProgT}{g:Gr}(hg:ybe g)(hp:p.ok=true){c:Conf}(hc:ydz p g c=true):(∀s∈c,0<s.length/\s.length<=1000)/\c.length<=1000:=by
 have h:=ylc hg hp hc;have hp':=hp;unfold ProgT.ok at hp';simp only[zI,decide_eq_true_eq]at hp';have:=hg.2.1;exact⟨fun s hs=>by have:=(h.row s hs).1;omega,by rw[h.len];omega⟩
theorem ycel(p:ProgT)(g:Gr)(c:Conf):ybn p g c<2^g.ids.length:=yblb _ _
end Sh
end
section
namespace Sh
open Ev Go.RowKit
def seeC:SV:=.fn 131 [] [.pt (201,0) 0 0,.pt (203,0) 0 0]
def seeX(cs:List Conf)(ks:List Cnt):Own:=[(201,.one (some ⟨29,true,1,1,fun _=>[.os (202,0) 0 cs.length true]⟩)),(202,.one (some ⟨34,false,1,cs.length,fun i=>[ybm (cs.getD i [])]⟩)),
 (203,.one (some ⟨30,true,1,1,fun _=>[.os (204,0) 0 ks.length true]⟩)),(204,.one (some ⟨48,false,5,ks.length,fun i=>cntV (ks.getD i default)⟩))]
def ymv:Own:=[(201,.one (some ⟨29,true,1,1,fun _=>[.a (.slice none 0 0)]⟩)),(203,.one (some ⟨30,true,1,1,fun _=>[.a (.slice none 0 0)]⟩))]
def TT:(Nat->Option ABlk)->Value->Prop:=fun _ _=>True
def yfz(p:ProgT)(g:Gr):SV:=.ex TT (.rf (yel p.raw g))
def yeg(p:ProgT)(g:Gr)(net:List Nat)(kind:Int):List SV:=[yfz p g,usV net,.i .i64 kind,.i .u32 (2^g.ids.length-1:Nat),seeC]
def ybsu(p:ProgT)(g:Gr)(net:List Nat)(kind:Int)(ws:List Nat):Own:=[(205,.one (some ⟨126,true,5,1,fun _=>yeg p g net kind⟩)),(206,.one (some ⟨38,true,1,1,fun _=>[usV ws]⟩))]
theorem gmr{α:Type}(f:Nat->α)(n k:Nat)(d:α)(h:k<n):((zG n).map f).getD k d=f k:=by simp[zL,h]
def mapR{α:Type}(n:Nat)(f:Nat->α):List α:=(zG n).map f
theorem gmR{α:Type}(f:Nat->α)(n k:Nat)(d:α)(h:k<n):(mapR n f).getD k d=f k:=gmr f n k d h
theorem yla{α:Type}(n:Nat)(f:Nat->α):(mapR n f).length=n:=by simp[mapR]
theorem ybmk{α β:Type}(n:Nat)(f:Nat->α)(h:α->β):(mapR n f).map h=mapR n fun k=>h (f k):=by simp[mapR,Function.comp_def]
theorem ybzk{α:Type}(f:Nat->α)(n:Nat)(x d:α)(hx:f n=x)(k:Nat)(h:k<n+1):(((zG n).map f)++[x]).getD k d=f k:=by
 rw[<-hx,show[f n]=[n].map f from rfl,<-zBF,<-zBG]
 exact gmr f (n+1) k d h
section
variable {Q1 Q2:(Nat->Option ABlk)->Value->Prop}{p:ProgT}{g:Gr}
theorem ybpm(h:Checked Q1 Q2 p g){kind:Int}{net:List Nat}(hnl:g.ids.length<=net.length){res:Nat->Nat->Nat}(hd:DaemonOk kind net res){c:Conf}(hc:ydz p g c=true){ws:List Nat}(hw:∀k,ws.getD k 0<2^32)(hwl:ws.length<=4000) :
 Cm zJ 168 [(201,0),(203,0)] (ymv++ybsu p g net kind ws) [.ag (yeg p g net kind),ybm c,.i .i64 ws.length,.fn 169 [] [.pt (205,0) 0 0,.pt (206,0) 0 0]]
  fun r o=>(∃l1 l2 c' k',r = .tp [.ag (usV l1::usV l2::ybm c'::cntV k'),.i .i64 0])/\o=seeX ((ybr p g).runs res ws c |>.map (·.1)) ((ybr p g).runs res ws c |>.map (·.2)):=by
 refine ycfi [(201,0),(203,0)] [131] _ _ _ ?_;obtain⟨O2,hO2⟩:∃O,seeX ((ybr p g).runs res ws c |>.map (·.1)) ((ybr p g).runs res ws c |>.map (·.2))=O:=⟨_,rfl⟩;rw[hO2];obtain⟨hr1,hr2⟩:=ypl h.hg h.hp hc;have hcin:=ylc h.hg h.hp hc;have hC:=ybas c hr1 hr2;have hE:=yjy p h.hg h.hp hcin;have hX:SimL [yfz p g,ybm c] [.rf (yel p.raw g),ybm c]:=⟨ynv _ _,Sim.refl _,trivial⟩;have hen:=ycel p g c;have hid:=h.hg.2.2.1
 have h24:=h.hg.2.1;have h2n:2^g.ids.length<=2^24:=zAC (by omega) (by omega)
 simp only[c168,ycoc,yczv,yckv,ymv,ybsu,yeg,seeC,usV,yfz,go_sem,zA,zB,zD,zF,↓reduceIte,reduceCtorEq];refine hC.use ?_;simp only[ybg,yczq,clash,go_sem,zA,zB,zC,zF,↓reduceIte,reduceCtorEq];refine hE.useS ?_ ?_
 .exact hX
 have ha:IntKind.wrap .u32 (((zAW (IntKind.bits .u32) (ybn p g c:Int))&&&zAW (IntKind.bits .u32) ((2^g.ids.length-1:Nat):Int)).toNat:Int)=(ybn p g c:Int):=by
  have e:=u32_and (a:=ybn p g c) (b:=2^g.ids.length-1) (by omega) (by omega)
  rw[zAH hen]at e;exact e
 simp only[IntKind.bits]at ha;simp only[ybg,ycju,clash,ha,go_sem,zA,zB,zD,zF,↓reduceIte];have hB:=ybuk (e:=ybn p g c) (by omega)
 obtain⟨K0,hK0⟩:∃K,ydt (ybn p g c)=K:=⟨_,rfl⟩;rw[hK0]at hB;refine hB.use ?_;simp only[yckz,cntV,go_sem,zA,zB,↓reduceIte,reduceCtorEq];have hS:=ybvg hr1 hr2 (ybn p g c) K0;simp only[cntV]at hS;refine yfr hS [(1,201),(3,203)] 200 [1,2,3,4,8,9,10,11,12] [4,8,10,12,205,206] ?_ ?_
 .simp only[ydhy,to1,okN,ycz,yge,yfj,yeh,allQ,live,yc,go_sem,zA,zB,zF,↓reduceIte,reduceCtorEq]
 .rintro r o' ⟨rfl,rfl⟩;simp only[seeO,yrx,yms,nuF,nu,difN,yfj,yeh,Fam.ren,OB.ren,dim,yya,yqy,go_sem,zA,zB,zF,↓reduceIte,reduceCtorEq];simp only[ycmo,ycpw,splice,go_sem,zA,zB,zC,zD,zCB,↓reduceIte,reduceCtorEq]
  let st:Nat->Conf×Cnt:=stAt (ybr p g) res ws c K0
  let en:Nat->Nat:=fun i=>ybn p g (st i).1
  let ch:Nat->Nat:=fun i=>res (en i) (ws.getD i 0)
  refine ybk (σ:=Nat) (fun i=>⟨[(40,.i .i64 i),(39,.i .i64 ws.length),(1,ybm (st i).1),(3,.fn 169 [] [.pt (205,0) 0 0,.pt (206,0) 0 0]),(4,.pt (4,0) 0 0),(8,.pt (8,0) 0 0),(9,.i .i64 0),(10,.pt (10,0) 0 0),(11,.i .u32 (en i)),(12,.pt (12,0) 0 0)],
   [(4,.one (some ⟨126,true,5,1,fun _=>yeg p g net kind⟩)),
    (8,.one (some ⟨130,true,8,1,fun _=>[.a (.slice none 0 0),.a (.slice none 0 0),.a (.slice none 0 0),.i .i64 0,.i .i64 0,.i .i64 0,.i .i64 0,.i .u32 0]⟩)),
    (10,.one (some ⟨130,true,8,1,fun _=>[.os (301,0) 0 i true,.os (302,0) 0 (i+1) true,.a (.slice none 0 0),.i .i64 0,.i .i64 0,.i .i64 0,.i .i64 0,.i .u32 0]⟩)),
    (301,.one (some ⟨40,false,1,i,fun j=>[.i .u32 (ch j)]⟩)),(302,.one (some ⟨40,false,1,i+1,fun j=>[.i .u32 (en j)]⟩)),
    (12,.one (some ⟨48,true,5,1,fun _=>cntV (st i).2⟩)),
    (201,.one (some ⟨29,true,1,1,fun _=>[.os (202,0) 0 (i+1) true]⟩)),(202,.one (some ⟨34,false,1,i+1,fun j=>[ybm (st j).1]⟩)),
    (203,.one (some ⟨30,true,1,1,fun _=>[.os (204,0) 0 (i+1) true]⟩)),(204,.one (some ⟨48,false,5,i+1,fun j=>cntV (st j).2⟩)),
    (205,.one (some ⟨126,true,5,1,fun _=>yeg p g net kind⟩)),(206,.one (some ⟨38,true,1,1,fun _=>[usV ws]⟩))]⟩)
   (fun i=>i<=ws.length/\(∀j,j<i->en j≠0)/\ydz p g (st i).1=true/\(st i).2.ok/\(st i).2.steps=i) (fun i=>ws.length-i) 0 ⟨zAK _,fun j hj=>absurd hj (zBH j),hc,by show K0.ok;rw[<-hK0];exact ybxt (by omega),by show K0.steps=0;rw[<-hK0];rfl⟩ ?_ ?_
  .refine ydd [(302,fun i=>(37,i))] [301] [] ?_;have st0:st 0=(c,K0):=rfl;have en0:en 0=ybn p g c:=rfl;simp only[yeg,yfz,seeC,usV,cntV,st0,en0,allQ,live,yc,ybb,zW,go_sem,zA,zC,zF,↓reduceIte,reduceCtorEq];refine⟨fun i _=>⟨(301,0),rfl,?_⟩,?_⟩
   .simp only[go_sem,go_sem,zA,↓reduceIte]
   refine⟨fun i hi=>?_,fun i hi=>?_,fun i hi=>?_⟩
   .obtain rfl:i=0:=by omega
    simp only[zN];simp only[en0,live,yc,go_sem,reduceCtorEq]
   .obtain rfl:i=0:=by omega
    simp only[st0,zAF,yc,go_sem]
   .obtain rfl:i=0:=by omega
    simp only[st0,zAF,go_sem]
  .rintro i ⟨hi,hj,hci,hko,hks⟩;obtain⟨cr1,cr2⟩:=ypl h.hg h.hp hci;have cin:=ylc h.hg h.hp hci;have eni:=ycel p g (st i).1
   have fin:(i=ws.length\/en i=0)->(ybr p g).runs res ws c=mapR (i+1) st:=fun hq=>by
    have e:=ybpn (ybr p g) res ws c i;rw[show(ybr p g).en c=ybn p g c from rfl,hK0]at e
    exact e hj hi hq
   simp only[yctg,ycks,ybza,yeg,yfz,seeC,usV,cntV,go_sem,zA,zB,zC,zF,↓reduceIte,reduceCtorEq];refine⟨fun hlt=>.inl ?_,fun hlt=>?_⟩
   .have hi':i<ws.length:=by omega
    by_cases h0:en i=0
    .obtain⟨x,hF⟩:=ybis hd (.fn 131 [] [.rf [.sl 1 (i+1) fun j=>[ybm (st j).1]],.rf [.sl 5 (i+1) fun j=>cntV (st j).2]]) (.i .u32 (2^g.ids.length-1:Nat)) (yfz p g) hw hi';simp only[yfz,usV,cntV]at hF;simp only[h0,zW];refine hF.use ?_;simp only[ybg,ybfx,ybht,ybjj,go_sem,zA,zB,zC,↓reduceIte,reduceCtorEq];refine⟨by decide,?_⟩
     simp only[yhn,go_sem];refine⟨.tp [.ag (usV (mapR i ch)::usV (mapR (i+1) en)::ybm (st i).1::cntV (st i).2),.i .i64 0],O2,?_,?_,⟨_,_,_,_,rfl⟩,rfl⟩
     .subst hO2;rw[fin (.inr h0)];refine ydd [] [] [(301,0),(302,0)] ?_;simp only[seeX,usV,cntV,ybmk,yla,allQ,live,yc,ybb,go_sem,zA,↓reduceIte,reduceCtorEq];refine⟨ycnn ⟨yun ⟨ykn fun q hq=>by rw[gmR _ _ _ _ hq],ykn fun q hq=>by rw[gmR _ _ _ _ hq],Sim.refl _,Sim.refl _,Sim.refl _,Sim.refl _,Sim.refl _,Sim.refl _,trivial⟩,Sim.refl _,trivial⟩,fun q hq=>?_,fun q hq=>?_⟩
      .rw[gmR _ _ _ _ hq];exact Sim.refl _
      .rw[gmR _ _ _ _ hq];exact⟨rfl,rfl,rfl,rfl,rfl⟩
     .subst hO2;simp only[seeX,usV,cntV,ycz,yge,allQ,live,go_sem,zA,↓reduceIte]
    .have hen24:en i<2^24:=by show ybn p g (st i).1<_;omega
     have henn:en i<2^net.length:=zAS eni (zAC (by omega) hnl)
     have hF:=ybih hd (.fn 131 [] [.rf [.sl 1 (i+1) fun j=>[ybm (st j).1]],.rf [.sl 5 (i+1) fun j=>cntV (st j).2]]) (.i .u32 (2^g.ids.length-1:Nat)) (yfz p g) hw hen24 henn h0 hi';obtain⟨hch0,hchs⟩:=hd.sub (en i) (ws.getD i 0) h0 hen24;have hP:=hd.permits (en i) (ws.getD i 0) hen24 henn h0 (hw i);have hch24:ch i<2^24:=ybhu hchs hen24;have hSt:=ycgf p h.hg h.hp cin (s:=ch i) (by omega) hchs
     obtain⟨d,hdd⟩:∃d,yfb p g (st i).1 (ch i)=d:=⟨_,rfl⟩;rw[hdd]at hSt;have hcd:ydz p g d=true:=by rw[<-hdd];exact yyn h.hg h.hp h.hf hci (ch i)
     simp only[yfz,usV,cntV]at hF hP;refine hF.use ?_;simp only[ybg,ybfx,ybwh,go_sem,zA,zB,zC,zF,↓reduceIte,reduceCtorEq];refine hP.use ?_;simp only[ybg,ybvb,go_sem,zA,zB,zC,zF,↓reduceIte,reduceCtorEq];refine hSt.useS ?_ ?_
     .exact⟨ynv _ _,Sim.refl _,Sim.refl _,trivial⟩
     obtain⟨dr1,dr2⟩:=ypl h.hg h.hp hcd;have dcin:=ylc h.hg h.hp hcd;have hE2:=yjy p h.hg h.hp dcin;have hen2:=ycel p g d;obtain⟨e2,he2⟩:∃e,ybn p g d=e:=⟨_,rfl⟩;rw[he2]at hE2 hen2
     have ha2:IntKind.wrap .u32 (((zAW (IntKind.bits .u32) (e2:Int))&&&zAW (IntKind.bits .u32) ((2^g.ids.length-1:Nat):Int)).toNat:Int)=(e2:Int):=by
      have e:=u32_and (a:=e2) (b:=2^g.ids.length-1) (by omega) (by omega)
      rw[zAH hen2]at e;exact e
     simp only[IntKind.bits]at ha2;simp only[ybg,ycbl,clash,go_sem,zA,zB,zC,zF,↓reduceIte,reduceCtorEq];refine hE2.useS ?_ ?_
     .exact⟨ynv _ _,Sim.refl _,trivial⟩
     have hA:=ydbe hko (by omega) hch0 hch24 (e:=e2) (by omega)
     obtain⟨K2,hK2⟩:∃K,addP (st i).2 (ch i) e2=K:=⟨_,rfl⟩;rw[hK2]at hA;simp only[cntV]at hA;simp only[ybg,ybqz,clash,ha2,go_sem,zA,zB,zF,↓reduceIte,reduceCtorEq];refine hA.use ?_;simp only[ybzf,go_sem,zA,zB,↓reduceIte,reduceCtorEq]
     let cs:List Conf:=(zG (i+1)).map fun j=>(st j).1
     let ks:List Cnt:=(zG (i+1)).map fun j=>(st j).2
     have lc:cs.length=i+1:=by simp[cs]
     have lk:ks.length=i+1:=by simp[ks]
     have hS2:=ycea cs ks (by omega) (by omega) dr1 dr2 e2 K2
     simp only[cntV]at hS2;refine yfr hS2 [(1,201),(2,202),(3,203),(4,204)] 400 [40,39,1,3,4,8,9,10,11,12,14] [4,8,10,301,302,12,205,206] ?_ ?_
     .simp only[seeO,lc,lk,cntV,to1,okN,ycz,yge,yfj,yeh,allQ,live,yc,ybb,go_sem,zA,zB,zF,↓reduceIte,reduceCtorEq];refine⟨fun q hq=>?_,fun q hq=>?_⟩
      .simp only[cs,gmr _ _ _ _ hq];exact Sim.refl _
      .simp only[ks,gmr _ _ _ _ hq];exact⟨trivial,trivial,trivial,trivial,trivial⟩
     .rintro r o' ⟨rfl,rfl⟩;simp only[seeO,cntV,zK,lc,lk,yrx,yms,nuF,nu,difN,yfj,yeh,Fam.ren,OB.ren,dim,yhm,yya,yqy,go_sem,zA,zF,↓reduceIte];simp only[ybvk,ybws,ybtn,splice,go_sem,zA,zB,zC,zD,↓reduceIte,reduceCtorEq]
      have hst:st (i+1)=(d,K2):=by
       show stAt (ybr p g) res ws c K0 (i+1)=_;rw[ybfd];show(yfb p g (st i).1 (ch i),addP (st i).2 (ch i) (ybn p g (yfb p g (st i).1 (ch i))))=_;rw[hdd,he2,hK2]
      have hen':en (i+1)=e2:=by
       show ybn p g (st (i+1)).1=_;rw[hst];exact he2
      refine⟨⟨by omega,by omega⟩,⟨by omega,by omega⟩,ikw (by omega) (by omega),?_⟩
      refine yj (i+1) ⟨by omega,fun j hj'=>?_,by rw[hst];exact hcd,by rw[hst,<-hK2];exact yddm hko hch24 hch0 (by omega),by rw[hst,<-hK2];show(st i).2.steps+1=i+1;omega⟩ (by omega) ?_
      .by_cases q:j=i
       .rw[q];exact h0
       .exact hj j (by omega)
      refine ydd [(301,fun i=>(90,i)),(302,fun i=>(96,i))] [] [] ?_;simp only[hst,hen',allQ,live,yc,ybb,go_sem,zA,zC,↓reduceIte,reduceCtorEq];have hcs:∀k,k<i+1+1->(cs++[d]).getD k []=(st k).1:=ybzk (fun j=>(st j).1) (i+1) d [] (by rw[hst])
      have hksx:∀k,k<i+1+1->(ks++[K2]).getD k default=(st k).2:=ybzk (fun j=>(st j).2) (i+1) K2 default (by rw[hst])
      refine⟨by omega,fun q hq=>?_,fun q hq=>?_,fun q hq=>?_,fun q hq=>?_⟩
      .by_cases q1:q<i
       .simp only[if_pos q1];simp only[go_sem,live,yc,go_sem,reduceCtorEq]
       .obtain rfl:q=i:=by omega
        simp only[if_neg q1,zU,zN];simp only[ch,live,yc,go_sem,reduceCtorEq]
      .by_cases q1:q<i+1
       .simp only[if_pos q1];simp only[go_sem,live,yc,go_sem,reduceCtorEq]
       .obtain rfl:q=i+1:=by omega
        simp only[if_neg q1,zU,zN];simp only[hen',live,yc,go_sem,reduceCtorEq]
      .rw[hcs q hq];exact Sim.refl _
      .rw[hksx q hq];exact⟨rfl,rfl,rfl,rfl,rfl⟩
   .obtain rfl:i=ws.length:=by omega
    simp only[ybht,ybjj,go_sem,zA,zB,zC,↓reduceIte,reduceCtorEq];refine⟨by decide,?_⟩
    simp only[yhn,go_sem];refine⟨.tp [.ag (usV (mapR ws.length ch)::usV (mapR (ws.length+1) en)::ybm (st ws.length).1::cntV (st ws.length).2),.i .i64 0],O2,?_,?_,⟨_,_,_,_,rfl⟩,rfl⟩
    .subst hO2;rw[fin (.inl rfl)];refine ydd [] [] [(301,0),(302,0)] ?_;simp only[seeX,usV,cntV,ybmk,yla,allQ,live,yc,ybb,go_sem,zA,↓reduceIte,reduceCtorEq];refine⟨ycnn ⟨yun ⟨ykn fun q hq=>by rw[gmR _ _ _ _ hq],ykn fun q hq=>by rw[gmR _ _ _ _ hq],Sim.refl _,Sim.refl _,Sim.refl _,Sim.refl _,Sim.refl _,Sim.refl _,trivial⟩,Sim.refl _,trivial⟩,fun q hq=>?_,fun q hq=>?_⟩
     .rw[gmR _ _ _ _ hq];exact Sim.refl _
     .rw[gmR _ _ _ _ hq];exact⟨rfl,rfl,rfl,rfl,rfl⟩
    .subst hO2;simp only[seeX,usV,cntV,ycz,yge,allQ,live,go_sem,zA,↓reduceIte]
end
end Sh
end
section
namespace Sh
open Ev Go.RowKit
theorem Returns.exT{P:Program}{g:FuncId}{args:List SV}{r:SV}(h:Returns P g args r):Returns P g args (.ex TT r):=fun G m us h1 h2 h3=>by
 obtain⟨v,m',x,a,b,c,d,e⟩:=h G m us h1 h2 h3;exact⟨v,m',.ex TT r,a,b,c,rfl,.ex trivial (fun _ _ _ _ _=>trivial) (d▸e)⟩
section
variable {Q1 Q2:(Nat->Option ABlk)->Value->Prop}{p:ProgT}{g:Gr}
theorem ybvr(h:Checked Q1 Q2 p g){kind:Int}(hk:1<=kind/\kind<=4){c:Conf}(hc:ydz p g c=true){len:Nat}(hl:len<=4096):Returns zJ 129 [.ag (yez Q1 Q2 p.raw),grV g,.i .i64 kind,ybm c,.i .i64 len] (.i .i64 0):=by
 refine Returns.of (ydap _ _ ?_);have hC:=ybcb h c;rw[if_pos hc]at hC;have hD:=ybmw kind;rw[decide_eq_true hk.1,decide_eq_true hk.2]at hD;have f1:decide ((len:Int)>4096)=false:=by simp;omega
 simp only[yez,grV]at hC;simp only[c129,ycxg,ycwt,yez,grV,go_sem,zA,zB,zD,↓reduceIte,reduceCtorEq];refine hC.use ?_;simp only[ybg,ycul,ycrw,zAT,go_sem,zA,zB,↓reduceIte,reduceCtorEq];refine hD.use ?_;simp only[ycue,ycqj,f1,ybb,Bool.and_self,go_sem,zA,zB,↓reduceIte,reduceCtorEq]
theorem ybpx(h:Checked Q1 Q2 p g):Returns zJ 93 [.ag (yna p.raw),grV g] (yfz p g):=by
 have hp':=h.hp;unfold ProgT.ok at hp';simp only[zI,decide_eq_true_eq]at hp';exact(yrg p.raw h.hg hp'.1.1.2 hp'.1.1.1.2).exT
theorem ybbg(h:Checked Q1 Q2 p g)(kind:Int):Cm zJ 130 [(201,0),(203,0)] ymv [.ag (yez Q1 Q2 p.raw),grV g,.i .i64 kind,seeC] fun r o=>r = .ag (yeg p g (g.ports.map netP) kind)/\o=ymv:=by
 refine ycff [(201,0),(203,0)] [] _ _ _ ?_;have hM:=ybpx h;have hN:=ybpb h.hg;have hA:=ycco h.hg;simp only[grV]at hM hN hA;simp only[c130,ycpc,yclo,yez,grV,seeC,ymv,clash,go_sem,zA,zB,zD,↓reduceIte,reduceCtorEq];refine hM.useS ?_ ?_
 .exact⟨yun ⟨Sim.refl _,ynv _ _,ynv _ _,trivial⟩,Sim.refl _,trivial⟩
 simp only[usV,yfz]at hN ⊢;simp only[ybg,clash,go_sem,zA,zB,zC,↓reduceIte,reduceCtorEq];refine hN.use ?_;simp only[go_sem,zB,zC,↓reduceIte];refine⟨by decide,hA.use ?_⟩
 simp only[yhn,go_sem,zA,zB,↓reduceIte];refine⟨by decide,by decide,.ag (yeg p g (g.ports.map netP) kind),ymv,?_,?_,rfl,rfl⟩
 .refine ydd [] [] [] ?_;simp only[yeg,yfz,usV,seeC,ymv,allQ,live,yc,go_sem,zA,↓reduceIte,reduceCtorEq]
 .simp only[yeg,yfz,usV,seeC,ymv,ycz,yge,allQ,live,go_sem,zA,↓reduceIte]
theorem ycbc(h:Checked Q1 Q2 p g){kind:Int}{net:List Nat}(hnl:g.ids.length<=net.length){res:Nat->Nat->Nat}(hd:DaemonOk kind net res){c:Conf}(hc:ydz p g c=true){ws:List Nat}(hw:∀k,ws.getD k 0<2^32)(hwl:ws.length<=4000) :
 Cm zJ 133 [(201,0),(203,0)] ymv [.ag (yeg p g net kind),ybm c,usV ws]
  fun r o=>(∃l1 l2 c' k',r = .tp [.ag (usV l1::usV l2::ybm c'::cntV k'),.i .i64 0])/\o=seeX ((ybr p g).runs res ws c |>.map (·.1)) ((ybr p g).runs res ws c |>.map (·.2)):=by
 refine yciu [(201,0),(203,0)] [168] _ _ _ ?_;have hX:=ybpm h hnl hd hc hw hwl
 generalize ((ybr p g).runs res ws c).map (·.1)=CS at hX ⊢
 generalize ((ybr p g).runs res ws c).map (·.2)=KS at hX ⊢
 simp only[c133,ycxp,ycwj,ymv,yeg,yfz,usV,seeC,go_sem,zA,zB,zD,↓reduceIte,reduceCtorEq];refine yfr hX [(201,201),(203,203),(205,3),(206,5)] 0 [6,7] [6] ?_ ?_
 .simp only[ymv,ybsu,yeg,yfz,usV,seeC,List.cons_append,List.nil_append,to1,okN,ycz,yge,yfj,yeh,allQ,live,yc,go_sem,zA,zB,zC,zF,↓reduceIte,reduceCtorEq]
 .rintro r o' ⟨⟨l1,l2,c',k',rfl⟩,rfl⟩;simp only[seeX,usV,cntV,yrx,yms,nuF,nu,difN,yfj,yeh,Fam.ren,OB.ren,dim,yhm,ybek,ybcp,yya,yqy,go_sem,zA,zB,zF,↓reduceIte,reduceCtorEq];simp only[yhn,go_sem];refine⟨.tp [.ag (usV l1::usV l2::ybm c'::cntV k'),.i .i64 0],seeX CS KS,?_,?_,⟨l1,l2,c',k',rfl⟩,rfl⟩
  .refine ydd [] [] [] ?_;simp only[seeX,usV,cntV,allQ,live,yc,go_sem,zA,↓reduceIte,reduceCtorEq]
  .simp only[seeX,usV,cntV,ycz,yge,allQ,live,go_sem,zA,↓reduceIte]
def yew(l:List Conf):SV:=.sl 1 l.length (fun i=>[ybm (l.getD i [])])
def yey(l:List Cnt):SV:=.sl 5 l.length (fun i=>cntV (l.getD i default))
theorem ybwy(h:Checked Q1 Q2 p g){kind:Int}(hk:1<=kind/\kind<=4){res:Nat->Nat->Nat}(hd:DaemonOk kind (g.ports.map netP) res){c:Conf}(hc:ydz p g c=true){ws:List Nat}(hw:∀k,ws.getD k 0<2^32)(hwl:ws.length<=4000) :
 Returns zJ 78 [.ag (yez Q1 Q2 p.raw),grV g,.i .i64 kind,ybm c,usV ws] (.tp [yew (((ybr p g).runs res ws c).map (·.1)),yey (((ybr p g).runs res ws c).map (·.2)),.i .i64 0]):=by
 refine Returns.of (yddx [130,133] _ _ ?_);have hC:=ybvr h hk hc (len:=ws.length) (by omega)
 have hN:=ybbg h kind;have hX:=ycbc h (by have:=h.hg.2.2.1;rw[zQ];omega) hd hc hw hwl
 generalize ((ybr p g).runs res ws c).map (·.1)=CS at hX ⊢
 generalize ((ybr p g).runs res ws c).map (·.2)=KS at hX ⊢
 simp only[yez,grV]at hC;simp only[c78,ydpb,ydrs,yez,grV,usV,go_sem,zA,zB,zD,zF,↓reduceIte,reduceCtorEq];refine hC.use ?_;simp only[ybg,ydos,ydse,ydrn,ydld,zAT,go_sem,zA,zB,zD,↓reduceIte,reduceCtorEq];refine yfr hN [(201,14),(203,15)] 0 [3,4,14,15] [] ?_ ?_
 .simp only[ymv,seeC,yez,grV,to1,okN,ycz,yge,yfj,yeh,allQ,live,yc,go_sem,zA,zB,↓reduceIte,reduceCtorEq]
 rintro r o' ⟨rfl,rfl⟩;simp only[ymv,yeg,yfz,usV,seeC,yrx,yms,nuF,nu,difN,yfj,yeh,Fam.ren,OB.ren,dim,yhm,ydgu,ybek,ycqw,ybcp,ybmc,yblu,go_sem,zA,zB,zD,zF,↓reduceIte,reduceCtorEq];simp only[ydqv,go_sem,zA,zB,zF,↓reduceIte,reduceCtorEq];simp only[yeg,yfz,usV,seeC]at hX;refine yfr hX [(201,14),(203,15)] 0 [14,15] [] ?_ ?_
 .simp only[ymv,to1,okN,ycz,yge,yfj,yeh,allQ,live,yc,go_sem,zA,zB,↓reduceIte,reduceCtorEq]
 rintro r o' ⟨⟨l1,l2,c',k',rfl⟩,rfl⟩;simp only[seeX,cntV,yrx,yms,nuF,nu,difN,yfj,yeh,Fam.ren,OB.ren,dim,yhm,ybek,ybcp,yya,yqy,go_sem,zA,zB,zD,zF,↓reduceIte,reduceCtorEq];simp only[ydrk,ycvo,clash,zAT,yew,yey,go_sem,zA,zB,↓reduceIte,reduceCtorEq];exact Sim.refl _
end
end Sh
end
section
def ycw(v m:Int):Int:=if m<1 then 0 else v%m
def atP(l:List Int)(i:Nat):Int:=l.getD i 0
theorem yfn{v m:Int}(h:1<=m):0<=ycw v m/\ycw v m<m:=by
 unfold ycw;rw[if_neg (by omega)]
 exact⟨zAP _ (by omega),zAI _ (by omega)⟩
namespace Sh
open Ev Go.RowKit
theorem ybkw{v m:Int}(h:1<=m):(if v.tmod m<0 then v.tmod m+m else v.tmod m)=v%m:=by
 have h1:=Int.emod_add_mul_ediv v m;have h2:=zAP v (show m≠0 by omega)
 have h3:=zAI v (show 0<m by omega)
 have h4:=Int.tmod_eq_emod (a:=v) (b:=m);have h5:(m.natAbs:Int)=m:=by omega
 rw[h4]
 by_cases q:0<=v\/m ∣ v
 .simp only[if_pos q,zW,Int.sub_zero];rw[if_neg (by omega)]
 .simp only[if_neg q,h5];rw[if_pos (by omega)]
  omega
theorem yfo(v m:Int)(hm:m<=4611686018427387904)(hv:inK .i64 v):Returns zJ 39 [.i .i64 v,.i .i64 m] (.i .i64 (ycw v m)):=by
 refine Returns.of (ydlx _ _ ?_);simp only[c39,ydnj,ydpa,ydkf,ydsl,ydks,ydoz,ydoq,ybb,go_sem,zA,zB,↓reduceIte,reduceCtorEq];unfold ycw;refine⟨fun h=>by rw[if_pos h],fun h=>⟨by omega,fun h2=>?_,fun h2=>?_⟩⟩
 .have h3:=ybkw (v:=v) (show 1<=m by omega)
  rw[if_pos h2]at h3;rw[if_neg h,h3];have h4:=zAP v (show m≠0 by omega)
  have h5:=zAI v (show 0<m by omega)
  exact⟨ikw (by omega) (by omega),rfl⟩
 .have h3:=ybkw (v:=v) (show 1<=m by omega)
  rw[if_neg h2]at h3;rw[if_neg h,h3]
theorem at_ret(l:List Int)(i:Nat):Returns zJ 77 [yu l,.i .i64 i] (.i .i64 (atP l i)):=by
 refine Returns.of (ydna _ _ ?_);simp only[c77,ydqb,ydkd,ydpx,ydql,yu,ybb,go_sem,zA,zB,↓reduceIte,reduceCtorEq];exact⟨fun h=>⟨by omega,rfl⟩,fun h=>by unfold atP;rw[zL,zAN (by omega)];rfl⟩
theorem wrap32(z:Int):0<=IntKind.wrap .u32 z/\IntKind.wrap .u32 z<2^32:=by
 unfold IntKind.wrap;simp only[IntKind.signed,IntKind.bits];exact⟨zAP _ (by decide),zAI _ (by decide)⟩
theorem yvl{α:Type}(l:List α)(x d:α)(i:Nat):(l++[x]).getD i d=if i<l.length then l.getD i d else if i=l.length then x else d:=by
 by_cases h:i<l.length
 .simp[zL,zAG h,h]
 .by_cases e:i=l.length
  .subst e;simp[zL]
  .rw[if_neg h,if_neg e,zL,zAN (by simp;omega)]
   rfl
theorem ybmx(l:List Nat)(hb:∀k,l.getD k 0<2^32)(n:Nat)(hn:n<=1000):Ct zJ 26 [usV l,.i .i64 n] fun r=>∃ws:List Nat,ws.length=n/\(∀k,ws.getD k 0<2^32)/\Sim r (usV ws):=by
 refine ydnz _ _ ?_;simp only[c26,ydol,ydkl,ydqm,usV,go_sem,↓reduceIte];refine ybk (σ:=List Nat) (fun ws=>⟨[(6,.i .i64 ws.length),(1,.i .i64 n),(0,usV l),(5,.os (100,0) 0 ws.length true)],[(100,.one (some ⟨40,false,1,ws.length,fun k=>[.i .u32 (ws.getD k 0:Nat)]⟩))]⟩) (fun ws=>ws.length<=n/\∀k,ws.getD k 0<2^32) (fun ws=>n-ws.length) [] ⟨zAK _,fun k=>by simp⟩ ?_ ?_
 .refine yh [] [100] [] ?_;simp only[usV,allQ,live,yc,zW,go_sem,zA,↓reduceIte,reduceCtorEq];exact⟨(100,0),rfl,rfl,rfl⟩
 .rintro ws ⟨h1,h2⟩;simp only[ydjz,ydrh,usV,go_sem,zA,zB,↓reduceIte,reduceCtorEq];refine⟨fun hlt=>⟨fun h0=>?_,fun h0=>?_⟩,fun hlt=>?_⟩
  .simp only[ydgp,ydiz,splice,go_sem,zA,zB,zC,zD,↓reduceIte,reduceCtorEq];refine⟨⟨by omega,by omega⟩,ikw (by omega) (by omega),?_⟩
   refine yj (ws++[4294967295]) ⟨by simp;omega,fun k=>?_⟩ (by simp;omega) ?_
   .rw[yvl];split
    .exact h2 k
    .split<;>decide
   refine yh [(100,fun i=>(19,i))] [] [] ?_;simp only[zK,allQ,live,yc,ybb,go_sem,zA,↓reduceIte,reduceCtorEq];refine⟨by omega,fun i hi=>?_⟩
   rw[yvl]
   by_cases q:i<ws.length
   .simp only[if_pos q];simp only[live,yc,go_sem,reduceCtorEq]
   .obtain rfl:i=ws.length:=by omega
    simp only[if_neg q,zU,zN];simp only[live,ybb,go_sem,↓reduceIte,reduceCtorEq];rfl
  .simp only[ydjv,ydll,clash,go_sem,zA,zB,↓reduceIte,reduceCtorEq];have hl0:0<l.length:=by omega
   have t1:(ws.length:Int).tmod (l.length:Int)=((ws.length%l.length:Nat):Int):=(zBZ _ _).symm;have t2:(ws.length:Int).tdiv (l.length:Int)=((ws.length/l.length:Nat):Int):=(Int.ofNat_tdiv _ _).symm;have t3:((ws.length/l.length:Nat):Int).tmod 24=((ws.length/l.length%24:Nat):Int):=(zBZ _ 24).symm;have hlt1:=zCK ws.length hl0;have hle1:=Nat.div_le_self ws.length l.length;obtain⟨D,hD⟩:∃D,ws.length/l.length=D:=⟨_,rfl⟩
   rw[hD]at t2 t3 hle1;obtain⟨K,hK⟩:∃K,D%24=K:=⟨_,rfl⟩;have hK24:K<24:=by rw[<-hK];exact zCK _ (by decide)
   have t4:IntKind.wrap .u64 (K:Int)=K:=by unfold IntKind.wrap;simp[IntKind.bits,IntKind.signed];omega
   simp only[t1,t2,t3,hK,t4]
   generalize IntKind.wrap .u32 _=A
   refine⟨by omega,⟨by omega,by omega⟩,⟨by omega,ikw (by omega) (by omega)⟩,by decide,?_⟩
   simp only[ydgp,ydle,splice,go_sem,zA,zB,zC,zD,↓reduceIte,reduceCtorEq]
   generalize hZ:IntKind.wrap .u32 ((BitVec.toNat _:Nat):Int)=Z
   have hz:0<=Z/\Z<2^32:=by rw[<-hZ];exact wrap32 _
   obtain⟨z,rfl⟩:∃z:Nat,Z=z:=⟨Z.toNat,by omega⟩
   refine⟨⟨by omega,by show _<((32:Nat):Int);omega⟩,⟨by simp[IntKind.min,IntKind.signed];omega,by simp[IntKind.max,IntKind.bits,IntKind.signed];omega⟩,⟨by omega,by show _<((32:Nat):Int);omega⟩,⟨by omega,by omega⟩,ikw (by omega) (by omega),?_⟩
   refine yj (ws++[z]) ⟨by simp;omega,fun k=>?_⟩ (by simp;omega) ?_
   .rw[yvl];split
    .exact h2 k
    .split<;>omega
   refine yh [(100,fun i=>(46,i))] [] [] ?_;simp only[zK,allQ,live,yc,ybb,go_sem,zA,↓reduceIte,reduceCtorEq];refine⟨by omega,fun i hi=>?_⟩
   rw[yvl]
   by_cases q:i<ws.length
   .simp only[if_pos q];simp only[live,yc,go_sem,reduceCtorEq]
   .obtain rfl:i=ws.length:=by omega
    simp only[if_neg q,zU,zN];simp only[live,yc,go_sem,↓reduceIte,reduceCtorEq]
  .simp only[ycji,go_sem,zA,zB,↓reduceIte,reduceCtorEq];exact⟨ws,by omega,h2,Sim.refl _⟩
end Sh
end
section
namespace Sh
open Ev Go.RowKit
def ywd(l:List Int)(k:Nat):Int:=(l.take k).foldl max 0
theorem ycek{l:List Int}(h:∀x∈l,0<=x/\x<=255):∀k,0<=ywd l k/\ywd l k<=255:=by
 intro k;unfold ywd
 have:∀(l:List Int) (a:Int),(∀x∈l,0<=x/\x<=255)->0<=a/\a<=255->0<=l.foldl max a/\l.foldl max a<=255:=by
  intro l
  induction l with
  |nil=>intro a _ h;exact h
  |cons x l ih=>intro a hl ha;exact ih _ (fun y hy=>hl y (zM _ hy)) (by have:=hl x zY;omega)
 exact this _ 0 (fun x hx=>h x (List.mem_of_mem_take hx)) (by omega)
theorem ybns{l:List Int}{k:Nat}(hk:k<l.length):ywd l (k+1)=max (ywd l k) (l.getD k 0):=by
 unfold ywd;rw[zX hk,zAU,getD_at hk];rfl
theorem ycbd{l:List Int}(h:∀x∈l,0<=x/\x<=255)(hl:0<l.length):ywd l l.length=maxI l:=by
 unfold ywd;rw[zAX];exact(ybjw hl fun x hx=>(h x hx).1).symm
theorem ypj{vars:List VarR}{b:VarR->Int×Int}{L:List Int}(h:yeq ((vars.take L.length).map b) L)(hl:L.length<vars.length){y:Int}(hy:(b (vars.getD L.length default)).1<=y/\y<=(b (vars.getD L.length default)).2):yeq ((vars.take (L++[y]).length).map b) (L++[y]):=by
 refine⟨by simp;omega,fun i c x hb hx=>?_⟩
 rw[zK,zBK,zAB]at hb;have hi:i<L.length+1:=by have:=(List.getElem?_eq_some_iff.1 hx).1;simpa using this
 rw[zZ hi]at hb
 by_cases q:i<L.length
 .rw[zAG q]at hx;refine h.2 i c x ?_ hx;rw[zAB,zZ q];exact hb
 .obtain rfl:i=L.length:=by omega
  rw[List.getElem?_append_right (zAA _),zU]at hx;cases hx
  rw[zH hl]at hb;cases hb
  rw[getD_at hl]at hy;exact hy
section
variable {p:ProgT}{g:Gr}
def cfgV(p:ProgT)(g:Gr)(raw:List Int)(v i:Nat):Int:=(ybi g v (p.vars.getD i default)).1+ycw (atP raw (v*p.vars.length+i)) ((ybi g v (p.vars.getD i default)).2-(ybi g v (p.vars.getD i default)).1+1)
def ycaq(p:ProgT)(g:Gr)(raw:List Int)(v:Nat):List Int:=(zG p.vars.length).map (cfgV p g raw v)
theorem ysw{α:Type}{f:Nat->α}{L:List α}{y:α}(h:L=(zG L.length).map f)(hy:y=f L.length):L++[y]=(zG (L++[y]).length).map f:=by
 rw[zK,zBK,zBG,zBF,<-h,hy];rfl
theorem ybik(hg:ybe g)(hp:p.ok=true)(hf:ywh p g=true){raw:List Int}(hr:∀k,inK .i64 (raw.getD k 0)) :
 Ct zJ 24 [grV g,ydm p.vars,yu raw] fun r=>∃c,(ydz p g c=true/\c=(zG g.ports.length).map (ycaq p g raw))/\Sim r (ybm c):=by
 refine ydli _ _ ?_;have hid:=hg.2.2.1;have h24:=hg.2.1;have h1:=hg.1;have hids:=hg.2.2.2.1;simp only[c24,ydnv,ydlg,ydrx,grV,yx,go_sem,zA,zB,zD,↓reduceIte,reduceCtorEq];obtain⟨n,hn⟩:∃n,g.ports.length=n:=⟨_,rfl⟩;refine ybk (σ:=Nat) (fun k=>⟨[(9,.i .i64 k),(8,.i .i64 (ywd g.ids k)),(7,.i .i64 n),(3,.pt (3,0) 0 0),(1,ydm p.vars),(2,yu raw)],[(3,.one (some ⟨27,true,2,1,fun _=>[yu g.ids,yx g.ports]⟩))]⟩) (fun k=>k<=n) (fun k=>n-k) 0 (zAK _) ?_ ?_
 .refine yh [] [] [] ?_;simp only[yx,hn,allQ,live,yc,ybb,zW,go_sem,zA,↓reduceIte,reduceCtorEq];rfl
 .intro k hk;have htop:=ycek hids k;simp only[ydqh,ydns,ydls,ydoa,ydpg,yu,go_sem,zA,zB,zC,↓reduceIte,reduceCtorEq];refine⟨fun hlt=>?_,fun hlt=>?_⟩
  .have hs:=ybns (l:=g.ids) (k:=k) (by omega)
   refine⟨by omega,ikw (by omega) (by omega),?_⟩
   refine yj (k+1) (by omega) (by omega) ?_
   refine yh [] [] [] ?_;simp only[allQ,live,yc,ybb,go_sem,zA,↓reduceIte,reduceCtorEq];exact⟨by omega,hs.symm⟩
  .obtain rfl:k=n:=by omega
   have htm:ywd g.ids k=maxI g.ids:=by rw[<-hn,<-hid];exact ycbd hids (by omega)
   rw[htm]at htop ⊢;obtain⟨top,htp⟩:∃t,maxI g.ids=t:=⟨_,rfl⟩;rw[htp]at htop ⊢;obtain⟨nv,hnv⟩:∃k,p.vars.length=k:=⟨_,rfl⟩;have hp':=hp;unfold ProgT.ok at hp';simp only[zI,decide_eq_true_eq]at hp'
   refine ybk (σ:=Conf) (fun C=>⟨[(11,.i .i64 C.length),(10,.os (300,0) 0 C.length true),(8,.i .i64 top),(7,.i .i64 k),(3,.pt (3,0) 0 0),(1,ydm p.vars),(2,yu raw)],
    [(3,.one (some ⟨27,true,2,1,fun _=>[yu g.ids,yx g.ports]⟩)),(300,.one (some ⟨22,false,1,C.length,fun j=>[yu (C.getD j [])]⟩))]⟩)
    (fun C=>(C.length<=k/\∀v,v<C.length->yeq (p.vars.map (ybi g v)) (C.getD v []))/\C=(zG C.length).map (ycaq p g raw)) (fun C=>k-C.length) [] ⟨⟨zAK _,fun v hv=>absurd hv (zBH v)⟩,rfl⟩ ?_ ?_
   .refine yh [] [300] [] ?_;simp only[yu,yx,allQ,live,yc,zW,go_sem,zA,zF,↓reduceIte,reduceCtorEq];exact⟨(300,0),rfl,rfl,rfl⟩
   .rintro C ⟨⟨hC1,hC2⟩,hC3⟩;simp only[ydkv,yczi,ycjt,yu,go_sem,zA,zB,↓reduceIte,reduceCtorEq];refine⟨fun hlt=>?_,fun hlt=>?_⟩
    .refine ybk (σ:=List Int) (fun L=>⟨[(13,.i .i64 L.length),(12,.os (301,0) 0 L.length true),(11,.i .i64 C.length),(10,.os (300,0) 0 C.length true),(8,.i .i64 top),(7,.i .i64 k),(3,.pt (3,0) 0 0),(1,ydm p.vars),(2,yu raw)],
      [(301,.one (some ⟨3,false,1,L.length,fun j=>[.i .i64 (L.getD j 0)]⟩)),(3,.one (some ⟨27,true,2,1,fun _=>[yu g.ids,yx g.ports]⟩)),(300,.one (some ⟨22,false,1,C.length,fun j=>[yu (C.getD j [])]⟩))]⟩)
      (fun L=>(L.length<=nv/\yeq ((p.vars.take L.length).map (ybi g C.length)) L)/\L=(zG L.length).map (cfgV p g raw C.length)) (fun L=>nv-L.length) [] ⟨⟨zAK _,rfl,fun i b x hb=>by simp at hb⟩,rfl⟩ ?_ ?_
     .refine yh [] [301] [] ?_;simp only[yu,yx,allQ,live,yc,zW,go_sem,zA,zF,↓reduceIte,reduceCtorEq];exact⟨(301,0),rfl,rfl,rfl⟩
     .rintro L ⟨⟨hL1,hL2⟩,hL3⟩;obtain⟨x,hx⟩:∃x,p.vars.getD L.length default=x:=⟨_,rfl⟩;simp only[ydak,yckm,yczd,yu,ydm,hnv,hx,varC,clash,go_sem,zA,zB,zC,↓reduceIte,reduceCtorEq];refine⟨fun hlt2=>?_,fun hlt2=>?_⟩
      .have hLn:L.length<p.vars.length:=by omega
       have hxm:x∈p.vars:=by rw[<-hx,getD_at hLn];exact zV _
       have hxo:=List.all_eq_true.1 hp'.1.1.2 x hxm;have hvo:=ybgi hxo;obtain⟨hb1,hb2⟩:=yod hg hxo;rw[hid,hn]at hb1;rw[htp]at hb2;have hbn:=ybln hg hp hf hxm C.length;have hidx:(C.length:Int)*(nv:Int)+(L.length:Int)=((C.length*nv+L.length:Nat):Int):=by push_cast;rfl
       have hdeg:=hg.deg_lt (v:=C.length);have hmi:(C.length:Int)*(nv:Int)=((C.length*nv:Nat):Int):=by push_cast;rfl
       have hmul:C.length*nv<=24*6:=Nat.mul_le_mul (by omega) (by omega)
       have hAt:=at_ret raw (C.length*nv+L.length);have hav:inK .i64 (atP raw (C.length*nv+L.length)):=hr _;simp only[yu]at hAt;refine⟨by omega,by omega,by omega,ikw (by omega) (by omega),ikw (by omega) (by omega),by omega,ikw (by omega) (by omega),ikw (by omega) (by omega),by omega,?_⟩
       rcases hvo.1 with hkk|hkk|hkk
       .have hbt:ybi g C.length x=(x.lo,x.hi+x.perNode*(k:Int)+x.perID*top):=by
         unfold ybi;rw[if_pos hkk,hid,hn,htp]
        rw[hbt]at hbn;simp only[]at hbn;simp only[hkk];simp only[ybmd,ybmf,ybkr,yblh,yblf,clash,zCC,hidx,go_sem,zA,zB,↓reduceIte,reduceCtorEq];refine⟨by rw[hmi];exact ikw (by omega) (by omega),ikw (by omega) (by omega),hAt.use ?_⟩
        simp only[ybg,go_sem,zA,zB,zD,↓reduceIte,reduceCtorEq];have hW:=yfo (atP raw (C.length*nv+L.length)) (x.hi+x.perNode*(k:Int)+x.perID*top-(x.lo)+1) (by omega) hav
        obtain⟨w1,w2⟩:=yfn (v:=atP raw (C.length*nv+L.length)) (m:=x.hi+x.perNode*(k:Int)+x.perID*top-(x.lo)+1) (by omega)
        generalize hWe:ycw (atP raw (C.length*nv+L.length)) (x.hi+x.perNode*(k:Int)+x.perID*top-(x.lo)+1)=W at hW w1 w2
        refine⟨ikw (by omega) (by omega),ikw (by omega) (by omega),hW.use ?_⟩
        simp only[ybkt,go_sem,zA,zB,zC,↓reduceIte,reduceCtorEq];refine⟨ikw (by omega) (by omega),⟨by omega,by omega⟩,ikw (by omega) (by omega),?_⟩
        refine yj (L++[x.lo+W]) ⟨⟨by simp;omega,ypj hL2 hLn (by rw[hx,hbt];exact⟨by simp only[];omega,by simp only[];omega⟩)⟩,ysw hL3 (by unfold cfgV;rw[hx,hbt,hnv];simp only[];rw[hWe])⟩ (by simp;omega) ?_
        refine yh [(301,fun i=>(101,i))] [] [] ?_;simp only[yx,ybc,hn,zK,allQ,live,yc,ybb,go_sem,zA,↓reduceIte,reduceCtorEq];refine⟨by omega,fun i hi=>?_⟩
        rw[yvl]
        by_cases q:i<L.length
        .simp only[if_pos q];simp only[live,yc,go_sem,reduceCtorEq]
        .obtain rfl:i=L.length:=by omega
         simp only[if_neg q,zU,zN];simp only[live,yc,go_sem,↓reduceIte,reduceCtorEq]
       .have hbt:ybi g C.length x=(0,1):=by
         unfold ybi;rw[if_neg (by omega),if_pos hkk]
        rw[hbt]at hbn;simp only[]at hbn;simp only[hkk];simp only[ybmd,ybmf,ybkr,yblh,yblf,clash,hidx,go_sem,zA,zB,↓reduceIte,reduceCtorEq];refine⟨by rw[hmi];exact ikw (by omega) (by omega),ikw (by omega) (by omega),hAt.use ?_⟩
        simp only[ybg,go_sem,zA,zB,zD,↓reduceIte,reduceCtorEq];have hW:=yfo (atP raw (C.length*nv+L.length)) (1-(0)+1) (by omega) hav
        obtain⟨w1,w2⟩:=yfn (v:=atP raw (C.length*nv+L.length)) (m:=1-(0)+1) (by omega)
        generalize hWe:ycw (atP raw (C.length*nv+L.length)) (1-(0)+1)=W at hW w1 w2
        refine⟨ikw (by omega) (by omega),ikw (by omega) (by omega),hW.use ?_⟩
        simp only[ybkt,go_sem,zA,zB,zC,↓reduceIte,reduceCtorEq];refine⟨ikw (by omega) (by omega),⟨by omega,by omega⟩,ikw (by omega) (by omega),?_⟩
        refine yj (L++[0+W]) ⟨⟨by simp;omega,ypj hL2 hLn (by rw[hx,hbt];exact⟨by simp only[];omega,by simp only[];omega⟩)⟩,ysw hL3 (by unfold cfgV;rw[hx,hbt,hnv];simp only[];rw[hWe])⟩ (by simp;omega) ?_
        refine yh [(301,fun i=>(101,i))] [] [] ?_;simp only[yx,ybc,hn,zK,allQ,live,yc,ybb,go_sem,zA,↓reduceIte,reduceCtorEq];refine⟨by omega,fun i hi=>?_⟩
        rw[yvl]
        by_cases q:i<L.length
        .simp only[if_pos q];simp only[live,yc,go_sem,reduceCtorEq]
        .obtain rfl:i=L.length:=by omega
         simp only[if_neg q,zU,zN];simp only[live,yc,go_sem,↓reduceIte,reduceCtorEq]
       .have hbt:ybi g C.length x=(-1,((g.ports.getD C.length []).length:Int)-1):=by
         unfold ybi;rw[if_neg (by omega),if_neg (by omega),if_pos hkk]
        rw[hbt]at hbn;simp only[]at hbn;simp only[hkk];simp only[ybmd,ybmf,ybkr,yblh,yblf,clash,zCC,hidx,yx,ybc,hn,go_sem,zA,zB,↓reduceIte,reduceCtorEq];refine⟨by omega,ikw (by omega) (by omega),by rw[hmi];exact ikw (by omega) (by omega),ikw (by omega) (by omega),hAt.use ?_⟩
        simp only[ybg,go_sem,zA,zB,zD,↓reduceIte,reduceCtorEq];have hW:=yfo (atP raw (C.length*nv+L.length)) (((g.ports.getD C.length []).length:Int)-1-(-1)+1) (by omega) hav
        obtain⟨w1,w2⟩:=yfn (v:=atP raw (C.length*nv+L.length)) (m:=((g.ports.getD C.length []).length:Int)-1-(-1)+1) (by omega)
        generalize hWe:ycw (atP raw (C.length*nv+L.length)) (((g.ports.getD C.length []).length:Int)-1-(-1)+1)=W at hW w1 w2
        refine⟨ikw (by omega) (by omega),ikw (by omega) (by omega),hW.use ?_⟩
        simp only[ybkt,go_sem,zA,zB,zC,↓reduceIte,reduceCtorEq];refine⟨ikw (by omega) (by omega),⟨by omega,by omega⟩,ikw (by omega) (by omega),?_⟩
        refine yj (L++[-1+W]) ⟨⟨by simp;omega,ypj hL2 hLn (by rw[hx,hbt];exact⟨by simp only[];omega,by simp only[];omega⟩)⟩,ysw hL3 (by unfold cfgV;rw[hx,hbt,hnv];simp only[];rw[hWe])⟩ (by simp;omega) ?_
        refine yh [(301,fun i=>(101,i))] [] [] ?_;simp only[zK,allQ,live,yc,ybb,go_sem,zA,↓reduceIte,reduceCtorEq];refine⟨by omega,fun i hi=>?_⟩
        rw[yvl]
        by_cases q:i<L.length
        .simp only[if_pos q];simp only[live,yc,go_sem,reduceCtorEq]
        .obtain rfl:i=L.length:=by omega
         simp only[if_neg q,zU,zN];simp only[live,yc,go_sem,↓reduceIte,reduceCtorEq]
      .have hLe:L.length=nv:=by omega
       rw[hLe,<-hnv,zAX]at hL2;simp only[ydpc,ycte,splice,go_sem,zA,zB,zC,zD,↓reduceIte,reduceCtorEq];refine⟨⟨by omega,by omega⟩,ikw (by omega) (by omega),?_⟩
       refine yj (C++[L]) ⟨⟨by simp;omega,fun v hv=>?_⟩,ysw hC3 (by unfold ycaq;rw[hnv,<-hLe];exact hL3)⟩ (by simp;omega) ?_
       .rw[yvl];split
        .exact hC2 v (by assumption)
        .have:v=C.length:=by simp at hv;omega
         subst this;rw[if_pos rfl];exact hL2
       refine yh [(300,fun i=>(105,i))] [] [(301,0)] ?_;simp only[yx,ybc,hn,zK,allQ,live,yc,ybb,go_sem,zA,zC,↓reduceIte,reduceCtorEq];refine⟨by omega,fun i hi=>?_⟩
       have e:=yvl C L [] i;rw[e]
       by_cases q:i<C.length
       .simp only[if_pos q];simp only[go_sem,live,yc,go_sem,reduceCtorEq]
       .obtain rfl:i=C.length:=by omega
        simp only[if_neg q,zU,zN,if_true];simp only[go_sem,live,yc,go_sem,zA,↓reduceIte,reduceCtorEq]
    .simp only[ycjv,go_sem,zA,zB,↓reduceIte,reduceCtorEq];refine⟨C,⟨(yfd _ _ _).2 ⟨by omega,fun v st hst=>?_⟩,?_⟩,Sim.refl _⟩
     rotate_left
     .have e:=hC3;rw[show C.length=g.ports.length by omega]at e
      exact e
     have hv:=(List.getElem?_eq_some_iff.1 hst).1;have:=hC2 v hv
     rwa [zL,hst]at this
theorem ybnv(hg:ybe g)(hp:p.ok=true)(hf:ywh p g=true){raw:List Int}(hr:∀k,inK .i64 (raw.getD k 0)) :
 Ct zJ 24 [grV g,ydm p.vars,yu raw] fun r=>∃c,ydz p g c=true/\Sim r (ybm c) :=
 (ybik hg hp hf hr).mono fun _ ⟨c,h1,h2⟩=>⟨c,h1.1,h2⟩
end
end Sh
end
section
namespace Sh
open Ev Go.RowKit
def blV(l:List Bool):SV:=.sl 1 l.length (fun k=>[.b (l.getD k false)])
def yqf(l:List Bool)(k:Nat):Bool:=(l.take k).any id
theorem ybms{l:List Bool}{k:Nat}(hk:k<l.length):yqf l (k+1)=(yqf l k||l.getD k false):=by
 unfold yqf;rw[zX hk,zBV,getD_at hk];simp
structure HeldOk(legit:List Bool)(ks:List Cnt)(rounds moves:Int)(ended:Bool):Prop where
 len:legit.length=ks.length
 pos:0<legit.length
 stays:∀i,i<legit.length->yqf legit i=true->legit.getD i false=true
 rounds:∀i,i<legit.length->yqf legit (i+1)=false->((ks.getD i default).begun:Int)<=rounds
 moves:∀i,i<legit.length->yqf legit (i+1)=false->0<=moves->((ks.getD i default).moves:Int)<=moves
 ends:yqf legit legit.length=true\/ended=false
def yha(kind:Int)(fair silent:Bool)(rounds moves:Int):List SV:=[.i .i64 kind,.b fair,.b silent,.i .i64 rounds,.i .i64 moves]
theorem ycgc{legit:List Bool}{ks:List Cnt}{kind rounds moves:Int}{fair silent ended:Bool}(h:HeldOk legit ks rounds moves ended)(hl:legit.length<=100000) :
 Returns zJ 38 [blV legit,yey ks,.ag (yha kind fair silent rounds moves),.b ended] (.b true):=by
 refine Returns.of (ydmz _ _ ?_);obtain⟨n,hn⟩:∃n,legit.length=n:=⟨_,rfl⟩;have hkn:ks.length=n:=by rw[<-h.len];exact hn
 have hpos:=h.pos;rw[hn]at hpos hl;have f1:((n:Int)!=(n:Int))=false:=by simp
 have f2:((n:Int)==0)=false:=by simp;omega
 simp only[c38,ydjo,ydru,ydji,ydkw,ydof,blV,yey,yha,hn,hkn,f1,f2,go_sem,zA,zB,zD,↓reduceIte,reduceCtorEq];refine ybk (σ:=Nat) (fun k=>⟨[(10,.i .i64 k),(9,.b (yqf legit k)),(6,.pt (6,0) 0 0),(0,blV legit),(1,yey ks),(3,.b ended)],[(6,.one (some ⟨51,true,5,1,fun _=>yha kind fair silent rounds moves⟩))]⟩) (fun k=>k<=n) (fun k=>n-k) 0 (zAK _) ?_ ?_
 .refine yh [] [] [] ?_;simp only[blV,yey,yha,hn,hkn,allQ,live,yc,yig,zW,go_sem,zA,↓reduceIte,reduceCtorEq];rfl
 .intro k hk;obtain⟨a0,ha0⟩:∃b,yqf legit k=b:=⟨_,rfl⟩;obtain⟨lk,hlk⟩:∃b,legit.getD k false=b:=⟨_,rfl⟩;rw[ha0]
  by_cases hlt:k<n
  .have hs:=h.stays k (by omega)
   have hr:=h.rounds k (by omega)
   have hm:=h.moves k (by omega)
   have hsucc:=ybms (l:=legit) (k:=k) (by omega)
   rw[ha0,hlk]at hsucc hs;have c1:decide ((k:Int)<(n:Int))=true:=by simp;omega
   cases a0<;>cases lk
   .have g1:decide ((((ks.getD k default).begun:Nat):Int)>rounds)=false:=by simp;exact hr hsucc
    by_cases hmv:moves>=0
    .have g2:decide (moves>=0)=true:=by simp;omega
     have g3:decide ((((ks.getD k default).moves:Nat):Int)>moves)=false:=by simp;exact hm hsucc hmv
     simp(maxSteps:=5000000) only [ybot,yzi,ybxv,ybwx,ybel,yzi,blV,yey,cntV,yha,hn,hkn,c1,hlk,clash,g1,g2,g3,go_sem,zA,zB,zC,↓reduceIte,reduceCtorEq];refine⟨by omega,by omega,by omega,ikw (by omega) (by omega),?_⟩
     refine yj (k+1) (by omega) (by omega) ?_
     refine yh [] [] [] ?_;simp only[hsucc,zBM,allQ,live,yc,ybb,go_sem,zA,↓reduceIte,reduceCtorEq];omega
    .have g2:decide (moves>=0)=false:=by simp;omega
     simp(maxSteps:=5000000) only [ybot,yzi,ybxv,ybwx,ybel,yzi,blV,yey,cntV,yha,hn,hkn,c1,hlk,clash,g1,g2,go_sem,zA,zB,zC,↓reduceIte,reduceCtorEq];refine⟨by omega,by omega,ikw (by omega) (by omega),?_⟩
     refine yj (k+1) (by omega) (by omega) ?_
     refine yh [] [] [] ?_;simp only[hsucc,zBM,allQ,live,yc,ybb,go_sem,zA,↓reduceIte,reduceCtorEq];omega
   .simp(maxSteps:=5000000) only [ybot,yzi,ybxv,ybwx,ybel,yzi,blV,yey,cntV,yha,hn,hkn,c1,hlk,clash,go_sem,zA,zB,↓reduceIte,reduceCtorEq];refine⟨by omega,ikw (by omega) (by omega),?_⟩
    refine yj (k+1) (by omega) (by omega) ?_
    refine yh [] [] [] ?_;simp only[hsucc,Bool.or_true,allQ,live,yc,ybb,go_sem,zA,↓reduceIte,reduceCtorEq];omega
   .exact absurd (hs rfl) (by simp)
   .simp(maxSteps:=5000000) only [ybot,yzi,ybxv,ybwx,ybel,yzi,blV,yey,cntV,yha,hn,hkn,c1,hlk,clash,go_sem,zA,zB,↓reduceIte,reduceCtorEq];refine⟨by omega,ikw (by omega) (by omega),?_⟩
    refine yj (k+1) (by omega) (by omega) ?_
    refine yh [] [] [] ?_;simp only[hsucc,zBM,allQ,live,yc,ybb,go_sem,zA,↓reduceIte,reduceCtorEq];omega
  .obtain rfl:k=n:=by omega
   have c1:decide ((k:Int)<(k:Int))=false:=by simp
   have he:=h.ends;rw[hn,ha0]at he;simp(maxSteps:=5000000) only [ybot,yctm,blV,yey,yha,hn,hkn,c1,go_sem,zA,zB,↓reduceIte,reduceCtorEq];cases a0
   .rcases he with he|he
    .cases he
    .subst he;simp only[yig,go_sem]
   .simp only[yig,go_sem]
theorem ydfo{Q1 Q2:(Nat->Option ABlk)->Value->Prop}{p:ProgT}{g:Gr}{t:ByteArray}(hpr:Returns zJ 37 [.a (.string t)] (.ag (yez Q1 Q2 p.raw)))(h:Checked Q1 Q2 p g){kind:Int}(hk:1<=kind/\kind<=4){res:Nat->Nat->Nat}(hd:DaemonOk kind (g.ports.map netP) res){c:Conf}(hc:ydz p g c=true){ws:List Nat}(hw:∀k,ws.getD k 0<2^32)(hwl:ws.length<=4000) :
 Returns zJ 22 [.a (.string t),grV g,.i .i64 kind,ybm c,usV ws] (.tp [yew (((ybr p g).runs res ws c).map (·.1)),yey (((ybr p g).runs res ws c).map (·.2)),.b true]):=by
 refine Returns.of (ydrg _ _ ?_);have hX:=ybwy h hk hd hc hw hwl;obtain⟨R,hR⟩:∃R,(ybr p g).runs res ws c=R:=⟨_,rfl⟩;rw[hR]at hX ⊢;have hRl:0<R.length:=by rw[<-hR];simp[Sys.runs]
 obtain⟨m,hm⟩:∃m,R.length=m:=⟨_,rfl⟩;rw[hm]at hRl;have f1:((m:Int)==(m:Int))=true:=by simp
 have f2:decide ((m:Int)>0)=true:=by simp;omega
 simp only[yez]at hpr hX;simp only[grV,usV,yew,yey,zQ,hm]at hX;simp only[c22,ydrq,ydoy,grV,usV,clash,go_sem,zB,zD,↓reduceIte,reduceCtorEq];refine hpr.use ?_;simp only[ybg,clash,go_sem,zA,zB,↓reduceIte,reduceCtorEq];refine hX.use ?_;simp(maxSteps:=5000000) only [ydoi,clash,f1,f2,go_sem,zA,zB,↓reduceIte,reduceCtorEq];refine⟨by decide,?_⟩
 unfold yew yey;rw[zQ,zQ,hm];exact Sim.refl _
end Sh
end
section
namespace Sh
open Ev Go.RowKit
theorem ycfe{n nv:Nat}{c:Conf}(h:ConfIn n nv c):ycfl c:=fun s hs x hx=>by
 have:=(h.row s hs).2 x hx;unfold InB at this;exact yfi (by omega)
end Sh
end
section
namespace Sh
open Go Ev
end Sh
end
section
namespace Sh
open Ev Go.RowKit
theorem ybpj{g:Gr}(hI:GrI g):Returns zJ 85 [grV g] (.b (yco g)):=by
 refine ytq ⟨_,_,Tryz.func85,rfl⟩ (fun _=>.b) (fun _=>.simple rfl) fun G m us hG hr φ M w us' hRl hs hv=>?_;obtain⟨u,rfl,h1⟩:=rvl1 hr;obtain⟨u',rfl,h2⟩:=yfa hv;exact yhy u' g w (ybpq hG h1 h2 hRl hs hI)
theorem yxf{R:List Int}{x:Int}{ls:List (Int×Int)}{i:Nat}(hi:i<ls.length):yll R x (ls.take (i+1))=(yll R x (ls.take i)||decide (R[(ls.getD i (0,0)).1.toNat]?=some x)):=by
 unfold yll;rw[zX hi,zBV,getD_at hi];simp
end Sh
end
section
structure Tgt(S:Sys)(V:Conf->Prop)(T:Conf->Nat->List Int):Prop where
 valid:∀c s,V c->s≠0->subB s (S.en c)->V (S.mv c s)
 stay:∀c s v,V c->v<S.n->s.testBit v=false->(S.mv c s).getD v []=c.getD v []
 move:∀c s v,V c->v<S.n->s.testBit v=true->subB s (S.en c)->(S.mv c s).getD v []=T c v
 en:∀c v,V c->v<S.n->((S.en c).testBit v=false↔c.getD v []=T c v)
theorem Tgt.rounds{S:Sys}{V:Conf->Prop}{T:Conf->Nat->List Int}(h:Tgt S V T){P:Nat->Nat->List Int->Prop}(hT:∀c v r,V c->v<S.n->(∀u,u<S.n->P r u (c.getD u []))->P (r+1) v (T c v))(hl:∀r v s,P (r+1) v s->P r v s):ByRounds S V P where
 valid:=h.valid
 stay:=h.stay
 move:=fun c s v r hv hn hb hs hall=>by rw[h.move c s v hv hn hb hs];exact hT c v r hv hn hall
 rest:=fun c v r hv hn hb hall=>by rw[(h.en c v hv hn).1 hb];exact hT c v r hv hn hall
 less:=hl
theorem Tgt.silent{S:Sys}{V:Conf->Prop}{T:Conf->Nat->List Int}(h:Tgt S V T){P:Nat->Nat->List Int->Prop}(hT:∀c v r,V c->v<S.n->(∀u,u<S.n->P r u (c.getD u []))->P (r+1) v (T c v)){c:Conf}(hv:V c)(h0:∀v,v<S.n->P 0 v (c.getD v []))(he:S.en c=0):∀r v,v<S.n->P r v (c.getD v [])
 |0,v,hn=>h0 v hn
 | r+1,v,hn=>by
   rw[(h.en c v hv hn).1 (by rw[he];simp)]
   exact hT c v r hv hn (Tgt.silent h hT hv h0 he r)
theorem Sys.run_last{S:Sys}{res:Nat->Nat->Nat}:∀(ws:List Nat) (c:Conf) (k:Cnt) (i:Nat),i+1<(S.run res ws c k).length->∀p,(S.run res ws c k)[i]?=some p->S.en p.1≠0
 |[],c,k,i,h,p,hp=>by simp[Sys.run]at h
 | w :: ws,c,k,i,h,p,hp=>by
   unfold Sys.run at h hp;split at h
   .simp at h
   .rename_i h0
    rw[if_neg h0]at hp;cases i with
    | zero =>
      simp only[zBE]at hp;cases hp
      simp only[zAY]at h;cases ws with
      |nil=>simp[Sys.run]at h
      | cons w' ws =>
        unfold Sys.run at h;split at h
        .simp at h
        .assumption
    |succ i=>exact Sys.run_last ws _ _ i (by simpa using h) p (by simpa using hp)
theorem Sys.runs_last{S:Sys}{res:Nat->Nat->Nat}{ws:List Nat}{c:Conf}{i:Nat}(h:i+1<(S.runs res ws c).length){p:Conf×Cnt}(hp:(S.runs res ws c)[i]?=some p):S.en p.1≠0:=by
 unfold Sys.runs at h hp;cases i with
 | zero =>
   simp only[zBE]at hp;cases hp
   cases ws with
   |nil=>simp[Sys.run]at h
   | cons w ws =>
     unfold Sys.run at h;split at h
     .simp at h
     .assumption
 |succ i=>exact Sys.run_last ws _ _ i (by simpa using h) p (by simpa using hp)
end
section
open Go.RowKit
end
section
def ygl(g:Gr):Nat:=(g.ports.map zCH).sum
def addL(back:Bool)(l:List (Int×Int))(x:Int×Int):List (Int×Int):=if back then x::l else l++[x]
theorem yen{back:Bool}{l:List (Int×Int)}{x y:Int×Int}:y∈addL back l x↔y=x\/y∈l:=by
 unfold addL;cases back<;>simp[or_comm]
def yci(back:Bool)(g:Gr)(a b:Nat)(w:Int):Gr:=⟨g.ids,(g.ports.set a (addL back (g.ports.getD a []) (b,w))).set b (addL back (g.ports.getD b []) (a,w))⟩
theorem yec(back:Bool)(g:Gr){a b:Nat}(w:Int)(ha:a<g.ports.length)(hb:b<g.ports.length)(v:Nat) :
 (yci back g a b w).ports.getD v []=if v=b then addL back (g.ports.getD b []) (a,w)else if v=a then addL back (g.ports.getD a []) (b,w)else g.ports.getD v []:=by
 unfold yci;simp only[zL]
 by_cases h1:v=b
 .subst h1;rw[if_pos rfl,zAJ (by simpa using hb)]
  rfl
 .rw[if_neg h1,zAO (fun q=>h1 q.symm)]
  by_cases h2:v=a
  .subst h2;rw[if_pos rfl,zAJ ha];rfl
  .rw[if_neg h2,zAO (fun q=>h2 q.symm)]
theorem yrc{back:Bool}{l:List (Int×Int)}{v n:Int}{x:Int×Int}(h:ycg l v n)(hx:yiu v n x)(hno:∀y∈l,y.1≠x.1):ycg (addL back l x) v n:=by
 refine⟨fun y hy=>?_,?_⟩
 .rcases yen.1 hy with rfl|hy
  .exact hx
  .exact h.1 y hy
 .have hn:x.1∉l.map (·.1):=fun hm=>by
   obtain⟨y,hy,e⟩:=List.mem_map.1 hm;exact hno y hy e
  unfold addL;cases back
  .simp only[zBN,if_false,zBF,zAD,List.map_nil];rw[zBP];refine⟨h.2,by simp,fun p hp q hq=>?_⟩
   rw[List.mem_singleton]at hq;subst hq;intro e;exact hn (e▸hp)
  .simp only[if_true,zAD];exact List.nodup_cons.2 ⟨hn,h.2⟩
theorem ybca{back:Bool}{g:Gr}(hg:ybe g){a b:Nat}{w:Int}(ha:a<g.ports.length)(hb:b<g.ports.length)(hab:a≠b)(hw:1<=w/\w<=15)(hno:∀y∈g.ports.getD a [],y.1≠(b:Int)):ybe (yci back g a b w):=by
 obtain⟨h1,h2,h3,h4,h5,h6,h7⟩:=hg;have hlen:(yci back g a b w).ports.length=g.ports.length:=by simp[yci]
 have gd:∀(v:Nat) (hv:v<g.ports.length),g.ports.getD v []=g.ports[v]:=fun v hv=>by simp[zL,hv]
 have hno2:∀y∈g.ports.getD b [],y.1≠(a:Int):=fun y hy e=>by
  rw[gd b hb]at hy;have:=h7 ⟨b,hb⟩ y hy;rw[e,zAV]at this;exact hno _ this rfl
 have at_:∀(v:Nat) (hv:v<g.ports.length),(yci back g a b w).ports[v]'(by rw[hlen];exact hv)=if v=b then addL back (g.ports.getD b []) (a,w)else if v=a then addL back (g.ports.getD a []) (b,w)else g.ports.getD v []:=fun v hv=>by
  rw[<-yec back g w ha hb v];simp[zL,hlen,hv]
 refine⟨by rw[hlen];exact h1,by rw[hlen];exact h2,by rw[hlen];exact h3,h4,h5,fun v=>?_,fun v l hl=>?_⟩
 .have hv:v.1<g.ports.length:=zBO v.isLt hlen;have hl':(((yci back g a b w).ports.length:Nat):Int)=(g.ports.length:Int):=by rw[hlen]
  rw[hl'];show ycg ((yci back g a b w).ports[v.1]) _ _;rw[at_ v.1 hv];split
  .rename_i e
   rw[e];refine yrc ?_ ⟨by simp only[];omega,by simp only[];omega,by simp only[];omega,hw.1,hw.2⟩ hno2
   rw[gd b hb];exact h6 ⟨b,hb⟩
  .split
   .rename_i e
    rw[e];refine yrc ?_ ⟨by simp only[];omega,by simp only[];omega,by simp only[];omega,hw.1,hw.2⟩ hno
    rw[gd a ha];exact h6 ⟨a,ha⟩
   .rw[gd v.1 hv];exact h6 ⟨v.1,hv⟩
 .have hv:v.1<g.ports.length:=zBO v.isLt hlen
  change l∈(yci back g a b w).ports[v.1]at hl
  rw[at_ v.1 hv]at hl
  have old:∀u x,x∈g.ports.getD u []->x∈(yci back g a b w).ports.getD u []:=fun u x hx=>by
   rw[yec back g w ha hb u];split
   .rename_i e;subst e;exact yen.2 (.inr hx)
   .split
    .rename_i e;subst e;exact yen.2 (.inr hx)
    .exact hx
  have sym:∀(u:Nat) (hu:u<g.ports.length),l∈g.ports.getD u []->((u:Int),l.2)∈(yci back g a b w).ports.getD l.1.toNat []:=fun u hu hx=>by
   rw[gd u hu]at hx;exact old _ _ (h7 ⟨u,hu⟩ l hx)
  split at hl
  .rename_i e
   rcases yen.1 hl with rfl|hl
   .rw[yec back g w ha hb,e];simp only[zAV];simp only[if_neg hab,if_true];exact yen.2 (.inl rfl)
   .rw[e];exact sym b hb hl
  .split at hl
   .rename_i e
    rcases yen.1 hl with rfl|hl
    .rw[yec back g w ha hb,e];simp only[zAV];simp only[if_true];exact yen.2 (.inl rfl)
    .rw[e];exact sym a ha hl
   .exact sym v.1 hv hl
end
section
def Tre(g:Gr)(m:Nat):Prop:=∀v,0<v->v<m->∃u,u<v/\adj g u v
theorem Tre.walk{g:Gr}{m:Nat}(h:Tre g m):∀v,v<m->∃k,Walk g 0 k v:=by
 intro v
 induction v using Nat.strongRecOn with
 | _ v ih =>
   intro hv
   by_cases h0:v=0
   .subst h0;exact⟨0,rfl⟩
   .obtain⟨u,hu,ha⟩:=h v (by omega) hv
    obtain⟨k,hk⟩:=ih u hu (by omega)
    exact⟨k+1,u,hk,ha⟩
theorem Tre.conn{g:Gr}(hg:ybe g)(h:Tre g g.ports.length):yed g=true:=by
 unfold yed;rw[(ych g).2 hg,zCD,ybin hg (a:=0) (by have:=hg.1;omega)]
 exact h.walk
theorem yjg{g:Gr}{u v:Nat}:adj g u v↔∃l,l∈g.ports.getD u []/\l.1=(v:Int):=by
 constructor
 .rintro⟨ls,h,l,hl,e⟩;exact⟨l,by simpa[zL,h]using hl,e⟩
 .rintro⟨l,hl,e⟩;cases h:g.ports[u]? with
  |none=>simp[zL,h]at hl
  |some ls=>exact⟨ls,h,l,by simpa[zL,h]using hl,e⟩
theorem ybha{back:Bool}{g:Gr}{a b:Nat}{w:Int}(ha:a<g.ports.length)(hb:b<g.ports.length){u v:Nat}(h:adj g u v):adj (yci back g a b w) u v:=by
 obtain⟨l,hl,e⟩:=yjg.1 h;refine yjg.2 ⟨l,?_,e⟩;rw[yec back g w ha hb u];split
 .rename_i q;subst q;exact yen.2 (.inr hl)
 .split
  .rename_i q;subst q;exact yen.2 (.inr hl)
  .exact hl
theorem ybjc{back:Bool}{g:Gr}{a b:Nat}{w:Int}(ha:a<g.ports.length)(hb:b<g.ports.length)(hab:a≠b):adj (yci back g a b w) a b:=by
 refine yjg.2 ⟨((b:Int),w),?_,rfl⟩;rw[yec back g w ha hb a,if_neg hab,if_pos rfl];exact yen.2 (.inl rfl)
theorem Tre.add{back:Bool}{g:Gr}{a b:Nat}{w:Int}(ha:a<g.ports.length)(hb:b<g.ports.length){m:Nat}(h:Tre g m):Tre (yci back g a b w) m:=fun v h0 hv=>by
 obtain⟨u,hu,hadj⟩:=h v h0 hv;exact⟨u,hu,ybha ha hb hadj⟩
def bare(ids:List Int):Gr:=⟨ids,zCA ids.length []⟩
theorem ybzi{ids:List Int}(h1:1<=ids.length)(h2:ids.length<=24)(h3:∀x∈ids,0<=x/\x<=255)(h4:ids.Nodup):ybe (bare ids):=by
 have e:∀v:Fin (bare ids).ports.length,(bare ids).ports[v]=[]:=fun v=>by
  have hv:v.1<ids.length:=by have:=v.isLt;simpa[bare]using this
  show(zCA ids.length ([]:List (Int×Int)))[v.1]'(by simpa using hv)=[]
  exact List.getElem_replicate ..
 refine⟨by simpa[bare]using h1,by simpa[bare]using h2,by simp[bare],h3,h4,fun v=>?_,fun v l hl=>?_⟩
 .rw[e v];exact⟨fun l hl=>(nomatch hl),List.nodup_nil⟩
 .rw[e v]at hl;cases hl
end
section
abbrev eNum(k:Int):Ex:=.leaf 1 k
abbrev ybyw:Ex:=.leaf 4 0
abbrev eVar(k:Int):Ex:=.leaf 5 k
abbrev eN:Ex:=.leaf 6 0
abbrev eQ(k:Int):Ex:=.leaf 12 k
theorem yum{α:Type}(g:Gr)(v:Nat)(f:Int×Int->α)(h:Nat->α)(e:∀q,q<(g.ports.getD v []).length->h q=f ((g.ports.getD v []).getD q (0,0))):(zG (g.ports.getD v []).length).map h=(g.ports.getD v []).map f:=by
 refine zBR (by simp) fun i h1 h2=>?_
 have hi:i<(g.ports.getD v []).length:=by simpa using h1
 rw[zAL,List.getElem_range,zAL,e i hi];congr 1;rw[zAE,zH hi];rfl
def endP(c:Conf)(k:Nat)(l:Int×Int):Int:=(c.getD l.1.toNat []).getD k 0
theorem yom(b:Bool):(ybu b != 0)=b:=by cases b<;>rfl
section
variable {nm nd np nt nl:ByteArray}{g:Gr}{c:Conf}{v:Nat}
theorem bT1{x:ByteArray}:ybi g v ⟨x,1,0,0,1,0⟩=(0,0+1*(g.ids.length:Int)+0*maxI g.ids):=by
 show(if (1:Int)=1 then _ else _)=_
 rw[if_pos rfl]
end
end
section
section
variable {g:Gr}{a v:Nat}
theorem yhi(hg:ybe g)(hc:yed g=true)(ha:a<g.ports.length)(hv:v<g.ports.length):∃k:Nat,(ybt g a).getD v 0=k/\Walk g a k v/\(∀j,j<k->¬Walk g a j v)/\k<g.ports.length:=by
 have h0:0<g.ports.length:=by omega
 have hall:(ybt g a).all (fun x=>decide (0<=x))=true:=yzg hg h0 ha ((zI _ _▸hc).2);have hl:=ygb hg ha;have hvl:v<(ybt g a).length:=by rw[hl];exact hv
 have e:(ybt g a).getD v 0=(ybt g a)[v]:=by simp[zL,hvl]
 have hpos:0<=(ybt g a)[v]:=by simpa using List.all_eq_true.1 hall _ (zV hvl)
 rcases(ydw hg ha).2 v _ (zH hvl)with⟨h,_⟩|⟨k,h1,h2,h3⟩
 .omega
 .exact⟨k,by rw[e,h1],h2,h3,yuj hg ha h2 h3⟩
theorem ydas{k:Nat}(hg:ybe g)(hc:yed g=true)(ha:a<g.ports.length)(hv:v<g.ports.length)(h1:Walk g a k v)(h2:∀j,j<k->¬Walk g a j v):(ybt g a).getD v 0=k:=by
 obtain⟨j,e,h3,h4,_⟩:=yhi hg hc ha hv;rcases Nat.lt_trichotomy j k with h|h|h
 .exact absurd h3 (h2 j h)
 .rw[e,h]
 .exact absurd h1 (h4 k h)
theorem ybxa(hg:ybe g)(hc:yed g=true)(ha:a<g.ports.length):(ybt g a).getD a 0=0:=ydas hg hc ha ha (k:=0) rfl fun j hj=>by omega
theorem ybsl(hg:ybe g)(hc:yed g=true)(ha:a<g.ports.length)(hv:v<g.ports.length):0<=(ybt g a).getD v 0/\(ybt g a).getD v 0<g.ports.length:=by
 obtain⟨k,e,_,_,h⟩:=yhi hg hc ha hv;omega
theorem yciy(hg:ybe g)(hc:yed g=true)(ha:a<g.ports.length)(hv:v<g.ports.length)(hne:v≠a):1<=(ybt g a).getD v 0:=by
 obtain⟨k,e,h1,_,_⟩:=yhi hg hc ha hv;cases k with
 |zero=>exact absurd h1 hne
 |succ k=>omega
theorem ycgg(hg:ybe g)(hc:yed g=true)(ha:a<g.ports.length){u:Nat}(h:adj g u v):(ybt g a).getD v 0<=(ybt g a).getD u 0+1:=by
 obtain⟨hu,hv⟩:=hg.adj_lt h;obtain⟨k,e,h1,_,_⟩:=yhi hg hc ha hu;obtain⟨j,e',_,h3,_⟩:=yhi hg hc ha hv;rw[e,e'];rcases zCF (k+1) j with q|q
 .exact absurd ⟨u,h1,h⟩ (h3 (k+1) q)
 .omega
theorem ybfg(hg:ybe g)(hc:yed g=true)(ha:a<g.ports.length)(hv:v<g.ports.length)(hne:v≠a):∃u,adj g v u/\(ybt g a).getD u 0=(ybt g a).getD v 0-1:=by
 obtain⟨k,e,h1,h2,_⟩:=yhi hg hc ha hv;cases k with
 |zero=>exact absurd h1 hne
 | succ k =>
   obtain⟨u,h3,h4⟩:=h1;refine⟨u,hg.adj_symm h4,?_⟩;have h5:=ycgg hg hc ha h4;obtain⟨hu,_⟩:=hg.adj_lt h4;obtain⟨j,e',_,h6,_⟩:=yhi hg hc ha hu;rw[e,e']at h5;rcases zCF k j with q|q
   .exact absurd h3 (h6 k q)
   .rw[e,e'];omega
theorem ydp{l:Int×Int}(hg:ybe g)(hv:v<g.ports.length)(hl:l∈g.ports.getD v []):0<=l.1/\l.1.toNat<g.ports.length/\adj g v l.1.toNat/\1<=l.2/\l.2<=15:=by
 have e:g.ports[v]?=some (g.ports.getD v []):=by simp[zL,hv]
 have h:=hg.link e hl;exact⟨h.1,by omega,⟨_,e,l,hl,by omega⟩,h.2.2.2.1,h.2.2.2.2⟩
theorem yie{u:Nat}(h:adj g v u):∃l∈g.ports.getD v [],l.1.toNat=u:=by
 obtain⟨l,hl,e⟩:=yjg.1 h;exact⟨l,hl,by rw[e];simp⟩
end
section
variable {nm nd np nt nl:ByteArray}{g:Gr}
end
end
section
def ycd(g:Gr):Bool:=yed g&&decide (ygl g/2+1=g.ports.length)
theorem ybyy{α:Type}[DecidableEq α]:∀{l1 l2:List α},l1.Nodup->(∀x∈l1,x∈l2)->l2.length<=l1.length->∀x∈l2,x∈l1
 | [],l2,_,_,h,x,hx=>by
   have:l2=[]:=List.eq_nil_of_length_eq_zero (by simpa using h)
   rw[this]at hx;exact absurd hx zAZ
 | a :: t,l2,hn,hs,h,x,hx=>by
   have hn:=List.nodup_cons.1 hn
   by_cases q:x=a
   .rw[q];exact zY
   .refine zM _ (ybyy (l2:=l2.erase a) hn.2 (fun y hy=>?_) ?_ x ((zBL q).2 hx))
    .refine(zBL fun e=>hn.1 (by rw[<-e];exact hy)).2 (hs y (zM _ hy))
    .rw[zBA (hs a zY)];simp only[zAY]at h;omega
structure TreeM(g:Gr):Prop where
 up:∀a v u,a<g.ports.length->adj g v u->(ybt g a).getD u 0=(ybt g a).getD v 0-1\/(ybt g a).getD u 0=(ybt g a).getD v 0+1
 one:∀a v u w,a<g.ports.length->adj g v u->adj g v w->(ybt g a).getD u 0=(ybt g a).getD v 0-1->(ybt g a).getD w 0=(ybt g a).getD v 0-1->u=w
theorem ydpo{g:Gr}(hg:ybe g)(hc:yed g=true)(ht:ygl g<=2*(g.ports.length-1)):TreeM g:=by
 have key:∀a,a<g.ports.length->∃up:Nat->Nat,∀v u,adj g v u->(v≠a/\u=up v/\(ybt g a).getD u 0=(ybt g a).getD v 0-1)\/(ybt g a).getD u 0=(ybt g a).getD v 0+1:=fun a ha=>by
  have ex:∀v,v<g.ports.length->v≠a->∃u,adj g v u/\(ybt g a).getD u 0=(ybt g a).getD v 0-1:=fun v hv hne=>ybfg hg hc ha hv hne
  obtain⟨up,hup⟩:∃up:Nat->Nat,∀v,v<g.ports.length->v≠a->adj g v (up v)/\(ybt g a).getD (up v) 0=(ybt g a).getD v 0-1:=by
   refine⟨fun v=>if h:v<g.ports.length/\v≠a then zCL (ex v h.1 h.2)else 0,fun v hv hne=>?_⟩
   simp only[dif_pos (show v<g.ports.length/\v≠a from⟨hv,hne⟩)]
   exact zCJ (ex v hv hne)
  let U:List (Nat×Nat):=((zG g.ports.length).erase a).map fun v=>(v,up v)
  let P:List (Nat×Nat):=(zG g.ports.length).flatMap fun v=>(g.ports.getD v []).map fun l=>(v,l.1.toNat)
  have hnd:((zG g.ports.length).erase a).Nodup:=List.nodup_range.erase a
  have mU:∀x y,(x,y)∈U↔x<g.ports.length/\x≠a/\y=up x:=fun x y=>by
   show(x,y)∈((zG g.ports.length).erase a).map (fun v=>(v,up v))↔_;rw[List.mem_map];constructor
   .rintro⟨v,hv,e⟩;cases e
    have hv:=(List.nodup_range.mem_erase_iff).1 hv;exact⟨List.mem_range.1 hv.2,hv.1,rfl⟩
   .rintro⟨h1,h2,rfl⟩;exact⟨x,(List.nodup_range.mem_erase_iff).2 ⟨h2,List.mem_range.2 h1⟩,rfl⟩
  have mP:∀x y,(x,y)∈P↔x<g.ports.length/\adj g x y:=fun x y=>by
   show(x,y)∈zCG _ _↔_;rw[List.mem_flatMap];constructor
   .rintro⟨v,hv,h⟩;obtain⟨l,hl,e⟩:=List.mem_map.1 h;cases e
    have hv:=List.mem_range.1 hv;exact⟨hv,(ydp hg hv hl).2.2.1⟩
   .rintro⟨h1,h2⟩;obtain⟨l,hl,e⟩:=yie h2;exact⟨x,List.mem_range.2 h1,List.mem_map.2 ⟨l,hl,by rw[e]⟩⟩
  have dU:∀x y,(x,y)∈U->(ybt g a).getD y 0=(ybt g a).getD x 0-1:=fun x y h=>by
   obtain⟨h1,h2,rfl⟩:=(mU x y).1 h;exact(hup x h1 h2).2
  have nU:U.Nodup:=by
   show(((zG g.ports.length).erase a).map (fun v=>(v,up v))).Nodup;rw[List.Nodup,zBQ];exact hnd.imp fun h e=>h (congrArg Prod.fst e)
  have nD:(U.map fun p=>(p.2,p.1)).Nodup:=by
   rw[List.Nodup,zBQ];exact nU.imp fun h e=>h (by simp only[Prod.mk.injEq]at e;exact Prod.ext e.2 e.1)
  have nUD:(U++U.map fun p=>(p.2,p.1)).Nodup:=by
   rw[zBP];refine⟨nU,nD,?_⟩;rintro⟨x,y⟩ h1 ⟨x',y'⟩ h2 e;cases e
   obtain⟨⟨p,q⟩,h3,e⟩:=List.mem_map.1 h2;cases e
   have a1:=dU _ _ h1;have a2:=dU _ _ h3;simp only at a1 a2;omega
  have lU:U.length=g.ports.length-1:=by
   show(List.map _ _).length=_;rw[zQ,zBA (List.mem_range.2 ha),List.length_range]
  have lP:P.length=ygl g:=by
   show(zCG _ _).length=_;rw[List.length_flatMap];unfold ygl;congr 1;refine zBR (by simp) fun i h1 h2=>?_
   have hi:i<g.ports.length:=by simpa using h2
   simp[zL,hi]
  have hall:=ybyy nUD (l2:=P) (fun p hp=>by
   obtain⟨x,y⟩:=p;rcases List.mem_append.1 hp with h|h
   .obtain⟨h1,h2,rfl⟩:=(mU x y).1 h;exact(mP _ _).2 ⟨h1,(hup x h1 h2).1⟩
   .obtain⟨⟨p,q⟩,h3,e⟩:=List.mem_map.1 h;cases e
    obtain⟨h1,h2,e⟩:=(mU _ _).1 h3;simp only at e ⊢;subst e;have h4:=(hup p h1 h2).1;exact(mP _ _).2 ⟨(hg.adj_lt h4).2,hg.adj_symm h4⟩) (by have lD:(U.map fun p=>(p.2,p.1)).length=U.length:=zQ _;rw[zK,lD,lU,lP];omega)
  refine⟨up,fun v u h=>?_⟩;have h1:=hall (v,u) ((mP v u).2 ⟨(hg.adj_lt h).1,h⟩);rcases List.mem_append.1 h1 with h|h
  .left
   obtain⟨_,h2,h3⟩:=(mU v u).1 h;exact⟨h2,h3,dU _ _ h⟩
  .right
   obtain⟨⟨p,q⟩,h3,e⟩:=List.mem_map.1 h;cases e
   have:=dU _ _ h3;simp only at this ⊢;omega
 constructor
 .intro a v u ha h;obtain⟨up,hup⟩:=key a ha;rcases hup v u h with⟨_,_,h3⟩|h3
  .exact .inl h3
  .exact .inr h3
 .intro a v u w ha h1 h2 e1 e2;obtain⟨up,hup⟩:=key a ha;rcases hup v u h1 with⟨_,h3,_⟩|h3
  .rcases hup v w h2 with⟨_,h4,_⟩|h4
   .rw[h3,h4]
   .omega
  .omega
end
section
def dP(g:Gr)(a v:Nat):Int:=(ybt g a).getD v 0
structure Tr(g:Gr):Prop where
 good:ybe g
 conn:yed g=true
 m:TreeM g
section
variable {g:Gr}{a b u v w x:Nat}
theorem Tr.self(h:Tr g)(ha:a<g.ports.length):dP g a a=0:=ybxa h.good h.conn ha
theorem Tr.nonneg(h:Tr g)(ha:a<g.ports.length)(hv:v<g.ports.length):0<=dP g a v:=(ybsl h.good h.conn ha hv).1
theorem Tr.lt_n(h:Tr g)(ha:a<g.ports.length)(hv:v<g.ports.length):dP g a v<g.ports.length:=(ybsl h.good h.conn ha hv).2
theorem Tr.pos(h:Tr g)(ha:a<g.ports.length)(hv:v<g.ports.length)(hne:v≠a):1<=dP g a v:=yciy h.good h.conn ha hv hne
theorem Tr.up(h:Tr g)(ha:a<g.ports.length)(hu:adj g v u):dP g a u=dP g a v-1\/dP g a u=dP g a v+1:=h.m.up a v u ha hu
theorem Tr.one(h:Tr g)(ha:a<g.ports.length)(hu:adj g v u)(hx:adj g v x)(e1:dP g a u=dP g a v-1)(e2:dP g a x=dP g a v-1):u=x:=h.m.one a v u x ha hu hx e1 e2
theorem Tr.back(h:Tr g)(ha:a<g.ports.length)(hv:v<g.ports.length)(hne:v≠a):∃u,adj g v u/\dP g a u=dP g a v-1:=ybfg h.good h.conn ha hv hne
theorem Tr.adj1(h:Tr g)(hu:adj g v u):dP g v u=1:=by
 obtain⟨hv,hu'⟩:=h.good.adj_lt hu;have h1:=h.up hv hu;have h2:=h.self hv;have h3:=h.nonneg hv hu';omega
theorem Tr.ne(h:Tr g)(hu:adj g v u):v≠u:=fun e=>by
 subst e;have:=h.adj1 hu;have:=h.self (h.good.adj_lt hu).1;omega
def rchP(g:Gr)(v u:Nat):Int:=(zG g.ports.length).foldl (fun m w=>if dP g w u<dP g w v then max m (dP g w v)else m) 0
theorem ysx(f:Nat->Int)(p:Nat->Prop)[DecidablePred p]:∀(l:List Nat) (m:Int),m<=l.foldl (fun m w=>if p w then max m (f w)else m) m/\(∀w∈l,p w->f w<=l.foldl (fun m w=>if p w then max m (f w)else m) m)/\(l.foldl (fun m w=>if p w then max m (f w)else m) m=m\/∃w∈l,p w/\f w=l.foldl (fun m w=>if p w then max m (f w)else m) m)
 |[],m=>⟨zO _,fun w hw=>absurd hw zAZ,.inl rfl⟩
 | x :: l,m=>by
   obtain⟨h1,h2,h3⟩:=ysx f p l (if p x then max m (f x)else m)
   simp only[zAQ];refine⟨?_,fun w hw hp=>?_,?_⟩
   .clear h2 h3
    have:m<=if p x then max m (f x)else m:=by split<;>omega
    omega
   .rcases List.mem_cons.1 hw with rfl|hw
    .rw[if_pos hp]at h1 ⊢;omega
    .exact h2 w hw hp
   .clear h2
    rcases h3 with h3|⟨w,hw,hp,e⟩
    .by_cases hp:p x
     .rw[if_pos hp]at h3 ⊢;rcases Int.le_total (f x) m with q|q
      .left;rw[h3];omega
      .right;exact⟨x,zY,hp,by rw[h3];omega⟩
     .rw[if_neg hp]at h3 ⊢;exact .inl h3
    .exact .inr ⟨w,zM _ hw,hp,e⟩
theorem ybcd(hw:w<g.ports.length)(h:dP g w u<dP g w v):dP g w v<=rchP g v u :=
 (ysx (fun w=>dP g w v) (fun w=>dP g w u<dP g w v) (zG g.ports.length) 0).2.1 w (List.mem_range.2 hw) h
theorem Tr.rch_pos(h:Tr g)(hu:adj g v u):1<=rchP g v u:=by
 obtain⟨hv,hu'⟩:=h.good.adj_lt hu;have h1:=h.adj1 (h.good.adj_symm hu);have h2:=h.self hu';have:=ybcd (g:=g) (w:=u) (u:=u) (v:=v) hu' (by omega)
 omega
theorem Tr.rch_ex(h:Tr g)(hu:adj g v u):∃w,w<g.ports.length/\dP g w u<dP g w v/\dP g w v=rchP g v u:=by
 rcases(ysx (fun w=>dP g w v) (fun w=>dP g w u<dP g w v) (zG g.ports.length) 0).2.2 with e|⟨w,hw,hp,e⟩
 .have:=h.rch_pos hu;have e:rchP g v u=0:=e;omega
 .exact⟨w,List.mem_range.1 hw,hp,e⟩
theorem Tr.into(h:Tr g)(hu:adj g v u)(hx:adj g u x)(hne:x≠v)(hw:w<g.ports.length)(hs:dP g w x<dP g w u):dP g w u<dP g w v/\dP g w v=dP g w u+1:=by
 have h1:=h.up hw hx;have h2:=h.up hw (h.good.adj_symm hu);rcases h2 with h2|h2
 .exact absurd (h.one hw hx (h.good.adj_symm hu) (by omega) h2) hne
 .omega
theorem Tr.rch_step(h:Tr g)(hu:adj g v u)(hx:adj g u x)(hne:x≠v):1+rchP g u x<=rchP g v u:=by
 obtain⟨w,hw,h1,h2⟩:=h.rch_ex hx;obtain⟨h3,h4⟩:=h.into hu hx hne hw h1;have:=ybcd hw h3;omega
theorem Tr.rch_from(h:Tr g)(hu:adj g v u)(h2:2<=rchP g v u):∃x,adj g u x/\x≠v/\rchP g v u=1+rchP g u x:=by
 obtain⟨hv,hu'⟩:=h.good.adj_lt hu;obtain⟨w,hw,h3,h4⟩:=h.rch_ex hu;have h5:=h.up hw (h.good.adj_symm hu)
 have hne:w≠u:=fun e=>by
  subst e;have:=h.self hw;omega
 obtain⟨x,hx,h6⟩:=h.back hw hu' (fun e=>hne e.symm);have hxv:x≠v:=fun e=>by subst e;omega
 refine⟨x,hx,hxv,?_⟩;have a:=h.rch_step hu hx hxv;have b:=ybcd (g:=g) (u:=x) (v:=u) hw (by omega)
 omega
def step2(p:Int×Int)(a:Int):Int×Int:=if a>p.1 then(a,p.1)else(p.1,max p.2 a)
def top2(b:Int)(l:List Int):Int×Int:=l.foldl step2 (b,b)
theorem ybsg(b:Int)(l:List Int)(a:Int):top2 b (l++[a])=step2 (top2 b l) a:=by unfold top2;rw[zAU];rfl
theorem ybdi(b:Int)(l:List Int):∀k,k<=l.length->b<=(top2 b (l.take k)).2/\(top2 b (l.take k)).2<=(top2 b (l.take k)).1/\∀m,b<m->(m<=(top2 b (l.take k)).1↔1<=(l.take k).countP fun x=>decide (m<=x))/\(m<=(top2 b (l.take k)).2↔2<=(l.take k).countP fun x=>decide (m<=x))
 | 0,_=>by
   refine⟨zO _,zO _,fun m hm=>?_⟩;have e:(top2 b (l.take 0))=(b,b):=rfl;rw[e];simp only[List.take_zero,zBW];omega
 | k + 1,hk=>by
   obtain⟨h1,h2,h3⟩:=ybdi b l k (by omega)
   rw[zX (show k<l.length by omega),ybsg]
   generalize l[k]=a
   have hc:∀m,(l.take k++[a]).countP (fun x=>decide (m<=x))=(l.take k).countP (fun x=>decide (m<=x))+if m<=a then 1 else 0:=fun m=>by
    rw[List.countP_append,zBS,zBW];simp
   generalize top2 b (l.take k)=P at *
   unfold step2;split
   .refine⟨by simp only;omega,by simp only;omega,fun m hm=>?_⟩
    obtain⟨h4,h5⟩:=h3 m hm;rw[hc];simp only;constructor
    .split<;>omega
    .split<;>omega
   .refine⟨by simp only;omega,by simp only;omega,fun m hm=>?_⟩
    obtain⟨h4,h5⟩:=h3 m hm;rw[hc];simp only;constructor
    .split<;>omega
    .split<;>omega
theorem yoc(b:Int)(l:List Int):b<=(top2 b l).2/\(top2 b l).2<=(top2 b l).1/\∀m,b<m->(m<=(top2 b l).1↔1<=l.countP fun x=>decide (m<=x))/\(m<=(top2 b l).2↔2<=l.countP fun x=>decide (m<=x)):=by
 have h:=ybdi b l l.length (zAA _)
 rwa [zAX]at h
theorem ybet{p:Int×Int->Bool}:∀{ls:List (Int×Int)},(ls.map (·.1)).Nodup->(2<=ls.countP p↔∃a∈ls,∃b∈ls,a.1≠b.1/\p a=true/\p b=true)
 |[],_=>by simp
 | l :: ls,hn=>by
   have hn:=List.nodup_cons.1 hn;have ih:=ybet (p:=p) hn.2
   have one:1<=ls.countP p↔∃a∈ls,p a=true:=by
    rw[Nat.one_le_iff_ne_zero,Nat.ne_zero_iff_zero_lt,List.countP_pos_iff]
   have hno:∀a∈ls,l.1≠a.1:=fun a ha e=>hn.1 (List.mem_map.2 ⟨a,ha,e.symm⟩);rw[zBS];constructor
   .intro h
    by_cases hp:p l=true
    .rw[if_pos hp]at h;obtain⟨a,ha,hpa⟩:=one.1 (by omega)
     exact⟨l,zY,a,zM _ ha,hno a ha,hp,hpa⟩
    .rw[if_neg hp]at h;obtain⟨a,ha,b,hb,q⟩:=ih.1 (by omega)
     exact⟨a,zM _ ha,b,zM _ hb,q⟩
   .rintro⟨a,ha,b,hb,hab,hpa,hpb⟩;rcases List.mem_cons.1 ha with ea|ha
    .rcases List.mem_cons.1 hb with eb|hb
     .exact absurd (by rw[ea,eb]) hab
     .have:=one.2 ⟨b,hb,hpb⟩;rw[<-ea,if_pos hpa];omega
    .rcases List.mem_cons.1 hb with eb|hb
     .have:=one.2 ⟨a,ha,hpa⟩;rw[<-eb,if_pos hpb];omega
     .have:=ih.2 ⟨a,ha,b,hb,hab,hpa,hpb⟩;omega
theorem ytn(hg:ybe g)(hv:v<g.ports.length):((g.ports.getD v []).map (·.1)).Nodup:=by
 have h:=(hg.2.2.2.2.2.1 ⟨v,hv⟩).2;have e0:g.ports[v]=g.ports.getD v []:=by rw[Sh.getD_at hv]
 have h:((g.ports[v]).map (·.1)).Nodup:=h
 rwa [e0]at h
theorem ybxq(hg:ybe g)(hv:v<g.ports.length){f:Nat->Int}{m:Int}:2<=((g.ports.getD v []).map fun l=>f l.1.toNat).countP (fun x=>decide (m<=x))↔∃a b,adj g v a/\adj g v b/\a≠b/\m<=f a/\m<=f b:=by
 rw[List.countP_map,ybet (ytn hg hv)];constructor
 .rintro⟨a,ha,b,hb,hne,hpa,hpb⟩;obtain⟨a1,_,a3,_⟩:=ydp hg hv ha;obtain⟨b1,_,b3,_⟩:=ydp hg hv hb;exact⟨_,_,a3,b3,by omega,of_decide_eq_true hpa,of_decide_eq_true hpb⟩
 .rintro⟨a,b,ha,hb,hne,hpa,hpb⟩;obtain⟨la,hla,ea⟩:=yie ha;obtain⟨lb,hlb,eb⟩:=yie hb;exact⟨la,hla,lb,hlb,fun e=>hne (by rw[<-ea,<-eb,e]),decide_eq_true (by show m<=f la.1.toNat;rw[ea];exact hpa),decide_eq_true (by show m<=f lb.1.toNat;rw[eb];exact hpb)⟩
def htP(g:Gr)(v:Nat):Int:=(top2 0 ((g.ports.getD v []).map fun l=>rchP g v l.1.toNat)).2
theorem yga(g:Gr)(v:Nat):0<=htP g v:=(yoc 0 _).1
theorem ynr(hg:ybe g)(hv:v<g.ports.length){m:Int}(hm:1<=m):m<=htP g v↔∃a b,adj g v a/\adj g v b/\a≠b/\m<=rchP g v a/\m<=rchP g v b:=by
 rw[<-ybxq hg hv (f:=fun u=>rchP g v u)];exact((yoc 0 _).2.2 m (by omega)).2
theorem Tr.ht_step(h:Tr g)(hv:v<g.ports.length){m:Int}(hm:1<=m)(hd:∃a b,adj g v a/\adj g v b/\a≠b):m<=htP g v↔∃a b,adj g v a/\adj g v b/\a≠b/\m-1<=htP g a/\m-1<=htP g b:=by
 rw[ynr h.good hv hm]
 by_cases h1:m=1
 .subst h1;obtain⟨a,b,ha,hb,hne⟩:=hd;exact⟨fun _=>⟨a,b,ha,hb,hne,by have:=yga g a;omega,by have:=yga g b;omega⟩,fun _=>⟨a,b,ha,hb,hne,h.rch_pos ha,h.rch_pos hb⟩⟩
 have key:∀a b,adj g v a->adj g v b->a≠b->m<=rchP g v a->m<=rchP g v b->m-1<=htP g a:=fun a b ha hb hne ra rb=>by
  rw[ynr h.good (h.good.adj_lt ha).2 (by omega)]
  obtain⟨x,hx,hxv,e⟩:=h.rch_from ha (by omega)
  have s:=h.rch_step (h.good.adj_symm ha) hb (fun e=>hne e.symm);exact⟨v,x,h.good.adj_symm ha,hx,fun e=>hxv e.symm,by omega,by omega⟩
 have key2:∀a,adj g v a->m-1<=htP g a->m<=rchP g v a:=fun a ha hh=>by
  rw[ynr h.good (h.good.adj_lt ha).2 (by omega)]at hh
  obtain⟨x,y,hx,hy,hne,rx,ry⟩:=hh
  by_cases q:x=v
  .have s:=h.rch_step ha hy (fun e=>hne (by rw[q,e]))
   omega
  .have s:=h.rch_step ha hx q;omega
 constructor
 .rintro⟨a,b,ha,hb,hne,ra,rb⟩;exact⟨a,b,ha,hb,hne,key a b ha hb hne ra rb,key b a hb ha (fun e=>hne e.symm) rb ra⟩
 .rintro⟨a,b,ha,hb,hne,ra,rb⟩;exact⟨a,b,ha,hb,hne,key2 a ha ra,key2 b hb rb⟩
theorem Tr.thru(h:Tr g)(hw:w<g.ports.length):∀(k:Nat) (v u x:Nat),adj g v u->dP g w u=dP g w v+1->x<g.ports.length->dP g x u<dP g x v->(dP g x u).toNat<k->dP g w x=dP g w u+dP g x u
 |0,v,u,x,_,_,_,_,hk=>by omega
 | k + 1,v,u,x,hu,hwu,hx,hs,hk=>by
   obtain⟨hv,hu'⟩:=h.good.adj_lt hu
   by_cases e:x=u
   .subst e;rw[h.self hx];omega
   .obtain⟨y,hy,h1⟩:=h.back hx hu' (fun q=>e q.symm);have hyv:y≠v:=fun q=>by subst q;omega
    have h2:=h.up hw hy
    have hw1:dP g w y=dP g w u+1:=by
     rcases h2 with h2|h2
     .exact absurd (h.one hw hy (h.good.adj_symm hu) h2 (by omega)) hyv
     .exact h2
    have:=h.nonneg hx (h.good.adj_lt hy).2;have ih:=Tr.thru h hw k u y x hy hw1 hx (by omega) (by omega)
    omega
theorem Tr.apart(h:Tr g)(ha:adj g v a)(hb:adj g v b)(hne:a≠b)(hw:w<g.ports.length)(hx:x<g.ports.length)(h1:dP g w a<dP g w v)(h2:dP g x b<dP g x v):dP g w x=dP g w v+dP g x v:=by
 have a1:=h.up hw ha;have b1:=h.up hw hb;have b2:=h.up hx hb
 have hwb:dP g w b=dP g w v+1:=by
  rcases b1 with q|q
  .exact absurd (h.one hw ha hb (by omega) q) hne
  .exact q
 have:=h.thru hw _ v b x hb hwb hx h2 (zBB _);omega
end
end
section
def ycby:Ex:=.agg 28 (eQ 0)
def ybhv:Ex:=.ite (.bin 37 (.leaf 9 0) (eNum 2)) (eNum 0) (.ite (.bin 37 ycby eN) (.bin 33 ycby (eNum 1)) eN)
def cnS(g:Gr)(c:Conf)(v:Nat):Int:=(top2 (-1073741824) ((g.ports.getD v []).map (endP c 0))).2
def cnV(g:Gr)(c:Conf)(v:Nat):Int:=if ((g.ports.getD v []).length:Int)<2 then 0 else if cnS g c v<(g.ids.length:Int)then cnS g c v+1 else(g.ids.length:Int)
section
variable {nm nh nr:ByteArray}{g:Gr}{c:Conf}{v:Nat}
theorem ydmk(g:Gr)(c:Conf)(v:Nat):-1073741824<=cnS g c v:=(yoc (-1073741824) _).1
theorem ychb(g:Gr)(c:Conf)(v:Nat)(p:Int):yda g c v ycby p=cnS g c v:=by
 show yhf 28 _=_;unfold yhf;rw[if_neg (by decide),if_neg (by decide),if_neg (by decide),if_neg (by decide),if_neg (by decide),if_neg (by decide),if_neg (by decide),if_neg (by decide),if_pos rfl]
 show(ydo _).2=_;unfold cnS;have e:∀l,ydo l=top2 (-1073741824) l:=fun l=>rfl;rw[e];congr 2;exact yum g v _ _ fun q hq=>rfl
theorem ybjt(hg:ybe g)(p:Int):yda g c v ybhv p=cnV g c v:=by
 have h1:=hg.2.1;have h2:=hg.2.2.1;have h3:=ydmk g c v;show(if binP 37 ((g.ports.getD v []).length:Int) 2≠0 then 0 else if binP 37 (yda g c v ycby p) (g.ids.length:Int)≠0 then satP (yda g c v ycby p+1)else(g.ids.length:Int))=_
 rw[ychb];have e3:∀a b:Int,binP 37 a b=ybu (decide (a<b)):=fun a b=>rfl;rw[e3,e3];unfold cnV;have tT:ybu true≠0:=by decide
 have tF:¬ybu false≠0:=by decide
 by_cases q:((g.ports.getD v []).length:Int)<2
 .rw[if_pos q,decide_eq_true q,if_pos tT]
 .rw[if_neg q,decide_eq_false q,if_neg tF]
  by_cases q2:cnS g c v<(g.ids.length:Int)
  .rw[if_pos q2,decide_eq_true q2,if_pos tT];unfold satP;omega
  .rw[if_neg q2,decide_eq_false q2,if_neg tF]
theorem Tr.ht_lt(h:Tr g)(hv:v<g.ports.length):htP g v<g.ports.length:=by
 rcases zT (htP g v) 1 with q|q
 .omega
 .obtain⟨a,b,ha,_,_,hr,_⟩:=(ynr h.good hv q).1 (zO _);obtain⟨w,hw,_,e⟩:=h.rch_ex ha;have:=h.lt_n hw hv;omega
theorem ytg(hg:ybe g)(hv:v<g.ports.length):2<=(g.ports.getD v []).length↔∃a b,adj g v a/\adj g v b/\a≠b:=by
 constructor
 .intro h;have m0:(g.ports.getD v [])[0]∈g.ports.getD v []:=zV _;have m1:(g.ports.getD v [])[1]∈g.ports.getD v []:=zV _;obtain⟨a1,_,a3,_⟩:=ydp hg hv m0;obtain⟨b1,_,b3,_⟩:=ydp hg hv m1;refine⟨_,_,a3,b3,fun e=>?_⟩;have hn:=ytn hg hv;have h0':0<((g.ports.getD v []).map (·.1)).length:=by rw[zQ];omega
  have h1':1<((g.ports.getD v []).map (·.1)).length:=by rw[zQ];omega
  have:=(List.getElem_inj (h₀:=h0') (h₁:=h1') hn).1 (by rw[zAL,zAL];omega)
  omega
 .rintro⟨a,b,ha,hb,hne⟩;obtain⟨la,hla,ea⟩:=yie ha;obtain⟨lb,hlb,eb⟩:=yie hb;obtain⟨i,hi,e1⟩:=zAR hla;obtain⟨j,hj,e2⟩:=zAR hlb
  have:i≠j:=fun e=>by
   subst e;rw[e1]at e2;exact hne (by rw[<-ea,<-eb,e2])
  omega
theorem Tr.cn_next(h:Tr g)(hv:v<g.ids.length)(r:Nat)(hall:∀u,u<g.ids.length->if htP g u<(r:Int)then(c.getD u []).getD 0 0=htP g u else(r:Int)<=(c.getD u []).getD 0 0) :
 if htP g v<((r+1:Nat):Int)then cnV g c v=htP g v else((r+1:Nat):Int)<=cnV g c v:=by
 have hpl:=h.good.2.2.1;have hvp:v<g.ports.length:=by omega
 have hlt:=h.ht_lt hvp;have h0:=yga g v
 by_cases hd:2<=(g.ports.getD v []).length
 .have eV:cnV g c v=if cnS g c v<(g.ids.length:Int)then cnS g c v+1 else(g.ids.length:Int):=by unfold cnV;rw[if_neg (by omega)]
  rw[eV];have hd2:=(ytg h.good hvp).1 hd
  have agree:∀u (j:Int),u<g.ids.length->j<=r->(j<=(c.getD u []).getD 0 0↔j<=htP g u):=fun u j hu hj=>by
   have:=hall u hu;split at this
   .rw[this]
   .omega
  have key:∀m:Int,1<=m->m<=r+1->(m<=cnS g c v+1↔m<=htP g v):=fun m h1 h2=>by
   rw[h.ht_step hvp h1 hd2];have e:=((yoc (-1073741824) ((g.ports.getD v []).map (endP c 0))).2.2 (m-1) (by omega)).2
   have e2:=ybxq h.good hvp (f:=fun u=>(c.getD u []).getD 0 0) (m:=m-1);have e3:m<=cnS g c v+1↔m-1<=cnS g c v:=by omega
   rw[e3];refine e.trans (e2.trans ?_);constructor
   .rintro⟨a,b,ha,hb,hne,q1,q2⟩;exact⟨a,b,ha,hb,hne,(agree a _ (by have:=(h.good.adj_lt ha).2;omega) (by omega)).1 q1,(agree b _ (by have:=(h.good.adj_lt hb).2;omega) (by omega)).1 q2⟩
   .rintro⟨a,b,ha,hb,hne,q1,q2⟩;exact⟨a,b,ha,hb,hne,(agree a _ (by have:=(h.good.adj_lt ha).2;omega) (by omega)).2 q1,(agree b _ (by have:=(h.good.adj_lt hb).2;omega) (by omega)).2 q2⟩
  have h1:1<=htP g v:=by
   rw[h.ht_step hvp (zO 1) hd2];obtain⟨a,b,ha,hb,hne⟩:=hd2;exact⟨a,b,ha,hb,hne,by have:=yga g a;omega,by have:=yga g b;omega⟩
  by_cases hq:htP g v<((r+1:Nat):Int)
  .rw[if_pos hq];have k1:=(key (htP g v) h1 (by omega)).2 (zO _)
   have k2:¬htP g v+1<=cnS g c v+1:=fun q=>by
    have:=(key (htP g v+1) (by omega) (by omega)).1 q
    omega
   rw[if_pos (by omega)]
   omega
  .rw[if_neg hq];have k1:=(key (r+1) (by omega) (by omega)).2 (by omega)
   split<;>omega
 .have eV:cnV g c v=0:=by unfold cnV;rw[if_pos (by omega)]
  rw[eV]
  have:htP g v=0:=by
   rcases zT (htP g v) 1 with q|q
   .omega
   .obtain⟨a,b,ha,hb,hne,_⟩:=(ynr h.good hvp q).1 (zO _);exact absurd ((ytg h.good hvp).2 ⟨a,b,ha,hb,hne⟩) hd
  rw[this,if_pos (by omega)]
theorem Tr.ht_diam(h:Tr g)(hv:v<g.ports.length){d:Int}(hd:∀a b,a<g.ports.length->b<g.ports.length->dP g a b<=d):2*htP g v<=d:=by
 rcases zT (htP g v) 1 with q|q
 .have:=hd v v hv hv;have:=h.self hv;have:=yga g v;omega
 .obtain⟨a,b,ha,hb,hne,r1,r2⟩:=(ynr h.good hv q).1 (zO _);obtain⟨w,hw,w1,w2⟩:=h.rch_ex ha;obtain⟨x,hx,x1,x2⟩:=h.rch_ex hb;have:=h.apart ha hb hne hw hx w1 x1;have:=hd w x hw hx;omega
structure CnC(g:Gr)(c:Conf):Prop where
 len:c.length=g.ids.length
 row:∀v,v<g.ids.length->(c.getD v []).length=1/\(0<=(c.getD v []).getD 0 0/\(c.getD v []).getD 0 0<=g.ids.length)
theorem ydni(hg:ybe g)(hv:v<g.ids.length)(h0:∀u,u<g.ids.length->0<=(c.getD u []).getD 0 0):0<=cnV g c v/\cnV g c v<=g.ids.length:=by
 have hpl:=hg.2.2.1;unfold cnV;split
 .omega
 .rename_i q
  have:0<=cnS g c v:=by
   have e:=((yoc (-1073741824) ((g.ports.getD v []).map (endP c 0))).2.2 0 (by omega)).2
   refine e.2 ((ybxq hg (by omega) (f:=fun u=>(c.getD u []).getD 0 0) (m:=0)).2 ?_)
   obtain⟨a,b,ha,hb,hne⟩:=(ytg hg (v:=v) (by omega)).1 (by omega)
   exact⟨a,b,ha,hb,hne,h0 a (by have:=(hg.adj_lt ha).2;omega),h0 b (by have:=(hg.adj_lt hb).2;omega)⟩
  split<;>omega
end
end
section
section
variable {g:Gr}{a b u v w x:Nat}
def ywj(g:Gr)(v:Nat)(e:Int):Prop:=(∀w,w<g.ports.length->dP g w v<=e)/\∃w,w<g.ports.length/\dP g w v=e
theorem ywu(hv:v<g.ports.length):∃e,ywj g v e:=by
 rcases(ysx (fun w=>dP g w v) (fun _=>True) (zG g.ports.length) (dP g v v))with⟨h1,h2,h3⟩;refine⟨_,fun w hw=>h2 w (List.mem_range.2 hw) trivial,?_⟩;rcases h3 with h3|⟨w,hw,_,e⟩
 .exact⟨v,hv,h3.symm⟩
 .exact⟨w,List.mem_range.1 hw,e⟩
theorem Tr.side(h:Tr g)(hu:adj g v u)(hw:w<g.ports.length):(dP g w u<dP g w v/\dP g w v=dP g w u+1)\/(dP g w v<dP g w u/\dP g w u=dP g w v+1):=by
 rcases h.up hw hu with q|q<;>omega
theorem Tr.link(h:Tr g)(hu:adj g v u){ev eu:Int}(he:ywj g v ev)(he':ywj g u eu) :
 ev=max (rchP g u v-1) (rchP g v u)/\eu=max (rchP g v u-1) (rchP g u v):=by
 have key:∀{v u:Nat}{ev:Int},adj g v u->ywj g v ev->ev=max (rchP g u v-1) (rchP g v u):=fun {v u ev} hu he=>by
  obtain⟨hv,hu'⟩:=h.good.adj_lt hu;obtain⟨e1,w,hw,e2⟩:=he
  have hle:ev<=max (rchP g u v-1) (rchP g v u):=by
   rcases h.side hu hw with⟨q,q2⟩|⟨q,q2⟩
   .have:=ybcd hw q;omega
   .have:=ybcd (u:=v) (v:=u) hw q;omega
  obtain⟨x,hx,x1,x2⟩:=h.rch_ex hu;obtain⟨y,hy,y1,y2⟩:=h.rch_ex (h.good.adj_symm hu);have a1:=e1 x hx;have a2:=e1 y hy;rcases h.side hu hy with⟨q,q2⟩|⟨q,q2⟩<;>omega
 exact⟨key hu he,key (h.good.adj_symm hu) he'⟩
theorem Tr.ht_link(h:Tr g)(hu:adj g v u):(rchP g u v-1<=rchP g v u->htP g v=rchP g u v-1)/\(rchP g v u<=rchP g u v-1->rchP g v u<=htP g v):=by
 obtain⟨hv,hu'⟩:=h.good.adj_lt hu;have p1:=h.rch_pos hu;have p2:=h.rch_pos (h.good.adj_symm hu);have from_:2<=rchP g u v->∃x,adj g v x/\x≠u/\rchP g u v=1+rchP g v x:=fun q=>h.rch_from (h.good.adj_symm hu) q;constructor
 .intro hq;refine zBX ?_ ?_
  .rcases zT (htP g v) 1 with q|q
   .omega
   .obtain⟨a,b,ha,hb,hne,r1,r2⟩:=(ynr h.good hv q).1 (zO _)
    by_cases e:a=u
    .have:=h.rch_step (h.good.adj_symm hu) hb (fun e2=>hne (by rw[e,e2]))
     omega
    .have:=h.rch_step (h.good.adj_symm hu) ha e;omega
  .rcases zT (rchP g u v) 2 with q|q
   .have:=yga g v;omega
   .obtain⟨x,hx,hne,e⟩:=from_ q;exact(ynr h.good hv (by omega)).2 ⟨x,u,hx,hu,hne,by omega,by omega⟩
 .intro hq;obtain⟨x,hx,hne,e⟩:=from_ (by omega)
  exact(ynr h.good hv p1).2 ⟨x,u,hx,hu,hne,by omega,by omega⟩
theorem Tr.higher(h:Tr g)(hu:adj g v u){ev eu:Int}(he:ywj g v ev)(he':ywj g u eu):(htP g v<htP g u↔eu<ev)/\(htP g v=htP g u↔eu=ev):=by
 obtain⟨l1,l2⟩:=h.link hu he he';obtain⟨a1,a2⟩:=h.ht_link hu;obtain⟨b1,b2⟩:=h.ht_link (h.good.adj_symm hu);rcases Int.lt_trichotomy (rchP g v u) (rchP g u v)with q|q|q
 .have:=b1 (by omega)
  have:=a2 (by omega)
  omega
 .have:=a1 (by omega)
  have:=b1 (by omega)
  omega
 .have:=a1 (by omega)
  have:=b2 (by omega)
  omega
def Peak(g:Gr)(v:Nat):Prop:=∀u,adj g v u->htP g u<=htP g v
theorem Tr.peak_least(h:Tr g)(hp:Peak g v)(hv:v<g.ports.length)(hx:x<g.ports.length){ev ex:Int}(he:ywj g v ev)(he':ywj g x ex):ev<=ex/\(ex=ev->x≠v->dP g x v=1):=by
 by_cases e:x=v
 .subst e;obtain⟨q1,w,hw,q2⟩:=he;obtain⟨p1,y,hy,p2⟩:=he';have:=q1 y hy;have:=p1 w hw;exact⟨by omega,fun _ hne=>absurd rfl hne⟩
 .obtain⟨u,hu,hd⟩:=h.back hx hv (fun q=>e q.symm);obtain⟨eu,heu⟩:=ywu (g:=g) (h.good.adj_lt hu).2;obtain⟨l1,l2⟩:=h.link hu he heu;have hh:=(h.higher hu he heu).1;have hle:=hp u hu;have hpos:=h.pos hx hv (fun q=>e q.symm)
  have hAB:rchP g v u<=rchP g u v:=by
   rcases zT (rchP g u v) (rchP g v u)with q|q
   .have:=hh.2 (by omega);omega
   .exact q
  obtain⟨y,hy,y1,y2⟩:=h.rch_ex (h.good.adj_symm hu);have far:dP g y x=dP g y u+dP g x u:=h.thru hy _ v u x hu (by rcases h.side hu hy with⟨q,_⟩|⟨_,q⟩<;>omega) hx (by omega) (zBB _)
  have:=he'.1 y hy;have hxu:=h.nonneg hx (h.good.adj_lt hu).2;exact⟨by omega,fun q _=>by omega⟩
theorem Tr.least_peak(h:Tr g)(hv:v<g.ports.length){ev:Int}(he:ywj g v ev)(hl:∀x ex,x<g.ports.length->ywj g x ex->ev<=ex):Peak g v:=fun u hu=>by
 obtain⟨eu,heu⟩:=ywu (g:=g) (h.good.adj_lt hu).2;have h1:=(h.higher hu he heu).1;have h2:=hl u eu (h.good.adj_lt hu).2 heu;rcases zT (htP g v) (htP g u)with q|q
 .have:=h1.1 q;omega
 .exact q
theorem Tr.peaks_adj(h:Tr g)(hp:Peak g v)(hq:Peak g x)(hv:v<g.ports.length)(hx:x<g.ports.length)(hne:x≠v):dP g x v=1:=by
 obtain⟨ev,he⟩:=ywu (g:=g) hv;obtain⟨ex,hex⟩:=ywu (g:=g) hx;have a:=(h.peak_least hp hv hx he hex);have b:=(h.peak_least hq hx hv hex he);exact a.2 (by omega) hne
theorem Tr.adj_of(h:Tr g)(hv:v<g.ports.length)(hx:x<g.ports.length)(hd:dP g x v=1):adj g v x:=by
 have hne:v≠x:=fun e=>by subst e;have:=h.self hv;omega
 obtain⟨u,hu,hd2⟩:=h.back hx hv hne;have hu':=(h.good.adj_lt hu).2
 by_cases e:u=x
 .rw[<-e];exact hu
 .have:=h.pos hx hu' e;omega
theorem Tr.no_three(h:Tr g)(ha:Peak g a)(hb:Peak g b)(hx:Peak g x)(la:a<g.ports.length)(lb:b<g.ports.length)(lx:x<g.ports.length)(hab:a≠b)(hax:a≠x)(hbx:b≠x):False:=by
 have h1:=h.adj_of la lb (h.peaks_adj ha hb la lb (fun e=>hab e.symm));have h2:=h.peaks_adj ha hx la lx (fun e=>hax e.symm);have h3:=h.peaks_adj hb hx lb lx (fun e=>hbx e.symm);rcases h.up lx h1 with q|q<;>omega
theorem Tr.peak_eq(h:Tr g)(hp:Peak g v)(hu:adj g v u)(he:htP g u=htP g v):Peak g u:=by
 obtain⟨hv,hu'⟩:=h.good.adj_lt hu;obtain⟨ev,hev⟩:=ywu (g:=g) hv;obtain⟨eu,heu⟩:=ywu (g:=g) hu';have h1:=(h.higher hu hev heu).2.1 he.symm
 exact h.least_peak hu' heu fun x ex hx hex=>by
  have:=(h.peak_least hp hv hx hev hex).1;omega
theorem Tr.peak_ex(h:Tr g):∃v,v<g.ports.length/\Peak g v:=by
 have h0:0<g.ports.length:=by have:=h.good.1;omega
 have:∀n,n<=g.ports.length->0<n->∃v,v < n/\∀u,u<n->htP g u<=htP g v:=by
  intro n
  induction n with
  |zero=>intro _ h;omega
  | succ n ih =>
    intro hn _
    by_cases q:n=0
    .subst q;exact⟨0,by omega,fun u hu=>by have:u=0:=by omega
                                           subst this;exact zO _⟩
    .obtain⟨v,hv,hm⟩:=ih (by omega) (by omega)
     rcases zT (htP g v) (htP g n)with q2|q2
     .refine⟨n,by omega,fun u hu=>?_⟩
      by_cases e:u=n
      .subst e;exact zO _
      .have:=hm u (by omega);omega
     .refine⟨v,by omega,fun u hu=>?_⟩
      by_cases e:u=n
      .subst e;exact q2
      .exact hm u (by omega)
 obtain⟨v,hv,hm⟩:=this g.ports.length (zAA _) h0;exact⟨v,hv,fun u hu=>hm u (h.good.adj_lt hu).2⟩
end
end
section
namespace Sh
theorem yuh{l:List Bool}{k:Nat}:yqf l k=true↔∃j,j<k/\l[j]?=some true:=by
 unfold yqf;rw[zBC];constructor
 .rintro⟨x,hx,he⟩;obtain⟨j,hj,e⟩:=zAR hx;have hj':j<k:=by rw[List.length_take]at hj;omega
  refine⟨j,hj',?_⟩;have:(l.take k)[j]?=some true:=by rw[zH hj,e];exact congrArg some he
  rwa [zZ hj']at this
 .rintro⟨j,hj,e⟩;refine⟨true,?_,rfl⟩;refine List.mem_of_getElem? (i:=j) ?_;rw[zZ hj];exact e
theorem ydgi {S:Sys}{res:Nat->Nat->Nat}{ws:List Nat}{c:Conf}{L:Conf->Bool}{J:Conf->Cnt->Prop}{rounds:Int}(hJ:∀p∈S.runs res ws c,J p.1 p.2) (hrest:∀c k,J c k->(S.en c=0↔L c=true)) (hb:∀c k,J c k->L c=false->(k.begun:Int)<=rounds) {moves:Int}(hm:∀c k,J c k->L c=false->0<=moves->(k.moves:Int)<=moves)
 {ended:Bool}(he:ended=true->∀p,(S.runs res ws c)[(S.runs res ws c).length-1]?=some p->S.en p.1=0) :
 HeldOk ((S.runs res ws c).map fun p=>L p.1) ((S.runs res ws c).map (·.2)) rounds moves ended:=by
 obtain⟨R,hR⟩:∃R,S.runs res ws c=R:=⟨_,rfl⟩
 have hlast:∀i,i+1<R.length->∀p,R[i]?=some p->S.en p.1≠0:=fun i hi p hp=>by
  rw[<-hR]at hi hp;exact Sys.runs_last hi hp
 have hpos:0<R.length:=by rw[<-hR];simp[Sys.runs]
 rw[hR]at hJ he ⊢;have at_:∀i,i<R.length->∃p,R[i]?=some p/\J p.1 p.2:=fun i hi=>⟨R[i],zH hi,hJ _ (zV hi)⟩;have lg:∀(i:Nat) (p:Conf×Cnt),R[i]?=some p->(R.map fun p=>L p.1)[i]?=some (L p.1):=fun i p hp=>by simp[hp]
 have no:∀(i:Nat),yqf (R.map fun p=>L p.1) (i+1)=false->i<R.length->∀p:Conf×Cnt,R[i]?=some p->L p.1=false:=fun i h hi p hp=>by
  cases hq:L p.1 with
  |false=>rfl
  | true =>
    have:yqf (R.map fun p=>L p.1) (i+1)=true:=yuh.2 ⟨i,zBB i,by rw[lg i p hp,hq]⟩
    rw[this]at h;cases h
 refine⟨by simp,by simpa using hpos,fun i hi h=>?_,fun i hi h=>?_,fun i hi h hmv=>?_,?_⟩
 .have hi:i<R.length:=by simpa using hi
  obtain⟨j,hj,e⟩:=yuh.1 h;obtain⟨p,hp,hJp⟩:=at_ j (by omega)
  rw[lg j p hp]at e;exact absurd ((hrest p.1 p.2 hJp).2 (Option.some.inj e)) (hlast j (by omega) p hp)
 .have hi:i<R.length:=by simpa using hi
  obtain⟨p,hp,hJp⟩:=at_ i hi;have:=hb p.1 p.2 hJp (no i h hi p hp);rw[zAE,zAB,hp];exact this
 .have hi:i<R.length:=by simpa using hi
  obtain⟨p,hp,hJp⟩:=at_ i hi;have:=hm p.1 p.2 hJp (no i h hi p hp) hmv;rw[zAE,zAB,hp];exact this
 .cases ended with
  |false=>exact .inr rfl
  | true =>
    obtain⟨p,hp,hJp⟩:=at_ (R.length-1) (by omega)
    have h1:=(hrest p.1 p.2 hJp).1 (he rfl p hp);exact .inl (yuh.2 ⟨R.length-1,by simp;omega,by rw[lg _ p hp,h1]⟩)
section
variable {nm nd np nt nl:ByteArray}{g:Gr}
end
end Sh
end
section
def ynz(g:Gr)(s:Nat):Prop:=∀u v,adj g u v->s.testBit u=true->s.testBit v=false
def ResD(D:Nat->Prop)(res:Nat->Nat->Nat):Prop:=∀e w,e≠0->res e w≠0/\subB (res e w) e/\D (res e w)
theorem Sys.run_allD{S:Sys}{D:Nat->Prop}{res:Nat->Nat->Nat}(hr:ResD D res){J:Conf->Cnt->Prop}(hstep:∀c k s,J c k->s≠0->subB s (S.en c)->D s->J (S.mv c s) (addP k s (S.en (S.mv c s)))) :
 ∀(ws:List Nat) (c:Conf) (k:Cnt),J c k->∀p∈S.run res ws c k,J p.1 p.2
 |[],c,k,_,p,hp=>by cases hp
 | w :: ws,c,k,hJ,p,hp=>by
   unfold Sys.run at hp;split at hp
   .cases hp
   .rename_i h0
    obtain⟨r1,r2,r3⟩:=hr _ w h0;have hJ':=hstep c k _ hJ r1 r2 r3;rcases List.mem_cons.1 hp with e|e
    .rw[e];exact hJ'
    .exact Sys.run_allD hr hstep ws _ _ hJ' p e
theorem Sys.runs_allD{S:Sys}{D:Nat->Prop}{res:Nat->Nat->Nat}(hr:ResD D res){J:Conf->Cnt->Prop}(hstep:∀c k s,J c k->s≠0->subB s (S.en c)->D s->J (S.mv c s) (addP k s (S.en (S.mv c s)))){ws:List Nat}{c:Conf}(h:J c (ydt (S.en c))):∀p∈S.runs res ws c,J p.1 p.2:=fun p hp=>by
 rcases List.mem_cons.1 hp with e|e
 .rw[e];exact h
 .exact Sys.run_allD hr hstep ws _ _ h p e
theorem ResD.ok{D:Nat->Prop}{res:Nat->Nat->Nat}(h:ResD D res):ychc res:=fun e w h0=>⟨(h e w h0).1,(h e w h0).2.1⟩
structure ByRoundsC(S:Sys)(V:Conf->Prop)(D:Nat->Prop)(P:Nat->Nat->Conf->Prop):Prop where
 valid:∀c s,V c->s≠0->subB s (S.en c)->D s->V (S.mv c s)
 stay:∀c s v r r',r<=r'->r'<=r+1->V c->v<S.n->s.testBit v=false->subB s (S.en c)->D s->(∀u,u<S.n->P r u c)->P r' v c->P r' v (S.mv c s)
 move:∀c s v r,V c->v<S.n->s.testBit v=true->subB s (S.en c)->D s->(∀u,u<S.n->P r u c)->P (r+1) v (S.mv c s)
 rest:∀c v r,V c->v<S.n->(S.en c).testBit v=false->(∀u,u<S.n->P r u c)->P (r+1) v c
 less:∀r v c,P (r+1) v c->P r v c
structure RInvC(S:Sys)(V:Conf->Prop)(P:Nat->Nat->Conf->Prop)(c:Conf)(k:Cnt):Prop where
 valid:V c
 all:∀v,v<S.n->P k.rounds v c
 done:∀v,v<S.n->k.pend.testBit v=false->P (k.rounds+1) v c
 begun:k.begun<=k.rounds+1
section
variable {S:Sys}{V:Conf->Prop}{D:Nat->Prop}{P:Nat->Nat->Conf->Prop}
theorem ByRoundsC.start(h:ByRoundsC S V D P){c:Conf}(hv:V c)(h0:∀v,v<S.n->P 0 v c):RInvC S V P c (ydt (S.en c)) :=
 ⟨hv,h0,fun v hn hb=>h.rest c v 0 hv hn hb h0,by simp[ydt]⟩
theorem ByRoundsC.step(h:ByRoundsC S V D P)(c:Conf)(k:Cnt)(s:Nat)(hi:RInvC S V P c k)(h0:s≠0)(hs:subB s (S.en c))(hD:D s):RInvC S V P (S.mv c s) (addP k s (S.en (S.mv c s))):=by
 obtain⟨i1,i2,i3,i4⟩:=hi;have hv:=h.valid c s i1 h0 hs hD
 have hall:∀v,v<S.n->P k.rounds v (S.mv c s):=fun v hn=>by
  cases hb:s.testBit v with
  |true=>exact h.less _ _ _ (h.move c s v _ i1 hn hb hs hD i2)
  |false=>exact h.stay c s v _ _ (zAA _) (zCI _) i1 hn hb hs hD i2 (i2 v hn)
 have hnext:∀v,v<S.n->(difB k.pend s&&&S.en (S.mv c s)).testBit v=false->P (k.rounds+1) v (S.mv c s):=fun v hn hb=>by
  rw[zBU,ygm]at hb;cases hb1:s.testBit v with
  |true=>exact h.move c s v _ i1 hn hb1 hs hD i2
  | false =>
    cases hb2:k.pend.testBit v with
    |false=>exact h.stay c s v _ _ (zCI _) (zAA _) i1 hn hb1 hs hD i2 (i3 v hn hb2)
    | true =>
      rw[hb1,hb2]at hb;exact h.rest _ v _ hv hn (by simpa using hb) hall
 unfold addP;simp only
 by_cases hp:difB k.pend s&&&S.en (S.mv c s)=0
 .simp only[if_pos hp];have hall':∀v,v<S.n->P (k.rounds+1) v (S.mv c s):=fun v hn=>hnext v hn (by rw[hp];simp)
  exact⟨hv,hall',fun v hn hb=>h.rest _ v _ hv hn hb hall',by show k.rounds+1<=_;simp⟩
 .simp only[if_neg hp];exact⟨hv,hall,hnext,zAA _⟩
theorem ByRoundsC.runs(h:ByRoundsC S V D P){res:Nat->Nat->Nat}(hr:ResD D res){ws:List Nat}{c:Conf}(hv:V c)(h0:∀v,v<S.n->P 0 v c):∀p∈S.runs res ws c,RInvC S V P p.1 p.2 :=
 Sys.runs_allD hr (fun c k s=>h.step c k s) (h.start hv h0)
theorem ByRoundsC.silent(h:ByRoundsC S V D P){c:Conf}(hv:V c)(h0:∀v,v<S.n->P 0 v c)(he:S.en c=0):∀r v,v<S.n->P r v c
 |0,v,hn=>h0 v hn
 |r+1,v,hn=>h.rest c v r hv hn (by rw[he];simp) (ByRoundsC.silent h hv h0 he r)
end
end
section
def yclz:Ex:=.bin 41 (eVar 1) (.un 19 (.agg 20 (.bin 38 (eQ 0) (eVar 0))))
def ycle:Ex:=.bin 41 (.un 19 (eVar 1)) (.agg 20 (.bin 37 (eQ 0) (eVar 0)))
def ydpi:Ex:=.bin 41 (.bin 41 (.bin 37 (eVar 0) eN) (.agg 20 (.bin 38 (eQ 0) (eVar 0)))) (.agg 21 (.bin 41 (.bin 35 (eQ 0) (eVar 0)) (.bin 35 (eQ 1) (eVar 1))))
def ybo(nm h l f d t i:ByteArray):ProgT:=⟨nm,[⟨h,1,0,0,1,0⟩,⟨l,2,0,0,0,0⟩],[⟨f,.bin 36 (eVar 0) ybhv,[(0,ybhv)]⟩,⟨d,yclz,[(1,.leaf 3 0)]⟩,⟨t,ycle,[(1,.leaf 2 0)]⟩,⟨i,ydpi,[(1,.un 19 (eVar 1))]⟩]⟩
theorem count_filter(f:Int×Int->Bool)(ls:List (Int×Int)):countP (ls.map fun l=>ybu (f l))=((ls.filter f).length:Int):=by
 unfold countP
 induction ls with
 |nil=>rfl
 | cons l ls ih =>
   cases h:f l with
   | false =>
     rw[zAD,zAM,zAM,h];have e:((ybu false != 0)=true)=False:=by simp[ybu]
     simp only[e,if_false,zBN];exact ih
   | true =>
     rw[zAD,zAM,zAM,h];have e:((ybu true != 0)=true)=True:=by simp[ybu]
     simp only[e,if_true,zAY];omega
theorem ycgt(f:Int×Int->Bool)(ls:List (Int×Int)):yhf 20 (ls.map fun l=>ybu (f l))=ybu (ls.all f):=by
 show ybu (countP _==((zCH (ls.map _):Nat):Int))=_;rw[count_filter,zQ];congr 1;rw[zBY,beq_iff_eq,zBT];constructor
 .intro h l hl;have h:(ls.filter f).length=ls.length:=by omega
  exact List.length_filter_eq_length_iff.1 h l hl
 .intro h;have:(ls.filter f).length=ls.length:=List.length_filter_eq_length_iff.2 h;omega
theorem ybxd(f:Int×Int->Bool)(ls:List (Int×Int)):yhf 21 (ls.map fun l=>ybu (f l))=ybu (ls.any f):=by
 show ybu (decide (countP _>0))=_;rw[count_filter];congr 1;rw[zBY,decide_eq_true_iff,zBC];constructor
 .intro h;have h:0<(ls.filter f).length:=by omega
  obtain⟨l,hl⟩:=List.exists_mem_of_length_pos h;exact⟨l,(List.mem_filter.1 hl).1,(List.mem_filter.1 hl).2⟩
 .rintro⟨l,hl,hf⟩;have:=List.length_pos_of_mem (List.mem_filter.2 ⟨hl,hf⟩);omega
def hAt(c:Conf)(v:Nat):Int:=(c.getD v []).getD 0 0
def lAt(c:Conf)(v:Nat):Int:=(c.getD v []).getD 1 0
section
variable {nm nh nl nf nd nt ni:ByteArray}{g:Gr}{c:Conf}{u v w:Nat}
def ysf(g:Gr)(c:Conf)(v:Nat):Prop:=lAt c v=1/\∃u,adj g v u/\hAt c v<hAt c u
def yrz(g:Gr)(c:Conf)(v:Nat):Prop:=lAt c v=0/\∀u,adj g v u->hAt c u<hAt c v
def gTie(g:Gr)(c:Conf)(v:Nat):Prop:=hAt c v<(g.ids.length:Int)/\(∀u,adj g v u->hAt c u<=hAt c v)/\∃u,adj g v u/\hAt c u=hAt c v/\lAt c u=lAt c v
structure ElC(g:Gr)(c:Conf):Prop where
 len:c.length=g.ids.length
 row:∀v,v<g.ids.length->(c.getD v []).length=2/\(0<=hAt c v/\hAt c v<=g.ids.length)/\(lAt c v=0\/lAt c v=1)
theorem bTB{x:ByteArray}:ybi g v ⟨x,2,0,0,0,0⟩=(0,1):=by
 show(if (2:Int)=1 then _ else if (2:Int)=2 then _ else _)=_
 rw[if_neg (by decide),if_pos rfl]
theorem ykc(hc:ydz (ybo nm nh nl nf nd nt ni) g c=true):ElC g c:=by
 have h:=(yfd _ _ _).1 hc;refine⟨h.1,fun v hv=>?_⟩;have hlt:v<c.length:=by rw[h.1];exact hv
 have e:c.getD v []=c[v]:=by simp[zL,hlt]
 have h2:=h.2 v _ (zH hlt);unfold hAt lAt;rw[e];have hl:c[v].length=2:=h2.1;have a0:(ybi g v ⟨nh,1,0,0,1,0⟩).1<=c[v][0]/\c[v][0]<=(ybi g v ⟨nh,1,0,0,1,0⟩).2:=h2.2 0 _ _ rfl (zH (by omega))
 have a1:(ybi g v ⟨nl,2,0,0,0,0⟩).1<=c[v][1]/\c[v][1]<=(ybi g v ⟨nl,2,0,0,0,0⟩).2:=h2.2 1 _ _ rfl (zH (by omega))
 have e0:c[v].getD 0 0=c[v][0]:=by simp[zL,hl]
 have e1:c[v].getD 1 0=c[v][1]:=by simp[zL,hl]
 rw[e0,e1];rw[bT1]at a0;rw[bTB]at a1;simp only at a0 a1;exact⟨hl,⟨by omega,by omega⟩,by omega⟩
theorem ybxr(hg:ybe g)(hv:v<g.ports.length){f:Nat->Bool}:(g.ports.getD v []).all (fun l=>f l.1.toNat)=true↔∀u,adj g v u->f u=true:=by
 rw[zBT];constructor
 .intro h u hu;obtain⟨l,hl,e⟩:=yie hu;rw[<-e];exact h l hl
 .intro h l hl;exact h _ (ydp hg hv hl).2.2.1
theorem ydoc(hg:ybe g)(hv:v<g.ports.length){f:Nat->Bool}:(g.ports.getD v []).any (fun l=>f l.1.toNat)=true↔∃u,adj g v u/\f u=true:=by
 rw[zBC];constructor
 .rintro⟨l,hl,hf⟩;exact⟨_,(ydp hg hv hl).2.2.1,hf⟩
 .rintro⟨u,hu,hf⟩;obtain⟨l,hl,e⟩:=yie hu;exact⟨l,hl,by rw[e];exact hf⟩
theorem ycbw(hg:ybe g)(h:ElC g c)(hv:v<g.ids.length) :
 (yjp g c v ⟨nf,.bin 36 (eVar 0) ybhv,[(0,ybhv)]⟩=true↔hAt c v≠cnV g c v) /\
 (yjp g c v ⟨nd,yclz,[(1,.leaf 3 0)]⟩=true↔ysf g c v) /\
 (yjp g c v ⟨nt,ycle,[(1,.leaf 2 0)]⟩=true↔yrz g c v) /\
 (yjp g c v ⟨ni,ydpi,[(1,.un 19 (eVar 1))]⟩=true↔gTie g c v):=by
 have hvp:v<g.ports.length:=by have:=hg.2.2.1;omega
 have hl:=(h.row v hv).2.2;have b36:∀a b:Int,binP 36 a b=ybu (a != b):=fun a b=>rfl;have b37:∀a b:Int,binP 37 a b=ybu (decide (a<b)):=fun a b=>rfl;have b38:∀a b:Int,binP 38 a b=ybu (decide (a<=b)):=fun a b=>rfl;have b35:∀a b:Int,binP 35 a b=ybu (a==b):=fun a b=>rfl;have b41:∀a b:Bool,binP 41 (ybu a) (ybu b)=ybu (a&&b):=fun a b=>by cases a<;>cases b<;>rfl
 have u19:∀a:Bool,unP 19 (ybu a)=ybu (!a):=fun a=>by cases a<;>rfl
 have e1:yda g c v (eVar 1) (-1)=ybu (lAt c v==1):=by
  show lAt c v=_;rcases hl with q|q<;>rw[q]<;>rfl
 have aggA:∀(f:Nat->Bool) (x:Ex),(∀q:Nat,q<(g.ports.getD v []).length->yda g c v x q=ybu (f (ycm g v q).1.toNat))->yda g c v (.agg 20 x) (-1)=ybu ((g.ports.getD v []).all fun l=>f l.1.toNat):=fun f x hx=>by
  rw[<-ycgt];show yhf 20 _=_;congr 1;exact yum g v _ _ fun q hq=>hx q hq
 have aggS:∀(f:Nat->Bool) (x:Ex),(∀q:Nat,q<(g.ports.getD v []).length->yda g c v x q=ybu (f (ycm g v q).1.toNat))->yda g c v (.agg 21 x) (-1)=ybu ((g.ports.getD v []).any fun l=>f l.1.toNat):=fun f x hx=>by
  rw[<-ybxd];show yhf 21 _=_;congr 1;exact yum g v _ _ fun q hq=>hx q hq
 have a1:=aggA (fun u=>decide (hAt c u<=hAt c v)) (.bin 38 (eQ 0) (eVar 0)) fun q hq=>rfl;have a2:=aggA (fun u=>decide (hAt c u<hAt c v)) (.bin 37 (eQ 0) (eVar 0)) fun q hq=>rfl
 have a3:=aggS (fun u=>(hAt c u==hAt c v)&&(lAt c u==lAt c v)) (.bin 41 (.bin 35 (eQ 0) (eVar 0)) (.bin 35 (eQ 1) (eVar 1))) fun q hq=>by
  show binP 41 (binP 35 _ _) (binP 35 _ _)=_;rw[b35,b35,b41];rfl
 refine⟨?_,?_,?_,?_⟩
 .show(binP 36 (hAt c v) (yda g c v ybhv (-1))!=0)=true↔_;rw[ybjt hg,b36,yom,bne_iff_ne]
 .show(binP 41 (yda g c v (eVar 1) (-1)) (unP 19 (yda g c v (.agg 20 (.bin 38 (eQ 0) (eVar 0))) (-1)))!=0)=true↔_;rw[e1,a1,u19,b41,yom,zI,beq_iff_eq,Bool.not_eq_true'];unfold ysf;refine and_congr_right fun _=>?_;rw[Bool.eq_false_iff,Ne,ybxr hg hvp (f:=fun u=>decide (hAt c u<=hAt c v))];constructor
  .intro hq;refine zS fun hn=>hq fun u hu=>decide_eq_true ?_;rcases zT (hAt c v) (hAt c u)with q|q
   .exact absurd ⟨u,hu,q⟩ hn
   .exact q
  .rintro⟨u,hu,q⟩ hq;have:=of_decide_eq_true (hq u hu);omega
 .show(binP 41 (unP 19 (yda g c v (eVar 1) (-1))) (yda g c v (.agg 20 (.bin 37 (eQ 0) (eVar 0))) (-1))!=0)=true↔_;rw[e1,a2,u19,b41,yom,zI,ybxr hg hvp (f:=fun u=>decide (hAt c u<hAt c v))];unfold yrz;refine and_congr ?_ ?_
  .rcases hl with q|q<;>rw[q]<;>decide
  .exact forall_congr' fun u=>forall_congr' fun hu=>decide_eq_true_iff
 .show(binP 41 (binP 41 (binP 37 (hAt c v) (g.ids.length:Int)) (yda g c v (.agg 20 (.bin 38 (eQ 0) (eVar 0))) (-1))) (yda g c v (.agg 21 (.bin 41 (.bin 35 (eQ 0) (eVar 0)) (.bin 35 (eQ 1) (eVar 1)))) (-1))!=0)=true↔_;rw[a1,a3,b37,b41,b41,yom,zI,zI,ybxr hg hvp (f:=fun u=>decide (hAt c u<=hAt c v)),ydoc hg hvp (f:=fun u=>(hAt c u==hAt c v)&&(lAt c u==lAt c v)),decide_eq_true_iff];unfold gTie;rw[and_assoc]
  refine and_congr_right fun _=>and_congr ?_ ?_
  .exact forall_congr' fun u=>forall_congr' fun hu=>decide_eq_true_iff
  .refine exists_congr fun u=>and_congr_right fun _=>?_;rw[zI,beq_iff_eq,beq_iff_eq]
open Classical in
noncomputable def ylr(g:Gr)(c:Conf)(v:Nat):Int:=if hAt c v≠cnV g c v then 0 else if ysf g c v then 1 else if yrz g c v then 2 else if gTie g c v then 3 else -1
theorem yccr(hg:ybe g)(h:ElC g c)(hv:v<g.ids.length):yho (ybo nm nh nl nf nd nt ni) g c v=ylr g c v:=by
 obtain⟨h1,h2,h3,h4⟩:=ycbw (nf:=nf) (nd:=nd) (nt:=nt) (ni:=ni) hg h hv;unfold yho ybo ylr;simp only[List.findIdx?_cons,List.findIdx?_nil]
 by_cases q1:hAt c v≠cnV g c v
 .rw[if_pos q1,h1.2 q1];rfl
 .rw[if_neg q1,Bool.eq_false_iff.2 fun e=>q1 (h1.1 e)]
  by_cases q2:ysf g c v
  .rw[if_pos q2,h2.2 q2];rfl
  .rw[if_neg q2,Bool.eq_false_iff.2 fun e=>q2 (h2.1 e)]
   by_cases q3:yrz g c v
   .rw[if_pos q3,h3.2 q3];rfl
   .rw[if_neg q3,Bool.eq_false_iff.2 fun e=>q3 (h3.1 e)]
    by_cases q4:gTie g c v
    .rw[if_pos q4,h4.2 q4];rfl
    .rw[if_neg q4,Bool.eq_false_iff.2 fun e=>q4 (h4.1 e)];rfl
theorem ydfh(hg:ybe g)(h:ElC g c)(hv:v<g.ids.length)(hen:ylr g c v ≠ -1) :
 ∃ s,ybbo (ybo nm nh nl nf nd nt ni) g c v (yho (ybo nm nh nl nf nd nt ni) g c v).toNat=s/\s.getD 0 0=cnV g c v /\
   ((hAt c v≠cnV g c v/\s.getD 1 0=lAt c v)\/(hAt c v=cnV g c v/\((ysf g c v/\s.getD 1 0=0)\/(yrz g c v/\s.getD 1 0=1)\/(gTie g c v/\s.getD 1 0=1-lAt c v)))):=by
 rw[yccr hg h hv];obtain⟨h2,h3,h4⟩:=h.row v hv
 obtain⟨x,y,hxy⟩:∃x y,c.getD v []=[x,y]:=by
  match hq:c.getD v [],h2 with
  |[x,y],_=>exact⟨x,y,rfl⟩
 have hx:hAt c v=x:=by unfold hAt;rw[hxy];rfl
 have hy:lAt c v=y:=by unfold lAt;rw[hxy];rfl
 obtain⟨b1,b2⟩:=ydni hg hv fun u hu=>(h.row u hu).2.1.1;refine⟨_,rfl,?_⟩;unfold ybbo ype;rw[hxy]
 have br:∀z:Int,0<=z/\z<=1->yfw 2 (ybi g v ⟨nl,2,0,0,0,0⟩) z=z:=fun z hz=>by
  unfold yfw;rw[bTB,if_pos ⟨hz.1,hz.2⟩]
 unfold ylr at hen ⊢
 by_cases q1:hAt c v≠cnV g c v
 .rw[if_pos q1];show([yfw 1 (ybi g v ⟨nh,1,0,0,1,0⟩) (yda g c v ybhv (-1)),y]:List Int).getD 0 0=_/\_;rw[ybjt hg];refine⟨?_,.inl ⟨q1,hy.symm⟩⟩;show yfw 1 (ybi g v ⟨nh,1,0,0,1,0⟩) (cnV g c v)=_;unfold yfw;rw[bT1,if_pos (by simp only;omega)]
 .have q1':hAt c v=cnV g c v:=Classical.not_not.1 q1;rw[if_neg q1]at hen ⊢
  by_cases q2:ysf g c v
  .rw[if_pos q2];show([x,yfw 2 (ybi g v ⟨nl,2,0,0,0,0⟩) 0]:List Int).getD 0 0=_/\_;refine⟨by rw[<-q1',hx];rfl,.inr ⟨q1',.inl ⟨q2,?_⟩⟩⟩
   exact br 0 (by omega)
  .rw[if_neg q2]at hen ⊢
   by_cases q3:yrz g c v
   .rw[if_pos q3];show([x,yfw 2 (ybi g v ⟨nl,2,0,0,0,0⟩) 1]:List Int).getD 0 0=_/\_;refine⟨by rw[<-q1',hx];rfl,.inr ⟨q1',.inr (.inl ⟨q3,?_⟩)⟩⟩
    exact br 1 (by omega)
   .rw[if_neg q3]at hen ⊢
    by_cases q4:gTie g c v
    .rw[if_pos q4];show([x,yfw 2 (ybi g v ⟨nl,2,0,0,0,0⟩) (unP 19 (yda g c v (eVar 1) (-1)))]:List Int).getD 0 0=_/\_;refine⟨by rw[<-q1',hx];rfl,.inr ⟨q1',.inr (.inr ⟨q4,?_⟩)⟩⟩
     have e:unP 19 (yda g c v (eVar 1) (-1))=1-lAt c v:=by
      show ybu (lAt c v==0)=_;rcases h4 with q|q<;>rw[q]<;>rfl
     show yfw 2 _ (unP 19 (yda g c v (eVar 1) (-1)))=_;rw[e];exact br _ (by omega)
    .rw[if_neg q4]at hen;exact absurd rfl hen
end
end
section
structure Stab(g:Gr)(c:Conf)(v:Nat):Prop where
 low:¬Peak g v->lAt c v=0
 one:Peak g v->(∀u,adj g v u->htP g u<htP g v)->lAt c v=1
 two:Peak g v->∀u,adj g v u->htP g u=htP g v->lAt c u≠lAt c v
def ygi(g:Gr)(c:Conf):Prop:=∀v,v<g.ids.length->hAt c v=htP g v
section
variable {nm nh nl nf nd nt ni:ByteArray}{g:Gr}{c:Conf}{u v w s:Nat}
theorem ycas(hg:ybe g):Sh.ywh (ybo nm nh nl nf nd nt ni) g=true:=by
 have h1:=hg.1;have h2:=hg.2.1;have h3:=hg.2.2.1;simp[Sh.ywh,ybo,ybi];omega
theorem ydun:(ybo nm nh nl nf nd nt ni).ok=true:=by kernel_rfl
theorem yche(hg:ybe g)(h:ElC g c)(hv:v<g.ids.length):(ybn (ybo nm nh nl nf nd nt ni) g c).testBit v=false↔ylr g c v = -1:=by
 unfold ybn;rw[yok,yccr hg h hv,decide_eq_true hv,zCD,decide_eq_false_iff_not];unfold ylr;split
 .omega
 .split
  .omega
  .split
   .omega
   .split<;>omega
theorem yyw(h:ElC g c)(hv:v<g.ids.length)(hb:s.testBit v=false):(yfb (ybo nm nh nl nf nd nt ni) g c s).getD v []=c.getD v []:=by
 rw[Sh.yny _ g c s (by rw[h.len];exact hv),hb]
 rfl
theorem ybjv(hg:ybe g)(h:ElC g c)(hv:v<g.ids.length)(hb:s.testBit v=true)(hs:subB s (ybn (ybo nm nh nl nf nd nt ni) g c)) :
 hAt (yfb (ybo nm nh nl nf nd nt ni) g c s) v=cnV g c v /\
  ((hAt c v≠cnV g c v/\lAt (yfb (ybo nm nh nl nf nd nt ni) g c s) v=lAt c v)\/(hAt c v=cnV g c v/\((ysf g c v/\lAt (yfb (ybo nm nh nl nf nd nt ni) g c s) v=0)\/(yrz g c v/\lAt (yfb (ybo nm nh nl nf nd nt ni) g c s) v=1)\/(gTie g c v/\lAt (yfb (ybo nm nh nl nf nd nt ni) g c s) v=1-lAt c v)))):=by
 have hen:ylr g c v ≠ -1:=fun e=>by
  have:=(yche (nm:=nm) (nh:=nh) (nl:=nl) (nf:=nf) (nd:=nd) (nt:=nt) (ni:=ni) hg h hv).2 e;rw[hs v hb]at this;cases this
 obtain⟨t,e1,e2,e3⟩:=ydfh (nm:=nm) (nh:=nh) (nl:=nl) (nf:=nf) (nd:=nd) (nt:=nt) (ni:=ni) hg h hv hen
 have e:(yfb (ybo nm nh nl nf nd nt ni) g c s).getD v []=t:=by
  rw[Sh.yny _ g c s (by rw[h.len];exact hv),hb,if_pos rfl]
  exact e1
 unfold hAt at *;unfold lAt at *;rw[e];exact⟨e2,e3⟩
theorem ydib(hg:ybe g)(h:ElC g c)(hv:v<g.ids.length)(hb:(ybn (ybo nm nh nl nf nd nt ni) g c).testBit v=false):hAt c v=cnV g c v/\¬ysf g c v/\¬yrz g c v/\¬gTie g c v:=by
 have e:=(yche hg h hv).1 hb;unfold ylr at e
 by_cases q1:hAt c v≠cnV g c v
 .rw[if_pos q1]at e;omega
 .rw[if_neg q1]at e
  by_cases q2:ysf g c v
  .rw[if_pos q2]at e;omega
  .rw[if_neg q2]at e
   by_cases q3:yrz g c v
   .rw[if_pos q3]at e;omega
   .rw[if_neg q3]at e
    by_cases q4:gTie g c v
    .rw[if_pos q4]at e;omega
    .exact⟨Classical.not_not.1 q1,q2,q3,q4⟩
theorem yrd(h:Tr g)(hH:ygi g c)(hv:v<g.ids.length):cnV g c v=htP g v:=by
 have:=h.cn_next (c:=c) hv 100 fun u hu=>by
  have:=h.ht_lt (v:=u) (by have:=h.good.2.2.1;omega)
  have:=h.good.2.1;rw[if_pos (by omega)]
  exact hH u hu
 have h2:=h.ht_lt (v:=v) (by have:=h.good.2.2.1;omega)
 have h3:=h.good.2.1;rw[if_pos (by omega)]at this
 exact this
theorem ypa(hg:ybe g)(hH:ygi g c)(hv:v<g.ids.length):ysf g c v↔lAt c v=1/\¬Peak g v:=by
 have hpl:=hg.2.2.1;unfold ysf Peak;refine and_congr_right fun _=>?_;constructor
 .rintro⟨u,hu,q⟩ hp;rw[hH v hv,hH u (by have:=(hg.adj_lt hu).2;omega)]at q
  have:=hp u hu;omega
 .intro hp;refine zS fun hn=>hp fun u hu=>?_;rcases zT (htP g v) (htP g u)with q|q
  .exact absurd ⟨u,hu,by rw[hH v hv,hH u (by have:=(hg.adj_lt hu).2;omega)];exact q⟩ hn
  .exact q
theorem ypb(hg:ybe g)(hH:ygi g c)(hv:v<g.ids.length):yrz g c v↔lAt c v=0/\∀u,adj g v u->htP g u<htP g v:=by
 have hpl:=hg.2.2.1;unfold yrz;refine and_congr_right fun _=>forall_congr' fun u=>forall_congr' fun hu=>?_;rw[hH v hv,hH u (by have:=(hg.adj_lt hu).2;omega)]
theorem ytf(h:Tr g)(hH:ygi g c)(hv:v<g.ids.length):gTie g c v↔Peak g v/\∃u,adj g v u/\htP g u=htP g v/\lAt c u=lAt c v:=by
 have hg:=h.good;have hpl:=hg.2.2.1;have hlt:=h.ht_lt (v:=v) (by omega)
 unfold gTie Peak;rw[hH v hv];constructor
 .rintro⟨_,h1,u,hu,h2,h3⟩;exact⟨fun x hx=>by have:=h1 x hx;rwa [hH x (by have:=(hg.adj_lt hx).2;omega)]at this,u,hu,by rwa [hH u (by have:=(hg.adj_lt hu).2;omega)]at h2,h3⟩
 .rintro⟨h1,u,hu,h2,h3⟩;exact⟨by omega,fun x hx=>by rw[hH x (by have:=(hg.adj_lt hx).2;omega)];exact h1 x hx,u,hu,by rw[hH u (by have:=(hg.adj_lt hu).2;omega)];exact h2,h3⟩
theorem Tr.twin(h:Tr g)(hp:Peak g v)(hu:adj g v u)(hw:adj g v w)(eu:htP g u=htP g v)(ew:htP g w=htP g v):u=w:=by
 refine zS fun hne=>?_;obtain⟨lv,lu⟩:=h.good.adj_lt hu;exact h.no_three hp (h.peak_eq hp hu eu) (h.peak_eq hp hw ew) lv lu (h.good.adj_lt hw).2 (h.ne hu) (h.ne hw) hne
theorem yto(h:Tr g)(hc:ElC g c)(hH:ygi g c)(hv:v<g.ids.length)(hS:Stab g c v):ylr g c v = -1:=by
 have e:=yrd h hH hv;unfold ylr;rw[if_neg (fun q=>q (by rw[hH v hv,e])),if_neg,if_neg,if_neg]
 .rw[ytf h hH hv];rintro⟨hp,u,hu,e1,e2⟩;exact hS.two hp u hu e1 e2
 .rw[ypb h.good hH hv];rintro⟨e1,e2⟩;have:=hS.one (fun u hu=>by have:=e2 u hu;omega) e2
  omega
 .rw[ypa h.good hH hv];rintro⟨e1,e2⟩;have:=hS.low e2;omega
theorem ybwp(h:Tr g)(hc:ElC g c)(hH:ygi g c)(hv:v<g.ids.length)(h2:¬ysf g c v)(h3:¬yrz g c v)(h4:¬gTie g c v):Stab g c v:=by
 rw[ypa h.good hH hv]at h2;rw[ypb h.good hH hv]at h3;rw[ytf h hH hv]at h4;have hl:=(hc.row v hv).2.2;refine⟨fun hp=>?_,fun hp hq=>?_,fun hp u hu e1 e2=>h4 ⟨hp,u,hu,e1,e2⟩⟩
 .rcases hl with q|q
  .exact q
  .exact absurd ⟨q,hp⟩ h2
 .rcases hl with q|q
  .exact absurd ⟨q,hq⟩ h3
  .exact q
theorem ybqs(h:Tr g)(hc:ElC g c)(hH:ygi g c)(hv:v<g.ids.length)(hb:s.testBit v=true)(hs:subB s (ybn (ybo nm nh nl nf nd nt ni) g c))(hD:ynz g s):Stab g (yfb (ybo nm nh nl nf nd nt ni) g c s) v:=by
 have hpl:=h.good.2.2.1;have hl:=(hc.row v hv).2.2;have e:=yrd h hH hv;obtain⟨_,hm⟩:=ybjv h.good hc hv hb hs
 have other:∀u,adj g v u->lAt (yfb (ybo nm nh nl nf nd nt ni) g c s) u=lAt c u:=fun u hu=>by
  unfold lAt;rw[yyw hc (by have:=(h.good.adj_lt hu).2;omega) (hD v u hu hb)]
 rcases hm with⟨q,_⟩|⟨_,⟨q,e1⟩|⟨q,e1⟩|⟨q,e1⟩⟩
 .exact absurd (by rw[hH v hv,e]) q
 .rw[ypa h.good hH hv]at q;exact⟨fun _=>e1,fun hp=>absurd hp q.2,fun hp=>absurd hp q.2⟩
 .rw[ypb h.good hH hv]at q;have hp:Peak g v:=fun u hu=>by have:=q.2 u hu;omega
  exact⟨fun hn=>absurd hp hn,fun _ _=>e1,fun _ u hu e2=>by have:=q.2 u hu;omega⟩
 .rw[ytf h hH hv]at q;obtain⟨hp,u,hu,e2,e3⟩:=q;refine⟨fun hn=>absurd hp hn,fun _ hq=>by have:=hq u hu;omega,fun _ w hw e4=>?_⟩
  have:=h.twin hp hu hw e2 e4;subst this;rw[other u hu,e1,e3];omega
theorem ybuh(h:Tr g)(hc:ElC g c)(hH:ygi g c)(hv:v<g.ids.length)(hb:s.testBit v=false)(hs:subB s (ybn (ybo nm nh nl nf nd nt ni) g c))(hS:Stab g c v):Stab g (yfb (ybo nm nh nl nf nd nt ni) g c s) v:=by
 have hpl:=h.good.2.2.1
 have e0:lAt (yfb (ybo nm nh nl nf nd nt ni) g c s) v=lAt c v:=by
  unfold lAt;rw[yyw hc hv hb]
 refine⟨fun hn=>by rw[e0];exact hS.low hn,fun hp hq=>by rw[e0];exact hS.one hp hq,fun hp u hu e1=>?_⟩
 have hun:u<g.ids.length:=by have:=(h.good.adj_lt hu).2;omega
 have hnb:s.testBit u=false:=by
  cases hbu:s.testBit u with
  |false=>rfl
  | true =>
    exfalso
    have hpu:=h.peak_eq hp hu e1;have back:=h.good.adj_symm hu
    have hSu:Stab g c u:=⟨fun hn=>absurd hpu hn,fun _ hq=>by have:=hq v back;omega,fun _ w hw e2=>by
     have:=h.twin hpu back hw e1.symm e2;subst this;exact fun q=>hS.two hp u hu e1 q.symm⟩
    have:=(yche (nm:=nm) (nh:=nh) (nl:=nl) (nf:=nf) (nd:=nd) (nt:=nt) (ni:=ni) h.good hc hun).2 (yto h hc hH hun hSu);rw[hs u hbu]at this;cases this
 have e2:lAt (yfb (ybo nm nh nl nf nd nt ni) g c s) u=lAt c u:=by
  unfold lAt;rw[yyw hc hun hnb]
 rw[e0,e2];exact hS.two hp u hu e1
def elR(g:Gr)(R r v:Nat)(c:Conf):Prop:=(if htP g v<(r:Int)then hAt c v=htP g v else(r:Int)<=hAt c v)/\(R+1<=r->Stab g c v)
theorem yka{R r:Nat}(hR:∀v,v<g.ids.length->htP g v<(R:Int))(hr:R<=r)(hall:∀u,u<g.ids.length->elR g R r u c):ygi g c:=fun v hv=>by
 have:=(hall v hv).1;have:=hR v hv;rw[if_pos (by omega)]at *
 assumption
theorem ycsi(h:Tr g){R r:Nat}(hall:∀u,u<g.ids.length->elR g R r u c)(hv:v<g.ids.length):if htP g v<((r+1:Nat):Int)then cnV g c v=htP g v else((r+1:Nat):Int)<=cnV g c v :=
 h.cn_next hv r fun u hu=>(hall u hu).1
theorem ydng(h:Tr g){R:Nat}(hR:∀v,v<g.ids.length->htP g v<(R:Int)):ByRoundsC (ybr (ybo nm nh nl nf nd nt ni) g) (fun c=>ydz (ybo nm nh nl nf nd nt ni) g c=true) (ynz g) (elR g R) where
 valid:=fun c s hc _ _ _=>Sh.yyn h.good ydun (ycas h.good) hc s
 stay:=fun c s v r r' hr1 hr2 hV hv hb hs hD hall hP=>by
  have hc:=ykc hV;have hv:v<g.ids.length:=hv
  have e:hAt (yfb (ybo nm nh nl nf nd nt ni) g c s) v=hAt c v:=by
   unfold hAt;rw[yyw hc hv hb]
  refine⟨?_,fun hq=>?_⟩
  .have:=hP.1;show if htP g v<(r':Int)then hAt (yfb _ g c s) v=htP g v else(r':Int)<=hAt (yfb _ g c s) v
   rw[e];exact this
  .exact ybuh h hc (yka hR (r:=r) (by omega) hall) hv hb hs (hP.2 hq)
 move:=fun c s v r hV hv hb hs hD hall=>by
  have hc:=ykc hV;have hv:v<g.ids.length:=hv;have e:=(ybjv h.good hc hv hb hs).1;refine⟨?_,fun hq=>?_⟩
  .show if htP g v<((r+1:Nat):Int)then hAt (yfb _ g c s) v=htP g v else((r+1:Nat):Int)<=hAt (yfb _ g c s) v
   rw[e];exact ycsi h hall hv
  .exact ybqs h hc (yka hR (r:=r) (by omega) hall) hv hb hs hD
 rest:=fun c v r hV hv hb hall=>by
  have hc:=ykc hV;have hv:v<g.ids.length:=hv;obtain⟨e,h2,h3,h4⟩:=ydib h.good hc hv hb;refine⟨?_,fun hq=>?_⟩
  .rw[e];exact ycsi h hall hv
  .exact ybwp h hc (yka hR (r:=r) (by omega) hall) hv h2 h3 h4
 less:=fun r v c hP=>by
  refine⟨?_,fun hq=>hP.2 (by omega)⟩
  have:=hP.1;split at this
  .split
   .exact this
   .rw[this];omega
  .rw[if_neg (by omega)];omega
theorem ybko(hc:ElC g c)(hv:v<g.ids.length){R:Nat}:elR g R 0 v c:=by
 have:=yga g v;refine⟨?_,fun q=>by omega⟩
 rw[if_neg (by omega)]
 exact(hc.row v hv).2.1.1
def yqg(g:Gr)(c:Conf):Prop:=ygi g c/\∃v,v<g.ids.length/\Peak g v/\lAt c v=1/\∀u,u<g.ids.length->lAt c u=1->u=v
theorem ykl(h:Tr g)(hc:ElC g c)(hH:ygi g c):yqg g c↔∀v,v<g.ids.length->Stab g c v:=by
 have hpl:=h.good.2.2.1;constructor
 .rintro⟨_,p,hp,hpk,hl,huni⟩ v hv
  have peers:∀x,x<g.ids.length->Peak g x->x≠p->adj g p x/\htP g x=htP g p:=fun x hx hxp hne=>by
   have ha:=h.adj_of (by omega) (by omega) (h.peaks_adj hpk hxp (by omega) (by omega) hne)
   have:=hpk x ha;have:=hxp p (h.good.adj_symm ha);exact⟨ha,by omega⟩
  have zero:∀x,x<g.ids.length->x≠p->lAt c x=0:=fun x hx hne=>by
   rcases(hc.row x hx).2.2 with q|q
   .exact q
   .exact absurd (huni x hx q) hne
  refine⟨fun hn=>zero v hv fun e=>hn (e▸hpk),fun hvp hq=>?_,fun hvp u hu e1=>?_⟩
  .by_cases e:v=p
   .rw[e];exact hl
   .obtain⟨ha,he⟩:=peers v hv hvp e;have:=hq p (h.good.adj_symm ha);omega
  .have hun:u<g.ids.length:=by have:=(h.good.adj_lt hu).2;omega
   have hup:=h.peak_eq hvp hu e1
   by_cases e:v=p
   .subst e;rw[hl,zero u hun (fun e2=>h.ne hu e2.symm)];omega
   .by_cases e2:u=p
    .subst e2;rw[hl,zero v hv e];omega
    .exact(h.no_three hvp hup hpk (by omega) (by omega) (by omega) (h.ne hu) e e2).elim
 .intro hS;refine⟨hH,?_⟩;obtain⟨p,hp,hpk⟩:=h.peak_ex
  have fin:∀q,q<g.ids.length->Peak g q->lAt c q=1->(∀x,x<g.ids.length->Peak g x->x≠q->lAt c x=0)->∃v,v<g.ids.length/\Peak g v/\lAt c v=1/\∀u,u<g.ids.length->lAt c u=1->u=v:=fun q hq hqp h1 h0=>by
   refine⟨q,hq,hqp,h1,fun u hu e=>zS fun hne=>?_⟩
   by_cases hup:Peak g u
   .have:=h0 u hu hup hne;omega
   .have:=(hS u hu).low hup;omega
  by_cases hx:∃x,x<g.ids.length/\Peak g x/\x≠p
  .obtain⟨x,hxl,hxp,hne⟩:=hx;have ha:=h.adj_of (by omega) (by omega) (h.peaks_adj hpk hxp (by omega) (by omega) hne)
   have h1:=hpk x ha;have h2:=hxp p (h.good.adj_symm ha);have hd:=(hS p (by omega)).two hpk x ha (by omega)
   rcases(hc.row p (by omega)).2.2 with q|q
   .have hl:lAt c x=1:=by
     rcases(hc.row x hxl).2.2 with q2|q2
     .rw[q,q2]at hd;exact absurd rfl hd
     .exact q2
    refine fin x hxl hxp hl fun y hy hyp hyn=>?_
    by_cases e:y=p
    .rw[e];exact q
    .exact(h.no_three hpk hxp hyp hp (by omega) (by omega) (fun e2=>hne e2.symm) (fun e2=>e e2.symm) (fun e2=>hyn e2.symm)).elim
   .refine fin p (by omega) hpk q fun y hy hyp hyn=>?_
    by_cases e:y=x
    .subst e;rcases(hc.row y hy).2.2 with q2|q2
     .exact q2
     .rw[q,q2]at hd;exact absurd rfl hd
    .exact(h.no_three hpk hxp hyp hp (by omega) (by omega) (fun e2=>hne e2.symm) (fun e2=>hyn e2.symm) (fun e2=>e e2.symm)).elim
  .have only:∀x,x<g.ids.length->Peak g x->x=p:=fun x hxl hxp=>zS fun hne=>hx ⟨x,hxl,hxp,hne⟩;refine fin p (by omega) hpk ((hS p (by omega)).one hpk fun u hu=>?_) fun y hy hyp hyn=>absurd (only y hy hyp) hyn
   have h1:=hpk u hu;rcases zT (htP g u) (htP g p)with q|q
   .exact q
   .have:=only u (by have:=(h.good.adj_lt hu).2;omega) (h.peak_eq hpk hu (by omega))
    exact absurd this.symm (h.ne hu)
theorem ycgm(h:Tr g)(hv:ydz (ybo nm nh nl nf nd nt ni) g c=true):ybn (ybo nm nh nl nf nd nt ni) g c=0↔yqg g c:=by
 have hpl:=h.good.2.2.1;have hc:=ykc hv
 have hR:∀v,v<g.ids.length->htP g v<((24:Nat):Int):=fun v hv=>by
  have:=h.ht_lt (v:=v) (by omega)
  have:=h.good.2.1;omega
 constructor
 .intro he;have hs:=(ydng (nm:=nm) (nh:=nh) (nl:=nl) (nf:=nf) (nd:=nd) (nt:=nt) (ni:=ni) h hR).silent hv (fun v hn=>ybko hc hn) he;have hH:ygi g c:=yka hR (zAA _) (hs 24);exact(ykl h hc hH).2 fun v hn=>(hs 25 v hn).2 (zAA _)
 .intro hr;have hH:=hr.1;have hS:=(ykl h hc hH).1 hr;rw[ycb];intro i
  by_cases hi:i<g.ids.length
  .exact(yche h.good hc hi).2 (yto h hc hH hi (hS i hi))
  .exact zBI (zAS (Sh.ycel _ g c) (zAC (by omega) (by omega)))
theorem ybwe(h:Tr g){R:Nat}(hR:∀v,v<g.ids.length->htP g v<(R:Int)){res:Nat->Nat->Nat}(hr:ResD (ynz g) res){ws:List Nat}{c:Conf}(hv:ydz (ybo nm nh nl nf nd nt ni) g c=true):∀p∈(ybr (ybo nm nh nl nf nd nt ni) g).runs res ws c,RInvC (ybr (ybo nm nh nl nf nd nt ni) g) (fun c=>ydz (ybo nm nh nl nf nd nt ni) g c=true) (elR g R) p.1 p.2 :=
 (ydng h hR).runs hr hv fun v hn=>ybko (ykc hv) hn
theorem ychq(h:Tr g){R:Nat}(hR:∀v,v<g.ids.length->htP g v<(R:Int)){c:Conf}{k:Cnt}(hi:RInvC (ybr (ybo nm nh nl nf nd nt ni) g) (fun c=>ydz (ybo nm nh nl nf nd nt ni) g c=true) (elR g R) c k)(hn:¬yqg g c):k.begun<=R+1:=by
 have h1:=hi.begun;refine zS fun hq=>hn ?_;have hH:ygi g c:=yka hR (r:=k.rounds) (by omega) hi.all
 exact(ykl h (ykc hi.valid) hH).2 fun v hv=>(hi.all v hv).2 (by omega)
end
end
section
theorem ybcm{α:Type}(f:α->Int)(p:α->Bool):∀(l:List α) (m:Int),m<=l.foldl (fun m w=>if p w then max m (f w)else m) m/\(∀w∈l,p w=true->f w<=l.foldl (fun m w=>if p w then max m (f w)else m) m)/\∀t,m<=t->(∀w∈l,p w=true->f w<=t)->l.foldl (fun m w=>if p w then max m (f w)else m) m<=t
 |[],m=>⟨zO _,fun w hw=>absurd hw zAZ,fun t ht _=>ht⟩
 | x :: l,m=>by
   obtain⟨h1,h2,h3⟩:=ybcm f p l (if p x then max m (f x)else m)
   rw[zAQ];refine⟨?_,fun w hw hp=>?_,fun t ht hl=>h3 t ?_ fun w hw=>hl w (zM _ hw)⟩
   .refine zBD ?_ h1;split<;>omega
   .rcases List.mem_cons.1 hw with e|hw
    .subst e;refine zBD ?_ h1;rw[if_pos hp];omega
    .exact h2 w hw hp
   .by_cases q:p x=true
    .rw[if_pos q];have:=hl x zY q;omega
    .rw[if_neg q];exact ht
section
variable {g:Gr}{u v:Nat}
def yqa(g:Gr)(v u:Nat)(m:Int)(l:Int×Int):Int:=if (l.1 != (v:Int))=true then max m (1+rchP g u l.1.toNat)else m
theorem Tr.rch_loop(h:Tr g)(hu:adj g v u):(g.ports.getD u []).foldl (yqa g v u) 1=rchP g v u:=by
 obtain⟨hv,hul⟩:=h.good.adj_lt hu;obtain⟨h1,h2,h3⟩:=ybcm (fun l:Int×Int=>1+rchP g u l.1.toNat) (fun l:Int×Int=>l.1 != (v:Int)) (g.ports.getD u []) 1;refine zBX (h3 _ (h.rch_pos hu) fun l hl hp=>?_) ?_
 .obtain⟨a1,_,a2,_⟩:=ydp h.good hul hl;rw[bne_iff_ne]at hp;exact h.rch_step hu a2 (fun e=>hp (by omega))
 .rcases zT (rchP g v u) 2 with q|q
  .exact zBD (by omega) h1
  .obtain⟨x,hx,hne,e⟩:=h.rch_from hu q;obtain⟨l,hl,el⟩:=yie hx;obtain⟨a1,_⟩:=ydp h.good hul hl;have:=h2 l hl (by rw[bne_iff_ne];intro e;exact hne (by omega))
   rw[el]at this;rw[e];exact this
theorem Tr.rch_less(h:Tr g)(hu:adj g v u){l:Int×Int}(hl:l∈g.ports.getD u [])(hne:l.1≠(v:Int)):rchP g u l.1.toNat<rchP g v u:=by
 obtain⟨hv,hul⟩:=h.good.adj_lt hu;obtain⟨a1,_,a2,_⟩:=ydp h.good hul hl;have:=h.rch_step hu a2 (fun e=>hne (by omega))
 omega
def yqr(s:Int×Int)(x:Int):Int×Int:=(max s.1 x,max s.2 (min x s.1))
theorem ycey{s:Int×Int}{x:Int}(h:s.2<=s.1):yqr s x=step2 s x:=by
 unfold yqr step2;split<;>(try split)<;>(refine Prod.ext ?_ ?_<;>simp only<;>omega)
theorem ybju:∀(l:List Int) (s:Int×Int),s.2<=s.1->l.foldl yqr s=l.foldl step2 s
 |[],_,_=>rfl
 | x::l,s,h=>by
   rw[zAQ,zAQ,<-ycey h];exact ybju l _ (by unfold yqr;simp only;omega)
theorem ydij(g:Gr)(v:Nat):(((g.ports.getD v []).map fun l=>rchP g v l.1.toNat).foldl yqr (0,0)).2=htP g v:=by
 rw[ybju _ _ (zO _)];rfl
end
end
section
def ykm(g:Gr)(k:Nat):Int:=(zG k).foldl (fun m v=>max m (ybs (ybt g v))) 0
abbrev yif(g:Gr):Int:=ykm g g.ports.length
section
variable {g:Gr}{a b v:Nat}
theorem ygw(k:Nat):ykm g (k+1)=max (ykm g k) (ybs (ybt g k)):=by
 unfold ykm;rw[zBG,zAU];rfl
theorem yccq:∀k v,v<k->ybs (ybt g v)<=ykm g k
 |0,v,h=>absurd h (zBH _)
 | k + 1,v,h=>by
   rw[ygw]
   by_cases q:v=k
   .rw[q];omega
   .have:=yccq k v (by omega)
    omega
theorem yhb:∀k,0<=ykm g k
 |0=>zO _
 | k+1=>by
   rw[ygw];have:=yhb k;omega
theorem ybqm(hg:ybe g)(ha:a<g.ports.length)(hb:b<g.ports.length):dP g a b<=yif g:=by
 have h1:=yccq (g:=g) g.ports.length a ha;have hl:b<(ybt g a).length:=by rw[ygb hg ha];exact hb
 have h2:dP g a b<=ybs (ybt g a):=by
  refine yrf _ _ ?_;unfold dP;rw[Sh.getD_at hl];exact zV hl
 exact zBD h2 h1
theorem Tr.ht_le_diam(h:Tr g)(hv:v<g.ports.length):2*htP g v<=yif g:=h.ht_diam hv fun _ _ ha hb=>ybqm h.good ha hb
end
end
end Go.Proofs.YtiejahgklcjhkaaGreatDoor
