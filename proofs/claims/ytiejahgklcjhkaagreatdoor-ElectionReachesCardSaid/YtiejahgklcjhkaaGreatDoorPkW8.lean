/- Joined. -/
import Derived.Test.YtiejahgklcjhkaaGreatDoorPkW7
set_option linter.unusedSimpArgs false
set_option linter.unusedVariables false
set_option maxRecDepth 8000
open Nat renaming reduceEqDiff->zA,reduceAdd->zB,reduceLeDiff->zC,reduceLT->zF,zero_le->zK,pow_le_pow_right->zO,testBit_lt_two_pow->zT,lt_of_lt_of_le->zU,pow_lt_pow_right->zV,shiftRight_eq_div_pow->zW,le_refl->zZ,not_lt_zero->zAB,testBit_and->zAE,lt_of_le_of_lt->zAG,lt_succ_self->zAK,mod_eq_of_lt->zAL,testBit_eq_decide_div_mod_eq->zAM,testBit_two_pow_sub_one->zAP,lt_pow_two_of_testBit->zAT,mul_div_cancel_left->zAU,div_le_self->zAV,eq_of_testBit_eq->zAZ,reduceBEq->zBB,reduceMul->zBC,pow_succ->zBF,or_lt_two_pow->zBG,and_le_left->zBI,two_pow_pos->zBJ,mul_le_mul->zBL,lt_irrefl->zBM,testBit->zBO
open Bool renaming and_eq_true->zD
open Go.Proofs.Tryz renaming prog->zG,func132->zBN
open Int renaming natCast_zero->zH,toNat_natCast->zM,reduceToNat->zAC,natAbs_mul->zBK
open BitVec renaming ofInt->zI,ofInt_natCast->zQ,toNat_ofNat->zAF,getLsbD_ofNat->zBA
open List renaming take_succ_eq_append_getElem->zJ,getElem_mem->zL,getElem?_eq_getElem->zN,take_of_length_le->zS,getD->zX,eq_nil_of_length_eq_zero->zY,findIdx?_eq_none_iff->zAA,foldl_append->zAH,findIdx?_eq_some_iff_getElem->zAI,take_length->zAJ,length_map->zAN,length_append->zAO,append_assoc->zAQ,range->zAR,drop_eq_getElem_cons->zAS,length->zAW,findIdx?_append->zAX,mem_cons_of_mem->zAY,getElem_of_mem->zBD,mem_cons_self->zBE,elem_eq_mem->zBH
open Classical renaming byContradiction->zAD
open Go
namespace Go.Proofs.YtiejahgklcjhkaaGreatDoor
section
namespace Sh
open Go Ev
def yxt:List Nat:=[0,1,1,2,1,2,2,3,1,2,2,3,2,3,3,4,1,2,2,3,2,3,3,4,2,3,3,4,3,4,4,5,1,2,2,3,2,3,3,4,2,3,3,4,3,4,4,5,2,3,3,4,3,4,4,5,3,4,4,5,4,5,5,6,1,2,2,3,2,3,3,4,2,3,3,4,3,4,4,5,2,3,3,4,3,4,4,5,3,4,4,5,4,5,5,6,2,3,3,4,3,4,4,5,3,4,4,5,4,5,5,6,3,4,4,5,4,5,5,6,4,5,5,6,5,6,6,7,1,2,2,3,2,3,3,4,2,3,3,4,3,4,4,5,2,3,3,4,3,4,4,5,3,4,4,5,4,5,5,6,2,3,3,4,3,4,4,5,3,4,4,5,4,5,5,6,3,4,4,5,4,5,5,6,4,5,5,6,5,6,6,7,2,3,3,4,3,4,4,5,3,4,4,5,4,5,5,6,3,4,4,5,4,5,5,6,4,5,5,6,5,6,6,7,3,4,4,5,4,5,5,6,4,5,5,6,5,6,6,7,4,5,5,6,5,6,6,7,5,6,6,7,6,7,7,8]
def ycpk:LO:=[o3 (.box 87 (.tmp 0)) 3 0,o3 (.box 27 (.tmp 1)) 4 0,o3 (.mv (ci' 0)) 6 0,o3 (.mv (ci' 0)) 7 4]
def ycsn:LO:=[o3 (.build [.i .i64 0,.a (.nilFunc)] [(0,1,(ci' 1)),(1,1,(.func 198))]) 11 0,o3 (.build [.i .i64 0,.a (.nilFunc)] [(0,1,(ci' 2)),(1,1,(.func 199))]) 12 0,o3 (.build [.i .i64 0,.a (.nilFunc)] [(0,1,(ci' 3)),(1,1,(.func 200))]) 13 0,o3 (.bslice 209 2 3 [.i .i64 0,.a (.nilFunc),.i .i64 0,.a (.nilFunc),.i .i64 0,.a (.nilFunc)] [(0,2,(.tmp 11)),(2,2,(.tmp 12)),(4,2,(.tmp 13))]) 14 7,mv' 14 8 15]
def ycjm:LO:=[mv' 8 15 0,ln' 15 16 1,o3 (.mv (ci' 0)) 17 0]
def yblc:LO:=[bn' .lss 17 16 18 0]
def ybku:LO:=[ix' 2 15 17 19 0,ld' true 2 19 20 1,o3 (.alloc 209 1 [.i .i64 0,.a (.nilFunc)]) 10 0,o0 (.store 2 (.tmp 10) (.tmp 20)) 7]
def ybmn:LO:=[fa' 0 1 10 21 0,ld' false 1 21 22 1,fa' 1 1 3 23 0,ld' false 1 23 24 4,bn' .eql 22 24 25 15]
def yblo:LO:=[fa' 1 1 10 26 0,ld' false 1 26 27 1,ld' true 6 3 28 0,ld' true 2 4 29 0,mv' 2 30 0,o3 (.call (.tmp 27) [(.tmp 28),(.tmp 29),(.tmp 30)]) 31 31,xt' 31 0 32 63,xt' 31 1 33 63,mv' 32 6 255,mv' 33 7 511]
def ybkm:LO:=[o3 (.bin .add (.tmp 17) (ci' 1)) 34 0,mv' 34 17 1]
def ybkf:LO:=[o3 (.mv (ci' 0)) 6 0,o3 (.mv (.const (.int .i64 (-1)))) 7 1]
def c171:SC:=(.seq (.reg false ycpk) (.seq (.reg false ycsn) (.seq (.seq (.reg false ycjm) (.block 0 (.loop (.seq (.reg false yblc) (.seq (.cond (.tmp 18) .skip (.exit 0)) (.seq (.block 1 (.seq (.reg false ybku) (.seq (.reg false ybmn) (.cond (.tmp 25) (.seq (.reg false yblo) .ret) .skip)))) (.reg false ybkm))))))) (.seq (.reg false ybkf) .ret))))
theorem ydeq:Fn 171 c171 [.t 6,.t 7]:=fn_0 Tryz.func171 (by kernel_rfl) (by kernel_rfl)
def ycxt:LO:=[o3 (.box 87 (.tmp 0)) 3 0,o3 (.box 27 (.tmp 1)) 4 0,o3 (.mv (ci' 0)) 6 0,o3 (.mv (ci' 0)) 7 4]
def ycty:LO:=[fa' 2 1 3 8 0,ld' false 1 8 9 1,fa' 3 1 3 10 0,ld' false 1 10 11 4,fa' 4 1 3 12 0,ld' false 1 12 13 16,fa' 0 1 4 14 0,ld' false 1 14 15 64,ln' 15 16 192,bn' .mul 13 16 17 496,bn' .add 11 17 18 1020,fa' 5 1 3 19 0,ld' false 1 19 20 2048,fa' 0 1 4 21 0,ld' false 1 21 22 8192,cl' 160 [22] 23 24576,bn' .mul 20 23 24 63488,bn' .add 18 24 25 131068,mv' 9 6 57347,mv' 25 7 524287]
def c198:SC:=(.seq (.reg false ycxt) (.seq (.reg true ycty) .ret))
theorem ydch:Fn 198 c198 [.t 6,.t 7]:=fn_0 Tryz.func198 (by kernel_rfl) (by kernel_rfl)
def ycsz:LO:=[o3 (.box 87 (.tmp 0)) 3 0,o3 (.box 27 (.tmp 1)) 4 0,o3 (.mv (ci' 0)) 6 0,o3 (.mv (ci' 0)) 7 4]
def ycxl:LO:=[o3 (.mv (ci' 0)) 6 0,o3 (.mv (ci' 1)) 7 1]
def c199:SC:=(.seq (.reg false ycsz) (.seq (.reg false ycxl) .ret))
theorem ydfy:Fn 199 c199 [.t 6,.t 7]:=fn_0 Tryz.func199 (by kernel_rfl) (by kernel_rfl)
def yckl:LO:=[o3 (.box 87 (.tmp 0)) 3 0,o3 (.box 27 (.tmp 1)) 4 0,o3 (.mv (ci' 0)) 6 0,o3 (.mv (ci' 0)) 7 4]
def ycny:LO:=[fa' 1 1 4 8 0,ld' false 1 8 9 1,mv' 2 10 0,ix' 1 9 10 11 7,ld' false 1 11 12 15,ln' 12 13 31,o3 (.bin .sub (.tmp 13) (ci' 1)) 14 63,o3 (.mv (.const (.int .i64 (-1)))) 6 0,mv' 14 7 255]
def c200:SC:=(.seq (.reg false yckl) (.seq (.reg true ycny) .ret))
theorem ydht:Fn 200 c200 [.t 6,.t 7]:=fn_0 Tryz.func200 (by kernel_rfl) (by kernel_rfl)
def yclc:LO:=[o3 (.box 58 (.tmp 0)) 2 0,o3 (.box 27 (.tmp 1)) 3 0,o3 (.mv (.const (.slice none 0 0))) 4 0]
def yczb:LO:=[fa' 0 1 3 9 0,ld' false 1 9 10 1,ln' 10 11 3,o3 (.mk 73 1 24 [.a (.slice none 0 0)] (.tmp 11) (.tmp 11)) 12 7,mv' 12 5 15]
def ycpb:LO:=[mv' 5 13 0,ln' 13 14 1,o3 (.mv (ci' 0)) 15 0]
def ycnt:LO:=[bn' .lss 15 14 16 0]
def ycyp:LO:=[mv' 15 17 0,mv' 17 6 1]
def ycyf:LO:=[mv' 5 18 0,mv' 6 19 0,fa' 1 1 2 20 0,ld' false 1 20 21 4,ln' 21 22 12,o3 (.mk 75 2 16 [.i .i64 0,.i .i64 0] (.tmp 22) (.tmp 22)) 23 28,ix' 1 18 19 24 63,o0 (.store 1 (.tmp 24) (.tmp 23)) 127]
def yckc:LO:=[fa' 1 1 2 25 0,ld' false 1 25 26 1,ln' 26 27 3,o3 (.mv (ci' 0)) 28 0]
def ycso:LO:=[bn' .lss 28 27 29 0]
def ycvj:LO:=[mv' 28 30 0,ix' 6 26 28 31 0,ld' true 6 31 32 2,o3 (.alloc 87 1 [.a (.string (ByteArray.mk #[])),.i .i64 0,.i .i64 0,.i .i64 0,.i .i64 0,.i .i64 0]) 8 0,mv' 30 7 15,o0 (.store 6 (.tmp 8) (.tmp 32)) 31]
def ycse:LO:=[mv' 5 34 0,mv' 6 35 0,ix' 1 34 35 36 3,ld' false 1 36 37 7,mv' 7 38 0,mv' 5 39 0,mv' 6 40 0,ix' 1 39 40 41 96,ld' false 1 41 42 224,mv' 7 43 0,ld' true 6 8 44 0,ld' true 2 3 45 0,mv' 6 46 0,cl' 171 [44,45,46] 47 7168,mv' 47 33 15360,xt' 33 0 48 31744,xt' 33 1 49 31744,ix' 2 37 38 50 31,o3 (.idxA 2 1 (.tmp 50) (ci' 0)) 51 196095,o0 (.store 1 (.tmp 51) (.tmp 48)) 458239,ix' 2 42 43 52 992,o3 (.idxA 2 1 (.tmp 52) (ci' 1)) 53 2097151,o0 (.store 1 (.tmp 53) (.tmp 49)) 4194303]
def ybuv:LO:=[o3 (.bin .add (.tmp 28) (ci' 1)) 54 0,mv' 54 28 1]
def ycaa:LO:=[o3 (.bin .add (.tmp 15) (ci' 1)) 55 0,mv' 55 15 1]
def ybsq:LO:=[mv' 5 56 0,mv' 56 4 1]
def c144:SC:=(.seq (.reg false yclc) (.seq (.reg false yczb) (.seq (.seq (.reg false ycpb) (.block 0 (.loop (.seq (.reg false ycnt) (.seq (.cond (.tmp 16) .skip (.exit 0)) (.seq (.block 1 (.seq (.reg false ycyp) (.seq (.reg false ycyf) (.seq (.reg false yckc) (.block 2 (.loop (.seq (.reg false ycso) (.seq (.cond (.tmp 29) .skip (.exit 2)) (.seq (.block 3 (.seq (.reg false ycvj) (.reg true ycse))) (.reg false ybuv)))))))))) (.reg false ycaa))))))) (.seq (.reg false ybsq) .ret))))
theorem ydfb:Fn 144 c144 [.t 4]:=fn_0 Tryz.func144 (by kernel_rfl) (by kernel_rfl)
def ycke:LO:=[o3 (.box 75 (.tmp 1)) 4 0,o3 (.mv (ci' 0)) 6 0]
def yclf:LO:=[mv' 2 8 0,o3 (.idxA 2 1 (.tmp 4) (ci' 0)) 9 0,ld' false 1 9 10 2,bn' .geq 8 10 11 7,mv' 11 12 15,⟨.mv (.tmp 2),some 13,some (12,true),31⟩,⟨.idxA 2 1 (.tmp 4) (ci' 1),some 14,some (12,true),31⟩,⟨.load false 1 (.tmp 14),some 15,some (12,true),95⟩,⟨.bin .leq (.tmp 13) (.tmp 15),some 16,some (12,true),255⟩,o3 (.pick (.tmp 12) (.tmp 16) (.const (.bool false))) 17 511,mv' 17 7 1023]
def ycxv:LO:=[mv' 2 18 0,mv' 18 6 1]
def ycjh:LO:=[mv' 0 20 0,o3 (.bin .eql (.tmp 20) (ci' 3)) 21 1,mv' 21 19 3]
def ycns:LO:=[o3 (.mv (.const (.int .i64 (-1)))) 6 0]
def ycsb:LO:=[mv' 2 23 0,o3 (.idxA 2 1 (.tmp 4) (ci' 0)) 24 0,ld' false 1 24 25 2,bn' .lss 23 25 26 7,mv' 26 22 15]
def ydaa:LO:=[o3 (.idxA 2 1 (.tmp 4) (ci' 0)) 27 0,ld' false 1 27 28 1,mv' 28 6 3]
def ycni:LO:=[o3 (.idxA 2 1 (.tmp 4) (ci' 1)) 29 0,ld' false 1 29 30 1,mv' 30 6 3]
def c194:SC:=(.seq (.reg false ycke) (.seq (.block 0 (.seq (.reg false yclf) (.cond (.tmp 7) (.seq (.reg false ycxv) .ret) (.seq (.reg false ycjh) (.cond (.tmp 19) (.seq (.reg false ycns) .ret) (.seq (.reg false ycsb) (.cond (.tmp 22) (.seq (.reg false ydaa) .ret) .skip))))))) (.seq (.reg false ycni) .ret)))
theorem ydgv:Fn 194 c194 [.t 6]:=fn_0 Tryz.func194 (by kernel_rfl) (by kernel_rfl)
def ycvv:LO:=[o3 (.box 58 (.tmp 0)) 2 0,o3 (.box 27 (.tmp 1)) 3 0,o3 (.mv (ci' 0)) 4 0]
def ydal:LO:=[ld' true 3 2 9 0,cl' 191 [9] 10 1,o3 (.un .not (.tmp 10)) 11 3]
def yctz:LO:=[o3 (.mv (ci' 8)) 4 0]
def ycqy:LO:=[ld' true 2 3 12 0,cl' 96 [12] 13 1,o3 (.un .not (.tmp 13)) 14 3]
def ycqt:LO:=[o3 (.mv (ci' 1)) 4 0]
def ycvn:LO:=[fa' 1 1 2 15 0,ld' false 1 15 16 1,ln' 16 17 3,o3 (.mv (ci' 0)) 18 0]
def yczh:LO:=[bn' .lss 18 17 19 0]
def ycxi:LO:=[ix' 6 16 18 20 0,ld' true 6 20 21 1,o3 (.alloc 87 1 [.a (.string (ByteArray.mk #[])),.i .i64 0,.i .i64 0,.i .i64 0,.i .i64 0,.i .i64 0]) 6 0,o0 (.store 6 (.tmp 6) (.tmp 21)) 7]
def ycvg:LO:=[fa' 1 1 6 22 0,ld' false 1 22 23 1,o3 (.bin .neq (.tmp 23) (ci' 1)) 24 3]
def ycos:LO:=[ld' true 6 6 26 0,ld' true 2 3 27 0,o3 (.call (.func 171) [(.tmp 26),(.tmp 27),(ci' 0)]) 28 3,mv' 28 25 7,xt' 25 0 29 15,xt' 25 1 30 15,mv' 29 7 31,mv' 30 8 127]
def ybup:LO:=[mv' 8 31 0,mv' 7 32 0,bn' .lss 31 32 33 3,mv' 33 34 7,⟨.mv (.tmp 8),some 35,some (34,false),15⟩,⟨.mv (.tmp 7),some 36,some (34,false),15⟩,⟨.bin .sub (.tmp 35) (.tmp 36),some 37,some (34,false),63⟩,⟨.bin .add (.tmp 37) (ci' 1),some 38,some (34,false),127⟩,⟨.bin .gtr (.tmp 38) (ci' 4096),some 39,some (34,false),255⟩,o3 (.pick (.tmp 34) (.const (.bool true)) (.tmp 39)) 40 511]
def yccc:LO:=[o3 (.mv (ci' 9)) 4 0]
def ybve:LO:=[o3 (.bin .add (.tmp 18) (ci' 1)) 41 0,mv' 41 18 1]
def ybtf:LO:=[o3 (.mv (ci' 0)) 4 0]
def c155:SC:=(.seq (.reg false ycvv) (.seq (.seq (.reg false ydal) (.cond (.tmp 11) (.seq (.reg false yctz) .ret) .skip)) (.seq (.seq (.reg false ycqy) (.cond (.tmp 14) (.seq (.reg false ycqt) .ret) .skip)) (.seq (.seq (.reg false ycvn) (.block 0 (.loop (.seq (.reg false yczh) (.seq (.cond (.tmp 19) .skip (.exit 0)) (.seq (.block 1 (.seq (.reg false ycxi) (.seq (.seq (.reg false ycvg) (.cond (.tmp 24) (.exit 1) .skip)) (.seq (.reg false ycos) (.seq (.reg false ybup) (.cond (.tmp 40) (.seq (.reg false yccc) .ret) .skip)))))) (.reg false ybve))))))) (.seq (.reg false ybtf) .ret)))))
theorem yddb:Fn 155 c155 [.t 4]:=fn_0 Tryz.func155 (by kernel_rfl) (by kernel_rfl)
def ydrj:LO:=[o3 (.box 58 (.tmp 0)) 3 0,o3 (.box 27 (.tmp 1)) 4 0,o3 (.mv (.const (.bool false))) 6 0]
def ydoo:LO:=[ld' true 3 3 7 0,ld' true 2 4 8 0,mv' 2 9 0,cl' 112 [7,8,9] 10 7,o3 (.bin .eql (.tmp 10) (ci' 0)) 11 15,mv' 11 6 31]
def c92:SC:=(.seq (.reg false ydrj) (.seq (.reg false ydoo) .ret))
theorem ydsk:Fn 92 c92 [.t 6]:=fn_0 Tryz.func92 (by kernel_rfl) (by kernel_rfl)
def ycpz:LO:=[o3 (.box 58 (.tmp 0)) 3 0,o3 (.box 27 (.tmp 1)) 4 0,o3 (.mv (ci' 0)) 6 0]
def ycwb:LO:=[ld' true 3 3 8 0,ld' true 2 4 9 0,cl' 155 [8,9] 10 3,mv' 10 7 7]
def ycrc:LO:=[mv' 7 11 0,o3 (.bin .neq (.tmp 11) (ci' 0)) 12 1]
def yckn:LO:=[mv' 7 13 0,mv' 13 6 1]
def ycyc:LO:=[ld' true 3 3 14 0,ld' true 2 4 15 0,cl' 144 [14,15] 16 3,mv' 2 17 0,cl' 156 [16,17] 18 15,o3 (.un .not (.tmp 18)) 19 31]
def ycmb:LO:=[o3 (.mv (ci' 10)) 6 0]
def yczp:LO:=[o3 (.mv (ci' 0)) 6 0]
def c112:SC:=(.seq (.reg false ycpz) (.seq (.seq (.reg false ycwb) (.seq (.reg false ycrc) (.cond (.tmp 12) (.seq (.reg false yckn) .ret) .skip))) (.seq (.seq (.reg false ycyc) (.cond (.tmp 19) (.seq (.reg false ycmb) .ret) .skip)) (.seq (.reg false yczp) .ret))))
theorem ydgx:Fn 112 c112 [.t 6]:=fn_0 Tryz.func112 (by kernel_rfl) (by kernel_rfl)
def ycwf:LO:=[o3 (.mv (.const (.bool false))) 4 0]
def ycyx:LO:=[mv' 1 7 0,ln' 7 8 1,mv' 0 9 0,ln' 9 10 4,bn' .neq 8 10 11 15]
def ycnd:LO:=[o3 (.mv (.const (.bool false))) 4 0]
def yctw:LO:=[mv' 0 12 0,ln' 12 13 1,o3 (.mv (ci' 0)) 14 0]
def ycpq:LO:=[bn' .lss 14 13 15 0]
def ycqx:LO:=[mv' 14 16 0,ix' 1 12 14 17 0,ld' false 1 17 18 2,mv' 16 5 7,mv' 18 6 15]
def yctt:LO:=[mv' 6 19 0,mv' 1 20 0,mv' 5 21 0,ix' 1 20 21 22 6,ld' false 1 22 23 14,cl' 192 [19,23] 24 31,o3 (.un .not (.tmp 24)) 25 63]
def yczy:LO:=[o3 (.mv (.const (.bool false))) 4 0]
def ycre:LO:=[o3 (.bin .add (.tmp 14) (ci' 1)) 26 0,mv' 26 14 1]
def ycrb:LO:=[o3 (.mv (.const (.bool true))) 4 0]
def c156:SC:=(.seq (.reg false ycwf) (.seq (.seq (.reg false ycyx) (.cond (.tmp 11) (.seq (.reg false ycnd) .ret) .skip)) (.seq (.seq (.reg false yctw) (.block 0 (.loop (.seq (.reg false ycpq) (.seq (.cond (.tmp 15) .skip (.exit 0)) (.seq (.block 1 (.seq (.reg false ycqx) (.seq (.reg false yctt) (.cond (.tmp 25) (.seq (.reg false yczy) .ret) .skip)))) (.reg false ycre))))))) (.seq (.reg false ycrb) .ret))))
theorem ydhu:Fn 156 c156 [.t 4]:=fn_0 Tryz.func156 (by kernel_rfl) (by kernel_rfl)
def ycmd:LO:=[o3 (.mv (.const (.bool false))) 4 0]
def ycjy:LO:=[mv' 1 7 0,ln' 7 8 1,mv' 0 9 0,ln' 9 10 4,bn' .neq 8 10 11 15]
def ycyj:LO:=[o3 (.mv (.const (.bool false))) 4 0]
def ycsf:LO:=[mv' 1 12 0,ln' 12 13 1,o3 (.mv (ci' 0)) 14 0]
def ycwm:LO:=[bn' .lss 14 13 15 0]
def ycth:LO:=[mv' 14 16 0,ix' 1 12 14 17 0,ld' false 1 17 18 2,mv' 16 5 7,mv' 18 6 15]
def ycxd:LO:=[mv' 6 19 0,mv' 0 20 0,mv' 5 21 0,ix' 2 20 21 22 6,o3 (.idxA 2 1 (.tmp 22) (ci' 0)) 23 14,ld' false 1 23 24 30,bn' .lss 19 24 25 63,mv' 25 26 127,⟨.mv (.tmp 6),some 27,some (26,false),255⟩,⟨.mv (.tmp 0),some 28,some (26,false),255⟩,⟨.mv (.tmp 5),some 29,some (26,false),255⟩,⟨.idx 2 (.tmp 28) (.tmp 29),some 30,some (26,false),1791⟩,⟨.idxA 2 1 (.tmp 30) (ci' 1),some 31,some (26,false),3839⟩,⟨.load false 1 (.tmp 31),some 32,some (26,false),7935⟩,⟨.bin .gtr (.tmp 27) (.tmp 32),some 33,some (26,false),16383⟩,o3 (.pick (.tmp 26) (.const (.bool true)) (.tmp 33)) 34 32767]
def ycrr:LO:=[o3 (.mv (.const (.bool false))) 4 0]
def ycvd:LO:=[o3 (.bin .add (.tmp 14) (ci' 1)) 35 0,mv' 35 14 1]
def ycta:LO:=[o3 (.mv (.const (.bool true))) 4 0]
def c192:SC:=(.seq (.reg false ycmd) (.seq (.seq (.reg false ycjy) (.cond (.tmp 11) (.seq (.reg false ycyj) .ret) .skip)) (.seq (.seq (.reg false ycsf) (.block 0 (.loop (.seq (.reg false ycwm) (.seq (.cond (.tmp 15) .skip (.exit 0)) (.seq (.block 1 (.seq (.reg false ycth) (.seq (.reg false ycxd) (.cond (.tmp 34) (.seq (.reg false ycrr) .ret) .skip)))) (.reg false ycvd))))))) (.seq (.reg false ycta) .ret))))
theorem ydik:Fn 192 c192 [.t 4]:=fn_0 Tryz.func192 (by kernel_rfl) (by kernel_rfl)
def ybtw:LO:=[o3 (.mv (.const (.slice none 0 0))) 2 0]
def ybra:LO:=[mv' 0 6 0,ln' 6 7 1,o3 (.mk 22 1 24 [.a (.slice none 0 0)] (.tmp 7) (.tmp 7)) 8 3,mv' 8 3 7]
def ybqy:LO:=[mv' 0 9 0,ln' 9 10 1,o3 (.mv (ci' 0)) 11 0]
def ybcf:LO:=[bn' .lss 11 10 12 0]
def ybfe:LO:=[mv' 11 13 0,ix' 1 9 11 14 0,ld' false 1 14 15 2,mv' 13 4 7,mv' 15 5 15]
def ybby:LO:=[mv' 3 16 0,mv' 4 17 0,mv' 5 18 0,o3 (.app 3 1 8 (.const (.slice none 0 0)) (.tmp 18)) 19 4,ix' 1 16 17 20 15,o0 (.store 1 (.tmp 20) (.tmp 19)) 31]
def ybfb:LO:=[o3 (.bin .add (.tmp 11) (ci' 1)) 21 0,mv' 21 11 1]
def ybff:LO:=[mv' 3 22 0,mv' 22 2 1]
def c132:SC:=(.seq (.reg false ybtw) (.seq (.reg false ybra) (.seq (.seq (.reg false ybqy) (.block 0 (.loop (.seq (.reg false ybcf) (.seq (.cond (.tmp 12) .skip (.exit 0)) (.seq (.block 1 (.seq (.reg false ybfe) (.reg false ybby))) (.reg false ybfb))))))) (.seq (.reg false ybff) .ret))))
theorem ydfx:Fn 132 c132 [.t 2]:=fn_0 zBN (by kernel_rfl) (by kernel_rfl)
theorem ychi:FnM 132 c132 [.t 2]:=fn_m zBN (by kernel_rfl) (by kernel_rfl)
def ydph:LO:=[o3 (.box 58 (.tmp 0)) 2 0,o3 (.box 27 (.tmp 1)) 3 0,o3 (.mv (.const (.pointer none))) 4 0]
def ydrb:LO:=[ld' true 3 2 5 0,ld' true 3 2 6 0,ld' true 2 3 7 0,cl' 143 [6,7] 8 6,ld' true 3 2 9 0,ld' true 2 3 10 0,cl' 144 [9,10] 11 62,o3 (.build [.a (.string (ByteArray.mk #[])),.a (.slice none 0 0),.a (.slice none 0 0),.a (.pointer none),.a (.slice none 0 0)] [(0,3,(.tmp 5)),(3,1,(.tmp 8)),(4,1,(.tmp 11))]) 12 127,o3 (.box 140 (.tmp 12)) 13 255,mv' 13 4 511]
def c93:SC:=(.seq (.reg false ydph) (.seq (.reg true ydrb) .ret))
theorem ydkg:Fn 93 c93 [.t 4]:=fn_0 Tryz.func93 (by kernel_rfl) (by kernel_rfl)
def ycri:LO:=[o3 (.mv (ci' 0)) 6 0]
def ycml:LO:=[mv' 0 8 0,o3 (.nilck (.tmp 8)) 9 1,fa' 0 3 9 10 3,fa' 2 1 10 11 7,ld' false 1 11 12 15,ln' 12 13 31,o3 (.mv (ci' 0)) 14 0]
def ycqg:LO:=[bn' .lss 14 13 15 0]
def ycvl:LO:=[mv' 14 16 0,mv' 16 7 1]
def ycua:LO:=[mv' 0 17 0,o3 (.nilck (.tmp 17)) 18 1,fa' 3 1 18 19 3,ld' false 1 19 20 7,mv' 1 21 0,mv' 2 22 0,mv' 7 23 0,cl' 172 [20,21,22,23] 24 127]
def ycpv:LO:=[mv' 7 25 0,mv' 25 6 1]
def ycox:LO:=[o3 (.bin .add (.tmp 14) (ci' 1)) 26 0,mv' 26 14 1]
def yctb:LO:=[o3 (.mv (.const (.int .i64 (-1)))) 6 0]
def c147:SC:=(.seq (.reg false ycri) (.seq (.seq (.reg false ycml) (.block 0 (.loop (.seq (.reg false ycqg) (.seq (.cond (.tmp 15) .skip (.exit 0)) (.seq (.block 1 (.seq (.reg false ycvl) (.seq (.reg false ycua) (.cond (.tmp 24) (.seq (.reg false ycpv) .ret) .skip)))) (.reg false ycox))))))) (.seq (.reg false yctb) .ret)))
theorem ydfs:Fn 147 c147 [.t 6]:=fn_0 Tryz.func147 (by kernel_rfl) (by kernel_rfl)
def ydrz:LO:=[o3 (.box 99 (.tmp 0)) 2 0,o3 (.box 34 (.tmp 1)) 3 0,o3 (.mv (.const (.int .u32 0))) 4 0]
def ydoj:LO:=[ld' false 1 2 5 0,o3 (.nilck (.tmp 5)) 6 1,fa' 4 1 6 7 3,ld' false 1 7 8 7,ln' 8 9 15,o3 (.mkfn 146 [] [(.tmp 2),(.tmp 3)]) 10 0,cl' 145 [9,10] 11 63,mv' 11 4 127]
def c94:SC:=(.seq (.reg false ydrz) (.seq (.reg false ydoj) .ret))
theorem ydlv:Fn 94 c94 [.t 4]:=fn_0 Tryz.func94 (by kernel_rfl) (by kernel_rfl)
def ycvh:LO:=[o3 (.mv (.const (.bool false))) 4 0]
def yctf:LO:=[ld' false 1 1 5 0,ld' false 1 2 6 0,mv' 0 7 0,cl' 147 [5,6,7] 8 7,o3 (.bin .geq (.tmp 8) (ci' 0)) 9 15,mv' 9 4 31]
def c146:SC:=(.seq (.reg false ycvh) (.seq (.reg false yctf) .ret))
theorem ydgo:Fn 146 c146 [.t 4]:=fn_0 Tryz.func146 (by kernel_rfl) (by kernel_rfl)
def ycyh:LO:=[o3 (.mv (.const (.slice none 0 0))) 8 0]
def ycuw:LO:=[mv' 1 13 0,mv' 2 14 0,ix' 1 13 14 15 3,ld' false 1 15 16 7,o3 (.app 3 1 8 (.const (.slice none 0 0)) (.tmp 16)) 17 15,mv' 17 9 31]
def ycwn:LO:=[mv' 0 18 0,o3 (.nilck (.tmp 18)) 19 1,fa' 0 3 19 20 3,fa' 2 1 20 21 7,ld' false 1 21 22 15,mv' 3 23 0,ix' 3 22 23 24 63,fa' 2 1 24 25 127,ld' false 1 25 26 255,ln' 26 27 511,o3 (.mv (ci' 0)) 28 0]
def ycvz:LO:=[bn' .lss 28 27 29 0]
def yczo:LO:=[ix' 2 26 28 30 0,ld' true 2 30 31 1,o3 (.alloc 200 1 [.i .i64 0,.a (.slice none 0 0)]) 11 0,o0 (.store 2 (.tmp 11) (.tmp 31)) 7]
def ycwv:LO:=[mv' 0 32 0,o3 (.nilck (.tmp 32)) 33 1,fa' 3 1 33 34 3,ld' false 1 34 35 7,mv' 1 36 0,mv' 2 37 0,fa' 1 1 11 38 0,ld' false 1 38 39 64,cl' 193 [35,36,37,39] 40 255,mv' 40 12 511]
def ycqm:LO:=[mv' 9 41 0,fa' 0 1 11 42 0,ld' false 1 42 43 2,mv' 0 44 0,o3 (.nilck (.tmp 44)) 45 8,fa' 0 3 45 46 24,fa' 1 1 46 47 56,ld' false 1 47 48 120,fa' 0 1 11 49 0,ld' false 1 49 50 256,ix' 6 48 50 51 1016,fa' 1 1 51 52 2040,ld' false 1 52 53 4088,mv' 0 54 0,o3 (.nilck (.tmp 54)) 55 8192,fa' 4 1 55 56 24576,ld' false 1 56 57 57344,mv' 2 58 0,ix' 1 57 58 59 253952,ld' false 1 59 60 516096,fa' 0 1 11 61 0,ld' false 1 61 62 1048576,ix' 2 60 62 63 4186112,ld' true 2 63 64 8380416,mv' 12 65 0,cl' 194 [53,64,65] 66 33554424,ix' 1 41 43 67 67108863,o0 (.store 1 (.tmp 67) (.tmp 66)) 134217727]
def yckq:LO:=[o3 (.bin .add (.tmp 28) (ci' 1)) 68 0,mv' 68 28 1]
def yckg:LO:=[mv' 9 69 0,mv' 69 8 1]
def c157:SC:=(.seq (.reg false ycyh) (.seq (.reg false ycuw) (.seq (.seq (.reg false ycwn) (.block 0 (.loop (.seq (.reg false ycvz) (.seq (.cond (.tmp 29) .skip (.exit 0)) (.seq (.block 1 (.seq (.reg false yczo) (.seq (.reg true ycwv) (.reg true ycqm)))) (.reg false yckq))))))) (.seq (.reg false yckg) .ret))))
theorem ydif:Fn 157 c157 [.t 8]:=fn_0 Tryz.func157 (by kernel_rfl) (by kernel_rfl)
def yclu:LO:=[o3 (.mv (.const (.slice none 0 0))) 6 0]
def ycwy:LO:=[mv' 1 9 0,cl' 132 [9] 10 1,mv' 10 7 3]
def ycxa:LO:=[mv' 1 11 0,ln' 11 12 1,o3 (.mv (ci' 0)) 13 0]
def ycme:LO:=[bn' .lss 13 12 14 0]
def yczx:LO:=[mv' 13 15 0,mv' 15 8 1]
def ycka:LO:=[mv' 2 16 0,mv' 8 17 0,bn' .shr 16 17 18 3,o3 (.bin .and (.tmp 18) (.const (.int .u32 1))) 19 7,o3 (.bin .eql (.tmp 19) (.const (.int .u32 1))) 20 15]
def ycyv:LO:=[mv' 7 21 0,mv' 8 22 0,mv' 0 23 0,mv' 1 24 0,mv' 8 25 0,mv' 0 26 0,mv' 1 27 0,mv' 8 28 0,cl' 147 [26,27,28] 29 224,cl' 157 [23,24,25,29] 30 508,ix' 1 21 22 31 1023,o0 (.store 1 (.tmp 31) (.tmp 30)) 2047]
def ycwr:LO:=[o3 (.bin .add (.tmp 13) (ci' 1)) 32 0,mv' 32 13 1]
def ycvu:LO:=[mv' 7 33 0,mv' 33 6 1]
def c113:SC:=(.seq (.reg false yclu) (.seq (.reg false ycwy) (.seq (.seq (.reg false ycxa) (.block 0 (.loop (.seq (.reg false ycme) (.seq (.cond (.tmp 14) .skip (.exit 0)) (.seq (.block 1 (.seq (.reg false yczx) (.seq (.reg false ycka) (.cond (.tmp 20) (.reg false ycyv) .skip)))) (.reg false ycwr))))))) (.seq (.reg false ycvu) .ret))))
theorem ycef:FnU 113 c113 [.t 6]:=fn_u Tryz.func113 (by kernel_rfl) (by kernel_rfl)
def ycye:LO:=[o3 (.mv (.const (.int .u32 0))) 4 0]
def ycyn:LO:=[o3 (.mv (.const (.int .u32 0))) 5 0]
def ycpy:LO:=[mv' 0 7 0,o3 (.mv (ci' 0)) 8 0]
def yckj:LO:=[bn' .lss 8 7 9 0]
def ycqi:LO:=[mv' 8 10 0,mv' 10 6 1]
def ycqk:LO:=[mv' 1 11 0,mv' 6 12 0,o3 (.call (.tmp 11) [(.tmp 12)]) 13 3]
def ycqs:LO:=[mv' 5 14 0,mv' 6 15 0,o3 (.bin .shl (.const (.int .u32 1)) (.tmp 15)) 16 2,bn' .or 14 16 17 7,mv' 17 5 15]
def ycoe:LO:=[o3 (.bin .add (.tmp 8) (ci' 1)) 18 0,mv' 18 8 1]
def yclj:LO:=[mv' 5 19 0,mv' 19 4 1]
def c145:SC:=(.seq (.reg false ycye) (.seq (.reg false ycyn) (.seq (.seq (.reg false ycpy) (.block 0 (.loop (.seq (.reg false yckj) (.seq (.cond (.tmp 9) .skip (.exit 0)) (.seq (.block 1 (.seq (.reg false ycqi) (.seq (.reg false ycqk) (.cond (.tmp 13) (.reg false ycqs) .skip)))) (.reg false ycoe))))))) (.seq (.reg false yclj) .ret))))
theorem ydau:Fn 145 c145 [.t 4]:=fn_0 Tryz.func145 (by kernel_rfl) (by kernel_rfl)
def ydnh:LO:=[o3 (.box 58 (.tmp 0)) 3 0,o3 (.box 27 (.tmp 1)) 4 0,o3 (.mv (.const (.int .u32 0))) 6 0]
def ydmo:LO:=[ld' true 3 3 7 0,ld' true 2 4 8 0,mv' 2 9 0,cl' 92 [7,8,9] 10 7,o3 (.un .not (.tmp 10)) 11 15]
def ydjk:LO:=[o3 (.mv (.const (.int .u32 0))) 6 0]
def ydkk:LO:=[ld' true 3 3 12 0,ld' true 2 4 13 0,cl' 93 [12,13] 14 3,mv' 2 15 0,cl' 94 [14,15] 16 15,mv' 16 6 31]
def c36:SC:=(.seq (.reg false ydnh) (.seq (.seq (.reg false ydmo) (.cond (.tmp 11) (.seq (.reg false ydjk) .ret) .skip)) (.seq (.reg false ydkk) .ret)))
theorem ydjl:Fn 36 c36 [.t 6]:=fn_0 Tryz.func36 (by kernel_rfl) (by kernel_rfl)
def ycpu:LO:=[o3 (.mv (.const (.bool false))) 2 0]
def ycxn:LO:=[mv' 0 5 0,ln' 5 6 1,o3 (.mv (ci' 0)) 7 0]
def ycph:LO:=[bn' .lss 7 6 8 0]
def ycmm:LO:=[ix' 1 5 7 9 0,ld' false 1 9 10 1,mv' 10 4 3]
def ycyo:LO:=[mv' 4 11 0,o3 (.bin .andNot (.tmp 11) (.const (.int .u32 16777215))) 12 1,o3 (.bin .neq (.tmp 12) (.const (.int .u32 0))) 13 3]
def ycne:LO:=[o3 (.mv (.const (.bool false))) 2 0]
def ycvs:LO:=[o3 (.bin .add (.tmp 7) (ci' 1)) 14 0,mv' 14 7 1]
def ycwi:LO:=[o3 (.mv (.const (.bool true))) 2 0]
def c223:SC:=(.seq (.reg false ycpu) (.seq (.seq (.reg false ycxn) (.block 0 (.loop (.seq (.reg false ycph) (.seq (.cond (.tmp 8) .skip (.exit 0)) (.seq (.block 1 (.seq (.reg false ycmm) (.seq (.reg false ycyo) (.cond (.tmp 13) (.seq (.reg false ycne) .ret) .skip)))) (.reg false ycvs))))))) (.seq (.reg false ycwi) .ret)))
theorem ydcz:Fn 223 c223 [.t 2]:=fn_0 Tryz.func223 (by kernel_rfl) (by kernel_rfl)
def ycms:LO:=[o3 (.box 48 (.tmp 0)) 1 0,o3 (.mv (.const (.bool false))) 2 0]
def ycpm:LO:=[fa' 0 1 1 3 0,ld' false 1 3 4 1,o3 (.bin .lss (.tmp 4) (ci' 0)) 5 3,mv' 5 6 7,⟨.faddr 0 1 (.tmp 1),some 7,some (6,false),15⟩,⟨.load false 1 (.tmp 7),some 8,some (6,false),31⟩,⟨.bin .gtr (.tmp 8) (ci' 4096),some 9,some (6,false),63⟩,o3 (.pick (.tmp 6) (.const (.bool true)) (.tmp 9)) 10 127,mv' 10 11 255,⟨.faddr 2 1 (.tmp 1),some 12,some (11,false),511⟩,⟨.load false 1 (.tmp 12),some 13,some (11,false),1023⟩,⟨.bin .lss (.tmp 13) (ci' 0),some 14,some (11,false),2047⟩,o3 (.pick (.tmp 11) (.const (.bool true)) (.tmp 14)) 15 4095,mv' 15 16 8191,⟨.faddr 2 1 (.tmp 1),some 17,some (16,false),16383⟩,⟨.load false 1 (.tmp 17),some 18,some (16,false),32767⟩,⟨.faddr 3 1 (.tmp 1),some 19,some (16,false),16383⟩,⟨.load false 1 (.tmp 19),some 20,some (16,false),81919⟩,⟨.bin .gtr (.tmp 18) (.tmp 20),some 21,some (16,false),262143⟩,o3 (.pick (.tmp 16) (.const (.bool true)) (.tmp 21)) 22 524287,mv' 22 23 1048575,⟨.faddr 3 1 (.tmp 1),some 24,some (23,false),2097151⟩,⟨.load false 1 (.tmp 24),some 25,some (23,false),4194303⟩,⟨.faddr 0 1 (.tmp 1),some 26,some (23,false),2097151⟩,⟨.load false 1 (.tmp 26),some 27,some (23,false),10485759⟩,⟨.bin .gtr (.tmp 25) (.tmp 27),some 28,some (23,false),33554431⟩,o3 (.pick (.tmp 23) (.const (.bool true)) (.tmp 28)) 29 67108863]
def ydpk:LO:=[o3 (.mv (.const (.bool false))) 2 0]
def ycpi:LO:=[fa' 3 1 1 30 0,ld' false 1 30 31 1,fa' 2 1 1 32 0,ld' false 1 32 33 4,o3 (.bin .add (.tmp 33) (ci' 1)) 34 12,bn' .gtr 31 34 35 31]
def ydjt:LO:=[o3 (.mv (.const (.bool false))) 2 0]
def ycmc:LO:=[fa' 0 1 1 36 0,ld' false 1 36 37 1,fa' 1 1 1 38 0,ld' false 1 38 39 4,bn' .leq 37 39 40 15,mv' 40 41 31,⟨.faddr 1 1 (.tmp 1),some 42,some (41,true),63⟩,⟨.load false 1 (.tmp 42),some 43,some (41,true),127⟩,⟨.faddr 0 1 (.tmp 1),some 44,some (41,true),63⟩,⟨.load false 1 (.tmp 44),some 45,some (41,true),319⟩,⟨.bin .mul (ci' 24) (.tmp 45),some 46,some (41,true),831⟩,⟨.bin .leq (.tmp 43) (.tmp 46),some 47,some (41,true),2047⟩,o3 (.pick (.tmp 41) (.tmp 47) (.const (.bool false))) 48 4095,mv' 48 49 8191,⟨.faddr 4 1 (.tmp 1),some 50,some (49,true),16383⟩,⟨.load false 1 (.tmp 50),some 51,some (49,true),32767⟩,⟨.bslice 40 1 1 [.i .u32 0] [(0,1,(.tmp 51))],some 52,some (49,true),65535⟩,⟨.call (.func 223) [(.tmp 52)],some 53,some (49,true),131071⟩,o3 (.pick (.tmp 49) (.tmp 53) (.const (.bool false))) 54 262143,mv' 54 2 524287]
def c222:SC:=(.seq (.reg false ycms) (.seq (.seq (.reg false ycpm) (.cond (.tmp 29) (.seq (.reg false ydpk) .ret) .skip)) (.seq (.seq (.reg false ycpi) (.cond (.tmp 35) (.seq (.reg false ydjt) .ret) .skip)) (.seq (.reg false ycmc) .ret))))
theorem ydao:Fn 222 c222 [.t 2]:=fn_0 Tryz.func222 (by kernel_rfl) (by kernel_rfl)
def yczm:LO:=[o3 (.alloc 48 1 [.i .i64 0,.i .i64 0,.i .i64 0,.i .i64 0,.i .u32 0]) 2 0]
def ycvy:LO:=[mv' 0 3 0,o3 (.bin .and (.tmp 3) (.const (.int .u32 16777215))) 4 1,o3 (.build [.i .i64 0,.i .i64 0,.i .i64 0,.i .i64 0,.i .u32 0] [(4,1,(.tmp 4))]) 5 3,o0 (.store 5 (.tmp 2) (.tmp 5)) 7]
def c195:SC:=(.seq (.reg false yczm) (.seq (.reg false ycvy) .ret))
theorem ydih:Fn 195 c195 [.c 2 true 5]:=fn_0 Tryz.func195 (by kernel_rfl) (by kernel_rfl)
def ycjp:LO:=[o3 (.box 48 (.tmp 0)) 3 0,o3 (.alloc 48 1 [.i .i64 0,.i .i64 0,.i .i64 0,.i .i64 0,.i .u32 0]) 6 0,o3 (.mv (ci' 0)) 7 0]
def ycqf:LO:=[ld' true 5 3 8 0,cl' 222 [8] 9 1,o3 (.un .not (.tmp 9)) 10 3]
def ydjc:LO:=[o3 (.build [.i .i64 0,.i .i64 0,.i .i64 0,.i .i64 0,.i .u32 0] []) 11 0,o0 (.store 5 (.tmp 6) (.tmp 11)) 1,o3 (.mv (ci' 7)) 7 3]
def ycov:LO:=[mv' 1 12 0,o3 (.bin .eql (.tmp 12) (.const (.int .u32 0))) 13 1,mv' 13 14 3,⟨.mv (.tmp 1),some 15,some (14,false),7⟩,⟨.mv (.tmp 2),some 16,some (14,false),7⟩,⟨.bslice 40 1 2 [.i .u32 0,.i .u32 0] [(0,1,(.tmp 15)),(1,1,(.tmp 16))],some 17,some (14,false),31⟩,⟨.call (.func 223) [(.tmp 17)],some 18,some (14,false),63⟩,⟨.un .not (.tmp 18),some 19,some (14,false),127⟩,o3 (.pick (.tmp 14) (.const (.bool true)) (.tmp 19)) 20 255]
def ydlq:LO:=[o3 (.build [.i .i64 0,.i .i64 0,.i .i64 0,.i .i64 0,.i .u32 0] []) 21 0,o0 (.store 5 (.tmp 6) (.tmp 21)) 1,o3 (.mv (ci' 11)) 7 3]
def ycuq:LO:=[fa' 0 1 3 22 0,ld' false 1 22 23 1,o3 (.bin .eql (.tmp 23) (ci' 4096)) 24 3]
def ydor:LO:=[o3 (.build [.i .i64 0,.i .i64 0,.i .i64 0,.i .i64 0,.i .u32 0] []) 25 0,o0 (.store 5 (.tmp 6) (.tmp 25)) 1,o3 (.mv (ci' 3)) 7 3]
def ycjn:LO:=[fa' 0 1 3 26 0,ld' false 1 26 27 1,o3 (.bin .add (.tmp 27) (ci' 1)) 28 3,fa' 0 1 3 29 7,o0 (.store 1 (.tmp 29) (.tmp 28)) 15]
def ycpe:LO:=[fa' 1 1 3 30 0,ld' false 1 30 31 1,mv' 1 32 0,cl' 104 [32] 33 4,bn' .add 31 33 34 15,fa' 1 1 3 35 31,o0 (.store 1 (.tmp 35) (.tmp 34)) 63]
def ycxj:LO:=[fa' 2 1 3 36 0,ld' false 1 36 37 1,o3 (.bin .add (.tmp 37) (ci' 1)) 38 3,fa' 3 1 3 39 7,o0 (.store 1 (.tmp 39) (.tmp 38)) 15]
def ybrn:LO:=[fa' 4 1 3 40 0,ld' false 1 40 41 1,mv' 1 42 0,bn' .andNot 41 42 43 7,mv' 2 44 0,bn' .and 43 44 45 31,fa' 4 1 3 46 63,o0 (.store 1 (.tmp 46) (.tmp 45)) 127]
def ybzg:LO:=[fa' 4 1 3 47 0,ld' false 1 47 48 1,o3 (.bin .eql (.tmp 48) (.const (.int .u32 0))) 49 3]
def ybsv:LO:=[fa' 3 1 3 50 0,ld' false 1 50 51 1,fa' 2 1 3 52 3,o0 (.store 1 (.tmp 52) (.tmp 51)) 7]
def ybvl:LO:=[mv' 2 53 0,fa' 4 1 3 54 1,o0 (.store 1 (.tmp 54) (.tmp 53)) 3]
def ybgd:LO:=[ld' true 5 3 55 0,o0 (.store 5 (.tmp 6) (.tmp 55)) 1,o3 (.mv (ci' 0)) 7 3]
def c197:SC:=(.seq (.reg false ycjp) (.seq (.seq (.reg false ycqf) (.cond (.tmp 10) (.seq (.reg false ydjc) .ret) .skip)) (.seq (.seq (.reg false ycov) (.cond (.tmp 20) (.seq (.reg false ydlq) .ret) .skip)) (.seq (.seq (.reg false ycuq) (.cond (.tmp 24) (.seq (.reg false ydor) .ret) .skip)) (.seq (.reg false ycjn) (.seq (.reg true ycpe) (.seq (.reg false ycxj) (.seq (.reg false ybrn) (.seq (.seq (.reg false ybzg) (.cond (.tmp 49) (.seq (.reg false ybsv) (.reg false ybvl)) .skip)) (.seq (.reg false ybgd) .ret))))))))))
theorem ydcp:Fn 197 c197 [.c 6 true 5,.t 7]:=fn_0 Tryz.func197 (by kernel_rfl) (by kernel_rfl)
def yctv:LO:=[o3 (.mv (ci' 0)) 2 0]
def ycvp:LO:=[mv' 0 3 0,o3 (.bin .shr (.tmp 3) (.const (.int .u64 24))) 4 1,o3 (.stri yxt (.tmp 4)) 5 3,mv' 0 6 0,o3 (.bin .shr (.tmp 6) (.const (.int .u64 16))) 7 8,o3 (.bin .and (.tmp 7) (.const (.int .u32 255))) 8 24,o3 (.stri yxt (.tmp 8)) 9 56,bn' .add 5 9 10 127,mv' 0 11 0,o3 (.bin .shr (.tmp 11) (.const (.int .u64 8))) 12 256,o3 (.bin .and (.tmp 12) (.const (.int .u32 255))) 13 768,o3 (.stri yxt (.tmp 13)) 14 1792,bn' .add 10 14 15 4095,mv' 0 16 0,o3 (.bin .and (.tmp 16) (.const (.int .u32 255))) 17 8192,o3 (.stri yxt (.tmp 17)) 18 24576,bn' .add 15 18 19 65535,o3 (.conv .i64 (.tmp 19)) 20 131071,mv' 20 2 262143]
def c104:SC:=(.seq (.reg false yctv) (.seq (.reg true ycvp) .ret))
theorem ydel:Fn 104 c104 [.t 2]:=fn_0 Tryz.func104 (by kernel_rfl) (by kernel_rfl)
def ycyt:LO:=[o3 (.box 27 (.tmp 0)) 1 0,o3 (.mv (.const (.slice none 0 0))) 2 0]
def ycvm:LO:=[fa' 1 1 1 8 0,ld' false 1 8 9 1,ln' 9 10 3,o3 (.mk 40 1 4 [.i .u32 0] (.tmp 10) (.tmp 10)) 11 7,mv' 11 3 15]
def ydan:LO:=[fa' 1 1 1 12 0,ld' false 1 12 13 1,ln' 13 14 3,o3 (.mv (ci' 0)) 15 0]
def ycww:LO:=[bn' .lss 15 14 16 0]
def ycug:LO:=[mv' 15 17 0,ix' 1 13 15 18 0,ld' false 1 18 19 2,mv' 17 4 7,mv' 19 5 15]
def ycxz:LO:=[mv' 5 20 0,ln' 20 21 1,o3 (.mv (ci' 0)) 22 0]
def yclb:LO:=[bn' .lss 22 21 23 0]
def ycsh:LO:=[ix' 2 20 22 24 0,ld' true 2 24 25 1,o3 (.alloc 95 1 [.i .i64 0,.i .i64 0]) 7 0,o0 (.store 2 (.tmp 7) (.tmp 25)) 7]
def ycjs:LO:=[mv' 3 26 0,mv' 4 27 0,ix' 1 26 27 28 3,ld' false 1 28 29 7,fa' 0 1 7 30 0,ld' false 1 30 31 16,o3 (.bin .shl (.const (.int .u32 1)) (.tmp 31)) 32 48,bn' .or 29 32 33 127,ix' 1 26 27 34 255,o0 (.store 1 (.tmp 34) (.tmp 33)) 511]
def ycwx:LO:=[o3 (.bin .add (.tmp 22) (ci' 1)) 35 0,mv' 35 22 1]
def ybrk:LO:=[o3 (.bin .add (.tmp 15) (ci' 1)) 36 0,mv' 36 15 1]
def ybyz:LO:=[mv' 3 37 0,mv' 37 2 1]
def c110:SC:=(.seq (.reg false ycyt) (.seq (.reg false ycvm) (.seq (.seq (.reg false ydan) (.block 0 (.loop (.seq (.reg false ycww) (.seq (.cond (.tmp 16) .skip (.exit 0)) (.seq (.block 1 (.seq (.reg false ycug) (.seq (.reg false ycxz) (.block 2 (.loop (.seq (.reg false yclb) (.seq (.cond (.tmp 23) .skip (.exit 2)) (.seq (.block 3 (.seq (.reg false ycsh) (.reg true ycjs))) (.reg false ycwx))))))))) (.reg false ybrk))))))) (.seq (.reg false ybyz) .ret))))
theorem ydci:Fn 110 c110 [.t 2]:=fn_0 Tryz.func110 (by kernel_rfl) (by kernel_rfl)
def ycjo:LO:=[o3 (.mv (.const (.bool false))) 8 0]
def yclm:LO:=[mv' 3 9 0,o3 (.bin .eql (.tmp 9) (.const (.int .u32 0))) 10 1,mv' 10 11 3,⟨.mv (.tmp 3),some 12,some (11,false),7⟩,⟨.mv (.tmp 2),some 13,some (11,false),7⟩,⟨.bin .andNot (.tmp 12) (.tmp 13),some 14,some (11,false),31⟩,⟨.bin .neq (.tmp 14) (.const (.int .u32 0)),some 15,some (11,false),63⟩,o3 (.pick (.tmp 11) (.const (.bool true)) (.tmp 15)) 16 127]
def ydka:LO:=[o3 (.mv (.const (.bool false))) 8 0]
def ycwh:LO:=[mv' 1 17 0]
def ycnw:LO:=[o3 (.bin .eql (.tmp 17) (ci' 1)) 19 0,mv' 19 18 1]
def ydod:LO:=[mv' 3 20 0,mv' 3 21 0,o3 (.bin .sub (.tmp 21) (.const (.int .u32 1))) 22 2,bn' .and 20 22 23 7,o3 (.bin .eql (.tmp 23) (.const (.int .u32 0))) 24 15,mv' 24 8 31]
def ycsp:LO:=[o3 (.bin .eql (.tmp 17) (ci' 2)) 26 0,mv' 26 25 1]
def ycxy:LO:=[mv' 0 27 0,mv' 3 28 0,cl' 221 [27,28] 29 3,mv' 29 8 7]
def ydne:LO:=[o3 (.bin .eql (.tmp 17) (ci' 4)) 31 0,mv' 31 30 1]
def ydnt:LO:=[mv' 3 32 0,mv' 2 33 0,bn' .eql 32 33 34 3,mv' 34 8 7]
def ydbs:LO:=[o3 (.mv (.const (.bool true))) 8 0]
def c196:SC:=(.seq (.reg false ycjo) (.seq (.seq (.reg false yclm) (.cond (.tmp 16) (.seq (.reg false ydka) .ret) .skip)) (.seq (.seq (.reg false ycwh) (.block 0 (.seq (.reg false ycnw) (.cond (.tmp 18) (.seq (.reg false ydod) .ret) (.seq (.reg false ycsp) (.cond (.tmp 25) (.seq (.reg false ycxy) .ret) (.seq (.reg false ydne) (.cond (.tmp 30) (.seq (.reg false ydnt) .ret) .skip)))))))) (.seq (.reg false ydbs) .ret))))
theorem ydce:Fn 196 c196 [.t 8]:=fn_0 Tryz.func196 (by kernel_rfl) (by kernel_rfl)
def ycng:LO:=[o3 (.box 110 (.tmp 0)) 4 0,o3 (.mv (.const (.int .u32 0))) 8 0]
def yckp:LO:=[mv' 3 11 0,mv' 2 12 0,bn' .and 11 12 13 3,mv' 13 3 7]
def ycpx:LO:=[mv' 3 14 0,o3 (.bin .eql (.tmp 14) (.const (.int .u32 0))) 15 1]
def ycyb:LO:=[mv' 2 16 0,mv' 2 17 0,o3 (.un .neg (.tmp 17)) 18 2,bn' .and 16 18 19 7,mv' 19 3 15]
def yckf:LO:=[mv' 1 20 0]
def ycqp:LO:=[o3 (.bin .eql (.tmp 20) (ci' 1)) 22 0,mv' 22 21 1]
def ydqz:LO:=[mv' 3 23 0,mv' 3 24 0,o3 (.un .neg (.tmp 24)) 25 2,bn' .and 23 25 26 7,mv' 26 8 15]
def ycnk:LO:=[o3 (.bin .eql (.tmp 20) (ci' 2)) 28 0,mv' 28 27 1]
def yczk:LO:=[o3 (.alloc 40 1 [.i .u32 0]) 9 0,o0 (.store 1 (.tmp 9) (.const (.int .u32 0))) 1]
def ycxw:LO:=[mv' 3 29 0,cl' 154 [29] 30 1]
def ybhf:LO:=[mv' 31 10 0]
def ybhi:LO:=[ld' false 1 4 32 0,mv' 10 33 0,ix' 1 32 33 34 3,ld' false 1 34 35 7,ld' false 1 9 36 0,bn' .and 35 36 37 31,o3 (.bin .eql (.tmp 37) (.const (.int .u32 0))) 38 63]
def ybhe:LO:=[ld' false 1 9 39 0,mv' 10 40 0,o3 (.bin .shl (.const (.int .u32 1)) (.tmp 40)) 41 2,bn' .or 39 41 42 7,o0 (.store 1 (.tmp 9) (.tmp 42)) 15]
def ycbb:LO:=[ld' false 1 9 43 0,mv' 43 8 1]
def ydcx:LO:=[o3 (.bin .eql (.tmp 20) (ci' 4)) 45 0,mv' 45 44 1]
def ydgw:LO:=[mv' 2 46 0,mv' 46 8 1]
def ydex:LO:=[mv' 3 47 0,mv' 47 8 1]
def c111:SC:=(.seq (.reg false ycng) (.seq (.reg false yckp) (.seq (.seq (.reg false ycpx) (.cond (.tmp 15) (.reg false ycyb) .skip)) (.seq (.seq (.reg false yckf) (.block 0 (.seq (.reg false ycqp) (.cond (.tmp 21) (.seq (.reg false ydqz) .ret) (.seq (.reg false ycnk) (.cond (.tmp 27) (.seq (.reg false yczk) (.seq (.seq (.reg false ycxw) (.block 1 (.range (.tmp 30) [31] (.reg false ybhf) (.block 2 (.seq (.reg true ybhi) (.cond (.tmp 38) (.reg true ybhe) .skip)))))) (.seq (.reg false ycbb) .ret))) (.seq (.reg false ydcx) (.cond (.tmp 44) (.seq (.reg false ydgw) .ret) .skip)))))))) (.seq (.reg false ydex) .ret)))))
theorem ycfb:FnU 111 c111 [.t 8]:=fn_u Tryz.func111 (by kernel_rfl) (by kernel_rfl)
def ycsg:LO:=[o3 (.mv (.const (.bool false))) 2 0]
def ycra:LO:=[mv' 0 3 0,o3 (.bin .geq (.tmp 3) (ci' 1)) 4 1,mv' 4 5 3,⟨.mv (.tmp 0),some 6,some (5,true),7⟩,⟨.bin .leq (.tmp 6) (ci' 4),some 7,some (5,true),15⟩,o3 (.pick (.tmp 5) (.tmp 7) (.const (.bool false))) 8 31,mv' 8 2 63]
def c108:SC:=(.seq (.reg false ycsg) (.seq (.reg false ycra) .ret))
theorem ydgf:Fn 108 c108 [.t 2]:=fn_0 Tryz.func108 (by kernel_rfl) (by kernel_rfl)
def ycxg:LO:=[o3 (.box 58 (.tmp 0)) 5 0,o3 (.box 27 (.tmp 1)) 6 0,o3 (.mv (ci' 0)) 10 0]
def ycwt:LO:=[ld' true 3 5 12 0,ld' true 2 6 13 0,mv' 3 14 0,cl' 112 [12,13,14] 15 7,mv' 15 11 15]
def ycul:LO:=[mv' 11 16 0,o3 (.bin .neq (.tmp 16) (ci' 0)) 17 1]
def ydmw:LO:=[mv' 11 18 0,mv' 18 10 1]
def ycrw:LO:=[mv' 2 19 0,cl' 108 [19] 20 1,o3 (.un .not (.tmp 20)) 21 3]
def ydpn:LO:=[o3 (.mv (ci' 12)) 10 0]
def ycue:LO:=[mv' 4 22 0,o3 (.bin .gtr (.tmp 22) (ci' 4096)) 23 1]
def ydjy:LO:=[o3 (.mv (ci' 3)) 10 0]
def ycqj:LO:=[o3 (.mv (ci' 0)) 10 0]
def c129:SC:=(.seq (.reg false ycxg) (.seq (.seq (.reg false ycwt) (.seq (.reg false ycul) (.cond (.tmp 17) (.seq (.reg false ydmw) .ret) .skip))) (.seq (.seq (.reg false ycrw) (.cond (.tmp 21) (.seq (.reg false ydpn) .ret) .skip)) (.seq (.seq (.reg false ycue) (.cond (.tmp 23) (.seq (.reg false ydjy) .ret) .skip)) (.seq (.reg false ycqj) .ret)))))
theorem ydap:Fn 129 c129 [.t 10]:=fn_0 Tryz.func129 (by kernel_rfl) (by kernel_rfl)
def ycpc:LO:=[o3 (.box 58 (.tmp 0)) 4 0,o3 (.box 27 (.tmp 1)) 5 0,o3 (.alloc 126 1 [.a (.pointer none),.a (.slice none 0 0),.i .i64 0,.i .u32 0,.a (.nilFunc)]) 8 0]
def yclo:LO:=[ld' true 3 4 9 0,ld' true 2 5 10 0,cl' 93 [9,10] 11 3,ld' true 2 5 12 0,cl' 110 [12] 13 15,mv' 2 14 0,ld' true 2 5 15 0,cl' 109 [15] 16 95,mv' 3 17 0,o3 (.build [.a (.pointer none),.a (.slice none 0 0),.i .i64 0,.i .u32 0,.a (.nilFunc)] [(0,1,(.tmp 11)),(1,1,(.tmp 13)),(2,1,(.tmp 14)),(3,1,(.tmp 16)),(4,1,(.tmp 17))]) 18 511,o0 (.store 5 (.tmp 8) (.tmp 18)) 1023]
def c130:SC:=(.seq (.reg false ycpc) (.seq (.reg true yclo) .ret))
theorem ycff:FnM 130 c130 [.c 8 true 5]:=fn_m Tryz.func130 (by kernel_rfl) (by kernel_rfl)
def ycoc:LO:=[o3 (.box 126 (.tmp 0)) 4 0,o3 (.alloc 130 1 [.a (.slice none 0 0),.a (.slice none 0 0),.a (.slice none 0 0),.i .i64 0,.i .i64 0,.i .i64 0,.i .i64 0,.i .u32 0]) 8 0,o3 (.mv (ci' 0)) 9 0]
def yczv:LO:=[o3 (.alloc 130 1 [.a (.slice none 0 0),.a (.slice none 0 0),.a (.slice none 0 0),.i .i64 0,.i .i64 0,.i .i64 0,.i .i64 0,.i .u32 0]) 10 0]
def yckv:LO:=[mv' 1 16 0,cl' 132 [16] 17 1,mv' 17 1 3]
def yczq:LO:=[fa' 0 1 4 18 0,ld' false 1 18 19 1,mv' 1 20 0,cl' 94 [19,20] 21 7,fa' 3 1 4 22 0,ld' false 1 22 23 16,bn' .and 21 23 24 63,mv' 24 11 127]
def ycju:LO:=[mv' 11 25 0,cl' 195 [25] 26 1,o3 (.alloc 48 1 [.i .i64 0,.i .i64 0,.i .i64 0,.i .i64 0,.i .u32 0]) 12 0,o0 (.store 5 (.tmp 12) (.tmp 26)) 7]
def yckz:LO:=[fa' 4 1 4 27 0,ld' false 1 27 28 1,mv' 1 29 0,mv' 11 30 0,ld' true 5 12 31 0,o3 (.call (.tmp 28) [(.tmp 29),(.tmp 30),(.tmp 31)]) 32 31]
def ycmo:LO:=[fa' 1 1 10 33 0,ld' false 1 33 34 1,mv' 11 35 0,o3 (.bslice 40 1 1 [.i .u32 0] [(0,1,(.tmp 35))]) 36 4,o3 (.app 40 1 4 (.tmp 34) (.tmp 36)) 37 15,fa' 1 1 10 38 31,o0 (.store 1 (.tmp 38) (.tmp 37)) 63]
def ycpw:LO:=[mv' 2 39 0,o3 (.mv (ci' 0)) 40 0]
def yctg:LO:=[bn' .lss 40 39 41 0]
def ycks:LO:=[mv' 40 42 0,mv' 42 13 1]
def ybza:LO:=[mv' 3 44 0,mv' 13 45 0,mv' 11 46 0,o3 (.call (.tmp 44) [(.tmp 45),(.tmp 46)]) 47 7,mv' 47 43 15,xt' 43 0 48 31,xt' 43 1 49 31,mv' 48 14 63,mv' 49 15 255]
def ybfx:LO:=[mv' 15 50 0,o3 (.un .not (.tmp 50)) 51 1]
def ybwh:LO:=[fa' 1 1 4 52 0,ld' false 1 52 53 1,fa' 2 1 4 54 0,ld' false 1 54 55 4,mv' 11 56 0,mv' 14 57 0,cl' 196 [53,55,56,57] 58 63,o3 (.un .not (.tmp 58)) 59 127]
def yddp:LO:=[o3 (.build [.a (.slice none 0 0),.a (.slice none 0 0),.a (.slice none 0 0),.i .i64 0,.i .i64 0,.i .i64 0,.i .i64 0,.i .u32 0] []) 60 0,o0 (.store 8 (.tmp 8) (.tmp 60)) 1,o3 (.mv (ci' 11)) 9 3]
def ybvb:LO:=[fa' 0 1 4 61 0,ld' false 1 61 62 1,mv' 1 63 0,mv' 14 64 0,cl' 113 [62,63,64] 65 15,mv' 65 1 31]
def ycbl:LO:=[fa' 0 1 4 66 0,ld' false 1 66 67 1,mv' 1 68 0,cl' 94 [67,68] 69 7,fa' 3 1 4 70 0,ld' false 1 70 71 16,bn' .and 69 71 72 63,mv' 72 11 127]
def ybqz:LO:=[ld' true 5 12 74 0,mv' 14 75 0,mv' 11 76 0,cl' 197 [74,75,76] 77 7,mv' 77 73 15,xt' 73 0 78 31,xt' 73 1 79 31,o0 (.store 5 (.tmp 12) (.tmp 78)) 63]
def ybzf:LO:=[fa' 4 1 4 80 0,ld' false 1 80 81 1,mv' 1 82 0,mv' 11 83 0,ld' true 5 12 84 0,o3 (.call (.tmp 81) [(.tmp 82),(.tmp 83),(.tmp 84)]) 85 31]
def ybvk:LO:=[fa' 0 1 10 86 0,ld' false 1 86 87 1,mv' 14 88 0,o3 (.bslice 40 1 1 [.i .u32 0] [(0,1,(.tmp 88))]) 89 4,o3 (.app 40 1 4 (.tmp 87) (.tmp 89)) 90 15,fa' 0 1 10 91 31,o0 (.store 1 (.tmp 91) (.tmp 90)) 63]
def ybws:LO:=[fa' 1 1 10 92 0,ld' false 1 92 93 1,mv' 11 94 0,o3 (.bslice 40 1 1 [.i .u32 0] [(0,1,(.tmp 94))]) 95 4,o3 (.app 40 1 4 (.tmp 93) (.tmp 95)) 96 15,fa' 1 1 10 97 31,o0 (.store 1 (.tmp 97) (.tmp 96)) 63]
def ybtn:LO:=[o3 (.bin .add (.tmp 40) (ci' 1)) 98 0,mv' 98 40 1]
def ybht:LO:=[mv' 1 99 0,ld' true 5 12 100 0,fa' 2 1 10 101 1,o0 (.store 1 (.tmp 101) (.tmp 99)) 5,fa' 3 5 10 102 15,o0 (.store 5 (.tmp 102) (.tmp 100)) 31]
def ybjj:LO:=[ld' true 8 10 103 0,o0 (.store 8 (.tmp 8) (.tmp 103)) 1,o3 (.mv (ci' 0)) 9 3]
def c168:SC:=(.seq (.reg false ycoc) (.seq (.reg false yczv) (.seq (.reg false yckv) (.seq (.reg true yczq) (.seq (.reg false ycju) (.seq (.reg false yckz) (.seq (.reg false ycmo) (.seq (.seq (.reg false ycpw) (.block 0 (.loop (.seq (.reg false yctg) (.seq (.cond (.tmp 41) .skip (.exit 0)) (.seq (.block 1 (.seq (.reg false ycks) (.seq (.reg false ybza) (.seq (.seq (.reg false ybfx) (.cond (.tmp 51) (.exit 0) .skip)) (.seq (.seq (.reg false ybwh) (.cond (.tmp 59) (.seq (.reg false yddp) .ret) .skip)) (.seq (.reg false ybvb) (.seq (.reg true ycbl) (.seq (.reg false ybqz) (.seq (.reg false ybzf) (.seq (.reg false ybvk) (.reg false ybws))))))))))) (.reg false ybtn))))))) (.seq (.reg true ybht) (.seq (.reg false ybjj) .ret))))))))))
theorem ycfi:FnM 168 c168 [.c 8 true 8,.t 9]:=fn_m Tryz.func168 (by kernel_rfl) (by kernel_rfl)
def ycxp:LO:=[o3 (.box 126 (.tmp 0)) 3 0,o3 (.box 38 (.tmp 2)) 5 0,o3 (.alloc 130 1 [.a (.slice none 0 0),.a (.slice none 0 0),.a (.slice none 0 0),.i .i64 0,.i .i64 0,.i .i64 0,.i .i64 0,.i .u32 0]) 6 0,o3 (.mv (ci' 0)) 7 0]
def ycwj:LO:=[ld' true 5 3 8 0,mv' 1 9 0,ld' false 1 5 10 0,ln' 10 11 4,o3 (.mkfn 169 [] [(.tmp 3),(.tmp 5)]) 12 0,cl' 168 [8,9,11,12] 13 31,xt' 13 0 14 63,xt' 13 1 15 63,o0 (.store 8 (.tmp 6) (.tmp 14)) 255,mv' 15 7 511]
def c133:SC:=(.seq (.reg false ycxp) (.seq (.reg false ycwj) .ret))
theorem yciu:FnM 133 c133 [.c 6 true 8,.t 7]:=fn_m Tryz.func133 (by kernel_rfl) (by kernel_rfl)
def ybzl:LO:=[o3 (.mv (.const (.int .u32 0))) 6 0,o3 (.mv (.const (.bool false))) 7 1]
def ybxo:LO:=[fa' 1 1 2 8 0,ld' false 1 8 9 1,fa' 2 1 2 10 0,ld' false 1 10 11 4,mv' 1 12 0,ld' false 1 3 13 0,mv' 0 14 0,ix' 1 13 14 15 96,ld' false 1 15 16 224,cl' 111 [9,11,12,16] 17 511,mv' 1 18 0,o3 (.bin .neq (.tmp 18) (.const (.int .u32 0))) 19 1024,mv' 17 6 1023,mv' 19 7 8191]
def c169:SC:=(.seq (.reg false ybzl) (.seq (.reg true ybxo) .ret))
theorem ybwm:Fn 169 c169 [.t 6,.t 7]:=fn_0 Tryz.func169 (by kernel_rfl) (by kernel_rfl)
def ydpb:LO:=[o3 (.box 58 (.tmp 0)) 5 0,o3 (.box 27 (.tmp 1)) 6 0,o3 (.mv (.const (.slice none 0 0))) 10 0,o3 (.mv (.const (.slice none 0 0))) 11 4,o3 (.mv (ci' 0)) 12 12]
def ydrs:LO:=[ld' true 3 5 19 0,ld' true 2 6 20 0,mv' 2 21 0,mv' 3 22 0,mv' 4 23 0,ln' 23 24 16,cl' 129 [19,20,21,22,24] 25 63,mv' 25 13 127]
def ydos:LO:=[mv' 13 26 0,o3 (.bin .neq (.tmp 26) (ci' 0)) 27 1]
def yduv:LO:=[mv' 13 28 0,o3 (.mv (.const (.slice none 0 0))) 10 0,o3 (.mv (.const (.slice none 0 0))) 11 2,mv' 28 12 7]
def ydse:LO:=[o3 (.alloc 29 1 [.a (.slice none 0 0)]) 14 0]
def ydrn:LO:=[o3 (.alloc 30 1 [.a (.slice none 0 0)]) 15 0]
def ydld:LO:=[ld' true 3 5 29 0,ld' true 2 6 30 0,mv' 2 31 0,o3 (.mkfn 131 [] [(.tmp 14),(.tmp 15)]) 32 0,cl' 130 [29,30,31,32] 33 15,o3 (.alloc 126 1 [.a (.pointer none),.a (.slice none 0 0),.i .i64 0,.i .u32 0,.a (.nilFunc)]) 16 0,o0 (.store 5 (.tmp 16) (.tmp 33)) 63]
def ydqv:LO:=[ld' true 5 16 35 0,mv' 3 36 0,mv' 4 37 0,cl' 133 [35,36,37] 38 7,mv' 38 34 15,xt' 34 0 39 31,xt' 34 1 40 31,o3 (.alloc 130 1 [.a (.slice none 0 0),.a (.slice none 0 0),.a (.slice none 0 0),.i .i64 0,.i .i64 0,.i .i64 0,.i .i64 0,.i .u32 0]) 17 0,o0 (.store 8 (.tmp 17) (.tmp 39)) 191,mv' 40 18 511]
def ydrk:LO:=[mv' 18 41 0,o3 (.bin .neq (.tmp 41) (ci' 0)) 42 1]
def ydsn:LO:=[mv' 18 43 0,o3 (.mv (.const (.slice none 0 0))) 10 0,o3 (.mv (.const (.slice none 0 0))) 11 2,mv' 43 12 7]
def ycvo:LO:=[ld' false 1 14 44 0,ld' false 1 15 45 0,mv' 44 10 1,mv' 45 11 7,o3 (.mv (ci' 0)) 12 15]
def c78:SC:=(.seq (.reg false ydpb) (.seq (.seq (.reg false ydrs) (.seq (.reg false ydos) (.cond (.tmp 27) (.seq (.reg false yduv) .ret) .skip))) (.seq (.reg false ydse) (.seq (.reg false ydrn) (.seq (.reg false ydld) (.seq (.seq (.reg false ydqv) (.seq (.reg false ydrk) (.cond (.tmp 42) (.seq (.reg false ydsn) .ret) .skip))) (.seq (.reg true ycvo) .ret)))))))
theorem yddx:FnU 78 c78 [.t 10,.t 11,.t 12]:=fn_u Tryz.func78 (by kernel_rfl) (by kernel_rfl)
def ybvx:LO:=[o3 (.box 48 (.tmp 2)) 7 0]
def ybrd:LO:=[ld' false 1 3 8 0,mv' 0 9 0,cl' 132 [9] 10 2,o3 (.bslice 34 1 1 [.a (.slice none 0 0)] [(0,1,(.tmp 10))]) 11 6,o3 (.app 34 1 24 (.tmp 8) (.tmp 11)) 12 15,o0 (.store 1 (.tmp 3) (.tmp 12)) 31]
def yccm:LO:=[ld' false 1 4 13 0,ld' true 5 7 14 0,o3 (.bslice 48 5 1 [.i .i64 0,.i .i64 0,.i .i64 0,.i .i64 0,.i .u32 0] [(0,5,(.tmp 14))]) 15 2,o3 (.app 48 5 40 (.tmp 13) (.tmp 15)) 16 7,o0 (.store 1 (.tmp 4) (.tmp 16)) 15]
def c131:SC:=(.seq (.reg false ybvx) (.seq (.reg true ybrd) (.reg false yccm)))
theorem ybly:FnM 131 c131 []:=fn_m Tryz.func131 (by kernel_rfl) (by kernel_rfl)
end Sh
end
section
namespace Sh
open Go Ev
theorem mulB{a b:Int}(ha:InB a)(hb:InB b):-1152921504606846976<=a*b/\a*b<=1152921504606846976:=by
 unfold InB at *
 have h:(a*b).natAbs<=1073741824*1073741824:=by
  rw[zBK];exact zBL (by omega) (by omega)
 omega
theorem yei(b:Bool):Returns zG 256 [.b b] (.i .i64 (ybu b)):=by
 refine Returns.of (ydhs _ _ ?_);simp only[c256,ycrt,ycqd,ydam,ycsl,ybb,ybu,go_sem,↓reduceIte,reduceCtorEq];cases b<;>simp
theorem yee(a:Int):Returns zG 258 [.i .i64 a] (.i .i64 (satP a)):=by
 refine Returns.of (ydem _ _ ?_);simp only[c258,ycyq,ycps,ybb,satP,go_sem,zA,zB,↓reduceIte,reduceCtorEq]
theorem ydlh{a b:Int}(ha:InB a):-1073741824<=a.tdiv b/\a.tdiv b<=1073741824:=by
 have h1:(a.tdiv b).natAbs=a.natAbs/b.natAbs:=Int.natAbs_tdiv a b;have h2:a.natAbs/b.natAbs<=a.natAbs:=zAV _ _;rw[<-h1]at h2;unfold InB at ha;omega
theorem ycik{a b:Int}(ha:InB a):-1073741825<=yvw a b/\yvw a b<=1073741824:=by
 have:=ydlh (b:=b) ha;unfold yvw;split
 .omega
 .split<;>omega
theorem ybth{a b:Int}(ha:InB a)(hb:InB b):-1152921505680588800<=b*yvw a b/\b*yvw a b<=1152921505680588800:=by
 have h1:=ycik (b:=b) ha
 have h:(b*yvw a b).natAbs<=1073741824*1073741825:=by
  unfold InB at *;rw[zBK];exact zBL (by omega) (by omega)
 omega
theorem ybry(op a:Int)(ha:InB a):Returns zG 237 [.i .i64 op,.i .i64 a] (.i .i64 (unP op a)):=by
 refine Returns.of (ydbn _ _ ?_);simp only[c237,ycrx,yctr,ycuz,ycwk,ybb,unP,IntKind.signed,go_sem,zA,zB,↓reduceIte,reduceCtorEq];unfold InB at ha;refine⟨fun h=>⟨ikw (by omega) (by omega),by rw[if_pos h];omega⟩,fun h=>(yei _).use ?_⟩
 simp only[ybg,ybb,go_sem,zA,zB,↓reduceIte,reduceCtorEq];rw[if_neg h]
theorem yqw(a b:Int)(ha:InB a):Returns zG 259 [.i .i64 a,.i .i64 b] (.i .i64 (yvw a b)):=by
 refine Returns.of (yddt _ _ ?_);simp only[c259,ydag,ydae,ycoj,ycmp,ycwu,yckr,ycpj,ybb,yvw,go_sem,zA,zB,↓reduceIte,reduceCtorEq];have:=ydlh (b:=b) ha;refine⟨fun h=>by rw[if_pos h],fun h=>⟨⟨h,ikw (by omega) (by omega)⟩,h,fun h1=>⟨fun h2=>⟨ikw (by omega) (by omega),?_⟩,fun h2=>?_⟩,fun h1=>?_⟩⟩
 .rw[if_neg h,if_pos ⟨h1,h2⟩]
 .rw[if_neg h,if_neg (fun q=>q.2 h2)]
 .rw[if_neg h,if_neg (fun q=>q.1 h1)]
theorem ybcy(op a b:Int):Returns zG 260 [.i .i64 op,.i .i64 a,.i .i64 b] (.b (cmpP op a b)):=by
 refine Returns.of (yddj _ _ ?_);simp only[c260,ycjw,ycpt,ycoy,ycym,ycjk,yczs,ycjr,ycqh,ycnl,ycmx,yccl,ybys,ycck,yig,cmpP,go_sem,zA,zB,↓reduceIte,reduceCtorEq];refine⟨fun h=>by rw[if_pos h],fun h35=>⟨fun h=>by rw[if_neg h35,if_pos h],fun h36=>⟨fun h=>by rw[if_neg h35,if_neg h36,if_pos h],fun h37=>⟨fun h=>by rw[if_neg h35,if_neg h36,if_neg h37,if_pos h],fun h38=>⟨fun h=>by rw[if_neg h35,if_neg h36,if_neg h37,if_neg h38,if_pos h],fun h39=>by rw[if_neg h35,if_neg h36,if_neg h37,if_neg h38,if_neg h39]⟩⟩⟩⟩⟩
theorem ybpz(op a b:Int)(ha:InB a)(hb:InB b):Returns zG 239 [.i .i64 op,.i .i64 a,.i .i64 b] (.i .i64 (binP op a b)):=by
 refine Returns.of (ydhq _ _ ?_);simp only[c239,ycws,ycly,ycys,yczc,ycky,yctd,ycts,ycmn,ycnr,ycwe,ybrz,ycbk,ybxx,ycbj,ybxy,ycbo,ybre,ybwi,ybto,ybb,go_sem,zA,zB,↓reduceIte,reduceCtorEq];have hm:=mulB ha hb;have hq:=ybth ha hb;have hA:=ha;have hB:=hb;unfold InB at hA hB;refine⟨fun h=>⟨ikw (by omega) (by omega),(yee _).use ?_⟩,fun h30=>⟨fun h=>(yqw a b ha).use ?_,fun h31=>⟨fun h=>⟨fun h0=>?_,fun h0=>(yqw a b ha).use ?_⟩,fun h32=>⟨fun h=>⟨ikw (by omega) (by omega),(yee _).use ?_⟩,fun h33=>⟨fun h=>⟨ikw (by omega) (by omega),(yee _).use ?_⟩,fun h34=>?_⟩⟩⟩⟩⟩
 .simp only[ybg,ybb,go_sem,zA,zB,↓reduceIte,reduceCtorEq];simp[binP,h]
 .simp only[ybg,go_sem,zA,zB,↓reduceIte,reduceCtorEq];refine(yee _).use ?_;simp only[ybb,go_sem];simp[binP,h]
 .simp[binP,h,h0]
 .simp only[ybg,go_sem,zA,zB,↓reduceIte,reduceCtorEq];refine⟨ikw (by omega) (by omega),ikw (by omega) (by omega),(yee _).use ?_⟩
  simp only[ybb,go_sem];simp[binP,h,h0]
 .simp only[ybg,ybb,go_sem,zA,zB,↓reduceIte,reduceCtorEq];simp[binP,h]
 .simp only[ybg,ybb,go_sem,zA,zB,↓reduceIte,reduceCtorEq];simp[binP,h]
 .refine⟨fun h=>?_,fun h41=>⟨fun h=>?_,fun h42=>?_⟩⟩
  .refine⟨fun h1=>(yei _).use ?_,fun h1=>(yei _).use ?_⟩
   .simp only[ybg,ybb,go_sem,zA,zB,↓reduceIte,reduceCtorEq];simp[binP,h];rw[show(a != 0)=true by simpa using h1];simp
   .simp only[ybg,ybb,go_sem,zA,zB,↓reduceIte,reduceCtorEq];simp[binP,h,h1]
  .refine⟨fun h1=>(yei _).use ?_,fun h1=>(yei _).use ?_⟩
   .simp only[ybg,ybb,go_sem,zA,zB,↓reduceIte,reduceCtorEq];simp[binP,h,h1]
   .simp only[ybg,ybb,go_sem,zA,zB,↓reduceIte,reduceCtorEq];simp[binP,h];rw[show(a != 0)=true by simpa using h1];simp
  .refine(ybcy op a b).use ?_;simp only[ybg,go_sem,zA,zB,↓reduceIte,reduceCtorEq];refine(yei _).use ?_;simp only[ybb,go_sem];simp[binP,h30,h31,h32,h33,h34,h41,h42]
end Sh
end
section
namespace Sh
open Go Ev
theorem yuk{l:List Int}{k:Nat}(h:k<l.length):countP (l.take (k+1))=countP (l.take k)+(if l.getD k 0≠0 then 1 else 0):=by
 unfold countP;rw[zJ h,List.filter_append,zAO,getD_at h]
 by_cases q:l[k]=0
 .simp[q]
 .simp[q]
theorem ybfq{l:List Int}(k:Nat):0<=countP (l.take k)/\countP (l.take k)<=k:=by
 have:=countP_le (l.take k);simp only[List.length_take]at this;omega
theorem ycau(l:List Int)(hl:l.length<=1000):Returns zG 266 [yu l] (.i .i64 (countP l)):=by
 refine Returns.of (ydbz _ _ ?_);simp only[c266,ycom,yczr,yczg,yu,go_sem,zB,↓reduceIte,reduceCtorEq];refine ybk (σ:=Nat) (fun k=>⟨[(8,.i .i64 k),(3,.i .i64 (countP (l.take k))),(6,yu l),(7,.i .i64 l.length)],[]⟩) (fun k=>k<=l.length) (fun k=>l.length-k) 0 (zK _) ?_ ?_
 .refine yh [] [] [] ?_;simp only[yu,allQ,live,yc,ybb,zH,go_sem,zA,↓reduceIte,reduceCtorEq];simp[countP]
 .intro k hk;simp only[ycnc,yclg,ycnf,ycoa,ycud,ycpn,yu,ybb,go_sem,zA,zB,↓reduceIte,reduceCtorEq];have hb:=ybfq (l:=l) k;refine⟨fun hlt=>⟨by omega,fun h0=>⟨ikw (by omega) (by omega),ikw (by omega) (by omega),?_⟩,fun h0=>⟨ikw (by omega) (by omega),?_⟩⟩,fun hlt=>?_⟩
  .have hk':k<l.length:=by omega
   refine yj (k+1) (by omega) (by omega) ?_
   refine yh [] [] [] ?_;simp only[yuk hk',if_pos h0,allQ,live,yc,ybb,go_sem,zA,↓reduceIte,reduceCtorEq];simp
  .have hk':k<l.length:=by omega
   refine yj (k+1) (by omega) (by omega) ?_
   refine yh [] [] [] ?_;simp only[yuk hk',if_neg (not_not_intro h0),allQ,live,yc,ybb,go_sem,zA,↓reduceIte,reduceCtorEq];simp
  .rw[zS (by omega)]
theorem yrm{l:List Int}{k:Nat}(h:k<l.length):ydo (l.take (k+1))=(if l.getD k 0>(ydo (l.take k)).1 then(l.getD k 0,(ydo (l.take k)).1)else((ydo (l.take k)).1,max (ydo (l.take k)).2 (l.getD k 0))):=by
 unfold ydo;rw[zJ h,zAH,getD_at h];rfl
theorem yva(l:List Int)(hl:l.length<=1000):Returns zG 269 [yu l] (.tp [.i .i64 (ydo l).1,.i .i64 (ydo l).2]):=by
 refine Returns.of (ydeu _ _ ?_);simp only[c269,ycqr,ycwa,ycoz,yu,go_sem,zB,↓reduceIte,reduceCtorEq];refine ybk (σ:=Nat) (fun k=>⟨[(8,.i .i64 k),(2,.i .i64 (ydo (l.take k)).1),(3,.i .i64 (ydo (l.take k)).2),(6,yu l),(7,.i .i64 l.length)],[]⟩) (fun k=>k<=l.length) (fun k=>l.length-k) 0 (zK _) ?_ ?_
 .refine yh [] [] [] ?_;simp only[yu,allQ,live,yc,ybb,zH,go_sem,zA,↓reduceIte,reduceCtorEq];simp[ydo]
 .intro k hk;simp only[yctn,yckd,ycyk,ycub,yczw,ycrd,ycsw,yu,go_sem,zA,zB,↓reduceIte,reduceCtorEq];refine⟨fun hlt=>⟨by omega,fun h0=>⟨ikw (by omega) (by omega),?_⟩,fun h0=>⟨ikw (by omega) (by omega),?_⟩⟩,fun hlt=>?_⟩
  .have hk':k<l.length:=by omega
   refine yj (k+1) (by omega) (by omega) ?_
   refine yh [] [] [] ?_;simp only[yrm hk',if_pos h0,allQ,live,yc,ybb,go_sem,zA,↓reduceIte,reduceCtorEq];simp
  .have hk':k<l.length:=by omega
   refine yj (k+1) (by omega) (by omega) ?_
   refine yh [] [] [] ?_;simp only[yrm hk',if_neg h0,allQ,live,yc,ybb,go_sem,zA,↓reduceIte,reduceCtorEq];simp
  .rw[zS (by omega)]
   exact Sim.refl _
theorem ybcx(l:List Int)(x:Int)(hl:l.length<=100000):Returns zG 274 [yu l,.i .i64 x] (.b (l.elem x)):=by
 refine Returns.of (ydfw _ _ ?_);simp only[c274,ycve,ycus,yu,go_sem,zA,zB,↓reduceIte,reduceCtorEq];refine(ybvh l x hl).use ?_;simp only[ybg,yig,go_sem,zA,zB,↓reduceIte,reduceCtorEq];unfold idxP;cases h:l.findIdx? (fun y=>x==y)with
 | none =>
   rw[zAA]at h
   have:l.elem x=false:=by
    rw[zBH,decide_eq_false_iff_not];intro hm;have:=h x hm;simp at this
   rw[this];simp
 | some i =>
   obtain⟨h1,h2,_⟩:=List.findIdx?_eq_some_iff_getElem.1 h
   have:l.elem x=true:=by
    rw[zBH,decide_eq_true_eq];have:x=l[i]:=by simpa using h2
    rw[this];exact zL h1
   rw[this];simp
theorem ybpi{l:List Int}{n:Nat}{r:Int}(h:l.elem r=true):yvy l (n+1) r=yvy l n (r+1):=by
 show(if l.elem r then _ else _)=_;rw[if_pos h]
theorem ybpw{l:List Int}{n:Nat}{r:Int}(h:l.elem r=false):yvy l n r=r:=by
 cases n with
 |zero=>rfl
 |succ n=>show(if l.elem r then _ else _)=_;rw[if_neg (by rw[h];simp)]
theorem ybck{l:List Int}{k:Nat}(h:∀j:Nat,j<k->l.elem (j:Int)=true):k<=l.length:=by
 have h1:((zAR k).map fun(j:Nat)=>(j:Int)).Nodup:=by
  rw[List.Nodup,List.pairwise_map];exact List.nodup_range.imp fun {a b} hab e=>hab (by omega)
 have h2:((zAR k).map fun(j:Nat)=>(j:Int)) ⊆ l:=fun x hx=>by
  obtain⟨j,hj,rfl⟩:=List.mem_map.1 hx;have:=h j (List.mem_range.1 hj)
  simpa using this
 have:=List.Nodup.length_le_of_subset h1 h2
 simpa using this
theorem ydgh(l:List Int)(hl:l.length<=1000):Returns zG 270 [yu l] (.i .i64 (mexP l)):=by
 refine Returns.of (ydhi _ _ ?_);simp only[c270,ycwo,ycrs,yu,go_sem];refine ybk (σ:=Nat) (fun k=>⟨[(3,.i .i64 k),(0,yu l)],[]⟩) (fun k=>(∀j:Nat,j<k->l.elem (j:Int)=true)/\mexP l=yvy l (l.length+1-k) k) (fun k=>l.length+1-k) 0 ⟨fun j h=>absurd h (zAB _),rfl⟩ ?_ ?_
 .refine yh [] [] [] ?_;simp only[yu,allQ,live,yc,zH,go_sem,↓reduceIte,reduceCtorEq]
 .intro k ⟨hk,he⟩;have hb:=ybck hk;simp only[ycpa,ycvt,ycnj,yu,go_sem,zA,zB,↓reduceIte,reduceCtorEq];refine(ybcx l k (by omega)).use ?_
  simp only[ybg,ybb,go_sem,zA,zB,↓reduceIte,reduceCtorEq];refine⟨fun h=>⟨ikw (by omega) (by omega),?_⟩,fun h=>?_⟩
  .have hk2:∀j:Nat,j<k+1->l.elem (j:Int)=true:=fun j hj=>by
    by_cases q:j<k
    .exact hk j q
    .obtain rfl:j=k:=by omega
     exact h
   have hb2:=ybck hk2;refine yj (k+1) ⟨hk2,?_⟩ (by omega) ?_
   .rw[he,show l.length+1-k=(l.length+1-(k+1))+1 by omega,ybpi h];simp
   .refine yh [] [] [] ?_;simp only[allQ,live,yc,ybb,go_sem,↓reduceIte,reduceCtorEq];simp
  .rw[he,ybpw h]
theorem ycay(x:Int):Returns zG 268 [.i .i64 x] (.b (x != 0)):=by
 refine Returns.of (ydcc _ _ ?_);simp only[c268,ycut,ycqq,yig,go_sem,zA,zB,↓reduceIte,reduceCtorEq]
theorem yzf(l:List Int)(hl:l.length<=1000):Returns zG 267 [yu l,.fn 268 [] []] (.i .i64 (yfy l)):=by
 refine Returns.of (ydiq _ _ ?_);simp only[c267,ycuy,ycob,yu,go_sem,zB,↓reduceIte,reduceCtorEq];refine ybk (σ:=Nat) (fun k=>⟨[(8,.i .i64 k),(0,yu l),(1,.fn 268 [] []),(7,.i .i64 l.length)],[]⟩) (fun k=>k<=l.length/\(l.take k).findIdx? (· != 0)=none) (fun k=>l.length-k) 0 ⟨zK _,by simp⟩ ?_ ?_
 .refine yh [] [] [] ?_;simp only[yu,allQ,live,yc,zH,go_sem,zA,↓reduceIte,reduceCtorEq]
 .intro k ⟨hk,hno⟩;simp only[yclt,ycmr,ycsq,ycoq,ycxk,ycmg,yu,ybb,go_sem,zA,zB,↓reduceIte,reduceCtorEq];refine⟨fun hlt=>⟨by omega,(ycay _).use ?_⟩,fun hlt=>?_⟩
  .have hlt:k<l.length:=by omega
   simp only[ybg,ybb,go_sem,zA,zB,↓reduceIte,reduceCtorEq];rw[getD_at hlt];refine⟨fun ha=>?_,fun ha=>⟨ikw (by omega) (by omega),?_⟩⟩
   .have:l.findIdx? (· != 0)=some k:=by
     rw[zAI];refine⟨hlt,by simpa using ha,fun j hj=>?_⟩
     rw[zAA]at hno;have:=hno l[j] (List.mem_take_iff_getElem.2 ⟨j,by omega,rfl⟩)
     simpa using this
    unfold yfy;rw[this]
   .refine yj (k+1) ⟨by omega,?_⟩ (by omega) ?_
    .rw[zJ hlt,zAX,hno];simp[ha]
    .refine yh [] [] [] ?_;simp only[allQ,live,yc,ybb,go_sem,zA,↓reduceIte,reduceCtorEq];simp
  .obtain rfl:k=l.length:=by omega
   rw[zAJ]at hno;unfold yfy;rw[hno]
end Sh
end
section
namespace Sh
open Go Ev
theorem ybfp{l:List Int}{k:Nat}(h:k<l.length):yre (l.take (k+1))=min (yre (l.take k)) (l.getD k 0):=by
 unfold yre;rw[zJ h,zAH,getD_at h];rfl
theorem ybae{l:List Int}{k:Nat}(h:k<l.length):(l.take (k+1)).sum=(l.take k).sum+l.getD k 0:=by
 rw[zJ h,List.sum_append,getD_at h];simp
theorem ybvo{l:List Int}(h:∀x∈l,InB x):∀k,k<=l.length -> -1073741824*(k:Int)<=(l.take k).sum/\(l.take k).sum<=1073741824*(k:Int)
 |0,_=>by simp
 | k+1,hk=>by
   have ih:=ybvo h k (by omega)
   rw[ybae (by omega)]
   have:=h l[k] (zL (by omega))
   rw[<-getD_at (d:=0) (show k<l.length by omega)]at this
   unfold InB at this;omega
theorem ycde(op:Int)(l:List Int)(hl:l.length<=24)(hb:∀x∈l,InB x):Returns zG 257 [.i .i64 op,yu l] (.i .i64 (yhf op l)):=by
 refine Returns.of (ydis _ _ ?_);have hin:∀k,k<l.length->InB (l.getD k 0):=fun k hk=>by rw[getD_at hk];exact hb _ (zL hk)
 obtain⟨L,hL⟩:∃L,yu l=L:=⟨_,rfl⟩;have hLs:L = .sl 1 l.length (fun k=>[.i .i64 (l.getD k 0)]):=hL.symm;simp only[c257,yctp,ycxq,ycvx,yclr,ydaj,ycpp,ycuj,yckk,ycmt,yczn,ybyx,ybqx,ybzs,ycad,ybwo,ybvu,ybye,ybsa,ycbi,ybwf,ybsc,ycch,ybtt,ybwq,ybxk,ybun,yccs,ycci,ybuu,ybxu,ybzx,ybxl,ybvp,ycbp,ybvy,ybvz,ybqt,yu,go_sem,zAC,zA,zB,↓reduceIte,reduceCtorEq];have hcount:=ycau l (by omega)
 have htwo:=yva l (by omega)
 simp only[yu]at hcount htwo;refine⟨fun h20=>hcount.use ?_,fun h20=>⟨fun h21=>hcount.use ?_,fun h21=>⟨fun h22=>hcount.use ?_,fun h22=>⟨fun h23=>?_,fun h23=>⟨fun h24=>?_,fun h24=>⟨fun h25=>htwo.use ?_,fun h25=>⟨fun h26=>?_,fun h26=>⟨fun h27=>?_,fun h27=>⟨fun h28=>htwo.use ?_,fun h28=>?_⟩⟩⟩⟩⟩⟩⟩⟩⟩
 .simp only[ybg,go_sem,zA,zB,↓reduceIte,reduceCtorEq];refine(yei _).use ?_;simp only[ybb,go_sem];simp[yhf,h20]
 .simp only[ybg,go_sem,zA,zB,↓reduceIte,reduceCtorEq];refine(yei _).use ?_;simp only[ybb,go_sem];simp[yhf,h21]
 .simp only[ybg,ybb,go_sem,zA,zB,↓reduceIte,reduceCtorEq];simp[yhf,h22]
 .have:=yzf l (by omega)
  simp only[yu]at this;refine this.use ?_;simp only[ybg,ybb,go_sem,zA,zB,↓reduceIte,reduceCtorEq];simp[yhf,h23]
 .refine ybk (σ:=Nat) (fun k=>⟨[(42,.i .i64 k),(5,.i .i64 (yre (l.take k))),(40,yu l),(41,.i .i64 l.length)],[]⟩) (fun k=>k<=l.length) (fun k=>l.length-k) 0 (zK _) ?_ ?_
  .refine yh [] [] [] ?_;simp only[yu,allQ,live,yc,ybb,zH,go_sem,zA,↓reduceIte,reduceCtorEq];simp[yre]
  .intro k hk;simp only[yu,ybb,go_sem,zA,zB,↓reduceIte,reduceCtorEq];refine⟨fun hlt=>⟨by omega,ikw (by omega) (by omega),?_⟩,fun hlt=>?_⟩
   .have hk':k<l.length:=by omega
    refine yj (k+1) (by omega) (by omega) ?_
    refine yh [] [] [] ?_;simp only[ybfp hk',allQ,live,yc,ybb,go_sem,zA,↓reduceIte,reduceCtorEq];simp
   .rw[zS (by omega)]
    simp[yhf,h24]
 .simp only[ybg,ybb,go_sem,zA,zB,↓reduceIte,reduceCtorEq];simp[yhf,h25]
 .refine ybk (σ:=Nat) (fun k=>⟨[(63,.i .i64 k),(10,.i .i64 (l.take k).sum),(61,yu l),(62,.i .i64 l.length)],[]⟩) (fun k=>k<=l.length) (fun k=>l.length-k) 0 (zK _) ?_ ?_
  .refine yh [] [] [] ?_;simp only[yu,allQ,live,yc,ybb,zH,go_sem,zA,↓reduceIte,reduceCtorEq];simp
  .intro k hk;simp only[yu,go_sem,zA,zB,↓reduceIte,reduceCtorEq];have hs:=ybvo hb k hk;refine⟨fun hlt=>?_,fun hlt=>(yee _).use ?_⟩
   .have hk':k<l.length:=by omega
    have hs2:=ybvo hb (k+1) hk';rw[ybae hk']at hs2;refine⟨by omega,ikw (by omega) (by omega),ikw (by omega) (by omega),?_⟩
    refine yj (k+1) (by omega) (by omega) ?_
    refine yh [] [] [] ?_;simp only[ybae hk',allQ,live,yc,ybb,go_sem,zA,↓reduceIte,reduceCtorEq];simp
   .simp only[ybg,ybb,go_sem,zA,zB,↓reduceIte,reduceCtorEq];rw[zS (by omega)]
    simp[yhf,h26]
 .have:=ydgh l (by omega)
  simp only[yu]at this;refine this.use ?_;simp only[ybg,ybb,go_sem,zA,zB,↓reduceIte,reduceCtorEq];simp[yhf,h27]
 .simp only[ybg,ybb,go_sem,zA,zB,↓reduceIte,reduceCtorEq];simp[yhf,h28]
 .refine⟨fun h0=>?_,fun h0=>⟨by omega,?_⟩⟩
  .simp only[ybb,go_sem];have:l=[]:=zY (by omega)
   simp[yhf,h20,h21,h22,h23,h24,h25,h26,h27,h28,this]
  .cases l with
   |nil=>simp at h0
   | cons x l=>
     simp only[ybb,go_sem];simp[yhf,h20,h21,h22,h23,h24,h25,h26,h27,h28]
end Sh
end
section
def Ex.shp:Ex->Bool
 |.leaf op _=>decide (1<=op/\op<=17)
 |.un op a=>decide (18<=op/\op<=29)&&a.shp
 |.agg op a=>decide (18<=op/\op<=29)&&a.shp
 |.bin op a b=>decide (30<=op/\op<=42)&&a.shp&&b.shp
 |.ite x a b=>x.shp&&a.shp&&b.shp
theorem Ex.ok_shp{nv:Int}:∀(x:Ex) {bnd:Bool},x.ok nv bnd=true->x.shp=true
 | .leaf op arg,bnd,h=>by
   simp only[Ex.ok,zD]at h;exact h.1.1
 | .un op a,bnd,h=>by
   simp only[Ex.ok,zD,decide_eq_true_eq]at h;simp only[Ex.shp,zD,decide_eq_true_eq];exact⟨by omega,Ex.ok_shp a h.2⟩
 | .agg op a,bnd,h=>by
   simp only[Ex.ok,zD,decide_eq_true_eq]at h;simp only[Ex.shp,zD,decide_eq_true_eq];exact⟨by omega,Ex.ok_shp a h.2⟩
 | .bin op a b,bnd,h=>by
   simp only[Ex.ok,zD,decide_eq_true_eq]at h;simp only[Ex.shp,zD,decide_eq_true_eq];exact⟨⟨h.1.1,Ex.ok_shp a h.1.2⟩,Ex.ok_shp b h.2⟩
 | .ite x a b,bnd,h=>by
   simp only[Ex.ok,zD]at h;simp only[Ex.shp,zD];exact⟨⟨Ex.ok_shp x h.1.1,Ex.ok_shp a h.1.2⟩,Ex.ok_shp b h.2⟩
def yls(op:Int):Int:=if op<1\/op>43 then -1 else if op<=17 then 0 else if op<=29 then 1 else if op<=42 then 2 else 3
def serL(ts:List Ex):List Tm:=(ts.map Ex.ser).flatten
def Ex.head:Ex->Tm
 |.leaf op arg=>(op,arg)
 |.un op _=>(op,0)
 |.agg op _=>(op,0)
 |.bin op _ _=>(op,0)
 |.ite _ _ _=>(43,0)
def Ex.subs:Ex->List Ex
 |.leaf _ _=>[]
 |.un _ a=>[a]
 |.agg _ a=>[a]
 |.bin _ a b=>[a,b]
 |.ite x a b=>[x,a,b]
theorem Ex.ser_eq(x:Ex):x.ser=x.head::serL x.subs:=by
 cases x<;>simp[Ex.ser,Ex.head,Ex.subs,serL]
theorem ycgl{op:Int}(h:1<=op/\op<=17):yls op=0:=by
 unfold yls;rw[if_neg (by omega),if_pos (by omega)]
theorem ybkp{op:Int}(h:18<=op/\op<=29):yls op=1:=by
 unfold yls;rw[if_neg (by omega),if_neg (by omega),if_pos (by omega)]
theorem ycdd{op:Int}(h:30<=op/\op<=42):yls op=2:=by
 unfold yls;rw[if_neg (by omega),if_neg (by omega),if_neg (by omega),if_pos (by omega)]
theorem Ex.arity(x:Ex)(h:x.shp=true):yls x.head.1=x.subs.length:=by
 cases x with
 |leaf op arg=>simp only[Ex.shp,decide_eq_true_eq]at h;exact ycgl h
 |un op a=>simp only[Ex.shp,zD,decide_eq_true_eq]at h;exact ybkp h.1
 |agg op a=>simp only[Ex.shp,zD,decide_eq_true_eq]at h;exact ybkp h.1
 |bin op a b=>simp only[Ex.shp,zD,decide_eq_true_eq]at h;exact ycdd h.1.1
 |ite x a b=>simp[Ex.head,Ex.subs,yls]
theorem Ex.subs_shp(x:Ex)(h:x.shp=true):∀y∈x.subs,y.shp=true:=by
 cases x with
 |leaf op arg=>intro y hy;cases hy
 |un op a=>simp only[Ex.shp,zD]at h;intro y hy;simp[Ex.subs]at hy;subst hy;exact h.2
 |agg op a=>simp only[Ex.shp,zD]at h;intro y hy;simp[Ex.subs]at hy;subst hy;exact h.2
 |bin op a b=>simp only[Ex.shp,zD]at h;intro y hy;simp[Ex.subs]at hy;rcases hy with rfl|rfl<;>first|exact h.1.2|exact h.2
 |ite x a b=>simp only[Ex.shp,zD]at h;intro y hy;simp[Ex.subs]at hy;rcases hy with rfl|rfl|rfl<;>first|exact h.1.1|exact h.1.2|exact h.2
theorem yfh{e:List Tm}{at_:Nat}{t:Tm}{r:List Tm}(h:e.drop at_=t::r):at_<e.length/\e.getD at_ (0,0)=t/\e.drop (at_+1)=r:=by
 have hlt:at_<e.length:=by
  refine zAD fun hc=>?_;rw[List.drop_of_length_le (by omega)]at h;cases h
 refine⟨hlt,?_,?_⟩
 .rw[zAS hlt]at h;simp only[List.cons.injEq]at h;simp[zX,hlt,h.1]
 .rw[zAS hlt]at h;simp only[List.cons.injEq]at h;exact h.2
namespace Sh
open Go Ev
theorem ybri(op:Int):Returns zG 247 [.i .i64 op] (.i .i64 (yls op)):=by
 refine Returns.of (yder _ _ ?_);simp only[c247,ycln,ycoh,ycyg,ycmh,ycsx,ycsu,ycqz,ycxe,ycst,ycrp,ybb,yls,go_sem,zA,zB,↓reduceIte,reduceCtorEq];refine⟨fun h1=>⟨fun h=>by rw[if_pos (.inr h)],fun h2=>⟨fun h=>by rw[if_neg (by omega),if_pos h],fun h3=>⟨fun h=>by rw[if_neg (by omega),if_neg h3,if_pos h],fun h4=>⟨fun h=>by rw[if_neg (by omega),if_neg h3,if_neg h4,if_pos h],fun h5=>by rw[if_neg (by omega),if_neg h3,if_neg h4,if_neg h5]⟩⟩⟩⟩,fun h=>by rw[if_pos (.inl h)]⟩
theorem ydge(e:List Tm)(x:Ex)(at_:Nat)(rest:List Tm)(hx:x.shp=true)(he:e.drop at_=x.ser++rest)(hl:e.length<=1000):Returns zG 231 [ybc e,.i .i64 at_] (.i .i64 ((at_+x.ser.length:Nat):Int)):=by
 refine Returns.of (ydeg _ _ ?_)
 have h0:at_<e.length:=by
  rw[x.ser_eq]at he;exact(yfh he).1
 simp only[c231,ycmq,ycrf,ycum,ycpg,ybc,ybb,go_sem,zA,zB,↓reduceIte,reduceCtorEq];refine⟨fun _=>⟨fun h=>by omega,fun _=>?_⟩,fun h=>by omega⟩
 refine ybk (σ:=Nat×List Ex) (fun p=>⟨[(1,.i .i64 p.1),(5,.i .i64 p.2.length),(0,ybc e)],[]⟩)
  (fun p=>e.drop p.1=serL p.2++rest/\p.2≠[]/\(∀y∈p.2,y.shp=true)/\p.1+(serL p.2).length=at_+x.ser.length/\p.2.length<=3*p.1+1) (fun p=>e.length-p.1) (at_,[x]) ⟨by simpa[serL]using he,by simp,by simpa using hx,by simp[serL],by simp⟩ ?_ ?_
 .refine yh [] [] [] ?_;simp only[ybc,allQ,live,yc,ybb,go_sem,zA,↓reduceIte,reduceCtorEq];simp
 .rintro⟨k,ts⟩ ⟨hk,hne,hsh,hlen,hb⟩;cases ts with
  |nil=>exact absurd rfl hne
  | cons y ts =>
    dsimp only at hk hlen hb ⊢
    have hser:serL (y::ts)=y.head::(serL y.subs++serL ts):=by
     show(y.ser++serL ts)=_;rw[y.ser_eq];rfl
    rw[hser]at hk hlen;obtain⟨d1,d2,d3⟩:=yfh hk;have hy:=hsh y zBE;have har:=y.arity hy;have hsub:y.subs.length<=3:=by cases y<;>simp[Ex.subs]
    simp only[List.length_cons]at hb hlen;simp only[ycwl,ycol,ycjg,ycui,ycon,yczt,ybxg,ybrg,ybtp,ybc,ybb,go_sem,zA,zB,zC,↓reduceIte,reduceCtorEq];refine⟨fun hlt=>⟨by omega,(ybri _).use ?_⟩,fun hlt=>by omega⟩
    rw[d2,har];simp only[ybg,ybb,go_sem,zA,zB,↓reduceIte,reduceCtorEq];refine⟨fun h=>by omega,fun _=>⟨ikw (by omega) (by omega),ikw (by simp;omega) (by simp;omega),fun h=>⟨ikw (by omega) (by omega),?_⟩,fun h=>⟨ikw (by omega) (by omega),?_⟩⟩⟩
    .have h1:ts=[]:=zY (by omega)
     have h2:y.subs=[]:=zY (by omega)
     subst h1;rw[h2]at hlen;simp[serL]at hlen;omega
    .have hpos:y.subs++ts≠[]:=fun q=>by
      have q1:=congrArg zAW q;simp only[zAO,List.length_nil]at q1;omega
     refine yj (k+1,y.subs++ts) ⟨?_,hpos,?_,?_,?_⟩ (by dsimp only;omega) ?_
     .dsimp only
      rw[d3];simp[serL]
     .intro z hz;rcases List.mem_append.1 hz with q|q
      .exact y.subs_shp hy z q
      .exact hsh z (zAY _ q)
     .dsimp only
      have:(serL (y.subs++ts)).length=(serL y.subs++serL ts).length:=by simp[serL]
      rw[this];omega
     .dsimp only
      simp only[zAO];omega
     .refine yh [] [] [] ?_;simp only[allQ,live,yc,ybb,go_sem,zA,↓reduceIte,reduceCtorEq];simp;omega
end Sh
end
section
namespace Sh
open Go Ev
theorem ycjd(p:ProgR){g:Gr}(hg:ybe g)(op:Int){v:Nat}(hv:v<g.ports.length)(port:Int)(hp:op=6\/op=7\/op=8\/op=9\/op=10\/op=11\/(0<=port/\port<(g.ports.getD v []).length)) :
 Returns zG 255 [.rf (yfs p g),.i .i64 op,.i .i64 v,.i .i64 port] (.i .i64 (ymt g op v port)):=by
 refine Returns.of (ydcn _ _ ?_);have hlen:=hg.2.2.1;simp only[c255,yckw,ycvb,yclq,ycza,ycxf,ycro,ycrv,ycuk,ycnx,yctu,ybsd,ycbg,ycat,ybwr,ycan,ycba,ybxs,ycbq,ycbt,ybtb,ybwk,ybuj,ybzq,ybvd,ycaj,yfs,yu,yx,ybc,ydy,ybb,go_sem,zA,zB,zC,zF,↓reduceIte,reduceCtorEq];refine⟨fun h6=>?_,fun h6=>⟨fun h7=>?_,fun h7=>⟨fun h8=>⟨by omega,?_⟩,fun h8=>⟨fun h9=>⟨by omega,?_⟩,fun h9=>⟨fun h10=>(yei _).use ?_,fun h10=>⟨fun h11=>?_,fun h11=>?_⟩⟩⟩⟩⟩⟩
 .simp[ymt,h6]
 .simp[ymt,h7]
 .simp[ymt,h8]
 .simp[ymt,h9]
 .simp only[ybg,ybb,go_sem,zA,zB,↓reduceIte,reduceCtorEq];simp[ymt,h10]
 .simp[ymt,h11]
 .have hp:0<=port/\port<(g.ports.getD v []).length:=by omega
  have hpn:port.toNat<(g.ports.getD v []).length:=by omega
  have hl:=hg.ycm hv hpn;unfold ycm at hl;refine⟨by omega,by omega,fun h13=>⟨by omega,?_⟩,fun h13=>⟨fun h14=>⟨by omega,?_⟩,fun h14=>⟨fun h15=>(yei _).use ?_,fun h15=>⟨fun h16=>?_,fun h16=>⟨by omega,?_⟩⟩⟩⟩⟩
  .simp[ymt,h13,ycm]
  .simp[ymt,h14,ycm]
  .simp only[ybg,ybb,go_sem,zA,zB,↓reduceIte,reduceCtorEq];simp[ymt,h15,ycm]
  .simp[ymt,h16,ycm]
  .refine⟨by rw[show(ykp g v).length=(g.ports.getD v []).length from zAN _];omega,?_⟩
   simp[ymt,h6,h7,h8,h9,h10,h11,h13,h14,h15,h16]
theorem ycgx(p:ProgR){g:Gr}(hg:ybe g){nv:Nat}{c:Conf}(hc:ConfIn g.ports.length nv c){v:Nat}(hv:v<g.ports.length)(e:List Tm){op arg:Int}{bnd:Bool}(ho:(Ex.leaf op arg).ok nv bnd=true)(port:Int)(hp:bnd=true->0<=port/\port<(g.ports.getD v []).length) :
 Returns zG 236 [.rf (yjh p g c v e),.ag [.i .i64 op,.i .i64 arg],.i .i64 port] (.i .i64 (yvr g c op arg v port)):=by
 refine Returns.of (ydfz _ _ ?_);simp only[Ex.ok,zD,decide_eq_true_eq]at ho;obtain⟨⟨ho1,ho2⟩,ho3⟩:=ho;have hlen:=hc.len;have hrow:=hc.at_ hv;have hF:=ycjd p hg op hv port;simp only[yfs,yu,yx,ybc,ydy]at hF;simp only[c236,ycmk,ycur,ycuc,ycwz,ycmz,ycxs,yclv,yczz,ycqa,ycpr,ybss,ybuo,ybrj,ybrw,yccp,yjh,ybm,yfs,yu,yx,ybc,ydy,ybb,go_sem,zA,zB,zC,zF,↓reduceIte,reduceCtorEq];refine⟨fun h1=>?_,fun h1=>⟨fun h2=>?_,fun h2=>⟨fun h3=>?_,fun h3=>⟨fun h4=>?_,fun h4=>⟨fun h5=>?_,fun h5=>⟨fun h12=>?_,fun h12=>(hF ?_).use ?_⟩⟩⟩⟩⟩⟩
 .simp[yvr,h1]
 .simp[yvr,h2]
 .simp[yvr,h3]
 .simp[yvr,h4]
 .rw[if_neg (by omega),if_pos (by omega)]at ho2
  have ho2:=of_decide_eq_true ho2;refine⟨by omega,by omega,?_⟩
  simp[yvr,h5]
 .rw[if_neg (by omega),if_pos (by omega)]at ho2
  have ho2:=of_decide_eq_true ho2;rw[if_pos (by omega)]at ho3
  have hp:=hp ho3;have hpn:port.toNat<(g.ports.getD v []).length:=by omega
  have hl:=hg.ycm hv hpn;have hr2:=hc.at_ (v:=(ycm g v port.toNat).1.toNat) (by omega)
  unfold ycm at hl hr2;refine⟨by omega,by omega,by omega,by omega,?_⟩
  simp[yvr,h12,ycm]
 .by_cases q:11<=op
  .rw[if_pos q]at ho3;have:=hp ho3;omega
  .omega
 .simp only[ybg,ybb,go_sem,zA,zB,↓reduceIte,reduceCtorEq];simp[yvr,h1,h2,h3,h4,h5,h12]
theorem ysk{e:List Tm}{at_:Nat}{a b:List Tm}(h:e.drop at_=a++b):e.drop (at_+a.length)=b:=by
 rw[<-List.drop_drop,h,List.drop_left]
theorem ycfj{n:Nat}{gg:Nat->List SV}{l:List Int}(hn:n=l.length)(h:∀k,k<n->gg k=[.i .i64 (l.getD k 0)]):Sim (.sl 1 n gg) (yu l):=by
 subst hn;exact ykn h
def ybyf(p:ProgR)(g:Gr)(nv:Nat)(c:Conf)(v:Nat)(e:List Tm)(x:Ex):Prop :=
 ∀ (bnd:Bool) (port:Int) (at_:Nat) (rest:List Tm),x.ok nv bnd=true->(bnd=true->0<=port/\port<(g.ports.getD v []).length)->InB port->e.drop at_=x.ser++rest ->
   Returns zG 220 [.rf (yjh p g c v e),.i .i64 at_,.i .i64 port] (.tp [.i .i64 (yda g c v x port),.i .i64 ((at_+x.ser.length:Nat):Int)])
theorem yyu(p:ProgR){g:Gr}(hg:ybe g){nv:Nat}{c:Conf}(hc:ConfIn g.ports.length nv c){v:Nat}(hv:v<g.ports.length)(e:List Tm)(hl:e.length<=1000){op:Int}{a:Ex}(ho:(Ex.agg op a).ok nv true=true)(ih:ybyf p g nv c v e a)(at_:Nat)(rest:List Tm)(he:e.drop at_=(Ex.agg op a).ser++rest) :
 Returns zG 238 [.rf (yjh p g c v e),.i .i64 op,.i .i64 at_] (.tp [.i .i64 (yda g c v (.agg op a) 0),.i .i64 ((at_+(Ex.agg op a).ser.length:Nat):Int)]):=by
 have ho':=ho;simp only[Ex.ok,zD,decide_eq_true_eq]at ho;have hd:=hg.deg_lt (v:=v);obtain⟨deg,hdeg⟩:∃d,(g.ports.getD v []).length=d:=⟨_,rfl⟩;rw[hdeg]at hd;have hin:∀q:Nat,q<deg->InB (yda g c v a q):=fun q hq=>yhr hg rfl hc hv a ho.2 (fun _=>by omega) (by unfold InB;omega)
 have hsh:=Ex.ok_shp _ ho';have hdrop:e.drop (at_+1)=a.ser++rest:=(yfh (show e.drop at_=(op,0)::(a.ser++rest)from he)).2.2
 have hat:=(yfh (show e.drop at_=(op,0)::(a.ser++rest)from he)).1
 have hfit:at_+1+a.ser.length<=e.length:=by
  have:=congrArg zAW hdrop;simp at this;omega
 refine Returns.of (ydic _ _ ?_);simp only[c238,ycxr,yckb,ycxm,ycpl,yjh,ybm,yfs,yu,yx,ybc,ydy,hdeg,go_sem,zA,zB,zC,zF,↓reduceIte,reduceCtorEq];refine⟨by omega,?_⟩
 let val:Nat->Int:=fun q=>yda g c v a q
 refine ybk (σ:=Nat) (fun k=>⟨[(27,.i .i64 k),(26,.i .i64 deg),(9,.i .i64 deg),(0,.rf (yjh p g c v e)),(1,.i .i64 op),(2,.i .i64 at_),(8,.pt (8,0) 0 0),(7,.i .i64 (if k=0 then 0 else((at_+1+a.ser.length:Nat):Int)))],
  [(8,.one (some ⟨256,true,1,24,fun i=>[.i .i64 (if i<k then val i else 0)]⟩))]⟩) (fun k=>k<=deg) (fun k=>deg-k) 0 (zK _) ?_ ?_
 .refine yh [] [] [] ?_;simp only[yjh,ybm,yfs,yu,yx,ybc,ydy,allQ,live,yc,ybb,zH,go_sem,zA,↓reduceIte,reduceCtorEq];intro i _;rw[if_neg (by omega)]
 .intro k hk;simp only[yclh,ycsy,ycrq,ycqb,ycou,ycup,ybyq,go_sem,zA,zB,zC,↓reduceIte,reduceCtorEq];refine⟨fun hlt=>⟨ikw (by omega) (by omega),?_⟩,fun hlt=>?_⟩
  .have hk':k<deg:=by omega
   have hv1:=ih true (k:Int) (at_+1) rest ho.2 (fun _=>by rw[hdeg];omega) (by unfold InB;omega) hdrop
   rw[show((at_+1:Nat):Int)=(at_:Int)+1 by omega]at hv1
   refine hv1.use ?_;simp only[ybg,splice,go_sem,zA,zB,↓reduceIte,reduceCtorEq];refine⟨by omega,by omega,ikw (by omega) (by omega),?_⟩
   refine yj (k+1) (by omega) (by omega) ?_
   refine yh [] [] [] ?_;simp only[allQ,live,yc,ybb,go_sem,zA,↓reduceIte,reduceCtorEq];refine⟨by omega,?_⟩
   intro i hi
   by_cases q:i=k
   .rw[if_pos q,if_pos (by omega)]
    subst q;simp only[val,live,yc,go_sem,reduceCtorEq]
   .rw[if_neg q]
    by_cases q2:i<k
    .rw[if_pos q2,if_pos (by omega)]
     simp only[live,yc,go_sem,reduceCtorEq]
    .rw[if_neg q2,if_neg (by omega)]
     simp only[live,yc,go_sem,reduceCtorEq]
  .obtain rfl:k=deg:=by omega
   have hE:=ydge e _ at_ rest hsh he hl
   have hF:=ycde op ((zAR k).map val) (by simp;omega) (fun x hx=>by
    obtain⟨q,hq,rfl⟩:=List.mem_map.1 hx;exact hin q (List.mem_range.1 hq))
   have hres:yda g c v (.agg op a) 0=yhf op ((zAR k).map val):=by
    show yhf op _=_;rw[hdeg]
   rw[hres];simp only[yjh,ybc,go_sem,zA,zB,↓reduceIte,reduceCtorEq];simp only[ybc]at hE
   have hsim:SimL [.i .i64 op,.sl 1 (k-0) fun i=>[.i .i64 (if i<k then val i else 0)]] [.i .i64 op,yu ((zAR k).map val)]:=by
    refine⟨Sim.refl _,ycfj (by simp) fun i hi=>?_,trivial⟩
    rw[if_pos (by omega)]
    simp[zX,show i<k by omega]
   refine⟨fun h0=>hE.use ?_,fun h0=>?_⟩
   .simp only[ybg,go_sem,zA,zB,zC,↓reduceIte,reduceCtorEq];refine⟨by simp;omega,.inl ⟨by omega,hF.useS hsim ?_⟩⟩
    simp only[go_sem];exact Sim.refl _
   .refine⟨by simp;omega,.inl ⟨by omega,hF.useS hsim ?_⟩⟩
    simp only[ybg,if_neg (show ¬k=0 by omega),go_sem,zA,zB,↓reduceIte,reduceCtorEq]
    rw[show at_+(Ex.agg op a).ser.length=at_+1+a.ser.length by simp[Ex.ser];omega]
    exact Sim.refl _
end Sh
end
section
namespace Sh
open Go Ev
theorem ybof(g:Gr)(v:Nat)(hv:v<g.ports.length)(u:Int)(hl:(g.ports.getD v []).length<=100000):Returns zG 170 [grV g,.i .i64 v,.i .i64 u] (.i .i64 (yhh (g.ports.getD v []) u)):=by
 refine Returns.of (ydes _ _ ?_);simp only[c170,ycpf,ycsr,grV,yx,ybc,yu,go_sem,zA,zB,zF,↓reduceIte,reduceCtorEq];refine⟨by omega,?_⟩
 obtain⟨ls,hls⟩:∃ls,g.ports.getD v []=ls:=⟨_,rfl⟩;rw[hls]at hl ⊢;refine ybk (σ:=Nat) (fun k=>⟨[(15,.i .i64 k),(13,ybc ls),(14,.i .i64 ls.length),(2,.i .i64 u)],[]⟩) (fun k=>k<=ls.length/\(ls.take k).findIdx? (fun l=>l.1==u)=none) (fun k=>ls.length-k) 0 ⟨zK _,by simp⟩ ?_ ?_
 .refine yh [] [] [] ?_;simp only[ybc,allQ,live,yc,zH,go_sem,zA,↓reduceIte,reduceCtorEq]
 .intro k ⟨hk,hno⟩;simp only[ycvq,ycki,ycmv,ycmy,ycow,yclx,ybc,ybb,splice,go_sem,zA,zB,zC,zF,↓reduceIte,reduceCtorEq];refine⟨fun hlt=>⟨by omega,fun he=>?_,fun he=>⟨ikw (by omega) (by omega),?_⟩⟩,fun hlt=>?_⟩
  .have hlt:k<ls.length:=by omega
   rw[getD_at hlt]at he;rw[ypk ls u k hlt he hno]
  .have hlt:k<ls.length:=by omega
   rw[getD_at hlt]at he;refine yj (k+1) ⟨by omega,yrp ls u k hlt he hno⟩ (by omega) ?_
   refine yh [] [] [] ?_;simp only[allQ,live,yc,ybb,go_sem,zA,↓reduceIte,reduceCtorEq];simp
  .obtain rfl:k=ls.length:=by omega
   rw[yus ls u hno]
theorem ybpv{ids:List Int}{k:Nat}(h:k<ids.length):(ids.take (k+1)).foldl max 0=max ((ids.take k).foldl max 0) (ids.getD k 0):=by
 rw[ybne ids k h,getD_at h]
theorem ybdh(p:ProgR){g:Gr}(hg:ybe g):Returns zG 143 [.ag (yna p),grV g] (.rf (yfs p g)):=by
 refine Returns.of (ydaw _ _ ?_);have h24:=hg.2.1;have hid:=hg.2.2.1;obtain⟨n,hn⟩:∃n,g.ports.length=n:=⟨_,rfl⟩;rw[hn]at h24 hid;simp only[c143,ycna,ycnh,ycsj,grV,yx,ybc,yu,yna,splice,hn,go_sem,zA,zB,zC,zF,↓reduceIte,reduceCtorEq];refine⟨by omega,?_⟩
 refine ybk (σ:=Nat) (fun k=>⟨[(21,.i .i64 k),(19,yx g.ports),(20,.i .i64 n),(3,.pt (3,0) 0 0),(5,.pt (17,0) 0 0)],
  [(3,.one (some ⟨27,true,2,1,fun _=>[yu g.ids,yx g.ports]⟩)),(17,.one (some ⟨170,true,7,1,fun _=>[.a (.string p.name),ydm p.vars,ydg p.rules,yu g.ids,yx g.ports,.i .i64 ((g.ids.take k).foldl max 0),.os (15,0) 0 n true]⟩)),
   (15,.one (some ⟨22,false,1,n,fun i=>[if i<k then yu (ykp g i)else .a (.slice none 0 0)]⟩))]⟩) (fun k=>k<=n) (fun k=>n-k) 0 (zK _) ?_ ?_
 .refine yh [] [] [] ?_;simp only[yx,ybc,yu,hn,allQ,live,yc,ybb,zH,go_sem,zA,↓reduceIte,reduceCtorEq];refine⟨fun i _=>by simp,fun i _=>?_⟩
  rw[if_neg (by omega)]
  simp only[yc,go_sem]
 .intro k hk;simp only[ycmu,yctx,ycll,ycnm,yx,ybc,yu,splice,hn,go_sem,zA,zB,zC,↓reduceIte,reduceCtorEq];refine⟨fun hlt=>⟨by omega,by omega,by decide,?_⟩,fun hlt=>?_⟩
  .have hk':k<n:=by omega
   obtain⟨ls,hls⟩:∃ls,g.ports.getD k []=ls:=⟨_,rfl⟩;have hdeg:=hg.deg_lt (v:=k);rw[hls]at hdeg;rw[hls]
   have hback:∀j,j<ls.length->(ykp g k).getD j 0=yhh (g.ports.getD (ls.getD j (0,0)).1.toNat []) k:=fun j hj=>by
    unfold ykp;rw[hls];simp[zX,hj]
   have hbl:(ykp g k).length=ls.length:=by unfold ykp;rw[hls,zAN]
   refine ybk (σ:=Nat) (fun j=>⟨[(41,.i .i64 j),(39,ybc ls),(40,.i .i64 ls.length),(6,.i .i64 k),(21,.i .i64 k),(19,yx g.ports),(20,.i .i64 n),(3,.pt (3,0) 0 0),(5,.pt (17,0) 0 0)],
    [(3,.one (some ⟨27,true,2,1,fun _=>[yu g.ids,yx g.ports]⟩)),(17,.one (some ⟨170,true,7,1,fun _=>[.a (.string p.name),ydm p.vars,ydg p.rules,yu g.ids,yx g.ports,.i .i64 ((g.ids.take (k+1)).foldl max 0),.os (15,0) 0 n true]⟩)),
     (15,.one (some ⟨22,false,1,n,fun i=>[if i<k then yu (ykp g i)else if i=k then .os (100,0) 0 j true else .a (.slice none 0 0)]⟩)),
     (100,.one (some ⟨3,false,1,j,fun q=>[.i .i64 ((ykp g k).getD q 0)]⟩))]⟩) (fun j=>j<=ls.length) (fun j=>ls.length-j) 0 (zK _) ?_ ?_
   .refine yh [] [100] [] ?_;simp only[yx,ybc,yu,hn,ybpv (show k<g.ids.length by omega),allQ,live,yc,zH,go_sem,zA,zBB,↓reduceIte,reduceCtorEq]
    intro i hi
    by_cases q1:i<k
    .simp only[if_pos q1];simp only[yc,go_sem,reduceCtorEq]
    .by_cases q2:i=k
     .simp only[if_neg q1,if_pos q2];simp only[live,go_sem,zA,↓reduceIte];simp
     .simp only[if_neg q1,if_neg q2];simp only[yc,go_sem,reduceCtorEq]
   .intro j hj;simp only[ycrm,ycrh,ycls,ybud,ycaf,yx,ybc,yu,splice,hn,go_sem,zA,zB,zC,zF,↓reduceIte,reduceCtorEq]
    have hP:=fun hlt:j<ls.length=>ybof g (ls.getD j (0,0)).1.toNat (by
     have:=hg.ycm (v:=k) (p:=j) (by omega) (by rw[hls];omega)
     unfold ycm at this;rw[hls]at this;omega) (k:Int) (by have:=hg.deg_lt (v:=(ls.getD j (0,0)).1.toNat);omega)
    have hto:j<ls.length->((ls.getD j (0,0)).1.toNat:Int)=(ls.getD j (0,0)).1:=fun hlt=>by
     have:=hg.ycm (v:=k) (p:=j) (by omega) (by rw[hls];omega)
     unfold ycm at this;rw[hls]at this;omega
    refine⟨fun hlt=>⟨by omega,by omega,by omega,?_⟩,fun hlt=>?_⟩
    .have hj':j<ls.length:=by omega
     have hP:=hP hj';rw[hto hj']at hP;simp only[grV,yx,ybc,yu,hn]at hP;refine hP.use ?_;simp only[ybg,splice,go_sem,zA,zB,zC,zF,↓reduceIte,reduceCtorEq];refine⟨by decide,by omega,by decide,by omega,by omega,by decide,ikw (by omega) (by omega),?_⟩
     refine yj (j+1) (by omega) (by omega) ?_
     refine yh [(100,fun _=>(63,0))] [] [] ?_;simp only[allQ,live,yc,ybb,go_sem,zA,↓reduceIte,reduceCtorEq];refine⟨by omega,fun i hi=>?_,fun i hi=>?_⟩
     .by_cases q2:i=k
      .simp only[if_pos q2,if_neg (show ¬i<k by omega)]
       simp only[live,yc,go_sem,zA,↓reduceIte,reduceCtorEq]
      .simp only[if_neg q2]
       by_cases q1:i<k
       .simp only[if_pos q1];simp only[live,yc,go_sem,reduceCtorEq]
       .simp only[if_neg q1];simp only[live,yc,go_sem,reduceCtorEq]
     .by_cases q2:i<j
      .simp only[if_pos q2];simp only[live,yc,go_sem,reduceCtorEq]
      .obtain rfl:i=j:=by omega
       simp only[if_neg q2,Nat.sub_self,Nat.zero_mul];simp only[live,ybb,go_sem,reduceCtorEq];rw[hback i hj']
    .obtain rfl:j=ls.length:=by omega
     refine⟨ikw (by omega) (by omega),?_⟩
     refine yj (k+1) (by omega) (by omega) ?_
     refine yh [] [] [(100,0)] ?_;simp only[allQ,live,yc,ybb,go_sem,zA,zC,↓reduceIte,reduceCtorEq];refine⟨by omega,fun i hi=>?_⟩
     by_cases q1:i<k
     .simp only[if_pos q1,if_pos (show i<k+1 by omega)]
      simp only[yc,go_sem]
     .by_cases q2:i=k
      .simp only[if_neg q1,if_pos q2,if_pos (show i<k+1 by omega)]
       subst q2;simp only[hbl,yc,go_sem,zA,↓reduceIte]
      .simp only[if_neg q1,if_neg q2,if_neg (show ¬i<k+1 by omega)]
       simp only[yc,go_sem]
  .obtain rfl:k=n:=by omega
   simp only[ybrq,go_sem,zA,zB,zC,↓reduceIte,reduceCtorEq];refine⟨fun q hq=>by simp only[if_pos hq];simp only[go_sem],?_⟩
   refine ydmb ?_ (by simp only[yfs,go_sem])
   simp only[SimL,yfs,yu,yx,ybc,ydy,hn,yc,true_and,and_true];refine⟨?_,?_⟩
   .rw[ybb];refine⟨rfl,?_⟩;unfold ybfv;rw[zS (by omega)]
   .refine yiv fun q hq=>?_;simp only[if_pos hq];simp only[SimL,yc,go_sem]
end Sh
end
section
def ymk(f:Nat->Bool):Nat->Nat
 |0=>0
 |n+1=>if f n then ymk f n|||2^n else ymk f n
theorem yok(f:Nat->Bool):∀(n i:Nat),(ymk f n).testBit i=(decide (i<n)&&f i)
 |0,i=>by simp[ymk]
 | n + 1,i=>by
   unfold ymk;have ih:=yok f n i
   by_cases h:f n=true
   .rw[if_pos h,Nat.testBit_or,ih,Nat.testBit_two_pow]
    by_cases e:n=i
    .subst e;simp[h]
    .have:(i<n+1)=(i<n):=propext (by omega)
     simp[e,this]
   .rw[if_neg h,ih]
    by_cases e:n=i
    .subst e;simp[h]
    .have:(i<n+1)=(i<n):=propext (by omega)
     simp[this]
theorem yblb(f:Nat->Bool)(n:Nat):ymk f n<2^n:=by
 refine zAT _ fun i hi=>?_;rw[yok];simp;omega
def difB(a b:Nat):Nat:=a ^^^ (a&&&b)
theorem ygm(a b i:Nat):(difB a b).testBit i=(a.testBit i && !(b.testBit i)):=by
 unfold difB;rw[Nat.testBit_xor,zAE];cases a.testBit i<;>cases b.testBit i<;>rfl
theorem ycb(a:Nat):a=0↔∀i,a.testBit i=false:=by
 constructor
 .rintro rfl i;simp
 .intro h;exact zAZ fun i=>by rw[h i];simp
theorem ydko{a b n:Nat}(h:a<2^n):a&&&b<2^n:=by
 have:=zBI (n:=a) (m:=b);omega
theorem ybau{a b n:Nat}(h:a<2^n):difB a b<2^n:=by
 refine zAT _ fun i hi=>?_;rw[ygm,zT (zU h (zO (by omega) hi))]
 rfl
structure Cnt where
 steps:Nat
 moves:Nat
 rounds:Nat
 begun:Nat
 pend:Nat
def yfp(s:Nat):Nat->Nat
 |0=>0
 |n+1=>yfp s n+(s.testBit n).toNat
def popP(s:Nat):Nat:=yfp s 32
def ydt(e:Nat):Cnt:=⟨0,0,0,0,e⟩
def addP(k:Cnt)(chosen after:Nat):Cnt :=
 let p:=difB k.pend chosen&&&after
 ⟨k.steps+1,k.moves+popP chosen,if p=0 then k.rounds+1 else k.rounds,k.rounds+1,if p=0 then after else p⟩
def Cnt.ok(k:Cnt):Prop:=k.rounds<=k.begun/\k.begun<=k.rounds+1/\k.begun<=k.steps/\k.steps<=k.moves/\k.moves<=24*k.steps/\k.pend<2^24
theorem ylg(s:Nat):∀n,yfp s n<=n
 |0=>zZ _
 | n+1=>by
   have:=ylg s n;unfold yfp;cases s.testBit n<;>simp[Bool.toNat]<;>omega
theorem yyg(s:Nat)(h:s<2^24):∀k,yfp s (24+k)=yfp s 24
 |0=>rfl
 | k+1=>by
   have e:s.testBit (24+k)=false:=zT (zU h (zO (by omega) (by omega)))
   show yfp s (24+k)+(s.testBit (24+k)).toNat=_;rw[yyg s h k,e];rfl
theorem yccj(s:Nat)(h:s<2^24):popP s<=24:=by
 have:=yyg s h 8;unfold popP;rw[this];exact ylg s 24
theorem ybcq{s i:Nat}(hs:s.testBit i=true):∀n,i<n->1<=yfp s n
 |0,h=>by omega
 | n+1,h=>by
   unfold yfp
   by_cases e:i=n
   .subst e;rw[hs];simp
   .have:=ybcq hs n (by omega);omega
theorem ychv(s:Nat)(h:s<2^32)(h0:s≠0):1<=popP s:=by
 refine zAD fun hc=>h0 ?_;rw[ycb];intro i;cases hb:s.testBit i with
 |false=>rfl
 | true =>
   exfalso
   have hi:i<32:=by
    refine zAD fun hi=>?_;rw[zT (zU h (zO (by omega) (by omega)))]at hb
    cases hb
   exact hc (ybcq hb 32 hi)
theorem ybxt{e:Nat}(h:e<2^24):(ydt e).ok:=⟨zZ _,by simp[ydt],zZ _,zZ _,by simp[ydt],h⟩
theorem yddm{k:Cnt}{s e:Nat}(hk:k.ok)(hs:s<2^24)(h0:s≠0)(he:e<2^24):(addP k s e).ok:=by
 obtain⟨h1,h2,h3,h4,h5,h6⟩:=hk;have p1:=yccj s hs;have p2:=ychv s (by omega) h0
 have hp:difB k.pend s&&&e<2^24:=ydko (ybau h6);unfold addP Cnt.ok;simp only;refine⟨by split<;>omega,by split<;>omega,by omega,by omega,by omega,by split<;>omega⟩
structure Sys where
 n:Nat
 en:Conf->Nat
 mv:Conf->Nat->Conf
def Sys.run(S:Sys)(res:Nat->Nat->Nat):List Nat->Conf->Cnt->List (Conf×Cnt)
 |[],_,_=>[]
 | w::ws,c,k=>if S.en c=0 then[]else(let s:=res (S.en c) w
   let d:=S.mv c s
   (d,addP k s (S.en d))::S.run res ws d (addP k s (S.en d)))
def Sys.runs(S:Sys)(res:Nat->Nat->Nat)(ws:List Nat)(c:Conf):List (Conf×Cnt):=(c,ydt (S.en c))::S.run res ws c (ydt (S.en c))
def subB(a b:Nat):Prop:=∀i,a.testBit i=true->b.testBit i=true
def ychc(res:Nat->Nat->Nat):Prop:=∀e w,e≠0->res e w≠0/\subB (res e w) e
theorem Sys.run_all{S:Sys}{res:Nat->Nat->Nat}(hr:ychc res){J:Conf->Cnt->Prop}(hstep:∀c k s,J c k->s≠0->subB s (S.en c)->J (S.mv c s) (addP k s (S.en (S.mv c s)))) :
 ∀(ws:List Nat) (c:Conf) (k:Cnt),J c k->∀p∈S.run res ws c k,J p.1 p.2
 |[],_,_,_,p,hp=>by cases hp
 | w :: ws,c,k,hJ,p,hp=>by
   unfold Sys.run at hp;split at hp
   .cases hp
   .rename_i h0
    obtain⟨r1,r2⟩:=hr _ w h0;have hJ':=hstep c k _ hJ r1 r2;rcases List.mem_cons.1 hp with e|e
    .rw[e];exact hJ'
    .exact Sys.run_all hr hstep ws _ _ hJ' p e
theorem Sys.runs_all{S:Sys}{res:Nat->Nat->Nat}(hr:ychc res){J:Conf->Cnt->Prop}(hstep:∀c k s,J c k->s≠0->subB s (S.en c)->J (S.mv c s) (addP k s (S.en (S.mv c s)))){ws:List Nat}{c:Conf}(h:J c (ydt (S.en c))):∀p∈S.runs res ws c,J p.1 p.2:=fun p hp=>by
 rcases List.mem_cons.1 hp with e|e
 .rw[e];exact h
 .exact Sys.run_all hr hstep ws _ _ h p e
structure ByRounds(S:Sys)(V:Conf->Prop)(P:Nat->Nat->List Int->Prop):Prop where
 valid:∀c s,V c->s≠0->subB s (S.en c)->V (S.mv c s)
 stay:∀c s v,V c->v<S.n->s.testBit v=false->(S.mv c s).getD v []=c.getD v []
 move:∀c s v r,V c->v<S.n->s.testBit v=true->subB s (S.en c)->(∀u,u<S.n->P r u (c.getD u []))->P (r+1) v ((S.mv c s).getD v [])
 rest:∀c v r,V c->v<S.n->(S.en c).testBit v=false->(∀u,u<S.n->P r u (c.getD u []))->P (r+1) v (c.getD v [])
 less:∀r v s,P (r+1) v s->P r v s
structure RInv(S:Sys)(V:Conf->Prop)(P:Nat->Nat->List Int->Prop)(c:Conf)(k:Cnt):Prop where
 valid:V c
 all:∀v,v<S.n->P k.rounds v (c.getD v [])
 done:∀v,v<S.n->k.pend.testBit v=false->P (k.rounds+1) v (c.getD v [])
 begun:k.begun<=k.rounds+1
theorem ByRounds.start{S:Sys}{V:Conf->Prop}{P:Nat->Nat->List Int->Prop}(h:ByRounds S V P){c:Conf}(hv:V c)(h0:∀v,v<S.n->P 0 v (c.getD v [])):RInv S V P c (ydt (S.en c)) :=
 ⟨hv,h0,fun v hn hb=>h.rest c v 0 hv hn hb h0,by simp[ydt]⟩
theorem ByRounds.step{S:Sys}{V:Conf->Prop}{P:Nat->Nat->List Int->Prop}(h:ByRounds S V P)(c:Conf)(k:Cnt)(s:Nat)(hi:RInv S V P c k)(h0:s≠0)(hs:subB s (S.en c)):RInv S V P (S.mv c s) (addP k s (S.en (S.mv c s))):=by
 obtain⟨i1,i2,i3,i4⟩:=hi;have hv:=h.valid c s i1 h0 hs
 have hall:∀v,v<S.n->P k.rounds v ((S.mv c s).getD v []):=fun v hn=>by
  cases hb:s.testBit v with
  |true=>exact h.less _ _ _ (h.move c s v _ i1 hn hb hs i2)
  |false=>rw[h.stay c s v i1 hn hb];exact i2 v hn
 have hnext:∀v,v<S.n->(difB k.pend s&&&S.en (S.mv c s)).testBit v=false->P (k.rounds+1) v ((S.mv c s).getD v []):=fun v hn hb=>by
  rw[zAE,ygm]at hb;cases hb1:s.testBit v with
  |true=>exact h.move c s v _ i1 hn hb1 hs i2
  | false =>
    cases hb2:k.pend.testBit v with
    |false=>rw[h.stay c s v i1 hn hb1];exact i3 v hn hb2
    | true =>
      rw[hb1,hb2]at hb;exact h.rest _ v _ hv hn (by simpa using hb) hall
 unfold addP;simp only
 by_cases hp:difB k.pend s&&&S.en (S.mv c s)=0
 .simp only[if_pos hp];have hall':∀v,v<S.n->P (k.rounds+1) v ((S.mv c s).getD v []):=fun v hn=>hnext v hn (by rw[hp];simp)
  exact⟨hv,hall',fun v hn hb=>h.rest _ v _ hv hn hb hall',by show k.rounds+1<=_;simp⟩
 .simp only[if_neg hp];exact⟨hv,hall,hnext,zZ _⟩
theorem ByRounds.runs{S:Sys}{V:Conf->Prop}{P:Nat->Nat->List Int->Prop}(h:ByRounds S V P){res:Nat->Nat->Nat}(hr:ychc res){ws:List Nat}{c:Conf}(hv:V c)(h0:∀v,v<S.n->P 0 v (c.getD v [])):∀p∈S.runs res ws c,RInv S V P p.1 p.2 :=
 Sys.runs_all hr h.step (h.start hv h0)
end
section
structure RuleT where
 name:ByteArray
 guard:Ex
 sets:List (Int×Ex)
structure ProgT where
 name:ByteArray
 vars:List VarR
 rules:List RuleT
instance:Inhabited Ex:=⟨.leaf 0 0⟩
instance:Inhabited RuleT:=⟨⟨.empty,default,[]⟩⟩
def RuleT.raw(r:RuleT):RuleR:=⟨r.name,r.guard.ser,r.sets.map fun s=>⟨s.1,s.2.ser⟩⟩
def ProgT.raw(p:ProgT):ProgR:=⟨p.name,p.vars,p.rules.map RuleT.raw⟩
def RuleT.ok(nv:Nat)(r:RuleT):Bool:=r.guard.ok nv false&&decide (r.guard.ser.length<=1000)&&decide (r.sets.length<=100)&&r.sets.all fun s=>decide (0<=s.1/\s.1<nv)&&s.2.ok nv false&&decide (s.2.ser.length<=1000)
def VarR.ok(x:VarR):Bool:=decide (x.kind=1\/x.kind=2\/x.kind=3)&&decide (0<=x.lo/\x.lo<=4096)&&decide (-4096<=x.hi/\x.hi<=4096)&&decide (0<=x.perNode/\x.perNode<=255)&&decide (0<=x.perID/\x.perID<=255)
def ProgT.ok(p:ProgT):Bool:=decide (1<=p.vars.length/\p.vars.length<=6)&&p.vars.all VarR.ok&&decide (p.rules.length<=12)&&p.rules.all (RuleT.ok p.vars.length)
def yjp(g:Gr)(c:Conf)(v:Nat)(r:RuleT):Bool:=yda g c v r.guard (-1)!=0
def yho(p:ProgT)(g:Gr)(c:Conf)(v:Nat):Int:=match p.rules.findIdx? (yjp g c v)with|some i=>i|none=>-1
def ybi(g:Gr)(v:Nat)(x:VarR):Int×Int :=
 if x.kind=1 then(x.lo,x.hi+x.perNode*(g.ids.length:Int)+x.perID*maxI g.ids)else if x.kind=2 then(0,1)else if x.kind=3 then(-1,((g.ports.getD v []).length:Int)-1)else(0,-1)
def yfw(kind:Int)(b:Int×Int)(x:Int):Int:=if x>=b.1/\x<=b.2 then x else if kind=3 then -1 else if x<b.1 then b.1 else b.2
def ype(p:ProgT)(g:Gr)(c:Conf)(v:Nat)(s0:List Int)(sets:List (Int×Ex)):List Int :=
 sets.foldl (fun s a=>s.set a.1.toNat (yfw (p.vars.getD a.1.toNat default).kind (ybi g v (p.vars.getD a.1.toNat default)) (yda g c v a.2 (-1)))) s0
def ybbo(p:ProgT)(g:Gr)(c:Conf)(v:Nat)(r:Nat):List Int:=ype p g c v (c.getD v []) (p.rules.getD r default).sets
def ybn(p:ProgT)(g:Gr)(c:Conf):Nat:=ymk (fun v=>decide (yho p g c v>=0)) g.ids.length
def yfb(p:ProgT)(g:Gr)(c:Conf)(s:Nat):Conf:=c.zipIdx.map fun q=>if s.testBit q.2 then ybbo p g c q.2 (yho p g c q.2).toNat else q.1
def ybr(p:ProgT)(g:Gr):Sys:=⟨g.ids.length,ybn p g,yfb p g⟩
def ydz(p:ProgT)(g:Gr)(c:Conf):Bool:=yqi g.ids.length (fun v=>p.vars.map (ybi g v)) c
end
section
namespace Sh
open Go Ev
theorem ydit{g:Gr}(hg:ybe g):0<=maxI g.ids/\maxI g.ids<=255:=by
 have h1:=hg.1;have h2:=hg.2.2.1;rw[ybjw (by omega) fun x hx=>(hg.2.2.2.1 x hx).1]
 exact yvg hg
theorem ybgi{x:VarR}(h:x.ok=true):(x.kind=1\/x.kind=2\/x.kind=3)/\(0<=x.lo/\x.lo<=4096)/\(-4096<=x.hi/\x.hi<=4096)/\(0<=x.perNode/\x.perNode<=255)/\(0<=x.perID/\x.perID<=255):=by
 unfold VarR.ok at h;simp only[zD,decide_eq_true_eq]at h;obtain⟨⟨⟨⟨a,b⟩,c⟩,d⟩,e⟩:=h;exact⟨a,b,c,d,e⟩
theorem mulN{a b A B:Int}(h1:0<=a)(h2:a<=A)(h3:0<=b)(h4:b<=B):0<=a*b/\a*b<=A*B:=⟨Int.mul_nonneg h1 h3,Int.mul_le_mul h2 h4 h3 (by omega)⟩
theorem yod{g:Gr}(hg:ybe g){x:VarR}(hx:x.ok=true):(0<=x.perNode*(g.ids.length:Int)/\x.perNode*(g.ids.length:Int)<=255*24)/\(0<=x.perID*maxI g.ids/\x.perID*maxI g.ids<=255*255):=by
 obtain⟨_,_,_,h4,h5⟩:=ybgi hx;have h6:=ydit hg;have h7:=hg.2.1;have h8:=hg.2.2.1;exact⟨mulN h4.1 h4.2 (by omega) (by omega),mulN h5.1 h5.2 h6.1 h6.2⟩
theorem ybfz{g:Gr}(hg:ybe g){x:VarR}(hx:x.ok=true)(v:Int):Returns zG 198 [.ag (varC x),grV g,.i .i64 v] (.tp [.i .i64 x.lo,.i .i64 (x.hi+x.perNode*(g.ids.length:Int)+x.perID*maxI g.ids)]):=by
 refine Returns.of (ydch _ _ ?_);have h1:=hg.1;have h7:=hg.2.1;have h8:=hg.2.2.1;have hM:=ydbm g.ids (by omega) (by omega)
 obtain⟨hb1,hb2⟩:=yod hg hx;obtain⟨_,_,hv3,_,_⟩:=ybgi hx;simp only[yu]at hM;simp only[c198,ycxt,ycty,grV,varC,yu,go_sem,zA,zB,zC,zF,↓reduceIte,reduceCtorEq];refine⟨ikw (by omega) (by omega),ikw (by omega) (by omega),hM.use ?_⟩
 simp only[ybg,go_sem,zA,zB,↓reduceIte,reduceCtorEq];refine⟨ikw (by omega) (by omega),ikw (by omega) (by omega),?_⟩
 exact Sim.refl _
theorem ybiw(g:Gr)(x:VarR)(v:Int):Returns zG 199 [.ag (varC x),grV g,.i .i64 v] (.tp [.i .i64 0,.i .i64 1]):=by
 refine Returns.of (ydfy _ _ ?_);simp only[c199,ycsz,ycxl,grV,varC,go_sem,zA,zB,zF,↓reduceIte,reduceCtorEq];exact Sim.refl _
theorem ybfo{g:Gr}(hg:ybe g)(x:VarR){v:Nat}(hv:v<g.ports.length):Returns zG 200 [.ag (varC x),grV g,.i .i64 v] (.tp [.i .i64 (-1),.i .i64 (((g.ports.getD v []).length:Int)-1)]):=by
 refine Returns.of (ydht _ _ ?_);have hd:=hg.deg_lt (v:=v);simp only[c200,yckl,ycny,grV,yx,ybc,varC,go_sem,zA,zB,zF,↓reduceIte,reduceCtorEq];refine⟨by omega,ikw (by omega) (by omega),?_⟩
 exact Sim.refl _
theorem ybvc(kind:Int)(b:Int×Int)(x:Int):Returns zG 194 [.i .i64 kind,.ag [.i .i64 b.1,.i .i64 b.2],.i .i64 x] (.i .i64 (yfw kind b x)):=by
 refine Returns.of (ydgv _ _ ?_);simp only[c194,ycke,yclf,ycxv,ycjh,ycns,ycsb,ydaa,ycni,ybb,yfw,go_sem,zAC,zA,zB,zC,zF,zBC,↓reduceIte,reduceCtorEq];refine⟨by omega,fun h1=>⟨by omega,fun h2=>by rw[if_pos ⟨h1,h2⟩],fun h2=>⟨fun h3=>by rw[if_neg (fun q=>h2 q.2),if_pos h3],fun h3=>⟨by omega,fun h4=>⟨by omega,by rw[if_neg (fun q=>h2 q.2),if_neg h3,if_pos h4]⟩,fun h4=>⟨by omega,by rw[if_neg (fun q=>h2 q.2),if_neg h3,if_neg h4]⟩⟩⟩⟩,fun h1=>⟨fun h3=>by rw[if_neg (fun q=>h1 q.1),if_pos h3],fun h3=>⟨by omega,fun h4=>⟨by omega,by rw[if_neg (fun q=>h1 q.1),if_neg h3,if_pos h4]⟩,fun h4=>⟨by omega,by rw[if_neg (fun q=>h1 q.1),if_neg h3,if_neg h4]⟩⟩⟩⟩
theorem yxa{g:Gr}(hg:ybe g){x:VarR}(hx:x.ok=true){v:Nat}(hv:v<g.ports.length):Returns zG 171 [.ag (varC x),grV g,.i .i64 v] (.tp [.i .i64 (ybi g v x).1,.i .i64 (ybi g v x).2]):=by
 refine Returns.of (ydeq _ _ ?_);have h1:=ybfz hg hx v;have h2:=ybiw g x v;have h3:=ybfo hg x hv;obtain⟨hk,_⟩:=ybgi hx;simp only[varC,grV]at h1 h2 h3;simp only[c171,ycpk,ycsn,ycjm,varC,grV,splice,go_sem,zA,zB,zC,zF,↓reduceIte,reduceCtorEq]
 refine ybk (σ:=Nat) (fun k=>⟨[(17,.i .i64 k),(15,.os (14,0) 0 3 true),(16,.i .i64 3),(2,.i .i64 v),(3,.pt (3,0) 0 0),(4,.pt (4,0) 0 0)],
  [(3,.one (some ⟨87,true,6,1,fun _=>varC x⟩)),(4,.one (some ⟨27,true,2,1,fun _=>[yu g.ids,yx g.ports]⟩)),
   (14,.one (some ⟨209,false,2,3,fun k=>if k=0 then[.i .i64 1,.fn 198 [] []]else if k=1 then[.i .i64 2,.fn 199 [] []]else[.i .i64 3,.fn 200 [] []]⟩))]⟩)
  (fun k=>k<=2/\(1<=k->x.kind≠1)/\(2<=k->x.kind≠2)) (fun k=>3-k) 0 ⟨by omega,by omega,by omega⟩ ?_ ?_
 .refine yh [] [] [] ?_;simp only[varC,allQ,live,yc,ybb,zH,go_sem,zA,↓reduceIte,reduceCtorEq];refine⟨rfl,fun i hi=>?_⟩;rcases(show i=0\/i=1\/i=2 by omega)with rfl|rfl|rfl
  .simp only[live,yc,go_sem,↓reduceIte,reduceCtorEq]
  .simp only[if_neg (show ¬(1:Nat)=0 by omega),live,yc,go_sem,↓reduceIte,reduceCtorEq]
  .simp only[if_neg (show ¬(2:Nat)=0 by omega),if_neg (show ¬(2:Nat)=1 by omega),live,yc,go_sem,zA,↓reduceIte,reduceCtorEq]
 .rintro k ⟨hk2,hk3,hk4⟩;rcases(show k=0\/k=1\/k=2 by omega)with rfl|rfl|rfl
  .simp only[yblc,ybku,ybmn,yblo,ybkm,ybkf,varC,splice,go_sem,zA,zB,zC,zF,↓reduceIte,reduceCtorEq];refine⟨fun _=>⟨by omega,fun he=>h1.use ?_,fun he=>⟨ikw (by omega) (by omega),?_⟩⟩,fun h=>by omega⟩
   .simp only[ybg,go_sem,zA,zB,↓reduceIte,reduceCtorEq];have e:ybi g v x=(x.lo,x.hi+x.perNode*(g.ids.length:Int)+x.perID*maxI g.ids):=by unfold ybi;rw[if_pos he.symm]
    rw[e];exact Sim.refl _
   .refine yj 1 ⟨by omega,fun _ q=>he q.symm,by omega⟩ (by omega) ?_
    refine yh [] [] [] ?_;simp only[allQ,live,yc,ybb,zH,go_sem,zA,↓reduceIte,reduceCtorEq];refine⟨by omega,fun i hi=>?_⟩
    rcases(show i=0\/i=1\/i=2 by omega)with rfl|rfl|rfl
    .simp only[live,yc,go_sem,↓reduceIte,reduceCtorEq]
    .simp only[if_neg (show ¬(1:Nat)=0 by omega),live,yc,go_sem,↓reduceIte,reduceCtorEq]
    .simp only[if_neg (show ¬(2:Nat)=0 by omega),if_neg (show ¬(2:Nat)=1 by omega),live,yc,go_sem,zA,↓reduceIte,reduceCtorEq]
  .simp only[yblc,ybku,ybmn,yblo,ybkm,ybkf,varC,splice,go_sem,zA,zB,zC,zF,↓reduceIte,reduceCtorEq];refine⟨fun _=>⟨by omega,fun he=>h2.use ?_,fun he=>⟨ikw (by omega) (by omega),?_⟩⟩,fun h=>by omega⟩
   .simp only[ybg,go_sem,zA,zB,↓reduceIte,reduceCtorEq];have e:ybi g v x=(0,1):=by unfold ybi;rw[if_neg (by omega),if_pos he.symm]
    rw[e];exact Sim.refl _
   .refine yj 2 ⟨by omega,fun _=>by omega,fun _ q=>he q.symm⟩ (by omega) ?_
    refine yh [] [] [] ?_;simp only[allQ,live,yc,ybb,go_sem,zA,↓reduceIte,reduceCtorEq];refine⟨by omega,fun i hi=>?_⟩
    rcases(show i=0\/i=1\/i=2 by omega)with rfl|rfl|rfl
    .simp only[live,yc,go_sem,↓reduceIte,reduceCtorEq]
    .simp only[if_neg (show ¬(1:Nat)=0 by omega),live,yc,go_sem,↓reduceIte,reduceCtorEq]
    .simp only[if_neg (show ¬(2:Nat)=0 by omega),if_neg (show ¬(2:Nat)=1 by omega),live,yc,go_sem,zA,↓reduceIte,reduceCtorEq]
  .simp only[yblc,ybku,ybmn,yblo,ybkm,ybkf,varC,splice,go_sem,zA,zB,zC,zF,↓reduceIte,reduceCtorEq];refine⟨fun _=>⟨by omega,fun he=>h3.use ?_,fun he=>by omega⟩,fun h=>by omega⟩
   simp only[ybg,go_sem,zA,zB,↓reduceIte,reduceCtorEq];have e:ybi g v x=(-1,((g.ports.getD v []).length:Int)-1):=by unfold ybi;rw[if_neg (by omega),if_neg (by omega),if_pos he.symm]
   rw[e];exact Sim.refl _
def yjs(n:Nat)(vars:List VarR)(b:Nat->VarR->Int×Int):SV:=.sl 1 n (fun v=>[.sl 2 vars.length (fun i=>[.i .i64 (b v (vars.getD i default)).1,.i .i64 (b v (vars.getD i default)).2])])
def rowT(vars:List VarR)(b:VarR->Int×Int):SV:=.sl 2 vars.length (fun i=>[.i .i64 (b (vars.getD i default)).1,.i .i64 (b (vars.getD i default)).2])
theorem yber(p:ProgR){g:Gr}(hg:ybe g)(hp:p.vars.all VarR.ok=true)(hl:p.vars.length<=6):Returns zG 144 [.ag (yna p),grV g] (yjs g.ids.length p.vars (ybi g)):=by
 refine Returns.of (ydfb _ _ ?_);have h24:=hg.2.1;have hid:=hg.2.2.1;obtain⟨n,hn⟩:∃n,g.ids.length=n:=⟨_,rfl⟩;obtain⟨nv,hnv⟩:∃k,p.vars.length=k:=⟨_,rfl⟩;rw[hn];rw[hnv]at hl;simp only[c144,yclc,yczb,ycpb,grV,yu,yna,hn,go_sem,zA,zB,zC,zF,↓reduceIte,reduceCtorEq];refine⟨by omega,?_⟩
 refine ybk (σ:=Nat) (fun k=>⟨[(15,.i .i64 k),(14,.i .i64 n),(5,.os (12,0) 0 n true),(2,.pt (2,0) 0 0),(3,.pt (3,0) 0 0)],
  [(2,.one (some ⟨58,true,3,1,fun _=>yna p⟩)),(3,.one (some ⟨27,true,2,1,fun _=>[yu g.ids,yx g.ports]⟩)),
   (12,.one (some ⟨73,false,1,n,fun i=>[if i<k then rowT p.vars (ybi g i)else .a (.slice none 0 0)]⟩))]⟩) (fun k=>k<=n) (fun k=>n-k) 0 (zK _) ?_ ?_
 .refine yh [] [] [] ?_;simp only[yna,yu,hn,allQ,live,yc,zH,go_sem,zA,↓reduceIte,reduceCtorEq];intro i _;rw[if_neg (by omega)]
  simp only[yc,go_sem]
 .intro k hk;simp only[ycnt,ycyp,ycyf,yckc,yna,ydm,splice,hnv,go_sem,zA,zB,zC,zF,↓reduceIte,reduceCtorEq];refine⟨fun hlt=>⟨by omega,by omega,by omega,?_⟩,fun hlt=>?_⟩
  .have hk':k<n:=by omega
   let b:Nat->Int×Int:=fun i=>ybi g k (p.vars.getD i default)
   refine ybk (σ:=Nat) (fun j=>⟨[(28,.i .i64 j),(26,ydm p.vars),(27,.i .i64 nv),(6,.i .i64 k),(15,.i .i64 k),(14,.i .i64 n),(5,.os (12,0) 0 n true),(2,.pt (2,0) 0 0),(3,.pt (3,0) 0 0)],
    [(2,.one (some ⟨58,true,3,1,fun _=>yna p⟩)),(3,.one (some ⟨27,true,2,1,fun _=>[yu g.ids,yx g.ports]⟩)),
     (12,.one (some ⟨73,false,1,n,fun i=>[if i<k then rowT p.vars (ybi g i)else if i=k then .os (23,0) 0 nv true else .a (.slice none 0 0)]⟩)),
     (23,.one (some ⟨75,false,2,nv,fun i=>[.i .i64 (if i<j then(b i).1 else 0),.i .i64 (if i<j then(b i).2 else 0)]⟩))]⟩) (fun j=>j<=nv) (fun j=>nv-j) 0 (zK _) ?_ ?_
   .refine yh [] [] [] ?_;simp only[yna,ydm,hnv,allQ,live,yc,ybb,zH,go_sem,zA,↓reduceIte,reduceCtorEq];refine⟨fun i hi=>?_,fun i hi=>?_⟩
    .by_cases q2:i=k
     .simp only[if_pos q2,if_neg (show ¬i<k by omega)]
      simp only[live,yc,go_sem,zA,↓reduceIte,reduceCtorEq]
     .simp only[if_neg q2]
      by_cases q1:i<k
      .simp only[if_pos q1];simp only[rowT,live,yc,go_sem,reduceCtorEq]
      .simp only[if_neg q1];simp only[live,yc,go_sem,reduceCtorEq]
    .simp only[if_neg (zAB i),and_self]
   .intro j hj;simp only[ycso,ycvj,ycse,ybuv,ycaa,yna,ydm,varC,splice,hnv,go_sem,zA,zB,zF,↓reduceIte,reduceCtorEq];refine⟨fun hlt=>?_,fun hlt=>?_⟩
    .have hj':j<nv:=by omega
     have hB:=yxa hg (x:=p.vars.getD j default) (by
      rw[getD_at (by omega)]
      exact List.all_eq_true.1 hp _ (zL _)) (v:=k) (by omega)
     simp only[varC,grV]at hB;refine⟨by omega,by omega,by omega,by omega,by omega,hB.use ?_⟩
     simp only[ybg,splice,go_sem,zAC,zA,zB,zC,zBC,↓reduceIte,reduceCtorEq];refine⟨by omega,by omega,by omega,by decide,by omega,by omega,by omega,by decide,ikw (by omega) (by omega),?_⟩
     refine yj (j+1) (by omega) (by omega) ?_
     refine yh [] [] [] ?_;simp only[allQ,live,yc,ybb,go_sem,zA,↓reduceIte,reduceCtorEq];refine⟨by omega,fun i hi=>?_,fun i hi=>?_⟩
     .by_cases q1:i<k
      .simp only[if_pos q1];simp only[rowT,yc,go_sem]
      .simp only[if_neg q1]
       by_cases q2:i=k
       .simp only[if_pos q2];simp only[live,yc,go_sem,zA,↓reduceIte]
       .simp only[if_neg q2];simp only[yc,go_sem]
     .by_cases q2:i=j
      .subst q2;simp only[if_pos (zAK i),↓reduceIte];simp only[live,ybb,go_sem,reduceCtorEq];exact⟨rfl,rfl⟩
      .simp only[if_neg q2]
       by_cases q1:i<j
       .simp only[if_pos q1,if_pos (show i<j+1 by omega)]
        simp only[live,yc,go_sem,reduceCtorEq]
       .simp only[if_neg q1,if_neg (show ¬i<j+1 by omega)]
        simp only[live,yc,go_sem,reduceCtorEq]
    .obtain rfl:j=nv:=by omega
     refine⟨ikw (by omega) (by omega),?_⟩
     refine yj (k+1) (by omega) (by omega) ?_
     refine yh [] [] [(23,0)] ?_;simp only[allQ,live,yc,ybb,go_sem,zA,zC,↓reduceIte,reduceCtorEq];refine⟨by omega,fun i hi=>?_⟩
     by_cases q1:i<k
     .simp only[if_pos q1,if_pos (show i<k+1 by omega)]
      simp only[rowT,yc,go_sem]
     .by_cases q2:i=k
      .simp only[if_neg q1,if_pos q2,if_pos (show i<k+1 by omega)]
       subst q2;simp only[rowT,hnv,go_sem,zA,↓reduceIte];refine yiv fun q hq=>?_;simp only[if_pos hq];simp only[SimL,go_sem];exact⟨Sim.refl _,Sim.refl _⟩
      .simp only[if_neg q1,if_neg q2,if_neg (show ¬i<k+1 by omega)]
       simp only[yc,go_sem]
  .obtain rfl:k=n:=by omega
   simp only[ybsq,go_sem,zA,zB,↓reduceIte,reduceCtorEq];refine⟨fun q hq=>by simp only[if_pos hq];simp only[rowT,go_sem],?_⟩
   refine yiv fun q hq=>?_;simp only[if_pos hq];simp only[SimL,yc,rowT,hnv,go_sem]
end Sh
end
section
namespace Sh
open Go Ev
theorem ycab(bs:Bounds)(s:List Int)(hl:bs.length<=1000):Returns zG 192 [ybc bs,yu s] (.b (yvd bs s)):=by
 refine Returns.of (ydik _ _ ?_);simp only[c192,ycmd,ycjy,ycyj,ycsf,ybc,yu,yig,go_sem,zA,zB,↓reduceIte,reduceCtorEq];refine⟨fun h=>?_,fun h=>?_⟩
 .have:¬yvd bs s=true:=fun q=>h (by rw[((yfm bs s).1 q).1])
  simpa using this
 have hlen:s.length=bs.length:=by omega
 refine ybk (σ:=Nat) (fun k=>⟨[(14,.i .i64 k),(13,.i .i64 s.length),(12,yu s),(0,ybc bs)],[]⟩) (fun k=>k<=s.length/\∀i,i<k->(bs.getD i (0,0)).1<=s.getD i 0/\s.getD i 0<=(bs.getD i (0,0)).2) (fun k=>s.length-k) 0 ⟨zK _,fun i h=>absurd h (zAB _)⟩ ?_ ?_
 .refine yh [] [] [] ?_;simp only[ybc,yu,allQ,live,yc,zH,go_sem,zA,↓reduceIte,reduceCtorEq]
 .intro k ⟨hk,hall⟩;simp only[ycwm,ycth,ycxd,ycrr,ycvd,ycta,ybc,yu,yig,go_sem,zAC,zA,zB,zC,zBC,↓reduceIte,reduceCtorEq]
  have hno:k<s.length->¬((bs.getD k (0,0)).1<=s.getD k 0/\s.getD k 0<=(bs.getD k (0,0)).2)->yvd bs s=false:=fun hlt hn=>by
   have:¬yvd bs s=true:=fun q=>hn (by
    have hb:k<bs.length:=by omega
    have:=((yfm bs s).1 q).2 k bs[k] s[k] (zN hb) (zN hlt);rw[getD_at hlt,getD_at hb];exact this)
   simpa using this
  refine⟨fun hlt=>⟨by omega,by omega,by omega,fun h1=>⟨by omega,by omega,fun h2=>?_,fun h2=>⟨ikw (by omega) (by omega),?_⟩⟩,fun h1=>?_⟩,fun hlt=>?_⟩
  .rw[hno (by omega) (by omega)]
  .refine yj (k+1) ⟨by omega,fun i hi=>?_⟩ (by omega) ?_
   .by_cases q:i<k
    .exact hall i q
    .obtain rfl:i=k:=by omega
     omega
   .refine yh [] [] [] ?_;simp only[allQ,live,yc,ybb,go_sem,zA,↓reduceIte,reduceCtorEq];simp
  .rw[hno (by omega) (by omega)]
  .obtain rfl:k=s.length:=by omega
   rw[(yfm bs s).2 ⟨hlen,fun i b x hb hx=>by
    have h1:=(List.getElem?_eq_some_iff.1 hx).1;have:=hall i h1;simp only[zX,hb,hx,Option.getD_some]at this;exact this⟩]
theorem ybpe{n:Nat}(vars:List VarR)(hv:vars.length<=1000)(b:Nat->VarR->Int×Int)(c:Conf)(hn:n<=1000):Returns zG 156 [yjs n vars b,ybm c] (.b (yqi n (fun v=>vars.map (b v)) c)):=by
 refine Returns.of (ydhu _ _ ?_);simp only[c156,ycwf,ycyx,ycnd,yctw,yjs,ybm,yig,go_sem,zA,zB,↓reduceIte,reduceCtorEq];refine⟨fun h=>?_,fun h=>?_⟩
 .rw[yjc fun q=>h (by rw[q.1])]
 have hlen:c.length=n:=by omega
 refine ybk (σ:=Nat) (fun k=>⟨[(14,.i .i64 k),(13,.i .i64 n),(12,yjs n vars b),(1,ybm c)],[]⟩) (fun k=>k<=n/\∀(i:Nat) s,i<k->c[i]?=some s->yeq (vars.map (b i)) s) (fun k=>n-k) 0 ⟨zK _,fun i s h=>absurd h (zAB _)⟩ ?_ ?_
 .refine yh [] [] [] ?_;simp only[yjs,ybm,allQ,live,yc,zH,go_sem,zA,↓reduceIte,reduceCtorEq]
 .intro k ⟨hk,hall⟩;simp only[ycpq,ycqx,yctt,yczy,ycre,ycrb,yjs,ybm,yu,yig,go_sem,zA,zB,↓reduceIte,reduceCtorEq];refine⟨fun hlt=>⟨by omega,by omega,?_⟩,fun hlt=>?_⟩
  .have hS := ycab (vars.map (b k)) (c.getD k []) (by simpa using hv)
   refine hS.useS ⟨?_,Sim.refl _,trivial⟩ ?_
   .show Sim (.sl 2 vars.length _) (ybc (vars.map (b k)));unfold ybc;rw[zAN];refine ykn fun i hi=>?_;simp[zX,hi]
   .simp only[ybg,yig,go_sem,zA,zB,↓reduceIte,reduceCtorEq];have hk':k<c.length:=by omega
    rw[getD_at hk'];refine⟨fun h1=>?_,fun h1=>⟨ikw (by omega) (by omega),?_⟩⟩
    .rw[yjc fun q=>by
      have:=(yfm _ _).2 (q.2 k c[k] (zN hk'));rw[this]at h1;cases h1]
    .refine yj (k+1) ⟨by omega,fun i s hi hs=>?_⟩ (by omega) ?_
     .by_cases q:i<k
      .exact hall i s q hs
      .obtain rfl:i=k:=by omega
       rw[zN hk']at hs;cases hs
       exact(yfm _ _).1 h1
     .refine yh [] [] [] ?_;simp only[allQ,live,yc,ybb,go_sem,zA,↓reduceIte,reduceCtorEq];simp
  .obtain rfl:k=n:=by omega
   rw[yxb ⟨hlen,fun v s hs=>hall v s (by have:=(List.getElem?_eq_some_iff.1 hs).1;omega) hs⟩]
theorem ybas(c:Conf)(hc:∀s∈c,0<s.length/\s.length<=1000)(hl:c.length<=1000):Returns zG 132 [ybm c] (ybm c):=by
 refine Returns.of (ydfx _ _ ?_);obtain⟨n,hn⟩:∃n,c.length=n:=⟨_,rfl⟩;rw[hn]at hl;simp only[c132,ybtw,ybra,ybqy,ybm,hn,go_sem,zA,zB,zF,↓reduceIte,reduceCtorEq];refine⟨by omega,?_⟩
 refine ybk (σ:=Nat) (fun k=>⟨[(11,.i .i64 k),(10,.i .i64 n),(9,ybm c),(3,.os (8,0) 0 n true)],[(8,.one (some ⟨22,false,1,n,fun i=>[if i<k then yu (c.getD i [])else .a (.slice none 0 0)]⟩))]⟩) (fun k=>k<=n) (fun k=>n-k) 0 (zK _) ?_ ?_
 .refine yh [] [] [] ?_;simp only[ybm,hn,allQ,live,yc,zH,go_sem,zA,↓reduceIte,reduceCtorEq];intro i _;rw[if_neg (by omega)]
  simp only[yc,go_sem]
 .intro k hk
  have hrow:k<n->0<(c.getD k []).length/\(c.getD k []).length<=1000:=fun h=>by
   have:=hc (c.getD k []) (by rw[getD_at (show k<c.length by omega)];exact zL _)
   exact this
  by_cases hlt:k<n
  .have hr:=hrow (by omega)
   have hr0:¬(c.getD k []).length=0:=by omega
   have ht:decide ((k:Int)<(n:Int))=true:=decide_eq_true (by omega)
   simp only[ybcf,ybfe,ybby,ybfb,ybff,ybm,yu,splice,hn,hr0,ht,go_sem,zA,zB,zF,↓reduceIte,reduceCtorEq];refine⟨by omega,by omega,by omega,by omega,ikw (by omega) (by omega),?_⟩
   refine yj (k+1) (by omega) (by omega) ?_
   refine yh [] [] [(19,0)] ?_;simp only[allQ,live,yc,ybb,go_sem,zA,↓reduceIte,reduceCtorEq];refine⟨by omega,fun i hi=>?_⟩
   by_cases q2:i=k
   .subst q2;simp only[if_pos (zAK i),↓reduceIte];simp only[live,yc,go_sem,zA,↓reduceIte,reduceCtorEq]
   .simp only[if_neg q2]
    by_cases q1:i<k
    .simp only[if_pos q1,if_pos (show i<k+1 by omega)]
     simp only[live,yc,go_sem,reduceCtorEq]
    .simp only[if_neg q1,if_neg (show ¬i<k+1 by omega)]
     simp only[live,yc,go_sem,reduceCtorEq]
  .obtain rfl:k=n:=by omega
   have ht:decide ((k:Int)<(k:Int))=false:=decide_eq_false (by omega)
   simp only[ybcf,ybfe,ybby,ybfb,ybff,ybm,yu,hn,ht,go_sem,zA,zB,↓reduceIte,reduceCtorEq];refine⟨fun q hq=>by simp only[if_pos hq];simp only[go_sem],?_⟩
   refine yiv fun q hq=>?_;simp only[if_pos hq];simp only[SimL,yc,go_sem]
theorem ycht(c:Conf)(hc:∀s∈c,0<s.length/\s.length<=1000)(hl:c.length<=1000):Cm zG 132 [] [] [ybm c] fun r o=>r = .os (8,0) 0 c.length true/\o=[(8,.one (some ⟨22,false,1,c.length,fun i=>[yu (c.getD i [])]⟩))]:=by
 refine ychi [] [] _ _ _ ?_;obtain⟨n,hn⟩:∃n,c.length=n:=⟨_,rfl⟩;rw[hn]at hl ⊢;simp only[c132,ybtw,ybra,ybqy,ybm,hn,go_sem,zA,zB,zF,↓reduceIte,reduceCtorEq];refine⟨by omega,?_⟩
 refine ybk (σ:=Nat) (fun k=>⟨[(11,.i .i64 k),(10,.i .i64 n),(9,ybm c),(3,.os (8,0) 0 n true)],[(8,.one (some ⟨22,false,1,n,fun i=>[if i<k then yu (c.getD i [])else .a (.slice none 0 0)]⟩))]⟩) (fun k=>k<=n) (fun k=>n-k) 0 (zK _) ?_ ?_
 .refine yh [] [] [] ?_;simp only[ybm,hn,allQ,live,yc,zH,go_sem,zA,↓reduceIte,reduceCtorEq];intro i _;rw[if_neg (by omega)]
  simp only[yc,go_sem]
 .intro k hk
  have hrow:k<n->0<(c.getD k []).length/\(c.getD k []).length<=1000:=fun h=>by
   have:=hc (c.getD k []) (by rw[getD_at (show k<c.length by omega)];exact zL _)
   exact this
  by_cases hlt:k<n
  .have hr:=hrow (by omega)
   have hr0:¬(c.getD k []).length=0:=by omega
   have ht:decide ((k:Int)<(n:Int))=true:=decide_eq_true (by omega)
   simp only[ybcf,ybfe,ybby,ybfb,ybff,ybm,yu,splice,hn,hr0,ht,go_sem,zA,zB,zF,↓reduceIte,reduceCtorEq];refine⟨by omega,by omega,by omega,by omega,ikw (by omega) (by omega),?_⟩
   refine yj (k+1) (by omega) (by omega) ?_
   refine yh [] [] [(19,0)] ?_;simp only[allQ,live,yc,ybb,go_sem,zA,↓reduceIte,reduceCtorEq];refine⟨by omega,fun i hi=>?_⟩
   by_cases q2:i=k
   .subst q2;simp only[if_pos (zAK i),↓reduceIte];simp only[live,yc,go_sem,zA,↓reduceIte,reduceCtorEq]
   .simp only[if_neg q2]
    by_cases q1:i<k
    .simp only[if_pos q1,if_pos (show i<k+1 by omega)]
     simp only[live,yc,go_sem,reduceCtorEq]
    .simp only[if_neg q1,if_neg (show ¬i<k+1 by omega)]
     simp only[live,yc,go_sem,reduceCtorEq]
  .obtain rfl:k=n:=by omega
   have ht:decide ((k:Int)<(k:Int))=false:=decide_eq_false (by omega)
   simp only[ybcf,ybfe,ybby,ybfb,ybff,ybm,yu,hn,ht,yhn,go_sem,zA,zB,↓reduceIte,reduceCtorEq];refine⟨.os (8,0) 0 k true,[(8,.one (some ⟨22,false,1,k,fun i=>[yu (c.getD i [])]⟩))],?_,?_,rfl,rfl⟩
   .refine yh [] [] [] ?_;simp only[yu,allQ,live,yc,go_sem,↓reduceIte,reduceCtorEq];intro i hi;simp only[if_pos hi];simp only[yc,go_sem]
   .simp only[ycz,yge,allQ,live,go_sem,↓reduceIte]
end Sh
end
section
namespace Sh
open Go Ev
theorem yht(p:ProgR){g:Gr}(hg:ybe g){nv:Nat}{c:Conf}(hc:ConfIn g.ports.length nv c){v:Nat}(hv:v<g.ports.length)(e:List Tm)(hl:e.length<=1000):∀x:Ex,ybyf p g nv c v e x
 | .leaf op arg=>by
   intro bnd port at_ rest ho hp hpi he;obtain⟨d1,d2,d3⟩:=yfh (show e.drop at_=(op,arg)::rest from he)
   have hL:=ycgx p hg hc hv e ho port hp;have hr:=ho;simp only[Ex.ok,zD,decide_eq_true_eq]at hr;simp only[yjh,ybc]at hL;refine Returns.of (yvq _ _ ?_);simp only[c220,yyl,yyk,ywt,ywq,yxx,yym,yxk,yyj,yxh,yyb,yqc,yqk,yqh,yoy,ypp,yph,ypz,yqd,ypu,yjh,ybc,d2,splice,go_sem,zA,zB,zC,zF,↓reduceIte,reduceCtorEq];refine⟨by omega,fun h=>hL.use ?_,fun h=>by omega⟩
   simp only[ybg,go_sem,zA,zB,↓reduceIte,reduceCtorEq];refine⟨ikw (by omega) (by omega),?_⟩
   exact Sim.refl _
 | .un op a=>by
   intro bnd port at_ rest ho hp hpi he;obtain⟨d1,d2,d3⟩:=yfh (show e.drop at_=(op,0)::(a.ser++rest)from he)
   have hr:=ho;simp only[Ex.ok,zD,decide_eq_true_eq]at hr;have hV:=yht p hg hc hv e hl a bnd port (at_+1) rest hr.2 hp hpi d3;rw[show((at_+1:Nat):Int)=(at_:Int)+1 by omega]at hV
   have hU:=ybry op (yda g c v a port) (yhr hg rfl hc hv a hr.2 hp hpi);simp only[yjh,ybc]at hV;refine Returns.of (yvq _ _ ?_);simp only[c220,yyl,yyk,ywt,ywq,yxx,yym,yxk,yyj,yxh,yyb,yqc,yqk,yqh,yoy,ypp,yph,ypz,yqd,ypu,yjh,ybc,d2,splice,go_sem,zA,zB,zC,zF,↓reduceIte,reduceCtorEq];refine⟨by omega,fun h=>by omega,fun h=>⟨fun h=>⟨ikw (by omega) (by omega),hV.use ?_⟩,fun h=>by omega⟩⟩
   simp only[ybg,go_sem,zA,zB,zC,↓reduceIte,reduceCtorEq];refine hU.use ?_;simp only[go_sem];rw[show at_+(Ex.un op a).ser.length=at_+1+a.ser.length by simp[Ex.ser];omega]
   exact Sim.refl _
 | .agg op a=>by
   intro bnd port at_ rest ho hp hpi he;obtain⟨d1,d2,d3⟩:=yfh (show e.drop at_=(op,0)::(a.ser++rest)from he)
   have hr:=ho;simp only[Ex.ok,zD,decide_eq_true_eq]at hr;have ho2:(Ex.agg op a).ok nv true=true:=by simp only[Ex.ok,zD,decide_eq_true_eq];exact hr
   have hA:=yyu p hg hc hv e hl ho2 (yht p hg hc hv e hl a) at_ rest he;simp only[yjh,ybc]at hA;refine Returns.of (yvq _ _ ?_);simp only[c220,yyl,yyk,ywt,ywq,yxx,yym,yxk,yyj,yxh,yyb,yqc,yqk,yqh,yoy,ypp,yph,ypz,yqd,ypu,yjh,ybc,d2,splice,go_sem,zA,zB,zC,zF,↓reduceIte,reduceCtorEq];refine⟨by omega,fun h=>by omega,fun h=>⟨fun h=>by omega,fun h=>⟨fun h=>hA.use ?_,fun h=>by omega⟩⟩⟩
   simp only[ybg,go_sem,zA,zB,↓reduceIte,reduceCtorEq];exact Sim.refl _
 | .bin op a b=>by
   intro bnd port at_ rest ho hp hpi he;obtain⟨d1,d2,d3⟩:=yfh (show e.drop at_=(op,0)::((a.ser++b.ser)++rest)from he)
   have hr:=ho;simp only[Ex.ok,zD,decide_eq_true_eq]at hr;rw[zAQ]at d3
   have hfit:at_+1+a.ser.length<=e.length:=by
    have:=congrArg zAW d3;simp at this;omega
   have hV1:=yht p hg hc hv e hl a bnd port (at_+1) _ hr.1.2 hp hpi d3;have hV2:=yht p hg hc hv e hl b bnd port (at_+1+a.ser.length) _ hr.2 hp hpi (ysk d3);rw[show((at_+1:Nat):Int)=(at_:Int)+1 by omega]at hV1
   have hB:=ybpz op (yda g c v a port) (yda g c v b port) (yhr hg rfl hc hv a hr.1.2 hp hpi) (yhr hg rfl hc hv b hr.2 hp hpi);simp only[yjh,ybc]at hV1 hV2;refine Returns.of (yvq _ _ ?_);simp only[c220,yyl,yyk,ywt,ywq,yxx,yym,yxk,yyj,yxh,yyb,yqc,yqk,yqh,yoy,ypp,yph,ypz,yqd,ypu,yjh,ybc,d2,splice,go_sem,zA,zB,zC,zF,↓reduceIte,reduceCtorEq];refine⟨by omega,fun h=>by omega,fun h=>⟨fun h=>by omega,fun h=>⟨fun h=>by omega,fun h=>⟨fun h=>⟨ikw (by omega) (by omega),hV1.use ?_⟩,fun h=>by omega⟩⟩⟩⟩
   simp only[ybg,go_sem,zA,zB,↓reduceIte,reduceCtorEq];refine hV2.use ?_;simp only[go_sem,zA,zB,zC,↓reduceIte];refine hB.use ?_;simp only[go_sem];rw[show at_+(Ex.bin op a b).ser.length=at_+1+a.ser.length+b.ser.length by simp[Ex.ser];omega]
   exact Sim.refl _
 | .ite x a b=>by
   intro bnd port at_ rest ho hp hpi he;obtain⟨d1,d2,d3⟩:=yfh (show e.drop at_=(43,0)::((x.ser++(a.ser++b.ser))++rest)from he)
   have hr:=ho;simp only[Ex.ok,zD]at hr;rw[zAQ,zAQ]at d3
   have hfit:at_+1+x.ser.length+a.ser.length<=e.length:=by
    have:=congrArg zAW d3;simp at this;omega
   have hV1:=yht p hg hc hv e hl x bnd port (at_+1) _ hr.1.1 hp hpi d3;have hV2:=yht p hg hc hv e hl a bnd port (at_+1+x.ser.length) _ hr.1.2 hp hpi (ysk d3);have hV3:=yht p hg hc hv e hl b bnd port (at_+1+x.ser.length+a.ser.length) _ hr.2 hp hpi (ysk (ysk d3));rw[show((at_+1:Nat):Int)=(at_:Int)+1 by omega]at hV1
   simp only[yjh,ybc]at hV1 hV2 hV3;refine Returns.of (yvq _ _ ?_);simp only[c220,yyl,yyk,ywt,ywq,yxx,yym,yxk,yyj,yxh,yyb,yqc,yqk,yqh,yoy,ypp,yph,ypz,yqd,ypu,yjh,ybc,d2,splice,go_sem,zA,zB,zC,zF,↓reduceIte,reduceCtorEq];refine⟨by omega,fun h=>by omega,fun h=>⟨fun h=>by omega,fun h=>⟨fun h=>by omega,fun h=>⟨fun h=>by omega,fun h=>⟨ikw (by omega) (by omega),hV1.use ?_⟩⟩⟩⟩⟩
   simp only[ybg,go_sem,zA,zB,↓reduceIte,reduceCtorEq];refine hV2.use ?_;simp only[go_sem,zA,↓reduceIte,reduceCtorEq];refine hV3.use ?_;simp only[go_sem,zA,zB,↓reduceIte,reduceCtorEq];rw[show at_+(Ex.ite x a b).ser.length=at_+1+x.ser.length+a.ser.length+b.ser.length by simp[Ex.ser];omega]
   refine⟨fun h0=>?_,fun h0=>?_⟩
   .show Sim _ (.tp [.i .i64 (if _ then _ else _),_])
    rw[if_pos h0];exact Sim.refl _
   .show Sim _ (.tp [.i .i64 (if _ then _ else _),_])
    rw[if_neg (not_not_intro h0)];exact Sim.refl _
theorem ybbt(p:ProgR){g:Gr}(hg:ybe g){nv:Nat}{c:Conf}(hc:ConfIn g.ports.length nv c){v:Nat}(hv:v<g.ports.length)(x:Ex)(hx:x.ok nv false=true)(hl:x.ser.length<=1000) :
 Returns zG 193 [.rf (yfs p g),ybm c,.i .i64 v,ybc x.ser] (.i .i64 (yda g c v x (-1))):=by
 have hV:=yht p hg hc hv x.ser hl x false (-1) 0 [] hx (fun q=>by cases q) (by unfold InB;omega) (by simp)
 refine Returns.of (ydhd _ _ ?_);simp only[yjh,yfs,ybm,yu,ybc,yx,ydy,zH]at hV;simp only[c193,yclp,ycoi,ycnp,ycto,yfs,ybm,yu,ybc,yx,ydy,splice,go_sem,zA,zB,zC,zF,↓reduceIte,reduceCtorEq];refine .inl (hV.use ?_);simp only[ybg,ybb,go_sem,zA,zB,↓reduceIte,reduceCtorEq]
end Sh
end
section
theorem yhv{a:Nat}(h:a<2^32):IntKind.wrap .u32 (a:Int)=a:=by
 unfold IntKind.wrap;simp[IntKind.bits,IntKind.signed];omega
theorem u32_and{a b:Nat}(ha:a<2^32)(hb:b<2^32):IntKind.wrap .u32 (((zI (IntKind.bits .u32) (a:Int))&&&zI (IntKind.bits .u32) (b:Int)).toNat:Int)=((a&&&b:Nat):Int):=by
 show IntKind.wrap .u32 (((zI 32 (a:Int))&&&zI 32 (b:Int)).toNat:Int)=_;rw[zQ,zQ,BitVec.toNat_and,zAF,zAF,zAL ha,zAL hb];exact yhv (zAG zBI ha)
theorem u32_or{a b:Nat}(ha:a<2^32)(hb:b<2^32):IntKind.wrap .u32 (((zI (IntKind.bits .u32) (a:Int))|||zI (IntKind.bits .u32) (b:Int)).toNat:Int)=((a|||b:Nat):Int):=by
 show IntKind.wrap .u32 (((zI 32 (a:Int))|||zI 32 (b:Int)).toNat:Int)=_;rw[zQ,zQ,BitVec.toNat_or,zAF,zAF,zAL ha,zAL hb];exact yhv (zBG ha hb)
theorem u32_andNot{a b:Nat}(ha:a<2^32)(hb:b<2^32):IntKind.wrap .u32 (((zI (IntKind.bits .u32) (a:Int)) &&& ~~~zI (IntKind.bits .u32) (b:Int)).toNat:Int)=((difB a b:Nat):Int):=by
 show IntKind.wrap .u32 (((zI 32 (a:Int)) &&& ~~~zI 32 (b:Int)).toNat:Int)=_
 have e:((zI 32 (a:Int)) &&& ~~~zI 32 (b:Int)).toNat=difB a b:=by
  rw[zQ,zQ];refine zAZ fun i=>?_;rw[ygm,BitVec.testBit_toNat,BitVec.getLsbD_and,BitVec.getLsbD_not,zBA,zBA]
  by_cases hi:i<32
  .simp[hi]
  .rw[zT (zU ha (zO (by omega) (by omega)))]
   simp
 rw[e];exact yhv (ybau ha)
theorem u32_neg{a:Nat}(h0:0<a)(ha:a<2^32):IntKind.wrap .u32 (0-(a:Int))=((2^32-a:Nat):Int):=by
 unfold IntKind.wrap;simp[IntKind.bits,IntKind.signed];omega
theorem yoo{v:Nat}(hv:v<32):IntKind.wrap .u32 (1*2^(v:Int).toNat)=((2^v:Nat):Int):=by
 have h:2^v<2^32:=zV (by omega) hv
 have:=yhv h;rw[zM,Int.one_mul];rw[<-this]
 norm_cast
theorem ybxz{a v:Nat}:(a:Int).fdiv (2^(v:Int).toNat)=((a>>>v:Nat):Int):=by
 rw[zM,zW];rw[Int.fdiv_eq_ediv_of_nonneg _ (Int.pow_nonneg (by omega))]
 simp
theorem ydds(a v:Nat):((a>>>v)&&&1=1)↔a.testBit v=true:=by
 rw[zBO,bne_iff_ne];rw[Nat.and_comm 1 (a>>>v)];rw[Nat.and_one_is_mod];omega
theorem ycil{s v:Nat}(hs:s<2^32):IntKind.wrap .u32 (((zI (IntKind.bits .u32) ((s:Int).fdiv (2^v)))&&&zI (IntKind.bits .u32) 1).toNat:Int)=(((s>>>v)&&&1:Nat):Int):=by
 have h:=ybxz (a:=s) (v:=v);rw[zM]at h;rw[h];have h2:s>>>v<2^32:=by rw[zW];exact zAG (zAV _ _) hs
 exact u32_and (a:=s>>>v) (b:=1) h2 (by decide)
theorem ybfl{s v:Nat}:((((s>>>v)&&&1:Nat):Int)=1)↔s.testBit v=true:=by
 rw[<-ydds s v];omega
def lowB(e:Nat):Nat:=e&&&(2^32-e)
theorem yblj(e:Nat):subB (lowB e) e:=fun i h=>by
 unfold lowB at h;rw[zAE,zD]at h;exact h.1
theorem ybbv:∀(n e:Nat),0<e->e<2^n->∃i q,i<n/\e=2^i*(2*q+1)
 |0,e,h,h2=>by simp at h2;omega
 | n + 1,e,h,h2=>by
   by_cases hp:e%2=1
   .exact⟨0,e/2,by omega,by omega⟩
   .obtain⟨i,q,h3,h4⟩:=ybbv n (e/2) (by omega) (by rw[zBF]at h2;omega)
    exact⟨i+1,q,by omega,by rw[zBF,Nat.mul_assoc,Nat.mul_left_comm,<-h4];omega⟩
theorem ydim{e:Nat}(h0:e≠0)(he:e<2^32):lowB e≠0:=by
 obtain⟨i,q,hi,hq⟩:=ybbv 32 e (by omega) he
 have h1:e.testBit i=true:=by
  rw[hq,zAM,zAU _ (zBJ i)];simp
 have h2:(2^32-e).testBit i=true:=by
  obtain⟨j,hj⟩:∃j,32=i+(j+1):=⟨31-i,by omega⟩
  have e1:2^32=2^i*(2*2^j):=by
   have:(2:Nat)^32=2^(i+(j+1)):=by rw[<-hj]
   rw[this,Nat.pow_add,zBF,Nat.mul_comm (2^j) 2]
  have hlt:2*q+1<2*2^j:=by
   rw[e1,hq]at he;exact Nat.lt_of_mul_lt_mul_left he
  have e2:2^32-e=2^i*(2*2^j-(2*q+1)):=by rw[e1,hq,Nat.mul_sub]
  rw[e2,zAM,zAU _ (zBJ i)];simp;try omega
 intro hz;have:(lowB e).testBit i=true:=by unfold lowB;rw[zAE,h1,h2];rfl
 rw[hz]at this;simp at this
def resD(e w:Nat):Nat:=if w&&&e=0 then lowB e else w&&&e
end
section
namespace Sh
open Go Ev
def yel(p:ProgR)(g:Gr):List SV:=[.a (.string p.name),ydm p.vars,ydg p.rules,.rf (yfs p g),yjs g.ids.length p.vars (ybi g)]
theorem yrg(p:ProgR){g:Gr}(hg:ybe g)(hp:p.vars.all VarR.ok=true)(hl:p.vars.length<=6):Returns zG 93 [.ag (yna p),grV g] (.rf (yel p g)):=by
 refine Returns.of (ydkg _ _ ?_);have hS:=ybdh p hg;have hT:=yber p hg hp hl;simp only[yna,grV]at hS hT;simp only[c93,ydph,ydrb,yna,grV,go_sem,zA,zB,zF,↓reduceIte,reduceCtorEq];refine hS.use ?_;simp only[ybg,go_sem,zA,zB,zC,zF,↓reduceIte,reduceCtorEq];refine hT.use ?_;simp only[yjs,yel,go_sem,zA,zB,zC,↓reduceIte];refine⟨by decide,by decide,Sim.refl _⟩
theorem ycal(p:ProgT){g:Gr}(hg:ybe g)(hp:p.ok=true){c:Conf}(hc:ConfIn g.ports.length p.vars.length c){v:Nat}(hv:v<g.ports.length){r:Nat}(hr:r<p.rules.length) :
 Returns zG 172 [.rf (yfs p.raw g),ybm c,.i .i64 v,.i .i64 r] (.b (yjp g c v (p.rules.getD r default))):=by
 refine Returns.of (ydcg _ _ ?_);obtain⟨R,hR⟩:∃R,p.rules.getD r default=R:=⟨_,rfl⟩
 have hok:R.ok p.vars.length=true:=by
  unfold ProgT.ok at hp;simp only[zD]at hp;rw[<-hR,getD_at hr];exact List.all_eq_true.1 hp.2 _ (zL _)
 unfold RuleT.ok at hok;simp only[zD,decide_eq_true_eq]at hok;have hV:=ybbt p.raw hg hc hv R.guard hok.1.1.1 hok.1.1.2
 have hraw:p.raw.rules.getD r default=R.raw:=by
  rw[<-hR];simp[ProgT.raw,zX,hr]
 have hlen:p.raw.rules.length=p.rules.length:=by simp[ProgT.raw]
 simp only[yfs,ydg,hlen]at hV;rw[hR];simp only[c172,ycti,ycuu,yfs,ydg,hraw,hlen,go_sem,zA,zB,zC,↓reduceIte,reduceCtorEq];refine⟨by omega,hV.use ?_⟩
 simp only[ybg,yig,yjp,go_sem,zA,zB,↓reduceIte,reduceCtorEq]
theorem ydjx{p:ProgT}{g:Gr}{c:Conf}{v k:Nat}(hk:k<p.rules.length)(hn:(p.rules.take k).findIdx? (yjp g c v)=none)(h:yjp g c v (p.rules.getD k default)=true):yho p g c v=k:=by
 unfold yho
 have:p.rules.findIdx? (yjp g c v)=some k:=by
  rw[zAI];refine⟨hk,by rwa [getD_at hk]at h,fun j hj=>?_⟩
  rw[zAA]at hn;have:=hn p.rules[j] (List.mem_take_iff_getElem.2 ⟨j,by omega,rfl⟩)
  simpa using this
 rw[this]
theorem ybov{p:ProgT}{g:Gr}{c:Conf}{v:Nat}(hn:(p.rules.take p.rules.length).findIdx? (yjp g c v)=none):yho p g c v = -1:=by
 unfold yho;rw[zAJ]at hn;rw[hn]
theorem ycfd(p:ProgT)(g:Gr)(c:Conf)(v:Nat):-1<=yho p g c v/\yho p g c v<p.rules.length:=by
 unfold yho;split
 .rename_i i hi
  obtain⟨h,_⟩:=List.findIdx?_eq_some_iff_getElem.1 hi;omega
 .omega
theorem ybla(p:ProgT){g:Gr}(hg:ybe g)(hp:p.ok=true){c:Conf}(hc:ConfIn g.ports.length p.vars.length c){v:Nat}(hv:v<g.ports.length) :
 Returns zG 147 [.rf (yel p.raw g),ybm c,.i .i64 v] (.i .i64 (yho p g c v)):=by
 refine Returns.of (ydfs _ _ ?_);have hlen:p.raw.rules.length=p.rules.length:=by simp[ProgT.raw]
 have h12:p.rules.length<=12:=by
  unfold ProgT.ok at hp;simp only[zD,decide_eq_true_eq]at hp;exact hp.1.2
 simp only[c147,ycri,ycml,yel,ydg,hlen,go_sem,zA,zB,zC,↓reduceIte,reduceCtorEq];refine ybk (σ:=Nat) (fun k=>⟨[(14,.i .i64 k),(13,.i .i64 p.rules.length),(0,.rf (yel p.raw g)),(1,ybm c),(2,.i .i64 v)],[]⟩) (fun k=>k<=p.rules.length/\(p.rules.take k).findIdx? (yjp g c v)=none) (fun k=>p.rules.length-k) 0 ⟨zK _,by simp⟩ ?_ ?_
 .refine yh [] [] [] ?_;simp only[yel,ydg,hlen,allQ,live,yc,zH,go_sem,zA,↓reduceIte,reduceCtorEq]
 .intro k ⟨hk,hno⟩;simp only[ycqg,ycvl,ycua,ycpv,ycox,yctb,yel,ybb,go_sem,zA,zB,zC,↓reduceIte,reduceCtorEq];refine⟨fun hlt=>?_,fun hlt=>?_⟩
  .have hk':k<p.rules.length:=by omega
   refine(ycal p hg hp hc hv hk').use ?_;simp only[ybg,ybb,go_sem,zA,zB,↓reduceIte,reduceCtorEq];refine⟨fun h=>by rw[ydjx hk' hno h],fun h=>⟨ikw (by omega) (by omega),?_⟩⟩
   refine yj (k+1) ⟨by omega,?_⟩ (by omega) ?_
   .rw[zJ hk',zAX,hno];rw[getD_at hk']at h;simp[h]
   .refine yh [] [] [] ?_;simp only[allQ,live,yc,ybb,go_sem,zA,↓reduceIte,reduceCtorEq];simp
  .obtain rfl:k=p.rules.length:=by omega
   rw[ybov hno]
theorem ycbv(n:Nat)(hn:n<=32)(h:FuncId)(cp:List SV)(f:Nat->Bool)(hcp4:cp.any (owned 4)=false)(hf:∀v,v<n->Returns zG h (.i .i64 v::cp) (.b (f v))):Returns zG 145 [.i .i64 n,.fn h [] cp] (.i .u32 (ymk f n)):=by
 refine Returns.of (ydau _ _ ?_);have hcp:=ylu hcp4;simp only[c145,ycye,ycyn,ycpy,go_sem,zB,↓reduceIte,reduceCtorEq];refine ybk (σ:=Nat) (fun k=>⟨[(8,.i .i64 k),(7,.i .i64 n),(1,.fn h [] cp),(5,.i .u32 (ymk f k))],[]⟩) (fun k=>k<=n) (fun k=>n-k) 0 (zK _) ?_ ?_
 .refine yh [] [] [] ?_;simp only[yea _ hcp4,yef _ hcp4,ymk,allQ,live,yc,zH,go_sem,zA,↓reduceIte,reduceCtorEq]
 .intro k hk;simp only[yckj,ycqi,ycqk,ycqs,ycoe,yclj,ybb,hcp,List.any_cons,go_sem,zA,zB,↓reduceIte,reduceCtorEq];refine⟨fun hlt=>(hf k (by omega)).use ?_,fun hlt=>?_⟩
  .have hk':k<n:=by omega
   have hb1:ymk f k<2^32:=zU (yblb f k) (zO (by omega) (by omega))
   have hb2:2^k<2^32:=zV (by omega) (by omega)
   simp only[ybg,IntKind.bits,go_sem,zA,zB,↓reduceIte,reduceCtorEq];refine⟨fun h1=>⟨by omega,ikw (by omega) (by omega),?_⟩,fun h1=>⟨ikw (by omega) (by omega),?_⟩⟩
   .refine yj (k+1) (by omega) (by omega) ?_
    refine yh [] [] [] ?_;have e1:=yoo (v:=k) (by omega)
    have e2:=u32_or hb1 hb2;rw[zM]at e1;simp only[yea _ hcp4,yef _ hcp4,e1,allQ,live,yc,ybb,go_sem,zA,↓reduceIte,reduceCtorEq];refine⟨by omega,?_⟩
    rw[show ymk f (k+1)=ymk f k|||2^k by show(if f k then _ else _)=_;rw[if_pos h1]]
    exact e2
   .refine yj (k+1) (by omega) (by omega) ?_
    refine yh [] [] [] ?_;simp only[yea _ hcp4,yef _ hcp4,allQ,live,yc,ybb,go_sem,zA,↓reduceIte,reduceCtorEq];rw[show ymk f (k+1)=ymk f k by show(if f k then _ else _)=_;rw[if_neg (by rw[h1];simp)]]
    simp
  .obtain rfl:k=n:=by omega
   rfl
theorem ybbr(p:ProgT){g:Gr}(hg:ybe g)(hp:p.ok=true){c:Conf}(hc:ConfIn g.ports.length p.vars.length c){v:Nat}(hv:v<g.ports.length) :
 Returns zG 146 [.i .i64 v,.rf [.rf (yel p.raw g)],.rf [ybm c]] (.b (decide (yho p g c v>=0))):=by
 refine Returns.of (ydgo _ _ ?_);have hR:=ybla p hg hp hc hv;simp only[c146,ycvh,yctf,go_sem,zA,zB,↓reduceIte,reduceCtorEq];refine hR.use ?_;simp only[ybg,yig,go_sem,zA,zB,↓reduceIte,reduceCtorEq]
theorem yjy(p:ProgT){g:Gr}(hg:ybe g)(hp:p.ok=true){c:Conf}(hc:ConfIn g.ports.length p.vars.length c) :
 Returns zG 94 [.rf (yel p.raw g),ybm c] (.i .u32 (ybn p g c)):=by
 refine Returns.of (ydlv _ _ ?_);have hid:=hg.2.2.1;have h24:=hg.2.1;have hN:=ycbv g.ids.length (by omega) 146 [.rf [.rf (yel p.raw g)],.rf [ybm c]] (fun v=>decide (yho p g c v>=0)) rfl (fun v hv=>ybbr p hg hp hc (by omega))
 simp only[yel]at hN;simp only[c94,ydrz,ydoj,yel,yjs,go_sem,zA,zB,zC,zF,↓reduceIte,reduceCtorEq];simp only[yjs]at hN;refine .inl (hN.use ?_);simp only[ybg,ybb,go_sem,zA,zB,↓reduceIte,reduceCtorEq];rfl
theorem yrt(p:ProgT)(g:Gr)(c:Conf)(v:Nat):∀(sets:List (Int×Ex)) (s0:List Int),(ype p g c v s0 sets).length=s0.length
 |[],_=>rfl
 | a::sets,s0=>by
   show(ype p g c v (s0.set _ _) sets).length=_;rw[yrt p g c v sets];simp
theorem ybpt(p:ProgT)(g:Gr)(c:Conf)(v:Nat)(s0:List Int)(sets:List (Int×Ex))(k:Nat)(h:k<sets.length) :
 ype p g c v s0 (sets.take (k+1))=(ype p g c v s0 (sets.take k)).set (sets.getD k default).1.toNat (yfw (p.vars.getD (sets.getD k default).1.toNat default).kind (ybi g v (p.vars.getD (sets.getD k default).1.toNat default)) (yda g c v (sets.getD k default).2 (-1))):=by
 unfold ype;rw[zJ h,zAH,getD_at h];rfl
theorem ycdi(p:ProgT){g:Gr}(hg:ybe g)(hp:p.ok=true){c:Conf}(hc:ConfIn g.ports.length p.vars.length c){v:Nat}(hv:v<g.ports.length){r:Nat}(hr:r<p.rules.length) :
 Returns zG 157 [.rf (yel p.raw g),ybm c,.i .i64 v,.i .i64 r] (yu (ybbo p g c v r)):=by
 refine Returns.of (ydif _ _ ?_);obtain⟨R,hR⟩:∃R,p.rules.getD r default=R:=⟨_,rfl⟩;have hp':=hp;unfold ProgT.ok at hp';simp only[zD,decide_eq_true_eq]at hp'
 have hok:R.ok p.vars.length=true:=by
  rw[<-hR,getD_at hr];exact List.all_eq_true.1 hp'.2 _ (zL _)
 unfold RuleT.ok at hok;simp only[zD,decide_eq_true_eq]at hok
 have hraw:p.raw.rules.getD r default=R.raw:=by
  rw[<-hR];simp[ProgT.raw,zX,hr]
 have hlen:p.raw.rules.length=p.rules.length:=by simp[ProgT.raw]
 have hsl:R.raw.sets.length=R.sets.length:=by simp[RuleT.raw]
 have hid:=hg.2.2.1;have hcl:=hc.len;have hrow:=hc.at_ hv;have hne:¬(c.getD v []).length=0:=by omega
 simp only[c157,ycyh,ycuw,ycwn,hne,yel,ydg,yim,hraw,hlen,hsl,ybm,yu,go_sem,zA,zB,zC,zF,↓reduceIte,reduceCtorEq];obtain⟨nv,hnv⟩:∃k,p.vars.length=k:=⟨_,rfl⟩;have hrl:=hrow.1;rw[hnv]at hrl hok hc;rw[hnv]at hp';have hmv:ybbo p g c v r=ype p g c v (c.getD v []) R.sets:=by unfold ybbo;rw[hR]
 have hml:∀k,(ype p g c v (c.getD v []) (R.sets.take k)).length=nv:=fun k=>(yrt p g c v _ _).trans hrl;refine⟨by omega,by omega,by omega,?_⟩
 refine ybk (σ:=Nat) (fun k=>⟨[(28,.i .i64 k),(27,.i .i64 R.sets.length),(26,yim R.raw.sets),(0,.rf (yel p.raw g)),(1,ybm c),(2,.i .i64 v),(9,.os (17,0) 0 nv true)],
  [(17,.one (some ⟨3,false,1,nv,fun i=>[.i .i64 ((ype p g c v (c.getD v []) (R.sets.take k)).getD i 0)]⟩))]⟩) (fun k=>k<=R.sets.length) (fun k=>R.sets.length-k) 0 (zK _) ?_ ?_
 .refine yh [] [] [] ?_;simp only[yel,ydg,yim,hlen,hsl,hrl,ybm,yu,allQ,live,yc,ybb,zH,go_sem,zA,↓reduceIte,reduceCtorEq];simp[ype]
 .intro k hk;simp only[ycvz,yczo,ycwv,yel,yim,hsl,splice,go_sem,zA,zB,zC,zF,↓reduceIte,reduceCtorEq];refine⟨fun hlt=>?_,fun hlt=>?_⟩
  .have hk':k<R.sets.length:=by omega
   obtain⟨S,hS⟩:∃S,R.sets.getD k default=S:=⟨_,rfl⟩
   have hset:R.raw.sets.getD k default=⟨S.1,S.2.ser⟩:=by
    rw[<-hS];simp[RuleT.raw,zX,hk']
   have hSok:=List.all_eq_true.1 hok.2 S (by rw[<-hS,getD_at hk'];exact zL _)
   simp only[zD,decide_eq_true_eq]at hSok;have hV:=ybbt p.raw hg hc hv S.2 hSok.1.2 hSok.2;refine⟨by omega,?_⟩
   rw[hset];refine hV.use ?_;have hB:=ybvc (p.vars.getD S.1.toNat default).kind (ybi g v (p.vars.getD S.1.toNat default)) (yda g c v S.2 (-1));have hvars:p.raw.vars=p.vars:=rfl;simp only[ycqm,ybg,yjs,ydm,varC,splice,hvars,hnv,go_sem,zA,zB,zC,↓reduceIte,reduceCtorEq];refine⟨by omega,by omega,by omega,hB.use ?_⟩
   simp only[go_sem,zA,↓reduceIte];have hb2:zBO 134217727 25=true:=by decide
   simp only[yckq,hb2,go_sem,zA,zB,↓reduceIte,reduceCtorEq];refine⟨by omega,by omega,ikw (by omega) (by omega),?_⟩
   refine yj (k+1) (by omega) (by omega) ?_
   refine yh [] [] [] ?_;simp only[ybpt p g c v _ _ k hk',hS,allQ,live,yc,ybb,go_sem,zA,↓reduceIte,reduceCtorEq];refine⟨by omega,fun i hi=>?_⟩
   rw[yzm (by rw[hml];omega)]
   by_cases q:i=S.1.toNat
   .simp only[if_pos q];simp only[live,yc,go_sem,reduceCtorEq]
   .simp only[if_neg q];simp only[live,yc,go_sem,reduceCtorEq]
  .obtain rfl:k=R.sets.length:=by omega
   simp only[yckg,go_sem,zA,zB,↓reduceIte,reduceCtorEq];have hl:=hml R.sets.length;rw[zAJ]at hl ⊢;rw[hmv,hl];exact Sim.refl _
theorem yny(p:ProgT)(g:Gr)(c:Conf)(s:Nat){v:Nat}(hv:v<c.length):(yfb p g c s).getD v []=if s.testBit v then ybbo p g c v (yho p g c v).toNat else c.getD v []:=by
 unfold yfb;simp[zX,hv]
theorem ykk(p:ProgT)(g:Gr)(c:Conf)(s:Nat):(yfb p g c s).length=c.length:=by simp[yfb]
theorem ycgf(p:ProgT){g:Gr}(hg:ybe g)(hp:p.ok=true){c:Conf}(hc:ConfIn g.ports.length p.vars.length c){s:Nat}(hs:s<2^32)(hen:subB s (ybn p g c)) :
 Returns zG 113 [.rf (yel p.raw g),ybm c,.i .u32 s] (ybm (yfb p g c s)):=by
 refine Returns.of (ycef [132] _ _ ?_);have h24:=hg.2.1;have hcl:=hc.len;have hp':=hp;unfold ProgT.ok at hp';simp only[zD,decide_eq_true_eq]at hp';have hC:=ycht c (fun x hx=>by have:=(hc.row x hx).1;omega) (by omega)
 simp only[c113,yclu,ycwy,go_sem,zA,zB,↓reduceIte,reduceCtorEq];refine yfr hC [] 100 [0,1,2] [] ?_ ?_
 .simp only[go_sem,ycz,yge,yfj,yeh,allQ,live,yc,go_sem,zA,↓reduceIte,reduceCtorEq]
 .rintro r o' ⟨rfl,rfl⟩;simp only[ycxa,ybm,yu,yrx,yms,nuF,nu,difN,yfj,yeh,Fam.ren,OB.ren,dim,ybek,yqy,go_sem,zA,zB,↓reduceIte,reduceCtorEq];obtain⟨n,hn⟩:∃n,c.length=n:=⟨_,rfl⟩
  let row:Nat->Nat->List Int:=fun k i=>if i<k then(yfb p g c s).getD i []else c.getD i []
  refine ybk (σ:=Nat) (fun k=>⟨[(13,.i .i64 k),(12,.i .i64 n),(7,.os (108,0) 0 n true),(0,.rf (yel p.raw g)),(1,ybm c),(2,.i .u32 s)],
   [(108,.one (some ⟨22,false,1,n,fun i=>[yu (row k i)]⟩))]⟩) (fun k=>k<=n) (fun k=>n-k) 0 (zK _) ?_ ?_
  .refine yh [] [] [] ?_;simp only[ybm,hn,allQ,live,yc,zH,go_sem,zA,↓reduceIte,reduceCtorEq];refine⟨Sim.refl _,fun i hi=>?_⟩;simp only[row,if_neg (zAB i)];exact Sim.refl _
  .intro k hk;have ht:=ycil (s:=s) (v:=k) hs;simp only[IntKind.bits]at ht;simp only[ycme,yczx,ycka,ycyv,ycwr,ycvu,IntKind.bits,ht,ybfl,go_sem,zA,zB,zBB,↓reduceIte,reduceCtorEq];refine⟨fun hlt=>⟨by omega,fun h1=>?_,fun h1=>?_⟩,fun hlt=>?_⟩
   .have hk':k<c.length:=by omega
    have hkg:k<g.ports.length:=by omega
    have hr0:0<=yho p g c k:=by
     have:=hen k h1;unfold ybn at this;rw[yok]at this;simp only[zD,decide_eq_true_eq]at this;exact this.2
    have hrl:=(ycfd p g c k).2;have hr1:yho p g c k=((yho p g c k).toNat:Int):=by omega
    refine(ybla p hg hp hc hkg).use ?_;simp only[ybg,splice,go_sem,zA,zB,zBB,↓reduceIte,reduceCtorEq];have hM:=ycdi p hg hp hc hkg (r:=(yho p g c k).toNat) (by omega)
    rw[<-hr1]at hM;refine hM.use ?_;simp only[go_sem,zA,↓reduceIte];refine⟨by omega,by omega,ikw (by omega) (by omega),?_⟩
    refine yj (k+1) (by omega) (by omega) ?_
    refine yh [] [] [] ?_;simp only[allQ,live,yc,ybb,go_sem,zA,↓reduceIte,reduceCtorEq];refine⟨by omega,fun i hi=>?_⟩
    by_cases q:i=k
    .simp only[if_pos q];subst q;simp only[go_sem,live,go_sem];simp only[row,if_pos (zAK i),yny p g c s hk',h1,↓reduceIte];exact Sim.refl _
    .simp only[if_neg q];simp only[go_sem,live,go_sem]
     have:row (k+1) i=row k i:=by
      simp only[row]
      by_cases q1:i<k
      .rw[if_pos q1,if_pos (by omega)]
      .rw[if_neg q1,if_neg (by omega)]
     rw[this];exact Sim.refl _
   .have hk':k<c.length:=by omega
    refine⟨ikw (by omega) (by omega),?_⟩
    refine yj (k+1) (by omega) (by omega) ?_
    refine yh [] [] [] ?_;simp only[allQ,live,yc,ybb,go_sem,zA,↓reduceIte,reduceCtorEq];refine⟨by omega,fun i hi=>?_⟩
    have:row (k+1) i=row k i:=by
     simp only[row]
     by_cases q1:i<k
     .rw[if_pos q1,if_pos (by omega)]
     .by_cases q:i=k
      .subst q;rw[if_neg q1,if_pos (by omega),yny p g c s hk',if_neg (fun q=>h1 (ybfl.2 q))]
      .rw[if_neg q1,if_neg (by omega)]
    rw[this];exact Sim.refl _
   .obtain rfl:k=n:=by omega
    rw[ykk,hn];refine yiv fun q hq=>⟨⟨?_,trivial⟩,rfl⟩;simp only[row,if_pos hq];exact Sim.refl _
end Sh
end
section
namespace Sh
open Go Ev
def ywh(p:ProgT)(g:Gr):Bool:=p.vars.all fun x=>decide (x.kind=1)==false||(decide ((ybi g 0 x).1<=(ybi g 0 x).2)&&decide ((ybi g 0 x).2-(ybi g 0 x).1+1<=4096))
def yez(Q1 Q2:(Nat->Option ABlk)->Value->Prop)(p:ProgR):List SV:=[.a (.string p.name),.ex Q1 (ydm p.vars),.ex Q2 (ydg p.rules)]
theorem ycev{Q1 Q2:(Nat->Option ABlk)->Value->Prop}(p:ProgT){g:Gr}(hg:ybe g)(hp:p.ok=true)(hf:ywh p g=true)(hV:Returns zG 191 [.ag (yez Q1 Q2 p.raw)] (.b true))(hG:Returns zG 96 [grV g] (.b true)) :
 Returns zG 155 [.ag (yez Q1 Q2 p.raw),grV g] (.i .i64 0):=by
 refine Returns.of (yddb _ _ ?_);have hp':=hp;unfold ProgT.ok at hp';simp only[zD,decide_eq_true_eq]at hp';have hvars:p.raw.vars=p.vars:=rfl;simp only[yez,grV]at hV hG;simp only[c155,ycvv,ydal,yctz,ycqy,ycqt,ycvn,yez,grV,go_sem,zA,zB,zF,↓reduceIte,reduceCtorEq];refine hV.use ?_;simp only[ybg,go_sem,zA,zB,↓reduceIte];refine hG.use ?_;simp only[ydm,hvars,go_sem,zA,zB,zC,↓reduceIte,reduceCtorEq]
 have hall:∀k,k<p.vars.length->(p.vars.getD k default).ok=true/\((p.vars.getD k default).kind=1->(ybi g 0 (p.vars.getD k default)).1<=(ybi g 0 (p.vars.getD k default)).2/\(ybi g 0 (p.vars.getD k default)).2-(ybi g 0 (p.vars.getD k default)).1+1<=4096):=fun k hk=>by
  rw[getD_at hk];refine⟨List.all_eq_true.1 hp'.1.1.2 _ (zL _),fun h1=>?_⟩;have:=List.all_eq_true.1 hf _ (zL hk)
  simpa[h1]using this
 refine ybk (σ:=Nat) (fun k=>⟨[(18,.i .i64 k),(17,.i .i64 p.vars.length),(16,.ex Q1 (ydm p.vars)),(3,.pt (3,0) 0 0)],[(3,.one (some ⟨27,true,2,1,fun _=>[yu g.ids,yx g.ports]⟩))]⟩) (fun k=>k<=p.vars.length) (fun k=>p.vars.length-k) 0 (zK _) ?_ ?_
 .refine yh [] [] [] ?_;simp only[ydm,allQ,live,yc,zH,go_sem,zA,↓reduceIte,reduceCtorEq]
 .intro k hk;obtain⟨x,hx⟩:∃x,p.vars.getD k default=x:=⟨_,rfl⟩;simp only[yczh,ycxi,ycvg,ycos,ybup,yccc,ybve,ybtf,ydm,varC,splice,ybb,hx,go_sem,zA,zB,zC,zF,↓reduceIte,reduceCtorEq];intro hlt;have hk':k<p.vars.length:=by omega
  obtain⟨hxo,hxb⟩:=hall k hk';rw[hx]at hxo hxb;have hB:=yxa hg hxo (v:=0) (by have:=hg.1;omega)
  simp only[varC,grV,zH]at hB;obtain⟨hb1,hb2⟩:=yod hg hxo;have hvo:=ybgi hxo;refine⟨by omega,fun h1=>⟨ikw (by omega) (by omega),?_⟩,fun h1=>hB.use ?_⟩
  .refine yj (k+1) (by omega) (by omega) ?_
   refine yh [] [] [] ?_;simp only[allQ,live,yc,ybb,go_sem,zA,↓reduceIte,reduceCtorEq];omega
  .obtain⟨hb3,hb4⟩:=hxb h1;obtain⟨b1,hb1'⟩:∃b,(ybi g 0 x).1=b:=⟨_,rfl⟩;obtain⟨b2,hb2'⟩:∃b,(ybi g 0 x).2=b:=⟨_,rfl⟩;have e:ybi g 0 x=(x.lo,x.hi+x.perNode*(g.ids.length:Int)+x.perID*maxI g.ids):=by unfold ybi;rw[if_pos h1]
   rw[e]at hb1' hb2';simp only[]at hb1' hb2';simp only[e]at hb3 hb4;rw[e];simp only[ybg,ybb,go_sem,zA,zB,↓reduceIte,reduceCtorEq];simp only[hb1',hb2']at hb3 hb4 ⊢;refine⟨fun _=>⟨ikw (by omega) (by omega),ikw (by omega) (by omega),fun hgt=>absurd hb4 (by omega),fun _=>⟨ikw (by omega) (by omega),?_⟩⟩,fun hlt2=>absurd hb3 (by omega)⟩
   refine yj (k+1) (by omega) (by omega) ?_
   refine yh [] [] [] ?_;simp only[allQ,live,yc,ybb,go_sem,zA,↓reduceIte,reduceCtorEq];omega
end Sh
end
section
namespace Sh
open Go Ev Go.RowKit
theorem ybrp{g:Gr}(hg:ybe g){x:VarR}(hx:x.ok=true)(v:Nat):-4096<=(ybi g v x).1/\(ybi g v x).2<=100000:=by
 obtain⟨h1,h2,h3,h4,h5⟩:=ybgi hx;obtain⟨h6,h7⟩:=yod hg hx;have h8:=hg.deg_lt (v:=v);unfold ybi;split
 .exact⟨by simp only[];omega,by simp only[];omega⟩
 .split
  .exact⟨by simp only[];omega,by simp only[];omega⟩
  .split
   .exact⟨by simp only[];omega,by simp only[];omega⟩
   .exact⟨by simp only[];omega,by simp only[];omega⟩
theorem ylc{p:ProgT}{g:Gr}(hg:ybe g)(hp:p.ok=true){c:Conf}(hc:ydz p g c=true):ConfIn g.ports.length p.vars.length c:=by
 have h:=(yfd _ _ _).1 hc;have hp':=hp;unfold ProgT.ok at hp';simp only[zD,decide_eq_true_eq]at hp';refine⟨h.1.trans hg.2.2.1,fun s hs=>?_⟩;obtain⟨v,hv,rfl⟩:=zBD hs;have h2:=h.2 v _ (zN hv);have hl:(c[v]).length=p.vars.length:=by have:=h2.1;simpa using this
 refine⟨hl,fun x hx=>?_⟩;obtain⟨i,hi,rfl⟩:=zBD hx;have hi':i<p.vars.length:=by omega
 have h3:=h2.2 i (ybi g v p.vars[i]) _ (by simp[hi']) (zN hi)
 have h4:=ybrp hg (List.all_eq_true.1 hp'.1.1.2 _ (zL hi')) v;unfold InB;omega
structure Checked(Q1 Q2:(Nat->Option ABlk)->Value->Prop)(p:ProgT)(g:Gr):Prop where
 hg:ybe g
 hp:p.ok=true
 hf:ywh p g=true
 hV:Returns zG 191 [.ag (yez Q1 Q2 p.raw)] (.b true)
theorem Checked.gv{Q1 Q2:(Nat->Option ABlk)->Value->Prop}{p:ProgT}{g:Gr}(h:Checked Q1 Q2 p g):Returns zG 96 [grV g] (.b true):=by
 have e:=ywy (ydbf h.hg);rw[(ych g).2 h.hg]at e;exact e
section
variable {Q1 Q2:(Nat->Option ABlk)->Value->Prop}{p:ProgT}{g:Gr}
theorem ybcb(h:Checked Q1 Q2 p g)(c:Conf):Returns zG 112 [.ag (yez Q1 Q2 p.raw),grV g,ybm c] (.i .i64 (if ydz p g c then 0 else 10)):=by
 refine Returns.of (ydgx _ _ ?_);have hp':=h.hp;unfold ProgT.ok at hp';simp only[zD,decide_eq_true_eq]at hp';have hid:=h.hg.2.2.1;have h24:=h.hg.2.1;have hF:=ycev p h.hg h.hp h.hf h.hV h.gv;have hT:=yber p.raw h.hg hp'.1.1.2 hp'.1.1.1.2;have hW:=ybpe (n:=g.ids.length) p.vars (by omega) (ybi g) c (by omega)
 simp only[yez,grV]at hF hT;simp only[c112,ycpz,ycwb,yez,grV,go_sem,zA,zB,zF,↓reduceIte,reduceCtorEq];refine hF.use ?_;simp only[ybg,ycrc,yckn,ycyc,go_sem,zA,zB,↓reduceIte,reduceCtorEq];refine⟨fun h=>absurd rfl h,hT.useS ?_ ?_⟩
 .exact⟨yun ⟨Sim.refl _,ynv _ _,ynv _ _,trivial⟩,Sim.refl _,trivial⟩
 simp only[yjs]at hW ⊢;simp only[go_sem,↓reduceIte];refine hW.use ?_;simp only[go_sem];have hcf:∀b,yqi g.ids.length (fun v=>p.vars.map (ybi g v)) c=b->ydz p g c=b:=fun b h=>h;refine⟨fun h1=>?_,fun h1=>?_⟩
 .simp only[ycmb,hcf _ h1,ybb,go_sem,↓reduceIte]
 .simp only[yczp,hcf _ h1,ybb,go_sem,↓reduceIte]
theorem ybpg(h:Checked Q1 Q2 p g)(c:Conf):Returns zG 92 [.ag (yez Q1 Q2 p.raw),grV g,ybm c] (.b (ydz p g c)):=by
 refine Returns.of (ydsk _ _ ?_);have hC:=ybcb h c;simp only[yez,grV]at hC;simp only[c92,ydrj,ydoo,yez,grV,go_sem,zA,zB,zF,↓reduceIte,reduceCtorEq];refine hC.use ?_;simp only[ybg,yig,go_sem,zA,zB,↓reduceIte,reduceCtorEq];cases ydz p g c<;>rfl
theorem yud(h:Checked Q1 Q2 p g){c:Conf}(hc:ydz p g c=true):Returns zG 36 [.ag (yez Q1 Q2 p.raw),grV g,ybm c] (.i .u32 (ybn p g c)):=by
 refine Returns.of (ydjl _ _ ?_);have hp':=h.hp;unfold ProgT.ok at hp';simp only[zD,decide_eq_true_eq]at hp';have hM:=ybpg h c;rw[hc]at hM;have hN:=yrg p.raw h.hg hp'.1.1.2 hp'.1.1.1.2;have hE:=yjy p h.hg h.hp (ylc h.hg h.hp hc);simp only[yez,grV]at hM hN;simp only[c36,ydnh,ydmo,yez,grV,go_sem,zA,zB,zF,↓reduceIte,reduceCtorEq];refine hM.use ?_;simp only[ybg,ydjk,ydkk,go_sem,zA,zB,↓reduceIte,reduceCtorEq]
 refine hN.useS ?_ ?_
 .exact⟨yun ⟨Sim.refl _,ynv _ _,ynv _ _,trivial⟩,Sim.refl _,trivial⟩
 simp only[go_sem,↓reduceIte];refine hE.use ?_;simp only[go_sem];exact Sim.refl _
theorem ybmw(k:Int):Returns zG 108 [.i .i64 k] (.b (decide (1<=k)&&decide (k<=4))):=by
 refine Returns.of (ydgf _ _ ?_);simp only[c108,ycsg,ycra,yig,go_sem,zA,zB,↓reduceIte,reduceCtorEq]
 by_cases h:k>=1<;>simp[h]
end
end Sh
end
section
theorem ynn(s a:Nat):∀b,yfp s (a+b)=yfp s a+yfp (s>>>a) b
 |0=>rfl
 | b+1=>by
   show yfp s (a+b)+(s.testBit (a+b)).toNat=_;rw[ynn s a b];show _=yfp s a+(yfp (s>>>a) b+((s>>>a).testBit b).toNat);rw[Nat.testBit_shiftRight];omega
theorem yow(s:Nat):∀b,b<=8->yfp (s&&&255) b=yfp s b
 |0,_=>rfl
 | b+1,h=>by
   show yfp _ b+_=yfp s b+_;rw[yow s b (by omega),zAE,show(255:Nat)=2^8-1 from rfl,zAP]
   simp[show b<8 by omega]
theorem ybqf(s:Nat):popP s=yfp (s>>>24&&&255) 8+yfp (s>>>16&&&255) 8+yfp (s>>>8&&&255) 8+yfp (s&&&255) 8:=by
 simp only[yow _ 8 (zZ _)];have h1:=ynn s 8 24;have h2:=ynn (s>>>8) 8 16;have h3:=ynn (s>>>8>>>8) 8 8;simp only[<-Nat.shiftRight_add,zB]at h1 h2 h3;unfold popP;omega
namespace Sh
open Ev Go.RowKit
theorem yzr:∀k,k<256->yxt.getD k 0=yfp k 8:=by decide
theorem ydca:yxt.length=256:=by decide
theorem ydgy(a v:Nat):(a:Int).fdiv (2^v)=((a>>>v:Nat):Int):=by
 have h:=ybxz (a:=a) (v:=v)
 rwa [zM]at h
theorem ycog{a:Nat}(ha:a<2^32):IntKind.wrap .u32 (((zI (IntKind.bits .u32) (a:Int))&&&zI (IntKind.bits .u32) 255).toNat:Int)=((a&&&255:Nat):Int):=u32_and (b:=255) ha (by decide)
theorem ydpy{a n:Nat}(h:a<2^32):a>>>n<2^32:=by rw[zW];exact zAG (zAV _ _) h
theorem yblk{s:Nat}(hs:s<2^32):Returns zG 104 [.i .u32 s] (.i .i64 (popP s)):=by
 refine Returns.of (ydel _ _ ?_);simp only[c104,yctv,ycvp,clash,go_sem,zAC,zA,zB,↓reduceIte,reduceCtorEq];have f1:=ycog hs;have f2:=fun n=>ycog (ydpy (n:=n) hs);simp only[IntKind.bits]at f1 f2;simp only[ydgy,f1,f2,zM,ydca];have hp:=ybqf s;have l1:s>>>24<256:=by rw[zW];omega
 have b1:∀x:Nat,x&&&255<256:=fun x=>zAG Nat.and_le_right (by omega)
 rw[yow (s>>>24) 8 (zZ _)]at hp;rw[yzr _ l1,yzr _ (b1 (s>>>16)),yzr _ (b1 (s>>>8)),yzr _ (b1 s)];have q1:=ylg (s>>>24) 8;have q2:=ylg (s>>>16&&&255) 8;have q3:=ylg (s>>>8&&&255) 8;have q4:=ylg (s&&&255) 8;have w1:=b1 (s>>>16);have w2:=b1 (s>>>8);have w3:=b1 s;have u8k:∀x:Int,0<=x->x<=255->inK .u8 x:=fun x h1 h2=>⟨by simpa[IntKind.min,IntKind.signed]using h1,by simpa[IntKind.max,IntKind.bits,IntKind.signed]using h2⟩
 refine⟨⟨by omega,by decide⟩,⟨by omega,by omega⟩,⟨by omega,by decide⟩,by omega,u8k _ (by omega) (by omega),⟨by omega,by decide⟩,by omega,u8k _ (by omega) (by omega),by omega,u8k _ (by omega) (by omega),?_⟩
 rw[wrap_in (ikw (by omega) (by omega)),hp]
 exact Sim.refl _
def cntV(k:Cnt):List SV:=[.i .i64 k.steps,.i .i64 k.moves,.i .i64 k.rounds,.i .i64 k.begun,.i .u32 k.pend]
theorem ybuk{e:Nat}(he:e<2^24):Returns zG 195 [.i .u32 e] (.ag (cntV (ydt e))):=by
 refine Returns.of (ydih _ _ ?_);simp only[c195,yczm,ycvy,go_sem,zA,zB,zF,↓reduceIte,reduceCtorEq];have e1:e&&&16777215=e:=by rw[show(16777215:Nat)=2^24-1 from rfl,Nat.and_two_pow_sub_one_of_lt_two_pow he]
 have e2:IntKind.wrap .u32 (((zI (IntKind.bits .u32) (e:Int))&&&zI (IntKind.bits .u32) 16777215).toNat:Int)=((e&&&16777215:Nat):Int):=u32_and (b:=16777215) (by omega) (by decide)
 simp only[IntKind.bits]at e2;rw[e2,e1];exact Sim.refl _
def usV(l:List Nat):SV:=.sl 1 l.length (fun k=>[.i .u32 ((l.getD k 0:Nat):Int)])
theorem ydtx{a:Nat}(ha:a<2^24):IntKind.wrap .u32 (((zI (IntKind.bits .u32) (a:Int)) &&& ~~~zI (IntKind.bits .u32) 16777215).toNat:Int)=0:=by
 have h:=u32_andNot (a:=a) (b:=16777215) (by omega) (by decide)
 have e:difB a 16777215=0:=by
  rw[ycb];intro i;rw[ygm,show(16777215:Nat)=2^24-1 from rfl,zAP]
  by_cases hi:i<24
  .simp[hi]
  .rw[zT (zU ha (zO (by omega) (by omega)))]
   rfl
 rw[e]at h;exact h
theorem yqq(l:List Nat)(hl:l.length<=10)(h:∀k,k<l.length->l.getD k 0<2^24):Returns zG 223 [usV l] (.b true):=by
 refine Returns.of (ydcz _ _ ?_);simp only[c223,ycpu,ycxn,usV,go_sem,zB,↓reduceIte,reduceCtorEq];refine ybk (σ:=Nat) (fun k=>⟨[(7,.i .i64 k),(6,.i .i64 l.length),(5,usV l)],[]⟩) (fun k=>k<=l.length) (fun k=>l.length-k) 0 (zK _) ?_ ?_
 .refine yh [] [] [] ?_;simp only[usV,allQ,live,yc,zH,go_sem,zA,↓reduceIte,reduceCtorEq]
 .intro k hk;simp only[ycph,ycmm,ycyo,ycne,usV,go_sem,zA,zB,↓reduceIte,reduceCtorEq];refine⟨fun hlt=>?_,fun hlt=>?_⟩
  .have hk':k<l.length:=by omega
   have e0:=ydtx (h k hk');simp only[IntKind.bits]at e0;rw[e0];refine⟨⟨by omega,by omega⟩,fun h=>absurd rfl h,fun _=>?_⟩
   simp only[ycvs,go_sem,zA,zB,↓reduceIte,reduceCtorEq];refine⟨ikw (by omega) (by omega),?_⟩
   refine yj (k+1) (by omega) (by omega) ?_
   refine yh [] [] [] ?_;simp only[allQ,live,yc,ybb,go_sem,zA,↓reduceIte,reduceCtorEq];omega
  .simp only[ycwi,yig,go_sem,↓reduceIte]
theorem ybpd{k:Cnt}(hk : k.ok)(hs:k.steps<=4096):Returns zG 222 [.ag (cntV k)] (.b true):=by
 refine Returns.of (ydao _ _ ?_);obtain⟨h1,h2,h3,h4,h5,h6⟩:=hk
 have hP:=yqq [k.pend] (by simp) (fun i hi=>by have:i=0:=by simp at hi;omega
                                               subst this;exact h6)
 have f1:decide ((k.steps:Int)<0)=false:=by simp
 have f2:decide ((k.steps:Int)>4096)=false:=by simp;omega
 have f3:decide ((k.rounds:Int)<0)=false:=by simp
 have f4:decide ((k.rounds:Int)>k.begun)=false:=by simp;omega
 have f5:decide ((k.begun:Int)>k.steps)=false:=by simp;omega
 have f6:decide ((k.begun:Int)>k.rounds+1)=false:=by simp;omega
 have f7:decide ((k.steps:Int)<=k.moves)=true:=by simp;omega
 have f8:decide ((k.moves:Int)<=24*k.steps)=true:=by simp;omega
 simp(maxSteps:=5000000) only [c222,ycms,ycpm,cntV,f1,f2,f3,f4,f5,go_sem,zA,zB,zC,zF,↓reduceIte,reduceCtorEq];simp only[ycpi,f6,go_sem,zA,zB,zC,↓reduceIte,reduceCtorEq];refine⟨ikw (by omega) (by omega),?_⟩
 simp(maxSteps:=5000000) only [ycmc,f7,f8,go_sem,zA,zB,zC,zF,↓reduceIte,reduceCtorEq];refine⟨ikw (by omega) (by omega),?_⟩
 refine .inl ⟨fun q hq=>?_,hP.useS ?_ ?_⟩
 .obtain rfl:q=0:=by omega
  simp only[go_sem]
 .exact⟨ykn fun q hq=>by obtain rfl:q=0:=by omega
                         rfl,trivial⟩
 simp only[ybg,yig,go_sem,zA,zB,↓reduceIte,reduceCtorEq]
theorem ydbe{k:Cnt}(hk:k.ok)(hs:k.steps<4096){s e:Nat}(h0:s≠0)(hs24:s<2^24)(he:e<2^24):Returns zG 197 [.ag (cntV k),.i .u32 s,.i .u32 e] (.tp [.ag (cntV (addP k s e)),.i .i64 0]):=by
 refine Returns.of (ydcp _ _ ?_);have hV:=ybpd hk (by omega)
 have hO:=yblk (s:=s) (by omega)
 have hP:=yqq [s,e] (by simp) (fun i hi=>by
  have:i=0\/i=1:=by simp at hi;omega
  rcases this with rfl|rfl
  .exact hs24
  .exact he)
 obtain⟨h1,h2,h3,h4,h5,h6⟩:=hk;simp only[cntV]at hV;simp only[c197,ycjp,ycqf,cntV,go_sem,zA,zB,zF,↓reduceIte];refine hV.use ?_;have z0:((s:Int)==0)=false:=by simp;omega
 simp only[ybg,ycov,z0,go_sem,zA,zB,zC,zF,↓reduceIte,reduceCtorEq];refine .inl ⟨fun q hq=>?_,hP.useS ?_ ?_⟩
 .have:q=0\/q=1:=by omega
  rcases this with rfl|rfl
  .simp only[go_sem]
  .simp only[go_sem]
 .exact⟨ykn fun q hq=>by
   have:q=0\/q=1:=by omega
   rcases this with rfl|rfl<;>rfl,trivial⟩
 have z1:((k.steps:Int)==4096)=false:=by simp;omega
 simp only[ycuq,ycjn,z1,go_sem,zA,zB,zC,↓reduceIte,reduceCtorEq];refine⟨ikw (by omega) (by omega),?_⟩
 simp only[ycpe,clash,go_sem,zA,zB,zC,↓reduceIte,reduceCtorEq];refine hO.use ?_;have hpop:=yccj s hs24;have a1:=u32_andNot (a:=k.pend) (b:=s) (by omega) (by omega)
 have hd:difB k.pend s<2^24:=ybau h6;have a2:=u32_and (a:=difB k.pend s) (b:=e) (by omega) (by omega)
 obtain⟨P,hPe⟩:∃P,difB k.pend s&&&e=P:=⟨_,rfl⟩;rw[hPe]at a2;simp only[IntKind.bits]at a1 a2;simp only[ybg,go_sem,zA,zB,zC,↓reduceIte,reduceCtorEq];refine⟨ikw (by omega) (by omega),?_⟩
 simp only[ycxj,ybrn,ybzg,a1,a2,go_sem,zA,zB,zC,↓reduceIte,reduceCtorEq];refine⟨by decide,ikw (by omega) (by omega),fun hP0=>?_,fun hP0=>?_⟩
 .have hP1:P=0:=by omega
  have ea:addP k s e=⟨k.steps+1,k.moves+popP s,k.rounds+1,k.rounds+1,e⟩:=by unfold addP;simp only[hPe,hP1,if_true]
  rw[ea];simp only[ybsv,ybvl,ybgd,go_sem,zA,zB,zC,↓reduceIte,reduceCtorEq];exact Sim.refl _
 .have hP1:¬P=0:=by omega
  have ea:addP k s e=⟨k.steps+1,k.moves+popP s,k.rounds,k.rounds+1,P⟩:=by unfold addP;simp only[hPe,if_neg hP1]
  rw[ea];simp only[ybgd,go_sem,zA,zB,↓reduceIte];exact Sim.refl _
end Sh
end
section
def netP(ls:List (Int×Int)):Nat:=ls.foldl (fun a l=>a|||2^l.1.toNat) 0
theorem ybrv(ls:List (Int×Int))(k:Nat)(h:k<ls.length):netP (ls.take (k+1))=netP (ls.take k)|||2^(ls.getD k (0,0)).1.toNat:=by
 unfold netP;rw[zJ h,zAH,Sh.getD_at h];rfl
theorem ydgb(ls:List (Int×Int))(h:∀l∈ls,l.1<24):netP ls<2^24:=by
 unfold netP
 have:∀(ls:List (Int×Int)) (a:Nat),(∀l∈ls,l.1<24)->a<2^24->ls.foldl (fun a l=>a|||2^l.1.toNat) a<2^24:=by
  intro ls
  induction ls with
  |nil=>intro a _ h;exact h
  | cons l ls ih =>
    intro a hl ha;refine ih _ (fun x hx=>hl x (zAY _ hx)) (zBG ha ?_);have:=hl l zBE;exact zV (by omega) (by omega)
 exact this ls 0 h (by decide)
namespace Sh
open Ev Go.RowKit
theorem u32k{a:Nat}(h:a<2^32):inK .u32 (a:Int):=⟨by simp[IntKind.min,IntKind.signed],by simp[IntKind.max,IntKind.bits,IntKind.signed];omega⟩
theorem ycco{g:Gr}(hg:ybe g):Returns zG 109 [grV g] (.i .u32 (2^g.ids.length-1:Nat)):=by
 refine Returns.of (ydiv _ _ ?_);have h3:=hg.2.2.1;have h4:=hg.2.1;simp only[c109,ycli,ycsa,grV,yu,go_sem,zA,zB,zC,zF,↓reduceIte,reduceCtorEq];have h5:=yoo (v:=g.ids.length) (by omega)
 rw[zM]at h5;have h6:2^g.ids.length<2^32:=zV (by omega) (by omega)
 have h7:1<=2^g.ids.length:=Nat.one_le_two_pow;have h8:(((2^g.ids.length:Nat):Int))-1=((2^g.ids.length-1:Nat):Int):=by omega
 rw[h5,h8];refine⟨⟨by omega,by show _<((32:Nat):Int);omega⟩,u32k (by omega),Sim.refl _⟩
theorem ybpb{g:Gr}(hg:ybe g):Returns zG 110 [grV g] (usV (g.ports.map netP)):=by
 refine Returns.of (ydci _ _ ?_);have h3:=hg.2.2.1;have h4:=hg.2.1;simp only[c110,ycyt,ycvm,ydan,grV,yu,yx,go_sem,zA,zB,zF,↓reduceIte,reduceCtorEq];refine⟨by omega,?_⟩
 obtain⟨n,hn⟩:∃n,g.ports.length=n:=⟨_,rfl⟩
 let val:Nat->Nat->Nat:=fun k i=>if i<k then netP (g.ports.getD i [])else 0
 refine ybk (σ:=Nat) (fun k=>⟨[(15,.i .i64 k),(14,.i .i64 n),(13,yx g.ports),(3,.os (11,0) 0 n true)],
  [(11,.one (some ⟨40,false,1,n,fun i=>[.i .u32 (val k i:Nat)]⟩))]⟩) (fun k=>k<=n) (fun k=>n-k) 0 (zK _) ?_ ?_
 .refine yh [] [] [] ?_;simp only[yx,hn,allQ,live,yc,ybb,zH,go_sem,zA,↓reduceIte,reduceCtorEq];simp[val]
 .intro k hk;obtain⟨L,hL⟩:∃L,g.ports.getD k []=L:=⟨_,rfl⟩;simp only[ycww,ycug,ycxz,yx,ybc,hn,hL,go_sem,zA,zB,↓reduceIte,reduceCtorEq];refine⟨fun hlt=>?_,fun hlt=>?_⟩
  .have hk':k<n:=by omega
   have hkp:k<g.ports.length:=by omega
   have hlk:∀l∈L,0<=l.1/\l.1<24:=fun l hl=>by
    rw[<-hL,getD_at hkp]at hl;obtain⟨a1,a2,_⟩:=(hg.2.2.2.2.2.1 ⟨k,hkp⟩).1 l hl;exact⟨a1,by omega⟩
   have hdeg:=hg.deg_lt (v:=k);rw[hL]at hdeg;refine⟨by omega,?_⟩
   obtain⟨m,hm⟩:∃m,L.length=m:=⟨_,rfl⟩;rw[hm]
   let val2:Nat->Nat->Nat:=fun j i=>if i<k then netP (g.ports.getD i [])else if i=k then netP (L.take j)else 0
   refine ybk (σ:=Nat) (fun j=>⟨[(22,.i .i64 j),(21,.i .i64 m),(20,ybc L),(4,.i .i64 k),(15,.i .i64 k),(14,.i .i64 n),(13,yx g.ports),(3,.os (11,0) 0 n true)],
    [(11,.one (some ⟨40,false,1,n,fun i=>[.i .u32 (val2 j i:Nat)]⟩))]⟩) (fun j=>j<=m) (fun j=>m-j) 0 (zK _) ?_ ?_
   .refine yh [] [] [] ?_;simp only[yx,ybc,hn,hm,allQ,live,yc,ybb,zH,go_sem,zA,↓reduceIte,reduceCtorEq];intro i hi;simp only[val,val2]
    by_cases q:i<k
    .rw[if_pos q,if_pos q]
    .rw[if_neg q,if_neg q]
     by_cases q2:i=k
     .rw[if_pos q2];rfl
     .rw[if_neg q2]
   .intro j hj;obtain⟨l,hl⟩:∃l,L.getD j (0,0)=l:=⟨_,rfl⟩;simp only[yclb,ycsh,yx,ybc,hn,hm,hl,go_sem,zA,zB,zF,↓reduceIte,reduceCtorEq];refine⟨fun hlj=>⟨by omega,?_⟩,fun hlj=>?_⟩
    .have hj':j<L.length:=by omega
     have hl2:=hlk l (by rw[<-hl,getD_at hj'];exact zL _)
     obtain⟨t,ht⟩:∃t:Nat,l.1=t:=⟨l.1.toNat,by omega⟩
     have h24t:t<24:=by omega
     have hval:val2 j k<2^24:=by
      simp only[val2,if_neg (zBM k),if_true];exact ydgb _ fun l hl=>(hlk l (List.mem_of_mem_take hl)).2
     have hp:2^t<2^24:=zV (by omega) h24t
     have hsh:=yoo (v:=t) (by omega)
     have hor:=u32_or (a:=val2 j k) (b:=2^t) (by omega) (by omega)
     rw[zM]at hsh;simp only[IntKind.bits]at hor;simp only[ycjs,ht,clash,hsh,hor,go_sem,zA,zB,zC,↓reduceIte,reduceCtorEq];refine⟨by omega,by omega,⟨by omega,by show _<((32:Nat):Int);omega⟩,by omega,by omega,by decide,?_⟩
     simp only[ycwx,go_sem,zA,zB,↓reduceIte,reduceCtorEq];refine⟨ikw (by omega) (by omega),?_⟩
     refine yj (j+1) (by omega) (by omega) ?_
     refine yh [] [] [] ?_;simp only[allQ,live,yc,ybb,go_sem,zA,↓reduceIte,reduceCtorEq];refine⟨by omega,fun i hi=>?_⟩
     have hsn:=ybrv L j hj';rw[hl,ht,zM]at hsn
     by_cases q:i=k
     .simp only[if_pos q];subst q;simp only[go_sem,live,ybb,go_sem,reduceCtorEq];simp only[val2,if_neg (zBM i),if_true,hsn]
     .simp only[if_neg q];simp only[go_sem,live,ybb,go_sem,reduceCtorEq];simp only[val2,if_neg q]
    .obtain rfl:j=m:=by omega
     simp only[ybrk,go_sem,zA,zB,↓reduceIte,reduceCtorEq];refine⟨ikw (by omega) (by omega),?_⟩
     refine yj (k+1) (by omega) (by omega) ?_
     refine yh [] [] [] ?_;simp only[allQ,live,yc,ybb,go_sem,zA,↓reduceIte,reduceCtorEq];refine⟨by omega,fun i hi=>?_⟩
     simp only[val,val2]
     by_cases q:i<k
     .rw[if_pos q,if_pos (by omega)]
     .rw[if_neg q]
      by_cases q2:i=k
      .rw[if_pos q2,if_pos (by omega),q2,hL,<-hm,zAJ]
      .rw[if_neg q2,if_neg (by omega)]
  .obtain rfl:k=n:=by omega
   simp only[ybyz,go_sem,zA,zB,↓reduceIte,reduceCtorEq];unfold usV;rw[zAN,hn];refine ykn fun i hi=>?_;have hi':i<g.ports.length:=by omega
   simp only[val,if_pos hi];simp[zX,hi']
end Sh
end
end Go.Proofs.YtiejahgklcjhkaaGreatDoor
