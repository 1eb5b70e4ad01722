/- Joined. -/
import Derived.Test.YtiejahgklcjhkaaGreatDoorPkW9
import Derived.Test.YtiejahgklcjhkaaGreatDoorPkW5
import Derived.Test.YtiejahgklcjhkaaGreatDoorPkW6
set_option linter.unusedSimpArgs false
set_option linter.unusedVariables false
set_option maxRecDepth 1000000
open Nat renaming reduceEqDiff->zA,reduceAdd->zB,reduceLT->zC,reduceLeDiff->zD,ble_eq_true_of_le->zI,zero_le->zJ,le_refl->zK,add_comm->zS,reduceBEq->zV,beq_refl->zZ,not_lt_zero->zAA,le_of_ble_eq_true->zAB,zero_add->zAE,beq->zAF,blt->zAL,pow_lt_pow_right->zAR,eq_zero_or_pos->zAW,lt_of_lt_of_le->zAX,reduceMul->zBC,testBit_two_pow->zBD,sub_self->zBE,ble->zBH,two_pow_pos->zBQ,lt_irrefl->zBY,mul_comm->zCA
open Go.Proofs.Tryz renaming prog->zF,func46->zCC
open Bool renaming and_eq_true->zG,true_and->zO,not_eq_true'->zAC,cond_eq_ite->zBK,eq_iff_iff->zBO,false_and->zBV
open Int renaming natCast_zero->zH,toNat_natCast->zAH,tdiv_eq_ediv_of_nonneg->zAJ,eq_ofNat_of_zero_le->zAP,toNat_of_nonneg->zAS,reduceToNat->zBS
open List renaming take_succ_eq_append_getElem->zL,range->zM,getElem_mem->zN,length_cons->zQ,getElem?_eq_getElem->zT,foldl_append->zU,eq_nil_of_length_eq_zero->zW,not_mem_nil->zX,mem_cons_self->zY,take_length->zAD,length_append->zAG,mem_cons_of_mem->zAI,getD_eq_getElem?_getD->zAK,map_congr_left->zAM,length_map->zAN,getD->zAO,range_succ->zAQ,getD_cons_zero->zAT,getD_cons_succ->zAU,getElem_of_mem->zAV,nodup_cons->zAY,length_pos_of_mem->zAZ,length_singleton->zBA,map_cons->zBB,map_map->zBG,pairwise_map->zBI,length->zBJ,getElem_map->zBL,all_eq_true->zBM,map_append->zBN,foldl_cons->zBP,length_nil->zBR,mem_range->zBT,nodup_nil->zBU,take->zBW,drop->zBX,all_cons->zBZ
open And renaming intro->zBF
open Eq renaming trans->zCB
open Go
namespace Go.Proofs.YtiejahgklcjhkaaGreatDoor
section
namespace Sh
open Go Ev
def ybyr:LO:=[o3 (.box 27 (.tmp 0)) 1 0,o3 (.mv (ci' 0)) 2 0,o3 (.mv (ci' 0)) 3 2]
def ybvt:LO:=[ld' true 2 1 6 0,cl' 96 [6] 7 1,o3 (.un .not (.tmp 7)) 8 3]
def ycod:LO:=[o3 (.mv (ci' 0)) 2 0,o3 (.mv (ci' 0)) 3 1]
def ycxc:LO:=[fa' 1 1 1 9 0,ld' false 1 9 10 1,ln' 10 11 3,o3 (.mv (ci' 0)) 12 0]
def ycbf:LO:=[bn' .lss 12 11 13 0]
def ycsv:LO:=[ix' 1 10 12 14 0,ld' false 1 14 15 1,mv' 15 5 3]
def ycyr:LO:=[mv' 3 16 0,mv' 5 17 0,ln' 17 18 2,bn' .add 16 18 19 7,mv' 19 3 15]
def ycla:LO:=[o3 (.bin .add (.tmp 12) (ci' 1)) 20 0,mv' 20 12 1]
def ycku:LO:=[fa' 0 1 1 21 0,ld' false 1 21 22 1,ln' 22 23 3,mv' 3 24 0,o3 (.bin .quo (.tmp 24) (ci' 2)) 25 8,mv' 23 2 7,mv' 25 3 63]
def c122:SC:=(.seq (.reg false ybyr) (.seq (.seq (.reg false ybvt) (.cond (.tmp 8) (.seq (.reg false ycod) .ret) .skip)) (.seq (.seq (.reg false ycxc) (.block 0 (.loop (.seq (.reg false ycbf) (.seq (.cond (.tmp 13) .skip (.exit 0)) (.seq (.block 1 (.seq (.reg false ycsv) (.reg false ycyr))) (.reg false ycla))))))) (.seq (.reg false ycku) .ret))))
theorem yded:Fn 122 c122 [.t 2,.t 3]:=fn_0 Tryz.func122 (by kernel_rfl) (by kernel_rfl)
def ybyt:LO:=[o3 (.box 27 (.tmp 0)) 1 0,o3 (.mv (.const (.bool false))) 2 0]
def ybst:LO:=[ld' true 2 1 5 0,cl' 137 [5] 6 1,o3 (.un .not (.tmp 6)) 7 3]
def ycnu:LO:=[o3 (.mv (.const (.bool false))) 2 0]
def ycrl:LO:=[ld' true 2 1 9 0,cl' 122 [9] 10 1,mv' 10 8 3,xt' 8 0 11 7,xt' 8 1 12 7,mv' 11 3 15,mv' 12 4 63]
def ycnq:LO:=[mv' 4 13 0,mv' 3 14 0,o3 (.bin .sub (.tmp 14) (ci' 1)) 15 2,bn' .eql 13 15 16 7,mv' 16 2 15]
def c136:SC:=(.seq (.reg false ybyt) (.seq (.seq (.reg false ybst) (.cond (.tmp 7) (.seq (.reg false ycnu) .ret) .skip)) (.seq (.reg false ycrl) (.seq (.reg false ycnq) .ret))))
theorem ydhn:Fn 136 c136 [.t 2]:=fn_0 Tryz.func136 (by kernel_rfl) (by kernel_rfl)
def ydbx:LO:=[o3 (.box 27 (.tmp 0)) 1 0,o3 (.mv (ci' 0)) 2 0]
def ydgg:LO:=[ld' true 2 1 5 0,cl' 137 [5] 6 1,o3 (.un .not (.tmp 6)) 7 3]
def ydnq:LO:=[o3 (.mv (.const (.int .i64 (-1)))) 2 0]
def ydje:LO:=[o3 (.mv (ci' 0)) 3 0]
def ydnf:LO:=[fa' 1 1 1 8 0,ld' false 1 8 9 1,ln' 9 10 3,o3 (.mv (ci' 0)) 11 0]
def ydhp:LO:=[bn' .lss 11 10 12 0]
def ydjn:LO:=[mv' 11 13 0,mv' 13 4 1]
def ydke:LO:=[mv' 3 14 0,ld' true 2 1 15 0,mv' 4 16 0,cl' 139 [15,16] 17 6,cl' 138 [17] 18 14,o3 (.mm true (.tmp 14) (.tmp 18)) 19 31,mv' 19 3 63]
def ydsb:LO:=[o3 (.bin .add (.tmp 11) (ci' 1)) 20 0,mv' 20 11 1]
def ydkp:LO:=[mv' 3 21 0,mv' 21 2 1]
def c88:SC:=(.seq (.reg false ydbx) (.seq (.seq (.reg false ydgg) (.cond (.tmp 7) (.seq (.reg false ydnq) .ret) .skip)) (.seq (.reg false ydje) (.seq (.seq (.reg false ydnf) (.block 0 (.loop (.seq (.reg false ydhp) (.seq (.cond (.tmp 12) .skip (.exit 0)) (.seq (.block 1 (.seq (.reg false ydjn) (.reg false ydke))) (.reg false ydsb))))))) (.seq (.reg false ydkp) .ret)))))
theorem ydkc:Fn 88 c88 [.t 2]:=fn_0 Tryz.func88 (by kernel_rfl) (by kernel_rfl)
def yctj:LO:=[o3 (.box 27 (.tmp 0)) 3 0,o3 (.mv (ci' 0)) 6 0]
def ycya:LO:=[o3 (.mv (ci' 1)) 7 0]
def ydaf:LO:=[fa' 1 1 3 10 0,ld' false 1 10 11 1,mv' 2 12 0,ix' 1 11 12 13 7,ld' false 1 13 14 15,ln' 14 15 31,o3 (.mv (ci' 0)) 16 0]
def ybks:LO:=[bn' .lss 16 15 17 0]
def ybyk:LO:=[ix' 2 14 16 18 0,ld' true 2 18 19 1,o3 (.alloc 95 1 [.i .i64 0,.i .i64 0]) 9 0,o0 (.store 2 (.tmp 9) (.tmp 19)) 7]
def ybtz:LO:=[fa' 0 1 9 20 0,ld' false 1 20 21 1,mv' 1 22 0,bn' .neq 21 22 23 7]
def ycld:LO:=[mv' 7 24 0,ld' true 2 3 25 0,mv' 2 26 0,fa' 0 1 9 27 0,ld' false 1 27 28 8,cl' 142 [25,26,28] 29 30,o3 (.bin .add (ci' 1) (.tmp 29)) 30 62,o3 (.mm true (.tmp 24) (.tmp 30)) 31 127,mv' 31 7 255]
def ybsp:LO:=[o3 (.bin .add (.tmp 16) (ci' 1)) 32 0,mv' 32 16 1]
def ycyd:LO:=[mv' 7 33 0,mv' 33 6 1]
def c142:SC:=(.seq (.reg false yctj) (.seq (.reg false ycya) (.seq (.seq (.reg false ydaf) (.block 0 (.loop (.seq (.reg false ybks) (.seq (.cond (.tmp 17) .skip (.exit 0)) (.seq (.block 1 (.seq (.reg false ybyk) (.seq (.reg false ybtz) (.cond (.tmp 23) (.reg false ycld) .skip)))) (.reg false ybsp))))))) (.seq (.reg false ycyd) .ret))))
theorem ydgm:Fn 142 c142 [.t 6]:=fn_0 Tryz.func142 (by kernel_rfl) (by kernel_rfl)
def ydqn:LO:=[o3 (.box 27 (.tmp 0)) 1 0,o3 (.mv (.const (.slice none 0 0))) 2 0]
def ydjd:LO:=[fa' 0 1 1 10 0,ld' false 1 10 11 1,ln' 11 12 3,o3 (.mk 3 1 8 [.i .i64 0] (.tmp 12) (.tmp 12)) 13 7,mv' 13 3 15]
def ydot:LO:=[fa' 1 1 1 14 0,ld' false 1 14 15 1,ln' 15 16 3,o3 (.mv (ci' 0)) 17 0]
def ydgc:LO:=[bn' .lss 17 16 18 0]
def ydlk:LO:=[mv' 17 19 0,ix' 1 15 17 20 0,ld' false 1 20 21 2,mv' 19 4 7,mv' 21 5 15]
def ydrw:LO:=[o3 (.mv (ci' 0)) 6 0]
def ydov:LO:=[mv' 5 22 0,ln' 22 23 1,o3 (.mv (ci' 0)) 24 0]
def ydda:LO:=[bn' .lss 24 23 25 0]
def ydqq:LO:=[ix' 2 22 24 26 0,ld' true 2 26 27 1,o3 (.alloc 95 1 [.i .i64 0,.i .i64 0]) 8 0,o0 (.store 2 (.tmp 8) (.tmp 27)) 7]
def ydop:LO:=[ld' true 2 1 28 0,mv' 4 29 0,fa' 0 1 8 30 0,ld' false 1 30 31 4,cl' 142 [28,29,31] 32 15,mv' 32 9 31]
def ycyy:LO:=[mv' 3 33 0,mv' 4 34 0,mv' 3 35 0,mv' 4 36 0,ix' 1 35 36 37 12,ld' false 1 37 38 28,mv' 9 39 0,mv' 6 40 0,o3 (.mm false (.tmp 39) (.tmp 40)) 41 192,o3 (.mm true (.tmp 38) (.tmp 41)) 42 508,ix' 1 33 34 43 1023,o0 (.store 1 (.tmp 43) (.tmp 42)) 2047]
def ycsk:LO:=[mv' 6 44 0,mv' 9 45 0,o3 (.mm true (.tmp 44) (.tmp 45)) 46 3,mv' 46 6 7]
def ycql:LO:=[o3 (.bin .add (.tmp 24) (ci' 1)) 47 0,mv' 47 24 1]
def ydah:LO:=[o3 (.bin .add (.tmp 17) (ci' 1)) 48 0,mv' 48 17 1]
def ycpo:LO:=[mv' 3 49 0,mv' 49 2 1]
def c91:SC:=(.seq (.reg false ydqn) (.seq (.reg false ydjd) (.seq (.seq (.reg false ydot) (.block 0 (.loop (.seq (.reg false ydgc) (.seq (.cond (.tmp 18) .skip (.exit 0)) (.seq (.block 1 (.seq (.reg false ydlk) (.seq (.reg false ydrw) (.seq (.reg false ydov) (.block 2 (.loop (.seq (.reg false ydda) (.seq (.cond (.tmp 25) .skip (.exit 2)) (.seq (.block 3 (.seq (.reg false ydqq) (.seq (.reg false ydop) (.seq (.reg false ycyy) (.reg false ycsk))))) (.reg false ycql)))))))))) (.reg false ydah))))))) (.seq (.reg false ycpo) .ret))))
theorem ydmx:Fn 91 c91 [.t 2]:=fn_0 Tryz.func91 (by kernel_rfl) (by kernel_rfl)
def ydrr:LO:=[o3 (.box 27 (.tmp 0)) 2 0,o3 (.box 90 (.tmp 1)) 3 0,o3 (.mv (.const (.int .u32 0))) 4 0]
def ydme:LO:=[ld' true 2 2 8 0,cl' 109 [8] 9 1,o3 (.alloc 40 1 [.i .u32 0]) 5 0,o0 (.store 1 (.tmp 5) (.tmp 9)) 7]
def ydpd:LO:=[ld' true 2 2 10 0,cl' 120 [10] 11 1]
def ydsj:LO:=[mv' 12 6 0]
def ydqo:LO:=[o3 (.alloc 95 1 [.i .i64 0,.i .i64 0]) 7 0,o0 (.store 2 (.tmp 7) (.tmp 13)) 1]
def ydrd:LO:=[ld' false 1 3 14 0,mv' 6 15 0,o3 (.call (.tmp 14) [(.tmp 15)]) 16 3,ld' false 1 3 17 0,fa' 0 1 7 18 0,ld' false 1 18 19 16,o3 (.call (.tmp 17) [(.tmp 19)]) 20 63,bn' .lss 16 20 21 127]
def ydou:LO:=[ld' false 1 5 22 0,mv' 6 23 0,o3 (.bin .shl (.const (.int .u32 1)) (.tmp 23)) 24 2,bn' .andNot 22 24 25 7,o0 (.store 1 (.tmp 5) (.tmp 25)) 15]
def ydkz:LO:=[ld' false 1 5 26 0,mv' 26 4 1]
def c81:SC:=(.seq (.reg false ydrr) (.seq (.reg false ydme) (.seq (.seq (.reg false ydpd) (.block 0 (.range (.tmp 11) [12,13] (.seq (.reg false ydsj) (.reg false ydqo)) (.block 1 (.seq (.reg true ydrd) (.cond (.tmp 21) (.reg true ydou) .skip)))))) (.seq (.reg false ydkz) .ret))))
theorem ydrm:Fn 81 c81 [.t 4]:=fn_0 Tryz.func81 (by kernel_rfl) (by kernel_rfl)
def ybtc:LO:=[o3 (.box 27 (.tmp 0)) 1 0,o3 (.mv (ci' 0)) 2 0,o3 (.mv (ci' 0)) 3 2]
def ycbe:LO:=[ld' true 2 1 6 0,cl' 85 [6] 7 1,o3 (.un .not (.tmp 7)) 8 3]
def ycjx:LO:=[o3 (.mv (ci' 0)) 2 0,o3 (.mv (ci' 0)) 3 1]
def ycof:LO:=[o3 (.mv (ci' 0)) 4 0]
def ycyu:LO:=[o3 (.mv (ci' 0)) 5 0]
def ybzn:LO:=[mv' 5 9 0,fa' 1 1 1 10 0,ld' false 1 10 11 2,ln' 11 12 6,bn' .lss 9 12 13 15]
def ycyw:LO:=[mv' 4 16 0,fa' 1 1 1 17 0,ld' false 1 17 18 2,mv' 5 19 0,ix' 1 18 19 20 14,ld' false 1 20 21 30,ln' 21 22 62,bn' .add 16 22 23 127,mv' 23 4 255]
def ycvr:LO:=[mv' 5 14 0,o3 (.bin .add (.tmp 14) (ci' 1)) 15 1,mv' 15 5 3]
def ycmw:LO:=[fa' 1 1 1 24 0,ld' false 1 24 25 1,ln' 25 26 3,mv' 4 27 0,o3 (.bin .quo (.tmp 27) (ci' 2)) 28 8,mv' 26 2 7,mv' 28 3 63]
def c124:SC:=(.seq (.reg false ybtc) (.seq (.seq (.reg false ycbe) (.cond (.tmp 8) (.seq (.reg false ycjx) .ret) .skip)) (.seq (.reg false ycof) (.seq (.seq (.reg false ycyu) (.block 0 (.loop (.seq (.seq (.reg false ybzn) (.cond (.tmp 13) .skip (.exit 0))) (.seq (.block 1 (.reg false ycyw)) (.reg false ycvr)))))) (.seq (.reg false ycmw) .ret)))))
theorem yddz:Fn 124 c124 [.t 2,.t 3]:=fn_0 Tryz.func124 (by kernel_rfl) (by kernel_rfl)
def ybmg:LO:=[o3 (.box 27 (.tmp 0)) 1 0,o3 (.mv (.const (.bool false))) 2 0]
def ybkx:LO:=[ld' true 2 1 6 0,cl' 124 [6] 7 1,mv' 7 5 3,xt' 5 0 8 7,xt' 5 1 9 7,mv' 8 3 15,mv' 9 4 63]
def ybkz:LO:=[ld' true 2 1 10 0,cl' 141 [10] 11 1,mv' 11 12 3,⟨.mv (.tmp 4),some 13,some (12,true),7⟩,⟨.mv (.tmp 3),some 14,some (12,true),7⟩,⟨.bin .sub (.tmp 14) (ci' 1),some 15,some (12,true),23⟩,⟨.bin .eql (.tmp 13) (.tmp 15),some 16,some (12,true),63⟩,o3 (.pick (.tmp 12) (.tmp 16) (.const (.bool false))) 17 127,mv' 17 2 255]
def c140:SC:=(.seq (.reg false ybmg) (.seq (.reg false ybkx) (.seq (.reg false ybkz) .ret)))
theorem ydiw:Fn 140 c140 [.t 2]:=fn_0 Tryz.func140 (by kernel_rfl) (by kernel_rfl)
def ydbq:LO:=[o3 (.box 27 (.tmp 0)) 1 0,o3 (.mv (ci' 0)) 2 0]
def ydcs:LO:=[ld' true 2 1 5 0,cl' 141 [5] 6 1,o3 (.un .not (.tmp 6)) 7 3]
def ydlf:LO:=[o3 (.mv (.const (.int .i64 (-1)))) 2 0]
def ydqi:LO:=[o3 (.mv (ci' 0)) 3 0]
def ydnm:LO:=[o3 (.mv (ci' 0)) 4 0]
def ydbg:LO:=[mv' 4 8 0,fa' 1 1 1 9 0,ld' false 1 9 10 2,ln' 10 11 6,bn' .lss 8 11 12 15]
def ydpt:LO:=[mv' 3 15 0,ld' true 2 1 16 0,mv' 4 17 0,cl' 28 [16,17] 18 6,o3 (.mm true (.tmp 15) (.tmp 18)) 19 15,mv' 19 3 31]
def ydlz:LO:=[mv' 4 13 0,o3 (.bin .add (.tmp 13) (ci' 1)) 14 1,mv' 14 4 3]
def ydms:LO:=[mv' 3 20 0,mv' 20 2 1]
def c90:SC:=(.seq (.reg false ydbq) (.seq (.seq (.reg false ydcs) (.cond (.tmp 7) (.seq (.reg false ydlf) .ret) .skip)) (.seq (.reg false ydqi) (.seq (.seq (.reg false ydnm) (.block 0 (.loop (.seq (.seq (.reg false ydbg) (.cond (.tmp 12) .skip (.exit 0))) (.seq (.block 1 (.reg false ydpt)) (.reg false ydlz)))))) (.seq (.reg false ydms) .ret)))))
theorem ydqk:Fn 90 c90 [.t 2]:=fn_0 Tryz.func90 (by kernel_rfl) (by kernel_rfl)
def c5_0:LO:=[o3 (.box 24 (.tmp 0)) 3 0,o3 (.mv (.const (.bool false))) 6 0]
def c5_1:LO:=[ld' true 6 3 15 0,o3 (.call (.func 21) [(.tmp 15),(ci' 10)]) 16 1,o3 (.alloc 27 1 [.a (.slice none 0 0),.a (.slice none 0 0)]) 7 0,o0 (.store 2 (.tmp 7) (.tmp 16)) 7]
def c5_2:LO:=[ld' true 2 7 17 0,cl' 25 [] 18 0,mv' 1 19 0,cl' 24 [17,18,19] 20 7,mv' 20 8 15]
def c5_3:LO:=[cl' 23 [] 22 0,ld' true 2 7 23 0,ld' true 2 7 24 0,cl' 33 [24] 25 5,o3 (.field false 0 1 (.tmp 25)) 26 13,mv' 8 27 0,mv' 2 28 0,o3 (.call (.func 26) [(.tmp 28),(ci' 120)]) 29 77,cl' 22 [22,23,26,27,29] 30 255,mv' 30 21 511,xt' 21 0 31 1023,xt' 21 1 32 1023,xt' 21 2 33 1023,mv' 31 9 2047,mv' 32 10 12287,mv' 33 11 32767]
def c5_4:LO:=[mv' 11 34 0,o3 (.un .not (.tmp 34)) 35 1,mv' 35 36 3,⟨.load true 2 (.tmp 7),some 37,some (36,false),7⟩,⟨.call (.func 33) [(.tmp 37)],some 38,some (36,false),15⟩,⟨.load true 2 (.tmp 7),some 39,some (36,false),7⟩,⟨.call (.func 34) [(.tmp 39)],some 40,some (36,false),63⟩,⟨.seq true [false,true,true,false,false] (.tmp 38) (.tmp 40),some 41,some (36,false),127⟩,o3 (.pick (.tmp 36) (.const (.bool true)) (.tmp 41)) 42 255]
def c5_5:LO:=[o3 (.mv (.const (.bool false))) 6 0]
def c5_6:LO:=[o3 (.mv (.const (.slice none 0 0))) 12 0]
def c5_7:LO:=[o3 (.mv (ci' 0)) 13 0]
def c5_8:LO:=[mv' 13 43 0,mv' 9 44 0,ln' 44 45 2,bn' .lss 43 45 46 7]
def ydti:LO:=[mv' 12 49 0,ld' true 2 7 50 0,mv' 9 51 0,mv' 13 52 0,ix' 1 51 52 53 12,ld' false 1 53 54 28,cl' 35 [50,54] 55 62,o3 (.bslice 4 1 1 [.b false] [(0,1,(.tmp 55))]) 56 126,o3 (.app 4 1 1 (.tmp 49) (.tmp 56)) 57 255,mv' 57 12 511]
def c5_9:LO:=[mv' 13 47 0,o3 (.bin .add (.tmp 47) (ci' 1)) 48 1,mv' 48 13 3]
def ydte:LO:=[cl' 23 [] 58 0,cl' 37 [58] 59 1,ld' true 2 7 60 0,mv' 9 61 0,mv' 9 62 0,ln' 62 63 16,o3 (.bin .sub (.tmp 63) (ci' 1)) 64 48,ix' 1 61 64 65 120,ld' false 1 65 66 248,cl' 36 [59,60,66] 67 511,o3 (.bin .eql (.tmp 67) (.const (.int .u32 0))) 68 1023,mv' 68 14 2047]
def ydus:LO:=[cl' 30 [] 69 0,mv' 69 70 1,⟨.mv (.tmp 12),some 71,some (70,true),3⟩,⟨.mv (.tmp 10),some 72,some (70,true),3⟩,⟨.load true 2 (.tmp 7),some 73,some (70,true),3⟩,⟨.call (.func 33) [(.tmp 73)],some 74,some (70,true),19⟩,⟨.mv (.tmp 14),some 75,some (70,true),3⟩,⟨.call (.func 38) [(.tmp 71),(.tmp 72),(.tmp 74),(.tmp 75)],some 76,some (70,true),127⟩,o3 (.pick (.tmp 70) (.tmp 76) (.const (.bool false))) 77 255,mv' 77 6 511]
def c5:SC:=(.seq (.reg false c5_0) (.seq (.reg false c5_1) (.seq (.reg true c5_2) (.seq (.reg true c5_3) (.seq (.seq (.reg true c5_4) (.cond (.tmp 42) (.seq (.reg false c5_5) .ret) .skip)) (.seq (.reg false c5_6) (.seq (.seq (.reg false c5_7) (.block 0 (.loop (.seq (.seq (.reg false c5_8) (.cond (.tmp 46) .skip (.exit 0))) (.seq (.block 1 (.reg true ydti)) (.reg false c5_9)))))) (.seq (.reg true ydte) (.seq (.reg false ydus) .ret)))))))))
def c6_0:LO:=[o3 (.box 24 (.tmp 0)) 3 0,o3 (.mv (.const (.bool false))) 6 0]
def c6_1:LO:=[ld' true 6 3 13 0,o3 (.call (.func 21) [(.tmp 13),(ci' 10)]) 14 1,o3 (.alloc 27 1 [.a (.slice none 0 0),.a (.slice none 0 0)]) 7 0,o0 (.store 2 (.tmp 7) (.tmp 14)) 7]
def c6_2:LO:=[cl' 23 [] 15 0,cl' 37 [15] 16 1,o3 (.alloc 58 1 [.a (.string (ByteArray.mk #[])),.a (.slice none 0 0),.a (.slice none 0 0)]) 8 0,o0 (.store 3 (.tmp 8) (.tmp 16)) 7]
def c6_3:LO:=[cl' 23 [] 18 0,ld' true 2 7 19 0,ld' true 2 7 20 0,cl' 33 [20] 21 5,o3 (.field false 0 1 (.tmp 21)) 22 13,ld' true 2 7 23 0,cl' 25 [] 24 13,mv' 1 25 0,cl' 24 [23,24,25] 26 237,mv' 2 27 0,o3 (.call (.func 26) [(.tmp 27),(ci' 60)]) 28 1005,cl' 22 [18,19,22,26,28] 29 2047,mv' 29 17 4095,xt' 17 0 30 8191,xt' 17 1 31 8191,xt' 17 2 32 8191,mv' 30 9 16383,mv' 31 10 98303,mv' 32 11 262143]
def c6_4:LO:=[o3 (.mv (ci' 0)) 12 0]
def c6_5:LO:=[mv' 12 33 0,mv' 9 34 0,ln' 34 35 2,bn' .lss 33 35 36 7]
def c6_7:LO:=[ld' true 3 8 39 0,ld' true 2 7 40 0,mv' 9 41 0,mv' 12 42 0,ix' 1 41 42 43 12,ld' false 1 43 44 28,cl' 36 [39,40,44] 45 63,o3 (.bin .eql (.tmp 45) (.const (.int .u32 0))) 46 127,ld' true 2 7 47 0,mv' 9 48 0,mv' 12 49 0,ix' 1 48 49 50 1536,ld' false 1 50 51 3584,cl' 35 [47,51] 52 8063,o3 (.beq true (.tmp 46) (.tmp 52)) 53 16383]
def c6_8:LO:=[o3 (.mv (.const (.bool false))) 6 0]
def c6_6:LO:=[mv' 12 37 0,o3 (.bin .add (.tmp 37) (ci' 1)) 38 1,mv' 38 12 3]
def c6_9:LO:=[cl' 30 [] 54 0,mv' 54 55 1,⟨.mv (.tmp 11),some 56,some (55,true),3⟩,o3 (.pick (.tmp 55) (.tmp 56) (.const (.bool false))) 57 7,mv' 57 6 15]
def c6:SC:=(.seq (.reg false c6_0) (.seq (.reg false c6_1) (.seq (.reg false c6_2) (.seq (.reg true c6_3) (.seq (.seq (.reg false c6_4) (.block 0 (.loop (.seq (.seq (.reg false c6_5) (.cond (.tmp 36) .skip (.exit 0))) (.seq (.block 1 (.seq (.reg true c6_7) (.cond (.tmp 53) (.seq (.reg false c6_8) .ret) .skip))) (.reg false c6_6)))))) (.seq (.reg false c6_9) .ret))))))
def c4_0:LO:=[o3 (.box 24 (.tmp 0)) 3 0,o3 (.mv (.const (.bool false))) 6 0]
def c4_1:LO:=[ld' true 6 3 16 0,o3 (.call (.func 21) [(.tmp 16),(ci' 10)]) 17 1,o3 (.alloc 27 1 [.a (.slice none 0 0),.a (.slice none 0 0)]) 7 0,o0 (.store 2 (.tmp 7) (.tmp 17)) 7]
def c4_2:LO:=[cl' 23 [] 19 0,ld' true 2 7 20 0,ld' true 2 7 21 0,cl' 25 [] 22 1,mv' 1 23 0,cl' 24 [21,22,23] 24 29,mv' 2 25 0,o3 (.call (.func 26) [(.tmp 25),(ci' 80)]) 26 125,o3 (.call (.func 22) [(.tmp 19),(.tmp 20),(ci' 3),(.tmp 24),(.tmp 26)]) 27 255,mv' 27 18 511,xt' 18 0 28 1023,xt' 18 1 29 1023,xt' 18 2 30 1023,mv' 28 8 2047,mv' 29 9 12287,mv' 30 10 32767]
def c4_3:LO:=[o3 (.mv (ci' 0)) 11 0]
def c4_4:LO:=[mv' 11 31 0,mv' 8 32 0,ln' 32 33 2,bn' .lss 31 33 34 7]
def c4_6:LO:=[mv' 9 37 0,mv' 11 38 0,ix' 5 37 38 39 3,fa' 2 1 39 40 7,ld' false 1 40 41 15,o3 (.bin .sub (.tmp 41) (ci' 1)) 42 31,mv' 42 12 63]
def c4_7:LO:=[o3 (.mv (ci' 0)) 13 0]
def c4_8:LO:=[mv' 13 43 0,fa' 1 1 7 44 0,ld' false 1 44 45 2,ln' 45 46 6,bn' .lss 43 46 47 15,mv' 47 48 31,⟨.mv (.tmp 12),some 49,some (48,true),63⟩,⟨.bin .geq (.tmp 49) (ci' 0),some 50,some (48,true),127⟩,o3 (.pick (.tmp 48) (.tmp 50) (.const (.bool false))) 51 255]
def ydug:LO:=[mv' 8 54 0,mv' 11 55 0,ix' 1 54 55 56 3,ld' false 1 56 57 7,ln' 57 58 15,fa' 1 1 7 59 0,ld' false 1 59 60 32,ln' 60 61 96,bn' .neq 58 61 62 255,mv' 62 63 511,⟨.mv (.tmp 8),some 64,some (63,false),1023⟩,⟨.mv (.tmp 11),some 65,some (63,false),1023⟩,⟨.idx 1 (.tmp 64) (.tmp 65),some 66,some (63,false),4095⟩,⟨.load false 1 (.tmp 66),some 67,some (63,false),8191⟩,⟨.mv (.tmp 13),some 68,some (63,false),1023⟩,⟨.idx 1 (.tmp 67) (.tmp 68),some 69,some (63,false),32767⟩,⟨.load false 1 (.tmp 69),some 70,some (63,false),65535⟩,⟨.len (.tmp 70),some 71,some (63,false),131071⟩,⟨.bin .neq (.tmp 71) (ci' 1),some 72,some (63,false),262143⟩,o3 (.pick (.tmp 63) (.const (.bool true)) (.tmp 72)) 73 524287]
def ydtp:LO:=[o3 (.mv (.const (.bool false))) 6 0]
def ydso:LO:=[mv' 8 74 0,mv' 11 75 0,ix' 1 74 75 76 3,ld' false 1 76 77 7,mv' 13 78 0,ix' 1 77 78 79 31,ld' false 1 79 80 63,o3 (.idx 1 (.tmp 80) (ci' 0)) 81 127,ld' false 1 81 82 255,ld' true 2 7 83 0,mv' 13 84 0,cl' 32 [83,84] 85 1536,mv' 82 14 4095,mv' 85 15 8191]
def ydts:LO:=[mv' 15 86 0,mv' 12 87 0,bn' .leq 86 87 88 3,mv' 88 89 7,⟨.mv (.tmp 14),some 90,some (89,true),15⟩,⟨.mv (.tmp 15),some 91,some (89,true),15⟩,⟨.bin .neq (.tmp 90) (.tmp 91),some 92,some (89,true),63⟩,o3 (.pick (.tmp 89) (.tmp 92) (.const (.bool false))) 93 127,mv' 93 94 255,⟨.mv (.tmp 15),some 95,some (94,false),511⟩,⟨.mv (.tmp 12),some 96,some (94,false),511⟩,⟨.bin .gtr (.tmp 95) (.tmp 96),some 97,some (94,false),2047⟩,⟨.mv (.tmp 97),some 98,some (94,false),4095⟩,⟨.mv (.tmp 14),some 99,some (98,true),8191⟩,⟨.mv (.tmp 12),some 100,some (98,true),8191⟩,⟨.bin .add (.tmp 100) (ci' 1),some 101,some (98,true),24575⟩,⟨.bin .lss (.tmp 99) (.tmp 101),some 102,some (98,true),65535⟩,⟨.pick (.tmp 98) (.tmp 102) (.const (.bool false)),some 103,some (94,false),131071⟩,o3 (.pick (.tmp 94) (.const (.bool true)) (.tmp 103)) 104 262143]
def ydsq:LO:=[o3 (.mv (.const (.bool false))) 6 0]
def c4_9:LO:=[mv' 13 52 0,o3 (.bin .add (.tmp 52) (ci' 1)) 53 1,mv' 53 13 3]
def c4_5:LO:=[mv' 11 35 0,o3 (.bin .add (.tmp 35) (ci' 1)) 36 1,mv' 36 11 3]
def ydty:LO:=[cl' 30 [] 105 0,mv' 105 106 1,⟨.mv (.tmp 10),some 107,some (106,true),3⟩,o3 (.pick (.tmp 106) (.tmp 107) (.const (.bool false))) 108 7,mv' 108 6 15]
def c4:SC:=(.seq (.reg false c4_0) (.seq (.reg false c4_1) (.seq (.reg true c4_2) (.seq (.seq (.reg false c4_3) (.block 0 (.loop (.seq (.seq (.reg false c4_4) (.cond (.tmp 34) .skip (.exit 0))) (.seq (.block 1 (.seq (.reg false c4_6) (.seq (.reg false c4_7) (.block 2 (.loop (.seq (.seq (.reg false c4_8) (.cond (.tmp 51) .skip (.exit 2))) (.seq (.block 3 (.seq (.seq (.reg true ydug) (.cond (.tmp 73) (.seq (.reg false ydtp) .ret) .skip)) (.seq (.reg true ydso) (.seq (.reg false ydts) (.cond (.tmp 104) (.seq (.reg false ydsq) .ret) .skip))))) (.reg false c4_9)))))))) (.reg false c4_5)))))) (.seq (.reg false ydty) .ret)))))
def c3_0:LO:=[o3 (.box 24 (.tmp 0)) 2 0,o3 (.mv (.const (.bool false))) 4 0]
def c3_1:LO:=[ld' true 6 2 14 0,o3 (.call (.func 21) [(.tmp 14),(ci' 10)]) 15 1,o3 (.alloc 27 1 [.a (.slice none 0 0),.a (.slice none 0 0)]) 5 0,o0 (.store 2 (.tmp 5) (.tmp 15)) 7]
def c3_2:LO:=[cl' 23 [] 17 0,ld' true 2 5 18 0,ld' true 2 5 19 0,cl' 25 [] 20 1,mv' 1 21 0,cl' 24 [19,20,21] 22 29,o3 (.call (.func 26) [(.const (.slice none 0 0)),(ci' 12)]) 23 61,o3 (.call (.func 22) [(.tmp 17),(.tmp 18),(ci' 4),(.tmp 22),(.tmp 23)]) 24 127,mv' 24 16 255,xt' 16 0 25 511,xt' 16 1 26 511,xt' 16 2 27 511,mv' 25 6 1023,mv' 26 7 6143,mv' 27 8 16383]
def c3_3:LO:=[mv' 8 28 0,o3 (.un .not (.tmp 28)) 29 1]
def c3_4:LO:=[o3 (.mv (.const (.bool false))) 4 0]
def c3_5:LO:=[ld' true 2 5 30 0,mv' 6 31 0,mv' 6 32 0,ln' 32 33 4,o3 (.bin .sub (.tmp 33) (ci' 1)) 34 12,ix' 1 31 34 35 30,ld' false 1 35 36 62,cl' 27 [30,36] 37 127,mv' 37 9 255,o3 (.mv (ci' 24)) 10 511]
def c3_6:LO:=[o3 (.mv (ci' 0)) 11 0]
def c3_7:LO:=[mv' 11 38 0,fa' 1 1 5 39 0,ld' false 1 39 40 2,ln' 40 41 6,bn' .lss 38 41 42 15]
def c3_9:LO:=[mv' 10 45 0,ld' true 2 5 46 0,mv' 11 47 0,cl' 28 [46,47] 48 6,o3 (.mm false (.tmp 45) (.tmp 48)) 49 15,mv' 49 10 31]
def c3_8:LO:=[mv' 11 43 0,o3 (.bin .add (.tmp 43) (ci' 1)) 44 1,mv' 44 11 3]
def ydtl:LO:=[o3 (.mv (ci' 0)) 12 0]
def ydua:LO:=[o3 (.mv (ci' 0)) 13 0]
def ydsm:LO:=[mv' 13 50 0,fa' 1 1 5 51 0,ld' false 1 51 52 2,ln' 52 53 6,bn' .lss 50 53 54 15]
def ydtd:LO:=[mv' 9 57 0,mv' 13 58 0,cl' 29 [57,58] 59 3,ld' true 2 5 60 0,mv' 13 61 0,cl' 28 [60,61] 62 31,mv' 10 63 0,bn' .eql 62 63 64 127,o3 (.beq true (.tmp 59) (.tmp 64)) 65 255]
def ydth:LO:=[o3 (.mv (.const (.bool false))) 4 0]
def ydvj:LO:=[mv' 9 66 0,mv' 13 67 0,cl' 29 [66,67] 68 3]
def ydst:LO:=[mv' 12 69 0,o3 (.bin .add (.tmp 69) (ci' 1)) 70 1,mv' 70 12 3]
def ydss:LO:=[mv' 13 55 0,o3 (.bin .add (.tmp 55) (ci' 1)) 56 1,mv' 56 13 3]
def yduj:LO:=[cl' 30 [] 71 0,mv' 71 72 1,⟨.mv (.tmp 12),some 73,some (72,true),3⟩,⟨.bin .eql (.tmp 73) (ci' 1),some 74,some (72,true),7⟩,⟨.mv (.tmp 74),some 75,some (72,true),15⟩,⟨.mv (.tmp 12),some 76,some (75,false),31⟩,⟨.bin .eql (.tmp 76) (ci' 2),some 77,some (75,false),63⟩,⟨.mv (.tmp 77),some 78,some (75,false),127⟩,⟨.load true 2 (.tmp 5),some 79,some (78,true),255⟩,⟨.mv (.tmp 9),some 80,some (78,true),255⟩,⟨.call (.func 31) [(.tmp 79),(.tmp 80)],some 81,some (78,true),1023⟩,⟨.mv (.tmp 9),some 82,some (78,true),255⟩,⟨.bin .and (.tmp 81) (.tmp 82),some 83,some (78,true),4095⟩,⟨.mv (.tmp 9),some 84,some (78,true),255⟩,⟨.bin .eql (.tmp 83) (.tmp 84),some 85,some (78,true),16383⟩,⟨.pick (.tmp 78) (.tmp 85) (.const (.bool false)),some 86,some (75,false),32767⟩,⟨.pick (.tmp 75) (.const (.bool true)) (.tmp 86),some 87,some (72,true),65535⟩,o3 (.pick (.tmp 72) (.tmp 87) (.const (.bool false))) 88 131071,mv' 88 4 262143]
def c3:SC:=(.seq (.reg false c3_0) (.seq (.reg false c3_1) (.seq (.reg true c3_2) (.seq (.seq (.reg false c3_3) (.cond (.tmp 29) (.seq (.reg false c3_4) .ret) .skip)) (.seq (.reg true c3_5) (.seq (.seq (.reg false c3_6) (.block 0 (.loop (.seq (.seq (.reg false c3_7) (.cond (.tmp 42) .skip (.exit 0))) (.seq (.block 1 (.reg false c3_9)) (.reg false c3_8)))))) (.seq (.reg false ydtl) (.seq (.seq (.reg false ydua) (.block 2 (.loop (.seq (.seq (.reg false ydsm) (.cond (.tmp 54) .skip (.exit 2))) (.seq (.block 3 (.seq (.seq (.reg true ydtd) (.cond (.tmp 65) (.seq (.reg false ydth) .ret) .skip)) (.seq (.reg false ydvj) (.cond (.tmp 68) (.reg false ydst) .skip)))) (.reg false ydss)))))) (.seq (.reg false yduj) .ret)))))))))
def c7_0:LO:=[o3 (.box 24 (.tmp 0)) 2 0,o3 (.mv (.const (.bool false))) 4 0]
def c7_1:LO:=[ld' true 6 2 20 0,o3 (.call (.func 21) [(.tmp 20),(ci' 10)]) 21 1,o3 (.alloc 27 1 [.a (.slice none 0 0),.a (.slice none 0 0)]) 5 0,o0 (.store 2 (.tmp 5) (.tmp 21)) 7]
def c7_2:LO:=[fa' 1 1 5 22 0,ld' false 1 22 23 1,ln' 23 24 3,mv' 24 6 7]
def c7_3:LO:=[mv' 1 25 0,mv' 6 26 0,cl' 39 [25,26] 27 3,mv' 27 1 7]
def c7_4:LO:=[mv' 6 28 0,o3 (.mk 3 1 8 [.i .i64 0] (.tmp 28) (.tmp 28)) 29 1,mv' 29 7 3]
def c7_5:LO:=[o3 (.mv (ci' 0)) 8 0]
def c7_6:LO:=[mv' 8 30 0,mv' 6 31 0,bn' .lss 30 31 32 3]
def c7_8:LO:=[mv' 7 35 0,mv' 8 36 0,mv' 8 37 0,mv' 1 38 0,bn' .add 37 38 39 12,mv' 6 40 0,bn' .rem 39 40 41 60,ix' 1 35 36 42 127,o0 (.store 1 (.tmp 42) (.tmp 41)) 255]
def c7_7:LO:=[mv' 8 33 0,o3 (.bin .add (.tmp 33) (ci' 1)) 34 1,mv' 34 8 3]
def c7_9:LO:=[ld' true 2 5 44 0,mv' 7 45 0,cl' 40 [44,45] 46 3,mv' 46 43 7,xt' 43 0 47 15,xt' 43 1 48 15,o3 (.alloc 27 1 [.a (.slice none 0 0),.a (.slice none 0 0)]) 9 0,o0 (.store 2 (.tmp 9) (.tmp 47)) 95,mv' 48 10 255]
def ydut:LO:=[cl' 23 [] 50 0,ld' true 2 5 51 0,ld' true 2 5 52 0,cl' 25 [] 53 1,o3 (.call (.func 24) [(.tmp 52),(.tmp 53),(.const (.slice none 0 0))]) 54 13,o3 (.call (.func 26) [(.const (.slice none 0 0)),(ci' 12)]) 55 29,o3 (.call (.func 22) [(.tmp 50),(.tmp 51),(ci' 4),(.tmp 54),(.tmp 55)]) 56 63,mv' 56 49 127,xt' 49 0 57 255,xt' 49 1 58 255,xt' 49 2 59 255,mv' 57 11 511,mv' 58 12 3071,mv' 59 13 8191]
def ydub:LO:=[cl' 23 [] 61 0,ld' true 2 9 62 0,ld' true 2 9 63 0,cl' 25 [] 64 1,o3 (.call (.func 24) [(.tmp 63),(.tmp 64),(.const (.slice none 0 0))]) 65 13,o3 (.call (.func 26) [(.const (.slice none 0 0)),(ci' 12)]) 66 29,o3 (.call (.func 22) [(.tmp 61),(.tmp 62),(ci' 4),(.tmp 65),(.tmp 66)]) 67 63,mv' 67 60 127,xt' 60 0 68 255,xt' 60 1 69 255,xt' 60 2 70 255,mv' 68 14 511,mv' 69 15 3071,mv' 70 16 8191]
def ydva:LO:=[mv' 10 71 0,o3 (.bin .neq (.tmp 71) (ci' 0)) 72 1,mv' 72 73 3,⟨.mv (.tmp 13),some 74,some (73,false),7⟩,⟨.un .not (.tmp 74),some 75,some (73,false),15⟩,o3 (.pick (.tmp 73) (.const (.bool true)) (.tmp 75)) 76 31,mv' 76 77 63,⟨.mv (.tmp 16),some 78,some (77,false),127⟩,⟨.un .not (.tmp 78),some 79,some (77,false),255⟩,o3 (.pick (.tmp 77) (.const (.bool true)) (.tmp 79)) 80 511]
def ydsz:LO:=[o3 (.mv (.const (.bool false))) 4 0]
def yduh:LO:=[ld' true 2 5 81 0,mv' 11 82 0,mv' 11 83 0,ln' 83 84 4,o3 (.bin .sub (.tmp 84) (ci' 1)) 85 12,ix' 1 82 85 86 30,ld' false 1 86 87 62,cl' 27 [81,87] 88 127,ld' true 2 9 89 0,mv' 14 90 0,mv' 14 91 0,ln' 91 92 1024,o3 (.bin .sub (.tmp 92) (ci' 1)) 93 3072,ix' 1 90 93 94 7680,ld' false 1 94 95 15872,cl' 27 [89,95] 96 32767,mv' 88 17 65535,mv' 96 18 131071]
def ydvi:LO:=[o3 (.mv (ci' 0)) 19 0]
def yduy:LO:=[mv' 19 97 0,mv' 6 98 0,bn' .lss 97 98 99 3]
def ydsy:LO:=[mv' 17 102 0,mv' 19 103 0,cl' 29 [102,103] 104 3,mv' 18 105 0,mv' 7 106 0,mv' 19 107 0,ix' 1 106 107 108 48,ld' false 1 108 109 112,cl' 29 [105,109] 110 255,o3 (.beq true (.tmp 104) (.tmp 110)) 111 511]
def ydtk:LO:=[o3 (.mv (.const (.bool false))) 4 0]
def yduo:LO:=[mv' 19 100 0,o3 (.bin .add (.tmp 100) (ci' 1)) 101 1,mv' 101 19 3]
def ydtq:LO:=[cl' 30 [] 112 0,mv' 112 113 1,⟨.mv (.tmp 17),some 114,some (113,true),3⟩,⟨.bin .neq (.tmp 114) (.const (.int .u32 0)),some 115,some (113,true),7⟩,o3 (.pick (.tmp 113) (.tmp 115) (.const (.bool false))) 116 15,mv' 116 4 31]
def c7:SC:=(.seq (.reg false c7_0) (.seq (.reg false c7_1) (.seq (.reg false c7_2) (.seq (.reg false c7_3) (.seq (.reg false c7_4) (.seq (.seq (.reg false c7_5) (.block 0 (.loop (.seq (.seq (.reg false c7_6) (.cond (.tmp 32) .skip (.exit 0))) (.seq (.block 1 (.reg false c7_8)) (.reg false c7_7)))))) (.seq (.reg false c7_9) (.seq (.reg true ydut) (.seq (.reg true ydub) (.seq (.seq (.reg false ydva) (.cond (.tmp 80) (.seq (.reg false ydsz) .ret) .skip)) (.seq (.reg true yduh) (.seq (.seq (.reg false ydvi) (.block 2 (.loop (.seq (.seq (.reg false yduy) (.cond (.tmp 99) .skip (.exit 2))) (.seq (.block 3 (.seq (.reg true ydsy) (.cond (.tmp 111) (.seq (.reg false ydtk) .ret) .skip))) (.reg false yduo)))))) (.seq (.reg false ydtq) .ret)))))))))))))
end Sh
end
section
def yev(g:Gr)(k:Nat):Nat:=((g.ports.take k).map zBJ).sum
theorem ykb{g:Gr}{k:Nat}(h:k<g.ports.length):yev g (k+1)=yev g k+(g.ports.getD k []).length:=by
 unfold yev;rw[zL h,zBN,List.sum_append,Sh.getD_at h];simp
theorem yir{g:Gr}(hg:ybe g):∀k,k<=g.ports.length->yev g k<=24*k
 |0,_=>by simp[yev]
 | k+1,h=>by
   rw[ykb (by omega)]
   have:=yir hg k (by omega)
   have:=hg.deg_lt (v:=k);omega
theorem yvm(g:Gr):yev g g.ports.length=ygl g:=by unfold yev ygl;rw[zAD]
def yup(g:Gr):Nat:=ygl g/2
namespace Sh
open Ev Go.RowKit
def yboo(g:Gr):List SV:=if yco g=true then[.i .i64 g.ports.length,.i .i64 (yup g)]else[.i .i64 0,.i .i64 0]
theorem yblw(n:Nat):((n:Nat):Int).tdiv 2=((n/2:Nat):Int):=by
 rw[zAJ (by omega)]
 omega
theorem ybuy{g:Gr}(hI:GrI g):Returns zF 122 [grV g] (.tp (yboo g)):=by
 refine Returns.of (yded _ _ ?_);have hV:=ywy hI;unfold yboo;cases hv:yco g with
 | false =>
   rw[hv]at hV;simp only[grV]at hV;simp only[c122,ybyr,ybvt,ycod,grV,clash,go_sem,zA,zB,zC,↓reduceIte];refine hV.use ?_;simp only[ybg,clash,go_sem,zA,zB,↓reduceIte];exact Sim.refl _
 | true =>
   have hg:=(ych g).1 hv;have h24:=hg.2.1;have hpl:=hg.2.2.1;obtain⟨n,hn⟩:∃n,g.ports.length=n:=⟨_,rfl⟩;rw[hv]at hV;simp only[grV]at hV;rw[hn]at h24 hpl;simp only[c122,ybyr,ybvt,ycxc,grV,clash,go_sem,zA,zB,zC,↓reduceIte];refine hV.use ?_;simp only[ybg,yx,hn,clash,go_sem,zA,zB,↓reduceIte,reduceCtorEq];refine ybk (σ:=Nat) (fun k=>⟨[(12,.i .i64 k),(11,.i .i64 n),(10,yx g.ports),(3,.i .i64 (yev g k:Nat)),(1,.pt (1,0) 0 0)],[(1,.one (some ⟨27,true,2,1,fun _=>[yu g.ids,yx g.ports]⟩))]⟩) (fun k=>k<=n) (fun k=>n-k) 0 (zJ _) ?_ ?_
   .refine yh [] [] [] ?_;simp only[yx,hn,allQ,live,yc,ybb,zH,go_sem,zA,↓reduceIte,reduceCtorEq];rfl
   intro k hk
   by_cases hlt:k<n
   .have t1:decide ((k:Int)<(n:Int))=true:=decide_eq_true (by omega)
    have hs:=ykb (g:=g) (k:=k) (by omega)
    have hb:=yir hg k (by omega)
    have hd:=hg.deg_lt (v:=k);obtain⟨d,hdd⟩:∃d,(g.ports.getD k []).length=d:=⟨_,rfl⟩;rw[hdd]at hs hd;have e:(yev g k:Int)+(d:Int)=((yev g (k+1):Nat):Int):=by rw[hs];omega
    simp only[ycbf,ycsv,ycyr,ycla,yx,ybc,hn,t1,hdd,e,clash,go_sem,zA,zB,↓reduceIte,reduceCtorEq];refine⟨by omega,ikw (by omega) (by omega),ikw (by omega) (by omega),?_⟩
    refine yj (k+1) (by omega) (by omega) ?_
    refine yh [] [] [] ?_;simp only[allQ,live,yc,ybb,go_sem,zA,↓reduceIte,reduceCtorEq];omega
   .obtain rfl:k=n:=by omega
    have t1:decide ((k:Int)<(k:Int))=false:=decide_eq_false (by omega)
    have hb:=yir hg k (by omega)
    have e:=yvm g;rw[hn]at e;have e2:=yblw (yev g k);simp only[ycbf,ycku,yx,yu,hn,hpl,t1,e2,clash,go_sem,zA,zB,zD,↓reduceIte,reduceCtorEq];unfold yup;rw[<-e];exact⟨⟨by decide,ikw (by omega) (by omega)⟩,Sim.refl _⟩
theorem ybrc{g:Gr}(hI:GrI g):Returns zF 136 [grV g] (.b (ycd g)):=by
 refine Returns.of (ydhn _ _ ?_);have hC:=ybcv hI;have hS:=ybuy hI;unfold ycd;cases hcn:yed g with
 | false =>
   rw[hcn]at hC;simp only[grV]at hC;simp only[c136,ybyt,ybst,ycnu,grV,clash,go_sem,zA,zB,zC,↓reduceIte];refine hC.use ?_;simp only[ybg,clash,go_sem,zB,↓reduceIte];exact Sim.refl _
 | true =>
   have hv:=ygx hcn;have hg:=(ych g).1 hv;have h24:=hg.2.1;rw[hcn]at hC;unfold yboo at hS;rw[if_pos hv]at hS;simp only[grV]at hC hS;simp only[c136,ybyt,ybst,ycrl,ycnq,grV,clash,go_sem,zA,zB,zC,↓reduceIte];refine hC.use ?_;simp only[ybg,clash,go_sem,zA,zB,↓reduceIte,reduceCtorEq];refine hS.use ?_;simp only[go_sem,zA,↓reduceIte];refine⟨ikw (by omega) (by omega),?_⟩
   have e:(((yup g:Nat):Int)==(g.ports.length:Int)-1)=decide (ygl g/2+1=g.ports.length):=by
    rw[zBO,beq_iff_eq,decide_eq_true_iff];unfold yup;omega
   rw[<-e];exact Sim.refl _
theorem ybiv{g:Gr}(hg:ybe g):∀k,k<=g.ports.length->ykm g k<=24
 |0,_=>by show(0:Int)<=24;decide
 | k+1,h=>by
   rw[ygw];have h1:=ybiv hg k (by omega)
   have h2:ybs (ybt g k)<=24:=ybfk _ _ (by omega) fun x hx=>((ydw hg (a:=k) (by omega)).bound hg (by omega) x hx).2
   omega
theorem ycav{g:Gr}(hI:GrI g):Returns zF 88 [grV g] (.i .i64 (if yed g=true then yif g else -1)):=by
 refine Returns.of (ydkc _ _ ?_);have hC:=ybcv hI;cases hcn:yed g with
 | false =>
   rw[hcn]at hC;simp only[grV]at hC;simp only[c88,ydbx,ydgg,ydnq,grV,clash,go_sem,zA,zB,zC,↓reduceIte];refine hC.use ?_;simp only[ybg,clash,go_sem,zB,↓reduceIte];exact Sim.refl _
 | true =>
   have hg:=(ych g).1 (ygx hcn);have h24:=hg.2.1;have hd0:ykm g 0=0:=rfl;obtain⟨n,hn⟩:∃n,g.ports.length=n:=⟨_,rfl⟩;rw[hcn]at hC;simp only[grV]at hC;rw[hn]at h24;simp only[c88,ydbx,ydgg,ydje,ydnf,grV,clash,go_sem,zA,zB,zC,↓reduceIte];refine hC.use ?_;simp only[ybg,yx,hn,clash,go_sem,zA,zB,↓reduceIte,reduceCtorEq];refine ybk (σ:=Nat) (fun k=>⟨[(11,.i .i64 k),(10,.i .i64 n),(3,.i .i64 (ykm g k)),(1,.pt (1,0) 0 0)],[(1,.one (some ⟨27,true,2,1,fun _=>[yu g.ids,yx g.ports]⟩))]⟩) (fun k=>k<=n) (fun k=>n-k) 0 (zJ _) ?_ ?_
   .refine yh [] [] [] ?_;simp only[yx,hn,hd0,allQ,live,yc,zH,go_sem,zA,↓reduceIte,reduceCtorEq]
   intro k hk
   by_cases hlt:k<n
   .have t1:decide ((k:Int)<(n:Int))=true:=decide_eq_true (by omega)
    have hS:=ybnw hg (a:=k) (by omega)
    have hl:=ygb hg (a:=k) (by omega)
    have hG:=ybec (ybt g k) (by omega)
    have hs:=ygw (g:=g) k;obtain⟨D,hD⟩:∃D,ybt g k=D:=⟨_,rfl⟩;rw[hD]at hS hG hs hl;simp only[grV]at hS;simp only[yu,hl]at hG hS;simp only[ydhp,ydjn,ydke,ydsb,yx,t1,clash,go_sem,zA,zB,↓reduceIte,reduceCtorEq];refine hS.use ?_;simp only[ybg,clash,go_sem,zA,zB,↓reduceIte,reduceCtorEq];refine hG.use ?_;simp only[<-hs,go_sem,zA,↓reduceIte];refine⟨ikw (by omega) (by omega),?_⟩
    refine yj (k+1) (by omega) (by omega) ?_
    refine yh [] [] [] ?_;simp only[go_sem,allQ,live,yc,ybb,go_sem,zA,↓reduceIte,reduceCtorEq];omega
   .obtain rfl:k=n:=by omega
    have t1:decide ((k:Int)<(k:Int))=false:=decide_eq_false (by omega)
    simp only[ydhp,ydkp,t1,clash,go_sem,zA,zB,↓reduceIte,reduceCtorEq];unfold yif;rw[hn];exact Sim.refl _
theorem ybso{g:Gr}(hI:GrI g):Returns zF 124 [grV g] (.tp (yboo g)):=by
 refine Returns.of (yddz _ _ ?_);have hV:=ybpj hI;unfold yboo;cases hv:yco g with
 | false =>
   rw[hv]at hV;simp only[grV]at hV;simp only[c124,ybtc,ycbe,ycjx,grV,clash,go_sem,zA,zB,zC,↓reduceIte];refine hV.use ?_;simp only[ybg,clash,go_sem,zA,zB,↓reduceIte];exact Sim.refl _
 | true =>
   have hg:=(ych g).1 hv;have h24:=hg.2.1;obtain⟨n,hn⟩:∃n,g.ports.length=n:=⟨_,rfl⟩;rw[hv]at hV;simp only[grV]at hV;rw[hn]at h24;simp only[c124,ybtc,ycbe,ycof,ycyu,grV,clash,go_sem,zA,zB,zC,↓reduceIte];refine hV.use ?_;simp only[ybg,clash,go_sem,zB,↓reduceIte];refine ybk (σ:=Nat) (fun k=>⟨[(5,.i .i64 k),(4,.i .i64 (yev g k:Nat)),(1,.pt (1,0) 0 0)],[(1,.one (some ⟨27,true,2,1,fun _=>[yu g.ids,yx g.ports]⟩))]⟩) (fun k=>k<=n) (fun k=>n-k) 0 (zJ _) ?_ ?_
   .refine yh [] [] [] ?_;simp only[go_sem,allQ,live,yc,ybb,zH,go_sem,zA,↓reduceIte,reduceCtorEq];rfl
   intro k hk
   by_cases hlt:k<n
   .have t1:decide ((k:Int)<(n:Int))=true:=decide_eq_true (by omega)
    have hs:=ykb (g:=g) (k:=k) (by omega)
    have hb:=yir hg k (by omega)
    have hd:=hg.deg_lt (v:=k);obtain⟨d,hdd⟩:∃d,(g.ports.getD k []).length=d:=⟨_,rfl⟩;rw[hdd]at hs hd;have e:(yev g k:Int)+(d:Int)=((yev g (k+1):Nat):Int):=by rw[hs];omega
    simp only[ybzn,ycvr,ycyw,yx,ybc,hn,t1,hdd,e,clash,go_sem,zA,zB,↓reduceIte,reduceCtorEq];refine⟨⟨by omega,by omega⟩,ikw (by omega) (by omega),ikw (by omega) (by omega),?_⟩
    refine yj (k+1) (by omega) (by omega) ?_
    refine yh [] [] [] ?_;simp only[allQ,live,yc,ybb,go_sem,zA,↓reduceIte,reduceCtorEq];omega
   .obtain rfl:k=n:=by omega
    have t1:decide ((k:Int)<(k:Int))=false:=decide_eq_false (by omega)
    have e:=yvm g;rw[hn]at e;have e2:=yblw (yev g k);have hb:=yir hg k (by omega)
    simp only[ybzn,ycmw,yx,hn,t1,e2,clash,go_sem,zA,zB,↓reduceIte,reduceCtorEq];unfold yup;rw[<-e];exact⟨⟨by decide,ikw (by omega) (by omega)⟩,Sim.refl _⟩
theorem ybii{g:Gr}(hI:GrI g):Returns zF 140 [grV g] (.b (ycd g)):=by
 refine Returns.of (ydiw _ _ ?_);have hC:=ybde hI;have hS:=ybso hI;unfold ycd;unfold yboo at hS;cases hcn:yed g with
 | false =>
   rw[hcn]at hC;simp only[grV]at hC hS;cases hv:yco g with
   | false =>
     rw[hv,if_neg (by decide)]at hS
     simp only[c140,ybmg,ybkx,ybkz,grV,clash,go_sem,zA,zB,zC,↓reduceIte];refine hS.use ?_;simp only[ybg,clash,go_sem,zA,zB,↓reduceIte,reduceCtorEq];refine hC.use ?_;simp only[clash,go_sem,zA,zB,↓reduceIte,reduceCtorEq];exact Sim.refl _
   | true =>
     rw[hv,if_pos rfl]at hS;simp only[c140,ybmg,ybkx,ybkz,grV,clash,go_sem,zA,zB,zC,↓reduceIte];refine hS.use ?_;simp only[ybg,clash,go_sem,zA,zB,↓reduceIte,reduceCtorEq];refine hC.use ?_;simp only[clash,go_sem,zA,zB,↓reduceIte,reduceCtorEq];exact Sim.refl _
 | true =>
   have hv:=ygx hcn;have hg:=(ych g).1 hv;have h24:=hg.2.1;rw[hcn]at hC;rw[if_pos hv]at hS;simp only[grV]at hC hS;simp only[c140,ybmg,ybkx,ybkz,grV,clash,go_sem,zA,zB,zC,↓reduceIte];refine hS.use ?_;simp only[ybg,clash,go_sem,zA,zB,↓reduceIte,reduceCtorEq];refine hC.use ?_;simp only[clash,go_sem,zA,zB,↓reduceIte,reduceCtorEq]
   have e:(((yup g:Nat):Int)==(g.ports.length:Int)-1)=decide (ygl g/2+1=g.ports.length):=by
    rw[zBO,beq_iff_eq,decide_eq_true_iff];unfold yup;omega
   rw[<-e];exact⟨ikw (by omega) (by omega),Sim.refl _⟩
theorem ybua{g:Gr}(hI:GrI g):Returns zF 90 [grV g] (.i .i64 (if yed g=true then yif g else -1)):=by
 refine Returns.of (ydqk _ _ ?_);have hC:=ybde hI;cases hcn:yed g with
 | false =>
   rw[hcn]at hC;simp only[grV]at hC;simp only[c90,ydbq,ydcs,ydlf,grV,clash,go_sem,zA,zB,zC,↓reduceIte];refine hC.use ?_;simp only[ybg,clash,go_sem,zB,↓reduceIte];exact Sim.refl _
 | true =>
   have hg:=(ych g).1 (ygx hcn);have h24:=hg.2.1;have hd0:ykm g 0=0:=rfl;obtain⟨n,hn⟩:∃n,g.ports.length=n:=⟨_,rfl⟩;rw[hcn]at hC;simp only[grV]at hC;rw[hn]at h24;simp only[c90,ydbq,ydcs,ydqi,ydnm,grV,clash,go_sem,zA,zB,zC,↓reduceIte];refine hC.use ?_;simp only[ybg,clash,go_sem,zB,↓reduceIte];refine ybk (σ:=Nat) (fun k=>⟨[(4,.i .i64 k),(3,.i .i64 (ykm g k)),(1,.pt (1,0) 0 0)],[(1,.one (some ⟨27,true,2,1,fun _=>[yu g.ids,yx g.ports]⟩))]⟩) (fun k=>k<=n) (fun k=>n-k) 0 (zJ _) ?_ ?_
   .refine yh [] [] [] ?_;simp only[hd0,allQ,live,yc,zH,go_sem,zA,↓reduceIte,reduceCtorEq]
   intro k hk
   by_cases hlt:k<n
   .have t1:decide ((k:Int)<(n:Int))=true:=decide_eq_true (by omega)
    have hE:=ycgr hI (v:=(k:Int)) (yfi (by omega))
    have hec:eccP g (k:Int)=ybs (ybt g k):=by
     unfold eccP;rw[if_pos ⟨hcn,by omega,by omega⟩,zAH]
    rw[hec]at hE;have hs:=ygw (g:=g) k;simp only[grV,yx,hn]at hE;simp only[ydbg,ydlz,ydpt,yx,hn,t1,clash,go_sem,zA,zB,↓reduceIte,reduceCtorEq];refine hE.use ?_;simp only[ybg,clash,<-hs,go_sem,zA,zB,↓reduceIte,reduceCtorEq];refine⟨ikw (by omega) (by omega),?_⟩
    refine yj (k+1) (by omega) (by omega) ?_
    refine yh [] [] [] ?_;simp only[go_sem,allQ,live,yc,ybb,go_sem,zA,↓reduceIte,reduceCtorEq];omega
   .obtain rfl:k=n:=by omega
    have t1:decide ((k:Int)<(k:Int))=false:=decide_eq_false (by omega)
    simp only[ydbg,ydms,yx,hn,t1,clash,go_sem,zA,zB,↓reduceIte,reduceCtorEq];unfold yif;rw[hn];exact Sim.refl _
end Sh
end
section
theorem Tr.rch_le{g:Gr}(h:Tr g){v u:Nat}(hu:adj g v u):1<=rchP g v u/\rchP g v u<=24:=by
 obtain⟨w,hw,_,e⟩:=h.rch_ex hu;have:=h.lt_n hw (h.good.adj_lt hu).1;have:=h.good.2.1;have:=h.rch_pos hu;omega
def htS(g:Gr)(v i:Nat):Int×Int:=(((g.ports.getD v []).take i).map fun l=>rchP g v l.1.toNat).foldl yqr (0,0)
theorem ybli{g:Gr}{v i:Nat}(hi:i<(g.ports.getD v []).length):htS g v (i+1)=yqr (htS g v i) (rchP g v ((g.ports.getD v []).getD i (0,0)).1.toNat):=by
 unfold htS;rw[zL hi,zBN,zU,Sh.getD_at hi];rfl
theorem ybvm(g:Gr)(v:Nat):(htS g v (g.ports.getD v []).length).2=htP g v:=by
 unfold htS;rw[zAD];exact ydij g v
theorem ybug{g:Gr}(h:Tr g){v:Nat}(hv:v<g.ports.length):∀i,i<=(g.ports.getD v []).length->(0<=(htS g v i).2/\(htS g v i).2<=(htS g v i).1)/\(htS g v i).1<=24
 |0,_=>by simp[htS]
 | i+1,hi=>by
   have ih:=ybug h hv i (by omega)
   have hm:(g.ports.getD v []).getD i (0,0)∈g.ports.getD v []:=by rw[Sh.getD_at (show i<_ by omega)];exact zN _
   have hr:=h.rch_le (ydp h.good hv hm).2.2.1;rw[ybli (by omega)]
   unfold yqr;simp only;omega
theorem Tr.ht_le{g:Gr}(h:Tr g){v:Nat}(hv:v<g.ports.length):0<=htP g v/\htP g v<=24:=by
 have:=ybug h hv _ (zK _);rw[<-ybvm g v];omega
def rchS(g:Gr)(v u i:Nat):Int:=((g.ports.getD u []).take i).foldl (yqa g v u) 1
theorem ybus{g:Gr}{v u i:Nat}(hi:i<(g.ports.getD u []).length):rchS g v u (i+1)=yqa g v u (rchS g v u i) ((g.ports.getD u []).getD i (0,0)):=by
 unfold rchS;rw[zL hi,zU,Sh.getD_at hi];rfl
namespace Sh
open Ev Go.RowKit
theorem ybei{g:Gr}(h:Tr g):∀(k v u:Nat),adj g v u->(rchP g v u).toNat<=k->Returns zF 142 [grV g,.i .i64 v,.i .i64 u] (.i .i64 (rchP g v u))
 |0,v,u,hu,hk=>by have:=h.rch_pos hu;omega
 | k + 1,v,u,hu,hk=>by
   refine Returns.of (ydgm _ _ ?_);have ih:=ybei h k;obtain⟨hv,hul⟩:=h.good.adj_lt hu;have h24:=h.good.2.1;have hlo:=h.rch_loop hu;have hrs:∀i,rchS g v u i=((g.ports.getD u []).take i).foldl (yqa g v u) 1:=fun _=>rfl;have hsu:=fun i=>ybus (g:=g) (v:=v) (u:=u) (i:=i);have hle:=h.rch_le hu;obtain⟨L,hL⟩:∃L,g.ports.getD u []=L:=⟨_,rfl⟩;have hdeg:=h.good.deg_lt (v:=u)
   have hadj:∀l∈L,0<=l.1/\l.1.toNat<g.ports.length/\adj g u l.1.toNat:=fun l hl=>by
    obtain⟨a,b,c,_⟩:=ydp h.good hul (by rw[hL];exact hl)
    exact⟨a,b,c⟩
   have hless:∀l∈L,l.1≠(v:Int)->rchP g u l.1.toNat<rchP g v u:=fun l hl=>h.rch_less hu (by rw[hL];exact hl)
   rw[hL]at hlo hdeg hrs;simp only[hL]at hsu;obtain⟨d,hd⟩:∃d,L.length=d:=⟨_,rfl⟩;obtain⟨S,hS⟩:∃S:Nat->Int,(fun i=>rchS g v u i)=S:=⟨_,rfl⟩;have hS':∀i,rchS g v u i=S i:=fun i=>by rw[<-hS]
   simp only[hS']at hsu hrs;rw[hd]at hdeg hsu;have hS0:S 0=1:=by rw[hrs];rfl
   have hSd:S d=rchP g v u:=by rw[hrs,<-hd,zAD,hlo]
   rw[<-hSd]at hless hle ⊢;simp only[grV]at ih;simp only[c142,yctj,ycya,ydaf,grV,yx,ybc,hL,hd,clash,go_sem,zA,zB,zC,↓reduceIte,reduceCtorEq];refine⟨⟨by omega,by omega⟩,?_⟩
   refine ybk (σ:=Nat) (fun i=>⟨[(16,.i .i64 i),(15,.i .i64 d),(14,ybc L),(7,.i .i64 (S i)),(1,.i .i64 v),(2,.i .i64 u),(3,.pt (3,0) 0 0)],[(3,.one (some ⟨27,true,2,1,fun _=>[yu g.ids,yx g.ports]⟩))]⟩) (fun i=>i<=d) (fun i=>d-i) 0 (zJ _) ?_ ?_
   .refine yh [] [] [] ?_;simp only[yx,ybc,hd,hS0,allQ,live,yc,zH,go_sem,zA,↓reduceIte,reduceCtorEq]
   intro i hi
   by_cases hlt:i<d
   .have t1:decide ((i:Int)<(d:Int))=true:=decide_eq_true (by omega)
    have hm:L.getD i (0,0)∈L:=by rw[getD_at (show i<L.length by omega)];exact zN _
    have hss:=hsu i hlt;obtain⟨l,hl⟩:∃l,L.getD i (0,0)=l:=⟨_,rfl⟩;rw[hl]at hm hss;obtain⟨a1,a2,a3⟩:=hadj l hm
    by_cases hlv:l.1=(v:Int)
    .have t2:(l.1 != (v:Int))=false:=by rw[hlv];simp
     have e:S (i+1)=S i:=by
      rw[hss];unfold yqa;rw[if_neg (by rw[t2];decide)]
     simp only[ybks,ybyk,ybtz,ybsp,ybc,hd,hl,t1,t2,splice,clash,go_sem,zA,zB,zD,zC,↓reduceIte,reduceCtorEq];refine⟨by omega,ikw (by omega) (by omega),?_⟩
     refine yj (i+1) (by omega) (by omega) ?_
     refine yh [] [] [] ?_;simp only[e,allQ,live,yc,ybb,go_sem,zA,↓reduceIte,reduceCtorEq];omega
    .have t2:(l.1 != (v:Int))=true:=by rw[bne_iff_ne];exact hlv
     have hlr:=hless l hm hlv;have hlb:=h.rch_le a3;have hR:=ih u l.1.toNat a3 (by rw[<-hSd]at hk;omega)
     rw[zAS a1]at hR
     have e:S (i+1)=max (S i) (1+rchP g u l.1.toNat):=by
      rw[hss];unfold yqa;rw[if_pos t2]
     obtain⟨r,hr⟩:∃r,rchP g u l.1.toNat=r:=⟨_,rfl⟩;rw[hr]at hR e hlb;simp only[ybks,ybyk,ybtz,ycld,ybsp,ybc,hd,hl,t1,t2,splice,clash,go_sem,zA,zB,zD,zC,↓reduceIte,reduceCtorEq];refine⟨by omega,hR.use ?_⟩
     simp only[ybg,clash,go_sem,zA,zB,↓reduceIte,reduceCtorEq];refine⟨ikw (by omega) (by omega),ikw (by omega) (by omega),?_⟩
     refine yj (i+1) (by omega) (by omega) ?_
     refine yh [] [] [] ?_;simp only[e,allQ,live,yc,ybb,go_sem,zA,↓reduceIte,reduceCtorEq];omega
   .obtain rfl:i=d:=by omega
    have t1:decide ((i:Int)<(i:Int))=false:=decide_eq_false (by omega)
    simp only[ybks,ycyd,t1,clash,go_sem,zA,zB,↓reduceIte,reduceCtorEq];exact Sim.refl _
set_option maxHeartbeats 1000000 in
theorem ybgq{g:Gr}(h:Tr g):Returns zF 91 [grV g] (yu (mapR g.ports.length (htP g))):=by
 refine Returns.of (ydmx _ _ ?_);have hg:=h.good;have h24:=hg.2.1;have hpl:=hg.2.2.1;obtain⟨n,hn⟩:∃n,g.ports.length=n:=⟨_,rfl⟩;rw[hn]at h24 hpl ⊢;simp only[c91,ydqn,ydjd,ydot,grV,yu,yx,hpl,hn,clash,go_sem,zA,zB,zD,zC,↓reduceIte,reduceCtorEq];refine⟨⟨by omega,by omega,by omega⟩,?_⟩
 refine ybk (σ:=Nat) (fun v=>⟨[(17,.i .i64 v),(16,.i .i64 n),(15,yx g.ports),(3,.os (13,0) 0 n true),(1,.pt (1,0) 0 0)],[(13,.one (some ⟨3,false,1,n,fun j=>[.i .i64 (if j<v then htP g j else 0)]⟩)),(1,.one (some ⟨27,true,2,1,fun _=>[yu g.ids,yx g.ports]⟩))]⟩) (fun v=>v<=n) (fun v=>n-v) 0 (zJ _) ?_ ?_
 .refine yh [] [] [] ?_;simp only[yu,yx,hpl,hn,zAA,allQ,live,yc,zH,go_sem,zA,↓reduceIte,reduceCtorEq]
 intro v hv
 by_cases hlt:v<n
 .have t1:decide ((v:Int)<(n:Int))=true:=decide_eq_true (by omega)
  have hend:=ybvm g v;have hsu:=fun i=>ybli (g:=g) (v:=v) (i:=i);have hsl:=ybug h (v:=v) (by omega)
  have hdeg:=hg.deg_lt (v:=v);have hadj:=fun(l:Int×Int) (hl:l∈g.ports.getD v [])=>ydp hg (by omega) hl
  obtain⟨L,hL⟩:∃L,g.ports.getD v []=L:=⟨_,rfl⟩;obtain⟨d,hd⟩:∃d,L.length=d:=⟨_,rfl⟩;rw[hL,hd]at hend hdeg hsl;rw[hL]at hadj;simp only[hL,hd]at hsu;obtain⟨S,hS⟩:∃S:Nat->Int×Int,(fun i=>htS g v i)=S:=⟨_,rfl⟩;have hS':∀i,htS g v i=S i:=fun i=>by rw[<-hS]
  have hS0:S 0=(0,0):=by rw[<-hS'];rfl
  simp only[hS']at hsu hsl hend;simp only[ydgc,ydlk,ydrw,ydov,yx,ybc,hn,hL,hd,t1,clash,go_sem,zA,zB,↓reduceIte,reduceCtorEq];refine⟨by omega,?_⟩
  refine ybk (σ:=Nat) (fun i=>⟨[(24,.i .i64 i),(23,.i .i64 d),(22,ybc L),(6,.i .i64 (S i).1),(4,.i .i64 v),(17,.i .i64 v),(16,.i .i64 n),(15,yx g.ports),(3,.os (13,0) 0 n true),(1,.pt (1,0) 0 0)],[(13,.one (some ⟨3,false,1,n,fun j=>[.i .i64 (if j<v then htP g j else if j=v then(S i).2 else 0)]⟩)),(1,.one (some ⟨27,true,2,1,fun _=>[yu g.ids,yx g.ports]⟩))]⟩) (fun i=>i<=d) (fun i=>d-i) 0 (zJ _) ?_ ?_
  .refine yh [] [] [] ?_;simp only[yu,yx,ybc,hn,hd,hS0,allQ,live,yc,ybb,zH,go_sem,zA,↓reduceIte,reduceCtorEq];intro j hj;split
   .rfl
   .split<;>rfl
  intro i hi
  by_cases hlti:i<d
  .have t2:decide ((i:Int)<(d:Int))=true:=decide_eq_true (by omega)
   have hm:L.getD i (0,0)∈L:=by rw[getD_at (show i<L.length by omega)];exact zN _
   have hss:=hsu i hlti;have hb:=hsl i hi;obtain⟨l,hl⟩:∃l,L.getD i (0,0)=l:=⟨_,rfl⟩;rw[hl]at hm hss;obtain⟨a1,a2,a3,_⟩:=hadj l hm;have hR:=ybei h _ v l.1.toNat a3 (zK _);have hrb:=h.rch_le a3;rw[zAS a1]at hR;obtain⟨r,hr⟩:∃r,rchP g v l.1.toNat=r:=⟨_,rfl⟩;rw[hr]at hR hss hrb;have e1:(S (i+1)).1=max (S i).1 r:=by rw[hss];rfl
   have e2:(S (i+1)).2=max (S i).2 (min r (S i).1):=by rw[hss];rfl
   simp only[grV]at hR;have i0:(if v<v then htP g v else if v=v then(S i).2 else 0)=(S i).2:=by rw[if_neg (zBY v),if_pos rfl]
   have i1:(if v=v then(S i).2 else 0)=(S i).2:=if_pos rfl
   simp only[ydda,ydqq,ydop,ybc,hd,hl,t2,splice,clash,go_sem,zA,zB,zD,zC,↓reduceIte,reduceCtorEq];refine⟨by omega,hR.use ?_⟩
   simp only[ybg,ycyy,ycsk,ycql,splice,clash,<-e1,<-e2,go_sem,zA,zB,↓reduceIte,reduceCtorEq];refine⟨⟨by omega,by omega⟩,by omega,⟨by omega,by omega⟩,by omega,ikw (by omega) (by omega),?_⟩
   refine yj (i+1) (by omega) (by omega) ?_
   refine yh [] [] [] ?_;simp only[yu,yx,ybc,hn,allQ,live,yc,ybb,go_sem,zA,↓reduceIte,reduceCtorEq];refine⟨by omega,fun j hj=>?_⟩
   by_cases q:j=v
   .subst q;simp only[if_pos,if_neg (zBY j)];simp only[go_sem,live,yc,go_sem,reduceCtorEq]
   .simp only[if_neg q];simp only[go_sem,live,yc,go_sem,reduceCtorEq]
  .obtain rfl:i=d:=by omega
   have t2:decide ((i:Int)<(i:Int))=false:=decide_eq_false (by omega)
   simp only[ydda,ydah,t2,clash,go_sem,zA,zB,↓reduceIte,reduceCtorEq];refine⟨ikw (by omega) (by omega),?_⟩
   refine yj (v+1) (by omega) (by omega) ?_
   refine yh [] [] [] ?_;simp only[yu,yx,ybc,hn,allQ,live,yc,ybb,go_sem,zA,↓reduceIte,reduceCtorEq];refine⟨by omega,fun j hj=>?_⟩
   by_cases q:j<v
   .rw[if_pos q,if_pos (by omega)]
   .rw[if_neg q]
    by_cases q2:j=v
    .rw[if_pos q2,if_pos (by omega),q2,hend]
    .rw[if_neg q2,if_neg (by omega)]
 .obtain rfl:v=n:=by omega
  have t1:decide ((v:Int)<(v:Int))=false:=decide_eq_false (by omega)
  simp only[ydgc,ycpo,t1,clash,go_sem,zA,zB,↓reduceIte,reduceCtorEq];rw[yla];refine ykn fun j hj=>?_;rw[gmR _ _ _ _ hj,if_pos hj]
end Sh
end
section
section
variable {g:Gr}{t u v:Nat}
end
end
section
section
variable {g:Gr}{t u v a:Nat}
end
end
section
def pkL(f:Nat->Int)(v:Nat)(s:Nat)(l:Int×Int):Nat:=if f v<f l.1.toNat then difB s (2^v)else s
def pkV(f:Nat->Int)(g:Gr)(s v:Nat):Nat:=(g.ports.getD v []).foldl (pkL f v) s
def yiq(f:Nat->Int)(g:Gr):Nat:=(zM g.ports.length).foldl (pkV f g) (2^g.ports.length-1)
section
variable {g:Gr}{f:Nat->Int}
theorem ybki{v i:Nat}:∀(ls:List (Int×Int)) (s:Nat),(ls.foldl (pkL f v) s).testBit i=true↔s.testBit i=true/\(i=v->∀l∈ls,f l.1.toNat<=f v)
 |[],s=>⟨fun h=>⟨h,fun _ _ hl=>nomatch hl⟩,fun h=>h.1⟩
 | l :: ls,s=>by
   rw[zBP,ybki ls]
   have hb:(pkL f v s l).testBit i=true↔s.testBit i=true/\(i=v->f l.1.toNat<=f v):=by
    unfold pkL
    by_cases q:f v<f l.1.toNat
    .rw[if_pos q,ygm,zG,zAC,zBD,decide_eq_false_iff_not];exact and_congr Iff.rfl ⟨fun h e=>absurd e.symm h,fun h e=>by have:=h e.symm;omega⟩
    .rw[if_neg q];exact⟨fun h=>⟨h,fun _=>by omega⟩,fun h=>h.1⟩
   rw[hb];constructor
   .rintro⟨⟨h1,h2⟩,h3⟩;refine⟨h1,fun e x hx=>?_⟩;rcases List.mem_cons.1 hx with r|r
    .rw[r];exact h2 e
    .exact h3 e x r
   .rintro⟨h1,h2⟩;exact⟨⟨h1,fun e=>h2 e l zY⟩,fun e x hx=>h2 e x (zAI _ hx)⟩
theorem yblq{i:Nat}:∀(vs:List Nat) (s:Nat),(vs.foldl (pkV f g) s).testBit i=true↔s.testBit i=true/\(i∈vs->∀l∈g.ports.getD i [],f l.1.toNat<=f i)
 |[],s=>⟨fun h=>⟨h,fun hl=>nomatch hl⟩,fun h=>h.1⟩
 | v :: vs,s=>by
   rw[zBP,yblq vs];have hb:(pkV f g s v).testBit i=true↔s.testBit i=true/\(i=v->∀l∈g.ports.getD v [],f l.1.toNat<=f v):=ybki _ _;rw[hb];constructor
   .rintro⟨⟨h1,h2⟩,h3⟩;refine⟨h1,fun hm=>?_⟩;rcases List.mem_cons.1 hm with r|r
    .subst r;exact h2 rfl
    .exact h3 r
   .rintro⟨h1,h2⟩;exact⟨⟨h1,fun e=>by subst e;exact h2 zY⟩,fun hm=>h2 (zAI _ hm)⟩
theorem yue(hg:ybe g){v:Nat}:(yiq f g).testBit v=true↔v<g.ports.length/\∀u,adj g v u->f u<=f v:=by
 unfold yiq;rw[yblq,Nat.testBit_two_pow_sub_one,decide_eq_true_iff,zBT];constructor
 .rintro⟨h1,h2⟩;refine⟨h1,fun u hu=>?_⟩;obtain⟨l,hl,e⟩:=yie hu;rw[<-e];exact h2 h1 l hl
 .rintro⟨h1,h2⟩;exact⟨h1,fun _ l hl=>h2 _ (ydp hg h1 hl).2.2.1⟩
end
end
section
namespace Sh
open Go Ev Go.RowKit
section
variable {m:Mem}{F:AM}
theorem row_of{z bk p n cp N e zz:Nat}{Tb:Ev.T Value}{L:Nat->List Value}(h1:m.b.get bk=some (.cells Tb N e zz))(h2:0<n)(h3:p+n*z<=N)(h4:∀a,a<n->(L a).length=z)(h5:∀a,a<n->∀j,j<z->Tb.get (p+a*z+j)=(L a)[j]?) :
 rowOf m z (.slice (some ⟨bk,p,none⟩) n cp)=some (ycf L n,[bk]):=by
 have hl:=ydh h4;show(bif zAF n 0 then _ else _)=_;rw[show zAF n 0=false by cases n with|zero=>omega|succ n=>rfl]
 simp only[cond_false];rw[h1];simp only;rw[zI h3];simp only[cond_true]
 have hg:=ygz (T:=Tb) (L:=ycf L n) (o:=p) (fun j hj=>by
  rw[hl]at hj;rcases zAW z with hz|hz
  .subst hz;omega
  .have hd:=Nat.div_add_mod j z;have hm:=Nat.mod_lt j hz;have hk:j/z<n:=Nat.div_lt_of_lt_mul (by rwa [zCA]at hj)
   have e1:j=j/z*z+j%z:=by rw[zCA];exact hd.symm
   rw[e1,yfx h4 _ _ hk hm,<-Nat.add_assoc];exact h5 _ hk _ hm)
 rw[hl]at hg;rw[hg]
theorem row_zero{u:Value}(h:Z0 u)(z:Nat):rowOf m z u=some ([],[]):=by
 rcases h with rfl|⟨b,o,c,rfl⟩
 .rfl
 .rfl
theorem in64{n:Int}(h:I64 n):inI64 n=true:=by
 unfold I64 at h;unfold inI64;split
 .rename_i k;exact zI (by simp only[Int.ofNat_eq_natCast]at h;omega)
 .rename_i k;exact zI (by omega)
theorem yrk{a b:Int}(ha:I64 a)(hb:I64 b):∀{l:List Value}{r:List (Int×Int)},pairsOf l=some r->pairsOf (l++[.int .i64 a,.int .i64 b])=some (r++[(a,b)])
 | [],r,h=>by
   cases h
   show(bif inI64 a&&inI64 b then _ else _)=_;rw[in64 ha,in64 hb];rfl
 | .int .i64 x :: .int .i64 y::l,r,h=>by
   unfold pairsOf at h;split at h
   .rename_i r' hr
    rw[zBK]at h;split at h
    .rename_i hc
     cases h
     show(match pairsOf (l++[.int .i64 a,.int .i64 b])with|some r=>bif inI64 x&&inI64 y then some ((x,y)::r)else none|none=>none)=_
     rw[yrk ha hb hr];simp only[hc,cond_true];rfl
    .cases h
   .cases h
theorem ybos(hF:Le F m.b.get){ls:List (Int×Int)}{u:Value}(h:RV F om0 (ybc ls) u)(hI:∀l∈ls,I64 l.1/\I64 l.2):linksOf m u=some ls:=by
 unfold linksOf;rcases h.sl_inv with⟨h0,hz⟩|⟨bk,p,cp,T,N,e,zz,L,rfl,g1,g2,g3,g4,g5,g6,g7⟩
 .rw[row_zero hz];have:ls=[]:=zW h0;subst this;rfl
 .rcases zAW ls.length with h0|h0
  .have:ls=[]:=zW h0;subst this;rfl
  .rw[row_of (hF _ _ g1) h0 g3 g4 g5]
   have:∀n,n<=ls.length->pairsOf (ycf L n)=some (ls.take n):=by
    intro n
    induction n with
    |zero=>intro _;rfl
    | succ n ih =>
      intro hn;have hn':n<ls.length:=by omega
      have hl:=g6 n hn'
      have e1:L n=[.int .i64 ls[n].1,.int .i64 ls[n].2]:=by
       have e0:ls.getD n (0,0)=ls[n]:=by simp[zAO,hn']
       rw[e0]at hl;obtain⟨x,y,e2,hx,hy⟩:=rvl2 hl;rw[e2,hx.int_inv,hy.int_inv]
      show pairsOf (ycf L n++L n)=_;rw[e1,zL hn'];have:=hI ls[n] (zN hn');exact yrk this.1 this.2 (ih (by omega))
   simp only;rw[this _ (zK _),zAD]
theorem ybwj{α β:Type}{f:α->Option β}:∀{l:List α}{r:List β},l.length=r.length->(∀(k:Nat) x y,l[k]?=some x->r[k]?=some y->f x=some y)->mapO f l=some r
 |[],[],_,_=>rfl
 | x::l,y::r,hl,h=>by
   unfold mapO;rw[h 0 x y rfl rfl];simp only;rw[ybwj (by simpa using hl) fun k a b h1 h2=>h (k+1) a b (by simpa using h1) (by simpa using h2)]
 |[],_::_,hl,_=>by simp at hl
 |_::_,[],hl,_=>by simp at hl
theorem ybwg{L:Nat->List Value}{n:Nat}(h:∀a,a<n->(L a).length=1){k:Nat}(hk:k<n):(ycf L n)[k]?=(L k)[0]?:=by
 have:=yfx h k 0 hk (by omega)
 simpa using this
theorem ybmq{ids:SV}{P:List (List (Int×Int))}{u:Value}(h:RV F om0 (.rf [ids,yx P]) u)(hI:∀ls∈P,∀l∈ls,I64 l.1/\I64 l.2) :
 ∃A v us,u = .pointer (some A)/\∀m:Mem,Le F m.b.get->graphOf m A=some ⟨v,us,P⟩:=by
 obtain⟨bk,p,T,N,e,zz,L,rfl,h1,h2,h3,h4,_⟩:=h.rf_inv;cases h4 with
 | cons a0 b0 =>
   cases b0 with
   | cons a1 b1 =>
     rename_i u0 _ u1 _
     cases b1
     have hbox:∀m:Mem,Le F m.b.get->boxPorts m ⟨bk,p,none⟩=some u1:=fun m hF=>by
      unfold boxPorts;simp only;rw[hF _ _ h1];simp only;rw[show zAL (p+1) N=true from zI (show p+1+1<=N by simp at h2;omega)]
      simp only[cond_true];exact h3 1 (by simp)
     have fin:∀(us:List Value) (ft:List Nat),(∀m:Mem,Le F m.b.get->rowOf m 1 u1=some (us,ft))->us.length=P.length->(∀(k:Nat) x y,us[k]?=some x->P[k]?=some y->RV F om0 (ybc y) x) ->
      ∃A v us,Value.pointer (some ⟨bk,p,none⟩) = .pointer (some A)/\∀m:Mem,Le F m.b.get->graphOf m A=some ⟨v,us,P⟩:=fun us ft hr hl hx=>by
      refine⟨_,u1,us,rfl,fun m hF=>?_⟩;unfold graphOf;rw[hbox m hF];show ob (rowOf m 1 u1) _=_;rw[hr m hF];show ob (mapO (linksOf m) us) _=_;rw[ybwj hl fun k x y q1 q2=>ybos hF (hx k x y q1 q2) (hI y (List.mem_of_getElem? q2))];rfl
     rcases a1.sl_inv with⟨k0,hz⟩|⟨bk',p',cp,T',N',e',zz',L',rfl,g1,g2,g3,g4,g5,g6,g7⟩
     .have:P=[]:=zW k0;subst this;exact fin [] [] (fun m _=>row_zero hz 1) rfl (fun k x y q _=>by simp at q)
     .rcases zAW P.length with h0|h0
      .have:P=[]:=zW h0;subst this;exact fin [] [] (fun m _=>rfl) rfl (fun k x y q _=>by simp at q)
      .refine fin (ycf L' P.length) [bk'] (fun m hF=>row_of (hF _ _ g1) h0 g3 g4 g5) (by rw[ydh g4,Nat.mul_one]) fun k x y q1 q2=>?_
       have hk:k<P.length:=(List.getElem?_eq_some_iff.1 q2).1;rw[ybwg g4 hk]at q1;have hl:=g6 k hk;have e0:P.getD k []=y:=by simp[zAO,q2]
       rw[e0]at hl;obtain⟨v,e1,hv⟩:=rvl1 hl;rw[e1]at q1;cases q1
       exact hv
end
def yex(P:List (List (Int×Int)))(k:Nat):El:=(flatAt 0 P).getD k ⟨0,0,0⟩
def ybsf(P:List (List (Int×Int))):ItS:=⟨(flatAt 0 P).length,fun k=>[.i .i64 (yex P k).v,.ag [.i .i64 (yex P k).a,.i .i64 (yex P k).b]],[],fun _ _=>True,fun _ o=>o⟩
theorem ychn{ids:SV}{P:List (List (Int×Int))}(hI:∀ls∈P,∀l∈ls,I64 l.1/\I64 l.2):ItC zF 158 [.rf [ids,yx P]] (ybsf P):=by
 intro lo F ω s f m us hc hr _;obtain⟨u,rfl,hu⟩:=rvl1 hr
 have hu0:RV F om0 (.rf [ids,yx P]) u:=by
  obtain⟨bk,p,T,N,e,zz,L,rfl,h1,h2,h3,h4,h5⟩:=hu.rf_inv;exact .rf h1 h2 h3 h4 h5
 obtain⟨A,v,vs,rfl,hg⟩:=ybmq hu0 hI;have el0:∀k,k<(flatAt 0 P).length->(flatAt 0 P)[k]?=some (yex P k):=fun k hk=>by simp[yex,zAO,hk]
 refine⟨⟨(flatAt 0 P).length,fun k=>[(yex P k).v0,(yex P k).v1],fun _ m=>graphOf m A=some ⟨v,vs,P⟩,fun _ m=>m,fun _ _ M w M' w'=>M'=M/\w'=w⟩,⟨yzo.1,fun k m hk hw _=>Grow.refl hw,?_,?_⟩,rfl,fun F' ω' s' f' m' k hF _ hc' hk _=>⟨hg m' (hF.trans hc'.sub),fun hk=>⟨.cons .i (.cons (.ag (.cons .i (.cons .i .nil))) .nil),hc'⟩⟩⟩
 .rintro k φ M w m M' w' hk hw hR hs hp ⟨rfl,rfl⟩;exact Good.refl hR hs
 .intro l St Stop φ M w cap' hread hgrow hyield h0 hcap;obtain⟨box,rfl,hbox⟩:=yfa hcap;refine CallsIn.mono (yzo.2 l A ⟨v,vs,P⟩ (fun pre φ' M' w'=>φ.le φ'/\(∃post,flatAt 0 P=pre++post)/\St pre.length φ' M' w') Stop φ M w box ?_ ?_ ?_ ⟨φ.le_refl,⟨_,rfl⟩,h0⟩ hbox) ?_
  .rintro pre φ' M' w' ⟨_,_,hst⟩;exact(hread _ _ _ _ hst).2
  .rintro pre φ' M' w' w'' ⟨h1,h2,hst⟩ hb;exact⟨h1,h2,hgrow _ _ _ _ _ hst hb⟩
  .rintro pre x post φ' M' w' ⟨h1,_,hst⟩ hfl;have hfl:flatAt 0 P=pre++x::post:=hfl;have hk:pre.length<(flatAt 0 P).length:=by rw[hfl];simp
   have ex:yex P pre.length=x:=by
    have:=el0 _ hk;rw[hfl,List.getElem?_append_right (zK _)]at this
    simpa using this.symm
   obtain⟨fn,tmps,asg,bd,hy1,hy2⟩:=hyield pre.length φ' M' w' [x.v0,x.v1] hk hst (by
    show VRL φ' [(yex P pre.length).v0,(yex P pre.length).v1] _;rw[ex];exact .cons (.simple rfl) (.cons (VR.atomA (v:=x.v1) rfl) .nil))
   refine⟨fn,tmps,asg,bd,hy1,hy2.mono ?_⟩
   .rintro e w'' (⟨he,φ'',M'',h3,_,h4⟩|h)
    .refine .inl ⟨he,φ'',M'',h3,Phi.le_trans h1 h3,⟨post,by rw[hfl];simp⟩,?_⟩
     rw[zAG];exact h4 M'' w'' ⟨rfl,rfl⟩
    .exact .inr h
  .rintro e w' ⟨h1,(⟨φ',M',_,_,hst⟩|h)⟩
   .exact⟨h1,.inl ⟨φ',M',hst⟩⟩
   .exact⟨h1,.inr h⟩
end Sh
end
section
namespace Sh
open Go Ev
def ycpd:LO:=[o3 (.box 27 (.tmp 0)) 1 0,o3 (.mv (.const (.nilFunc))) 2 0]
def ycux:LO:=[o3 (.mkfn 158 [] [(.tmp 1)]) 3 0,mv' 3 2 1]
def c120:SC:=(.seq (.reg false ycpd) (.seq (.reg false ycux) .ret))
theorem yddy:Fn 120 c120 [.t 2]:=fn_0 Tryz.func120 (by kernel_rfl) (by kernel_rfl)
end Sh
end
section
open Ev
theorem ybdw:∀(ps:List (List (Int×Int))) (v:Nat) (x:El),x∈flatAt v ps->v<=x.v/\x.v<v+ps.length/\(x.a,x.b)∈ps.getD (x.v-v) []
 |[],_,_,h=>absurd h zX
 | ls::l,v,x,h=>by
   rcases List.mem_append.1 h with h|h
   .obtain⟨y,hy,rfl⟩:=List.mem_map.1 h;refine⟨zK _,by simp,?_⟩
    simp only[zBE,zAT];exact hy
   .obtain⟨h1,h2,h3⟩:=ybdw l (v+1) x h;refine⟨by omega,by simp only[zQ];omega,?_⟩
    have e:x.v-v=(x.v-(v+1))+1:=by omega
    rw[e,zAU];exact h3
theorem ycai{g:Gr}{k:Nat}(hk:k<g.ports.length):flatAt 0 (g.ports.take (k+1))=flatAt 0 (g.ports.take k)++(g.ports.getD k []).map fun x=>(⟨k,x.1,x.2⟩:El):=by
 have h:=ymg (ps:=g.ports) (k:=k) (ls:=g.ports.getD k []) (by simp[zAO,hk])
 rw[<-h];unfold ygk;rw[zAD]
theorem ybew{α:Type}{g:Gr}(f:α->El->α)(a:α):∀k,k<=g.ports.length->(flatAt 0 (g.ports.take k)).foldl f a=(zM k).foldl (fun a v=>(g.ports.getD v []).foldl (fun a l=>f a ⟨v,l.1,l.2⟩) a) a
 |0,_=>by simp[flatAt]
 | k+1,hk=>by
   rw[ycai (by omega),zU,ybew f a k (by omega),zAQ,zU,List.foldl_map]
   rfl
theorem ycgy{α:Type}{g:Gr}(f:α->El->α)(a:α):(flatAt 0 g.ports).foldl f a=(zM g.ports.length).foldl (fun a v=>(g.ports.getD v []).foldl (fun a l=>f a ⟨v,l.1,l.2⟩) a) a:=by
 have:=ybew (g:=g) f a g.ports.length (zK _)
 rwa [zAD]at this
theorem ybyj{g:Gr}(hg:ybe g){k:Nat}(hk:k<(flatAt 0 g.ports).length):(Sh.yex g.ports k).v<g.ports.length/\((Sh.yex g.ports k).a,(Sh.yex g.ports k).b)∈g.ports.getD (Sh.yex g.ports k).v []:=by
 have hm:Sh.yex g.ports k∈flatAt 0 g.ports:=by unfold Sh.yex;rw[Sh.getD_at hk];exact zN hk
 obtain⟨_,h2,h3⟩:=ybdw _ _ _ hm;exact⟨by omega,by simpa using h3⟩
theorem ybrs{α:Type}{g:Gr}(f:α->El->α)(a:α){k:Nat}(hk:k<(flatAt 0 g.ports).length):((flatAt 0 g.ports).take (k+1)).foldl f a=f (((flatAt 0 g.ports).take k).foldl f a) (Sh.yex g.ports k):=by
 rw[zL hk,zU];unfold Sh.yex;rw[Sh.getD_at hk];rfl
theorem ycag{g:Gr}(hg:ybe g):∀ls∈g.ports,∀l∈ls,I64 l.1/\I64 l.2:=fun ls hls l hl=>by
 obtain⟨v,hv,e⟩:=zAV hls;have h24:=hg.2.1;have:g.ports.getD v []=ls:=by simp[zAO,hv,e]
 obtain⟨h1,h2,_,h4,h5⟩:=ydp hg hv (by rw[this];exact hl)
 exact⟨Sh.yfi (by omega),Sh.yfi (by omega)⟩
end
section
namespace Sh
open Ev Go.RowKit
theorem ybub{g:Gr}:Returns zF 120 [grV g] (.fn 158 [] [.rf [yu g.ids,yx g.ports]]):=by
 refine Returns.of (yddy _ _ ?_);simp only[c120,ycpd,ycux,grV,clash,go_sem,zA,zB,zD,zC,↓reduceIte,reduceCtorEq];exact Sim.refl _
end Sh
end
section
def pkEl(f:Nat->Int)(s:Nat)(e:Ev.El):Nat:=if f e.v<f e.a.toNat then difB s (2^e.v)else s
theorem ybng(f:Nat->Int)(g:Gr):(Ev.flatAt 0 g.ports).foldl (pkEl f) (2^g.ports.length-1)=yiq f g:=by
 rw[ycgy];rfl
theorem ymo{g:Gr}(h:ycd g=true):yed g=true:=by
 unfold ycd at h;rw[zG]at h;exact h.1
theorem yut{g:Gr}(h:ycd g=true):ybe g:=(ych g).1 (ygx (ymo h))
namespace Sh
open Ev Go.RowKit
theorem ysu(o:Own)(n:Nat):∀l:List SV,allP (pok [] o n) l
 |[]=>trivial
 |v::l=>⟨by rw[ybgz];trivial,ysu o n l⟩
theorem yhx(o:Own)(n:Nat):∀l:List SV,l.map (ydk [] o n)=l
 |[]=>rfl
 |v::l=>by rw[zBB,yuw,yhx o n l]
set_option maxHeartbeats 1000000 in
theorem ycbm{g:Gr}(hg:ybe g){f:Nat->Int}{h:FuncId}{cp:List SV}(hcp4:cp.any (owned 4)=false)(hf:∀v,v<g.ports.length->Returns zF h (.i .i64 v::cp) (.i .i64 (f v))) :
 Returns zF 81 [grV g,.fn h [] cp] (.i .u32 (yiq f g)):=by
 refine Returns.of (ydrm _ _ ?_);have hcp:=ylu hcp4;have hA:=ycco hg;have hLk:=ybub (g:=g);have h24:=hg.2.1;have hpl:=hg.2.2.1;have hpk:=ybng f g;rw[hpl]at hA;obtain⟨n,hn⟩:∃n,g.ports.length=n:=⟨_,rfl⟩;rw[hn]at hA h24 hpl hf hpk;obtain⟨A,hAe⟩:∃A,2^n-1=A:=⟨_,rfl⟩;have hAl:A<2^24:=by rw[<-hAe];have:2^n<=2^24:=Nat.pow_le_pow_right (by omega) h24;have:=zBQ n;omega
 rw[hAe]at hA hpk;obtain⟨S,hS⟩:∃S:Nat->Nat,(fun k=>((flatAt 0 g.ports).take k).foldl (pkEl f) A)=S:=⟨_,rfl⟩;have hS0:S 0=A:=by rw[<-hS];rfl
 have hSn:S (flatAt 0 g.ports).length=yiq f g:=by rw[<-hS,<-hpk];simp
 have hSs:∀k,k<(flatAt 0 g.ports).length->S (k+1)=pkEl f (S k) (yex g.ports k):=fun k hk=>by rw[<-hS];exact ybrs (pkEl f) A hk
 have hSl:∀k,k<=(flatAt 0 g.ports).length->S k<2^24:=fun k=>by
  induction k with
  |zero=>intro _;rw[hS0];exact hAl
  | succ k ih =>
    intro hk;rw[hSs k hk];unfold pkEl;split
    .exact ybau (ih (by omega))
    .exact ih (by omega)
 rw[<-hSn];simp only[grV]at hA hLk;simp only[c81,ydrr,ydme,ydpd,grV,clash,go_sem,zA,zB,zC,↓reduceIte,reduceCtorEq];refine hA.use ?_;simp only[ybg,splice,clash,go_sem,zA,zB,zC,↓reduceIte];refine hLk.use ?_
 refine ybad (ychn (ycag hg)) [(2,0),(3,0),(5,0)] (fun i (_:Unit)=>⟨[(11,.fn 158 [] [.rf [yu g.ids,yx g.ports]]),(2,.pt (2,0) 0 0),(3,.pt (3,0) 0 0),(5,.pt (5,0) 0 0)],
  [(2,.one (some ⟨27,true,2,1,fun _=>[yu g.ids,yx g.ports]⟩)),(3,.one (some ⟨90,true,1,1,fun _=>[.fn h [] cp]⟩)),(5,.one (some ⟨40,true,1,1,fun _=>[.i .u32 (S i)]⟩))]⟩) (fun i _=>i<=(flatAt 0 g.ports).length) () (zJ _) ⟨fun _ h=>absurd h zX,fun _ h=>absurd h zX⟩ ?_ (fun _=>rfl) ?_ ?_ ?_
 .refine yh [] [] [] ?_;simp only[hS0,yea _ hcp4,yef _ hcp4,allQ,live,yc,go_sem,zA,↓reduceIte,reduceCtorEq];intro _ _;refine⟨ysu _ _ cp,?_⟩;rw[yhx];exact Sim.refl _
 .intro i _ hi _;refine⟨trivial,?_⟩;simp only[go_sem,allQ,go_sem,zA]
 .intro i _ hi hlti;have hlti:i<(flatAt 0 g.ports).length:=hlti;obtain⟨e1,e2⟩:=ybyj hg hlti;have hs:=hSs i hlti;have hb:=hSl i hi;obtain⟨E,hE⟩:∃E,yex g.ports i=E:=⟨_,rfl⟩;rw[hE]at hs e1 e2;obtain⟨a1,a2,_⟩:=ydp hg e1 e2;have a1:0<=E.a:=a1;have a2:E.a.toNat<g.ports.length:=a2;have f1:=hf E.v (by omega)
  have f2:=hf E.a.toNat (by omega)
  rw[zAS a1]at f2;obtain⟨a,ha⟩:∃a,S i=a:=⟨_,rfl⟩;rw[ha]at hs hb;refine⟨_,rfl,?_⟩;simp only[ybsf];obtain⟨x,hx⟩:∃x,f E.v=x:=⟨_,rfl⟩;obtain⟨y,hy⟩:∃y,f E.a.toNat=y:=⟨_,rfl⟩;rw[hx]at f1;rw[hy]at f2;simp only[ydsj,ydqo,ydrd,ha,hE,splice,hcp,clash,go_sem,zA,zB,zC,↓reduceIte,reduceCtorEq];refine f1.use ?_;simp only[ybg,hcp,clash,go_sem,zA,zB,zD,↓reduceIte,reduceCtorEq];refine f2.use ?_
  by_cases q:x<y
  .have z1:decide (x<y)=true:=decide_eq_true q;have e:S (i+1)=difB a (2^E.v):=by rw[hs];unfold pkEl;rw[hx,hy,if_pos q]
   have sh:=yoo (v:=E.v) (by omega)
   have an:=u32_andNot (a:=a) (b:=2^E.v) (by omega) (zAR (by omega) (by omega))
   simp only[IntKind.bits,zAH]at sh an;simp only[ydou,splice,z1,sh,an,clash,go_sem,zA,zB,↓reduceIte,reduceCtorEq]
   repeat (first|refine⟨by omega,?_⟩|refine⟨by decide,?_⟩)
   refine ydd [] [] [] ?_;simp only[e,yea _ hcp4,yef _ hcp4,allQ,live,yc,go_sem,zA,↓reduceIte,reduceCtorEq];intro _ _;refine⟨ysu _ _ cp,?_⟩;rw[yhx];exact Sim.refl _
  .have z1:decide (x<y)=false:=decide_eq_false q;have e:S (i+1)=a:=by rw[hs];unfold pkEl;rw[hx,hy,if_neg q]
   simp only[z1,go_sem,↓reduceIte]
   repeat (first|refine⟨by omega,?_⟩|refine⟨by decide,?_⟩)
   refine ydd [] [] [] ?_;simp only[e,yea _ hcp4,yef _ hcp4,allQ,live,yc,go_sem,zA,↓reduceIte,reduceCtorEq];intro _ _;refine⟨ysu _ _ cp,?_⟩;rw[yhx];exact Sim.refl _
 .intro _ _;simp only[ydkz,ybsf,clash,go_sem,zA,zB,↓reduceIte,reduceCtorEq];exact Sim.refl _
end Sh
end
section
abbrev Ptr:=Nat->Option Nat
def Mt(p:Ptr)(x:Nat):Prop:=∃y,p x=some y/\p y=some x
inductive Mv (g:Gr) (p:Ptr) (v:Nat):Option Nat->Prop
 |accept (u:Nat):p v=none->adj g v u->p u=some v->Mv g p v (some u)
 |propose (u:Nat):p v=none->adj g v u->p u=none->(∀x,adj g v x->p x≠some v)->Mv g p v (some u)
 |withdraw (u w:Nat):p v=some u->p u=some w->w≠v->Mv g p v none
structure PtI(g:Gr)(p:Ptr)(I:Nat->Prop):Prop where
 nb:∀v u,p v=some u->adj g v u
 fresh:∀v u,p v=some u->¬I v->p u=none\/p u=some v\/Mt p u
open Classical in
noncomputable def lv(A B C:Prop):Nat:=if A then 0 else if B then 1 else if C then 0 else 2
noncomputable def lft(p:Ptr)(I:Nat->Prop)(u v:Nat):Nat:=lv (p u=some v/\p v=some u) ((p u=some v/\¬I u)\/(p v=some u/\¬I v)) (Mt p u\/Mt p v)
section
variable {g:Gr}{p:Ptr}{I:Nat->Prop}{v:Nat}{t:Option Nat}
end
end
section
section
variable {g:Gr}{p:Ptr}{I:Nat->Prop}{v:Nat}{t:Option Nat}
end
open Classical in
noncomputable def oldN(g:Gr)(p:Ptr)(I:Nat->Prop):Nat:=((zM g.ports.length).map fun x=>if I x/\p x≠none then 1 else 0).sum
open Classical in
noncomputable def lftN(g:Gr)(p:Ptr)(I:Nat->Prop):Nat:=((zM g.ports.length).map fun x=>((g.ports.getD x []).map fun l=>lft p I x l.1.toNat).sum).sum
open Classical in
end
section
section
variable {g:Gr}{p:Ptr}{I:Nat->Prop}{v w:Nat}{t t':Option Nat}
noncomputable def potN(g:Gr)(p:Ptr)(I:Nat->Prop):Nat:=2*oldN g p I+lftN g p I
open Classical in
end
end
section
def ycwq:Ex:=.bin 35 (eQ 0) (.leaf 17 0)
def ycop:Ex:=.bin 35 (eQ 0) ybyw
def ydjp:Ex:=.bin 41 (.bin 41 (.bin 35 (.leaf 11 0) (eVar 0)) (.bin 36 (eQ 0) ybyw)) (.bin 36 (eQ 0) (.leaf 17 0))
def ydla(nm p a b w:ByteArray):ProgT:=⟨nm,[⟨p,3,0,0,0,0⟩],[⟨a,.bin 41 (.bin 35 (eVar 0) ybyw) (.agg 21 ycwq),[(0,.agg 23 ycwq)]⟩,⟨b,.bin 41 (.bin 35 (eVar 0) ybyw) (.agg 21 ycop),[(0,.agg 23 ycop)]⟩,⟨w,.agg 21 ydjp,[(0,ybyw)]⟩]⟩
def pAt(c:Conf)(v:Nat):Int:=(c.getD v []).getD 0 0
def toP(g:Gr)(c:Conf):Ptr:=fun v=>if v<g.ports.length/\0<=pAt c v then some ((g.ports.getD v []).getD (pAt c v).toNat (0,0)).1.toNat else none
structure MtC(g:Gr)(c:Conf):Prop where
 len:c.length=g.ids.length
 row:∀v,v<g.ids.length->(c.getD v []).length=1/\(-1<=pAt c v/\pAt c v<(g.ports.getD v []).length)
section
variable {nm np na nb nw:ByteArray}{g:Gr}{c:Conf}{u v s:Nat}
end
end
section
theorem ybeg{α:Type}[DecidableEq α]:∀{l1 l2:List α},l1.Nodup->(∀x∈l1,x∈l2)->l1.length<=l2.length
 |[],_,_,_=>zJ _
 | a::t,l2,hn,hs=>by
   have hn:=List.nodup_cons.1 hn;have h1:=hs a zY;have:=ybeg (l1:=t) (l2:=l2.erase a) hn.2 fun y hy=>(List.mem_erase_of_ne fun e=>hn.1 (by rw[<-e];exact hy)).2 (hs y (zAI _ hy))
   rw[List.length_erase_of_mem h1]at this;have:=zAZ h1;simp only[zQ];omega
def kcEx:Ex:=.agg 21 (.bin 35 (eQ 0) (eVar 0))
def ycbr(nm c r:ByteArray):ProgT:=⟨nm,[⟨c,1,0,0,1,0⟩],[⟨r,kcEx,[(0,.agg 27 (eQ 0))]⟩]⟩
def ycgn(c:Conf)(v:Nat):Int:=(c.getD v []).getD 0 0
def yduw(g:Gr)(c:Conf)(v:Nat):Prop:=∃u,adj g v u/\ycgn c u=ycgn c v
structure KcC(g:Gr)(c:Conf):Prop where
 len:c.length=g.ids.length
 row:∀v,v<g.ids.length->(c.getD v []).length=1/\(0<=ycgn c v/\ycgn c v<=g.ids.length)
section
variable {nm nc nr:ByteArray}{g:Gr}{c:Conf}{u v s:Nat}
def kcR(g:Gr)(r v:Nat)(c:Conf):Prop:=1<=r->¬yduw g c v
structure KcJ(nm nc nr:ByteArray)(g:Gr)(c:Conf)(k:Cnt):Prop where
 inv:RInvC (ybr (ycbr nm nc nr) g) (fun c=>ydz (ycbr nm nc nr) g c=true) (kcR g) c k
 moves:k.moves+popP (ybn (ycbr nm nc nr) g c)<=g.ids.length
end
end
section
def ymd(ls:List (Int×Int))(b:Int):Bool:=ls.any fun l=>decide (l.1=b)
namespace Sh
open Ev Go.RowKit
theorem ybok{ids:List Int}{ports:List (List (Int×Int))}{a b:Nat}(ha:a<ports.length)(hl:(ports.getD a []).length<=100000) :
 Returns zF 128 [.ag [yu ids,yx ports],.i .i64 a,.i .i64 b] (.b (ymd (ports.getD a []) b)):=by
 refine Returns.of (yddl _ _ ?_);obtain⟨n,hn⟩:∃n,ports.length=n:=⟨_,rfl⟩;obtain⟨L,hL⟩:∃L,ports.getD a []=L:=⟨_,rfl⟩;rw[hL]at hl ⊢;obtain⟨m,hm⟩:∃m,L.length=m:=⟨_,rfl⟩;simp only[c128,ycoo,ycrj,go_sem,zB,zC,↓reduceIte];refine ybk (σ:=Nat) (fun k=>⟨[(7,.i .i64 k),(3,.pt (3,0) 0 0),(1,.i .i64 a),(2,.i .i64 b)],[(3,.one (some ⟨27,true,2,1,fun _=>[yu ids,yx ports]⟩))]⟩) (fun k=>k<=m/\∀j,j<k->(L.getD j (0,0)).1≠b) (fun k=>m-k) 0 ⟨zJ _,fun j hj=>absurd hj (zAA j)⟩ ?_ ?_
 .refine yh [] [] [] ?_;simp only[go_sem,allQ,live,yc,zH,go_sem,zA,↓reduceIte,reduceCtorEq]
 .rintro k ⟨hk,hno⟩;simp only[ydac,ycuv,ycjf,ydab,yczl,yx,ybc,hn,hL,hm,go_sem,zA,zB,zD,↓reduceIte,reduceCtorEq];refine⟨⟨by omega,by omega⟩,fun hlt=>⟨⟨by omega,by omega⟩,⟨by omega,by omega⟩,fun he=>?_,fun hne=>⟨ikw (by omega) (by omega),?_⟩⟩,fun hge=>?_⟩
  .have hk':k<L.length:=by omega
   have:ymd L b=true:=List.any_eq_true.2 ⟨L[k],zN _,by rw[getD_at hk']at he;exact decide_eq_true he⟩
   rw[this];exact Sim.refl _
  .refine yj (k+1) ⟨by omega,fun j hj=>?_⟩ (by omega) ?_
   .by_cases q:j=k
    .rw[q];exact hne
    .exact hno j (by omega)
   refine yh [] [] [] ?_;simp only[allQ,live,yc,ybb,go_sem,zA,↓reduceIte,reduceCtorEq];omega
  .have:ymd L b=false:=List.any_eq_false.2 fun l hl he=>by
    obtain⟨j,hj,rfl⟩:=zAV hl;have:=hno j (by omega)
    rw[getD_at hj]at this;exact this (of_decide_eq_true he)
   rw[this];exact Sim.refl _
end Sh
end
section
namespace Sh
open Go Ev
theorem Cm.ct{P:Program}{g:FuncId}{args:List SV}{Q:SV->Own->Prop}{R:SV->Prop}(h:Cm P g [] [] args Q)(hq:∀r o',Q r o'->vok o' 5 r/\R (view o' 5 r)):Ct P g args R:=by
 intro G m us hw hle hargs
 have hc0:Conc m.next G om0 ⟨[],[]⟩ ⟨0,.leaf⟩ (enterM m) :=
  ⟨hw,zK _,zK _,hle,fun β b h=>(by cases h),fun β _=>rfl,fun β γ k z k' z' h=>(by cases h),fun β k z h=>(by cases h),fun t v hv=>(by cases hv)⟩
 obtain⟨v,m1,r,o',F',ω',s0,t2,hrv,l1,l2,_,_,hQ⟩:=h m.next G om0 ⟨0,.leaf⟩ (enterM m) us hc0 hargs
 obtain⟨r3,r4⟩:=hq r o' hQ
 have hs0:ybw P (.call g us m) (.call v m1):=by
  obtain⟨n,b,l⟩:=m;exact ybw.relow s0
 have hm1:m.next<=m1.low:=t2.low
 have hold:∀{i x},m.b.get i=some x->i<m.next:=fun {i x} q=>hw i x q
 have hview:∀H:AM,Le F' H->(∀β k z,ω' β=some (some (k,z))->∀b,m1.b.get k=some b->H k=some b)->RV H om0 (view o' 5 r) v:=fun H h1 h2=>yiy t2 h1 h2 hrv r3
 have hs1:ybw P (.call g us m) (.call v ⟨m1.next,yhc m.b m1.b,m1.low⟩):=by
  intro hwm;obtain⟨ext,hcall⟩:=hs0 hwm
  have hget:∀{i x},(yhc m.b m1.b).get i=some x->m.b.get i=some x\/m1.b.get i=some x:=fun {i x} q=>by
   rw[ydf]at q;split at q
   .rename_i y hy;cases q;exact .inl hy
   .exact .inr q
  refine⟨⟨ext.next,fun i b hq=>?_,fun i b h1 h2 hq=>?_,fun i b hq=>?_⟩,fun φ M w args' hR hs ha hf=>?_⟩
  .rcases hget hq with q|q
   .exact .inl ⟨b,q⟩
   .exact ext.dom i b q
  .rcases hget hq with q|q
   .exact q
   .exact ext.old i b h1 h2 q
  .rcases hget hq with q|q
   .exact zAX (hold q) ext.next
   .exact ext.wf i b q
  .refine(hcall φ M w args' hR hs ha hf).mono ?_;rintro e' w' ⟨v',rfl,φ',M',hgd,hv⟩;refine⟨v',rfl,φ',M',⟨hgd.le,hgd.out,hgd.rel,fun i b hq=>?_,hgd.frame,hgd.wg⟩,hv⟩;rcases hget hq with q|q
   .have hi:=hold q;rw[hgd.frame i (fun z=>by omega) (.inr (zAX hi hm1))]
    exact hs i b q
   .exact hgd.sub i b q
 have hnone:∀{i},m.next<=i->m.b.get i=none:=fun {i} q=>by
  cases hh:m.b.get i with
  |none=>rfl
  |some x=>have:=hold hh;omega
 refine⟨_,_,view o' 5 r,hs1,hm1,fun i b hq=>?_,r4,hview _ (fun i b hq=>?_) (fun β k z hk b hq=>?_)⟩
 .show(yhc m.b m1.b).get i=some b;rw[ydf,hq]
 .unfold frsh;rcases l2 i b hq with q|q
  .rw[if_neg (by have:=hold (hle i b q);omega)];exact q
  .rw[if_pos q];show(yhc m.b m1.b).get i=some b;rw[ydf,hnone q];exact t2.sub i b hq
 .unfold frsh;have:=(t2.apart β k z hk).2.1;rw[if_pos this];show(yhc m.b m1.b).get k=some b;rw[ydf,hnone this];exact hq
theorem Cm.weak {P:Program}{g:FuncId}{o:Own}{args:List SV}{Q R:SV->Own->Prop}(h:Cm P g [] o args Q)
 (hq:∀r o',Q r o'->∃r2 o2,Weak [] ⟨[(0,r)],o'⟩ ⟨[(0,r2)],o2⟩/\(cln (live o2) 5 r2=true/\allQ (fun p=>ycz (live o2) p.2) o2)/\R r2 o2):Cm P g [] o args R:=by
 intro lo G ω f m us hc hargs;obtain⟨v,m1,r,o',F',ω',s0,t2,hrv,l1,l2,_,_,hQ⟩:=h lo G ω f m us hc hargs;obtain⟨r2,o2,hw,hcl,hR⟩:=hq r o' hQ
 have t3:Conc lo F' ω' ⟨[(0,r)],o'⟩ ⟨1,tOf [v]⟩ m1:=⟨t2.wf,t2.low,t2.nxt,t2.sub,t2.own,t2.dom,t2.inj,t2.apart,fun t x hx=>by
  unfold look at hx;split at hx
  .rename_i e
   cases hx
   exact⟨v,by rw[ycq];simp[<-e],hrv⟩
  .cases hx⟩
 obtain⟨ω2,F2,k1,k2,k3,_⟩:=hw lo F' ω' _ m1 t3;obtain⟨u,q1,q2⟩:=k3.fr 0 r2 rfl
 have e:u=v:=by
  rw[ycq]at q1
  simpa using q1.symm
 subst e
 exact⟨u,m1,r2,o2,F2,ω2,s0,⟨k3.wf,k3.low,k3.nxt,k3.sub,k3.own,k3.dom,k3.inj,k3.apart,fun t x hx=>(by cases hx)⟩,q2,fun x b hx=>k1 x b (l1 x b hx),fun x b hx=>by
  rcases k2 x b hx with z|z
  .exact l2 x b z
  .exact .inr z,fun β hβ=>absurd hβ zX,⟨hcl.1,hcl.2,trivial⟩,hR⟩
end Sh
end
section
structure NetR where
 n:Int
 links:List Int
 weights:List Int
 ids:List Int
 apart:Bool
 back:Bool
def NetR.ok(x:NetR):Prop:=Sh.inK .i64 x.n/\(∀k,Sh.inK .i64 (x.links.getD k 0))/\(∀k,Sh.inK .i64 (x.weights.getD k 0))/\(∀k,Sh.inK .i64 (x.ids.getD k 0))
theorem ybhg(a r:Nat)(hr:r<=256):((zM r).map fun i=>(((a+i)%256:Nat):Int)).Nodup:=by
 unfold List.Nodup;rw[zBI];refine List.Pairwise.imp_of_mem (R:=(· < ·)) (fun {i j} hi hj h=>?_) List.pairwise_lt_range;have hi:=List.mem_range.1 hi;have hj:=List.mem_range.1 hj;intro e;omega
theorem ybky{a r:Nat}{l:List Int}(hr:r<=256)(h:∀i,i<r->(((a+i)%256:Nat):Int)∈l):r<=l.length:=by
 have:=List.Nodup.length_le_of_subset (ybhg a r hr) (l₂:=l) fun x hx=>by
  obtain⟨i,hi,rfl⟩:=List.mem_map.1 hx;exact h i (List.mem_range.1 hi)
 simpa using this
namespace Sh
open Ev Go.RowKit
def netC(x:NetR):List SV:=[.i .i64 x.n,yu x.links,yu x.weights,yu x.ids,.b x.apart,.b x.back]
theorem wrap64_in(z:Int):inK .i64 (IntKind.wrap .i64 z):=by
 unfold inK;have e1:IntKind.i64.min = -9223372036854775808:=rfl;have e2:IntKind.i64.max=9223372036854775807:=rfl;have h1:=Int.emod_nonneg z (show(18446744073709551616:Int)≠0 by decide)
 have h2:=Int.emod_lt_of_pos z (show(0:Int)<18446744073709551616 by decide)
 rw[e1,e2]
 have e:IntKind.wrap .i64 z=if z%18446744073709551616>=9223372036854775808 then z%18446744073709551616-18446744073709551616 else z%18446744073709551616:=by
  show(if (true&&decide (z%18446744073709551616>=9223372036854775808))=true then z%18446744073709551616-18446744073709551616 else z%18446744073709551616)=_
  simp only[zO,decide_eq_true_eq]
 rw[e];split<;>omega
theorem ybrx{x:NetR}(hx:x.ok){most:Nat}(hm:1<=most/\most<=24) :
 Cm zF 75 [] [] [.ag (netC x),.i .i64 most] fun r o=>∃ids:List Int,(1<=ids.length/\ids.length<=most/\(ids.length:Int)=1+ycw (IntKind.wrap .i64 (x.n-1)) most)/\(∀y∈ids,0<=y/\y<=255)/\ids.Nodup/\r = .ag [.os (148,0) 0 ids.length true,.os (17,0) 0 ids.length true] /\
  o=[(17,.one (some ⟨71,false,1,ids.length,fun _=>[.a (.slice none 0 0)]⟩)),(148,.one (some ⟨3,false,1,ids.length,fun k=>[.i .i64 (ids.getD k 0)]⟩))]:=by
 refine ydbu [] [] _ _ _ ?_;obtain⟨hx1,hx2,hx3,hx4⟩:=hx;have hin:=yfn (v:=IntKind.wrap .i64 (x.n-1)) (m:=(most:Int)) (by omega)
 obtain⟨k,hk⟩:∃k:Nat,ycw (IntKind.wrap .i64 (x.n-1)) most=k:=zAP hin.1;have hW:=yfo (IntKind.wrap .i64 (x.n-1)) most (by omega) (wrap64_in _)
 rw[hk]at hW hin;obtain⟨n,hn⟩:∃n:Nat,(1:Int)+(k:Int)=(n:Int):=⟨1+k,by omega⟩
 have hn1:1<=n/\n<=most/\(n:Int)=1+ycw (IntKind.wrap .i64 (x.n-1)) most:=by omega
 simp only[c75,ydnw,ydpv,netC,go_sem,zA,zB,zD,zC,↓reduceIte,reduceCtorEq];refine hW.use ?_;simp only[ybg,ydoe,ydnk,hn,clash,go_sem,zA,zB,zC,↓reduceIte,reduceCtorEq];refine⟨ikw (by omega) (by omega),⟨by omega,by omega,by omega⟩,?_⟩
 refine ybk (σ:=List Int) (fun l=>⟨[(7,.i .i64 l.length),(5,.i .i64 n),(2,.pt (2,0) 0 0),(6,.pt (6,0) 0 0),(4,.pt (4,0) 0 0)],
  [(2,.one (some ⟨24,true,6,1,fun _=>netC x⟩)),(4,.one (some ⟨27,true,2,1,fun _=>[.a (.slice none 0 0),.a (.slice none 0 0)]⟩)),
   (6,.one (some ⟨27,true,2,1,fun _=>[.os (148,0) 0 l.length true,.os (17,0) 0 n true]⟩)),(17,.one (some ⟨71,false,1,n,fun _=>[.a (.slice none 0 0)]⟩)),
   (148,.one (some ⟨3,false,1,l.length,fun k=>[.i .i64 (l.getD k 0)]⟩))]⟩)
  (fun l=>l.length<=n/\(∀y∈l,0<=y/\y<=255)/\l.Nodup) (fun l=>n-l.length) [] ⟨zJ _,fun y hy=>(zX hy).elim,zBU⟩ ?_ ?_
 .refine yh [] [148] [] ?_;simp only[netC,allQ,live,yc,zH,go_sem,zA,zV,↓reduceIte,reduceCtorEq];exact fun i _=>⟨(148,0),rfl,rfl,rfl⟩
 .rintro l ⟨hl,hl2,hl3⟩;obtain⟨v,hv⟩:∃v,l.length=v:=⟨_,rfl⟩;rw[hv]at hl;have hA:=at_ret x.ids v;have hi2:=yfn (v:=atP x.ids v) (m:=256) (by omega)
  obtain⟨a,ha⟩:∃a:Nat,ycw (atP x.ids v) 256=a:=zAP hi2.1;have hW2:=yfo (atP x.ids v) 256 (by omega) (hx4 v)
  rw[ha]at hW2 hi2;simp only[ydnl,ydmp,ydlp,yckh,netC,hv,splice,clash,go_sem,zA,zB,zD,↓reduceIte,reduceCtorEq];refine⟨fun hlt=>?_,fun hge=>?_⟩
  .refine hA.use ?_;simp only[ybg,clash,go_sem,zA,zB,↓reduceIte,reduceCtorEq];refine hW2.use ?_
   refine ybk (σ:=Nat×Nat) (fun q=>⟨[(9,.i .i64 q.2),(8,.i .i64 ((a+q.1)%256:Nat)),(7,.i .i64 v),(5,.i .i64 n),(2,.pt (2,0) 0 0),(6,.pt (6,0) 0 0),(4,.pt (4,0) 0 0)],
    [(2,.one (some ⟨24,true,6,1,fun _=>netC x⟩)),(4,.one (some ⟨27,true,2,1,fun _=>[.a (.slice none 0 0),.a (.slice none 0 0)]⟩)),
     (6,.one (some ⟨27,true,2,1,fun _=>[.os (148,0) 0 v true,.os (17,0) 0 n true]⟩)),(17,.one (some ⟨71,false,1,n,fun _=>[.a (.slice none 0 0)]⟩)),
     (148,.one (some ⟨3,false,1,v,fun k=>[.i .i64 (l.getD k 0)]⟩))]⟩)
    (fun q=>q.2<=v/\(∀i,i<q.1->(((a+i)%256:Nat):Int)∈l)/\q.1<=256/\∀j,j<q.2->l.getD j 0≠(((a+q.1)%256:Nat):Int)) (fun q=>(v-q.1)*(v+2)+(v-q.2)) (0,0) ⟨zJ _,fun i hi=>absurd hi (zAA i),by omega,fun j hj=>absurd hj (zAA j)⟩ ?_ ?_
   .refine yh [] [] [] ?_;simp only[netC,allQ,live,yc,ybb,zH,go_sem,zA,↓reduceIte,reduceCtorEq];rw[Nat.mod_eq_of_lt (by omega)]
   .rintro⟨r,u⟩ ⟨hu,hr,hr256,hno⟩;obtain⟨b,hb⟩:∃b,(a+r)%256=b:=⟨_,rfl⟩;have hb256:b<256:=by omega
    simp only[ydjm,ydry,ycqe,yczf,ycxh,ydqa,netC,hb,splice,clash,go_sem,zA,zB,zD,zC,↓reduceIte,reduceCtorEq];have hu:u<=v:=hu;have hr:∀i,i<r->(((a+i)%256:Nat):Int)∈l:=hr;have hr256:r<=256:=hr256;have hno:∀j,j<u->l.getD j 0≠(b:Int):=fun j hj=>by rw[<-hb];exact hno j hj
    have hrv:r<=v:=by rw[<-hv];exact ybky hr256 hr
    refine⟨fun hlt2=>⟨⟨by omega,by omega⟩,by omega,fun he=>⟨ikw (by omega) (by omega),by decide,ikw (by omega) (by omega),?_⟩,fun hne=>⟨ikw (by omega) (by omega),?_⟩⟩,fun hge2=>?_⟩
    .have hmem:(b:Int)∈l:=by
      rw[<-he,getD_at (show u<l.length by omega)]
      exact zN _
     have hr':∀i,i<r+1->(((a+i)%256:Nat):Int)∈l:=fun i hi=>by
      by_cases q:i=r
      .rw[q,hb];exact hmem
      .exact hr i (by omega)
     have hrv':r+1<=v:=by rw[<-hv];exact ybky (by omega) hr'
     refine yj (r+1,0) ⟨zJ _,hr',by show r+1<=256;omega,fun j hj=>absurd hj (zAA j)⟩ ?_ ?_
     .show(v-(r+1))*(v+2)+(v-0)<(v-r)*(v+2)+(v-u);obtain⟨m,hm⟩:∃m,v-r=m+1:=⟨v-r-1,by omega⟩
      rw[show v-(r+1)=m by omega,hm,Nat.succ_mul]
      generalize m*(v+2)=z
      omega
     .refine yh [] [] [] ?_;simp only[allQ,live,yc,ybb,zH,go_sem,zA,↓reduceIte,reduceCtorEq];refine⟨by omega,?_⟩
      rw[Int.tmod_eq_emod_of_nonneg (by omega)]
      omega
    .refine yj (r,u+1) ⟨by show u+1<=v;omega,hr,hr256,fun j hj=>?_⟩ ?_ ?_
     .show l.getD j 0≠(((a+r)%256:Nat):Int);rw[hb]
      by_cases q:j=u
      .rw[q];exact hne
      .exact hno j (by have:j<u+1:=hj;omega)
     .show(v-r)*(v+2)+(v-(u+1))<(v-r)*(v+2)+(v-u)
      generalize (v-r)*(v+2)=z
      omega
     .refine yh [] [] [] ?_;simp only[hb,allQ,live,yc,ybb,go_sem,zA,↓reduceIte,reduceCtorEq];omega
    .obtain rfl:u=v:=by omega
     refine⟨⟨by omega,by omega⟩,ikw (by omega) (by omega),?_⟩
     have hno':(b:Int)∉l:=fun hm=>by
      obtain⟨j,hj,e⟩:=zAV hm;exact hno j (by omega) (by rw[getD_at hj,e])
     refine yj (l++[(b:Int)]) ⟨by rw[zAG,zBA];omega,fun y hy=>?_,?_⟩ (by rw[zAG,zBA];omega) ?_
     .rcases List.mem_append.1 hy with hy|hy
      .exact hl2 y hy
      .rw[List.mem_singleton.1 hy];omega
     .rw[List.nodup_append];exact⟨hl3,by simp,fun y hy z hz=>by rw[List.mem_singleton.1 hz];exact fun e=>hno' (e▸hy)⟩
     refine yh [(148,fun i=>(48,i))] [] [] ?_;simp only[zAG,hv,allQ,live,yc,ybb,go_sem,zA,↓reduceIte,reduceCtorEq];refine⟨by omega,fun i hi=>?_⟩
     rw[yvl,hv]
     by_cases q:i<u
     .simp only[if_pos q];simp only[live,yc,go_sem,reduceCtorEq]
     .obtain rfl:i=u:=by omega
      simp only[if_neg q,zBE];simp only[live,yc,go_sem,↓reduceIte,reduceCtorEq]
  .obtain rfl:v=n:=by omega
   simp only[yhn,go_sem];refine⟨.ag [.os (148,0) 0 v true,.os (17,0) 0 v true],[(17,.one (some ⟨71,false,1,v,fun _=>[.a (.slice none 0 0)]⟩)),(148,.one (some ⟨3,false,1,v,fun k=>[.i .i64 (l.getD k 0)]⟩))],?_,?_,l,by rw[hv];exact hn1,hl2,hl3,by rw[hv],by rw[hv]⟩
   .refine yh [] [] [] ?_;simp only[allQ,live,yc,go_sem,zA,↓reduceIte,reduceCtorEq]
   .simp only[ycz,yge,allQ,live,go_sem,zA,↓reduceIte]
theorem ycdt{x:NetR}(hx:x.ok){most:Nat}(hm:1<=most/\most<=24) :
 Cm zF 75 [] [] [.ag (netC x),.i .i64 most] fun r o=>∃ids:List Int,(1<=ids.length/\ids.length<=most/\(ids.length:Int)=1+ycw (IntKind.wrap .i64 (x.n-1)) most)/\(∀y∈ids,0<=y/\y<=255)/\ids.Nodup/\r = .ag [yu ids,.os (17,0) 0 ids.length true] /\
  o=[(17,.one (some ⟨71,false,1,ids.length,fun _=>[.a (.slice none 0 0)]⟩))] :=
 (ybrx hx hm).weak fun r o' ⟨ids,h1,h2,h3,e1,e2⟩=>by
   subst e1 e2;obtain⟨v,hv⟩:∃v,ids.length=v:=⟨_,rfl⟩;refine⟨.ag [yu ids,.os (17,0) 0 ids.length true],[(17,.one (some ⟨71,false,1,ids.length,fun _=>[.a (.slice none 0 0)]⟩))],?_,?_,ids,h1,h2,h3,rfl,rfl⟩
   .refine yh [] [] [(148,0)] ?_;simp only[yu,hv,allQ,live,yc,go_sem,zA,↓reduceIte,reduceCtorEq]
   .simp only[ycz,yge,allQ,live,go_sem,↓reduceIte]
end Sh
end
section
def yjd(back:Bool)(g:Gr)(a b:Nat)(w:Int):Gr:=if a=b\/ymd (g.ports.getD a []) b=true then g else yci back g a b w
namespace Sh
open Ev Go.RowKit
def rowO(l:List (Int×Int)):OB:=⟨95,false,2,l.length,fun k=>[.i .i64 (l.getD k (0,0)).1,.i .i64 (l.getD k (0,0)).2]⟩
def ygn(ports:List (List (Int×Int))):Own:=[(211,.one (some ⟨71,false,1,ports.length,fun v=>[.os (212,v) 0 (ports.getD v []).length true]⟩)),
 (212,.many fun v=>if v<ports.length then some (rowO (ports.getD v []))else none)]
def yux(g:Gr):SV:=.ag [yu g.ids,.os (211,0) 0 g.ports.length true]
theorem yjb{i n:Nat}{x b:OB}(h:(if i<n then some x else none)=some b):i<n/\b=x:=by
 split at h
 .cases h;exact⟨by assumption,rfl⟩
 .cases h
theorem ybz(back:Bool)(L:List (Int×Int))(x:Int×Int):(addL back L x).length=L.length+1:=by
 unfold addL;cases back<;>simp
theorem ybco(L:List (Int×Int))(x:Int×Int){k:Nat}(hk:k<L.length+1):(if k<L.length then[SV.i .i64 (L.getD k (0,0)).1,SV.i .i64 (L.getD k (0,0)).2]else zBW 2 (zBX ((k-L.length)*2) [SV.i .i64 x.1,SV.i .i64 x.2]))=[SV.i .i64 ((addL false L x).getD k (0,0)).1,SV.i .i64 ((addL false L x).getD k (0,0)).2]:=by
 show _=[SV.i .i64 ((L++[x]).getD k (0,0)).1,SV.i .i64 ((L++[x]).getD k (0,0)).2];rw[yvl]
 by_cases h:k<L.length
 .rw[if_pos h,if_pos h]
 .obtain rfl:k=L.length:=by omega
  rw[if_neg h,if_neg h,if_pos rfl,zBE];rfl
theorem ynd(L:List (Int×Int))(x:Int×Int)(k:Nat):(if k<1 then zBW 2 (zBX (k*2) [SV.i .i64 x.1,SV.i .i64 x.2])else[SV.i .i64 (L.getD (k-1) (0,0)).1,SV.i .i64 (L.getD (k-1) (0,0)).2])=[SV.i .i64 ((addL true L x).getD k (0,0)).1,SV.i .i64 ((addL true L x).getD k (0,0)).2]:=by
 show _=[SV.i .i64 ((x::L).getD k (0,0)).1,SV.i .i64 ((x::L).getD k (0,0)).2];cases k with
 |zero=>rfl
 |succ k=>rw[if_neg (by omega)];rfl
theorem cells_one(L:List (Int×Int))(h:L.length=0)(x:Int×Int){k:Nat}(hk:k<1):zBW 2 (zBX (k*2) [SV.i .i64 x.1,SV.i .i64 x.2])=[SV.i .i64 ((addL true L x).getD k (0,0)).1,SV.i .i64 ((addL true L x).getD k (0,0)).2]:=by
 obtain rfl:k=0:=by omega
 rfl
theorem yjk {n:Nat}{o:Own}{P':List (List (Int×Int))}(hl:P'.length=n) (A:Nat->Nm) {R:Nat->List SV}(h11:lookO o (211,0)=some ⟨71,false,1,n,R⟩) (hR:∀v,v<n->R v=[.os (A v) 0 (P'.getD v []).length true])
 (hA:∀v,v<n->∃q,lookO o (A v)=some ⟨95,false,2,(P'.getD v []).length,q⟩/\∀k,k<(P'.getD v []).length->q k=[.i .i64 ((P'.getD v []).getD k (0,0)).1,.i .i64 ((P'.getD v []).getD k (0,0)).2])
 (hi:∀u v,u<n->v<n->A u=A v->u=v) (h0:∀v,v<n->A v≠(211,0)) :
 ∃r o',Weak [(211,0)] ⟨[(0,.tp [])],o⟩ ⟨[(0,r)],o'⟩/\(cln (live o') 5 r=true/\allQ (fun p=>ycz (live o') p.2) o'/\allQ (fun β=>live o' β=true) [(211,0)])/\r = .tp []/\o'=ygn P':=by
 subst hl
 have hsome:∀i,(if i<P'.length then some (rowO (P'.getD i []))else none).isSome=true->i<P'.length:=fun i h=>by
  by_cases q:i<P'.length
  .exact q
  .rw[if_neg q]at h;cases h
 have hlive:∀i,i<P'.length->live (ygn P') (212,i)=true:=fun i hi=>by
  show(if i<P'.length then some (rowO (P'.getD i []))else none).isSome=true
  rw[if_pos hi];rfl
 refine⟨.tp [],ygn P',ybfy [(212,A)] [] [] trivial ⟨.inr ⟨.inr fun e=>⟨rfl,rfl⟩,.inr fun j hj e=>?_,trivial⟩,.inr ⟨.inr fun i hi' e=>?_,.inr fun i hi' j hj e=>⟨rfl,?_⟩,trivial⟩,trivial⟩ ⟨?_,trivial⟩ ⟨?_,fun i b hb=>?_,trivial⟩ ⟨⟨rfl,rfl,rfl⟩,trivial⟩,⟨rfl,⟨?_,?_,trivial⟩,rfl,trivial⟩,rfl,rfl⟩
 .exact absurd e.symm (h0 j (hsome j hj))
 .exact absurd e (h0 i (hsome i hi'))
 .exact hi i j (hsome i hi') (hsome j hj) e
 .exact⟨_,rfl,.inl ⟨trivial,Sim.refl _,rfl⟩⟩
 .refine⟨_,h11,⟨rfl,rfl,rfl,rfl,rfl⟩,fun i hi'=>?_⟩;have hi':i<P'.length:=hi';show telL _ _ _ _ _ (R i) _;rw[hR i hi'];refine⟨.inl ⟨by simp only[go_sem],Sim.refl _,?_⟩,rfl,trivial⟩
  show(live (ygn P') (212,i) && !(List.elem 212 []))=true;rw[hlive i hi'];rfl
 .obtain⟨hi',rfl⟩:=yjb hb;obtain⟨q,q1,q2⟩:=hA i hi';refine⟨_,q1,⟨rfl,rfl,rfl,rfl,rfl⟩,fun k hk=>?_⟩;show telL _ _ _ _ _ (q k) _;rw[q2 k hk];exact⟨.inl ⟨trivial,Sim.refl _,rfl⟩,rfl,.inl ⟨trivial,Sim.refl _,rfl⟩,rfl,trivial⟩
 .intro k hk;have:live (ygn P') (212,k)=true:=hlive k hk;simp only[ygn,zBZ,List.all_nil,Bool.and_true]at this ⊢;exact this
 .intro i b hb k hk;obtain⟨hi',rfl⟩:=yjb hb;rfl
section
variable {x:NetR}{g:Gr}{a b:Nat}{w:Int}
theorem ydii (ha:a<g.ports.length)(hb:b<g.ports.length)(hn:g.ports.length<=24)(hd:∀v,(g.ports.getD v []).length<=1000) :
 Cm zF 76 [(211,0)] (ygn g.ports) [.ag (netC x),yux g,.i .i64 a,.i .i64 b,.i .i64 w] fun r o=>r = .tp []/\o=ygn (yjd x.back g a b w).ports:=by
 refine ydgq [(211,0)] [] _ _ _ ?_;obtain⟨O2,hO2⟩:∃O,ygn (yjd x.back g a b w).ports=O:=⟨_,rfl⟩;rw[hO2]
 by_cases hab:a=b
 .subst hab;have hP:yjd x.back g a a w=g:=if_pos (.inl rfl);rw[hP]at hO2;simp only[c76,yddf,yday,netC,yux,ygn,yhn,go_sem,zA,zB,zC,↓reduceIte,reduceCtorEq];subst hO2;exact yjk rfl (fun v=>(212,v)) rfl (fun v hv=>rfl) (fun v hv=>⟨_,if_pos hv,fun k hk=>rfl⟩) (fun u v _ _ e=>congrArg Prod.snd e) (fun v _ e=>by cases e)
 .have hne:((a:Int)==(b:Int))=false:=by rw[beq_eq_false_iff_ne];omega
  have hL:=ybok (ids:=g.ids) (ports:=g.ports) (b:=b) ha (by have:=hd a;omega)
  simp only[c76,yddf,yday,netC,yux,ygn,hne,clash,go_sem,zA,zB,zC,↓reduceIte,reduceCtorEq];refine .inl ⟨fun q hq=>by rw[if_pos hq];exact⟨zK _,fun k hk=>by simp only[rowO,go_sem]⟩,hL.useS ?_ ?_⟩
  .refine⟨yun ⟨Sim.refl _,?_,trivial⟩,Sim.refl _,Sim.refl _,trivial⟩;refine yiv fun q hq=>?_;rw[if_pos hq];simp only[rowO,ybc,go_sem];exact⟨Sim.refl _,trivial⟩
  cases hlk:ymd (g.ports.getD a []) b with
  | true =>
    have hP:yjd x.back g a b w=g:=if_pos (.inr hlk);rw[hP]at hO2;simp only[ybg,clash,yhn,go_sem,zA,zB,↓reduceIte];subst hO2;exact yjk rfl (fun v=>(212,v)) rfl (fun v hv=>rfl) (fun v hv=>⟨_,if_pos hv,fun k hk=>rfl⟩) (fun u v _ _ e=>congrArg Prod.snd e) (fun v _ e=>by cases e)
  | false =>
    have hP:yjd x.back g a b w=yci x.back g a b w:=if_neg (fun q=>by rcases q with q|q;exact hab q;rw[hlk]at q;cases q)
    rw[hP]at hO2;subst hO2;have hba:¬b=a:=fun e=>hab e.symm;have hlen:(yci x.back g a b w).ports.length=g.ports.length:=by simp[yci]
    have hat:=yec x.back g w ha hb;obtain⟨G',hG'⟩:∃G,(yci x.back g a b w).ports=G:=⟨_,rfl⟩;rw[hG']at hlen ⊢;have hat:∀v,G'.getD v []=if v=b then addL x.back (g.ports.getD b []) (a,w)else if v=a then addL x.back (g.ports.getD a []) (b,w)else g.ports.getD v []:=fun v=>by rw[<-hG'];exact hat v
    clear hG' hP
    obtain⟨x1,x2,x3,x4,x5,back⟩:=x;have hda:=hd a;have hdb:=hd b;cases back with
    | false =>
      simp only[ybg,clash,ybpl,ybnu,ydrl,rowO,if_pos ha,if_pos hb,hab,hba,yhn,and_false,go_sem,zA,zB,zD,zC,↓reduceIte,reduceCtorEq];refine⟨⟨by omega,by omega⟩,by omega,⟨by omega,by omega⟩,by decide,⟨by omega,by omega⟩,by omega,⟨by omega,by omega⟩,by decide,⟨by omega,by omega⟩,by omega,by decide,⟨by omega,by omega⟩,by omega,by decide,?_⟩
      refine yjk hlen (fun v=>if v=b then(74,0)else if v=a then(66,0)else(212,v)) rfl (fun v hv=>?_) (fun v hv=>?_) (fun u v _ _ e=>?_) (fun v _ e=>?_)
      .rw[hat v]
       by_cases q:v=b
       .simp only[if_pos q,ybz]
       .by_cases q2:v=a
        .simp only[if_neg q,if_pos q2,ybz]
        .simp only[if_neg q,if_neg q2]
      .rw[hat v]
       by_cases q:v=b
       .simp only[if_pos q,ybz];exact⟨_,rfl,fun k hk=>ybco _ (_,_) hk⟩
       .by_cases q2:v=a
        .simp only[if_neg q,if_pos q2,ybz];exact⟨_,rfl,fun k hk=>ybco _ (_,_) hk⟩
        .simp only[if_neg q,if_neg q2];refine⟨fun k=>[.i .i64 ((g.ports.getD v []).getD k (0,0)).1,.i .i64 ((g.ports.getD v []).getD k (0,0)).2],?_,fun k hk=>rfl⟩;show(if v=b then none else if v=a then none else if v<g.ports.length then some _ else none)=some _
         rw[if_neg q,if_neg q2,if_pos hv]
      .by_cases q:u=b<;>by_cases q2:u=a<;>by_cases q3:v=b<;>by_cases q4:v=a<;>simp[q,q2,q3,q4,hab]at e ⊢<;>omega
      .by_cases q:v=b<;>by_cases q2:v=a<;>simp[q,q2,hab]at e
    | true =>
      by_cases hza:(g.ports.getD a []).length=0
      .by_cases hzb:(g.ports.getD b []).length=0
       .simp only[ybg,clash,ybpl,ybnu,ycbz,ybqv,rowO,if_pos ha,if_pos hb,hba,yhn,and_false,hza,hzb,go_sem,zA,zB,zD,zC,zBC,↓reduceIte,reduceCtorEq]
        repeat' apply zBF
        all_goals first|omega|decide|skip
        refine yjk hlen (fun v=>if v=b then(45,0)else if v=a then(33,0)else(212,v)) rfl (fun v hv=>?_) (fun v hv=>?_) (fun u v _ _ e=>?_) (fun v _ e=>?_)
        .rw[hat v]
         by_cases q:v=b
         .simp only[if_pos q,ybz,hzb,zAE]
         .by_cases q2:v=a
          .simp only[if_neg q,if_pos q2,ybz,hza,zAE]
          .simp only[if_neg q,if_neg q2]
        .rw[hat v]
         by_cases q:v=b
         .simp only[if_pos q,ybz,hzb,zAE];exact⟨_,rfl,fun k hk=>cells_one _ hzb (_,_) hk⟩
         .by_cases q2:v=a
          .simp only[if_neg q,if_pos q2,ybz,hza,zAE];exact⟨_,rfl,fun k hk=>cells_one _ hza (_,_) hk⟩
          .simp only[if_neg q,if_neg q2];refine⟨fun k=>[.i .i64 ((g.ports.getD v []).getD k (0,0)).1,.i .i64 ((g.ports.getD v []).getD k (0,0)).2],?_,fun k hk=>rfl⟩;show(if v<g.ports.length then some _ else none)=some _
           rw[if_pos hv]
        .by_cases q:u=b<;>by_cases q2:u=a<;>by_cases q3:v=b<;>by_cases q4:v=a<;>simp[q,q2,q3,q4,hab]at e ⊢<;>omega
        .by_cases q:v=b<;>by_cases q2:v=a<;>simp[q,q2,hab]at e
       .simp only[ybg,clash,ybpl,ybnu,ycbz,ybqv,rowO,if_pos ha,if_pos hb,hba,yhn,and_false,hza,hzb,go_sem,zA,zB,zD,zC,zBC,↓reduceIte,reduceCtorEq]
        repeat' apply zBF
        all_goals first|omega|decide|skip
        refine yjk hlen (fun v=>if v=b then(51,0)else if v=a then(33,0)else(212,v)) rfl (fun v hv=>?_) (fun v hv=>?_) (fun u v _ _ e=>?_) (fun v _ e=>?_)
        .rw[hat v]
         by_cases q:v=b
         .simp only[if_pos q,ybz,zS]
         .by_cases q2:v=a
          .simp only[if_neg q,if_pos q2,ybz,hza,zAE,zS]
          .simp only[if_neg q,if_neg q2]
        .rw[hat v]
         by_cases q:v=b
         .simp only[if_pos q,ybz];exact⟨_,congrArg some (congrArg (fun n=>OB.mk _ _ _ n _) (zS _ _)),fun k hk=>ynd _ (_,_) k⟩
         .by_cases q2:v=a
          .simp only[if_neg q,if_pos q2,ybz,hza,zAE];exact⟨_,rfl,fun k hk=>cells_one _ hza (_,_) hk⟩
          .simp only[if_neg q,if_neg q2];refine⟨fun k=>[.i .i64 ((g.ports.getD v []).getD k (0,0)).1,.i .i64 ((g.ports.getD v []).getD k (0,0)).2],?_,fun k hk=>rfl⟩;show(if v<g.ports.length then some _ else none)=some _
           rw[if_pos hv]
        .by_cases q:u=b<;>by_cases q2:u=a<;>by_cases q3:v=b<;>by_cases q4:v=a<;>simp[q,q2,q3,q4,hab]at e ⊢<;>omega
        .by_cases q:v=b<;>by_cases q2:v=a<;>simp[q,q2,hab]at e
      .by_cases hzb:(g.ports.getD b []).length=0
       .simp only[ybg,clash,ybpl,ybnu,ycbz,ybqv,rowO,if_pos ha,if_pos hb,hba,yhn,and_false,hza,hzb,go_sem,zA,zB,zD,zC,zBC,↓reduceIte,reduceCtorEq]
        repeat' apply zBF
        all_goals first|omega|decide|skip
        refine yjk hlen (fun v=>if v=b then(45,0)else if v=a then(39,0)else(212,v)) rfl (fun v hv=>?_) (fun v hv=>?_) (fun u v _ _ e=>?_) (fun v _ e=>?_)
        .rw[hat v]
         by_cases q:v=b
         .simp only[if_pos q,ybz,hzb,zAE,zS]
         .by_cases q2:v=a
          .simp only[if_neg q,if_pos q2,ybz,zS]
          .simp only[if_neg q,if_neg q2]
        .rw[hat v]
         by_cases q:v=b
         .simp only[if_pos q,ybz,hzb,zAE];exact⟨_,rfl,fun k hk=>cells_one _ hzb (_,_) hk⟩
         .by_cases q2:v=a
          .simp only[if_neg q,if_pos q2,ybz];exact⟨_,congrArg some (congrArg (fun n=>OB.mk _ _ _ n _) (zS _ _)),fun k hk=>ynd _ (_,_) k⟩
          .simp only[if_neg q,if_neg q2];refine⟨fun k=>[.i .i64 ((g.ports.getD v []).getD k (0,0)).1,.i .i64 ((g.ports.getD v []).getD k (0,0)).2],?_,fun k hk=>rfl⟩;show(if v<g.ports.length then some _ else none)=some _
           rw[if_pos hv]
        .by_cases q:u=b<;>by_cases q2:u=a<;>by_cases q3:v=b<;>by_cases q4:v=a<;>simp[q,q2,q3,q4,hab]at e ⊢<;>omega
        .by_cases q:v=b<;>by_cases q2:v=a<;>simp[q,q2,hab]at e
       .simp only[ybg,clash,ybpl,ybnu,ycbz,ybqv,rowO,if_pos ha,if_pos hb,hba,yhn,and_false,hza,hzb,go_sem,zA,zB,zD,zC,↓reduceIte,reduceCtorEq]
        repeat' apply zBF
        all_goals first|omega|decide|skip
        refine yjk hlen (fun v=>if v=b then(51,0)else if v=a then(39,0)else(212,v)) rfl (fun v hv=>?_) (fun v hv=>?_) (fun u v _ _ e=>?_) (fun v _ e=>?_)
        .rw[hat v]
         by_cases q:v=b
         .simp only[if_pos q,ybz,zS]
         .by_cases q2:v=a
          .simp only[if_neg q,if_pos q2,ybz,zS]
          .simp only[if_neg q,if_neg q2]
        .rw[hat v]
         by_cases q:v=b
         .simp only[if_pos q,ybz];exact⟨_,congrArg some (congrArg (fun n=>OB.mk _ _ _ n _) (zS _ _)),fun k hk=>ynd _ (_,_) k⟩
         .by_cases q2:v=a
          .simp only[if_neg q,if_pos q2,ybz];exact⟨_,congrArg some (congrArg (fun n=>OB.mk _ _ _ n _) (zS _ _)),fun k hk=>ynd _ (_,_) k⟩
          .simp only[if_neg q,if_neg q2];refine⟨fun k=>[.i .i64 ((g.ports.getD v []).getD k (0,0)).1,.i .i64 ((g.ports.getD v []).getD k (0,0)).2],?_,fun k hk=>rfl⟩;show(if v<g.ports.length then some _ else none)=some _
           rw[if_pos hv]
        .by_cases q:u=b<;>by_cases q2:u=a<;>by_cases q3:v=b<;>by_cases q4:v=a<;>simp[q,q2,q3,q4,hab]at e ⊢<;>omega
        .by_cases q:v=b<;>by_cases q2:v=a<;>simp[q,q2,hab]at e
end
end Sh
end
section
theorem ybog{back:Bool}{g:Gr}{a b:Nat}{w:Int}(hg:ybe g)(ha:a<g.ports.length)(hb:b<g.ports.length)(hw:1<=w/\w<=15):ybe (yjd back g a b w)/\(yjd back g a b w).ids=g.ids/\(yjd back g a b w).ports.length=g.ports.length:=by
 unfold yjd
 by_cases h:a=b\/ymd (g.ports.getD a []) b=true
 .rw[if_pos h];exact⟨hg,rfl,rfl⟩
 .rw[if_neg h];refine⟨ybca hg ha hb (fun e=>h (.inl e)) hw fun l hl e=>h (.inr (List.any_eq_true.2 ⟨l,hl,decide_eq_true e⟩)),rfl,by simp[yci]⟩
theorem ybuf{back:Bool}{g:Gr}{a b:Nat}{w:Int}(ha:a<g.ports.length)(hb:b<g.ports.length){m:Nat}(h:Tre g m):Tre (yjd back g a b w) m:=by
 unfold yjd;split
 .exact h
 .exact h.add ha hb
theorem ybte{back:Bool}{g:Gr}{a b:Nat}{w:Int}(ha:a<g.ports.length)(hb:b<g.ports.length)(hab:a≠b):adj (yjd back g a b w) a b:=by
 unfold yjd;split
 .rename_i h
  rcases h with h|h
  .exact absurd h hab
  .obtain⟨l,hl,e⟩:=List.any_eq_true.1 h;exact yjg.2 ⟨l,hl,of_decide_eq_true e⟩
 .exact ybjc ha hb hab
theorem ybip:∀(l:List Nat) (i x:Nat) (h:i<l.length),(l.set i x).sum+l[i]=l.sum+x
 |a::l,0,x,_=>by simp;omega
 | a::l,i+1,x,h=>by
   have:=ybip l i x (by simpa using h)
   simp only[List.set_cons_succ,List.sum_cons,List.getElem_cons_succ];omega
theorem ybnx{back:Bool}{g:Gr}{a b:Nat}{w:Int}(ha:a<g.ports.length)(hb:b<g.ports.length)(hab:a≠b):ygl (yci back g a b w)=ygl g+2:=by
 unfold ygl yci;simp only[List.map_set,Sh.ybz];have h1:=ybip (g.ports.map zBJ) a ((g.ports.getD a []).length+1) (by simpa using ha)
 have h2:=ybip ((g.ports.map zBJ).set a ((g.ports.getD a []).length+1)) b ((g.ports.getD b []).length+1) (by simpa using hb)
 rw[List.getElem_set_ne hab,zBL,<-Sh.getD_at hb (d:=[])]at h2;rw[zBL,<-Sh.getD_at ha (d:=[])]at h1;omega
def WtF(x:NetR)(g:Gr):Prop:=∀v l,l∈g.ports.getD v []->∃i,l.2=1+ycw (atP x.weights i) 15
theorem ycdk{x:NetR}{back:Bool}{g:Gr}{a b:Nat}{w:Int}(ha:a<g.ports.length)(hb:b<g.ports.length)(hw:∃i,w=1+ycw (atP x.weights i) 15)(h:WtF x g):WtF x (yjd back g a b w):=by
 unfold yjd;split
 .exact h
 .intro v l hl;rw[yec back g w ha hb]at hl;split at hl
  .rcases yen.1 hl with rfl|hl
   .exact hw
   .exact h _ _ hl
  .split at hl
   .rcases yen.1 hl with rfl|hl
    .exact hw
    .exact h _ _ hl
   .exact h _ _ hl
structure TreeTo(x:NetR)(v:Nat)(g:Gr):Prop where
 tre:Tre g v
 wt:WtF x g
 none_:∀u,v<=u->g.ports.getD u []=[]
 count:ygl g+2=2*v
theorem ypn(ids:List Int)(v:Nat):(bare ids).ports.getD v []=[]:=by
 unfold bare;rw[zAK,List.getElem?_replicate];split<;>rfl
theorem TreeTo.zero(x:NetR)(ids:List Int):TreeTo x 1 (bare ids):=by
 refine⟨fun v h0 h1=>by omega,fun v l hl=>?_,fun u _=>ypn ids u,?_⟩
 .rw[ypn]at hl;exact absurd hl zX
 .have:ygl (bare ids)=0:=by
   unfold ygl bare;simp
  omega
theorem TreeTo.succ{x:NetR}{v:Nat}{g:Gr}(hg:ybe g)(h:TreeTo x v g)(hv:v<g.ports.length)(h1:1<=v){a:Nat}(ha:a<v){w:Int}(hw:∃i,w=1+ycw (atP x.weights i) 15):TreeTo x (v+1) (yjd x.back g a v w):=by
 have hadj:=ybte (back:=x.back) (g:=g) (a:=a) (b:=v) (w:=w) (by omega) (by omega) (by omega)
 have hno:¬(a=v\/ymd (g.ports.getD a []) v=true):=by
  rintro(e|e)
  .omega
  .obtain⟨l,hl,e⟩:=List.any_eq_true.1 e;have e:=of_decide_eq_true e;have:adj g v a:=hg.adj_symm (yjg.2 ⟨l,hl,e⟩);obtain⟨l',hl',_⟩:=yjg.1 this;rw[h.none_ v (zK _)]at hl';exact absurd hl' zX
 have e:yjd x.back g a v w=yci x.back g a v w:=by unfold yjd;rw[if_neg hno]
 refine⟨fun u h0 hu=>?_,ycdk (by omega) hv hw h.wt,fun u hu=>?_,?_⟩
 .by_cases q:u=v
  .subst q;exact⟨a,ha,hadj⟩
  .exact ybuf (by omega) hv h.tre u h0 (by omega)
 .rw[e,yec x.back g w (by omega) hv,if_neg (by omega),if_neg (by omega)]
  exact h.none_ u (by omega)
 .rw[e,ybnx (by omega) hv (by omega)]
  have:=h.count;omega
namespace Sh
open Ev Go.RowKit
theorem ycdx{n:Nat}{P:List (List (Int×Int))}{f:SV->SV}(hf:∀k z,f (.i k z) = .i k z){i:Nat}(hi:i<n):(match (if i<n then some (rowO (P.getD i []))else none)with|some b=>some (⟨b.e,b.bx,b.z,b.n,fun k=>(b.g k).map f⟩:OB)|none=>none)=some (rowO (P.getD i [])):=by
 rw[if_pos hi];simp[rowO,hf]
theorem ydcr{x:NetR}(hx:x.ok){most:Nat}(hm:1<=most/\most<=24) :
 Cm zF 21 [] [] [.ag (netC x),.i .i64 most] fun r o=>∃g,ybe g/\TreeTo x g.ports.length g/\(g.ports.length<=most/\(g.ports.length:Int)=1+ycw (IntKind.wrap .i64 (x.n-1)) most)/\r=yux g/\o=ygn g.ports:=by
 refine ydft [] [75,76] _ _ _ ?_;have hN:=ycdt hx hm;obtain⟨hx1,hx2,hx3,hx4⟩:=hx;simp only[netC]at hN;simp only[c21,ydju,ydqf,netC,go_sem,zA,zB,zC,↓reduceIte,reduceCtorEq];refine yfr hN [(17,117)] 0 [2,4] [2,4] ?_ ?_
 .simp only[okN,ycz,yge,yfj,yeh,allQ,live,yc,go_sem,zA,zB,zV,↓reduceIte,reduceCtorEq]
 rintro r o' ⟨ids,h1,h2,h3,rfl,rfl⟩;obtain⟨n,hn⟩:∃n,ids.length=n:=⟨_,rfl⟩;rw[hn]at h1;simp only[hn,yrx,yms,nuF,nu,difN,yfj,yeh,Fam.ren,OB.ren,dim,ydgu,ybcp,yqy,go_sem,zA,zB,zC,zV,↓reduceIte];simp only[ydkj,go_sem]
 refine ybk (σ:=Nat×Gr) (fun q=>⟨[(6,.i .i64 q.1),(5,.pt (5,0) 0 0),(2,.pt (2,0) 0 0),(4,.pt (4,0) 0 0)],
  (5,.one (some ⟨27,true,2,1,fun _=>[yu q.2.ids,.os (211,0) 0 n true]⟩))::(2,.one (some ⟨24,true,6,1,fun _=>netC x⟩))::(4,.one (some ⟨27,true,2,1,fun _=>[.a (.slice none 0 0),.a (.slice none 0 0)]⟩))::ygn q.2.ports⟩)
  (fun q=>ybe q.2/\q.2.ports.length=n/\TreeTo x q.1 q.2/\1<=q.1/\q.1<=n) (fun q=>n-q.1) (1,bare ids) ⟨ybzi (by omega) (by omega) h2 h3,by simp[bare,hn],TreeTo.zero x ids,by omega,by omega⟩ ?_ ?_
 .refine yh [(211,fun i=>(117,i))] [212] [] ?_;have b1:(bare ids).ids=ids:=rfl;have b2:(bare ids).ports.length=n:=by simp[bare,hn]
  have b3:∀v,(bare ids).ports.getD v []=[]:=ypn ids;simp only[netC,ygn,rowO,b1,b2,b3,zBR,allQ,live,yc,ybb,go_sem,zA,zV,↓reduceIte,reduceCtorEq];refine⟨rfl,fun i hi=>⟨(212,i),rfl,rfl,by simp[hi]⟩,fun i b hb=>?_⟩
  obtain⟨_,rfl⟩:=yjb hb;exact⟨rfl,rfl⟩
 .rintro⟨v,g⟩ ⟨hg,hgn,htr,hv1,hvn⟩;have hg:ybe g:=hg;have hgn:g.ports.length=n:=hgn;have htr:TreeTo x v g:=htr;have hv1:1<=v:=hv1;have hvn:v<=n:=hvn
  by_cases hlt:v<n
  .have ht:decide ((v:Int)<(n:Int))=true:=decide_eq_true (by omega)
   have hv2:(v:Int)-1=((v-1:Nat):Int):=by omega
   have hA1:=at_ret x.links (v-1);have hA2:=at_ret x.weights (v-1);have hi1:=yfn (v:=atP x.links (v-1)) (m:=(v:Int)) (by omega)
   have hi2:=yfn (v:=atP x.weights (v-1)) (m:=15) (by omega)
   have hW1:=yfo (atP x.links (v-1)) v (by omega) (hx2 _)
   have hW2:=yfo (atP x.weights (v-1)) 15 (by omega) (hx3 _)
   obtain⟨a,ha⟩:∃a:Nat,ycw (atP x.links (v-1)) v=a:=zAP hi1.1;obtain⟨w,hw⟩:∃w:Int,ycw (atP x.weights (v-1)) 15=w:=⟨_,rfl⟩;rw[ha]at hW1 hi1;rw[hw]at hW2 hi2;have hL:=ydii (x:=x) (g:=g) (a:=a) (b:=v) (w:=1+w) (by omega) (by omega) (by omega) (fun u=>by have:=hg.deg_lt (v:=u);omega)
   simp only[ydhw,ydlu,ydkq,netC,ygn,ht,hv2,clash,go_sem,zA,zB,zD,zV,↓reduceIte,reduceCtorEq];refine⟨ikw (by omega) (by omega),hA1.use ?_⟩
   simp only[ybg,clash,go_sem,zA,zB,zD,zV,↓reduceIte,reduceCtorEq];refine hW1.use ?_;simp only[hv2,go_sem];refine⟨ikw (by omega) (by omega),hA2.use ?_⟩
   simp only[go_sem,↓reduceIte];refine hW2.use ?_;simp only[go_sem,zA,zV,↓reduceIte];refine⟨ikw (by omega) (by omega),yfr hL [(211,211),(212,212)] 0 [2,4,5,6] [2,4,5] ?_ ?_⟩
   .simp only[netC,yux,ygn,hgn,to1,okN,ycz,yge,yfj,yeh,allQ,live,yc,go_sem,zA,zB,zV,↓reduceIte,reduceCtorEq];refine⟨⟨fun i _ j _ e=>e,fun i hi=>by rw[if_pos hi],fun i b hb=>?_⟩,by decide⟩
    obtain⟨hi,rfl⟩:=yjb hb;exact⟨_,if_pos hi,⟨rfl,rfl,rfl,rfl⟩,fun k hk=>by simp only[rowO,live,yc,go_sem,reduceCtorEq]⟩
   .rintro r o' ⟨rfl,rfl⟩;simp only[ygn,yrx,yms,nuF,nu,difN,yfj,yeh,Fam.ren,OB.ren,dim,yya,yqy,go_sem,zA,zB,zV,↓reduceIte,reduceCtorEq];obtain⟨gg1,gg2,gg3⟩:=ybog (back:=x.back) (a:=a) (b:=v) (w:=1+w) hg (by omega) (by omega) (by omega)
    have gg4:=htr.succ hg (by omega) hv1 (a:=a) (by omega) (w:=1+w) ⟨v-1,by rw[hw]⟩
    obtain⟨G,hG⟩:∃G,yjd x.back g a v (1+w)=G:=⟨_,rfl⟩;rw[hG]at gg1 gg2 gg3 gg4 ⊢;rw[hgn]at gg3;refine⟨ikw (by omega) (by omega),yj (v+1,G) ⟨gg1,gg3,gg4,by omega,by omega⟩ (by show n-(v+1)<n-v;omega) ?_⟩
    .refine yh [] [] [] ?_;simp only[gg3,gg2,allQ,live,yc,ybb,go_sem,zA,↓reduceIte,reduceCtorEq];refine⟨fun i _ j _ e=>e,by omega,fun i hi=>by rw[if_pos hi],fun i b hb=>?_⟩
     obtain⟨hi,rfl⟩:=yjb hb;refine⟨_,ycdx (f:=ren (nu [(211,211),(212,212)] 0) 5) (fun _ _=>rfl) hi,⟨rfl,rfl,rfl,rfl⟩,fun k hk=>?_⟩;simp only[rowO,live,yc,go_sem,reduceCtorEq]
  .obtain rfl:v=n:=by omega
   have ht:decide ((v:Int)<(v:Int))=false:=decide_eq_false (by omega)
   simp only[ydhw,ydpp,netC,ygn,ht,clash,splice,yhn,go_sem,zA,zB,↓reduceIte,reduceCtorEq];refine⟨yux g,ygn g.ports,?_,?_,g,hg,by rw[hgn];exact htr,by omega,rfl,rfl⟩
   .refine yh [] [] [] ?_;simp only[ygn,yux,hgn,allQ,live,yc,go_sem,zA,↓reduceIte,reduceCtorEq];refine⟨fun i _ j _ e=>e,fun i hi=>by rw[if_pos hi],fun i b hb=>?_⟩
    obtain⟨hi,rfl⟩:=yjb hb;exact⟨_,if_pos hi,⟨rfl,rfl,rfl,rfl⟩,fun k hk=>by simp only[rowO,live,yc,go_sem,reduceCtorEq]⟩
   .simp only[ygn,yux,ycz,yge,allQ,live,go_sem,zA,↓reduceIte];refine⟨fun i hi=>by rw[if_pos hi],fun i b hb k hk=>?_⟩
    obtain⟨hi,rfl⟩:=yjb hb;simp only[rowO,go_sem]
end Sh
end
section
namespace Sh
open Ev Go.RowKit
end Sh
end
section
namespace Sh
open Ev Go.RowKit
theorem ycit(l:List Nat):one1 (usV l)=true:=rfl
theorem ybyh{n:Nat}(l:List Nat):owned (n+1) (usV l)=false:=rfl
theorem ybpk{n:Nat}(l:List Nat):scalar (n+1) (usV l)=false:=rfl
theorem ycgo{n:Nat}(o:Own)(l:List Nat):view o (n+1) (usV l)=usV l:=rfl
theorem ydcm{n:Nat}(o:Own)(l:List Nat):vok o (n+1) (usV l)=True:=rfl
theorem ydig{n:Nat}(h:Nm->Nm)(l:List Nat):ren h (n+1) (usV l)=usV l:=rfl
theorem ydcw{n:Nat}(D:Nm->Bool)(l:List Nat):cln D (n+1) (usV l)=true:=rfl
theorem ybxf{n:Nat}(fr:List Nm)(o:Own)(l:List Nat):ydk fr o (n+1) (usV l)=usV l:=rfl
theorem ydid{n:Nat}(fr:List Nm)(o:Own)(l:List Nat):pok fr o (n+1) (usV l)=True:=rfl
theorem ybwn(l:List Nat):SV.cells (usV l)=[usV l]:=rfl
theorem ybie(l:List Conf):one1 (yew l)=true:=rfl
theorem ybbk{n:Nat}(l:List Conf):owned (n+1) (yew l)=false:=rfl
theorem ybar{n:Nat}(l:List Conf):scalar (n+1) (yew l)=false:=rfl
theorem ybgp{n:Nat}(o:Own)(l:List Conf):view o (n+1) (yew l)=yew l:=rfl
theorem ybpr{n:Nat}(o:Own)(l:List Conf):vok o (n+1) (yew l)=True:=rfl
theorem ybod{n:Nat}(h:Nm->Nm)(l:List Conf):ren h (n+1) (yew l)=yew l:=rfl
theorem ybnp{n:Nat}(D:Nm->Bool)(l:List Conf):cln D (n+1) (yew l)=true:=rfl
theorem ybeo{n:Nat}(fr:List Nm)(o:Own)(l:List Conf):ydk fr o (n+1) (yew l)=yew l:=rfl
theorem yboe{n:Nat}(fr:List Nm)(o:Own)(l:List Conf):pok fr o (n+1) (yew l)=True:=rfl
theorem ybci(l:List Conf):SV.cells (yew l)=[yew l]:=rfl
theorem ybmt(l:List Cnt):one1 (yey l)=true:=rfl
theorem ybiu{n:Nat}(l:List Cnt):owned (n+1) (yey l)=false:=rfl
theorem ybbu{n:Nat}(l:List Cnt):scalar (n+1) (yey l)=false:=rfl
theorem ybqp{n:Nat}(o:Own)(l:List Cnt):view o (n+1) (yey l)=yey l:=rfl
theorem ybzv{n:Nat}(o:Own)(l:List Cnt):vok o (n+1) (yey l)=True:=rfl
theorem ybrt{n:Nat}(h:Nm->Nm)(l:List Cnt):ren h (n+1) (yey l)=yey l:=rfl
theorem ybyu{n:Nat}(D:Nm->Bool)(l:List Cnt):cln D (n+1) (yey l)=true:=rfl
theorem ybfu{n:Nat}(fr:List Nm)(o:Own)(l:List Cnt):ydk fr o (n+1) (yey l)=yey l:=rfl
theorem ybsj{n:Nat}(fr:List Nm)(o:Own)(l:List Cnt):pok fr o (n+1) (yey l)=True:=rfl
theorem ybib(l:List Cnt):SV.cells (yey l)=[yey l]:=rfl
theorem yceu(l:List Bool):one1 (blV l)=true:=rfl
theorem ybxb{n:Nat}(l:List Bool):owned (n+1) (blV l)=false:=rfl
theorem yboi{n:Nat}(l:List Bool):scalar (n+1) (blV l)=false:=rfl
theorem yciv{n:Nat}(o:Own)(l:List Bool):view o (n+1) (blV l)=blV l:=rfl
theorem ydhj{n:Nat}(o:Own)(l:List Bool):vok o (n+1) (blV l)=True:=rfl
theorem yddi{n:Nat}(h:Nm->Nm)(l:List Bool):ren h (n+1) (blV l)=blV l:=rfl
theorem ydcv{n:Nat}(D:Nm->Bool)(l:List Bool):cln D (n+1) (blV l)=true:=rfl
theorem ybxc{n:Nat}(fr:List Nm)(o:Own)(l:List Bool):ydk fr o (n+1) (blV l)=blV l:=rfl
theorem ydct{n:Nat}(fr:List Nm)(o:Own)(l:List Bool):pok fr o (n+1) (blV l)=True:=rfl
theorem ybyp(l:List Bool):SV.cells (blV l)=[blV l]:=rfl
attribute [go_sem] ycit ybyh ybpk ycgo ydcm ydig ydcw ybxf ydid ybwn ybie ybbk ybar ybgp ybpr ybod ybnp ybeo yboe ybci ybmt ybiu ybbu ybqp ybzv ybrt ybyu ybfu ybsj ybib yceu ybxb yboi yciv ydhj yddi ydcv ybxc ydct ybyp
theorem Ct.found{P:Program}{g:FuncId}{args:List SV}{α:Type}{R:SV->α->Prop}{V:α->SV}{Q:SV->Prop}(h:Ct P g args fun r=>∃x,R r x)(hs:∀r x,R r x->Sim r (V x))(hq:∀r x,R r x->Q (V x)):Ct P g args Q:=fun G m us h1 h2 h3=>by
 obtain⟨v,m',r,a,b,c,⟨x,hx⟩,e⟩:=h G m us h1 h2 h3;exact⟨v,m',V x,a,b,c,hq r x hx,hs r x hx _ _ _ e⟩
theorem Sys.run_len(S:Sys)(res:Nat->Nat->Nat):∀(ws:List Nat) (c:Conf) (k:Cnt),(S.run res ws c k).length<=ws.length
 |[],_,_=>zK _
 | w :: ws,c,k=>by
   unfold Sys.run;split
   .exact zJ _
   .simp only[zQ];have:=Sys.run_len S res ws (S.mv c (res (S.en c) w)) (addP k (res (S.en c) w) (S.en (S.mv c (res (S.en c) w))));omega
structure RunD(S:Sys)(res:Nat->Nat->Nat)(ws:List Nat)(c:Conf)(n:Nat)(Cs:List Conf)(Ks:List Cnt):Prop where
 cs:(S.runs res ws c).map (·.1)=Cs
 ks:(S.runs res ws c).map (·.2)=Ks
 len:(S.runs res ws c).length=n
 pos:0<n
 le:n<=ws.length+1
theorem RunD.at_{S:Sys}{res:Nat->Nat->Nat}{ws:List Nat}{c:Conf}{n:Nat}{Cs:List Conf}{Ks:List Cnt}(h:RunD S res ws c n Cs Ks){k:Nat}(hk:k<n):(Cs.getD k [],Ks.getD k default)∈S.runs res ws c/\(S.runs res ws c)[k]?=some (Cs.getD k [],Ks.getD k default):=by
 have hk':k<(S.runs res ws c).length:=by rw[h.len];exact hk
 have e:(S.runs res ws c)[k]=(Cs.getD k [],Ks.getD k default):=by
  rw[<-h.cs,<-h.ks];simp[zAO,hk']
 exact⟨by rw[<-e];exact zN hk',by rw[<-e];exact zT hk'⟩
theorem RunD.lC{S:Sys}{res:Nat->Nat->Nat}{ws:List Nat}{c:Conf}{n:Nat}{Cs:List Conf}{Ks:List Cnt}(h:RunD S res ws c n Cs Ks):Cs.length=n:=by rw[<-h.cs,zAN,h.len]
theorem RunD.lK{S:Sys}{res:Nat->Nat->Nat}{ws:List Nat}{c:Conf}{n:Nat}{Cs:List Conf}{Ks:List Cnt}(h:RunD S res ws c n Cs Ks):Ks.length=n:=by rw[<-h.ks,zAN,h.len]
theorem runD(S:Sys)(res:Nat->Nat->Nat)(ws:List Nat)(c:Conf):∃n Cs Ks,RunD S res ws c n Cs Ks :=
 ⟨_,_,_,rfl,rfl,rfl,by simp[Sys.runs],by have:=Sys.run_len S res ws c (ydt (S.en c));simp only[Sys.runs,zQ];omega⟩
theorem RunD.last{S:Sys}{res:Nat->Nat->Nat}{ws:List Nat}{c:Conf}{n:Nat}{Cs:List Conf}{Ks:List Cnt}(h:RunD S res ws c n Cs Ks){k:Nat}(hk:k+1<n):S.en (Cs.getD k [])≠0:=by
 have h1:=(h.at_ (show k<n by omega)).2
 exact Sys.runs_last (by rw[h.len];exact hk) h1
theorem ycgh {L:Conf->Bool}{S:Sys}{res:Nat->Nat->Nat}{ws:List Nat}{c:Conf}{n:Nat}{Cs:List Conf}{Ks:List Cnt}(h:RunD S res ws c n Cs Ks) {B:Nat->Bool}(hB:(fun k=>L (Cs.getD k []))=B) {kind rounds moves:Int}{fair silent ended:Bool}
 (hh:HeldOk ((S.runs res ws c).map fun p=>L p.1) ((S.runs res ws c).map (·.2)) rounds moves ended) (hl:n<=100000) {Q:SV->Prop}(hq:Q (.b true)) :
 Ct zF 38 [.sl 1 n fun j=>[.b (B j)],.sl 5 n fun i=>cntV (Ks.getD i default),.ag [.i .i64 kind,.b fair,.b silent,.i .i64 rounds,.i .i64 moves],.b ended] Q:=by
 have lL:((S.runs res ws c).map fun p=>L p.1).length=n:=by rw[zAN,h.len]
 refine(ycgc hh (by rw[lL];exact hl)).useS ⟨?_,?_,Sim.refl _,Sim.refl _,trivial⟩ hq
 .unfold blV;rw[lL];refine ykn fun k hk=>?_
  have e:((S.runs res ws c).map fun p=>L p.1).getD k false=B k:=by
   rw[zAK,List.getElem?_map,(h.at_ hk).2,<-hB];rfl
  rw[e]
 .unfold yey;rw[h.ks,h.lK];exact Sim.refl _
theorem ybsz{S:Sys}{res:Nat->Nat->Nat}{ws:List Nat}{c:Conf}{n:Nat}{Cs:List Conf}{Ks:List Cnt}(h:RunD S res ws c n Cs Ks){ended:Bool}(he:decide (S.en (Cs.getD (n-1) [])=0)=ended) :
 ended=true->∀p,(S.runs res ws c)[(S.runs res ws c).length-1]?=some p->S.en p.1=0:=fun hq p hp=>by
 rw[h.len]at hp;have h1:=(h.at_ (show n-1<n by have:=h.pos;omega)).2
 rw[h1]at hp;cases hp
 rw[hq]at he;exact of_decide_eq_true he
end Sh
end
section
namespace Sh
theorem ybke(S:Sys)(res:Nat->Nat->Nat):∀(ws:List Nat) (c:Conf) (k:Cnt),(S.run res ws c k).length<ws.length->S.en (((c,k)::S.run res ws c k).getD (S.run res ws c k).length default).1=0
 |[],c,k,h=>by simp at h
 | w :: ws,c,k,h=>by
   unfold Sys.run at h ⊢
   by_cases h0:S.en c=0
   .simp only[if_pos h0];exact h0
   .simp only[if_neg h0,zQ]at h ⊢;exact ybke S res ws _ _ (by omega)
theorem RunD.over{S:Sys}{res:Nat->Nat->Nat}{ws:List Nat}{c:Conf}{n:Nat}{Cs:List Conf}{Ks:List Cnt}(h:RunD S res ws c n Cs Ks):S.en (Cs.getD (n-1) [])=0\/n=ws.length+1:=by
 by_cases q:n=ws.length+1
 .exact .inr q
 .left
  have hl:=h.len;have h1:=h.le
  have h2:=ybke S res ws c (ydt (S.en c)) (by
   simp only[Sys.runs,zQ]at hl;omega)
  have e:(S.run res ws c (ydt (S.en c))).length=n-1:=by simp only[Sys.runs,zQ]at hl;omega
  rw[e]at h2;have h3:=(h.at_ (show n-1<n by have:=h.pos;omega)).2
  have e2:((c,ydt (S.en c))::S.run res ws c (ydt (S.en c))).getD (n-1) default=(Cs.getD (n-1) [],Ks.getD (n-1) default):=by
   rw[zAK];have h3:((c,ydt (S.en c))::S.run res ws c (ydt (S.en c)))[n-1]?=some (Cs.getD (n-1) [],Ks.getD (n-1) default):=h3;rw[h3];rfl
  rw[e2]at h2;exact h2
end Sh
end
section
section
variable {nm np na nb nw:ByteArray}{g:Gr}{c:Conf}{u v s:Nat}
end
end
section
section
variable {nm np na nb nw:ByteArray}{g:Gr}{c:Conf}{u v s:Nat}
def ydvl(g:Gr)(s:Nat):List Nat:=(zM g.ids.length).filter s.testBit
theorem ybhy{α:Type}(f:α->Bool)(l:List α)(x:α):((l++[x]).filter f).length=(l.filter f).length+(f x).toNat:=by
 rw[List.filter_append,zAG];cases h:f x<;>simp[h]
theorem yrl(s:Nat):∀n,yfp s n=((zM n).filter s.testBit).length
 |0=>rfl
 | n+1=>by
   rw[zAQ,ybhy,<-yrl s n];rfl
structure MtJ(nm np na nb nw:ByteArray)(g:Gr)(c:Conf)(k:Cnt):Prop where
 valid:ydz (ydla nm np na nb nw) g c=true
 moves:∃I,PtI g (toP g c) I/\2*k.moves+potN g (toP g c) I<=2*g.ports.length+2*ygl g
end
end
section
theorem yddh{s n:Nat}:yfp s n=1↔∃v,v<n/\∀i,i<n->(s.testBit i=true↔i=v):=by
 rw[yrl];have mem:∀i,i∈(zM n).filter s.testBit↔i<n/\s.testBit i=true:=fun i=>by rw[List.mem_filter,zBT]
 constructor
 .intro h;obtain⟨a,ha⟩:=List.length_eq_one_iff.1 h;rw[ha]at mem;have h0:=(mem a).1 zY;refine⟨a,h0.1,fun i hi=>⟨fun hb=>?_,fun e=>by rw[e];exact h0.2⟩⟩
  have:=(mem i).2 ⟨hi,hb⟩
  simpa using this
 .rintro⟨v,hv,h⟩
  have h1:=ybeg (l1:=(zM n).filter s.testBit) (l2:=[v]) (List.nodup_range.filter _) fun x hx=>by
   have:=(mem x).1 hx;rw[(h x this.1).1 this.2];exact zY
  have h2:=zAZ ((mem v).2 ⟨hv,(h v hv).2 rfl⟩);simp only[zQ,zBR]at h1;omega
def ledB(c:Conf)(k:Nat):Nat:=(zM k).foldl (fun s v=>s|||(lAt c v).toNat*2^v) 0
theorem ybwv{c:Conf}(n:Nat)(hl:∀v,v<n->lAt c v=0\/lAt c v=1):∀k,k<=n->∀i,(ledB c k).testBit i=true↔i<k/\lAt c i=1
 |0,_,i=>⟨fun h=>by simp[ledB]at h,fun h=>absurd h.1 (zAA _)⟩
 | k + 1,hk,i=>by
   have e:ledB c (k+1)=ledB c k|||(lAt c k).toNat*2^k:=by unfold ledB;rw[zAQ,zU];rfl
   rw[e,Nat.testBit_or,Bool.or_eq_true,ybwv n hl k (by omega) i]
   rcases hl k (by omega)with q|q
   .rw[q];simp only[Int.toNat_zero,Nat.zero_mul,Nat.zero_testBit,Bool.false_eq_true,or_false];constructor
    .rintro⟨a,b⟩;exact⟨by omega,b⟩
    .rintro⟨a,b⟩;refine⟨?_,b⟩
     by_cases r:i=k
     .subst r;omega
     .omega
   .rw[q];have:(1:Int).toNat*2^k=2^k:=by rw[show(1:Int).toNat=1 from rfl,Nat.one_mul]
    rw[this,zBD,decide_eq_true_iff];constructor
    .rintro(⟨a,b⟩|a)
     .exact⟨by omega,b⟩
     .subst a;exact⟨by omega,q⟩
    .rintro⟨a,b⟩
     by_cases r:k=i
     .exact .inr r
     .exact .inl ⟨by omega,b⟩
theorem ycgw{g:Gr}(h:Tr g){c:Conf}(hc:ElC g c)(hH:ygi g c):(yfp (ledB c g.ids.length) 32=1/\∀i,(ledB c g.ids.length).testBit i=true->i<g.ports.length/\Peak g i)↔yqg g c:=by
 have hpl:=h.good.2.2.1;have h24:=h.good.2.1;have bit:=ybwv g.ids.length (c:=c) (fun v hv=>(hc.row v hv).2.2) g.ids.length (zK _);rw[yddh];constructor
 .rintro⟨⟨v,hv,h1⟩,h2⟩;have hb:=(h1 v hv).2 rfl;have hb':=(bit v).1 hb;exact⟨hH,v,hb'.1,(h2 v hb).2,hb'.2,fun u hu e=>(h1 u (by omega)).1 ((bit u).2 ⟨hu,e⟩)⟩
 .rintro⟨_,v,hv,hp,h1,h2⟩;refine⟨⟨v,by omega,fun i hi=>⟨fun hb=>?_,fun e=>?_⟩⟩,fun i hb=>?_⟩
  .have:=(bit i).1 hb;exact h2 i this.1 this.2
  .rw[e];exact(bit v).2 ⟨hv,h1⟩
  .have:=(bit i).1 hb;rw[h2 i this.1 this.2];exact⟨by omega,hp⟩
end
section
def ygf(g:Gr)(c:Conf):Bool:=ycd g&&yqi g.ports.length (ydq g [(g.ids.length:Int),1]) c
def ybsh(g:Gr)(c:Conf):Bool:=(zM c.length).all fun v=>!(hAt c v != htP g v)
def ybxm(g:Gr)(c:Conf):Bool:=((popP (ledB c c.length):Int)==1)&&((difB (ledB c c.length) (yiq (htP g) g):Int)==0)
def yjf(g:Gr)(c:Conf):Bool:=ygf g c&&(ybsh g c&&ybxm g c)
theorem yvc{g:Gr}{c:Conf}(h:ygf g c=true):ycd g=true/\c.length=g.ports.length/\∀v,v<c.length->(c.getD v []).length=2/\(0<=hAt c v/\hAt c v<=g.ids.length)/\(lAt c v=0\/lAt c v=1):=by
 unfold ygf at h;rw[zG]at h;have hck:=(yfd _ _ _).1 h.2;refine⟨h.1,hck.1,fun v hv=>?_⟩;have h2:=hck.2 v _ (zT hv);have e:c[v]=c.getD v []:=by rw[Sh.getD_at hv]
 rw[e]at h2;have hne:¬(g.ids.length:Int) = -1:=by omega
 have eb:ydq g [(g.ids.length:Int),1] v=[(0,(g.ids.length:Int)),(0,1)]:=by simp[ydq,hne]
 rw[eb]at h2;have hl:(c.getD v []).length=2:=h2.1;have h3:=h2.2 0 (0,(g.ids.length:Int)) (hAt c v) rfl (by unfold hAt;rw[Sh.getD_at (show 0<(c.getD v []).length by omega)];exact zT _)
 have h4:=h2.2 1 (0,1) (lAt c v) rfl (by unfold lAt;rw[Sh.getD_at (show 1<(c.getD v []).length by omega)];exact zT _)
 simp only at h3 h4;exact⟨hl,h3,by omega⟩
theorem ydrc{g:Gr}{c:Conf}(hg:ybe g)(h:ygf g c=true):ElC g c:=by
 obtain⟨_,h1,h2⟩:=yvc h;have hpl:=hg.2.2.1;exact⟨by omega,fun v hv=>h2 v (by omega)⟩
section
variable {nm nh nl nf nd nt ni:ByteArray}{g:Gr}
theorem yckx(h:Tr g)(hit:ycd g=true){c:Conf}(hv:ydz (ybo nm nh nl nf nd nt ni) g c=true):ygf g c=true:=by
 have hC:=ykc hv;have hpl:=h.good.2.2.1;unfold ygf;rw[hit,zO,yfd];refine⟨by rw[hC.len,hpl],fun v s hs=>?_⟩
 obtain⟨hvl,e⟩:=List.getElem?_eq_some_iff.1 hs;have e:c.getD v []=s:=by simp[zAO,hs]
 obtain⟨h1,h2,h3⟩:=hC.row v (by rw[<-hC.len];exact hvl)
 unfold hAt at h2;unfold lAt at h3;rw[e]at h1 h2 h3;have hne:¬(g.ids.length:Int) = -1:=by omega
 have eb:ydq g [(g.ids.length:Int),1] v=[(0,(g.ids.length:Int)),(0,1)]:=by simp[ydq,hne]
 rw[eb];refine⟨h1,fun i b x hb hx=>?_⟩;have hi:=(List.getElem?_eq_some_iff.1 hb).1;have hi:i<2:=by simpa using hi
 have e2:s.getD i 0=x:=by simp[zAO,hx]
 rcases(show i=0\/i=1 by omega)with rfl|rfl
 .have hb:some (0,(g.ids.length:Int))=some b:=hb;cases hb
  rw[e2]at h2;exact h2
 .have hb:some (0,1)=some b:=hb;cases hb
  rw[e2]at h3;show 0<=x/\x<=1;omega
theorem yog(h:Tr g){c:Conf}(hq:ygf g c=true):yjf g c=true↔yqg g c:=by
 obtain⟨_,hl,_⟩:=yvc hq;have hC:=ydrc h.good hq;have hpl:=h.good.2.2.1;have h24:=h.good.2.1;have hcl:c.length=g.ids.length:=by omega
 unfold yjf ybsh ybxm;rw[hq,zO,zG,zG,zBM,beq_iff_eq,beq_iff_eq,hcl]
 have hHt:(∀x∈zM g.ids.length,(!(hAt c x != htP g x))=true)↔ygi g c:=by
  constructor
  .intro q v hv;have:=q v (List.mem_range.2 hv);rw[zAC,bne_eq_false_iff_eq]at this;exact this
  .intro q v hv;rw[zAC,bne_eq_false_iff_eq];exact q v (List.mem_range.1 hv)
 rw[hHt]
 have hz:∀H:ygi g c,(((popP (ledB c g.ids.length):Int))=1/\((difB (ledB c g.ids.length) (yiq (htP g) g):Nat):Int)=0)↔yqg g c:=fun H=>by
  rw[<-ycgw h hC H];refine and_congr ?_ ?_
  .unfold popP;omega
  .have e:((difB (ledB c g.ids.length) (yiq (htP g) g):Nat):Int)=0↔difB (ledB c g.ids.length) (yiq (htP g) g)=0:=by omega
   rw[e,ycb];constructor
   .intro q i hb;have:=q i;rw[ygm,hb,zO,Bool.not_eq_false']at this;exact(yue h.good).1 this
   .intro q i;rw[ygm];cases hb:(ledB c g.ids.length).testBit i with
    |false=>rfl
    |true=>rw[(yue h.good).2 (q i hb)];rfl
 exact⟨fun⟨a,b⟩=>(hz a).1 b,fun r=>⟨r.1,(hz r.1).2 r⟩⟩
theorem yvz(h:Tr g)(hit:ycd g=true){c:Conf}(hv:ydz (ybo nm nh nl nf nd nt ni) g c=true):ybn (ybo nm nh nl nf nd nt ni) g c=0↔yjf g c=true:=(ycgm h hv).trans (yog h (yckx h hit hv)).symm
def elN(g:Gr):Nat:=(yif g/2+1).toNat
theorem ycuh(h:Tr g):∀v,v<g.ids.length->htP g v<(elN g:Int):=fun v hv=>by
 have:=h.ht_le_diam (v:=v) (by have:=h.good.2.2.1;omega)
 have:=yhb (g:=g) g.ports.length;unfold elN yif at *;omega
theorem ybkd(h:Tr g){res:Nat->Nat->Nat}(hr:ResD (ynz g) res){ws:List Nat}{c:Conf}(hv:ydz (ybo nm nh nl nf nd nt ni) g c=true):∀p∈(ybr (ybo nm nh nl nf nd nt ni) g).runs res ws c,RInvC (ybr (ybo nm nh nl nf nd nt ni) g) (fun c=>ydz (ybo nm nh nl nf nd nt ni) g c=true) (elR g (elN g)) p.1 p.2:=ybwe h (ycuh h) hr (ws:=ws) hv
theorem ydgt (h:Tr g) (hit:ycd g=true) {res:Nat->Nat->Nat}(hr:ResD (ynz g) res) {ws:List Nat}{c:Conf}(hv:ydz (ybo nm nh nl nf nd nt ni) g c=true) {ended:Bool}
 (he:ended=true->∀p,((ybr (ybo nm nh nl nf nd nt ni) g).runs res ws c)[((ybr (ybo nm nh nl nf nd nt ni) g).runs res ws c).length-1]?=some p->ybn (ybo nm nh nl nf nd nt ni) g p.1=0) :
 Sh.HeldOk (((ybr (ybo nm nh nl nf nd nt ni) g).runs res ws c).map fun p=>yjf g p.1) (((ybr (ybo nm nh nl nf nd nt ni) g).runs res ws c).map (·.2)) (yif g/2+2) (-1) ended:=by
 refine Sh.ydgi (S:=ybr (ybo nm nh nl nf nd nt ni) g) (J:=RInvC (ybr (ybo nm nh nl nf nd nt ni) g) (fun c=>ydz (ybo nm nh nl nf nd nt ni) g c=true) (elR g (elN g))) (ybkd h hr hv) (fun c k q=>yvz h hit q.valid) (fun c k q hL=>?_) (fun c k q hL hm=>by omega) he
 have:=ychq h (ycuh h) q fun hR=>by
  rw[(yog h (yckx h hit q.valid)).2 hR]at hL;cases hL
 have:=yhb (g:=g) g.ports.length;unfold elN yif at *;omega
end
end
section
namespace Sh
open Go Ev
def ydmf:LO:=[o3 (.mv (.const (.string (ByteArray.mk #[])))) 0 0]
def ydsf:LO:=[o3 (.mv (.const (.string (ByteArray.mk #[112,114,111,103,114,97,109,32,101,108,101,99,116,105,111,110,59,10,118,97,114,32,104,32,58,32,48,32,46,46,32,110,59,10,118,97,114,32,108,32,58,32,98,111,111,108,59,10,114,117,108,101,32,102,105,120,58,32,104,32,33,61,32,40,100,101,103,32,60,32,50,32,63,32,48,32,58,32,40,115,101,99,111,110,100,40,113,46,104,41,32,60,32,110,32,63,32,115,101,99,111,110,100,40,113,46,104,41,32,43,32,49,32,58,32,110,41,41,32,45,62,32,104,32,58,61,32,40,100,101,103,32,60,32,50,32,63,32,48,32,58,32,40,115,101,99,111,110,100,40,113,46,104,41,32,60,32,110,32,63,32,115,101,99,111,110,100,40,113,46,104,41,32,43,32,49,32,58,32,110,41,41,59,10,114,117,108,101,32,100,114,111,112,58,32,108,32,38,38,32,33,97,108,108,40,113,46,104,32,60,61,32,104,41,32,45,62,32,108,32,58,61,32,102,97,108,115,101,59,10,114,117,108,101,32,116,97,107,101,58,32,33,108,32,38,38,32,97,108,108,40,113,46,104,32,60,32,104,41,32,45,62,32,108,32,58,61,32,116,114,117,101,59,10,114,117,108,101,32,116,105,101,58,32,104,32,60,32,110,32,38,38,32,97,108,108,40,113,46,104,32,60,61,32,104,41,32,38,38,32,115,111,109,101,40,113,46,104,32,61,61,32,104,32,38,38,32,113,46,108,32,61,61,32,108,41,32,45,62,32,108,32,58,61,32,33,108,59,10])))) 0 0]
def c42:SC:=(.seq (.reg false ydmf) (.seq (.reg false ydsf) .ret))
theorem ydlb:Fn 42 c42 [.t 0]:=fn_0 Tryz.func42 (by kernel_rfl) (by kernel_rfl)
def ycss:LO:=[o3 (.box 27 (.tmp 0)) 1 0,o3 (.mv (.const (.bool false))) 2 0]
def ycnb:LO:=[ld' true 2 1 3 0,cl' 136 [3] 4 1,mv' 4 2 3]
def c100:SC:=(.seq (.reg false ycss) (.seq (.reg false ycnb) .ret))
theorem ydhf:Fn 100 c100 [.t 2]:=fn_0 Tryz.func100 (by kernel_rfl) (by kernel_rfl)
def ydho:LO:=[o3 (.box 27 (.tmp 0)) 2 0,o3 (.mv (.const (.bool false))) 4 0]
def ydfl:LO:=[ld' true 2 2 10 0,cl' 100 [10] 11 1,o3 (.un .not (.tmp 11)) 12 3,mv' 12 13 7,⟨.load true 2 (.tmp 2),some 14,some (13,false),15⟩,⟨.mv (.tmp 1),some 15,some (13,false),15⟩,⟨.faddr 0 1 (.tmp 2),some 16,some (13,false),15⟩,⟨.load false 1 (.tmp 16),some 17,some (13,false),79⟩,⟨.len (.tmp 17),some 18,some (13,false),207⟩,⟨.bslice 3 1 2 [.i .i64 0,.i .i64 0] [(0,1,(.tmp 18)),(1,1,(ci' 1))],some 19,some (13,false),463⟩,⟨.call (.func 102) [(.tmp 14),(.tmp 15),(.tmp 19)],some 20,some (13,false),1023⟩,⟨.un .not (.tmp 20),some 21,some (13,false),2047⟩,o3 (.pick (.tmp 13) (.const (.bool true)) (.tmp 21)) 22 4095]
def yddc:LO:=[o3 (.mv (.const (.bool false))) 4 0]
def ydpm:LO:=[ld' true 2 2 23 0,cl' 91 [23] 24 1,o3 (.alloc 22 1 [.a (.slice none 0 0)]) 5 0,o0 (.store 1 (.tmp 5) (.tmp 24)) 7]
def ydlm:LO:=[o3 (.mv (.const (.int .u32 0))) 6 0]
def ydog:LO:=[mv' 1 25 0,ln' 25 26 1,o3 (.mv (ci' 0)) 27 0]
def ycdg:LO:=[bn' .lss 27 26 28 0]
def ydiy:LO:=[mv' 27 29 0,ix' 1 25 27 30 0,ld' false 1 30 31 2,mv' 29 7 7,mv' 31 8 15]
def ydev:LO:=[mv' 8 32 0,o3 (.idx 1 (.tmp 32) (ci' 0)) 33 1,ld' false 1 33 34 3,ld' false 1 5 35 0,mv' 7 36 0,ix' 1 35 36 37 24,ld' false 1 37 38 56,bn' .neq 34 38 39 127]
def ydpz:LO:=[o3 (.mv (.const (.bool false))) 4 0]
def ycxb:LO:=[mv' 6 40 0,mv' 8 41 0,o3 (.idx 1 (.tmp 41) (ci' 1)) 42 2,ld' false 1 42 43 6,o3 (.conv .u32 (.tmp 43)) 44 14,mv' 7 45 0,bn' .shl 44 45 46 62,bn' .or 40 46 47 127,mv' 47 6 255]
def ycva:LO:=[o3 (.bin .add (.tmp 27) (ci' 1)) 48 0,mv' 48 27 1]
def ycqo:LO:=[ld' true 2 2 49 0,o3 (.mkfn 103 [] [(.tmp 5)]) 50 0,cl' 81 [49,50] 51 3,mv' 51 9 7]
def ycun:LO:=[mv' 6 52 0,cl' 104 [52] 53 1,o3 (.bin .eql (.tmp 53) (ci' 1)) 54 3,mv' 54 55 7,⟨.mv (.tmp 6),some 56,some (55,true),15⟩,⟨.mv (.tmp 9),some 57,some (55,true),15⟩,⟨.bin .andNot (.tmp 56) (.tmp 57),some 58,some (55,true),63⟩,⟨.bin .eql (.tmp 58) (.const (.int .u32 0)),some 59,some (55,true),127⟩,o3 (.pick (.tmp 55) (.tmp 59) (.const (.bool false))) 60 255,mv' 60 4 511]
def c45:SC:=(.seq (.reg false ydho) (.seq (.seq (.reg false ydfl) (.cond (.tmp 22) (.seq (.reg false yddc) .ret) .skip)) (.seq (.reg false ydpm) (.seq (.reg false ydlm) (.seq (.seq (.reg false ydog) (.block 0 (.loop (.seq (.reg false ycdg) (.seq (.cond (.tmp 28) .skip (.exit 0)) (.seq (.block 1 (.seq (.reg false ydiy) (.seq (.seq (.reg true ydev) (.cond (.tmp 39) (.seq (.reg false ydpz) .ret) .skip)) (.reg false ycxb)))) (.reg false ycva))))))) (.seq (.reg false ycqo) (.seq (.reg false ycun) .ret)))))))
theorem ydkr:Fn 45 c45 [.t 4]:=fn_0 Tryz.func45 (by kernel_rfl) (by kernel_rfl)
def ycmj:LO:=[o3 (.mv (ci' 0)) 3 0]
def ycqc:LO:=[ld' false 1 1 4 0,mv' 0 5 0,ix' 1 4 5 6 3,ld' false 1 6 7 7,mv' 7 3 15]
def c103:SC:=(.seq (.reg false ycmj) (.seq (.reg false ycqc) .ret))
theorem ydaz:Fn 103 c103 [.t 3]:=fn_0 Tryz.func103 (by kernel_rfl) (by kernel_rfl)
def ydhe:LO:=[o3 (.box 27 (.tmp 0)) 1 0,o3 (.alloc 51 1 [.i .i64 0,.b false,.b false,.i .i64 0,.i .i64 0]) 2 0]
def ydba:LO:=[ld' true 2 1 3 0,cl' 100 [3] 4 1,o3 (.un .not (.tmp 4)) 5 3]
def ydkb:LO:=[o3 (.build [.i .i64 0,.b false,.b false,.i .i64 0,.i .i64 0] []) 6 0,o0 (.store 5 (.tmp 2) (.tmp 6)) 1]
def ydmq:LO:=[ld' true 2 1 7 0,cl' 88 [7] 8 1,o3 (.bin .quo (.tmp 8) (ci' 2)) 9 3,o3 (.bin .add (.tmp 9) (ci' 2)) 10 7,o3 (.build [.i .i64 0,.b false,.b false,.i .i64 0,.i .i64 0] [(0,1,(ci' 2)),(2,1,(.const (.bool true))),(3,1,(.tmp 10)),(4,1,(.const (.int .i64 (-1))))]) 11 15,o0 (.store 5 (.tmp 2) (.tmp 11)) 31]
def c43:SC:=(.seq (.reg false ydhe) (.seq (.seq (.reg false ydba) (.cond (.tmp 5) (.seq (.reg false ydkb) .ret) .skip)) (.seq (.reg false ydmq) .ret)))
theorem ydsi:Fn 43 c43 [.c 2 true 5]:=fn_0 Tryz.func43 (by kernel_rfl) (by kernel_rfl)
def ydny:LO:=[o3 (.mv (.const (.slice none 0 0))) 0 0]
def ydmt:LO:=[o3 (.call (.func 79) [(.const (.string (ByteArray.mk #[104]))),(ci' 0),(ci' 1),(ci' 0)]) 1 0,o3 (.call (.func 99) [(.const (.string (ByteArray.mk #[108])))]) 2 1,o3 (.bslice 87 6 2 [.a (.string (ByteArray.mk #[])),.i .i64 0,.i .i64 0,.i .i64 0,.i .i64 0,.i .i64 0,.a (.string (ByteArray.mk #[])),.i .i64 0,.i .i64 0,.i .i64 0,.i .i64 0,.i .i64 0] [(0,6,(.tmp 1)),(6,6,(.tmp 2))]) 3 3,mv' 3 0 7]
def c41:SC:=(.seq (.reg false ydny) (.seq (.reg false ydmt) .ret))
theorem ydoh:Fn 41 c41 [.t 0]:=fn_0 Tryz.func41 (by kernel_rfl) (by kernel_rfl)
def yclk:LO:=[o3 (.box 27 (.tmp 0)) 1 0,o3 (.mv (.const (.bool false))) 2 0]
def ycsd:LO:=[ld' true 2 1 3 0,cl' 140 [3] 4 1,mv' 4 2 3]
def c101:SC:=(.seq (.reg false yclk) (.seq (.reg false ycsd) .ret))
theorem ydhc:Fn 101 c101 [.t 2]:=fn_0 Tryz.func101 (by kernel_rfl) (by kernel_rfl)
def ydir:LO:=[o3 (.box 27 (.tmp 0)) 1 0,o3 (.alloc 51 1 [.i .i64 0,.b false,.b false,.i .i64 0,.i .i64 0]) 2 0]
def ydcb:LO:=[ld' true 2 1 3 0,cl' 101 [3] 4 1,o3 (.un .not (.tmp 4)) 5 3]
def ydqp:LO:=[o3 (.build [.i .i64 0,.b false,.b false,.i .i64 0,.i .i64 0] []) 6 0,o0 (.store 5 (.tmp 2) (.tmp 6)) 1]
def ydqe:LO:=[ld' true 2 1 7 0,cl' 90 [7] 8 1,o3 (.bin .quo (.tmp 8) (ci' 2)) 9 3,o3 (.bin .add (.tmp 9) (ci' 2)) 10 7,o3 (.build [.i .i64 0,.b false,.b false,.i .i64 0,.i .i64 0] [(0,1,(ci' 2)),(2,1,(.const (.bool true))),(3,1,(.tmp 10)),(4,1,(.const (.int .i64 (-1))))]) 11 15,o0 (.store 5 (.tmp 2) (.tmp 11)) 31]
def c44:SC:=(.seq (.reg false ydir) (.seq (.seq (.reg false ydcb) (.cond (.tmp 5) (.seq (.reg false ydqp) .ret) .skip)) (.seq (.reg false ydqe) .ret)))
theorem ydnx:Fn 44 c44 [.c 2 true 5]:=fn_0 Tryz.func44 (by kernel_rfl) (by kernel_rfl)
def c8_0:LO:=[o3 (.box 24 (.tmp 0)) 3 0,o3 (.mv (.const (.bool false))) 6 0]
def c8_1:LO:=[ld' true 6 3 15 0,o3 (.call (.func 21) [(.tmp 15),(ci' 9)]) 16 1,o3 (.alloc 27 1 [.a (.slice none 0 0),.a (.slice none 0 0)]) 7 0,o0 (.store 2 (.tmp 7) (.tmp 16)) 7]
def c8_2:LO:=[ld' true 2 7 17 0,cl' 41 [] 18 0,mv' 1 19 0,cl' 24 [17,18,19] 20 7,mv' 20 8 15]
def c8_3:LO:=[cl' 42 [] 22 0,ld' true 2 7 23 0,ld' true 2 7 24 0,cl' 43 [24] 25 5,o3 (.field false 0 1 (.tmp 25)) 26 13,mv' 8 27 0,mv' 2 28 0,o3 (.call (.func 26) [(.tmp 28),(ci' 120)]) 29 77,cl' 22 [22,23,26,27,29] 30 255,mv' 30 21 511,xt' 21 0 31 1023,xt' 21 1 32 1023,xt' 21 2 33 1023,mv' 31 9 2047,mv' 32 10 12287,mv' 33 11 32767]
def c8_4:LO:=[mv' 11 34 0,o3 (.un .not (.tmp 34)) 35 1,mv' 35 36 3,⟨.load true 2 (.tmp 7),some 37,some (36,false),7⟩,⟨.call (.func 43) [(.tmp 37)],some 38,some (36,false),15⟩,⟨.load true 2 (.tmp 7),some 39,some (36,false),7⟩,⟨.call (.func 44) [(.tmp 39)],some 40,some (36,false),63⟩,⟨.seq true [false,true,true,false,false] (.tmp 38) (.tmp 40),some 41,some (36,false),127⟩,o3 (.pick (.tmp 36) (.const (.bool true)) (.tmp 41)) 42 255]
def c8_5:LO:=[o3 (.mv (.const (.bool false))) 6 0]
def c8_6:LO:=[o3 (.mv (.const (.slice none 0 0))) 12 0]
def c8_7:LO:=[o3 (.mv (ci' 0)) 13 0]
def c8_8:LO:=[mv' 13 43 0,mv' 9 44 0,ln' 44 45 2,bn' .lss 43 45 46 7]
def ydlr:LO:=[mv' 12 49 0,ld' true 2 7 50 0,mv' 9 51 0,mv' 13 52 0,ix' 1 51 52 53 12,ld' false 1 53 54 28,cl' 45 [50,54] 55 62,o3 (.bslice 4 1 1 [.b false] [(0,1,(.tmp 55))]) 56 126,o3 (.app 4 1 1 (.tmp 49) (.tmp 56)) 57 255,mv' 57 12 511]
def c8_9:LO:=[mv' 13 47 0,o3 (.bin .add (.tmp 47) (ci' 1)) 48 1,mv' 48 13 3]
def ydjb:LO:=[cl' 42 [] 58 0,cl' 37 [58] 59 1,ld' true 2 7 60 0,mv' 9 61 0,mv' 9 62 0,ln' 62 63 16,o3 (.bin .sub (.tmp 63) (ci' 1)) 64 48,ix' 1 61 64 65 120,ld' false 1 65 66 248,cl' 36 [59,60,66] 67 511,o3 (.bin .eql (.tmp 67) (.const (.int .u32 0))) 68 1023,mv' 68 14 2047]
def ydnd:LO:=[cl' 46 [] 69 0,mv' 69 70 1,⟨.mv (.tmp 12),some 71,some (70,true),3⟩,⟨.mv (.tmp 10),some 72,some (70,true),3⟩,⟨.load true 2 (.tmp 7),some 73,some (70,true),3⟩,⟨.call (.func 43) [(.tmp 73)],some 74,some (70,true),19⟩,⟨.mv (.tmp 14),some 75,some (70,true),3⟩,⟨.call (.func 38) [(.tmp 71),(.tmp 72),(.tmp 74),(.tmp 75)],some 76,some (70,true),127⟩,o3 (.pick (.tmp 70) (.tmp 76) (.const (.bool false))) 77 255,mv' 77 6 511]
def c8:SC:=(.seq (.reg false c8_0) (.seq (.reg false c8_1) (.seq (.reg true c8_2) (.seq (.reg true c8_3) (.seq (.seq (.reg true c8_4) (.cond (.tmp 42) (.seq (.reg false c8_5) .ret) .skip)) (.seq (.reg false c8_6) (.seq (.seq (.reg false c8_7) (.block 0 (.loop (.seq (.seq (.reg false c8_8) (.cond (.tmp 46) .skip (.exit 0))) (.seq (.block 1 (.reg true ydlr)) (.reg false c8_9)))))) (.seq (.reg true ydjb) (.seq (.reg false ydnd) .ret)))))))))
theorem ydui:Fn 8 c8 [.t 6]:=fn_0 Tryz.func8 (by kernel_rfl) (by kernel_rfl)
def c9_0:LO:=[o3 (.box 24 (.tmp 0)) 3 0,o3 (.mv (.const (.bool false))) 6 0]
def c9_1:LO:=[ld' true 6 3 13 0,o3 (.call (.func 21) [(.tmp 13),(ci' 9)]) 14 1,o3 (.alloc 27 1 [.a (.slice none 0 0),.a (.slice none 0 0)]) 7 0,o0 (.store 2 (.tmp 7) (.tmp 14)) 7]
def c9_2:LO:=[cl' 42 [] 15 0,cl' 37 [15] 16 1,o3 (.alloc 58 1 [.a (.string (ByteArray.mk #[])),.a (.slice none 0 0),.a (.slice none 0 0)]) 8 0,o0 (.store 3 (.tmp 8) (.tmp 16)) 7]
def c9_3:LO:=[cl' 42 [] 18 0,ld' true 2 7 19 0,ld' true 2 7 20 0,cl' 43 [20] 21 5,o3 (.field false 0 1 (.tmp 21)) 22 13,ld' true 2 7 23 0,cl' 41 [] 24 13,mv' 1 25 0,cl' 24 [23,24,25] 26 237,mv' 2 27 0,o3 (.call (.func 26) [(.tmp 27),(ci' 60)]) 28 1005,cl' 22 [18,19,22,26,28] 29 2047,mv' 29 17 4095,xt' 17 0 30 8191,xt' 17 1 31 8191,xt' 17 2 32 8191,mv' 30 9 16383,mv' 31 10 98303,mv' 32 11 262143]
def c9_4:LO:=[o3 (.mv (ci' 0)) 12 0]
def c9_5:LO:=[mv' 12 33 0,mv' 9 34 0,ln' 34 35 2,bn' .lss 33 35 36 7]
def c9_7:LO:=[ld' true 3 8 39 0,ld' true 2 7 40 0,mv' 9 41 0,mv' 12 42 0,ix' 1 41 42 43 12,ld' false 1 43 44 28,cl' 36 [39,40,44] 45 63,o3 (.bin .eql (.tmp 45) (.const (.int .u32 0))) 46 127,ld' true 2 7 47 0,mv' 9 48 0,mv' 12 49 0,ix' 1 48 49 50 1536,ld' false 1 50 51 3584,cl' 45 [47,51] 52 8063,o3 (.beq true (.tmp 46) (.tmp 52)) 53 16383]
def c9_8:LO:=[o3 (.mv (.const (.bool false))) 6 0]
def c9_6:LO:=[mv' 12 37 0,o3 (.bin .add (.tmp 37) (ci' 1)) 38 1,mv' 38 12 3]
def c9_9:LO:=[cl' 46 [] 54 0,mv' 54 55 1,⟨.mv (.tmp 11),some 56,some (55,true),3⟩,o3 (.pick (.tmp 55) (.tmp 56) (.const (.bool false))) 57 7,mv' 57 6 15]
def c9:SC:=(.seq (.reg false c9_0) (.seq (.reg false c9_1) (.seq (.reg false c9_2) (.seq (.reg true c9_3) (.seq (.seq (.reg false c9_4) (.block 0 (.loop (.seq (.seq (.reg false c9_5) (.cond (.tmp 36) .skip (.exit 0))) (.seq (.block 1 (.seq (.reg true c9_7) (.cond (.tmp 53) (.seq (.reg false c9_8) .ret) .skip))) (.reg false c9_6)))))) (.seq (.reg false c9_9) .ret))))))
end Sh
end
section
namespace Sh
open Go Ev
def ydai:LO:=[o3 (.box 40 (.tmp 0)) 1 0,o3 (.mv (.const (.nilFunc))) 2 0]
def yctl:LO:=[o3 (.mkfn 189 [] [(.tmp 1)]) 3 0,mv' 3 2 1]
def c154:SC:=(.seq (.reg false ydai) (.seq (.reg false yctl) .ret))
theorem ycfz:FnM 154 c154 [.t 2]:=fn_m Tryz.func154 (by kernel_rfl) (by kernel_rfl)
def yczu:LO:=[o3 (.box 110 (.tmp 0)) 2 0,o3 (.box 40 (.tmp 1)) 3 0,o3 (.alloc 4 1 [.b false]) 4 0]
def ycyi:LO:=[ld' false 1 3 6 0,cl' 154 [6] 7 1]
def ycmf:LO:=[mv' 8 5 0]
def ycxx:LO:=[ld' false 1 2 9 0,mv' 5 10 0,ix' 1 9 10 11 3,ld' false 1 11 12 7,ld' false 1 3 13 0,bn' .and 12 13 14 31,o3 (.bin .neq (.tmp 14) (.const (.int .u32 0))) 15 63]
def ydnn:LO:=[o0 (.store 1 (.tmp 4) (.const (.bool false))) 0]
def ycma:LO:=[o0 (.store 1 (.tmp 4) (.const (.bool true))) 0]
def c221:SC:=(.seq (.reg false yczu) (.seq (.seq (.reg false ycyi) (.block 0 (.range (.tmp 7) [8] (.reg false ycmf) (.block 1 (.seq (.reg true ycxx) (.cond (.tmp 15) (.seq (.reg false ydnn) .ret) .skip)))))) (.seq (.reg false ycma) .ret)))
theorem ycdl:FnU 221 c221 [.c 4 false 1]:=fn_u Tryz.func221 (by kernel_rfl) (by kernel_rfl)
def ydmj:LO:=[o3 (.alloc 87 1 [.a (.string (ByteArray.mk #[])),.i .i64 0,.i .i64 0,.i .i64 0,.i .i64 0,.i .i64 0]) 2 0]
def ydjg:LO:=[mv' 0 3 0,o3 (.build [.a (.string (ByteArray.mk #[])),.i .i64 0,.i .i64 0,.i .i64 0,.i .i64 0,.i .i64 0] [(0,1,(.tmp 3)),(1,1,(ci' 2))]) 4 1,o0 (.store 6 (.tmp 2) (.tmp 4)) 3]
def c99:SC:=(.seq (.reg false ydmj) (.seq (.reg false ydjg) .ret))
theorem ydrv:Fn 99 c99 [.c 2 true 6]:=fn_0 Tryz.func99 (by kernel_rfl) (by kernel_rfl)
end Sh
end
section
def ypx(g:Gr):Sh.SV:=if ycd g=true then .ag (Sh.clmV 2 false true (yif g/2+2) (-1))else .ag (Sh.clmV 0 false false 0 0)
theorem ybef(c:Conf)(k:Nat):ledB c (k+1)=ledB c k|||(lAt c k).toNat*2^k:=by
 unfold ledB;rw[zAQ,zU];rfl
theorem ybxj{c:Conf}(hl:∀v,v<c.length->lAt c v=0\/lAt c v=1)(h24:c.length<=24):∀k,k<=c.length->ledB c k<2^24
 |0,_=>zBQ 24
 | k+1,hk=>by
   rw[ybef];refine Nat.or_lt_two_pow (ybxj hl h24 k (by omega)) ?_
   have h1:2^k<2^24:=zAR (by omega) (by omega)
   rcases hl k (by omega)with e|e
   .rw[e];simp
   .rw[e];show 1*2^k<_;omega
theorem ycfn{b v:Nat}(h:b*2^v<2^32):IntKind.wrap .u32 ((b:Int)*2^(v:Int).toNat)=((b*2^v:Nat):Int):=by
 have e:((b:Int)*2^(v:Int).toNat)=((b*2^v:Nat):Int):=by
  rw[zAH]
  push_cast
  rfl
 rw[e];exact yhv h
theorem ycha{g:Gr}(hg:ybe g)(f:Nat->Int):yiq f g<2^24:=by
 have h24:=hg.2.1;refine Nat.lt_pow_two_of_testBit _ fun i hi=>?_;cases h:(yiq f g).testBit i with
 |false=>rfl
 |true=>have:=((yue hg).1 h).1;omega
namespace Sh
open Ev Go.RowKit
theorem ybkb{g:Gr}(hI:GrI g):Returns zF 100 [grV g] (.b (ycd g)):=by
 refine Returns.of (ydhf _ _ ?_);have hC:=ybrc hI;simp only[grV]at hC;simp only[c100,ycss,ycnb,grV,go_sem,zA,zB,zC,↓reduceIte];refine hC.use ?_;simp only[ybg,yig,go_sem,zA,zB,↓reduceIte,reduceCtorEq]
theorem ybom{g:Gr}(hI:GrI g):Returns zF 101 [grV g] (.b (ycd g)):=by
 refine Returns.of (ydhc _ _ ?_);have hC:=ybii hI;simp only[grV]at hC;simp only[c101,yclk,ycsd,grV,go_sem,zA,zB,zC,↓reduceIte];refine hC.use ?_;simp only[ybg,yig,go_sem,zA,zB,↓reduceIte,reduceCtorEq]
theorem ybeu{H:List Int}{v:Nat}(hv:v<H.length)(hl:H.length<=1000):Returns zF 103 [.i .i64 v,.rf [yu H]] (.i .i64 (H.getD v 0)):=by
 refine Returns.of (ydaz _ _ ?_);simp only[c103,ycmj,ycqc,yu,clash,go_sem,zA,zB,↓reduceIte,reduceCtorEq];exact⟨⟨by omega,by omega⟩,Sim.refl _⟩
set_option maxHeartbeats 2000000 in
theorem ybnt{g:Gr}(hI:GrI g){c:Conf}(hR:ycfl c)(he:ycd g=true->Tr g):Returns zF 45 [grV g,ybm c] (.b (yjf g c)):=by
 refine Returns.of (ydkr _ _ ?_);have hF:=ybkb hI;unfold yjf;cases ht:ycd g with
 | false =>
   have e:ygf g c=false:=by unfold ygf;rw[ht];rfl
   rw[e,zBV];rw[ht]at hF;simp only[grV]at hF;simp only[c45,ydho,ydfl,yddc,grV,clash,go_sem,zA,zB,zC,↓reduceIte];refine hF.use ?_;simp only[ybg,clash,go_sem,zA,zB,↓reduceIte,reduceCtorEq];exact Sim.refl _
 | true =>
   have hT:=he ht;have hg:=hT.good;have h24:=hg.2.1;have hpl:=hg.2.2.1
   have hC:=ycdo hg hR (G:=[(g.ids.length:Int),1]) (fun x hx=>by
    simp at hx;rcases hx with rfl|rfl<;>exact yfi (by omega))
   rw[ht]at hF;simp only[grV]at hF;simp only[c45,ydho,ydfl,grV,yu,clash,go_sem,zA,zB,zC,↓reduceIte];refine hF.use ?_;simp only[ybg,splice,clash,go_sem,zA,zB,zD,zC,↓reduceIte,reduceCtorEq];have two:∀{q:Nat},q<2->q=0\/q=1:=fun {q} h=>by omega
   refine .inl ⟨fun q hq=>by rcases two hq with rfl|rfl<;>simp only[go_sem],hC.useS ?_ ?_⟩
   .refine⟨Sim.refl (grV g),Sim.refl _,?_,trivial⟩;refine yiv fun q hq=>?_;rcases two hq with rfl|rfl<;>(simp only[zAT,zAU,go_sem];exact⟨Sim.refl _,trivial⟩)
   have eC:ygf g c=yqi g.ports.length (ydq g [(g.ids.length:Int),1]) c:=by unfold ygf;rw[ht,zO]
   rw[<-eC];cases hcf:ygf g c with
   | false =>
     simp only[yddc,go_sem,↓reduceIte];exact Sim.refl _
   | true =>
     obtain⟨_,hcl,hc1⟩:=yvc hcf;have hH:=ybgq hT;have hhb:=fun v hv=>hT.ht_le (v:=v) hv;have hLl:=ybxj (c:=c) (fun v hv=>(hc1 v hv).2.2) (by omega)
     have hLs:=ybef c;have hL0:ledB c 0=0:=rfl;have hPl:=ycha hg (htP g);obtain⟨n,hn⟩:∃n,g.ports.length=n:=⟨_,rfl⟩
     have hP:=ycbm hg (f:=htP g) (h:=103) (cp:=[.rf [yu (mapR n (htP g))]]) (by rfl) (fun v hv=>by
      have:=ybeu (H:=mapR n (htP g)) (v:=v) (by rw[yla];omega) (by rw[yla];omega)
      rw[gmR _ _ _ _ (show v<n by omega)]at this
      exact this)
     have hHe:ybsh g c=(zM c.length).all fun v=>!(hAt c v != htP g v):=rfl;have hOe:ybxm g c=(((popP (ledB c c.length):Int)==1)&&((difB (ledB c c.length) (yiq (htP g) g):Int)==0)):=rfl;rw[hn]at h24 hH hcl;rw[hcl]at hHe hOe hLl;have hml:=yla n (htP g);have hmg:∀v,v<n->(mapR n (htP g)).getD v 0=htP g v:=fun v hv=>gmR _ _ _ _ hv;obtain⟨H,hHH⟩:∃H,mapR n (htP g)=H:=⟨_,rfl⟩;rw[hHH]at hH hml hmg hP;obtain⟨Pk,hPk⟩:∃x,yiq (htP g) g=x:=⟨_,rfl⟩
     rw[hPk]at hP hOe hPl;obtain⟨L,hLL⟩:∃L:Nat->Nat,(fun k=>ledB c k)=L:=⟨_,rfl⟩;have hL':∀k,ledB c k=L k:=fun k=>by rw[<-hLL]
     simp only[hL']at hLl hLs hL0 hOe;simp only[grV]at hH hP;simp only[yu,hml]at hH hP;rw[zO];simp only[ybg,ydpm,clash,go_sem,zA,zB,zC,↓reduceIte];refine hH.use ?_;simp only[ydlm,ydog,ybm,hcl,clash,go_sem,zA,zB,↓reduceIte,reduceCtorEq]
     refine ybk (σ:=Nat) (fun k=>⟨[(27,.i .i64 k),(26,.i .i64 n),(25,.sl 1 n fun v=>[yu (c.getD v [])]),(6,.i .u32 (L k)),(2,.pt (2,0) 0 0),(5,.pt (5,0) 0 0)],
      [(2,.one (some ⟨27,true,2,1,fun _=>[yu g.ids,yx g.ports]⟩)),(5,.one (some ⟨22,true,1,1,fun _=>[.sl 1 n fun v=>[.i .i64 (H.getD v 0)]]⟩))]⟩)
        (fun k=>k<=n/\∀j,j<k->hAt c j=htP g j) (fun k=>n-k) 0 ⟨zJ _,fun j hj=>absurd hj (zAA j)⟩ ?_ ?_
     .refine yh [] [] [] ?_;simp only[hL0,allQ,live,yc,zH,go_sem,zA,↓reduceIte,reduceCtorEq];exact fun _ _=>Sim.refl _
     rintro k ⟨hk,hall⟩
     by_cases hlt:k<n
     .have t1:decide ((k:Int)<(n:Int))=true:=decide_eq_true (by omega)
      obtain⟨hs1,hs2,hs3⟩:=hc1 k (by omega)
      have hgk:=hmg k hlt;have hLk:=hLl k (by omega)
      have hLn:=hLs k;have hke:hAt c k=(c.getD k []).getD 0 0:=rfl;have hle:lAt c k=(c.getD k []).getD 1 0:=rfl
      obtain⟨b,hb,hb1⟩:∃b:Nat,lAt c k=(b:Int)/\b<=1:=by
       rcases hs3 with e|e
       .exact⟨0,e,by omega⟩
       .exact⟨1,e,by omega⟩
      obtain⟨s,hs⟩:∃s,c.getD k []=s:=⟨_,rfl⟩;rw[hs]at hs1 hke hle;obtain⟨x,hx⟩:∃x,s.getD 0 0=x:=⟨_,rfl⟩;rw[hx]at hke;rw[hb]at hle hLn
      by_cases heq:x=htP g k
      .have t2:(x != htP g k)=false:=by rw[heq];simp
       have cv:=yhv (a:=b) (by omega)
       have hbl:b*2^k<2^24:=by
        have h1:2^k<2^24:=zAR (by omega) (by omega)
        rcases(show b=0\/b=1 by omega)with e|e
        .rw[e];simp
        .rw[e];omega
       have sh:=ycfn (b:=b) (v:=k) (by omega)
       have ov:=u32_or (a:=L k) (b:=b*2^k) (by omega) (by omega)
       rw[zAH]at hLn;rw[<-hLn]at ov;simp only[IntKind.bits,zAH]at sh ov;simp only[ycdg,ydiy,ydev,ycxb,ycva,yu,hs,hs1,<-hle,hgk,hx,t1,t2,cv,sh,ov,clash,go_sem,zBS,zA,zB,↓reduceIte,reduceCtorEq]
       repeat (refine⟨by omega,?_⟩)
       refine⟨ikw (by omega) (by omega),?_⟩
       refine yj (k+1) ⟨by omega,fun j hj=>?_⟩ (by omega) ?_
       .by_cases q:j=k
        .rw[q,hke];exact heq
        .exact hall j (by omega)
       .refine yh [] [] [] ?_;simp only[go_sem,allQ,live,yc,ybb,go_sem,zA,↓reduceIte,reduceCtorEq];omega
      .have t2:(x != htP g k)=true:=by rw[bne_iff_ne];exact heq
       have e:(zM n).all (fun v=>!(hAt c v != htP g v))=false:=by
        rw[List.all_eq_false];exact⟨k,List.mem_range.2 hlt,by rw[hke,t2];decide⟩
       rw[hHe,e,zBV];simp only[ycdg,ydiy,ydev,ydpz,yu,hs,hs1,hgk,hx,t1,t2,clash,go_sem,zBS,zA,zB,↓reduceIte,reduceCtorEq]
       repeat (refine⟨by omega,?_⟩)
       exact Sim.refl _
     .obtain rfl:k=n:=by omega
      have t1:decide ((k:Int)<(k:Int))=false:=decide_eq_false (by omega)
      have e:(zM k).all (fun v=>!(hAt c v != htP g v))=true:=by
       rw[zBM];intro v hv;rw[zAC,bne_eq_false_iff_eq];exact hall v (List.mem_range.1 hv)
      have hLk:=hLl k (by omega)
      have hO:=yblk (s:=L k) (by omega)
      have an:=u32_andNot (a:=L k) (b:=Pk) (by omega) (by omega)
      simp only[IntKind.bits]at an;rw[hHe,e,zO,hOe];simp only[ycdg,ycqo,t1,clash,go_sem,zA,zB,zD,↓reduceIte];refine .inl (hP.use ?_);simp only[ybg,ycun,clash,go_sem,zA,zB,↓reduceIte,reduceCtorEq];refine hO.use ?_;cases o1:((popP (L k):Int)==1)with
      | false =>
        simp only[o1,clash,go_sem,zA,zB,↓reduceIte,reduceCtorEq];exact Sim.refl _
      | true =>
        simp only[o1,an,clash,go_sem,zA,zB,↓reduceIte,reduceCtorEq];exact Sim.refl _
theorem ybop{g:Gr}(hI:GrI g):Returns zF 43 [grV g] (ypx g):=by
 refine Returns.of (ydsi _ _ ?_);have hF:=ybkb hI;unfold ypx;cases ht:ycd g with
 | false =>
   rw[ht]at hF;simp only[grV]at hF;simp only[c43,ydhe,ydba,ydkb,grV,clmV,clash,go_sem,zA,zB,zC,↓reduceIte];refine hF.use ?_;simp only[ybg,splice,clash,go_sem,zA,zB,↓reduceIte];exact Sim.refl _
 | true =>
   have hD:=ycav hI;rw[if_pos (ymo ht)]at hD;have hg:=yut ht;have h24:=hg.2.1;have d1:=yhb (g:=g) g.ports.length;have d2:=ybiv hg g.ports.length (zK _);have d3:(yif g).tdiv 2=yif g/2:=zAJ d1;have d1:0<=yif g:=d1;have d2:yif g<=24:=d2;rw[ht]at hF;simp only[grV]at hF hD;simp only[c43,ydhe,ydba,ydmq,grV,clmV,clash,go_sem,zA,zB,zC,↓reduceIte];refine hF.use ?_;simp only[ybg,splice,clash,go_sem,zA,zB,zD,↓reduceIte]
   refine hD.use ?_;simp only[d3,go_sem,zA,zB,↓reduceIte];exact⟨⟨by decide,ikw (by omega) (by omega)⟩,ikw (by omega) (by omega),Sim.refl _⟩
theorem ybdq{g:Gr}(hI:GrI g):Returns zF 44 [grV g] (ypx g):=by
 refine Returns.of (ydnx _ _ ?_);have hF:=ybom hI;unfold ypx;cases ht:ycd g with
 | false =>
   rw[ht]at hF;simp only[grV]at hF;simp only[c44,ydir,ydcb,ydqp,grV,clmV,clash,go_sem,zA,zB,zC,↓reduceIte];refine hF.use ?_;simp only[ybg,splice,clash,go_sem,zA,zB,↓reduceIte];exact Sim.refl _
 | true =>
   have hD:=ybua hI;rw[if_pos (ymo ht)]at hD;have hg:=yut ht;have h24:=hg.2.1;have d1:=yhb (g:=g) g.ports.length;have d2:=ybiv hg g.ports.length (zK _);have d3:(yif g).tdiv 2=yif g/2:=zAJ d1;have d1:0<=yif g:=d1;have d2:yif g<=24:=d2;rw[ht]at hF;simp only[grV]at hF hD;simp only[c44,ydir,ydcb,ydqe,grV,clmV,clash,go_sem,zA,zB,zC,↓reduceIte];refine hF.use ?_;simp only[ybg,splice,clash,go_sem,zA,zB,zD,↓reduceIte]
   refine hD.use ?_;simp only[d3,go_sem,zA,zB,↓reduceIte];exact⟨⟨by decide,ikw (by omega) (by omega)⟩,ikw (by omega) (by omega),Sim.refl _⟩
theorem ybtu(nm:ByteArray):Returns zF 99 [.a (.string nm)] (.ag (varC ⟨nm,2,0,0,0,0⟩)):=by
 refine Returns.of (ydrv _ _ ?_);simp only[c99,ydmj,ydjg,varC,go_sem,zA,zB,zD,zC,↓reduceIte,reduceCtorEq];exact Sim.refl _
theorem ybse:Returns zF 41 [] (ydm [⟨⟨#[104]⟩,1,0,0,1,0⟩,⟨⟨#[108]⟩,2,0,0,0,0⟩]):=by
 refine Returns.of (ydoh _ _ ?_);have h1:=ybox ⟨#[104]⟩ 0 1 0;have h2:=ybtu ⟨#[108]⟩;simp only[varC]at h1 h2;simp only[c41,ydny,ydmt,go_sem,↓reduceIte];refine h1.use ?_;simp only[ybg,clash,go_sem,zA,zB,zD,zC,↓reduceIte,reduceCtorEq];refine h2.use ?_;simp only[go_sem,zB,↓reduceIte];have two:∀{q:Nat},q<2->q=0\/q=1:=fun {q} h=>by omega
 refine⟨fun q hq=>by rcases two hq with rfl|rfl<;>simp only[go_sem],?_⟩
 refine yiv fun q hq=>?_;rcases two hq with rfl|rfl<;>(simp only[varC,zAT,zAU,go_sem];exact⟨Sim.refl _,Sim.refl _,Sim.refl _,Sim.refl _,Sim.refl _,Sim.refl _,trivial⟩)
end Sh
end
section
theorem TreeTo.tr{x:NetR}{g:Gr}(hg:ybe g)(h:TreeTo x g.ports.length g):Tr g:=by
 have hc:=Tre.conn hg h.tre;refine⟨hg,hc,ydpo hg hc ?_⟩;have:=h.count;have:=hg.1;omega
namespace Sh
open Ev Go.RowKit
theorem ybdb(g:Gr):vok (ygn g.ports) 5 (yux g)/\Sim (view (ygn g.ports) 5 (yux g)) (grV g):=by
 obtain⟨P,hP⟩:∃P,g.ports=P:=⟨_,rfl⟩;simp only[yux,ygn,grV,hP,go_sem,zA,↓reduceIte];refine⟨fun q hq=>?_,?_⟩
 .simp only[if_pos hq];exact⟨zK _,fun k hk=>by simp only[rowO,go_sem]⟩
 .refine yun ⟨Sim.refl _,?_,trivial⟩;refine yiv fun q hq=>?_;simp only[if_pos hq];simp only[rowO,ybc,go_sem];exact⟨Sim.refl _,trivial⟩
theorem ybvw{x:NetR}(hx:x.ok){most:Nat}(hm:1<=most/\most<=24) :
 Ct zF 21 [.ag (netC x),.i .i64 most] fun r=>∃g,Tr g/\ycd g=true/\(g.ports.length<=most/\(g.ports.length:Int)=1+ycw (IntKind.wrap .i64 (x.n-1)) most)/\Sim r (grV g) :=
 (ydcr hx hm).ct fun r o' ⟨g,hg,ht,hn,e1,e2⟩=>by
   subst e1 e2;have hT:=ht.tr hg;refine⟨(ybdb g).1,g,hT,?_,hn,(ybdb g).2⟩;unfold ycd;rw[hT.conn];have:=ht.count;have:=hg.1;simp only[zO,decide_eq_true_eq];omega
theorem ychy{x:NetR}(hx:x.ok){most:Nat}(hm:1<=most/\most<=24) :
 Ct zF 21 [.ag (netC x),.i .i64 most] fun r=>∃g,Tr g/\ycd g=true/\g.ports.length<=most/\Sim r (grV g) :=
 (ybvw hx hm).mono fun _ ⟨g,h1,h2,h3,h4⟩=>⟨g,h1,h2,h3.1,h4⟩
end Sh
end
section
namespace Ev
def Nzb0:BlkL:=⟨4,71,1,[.slice (some ⟨17,0,none⟩) 1 CU,.slice (some ⟨19,0,none⟩) 1 CU]⟩
def Nzb1:BlkL:=⟨1257,240,2,[.int .i64 36,.int .i64 0,.int .i64 5,.int .i64 0,.int .i64 43,.int .i64 0,.int .i64 37,.int .i64 0,.int .i64 9,.int .i64 0,.int .i64 1,.int .i64 2,.int .i64 1,.int .i64 0,.int .i64 43,.int .i64 0,.int .i64 37,.int .i64 0,.int .i64 28,.int .i64 0,.int .i64 12,.int .i64 0,.int .i64 6,.int .i64 0,.int .i64 33,.int .i64 0,.int .i64 28,.int .i64 0,.int .i64 12,.int .i64 0,.int .i64 1,.int .i64 1,.int .i64 6,.int .i64 0]⟩
def Nzb2:BlkL:=⟨1413,240,2,[.int .i64 43,.int .i64 0,.int .i64 37,.int .i64 0,.int .i64 9,.int .i64 0,.int .i64 1,.int .i64 2,.int .i64 1,.int .i64 0,.int .i64 43,.int .i64 0,.int .i64 37,.int .i64 0,.int .i64 28,.int .i64 0,.int .i64 12,.int .i64 0,.int .i64 6,.int .i64 0,.int .i64 33,.int .i64 0,.int .i64 28,.int .i64 0,.int .i64 12,.int .i64 0,.int .i64 1,.int .i64 1,.int .i64 6,.int .i64 0]⟩
def Nzb3:BlkL:=⟨1422,200,2,[.int .i64 0,.slice (some ⟨1413,0,none⟩) 15 CU]⟩
def Nzb4:BlkL:=⟨1495,240,2,[.int .i64 41,.int .i64 0,.int .i64 5,.int .i64 1,.int .i64 19,.int .i64 0,.int .i64 20,.int .i64 0,.int .i64 38,.int .i64 0,.int .i64 12,.int .i64 0,.int .i64 5,.int .i64 0]⟩
def Nzb5:BlkL:=⟨1508,240,2,[.int .i64 3,.int .i64 0]⟩
def Nzb6:BlkL:=⟨1515,200,2,[.int .i64 1,.slice (some ⟨1508,0,none⟩) 1 1]⟩
def Nzb7:BlkL:=⟨1588,240,2,[.int .i64 41,.int .i64 0,.int .i64 19,.int .i64 0,.int .i64 5,.int .i64 1,.int .i64 20,.int .i64 0,.int .i64 37,.int .i64 0,.int .i64 12,.int .i64 0,.int .i64 5,.int .i64 0]⟩
def Nzb8:BlkL:=⟨1601,240,2,[.int .i64 2,.int .i64 0]⟩
def Nzb9:BlkL:=⟨1608,200,2,[.int .i64 1,.slice (some ⟨1601,0,none⟩) 1 1]⟩
def ydee:BlkL:=⟨1766,240,2,[.int .i64 41,.int .i64 0,.int .i64 41,.int .i64 0,.int .i64 37,.int .i64 0,.int .i64 5,.int .i64 0,.int .i64 6,.int .i64 0,.int .i64 20,.int .i64 0,.int .i64 38,.int .i64 0,.int .i64 12,.int .i64 0,.int .i64 5,.int .i64 0,.int .i64 21,.int .i64 0,.int .i64 41,.int .i64 0,.int .i64 35,.int .i64 0,.int .i64 12,.int .i64 0,.int .i64 5,.int .i64 0,.int .i64 35,.int .i64 0,.int .i64 12,.int .i64 1,.int .i64 5,.int .i64 1]⟩
def ydec:BlkL:=⟨1785,240,2,[.int .i64 19,.int .i64 0,.int .i64 5,.int .i64 1]⟩
def ydgk:BlkL:=⟨1792,200,2,[.int .i64 1,.slice (some ⟨1785,0,none⟩) 2 CU]⟩
def yddv:BlkL:=⟨2927,22,1,[.slice (some ⟨2925,0,none⟩) 2 2,.slice (some ⟨2926,0,none⟩) 2 2]⟩
end Ev
end
section
namespace Ev
def Nzm1:Fact:=ybap.move [1257,1413,1422] 2950
theorem ydfk:ycy zF Nzm1:=ycs (ybd.at_ yhl 0 rfl) (by kernel_rfl)
def Nzm2:Fact:=yzl.move [1766,1785,1792] 3250
theorem ydav:ycy zF Nzm2:=ycs (ybd.at_ yhl 1 rfl) (by kernel_rfl)
def Nzm3:Fact:=ybaf.move [1257,1413,1422,3368] 3372
theorem ydin:ycy zF Nzm3:=ycs (ybd.at_ yng 0 rfl) (by kernel_rfl)
def Nzm4:Fact:=ybaj.move [1766,1785,1792,3368] 3867
theorem ydfp:ycy zF Nzm4:=ycs (ybd.at_ ynf 0 rfl) (by kernel_rfl)
/- selfstab/memory.Check -/
def yctk:Fact:=⟨112,[.agg #[.string (by8 [101,108,101,99,116,105,111,110]),.slice (some ⟨1083,0,none⟩) 2 CU,.slice (some ⟨1796,0,none⟩) 4 CU],.agg #[.slice (some ⟨9,0,none⟩) 2 CU,.slice (some ⟨4,0,none⟩) 2 2],.slice (some ⟨2927,0,none⟩) 2 2],2930,[Nzb0,⟨9,3,1,[.int .i64 0,.int .i64 1]⟩,⟨17,95,2,[.int .i64 1,.int .i64 1]⟩,⟨19,95,2,[.int .i64 0,.int .i64 1]⟩,⟨1083,87,6,[.string (by8 [104]),.int .i64 1,.int .i64 0,.int .i64 0,.int .i64 1,.int .i64 0,.string (by8 [108]),.int .i64 2,.int .i64 0,.int .i64 0,.int .i64 0,.int .i64 0]⟩,Nzb1,Nzb2,Nzb3,Nzb4,Nzb5,Nzb6,Nzb7,Nzb8,Nzb9,ydee,ydec,ydgk,⟨1796,191,3,[.string (by8 [102,105,120]),.slice (some ⟨1257,0,none⟩) 17 CU,.slice (some ⟨1422,0,none⟩) 1 CU,.string (by8 [100,114,111,112]),.slice (some ⟨1495,0,none⟩) 7 CU,.slice (some ⟨1515,0,none⟩) 1 CU,.string (by8 [116,97,107,101]),.slice (some ⟨1588,0,none⟩) 7 CU,.slice (some ⟨1608,0,none⟩) 1 CU,.string (by8 [116,105,101]),.slice (some ⟨1766,0,none⟩) 17 CU,.slice (some ⟨1792,0,none⟩) 1 CU]⟩,⟨2925,3,1,[.int .i64 0,.int .i64 0]⟩,⟨2926,3,1,[.int .i64 0,.int .i64 0]⟩,yddv],.int .i64 0,4106,[],2930⟩
def ydtc:List Fact:=[yctk]
theorem ycfm:ybd ydtc:=ybd.seq (ybd.cons (f:=Nzm1) ydfk (ybd.cons (f:=Nzm2) ydav (ybd.cons (f:=Nzm3) ydin (ybd.cons (f:=Nzm4) ydfp ybd.nil)))) (by kernel_rfl)
def Nzm5:Fact:=ybap.move [1257,1413,1422] 4471
theorem ydgs:ycy zF Nzm5:=ycs (ybd.at_ yhl 0 rfl) (by kernel_rfl)
def Nzm6:Fact:=yzl.move [1766,1785,1792] 4771
theorem ydbt:ycy zF Nzm6:=ycs (ybd.at_ yhl 1 rfl) (by kernel_rfl)
def Nzm7:Fact:=ybaf.move [1257,1413,1422,4889] 4893
theorem ydhz:ycy zF Nzm7:=ycs (ybd.at_ yng 0 rfl) (by kernel_rfl)
def Nzm8:Fact:=ybaj.move [1766,1785,1792,4889] 5388
theorem ydbv:ycy zF Nzm8:=ycs (ybd.at_ ynf 0 rfl) (by kernel_rfl)
/- selfstab/memory.Valid -/
def ybtr:Fact:=⟨92,[.agg #[.string (by8 [101,108,101,99,116,105,111,110]),.slice (some ⟨1083,0,none⟩) 2 CU,.slice (some ⟨1796,0,none⟩) 4 CU],.agg #[.slice (some ⟨9,0,none⟩) 2 CU,.slice (some ⟨4,0,none⟩) 2 2],.slice (some ⟨2927,0,none⟩) 2 2],4449,[Nzb0,⟨9,3,1,[.int .i64 0,.int .i64 1]⟩,⟨17,95,2,[.int .i64 1,.int .i64 1]⟩,⟨19,95,2,[.int .i64 0,.int .i64 1]⟩,⟨1083,87,6,[.string (by8 [104]),.int .i64 1,.int .i64 0,.int .i64 0,.int .i64 1,.int .i64 0,.string (by8 [108]),.int .i64 2,.int .i64 0,.int .i64 0,.int .i64 0,.int .i64 0]⟩,Nzb1,Nzb2,Nzb3,Nzb4,Nzb5,Nzb6,Nzb7,Nzb8,Nzb9,ydee,ydec,ydgk,⟨1796,191,3,[.string (by8 [102,105,120]),.slice (some ⟨1257,0,none⟩) 17 CU,.slice (some ⟨1422,0,none⟩) 1 CU,.string (by8 [100,114,111,112]),.slice (some ⟨1495,0,none⟩) 7 CU,.slice (some ⟨1515,0,none⟩) 1 CU,.string (by8 [116,97,107,101]),.slice (some ⟨1588,0,none⟩) 7 CU,.slice (some ⟨1608,0,none⟩) 1 CU,.string (by8 [116,105,101]),.slice (some ⟨1766,0,none⟩) 17 CU,.slice (some ⟨1792,0,none⟩) 1 CU]⟩,⟨2925,3,1,[.int .i64 0,.int .i64 0]⟩,⟨2926,3,1,[.int .i64 0,.int .i64 0]⟩,yddv],.bool true,5627,[],4449⟩
def ydvg:List Fact:=[ybtr]
theorem ycgz:ybd ydvg:=ybd.seq (ybd.cons (f:=Nzm5) ydgs (ybd.cons (f:=Nzm6) ydbt (ybd.cons (f:=Nzm7) ydhz (ybd.cons (f:=Nzm8) ydbv ybd.nil)))) (by kernel_rfl)
end Ev
end
section
namespace Ev
/- selfstab/step.Step -/
def ybzc:Fact:=⟨53,[.agg #[.string (by8 [101,108,101,99,116,105,111,110]),.slice (some ⟨1083,0,none⟩) 2 CU,.slice (some ⟨1796,0,none⟩) 4 CU],.agg #[.slice (some ⟨9,0,none⟩) 2 CU,.slice (some ⟨4,0,none⟩) 2 2],.slice (some ⟨2927,0,none⟩) 2 2,.int .u32 1],2928,[Nzb0,⟨9,3,1,[.int .i64 0,.int .i64 1]⟩,⟨17,95,2,[.int .i64 1,.int .i64 1]⟩,⟨19,95,2,[.int .i64 0,.int .i64 1]⟩,⟨1083,87,6,[.string (by8 [104]),.int .i64 1,.int .i64 0,.int .i64 0,.int .i64 1,.int .i64 0,.string (by8 [108]),.int .i64 2,.int .i64 0,.int .i64 0,.int .i64 0,.int .i64 0]⟩,Nzb1,Nzb2,Nzb3,Nzb4,Nzb5,Nzb6,Nzb7,Nzb8,Nzb9,ydee,ydec,ydgk,⟨1796,191,3,[.string (by8 [102,105,120]),.slice (some ⟨1257,0,none⟩) 17 CU,.slice (some ⟨1422,0,none⟩) 1 CU,.string (by8 [100,114,111,112]),.slice (some ⟨1495,0,none⟩) 7 CU,.slice (some ⟨1515,0,none⟩) 1 CU,.string (by8 [116,97,107,101]),.slice (some ⟨1588,0,none⟩) 7 CU,.slice (some ⟨1608,0,none⟩) 1 CU,.string (by8 [116,105,101]),.slice (some ⟨1766,0,none⟩) 17 CU,.slice (some ⟨1792,0,none⟩) 1 CU]⟩,⟨2925,3,1,[.int .i64 0,.int .i64 0]⟩,⟨2926,3,1,[.int .i64 0,.int .i64 0]⟩,yddv],.tuple #[.slice (some ⟨4322,0,none⟩) 2 2,.int .i64 0],4413,[⟨4322,22,1,[.slice (some ⟨4406,0,none⟩) 2 CU,.slice (some ⟨4324,0,none⟩) 2 CU]⟩,⟨4324,3,1,[.int .i64 0,.int .i64 0]⟩,⟨4406,3,1,[.int .i64 0,.int .i64 1]⟩],2928⟩
def ydtf:List Fact:=[ybzc]
theorem yciw:ybd ydtf:=ybd.seq (ybd.cons (f:=yctk) (ybd.at_ ycfm 0 rfl) ybd.nil) (by kernel_rfl)
end Ev
end
section
namespace Ev
def Nzm0:Fact:=ymc.move [] 21
theorem ydfc:ycy zF Nzm0:=ycs (ybd.at_ ybcu 0 rfl) (by kernel_rfl)
end Ev
end
section
namespace Ev
open Go Go.RowKit
def nzF:List Fact:=[Nzm0,ybzc,ybtr]
theorem ydqj:ybd nzF:=(ybd.cons (f:=Nzm0) ydfc (ybd.cons (f:=ybzc) (ybd.at_ yciw 0 rfl) (ybd.cons (f:=ybtr) (ybd.at_ ycgz 0 rfl) ybd.nil)))
def nzH:Hooks:=⟨some 149,some 261,some 153,symB,[⟨1000000000000,nzF⟩],some 158⟩
theorem ydox:HooksOk zF nzH:=⟨fun g h=>(by cases h;exact yblg),fun g h=>(by cases h;exact yqu),fun g h=>(by cases h;exact ybxh),yck.cons ydqj yck.nil,fun g h=>(by cases h;exact yzo)⟩
def nzT:Option Value->Bool
 |some (.bool b)=>b
 |_=>false
theorem ydpr:∀{o:Option Value},nzT o=true->o=some (.bool true)
 |some (.bool true),_=>rfl
set_option maxRecDepth 1000000 in
theorem ybhb:outV (ev zF nzH 3000 (.call 46 [] mem0))=some (.bool true):=ydpr (by kernel_rfl)
theorem ydhl(w:World)(hG:GlW w):Calls zF 46 #[] w fun e w'=>e = .returned (.bool true)/\Below w.heap.size w w' :=
 yyv mix ysb ydox ybhb rfl rfl ⟨_,_,zCC,rfl⟩ w hG
end Ev
end
section
namespace Sh
open Go Ev Go.RowKit
theorem ybhw:Returns zF 46 [] (.b true):=by
 refine ytq ⟨_,_,zCC,rfl⟩ (fun _=>.b) (fun _=>.simple rfl) fun G m us hG hr φ M w us' hRl hs hv=>?_;cases hr
 cases hv
 exact ydhl w fun x hx=>(hRl.gl x hx).1
end Sh
end
section
namespace Ev
theorem yqv:∀l:List UInt8,eqBytes l l=true
 |[]=>rfl
 | x::l=>by
   show(zAF x.toNat x.toNat&&eqBytes l l)=true;rw[zZ,yqv l];rfl
theorem yxd{ρ:Nat->Nat}{a:Addr}(h:a.spot.isNone=true):eqAddr (renA ρ a) (renA ρ a)=true:=by
 rw[ykh];unfold eqAddr;simp only[zZ,h,Bool.and_self]
theorem ybux{ρ:Nat->Nat}{v:Value}(hf:ysd v=true)(h:eq1 v v=true):eq1 (ren1 ρ v) (ren1 ρ v)=true:=by
 unfold ysd at hf;split at hf
 .exact yxd hf
 .rename_i a n c
  show(eqAddr (renA ρ a) (renA ρ a)&&zAF n n&&zAF c c)=true;rw[yxd hf,zZ,zZ];rfl
 .rename_i h1 h2
  have:ren1 ρ v=v:=by
   unfold ren1;split
   .rename_i a;exact absurd rfl (h1 a)
   .rename_i a n c;exact absurd rfl (h2 a n c)
   .rfl
  rw[this];exact h
theorem ysl{ρ:Nat->Nat}:∀{l:List Value},l.all ysd=true->eqL1 l l=true->eqL1 (l.map (ren1 ρ)) (l.map (ren1 ρ))=true
 |[],_,_=>rfl
 | x::l,hf,h=>by
   simp only[zBZ,zG]at hf;have h:(eq1 x x&&eqL1 l l)=true:=h;rw[zG]at h;show(eq1 (ren1 ρ x) (ren1 ρ x)&&eqL1 (l.map (ren1 ρ)) (l.map (ren1 ρ)))=true;rw[ybux hf.1 h.1,ysl hf.2 h.2];rfl
theorem ybzd{v:Value}(h1:∀a,v = .agg a->False)(h2:∀g a c,v = .func (.func g) a c->False):eq2 v v=eq1 v v:=by
 cases v with
 |agg a=>exact(h1 a rfl).elim
 | func f a c=>cases f with
   |func g=>exact(h2 g a c rfl).elim
   |_=>rfl
 |_=>rfl
theorem ycbx{ρ:Nat->Nat}{v:Value}(h1:∀a,v = .agg a->False)(h2:∀g a c,v = .func (.func g) a c->False)(hf:ysd v=true):ren2 ρ v=ren1 ρ v:=by
 cases v with
 |agg a=>exact(h1 a rfl).elim
 | func f a c=>cases f with
   |func g=>exact(h2 g a c rfl).elim
   |_=>cases hf
 |_=>rfl
theorem yyp{ρ:Nat->Nat}{v:Value}(hf:ysd v=true):(∀a,ren1 ρ v = .agg a->False)/\∀g a c,ren1 ρ v = .func (.func g) a c->False:=by
 cases v with
 |agg a=>cases hf
 |func f a c=>cases hf
 |pointer p=>cases p<;>exact⟨fun _ h=>(by cases h),fun _ _ _ h=>(by cases h)⟩
 |slice p n c=>cases p<;>exact⟨fun _ h=>(by cases h),fun _ _ _ h=>(by cases h)⟩
 |_=>exact⟨fun _ h=>(by cases h),fun _ _ _ h=>(by cases h)⟩
theorem ybsw{ρ:Nat->Nat}{v:Value}(hf:ylo v=true)(h:eq2 v v=true):eq2 (ren2 ρ v) (ren2 ρ v)=true:=by
 unfold ylo at hf;split at hf
 .rename_i a
  have h:eqL1 a.toList a.toList=true:=h;show eqL1 (a.toList.map (ren1 ρ)).toArray.toList (a.toList.map (ren1 ρ)).toArray.toList=true;exact ysl hf h
 .rename_i g a c
  rw[zG]at hf;have h:(zAF g g&&eqL1 a.toList a.toList&&eqL1 c.toList c.toList)=true:=h;simp only[zG]at h;show(zAF g g&&eqL1 (a.toList.map (ren1 ρ)).toArray.toList (a.toList.map (ren1 ρ)).toArray.toList&&eqL1 (c.toList.map (ren1 ρ)).toArray.toList (c.toList.map (ren1 ρ)).toArray.toList)=true;rw[zZ,ysl hf.1 h.1.2,ysl hf.2 h.2];rfl
 .rename_i h1 h2
  rw[ybzd h1 h2]at h;rw[ycbx h1 h2 hf,ybzd (yyp hf).1 (yyp hf).2];exact ybux hf h
def reflB(b:BlkL):Bool:=b.l.all (fun v=>eq2 v v&&ylo v)&&zAL b.l.length 1000000
theorem ytk{ρ:Nat->Nat}{b:BlkL}(h:reflB b=true):∀v∈(b.ren ρ).l,eq2 v v=true:=by
 unfold reflB at h;rw[zG]at h;intro v hv;obtain⟨x,hx,rfl⟩:=List.mem_map.1 hv;have:=List.all_eq_true.1 h.1 x hx;rw[zG]at this;exact ybsw this.2 this.1
theorem ync{l:List Value}(h:∀v∈l,eq2 v v=true):∀(k:List Value) (n:Nat),l.drop n=k->cellsAre (tOf l) n k=true
 |[],_,_=>rfl
 | v :: k,n,e=>by
   have hn:n<l.length:=by
    rcases Nat.lt_or_ge n l.length with q|q
    .exact q
    .rw[List.drop_eq_nil_of_le q]at e;cases e
   rw[List.drop_eq_getElem_cons hn]at e
   injection e with e1 e2
   unfold cellsAre;rw[ycq,zT hn,e1];simp only;rw[h v (by rw[<-e1];exact zN _),ync h k (n+1) e2]
   rfl
theorem ypr{m:Mem}{b:BlkL}(hg:m.b.get b.i=some b.blk)(h:∀v∈b.l,eq2 v v=true)(hl:zAL b.l.length 1000000=true):blkIs m b=true:=by
 unfold blkIs;rw[hg];show(zAF b.l.length b.l.length&&zAF b.e b.e&&zAF b.z b.z&&zAL b.l.length 1000000&&cellsAre (tOf b.l) 0 b.l)=true;rw[zZ,zZ,zZ,hl,ync h b.l 0 (List.drop_zero ..)];rfl
theorem yub:∀{l:List BlkL}{t:T ABlk}{i:Nat},(∀b∈l,b.i≠i)->(blksT t l).get i=t.get i
 |[],_,_,_=>rfl
 | b::l,t,i,h=>by
   unfold blksT;rw[T.strict_eq,yub fun c hc=>h c (zAI _ hc),T.set_at,if_neg (fun e=>h b zY e.symm)]
theorem ysq:∀{l:List BlkL}{t:T ABlk},yhe (l.map (·.i))=true->∀b∈l,(blksT t l).get b.i=some b.blk
 |[],_,_,b,hb=>by cases hb
 | c :: l,t,h,b,hb=>by
   have h:(!(l.map (·.i)).elem c.i&&yhe (l.map (·.i)))=true:=h;rw[zG,zAC]at h;unfold blksT;rw[T.strict_eq];rcases List.mem_cons.1 hb with e|hb
   .subst e;rw[yub fun d hd e=>?_,T.set_at,if_pos rfl];have:(l.map (·.i)).elem b.i=true:=List.elem_eq_true_of_mem (List.mem_map.2 ⟨d,hd,e⟩);rw[this]at h;cases h.1
   .exact ysq h.2 b hb
theorem ymy:∀{l:List Nat},l.Nodup->yhe l=true
 |[],_=>rfl
 | x :: l,h=>by
   rw[zAY]at h;show(!(l.elem x)&&yhe l)=true
   have:l.elem x=false:=by
    cases hq:l.elem x with
    |false=>rfl
    |true=>exact absurd (by simpa using hq) h.1
   rw[this,ymy h.2];rfl
theorem yyz:∀{l:List Nat},yhe l=true->l.Nodup
 |[],_=>zBU
 | x::l,h=>by
   have h:(!(l.elem x)&&yhe l)=true:=h;rw[zG,zAC]at h;rw[zAY];refine⟨fun hm=>?_,yyz h.2⟩;have:l.elem x=true:=by simpa using hm
   rw[this]at h;cases h.1
theorem ybjs{d:Nat}:∀{l:List BlkL}{k:List Nat},(l.map (·.i)).Nodup->l.length=k.length->l.map (fun b=>ybav l k d b.i)=k
 |[],[],_,_=>rfl
 | b :: l,t::k,hn,hl=>by
   rw[zBB,zAY]at hn;have ih:=ybjs (d:=d) hn.2 (by simpa using hl)
   rw[zBB];have e1:ybav (b::l) (t::k) d b.i=t:=by unfold ybav;rw[zZ];rfl
   rw[e1];congr 1;refine zCB (zAM fun c hc=>?_) ih;show(bif zAF b.i c.i then t else ybav l k d c.i)=_
   have:zAF b.i c.i=false:=by
    cases hq:zAF b.i c.i with
    |false=>rfl
    |true=>exact absurd (List.mem_map.2 ⟨c,hc,(Nat.eq_of_beq_eq_true hq).symm⟩) hn.1
   rw[this];rfl
 |[],_::_,_,h=>by cases h
 |_::_,[],_,h=>by cases h
def Fact.still(f:Fact):Bool:=zBH f.next0 f.low&&f.args.all ylo&&ybzj f.v&&f.pre.all (fun b=>zAL b.i f.next0&&reflB b)&&yhe (f.pre.map (·.i))&&f.post.all (fun b=>zBH f.next0 b.i&&zAL b.i f.next1&&reflB b)&&yhe (f.post.map (·.i))&&zBH f.next0 f.next1
theorem ycwp{a b:Nat}(h:zAL a b=true):a<b:=zAX (Nat.lt_succ_self _) (zAB h)
theorem ybkl{a b:Nat}(h:a<b):zAL a b=true:=zI h
theorem ymb{f:Fact}(h:f.still=true):f.next0<=f.low/\(f.args.all ylo=true/\ybzj f.v=true)/\(∀b∈f.pre,b.i<f.next0/\reflB b=true)/\(f.pre.map (·.i)).Nodup/\(∀b∈f.post,f.next0<=b.i/\b.i<f.next1/\reflB b=true)/\(f.post.map (·.i)).Nodup/\f.next0<=f.next1:=by
 unfold Fact.still at h;simp only[zG]at h;obtain⟨⟨⟨⟨⟨⟨⟨h1,h2⟩,h3⟩,h4⟩,h5⟩,h6⟩,h7⟩,h8⟩:=h;refine⟨zAB h1,⟨h2,h3⟩,fun b hb=>?_,yyz h5,fun b hb=>?_,yyz h7,zAB h8⟩
 .have:=List.all_eq_true.1 h4 b hb;rw[zG]at this;exact⟨ycwp this.1,this.2⟩
 .have:=List.all_eq_true.1 h6 b hb;simp only[zG]at this;exact⟨zAB this.1.1,ycwp this.1.2,this.2⟩
theorem ycbs{f:Fact}{tgt:List Nat}{n0:Nat}(hp:∀b∈f.pre,b.i<f.next0/\reflB b=true)(hn:(f.pre.map (·.i)).Nodup)(hl:f.pre.length=tgt.length):f.pre.map (fun b=>f.rho tgt n0 b.i)=tgt:=by
 refine zCB (zAM fun b hb=>?_) (ybjs (d:=Nat.add n0 (Nat.sub f.next1 f.next0)) hn hl);unfold Fact.rho;have h1:=(hp b hb).1
 have:(zBH f.next0 b.i&&zAL b.i f.next1)=false:=by
  rw[Bool.and_eq_false_iff];left
  cases hq:zBH f.next0 b.i with
  |false=>rfl
  |true=>have:=zAB hq;omega
 rw[this];rfl
theorem ybls{f:Fact}{tgt:List Nat}{n0 i:Nat}(h1:f.next0<=i)(h2:i<f.next1):f.rho tgt n0 i=i-f.next0+n0:=by
 unfold Fact.rho;rw[zBK,if_pos (by rw[zI h1,ybkl h2];rfl)]
 rfl
theorem yxl{P:Program}{f:Fact}{tgt:List Nat}{n0:Nat}(hok:ycy P f)(hs:f.still=true)(hl:f.pre.length=tgt.length)(hn:tgt.Nodup)(hlt:∀t∈tgt,t<n0):ycy P (f.move tgt n0):=by
 refine ycs hok ?_;obtain⟨s1,⟨s2,s3⟩,s4,s5,s6,s7,s8⟩:=ymb hs
 have hpi:(f.move tgt n0).pre.map (·.i)=tgt:=by
  show(f.pre.map (BlkL.ren (f.rho tgt n0))).map (·.i)=tgt;rw[zBG];exact zCB (zAM fun b hb=>b.yhm) (ycbs (n0:=n0) s4 s5 hl)
 have hqi:yhe ((f.move tgt n0).post.map (·.i))=true:=by
  refine ymy ?_;show((f.post.map (BlkL.ren (f.rho tgt n0))).map (·.i)).Nodup
  have e:(f.post.map (BlkL.ren (f.rho tgt n0))).map (·.i)=(f.post.map (·.i)).map (fun i=>i-f.next0+n0):=by
   rw[zBG,zBG];refine zAM fun b hb=>?_;show(b.ren (f.rho tgt n0)).i=b.i-f.next0+n0;rw[b.yhm,ybls (s6 b hb).1 (s6 b hb).2.1]
  rw[e];unfold List.Nodup at s7 ⊢;rw[zBI];refine List.Pairwise.imp_of_mem (fun {x y} hx hy h=>?_) s7;obtain⟨bx,hbx,rfl⟩:=List.mem_map.1 hx;obtain⟨by_,hby,rfl⟩:=List.mem_map.1 hy;have:=(s6 bx hbx).1;have:=(s6 by_ hby).1;omega
 have hpre:yhe ((f.move tgt n0).pre.map (·.i))=true:=by rw[hpi];exact ymy hn
 unfold Fact.moves;simp only[zG];refine⟨⟨⟨⟨⟨⟨⟨⟨zI s1,s2⟩,s3⟩,?_⟩,?_⟩,hpre⟩,?_⟩,?_⟩,zI s8⟩
 .refine List.all_eq_true.2 fun b hb=>?_;have:=(s4 b hb).2;unfold reflB at this;rw[zG]at this;rw[ybkl (s4 b hb).1,zO];exact List.all_eq_true.2 fun v hv=>by have:=List.all_eq_true.1 this.1 v hv;rw[zG]at this;exact this.2
 .refine List.all_eq_true.2 fun b hb=>?_;have:=(s6 b hb).2.2;unfold reflB at this;rw[zG]at this;rw[ybkl (s6 b hb).2.1,zO];exact List.all_eq_true.2 fun v hv=>by have:=List.all_eq_true.1 this.1 v hv;rw[zG]at this;exact this.2
 .refine List.all_eq_true.2 fun b' hb'=>?_;obtain⟨b,hb,rfl⟩:=List.mem_map.1 hb';have h2:=(s4 b hb).2;have h3:(b.ren (f.rho tgt n0)).i∈(f.move tgt n0).pre.map (·.i):=List.mem_map.2 ⟨_,hb',rfl⟩;rw[hpi]at h3;rw[ybkl (hlt _ h3),zO];refine ypr (ysq hpre _ hb') (ytk h2) ?_;show zAL (b.l.map _).length 1000000=true;rw[zAN];unfold reflB at h2;rw[zG]at h2;exact h2.2
 .refine List.all_eq_true.2 fun b' hb'=>?_;obtain⟨b,hb,rfl⟩:=List.mem_map.1 hb';have h2:=(s6 b hb).2.2;refine ypr (ysq hqi _ hb') (ytk h2) ?_;show zAL (b.l.map _).length 1000000=true;rw[zAN];unfold reflB at h2;rw[zG]at h2;exact h2.2
end Ev
end
end Go.Proofs.YtiejahgklcjhkaaGreatDoor
