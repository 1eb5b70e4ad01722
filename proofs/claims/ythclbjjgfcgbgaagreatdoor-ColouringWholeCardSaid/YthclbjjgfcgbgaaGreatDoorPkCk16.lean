/- Joined. -/
import Derived.Test.YthclbjjgfcgbgaaGreatDoorPkCk14
set_option linter.unusedSimpArgs false
set_option linter.unusedVariables false
open List renaming mem_cons_of_mem->zA,mem_cons_self->zC,take_length->zI,length_append->zJ,take_succ_eq_append_getElem->zL,take_zero->zN,range->zQ,countP_cons->zT,map_append->zU,append_nil->zV,length_map->zW,filter_append->zAA,map_nil->zAB,count_append->zAC,filter_cons->zAD,getD->zAQ
open Int renaming natCast_mul->zB,toNat_natCast->zG,add_mul->zK,natCast_add->zM,mul_assoc->zAE,sub_self->zAG,mul_comm->zAH,sub_mul->zAN
open Classical renaming byContradiction->zD
open Nat renaming mul_comm->zF,mod_eq_of_lt->zH,mul_assoc->zO,lt_or_ge->zS,div_div_eq_div_mul->zX,mul_le_mul_right->zY,succ_mul->zAF,mul_pos->zAI,mod_one->zAJ,mod_mul->zAK,add_mul->zAL,mul_one->zAM,le_refl->zAO,mod_lt->zAP
open Bool renaming false_eq_true->zZ
open Go
namespace Go.Proofs.YthclbjjgfcgbgaaGreatDoor
section
namespace Sh
open Go Ev
def ydnn:LO:=[o3 (.mv (.const (.slice none 0 0))) 4 0]
def ydpc:LO:=[mv' 0 8 0,ln' 8 9 1,o3 (.mk 22 1 24 [.a (.slice none 0 0)] (.tmp 9) (.tmp 9)) 10 3,mv' 10 5 7]
def ydmf:LO:=[mv' 0 11 0,ln' 11 12 1,o3 (.mv (ci' 0)) 13 0]
def yddq:LO:=[bn' .lss 13 12 14 0]
def ydnl:LO:=[mv' 13 15 0,mv' 15 6 1]
def ydrg:LO:=[mv' 5 16 0,mv' 6 17 0,mv' 0 18 0,mv' 6 19 0,ix' 1 18 19 20 12,ld' false 1 20 21 28,ln' 21 22 60,o3 (.mk 3 1 8 [.i .i64 0] (.tmp 22) (.tmp 22)) 23 124,ix' 1 16 17 24 255,o0 (.store 1 (.tmp 24) (.tmp 23)) 511]
def ydjv:LO:=[mv' 0 25 0,mv' 6 26 0,ix' 1 25 26 27 3,ld' false 1 27 28 7,ln' 28 29 15,o3 (.mv (ci' 0)) 30 0]
def ydbj:LO:=[bn' .lss 30 29 31 0]
def ydou:LO:=[mv' 30 32 0,mv' 32 7 1]
def ydtj:LO:=[mv' 5 33 0,mv' 6 34 0,ix' 1 33 34 35 3,ld' false 1 35 36 7,mv' 7 37 0,mv' 1 38 0,mv' 6 39 0,mv' 7 40 0,o3 (.call (.tmp 38) [(.tmp 39),(.tmp 40)]) 41 224,ix' 1 36 37 42 511,o0 (.store 1 (.tmp 42) (.tmp 41)) 1023]
def ycnl:LO:=[o3 (.bin .add (.tmp 30) (ci' 1)) 43 0,mv' 43 30 1]
def ycjp:LO:=[o3 (.bin .add (.tmp 13) (ci' 1)) 44 0,mv' 44 13 1]
def ycjm:LO:=[mv' 5 45 0,mv' 45 4 1]
def c65:SC:=(.seq (.reg false ydnn) (.seq (.reg false ydpc) (.seq (.seq (.reg false ydmf) (.block 0 (.loop (.seq (.reg false yddq) (.seq (.cond (.tmp 14) .skip (.exit 0)) (.seq (.block 1 (.seq (.reg false ydnl) (.seq (.reg false ydrg) (.seq (.reg false ydjv) (.block 2 (.loop (.seq (.reg false ydbj) (.seq (.cond (.tmp 31) .skip (.exit 2)) (.seq (.block 3 (.seq (.reg false ydou) (.reg true ydtj))) (.reg false ycnl)))))))))) (.reg false ycjp))))))) (.seq (.reg false ycjm) .ret))))
theorem yddl:FnM 65 c65 [.t 4]:=fn_m Tryz.func65 (by kernel_rfl) (by kernel_rfl)
def ydhi:LO:=[o3 (.box 32 (.tmp 0)) 2 0,o3 (.box 27 (.tmp 1)) 3 0,o3 (.mv (.const (.slice none 0 0))) 4 0,o3 (.mv (ci' 0)) 5 4]
def ydka:LO:=[ld' true 3 2 8 0,ld' true 2 3 9 0,cl' 62 [8,9] 10 3,mv' 10 6 7]
def ydpx:LO:=[mv' 6 11 0,o3 (.bin .neq (.tmp 11) (ci' 0)) 12 1]
def yduo:LO:=[mv' 6 13 0,o3 (.mv (.const (.slice none 0 0))) 4 0,mv' 13 5 3]
def ydii:LO:=[ld' true 3 2 14 0,ld' true 2 3 15 0,cl' 63 [14,15] 16 3,o3 (.alloc 84 1 [.a (.slice none 0 0)]) 7 0,o0 (.store 1 (.tmp 7) (.tmp 16)) 15]
def ydmd:LO:=[ld' false 1 7 17 0,o3 (.mkfn 125 [] [(.tmp 7)]) 18 0,cl' 65 [17,18] 19 3,mv' 19 4 7,o3 (.mv (ci' 0)) 5 15]
def c59:SC:=(.seq (.reg false ydhi) (.seq (.seq (.reg false ydka) (.seq (.reg false ydpx) (.cond (.tmp 12) (.seq (.reg false yduo) .ret) .skip))) (.seq (.reg false ydii) (.seq (.reg false ydmd) .ret))))
theorem yddj:FnM 59 c59 [.t 4,.t 5]:=fn_m Tryz.func59 (by kernel_rfl) (by kernel_rfl)
def ycjx:LO:=[o3 (.mv (ci' 0)) 5 0]
def ycwe:LO:=[ld' false 1 2 6 0,mv' 0 7 0,ix' 1 6 7 8 3,ld' false 1 8 9 7,mv' 1 10 0,ix' 2 9 10 11 31,o3 (.idxA 2 1 (.tmp 11) (ci' 0)) 12 63,ld' false 1 12 13 127,mv' 13 5 255]
def c125:SC:=(.seq (.reg false ycjx) (.seq (.reg false ycwe) .ret))
theorem ycxz:Fn 125 c125 [.t 5]:=fn_0 Tryz.func125 (by kernel_rfl) (by kernel_rfl)
def ydmz:LO:=[o3 (.box 32 (.tmp 0)) 2 0,o3 (.box 27 (.tmp 1)) 3 0,o3 (.mv (ci' 0)) 4 0,o3 (.mv (ci' 0)) 5 4]
def ydle:LO:=[ld' true 3 2 7 0,ld' true 2 3 8 0,cl' 62 [7,8] 9 3,mv' 9 6 7]
def ydiz:LO:=[mv' 6 10 0,o3 (.bin .neq (.tmp 10) (ci' 0)) 11 1]
def ydwq:LO:=[mv' 6 12 0,o3 (.mv (ci' 0)) 4 0,mv' 12 5 3]
def ydqq:LO:=[ld' true 3 2 13 0,ld' true 2 3 14 0,cl' 63 [13,14] 15 3,cl' 64 [15] 16 7,xt' 16 0 17 15,xt' 16 1 18 15,mv' 17 4 63,mv' 18 5 127]
def c56:SC:=(.seq (.reg false ydmz) (.seq (.seq (.reg false ydle) (.seq (.reg false ydiz) (.cond (.tmp 11) (.seq (.reg false ydwq) .ret) .skip))) (.seq (.reg false ydqq) .ret)))
theorem ydnt:Fn 56 c56 [.t 4,.t 5]:=fn_0 Tryz.func56 (by kernel_rfl) (by kernel_rfl)
def ydmi:LO:=[o3 (.mv (ci' 0)) 2 0,o3 (.mv (ci' 0)) 3 1]
def ydgv:LO:=[o3 (.mv (ci' 1)) 4 0]
def ydot:LO:=[mv' 0 9 0,ln' 9 10 1,o3 (.mv (ci' 0)) 11 0]
def ydeb:LO:=[bn' .lss 11 10 12 0]
def ydob:LO:=[ix' 1 9 11 13 0,ld' false 1 13 14 1,mv' 14 6 3]
def ydtg:LO:=[mv' 6 15 0,ln' 15 16 1,o3 (.mv (ci' 0)) 17 0]
def ycxh:LO:=[bn' .lss 17 16 18 0]
def ydqw:LO:=[ix' 2 15 17 19 0,ld' true 2 19 20 1,o3 (.alloc 91 1 [.i .i64 0,.i .i64 0]) 8 0,o0 (.store 2 (.tmp 8) (.tmp 20)) 7]
def ydmh:LO:=[mv' 4 21 0,o3 (.idxA 2 1 (.tmp 8) (ci' 1)) 22 0,ld' false 1 22 23 2,o3 (.idxA 2 1 (.tmp 8) (ci' 0)) 24 0,ld' false 1 24 25 8,bn' .sub 23 25 26 30,o3 (.bin .add (.tmp 26) (ci' 1)) 27 62,bn' .mul 21 27 28 127,mv' 28 4 255]
def ydry:LO:=[mv' 4 29 0,o3 (.bin .gtr (.tmp 29) (ci' 32768)) 30 1]
def ydql:LO:=[o3 (.mv (ci' 0)) 2 0,o3 (.mv (ci' 3)) 3 1]
def yctd:LO:=[o3 (.bin .add (.tmp 17) (ci' 1)) 31 0,mv' 31 17 1]
def yckl:LO:=[o3 (.bin .add (.tmp 11) (ci' 1)) 32 0,mv' 32 11 1]
def ycqz:LO:=[mv' 4 33 0,mv' 33 2 1,o3 (.mv (ci' 0)) 3 3]
def c64:SC:=(.seq (.reg false ydmi) (.seq (.reg false ydgv) (.seq (.seq (.reg false ydot) (.block 0 (.loop (.seq (.reg false ydeb) (.seq (.cond (.tmp 12) .skip (.exit 0)) (.seq (.block 1 (.seq (.reg false ydob) (.seq (.reg false ydtg) (.block 2 (.loop (.seq (.reg false ycxh) (.seq (.cond (.tmp 18) .skip (.exit 2)) (.seq (.block 3 (.seq (.reg false ydqw) (.seq (.reg false ydmh) (.seq (.reg false ydry) (.cond (.tmp 30) (.seq (.reg false ydql) .ret) .skip))))) (.reg false yctd))))))))) (.reg false yckl))))))) (.seq (.reg false ycqz) .ret))))
theorem ydlr:Fn 64 c64 [.t 2,.t 3]:=fn_0 Tryz.func64 (by kernel_rfl) (by kernel_rfl)
def ydmg:LO:=[o3 (.box 32 (.tmp 0)) 3 0,o3 (.box 27 (.tmp 1)) 4 0,o3 (.box 3 (.tmp 2)) 5 0,o3 (.mv (.const (.slice none 0 0))) 6 0,o3 (.mv (ci' 0)) 7 8]
def ydjt:LO:=[ld' true 3 3 18 0,ld' true 2 4 19 0,cl' 62 [18,19] 20 3,mv' 20 8 7]
def ydpr:LO:=[mv' 8 21 0,o3 (.bin .neq (.tmp 21) (ci' 0)) 22 1]
def ydvx:LO:=[mv' 8 23 0,o3 (.mv (.const (.slice none 0 0))) 6 0,mv' 23 7 3]
def ydhy:LO:=[ld' true 3 3 24 0,ld' true 2 4 25 0,cl' 63 [24,25] 26 3,o3 (.alloc 84 1 [.a (.slice none 0 0)]) 9 0,o0 (.store 1 (.tmp 9) (.tmp 26)) 15]
def ydqk:LO:=[ld' false 1 9 28 0,cl' 64 [28] 29 1,mv' 29 27 3,xt' 27 0 30 7,xt' 27 1 31 7,mv' 30 10 15,mv' 31 11 63]
def ydub:LO:=[mv' 11 32 0,o3 (.bin .neq (.tmp 32) (ci' 0)) 33 1]
def yduw:LO:=[mv' 11 34 0,o3 (.mv (.const (.slice none 0 0))) 6 0,mv' 34 7 3]
def ydqe:LO:=[ld' false 1 5 35 0,o3 (.bin .lss (.tmp 35) (ci' 0)) 36 1,mv' 36 37 3,⟨.load false 1 (.tmp 5),some 38,some (37,false),7⟩,⟨.mv (.tmp 10),some 39,some (37,false),7⟩,⟨.bin .geq (.tmp 38) (.tmp 39),some 40,some (37,false),31⟩,o3 (.pick (.tmp 37) (.const (.bool true)) (.tmp 40)) 41 63]
def ydva:LO:=[o3 (.mv (.const (.slice none 0 0))) 6 0,o3 (.mv (ci' 2)) 7 1]
def ycmi:LO:=[ld' false 1 9 42 0,o3 (.mkfn 66 [] [(.tmp 9)]) 43 0,cl' 65 [42,43] 44 3,o3 (.alloc 46 1 [.a (.slice none 0 0)]) 12 0,o0 (.store 1 (.tmp 12) (.tmp 44)) 15]
def yctp:LO:=[ld' false 1 9 45 0,cl' 67 [45] 46 1]
def ycmd:LO:=[o3 (.alloc 3 1 [.i .i64 0]) 13 0,o0 (.store 1 (.tmp 13) (.tmp 47)) 1]
def ycmq:LO:=[mv' 48 14 0]
def ycqk:LO:=[mv' 14 49 0,cl' 68 [49] 50 1]
def yctu:LO:=[mv' 51 15 0]
def ycvo:LO:=[o3 (.alloc 91 1 [.i .i64 0,.i .i64 0]) 16 0,o0 (.store 2 (.tmp 16) (.tmp 52)) 1]
def ycly:LO:=[o3 (.idxA 2 1 (.tmp 16) (ci' 1)) 53 0,ld' false 1 53 54 1,o3 (.idxA 2 1 (.tmp 16) (ci' 0)) 55 0,ld' false 1 55 56 4,bn' .sub 54 56 57 15,o3 (.bin .add (.tmp 57) (ci' 1)) 58 31,mv' 58 17 63]
def yclc:LO:=[ld' false 1 12 59 0,ld' false 1 13 60 0,ix' 1 59 60 61 3,ld' false 1 61 62 7,mv' 15 63 0,ix' 1 62 63 64 31,ld' false 1 64 65 63,ld' false 1 5 66 0,mv' 17 67 0,bn' .rem 66 67 68 384,bn' .add 65 68 69 1023,ix' 1 62 63 70 2047,o0 (.store 1 (.tmp 70) (.tmp 69)) 4095]
def ycty:LO:=[ld' false 1 5 71 0,mv' 17 72 0,bn' .quo 71 72 73 3,o0 (.store 1 (.tmp 5) (.tmp 73)) 7]
def ycvc:LO:=[ld' false 1 12 74 0,mv' 74 6 1,o3 (.mv (ci' 0)) 7 3]
def c15:SC:=(.seq (.reg false ydmg) (.seq (.seq (.reg false ydjt) (.seq (.reg false ydpr) (.cond (.tmp 22) (.seq (.reg false ydvx) .ret) .skip))) (.seq (.reg false ydhy) (.seq (.reg false ydqk) (.seq (.seq (.reg false ydub) (.cond (.tmp 33) (.seq (.reg false yduw) .ret) .skip)) (.seq (.seq (.reg false ydqe) (.cond (.tmp 41) (.seq (.reg false ydva) .ret) .skip)) (.seq (.reg false ycmi) (.seq (.seq (.reg false yctp) (.block 0 (.range (.tmp 46) [47,48] (.seq (.reg false ycmd) (.reg false ycmq)) (.block 1 (.seq (.reg false ycqk) (.block 2 (.range (.tmp 50) [51,52] (.seq (.reg false yctu) (.reg false ycvo)) (.block 3 (.seq (.reg false ycly) (.seq (.reg true yclc) (.reg false ycty))))))))))) (.seq (.reg false ycvc) .ret)))))))))
theorem yczn:FnU 15 c15 [.t 6,.t 7]:=fn_u Tryz.func15 (by kernel_rfl) (by kernel_rfl)
def ydhk:LO:=[o3 (.mv (ci' 0)) 5 0]
def ydnv:LO:=[ld' false 1 2 6 0,mv' 0 7 0,ix' 1 6 7 8 3,ld' false 1 8 9 7,mv' 1 10 0,ix' 2 9 10 11 31,o3 (.idxA 2 1 (.tmp 11) (ci' 0)) 12 63,ld' false 1 12 13 127,mv' 13 5 255]
def c66:SC:=(.seq (.reg false ydhk) (.seq (.reg false ydnv) .ret))
theorem ydhu:Fn 66 c66 [.t 5]:=fn_0 Tryz.func66 (by kernel_rfl) (by kernel_rfl)
def ydls:LO:=[o3 (.box 46 (.tmp 1)) 3 0]
def ydiv:LO:=[mv' 0 8 0,cl' 67 [8] 9 1]
def ydku:LO:=[o3 (.alloc 3 1 [.i .i64 0]) 4 0,o0 (.store 1 (.tmp 4) (.tmp 10)) 1]
def ydpn:LO:=[mv' 11 5 0]
def yduh:LO:=[mv' 5 12 0,cl' 68 [12] 13 1]
def ydfm:LO:=[mv' 14 6 0]
def yddu:LO:=[o3 (.alloc 91 1 [.i .i64 0,.i .i64 0]) 7 0,o0 (.store 2 (.tmp 7) (.tmp 15)) 1]
def ydbg:LO:=[ld' false 1 3 16 0,ld' false 1 4 17 0,ix' 1 16 17 18 3,ld' false 1 18 19 7,mv' 6 20 0,ix' 1 19 20 21 31,ld' false 1 21 22 63,o3 (.idxA 2 1 (.tmp 7) (ci' 1)) 23 0,ld' false 1 23 24 128,bn' .lss 22 24 25 511]
def ydqf:LO:=[ld' false 1 3 26 0,ld' false 1 4 27 0,ix' 1 26 27 28 3,ld' false 1 28 29 7,mv' 6 30 0,ix' 1 29 30 31 31,ld' false 1 31 32 63,o3 (.bin .add (.tmp 32) (ci' 1)) 33 127,ix' 1 29 30 34 255,o0 (.store 1 (.tmp 34) (.tmp 33)) 511]
def ydlu:LO:=[ld' false 1 3 35 0,ld' false 1 4 36 0,ix' 1 35 36 37 3,ld' false 1 37 38 7,mv' 6 39 0,o3 (.idxA 2 1 (.tmp 7) (ci' 0)) 40 0,ld' false 1 40 41 32,ix' 1 38 39 42 127,o0 (.store 1 (.tmp 42) (.tmp 41)) 255]
def c61:SC:=(.seq (.reg false ydls) (.seq (.reg false ydiv) (.block 0 (.range (.tmp 9) [10,11] (.seq (.reg false ydku) (.reg false ydpn)) (.block 1 (.seq (.reg false yduh) (.block 2 (.range (.tmp 13) [14,15] (.seq (.reg false ydfm) (.reg false yddu)) (.block 3 (.seq (.seq (.reg true ydbg) (.cond (.tmp 25) (.seq (.reg false ydqf) .ret) .skip)) (.reg true ydlu)))))))))))
theorem ydaq:FnM 61 c61 []:=fn_m Tryz.func61 (by kernel_rfl) (by kernel_rfl)
def ydim:LO:=[o3 (.box 84 (.tmp 0)) 1 0,o3 (.mv (.const (.nilFunc))) 2 0]
def ydjd:LO:=[o3 (.mkfn 133 [] [(.tmp 1)]) 3 0,mv' 3 2 1]
def c67:SC:=(.seq (.reg false ydim) (.seq (.reg false ydjd) .ret))
theorem ydgq:Fn 67 c67 [.t 2]:=fn_0 Tryz.func67 (by kernel_rfl) (by kernel_rfl)
def ycqs:LO:=[o3 (.box 41 (.tmp 0)) 1 0,o3 (.mv (.const (.bool false))) 2 0]
def ycrb:LO:=[fa' 0 1 1 6 0,ld' false 1 6 7 1,ln' 7 8 3,mv' 8 3 7]
def ycqq:LO:=[mv' 3 9 0,o3 (.bin .lss (.tmp 9) (ci' 1)) 10 1,mv' 10 11 3,⟨.mv (.tmp 3),some 12,some (11,false),7⟩,⟨.bin .gtr (.tmp 12) (ci' 32768),some 13,some (11,false),15⟩,o3 (.pick (.tmp 11) (.const (.bool true)) (.tmp 13)) 14 31,mv' 14 15 63,⟨.faddr 1 1 (.tmp 1),some 16,some (15,false),127⟩,⟨.load false 1 (.tmp 16),some 17,some (15,false),255⟩,⟨.len (.tmp 17),some 18,some (15,false),511⟩,⟨.mv (.tmp 3),some 19,some (15,false),127⟩,⟨.bin .neq (.tmp 18) (.tmp 19),some 20,some (15,false),2047⟩,o3 (.pick (.tmp 15) (.const (.bool true)) (.tmp 20)) 21 4095]
def ydkg:LO:=[o3 (.mv (.const (.bool false))) 2 0]
def ycit:LO:=[o3 (.mv (ci' 0)) 4 0]
def ycur:LO:=[mv' 3 22 0,o3 (.mv (ci' 0)) 23 0]
def ybxp:LO:=[bn' .lss 23 22 24 0]
def yckq:LO:=[mv' 23 25 0,mv' 25 5 1]
def ycta:LO:=[mv' 4 26 0,fa' 1 1 1 27 0,ld' false 1 27 28 2,mv' 5 29 0,ix' 1 28 29 30 14,ld' false 1 30 31 30,ln' 31 32 62,bn' .add 26 32 33 127,mv' 33 4 255]
def yctj:LO:=[mv' 4 34 0,o3 (.bin .gtr (.tmp 34) (ci' 262144)) 35 1,mv' 35 36 3,⟨.faddr 0 1 (.tmp 1),some 37,some (36,false),7⟩,⟨.load false 1 (.tmp 37),some 38,some (36,false),15⟩,⟨.mv (.tmp 5),some 39,some (36,false),7⟩,⟨.idx 1 (.tmp 38) (.tmp 39),some 40,some (36,false),63⟩,⟨.load false 1 (.tmp 40),some 41,some (36,false),127⟩,⟨.faddr 1 1 (.tmp 1),some 42,some (36,false),7⟩,⟨.load false 1 (.tmp 42),some 43,some (36,false),263⟩,⟨.mv (.tmp 5),some 44,some (36,false),7⟩,⟨.idx 1 (.tmp 43) (.tmp 44),some 45,some (36,false),1799⟩,⟨.load false 1 (.tmp 45),some 46,some (36,false),3847⟩,⟨.mv (.tmp 3),some 47,some (36,false),7⟩,⟨.call (.func 180) [(.tmp 41),(.tmp 46),(.tmp 47)],some 48,some (36,false),16383⟩,⟨.un .not (.tmp 48),some 49,some (36,false),32767⟩,o3 (.pick (.tmp 36) (.const (.bool true)) (.tmp 49)) 50 65535]
def ydfa:LO:=[o3 (.mv (.const (.bool false))) 2 0]
def ybzd:LO:=[o3 (.bin .add (.tmp 23) (ci' 1)) 51 0,mv' 51 23 1]
def ybzk:LO:=[o3 (.mv (.const (.bool true))) 2 0]
def c136:SC:=(.seq (.reg false ycqs) (.seq (.reg false ycrb) (.seq (.seq (.reg false ycqq) (.cond (.tmp 21) (.seq (.reg false ydkg) .ret) .skip)) (.seq (.reg false ycit) (.seq (.seq (.reg false ycur) (.block 0 (.loop (.seq (.reg false ybxp) (.seq (.cond (.tmp 24) .skip (.exit 0)) (.seq (.block 1 (.seq (.reg false yckq) (.seq (.reg false ycta) (.seq (.reg true yctj) (.cond (.tmp 50) (.seq (.reg false ydfa) .ret) .skip))))) (.reg false ybzd))))))) (.seq (.reg false ybzk) .ret))))))
theorem yddz:Fn 136 c136 [.t 2]:=fn_0 Tryz.func136 (by kernel_rfl) (by kernel_rfl)
def ycwm:LO:=[o3 (.mv (.const (.bool false))) 6 0]
def ycsa:LO:=[mv' 0 10 0,o3 (.bin .shr (.tmp 10) (.const (.int .u64 24))) 11 1,o3 (.bin .neq (.tmp 11) (.const (.int .u32 0))) 12 3,mv' 12 13 7,⟨.mv (.tmp 0),some 14,some (13,false),15⟩,⟨.bin .neq (.tmp 14) (.const (.int .u32 0)),some 15,some (13,false),31⟩,⟨.mv (.tmp 1),some 16,some (13,false),15⟩,⟨.len (.tmp 16),some 17,some (13,false),79⟩,⟨.bin .gtr (.tmp 17) (ci' 0),some 18,some (13,false),207⟩,⟨.beq true (.tmp 15) (.tmp 18),some 19,some (13,false),511⟩,o3 (.pick (.tmp 13) (.const (.bool true)) (.tmp 19)) 20 1023]
def ydja:LO:=[o3 (.mv (.const (.bool false))) 6 0]
def ycuz:LO:=[o3 (.mv (.const (.int .u32 0))) 7 0]
def ycpr:LO:=[mv' 1 21 0,ln' 21 22 1,o3 (.mv (ci' 0)) 23 0]
def ybxz:LO:=[bn' .lss 23 22 24 0]
def ycmn:LO:=[ix' 2 21 23 25 0,ld' true 2 25 26 1,o3 (.alloc 103 1 [.i .u32 0,.i .i64 0]) 9 0,o0 (.store 2 (.tmp 9) (.tmp 26)) 7]
def ycva:LO:=[fa' 0 1 9 27 0,ld' false 1 27 28 1,mv' 7 29 0,bn' .leq 28 29 30 7,mv' 30 31 15,⟨.faddr 0 1 (.tmp 9),some 32,some (31,false),31⟩,⟨.load false 1 (.tmp 32),some 33,some (31,false),63⟩,⟨.mv (.tmp 0),some 34,some (31,false),31⟩,⟨.bin .andNot (.tmp 33) (.tmp 34),some 35,some (31,false),255⟩,⟨.bin .neq (.tmp 35) (.const (.int .u32 0)),some 36,some (31,false),511⟩,o3 (.pick (.tmp 31) (.const (.bool true)) (.tmp 36)) 37 1023,mv' 37 38 2047,⟨.faddr 1 1 (.tmp 9),some 39,some (38,false),4095⟩,⟨.load false 1 (.tmp 39),some 40,some (38,false),8191⟩,⟨.bin .lss (.tmp 40) (ci' 0),some 41,some (38,false),16383⟩,o3 (.pick (.tmp 38) (.const (.bool true)) (.tmp 41)) 42 32767,mv' 42 43 65535,⟨.faddr 1 1 (.tmp 9),some 44,some (43,false),131071⟩,⟨.load false 1 (.tmp 44),some 45,some (43,false),262143⟩,⟨.mv (.tmp 2),some 46,some (43,false),131071⟩,⟨.bin .geq (.tmp 45) (.tmp 46),some 47,some (43,false),1048575⟩,o3 (.pick (.tmp 43) (.const (.bool true)) (.tmp 47)) 48 2097151]
def ycvv:LO:=[o3 (.mv (.const (.bool false))) 6 0]
def ycsd:LO:=[fa' 0 1 9 49 0,ld' false 1 49 50 1,mv' 50 7 3]
def ycbg:LO:=[o3 (.bin .add (.tmp 23) (ci' 1)) 51 0,mv' 51 23 1]
def ybhu:LO:=[o3 (.mv (.const (.bool true))) 6 0]
def c180:SC:=(.seq (.reg false ycwm) (.seq (.seq (.reg false ycsa) (.cond (.tmp 20) (.seq (.reg false ydja) .ret) .skip)) (.seq (.reg false ycuz) (.seq (.seq (.reg false ycpr) (.block 0 (.loop (.seq (.reg false ybxz) (.seq (.cond (.tmp 24) .skip (.exit 0)) (.seq (.block 1 (.seq (.reg false ycmn) (.seq (.seq (.reg false ycva) (.cond (.tmp 48) (.seq (.reg false ycvv) .ret) .skip)) (.reg false ycsd)))) (.reg false ycbg))))))) (.seq (.reg false ybhu) .ret)))))
theorem ydde:Fn 180 c180 [.t 6]:=fn_0 Tryz.func180 (by kernel_rfl) (by kernel_rfl)
def ydpa:LO:=[o3 (.box 32 (.tmp 0)) 3 0,o3 (.box 27 (.tmp 1)) 4 0,o3 (.alloc 41 1 [.a (.slice none 0 0),.a (.slice none 0 0)]) 6 0,o3 (.mv (ci' 0)) 7 0]
def ydoy:LO:=[ld' true 3 3 20 0,ld' true 2 4 21 0,cl' 56 [20,21] 22 3,mv' 22 19 7,xt' 19 0 23 15,xt' 19 1 24 15,mv' 23 8 31,mv' 24 9 127]
def ydly:LO:=[mv' 9 25 0,o3 (.bin .neq (.tmp 25) (ci' 0)) 26 1,mv' 26 27 3,⟨.mv (.tmp 9),some 28,some (27,true),7⟩,⟨.bin .neq (.tmp 28) (ci' 3),some 29,some (27,true),15⟩,o3 (.pick (.tmp 27) (.tmp 29) (.const (.bool false))) 30 31]
def ydwf:LO:=[o3 (.build [.a (.slice none 0 0),.a (.slice none 0 0)] []) 31 0,mv' 9 32 0,o0 (.store 2 (.tmp 6) (.tmp 31)) 1,mv' 32 7 7]
def ydlk:LO:=[mv' 2 33 0,cl' 57 [33] 34 1,o3 (.un .not (.tmp 34)) 35 3]
def yduy:LO:=[o3 (.build [.a (.slice none 0 0),.a (.slice none 0 0)] []) 36 0,o0 (.store 2 (.tmp 6) (.tmp 36)) 1,o3 (.mv (ci' 12)) 7 3]
def ydtq:LO:=[mv' 9 37 0,o3 (.bin .neq (.tmp 37) (ci' 0)) 38 1]
def yduj:LO:=[o3 (.build [.a (.slice none 0 0),.a (.slice none 0 0)] []) 39 0,mv' 9 40 0,o0 (.store 2 (.tmp 6) (.tmp 39)) 1,mv' 40 7 7]
def ydgc:LO:=[ld' true 3 3 41 0,ld' true 2 4 42 0,mv' 2 43 0,cl' 58 [41,42,43] 44 7,mv' 44 10 15]
def ydfz:LO:=[mv' 8 45 0,o3 (.mk 77 1 4 [.i .u32 0] (.tmp 45) (.tmp 45)) 46 1,mv' 8 47 0,o3 (.mk 78 1 24 [.a (.slice none 0 0)] (.tmp 47) (.tmp 47)) 48 4,o3 (.build [.a (.slice none 0 0),.a (.slice none 0 0)] [(0,1,(.tmp 46)),(1,1,(.tmp 48))]) 49 15,o3 (.alloc 41 1 [.a (.slice none 0 0),.a (.slice none 0 0)]) 11 0,o0 (.store 2 (.tmp 11) (.tmp 49)) 63]
def ycml:LO:=[ld' true 3 3 51 0,ld' true 2 4 52 0,cl' 59 [51,52] 53 3,mv' 53 50 7,xt' 50 0 54 15,xt' 50 1 55 15,mv' 54 12 31,mv' 55 13 127]
def ycqe:LO:=[o3 (.mv (ci' 0)) 14 0]
def ycli:LO:=[mv' 8 56 0,o3 (.mv (ci' 0)) 57 0]
def ybtd:LO:=[bn' .lss 57 56 58 0]
def ycpb:LO:=[mv' 57 59 0,mv' 59 15 1]
def ycro:LO:=[mv' 10 61 0,mv' 12 62 0,mv' 15 63 0,cl' 60 [61,62,63] 64 7,mv' 64 60 15,xt' 60 0 65 31,xt' 60 1 66 31,xt' 60 2 67 31,mv' 65 16 63,mv' 66 17 383,mv' 67 18 1023]
def yciu:LO:=[mv' 14 68 0,mv' 17 69 0,ln' 69 70 2,bn' .add 68 70 71 7,mv' 71 14 15]
def ycpt:LO:=[mv' 18 72 0,o3 (.bin .neq (.tmp 72) (ci' 0)) 73 1,mv' 73 74 3,⟨.mv (.tmp 14),some 75,some (74,false),7⟩,⟨.bin .gtr (.tmp 75) (ci' 262144),some 76,some (74,false),15⟩,o3 (.pick (.tmp 74) (.const (.bool true)) (.tmp 76)) 77 31]
def ydjb:LO:=[o3 (.build [.a (.slice none 0 0),.a (.slice none 0 0)] []) 78 0,o0 (.store 2 (.tmp 6) (.tmp 78)) 1,o3 (.mv (ci' 3)) 7 3]
def ycud:LO:=[fa' 0 1 11 79 0,ld' false 1 79 80 1,mv' 15 81 0,fa' 1 1 11 82 0,ld' false 1 82 83 8,mv' 15 84 0,mv' 16 85 0,mv' 17 86 0,ix' 1 80 81 87 71,o0 (.store 1 (.tmp 87) (.tmp 85)) 327,ix' 1 83 84 88 1023,o0 (.store 1 (.tmp 88) (.tmp 86)) 2047]
def ycpl:LO:=[mv' 10 89 0,o3 (.nilck (.tmp 89)) 90 1,fa' 3 1 90 91 3,ld' false 1 91 92 7,mv' 12 93 0,cl' 61 [92,93] 94 31]
def yckr:LO:=[o3 (.bin .add (.tmp 57) (ci' 1)) 95 0,mv' 95 57 1]
def yciw:LO:=[ld' true 2 11 96 0,o0 (.store 2 (.tmp 6) (.tmp 96)) 1,o3 (.mv (ci' 0)) 7 3]
def c14:SC:=(.seq (.reg false ydpa) (.seq (.reg false ydoy) (.seq (.seq (.reg false ydly) (.cond (.tmp 30) (.seq (.reg false ydwf) .ret) .skip)) (.seq (.seq (.reg false ydlk) (.cond (.tmp 35) (.seq (.reg false yduy) .ret) .skip)) (.seq (.seq (.reg false ydtq) (.cond (.tmp 38) (.seq (.reg false yduj) .ret) .skip)) (.seq (.reg false ydgc) (.seq (.reg true ydfz) (.seq (.reg false ycml) (.seq (.reg false ycqe) (.seq (.seq (.reg false ycli) (.block 0 (.loop (.seq (.reg false ybtd) (.seq (.cond (.tmp 58) .skip (.exit 0)) (.seq (.block 1 (.seq (.reg false ycpb) (.seq (.reg false ycro) (.seq (.reg false yciu) (.seq (.seq (.reg false ycpt) (.cond (.tmp 77) (.seq (.reg false ydjb) .ret) .skip)) (.seq (.reg true ycud) (.reg false ycpl))))))) (.reg false yckr))))))) (.seq (.reg false yciw) .ret)))))))))))
theorem ycxm:FnU 14 c14 [.c 6 true 2,.t 7]:=fn_u Tryz.func14 (by kernel_rfl) (by kernel_rfl)
def ydjg:LO:=[o3 (.box 32 (.tmp 0)) 3 0,o3 (.box 27 (.tmp 1)) 4 0,o3 (.mv (.const (.pointer none))) 6 0]
def ydth:LO:=[ld' true 3 3 11 0,ld' true 2 4 12 0,cl' 123 [11,12] 13 3,ld' true 2 4 14 0,cl' 124 [14] 15 15,mv' 2 16 0,ld' true 3 3 17 0,ld' true 2 4 18 0,cl' 63 [17,18] 19 223,o3 (.build [.a (.pointer none),.a (.slice none 0 0),.i .i64 0,.a (.slice none 0 0),.a (.slice none 0 0)] [(0,1,(.tmp 13)),(1,1,(.tmp 15)),(2,1,(.tmp 16)),(3,1,(.tmp 19))]) 20 511,o3 (.box 86 (.tmp 20)) 21 1023,mv' 21 7 2047]
def ydkk:LO:=[mv' 7 22 0,mv' 7 23 0,o3 (.nilck (.tmp 23)) 24 2,fa' 3 1 24 25 6,ld' false 1 25 26 14,ln' 26 27 30,o3 (.mk 22 1 24 [.a (.slice none 0 0)] (.tmp 27) (.tmp 27)) 28 62,o3 (.nilck (.tmp 22)) 29 127,fa' 4 1 29 30 255,o0 (.store 1 (.tmp 30) (.tmp 28)) 511]
def ydok:LO:=[o3 (.mv (ci' 1)) 8 0]
def ydfy:LO:=[mv' 7 31 0,o3 (.nilck (.tmp 31)) 32 1,fa' 3 1 32 33 3,ld' false 1 33 34 7,ln' 34 35 15,o3 (.bin .sub (.tmp 35) (ci' 1)) 36 31,mv' 36 9 63]
def ydcr:LO:=[mv' 9 37 0,o3 (.bin .geq (.tmp 37) (ci' 0)) 38 1]
def ydmc:LO:=[mv' 7 41 0,o3 (.nilck (.tmp 41)) 42 1,fa' 4 1 42 43 3,ld' false 1 43 44 7,mv' 9 45 0,mv' 7 46 0,o3 (.nilck (.tmp 46)) 47 32,fa' 3 1 47 48 96,ld' false 1 48 49 224,mv' 9 50 0,ix' 1 49 50 51 992,ld' false 1 51 52 2016,ln' 52 53 4064,o3 (.mk 3 1 8 [.i .i64 0] (.tmp 53) (.tmp 53)) 54 8160,ix' 1 44 45 55 16383,o0 (.store 1 (.tmp 55) (.tmp 54)) 32767]
def ydpk:LO:=[mv' 7 56 0,o3 (.nilck (.tmp 56)) 57 1,fa' 3 1 57 58 3,ld' false 1 58 59 7,mv' 9 60 0,ix' 1 59 60 61 31,ld' false 1 61 62 63,ln' 62 63 127,o3 (.bin .sub (.tmp 63) (ci' 1)) 64 255,mv' 64 10 511]
def yczt:LO:=[mv' 10 65 0,o3 (.bin .geq (.tmp 65) (ci' 0)) 66 1]
def ycse:LO:=[mv' 7 69 0,o3 (.nilck (.tmp 69)) 70 1,fa' 4 1 70 71 3,ld' false 1 71 72 7,mv' 9 73 0,ix' 1 72 73 74 31,ld' false 1 74 75 63,mv' 10 76 0,mv' 8 77 0,ix' 1 75 76 78 511,o0 (.store 1 (.tmp 78) (.tmp 77)) 1023]
def ycvm:LO:=[mv' 8 79 0,mv' 7 80 0,o3 (.nilck (.tmp 80)) 81 2,fa' 3 1 81 82 6,ld' false 1 82 83 14,mv' 9 84 0,ix' 1 83 84 85 62,ld' false 1 85 86 126,mv' 10 87 0,ix' 2 86 87 88 510,o3 (.idxA 2 1 (.tmp 88) (ci' 1)) 89 1022,ld' false 1 89 90 2046,mv' 7 91 0,o3 (.nilck (.tmp 91)) 92 4096,fa' 3 1 92 93 12288,ld' false 1 93 94 28672,mv' 9 95 0,ix' 1 94 95 96 126976,ld' false 1 96 97 258048,mv' 10 98 0,ix' 2 97 98 99 1044480,o3 (.idxA 2 1 (.tmp 99) (ci' 0)) 100 2093056,ld' false 1 100 101 4190208,bn' .sub 90 101 102 8388606,o3 (.bin .add (.tmp 102) (ci' 1)) 103 16777214,bn' .mul 79 103 104 33554431,mv' 104 8 67108863]
def ycqy:LO:=[mv' 10 67 0,o3 (.bin .sub (.tmp 67) (ci' 1)) 68 1,mv' 68 10 3]
def ydme:LO:=[mv' 9 39 0,o3 (.bin .sub (.tmp 39) (ci' 1)) 40 1,mv' 40 9 3]
def ycpq:LO:=[mv' 7 105 0,mv' 105 6 1]
def c58:SC:=(.seq (.reg false ydjg) (.seq (.reg true ydth) (.seq (.reg false ydkk) (.seq (.reg false ydok) (.seq (.seq (.reg false ydfy) (.block 0 (.loop (.seq (.seq (.reg false ydcr) (.cond (.tmp 38) .skip (.exit 0))) (.seq (.block 1 (.seq (.reg true ydmc) (.seq (.reg false ydpk) (.block 2 (.loop (.seq (.seq (.reg false yczt) (.cond (.tmp 66) .skip (.exit 2))) (.seq (.block 3 (.seq (.reg false ycse) (.reg true ycvm))) (.reg false ycqy)))))))) (.reg false ydme)))))) (.seq (.reg false ycpq) .ret))))))
theorem ydll:Fn 58 c58 [.t 6]:=fn_0 Tryz.func58 (by kernel_rfl) (by kernel_rfl)
def ydjz:LO:=[o3 (.mv (.const (.int .u32 0))) 6 0,o3 (.mv (.const (.slice none 0 0))) 7 1,o3 (.mv (ci' 0)) 8 3]
def ydno:LO:=[o3 (.mv (.const (.int .u32 0))) 9 0]
def ydnj:LO:=[o3 (.alloc 150 24 [.i .i64 0]) 10 0]
def ydsw:LO:=[mv' 1 21 0,ln' 21 22 1,o3 (.mv (ci' 0)) 23 0]
def ychn:LO:=[bn' .lss 23 22 24 0]
def ydbr:LO:=[mv' 23 25 0,mv' 25 11 1]
def ydbb:LO:=[mv' 0 26 0,o3 (.nilck (.tmp 26)) 27 1,fa' 0 1 27 28 3,ld' false 1 28 29 7,mv' 1 30 0,mv' 11 31 0,cl' 126 [29,30,31] 32 63,mv' 32 12 127]
def yddm:LO:=[mv' 12 33 0,o3 (.bin .lss (.tmp 33) (ci' 0)) 34 1]
def ydko:LO:=[mv' 9 35 0,mv' 11 36 0,o3 (.bin .shl (.const (.int .u32 1)) (.tmp 36)) 37 2,bn' .or 35 37 38 7,mv' 38 9 15]
def ydjq:LO:=[mv' 0 39 0,o3 (.nilck (.tmp 39)) 40 1,fa' 0 1 40 41 3,ld' false 1 41 42 7,mv' 1 43 0,mv' 11 44 0,mv' 12 45 0,cl' 127 [42,43,44,45] 46 127,ln' 46 47 255,o3 (.mv (ci' 0)) 48 0]
def ybzw:LO:=[bn' .lss 48 47 49 0]
def ycuy:LO:=[mv' 48 50 0,ix' 1 46 48 51 0,ld' false 1 51 52 2,mv' 50 13 7,mv' 52 14 15]
def ycjl:LO:=[mv' 11 53 0,o3 (.idxA 24 1 (.tmp 10) (.tmp 53)) 54 1,ld' false 1 54 55 3,mv' 14 56 0,mv' 1 57 0,mv' 11 58 0,ix' 1 57 58 59 48,ld' false 1 59 60 112,mv' 13 61 0,ix' 1 60 61 62 496,ld' false 1 62 63 1008,bn' .sub 56 63 64 2040,mv' 0 65 0,o3 (.nilck (.tmp 65)) 66 4096,fa' 4 1 66 67 12288,ld' false 1 67 68 28672,mv' 11 69 0,ix' 1 68 69 70 126976,ld' false 1 70 71 258048,mv' 13 72 0,ix' 1 71 72 73 1044480,ld' false 1 73 74 2093056,bn' .mul 64 74 75 4194296,bn' .add 55 75 76 8388607,o3 (.idxA 24 1 (.tmp 10) (.tmp 53)) 77 16777215,o0 (.store 1 (.tmp 77) (.tmp 76)) 33554431]
def ycnf:LO:=[o3 (.bin .add (.tmp 48) (ci' 1)) 78 0,mv' 78 48 1]
def ybzb:LO:=[o3 (.bin .add (.tmp 23) (ci' 1)) 79 0,mv' 79 23 1]
def ycrt:LO:=[mv' 0 81 0,o3 (.nilck (.tmp 81)) 82 1,fa' 1 1 82 83 3,ld' false 1 83 84 7,mv' 0 85 0,o3 (.nilck (.tmp 85)) 86 16,fa' 2 1 86 87 48,ld' false 1 87 88 112,mv' 9 89 0,cl' 128 [84,88,89] 90 511,mv' 90 80 1023,xt' 80 0 91 2047,xt' 80 1 92 2047,mv' 91 15 4095,mv' 92 16 16383]
def yclt:LO:=[mv' 16 93 0,o3 (.bin .neq (.tmp 93) (ci' 0)) 94 1]
def ydmq:LO:=[mv' 16 95 0,o3 (.mv (.const (.int .u32 0))) 6 0,o3 (.mv (.const (.slice none 0 0))) 7 2,mv' 95 8 7]
def ycso:LO:=[mv' 15 96 0,ln' 96 97 1,o3 (.mk 103 2 16 [.i .u32 0,.i .i64 0] (.tmp 97) (.tmp 97)) 98 3,o3 (.alloc 78 1 [.a (.slice none 0 0)]) 17 0,o0 (.store 1 (.tmp 17) (.tmp 98)) 15]
def ycvq:LO:=[mv' 15 99 0,ln' 99 100 1,o3 (.mv (ci' 0)) 101 0]
def ybya:LO:=[bn' .lss 101 100 102 0]
def ycwp:LO:=[mv' 101 103 0,ix' 1 99 101 104 0,ld' false 1 104 105 2,o3 (.alloc 3 1 [.i .i64 0]) 18 0,o0 (.store 1 (.tmp 18) (.tmp 103)) 15,mv' 105 19 31]
def yclw:LO:=[ld' false 1 17 106 0,ld' false 1 18 107 0,mv' 19 108 0,mv' 2 109 0,o3 (.build [.i .u32 0,.i .i64 0] [(0,1,(.tmp 108)),(1,1,(.tmp 109))]) 110 12,ix' 2 106 107 111 31,o0 (.store 2 (.tmp 111) (.tmp 110)) 63]
def ycix:LO:=[mv' 19 112 0,cl' 129 [112] 113 1]
def yckp:LO:=[mv' 114 20 0]
def ycsj:LO:=[ld' false 1 17 115 0,ld' false 1 18 116 0,ix' 2 115 116 117 3,fa' 1 1 117 118 7,ld' false 1 118 119 15,mv' 20 120 0,o3 (.idxA 24 1 (.tmp 10) (.tmp 120)) 121 32,ld' false 1 121 122 96,bn' .add 119 122 123 255,ix' 2 115 116 124 511,fa' 1 1 124 125 1023,o0 (.store 1 (.tmp 125) (.tmp 123)) 2047]
def ycjk:LO:=[o3 (.bin .add (.tmp 101) (ci' 1)) 126 0,mv' 126 101 1]
def ycwv:LO:=[mv' 9 127 0,ld' false 1 17 128 0,mv' 127 6 1,mv' 128 7 7,o3 (.mv (ci' 0)) 8 15]
def c60:SC:=(.seq (.reg false ydjz) (.seq (.reg false ydno) (.seq (.reg false ydnj) (.seq (.seq (.reg false ydsw) (.block 0 (.loop (.seq (.reg false ychn) (.seq (.cond (.tmp 24) .skip (.exit 0)) (.seq (.block 1 (.seq (.reg false ydbr) (.seq (.reg false ydbb) (.seq (.seq (.reg false yddm) (.cond (.tmp 34) (.exit 1) .skip)) (.seq (.reg false ydko) (.seq (.reg false ydjq) (.block 2 (.loop (.seq (.reg false ybzw) (.seq (.cond (.tmp 49) .skip (.exit 2)) (.seq (.block 3 (.seq (.reg false ycuy) (.reg true ycjl))) (.reg false ycnf)))))))))))) (.reg false ybzb))))))) (.seq (.reg true ycrt) (.seq (.seq (.reg false yclt) (.cond (.tmp 94) (.seq (.reg false ydmq) .ret) .skip)) (.seq (.reg false ycso) (.seq (.seq (.reg false ycvq) (.block 4 (.loop (.seq (.reg false ybya) (.seq (.cond (.tmp 102) .skip (.exit 4)) (.seq (.block 5 (.seq (.reg false ycwp) (.seq (.reg false yclw) (.seq (.reg false ycix) (.block 6 (.range (.tmp 113) [114] (.reg false yckp) (.block 7 (.reg true ycsj)))))))) (.reg false ycjk))))))) (.seq (.reg true ycwv) .ret)))))))))
theorem ydef:FnM 60 c60 [.t 6,.t 7,.t 8]:=fn_m Tryz.func60 (by kernel_rfl) (by kernel_rfl)
def ycbh:LO:=[o3 (.mv (.const (.slice none 0 0))) 6 0,o3 (.mv (ci' 0)) 7 1]
def ycat:LO:=[mv' 2 11 0,o3 (.bin .eql (.tmp 11) (.const (.int .u32 0))) 12 1]
def ycqa:LO:=[o3 (.mv (.const (.slice none 0 0))) 6 0,o3 (.mv (ci' 0)) 7 1]
def yctc:LO:=[o3 (.alloc 38 1 [.a (.slice none 0 0)]) 8 0]
def ycmk:LO:=[mv' 1 13 0]
def ycwq:LO:=[o3 (.bin .eql (.tmp 13) (ci' 1)) 15 0,mv' 15 14 1]
def ydgt:LO:=[mv' 2 16 0,cl' 129 [16] 17 1]
def ydoj:LO:=[mv' 18 9 0]
def ydjh:LO:=[ld' false 1 8 19 0,mv' 9 20 0,o3 (.bin .shl (.const (.int .u32 1)) (.tmp 20)) 21 2,o3 (.bslice 77 1 1 [.i .u32 0] [(0,1,(.tmp 21))]) 22 6,o3 (.app 77 1 4 (.tmp 19) (.tmp 22)) 23 15,o0 (.store 1 (.tmp 8) (.tmp 23)) 31]
def ydhg:LO:=[ld' false 1 8 24 0,mv' 24 6 1,o3 (.mv (ci' 0)) 7 3]
def ycci:LO:=[o3 (.bin .eql (.tmp 13) (ci' 4)) 26 0,mv' 26 25 1]
def ydfc:LO:=[mv' 2 27 0,o3 (.bslice 77 1 1 [.i .u32 0] [(0,1,(.tmp 27))]) 28 1,mv' 28 6 3,o3 (.mv (ci' 0)) 7 7]
def ybsb:LO:=[mv' 2 29 0,cl' 113 [29] 30 1,o3 (.bin .gtr (.tmp 30) (ci' 10)) 31 3]
def ycxc:LO:=[o3 (.mv (.const (.slice none 0 0))) 6 0,o3 (.mv (ci' 3)) 7 1]
def ycck:LO:=[mv' 2 32 0,o3 (.un .neg (.tmp 32)) 33 1,mv' 2 34 0,bn' .and 33 34 35 7,mv' 35 10 15]
def ybeq:LO:=[mv' 10 36 0,o3 (.bin .neq (.tmp 36) (.const (.int .u32 0))) 37 1]
def yccb:LO:=[mv' 0 43 0,mv' 1 44 0,mv' 2 45 0,mv' 10 46 0,cl' 171 [43,44,45,46] 47 15]
def ycao:LO:=[ld' false 1 8 48 0,mv' 10 49 0,o3 (.bslice 77 1 1 [.i .u32 0] [(0,1,(.tmp 49))]) 50 2,o3 (.app 77 1 4 (.tmp 48) (.tmp 50)) 51 7,o0 (.store 1 (.tmp 8) (.tmp 51)) 15]
def ybia:LO:=[mv' 10 38 0,mv' 2 39 0,o3 (.wsub (.tmp 38) (.tmp 39)) 40 3,mv' 2 41 0,bn' .and 40 41 42 15,mv' 42 10 31]
def ybyn:LO:=[ld' false 1 8 52 0,mv' 52 6 1,o3 (.mv (ci' 0)) 7 3]
def c128:SC:=(.seq (.reg false ycbh) (.seq (.seq (.reg false ycat) (.cond (.tmp 12) (.seq (.reg false ycqa) .ret) .skip)) (.seq (.reg false yctc) (.seq (.seq (.reg false ycmk) (.block 0 (.seq (.reg false ycwq) (.cond (.tmp 14) (.seq (.seq (.reg false ydgt) (.block 1 (.range (.tmp 17) [18] (.reg false ydoj) (.block 2 (.reg true ydjh))))) (.seq (.reg false ydhg) .ret)) (.seq (.reg false ycci) (.cond (.tmp 25) (.seq (.reg false ydfc) .ret) .skip)))))) (.seq (.seq (.reg false ybsb) (.cond (.tmp 31) (.seq (.reg false ycxc) .ret) .skip)) (.seq (.seq (.reg false ycck) (.block 3 (.loop (.seq (.seq (.reg false ybeq) (.cond (.tmp 37) .skip (.exit 3))) (.seq (.block 4 (.seq (.reg false yccb) (.cond (.tmp 47) (.reg false ycao) .skip))) (.reg false ybia)))))) (.seq (.reg false ybyn) .ret)))))))
theorem ydbi:Fn 128 c128 [.t 6,.t 7]:=fn_0 Tryz.func128 (by kernel_rfl) (by kernel_rfl)
def ydsr:LO:=[o3 (.box 41 (.tmp 0)) 2 0,o3 (.mv (ci' 0)) 4 0]
def ydlx:LO:=[ld' true 2 2 5 0,cl' 136 [5] 6 1,o3 (.un .not (.tmp 6)) 7 3]
def ydvf:LO:=[o3 (.mv (ci' 13)) 4 0]
def ydgd:LO:=[mv' 1 8 0,ln' 8 9 1,fa' 0 1 2 10 0,ld' false 1 10 11 4,ln' 11 12 12,bn' .neq 9 12 13 31]
def ydui:LO:=[o3 (.mv (ci' 7)) 4 0]
def ydic:LO:=[o3 (.mv (ci' 0)) 4 0]
def c73:SC:=(.seq (.reg false ydsr) (.seq (.seq (.reg false ydlx) (.cond (.tmp 7) (.seq (.reg false ydvf) .ret) .skip)) (.seq (.seq (.reg false ydgd) (.cond (.tmp 13) (.seq (.reg false ydui) .ret) .skip)) (.seq (.reg false ydic) .ret))))
theorem ydrc:Fn 73 c73 [.t 4]:=fn_0 Tryz.func73 (by kernel_rfl) (by kernel_rfl)
def ydib:LO:=[o3 (.box 41 (.tmp 0)) 2 0,o3 (.mv (.const (.bool false))) 4 0,o3 (.mv (ci' 0)) 5 2]
def ydrr:LO:=[ld' true 2 2 11 0,mv' 1 12 0,cl' 73 [11,12] 13 3,mv' 13 6 7]
def ydrk:LO:=[mv' 6 14 0,o3 (.bin .neq (.tmp 14) (ci' 0)) 15 1]
def ydwe:LO:=[mv' 6 16 0,o3 (.mv (.const (.bool false))) 4 0,mv' 16 5 3]
def ydkj:LO:=[fa' 1 1 2 17 0,ld' false 1 17 18 1,ln' 18 19 3,o3 (.mv (ci' 0)) 20 0]
def ycfj:LO:=[bn' .lss 20 19 21 0]
def ycyq:LO:=[mv' 20 22 0,ix' 1 18 20 23 0,ld' false 1 23 24 2,mv' 22 7 7,mv' 24 8 15]
def ydei:LO:=[mv' 1 25 0,mv' 7 26 0,ix' 1 25 26 27 3,ld' false 1 27 28 7,o3 (.un .not (.tmp 28)) 29 15]
def ydmk:LO:=[mv' 8 30 0,ln' 30 31 1,o3 (.mv (ci' 0)) 32 0]
def ydos:LO:=[bn' .lss 32 31 33 0]
def ydoi:LO:=[ix' 2 30 32 34 0,ld' true 2 34 35 1,o3 (.alloc 103 1 [.i .u32 0,.i .i64 0]) 10 0,o0 (.store 2 (.tmp 10) (.tmp 35)) 7]
def ydng:LO:=[mv' 1 36 0,fa' 1 1 10 37 0,ld' false 1 37 38 2,ix' 1 36 38 39 7,ld' false 1 39 40 15,o3 (.un .not (.tmp 40)) 41 31]
def ydpo:LO:=[o3 (.mv (.const (.bool false))) 4 0,o3 (.mv (ci' 0)) 5 1]
def ydli:LO:=[o3 (.bin .add (.tmp 32) (ci' 1)) 42 0,mv' 42 32 1]
def ybxn:LO:=[o3 (.bin .add (.tmp 20) (ci' 1)) 43 0,mv' 43 20 1]
def ycts:LO:=[o3 (.mv (.const (.bool true))) 4 0,o3 (.mv (ci' 0)) 5 1]
def c18:SC:=(.seq (.reg false ydib) (.seq (.seq (.reg false ydrr) (.seq (.reg false ydrk) (.cond (.tmp 15) (.seq (.reg false ydwe) .ret) .skip))) (.seq (.seq (.reg false ydkj) (.block 0 (.loop (.seq (.reg false ycfj) (.seq (.cond (.tmp 21) .skip (.exit 0)) (.seq (.block 1 (.seq (.reg false ycyq) (.seq (.seq (.reg false ydei) (.cond (.tmp 29) (.exit 1) .skip)) (.seq (.reg false ydmk) (.block 2 (.loop (.seq (.reg false ydos) (.seq (.cond (.tmp 33) .skip (.exit 2)) (.seq (.block 3 (.seq (.reg false ydoi) (.seq (.reg false ydng) (.cond (.tmp 41) (.seq (.reg false ydpo) .ret) .skip)))) (.reg false ydli)))))))))) (.reg false ybxn))))))) (.seq (.reg false ycts) .ret))))
theorem ydgh:Fn 18 c18 [.t 4,.t 5]:=fn_0 Tryz.func18 (by kernel_rfl) (by kernel_rfl)
def ycry:LO:=[o3 (.box 41 (.tmp 0)) 1 0,o3 (.mv (.const (.slice none 0 0))) 2 0]
def yckv:LO:=[fa' 1 1 1 8 0,ld' false 1 8 9 1,ln' 9 10 3,o3 (.mk 22 1 24 [.a (.slice none 0 0)] (.tmp 10) (.tmp 10)) 11 7,mv' 11 3 15]
def ycrw:LO:=[fa' 1 1 1 12 0,ld' false 1 12 13 1,ln' 13 14 3,o3 (.mv (ci' 0)) 15 0]
def ybvc:LO:=[bn' .lss 15 14 16 0]
def ycmo:LO:=[mv' 15 17 0,ix' 1 13 15 18 0,ld' false 1 18 19 2,mv' 17 4 7,mv' 19 5 15]
def ycwc:LO:=[mv' 5 20 0,ln' 20 21 1,o3 (.mv (ci' 0)) 22 0]
def ybkf:LO:=[bn' .lss 22 21 23 0]
def ybzf:LO:=[ix' 2 20 22 24 0,ld' true 2 24 25 1,o3 (.alloc 103 1 [.i .u32 0,.i .i64 0]) 7 0,o0 (.store 2 (.tmp 7) (.tmp 25)) 7]
def ycay:LO:=[mv' 3 26 0,fa' 1 1 7 27 0,ld' false 1 27 28 2,mv' 3 29 0,fa' 1 1 7 30 0,ld' false 1 30 31 16,ix' 1 29 31 32 56,ld' false 1 32 33 120,mv' 4 34 0,o3 (.bslice 3 1 1 [.i .i64 0] [(0,1,(.tmp 34))]) 35 256,o3 (.app 3 1 8 (.tmp 33) (.tmp 35)) 36 1016,ix' 1 26 28 37 2047,o0 (.store 1 (.tmp 37) (.tmp 36)) 4095]
def ybxq:LO:=[o3 (.bin .add (.tmp 22) (ci' 1)) 38 0,mv' 38 22 1]
def yxs:LO:=[o3 (.bin .add (.tmp 15) (ci' 1)) 39 0,mv' 39 15 1]
def ybxg:LO:=[mv' 3 40 0,mv' 40 2 1]
def c179:SC:=(.seq (.reg false ycry) (.seq (.reg false yckv) (.seq (.seq (.reg false ycrw) (.block 0 (.loop (.seq (.reg false ybvc) (.seq (.cond (.tmp 16) .skip (.exit 0)) (.seq (.block 1 (.seq (.reg false ycmo) (.seq (.reg false ycwc) (.block 2 (.loop (.seq (.reg false ybkf) (.seq (.cond (.tmp 23) .skip (.exit 2)) (.seq (.block 3 (.seq (.reg false ybzf) (.reg true ycay))) (.reg false ybxq))))))))) (.reg false yxs))))))) (.seq (.reg false ybxg) .ret))))
theorem yczu:Fn 179 c179 [.t 2]:=fn_0 Tryz.func179 (by kernel_rfl) (by kernel_rfl)
def ycwj:LO:=[o3 (.box 41 (.tmp 0)) 2 0,o3 (.mv (.const (.slice none 0 0))) 4 0]
def yciv:LO:=[o3 (.mv (.const (.slice none 0 0))) 5 0]
def ycja:LO:=[mv' 1 13 0,ln' 13 14 1,o3 (.mv (ci' 0)) 15 0]
def ybjz:LO:=[bn' .lss 15 14 16 0]
def ybrc:LO:=[mv' 15 17 0,ix' 1 13 15 18 0,ld' false 1 18 19 2,mv' 17 6 7,mv' 19 7 15]
def ybtg:LO:=[mv' 7 20 0]
def ybvs:LO:=[mv' 5 21 0,mv' 6 22 0,o3 (.bslice 3 1 1 [.i .i64 0] [(0,1,(.tmp 22))]) 23 2,o3 (.app 3 1 8 (.tmp 21) (.tmp 23)) 24 7,mv' 24 5 15]
def ybqj:LO:=[o3 (.bin .add (.tmp 15) (ci' 1)) 25 0,mv' 25 15 1]
def ycox:LO:=[ld' true 2 2 26 0,cl' 179 [26] 27 1,mv' 27 8 3]
def ycrm:LO:=[mv' 1 28 0,ln' 28 29 1,o3 (.mk 3 1 8 [.i .i64 0] (.tmp 29) (.tmp 29)) 30 3,mv' 30 9 7]
def ybys:LO:=[o3 (.mv (ci' 0)) 10 0]
def ybhn:LO:=[mv' 10 31 0,mv' 5 32 0,ln' 32 33 2,bn' .lss 31 33 34 7]
def ybww:LO:=[mv' 8 37 0,mv' 5 38 0,mv' 10 39 0,ix' 1 38 39 40 6,ld' false 1 40 41 14,ix' 1 37 41 42 31,ld' false 1 42 43 63,ln' 43 44 127,o3 (.mv (ci' 0)) 45 0]
def ysx:LO:=[bn' .lss 45 44 46 0]
def yxq:LO:=[ix' 1 43 45 47 0,ld' false 1 47 48 1,mv' 48 12 3]
def yxo:LO:=[mv' 9 49 0,mv' 12 50 0,ix' 1 49 50 51 3,ld' false 1 51 52 7,o3 (.bin .add (.tmp 52) (ci' 1)) 53 15,ix' 1 49 50 54 31,o0 (.store 1 (.tmp 54) (.tmp 53)) 63]
def yzg:LO:=[mv' 1 55 0,mv' 12 56 0,ix' 1 55 56 57 3,ld' false 1 57 58 7,o3 (.un .not (.tmp 58)) 59 15,mv' 59 60 31,⟨.mv (.tmp 9),some 61,some (60,true),63⟩,⟨.mv (.tmp 12),some 62,some (60,true),63⟩,⟨.idx 1 (.tmp 61) (.tmp 62),some 63,some (60,true),255⟩,⟨.load false 1 (.tmp 63),some 64,some (60,true),511⟩,⟨.faddr 1 1 (.tmp 2),some 65,some (60,true),63⟩,⟨.load false 1 (.tmp 65),some 66,some (60,true),1087⟩,⟨.mv (.tmp 12),some 67,some (60,true),63⟩,⟨.idx 1 (.tmp 66) (.tmp 67),some 68,some (60,true),7231⟩,⟨.load false 1 (.tmp 68),some 69,some (60,true),15423⟩,⟨.len (.tmp 69),some 70,some (60,true),31807⟩,⟨.bin .eql (.tmp 64) (.tmp 70),some 71,some (60,true),65535⟩,o3 (.pick (.tmp 60) (.tmp 71) (.const (.bool false))) 72 131071]
def ybyd:LO:=[mv' 5 73 0,mv' 12 74 0,o3 (.bslice 3 1 1 [.i .i64 0] [(0,1,(.tmp 74))]) 75 2,o3 (.app 3 1 8 (.tmp 73) (.tmp 75)) 76 7,mv' 76 5 15]
def yxn:LO:=[o3 (.bin .add (.tmp 45) (ci' 1)) 77 0,mv' 77 45 1]
def ycbr:LO:=[mv' 10 35 0,o3 (.bin .add (.tmp 35) (ci' 1)) 36 1,mv' 36 10 3]
def ybue:LO:=[mv' 5 78 0,mv' 78 4 1]
def c135:SC:=(.seq (.reg false ycwj) (.seq (.reg false yciv) (.seq (.seq (.reg false ycja) (.block 0 (.loop (.seq (.reg false ybjz) (.seq (.cond (.tmp 16) .skip (.exit 0)) (.seq (.block 1 (.seq (.reg false ybrc) (.seq (.reg false ybtg) (.cond (.tmp 20) (.reg false ybvs) .skip)))) (.reg false ybqj))))))) (.seq (.reg false ycox) (.seq (.reg false ycrm) (.seq (.seq (.reg false ybys) (.block 2 (.loop (.seq (.seq (.reg false ybhn) (.cond (.tmp 34) .skip (.exit 2))) (.seq (.block 3 (.seq (.reg false ybww) (.block 4 (.loop (.seq (.reg false ysx) (.seq (.cond (.tmp 46) .skip (.exit 4)) (.seq (.block 5 (.seq (.reg false yxq) (.seq (.reg false yxo) (.seq (.reg true yzg) (.cond (.tmp 72) (.reg false ybyd) .skip))))) (.reg false yxn)))))))) (.reg false ycbr)))))) (.seq (.reg false ybue) .ret)))))))
theorem yded:Fn 135 c135 [.t 4]:=fn_0 Tryz.func135 (by kernel_rfl) (by kernel_rfl)
def ydmx:LO:=[o3 (.box 41 (.tmp 0)) 2 0,o3 (.mv (.const (.slice none 0 0))) 4 0,o3 (.mv (ci' 0)) 5 2]
def ydkb:LO:=[ld' true 2 2 10 0,mv' 1 11 0,cl' 73 [10,11] 12 3,mv' 12 6 7]
def ydgn:LO:=[mv' 6 13 0,o3 (.bin .neq (.tmp 13) (ci' 0)) 14 1]
def ydwj:LO:=[mv' 6 15 0,o3 (.mv (.const (.slice none 0 0))) 4 0,mv' 15 5 3]
def ydkx:LO:=[mv' 1 16 0,ln' 16 17 1,o3 (.mk 4 1 1 [.b false] (.tmp 17) (.tmp 17)) 18 3,mv' 18 7 7]
def ydig:LO:=[ld' true 2 2 19 0,mv' 1 20 0,cl' 135 [19,20] 21 3,ln' 21 22 7,o3 (.mv (ci' 0)) 23 0]
def ydfu:LO:=[bn' .lss 23 22 24 0]
def ydix:LO:=[ix' 1 21 23 25 0,ld' false 1 25 26 1,mv' 26 9 3]
def ydqn:LO:=[mv' 7 27 0,mv' 9 28 0,ix' 1 27 28 29 3,o0 (.store 1 (.tmp 29) (.const (.bool true))) 7]
def ydqt:LO:=[o3 (.bin .add (.tmp 23) (ci' 1)) 30 0,mv' 30 23 1]
def ycrz:LO:=[mv' 7 31 0,mv' 31 4 1,o3 (.mv (ci' 0)) 5 3]
def c72:SC:=(.seq (.reg false ydmx) (.seq (.seq (.reg false ydkb) (.seq (.reg false ydgn) (.cond (.tmp 14) (.seq (.reg false ydwj) .ret) .skip))) (.seq (.reg false ydkx) (.seq (.seq (.reg false ydig) (.block 0 (.loop (.seq (.reg false ydfu) (.seq (.cond (.tmp 24) .skip (.exit 0)) (.seq (.block 1 (.seq (.reg false ydix) (.reg false ydqn))) (.reg false ydqt))))))) (.seq (.reg false ycrz) .ret)))))
theorem ydft:FnM 72 c72 [.t 4,.t 5]:=fn_m Tryz.func72 (by kernel_rfl) (by kernel_rfl)
def ydjp:LO:=[o3 (.box 41 (.tmp 0)) 2 0,o3 (.mv (.const (.slice none 0 0))) 4 0,o3 (.mv (ci' 0)) 5 2]
def ydoo:LO:=[ld' true 2 2 10 0,mv' 1 11 0,cl' 72 [10,11] 12 3,mv' 12 9 7,xt' 9 0 13 15,xt' 9 1 14 15,mv' 13 6 31,mv' 14 7 127]
def ydnx:LO:=[mv' 7 15 0,o3 (.bin .neq (.tmp 15) (ci' 0)) 16 1]
def ydvj:LO:=[mv' 7 17 0,o3 (.mv (.const (.slice none 0 0))) 4 0,mv' 17 5 3]
def ydsv:LO:=[mv' 6 18 0,ln' 18 19 1,o3 (.mv (ci' 0)) 20 0]
def yddd:LO:=[bn' .lss 20 19 21 0]
def ydsh:LO:=[mv' 20 22 0,mv' 22 8 1]
def ydip:LO:=[mv' 6 23 0,mv' 8 24 0,mv' 6 25 0,mv' 8 26 0,ix' 1 25 26 27 12,ld' false 1 27 28 28,o3 (.un .not (.tmp 28)) 29 60,ix' 1 23 24 30 127,o0 (.store 1 (.tmp 30) (.tmp 29)) 255]
def ydlm:LO:=[o3 (.bin .add (.tmp 20) (ci' 1)) 31 0,mv' 31 20 1]
def ydtl:LO:=[mv' 6 32 0,mv' 32 4 1,o3 (.mv (ci' 0)) 5 3]
def c17:SC:=(.seq (.reg false ydjp) (.seq (.reg false ydoo) (.seq (.seq (.reg false ydnx) (.cond (.tmp 16) (.seq (.reg false ydvj) .ret) .skip)) (.seq (.seq (.reg false ydsv) (.block 0 (.loop (.seq (.reg false yddd) (.seq (.cond (.tmp 21) .skip (.exit 0)) (.seq (.block 1 (.seq (.reg false ydsh) (.reg false ydip))) (.reg false ydlm))))))) (.seq (.reg false ydtl) .ret)))))
theorem yddw:FnU 17 c17 [.t 4,.t 5]:=fn_u Tryz.func17 (by kernel_rfl) (by kernel_rfl)
def ydnc:LO:=[o3 (.box 41 (.tmp 0)) 2 0,o3 (.mv (.const (.slice none 0 0))) 4 0,o3 (.mv (ci' 0)) 5 2]
def ydte:LO:=[ld' true 2 2 8 0,mv' 1 9 0,cl' 73 [8,9] 10 3,mv' 10 6 7]
def ydse:LO:=[mv' 6 11 0,o3 (.bin .neq (.tmp 11) (ci' 0)) 12 1]
def ydwh:LO:=[mv' 6 13 0,o3 (.mv (.const (.slice none 0 0))) 4 0,mv' 13 5 3]
def ydrz:LO:=[ld' true 2 2 14 0,mv' 1 15 0,cl' 135 [14,15] 16 3,mv' 16 7 7]
def ydmn:LO:=[mv' 7 17 0,ln' 17 18 1,mv' 1 19 0,ln' 19 20 4,bn' .lss 18 20 21 15]
def ydwi:LO:=[o3 (.mv (.const (.slice none 0 0))) 4 0,o3 (.mv (ci' 14)) 5 1]
def ydgl:LO:=[mv' 7 22 0,mv' 22 4 1,o3 (.mv (ci' 0)) 5 3]
def c74:SC:=(.seq (.reg false ydnc) (.seq (.seq (.reg false ydte) (.seq (.reg false ydse) (.cond (.tmp 12) (.seq (.reg false ydwh) .ret) .skip))) (.seq (.reg false ydrz) (.seq (.seq (.reg false ydmn) (.cond (.tmp 21) (.seq (.reg false ydwi) .ret) .skip)) (.seq (.reg false ydgl) .ret)))))
theorem ydjx:Fn 74 c74 [.t 4,.t 5]:=fn_0 Tryz.func74 (by kernel_rfl) (by kernel_rfl)
def ydmr:LO:=[o3 (.box 41 (.tmp 0)) 3 0,o3 (.mv (.const (.slice none 0 0))) 6 0,o3 (.mv (ci' 0)) 7 2]
def ydoe:LO:=[ld' true 2 3 16 0,mv' 1 17 0,cl' 74 [16,17] 18 3,mv' 18 15 7,xt' 15 0 19 15,xt' 15 1 20 15,mv' 19 8 31,mv' 20 9 127]
def ydtm:LO:=[mv' 9 21 0,o3 (.bin .neq (.tmp 21) (ci' 0)) 22 1]
def yduk:LO:=[mv' 9 23 0,o3 (.mv (.const (.slice none 0 0))) 6 0,mv' 23 7 3]
def ydhz:LO:=[mv' 1 24 0,ln' 24 25 1,o3 (.mk 3 1 8 [.i .i64 0] (.tmp 25) (.tmp 25)) 26 3,mv' 26 10 7]
def ydud:LO:=[mv' 8 27 0,ln' 27 28 1,o3 (.mv (ci' 0)) 29 0]
def ycgk:LO:=[bn' .lss 29 28 30 0]
def ydfv:LO:=[ix' 1 27 29 31 0,ld' false 1 31 32 1,mv' 32 12 3]
def ydcu:LO:=[mv' 1 33 0,mv' 12 34 0,ix' 1 33 34 35 3,ld' false 1 35 36 7]
def ydit:LO:=[fa' 1 1 3 37 0,ld' false 1 37 38 1,mv' 12 39 0,ix' 1 38 39 40 7,ld' false 1 40 41 15,ln' 41 42 31,o3 (.mv (ci' 0)) 43 0]
def ybqg:LO:=[bn' .lss 43 42 44 0]
def ycnd:LO:=[ix' 2 41 43 45 0,ld' true 2 45 46 1,o3 (.alloc 103 1 [.i .u32 0,.i .i64 0]) 14 0,o0 (.store 2 (.tmp 14) (.tmp 46)) 7]
def yctk:LO:=[mv' 10 47 0,mv' 12 48 0,mv' 10 49 0,mv' 12 50 0,ix' 1 49 50 51 12,ld' false 1 51 52 28,mv' 2 53 0,ld' true 2 14 54 0,o3 (.call (.tmp 53) [(.tmp 54)]) 55 192,mv' 10 56 0,fa' 1 1 14 57 0,ld' false 1 57 58 1024,ix' 1 56 58 59 3584,ld' false 1 59 60 7680,bn' .add 55 60 61 16320,o3 (.mm true (.tmp 52) (.tmp 61)) 62 32764,ix' 1 47 48 63 65535,o0 (.store 1 (.tmp 63) (.tmp 62)) 131071]
def ycvz:LO:=[o3 (.bin .add (.tmp 43) (ci' 1)) 64 0,mv' 64 43 1]
def ycbe:LO:=[o3 (.bin .add (.tmp 29) (ci' 1)) 65 0,mv' 65 29 1]
def ycnk:LO:=[mv' 10 66 0,mv' 66 6 1,o3 (.mv (ci' 0)) 7 3]
def c77:SC:=(.seq (.reg false ydmr) (.seq (.reg false ydoe) (.seq (.seq (.reg false ydtm) (.cond (.tmp 22) (.seq (.reg false yduk) .ret) .skip)) (.seq (.reg false ydhz) (.seq (.seq (.reg false ydud) (.block 0 (.loop (.seq (.reg false ycgk) (.seq (.cond (.tmp 30) .skip (.exit 0)) (.seq (.block 1 (.seq (.reg false ydfv) (.seq (.seq (.reg false ydcu) (.cond (.tmp 36) (.exit 1) .skip)) (.seq (.reg false ydit) (.block 2 (.loop (.seq (.reg false ybqg) (.seq (.cond (.tmp 44) .skip (.exit 2)) (.seq (.block 3 (.seq (.reg false ycnd) (.reg true yctk))) (.reg false ycvz)))))))))) (.reg false ycbe))))))) (.seq (.reg false ycnk) .ret))))))
theorem ydsa:Fn 77 c77 [.t 6,.t 7]:=fn_0 Tryz.func77 (by kernel_rfl) (by kernel_rfl)
def ydht:LO:=[o3 (.box 103 (.tmp 0)) 1 0,o3 (.mv (ci' 0)) 2 0]
def ydhr:LO:=[fa' 0 1 1 3 0,ld' false 1 3 4 1,cl' 113 [4] 5 3,mv' 5 2 7]
def c78:SC:=(.seq (.reg false ydht) (.seq (.reg false ydhr) .ret))
theorem ydmj:Fn 78 c78 [.t 2]:=fn_0 Tryz.func78 (by kernel_rfl) (by kernel_rfl)
def ydhm:LO:=[o3 (.box 41 (.tmp 0)) 2 0,o3 (.mv (.const (.slice none 0 0))) 4 0,o3 (.mv (ci' 0)) 5 2]
def ydor:LO:=[ld' true 2 2 6 0,mv' 1 7 0,o3 (.call (.func 77) [(.tmp 6),(.tmp 7),(.func 78)]) 8 3,xt' 8 0 9 7,xt' 8 1 10 7,mv' 9 4 31,mv' 10 5 63]
def c20:SC:=(.seq (.reg false ydhm) (.seq (.reg false ydor) .ret))
theorem ydlh:Fn 20 c20 [.t 4,.t 5]:=fn_0 Tryz.func20 (by kernel_rfl) (by kernel_rfl)
def ydev:LO:=[o3 (.box 41 (.tmp 0)) 3 0,o3 (.box 109 (.tmp 1)) 4 0,o3 (.box 103 (.tmp 2)) 5 0,o3 (.alloc 109 1 [.i .i64 0,.i .u32 0]) 6 0,o3 (.mv (.const (.bool false))) 7 0]
def yczs:LO:=[fa' 1 1 4 9 0,ld' false 1 9 10 1,fa' 0 1 5 11 0,ld' false 1 11 12 4,bn' .andNot 10 12 13 15,fa' 0 1 3 14 0,ld' false 1 14 15 32,fa' 1 1 5 16 0,ld' false 1 16 17 128,ix' 1 15 17 18 480,ld' false 1 18 19 992,bn' .and 13 19 20 2047,mv' 20 8 4095]
def ydcm:LO:=[mv' 8 21 0,o3 (.bin .eql (.tmp 21) (.const (.int .u32 0))) 22 1]
def ydtv:LO:=[fa' 1 1 5 23 0,ld' false 1 23 24 1,fa' 0 1 3 25 0,ld' false 1 25 26 4,fa' 1 1 5 27 0,ld' false 1 27 28 16,ix' 1 26 28 29 60,ld' false 1 29 30 124,o3 (.build [.i .i64 0,.i .u32 0] [(0,1,(.tmp 24)),(1,1,(.tmp 30))]) 31 255,o0 (.store 2 (.tmp 6) (.tmp 31)) 511,o3 (.mv (.const (.bool true))) 7 1023]
def ydpt:LO:=[fa' 1 1 5 32 0,ld' false 1 32 33 1,mv' 8 34 0,o3 (.build [.i .i64 0,.i .u32 0] [(0,1,(.tmp 33)),(1,1,(.tmp 34))]) 35 7,o0 (.store 2 (.tmp 6) (.tmp 35)) 15,o3 (.mv (.const (.bool false))) 7 31]
def c76:SC:=(.seq (.reg false ydev) (.seq (.reg true yczs) (.seq (.seq (.reg false ydcm) (.cond (.tmp 22) (.seq (.reg true ydtv) .ret) .skip)) (.seq (.reg false ydpt) .ret))))
theorem ydkp:Fn 76 c76 [.c 6 true 2,.t 7]:=fn_0 Tryz.func76 (by kernel_rfl) (by kernel_rfl)
def ydio:LO:=[o3 (.box 41 (.tmp 0)) 2 0,o3 (.box 45 (.tmp 1)) 3 0,o3 (.mv (.const (.slice none 0 0))) 4 0,o3 (.mv (ci' 0)) 5 4]
def ydjm:LO:=[o3 (.mkmap 0) 18 0,o3 (.alloc 166 1 [.a (.map none)]) 6 0,o0 (.store 1 (.tmp 6) (.tmp 18)) 3]
def ydoz:LO:=[o3 (.alloc 167 1 [.a (.slice none 0 0)]) 7 0]
def ydqp:LO:=[o3 (.mkfn 137 [] [(.tmp 3),(.tmp 6),(.tmp 7)]) 19 0,mv' 19 8 1]
def ydpu:LO:=[fa' 0 1 2 20 0,ld' false 1 20 21 1,ln' 21 22 3,o3 (.mv (ci' 0)) 23 0]
def yddy:LO:=[bn' .lss 23 22 24 0]
def ydgj:LO:=[mv' 23 25 0,ix' 1 21 23 26 0,ld' false 1 26 27 2,mv' 25 9 7,mv' 27 10 15]
def ydru:LO:=[mv' 8 28 0,mv' 9 29 0,mv' 10 30 0,o3 (.build [.i .i64 0,.i .u32 0] [(0,1,(.tmp 29)),(1,1,(.tmp 30))]) 31 6,o3 (.call (.tmp 28) [(.tmp 31)]) 32 15]
def ydmp:LO:=[o3 (.bin .add (.tmp 23) (ci' 1)) 33 0,mv' 33 23 1]
def ydpb:LO:=[ld' false 1 3 34 0,ln' 34 35 1,o3 (.mk 38 1 24 [.a (.slice none 0 0)] (.tmp 35) (.tmp 35)) 36 3,mv' 36 11 7]
def ycmy:LO:=[o3 (.mv (ci' 0)) 12 0]
def ybkr:LO:=[mv' 12 37 0,ld' false 1 7 38 0,ln' 38 39 2,bn' .lss 37 39 40 7]
def ybsl:LO:=[ld' false 1 7 43 0,ln' 43 44 1,o3 (.bin .gtr (.tmp 44) (ci' 262144)) 45 3]
def ydgu:LO:=[o3 (.mv (.const (.slice none 0 0))) 4 0,o3 (.mv (ci' 3)) 5 1]
def ybym:LO:=[ld' false 1 7 46 0,mv' 12 47 0,ix' 2 46 47 48 3,ld' true 2 48 49 7,o3 (.alloc 109 1 [.i .i64 0,.i .u32 0]) 13 0,o0 (.store 2 (.tmp 13) (.tmp 49)) 31]
def ycbv:LO:=[mv' 11 50 0,fa' 0 1 13 51 0,ld' false 1 51 52 2,mv' 11 53 0,fa' 0 1 13 54 0,ld' false 1 54 55 16,ix' 1 53 55 56 56,ld' false 1 56 57 120,fa' 1 1 13 58 0,ld' false 1 58 59 256,o3 (.bslice 77 1 1 [.i .u32 0] [(0,1,(.tmp 59))]) 60 768,o3 (.app 77 1 4 (.tmp 57) (.tmp 60)) 61 2040,ix' 1 50 52 62 4095,o0 (.store 1 (.tmp 62) (.tmp 61)) 8191]
def ybtq:LO:=[fa' 1 1 2 63 0,ld' false 1 63 64 1,fa' 0 1 13 65 0,ld' false 1 65 66 4,ix' 1 64 66 67 15,ld' false 1 67 68 31,ln' 68 69 63,o3 (.mv (ci' 0)) 70 0]
def ybed:LO:=[bn' .lss 70 69 71 0]
def ybwl:LO:=[ix' 2 68 70 72 0,ld' true 2 72 73 1,o3 (.alloc 103 1 [.i .u32 0,.i .i64 0]) 15 0,o0 (.store 2 (.tmp 15) (.tmp 73)) 7]
def ybuk:LO:=[ld' true 2 2 75 0,ld' true 2 13 76 0,ld' true 2 15 77 0,cl' 76 [75,76,77] 78 7,mv' 78 74 15,xt' 74 0 79 31,xt' 74 1 80 31,o3 (.alloc 109 1 [.i .i64 0,.i .u32 0]) 16 0,o0 (.store 2 (.tmp 16) (.tmp 79)) 191,mv' 80 17 511]
def ybyx:LO:=[mv' 8 81 0,ld' true 2 16 82 0,o3 (.call (.tmp 81) [(.tmp 82)]) 83 3]
def ybwc:LO:=[o3 (.bin .add (.tmp 70) (ci' 1)) 84 0,mv' 84 70 1]
def ybyc:LO:=[mv' 12 41 0,o3 (.bin .add (.tmp 41) (ci' 1)) 42 1,mv' 42 12 3]
def ycll:LO:=[mv' 11 85 0,mv' 85 4 1,o3 (.mv (ci' 0)) 5 3]
def c75:SC:=(.seq (.reg false ydio) (.seq (.reg false ydjm) (.seq (.reg false ydoz) (.seq (.reg false ydqp) (.seq (.seq (.reg false ydpu) (.block 0 (.loop (.seq (.reg false yddy) (.seq (.cond (.tmp 24) .skip (.exit 0)) (.seq (.block 1 (.seq (.reg false ydgj) (.reg false ydru))) (.reg false ydmp))))))) (.seq (.reg false ydpb) (.seq (.seq (.reg false ycmy) (.block 2 (.loop (.seq (.seq (.reg false ybkr) (.cond (.tmp 40) .skip (.exit 2))) (.seq (.block 3 (.seq (.seq (.reg false ybsl) (.cond (.tmp 45) (.seq (.reg false ydgu) .ret) .skip)) (.seq (.reg false ybym) (.seq (.reg true ycbv) (.seq (.reg false ybtq) (.block 4 (.loop (.seq (.reg false ybed) (.seq (.cond (.tmp 71) .skip (.exit 4)) (.seq (.block 5 (.seq (.reg false ybwl) (.seq (.reg false ybuk) (.reg false ybyx)))) (.reg false ybwc))))))))))) (.reg false ybyc)))))) (.seq (.reg false ycll) .ret))))))))
theorem ydda:FnU 75 c75 [.t 4,.t 5]:=fn_u Tryz.func75 (by kernel_rfl) (by kernel_rfl)
def ybkd:LO:=[o3 (.box 109 (.tmp 0)) 4 0]
def ybiy:LO:=[ld' false 1 1 5 0,fa' 0 1 4 6 0,ld' false 1 6 7 2,ix' 1 5 7 8 7,ld' false 1 8 9 15,o3 (.un .not (.tmp 9)) 10 31,mv' 10 11 63,⟨.load false 1 (.tmp 2),some 12,some (11,true),127⟩,⟨.load true 2 (.tmp 4),some 13,some (11,true),127⟩,⟨.mget 0 (.tmp 12) (.tmp 13),some 14,some (11,true),511⟩,⟨.un .not (.tmp 14),some 15,some (11,true),1023⟩,o3 (.pick (.tmp 11) (.tmp 15) (.const (.bool false))) 16 2047]
def ycoq:LO:=[ld' false 1 2 17 0,ld' true 2 4 18 0,o0 (.mset 0 (.tmp 17) (.tmp 18) (.const (.bool true))) 3]
def ycqv:LO:=[ld' false 1 3 19 0,ld' true 2 4 20 0,o3 (.bslice 109 2 1 [.i .i64 0,.i .u32 0] [(0,2,(.tmp 20))]) 21 2,o3 (.app 109 2 16 (.tmp 19) (.tmp 21)) 22 7,o0 (.store 1 (.tmp 3) (.tmp 22)) 15]
def c137:SC:=(.seq (.reg false ybkd) (.seq (.reg false ybiy) (.cond (.tmp 16) (.seq (.reg false ycoq) (.reg false ycqv)) .skip)))
theorem ychu:FnM 137 c137 []:=fn_m Tryz.func137 (by kernel_rfl) (by kernel_rfl)
def ydqc:LO:=[o3 (.box 41 (.tmp 0)) 2 0,o3 (.mv (.const (.slice none 0 0))) 4 0,o3 (.mv (ci' 0)) 5 2]
def ydms:LO:=[ld' true 2 2 24 0,mv' 1 25 0,cl' 74 [24,25] 26 3,mv' 26 23 7,xt' 23 0 27 15,xt' 23 1 28 15,mv' 27 6 31,mv' 28 7 127]
def ydhd:LO:=[mv' 7 29 0,o3 (.bin .neq (.tmp 29) (ci' 0)) 30 1]
def ydus:LO:=[mv' 7 31 0,o3 (.mv (.const (.slice none 0 0))) 4 0,mv' 31 5 3]
def ydhn:LO:=[ld' true 2 2 33 0,mv' 1 34 0,cl' 75 [33,34] 35 3,mv' 35 32 7,xt' 32 0 36 15,xt' 32 1 37 15,mv' 36 8 31,mv' 37 7 127]
def ydoa:LO:=[mv' 7 38 0,o3 (.bin .neq (.tmp 38) (ci' 0)) 39 1]
def yduv:LO:=[mv' 7 40 0,o3 (.mv (.const (.slice none 0 0))) 4 0,mv' 40 5 3]
def ydtu:LO:=[o3 (.mkmap 1) 41 0,mv' 41 9 1]
def ydmu:LO:=[mv' 6 42 0,ln' 42 43 1,o3 (.mv (ci' 0)) 44 0]
def ycxq:LO:=[bn' .lss 44 43 45 0]
def ycui:LO:=[ix' 1 42 44 46 0,ld' false 1 46 47 1,mv' 47 11 3]
def yctb:LO:=[mv' 8 48 0,mv' 11 49 0,ix' 1 48 49 50 3,ld' false 1 50 51 7,ln' 51 52 15,o3 (.mv (ci' 0)) 53 0]
def ycau:LO:=[bn' .lss 53 52 54 0]
def ycou:LO:=[ix' 1 51 53 55 0,ld' false 1 55 56 1,mv' 56 13 3]
def ycvf:LO:=[mv' 11 57 0,mv' 13 58 0,o3 (.build [.i .i64 0,.i .u32 0] [(0,1,(.tmp 57)),(1,1,(.tmp 58))]) 59 3,o3 (.alloc 109 1 [.i .i64 0,.i .u32 0]) 14 0,o0 (.store 2 (.tmp 14) (.tmp 59)) 15]
def yctq:LO:=[o3 (.mv (ci' 1)) 15 0]
def ycqx:LO:=[fa' 1 1 2 60 0,ld' false 1 60 61 1,mv' 11 62 0,ix' 1 61 62 63 7,ld' false 1 63 64 15,ln' 64 65 31,o3 (.mv (ci' 0)) 66 0]
def ybcc:LO:=[bn' .lss 66 65 67 0]
def yblg:LO:=[ix' 2 64 66 68 0,ld' true 2 68 69 1,o3 (.alloc 103 1 [.i .u32 0,.i .i64 0]) 17 0,o0 (.store 2 (.tmp 17) (.tmp 69)) 7]
def ybkl:LO:=[mv' 1 70 0,fa' 1 1 17 71 0,ld' false 1 71 72 2,ix' 1 70 72 73 7,ld' false 1 73 74 15]
def ycbc:LO:=[ld' true 2 2 76 0,ld' true 2 14 77 0,ld' true 2 17 78 0,cl' 76 [76,77,78] 79 7,mv' 79 75 15,xt' 75 0 80 31,xt' 75 1 81 31,o3 (.alloc 109 1 [.i .i64 0,.i .u32 0]) 18 0,o0 (.store 2 (.tmp 18) (.tmp 80)) 191,mv' 81 19 511]
def ybqm:LO:=[mv' 19 82 0]
def yctg:LO:=[mv' 15 83 0,mv' 9 84 0,ld' true 2 18 85 0,o3 (.mget 1 (.tmp 84) (.tmp 85)) 86 6,o3 (.bin .add (ci' 1) (.tmp 86)) 87 14,o3 (.mm true (.tmp 83) (.tmp 87)) 88 31,mv' 88 15 63]
def ycrx:LO:=[mv' 15 89 0,mv' 9 90 0,ld' true 2 18 91 0,o3 (.mget 1 (.tmp 90) (.tmp 91)) 92 6,o3 (.mm true (.tmp 89) (.tmp 92)) 93 15,mv' 93 15 31]
def ybir:LO:=[o3 (.bin .add (.tmp 66) (ci' 1)) 94 0,mv' 94 66 1]
def ycvj:LO:=[mv' 9 95 0,ld' true 2 14 96 0,mv' 15 97 0,o0 (.mset 1 (.tmp 95) (.tmp 96) (.tmp 97)) 7]
def ycjw:LO:=[o3 (.bin .add (.tmp 53) (ci' 1)) 98 0,mv' 98 53 1]
def ycrv:LO:=[o3 (.bin .add (.tmp 44) (ci' 1)) 99 0,mv' 99 44 1]
def ycjn:LO:=[mv' 1 100 0,ln' 100 101 1,o3 (.mk 3 1 8 [.i .i64 0] (.tmp 101) (.tmp 101)) 102 3,mv' 102 20 7]
def yctv:LO:=[fa' 0 1 2 103 0,ld' false 1 103 104 1,ln' 104 105 3,o3 (.mv (ci' 0)) 106 0]
def ybjh:LO:=[bn' .lss 106 105 107 0]
def ycai:LO:=[mv' 106 108 0,ix' 1 104 106 109 0,ld' false 1 109 110 2,mv' 108 21 7,mv' 110 22 15]
def yccj:LO:=[mv' 1 111 0,mv' 21 112 0,ix' 1 111 112 113 3,ld' false 1 113 114 7,o3 (.un .not (.tmp 114)) 115 15]
def yckt:LO:=[mv' 20 116 0,mv' 21 117 0,mv' 9 118 0,mv' 21 119 0,mv' 22 120 0,o3 (.build [.i .i64 0,.i .u32 0] [(0,1,(.tmp 119)),(1,1,(.tmp 120))]) 121 24,o3 (.mget 1 (.tmp 118) (.tmp 121)) 122 60,ix' 1 116 117 123 127,o0 (.store 1 (.tmp 123) (.tmp 122)) 255]
def ybuu:LO:=[o3 (.bin .add (.tmp 106) (ci' 1)) 124 0,mv' 124 106 1]
def ycqd:LO:=[mv' 20 125 0,mv' 125 4 1,o3 (.mv (ci' 0)) 5 3]
def c19:SC:=(.seq (.reg false ydqc) (.seq (.reg false ydms) (.seq (.seq (.reg false ydhd) (.cond (.tmp 30) (.seq (.reg false ydus) .ret) .skip)) (.seq (.reg false ydhn) (.seq (.seq (.reg false ydoa) (.cond (.tmp 39) (.seq (.reg false yduv) .ret) .skip)) (.seq (.reg false ydtu) (.seq (.seq (.reg false ydmu) (.block 0 (.loop (.seq (.reg false ycxq) (.seq (.cond (.tmp 45) .skip (.exit 0)) (.seq (.block 1 (.seq (.reg false ycui) (.seq (.reg false yctb) (.block 2 (.loop (.seq (.reg false ycau) (.seq (.cond (.tmp 54) .skip (.exit 2)) (.seq (.block 3 (.seq (.reg false ycou) (.seq (.reg false ycvf) (.seq (.reg false yctq) (.seq (.seq (.reg false ycqx) (.block 4 (.loop (.seq (.reg false ybcc) (.seq (.cond (.tmp 67) .skip (.exit 4)) (.seq (.block 5 (.seq (.reg false yblg) (.seq (.seq (.reg false ybkl) (.cond (.tmp 74) (.exit 5) .skip)) (.seq (.reg false ycbc) (.seq (.reg false ybqm) (.cond (.tmp 82) (.reg false yctg) (.reg false ycrx))))))) (.reg false ybir))))))) (.reg false ycvj)))))) (.reg false ycjw))))))))) (.reg false ycrv))))))) (.seq (.reg false ycjn) (.seq (.seq (.reg false yctv) (.block 6 (.loop (.seq (.reg false ybjh) (.seq (.cond (.tmp 107) .skip (.exit 6)) (.seq (.block 7 (.seq (.reg false ycai) (.seq (.reg false yccj) (.cond (.tmp 115) (.reg false yckt) .skip)))) (.reg false ybuu))))))) (.seq (.reg false ycqd) .ret))))))))))
theorem ydns:Fn 19 c19 [.t 4,.t 5]:=fn_0 Tryz.func19 (by kernel_rfl) (by kernel_rfl)
def ydnh:LO:=[o3 (.box 92 (.tmp 0)) 1 0,o3 (.mv (.const (.nilFunc))) 2 0]
def ydgm:LO:=[o3 (.mkfn 134 [] [(.tmp 1)]) 3 0,mv' 3 2 1]
def c68:SC:=(.seq (.reg false ydnh) (.seq (.reg false ydgm) .ret))
theorem ydgo:Fn 68 c68 [.t 2]:=fn_0 Tryz.func68 (by kernel_rfl) (by kernel_rfl)
end Sh
end
section
def szP(b:Int×Int):Nat:=(b.2-b.1+1).toNat
def ybq:List (Int×Int)->Nat
 |[]=>1
 |b::bs=>szP b*ybq bs
def ybl:List (List (Int×Int))->Nat
 |[]=>1
 |r::rs=>ybq r*ybl rs
def unR:List (Int×Int)->Nat->List Int×Nat
 |[],k=>([],k)
 |b::bs,k=>((b.1+(((unR bs k).2%szP b:Nat):Int))::(unR bs k).1,(unR bs k).2/szP b)
def unT:List (List (Int×Int))->Nat->Conf×Nat
 |[],k=>([],k)
 |r::rs,k=>((unR r (unT rs k).2).1::(unT rs k).1,(unR r (unT rs k).2).2)
def rkR:List (Int×Int)->List Int->Int
 |b::bs,x::xs=>(x-b.1)*ybq bs+rkR bs xs
 |_,_=>0
def rkT:List (List (Int×Int))->Conf->Int
 |r::rs,c::cs=>rkR r c*ybl rs+rkT rs cs
 |_,_=>0
def inR:List (Int×Int)->List Int->Prop
 |[],[]=>True
 |b::bs,x::xs=>(b.1<=x/\x<=b.2)/\inR bs xs
 |_,_=>False
def inT:List (List (Int×Int))->Conf->Prop
 |[],[]=>True
 |r::rs,c::cs=>inR r c/\inT rs cs
 |_,_=>False
def bdR(bs:List (Int×Int)):Prop:=∀b∈bs,b.1<=b.2
def bdT(rs:List (List (Int×Int))):Prop:=∀r∈rs,bdR r
theorem ynl{b:Int×Int}(h:b.1<=b.2):0<szP b/\(szP b:Int)=b.2-b.1+1:=by unfold szP;omega
theorem yke:∀{bs:List (Int×Int)},bdR bs->0<ybq bs
 |[],_=>by decide
 |b::bs,h=>zAI (ynl (h b zC)).1 (yke fun x hx=>h x (zA _ hx))
theorem yny:∀{rs:List (List (Int×Int))},bdT rs->0<ybl rs
 |[],_=>by decide
 |r::rs,h=>zAI (yke (h r zC)) (yny fun x hx=>h x (zA _ hx))
theorem ybih:∀(bs:List (Int×Int)) (k:Nat),(unR bs k).2=k/ybq bs
 |[],k=>by simp[unR,ybq]
 | b::bs,k=>by
   show(unR bs k).2/szP b=k/(szP b*ybq bs);rw[ybih bs k,zX,zF]
theorem ybrj:∀(rs:List (List (Int×Int))) (k:Nat),(unT rs k).2=k/ybl rs
 |[],k=>by simp[unT,ybl]
 | r::rs,k=>by
   show(unR r (unT rs k).2).2=k/(ybq r*ybl rs);rw[ybih,ybrj rs k,zX,zF]
theorem ycnc:∀(bs:List (Int×Int)) (k:Nat),rkR bs (unR bs k).1=((k%ybq bs:Nat):Int)
 |[],k=>by simp[rkR,ybq,zAJ]
 | b::bs,k=>by
   show(b.1+(((unR bs k).2%szP b:Nat):Int)-b.1)*(ybq bs:Int)+rkR bs (unR bs k).1=((k%(szP b*ybq bs):Nat):Int);rw[ycnc bs k,ybih,zF (szP b),zAK,zF (ybq bs) (k/ybq bs%szP b),zM,zB];rw[show b.1+((k/ybq bs%szP b:Nat):Int)-b.1=((k/ybq bs%szP b:Nat):Int)by omega]
   omega
theorem ycru:∀{bs:List (Int×Int)}(k:Nat),bdR bs->inR bs (unR bs k).1
 |[],_,_=>trivial
 | b::bs,k,h=>by
   have hb:=ynl (h b zC);have hm:=zAP (unR bs k).2 hb.1;exact⟨⟨by omega,by omega⟩,ycru k fun x hx=>h x (zA _ hx)⟩
theorem yvl:∀{rs:List (List (Int×Int))}(k:Nat),bdT rs->inT rs (unT rs k).1
 |[],_,_=>trivial
 |r::rs,k,h=>⟨ycru _ (h r zC),yvl k fun x hx=>h x (zA _ hx)⟩
theorem ybkh:∀(rs:List (List (Int×Int))) (k:Nat),rkT rs (unT rs k).1=((k%ybl rs:Nat):Int)
 |[],k=>by simp[rkT,ybl,zAJ]
 | r::rs,k=>by
   show rkR r (unR r (unT rs k).2).1*(ybl rs:Int)+rkT rs (unT rs k).1=((k%(ybq r*ybl rs):Nat):Int);rw[ycnc,ybkh rs k,ybrj,zF (ybq r),zAK,zF (ybl rs) (k/ybl rs%ybq r),zM,zB];omega
theorem yclu:∀{bs:List (Int×Int)}{xs:List Int},inR bs xs->0<=rkR bs xs/\rkR bs xs<ybq bs/\∀m:Nat,unR bs ((rkR bs xs).toNat+m*ybq bs)=(xs,m)
 |[],[],_=>⟨by simp[rkR],by simp[rkR,ybq],fun m=>by simp[rkR,unR,ybq]⟩
 |[],_::_,h=>h.elim
 |_::_,[],h=>h.elim
 | b :: bs,x::xs,⟨⟨h1,h2⟩,h3⟩=>by
   obtain⟨i1,i2,i3⟩:=yclu h3;obtain⟨s1,s2⟩:=ynl (show b.1<=b.2 by omega)
   obtain⟨d,hd⟩:∃d:Nat,x-b.1=d:=⟨(x-b.1).toNat,by omega⟩
   obtain⟨r,hr⟩:∃r:Nat,rkR bs xs=r:=⟨(rkR bs xs).toNat,by omega⟩
   have hds:d+1<=szP b:=by omega
   have e:rkR (b::bs) (x::xs)=((d*ybq bs+r:Nat):Int):=by
    show(x-b.1)*(ybq bs:Int)+rkR bs xs=_;rw[hd,hr,zM,zB]
   have hlt:d*ybq bs+r<szP b*ybq bs:=by
    have:=zY (ybq bs) hds;rw[zAF]at this;omega
   rw[e];refine⟨by omega,by show((d*ybq bs+r:Nat):Int)<((szP b*ybq bs:Nat):Int);omega,fun m=>?_⟩
   have i4:=i3 (d+m*szP b)
   have e2:((d*ybq bs+r:Nat):Int).toNat+m*(szP b*ybq bs)=(rkR bs xs).toNat+(d+m*szP b)*ybq bs:=by
    rw[hr,zG,zG,zAL,zO];omega
   have e3:unR bs (((d*ybq bs+r:Nat):Int).toNat+m*ybq (b::bs))=(xs,d+m*szP b):=by
    rw[<-i4,<-e2];rfl
   show((b.1+(((unR bs _).2%szP b:Nat):Int))::(unR bs _).1,(unR bs _).2/szP b)=_;rw[e3];simp only;rw[Nat.add_mul_mod_self_right,zH (by omega),Nat.add_mul_div_right _ _ s1,Nat.div_eq_of_lt (by omega),<-hd]
   simp only[Nat.zero_add,Prod.mk.injEq,List.cons.injEq,and_true];omega
theorem yvv:∀{rs:List (List (Int×Int))}{c:Conf},inT rs c->0<=rkT rs c/\rkT rs c<ybl rs/\∀m:Nat,unT rs ((rkT rs c).toNat+m*ybl rs)=(c,m)
 |[],[],_=>⟨by simp[rkT],by simp[rkT,ybl],fun m=>by simp[rkT,unT,ybl]⟩
 |[],_::_,h=>h.elim
 |_::_,[],h=>h.elim
 | b :: bs,x::xs,⟨h1,h3⟩=>by
   obtain⟨i1,i2,i3⟩:=yvv h3;obtain⟨j1,j2,j3⟩:=yclu h1;obtain⟨d,hd⟩:∃d:Nat,rkR b x=d:=⟨(rkR b x).toNat,by omega⟩
   obtain⟨r,hr⟩:∃r:Nat,rkT bs xs=r:=⟨(rkT bs xs).toNat,by omega⟩
   have hds:d+1<=ybq b:=by omega
   have e:rkT (b::bs) (x::xs)=((d*ybl bs+r:Nat):Int):=by
    show rkR b x*(ybl bs:Int)+rkT bs xs=_;rw[hd,hr,zM,zB]
   have hlt:d*ybl bs+r<ybq b*ybl bs:=by
    have:=zY (ybl bs) hds;rw[zAF]at this;omega
   rw[e];refine⟨by omega,by show((d*ybl bs+r:Nat):Int)<((ybq b*ybl bs:Nat):Int);omega,fun m=>?_⟩
   have i4:=i3 (d+m*ybq b)
   have e2:((d*ybl bs+r:Nat):Int).toNat+m*(ybq b*ybl bs)=(rkT bs xs).toNat+(d+m*ybq b)*ybl bs:=by
    rw[hr,zG,zG,zAL,zO];omega
   have e3:unT bs (((d*ybl bs+r:Nat):Int).toNat+m*ybl (b::bs))=(xs,d+m*ybq b):=by
    rw[<-i4,<-e2];rfl
   have j4:=j3 m;rw[hd,zG]at j4;show((unR b (unT bs _).2).1::(unT bs _).1,(unR b (unT bs _).2).2)=_;rw[e3];simp only;rw[j4]
theorem ybje{rs:List (List (Int×Int))}{c:Conf}(h:inT rs c):(unT rs (rkT rs c).toNat).1=c:=by
 have:=(yvv h).2.2 0;rw[Nat.zero_mul,Nat.add_zero]at this;rw[this]
theorem ydau{rs:List (List (Int×Int))}{c d:Conf}(hc:inT rs c)(hd:inT rs d)(e:rkT rs c=rkT rs d):c=d:=by
 rw[<-ybje hc,e,ybje hd]
end
section
def advR:List (Int×Int)->List Int->List Int×Bool
 |b::bs,x::xs=>if (advR bs xs).2 then(x::(advR bs xs).1,true)else if x<b.2 then((x+1)::(advR bs xs).1,true)else(b.1::(advR bs xs).1,false)
 |_,_=>([],false)
def advT:List (List (Int×Int))->Conf->Conf×Bool
 |r::rs,c::cs=>if (advT rs cs).2 then(c::(advT rs cs).1,true)else((advR r c).1::(advT rs cs).1,(advR r c).2)
 |_,_=>([],false)
theorem ybrq:∀{bs:List (Int×Int)}{xs:List Int},inR bs xs->inR bs (advR bs xs).1/\((advR bs xs).2=true->rkR bs (advR bs xs).1=rkR bs xs+1)/\((advR bs xs).2=false->rkR bs (advR bs xs).1=0/\rkR bs xs+1=ybq bs)
 |[],[],_=>⟨trivial,(fun h=>by cases h),fun _=>⟨rfl,rfl⟩⟩
 |[],_::_,h=>h.elim
 |_::_,[],h=>h.elim
 | b :: bs,x::xs,⟨⟨h1,h2⟩,h3⟩=>by
   obtain⟨i1,i2,i3⟩:=ybrq h3;obtain⟨s1,s2⟩:=ynl (show b.1<=b.2 by omega)
   unfold advR;cases hf:(advR bs xs).2 with
   | true =>
     have e:=i2 hf;simp only[if_true];refine⟨⟨⟨h1,h2⟩,i1⟩,fun _=>?_,fun h=>by cases h⟩
     show(x-b.1)*(ybq bs:Int)+rkR bs (advR bs xs).1=(x-b.1)*(ybq bs:Int)+rkR bs xs+1;rw[e];omega
   | false =>
     obtain⟨e1,e2⟩:=i3 hf;simp only[zZ,if_false]
     by_cases hx:x<b.2
     .rw[if_pos hx];refine⟨⟨⟨by omega,by omega⟩,i1⟩,fun _=>?_,fun h=>by cases h⟩
      show(x+1-b.1)*(ybq bs:Int)+rkR bs (advR bs xs).1=(x-b.1)*(ybq bs:Int)+rkR bs xs+1;rw[e1,show x+1-b.1=(x-b.1)+1 by omega,zK]
      omega
     .rw[if_neg hx];refine⟨⟨⟨by omega,by omega⟩,i1⟩,(fun h=>by cases h),fun _=>⟨?_,?_⟩⟩
      .show(b.1-b.1)*(ybq bs:Int)+rkR bs (advR bs xs).1=0;rw[e1,zAG];simp
      .show(x-b.1)*(ybq bs:Int)+rkR bs xs+1=((szP b*ybq bs:Nat):Int);rw[zB,s2,show b.2-b.1+1=(x-b.1)+1 by omega,zK]
       omega
theorem ybws:∀{rs:List (List (Int×Int))}{c:Conf},inT rs c->inT rs (advT rs c).1/\((advT rs c).2=true->rkT rs (advT rs c).1=rkT rs c+1)/\((advT rs c).2=false->rkT rs (advT rs c).1=0/\rkT rs c+1=ybl rs)
 |[],[],_=>⟨trivial,(fun h=>by cases h),fun _=>⟨rfl,rfl⟩⟩
 |[],_::_,h=>h.elim
 |_::_,[],h=>h.elim
 | b :: bs,x::xs,⟨h1,h3⟩=>by
   obtain⟨i1,i2,i3⟩:=ybws h3;obtain⟨j1,j2,j3⟩:=ybrq h1;unfold advT;cases hf:(advT bs xs).2 with
   | true =>
     have e:=i2 hf;simp only[if_true];refine⟨⟨h1,i1⟩,fun _=>?_,fun h=>by cases h⟩
     show rkR b x*(ybl bs:Int)+rkT bs (advT bs xs).1=rkR b x*(ybl bs:Int)+rkT bs xs+1;rw[e];omega
   | false =>
     obtain⟨e1,e2⟩:=i3 hf;simp only[zZ,if_false];refine⟨⟨j1,i1⟩,fun h=>?_,fun h=>⟨?_,?_⟩⟩
     .show rkR b (advR b x).1*(ybl bs:Int)+rkT bs (advT bs xs).1=rkR b x*(ybl bs:Int)+rkT bs xs+1;rw[e1,j2 h,zK];omega
     .show rkR b (advR b x).1*(ybl bs:Int)+rkT bs (advT bs xs).1=0;rw[e1,(j3 h).1];simp
     .show rkR b x*(ybl bs:Int)+rkT bs xs+1=((ybq b*ybl bs:Nat):Int);rw[zB,<-(j3 h).2,zK];omega
theorem ycxo{rs:List (List (Int×Int))}{k:Nat}(hb:bdT rs)(hk:k+1<ybl rs):(advT rs (unT rs k).1).1=(unT rs (k+1)).1:=by
 have hi:=yvl k hb;obtain⟨h1,h2,h3⟩:=ybws hi;have e:=ybkh rs k;rw[zH (by omega)]at e
 have ht:(advT rs (unT rs k).1).2=true:=by
  cases hf:(advT rs (unT rs k).1).2 with
  |true=>rfl
  |false=>have:=(h3 hf).2;omega
 refine ydau h1 (yvl _ hb) ?_;rw[h2 ht,e,ybkh,zH hk];omega
def yod(rs:List (List (Int×Int))):Conf:=rs.map (·.map (·.1))
theorem ybcp:∀{bs:List (Int×Int)},bdR bs->inR bs (bs.map (·.1))/\rkR bs (bs.map (·.1))=0
 |[],_=>⟨trivial,rfl⟩
 | b::bs,h=>by
   obtain⟨i1,i2⟩:=ybcp (bs:=bs) fun x hx=>h x (zA _ hx);refine⟨⟨⟨Int.le_refl _,h b zC⟩,i1⟩,?_⟩;show(b.1-b.1)*(ybq bs:Int)+rkR bs (bs.map (·.1))=0;rw[i2,zAG];simp
theorem ybcm:∀{rs:List (List (Int×Int))},bdT rs->inT rs (yod rs)/\rkT rs (yod rs)=0
 |[],_=>⟨trivial,rfl⟩
 | r::rs,h=>by
   obtain⟨i1,i2⟩:=ybcm (rs:=rs) fun x hx=>h x (zA _ hx);obtain⟨j1,j2⟩:=ybcp (h r zC);refine⟨⟨j1,i1⟩,?_⟩;show rkR r (r.map (·.1))*(ybl rs:Int)+rkT rs (yod rs)=0;rw[i2,j2];simp
theorem ybsf{rs:List (List (Int×Int))}(h:bdT rs):(unT rs 0).1=yod rs:=by
 obtain⟨h1,h2⟩:=ybcm h;have:=ybje h1;rw[h2]at this;exact this
def plR:List (Int×Int)->Nat->List Int×Nat
 |[],p=>([],p)
 |b::bs,p=>(((plR bs p).2:Int)::(plR bs p).1,(plR bs p).2*szP b)
def plT:List (List (Int×Int))->Nat->List (List Int)×Nat
 |[],p=>([],p)
 |r::rs,p=>((plR r (plT rs p).2).1::(plT rs p).1,(plR r (plT rs p).2).2)
theorem yof:∀(bs:List (Int×Int)) (p:Nat),(plR bs p).2=p*ybq bs
 |[],p=>(zAM p).symm
 | b::bs,p=>by
   show(plR bs p).2*szP b=p*(szP b*ybq bs);rw[yof bs p,zO,zF (szP b)]
theorem yyf:∀(rs:List (List (Int×Int))) (p:Nat),(plT rs p).2=p*ybl rs
 |[],p=>(zAM p).symm
 | r::rs,p=>by
   show(plR r (plT rs p).2).2=p*(ybq r*ybl rs);rw[yof,yyf rs p,zO,zF (ybq r)]
theorem ybgh:∀(bs:List (Int×Int)) (p:Nat),(plR bs p).1.length=bs.length
 |[],_=>rfl
 |b::bs,p=>by show(plR bs p).1.length+1=_;rw[ybgh bs p];rfl
theorem yyc:∀(rs:List (List (Int×Int))) (p:Nat),(plT rs p).1.length=rs.length
 |[],_=>rfl
 |r::rs,p=>by show(plT rs p).1.length+1=_;rw[yyc rs p];rfl
def grR:List Int->List Int->List Int->Int
 |y::ys,x::xs,q::qs=>(y-x)*q+grR ys xs qs
 |_,_,_=>0
def grT:Conf->Conf->List (List Int)->Int
 |d::ds,c::cs,q::qs=>grR d c q+grT ds cs qs
 |_,_,_=>0
theorem ycwk:∀{bs:List (Int×Int)}{xs ys:List Int}(p:Nat),inR bs xs->inR bs ys->grR ys xs (plR bs p).1=(rkR bs ys-rkR bs xs)*(p:Int)
 |[],[],[],p,_,_=>by simp[grR,rkR]
 |[],_::_,_,_,h,_=>h.elim
 |[],[],_::_,_,_,h=>h.elim
 |_::_,[],_,_,h,_=>h.elim
 |_::_,_::_,[],_,_,h=>h.elim
 | b::bs,x::xs,y::ys,p,h,h'=>by
   show(y-x)*((plR bs p).2:Int)+grR ys xs (plR bs p).1=((y-b.1)*(ybq bs:Int)+rkR bs ys-((x-b.1)*(ybq bs:Int)+rkR bs xs))*(p:Int);rw[ycwk p h.2 h'.2,yof,zB,show((y-b.1)*(ybq bs:Int)+rkR bs ys-((x-b.1)*(ybq bs:Int)+rkR bs xs))=(y-x)*(ybq bs:Int)+(rkR bs ys-rkR bs xs)by simp only[zAN];omega,zK,zAH (p:Int),zAE]
theorem ycuo:∀{rs:List (List (Int×Int))}{c d:Conf}(p:Nat),inT rs c->inT rs d->grT d c (plT rs p).1=(rkT rs d-rkT rs c)*(p:Int)
 |[],[],[],p,_,_=>by simp[grT,rkT]
 |[],_::_,_,_,h,_=>h.elim
 |[],[],_::_,_,_,h=>h.elim
 |_::_,[],_,_,h,_=>h.elim
 |_::_,_::_,[],_,_,h=>h.elim
 | b::bs,x::xs,y::ys,p,h,h'=>by
   show grR y x (plR b (plT bs p).2).1+grT ys xs (plT bs p).1=(rkR b y*(ybl bs:Int)+rkT bs ys-(rkR b x*(ybl bs:Int)+rkT bs xs))*(p:Int);rw[ycwk _ h.1 h'.1,ycuo p h.2 h'.2,yyf,zB,show(rkR b y*(ybl bs:Int)+rkT bs ys-(rkR b x*(ybl bs:Int)+rkT bs xs))=(rkR b y-rkR b x)*(ybl bs:Int)+(rkT bs ys-rkT bs xs)by rw[zAN];omega,zK,zAH (p:Int),zAE]
def sumI(f:Nat->Int):Nat->Int
 |0=>0
 |n+1=>sumI f n+f n
theorem ykl(f:Nat->Int):∀n,sumI f (n+1)=f 0+sumI (fun i=>f (i+1)) n
 |0=>by simp[sumI]
 | n+1=>by
   show sumI f (n+1)+f (n+1)=f 0+(sumI (fun i=>f (i+1)) n+f (n+1));rw[ykl f n];omega
theorem ywz{f g:Nat->Int}:∀{n:Nat},(∀i,i<n->f i=g i)->sumI f n=sumI g n
 |0,_=>rfl
 | n+1,h=>by
   show sumI f n+f n=sumI g n+g n;rw[ywz fun i hi=>h i (by omega),h n (by omega)]
theorem ybsc:∀{ys xs qs:List Int},ys.length=xs.length->qs.length=xs.length->grR ys xs qs=sumI (fun i=>(ys.getD i 0-xs.getD i 0)*qs.getD i 0) xs.length
 |[],[],[],_,_=>rfl
 | y::ys,x::xs,q::qs,h1,h2=>by
   show(y-x)*q+grR ys xs qs=sumI _ (xs.length+1);rw[ykl,ybsc (by simpa using h1) (by simpa using h2)]
   rfl
theorem ybyu:∀{d c:Conf}{qs:List (List Int)},d.length=c.length->qs.length=c.length->grT d c qs=sumI (fun i=>grR (d.getD i []) (c.getD i []) (qs.getD i [])) c.length
 |[],[],[],_,_=>rfl
 | y::ys,x::xs,q::qs,h1,h2=>by
   show grR y x q+grT ys xs qs=sumI _ (xs.length+1);rw[ykl,ybyu (by simpa using h1) (by simpa using h2)]
   rfl
end
section
structure Loop(S:Sys)(V:Conf->Prop)(c:Nat->Conf)(s:Nat->Nat)(m:Nat):Prop where
 pos:0<m
 per:∀i,c (i+m)=c i
 val:∀i,V (c i)
 ne:∀i,s i≠0
 sub:∀i,subB (s i) (S.en (c i))
 nx:∀i,c (i+1)=S.mv (c i) (s i)
section
variable {S:Sys}{V:Conf->Prop}{c:Nat->Conf}{s:Nat->Nat}{m:Nat}
end
end
section
theorem ydqo{N:Nat}{f:Nat->Nat}(h:∀i,f i<N):∃i m,0<m/\f (i+m)=f i:=by
 refine zD fun hc=>?_;have inj:∀i j,i<j->f i≠f j:=fun i j hij e=>hc ⟨i,j-i,by omega,by rw[show i+(j-i)=j by omega,e]⟩
 have hn:((zQ (N+1)).map f).Nodup:=by
  unfold List.Nodup;rw[List.pairwise_map];exact List.pairwise_lt_range.imp fun {a b} hab=>inj a b hab
 have:=yhe (l2:=zQ N) hn fun x hx=>by
  obtain⟨i,_,rfl⟩:=List.mem_map.1 hx;exact List.mem_range.2 (h i)
 simp at this;omega
structure Back(N:Nat)(arcs:Nat->List (Nat×Nat))(f:Nat->Nat)(m:Nat):Prop where
 pos:0<m
 per:∀i,f (i+m)=f i
 lt:∀i,f i<N
 arc:∀i,∃a∈arcs (f i),a.2=f (i+1)
theorem yceh{m t:Nat}(hm:0<m):((t+1)%m=t%m+1)\/(t%m+1=m/\(t+1)%m=0):=by
 have h1:=zAP t hm;rcases zS (t%m+1) m with h|h
 .left
  rw[Nat.add_mod];rcases zS 1 m with h2|h2
  .rw[zH h2,zH h]
  .omega
 .right
  refine⟨by omega,?_⟩
  have e:t+1=m*(t/m)+m:=by
   have:=Nat.div_add_mod t m;omega
  rw[e,Nat.mul_add_mod,Nat.mod_self]
theorem ycyi {N:Nat}{arcs:Nat->List (Nat×Nat)}{set:Nat->Bool}{L:List Nat}(hset:∀k,k<N->set k=true->k∈L)
 (hcl:∀k,k<N->set k=false->arcs k≠[]->(∀a∈arcs k,a.2∈L)->k∈L) (hto:∀k,k<N->∀a∈arcs k,a.2<N) (hne:∀k,k<N->set k=false->arcs k≠[])
 (hcyc:∀f m,Back N arcs f m->False):∀k,k<N->k∈L:=by
 classical
 intro k0 h0;refine zD fun hk0=>?_
 have step:∀k:Nat,∃k',(k<N/\¬k∈L)->(k'<N/\¬k'∈L)/\∃a∈arcs k,a.2=k':=fun k=>by
  by_cases hk:k<N/\¬k∈L
  .have hs:set k=false:=by
    cases hs:set k with
    |false=>rfl
    |true=>exact absurd (hset k hk.1 hs) hk.2
   obtain⟨a,ha,hn⟩:∃a∈arcs k,¬a.2∈L:=zD fun hc =>
    hk.2 (hcl k hk.1 hs (hne k hk.1 hs) fun a ha=>zD fun hn=>hc ⟨a,ha,hn⟩)
   exact⟨a.2,fun _=>⟨⟨hto k hk.1 a ha,hn⟩,a,ha,rfl⟩⟩
  .exact⟨0,fun h=>absurd h hk⟩
 let nx:Nat->Nat:=fun k=>(step k).choose
 have hnx:∀k,(k<N/\¬k∈L)->(nx k<N/\¬nx k∈L)/\∃a∈arcs k,a.2=nx k:=fun k=>(step k).choose_spec
 let f:Nat->Nat:=fun i=>Nat.rec k0 (fun _ k=>nx k) i
 have f1:∀i,f (i+1)=nx (f i):=fun i=>rfl
 have hf:∀i,f i<N/\¬f i∈L:=fun i=>by
  induction i with
  |zero=>exact⟨h0,hk0⟩
  |succ i ih=>rw[f1];exact(hnx _ ih).1
 obtain⟨i,m,hm,e⟩:=ydqo fun i=>(hf i).1;refine hcyc (fun t=>f (i+t%m)) m ⟨hm,fun t=>by simp,fun t=>(hf _).1,fun t=>?_⟩
 obtain⟨a,ha,ea⟩:=(hnx _ (hf (i+t%m))).2;refine⟨a,ha,ea.trans ?_⟩;rw[<-f1];rcases yceh (t:=t) hm with h|⟨h,h'⟩
 .rw[h];rfl
 .rw[h',show i+t%m+1=i+m by omega,e];rfl
theorem ycyt{N:Nat}{L:List Nat}(h:∀k,k<N->k∈L):N<=L.length:=by
 have:=yhe (l1:=zQ N) (l2:=L) List.nodup_range fun x hx=>h x (List.mem_range.1 hx)
 simpa using this
def yqv(l:List (Nat×Nat))(A:List Nat):Nat:=l.countP fun a=>A.contains a.2
theorem ybyo{l:List (Nat×Nat)}{A:List Nat}:yqv l A=l.length↔∀a∈l,a.2∈A:=by
 unfold yqv;rw[List.countP_eq_length];simp
theorem ybwj(l:List (Nat×Nat)):yqv l []=0:=by
 unfold yqv;rw[List.countP_eq_zero];simp
theorem ybps{l:List (Nat×Nat)}{A:List Nat}{x:Nat}(hx:x∉A):yqv l (A++[x])=yqv l A+l.countP fun a=>a.2==x:=by
 unfold yqv
 induction l with
 |nil=>rfl
 | cons a l ih =>
   rw[zT,zT,zT,ih]
   by_cases h1:a.2=x
   .have:A.contains a.2=false:=by rw[h1];simpa using hx
    have h2:(A++[x]).contains a.2=true:=by simp[h1]
    rw[this,h2];simp[h1];omega
   .have h2:(A++[x]).contains a.2=A.contains a.2:=by
     simp[h1]
    rw[h2];simp[h1];omega
end
section
theorem ylz{α:Type}{l:List α}{k:Nat}{d:α}(h:k<l.length):l.getD k d=l[k]:=by simp[zAQ,h]
structure Spc where
 N:Nat
 en:Nat->Nat
 arcs:Nat->List (Nat×Nat)
def ybem(l:List (Nat×Nat))(i:Nat):Nat:=if i=0 then 0 else(l.getD (i-1) (0,0)).1
def sumA(S:Spc):Nat->Nat
 |0=>0
 |k+1=>sumA S k+(S.arcs k).length
structure Spc.ok(S:Spc):Prop where
 pos:0<S.N
 le:S.N<=32768
 lt:∀k,k<S.N->S.en k<2^24
 ne:∀k,k<S.N->(S.en k=0↔(S.arcs k).length=0)
 sub:∀k,k<S.N->∀i,i<(S.arcs k).length->((S.arcs k).getD i (0,0)).1<2^24/\difB ((S.arcs k).getD i (0,0)).1 (S.en k)=0
 asc:∀k,k<S.N->∀i,i<(S.arcs k).length->ybem (S.arcs k) i<((S.arcs k).getD i (0,0)).1
 to:∀k,k<S.N->∀i,i<(S.arcs k).length->((S.arcs k).getD i (0,0)).2<S.N
 tot:sumA S S.N<=262144
theorem ykd(S:Spc):∀{n k:Nat},k<=n->sumA S k<=sumA S n
 |0,k,h=>by rw[Nat.le_zero.1 h];exact zAO _
 | n + 1,k,h=>by
   rcases zS k (n+1)with q|q
   .have:=ykd S (n:=n) (k:=k) (by omega)
    show _<=sumA S n+_;omega
   .rw[show k=n+1 by omega];exact zAO _
theorem Spc.ok.len{S:Spc}(h:S.ok){k:Nat}(hk:k<S.N):(S.arcs k).length<=262144:=by
 have h1:=ykd S (n:=S.N) (k:=k+1) (by omega)
 have h2:=h.tot;have:sumA S (k+1)=sumA S k+(S.arcs k).length:=rfl;omega
theorem Spc.ok.mem{S:Spc}(h:S.ok){k:Nat}(hk:k<S.N){a:Nat×Nat}(ha:a∈S.arcs k):a.2<S.N:=by
 obtain⟨i,hi,rfl⟩:=List.getElem_of_mem ha;have:=h.to k hk i hi
 rwa [ylz hi]at this
def yft(S:Spc)(k i:Nat):List (Nat×Nat):=(zQ k).flatMap (fun q=>(S.arcs q).map fun a=>(q,a.2))++((S.arcs k).take i).map fun a=>(k,a.2)
def ygm(S:Spc)(k i j:Nat):List Nat:=((yft S k i).filter fun p=>p.2==j).map (·.1)
theorem yqc(S:Spc)(k:Nat):yft S k (S.arcs k).length=yft S (k+1) 0:=by
 unfold yft;rw[zI,List.range_succ,List.flatMap_append];simp
theorem ywo(S:Spc)(k j:Nat):ygm S k (S.arcs k).length j=ygm S (k+1) 0 j:=by unfold ygm;rw[yqc]
theorem yws(S:Spc)(j:Nat):ygm S 0 0 j=[]:=rfl
theorem ybdr(S:Spc){k i:Nat}(hi:i<(S.arcs k).length):yft S k (i+1)=yft S k i++[(k,((S.arcs k).getD i (0,0)).2)]:=by
 unfold yft;rw[zL hi,zU,<-List.append_assoc,ylz hi];rfl
theorem ybnz(S:Spc){k i:Nat}(hi:i<(S.arcs k).length)(j:Nat):ygm S k (i+1) j=if j=((S.arcs k).getD i (0,0)).2 then ygm S k i j++[k]else ygm S k i j:=by
 unfold ygm;rw[ybdr S hi,zAA,zU]
 by_cases q:j=((S.arcs k).getD i (0,0)).2
 .rw[if_pos q];have:((k,((S.arcs k).getD i (0,0)).2).2==j)=true:=by rw[q];exact beq_self_eq_true _
  rw[zAD,this];rfl
 .rw[if_neg q];have:((k,((S.arcs k).getD i (0,0)).2).2==j)=false:=by rw[beq_eq_false_iff_ne];exact Ne.symm q
  rw[zAD,this];simp
theorem ylv(S:Spc):∀k,(yft S k 0).length=sumA S k
 |0=>rfl
 | k+1=>by
   rw[<-yqc];have ih:=ylv S k;unfold yft at ih ⊢;simp only[zN,zAB,zV]at ih;rw[zJ,ih,zI,zW];rfl
theorem ysw{S:Spc}(h:S.ok){k i:Nat}(hk:k<=S.N)(hi:k<S.N->i<=(S.arcs k).length)(hi0:k=S.N->i=0)(j:Nat):(ygm S k i j).length<=262144:=by
 have h1:(yft S k i).length<=262144:=by
  rcases zS k S.N with q|q
  .have h2:=ykd S (n:=S.N) (k:=k+1) (by omega)
   have h3:=h.tot;have h4:=ylv S k;unfold yft at h4 ⊢;simp only[zN,zAB,zV]at h4;rw[zJ,h4,zW,List.length_take];have:sumA S (k+1)=sumA S k+(S.arcs k).length:=rfl;omega
  .rw[hi0 (by omega),ylv,show k=S.N by omega];exact h.tot
 unfold ygm;rw[zW];exact Nat.le_trans (List.length_filter_le _ _) h1
theorem ycez{S:Spc}{k i j:Nat}(hk:k<S.N\/i=0/\k<=S.N):∀x∈ygm S k i j,x<S.N:=fun x hx=>by
 unfold ygm at hx;obtain⟨p,hp,rfl⟩:=List.mem_map.1 hx;have hp:=(List.mem_filter.1 hp).1;unfold yft at hp;rcases List.mem_append.1 hp with q|q
 .obtain⟨y,hy,q⟩:=List.mem_flatMap.1 q;obtain⟨a,_,rfl⟩:=List.mem_map.1 q;have:=List.mem_range.1 hy;show y<S.N;omega
 .obtain⟨a,ha,rfl⟩:=List.mem_map.1 q;rcases hk with h|⟨h,_⟩
  .exact h
  .rw[h]at ha;simp at ha
def srcS(S:Spc)(j:Nat):List Nat:=ygm S S.N 0 j
theorem ybcy{S:Spc}{k:Nat}(j:Nat):∀n,(ygm S n 0 j).count k=if k<n then(S.arcs k).countP (fun a=>a.2==j)else 0
 |0=>by simp[yws]
 | n + 1=>by
   have ih:=ybcy (S:=S) (k:=k) j n
   have e:ygm S (n+1) 0 j=ygm S n 0 j++((S.arcs n).filter fun a=>a.2==j).map fun _=>n:=by
    rw[<-ywo];unfold ygm yft;simp only[zI,zN,zAB,zV,zAA,zU,List.filter_map,List.map_map];rfl
   rw[e,zAC,ih]
   by_cases q:k=n
   .subst q;rw[if_neg (by omega),if_pos (by omega),List.map_const',List.count_replicate_self,<-List.countP_eq_length_filter]
    omega
   .rw[List.count_eq_zero.2 (fun hm=>q (by obtain⟨_,_,rfl⟩:=List.mem_map.1 hm;rfl))]
    by_cases q2:k<n
    .rw[if_pos q2,if_pos (by omega)];omega
    .rw[if_neg q2,if_neg (by omega)]
structure OrdI(S:Spc)(lg:Nat->Bool)(L:List Nat)(i j:Nat)(E:Nat->Nat):Prop where
 nd:L.Nodup
 lt:∀x∈L,x<S.N
 set:∀k,k<S.N->lg k=true->k∈L
 hi:i<=L.length
 cnt:∀k,k<S.N->E k=yqv (S.arcs k) (L.take i)+(if i<L.length then((srcS S (L.getD i 0)).take j).count k else 0)
 inn:∀k,k<S.N->lg k=false->(k∈L↔0<(S.arcs k).length/\E k=(S.arcs k).length)
section
variable {S:Spc}{lg:Nat->Bool}{L:List Nat}{i j:Nat}{E:Nat->Nat}
theorem OrdI.start(hnd:L.Nodup)(hlt:∀x∈L,x<S.N)(hset:∀k,k<S.N->(k∈L↔lg k=true)):OrdI S lg L 0 0 fun _=>0 :=
 ⟨hnd,hlt,fun k hk h=>(hset k hk).2 h,Nat.zero_le _,fun k hk=>by rw[zN,ybwj];simp,fun k hk h=>⟨fun hm=>(by rw[(hset k hk).1 hm]at h;cases h),fun q=>by omega⟩⟩
theorem yge{α:Type}{l:List α}{i:Nat}(d:α)(hi:i<l.length):l.take (i+1)=l.take i++[l.getD i d]:=by
 rw[zL hi,ylz hi]
theorem OrdI.cnt_le(h:OrdI S lg L i j E)(hi:i<L.length){k:Nat}(hk:k<S.N):yqv (S.arcs k) (L.take i)+(srcS S (L.getD i 0)).count k=yqv (S.arcs k) (L.take (i+1)):=by
 rw[yge 0 hi,ybps]
 .unfold srcS;rw[ybcy,if_pos hk]
 .intro hm;have:=h.nd;rw[<-List.take_append_drop (i+1) L,yge 0 hi]at this;have h2:=(List.nodup_append.1 (List.nodup_append.1 this).1).2.2;exact h2 _ hm _ (List.mem_singleton.2 rfl) rfl
theorem ycgc(l:List (Nat×Nat))(A:List Nat):yqv l A<=l.length:=List.countP_le_length
theorem yjw{l:List Nat}{j:Nat}(hj:j<l.length)(k:Nat):(l.take (j+1)).count k=(l.take j).count k+if l.getD j 0=k then 1 else 0:=by
 rw[yge 0 hj,zAC,List.count_singleton];simp
theorem OrdI.step(h:OrdI S lg L i j E)(hi:i<L.length)(hj:j<(srcS S (L.getD i 0)).length){k:Nat}(hk:(srcS S (L.getD i 0)).getD j 0=k)(hkN:k<S.N) :
 E k<(S.arcs k).length/\(let E':=fun q=>if q=k then E k+1 else E q
 OrdI S lg (if lg k=false/\E k+1=(S.arcs k).length then L++[k]else L) i (j+1) E'):=by
 have hlt:E k<(S.arcs k).length:=by
  have h1:=h.cnt k hkN;rw[if_pos hi]at h1;have h2:=h.cnt_le hi hkN;have h3:=ycgc (S.arcs k) (L.take (i+1));have h4:=yjw hj k;rw[if_pos hk]at h4;have h5:((srcS S (L.getD i 0)).take (j+1)).count k<=(srcS S (L.getD i 0)).count k:=(List.take_sublist _ _).count_le _;omega
 refine⟨hlt,?_⟩
 have hcnt:∀q,q<S.N->(if q=k then E k+1 else E q)=yqv (S.arcs q) (L.take i)+((srcS S (L.getD i 0)).take (j+1)).count q:=fun q hq=>by
  have h1:=h.cnt q hq;rw[if_pos hi]at h1;rw[yjw hj q,hk]
  by_cases e:q=k
  .subst e;rw[if_pos rfl,if_pos rfl];omega
  .rw[if_neg e,if_neg (Ne.symm e)];omega
 by_cases q:lg k=false/\E k+1=(S.arcs k).length
 .simp only[if_pos q]
  have hno:k∉L:=fun hm=>by
   have:=((h.inn k hkN q.1).1 hm).2;omega
  refine⟨?_,fun x hx=>?_,fun x hx hl=>List.mem_append_left _ (h.set x hx hl),by rw[zJ];have:=h.hi;omega,fun x hx=>?_,fun x hx hl=>?_⟩
  .exact List.nodup_append.2 ⟨h.nd,List.pairwise_singleton _ _,fun a ha b hb=>by rw[List.mem_singleton.1 hb];rintro rfl;exact hno ha⟩
  .rcases List.mem_append.1 hx with r|r
   .exact h.lt x r
   .rw[List.mem_singleton.1 r];exact hkN
  .have e1:(L++[k]).take i=L.take i:=List.take_append_of_le_length h.hi
   have e2:(L++[k]).getD i 0=L.getD i 0:=by
    simp only[zAQ,List.getElem?_append_left hi]
   have hl:i<(L++[k]).length:=by rw[zJ];omega
   rw[e1,e2,if_pos hl];exact hcnt x hx
  .by_cases e:x=k
   .subst e;rw[if_pos rfl];exact⟨fun _=>⟨by omega,q.2⟩,fun _=>List.mem_append_right _ (List.mem_singleton.2 rfl)⟩
   .rw[if_neg e];refine Iff.trans ?_ (h.inn x hx hl);rw[List.mem_append,List.mem_singleton];exact⟨fun r=>r.resolve_right e,.inl⟩
 .simp only[if_neg q];refine⟨h.nd,h.lt,h.set,h.hi,fun x hx=>by rw[if_pos hi];exact hcnt x hx,fun x hx hl=>?_⟩
  by_cases e:x=k
  .subst e;rw[if_pos rfl];exact⟨fun hm=>absurd ((h.inn x hx hl).1 hm).2 (by omega),fun r=>absurd ⟨hl,r.2⟩ q⟩
  .rw[if_neg e];exact h.inn x hx hl
theorem OrdI.next(h:OrdI S lg L i j E)(hi:i<L.length)(hj:j=(srcS S (L.getD i 0)).length):OrdI S lg L (i+1) 0 E :=
 ⟨h.nd,h.lt,h.set,hi,fun k hk=>by
   have h1:=h.cnt k hk;rw[if_pos hi,hj,zI]at h1;rw[h1,h.cnt_le hi hk];simp,h.inn⟩
theorem OrdI.all(h:OrdI S lg L L.length j E)(hto:∀k,k<S.N->∀a∈S.arcs k,a.2<S.N)(hne:∀k,k<S.N->lg k=false->S.arcs k≠[])(hcyc:∀f m,Back S.N S.arcs f m->False):∀k,k<S.N->k∈L:=by
 refine ycyi h.set (fun k hk hl hn ha=>(h.inn k hk hl).2 ⟨List.length_pos_iff.2 hn,?_⟩) hto hne hcyc;have h1:=h.cnt k hk;rw[if_neg (by omega),zI]at h1
 rw[h1,ybyo.2 ha];rfl
theorem OrdI.len(h:OrdI S lg L i j E):L.length<=S.N:=by
 have:=yhe (l2:=zQ S.N) h.nd fun x hx=>List.mem_range.2 (h.lt x hx)
 simpa using this
end
end
end Go.Proofs.YthclbjjgfcgbgaaGreatDoor
