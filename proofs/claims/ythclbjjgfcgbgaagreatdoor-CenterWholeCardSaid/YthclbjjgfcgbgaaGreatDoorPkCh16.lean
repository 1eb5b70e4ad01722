/- Joined. -/
import Derived.Test.YthclbjjgfcgbgaaGreatDoorPkCh14
set_option linter.unusedSimpArgs false
set_option linter.unusedVariables false
open Classical renaming byContradiction->zA
open List renaming mem_cons_of_mem->zB,mem_cons_self->zC,countP_cons->zL,range->zT
open Int renaming natCast_mul->zD,toNat_natCast->zG,add_mul->zI,natCast_add->zJ,mul_assoc->zU,sub_self->zW,mul_comm->zX,sub_mul->zAD
open Nat renaming mul_comm->zF,mod_eq_of_lt->zH,mul_assoc->zK,div_div_eq_div_mul->zM,mul_le_mul_right->zN,succ_mul->zO,lt_or_ge->zS,zero_mul->zV,mul_pos->zY,mod_one->zZ,mod_mul->zAA,add_mul->zAB,mul_one->zAC,mod_lt->zAE
open Bool renaming false_eq_true->zQ
open Go
namespace Go.Proofs.YthclbjjgfcgbgaaGreatDoor
section
namespace Sh
open Go Ev
def ydts:LO:=[o3 (.mv (.const (.slice none 0 0))) 4 0]
def ydni:LO:=[mv' 0 8 0,ln' 8 9 1,o3 (.mk 22 1 24 [.a (.slice none 0 0)] (.tmp 9) (.tmp 9)) 10 3,mv' 10 5 7]
def ydue:LO:=[mv' 0 11 0,ln' 11 12 1,o3 (.mv (ci' 0)) 13 0]
def ydgg:LO:=[bn' .lss 13 12 14 0]
def ydmy:LO:=[mv' 13 15 0,mv' 15 6 1]
def ydsl:LO:=[mv' 5 16 0,mv' 6 17 0,mv' 0 18 0,mv' 6 19 0,ix' 1 18 19 20 12,ld' false 1 20 21 28,ln' 21 22 60,o3 (.mk 3 1 8 [.i .i64 0] (.tmp 22) (.tmp 22)) 23 124,ix' 1 16 17 24 255,o0 (.store 1 (.tmp 24) (.tmp 23)) 511]
def ydwp:LO:=[mv' 0 25 0,mv' 6 26 0,ix' 1 25 26 27 3,ld' false 1 27 28 7,ln' 28 29 15,o3 (.mv (ci' 0)) 30 0]
def ydgp:LO:=[bn' .lss 30 29 31 0]
def ydpu:LO:=[mv' 30 32 0,mv' 32 7 1]
def ydvu:LO:=[mv' 5 33 0,mv' 6 34 0,ix' 1 33 34 35 3,ld' false 1 35 36 7,mv' 7 37 0,mv' 1 38 0,mv' 6 39 0,mv' 7 40 0,o3 (.call (.tmp 38) [(.tmp 39),(.tmp 40)]) 41 224,ix' 1 36 37 42 511,o0 (.store 1 (.tmp 42) (.tmp 41)) 1023]
def ycyg:LO:=[o3 (.bin .add (.tmp 30) (ci' 1)) 43 0,mv' 43 30 1]
def ycml:LO:=[o3 (.bin .add (.tmp 13) (ci' 1)) 44 0,mv' 44 13 1]
def ycpd:LO:=[mv' 5 45 0,mv' 45 4 1]
def c65:SC:=(.seq (.reg false ydts) (.seq (.reg false ydni) (.seq (.seq (.reg false ydue) (.block 0 (.loop (.seq (.reg false ydgg) (.seq (.cond (.tmp 14) .skip (.exit 0)) (.seq (.block 1 (.seq (.reg false ydmy) (.seq (.reg false ydsl) (.seq (.reg false ydwp) (.block 2 (.loop (.seq (.reg false ydgp) (.seq (.cond (.tmp 31) .skip (.exit 2)) (.seq (.block 3 (.seq (.reg false ydpu) (.reg true ydvu))) (.reg false ycyg)))))))))) (.reg false ycml))))))) (.seq (.reg false ycpd) .ret))))
theorem yddd:FnM 65 c65 [.t 4]:=fn_m Tryz.func65 (by kernel_rfl) (by kernel_rfl)
def ydur:LO:=[o3 (.box 32 (.tmp 0)) 2 0,o3 (.box 27 (.tmp 1)) 3 0,o3 (.mv (.const (.slice none 0 0))) 4 0,o3 (.mv (ci' 0)) 5 4]
def ydrl:LO:=[ld' true 3 2 8 0,ld' true 2 3 9 0,cl' 62 [8,9] 10 3,mv' 10 6 7]
def ydnw:LO:=[mv' 6 11 0,o3 (.bin .neq (.tmp 11) (ci' 0)) 12 1]
def ydxv:LO:=[mv' 6 13 0,o3 (.mv (.const (.slice none 0 0))) 4 0,mv' 13 5 3]
def ydqn:LO:=[ld' true 3 2 14 0,ld' true 2 3 15 0,cl' 63 [14,15] 16 3,o3 (.alloc 84 1 [.a (.slice none 0 0)]) 7 0,o0 (.store 1 (.tmp 7) (.tmp 16)) 15]
def ydmv:LO:=[ld' false 1 7 17 0,o3 (.mkfn 125 [] [(.tmp 7)]) 18 0,cl' 65 [17,18] 19 3,mv' 19 4 7,o3 (.mv (ci' 0)) 5 15]
def c59:SC:=(.seq (.reg false ydur) (.seq (.seq (.reg false ydrl) (.seq (.reg false ydnw) (.cond (.tmp 12) (.seq (.reg false ydxv) .ret) .skip))) (.seq (.reg false ydqn) (.seq (.reg false ydmv) .ret))))
theorem ydbv:FnM 59 c59 [.t 4,.t 5]:=fn_m Tryz.func59 (by kernel_rfl) (by kernel_rfl)
def ycuw:LO:=[o3 (.mv (ci' 0)) 5 0]
def ycop:LO:=[ld' false 1 2 6 0,mv' 0 7 0,ix' 1 6 7 8 3,ld' false 1 8 9 7,mv' 1 10 0,ix' 2 9 10 11 31,o3 (.idxA 2 1 (.tmp 11) (ci' 0)) 12 63,ld' false 1 12 13 127,mv' 13 5 255]
def c125:SC:=(.seq (.reg false ycuw) (.seq (.reg false ycop) .ret))
theorem yddv:Fn 125 c125 [.t 5]:=fn_0 Tryz.func125 (by kernel_rfl) (by kernel_rfl)
def ydrm:LO:=[o3 (.box 32 (.tmp 0)) 2 0,o3 (.box 27 (.tmp 1)) 3 0,o3 (.mv (ci' 0)) 4 0,o3 (.mv (ci' 0)) 5 4]
def ydod:LO:=[ld' true 3 2 7 0,ld' true 2 3 8 0,cl' 62 [7,8] 9 3,mv' 9 6 7]
def ydty:LO:=[mv' 6 10 0,o3 (.bin .neq (.tmp 10) (ci' 0)) 11 1]
def ydxt:LO:=[mv' 6 12 0,o3 (.mv (ci' 0)) 4 0,mv' 12 5 3]
def ydmt:LO:=[ld' true 3 2 13 0,ld' true 2 3 14 0,cl' 63 [13,14] 15 3,cl' 64 [15] 16 7,xt' 16 0 17 15,xt' 16 1 18 15,mv' 17 4 63,mv' 18 5 127]
def c56:SC:=(.seq (.reg false ydrm) (.seq (.seq (.reg false ydod) (.seq (.reg false ydty) (.cond (.tmp 11) (.seq (.reg false ydxt) .ret) .skip))) (.seq (.reg false ydmt) .ret)))
theorem ydps:Fn 56 c56 [.t 4,.t 5]:=fn_0 Tryz.func56 (by kernel_rfl) (by kernel_rfl)
def ydwy:LO:=[o3 (.mv (ci' 0)) 2 0,o3 (.mv (ci' 0)) 3 1]
def ydut:LO:=[o3 (.mv (ci' 1)) 4 0]
def ydma:LO:=[mv' 0 9 0,ln' 9 10 1,o3 (.mv (ci' 0)) 11 0]
def ydcp:LO:=[bn' .lss 11 10 12 0]
def ydmb:LO:=[ix' 1 9 11 13 0,ld' false 1 13 14 1,mv' 14 6 3]
def ydmm:LO:=[mv' 6 15 0,ln' 15 16 1,o3 (.mv (ci' 0)) 17 0]
def ydfh:LO:=[bn' .lss 17 16 18 0]
def ydtj:LO:=[ix' 2 15 17 19 0,ld' true 2 19 20 1,o3 (.alloc 91 1 [.i .i64 0,.i .i64 0]) 8 0,o0 (.store 2 (.tmp 8) (.tmp 20)) 7]
def ydpk:LO:=[mv' 4 21 0,o3 (.idxA 2 1 (.tmp 8) (ci' 1)) 22 0,ld' false 1 22 23 2,o3 (.idxA 2 1 (.tmp 8) (ci' 0)) 24 0,ld' false 1 24 25 8,bn' .sub 23 25 26 30,o3 (.bin .add (.tmp 26) (ci' 1)) 27 62,bn' .mul 21 27 28 127,mv' 28 4 255]
def ydno:LO:=[mv' 4 29 0,o3 (.bin .gtr (.tmp 29) (ci' 32768)) 30 1]
def ydvj:LO:=[o3 (.mv (ci' 0)) 2 0,o3 (.mv (ci' 3)) 3 1]
def ycvw:LO:=[o3 (.bin .add (.tmp 17) (ci' 1)) 31 0,mv' 31 17 1]
def ycme:LO:=[o3 (.bin .add (.tmp 11) (ci' 1)) 32 0,mv' 32 11 1]
def ycui:LO:=[mv' 4 33 0,mv' 33 2 1,o3 (.mv (ci' 0)) 3 3]
def c64:SC:=(.seq (.reg false ydwy) (.seq (.reg false ydut) (.seq (.seq (.reg false ydma) (.block 0 (.loop (.seq (.reg false ydcp) (.seq (.cond (.tmp 12) .skip (.exit 0)) (.seq (.block 1 (.seq (.reg false ydmb) (.seq (.reg false ydmm) (.block 2 (.loop (.seq (.reg false ydfh) (.seq (.cond (.tmp 18) .skip (.exit 2)) (.seq (.block 3 (.seq (.reg false ydtj) (.seq (.reg false ydpk) (.seq (.reg false ydno) (.cond (.tmp 30) (.seq (.reg false ydvj) .ret) .skip))))) (.reg false ycvw))))))))) (.reg false ycme))))))) (.seq (.reg false ycui) .ret))))
theorem ydth:Fn 64 c64 [.t 2,.t 3]:=fn_0 Tryz.func64 (by kernel_rfl) (by kernel_rfl)
def ydkq:LO:=[o3 (.box 32 (.tmp 0)) 3 0,o3 (.box 27 (.tmp 1)) 4 0,o3 (.box 3 (.tmp 2)) 5 0,o3 (.mv (.const (.slice none 0 0))) 6 0,o3 (.mv (ci' 0)) 7 8]
def ydvp:LO:=[ld' true 3 3 18 0,ld' true 2 4 19 0,cl' 62 [18,19] 20 3,mv' 20 8 7]
def ydph:LO:=[mv' 8 21 0,o3 (.bin .neq (.tmp 21) (ci' 0)) 22 1]
def ydya:LO:=[mv' 8 23 0,o3 (.mv (.const (.slice none 0 0))) 6 0,mv' 23 7 3]
def ydoy:LO:=[ld' true 3 3 24 0,ld' true 2 4 25 0,cl' 63 [24,25] 26 3,o3 (.alloc 84 1 [.a (.slice none 0 0)]) 9 0,o0 (.store 1 (.tmp 9) (.tmp 26)) 15]
def ydtc:LO:=[ld' false 1 9 28 0,cl' 64 [28] 29 1,mv' 29 27 3,xt' 27 0 30 7,xt' 27 1 31 7,mv' 30 10 15,mv' 31 11 63]
def ydri:LO:=[mv' 11 32 0,o3 (.bin .neq (.tmp 32) (ci' 0)) 33 1]
def ydzn:LO:=[mv' 11 34 0,o3 (.mv (.const (.slice none 0 0))) 6 0,mv' 34 7 3]
def ydxi:LO:=[ld' false 1 5 35 0,o3 (.bin .lss (.tmp 35) (ci' 0)) 36 1,mv' 36 37 3,⟨.load false 1 (.tmp 5),some 38,some (37,false),7⟩,⟨.mv (.tmp 10),some 39,some (37,false),7⟩,⟨.bin .geq (.tmp 38) (.tmp 39),some 40,some (37,false),31⟩,o3 (.pick (.tmp 37) (.const (.bool true)) (.tmp 40)) 41 63]
def ydzu:LO:=[o3 (.mv (.const (.slice none 0 0))) 6 0,o3 (.mv (ci' 2)) 7 1]
def ycwx:LO:=[ld' false 1 9 42 0,o3 (.mkfn 66 [] [(.tmp 9)]) 43 0,cl' 65 [42,43] 44 3,o3 (.alloc 46 1 [.a (.slice none 0 0)]) 12 0,o0 (.store 1 (.tmp 12) (.tmp 44)) 15]
def yczg:LO:=[ld' false 1 9 45 0,cl' 67 [45] 46 1]
def ydbh:LO:=[o3 (.alloc 3 1 [.i .i64 0]) 13 0,o0 (.store 1 (.tmp 13) (.tmp 47)) 1]
def ycrt:LO:=[mv' 48 14 0]
def yclw:LO:=[mv' 14 49 0,cl' 68 [49] 50 1]
def ycub:LO:=[mv' 51 15 0]
def ycys:LO:=[o3 (.alloc 91 1 [.i .i64 0,.i .i64 0]) 16 0,o0 (.store 2 (.tmp 16) (.tmp 52)) 1]
def ycqq:LO:=[o3 (.idxA 2 1 (.tmp 16) (ci' 1)) 53 0,ld' false 1 53 54 1,o3 (.idxA 2 1 (.tmp 16) (ci' 0)) 55 0,ld' false 1 55 56 4,bn' .sub 54 56 57 15,o3 (.bin .add (.tmp 57) (ci' 1)) 58 31,mv' 58 17 63]
def ycoo:LO:=[ld' false 1 12 59 0,ld' false 1 13 60 0,ix' 1 59 60 61 3,ld' false 1 61 62 7,mv' 15 63 0,ix' 1 62 63 64 31,ld' false 1 64 65 63,ld' false 1 5 66 0,mv' 17 67 0,bn' .rem 66 67 68 384,bn' .add 65 68 69 1023,ix' 1 62 63 70 2047,o0 (.store 1 (.tmp 70) (.tmp 69)) 4095]
def ycnf:LO:=[ld' false 1 5 71 0,mv' 17 72 0,bn' .quo 71 72 73 3,o0 (.store 1 (.tmp 5) (.tmp 73)) 7]
def ycra:LO:=[ld' false 1 12 74 0,mv' 74 6 1,o3 (.mv (ci' 0)) 7 3]
def c15:SC:=(.seq (.reg false ydkq) (.seq (.seq (.reg false ydvp) (.seq (.reg false ydph) (.cond (.tmp 22) (.seq (.reg false ydya) .ret) .skip))) (.seq (.reg false ydoy) (.seq (.reg false ydtc) (.seq (.seq (.reg false ydri) (.cond (.tmp 33) (.seq (.reg false ydzn) .ret) .skip)) (.seq (.seq (.reg false ydxi) (.cond (.tmp 41) (.seq (.reg false ydzu) .ret) .skip)) (.seq (.reg false ycwx) (.seq (.seq (.reg false yczg) (.block 0 (.range (.tmp 46) [47,48] (.seq (.reg false ydbh) (.reg false ycrt)) (.block 1 (.seq (.reg false yclw) (.block 2 (.range (.tmp 50) [51,52] (.seq (.reg false ycub) (.reg false ycys)) (.block 3 (.seq (.reg false ycqq) (.seq (.reg true ycoo) (.reg false ycnf))))))))))) (.seq (.reg false ycra) .ret)))))))))
theorem yder:FnU 15 c15 [.t 6,.t 7]:=fn_u Tryz.func15 (by kernel_rfl) (by kernel_rfl)
def ydvb:LO:=[o3 (.mv (ci' 0)) 5 0]
def ydtx:LO:=[ld' false 1 2 6 0,mv' 0 7 0,ix' 1 6 7 8 3,ld' false 1 8 9 7,mv' 1 10 0,ix' 2 9 10 11 31,o3 (.idxA 2 1 (.tmp 11) (ci' 0)) 12 63,ld' false 1 12 13 127,mv' 13 5 255]
def c66:SC:=(.seq (.reg false ydvb) (.seq (.reg false ydtx) .ret))
theorem ydkf:Fn 66 c66 [.t 5]:=fn_0 Tryz.func66 (by kernel_rfl) (by kernel_rfl)
def ydxa:LO:=[o3 (.box 46 (.tmp 1)) 3 0]
def ydpc:LO:=[mv' 0 8 0,cl' 67 [8] 9 1]
def ydwk:LO:=[o3 (.alloc 3 1 [.i .i64 0]) 4 0,o0 (.store 1 (.tmp 4) (.tmp 10)) 1]
def ydmj:LO:=[mv' 11 5 0]
def ydkg:LO:=[mv' 5 12 0,cl' 68 [12] 13 1]
def ydds:LO:=[mv' 14 6 0]
def ydgt:LO:=[o3 (.alloc 91 1 [.i .i64 0,.i .i64 0]) 7 0,o0 (.store 2 (.tmp 7) (.tmp 15)) 1]
def yddo:LO:=[ld' false 1 3 16 0,ld' false 1 4 17 0,ix' 1 16 17 18 3,ld' false 1 18 19 7,mv' 6 20 0,ix' 1 19 20 21 31,ld' false 1 21 22 63,o3 (.idxA 2 1 (.tmp 7) (ci' 1)) 23 0,ld' false 1 23 24 128,bn' .lss 22 24 25 511]
def ydki:LO:=[ld' false 1 3 26 0,ld' false 1 4 27 0,ix' 1 26 27 28 3,ld' false 1 28 29 7,mv' 6 30 0,ix' 1 29 30 31 31,ld' false 1 31 32 63,o3 (.bin .add (.tmp 32) (ci' 1)) 33 127,ix' 1 29 30 34 255,o0 (.store 1 (.tmp 34) (.tmp 33)) 511]
def ydtp:LO:=[ld' false 1 3 35 0,ld' false 1 4 36 0,ix' 1 35 36 37 3,ld' false 1 37 38 7,mv' 6 39 0,o3 (.idxA 2 1 (.tmp 7) (ci' 0)) 40 0,ld' false 1 40 41 32,ix' 1 38 39 42 127,o0 (.store 1 (.tmp 42) (.tmp 41)) 255]
def c61:SC:=(.seq (.reg false ydxa) (.seq (.reg false ydpc) (.block 0 (.range (.tmp 9) [10,11] (.seq (.reg false ydwk) (.reg false ydmj)) (.block 1 (.seq (.reg false ydkg) (.block 2 (.range (.tmp 13) [14,15] (.seq (.reg false ydds) (.reg false ydgt)) (.block 3 (.seq (.seq (.reg true yddo) (.cond (.tmp 25) (.seq (.reg false ydki) .ret) .skip)) (.reg true ydtp)))))))))))
theorem ydhg:FnM 61 c61 []:=fn_m Tryz.func61 (by kernel_rfl) (by kernel_rfl)
def ydoc:LO:=[o3 (.box 84 (.tmp 0)) 1 0,o3 (.mv (.const (.nilFunc))) 2 0]
def ydvx:LO:=[o3 (.mkfn 133 [] [(.tmp 1)]) 3 0,mv' 3 2 1]
def c67:SC:=(.seq (.reg false ydoc) (.seq (.reg false ydvx) .ret))
theorem ydwf:Fn 67 c67 [.t 2]:=fn_0 Tryz.func67 (by kernel_rfl) (by kernel_rfl)
def yclx:LO:=[o3 (.box 41 (.tmp 0)) 1 0,o3 (.mv (.const (.bool false))) 2 0]
def ycqh:LO:=[fa' 0 1 1 6 0,ld' false 1 6 7 1,ln' 7 8 3,mv' 8 3 7]
def ycqk:LO:=[mv' 3 9 0,o3 (.bin .lss (.tmp 9) (ci' 1)) 10 1,mv' 10 11 3,⟨.mv (.tmp 3),some 12,some (11,false),7⟩,⟨.bin .gtr (.tmp 12) (ci' 32768),some 13,some (11,false),15⟩,o3 (.pick (.tmp 11) (.const (.bool true)) (.tmp 13)) 14 31,mv' 14 15 63,⟨.faddr 1 1 (.tmp 1),some 16,some (15,false),127⟩,⟨.load false 1 (.tmp 16),some 17,some (15,false),255⟩,⟨.len (.tmp 17),some 18,some (15,false),511⟩,⟨.mv (.tmp 3),some 19,some (15,false),127⟩,⟨.bin .neq (.tmp 18) (.tmp 19),some 20,some (15,false),2047⟩,o3 (.pick (.tmp 15) (.const (.bool true)) (.tmp 20)) 21 4095]
def ydqg:LO:=[o3 (.mv (.const (.bool false))) 2 0]
def ycoa:LO:=[o3 (.mv (ci' 0)) 4 0]
def ycmk:LO:=[mv' 3 22 0,o3 (.mv (ci' 0)) 23 0]
def ycbp:LO:=[bn' .lss 23 22 24 0]
def ycsh:LO:=[mv' 23 25 0,mv' 25 5 1]
def ycpl:LO:=[mv' 4 26 0,fa' 1 1 1 27 0,ld' false 1 27 28 2,mv' 5 29 0,ix' 1 28 29 30 14,ld' false 1 30 31 30,ln' 31 32 62,bn' .add 26 32 33 127,mv' 33 4 255]
def ycqw:LO:=[mv' 4 34 0,o3 (.bin .gtr (.tmp 34) (ci' 262144)) 35 1,mv' 35 36 3,⟨.faddr 0 1 (.tmp 1),some 37,some (36,false),7⟩,⟨.load false 1 (.tmp 37),some 38,some (36,false),15⟩,⟨.mv (.tmp 5),some 39,some (36,false),7⟩,⟨.idx 1 (.tmp 38) (.tmp 39),some 40,some (36,false),63⟩,⟨.load false 1 (.tmp 40),some 41,some (36,false),127⟩,⟨.faddr 1 1 (.tmp 1),some 42,some (36,false),7⟩,⟨.load false 1 (.tmp 42),some 43,some (36,false),263⟩,⟨.mv (.tmp 5),some 44,some (36,false),7⟩,⟨.idx 1 (.tmp 43) (.tmp 44),some 45,some (36,false),1799⟩,⟨.load false 1 (.tmp 45),some 46,some (36,false),3847⟩,⟨.mv (.tmp 3),some 47,some (36,false),7⟩,⟨.call (.func 180) [(.tmp 41),(.tmp 46),(.tmp 47)],some 48,some (36,false),16383⟩,⟨.un .not (.tmp 48),some 49,some (36,false),32767⟩,o3 (.pick (.tmp 36) (.const (.bool true)) (.tmp 49)) 50 65535]
def ydei:LO:=[o3 (.mv (.const (.bool false))) 2 0]
def ybyj:LO:=[o3 (.bin .add (.tmp 23) (ci' 1)) 51 0,mv' 51 23 1]
def ybzg:LO:=[o3 (.mv (.const (.bool true))) 2 0]
def c136:SC:=(.seq (.reg false yclx) (.seq (.reg false ycqh) (.seq (.seq (.reg false ycqk) (.cond (.tmp 21) (.seq (.reg false ydqg) .ret) .skip)) (.seq (.reg false ycoa) (.seq (.seq (.reg false ycmk) (.block 0 (.loop (.seq (.reg false ycbp) (.seq (.cond (.tmp 24) .skip (.exit 0)) (.seq (.block 1 (.seq (.reg false ycsh) (.seq (.reg false ycpl) (.seq (.reg true ycqw) (.cond (.tmp 50) (.seq (.reg false ydei) .ret) .skip))))) (.reg false ybyj))))))) (.seq (.reg false ybzg) .ret))))))
theorem ydha:Fn 136 c136 [.t 2]:=fn_0 Tryz.func136 (by kernel_rfl) (by kernel_rfl)
def yczm:LO:=[o3 (.mv (.const (.bool false))) 6 0]
def ycny:LO:=[mv' 0 10 0,o3 (.bin .shr (.tmp 10) (.const (.int .u64 24))) 11 1,o3 (.bin .neq (.tmp 11) (.const (.int .u32 0))) 12 3,mv' 12 13 7,⟨.mv (.tmp 0),some 14,some (13,false),15⟩,⟨.bin .neq (.tmp 14) (.const (.int .u32 0)),some 15,some (13,false),31⟩,⟨.mv (.tmp 1),some 16,some (13,false),15⟩,⟨.len (.tmp 16),some 17,some (13,false),79⟩,⟨.bin .gtr (.tmp 17) (ci' 0),some 18,some (13,false),207⟩,⟨.beq true (.tmp 15) (.tmp 18),some 19,some (13,false),511⟩,o3 (.pick (.tmp 13) (.const (.bool true)) (.tmp 19)) 20 1023]
def ydoe:LO:=[o3 (.mv (.const (.bool false))) 6 0]
def ycwi:LO:=[o3 (.mv (.const (.int .u32 0))) 7 0]
def ycqc:LO:=[mv' 1 21 0,ln' 21 22 1,o3 (.mv (ci' 0)) 23 0]
def ybwh:LO:=[bn' .lss 23 22 24 0]
def ycvd:LO:=[ix' 2 21 23 25 0,ld' true 2 25 26 1,o3 (.alloc 103 1 [.i .u32 0,.i .i64 0]) 9 0,o0 (.store 2 (.tmp 9) (.tmp 26)) 7]
def ycnu:LO:=[fa' 0 1 9 27 0,ld' false 1 27 28 1,mv' 7 29 0,bn' .leq 28 29 30 7,mv' 30 31 15,⟨.faddr 0 1 (.tmp 9),some 32,some (31,false),31⟩,⟨.load false 1 (.tmp 32),some 33,some (31,false),63⟩,⟨.mv (.tmp 0),some 34,some (31,false),31⟩,⟨.bin .andNot (.tmp 33) (.tmp 34),some 35,some (31,false),255⟩,⟨.bin .neq (.tmp 35) (.const (.int .u32 0)),some 36,some (31,false),511⟩,o3 (.pick (.tmp 31) (.const (.bool true)) (.tmp 36)) 37 1023,mv' 37 38 2047,⟨.faddr 1 1 (.tmp 9),some 39,some (38,false),4095⟩,⟨.load false 1 (.tmp 39),some 40,some (38,false),8191⟩,⟨.bin .lss (.tmp 40) (ci' 0),some 41,some (38,false),16383⟩,o3 (.pick (.tmp 38) (.const (.bool true)) (.tmp 41)) 42 32767,mv' 42 43 65535,⟨.faddr 1 1 (.tmp 9),some 44,some (43,false),131071⟩,⟨.load false 1 (.tmp 44),some 45,some (43,false),262143⟩,⟨.mv (.tmp 2),some 46,some (43,false),131071⟩,⟨.bin .geq (.tmp 45) (.tmp 46),some 47,some (43,false),1048575⟩,o3 (.pick (.tmp 43) (.const (.bool true)) (.tmp 47)) 48 2097151]
def ycta:LO:=[o3 (.mv (.const (.bool false))) 6 0]
def ycyz:LO:=[fa' 0 1 9 49 0,ld' false 1 49 50 1,mv' 50 7 3]
def ybus:LO:=[o3 (.bin .add (.tmp 23) (ci' 1)) 51 0,mv' 51 23 1]
def ybiy:LO:=[o3 (.mv (.const (.bool true))) 6 0]
def c180:SC:=(.seq (.reg false yczm) (.seq (.seq (.reg false ycny) (.cond (.tmp 20) (.seq (.reg false ydoe) .ret) .skip)) (.seq (.reg false ycwi) (.seq (.seq (.reg false ycqc) (.block 0 (.loop (.seq (.reg false ybwh) (.seq (.cond (.tmp 24) .skip (.exit 0)) (.seq (.block 1 (.seq (.reg false ycvd) (.seq (.seq (.reg false ycnu) (.cond (.tmp 48) (.seq (.reg false ycta) .ret) .skip)) (.reg false ycyz)))) (.reg false ybus))))))) (.seq (.reg false ybiy) .ret)))))
theorem ydgr:Fn 180 c180 [.t 6]:=fn_0 Tryz.func180 (by kernel_rfl) (by kernel_rfl)
def ydwl:LO:=[o3 (.box 32 (.tmp 0)) 3 0,o3 (.box 27 (.tmp 1)) 4 0,o3 (.alloc 41 1 [.a (.slice none 0 0),.a (.slice none 0 0)]) 6 0,o3 (.mv (ci' 0)) 7 0]
def ydms:LO:=[ld' true 3 3 20 0,ld' true 2 4 21 0,cl' 56 [20,21] 22 3,mv' 22 19 7,xt' 19 0 23 15,xt' 19 1 24 15,mv' 23 8 31,mv' 24 9 127]
def ydvf:LO:=[mv' 9 25 0,o3 (.bin .neq (.tmp 25) (ci' 0)) 26 1,mv' 26 27 3,⟨.mv (.tmp 9),some 28,some (27,true),7⟩,⟨.bin .neq (.tmp 28) (ci' 3),some 29,some (27,true),15⟩,o3 (.pick (.tmp 27) (.tmp 29) (.const (.bool false))) 30 31]
def ydzl:LO:=[o3 (.build [.a (.slice none 0 0),.a (.slice none 0 0)] []) 31 0,mv' 9 32 0,o0 (.store 2 (.tmp 6) (.tmp 31)) 1,mv' 32 7 7]
def ydww:LO:=[mv' 2 33 0,cl' 57 [33] 34 1,o3 (.un .not (.tmp 34)) 35 3]
def ydzr:LO:=[o3 (.build [.a (.slice none 0 0),.a (.slice none 0 0)] []) 36 0,o0 (.store 2 (.tmp 6) (.tmp 36)) 1,o3 (.mv (ci' 12)) 7 3]
def ydqb:LO:=[mv' 9 37 0,o3 (.bin .neq (.tmp 37) (ci' 0)) 38 1]
def ydzv:LO:=[o3 (.build [.a (.slice none 0 0),.a (.slice none 0 0)] []) 39 0,mv' 9 40 0,o0 (.store 2 (.tmp 6) (.tmp 39)) 1,mv' 40 7 7]
def ydns:LO:=[ld' true 3 3 41 0,ld' true 2 4 42 0,mv' 2 43 0,cl' 58 [41,42,43] 44 7,mv' 44 10 15]
def ydrn:LO:=[mv' 8 45 0,o3 (.mk 77 1 4 [.i .u32 0] (.tmp 45) (.tmp 45)) 46 1,mv' 8 47 0,o3 (.mk 78 1 24 [.a (.slice none 0 0)] (.tmp 47) (.tmp 47)) 48 4,o3 (.build [.a (.slice none 0 0),.a (.slice none 0 0)] [(0,1,(.tmp 46)),(1,1,(.tmp 48))]) 49 15,o3 (.alloc 41 1 [.a (.slice none 0 0),.a (.slice none 0 0)]) 11 0,o0 (.store 2 (.tmp 11) (.tmp 49)) 63]
def ycms:LO:=[ld' true 3 3 51 0,ld' true 2 4 52 0,cl' 59 [51,52] 53 3,mv' 53 50 7,xt' 50 0 54 15,xt' 50 1 55 15,mv' 54 12 31,mv' 55 13 127]
def ycpm:LO:=[o3 (.mv (ci' 0)) 14 0]
def ycue:LO:=[mv' 8 56 0,o3 (.mv (ci' 0)) 57 0]
def ybzp:LO:=[bn' .lss 57 56 58 0]
def ydad:LO:=[mv' 57 59 0,mv' 59 15 1]
def ycxd:LO:=[mv' 10 61 0,mv' 12 62 0,mv' 15 63 0,cl' 60 [61,62,63] 64 7,mv' 64 60 15,xt' 60 0 65 31,xt' 60 1 66 31,xt' 60 2 67 31,mv' 65 16 63,mv' 66 17 383,mv' 67 18 1023]
def yczl:LO:=[mv' 14 68 0,mv' 17 69 0,ln' 69 70 2,bn' .add 68 70 71 7,mv' 71 14 15]
def yctl:LO:=[mv' 18 72 0,o3 (.bin .neq (.tmp 72) (ci' 0)) 73 1,mv' 73 74 3,⟨.mv (.tmp 14),some 75,some (74,false),7⟩,⟨.bin .gtr (.tmp 75) (ci' 262144),some 76,some (74,false),15⟩,o3 (.pick (.tmp 74) (.const (.bool true)) (.tmp 76)) 77 31]
def ydxb:LO:=[o3 (.build [.a (.slice none 0 0),.a (.slice none 0 0)] []) 78 0,o0 (.store 2 (.tmp 6) (.tmp 78)) 1,o3 (.mv (ci' 3)) 7 3]
def yczo:LO:=[fa' 0 1 11 79 0,ld' false 1 79 80 1,mv' 15 81 0,fa' 1 1 11 82 0,ld' false 1 82 83 8,mv' 15 84 0,mv' 16 85 0,mv' 17 86 0,ix' 1 80 81 87 71,o0 (.store 1 (.tmp 87) (.tmp 85)) 327,ix' 1 83 84 88 1023,o0 (.store 1 (.tmp 88) (.tmp 86)) 2047]
def ydbg:LO:=[mv' 10 89 0,o3 (.nilck (.tmp 89)) 90 1,fa' 3 1 90 91 3,ld' false 1 91 92 7,mv' 12 93 0,cl' 61 [92,93] 94 31]
def ycsi:LO:=[o3 (.bin .add (.tmp 57) (ci' 1)) 95 0,mv' 95 57 1]
def ycrz:LO:=[ld' true 2 11 96 0,o0 (.store 2 (.tmp 6) (.tmp 96)) 1,o3 (.mv (ci' 0)) 7 3]
def c14:SC:=(.seq (.reg false ydwl) (.seq (.reg false ydms) (.seq (.seq (.reg false ydvf) (.cond (.tmp 30) (.seq (.reg false ydzl) .ret) .skip)) (.seq (.seq (.reg false ydww) (.cond (.tmp 35) (.seq (.reg false ydzr) .ret) .skip)) (.seq (.seq (.reg false ydqb) (.cond (.tmp 38) (.seq (.reg false ydzv) .ret) .skip)) (.seq (.reg false ydns) (.seq (.reg true ydrn) (.seq (.reg false ycms) (.seq (.reg false ycpm) (.seq (.seq (.reg false ycue) (.block 0 (.loop (.seq (.reg false ybzp) (.seq (.cond (.tmp 58) .skip (.exit 0)) (.seq (.block 1 (.seq (.reg false ydad) (.seq (.reg false ycxd) (.seq (.reg false yczl) (.seq (.seq (.reg false yctl) (.cond (.tmp 77) (.seq (.reg false ydxb) .ret) .skip)) (.seq (.reg true yczo) (.reg false ydbg))))))) (.reg false ycsi))))))) (.seq (.reg false ycrz) .ret)))))))))))
theorem ydfo:FnU 14 c14 [.c 6 true 2,.t 7]:=fn_u Tryz.func14 (by kernel_rfl) (by kernel_rfl)
def ydmh:LO:=[o3 (.box 32 (.tmp 0)) 3 0,o3 (.box 27 (.tmp 1)) 4 0,o3 (.mv (.const (.pointer none))) 6 0]
def ydst:LO:=[ld' true 3 3 11 0,ld' true 2 4 12 0,cl' 123 [11,12] 13 3,ld' true 2 4 14 0,cl' 124 [14] 15 15,mv' 2 16 0,ld' true 3 3 17 0,ld' true 2 4 18 0,cl' 63 [17,18] 19 223,o3 (.build [.a (.pointer none),.a (.slice none 0 0),.i .i64 0,.a (.slice none 0 0),.a (.slice none 0 0)] [(0,1,(.tmp 13)),(1,1,(.tmp 15)),(2,1,(.tmp 16)),(3,1,(.tmp 19))]) 20 511,o3 (.box 86 (.tmp 20)) 21 1023,mv' 21 7 2047]
def ydkl:LO:=[mv' 7 22 0,mv' 7 23 0,o3 (.nilck (.tmp 23)) 24 2,fa' 3 1 24 25 6,ld' false 1 25 26 14,ln' 26 27 30,o3 (.mk 22 1 24 [.a (.slice none 0 0)] (.tmp 27) (.tmp 27)) 28 62,o3 (.nilck (.tmp 22)) 29 127,fa' 4 1 29 30 255,o0 (.store 1 (.tmp 30) (.tmp 28)) 511]
def ydmk:LO:=[o3 (.mv (ci' 1)) 8 0]
def ydsv:LO:=[mv' 7 31 0,o3 (.nilck (.tmp 31)) 32 1,fa' 3 1 32 33 3,ld' false 1 33 34 7,ln' 34 35 15,o3 (.bin .sub (.tmp 35) (ci' 1)) 36 31,mv' 36 9 63]
def ydje:LO:=[mv' 9 37 0,o3 (.bin .geq (.tmp 37) (ci' 0)) 38 1]
def ydoo:LO:=[mv' 7 41 0,o3 (.nilck (.tmp 41)) 42 1,fa' 4 1 42 43 3,ld' false 1 43 44 7,mv' 9 45 0,mv' 7 46 0,o3 (.nilck (.tmp 46)) 47 32,fa' 3 1 47 48 96,ld' false 1 48 49 224,mv' 9 50 0,ix' 1 49 50 51 992,ld' false 1 51 52 2016,ln' 52 53 4064,o3 (.mk 3 1 8 [.i .i64 0] (.tmp 53) (.tmp 53)) 54 8160,ix' 1 44 45 55 16383,o0 (.store 1 (.tmp 55) (.tmp 54)) 32767]
def ydvs:LO:=[mv' 7 56 0,o3 (.nilck (.tmp 56)) 57 1,fa' 3 1 57 58 3,ld' false 1 58 59 7,mv' 9 60 0,ix' 1 59 60 61 31,ld' false 1 61 62 63,ln' 62 63 127,o3 (.bin .sub (.tmp 63) (ci' 1)) 64 255,mv' 64 10 511]
def ydhi:LO:=[mv' 10 65 0,o3 (.bin .geq (.tmp 65) (ci' 0)) 66 1]
def ydal:LO:=[mv' 7 69 0,o3 (.nilck (.tmp 69)) 70 1,fa' 4 1 70 71 3,ld' false 1 71 72 7,mv' 9 73 0,ix' 1 72 73 74 31,ld' false 1 74 75 63,mv' 10 76 0,mv' 8 77 0,ix' 1 75 76 78 511,o0 (.store 1 (.tmp 78) (.tmp 77)) 1023]
def ycvp:LO:=[mv' 8 79 0,mv' 7 80 0,o3 (.nilck (.tmp 80)) 81 2,fa' 3 1 81 82 6,ld' false 1 82 83 14,mv' 9 84 0,ix' 1 83 84 85 62,ld' false 1 85 86 126,mv' 10 87 0,ix' 2 86 87 88 510,o3 (.idxA 2 1 (.tmp 88) (ci' 1)) 89 1022,ld' false 1 89 90 2046,mv' 7 91 0,o3 (.nilck (.tmp 91)) 92 4096,fa' 3 1 92 93 12288,ld' false 1 93 94 28672,mv' 9 95 0,ix' 1 94 95 96 126976,ld' false 1 96 97 258048,mv' 10 98 0,ix' 2 97 98 99 1044480,o3 (.idxA 2 1 (.tmp 99) (ci' 0)) 100 2093056,ld' false 1 100 101 4190208,bn' .sub 90 101 102 8388606,o3 (.bin .add (.tmp 102) (ci' 1)) 103 16777214,bn' .mul 79 103 104 33554431,mv' 104 8 67108863]
def ycuy:LO:=[mv' 10 67 0,o3 (.bin .sub (.tmp 67) (ci' 1)) 68 1,mv' 68 10 3]
def ydrf:LO:=[mv' 9 39 0,o3 (.bin .sub (.tmp 39) (ci' 1)) 40 1,mv' 40 9 3]
def ycvj:LO:=[mv' 7 105 0,mv' 105 6 1]
def c58:SC:=(.seq (.reg false ydmh) (.seq (.reg true ydst) (.seq (.reg false ydkl) (.seq (.reg false ydmk) (.seq (.seq (.reg false ydsv) (.block 0 (.loop (.seq (.seq (.reg false ydje) (.cond (.tmp 38) .skip (.exit 0))) (.seq (.block 1 (.seq (.reg true ydoo) (.seq (.reg false ydvs) (.block 2 (.loop (.seq (.seq (.reg false ydhi) (.cond (.tmp 66) .skip (.exit 2))) (.seq (.block 3 (.seq (.reg false ydal) (.reg true ycvp))) (.reg false ycuy)))))))) (.reg false ydrf)))))) (.seq (.reg false ycvj) .ret))))))
theorem ydpr:Fn 58 c58 [.t 6]:=fn_0 Tryz.func58 (by kernel_rfl) (by kernel_rfl)
def ydlr:LO:=[o3 (.mv (.const (.int .u32 0))) 6 0,o3 (.mv (.const (.slice none 0 0))) 7 1,o3 (.mv (ci' 0)) 8 3]
def ydnh:LO:=[o3 (.mv (.const (.int .u32 0))) 9 0]
def ydle:LO:=[o3 (.alloc 150 24 [.i .i64 0]) 10 0]
def ydmg:LO:=[mv' 1 21 0,ln' 21 22 1,o3 (.mv (ci' 0)) 23 0]
def ychc:LO:=[bn' .lss 23 22 24 0]
def ydez:LO:=[mv' 23 25 0,mv' 25 11 1]
def ydgy:LO:=[mv' 0 26 0,o3 (.nilck (.tmp 26)) 27 1,fa' 0 1 27 28 3,ld' false 1 28 29 7,mv' 1 30 0,mv' 11 31 0,cl' 126 [29,30,31] 32 63,mv' 32 12 127]
def yddf:LO:=[mv' 12 33 0,o3 (.bin .lss (.tmp 33) (ci' 0)) 34 1]
def ydlo:LO:=[mv' 9 35 0,mv' 11 36 0,o3 (.bin .shl (.const (.int .u32 1)) (.tmp 36)) 37 2,bn' .or 35 37 38 7,mv' 38 9 15]
def ydoj:LO:=[mv' 0 39 0,o3 (.nilck (.tmp 39)) 40 1,fa' 0 1 40 41 3,ld' false 1 41 42 7,mv' 1 43 0,mv' 11 44 0,mv' 12 45 0,cl' 127 [42,43,44,45] 46 127,ln' 46 47 255,o3 (.mv (ci' 0)) 48 0]
def ybto:LO:=[bn' .lss 48 47 49 0]
def ycxv:LO:=[mv' 48 50 0,ix' 1 46 48 51 0,ld' false 1 51 52 2,mv' 50 13 7,mv' 52 14 15]
def ycnt:LO:=[mv' 11 53 0,o3 (.idxA 24 1 (.tmp 10) (.tmp 53)) 54 1,ld' false 1 54 55 3,mv' 14 56 0,mv' 1 57 0,mv' 11 58 0,ix' 1 57 58 59 48,ld' false 1 59 60 112,mv' 13 61 0,ix' 1 60 61 62 496,ld' false 1 62 63 1008,bn' .sub 56 63 64 2040,mv' 0 65 0,o3 (.nilck (.tmp 65)) 66 4096,fa' 4 1 66 67 12288,ld' false 1 67 68 28672,mv' 11 69 0,ix' 1 68 69 70 126976,ld' false 1 70 71 258048,mv' 13 72 0,ix' 1 71 72 73 1044480,ld' false 1 73 74 2093056,bn' .mul 64 74 75 4194296,bn' .add 55 75 76 8388607,o3 (.idxA 24 1 (.tmp 10) (.tmp 53)) 77 16777215,o0 (.store 1 (.tmp 77) (.tmp 76)) 33554431]
def ycxh:LO:=[o3 (.bin .add (.tmp 48) (ci' 1)) 78 0,mv' 78 48 1]
def ybud:LO:=[o3 (.bin .add (.tmp 23) (ci' 1)) 79 0,mv' 79 23 1]
def ycrb:LO:=[mv' 0 81 0,o3 (.nilck (.tmp 81)) 82 1,fa' 1 1 82 83 3,ld' false 1 83 84 7,mv' 0 85 0,o3 (.nilck (.tmp 85)) 86 16,fa' 2 1 86 87 48,ld' false 1 87 88 112,mv' 9 89 0,cl' 128 [84,88,89] 90 511,mv' 90 80 1023,xt' 80 0 91 2047,xt' 80 1 92 2047,mv' 91 15 4095,mv' 92 16 16383]
def ycxp:LO:=[mv' 16 93 0,o3 (.bin .neq (.tmp 93) (ci' 0)) 94 1]
def ydmu:LO:=[mv' 16 95 0,o3 (.mv (.const (.int .u32 0))) 6 0,o3 (.mv (.const (.slice none 0 0))) 7 2,mv' 95 8 7]
def ycvt:LO:=[mv' 15 96 0,ln' 96 97 1,o3 (.mk 103 2 16 [.i .u32 0,.i .i64 0] (.tmp 97) (.tmp 97)) 98 3,o3 (.alloc 78 1 [.a (.slice none 0 0)]) 17 0,o0 (.store 1 (.tmp 17) (.tmp 98)) 15]
def ycyy:LO:=[mv' 15 99 0,ln' 99 100 1,o3 (.mv (ci' 0)) 101 0]
def ycdc:LO:=[bn' .lss 101 100 102 0]
def ydab:LO:=[mv' 101 103 0,ix' 1 99 101 104 0,ld' false 1 104 105 2,o3 (.alloc 3 1 [.i .i64 0]) 18 0,o0 (.store 1 (.tmp 18) (.tmp 103)) 15,mv' 105 19 31]
def ycqd:LO:=[ld' false 1 17 106 0,ld' false 1 18 107 0,mv' 19 108 0,mv' 2 109 0,o3 (.build [.i .u32 0,.i .i64 0] [(0,1,(.tmp 108)),(1,1,(.tmp 109))]) 110 12,ix' 2 106 107 111 31,o0 (.store 2 (.tmp 111) (.tmp 110)) 63]
def ycux:LO:=[mv' 19 112 0,cl' 129 [112] 113 1]
def ycwd:LO:=[mv' 114 20 0]
def ycns:LO:=[ld' false 1 17 115 0,ld' false 1 18 116 0,ix' 2 115 116 117 3,fa' 1 1 117 118 7,ld' false 1 118 119 15,mv' 20 120 0,o3 (.idxA 24 1 (.tmp 10) (.tmp 120)) 121 32,ld' false 1 121 122 96,bn' .add 119 122 123 255,ix' 2 115 116 124 511,fa' 1 1 124 125 1023,o0 (.store 1 (.tmp 125) (.tmp 123)) 2047]
def yctb:LO:=[o3 (.bin .add (.tmp 101) (ci' 1)) 126 0,mv' 126 101 1]
def ycte:LO:=[mv' 9 127 0,ld' false 1 17 128 0,mv' 127 6 1,mv' 128 7 7,o3 (.mv (ci' 0)) 8 15]
def c60:SC:=(.seq (.reg false ydlr) (.seq (.reg false ydnh) (.seq (.reg false ydle) (.seq (.seq (.reg false ydmg) (.block 0 (.loop (.seq (.reg false ychc) (.seq (.cond (.tmp 24) .skip (.exit 0)) (.seq (.block 1 (.seq (.reg false ydez) (.seq (.reg false ydgy) (.seq (.seq (.reg false yddf) (.cond (.tmp 34) (.exit 1) .skip)) (.seq (.reg false ydlo) (.seq (.reg false ydoj) (.block 2 (.loop (.seq (.reg false ybto) (.seq (.cond (.tmp 49) .skip (.exit 2)) (.seq (.block 3 (.seq (.reg false ycxv) (.reg true ycnt))) (.reg false ycxh)))))))))))) (.reg false ybud))))))) (.seq (.reg true ycrb) (.seq (.seq (.reg false ycxp) (.cond (.tmp 94) (.seq (.reg false ydmu) .ret) .skip)) (.seq (.reg false ycvt) (.seq (.seq (.reg false ycyy) (.block 4 (.loop (.seq (.reg false ycdc) (.seq (.cond (.tmp 102) .skip (.exit 4)) (.seq (.block 5 (.seq (.reg false ydab) (.seq (.reg false ycqd) (.seq (.reg false ycux) (.block 6 (.range (.tmp 113) [114] (.reg false ycwd) (.block 7 (.reg true ycns)))))))) (.reg false yctb))))))) (.seq (.reg true ycte) .ret)))))))))
theorem ydhq:FnM 60 c60 [.t 6,.t 7,.t 8]:=fn_m Tryz.func60 (by kernel_rfl) (by kernel_rfl)
def ybuq:LO:=[o3 (.mv (.const (.slice none 0 0))) 6 0,o3 (.mv (ci' 0)) 7 1]
def ybru:LO:=[mv' 2 11 0,o3 (.bin .eql (.tmp 11) (.const (.int .u32 0))) 12 1]
def yczb:LO:=[o3 (.mv (.const (.slice none 0 0))) 6 0,o3 (.mv (ci' 0)) 7 1]
def ycmw:LO:=[o3 (.alloc 38 1 [.a (.slice none 0 0)]) 8 0]
def ycly:LO:=[mv' 1 13 0]
def ycpi:LO:=[o3 (.bin .eql (.tmp 13) (ci' 1)) 15 0,mv' 15 14 1]
def ydsq:LO:=[mv' 2 16 0,cl' 129 [16] 17 1]
def ydpy:LO:=[mv' 18 9 0]
def ydll:LO:=[ld' false 1 8 19 0,mv' 9 20 0,o3 (.bin .shl (.const (.int .u32 1)) (.tmp 20)) 21 2,o3 (.bslice 77 1 1 [.i .u32 0] [(0,1,(.tmp 21))]) 22 6,o3 (.app 77 1 4 (.tmp 19) (.tmp 22)) 23 15,o0 (.store 1 (.tmp 8) (.tmp 23)) 31]
def ydvy:LO:=[ld' false 1 8 24 0,mv' 24 6 1,o3 (.mv (ci' 0)) 7 3]
def ybxt:LO:=[o3 (.bin .eql (.tmp 13) (ci' 4)) 26 0,mv' 26 25 1]
def yddj:LO:=[mv' 2 27 0,o3 (.bslice 77 1 1 [.i .u32 0] [(0,1,(.tmp 27))]) 28 1,mv' 28 6 3,o3 (.mv (ci' 0)) 7 7]
def ybww:LO:=[mv' 2 29 0,cl' 113 [29] 30 1,o3 (.bin .gtr (.tmp 30) (ci' 10)) 31 3]
def ydhd:LO:=[o3 (.mv (.const (.slice none 0 0))) 6 0,o3 (.mv (ci' 3)) 7 1]
def ybyn:LO:=[mv' 2 32 0,o3 (.un .neg (.tmp 32)) 33 1,mv' 2 34 0,bn' .and 33 34 35 7,mv' 35 10 15]
def ybhk:LO:=[mv' 10 36 0,o3 (.bin .neq (.tmp 36) (.const (.int .u32 0))) 37 1]
def yccn:LO:=[mv' 0 43 0,mv' 1 44 0,mv' 2 45 0,mv' 10 46 0,cl' 171 [43,44,45,46] 47 15]
def ybvm:LO:=[ld' false 1 8 48 0,mv' 10 49 0,o3 (.bslice 77 1 1 [.i .u32 0] [(0,1,(.tmp 49))]) 50 2,o3 (.app 77 1 4 (.tmp 48) (.tmp 50)) 51 7,o0 (.store 1 (.tmp 8) (.tmp 51)) 15]
def ybid:LO:=[mv' 10 38 0,mv' 2 39 0,o3 (.wsub (.tmp 38) (.tmp 39)) 40 3,mv' 2 41 0,bn' .and 40 41 42 15,mv' 42 10 31]
def ybvf:LO:=[ld' false 1 8 52 0,mv' 52 6 1,o3 (.mv (ci' 0)) 7 3]
def c128:SC:=(.seq (.reg false ybuq) (.seq (.seq (.reg false ybru) (.cond (.tmp 12) (.seq (.reg false yczb) .ret) .skip)) (.seq (.reg false ycmw) (.seq (.seq (.reg false ycly) (.block 0 (.seq (.reg false ycpi) (.cond (.tmp 14) (.seq (.seq (.reg false ydsq) (.block 1 (.range (.tmp 17) [18] (.reg false ydpy) (.block 2 (.reg true ydll))))) (.seq (.reg false ydvy) .ret)) (.seq (.reg false ybxt) (.cond (.tmp 25) (.seq (.reg false yddj) .ret) .skip)))))) (.seq (.seq (.reg false ybww) (.cond (.tmp 31) (.seq (.reg false ydhd) .ret) .skip)) (.seq (.seq (.reg false ybyn) (.block 3 (.loop (.seq (.seq (.reg false ybhk) (.cond (.tmp 37) .skip (.exit 3))) (.seq (.block 4 (.seq (.reg false yccn) (.cond (.tmp 47) (.reg false ybvm) .skip))) (.reg false ybid)))))) (.seq (.reg false ybvf) .ret)))))))
theorem ydig:Fn 128 c128 [.t 6,.t 7]:=fn_0 Tryz.func128 (by kernel_rfl) (by kernel_rfl)
def ydtg:LO:=[o3 (.box 41 (.tmp 0)) 2 0,o3 (.mv (ci' 0)) 4 0]
def ydpo:LO:=[ld' true 2 2 5 0,cl' 136 [5] 6 1,o3 (.un .not (.tmp 6)) 7 3]
def yeaf:LO:=[o3 (.mv (ci' 13)) 4 0]
def ydpm:LO:=[mv' 1 8 0,ln' 8 9 1,fa' 0 1 2 10 0,ld' false 1 10 11 4,ln' 11 12 12,bn' .neq 9 12 13 31]
def ydyq:LO:=[o3 (.mv (ci' 7)) 4 0]
def ydnx:LO:=[o3 (.mv (ci' 0)) 4 0]
def c73:SC:=(.seq (.reg false ydtg) (.seq (.seq (.reg false ydpo) (.cond (.tmp 7) (.seq (.reg false yeaf) .ret) .skip)) (.seq (.seq (.reg false ydpm) (.cond (.tmp 13) (.seq (.reg false ydyq) .ret) .skip)) (.seq (.reg false ydnx) .ret))))
theorem ydlj:Fn 73 c73 [.t 4]:=fn_0 Tryz.func73 (by kernel_rfl) (by kernel_rfl)
def ydpe:LO:=[o3 (.box 41 (.tmp 0)) 2 0,o3 (.mv (.const (.bool false))) 4 0,o3 (.mv (ci' 0)) 5 2]
def ydnj:LO:=[ld' true 2 2 11 0,mv' 1 12 0,cl' 73 [11,12] 13 3,mv' 13 6 7]
def ydrz:LO:=[mv' 6 14 0,o3 (.bin .neq (.tmp 14) (ci' 0)) 15 1]
def ydzf:LO:=[mv' 6 16 0,o3 (.mv (.const (.bool false))) 4 0,mv' 16 5 3]
def ydta:LO:=[fa' 1 1 2 17 0,ld' false 1 17 18 1,ln' 18 19 3,o3 (.mv (ci' 0)) 20 0]
def yckx:LO:=[bn' .lss 20 19 21 0]
def ydbw:LO:=[mv' 20 22 0,ix' 1 18 20 23 0,ld' false 1 23 24 2,mv' 22 7 7,mv' 24 8 15]
def ydeo:LO:=[mv' 1 25 0,mv' 7 26 0,ix' 1 25 26 27 3,ld' false 1 27 28 7,o3 (.un .not (.tmp 28)) 29 15]
def ydrw:LO:=[mv' 8 30 0,ln' 30 31 1,o3 (.mv (ci' 0)) 32 0]
def ydnd:LO:=[bn' .lss 32 31 33 0]
def ydqr:LO:=[ix' 2 30 32 34 0,ld' true 2 34 35 1,o3 (.alloc 103 1 [.i .u32 0,.i .i64 0]) 10 0,o0 (.store 2 (.tmp 10) (.tmp 35)) 7]
def ydxn:LO:=[mv' 1 36 0,fa' 1 1 10 37 0,ld' false 1 37 38 2,ix' 1 36 38 39 7,ld' false 1 39 40 15,o3 (.un .not (.tmp 40)) 41 31]
def ydkj:LO:=[o3 (.mv (.const (.bool false))) 4 0,o3 (.mv (ci' 0)) 5 1]
def ydqd:LO:=[o3 (.bin .add (.tmp 32) (ci' 1)) 42 0,mv' 42 32 1]
def ybyo:LO:=[o3 (.bin .add (.tmp 20) (ci' 1)) 43 0,mv' 43 20 1]
def yctu:LO:=[o3 (.mv (.const (.bool true))) 4 0,o3 (.mv (ci' 0)) 5 1]
def c18:SC:=(.seq (.reg false ydpe) (.seq (.seq (.reg false ydnj) (.seq (.reg false ydrz) (.cond (.tmp 15) (.seq (.reg false ydzf) .ret) .skip))) (.seq (.seq (.reg false ydta) (.block 0 (.loop (.seq (.reg false yckx) (.seq (.cond (.tmp 21) .skip (.exit 0)) (.seq (.block 1 (.seq (.reg false ydbw) (.seq (.seq (.reg false ydeo) (.cond (.tmp 29) (.exit 1) .skip)) (.seq (.reg false ydrw) (.block 2 (.loop (.seq (.reg false ydnd) (.seq (.cond (.tmp 33) .skip (.exit 2)) (.seq (.block 3 (.seq (.reg false ydqr) (.seq (.reg false ydxn) (.cond (.tmp 41) (.seq (.reg false ydkj) .ret) .skip)))) (.reg false ydqd)))))))))) (.reg false ybyo))))))) (.seq (.reg false yctu) .ret))))
theorem ydow:Fn 18 c18 [.t 4,.t 5]:=fn_0 Tryz.func18 (by kernel_rfl) (by kernel_rfl)
def ycxg:LO:=[o3 (.box 41 (.tmp 0)) 1 0,o3 (.mv (.const (.slice none 0 0))) 2 0]
def ycnv:LO:=[fa' 1 1 1 8 0,ld' false 1 8 9 1,ln' 9 10 3,o3 (.mk 22 1 24 [.a (.slice none 0 0)] (.tmp 10) (.tmp 10)) 11 7,mv' 11 3 15]
def ycxq:LO:=[fa' 1 1 1 12 0,ld' false 1 12 13 1,ln' 13 14 3,o3 (.mv (ci' 0)) 15 0]
def ybxp:LO:=[bn' .lss 15 14 16 0]
def ycnz:LO:=[mv' 15 17 0,ix' 1 13 15 18 0,ld' false 1 18 19 2,mv' 17 4 7,mv' 19 5 15]
def ydap:LO:=[mv' 5 20 0,ln' 20 21 1,o3 (.mv (ci' 0)) 22 0]
def ybln:LO:=[bn' .lss 22 21 23 0]
def ybte:LO:=[ix' 2 20 22 24 0,ld' true 2 24 25 1,o3 (.alloc 103 1 [.i .u32 0,.i .i64 0]) 7 0,o0 (.store 2 (.tmp 7) (.tmp 25)) 7]
def ybxq:LO:=[mv' 3 26 0,fa' 1 1 7 27 0,ld' false 1 27 28 2,mv' 3 29 0,fa' 1 1 7 30 0,ld' false 1 30 31 16,ix' 1 29 31 32 56,ld' false 1 32 33 120,mv' 4 34 0,o3 (.bslice 3 1 1 [.i .i64 0] [(0,1,(.tmp 34))]) 35 256,o3 (.app 3 1 8 (.tmp 33) (.tmp 35)) 36 1016,ix' 1 26 28 37 2047,o0 (.store 1 (.tmp 37) (.tmp 36)) 4095]
def ybuy:LO:=[o3 (.bin .add (.tmp 22) (ci' 1)) 38 0,mv' 38 22 1]
def ybba:LO:=[o3 (.bin .add (.tmp 15) (ci' 1)) 39 0,mv' 39 15 1]
def ybyv:LO:=[mv' 3 40 0,mv' 40 2 1]
def c179:SC:=(.seq (.reg false ycxg) (.seq (.reg false ycnv) (.seq (.seq (.reg false ycxq) (.block 0 (.loop (.seq (.reg false ybxp) (.seq (.cond (.tmp 16) .skip (.exit 0)) (.seq (.block 1 (.seq (.reg false ycnz) (.seq (.reg false ydap) (.block 2 (.loop (.seq (.reg false ybln) (.seq (.cond (.tmp 23) .skip (.exit 2)) (.seq (.block 3 (.seq (.reg false ybte) (.reg true ybxq))) (.reg false ybuy))))))))) (.reg false ybba))))))) (.seq (.reg false ybyv) .ret))))
theorem ydhb:Fn 179 c179 [.t 2]:=fn_0 Tryz.func179 (by kernel_rfl) (by kernel_rfl)
def ydbd:LO:=[o3 (.box 41 (.tmp 0)) 2 0,o3 (.mv (.const (.slice none 0 0))) 4 0]
def yczd:LO:=[o3 (.mv (.const (.slice none 0 0))) 5 0]
def ycrd:LO:=[mv' 1 13 0,ln' 13 14 1,o3 (.mv (ci' 0)) 15 0]
def ybmr:LO:=[bn' .lss 15 14 16 0]
def ybxs:LO:=[mv' 15 17 0,ix' 1 13 15 18 0,ld' false 1 18 19 2,mv' 17 6 7,mv' 19 7 15]
def ybzi:LO:=[mv' 7 20 0]
def ybta:LO:=[mv' 5 21 0,mv' 6 22 0,o3 (.bslice 3 1 1 [.i .i64 0] [(0,1,(.tmp 22))]) 23 2,o3 (.app 3 1 8 (.tmp 21) (.tmp 23)) 24 7,mv' 24 5 15]
def ycdg:LO:=[o3 (.bin .add (.tmp 15) (ci' 1)) 25 0,mv' 25 15 1]
def ycmi:LO:=[ld' true 2 2 26 0,cl' 179 [26] 27 1,mv' 27 8 3]
def ycxu:LO:=[mv' 1 28 0,ln' 28 29 1,o3 (.mk 3 1 8 [.i .i64 0] (.tmp 29) (.tmp 29)) 30 3,mv' 30 9 7]
def ybwt:LO:=[o3 (.mv (ci' 0)) 10 0]
def ybil:LO:=[mv' 10 31 0,mv' 5 32 0,ln' 32 33 2,bn' .lss 31 33 34 7]
def ycci:LO:=[mv' 8 37 0,mv' 5 38 0,mv' 10 39 0,ix' 1 38 39 40 6,ld' false 1 40 41 14,ix' 1 37 41 42 31,ld' false 1 42 43 63,ln' 43 44 127,o3 (.mv (ci' 0)) 45 0]
def ytt:LO:=[bn' .lss 45 44 46 0]
def ybau:LO:=[ix' 1 43 45 47 0,ld' false 1 47 48 1,mv' 48 12 3]
def yzm:LO:=[mv' 9 49 0,mv' 12 50 0,ix' 1 49 50 51 3,ld' false 1 51 52 7,o3 (.bin .add (.tmp 52) (ci' 1)) 53 15,ix' 1 49 50 54 31,o0 (.store 1 (.tmp 54) (.tmp 53)) 63]
def yyw:LO:=[mv' 1 55 0,mv' 12 56 0,ix' 1 55 56 57 3,ld' false 1 57 58 7,o3 (.un .not (.tmp 58)) 59 15,mv' 59 60 31,⟨.mv (.tmp 9),some 61,some (60,true),63⟩,⟨.mv (.tmp 12),some 62,some (60,true),63⟩,⟨.idx 1 (.tmp 61) (.tmp 62),some 63,some (60,true),255⟩,⟨.load false 1 (.tmp 63),some 64,some (60,true),511⟩,⟨.faddr 1 1 (.tmp 2),some 65,some (60,true),63⟩,⟨.load false 1 (.tmp 65),some 66,some (60,true),1087⟩,⟨.mv (.tmp 12),some 67,some (60,true),63⟩,⟨.idx 1 (.tmp 66) (.tmp 67),some 68,some (60,true),7231⟩,⟨.load false 1 (.tmp 68),some 69,some (60,true),15423⟩,⟨.len (.tmp 69),some 70,some (60,true),31807⟩,⟨.bin .eql (.tmp 64) (.tmp 70),some 71,some (60,true),65535⟩,o3 (.pick (.tmp 60) (.tmp 71) (.const (.bool false))) 72 131071]
def yceb:LO:=[mv' 5 73 0,mv' 12 74 0,o3 (.bslice 3 1 1 [.i .i64 0] [(0,1,(.tmp 74))]) 75 2,o3 (.app 3 1 8 (.tmp 73) (.tmp 75)) 76 7,mv' 76 5 15]
def yzh:LO:=[o3 (.bin .add (.tmp 45) (ci' 1)) 77 0,mv' 77 45 1]
def ybun:LO:=[mv' 10 35 0,o3 (.bin .add (.tmp 35) (ci' 1)) 36 1,mv' 36 10 3]
def ybxx:LO:=[mv' 5 78 0,mv' 78 4 1]
def c135:SC:=(.seq (.reg false ydbd) (.seq (.reg false yczd) (.seq (.seq (.reg false ycrd) (.block 0 (.loop (.seq (.reg false ybmr) (.seq (.cond (.tmp 16) .skip (.exit 0)) (.seq (.block 1 (.seq (.reg false ybxs) (.seq (.reg false ybzi) (.cond (.tmp 20) (.reg false ybta) .skip)))) (.reg false ycdg))))))) (.seq (.reg false ycmi) (.seq (.reg false ycxu) (.seq (.seq (.reg false ybwt) (.block 2 (.loop (.seq (.seq (.reg false ybil) (.cond (.tmp 34) .skip (.exit 2))) (.seq (.block 3 (.seq (.reg false ycci) (.block 4 (.loop (.seq (.reg false ytt) (.seq (.cond (.tmp 46) .skip (.exit 4)) (.seq (.block 5 (.seq (.reg false ybau) (.seq (.reg false yzm) (.seq (.reg true yyw) (.cond (.tmp 72) (.reg false yceb) .skip))))) (.reg false yzh)))))))) (.reg false ybun)))))) (.seq (.reg false ybxx) .ret)))))))
theorem ydeg:Fn 135 c135 [.t 4]:=fn_0 Tryz.func135 (by kernel_rfl) (by kernel_rfl)
def ydky:LO:=[o3 (.box 41 (.tmp 0)) 2 0,o3 (.mv (.const (.slice none 0 0))) 4 0,o3 (.mv (ci' 0)) 5 2]
def ydlp:LO:=[ld' true 2 2 10 0,mv' 1 11 0,cl' 73 [10,11] 12 3,mv' 12 6 7]
def ydud:LO:=[mv' 6 13 0,o3 (.bin .neq (.tmp 13) (ci' 0)) 14 1]
def yeaa:LO:=[mv' 6 15 0,o3 (.mv (.const (.slice none 0 0))) 4 0,mv' 15 5 3]
def ydmp:LO:=[mv' 1 16 0,ln' 16 17 1,o3 (.mk 4 1 1 [.b false] (.tmp 17) (.tmp 17)) 18 3,mv' 18 7 7]
def ydrc:LO:=[ld' true 2 2 19 0,mv' 1 20 0,cl' 135 [19,20] 21 3,ln' 21 22 7,o3 (.mv (ci' 0)) 23 0]
def ydid:LO:=[bn' .lss 23 22 24 0]
def ydtw:LO:=[ix' 1 21 23 25 0,ld' false 1 25 26 1,mv' 26 9 3]
def ydsg:LO:=[mv' 7 27 0,mv' 9 28 0,ix' 1 27 28 29 3,o0 (.store 1 (.tmp 29) (.const (.bool true))) 7]
def ydvh:LO:=[o3 (.bin .add (.tmp 23) (ci' 1)) 30 0,mv' 30 23 1]
def ycrl:LO:=[mv' 7 31 0,mv' 31 4 1,o3 (.mv (ci' 0)) 5 3]
def c72:SC:=(.seq (.reg false ydky) (.seq (.seq (.reg false ydlp) (.seq (.reg false ydud) (.cond (.tmp 14) (.seq (.reg false yeaa) .ret) .skip))) (.seq (.reg false ydmp) (.seq (.seq (.reg false ydrc) (.block 0 (.loop (.seq (.reg false ydid) (.seq (.cond (.tmp 24) .skip (.exit 0)) (.seq (.block 1 (.seq (.reg false ydtw) (.reg false ydsg))) (.reg false ydvh))))))) (.seq (.reg false ycrl) .ret)))))
theorem ydgs:FnM 72 c72 [.t 4,.t 5]:=fn_m Tryz.func72 (by kernel_rfl) (by kernel_rfl)
def ydox:LO:=[o3 (.box 41 (.tmp 0)) 2 0,o3 (.mv (.const (.slice none 0 0))) 4 0,o3 (.mv (ci' 0)) 5 2]
def ydoi:LO:=[ld' true 2 2 10 0,mv' 1 11 0,cl' 72 [10,11] 12 3,mv' 12 9 7,xt' 9 0 13 15,xt' 9 1 14 15,mv' 13 6 31,mv' 14 7 127]
def ydwg:LO:=[mv' 7 15 0,o3 (.bin .neq (.tmp 15) (ci' 0)) 16 1]
def yeac:LO:=[mv' 7 17 0,o3 (.mv (.const (.slice none 0 0))) 4 0,mv' 17 5 3]
def ydqw:LO:=[mv' 6 18 0,ln' 18 19 1,o3 (.mv (ci' 0)) 20 0]
def yddy:LO:=[bn' .lss 20 19 21 0]
def ydvv:LO:=[mv' 20 22 0,mv' 22 8 1]
def ydux:LO:=[mv' 6 23 0,mv' 8 24 0,mv' 6 25 0,mv' 8 26 0,ix' 1 25 26 27 12,ld' false 1 27 28 28,o3 (.un .not (.tmp 28)) 29 60,ix' 1 23 24 30 127,o0 (.store 1 (.tmp 30) (.tmp 29)) 255]
def ydvz:LO:=[o3 (.bin .add (.tmp 20) (ci' 1)) 31 0,mv' 31 20 1]
def ydwq:LO:=[mv' 6 32 0,mv' 32 4 1,o3 (.mv (ci' 0)) 5 3]
def c17:SC:=(.seq (.reg false ydox) (.seq (.reg false ydoi) (.seq (.seq (.reg false ydwg) (.cond (.tmp 16) (.seq (.reg false yeac) .ret) .skip)) (.seq (.seq (.reg false ydqw) (.block 0 (.loop (.seq (.reg false yddy) (.seq (.cond (.tmp 21) .skip (.exit 0)) (.seq (.block 1 (.seq (.reg false ydvv) (.reg false ydux))) (.reg false ydvz))))))) (.seq (.reg false ydwq) .ret)))))
theorem ydbx:FnU 17 c17 [.t 4,.t 5]:=fn_u Tryz.func17 (by kernel_rfl) (by kernel_rfl)
def ydqx:LO:=[o3 (.box 41 (.tmp 0)) 2 0,o3 (.mv (.const (.slice none 0 0))) 4 0,o3 (.mv (ci' 0)) 5 2]
def ydkv:LO:=[ld' true 2 2 8 0,mv' 1 9 0,cl' 73 [8,9] 10 3,mv' 10 6 7]
def ydwu:LO:=[mv' 6 11 0,o3 (.bin .neq (.tmp 11) (ci' 0)) 12 1]
def ydzi:LO:=[mv' 6 13 0,o3 (.mv (.const (.slice none 0 0))) 4 0,mv' 13 5 3]
def ydwm:LO:=[ld' true 2 2 14 0,mv' 1 15 0,cl' 135 [14,15] 16 3,mv' 16 7 7]
def ydrj:LO:=[mv' 7 17 0,ln' 17 18 1,mv' 1 19 0,ln' 19 20 4,bn' .lss 18 20 21 15]
def yeag:LO:=[o3 (.mv (.const (.slice none 0 0))) 4 0,o3 (.mv (ci' 14)) 5 1]
def ydtd:LO:=[mv' 7 22 0,mv' 22 4 1,o3 (.mv (ci' 0)) 5 3]
def c74:SC:=(.seq (.reg false ydqx) (.seq (.seq (.reg false ydkv) (.seq (.reg false ydwu) (.cond (.tmp 12) (.seq (.reg false ydzi) .ret) .skip))) (.seq (.reg false ydwm) (.seq (.seq (.reg false ydrj) (.cond (.tmp 21) (.seq (.reg false yeag) .ret) .skip)) (.seq (.reg false ydtd) .ret)))))
theorem ydkr:Fn 74 c74 [.t 4,.t 5]:=fn_0 Tryz.func74 (by kernel_rfl) (by kernel_rfl)
def ydtz:LO:=[o3 (.box 41 (.tmp 0)) 3 0,o3 (.mv (.const (.slice none 0 0))) 6 0,o3 (.mv (ci' 0)) 7 2]
def ydwx:LO:=[ld' true 2 3 16 0,mv' 1 17 0,cl' 74 [16,17] 18 3,mv' 18 15 7,xt' 15 0 19 15,xt' 15 1 20 15,mv' 19 8 31,mv' 20 9 127]
def ydmf:LO:=[mv' 9 21 0,o3 (.bin .neq (.tmp 21) (ci' 0)) 22 1]
def ydys:LO:=[mv' 9 23 0,o3 (.mv (.const (.slice none 0 0))) 6 0,mv' 23 7 3]
def ydnu:LO:=[mv' 1 24 0,ln' 24 25 1,o3 (.mk 3 1 8 [.i .i64 0] (.tmp 25) (.tmp 25)) 26 3,mv' 26 10 7]
def ydob:LO:=[mv' 8 27 0,ln' 27 28 1,o3 (.mv (ci' 0)) 29 0]
def ycgo:LO:=[bn' .lss 29 28 30 0]
def ydht:LO:=[ix' 1 27 29 31 0,ld' false 1 31 32 1,mv' 32 12 3]
def ydhs:LO:=[mv' 1 33 0,mv' 12 34 0,ix' 1 33 34 35 3,ld' false 1 35 36 7]
def ydun:LO:=[fa' 1 1 3 37 0,ld' false 1 37 38 1,mv' 12 39 0,ix' 1 38 39 40 7,ld' false 1 40 41 15,ln' 41 42 31,o3 (.mv (ci' 0)) 43 0]
def ybwq:LO:=[bn' .lss 43 42 44 0]
def ycmb:LO:=[ix' 2 41 43 45 0,ld' true 2 45 46 1,o3 (.alloc 103 1 [.i .u32 0,.i .i64 0]) 14 0,o0 (.store 2 (.tmp 14) (.tmp 46)) 7]
def ycnn:LO:=[mv' 10 47 0,mv' 12 48 0,mv' 10 49 0,mv' 12 50 0,ix' 1 49 50 51 12,ld' false 1 51 52 28,mv' 2 53 0,ld' true 2 14 54 0,o3 (.call (.tmp 53) [(.tmp 54)]) 55 192,mv' 10 56 0,fa' 1 1 14 57 0,ld' false 1 57 58 1024,ix' 1 56 58 59 3584,ld' false 1 59 60 7680,bn' .add 55 60 61 16320,o3 (.mm true (.tmp 52) (.tmp 61)) 62 32764,ix' 1 47 48 63 65535,o0 (.store 1 (.tmp 63) (.tmp 62)) 131071]
def ycls:LO:=[o3 (.bin .add (.tmp 43) (ci' 1)) 64 0,mv' 64 43 1]
def ybyz:LO:=[o3 (.bin .add (.tmp 29) (ci' 1)) 65 0,mv' 65 29 1]
def ycve:LO:=[mv' 10 66 0,mv' 66 6 1,o3 (.mv (ci' 0)) 7 3]
def c77:SC:=(.seq (.reg false ydtz) (.seq (.reg false ydwx) (.seq (.seq (.reg false ydmf) (.cond (.tmp 22) (.seq (.reg false ydys) .ret) .skip)) (.seq (.reg false ydnu) (.seq (.seq (.reg false ydob) (.block 0 (.loop (.seq (.reg false ycgo) (.seq (.cond (.tmp 30) .skip (.exit 0)) (.seq (.block 1 (.seq (.reg false ydht) (.seq (.seq (.reg false ydhs) (.cond (.tmp 36) (.exit 1) .skip)) (.seq (.reg false ydun) (.block 2 (.loop (.seq (.reg false ybwq) (.seq (.cond (.tmp 44) .skip (.exit 2)) (.seq (.block 3 (.seq (.reg false ycmb) (.reg true ycnn))) (.reg false ycls)))))))))) (.reg false ybyz))))))) (.seq (.reg false ycve) .ret))))))
theorem ydwc:Fn 77 c77 [.t 6,.t 7]:=fn_0 Tryz.func77 (by kernel_rfl) (by kernel_rfl)
def ydks:LO:=[o3 (.box 103 (.tmp 0)) 1 0,o3 (.mv (ci' 0)) 2 0]
def ydnp:LO:=[fa' 0 1 1 3 0,ld' false 1 3 4 1,cl' 113 [4] 5 3,mv' 5 2 7]
def c78:SC:=(.seq (.reg false ydks) (.seq (.reg false ydnp) .ret))
theorem ydlh:Fn 78 c78 [.t 2]:=fn_0 Tryz.func78 (by kernel_rfl) (by kernel_rfl)
def ydoh:LO:=[o3 (.box 41 (.tmp 0)) 2 0,o3 (.mv (.const (.slice none 0 0))) 4 0,o3 (.mv (ci' 0)) 5 2]
def ydsc:LO:=[ld' true 2 2 6 0,mv' 1 7 0,o3 (.call (.func 77) [(.tmp 6),(.tmp 7),(.func 78)]) 8 3,xt' 8 0 9 7,xt' 8 1 10 7,mv' 9 4 31,mv' 10 5 63]
def c20:SC:=(.seq (.reg false ydoh) (.seq (.reg false ydsc) .ret))
theorem ydme:Fn 20 c20 [.t 4,.t 5]:=fn_0 Tryz.func20 (by kernel_rfl) (by kernel_rfl)
def ydff:LO:=[o3 (.box 41 (.tmp 0)) 3 0,o3 (.box 109 (.tmp 1)) 4 0,o3 (.box 103 (.tmp 2)) 5 0,o3 (.alloc 109 1 [.i .i64 0,.i .u32 0]) 6 0,o3 (.mv (.const (.bool false))) 7 0]
def ydgn:LO:=[fa' 1 1 4 9 0,ld' false 1 9 10 1,fa' 0 1 5 11 0,ld' false 1 11 12 4,bn' .andNot 10 12 13 15,fa' 0 1 3 14 0,ld' false 1 14 15 32,fa' 1 1 5 16 0,ld' false 1 16 17 128,ix' 1 15 17 18 480,ld' false 1 18 19 992,bn' .and 13 19 20 2047,mv' 20 8 4095]
def ydcv:LO:=[mv' 8 21 0,o3 (.bin .eql (.tmp 21) (.const (.int .u32 0))) 22 1]
def ydtq:LO:=[fa' 1 1 5 23 0,ld' false 1 23 24 1,fa' 0 1 3 25 0,ld' false 1 25 26 4,fa' 1 1 5 27 0,ld' false 1 27 28 16,ix' 1 26 28 29 60,ld' false 1 29 30 124,o3 (.build [.i .i64 0,.i .u32 0] [(0,1,(.tmp 24)),(1,1,(.tmp 30))]) 31 255,o0 (.store 2 (.tmp 6) (.tmp 31)) 511,o3 (.mv (.const (.bool true))) 7 1023]
def ydxg:LO:=[fa' 1 1 5 32 0,ld' false 1 32 33 1,mv' 8 34 0,o3 (.build [.i .i64 0,.i .u32 0] [(0,1,(.tmp 33)),(1,1,(.tmp 34))]) 35 7,o0 (.store 2 (.tmp 6) (.tmp 35)) 15,o3 (.mv (.const (.bool false))) 7 31]
def c76:SC:=(.seq (.reg false ydff) (.seq (.reg true ydgn) (.seq (.seq (.reg false ydcv) (.cond (.tmp 22) (.seq (.reg true ydtq) .ret) .skip)) (.seq (.reg false ydxg) .ret))))
theorem ydnv:Fn 76 c76 [.c 6 true 2,.t 7]:=fn_0 Tryz.func76 (by kernel_rfl) (by kernel_rfl)
def yduo:LO:=[o3 (.box 41 (.tmp 0)) 2 0,o3 (.box 45 (.tmp 1)) 3 0,o3 (.mv (.const (.slice none 0 0))) 4 0,o3 (.mv (ci' 0)) 5 4]
def ydpq:LO:=[o3 (.mkmap 0) 18 0,o3 (.alloc 166 1 [.a (.map none)]) 6 0,o0 (.store 1 (.tmp 6) (.tmp 18)) 3]
def ydpx:LO:=[o3 (.alloc 167 1 [.a (.slice none 0 0)]) 7 0]
def ydom:LO:=[o3 (.mkfn 137 [] [(.tmp 3),(.tmp 6),(.tmp 7)]) 19 0,mv' 19 8 1]
def ydvn:LO:=[fa' 0 1 2 20 0,ld' false 1 20 21 1,ln' 21 22 3,o3 (.mv (ci' 0)) 23 0]
def ydgm:LO:=[bn' .lss 23 22 24 0]
def ydsf:LO:=[mv' 23 25 0,ix' 1 21 23 26 0,ld' false 1 26 27 2,mv' 25 9 7,mv' 27 10 15]
def ydkh:LO:=[mv' 8 28 0,mv' 9 29 0,mv' 10 30 0,o3 (.build [.i .i64 0,.i .u32 0] [(0,1,(.tmp 29)),(1,1,(.tmp 30))]) 31 6,o3 (.call (.tmp 28) [(.tmp 31)]) 32 15]
def ydpf:LO:=[o3 (.bin .add (.tmp 23) (ci' 1)) 33 0,mv' 33 23 1]
def ydlf:LO:=[ld' false 1 3 34 0,ln' 34 35 1,o3 (.mk 38 1 24 [.a (.slice none 0 0)] (.tmp 35) (.tmp 35)) 36 3,mv' 36 11 7]
def ycou:LO:=[o3 (.mv (ci' 0)) 12 0]
def ybmi:LO:=[mv' 12 37 0,ld' false 1 7 38 0,ln' 38 39 2,bn' .lss 37 39 40 7]
def yccw:LO:=[ld' false 1 7 43 0,ln' 43 44 1,o3 (.bin .gtr (.tmp 44) (ci' 262144)) 45 3]
def ydtf:LO:=[o3 (.mv (.const (.slice none 0 0))) 4 0,o3 (.mv (ci' 3)) 5 1]
def ycdn:LO:=[ld' false 1 7 46 0,mv' 12 47 0,ix' 2 46 47 48 3,ld' true 2 48 49 7,o3 (.alloc 109 1 [.i .i64 0,.i .u32 0]) 13 0,o0 (.store 2 (.tmp 13) (.tmp 49)) 31]
def ybxk:LO:=[mv' 11 50 0,fa' 0 1 13 51 0,ld' false 1 51 52 2,mv' 11 53 0,fa' 0 1 13 54 0,ld' false 1 54 55 16,ix' 1 53 55 56 56,ld' false 1 56 57 120,fa' 1 1 13 58 0,ld' false 1 58 59 256,o3 (.bslice 77 1 1 [.i .u32 0] [(0,1,(.tmp 59))]) 60 768,o3 (.app 77 1 4 (.tmp 57) (.tmp 60)) 61 2040,ix' 1 50 52 62 4095,o0 (.store 1 (.tmp 62) (.tmp 61)) 8191]
def ybwj:LO:=[fa' 1 1 2 63 0,ld' false 1 63 64 1,fa' 0 1 13 65 0,ld' false 1 65 66 4,ix' 1 64 66 67 15,ld' false 1 67 68 31,ln' 68 69 63,o3 (.mv (ci' 0)) 70 0]
def ybbv:LO:=[bn' .lss 70 69 71 0]
def ycde:LO:=[ix' 2 68 70 72 0,ld' true 2 72 73 1,o3 (.alloc 103 1 [.i .u32 0,.i .i64 0]) 15 0,o0 (.store 2 (.tmp 15) (.tmp 73)) 7]
def ybzt:LO:=[ld' true 2 2 75 0,ld' true 2 13 76 0,ld' true 2 15 77 0,cl' 76 [75,76,77] 78 7,mv' 78 74 15,xt' 74 0 79 31,xt' 74 1 80 31,o3 (.alloc 109 1 [.i .i64 0,.i .u32 0]) 16 0,o0 (.store 2 (.tmp 16) (.tmp 79)) 191,mv' 80 17 511]
def ybtf:LO:=[mv' 8 81 0,ld' true 2 16 82 0,o3 (.call (.tmp 81) [(.tmp 82)]) 83 3]
def ybrz:LO:=[o3 (.bin .add (.tmp 70) (ci' 1)) 84 0,mv' 84 70 1]
def ybwr:LO:=[mv' 12 41 0,o3 (.bin .add (.tmp 41) (ci' 1)) 42 1,mv' 42 12 3]
def ycor:LO:=[mv' 11 85 0,mv' 85 4 1,o3 (.mv (ci' 0)) 5 3]
def c75:SC:=(.seq (.reg false yduo) (.seq (.reg false ydpq) (.seq (.reg false ydpx) (.seq (.reg false ydom) (.seq (.seq (.reg false ydvn) (.block 0 (.loop (.seq (.reg false ydgm) (.seq (.cond (.tmp 24) .skip (.exit 0)) (.seq (.block 1 (.seq (.reg false ydsf) (.reg false ydkh))) (.reg false ydpf))))))) (.seq (.reg false ydlf) (.seq (.seq (.reg false ycou) (.block 2 (.loop (.seq (.seq (.reg false ybmi) (.cond (.tmp 40) .skip (.exit 2))) (.seq (.block 3 (.seq (.seq (.reg false yccw) (.cond (.tmp 45) (.seq (.reg false ydtf) .ret) .skip)) (.seq (.reg false ycdn) (.seq (.reg true ybxk) (.seq (.reg false ybwj) (.block 4 (.loop (.seq (.reg false ybbv) (.seq (.cond (.tmp 71) .skip (.exit 4)) (.seq (.block 5 (.seq (.reg false ycde) (.seq (.reg false ybzt) (.reg false ybtf)))) (.reg false ybrz))))))))))) (.reg false ybwr)))))) (.seq (.reg false ycor) .ret))))))))
theorem ydce:FnU 75 c75 [.t 4,.t 5]:=fn_u Tryz.func75 (by kernel_rfl) (by kernel_rfl)
def ybkw:LO:=[o3 (.box 109 (.tmp 0)) 4 0]
def yblt:LO:=[ld' false 1 1 5 0,fa' 0 1 4 6 0,ld' false 1 6 7 2,ix' 1 5 7 8 7,ld' false 1 8 9 15,o3 (.un .not (.tmp 9)) 10 31,mv' 10 11 63,⟨.load false 1 (.tmp 2),some 12,some (11,true),127⟩,⟨.load true 2 (.tmp 4),some 13,some (11,true),127⟩,⟨.mget 0 (.tmp 12) (.tmp 13),some 14,some (11,true),511⟩,⟨.un .not (.tmp 14),some 15,some (11,true),1023⟩,o3 (.pick (.tmp 11) (.tmp 15) (.const (.bool false))) 16 2047]
def ycyl:LO:=[ld' false 1 2 17 0,ld' true 2 4 18 0,o0 (.mset 0 (.tmp 17) (.tmp 18) (.const (.bool true))) 3]
def ydbb:LO:=[ld' false 1 3 19 0,ld' true 2 4 20 0,o3 (.bslice 109 2 1 [.i .i64 0,.i .u32 0] [(0,2,(.tmp 20))]) 21 2,o3 (.app 109 2 16 (.tmp 19) (.tmp 21)) 22 7,o0 (.store 1 (.tmp 3) (.tmp 22)) 15]
def c137:SC:=(.seq (.reg false ybkw) (.seq (.reg false yblt) (.cond (.tmp 16) (.seq (.reg false ycyl) (.reg false ydbb)) .skip)))
theorem ycgq:FnM 137 c137 []:=fn_m Tryz.func137 (by kernel_rfl) (by kernel_rfl)
def ydtr:LO:=[o3 (.box 41 (.tmp 0)) 2 0,o3 (.mv (.const (.slice none 0 0))) 4 0,o3 (.mv (ci' 0)) 5 2]
def ydrb:LO:=[ld' true 2 2 24 0,mv' 1 25 0,cl' 74 [24,25] 26 3,mv' 26 23 7,xt' 23 0 27 15,xt' 23 1 28 15,mv' 27 6 31,mv' 28 7 127]
def ydlm:LO:=[mv' 7 29 0,o3 (.bin .neq (.tmp 29) (ci' 0)) 30 1]
def ydzc:LO:=[mv' 7 31 0,o3 (.mv (.const (.slice none 0 0))) 4 0,mv' 31 5 3]
def ydtk:LO:=[ld' true 2 2 33 0,mv' 1 34 0,cl' 75 [33,34] 35 3,mv' 35 32 7,xt' 32 0 36 15,xt' 32 1 37 15,mv' 36 8 31,mv' 37 7 127]
def ydve:LO:=[mv' 7 38 0,o3 (.bin .neq (.tmp 38) (ci' 0)) 39 1]
def ydyy:LO:=[mv' 7 40 0,o3 (.mv (.const (.slice none 0 0))) 4 0,mv' 40 5 3]
def ydlv:LO:=[o3 (.mkmap 1) 41 0,mv' 41 9 1]
def ydop:LO:=[mv' 6 42 0,ln' 42 43 1,o3 (.mv (ci' 0)) 44 0]
def ydjx:LO:=[bn' .lss 44 43 45 0]
def ycmp:LO:=[ix' 1 42 44 46 0,ld' false 1 46 47 1,mv' 47 11 3]
def ycul:LO:=[mv' 8 48 0,mv' 11 49 0,ix' 1 48 49 50 3,ld' false 1 50 51 7,ln' 51 52 15,o3 (.mv (ci' 0)) 53 0]
def ycei:LO:=[bn' .lss 53 52 54 0]
def ycus:LO:=[ix' 1 51 53 55 0,ld' false 1 55 56 1,mv' 56 13 3]
def ycsc:LO:=[mv' 11 57 0,mv' 13 58 0,o3 (.build [.i .i64 0,.i .u32 0] [(0,1,(.tmp 57)),(1,1,(.tmp 58))]) 59 3,o3 (.alloc 109 1 [.i .i64 0,.i .u32 0]) 14 0,o0 (.store 2 (.tmp 14) (.tmp 59)) 15]
def ycqe:LO:=[o3 (.mv (ci' 1)) 15 0]
def yctq:LO:=[fa' 1 1 2 60 0,ld' false 1 60 61 1,mv' 11 62 0,ix' 1 61 62 63 7,ld' false 1 63 64 15,ln' 64 65 31,o3 (.mv (ci' 0)) 66 0]
def ybct:LO:=[bn' .lss 66 65 67 0]
def yblu:LO:=[ix' 2 64 66 68 0,ld' true 2 68 69 1,o3 (.alloc 103 1 [.i .u32 0,.i .i64 0]) 17 0,o0 (.store 2 (.tmp 17) (.tmp 69)) 7]
def ybmc:LO:=[mv' 1 70 0,fa' 1 1 17 71 0,ld' false 1 71 72 2,ix' 1 70 72 73 7,ld' false 1 73 74 15]
def ybzc:LO:=[ld' true 2 2 76 0,ld' true 2 14 77 0,ld' true 2 17 78 0,cl' 76 [76,77,78] 79 7,mv' 79 75 15,xt' 75 0 80 31,xt' 75 1 81 31,o3 (.alloc 109 1 [.i .i64 0,.i .u32 0]) 18 0,o0 (.store 2 (.tmp 18) (.tmp 80)) 191,mv' 81 19 511]
def ybxr:LO:=[mv' 19 82 0]
def ycpb:LO:=[mv' 15 83 0,mv' 9 84 0,ld' true 2 18 85 0,o3 (.mget 1 (.tmp 84) (.tmp 85)) 86 6,o3 (.bin .add (ci' 1) (.tmp 86)) 87 14,o3 (.mm true (.tmp 83) (.tmp 87)) 88 31,mv' 88 15 63]
def ycpu:LO:=[mv' 15 89 0,mv' 9 90 0,ld' true 2 18 91 0,o3 (.mget 1 (.tmp 90) (.tmp 91)) 92 6,o3 (.mm true (.tmp 89) (.tmp 92)) 93 15,mv' 93 15 31]
def ybjy:LO:=[o3 (.bin .add (.tmp 66) (ci' 1)) 94 0,mv' 94 66 1]
def ycnq:LO:=[mv' 9 95 0,ld' true 2 14 96 0,mv' 15 97 0,o0 (.mset 1 (.tmp 95) (.tmp 96) (.tmp 97)) 7]
def ycps:LO:=[o3 (.bin .add (.tmp 53) (ci' 1)) 98 0,mv' 98 53 1]
def ycmz:LO:=[o3 (.bin .add (.tmp 44) (ci' 1)) 99 0,mv' 99 44 1]
def ycxy:LO:=[mv' 1 100 0,ln' 100 101 1,o3 (.mk 3 1 8 [.i .i64 0] (.tmp 101) (.tmp 101)) 102 3,mv' 102 20 7]
def ycsn:LO:=[fa' 0 1 2 103 0,ld' false 1 103 104 1,ln' 104 105 3,o3 (.mv (ci' 0)) 106 0]
def ybls:LO:=[bn' .lss 106 105 107 0]
def ybvp:LO:=[mv' 106 108 0,ix' 1 104 106 109 0,ld' false 1 109 110 2,mv' 108 21 7,mv' 110 22 15]
def ybws:LO:=[mv' 1 111 0,mv' 21 112 0,ix' 1 111 112 113 3,ld' false 1 113 114 7,o3 (.un .not (.tmp 114)) 115 15]
def ycuu:LO:=[mv' 20 116 0,mv' 21 117 0,mv' 9 118 0,mv' 21 119 0,mv' 22 120 0,o3 (.build [.i .i64 0,.i .u32 0] [(0,1,(.tmp 119)),(1,1,(.tmp 120))]) 121 24,o3 (.mget 1 (.tmp 118) (.tmp 121)) 122 60,ix' 1 116 117 123 127,o0 (.store 1 (.tmp 123) (.tmp 122)) 255]
def ybts:LO:=[o3 (.bin .add (.tmp 106) (ci' 1)) 124 0,mv' 124 106 1]
def ycpz:LO:=[mv' 20 125 0,mv' 125 4 1,o3 (.mv (ci' 0)) 5 3]
def c19:SC:=(.seq (.reg false ydtr) (.seq (.reg false ydrb) (.seq (.seq (.reg false ydlm) (.cond (.tmp 30) (.seq (.reg false ydzc) .ret) .skip)) (.seq (.reg false ydtk) (.seq (.seq (.reg false ydve) (.cond (.tmp 39) (.seq (.reg false ydyy) .ret) .skip)) (.seq (.reg false ydlv) (.seq (.seq (.reg false ydop) (.block 0 (.loop (.seq (.reg false ydjx) (.seq (.cond (.tmp 45) .skip (.exit 0)) (.seq (.block 1 (.seq (.reg false ycmp) (.seq (.reg false ycul) (.block 2 (.loop (.seq (.reg false ycei) (.seq (.cond (.tmp 54) .skip (.exit 2)) (.seq (.block 3 (.seq (.reg false ycus) (.seq (.reg false ycsc) (.seq (.reg false ycqe) (.seq (.seq (.reg false yctq) (.block 4 (.loop (.seq (.reg false ybct) (.seq (.cond (.tmp 67) .skip (.exit 4)) (.seq (.block 5 (.seq (.reg false yblu) (.seq (.seq (.reg false ybmc) (.cond (.tmp 74) (.exit 5) .skip)) (.seq (.reg false ybzc) (.seq (.reg false ybxr) (.cond (.tmp 82) (.reg false ycpb) (.reg false ycpu))))))) (.reg false ybjy))))))) (.reg false ycnq)))))) (.reg false ycps))))))))) (.reg false ycmz))))))) (.seq (.reg false ycxy) (.seq (.seq (.reg false ycsn) (.block 6 (.loop (.seq (.reg false ybls) (.seq (.cond (.tmp 107) .skip (.exit 6)) (.seq (.block 7 (.seq (.reg false ybvp) (.seq (.reg false ybws) (.cond (.tmp 115) (.reg false ycuu) .skip)))) (.reg false ybts))))))) (.seq (.reg false ycpz) .ret))))))))))
theorem ydny:Fn 19 c19 [.t 4,.t 5]:=fn_0 Tryz.func19 (by kernel_rfl) (by kernel_rfl)
def ydly:LO:=[o3 (.box 92 (.tmp 0)) 1 0,o3 (.mv (.const (.nilFunc))) 2 0]
def ydro:LO:=[o3 (.mkfn 134 [] [(.tmp 1)]) 3 0,mv' 3 2 1]
def c68:SC:=(.seq (.reg false ydly) (.seq (.reg false ydro) .ret))
theorem ydmw:Fn 68 c68 [.t 2]:=fn_0 Tryz.func68 (by kernel_rfl) (by kernel_rfl)
end Sh
end
section
def szP(b:Int×Int):Nat:=(b.2-b.1+1).toNat
def ybp:List (Int×Int)->Nat
 |[]=>1
 |b::bs=>szP b*ybp bs
def ybi:List (List (Int×Int))->Nat
 |[]=>1
 |r::rs=>ybp r*ybi rs
def unR:List (Int×Int)->Nat->List Int×Nat
 |[],k=>([],k)
 |b::bs,k=>((b.1+(((unR bs k).2%szP b:Nat):Int))::(unR bs k).1,(unR bs k).2/szP b)
def unT:List (List (Int×Int))->Nat->Conf×Nat
 |[],k=>([],k)
 |r::rs,k=>((unR r (unT rs k).2).1::(unT rs k).1,(unR r (unT rs k).2).2)
def rkR:List (Int×Int)->List Int->Int
 |b::bs,x::xs=>(x-b.1)*ybp bs+rkR bs xs
 |_,_=>0
def rkT:List (List (Int×Int))->Conf->Int
 |r::rs,c::cs=>rkR r c*ybi rs+rkT rs cs
 |_,_=>0
def inR:List (Int×Int)->List Int->Prop
 |[],[]=>True
 |b::bs,x::xs=>(b.1<=x/\x<=b.2)/\inR bs xs
 |_,_=>False
def inT:List (List (Int×Int))->Conf->Prop
 |[],[]=>True
 |r::rs,c::cs=>inR r c/\inT rs cs
 |_,_=>False
def bdR(bs:List (Int×Int)):Prop:=∀b∈bs,b.1<=b.2
def bdT(rs:List (List (Int×Int))):Prop:=∀r∈rs,bdR r
theorem yot{b:Int×Int}(h:b.1<=b.2):0<szP b/\(szP b:Int)=b.2-b.1+1:=by unfold szP;omega
theorem ykq:∀{bs:List (Int×Int)},bdR bs->0<ybp bs
 |[],_=>by decide
 |b::bs,h=>zY (yot (h b zC)).1 (ykq fun x hx=>h x (zB _ hx))
theorem yoj:∀{rs:List (List (Int×Int))},bdT rs->0<ybi rs
 |[],_=>by decide
 |r::rs,h=>zY (ykq (h r zC)) (yoj fun x hx=>h x (zB _ hx))
theorem ybfo:∀(bs:List (Int×Int)) (k:Nat),(unR bs k).2=k/ybp bs
 |[],k=>by simp[unR,ybp]
 | b::bs,k=>by
   show(unR bs k).2/szP b=k/(szP b*ybp bs);rw[ybfo bs k,zM,zF]
theorem ybvb:∀(rs:List (List (Int×Int))) (k:Nat),(unT rs k).2=k/ybi rs
 |[],k=>by simp[unT,ybi]
 | r::rs,k=>by
   show(unR r (unT rs k).2).2=k/(ybp r*ybi rs);rw[ybfo,ybvb rs k,zM,zF]
theorem ycqt:∀(bs:List (Int×Int)) (k:Nat),rkR bs (unR bs k).1=((k%ybp bs:Nat):Int)
 |[],k=>by simp[rkR,ybp,zZ]
 | b::bs,k=>by
   show(b.1+(((unR bs k).2%szP b:Nat):Int)-b.1)*(ybp bs:Int)+rkR bs (unR bs k).1=((k%(szP b*ybp bs):Nat):Int);rw[ycqt bs k,ybfo,zF (szP b),zAA,zF (ybp bs) (k/ybp bs%szP b),zJ,zD];rw[show b.1+((k/ybp bs%szP b:Nat):Int)-b.1=((k/ybp bs%szP b:Nat):Int)by omega]
   omega
theorem ycow:∀{bs:List (Int×Int)}(k:Nat),bdR bs->inR bs (unR bs k).1
 |[],_,_=>trivial
 | b::bs,k,h=>by
   have hb:=yot (h b zC);have hm:=zAE (unR bs k).2 hb.1;exact⟨⟨by omega,by omega⟩,ycow k fun x hx=>h x (zB _ hx)⟩
theorem yxh:∀{rs:List (List (Int×Int))}(k:Nat),bdT rs->inT rs (unT rs k).1
 |[],_,_=>trivial
 |r::rs,k,h=>⟨ycow _ (h r zC),yxh k fun x hx=>h x (zB _ hx)⟩
theorem ybma:∀(rs:List (List (Int×Int))) (k:Nat),rkT rs (unT rs k).1=((k%ybi rs:Nat):Int)
 |[],k=>by simp[rkT,ybi,zZ]
 | r::rs,k=>by
   show rkR r (unR r (unT rs k).2).1*(ybi rs:Int)+rkT rs (unT rs k).1=((k%(ybp r*ybi rs):Nat):Int);rw[ycqt,ybma rs k,ybvb,zF (ybp r),zAA,zF (ybi rs) (k/ybi rs%ybp r),zJ,zD];omega
theorem ycun:∀{bs:List (Int×Int)}{xs:List Int},inR bs xs->0<=rkR bs xs/\rkR bs xs<ybp bs/\∀m:Nat,unR bs ((rkR bs xs).toNat+m*ybp bs)=(xs,m)
 |[],[],_=>⟨by simp[rkR],by simp[rkR,ybp],fun m=>by simp[rkR,unR,ybp]⟩
 |[],_::_,h=>h.elim
 |_::_,[],h=>h.elim
 | b :: bs,x::xs,⟨⟨h1,h2⟩,h3⟩=>by
   obtain⟨i1,i2,i3⟩:=ycun h3;obtain⟨s1,s2⟩:=yot (show b.1<=b.2 by omega)
   obtain⟨d,hd⟩:∃d:Nat,x-b.1=d:=⟨(x-b.1).toNat,by omega⟩
   obtain⟨r,hr⟩:∃r:Nat,rkR bs xs=r:=⟨(rkR bs xs).toNat,by omega⟩
   have hds:d+1<=szP b:=by omega
   have e:rkR (b::bs) (x::xs)=((d*ybp bs+r:Nat):Int):=by
    show(x-b.1)*(ybp bs:Int)+rkR bs xs=_;rw[hd,hr,zJ,zD]
   have hlt:d*ybp bs+r<szP b*ybp bs:=by
    have:=zN (ybp bs) hds;rw[zO]at this;omega
   rw[e];refine⟨by omega,by show((d*ybp bs+r:Nat):Int)<((szP b*ybp bs:Nat):Int);omega,fun m=>?_⟩
   have i4:=i3 (d+m*szP b)
   have e2:((d*ybp bs+r:Nat):Int).toNat+m*(szP b*ybp bs)=(rkR bs xs).toNat+(d+m*szP b)*ybp bs:=by
    rw[hr,zG,zG,zAB,zK];omega
   have e3:unR bs (((d*ybp bs+r:Nat):Int).toNat+m*ybp (b::bs))=(xs,d+m*szP b):=by
    rw[<-i4,<-e2];rfl
   show((b.1+(((unR bs _).2%szP b:Nat):Int))::(unR bs _).1,(unR bs _).2/szP b)=_;rw[e3];simp only;rw[Nat.add_mul_mod_self_right,zH (by omega),Nat.add_mul_div_right _ _ s1,Nat.div_eq_of_lt (by omega),<-hd]
   simp only[Nat.zero_add,Prod.mk.injEq,List.cons.injEq,and_true];omega
theorem yxv:∀{rs:List (List (Int×Int))}{c:Conf},inT rs c->0<=rkT rs c/\rkT rs c<ybi rs/\∀m:Nat,unT rs ((rkT rs c).toNat+m*ybi rs)=(c,m)
 |[],[],_=>⟨by simp[rkT],by simp[rkT,ybi],fun m=>by simp[rkT,unT,ybi]⟩
 |[],_::_,h=>h.elim
 |_::_,[],h=>h.elim
 | b :: bs,x::xs,⟨h1,h3⟩=>by
   obtain⟨i1,i2,i3⟩:=yxv h3;obtain⟨j1,j2,j3⟩:=ycun h1;obtain⟨d,hd⟩:∃d:Nat,rkR b x=d:=⟨(rkR b x).toNat,by omega⟩
   obtain⟨r,hr⟩:∃r:Nat,rkT bs xs=r:=⟨(rkT bs xs).toNat,by omega⟩
   have hds:d+1<=ybp b:=by omega
   have e:rkT (b::bs) (x::xs)=((d*ybi bs+r:Nat):Int):=by
    show rkR b x*(ybi bs:Int)+rkT bs xs=_;rw[hd,hr,zJ,zD]
   have hlt:d*ybi bs+r<ybp b*ybi bs:=by
    have:=zN (ybi bs) hds;rw[zO]at this;omega
   rw[e];refine⟨by omega,by show((d*ybi bs+r:Nat):Int)<((ybp b*ybi bs:Nat):Int);omega,fun m=>?_⟩
   have i4:=i3 (d+m*ybp b)
   have e2:((d*ybi bs+r:Nat):Int).toNat+m*(ybp b*ybi bs)=(rkT bs xs).toNat+(d+m*ybp b)*ybi bs:=by
    rw[hr,zG,zG,zAB,zK];omega
   have e3:unT bs (((d*ybi bs+r:Nat):Int).toNat+m*ybi (b::bs))=(xs,d+m*ybp b):=by
    rw[<-i4,<-e2];rfl
   have j4:=j3 m;rw[hd,zG]at j4;show((unR b (unT bs _).2).1::(unT bs _).1,(unR b (unT bs _).2).2)=_;rw[e3];simp only;rw[j4]
theorem ybjq{rs:List (List (Int×Int))}{c:Conf}(h:inT rs c):(unT rs (rkT rs c).toNat).1=c:=by
 have:=(yxv h).2.2 0;rw[zV,Nat.add_zero]at this;rw[this]
theorem ydik{rs:List (List (Int×Int))}{c d:Conf}(hc:inT rs c)(hd:inT rs d)(e:rkT rs c=rkT rs d):c=d:=by
 rw[<-ybjq hc,e,ybjq hd]
end
section
def advR:List (Int×Int)->List Int->List Int×Bool
 |b::bs,x::xs=>if (advR bs xs).2 then(x::(advR bs xs).1,true)else if x<b.2 then((x+1)::(advR bs xs).1,true)else(b.1::(advR bs xs).1,false)
 |_,_=>([],false)
def advT:List (List (Int×Int))->Conf->Conf×Bool
 |r::rs,c::cs=>if (advT rs cs).2 then(c::(advT rs cs).1,true)else((advR r c).1::(advT rs cs).1,(advR r c).2)
 |_,_=>([],false)
theorem ybue:∀{bs:List (Int×Int)}{xs:List Int},inR bs xs->inR bs (advR bs xs).1/\((advR bs xs).2=true->rkR bs (advR bs xs).1=rkR bs xs+1)/\((advR bs xs).2=false->rkR bs (advR bs xs).1=0/\rkR bs xs+1=ybp bs)
 |[],[],_=>⟨trivial,(fun h=>by cases h),fun _=>⟨rfl,rfl⟩⟩
 |[],_::_,h=>h.elim
 |_::_,[],h=>h.elim
 | b :: bs,x::xs,⟨⟨h1,h2⟩,h3⟩=>by
   obtain⟨i1,i2,i3⟩:=ybue h3;obtain⟨s1,s2⟩:=yot (show b.1<=b.2 by omega)
   unfold advR;cases hf:(advR bs xs).2 with
   | true =>
     have e:=i2 hf;simp only[if_true];refine⟨⟨⟨h1,h2⟩,i1⟩,fun _=>?_,fun h=>by cases h⟩
     show(x-b.1)*(ybp bs:Int)+rkR bs (advR bs xs).1=(x-b.1)*(ybp bs:Int)+rkR bs xs+1;rw[e];omega
   | false =>
     obtain⟨e1,e2⟩:=i3 hf;simp only[zQ,if_false]
     by_cases hx:x<b.2
     .rw[if_pos hx];refine⟨⟨⟨by omega,by omega⟩,i1⟩,fun _=>?_,fun h=>by cases h⟩
      show(x+1-b.1)*(ybp bs:Int)+rkR bs (advR bs xs).1=(x-b.1)*(ybp bs:Int)+rkR bs xs+1;rw[e1,show x+1-b.1=(x-b.1)+1 by omega,zI]
      omega
     .rw[if_neg hx];refine⟨⟨⟨by omega,by omega⟩,i1⟩,(fun h=>by cases h),fun _=>⟨?_,?_⟩⟩
      .show(b.1-b.1)*(ybp bs:Int)+rkR bs (advR bs xs).1=0;rw[e1,zW];simp
      .show(x-b.1)*(ybp bs:Int)+rkR bs xs+1=((szP b*ybp bs:Nat):Int);rw[zD,s2,show b.2-b.1+1=(x-b.1)+1 by omega,zI]
       omega
theorem ycen:∀{rs:List (List (Int×Int))}{c:Conf},inT rs c->inT rs (advT rs c).1/\((advT rs c).2=true->rkT rs (advT rs c).1=rkT rs c+1)/\((advT rs c).2=false->rkT rs (advT rs c).1=0/\rkT rs c+1=ybi rs)
 |[],[],_=>⟨trivial,(fun h=>by cases h),fun _=>⟨rfl,rfl⟩⟩
 |[],_::_,h=>h.elim
 |_::_,[],h=>h.elim
 | b :: bs,x::xs,⟨h1,h3⟩=>by
   obtain⟨i1,i2,i3⟩:=ycen h3;obtain⟨j1,j2,j3⟩:=ybue h1;unfold advT;cases hf:(advT bs xs).2 with
   | true =>
     have e:=i2 hf;simp only[if_true];refine⟨⟨h1,i1⟩,fun _=>?_,fun h=>by cases h⟩
     show rkR b x*(ybi bs:Int)+rkT bs (advT bs xs).1=rkR b x*(ybi bs:Int)+rkT bs xs+1;rw[e];omega
   | false =>
     obtain⟨e1,e2⟩:=i3 hf;simp only[zQ,if_false];refine⟨⟨j1,i1⟩,fun h=>?_,fun h=>⟨?_,?_⟩⟩
     .show rkR b (advR b x).1*(ybi bs:Int)+rkT bs (advT bs xs).1=rkR b x*(ybi bs:Int)+rkT bs xs+1;rw[e1,j2 h,zI];omega
     .show rkR b (advR b x).1*(ybi bs:Int)+rkT bs (advT bs xs).1=0;rw[e1,(j3 h).1];simp
     .show rkR b x*(ybi bs:Int)+rkT bs xs+1=((ybp b*ybi bs:Nat):Int);rw[zD,<-(j3 h).2,zI];omega
theorem ydby{rs:List (List (Int×Int))}{k:Nat}(hb:bdT rs)(hk:k+1<ybi rs):(advT rs (unT rs k).1).1=(unT rs (k+1)).1:=by
 have hi:=yxh k hb;obtain⟨h1,h2,h3⟩:=ycen hi;have e:=ybma rs k;rw[zH (by omega)]at e
 have ht:(advT rs (unT rs k).1).2=true:=by
  cases hf:(advT rs (unT rs k).1).2 with
  |true=>rfl
  |false=>have:=(h3 hf).2;omega
 refine ydik h1 (yxh _ hb) ?_;rw[h2 ht,e,ybma,zH hk];omega
def ynn(rs:List (List (Int×Int))):Conf:=rs.map (·.map (·.1))
theorem ybep:∀{bs:List (Int×Int)},bdR bs->inR bs (bs.map (·.1))/\rkR bs (bs.map (·.1))=0
 |[],_=>⟨trivial,rfl⟩
 | b::bs,h=>by
   obtain⟨i1,i2⟩:=ybep (bs:=bs) fun x hx=>h x (zB _ hx);refine⟨⟨⟨Int.le_refl _,h b zC⟩,i1⟩,?_⟩;show(b.1-b.1)*(ybp bs:Int)+rkR bs (bs.map (·.1))=0;rw[i2,zW];simp
theorem ybef:∀{rs:List (List (Int×Int))},bdT rs->inT rs (ynn rs)/\rkT rs (ynn rs)=0
 |[],_=>⟨trivial,rfl⟩
 | r::rs,h=>by
   obtain⟨i1,i2⟩:=ybef (rs:=rs) fun x hx=>h x (zB _ hx);obtain⟨j1,j2⟩:=ybep (h r zC);refine⟨⟨j1,i1⟩,?_⟩;show rkR r (r.map (·.1))*(ybi rs:Int)+rkT rs (ynn rs)=0;rw[i2,j2];simp
theorem ycbs{rs:List (List (Int×Int))}(h:bdT rs):(unT rs 0).1=ynn rs:=by
 obtain⟨h1,h2⟩:=ybef h;have:=ybjq h1;rw[h2]at this;exact this
def plR:List (Int×Int)->Nat->List Int×Nat
 |[],p=>([],p)
 |b::bs,p=>(((plR bs p).2:Int)::(plR bs p).1,(plR bs p).2*szP b)
def plT:List (List (Int×Int))->Nat->List (List Int)×Nat
 |[],p=>([],p)
 |r::rs,p=>((plR r (plT rs p).2).1::(plT rs p).1,(plR r (plT rs p).2).2)
theorem ypd:∀(bs:List (Int×Int)) (p:Nat),(plR bs p).2=p*ybp bs
 |[],p=>(zAC p).symm
 | b::bs,p=>by
   show(plR bs p).2*szP b=p*(szP b*ybp bs);rw[ypd bs p,zK,zF (szP b)]
theorem yyx:∀(rs:List (List (Int×Int))) (p:Nat),(plT rs p).2=p*ybi rs
 |[],p=>(zAC p).symm
 | r::rs,p=>by
   show(plR r (plT rs p).2).2=p*(ybp r*ybi rs);rw[ypd,yyx rs p,zK,zF (ybp r)]
theorem ybiw:∀(bs:List (Int×Int)) (p:Nat),(plR bs p).1.length=bs.length
 |[],_=>rfl
 |b::bs,p=>by show(plR bs p).1.length+1=_;rw[ybiw bs p];rfl
theorem yzy:∀(rs:List (List (Int×Int))) (p:Nat),(plT rs p).1.length=rs.length
 |[],_=>rfl
 |r::rs,p=>by show(plT rs p).1.length+1=_;rw[yzy rs p];rfl
def grR:List Int->List Int->List Int->Int
 |y::ys,x::xs,q::qs=>(y-x)*q+grR ys xs qs
 |_,_,_=>0
def grT:Conf->Conf->List (List Int)->Int
 |d::ds,c::cs,q::qs=>grR d c q+grT ds cs qs
 |_,_,_=>0
theorem yczh:∀{bs:List (Int×Int)}{xs ys:List Int}(p:Nat),inR bs xs->inR bs ys->grR ys xs (plR bs p).1=(rkR bs ys-rkR bs xs)*(p:Int)
 |[],[],[],p,_,_=>by simp[grR,rkR]
 |[],_::_,_,_,h,_=>h.elim
 |[],[],_::_,_,_,h=>h.elim
 |_::_,[],_,_,h,_=>h.elim
 |_::_,_::_,[],_,_,h=>h.elim
 | b::bs,x::xs,y::ys,p,h,h'=>by
   show(y-x)*((plR bs p).2:Int)+grR ys xs (plR bs p).1=((y-b.1)*(ybp bs:Int)+rkR bs ys-((x-b.1)*(ybp bs:Int)+rkR bs xs))*(p:Int);rw[yczh p h.2 h'.2,ypd,zD,show((y-b.1)*(ybp bs:Int)+rkR bs ys-((x-b.1)*(ybp bs:Int)+rkR bs xs))=(y-x)*(ybp bs:Int)+(rkR bs ys-rkR bs xs)by simp only[zAD];omega,zI,zX (p:Int),zU]
theorem ycoq:∀{rs:List (List (Int×Int))}{c d:Conf}(p:Nat),inT rs c->inT rs d->grT d c (plT rs p).1=(rkT rs d-rkT rs c)*(p:Int)
 |[],[],[],p,_,_=>by simp[grT,rkT]
 |[],_::_,_,_,h,_=>h.elim
 |[],[],_::_,_,_,h=>h.elim
 |_::_,[],_,_,h,_=>h.elim
 |_::_,_::_,[],_,_,h=>h.elim
 | b::bs,x::xs,y::ys,p,h,h'=>by
   show grR y x (plR b (plT bs p).2).1+grT ys xs (plT bs p).1=(rkR b y*(ybi bs:Int)+rkT bs ys-(rkR b x*(ybi bs:Int)+rkT bs xs))*(p:Int);rw[yczh _ h.1 h'.1,ycoq p h.2 h'.2,yyx,zD,show(rkR b y*(ybi bs:Int)+rkT bs ys-(rkR b x*(ybi bs:Int)+rkT bs xs))=(rkR b y-rkR b x)*(ybi bs:Int)+(rkT bs ys-rkT bs xs)by rw[zAD];omega,zI,zX (p:Int),zU]
def sumI(f:Nat->Int):Nat->Int
 |0=>0
 |n+1=>sumI f n+f n
theorem ykw(f:Nat->Int):∀n,sumI f (n+1)=f 0+sumI (fun i=>f (i+1)) n
 |0=>by simp[sumI]
 | n+1=>by
   show sumI f (n+1)+f (n+1)=f 0+(sumI (fun i=>f (i+1)) n+f (n+1));rw[ykw f n];omega
theorem ywr{f g:Nat->Int}:∀{n:Nat},(∀i,i<n->f i=g i)->sumI f n=sumI g n
 |0,_=>rfl
 | n+1,h=>by
   show sumI f n+f n=sumI g n+g n;rw[ywr fun i hi=>h i (by omega),h n (by omega)]
theorem ybsv:∀{ys xs qs:List Int},ys.length=xs.length->qs.length=xs.length->grR ys xs qs=sumI (fun i=>(ys.getD i 0-xs.getD i 0)*qs.getD i 0) xs.length
 |[],[],[],_,_=>rfl
 | y::ys,x::xs,q::qs,h1,h2=>by
   show(y-x)*q+grR ys xs qs=sumI _ (xs.length+1);rw[ykw,ybsv (by simpa using h1) (by simpa using h2)]
   rfl
theorem ybse:∀{d c:Conf}{qs:List (List Int)},d.length=c.length->qs.length=c.length->grT d c qs=sumI (fun i=>grR (d.getD i []) (c.getD i []) (qs.getD i [])) c.length
 |[],[],[],_,_=>rfl
 | y::ys,x::xs,q::qs,h1,h2=>by
   show grR y x q+grT ys xs qs=sumI _ (xs.length+1);rw[ykw,ybse (by simpa using h1) (by simpa using h2)]
   rfl
end
section
structure Loop(S:Sys)(V:Conf->Prop)(c:Nat->Conf)(s:Nat->Nat)(m:Nat):Prop where
 pos:0<m
 per:∀i,c (i+m)=c i
 val:∀i,V (c i)
 ne:∀i,s i≠0
 sub:∀i,subB (s i) (S.en (c i))
 nx:∀i,c (i+1)=S.mv (c i) (s i)
theorem switch{p:Nat->Prop}{a:Nat}:∀d,¬p a->p (a+d)->∃j,¬p j/\p (j+1)
 |0,h1,h2=>absurd h2 h1
 | d+1,h1,h2=>by
   by_cases q:p (a+d)
   .exact switch d h1 q
   .exact⟨a+d,q,h2⟩
theorem exists_least{p:Nat->Prop}(h:∃x,p x):∃x,p x/\∀y,p y->x<=y:=by
 obtain⟨x,hx⟩:=h
 induction x using Nat.strongRecOn with
 | ind x ih =>
   by_cases q:∃y,p y/\y<x
   .obtain⟨y,hy,hlt⟩:=q;exact ih y hlt hy
   .exact⟨x,hx,fun y hy=>Nat.le_of_not_lt fun hlt=>q ⟨y,hy,hlt⟩⟩
section
variable {S:Sys}{V:Conf->Prop}{c:Nat->Conf}{s:Nat->Nat}{m:Nat}
end
theorem ycjr {n:Nat}(f F:Nat->Nat->Int) {m:Nat}(hm:0<m) (hper:∀i v,f (i+m) v=f i v) (hlow:∀t v,v<n->0<=f t v) (row:∀t v,v<n->f (t+1) v=F t v\/f (t+1) v=f t v)
 (hK:∀t t' v,v<n->(∀u,u<n->(f t u<F t v->f t' u=f t u)/\(F t v<=f t u->F t v<=f t' u))->F t' v=F t v):∀v,v<n->∀t,f (t+1) v=f t v:=by
 classical
 have pers:∀v i k,f (i+k*m) v=f i v:=fun v i k=>by
  induction k with
  |zero=>rw[zV];rfl
  |succ k ih=>rw[zO,<-Nat.add_assoc,hper,ih]
 have later:∀i t,∃j,t<=j/\∀v,f j v=f i v:=fun i t=>⟨i+t*m,Nat.le_trans (Nat.le_mul_of_pos_right t hm) (Nat.le_add_left _ _),fun v=>pers v i t⟩;intro v1 hv1 t1;refine zA fun hne=>?_
 let I:Nat->Prop:=fun v=>v<n/\∃t,f (t+1) v≠f t v
 let P:Nat->Prop:=fun x=>∃v,I v/\∃i,f i v=(x:Int)
 have hP:∃x,P x:=⟨(f 0 v1).toNat,v1,⟨hv1,t1,hne⟩,0,by have:=hlow 0 v1 hv1;omega⟩
 obtain⟨z,⟨v,⟨hv,t0,ht0⟩,i,hi⟩,hz⟩:=exists_least hP
 have hmin:∀u,I u->∀t,((z:Nat):Int)<=f t u:=fun u hu t=>by
  have h0:=hlow t u hu.1;have:=hz (f t u).toNat ⟨u,hu,t,by omega⟩
  omega
 obtain⟨x,hx⟩:∃x:Int,(z:Int)=x:=⟨_,rfl⟩;rw[hx]at hi hmin
 have cst:∀u,u<n->¬I u->∀t t',f t u=f t' u:=fun u hu hn=>by
  have all:∀t,f t u=f 0 u:=fun t=>by
   induction t with
   |zero=>rfl
   | succ t ih =>
     rw[<-ih];exact zA fun q=>hn ⟨hu,t,q⟩
  exact fun t t'=>(all t).trans (all t').symm
 have hout:∃a,f a v≠x:=by
  by_cases q:f t0 v=x
  .exact⟨t0+1,fun e=>ht0 (e.trans q.symm)⟩
  .exact⟨t0,q⟩
 obtain⟨a,ha⟩:=hout;obtain⟨b,hab,hb⟩:=later i a;obtain⟨j,hj1,hj2⟩:=switch (p:=fun t=>f t v=x) (a:=a) (b-a) ha (by show f (a+(b-a)) v=x;rw[show a+(b-a)=b by omega,hb];exact hi)
 have hTj:F j v=x:=by
  rcases row j v hv with e|e
  .rw[<-e];exact hj2
  .rw[e]at hj2;exact absurd hj2 hj1
 have hT:∀t,F t v=x:=fun t=>by
  rw[hK j t v hv fun u hu=>?_]
  .exact hTj
  .rw[hTj]
   by_cases q:I u
   .exact⟨fun hlt=>absurd (hmin u q j) (by omega),fun _=>hmin u q t⟩
   .have e:=cst u hu q t j;exact⟨fun _=>e,fun hle=>by omega⟩
 obtain⟨d,hd1,hd2⟩:=later j (j+1);obtain⟨k,hk1,hk2⟩:=switch (p:=fun t=>¬f t v=x) (a:=j+1) (d-(j+1)) (fun q=>q hj2) (by show ¬f (j+1+(d-(j+1))) v=x;rw[show j+1+(d-(j+1))=d by omega,hd2];exact hj1)
 rcases row k v hv with e|e
 .exact hk2 (by rw[e];exact hT k)
 .exact hk2 (by rw[e];exact zA hk1)
theorem Tgt.still {S:Sys}{V:Conf->Prop}{T:Conf->Nat->List Int}(h:Tgt S V T) (f:List Int->Int) (hlow:∀c v,V c->v<S.n->0<=f (c.getD v []))
 (hK:∀c c' v,V c->V c'->v<S.n->(∀u,u<S.n->(f (c.getD u [])<f (T c v)->f (c'.getD u [])=f (c.getD u []))/\(f (T c v)<=f (c.getD u [])->f (T c v)<=f (c'.getD u [])))->f (T c' v)=f (T c v))
 {c:Nat->Conf}{s:Nat->Nat}{m:Nat}(hL:Loop S V c s m):∀v,v<S.n->∀t,f ((c (t+1)).getD v [])=f ((c t).getD v []) :=
 ycjr (fun t v=>f ((c t).getD v [])) (fun t v=>f (T (c t) v)) hL.pos (fun i v=>by rw[hL.per]) (fun t v hv=>hlow _ _ (hL.val t) hv) (fun t v hv=>by
  show f ((c (t+1)).getD v [])=_\/f ((c (t+1)).getD v [])=_;rw[hL.nx t];cases hb:(s t).testBit v with
  |true=>exact .inl (by rw[h.move _ _ _ (hL.val t) hv hb (hL.sub t)])
  |false=>exact .inr (by rw[h.stay _ _ _ (hL.val t) hv hb])) fun t t' v hv hall=>hK _ _ v (hL.val t) (hL.val t') hv hall
theorem Tgt.no_loop {S:Sys}{V:Conf->Prop}{T:Conf->Nat->List Int}(h:Tgt S V T) (hlt:∀c,S.en c<2^S.n) (f:List Int->Int) (hlow:∀c v,V c->v<S.n->0<=f (c.getD v []))
 (hK:∀c c' v,V c->V c'->v<S.n->(∀u,u<S.n->(f (c.getD u [])<f (T c v)->f (c'.getD u [])=f (c.getD u []))/\(f (T c v)<=f (c.getD u [])->f (T c v)<=f (c'.getD u [])))->f (T c' v)=f (T c v))
 (hG:∀c c' v,V c->V c'->v<S.n->(∀u,u<S.n->f (c'.getD u [])=f (c.getD u []))->T c' v=T c v)
 {c:Nat->Conf}{s:Nat->Nat}{m:Nat}(hL:Loop S V c s m):False:=by
 have hst:=h.still f hlow hK hL
 have all:∀u,u<S.n->∀t,f ((c t).getD u [])=f ((c 0).getD u []):=fun u hu t=>by
  induction t with
  |zero=>rfl
  |succ t ih=>rw[hst u hu t,ih]
 have hT:∀v,v<S.n->∀t,T (c t) v=T (c 0) v:=fun v hv t=>hG _ _ _ (hL.val 0) (hL.val t) hv fun u hu=>all u hu t
 obtain⟨v,hv⟩:∃v,(s 0).testBit v=true:=zA fun q=>hL.ne 0 ((yjx _).2 fun i=>by
  cases hb:(s 0).testBit i with
  |false=>rfl
  |true=>exact absurd ⟨i,hb⟩ q)
 have hen:=hL.sub 0 v hv
 have hvn:v<S.n:=by
  rcases zS v S.n with q|q
  .exact q
  .rw[Nat.testBit_lt_two_pow (Nat.lt_of_lt_of_le (hlt _) (Nat.pow_le_pow_right (by omega) q))]at hen;cases hen
 have hne:(c 0).getD v []≠T (c 0) v:=fun e=>by
  rw[(h.en _ _ (hL.val 0) hvn).2 e]at hen;cases hen
 have after:∀t,(c (t+1)).getD v []=T (c 0) v:=fun t=>by
  induction t with
  |zero=>rw[hL.nx 0];exact h.move _ _ _ (hL.val 0) hvn hv (hL.sub 0)
  | succ t ih =>
    rw[hL.nx (t+1)];cases hb:(s (t+1)).testBit v with
    |true=>rw[h.move _ _ _ (hL.val _) hvn hb (hL.sub _)];exact hT v hvn _
    |false=>rw[h.stay _ _ _ (hL.val _) hvn hb];exact ih
 have hm:=hL.pos;refine hne ?_;have e:=after (m-1);rw[show m-1+1=0+m by omega,hL.per 0]at e
 exact e
end
section
theorem ykp{α:Type}[DecidableEq α]:∀{l1 l2:List α},l1.Nodup->(∀x∈l1,x∈l2)->l1.length<=l2.length
 |[],_,_,_=>Nat.zero_le _
 | a::t,l2,hn,hs=>by
   have hn:=List.nodup_cons.1 hn;have h1:=hs a zC;have:=ykp (l1:=t) (l2:=l2.erase a) hn.2 fun y hy=>(List.mem_erase_of_ne fun e=>hn.1 (by rw[<-e];exact hy)).2 (hs y (zB _ hy))
   rw[List.length_erase_of_mem h1]at this;have:=List.length_pos_of_mem h1;simp only[List.length_cons];omega
def kcEx:Ex:=.agg 21 (.bin 35 (eQ 0) (eVar 0))
def ybsp(nm c r:ByteArray):ProgT:=⟨nm,[⟨c,1,0,0,1,0⟩],[⟨r,kcEx,[(0,.agg 27 (eQ 0))]⟩]⟩
def ycfg(c:Conf)(v:Nat):Int:=(c.getD v []).getD 0 0
def ydyh(g:Gr)(c:Conf)(v:Nat):Prop:=∃u,adj g v u/\ycfg c u=ycfg c v
structure KcC(g:Gr)(c:Conf):Prop where
 len:c.length=g.ids.length
 row:∀v,v<g.ids.length->(c.getD v []).length=1/\(0<=ycfg c v/\ycfg c v<=g.ids.length)
section
variable {nm nc nr:ByteArray}{g:Gr}{c:Conf}{u v s:Nat}
def kcR(g:Gr)(r v:Nat)(c:Conf):Prop:=1<=r->¬ydyh g c v
structure KcJ(nm nc nr:ByteArray)(g:Gr)(c:Conf)(k:Cnt):Prop where
 inv:RInvC (yko (ybsp nm nc nr) g) (fun c=>ydk (ybsp nm nc nr) g c=true) (kcR g) c k
 moves:k.moves+popP (ybq (ybsp nm nc nr) g c)<=g.ids.length
end
end
section
theorem ydqy{N:Nat}{f:Nat->Nat}(h:∀i,f i<N):∃i m,0<m/\f (i+m)=f i:=by
 refine zA fun hc=>?_;have inj:∀i j,i<j->f i≠f j:=fun i j hij e=>hc ⟨i,j-i,by omega,by rw[show i+(j-i)=j by omega,e]⟩
 have hn:((zT (N+1)).map f).Nodup:=by
  unfold List.Nodup;rw[List.pairwise_map];exact List.pairwise_lt_range.imp fun {a b} hab=>inj a b hab
 have:=ykp (l2:=zT N) hn fun x hx=>by
  obtain⟨i,_,rfl⟩:=List.mem_map.1 hx;exact List.mem_range.2 (h i)
 simp at this;omega
structure Back(N:Nat)(arcs:Nat->List (Nat×Nat))(f:Nat->Nat)(m:Nat):Prop where
 pos:0<m
 per:∀i,f (i+m)=f i
 lt:∀i,f i<N
 arc:∀i,∃a∈arcs (f i),a.2=f (i+1)
theorem yckg{m t:Nat}(hm:0<m):((t+1)%m=t%m+1)\/(t%m+1=m/\(t+1)%m=0):=by
 have h1:=zAE t hm;rcases zS (t%m+1) m with h|h
 .left
  rw[Nat.add_mod];rcases zS 1 m with h2|h2
  .rw[zH h2,zH h]
  .omega
 .right
  refine⟨by omega,?_⟩
  have e:t+1=m*(t/m)+m:=by
   have:=Nat.div_add_mod t m;omega
  rw[e,Nat.mul_add_mod,Nat.mod_self]
theorem ydcj {N:Nat}{arcs:Nat->List (Nat×Nat)}{set:Nat->Bool}{L:List Nat}(hset:∀k,k<N->set k=true->k∈L)
 (hcl:∀k,k<N->set k=false->arcs k≠[]->(∀a∈arcs k,a.2∈L)->k∈L) (hto:∀k,k<N->∀a∈arcs k,a.2<N) (hne:∀k,k<N->set k=false->arcs k≠[])
 (hcyc:∀f m,Back N arcs f m->False):∀k,k<N->k∈L:=by
 classical
 intro k0 h0;refine zA fun hk0=>?_
 have step:∀k:Nat,∃k',(k<N/\¬k∈L)->(k'<N/\¬k'∈L)/\∃a∈arcs k,a.2=k':=fun k=>by
  by_cases hk:k<N/\¬k∈L
  .have hs:set k=false:=by
    cases hs:set k with
    |false=>rfl
    |true=>exact absurd (hset k hk.1 hs) hk.2
   obtain⟨a,ha,hn⟩:∃a∈arcs k,¬a.2∈L:=zA fun hc =>
    hk.2 (hcl k hk.1 hs (hne k hk.1 hs) fun a ha=>zA fun hn=>hc ⟨a,ha,hn⟩)
   exact⟨a.2,fun _=>⟨⟨hto k hk.1 a ha,hn⟩,a,ha,rfl⟩⟩
  .exact⟨0,fun h=>absurd h hk⟩
 let nx:Nat->Nat:=fun k=>(step k).choose
 have hnx:∀k,(k<N/\¬k∈L)->(nx k<N/\¬nx k∈L)/\∃a∈arcs k,a.2=nx k:=fun k=>(step k).choose_spec
 let f:Nat->Nat:=fun i=>Nat.rec k0 (fun _ k=>nx k) i
 have f1:∀i,f (i+1)=nx (f i):=fun i=>rfl
 have hf:∀i,f i<N/\¬f i∈L:=fun i=>by
  induction i with
  |zero=>exact⟨h0,hk0⟩
  |succ i ih=>rw[f1];exact(hnx _ ih).1
 obtain⟨i,m,hm,e⟩:=ydqy fun i=>(hf i).1;refine hcyc (fun t=>f (i+t%m)) m ⟨hm,fun t=>by simp,fun t=>(hf _).1,fun t=>?_⟩
 obtain⟨a,ha,ea⟩:=(hnx _ (hf (i+t%m))).2;refine⟨a,ha,ea.trans ?_⟩;rw[<-f1];rcases yckg (t:=t) hm with h|⟨h,h'⟩
 .rw[h];rfl
 .rw[h',show i+t%m+1=i+m by omega,e];rfl
theorem ydgu{N:Nat}{L:List Nat}(h:∀k,k<N->k∈L):N<=L.length:=by
 have:=ykp (l1:=zT N) (l2:=L) List.nodup_range fun x hx=>h x (List.mem_range.1 hx)
 simpa using this
def yrj(l:List (Nat×Nat))(A:List Nat):Nat:=l.countP fun a=>A.contains a.2
theorem ycbx{l:List (Nat×Nat)}{A:List Nat}:yrj l A=l.length↔∀a∈l,a.2∈A:=by
 unfold yrj;rw[List.countP_eq_length];simp
theorem ybwv(l:List (Nat×Nat)):yrj l []=0:=by
 unfold yrj;rw[List.countP_eq_zero];simp
theorem ybqr{l:List (Nat×Nat)}{A:List Nat}{x:Nat}(hx:x∉A):yrj l (A++[x])=yrj l A+l.countP fun a=>a.2==x:=by
 unfold yrj
 induction l with
 |nil=>rfl
 | cons a l ih =>
   rw[zL,zL,zL,ih]
   by_cases h1:a.2=x
   .have:A.contains a.2=false:=by rw[h1];simpa using hx
    have h2:(A++[x]).contains a.2=true:=by simp[h1]
    rw[this,h2];simp[h1];omega
   .have h2:(A++[x]).contains a.2=A.contains a.2:=by
     simp[h1]
    rw[h2];simp[h1];omega
end
end Go.Proofs.YthclbjjgfcgbgaaGreatDoor
