/- Joined. -/
import Derived.Test.YtiejahgklcjhkaaGreatDoorPkG12
set_option linter.unusedSimpArgs false
set_option linter.unusedVariables false
set_option maxRecDepth 8000
open Nat renaming reduceEqDiff→zA,reduceAdd→zB,reduceLeDiff→zD,zero_le→zI,reduceLT→zJ,mul_le_mul→zW
open Bool renaming and_eq_true→zC
open List renaming take_succ_eq_append_getElem→zF,take_of_length_le→zH,eq_nil_of_length_eq_zero→zK,length_append→zL,findIdx?_eq_none_iff→zM,range→zN,drop_eq_getElem_cons→zO,getElem_mem→zQ,foldl_append→zS,elem_eq_mem→zT,length_map→zU,getD→zX,length→zZ
open Int renaming natCast_zero→zG,natAbs_mul→zV
open Classical renaming byContradiction→zY
open Go
namespace Go.Proofs.YtiejahgklcjhkaaGreatDoor
section
namespace Sh
open Go Ev
def ywg:List Nat:=[0,1,1,2,1,2,2,3,1,2,2,3,2,3,3,4,1,2,2,3,2,3,3,4,2,3,3,4,3,4,4,5,1,2,2,3,2,3,3,4,2,3,3,4,3,4,4,5,2,3,3,4,3,4,4,5,3,4,4,5,4,5,5,6,1,2,2,3,2,3,3,4,2,3,3,4,3,4,4,5,2,3,3,4,3,4,4,5,3,4,4,5,4,5,5,6,2,3,3,4,3,4,4,5,3,4,4,5,4,5,5,6,3,4,4,5,4,5,5,6,4,5,5,6,5,6,6,7,1,2,2,3,2,3,3,4,2,3,3,4,3,4,4,5,2,3,3,4,3,4,4,5,3,4,4,5,4,5,5,6,2,3,3,4,3,4,4,5,3,4,4,5,4,5,5,6,3,4,4,5,4,5,5,6,4,5,5,6,5,6,6,7,2,3,3,4,3,4,4,5,3,4,4,5,4,5,5,6,3,4,4,5,4,5,5,6,4,5,5,6,5,6,6,7,3,4,4,5,4,5,5,6,4,5,5,6,5,6,6,7,4,5,5,6,5,6,6,7,5,6,6,7,6,7,7,8]
def yckp:LO:=[o3 (.box 87 (.tmp 0)) 3 0,o3 (.box 27 (.tmp 1)) 4 0,o3 (.mv (ci' 0)) 6 0,o3 (.mv (ci' 0)) 7 4]
def yciv:LO:=[o3 (.build [.i .i64 0,.a (.nilFunc)] [(0,1,(ci' 1)),(1,1,(.func 198))]) 11 0,o3 (.build [.i .i64 0,.a (.nilFunc)] [(0,1,(ci' 2)),(1,1,(.func 199))]) 12 0,o3 (.build [.i .i64 0,.a (.nilFunc)] [(0,1,(ci' 3)),(1,1,(.func 200))]) 13 0,o3 (.bslice 209 2 3 [.i .i64 0,.a (.nilFunc),.i .i64 0,.a (.nilFunc),.i .i64 0,.a (.nilFunc)] [(0,2,(.tmp 11)),(2,2,(.tmp 12)),(4,2,(.tmp 13))]) 14 7,mv' 14 8 15]
def ycjz:LO:=[mv' 8 15 0,ln' 15 16 1,o3 (.mv (ci' 0)) 17 0]
def ybjf:LO:=[bn' .lss 17 16 18 0]
def ybjc:LO:=[ix' 2 15 17 19 0,ld' true 2 19 20 1,o3 (.alloc 209 1 [.i .i64 0,.a (.nilFunc)]) 10 0,o0 (.store 2 (.tmp 10) (.tmp 20)) 7]
def ybiy:LO:=[fa' 0 1 10 21 0,ld' false 1 21 22 1,fa' 1 1 3 23 0,ld' false 1 23 24 4,bn' .eql 22 24 25 15]
def ybhv:LO:=[fa' 1 1 10 26 0,ld' false 1 26 27 1,ld' true 6 3 28 0,ld' true 2 4 29 0,mv' 2 30 0,o3 (.call (.tmp 27) [(.tmp 28),(.tmp 29),(.tmp 30)]) 31 31,xt' 31 0 32 63,xt' 31 1 33 63,mv' 32 6 255,mv' 33 7 511]
def ybin:LO:=[o3 (.bin .add (.tmp 17) (ci' 1)) 34 0,mv' 34 17 1]
def ybil:LO:=[o3 (.mv (ci' 0)) 6 0,o3 (.mv (.const (.int .i64 (-1)))) 7 1]
def c171:SC:=(.seq (.reg false yckp) (.seq (.reg false yciv) (.seq (.seq (.reg false ycjz) (.block 0 (.loop (.seq (.reg false ybjf) (.seq (.cond (.tmp 18) .skip (.exit 0)) (.seq (.block 1 (.seq (.reg false ybjc) (.seq (.reg false ybiy) (.cond (.tmp 25) (.seq (.reg false ybhv) .ret) .skip)))) (.reg false ybin))))))) (.seq (.reg false ybil) .ret))))
theorem yddp:Fn 171 c171 [.t 6,.t 7]:=fn_0 Tryz.func171 (by kernel_rfl) (by kernel_rfl)
def ycvr:LO:=[o3 (.box 87 (.tmp 0)) 3 0,o3 (.box 27 (.tmp 1)) 4 0,o3 (.mv (ci' 0)) 6 0,o3 (.mv (ci' 0)) 7 4]
def ycsd:LO:=[fa' 2 1 3 8 0,ld' false 1 8 9 1,fa' 3 1 3 10 0,ld' false 1 10 11 4,fa' 4 1 3 12 0,ld' false 1 12 13 16,fa' 0 1 4 14 0,ld' false 1 14 15 64,ln' 15 16 192,bn' .mul 13 16 17 496,bn' .add 11 17 18 1020,fa' 5 1 3 19 0,ld' false 1 19 20 2048,fa' 0 1 4 21 0,ld' false 1 21 22 8192,cl' 160 [22] 23 24576,bn' .mul 20 23 24 63488,bn' .add 18 24 25 131068,mv' 9 6 57347,mv' 25 7 524287]
def c198:SC:=(.seq (.reg false ycvr) (.seq (.reg true ycsd) .ret))
theorem ydbf:Fn 198 c198 [.t 6,.t 7]:=fn_0 Tryz.func198 (by kernel_rfl) (by kernel_rfl)
def ycro:LO:=[o3 (.box 87 (.tmp 0)) 3 0,o3 (.box 27 (.tmp 1)) 4 0,o3 (.mv (ci' 0)) 6 0,o3 (.mv (ci' 0)) 7 4]
def ychr:LO:=[o3 (.mv (ci' 0)) 6 0,o3 (.mv (ci' 1)) 7 1]
def c199:SC:=(.seq (.reg false ycro) (.seq (.reg false ychr) .ret))
theorem ydej:Fn 199 c199 [.t 6,.t 7]:=fn_0 Tryz.func199 (by kernel_rfl) (by kernel_rfl)
def ychs:LO:=[o3 (.box 87 (.tmp 0)) 3 0,o3 (.box 27 (.tmp 1)) 4 0,o3 (.mv (ci' 0)) 6 0,o3 (.mv (ci' 0)) 7 4]
def ycwa:LO:=[fa' 1 1 4 8 0,ld' false 1 8 9 1,mv' 2 10 0,ix' 1 9 10 11 7,ld' false 1 11 12 15,ln' 12 13 31,o3 (.bin .sub (.tmp 13) (ci' 1)) 14 63,o3 (.mv (.const (.int .i64 (-1)))) 6 0,mv' 14 7 255]
def c200:SC:=(.seq (.reg false ychs) (.seq (.reg true ycwa) .ret))
theorem ydfp:Fn 200 c200 [.t 6,.t 7]:=fn_0 Tryz.func200 (by kernel_rfl) (by kernel_rfl)
def ycvg:LO:=[o3 (.box 58 (.tmp 0)) 2 0,o3 (.box 27 (.tmp 1)) 3 0,o3 (.mv (.const (.slice none 0 0))) 4 0]
def ycxn:LO:=[fa' 0 1 3 9 0,ld' false 1 9 10 1,ln' 10 11 3,o3 (.mk 73 1 24 [.a (.slice none 0 0)] (.tmp 11) (.tmp 11)) 12 7,mv' 12 5 15]
def ycmw:LO:=[mv' 5 13 0,ln' 13 14 1,o3 (.mv (ci' 0)) 15 0]
def yckr:LO:=[bn' .lss 15 14 16 0]
def yctp:LO:=[mv' 15 17 0,mv' 17 6 1]
def ycpi:LO:=[mv' 5 18 0,mv' 6 19 0,fa' 1 1 2 20 0,ld' false 1 20 21 4,ln' 21 22 12,o3 (.mk 75 2 16 [.i .i64 0,.i .i64 0] (.tmp 22) (.tmp 22)) 23 28,ix' 1 18 19 24 63,o0 (.store 1 (.tmp 24) (.tmp 23)) 127]
def ycvi:LO:=[fa' 1 1 2 25 0,ld' false 1 25 26 1,ln' 26 27 3,o3 (.mv (ci' 0)) 28 0]
def yctz:LO:=[bn' .lss 28 27 29 0]
def ycul:LO:=[mv' 28 30 0,ix' 6 26 28 31 0,ld' true 6 31 32 2,o3 (.alloc 87 1 [.a (.string (ByteArray.mk #[])),.i .i64 0,.i .i64 0,.i .i64 0,.i .i64 0,.i .i64 0]) 8 0,mv' 30 7 15,o0 (.store 6 (.tmp 8) (.tmp 32)) 31]
def ycut:LO:=[mv' 5 34 0,mv' 6 35 0,ix' 1 34 35 36 3,ld' false 1 36 37 7,mv' 7 38 0,mv' 5 39 0,mv' 6 40 0,ix' 1 39 40 41 96,ld' false 1 41 42 224,mv' 7 43 0,ld' true 6 8 44 0,ld' true 2 3 45 0,mv' 6 46 0,cl' 171 [44,45,46] 47 7168,mv' 47 33 15360,xt' 33 0 48 31744,xt' 33 1 49 31744,ix' 2 37 38 50 31,o3 (.idxA 2 1 (.tmp 50) (ci' 0)) 51 196095,o0 (.store 1 (.tmp 51) (.tmp 48)) 458239,ix' 2 42 43 52 992,o3 (.idxA 2 1 (.tmp 52) (ci' 1)) 53 2097151,o0 (.store 1 (.tmp 53) (.tmp 49)) 4194303]
def ybur:LO:=[o3 (.bin .add (.tmp 28) (ci' 1)) 54 0,mv' 54 28 1]
def ybqs:LO:=[o3 (.bin .add (.tmp 15) (ci' 1)) 55 0,mv' 55 15 1]
def ybyq:LO:=[mv' 5 56 0,mv' 56 4 1]
def c144:SC:=(.seq (.reg false ycvg) (.seq (.reg false ycxn) (.seq (.seq (.reg false ycmw) (.block 0 (.loop (.seq (.reg false yckr) (.seq (.cond (.tmp 16) .skip (.exit 0)) (.seq (.block 1 (.seq (.reg false yctp) (.seq (.reg false ycpi) (.seq (.reg false ycvi) (.block 2 (.loop (.seq (.reg false yctz) (.seq (.cond (.tmp 29) .skip (.exit 2)) (.seq (.block 3 (.seq (.reg false ycul) (.reg true ycut))) (.reg false ybur)))))))))) (.reg false ybqs))))))) (.seq (.reg false ybyq) .ret))))
theorem ydcj:Fn 144 c144 [.t 4]:=fn_0 Tryz.func144 (by kernel_rfl) (by kernel_rfl)
def ycwg:LO:=[o3 (.box 75 (.tmp 1)) 4 0,o3 (.mv (ci' 0)) 6 0]
def ycxi:LO:=[mv' 2 8 0,o3 (.idxA 2 1 (.tmp 4) (ci' 0)) 9 0,ld' false 1 9 10 2,bn' .geq 8 10 11 7,mv' 11 12 15,⟨.mv (.tmp 2),some 13,some (12,true),31⟩,⟨.idxA 2 1 (.tmp 4) (ci' 1),some 14,some (12,true),31⟩,⟨.load false 1 (.tmp 14),some 15,some (12,true),95⟩,⟨.bin .leq (.tmp 13) (.tmp 15),some 16,some (12,true),255⟩,o3 (.pick (.tmp 12) (.tmp 16) (.const (.bool false))) 17 511,mv' 17 7 1023]
def ycsv:LO:=[mv' 2 18 0,mv' 18 6 1]
def yckj:LO:=[mv' 0 20 0,o3 (.bin .eql (.tmp 20) (ci' 3)) 21 1,mv' 21 19 3]
def ycnh:LO:=[o3 (.mv (.const (.int .i64 (-1)))) 6 0]
def ycql:LO:=[mv' 2 23 0,o3 (.idxA 2 1 (.tmp 4) (ci' 0)) 24 0,ld' false 1 24 25 2,bn' .lss 23 25 26 7,mv' 26 22 15]
def ycos:LO:=[o3 (.idxA 2 1 (.tmp 4) (ci' 0)) 27 0,ld' false 1 27 28 1,mv' 28 6 3]
def ychm:LO:=[o3 (.idxA 2 1 (.tmp 4) (ci' 1)) 29 0,ld' false 1 29 30 1,mv' 30 6 3]
def c194:SC:=(.seq (.reg false ycwg) (.seq (.block 0 (.seq (.reg false ycxi) (.cond (.tmp 7) (.seq (.reg false ycsv) .ret) (.seq (.reg false yckj) (.cond (.tmp 19) (.seq (.reg false ycnh) .ret) (.seq (.reg false ycql) (.cond (.tmp 22) (.seq (.reg false ycos) .ret) .skip))))))) (.seq (.reg false ychm) .ret)))
theorem yded:Fn 194 c194 [.t 6]:=fn_0 Tryz.func194 (by kernel_rfl) (by kernel_rfl)
def ycig:LO:=[o3 (.box 58 (.tmp 0)) 2 0,o3 (.box 27 (.tmp 1)) 3 0,o3 (.mv (ci' 0)) 4 0]
def yctu:LO:=[ld' true 3 2 9 0,cl' 191 [9] 10 1,o3 (.un .not (.tmp 10)) 11 3]
def ycme:LO:=[o3 (.mv (ci' 8)) 4 0]
def ycqx:LO:=[ld' true 2 3 12 0,cl' 96 [12] 13 1,o3 (.un .not (.tmp 13)) 14 3]
def ycqt:LO:=[o3 (.mv (ci' 1)) 4 0]
def ycop:LO:=[fa' 1 1 2 15 0,ld' false 1 15 16 1,ln' 16 17 3,o3 (.mv (ci' 0)) 18 0]
def ycqy:LO:=[bn' .lss 18 17 19 0]
def ycgp:LO:=[ix' 6 16 18 20 0,ld' true 6 20 21 1,o3 (.alloc 87 1 [.a (.string (ByteArray.mk #[])),.i .i64 0,.i .i64 0,.i .i64 0,.i .i64 0,.i .i64 0]) 6 0,o0 (.store 6 (.tmp 6) (.tmp 21)) 7]
def yclz:LO:=[fa' 1 1 6 22 0,ld' false 1 22 23 1,o3 (.bin .neq (.tmp 23) (ci' 1)) 24 3]
def ycun:LO:=[ld' true 6 6 26 0,ld' true 2 3 27 0,o3 (.call (.func 171) [(.tmp 26),(.tmp 27),(ci' 0)]) 28 3,mv' 28 25 7,xt' 25 0 29 15,xt' 25 1 30 15,mv' 29 7 31,mv' 30 8 127]
def ybpq:LO:=[mv' 8 31 0,mv' 7 32 0,bn' .lss 31 32 33 3,mv' 33 34 7,⟨.mv (.tmp 8),some 35,some (34,false),15⟩,⟨.mv (.tmp 7),some 36,some (34,false),15⟩,⟨.bin .sub (.tmp 35) (.tmp 36),some 37,some (34,false),63⟩,⟨.bin .add (.tmp 37) (ci' 1),some 38,some (34,false),127⟩,⟨.bin .gtr (.tmp 38) (ci' 4096),some 39,some (34,false),255⟩,o3 (.pick (.tmp 34) (.const (.bool true)) (.tmp 39)) 40 511]
def ybtv:LO:=[o3 (.mv (ci' 9)) 4 0]
def ybyr:LO:=[o3 (.bin .add (.tmp 18) (ci' 1)) 41 0,mv' 41 18 1]
def ybxq:LO:=[o3 (.mv (ci' 0)) 4 0]
def c155:SC:=(.seq (.reg false ycig) (.seq (.seq (.reg false yctu) (.cond (.tmp 11) (.seq (.reg false ycme) .ret) .skip)) (.seq (.seq (.reg false ycqx) (.cond (.tmp 14) (.seq (.reg false ycqt) .ret) .skip)) (.seq (.seq (.reg false ycop) (.block 0 (.loop (.seq (.reg false ycqy) (.seq (.cond (.tmp 19) .skip (.exit 0)) (.seq (.block 1 (.seq (.reg false ycgp) (.seq (.seq (.reg false yclz) (.cond (.tmp 24) (.exit 1) .skip)) (.seq (.reg false ycun) (.seq (.reg false ybpq) (.cond (.tmp 40) (.seq (.reg false ybtv) .ret) .skip)))))) (.reg false ybyr))))))) (.seq (.reg false ybxq) .ret)))))
theorem ydfi:Fn 155 c155 [.t 4]:=fn_0 Tryz.func155 (by kernel_rfl) (by kernel_rfl)
def ydnz:LO:=[o3 (.box 58 (.tmp 0)) 3 0,o3 (.box 27 (.tmp 1)) 4 0,o3 (.mv (.const (.bool false))) 6 0]
def ydkn:LO:=[ld' true 3 3 7 0,ld' true 2 4 8 0,mv' 2 9 0,cl' 112 [7,8,9] 10 7,o3 (.bin .eql (.tmp 10) (ci' 0)) 11 15,mv' 11 6 31]
def c92:SC:=(.seq (.reg false ydnz) (.seq (.reg false ydkn) .ret))
theorem ydmz:Fn 92 c92 [.t 6]:=fn_0 Tryz.func92 (by kernel_rfl) (by kernel_rfl)
def ycuu:LO:=[o3 (.box 58 (.tmp 0)) 3 0,o3 (.box 27 (.tmp 1)) 4 0,o3 (.mv (ci' 0)) 6 0]
def yclf:LO:=[ld' true 3 3 8 0,ld' true 2 4 9 0,cl' 155 [8,9] 10 3,mv' 10 7 7]
def ycnx:LO:=[mv' 7 11 0,o3 (.bin .neq (.tmp 11) (ci' 0)) 12 1]
def ycrs:LO:=[mv' 7 13 0,mv' 13 6 1]
def ycno:LO:=[ld' true 3 3 14 0,ld' true 2 4 15 0,cl' 144 [14,15] 16 3,mv' 2 17 0,cl' 156 [16,17] 18 15,o3 (.un .not (.tmp 18)) 19 31]
def yckz:LO:=[o3 (.mv (ci' 10)) 6 0]
def ychl:LO:=[o3 (.mv (ci' 0)) 6 0]
def c112:SC:=(.seq (.reg false ycuu) (.seq (.seq (.reg false yclf) (.seq (.reg false ycnx) (.cond (.tmp 12) (.seq (.reg false ycrs) .ret) .skip))) (.seq (.seq (.reg false ycno) (.cond (.tmp 19) (.seq (.reg false yckz) .ret) .skip)) (.seq (.reg false ychl) .ret))))
theorem yddd:Fn 112 c112 [.t 6]:=fn_0 Tryz.func112 (by kernel_rfl) (by kernel_rfl)
def yclm:LO:=[o3 (.mv (.const (.bool false))) 4 0]
def yctm:LO:=[mv' 1 7 0,ln' 7 8 1,mv' 0 9 0,ln' 9 10 4,bn' .neq 8 10 11 15]
def ycly:LO:=[o3 (.mv (.const (.bool false))) 4 0]
def ycma:LO:=[mv' 0 12 0,ln' 12 13 1,o3 (.mv (ci' 0)) 14 0]
def ycwf:LO:=[bn' .lss 14 13 15 0]
def ycom:LO:=[mv' 14 16 0,ix' 1 12 14 17 0,ld' false 1 17 18 2,mv' 16 5 7,mv' 18 6 15]
def ycqc:LO:=[mv' 6 19 0,mv' 1 20 0,mv' 5 21 0,ix' 1 20 21 22 6,ld' false 1 22 23 14,cl' 192 [19,23] 24 31,o3 (.un .not (.tmp 24)) 25 63]
def yctn:LO:=[o3 (.mv (.const (.bool false))) 4 0]
def yclo:LO:=[o3 (.bin .add (.tmp 14) (ci' 1)) 26 0,mv' 26 14 1]
def ycjl:LO:=[o3 (.mv (.const (.bool true))) 4 0]
def c156:SC:=(.seq (.reg false yclm) (.seq (.seq (.reg false yctm) (.cond (.tmp 11) (.seq (.reg false ycly) .ret) .skip)) (.seq (.seq (.reg false ycma) (.block 0 (.loop (.seq (.reg false ycwf) (.seq (.cond (.tmp 15) .skip (.exit 0)) (.seq (.block 1 (.seq (.reg false ycom) (.seq (.reg false ycqc) (.cond (.tmp 25) (.seq (.reg false yctn) .ret) .skip)))) (.reg false yclo))))))) (.seq (.reg false ycjl) .ret))))
theorem ycyv:Fn 156 c156 [.t 4]:=fn_0 Tryz.func156 (by kernel_rfl) (by kernel_rfl)
def yctl:LO:=[o3 (.mv (.const (.bool false))) 4 0]
def ycps:LO:=[mv' 1 7 0,ln' 7 8 1,mv' 0 9 0,ln' 9 10 4,bn' .neq 8 10 11 15]
def ycxe:LO:=[o3 (.mv (.const (.bool false))) 4 0]
def yckf:LO:=[mv' 1 12 0,ln' 12 13 1,o3 (.mv (ci' 0)) 14 0]
def ycho:LO:=[bn' .lss 14 13 15 0]
def ycni:LO:=[mv' 14 16 0,ix' 1 12 14 17 0,ld' false 1 17 18 2,mv' 16 5 7,mv' 18 6 15]
def ycwm:LO:=[mv' 6 19 0,mv' 0 20 0,mv' 5 21 0,ix' 2 20 21 22 6,o3 (.idxA 2 1 (.tmp 22) (ci' 0)) 23 14,ld' false 1 23 24 30,bn' .lss 19 24 25 63,mv' 25 26 127,⟨.mv (.tmp 6),some 27,some (26,false),255⟩,⟨.mv (.tmp 0),some 28,some (26,false),255⟩,⟨.mv (.tmp 5),some 29,some (26,false),255⟩,⟨.idx 2 (.tmp 28) (.tmp 29),some 30,some (26,false),1791⟩,⟨.idxA 2 1 (.tmp 30) (ci' 1),some 31,some (26,false),3839⟩,⟨.load false 1 (.tmp 31),some 32,some (26,false),7935⟩,⟨.bin .gtr (.tmp 27) (.tmp 32),some 33,some (26,false),16383⟩,o3 (.pick (.tmp 26) (.const (.bool true)) (.tmp 33)) 34 32767]
def yctt:LO:=[o3 (.mv (.const (.bool false))) 4 0]
def ycrt:LO:=[o3 (.bin .add (.tmp 14) (ci' 1)) 35 0,mv' 35 14 1]
def ycta:LO:=[o3 (.mv (.const (.bool true))) 4 0]
def c192:SC:=(.seq (.reg false yctl) (.seq (.seq (.reg false ycps) (.cond (.tmp 11) (.seq (.reg false ycxe) .ret) .skip)) (.seq (.seq (.reg false yckf) (.block 0 (.loop (.seq (.reg false ycho) (.seq (.cond (.tmp 15) .skip (.exit 0)) (.seq (.block 1 (.seq (.reg false ycni) (.seq (.reg false ycwm) (.cond (.tmp 34) (.seq (.reg false yctt) .ret) .skip)))) (.reg false ycrt))))))) (.seq (.reg false ycta) .ret))))
theorem ydci:Fn 192 c192 [.t 4]:=fn_0 Tryz.func192 (by kernel_rfl) (by kernel_rfl)
def ybzl:LO:=[o3 (.mv (.const (.slice none 0 0))) 2 0]
def ybvd:LO:=[mv' 0 6 0,ln' 6 7 1,o3 (.mk 22 1 24 [.a (.slice none 0 0)] (.tmp 7) (.tmp 7)) 8 3,mv' 8 3 7]
def ybwe:LO:=[mv' 0 9 0,ln' 9 10 1,o3 (.mv (ci' 0)) 11 0]
def ybbu:LO:=[bn' .lss 11 10 12 0]
def ybcm:LO:=[mv' 11 13 0,ix' 1 9 11 14 0,ld' false 1 14 15 2,mv' 13 4 7,mv' 15 5 15]
def yzy:LO:=[mv' 3 16 0,mv' 4 17 0,mv' 5 18 0,o3 (.app 3 1 8 (.const (.slice none 0 0)) (.tmp 18)) 19 4,ix' 1 16 17 20 15,o0 (.store 1 (.tmp 20) (.tmp 19)) 31]
def ybdp:LO:=[o3 (.bin .add (.tmp 11) (ci' 1)) 21 0,mv' 21 11 1]
def ybds:LO:=[mv' 3 22 0,mv' 22 2 1]
def c132:SC:=(.seq (.reg false ybzl) (.seq (.reg false ybvd) (.seq (.seq (.reg false ybwe) (.block 0 (.loop (.seq (.reg false ybbu) (.seq (.cond (.tmp 12) .skip (.exit 0)) (.seq (.block 1 (.seq (.reg false ybcm) (.reg false yzy))) (.reg false ybdp))))))) (.seq (.reg false ybds) .ret))))
theorem ydbp:Fn 132 c132 [.t 2]:=fn_0 Tryz.func132 (by kernel_rfl) (by kernel_rfl)
theorem ycem:FnM 132 c132 [.t 2]:=fn_m Tryz.func132 (by kernel_rfl) (by kernel_rfl)
def ydic:LO:=[o3 (.box 58 (.tmp 0)) 2 0,o3 (.box 27 (.tmp 1)) 3 0,o3 (.mv (.const (.pointer none))) 4 0]
def ydjo:LO:=[ld' true 3 2 5 0,ld' true 3 2 6 0,ld' true 2 3 7 0,cl' 143 [6,7] 8 6,ld' true 3 2 9 0,ld' true 2 3 10 0,cl' 144 [9,10] 11 62,o3 (.build [.a (.string (ByteArray.mk #[])),.a (.slice none 0 0),.a (.slice none 0 0),.a (.pointer none),.a (.slice none 0 0)] [(0,3,(.tmp 5)),(3,1,(.tmp 8)),(4,1,(.tmp 11))]) 12 127,o3 (.box 140 (.tmp 12)) 13 255,mv' 13 4 511]
def c93:SC:=(.seq (.reg false ydic) (.seq (.reg true ydjo) .ret))
theorem ydfy:Fn 93 c93 [.t 4]:=fn_0 Tryz.func93 (by kernel_rfl) (by kernel_rfl)
def ycur:LO:=[o3 (.mv (ci' 0)) 6 0]
def ycwb:LO:=[mv' 0 8 0,o3 (.nilck (.tmp 8)) 9 1,fa' 0 3 9 10 3,fa' 2 1 10 11 7,ld' false 1 11 12 15,ln' 12 13 31,o3 (.mv (ci' 0)) 14 0]
def ycov:LO:=[bn' .lss 14 13 15 0]
def ycpc:LO:=[mv' 14 16 0,mv' 16 7 1]
def ycsy:LO:=[mv' 0 17 0,o3 (.nilck (.tmp 17)) 18 1,fa' 3 1 18 19 3,ld' false 1 19 20 7,mv' 1 21 0,mv' 2 22 0,mv' 7 23 0,cl' 172 [20,21,22,23] 24 127]
def yckg:LO:=[mv' 7 25 0,mv' 25 6 1]
def ycxg:LO:=[o3 (.bin .add (.tmp 14) (ci' 1)) 26 0,mv' 26 14 1]
def yckc:LO:=[o3 (.mv (.const (.int .i64 (-1)))) 6 0]
def c147:SC:=(.seq (.reg false ycur) (.seq (.seq (.reg false ycwb) (.block 0 (.loop (.seq (.reg false ycov) (.seq (.cond (.tmp 15) .skip (.exit 0)) (.seq (.block 1 (.seq (.reg false ycpc) (.seq (.reg false ycsy) (.cond (.tmp 24) (.seq (.reg false yckg) .ret) .skip)))) (.reg false ycxg))))))) (.seq (.reg false yckc) .ret)))
theorem ydal:Fn 147 c147 [.t 6]:=fn_0 Tryz.func147 (by kernel_rfl) (by kernel_rfl)
def ydlq:LO:=[o3 (.box 99 (.tmp 0)) 2 0,o3 (.box 34 (.tmp 1)) 3 0,o3 (.mv (.const (.int .u32 0))) 4 0]
def ydgf:LO:=[ld' false 1 2 5 0,o3 (.nilck (.tmp 5)) 6 1,fa' 4 1 6 7 3,ld' false 1 7 8 7,ln' 8 9 15,o3 (.mkfn 146 [] [(.tmp 2),(.tmp 3)]) 10 0,cl' 145 [9,10] 11 63,mv' 11 4 127]
def c94:SC:=(.seq (.reg false ydlq) (.seq (.reg false ydgf) .ret))
theorem ydjy:Fn 94 c94 [.t 4]:=fn_0 Tryz.func94 (by kernel_rfl) (by kernel_rfl)
def ycug:LO:=[o3 (.mv (.const (.bool false))) 4 0]
def ycnq:LO:=[ld' false 1 1 5 0,ld' false 1 2 6 0,mv' 0 7 0,cl' 147 [5,6,7] 8 7,o3 (.bin .geq (.tmp 8) (ci' 0)) 9 15,mv' 9 4 31]
def c146:SC:=(.seq (.reg false ycug) (.seq (.reg false ycnq) .ret))
theorem yddx:Fn 146 c146 [.t 4]:=fn_0 Tryz.func146 (by kernel_rfl) (by kernel_rfl)
def ycuq:LO:=[o3 (.mv (.const (.slice none 0 0))) 8 0]
def yclu:LO:=[mv' 1 13 0,mv' 2 14 0,ix' 1 13 14 15 3,ld' false 1 15 16 7,o3 (.app 3 1 8 (.const (.slice none 0 0)) (.tmp 16)) 17 15,mv' 17 9 31]
def ycpj:LO:=[mv' 0 18 0,o3 (.nilck (.tmp 18)) 19 1,fa' 0 3 19 20 3,fa' 2 1 20 21 7,ld' false 1 21 22 15,mv' 3 23 0,ix' 3 22 23 24 63,fa' 2 1 24 25 127,ld' false 1 25 26 255,ln' 26 27 511,o3 (.mv (ci' 0)) 28 0]
def ycwh:LO:=[bn' .lss 28 27 29 0]
def ycmu:LO:=[ix' 2 26 28 30 0,ld' true 2 30 31 1,o3 (.alloc 200 1 [.i .i64 0,.a (.slice none 0 0)]) 11 0,o0 (.store 2 (.tmp 11) (.tmp 31)) 7]
def ycip:LO:=[mv' 0 32 0,o3 (.nilck (.tmp 32)) 33 1,fa' 3 1 33 34 3,ld' false 1 34 35 7,mv' 1 36 0,mv' 2 37 0,fa' 1 1 11 38 0,ld' false 1 38 39 64,cl' 193 [35,36,37,39] 40 255,mv' 40 12 511]
def ycnz:LO:=[mv' 9 41 0,fa' 0 1 11 42 0,ld' false 1 42 43 2,mv' 0 44 0,o3 (.nilck (.tmp 44)) 45 8,fa' 0 3 45 46 24,fa' 1 1 46 47 56,ld' false 1 47 48 120,fa' 0 1 11 49 0,ld' false 1 49 50 256,ix' 6 48 50 51 1016,fa' 1 1 51 52 2040,ld' false 1 52 53 4088,mv' 0 54 0,o3 (.nilck (.tmp 54)) 55 8192,fa' 4 1 55 56 24576,ld' false 1 56 57 57344,mv' 2 58 0,ix' 1 57 58 59 253952,ld' false 1 59 60 516096,fa' 0 1 11 61 0,ld' false 1 61 62 1048576,ix' 2 60 62 63 4186112,ld' true 2 63 64 8380416,mv' 12 65 0,cl' 194 [53,64,65] 66 33554424,ix' 1 41 43 67 67108863,o0 (.store 1 (.tmp 67) (.tmp 66)) 134217727]
def ycjm:LO:=[o3 (.bin .add (.tmp 28) (ci' 1)) 68 0,mv' 68 28 1]
def ycok:LO:=[mv' 9 69 0,mv' 69 8 1]
def c157:SC:=(.seq (.reg false ycuq) (.seq (.reg false yclu) (.seq (.seq (.reg false ycpj) (.block 0 (.loop (.seq (.reg false ycwh) (.seq (.cond (.tmp 29) .skip (.exit 0)) (.seq (.block 1 (.seq (.reg false ycmu) (.seq (.reg true ycip) (.reg true ycnz)))) (.reg false ycjm))))))) (.seq (.reg false ycok) .ret))))
theorem ydfc:Fn 157 c157 [.t 8]:=fn_0 Tryz.func157 (by kernel_rfl) (by kernel_rfl)
def ycko:LO:=[o3 (.mv (.const (.slice none 0 0))) 6 0]
def ycil:LO:=[mv' 1 9 0,cl' 132 [9] 10 1,mv' 10 7 3]
def ycio:LO:=[mv' 1 11 0,ln' 11 12 1,o3 (.mv (ci' 0)) 13 0]
def ychc:LO:=[bn' .lss 13 12 14 0]
def ycnj:LO:=[mv' 13 15 0,mv' 15 8 1]
def ycxm:LO:=[mv' 2 16 0,mv' 8 17 0,bn' .shr 16 17 18 3,o3 (.bin .and (.tmp 18) (.const (.int .u32 1))) 19 7,o3 (.bin .eql (.tmp 19) (.const (.int .u32 1))) 20 15]
def ycpf:LO:=[mv' 7 21 0,mv' 8 22 0,mv' 0 23 0,mv' 1 24 0,mv' 8 25 0,mv' 0 26 0,mv' 1 27 0,mv' 8 28 0,cl' 147 [26,27,28] 29 224,cl' 157 [23,24,25,29] 30 508,ix' 1 21 22 31 1023,o0 (.store 1 (.tmp 31) (.tmp 30)) 2047]
def ycjs:LO:=[o3 (.bin .add (.tmp 13) (ci' 1)) 32 0,mv' 32 13 1]
def yclt:LO:=[mv' 7 33 0,mv' 33 6 1]
def c113:SC:=(.seq (.reg false ycko) (.seq (.reg false ycil) (.seq (.seq (.reg false ycio) (.block 0 (.loop (.seq (.reg false ychc) (.seq (.cond (.tmp 14) .skip (.exit 0)) (.seq (.block 1 (.seq (.reg false ycnj) (.seq (.reg false ycxm) (.cond (.tmp 20) (.reg false ycpf) .skip)))) (.reg false ycjs))))))) (.seq (.reg false yclt) .ret))))
theorem ycan:FnU 113 c113 [.t 6]:=fn_u Tryz.func113 (by kernel_rfl) (by kernel_rfl)
def ycxj:LO:=[o3 (.mv (.const (.int .u32 0))) 4 0]
def yckv:LO:=[o3 (.mv (.const (.int .u32 0))) 5 0]
def ycoa:LO:=[mv' 0 7 0,o3 (.mv (ci' 0)) 8 0]
def ycwk:LO:=[bn' .lss 8 7 9 0]
def yctc:LO:=[mv' 8 10 0,mv' 10 6 1]
def ycwd:LO:=[mv' 1 11 0,mv' 6 12 0,o3 (.call (.tmp 11) [(.tmp 12)]) 13 3]
def yctq:LO:=[mv' 5 14 0,mv' 6 15 0,o3 (.bin .shl (.const (.int .u32 1)) (.tmp 15)) 16 2,bn' .or 14 16 17 7,mv' 17 5 15]
def yckx:LO:=[o3 (.bin .add (.tmp 8) (ci' 1)) 18 0,mv' 18 8 1]
def ycmt:LO:=[mv' 5 19 0,mv' 19 4 1]
def c145:SC:=(.seq (.reg false ycxj) (.seq (.reg false yckv) (.seq (.seq (.reg false ycoa) (.block 0 (.loop (.seq (.reg false ycwk) (.seq (.cond (.tmp 9) .skip (.exit 0)) (.seq (.block 1 (.seq (.reg false yctc) (.seq (.reg false ycwd) (.cond (.tmp 13) (.reg false yctq) .skip)))) (.reg false yckx))))))) (.seq (.reg false ycmt) .ret))))
theorem ydby:Fn 145 c145 [.t 4]:=fn_0 Tryz.func145 (by kernel_rfl) (by kernel_rfl)
def ydih:LO:=[o3 (.box 58 (.tmp 0)) 3 0,o3 (.box 27 (.tmp 1)) 4 0,o3 (.mv (.const (.int .u32 0))) 6 0]
def ydmh:LO:=[ld' true 3 3 7 0,ld' true 2 4 8 0,mv' 2 9 0,cl' 92 [7,8,9] 10 7,o3 (.un .not (.tmp 10)) 11 15]
def ydjx:LO:=[o3 (.mv (.const (.int .u32 0))) 6 0]
def ydft:LO:=[ld' true 3 3 12 0,ld' true 2 4 13 0,cl' 93 [12,13] 14 3,mv' 2 15 0,cl' 94 [14,15] 16 15,mv' 16 6 31]
def c36:SC:=(.seq (.reg false ydih) (.seq (.seq (.reg false ydmh) (.cond (.tmp 11) (.seq (.reg false ydjx) .ret) .skip)) (.seq (.reg false ydft) .ret)))
theorem ydht:Fn 36 c36 [.t 6]:=fn_0 Tryz.func36 (by kernel_rfl) (by kernel_rfl)
def ycnf:LO:=[o3 (.mv (.const (.bool false))) 2 0]
def ychv:LO:=[mv' 0 5 0,ln' 5 6 1,o3 (.mv (ci' 0)) 7 0]
def ychn:LO:=[bn' .lss 7 6 8 0]
def yciw:LO:=[ix' 1 5 7 9 0,ld' false 1 9 10 1,mv' 10 4 3]
def ycrm:LO:=[mv' 4 11 0,o3 (.bin .andNot (.tmp 11) (.const (.int .u32 16777215))) 12 1,o3 (.bin .neq (.tmp 12) (.const (.int .u32 0))) 13 3]
def ycjg:LO:=[o3 (.mv (.const (.bool false))) 2 0]
def ycuk:LO:=[o3 (.bin .add (.tmp 7) (ci' 1)) 14 0,mv' 14 7 1]
def ycrx:LO:=[o3 (.mv (.const (.bool true))) 2 0]
def c223:SC:=(.seq (.reg false ycnf) (.seq (.seq (.reg false ychv) (.block 0 (.loop (.seq (.reg false ychn) (.seq (.cond (.tmp 8) .skip (.exit 0)) (.seq (.block 1 (.seq (.reg false yciw) (.seq (.reg false ycrm) (.cond (.tmp 13) (.seq (.reg false ycjg) .ret) .skip)))) (.reg false ycuk))))))) (.seq (.reg false ycrx) .ret)))
theorem ydbt:Fn 223 c223 [.t 2]:=fn_0 Tryz.func223 (by kernel_rfl) (by kernel_rfl)
def ycxd:LO:=[o3 (.box 48 (.tmp 0)) 1 0,o3 (.mv (.const (.bool false))) 2 0]
def ycpu:LO:=[fa' 0 1 1 3 0,ld' false 1 3 4 1,o3 (.bin .lss (.tmp 4) (ci' 0)) 5 3,mv' 5 6 7,⟨.faddr 0 1 (.tmp 1),some 7,some (6,false),15⟩,⟨.load false 1 (.tmp 7),some 8,some (6,false),31⟩,⟨.bin .gtr (.tmp 8) (ci' 4096),some 9,some (6,false),63⟩,o3 (.pick (.tmp 6) (.const (.bool true)) (.tmp 9)) 10 127,mv' 10 11 255,⟨.faddr 2 1 (.tmp 1),some 12,some (11,false),511⟩,⟨.load false 1 (.tmp 12),some 13,some (11,false),1023⟩,⟨.bin .lss (.tmp 13) (ci' 0),some 14,some (11,false),2047⟩,o3 (.pick (.tmp 11) (.const (.bool true)) (.tmp 14)) 15 4095,mv' 15 16 8191,⟨.faddr 2 1 (.tmp 1),some 17,some (16,false),16383⟩,⟨.load false 1 (.tmp 17),some 18,some (16,false),32767⟩,⟨.faddr 3 1 (.tmp 1),some 19,some (16,false),16383⟩,⟨.load false 1 (.tmp 19),some 20,some (16,false),81919⟩,⟨.bin .gtr (.tmp 18) (.tmp 20),some 21,some (16,false),262143⟩,o3 (.pick (.tmp 16) (.const (.bool true)) (.tmp 21)) 22 524287,mv' 22 23 1048575,⟨.faddr 3 1 (.tmp 1),some 24,some (23,false),2097151⟩,⟨.load false 1 (.tmp 24),some 25,some (23,false),4194303⟩,⟨.faddr 0 1 (.tmp 1),some 26,some (23,false),2097151⟩,⟨.load false 1 (.tmp 26),some 27,some (23,false),10485759⟩,⟨.bin .gtr (.tmp 25) (.tmp 27),some 28,some (23,false),33554431⟩,o3 (.pick (.tmp 23) (.const (.bool true)) (.tmp 28)) 29 67108863]
def ydie:LO:=[o3 (.mv (.const (.bool false))) 2 0]
def ycke:LO:=[fa' 3 1 1 30 0,ld' false 1 30 31 1,fa' 2 1 1 32 0,ld' false 1 32 33 4,o3 (.bin .add (.tmp 33) (ci' 1)) 34 12,bn' .gtr 31 34 35 31]
def ydjg:LO:=[o3 (.mv (.const (.bool false))) 2 0]
def ycqj:LO:=[fa' 0 1 1 36 0,ld' false 1 36 37 1,fa' 1 1 1 38 0,ld' false 1 38 39 4,bn' .leq 37 39 40 15,mv' 40 41 31,⟨.faddr 1 1 (.tmp 1),some 42,some (41,true),63⟩,⟨.load false 1 (.tmp 42),some 43,some (41,true),127⟩,⟨.faddr 0 1 (.tmp 1),some 44,some (41,true),63⟩,⟨.load false 1 (.tmp 44),some 45,some (41,true),319⟩,⟨.bin .mul (ci' 24) (.tmp 45),some 46,some (41,true),831⟩,⟨.bin .leq (.tmp 43) (.tmp 46),some 47,some (41,true),2047⟩,o3 (.pick (.tmp 41) (.tmp 47) (.const (.bool false))) 48 4095,mv' 48 49 8191,⟨.faddr 4 1 (.tmp 1),some 50,some (49,true),16383⟩,⟨.load false 1 (.tmp 50),some 51,some (49,true),32767⟩,⟨.bslice 40 1 1 [.i .u32 0] [(0,1,(.tmp 51))],some 52,some (49,true),65535⟩,⟨.call (.func 223) [(.tmp 52)],some 53,some (49,true),131071⟩,o3 (.pick (.tmp 49) (.tmp 53) (.const (.bool false))) 54 262143,mv' 54 2 524287]
def c222:SC:=(.seq (.reg false ycxd) (.seq (.seq (.reg false ycpu) (.cond (.tmp 29) (.seq (.reg false ydie) .ret) .skip)) (.seq (.seq (.reg false ycke) (.cond (.tmp 35) (.seq (.reg false ydjg) .ret) .skip)) (.seq (.reg false ycqj) .ret))))
theorem yczq:Fn 222 c222 [.t 2]:=fn_0 Tryz.func222 (by kernel_rfl) (by kernel_rfl)
def ycor:LO:=[o3 (.alloc 48 1 [.i .i64 0,.i .i64 0,.i .i64 0,.i .i64 0,.i .u32 0]) 2 0]
def ycre:LO:=[mv' 0 3 0,o3 (.bin .and (.tmp 3) (.const (.int .u32 16777215))) 4 1,o3 (.build [.i .i64 0,.i .i64 0,.i .i64 0,.i .i64 0,.i .u32 0] [(4,1,(.tmp 4))]) 5 3,o0 (.store 5 (.tmp 2) (.tmp 5)) 7]
def c195:SC:=(.seq (.reg false ycor) (.seq (.reg false ycre) .ret))
theorem ycyr:Fn 195 c195 [.c 2 true 5]:=fn_0 Tryz.func195 (by kernel_rfl) (by kernel_rfl)
def ycti:LO:=[o3 (.box 48 (.tmp 0)) 3 0,o3 (.alloc 48 1 [.i .i64 0,.i .i64 0,.i .i64 0,.i .i64 0,.i .u32 0]) 6 0,o3 (.mv (ci' 0)) 7 0]
def ycif:LO:=[ld' true 5 3 8 0,cl' 222 [8] 9 1,o3 (.un .not (.tmp 9)) 10 3]
def ydhc:LO:=[o3 (.build [.i .i64 0,.i .i64 0,.i .i64 0,.i .i64 0,.i .u32 0] []) 11 0,o0 (.store 5 (.tmp 6) (.tmp 11)) 1,o3 (.mv (ci' 7)) 7 3]
def ycvo:LO:=[mv' 1 12 0,o3 (.bin .eql (.tmp 12) (.const (.int .u32 0))) 13 1,mv' 13 14 3,⟨.mv (.tmp 1),some 15,some (14,false),7⟩,⟨.mv (.tmp 2),some 16,some (14,false),7⟩,⟨.bslice 40 1 2 [.i .u32 0,.i .u32 0] [(0,1,(.tmp 15)),(1,1,(.tmp 16))],some 17,some (14,false),31⟩,⟨.call (.func 223) [(.tmp 17)],some 18,some (14,false),63⟩,⟨.un .not (.tmp 18),some 19,some (14,false),127⟩,o3 (.pick (.tmp 14) (.const (.bool true)) (.tmp 19)) 20 255]
def ydmo:LO:=[o3 (.build [.i .i64 0,.i .i64 0,.i .i64 0,.i .i64 0,.i .u32 0] []) 21 0,o0 (.store 5 (.tmp 6) (.tmp 21)) 1,o3 (.mv (ci' 11)) 7 3]
def ychk:LO:=[fa' 0 1 3 22 0,ld' false 1 22 23 1,o3 (.bin .eql (.tmp 23) (ci' 4096)) 24 3]
def ydlf:LO:=[o3 (.build [.i .i64 0,.i .i64 0,.i .i64 0,.i .i64 0,.i .u32 0] []) 25 0,o0 (.store 5 (.tmp 6) (.tmp 25)) 1,o3 (.mv (ci' 3)) 7 3]
def ychu:LO:=[fa' 0 1 3 26 0,ld' false 1 26 27 1,o3 (.bin .add (.tmp 27) (ci' 1)) 28 3,fa' 0 1 3 29 7,o0 (.store 1 (.tmp 29) (.tmp 28)) 15]
def ycsa:LO:=[fa' 1 1 3 30 0,ld' false 1 30 31 1,mv' 1 32 0,cl' 104 [32] 33 4,bn' .add 31 33 34 15,fa' 1 1 3 35 31,o0 (.store 1 (.tmp 35) (.tmp 34)) 63]
def yclg:LO:=[fa' 2 1 3 36 0,ld' false 1 36 37 1,o3 (.bin .add (.tmp 37) (ci' 1)) 38 3,fa' 3 1 3 39 7,o0 (.store 1 (.tmp 39) (.tmp 38)) 15]
def ybvl:LO:=[fa' 4 1 3 40 0,ld' false 1 40 41 1,mv' 1 42 0,bn' .andNot 41 42 43 7,mv' 2 44 0,bn' .and 43 44 45 31,fa' 4 1 3 46 63,o0 (.store 1 (.tmp 46) (.tmp 45)) 127]
def ybto:LO:=[fa' 4 1 3 47 0,ld' false 1 47 48 1,o3 (.bin .eql (.tmp 48) (.const (.int .u32 0))) 49 3]
def ybzm:LO:=[fa' 3 1 3 50 0,ld' false 1 50 51 1,fa' 2 1 3 52 3,o0 (.store 1 (.tmp 52) (.tmp 51)) 7]
def ybvw:LO:=[mv' 2 53 0,fa' 4 1 3 54 1,o0 (.store 1 (.tmp 54) (.tmp 53)) 3]
def ybgk:LO:=[ld' true 5 3 55 0,o0 (.store 5 (.tmp 6) (.tmp 55)) 1,o3 (.mv (ci' 0)) 7 3]
def c197:SC:=(.seq (.reg false ycti) (.seq (.seq (.reg false ycif) (.cond (.tmp 10) (.seq (.reg false ydhc) .ret) .skip)) (.seq (.seq (.reg false ycvo) (.cond (.tmp 20) (.seq (.reg false ydmo) .ret) .skip)) (.seq (.seq (.reg false ychk) (.cond (.tmp 24) (.seq (.reg false ydlf) .ret) .skip)) (.seq (.reg false ychu) (.seq (.reg true ycsa) (.seq (.reg false yclg) (.seq (.reg false ybvl) (.seq (.seq (.reg false ybto) (.cond (.tmp 49) (.seq (.reg false ybzm) (.reg false ybvw)) .skip)) (.seq (.reg false ybgk) .ret))))))))))
theorem yczm:Fn 197 c197 [.c 6 true 5,.t 7]:=fn_0 Tryz.func197 (by kernel_rfl) (by kernel_rfl)
def ycoq:LO:=[o3 (.mv (ci' 0)) 2 0]
def ycih:LO:=[mv' 0 3 0,o3 (.bin .shr (.tmp 3) (.const (.int .u64 24))) 4 1,o3 (.stri ywg (.tmp 4)) 5 3,mv' 0 6 0,o3 (.bin .shr (.tmp 6) (.const (.int .u64 16))) 7 8,o3 (.bin .and (.tmp 7) (.const (.int .u32 255))) 8 24,o3 (.stri ywg (.tmp 8)) 9 56,bn' .add 5 9 10 127,mv' 0 11 0,o3 (.bin .shr (.tmp 11) (.const (.int .u64 8))) 12 256,o3 (.bin .and (.tmp 12) (.const (.int .u32 255))) 13 768,o3 (.stri ywg (.tmp 13)) 14 1792,bn' .add 10 14 15 4095,mv' 0 16 0,o3 (.bin .and (.tmp 16) (.const (.int .u32 255))) 17 8192,o3 (.stri ywg (.tmp 17)) 18 24576,bn' .add 15 18 19 65535,o3 (.conv .i64 (.tmp 19)) 20 131071,mv' 20 2 262143]
def c104:SC:=(.seq (.reg false ycoq) (.seq (.reg true ycih) .ret))
theorem ycxp:Fn 104 c104 [.t 2]:=fn_0 Tryz.func104 (by kernel_rfl) (by kernel_rfl)
def ycis:LO:=[o3 (.box 27 (.tmp 0)) 1 0,o3 (.mv (.const (.slice none 0 0))) 2 0]
def ycvm:LO:=[fa' 1 1 1 8 0,ld' false 1 8 9 1,ln' 9 10 3,o3 (.mk 40 1 4 [.i .u32 0] (.tmp 10) (.tmp 10)) 11 7,mv' 11 3 15]
def ycuy:LO:=[fa' 1 1 1 12 0,ld' false 1 12 13 1,ln' 13 14 3,o3 (.mv (ci' 0)) 15 0]
def ycrg:LO:=[bn' .lss 15 14 16 0]
def ycrh:LO:=[mv' 15 17 0,ix' 1 13 15 18 0,ld' false 1 18 19 2,mv' 17 4 7,mv' 19 5 15]
def ycmy:LO:=[mv' 5 20 0,ln' 20 21 1,o3 (.mv (ci' 0)) 22 0]
def ycte:LO:=[bn' .lss 22 21 23 0]
def ychy:LO:=[ix' 2 20 22 24 0,ld' true 2 24 25 1,o3 (.alloc 95 1 [.i .i64 0,.i .i64 0]) 7 0,o0 (.store 2 (.tmp 7) (.tmp 25)) 7]
def ycwp:LO:=[mv' 3 26 0,mv' 4 27 0,ix' 1 26 27 28 3,ld' false 1 28 29 7,fa' 0 1 7 30 0,ld' false 1 30 31 16,o3 (.bin .shl (.const (.int .u32 1)) (.tmp 31)) 32 48,bn' .or 29 32 33 127,ix' 1 26 27 34 255,o0 (.store 1 (.tmp 34) (.tmp 33)) 511]
def ycjn:LO:=[o3 (.bin .add (.tmp 22) (ci' 1)) 35 0,mv' 35 22 1]
def ybrc:LO:=[o3 (.bin .add (.tmp 15) (ci' 1)) 36 0,mv' 36 15 1]
def ybse:LO:=[mv' 3 37 0,mv' 37 2 1]
def c110:SC:=(.seq (.reg false ycis) (.seq (.reg false ycvm) (.seq (.seq (.reg false ycuy) (.block 0 (.loop (.seq (.reg false ycrg) (.seq (.cond (.tmp 16) .skip (.exit 0)) (.seq (.block 1 (.seq (.reg false ycrh) (.seq (.reg false ycmy) (.block 2 (.loop (.seq (.reg false ycte) (.seq (.cond (.tmp 23) .skip (.exit 2)) (.seq (.block 3 (.seq (.reg false ychy) (.reg true ycwp))) (.reg false ycjn))))))))) (.reg false ybrc))))))) (.seq (.reg false ybse) .ret))))
theorem ydcq:Fn 110 c110 [.t 2]:=fn_0 Tryz.func110 (by kernel_rfl) (by kernel_rfl)
def ycqd:LO:=[o3 (.mv (.const (.bool false))) 8 0]
def ycvf:LO:=[mv' 3 9 0,o3 (.bin .eql (.tmp 9) (.const (.int .u32 0))) 10 1,mv' 10 11 3,⟨.mv (.tmp 3),some 12,some (11,false),7⟩,⟨.mv (.tmp 2),some 13,some (11,false),7⟩,⟨.bin .andNot (.tmp 12) (.tmp 13),some 14,some (11,false),31⟩,⟨.bin .neq (.tmp 14) (.const (.int .u32 0)),some 15,some (11,false),63⟩,o3 (.pick (.tmp 11) (.const (.bool true)) (.tmp 15)) 16 127]
def ydja:LO:=[o3 (.mv (.const (.bool false))) 8 0]
def ycnl:LO:=[mv' 1 17 0]
def ycqh:LO:=[o3 (.bin .eql (.tmp 17) (ci' 1)) 19 0,mv' 19 18 1]
def ydid:LO:=[mv' 3 20 0,mv' 3 21 0,o3 (.bin .sub (.tmp 21) (.const (.int .u32 1))) 22 2,bn' .and 20 22 23 7,o3 (.bin .eql (.tmp 23) (.const (.int .u32 0))) 24 15,mv' 24 8 31]
def ycrv:LO:=[o3 (.bin .eql (.tmp 17) (ci' 2)) 26 0,mv' 26 25 1]
def ychg:LO:=[mv' 0 27 0,mv' 3 28 0,cl' 221 [27,28] 29 3,mv' 29 8 7]
def ydod:LO:=[o3 (.bin .eql (.tmp 17) (ci' 4)) 31 0,mv' 31 30 1]
def ydkl:LO:=[mv' 3 32 0,mv' 2 33 0,bn' .eql 32 33 34 3,mv' 34 8 7]
def ydfn:LO:=[o3 (.mv (.const (.bool true))) 8 0]
def c196:SC:=(.seq (.reg false ycqd) (.seq (.seq (.reg false ycvf) (.cond (.tmp 16) (.seq (.reg false ydja) .ret) .skip)) (.seq (.seq (.reg false ycnl) (.block 0 (.seq (.reg false ycqh) (.cond (.tmp 18) (.seq (.reg false ydid) .ret) (.seq (.reg false ycrv) (.cond (.tmp 25) (.seq (.reg false ychg) .ret) (.seq (.reg false ydod) (.cond (.tmp 30) (.seq (.reg false ydkl) .ret) .skip)))))))) (.seq (.reg false ydfn) .ret))))
theorem ydah:Fn 196 c196 [.t 8]:=fn_0 Tryz.func196 (by kernel_rfl) (by kernel_rfl)
def ycry:LO:=[o3 (.box 110 (.tmp 0)) 4 0,o3 (.mv (.const (.int .u32 0))) 8 0]
def ycgq:LO:=[mv' 3 11 0,mv' 2 12 0,bn' .and 11 12 13 3,mv' 13 3 7]
def ycui:LO:=[mv' 3 14 0,o3 (.bin .eql (.tmp 14) (.const (.int .u32 0))) 15 1]
def yclj:LO:=[mv' 2 16 0,mv' 2 17 0,o3 (.un .neg (.tmp 17)) 18 2,bn' .and 16 18 19 7,mv' 19 3 15]
def ycsx:LO:=[mv' 1 20 0]
def ycmz:LO:=[o3 (.bin .eql (.tmp 20) (ci' 1)) 22 0,mv' 22 21 1]
def ydhd:LO:=[mv' 3 23 0,mv' 3 24 0,o3 (.un .neg (.tmp 24)) 25 2,bn' .and 23 25 26 7,mv' 26 8 15]
def ycqm:LO:=[o3 (.bin .eql (.tmp 20) (ci' 2)) 28 0,mv' 28 27 1]
def ycje:LO:=[o3 (.alloc 40 1 [.i .u32 0]) 9 0,o0 (.store 1 (.tmp 9) (.const (.int .u32 0))) 1]
def ycrn:LO:=[mv' 3 29 0,cl' 154 [29] 30 1]
def ybee:LO:=[mv' 31 10 0]
def ybdv:LO:=[ld' false 1 4 32 0,mv' 10 33 0,ix' 1 32 33 34 3,ld' false 1 34 35 7,ld' false 1 9 36 0,bn' .and 35 36 37 31,o3 (.bin .eql (.tmp 37) (.const (.int .u32 0))) 38 63]
def ybfg:LO:=[ld' false 1 9 39 0,mv' 10 40 0,o3 (.bin .shl (.const (.int .u32 1)) (.tmp 40)) 41 2,bn' .or 39 41 42 7,o0 (.store 1 (.tmp 9) (.tmp 42)) 15]
def ybyp:LO:=[ld' false 1 9 43 0,mv' 43 8 1]
def ydcw:LO:=[o3 (.bin .eql (.tmp 20) (ci' 4)) 45 0,mv' 45 44 1]
def yddy:LO:=[mv' 2 46 0,mv' 46 8 1]
def yden:LO:=[mv' 3 47 0,mv' 47 8 1]
def c111:SC:=(.seq (.reg false ycry) (.seq (.reg false ycgq) (.seq (.seq (.reg false ycui) (.cond (.tmp 15) (.reg false yclj) .skip)) (.seq (.seq (.reg false ycsx) (.block 0 (.seq (.reg false ycmz) (.cond (.tmp 21) (.seq (.reg false ydhd) .ret) (.seq (.reg false ycqm) (.cond (.tmp 27) (.seq (.reg false ycje) (.seq (.seq (.reg false ycrn) (.block 1 (.range (.tmp 30) [31] (.reg false ybee) (.block 2 (.seq (.reg true ybdv) (.cond (.tmp 38) (.reg true ybfg) .skip)))))) (.seq (.reg false ybyp) .ret))) (.seq (.reg false ydcw) (.cond (.tmp 44) (.seq (.reg false yddy) .ret) .skip)))))))) (.seq (.reg false yden) .ret)))))
theorem ycba:FnU 111 c111 [.t 8]:=fn_u Tryz.func111 (by kernel_rfl) (by kernel_rfl)
def ycrc:LO:=[o3 (.mv (.const (.bool false))) 2 0]
def ycty:LO:=[mv' 0 3 0,o3 (.bin .geq (.tmp 3) (ci' 1)) 4 1,mv' 4 5 3,⟨.mv (.tmp 0),some 6,some (5,true),7⟩,⟨.bin .leq (.tmp 6) (ci' 4),some 7,some (5,true),15⟩,o3 (.pick (.tmp 5) (.tmp 7) (.const (.bool false))) 8 31,mv' 8 2 63]
def c108:SC:=(.seq (.reg false ycrc) (.seq (.reg false ycty) .ret))
theorem yczw:Fn 108 c108 [.t 2]:=fn_0 Tryz.func108 (by kernel_rfl) (by kernel_rfl)
def ycid:LO:=[o3 (.box 58 (.tmp 0)) 5 0,o3 (.box 27 (.tmp 1)) 6 0,o3 (.mv (ci' 0)) 10 0]
def ycmo:LO:=[ld' true 3 5 12 0,ld' true 2 6 13 0,mv' 3 14 0,cl' 112 [12,13,14] 15 7,mv' 15 11 15]
def ycrq:LO:=[mv' 11 16 0,o3 (.bin .neq (.tmp 16) (ci' 0)) 17 1]
def ydle:LO:=[mv' 11 18 0,mv' 18 10 1]
def ycpw:LO:=[mv' 2 19 0,cl' 108 [19] 20 1,o3 (.un .not (.tmp 20)) 21 3]
def ydhg:LO:=[o3 (.mv (ci' 12)) 10 0]
def ycrw:LO:=[mv' 4 22 0,o3 (.bin .gtr (.tmp 22) (ci' 4096)) 23 1]
def ydnh:LO:=[o3 (.mv (ci' 3)) 10 0]
def ycwq:LO:=[o3 (.mv (ci' 0)) 10 0]
def c129:SC:=(.seq (.reg false ycid) (.seq (.seq (.reg false ycmo) (.seq (.reg false ycrq) (.cond (.tmp 17) (.seq (.reg false ydle) .ret) .skip))) (.seq (.seq (.reg false ycpw) (.cond (.tmp 21) (.seq (.reg false ydhg) .ret) .skip)) (.seq (.seq (.reg false ycrw) (.cond (.tmp 23) (.seq (.reg false ydnh) .ret) .skip)) (.seq (.reg false ycwq) .ret)))))
theorem ydaf:Fn 129 c129 [.t 10]:=fn_0 Tryz.func129 (by kernel_rfl) (by kernel_rfl)
def yckt:LO:=[o3 (.box 58 (.tmp 0)) 4 0,o3 (.box 27 (.tmp 1)) 5 0,o3 (.alloc 126 1 [.a (.pointer none),.a (.slice none 0 0),.i .i64 0,.i .u32 0,.a (.nilFunc)]) 8 0]
def ycne:LO:=[ld' true 3 4 9 0,ld' true 2 5 10 0,cl' 93 [9,10] 11 3,ld' true 2 5 12 0,cl' 110 [12] 13 15,mv' 2 14 0,ld' true 2 5 15 0,cl' 109 [15] 16 95,mv' 3 17 0,o3 (.build [.a (.pointer none),.a (.slice none 0 0),.i .i64 0,.i .u32 0,.a (.nilFunc)] [(0,1,(.tmp 11)),(1,1,(.tmp 13)),(2,1,(.tmp 14)),(3,1,(.tmp 16)),(4,1,(.tmp 17))]) 18 511,o0 (.store 5 (.tmp 8) (.tmp 18)) 1023]
def c130:SC:=(.seq (.reg false yckt) (.seq (.reg true ycne) .ret))
theorem ycet:FnM 130 c130 [.c 8 true 5]:=fn_m Tryz.func130 (by kernel_rfl) (by kernel_rfl)
def ycpz:LO:=[o3 (.box 126 (.tmp 0)) 4 0,o3 (.alloc 130 1 [.a (.slice none 0 0),.a (.slice none 0 0),.a (.slice none 0 0),.i .i64 0,.i .i64 0,.i .i64 0,.i .i64 0,.i .u32 0]) 8 0,o3 (.mv (ci' 0)) 9 0]
def ycsj:LO:=[o3 (.alloc 130 1 [.a (.slice none 0 0),.a (.slice none 0 0),.a (.slice none 0 0),.i .i64 0,.i .i64 0,.i .i64 0,.i .i64 0,.i .u32 0]) 10 0]
def ycju:LO:=[mv' 1 16 0,cl' 132 [16] 17 1,mv' 17 1 3]
def ycnm:LO:=[fa' 0 1 4 18 0,ld' false 1 18 19 1,mv' 1 20 0,cl' 94 [19,20] 21 7,fa' 3 1 4 22 0,ld' false 1 22 23 16,bn' .and 21 23 24 63,mv' 24 11 127]
def ycus:LO:=[mv' 11 25 0,cl' 195 [25] 26 1,o3 (.alloc 48 1 [.i .i64 0,.i .i64 0,.i .i64 0,.i .i64 0,.i .u32 0]) 12 0,o0 (.store 5 (.tmp 12) (.tmp 26)) 7]
def ycxk:LO:=[fa' 4 1 4 27 0,ld' false 1 27 28 1,mv' 1 29 0,mv' 11 30 0,ld' true 5 12 31 0,o3 (.call (.tmp 28) [(.tmp 29),(.tmp 30),(.tmp 31)]) 32 31]
def ycgs:LO:=[fa' 1 1 10 33 0,ld' false 1 33 34 1,mv' 11 35 0,o3 (.bslice 40 1 1 [.i .u32 0] [(0,1,(.tmp 35))]) 36 4,o3 (.app 40 1 4 (.tmp 34) (.tmp 36)) 37 15,fa' 1 1 10 38 31,o0 (.store 1 (.tmp 38) (.tmp 37)) 63]
def ycwn:LO:=[mv' 2 39 0,o3 (.mv (ci' 0)) 40 0]
def ycqk:LO:=[bn' .lss 40 39 41 0]
def ycld:LO:=[mv' 40 42 0,mv' 42 13 1]
def ybug:LO:=[mv' 3 44 0,mv' 13 45 0,mv' 11 46 0,o3 (.call (.tmp 44) [(.tmp 45),(.tmp 46)]) 47 7,mv' 47 43 15,xt' 43 0 48 31,xt' 43 1 49 31,mv' 48 14 63,mv' 49 15 255]
def ybhs:LO:=[mv' 15 50 0,o3 (.un .not (.tmp 50)) 51 1]
def ybvg:LO:=[fa' 1 1 4 52 0,ld' false 1 52 53 1,fa' 2 1 4 54 0,ld' false 1 54 55 4,mv' 11 56 0,mv' 14 57 0,cl' 196 [53,55,56,57] 58 63,o3 (.un .not (.tmp 58)) 59 127]
def ydea:LO:=[o3 (.build [.a (.slice none 0 0),.a (.slice none 0 0),.a (.slice none 0 0),.i .i64 0,.i .i64 0,.i .i64 0,.i .i64 0,.i .u32 0] []) 60 0,o0 (.store 8 (.tmp 8) (.tmp 60)) 1,o3 (.mv (ci' 11)) 9 3]
def ybos:LO:=[fa' 0 1 4 61 0,ld' false 1 61 62 1,mv' 1 63 0,mv' 14 64 0,cl' 113 [62,63,64] 65 15,mv' 65 1 31]
def ybre:LO:=[fa' 0 1 4 66 0,ld' false 1 66 67 1,mv' 1 68 0,cl' 94 [67,68] 69 7,fa' 3 1 4 70 0,ld' false 1 70 71 16,bn' .and 69 71 72 63,mv' 72 11 127]
def ybyn:LO:=[ld' true 5 12 74 0,mv' 14 75 0,mv' 11 76 0,cl' 197 [74,75,76] 77 7,mv' 77 73 15,xt' 73 0 78 31,xt' 73 1 79 31,o0 (.store 5 (.tmp 12) (.tmp 78)) 63]
def ybpe:LO:=[fa' 4 1 4 80 0,ld' false 1 80 81 1,mv' 1 82 0,mv' 11 83 0,ld' true 5 12 84 0,o3 (.call (.tmp 81) [(.tmp 82),(.tmp 83),(.tmp 84)]) 85 31]
def ybzt:LO:=[fa' 0 1 10 86 0,ld' false 1 86 87 1,mv' 14 88 0,o3 (.bslice 40 1 1 [.i .u32 0] [(0,1,(.tmp 88))]) 89 4,o3 (.app 40 1 4 (.tmp 87) (.tmp 89)) 90 15,fa' 0 1 10 91 31,o0 (.store 1 (.tmp 91) (.tmp 90)) 63]
def ybvn:LO:=[fa' 1 1 10 92 0,ld' false 1 92 93 1,mv' 11 94 0,o3 (.bslice 40 1 1 [.i .u32 0] [(0,1,(.tmp 94))]) 95 4,o3 (.app 40 1 4 (.tmp 93) (.tmp 95)) 96 15,fa' 1 1 10 97 31,o0 (.store 1 (.tmp 97) (.tmp 96)) 63]
def ybsi:LO:=[o3 (.bin .add (.tmp 40) (ci' 1)) 98 0,mv' 98 40 1]
def ybfm:LO:=[mv' 1 99 0,ld' true 5 12 100 0,fa' 2 1 10 101 1,o0 (.store 1 (.tmp 101) (.tmp 99)) 5,fa' 3 5 10 102 15,o0 (.store 5 (.tmp 102) (.tmp 100)) 31]
def ybfv:LO:=[ld' true 8 10 103 0,o0 (.store 8 (.tmp 8) (.tmp 103)) 1,o3 (.mv (ci' 0)) 9 3]
def c168:SC:=(.seq (.reg false ycpz) (.seq (.reg false ycsj) (.seq (.reg false ycju) (.seq (.reg true ycnm) (.seq (.reg false ycus) (.seq (.reg false ycxk) (.seq (.reg false ycgs) (.seq (.seq (.reg false ycwn) (.block 0 (.loop (.seq (.reg false ycqk) (.seq (.cond (.tmp 41) .skip (.exit 0)) (.seq (.block 1 (.seq (.reg false ycld) (.seq (.reg false ybug) (.seq (.seq (.reg false ybhs) (.cond (.tmp 51) (.exit 0) .skip)) (.seq (.seq (.reg false ybvg) (.cond (.tmp 59) (.seq (.reg false ydea) .ret) .skip)) (.seq (.reg false ybos) (.seq (.reg true ybre) (.seq (.reg false ybyn) (.seq (.reg false ybpe) (.seq (.reg false ybzt) (.reg false ybvn))))))))))) (.reg false ybsi))))))) (.seq (.reg true ybfm) (.seq (.reg false ybfv) .ret))))))))))
theorem ycby:FnM 168 c168 [.c 8 true 8,.t 9]:=fn_m Tryz.func168 (by kernel_rfl) (by kernel_rfl)
def ychj:LO:=[o3 (.box 126 (.tmp 0)) 3 0,o3 (.box 38 (.tmp 2)) 5 0,o3 (.alloc 130 1 [.a (.slice none 0 0),.a (.slice none 0 0),.a (.slice none 0 0),.i .i64 0,.i .i64 0,.i .i64 0,.i .i64 0,.i .u32 0]) 6 0,o3 (.mv (ci' 0)) 7 0]
def ycxc:LO:=[ld' true 5 3 8 0,mv' 1 9 0,ld' false 1 5 10 0,ln' 10 11 4,o3 (.mkfn 169 [] [(.tmp 3),(.tmp 5)]) 12 0,cl' 168 [8,9,11,12] 13 31,xt' 13 0 14 63,xt' 13 1 15 63,o0 (.store 8 (.tmp 6) (.tmp 14)) 255,mv' 15 7 511]
def c133:SC:=(.seq (.reg false ychj) (.seq (.reg false ycxc) .ret))
theorem ycee:FnM 133 c133 [.c 6 true 8,.t 7]:=fn_m Tryz.func133 (by kernel_rfl) (by kernel_rfl)
def ybwj:LO:=[o3 (.mv (.const (.int .u32 0))) 6 0,o3 (.mv (.const (.bool false))) 7 1]
def ybsn:LO:=[fa' 1 1 2 8 0,ld' false 1 8 9 1,fa' 2 1 2 10 0,ld' false 1 10 11 4,mv' 1 12 0,ld' false 1 3 13 0,mv' 0 14 0,ix' 1 13 14 15 96,ld' false 1 15 16 224,cl' 111 [9,11,12,16] 17 511,mv' 1 18 0,o3 (.bin .neq (.tmp 18) (.const (.int .u32 0))) 19 1024,mv' 17 6 1023,mv' 19 7 8191]
def c169:SC:=(.seq (.reg false ybwj) (.seq (.reg true ybsn) .ret))
theorem ybvk:Fn 169 c169 [.t 6,.t 7]:=fn_0 Tryz.func169 (by kernel_rfl) (by kernel_rfl)
def ydkj:LO:=[o3 (.box 58 (.tmp 0)) 5 0,o3 (.box 27 (.tmp 1)) 6 0,o3 (.mv (.const (.slice none 0 0))) 10 0,o3 (.mv (.const (.slice none 0 0))) 11 4,o3 (.mv (ci' 0)) 12 12]
def ydlg:LO:=[ld' true 3 5 19 0,ld' true 2 6 20 0,mv' 2 21 0,mv' 3 22 0,mv' 4 23 0,ln' 23 24 16,cl' 129 [19,20,21,22,24] 25 63,mv' 25 13 127]
def ydlh:LO:=[mv' 13 26 0,o3 (.bin .neq (.tmp 26) (ci' 0)) 27 1]
def ydpi:LO:=[mv' 13 28 0,o3 (.mv (.const (.slice none 0 0))) 10 0,o3 (.mv (.const (.slice none 0 0))) 11 2,mv' 28 12 7]
def ydlj:LO:=[o3 (.alloc 29 1 [.a (.slice none 0 0)]) 14 0]
def ydne:LO:=[o3 (.alloc 30 1 [.a (.slice none 0 0)]) 15 0]
def ydno:LO:=[ld' true 3 5 29 0,ld' true 2 6 30 0,mv' 2 31 0,o3 (.mkfn 131 [] [(.tmp 14),(.tmp 15)]) 32 0,cl' 130 [29,30,31,32] 33 15,o3 (.alloc 126 1 [.a (.pointer none),.a (.slice none 0 0),.i .i64 0,.i .u32 0,.a (.nilFunc)]) 16 0,o0 (.store 5 (.tmp 16) (.tmp 33)) 63]
def ydmj:LO:=[ld' true 5 16 35 0,mv' 3 36 0,mv' 4 37 0,cl' 133 [35,36,37] 38 7,mv' 38 34 15,xt' 34 0 39 31,xt' 34 1 40 31,o3 (.alloc 130 1 [.a (.slice none 0 0),.a (.slice none 0 0),.a (.slice none 0 0),.i .i64 0,.i .i64 0,.i .i64 0,.i .i64 0,.i .u32 0]) 17 0,o0 (.store 8 (.tmp 17) (.tmp 39)) 191,mv' 40 18 511]
def ydom:LO:=[mv' 18 41 0,o3 (.bin .neq (.tmp 41) (ci' 0)) 42 1]
def ydpf:LO:=[mv' 18 43 0,o3 (.mv (.const (.slice none 0 0))) 10 0,o3 (.mv (.const (.slice none 0 0))) 11 2,mv' 43 12 7]
def yclw:LO:=[ld' false 1 14 44 0,ld' false 1 15 45 0,mv' 44 10 1,mv' 45 11 7,o3 (.mv (ci' 0)) 12 15]
def c78:SC:=(.seq (.reg false ydkj) (.seq (.seq (.reg false ydlg) (.seq (.reg false ydlh) (.cond (.tmp 27) (.seq (.reg false ydpi) .ret) .skip))) (.seq (.reg false ydlj) (.seq (.reg false ydne) (.seq (.reg false ydno) (.seq (.seq (.reg false ydmj) (.seq (.reg false ydom) (.cond (.tmp 42) (.seq (.reg false ydpf) .ret) .skip))) (.seq (.reg true yclw) .ret)))))))
theorem ydds:FnU 78 c78 [.t 10,.t 11,.t 12]:=fn_u Tryz.func78 (by kernel_rfl) (by kernel_rfl)
def ybou:LO:=[o3 (.box 48 (.tmp 2)) 7 0]
def ybvz:LO:=[ld' false 1 3 8 0,mv' 0 9 0,cl' 132 [9] 10 2,o3 (.bslice 34 1 1 [.a (.slice none 0 0)] [(0,1,(.tmp 10))]) 11 6,o3 (.app 34 1 24 (.tmp 8) (.tmp 11)) 12 15,o0 (.store 1 (.tmp 3) (.tmp 12)) 31]
def ybvm:LO:=[ld' false 1 4 13 0,ld' true 5 7 14 0,o3 (.bslice 48 5 1 [.i .i64 0,.i .i64 0,.i .i64 0,.i .i64 0,.i .u32 0] [(0,5,(.tmp 14))]) 15 2,o3 (.app 48 5 40 (.tmp 13) (.tmp 15)) 16 7,o0 (.store 1 (.tmp 4) (.tmp 16)) 15]
def c131:SC:=(.seq (.reg false ybou) (.seq (.reg true ybvz) (.reg false ybvm)))
theorem ybja:FnM 131 c131 []:=fn_m Tryz.func131 (by kernel_rfl) (by kernel_rfl)
end Sh
end
section
namespace Sh
open Go Ev
theorem mulB{a b:Int}(ha:InB a)(hb:InB b):-1152921504606846976<=a*b/\a*b<=1152921504606846976:=by
 unfold InB at *
 have h:(a*b).natAbs<=1073741824*1073741824:=by
  rw[zV];exact zW (by omega) (by omega)
 omega
theorem yee(b:Bool):Returns Tryz.prog 256 [.b b] (.i .i64 (ybp b)):=by
 refine Returns.of (ydeu _ _ ?_);simp only[c256,ycra,yckw,ycux,ycuv,ybb,ybp,go_sem,↓reduceIte,reduceCtorEq];cases b<;>simp
theorem ydz(a:Int):Returns Tryz.prog 258 [.i .i64 a] (.i .i64 (satP a)):=by
 refine Returns.of (yddl _ _ ?_);simp only[c258,ycii,ycvq,ybb,satP,go_sem,zA,zB,↓reduceIte,reduceCtorEq]
theorem ydmr{a b:Int}(ha:InB a):-1073741824<=a.tdiv b/\a.tdiv b<=1073741824:=by
 have h1:(a.tdiv b).natAbs=a.natAbs/b.natAbs:=Int.natAbs_tdiv a b;have h2:a.natAbs/b.natAbs<=a.natAbs:=Nat.div_le_self _ _;rw[<-h1]at h2;unfold InB at ha;omega
theorem ycga{a b:Int}(ha:InB a):-1073741825<=yuj a b/\yuj a b<=1073741824:=by
 have:=ydmr (b:=b) ha;unfold yuj;split
 ·omega
 ·split<;>omega
theorem ybwc{a b:Int}(ha:InB a)(hb:InB b):-1152921505680588800<=b*yuj a b/\b*yuj a b<=1152921505680588800:=by
 have h1:=ycga (b:=b) ha
 have h:(b*yuj a b).natAbs<=1073741824*1073741825:=by
  unfold InB at *;rw[zV];exact zW (by omega) (by omega)
 omega
theorem ybpu(op a:Int)(ha:InB a):Returns Tryz.prog 237 [.i .i64 op,.i .i64 a] (.i .i64 (unP op a)):=by
 refine Returns.of (ydem _ _ ?_);simp only[c237,ycww,ycrk,ycua,ycjv,ybb,unP,IntKind.signed,go_sem,zA,zB,↓reduceIte,reduceCtorEq];unfold InB at ha;refine⟨fun h=>⟨ikw (by omega) (by omega),by rw[if_pos h];omega⟩,fun h=>(yee _).use ?_⟩
 simp only[ybh,ybb,go_sem,zA,zB,↓reduceIte,reduceCtorEq];rw[if_neg h]
theorem ypm(a b:Int)(ha:InB a):Returns Tryz.prog 259 [.i .i64 a,.i .i64 b] (.i .i64 (yuj a b)):=by
 refine Returns.of (ydbo _ _ ?_);simp only[c259,ycvu,ycns,ychq,ycmv,ycmx,ycss,ycvw,ybb,yuj,go_sem,zA,zB,↓reduceIte,reduceCtorEq];have:=ydmr (b:=b) ha;refine⟨fun h=>by rw[if_pos h],fun h=>⟨⟨h,ikw (by omega) (by omega)⟩,h,fun h1=>⟨fun h2=>⟨ikw (by omega) (by omega),?_⟩,fun h2=>?_⟩,fun h1=>?_⟩⟩
 ·rw[if_neg h,if_pos ⟨h1,h2⟩]
 ·rw[if_neg h,if_neg (fun q=>q.2 h2)]
 ·rw[if_neg h,if_neg (fun q=>q.1 h1)]
theorem ybbb(op a b:Int):Returns Tryz.prog 260 [.i .i64 op,.i .i64 a,.i .i64 b] (.b (cmpP op a b)):=by
 refine Returns.of (yddj _ _ ?_);simp only[c260,ycvz,ycla,ycjp,yclh,ycnd,ycou,yctg,ycqf,yclk,ycvn,ybwi,ybtn,ybth,ykh,cmpP,go_sem,zA,zB,↓reduceIte,reduceCtorEq];refine⟨fun h=>by rw[if_pos h],fun h35=>⟨fun h=>by rw[if_neg h35,if_pos h],fun h36=>⟨fun h=>by rw[if_neg h35,if_neg h36,if_pos h],fun h37=>⟨fun h=>by rw[if_neg h35,if_neg h36,if_neg h37,if_pos h],fun h38=>⟨fun h=>by rw[if_neg h35,if_neg h36,if_neg h37,if_neg h38,if_pos h],fun h39=>by rw[if_neg h35,if_neg h36,if_neg h37,if_neg h38,if_neg h39]⟩⟩⟩⟩⟩
theorem ybmi(op a b:Int)(ha:InB a)(hb:InB b):Returns Tryz.prog 239 [.i .i64 op,.i .i64 a,.i .i64 b] (.i .i64 (binP op a b)):=by
 refine Returns.of (ydff _ _ ?_);simp only[c239,ycmf,yciq,ycna,ycpx,ycmm,ycsc,yckm,ycwy,ycqw,ycjr,ybtr,ybxr,ybvr,ybzu,ybuz,ybwk,ybuo,ybsb,ybsv,ybb,go_sem,zA,zB,↓reduceIte,reduceCtorEq];have hm:=mulB ha hb;have hq:=ybwc ha hb;have hA:=ha;have hB:=hb;unfold InB at hA hB;refine⟨fun h=>⟨ikw (by omega) (by omega),(ydz _).use ?_⟩,fun h30=>⟨fun h=>(ypm a b ha).use ?_,fun h31=>⟨fun h=>⟨fun h0=>?_,fun h0=>(ypm a b ha).use ?_⟩,fun h32=>⟨fun h=>⟨ikw (by omega) (by omega),(ydz _).use ?_⟩,fun h33=>⟨fun h=>⟨ikw (by omega) (by omega),(ydz _).use ?_⟩,fun h34=>?_⟩⟩⟩⟩⟩
 ·simp only[ybh,ybb,go_sem,zA,zB,↓reduceIte,reduceCtorEq];simp[binP,h]
 ·simp only[ybh,go_sem,zA,zB,↓reduceIte,reduceCtorEq];refine(ydz _).use ?_;simp only[ybb,go_sem];simp[binP,h]
 ·simp[binP,h,h0]
 ·simp only[ybh,go_sem,zA,zB,↓reduceIte,reduceCtorEq];refine⟨ikw (by omega) (by omega),ikw (by omega) (by omega),(ydz _).use ?_⟩
  simp only[ybb,go_sem];simp[binP,h,h0]
 ·simp only[ybh,ybb,go_sem,zA,zB,↓reduceIte,reduceCtorEq];simp[binP,h]
 ·simp only[ybh,ybb,go_sem,zA,zB,↓reduceIte,reduceCtorEq];simp[binP,h]
 ·refine⟨fun h=>?_,fun h41=>⟨fun h=>?_,fun h42=>?_⟩⟩
  ·refine⟨fun h1=>(yee _).use ?_,fun h1=>(yee _).use ?_⟩
   ·simp only[ybh,ybb,go_sem,zA,zB,↓reduceIte,reduceCtorEq];simp[binP,h];rw[show(a != 0)=true by simpa using h1];simp
   ·simp only[ybh,ybb,go_sem,zA,zB,↓reduceIte,reduceCtorEq];simp[binP,h,h1]
  ·refine⟨fun h1=>(yee _).use ?_,fun h1=>(yee _).use ?_⟩
   ·simp only[ybh,ybb,go_sem,zA,zB,↓reduceIte,reduceCtorEq];simp[binP,h,h1]
   ·simp only[ybh,ybb,go_sem,zA,zB,↓reduceIte,reduceCtorEq];simp[binP,h];rw[show(a != 0)=true by simpa using h1];simp
  ·refine(ybbb op a b).use ?_;simp only[ybh,go_sem,zA,zB,↓reduceIte,reduceCtorEq];refine(yee _).use ?_;simp only[ybb,go_sem];simp[binP,h30,h31,h32,h33,h34,h41,h42]
end Sh
end
section
namespace Sh
open Go Ev
theorem ysg{l:List Int}{k:Nat}(h:k<l.length):countP (l.take (k+1))=countP (l.take k)+(if l.getD k 0≠0 then 1 else 0):=by
 unfold countP;rw[zF h,List.filter_append,zL,getD_at h]
 by_cases q:l[k]=0
 ·simp[q]
 ·simp[q]
theorem ybfw{l:List Int}(k:Nat):0<=countP (l.take k)/\countP (l.take k)<=k:=by
 have:=countP_le (l.take k);simp only[List.length_take]at this;omega
theorem ybxk(l:List Int)(hl:l.length<=1000):Returns Tryz.prog 266 [yw l] (.i .i64 (countP l)):=by
 refine Returns.of (ydbw _ _ ?_);simp only[c266,ycik,ycoh,ycjh,yw,go_sem,zB,↓reduceIte,reduceCtorEq];refine ybj (σ:=Nat) (fun k=>⟨[(8,.i .i64 k),(3,.i .i64 (countP (l.take k))),(6,yw l),(7,.i .i64 l.length)],[]⟩) (fun k=>k<=l.length) (fun k=>l.length-k) 0 (zI _) ?_ ?_
 ·refine yh [] [] [] ?_;simp only[yw,allQ,live,yc,ybb,zG,go_sem,zA,↓reduceIte,reduceCtorEq];simp[countP]
 ·intro k hk;simp only[ycjx,ycvp,ycpb,ycmk,ycix,ycot,yw,ybb,go_sem,zA,zB,↓reduceIte,reduceCtorEq];have hb:=ybfw (l:=l) k;refine⟨fun hlt=>⟨by omega,fun h0=>⟨ikw (by omega) (by omega),ikw (by omega) (by omega),?_⟩,fun h0=>⟨ikw (by omega) (by omega),?_⟩⟩,fun hlt=>?_⟩
  ·have hk':k<l.length:=by omega
   refine yj (k+1) (by omega) (by omega) ?_
   refine yh [] [] [] ?_;simp only[ysg hk',if_pos h0,allQ,live,yc,ybb,go_sem,zA,↓reduceIte,reduceCtorEq];simp
  ·have hk':k<l.length:=by omega
   refine yj (k+1) (by omega) (by omega) ?_
   refine yh [] [] [] ?_;simp only[ysg hk',if_neg (not_not_intro h0),allQ,live,yc,ybb,go_sem,zA,↓reduceIte,reduceCtorEq];simp
  ·rw[zH (by omega)]
theorem yqj{l:List Int}{k:Nat}(h:k<l.length):ydk (l.take (k+1))=(if l.getD k 0>(ydk (l.take k)).1 then(l.getD k 0,(ydk (l.take k)).1)else((ydk (l.take k)).1,max (ydk (l.take k)).2 (l.getD k 0))):=by
 unfold ydk;rw[zF h,zS,getD_at h];rfl
theorem ysp(l:List Int)(hl:l.length<=1000):Returns Tryz.prog 269 [yw l] (.tp [.i .i64 (ydk l).1,.i .i64 (ydk l).2]):=by
 refine Returns.of (ydcf _ _ ?_);simp only[c269,ycji,ycog,yctw,yw,go_sem,zB,↓reduceIte,reduceCtorEq];refine ybj (σ:=Nat) (fun k=>⟨[(8,.i .i64 k),(2,.i .i64 (ydk (l.take k)).1),(3,.i .i64 (ydk (l.take k)).2),(6,yw l),(7,.i .i64 l.length)],[]⟩) (fun k=>k<=l.length) (fun k=>l.length-k) 0 (zI _) ?_ ?_
 ·refine yh [] [] [] ?_;simp only[yw,allQ,live,yc,ybb,zG,go_sem,zA,↓reduceIte,reduceCtorEq];simp[ydk]
 ·intro k hk;simp only[ycgr,ycwz,ycxo,ycrp,ycku,ycgw,ycoo,yw,go_sem,zA,zB,↓reduceIte,reduceCtorEq];refine⟨fun hlt=>⟨by omega,fun h0=>⟨ikw (by omega) (by omega),?_⟩,fun h0=>⟨ikw (by omega) (by omega),?_⟩⟩,fun hlt=>?_⟩
  ·have hk':k<l.length:=by omega
   refine yj (k+1) (by omega) (by omega) ?_
   refine yh [] [] [] ?_;simp only[yqj hk',if_pos h0,allQ,live,yc,ybb,go_sem,zA,↓reduceIte,reduceCtorEq];simp
  ·have hk':k<l.length:=by omega
   refine yj (k+1) (by omega) (by omega) ?_
   refine yh [] [] [] ?_;simp only[yqj hk',if_neg h0,allQ,live,yc,ybb,go_sem,zA,↓reduceIte,reduceCtorEq];simp
  ·rw[zH (by omega)]
   exact Sim.refl _
theorem ybcg(l:List Int)(x:Int)(hl:l.length<=100000):Returns Tryz.prog 274 [yw l,.i .i64 x] (.b (l.elem x)):=by
 refine Returns.of (ydaq _ _ ?_);simp only[c274,yclc,ycud,yw,go_sem,zA,zB,↓reduceIte,reduceCtorEq];refine(ybvt l x hl).use ?_;simp only[ybh,ykh,go_sem,zA,zB,↓reduceIte,reduceCtorEq];unfold idxP;cases h:l.findIdx? (fun y=>x==y)with
 | none =>
   rw[zM]at h
   have:l.elem x=false:=by
    rw[zT,decide_eq_false_iff_not];intro hm;have:=h x hm;simp at this
   rw[this];simp
 | some i =>
   obtain⟨h1,h2,_⟩:=List.findIdx?_eq_some_iff_getElem.1 h
   have:l.elem x=true:=by
    rw[zT,decide_eq_true_eq];have:x=l[i]:=by simpa using h2
    rw[this];exact zQ h1
   rw[this];simp
theorem ybnu{l:List Int}{n:Nat}{r:Int}(h:l.elem r=true):yut l (n+1) r=yut l n (r+1):=by
 show(if l.elem r then _ else _)=_;rw[if_pos h]
theorem ybma{l:List Int}{n:Nat}{r:Int}(h:l.elem r=false):yut l n r=r:=by
 cases n with
 |zero=>rfl
 |succ n=>show(if l.elem r then _ else _)=_;rw[if_neg (by rw[h];simp)]
theorem ybau{l:List Int}{k:Nat}(h:∀j:Nat,j<k->l.elem (j:Int)=true):k<=l.length:=by
 have h1:((zN k).map fun(j:Nat)=>(j:Int)).Nodup:=by
  rw[List.Nodup,List.pairwise_map];exact List.nodup_range.imp fun {a b} hab e=>hab (by omega)
 have h2:((zN k).map fun(j:Nat)=>(j:Int)) ⊆ l:=fun x hx=>by
  obtain⟨j,hj,rfl⟩:=List.mem_map.1 hx;have:=h j (List.mem_range.1 hj)
  simpa using this
 have:=List.Nodup.length_le_of_subset h1 h2
 simpa using this
theorem ydfa(l:List Int)(hl:l.length<=1000):Returns Tryz.prog 270 [yw l] (.i .i64 (mexP l)):=by
 refine Returns.of (ycyn _ _ ?_);simp only[c270,ycvd,yckd,yw,go_sem];refine ybj (σ:=Nat) (fun k=>⟨[(3,.i .i64 k),(0,yw l)],[]⟩) (fun k=>(∀j:Nat,j<k->l.elem (j:Int)=true)/\mexP l=yut l (l.length+1-k) k) (fun k=>l.length+1-k) 0 ⟨fun j h=>absurd h (Nat.not_lt_zero _),rfl⟩ ?_ ?_
 ·refine yh [] [] [] ?_;simp only[yw,allQ,live,yc,zG,go_sem,↓reduceIte,reduceCtorEq]
 ·intro k ⟨hk,he⟩;have hb:=ybau hk;simp only[ycve,ycit,ycqv,yw,go_sem,zA,zB,↓reduceIte,reduceCtorEq];refine(ybcg l k (by omega)).use ?_
  simp only[ybh,ybb,go_sem,zA,zB,↓reduceIte,reduceCtorEq];refine⟨fun h=>⟨ikw (by omega) (by omega),?_⟩,fun h=>?_⟩
  ·have hk2:∀j:Nat,j<k+1->l.elem (j:Int)=true:=fun j hj=>by
    by_cases q:j<k
    ·exact hk j q
    ·obtain rfl:j=k:=by omega
     exact h
   have hb2:=ybau hk2;refine yj (k+1) ⟨hk2,?_⟩ (by omega) ?_
   ·rw[he,show l.length+1-k=(l.length+1-(k+1))+1 by omega,ybnu h];simp
   ·refine yh [] [] [] ?_;simp only[allQ,live,yc,ybb,go_sem,↓reduceIte,reduceCtorEq];simp
  ·rw[he,ybma h]
theorem ybom(x:Int):Returns Tryz.prog 268 [.i .i64 x] (.b (x != 0)):=by
 refine Returns.of (ycya _ _ ?_);simp only[c268,ycnr,ycij,ykh,go_sem,zA,zB,↓reduceIte,reduceCtorEq]
theorem yyx(l:List Int)(hl:l.length<=1000):Returns Tryz.prog 267 [yw l,.fn 268 [] []] (.i .i64 (yfk l)):=by
 refine Returns.of (ydbg _ _ ?_);simp only[c267,ycuh,yciy,yw,go_sem,zB,↓reduceIte,reduceCtorEq];refine ybj (σ:=Nat) (fun k=>⟨[(8,.i .i64 k),(0,yw l),(1,.fn 268 [] []),(7,.i .i64 l.length)],[]⟩) (fun k=>k<=l.length/\(l.take k).findIdx? (· != 0)=none) (fun k=>l.length-k) 0 ⟨zI _,by simp⟩ ?_ ?_
 ·refine yh [] [] [] ?_;simp only[yw,allQ,live,yc,zG,go_sem,zA,↓reduceIte,reduceCtorEq]
 ·intro k ⟨hk,hno⟩;simp only[ychw,ycnk,ycrl,ychi,ycum,ycub,yw,ybb,go_sem,zA,zB,↓reduceIte,reduceCtorEq];refine⟨fun hlt=>⟨by omega,(ybom _).use ?_⟩,fun hlt=>?_⟩
  ·have hlt:k<l.length:=by omega
   simp only[ybh,ybb,go_sem,zA,zB,↓reduceIte,reduceCtorEq];rw[getD_at hlt];refine⟨fun ha=>?_,fun ha=>⟨ikw (by omega) (by omega),?_⟩⟩
   ·have:l.findIdx? (· != 0)=some k:=by
     rw[List.findIdx?_eq_some_iff_getElem];refine⟨hlt,by simpa using ha,fun j hj=>?_⟩
     rw[zM]at hno;have:=hno l[j] (List.mem_take_iff_getElem.2 ⟨j,by omega,rfl⟩)
     simpa using this
    unfold yfk;rw[this]
   ·refine yj (k+1) ⟨by omega,?_⟩ (by omega) ?_
    ·rw[zF hlt,List.findIdx?_append,hno];simp[ha]
    ·refine yh [] [] [] ?_;simp only[allQ,live,yc,ybb,go_sem,zA,↓reduceIte,reduceCtorEq];simp
  ·obtain rfl:k=l.length:=by omega
   rw[List.take_length]at hno;unfold yfk;rw[hno]
end Sh
end
section
namespace Sh
open Go Ev
theorem ybgg{l:List Int}{k:Nat}(h:k<l.length):ypj (l.take (k+1))=min (ypj (l.take k)) (l.getD k 0):=by
 unfold ypj;rw[zF h,zS,getD_at h];rfl
theorem ywy{l:List Int}{k:Nat}(h:k<l.length):(l.take (k+1)).sum=(l.take k).sum+l.getD k 0:=by
 rw[zF h,List.sum_append,getD_at h];simp
theorem ybsa{l:List Int}(h:∀x∈l,InB x):∀k,k<=l.length -> -1073741824*(k:Int)<=(l.take k).sum/\(l.take k).sum<=1073741824*(k:Int)
 |0,_=>by simp
 | k+1,hk=>by
   have ih:=ybsa h k (by omega)
   rw[ywy (by omega)]
   have:=h l[k] (zQ (by omega))
   rw[<-getD_at (d:=0) (show k<l.length by omega)]at this
   unfold InB at this;omega
theorem ycdj(op:Int)(l:List Int)(hl:l.length<=24)(hb:∀x∈l,InB x):Returns Tryz.prog 257 [.i .i64 op,yw l] (.i .i64 (ygo op l)):=by
 refine Returns.of (yddq _ _ ?_);have hin:∀k,k<l.length->InB (l.getD k 0):=fun k hk=>by rw[getD_at hk];exact hb _ (zQ hk)
 obtain⟨L,hL⟩:∃L,yw l=L:=⟨_,rfl⟩;have hLs:L = .sl 1 l.length (fun k=>[.i .i64 (l.getD k 0)]):=hL.symm;simp only[c257,ycwo,ycoj,ycmq,ycmg,yclb,yckl,ycwe,ycqp,ycjo,ycmr,ybpj,ybyv,yboo,ybpw,ybxf,ybwg,ybwx,ybqn,ybrs,ybzj,ybuj,ybyb,ybvh,ybqa,ybwq,ybut,ybxd,ybxv,ybsd,ybvj,ybrj,ybqk,ybwd,ybzh,ybrr,ybqd,ybsw,yw,go_sem,Int.reduceToNat,zA,zB,↓reduceIte,reduceCtorEq];have hcount:=ybxk l (by omega)
 have htwo:=ysp l (by omega)
 simp only[yw]at hcount htwo;refine⟨fun h20=>hcount.use ?_,fun h20=>⟨fun h21=>hcount.use ?_,fun h21=>⟨fun h22=>hcount.use ?_,fun h22=>⟨fun h23=>?_,fun h23=>⟨fun h24=>?_,fun h24=>⟨fun h25=>htwo.use ?_,fun h25=>⟨fun h26=>?_,fun h26=>⟨fun h27=>?_,fun h27=>⟨fun h28=>htwo.use ?_,fun h28=>?_⟩⟩⟩⟩⟩⟩⟩⟩⟩
 ·simp only[ybh,go_sem,zA,zB,↓reduceIte,reduceCtorEq];refine(yee _).use ?_;simp only[ybb,go_sem];simp[ygo,h20]
 ·simp only[ybh,go_sem,zA,zB,↓reduceIte,reduceCtorEq];refine(yee _).use ?_;simp only[ybb,go_sem];simp[ygo,h21]
 ·simp only[ybh,ybb,go_sem,zA,zB,↓reduceIte,reduceCtorEq];simp[ygo,h22]
 ·have:=yyx l (by omega)
  simp only[yw]at this;refine this.use ?_;simp only[ybh,ybb,go_sem,zA,zB,↓reduceIte,reduceCtorEq];simp[ygo,h23]
 ·refine ybj (σ:=Nat) (fun k=>⟨[(42,.i .i64 k),(5,.i .i64 (ypj (l.take k))),(40,yw l),(41,.i .i64 l.length)],[]⟩) (fun k=>k<=l.length) (fun k=>l.length-k) 0 (zI _) ?_ ?_
  ·refine yh [] [] [] ?_;simp only[yw,allQ,live,yc,ybb,zG,go_sem,zA,↓reduceIte,reduceCtorEq];simp[ypj]
  ·intro k hk;simp only[yw,ybb,go_sem,zA,zB,↓reduceIte,reduceCtorEq];refine⟨fun hlt=>⟨by omega,ikw (by omega) (by omega),?_⟩,fun hlt=>?_⟩
   ·have hk':k<l.length:=by omega
    refine yj (k+1) (by omega) (by omega) ?_
    refine yh [] [] [] ?_;simp only[ybgg hk',allQ,live,yc,ybb,go_sem,zA,↓reduceIte,reduceCtorEq];simp
   ·rw[zH (by omega)]
    simp[ygo,h24]
 ·simp only[ybh,ybb,go_sem,zA,zB,↓reduceIte,reduceCtorEq];simp[ygo,h25]
 ·refine ybj (σ:=Nat) (fun k=>⟨[(63,.i .i64 k),(10,.i .i64 (l.take k).sum),(61,yw l),(62,.i .i64 l.length)],[]⟩) (fun k=>k<=l.length) (fun k=>l.length-k) 0 (zI _) ?_ ?_
  ·refine yh [] [] [] ?_;simp only[yw,allQ,live,yc,ybb,zG,go_sem,zA,↓reduceIte,reduceCtorEq];simp
  ·intro k hk;simp only[yw,go_sem,zA,zB,↓reduceIte,reduceCtorEq];have hs:=ybsa hb k hk;refine⟨fun hlt=>?_,fun hlt=>(ydz _).use ?_⟩
   ·have hk':k<l.length:=by omega
    have hs2:=ybsa hb (k+1) hk';rw[ywy hk']at hs2;refine⟨by omega,ikw (by omega) (by omega),ikw (by omega) (by omega),?_⟩
    refine yj (k+1) (by omega) (by omega) ?_
    refine yh [] [] [] ?_;simp only[ywy hk',allQ,live,yc,ybb,go_sem,zA,↓reduceIte,reduceCtorEq];simp
   ·simp only[ybh,ybb,go_sem,zA,zB,↓reduceIte,reduceCtorEq];rw[zH (by omega)]
    simp[ygo,h26]
 ·have:=ydfa l (by omega)
  simp only[yw]at this;refine this.use ?_;simp only[ybh,ybb,go_sem,zA,zB,↓reduceIte,reduceCtorEq];simp[ygo,h27]
 ·simp only[ybh,ybb,go_sem,zA,zB,↓reduceIte,reduceCtorEq];simp[ygo,h28]
 ·refine⟨fun h0=>?_,fun h0=>⟨by omega,?_⟩⟩
  ·simp only[ybb,go_sem];have:l=[]:=zK (by omega)
   simp[ygo,h20,h21,h22,h23,h24,h25,h26,h27,h28,this]
  ·cases l with
   |nil=>simp at h0
   | cons x l=>
     simp only[ybb,go_sem];simp[ygo,h20,h21,h22,h23,h24,h25,h26,h27,h28]
end Sh
end
section
def Ex.shp:Ex->Bool
 |.leaf op _=>decide (1<=op/\op<=17)
 |.un op a=>decide (18<=op/\op<=29)&&a.shp
 |.agg op a=>decide (18<=op/\op<=29)&&a.shp
 |.bin op a b=>decide (30<=op/\op<=42)&&a.shp&&b.shp
 |.ite x a b=>x.shp&&a.shp&&b.shp
theorem Ex.ok_shp{nv:Int}:∀(x:Ex) {bnd:Bool},x.ok nv bnd=true->x.shp=true
 | .leaf op arg,bnd,h=>by
   simp only[Ex.ok,zC]at h;exact h.1.1
 | .un op a,bnd,h=>by
   simp only[Ex.ok,zC,decide_eq_true_eq]at h;simp only[Ex.shp,zC,decide_eq_true_eq];exact⟨by omega,Ex.ok_shp a h.2⟩
 | .agg op a,bnd,h=>by
   simp only[Ex.ok,zC,decide_eq_true_eq]at h;simp only[Ex.shp,zC,decide_eq_true_eq];exact⟨by omega,Ex.ok_shp a h.2⟩
 | .bin op a b,bnd,h=>by
   simp only[Ex.ok,zC,decide_eq_true_eq]at h;simp only[Ex.shp,zC,decide_eq_true_eq];exact⟨⟨h.1.1,Ex.ok_shp a h.1.2⟩,Ex.ok_shp b h.2⟩
 | .ite x a b,bnd,h=>by
   simp only[Ex.ok,zC]at h;simp only[Ex.shp,zC];exact⟨⟨Ex.ok_shp x h.1.1,Ex.ok_shp a h.1.2⟩,Ex.ok_shp b h.2⟩
def ykn(op:Int):Int:=if op<1\/op>43 then -1 else if op<=17 then 0 else if op<=29 then 1 else if op<=42 then 2 else 3
def serL(ts:List Ex):List Tm:=(ts.map Ex.ser).flatten
def Ex.head:Ex->Tm
 |.leaf op arg=>(op,arg)
 |.un op _=>(op,0)
 |.agg op _=>(op,0)
 |.bin op _ _=>(op,0)
 |.ite _ _ _=>(43,0)
def Ex.subs:Ex->List Ex
 |.leaf _ _=>[]
 |.un _ a=>[a]
 |.agg _ a=>[a]
 |.bin _ a b=>[a,b]
 |.ite x a b=>[x,a,b]
theorem Ex.ser_eq(x:Ex):x.ser=x.head::serL x.subs:=by
 cases x<;>simp[Ex.ser,Ex.head,Ex.subs,serL]
theorem ycaq{op:Int}(h:1<=op/\op<=17):ykn op=0:=by
 unfold ykn;rw[if_neg (by omega),if_pos (by omega)]
theorem ybic{op:Int}(h:18<=op/\op<=29):ykn op=1:=by
 unfold ykn;rw[if_neg (by omega),if_neg (by omega),if_pos (by omega)]
theorem ycad{op:Int}(h:30<=op/\op<=42):ykn op=2:=by
 unfold ykn;rw[if_neg (by omega),if_neg (by omega),if_neg (by omega),if_pos (by omega)]
theorem Ex.arity(x:Ex)(h:x.shp=true):ykn x.head.1=x.subs.length:=by
 cases x with
 |leaf op arg=>simp only[Ex.shp,decide_eq_true_eq]at h;exact ycaq h
 |un op a=>simp only[Ex.shp,zC,decide_eq_true_eq]at h;exact ybic h.1
 |agg op a=>simp only[Ex.shp,zC,decide_eq_true_eq]at h;exact ybic h.1
 |bin op a b=>simp only[Ex.shp,zC,decide_eq_true_eq]at h;exact ycad h.1.1
 |ite x a b=>simp[Ex.head,Ex.subs,ykn]
theorem Ex.subs_shp(x:Ex)(h:x.shp=true):∀y∈x.subs,y.shp=true:=by
 cases x with
 |leaf op arg=>intro y hy;cases hy
 |un op a=>simp only[Ex.shp,zC]at h;intro y hy;simp[Ex.subs]at hy;subst hy;exact h.2
 |agg op a=>simp only[Ex.shp,zC]at h;intro y hy;simp[Ex.subs]at hy;subst hy;exact h.2
 |bin op a b=>simp only[Ex.shp,zC]at h;intro y hy;simp[Ex.subs]at hy;rcases hy with rfl|rfl<;>first|exact h.1.2|exact h.2
 |ite x a b=>simp only[Ex.shp,zC]at h;intro y hy;simp[Ex.subs]at hy;rcases hy with rfl|rfl|rfl<;>first|exact h.1.1|exact h.1.2|exact h.2
theorem yey{e:List Tm}{at_:Nat}{t:Tm}{r:List Tm}(h:e.drop at_=t::r):at_<e.length/\e.getD at_ (0,0)=t/\e.drop (at_+1)=r:=by
 have hlt:at_<e.length:=by
  refine zY fun hc=>?_;rw[List.drop_of_length_le (by omega)]at h;cases h
 refine⟨hlt,?_,?_⟩
 ·rw[zO hlt]at h;simp only[List.cons.injEq]at h;simp[zX,hlt,h.1]
 ·rw[zO hlt]at h;simp only[List.cons.injEq]at h;exact h.2
namespace Sh
open Go Ev
theorem ybvo(op:Int):Returns Tryz.prog 247 [.i .i64 op] (.i .i64 (ykn op)):=by
 refine Returns.of (ydei _ _ ?_);simp only[c247,ycqg,ycru,ycms,ycst,ycvb,ycqi,ycks,ycvs,ycoc,ycup,ybb,ykn,go_sem,zA,zB,↓reduceIte,reduceCtorEq];refine⟨fun h1=>⟨fun h=>by rw[if_pos (.inr h)],fun h2=>⟨fun h=>by rw[if_neg (by omega),if_pos h],fun h3=>⟨fun h=>by rw[if_neg (by omega),if_neg h3,if_pos h],fun h4=>⟨fun h=>by rw[if_neg (by omega),if_neg h3,if_neg h4,if_pos h],fun h5=>by rw[if_neg (by omega),if_neg h3,if_neg h4,if_neg h5]⟩⟩⟩⟩,fun h=>by rw[if_pos (.inl h)]⟩
theorem ydar(e:List Tm)(x:Ex)(at_:Nat)(rest:List Tm)(hx:x.shp=true)(he:e.drop at_=x.ser++rest)(hl:e.length<=1000):Returns Tryz.prog 231 [yba e,.i .i64 at_] (.i .i64 ((at_+x.ser.length:Nat):Int)):=by
 refine Returns.of (yddf _ _ ?_)
 have h0:at_<e.length:=by
  rw[x.ser_eq]at he;exact(yey he).1
 simp only[c231,yckb,ycuj,ycjy,ycoy,yba,ybb,go_sem,zA,zB,↓reduceIte,reduceCtorEq];refine⟨fun _=>⟨fun h=>by omega,fun _=>?_⟩,fun h=>by omega⟩
 refine ybj (σ:=Nat×List Ex) (fun p=>⟨[(1,.i .i64 p.1),(5,.i .i64 p.2.length),(0,yba e)],[]⟩)
  (fun p=>e.drop p.1=serL p.2++rest/\p.2≠[]/\(∀y∈p.2,y.shp=true)/\p.1+(serL p.2).length=at_+x.ser.length/\p.2.length<=3*p.1+1) (fun p=>e.length-p.1) (at_,[x]) ⟨by simpa[serL]using he,by simp,by simpa using hx,by simp[serL],by simp⟩ ?_ ?_
 ·refine yh [] [] [] ?_;simp only[yba,allQ,live,yc,ybb,go_sem,zA,↓reduceIte,reduceCtorEq];simp
 ·rintro⟨k,ts⟩ ⟨hk,hne,hsh,hlen,hb⟩;cases ts with
  |nil=>exact absurd rfl hne
  | cons y ts =>
    dsimp only at hk hlen hb ⊢
    have hser:serL (y::ts)=y.head::(serL y.subs++serL ts):=by
     show(y.ser++serL ts)=_;rw[y.ser_eq];rfl
    rw[hser]at hk hlen;obtain⟨d1,d2,d3⟩:=yey hk;have hy:=hsh y List.mem_cons_self;have har:=y.arity hy;have hsub:y.subs.length<=3:=by cases y<;>simp[Ex.subs]
    simp only[List.length_cons]at hb hlen;simp only[ycjt,ycvy,ycva,ycki,ycia,ycmp,ybts,ybtj,ybzd,yba,ybb,go_sem,zA,zB,zD,↓reduceIte,reduceCtorEq];refine⟨fun hlt=>⟨by omega,(ybvo _).use ?_⟩,fun hlt=>by omega⟩
    rw[d2,har];simp only[ybh,ybb,go_sem,zA,zB,↓reduceIte,reduceCtorEq];refine⟨fun h=>by omega,fun _=>⟨ikw (by omega) (by omega),ikw (by simp;omega) (by simp;omega),fun h=>⟨ikw (by omega) (by omega),?_⟩,fun h=>⟨ikw (by omega) (by omega),?_⟩⟩⟩
    ·have h1:ts=[]:=zK (by omega)
     have h2:y.subs=[]:=zK (by omega)
     subst h1;rw[h2]at hlen;simp[serL]at hlen;omega
    ·have hpos:y.subs++ts≠[]:=fun q=>by
      have q1:=congrArg zZ q;simp only[zL,List.length_nil]at q1;omega
     refine yj (k+1,y.subs++ts) ⟨?_,hpos,?_,?_,?_⟩ (by dsimp only;omega) ?_
     ·dsimp only
      rw[d3];simp[serL]
     ·intro z hz;rcases List.mem_append.1 hz with q|q
      ·exact y.subs_shp hy z q
      ·exact hsh z (List.mem_cons_of_mem _ q)
     ·dsimp only
      have:(serL (y.subs++ts)).length=(serL y.subs++serL ts).length:=by simp[serL]
      rw[this];omega
     ·dsimp only
      simp only[zL];omega
     ·refine yh [] [] [] ?_;simp only[allQ,live,yc,ybb,go_sem,zA,↓reduceIte,reduceCtorEq];simp;omega
end Sh
end
section
namespace Sh
open Go Ev
theorem yces(p:ProgR){g:Gr}(hg:ybe g)(op:Int){v:Nat}(hv:v<g.ports.length)(port:Int)(hp:op=6\/op=7\/op=8\/op=9\/op=10\/op=11\/(0<=port/\port<(g.ports.getD v []).length)) :
 Returns Tryz.prog 255 [.rf (yfq p g),.i .i64 op,.i .i64 v,.i .i64 port] (.i .i64 (ymd g op v port)):=by
 refine Returns.of (yddh _ _ ?_);have hlen:=hg.2.2.1;simp only[c255,yctb,ycjc,yche,ycnn,ycuz,ycxl,ycqn,ycjq,ycls,ycny,ybtt,ybqy,ybti,ybua,ybum,ybov,ybtu,ycac,ybym,ybrm,ybuu,ybpx,ybya,ybyy,ybwu,yfq,yw,yx,yba,ydr,ybb,go_sem,zA,zB,zD,zJ,↓reduceIte,reduceCtorEq];refine⟨fun h6=>?_,fun h6=>⟨fun h7=>?_,fun h7=>⟨fun h8=>⟨by omega,?_⟩,fun h8=>⟨fun h9=>⟨by omega,?_⟩,fun h9=>⟨fun h10=>(yee _).use ?_,fun h10=>⟨fun h11=>?_,fun h11=>?_⟩⟩⟩⟩⟩⟩
 ·simp[ymd,h6]
 ·simp[ymd,h7]
 ·simp[ymd,h8]
 ·simp[ymd,h9]
 ·simp only[ybh,ybb,go_sem,zA,zB,↓reduceIte,reduceCtorEq];simp[ymd,h10]
 ·simp[ymd,h11]
 ·have hp:0<=port/\port<(g.ports.getD v []).length:=by omega
  have hpn:port.toNat<(g.ports.getD v []).length:=by omega
  have hl:=hg.yck hv hpn;unfold yck at hl;refine⟨by omega,by omega,fun h13=>⟨by omega,?_⟩,fun h13=>⟨fun h14=>⟨by omega,?_⟩,fun h14=>⟨fun h15=>(yee _).use ?_,fun h15=>⟨fun h16=>?_,fun h16=>⟨by omega,?_⟩⟩⟩⟩⟩
  ·simp[ymd,h13,yck]
  ·simp[ymd,h14,yck]
  ·simp only[ybh,ybb,go_sem,zA,zB,↓reduceIte,reduceCtorEq];simp[ymd,h15,yck]
  ·simp[ymd,h16,yck]
  ·refine⟨by rw[show(yjm g v).length=(g.ports.getD v []).length from zU _];omega,?_⟩
   simp[ymd,h6,h7,h8,h9,h10,h11,h13,h14,h15,h16]
theorem ycbc(p:ProgR){g:Gr}(hg:ybe g){nv:Nat}{c:Conf}(hc:ConfIn g.ports.length nv c){v:Nat}(hv:v<g.ports.length)(e:List Tm){op arg:Int}{bnd:Bool}(ho:(Ex.leaf op arg).ok nv bnd=true)(port:Int)(hp:bnd=true->0<=port/\port<(g.ports.getD v []).length) :
 Returns Tryz.prog 236 [.rf (yip p g c v e),.ag [.i .i64 op,.i .i64 arg],.i .i64 port] (.i .i64 (ysw g c op arg v port)):=by
 refine Returns.of (ydel _ _ ?_);simp only[Ex.ok,zC,decide_eq_true_eq]at ho;obtain⟨⟨ho1,ho2⟩,ho3⟩:=ho;have hlen:=hc.len;have hrow:=hc.at_ hv;have hF:=yces p hg op hv port;simp only[yfq,yw,yx,yba,ydr]at hF;simp only[c236,ycsq,yckk,ycsn,ycha,ycin,ycoi,ychp,ycxa,ycvj,ycjf,ybqh,ybsc,ybtw,ybqj,ybul,yip,ybl,yfq,yw,yx,yba,ydr,ybb,go_sem,zA,zB,zD,zJ,↓reduceIte,reduceCtorEq];refine⟨fun h1=>?_,fun h1=>⟨fun h2=>?_,fun h2=>⟨fun h3=>?_,fun h3=>⟨fun h4=>?_,fun h4=>⟨fun h5=>?_,fun h5=>⟨fun h12=>?_,fun h12=>(hF ?_).use ?_⟩⟩⟩⟩⟩⟩
 ·simp[ysw,h1]
 ·simp[ysw,h2]
 ·simp[ysw,h3]
 ·simp[ysw,h4]
 ·rw[if_neg (by omega),if_pos (by omega)]at ho2
  have ho2:=of_decide_eq_true ho2;refine⟨by omega,by omega,?_⟩
  simp[ysw,h5]
 ·rw[if_neg (by omega),if_pos (by omega)]at ho2
  have ho2:=of_decide_eq_true ho2;rw[if_pos (by omega)]at ho3
  have hp:=hp ho3;have hpn:port.toNat<(g.ports.getD v []).length:=by omega
  have hl:=hg.yck hv hpn;have hr2:=hc.at_ (v:=(yck g v port.toNat).1.toNat) (by omega)
  unfold yck at hl hr2;refine⟨by omega,by omega,by omega,by omega,?_⟩
  simp[ysw,h12,yck]
 ·by_cases q:11<=op
  ·rw[if_pos q]at ho3;have:=hp ho3;omega
  ·omega
 ·simp only[ybh,ybb,go_sem,zA,zB,↓reduceIte,reduceCtorEq];simp[ysw,h1,h2,h3,h4,h5,h12]
theorem yrs{e:List Tm}{at_:Nat}{a b:List Tm}(h:e.drop at_=a++b):e.drop (at_+a.length)=b:=by
 rw[<-List.drop_drop,h,List.drop_left]
theorem yccz{n:Nat}{gg:Nat->List SV}{l:List Int}(hn:n=l.length)(h:∀k,k<n->gg k=[.i .i64 (l.getD k 0)]):Sim (.sl 1 n gg) (yw l):=by
 subst hn;exact yks h
def ybpy(p:ProgR)(g:Gr)(nv:Nat)(c:Conf)(v:Nat)(e:List Tm)(x:Ex):Prop :=
 ∀ (bnd:Bool) (port:Int) (at_:Nat) (rest:List Tm),x.ok nv bnd=true->(bnd=true->0<=port/\port<(g.ports.getD v []).length)->InB port->e.drop at_=x.ser++rest ->
   Returns Tryz.prog 220 [.rf (yip p g c v e),.i .i64 at_,.i .i64 port] (.tp [.i .i64 (yct g c v x port),.i .i64 ((at_+x.ser.length:Nat):Int)])
theorem yyh(p:ProgR){g:Gr}(hg:ybe g){nv:Nat}{c:Conf}(hc:ConfIn g.ports.length nv c){v:Nat}(hv:v<g.ports.length)(e:List Tm)(hl:e.length<=1000){op:Int}{a:Ex}(ho:(Ex.agg op a).ok nv true=true)(ih:ybpy p g nv c v e a)(at_:Nat)(rest:List Tm)(he:e.drop at_=(Ex.agg op a).ser++rest) :
 Returns Tryz.prog 238 [.rf (yip p g c v e),.i .i64 op,.i .i64 at_] (.tp [.i .i64 (yct g c v (.agg op a) 0),.i .i64 ((at_+(Ex.agg op a).ser.length:Nat):Int)]):=by
 have ho':=ho;simp only[Ex.ok,zC,decide_eq_true_eq]at ho;have hd:=hg.deg_lt (v:=v);obtain⟨deg,hdeg⟩:∃d,(g.ports.getD v []).length=d:=⟨_,rfl⟩;rw[hdeg]at hd;have hin:∀q:Nat,q<deg->InB (yct g c v a q):=fun q hq=>yhd hg rfl hc hv a ho.2 (fun _=>by omega) (by unfold InB;omega)
 have hsh:=Ex.ok_shp _ ho';have hdrop:e.drop (at_+1)=a.ser++rest:=(yey (show e.drop at_=(op,0)::(a.ser++rest)from he)).2.2
 have hat:=(yey (show e.drop at_=(op,0)::(a.ser++rest)from he)).1
 have hfit:at_+1+a.ser.length<=e.length:=by
  have:=congrArg zZ hdrop;simp at this;omega
 refine Returns.of (ydeq _ _ ?_);simp only[c238,ycnt,ycue,ycvt,ycmn,yip,ybl,yfq,yw,yx,yba,ydr,hdeg,go_sem,zA,zB,zD,zJ,↓reduceIte,reduceCtorEq];refine⟨by omega,?_⟩
 let val:Nat->Int:=fun q=>yct g c v a q
 refine ybj (σ:=Nat) (fun k=>⟨[(27,.i .i64 k),(26,.i .i64 deg),(9,.i .i64 deg),(0,.rf (yip p g c v e)),(1,.i .i64 op),(2,.i .i64 at_),(8,.pt (8,0) 0 0),(7,.i .i64 (if k=0 then 0 else((at_+1+a.ser.length:Nat):Int)))],
  [(8,.one (some ⟨256,true,1,24,fun i=>[.i .i64 (if i<k then val i else 0)]⟩))]⟩) (fun k=>k<=deg) (fun k=>deg-k) 0 (zI _) ?_ ?_
 ·refine yh [] [] [] ?_;simp only[yip,ybl,yfq,yw,yx,yba,ydr,allQ,live,yc,ybb,zG,go_sem,zA,↓reduceIte,reduceCtorEq];intro i _;rw[if_neg (by omega)]
 ·intro k hk;simp only[ycvk,ycht,ycml,ycnp,ycqe,ycjj,ybqe,go_sem,zA,zB,zD,↓reduceIte,reduceCtorEq];refine⟨fun hlt=>⟨ikw (by omega) (by omega),?_⟩,fun hlt=>?_⟩
  ·have hk':k<deg:=by omega
   have hv1:=ih true (k:Int) (at_+1) rest ho.2 (fun _=>by rw[hdeg];omega) (by unfold InB;omega) hdrop
   rw[show((at_+1:Nat):Int)=(at_:Int)+1 by omega]at hv1
   refine hv1.use ?_;simp only[ybh,splice,go_sem,zA,zB,↓reduceIte,reduceCtorEq];refine⟨by omega,by omega,ikw (by omega) (by omega),?_⟩
   refine yj (k+1) (by omega) (by omega) ?_
   refine yh [] [] [] ?_;simp only[allQ,live,yc,ybb,go_sem,zA,↓reduceIte,reduceCtorEq];refine⟨by omega,?_⟩
   intro i hi
   by_cases q:i=k
   ·rw[if_pos q,if_pos (by omega)]
    subst q;simp only[val,live,yc,go_sem,reduceCtorEq]
   ·rw[if_neg q]
    by_cases q2:i<k
    ·rw[if_pos q2,if_pos (by omega)]
     simp only[live,yc,go_sem,reduceCtorEq]
    ·rw[if_neg q2,if_neg (by omega)]
     simp only[live,yc,go_sem,reduceCtorEq]
  ·obtain rfl:k=deg:=by omega
   have hE:=ydar e _ at_ rest hsh he hl
   have hF:=ycdj op ((zN k).map val) (by simp;omega) (fun x hx=>by
    obtain⟨q,hq,rfl⟩:=List.mem_map.1 hx;exact hin q (List.mem_range.1 hq))
   have hres:yct g c v (.agg op a) 0=ygo op ((zN k).map val):=by
    show ygo op _=_;rw[hdeg]
   rw[hres];simp only[yip,yba,go_sem,zA,zB,↓reduceIte,reduceCtorEq];simp only[yba]at hE
   have hsim:SimL [.i .i64 op,.sl 1 (k-0) fun i=>[.i .i64 (if i<k then val i else 0)]] [.i .i64 op,yw ((zN k).map val)]:=by
    refine⟨Sim.refl _,yccz (by simp) fun i hi=>?_,trivial⟩
    rw[if_pos (by omega)]
    simp[zX,show i<k by omega]
   refine⟨fun h0=>hE.use ?_,fun h0=>?_⟩
   ·simp only[ybh,go_sem,zA,zB,zD,↓reduceIte,reduceCtorEq];refine⟨by simp;omega,.inl ⟨by omega,hF.useS hsim ?_⟩⟩
    simp only[go_sem];exact Sim.refl _
   ·refine⟨by simp;omega,.inl ⟨by omega,hF.useS hsim ?_⟩⟩
    simp only[ybh,if_neg (show ¬k=0 by omega),go_sem,zA,zB,↓reduceIte,reduceCtorEq]
    rw[show at_+(Ex.agg op a).ser.length=at_+1+a.ser.length by simp[Ex.ser];omega]
    exact Sim.refl _
end Sh
end
section
namespace Sh
open Go Ev
theorem ybnk(g:Gr)(v:Nat)(hv:v<g.ports.length)(u:Int)(hl:(g.ports.getD v []).length<=100000):Returns Tryz.prog 170 [grV g,.i .i64 v,.i .i64 u] (.i .i64 (yhm (g.ports.getD v []) u)):=by
 refine Returns.of (ydae _ _ ?_);simp only[c170,ycqq,ycrd,grV,yx,yba,yw,go_sem,zA,zB,zJ,↓reduceIte,reduceCtorEq];refine⟨by omega,?_⟩
 obtain⟨ls,hls⟩:∃ls,g.ports.getD v []=ls:=⟨_,rfl⟩;rw[hls]at hl ⊢;refine ybj (σ:=Nat) (fun k=>⟨[(15,.i .i64 k),(13,yba ls),(14,.i .i64 ls.length),(2,.i .i64 u)],[]⟩) (fun k=>k<=ls.length/\(ls.take k).findIdx? (fun l=>l.1==u)=none) (fun k=>ls.length-k) 0 ⟨zI _,by simp⟩ ?_ ?_
 ·refine yh [] [] [] ?_;simp only[yba,allQ,live,yc,zG,go_sem,zA,↓reduceIte,reduceCtorEq]
 ·intro k ⟨hk,hno⟩;simp only[ycqz,ycim,ycpv,ycle,ycic,yclr,yba,ybb,splice,go_sem,zA,zB,zD,zJ,↓reduceIte,reduceCtorEq];refine⟨fun hlt=>⟨by omega,fun he=>?_,fun he=>⟨ikw (by omega) (by omega),?_⟩⟩,fun hlt=>?_⟩
  ·have hlt:k<ls.length:=by omega
   rw[getD_at hlt]at he;rw[yuz ls u k hlt he hno]
  ·have hlt:k<ls.length:=by omega
   rw[getD_at hlt]at he;refine yj (k+1) ⟨by omega,ybac ls u k hlt he hno⟩ (by omega) ?_
   refine yh [] [] [] ?_;simp only[allQ,live,yc,ybb,go_sem,zA,↓reduceIte,reduceCtorEq];simp
  ·obtain rfl:k=ls.length:=by omega
   rw[ybge ls u hno]
theorem ybod{ids:List Int}{k:Nat}(h:k<ids.length):(ids.take (k+1)).foldl max 0=max ((ids.take k).foldl max 0) (ids.getD k 0):=by
 rw[yblj ids k h,getD_at h]
theorem ybcw(p:ProgR){g:Gr}(hg:ybe g):Returns Tryz.prog 143 [.ag (ynh p),grV g] (.rf (yfq p g)):=by
 refine Returns.of (yddv _ _ ?_);have h24:=hg.2.1;have hid:=hg.2.2.1;obtain⟨n,hn⟩:∃n,g.ports.length=n:=⟨_,rfl⟩;rw[hn]at h24 hid;simp only[c143,ycuf,ycpr,ycie,grV,yx,yba,yw,ynh,splice,hn,go_sem,zA,zB,zD,zJ,↓reduceIte,reduceCtorEq];refine⟨by omega,?_⟩
 refine ybj (σ:=Nat) (fun k=>⟨[(21,.i .i64 k),(19,yx g.ports),(20,.i .i64 n),(3,.pt (3,0) 0 0),(5,.pt (17,0) 0 0)],
  [(3,.one (some ⟨27,true,2,1,fun _=>[yw g.ids,yx g.ports]⟩)),(17,.one (some ⟨170,true,7,1,fun _=>[.a (.string p.name),ydh p.vars,yda p.rules,yw g.ids,yx g.ports,.i .i64 ((g.ids.take k).foldl max 0),.os (15,0) 0 n true]⟩)),
   (15,.one (some ⟨22,false,1,n,fun i=>[if i<k then yw (yjm g i)else .a (.slice none 0 0)]⟩))]⟩) (fun k=>k<=n) (fun k=>n-k) 0 (zI _) ?_ ?_
 ·refine yh [] [] [] ?_;simp only[yx,yba,yw,hn,allQ,live,yc,ybb,zG,go_sem,zA,↓reduceIte,reduceCtorEq];refine⟨fun i _=>by simp,fun i _=>?_⟩
  rw[if_neg (by omega)]
  simp only[yc,go_sem]
 ·intro k hk;simp only[ycob,ycri,ycgz,ycoe,yx,yba,yw,splice,hn,go_sem,zA,zB,zD,↓reduceIte,reduceCtorEq];refine⟨fun hlt=>⟨by omega,by omega,by decide,?_⟩,fun hlt=>?_⟩
  ·have hk':k<n:=by omega
   obtain⟨ls,hls⟩:∃ls,g.ports.getD k []=ls:=⟨_,rfl⟩;have hdeg:=hg.deg_lt (v:=k);rw[hls]at hdeg;rw[hls]
   have hback:∀j,j<ls.length->(yjm g k).getD j 0=yhm (g.ports.getD (ls.getD j (0,0)).1.toNat []) k:=fun j hj=>by
    unfold yjm;rw[hls];simp[zX,hj]
   have hbl:(yjm g k).length=ls.length:=by unfold yjm;rw[hls,zU]
   refine ybj (σ:=Nat) (fun j=>⟨[(41,.i .i64 j),(39,yba ls),(40,.i .i64 ls.length),(6,.i .i64 k),(21,.i .i64 k),(19,yx g.ports),(20,.i .i64 n),(3,.pt (3,0) 0 0),(5,.pt (17,0) 0 0)],
    [(3,.one (some ⟨27,true,2,1,fun _=>[yw g.ids,yx g.ports]⟩)),(17,.one (some ⟨170,true,7,1,fun _=>[.a (.string p.name),ydh p.vars,yda p.rules,yw g.ids,yx g.ports,.i .i64 ((g.ids.take (k+1)).foldl max 0),.os (15,0) 0 n true]⟩)),
     (15,.one (some ⟨22,false,1,n,fun i=>[if i<k then yw (yjm g i)else if i=k then .os (100,0) 0 j true else .a (.slice none 0 0)]⟩)),
     (100,.one (some ⟨3,false,1,j,fun q=>[.i .i64 ((yjm g k).getD q 0)]⟩))]⟩) (fun j=>j<=ls.length) (fun j=>ls.length-j) 0 (zI _) ?_ ?_
   ·refine yh [] [100] [] ?_;simp only[yx,yba,yw,hn,ybod (show k<g.ids.length by omega),allQ,live,yc,zG,go_sem,zA,Nat.reduceBEq,↓reduceIte,reduceCtorEq]
    intro i hi
    by_cases q1:i<k
    ·simp only[if_pos q1];simp only[yc,go_sem,reduceCtorEq]
    ·by_cases q2:i=k
     ·simp only[if_neg q1,if_pos q2];simp only[live,go_sem,zA,↓reduceIte];simp
     ·simp only[if_neg q1,if_neg q2];simp only[yc,go_sem,reduceCtorEq]
   ·intro j hj;simp only[ycir,ycxf,ycpo,ybzf,ybtd,yx,yba,yw,splice,hn,go_sem,zA,zB,zD,zJ,↓reduceIte,reduceCtorEq]
    have hP:=fun hlt:j<ls.length=>ybnk g (ls.getD j (0,0)).1.toNat (by
     have:=hg.yck (v:=k) (p:=j) (by omega) (by rw[hls];omega)
     unfold yck at this;rw[hls]at this;omega) (k:Int) (by have:=hg.deg_lt (v:=(ls.getD j (0,0)).1.toNat);omega)
    have hto:j<ls.length->((ls.getD j (0,0)).1.toNat:Int)=(ls.getD j (0,0)).1:=fun hlt=>by
     have:=hg.yck (v:=k) (p:=j) (by omega) (by rw[hls];omega)
     unfold yck at this;rw[hls]at this;omega
    refine⟨fun hlt=>⟨by omega,by omega,by omega,?_⟩,fun hlt=>?_⟩
    ·have hj':j<ls.length:=by omega
     have hP:=hP hj';rw[hto hj']at hP;simp only[grV,yx,yba,yw,hn]at hP;refine hP.use ?_;simp only[ybh,splice,go_sem,zA,zB,zD,zJ,↓reduceIte,reduceCtorEq];refine⟨by decide,by omega,by decide,by omega,by omega,by decide,ikw (by omega) (by omega),?_⟩
     refine yj (j+1) (by omega) (by omega) ?_
     refine yh [(100,fun _=>(63,0))] [] [] ?_;simp only[allQ,live,yc,ybb,go_sem,zA,↓reduceIte,reduceCtorEq];refine⟨by omega,fun i hi=>?_,fun i hi=>?_⟩
     ·by_cases q2:i=k
      ·simp only[if_pos q2,if_neg (show ¬i<k by omega)]
       simp only[live,yc,go_sem,zA,↓reduceIte,reduceCtorEq]
      ·simp only[if_neg q2]
       by_cases q1:i<k
       ·simp only[if_pos q1];simp only[live,yc,go_sem,reduceCtorEq]
       ·simp only[if_neg q1];simp only[live,yc,go_sem,reduceCtorEq]
     ·by_cases q2:i<j
      ·simp only[if_pos q2];simp only[live,yc,go_sem,reduceCtorEq]
      ·obtain rfl:i=j:=by omega
       simp only[if_neg q2,Nat.sub_self,Nat.zero_mul];simp only[live,ybb,go_sem,reduceCtorEq];rw[hback i hj']
    ·obtain rfl:j=ls.length:=by omega
     refine⟨ikw (by omega) (by omega),?_⟩
     refine yj (k+1) (by omega) (by omega) ?_
     refine yh [] [] [(100,0)] ?_;simp only[allQ,live,yc,ybb,go_sem,zA,zD,↓reduceIte,reduceCtorEq];refine⟨by omega,fun i hi=>?_⟩
     by_cases q1:i<k
     ·simp only[if_pos q1,if_pos (show i<k+1 by omega)]
      simp only[yc,go_sem]
     ·by_cases q2:i=k
      ·simp only[if_neg q1,if_pos q2,if_pos (show i<k+1 by omega)]
       subst q2;simp only[hbl,yc,go_sem,zA,↓reduceIte]
      ·simp only[if_neg q1,if_neg q2,if_neg (show ¬i<k+1 by omega)]
       simp only[yc,go_sem]
  ·obtain rfl:k=n:=by omega
   simp only[ybrp,go_sem,zA,zB,zD,↓reduceIte,reduceCtorEq];refine⟨fun q hq=>by simp only[if_pos hq];simp only[go_sem],?_⟩
   refine ydgu ?_ (by simp only[yfq,go_sem])
   simp only[SimL,yfq,yw,yx,yba,ydr,hn,yc,true_and,and_true];refine⟨?_,?_⟩
   ·rw[ybb];refine⟨rfl,?_⟩;unfold ybhn;rw[zH (by omega)]
   ·refine yiv fun q hq=>?_;simp only[if_pos hq];simp only[SimL,yc,go_sem]
end Sh
end
end Go.Proofs.YtiejahgklcjhkaaGreatDoor
