/- Lemmas, joined: ScSt SgE SgF SgG SgH SgI SgK. -/
import Derived.Test.YtiejahgklcjhkaaGreatDoorPkD11
import Derived.Test.YtiejahgklcjhkaaGreatDoorPkD12
set_option linter.unusedSimpArgs false
set_option linter.unusedVariables false
namespace Go.Proofs.YtiejahgklcjhkaaGreatDoor
namespace Sh
open Go Ev
def ytf:List Nat:=[0,1,1,2,1,2,2,3,1,2,2,3,2,3,3,4,1,2,2,3,2,3,3,4,2,3,3,4,3,4,4,5,1,2,2,3,2,3,3,4,2,3,3,4,3,4,4,5,2,3,3,4,3,4,4,5,3,4,4,5,4,5,5,6,1,2,2,3,2,3,3,4,2,3,3,4,3,4,4,5,2,3,3,4,3,4,4,5,3,4,4,5,4,5,5,6,2,3,3,4,3,4,4,5,3,4,4,5,4,5,5,6,3,4,4,5,4,5,5,6,4,5,5,6,5,6,6,7,1,2,2,3,2,3,3,4,2,3,3,4,3,4,4,5,2,3,3,4,3,4,4,5,3,4,4,5,4,5,5,6,2,3,3,4,3,4,4,5,3,4,4,5,4,5,5,6,3,4,4,5,4,5,5,6,4,5,5,6,5,6,6,7,2,3,3,4,3,4,4,5,3,4,4,5,4,5,5,6,3,4,4,5,4,5,5,6,4,5,5,6,5,6,6,7,3,4,4,5,4,5,5,6,4,5,5,6,5,6,6,7,4,5,5,6,5,6,6,7,5,6,6,7,6,7,7,8]
def ychn:LO:=[o3 (.box 87 (.tmp 0)) 3 0,o3 (.box 27 (.tmp 1)) 4 0,o3 (.mv (ci' 0)) 6 0,o3 (.mv (ci' 0)) 7 4]
def ycmf:LO:=[o3 (.build [.i .i64 0,.a (.nilFunc)] [(0,1,(ci' 1)),(1,1,(.func 198))]) 11 0,o3 (.build [.i .i64 0,.a (.nilFunc)] [(0,1,(ci' 2)),(1,1,(.func 199))]) 12 0,o3 (.build [.i .i64 0,.a (.nilFunc)] [(0,1,(ci' 3)),(1,1,(.func 200))]) 13 0,o3 (.bslice 209 2 3 [.i .i64 0,.a (.nilFunc),.i .i64 0,.a (.nilFunc),.i .i64 0,.a (.nilFunc)] [(0,2,(.tmp 11)),(2,2,(.tmp 12)),(4,2,(.tmp 13))]) 14 7,mv' 14 8 15]
def ycon:LO:=[mv' 8 15 0,ln' 15 16 1,o3 (.mv (ci' 0)) 17 0]
def ybhv:LO:=[bn' .lss 17 16 18 0]
def ybgg:LO:=[ix' 2 15 17 19 0,ld' true 2 19 20 1,o3 (.alloc 209 1 [.i .i64 0,.a (.nilFunc)]) 10 0,o0 (.store 2 (.tmp 10) (.tmp 20)) 7]
def ybhs:LO:=[fa' 0 1 10 21 0,ld' false 1 21 22 1,fa' 1 1 3 23 0,ld' false 1 23 24 4,bn' .eql 22 24 25 15]
def ybgb:LO:=[fa' 1 1 10 26 0,ld' false 1 26 27 1,ld' true 6 3 28 0,ld' true 2 4 29 0,mv' 2 30 0,o3 (.call (.tmp 27) [(.tmp 28),(.tmp 29),(.tmp 30)]) 31 31,xt' 31 0 32 63,xt' 31 1 33 63,mv' 32 6 255,mv' 33 7 511]
def ybhp:LO:=[o3 (.bin .add (.tmp 17) (ci' 1)) 34 0,mv' 34 17 1]
def ybhw:LO:=[o3 (.mv (ci' 0)) 6 0,o3 (.mv (.const (.int .i64 (-1)))) 7 1]
def c171:SC:=(.seq (.reg false ychn) (.seq (.reg false ycmf) (.seq (.seq (.reg false ycon) (.block 0 (.loop (.seq (.reg false ybhv) (.seq (.cond (.tmp 18) .skip (.exit 0)) (.seq (.block 1 (.seq (.reg false ybgg) (.seq (.reg false ybhs) (.cond (.tmp 25) (.seq (.reg false ybgb) .ret) .skip)))) (.reg false ybhp))))))) (.seq (.reg false ybhw) .ret))))
theorem ycsp:Fn 171 c171 [.t 6,.t 7]:=fn_0 Tryz.func171 (by kernel_rfl) (by kernel_rfl)
def ycbu:LO:=[o3 (.box 87 (.tmp 0)) 3 0,o3 (.box 27 (.tmp 1)) 4 0,o3 (.mv (ci' 0)) 6 0,o3 (.mv (ci' 0)) 7 4]
def ychi:LO:=[fa' 2 1 3 8 0,ld' false 1 8 9 1,fa' 3 1 3 10 0,ld' false 1 10 11 4,fa' 4 1 3 12 0,ld' false 1 12 13 16,fa' 0 1 4 14 0,ld' false 1 14 15 64,ln' 15 16 192,bn' .mul 13 16 17 496,bn' .add 11 17 18 1020,fa' 5 1 3 19 0,ld' false 1 19 20 2048,fa' 0 1 4 21 0,ld' false 1 21 22 8192,cl' 160 [22] 23 24576,bn' .mul 20 23 24 63488,bn' .add 18 24 25 131068,mv' 9 6 57347,mv' 25 7 524287]
def c198:SC:=(.seq (.reg false ycbu) (.seq (.reg true ychi) .ret))
theorem ycvr:Fn 198 c198 [.t 6,.t 7]:=fn_0 Tryz.func198 (by kernel_rfl) (by kernel_rfl)
def ycoy:LO:=[o3 (.box 87 (.tmp 0)) 3 0,o3 (.box 27 (.tmp 1)) 4 0,o3 (.mv (ci' 0)) 6 0,o3 (.mv (ci' 0)) 7 4]
def ycmg:LO:=[o3 (.mv (ci' 0)) 6 0,o3 (.mv (ci' 1)) 7 1]
def c199:SC:=(.seq (.reg false ycoy) (.seq (.reg false ycmg) .ret))
theorem ycuw:Fn 199 c199 [.t 6,.t 7]:=fn_0 Tryz.func199 (by kernel_rfl) (by kernel_rfl)
def ycdx:LO:=[o3 (.box 87 (.tmp 0)) 3 0,o3 (.box 27 (.tmp 1)) 4 0,o3 (.mv (ci' 0)) 6 0,o3 (.mv (ci' 0)) 7 4]
def ycpg:LO:=[fa' 1 1 4 8 0,ld' false 1 8 9 1,mv' 2 10 0,ix' 1 9 10 11 7,ld' false 1 11 12 15,ln' 12 13 31,o3 (.bin .sub (.tmp 13) (ci' 1)) 14 63,o3 (.mv (.const (.int .i64 (-1)))) 6 0,mv' 14 7 255]
def c200:SC:=(.seq (.reg false ycdx) (.seq (.reg true ycpg) .ret))
theorem ycrc:Fn 200 c200 [.t 6,.t 7]:=fn_0 Tryz.func200 (by kernel_rfl) (by kernel_rfl)
def ycfp:LO:=[o3 (.box 58 (.tmp 0)) 2 0,o3 (.box 27 (.tmp 1)) 3 0,o3 (.mv (.const (.slice none 0 0))) 4 0]
def ycdk:LO:=[fa' 0 1 3 9 0,ld' false 1 9 10 1,ln' 10 11 3,o3 (.mk 73 1 24 [.a (.slice none 0 0)] (.tmp 11) (.tmp 11)) 12 7,mv' 12 5 15]
def ycjj:LO:=[mv' 5 13 0,ln' 13 14 1,o3 (.mv (ci' 0)) 15 0]
def yckr:LO:=[bn' .lss 15 14 16 0]
def ycpb:LO:=[mv' 15 17 0,mv' 17 6 1]
def ycdm:LO:=[mv' 5 18 0,mv' 6 19 0,fa' 1 1 2 20 0,ld' false 1 20 21 4,ln' 21 22 12,o3 (.mk 75 2 16 [.i .i64 0,.i .i64 0] (.tmp 22) (.tmp 22)) 23 28,ix' 1 18 19 24 63,o0 (.store 1 (.tmp 24) (.tmp 23)) 127]
def yclb:LO:=[fa' 1 1 2 25 0,ld' false 1 25 26 1,ln' 26 27 3,o3 (.mv (ci' 0)) 28 0]
def ycfj:LO:=[bn' .lss 28 27 29 0]
def ycgz:LO:=[mv' 28 30 0,ix' 6 26 28 31 0,ld' true 6 31 32 2,o3 (.alloc 87 1 [.a (.string (ByteArray.mk #[])),.i .i64 0,.i .i64 0,.i .i64 0,.i .i64 0,.i .i64 0]) 8 0,mv' 30 7 15,o0 (.store 6 (.tmp 8) (.tmp 32)) 31]
def ycjr:LO:=[mv' 5 34 0,mv' 6 35 0,ix' 1 34 35 36 3,ld' false 1 36 37 7,mv' 7 38 0,mv' 5 39 0,mv' 6 40 0,ix' 1 39 40 41 96,ld' false 1 41 42 224,mv' 7 43 0,ld' true 6 8 44 0,ld' true 2 3 45 0,mv' 6 46 0,cl' 171 [44,45,46] 47 7168,mv' 47 33 15360,xt' 33 0 48 31744,xt' 33 1 49 31744,ix' 2 37 38 50 31,o3 (.idxA 2 1 (.tmp 50) (ci' 0)) 51 196095,o0 (.store 1 (.tmp 51) (.tmp 48)) 458239,ix' 2 42 43 52 992,o3 (.idxA 2 1 (.tmp 52) (ci' 1)) 53 2097151,o0 (.store 1 (.tmp 53) (.tmp 49)) 4194303]
def yboy:LO:=[o3 (.bin .add (.tmp 28) (ci' 1)) 54 0,mv' 54 28 1]
def ybvc:LO:=[o3 (.bin .add (.tmp 15) (ci' 1)) 55 0,mv' 55 15 1]
def ybny:LO:=[mv' 5 56 0,mv' 56 4 1]
def c144:SC:=(.seq (.reg false ycfp) (.seq (.reg false ycdk) (.seq (.seq (.reg false ycjj) (.block 0 (.loop (.seq (.reg false yckr) (.seq (.cond (.tmp 16) .skip (.exit 0)) (.seq (.block 1 (.seq (.reg false ycpb) (.seq (.reg false ycdm) (.seq (.reg false yclb) (.block 2 (.loop (.seq (.reg false ycfj) (.seq (.cond (.tmp 29) .skip (.exit 2)) (.seq (.block 3 (.seq (.reg false ycgz) (.reg true ycjr))) (.reg false yboy)))))))))) (.reg false ybvc))))))) (.seq (.reg false ybny) .ret))))
theorem ycwl:Fn 144 c144 [.t 4]:=fn_0 Tryz.func144 (by kernel_rfl) (by kernel_rfl)
def yckb:LO:=[o3 (.box 75 (.tmp 1)) 4 0,o3 (.mv (ci' 0)) 6 0]
def ycew:LO:=[mv' 2 8 0,o3 (.idxA 2 1 (.tmp 4) (ci' 0)) 9 0,ld' false 1 9 10 2,bn' .geq 8 10 11 7,mv' 11 12 15,⟨.mv (.tmp 2),some 13,some (12,true),31⟩,⟨.idxA 2 1 (.tmp 4) (ci' 1),some 14,some (12,true),31⟩,⟨.load false 1 (.tmp 14),some 15,some (12,true),95⟩,⟨.bin .leq (.tmp 13) (.tmp 15),some 16,some (12,true),255⟩,o3 (.pick (.tmp 12) (.tmp 16) (.const (.bool false))) 17 511,mv' 17 7 1023]
def yclt:LO:=[mv' 2 18 0,mv' 18 6 1]
def ycii:LO:=[mv' 0 20 0,o3 (.bin .eql (.tmp 20) (ci' 3)) 21 1,mv' 21 19 3]
def ycdc:LO:=[o3 (.mv (.const (.int .i64 (-1)))) 6 0]
def ycjk:LO:=[mv' 2 23 0,o3 (.idxA 2 1 (.tmp 4) (ci' 0)) 24 0,ld' false 1 24 25 2,bn' .lss 23 25 26 7,mv' 26 22 15]
def yckw:LO:=[o3 (.idxA 2 1 (.tmp 4) (ci' 0)) 27 0,ld' false 1 27 28 1,mv' 28 6 3]
def ycgo:LO:=[o3 (.idxA 2 1 (.tmp 4) (ci' 1)) 29 0,ld' false 1 29 30 1,mv' 30 6 3]
def c194:SC:=(.seq (.reg false yckb) (.seq (.block 0 (.seq (.reg false ycew) (.cond (.tmp 7) (.seq (.reg false yclt) .ret) (.seq (.reg false ycii) (.cond (.tmp 19) (.seq (.reg false ycdc) .ret) (.seq (.reg false ycjk) (.cond (.tmp 22) (.seq (.reg false yckw) .ret) .skip))))))) (.seq (.reg false ycgo) .ret)))
theorem ycrl:Fn 194 c194 [.t 6]:=fn_0 Tryz.func194 (by kernel_rfl) (by kernel_rfl)
def ycpx:LO:=[o3 (.box 58 (.tmp 0)) 2 0,o3 (.box 27 (.tmp 1)) 3 0,o3 (.mv (ci' 0)) 4 0]
def ycol:LO:=[ld' true 3 2 9 0,cl' 191 [9] 10 1,o3 (.un .not (.tmp 10)) 11 3]
def ycec:LO:=[o3 (.mv (ci' 8)) 4 0]
def ycov:LO:=[ld' true 2 3 12 0,cl' 96 [12] 13 1,o3 (.un .not (.tmp 13)) 14 3]
def ycib:LO:=[o3 (.mv (ci' 1)) 4 0]
def ycfx:LO:=[fa' 1 1 2 15 0,ld' false 1 15 16 1,ln' 16 17 3,o3 (.mv (ci' 0)) 18 0]
def ycno:LO:=[bn' .lss 18 17 19 0]
def ycei:LO:=[ix' 6 16 18 20 0,ld' true 6 20 21 1,o3 (.alloc 87 1 [.a (.string (ByteArray.mk #[])),.i .i64 0,.i .i64 0,.i .i64 0,.i .i64 0,.i .i64 0]) 6 0,o0 (.store 6 (.tmp 6) (.tmp 21)) 7]
def ycbs:LO:=[fa' 1 1 6 22 0,ld' false 1 22 23 1,o3 (.bin .neq (.tmp 23) (ci' 1)) 24 3]
def ycnp:LO:=[ld' true 6 6 26 0,ld' true 2 3 27 0,o3 (.call (.func 171) [(.tmp 26),(.tmp 27),(ci' 0)]) 28 3,mv' 28 25 7,xt' 25 0 29 15,xt' 25 1 30 15,mv' 29 7 31,mv' 30 8 127]
def ybvs:LO:=[mv' 8 31 0,mv' 7 32 0,bn' .lss 31 32 33 3,mv' 33 34 7,⟨.mv (.tmp 8),some 35,some (34,false),15⟩,⟨.mv (.tmp 7),some 36,some (34,false),15⟩,⟨.bin .sub (.tmp 35) (.tmp 36),some 37,some (34,false),63⟩,⟨.bin .add (.tmp 37) (ci' 1),some 38,some (34,false),127⟩,⟨.bin .gtr (.tmp 38) (ci' 4096),some 39,some (34,false),255⟩,o3 (.pick (.tmp 34) (.const (.bool true)) (.tmp 39)) 40 511]
def ybqw:LO:=[o3 (.mv (ci' 9)) 4 0]
def ybpn:LO:=[o3 (.bin .add (.tmp 18) (ci' 1)) 41 0,mv' 41 18 1]
def ybtm:LO:=[o3 (.mv (ci' 0)) 4 0]
def c155:SC:=(.seq (.reg false ycpx) (.seq (.seq (.reg false ycol) (.cond (.tmp 11) (.seq (.reg false ycec) .ret) .skip)) (.seq (.seq (.reg false ycov) (.cond (.tmp 14) (.seq (.reg false ycib) .ret) .skip)) (.seq (.seq (.reg false ycfx) (.block 0 (.loop (.seq (.reg false ycno) (.seq (.cond (.tmp 19) .skip (.exit 0)) (.seq (.block 1 (.seq (.reg false ycei) (.seq (.seq (.reg false ycbs) (.cond (.tmp 24) (.exit 1) .skip)) (.seq (.reg false ycnp) (.seq (.reg false ybvs) (.cond (.tmp 40) (.seq (.reg false ybqw) .ret) .skip)))))) (.reg false ybpn))))))) (.seq (.reg false ybtm) .ret)))))
theorem ycwh:Fn 155 c155 [.t 4]:=fn_0 Tryz.func155 (by kernel_rfl) (by kernel_rfl)
def ycht:LO:=[o3 (.box 58 (.tmp 0)) 3 0,o3 (.box 27 (.tmp 1)) 4 0,o3 (.mv (ci' 0)) 6 0]
def ycce:LO:=[ld' true 3 3 8 0,ld' true 2 4 9 0,cl' 155 [8,9] 10 3,mv' 10 7 7]
def ycch:LO:=[mv' 7 11 0,o3 (.bin .neq (.tmp 11) (ci' 0)) 12 1]
def ycit:LO:=[mv' 7 13 0,mv' 13 6 1]
def ycnz:LO:=[ld' true 3 3 14 0,ld' true 2 4 15 0,cl' 144 [14,15] 16 3,mv' 2 17 0,cl' 156 [16,17] 18 15,o3 (.un .not (.tmp 18)) 19 31]
def ycen:LO:=[o3 (.mv (ci' 10)) 6 0]
def ycbx:LO:=[o3 (.mv (ci' 0)) 6 0]
def c112:SC:=(.seq (.reg false ycht) (.seq (.seq (.reg false ycce) (.seq (.reg false ycch) (.cond (.tmp 12) (.seq (.reg false ycit) .ret) .skip))) (.seq (.seq (.reg false ycnz) (.cond (.tmp 19) (.seq (.reg false ycen) .ret) .skip)) (.seq (.reg false ycbx) .ret))))
theorem ycqo:Fn 112 c112 [.t 6]:=fn_0 Tryz.func112 (by kernel_rfl) (by kernel_rfl)
def ycgg:LO:=[o3 (.mv (.const (.bool false))) 4 0]
def ycdf:LO:=[mv' 1 7 0,ln' 7 8 1,mv' 0 9 0,ln' 9 10 4,bn' .neq 8 10 11 15]
def ycmk:LO:=[o3 (.mv (.const (.bool false))) 4 0]
def ycoi:LO:=[mv' 0 12 0,ln' 12 13 1,o3 (.mv (ci' 0)) 14 0]
def yccc:LO:=[bn' .lss 14 13 15 0]
def ycmy:LO:=[mv' 14 16 0,ix' 1 12 14 17 0,ld' false 1 17 18 2,mv' 16 5 7,mv' 18 6 15]
def ycif:LO:=[mv' 6 19 0,mv' 1 20 0,mv' 5 21 0,ix' 1 20 21 22 6,ld' false 1 22 23 14,cl' 192 [19,23] 24 31,o3 (.un .not (.tmp 24)) 25 63]
def yche:LO:=[o3 (.mv (.const (.bool false))) 4 0]
def ycmp:LO:=[o3 (.bin .add (.tmp 14) (ci' 1)) 26 0,mv' 26 14 1]
def ycev:LO:=[o3 (.mv (.const (.bool true))) 4 0]
def c156:SC:=(.seq (.reg false ycgg) (.seq (.seq (.reg false ycdf) (.cond (.tmp 11) (.seq (.reg false ycmk) .ret) .skip)) (.seq (.seq (.reg false ycoi) (.block 0 (.loop (.seq (.reg false yccc) (.seq (.cond (.tmp 15) .skip (.exit 0)) (.seq (.block 1 (.seq (.reg false ycmy) (.seq (.reg false ycif) (.cond (.tmp 25) (.seq (.reg false yche) .ret) .skip)))) (.reg false ycmp))))))) (.seq (.reg false ycev) .ret))))
theorem ycuq:Fn 156 c156 [.t 4]:=fn_0 Tryz.func156 (by kernel_rfl) (by kernel_rfl)
def yciq:LO:=[o3 (.mv (.const (.bool false))) 4 0]
def ycnd:LO:=[mv' 1 7 0,ln' 7 8 1,mv' 0 9 0,ln' 9 10 4,bn' .neq 8 10 11 15]
def ycqh:LO:=[o3 (.mv (.const (.bool false))) 4 0]
def ycmo:LO:=[mv' 1 12 0,ln' 12 13 1,o3 (.mv (ci' 0)) 14 0]
def ycco:LO:=[bn' .lss 14 13 15 0]
def ycjt:LO:=[mv' 14 16 0,ix' 1 12 14 17 0,ld' false 1 17 18 2,mv' 16 5 7,mv' 18 6 15]
def ychv:LO:=[mv' 6 19 0,mv' 0 20 0,mv' 5 21 0,ix' 2 20 21 22 6,o3 (.idxA 2 1 (.tmp 22) (ci' 0)) 23 14,ld' false 1 23 24 30,bn' .lss 19 24 25 63,mv' 25 26 127,⟨.mv (.tmp 6),some 27,some (26,false),255⟩,⟨.mv (.tmp 0),some 28,some (26,false),255⟩,⟨.mv (.tmp 5),some 29,some (26,false),255⟩,⟨.idx 2 (.tmp 28) (.tmp 29),some 30,some (26,false),1791⟩,⟨.idxA 2 1 (.tmp 30) (ci' 1),some 31,some (26,false),3839⟩,⟨.load false 1 (.tmp 31),some 32,some (26,false),7935⟩,⟨.bin .gtr (.tmp 27) (.tmp 32),some 33,some (26,false),16383⟩,o3 (.pick (.tmp 26) (.const (.bool true)) (.tmp 33)) 34 32767]
def ycgn:LO:=[o3 (.mv (.const (.bool false))) 4 0]
def yclv:LO:=[o3 (.bin .add (.tmp 14) (ci' 1)) 35 0,mv' 35 14 1]
def ycjb:LO:=[o3 (.mv (.const (.bool true))) 4 0]
def c192:SC:=(.seq (.reg false yciq) (.seq (.seq (.reg false ycnd) (.cond (.tmp 11) (.seq (.reg false ycqh) .ret) .skip)) (.seq (.seq (.reg false ycmo) (.block 0 (.loop (.seq (.reg false ycco) (.seq (.cond (.tmp 15) .skip (.exit 0)) (.seq (.block 1 (.seq (.reg false ycjt) (.seq (.reg false ychv) (.cond (.tmp 34) (.seq (.reg false ycgn) .ret) .skip)))) (.reg false yclv))))))) (.seq (.reg false ycjb) .ret))))
theorem ycuk:Fn 192 c192 [.t 4]:=fn_0 Tryz.func192 (by kernel_rfl) (by kernel_rfl)
def ybuh:LO:=[o3 (.mv (.const (.slice none 0 0))) 2 0]
def yboj:LO:=[mv' 0 6 0,ln' 6 7 1,o3 (.mk 22 1 24 [.a (.slice none 0 0)] (.tmp 7) (.tmp 7)) 8 3,mv' 8 3 7]
def ybuc:LO:=[mv' 0 9 0,ln' 9 10 1,o3 (.mv (ci' 0)) 11 0]
def yxw:LO:=[bn' .lss 11 10 12 0]
def ybam:LO:=[mv' 11 13 0,ix' 1 9 11 14 0,ld' false 1 14 15 2,mv' 13 4 7,mv' 15 5 15]
def yzg:LO:=[mv' 3 16 0,mv' 4 17 0,mv' 5 18 0,o3 (.app 3 1 8 (.const (.slice none 0 0)) (.tmp 18)) 19 4,ix' 1 16 17 20 15,o0 (.store 1 (.tmp 20) (.tmp 19)) 31]
def ybaz:LO:=[o3 (.bin .add (.tmp 11) (ci' 1)) 21 0,mv' 21 11 1]
def ybbg:LO:=[mv' 3 22 0,mv' 22 2 1]
def c132:SC:=(.seq (.reg false ybuh) (.seq (.reg false yboj) (.seq (.seq (.reg false ybuc) (.block 0 (.loop (.seq (.reg false yxw) (.seq (.cond (.tmp 12) .skip (.exit 0)) (.seq (.block 1 (.seq (.reg false ybam) (.reg false yzg))) (.reg false ybaz))))))) (.seq (.reg false ybbg) .ret))))
theorem ycvn:Fn 132 c132 [.t 2]:=fn_0 Tryz.func132 (by kernel_rfl) (by kernel_rfl)
theorem ycam:FnM 132 c132 [.t 2]:=fn_m Tryz.func132 (by kernel_rfl) (by kernel_rfl)
def ydck:LO:=[o3 (.box 58 (.tmp 0)) 2 0,o3 (.box 27 (.tmp 1)) 3 0,o3 (.mv (.const (.pointer none))) 4 0]
def ydch:LO:=[ld' true 3 2 5 0,ld' true 3 2 6 0,ld' true 2 3 7 0,cl' 143 [6,7] 8 6,ld' true 3 2 9 0,ld' true 2 3 10 0,cl' 144 [9,10] 11 62,o3 (.build [.a (.string (ByteArray.mk #[])),.a (.slice none 0 0),.a (.slice none 0 0),.a (.pointer none),.a (.slice none 0 0)] [(0,3,(.tmp 5)),(3,1,(.tmp 8)),(4,1,(.tmp 11))]) 12 127,o3 (.box 140 (.tmp 12)) 13 255,mv' 13 4 511]
def c93:SC:=(.seq (.reg false ydck) (.seq (.reg true ydch) .ret))
theorem yczu:Fn 93 c93 [.t 4]:=fn_0 Tryz.func93 (by kernel_rfl) (by kernel_rfl)
def ycmi:LO:=[o3 (.mv (ci' 0)) 6 0]
def ycny:LO:=[mv' 0 8 0,o3 (.nilck (.tmp 8)) 9 1,fa' 0 3 9 10 3,fa' 2 1 10 11 7,ld' false 1 11 12 15,ln' 12 13 31,o3 (.mv (ci' 0)) 14 0]
def ycpv:LO:=[bn' .lss 14 13 15 0]
def ycez:LO:=[mv' 14 16 0,mv' 16 7 1]
def ycps:LO:=[mv' 0 17 0,o3 (.nilck (.tmp 17)) 18 1,fa' 3 1 18 19 3,ld' false 1 19 20 7,mv' 1 21 0,mv' 2 22 0,mv' 7 23 0,cl' 172 [20,21,22,23] 24 127]
def yclq:LO:=[mv' 7 25 0,mv' 25 6 1]
def ycdo:LO:=[o3 (.bin .add (.tmp 14) (ci' 1)) 26 0,mv' 26 14 1]
def ycgv:LO:=[o3 (.mv (.const (.int .i64 (-1)))) 6 0]
def c147:SC:=(.seq (.reg false ycmi) (.seq (.seq (.reg false ycny) (.block 0 (.loop (.seq (.reg false ycpv) (.seq (.cond (.tmp 15) .skip (.exit 0)) (.seq (.block 1 (.seq (.reg false ycez) (.seq (.reg false ycps) (.cond (.tmp 24) (.seq (.reg false yclq) .ret) .skip)))) (.reg false ycdo))))))) (.seq (.reg false ycgv) .ret)))
theorem ycsh:Fn 147 c147 [.t 6]:=fn_0 Tryz.func147 (by kernel_rfl) (by kernel_rfl)
def ydeh:LO:=[o3 (.box 99 (.tmp 0)) 2 0,o3 (.box 34 (.tmp 1)) 3 0,o3 (.mv (.const (.int .u32 0))) 4 0]
def ydev:LO:=[ld' false 1 2 5 0,o3 (.nilck (.tmp 5)) 6 1,fa' 4 1 6 7 3,ld' false 1 7 8 7,ln' 8 9 15,o3 (.mkfn 146 [] [(.tmp 2),(.tmp 3)]) 10 0,cl' 145 [9,10] 11 63,mv' 11 4 127]
def c94:SC:=(.seq (.reg false ydeh) (.seq (.reg false ydev) .ret))
theorem ydcn:Fn 94 c94 [.t 4]:=fn_0 Tryz.func94 (by kernel_rfl) (by kernel_rfl)
def yckm:LO:=[o3 (.mv (.const (.bool false))) 4 0]
def ycpy:LO:=[ld' false 1 1 5 0,ld' false 1 2 6 0,mv' 0 7 0,cl' 147 [5,6,7] 8 7,o3 (.bin .geq (.tmp 8) (ci' 0)) 9 15,mv' 9 4 31]
def c146:SC:=(.seq (.reg false yckm) (.seq (.reg false ycpy) .ret))
theorem ycrz:Fn 146 c146 [.t 4]:=fn_0 Tryz.func146 (by kernel_rfl) (by kernel_rfl)
def ychz:LO:=[o3 (.mv (.const (.slice none 0 0))) 8 0]
def ycfu:LO:=[mv' 1 13 0,mv' 2 14 0,ix' 1 13 14 15 3,ld' false 1 15 16 7,o3 (.app 3 1 8 (.const (.slice none 0 0)) (.tmp 16)) 17 15,mv' 17 9 31]
def ycpw:LO:=[mv' 0 18 0,o3 (.nilck (.tmp 18)) 19 1,fa' 0 3 19 20 3,fa' 2 1 20 21 7,ld' false 1 21 22 15,mv' 3 23 0,ix' 3 22 23 24 63,fa' 2 1 24 25 127,ld' false 1 25 26 255,ln' 26 27 511,o3 (.mv (ci' 0)) 28 0]
def ychu:LO:=[bn' .lss 28 27 29 0]
def ycow:LO:=[ix' 2 26 28 30 0,ld' true 2 30 31 1,o3 (.alloc 200 1 [.i .i64 0,.a (.slice none 0 0)]) 11 0,o0 (.store 2 (.tmp 11) (.tmp 31)) 7]
def ycmz:LO:=[mv' 0 32 0,o3 (.nilck (.tmp 32)) 33 1,fa' 3 1 33 34 3,ld' false 1 34 35 7,mv' 1 36 0,mv' 2 37 0,fa' 1 1 11 38 0,ld' false 1 38 39 64,cl' 193 [35,36,37,39] 40 255,mv' 40 12 511]
def ycfk:LO:=[mv' 9 41 0,fa' 0 1 11 42 0,ld' false 1 42 43 2,mv' 0 44 0,o3 (.nilck (.tmp 44)) 45 8,fa' 0 3 45 46 24,fa' 1 1 46 47 56,ld' false 1 47 48 120,fa' 0 1 11 49 0,ld' false 1 49 50 256,ix' 6 48 50 51 1016,fa' 1 1 51 52 2040,ld' false 1 52 53 4088,mv' 0 54 0,o3 (.nilck (.tmp 54)) 55 8192,fa' 4 1 55 56 24576,ld' false 1 56 57 57344,mv' 2 58 0,ix' 1 57 58 59 253952,ld' false 1 59 60 516096,fa' 0 1 11 61 0,ld' false 1 61 62 1048576,ix' 2 60 62 63 4186112,ld' true 2 63 64 8380416,mv' 12 65 0,cl' 194 [53,64,65] 66 33554424,ix' 1 41 43 67 67108863,o0 (.store 1 (.tmp 67) (.tmp 66)) 134217727]
def ycmr:LO:=[o3 (.bin .add (.tmp 28) (ci' 1)) 68 0,mv' 68 28 1]
def yckt:LO:=[mv' 9 69 0,mv' 69 8 1]
def c157:SC:=(.seq (.reg false ychz) (.seq (.reg false ycfu) (.seq (.seq (.reg false ycpw) (.block 0 (.loop (.seq (.reg false ychu) (.seq (.cond (.tmp 29) .skip (.exit 0)) (.seq (.block 1 (.seq (.reg false ycow) (.seq (.reg true ycmz) (.reg true ycfk)))) (.reg false ycmr))))))) (.seq (.reg false yckt) .ret))))
theorem ycsz:Fn 157 c157 [.t 8]:=fn_0 Tryz.func157 (by kernel_rfl) (by kernel_rfl)
def ycpc:LO:=[o3 (.mv (.const (.slice none 0 0))) 6 0]
def ycfh:LO:=[mv' 1 9 0,cl' 132 [9] 10 1,mv' 10 7 3]
def yclg:LO:=[mv' 1 11 0,ln' 11 12 1,o3 (.mv (ci' 0)) 13 0]
def ycmw:LO:=[bn' .lss 13 12 14 0]
def ycda:LO:=[mv' 13 15 0,mv' 15 8 1]
def ycia:LO:=[mv' 2 16 0,mv' 8 17 0,bn' .shr 16 17 18 3,o3 (.bin .and (.tmp 18) (.const (.int .u32 1))) 19 7,o3 (.bin .eql (.tmp 19) (.const (.int .u32 1))) 20 15]
def yceo:LO:=[mv' 7 21 0,mv' 8 22 0,mv' 0 23 0,mv' 1 24 0,mv' 8 25 0,mv' 0 26 0,mv' 1 27 0,mv' 8 28 0,cl' 147 [26,27,28] 29 224,cl' 157 [23,24,25,29] 30 508,ix' 1 21 22 31 1023,o0 (.store 1 (.tmp 31) (.tmp 30)) 2047]
def ycos:LO:=[o3 (.bin .add (.tmp 13) (ci' 1)) 32 0,mv' 32 13 1]
def ycck:LO:=[mv' 7 33 0,mv' 33 6 1]
def c113:SC:=(.seq (.reg false ycpc) (.seq (.reg false ycfh) (.seq (.seq (.reg false yclg) (.block 0 (.loop (.seq (.reg false ycmw) (.seq (.cond (.tmp 14) .skip (.exit 0)) (.seq (.block 1 (.seq (.reg false ycda) (.seq (.reg false ycia) (.cond (.tmp 20) (.reg false yceo) .skip)))) (.reg false ycos))))))) (.seq (.reg false ycck) .ret))))
theorem ybye:FnU 113 c113 [.t 6]:=fn_u Tryz.func113 (by kernel_rfl) (by kernel_rfl)
def ycfe:LO:=[o3 (.mv (.const (.int .u32 0))) 4 0]
def ychb:LO:=[o3 (.mv (.const (.int .u32 0))) 5 0]
def ycfb:LO:=[mv' 0 7 0,o3 (.mv (ci' 0)) 8 0]
def yckv:LO:=[bn' .lss 8 7 9 0]
def ycdt:LO:=[mv' 8 10 0,mv' 10 6 1]
def ycnx:LO:=[mv' 1 11 0,mv' 6 12 0,o3 (.call (.tmp 11) [(.tmp 12)]) 13 3]
def ycft:LO:=[mv' 5 14 0,mv' 6 15 0,o3 (.bin .shl (.const (.int .u32 1)) (.tmp 15)) 16 2,bn' .or 14 16 17 7,mv' 17 5 15]
def ycjp:LO:=[o3 (.bin .add (.tmp 8) (ci' 1)) 18 0,mv' 18 8 1]
def ycgm:LO:=[mv' 5 19 0,mv' 19 4 1]
def c145:SC:=(.seq (.reg false ycfe) (.seq (.reg false ychb) (.seq (.seq (.reg false ycfb) (.block 0 (.loop (.seq (.reg false yckv) (.seq (.cond (.tmp 9) .skip (.exit 0)) (.seq (.block 1 (.seq (.reg false ycdt) (.seq (.reg false ycnx) (.cond (.tmp 13) (.reg false ycft) .skip)))) (.reg false ycjp))))))) (.seq (.reg false ycgm) .ret))))
theorem ycsb:Fn 145 c145 [.t 4]:=fn_0 Tryz.func145 (by kernel_rfl) (by kernel_rfl)
def ycnt:LO:=[o3 (.mv (.const (.bool false))) 2 0]
def ycfa:LO:=[mv' 0 5 0,ln' 5 6 1,o3 (.mv (ci' 0)) 7 0]
def ycfg:LO:=[bn' .lss 7 6 8 0]
def ycha:LO:=[ix' 1 5 7 9 0,ld' false 1 9 10 1,mv' 10 4 3]
def ycfr:LO:=[mv' 4 11 0,o3 (.bin .andNot (.tmp 11) (.const (.int .u32 16777215))) 12 1,o3 (.bin .neq (.tmp 12) (.const (.int .u32 0))) 13 3]
def ycfw:LO:=[o3 (.mv (.const (.bool false))) 2 0]
def ycle:LO:=[o3 (.bin .add (.tmp 7) (ci' 1)) 14 0,mv' 14 7 1]
def ycmj:LO:=[o3 (.mv (.const (.bool true))) 2 0]
def c223:SC:=(.seq (.reg false ycnt) (.seq (.seq (.reg false ycfa) (.block 0 (.loop (.seq (.reg false ycfg) (.seq (.cond (.tmp 8) .skip (.exit 0)) (.seq (.block 1 (.seq (.reg false ycha) (.seq (.reg false ycfr) (.cond (.tmp 13) (.seq (.reg false ycfw) .ret) .skip)))) (.reg false ycle))))))) (.seq (.reg false ycmj) .ret)))
theorem ycrt:Fn 223 c223 [.t 2]:=fn_0 Tryz.func223 (by kernel_rfl) (by kernel_rfl)
def c222_0:LO:=[o3 (.box 48 (.tmp 0)) 1 0,o3 (.mv (.const (.bool false))) 2 0]
def c222_1:LO:=[fa' 0 1 1 3 0,ld' false 1 3 4 1,o3 (.bin .lss (.tmp 4) (ci' 0)) 5 3,mv' 5 6 7,⟨.faddr 0 1 (.tmp 1),some 7,some (6,false),15⟩,⟨.load false 1 (.tmp 7),some 8,some (6,false),31⟩,⟨.bin .gtr (.tmp 8) (ci' 4096),some 9,some (6,false),63⟩,o3 (.pick (.tmp 6) (.const (.bool true)) (.tmp 9)) 10 127,mv' 10 11 255,⟨.faddr 2 1 (.tmp 1),some 12,some (11,false),511⟩,⟨.load false 1 (.tmp 12),some 13,some (11,false),1023⟩,⟨.bin .lss (.tmp 13) (ci' 0),some 14,some (11,false),2047⟩,o3 (.pick (.tmp 11) (.const (.bool true)) (.tmp 14)) 15 4095,mv' 15 16 8191,⟨.faddr 2 1 (.tmp 1),some 17,some (16,false),16383⟩,⟨.load false 1 (.tmp 17),some 18,some (16,false),32767⟩,⟨.faddr 3 1 (.tmp 1),some 19,some (16,false),16383⟩,⟨.load false 1 (.tmp 19),some 20,some (16,false),81919⟩,⟨.bin .gtr (.tmp 18) (.tmp 20),some 21,some (16,false),262143⟩,o3 (.pick (.tmp 16) (.const (.bool true)) (.tmp 21)) 22 524287,mv' 22 23 1048575,⟨.faddr 3 1 (.tmp 1),some 24,some (23,false),2097151⟩,⟨.load false 1 (.tmp 24),some 25,some (23,false),4194303⟩,⟨.faddr 0 1 (.tmp 1),some 26,some (23,false),2097151⟩,⟨.load false 1 (.tmp 26),some 27,some (23,false),10485759⟩,⟨.bin .gtr (.tmp 25) (.tmp 27),some 28,some (23,false),33554431⟩,o3 (.pick (.tmp 23) (.const (.bool true)) (.tmp 28)) 29 67108863]
def yczp:LO:=[o3 (.mv (.const (.bool false))) 2 0]
def c222_3:LO:=[fa' 3 1 1 30 0,ld' false 1 30 31 1,fa' 2 1 1 32 0,ld' false 1 32 33 4,o3 (.bin .add (.tmp 33) (ci' 1)) 34 12,bn' .gtr 31 34 35 31]
def ydef:LO:=[o3 (.mv (.const (.bool false))) 2 0]
def c222_5:LO:=[fa' 0 1 1 36 0,ld' false 1 36 37 1,fa' 1 1 1 38 0,ld' false 1 38 39 4,bn' .leq 37 39 40 15,mv' 40 41 31,⟨.faddr 1 1 (.tmp 1),some 42,some (41,true),63⟩,⟨.load false 1 (.tmp 42),some 43,some (41,true),127⟩,⟨.faddr 0 1 (.tmp 1),some 44,some (41,true),63⟩,⟨.load false 1 (.tmp 44),some 45,some (41,true),319⟩,⟨.bin .mul (ci' 24) (.tmp 45),some 46,some (41,true),831⟩,⟨.bin .leq (.tmp 43) (.tmp 46),some 47,some (41,true),2047⟩,o3 (.pick (.tmp 41) (.tmp 47) (.const (.bool false))) 48 4095,mv' 48 49 8191,⟨.faddr 4 1 (.tmp 1),some 50,some (49,true),16383⟩,⟨.load false 1 (.tmp 50),some 51,some (49,true),32767⟩,⟨.bslice 40 1 1 [.i .u32 0] [(0,1,(.tmp 51))],some 52,some (49,true),65535⟩,⟨.call (.func 223) [(.tmp 52)],some 53,some (49,true),131071⟩,o3 (.pick (.tmp 49) (.tmp 53) (.const (.bool false))) 54 262143,mv' 54 2 524287]
def c222:SC:=(.seq (.reg false c222_0) (.seq (.seq (.reg false c222_1) (.cond (.tmp 29) (.seq (.reg false yczp) .ret) .skip)) (.seq (.seq (.reg false c222_3) (.cond (.tmp 35) (.seq (.reg false ydef) .ret) .skip)) (.seq (.reg false c222_5) .ret))))
theorem c222_ok:Fn 222 c222 [.t 2]:=fn_0 Tryz.func222 (by kernel_rfl) (by kernel_rfl)
def yceg:LO:=[o3 (.alloc 48 1 [.i .i64 0,.i .i64 0,.i .i64 0,.i .i64 0,.i .u32 0]) 2 0]
def ycgx:LO:=[mv' 0 3 0,o3 (.bin .and (.tmp 3) (.const (.int .u32 16777215))) 4 1,o3 (.build [.i .i64 0,.i .i64 0,.i .i64 0,.i .i64 0,.i .u32 0] [(4,1,(.tmp 4))]) 5 3,o0 (.store 5 (.tmp 2) (.tmp 5)) 7]
def c195:SC:=(.seq (.reg false yceg) (.seq (.reg false ycgx) .ret))
theorem ycwf:Fn 195 c195 [.c 2 true 5]:=fn_0 Tryz.func195 (by kernel_rfl) (by kernel_rfl)
def ycko:LO:=[o3 (.box 48 (.tmp 0)) 3 0,o3 (.alloc 48 1 [.i .i64 0,.i .i64 0,.i .i64 0,.i .i64 0,.i .u32 0]) 6 0,o3 (.mv (ci' 0)) 7 0]
def ycdu:LO:=[ld' true 5 3 8 0,cl' 222 [8] 9 1,o3 (.un .not (.tmp 9)) 10 3]
def yczi:LO:=[o3 (.build [.i .i64 0,.i .i64 0,.i .i64 0,.i .i64 0,.i .u32 0] []) 11 0,o0 (.store 5 (.tmp 6) (.tmp 11)) 1,o3 (.mv (ci' 7)) 7 3]
def yclf:LO:=[mv' 1 12 0,o3 (.bin .eql (.tmp 12) (.const (.int .u32 0))) 13 1,mv' 13 14 3,⟨.mv (.tmp 1),some 15,some (14,false),7⟩,⟨.mv (.tmp 2),some 16,some (14,false),7⟩,⟨.bslice 40 1 2 [.i .u32 0,.i .u32 0] [(0,1,(.tmp 15)),(1,1,(.tmp 16))],some 17,some (14,false),31⟩,⟨.call (.func 223) [(.tmp 17)],some 18,some (14,false),63⟩,⟨.un .not (.tmp 18),some 19,some (14,false),127⟩,o3 (.pick (.tmp 14) (.const (.bool true)) (.tmp 19)) 20 255]
def yczn:LO:=[o3 (.build [.i .i64 0,.i .i64 0,.i .i64 0,.i .i64 0,.i .u32 0] []) 21 0,o0 (.store 5 (.tmp 6) (.tmp 21)) 1,o3 (.mv (ci' 11)) 7 3]
def yccv:LO:=[fa' 0 1 3 22 0,ld' false 1 22 23 1,o3 (.bin .eql (.tmp 23) (ci' 4096)) 24 3]
def ydbi:LO:=[o3 (.build [.i .i64 0,.i .i64 0,.i .i64 0,.i .i64 0,.i .u32 0] []) 25 0,o0 (.store 5 (.tmp 6) (.tmp 25)) 1,o3 (.mv (ci' 3)) 7 3]
def ycom:LO:=[fa' 0 1 3 26 0,ld' false 1 26 27 1,o3 (.bin .add (.tmp 27) (ci' 1)) 28 3,fa' 0 1 3 29 7,o0 (.store 1 (.tmp 29) (.tmp 28)) 15]
def yclk:LO:=[fa' 1 1 3 30 0,ld' false 1 30 31 1,mv' 1 32 0,cl' 104 [32] 33 4,bn' .add 31 33 34 15,fa' 1 1 3 35 31,o0 (.store 1 (.tmp 35) (.tmp 34)) 63]
def yclr:LO:=[fa' 2 1 3 36 0,ld' false 1 36 37 1,o3 (.bin .add (.tmp 37) (ci' 1)) 38 3,fa' 3 1 3 39 7,o0 (.store 1 (.tmp 39) (.tmp 38)) 15]
def ybqv:LO:=[fa' 4 1 3 40 0,ld' false 1 40 41 1,mv' 1 42 0,bn' .andNot 41 42 43 7,mv' 2 44 0,bn' .and 43 44 45 31,fa' 4 1 3 46 63,o0 (.store 1 (.tmp 46) (.tmp 45)) 127]
def ybqk:LO:=[fa' 4 1 3 47 0,ld' false 1 47 48 1,o3 (.bin .eql (.tmp 48) (.const (.int .u32 0))) 49 3]
def ybvd:LO:=[fa' 3 1 3 50 0,ld' false 1 50 51 1,fa' 2 1 3 52 3,o0 (.store 1 (.tmp 52) (.tmp 51)) 7]
def ybrh:LO:=[mv' 2 53 0,fa' 4 1 3 54 1,o0 (.store 1 (.tmp 54) (.tmp 53)) 3]
def ybdo:LO:=[ld' true 5 3 55 0,o0 (.store 5 (.tmp 6) (.tmp 55)) 1,o3 (.mv (ci' 0)) 7 3]
def c197:SC:=(.seq (.reg false ycko) (.seq (.seq (.reg false ycdu) (.cond (.tmp 10) (.seq (.reg false yczi) .ret) .skip)) (.seq (.seq (.reg false yclf) (.cond (.tmp 20) (.seq (.reg false yczn) .ret) .skip)) (.seq (.seq (.reg false yccv) (.cond (.tmp 24) (.seq (.reg false ydbi) .ret) .skip)) (.seq (.reg false ycom) (.seq (.reg true yclk) (.seq (.reg false yclr) (.seq (.reg false ybqv) (.seq (.seq (.reg false ybqk) (.cond (.tmp 49) (.seq (.reg false ybvd) (.reg false ybrh)) .skip)) (.seq (.reg false ybdo) .ret))))))))))
theorem ycrs:Fn 197 c197 [.c 6 true 5,.t 7]:=fn_0 Tryz.func197 (by kernel_rfl) (by kernel_rfl)
def ychy:LO:=[o3 (.mv (ci' 0)) 2 0]
def ycqi:LO:=[mv' 0 3 0,o3 (.bin .shr (.tmp 3) (.const (.int .u64 24))) 4 1,o3 (.stri ytf (.tmp 4)) 5 3,mv' 0 6 0,o3 (.bin .shr (.tmp 6) (.const (.int .u64 16))) 7 8,o3 (.bin .and (.tmp 7) (.const (.int .u32 255))) 8 24,o3 (.stri ytf (.tmp 8)) 9 56,bn' .add 5 9 10 127,mv' 0 11 0,o3 (.bin .shr (.tmp 11) (.const (.int .u64 8))) 12 256,o3 (.bin .and (.tmp 12) (.const (.int .u32 255))) 13 768,o3 (.stri ytf (.tmp 13)) 14 1792,bn' .add 10 14 15 4095,mv' 0 16 0,o3 (.bin .and (.tmp 16) (.const (.int .u32 255))) 17 8192,o3 (.stri ytf (.tmp 17)) 18 24576,bn' .add 15 18 19 65535,o3 (.conv .i64 (.tmp 19)) 20 131071,mv' 20 2 262143]
def c104:SC:=(.seq (.reg false ychy) (.seq (.reg true ycqi) .ret))
theorem ycwc:Fn 104 c104 [.t 2]:=fn_0 Tryz.func104 (by kernel_rfl) (by kernel_rfl)
def ycgp:LO:=[o3 (.box 27 (.tmp 0)) 1 0,o3 (.mv (.const (.slice none 0 0))) 2 0]
def ycdz:LO:=[fa' 1 1 1 8 0,ld' false 1 8 9 1,ln' 9 10 3,o3 (.mk 40 1 4 [.i .u32 0] (.tmp 10) (.tmp 10)) 11 7,mv' 11 3 15]
def ycmm:LO:=[fa' 1 1 1 12 0,ld' false 1 12 13 1,ln' 13 14 3,o3 (.mv (ci' 0)) 15 0]
def ycju:LO:=[bn' .lss 15 14 16 0]
def ycdy:LO:=[mv' 15 17 0,ix' 1 13 15 18 0,ld' false 1 18 19 2,mv' 17 4 7,mv' 19 5 15]
def ycnl:LO:=[mv' 5 20 0,ln' 20 21 1,o3 (.mv (ci' 0)) 22 0]
def ycnk:LO:=[bn' .lss 22 21 23 0]
def ycnq:LO:=[ix' 2 20 22 24 0,ld' true 2 24 25 1,o3 (.alloc 95 1 [.i .i64 0,.i .i64 0]) 7 0,o0 (.store 2 (.tmp 7) (.tmp 25)) 7]
def yciz:LO:=[mv' 3 26 0,mv' 4 27 0,ix' 1 26 27 28 3,ld' false 1 28 29 7,fa' 0 1 7 30 0,ld' false 1 30 31 16,o3 (.bin .shl (.const (.int .u32 1)) (.tmp 31)) 32 48,bn' .or 29 32 33 127,ix' 1 26 27 34 255,o0 (.store 1 (.tmp 34) (.tmp 33)) 511]
def ycoc:LO:=[o3 (.bin .add (.tmp 22) (ci' 1)) 35 0,mv' 35 22 1]
def ybmo:LO:=[o3 (.bin .add (.tmp 15) (ci' 1)) 36 0,mv' 36 15 1]
def ybsb:LO:=[mv' 3 37 0,mv' 37 2 1]
def c110:SC:=(.seq (.reg false ycgp) (.seq (.reg false ycdz) (.seq (.seq (.reg false ycmm) (.block 0 (.loop (.seq (.reg false ycju) (.seq (.cond (.tmp 16) .skip (.exit 0)) (.seq (.block 1 (.seq (.reg false ycdy) (.seq (.reg false ycnl) (.block 2 (.loop (.seq (.reg false ycnk) (.seq (.cond (.tmp 23) .skip (.exit 2)) (.seq (.block 3 (.seq (.reg false ycnq) (.reg true yciz))) (.reg false ycoc))))))))) (.reg false ybmo))))))) (.seq (.reg false ybsb) .ret))))
theorem ycrh:Fn 110 c110 [.t 2]:=fn_0 Tryz.func110 (by kernel_rfl) (by kernel_rfl)
def ybro:LO:=[o3 (.mv (.const (.bool false))) 8 0]
def ybwc:LO:=[mv' 3 9 0,o3 (.bin .eql (.tmp 9) (.const (.int .u32 0))) 10 1,mv' 10 11 3,⟨.mv (.tmp 3),some 12,some (11,false),7⟩,⟨.mv (.tmp 2),some 13,some (11,false),7⟩,⟨.bin .andNot (.tmp 12) (.tmp 13),some 14,some (11,false),31⟩,⟨.bin .neq (.tmp 14) (.const (.int .u32 0)),some 15,some (11,false),63⟩,o3 (.pick (.tmp 11) (.const (.bool true)) (.tmp 15)) 16 127]
def ycyr:LO:=[o3 (.mv (.const (.bool false))) 8 0]
def ybuu:LO:=[mv' 1 17 0]
def ybul:LO:=[o3 (.bin .eql (.tmp 17) (ci' 1)) 19 0,mv' 19 18 1]
def ydah:LO:=[mv' 3 20 0,mv' 3 21 0,o3 (.bin .sub (.tmp 21) (.const (.int .u32 1))) 22 2,bn' .and 20 22 23 7,o3 (.bin .eql (.tmp 23) (.const (.int .u32 0))) 24 15,mv' 24 8 31]
def ybvj:LO:=[o3 (.bin .eql (.tmp 17) (ci' 2)) 26 0,mv' 26 25 1]
def ydbx:LO:=[mv' 0 27 0,mv' 3 28 0,cl' 221 [27,28] 29 3,mv' 29 8 7]
def ybwa:LO:=[o3 (.bin .eql (.tmp 17) (ci' 4)) 31 0,mv' 31 30 1]
def ycgy:LO:=[mv' 3 32 0,mv' 2 33 0,bn' .eql 32 33 34 3,mv' 34 8 7]
def ybfm:LO:=[o3 (.mv (.const (.bool true))) 8 0]
def c196:SC:=(.seq (.reg false ybro) (.seq (.seq (.reg false ybwc) (.cond (.tmp 16) (.seq (.reg false ycyr) .ret) .skip)) (.seq (.seq (.reg false ybuu) (.block 0 (.seq (.reg false ybul) (.cond (.tmp 18) (.seq (.reg false ydah) .ret) (.seq (.reg false ybvj) (.cond (.tmp 25) (.seq (.reg false ydbx) .ret) (.seq (.reg false ybwa) (.cond (.tmp 30) (.seq (.reg false ycgy) .ret) .skip)))))))) (.seq (.reg false ybfm) .ret))))
theorem ybts:Fn 196 c196 [.t 8]:=fn_0 Tryz.func196 (by kernel_rfl) (by kernel_rfl)
def yzf:LO:=[o3 (.box 110 (.tmp 0)) 4 0,o3 (.mv (.const (.int .u32 0))) 8 0]
def ybbl:LO:=[mv' 3 11 0,mv' 2 12 0,bn' .and 11 12 13 3,mv' 13 3 7]
def yyd:LO:=[mv' 3 14 0,o3 (.bin .eql (.tmp 14) (.const (.int .u32 0))) 15 1]
def ybaa:LO:=[mv' 2 16 0,mv' 2 17 0,o3 (.un .neg (.tmp 17)) 18 2,bn' .and 16 18 19 7,mv' 19 3 15]
def yqp:LO:=[mv' 1 20 0]
def yrn:LO:=[o3 (.bin .eql (.tmp 20) (ci' 1)) 22 0,mv' 22 21 1]
def ydbu:LO:=[mv' 3 23 0,mv' 3 24 0,o3 (.un .neg (.tmp 24)) 25 2,bn' .and 23 25 26 7,mv' 26 8 15]
def ysj:LO:=[o3 (.bin .eql (.tmp 20) (ci' 2)) 28 0,mv' 28 27 1]
def ydfg:LO:=[o3 (.alloc 40 1 [.i .u32 0]) 9 0,o0 (.store 1 (.tmp 9) (.const (.int .u32 0))) 1]
def ydbm:LO:=[mv' 3 29 0,cl' 154 [29] 30 1]
def ycqu:LO:=[mv' 31 10 0]
def yctn:LO:=[ld' false 1 4 32 0,mv' 10 33 0,ix' 1 32 33 34 3,ld' false 1 34 35 7,ld' false 1 9 36 0,bn' .and 35 36 37 31,o3 (.bin .eql (.tmp 37) (.const (.int .u32 0))) 38 63]
def ycvp:LO:=[ld' false 1 9 39 0,mv' 10 40 0,o3 (.bin .shl (.const (.int .u32 1)) (.tmp 40)) 41 2,bn' .or 39 41 42 7,o0 (.store 1 (.tmp 9) (.tmp 42)) 15]
def ycvy:LO:=[ld' false 1 9 43 0,mv' 43 8 1]
def yju:LO:=[o3 (.bin .eql (.tmp 20) (ci' 4)) 45 0,mv' 45 44 1]
def yvr:LO:=[mv' 2 46 0,mv' 46 8 1]
def yvp:LO:=[mv' 3 47 0,mv' 47 8 1]
def c111:SC:=(.seq (.reg false yzf) (.seq (.reg false ybbl) (.seq (.seq (.reg false yyd) (.cond (.tmp 15) (.reg false ybaa) .skip)) (.seq (.seq (.reg false yqp) (.block 0 (.seq (.reg false yrn) (.cond (.tmp 21) (.seq (.reg false ydbu) .ret) (.seq (.reg false ysj) (.cond (.tmp 27) (.seq (.reg false ydfg) (.seq (.seq (.reg false ydbm) (.block 1 (.range (.tmp 30) [31] (.reg false ycqu) (.block 2 (.seq (.reg true yctn) (.cond (.tmp 38) (.reg true ycvp) .skip)))))) (.seq (.reg false ycvy) .ret))) (.seq (.reg false yju) (.cond (.tmp 44) (.seq (.reg false yvr) .ret) .skip)))))))) (.seq (.reg false yvp) .ret)))))
theorem yvn:Fn 111 c111 [.t 8]:=fn_0 Tryz.func111 (by kernel_rfl) (by kernel_rfl)
def ychp:LO:=[o3 (.mv (.const (.bool false))) 2 0]
def ycpu:LO:=[mv' 0 3 0,o3 (.bin .geq (.tmp 3) (ci' 1)) 4 1,mv' 4 5 3,⟨.mv (.tmp 0),some 6,some (5,true),7⟩,⟨.bin .leq (.tmp 6) (ci' 4),some 7,some (5,true),15⟩,o3 (.pick (.tmp 5) (.tmp 7) (.const (.bool false))) 8 31,mv' 8 2 63]
def c108:SC:=(.seq (.reg false ychp) (.seq (.reg false ycpu) .ret))
theorem ycsl:Fn 108 c108 [.t 2]:=fn_0 Tryz.func108 (by kernel_rfl) (by kernel_rfl)
def yceh:LO:=[o3 (.box 58 (.tmp 0)) 5 0,o3 (.box 27 (.tmp 1)) 6 0,o3 (.mv (ci' 0)) 10 0]
def ycor:LO:=[ld' true 3 5 12 0,ld' true 2 6 13 0,mv' 3 14 0,cl' 112 [12,13,14] 15 7,mv' 15 11 15]
def ycjq:LO:=[mv' 11 16 0,o3 (.bin .neq (.tmp 16) (ci' 0)) 17 1]
def ydew:LO:=[mv' 11 18 0,mv' 18 10 1]
def ycoq:LO:=[mv' 2 19 0,cl' 108 [19] 20 1,o3 (.un .not (.tmp 20)) 21 3]
def ydcd:LO:=[o3 (.mv (ci' 12)) 10 0]
def ycnm:LO:=[mv' 4 22 0,o3 (.bin .gtr (.tmp 22) (ci' 4096)) 23 1]
def ycyu:LO:=[o3 (.mv (ci' 3)) 10 0]
def ycla:LO:=[o3 (.mv (ci' 0)) 10 0]
def c129:SC:=(.seq (.reg false yceh) (.seq (.seq (.reg false ycor) (.seq (.reg false ycjq) (.cond (.tmp 17) (.seq (.reg false ydew) .ret) .skip))) (.seq (.seq (.reg false ycoq) (.cond (.tmp 21) (.seq (.reg false ydcd) .ret) .skip)) (.seq (.seq (.reg false ycnm) (.cond (.tmp 23) (.seq (.reg false ycyu) .ret) .skip)) (.seq (.reg false ycla) .ret)))))
theorem ycrv:Fn 129 c129 [.t 10]:=fn_0 Tryz.func129 (by kernel_rfl) (by kernel_rfl)
def yckd:LO:=[o3 (.box 58 (.tmp 0)) 4 0,o3 (.box 27 (.tmp 1)) 5 0,o3 (.alloc 126 1 [.a (.pointer none),.a (.slice none 0 0),.i .i64 0,.i .u32 0,.a (.nilFunc)]) 8 0]
def ycgh:LO:=[ld' true 3 4 9 0,ld' true 2 5 10 0,cl' 93 [9,10] 11 3,ld' true 2 5 12 0,cl' 110 [12] 13 15,mv' 2 14 0,ld' true 2 5 15 0,cl' 109 [15] 16 95,mv' 3 17 0,o3 (.build [.a (.pointer none),.a (.slice none 0 0),.i .i64 0,.i .u32 0,.a (.nilFunc)] [(0,1,(.tmp 11)),(1,1,(.tmp 13)),(2,1,(.tmp 14)),(3,1,(.tmp 16)),(4,1,(.tmp 17))]) 18 511,o0 (.store 5 (.tmp 8) (.tmp 18)) 1023]
def c130:SC:=(.seq (.reg false yckd) (.seq (.reg true ycgh) .ret))
theorem ycav:FnM 130 c130 [.c 8 true 5]:=fn_m Tryz.func130 (by kernel_rfl) (by kernel_rfl)
def yccl:LO:=[o3 (.box 126 (.tmp 0)) 4 0,o3 (.alloc 130 1 [.a (.slice none 0 0),.a (.slice none 0 0),.a (.slice none 0 0),.i .i64 0,.i .i64 0,.i .i64 0,.i .i64 0,.i .u32 0]) 8 0,o3 (.mv (ci' 0)) 9 0]
def ycbw:LO:=[o3 (.alloc 130 1 [.a (.slice none 0 0),.a (.slice none 0 0),.a (.slice none 0 0),.i .i64 0,.i .i64 0,.i .i64 0,.i .i64 0,.i .u32 0]) 10 0]
def ycdw:LO:=[mv' 1 16 0,cl' 132 [16] 17 1,mv' 17 1 3]
def yclz:LO:=[fa' 0 1 4 18 0,ld' false 1 18 19 1,mv' 1 20 0,cl' 94 [19,20] 21 7,fa' 3 1 4 22 0,ld' false 1 22 23 16,bn' .and 21 23 24 63,mv' 24 11 127]
def ycou:LO:=[mv' 11 25 0,cl' 195 [25] 26 1,o3 (.alloc 48 1 [.i .i64 0,.i .i64 0,.i .i64 0,.i .i64 0,.i .u32 0]) 12 0,o0 (.store 5 (.tmp 12) (.tmp 26)) 7]
def ycbt:LO:=[fa' 4 1 4 27 0,ld' false 1 27 28 1,mv' 1 29 0,mv' 11 30 0,ld' true 5 12 31 0,o3 (.call (.tmp 28) [(.tmp 29),(.tmp 30),(.tmp 31)]) 32 31]
def ycin:LO:=[fa' 1 1 10 33 0,ld' false 1 33 34 1,mv' 11 35 0,o3 (.bslice 40 1 1 [.i .u32 0] [(0,1,(.tmp 35))]) 36 4,o3 (.app 40 1 4 (.tmp 34) (.tmp 36)) 37 15,fa' 1 1 10 38 31,o0 (.store 1 (.tmp 38) (.tmp 37)) 63]
def ycgs:LO:=[mv' 2 39 0,o3 (.mv (ci' 0)) 40 0]
def ycox:LO:=[bn' .lss 40 39 41 0]
def ycnw:LO:=[mv' 40 42 0,mv' 42 13 1]
def ybuw:LO:=[mv' 3 44 0,mv' 13 45 0,mv' 11 46 0,o3 (.call (.tmp 44) [(.tmp 45),(.tmp 46)]) 47 7,mv' 47 43 15,xt' 43 0 48 31,xt' 43 1 49 31,mv' 48 14 63,mv' 49 15 255]
def ybcs:LO:=[mv' 15 50 0,o3 (.un .not (.tmp 50)) 51 1]
def ybsf:LO:=[fa' 1 1 4 52 0,ld' false 1 52 53 1,fa' 2 1 4 54 0,ld' false 1 54 55 4,mv' 11 56 0,mv' 14 57 0,cl' 196 [53,55,56,57] 58 63,o3 (.un .not (.tmp 58)) 59 127]
def ycxg:LO:=[o3 (.build [.a (.slice none 0 0),.a (.slice none 0 0),.a (.slice none 0 0),.i .i64 0,.i .i64 0,.i .i64 0,.i .i64 0,.i .u32 0] []) 60 0,o0 (.store 8 (.tmp 8) (.tmp 60)) 1,o3 (.mv (ci' 11)) 9 3]
def ybqz:LO:=[fa' 0 1 4 61 0,ld' false 1 61 62 1,mv' 1 63 0,mv' 14 64 0,cl' 113 [62,63,64] 65 15,mv' 65 1 31]
def ybmb:LO:=[fa' 0 1 4 66 0,ld' false 1 66 67 1,mv' 1 68 0,cl' 94 [67,68] 69 7,fa' 3 1 4 70 0,ld' false 1 70 71 16,bn' .and 69 71 72 63,mv' 72 11 127]
def ybvb:LO:=[ld' true 5 12 74 0,mv' 14 75 0,mv' 11 76 0,cl' 197 [74,75,76] 77 7,mv' 77 73 15,xt' 73 0 78 31,xt' 73 1 79 31,o0 (.store 5 (.tmp 12) (.tmp 78)) 63]
def ybqn:LO:=[fa' 4 1 4 80 0,ld' false 1 80 81 1,mv' 1 82 0,mv' 11 83 0,ld' true 5 12 84 0,o3 (.call (.tmp 81) [(.tmp 82),(.tmp 83),(.tmp 84)]) 85 31]
def ybna:LO:=[fa' 0 1 10 86 0,ld' false 1 86 87 1,mv' 14 88 0,o3 (.bslice 40 1 1 [.i .u32 0] [(0,1,(.tmp 88))]) 89 4,o3 (.app 40 1 4 (.tmp 87) (.tmp 89)) 90 15,fa' 0 1 10 91 31,o0 (.store 1 (.tmp 91) (.tmp 90)) 63]
def ybnj:LO:=[fa' 1 1 10 92 0,ld' false 1 92 93 1,mv' 11 94 0,o3 (.bslice 40 1 1 [.i .u32 0] [(0,1,(.tmp 94))]) 95 4,o3 (.app 40 1 4 (.tmp 93) (.tmp 95)) 96 15,fa' 1 1 10 97 31,o0 (.store 1 (.tmp 97) (.tmp 96)) 63]
def ybou:LO:=[o3 (.bin .add (.tmp 40) (ci' 1)) 98 0,mv' 98 40 1]
def ybee:LO:=[mv' 1 99 0,ld' true 5 12 100 0,fa' 2 1 10 101 1,o0 (.store 1 (.tmp 101) (.tmp 99)) 5,fa' 3 5 10 102 15,o0 (.store 5 (.tmp 102) (.tmp 100)) 31]
def ybfc:LO:=[ld' true 8 10 103 0,o0 (.store 8 (.tmp 8) (.tmp 103)) 1,o3 (.mv (ci' 0)) 9 3]
def c168:SC:=(.seq (.reg false yccl) (.seq (.reg false ycbw) (.seq (.reg false ycdw) (.seq (.reg true yclz) (.seq (.reg false ycou) (.seq (.reg false ycbt) (.seq (.reg false ycin) (.seq (.seq (.reg false ycgs) (.block 0 (.loop (.seq (.reg false ycox) (.seq (.cond (.tmp 41) .skip (.exit 0)) (.seq (.block 1 (.seq (.reg false ycnw) (.seq (.reg false ybuw) (.seq (.seq (.reg false ybcs) (.cond (.tmp 51) (.exit 0) .skip)) (.seq (.seq (.reg false ybsf) (.cond (.tmp 59) (.seq (.reg false ycxg) .ret) .skip)) (.seq (.reg false ybqz) (.seq (.reg true ybmb) (.seq (.reg false ybvb) (.seq (.reg false ybqn) (.seq (.reg false ybna) (.reg false ybnj))))))))))) (.reg false ybou))))))) (.seq (.reg true ybee) (.seq (.reg false ybfc) .ret))))))))))
theorem ybxz:FnM 168 c168 [.c 8 true 8,.t 9]:=fn_m Tryz.func168 (by kernel_rfl) (by kernel_rfl)
def ycoo:LO:=[o3 (.box 126 (.tmp 0)) 3 0,o3 (.box 38 (.tmp 2)) 5 0,o3 (.alloc 130 1 [.a (.slice none 0 0),.a (.slice none 0 0),.a (.slice none 0 0),.i .i64 0,.i .i64 0,.i .i64 0,.i .i64 0,.i .u32 0]) 6 0,o3 (.mv (ci' 0)) 7 0]
def ycja:LO:=[ld' true 5 3 8 0,mv' 1 9 0,ld' false 1 5 10 0,ln' 10 11 4,o3 (.mkfn 169 [] [(.tmp 3),(.tmp 5)]) 12 0,cl' 168 [8,9,11,12] 13 31,xt' 13 0 14 63,xt' 13 1 15 63,o0 (.store 8 (.tmp 6) (.tmp 14)) 255,mv' 15 7 511]
def c133:SC:=(.seq (.reg false ycoo) (.seq (.reg false ycja) .ret))
theorem ybze:FnM 133 c133 [.c 6 true 8,.t 7]:=fn_m Tryz.func133 (by kernel_rfl) (by kernel_rfl)
def yblx:LO:=[o3 (.mv (.const (.int .u32 0))) 6 0,o3 (.mv (.const (.bool false))) 7 1]
def ybqd:LO:=[fa' 1 1 2 8 0,ld' false 1 8 9 1,fa' 2 1 2 10 0,ld' false 1 10 11 4,mv' 1 12 0,ld' false 1 3 13 0,mv' 0 14 0,ix' 1 13 14 15 96,ld' false 1 15 16 224,cl' 111 [9,11,12,16] 17 511,mv' 1 18 0,o3 (.bin .neq (.tmp 18) (.const (.int .u32 0))) 19 1024,mv' 17 6 1023,mv' 19 7 8191]
def c169:SC:=(.seq (.reg false yblx) (.seq (.reg true ybqd) .ret))
theorem ybob:Fn 169 c169 [.t 6,.t 7]:=fn_0 Tryz.func169 (by kernel_rfl) (by kernel_rfl)
def ycyg:LO:=[o3 (.box 58 (.tmp 0)) 5 0,o3 (.box 27 (.tmp 1)) 6 0,o3 (.mv (.const (.slice none 0 0))) 10 0,o3 (.mv (.const (.slice none 0 0))) 11 4,o3 (.mv (ci' 0)) 12 12]
def yczc:LO:=[ld' true 3 5 19 0,ld' true 2 6 20 0,mv' 2 21 0,mv' 3 22 0,mv' 4 23 0,ln' 23 24 16,cl' 129 [19,20,21,22,24] 25 63,mv' 25 13 127]
def ydey:LO:=[mv' 13 26 0,o3 (.bin .neq (.tmp 26) (ci' 0)) 27 1]
def ydhl:LO:=[mv' 13 28 0,o3 (.mv (.const (.slice none 0 0))) 10 0,o3 (.mv (.const (.slice none 0 0))) 11 2,mv' 28 12 7]
def yddy:LO:=[o3 (.alloc 29 1 [.a (.slice none 0 0)]) 14 0]
def ydfk:LO:=[o3 (.alloc 30 1 [.a (.slice none 0 0)]) 15 0]
def ydas:LO:=[ld' true 3 5 29 0,ld' true 2 6 30 0,mv' 2 31 0,o3 (.mkfn 131 [] [(.tmp 14),(.tmp 15)]) 32 0,cl' 130 [29,30,31,32] 33 15,o3 (.alloc 126 1 [.a (.pointer none),.a (.slice none 0 0),.i .i64 0,.i .u32 0,.a (.nilFunc)]) 16 0,o0 (.store 5 (.tmp 16) (.tmp 33)) 63]
def ycyv:LO:=[ld' true 5 16 35 0,mv' 3 36 0,mv' 4 37 0,cl' 133 [35,36,37] 38 7,mv' 38 34 15,xt' 34 0 39 31,xt' 34 1 40 31,o3 (.alloc 130 1 [.a (.slice none 0 0),.a (.slice none 0 0),.a (.slice none 0 0),.i .i64 0,.i .i64 0,.i .i64 0,.i .i64 0,.i .u32 0]) 17 0,o0 (.store 8 (.tmp 17) (.tmp 39)) 191,mv' 40 18 511]
def ycxv:LO:=[mv' 18 41 0,o3 (.bin .neq (.tmp 41) (ci' 0)) 42 1]
def ydhj:LO:=[mv' 18 43 0,o3 (.mv (.const (.slice none 0 0))) 10 0,o3 (.mv (.const (.slice none 0 0))) 11 2,mv' 43 12 7]
def ycnr:LO:=[ld' false 1 14 44 0,ld' false 1 15 45 0,mv' 44 10 1,mv' 45 11 7,o3 (.mv (ci' 0)) 12 15]
def c78:SC:=(.seq (.reg false ycyg) (.seq (.seq (.reg false yczc) (.seq (.reg false ydey) (.cond (.tmp 27) (.seq (.reg false ydhl) .ret) .skip))) (.seq (.reg false yddy) (.seq (.reg false ydfk) (.seq (.reg false ydas) (.seq (.seq (.reg false ycyv) (.seq (.reg false ycxv) (.cond (.tmp 42) (.seq (.reg false ydhj) .ret) .skip))) (.seq (.reg true ycnr) .ret)))))))
theorem ycso:FnU 78 c78 [.t 10,.t 11,.t 12]:=fn_u Tryz.func78 (by kernel_rfl) (by kernel_rfl)
def ybps:LO:=[o3 (.box 48 (.tmp 2)) 7 0]
def ybqf:LO:=[ld' false 1 3 8 0,mv' 0 9 0,cl' 132 [9] 10 2,o3 (.bslice 34 1 1 [.a (.slice none 0 0)] [(0,1,(.tmp 10))]) 11 6,o3 (.app 34 1 24 (.tmp 8) (.tmp 11)) 12 15,o0 (.store 1 (.tmp 3) (.tmp 12)) 31]
def ybtj:LO:=[ld' false 1 4 13 0,ld' true 5 7 14 0,o3 (.bslice 48 5 1 [.i .i64 0,.i .i64 0,.i .i64 0,.i .i64 0,.i .u32 0] [(0,5,(.tmp 14))]) 15 2,o3 (.app 48 5 40 (.tmp 13) (.tmp 15)) 16 7,o0 (.store 1 (.tmp 4) (.tmp 16)) 15]
def c131:SC:=(.seq (.reg false ybps) (.seq (.reg true ybqf) (.reg false ybtj)))
theorem ybfx:FnM 131 c131 []:=fn_m Tryz.func131 (by kernel_rfl) (by kernel_rfl)
end Sh
end Go.Proofs.YtiejahgklcjhkaaGreatDoor

namespace Go.Proofs.YtiejahgklcjhkaaGreatDoor
namespace Sh
open Go Ev
theorem mulB{a b:Int}(ha:InB a)(hb:InB b):-1152921504606846976<=a * b/\a * b<=1152921504606846976:=by
 unfold InB at *
 have h:(a * b).natAbs<=1073741824 * 1073741824:=by
  rw[Int.natAbs_mul];exact Nat.mul_le_mul (by omega) (by omega)
 omega
set_option maxRecDepth 8000

theorem ydj(b:Bool):Returns Tryz.prog 256 [.b b] (.i .i64 (yen b)):=by
 refine Returns.of (ycwa _ _ ?_);simp only[c256,yciw,ycci,ycld,ycdg,yw,yen,go_sem,↓reduceIte,reduceCtorEq];cases b<;>simp
theorem ycw(a:Int):Returns Tryz.prog 258 [.i .i64 a] (.i .i64 (satP a)):=by
 refine Returns.of (ycvd _ _ ?_);simp only[c258,ycgk,yclj,yw,satP,go_sem,Nat.reduceEqDiff,Nat.reduceAdd,↓reduceIte,reduceCtorEq]
theorem ydan{a b:Int}(ha:InB a):-1073741824<=a.tdiv b/\a.tdiv b<=1073741824:=by
 have h1:(a.tdiv b).natAbs=a.natAbs / b.natAbs:=Int.natAbs_tdiv a b;have h2:a.natAbs / b.natAbs<=a.natAbs:=Nat.div_le_self _ _;rw[<- h1]at h2;unfold InB at ha;omega
theorem ycaw{a b:Int}(ha:InB a):-1073741825<=yss a b/\yss a b<=1073741824:=by
 have:=ydan (b:=b) ha;unfold yss;split
 ·omega
 ·split<;>omega
theorem ybrk{a b:Int}(ha:InB a)(hb:InB b):-1152921505680588800<=b * yss a b/\b * yss a b<=1152921505680588800:=by
 have h1:=ycaw (b:=b) ha
 have h:(b * yss a b).natAbs<=1073741824 * 1073741825:=by
  unfold InB at *;rw[Int.natAbs_mul];exact Nat.mul_le_mul (by omega) (by omega)
 omega
theorem ybmq(op a:Int)(ha:InB a):Returns Tryz.prog 237 [.i .i64 op,.i .i64 a] (.i .i64 (unP op a)):=by
 refine Returns.of (ycsu _ _ ?_);simp only[c237,ycjn,ycok,yccr,ychr,yw,unP,IntKind.signed,go_sem,Nat.reduceEqDiff,Nat.reduceAdd,↓reduceIte,reduceCtorEq];unfold InB at ha;refine⟨fun h=>⟨ikw (by omega) (by omega),by rw[if_pos h];omega⟩,fun h=>(ydj _).use ?_⟩
 simp only[thenO,yw,go_sem,Nat.reduceEqDiff,Nat.reduceAdd,↓reduceIte,reduceCtorEq];rw[if_neg h]
theorem yob(a b:Int)(ha:InB a):Returns Tryz.prog 259 [.i .i64 a,.i .i64 b] (.i .i64 (yss a b)):=by
 refine Returns.of (ycrr _ _ ?_);simp only[c259,ycej,ycjf,yciv,ycdb,yced,ycfc,yccb,yw,yss,go_sem,Nat.reduceEqDiff,Nat.reduceAdd,↓reduceIte,reduceCtorEq];have:=ydan (b:=b) ha;refine⟨fun h=>by rw[if_pos h],fun h=>⟨⟨h,ikw (by omega) (by omega)⟩,h,fun h1=>⟨fun h2=>⟨ikw (by omega) (by omega),?_⟩,fun h2=>?_⟩,fun h1=>?_⟩⟩
 ·rw[if_neg h,if_pos ⟨h1,h2⟩]
 ·rw[if_neg h,if_neg (fun q=>q.2 h2)]
 ·rw[if_neg h,if_neg (fun q=>q.1 h1)]
theorem ybaw(op a b:Int):Returns Tryz.prog 260 [.i .i64 op,.i .i64 a,.i .i64 b] (.b (cmpP op a b)):=by
 refine Returns.of (ycws _ _ ?_);simp only[c260,ycmb,ycmc,yccx,ycnh,ycpj,ycey,ycpz,ychs,ycig,yccn,ybtn,ybtg,ybpd,sim_b,cmpP,go_sem,Nat.reduceEqDiff,Nat.reduceAdd,↓reduceIte,reduceCtorEq];refine⟨fun h=>by rw[if_pos h],fun h35=>⟨fun h=>by rw[if_neg h35,if_pos h],fun h36=>⟨fun h=>by rw[if_neg h35,if_neg h36,if_pos h],fun h37=>⟨fun h=>by rw[if_neg h35,if_neg h36,if_neg h37,if_pos h],fun h38=>⟨fun h=>by rw[if_neg h35,if_neg h36,if_neg h37,if_neg h38,if_pos h],fun h39=>by rw[if_neg h35,if_neg h36,if_neg h37,if_neg h38,if_neg h39]⟩⟩⟩⟩⟩
theorem ybll(op a b:Int)(ha:InB a)(hb:InB b):Returns Tryz.prog 239 [.i .i64 op,.i .i64 a,.i .i64 b] (.i .i64 (binP op a b)):=by
 refine Returns.of (ycsk _ _ ?_);simp only[c239,ycoa,ycph,yckf,yccj,ycqe,ycmv,ycil,ycjh,ycgw,ycly,ybsx,ybpm,ybtb,ybni,yblz,ybqo,yboi,ybtw,ybmx,yw,go_sem,Nat.reduceEqDiff,Nat.reduceAdd,↓reduceIte,reduceCtorEq];have hm:=mulB ha hb;have hq:=ybrk ha hb;have hA:=ha;have hB:=hb;unfold InB at hA hB;refine⟨fun h=>⟨ikw (by omega) (by omega),(ycw _).use ?_⟩,fun h30=>⟨fun h=>(yob a b ha).use ?_,fun h31=>⟨fun h=>⟨fun h0=>?_,fun h0=>(yob a b ha).use ?_⟩,fun h32=>⟨fun h=>⟨ikw (by omega) (by omega),(ycw _).use ?_⟩,fun h33=>⟨fun h=>⟨ikw (by omega) (by omega),(ycw _).use ?_⟩,fun h34=>?_⟩⟩⟩⟩⟩
 ·simp only[thenO,yw,go_sem,Nat.reduceEqDiff,Nat.reduceAdd,↓reduceIte,reduceCtorEq];simp[binP,h]
 ·simp only[thenO,go_sem,Nat.reduceEqDiff,Nat.reduceAdd,↓reduceIte,reduceCtorEq];refine(ycw _).use ?_;simp only[yw,go_sem];simp[binP,h]
 ·simp[binP,h,h0]
 ·simp only[thenO,go_sem,Nat.reduceEqDiff,Nat.reduceAdd,↓reduceIte,reduceCtorEq];refine⟨ikw (by omega) (by omega),ikw (by omega) (by omega),(ycw _).use ?_⟩
  simp only[yw,go_sem];simp[binP,h,h0]
 ·simp only[thenO,yw,go_sem,Nat.reduceEqDiff,Nat.reduceAdd,↓reduceIte,reduceCtorEq];simp[binP,h]
 ·simp only[thenO,yw,go_sem,Nat.reduceEqDiff,Nat.reduceAdd,↓reduceIte,reduceCtorEq];simp[binP,h]
 ·refine⟨fun h=>?_,fun h41=>⟨fun h=>?_,fun h42=>?_⟩⟩
  ·refine⟨fun h1=>(ydj _).use ?_,fun h1=>(ydj _).use ?_⟩
   ·simp only[thenO,yw,go_sem,Nat.reduceEqDiff,Nat.reduceAdd,↓reduceIte,reduceCtorEq];simp[binP,h];rw[show(a != 0)=true by simpa using h1];simp
   ·simp only[thenO,yw,go_sem,Nat.reduceEqDiff,Nat.reduceAdd,↓reduceIte,reduceCtorEq];simp[binP,h,h1]
  ·refine⟨fun h1=>(ydj _).use ?_,fun h1=>(ydj _).use ?_⟩
   ·simp only[thenO,yw,go_sem,Nat.reduceEqDiff,Nat.reduceAdd,↓reduceIte,reduceCtorEq];simp[binP,h,h1]
   ·simp only[thenO,yw,go_sem,Nat.reduceEqDiff,Nat.reduceAdd,↓reduceIte,reduceCtorEq];simp[binP,h];rw[show(a != 0)=true by simpa using h1];simp
  ·refine(ybaw op a b).use ?_;simp only[thenO,go_sem,Nat.reduceEqDiff,Nat.reduceAdd,↓reduceIte,reduceCtorEq];refine(ydj _).use ?_;simp only[yw,go_sem];simp[binP,h30,h31,h32,h33,h34,h41,h42]
end Sh
end Go.Proofs.YtiejahgklcjhkaaGreatDoor

namespace Go.Proofs.YtiejahgklcjhkaaGreatDoor
namespace Sh
open Go Ev
set_option maxRecDepth 8000

theorem yrv{l:List Int}{k:Nat}(h:k<l.length):countP (l.take (k+1))=countP (l.take k)+(if l.getD k 0 ≠ 0 then 1 else 0):=by
 unfold countP;rw[List.take_succ_eq_append_getElem h,List.filter_append,List.length_append,getD_at h]
 by_cases q:l[k]=0
 ·simp[q]
 ·simp[q]
theorem ybfk{l:List Int}(k:Nat):0<=countP (l.take k)/\countP (l.take k)<=k:=by
 have:=countP_le (l.take k);simp only[List.length_take]at this;omega
theorem ybum(l:List Int)(hl:l.length<=1000):Returns Tryz.prog 266 [yj l] (.i .i64 (countP l)):=by
 refine Returns.of (ycra _ _ ?_);simp only[c266,yccd,ychc,ycim,yj,go_sem,Nat.reduceAdd,↓reduceIte,reduceCtorEq];refine ybe (σ:=Nat) (fun k=>⟨[(8,.i .i64 k),(3,.i .i64 (countP (l.take k))),(6,yj l),(7,.i .i64 l.length)],[]⟩) (fun k=>k<=l.length) (fun k=>l.length - k) 0 (Nat.zero_le _) ?_ ?_
 ·refine yg [] [] [] ?_;simp only[yj,allQ,live,yc,yw,Int.natCast_zero,go_sem,Nat.reduceEqDiff,↓reduceIte,reduceCtorEq];simp[countP]
 ·intro k hk;simp only[ychh,ycki,ycgb,ycic,ycoh,ycdv,yj,yw,go_sem,Nat.reduceEqDiff,Nat.reduceAdd,↓reduceIte,reduceCtorEq];have hb:=ybfk (l:=l) k;refine⟨fun hlt=>⟨by omega,fun h0=>⟨ikw (by omega) (by omega),ikw (by omega) (by omega),?_⟩,fun h0=>⟨ikw (by omega) (by omega),?_⟩⟩,fun hlt=>?_⟩
  ·have hk':k<l.length:=by omega
   refine yh (k+1) (by omega) (by omega) ?_
   refine yg [] [] [] ?_;simp only[yrv hk',if_pos h0,allQ,live,yc,yw,go_sem,Nat.reduceEqDiff,↓reduceIte,reduceCtorEq];simp
  ·have hk':k<l.length:=by omega
   refine yh (k+1) (by omega) (by omega) ?_
   refine yg [] [] [] ?_;simp only[yrv hk',if_neg (not_not_intro h0),allQ,live,yc,yw,go_sem,Nat.reduceEqDiff,↓reduceIte,reduceCtorEq];simp
  ·rw[List.take_of_length_le (by omega)]
theorem ynw{l:List Int}{k:Nat}(h:k<l.length):ycq (l.take (k+1))=(if l.getD k 0 > (ycq (l.take k)).1 then(l.getD k 0,(ycq (l.take k)).1)else((ycq (l.take k)).1,max (ycq (l.take k)).2 (l.getD k 0))):=by
 unfold ycq;rw[List.take_succ_eq_append_getElem h,List.foldl_append,getD_at h];rfl
theorem yrz(l:List Int)(hl:l.length<=1000):Returns Tryz.prog 269 [yj l] (.tp [.i .i64 (ycq l).1,.i .i64 (ycq l).2]):=by
 refine Returns.of (ycty _ _ ?_);simp only[c269,yces,ychm,ycij,yj,go_sem,Nat.reduceAdd,↓reduceIte,reduceCtorEq];refine ybe (σ:=Nat) (fun k=>⟨[(8,.i .i64 k),(2,.i .i64 (ycq (l.take k)).1),(3,.i .i64 (ycq (l.take k)).2),(6,yj l),(7,.i .i64 l.length)],[]⟩) (fun k=>k<=l.length) (fun k=>l.length - k) 0 (Nat.zero_le _) ?_ ?_
 ·refine yg [] [] [] ?_;simp only[yj,allQ,live,yc,yw,Int.natCast_zero,go_sem,Nat.reduceEqDiff,↓reduceIte,reduceCtorEq];simp[ycq]
 ·intro k hk;simp only[ycbr,yccp,ycpf,ycgi,ycql,yciy,ycmq,yj,go_sem,Nat.reduceEqDiff,Nat.reduceAdd,↓reduceIte,reduceCtorEq];refine⟨fun hlt=>⟨by omega,fun h0=>⟨ikw (by omega) (by omega),?_⟩,fun h0=>⟨ikw (by omega) (by omega),?_⟩⟩,fun hlt=>?_⟩
  ·have hk':k<l.length:=by omega
   refine yh (k+1) (by omega) (by omega) ?_
   refine yg [] [] [] ?_;simp only[ynw hk',if_pos h0,allQ,live,yc,yw,go_sem,Nat.reduceEqDiff,↓reduceIte,reduceCtorEq];simp
  ·have hk':k<l.length:=by omega
   refine yh (k+1) (by omega) (by omega) ?_
   refine yg [] [] [] ?_;simp only[ynw hk',if_neg h0,allQ,live,yc,yw,go_sem,Nat.reduceEqDiff,↓reduceIte,reduceCtorEq];simp
  ·rw[List.take_of_length_le (by omega)]
   exact Sim.refl _
theorem ybbb(l:List Int)(x:Int)(hl:l.length<=100000):Returns Tryz.prog 274 [yj l,.i .i64 x] (.b (l.elem x)):=by
 refine Returns.of (ycrd _ _ ?_);simp only[c274,ycfq,ycln,yj,go_sem,Nat.reduceEqDiff,Nat.reduceAdd,↓reduceIte,reduceCtorEq];refine(ybuv l x hl).use ?_;simp only[thenO,sim_b,go_sem,Nat.reduceEqDiff,Nat.reduceAdd,↓reduceIte,reduceCtorEq];unfold idxP;cases h:l.findIdx? (fun y=>x == y)with
 | none =>
  rw[List.findIdx?_eq_none_iff]at h
  have:l.elem x=false:=by
   rw[List.elem_eq_mem,decide_eq_false_iff_not];intro hm;have:=h x hm;simp at this
  rw[this];simp
 | some i =>
  obtain⟨h1,h2,_⟩:=List.findIdx?_eq_some_iff_getElem.1 h
  have:l.elem x=true:=by
   rw[List.elem_eq_mem,decide_eq_true_eq];have:x=l[i]:=by simpa using h2
   rw[this];exact List.getElem_mem h1
  rw[this];simp
theorem ybkl{l:List Int}{n:Nat}{r:Int}(h:l.elem r=true):ysv l (n+1) r=ysv l n (r+1):=by
 show(if l.elem r then _ else _)=_;rw[if_pos h]
theorem ybku{l:List Int}{n:Nat}{r:Int}(h:l.elem r=false):ysv l n r=r:=by
 cases n with
 | zero=>rfl
 | succ n=>show(if l.elem r then _ else _)=_;rw[if_neg (by rw[h];simp)]
theorem yyz{l:List Int}{k:Nat}(h:∀ j:Nat,j<k->l.elem (j:Int)=true):k<=l.length:=by
 have h1:((List.range k).map fun(j:Nat)=>(j:Int)).Nodup:=by
  rw[List.Nodup,List.pairwise_map];exact List.nodup_range.imp fun {a b} hab e=>hab (by omega)
 have h2:((List.range k).map fun(j:Nat)=>(j:Int)) ⊆ l:=fun x hx=>by
  obtain⟨j,hj,rfl⟩:=List.mem_map.1 hx;have:=h j (List.mem_range.1 hj)
  simpa using this
 have:=List.Nodup.length_le_of_subset h1 h2
 simpa using this
theorem ycvx(l:List Int)(hl:l.length<=1000):Returns Tryz.prog 270 [yj l] (.i .i64 (mexP l)):=by
 refine Returns.of (ycwx _ _ ?_);simp only[c270,ycka,yckh,yj,go_sem];refine ybe (σ:=Nat) (fun k=>⟨[(3,.i .i64 k),(0,yj l)],[]⟩) (fun k=>(∀ j:Nat,j<k->l.elem (j:Int)=true)/\mexP l=ysv l (l.length+1 - k) k) (fun k=>l.length+1 - k) 0 ⟨fun j h=>absurd h (Nat.not_lt_zero _),rfl⟩ ?_ ?_
 ·refine yg [] [] [] ?_;simp only[yj,allQ,live,yc,Int.natCast_zero,go_sem,↓reduceIte,reduceCtorEq]
 ·intro k ⟨hk,he⟩;have hb:=yyz hk;simp only[ycob,yckl,ycbz,yj,go_sem,Nat.reduceEqDiff,Nat.reduceAdd,↓reduceIte,reduceCtorEq];refine(ybbb l k (by omega)).use ?_
  simp only[thenO,yw,go_sem,Nat.reduceEqDiff,Nat.reduceAdd,↓reduceIte,reduceCtorEq];refine⟨fun h=>⟨ikw (by omega) (by omega),?_⟩,fun h=>?_⟩
  ·have hk2:∀ j:Nat,j<k+1->l.elem (j:Int)=true:=fun j hj=>by
    by_cases q:j<k
    ·exact hk j q
    ·obtain rfl:j=k:=by omega
     exact h
   have hb2:=yyz hk2;refine yh (k+1) ⟨hk2,?_⟩ (by omega) ?_
   ·rw[he,show l.length+1 - k=(l.length+1 - (k+1))+1 by omega,ybkl h];simp
   ·refine yg [] [] [] ?_;simp only[allQ,live,yc,yw,go_sem,↓reduceIte,reduceCtorEq];simp
  ·rw[he,ybku h]
theorem ybnx(x:Int):Returns Tryz.prog 268 [.i .i64 x] (.b (x != 0)):=by
 refine Returns.of (ycud _ _ ?_);simp only[c268,ycjo,ycee,sim_b,go_sem,Nat.reduceEqDiff,Nat.reduceAdd,↓reduceIte,reduceCtorEq]
theorem yvq(l:List Int)(hl:l.length<=1000):Returns Tryz.prog 267 [yj l,.fn 268 [] []] (.i .i64 (yel l)):=by
 refine Returns.of (yctm _ _ ?_);simp only[c267,ycpe,ycmh,yj,go_sem,Nat.reduceAdd,↓reduceIte,reduceCtorEq];refine ybe (σ:=Nat) (fun k=>⟨[(8,.i .i64 k),(0,yj l),(1,.fn 268 [] []),(7,.i .i64 l.length)],[]⟩) (fun k=>k<=l.length/\(l.take k).findIdx? (· != 0)=none) (fun k=>l.length - k) 0 ⟨Nat.zero_le _,by simp⟩ ?_ ?_
 ·refine yg [] [] [] ?_;simp only[yj,allQ,live,yc,Int.natCast_zero,go_sem,Nat.reduceEqDiff,↓reduceIte,reduceCtorEq]
 ·intro k ⟨hk,hno⟩;simp only[yckq,ycfm,ycof,ycml,ycku,yclu,yj,yw,go_sem,Nat.reduceEqDiff,Nat.reduceAdd,↓reduceIte,reduceCtorEq];refine⟨fun hlt=>⟨by omega,(ybnx _).use ?_⟩,fun hlt=>?_⟩
  ·have hlt:k<l.length:=by omega
   simp only[thenO,yw,go_sem,Nat.reduceEqDiff,Nat.reduceAdd,↓reduceIte,reduceCtorEq];rw[getD_at hlt];refine⟨fun ha=>?_,fun ha=>⟨ikw (by omega) (by omega),?_⟩⟩
   ·have:l.findIdx? (· != 0)=some k:=by
     rw[List.findIdx?_eq_some_iff_getElem];refine⟨hlt,by simpa using ha,fun j hj=>?_⟩
     rw[List.findIdx?_eq_none_iff]at hno;have:=hno l[j] (List.mem_take_iff_getElem.2 ⟨j,by omega,rfl⟩)
     simpa using this
    unfold yel;rw[this]
   ·refine yh (k+1) ⟨by omega,?_⟩ (by omega) ?_
    ·rw[List.take_succ_eq_append_getElem hlt,List.findIdx?_append,hno];simp[ha]
    ·refine yg [] [] [] ?_;simp only[allQ,live,yc,yw,go_sem,Nat.reduceEqDiff,↓reduceIte,reduceCtorEq];simp
  ·obtain rfl:k=l.length:=by omega
   rw[List.take_length]at hno;unfold yel;rw[hno]
end Sh
end Go.Proofs.YtiejahgklcjhkaaGreatDoor

namespace Go.Proofs.YtiejahgklcjhkaaGreatDoor
namespace Sh
open Go Ev
set_option maxRecDepth 8000

theorem ybcc{l:List Int}{k:Nat}(h:k<l.length):yne (l.take (k+1))=min (yne (l.take k)) (l.getD k 0):=by
 unfold yne;rw[List.take_succ_eq_append_getElem h,List.foldl_append,getD_at h];rfl
theorem yvi{l:List Int}{k:Nat}(h:k<l.length):(l.take (k+1)).sum=(l.take k).sum+l.getD k 0:=by
 rw[List.take_succ_eq_append_getElem h,List.sum_append,getD_at h];simp
theorem ybqr{l:List Int}(h:∀ x ∈ l,InB x):∀ k,k<=l.length -> -1073741824 * (k:Int)<=(l.take k).sum/\(l.take k).sum<=1073741824 * (k:Int)
 | 0,_=>by simp
 | k+1,hk=>by
  have ih:=ybqr h k (by omega)
  rw[yvi (by omega)]
  have:=h l[k] (List.getElem_mem (by omega))
  rw[<- getD_at (d:=0) (show k<l.length by omega)]at this
  unfold InB at this;omega
theorem ybyp(op:Int)(l:List Int)(hl:l.length<=24)(hb:∀ x ∈ l,InB x):Returns Tryz.prog 257 [.i .i64 op,yj l] (.i .i64 (yhq op l)):=by
 refine Returns.of (ycsj _ _ ?_);have hin:∀ k,k<l.length->InB (l.getD k 0):=fun k hk=>by rw[getD_at hk];exact hb _ (List.getElem_mem hk)
 obtain⟨L,hL⟩:∃ L,yj l=L:=⟨_,rfl⟩;have hLs:L = .sl 1 l.length (fun k=>[.i .i64 (l.getD k 0)]):=hL.symm;simp only[c257,ycjg,yckx,yccg,ycje,ycby,ycpt,ycks,ycir,ychx,ycfs,ybry,ybmr,ybue,ybrs,ybma,yblp,ybpx,ybpv,ybub,ybmw,ybvk,ybpy,ybpp,ybvu,yboe,ybun,ybtq,ybnl,ybvi,ybva,ybpf,ybsq,ybnt,yboo,ybvt,ybrn,ybvw,yj,go_sem,Int.reduceToNat,Nat.reduceEqDiff,Nat.reduceAdd,↓reduceIte,reduceCtorEq]
 have hcount:=ybum l (by omega)
 have htwo:=yrz l (by omega)
 simp only[yj]at hcount htwo;refine⟨fun h20=>hcount.use ?_,fun h20=>⟨fun h21=>hcount.use ?_,fun h21=>⟨fun h22=>hcount.use ?_,fun h22=>⟨fun h23=>?_,fun h23=>⟨fun h24=>?_,fun h24=>⟨fun h25=>htwo.use ?_,fun h25=>⟨fun h26=>?_,fun h26=>⟨fun h27=>?_,fun h27=>⟨fun h28=>htwo.use ?_,fun h28=>?_⟩⟩⟩⟩⟩⟩⟩⟩⟩
 ·simp only[thenO,go_sem,Nat.reduceEqDiff,Nat.reduceAdd,↓reduceIte,reduceCtorEq];refine(ydj _).use ?_;simp only[yw,go_sem];simp[yhq,h20]
 ·simp only[thenO,go_sem,Nat.reduceEqDiff,Nat.reduceAdd,↓reduceIte,reduceCtorEq];refine(ydj _).use ?_;simp only[yw,go_sem];simp[yhq,h21]
 ·simp only[thenO,yw,go_sem,Nat.reduceEqDiff,Nat.reduceAdd,↓reduceIte,reduceCtorEq];simp[yhq,h22]
 ·have:=yvq l (by omega)
  simp only[yj]at this;refine this.use ?_;simp only[thenO,yw,go_sem,Nat.reduceEqDiff,Nat.reduceAdd,↓reduceIte,reduceCtorEq];simp[yhq,h23]
 ·refine ybe (σ:=Nat) (fun k=>⟨[(42,.i .i64 k),(5,.i .i64 (yne (l.take k))),(40,yj l),(41,.i .i64 l.length)],[]⟩) (fun k=>k<=l.length) (fun k=>l.length - k) 0 (Nat.zero_le _) ?_ ?_
  ·refine yg [] [] [] ?_;simp only[yj,allQ,live,yc,yw,Int.natCast_zero,go_sem,Nat.reduceEqDiff,↓reduceIte,reduceCtorEq];simp[yne]
  ·intro k hk;simp only[yj,yw,go_sem,Nat.reduceEqDiff,Nat.reduceAdd,↓reduceIte,reduceCtorEq];refine⟨fun hlt=>⟨by omega,ikw (by omega) (by omega),?_⟩,fun hlt=>?_⟩
   ·have hk':k<l.length:=by omega
    refine yh (k+1) (by omega) (by omega) ?_
    refine yg [] [] [] ?_;simp only[ybcc hk',allQ,live,yc,yw,go_sem,Nat.reduceEqDiff,↓reduceIte,reduceCtorEq];simp
   ·rw[List.take_of_length_le (by omega)]
    simp[yhq,h24]
 ·simp only[thenO,yw,go_sem,Nat.reduceEqDiff,Nat.reduceAdd,↓reduceIte,reduceCtorEq];simp[yhq,h25]
 ·refine ybe (σ:=Nat) (fun k=>⟨[(63,.i .i64 k),(10,.i .i64 (l.take k).sum),(61,yj l),(62,.i .i64 l.length)],[]⟩) (fun k=>k<=l.length) (fun k=>l.length - k) 0 (Nat.zero_le _) ?_ ?_
  ·refine yg [] [] [] ?_;simp only[yj,allQ,live,yc,yw,Int.natCast_zero,go_sem,Nat.reduceEqDiff,↓reduceIte,reduceCtorEq];simp
  ·intro k hk;simp only[yj,go_sem,Nat.reduceEqDiff,Nat.reduceAdd,↓reduceIte,reduceCtorEq];have hs:=ybqr hb k hk;refine⟨fun hlt=>?_,fun hlt=>(ycw _).use ?_⟩
   ·have hk':k<l.length:=by omega
    have hs2:=ybqr hb (k+1) hk';rw[yvi hk']at hs2;refine⟨by omega,ikw (by omega) (by omega),ikw (by omega) (by omega),?_⟩
    refine yh (k+1) (by omega) (by omega) ?_
    refine yg [] [] [] ?_;simp only[yvi hk',allQ,live,yc,yw,go_sem,Nat.reduceEqDiff,↓reduceIte,reduceCtorEq];simp
   ·simp only[thenO,yw,go_sem,Nat.reduceEqDiff,Nat.reduceAdd,↓reduceIte,reduceCtorEq];rw[List.take_of_length_le (by omega)]
    simp[yhq,h26]
 ·have:=ycvx l (by omega)
  simp only[yj]at this;refine this.use ?_;simp only[thenO,yw,go_sem,Nat.reduceEqDiff,Nat.reduceAdd,↓reduceIte,reduceCtorEq];simp[yhq,h27]
 ·simp only[thenO,yw,go_sem,Nat.reduceEqDiff,Nat.reduceAdd,↓reduceIte,reduceCtorEq];simp[yhq,h28]
 ·refine⟨fun h0=>?_,fun h0=>⟨by omega,?_⟩⟩
  ·simp only[yw,go_sem];have:l = []:=List.eq_nil_of_length_eq_zero (by omega)
   simp[yhq,h20,h21,h22,h23,h24,h25,h26,h27,h28,this]
  ·cases l with
   | nil=>simp at h0
   | cons x l=>
    simp only[yw,go_sem];simp[yhq,h20,h21,h22,h23,h24,h25,h26,h27,h28]
end Sh
end Go.Proofs.YtiejahgklcjhkaaGreatDoor

namespace Go.Proofs.YtiejahgklcjhkaaGreatDoor
def Ex.shp:Ex->Bool
 | .leaf op _=>decide (1<=op/\op<=17)
 | .un op a=>decide (18<=op/\op<=29) && a.shp
 | .agg op a=>decide (18<=op/\op<=29) && a.shp
 | .bin op a b=>decide (30<=op/\op<=42) && a.shp && b.shp
 | .ite x a b=>x.shp && a.shp && b.shp
theorem Ex.ok_shp{nv:Int}:∀ (x:Ex) {bnd:Bool},x.ok nv bnd=true->x.shp=true
 | .leaf op arg,bnd,h=>by
  simp only[Ex.ok,Bool.and_eq_true]at h;exact h.1.1
 | .un op a,bnd,h=>by
  simp only[Ex.ok,Bool.and_eq_true,decide_eq_true_eq]at h;simp only[Ex.shp,Bool.and_eq_true,decide_eq_true_eq];exact⟨by omega,Ex.ok_shp a h.2⟩
 | .agg op a,bnd,h=>by
  simp only[Ex.ok,Bool.and_eq_true,decide_eq_true_eq]at h;simp only[Ex.shp,Bool.and_eq_true,decide_eq_true_eq];exact⟨by omega,Ex.ok_shp a h.2⟩
 | .bin op a b,bnd,h=>by
  simp only[Ex.ok,Bool.and_eq_true,decide_eq_true_eq]at h;simp only[Ex.shp,Bool.and_eq_true,decide_eq_true_eq];exact⟨⟨h.1.1,Ex.ok_shp a h.1.2⟩,Ex.ok_shp b h.2⟩
 | .ite x a b,bnd,h=>by
  simp only[Ex.ok,Bool.and_eq_true]at h;simp only[Ex.shp,Bool.and_eq_true];exact⟨⟨Ex.ok_shp x h.1.1,Ex.ok_shp a h.1.2⟩,Ex.ok_shp b h.2⟩
def yjh(op:Int):Int:=if op<1\/op > 43 then -1 else if op<=17 then 0 else if op<=29 then 1 else if op<=42 then 2 else 3
def serL(ts:List Ex):List Tm:=(ts.map Ex.ser).flatten
def Ex.head:Ex->Tm
 | .leaf op arg=>(op,arg)
 | .un op _=>(op,0)
 | .agg op _=>(op,0)
 | .bin op _ _=>(op,0)
 | .ite _ _ _=>(43,0)
def Ex.subs:Ex->List Ex
 | .leaf _ _=>[]
 | .un _ a=>[a]
 | .agg _ a=>[a]
 | .bin _ a b=>[a,b]
 | .ite x a b=>[x,a,b]
theorem Ex.ser_eq(x:Ex):x.ser=x.head :: serL x.subs:=by
 cases x<;>simp[Ex.ser,Ex.head,Ex.subs,serL]
theorem ybzs{op:Int}(h:1<=op/\op<=17):yjh op=0:=by
 unfold yjh;rw[if_neg (by omega),if_pos (by omega)]
theorem ybhr{op:Int}(h:18<=op/\op<=29):yjh op=1:=by
 unfold yjh;rw[if_neg (by omega),if_neg (by omega),if_pos (by omega)]
theorem ybyq{op:Int}(h:30<=op/\op<=42):yjh op=2:=by
 unfold yjh;rw[if_neg (by omega),if_neg (by omega),if_neg (by omega),if_pos (by omega)]
theorem Ex.arity(x:Ex)(h:x.shp=true):yjh x.head.1=x.subs.length:=by
 cases x with
 | leaf op arg=>simp only[Ex.shp,decide_eq_true_eq]at h;exact ybzs h
 | un op a=>simp only[Ex.shp,Bool.and_eq_true,decide_eq_true_eq]at h;exact ybhr h.1
 | agg op a=>simp only[Ex.shp,Bool.and_eq_true,decide_eq_true_eq]at h;exact ybhr h.1
 | bin op a b=>simp only[Ex.shp,Bool.and_eq_true,decide_eq_true_eq]at h;exact ybyq h.1.1
 | ite x a b=>simp[Ex.head,Ex.subs,yjh]
theorem Ex.subs_shp(x:Ex)(h:x.shp=true):∀ y ∈ x.subs,y.shp=true:=by
 cases x with
 | leaf op arg=>intro y hy;cases hy
 | un op a=>simp only[Ex.shp,Bool.and_eq_true]at h;intro y hy;simp[Ex.subs]at hy;subst hy;exact h.2
 | agg op a=>simp only[Ex.shp,Bool.and_eq_true]at h;intro y hy;simp[Ex.subs]at hy;subst hy;exact h.2
 | bin op a b=>simp only[Ex.shp,Bool.and_eq_true]at h;intro y hy;simp[Ex.subs]at hy;rcases hy with rfl | rfl<;>first | exact h.1.2 | exact h.2
 | ite x a b=>simp only[Ex.shp,Bool.and_eq_true]at h;intro y hy;simp[Ex.subs]at hy;rcases hy with rfl | rfl | rfl<;>first | exact h.1.1 | exact h.1.2 | exact h.2
theorem ydz{e:List Tm}{at_:Nat}{t:Tm}{r:List Tm}(h:e.drop at_=t :: r):at_<e.length/\e.getD at_ (0,0)=t/\e.drop (at_+1)=r:=by
 have hlt:at_<e.length:=by
  refine Classical.byContradiction fun hc=>?_;rw[List.drop_of_length_le (by omega)]at h;cases h
 refine⟨hlt,?_,?_⟩
 ·rw[List.drop_eq_getElem_cons hlt]at h;simp only[List.cons.injEq]at h;simp[List.getD,hlt,h.1]
 ·rw[List.drop_eq_getElem_cons hlt]at h;simp only[List.cons.injEq]at h;exact h.2
namespace Sh
open Go Ev
set_option maxRecDepth 8000

theorem ybuj(op:Int):Returns Tryz.prog 247 [.i .i64 op] (.i .i64 (yjh op)):=by
 refine Returns.of (yctb _ _ ?_);simp only[c247,ychk,yclc,ycde,ycpk,ycfn,ycga,ycio,ycgt,ycni,ycdl,yw,yjh,go_sem,Nat.reduceEqDiff,Nat.reduceAdd,↓reduceIte,reduceCtorEq];refine⟨fun h1=>⟨fun h=>by rw[if_pos (.inr h)],fun h2=>⟨fun h=>by rw[if_neg (by omega),if_pos h],fun h3=>⟨fun h=>by rw[if_neg (by omega),if_neg h3,if_pos h],fun h4=>⟨fun h=>by rw[if_neg (by omega),if_neg h3,if_neg h4,if_pos h],fun h5=>by rw[if_neg (by omega),if_neg h3,if_neg h4,if_neg h5]⟩⟩⟩⟩,fun h=>by rw[if_pos (.inl h)]⟩
theorem ycrn(e:List Tm)(x:Ex)(at_:Nat)(rest:List Tm)(hx:x.shp=true)(he:e.drop at_=x.ser ++ rest)(hl:e.length<=1000):Returns Tryz.prog 231 [yba e,.i .i64 at_] (.i .i64 ((at_+x.ser.length:Nat):Int)):=by
 refine Returns.of (ycvv _ _ ?_)
 have h0:at_<e.length:=by
  rw[x.ser_eq]at he;exact(ydz he).1
 simp only[c231,ychl,ycdd,ycnv,ycis,yba,yw,go_sem,Nat.reduceEqDiff,Nat.reduceAdd,↓reduceIte,reduceCtorEq];refine⟨fun _=>⟨fun h=>by omega,fun _=>?_⟩,fun h=>by omega⟩
 refine ybe (σ:=Nat × List Ex) (fun p=>⟨[(1,.i .i64 p.1),(5,.i .i64 p.2.length),(0,yba e)],[]⟩)
  (fun p=>e.drop p.1=serL p.2 ++ rest/\p.2 ≠ []/\(∀ y ∈ p.2,y.shp=true)/\p.1+(serL p.2).length=at_+x.ser.length/\p.2.length<=3 * p.1+1) (fun p=>e.length - p.1) (at_,[x]) ⟨by simpa [serL]using he,by simp,by simpa using hx,by simp[serL],by simp⟩ ?_ ?_
 ·refine yg [] [] [] ?_;simp only[yba,allQ,live,yc,yw,go_sem,Nat.reduceEqDiff,↓reduceIte,reduceCtorEq];simp
 ·rintro⟨k,ts⟩ ⟨hk,hne,hsh,hlen,hb⟩;cases ts with
  | nil=>exact absurd rfl hne
  | cons y ts =>
   dsimp only at hk hlen hb ⊢
   have hser:serL (y :: ts)=y.head :: (serL y.subs ++ serL ts):=by
    show(y.ser ++ serL ts)=_;rw[y.ser_eq];rfl
   rw[hser]at hk hlen;obtain⟨d1,d2,d3⟩:=ydz hk;have hy:=hsh y List.mem_cons_self;have har:=y.arity hy;have hsub:y.subs.length<=3:=by cases y<;>simp[Ex.subs]
   simp only[List.length_cons]at hb hlen;simp only[ychq,ycgd,ycid,ycgf,ycfo,yccm,yboq,ybnp,ybsz,yba,yw,go_sem,Nat.reduceEqDiff,Nat.reduceAdd,Nat.reduceLeDiff,↓reduceIte,reduceCtorEq];refine⟨fun hlt=>⟨by omega,(ybuj _).use ?_⟩,fun hlt=>by omega⟩
   rw[d2,har];simp only[thenO,yw,go_sem,Nat.reduceEqDiff,Nat.reduceAdd,↓reduceIte,reduceCtorEq];refine⟨fun h=>by omega,fun _=>⟨ikw (by omega) (by omega),ikw (by simp;omega) (by simp;omega),fun h=>⟨ikw (by omega) (by omega),?_⟩,fun h=>⟨ikw (by omega) (by omega),?_⟩⟩⟩
   ·have h1:ts = []:=List.eq_nil_of_length_eq_zero (by omega)
    have h2:y.subs = []:=List.eq_nil_of_length_eq_zero (by omega)
    subst h1;rw[h2]at hlen;simp[serL]at hlen;omega
   ·have hpos:y.subs ++ ts ≠ []:=fun q=>by
     have q1:=congrArg List.length q;simp only[List.length_append,List.length_nil]at q1;omega
    refine yh (k+1,y.subs ++ ts) ⟨?_,hpos,?_,?_,?_⟩ (by dsimp only;omega) ?_
    ·dsimp only
     rw[d3];simp[serL]
    ·intro z hz;rcases List.mem_append.1 hz with q | q
     ·exact y.subs_shp hy z q
     ·exact hsh z (List.mem_cons_of_mem _ q)
    ·dsimp only
     have:(serL (y.subs ++ ts)).length=(serL y.subs ++ serL ts).length:=by simp[serL]
     rw[this];omega
    ·dsimp only
     simp only[List.length_append];omega
    ·refine yg [] [] [] ?_;simp only[allQ,live,yc,yw,go_sem,Nat.reduceEqDiff,↓reduceIte,reduceCtorEq];simp;omega
end Sh
end Go.Proofs.YtiejahgklcjhkaaGreatDoor

namespace Go.Proofs.YtiejahgklcjhkaaGreatDoor
namespace Sh
open Go Ev
set_option maxRecDepth 8000

theorem ybxb(p:ProgR){g:Gr}(hg:ybb g)(op:Int){v:Nat}(hv:v<g.ports.length)(port:Int)(hp:op=6\/op=7\/op=8\/op=9\/op=10\/op=11\/(0<=port/\port<(g.ports.getD v []).length)) :
  Returns Tryz.prog 255 [.rf (yeo p g),.i .i64 op,.i .i64 v,.i .i64 port] (.i .i64 (yks g op v port)):=by
 refine Returns.of (ycvl _ _ ?_);have hlen:=hg.2.2.1;simp only[c255,ycjd,yckn,ycnb,ycef,ycex,ycfd,yckj,ycnj,ycmd,ycfv,ybuf,ybnd,ybpr,ybus,ybsr,ybno,ybrm,ybov,ybnh,ybms,ybsj,ybte,ybrp,ybtf,ybpt,yeo,yj,yu,yba,yct,yw,go_sem,Nat.reduceEqDiff,Nat.reduceAdd,Nat.reduceLeDiff,Nat.reduceLT,↓reduceIte,reduceCtorEq];refine⟨fun h6=>?_,fun h6=>⟨fun h7=>?_,fun h7=>⟨fun h8=>⟨by omega,?_⟩,fun h8=>⟨fun h9=>⟨by omega,?_⟩,fun h9=>⟨fun h10=>(ydj _).use ?_,fun h10=>⟨fun h11=>?_,fun h11=>?_⟩⟩⟩⟩⟩⟩
 ·simp[yks,h6]
 ·simp[yks,h7]
 ·simp[yks,h8]
 ·simp[yks,h9]
 ·simp only[thenO,yw,go_sem,Nat.reduceEqDiff,Nat.reduceAdd,↓reduceIte,reduceCtorEq];simp[yks,h10]
 ·simp[yks,h11]
 ·have hp:0<=port/\port<(g.ports.getD v []).length:=by omega
  have hpn:port.toNat<(g.ports.getD v []).length:=by omega
  have hl:=hg.yca hv hpn;unfold yca at hl;refine⟨by omega,by omega,fun h13=>⟨by omega,?_⟩,fun h13=>⟨fun h14=>⟨by omega,?_⟩,fun h14=>⟨fun h15=>(ydj _).use ?_,fun h15=>⟨fun h16=>?_,fun h16=>⟨by omega,?_⟩⟩⟩⟩⟩
  ·simp[yks,h13,yca]
  ·simp[yks,h14,yca]
  ·simp only[thenO,yw,go_sem,Nat.reduceEqDiff,Nat.reduceAdd,↓reduceIte,reduceCtorEq];simp[yks,h15,yca]
  ·simp[yks,h16,yca]
  ·refine⟨by rw[show(yim g v).length=(g.ports.getD v []).length from List.length_map _];omega,?_⟩
   simp[yks,h6,h7,h8,h9,h10,h11,h13,h14,h15,h16]
theorem ybxq(p:ProgR){g:Gr}(hg:ybb g){nv:Nat}{c:Conf}(hc:ConfIn g.ports.length nv c){v:Nat}(hv:v<g.ports.length)(e:List Tm){op arg:Int}{bnd:Bool}(ho:(Ex.leaf op arg).ok nv bnd=true)(port:Int)(hp:bnd=true->0<=port/\port<(g.ports.getD v []).length) :
  Returns Tryz.prog 236 [.rf (yho p g c v e),.ag [.i .i64 op,.i .i64 arg],.i .i64 port] (.i .i64 (ysm g c op arg v port)):=by
 refine Returns.of (ycut _ _ ?_);simp only[Ex.ok,Bool.and_eq_true,decide_eq_true_eq]at ho;obtain⟨⟨ho1,ho2⟩,ho3⟩:=ho;have hlen:=hc.len;have hrow:=hc.at_ hv;have hF:=ybxb p hg op hv port;simp only[yeo,yj,yu,yba,yct]at hF;simp only[c236,ycod,ycmt,ycjx,ycls,yclm,ycpd,ycgj,ycli,ycgr,ycfy,ybuz,ybut,ybth,ybtx,ybnz,yho,ybf,yeo,yj,yu,yba,yct,yw,go_sem,Nat.reduceEqDiff,Nat.reduceAdd,Nat.reduceLeDiff,Nat.reduceLT,↓reduceIte,reduceCtorEq]
 refine⟨fun h1=>?_,fun h1=>⟨fun h2=>?_,fun h2=>⟨fun h3=>?_,fun h3=>⟨fun h4=>?_,fun h4=>⟨fun h5=>?_,fun h5=>⟨fun h12=>?_,fun h12=>(hF ?_).use ?_⟩⟩⟩⟩⟩⟩
 ·simp[ysm,h1]
 ·simp[ysm,h2]
 ·simp[ysm,h3]
 ·simp[ysm,h4]
 ·rw[if_neg (by omega),if_pos (by omega)]at ho2
  have ho2:=of_decide_eq_true ho2;refine⟨by omega,by omega,?_⟩
  simp[ysm,h5]
 ·rw[if_neg (by omega),if_pos (by omega)]at ho2
  have ho2:=of_decide_eq_true ho2;rw[if_pos (by omega)]at ho3
  have hp:=hp ho3;have hpn:port.toNat<(g.ports.getD v []).length:=by omega
  have hl:=hg.yca hv hpn;have hr2:=hc.at_ (v:=(yca g v port.toNat).1.toNat) (by omega)
  unfold yca at hl hr2;refine⟨by omega,by omega,by omega,by omega,?_⟩
  simp[ysm,h12,yca]
 ·by_cases q:11<=op
  ·rw[if_pos q]at ho3;have:=hp ho3;omega
  ·omega
 ·simp only[thenO,yw,go_sem,Nat.reduceEqDiff,Nat.reduceAdd,↓reduceIte,reduceCtorEq];simp[ysm,h1,h2,h3,h4,h5,h12]

theorem ypm{e:List Tm}{at_:Nat}{a b:List Tm}(h:e.drop at_=a ++ b):e.drop (at_+a.length)=b:=by
 rw[<- List.drop_drop,h,List.drop_left]
theorem ycac{n:Nat}{gg:Nat->List SV}{l:List Int}(hn:n=l.length)(h:∀ k,k<n->gg k = [.i .i64 (l.getD k 0)]):Sim (.sl 1 n gg) (yj l):=by
 subst hn;exact sim_sl h
def ybpw(p:ProgR)(g:Gr)(nv:Nat)(c:Conf)(v:Nat)(e:List Tm)(x:Ex):Prop :=
 ∀ (bnd:Bool) (port:Int) (at_:Nat) (rest:List Tm),x.ok nv bnd=true->(bnd=true->0<=port/\port<(g.ports.getD v []).length)->InB port->e.drop at_=x.ser ++ rest ->
  Returns Tryz.prog 220 [.rf (yho p g c v e),.i .i64 at_,.i .i64 port] (.tp [.i .i64 (yeb g c v x port),.i .i64 ((at_+x.ser.length:Nat):Int)])
theorem ywp(p:ProgR){g:Gr}(hg:ybb g){nv:Nat}{c:Conf}(hc:ConfIn g.ports.length nv c){v:Nat}(hv:v<g.ports.length)(e:List Tm)(hl:e.length<=1000){op:Int}{a:Ex}(ho:(Ex.agg op a).ok nv true=true)(ih:ybpw p g nv c v e a)(at_:Nat)(rest:List Tm)(he:e.drop at_=(Ex.agg op a).ser ++ rest) :
  Returns Tryz.prog 238 [.rf (yho p g c v e),.i .i64 op,.i .i64 at_] (.tp [.i .i64 (yeb g c v (.agg op a) 0),.i .i64 ((at_+(Ex.agg op a).ser.length:Nat):Int)]):=by
 have ho':=ho;simp only[Ex.ok,Bool.and_eq_true,decide_eq_true_eq]at ho;have hd:=hg.deg_lt (v:=v);obtain⟨deg,hdeg⟩:∃ d,(g.ports.getD v []).length=d:=⟨_,rfl⟩;rw[hdeg]at hd;have hin:∀ q:Nat,q<deg->InB (yeb g c v a q):=fun q hq=>ygh hg rfl hc hv a ho.2 (fun _=>by omega) (by unfold InB;omega)
 have hsh:=Ex.ok_shp _ ho';have hdrop:e.drop (at_+1)=a.ser ++ rest:=(ydz (show e.drop at_=(op,0) :: (a.ser ++ rest)from he)).2.2
 have hat:=(ydz (show e.drop at_=(op,0) :: (a.ser ++ rest)from he)).1
 have hfit:at_+1+a.ser.length<=e.length:=by
  have:=congrArg List.length hdrop;simp at this;omega
 refine Returns.of (ycvt _ _ ?_);simp only[c238,ychg,ycpm,yccq,ycog,yho,ybf,yeo,yj,yu,yba,yct,hdeg,go_sem,Nat.reduceEqDiff,Nat.reduceAdd,Nat.reduceLeDiff,Nat.reduceLT,↓reduceIte,reduceCtorEq];refine⟨by omega,?_⟩
 let val:Nat->Int:=fun q=>yeb g c v a q
 refine ybe (σ:=Nat) (fun k=>⟨[(27,.i .i64 k),(26,.i .i64 deg),(9,.i .i64 deg),(0,.rf (yho p g c v e)),(1,.i .i64 op),(2,.i .i64 at_),(8,.pt (8,0) 0 0),(7,.i .i64 (if k=0 then 0 else((at_+1+a.ser.length:Nat):Int)))],
   [(8,.one (some ⟨256,true,1,24,fun i=>[.i .i64 (if i<k then val i else 0)]⟩))]⟩) (fun k=>k<=deg) (fun k=>deg - k) 0 (Nat.zero_le _) ?_ ?_
 ·refine yg [] [] [] ?_;simp only[yho,ybf,yeo,yj,yu,yba,yct,allQ,live,yc,yw,Int.natCast_zero,go_sem,Nat.reduceEqDiff,↓reduceIte,reduceCtorEq];intro i _;rw[if_neg (by omega)]
 ·intro k hk;simp only[ycne,ycek,ycgc,ycmn,ycot,ycgl,ybtt,go_sem,Nat.reduceEqDiff,Nat.reduceAdd,Nat.reduceLeDiff,↓reduceIte,reduceCtorEq];refine⟨fun hlt=>⟨ikw (by omega) (by omega),?_⟩,fun hlt=>?_⟩
  ·have hk':k<deg:=by omega
   have hv1:=ih true (k:Int) (at_+1) rest ho.2 (fun _=>by rw[hdeg];omega) (by unfold InB;omega) hdrop
   rw[show((at_+1:Nat):Int)=(at_:Int)+1 by omega]at hv1
   refine hv1.use ?_;simp only[thenO,splice,go_sem,Nat.reduceEqDiff,Nat.reduceAdd,↓reduceIte,reduceCtorEq];refine⟨by omega,by omega,ikw (by omega) (by omega),?_⟩
   refine yh (k+1) (by omega) (by omega) ?_
   refine yg [] [] [] ?_;simp only[allQ,live,yc,yw,go_sem,Nat.reduceEqDiff,↓reduceIte,reduceCtorEq];refine⟨by omega,?_⟩
   intro i hi
   by_cases q:i=k
   ·rw[if_pos q,if_pos (by omega)]
    subst q;simp only[val,live,yc,go_sem,reduceCtorEq]
   ·rw[if_neg q]
    by_cases q2:i<k
    ·rw[if_pos q2,if_pos (by omega)]
     simp only[live,yc,go_sem,reduceCtorEq]
    ·rw[if_neg q2,if_neg (by omega)]
     simp only[live,yc,go_sem,reduceCtorEq]
  ·obtain rfl:k=deg:=by omega
   have hE:=ycrn e _ at_ rest hsh he hl
   have hF:=ybyp op ((List.range k).map val) (by simp;omega) (fun x hx=>by
    obtain⟨q,hq,rfl⟩:=List.mem_map.1 hx;exact hin q (List.mem_range.1 hq))
   have hres:yeb g c v (.agg op a) 0=yhq op ((List.range k).map val):=by
    show yhq op _=_;rw[hdeg]
   rw[hres];simp only[yho,yba,go_sem,Nat.reduceEqDiff,Nat.reduceAdd,↓reduceIte,reduceCtorEq];simp only[yba]at hE
   have hsim:SimL [.i .i64 op,.sl 1 (k - 0) fun i=>[.i .i64 (if i<k then val i else 0)]] [.i .i64 op,yj ((List.range k).map val)]:=by
    refine⟨Sim.refl _,ycac (by simp) fun i hi=>?_,trivial⟩
    rw[if_pos (by omega)]
    simp[List.getD,show i<k by omega]
   refine⟨fun h0=>hE.use ?_,fun h0=>?_⟩
   ·simp only[thenO,go_sem,Nat.reduceEqDiff,Nat.reduceAdd,Nat.reduceLeDiff,↓reduceIte,reduceCtorEq];refine⟨by simp;omega,.inl ⟨by omega,hF.useS hsim ?_⟩⟩
    simp only[go_sem];exact Sim.refl _
   ·refine⟨by simp;omega,.inl ⟨by omega,hF.useS hsim ?_⟩⟩
    simp only[thenO,if_neg (show ¬ k=0 by omega),go_sem,Nat.reduceEqDiff,Nat.reduceAdd,↓reduceIte,reduceCtorEq]
    rw[show at_+(Ex.agg op a).ser.length=at_+1+a.ser.length by simp[Ex.ser];omega]
    exact Sim.refl _
end Sh
end Go.Proofs.YtiejahgklcjhkaaGreatDoor

namespace Go.Proofs.YtiejahgklcjhkaaGreatDoor
namespace Sh
open Go Ev
set_option maxRecDepth 8000

theorem ybiu(g:Gr)(v:Nat)(hv:v<g.ports.length)(u:Int)(hl:(g.ports.getD v []).length<=100000):Returns Tryz.prog 170 [grV g,.i .i64 v,.i .i64 u] (.i .i64 (yfp (g.ports.getD v []) u)):=by
 refine Returns.of (ycto _ _ ?_);simp only[c170,ycel,yckc,grV,yu,yba,yj,go_sem,Nat.reduceEqDiff,Nat.reduceAdd,Nat.reduceLT,↓reduceIte,reduceCtorEq];refine⟨by omega,?_⟩
 obtain⟨ls,hls⟩:∃ ls,g.ports.getD v []=ls:=⟨_,rfl⟩;rw[hls]at hl ⊢;refine ybe (σ:=Nat) (fun k=>⟨[(15,.i .i64 k),(13,yba ls),(14,.i .i64 ls.length),(2,.i .i64 u)],[]⟩) (fun k=>k<=ls.length/\(ls.take k).findIdx? (fun l=>l.1 == u)=none) (fun k=>ls.length - k) 0 ⟨Nat.zero_le _,by simp⟩ ?_ ?_
 ·refine yg [] [] [] ?_;simp only[yba,allQ,live,yc,Int.natCast_zero,go_sem,Nat.reduceEqDiff,↓reduceIte,reduceCtorEq]
 ·intro k ⟨hk,hno⟩;simp only[yccy,ycjl,ycpq,yccf,ycms,yckp,yba,yw,splice,go_sem,Nat.reduceEqDiff,Nat.reduceAdd,Nat.reduceLeDiff,Nat.reduceLT,↓reduceIte,reduceCtorEq];refine⟨fun hlt=>⟨by omega,fun he=>?_,fun he=>⟨ikw (by omega) (by omega),?_⟩⟩,fun hlt=>?_⟩
  ·have hlt:k<ls.length:=by omega
   rw[getD_at hlt]at he;rw[yms ls u k hlt he hno]
  ·have hlt:k<ls.length:=by omega
   rw[getD_at hlt]at he;refine yh (k+1) ⟨by omega,yoh ls u k hlt he hno⟩ (by omega) ?_
   refine yg [] [] [] ?_;simp only[allQ,live,yc,yw,go_sem,Nat.reduceEqDiff,↓reduceIte,reduceCtorEq];simp
  ·obtain rfl:k=ls.length:=by omega
   rw[yrp ls u hno]
theorem ybim{ids:List Int}{k:Nat}(h:k<ids.length):(ids.take (k+1)).foldl max 0=max ((ids.take k).foldl max 0) (ids.getD k 0):=by
 rw[ybkv ids k h,getD_at h]
theorem ybaf(p:ProgR){g:Gr}(hg:ybb g):Returns Tryz.prog 143 [.ag (ykh p),grV g] (.rf (yeo p g)):=by
 refine Returns.of (ycvh _ _ ?_);have h24:=hg.2.1;have hid:=hg.2.2.1;obtain⟨n,hn⟩:∃ n,g.ports.length=n:=⟨_,rfl⟩;rw[hn]at h24 hid;simp only[c143,ycfz,ycix,ychd,grV,yu,yba,yj,ykh,splice,hn,go_sem,Nat.reduceEqDiff,Nat.reduceAdd,Nat.reduceLeDiff,Nat.reduceLT,↓reduceIte,reduceCtorEq];refine⟨by omega,?_⟩
 refine ybe (σ:=Nat) (fun k=>⟨[(21,.i .i64 k),(19,yu g.ports),(20,.i .i64 n),(3,.pt (3,0) 0 0),(5,.pt (17,0) 0 0)],
   [(3,.one (some ⟨27,true,2,1,fun _=>[yj g.ids,yu g.ports]⟩)),(17,.one (some ⟨170,true,7,1,fun _=>[.a (.string p.name),ycp p.vars,ycf p.rules,yj g.ids,yu g.ports,.i .i64 ((g.ids.take k).foldl max 0),.os (15,0) 0 n true]⟩)),
    (15,.one (some ⟨22,false,1,n,fun i=>[if i<k then yj (yim g i)else .a (.slice none 0 0)]⟩))]⟩) (fun k=>k<=n) (fun k=>n - k) 0 (Nat.zero_le _) ?_ ?_
 ·refine yg [] [] [] ?_;simp only[yu,yba,yj,hn,allQ,live,yc,yw,Int.natCast_zero,go_sem,Nat.reduceEqDiff,↓reduceIte,reduceCtorEq];refine⟨fun i _=>by simp,fun i _=>?_⟩
  rw[if_neg (by omega)]
  simp only[yc,go_sem]
 ·intro k hk;simp only[yciu,ychj,ycpn,ycet,yu,yba,yj,splice,hn,go_sem,Nat.reduceEqDiff,Nat.reduceAdd,Nat.reduceLeDiff,↓reduceIte,reduceCtorEq];refine⟨fun hlt=>⟨by omega,by omega,by decide,?_⟩,fun hlt=>?_⟩
  ·have hk':k<n:=by omega
   obtain⟨ls,hls⟩:∃ ls,g.ports.getD k []=ls:=⟨_,rfl⟩;have hdeg:=hg.deg_lt (v:=k);rw[hls]at hdeg;rw[hls]
   have hback:∀ j,j<ls.length->(yim g k).getD j 0=yfp (g.ports.getD (ls.getD j (0,0)).1.toNat []) k:=fun j hj=>by
    unfold yim;rw[hls];simp[List.getD,hj]
   have hbl:(yim g k).length=ls.length:=by unfold yim;rw[hls,List.length_map]
   refine ybe (σ:=Nat) (fun j=>⟨[(41,.i .i64 j),(39,yba ls),(40,.i .i64 ls.length),(6,.i .i64 k),(21,.i .i64 k),(19,yu g.ports),(20,.i .i64 n),(3,.pt (3,0) 0 0),(5,.pt (17,0) 0 0)],
    [(3,.one (some ⟨27,true,2,1,fun _=>[yj g.ids,yu g.ports]⟩)),(17,.one (some ⟨170,true,7,1,fun _=>[.a (.string p.name),ycp p.vars,ycf p.rules,yj g.ids,yu g.ports,.i .i64 ((g.ids.take (k+1)).foldl max 0),.os (15,0) 0 n true]⟩)),
     (15,.one (some ⟨22,false,1,n,fun i=>[if i<k then yj (yim g i)else if i=k then .os (100,0) 0 j true else .a (.slice none 0 0)]⟩)),
     (100,.one (some ⟨3,false,1,j,fun q=>[.i .i64 ((yim g k).getD q 0)]⟩))]⟩) (fun j=>j<=ls.length) (fun j=>ls.length - j) 0 (Nat.zero_le _) ?_ ?_
   ·refine yg [] [100] [] ?_;simp only[yu,yba,yj,hn,ybim (show k<g.ids.length by omega),allQ,live,yc,Int.natCast_zero,go_sem,Nat.reduceEqDiff,Nat.reduceBEq,↓reduceIte,reduceCtorEq]
    intro i hi
    by_cases q1:i<k
    ·simp only[if_pos q1];simp only[yc,go_sem,reduceCtorEq]
    ·by_cases q2:i=k
     ·simp only[if_neg q1,if_pos q2];simp only[live,go_sem,Nat.reduceEqDiff,↓reduceIte];simp
     ·simp only[if_neg q1,if_neg q2];simp only[yc,go_sem,reduceCtorEq]
   ·intro j hj;simp only[ycna,yckz,ycqb,ybqb,ybmc,yu,yba,yj,splice,hn,go_sem,Nat.reduceEqDiff,Nat.reduceAdd,Nat.reduceLeDiff,Nat.reduceLT,↓reduceIte,reduceCtorEq]
    have hP:=fun hlt:j<ls.length=>ybiu g (ls.getD j (0,0)).1.toNat (by
     have:=hg.yca (v:=k) (p:=j) (by omega) (by rw[hls];omega)
     unfold yca at this;rw[hls]at this;omega) (k:Int) (by have:=hg.deg_lt (v:=(ls.getD j (0,0)).1.toNat);omega)
    have hto:j<ls.length->((ls.getD j (0,0)).1.toNat:Int)=(ls.getD j (0,0)).1:=fun hlt=>by
     have:=hg.yca (v:=k) (p:=j) (by omega) (by rw[hls];omega)
     unfold yca at this;rw[hls]at this;omega
    refine⟨fun hlt=>⟨by omega,by omega,by omega,?_⟩,fun hlt=>?_⟩
    ·have hj':j<ls.length:=by omega
     have hP:=hP hj';rw[hto hj']at hP;simp only[grV,yu,yba,yj,hn]at hP;refine hP.use ?_;simp only[thenO,splice,go_sem,Nat.reduceEqDiff,Nat.reduceAdd,Nat.reduceLeDiff,Nat.reduceLT,↓reduceIte,reduceCtorEq];refine⟨by decide,by omega,by decide,by omega,by omega,by decide,ikw (by omega) (by omega),?_⟩
     refine yh (j+1) (by omega) (by omega) ?_
     refine yg [(100,fun _=>(63,0))] [] [] ?_;simp only[allQ,live,yc,yw,go_sem,Nat.reduceEqDiff,↓reduceIte,reduceCtorEq];refine⟨by omega,fun i hi=>?_,fun i hi=>?_⟩
     ·by_cases q2:i=k
      ·simp only[if_pos q2,if_neg (show ¬ i<k by omega)]
       simp only[live,yc,go_sem,Nat.reduceEqDiff,↓reduceIte,reduceCtorEq]
      ·simp only[if_neg q2]
       by_cases q1:i<k
       ·simp only[if_pos q1];simp only[live,yc,go_sem,reduceCtorEq]
       ·simp only[if_neg q1];simp only[live,yc,go_sem,reduceCtorEq]
     ·by_cases q2:i<j
      ·simp only[if_pos q2];simp only[live,yc,go_sem,reduceCtorEq]
      ·obtain rfl:i=j:=by omega
       simp only[if_neg q2,Nat.sub_self,Nat.zero_mul];simp only[live,yw,go_sem,reduceCtorEq];rw[hback i hj']
    ·obtain rfl:j=ls.length:=by omega
     refine⟨ikw (by omega) (by omega),?_⟩
     refine yh (k+1) (by omega) (by omega) ?_
     refine yg [] [] [(100,0)] ?_;simp only[allQ,live,yc,yw,go_sem,Nat.reduceEqDiff,Nat.reduceLeDiff,↓reduceIte,reduceCtorEq];refine⟨by omega,fun i hi=>?_⟩
     by_cases q1:i<k
     ·simp only[if_pos q1,if_pos (show i<k+1 by omega)]
      simp only[yc,go_sem]
     ·by_cases q2:i=k
      ·simp only[if_neg q1,if_pos q2,if_pos (show i<k+1 by omega)]
       subst q2;simp only[hbl,yc,go_sem,Nat.reduceEqDiff,↓reduceIte]
      ·simp only[if_neg q1,if_neg q2,if_neg (show ¬ i<k+1 by omega)]
       simp only[yc,go_sem]
  ·obtain rfl:k=n:=by omega
   simp only[ybqe,go_sem,Nat.reduceEqDiff,Nat.reduceAdd,Nat.reduceLeDiff,↓reduceIte,reduceCtorEq];refine⟨fun q hq=>by simp only[if_pos hq];simp only[go_sem],?_⟩
   refine ydau ?_ (by simp only[yeo,go_sem])
   simp only[SimL,yeo,yj,yu,yba,yct,hn,yc,true_and,and_true];refine⟨?_,?_⟩
   ·rw[yw];refine⟨rfl,?_⟩;unfold ybex;rw[List.take_of_length_le (by omega)]
   ·refine yhe fun q hq=>?_;simp only[if_pos hq];simp only[SimL,yc,go_sem]
end Sh
end Go.Proofs.YtiejahgklcjhkaaGreatDoor

