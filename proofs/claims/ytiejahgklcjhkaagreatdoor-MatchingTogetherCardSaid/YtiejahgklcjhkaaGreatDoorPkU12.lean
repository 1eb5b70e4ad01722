/- Joined. -/
import Derived.Test.YtiejahgklcjhkaaGreatDoorPkU11
set_option linter.unusedSimpArgs false
set_option linter.unusedVariables false
set_option maxRecDepth 8000
open Nat renaming reduceEqDiff→zA,reduceAdd→zB,zero_le→zN,mul_le_mul→zZ
open Bool renaming and_eq_true→zC
open List renaming take_succ_eq_append_getElem→zD,getD_eq_getElem?_getD→zG,take_of_length_le→zI,eq_nil_of_length_eq_zero→zJ,getElem_mem→zK,mem_cons_self→zL,mem_cons_of_mem→zM,length_append→zO,foldl_append→zQ,findIdx?_eq_none_iff→zS,drop_eq_getElem_cons→zT,getD→zU,mem_of_getElem?→zV,elem_eq_mem→zW,range→zX
open Go.Proofs.Tryz renaming prog→zF,func132→zAB
open Int renaming natCast_zero→zH,natAbs_mul→zY
open Classical renaming byContradiction→zAA
open Go
namespace Go.Proofs.YtiejahgklcjhkaaGreatDoor
section
namespace Sh
open Go Ev
def ysn:List Nat:=[0,1,1,2,1,2,2,3,1,2,2,3,2,3,3,4,1,2,2,3,2,3,3,4,2,3,3,4,3,4,4,5,1,2,2,3,2,3,3,4,2,3,3,4,3,4,4,5,2,3,3,4,3,4,4,5,3,4,4,5,4,5,5,6,1,2,2,3,2,3,3,4,2,3,3,4,3,4,4,5,2,3,3,4,3,4,4,5,3,4,4,5,4,5,5,6,2,3,3,4,3,4,4,5,3,4,4,5,4,5,5,6,3,4,4,5,4,5,5,6,4,5,5,6,5,6,6,7,1,2,2,3,2,3,3,4,2,3,3,4,3,4,4,5,2,3,3,4,3,4,4,5,3,4,4,5,4,5,5,6,2,3,3,4,3,4,4,5,3,4,4,5,4,5,5,6,3,4,4,5,4,5,5,6,4,5,5,6,5,6,6,7,2,3,3,4,3,4,4,5,3,4,4,5,4,5,5,6,3,4,4,5,4,5,5,6,4,5,5,6,5,6,6,7,3,4,4,5,4,5,5,6,4,5,5,6,5,6,6,7,4,5,5,6,5,6,6,7,5,6,6,7,6,7,7,8]
def ycip:LO:=[o3 (.box 87 (.tmp 0)) 3 0,o3 (.box 27 (.tmp 1)) 4 0,o3 (.mv (ci' 0)) 6 0,o3 (.mv (ci' 0)) 7 4]
def ycgs:LO:=[o3 (.build [.i .i64 0,.a (.nilFunc)] [(0,1,(ci' 1)),(1,1,(.func 198))]) 11 0,o3 (.build [.i .i64 0,.a (.nilFunc)] [(0,1,(ci' 2)),(1,1,(.func 199))]) 12 0,o3 (.build [.i .i64 0,.a (.nilFunc)] [(0,1,(ci' 3)),(1,1,(.func 200))]) 13 0,o3 (.bslice 209 2 3 [.i .i64 0,.a (.nilFunc),.i .i64 0,.a (.nilFunc),.i .i64 0,.a (.nilFunc)] [(0,2,(.tmp 11)),(2,2,(.tmp 12)),(4,2,(.tmp 13))]) 14 7,mv' 14 8 15]
def ycbu:LO:=[mv' 8 15 0,ln' 15 16 1,o3 (.mv (ci' 0)) 17 0]
def ybfk:LO:=[bn' .lss 17 16 18 0]
def ybft:LO:=[ix' 2 15 17 19 0,ld' true 2 19 20 1,o3 (.alloc 209 1 [.i .i64 0,.a (.nilFunc)]) 10 0,o0 (.store 2 (.tmp 10) (.tmp 20)) 7]
def ybfr:LO:=[fa' 0 1 10 21 0,ld' false 1 21 22 1,fa' 1 1 3 23 0,ld' false 1 23 24 4,bn' .eql 22 24 25 15]
def ybfv:LO:=[fa' 1 1 10 26 0,ld' false 1 26 27 1,ld' true 6 3 28 0,ld' true 2 4 29 0,mv' 2 30 0,o3 (.call (.tmp 27) [(.tmp 28),(.tmp 29),(.tmp 30)]) 31 31,xt' 31 0 32 63,xt' 31 1 33 63,mv' 32 6 255,mv' 33 7 511]
def ybge:LO:=[o3 (.bin .add (.tmp 17) (ci' 1)) 34 0,mv' 34 17 1]
def ybgn:LO:=[o3 (.mv (ci' 0)) 6 0,o3 (.mv (.const (.int .i64 (-1)))) 7 1]
def c171:SC:=(.seq (.reg false ycip) (.seq (.reg false ycgs) (.seq (.seq (.reg false ycbu) (.block 0 (.loop (.seq (.reg false ybfk) (.seq (.cond (.tmp 18) .skip (.exit 0)) (.seq (.block 1 (.seq (.reg false ybft) (.seq (.reg false ybfr) (.cond (.tmp 25) (.seq (.reg false ybfv) .ret) .skip)))) (.reg false ybge))))))) (.seq (.reg false ybgn) .ret))))
theorem yctn:Fn 171 c171 [.t 6,.t 7]:=fn_0 Tryz.func171 (by kernel_rfl) (by kernel_rfl)
def ycbe:LO:=[o3 (.box 87 (.tmp 0)) 3 0,o3 (.box 27 (.tmp 1)) 4 0,o3 (.mv (ci' 0)) 6 0,o3 (.mv (ci' 0)) 7 4]
def yckk:LO:=[fa' 2 1 3 8 0,ld' false 1 8 9 1,fa' 3 1 3 10 0,ld' false 1 10 11 4,fa' 4 1 3 12 0,ld' false 1 12 13 16,fa' 0 1 4 14 0,ld' false 1 14 15 64,ln' 15 16 192,bn' .mul 13 16 17 496,bn' .add 11 17 18 1020,fa' 5 1 3 19 0,ld' false 1 19 20 2048,fa' 0 1 4 21 0,ld' false 1 21 22 8192,cl' 160 [22] 23 24576,bn' .mul 20 23 24 63488,bn' .add 18 24 25 131068,mv' 9 6 57347,mv' 25 7 524287]
def c198:SC:=(.seq (.reg false ycbe) (.seq (.reg true yckk) .ret))
theorem ycvt:Fn 198 c198 [.t 6,.t 7]:=fn_0 Tryz.func198 (by kernel_rfl) (by kernel_rfl)
def ycku:LO:=[o3 (.box 87 (.tmp 0)) 3 0,o3 (.box 27 (.tmp 1)) 4 0,o3 (.mv (ci' 0)) 6 0,o3 (.mv (ci' 0)) 7 4]
def ycgr:LO:=[o3 (.mv (ci' 0)) 6 0,o3 (.mv (ci' 1)) 7 1]
def c199:SC:=(.seq (.reg false ycku) (.seq (.reg false ycgr) .ret))
theorem ycsp:Fn 199 c199 [.t 6,.t 7]:=fn_0 Tryz.func199 (by kernel_rfl) (by kernel_rfl)
def ycga:LO:=[o3 (.box 87 (.tmp 0)) 3 0,o3 (.box 27 (.tmp 1)) 4 0,o3 (.mv (ci' 0)) 6 0,o3 (.mv (ci' 0)) 7 4]
def ycgq:LO:=[fa' 1 1 4 8 0,ld' false 1 8 9 1,mv' 2 10 0,ix' 1 9 10 11 7,ld' false 1 11 12 15,ln' 12 13 31,o3 (.bin .sub (.tmp 13) (ci' 1)) 14 63,o3 (.mv (.const (.int .i64 (-1)))) 6 0,mv' 14 7 255]
def c200:SC:=(.seq (.reg false ycga) (.seq (.reg true ycgq) .ret))
theorem ycxe:Fn 200 c200 [.t 6,.t 7]:=fn_0 Tryz.func200 (by kernel_rfl) (by kernel_rfl)
def ycom:LO:=[o3 (.box 58 (.tmp 0)) 2 0,o3 (.box 27 (.tmp 1)) 3 0,o3 (.mv (.const (.slice none 0 0))) 4 0]
def ycff:LO:=[fa' 0 1 3 9 0,ld' false 1 9 10 1,ln' 10 11 3,o3 (.mk 73 1 24 [.a (.slice none 0 0)] (.tmp 11) (.tmp 11)) 12 7,mv' 12 5 15]
def yckl:LO:=[mv' 5 13 0,ln' 13 14 1,o3 (.mv (ci' 0)) 15 0]
def ycpb:LO:=[bn' .lss 15 14 16 0]
def ycdq:LO:=[mv' 15 17 0,mv' 17 6 1]
def ycjl:LO:=[mv' 5 18 0,mv' 6 19 0,fa' 1 1 2 20 0,ld' false 1 20 21 4,ln' 21 22 12,o3 (.mk 75 2 16 [.i .i64 0,.i .i64 0] (.tmp 22) (.tmp 22)) 23 28,ix' 1 18 19 24 63,o0 (.store 1 (.tmp 24) (.tmp 23)) 127]
def ycmr:LO:=[fa' 1 1 2 25 0,ld' false 1 25 26 1,ln' 26 27 3,o3 (.mv (ci' 0)) 28 0]
def ycgo:LO:=[bn' .lss 28 27 29 0]
def ycbo:LO:=[mv' 28 30 0,ix' 6 26 28 31 0,ld' true 6 31 32 2,o3 (.alloc 87 1 [.a (.string (ByteArray.mk #[])),.i .i64 0,.i .i64 0,.i .i64 0,.i .i64 0,.i .i64 0]) 8 0,mv' 30 7 15,o0 (.store 6 (.tmp 8) (.tmp 32)) 31]
def ycmz:LO:=[mv' 5 34 0,mv' 6 35 0,ix' 1 34 35 36 3,ld' false 1 36 37 7,mv' 7 38 0,mv' 5 39 0,mv' 6 40 0,ix' 1 39 40 41 96,ld' false 1 41 42 224,mv' 7 43 0,ld' true 6 8 44 0,ld' true 2 3 45 0,mv' 6 46 0,cl' 171 [44,45,46] 47 7168,mv' 47 33 15360,xt' 33 0 48 31744,xt' 33 1 49 31744,ix' 2 37 38 50 31,o3 (.idxA 2 1 (.tmp 50) (ci' 0)) 51 196095,o0 (.store 1 (.tmp 51) (.tmp 48)) 458239,ix' 2 42 43 52 992,o3 (.idxA 2 1 (.tmp 52) (ci' 1)) 53 2097151,o0 (.store 1 (.tmp 53) (.tmp 49)) 4194303]
def ybou:LO:=[o3 (.bin .add (.tmp 28) (ci' 1)) 54 0,mv' 54 28 1]
def ybpd:LO:=[o3 (.bin .add (.tmp 15) (ci' 1)) 55 0,mv' 55 15 1]
def ybnt:LO:=[mv' 5 56 0,mv' 56 4 1]
def c144:SC:=(.seq (.reg false ycom) (.seq (.reg false ycff) (.seq (.seq (.reg false yckl) (.block 0 (.loop (.seq (.reg false ycpb) (.seq (.cond (.tmp 16) .skip (.exit 0)) (.seq (.block 1 (.seq (.reg false ycdq) (.seq (.reg false ycjl) (.seq (.reg false ycmr) (.block 2 (.loop (.seq (.reg false ycgo) (.seq (.cond (.tmp 29) .skip (.exit 2)) (.seq (.block 3 (.seq (.reg false ycbo) (.reg true ycmz))) (.reg false ybou)))))))))) (.reg false ybpd))))))) (.seq (.reg false ybnt) .ret))))
theorem ycvv:Fn 144 c144 [.t 4]:=fn_0 Tryz.func144 (by kernel_rfl) (by kernel_rfl)
def yckx:LO:=[o3 (.box 75 (.tmp 1)) 4 0,o3 (.mv (ci' 0)) 6 0]
def ycen:LO:=[mv' 2 8 0,o3 (.idxA 2 1 (.tmp 4) (ci' 0)) 9 0,ld' false 1 9 10 2,bn' .geq 8 10 11 7,mv' 11 12 15,⟨.mv (.tmp 2),some 13,some (12,true),31⟩,⟨.idxA 2 1 (.tmp 4) (ci' 1),some 14,some (12,true),31⟩,⟨.load false 1 (.tmp 14),some 15,some (12,true),95⟩,⟨.bin .leq (.tmp 13) (.tmp 15),some 16,some (12,true),255⟩,o3 (.pick (.tmp 12) (.tmp 16) (.const (.bool false))) 17 511,mv' 17 7 1023]
def ycpk:LO:=[mv' 2 18 0,mv' 18 6 1]
def ycnl:LO:=[mv' 0 20 0,o3 (.bin .eql (.tmp 20) (ci' 3)) 21 1,mv' 21 19 3]
def yccw:LO:=[o3 (.mv (.const (.int .i64 (-1)))) 6 0]
def ycdv:LO:=[mv' 2 23 0,o3 (.idxA 2 1 (.tmp 4) (ci' 0)) 24 0,ld' false 1 24 25 2,bn' .lss 23 25 26 7,mv' 26 22 15]
def ychc:LO:=[o3 (.idxA 2 1 (.tmp 4) (ci' 0)) 27 0,ld' false 1 27 28 1,mv' 28 6 3]
def ycfq:LO:=[o3 (.idxA 2 1 (.tmp 4) (ci' 1)) 29 0,ld' false 1 29 30 1,mv' 30 6 3]
def c194:SC:=(.seq (.reg false yckx) (.seq (.block 0 (.seq (.reg false ycen) (.cond (.tmp 7) (.seq (.reg false ycpk) .ret) (.seq (.reg false ycnl) (.cond (.tmp 19) (.seq (.reg false yccw) .ret) (.seq (.reg false ycdv) (.cond (.tmp 22) (.seq (.reg false ychc) .ret) .skip))))))) (.seq (.reg false ycfq) .ret)))
theorem ycro:Fn 194 c194 [.t 6]:=fn_0 Tryz.func194 (by kernel_rfl) (by kernel_rfl)
def ycnt:LO:=[o3 (.box 58 (.tmp 0)) 2 0,o3 (.box 27 (.tmp 1)) 3 0,o3 (.mv (ci' 0)) 4 0]
def ycjw:LO:=[ld' true 3 2 9 0,cl' 191 [9] 10 1,o3 (.un .not (.tmp 10)) 11 3]
def ycoo:LO:=[o3 (.mv (ci' 8)) 4 0]
def ycnv:LO:=[ld' true 2 3 12 0,cl' 96 [12] 13 1,o3 (.un .not (.tmp 13)) 14 3]
def ycnx:LO:=[o3 (.mv (ci' 1)) 4 0]
def yckq:LO:=[fa' 1 1 2 15 0,ld' false 1 15 16 1,ln' 16 17 3,o3 (.mv (ci' 0)) 18 0]
def ycer:LO:=[bn' .lss 18 17 19 0]
def ycbn:LO:=[ix' 6 16 18 20 0,ld' true 6 20 21 1,o3 (.alloc 87 1 [.a (.string (ByteArray.mk #[])),.i .i64 0,.i .i64 0,.i .i64 0,.i .i64 0,.i .i64 0]) 6 0,o0 (.store 6 (.tmp 6) (.tmp 21)) 7]
def ycmb:LO:=[fa' 1 1 6 22 0,ld' false 1 22 23 1,o3 (.bin .neq (.tmp 23) (ci' 1)) 24 3]
def ycbv:LO:=[ld' true 6 6 26 0,ld' true 2 3 27 0,o3 (.call (.func 171) [(.tmp 26),(.tmp 27),(ci' 0)]) 28 3,mv' 28 25 7,xt' 25 0 29 15,xt' 25 1 30 15,mv' 29 7 31,mv' 30 8 127]
def ybti:LO:=[mv' 8 31 0,mv' 7 32 0,bn' .lss 31 32 33 3,mv' 33 34 7,⟨.mv (.tmp 8),some 35,some (34,false),15⟩,⟨.mv (.tmp 7),some 36,some (34,false),15⟩,⟨.bin .sub (.tmp 35) (.tmp 36),some 37,some (34,false),63⟩,⟨.bin .add (.tmp 37) (ci' 1),some 38,some (34,false),127⟩,⟨.bin .gtr (.tmp 38) (ci' 4096),some 39,some (34,false),255⟩,o3 (.pick (.tmp 34) (.const (.bool true)) (.tmp 39)) 40 511]
def yboz:LO:=[o3 (.mv (ci' 9)) 4 0]
def ybkz:LO:=[o3 (.bin .add (.tmp 18) (ci' 1)) 41 0,mv' 41 18 1]
def ybuz:LO:=[o3 (.mv (ci' 0)) 4 0]
def c155:SC:=(.seq (.reg false ycnt) (.seq (.seq (.reg false ycjw) (.cond (.tmp 11) (.seq (.reg false ycoo) .ret) .skip)) (.seq (.seq (.reg false ycnv) (.cond (.tmp 14) (.seq (.reg false ycnx) .ret) .skip)) (.seq (.seq (.reg false yckq) (.block 0 (.loop (.seq (.reg false ycer) (.seq (.cond (.tmp 19) .skip (.exit 0)) (.seq (.block 1 (.seq (.reg false ycbn) (.seq (.seq (.reg false ycmb) (.cond (.tmp 24) (.exit 1) .skip)) (.seq (.reg false ycbv) (.seq (.reg false ybti) (.cond (.tmp 40) (.seq (.reg false yboz) .ret) .skip)))))) (.reg false ybkz))))))) (.seq (.reg false ybuz) .ret)))))
theorem ycsw:Fn 155 c155 [.t 4]:=fn_0 Tryz.func155 (by kernel_rfl) (by kernel_rfl)
def ycph:LO:=[o3 (.box 58 (.tmp 0)) 3 0,o3 (.box 27 (.tmp 1)) 4 0,o3 (.mv (ci' 0)) 6 0]
def ycmo:LO:=[ld' true 3 3 8 0,ld' true 2 4 9 0,cl' 155 [8,9] 10 3,mv' 10 7 7]
def ycdl:LO:=[mv' 7 11 0,o3 (.bin .neq (.tmp 11) (ci' 0)) 12 1]
def ycct:LO:=[mv' 7 13 0,mv' 13 6 1]
def ycpj:LO:=[ld' true 3 3 14 0,ld' true 2 4 15 0,cl' 144 [14,15] 16 3,mv' 2 17 0,cl' 156 [16,17] 18 15,o3 (.un .not (.tmp 18)) 19 31]
def ycec:LO:=[o3 (.mv (ci' 10)) 6 0]
def ycke:LO:=[o3 (.mv (ci' 0)) 6 0]
def c112:SC:=(.seq (.reg false ycph) (.seq (.seq (.reg false ycmo) (.seq (.reg false ycdl) (.cond (.tmp 12) (.seq (.reg false ycct) .ret) .skip))) (.seq (.seq (.reg false ycpj) (.cond (.tmp 19) (.seq (.reg false ycec) .ret) .skip)) (.seq (.reg false ycke) .ret))))
theorem ycvr:Fn 112 c112 [.t 6]:=fn_0 Tryz.func112 (by kernel_rfl) (by kernel_rfl)
def ycoc:LO:=[o3 (.mv (.const (.bool false))) 4 0]
def ycfp:LO:=[mv' 1 7 0,ln' 7 8 1,mv' 0 9 0,ln' 9 10 4,bn' .neq 8 10 11 15]
def ycpx:LO:=[o3 (.mv (.const (.bool false))) 4 0]
def ycns:LO:=[mv' 0 12 0,ln' 12 13 1,o3 (.mv (ci' 0)) 14 0]
def ycml:LO:=[bn' .lss 14 13 15 0]
def ycmh:LO:=[mv' 14 16 0,ix' 1 12 14 17 0,ld' false 1 17 18 2,mv' 16 5 7,mv' 18 6 15]
def ycgz:LO:=[mv' 6 19 0,mv' 1 20 0,mv' 5 21 0,ix' 1 20 21 22 6,ld' false 1 22 23 14,cl' 192 [19,23] 24 31,o3 (.un .not (.tmp 24)) 25 63]
def ycdr:LO:=[o3 (.mv (.const (.bool false))) 4 0]
def ycpc:LO:=[o3 (.bin .add (.tmp 14) (ci' 1)) 26 0,mv' 26 14 1]
def ycjr:LO:=[o3 (.mv (.const (.bool true))) 4 0]
def c156:SC:=(.seq (.reg false ycoc) (.seq (.seq (.reg false ycfp) (.cond (.tmp 11) (.seq (.reg false ycpx) .ret) .skip)) (.seq (.seq (.reg false ycns) (.block 0 (.loop (.seq (.reg false ycml) (.seq (.cond (.tmp 15) .skip (.exit 0)) (.seq (.block 1 (.seq (.reg false ycmh) (.seq (.reg false ycgz) (.cond (.tmp 25) (.seq (.reg false ycdr) .ret) .skip)))) (.reg false ycpc))))))) (.seq (.reg false ycjr) .ret))))
theorem ycvs:Fn 156 c156 [.t 4]:=fn_0 Tryz.func156 (by kernel_rfl) (by kernel_rfl)
def ycnz:LO:=[o3 (.mv (.const (.bool false))) 4 0]
def ycnn:LO:=[mv' 1 7 0,ln' 7 8 1,mv' 0 9 0,ln' 9 10 4,bn' .neq 8 10 11 15]
def yche:LO:=[o3 (.mv (.const (.bool false))) 4 0]
def ycpy:LO:=[mv' 1 12 0,ln' 12 13 1,o3 (.mv (ci' 0)) 14 0]
def ycfe:LO:=[bn' .lss 14 13 15 0]
def yccz:LO:=[mv' 14 16 0,ix' 1 12 14 17 0,ld' false 1 17 18 2,mv' 16 5 7,mv' 18 6 15]
def ycoi:LO:=[mv' 6 19 0,mv' 0 20 0,mv' 5 21 0,ix' 2 20 21 22 6,o3 (.idxA 2 1 (.tmp 22) (ci' 0)) 23 14,ld' false 1 23 24 30,bn' .lss 19 24 25 63,mv' 25 26 127,⟨.mv (.tmp 6),some 27,some (26,false),255⟩,⟨.mv (.tmp 0),some 28,some (26,false),255⟩,⟨.mv (.tmp 5),some 29,some (26,false),255⟩,⟨.idx 2 (.tmp 28) (.tmp 29),some 30,some (26,false),1791⟩,⟨.idxA 2 1 (.tmp 30) (ci' 1),some 31,some (26,false),3839⟩,⟨.load false 1 (.tmp 31),some 32,some (26,false),7935⟩,⟨.bin .gtr (.tmp 27) (.tmp 32),some 33,some (26,false),16383⟩,o3 (.pick (.tmp 26) (.const (.bool true)) (.tmp 33)) 34 32767]
def ycfk:LO:=[o3 (.mv (.const (.bool false))) 4 0]
def ycbt:LO:=[o3 (.bin .add (.tmp 14) (ci' 1)) 35 0,mv' 35 14 1]
def ycgc:LO:=[o3 (.mv (.const (.bool true))) 4 0]
def c192:SC:=(.seq (.reg false ycnz) (.seq (.seq (.reg false ycnn) (.cond (.tmp 11) (.seq (.reg false yche) .ret) .skip)) (.seq (.seq (.reg false ycpy) (.block 0 (.loop (.seq (.reg false ycfe) (.seq (.cond (.tmp 15) .skip (.exit 0)) (.seq (.block 1 (.seq (.reg false yccz) (.seq (.reg false ycoi) (.cond (.tmp 34) (.seq (.reg false ycfk) .ret) .skip)))) (.reg false ycbt))))))) (.seq (.reg false ycgc) .ret))))
theorem ycxf:Fn 192 c192 [.t 4]:=fn_0 Tryz.func192 (by kernel_rfl) (by kernel_rfl)
def ybox:LO:=[o3 (.mv (.const (.slice none 0 0))) 2 0]
def ybow:LO:=[mv' 0 6 0,ln' 6 7 1,o3 (.mk 22 1 24 [.a (.slice none 0 0)] (.tmp 7) (.tmp 7)) 8 3,mv' 8 3 7]
def ybmx:LO:=[mv' 0 9 0,ln' 9 10 1,o3 (.mv (ci' 0)) 11 0]
def yzc:LO:=[bn' .lss 11 10 12 0]
def yzp:LO:=[mv' 11 13 0,ix' 1 9 11 14 0,ld' false 1 14 15 2,mv' 13 4 7,mv' 15 5 15]
def yzw:LO:=[mv' 3 16 0,mv' 4 17 0,mv' 5 18 0,o3 (.app 3 1 8 (.const (.slice none 0 0)) (.tmp 18)) 19 4,ix' 1 16 17 20 15,o0 (.store 1 (.tmp 20) (.tmp 19)) 31]
def ybag:LO:=[o3 (.bin .add (.tmp 11) (ci' 1)) 21 0,mv' 21 11 1]
def yxt:LO:=[mv' 3 22 0,mv' 22 2 1]
def c132:SC:=(.seq (.reg false ybox) (.seq (.reg false ybow) (.seq (.seq (.reg false ybmx) (.block 0 (.loop (.seq (.reg false yzc) (.seq (.cond (.tmp 12) .skip (.exit 0)) (.seq (.block 1 (.seq (.reg false yzp) (.reg false yzw))) (.reg false ybag))))))) (.seq (.reg false yxt) .ret))))
theorem ycwo:Fn 132 c132 [.t 2]:=fn_0 zAB (by kernel_rfl) (by kernel_rfl)
theorem ybxa:FnM 132 c132 [.t 2]:=fn_m zAB (by kernel_rfl) (by kernel_rfl)
def ydbe:LO:=[o3 (.box 58 (.tmp 0)) 2 0,o3 (.box 27 (.tmp 1)) 3 0,o3 (.mv (.const (.pointer none))) 4 0]
def ycyr:LO:=[ld' true 3 2 5 0,ld' true 3 2 6 0,ld' true 2 3 7 0,cl' 143 [6,7] 8 6,ld' true 3 2 9 0,ld' true 2 3 10 0,cl' 144 [9,10] 11 62,o3 (.build [.a (.string (ByteArray.mk #[])),.a (.slice none 0 0),.a (.slice none 0 0),.a (.pointer none),.a (.slice none 0 0)] [(0,3,(.tmp 5)),(3,1,(.tmp 8)),(4,1,(.tmp 11))]) 12 127,o3 (.box 140 (.tmp 12)) 13 255,mv' 13 4 511]
def c93:SC:=(.seq (.reg false ydbe) (.seq (.reg true ycyr) .ret))
theorem ydbq:Fn 93 c93 [.t 4]:=fn_0 Tryz.func93 (by kernel_rfl) (by kernel_rfl)
def ycin:LO:=[o3 (.mv (ci' 0)) 6 0]
def yceh:LO:=[mv' 0 8 0,o3 (.nilck (.tmp 8)) 9 1,fa' 0 3 9 10 3,fa' 2 1 10 11 7,ld' false 1 11 12 15,ln' 12 13 31,o3 (.mv (ci' 0)) 14 0]
def ycbi:LO:=[bn' .lss 14 13 15 0]
def yccs:LO:=[mv' 14 16 0,mv' 16 7 1]
def ycmw:LO:=[mv' 0 17 0,o3 (.nilck (.tmp 17)) 18 1,fa' 3 1 18 19 3,ld' false 1 19 20 7,mv' 1 21 0,mv' 2 22 0,mv' 7 23 0,cl' 172 [20,21,22,23] 24 127]
def yccd:LO:=[mv' 7 25 0,mv' 25 6 1]
def ycko:LO:=[o3 (.bin .add (.tmp 14) (ci' 1)) 26 0,mv' 26 14 1]
def yccy:LO:=[o3 (.mv (.const (.int .i64 (-1)))) 6 0]
def c147:SC:=(.seq (.reg false ycin) (.seq (.seq (.reg false yceh) (.block 0 (.loop (.seq (.reg false ycbi) (.seq (.cond (.tmp 15) .skip (.exit 0)) (.seq (.block 1 (.seq (.reg false yccs) (.seq (.reg false ycmw) (.cond (.tmp 24) (.seq (.reg false yccd) .ret) .skip)))) (.reg false ycko))))))) (.seq (.reg false yccy) .ret)))
theorem ycrt:Fn 147 c147 [.t 6]:=fn_0 Tryz.func147 (by kernel_rfl) (by kernel_rfl)
def ydar:LO:=[o3 (.box 99 (.tmp 0)) 2 0,o3 (.box 34 (.tmp 1)) 3 0,o3 (.mv (.const (.int .u32 0))) 4 0]
def ydaf:LO:=[ld' false 1 2 5 0,o3 (.nilck (.tmp 5)) 6 1,fa' 4 1 6 7 3,ld' false 1 7 8 7,ln' 8 9 15,o3 (.mkfn 146 [] [(.tmp 2),(.tmp 3)]) 10 0,cl' 145 [9,10] 11 63,mv' 11 4 127]
def c94:SC:=(.seq (.reg false ydar) (.seq (.reg false ydaf) .ret))
theorem ycza:Fn 94 c94 [.t 4]:=fn_0 Tryz.func94 (by kernel_rfl) (by kernel_rfl)
def ycpg:LO:=[o3 (.mv (.const (.bool false))) 4 0]
def ycmg:LO:=[ld' false 1 1 5 0,ld' false 1 2 6 0,mv' 0 7 0,cl' 147 [5,6,7] 8 7,o3 (.bin .geq (.tmp 8) (ci' 0)) 9 15,mv' 9 4 31]
def c146:SC:=(.seq (.reg false ycpg) (.seq (.reg false ycmg) .ret))
theorem ycvy:Fn 146 c146 [.t 4]:=fn_0 Tryz.func146 (by kernel_rfl) (by kernel_rfl)
def ycoh:LO:=[o3 (.mv (.const (.slice none 0 0))) 8 0]
def ycod:LO:=[mv' 1 13 0,mv' 2 14 0,ix' 1 13 14 15 3,ld' false 1 15 16 7,o3 (.app 3 1 8 (.const (.slice none 0 0)) (.tmp 16)) 17 15,mv' 17 9 31]
def ycos:LO:=[mv' 0 18 0,o3 (.nilck (.tmp 18)) 19 1,fa' 0 3 19 20 3,fa' 2 1 20 21 7,ld' false 1 21 22 15,mv' 3 23 0,ix' 3 22 23 24 63,fa' 2 1 24 25 127,ld' false 1 25 26 255,ln' 26 27 511,o3 (.mv (ci' 0)) 28 0]
def ycly:LO:=[bn' .lss 28 27 29 0]
def ycje:LO:=[ix' 2 26 28 30 0,ld' true 2 30 31 1,o3 (.alloc 200 1 [.i .i64 0,.a (.slice none 0 0)]) 11 0,o0 (.store 2 (.tmp 11) (.tmp 31)) 7]
def ychq:LO:=[mv' 0 32 0,o3 (.nilck (.tmp 32)) 33 1,fa' 3 1 33 34 3,ld' false 1 34 35 7,mv' 1 36 0,mv' 2 37 0,fa' 1 1 11 38 0,ld' false 1 38 39 64,cl' 193 [35,36,37,39] 40 255,mv' 40 12 511]
def ycmm:LO:=[mv' 9 41 0,fa' 0 1 11 42 0,ld' false 1 42 43 2,mv' 0 44 0,o3 (.nilck (.tmp 44)) 45 8,fa' 0 3 45 46 24,fa' 1 1 46 47 56,ld' false 1 47 48 120,fa' 0 1 11 49 0,ld' false 1 49 50 256,ix' 6 48 50 51 1016,fa' 1 1 51 52 2040,ld' false 1 52 53 4088,mv' 0 54 0,o3 (.nilck (.tmp 54)) 55 8192,fa' 4 1 55 56 24576,ld' false 1 56 57 57344,mv' 2 58 0,ix' 1 57 58 59 253952,ld' false 1 59 60 516096,fa' 0 1 11 61 0,ld' false 1 61 62 1048576,ix' 2 60 62 63 4186112,ld' true 2 63 64 8380416,mv' 12 65 0,cl' 194 [53,64,65] 66 33554424,ix' 1 41 43 67 67108863,o0 (.store 1 (.tmp 67) (.tmp 66)) 134217727]
def ycew:LO:=[o3 (.bin .add (.tmp 28) (ci' 1)) 68 0,mv' 68 28 1]
def ycea:LO:=[mv' 9 69 0,mv' 69 8 1]
def c157:SC:=(.seq (.reg false ycoh) (.seq (.reg false ycod) (.seq (.seq (.reg false ycos) (.block 0 (.loop (.seq (.reg false ycly) (.seq (.cond (.tmp 29) .skip (.exit 0)) (.seq (.block 1 (.seq (.reg false ycje) (.seq (.reg true ychq) (.reg true ycmm)))) (.reg false ycew))))))) (.seq (.reg false ycea) .ret))))
theorem ycqn:Fn 157 c157 [.t 8]:=fn_0 Tryz.func157 (by kernel_rfl) (by kernel_rfl)
def ycjn:LO:=[o3 (.mv (.const (.slice none 0 0))) 6 0]
def ycpf:LO:=[mv' 1 9 0,cl' 132 [9] 10 1,mv' 10 7 3]
def ycpa:LO:=[mv' 1 11 0,ln' 11 12 1,o3 (.mv (ci' 0)) 13 0]
def ycid:LO:=[bn' .lss 13 12 14 0]
def ycmx:LO:=[mv' 13 15 0,mv' 15 8 1]
def ycmy:LO:=[mv' 2 16 0,mv' 8 17 0,bn' .shr 16 17 18 3,o3 (.bin .and (.tmp 18) (.const (.int .u32 1))) 19 7,o3 (.bin .eql (.tmp 19) (.const (.int .u32 1))) 20 15]
def ycbp:LO:=[mv' 7 21 0,mv' 8 22 0,mv' 0 23 0,mv' 1 24 0,mv' 8 25 0,mv' 0 26 0,mv' 1 27 0,mv' 8 28 0,cl' 147 [26,27,28] 29 224,cl' 157 [23,24,25,29] 30 508,ix' 1 21 22 31 1023,o0 (.store 1 (.tmp 31) (.tmp 30)) 2047]
def ycou:LO:=[o3 (.bin .add (.tmp 13) (ci' 1)) 32 0,mv' 32 13 1]
def ycmu:LO:=[mv' 7 33 0,mv' 33 6 1]
def c113:SC:=(.seq (.reg false ycjn) (.seq (.reg false ycpf) (.seq (.seq (.reg false ycpa) (.block 0 (.loop (.seq (.reg false ycid) (.seq (.cond (.tmp 14) .skip (.exit 0)) (.seq (.block 1 (.seq (.reg false ycmx) (.seq (.reg false ycmy) (.cond (.tmp 20) (.reg false ycbp) .skip)))) (.reg false ycou))))))) (.seq (.reg false ycmu) .ret))))
theorem ybyi:FnU 113 c113 [.t 6]:=fn_u Tryz.func113 (by kernel_rfl) (by kernel_rfl)
def ycbs:LO:=[o3 (.mv (.const (.int .u32 0))) 4 0]
def ycdy:LO:=[o3 (.mv (.const (.int .u32 0))) 5 0]
def yclz:LO:=[mv' 0 7 0,o3 (.mv (ci' 0)) 8 0]
def ycha:LO:=[bn' .lss 8 7 9 0]
def ycnb:LO:=[mv' 8 10 0,mv' 10 6 1]
def ychf:LO:=[mv' 1 11 0,mv' 6 12 0,o3 (.call (.tmp 11) [(.tmp 12)]) 13 3]
def ychb:LO:=[mv' 5 14 0,mv' 6 15 0,o3 (.bin .shl (.const (.int .u32 1)) (.tmp 15)) 16 2,bn' .or 14 16 17 7,mv' 17 5 15]
def yccj:LO:=[o3 (.bin .add (.tmp 8) (ci' 1)) 18 0,mv' 18 8 1]
def ycfh:LO:=[mv' 5 19 0,mv' 19 4 1]
def c145:SC:=(.seq (.reg false ycbs) (.seq (.reg false ycdy) (.seq (.seq (.reg false yclz) (.block 0 (.loop (.seq (.reg false ycha) (.seq (.cond (.tmp 9) .skip (.exit 0)) (.seq (.block 1 (.seq (.reg false ycnb) (.seq (.reg false ychf) (.cond (.tmp 13) (.reg false ychb) .skip)))) (.reg false yccj))))))) (.seq (.reg false ycfh) .ret))))
theorem ycud:Fn 145 c145 [.t 4]:=fn_0 Tryz.func145 (by kernel_rfl) (by kernel_rfl)
def yccc:LO:=[o3 (.mv (.const (.bool false))) 2 0]
def ycft:LO:=[mv' 0 5 0,ln' 5 6 1,o3 (.mv (ci' 0)) 7 0]
def yces:LO:=[bn' .lss 7 6 8 0]
def yckf:LO:=[ix' 1 5 7 9 0,ld' false 1 9 10 1,mv' 10 4 3]
def yceb:LO:=[mv' 4 11 0,o3 (.bin .andNot (.tmp 11) (.const (.int .u32 16777215))) 12 1,o3 (.bin .neq (.tmp 12) (.const (.int .u32 0))) 13 3]
def ycop:LO:=[o3 (.mv (.const (.bool false))) 2 0]
def ycde:LO:=[o3 (.bin .add (.tmp 7) (ci' 1)) 14 0,mv' 14 7 1]
def ycjy:LO:=[o3 (.mv (.const (.bool true))) 2 0]
def c223:SC:=(.seq (.reg false yccc) (.seq (.seq (.reg false ycft) (.block 0 (.loop (.seq (.reg false yces) (.seq (.cond (.tmp 8) .skip (.exit 0)) (.seq (.block 1 (.seq (.reg false yckf) (.seq (.reg false yceb) (.cond (.tmp 13) (.seq (.reg false ycop) .ret) .skip)))) (.reg false ycde))))))) (.seq (.reg false ycjy) .ret)))
theorem ycqp:Fn 223 c223 [.t 2]:=fn_0 Tryz.func223 (by kernel_rfl) (by kernel_rfl)
def ycfu:LO:=[o3 (.box 48 (.tmp 0)) 1 0,o3 (.mv (.const (.bool false))) 2 0]
def ycgh:LO:=[fa' 0 1 1 3 0,ld' false 1 3 4 1,o3 (.bin .lss (.tmp 4) (ci' 0)) 5 3,mv' 5 6 7,⟨.faddr 0 1 (.tmp 1),some 7,some (6,false),15⟩,⟨.load false 1 (.tmp 7),some 8,some (6,false),31⟩,⟨.bin .gtr (.tmp 8) (ci' 4096),some 9,some (6,false),63⟩,o3 (.pick (.tmp 6) (.const (.bool true)) (.tmp 9)) 10 127,mv' 10 11 255,⟨.faddr 2 1 (.tmp 1),some 12,some (11,false),511⟩,⟨.load false 1 (.tmp 12),some 13,some (11,false),1023⟩,⟨.bin .lss (.tmp 13) (ci' 0),some 14,some (11,false),2047⟩,o3 (.pick (.tmp 11) (.const (.bool true)) (.tmp 14)) 15 4095,mv' 15 16 8191,⟨.faddr 2 1 (.tmp 1),some 17,some (16,false),16383⟩,⟨.load false 1 (.tmp 17),some 18,some (16,false),32767⟩,⟨.faddr 3 1 (.tmp 1),some 19,some (16,false),16383⟩,⟨.load false 1 (.tmp 19),some 20,some (16,false),81919⟩,⟨.bin .gtr (.tmp 18) (.tmp 20),some 21,some (16,false),262143⟩,o3 (.pick (.tmp 16) (.const (.bool true)) (.tmp 21)) 22 524287,mv' 22 23 1048575,⟨.faddr 3 1 (.tmp 1),some 24,some (23,false),2097151⟩,⟨.load false 1 (.tmp 24),some 25,some (23,false),4194303⟩,⟨.faddr 0 1 (.tmp 1),some 26,some (23,false),2097151⟩,⟨.load false 1 (.tmp 26),some 27,some (23,false),10485759⟩,⟨.bin .gtr (.tmp 25) (.tmp 27),some 28,some (23,false),33554431⟩,o3 (.pick (.tmp 23) (.const (.bool true)) (.tmp 28)) 29 67108863]
def ydam:LO:=[o3 (.mv (.const (.bool false))) 2 0]
def yccg:LO:=[fa' 3 1 1 30 0,ld' false 1 30 31 1,fa' 2 1 1 32 0,ld' false 1 32 33 4,o3 (.bin .add (.tmp 33) (ci' 1)) 34 12,bn' .gtr 31 34 35 31]
def yddg:LO:=[o3 (.mv (.const (.bool false))) 2 0]
def yclt:LO:=[fa' 0 1 1 36 0,ld' false 1 36 37 1,fa' 1 1 1 38 0,ld' false 1 38 39 4,bn' .leq 37 39 40 15,mv' 40 41 31,⟨.faddr 1 1 (.tmp 1),some 42,some (41,true),63⟩,⟨.load false 1 (.tmp 42),some 43,some (41,true),127⟩,⟨.faddr 0 1 (.tmp 1),some 44,some (41,true),63⟩,⟨.load false 1 (.tmp 44),some 45,some (41,true),319⟩,⟨.bin .mul (ci' 24) (.tmp 45),some 46,some (41,true),831⟩,⟨.bin .leq (.tmp 43) (.tmp 46),some 47,some (41,true),2047⟩,o3 (.pick (.tmp 41) (.tmp 47) (.const (.bool false))) 48 4095,mv' 48 49 8191,⟨.faddr 4 1 (.tmp 1),some 50,some (49,true),16383⟩,⟨.load false 1 (.tmp 50),some 51,some (49,true),32767⟩,⟨.bslice 40 1 1 [.i .u32 0] [(0,1,(.tmp 51))],some 52,some (49,true),65535⟩,⟨.call (.func 223) [(.tmp 52)],some 53,some (49,true),131071⟩,o3 (.pick (.tmp 49) (.tmp 53) (.const (.bool false))) 54 262143,mv' 54 2 524287]
def c222:SC:=(.seq (.reg false ycfu) (.seq (.seq (.reg false ycgh) (.cond (.tmp 29) (.seq (.reg false ydam) .ret) .skip)) (.seq (.seq (.reg false yccg) (.cond (.tmp 35) (.seq (.reg false yddg) .ret) .skip)) (.seq (.reg false yclt) .ret))))
theorem ycwb:Fn 222 c222 [.t 2]:=fn_0 Tryz.func222 (by kernel_rfl) (by kernel_rfl)
def ycio:LO:=[o3 (.alloc 48 1 [.i .i64 0,.i .i64 0,.i .i64 0,.i .i64 0,.i .u32 0]) 2 0]
def yccb:LO:=[mv' 0 3 0,o3 (.bin .and (.tmp 3) (.const (.int .u32 16777215))) 4 1,o3 (.build [.i .i64 0,.i .i64 0,.i .i64 0,.i .i64 0,.i .u32 0] [(4,1,(.tmp 4))]) 5 3,o0 (.store 5 (.tmp 2) (.tmp 5)) 7]
def c195:SC:=(.seq (.reg false ycio) (.seq (.reg false yccb) .ret))
theorem ycvh:Fn 195 c195 [.c 2 true 5]:=fn_0 Tryz.func195 (by kernel_rfl) (by kernel_rfl)
def ycjd:LO:=[o3 (.box 48 (.tmp 0)) 3 0,o3 (.alloc 48 1 [.i .i64 0,.i .i64 0,.i .i64 0,.i .i64 0,.i .u32 0]) 6 0,o3 (.mv (ci' 0)) 7 0]
def ycqe:LO:=[ld' true 5 3 8 0,cl' 222 [8] 9 1,o3 (.un .not (.tmp 9)) 10 3]
def ydaw:LO:=[o3 (.build [.i .i64 0,.i .i64 0,.i .i64 0,.i .i64 0,.i .u32 0] []) 11 0,o0 (.store 5 (.tmp 6) (.tmp 11)) 1,o3 (.mv (ci' 7)) 7 3]
def ycoz:LO:=[mv' 1 12 0,o3 (.bin .eql (.tmp 12) (.const (.int .u32 0))) 13 1,mv' 13 14 3,⟨.mv (.tmp 1),some 15,some (14,false),7⟩,⟨.mv (.tmp 2),some 16,some (14,false),7⟩,⟨.bslice 40 1 2 [.i .u32 0,.i .u32 0] [(0,1,(.tmp 15)),(1,1,(.tmp 16))],some 17,some (14,false),31⟩,⟨.call (.func 223) [(.tmp 17)],some 18,some (14,false),63⟩,⟨.un .not (.tmp 18),some 19,some (14,false),127⟩,o3 (.pick (.tmp 14) (.const (.bool true)) (.tmp 19)) 20 255]
def ydbr:LO:=[o3 (.build [.i .i64 0,.i .i64 0,.i .i64 0,.i .i64 0,.i .u32 0] []) 21 0,o0 (.store 5 (.tmp 6) (.tmp 21)) 1,o3 (.mv (ci' 11)) 7 3]
def ycfw:LO:=[fa' 0 1 3 22 0,ld' false 1 22 23 1,o3 (.bin .eql (.tmp 23) (ci' 4096)) 24 3]
def yddk:LO:=[o3 (.build [.i .i64 0,.i .i64 0,.i .i64 0,.i .i64 0,.i .u32 0] []) 25 0,o0 (.store 5 (.tmp 6) (.tmp 25)) 1,o3 (.mv (ci' 3)) 7 3]
def ychd:LO:=[fa' 0 1 3 26 0,ld' false 1 26 27 1,o3 (.bin .add (.tmp 27) (ci' 1)) 28 3,fa' 0 1 3 29 7,o0 (.store 1 (.tmp 29) (.tmp 28)) 15]
def ycdi:LO:=[fa' 1 1 3 30 0,ld' false 1 30 31 1,mv' 1 32 0,cl' 104 [32] 33 4,bn' .add 31 33 34 15,fa' 1 1 3 35 31,o0 (.store 1 (.tmp 35) (.tmp 34)) 63]
def ycps:LO:=[fa' 2 1 3 36 0,ld' false 1 36 37 1,o3 (.bin .add (.tmp 37) (ci' 1)) 38 3,fa' 3 1 3 39 7,o0 (.store 1 (.tmp 39) (.tmp 38)) 15]
def ybqe:LO:=[fa' 4 1 3 40 0,ld' false 1 40 41 1,mv' 1 42 0,bn' .andNot 41 42 43 7,mv' 2 44 0,bn' .and 43 44 45 31,fa' 4 1 3 46 63,o0 (.store 1 (.tmp 46) (.tmp 45)) 127]
def ybsp:LO:=[fa' 4 1 3 47 0,ld' false 1 47 48 1,o3 (.bin .eql (.tmp 48) (.const (.int .u32 0))) 49 3]
def ybuq:LO:=[fa' 3 1 3 50 0,ld' false 1 50 51 1,fa' 2 1 3 52 3,o0 (.store 1 (.tmp 52) (.tmp 51)) 7]
def ybpx:LO:=[mv' 2 53 0,fa' 4 1 3 54 1,o0 (.store 1 (.tmp 54) (.tmp 53)) 3]
def ybcg:LO:=[ld' true 5 3 55 0,o0 (.store 5 (.tmp 6) (.tmp 55)) 1,o3 (.mv (ci' 0)) 7 3]
def c197:SC:=(.seq (.reg false ycjd) (.seq (.seq (.reg false ycqe) (.cond (.tmp 10) (.seq (.reg false ydaw) .ret) .skip)) (.seq (.seq (.reg false ycoz) (.cond (.tmp 20) (.seq (.reg false ydbr) .ret) .skip)) (.seq (.seq (.reg false ycfw) (.cond (.tmp 24) (.seq (.reg false yddk) .ret) .skip)) (.seq (.reg false ychd) (.seq (.reg true ycdi) (.seq (.reg false ycps) (.seq (.reg false ybqe) (.seq (.seq (.reg false ybsp) (.cond (.tmp 49) (.seq (.reg false ybuq) (.reg false ybpx)) .skip)) (.seq (.reg false ybcg) .ret))))))))))
theorem ycrj:Fn 197 c197 [.c 6 true 5,.t 7]:=fn_0 Tryz.func197 (by kernel_rfl) (by kernel_rfl)
def ycdb:LO:=[o3 (.mv (ci' 0)) 2 0]
def ycht:LO:=[mv' 0 3 0,o3 (.bin .shr (.tmp 3) (.const (.int .u64 24))) 4 1,o3 (.stri ysn (.tmp 4)) 5 3,mv' 0 6 0,o3 (.bin .shr (.tmp 6) (.const (.int .u64 16))) 7 8,o3 (.bin .and (.tmp 7) (.const (.int .u32 255))) 8 24,o3 (.stri ysn (.tmp 8)) 9 56,bn' .add 5 9 10 127,mv' 0 11 0,o3 (.bin .shr (.tmp 11) (.const (.int .u64 8))) 12 256,o3 (.bin .and (.tmp 12) (.const (.int .u32 255))) 13 768,o3 (.stri ysn (.tmp 13)) 14 1792,bn' .add 10 14 15 4095,mv' 0 16 0,o3 (.bin .and (.tmp 16) (.const (.int .u32 255))) 17 8192,o3 (.stri ysn (.tmp 17)) 18 24576,bn' .add 15 18 19 65535,o3 (.conv .i64 (.tmp 19)) 20 131071,mv' 20 2 262143]
def c104:SC:=(.seq (.reg false ycdb) (.seq (.reg true ycht) .ret))
theorem ycvl:Fn 104 c104 [.t 2]:=fn_0 Tryz.func104 (by kernel_rfl) (by kernel_rfl)
def ycbm:LO:=[o3 (.box 27 (.tmp 0)) 1 0,o3 (.mv (.const (.slice none 0 0))) 2 0]
def ycpv:LO:=[fa' 1 1 1 8 0,ld' false 1 8 9 1,ln' 9 10 3,o3 (.mk 40 1 4 [.i .u32 0] (.tmp 10) (.tmp 10)) 11 7,mv' 11 3 15]
def ycnr:LO:=[fa' 1 1 1 12 0,ld' false 1 12 13 1,ln' 13 14 3,o3 (.mv (ci' 0)) 15 0]
def ycld:LO:=[bn' .lss 15 14 16 0]
def ycez:LO:=[mv' 15 17 0,ix' 1 13 15 18 0,ld' false 1 18 19 2,mv' 17 4 7,mv' 19 5 15]
def ycjk:LO:=[mv' 5 20 0,ln' 20 21 1,o3 (.mv (ci' 0)) 22 0]
def ycfv:LO:=[bn' .lss 22 21 23 0]
def yckc:LO:=[ix' 2 20 22 24 0,ld' true 2 24 25 1,o3 (.alloc 95 1 [.i .i64 0,.i .i64 0]) 7 0,o0 (.store 2 (.tmp 7) (.tmp 25)) 7]
def ycls:LO:=[mv' 3 26 0,mv' 4 27 0,ix' 1 26 27 28 3,ld' false 1 28 29 7,fa' 0 1 7 30 0,ld' false 1 30 31 16,o3 (.bin .shl (.const (.int .u32 1)) (.tmp 31)) 32 48,bn' .or 29 32 33 127,ix' 1 26 27 34 255,o0 (.store 1 (.tmp 34) (.tmp 33)) 511]
def ycck:LO:=[o3 (.bin .add (.tmp 22) (ci' 1)) 35 0,mv' 35 22 1]
def ybln:LO:=[o3 (.bin .add (.tmp 15) (ci' 1)) 36 0,mv' 36 15 1]
def ybqm:LO:=[mv' 3 37 0,mv' 37 2 1]
def c110:SC:=(.seq (.reg false ycbm) (.seq (.reg false ycpv) (.seq (.seq (.reg false ycnr) (.block 0 (.loop (.seq (.reg false ycld) (.seq (.cond (.tmp 16) .skip (.exit 0)) (.seq (.block 1 (.seq (.reg false ycez) (.seq (.reg false ycjk) (.block 2 (.loop (.seq (.reg false ycfv) (.seq (.cond (.tmp 23) .skip (.exit 2)) (.seq (.block 3 (.seq (.reg false yckc) (.reg true ycls))) (.reg false ycck))))))))) (.reg false ybln))))))) (.seq (.reg false ybqm) .ret))))
theorem ycwy:Fn 110 c110 [.t 2]:=fn_0 Tryz.func110 (by kernel_rfl) (by kernel_rfl)
def yckp:LO:=[o3 (.mv (.const (.bool false))) 8 0]
def yckh:LO:=[mv' 3 9 0,o3 (.bin .eql (.tmp 9) (.const (.int .u32 0))) 10 1,mv' 10 11 3,⟨.mv (.tmp 3),some 12,some (11,false),7⟩,⟨.mv (.tmp 2),some 13,some (11,false),7⟩,⟨.bin .andNot (.tmp 12) (.tmp 13),some 14,some (11,false),31⟩,⟨.bin .neq (.tmp 14) (.const (.int .u32 0)),some 15,some (11,false),63⟩,o3 (.pick (.tmp 11) (.const (.bool true)) (.tmp 15)) 16 127]
def ydbs:LO:=[o3 (.mv (.const (.bool false))) 8 0]
def ycho:LO:=[mv' 1 17 0]
def ycco:LO:=[o3 (.bin .eql (.tmp 17) (ci' 1)) 19 0,mv' 19 18 1]
def yczf:LO:=[mv' 3 20 0,mv' 3 21 0,o3 (.bin .sub (.tmp 21) (.const (.int .u32 1))) 22 2,bn' .and 20 22 23 7,o3 (.bin .eql (.tmp 23) (.const (.int .u32 0))) 24 15,mv' 24 8 31]
def ycfn:LO:=[o3 (.bin .eql (.tmp 17) (ci' 2)) 26 0,mv' 26 25 1]
def ydaa:LO:=[mv' 0 27 0,mv' 3 28 0,cl' 221 [27,28] 29 3,mv' 29 8 7]
def ycna:LO:=[o3 (.bin .eql (.tmp 17) (ci' 4)) 31 0,mv' 31 30 1]
def ycnc:LO:=[mv' 3 32 0,mv' 2 33 0,bn' .eql 32 33 34 3,mv' 34 8 7]
def ybrj:LO:=[o3 (.mv (.const (.bool true))) 8 0]
def c196:SC:=(.seq (.reg false yckp) (.seq (.seq (.reg false yckh) (.cond (.tmp 16) (.seq (.reg false ydbs) .ret) .skip)) (.seq (.seq (.reg false ycho) (.block 0 (.seq (.reg false ycco) (.cond (.tmp 18) (.seq (.reg false yczf) .ret) (.seq (.reg false ycfn) (.cond (.tmp 25) (.seq (.reg false ydaa) .ret) (.seq (.reg false ycna) (.cond (.tmp 30) (.seq (.reg false ycnc) .ret) .skip)))))))) (.seq (.reg false ybrj) .ret))))
theorem ycxb:Fn 196 c196 [.t 8]:=fn_0 Tryz.func196 (by kernel_rfl) (by kernel_rfl)
def ybod:LO:=[o3 (.box 110 (.tmp 0)) 4 0,o3 (.mv (.const (.int .u32 0))) 8 0]
def ybky:LO:=[mv' 3 11 0,mv' 2 12 0,bn' .and 11 12 13 3,mv' 13 3 7]
def ybsf:LO:=[mv' 3 14 0,o3 (.bin .eql (.tmp 14) (.const (.int .u32 0))) 15 1]
def ybgz:LO:=[mv' 2 16 0,mv' 2 17 0,o3 (.un .neg (.tmp 17)) 18 2,bn' .and 16 18 19 7,mv' 19 3 15]
def ybem:LO:=[mv' 1 20 0]
def ybgq:LO:=[o3 (.bin .eql (.tmp 20) (ci' 1)) 22 0,mv' 22 21 1]
def ycye:LO:=[mv' 3 23 0,mv' 3 24 0,o3 (.un .neg (.tmp 24)) 25 2,bn' .and 23 25 26 7,mv' 26 8 15]
def ybfw:LO:=[o3 (.bin .eql (.tmp 20) (ci' 2)) 28 0,mv' 28 27 1]
def ycze:LO:=[o3 (.alloc 40 1 [.i .u32 0]) 9 0,o0 (.store 1 (.tmp 9) (.const (.int .u32 0))) 1]
def ydbw:LO:=[mv' 3 29 0,cl' 154 [29] 30 1]
def ycwe:LO:=[mv' 31 10 0]
def yctb:LO:=[ld' false 1 4 32 0,mv' 10 33 0,ix' 1 32 33 34 3,ld' false 1 34 35 7,ld' false 1 9 36 0,bn' .and 35 36 37 31,o3 (.bin .eql (.tmp 37) (.const (.int .u32 0))) 38 63]
def ycrb:LO:=[ld' false 1 9 39 0,mv' 10 40 0,o3 (.bin .shl (.const (.int .u32 1)) (.tmp 40)) 41 2,bn' .or 39 41 42 7,o0 (.store 1 (.tmp 9) (.tmp 42)) 15]
def ycvx:LO:=[ld' false 1 9 43 0,mv' 43 8 1]
def yuv:LO:=[o3 (.bin .eql (.tmp 20) (ci' 4)) 45 0,mv' 45 44 1]
def ywn:LO:=[mv' 2 46 0,mv' 46 8 1]
def ycuw:LO:=[mv' 3 47 0,mv' 47 8 1]
def c111:SC:=(.seq (.reg false ybod) (.seq (.reg false ybky) (.seq (.seq (.reg false ybsf) (.cond (.tmp 15) (.reg false ybgz) .skip)) (.seq (.seq (.reg false ybem) (.block 0 (.seq (.reg false ybgq) (.cond (.tmp 21) (.seq (.reg false ycye) .ret) (.seq (.reg false ybfw) (.cond (.tmp 27) (.seq (.reg false ycze) (.seq (.seq (.reg false ydbw) (.block 1 (.range (.tmp 30) [31] (.reg false ycwe) (.block 2 (.seq (.reg true yctb) (.cond (.tmp 38) (.reg true ycrb) .skip)))))) (.seq (.reg false ycvx) .ret))) (.seq (.reg false yuv) (.cond (.tmp 44) (.seq (.reg false ywn) .ret) .skip)))))))) (.seq (.reg false ycuw) .ret)))))
theorem ybob:Fn 111 c111 [.t 8]:=fn_0 Tryz.func111 (by kernel_rfl) (by kernel_rfl)
def ycdf:LO:=[o3 (.mv (.const (.bool false))) 2 0]
def ycbz:LO:=[mv' 0 3 0,o3 (.bin .geq (.tmp 3) (ci' 1)) 4 1,mv' 4 5 3,⟨.mv (.tmp 0),some 6,some (5,true),7⟩,⟨.bin .leq (.tmp 6) (ci' 4),some 7,some (5,true),15⟩,o3 (.pick (.tmp 5) (.tmp 7) (.const (.bool false))) 8 31,mv' 8 2 63]
def c108:SC:=(.seq (.reg false ycdf) (.seq (.reg false ycbz) .ret))
theorem yctt:Fn 108 c108 [.t 2]:=fn_0 Tryz.func108 (by kernel_rfl) (by kernel_rfl)
def yckz:LO:=[o3 (.box 58 (.tmp 0)) 5 0,o3 (.box 27 (.tmp 1)) 6 0,o3 (.mv (ci' 0)) 10 0]
def ycki:LO:=[ld' true 3 5 12 0,ld' true 2 6 13 0,mv' 3 14 0,cl' 112 [12,13,14] 15 7,mv' 15 11 15]
def ycbg:LO:=[mv' 11 16 0,o3 (.bin .neq (.tmp 16) (ci' 0)) 17 1]
def ycxt:LO:=[mv' 11 18 0,mv' 18 10 1]
def ycbx:LO:=[mv' 2 19 0,cl' 108 [19] 20 1,o3 (.un .not (.tmp 20)) 21 3]
def ydea:LO:=[o3 (.mv (ci' 12)) 10 0]
def ycdc:LO:=[mv' 4 22 0,o3 (.bin .gtr (.tmp 22) (ci' 4096)) 23 1]
def yczd:LO:=[o3 (.mv (ci' 3)) 10 0]
def ycbk:LO:=[o3 (.mv (ci' 0)) 10 0]
def c129:SC:=(.seq (.reg false yckz) (.seq (.seq (.reg false ycki) (.seq (.reg false ycbg) (.cond (.tmp 17) (.seq (.reg false ycxt) .ret) .skip))) (.seq (.seq (.reg false ycbx) (.cond (.tmp 21) (.seq (.reg false ydea) .ret) .skip)) (.seq (.seq (.reg false ycdc) (.cond (.tmp 23) (.seq (.reg false yczd) .ret) .skip)) (.seq (.reg false ycbk) .ret)))))
theorem ycrf:Fn 129 c129 [.t 10]:=fn_0 Tryz.func129 (by kernel_rfl) (by kernel_rfl)
def ycma:LO:=[o3 (.box 58 (.tmp 0)) 4 0,o3 (.box 27 (.tmp 1)) 5 0,o3 (.alloc 126 1 [.a (.pointer none),.a (.slice none 0 0),.i .i64 0,.i .u32 0,.a (.nilFunc)]) 8 0]
def yckv:LO:=[ld' true 3 4 9 0,ld' true 2 5 10 0,cl' 93 [9,10] 11 3,ld' true 2 5 12 0,cl' 110 [12] 13 15,mv' 2 14 0,ld' true 2 5 15 0,cl' 109 [15] 16 95,mv' 3 17 0,o3 (.build [.a (.pointer none),.a (.slice none 0 0),.i .i64 0,.i .u32 0,.a (.nilFunc)] [(0,1,(.tmp 11)),(1,1,(.tmp 13)),(2,1,(.tmp 14)),(3,1,(.tmp 16)),(4,1,(.tmp 17))]) 18 511,o0 (.store 5 (.tmp 8) (.tmp 18)) 1023]
def c130:SC:=(.seq (.reg false ycma) (.seq (.reg true yckv) .ret))
theorem ybvp:FnM 130 c130 [.c 8 true 5]:=fn_m Tryz.func130 (by kernel_rfl) (by kernel_rfl)
def ycky:LO:=[o3 (.box 126 (.tmp 0)) 4 0,o3 (.alloc 130 1 [.a (.slice none 0 0),.a (.slice none 0 0),.a (.slice none 0 0),.i .i64 0,.i .i64 0,.i .i64 0,.i .i64 0,.i .u32 0]) 8 0,o3 (.mv (ci' 0)) 9 0]
def yclq:LO:=[o3 (.alloc 130 1 [.a (.slice none 0 0),.a (.slice none 0 0),.a (.slice none 0 0),.i .i64 0,.i .i64 0,.i .i64 0,.i .i64 0,.i .u32 0]) 10 0]
def ycif:LO:=[mv' 1 16 0,cl' 132 [16] 17 1,mv' 17 1 3]
def ycdz:LO:=[fa' 0 1 4 18 0,ld' false 1 18 19 1,mv' 1 20 0,cl' 94 [19,20] 21 7,fa' 3 1 4 22 0,ld' false 1 22 23 16,bn' .and 21 23 24 63,mv' 24 11 127]
def ychr:LO:=[mv' 11 25 0,cl' 195 [25] 26 1,o3 (.alloc 48 1 [.i .i64 0,.i .i64 0,.i .i64 0,.i .i64 0,.i .u32 0]) 12 0,o0 (.store 5 (.tmp 12) (.tmp 26)) 7]
def yciq:LO:=[fa' 4 1 4 27 0,ld' false 1 27 28 1,mv' 1 29 0,mv' 11 30 0,ld' true 5 12 31 0,o3 (.call (.tmp 28) [(.tmp 29),(.tmp 30),(.tmp 31)]) 32 31]
def ycfc:LO:=[fa' 1 1 10 33 0,ld' false 1 33 34 1,mv' 11 35 0,o3 (.bslice 40 1 1 [.i .u32 0] [(0,1,(.tmp 35))]) 36 4,o3 (.app 40 1 4 (.tmp 34) (.tmp 36)) 37 15,fa' 1 1 10 38 31,o0 (.store 1 (.tmp 38) (.tmp 37)) 63]
def ycii:LO:=[mv' 2 39 0,o3 (.mv (ci' 0)) 40 0]
def ycfz:LO:=[bn' .lss 40 39 41 0]
def ycmn:LO:=[mv' 40 42 0,mv' 42 13 1]
def ybmm:LO:=[mv' 3 44 0,mv' 13 45 0,mv' 11 46 0,o3 (.call (.tmp 44) [(.tmp 45),(.tmp 46)]) 47 7,mv' 47 43 15,xt' 43 0 48 31,xt' 43 1 49 31,mv' 48 14 63,mv' 49 15 255]
def ybci:LO:=[mv' 15 50 0,o3 (.un .not (.tmp 50)) 51 1]
def ybpl:LO:=[fa' 1 1 4 52 0,ld' false 1 52 53 1,fa' 2 1 4 54 0,ld' false 1 54 55 4,mv' 11 56 0,mv' 14 57 0,cl' 196 [53,55,56,57] 58 63,o3 (.un .not (.tmp 58)) 59 127]
def ycww:LO:=[o3 (.build [.a (.slice none 0 0),.a (.slice none 0 0),.a (.slice none 0 0),.i .i64 0,.i .i64 0,.i .i64 0,.i .i64 0,.i .u32 0] []) 60 0,o0 (.store 8 (.tmp 8) (.tmp 60)) 1,o3 (.mv (ci' 11)) 9 3]
def ybrp:LO:=[fa' 0 1 4 61 0,ld' false 1 61 62 1,mv' 1 63 0,mv' 14 64 0,cl' 113 [62,63,64] 65 15,mv' 65 1 31]
def ybno:LO:=[fa' 0 1 4 66 0,ld' false 1 66 67 1,mv' 1 68 0,cl' 94 [67,68] 69 7,fa' 3 1 4 70 0,ld' false 1 70 71 16,bn' .and 69 71 72 63,mv' 72 11 127]
def ybtf:LO:=[ld' true 5 12 74 0,mv' 14 75 0,mv' 11 76 0,cl' 197 [74,75,76] 77 7,mv' 77 73 15,xt' 73 0 78 31,xt' 73 1 79 31,o0 (.store 5 (.tmp 12) (.tmp 78)) 63]
def ybtz:LO:=[fa' 4 1 4 80 0,ld' false 1 80 81 1,mv' 1 82 0,mv' 11 83 0,ld' true 5 12 84 0,o3 (.call (.tmp 81) [(.tmp 82),(.tmp 83),(.tmp 84)]) 85 31]
def ybqg:LO:=[fa' 0 1 10 86 0,ld' false 1 86 87 1,mv' 14 88 0,o3 (.bslice 40 1 1 [.i .u32 0] [(0,1,(.tmp 88))]) 89 4,o3 (.app 40 1 4 (.tmp 87) (.tmp 89)) 90 15,fa' 0 1 10 91 31,o0 (.store 1 (.tmp 91) (.tmp 90)) 63]
def ybmg:LO:=[fa' 1 1 10 92 0,ld' false 1 92 93 1,mv' 11 94 0,o3 (.bslice 40 1 1 [.i .u32 0] [(0,1,(.tmp 94))]) 95 4,o3 (.app 40 1 4 (.tmp 93) (.tmp 95)) 96 15,fa' 1 1 10 97 31,o0 (.store 1 (.tmp 97) (.tmp 96)) 63]
def ybmc:LO:=[o3 (.bin .add (.tmp 40) (ci' 1)) 98 0,mv' 98 40 1]
def ybbr:LO:=[mv' 1 99 0,ld' true 5 12 100 0,fa' 2 1 10 101 1,o0 (.store 1 (.tmp 101) (.tmp 99)) 5,fa' 3 5 10 102 15,o0 (.store 5 (.tmp 102) (.tmp 100)) 31]
def ybbl:LO:=[ld' true 8 10 103 0,o0 (.store 8 (.tmp 8) (.tmp 103)) 1,o3 (.mv (ci' 0)) 9 3]
def c168:SC:=(.seq (.reg false ycky) (.seq (.reg false yclq) (.seq (.reg false ycif) (.seq (.reg true ycdz) (.seq (.reg false ychr) (.seq (.reg false yciq) (.seq (.reg false ycfc) (.seq (.seq (.reg false ycii) (.block 0 (.loop (.seq (.reg false ycfz) (.seq (.cond (.tmp 41) .skip (.exit 0)) (.seq (.block 1 (.seq (.reg false ycmn) (.seq (.reg false ybmm) (.seq (.seq (.reg false ybci) (.cond (.tmp 51) (.exit 0) .skip)) (.seq (.seq (.reg false ybpl) (.cond (.tmp 59) (.seq (.reg false ycww) .ret) .skip)) (.seq (.reg false ybrp) (.seq (.reg true ybno) (.seq (.reg false ybtf) (.seq (.reg false ybtz) (.seq (.reg false ybqg) (.reg false ybmg))))))))))) (.reg false ybmc))))))) (.seq (.reg true ybbr) (.seq (.reg false ybbl) .ret))))))))))
theorem ybvz:FnM 168 c168 [.c 8 true 8,.t 9]:=fn_m Tryz.func168 (by kernel_rfl) (by kernel_rfl)
def yclc:LO:=[o3 (.box 126 (.tmp 0)) 3 0,o3 (.box 38 (.tmp 2)) 5 0,o3 (.alloc 130 1 [.a (.slice none 0 0),.a (.slice none 0 0),.a (.slice none 0 0),.i .i64 0,.i .i64 0,.i .i64 0,.i .i64 0,.i .u32 0]) 6 0,o3 (.mv (ci' 0)) 7 0]
def ycmq:LO:=[ld' true 5 3 8 0,mv' 1 9 0,ld' false 1 5 10 0,ln' 10 11 4,o3 (.mkfn 169 [] [(.tmp 3),(.tmp 5)]) 12 0,cl' 168 [8,9,11,12] 13 31,xt' 13 0 14 63,xt' 13 1 15 63,o0 (.store 8 (.tmp 6) (.tmp 14)) 255,mv' 15 7 511]
def c133:SC:=(.seq (.reg false yclc) (.seq (.reg false ycmq) .ret))
theorem ybzm:FnM 133 c133 [.c 6 true 8,.t 7]:=fn_m Tryz.func133 (by kernel_rfl) (by kernel_rfl)
def yboc:LO:=[o3 (.mv (.const (.int .u32 0))) 6 0,o3 (.mv (.const (.bool false))) 7 1]
def ybrz:LO:=[fa' 1 1 2 8 0,ld' false 1 8 9 1,fa' 2 1 2 10 0,ld' false 1 10 11 4,mv' 1 12 0,ld' false 1 3 13 0,mv' 0 14 0,ix' 1 13 14 15 96,ld' false 1 15 16 224,cl' 111 [9,11,12,16] 17 511,mv' 1 18 0,o3 (.bin .neq (.tmp 18) (.const (.int .u32 0))) 19 1024,mv' 17 6 1023,mv' 19 7 8191]
def c169:SC:=(.seq (.reg false yboc) (.seq (.reg true ybrz) .ret))
theorem ybqv:Fn 169 c169 [.t 6,.t 7]:=fn_0 Tryz.func169 (by kernel_rfl) (by kernel_rfl)
def ydde:LO:=[o3 (.box 58 (.tmp 0)) 5 0,o3 (.box 27 (.tmp 1)) 6 0,o3 (.mv (.const (.slice none 0 0))) 10 0,o3 (.mv (.const (.slice none 0 0))) 11 4,o3 (.mv (ci' 0)) 12 12]
def yddb:LO:=[ld' true 3 5 19 0,ld' true 2 6 20 0,mv' 2 21 0,mv' 3 22 0,mv' 4 23 0,ln' 23 24 16,cl' 129 [19,20,21,22,24] 25 63,mv' 25 13 127]
def yddh:LO:=[mv' 13 26 0,o3 (.bin .neq (.tmp 26) (ci' 0)) 27 1]
def ydhf:LO:=[mv' 13 28 0,o3 (.mv (.const (.slice none 0 0))) 10 0,o3 (.mv (.const (.slice none 0 0))) 11 2,mv' 28 12 7]
def ydbd:LO:=[o3 (.alloc 29 1 [.a (.slice none 0 0)]) 14 0]
def ydby:LO:=[o3 (.alloc 30 1 [.a (.slice none 0 0)]) 15 0]
def ycyo:LO:=[ld' true 3 5 29 0,ld' true 2 6 30 0,mv' 2 31 0,o3 (.mkfn 131 [] [(.tmp 14),(.tmp 15)]) 32 0,cl' 130 [29,30,31,32] 33 15,o3 (.alloc 126 1 [.a (.pointer none),.a (.slice none 0 0),.i .i64 0,.i .u32 0,.a (.nilFunc)]) 16 0,o0 (.store 5 (.tmp 16) (.tmp 33)) 63]
def yczt:LO:=[ld' true 5 16 35 0,mv' 3 36 0,mv' 4 37 0,cl' 133 [35,36,37] 38 7,mv' 38 34 15,xt' 34 0 39 31,xt' 34 1 40 31,o3 (.alloc 130 1 [.a (.slice none 0 0),.a (.slice none 0 0),.a (.slice none 0 0),.i .i64 0,.i .i64 0,.i .i64 0,.i .i64 0,.i .u32 0]) 17 0,o0 (.store 8 (.tmp 17) (.tmp 39)) 191,mv' 40 18 511]
def ydbz:LO:=[mv' 18 41 0,o3 (.bin .neq (.tmp 41) (ci' 0)) 42 1]
def ydfc:LO:=[mv' 18 43 0,o3 (.mv (.const (.slice none 0 0))) 10 0,o3 (.mv (.const (.slice none 0 0))) 11 2,mv' 43 12 7]
def ycex:LO:=[ld' false 1 14 44 0,ld' false 1 15 45 0,mv' 44 10 1,mv' 45 11 7,o3 (.mv (ci' 0)) 12 15]
def c78:SC:=(.seq (.reg false ydde) (.seq (.seq (.reg false yddb) (.seq (.reg false yddh) (.cond (.tmp 27) (.seq (.reg false ydhf) .ret) .skip))) (.seq (.reg false ydbd) (.seq (.reg false ydby) (.seq (.reg false ycyo) (.seq (.seq (.reg false yczt) (.seq (.reg false ydbz) (.cond (.tmp 42) (.seq (.reg false ydfc) .ret) .skip))) (.seq (.reg true ycex) .ret)))))))
theorem ycwu:FnU 78 c78 [.t 10,.t 11,.t 12]:=fn_u Tryz.func78 (by kernel_rfl) (by kernel_rfl)
def ybuv:LO:=[o3 (.box 48 (.tmp 2)) 7 0]
def ybsn:LO:=[ld' false 1 3 8 0,mv' 0 9 0,cl' 132 [9] 10 2,o3 (.bslice 34 1 1 [.a (.slice none 0 0)] [(0,1,(.tmp 10))]) 11 6,o3 (.app 34 1 24 (.tmp 8) (.tmp 11)) 12 15,o0 (.store 1 (.tmp 3) (.tmp 12)) 31]
def ybtk:LO:=[ld' false 1 4 13 0,ld' true 5 7 14 0,o3 (.bslice 48 5 1 [.i .i64 0,.i .i64 0,.i .i64 0,.i .i64 0,.i .u32 0] [(0,5,(.tmp 14))]) 15 2,o3 (.app 48 5 40 (.tmp 13) (.tmp 15)) 16 7,o0 (.store 1 (.tmp 4) (.tmp 16)) 15]
def c131:SC:=(.seq (.reg false ybuv) (.seq (.reg true ybsn) (.reg false ybtk)))
theorem yben:FnM 131 c131 []:=fn_m Tryz.func131 (by kernel_rfl) (by kernel_rfl)
end Sh
end
section
structure VarR where
 name:ByteArray
 kind:Int
 lo:Int
 hi:Int
 perNode:Int
 perID:Int
def varE:Elem VarR:=fun w b o x=>w.cell? ⟨b,o,none⟩=some (.string x.name)/\w.cell? ⟨b,o+1,none⟩=some (.int .i64 x.kind)/\w.cell? ⟨b,o+2,none⟩=some (.int .i64 x.lo)/\w.cell? ⟨b,o+3,none⟩=some (.int .i64 x.hi) /\
 w.cell? ⟨b,o+4,none⟩=some (.int .i64 x.perNode)/\w.cell? ⟨b,o+5,none⟩=some (.int .i64 x.perID)
theorem Stable.var:Stable varE:=fun _ _ _ _ _ h _ hx=>⟨h _ _ hx.1,h _ _ hx.2.1,h _ _ hx.2.2.1,h _ _ hx.2.2.2.1,h _ _ hx.2.2.2.2.1,h _ _ hx.2.2.2.2.2⟩
theorem ybhq(ids:List Int)(k:Nat)(hk:k<ids.length):(ids.take (k+1)).foldl max 0=max ((ids.take k).foldl max 0) ids[k]:=by
 rw[take_snoc ids k hk,zQ];rfl
theorem yyu(D:List Int)(m:Int)(h:∀x∈D,x<=m):∀a:Int,a<=m->D.foldl max a<=m:=by
 induction D with
 |nil=>intro a ha;exact ha
 |cons x D ih=>intro a ha;exact ih (fun y hy=>h y (by simp[hy])) _ (Int.max_le.2 ⟨ha,h x (by simp)⟩)
theorem ypw{g:Gr}(hg:ybb g):0<=ybek g/\ybek g<=255:=⟨ywx _ _,yyu _ _ (fun x hx=>(hg.2.2.2.1 x hx).2) _ (by omega)⟩
end
section
abbrev Tm:=Int×Int
structure SetR where
 var:Int
 val:List Tm
structure RuleR where
 name:ByteArray
 guard:List Tm
 sets:List SetR
structure ProgR where
 name:ByteArray
 vars:List VarR
 rules:List RuleR
instance:Inhabited VarR:=⟨⟨.empty,0,0,0,0,0⟩⟩
instance:Inhabited SetR:=⟨⟨0,[]⟩⟩
instance:Inhabited RuleR:=⟨⟨.empty,[],[]⟩⟩
inductive Ex where
 |leaf (op arg:Int)
 |un (op:Int) (a:Ex)
 |agg (op:Int) (a:Ex)
 |bin (op:Int) (a b:Ex)
 |ite (c a b:Ex)
def Ex.ser:Ex->List Tm
 |.leaf op arg=>[(op,arg)]
 |.un op a=>(op,0)::a.ser
 |.agg op a=>(op,0)::a.ser
 |.bin op a b=>(op,0)::(a.ser++b.ser)
 |.ite c a b=>(43,0)::(c.ser++(a.ser++b.ser))
def satP(a:Int):Int:=max (-1073741824) (min a 1073741824)
def ybp(b:Bool):Int:=if b then 1 else 0
def ysi(a b:Int):Int:=if b=0 then 0 else if a.tmod b≠0/\(decide (a<0)≠decide (b<0))then a.tdiv b-1 else a.tdiv b
def unP(op a:Int):Int:=if op=18 then -a else ybp (a==0)
def cmpP(op a b:Int):Bool:=if op=35 then a==b else if op=36 then a != b else if op=37 then decide (a<b)else if op=38 then decide (a<=b)else if op=39 then decide (a>b)else decide (a>=b)
def binP(op a b:Int):Int :=
 if op=30 then satP (a*b)else if op=31 then satP (ysi a b)else if op=32 then(if b=0 then 0 else satP (a-b*ysi a b))else if op=33 then satP (a+b)else if op=34 then satP (a-b)
 else if op=41 then ybp (a != 0&&b != 0)else if op=42 then ybp (a != 0||b != 0)else ybp (cmpP op a b)
def countP(l:List Int):Int:=((l.filter (· != 0)).length:Int)
def yon(l:List Int):Int:=l.foldl min 1073741824
def ydo(l:List Int):Int×Int:=l.foldl (fun p a=>if a>p.1 then(a,p.1)else(p.1,max p.2 a)) (-1073741824,-1073741824)
def ysh(l:List Int):Nat->Int->Int
 |0,r=>r
 |n+1,r=>if l.elem r then ysh l n (r+1)else r
def mexP(l:List Int):Int:=ysh l (l.length+1) 0
def ydw(l:List Int):Int:=match l.findIdx? (· != 0)with|some i=>i|none=>-1
def ygc(op:Int)(l:List Int):Int :=
 if op=20 then ybp (countP l==l.length)else if op=21 then ybp (decide (countP l>0))else if op=22 then countP l else if op=23 then ydw l else if op=24 then yon l else if op=25 then(ydo l).1
 else if op=26 then satP l.sum else if op=27 then mexP l else if op=28 then(ydo l).2 else l.headD 0
structure Sc where
 g:Gr
 c:Conf
def ybn(g:Gr)(v port:Nat):Int×Int:=(g.ports.getD v []).getD port (0,0)
def ygx(g:Gr)(v:Nat):List Int:=(g.ports.getD v []).map fun l=>yer (g.ports.getD l.1.toNat []) v
def ylp(g:Gr)(op:Int)(v:Nat)(port:Int):Int :=
 if op=6 then g.ids.length else if op=7 then ybek g else if op=8 then g.ids.getD v 0 else if op=9 then((g.ports.getD v []).length:Int)else if op=10 then ybp ((v:Int)==0)else if op=11 then port
 else(let l:=ybn g v port.toNat
  if op=13 then g.ids.getD l.1.toNat 0 else if op=14 then((g.ports.getD l.1.toNat []).length:Int)else if op=15 then ybp (l.1==0)else if op=16 then l.2 else(ygx g v).getD port.toNat 0)
def yqw(g:Gr)(c:Conf)(op arg:Int)(v:Nat)(port:Int):Int :=
 if op=1 then arg else if op=2 then 1 else if op=3 then 0 else if op=4 then -1 else if op=5 then(c.getD v []).getD arg.toNat 0 else if op=12 then(c.getD (ybn g v port.toNat).1.toNat []).getD arg.toNat 0
 else ylp g op v port
def ycu(g:Gr)(c:Conf)(v:Nat):Ex->Int->Int
 |.leaf op arg,p=>yqw g c op arg v p
 |.un op a,p=>unP op (ycu g c v a p)
 |.agg op a,_=>ygc op ((zX (g.ports.getD v []).length).map fun(q:Nat)=>ycu g c v a (q:Int))
 |.bin op a b,p=>binP op (ycu g c v a p) (ycu g c v b p)
 |.ite x a b,p=>if ycu g c v x p≠0 then ycu g c v a p else ycu g c v b p
def Ex.ok(nv:Int)(bnd:Bool):Ex->Bool
 |.leaf op arg=>decide (1<=op/\op<=17)&&(if op=1 then decide (0<=arg/\arg<=1073741824)else if op=5\/op=12 then decide (0<=arg/\arg<nv)else true)&&(if 11<=op then bnd else true)
 |.un op a=>decide (op=18\/op=19)&&a.ok nv bnd
 |.agg op a=>decide (20<=op/\op<=29)&&a.ok nv true
 |.bin op a b=>decide (30<=op/\op<=42)&&a.ok nv bnd&&b.ok nv bnd
 |.ite x a b=>x.ok nv bnd&&a.ok nv bnd&&b.ok nv bnd
def InB(x:Int):Prop:=-1073741824<=x/\x<=1073741824
theorem ymh(a:Int):InB (satP a):=by unfold InB satP;omega
theorem yew(b:Bool):InB (ybp b):=by unfold InB ybp;cases b<;>simp
theorem ydbb{op a:Int}(h:InB a):InB (unP op a):=by
 unfold unP;split
 ·unfold InB at *;omega
 ·exact yew _
theorem ycun(op a b:Int):InB (binP op a b):=by
 unfold binP;split;· exact ymh _
 split;· exact ymh _
 split
 ·split
  ·unfold InB;omega
  ·exact ymh _
 split;· exact ymh _
 split;· exact ymh _
 split;· exact yew _
 split;· exact yew _
 exact yew _
theorem countP_le(l:List Int):0<=countP l/\countP l<=l.length:=by
 unfold countP;have:=List.length_filter_le (· != 0) l;omega
theorem ybmo(l:List Int)(h:∀x∈l,InB x):InB (yon l):=by
 unfold yon
 have:∀(l:List Int) (a:Int),InB a->(∀x∈l,InB x)->InB (l.foldl min a):=by
  intro l
  induction l with
  |nil=>intro a ha _;exact ha
  | cons x l ih =>
    intro a ha hl;refine ih _ ?_ fun y hy=>hl y (zM _ hy);have:=hl x zL;unfold InB at *;omega
 exact this l _ (by unfold InB;omega) h
theorem yty(l:List Int)(h:∀x∈l,InB x):InB (ydo l).1/\InB (ydo l).2:=by
 unfold ydo
 have:∀(l:List Int) (p:Int×Int),InB p.1/\InB p.2->(∀x∈l,InB x)->InB (l.foldl (fun p a=>if a>p.1 then(a,p.1)else(p.1,max p.2 a)) p).1/\InB (l.foldl (fun p a=>if a>p.1 then(a,p.1)else(p.1,max p.2 a)) p).2:=by
  intro l
  induction l with
  |nil=>intro p hp _;exact hp
  | cons x l ih =>
    intro p hp hl;refine ih _ ?_ fun y hy=>hl y (zM _ hy);have:=hl x zL;unfold InB at *
    dsimp only
    split<;>dsimp only<;>omega
 exact this l _ (by unfold InB;simp) h
theorem ybfe(l:List Int):∀(n:Nat) (r:Int),r<=ysh l n r/\ysh l n r<=r+n
 |0,r=>by unfold ysh;omega
 | n+1,r=>by
   unfold ysh;have:=ybfe l n (r+1);split<;>omega
theorem yyv(l:List Int):-1<=ydw l/\ydw l<l.length\/ydw l = -1:=by
 unfold ydw;split
 ·rename_i i hi
  obtain⟨h,_⟩:=List.findIdx?_eq_some_iff_getElem.1 hi;left;omega
 ·exact .inr rfl
theorem ybvx{op:Int}{l:List Int}(hl:l.length<=1000)(h:∀x∈l,InB x):InB (ygc op l):=by
 have hc:=countP_le l;unfold ygc;split;· exact yew _
 split;· exact yew _
 split;· unfold InB;omega
 split;· have:=yyv l;unfold InB;omega
 split;· exact ybmo l h
 split;· exact(yty l h).1
 split;· exact ymh _
 split;· have:=ybfe l (l.length+1) 0;unfold mexP InB;omega
 split;· exact(yty l h).2
 cases l with
 |nil=>unfold InB;simp
 |cons x l=>exact h x zL
structure ConfIn(n nv:Nat)(c:Conf):Prop where
 len:c.length=n
 row:∀s∈c,s.length=nv/\∀x∈s,InB x
theorem ConfIn.at_{n nv:Nat}{c:Conf}(h:ConfIn n nv c){v:Nat}(hv:v<n):(c.getD v []).length=nv/\∀k,InB ((c.getD v []).getD k 0):=by
 have hlt:v<c.length:=by rw[h.len];exact hv
 have e:c.getD v []=c[v]:=by simp[zU,hlt]
 obtain⟨h1,h2⟩:=h.row c[v] (zK hlt);rw[e];refine⟨h1,fun k=>?_⟩;rw[zG];cases hk:c[v][k]? with
 |none=>simp;unfold InB;omega
 |some x=>simp;exact h2 x (zV hk)
theorem ybb.ybn{g:Gr}(hg:ybb g){v p:Nat}(hv:v<g.ports.length)(hp:p<(g.ports.getD v []).length):0<=(ybn g v p).1/\(ybn g v p).1<g.ports.length/\1<=(ybn g v p).2/\(ybn g v p).2<=15:=by
 have e:g.ports.getD v []=g.ports[v]:=by simp[zU,hv]
 have h1:=hg.2.2.2.2.2.1 ⟨v,hv⟩;rw[e]at hp;have hm:(g.ports[v])[p]∈g.ports[v]:=zK hp;have h2:=h1.1 _ hm;unfold yjs at h2;have e2:Go.Proofs.YtiejahgklcjhkaaGreatDoor.ybn g v p=(g.ports[v])[p]:=by unfold Go.Proofs.YtiejahgklcjhkaaGreatDoor.ybn;rw[e];simp[zU,hp]
 rw[e2];omega
theorem ybb.deg_lt{g:Gr}(hg:ybb g){v:Nat}:(g.ports.getD v []).length<24:=by
 by_cases hv:v<g.ports.length
 ·have h1:=hg.2.2.2.2.2.1 ⟨v,hv⟩;have:=yrp hv h1;have e:g.ports.getD v []=g.ports[v]:=by simp[zU,hv]
  rw[e];have:=hg.2.1;have h3:g.ports[(⟨v,hv⟩:Fin g.ports.length)].length=g.ports[v].length:=rfl;omega
 ·rw[zG,List.getElem?_eq_none (by omega)]
  simp
theorem ybb.id_in{g:Gr}(hg:ybb g)(v:Nat):0<=g.ids.getD v 0/\g.ids.getD v 0<=255:=by
 rw[zG];cases h:g.ids[v]? with
 |none=>simp
 |some x=>exact hg.2.2.2.1 x (zV h)
theorem ybvl{g:Gr}{c:Conf}{n nv:Nat}(hg:ybb g)(hn:g.ports.length=n)(hc:ConfIn n nv c){op arg:Int}{bnd:Bool}(ho:(Ex.leaf op arg).ok nv bnd=true){v:Nat}(hv:v<n){p:Int}(hp:bnd=true->0<=p/\p<(g.ports.getD v []).length)(hpi:InB p):InB (yqw g c op arg v p):=by
 subst hn;have h24:=hg.2.1;have hd:=hg.deg_lt (v:=v);unfold yqw;simp only[Ex.ok,zC,decide_eq_true_eq]at ho;obtain⟨⟨ho1,ho2⟩,ho3⟩:=ho;split
 ·rename_i h;rw[if_pos h]at ho2;simp at ho2;unfold InB;omega
 split;· unfold InB;omega
 split;· unfold InB;omega
 split;· unfold InB;omega
 split;· exact(hc.at_ hv).2 _
 split
 ·rename_i h
  rw[if_pos (by omega)]at ho3
  obtain⟨q1,q2⟩:=hp ho3;have hl:=hg.ybn hv (p:=p.toNat) (by omega)
  exact(hc.at_ (v:=(ybn g v p.toNat).1.toNat) (by omega)).2 _
 ·unfold ylp;split;· rw[hg.2.2.1];unfold InB;omega
  split;· have:=ypw hg;unfold InB;omega
  split;· have:=hg.id_in v;unfold InB;omega
  split;· unfold InB;omega
  split;· exact yew _
  split;· exact hpi
  rename_i h6 h7 h8 h9 h10 h11
  rw[if_pos (by omega)]at ho3
  obtain⟨q1,q2⟩:=hp ho3;have hl:=hg.ybn hv (p:=p.toNat) (by omega)
  simp only;split;· have:=hg.id_in (ybn g v p.toNat).1.toNat;unfold InB;omega
  split;· have:=hg.deg_lt (v:=(ybn g v p.toNat).1.toNat);unfold InB;omega
  split;· exact yew _
  split;· unfold InB;omega
  ·unfold ygx;rw[zG,List.getElem?_map];cases hk:(g.ports.getD v [])[p.toNat]? with
   |none=>simp;unfold InB;omega
   | some l =>
     simp;have hd2:=hg.deg_lt (v:=l.1.toNat);rcases yvw (ls:=g.ports.getD l.1.toNat []) (u:=(v:Int))with e|⟨k,e,hk⟩
     ·simp at e;rw[e];unfold InB;omega
     ·simp at e hk hd2;rw[e];unfold InB;omega
theorem ygf{g:Gr}{c:Conf}{n nv:Nat}(hg:ybb g)(hn:g.ports.length=n)(hc:ConfIn n nv c){v:Nat}(hv:v<n):∀(x:Ex) {bnd:Bool}{p:Int},x.ok nv bnd=true->(bnd=true->0<=p/\p<(g.ports.getD v []).length)->InB p->InB (ycu g c v x p)
 |.leaf op arg,bnd,p,h,hp,hpi=>ybvl hg hn hc h hv hp hpi
 | .un op a,bnd,p,h,hp,hpi=>by
   simp only[Ex.ok,zC]at h;exact ydbb (ygf hg hn hc hv a h.2 hp hpi)
 | .agg op a,bnd,p,h,hp,hpi=>by
   simp only[Ex.ok,zC]at h;have:=hg.deg_lt (v:=v);refine ybvx (by simp;simp at this;omega) fun x hx=>?_
   obtain⟨q,hq,rfl⟩:=List.mem_map.1 hx;have hq:=List.mem_range.1 hq;exact ygf hg hn hc hv a h.2 (fun _=>by omega) (by unfold InB;omega)
 |.bin op a b,bnd,p,h,hp,hpi=>ycun _ _ _
 | .ite x a b,bnd,p,h,hp,hpi=>by
   simp only[Ex.ok,zC]at h;unfold ycu;split
   ·exact ygf hg hn hc hv a h.1.2 hp hpi
   ·exact ygf hg hn hc hv b h.2 hp hpi
end
section
namespace Sh
open Go Ev
theorem mulB{a b:Int}(ha:InB a)(hb:InB b):-1152921504606846976<=a*b/\a*b<=1152921504606846976:=by
 unfold InB at *
 have h:(a*b).natAbs<=1073741824*1073741824:=by
  rw[zY];exact zZ (by omega) (by omega)
 omega
theorem ydq(b:Bool):Returns zF 256 [.b b] (.i .i64 (ybp b)):=by
 refine Returns.of (ycwv _ _ ?_);simp only[c256,ycjo,ycms,yceq,ycjz,yu,ybp,go_sem,↓reduceIte,reduceCtorEq];cases b<;>simp
theorem ydm(a:Int):Returns zF 258 [.i .i64 a] (.i .i64 (satP a)):=by
 refine Returns.of (ycts _ _ ?_);simp only[c258,ycqa,ycpq,yu,satP,go_sem,zA,zB,↓reduceIte,reduceCtorEq]
theorem ycxp{a b:Int}(ha:InB a):-1073741824<=a.tdiv b/\a.tdiv b<=1073741824:=by
 have h1:(a.tdiv b).natAbs=a.natAbs/b.natAbs:=Int.natAbs_tdiv a b;have h2:a.natAbs/b.natAbs<=a.natAbs:=Nat.div_le_self _ _;rw[<-h1]at h2;unfold InB at ha;omega
theorem ybwa{a b:Int}(ha:InB a):-1073741825<=ysi a b/\ysi a b<=1073741824:=by
 have:=ycxp (b:=b) ha;unfold ysi;split
 ·omega
 ·split<;>omega
theorem ybnh{a b:Int}(ha:InB a)(hb:InB b):-1152921505680588800<=b*ysi a b/\b*ysi a b<=1152921505680588800:=by
 have h1:=ybwa (b:=b) ha
 have h:(b*ysi a b).natAbs<=1073741824*1073741825:=by
  unfold InB at *;rw[zY];exact zZ (by omega) (by omega)
 omega
theorem ybmr(op a:Int)(ha:InB a):Returns zF 237 [.i .i64 op,.i .i64 a] (.i .i64 (unP op a)):=by
 refine Returns.of (ycqo _ _ ?_);simp only[c237,yccv,ychu,ycdj,ycot,yu,unP,IntKind.signed,go_sem,zA,zB,↓reduceIte,reduceCtorEq];unfold InB at ha;refine⟨fun h=>⟨ikw (by omega) (by omega),by rw[if_pos h];omega⟩,fun h=>(ydq _).use ?_⟩
 simp only[ybf,yu,go_sem,zA,zB,↓reduceIte,reduceCtorEq];rw[if_neg h]
theorem ynr(a b:Int)(ha:InB a):Returns zF 259 [.i .i64 a,.i .i64 b] (.i .i64 (ysi a b)):=by
 refine Returns.of (ycqw _ _ ?_);simp only[c259,ycne,ycev,ycob,ycle,yccl,ycmj,ycpr,yu,ysi,go_sem,zA,zB,↓reduceIte,reduceCtorEq];have:=ycxp (b:=b) ha;refine⟨fun h=>by rw[if_pos h],fun h=>⟨⟨h,ikw (by omega) (by omega)⟩,h,fun h1=>⟨fun h2=>⟨ikw (by omega) (by omega),?_⟩,fun h2=>?_⟩,fun h1=>?_⟩⟩
 ·rw[if_neg h,if_pos ⟨h1,h2⟩]
 ·rw[if_neg h,if_neg (fun q=>q.2 h2)]
 ·rw[if_neg h,if_neg (fun q=>q.1 h1)]
theorem ybal(op a b:Int):Returns zF 260 [.i .i64 op,.i .i64 a,.i .i64 b] (.b (cmpP op a b)):=by
 refine Returns.of (ycvc _ _ ?_);simp only[c260,ycbq,ycmc,ycbf,ycln,ycny,ycjf,yciu,ycdw,ycgu,ycie,ybpn,ybtp,ybru,ybi,cmpP,go_sem,zA,zB,↓reduceIte,reduceCtorEq];refine⟨fun h=>by rw[if_pos h],fun h35=>⟨fun h=>by rw[if_neg h35,if_pos h],fun h36=>⟨fun h=>by rw[if_neg h35,if_neg h36,if_pos h],fun h37=>⟨fun h=>by rw[if_neg h35,if_neg h36,if_neg h37,if_pos h],fun h38=>⟨fun h=>by rw[if_neg h35,if_neg h36,if_neg h37,if_neg h38,if_pos h],fun h39=>by rw[if_neg h35,if_neg h36,if_neg h37,if_neg h38,if_neg h39]⟩⟩⟩⟩⟩
theorem ybjn(op a b:Int)(ha:InB a)(hb:InB b):Returns zF 239 [.i .i64 op,.i .i64 a,.i .i64 b] (.i .i64 (binP op a b)):=by
 refine Returns.of (ycrv _ _ ?_);simp only[c239,ychy,ycjp,ycjg,ycnf,ychm,ycgk,ycey,ycpm,ycgb,ycof,ybun,ybrb,ybva,yblt,ybud,yboh,ybpo,ybme,ybqh,yu,go_sem,zA,zB,↓reduceIte,reduceCtorEq];have hm:=mulB ha hb;have hq:=ybnh ha hb;have hA:=ha;have hB:=hb;unfold InB at hA hB;refine⟨fun h=>⟨ikw (by omega) (by omega),(ydm _).use ?_⟩,fun h30=>⟨fun h=>(ynr a b ha).use ?_,fun h31=>⟨fun h=>⟨fun h0=>?_,fun h0=>(ynr a b ha).use ?_⟩,fun h32=>⟨fun h=>⟨ikw (by omega) (by omega),(ydm _).use ?_⟩,fun h33=>⟨fun h=>⟨ikw (by omega) (by omega),(ydm _).use ?_⟩,fun h34=>?_⟩⟩⟩⟩⟩
 ·simp only[ybf,yu,go_sem,zA,zB,↓reduceIte,reduceCtorEq];simp[binP,h]
 ·simp only[ybf,go_sem,zA,zB,↓reduceIte,reduceCtorEq];refine(ydm _).use ?_;simp only[yu,go_sem];simp[binP,h]
 ·simp[binP,h,h0]
 ·simp only[ybf,go_sem,zA,zB,↓reduceIte,reduceCtorEq];refine⟨ikw (by omega) (by omega),ikw (by omega) (by omega),(ydm _).use ?_⟩
  simp only[yu,go_sem];simp[binP,h,h0]
 ·simp only[ybf,yu,go_sem,zA,zB,↓reduceIte,reduceCtorEq];simp[binP,h]
 ·simp only[ybf,yu,go_sem,zA,zB,↓reduceIte,reduceCtorEq];simp[binP,h]
 ·refine⟨fun h=>?_,fun h41=>⟨fun h=>?_,fun h42=>?_⟩⟩
  ·refine⟨fun h1=>(ydq _).use ?_,fun h1=>(ydq _).use ?_⟩
   ·simp only[ybf,yu,go_sem,zA,zB,↓reduceIte,reduceCtorEq];simp[binP,h];rw[show(a != 0)=true by simpa using h1];simp
   ·simp only[ybf,yu,go_sem,zA,zB,↓reduceIte,reduceCtorEq];simp[binP,h,h1]
  ·refine⟨fun h1=>(ydq _).use ?_,fun h1=>(ydq _).use ?_⟩
   ·simp only[ybf,yu,go_sem,zA,zB,↓reduceIte,reduceCtorEq];simp[binP,h,h1]
   ·simp only[ybf,yu,go_sem,zA,zB,↓reduceIte,reduceCtorEq];simp[binP,h];rw[show(a != 0)=true by simpa using h1];simp
  ·refine(ybal op a b).use ?_;simp only[ybf,go_sem,zA,zB,↓reduceIte,reduceCtorEq];refine(ydq _).use ?_;simp only[yu,go_sem];simp[binP,h30,h31,h32,h33,h34,h41,h42]
end Sh
end
section
namespace Sh
open Go Ev
theorem yri{l:List Int}{k:Nat}(h:k<l.length):countP (l.take (k+1))=countP (l.take k)+(if l.getD k 0≠0 then 1 else 0):=by
 unfold countP;rw[zD h,List.filter_append,zO,getD_at h]
 by_cases q:l[k]=0
 ·simp[q]
 ·simp[q]
theorem ybbh{l:List Int}(k:Nat):0<=countP (l.take k)/\countP (l.take k)<=k:=by
 have:=countP_le (l.take k);simp only[List.length_take]at this;omega
theorem ybqw(l:List Int)(hl:l.length<=1000):Returns zF 266 [yw l] (.i .i64 (countP l)):=by
 refine Returns.of (yctz _ _ ?_);simp only[c266,ycjv,ycpu,ycfa,yw,go_sem,zB,↓reduceIte,reduceCtorEq];refine ybl (σ:=Nat) (fun k=>⟨[(8,.i .i64 k),(3,.i .i64 (countP (l.take k))),(6,yw l),(7,.i .i64 l.length)],[]⟩) (fun k=>k<=l.length) (fun k=>l.length-k) 0 (zN _) ?_ ?_
 ·refine yh [] [] [] ?_;simp only[yw,allQ,live,yc,yu,zH,go_sem,zA,↓reduceIte,reduceCtorEq];simp[countP]
 ·intro k hk;simp only[ychw,ycoj,ycih,ychs,ycgf,ycgi,yw,yu,go_sem,zA,zB,↓reduceIte,reduceCtorEq];have hb:=ybbh (l:=l) k;refine⟨fun hlt=>⟨by omega,fun h0=>⟨ikw (by omega) (by omega),ikw (by omega) (by omega),?_⟩,fun h0=>⟨ikw (by omega) (by omega),?_⟩⟩,fun hlt=>?_⟩
  ·have hk':k<l.length:=by omega
   refine yj (k+1) (by omega) (by omega) ?_
   refine yh [] [] [] ?_;simp only[yri hk',if_pos h0,allQ,live,yc,yu,go_sem,zA,↓reduceIte,reduceCtorEq];simp
  ·have hk':k<l.length:=by omega
   refine yj (k+1) (by omega) (by omega) ?_
   refine yh [] [] [] ?_;simp only[yri hk',if_neg (not_not_intro h0),allQ,live,yc,yu,go_sem,zA,↓reduceIte,reduceCtorEq];simp
  ·rw[zI (by omega)]
theorem ynk{l:List Int}{k:Nat}(h:k<l.length):ydo (l.take (k+1))=(if l.getD k 0>(ydo (l.take k)).1 then(l.getD k 0,(ydo (l.take k)).1)else((ydo (l.take k)).1,max (ydo (l.take k)).2 (l.getD k 0))):=by
 unfold ydo;rw[zD h,zQ,getD_at h];rfl
theorem ypq(l:List Int)(hl:l.length<=1000):Returns zF 269 [yw l] (.tp [.i .i64 (ydo l).1,.i .i64 (ydo l).2]):=by
 refine Returns.of (ycwx _ _ ?_);simp only[c269,yclw,ycmt,ycgx,yw,go_sem,zB,↓reduceIte,reduceCtorEq];refine ybl (σ:=Nat) (fun k=>⟨[(8,.i .i64 k),(2,.i .i64 (ydo (l.take k)).1),(3,.i .i64 (ydo (l.take k)).2),(6,yw l),(7,.i .i64 l.length)],[]⟩) (fun k=>k<=l.length) (fun k=>l.length-k) 0 (zN _) ?_ ?_
 ·refine yh [] [] [] ?_;simp only[yw,allQ,live,yc,yu,zH,go_sem,zA,↓reduceIte,reduceCtorEq];simp[ydo]
 ·intro k hk;simp only[ycef,ycbw,ycdg,ycik,ycdd,yceu,yccq,yw,go_sem,zA,zB,↓reduceIte,reduceCtorEq];refine⟨fun hlt=>⟨by omega,fun h0=>⟨ikw (by omega) (by omega),?_⟩,fun h0=>⟨ikw (by omega) (by omega),?_⟩⟩,fun hlt=>?_⟩
  ·have hk':k<l.length:=by omega
   refine yj (k+1) (by omega) (by omega) ?_
   refine yh [] [] [] ?_;simp only[ynk hk',if_pos h0,allQ,live,yc,yu,go_sem,zA,↓reduceIte,reduceCtorEq];simp
  ·have hk':k<l.length:=by omega
   refine yj (k+1) (by omega) (by omega) ?_
   refine yh [] [] [] ?_;simp only[ynk hk',if_neg h0,allQ,live,yc,yu,go_sem,zA,↓reduceIte,reduceCtorEq];simp
  ·rw[zI (by omega)]
   exact Sim.refl _
theorem yzd(l:List Int)(x:Int)(hl:l.length<=100000):Returns zF 274 [yw l,.i .i64 x] (.b (l.elem x)):=by
 refine Returns.of (ycty _ _ ?_);simp only[c274,ycdt,ycdm,yw,go_sem,zA,zB,↓reduceIte,reduceCtorEq];refine(ybmh l x hl).use ?_;simp only[ybf,ybi,go_sem,zA,zB,↓reduceIte,reduceCtorEq];unfold idxP;cases h:l.findIdx? (fun y=>x==y)with
 | none =>
   rw[zS]at h
   have:l.elem x=false:=by
    rw[zW,decide_eq_false_iff_not];intro hm;have:=h x hm;simp at this
   rw[this];simp
 | some i =>
   obtain⟨h1,h2,_⟩:=List.findIdx?_eq_some_iff_getElem.1 h
   have:l.elem x=true:=by
    rw[zW,decide_eq_true_eq];have:x=l[i]:=by simpa using h2
    rw[this];exact zK h1
   rw[this];simp
theorem ybjo{l:List Int}{n:Nat}{r:Int}(h:l.elem r=true):ysh l (n+1) r=ysh l n (r+1):=by
 show(if l.elem r then _ else _)=_;rw[if_pos h]
theorem ybjw{l:List Int}{n:Nat}{r:Int}(h:l.elem r=false):ysh l n r=r:=by
 cases n with
 |zero=>rfl
 |succ n=>show(if l.elem r then _ else _)=_;rw[if_neg (by rw[h];simp)]
theorem yzs{l:List Int}{k:Nat}(h:∀j:Nat,j<k->l.elem (j:Int)=true):k<=l.length:=by
 have h1:((zX k).map fun(j:Nat)=>(j:Int)).Nodup:=by
  rw[List.Nodup,List.pairwise_map];exact List.nodup_range.imp fun {a b} hab e=>hab (by omega)
 have h2:((zX k).map fun(j:Nat)=>(j:Int)) ⊆ l:=fun x hx=>by
  obtain⟨j,hj,rfl⟩:=List.mem_map.1 hx;have:=h j (List.mem_range.1 hj)
  simpa using this
 have:=List.Nodup.length_le_of_subset h1 h2
 simpa using this
theorem ycru(l:List Int)(hl:l.length<=1000):Returns zF 270 [yw l] (.i .i64 (mexP l)):=by
 refine Returns.of (ycwm _ _ ?_);simp only[c270,ycfl,ycni,yw,go_sem];refine ybl (σ:=Nat) (fun k=>⟨[(3,.i .i64 k),(0,yw l)],[]⟩) (fun k=>(∀j:Nat,j<k->l.elem (j:Int)=true)/\mexP l=ysh l (l.length+1-k) k) (fun k=>l.length+1-k) 0 ⟨fun j h=>absurd h (Nat.not_lt_zero _),rfl⟩ ?_ ?_
 ·refine yh [] [] [] ?_;simp only[yw,allQ,live,yc,zH,go_sem,↓reduceIte,reduceCtorEq]
 ·intro k ⟨hk,he⟩;have hb:=yzs hk;simp only[ycdu,yclr,ycfg,yw,go_sem,zA,zB,↓reduceIte,reduceCtorEq];refine(yzd l k (by omega)).use ?_
  simp only[ybf,yu,go_sem,zA,zB,↓reduceIte,reduceCtorEq];refine⟨fun h=>⟨ikw (by omega) (by omega),?_⟩,fun h=>?_⟩
  ·have hk2:∀j:Nat,j<k+1->l.elem (j:Int)=true:=fun j hj=>by
    by_cases q:j<k
    ·exact hk j q
    ·obtain rfl:j=k:=by omega
     exact h
   have hb2:=yzs hk2;refine yj (k+1) ⟨hk2,?_⟩ (by omega) ?_
   ·rw[he,show l.length+1-k=(l.length+1-(k+1))+1 by omega,ybjo h];simp
   ·refine yh [] [] [] ?_;simp only[allQ,live,yc,yu,go_sem,↓reduceIte,reduceCtorEq];simp
  ·rw[he,ybjw h]
theorem ybsa(x:Int):Returns zF 268 [.i .i64 x] (.b (x != 0)):=by
 refine Returns.of (ycsq _ _ ?_);simp only[c268,ycpi,ycgm,ybi,go_sem,zA,zB,↓reduceIte,reduceCtorEq]
theorem yum(l:List Int)(hl:l.length<=1000):Returns zF 267 [yw l,.fn 268 [] []] (.i .i64 (ydw l)):=by
 refine Returns.of (ycuz _ _ ?_);simp only[c267,ycdx,ycmv,yw,go_sem,zB,↓reduceIte,reduceCtorEq];refine ybl (σ:=Nat) (fun k=>⟨[(8,.i .i64 k),(0,yw l),(1,.fn 268 [] []),(7,.i .i64 l.length)],[]⟩) (fun k=>k<=l.length/\(l.take k).findIdx? (· != 0)=none) (fun k=>l.length-k) 0 ⟨zN _,by simp⟩ ?_ ?_
 ·refine yh [] [] [] ?_;simp only[yw,allQ,live,yc,zH,go_sem,zA,↓reduceIte,reduceCtorEq]
 ·intro k ⟨hk,hno⟩;simp only[ychp,yclb,ycnh,ycib,ycgn,ycbd,yw,yu,go_sem,zA,zB,↓reduceIte,reduceCtorEq];refine⟨fun hlt=>⟨by omega,(ybsa _).use ?_⟩,fun hlt=>?_⟩
  ·have hlt:k<l.length:=by omega
   simp only[ybf,yu,go_sem,zA,zB,↓reduceIte,reduceCtorEq];rw[getD_at hlt];refine⟨fun ha=>?_,fun ha=>⟨ikw (by omega) (by omega),?_⟩⟩
   ·have:l.findIdx? (· != 0)=some k:=by
     rw[List.findIdx?_eq_some_iff_getElem];refine⟨hlt,by simpa using ha,fun j hj=>?_⟩
     rw[zS]at hno;have:=hno l[j] (List.mem_take_iff_getElem.2 ⟨j,by omega,rfl⟩)
     simpa using this
    unfold ydw;rw[this]
   ·refine yj (k+1) ⟨by omega,?_⟩ (by omega) ?_
    ·rw[zD hlt,List.findIdx?_append,hno];simp[ha]
    ·refine yh [] [] [] ?_;simp only[allQ,live,yc,yu,go_sem,zA,↓reduceIte,reduceCtorEq];simp
  ·obtain rfl:k=l.length:=by omega
   rw[List.take_length]at hno;unfold ydw;rw[hno]
end Sh
end
section
namespace Sh
open Go Ev
theorem ybdw{l:List Int}{k:Nat}(h:k<l.length):yon (l.take (k+1))=min (yon (l.take k)) (l.getD k 0):=by
 unfold yon;rw[zD h,zQ,getD_at h];rfl
theorem yvv{l:List Int}{k:Nat}(h:k<l.length):(l.take (k+1)).sum=(l.take k).sum+l.getD k 0:=by
 rw[zD h,List.sum_append,getD_at h];simp
theorem ybnu{l:List Int}(h:∀x∈l,InB x):∀k,k<=l.length -> -1073741824*(k:Int)<=(l.take k).sum/\(l.take k).sum<=1073741824*(k:Int)
 |0,_=>by simp
 | k+1,hk=>by
   have ih:=ybnu h k (by omega)
   rw[yvv (by omega)]
   have:=h l[k] (zK (by omega))
   rw[<-getD_at (d:=0) (show k<l.length by omega)]at this
   unfold InB at this;omega
theorem ybwz(op:Int)(l:List Int)(hl:l.length<=24)(hb:∀x∈l,InB x):Returns zF 257 [.i .i64 op,yw l] (.i .i64 (ygc op l)):=by
 refine Returns.of (ycrn _ _ ?_);have hin:∀k,k<l.length->InB (l.getD k 0):=fun k hk=>by rw[getD_at hk];exact hb _ (zK hk)
 obtain⟨L,hL⟩:∃L,yw l=L:=⟨_,rfl⟩;have hLs:L = .sl 1 l.length (fun k=>[.i .i64 (l.getD k 0)]):=hL.symm;simp only[c257,ycpl,ycmd,yclg,ycll,ycoq,ycol,ychx,ycov,ycfj,yclp,ybro,ybse,ybmz,ybpe,ybtj,ybpt,ybms,ybrg,ybsm,ybts,ybrv,ybnn,ybkt,ybqz,ybrx,ybol,ybqq,ybpp,ybny,ybnm,ybsh,ybst,ybmf,yblp,ybnx,ybld,ybtq,yw,go_sem,Int.reduceToNat,zA,zB,↓reduceIte,reduceCtorEq];have hcount:=ybqw l (by omega)
 have htwo:=ypq l (by omega)
 simp only[yw]at hcount htwo;refine⟨fun h20=>hcount.use ?_,fun h20=>⟨fun h21=>hcount.use ?_,fun h21=>⟨fun h22=>hcount.use ?_,fun h22=>⟨fun h23=>?_,fun h23=>⟨fun h24=>?_,fun h24=>⟨fun h25=>htwo.use ?_,fun h25=>⟨fun h26=>?_,fun h26=>⟨fun h27=>?_,fun h27=>⟨fun h28=>htwo.use ?_,fun h28=>?_⟩⟩⟩⟩⟩⟩⟩⟩⟩
 ·simp only[ybf,go_sem,zA,zB,↓reduceIte,reduceCtorEq];refine(ydq _).use ?_;simp only[yu,go_sem];simp[ygc,h20]
 ·simp only[ybf,go_sem,zA,zB,↓reduceIte,reduceCtorEq];refine(ydq _).use ?_;simp only[yu,go_sem];simp[ygc,h21]
 ·simp only[ybf,yu,go_sem,zA,zB,↓reduceIte,reduceCtorEq];simp[ygc,h22]
 ·have:=yum l (by omega)
  simp only[yw]at this;refine this.use ?_;simp only[ybf,yu,go_sem,zA,zB,↓reduceIte,reduceCtorEq];simp[ygc,h23]
 ·refine ybl (σ:=Nat) (fun k=>⟨[(42,.i .i64 k),(5,.i .i64 (yon (l.take k))),(40,yw l),(41,.i .i64 l.length)],[]⟩) (fun k=>k<=l.length) (fun k=>l.length-k) 0 (zN _) ?_ ?_
  ·refine yh [] [] [] ?_;simp only[yw,allQ,live,yc,yu,zH,go_sem,zA,↓reduceIte,reduceCtorEq];simp[yon]
  ·intro k hk;simp only[yw,yu,go_sem,zA,zB,↓reduceIte,reduceCtorEq];refine⟨fun hlt=>⟨by omega,ikw (by omega) (by omega),?_⟩,fun hlt=>?_⟩
   ·have hk':k<l.length:=by omega
    refine yj (k+1) (by omega) (by omega) ?_
    refine yh [] [] [] ?_;simp only[ybdw hk',allQ,live,yc,yu,go_sem,zA,↓reduceIte,reduceCtorEq];simp
   ·rw[zI (by omega)]
    simp[ygc,h24]
 ·simp only[ybf,yu,go_sem,zA,zB,↓reduceIte,reduceCtorEq];simp[ygc,h25]
 ·refine ybl (σ:=Nat) (fun k=>⟨[(63,.i .i64 k),(10,.i .i64 (l.take k).sum),(61,yw l),(62,.i .i64 l.length)],[]⟩) (fun k=>k<=l.length) (fun k=>l.length-k) 0 (zN _) ?_ ?_
  ·refine yh [] [] [] ?_;simp only[yw,allQ,live,yc,yu,zH,go_sem,zA,↓reduceIte,reduceCtorEq];simp
  ·intro k hk;simp only[yw,go_sem,zA,zB,↓reduceIte,reduceCtorEq];have hs:=ybnu hb k hk;refine⟨fun hlt=>?_,fun hlt=>(ydm _).use ?_⟩
   ·have hk':k<l.length:=by omega
    have hs2:=ybnu hb (k+1) hk';rw[yvv hk']at hs2;refine⟨by omega,ikw (by omega) (by omega),ikw (by omega) (by omega),?_⟩
    refine yj (k+1) (by omega) (by omega) ?_
    refine yh [] [] [] ?_;simp only[yvv hk',allQ,live,yc,yu,go_sem,zA,↓reduceIte,reduceCtorEq];simp
   ·simp only[ybf,yu,go_sem,zA,zB,↓reduceIte,reduceCtorEq];rw[zI (by omega)]
    simp[ygc,h26]
 ·have:=ycru l (by omega)
  simp only[yw]at this;refine this.use ?_;simp only[ybf,yu,go_sem,zA,zB,↓reduceIte,reduceCtorEq];simp[ygc,h27]
 ·simp only[ybf,yu,go_sem,zA,zB,↓reduceIte,reduceCtorEq];simp[ygc,h28]
 ·refine⟨fun h0=>?_,fun h0=>⟨by omega,?_⟩⟩
  ·simp only[yu,go_sem];have:l=[]:=zJ (by omega)
   simp[ygc,h20,h21,h22,h23,h24,h25,h26,h27,h28,this]
  ·cases l with
   |nil=>simp at h0
   | cons x l=>
     simp only[yu,go_sem];simp[ygc,h20,h21,h22,h23,h24,h25,h26,h27,h28]
end Sh
end
section
def Ex.shp:Ex->Bool
 |.leaf op _=>decide (1<=op/\op<=17)
 |.un op a=>decide (18<=op/\op<=29)&&a.shp
 |.agg op a=>decide (18<=op/\op<=29)&&a.shp
 |.bin op a b=>decide (30<=op/\op<=42)&&a.shp&&b.shp
 |.ite x a b=>x.shp&&a.shp&&b.shp
theorem Ex.ok_shp{nv:Int}:∀(x:Ex) {bnd:Bool},x.ok nv bnd=true->x.shp=true
 | .leaf op arg,bnd,h=>by
   simp only[Ex.ok,zC]at h;exact h.1.1
 | .un op a,bnd,h=>by
   simp only[Ex.ok,zC,decide_eq_true_eq]at h;simp only[Ex.shp,zC,decide_eq_true_eq];exact⟨by omega,Ex.ok_shp a h.2⟩
 | .agg op a,bnd,h=>by
   simp only[Ex.ok,zC,decide_eq_true_eq]at h;simp only[Ex.shp,zC,decide_eq_true_eq];exact⟨by omega,Ex.ok_shp a h.2⟩
 | .bin op a b,bnd,h=>by
   simp only[Ex.ok,zC,decide_eq_true_eq]at h;simp only[Ex.shp,zC,decide_eq_true_eq];exact⟨⟨h.1.1,Ex.ok_shp a h.1.2⟩,Ex.ok_shp b h.2⟩
 | .ite x a b,bnd,h=>by
   simp only[Ex.ok,zC]at h;simp only[Ex.shp,zC];exact⟨⟨Ex.ok_shp x h.1.1,Ex.ok_shp a h.1.2⟩,Ex.ok_shp b h.2⟩
def yjo(op:Int):Int:=if op<1\/op>43 then -1 else if op<=17 then 0 else if op<=29 then 1 else if op<=42 then 2 else 3
def serL(ts:List Ex):List Tm:=(ts.map Ex.ser).flatten
def Ex.head:Ex->Tm
 |.leaf op arg=>(op,arg)
 |.un op _=>(op,0)
 |.agg op _=>(op,0)
 |.bin op _ _=>(op,0)
 |.ite _ _ _=>(43,0)
def Ex.subs:Ex->List Ex
 |.leaf _ _=>[]
 |.un _ a=>[a]
 |.agg _ a=>[a]
 |.bin _ a b=>[a,b]
 |.ite x a b=>[x,a,b]
theorem Ex.ser_eq(x:Ex):x.ser=x.head::serL x.subs:=by
 cases x<;>simp[Ex.ser,Ex.head,Ex.subs,serL]
theorem ybwv{op:Int}(h:1<=op/\op<=17):yjo op=0:=by
 unfold yjo;rw[if_neg (by omega),if_pos (by omega)]
theorem ybhf{op:Int}(h:18<=op/\op<=29):yjo op=1:=by
 unfold yjo;rw[if_neg (by omega),if_neg (by omega),if_pos (by omega)]
theorem ybxx{op:Int}(h:30<=op/\op<=42):yjo op=2:=by
 unfold yjo;rw[if_neg (by omega),if_neg (by omega),if_neg (by omega),if_pos (by omega)]
theorem Ex.arity(x:Ex)(h:x.shp=true):yjo x.head.1=x.subs.length:=by
 cases x with
 |leaf op arg=>simp only[Ex.shp,decide_eq_true_eq]at h;exact ybwv h
 |un op a=>simp only[Ex.shp,zC,decide_eq_true_eq]at h;exact ybhf h.1
 |agg op a=>simp only[Ex.shp,zC,decide_eq_true_eq]at h;exact ybhf h.1
 |bin op a b=>simp only[Ex.shp,zC,decide_eq_true_eq]at h;exact ybxx h.1.1
 |ite x a b=>simp[Ex.head,Ex.subs,yjo]
theorem Ex.subs_shp(x:Ex)(h:x.shp=true):∀y∈x.subs,y.shp=true:=by
 cases x with
 |leaf op arg=>intro y hy;cases hy
 |un op a=>simp only[Ex.shp,zC]at h;intro y hy;simp[Ex.subs]at hy;subst hy;exact h.2
 |agg op a=>simp only[Ex.shp,zC]at h;intro y hy;simp[Ex.subs]at hy;subst hy;exact h.2
 |bin op a b=>simp only[Ex.shp,zC]at h;intro y hy;simp[Ex.subs]at hy;rcases hy with rfl|rfl<;>first|exact h.1.2|exact h.2
 |ite x a b=>simp only[Ex.shp,zC]at h;intro y hy;simp[Ex.subs]at hy;rcases hy with rfl|rfl|rfl<;>first|exact h.1.1|exact h.1.2|exact h.2
theorem yei{e:List Tm}{at_:Nat}{t:Tm}{r:List Tm}(h:e.drop at_=t::r):at_<e.length/\e.getD at_ (0,0)=t/\e.drop (at_+1)=r:=by
 have hlt:at_<e.length:=by
  refine zAA fun hc=>?_;rw[List.drop_of_length_le (by omega)]at h;cases h
 refine⟨hlt,?_,?_⟩
 ·rw[zT hlt]at h;simp only[List.cons.injEq]at h;simp[zU,hlt,h.1]
 ·rw[zT hlt]at h;simp only[List.cons.injEq]at h;exact h.2
namespace Sh
open Go Ev
theorem ybrw(op:Int):Returns zF 247 [.i .i64 op] (.i .i64 (yjo op)):=by
 refine Returns.of (ycra _ _ ?_);simp only[c247,yckd,ycjm,ycge,ycli,ycbr,ycqd,ycek,yciz,ycej,ycij,yu,yjo,go_sem,zA,zB,↓reduceIte,reduceCtorEq];refine⟨fun h1=>⟨fun h=>by rw[if_pos (.inr h)],fun h2=>⟨fun h=>by rw[if_neg (by omega),if_pos h],fun h3=>⟨fun h=>by rw[if_neg (by omega),if_neg h3,if_pos h],fun h4=>⟨fun h=>by rw[if_neg (by omega),if_neg h3,if_neg h4,if_pos h],fun h5=>by rw[if_neg (by omega),if_neg h3,if_neg h4,if_neg h5]⟩⟩⟩⟩,fun h=>by rw[if_pos (.inl h)]⟩
theorem yctj(e:List Tm)(x:Ex)(at_:Nat)(rest:List Tm)(hx:x.shp=true)(he:e.drop at_=x.ser++rest)(hl:e.length<=1000):Returns zF 231 [ybc e,.i .i64 at_] (.i .i64 ((at_+x.ser.length:Nat):Int)):=by
 refine Returns.of (ycqs _ _ ?_)
 have h0:at_<e.length:=by
  rw[x.ser_eq]at he;exact(yei he).1
 simp only[c231,ycla,ycic,yceg,yclo,ybc,yu,go_sem,zA,zB,↓reduceIte,reduceCtorEq];refine⟨fun _=>⟨fun h=>by omega,fun _=>?_⟩,fun h=>by omega⟩
 refine ybl (σ:=Nat×List Ex) (fun p=>⟨[(1,.i .i64 p.1),(5,.i .i64 p.2.length),(0,ybc e)],[]⟩)
  (fun p=>e.drop p.1=serL p.2++rest/\p.2≠[]/\(∀y∈p.2,y.shp=true)/\p.1+(serL p.2).length=at_+x.ser.length/\p.2.length<=3*p.1+1) (fun p=>e.length-p.1) (at_,[x]) ⟨by simpa[serL]using he,by simp,by simpa using hx,by simp[serL],by simp⟩ ?_ ?_
 ·refine yh [] [] [] ?_;simp only[ybc,allQ,live,yc,yu,go_sem,zA,↓reduceIte,reduceCtorEq];simp
 ·rintro⟨k,ts⟩ ⟨hk,hne,hsh,hlen,hb⟩;cases ts with
  |nil=>exact absurd rfl hne
  | cons y ts =>
    dsimp only at hk hlen hb ⊢
    have hser:serL (y::ts)=y.head::(serL y.subs++serL ts):=by
     show(y.ser++serL ts)=_;rw[y.ser_eq];rfl
    rw[hser]at hk hlen;obtain⟨d1,d2,d3⟩:=yei hk;have hy:=hsh y zL;have har:=y.arity hy;have hsub:y.subs.length<=3:=by cases y<;>simp[Ex.subs]
    simp only[List.length_cons]at hb hlen;simp only[ycby,yciy,ycbl,ycgg,ychz,ycfm,yblm,ybni,ybmu,ybc,yu,go_sem,zA,zB,Nat.reduceLeDiff,↓reduceIte,reduceCtorEq];refine⟨fun hlt=>⟨by omega,(ybrw _).use ?_⟩,fun hlt=>by omega⟩
    rw[d2,har];simp only[ybf,yu,go_sem,zA,zB,↓reduceIte,reduceCtorEq];refine⟨fun h=>by omega,fun _=>⟨ikw (by omega) (by omega),ikw (by simp;omega) (by simp;omega),fun h=>⟨ikw (by omega) (by omega),?_⟩,fun h=>⟨ikw (by omega) (by omega),?_⟩⟩⟩
    ·have h1:ts=[]:=zJ (by omega)
     have h2:y.subs=[]:=zJ (by omega)
     subst h1;rw[h2]at hlen;simp[serL]at hlen;omega
    ·have hpos:y.subs++ts≠[]:=fun q=>by
      have q1:=congrArg List.length q;simp only[zO,List.length_nil]at q1;omega
     refine yj (k+1,y.subs++ts) ⟨?_,hpos,?_,?_,?_⟩ (by dsimp only;omega) ?_
     ·dsimp only
      rw[d3];simp[serL]
     ·intro z hz;rcases List.mem_append.1 hz with q|q
      ·exact y.subs_shp hy z q
      ·exact hsh z (zM _ q)
     ·dsimp only
      have:(serL (y.subs++ts)).length=(serL y.subs++serL ts).length:=by simp[serL]
      rw[this];omega
     ·dsimp only
      simp only[zO];omega
     ·refine yh [] [] [] ?_;simp only[allQ,live,yc,yu,go_sem,zA,↓reduceIte,reduceCtorEq];simp;omega
end Sh
end
section
namespace Sh
open Go Ev
def varC(x:VarR):List SV:=[.a (.string x.name),.i .i64 x.kind,.i .i64 x.lo,.i .i64 x.hi,.i .i64 x.perNode,.i .i64 x.perID]
def ycd(l:List VarR):SV:=.sl 6 l.length (fun k=>varC (l.getD k default))
def ygq(l:List SetR):SV:=.sl 2 l.length (fun k=>[.i .i64 (l.getD k default).var,ybc (l.getD k default).val])
def ycl(l:List RuleR):SV:=.sl 3 l.length (fun k=>[.a (.string (l.getD k default).name),ybc (l.getD k default).guard,ygq (l.getD k default).sets])
def ylu(p:ProgR):List SV:=[.a (.string p.name),ycd p.vars,ycl p.rules]
def ydi(g:Gr):SV:=.sl 1 g.ports.length (fun v=>[yw (ygx g v)])
def yeu(p:ProgR)(g:Gr):List SV:=[.a (.string p.name),ycd p.vars,ycl p.rules,yw g.ids,ybe g.ports,.i .i64 (ybek g),ydi g]
def yhg(p:ProgR)(g:Gr)(c:Conf)(v:Nat)(e:List Tm):List SV:=[.rf (yeu p g),ybj c,.i .i64 v,ybc e]
theorem yjk(l:List Int):one1 (yw l)=true:=rfl
theorem ybbv{n:Nat}(l:List Int):owned (n+1) (yw l)=false:=rfl
theorem yzt{n:Nat}(l:List Int):scalar (n+1) (yw l)=false:=rfl
theorem ybji{n:Nat}(o:Own)(l:List Int):view o (n+1) (yw l)=yw l:=rfl
theorem ybtt{n:Nat}(o:Own)(l:List Int):vok o (n+1) (yw l)=True:=rfl
theorem ybsc{n:Nat}(h:Nm->Nm)(l:List Int):ren h (n+1) (yw l)=yw l:=rfl
theorem ybmq{n:Nat}(L:Nm->Bool)(l:List Int):cln L (n+1) (yw l)=true:=rfl
theorem ybed(l:List (Int×Int)):one1 (ybc l)=true:=rfl
theorem ybae{n:Nat}(l:List (Int×Int)):owned (n+1) (ybc l)=false:=rfl
theorem ywc{n:Nat}(l:List (Int×Int)):scalar (n+1) (ybc l)=false:=rfl
theorem ybds{n:Nat}(o:Own)(l:List (Int×Int)):view o (n+1) (ybc l)=ybc l:=rfl
theorem ybhj{n:Nat}(o:Own)(l:List (Int×Int)):vok o (n+1) (ybc l)=True:=rfl
theorem ybif{n:Nat}(h:Nm->Nm)(l:List (Int×Int)):ren h (n+1) (ybc l)=ybc l:=rfl
theorem ybja{n:Nat}(L:Nm->Bool)(l:List (Int×Int)):cln L (n+1) (ybc l)=true:=rfl
theorem ybcz(l:List (List (Int×Int))):one1 (ybe l)=true:=rfl
theorem yyc{n:Nat}(l:List (List (Int×Int))):owned (n+1) (ybe l)=false:=rfl
theorem yul{n:Nat}(l:List (List (Int×Int))):scalar (n+1) (ybe l)=false:=rfl
theorem ybcj{n:Nat}(o:Own)(l:List (List (Int×Int))):view o (n+1) (ybe l)=ybe l:=rfl
theorem ybht{n:Nat}(o:Own)(l:List (List (Int×Int))):vok o (n+1) (ybe l)=True:=rfl
theorem ybjq{n:Nat}(h:Nm->Nm)(l:List (List (Int×Int))):ren h (n+1) (ybe l)=ybe l:=rfl
theorem ybiq{n:Nat}(L:Nm->Bool)(l:List (List (Int×Int))):cln L (n+1) (ybe l)=true:=rfl
theorem ybiy(l:List (List Int)):one1 (ybj l)=true:=rfl
theorem ybck{n:Nat}(l:List (List Int)):owned (n+1) (ybj l)=false:=rfl
theorem yyk{n:Nat}(l:List (List Int)):scalar (n+1) (ybj l)=false:=rfl
theorem ybjv{n:Nat}(o:Own)(l:List (List Int)):view o (n+1) (ybj l)=ybj l:=rfl
theorem yboi{n:Nat}(o:Own)(l:List (List Int)):vok o (n+1) (ybj l)=True:=rfl
theorem ybqx{n:Nat}(h:Nm->Nm)(l:List (List Int)):ren h (n+1) (ybj l)=ybj l:=rfl
theorem yblg{n:Nat}(L:Nm->Bool)(l:List (List Int)):cln L (n+1) (ybj l)=true:=rfl
theorem ybii(l:List VarR):one1 (ycd l)=true:=rfl
theorem ybej{n:Nat}(l:List VarR):owned (n+1) (ycd l)=false:=rfl
theorem yzx{n:Nat}(l:List VarR):scalar (n+1) (ycd l)=false:=rfl
theorem ybjy{n:Nat}(o:Own)(l:List VarR):view o (n+1) (ycd l)=ycd l:=rfl
theorem yboj{n:Nat}(o:Own)(l:List VarR):vok o (n+1) (ycd l)=True:=rfl
theorem ybqu{n:Nat}(h:Nm->Nm)(l:List VarR):ren h (n+1) (ycd l)=ycd l:=rfl
theorem ybqb{n:Nat}(L:Nm->Bool)(l:List VarR):cln L (n+1) (ycd l)=true:=rfl
theorem ybkh(l:List SetR):one1 (ygq l)=true:=rfl
theorem ybdl{n:Nat}(l:List SetR):owned (n+1) (ygq l)=false:=rfl
theorem yzn{n:Nat}(l:List SetR):scalar (n+1) (ygq l)=false:=rfl
theorem ybko{n:Nat}(o:Own)(l:List SetR):view o (n+1) (ygq l)=ygq l:=rfl
theorem ybok{n:Nat}(o:Own)(l:List SetR):vok o (n+1) (ygq l)=True:=rfl
theorem yblk{n:Nat}(h:Nm->Nm)(l:List SetR):ren h (n+1) (ygq l)=ygq l:=rfl
theorem ybpu{n:Nat}(L:Nm->Bool)(l:List SetR):cln L (n+1) (ygq l)=true:=rfl
theorem ybdo(l:List RuleR):one1 (ycl l)=true:=rfl
theorem ywt{n:Nat}(l:List RuleR):owned (n+1) (ycl l)=false:=rfl
theorem yvg{n:Nat}(l:List RuleR):scalar (n+1) (ycl l)=false:=rfl
theorem ybdi{n:Nat}(o:Own)(l:List RuleR):view o (n+1) (ycl l)=ycl l:=rfl
theorem ybhs{n:Nat}(o:Own)(l:List RuleR):vok o (n+1) (ycl l)=True:=rfl
theorem ybig{n:Nat}(h:Nm->Nm)(l:List RuleR):ren h (n+1) (ycl l)=ycl l:=rfl
theorem ybkj{n:Nat}(L:Nm->Bool)(l:List RuleR):cln L (n+1) (ycl l)=true:=rfl
theorem ybbo(l:Gr):one1 (ydi l)=true:=rfl
theorem yyb{n:Nat}(l:Gr):owned (n+1) (ydi l)=false:=rfl
theorem yun{n:Nat}(l:Gr):scalar (n+1) (ydi l)=false:=rfl
theorem ybdr{n:Nat}(o:Own)(l:Gr):view o (n+1) (ydi l)=ydi l:=rfl
theorem ybju{n:Nat}(o:Own)(l:Gr):vok o (n+1) (ydi l)=True:=rfl
theorem ybiu{n:Nat}(h:Nm->Nm)(l:Gr):ren h (n+1) (ydi l)=ydi l:=rfl
theorem ybil{n:Nat}(L:Nm->Bool)(l:Gr):cln L (n+1) (ydi l)=true:=rfl
theorem ybeb{n:Nat}(fr:List Nm)(o:Own)(l:List Int):ycw fr o (n+1) (yw l)=yw l:=rfl
theorem ybne{n:Nat}(fr:List Nm)(o:Own)(l:List Int):pok fr o (n+1) (yw l)=True:=rfl
theorem yys{n:Nat}(fr:List Nm)(o:Own)(l:List (Int×Int)):ycw fr o (n+1) (ybc l)=ybc l:=rfl
theorem ybhh{n:Nat}(fr:List Nm)(o:Own)(l:List (Int×Int)):pok fr o (n+1) (ybc l)=True:=rfl
theorem yzz{n:Nat}(fr:List Nm)(o:Own)(l:List (List (Int×Int))):ycw fr o (n+1) (ybe l)=ybe l:=rfl
theorem ybkp{n:Nat}(fr:List Nm)(o:Own)(l:List (List (Int×Int))):pok fr o (n+1) (ybe l)=True:=rfl
theorem ybdz{n:Nat}(fr:List Nm)(o:Own)(l:List (List Int)):ycw fr o (n+1) (ybj l)=ybj l:=rfl
theorem ybus{n:Nat}(fr:List Nm)(o:Own)(l:List (List Int)):pok fr o (n+1) (ybj l)=True:=rfl
theorem ybbf{n:Nat}(fr:List Nm)(o:Own)(l:List VarR):ycw fr o (n+1) (ycd l)=ycd l:=rfl
theorem ybqt{n:Nat}(fr:List Nm)(o:Own)(l:List VarR):pok fr o (n+1) (ycd l)=True:=rfl
theorem ybbp{n:Nat}(fr:List Nm)(o:Own)(l:List SetR):ycw fr o (n+1) (ygq l)=ygq l:=rfl
theorem ybrd{n:Nat}(fr:List Nm)(o:Own)(l:List SetR):pok fr o (n+1) (ygq l)=True:=rfl
theorem yzb{n:Nat}(fr:List Nm)(o:Own)(l:List RuleR):ycw fr o (n+1) (ycl l)=ycl l:=rfl
theorem ybij{n:Nat}(fr:List Nm)(o:Own)(l:List RuleR):pok fr o (n+1) (ycl l)=True:=rfl
theorem yxr{n:Nat}(fr:List Nm)(o:Own)(l:Gr):ycw fr o (n+1) (ydi l)=ydi l:=rfl
theorem ybit{n:Nat}(fr:List Nm)(o:Own)(l:Gr):pok fr o (n+1) (ydi l)=True:=rfl
theorem ybcy(l:List Int):SV.cells (yw l)=[yw l]:=rfl
theorem yyw(l:List (Int×Int)):SV.cells (ybc l)=[ybc l]:=rfl
theorem yxf(l:List (List (Int×Int))):SV.cells (ybe l)=[ybe l]:=rfl
theorem ybcd(l:List (List Int)):SV.cells (ybj l)=[ybj l]:=rfl
theorem ybdb(l:List VarR):SV.cells (ycd l)=[ycd l]:=rfl
theorem ybdp(l:List SetR):SV.cells (ygq l)=[ygq l]:=rfl
theorem yyi(l:List RuleR):SV.cells (ycl l)=[ycl l]:=rfl
theorem ybaj(l:Gr):SV.cells (ydi l)=[ydi l]:=rfl
attribute [go_sem] yjk ybbv yzt ybji ybtt ybsc ybmq ybed ybae ywc ybds ybhj ybif ybja
attribute [go_sem] ybcz yyc yul ybcj ybht ybjq ybiq ybiy ybck yyk ybjv yboi ybqx
attribute [go_sem] yblg ybii ybej yzx ybjy yboj ybqu ybqb ybkh ybdl yzn ybko ybok yblk
attribute [go_sem] ybpu ybdo ywt yvg ybdi ybhs ybig ybkj ybbo yyb yun ybdr ybju
attribute [go_sem] ybiu ybil ybeb ybne yys ybhh yzz ybkp ybdz ybus ybbf ybqt ybbp ybrd
attribute [go_sem] yzb ybij yxr ybit ybcy yyw yxf ybcd ybdb ybdp yyi ybaj
end Sh
end
end Go.Proofs.YtiejahgklcjhkaaGreatDoor
