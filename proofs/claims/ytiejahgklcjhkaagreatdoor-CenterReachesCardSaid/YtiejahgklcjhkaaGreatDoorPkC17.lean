/- Lemmas, joined: ScCe CeA CeB RnA RnB Pk ShZ ScPq Fl Lks CeC SiC SiD SiE. -/
import Derived.Test.YtiejahgklcjhkaaGreatDoorPkC11
import Derived.Test.YtiejahgklcjhkaaGreatDoorPkC13
import Derived.Test.YtiejahgklcjhkaaGreatDoorPkC16
import Derived.Test.YtiejahgklcjhkaaGreatDoorPkC12
import Derived.Test.YtiejahgklcjhkaaGreatDoorPkC9
set_option linter.unusedSimpArgs false
set_option linter.unusedVariables false
namespace Go.Proofs.YtiejahgklcjhkaaGreatDoor
namespace Sh
open Go Ev
def yboq:LO:=[o3 (.box 27 (.tmp 0)) 1 0,o3 (.mv (ci' 0)) 2 0,o3 (.mv (ci' 0)) 3 2]
def ybuf:LO:=[ld' true 2 1 6 0,cl' 96 [6] 7 1,o3 (.un .not (.tmp 7)) 8 3]
def ycpb:LO:=[o3 (.mv (ci' 0)) 2 0,o3 (.mv (ci' 0)) 3 1]
def ycnh:LO:=[fa' 1 1 1 9 0,ld' false 1 9 10 1,ln' 10 11 3,o3 (.mv (ci' 0)) 12 0]
def ybod:LO:=[bn' .lss 12 11 13 0]
def yckd:LO:=[ix' 1 10 12 14 0,ld' false 1 14 15 1,mv' 15 5 3]
def ycff:LO:=[mv' 3 16 0,mv' 5 17 0,ln' 17 18 2,bn' .add 16 18 19 7,mv' 19 3 15]
def yccs:LO:=[o3 (.bin .add (.tmp 12) (ci' 1)) 20 0,mv' 20 12 1]
def ycci:LO:=[fa' 0 1 1 21 0,ld' false 1 21 22 1,ln' 22 23 3,mv' 3 24 0,o3 (.bin .quo (.tmp 24) (ci' 2)) 25 8,mv' 23 2 7,mv' 25 3 63]
def c122:SC:=(.seq (.reg false yboq) (.seq (.seq (.reg false ybuf) (.cond (.tmp 8) (.seq (.reg false ycpb) .ret) .skip)) (.seq (.seq (.reg false ycnh) (.block 0 (.loop (.seq (.reg false ybod) (.seq (.cond (.tmp 13) .skip (.exit 0)) (.seq (.block 1 (.seq (.reg false yckd) (.reg false ycff))) (.reg false yccs))))))) (.seq (.reg false ycci) .ret))))
theorem ycxb:Fn 122 c122 [.t 2,.t 3]:=fn_0 Tryz.func122 (by kernel_rfl) (by kernel_rfl)
def ybow:LO:=[o3 (.box 27 (.tmp 0)) 1 0,o3 (.mv (.const (.bool false))) 2 0]
def ybvm:LO:=[ld' true 2 1 5 0,cl' 137 [5] 6 1,o3 (.un .not (.tmp 6)) 7 3]
def ycly:LO:=[o3 (.mv (.const (.bool false))) 2 0]
def ycoz:LO:=[ld' true 2 1 9 0,cl' 122 [9] 10 1,mv' 10 8 3,xt' 8 0 11 7,xt' 8 1 12 7,mv' 11 3 15,mv' 12 4 63]
def ycix:LO:=[mv' 4 13 0,mv' 3 14 0,o3 (.bin .sub (.tmp 14) (ci' 1)) 15 2,bn' .eql 13 15 16 7,mv' 16 2 15]
def c136:SC:=(.seq (.reg false ybow) (.seq (.seq (.reg false ybvm) (.cond (.tmp 7) (.seq (.reg false ycly) .ret) .skip)) (.seq (.reg false ycoz) (.seq (.reg false ycix) .ret))))
theorem ycyq:Fn 136 c136 [.t 2]:=fn_0 Tryz.func136 (by kernel_rfl) (by kernel_rfl)
def ycsu:LO:=[o3 (.box 27 (.tmp 0)) 1 0,o3 (.mv (ci' 0)) 2 0]
def ycxp:LO:=[ld' true 2 1 5 0,cl' 137 [5] 6 1,o3 (.un .not (.tmp 6)) 7 3]
def ycyw:LO:=[o3 (.mv (.const (.int .i64 (-1)))) 2 0]
def ydeh:LO:=[o3 (.mv (ci' 0)) 3 0]
def ydhg:LO:=[fa' 1 1 1 8 0,ld' false 1 8 9 1,ln' 9 10 3,o3 (.mv (ci' 0)) 11 0]
def ycxf:LO:=[bn' .lss 11 10 12 0]
def ycyz:LO:=[mv' 11 13 0,mv' 13 4 1]
def ydam:LO:=[mv' 3 14 0,ld' true 2 1 15 0,mv' 4 16 0,cl' 139 [15,16] 17 6,cl' 138 [17] 18 14,o3 (.mm true (.tmp 14) (.tmp 18)) 19 31,mv' 19 3 63]
def yczp:LO:=[o3 (.bin .add (.tmp 11) (ci' 1)) 20 0,mv' 20 11 1]
def ydcy:LO:=[mv' 3 21 0,mv' 21 2 1]
def c88:SC:=(.seq (.reg false ycsu) (.seq (.seq (.reg false ycxp) (.cond (.tmp 7) (.seq (.reg false ycyw) .ret) .skip)) (.seq (.reg false ydeh) (.seq (.seq (.reg false ydhg) (.block 0 (.loop (.seq (.reg false ycxf) (.seq (.cond (.tmp 12) .skip (.exit 0)) (.seq (.block 1 (.seq (.reg false ycyz) (.reg false ydam))) (.reg false yczp))))))) (.seq (.reg false ydcy) .ret)))))
theorem ydbg:Fn 88 c88 [.t 2]:=fn_0 Tryz.func88 (by kernel_rfl) (by kernel_rfl)
def ydai:LO:=[o3 (.box 27 (.tmp 0)) 1 0,o3 (.mv (.const (.bool false))) 2 0]
def ydbd:LO:=[ld' true 2 1 3 0,cl' 136 [3] 4 1,mv' 4 2 3]
def c87:SC:=(.seq (.reg false ydai) (.seq (.reg false ydbd) .ret))
theorem yddo:Fn 87 c87 [.t 2]:=fn_0 Tryz.func87 (by kernel_rfl) (by kernel_rfl)
def yctu:LO:=[o3 (.box 27 (.tmp 0)) 2 0,o3 (.mv (.const (.bool false))) 4 0]
def ycuf:LO:=[ld' true 2 2 5 0,cl' 87 [5] 6 1,mv' 6 7 3,⟨.load true 2 (.tmp 2),some 8,some (7,true),7⟩,⟨.mv (.tmp 1),some 9,some (7,true),7⟩,⟨.faddr 0 1 (.tmp 2),some 10,some (7,true),7⟩,⟨.load false 1 (.tmp 10),some 11,some (7,true),39⟩,⟨.len (.tmp 11),some 12,some (7,true),103⟩,⟨.bslice 3 1 1 [.i .i64 0] [(0,1,(.tmp 12))],some 13,some (7,true),231⟩,⟨.call (.func 102) [(.tmp 8),(.tmp 9),(.tmp 13)],some 14,some (7,true),511⟩,o3 (.pick (.tmp 7) (.tmp 14) (.const (.bool false))) 15 1023,mv' 15 4 2047]
def c80:SC:=(.seq (.reg false yctu) (.seq (.reg false ycuf) .ret))
theorem ydae:Fn 80 c80 [.t 4]:=fn_0 Tryz.func80 (by kernel_rfl) (by kernel_rfl)
def ycdw:LO:=[o3 (.box 27 (.tmp 0)) 3 0,o3 (.mv (ci' 0)) 6 0]
def ycqi:LO:=[o3 (.mv (ci' 1)) 7 0]
def ycme:LO:=[fa' 1 1 3 10 0,ld' false 1 10 11 1,mv' 2 12 0,ix' 1 11 12 13 7,ld' false 1 13 14 15,ln' 14 15 31,o3 (.mv (ci' 0)) 16 0]
def ybfk:LO:=[bn' .lss 16 15 17 0]
def ybob:LO:=[ix' 2 14 16 18 0,ld' true 2 18 19 1,o3 (.alloc 95 1 [.i .i64 0,.i .i64 0]) 9 0,o0 (.store 2 (.tmp 9) (.tmp 19)) 7]
def ybpp:LO:=[fa' 0 1 9 20 0,ld' false 1 20 21 1,mv' 1 22 0,bn' .neq 21 22 23 7]
def ycnp:LO:=[mv' 7 24 0,ld' true 2 3 25 0,mv' 2 26 0,fa' 0 1 9 27 0,ld' false 1 27 28 8,cl' 142 [25,26,28] 29 30,o3 (.bin .add (ci' 1) (.tmp 29)) 30 62,o3 (.mm true (.tmp 24) (.tmp 30)) 31 127,mv' 31 7 255]
def ybry:LO:=[o3 (.bin .add (.tmp 16) (ci' 1)) 32 0,mv' 32 16 1]
def yccz:LO:=[mv' 7 33 0,mv' 33 6 1]
def c142:SC:=(.seq (.reg false ycdw) (.seq (.reg false ycqi) (.seq (.seq (.reg false ycme) (.block 0 (.loop (.seq (.reg false ybfk) (.seq (.cond (.tmp 17) .skip (.exit 0)) (.seq (.block 1 (.seq (.reg false ybob) (.seq (.reg false ybpp) (.cond (.tmp 23) (.reg false ycnp) .skip)))) (.reg false ybry))))))) (.seq (.reg false yccz) .ret))))
theorem ycya:Fn 142 c142 [.t 6]:=fn_0 Tryz.func142 (by kernel_rfl) (by kernel_rfl)
def ydbj:LO:=[o3 (.box 27 (.tmp 0)) 1 0,o3 (.mv (.const (.slice none 0 0))) 2 0]
def ydee:LO:=[fa' 0 1 1 10 0,ld' false 1 10 11 1,ln' 11 12 3,o3 (.mk 3 1 8 [.i .i64 0] (.tmp 12) (.tmp 12)) 13 7,mv' 13 3 15]
def ydfq:LO:=[fa' 1 1 1 14 0,ld' false 1 14 15 1,ln' 15 16 3,o3 (.mv (ci' 0)) 17 0]
def ycsm:LO:=[bn' .lss 17 16 18 0]
def ydfk:LO:=[mv' 17 19 0,ix' 1 15 17 20 0,ld' false 1 20 21 2,mv' 19 4 7,mv' 21 5 15]
def ydgg:LO:=[o3 (.mv (ci' 0)) 6 0]
def ydas:LO:=[mv' 5 22 0,ln' 22 23 1,o3 (.mv (ci' 0)) 24 0]
def ycuc:LO:=[bn' .lss 24 23 25 0]
def yden:LO:=[ix' 2 22 24 26 0,ld' true 2 26 27 1,o3 (.alloc 95 1 [.i .i64 0,.i .i64 0]) 8 0,o0 (.store 2 (.tmp 8) (.tmp 27)) 7]
def ycyt:LO:=[ld' true 2 1 28 0,mv' 4 29 0,fa' 0 1 8 30 0,ld' false 1 30 31 4,cl' 142 [28,29,31] 32 15,mv' 32 9 31]
def ycdh:LO:=[mv' 3 33 0,mv' 4 34 0,mv' 3 35 0,mv' 4 36 0,ix' 1 35 36 37 12,ld' false 1 37 38 28,mv' 9 39 0,mv' 6 40 0,o3 (.mm false (.tmp 39) (.tmp 40)) 41 192,o3 (.mm true (.tmp 38) (.tmp 41)) 42 508,ix' 1 33 34 43 1023,o0 (.store 1 (.tmp 43) (.tmp 42)) 2047]
def ycki:LO:=[mv' 6 44 0,mv' 9 45 0,o3 (.mm true (.tmp 44) (.tmp 45)) 46 3,mv' 46 6 7]
def ycnl:LO:=[o3 (.bin .add (.tmp 24) (ci' 1)) 47 0,mv' 47 24 1]
def ycny:LO:=[o3 (.bin .add (.tmp 17) (ci' 1)) 48 0,mv' 48 17 1]
def ycel:LO:=[mv' 3 49 0,mv' 49 2 1]
def c91:SC:=(.seq (.reg false ydbj) (.seq (.reg false ydee) (.seq (.seq (.reg false ydfq) (.block 0 (.loop (.seq (.reg false ycsm) (.seq (.cond (.tmp 18) .skip (.exit 0)) (.seq (.block 1 (.seq (.reg false ydfk) (.seq (.reg false ydgg) (.seq (.reg false ydas) (.block 2 (.loop (.seq (.reg false ycuc) (.seq (.cond (.tmp 25) .skip (.exit 2)) (.seq (.block 3 (.seq (.reg false yden) (.seq (.reg false ycyt) (.seq (.reg false ycdh) (.reg false ycki))))) (.reg false ycnl)))))))))) (.reg false ycny))))))) (.seq (.reg false ycel) .ret))))
theorem ydab:Fn 91 c91 [.t 2]:=fn_0 Tryz.func91 (by kernel_rfl) (by kernel_rfl)
def ycuk:LO:=[o3 (.box 27 (.tmp 0)) 2 0,o3 (.mv (.const (.bool false))) 4 0]
def ycvc:LO:=[ld' true 2 2 7 0,mv' 1 8 0,cl' 80 [7,8] 9 3,o3 (.un .not (.tmp 9)) 10 7]
def ydgu:LO:=[o3 (.mv (.const (.bool false))) 4 0]
def ydby:LO:=[ld' true 2 2 11 0,cl' 91 [11] 12 1,ln' 12 13 3,o3 (.mv (ci' 0)) 14 0]
def ybzy:LO:=[bn' .lss 14 13 15 0]
def ycrx:LO:=[mv' 14 16 0,ix' 1 12 14 17 0,ld' false 1 17 18 2,mv' 16 5 7,mv' 18 6 15]
def ycxy:LO:=[mv' 1 19 0,mv' 5 20 0,ix' 1 19 20 21 3,ld' false 1 21 22 7,o3 (.idx 1 (.tmp 22) (ci' 0)) 23 15,ld' false 1 23 24 31,mv' 6 25 0,bn' .neq 24 25 26 127]
def yczw:LO:=[o3 (.mv (.const (.bool false))) 4 0]
def ycyx:LO:=[o3 (.bin .add (.tmp 14) (ci' 1)) 27 0,mv' 27 14 1]
def ydek:LO:=[o3 (.mv (.const (.bool true))) 4 0]
def c35:SC:=(.seq (.reg false ycuk) (.seq (.seq (.reg false ycvc) (.cond (.tmp 10) (.seq (.reg false ydgu) .ret) .skip)) (.seq (.seq (.reg false ydby) (.block 0 (.loop (.seq (.reg false ybzy) (.seq (.cond (.tmp 15) .skip (.exit 0)) (.seq (.block 1 (.seq (.reg false ycrx) (.seq (.reg false ycxy) (.cond (.tmp 26) (.seq (.reg false yczw) .ret) .skip)))) (.reg false ycyx))))))) (.seq (.reg false ydek) .ret))))
theorem ydfy:Fn 35 c35 [.t 4]:=fn_0 Tryz.func35 (by kernel_rfl) (by kernel_rfl)
def ycxw:LO:=[o3 (.box 27 (.tmp 0)) 1 0,o3 (.alloc 51 1 [.i .i64 0,.b false,.b false,.i .i64 0,.i .i64 0]) 2 0]
def ycyf:LO:=[ld' true 2 1 3 0,cl' 87 [3] 4 1,o3 (.un .not (.tmp 4)) 5 3]
def ydbq:LO:=[o3 (.build [.i .i64 0,.b false,.b false,.i .i64 0,.i .i64 0] []) 6 0,o0 (.store 5 (.tmp 2) (.tmp 6)) 1]
def ydgm:LO:=[ld' true 2 1 7 0,cl' 88 [7] 8 1,o3 (.bin .quo (.tmp 8) (ci' 2)) 9 3,o3 (.bin .add (.tmp 9) (ci' 1)) 10 7,o3 (.build [.i .i64 0,.b false,.b false,.i .i64 0,.i .i64 0] [(0,1,(ci' 3)),(2,1,(.const (.bool true))),(3,1,(.tmp 10)),(4,1,(.const (.int .i64 (-1))))]) 11 15,o0 (.store 5 (.tmp 2) (.tmp 11)) 31]
def c33:SC:=(.seq (.reg false ycxw) (.seq (.seq (.reg false ycyf) (.cond (.tmp 5) (.seq (.reg false ydbq) .ret) .skip)) (.seq (.reg false ydgm) .ret)))
theorem ydea:Fn 33 c33 [.c 2 true 5]:=fn_0 Tryz.func33 (by kernel_rfl) (by kernel_rfl)
def ydag:LO:=[o3 (.mv (.const (.string (ByteArray.mk #[])))) 0 0]
def ydgz:LO:=[o3 (.mv (.const (.string (ByteArray.mk #[112,114,111,103,114,97,109,32,99,101,110,116,101,114,59,10,118,97,114,32,104,32,58,32,48,32,46,46,32,110,59,10,114,117,108,101,32,102,105,120,58,32,104,32,33,61,32,40,100,101,103,32,60,32,50,32,63,32,48,32,58,32,40,115,101,99,111,110,100,40,113,46,104,41,32,60,32,110,32,63,32,115,101,99,111,110,100,40,113,46,104,41,32,43,32,49,32,58,32,110,41,41,32,45,62,32,104,32,58,61,32,40,100,101,103,32,60,32,50,32,63,32,48,32,58,32,40,115,101,99,111,110,100,40,113,46,104,41,32,60,32,110,32,63,32,115,101,99,111,110,100,40,113,46,104,41,32,43,32,49,32,58,32,110,41,41,59,10])))) 0 0]
def c23:SC:=(.seq (.reg false ydag) (.seq (.reg false ydgz) .ret))
theorem yczh:Fn 23 c23 [.t 0]:=fn_0 Tryz.func23 (by kernel_rfl) (by kernel_rfl)
def ybsc:LO:=[o3 (.box 27 (.tmp 0)) 1 0,o3 (.mv (ci' 0)) 2 0,o3 (.mv (ci' 0)) 3 2]
def ybnw:LO:=[ld' true 2 1 6 0,cl' 85 [6] 7 1,o3 (.un .not (.tmp 7)) 8 3]
def yccm:LO:=[o3 (.mv (ci' 0)) 2 0,o3 (.mv (ci' 0)) 3 1]
def yciq:LO:=[o3 (.mv (ci' 0)) 4 0]
def ycin:LO:=[o3 (.mv (ci' 0)) 5 0]
def ybns:LO:=[mv' 5 9 0,fa' 1 1 1 10 0,ld' false 1 10 11 2,ln' 11 12 6,bn' .lss 9 12 13 15]
def ycbw:LO:=[mv' 4 16 0,fa' 1 1 1 17 0,ld' false 1 17 18 2,mv' 5 19 0,ix' 1 18 19 20 14,ld' false 1 20 21 30,ln' 21 22 62,bn' .add 16 22 23 127,mv' 23 4 255]
def ycdn:LO:=[mv' 5 14 0,o3 (.bin .add (.tmp 14) (ci' 1)) 15 1,mv' 15 5 3]
def ychq:LO:=[fa' 1 1 1 24 0,ld' false 1 24 25 1,ln' 25 26 3,mv' 4 27 0,o3 (.bin .quo (.tmp 27) (ci' 2)) 28 8,mv' 26 2 7,mv' 28 3 63]
def c124:SC:=(.seq (.reg false ybsc) (.seq (.seq (.reg false ybnw) (.cond (.tmp 8) (.seq (.reg false yccm) .ret) .skip)) (.seq (.reg false yciq) (.seq (.seq (.reg false ycin) (.block 0 (.loop (.seq (.seq (.reg false ybns) (.cond (.tmp 13) .skip (.exit 0))) (.seq (.block 1 (.reg false ycbw)) (.reg false ycdn)))))) (.seq (.reg false ychq) .ret)))))
theorem ycyi:Fn 124 c124 [.t 2,.t 3]:=fn_0 Tryz.func124 (by kernel_rfl) (by kernel_rfl)
def ybhj:LO:=[o3 (.box 27 (.tmp 0)) 1 0,o3 (.mv (.const (.bool false))) 2 0]
def ybhf:LO:=[ld' true 2 1 6 0,cl' 124 [6] 7 1,mv' 7 5 3,xt' 5 0 8 7,xt' 5 1 9 7,mv' 8 3 15,mv' 9 4 63]
def ybfo:LO:=[ld' true 2 1 10 0,cl' 141 [10] 11 1,mv' 11 12 3,⟨.mv (.tmp 4),some 13,some (12,true),7⟩,⟨.mv (.tmp 3),some 14,some (12,true),7⟩,⟨.bin .sub (.tmp 14) (ci' 1),some 15,some (12,true),23⟩,⟨.bin .eql (.tmp 13) (.tmp 15),some 16,some (12,true),63⟩,o3 (.pick (.tmp 12) (.tmp 16) (.const (.bool false))) 17 127,mv' 17 2 255]
def c140:SC:=(.seq (.reg false ybhj) (.seq (.reg false ybhf) (.seq (.reg false ybfo) .ret)))
theorem ycwc:Fn 140 c140 [.t 2]:=fn_0 Tryz.func140 (by kernel_rfl) (by kernel_rfl)
def ycyg:LO:=[o3 (.box 27 (.tmp 0)) 1 0,o3 (.mv (ci' 0)) 2 0]
def ycss:LO:=[ld' true 2 1 5 0,cl' 141 [5] 6 1,o3 (.un .not (.tmp 6)) 7 3]
def ydcr:LO:=[o3 (.mv (.const (.int .i64 (-1)))) 2 0]
def yczm:LO:=[o3 (.mv (ci' 0)) 3 0]
def ydfh:LO:=[o3 (.mv (ci' 0)) 4 0]
def ycyk:LO:=[mv' 4 8 0,fa' 1 1 1 9 0,ld' false 1 9 10 2,ln' 10 11 6,bn' .lss 8 11 12 15]
def yczl:LO:=[mv' 3 15 0,ld' true 2 1 16 0,mv' 4 17 0,cl' 28 [16,17] 18 6,o3 (.mm true (.tmp 15) (.tmp 18)) 19 15,mv' 19 3 31]
def ydgt:LO:=[mv' 4 13 0,o3 (.bin .add (.tmp 13) (ci' 1)) 14 1,mv' 14 4 3]
def ydey:LO:=[mv' 3 20 0,mv' 20 2 1]
def c90:SC:=(.seq (.reg false ycyg) (.seq (.seq (.reg false ycss) (.cond (.tmp 7) (.seq (.reg false ydcr) .ret) .skip)) (.seq (.reg false yczm) (.seq (.seq (.reg false ydfh) (.block 0 (.loop (.seq (.seq (.reg false ycyk) (.cond (.tmp 12) .skip (.exit 0))) (.seq (.block 1 (.reg false yczl)) (.reg false ydgt)))))) (.seq (.reg false ydey) .ret)))))
theorem ydes:Fn 90 c90 [.t 2]:=fn_0 Tryz.func90 (by kernel_rfl) (by kernel_rfl)
def ydak:LO:=[o3 (.mv (.const (.slice none 0 0))) 0 0]
def ydba:LO:=[o3 (.call (.func 79) [(.const (.string (ByteArray.mk #[104]))),(ci' 0),(ci' 1),(ci' 0)]) 1 0,o3 (.bslice 87 6 1 [.a (.string (ByteArray.mk #[])),.i .i64 0,.i .i64 0,.i .i64 0,.i .i64 0,.i .i64 0] [(0,6,(.tmp 1))]) 2 1,mv' 2 0 3]
def c25:SC:=(.seq (.reg false ydak) (.seq (.reg false ydba) .ret))
theorem ydcv:Fn 25 c25 [.t 0]:=fn_0 Tryz.func25 (by kernel_rfl) (by kernel_rfl)
def ydaf:LO:=[o3 (.box 27 (.tmp 0)) 1 0,o3 (.mv (.const (.bool false))) 2 0]
def ycze:LO:=[ld' true 2 1 3 0,cl' 140 [3] 4 1,mv' 4 2 3]
def c89:SC:=(.seq (.reg false ydaf) (.seq (.reg false ycze) .ret))
theorem ydhi:Fn 89 c89 [.t 2]:=fn_0 Tryz.func89 (by kernel_rfl) (by kernel_rfl)
def ycvo:LO:=[o3 (.box 27 (.tmp 0)) 1 0,o3 (.alloc 51 1 [.i .i64 0,.b false,.b false,.i .i64 0,.i .i64 0]) 2 0]
def yctf:LO:=[ld' true 2 1 3 0,cl' 89 [3] 4 1,o3 (.un .not (.tmp 4)) 5 3]
def ydgx:LO:=[o3 (.build [.i .i64 0,.b false,.b false,.i .i64 0,.i .i64 0] []) 6 0,o0 (.store 5 (.tmp 2) (.tmp 6)) 1]
def ydfc:LO:=[ld' true 2 1 7 0,cl' 90 [7] 8 1,o3 (.bin .quo (.tmp 8) (ci' 2)) 9 3,o3 (.bin .add (.tmp 9) (ci' 1)) 10 7,o3 (.build [.i .i64 0,.b false,.b false,.i .i64 0,.i .i64 0] [(0,1,(ci' 3)),(2,1,(.const (.bool true))),(3,1,(.tmp 10)),(4,1,(.const (.int .i64 (-1))))]) 11 15,o0 (.store 5 (.tmp 2) (.tmp 11)) 31]
def c34:SC:=(.seq (.reg false ycvo) (.seq (.seq (.reg false yctf) (.cond (.tmp 5) (.seq (.reg false ydgx) .ret) .skip)) (.seq (.reg false ydfc) .ret)))
theorem ydeq:Fn 34 c34 [.c 2 true 5]:=fn_0 Tryz.func34 (by kernel_rfl) (by kernel_rfl)
def c5_0:LO:=[o3 (.box 24 (.tmp 0)) 3 0,o3 (.mv (.const (.bool false))) 6 0]
def c5_1:LO:=[ld' true 6 3 15 0,o3 (.call (.func 21) [(.tmp 15),(ci' 10)]) 16 1,o3 (.alloc 27 1 [.a (.slice none 0 0),.a (.slice none 0 0)]) 7 0,o0 (.store 2 (.tmp 7) (.tmp 16)) 7]
def c5_2:LO:=[ld' true 2 7 17 0,cl' 25 [] 18 0,mv' 1 19 0,cl' 24 [17,18,19] 20 7,mv' 20 8 15]
def c5_3:LO:=[cl' 23 [] 22 0,ld' true 2 7 23 0,ld' true 2 7 24 0,cl' 33 [24] 25 5,o3 (.field false 0 1 (.tmp 25)) 26 13,mv' 8 27 0,mv' 2 28 0,o3 (.call (.func 26) [(.tmp 28),(ci' 120)]) 29 77,cl' 22 [22,23,26,27,29] 30 255,mv' 30 21 511,xt' 21 0 31 1023,xt' 21 1 32 1023,xt' 21 2 33 1023,mv' 31 9 2047,mv' 32 10 12287,mv' 33 11 32767]
def c5_4:LO:=[mv' 11 34 0,o3 (.un .not (.tmp 34)) 35 1,mv' 35 36 3,⟨.load true 2 (.tmp 7),some 37,some (36,false),7⟩,⟨.call (.func 33) [(.tmp 37)],some 38,some (36,false),15⟩,⟨.load true 2 (.tmp 7),some 39,some (36,false),7⟩,⟨.call (.func 34) [(.tmp 39)],some 40,some (36,false),63⟩,⟨.seq true [false,true,true,false,false] (.tmp 38) (.tmp 40),some 41,some (36,false),127⟩,o3 (.pick (.tmp 36) (.const (.bool true)) (.tmp 41)) 42 255]
def c5_5:LO:=[o3 (.mv (.const (.bool false))) 6 0]
def c5_6:LO:=[o3 (.mv (.const (.slice none 0 0))) 12 0]
def c5_7:LO:=[o3 (.mv (ci' 0)) 13 0]
def c5_8:LO:=[mv' 13 43 0,mv' 9 44 0,ln' 44 45 2,bn' .lss 43 45 46 7]
def ydax:LO:=[mv' 12 49 0,ld' true 2 7 50 0,mv' 9 51 0,mv' 13 52 0,ix' 1 51 52 53 12,ld' false 1 53 54 28,cl' 35 [50,54] 55 62,o3 (.bslice 4 1 1 [.b false] [(0,1,(.tmp 55))]) 56 126,o3 (.app 4 1 1 (.tmp 49) (.tmp 56)) 57 255,mv' 57 12 511]
def c5_9:LO:=[mv' 13 47 0,o3 (.bin .add (.tmp 47) (ci' 1)) 48 1,mv' 48 13 3]
def ydaa:LO:=[cl' 23 [] 58 0,cl' 37 [58] 59 1,ld' true 2 7 60 0,mv' 9 61 0,mv' 9 62 0,ln' 62 63 16,o3 (.bin .sub (.tmp 63) (ci' 1)) 64 48,ix' 1 61 64 65 120,ld' false 1 65 66 248,cl' 36 [59,60,66] 67 511,o3 (.bin .eql (.tmp 67) (.const (.int .u32 0))) 68 1023,mv' 68 14 2047]
def ydfg:LO:=[cl' 30 [] 69 0,mv' 69 70 1,⟨.mv (.tmp 12),some 71,some (70,true),3⟩,⟨.mv (.tmp 10),some 72,some (70,true),3⟩,⟨.load true 2 (.tmp 7),some 73,some (70,true),3⟩,⟨.call (.func 33) [(.tmp 73)],some 74,some (70,true),19⟩,⟨.mv (.tmp 14),some 75,some (70,true),3⟩,⟨.call (.func 38) [(.tmp 71),(.tmp 72),(.tmp 74),(.tmp 75)],some 76,some (70,true),127⟩,o3 (.pick (.tmp 70) (.tmp 76) (.const (.bool false))) 77 255,mv' 77 6 511]
def c5:SC:=(.seq (.reg false c5_0) (.seq (.reg false c5_1) (.seq (.reg true c5_2) (.seq (.reg true c5_3) (.seq (.seq (.reg true c5_4) (.cond (.tmp 42) (.seq (.reg false c5_5) .ret) .skip)) (.seq (.reg false c5_6) (.seq (.seq (.reg false c5_7) (.block 0 (.loop (.seq (.seq (.reg false c5_8) (.cond (.tmp 46) .skip (.exit 0))) (.seq (.block 1 (.reg true ydax)) (.reg false c5_9)))))) (.seq (.reg true ydaa) (.seq (.reg false ydfg) .ret)))))))))
theorem ydjs:Fn 5 c5 [.t 6]:=fn_0 Tryz.func5 (by kernel_rfl) (by kernel_rfl)
def c6_0:LO:=[o3 (.box 24 (.tmp 0)) 3 0,o3 (.mv (.const (.bool false))) 6 0]
def c6_1:LO:=[ld' true 6 3 13 0,o3 (.call (.func 21) [(.tmp 13),(ci' 10)]) 14 1,o3 (.alloc 27 1 [.a (.slice none 0 0),.a (.slice none 0 0)]) 7 0,o0 (.store 2 (.tmp 7) (.tmp 14)) 7]
def c6_2:LO:=[cl' 23 [] 15 0,cl' 37 [15] 16 1,o3 (.alloc 58 1 [.a (.string (ByteArray.mk #[])),.a (.slice none 0 0),.a (.slice none 0 0)]) 8 0,o0 (.store 3 (.tmp 8) (.tmp 16)) 7]
def c6_3:LO:=[cl' 23 [] 18 0,ld' true 2 7 19 0,ld' true 2 7 20 0,cl' 33 [20] 21 5,o3 (.field false 0 1 (.tmp 21)) 22 13,ld' true 2 7 23 0,cl' 25 [] 24 13,mv' 1 25 0,cl' 24 [23,24,25] 26 237,mv' 2 27 0,o3 (.call (.func 26) [(.tmp 27),(ci' 60)]) 28 1005,cl' 22 [18,19,22,26,28] 29 2047,mv' 29 17 4095,xt' 17 0 30 8191,xt' 17 1 31 8191,xt' 17 2 32 8191,mv' 30 9 16383,mv' 31 10 98303,mv' 32 11 262143]
def c6_4:LO:=[o3 (.mv (ci' 0)) 12 0]
def c6_5:LO:=[mv' 12 33 0,mv' 9 34 0,ln' 34 35 2,bn' .lss 33 35 36 7]
def c6_7:LO:=[ld' true 3 8 39 0,ld' true 2 7 40 0,mv' 9 41 0,mv' 12 42 0,ix' 1 41 42 43 12,ld' false 1 43 44 28,cl' 36 [39,40,44] 45 63,o3 (.bin .eql (.tmp 45) (.const (.int .u32 0))) 46 127,ld' true 2 7 47 0,mv' 9 48 0,mv' 12 49 0,ix' 1 48 49 50 1536,ld' false 1 50 51 3584,cl' 35 [47,51] 52 8063,o3 (.beq true (.tmp 46) (.tmp 52)) 53 16383]
def c6_8:LO:=[o3 (.mv (.const (.bool false))) 6 0]
def c6_6:LO:=[mv' 12 37 0,o3 (.bin .add (.tmp 37) (ci' 1)) 38 1,mv' 38 12 3]
def c6_9:LO:=[cl' 30 [] 54 0,mv' 54 55 1,⟨.mv (.tmp 11),some 56,some (55,true),3⟩,o3 (.pick (.tmp 55) (.tmp 56) (.const (.bool false))) 57 7,mv' 57 6 15]
def c6:SC:=(.seq (.reg false c6_0) (.seq (.reg false c6_1) (.seq (.reg false c6_2) (.seq (.reg true c6_3) (.seq (.seq (.reg false c6_4) (.block 0 (.loop (.seq (.seq (.reg false c6_5) (.cond (.tmp 36) .skip (.exit 0))) (.seq (.block 1 (.seq (.reg true c6_7) (.cond (.tmp 53) (.seq (.reg false c6_8) .ret) .skip))) (.reg false c6_6)))))) (.seq (.reg false c6_9) .ret))))))
theorem ydid:Fn 6 c6 [.t 6]:=fn_0 Tryz.func6 (by kernel_rfl) (by kernel_rfl)
def c4_0:LO:=[o3 (.box 24 (.tmp 0)) 3 0,o3 (.mv (.const (.bool false))) 6 0]
def c4_1:LO:=[ld' true 6 3 16 0,o3 (.call (.func 21) [(.tmp 16),(ci' 10)]) 17 1,o3 (.alloc 27 1 [.a (.slice none 0 0),.a (.slice none 0 0)]) 7 0,o0 (.store 2 (.tmp 7) (.tmp 17)) 7]
def c4_2:LO:=[cl' 23 [] 19 0,ld' true 2 7 20 0,ld' true 2 7 21 0,cl' 25 [] 22 1,mv' 1 23 0,cl' 24 [21,22,23] 24 29,mv' 2 25 0,o3 (.call (.func 26) [(.tmp 25),(ci' 80)]) 26 125,o3 (.call (.func 22) [(.tmp 19),(.tmp 20),(ci' 3),(.tmp 24),(.tmp 26)]) 27 255,mv' 27 18 511,xt' 18 0 28 1023,xt' 18 1 29 1023,xt' 18 2 30 1023,mv' 28 8 2047,mv' 29 9 12287,mv' 30 10 32767]
def c4_3:LO:=[o3 (.mv (ci' 0)) 11 0]
def c4_4:LO:=[mv' 11 31 0,mv' 8 32 0,ln' 32 33 2,bn' .lss 31 33 34 7]
def c4_6:LO:=[mv' 9 37 0,mv' 11 38 0,ix' 5 37 38 39 3,fa' 2 1 39 40 7,ld' false 1 40 41 15,o3 (.bin .sub (.tmp 41) (ci' 1)) 42 31,mv' 42 12 63]
def c4_7:LO:=[o3 (.mv (ci' 0)) 13 0]
def c4_8:LO:=[mv' 13 43 0,fa' 1 1 7 44 0,ld' false 1 44 45 2,ln' 45 46 6,bn' .lss 43 46 47 15,mv' 47 48 31,⟨.mv (.tmp 12),some 49,some (48,true),63⟩,⟨.bin .geq (.tmp 49) (ci' 0),some 50,some (48,true),127⟩,o3 (.pick (.tmp 48) (.tmp 50) (.const (.bool false))) 51 255]
def ydhk:LO:=[mv' 8 54 0,mv' 11 55 0,ix' 1 54 55 56 3,ld' false 1 56 57 7,ln' 57 58 15,fa' 1 1 7 59 0,ld' false 1 59 60 32,ln' 60 61 96,bn' .neq 58 61 62 255,mv' 62 63 511,⟨.mv (.tmp 8),some 64,some (63,false),1023⟩,⟨.mv (.tmp 11),some 65,some (63,false),1023⟩,⟨.idx 1 (.tmp 64) (.tmp 65),some 66,some (63,false),4095⟩,⟨.load false 1 (.tmp 66),some 67,some (63,false),8191⟩,⟨.mv (.tmp 13),some 68,some (63,false),1023⟩,⟨.idx 1 (.tmp 67) (.tmp 68),some 69,some (63,false),32767⟩,⟨.load false 1 (.tmp 69),some 70,some (63,false),65535⟩,⟨.len (.tmp 70),some 71,some (63,false),131071⟩,⟨.bin .neq (.tmp 71) (ci' 1),some 72,some (63,false),262143⟩,o3 (.pick (.tmp 63) (.const (.bool true)) (.tmp 72)) 73 524287]
def ydiv:LO:=[o3 (.mv (.const (.bool false))) 6 0]
def ydil:LO:=[mv' 8 74 0,mv' 11 75 0,ix' 1 74 75 76 3,ld' false 1 76 77 7,mv' 13 78 0,ix' 1 77 78 79 31,ld' false 1 79 80 63,o3 (.idx 1 (.tmp 80) (ci' 0)) 81 127,ld' false 1 81 82 255,ld' true 2 7 83 0,mv' 13 84 0,cl' 32 [83,84] 85 1536,mv' 82 14 4095,mv' 85 15 8191]
def ydhn:LO:=[mv' 15 86 0,mv' 12 87 0,bn' .leq 86 87 88 3,mv' 88 89 7,⟨.mv (.tmp 14),some 90,some (89,true),15⟩,⟨.mv (.tmp 15),some 91,some (89,true),15⟩,⟨.bin .neq (.tmp 90) (.tmp 91),some 92,some (89,true),63⟩,o3 (.pick (.tmp 89) (.tmp 92) (.const (.bool false))) 93 127,mv' 93 94 255,⟨.mv (.tmp 15),some 95,some (94,false),511⟩,⟨.mv (.tmp 12),some 96,some (94,false),511⟩,⟨.bin .gtr (.tmp 95) (.tmp 96),some 97,some (94,false),2047⟩,⟨.mv (.tmp 97),some 98,some (94,false),4095⟩,⟨.mv (.tmp 14),some 99,some (98,true),8191⟩,⟨.mv (.tmp 12),some 100,some (98,true),8191⟩,⟨.bin .add (.tmp 100) (ci' 1),some 101,some (98,true),24575⟩,⟨.bin .lss (.tmp 99) (.tmp 101),some 102,some (98,true),65535⟩,⟨.pick (.tmp 98) (.tmp 102) (.const (.bool false)),some 103,some (94,false),131071⟩,o3 (.pick (.tmp 94) (.const (.bool true)) (.tmp 103)) 104 262143]
def ydic:LO:=[o3 (.mv (.const (.bool false))) 6 0]
def c4_9:LO:=[mv' 13 52 0,o3 (.bin .add (.tmp 52) (ci' 1)) 53 1,mv' 53 13 3]
def c4_5:LO:=[mv' 11 35 0,o3 (.bin .add (.tmp 35) (ci' 1)) 36 1,mv' 36 11 3]
def ydju:LO:=[cl' 30 [] 105 0,mv' 105 106 1,⟨.mv (.tmp 10),some 107,some (106,true),3⟩,o3 (.pick (.tmp 106) (.tmp 107) (.const (.bool false))) 108 7,mv' 108 6 15]
def c4:SC:=(.seq (.reg false c4_0) (.seq (.reg false c4_1) (.seq (.reg true c4_2) (.seq (.seq (.reg false c4_3) (.block 0 (.loop (.seq (.seq (.reg false c4_4) (.cond (.tmp 34) .skip (.exit 0))) (.seq (.block 1 (.seq (.reg false c4_6) (.seq (.reg false c4_7) (.block 2 (.loop (.seq (.seq (.reg false c4_8) (.cond (.tmp 51) .skip (.exit 2))) (.seq (.block 3 (.seq (.seq (.reg true ydhk) (.cond (.tmp 73) (.seq (.reg false ydiv) .ret) .skip)) (.seq (.reg true ydil) (.seq (.reg false ydhn) (.cond (.tmp 104) (.seq (.reg false ydic) .ret) .skip))))) (.reg false c4_9)))))))) (.reg false c4_5)))))) (.seq (.reg false ydju) .ret)))))
def c3_0:LO:=[o3 (.box 24 (.tmp 0)) 2 0,o3 (.mv (.const (.bool false))) 4 0]
def c3_1:LO:=[ld' true 6 2 14 0,o3 (.call (.func 21) [(.tmp 14),(ci' 10)]) 15 1,o3 (.alloc 27 1 [.a (.slice none 0 0),.a (.slice none 0 0)]) 5 0,o0 (.store 2 (.tmp 5) (.tmp 15)) 7]
def c3_2:LO:=[cl' 23 [] 17 0,ld' true 2 5 18 0,ld' true 2 5 19 0,cl' 25 [] 20 1,mv' 1 21 0,cl' 24 [19,20,21] 22 29,o3 (.call (.func 26) [(.const (.slice none 0 0)),(ci' 12)]) 23 61,o3 (.call (.func 22) [(.tmp 17),(.tmp 18),(ci' 4),(.tmp 22),(.tmp 23)]) 24 127,mv' 24 16 255,xt' 16 0 25 511,xt' 16 1 26 511,xt' 16 2 27 511,mv' 25 6 1023,mv' 26 7 6143,mv' 27 8 16383]
def c3_3:LO:=[mv' 8 28 0,o3 (.un .not (.tmp 28)) 29 1]
def c3_4:LO:=[o3 (.mv (.const (.bool false))) 4 0]
def c3_5:LO:=[ld' true 2 5 30 0,mv' 6 31 0,mv' 6 32 0,ln' 32 33 4,o3 (.bin .sub (.tmp 33) (ci' 1)) 34 12,ix' 1 31 34 35 30,ld' false 1 35 36 62,cl' 27 [30,36] 37 127,mv' 37 9 255,o3 (.mv (ci' 24)) 10 511]
def c3_6:LO:=[o3 (.mv (ci' 0)) 11 0]
def c3_7:LO:=[mv' 11 38 0,fa' 1 1 5 39 0,ld' false 1 39 40 2,ln' 40 41 6,bn' .lss 38 41 42 15]
def c3_9:LO:=[mv' 10 45 0,ld' true 2 5 46 0,mv' 11 47 0,cl' 28 [46,47] 48 6,o3 (.mm false (.tmp 45) (.tmp 48)) 49 15,mv' 49 10 31]
def c3_8:LO:=[mv' 11 43 0,o3 (.bin .add (.tmp 43) (ci' 1)) 44 1,mv' 44 11 3]
def ydjw:LO:=[o3 (.mv (ci' 0)) 12 0]
def ydin:LO:=[o3 (.mv (ci' 0)) 13 0]
def ydix:LO:=[mv' 13 50 0,fa' 1 1 5 51 0,ld' false 1 51 52 2,ln' 52 53 6,bn' .lss 50 53 54 15]
def ydit:LO:=[mv' 9 57 0,mv' 13 58 0,cl' 29 [57,58] 59 3,ld' true 2 5 60 0,mv' 13 61 0,cl' 28 [60,61] 62 31,mv' 10 63 0,bn' .eql 62 63 64 127,o3 (.beq true (.tmp 59) (.tmp 64)) 65 255]
def ydjy:LO:=[o3 (.mv (.const (.bool false))) 4 0]
def ydjg:LO:=[mv' 9 66 0,mv' 13 67 0,cl' 29 [66,67] 68 3]
def ydjz:LO:=[mv' 12 69 0,o3 (.bin .add (.tmp 69) (ci' 1)) 70 1,mv' 70 12 3]
def ydis:LO:=[mv' 13 55 0,o3 (.bin .add (.tmp 55) (ci' 1)) 56 1,mv' 56 13 3]
def ydhx:LO:=[cl' 30 [] 71 0,mv' 71 72 1,⟨.mv (.tmp 12),some 73,some (72,true),3⟩,⟨.bin .eql (.tmp 73) (ci' 1),some 74,some (72,true),7⟩,⟨.mv (.tmp 74),some 75,some (72,true),15⟩,⟨.mv (.tmp 12),some 76,some (75,false),31⟩,⟨.bin .eql (.tmp 76) (ci' 2),some 77,some (75,false),63⟩,⟨.mv (.tmp 77),some 78,some (75,false),127⟩,⟨.load true 2 (.tmp 5),some 79,some (78,true),255⟩,⟨.mv (.tmp 9),some 80,some (78,true),255⟩,⟨.call (.func 31) [(.tmp 79),(.tmp 80)],some 81,some (78,true),1023⟩,⟨.mv (.tmp 9),some 82,some (78,true),255⟩,⟨.bin .and (.tmp 81) (.tmp 82),some 83,some (78,true),4095⟩,⟨.mv (.tmp 9),some 84,some (78,true),255⟩,⟨.bin .eql (.tmp 83) (.tmp 84),some 85,some (78,true),16383⟩,⟨.pick (.tmp 78) (.tmp 85) (.const (.bool false)),some 86,some (75,false),32767⟩,⟨.pick (.tmp 75) (.const (.bool true)) (.tmp 86),some 87,some (72,true),65535⟩,o3 (.pick (.tmp 72) (.tmp 87) (.const (.bool false))) 88 131071,mv' 88 4 262143]
def c3:SC:=(.seq (.reg false c3_0) (.seq (.reg false c3_1) (.seq (.reg true c3_2) (.seq (.seq (.reg false c3_3) (.cond (.tmp 29) (.seq (.reg false c3_4) .ret) .skip)) (.seq (.reg true c3_5) (.seq (.seq (.reg false c3_6) (.block 0 (.loop (.seq (.seq (.reg false c3_7) (.cond (.tmp 42) .skip (.exit 0))) (.seq (.block 1 (.reg false c3_9)) (.reg false c3_8)))))) (.seq (.reg false ydjw) (.seq (.seq (.reg false ydin) (.block 2 (.loop (.seq (.seq (.reg false ydix) (.cond (.tmp 54) .skip (.exit 2))) (.seq (.block 3 (.seq (.seq (.reg true ydit) (.cond (.tmp 65) (.seq (.reg false ydjy) .ret) .skip)) (.seq (.reg false ydjg) (.cond (.tmp 68) (.reg false ydjz) .skip)))) (.reg false ydis)))))) (.seq (.reg false ydhx) .ret)))))))))
def c7_0:LO:=[o3 (.box 24 (.tmp 0)) 2 0,o3 (.mv (.const (.bool false))) 4 0]
def c7_1:LO:=[ld' true 6 2 20 0,o3 (.call (.func 21) [(.tmp 20),(ci' 10)]) 21 1,o3 (.alloc 27 1 [.a (.slice none 0 0),.a (.slice none 0 0)]) 5 0,o0 (.store 2 (.tmp 5) (.tmp 21)) 7]
def c7_2:LO:=[fa' 1 1 5 22 0,ld' false 1 22 23 1,ln' 23 24 3,mv' 24 6 7]
def c7_3:LO:=[mv' 1 25 0,mv' 6 26 0,cl' 39 [25,26] 27 3,mv' 27 1 7]
def c7_4:LO:=[mv' 6 28 0,o3 (.mk 3 1 8 [.i .i64 0] (.tmp 28) (.tmp 28)) 29 1,mv' 29 7 3]
def c7_5:LO:=[o3 (.mv (ci' 0)) 8 0]
def c7_6:LO:=[mv' 8 30 0,mv' 6 31 0,bn' .lss 30 31 32 3]
def c7_8:LO:=[mv' 7 35 0,mv' 8 36 0,mv' 8 37 0,mv' 1 38 0,bn' .add 37 38 39 12,mv' 6 40 0,bn' .rem 39 40 41 60,ix' 1 35 36 42 127,o0 (.store 1 (.tmp 42) (.tmp 41)) 255]
def c7_7:LO:=[mv' 8 33 0,o3 (.bin .add (.tmp 33) (ci' 1)) 34 1,mv' 34 8 3]
def c7_9:LO:=[ld' true 2 5 44 0,mv' 7 45 0,cl' 40 [44,45] 46 3,mv' 46 43 7,xt' 43 0 47 15,xt' 43 1 48 15,o3 (.alloc 27 1 [.a (.slice none 0 0),.a (.slice none 0 0)]) 9 0,o0 (.store 2 (.tmp 9) (.tmp 47)) 95,mv' 48 10 255]
def ydjd:LO:=[cl' 23 [] 50 0,ld' true 2 5 51 0,ld' true 2 5 52 0,cl' 25 [] 53 1,o3 (.call (.func 24) [(.tmp 52),(.tmp 53),(.const (.slice none 0 0))]) 54 13,o3 (.call (.func 26) [(.const (.slice none 0 0)),(ci' 12)]) 55 29,o3 (.call (.func 22) [(.tmp 50),(.tmp 51),(ci' 4),(.tmp 54),(.tmp 55)]) 56 63,mv' 56 49 127,xt' 49 0 57 255,xt' 49 1 58 255,xt' 49 2 59 255,mv' 57 11 511,mv' 58 12 3071,mv' 59 13 8191]
def ydja:LO:=[cl' 23 [] 61 0,ld' true 2 9 62 0,ld' true 2 9 63 0,cl' 25 [] 64 1,o3 (.call (.func 24) [(.tmp 63),(.tmp 64),(.const (.slice none 0 0))]) 65 13,o3 (.call (.func 26) [(.const (.slice none 0 0)),(ci' 12)]) 66 29,o3 (.call (.func 22) [(.tmp 61),(.tmp 62),(ci' 4),(.tmp 65),(.tmp 66)]) 67 63,mv' 67 60 127,xt' 60 0 68 255,xt' 60 1 69 255,xt' 60 2 70 255,mv' 68 14 511,mv' 69 15 3071,mv' 70 16 8191]
def ydif:LO:=[mv' 10 71 0,o3 (.bin .neq (.tmp 71) (ci' 0)) 72 1,mv' 72 73 3,⟨.mv (.tmp 13),some 74,some (73,false),7⟩,⟨.un .not (.tmp 74),some 75,some (73,false),15⟩,o3 (.pick (.tmp 73) (.const (.bool true)) (.tmp 75)) 76 31,mv' 76 77 63,⟨.mv (.tmp 16),some 78,some (77,false),127⟩,⟨.un .not (.tmp 78),some 79,some (77,false),255⟩,o3 (.pick (.tmp 77) (.const (.bool true)) (.tmp 79)) 80 511]
def ydjx:LO:=[o3 (.mv (.const (.bool false))) 4 0]
def ydhr:LO:=[ld' true 2 5 81 0,mv' 11 82 0,mv' 11 83 0,ln' 83 84 4,o3 (.bin .sub (.tmp 84) (ci' 1)) 85 12,ix' 1 82 85 86 30,ld' false 1 86 87 62,cl' 27 [81,87] 88 127,ld' true 2 9 89 0,mv' 14 90 0,mv' 14 91 0,ln' 91 92 1024,o3 (.bin .sub (.tmp 92) (ci' 1)) 93 3072,ix' 1 90 93 94 7680,ld' false 1 94 95 15872,cl' 27 [89,95] 96 32767,mv' 88 17 65535,mv' 96 18 131071]
def ydji:LO:=[o3 (.mv (ci' 0)) 19 0]
def ydjk:LO:=[mv' 19 97 0,mv' 6 98 0,bn' .lss 97 98 99 3]
def ydhu:LO:=[mv' 17 102 0,mv' 19 103 0,cl' 29 [102,103] 104 3,mv' 18 105 0,mv' 7 106 0,mv' 19 107 0,ix' 1 106 107 108 48,ld' false 1 108 109 112,cl' 29 [105,109] 110 255,o3 (.beq true (.tmp 104) (.tmp 110)) 111 511]
def ydie:LO:=[o3 (.mv (.const (.bool false))) 4 0]
def ydjf:LO:=[mv' 19 100 0,o3 (.bin .add (.tmp 100) (ci' 1)) 101 1,mv' 101 19 3]
def ydiw:LO:=[cl' 30 [] 112 0,mv' 112 113 1,⟨.mv (.tmp 17),some 114,some (113,true),3⟩,⟨.bin .neq (.tmp 114) (.const (.int .u32 0)),some 115,some (113,true),7⟩,o3 (.pick (.tmp 113) (.tmp 115) (.const (.bool false))) 116 15,mv' 116 4 31]
def c7:SC:=(.seq (.reg false c7_0) (.seq (.reg false c7_1) (.seq (.reg false c7_2) (.seq (.reg false c7_3) (.seq (.reg false c7_4) (.seq (.seq (.reg false c7_5) (.block 0 (.loop (.seq (.seq (.reg false c7_6) (.cond (.tmp 32) .skip (.exit 0))) (.seq (.block 1 (.reg false c7_8)) (.reg false c7_7)))))) (.seq (.reg false c7_9) (.seq (.reg true ydjd) (.seq (.reg true ydja) (.seq (.seq (.reg false ydif) (.cond (.tmp 80) (.seq (.reg false ydjx) .ret) .skip)) (.seq (.reg true ydhr) (.seq (.seq (.reg false ydji) (.block 2 (.loop (.seq (.seq (.reg false ydjk) (.cond (.tmp 99) .skip (.exit 2))) (.seq (.block 3 (.seq (.reg true ydhu) (.cond (.tmp 111) (.seq (.reg false ydie) .ret) .skip))) (.reg false ydjf)))))) (.seq (.reg false ydiw) .ret)))))))))))))
end Sh
end Go.Proofs.YtiejahgklcjhkaaGreatDoor

namespace Go.Proofs.YtiejahgklcjhkaaGreatDoor
open Go
def yds(g:Gr)(k:Nat):Nat:=((g.ports.take k).map List.length).sum
theorem yii{g:Gr}{k:Nat}(h:k<g.ports.length):yds g (k+1)=yds g k+(g.ports.getD k []).length:=by
 unfold yds;rw[List.take_succ_eq_append_getElem h,List.map_append,List.sum_append,Sh.getD_at h];simp
theorem ygt{g:Gr}(hg:ybb g):∀ k,k<=g.ports.length->yds g k<=24 * k
 | 0,_=>by simp[yds]
 | k+1,h=>by
  rw[yii (by omega)]
  have:=ygt hg k (by omega)
  have:=hg.deg_lt (v:=k);omega
theorem yrv(g:Gr):yds g g.ports.length=yfu g:=by unfold yds yfu;rw[List.take_length]
def yqx(g:Gr):Nat:=yfu g / 2
namespace Sh
open Ev Go.RowKit
set_option maxRecDepth 8000
def ybkx(g:Gr):List SV:=if ybx g=true then[.i .i64 g.ports.length,.i .i64 (yqx g)]else[.i .i64 0,.i .i64 0]
theorem ybhn(n:Nat):((n:Nat):Int).tdiv 2=((n / 2:Nat):Int):=by
 rw[Int.tdiv_eq_ediv_of_nonneg (by omega)]
 omega
theorem ybqi{g:Gr}(hI:GrI g):Returns Tryz.prog 122 [grV g] (.tp (ybkx g)):=by
 refine Returns.of (ycxb _ _ ?_);have hV:=yva hI;unfold ybkx;cases hv:ybx g with
 | false =>
  rw[hv]at hV;simp only[grV]at hV;simp only[c122,yboq,ybuf,ycpb,grV,clash,go_sem,Nat.reduceEqDiff,Nat.reduceAdd,Nat.reduceLT,↓reduceIte];refine hV.use ?_;simp only[thenO,clash,go_sem,Nat.reduceEqDiff,Nat.reduceAdd,↓reduceIte];exact Sim.refl _
 | true =>
  have hg:=(ybq g).1 hv;have h24:=hg.2.1;have hpl:=hg.2.2.1;obtain⟨n,hn⟩:∃ n,g.ports.length=n:=⟨_,rfl⟩;rw[hv]at hV;simp only[grV]at hV;rw[hn]at h24 hpl;simp only[c122,yboq,ybuf,ycnh,grV,clash,go_sem,Nat.reduceEqDiff,Nat.reduceAdd,Nat.reduceLT,↓reduceIte];refine hV.use ?_;simp only[thenO,yu,hn,clash,go_sem,Nat.reduceEqDiff,Nat.reduceAdd,↓reduceIte,reduceCtorEq];refine ybd (σ:=Nat) (fun k=>⟨[(12,.i .i64 k),(11,.i .i64 n),(10,yu g.ports),(3,.i .i64 (yds g k:Nat)),(1,.pt (1,0) 0 0)],[(1,.one (some ⟨27,true,2,1,fun _=>[yj g.ids,yu g.ports]⟩))]⟩) (fun k=>k<=n) (fun k=>n - k) 0 (Nat.zero_le _) ?_ ?_
  ·refine yg [] [] [] ?_;simp only[yu,hn,allQ,live,yc,yw,Int.natCast_zero,go_sem,Nat.reduceEqDiff,↓reduceIte,reduceCtorEq];rfl
  intro k hk
  by_cases hlt:k<n
  ·have t1:decide ((k:Int)<(n:Int))=true:=decide_eq_true (by omega)
   have hs:=yii (g:=g) (k:=k) (by omega)
   have hb:=ygt hg k (by omega)
   have hd:=hg.deg_lt (v:=k);obtain⟨d,hdd⟩:∃ d,(g.ports.getD k []).length=d:=⟨_,rfl⟩;rw[hdd]at hs hd;have e:(yds g k:Int)+(d:Int)=((yds g (k+1):Nat):Int):=by rw[hs];omega
   simp only[ybod,yckd,ycff,yccs,yu,yx,hn,t1,hdd,e,clash,go_sem,Nat.reduceEqDiff,Nat.reduceAdd,↓reduceIte,reduceCtorEq];refine⟨by omega,ikw (by omega) (by omega),ikw (by omega) (by omega),?_⟩
   refine yh (k+1) (by omega) (by omega) ?_
   refine yg [] [] [] ?_;simp only[allQ,live,yc,yw,go_sem,Nat.reduceEqDiff,↓reduceIte,reduceCtorEq];omega
  ·obtain rfl:k=n:=by omega
   have t1:decide ((k:Int)<(k:Int))=false:=decide_eq_false (by omega)
   have hb:=ygt hg k (by omega)
   have e:=yrv g;rw[hn]at e;have e2:=ybhn (yds g k);simp only[ybod,ycci,yu,yj,hn,hpl,t1,e2,clash,go_sem,Nat.reduceEqDiff,Nat.reduceAdd,Nat.reduceLeDiff,↓reduceIte,reduceCtorEq];unfold yqx;rw[<- e];exact⟨⟨by decide,ikw (by omega) (by omega)⟩,Sim.refl _⟩
theorem ybpr{g:Gr}(hI:GrI g):Returns Tryz.prog 136 [grV g] (.b (isTreeB g)):=by
 refine Returns.of (ycyq _ _ ?_);have hC:=yyk hI;have hS:=ybqi hI;unfold isTreeB;cases hcn:ycw g with
 | false =>
  rw[hcn]at hC;simp only[grV]at hC;simp only[c136,ybow,ybvm,ycly,grV,clash,go_sem,Nat.reduceEqDiff,Nat.reduceAdd,Nat.reduceLT,↓reduceIte];refine hC.use ?_;simp only[thenO,clash,go_sem,Nat.reduceAdd,↓reduceIte];exact Sim.refl _
 | true =>
  have hv:=yee hcn;have hg:=(ybq g).1 hv;have h24:=hg.2.1;rw[hcn]at hC;unfold ybkx at hS;rw[if_pos hv]at hS;simp only[grV]at hC hS;simp only[c136,ybow,ybvm,ycoz,ycix,grV,clash,go_sem,Nat.reduceEqDiff,Nat.reduceAdd,Nat.reduceLT,↓reduceIte];refine hC.use ?_;simp only[thenO,clash,go_sem,Nat.reduceEqDiff,Nat.reduceAdd,↓reduceIte,reduceCtorEq];refine hS.use ?_;simp only[go_sem,Nat.reduceEqDiff,↓reduceIte]
  refine⟨ikw (by omega) (by omega),?_⟩
  have e:(((yqx g:Nat):Int) == (g.ports.length:Int) - 1)=decide (yfu g / 2+1=g.ports.length):=by
   rw[Bool.eq_iff_iff,beq_iff_eq,decide_eq_true_iff];unfold yqx;omega
  rw[<- e];exact Sim.refl _
theorem ybeo{g:Gr}(hg:ybb g):∀ k,k<=g.ports.length->yis g k<=24
 | 0,_=>by show(0:Int)<=24;decide
 | k+1,h=>by
  rw[yfo];have h1:=ybeo hg k (by omega)
  have h2:ybi (ybk g k)<=24:=ybas _ _ (by omega) fun x hx=>((yct hg (a:=k) (by omega)).bound hg (by omega) x hx).2
  omega
theorem ybvp{g:Gr}(hI:GrI g):Returns Tryz.prog 88 [grV g] (.i .i64 (if ycw g=true then yie g else -1)):=by
 refine Returns.of (ydbg _ _ ?_);have hC:=yyk hI;cases hcn:ycw g with
 | false =>
  rw[hcn]at hC;simp only[grV]at hC;simp only[c88,ycsu,ycxp,ycyw,grV,clash,go_sem,Nat.reduceEqDiff,Nat.reduceAdd,Nat.reduceLT,↓reduceIte];refine hC.use ?_;simp only[thenO,clash,go_sem,Nat.reduceAdd,↓reduceIte];exact Sim.refl _
 | true =>
  have hg:=(ybq g).1 (yee hcn);have h24:=hg.2.1;have hd0:yis g 0=0:=rfl;obtain⟨n,hn⟩:∃ n,g.ports.length=n:=⟨_,rfl⟩;rw[hcn]at hC;simp only[grV]at hC;rw[hn]at h24;simp only[c88,ycsu,ycxp,ydeh,ydhg,grV,clash,go_sem,Nat.reduceEqDiff,Nat.reduceAdd,Nat.reduceLT,↓reduceIte];refine hC.use ?_;simp only[thenO,yu,hn,clash,go_sem,Nat.reduceEqDiff,Nat.reduceAdd,↓reduceIte,reduceCtorEq]
  refine ybd (σ:=Nat) (fun k=>⟨[(11,.i .i64 k),(10,.i .i64 n),(3,.i .i64 (yis g k)),(1,.pt (1,0) 0 0)],[(1,.one (some ⟨27,true,2,1,fun _=>[yj g.ids,yu g.ports]⟩))]⟩) (fun k=>k<=n) (fun k=>n - k) 0 (Nat.zero_le _) ?_ ?_
  ·refine yg [] [] [] ?_;simp only[yu,hn,hd0,allQ,live,yc,Int.natCast_zero,go_sem,Nat.reduceEqDiff,↓reduceIte,reduceCtorEq]
  intro k hk
  by_cases hlt:k<n
  ·have t1:decide ((k:Int)<(n:Int))=true:=decide_eq_true (by omega)
   have hS:=ybjs hg (a:=k) (by omega)
   have hl:=yeo hg (a:=k) (by omega)
   have hG:=ybbh (ybk g k) (by omega)
   have hs:=yfo (g:=g) k;obtain⟨D,hD⟩:∃ D,ybk g k=D:=⟨_,rfl⟩;rw[hD]at hS hG hs hl;simp only[grV]at hS;simp only[yj,hl]at hG hS;simp only[ycxf,ycyz,ydam,yczp,yu,t1,clash,go_sem,Nat.reduceEqDiff,Nat.reduceAdd,↓reduceIte,reduceCtorEq];refine hS.use ?_;simp only[thenO,clash,go_sem,Nat.reduceEqDiff,Nat.reduceAdd,↓reduceIte,reduceCtorEq];refine hG.use ?_;simp only[<- hs,go_sem,Nat.reduceEqDiff,↓reduceIte]
   refine⟨ikw (by omega) (by omega),?_⟩
   refine yh (k+1) (by omega) (by omega) ?_
   refine yg [] [] [] ?_;simp only[go_sem,allQ,live,yc,yw,go_sem,Nat.reduceEqDiff,↓reduceIte,reduceCtorEq];omega
  ·obtain rfl:k=n:=by omega
   have t1:decide ((k:Int)<(k:Int))=false:=decide_eq_false (by omega)
   simp only[ycxf,ydcy,t1,clash,go_sem,Nat.reduceEqDiff,Nat.reduceAdd,↓reduceIte,reduceCtorEq];unfold yie;rw[hn];exact Sim.refl _
theorem ybup{g:Gr}(hI:GrI g):Returns Tryz.prog 124 [grV g] (.tp (ybkx g)):=by
 refine Returns.of (ycyi _ _ ?_);have hV:=ybil hI;unfold ybkx;cases hv:ybx g with
 | false =>
  rw[hv]at hV;simp only[grV]at hV;simp only[c124,ybsc,ybnw,yccm,grV,clash,go_sem,Nat.reduceEqDiff,Nat.reduceAdd,Nat.reduceLT,↓reduceIte];refine hV.use ?_;simp only[thenO,clash,go_sem,Nat.reduceEqDiff,Nat.reduceAdd,↓reduceIte];exact Sim.refl _
 | true =>
  have hg:=(ybq g).1 hv;have h24:=hg.2.1;obtain⟨n,hn⟩:∃ n,g.ports.length=n:=⟨_,rfl⟩;rw[hv]at hV;simp only[grV]at hV;rw[hn]at h24;simp only[c124,ybsc,ybnw,yciq,ycin,grV,clash,go_sem,Nat.reduceEqDiff,Nat.reduceAdd,Nat.reduceLT,↓reduceIte];refine hV.use ?_;simp only[thenO,clash,go_sem,Nat.reduceAdd,↓reduceIte];refine ybd (σ:=Nat) (fun k=>⟨[(5,.i .i64 k),(4,.i .i64 (yds g k:Nat)),(1,.pt (1,0) 0 0)],[(1,.one (some ⟨27,true,2,1,fun _=>[yj g.ids,yu g.ports]⟩))]⟩) (fun k=>k<=n) (fun k=>n - k) 0 (Nat.zero_le _) ?_ ?_
  ·refine yg [] [] [] ?_;simp only[go_sem,allQ,live,yc,yw,Int.natCast_zero,go_sem,Nat.reduceEqDiff,↓reduceIte,reduceCtorEq];rfl
  intro k hk
  by_cases hlt:k<n
  ·have t1:decide ((k:Int)<(n:Int))=true:=decide_eq_true (by omega)
   have hs:=yii (g:=g) (k:=k) (by omega)
   have hb:=ygt hg k (by omega)
   have hd:=hg.deg_lt (v:=k);obtain⟨d,hdd⟩:∃ d,(g.ports.getD k []).length=d:=⟨_,rfl⟩;rw[hdd]at hs hd;have e:(yds g k:Int)+(d:Int)=((yds g (k+1):Nat):Int):=by rw[hs];omega
   simp only[ybns,ycdn,ycbw,yu,yx,hn,t1,hdd,e,clash,go_sem,Nat.reduceEqDiff,Nat.reduceAdd,↓reduceIte,reduceCtorEq];refine⟨⟨by omega,by omega⟩,ikw (by omega) (by omega),ikw (by omega) (by omega),?_⟩
   refine yh (k+1) (by omega) (by omega) ?_
   refine yg [] [] [] ?_;simp only[allQ,live,yc,yw,go_sem,Nat.reduceEqDiff,↓reduceIte,reduceCtorEq];omega
  ·obtain rfl:k=n:=by omega
   have t1:decide ((k:Int)<(k:Int))=false:=decide_eq_false (by omega)
   have e:=yrv g;rw[hn]at e;have e2:=ybhn (yds g k);have hb:=ygt hg k (by omega)
   simp only[ybns,ychq,yu,hn,t1,e2,clash,go_sem,Nat.reduceEqDiff,Nat.reduceAdd,↓reduceIte,reduceCtorEq];unfold yqx;rw[<- e];exact⟨⟨by decide,ikw (by omega) (by omega)⟩,Sim.refl _⟩
theorem ybcm{g:Gr}(hI:GrI g):Returns Tryz.prog 140 [grV g] (.b (isTreeB g)):=by
 refine Returns.of (ycwc _ _ ?_);have hC:=yyz hI;have hS:=ybup hI;unfold isTreeB;unfold ybkx at hS;cases hcn:ycw g with
 | false =>
  rw[hcn]at hC;simp only[grV]at hC hS;cases hv:ybx g with
  | false =>
   rw[hv,if_neg (by decide)]at hS
   simp only[c140,ybhj,ybhf,ybfo,grV,clash,go_sem,Nat.reduceEqDiff,Nat.reduceAdd,Nat.reduceLT,↓reduceIte];refine hS.use ?_;simp only[thenO,clash,go_sem,Nat.reduceEqDiff,Nat.reduceAdd,↓reduceIte,reduceCtorEq];refine hC.use ?_;simp only[clash,go_sem,Nat.reduceEqDiff,Nat.reduceAdd,↓reduceIte,reduceCtorEq];exact Sim.refl _
  | true =>
   rw[hv,if_pos rfl]at hS;simp only[c140,ybhj,ybhf,ybfo,grV,clash,go_sem,Nat.reduceEqDiff,Nat.reduceAdd,Nat.reduceLT,↓reduceIte];refine hS.use ?_;simp only[thenO,clash,go_sem,Nat.reduceEqDiff,Nat.reduceAdd,↓reduceIte,reduceCtorEq];refine hC.use ?_;simp only[clash,go_sem,Nat.reduceEqDiff,Nat.reduceAdd,↓reduceIte,reduceCtorEq];exact Sim.refl _
 | true =>
  have hv:=yee hcn;have hg:=(ybq g).1 hv;have h24:=hg.2.1;rw[hcn]at hC;rw[if_pos hv]at hS;simp only[grV]at hC hS;simp only[c140,ybhj,ybhf,ybfo,grV,clash,go_sem,Nat.reduceEqDiff,Nat.reduceAdd,Nat.reduceLT,↓reduceIte];refine hS.use ?_;simp only[thenO,clash,go_sem,Nat.reduceEqDiff,Nat.reduceAdd,↓reduceIte,reduceCtorEq];refine hC.use ?_;simp only[clash,go_sem,Nat.reduceEqDiff,Nat.reduceAdd,↓reduceIte,reduceCtorEq]
  have e:(((yqx g:Nat):Int) == (g.ports.length:Int) - 1)=decide (yfu g / 2+1=g.ports.length):=by
   rw[Bool.eq_iff_iff,beq_iff_eq,decide_eq_true_iff];unfold yqx;omega
  rw[<- e];exact⟨ikw (by omega) (by omega),Sim.refl _⟩
theorem ybrx{g:Gr}(hI:GrI g):Returns Tryz.prog 90 [grV g] (.i .i64 (if ycw g=true then yie g else -1)):=by
 refine Returns.of (ydes _ _ ?_);have hC:=yyz hI;cases hcn:ycw g with
 | false =>
  rw[hcn]at hC;simp only[grV]at hC;simp only[c90,ycyg,ycss,ydcr,grV,clash,go_sem,Nat.reduceEqDiff,Nat.reduceAdd,Nat.reduceLT,↓reduceIte];refine hC.use ?_;simp only[thenO,clash,go_sem,Nat.reduceAdd,↓reduceIte];exact Sim.refl _
 | true =>
  have hg:=(ybq g).1 (yee hcn);have h24:=hg.2.1;have hd0:yis g 0=0:=rfl;obtain⟨n,hn⟩:∃ n,g.ports.length=n:=⟨_,rfl⟩;rw[hcn]at hC;simp only[grV]at hC;rw[hn]at h24;simp only[c90,ycyg,ycss,yczm,ydfh,grV,clash,go_sem,Nat.reduceEqDiff,Nat.reduceAdd,Nat.reduceLT,↓reduceIte];refine hC.use ?_;simp only[thenO,clash,go_sem,Nat.reduceAdd,↓reduceIte];refine ybd (σ:=Nat) (fun k=>⟨[(4,.i .i64 k),(3,.i .i64 (yis g k)),(1,.pt (1,0) 0 0)],[(1,.one (some ⟨27,true,2,1,fun _=>[yj g.ids,yu g.ports]⟩))]⟩) (fun k=>k<=n) (fun k=>n - k) 0 (Nat.zero_le _) ?_ ?_
  ·refine yg [] [] [] ?_;simp only[hd0,allQ,live,yc,Int.natCast_zero,go_sem,Nat.reduceEqDiff,↓reduceIte,reduceCtorEq]
  intro k hk
  by_cases hlt:k<n
  ·have t1:decide ((k:Int)<(n:Int))=true:=decide_eq_true (by omega)
   have hE:=ycad hI (v:=(k:Int)) (yfl (by omega))
   have hec:eccP g (k:Int)=ybi (ybk g k):=by
    unfold eccP;rw[if_pos ⟨hcn,by omega,by omega⟩,Int.toNat_natCast]
   rw[hec]at hE;have hs:=yfo (g:=g) k;simp only[grV,yu,hn]at hE;simp only[ycyk,ydgt,yczl,yu,hn,t1,clash,go_sem,Nat.reduceEqDiff,Nat.reduceAdd,↓reduceIte,reduceCtorEq];refine hE.use ?_;simp only[thenO,clash,<- hs,go_sem,Nat.reduceEqDiff,Nat.reduceAdd,↓reduceIte,reduceCtorEq];refine⟨ikw (by omega) (by omega),?_⟩
   refine yh (k+1) (by omega) (by omega) ?_
   refine yg [] [] [] ?_;simp only[go_sem,allQ,live,yc,yw,go_sem,Nat.reduceEqDiff,↓reduceIte,reduceCtorEq];omega
  ·obtain rfl:k=n:=by omega
   have t1:decide ((k:Int)<(k:Int))=false:=decide_eq_false (by omega)
   simp only[ycyk,ydey,yu,hn,t1,clash,go_sem,Nat.reduceEqDiff,Nat.reduceAdd,↓reduceIte,reduceCtorEq];unfold yie;rw[hn];exact Sim.refl _
end Sh
end Go.Proofs.YtiejahgklcjhkaaGreatDoor

namespace Go.Proofs.YtiejahgklcjhkaaGreatDoor
open Go
theorem Tr.rch_le{g:Gr}(h:Tr g){v u:Nat}(hu:adj g v u):1<=rchP g v u/\rchP g v u<=24:=by
 obtain⟨w,hw,_,e⟩:=h.rch_ex hu;have:=h.lt_n hw (h.good.adj_lt hu).1;have:=h.good.2.1;have:=h.rch_pos hu;omega
def yih(g:Gr)(c:Conf):Bool:=isTreeB g && ypd g.ports.length (ydd g [(g.ids.length:Int)]) c
def ycz(g:Gr)(c:Conf):Bool:=yih g c && (List.range g.ports.length).all fun v=>decide ((c.getD v []).getD 0 0=htP g v)
def htS(g:Gr)(v i:Nat):Int × Int:=(((g.ports.getD v []).take i).map fun l=>rchP g v l.1.toNat).foldl ynm (0,0)
theorem ybgu{g:Gr}{v i:Nat}(hi:i<(g.ports.getD v []).length):htS g v (i+1)=ynm (htS g v i) (rchP g v ((g.ports.getD v []).getD i (0,0)).1.toNat):=by
 unfold htS;rw[List.take_succ_eq_append_getElem hi,List.map_append,List.foldl_append,Sh.getD_at hi];rfl
theorem ybwi(g:Gr)(v:Nat):(htS g v (g.ports.getD v []).length).2=htP g v:=by
 unfold htS;rw[List.take_length];exact ycyc g v
theorem ybsf{g:Gr}(h:Tr g){v:Nat}(hv:v<g.ports.length):∀ i,i<=(g.ports.getD v []).length->(0<=(htS g v i).2/\(htS g v i).2<=(htS g v i).1)/\(htS g v i).1<=24
 | 0,_=>by simp[htS]
 | i+1,hi=>by
  have ih:=ybsf h hv i (by omega)
  have hm:(g.ports.getD v []).getD i (0,0) ∈ g.ports.getD v []:=by rw[Sh.getD_at (show i<_ by omega)];exact List.getElem_mem _
  have hr:=h.rch_le (yez h.good hv hm).2.2.1;rw[ybgu (by omega)]
  unfold ynm;simp only;omega
theorem Tr.ht_le{g:Gr}(h:Tr g){v:Nat}(hv:v<g.ports.length):0<=htP g v/\htP g v<=24:=by
 have:=ybsf h hv _ (Nat.le_refl _);rw[<- ybwi g v];omega
def rchS(g:Gr)(v u i:Nat):Int:=((g.ports.getD u []).take i).foldl (ymo g v u) 1
theorem ybrq{g:Gr}{v u i:Nat}(hi:i<(g.ports.getD u []).length):rchS g v u (i+1)=ymo g v u (rchS g v u i) ((g.ports.getD u []).getD i (0,0)):=by
 unfold rchS;rw[List.take_succ_eq_append_getElem hi,List.foldl_append,Sh.getD_at hi];rfl
namespace Sh
open Ev Go.RowKit
set_option maxRecDepth 8000
theorem ybgw{g:Gr}(hI:GrI g):Returns Tryz.prog 87 [grV g] (.b (isTreeB g)):=by
 refine Returns.of (yddo _ _ ?_);have hC:=ybpr hI;simp only[grV]at hC;simp only[c87,ydai,ydbd,grV,go_sem,Nat.reduceEqDiff,Nat.reduceAdd,Nat.reduceLT,↓reduceIte];refine hC.use ?_;simp only[thenO,sim_b,go_sem,Nat.reduceEqDiff,Nat.reduceAdd,↓reduceIte,reduceCtorEq]
theorem ybin{g:Gr}(hI:GrI g):Returns Tryz.prog 89 [grV g] (.b (isTreeB g)):=by
 refine Returns.of (ydhi _ _ ?_);have hC:=ybcm hI;simp only[grV]at hC;simp only[c89,ydaf,ycze,grV,go_sem,Nat.reduceEqDiff,Nat.reduceAdd,Nat.reduceLT,↓reduceIte];refine hC.use ?_;simp only[thenO,sim_b,go_sem,Nat.reduceEqDiff,Nat.reduceAdd,↓reduceIte,reduceCtorEq]
theorem ybah{g:Gr}(h:Tr g):∀ (k v u:Nat),adj g v u->(rchP g v u).toNat<=k->Returns Tryz.prog 142 [grV g,.i .i64 v,.i .i64 u] (.i .i64 (rchP g v u))
 | 0,v,u,hu,hk=>by have:=h.rch_pos hu;omega
 | k+1,v,u,hu,hk=>by
  refine Returns.of (ycya _ _ ?_);have ih:=ybah h k;obtain⟨hv,hul⟩:=h.good.adj_lt hu;have h24:=h.good.2.1;have hlo:=h.rch_loop hu;have hrs:∀ i,rchS g v u i=((g.ports.getD u []).take i).foldl (ymo g v u) 1:=fun _=>rfl;have hsu:=fun i=>ybrq (g:=g) (v:=v) (u:=u) (i:=i);have hle:=h.rch_le hu;obtain⟨L,hL⟩:∃ L,g.ports.getD u []=L:=⟨_,rfl⟩;have hdeg:=h.good.deg_lt (v:=u)
  have hadj:∀ l ∈ L,0<=l.1/\l.1.toNat<g.ports.length/\adj g u l.1.toNat:=fun l hl=>by
   obtain⟨a,b,c,_⟩:=yez h.good hul (by rw[hL];exact hl)
   exact⟨a,b,c⟩
  have hless:∀ l ∈ L,l.1 ≠ (v:Int)->rchP g u l.1.toNat<rchP g v u:=fun l hl=>h.rch_less hu (by rw[hL];exact hl)
  rw[hL]at hlo hdeg hrs;simp only[hL]at hsu;obtain⟨d,hd⟩:∃ d,L.length=d:=⟨_,rfl⟩;obtain⟨S,hS⟩:∃ S:Nat->Int,(fun i=>rchS g v u i)=S:=⟨_,rfl⟩;have hS':∀ i,rchS g v u i=S i:=fun i=>by rw[<- hS]
  simp only[hS']at hsu hrs;rw[hd]at hdeg hsu;have hS0:S 0=1:=by rw[hrs];rfl
  have hSd:S d=rchP g v u:=by rw[hrs,<- hd,List.take_length,hlo]
  rw[<- hSd]at hless hle ⊢;simp only[grV]at ih;simp only[c142,ycdw,ycqi,ycme,grV,yu,yx,hL,hd,clash,go_sem,Nat.reduceEqDiff,Nat.reduceAdd,Nat.reduceLT,↓reduceIte,reduceCtorEq];refine⟨⟨by omega,by omega⟩,?_⟩
  refine ybd (σ:=Nat) (fun i=>⟨[(16,.i .i64 i),(15,.i .i64 d),(14,yx L),(7,.i .i64 (S i)),(1,.i .i64 v),(2,.i .i64 u),(3,.pt (3,0) 0 0)],[(3,.one (some ⟨27,true,2,1,fun _=>[yj g.ids,yu g.ports]⟩))]⟩) (fun i=>i<=d) (fun i=>d - i) 0 (Nat.zero_le _) ?_ ?_
  ·refine yg [] [] [] ?_;simp only[yu,yx,hd,hS0,allQ,live,yc,Int.natCast_zero,go_sem,Nat.reduceEqDiff,↓reduceIte,reduceCtorEq]
  intro i hi
  by_cases hlt:i<d
  ·have t1:decide ((i:Int)<(d:Int))=true:=decide_eq_true (by omega)
   have hm:L.getD i (0,0) ∈ L:=by rw[getD_at (show i<L.length by omega)];exact List.getElem_mem _
   have hss:=hsu i hlt;obtain⟨l,hl⟩:∃ l,L.getD i (0,0)=l:=⟨_,rfl⟩;rw[hl]at hm hss;obtain⟨a1,a2,a3⟩:=hadj l hm
   by_cases hlv:l.1=(v:Int)
   ·have t2:(l.1 != (v:Int))=false:=by rw[hlv];simp
    have e:S (i+1)=S i:=by
     rw[hss];unfold ymo;rw[if_neg (by rw[t2];decide)]
    simp only[ybfk,ybob,ybpp,ybry,yx,hd,hl,t1,t2,splice,clash,go_sem,Nat.reduceEqDiff,Nat.reduceAdd,Nat.reduceLeDiff,Nat.reduceLT,↓reduceIte,reduceCtorEq];refine⟨by omega,ikw (by omega) (by omega),?_⟩
    refine yh (i+1) (by omega) (by omega) ?_
    refine yg [] [] [] ?_;simp only[e,allQ,live,yc,yw,go_sem,Nat.reduceEqDiff,↓reduceIte,reduceCtorEq];omega
   ·have t2:(l.1 != (v:Int))=true:=by rw[bne_iff_ne];exact hlv
    have hlr:=hless l hm hlv;have hlb:=h.rch_le a3;have hR:=ih u l.1.toNat a3 (by rw[<- hSd]at hk;omega)
    rw[Int.toNat_of_nonneg a1]at hR
    have e:S (i+1)=max (S i) (1+rchP g u l.1.toNat):=by
     rw[hss];unfold ymo;rw[if_pos t2]
    obtain⟨r,hr⟩:∃ r,rchP g u l.1.toNat=r:=⟨_,rfl⟩;rw[hr]at hR e hlb;simp only[ybfk,ybob,ybpp,ycnp,ybry,yx,hd,hl,t1,t2,splice,clash,go_sem,Nat.reduceEqDiff,Nat.reduceAdd,Nat.reduceLeDiff,Nat.reduceLT,↓reduceIte,reduceCtorEq];refine⟨by omega,hR.use ?_⟩
    simp only[thenO,clash,go_sem,Nat.reduceEqDiff,Nat.reduceAdd,↓reduceIte,reduceCtorEq];refine⟨ikw (by omega) (by omega),ikw (by omega) (by omega),?_⟩
    refine yh (i+1) (by omega) (by omega) ?_
    refine yg [] [] [] ?_;simp only[e,allQ,live,yc,yw,go_sem,Nat.reduceEqDiff,↓reduceIte,reduceCtorEq];omega
  ·obtain rfl:i=d:=by omega
   have t1:decide ((i:Int)<(i:Int))=false:=decide_eq_false (by omega)
   simp only[ybfk,yccz,t1,clash,go_sem,Nat.reduceEqDiff,Nat.reduceAdd,↓reduceIte,reduceCtorEq];exact Sim.refl _
set_option maxHeartbeats 1000000 in
theorem yber{g:Gr}(h:Tr g):Returns Tryz.prog 91 [grV g] (yj (mapR g.ports.length (htP g))):=by
 refine Returns.of (ydab _ _ ?_);have hg:=h.good;have h24:=hg.2.1;have hpl:=hg.2.2.1;obtain⟨n,hn⟩:∃ n,g.ports.length=n:=⟨_,rfl⟩;rw[hn]at h24 hpl ⊢;simp only[c91,ydbj,ydee,ydfq,grV,yj,yu,hpl,hn,clash,go_sem,Nat.reduceEqDiff,Nat.reduceAdd,Nat.reduceLeDiff,Nat.reduceLT,↓reduceIte,reduceCtorEq];refine⟨⟨by omega,by omega,by omega⟩,?_⟩
 refine ybd (σ:=Nat) (fun v=>⟨[(17,.i .i64 v),(16,.i .i64 n),(15,yu g.ports),(3,.os (13,0) 0 n true),(1,.pt (1,0) 0 0)],[(13,.one (some ⟨3,false,1,n,fun j=>[.i .i64 (if j<v then htP g j else 0)]⟩)),(1,.one (some ⟨27,true,2,1,fun _=>[yj g.ids,yu g.ports]⟩))]⟩) (fun v=>v<=n) (fun v=>n - v) 0 (Nat.zero_le _) ?_ ?_
 ·refine yg [] [] [] ?_;simp only[yj,yu,hpl,hn,Nat.not_lt_zero,allQ,live,yc,Int.natCast_zero,go_sem,Nat.reduceEqDiff,↓reduceIte,reduceCtorEq]
 intro v hv
 by_cases hlt:v<n
 ·have t1:decide ((v:Int)<(n:Int))=true:=decide_eq_true (by omega)
  have hend:=ybwi g v;have hsu:=fun i=>ybgu (g:=g) (v:=v) (i:=i);have hsl:=ybsf h (v:=v) (by omega)
  have hdeg:=hg.deg_lt (v:=v);have hadj:=fun(l:Int × Int) (hl:l ∈ g.ports.getD v [])=>yez hg (by omega) hl
  obtain⟨L,hL⟩:∃ L,g.ports.getD v []=L:=⟨_,rfl⟩;obtain⟨d,hd⟩:∃ d,L.length=d:=⟨_,rfl⟩;rw[hL,hd]at hend hdeg hsl;rw[hL]at hadj;simp only[hL,hd]at hsu;obtain⟨S,hS⟩:∃ S:Nat->Int × Int,(fun i=>htS g v i)=S:=⟨_,rfl⟩;have hS':∀ i,htS g v i=S i:=fun i=>by rw[<- hS]
  have hS0:S 0=(0,0):=by rw[<- hS'];rfl
  simp only[hS']at hsu hsl hend;simp only[ycsm,ydfk,ydgg,ydas,yu,yx,hn,hL,hd,t1,clash,go_sem,Nat.reduceEqDiff,Nat.reduceAdd,↓reduceIte,reduceCtorEq];refine⟨by omega,?_⟩
  refine ybd (σ:=Nat) (fun i=>⟨[(24,.i .i64 i),(23,.i .i64 d),(22,yx L),(6,.i .i64 (S i).1),(4,.i .i64 v),(17,.i .i64 v),(16,.i .i64 n),(15,yu g.ports),(3,.os (13,0) 0 n true),(1,.pt (1,0) 0 0)],[(13,.one (some ⟨3,false,1,n,fun j=>[.i .i64 (if j<v then htP g j else if j=v then(S i).2 else 0)]⟩)),(1,.one (some ⟨27,true,2,1,fun _=>[yj g.ids,yu g.ports]⟩))]⟩) (fun i=>i<=d) (fun i=>d - i) 0 (Nat.zero_le _) ?_ ?_
  ·refine yg [] [] [] ?_;simp only[yj,yu,yx,hn,hd,hS0,allQ,live,yc,yw,Int.natCast_zero,go_sem,Nat.reduceEqDiff,↓reduceIte,reduceCtorEq];intro j hj;split
   ·rfl
   ·split<;>rfl
  intro i hi
  by_cases hlti:i<d
  ·have t2:decide ((i:Int)<(d:Int))=true:=decide_eq_true (by omega)
   have hm:L.getD i (0,0) ∈ L:=by rw[getD_at (show i<L.length by omega)];exact List.getElem_mem _
   have hss:=hsu i hlti;have hb:=hsl i hi;obtain⟨l,hl⟩:∃ l,L.getD i (0,0)=l:=⟨_,rfl⟩;rw[hl]at hm hss;obtain⟨a1,a2,a3,_⟩:=hadj l hm;have hR:=ybah h _ v l.1.toNat a3 (Nat.le_refl _);have hrb:=h.rch_le a3;rw[Int.toNat_of_nonneg a1]at hR;obtain⟨r,hr⟩:∃ r,rchP g v l.1.toNat=r:=⟨_,rfl⟩;rw[hr]at hR hss hrb;have e1:(S (i+1)).1=max (S i).1 r:=by rw[hss];rfl
   have e2:(S (i+1)).2=max (S i).2 (min r (S i).1):=by rw[hss];rfl
   simp only[grV]at hR;have i0:(if v<v then htP g v else if v=v then(S i).2 else 0)=(S i).2:=by rw[if_neg (Nat.lt_irrefl v),if_pos rfl]
   have i1:(if v=v then(S i).2 else 0)=(S i).2:=if_pos rfl
   simp only[ycuc,yden,ycyt,yx,hd,hl,t2,splice,clash,go_sem,Nat.reduceEqDiff,Nat.reduceAdd,Nat.reduceLeDiff,Nat.reduceLT,↓reduceIte,reduceCtorEq];refine⟨by omega,hR.use ?_⟩
   simp only[thenO,ycdh,ycki,ycnl,splice,clash,<- e1,<- e2,go_sem,Nat.reduceEqDiff,Nat.reduceAdd,↓reduceIte,reduceCtorEq];refine⟨⟨by omega,by omega⟩,by omega,⟨by omega,by omega⟩,by omega,ikw (by omega) (by omega),?_⟩
   refine yh (i+1) (by omega) (by omega) ?_
   refine yg [] [] [] ?_;simp only[yj,yu,yx,hn,allQ,live,yc,yw,go_sem,Nat.reduceEqDiff,↓reduceIte,reduceCtorEq];refine⟨by omega,fun j hj=>?_⟩
   by_cases q:j=v
   ·subst q;simp only[if_pos,if_neg (Nat.lt_irrefl j)];simp only[go_sem,live,yc,go_sem,reduceCtorEq]
   ·simp only[if_neg q];simp only[go_sem,live,yc,go_sem,reduceCtorEq]
  ·obtain rfl:i=d:=by omega
   have t2:decide ((i:Int)<(i:Int))=false:=decide_eq_false (by omega)
   simp only[ycuc,ycny,t2,clash,go_sem,Nat.reduceEqDiff,Nat.reduceAdd,↓reduceIte,reduceCtorEq];refine⟨ikw (by omega) (by omega),?_⟩
   refine yh (v+1) (by omega) (by omega) ?_
   refine yg [] [] [] ?_;simp only[yj,yu,yx,hn,allQ,live,yc,yw,go_sem,Nat.reduceEqDiff,↓reduceIte,reduceCtorEq];refine⟨by omega,fun j hj=>?_⟩
   by_cases q:j<v
   ·rw[if_pos q,if_pos (by omega)]
   ·rw[if_neg q]
    by_cases q2:j=v
    ·rw[if_pos q2,if_pos (by omega),q2,hend]
    ·rw[if_neg q2,if_neg (by omega)]
 ·obtain rfl:v=n:=by omega
  have t1:decide ((v:Int)<(v:Int))=false:=decide_eq_false (by omega)
  simp only[ycsm,ycel,t1,clash,go_sem,Nat.reduceEqDiff,Nat.reduceAdd,↓reduceIte,reduceCtorEq];rw[ypk];refine sim_sl fun j hj=>?_;rw[gmR _ _ _ _ hj,if_pos hj]
theorem ybqq{g:Gr}(hI:GrI g){c:Conf}(hR:ybnr c):Returns Tryz.prog 80 [grV g,ybf c] (.b (yih g c)):=by
 refine Returns.of (ydae _ _ ?_);have hF:=ybgw hI;unfold yih;cases ht:isTreeB g with
 | false =>
  rw[ht]at hF;simp only[grV]at hF;simp only[c80,yctu,ycuf,grV,clash,go_sem,Nat.reduceEqDiff,Nat.reduceAdd,Nat.reduceLT,↓reduceIte];refine hF.use ?_;simp only[thenO,clash,go_sem,Nat.reduceEqDiff,Nat.reduceAdd,↓reduceIte,reduceCtorEq];exact Sim.refl _
 | true =>
  have hcn:ycw g=true:=by
   unfold isTreeB at ht;rw[Bool.and_eq_true]at ht;exact ht.1
  have hg:=(ybq g).1 (yee hcn);have h24:=hg.2.1;have hpl:=hg.2.2.1
  have hC:=ybym hg hR (G:=[(g.ids.length:Int)]) (fun x hx=>by
   simp at hx;subst hx;exact yfl (by omega))
  rw[ht]at hF;simp only[grV]at hF;simp only[c80,yctu,ycuf,grV,clash,go_sem,Nat.reduceEqDiff,Nat.reduceAdd,Nat.reduceLT,↓reduceIte];refine hF.use ?_;simp only[thenO,yj,splice,clash,go_sem,Nat.reduceEqDiff,Nat.reduceAdd,Nat.reduceLeDiff,Nat.reduceLT,↓reduceIte,reduceCtorEq];have one:∀ {q:Nat},q<1->q=0:=fun {q} h=>by omega
  refine .inl ⟨fun q hq=>by obtain rfl:=one hq;simp only[go_sem],hC.useS ?_ ?_⟩
  ·refine⟨Sim.refl (grV g),Sim.refl _,?_,trivial⟩;refine yhk fun q hq=>?_;obtain rfl:=one hq;simp only[List.getD_cons_zero,go_sem];exact⟨Sim.refl _,trivial⟩
  simp only[go_sem];exact Sim.refl _
end Sh
end Go.Proofs.YtiejahgklcjhkaaGreatDoor

namespace Go.Proofs.YtiejahgklcjhkaaGreatDoor
section
variable {g:Gr} {t u v:Nat}
end
end Go.Proofs.YtiejahgklcjhkaaGreatDoor

namespace Go.Proofs.YtiejahgklcjhkaaGreatDoor
section
variable {g:Gr} {t u v a:Nat}
end
end Go.Proofs.YtiejahgklcjhkaaGreatDoor

namespace Go.Proofs.YtiejahgklcjhkaaGreatDoor
section
variable {g:Gr} {f:Nat->Int}
end
end Go.Proofs.YtiejahgklcjhkaaGreatDoor

namespace Go.Proofs.YtiejahgklcjhkaaGreatDoor
namespace Sh
open Go Ev Go.RowKit
section
variable {m:Mem} {F:AM}
end
end Sh
end Go.Proofs.YtiejahgklcjhkaaGreatDoor

namespace Go.Proofs.YtiejahgklcjhkaaGreatDoor
namespace Sh
open Go Ev
end Sh
end Go.Proofs.YtiejahgklcjhkaaGreatDoor

namespace Go.Proofs.YtiejahgklcjhkaaGreatDoor
open Ev
end Go.Proofs.YtiejahgklcjhkaaGreatDoor

namespace Go.Proofs.YtiejahgklcjhkaaGreatDoor
open Go
namespace Sh
open Ev Go.RowKit
set_option maxRecDepth 8000
end Sh
end Go.Proofs.YtiejahgklcjhkaaGreatDoor

namespace Go.Proofs.YtiejahgklcjhkaaGreatDoor
open Go
def ymf(g:Gr):Sh.SV:=if isTreeB g=true then .ag (Sh.clmV 3 false true (yie g / 2+1) (-1))else .ag (Sh.clmV 0 false false 0 0)
theorem yjz{g:Gr}(h:isTreeB g=true):ycw g=true:=by
 unfold isTreeB at h;rw[Bool.and_eq_true]at h;exact h.1
theorem yqm{g:Gr}(h:isTreeB g=true):ybb g:=(ybq g).1 (yee (yjz h))
theorem ybta{g:Gr}{c:Conf}(h:yih g c=true):isTreeB g=true/\c.length=g.ports.length /\ ∀ v,v<c.length->(c.getD v []).length=1:=by
 unfold yih at h;rw[Bool.and_eq_true]at h;have hck:=(yeb _ _ _).1 h.2;refine⟨h.1,hck.1,fun v hv=>?_⟩;rw[Sh.getD_at hv];have:=(hck.2 v _ (List.getElem?_eq_getElem hv)).1
 simpa [ydd]using this
namespace Sh
open Ev Go.RowKit
set_option maxRecDepth 8000
theorem yuw{g:Gr}(hI:GrI g){c:Conf}(hR:ybnr c)(he:isTreeB g=true->Tr g):Returns Tryz.prog 35 [grV g,ybf c] (.b (ycz g c)):=by
 refine Returns.of (ydfy _ _ ?_);have hC:=ybqq hI hR;cases hcf:yih g c with
 | false =>
  have e:ycz g c=false:=by unfold ycz;rw[hcf];rfl
  rw[hcf]at hC;rw[e];simp only[grV]at hC;simp only[c35,ycuk,ycvc,ydgu,grV,clash,go_sem,Nat.reduceEqDiff,Nat.reduceAdd,Nat.reduceLT,↓reduceIte,reduceCtorEq];refine hC.use ?_;simp only[thenO,clash,go_sem,Nat.reduceAdd,↓reduceIte];exact Sim.refl _
 | true =>
  obtain⟨ht,hcl,hc1⟩:=ybta hcf;have hT:=he ht;have h24:=hT.good.2.1;have hH:=yber hT;have hhb:=fun v hv=>hT.ht_le (v:=v) hv;obtain⟨n,hn⟩:∃ n,g.ports.length=n:=⟨_,rfl⟩;have hLe:ycz g c=(List.range n).all fun v=>decide ((c.getD v []).getD 0 0=htP g v):=by unfold ycz;rw[hcf,hn];rfl
  rw[hLe];rw[hcf]at hC;rw[hn]at h24 hH hcl;have hml:=ypk n (htP g);have hmg:∀ v,v<n->(mapR n (htP g)).getD v 0=htP g v:=fun v hv=>gmR _ _ _ _ hv;obtain⟨H,hHe⟩:∃ H,mapR n (htP g)=H:=⟨_,rfl⟩;rw[hHe]at hH hml hmg;simp only[grV]at hC hH;simp only[yj,hml]at hH;simp only[c35,ycuk,ycvc,ydby,grV,yj,clash,go_sem,Nat.reduceEqDiff,Nat.reduceAdd,Nat.reduceLT,↓reduceIte,reduceCtorEq];refine hC.use ?_
  simp only[thenO,clash,go_sem,Nat.reduceEqDiff,Nat.reduceAdd,↓reduceIte];refine hH.use ?_;simp only[go_sem]
  refine ybd (σ:=Nat) (fun k=>⟨[(14,.i .i64 k),(13,.i .i64 n),(12,yj H),(1,ybf c)],[]⟩)
    (fun k=>k<=n /\ ∀ j,j<k->(c.getD j []).getD 0 0=htP g j) (fun k=>n - k) 0 ⟨Nat.zero_le _,fun j hj=>absurd hj (Nat.not_lt_zero j)⟩ ?_ ?_
  ·refine yg [] [] [] ?_;simp only[yj,ybf,hml,allQ,live,yc,Int.natCast_zero,go_sem,Nat.reduceEqDiff,↓reduceIte,reduceCtorEq]
  rintro k ⟨hk,hall⟩
  by_cases hlt:k<n
  ·have t1:decide ((k:Int)<(n:Int))=true:=decide_eq_true (by omega)
   have hs1:=hc1 k (by omega)
   have hgk:=hmg k hlt;obtain⟨s,hs⟩:∃ s,c.getD k []=s:=⟨_,rfl⟩;rw[hs]at hs1;obtain⟨x,hx⟩:∃ x,s.getD 0 0=x:=⟨_,rfl⟩
   by_cases heq:x=htP g k
   ·have t2:(x != htP g k)=false:=by rw[heq];simp
    simp only[ybzy,ycrx,ycxy,ycyx,yj,ybf,hml,hcl,hs,hs1,hgk,hx,t1,t2,clash,go_sem,Int.reduceToNat,Nat.reduceEqDiff,Nat.reduceAdd,↓reduceIte,reduceCtorEq];refine⟨by omega,⟨by omega,by omega⟩,by omega,ikw (by omega) (by omega),yh (k+1) ⟨by omega,fun j hj=>?_⟩ (by omega) ?_⟩
    ·by_cases q:j=k
     ·rw[q,hs,hx];exact heq
     ·exact hall j (by omega)
    ·refine yg [] [] [] ?_;simp only[allQ,live,yc,yw,go_sem,Nat.reduceEqDiff,↓reduceIte,reduceCtorEq];omega
   ·have t2:(x != htP g k)=true:=by rw[bne_iff_ne];exact heq
    have e:(List.range n).all (fun v=>decide ((c.getD v []).getD 0 0=htP g v))=false:=by
     rw[List.all_eq_false];exact⟨k,List.mem_range.2 hlt,by rw[hs,hx];simpa using heq⟩
    rw[e];simp only[ybzy,ycrx,ycxy,yczw,yj,ybf,hml,hcl,hs,hs1,hgk,hx,t1,t2,clash,go_sem,Int.reduceToNat,Nat.reduceEqDiff,Nat.reduceAdd,↓reduceIte,reduceCtorEq];exact⟨by omega,⟨by omega,by omega⟩,by omega,Sim.refl _⟩
  ·obtain rfl:k=n:=by omega
   have t1:decide ((k:Int)<(k:Int))=false:=decide_eq_false (by omega)
   have e:(List.range k).all (fun v=>decide ((c.getD v []).getD 0 0=htP g v))=true:=by
    rw[List.all_eq_true];exact fun v hv=>decide_eq_true (hall v (List.mem_range.1 hv))
   rw[e];simp only[ybzy,ydek,t1,go_sem,Nat.reduceEqDiff,↓reduceIte];exact Sim.refl _
theorem ybkj{g:Gr}(hI:GrI g):Returns Tryz.prog 33 [grV g] (ymf g):=by
 refine Returns.of (ydea _ _ ?_);have hF:=ybgw hI;unfold ymf;cases ht:isTreeB g with
 | false =>
  rw[ht]at hF;simp only[grV]at hF;simp only[c33,ycxw,ycyf,ydbq,grV,clmV,clash,go_sem,Nat.reduceEqDiff,Nat.reduceAdd,Nat.reduceLT,↓reduceIte];refine hF.use ?_;simp only[thenO,splice,clash,go_sem,Nat.reduceEqDiff,Nat.reduceAdd,↓reduceIte];exact Sim.refl _
 | true =>
  have hD:=ybvp hI;rw[if_pos (yjz ht)]at hD;have hg:=yqm ht;have h24:=hg.2.1;have d1:=yka (g:=g) g.ports.length;have d2:=ybeo hg g.ports.length (Nat.le_refl _);have d3:(yie g).tdiv 2=yie g / 2:=Int.tdiv_eq_ediv_of_nonneg d1;have d1:0<=yie g:=d1;have d2:yie g<=24:=d2;rw[ht]at hF;simp only[grV]at hF hD;simp only[c33,ycxw,ycyf,ydgm,grV,clmV,clash,go_sem,Nat.reduceEqDiff,Nat.reduceAdd,Nat.reduceLT,↓reduceIte]
  refine hF.use ?_;simp only[thenO,splice,clash,go_sem,Nat.reduceEqDiff,Nat.reduceAdd,Nat.reduceLeDiff,↓reduceIte];refine hD.use ?_;simp only[d3,go_sem,Nat.reduceEqDiff,Nat.reduceAdd,↓reduceIte];exact⟨⟨by decide,ikw (by omega) (by omega)⟩,ikw (by omega) (by omega),Sim.refl _⟩
theorem ybaz{g:Gr}(hI:GrI g):Returns Tryz.prog 34 [grV g] (ymf g):=by
 refine Returns.of (ydeq _ _ ?_);have hF:=ybin hI;unfold ymf;cases ht:isTreeB g with
 | false =>
  rw[ht]at hF;simp only[grV]at hF;simp only[c34,ycvo,yctf,ydgx,grV,clmV,clash,go_sem,Nat.reduceEqDiff,Nat.reduceAdd,Nat.reduceLT,↓reduceIte];refine hF.use ?_;simp only[thenO,splice,clash,go_sem,Nat.reduceEqDiff,Nat.reduceAdd,↓reduceIte];exact Sim.refl _
 | true =>
  have hD:=ybrx hI;rw[if_pos (yjz ht)]at hD;have hg:=yqm ht;have h24:=hg.2.1;have d1:=yka (g:=g) g.ports.length;have d2:=ybeo hg g.ports.length (Nat.le_refl _);have d3:(yie g).tdiv 2=yie g / 2:=Int.tdiv_eq_ediv_of_nonneg d1;have d1:0<=yie g:=d1;have d2:yie g<=24:=d2;rw[ht]at hF;simp only[grV]at hF hD;simp only[c34,ycvo,yctf,ydfc,grV,clmV,clash,go_sem,Nat.reduceEqDiff,Nat.reduceAdd,Nat.reduceLT,↓reduceIte]
  refine hF.use ?_;simp only[thenO,splice,clash,go_sem,Nat.reduceEqDiff,Nat.reduceAdd,Nat.reduceLeDiff,↓reduceIte];refine hD.use ?_;simp only[d3,go_sem,Nat.reduceEqDiff,Nat.reduceAdd,↓reduceIte];exact⟨⟨by decide,ikw (by omega) (by omega)⟩,ikw (by omega) (by omega),Sim.refl _⟩
theorem ybpj:Returns Tryz.prog 25 [] (ycn [⟨⟨#[104]⟩,1,0,0,1,0⟩]):=by
 refine Returns.of (ydcv _ _ ?_);have h1:=ybis ⟨#[104]⟩ 0 1 0;simp only[varC]at h1;simp only[c25,ydak,ydba,go_sem,↓reduceIte];refine h1.use ?_;simp only[thenO,splice,clash,go_sem,Nat.reduceEqDiff,Nat.reduceAdd,Nat.reduceLT,↓reduceIte,reduceCtorEq];have one:∀ {q:Nat},q<1->q=0:=fun {q} h=>by omega
 refine⟨fun q hq=>by obtain rfl:=one hq;simp only[go_sem],?_⟩
 refine yhk fun q hq=>?_;obtain rfl:=one hq;simp only[varC,List.getD_cons_zero,go_sem];exact⟨Sim.refl _,Sim.refl _,Sim.refl _,Sim.refl _,Sim.refl _,Sim.refl _,trivial⟩
end Sh
end Go.Proofs.YtiejahgklcjhkaaGreatDoor

namespace Go.Proofs.YtiejahgklcjhkaaGreatDoor
open Go
def yjy(ls:List (Int × Int))(b:Int):Bool:=ls.any fun l=>decide (l.1=b)
namespace Sh
open Ev Go.RowKit
set_option maxRecDepth 8000
theorem ybix{ids:List Int}{ports:List (List (Int × Int))}{a b:Nat}(ha:a<ports.length)(hl:(ports.getD a []).length<=100000) :
  Returns Tryz.prog 128 [.ag [yj ids,yu ports],.i .i64 a,.i .i64 b] (.b (yjy (ports.getD a []) b)):=by
 refine Returns.of (ycsa _ _ ?_);obtain⟨n,hn⟩:∃ n,ports.length=n:=⟨_,rfl⟩;obtain⟨L,hL⟩:∃ L,ports.getD a []=L:=⟨_,rfl⟩;rw[hL]at hl ⊢;obtain⟨m,hm⟩:∃ m,L.length=m:=⟨_,rfl⟩;simp only[c128,ycdb,ycih,go_sem,Nat.reduceAdd,Nat.reduceLT,↓reduceIte];refine ybd (σ:=Nat) (fun k=>⟨[(7,.i .i64 k),(3,.pt (3,0) 0 0),(1,.i .i64 a),(2,.i .i64 b)],[(3,.one (some ⟨27,true,2,1,fun _=>[yj ids,yu ports]⟩))]⟩) (fun k=>k<=m /\ ∀ j,j<k->(L.getD j (0,0)).1 ≠ b) (fun k=>m - k) 0 ⟨Nat.zero_le _,fun j hj=>absurd hj (Nat.not_lt_zero j)⟩ ?_ ?_
 ·refine yg [] [] [] ?_;simp only[go_sem,allQ,live,yc,Int.natCast_zero,go_sem,Nat.reduceEqDiff,↓reduceIte,reduceCtorEq]
 ·rintro k ⟨hk,hno⟩;simp only[ycpp,ycnc,ycmg,ycrm,ychb,yu,yx,hn,hL,hm,go_sem,Nat.reduceEqDiff,Nat.reduceAdd,Nat.reduceLeDiff,↓reduceIte,reduceCtorEq];refine⟨⟨by omega,by omega⟩,fun hlt=>⟨⟨by omega,by omega⟩,⟨by omega,by omega⟩,fun he=>?_,fun hne=>⟨ikw (by omega) (by omega),?_⟩⟩,fun hge=>?_⟩
  ·have hk':k<L.length:=by omega
   have:yjy L b=true:=List.any_eq_true.2 ⟨L[k],List.getElem_mem _,by rw[getD_at hk']at he;exact decide_eq_true he⟩
   rw[this];exact Sim.refl _
  ·refine yh (k+1) ⟨by omega,fun j hj=>?_⟩ (by omega) ?_
   ·by_cases q:j=k
    ·rw[q];exact hne
    ·exact hno j (by omega)
   refine yg [] [] [] ?_;simp only[allQ,live,yc,yw,go_sem,Nat.reduceEqDiff,↓reduceIte,reduceCtorEq];omega
  ·have:yjy L b=false:=List.any_eq_false.2 fun l hl he=>by
    obtain⟨j,hj,rfl⟩:=List.getElem_of_mem hl;have:=hno j (by omega)
    rw[getD_at hj]at this;exact this (of_decide_eq_true he)
   rw[this];exact Sim.refl _
end Sh
end Go.Proofs.YtiejahgklcjhkaaGreatDoor

namespace Go.Proofs.YtiejahgklcjhkaaGreatDoor
open Go
structure NetR where
 n:Int
 links:List Int
 weights:List Int
 ids:List Int
 apart:Bool
 back:Bool
def NetR.ok(x:NetR):Prop:=Sh.inK .i64 x.n/\(∀ k,Sh.inK .i64 (x.links.getD k 0))/\(∀ k,Sh.inK .i64 (x.weights.getD k 0))/\(∀ k,Sh.inK .i64 (x.ids.getD k 0))
theorem ybdz(a r:Nat)(hr:r<=256):((List.range r).map fun i=>(((a+i) % 256:Nat):Int)).Nodup:=by
 unfold List.Nodup;rw[List.pairwise_map];refine List.Pairwise.imp_of_mem (R:=(· < ·)) (fun {i j} hi hj h=>?_) List.pairwise_lt_range;have hi:=List.mem_range.1 hi;have hj:=List.mem_range.1 hj;intro e;omega
theorem ybhc{a r:Nat}{l:List Int}(hr:r<=256)(h:∀ i,i<r->(((a+i) % 256:Nat):Int) ∈ l):r<=l.length:=by
 have:=List.Nodup.length_le_of_subset (ybdz a r hr) (l₂:=l) fun x hx=>by
  obtain⟨i,hi,rfl⟩:=List.mem_map.1 hx;exact h i (List.mem_range.1 hi)
 simpa using this
namespace Sh
open Ev Go.RowKit
set_option maxRecDepth 8000
def netC(x:NetR):List SV:=[.i .i64 x.n,yj x.links,yj x.weights,yj x.ids,.b x.apart,.b x.back]
theorem wrap64_in(z:Int):inK .i64 (IntKind.wrap .i64 z):=by
 unfold inK;have e1:IntKind.i64.min = -9223372036854775808:=rfl;have e2:IntKind.i64.max=9223372036854775807:=rfl;have h1:=Int.emod_nonneg z (show(18446744073709551616:Int) ≠ 0 by decide)
 have h2:=Int.emod_lt_of_pos z (show(0:Int)<18446744073709551616 by decide)
 rw[e1,e2]
 have e:IntKind.wrap .i64 z=if z % 18446744073709551616 >= 9223372036854775808 then z % 18446744073709551616 - 18446744073709551616 else z % 18446744073709551616:=by
  show(if (true && decide (z % 18446744073709551616 >= 9223372036854775808))=true then z % 18446744073709551616 - 18446744073709551616 else z % 18446744073709551616)=_
  simp only[Bool.true_and,decide_eq_true_eq]
 rw[e];split<;>omega
theorem ybzl{x:NetR}(hx:x.ok){most:Nat}(hm:1<=most/\most<=24) :
  Cm Tryz.prog 75 [] [] [.ag (netC x),.i .i64 most] fun r o=>∃ ids:List Int,(1<=ids.length/\ids.length<=most)/\(∀ y ∈ ids,0<=y/\y<=255)/\ids.Nodup/\r = .ag [yj ids,.os (17,0) 0 ids.length true] /\
   o = [(17,.one (some ⟨71,false,1,ids.length,fun _=>[.a (.slice none 0 0)]⟩))]:=by
 refine ycxm [] [] _ _ _ ?_;obtain⟨hx1,hx2,hx3,hx4⟩:=hx;have hin:=yed (v:=IntKind.wrap .i64 (x.n - 1)) (m:=(most:Int)) (by omega)
 obtain⟨k,hk⟩:∃ k:Nat,ydq (IntKind.wrap .i64 (x.n - 1)) most=k:=Int.eq_ofNat_of_zero_le hin.1;have hW:=yeg (IntKind.wrap .i64 (x.n - 1)) most (by omega) (wrap64_in _)
 rw[hk]at hW hin;obtain⟨n,hn⟩:∃ n:Nat,(1:Int)+(k:Int)=(n:Int):=⟨1+k,by omega⟩
 have hn1:1<=n/\n<=most:=by omega
 simp only[c75,ydet,ydfb,netC,go_sem,Nat.reduceEqDiff,Nat.reduceAdd,Nat.reduceLeDiff,Nat.reduceLT,↓reduceIte,reduceCtorEq];refine hW.use ?_;simp only[thenO,ydex,yddm,hn,clash,go_sem,Nat.reduceEqDiff,Nat.reduceAdd,Nat.reduceLT,↓reduceIte,reduceCtorEq];refine⟨ikw (by omega) (by omega),⟨by omega,by omega,by omega⟩,?_⟩
 refine ybd (σ:=List Int) (fun l=>⟨[(7,.i .i64 l.length),(5,.i .i64 n),(2,.pt (2,0) 0 0),(6,.pt (6,0) 0 0),(4,.pt (4,0) 0 0)],
   [(2,.one (some ⟨24,true,6,1,fun _=>netC x⟩)),(4,.one (some ⟨27,true,2,1,fun _=>[.a (.slice none 0 0),.a (.slice none 0 0)]⟩)),
    (6,.one (some ⟨27,true,2,1,fun _=>[.os (148,0) 0 l.length true,.os (17,0) 0 n true]⟩)),(17,.one (some ⟨71,false,1,n,fun _=>[.a (.slice none 0 0)]⟩)),
    (148,.one (some ⟨3,false,1,l.length,fun k=>[.i .i64 (l.getD k 0)]⟩))]⟩)
  (fun l=>l.length<=n/\(∀ y ∈ l,0<=y/\y<=255)/\l.Nodup) (fun l=>n - l.length) [] ⟨Nat.zero_le _,fun y hy=>(List.not_mem_nil hy).elim,List.nodup_nil⟩ ?_ ?_
 ·refine yg [] [148] [] ?_;simp only[netC,allQ,live,yc,Int.natCast_zero,go_sem,Nat.reduceEqDiff,Nat.reduceBEq,↓reduceIte,reduceCtorEq];exact fun i _=>⟨(148,0),rfl,rfl,rfl⟩
 ·rintro l ⟨hl,hl2,hl3⟩;obtain⟨v,hv⟩:∃ v,l.length=v:=⟨_,rfl⟩;rw[hv]at hl;have hA:=at_ret x.ids v;have hi2:=yed (v:=atP x.ids v) (m:=256) (by omega)
  obtain⟨a,ha⟩:∃ a:Nat,ydq (atP x.ids v) 256=a:=Int.eq_ofNat_of_zero_le hi2.1;have hW2:=yeg (atP x.ids v) 256 (by omega) (hx4 v)
  rw[ha]at hW2 hi2;simp only[ydgl,ydal,ycyy,ycew,netC,hv,splice,clash,go_sem,Nat.reduceEqDiff,Nat.reduceAdd,Nat.reduceLeDiff,↓reduceIte,reduceCtorEq];refine⟨fun hlt=>?_,fun hge=>?_⟩
  ·refine hA.use ?_;simp only[thenO,clash,go_sem,Nat.reduceEqDiff,Nat.reduceAdd,↓reduceIte,reduceCtorEq];refine hW2.use ?_
   refine ybd (σ:=Nat × Nat) (fun q=>⟨[(9,.i .i64 q.2),(8,.i .i64 ((a+q.1) % 256:Nat)),(7,.i .i64 v),(5,.i .i64 n),(2,.pt (2,0) 0 0),(6,.pt (6,0) 0 0),(4,.pt (4,0) 0 0)],
    [(2,.one (some ⟨24,true,6,1,fun _=>netC x⟩)),(4,.one (some ⟨27,true,2,1,fun _=>[.a (.slice none 0 0),.a (.slice none 0 0)]⟩)),
     (6,.one (some ⟨27,true,2,1,fun _=>[.os (148,0) 0 v true,.os (17,0) 0 n true]⟩)),(17,.one (some ⟨71,false,1,n,fun _=>[.a (.slice none 0 0)]⟩)),
     (148,.one (some ⟨3,false,1,v,fun k=>[.i .i64 (l.getD k 0)]⟩))]⟩)
    (fun q=>q.2<=v/\(∀ i,i<q.1->(((a+i) % 256:Nat):Int) ∈ l)/\q.1<=256 /\ ∀ j,j<q.2->l.getD j 0 ≠ (((a+q.1) % 256:Nat):Int)) (fun q=>(v - q.1) * (v+2)+(v - q.2)) (0,0) ⟨Nat.zero_le _,fun i hi=>absurd hi (Nat.not_lt_zero i),by omega,fun j hj=>absurd hj (Nat.not_lt_zero j)⟩ ?_ ?_
   ·refine yg [] [] [] ?_;simp only[netC,allQ,live,yc,yw,Int.natCast_zero,go_sem,Nat.reduceEqDiff,↓reduceIte,reduceCtorEq];rw[Nat.mod_eq_of_lt (by omega)]
   ·rintro⟨r,u⟩ ⟨hu,hr,hr256,hno⟩;obtain⟨b,hb⟩:∃ b,(a+r) % 256=b:=⟨_,rfl⟩;have hb256:b<256:=by omega
    simp only[ydgh,ydbv,ycmk,yclj,ycrr,ydbe,netC,hb,splice,clash,go_sem,Nat.reduceEqDiff,Nat.reduceAdd,Nat.reduceLeDiff,Nat.reduceLT,↓reduceIte,reduceCtorEq];have hu:u<=v:=hu;have hr:∀ i,i<r->(((a+i) % 256:Nat):Int) ∈ l:=hr;have hr256:r<=256:=hr256;have hno:∀ j,j<u->l.getD j 0 ≠ (b:Int):=fun j hj=>by rw[<- hb];exact hno j hj
    have hrv:r<=v:=by rw[<- hv];exact ybhc hr256 hr
    refine⟨fun hlt2=>⟨⟨by omega,by omega⟩,by omega,fun he=>⟨ikw (by omega) (by omega),by decide,ikw (by omega) (by omega),?_⟩,fun hne=>⟨ikw (by omega) (by omega),?_⟩⟩,fun hge2=>?_⟩
    ·have hmem:(b:Int) ∈ l:=by
      rw[<- he,getD_at (show u<l.length by omega)]
      exact List.getElem_mem _
     have hr':∀ i,i<r+1->(((a+i) % 256:Nat):Int) ∈ l:=fun i hi=>by
      by_cases q:i=r
      ·rw[q,hb];exact hmem
      ·exact hr i (by omega)
     have hrv':r+1<=v:=by rw[<- hv];exact ybhc (by omega) hr'
     refine yh (r+1,0) ⟨Nat.zero_le _,hr',by show r+1<=256;omega,fun j hj=>absurd hj (Nat.not_lt_zero j)⟩ ?_ ?_
     ·show(v - (r+1)) * (v+2)+(v - 0)<(v - r) * (v+2)+(v - u);obtain⟨m,hm⟩:∃ m,v - r=m+1:=⟨v - r - 1,by omega⟩
      rw[show v - (r+1)=m by omega,hm,Nat.succ_mul]
      generalize m * (v+2)=z
      omega
     ·refine yg [] [] [] ?_;simp only[allQ,live,yc,yw,Int.natCast_zero,go_sem,Nat.reduceEqDiff,↓reduceIte,reduceCtorEq];refine⟨by omega,?_⟩
      rw[Int.tmod_eq_emod_of_nonneg (by omega)]
      omega
    ·refine yh (r,u+1) ⟨by show u+1<=v;omega,hr,hr256,fun j hj=>?_⟩ ?_ ?_
     ·show l.getD j 0 ≠ (((a+r) % 256:Nat):Int);rw[hb]
      by_cases q:j=u
      ·rw[q];exact hne
      ·exact hno j (by have:j<u+1:=hj;omega)
     ·show(v - r) * (v+2)+(v - (u+1))<(v - r) * (v+2)+(v - u)
      generalize (v - r) * (v+2)=z
      omega
     ·refine yg [] [] [] ?_;simp only[hb,allQ,live,yc,yw,go_sem,Nat.reduceEqDiff,↓reduceIte,reduceCtorEq];omega
    ·obtain rfl:u=v:=by omega
     refine⟨⟨by omega,by omega⟩,ikw (by omega) (by omega),?_⟩
     have hno':(b:Int) ∉ l:=fun hm=>by
      obtain⟨j,hj,e⟩:=List.getElem_of_mem hm;exact hno j (by omega) (by rw[getD_at hj,e])
     refine yh (l ++ [(b:Int)]) ⟨by rw[List.length_append,List.length_singleton];omega,fun y hy=>?_,?_⟩ (by rw[List.length_append,List.length_singleton];omega) ?_
     ·rcases List.mem_append.1 hy with hy | hy
      ·exact hl2 y hy
      ·rw[List.mem_singleton.1 hy];omega
     ·rw[List.nodup_append];exact⟨hl3,by simp,fun y hy z hz=>by rw[List.mem_singleton.1 hz];exact fun e=>hno' (e ▸ hy)⟩
     refine yg [(148,fun i=>(48,i))] [] [] ?_;simp only[List.length_append,hv,allQ,live,yc,yw,go_sem,Nat.reduceEqDiff,↓reduceIte,reduceCtorEq];refine⟨by omega,fun i hi=>?_⟩
     rw[ysb,hv]
     by_cases q:i<u
     ·simp only[if_pos q];simp only[live,yc,go_sem,reduceCtorEq]
     ·obtain rfl:i=u:=by omega
      simp only[if_neg q,Nat.sub_self];simp only[live,yc,go_sem,↓reduceIte,reduceCtorEq]
  ·obtain rfl:v=n:=by omega
   simp only[ygj,go_sem];refine⟨.ag [yj l,.os (17,0) 0 v true],[(17,.one (some ⟨71,false,1,v,fun _=>[.a (.slice none 0 0)]⟩))],?_,?_,l,by rw[hv];exact hn1,hl2,hl3,by rw[hv],by rw[hv]⟩
   ·refine yg [] [] [(148,0)] ?_;simp only[yj,hv,allQ,live,yc,go_sem,Nat.reduceEqDiff,↓reduceIte,reduceCtorEq]
   ·simp only[famCln,ygm,allQ,live,go_sem,↓reduceIte]
end Sh
end Go.Proofs.YtiejahgklcjhkaaGreatDoor

namespace Go.Proofs.YtiejahgklcjhkaaGreatDoor
open Go
def yhs(back:Bool)(g:Gr)(a b:Nat)(w:Int):Gr:=if a=b\/yjy (g.ports.getD a []) b=true then g else ybu back g a b w
namespace Sh
open Ev Go.RowKit
set_option maxRecDepth 8000
def rowO(l:List (Int × Int)):OB:=⟨95,false,2,l.length,fun k=>[.i .i64 (l.getD k (0,0)).1,.i .i64 (l.getD k (0,0)).2]⟩
def yfg(ports:List (List (Int × Int))):Own:=[(211,.one (some ⟨71,false,1,ports.length,fun v=>[.os (212,v) 0 (ports.getD v []).length true]⟩)),
 (212,.many fun v=>if v<ports.length then some (rowO (ports.getD v []))else none)]
def yrh(g:Gr):SV:=.ag [yj g.ids,.os (211,0) 0 g.ports.length true]
theorem yhn{i n:Nat}{x b:OB}(h:(if i<n then some x else none)=some b):i<n/\b=x:=by
 split at h
 ·cases h;exact⟨by assumption,rfl⟩
 ·cases h
theorem ybo(back:Bool)(L:List (Int × Int))(x:Int × Int):(addL back L x).length=L.length+1:=by
 unfold addL;cases back<;>simp
theorem yyh(L:List (Int × Int))(x:Int × Int){k:Nat}(hk:k<L.length+1):(if k<L.length then[SV.i .i64 (L.getD k (0,0)).1,SV.i .i64 (L.getD k (0,0)).2]else List.take 2 (List.drop ((k - L.length) * 2) [SV.i .i64 x.1,SV.i .i64 x.2])) = [SV.i .i64 ((addL false L x).getD k (0,0)).1,SV.i .i64 ((addL false L x).getD k (0,0)).2]:=by
 show _ = [SV.i .i64 ((L ++ [x]).getD k (0,0)).1,SV.i .i64 ((L ++ [x]).getD k (0,0)).2];rw[ysb]
 by_cases h:k<L.length
 ·rw[if_pos h,if_pos h]
 ·obtain rfl:k=L.length:=by omega
  rw[if_neg h,if_neg h,if_pos rfl,Nat.sub_self];rfl
theorem ylf(L:List (Int × Int))(x:Int × Int)(k:Nat):(if k<1 then List.take 2 (List.drop (k * 2) [SV.i .i64 x.1,SV.i .i64 x.2])else[SV.i .i64 (L.getD (k - 1) (0,0)).1,SV.i .i64 (L.getD (k - 1) (0,0)).2]) = [SV.i .i64 ((addL true L x).getD k (0,0)).1,SV.i .i64 ((addL true L x).getD k (0,0)).2]:=by
 show _ = [SV.i .i64 ((x :: L).getD k (0,0)).1,SV.i .i64 ((x :: L).getD k (0,0)).2];cases k with
 | zero=>rfl
 | succ k=>rw[if_neg (by omega)];rfl
theorem cells_one(L:List (Int × Int))(h:L.length=0)(x:Int × Int){k:Nat}(hk:k<1):List.take 2 (List.drop (k * 2) [SV.i .i64 x.1,SV.i .i64 x.2]) = [SV.i .i64 ((addL true L x).getD k (0,0)).1,SV.i .i64 ((addL true L x).getD k (0,0)).2]:=by
 obtain rfl:k=0:=by omega
 rfl
theorem yho {n:Nat} {o:Own} {P':List (List (Int × Int))} (hl:P'.length=n) (A:Nat->Nm) {R:Nat->List SV} (h11:lookO o (211,0)=some ⟨71,false,1,n,R⟩) (hR:∀ v,v<n->R v = [.os (A v) 0 (P'.getD v []).length true])
  (hA:∀ v,v<n -> ∃ q,lookO o (A v)=some ⟨95,false,2,(P'.getD v []).length,q⟩ /\ ∀ k,k<(P'.getD v []).length->q k = [.i .i64 ((P'.getD v []).getD k (0,0)).1,.i .i64 ((P'.getD v []).getD k (0,0)).2])
  (hi:∀ u v,u<n->v<n->A u=A v->u=v) (h0:∀ v,v<n->A v ≠ (211,0)) :
  ∃ r o',Weak [(211,0)] ⟨[(0,.tp [])],o⟩ ⟨[(0,r)],o'⟩/\(cln (live o') 5 r=true/\allQ (fun p=>famCln (live o') p.2) o'/\allQ (fun β=>live o' β=true) [(211,0)])/\r = .tp []/\o'=yfg P':=by
 subst hl
 have hsome:∀ i,(if i<P'.length then some (rowO (P'.getD i []))else none).isSome=true->i<P'.length:=fun i h=>by
  by_cases q:i<P'.length
  ·exact q
  ·rw[if_neg q]at h;cases h
 have hlive:∀ i,i<P'.length->live (yfg P') (212,i)=true:=fun i hi=>by
  show(if i<P'.length then some (rowO (P'.getD i []))else none).isSome=true
  rw[if_pos hi];rfl
 refine⟨.tp [],yfg P',ybey [(212,A)] [] [] trivial ⟨.inr ⟨.inr fun e=>⟨rfl,rfl⟩,.inr fun j hj e=>?_,trivial⟩,.inr ⟨.inr fun i hi' e=>?_,.inr fun i hi' j hj e=>⟨rfl,?_⟩,trivial⟩,trivial⟩ ⟨?_,trivial⟩ ⟨?_,fun i b hb=>?_,trivial⟩ ⟨⟨rfl,rfl,rfl⟩,trivial⟩,⟨rfl,⟨?_,?_,trivial⟩,rfl,trivial⟩,rfl,rfl⟩
 ·exact absurd e.symm (h0 j (hsome j hj))
 ·exact absurd e (h0 i (hsome i hi'))
 ·exact hi i j (hsome i hi') (hsome j hj) e
 ·exact⟨_,rfl,.inl ⟨trivial,Sim.refl _,rfl⟩⟩
 ·refine⟨_,h11,⟨rfl,rfl,rfl,rfl,rfl⟩,fun i hi'=>?_⟩;have hi':i<P'.length:=hi';show telL _ _ _ _ _ (R i) _;rw[hR i hi'];refine⟨.inl ⟨by simp only[go_sem],Sim.refl _,?_⟩,rfl,trivial⟩
  show(live (yfg P') (212,i) && !(List.elem 212 []))=true;rw[hlive i hi'];rfl
 ·obtain⟨hi',rfl⟩:=yhn hb;obtain⟨q,q1,q2⟩:=hA i hi';refine⟨_,q1,⟨rfl,rfl,rfl,rfl,rfl⟩,fun k hk=>?_⟩;show telL _ _ _ _ _ (q k) _;rw[q2 k hk];exact⟨.inl ⟨trivial,Sim.refl _,rfl⟩,rfl,.inl ⟨trivial,Sim.refl _,rfl⟩,rfl,trivial⟩
 ·intro k hk;have:live (yfg P') (212,k)=true:=hlive k hk;simp only[yfg,List.all_cons,List.all_nil,Bool.and_true]at this ⊢;exact this
 ·intro i b hb k hk;obtain⟨hi',rfl⟩:=yhn hb;rfl
section
variable {x:NetR} {g:Gr} {a b:Nat} {w:Int}
theorem yctw(ha:a<g.ports.length)(hb:b<g.ports.length)(hn:g.ports.length<=24)(hd:∀ v,(g.ports.getD v []).length<=1000) :
  Cm Tryz.prog 76 [(211,0)] (yfg g.ports) [.ag (netC x),yrh g,.i .i64 a,.i .i64 b,.i .i64 w] fun r o=>r = .tp []/\o=yfg (yhs x.back g a b w).ports:=by
 refine ycxq [(211,0)] [] _ _ _ ?_;obtain⟨O2,hO2⟩:∃ O,yfg (yhs x.back g a b w).ports=O:=⟨_,rfl⟩;rw[hO2]
 by_cases hab:a=b
 ·subst hab;have hP:yhs x.back g a a w=g:=if_pos (.inl rfl);rw[hP]at hO2;simp only[c76,ycxd,ycwm,netC,yrh,yfg,ygj,go_sem,Nat.reduceEqDiff,Nat.reduceAdd,Nat.reduceLT,↓reduceIte,reduceCtorEq];subst hO2;exact yho rfl (fun v=>(212,v)) rfl (fun v hv=>rfl) (fun v hv=>⟨_,if_pos hv,fun k hk=>rfl⟩) (fun u v _ _ e=>congrArg Prod.snd e) (fun v _ e=>by cases e)
 ·have hne:((a:Int) == (b:Int))=false:=by rw[beq_eq_false_iff_ne];omega
  have hL:=ybix (ids:=g.ids) (ports:=g.ports) (b:=b) ha (by have:=hd a;omega)
  simp only[c76,ycxd,ycwm,netC,yrh,yfg,hne,clash,go_sem,Nat.reduceEqDiff,Nat.reduceAdd,Nat.reduceLT,↓reduceIte,reduceCtorEq];refine .inl ⟨fun q hq=>by rw[if_pos hq];exact⟨Nat.le_refl _,fun k hk=>by simp only[rowO,go_sem]⟩,hL.useS ?_ ?_⟩
  ·refine⟨yro ⟨Sim.refl _,?_,trivial⟩,Sim.refl _,Sim.refl _,trivial⟩;refine yhk fun q hq=>?_;rw[if_pos hq];simp only[rowO,yx,go_sem];exact⟨Sim.refl _,trivial⟩
  cases hlk:yjy (g.ports.getD a []) b with
  | true =>
   have hP:yhs x.back g a b w=g:=if_pos (.inr hlk);rw[hP]at hO2;simp only[thenO,clash,ygj,go_sem,Nat.reduceEqDiff,Nat.reduceAdd,↓reduceIte];subst hO2;exact yho rfl (fun v=>(212,v)) rfl (fun v hv=>rfl) (fun v hv=>⟨_,if_pos hv,fun k hk=>rfl⟩) (fun u v _ _ e=>congrArg Prod.snd e) (fun v _ e=>by cases e)
  | false =>
   have hP:yhs x.back g a b w=ybu x.back g a b w:=if_neg (fun q=>by rcases q with q | q;exact hab q;rw[hlk]at q;cases q)
   rw[hP]at hO2;subst hO2;have hba:¬ b=a:=fun e=>hab e.symm;have hlen:(ybu x.back g a b w).ports.length=g.ports.length:=by simp[ybu]
   have hat:=ydb x.back g w ha hb;obtain⟨G',hG'⟩:∃ G,(ybu x.back g a b w).ports=G:=⟨_,rfl⟩;rw[hG']at hlen ⊢;have hat:∀ v,G'.getD v []=if v=b then addL x.back (g.ports.getD b []) (a,w)else if v=a then addL x.back (g.ports.getD a []) (b,w)else g.ports.getD v []:=fun v=>by rw[<- hG'];exact hat v
   clear hG' hP
   obtain⟨x1,x2,x3,x4,x5,back⟩:=x;have hda:=hd a;have hdb:=hd b;cases back with
   | false =>
    simp only[thenO,clash,ybks,ybjn,ydbm,rowO,if_pos ha,if_pos hb,hab,hba,ygj,and_false,go_sem,Nat.reduceEqDiff,Nat.reduceAdd,Nat.reduceLeDiff,Nat.reduceLT,↓reduceIte,reduceCtorEq];refine⟨⟨by omega,by omega⟩,by omega,⟨by omega,by omega⟩,by decide,⟨by omega,by omega⟩,by omega,⟨by omega,by omega⟩,by decide,⟨by omega,by omega⟩,by omega,by decide,⟨by omega,by omega⟩,by omega,by decide,?_⟩
    refine yho hlen (fun v=>if v=b then(74,0)else if v=a then(66,0)else(212,v)) rfl (fun v hv=>?_) (fun v hv=>?_) (fun u v _ _ e=>?_) (fun v _ e=>?_)
    ·rw[hat v]
     by_cases q:v=b
     ·simp only[if_pos q,ybo]
     ·by_cases q2:v=a
      ·simp only[if_neg q,if_pos q2,ybo]
      ·simp only[if_neg q,if_neg q2]
    ·rw[hat v]
     by_cases q:v=b
     ·simp only[if_pos q,ybo];exact⟨_,rfl,fun k hk=>yyh _ (_,_) hk⟩
     ·by_cases q2:v=a
      ·simp only[if_neg q,if_pos q2,ybo];exact⟨_,rfl,fun k hk=>yyh _ (_,_) hk⟩
      ·simp only[if_neg q,if_neg q2];refine⟨fun k=>[.i .i64 ((g.ports.getD v []).getD k (0,0)).1,.i .i64 ((g.ports.getD v []).getD k (0,0)).2],?_,fun k hk=>rfl⟩;show(if v=b then none else if v=a then none else if v<g.ports.length then some _ else none)=some _
       rw[if_neg q,if_neg q2,if_pos hv]
    ·by_cases q:u=b<;>by_cases q2:u=a<;>by_cases q3:v=b<;>by_cases q4:v=a<;>simp[q,q2,q3,q4,hab]at e ⊢<;>omega
    ·by_cases q:v=b<;>by_cases q2:v=a<;>simp[q,q2,hab]at e
   | true =>
    by_cases hza:(g.ports.getD a []).length=0
    ·by_cases hzb:(g.ports.getD b []).length=0
     ·simp only[thenO,clash,ybks,ybjn,ybqd,ybov,rowO,if_pos ha,if_pos hb,hba,ygj,and_false,hza,hzb,go_sem,Nat.reduceEqDiff,Nat.reduceAdd,Nat.reduceLeDiff,Nat.reduceLT,Nat.reduceMul,↓reduceIte,reduceCtorEq]
      repeat' apply And.intro
      all_goals first | omega | decide | skip
      refine yho hlen (fun v=>if v=b then(45,0)else if v=a then(33,0)else(212,v)) rfl (fun v hv=>?_) (fun v hv=>?_) (fun u v _ _ e=>?_) (fun v _ e=>?_)
      ·rw[hat v]
       by_cases q:v=b
       ·simp only[if_pos q,ybo,hzb,Nat.zero_add]
       ·by_cases q2:v=a
        ·simp only[if_neg q,if_pos q2,ybo,hza,Nat.zero_add]
        ·simp only[if_neg q,if_neg q2]
      ·rw[hat v]
       by_cases q:v=b
       ·simp only[if_pos q,ybo,hzb,Nat.zero_add];exact⟨_,rfl,fun k hk=>cells_one _ hzb (_,_) hk⟩
       ·by_cases q2:v=a
        ·simp only[if_neg q,if_pos q2,ybo,hza,Nat.zero_add];exact⟨_,rfl,fun k hk=>cells_one _ hza (_,_) hk⟩
        ·simp only[if_neg q,if_neg q2];refine⟨fun k=>[.i .i64 ((g.ports.getD v []).getD k (0,0)).1,.i .i64 ((g.ports.getD v []).getD k (0,0)).2],?_,fun k hk=>rfl⟩;show(if v<g.ports.length then some _ else none)=some _
         rw[if_pos hv]
      ·by_cases q:u=b<;>by_cases q2:u=a<;>by_cases q3:v=b<;>by_cases q4:v=a<;>simp[q,q2,q3,q4,hab]at e ⊢<;>omega
      ·by_cases q:v=b<;>by_cases q2:v=a<;>simp[q,q2,hab]at e
     ·simp only[thenO,clash,ybks,ybjn,ybqd,ybov,rowO,if_pos ha,if_pos hb,hba,ygj,and_false,hza,hzb,go_sem,Nat.reduceEqDiff,Nat.reduceAdd,Nat.reduceLeDiff,Nat.reduceLT,Nat.reduceMul,↓reduceIte,reduceCtorEq]
      repeat' apply And.intro
      all_goals first | omega | decide | skip
      refine yho hlen (fun v=>if v=b then(51,0)else if v=a then(33,0)else(212,v)) rfl (fun v hv=>?_) (fun v hv=>?_) (fun u v _ _ e=>?_) (fun v _ e=>?_)
      ·rw[hat v]
       by_cases q:v=b
       ·simp only[if_pos q,ybo,Nat.add_comm]
       ·by_cases q2:v=a
        ·simp only[if_neg q,if_pos q2,ybo,hza,Nat.zero_add,Nat.add_comm]
        ·simp only[if_neg q,if_neg q2]
      ·rw[hat v]
       by_cases q:v=b
       ·simp only[if_pos q,ybo];exact⟨_,congrArg some (congrArg (fun n=>OB.mk _ _ _ n _) (Nat.add_comm _ _)),fun k hk=>ylf _ (_,_) k⟩
       ·by_cases q2:v=a
        ·simp only[if_neg q,if_pos q2,ybo,hza,Nat.zero_add];exact⟨_,rfl,fun k hk=>cells_one _ hza (_,_) hk⟩
        ·simp only[if_neg q,if_neg q2];refine⟨fun k=>[.i .i64 ((g.ports.getD v []).getD k (0,0)).1,.i .i64 ((g.ports.getD v []).getD k (0,0)).2],?_,fun k hk=>rfl⟩;show(if v<g.ports.length then some _ else none)=some _
         rw[if_pos hv]
      ·by_cases q:u=b<;>by_cases q2:u=a<;>by_cases q3:v=b<;>by_cases q4:v=a<;>simp[q,q2,q3,q4,hab]at e ⊢<;>omega
      ·by_cases q:v=b<;>by_cases q2:v=a<;>simp[q,q2,hab]at e
    ·by_cases hzb:(g.ports.getD b []).length=0
     ·simp only[thenO,clash,ybks,ybjn,ybqd,ybov,rowO,if_pos ha,if_pos hb,hba,ygj,and_false,hza,hzb,go_sem,Nat.reduceEqDiff,Nat.reduceAdd,Nat.reduceLeDiff,Nat.reduceLT,Nat.reduceMul,↓reduceIte,reduceCtorEq]
      repeat' apply And.intro
      all_goals first | omega | decide | skip
      refine yho hlen (fun v=>if v=b then(45,0)else if v=a then(39,0)else(212,v)) rfl (fun v hv=>?_) (fun v hv=>?_) (fun u v _ _ e=>?_) (fun v _ e=>?_)
      ·rw[hat v]
       by_cases q:v=b
       ·simp only[if_pos q,ybo,hzb,Nat.zero_add,Nat.add_comm]
       ·by_cases q2:v=a
        ·simp only[if_neg q,if_pos q2,ybo,Nat.add_comm]
        ·simp only[if_neg q,if_neg q2]
      ·rw[hat v]
       by_cases q:v=b
       ·simp only[if_pos q,ybo,hzb,Nat.zero_add];exact⟨_,rfl,fun k hk=>cells_one _ hzb (_,_) hk⟩
       ·by_cases q2:v=a
        ·simp only[if_neg q,if_pos q2,ybo];exact⟨_,congrArg some (congrArg (fun n=>OB.mk _ _ _ n _) (Nat.add_comm _ _)),fun k hk=>ylf _ (_,_) k⟩
        ·simp only[if_neg q,if_neg q2];refine⟨fun k=>[.i .i64 ((g.ports.getD v []).getD k (0,0)).1,.i .i64 ((g.ports.getD v []).getD k (0,0)).2],?_,fun k hk=>rfl⟩;show(if v<g.ports.length then some _ else none)=some _
         rw[if_pos hv]
      ·by_cases q:u=b<;>by_cases q2:u=a<;>by_cases q3:v=b<;>by_cases q4:v=a<;>simp[q,q2,q3,q4,hab]at e ⊢<;>omega
      ·by_cases q:v=b<;>by_cases q2:v=a<;>simp[q,q2,hab]at e
     ·simp only[thenO,clash,ybks,ybjn,ybqd,ybov,rowO,if_pos ha,if_pos hb,hba,ygj,and_false,hza,hzb,go_sem,Nat.reduceEqDiff,Nat.reduceAdd,Nat.reduceLeDiff,Nat.reduceLT,↓reduceIte,reduceCtorEq]
      repeat' apply And.intro
      all_goals first | omega | decide | skip
      refine yho hlen (fun v=>if v=b then(51,0)else if v=a then(39,0)else(212,v)) rfl (fun v hv=>?_) (fun v hv=>?_) (fun u v _ _ e=>?_) (fun v _ e=>?_)
      ·rw[hat v]
       by_cases q:v=b
       ·simp only[if_pos q,ybo,Nat.add_comm]
       ·by_cases q2:v=a
        ·simp only[if_neg q,if_pos q2,ybo,Nat.add_comm]
        ·simp only[if_neg q,if_neg q2]
      ·rw[hat v]
       by_cases q:v=b
       ·simp only[if_pos q,ybo];exact⟨_,congrArg some (congrArg (fun n=>OB.mk _ _ _ n _) (Nat.add_comm _ _)),fun k hk=>ylf _ (_,_) k⟩
       ·by_cases q2:v=a
        ·simp only[if_neg q,if_pos q2,ybo];exact⟨_,congrArg some (congrArg (fun n=>OB.mk _ _ _ n _) (Nat.add_comm _ _)),fun k hk=>ylf _ (_,_) k⟩
        ·simp only[if_neg q,if_neg q2];refine⟨fun k=>[.i .i64 ((g.ports.getD v []).getD k (0,0)).1,.i .i64 ((g.ports.getD v []).getD k (0,0)).2],?_,fun k hk=>rfl⟩;show(if v<g.ports.length then some _ else none)=some _
         rw[if_pos hv]
      ·by_cases q:u=b<;>by_cases q2:u=a<;>by_cases q3:v=b<;>by_cases q4:v=a<;>simp[q,q2,q3,q4,hab]at e ⊢<;>omega
      ·by_cases q:v=b<;>by_cases q2:v=a<;>simp[q,q2,hab]at e
end
end Sh
end Go.Proofs.YtiejahgklcjhkaaGreatDoor

