/- Joined. -/
import Derived.Test.YtiejahgklcjhkaaGreatDoorPkS16
import Derived.Test.YtiejahgklcjhkaaGreatDoorPkS10
set_option linter.unusedSimpArgs false
set_option linter.unusedVariables false
set_option maxRecDepth 1000000
open Nat renaming reduceEqDiff→zA,reduceAdd→zB,reduceLT→zD,beq_refl→zG,le_of_ble_eq_true→zH,reduceBEq→zJ,ble_eq_true_of_le→zL,reduceLeDiff→zM,beq→zN,blt→zS,ble→zAC,zero_le→zAE,not_lt_zero→zAH
open Bool renaming and_eq_true→zC,true_and→zI,not_eq_true'→zK,and_eq_false_iff→zV,false_and→zAJ
open Go.Proofs.Tryz renaming prog→zF,func64→zAN
open List renaming map_congr_left→zO,getElem?_eq_getElem→zQ,getElem_mem→zT,all_eq_true→zU,range→zW,length_map→zX,nodup_cons→zY,getElem_of_mem→zZ,getD_cons_zero→zAA,map_map→zAB,all_eq_false→zAD,not_mem_nil→zAG,length_nil→zAI,getD→zAK,map_cons→zAL
open Int renaming natCast_zero→zAF
open Eq renaming trans→zAM
open Go
namespace Go.Proofs.YtiejahgklcjhkaaGreatDoor
section
section
variable {nm nc nr:ByteArray}{g:Gr}{c:Conf}{u v s:Nat}
theorem yddm{i:Nat}:(1<<<v).testBit i=true↔i=v:=by
 rw[Nat.one_shiftLeft,Nat.testBit_two_pow,decide_eq_true_iff];exact eq_comm
theorem ybrs(hg:yw g):ytw g (1<<<v):=fun a b hab ha=>by
 cases q:(1<<<v).testBit b with
 |false=>rfl
 | true =>
   rw[yddm]at ha q;subst ha;subst q
   exact absurd hab fun h=>by
    obtain⟨hu,_⟩:=hg.adj_lt h;obtain⟨l,hl,e⟩:=yfk.1 h;have e3:g.ports[b]?=some (g.ports.getD b []):=by simp[zAK,hu]
    exact(hg.link e3 hl).2.2.1 e
end
end
section
namespace Sh
open Go Ev
end Sh
end
section
theorem ycdh{ps:List (List (Int×Int))}{v:Nat}{l:Int×Int}(hv:v<ps.length)(hl:l∈ps.getD v []):(⟨v,l.1,l.2⟩:Ev.El)∈Ev.flatAt 0 ps:=by
 have key:∀(ps:List (List (Int×Int))) (b v:Nat),v<ps.length->l∈ps.getD v []->(⟨b+v,l.1,l.2⟩:Ev.El)∈Ev.flatAt b ps:=by
  intro ps
  induction ps with
  |nil=>intro b v h;simp at h
  | cons x ps ih =>
    intro b v h hl;show _∈(x.map fun y=>(⟨b,y.1,y.2⟩:Ev.El))++Ev.flatAt (b+1) ps;rw[List.mem_append];cases v with
    |zero=>exact .inl (List.mem_map.2 ⟨l,hl,rfl⟩)
    | succ v =>
      right
      have:=ih (b+1) v (by simpa using h) hl
      rwa [show b+1+v=b+(v+1)by omega]at this
 have:=key ps 0 v hv hl
 rwa [Nat.zero_add]at this
namespace Sh
open Ev Go.RowKit
end Sh
end
section
section
variable {nm nh nr:ByteArray}{g:Gr}{c:Conf}{v:Nat}
structure CnC(g:Gr)(c:Conf):Prop where
 len:c.length=g.ids.length
 row:∀v,v<g.ids.length->(c.getD v []).length=1/\(0<=(c.getD v []).getD 0 0/\(c.getD v []).getD 0 0<=g.ids.length)
end
end
section
def hAt(c:Conf)(v:Nat):Int:=(c.getD v []).getD 0 0
def lAt(c:Conf)(v:Nat):Int:=(c.getD v []).getD 1 0
section
variable {nm nh nl nf nd nt ni:ByteArray}{g:Gr}{c:Conf}{u v w:Nat}
structure ElC(g:Gr)(c:Conf):Prop where
 len:c.length=g.ids.length
 row:∀v,v<g.ids.length->(c.getD v []).length=2/\(0<=hAt c v/\hAt c v<=g.ids.length)/\(lAt c v=0\/lAt c v=1)
open Classical in
end
end
section
structure Stab(g:Gr)(c:Conf)(v:Nat):Prop where
 low:¬Peak g v->lAt c v=0
 one:Peak g v->(∀u,adj g v u->htP g u<htP g v)->lAt c v=1
 two:Peak g v->∀u,adj g v u->htP g u=htP g v->lAt c u≠lAt c v
section
variable {nm nh nl nf nd nt ni:ByteArray}{g:Gr}{c:Conf}{u v w s:Nat}
end
end
section
section
variable {g:Gr}{u v:Nat}
end
end
section
section
variable {g:Gr}{a b v:Nat}
end
end
section
namespace Sh
open Go Ev
def c5_0:LO:=[o3 (.box 24 (.tmp 0)) 3 0,o3 (.mv (.const (.bool false))) 6 0]
def c5_1:LO:=[ld' true 6 3 15 0,o3 (.call (.func 21) [(.tmp 15),(ci' 10)]) 16 1,o3 (.alloc 27 1 [.a (.slice none 0 0),.a (.slice none 0 0)]) 7 0,o0 (.store 2 (.tmp 7) (.tmp 16)) 7]
def c5_2:LO:=[ld' true 2 7 17 0,cl' 25 [] 18 0,mv' 1 19 0,cl' 24 [17,18,19] 20 7,mv' 20 8 15]
def c5_3:LO:=[cl' 23 [] 22 0,ld' true 2 7 23 0,ld' true 2 7 24 0,cl' 33 [24] 25 5,o3 (.field false 0 1 (.tmp 25)) 26 13,mv' 8 27 0,mv' 2 28 0,o3 (.call (.func 26) [(.tmp 28),(ci' 120)]) 29 77,cl' 22 [22,23,26,27,29] 30 255,mv' 30 21 511,xt' 21 0 31 1023,xt' 21 1 32 1023,xt' 21 2 33 1023,mv' 31 9 2047,mv' 32 10 12287,mv' 33 11 32767]
def c5_4:LO:=[mv' 11 34 0,o3 (.un .not (.tmp 34)) 35 1,mv' 35 36 3,⟨.load true 2 (.tmp 7),some 37,some (36,false),7⟩,⟨.call (.func 33) [(.tmp 37)],some 38,some (36,false),15⟩,⟨.load true 2 (.tmp 7),some 39,some (36,false),7⟩,⟨.call (.func 34) [(.tmp 39)],some 40,some (36,false),63⟩,⟨.seq true [false,true,true,false,false] (.tmp 38) (.tmp 40),some 41,some (36,false),127⟩,o3 (.pick (.tmp 36) (.const (.bool true)) (.tmp 41)) 42 255]
def c5_5:LO:=[o3 (.mv (.const (.bool false))) 6 0]
def c5_6:LO:=[o3 (.mv (.const (.slice none 0 0))) 12 0]
def c5_7:LO:=[o3 (.mv (ci' 0)) 13 0]
def c5_8:LO:=[mv' 13 43 0,mv' 9 44 0,ln' 44 45 2,bn' .lss 43 45 46 7]
def ydqo:LO:=[mv' 12 49 0,ld' true 2 7 50 0,mv' 9 51 0,mv' 13 52 0,ix' 1 51 52 53 12,ld' false 1 53 54 28,cl' 35 [50,54] 55 62,o3 (.bslice 4 1 1 [.b false] [(0,1,(.tmp 55))]) 56 126,o3 (.app 4 1 1 (.tmp 49) (.tmp 56)) 57 255,mv' 57 12 511]
def c5_9:LO:=[mv' 13 47 0,o3 (.bin .add (.tmp 47) (ci' 1)) 48 1,mv' 48 13 3]
def ydqj:LO:=[cl' 23 [] 58 0,cl' 37 [58] 59 1,ld' true 2 7 60 0,mv' 9 61 0,mv' 9 62 0,ln' 62 63 16,o3 (.bin .sub (.tmp 63) (ci' 1)) 64 48,ix' 1 61 64 65 120,ld' false 1 65 66 248,cl' 36 [59,60,66] 67 511,o3 (.bin .eql (.tmp 67) (.const (.int .u32 0))) 68 1023,mv' 68 14 2047]
def ydrh:LO:=[cl' 30 [] 69 0,mv' 69 70 1,⟨.mv (.tmp 12),some 71,some (70,true),3⟩,⟨.mv (.tmp 10),some 72,some (70,true),3⟩,⟨.load true 2 (.tmp 7),some 73,some (70,true),3⟩,⟨.call (.func 33) [(.tmp 73)],some 74,some (70,true),19⟩,⟨.mv (.tmp 14),some 75,some (70,true),3⟩,⟨.call (.func 38) [(.tmp 71),(.tmp 72),(.tmp 74),(.tmp 75)],some 76,some (70,true),127⟩,o3 (.pick (.tmp 70) (.tmp 76) (.const (.bool false))) 77 255,mv' 77 6 511]
def c5:SC:=(.seq (.reg false c5_0) (.seq (.reg false c5_1) (.seq (.reg true c5_2) (.seq (.reg true c5_3) (.seq (.seq (.reg true c5_4) (.cond (.tmp 42) (.seq (.reg false c5_5) .ret) .skip)) (.seq (.reg false c5_6) (.seq (.seq (.reg false c5_7) (.block 0 (.loop (.seq (.seq (.reg false c5_8) (.cond (.tmp 46) .skip (.exit 0))) (.seq (.block 1 (.reg true ydqo)) (.reg false c5_9)))))) (.seq (.reg true ydqj) (.seq (.reg false ydrh) .ret)))))))))
def c6_0:LO:=[o3 (.box 24 (.tmp 0)) 3 0,o3 (.mv (.const (.bool false))) 6 0]
def c6_1:LO:=[ld' true 6 3 13 0,o3 (.call (.func 21) [(.tmp 13),(ci' 10)]) 14 1,o3 (.alloc 27 1 [.a (.slice none 0 0),.a (.slice none 0 0)]) 7 0,o0 (.store 2 (.tmp 7) (.tmp 14)) 7]
def c6_2:LO:=[cl' 23 [] 15 0,cl' 37 [15] 16 1,o3 (.alloc 58 1 [.a (.string (ByteArray.mk #[])),.a (.slice none 0 0),.a (.slice none 0 0)]) 8 0,o0 (.store 3 (.tmp 8) (.tmp 16)) 7]
def c6_3:LO:=[cl' 23 [] 18 0,ld' true 2 7 19 0,ld' true 2 7 20 0,cl' 33 [20] 21 5,o3 (.field false 0 1 (.tmp 21)) 22 13,ld' true 2 7 23 0,cl' 25 [] 24 13,mv' 1 25 0,cl' 24 [23,24,25] 26 237,mv' 2 27 0,o3 (.call (.func 26) [(.tmp 27),(ci' 60)]) 28 1005,cl' 22 [18,19,22,26,28] 29 2047,mv' 29 17 4095,xt' 17 0 30 8191,xt' 17 1 31 8191,xt' 17 2 32 8191,mv' 30 9 16383,mv' 31 10 98303,mv' 32 11 262143]
def c6_4:LO:=[o3 (.mv (ci' 0)) 12 0]
def c6_5:LO:=[mv' 12 33 0,mv' 9 34 0,ln' 34 35 2,bn' .lss 33 35 36 7]
def c6_7:LO:=[ld' true 3 8 39 0,ld' true 2 7 40 0,mv' 9 41 0,mv' 12 42 0,ix' 1 41 42 43 12,ld' false 1 43 44 28,cl' 36 [39,40,44] 45 63,o3 (.bin .eql (.tmp 45) (.const (.int .u32 0))) 46 127,ld' true 2 7 47 0,mv' 9 48 0,mv' 12 49 0,ix' 1 48 49 50 1536,ld' false 1 50 51 3584,cl' 35 [47,51] 52 8063,o3 (.beq true (.tmp 46) (.tmp 52)) 53 16383]
def c6_8:LO:=[o3 (.mv (.const (.bool false))) 6 0]
def c6_6:LO:=[mv' 12 37 0,o3 (.bin .add (.tmp 37) (ci' 1)) 38 1,mv' 38 12 3]
def c6_9:LO:=[cl' 30 [] 54 0,mv' 54 55 1,⟨.mv (.tmp 11),some 56,some (55,true),3⟩,o3 (.pick (.tmp 55) (.tmp 56) (.const (.bool false))) 57 7,mv' 57 6 15]
def c6:SC:=(.seq (.reg false c6_0) (.seq (.reg false c6_1) (.seq (.reg false c6_2) (.seq (.reg true c6_3) (.seq (.seq (.reg false c6_4) (.block 0 (.loop (.seq (.seq (.reg false c6_5) (.cond (.tmp 36) .skip (.exit 0))) (.seq (.block 1 (.seq (.reg true c6_7) (.cond (.tmp 53) (.seq (.reg false c6_8) .ret) .skip))) (.reg false c6_6)))))) (.seq (.reg false c6_9) .ret))))))
def c4_0:LO:=[o3 (.box 24 (.tmp 0)) 3 0,o3 (.mv (.const (.bool false))) 6 0]
def c4_1:LO:=[ld' true 6 3 16 0,o3 (.call (.func 21) [(.tmp 16),(ci' 10)]) 17 1,o3 (.alloc 27 1 [.a (.slice none 0 0),.a (.slice none 0 0)]) 7 0,o0 (.store 2 (.tmp 7) (.tmp 17)) 7]
def c4_2:LO:=[cl' 23 [] 19 0,ld' true 2 7 20 0,ld' true 2 7 21 0,cl' 25 [] 22 1,mv' 1 23 0,cl' 24 [21,22,23] 24 29,mv' 2 25 0,o3 (.call (.func 26) [(.tmp 25),(ci' 80)]) 26 125,o3 (.call (.func 22) [(.tmp 19),(.tmp 20),(ci' 3),(.tmp 24),(.tmp 26)]) 27 255,mv' 27 18 511,xt' 18 0 28 1023,xt' 18 1 29 1023,xt' 18 2 30 1023,mv' 28 8 2047,mv' 29 9 12287,mv' 30 10 32767]
def c4_3:LO:=[o3 (.mv (ci' 0)) 11 0]
def c4_4:LO:=[mv' 11 31 0,mv' 8 32 0,ln' 32 33 2,bn' .lss 31 33 34 7]
def c4_6:LO:=[mv' 9 37 0,mv' 11 38 0,ix' 5 37 38 39 3,fa' 2 1 39 40 7,ld' false 1 40 41 15,o3 (.bin .sub (.tmp 41) (ci' 1)) 42 31,mv' 42 12 63]
def c4_7:LO:=[o3 (.mv (ci' 0)) 13 0]
def c4_8:LO:=[mv' 13 43 0,fa' 1 1 7 44 0,ld' false 1 44 45 2,ln' 45 46 6,bn' .lss 43 46 47 15,mv' 47 48 31,⟨.mv (.tmp 12),some 49,some (48,true),63⟩,⟨.bin .geq (.tmp 49) (ci' 0),some 50,some (48,true),127⟩,o3 (.pick (.tmp 48) (.tmp 50) (.const (.bool false))) 51 255]
def ydor:LO:=[mv' 8 54 0,mv' 11 55 0,ix' 1 54 55 56 3,ld' false 1 56 57 7,ln' 57 58 15,fa' 1 1 7 59 0,ld' false 1 59 60 32,ln' 60 61 96,bn' .neq 58 61 62 255,mv' 62 63 511,⟨.mv (.tmp 8),some 64,some (63,false),1023⟩,⟨.mv (.tmp 11),some 65,some (63,false),1023⟩,⟨.idx 1 (.tmp 64) (.tmp 65),some 66,some (63,false),4095⟩,⟨.load false 1 (.tmp 66),some 67,some (63,false),8191⟩,⟨.mv (.tmp 13),some 68,some (63,false),1023⟩,⟨.idx 1 (.tmp 67) (.tmp 68),some 69,some (63,false),32767⟩,⟨.load false 1 (.tmp 69),some 70,some (63,false),65535⟩,⟨.len (.tmp 70),some 71,some (63,false),131071⟩,⟨.bin .neq (.tmp 71) (ci' 1),some 72,some (63,false),262143⟩,o3 (.pick (.tmp 63) (.const (.bool true)) (.tmp 72)) 73 524287]
def ydpt:LO:=[o3 (.mv (.const (.bool false))) 6 0]
def ydrl:LO:=[mv' 8 74 0,mv' 11 75 0,ix' 1 74 75 76 3,ld' false 1 76 77 7,mv' 13 78 0,ix' 1 77 78 79 31,ld' false 1 79 80 63,o3 (.idx 1 (.tmp 80) (ci' 0)) 81 127,ld' false 1 81 82 255,ld' true 2 7 83 0,mv' 13 84 0,cl' 32 [83,84] 85 1536,mv' 82 14 4095,mv' 85 15 8191]
def ydqp:LO:=[mv' 15 86 0,mv' 12 87 0,bn' .leq 86 87 88 3,mv' 88 89 7,⟨.mv (.tmp 14),some 90,some (89,true),15⟩,⟨.mv (.tmp 15),some 91,some (89,true),15⟩,⟨.bin .neq (.tmp 90) (.tmp 91),some 92,some (89,true),63⟩,o3 (.pick (.tmp 89) (.tmp 92) (.const (.bool false))) 93 127,mv' 93 94 255,⟨.mv (.tmp 15),some 95,some (94,false),511⟩,⟨.mv (.tmp 12),some 96,some (94,false),511⟩,⟨.bin .gtr (.tmp 95) (.tmp 96),some 97,some (94,false),2047⟩,⟨.mv (.tmp 97),some 98,some (94,false),4095⟩,⟨.mv (.tmp 14),some 99,some (98,true),8191⟩,⟨.mv (.tmp 12),some 100,some (98,true),8191⟩,⟨.bin .add (.tmp 100) (ci' 1),some 101,some (98,true),24575⟩,⟨.bin .lss (.tmp 99) (.tmp 101),some 102,some (98,true),65535⟩,⟨.pick (.tmp 98) (.tmp 102) (.const (.bool false)),some 103,some (94,false),131071⟩,o3 (.pick (.tmp 94) (.const (.bool true)) (.tmp 103)) 104 262143]
def ydpk:LO:=[o3 (.mv (.const (.bool false))) 6 0]
def c4_9:LO:=[mv' 13 52 0,o3 (.bin .add (.tmp 52) (ci' 1)) 53 1,mv' 53 13 3]
def c4_5:LO:=[mv' 11 35 0,o3 (.bin .add (.tmp 35) (ci' 1)) 36 1,mv' 36 11 3]
def ydrk:LO:=[cl' 30 [] 105 0,mv' 105 106 1,⟨.mv (.tmp 10),some 107,some (106,true),3⟩,o3 (.pick (.tmp 106) (.tmp 107) (.const (.bool false))) 108 7,mv' 108 6 15]
def c4:SC:=(.seq (.reg false c4_0) (.seq (.reg false c4_1) (.seq (.reg true c4_2) (.seq (.seq (.reg false c4_3) (.block 0 (.loop (.seq (.seq (.reg false c4_4) (.cond (.tmp 34) .skip (.exit 0))) (.seq (.block 1 (.seq (.reg false c4_6) (.seq (.reg false c4_7) (.block 2 (.loop (.seq (.seq (.reg false c4_8) (.cond (.tmp 51) .skip (.exit 2))) (.seq (.block 3 (.seq (.seq (.reg true ydor) (.cond (.tmp 73) (.seq (.reg false ydpt) .ret) .skip)) (.seq (.reg true ydrl) (.seq (.reg false ydqp) (.cond (.tmp 104) (.seq (.reg false ydpk) .ret) .skip))))) (.reg false c4_9)))))))) (.reg false c4_5)))))) (.seq (.reg false ydrk) .ret)))))
def c3_0:LO:=[o3 (.box 24 (.tmp 0)) 2 0,o3 (.mv (.const (.bool false))) 4 0]
def c3_1:LO:=[ld' true 6 2 14 0,o3 (.call (.func 21) [(.tmp 14),(ci' 10)]) 15 1,o3 (.alloc 27 1 [.a (.slice none 0 0),.a (.slice none 0 0)]) 5 0,o0 (.store 2 (.tmp 5) (.tmp 15)) 7]
def c3_2:LO:=[cl' 23 [] 17 0,ld' true 2 5 18 0,ld' true 2 5 19 0,cl' 25 [] 20 1,mv' 1 21 0,cl' 24 [19,20,21] 22 29,o3 (.call (.func 26) [(.const (.slice none 0 0)),(ci' 12)]) 23 61,o3 (.call (.func 22) [(.tmp 17),(.tmp 18),(ci' 4),(.tmp 22),(.tmp 23)]) 24 127,mv' 24 16 255,xt' 16 0 25 511,xt' 16 1 26 511,xt' 16 2 27 511,mv' 25 6 1023,mv' 26 7 6143,mv' 27 8 16383]
def c3_3:LO:=[mv' 8 28 0,o3 (.un .not (.tmp 28)) 29 1]
def c3_4:LO:=[o3 (.mv (.const (.bool false))) 4 0]
def c3_5:LO:=[ld' true 2 5 30 0,mv' 6 31 0,mv' 6 32 0,ln' 32 33 4,o3 (.bin .sub (.tmp 33) (ci' 1)) 34 12,ix' 1 31 34 35 30,ld' false 1 35 36 62,cl' 27 [30,36] 37 127,mv' 37 9 255,o3 (.mv (ci' 24)) 10 511]
def c3_6:LO:=[o3 (.mv (ci' 0)) 11 0]
def c3_7:LO:=[mv' 11 38 0,fa' 1 1 5 39 0,ld' false 1 39 40 2,ln' 40 41 6,bn' .lss 38 41 42 15]
def c3_9:LO:=[mv' 10 45 0,ld' true 2 5 46 0,mv' 11 47 0,cl' 28 [46,47] 48 6,o3 (.mm false (.tmp 45) (.tmp 48)) 49 15,mv' 49 10 31]
def c3_8:LO:=[mv' 11 43 0,o3 (.bin .add (.tmp 43) (ci' 1)) 44 1,mv' 44 11 3]
def ydpm:LO:=[o3 (.mv (ci' 0)) 12 0]
def ydqs:LO:=[o3 (.mv (ci' 0)) 13 0]
def ydri:LO:=[mv' 13 50 0,fa' 1 1 5 51 0,ld' false 1 51 52 2,ln' 52 53 6,bn' .lss 50 53 54 15]
def ydqc:LO:=[mv' 9 57 0,mv' 13 58 0,cl' 29 [57,58] 59 3,ld' true 2 5 60 0,mv' 13 61 0,cl' 28 [60,61] 62 31,mv' 10 63 0,bn' .eql 62 63 64 127,o3 (.beq true (.tmp 59) (.tmp 64)) 65 255]
def ydpu:LO:=[o3 (.mv (.const (.bool false))) 4 0]
def ydqk:LO:=[mv' 9 66 0,mv' 13 67 0,cl' 29 [66,67] 68 3]
def ydps:LO:=[mv' 12 69 0,o3 (.bin .add (.tmp 69) (ci' 1)) 70 1,mv' 70 12 3]
def ydph:LO:=[mv' 13 55 0,o3 (.bin .add (.tmp 55) (ci' 1)) 56 1,mv' 56 13 3]
def ydqt:LO:=[cl' 30 [] 71 0,mv' 71 72 1,⟨.mv (.tmp 12),some 73,some (72,true),3⟩,⟨.bin .eql (.tmp 73) (ci' 1),some 74,some (72,true),7⟩,⟨.mv (.tmp 74),some 75,some (72,true),15⟩,⟨.mv (.tmp 12),some 76,some (75,false),31⟩,⟨.bin .eql (.tmp 76) (ci' 2),some 77,some (75,false),63⟩,⟨.mv (.tmp 77),some 78,some (75,false),127⟩,⟨.load true 2 (.tmp 5),some 79,some (78,true),255⟩,⟨.mv (.tmp 9),some 80,some (78,true),255⟩,⟨.call (.func 31) [(.tmp 79),(.tmp 80)],some 81,some (78,true),1023⟩,⟨.mv (.tmp 9),some 82,some (78,true),255⟩,⟨.bin .and (.tmp 81) (.tmp 82),some 83,some (78,true),4095⟩,⟨.mv (.tmp 9),some 84,some (78,true),255⟩,⟨.bin .eql (.tmp 83) (.tmp 84),some 85,some (78,true),16383⟩,⟨.pick (.tmp 78) (.tmp 85) (.const (.bool false)),some 86,some (75,false),32767⟩,⟨.pick (.tmp 75) (.const (.bool true)) (.tmp 86),some 87,some (72,true),65535⟩,o3 (.pick (.tmp 72) (.tmp 87) (.const (.bool false))) 88 131071,mv' 88 4 262143]
def c3:SC:=(.seq (.reg false c3_0) (.seq (.reg false c3_1) (.seq (.reg true c3_2) (.seq (.seq (.reg false c3_3) (.cond (.tmp 29) (.seq (.reg false c3_4) .ret) .skip)) (.seq (.reg true c3_5) (.seq (.seq (.reg false c3_6) (.block 0 (.loop (.seq (.seq (.reg false c3_7) (.cond (.tmp 42) .skip (.exit 0))) (.seq (.block 1 (.reg false c3_9)) (.reg false c3_8)))))) (.seq (.reg false ydpm) (.seq (.seq (.reg false ydqs) (.block 2 (.loop (.seq (.seq (.reg false ydri) (.cond (.tmp 54) .skip (.exit 2))) (.seq (.block 3 (.seq (.seq (.reg true ydqc) (.cond (.tmp 65) (.seq (.reg false ydpu) .ret) .skip)) (.seq (.reg false ydqk) (.cond (.tmp 68) (.reg false ydps) .skip)))) (.reg false ydph)))))) (.seq (.reg false ydqt) .ret)))))))))
def c7_0:LO:=[o3 (.box 24 (.tmp 0)) 2 0,o3 (.mv (.const (.bool false))) 4 0]
def c7_1:LO:=[ld' true 6 2 20 0,o3 (.call (.func 21) [(.tmp 20),(ci' 10)]) 21 1,o3 (.alloc 27 1 [.a (.slice none 0 0),.a (.slice none 0 0)]) 5 0,o0 (.store 2 (.tmp 5) (.tmp 21)) 7]
def c7_2:LO:=[fa' 1 1 5 22 0,ld' false 1 22 23 1,ln' 23 24 3,mv' 24 6 7]
def c7_3:LO:=[mv' 1 25 0,mv' 6 26 0,cl' 39 [25,26] 27 3,mv' 27 1 7]
def c7_4:LO:=[mv' 6 28 0,o3 (.mk 3 1 8 [.i .i64 0] (.tmp 28) (.tmp 28)) 29 1,mv' 29 7 3]
def c7_5:LO:=[o3 (.mv (ci' 0)) 8 0]
def c7_6:LO:=[mv' 8 30 0,mv' 6 31 0,bn' .lss 30 31 32 3]
def c7_8:LO:=[mv' 7 35 0,mv' 8 36 0,mv' 8 37 0,mv' 1 38 0,bn' .add 37 38 39 12,mv' 6 40 0,bn' .rem 39 40 41 60,ix' 1 35 36 42 127,o0 (.store 1 (.tmp 42) (.tmp 41)) 255]
def c7_7:LO:=[mv' 8 33 0,o3 (.bin .add (.tmp 33) (ci' 1)) 34 1,mv' 34 8 3]
def c7_9:LO:=[ld' true 2 5 44 0,mv' 7 45 0,cl' 40 [44,45] 46 3,mv' 46 43 7,xt' 43 0 47 15,xt' 43 1 48 15,o3 (.alloc 27 1 [.a (.slice none 0 0),.a (.slice none 0 0)]) 9 0,o0 (.store 2 (.tmp 9) (.tmp 47)) 95,mv' 48 10 255]
def ydpb:LO:=[cl' 23 [] 50 0,ld' true 2 5 51 0,ld' true 2 5 52 0,cl' 25 [] 53 1,o3 (.call (.func 24) [(.tmp 52),(.tmp 53),(.const (.slice none 0 0))]) 54 13,o3 (.call (.func 26) [(.const (.slice none 0 0)),(ci' 12)]) 55 29,o3 (.call (.func 22) [(.tmp 50),(.tmp 51),(ci' 4),(.tmp 54),(.tmp 55)]) 56 63,mv' 56 49 127,xt' 49 0 57 255,xt' 49 1 58 255,xt' 49 2 59 255,mv' 57 11 511,mv' 58 12 3071,mv' 59 13 8191]
def ydop:LO:=[cl' 23 [] 61 0,ld' true 2 9 62 0,ld' true 2 9 63 0,cl' 25 [] 64 1,o3 (.call (.func 24) [(.tmp 63),(.tmp 64),(.const (.slice none 0 0))]) 65 13,o3 (.call (.func 26) [(.const (.slice none 0 0)),(ci' 12)]) 66 29,o3 (.call (.func 22) [(.tmp 61),(.tmp 62),(ci' 4),(.tmp 65),(.tmp 66)]) 67 63,mv' 67 60 127,xt' 60 0 68 255,xt' 60 1 69 255,xt' 60 2 70 255,mv' 68 14 511,mv' 69 15 3071,mv' 70 16 8191]
def ydoz:LO:=[mv' 10 71 0,o3 (.bin .neq (.tmp 71) (ci' 0)) 72 1,mv' 72 73 3,⟨.mv (.tmp 13),some 74,some (73,false),7⟩,⟨.un .not (.tmp 74),some 75,some (73,false),15⟩,o3 (.pick (.tmp 73) (.const (.bool true)) (.tmp 75)) 76 31,mv' 76 77 63,⟨.mv (.tmp 16),some 78,some (77,false),127⟩,⟨.un .not (.tmp 78),some 79,some (77,false),255⟩,o3 (.pick (.tmp 77) (.const (.bool true)) (.tmp 79)) 80 511]
def ydpp:LO:=[o3 (.mv (.const (.bool false))) 4 0]
def ydpg:LO:=[ld' true 2 5 81 0,mv' 11 82 0,mv' 11 83 0,ln' 83 84 4,o3 (.bin .sub (.tmp 84) (ci' 1)) 85 12,ix' 1 82 85 86 30,ld' false 1 86 87 62,cl' 27 [81,87] 88 127,ld' true 2 9 89 0,mv' 14 90 0,mv' 14 91 0,ln' 91 92 1024,o3 (.bin .sub (.tmp 92) (ci' 1)) 93 3072,ix' 1 90 93 94 7680,ld' false 1 94 95 15872,cl' 27 [89,95] 96 32767,mv' 88 17 65535,mv' 96 18 131071]
def ydpw:LO:=[o3 (.mv (ci' 0)) 19 0]
def ydqw:LO:=[mv' 19 97 0,mv' 6 98 0,bn' .lss 97 98 99 3]
def ydpi:LO:=[mv' 17 102 0,mv' 19 103 0,cl' 29 [102,103] 104 3,mv' 18 105 0,mv' 7 106 0,mv' 19 107 0,ix' 1 106 107 108 48,ld' false 1 108 109 112,cl' 29 [105,109] 110 255,o3 (.beq true (.tmp 104) (.tmp 110)) 111 511]
def ydqi:LO:=[o3 (.mv (.const (.bool false))) 4 0]
def ydrj:LO:=[mv' 19 100 0,o3 (.bin .add (.tmp 100) (ci' 1)) 101 1,mv' 101 19 3]
def ydpl:LO:=[cl' 30 [] 112 0,mv' 112 113 1,⟨.mv (.tmp 17),some 114,some (113,true),3⟩,⟨.bin .neq (.tmp 114) (.const (.int .u32 0)),some 115,some (113,true),7⟩,o3 (.pick (.tmp 113) (.tmp 115) (.const (.bool false))) 116 15,mv' 116 4 31]
def c7:SC:=(.seq (.reg false c7_0) (.seq (.reg false c7_1) (.seq (.reg false c7_2) (.seq (.reg false c7_3) (.seq (.reg false c7_4) (.seq (.seq (.reg false c7_5) (.block 0 (.loop (.seq (.seq (.reg false c7_6) (.cond (.tmp 32) .skip (.exit 0))) (.seq (.block 1 (.reg false c7_8)) (.reg false c7_7)))))) (.seq (.reg false c7_9) (.seq (.reg true ydpb) (.seq (.reg true ydop) (.seq (.seq (.reg false ydoz) (.cond (.tmp 80) (.seq (.reg false ydpp) .ret) .skip)) (.seq (.reg true ydpg) (.seq (.seq (.reg false ydpw) (.block 2 (.loop (.seq (.seq (.reg false ydqw) (.cond (.tmp 99) .skip (.exit 2))) (.seq (.block 3 (.seq (.reg true ydpi) (.cond (.tmp 111) (.seq (.reg false ydqi) .ret) .skip))) (.reg false ydrj)))))) (.seq (.reg false ydpl) .ret)))))))))))))
end Sh
end
section
namespace Sh
open Ev Go.RowKit
end Sh
end
section
def ygb(g:Gr)(c:Conf):Bool:=yec g&&yrh g.ports.length (ydt g [-1]) c
def mtW(g:Gr)(c:Conf)(v:Nat):Int:=(Sh.towP g c 0).getD v 0
def ybix(g:Gr)(c:Conf):Bool:=(zW c.length).all fun v=>!(decide (mtW g c v>=0)&&(mtW g c (mtW g c v).toNat != (v:Int)))
def ybit(g:Gr)(c:Conf):Bool:=(Ev.flatAt 0 g.ports).all fun e=>!(decide (mtW g c e.v<0)&&decide (mtW g c e.a.toNat<0))
def yhi(g:Gr)(c:Conf):Bool:=ygb g c&&(ybix g c&&ybit g c)
theorem yml{g:Gr}{c:Conf}(h:ygb g c=true):yw g/\c.length=g.ports.length/\∀v,v<c.length->(c.getD v []).length=1 /\ -1<=(c.getD v []).getD 0 0/\(c.getD v []).getD 0 0<((g.ports.getD v []).length:Int):=by
 unfold ygb at h;rw[zC]at h;have hck:=(yfc _ _ _).1 h.2;refine⟨(yfn g).1 h.1,hck.1,fun v hv=>?_⟩;have h2:=hck.2 v _ (zQ hv);have e:c[v]=c.getD v []:=by rw[Sh.getD_at hv]
 rw[e]at h2;have hl:(c.getD v []).length=1:=by simpa[ydt]using h2.1
 have h3:=h2.2 0 (-1,(ybcg g v:Int)-1) ((c.getD v []).getD 0 0) (by simp[ydt]) (by rw[Sh.getD_at (show 0<(c.getD v []).length by omega)];exact zQ _)
 unfold ybcg at h3;simp only at h3;omega
theorem ybtb{g:Gr}{c:Conf}(h:ygb g c=true):MtC g c:=by
 obtain⟨hg,h1,h2⟩:=yml h;have hpl:=hg.2.2.1;refine⟨by omega,fun v hv=>?_⟩
 obtain⟨a,b,d⟩:=h2 v (by omega)
 exact⟨a,b,d⟩
theorem ysn{g:Gr}(hg:yw g){c:Conf}(h:MtC g c){v:Nat}(hv:v<g.ids.length):mtW g c v=mtT g c v:=by
 have hpl:=hg.2.2.1;obtain⟨h1,h2⟩:=ybqv hg h hv;have hr:=(h.row v hv).2;have hat:mtW g c v=if pAt c v>=0 then((g.ports.getD v []).getD (pAt c v).toNat (0,0)).1 else -1:=Sh.ybfs (by rw[h.len];exact hv)
 rw[hat]
 by_cases q:0<=pAt c v
 ·have hk:(pAt c v).toNat<(g.ports.getD v []).length:=by omega
  have e:toP g c v=some ((g.ports.getD v []).getD (pAt c v).toNat (0,0)).1.toNat:=by unfold toP;rw[if_pos ⟨by omega,q⟩]
  rw[if_pos q,h1 _ e];have hm:=(ycg hg (show v<g.ports.length by omega) (zT hk)).1
  rw[Sh.getD_at hk];omega
 ·rw[if_neg (by omega),h2 ((ysb hg h hv).2 (by omega))]
section
variable {nm np na nb nw:ByteArray}{g:Gr}
theorem ybpz(hg:yw g){c:Conf}(hv:yga (ybt nm np na nb nw) g c=true):ygb g c=true:=by
 have hC:=yin hv;have hpl:=hg.2.2.1;unfold ygb;rw[(yfn g).2 hg,zI,yfc];refine⟨by rw[hC.len,hpl],fun v s hs=>?_⟩
 obtain⟨hvl,e⟩:=List.getElem?_eq_some_iff.1 hs;have e:c.getD v []=s:=by simp[zAK,hs]
 obtain⟨h1,h2,h3⟩:=hC.row v (by rw[<-hC.len];exact hvl)
 unfold pAt at h2 h3;rw[e]at h1 h2 h3;have eb:ydt g [-1] v=[(-1,(ybcg g v:Int)-1)]:=by simp[ydt]
 rw[eb];refine⟨h1,fun i b x hb hx=>?_⟩;have hi:=(List.getElem?_eq_some_iff.1 hb).1;have hi:i<1:=by simpa using hi
 obtain rfl:i=0:=by omega
 have hb:some (-1,(ybcg g v:Int)-1)=some b:=hb;cases hb
 have e2:s.getD 0 0=x:=by simp[zAK,hx]
 rw[e2]at h2 h3;unfold ybcg;exact⟨h2,by omega⟩
theorem yzf{c:Conf}(hq:ygb g c=true):yhi g c=true↔yyl g c:=by
 obtain⟨hg,hl,_⟩:=yml hq;have hC:=ybtb hq;have hpl:=hg.2.2.1;have eW:=fun v hv=>ysn hg hC (v:=v) hv;unfold yhi ybix ybit;rw[hq,zI,zC,zU,zU,<-ycfd hg hC]
 have inn:∀v,v<g.ids.length->0<=mtT g c v->(mtT g c v).toNat<g.ids.length:=fun v hv h0=>by
  have e:mtT g c v=((mtT g c v).toNat:Int):=by omega
  have:=(hg.adj_lt (yka hg hC ((yew hg hC hv).1 e))).2;omega
 refine and_congr ?_ ?_
 ·constructor
  ·intro h v hv h0;have:=h v (List.mem_range.2 (by omega))
   rw[eW v hv,eW _ (inn v hv h0),decide_eq_true h0,zI,zK,bne_eq_false_iff_eq]at this;exact this
  ·intro h v hv;have hv:=List.mem_range.1 hv;rw[eW v (by omega),zK,zV]
   by_cases h0:0<=mtT g c v
   ·right
    rw[eW _ (inn v (by omega) h0),bne_eq_false_iff_eq]
    exact h v (by omega) h0
   ·exact .inl (decide_eq_false h0)
 ·constructor
  ·intro h v l hv hlm ⟨q1,q2⟩;have hm:=ycdh (ps:=g.ports) (v:=v) (l:=l) (by omega) hlm
   have:=h _ hm;have hu:=(ycg hg (show v<g.ports.length by omega) hlm).2.1
   simp only at this;rw[eW v hv,eW l.1.toNat (by omega),decide_eq_true q1,decide_eq_true q2]at this
   cases this
  ·intro h e he;obtain⟨k,hk,rfl⟩:=zZ he;obtain⟨h1,h2⟩:=ybcn hg hk;have e0:Sh.ydc g.ports k=(Ev.flatAt 0 g.ports)[k]:=by unfold Sh.ydc;rw[Sh.getD_at hk]
   rw[e0]at h1 h2;have hu:((Ev.flatAt 0 g.ports)[k]).a.toNat<g.ports.length:=(ycg hg h1 h2).2.1;have hn:=h _ _ (show _<g.ids.length by omega) h2
   rw[eW _ (by omega),eW _ (by omega),zK,zV]
   by_cases q:mtT g c ((Ev.flatAt 0 g.ports)[k]).v<0
   ·exact .inr (decide_eq_false fun q2=>hn ⟨q,q2⟩)
   ·exact .inl (decide_eq_false q)
end
end
section
namespace Sh
open Go Ev
def ydhn:LO:=[o3 (.mv (.const (.string (ByteArray.mk #[])))) 0 0]
def ydmk:LO:=[o3 (.mv (.const (.string (ByteArray.mk #[112,114,111,103,114,97,109,32,109,97,116,99,104,105,110,103,59,10,118,97,114,32,112,32,58,32,112,111,114,116,59,10,114,117,108,101,32,97,99,99,101,112,116,58,32,112,32,61,61,32,110,111,110,101,32,38,38,32,115,111,109,101,40,113,46,112,32,61,61,32,113,46,98,97,99,107,41,32,45,62,32,112,32,58,61,32,102,105,114,115,116,40,113,46,112,32,61,61,32,113,46,98,97,99,107,41,59,10,114,117,108,101,32,112,114,111,112,111,115,101,58,32,112,32,61,61,32,110,111,110,101,32,38,38,32,115,111,109,101,40,113,46,112,32,61,61,32,110,111,110,101,41,32,45,62,32,112,32,58,61,32,102,105,114,115,116,40,113,46,112,32,61,61,32,110,111,110,101,41,59,10,114,117,108,101,32,119,105,116,104,100,114,97,119,58,32,115,111,109,101,40,113,32,61,61,32,112,32,38,38,32,113,46,112,32,33,61,32,110,111,110,101,32,38,38,32,113,46,112,32,33,61,32,113,46,98,97,99,107,41,32,45,62,32,112,32,58,61,32,110,111,110,101,59,10])))) 0 0]
def c59:SC:=(.seq (.reg false ydhn) (.seq (.reg false ydmk) .ret))
theorem ydon:Fn 59 c59 [.t 0]:=fn_0 Tryz.func59 (by kernel_rfl) (by kernel_rfl)
def yckj:LO:=[o3 (.box 27 (.tmp 0)) 1 0,o3 (.mv (.const (.bool false))) 2 0]
def ycrf:LO:=[ld' true 2 1 3 0,cl' 96 [3] 4 1,mv' 4 2 3]
def c121:SC:=(.seq (.reg false yckj) (.seq (.reg false ycrf) .ret))
theorem ydek:Fn 121 c121 [.t 2]:=fn_0 Tryz.func121 (by kernel_rfl) (by kernel_rfl)
def ycan:LO:=[o3 (.box 27 (.tmp 0)) 2 0,o3 (.mv (.const (.bool false))) 4 0]
def ybvp:LO:=[ld' true 2 2 5 0,cl' 121 [5] 6 1,mv' 6 7 3,⟨.load true 2 (.tmp 2),some 8,some (7,true),7⟩,⟨.mv (.tmp 1),some 9,some (7,true),7⟩,⟨.bslice 3 1 1 [.i .i64 0] [(0,1,(.const (.int .i64 (-1))))],some 10,some (7,true),7⟩,⟨.call (.func 102) [(.tmp 8),(.tmp 9),(.tmp 10)],some 11,some (7,true),63⟩,o3 (.pick (.tmp 7) (.tmp 11) (.const (.bool false))) 12 127,mv' 12 4 255]
def c117:SC:=(.seq (.reg false ycan) (.seq (.reg false ybvp) .ret))
theorem ydbq:Fn 117 c117 [.t 4]:=fn_0 Tryz.func117 (by kernel_rfl) (by kernel_rfl)
def ydak:LO:=[o3 (.box 27 (.tmp 0)) 2 0,o3 (.alloc 4 1 [.b false]) 4 0]
def yczk:LO:=[ld' true 2 2 10 0,mv' 1 11 0,cl' 117 [10,11] 12 3,o3 (.un .not (.tmp 12)) 13 7]
def ydju:LO:=[o0 (.store 1 (.tmp 4) (.const (.bool false))) 0]
def ydgl:LO:=[ld' true 2 2 14 0,mv' 1 15 0,o3 (.call (.func 118) [(.tmp 14),(.tmp 15),(ci' 0)]) 16 3,o3 (.alloc 22 1 [.a (.slice none 0 0)]) 5 0,o0 (.store 1 (.tmp 5) (.tmp 16)) 15]
def ydkm:LO:=[ld' false 1 5 17 0,ln' 17 18 1,o3 (.mv (ci' 0)) 19 0]
def ycar:LO:=[bn' .lss 19 18 20 0]
def ycgv:LO:=[mv' 19 21 0,ix' 1 17 19 22 0,ld' false 1 22 23 2,mv' 21 6 7,mv' 23 7 15]
def yccr:LO:=[mv' 7 24 0,o3 (.bin .geq (.tmp 24) (ci' 0)) 25 1,mv' 25 26 3,⟨.load false 1 (.tmp 5),some 27,some (26,true),7⟩,⟨.mv (.tmp 7),some 28,some (26,true),7⟩,⟨.idx 1 (.tmp 27) (.tmp 28),some 29,some (26,true),31⟩,⟨.load false 1 (.tmp 29),some 30,some (26,true),63⟩,⟨.mv (.tmp 6),some 31,some (26,true),7⟩,⟨.bin .neq (.tmp 30) (.tmp 31),some 32,some (26,true),255⟩,o3 (.pick (.tmp 26) (.tmp 32) (.const (.bool false))) 33 511]
def ydfq:LO:=[o0 (.store 1 (.tmp 4) (.const (.bool false))) 0]
def ydar:LO:=[o3 (.bin .add (.tmp 19) (ci' 1)) 34 0,mv' 34 19 1]
def ycmp:LO:=[ld' true 2 2 35 0,cl' 120 [35] 36 1]
def ybld:LO:=[mv' 37 8 0]
def ybkb:LO:=[o3 (.alloc 95 1 [.i .i64 0,.i .i64 0]) 9 0,o0 (.store 2 (.tmp 9) (.tmp 38)) 1]
def ybkg:LO:=[ld' false 1 5 39 0,mv' 8 40 0,ix' 1 39 40 41 3,ld' false 1 41 42 7,o3 (.bin .lss (.tmp 42) (ci' 0)) 43 15,mv' 43 44 31,⟨.load false 1 (.tmp 5),some 45,some (44,true),63⟩,⟨.faddr 0 1 (.tmp 9),some 46,some (44,true),63⟩,⟨.load false 1 (.tmp 46),some 47,some (44,true),191⟩,⟨.idx 1 (.tmp 45) (.tmp 47),some 48,some (44,true),511⟩,⟨.load false 1 (.tmp 48),some 49,some (44,true),1023⟩,⟨.bin .lss (.tmp 49) (ci' 0),some 50,some (44,true),2047⟩,o3 (.pick (.tmp 44) (.tmp 50) (.const (.bool false))) 51 4095]
def ycxc:LO:=[o0 (.store 1 (.tmp 4) (.const (.bool false))) 0]
def ycwn:LO:=[o0 (.store 1 (.tmp 4) (.const (.bool true))) 0]
def c65:SC:=(.seq (.reg false ydak) (.seq (.seq (.reg false yczk) (.cond (.tmp 13) (.seq (.reg false ydju) .ret) .skip)) (.seq (.reg false ydgl) (.seq (.seq (.reg false ydkm) (.block 0 (.loop (.seq (.reg false ycar) (.seq (.cond (.tmp 20) .skip (.exit 0)) (.seq (.block 1 (.seq (.reg false ycgv) (.seq (.reg false yccr) (.cond (.tmp 33) (.seq (.reg false ydfq) .ret) .skip)))) (.reg false ydar))))))) (.seq (.seq (.reg false ycmp) (.block 2 (.range (.tmp 36) [37,38] (.seq (.reg false ybld) (.reg false ybkb)) (.block 3 (.seq (.reg false ybkg) (.cond (.tmp 51) (.seq (.reg false ycxc) .ret) .skip)))))) (.seq (.reg false ycwn) .ret))))))
theorem ydhv:Fn 65 c65 [.c 4 false 1]:=fn_0 Tryz.func65 (by kernel_rfl) (by kernel_rfl)
def yczl:LO:=[o3 (.box 27 (.tmp 0)) 2 0,o3 (.mv (.const (.slice none 0 0))) 4 0]
def yden:LO:=[ld' true 2 2 9 0,mv' 1 10 0,cl' 117 [9,10] 11 3,o3 (.un .not (.tmp 11)) 12 7]
def ydmn:LO:=[o3 (.mv (.const (.slice none 0 0))) 4 0]
def ydjg:LO:=[ld' true 2 2 13 0,mv' 1 14 0,o3 (.call (.func 118) [(.tmp 13),(.tmp 14),(ci' 0)]) 15 3,mv' 15 5 7]
def ydlz:LO:=[o3 (.mv (.const (.slice none 0 0))) 6 0]
def ydhk:LO:=[mv' 5 16 0,ln' 16 17 1,o3 (.mv (ci' 0)) 18 0]
def ybti:LO:=[bn' .lss 18 17 19 0]
def ycdd:LO:=[mv' 18 20 0,ix' 1 16 18 21 0,ld' false 1 21 22 2,mv' 20 7 7,mv' 22 8 15]
def ycha:LO:=[mv' 8 23 0,mv' 7 24 0,bn' .gtr 23 24 25 3,mv' 25 26 7,⟨.mv (.tmp 5),some 27,some (26,true),15⟩,⟨.mv (.tmp 8),some 28,some (26,true),15⟩,⟨.idx 1 (.tmp 27) (.tmp 28),some 29,some (26,true),63⟩,⟨.load false 1 (.tmp 29),some 30,some (26,true),127⟩,⟨.mv (.tmp 7),some 31,some (26,true),15⟩,⟨.bin .eql (.tmp 30) (.tmp 31),some 32,some (26,true),511⟩,o3 (.pick (.tmp 26) (.tmp 32) (.const (.bool false))) 33 1023]
def ydga:LO:=[mv' 6 34 0,mv' 7 35 0,mv' 8 36 0,o3 (.build [.i .i64 0,.i .i64 0] [(0,1,(.tmp 35)),(1,1,(.tmp 36))]) 37 6,o3 (.bslice 75 2 1 [.i .i64 0,.i .i64 0] [(0,2,(.tmp 37))]) 38 14,o3 (.app 75 2 16 (.tmp 34) (.tmp 38)) 39 31,mv' 39 6 63]
def ybma:LO:=[o3 (.bin .add (.tmp 18) (ci' 1)) 40 0,mv' 40 18 1]
def ycij:LO:=[mv' 6 41 0,mv' 41 4 1]
def c61:SC:=(.seq (.reg false yczl) (.seq (.seq (.reg false yden) (.cond (.tmp 12) (.seq (.reg false ydmn) .ret) .skip)) (.seq (.reg false ydjg) (.seq (.reg false ydlz) (.seq (.seq (.reg false ydhk) (.block 0 (.loop (.seq (.reg false ybti) (.seq (.cond (.tmp 19) .skip (.exit 0)) (.seq (.block 1 (.seq (.reg false ycdd) (.seq (.reg false ycha) (.cond (.tmp 33) (.reg false ydga) .skip)))) (.reg false ybma))))))) (.seq (.reg false ycij) .ret))))))
theorem ydks:Fn 61 c61 [.t 4]:=fn_0 Tryz.func61 (by kernel_rfl) (by kernel_rfl)
def ydke:LO:=[o3 (.mv (.const (.slice none 0 0))) 0 0]
def ydiy:LO:=[o3 (.call (.func 116) [(.const (.string (ByteArray.mk #[112])))]) 1 0,o3 (.bslice 87 6 1 [.a (.string (ByteArray.mk #[])),.i .i64 0,.i .i64 0,.i .i64 0,.i .i64 0,.i .i64 0] [(0,6,(.tmp 1))]) 2 1,mv' 2 0 3]
def c60:SC:=(.seq (.reg false ydke) (.seq (.reg false ydiy) .ret))
theorem ydhd:Fn 60 c60 [.t 0]:=fn_0 Tryz.func60 (by kernel_rfl) (by kernel_rfl)
def ydns:LO:=[o3 (.box 24 (.tmp 0)) 3 0,o3 (.mv (.const (.bool false))) 6 0]
def ydif:LO:=[ld' true 6 3 18 0,o3 (.call (.func 48) [(.tmp 18),(ci' 8)]) 19 1,o3 (.alloc 27 1 [.a (.slice none 0 0),.a (.slice none 0 0)]) 7 0,o0 (.store 2 (.tmp 7) (.tmp 19)) 7]
def ydmb:LO:=[cl' 59 [] 21 0,ld' true 2 7 22 0,ld' true 2 7 23 0,cl' 60 [] 24 1,mv' 1 25 0,cl' 24 [23,24,25] 26 29,mv' 2 27 0,o3 (.call (.func 26) [(.tmp 27),(ci' 100)]) 28 125,o3 (.call (.func 22) [(.tmp 21),(.tmp 22),(ci' 2),(.tmp 26),(.tmp 28)]) 29 255,mv' 29 20 511,xt' 20 0 30 1023,xt' 20 1 31 1023,xt' 20 2 32 1023,mv' 30 8 2047,mv' 31 9 12287,mv' 32 10 32767]
def ydgq:LO:=[mv' 10 33 0,o3 (.un .not (.tmp 33)) 34 1]
def ydou:LO:=[o3 (.mv (.const (.bool false))) 6 0]
def ydkl:LO:=[mv' 8 35 0,mv' 8 36 0,ln' 36 37 2,o3 (.bin .sub (.tmp 37) (ci' 1)) 38 6,ix' 1 35 38 39 15,ld' false 1 39 40 31,mv' 40 11 63]
def ydhb:LO:=[o3 (.mv (.const (.int .u32 0))) 12 0]
def ydne:LO:=[ld' true 2 7 41 0,mv' 11 42 0,cl' 61 [41,42] 43 3,mv' 43 13 7]
def ydnd:LO:=[o3 (.mv (ci' 0)) 14 0]
def ycyh:LO:=[mv' 14 44 0,mv' 13 45 0,ln' 45 46 2,bn' .lss 44 46 47 7]
def ycrt:LO:=[mv' 13 50 0,mv' 14 51 0,ix' 2 50 51 52 3,o3 (.idxA 2 1 (.tmp 52) (ci' 0)) 53 7,ld' false 1 53 54 15,mv' 13 55 0,mv' 14 56 0,ix' 2 55 56 57 96,o3 (.idxA 2 1 (.tmp 57) (ci' 1)) 58 224,ld' false 1 58 59 480,mv' 54 15 31,mv' 59 16 2047]
def ycjz:LO:=[mv' 15 60 0,o3 (.bin .lss (.tmp 60) (ci' 0)) 61 1,mv' 61 62 3,⟨.mv (.tmp 16),some 63,some (62,false),7⟩,⟨.faddr 1 1 (.tmp 7),some 64,some (62,false),7⟩,⟨.load false 1 (.tmp 64),some 65,some (62,false),23⟩,⟨.len (.tmp 65),some 66,some (62,false),55⟩,⟨.bin .geq (.tmp 63) (.tmp 66),some 67,some (62,false),127⟩,o3 (.pick (.tmp 62) (.const (.bool true)) (.tmp 67)) 68 255,mv' 68 69 511,⟨.mv (.tmp 15),some 70,some (69,false),1023⟩,⟨.mv (.tmp 16),some 71,some (69,false),1023⟩,⟨.bin .geq (.tmp 70) (.tmp 71),some 72,some (69,false),4095⟩,o3 (.pick (.tmp 69) (.const (.bool true)) (.tmp 72)) 73 8191,mv' 73 74 16383,⟨.load true 2 (.tmp 7),some 75,some (74,false),32767⟩,⟨.mv (.tmp 15),some 76,some (74,false),32767⟩,⟨.mv (.tmp 16),some 77,some (74,false),32767⟩,⟨.call (.func 62) [(.tmp 75),(.tmp 76),(.tmp 77)],some 78,some (74,false),262143⟩,⟨.bin .lss (.tmp 78) (ci' 0),some 79,some (74,false),524287⟩,o3 (.pick (.tmp 74) (.const (.bool true)) (.tmp 79)) 80 1048575,mv' 80 81 2097151,⟨.mv (.tmp 12),some 82,some (81,false),4194303⟩,⟨.mv (.tmp 15),some 83,some (81,false),4194303⟩,⟨.call (.func 55) [(.tmp 82),(.tmp 83)],some 84,some (81,false),16777215⟩,o3 (.pick (.tmp 81) (.const (.bool true)) (.tmp 84)) 85 33554431,mv' 85 86 67108863,⟨.mv (.tmp 12),some 87,some (86,false),134217727⟩,⟨.mv (.tmp 16),some 88,some (86,false),134217727⟩,⟨.call (.func 55) [(.tmp 87),(.tmp 88)],some 89,some (86,false),536870911⟩,o3 (.pick (.tmp 86) (.const (.bool true)) (.tmp 89)) 90 1073741823]
def ydfy:LO:=[o3 (.mv (.const (.bool false))) 6 0]
def ycsc:LO:=[mv' 12 91 0,mv' 15 92 0,o3 (.conv .u64 (.tmp 92)) 93 2,o3 (.bin .shl (.const (.int .u32 1)) (.tmp 93)) 94 6,mv' 16 95 0,o3 (.conv .u64 (.tmp 95)) 96 16,o3 (.bin .shl (.const (.int .u32 1)) (.tmp 96)) 97 48,bn' .or 94 97 98 126,bn' .or 91 98 99 255,mv' 99 12 511]
def yclf:LO:=[mv' 14 48 0,o3 (.bin .add (.tmp 48) (ci' 1)) 49 1,mv' 49 14 3]
def ycta:LO:=[fa' 1 1 7 100 0,ld' false 1 100 101 1,ln' 101 102 3,cl' 63 [102] 103 7,mv' 12 104 0,bn' .andNot 103 104 105 31,mv' 105 17 63]
def ycsd:LO:=[cl' 64 [] 106 0,mv' 106 107 1,⟨.load true 2 (.tmp 7),some 108,some (107,true),3⟩,⟨.mv (.tmp 11),some 109,some (107,true),3⟩,⟨.call (.func 65) [(.tmp 108),(.tmp 109)],some 110,some (107,true),15⟩,⟨.un .not (.tmp 110),some 111,some (107,true),31⟩,⟨.mv (.tmp 111),some 112,some (107,true),63⟩,⟨.load true 2 (.tmp 7),some 113,some (112,false),127⟩,⟨.mv (.tmp 17),some 114,some (112,false),127⟩,⟨.call (.func 66) [(.tmp 113),(.tmp 114)],some 115,some (112,false),511⟩,⟨.pick (.tmp 112) (.const (.bool true)) (.tmp 115),some 116,some (107,true),1023⟩,o3 (.pick (.tmp 107) (.tmp 116) (.const (.bool false))) 117 2047,mv' 117 6 4095]
def c15:SC:=(.seq (.reg false ydns) (.seq (.reg false ydif) (.seq (.reg true ydmb) (.seq (.seq (.reg false ydgq) (.cond (.tmp 34) (.seq (.reg false ydou) .ret) .skip)) (.seq (.reg false ydkl) (.seq (.reg false ydhb) (.seq (.reg false ydne) (.seq (.seq (.reg false ydnd) (.block 0 (.loop (.seq (.seq (.reg false ycyh) (.cond (.tmp 47) .skip (.exit 0))) (.seq (.block 1 (.seq (.reg true ycrt) (.seq (.seq (.reg false ycjz) (.cond (.tmp 90) (.seq (.reg false ydfy) .ret) .skip)) (.reg false ycsc)))) (.reg false yclf)))))) (.seq (.reg false ycta) (.seq (.reg false ycsd) .ret))))))))))
theorem ydjv:Fn 15 c15 [.t 6]:=fn_0 Tryz.func15 (by kernel_rfl) (by kernel_rfl)
def ydkh:LO:=[o3 (.box 24 (.tmp 0)) 3 0,o3 (.mv (.const (.bool false))) 6 0]
def ydlf:LO:=[ld' true 6 3 17 0,o3 (.call (.func 48) [(.tmp 17),(ci' 8)]) 18 1,o3 (.alloc 27 1 [.a (.slice none 0 0),.a (.slice none 0 0)]) 7 0,o0 (.store 2 (.tmp 7) (.tmp 18)) 7]
def ydjp:LO:=[cl' 59 [] 20 0,ld' true 2 7 21 0,ld' true 2 7 22 0,cl' 60 [] 23 1,mv' 1 24 0,cl' 24 [22,23,24] 25 29,mv' 2 26 0,o3 (.call (.func 26) [(.tmp 26),(ci' 60)]) 27 125,o3 (.call (.func 22) [(.tmp 20),(.tmp 21),(ci' 2),(.tmp 25),(.tmp 27)]) 28 255,mv' 28 19 511,xt' 19 0 29 1023,xt' 19 1 30 1023,xt' 19 2 31 1023,mv' 29 8 2047,mv' 30 9 12287,mv' 31 10 32767]
def ydis:LO:=[o3 (.mv (ci' 0)) 11 0]
def ydfg:LO:=[mv' 11 32 0,o3 (.bin .add (.tmp 32) (ci' 1)) 33 1,mv' 8 34 0,ln' 34 35 4,bn' .lss 33 35 36 15]
def ydgr:LO:=[ld' true 2 7 39 0,mv' 8 40 0,mv' 11 41 0,ix' 1 40 41 42 6,ld' false 1 42 43 14,cl' 61 [39,43] 44 31,ld' true 2 7 45 0,mv' 8 46 0,mv' 11 47 0,o3 (.bin .add (.tmp 47) (ci' 1)) 48 256,ix' 1 46 48 49 896,ld' false 1 49 50 1920,cl' 61 [45,50] 51 4095,mv' 44 12 8191,mv' 51 13 16383]
def ydlr:LO:=[o3 (.mv (ci' 0)) 14 0]
def yddc:LO:=[mv' 14 52 0,mv' 12 53 0,ln' 53 54 2,bn' .lss 52 54 55 7]
def yctu:LO:=[o3 (.mv (.const (.bool false))) 15 0]
def ycuf:LO:=[o3 (.mv (ci' 0)) 16 0]
def yblk:LO:=[mv' 16 58 0,mv' 13 59 0,ln' 59 60 2,bn' .lss 58 60 61 7]
def ybuj:LO:=[mv' 15 64 0,mv' 64 65 1,⟨.mv (.tmp 12),some 66,some (65,false),3⟩,⟨.mv (.tmp 14),some 67,some (65,false),3⟩,⟨.idx 2 (.tmp 66) (.tmp 67),some 68,some (65,false),15⟩,⟨.load true 2 (.tmp 68),some 69,some (65,false),31⟩,⟨.mv (.tmp 13),some 70,some (65,false),3⟩,⟨.mv (.tmp 16),some 71,some (65,false),3⟩,⟨.idx 2 (.tmp 70) (.tmp 71),some 72,some (65,false),195⟩,⟨.load true 2 (.tmp 72),some 73,some (65,false),451⟩,⟨.seq false [false,false] (.tmp 69) (.tmp 73),some 74,some (65,false),1023⟩,o3 (.pick (.tmp 65) (.const (.bool true)) (.tmp 74)) 75 2047,mv' 75 15 4095]
def ybsf:LO:=[mv' 16 62 0,o3 (.bin .add (.tmp 62) (ci' 1)) 63 1,mv' 63 16 3]
def ycut:LO:=[mv' 15 76 0,o3 (.un .not (.tmp 76)) 77 1]
def ydgi:LO:=[o3 (.mv (.const (.bool false))) 6 0]
def ydil:LO:=[mv' 14 56 0,o3 (.bin .add (.tmp 56) (ci' 1)) 57 1,mv' 57 14 3]
def ydof:LO:=[mv' 11 37 0,o3 (.bin .add (.tmp 37) (ci' 1)) 38 1,mv' 38 11 3]
def ycjp:LO:=[cl' 64 [] 78 0,mv' 78 79 1,⟨.mv (.tmp 10),some 80,some (79,true),3⟩,o3 (.pick (.tmp 79) (.tmp 80) (.const (.bool false))) 81 7,mv' 81 6 15]
def c16:SC:=(.seq (.reg false ydkh) (.seq (.reg false ydlf) (.seq (.reg true ydjp) (.seq (.seq (.reg false ydis) (.block 0 (.loop (.seq (.seq (.reg false ydfg) (.cond (.tmp 36) .skip (.exit 0))) (.seq (.block 1 (.seq (.reg true ydgr) (.seq (.reg false ydlr) (.block 2 (.loop (.seq (.seq (.reg false yddc) (.cond (.tmp 55) .skip (.exit 2))) (.seq (.block 3 (.seq (.reg false yctu) (.seq (.seq (.reg false ycuf) (.block 4 (.loop (.seq (.seq (.reg false yblk) (.cond (.tmp 61) .skip (.exit 4))) (.seq (.block 5 (.reg true ybuj)) (.reg false ybsf)))))) (.seq (.reg false ycut) (.cond (.tmp 77) (.seq (.reg false ydgi) .ret) .skip))))) (.reg false ydil)))))))) (.reg false ydof)))))) (.seq (.reg false ycjp) .ret)))))
theorem ydml:Fn 16 c16 [.t 6]:=fn_0 Tryz.func16 (by kernel_rfl) (by kernel_rfl)
end Sh
end
section
theorem ybri{g:Gr}(hg:yw g){c:Conf}(h:MtC g c){v:Nat}(hv:v<g.ids.length):-1<=mtW g c v/\mtW g c v<(g.ports.length:Int):=by
 have hpl:=hg.2.2.1;have hr:=(h.row v hv).2;have hat:mtW g c v=if pAt c v>=0 then((g.ports.getD v []).getD (pAt c v).toNat (0,0)).1 else -1:=Sh.ybfs (by rw[h.len];exact hv)
 rw[hat];have h1:=hg.1;split
 ·have hk:(pAt c v).toNat<(g.ports.getD v []).length:=by omega
  have hm:=ycg hg (show v<g.ports.length by omega) (zT hk)
  rw[Sh.getD_at hk];omega
 ·omega
def mtPB(g:Gr)(c:Conf)(v:Nat):Bool:=decide (mtW g c v>(v:Int))&&(mtW g c (mtW g c v).toNat==(v:Int))
def ybv(g:Gr)(c:Conf)(k:Nat):List (Int×Int):=((zW k).filter (mtPB g c)).map fun v=>((v:Nat),mtW g c v)
def yfo(g:Gr)(c:Conf):List (Int×Int):=if ygb g c=true then ybv g c c.length else[]
theorem yqh(g:Gr)(c:Conf)(k:Nat):ybv g c (k+1)=if mtPB g c k=true then ybv g c k++[(((k:Nat):Int),mtW g c k)]else ybv g c k:=by
 unfold ybv;rw[List.range_succ,List.filter_append,List.map_append];cases h:mtPB g c k<;>simp[List.filter,h]
theorem ylp(g:Gr)(c:Conf):∀k,(ybv g c k).length<=k:=fun k=>by
 unfold ybv;rw[zX];exact Nat.le_trans (List.length_filter_le _ _) (by simp)
namespace Sh
open Ev Go.RowKit
theorem ycfx{g:Gr}(hI:GrI g):Returns zF 121 [grV g] (.b (yec g)):=by
 refine Returns.of (ydek _ _ ?_);have hC:=yvq hI;simp only[grV]at hC;simp only[c121,yckj,ycrf,grV,go_sem,zA,zB,zD,↓reduceIte];refine hC.use ?_;simp only[ybf,ykz,go_sem,zA,zB,↓reduceIte,reduceCtorEq]
theorem ybau{g:Gr}(hI:GrI g){c:Conf}(hR:yboz c):Returns zF 117 [grV g,ybk c] (.b (ygb g c)):=by
 refine Returns.of (ydbq _ _ ?_);have hF:=ycfx hI;unfold ygb;cases ht:yec g with
 | false =>
   rw[ht]at hF;simp only[grV]at hF;simp only[c117,ycan,ybvp,grV,clash,go_sem,zA,zB,zD,↓reduceIte];refine hF.use ?_;simp only[ybf,clash,go_sem,zA,zB,↓reduceIte,reduceCtorEq];exact Sim.refl _
 | true =>
   have hg:=(yfn g).1 ht
   have hC:=ycdo hg hR (G:=[-1]) (fun x hx=>by
    simp at hx;subst hx;exact ikw (by omega) (by omega))
   rw[ht]at hF;simp only[grV]at hF;simp only[c117,ycan,ybvp,grV,clash,go_sem,zA,zB,zD,↓reduceIte];refine hF.use ?_;simp only[ybf,yu,splice,clash,go_sem,zA,zB,zD,↓reduceIte,reduceCtorEq];have one:∀{q:Nat},q<1->q=0:=fun {q} h=>by omega
   refine .inl ⟨fun q hq=>by obtain rfl:=one hq;simp only[go_sem],hC.useS ?_ ?_⟩
   ·refine⟨Sim.refl (grV g),Sim.refl _,?_,trivial⟩;refine yhc fun q hq=>?_;obtain rfl:=one hq;simp only[zAA,go_sem];exact⟨Sim.refl _,trivial⟩
   simp only[go_sem];exact Sim.refl _
set_option maxHeartbeats 2000000 in
theorem yboo{g:Gr}(hI:GrI g){c:Conf}(hR:yboz c):Returns zF 65 [grV g,ybk c] (.b (yhi g c)):=by
 refine Returns.of (ydhv _ _ ?_);have hC:=ybau hI hR;cases hcf:ygb g c with
 | false =>
   have e:yhi g c=false:=by unfold yhi;rw[hcf];rfl
   rw[hcf]at hC;rw[e];simp only[grV]at hC;simp only[c65,ydak,yczk,ydju,grV,clash,go_sem,zA,zB,zD,↓reduceIte,reduceCtorEq];refine hC.use ?_;simp only[ybf,clash,go_sem,zA,zB,↓reduceIte];exact Sim.refl _
 | true =>
   obtain⟨hg,hcl,hc1⟩:=yml hcf;have hM:=ybtb hcf;have h24:=hg.2.1;have hpl:=hg.2.2.1;have hT:=yuv (g:=g) (c:=c) (x:=0) (by omega) (by omega) (by omega) (fun v hv=>by obtain⟨a,b,d⟩:=hc1 v hv;exact⟨by omega,d⟩)
   have hLk:=ybyr (g:=g);have hTl:=ybaa g c 0;have hWi:=fun v (hv:v<g.ids.length)=>ybri hg hM hv;have hLe:yhi g c=(ybix g c&&ybit g c):=by unfold yhi;rw[hcf];rfl
   have hPe:ybix g c=(zW c.length).all fun v=>!(decide (mtW g c v>=0)&&(mtW g c (mtW g c v).toNat != (v:Int))):=rfl;have hQe:ybit g c=(flatAt 0 g.ports).all fun e=>!(decide (mtW g c e.v<0)&&decide (mtW g c e.a.toNat<0)):=rfl;obtain⟨W,hW⟩:∃W:Nat->Int,(fun v=>mtW g c v)=W:=⟨_,rfl⟩;have hW':∀v,mtW g c v=W v:=fun v=>by rw[<-hW]
   have hTW:∀v,(towP g c 0).getD v 0=W v:=fun v=>hW' v;obtain⟨T,hTe⟩:∃T,towP g c 0=T:=⟨_,rfl⟩;obtain⟨n,hn⟩:∃n,c.length=n:=⟨_,rfl⟩;simp only[hW']at hPe hQe hWi;rw[hTe]at hT hTl hTW;rw[hn]at hTl hPe hcl;rw[hcf]at hC;rw[hLe];simp only[grV]at hC hT hLk;simp only[yu,hTl]at hT;simp only[c65,ydak,yczk,ydgl,grV,clash,go_sem,zA,zB,zD,↓reduceIte,reduceCtorEq];refine hC.use ?_;simp only[ybf,clash,go_sem,zA,zB,zD,↓reduceIte,reduceCtorEq]
   refine hT.use ?_;simp only[ydkm,clash,go_sem,zB,↓reduceIte]
   refine ybj (σ:=Nat) (fun k=>⟨[(19,.i .i64 k),(18,.i .i64 n),(17,.sl 1 n fun v=>[.i .i64 (T.getD v 0)]),(2,.pt (2,0) 0 0),(4,.pt (4,0) 0 0),(5,.pt (5,0) 0 0)],
    [(2,.one (some ⟨27,true,2,1,fun _=>[yu g.ids,ybb g.ports]⟩)),(4,.one (some ⟨4,true,1,1,fun _=>[.b false]⟩)),(5,.one (some ⟨22,true,1,1,fun _=>[.sl 1 n fun v=>[.i .i64 (T.getD v 0)]]⟩))]⟩)
      (fun k=>k<=n/\∀j,j<k->(decide (W j>=0)&&(W (W j).toNat != (j:Int)))=false) (fun k=>n-k) 0 ⟨zAE _,fun j hj=>absurd hj (zAH j)⟩ ?_ ?_
   ·refine yh [] [] [] ?_;simp only[go_sem,allQ,live,yc,zAF,go_sem,zA,↓reduceIte,reduceCtorEq]
   rintro k ⟨hk,hall⟩
   by_cases hlt:k<n
   ·have t1:decide ((k:Int)<(n:Int))=true:=decide_eq_true (by omega)
    obtain⟨w1,w2⟩:=hWi k (by omega)
    have hTk:=hTW k;obtain⟨x,hx⟩:∃x,W k=x:=⟨_,rfl⟩;rw[hx]at w1 w2 hTk;have hTx:=hTW x.toNat;obtain⟨y,hy⟩:∃y,W x.toNat=y:=⟨_,rfl⟩;rw[hy]at hTx
    by_cases q:x>=0
    ·have t2:decide (x>=0)=true:=decide_eq_true q
     by_cases r:y=(k:Int)
     ·have t3:(y != (k:Int))=false:=by rw[r];simp
      simp only[ycar,ycgv,yccr,ydar,hTk,hTx,t1,t2,t3,clash,go_sem,zA,zB,↓reduceIte,reduceCtorEq]
      repeat (refine⟨by omega,?_⟩)
      refine⟨ikw (by omega) (by omega),?_⟩
      refine yj (k+1) ⟨by omega,fun j hj=>?_⟩ (by omega) ?_
      ·by_cases q2:j=k
       ·rw[q2,hx,hy,t2,t3];rfl
       ·exact hall j (by omega)
      ·refine yh [] [] [] ?_;simp only[go_sem,allQ,live,yc,yba,go_sem,zA,↓reduceIte,reduceCtorEq];omega
     ·have t3:(y != (k:Int))=true:=by rw[bne_iff_ne];exact r
      have e:(zW n).all (fun v=>!(decide (W v>=0)&&(W (W v).toNat != (v:Int))))=false:=by
       rw[zAD];exact⟨k,List.mem_range.2 hlt,by rw[hx,hy,t2,t3];decide⟩
      rw[hPe,e,zAJ];simp only[ycar,ycgv,yccr,ydfq,hTk,hTx,t1,t2,t3,clash,go_sem,zA,zB,↓reduceIte,reduceCtorEq]
      repeat (refine⟨by omega,?_⟩)
      exact Sim.refl _
    ·have t2:decide (x>=0)=false:=decide_eq_false q;simp only[ycar,ycgv,yccr,ydar,hTk,t1,t2,clash,go_sem,zA,zB,↓reduceIte,reduceCtorEq]
     repeat (refine⟨by omega,?_⟩)
     refine⟨ikw (by omega) (by omega),?_⟩
     refine yj (k+1) ⟨by omega,fun j hj=>?_⟩ (by omega) ?_
     ·by_cases q2:j=k
      ·rw[q2,hx,t2];rfl
      ·exact hall j (by omega)
     ·refine yh [] [] [] ?_;simp only[go_sem,allQ,live,yc,yba,go_sem,zA,↓reduceIte,reduceCtorEq];omega
   ·obtain rfl:k=n:=by omega
    have t1:decide ((k:Int)<(k:Int))=false:=decide_eq_false (by omega)
    have e:(zW k).all (fun v=>!(decide (W v>=0)&&(W (W v).toNat != (v:Int))))=true:=by
     rw[zU];exact fun v hv=>by rw[hall v (List.mem_range.1 hv)];rfl
    rw[hPe,e,zI];simp only[ycar,ycmp,t1,go_sem,zA,zB,↓reduceIte];refine hLk.use ?_;simp only[ybf,clash,go_sem]
    refine yzd (yccn (ybye hg)) [(2,0),(4,0),(5,0)] (fun i (_:Unit)=>⟨[(36,.fn 158 [] [.rf [yu g.ids,ybb g.ports]]),(2,.pt (2,0) 0 0),(4,.pt (4,0) 0 0),(5,.pt (5,0) 0 0)],
     [(2,.one (some ⟨27,true,2,1,fun _=>[yu g.ids,ybb g.ports]⟩)),(4,.one (some ⟨4,true,1,1,fun _=>[.b false]⟩)),(5,.one (some ⟨22,true,1,1,fun _=>[.sl 1 k fun v=>[.i .i64 (T.getD v 0)]]⟩))]⟩)
       (fun i _=>i<=(flatAt 0 g.ports).length/\∀j,j<i->(decide (W (ydc g.ports j).v<0)&&decide (W (ydc g.ports j).a.toNat<0))=false) () ⟨zAE _,fun j hj=>absurd hj (zAH j)⟩ ⟨fun _ h=>absurd h zAG,fun _ h=>absurd h zAG⟩ ?_ (fun _=>rfl) ?_ ?_ ?_
    ·refine yh [] [] [] ?_;simp only[go_sem,allQ,live,yc,go_sem,zA,↓reduceIte,reduceCtorEq]
    ·intro i _ hi _;refine⟨trivial,?_⟩;simp only[go_sem,allQ,go_sem,zA]
    ·intro i _ hi hlti;obtain⟨hi,hgood⟩:=hi;have hlti:i<(flatAt 0 g.ports).length:=hlti;obtain⟨e1,e2⟩:=ybcn hg hlti;have hel:ydc g.ports i∈flatAt 0 g.ports:=by unfold ydc;rw[getD_at hlti];exact zT hlti
     obtain⟨E,hE⟩:∃E,ydc g.ports i=E:=⟨_,rfl⟩;rw[hE]at e1 e2 hel;obtain⟨a1,a2,_⟩:=ycg hg e1 e2;have a1:0<=E.a:=a1;have a2:E.a.toNat<g.ports.length:=a2;have h1:=hTW E.v;have h2:=hTW E.a.toNat;obtain⟨x,hx⟩:∃x,W E.v=x:=⟨_,rfl⟩;obtain⟨y,hy⟩:∃y,W E.a.toNat=y:=⟨_,rfl⟩;rw[hx]at h1;rw[hy]at h2;refine⟨_,rfl,?_⟩;simp only[ycjk]
     have next:(decide (x<0)&&decide (y<0))=false->i+1<=(flatAt 0 g.ports).length/\∀j,j<i+1->(decide (W (ydc g.ports j).v<0)&&decide (W (ydc g.ports j).a.toNat<0))=false:=fun hb=>⟨hlti,fun j hj=>by
      by_cases q:j=i
      ·rw[q,hE,hx,hy];exact hb
      ·exact hgood j (by omega)⟩
     by_cases q:x<0
     ·have t2:decide (x<0)=true:=decide_eq_true q
      by_cases r:y<0
      ·have t3:decide (y<0)=true:=decide_eq_true r
       have e:(flatAt 0 g.ports).all (fun e=>!(decide (W e.v<0)&&decide (W e.a.toNat<0)))=false:=by
        rw[zAD];exact⟨E,hel,by rw[hx,hy,t2,t3];decide⟩
       rw[hQe,e];simp only[ybld,ybkb,ybkg,ycxc,hE,h1,h2,t2,t3,splice,clash,go_sem,zA,zB,zM,zD,↓reduceIte,reduceCtorEq]
       repeat (refine⟨by omega,?_⟩)
       exact Sim.refl _
      ·have t3:decide (y<0)=false:=decide_eq_false r;rw[t2,t3]at next
       simp only[ybld,ybkb,ybkg,hE,h1,h2,t2,t3,splice,clash,go_sem,zA,zB,zM,zD,↓reduceIte,reduceCtorEq]
       repeat (first|refine⟨(by omega:(_:Prop)),?_⟩|refine⟨(by decide:(_:Prop)),?_⟩)
       refine⟨next rfl,?_⟩
       refine ycx [] [] [] ?_;simp only[go_sem,allQ,live,yc,go_sem,zA,↓reduceIte,reduceCtorEq]
     ·have t2:decide (x<0)=false:=decide_eq_false q;rw[t2]at next
      simp only[ybld,ybkb,ybkg,hE,h1,t2,splice,clash,go_sem,zA,zB,zD,↓reduceIte,reduceCtorEq]
      repeat (first|refine⟨(by omega:(_:Prop)),?_⟩|refine⟨(by decide:(_:Prop)),?_⟩)
      refine⟨next rfl,?_⟩
      refine ycx [] [] [] ?_;simp only[go_sem,allQ,live,yc,go_sem,zA,↓reduceIte,reduceCtorEq]
    ·intro _ hgood;obtain⟨_,hgood⟩:=hgood
     have e:(flatAt 0 g.ports).all (fun e=>!(decide (W e.v<0)&&decide (W e.a.toNat<0)))=true:=by
      rw[zU];intro e he;obtain⟨j,hj,rfl⟩:=zZ he;have:=hgood j hj;unfold ydc at this;rw[getD_at hj]at this;rw[this];rfl
     rw[hQe,e];simp only[ycwn,splice,go_sem,zA,↓reduceIte];exact Sim.refl _
theorem ybry:Returns zF 60 [] (ydl [⟨⟨#[112]⟩,3,0,0,0,0⟩]):=by
 refine Returns.of (ydhd _ _ ?_);have h1:=ybhj ⟨#[112]⟩;simp only[varC]at h1;simp only[c60,ydke,ydiy,go_sem,↓reduceIte];refine h1.use ?_;simp only[ybf,splice,clash,go_sem,zA,zB,zD,↓reduceIte,reduceCtorEq];have one:∀{q:Nat},q<1->q=0:=fun {q} h=>by omega
 refine⟨fun q hq=>by obtain rfl:=one hq;simp only[go_sem],?_⟩
 refine yhc fun q hq=>?_;obtain rfl:=one hq;simp only[varC,zAA,go_sem];exact⟨Sim.refl _,Sim.refl _,Sim.refl _,Sim.refl _,Sim.refl _,Sim.refl _,trivial⟩
set_option maxHeartbeats 2000000 in
theorem ywy{g:Gr}(hI:GrI g){c:Conf}(hR:yboz c):Returns zF 61 [grV g,ybk c] (ybc (yfo g c)):=by
 refine Returns.of (ydks _ _ ?_);have hC:=ybau hI hR;unfold yfo;cases hcf:ygb g c with
 | false =>
   rw[hcf]at hC;simp only[grV]at hC;simp only[c61,yczl,yden,ydmn,grV,clash,go_sem,zA,zB,zD,↓reduceIte,reduceCtorEq];refine hC.use ?_;simp only[ybf,clash,ybc,go_sem,zB,↓reduceIte];exact ydbm
 | true =>
   obtain⟨hg,hcl,hc1⟩:=yml hcf;have hM:=ybtb hcf;have h24:=hg.2.1;have hpl:=hg.2.2.1;have hT:=yuv (g:=g) (c:=c) (x:=0) (by omega) (by omega) (by omega) (fun v hv=>by obtain⟨a,b,d⟩:=hc1 v hv;exact⟨by omega,d⟩)
   have hTl:=ybaa g c 0;have hWi:=fun v (hv:v<g.ids.length)=>ybri hg hM hv;have hsu:=fun k=>yqh g c k;have hpl2:=fun k=>ylp g c k;obtain⟨P,hP⟩:∃P:Nat->List (Int×Int),(fun k=>ybv g c k)=P:=⟨_,rfl⟩;have hP':∀k,ybv g c k=P k:=fun k=>by rw[<-hP]
   have hP0:P 0=[]:=by rw[<-hP'];rfl
   simp only[hP']at hsu hpl2;unfold mtPB at hsu;obtain⟨W,hW⟩:∃W:Nat->Int,(fun v=>mtW g c v)=W:=⟨_,rfl⟩;have hW':∀v,mtW g c v=W v:=fun v=>by rw[<-hW]
   have hTW:∀v,(towP g c 0).getD v 0=W v:=fun v=>hW' v;obtain⟨T,hTe⟩:∃T,towP g c 0=T:=⟨_,rfl⟩;obtain⟨n,hn⟩:∃n,c.length=n:=⟨_,rfl⟩;simp only[hW']at hsu hWi;rw[hTe]at hT hTl hTW;rw[hn]at hTl hcl;rw[hcf]at hC;rw[if_pos rfl,hP',hn];simp only[grV]at hC hT;simp only[yu,hTl]at hT;simp only[c61,yczl,yden,ydjg,grV,clash,go_sem,zA,zB,zD,↓reduceIte,reduceCtorEq];refine hC.use ?_;simp only[ybf,clash,go_sem,zA,zB,↓reduceIte,reduceCtorEq]
   refine hT.use ?_;simp only[ydlz,ydhk,clash,go_sem,zA,zB,↓reduceIte]
   refine ybj (σ:=Nat) (fun k=>⟨[(18,.i .i64 k),(17,.i .i64 n),(16,.sl 1 n fun v=>[.i .i64 (T.getD v 0)]),(5,.sl 1 n fun v=>[.i .i64 (T.getD v 0)]),(6,.os (100,0) 0 (P k).length true),(2,.pt (2,0) 0 0)],
    [(100,.one (some ⟨75,false,2,(P k).length,fun j=>[.i .i64 ((P k).getD j (0,0)).1,.i .i64 ((P k).getD j (0,0)).2]⟩)),(2,.one (some ⟨27,true,2,1,fun _=>[yu g.ids,ybb g.ports]⟩))]⟩)
      (fun k=>k<=n) (fun k=>n-k) 0 (zAE _) ?_ ?_
   ·refine yh [] [100] [] ?_;simp only[hP0,zAI,allQ,live,yc,zAF,go_sem,zA,zJ,↓reduceIte,reduceCtorEq];exact⟨(100,0),rfl,rfl,rfl⟩
   intro k hk
   by_cases hlt:k<n
   ·have t1:decide ((k:Int)<(n:Int))=true:=decide_eq_true (by omega)
    obtain⟨w1,w2⟩:=hWi k (by omega)
    have hTk:=hTW k;have hs:=hsu k;have hl:=hpl2 k;obtain⟨L,hL⟩:∃L,P k=L:=⟨_,rfl⟩;rw[hL]at hs hl;obtain⟨x,hx⟩:∃x,W k=x:=⟨_,rfl⟩;rw[hx]at w1 w2 hTk hs;have hTx:=hTW x.toNat;obtain⟨y,hy⟩:∃y,W x.toNat=y:=⟨_,rfl⟩;rw[hy]at hTx hs
    by_cases q:x>(k:Int)
    ·have t2:decide (x>(k:Int))=true:=decide_eq_true q
     by_cases r:y=(k:Int)
     ·have t3:(y==(k:Int))=true:=by rw[r];simp
      rw[t2,t3,zI,if_pos rfl]at hs;simp only[ybti,ycdd,ycha,ydga,ybma,hL,hTk,hTx,t1,t2,t3,splice,clash,go_sem,zA,zB,zM,zD,↓reduceIte,reduceCtorEq]
      repeat (refine⟨by omega,?_⟩)
      repeat (first|refine⟨ikw (by omega) (by omega),?_⟩|refine⟨⟨by omega,by omega⟩,?_⟩|refine⟨(by omega:(_:Prop)),?_⟩)
      refine yj (k+1) (by omega) (by omega) ?_
      refine yh [(100,fun i=>(39,i))] [] [] ?_;simp only[hs,List.length_append,allQ,live,yc,yba,go_sem,zA,↓reduceIte,reduceCtorEq];refine⟨by omega,fun i hi=>?_⟩
      rw[ymv]
      by_cases q2:i<L.length
      ·simp only[if_pos q2];simp only[go_sem,live,yc,go_sem,reduceCtorEq]
      ·obtain rfl:i=L.length:=by omega
       simp only[if_neg q2,Nat.sub_self,Nat.zero_mul];simp only[go_sem,live,yc,go_sem,↓reduceIte,reduceCtorEq]
     ·have t3:(y==(k:Int))=false:=by rw[beq_eq_false_iff_ne];exact r
      rw[t3,Bool.and_false,if_neg (by decide)]at hs
      simp only[ybti,ycdd,ycha,ybma,hL,hTk,hTx,t1,t2,t3,clash,go_sem,zA,zB,↓reduceIte,reduceCtorEq]
      repeat (refine⟨by omega,?_⟩)
      refine⟨ikw (by omega) (by omega),?_⟩
      refine yj (k+1) (by omega) (by omega) ?_
      refine yh [] [] [] ?_;simp only[hs,allQ,live,yc,yba,go_sem,zA,↓reduceIte,reduceCtorEq];omega
    ·have t2:decide (x>(k:Int))=false:=decide_eq_false q;rw[t2,zAJ,if_neg (by decide)]at hs
     simp only[ybti,ycdd,ycha,ybma,hL,hTk,t1,t2,clash,go_sem,zA,zB,↓reduceIte,reduceCtorEq]
     repeat (refine⟨by omega,?_⟩)
     refine⟨ikw (by omega) (by omega),?_⟩
     refine yj (k+1) (by omega) (by omega) ?_
     refine yh [] [] [] ?_;simp only[hs,allQ,live,yc,yba,go_sem,zA,↓reduceIte,reduceCtorEq];omega
   ·obtain rfl:k=n:=by omega
    have t1:decide ((k:Int)<(k:Int))=false:=decide_eq_false (by omega)
    simp only[ybti,ycij,t1,clash,ybc,go_sem,zA,zB,↓reduceIte,reduceCtorEq];refine yhc fun q hq=>?_;exact⟨⟨Sim.refl _,Sim.refl _,trivial⟩,rfl⟩
end Sh
end
section
namespace Sh
open Go Ev
def ycrc:LO:=[o3 (.box 40 (.tmp 0)) 1 0,o3 (.mv (.const (.nilFunc))) 2 0]
def ycvk:LO:=[o3 (.mkfn 189 [] [(.tmp 1)]) 3 0,mv' 3 2 1]
def c154:SC:=(.seq (.reg false ycrc) (.seq (.reg false ycvk) .ret))
theorem ycgx:FnM 154 c154 [.t 2]:=fn_m Tryz.func154 (by kernel_rfl) (by kernel_rfl)
def ycle:LO:=[o3 (.box 110 (.tmp 0)) 2 0,o3 (.box 40 (.tmp 1)) 3 0,o3 (.alloc 4 1 [.b false]) 4 0]
def ycvn:LO:=[ld' false 1 3 6 0,cl' 154 [6] 7 1]
def yctm:LO:=[mv' 8 5 0]
def yctg:LO:=[ld' false 1 2 9 0,mv' 5 10 0,ix' 1 9 10 11 3,ld' false 1 11 12 7,ld' false 1 3 13 0,bn' .and 12 13 14 31,o3 (.bin .neq (.tmp 14) (.const (.int .u32 0))) 15 63]
def ydin:LO:=[o0 (.store 1 (.tmp 4) (.const (.bool false))) 0]
def ycop:LO:=[o0 (.store 1 (.tmp 4) (.const (.bool true))) 0]
def c221:SC:=(.seq (.reg false ycle) (.seq (.seq (.reg false ycvn) (.block 0 (.range (.tmp 7) [8] (.reg false yctm) (.block 1 (.seq (.reg true yctg) (.cond (.tmp 15) (.seq (.reg false ydin) .ret) .skip)))))) (.seq (.reg false ycop) .ret)))
theorem ycdf:FnU 221 c221 [.c 4 false 1]:=fn_u Tryz.func221 (by kernel_rfl) (by kernel_rfl)
def ydal:LO:=[o3 (.box 24 (.tmp 0)) 2 0,o3 (.alloc 27 1 [.a (.slice none 0 0),.a (.slice none 0 0)]) 4 0]
def ycyi:LO:=[fa' 4 1 2 5 0,ld' false 1 5 6 1,o3 (.un .not (.tmp 6)) 7 3]
def ydhx:LO:=[ld' true 6 2 8 0,mv' 1 9 0,cl' 70 [8,9] 10 3,o0 (.store 2 (.tmp 4) (.tmp 10)) 7]
def ydma:LO:=[ld' true 6 2 11 0,ld' true 6 2 12 0,mv' 1 13 0,cl' 75 [12,13] 14 6,cl' 105 [11,14] 15 15,o0 (.store 2 (.tmp 4) (.tmp 15)) 31]
def c48:SC:=(.seq (.reg false ydal) (.seq (.seq (.reg false ycyi) (.cond (.tmp 7) (.seq (.reg false ydhx) .ret) .skip)) (.seq (.reg true ydma) .ret)))
theorem ydah:FnU 48 c48 [.c 4 true 2]:=fn_u Tryz.func48 (by kernel_rfl) (by kernel_rfl)
def ydjz:LO:=[o3 (.mv (.const (.bool false))) 4 0]
def ydjn:LO:=[mv' 1 5 0,o3 (.bin .geq (.tmp 5) (ci' 0)) 6 1,mv' 6 7 3,⟨.mv (.tmp 1),some 8,some (7,true),7⟩,⟨.bin .lss (.tmp 8) (ci' 32),some 9,some (7,true),15⟩,o3 (.pick (.tmp 7) (.tmp 9) (.const (.bool false))) 10 31,mv' 10 11 63,⟨.mv (.tmp 0),some 12,some (11,true),127⟩,⟨.mv (.tmp 1),some 13,some (11,true),127⟩,⟨.conv .u64 (.tmp 13),some 14,some (11,true),383⟩,⟨.bin .shr (.tmp 12) (.tmp 14),some 15,some (11,true),1023⟩,⟨.bin .and (.tmp 15) (.const (.int .u32 1)),some 16,some (11,true),2047⟩,⟨.bin .eql (.tmp 16) (.const (.int .u32 1)),some 17,some (11,true),4095⟩,o3 (.pick (.tmp 11) (.tmp 17) (.const (.bool false))) 18 8191,mv' 18 4 16383]
def c55:SC:=(.seq (.reg false ydjz) (.seq (.reg false ydjn) .ret))
theorem ydfu:Fn 55 c55 [.t 4]:=fn_0 Tryz.func55 (by kernel_rfl) (by kernel_rfl)
def ydgj:LO:=[o3 (.mv (.const (.int .u32 0))) 2 0]
def ydja:LO:=[o3 (.mv (.const (.int .u32 0))) 3 0]
def ydmo:LO:=[o3 (.mv (ci' 0)) 4 0]
def ycys:LO:=[mv' 4 5 0,mv' 0 6 0,bn' .lss 5 6 7 3,mv' 7 8 7,⟨.mv (.tmp 4),some 9,some (8,true),15⟩,⟨.bin .lss (.tmp 9) (ci' 32),some 10,some (8,true),31⟩,o3 (.pick (.tmp 8) (.tmp 10) (.const (.bool false))) 11 63]
def ydmz:LO:=[mv' 3 14 0,mv' 4 15 0,o3 (.conv .u64 (.tmp 15)) 16 2,o3 (.bin .shl (.const (.int .u32 1)) (.tmp 16)) 17 6,bn' .or 14 17 18 15,mv' 18 3 31]
def ydjo:LO:=[mv' 4 12 0,o3 (.bin .add (.tmp 12) (ci' 1)) 13 1,mv' 13 4 3]
def ydgm:LO:=[mv' 3 19 0,mv' 19 2 1]
def c63:SC:=(.seq (.reg false ydgj) (.seq (.reg false ydja) (.seq (.seq (.reg false ydmo) (.block 0 (.loop (.seq (.seq (.reg false ycys) (.cond (.tmp 11) .skip (.exit 0))) (.seq (.block 1 (.reg false ydmz)) (.reg false ydjo)))))) (.seq (.reg false ydgm) .ret))))
theorem ydnl:Fn 63 c63 [.t 2]:=fn_0 Tryz.func63 (by kernel_rfl) (by kernel_rfl)
def ydmd:LO:=[o3 (.box 27 (.tmp 0)) 2 0,o3 (.mv (.const (.bool false))) 4 0]
def ydgk:LO:=[ld' true 2 2 5 0,cl' 85 [5] 6 1,o3 (.un .not (.tmp 6)) 7 3,mv' 7 8 7,⟨.mv (.tmp 1),some 9,some (8,false),15⟩,⟨.faddr 1 1 (.tmp 2),some 10,some (8,false),15⟩,⟨.load false 1 (.tmp 10),some 11,some (8,false),47⟩,⟨.len (.tmp 11),some 12,some (8,false),111⟩,⟨.call (.func 63) [(.tmp 12)],some 13,some (8,false),239⟩,⟨.bin .andNot (.tmp 9) (.tmp 13),some 14,some (8,false),511⟩,⟨.bin .neq (.tmp 14) (.const (.int .u32 0)),some 15,some (8,false),1023⟩,o3 (.pick (.tmp 8) (.const (.bool true)) (.tmp 15)) 16 2047]
def ydqz:LO:=[o3 (.mv (.const (.bool false))) 4 0]
def ydiq:LO:=[ld' true 2 2 17 0,mv' 1 18 0,cl' 31 [17,18] 19 3,mv' 1 20 0,bn' .and 19 20 21 15,o3 (.bin .eql (.tmp 21) (.const (.int .u32 0))) 22 31,mv' 22 4 63]
def c66:SC:=(.seq (.reg false ydmd) (.seq (.seq (.reg false ydgk) (.cond (.tmp 16) (.seq (.reg false ydqz) .ret) .skip)) (.seq (.reg false ydiq) .ret)))
theorem ydjs:Fn 66 c66 [.t 4]:=fn_0 Tryz.func66 (by kernel_rfl) (by kernel_rfl)
def ydnh:LO:=[o3 (.box 27 (.tmp 0)) 3 0,o3 (.mv (ci' 0)) 6 0]
def ydhl:LO:=[o3 (.mv (ci' 0)) 7 0]
def ydcf:LO:=[mv' 7 8 0,fa' 1 1 3 9 0,ld' false 1 9 10 2,mv' 1 11 0,ix' 1 10 11 12 14,ld' false 1 12 13 30,ln' 13 14 62,bn' .lss 8 14 15 127]
def ydfl:LO:=[fa' 1 1 3 18 0,ld' false 1 18 19 1,mv' 1 20 0,ix' 1 19 20 21 7,ld' false 1 21 22 15,mv' 7 23 0,ix' 2 22 23 24 63,fa' 0 1 24 25 127,ld' false 1 25 26 255,mv' 2 27 0,bn' .eql 26 27 28 1023]
def ydlo:LO:=[mv' 7 29 0,mv' 29 6 1]
def ydkt:LO:=[mv' 7 16 0,o3 (.bin .add (.tmp 16) (ci' 1)) 17 1,mv' 17 7 3]
def ydqv:LO:=[o3 (.mv (.const (.int .i64 (-1)))) 6 0]
def c62:SC:=(.seq (.reg false ydnh) (.seq (.seq (.reg false ydhl) (.block 0 (.loop (.seq (.seq (.reg false ydcf) (.cond (.tmp 15) .skip (.exit 0))) (.seq (.block 1 (.seq (.reg false ydfl) (.cond (.tmp 28) (.seq (.reg false ydlo) .ret) .skip))) (.reg false ydkt)))))) (.seq (.reg false ydqv) .ret)))
theorem ydkb:Fn 62 c62 [.t 6]:=fn_0 Tryz.func62 (by kernel_rfl) (by kernel_rfl)
end Sh
end
section
namespace Sh
open Ev Go.RowKit
theorem ybum{x:NetR}(hx:x.ok){most:Nat}(hm:1<=most/\most<=24) :
 Cm zF 75 [] [] [.ag (netC x),.i .i64 most] fun r o=>∃g,yw g/\g.ports.length<=most/\r=yfg g/\o=yck g.ports :=
 (yblx hx hm).weak fun r o' ⟨ids,h1,h2,h3,e1,e2⟩=>by
   subst e1 e2;obtain⟨n,hn⟩:∃n,ids.length=n:=⟨_,rfl⟩;have b1:(bare ids).ids=ids:=rfl;have b2:(bare ids).ports.length=n:=by simp[bare,hn]
   have b3:∀v,(bare ids).ports.getD v []=[]:=ykj ids;refine⟨yfg (bare ids),yck (bare ids).ports,?_,?_,bare ids,ybbn (by omega) (by omega) h2 h3,by rw[b2];omega,rfl,rfl⟩
   ·refine yh [(211,fun i=>(17,i))] [212] [] ?_;simp only[yfg,yck,rowO,b1,b2,b3,hn,zAI,allQ,live,yc,go_sem,zA,zJ,↓reduceIte,reduceCtorEq];refine⟨fun i hi=>⟨(212,i),rfl,rfl,by simp[hi]⟩,fun i b hb=>?_⟩
    obtain⟨_,rfl⟩:=ycl hb;exact⟨rfl,rfl⟩
   ·simp only[yck,yfg,ybx,yed,allQ,live,go_sem,zA,↓reduceIte];refine⟨fun i hi=>by rw[if_pos hi],fun i b hb k hk=>?_⟩
    obtain⟨hi,rfl⟩:=ycl hb;simp only[rowO,go_sem]
theorem ybxq{x:NetR}(hx:x.ok){most:Nat}(hm:1<=most/\most<=24) :
 Ct zF 48 [.ag (netC x),.i .i64 most] fun r=>∃g,yw g/\g.ports.length<=most/\Sim r (grV g):=by
 refine ydah [75,105] _ _ ?_;have hC:=yzm hx hm;have hN:=ybum hx hm;simp only[netC]at hC hN;cases hap:x.apart with
 | false =>
   rw[hap]at hC;simp only[c48,ydal,ycyi,ydhx,netC,hap,clash,go_sem,zA,zB,zM,zD,zJ,↓reduceIte,reduceCtorEq];refine hC.found (V:=grV) (fun r g h=>h.2.2.2) fun r g h=>?_;simp only[ybf,grV,splice,clash,go_sem,zA,zB,↓reduceIte];exact⟨g,h.1,h.2.2.1,Sim.refl _⟩
 | true =>
   rw[hap]at hN;simp only[c48,ydal,ycyi,ydma,netC,hap,clash,go_sem,zA,zB,zM,zD,↓reduceIte,reduceCtorEq];refine ydd hN [(211,211),(212,212)] 0 [2,4,11] [2,4] ?_ ?_
   ·simp only[okN,ybx,yed,ydf,ycu,allQ,live,yc,go_sem,zA,zB,zJ,↓reduceIte,reduceCtorEq]
   rintro r o' ⟨g,hg,hn,rfl,rfl⟩;have hM:=ybxh (Q:=fun _=>True) hx hg trivial (fun G a b w gG gl ga gb gw gQ=>trivial);simp only[netC,hap]at hM;simp only[yck,yfg,yjp,yip,nuF,nu,difN,ydf,ycu,Fam.ren,OB.ren,dim,ynx,yic,go_sem,zA,zB,zJ,↓reduceIte];refine ydd hM [(211,211),(212,212)] 0 [4] [4] ?_ ?_
   ·simp only[yfg,yck,to1,okN,ybx,yed,ydf,ycu,allQ,live,yc,go_sem,zA,zB,zJ,↓reduceIte,reduceCtorEq];refine⟨⟨fun i _ j _ e=>e,fun i hi=>by rw[if_pos hi],fun i b hb=>?_⟩,by decide⟩
    obtain⟨hi,rfl⟩:=ycl hb;refine⟨_,yrz (f:=ren (nu [(211,211),(212,212)] 0) 5) (fun _ _=>rfl) hi,⟨rfl,rfl,rfl,rfl⟩,fun k hk=>?_⟩;simp only[rowO,live,yc,go_sem,reduceCtorEq]
   rintro r o' ⟨G,gg,-,gn,rfl,rfl⟩;simp only[yck,yfg,clash,splice,yjp,yip,nuF,nu,difN,ydf,ycu,Fam.ren,OB.ren,dim,ynx,yic,go_sem,zA,zB,zJ,↓reduceIte];refine⟨by decide,fun q hq=>?_,G,gg,by omega,?_⟩
   ·simp only[if_pos hq];exact⟨Nat.le_refl _,fun k hk=>by simp only[rowO,go_sem]⟩
   ·refine ytx ⟨Sim.refl _,?_,trivial⟩;refine yhc fun q hq=>?_;simp only[if_pos hq];simp only[rowO,ybc,ygj,go_sem];exact⟨Sim.refl _,trivial⟩
end Sh
end
section
namespace Ev
def Mzb0:BlkL:=⟨5,71,1,[.slice (some ⟨20,0,none⟩) 1 CU,.slice (some ⟨29,0,none⟩) 2 CU,.slice (some ⟨31,0,none⟩) 1 CU]⟩
def Mzb1:BlkL:=⟨12,3,1,[.int .i64 0,.int .i64 1,.int .i64 2]⟩
def Mzb2:BlkL:=⟨29,95,2,[.int .i64 0,.int .i64 1,.int .i64 2,.int .i64 1]⟩
def Mzb3:BlkL:=⟨746,240,2,[.int .i64 41,.int .i64 0,.int .i64 35,.int .i64 0,.int .i64 5,.int .i64 0,.int .i64 4,.int .i64 0,.int .i64 21,.int .i64 0,.int .i64 35,.int .i64 0,.int .i64 12,.int .i64 0,.int .i64 17,.int .i64 0]⟩
def Mzb4:BlkL:=⟨795,240,2,[.int .i64 23,.int .i64 0,.int .i64 35,.int .i64 0,.int .i64 12,.int .i64 0,.int .i64 17,.int .i64 0]⟩
def Mzb5:BlkL:=⟨802,200,2,[.int .i64 0,.slice (some ⟨795,0,none⟩) 4 CU]⟩
def Mzb6:BlkL:=⟨881,240,2,[.int .i64 41,.int .i64 0,.int .i64 35,.int .i64 0,.int .i64 5,.int .i64 0,.int .i64 4,.int .i64 0,.int .i64 21,.int .i64 0,.int .i64 35,.int .i64 0,.int .i64 12,.int .i64 0,.int .i64 4,.int .i64 0]⟩
def Mzb7:BlkL:=⟨926,240,2,[.int .i64 23,.int .i64 0,.int .i64 35,.int .i64 0,.int .i64 12,.int .i64 0,.int .i64 4,.int .i64 0]⟩
def Mzb8:BlkL:=⟨933,200,2,[.int .i64 0,.slice (some ⟨926,0,none⟩) 4 CU]⟩
def Mzb9:BlkL:=⟨1042,240,2,[.int .i64 21,.int .i64 0,.int .i64 41,.int .i64 0,.int .i64 41,.int .i64 0,.int .i64 35,.int .i64 0,.int .i64 11,.int .i64 0,.int .i64 5,.int .i64 0,.int .i64 36,.int .i64 0,.int .i64 12,.int .i64 0,.int .i64 4,.int .i64 0,.int .i64 36,.int .i64 0,.int .i64 12,.int .i64 0,.int .i64 17,.int .i64 0]⟩
def ydbj:BlkL:=⟨1058,240,2,[.int .i64 4,.int .i64 0]⟩
def ydes:BlkL:=⟨1065,200,2,[.int .i64 0,.slice (some ⟨1058,0,none⟩) 1 1]⟩
def ydlb:BlkL:=⟨2544,22,1,[.slice (some ⟨2545,0,none⟩) 1 CU,.slice (some ⟨2588,0,none⟩) 1 CU,.slice (some ⟨2547,0,none⟩) 1 CU]⟩
end Ev
end
section
namespace Ev
def Mzm1:Fact:=ybkf.move [746,795,802,1960] 1963
theorem yczz:ydm zF Mzm1:=yds (ybg.at_ yix 0 rfl) (by kernel_rfl)
def Mzm2:Fact:=ybiv.move [881,926,933,1960] 2088
theorem yczw:ydm zF Mzm2:=yds (ybg.at_ yix 1 rfl) (by kernel_rfl)
def Mzm3:Fact:=ybkk.move [1042,1058,1065,1960] 2213
theorem ydap:ydm zF Mzm3:=yds (ybg.at_ yrx 0 rfl) (by kernel_rfl)
/- selfstab/memory.Check -/
def ybxy:Fact:=⟨112,[.agg #[.string (by8 [109,97,116,99,104,105,110,103]),.slice (some ⟨667,0,none⟩) 1 CU,.slice (some ⟨1069,0,none⟩) 3 CU],.agg #[.slice (some ⟨12,0,none⟩) 3 CU,.slice (some ⟨5,0,none⟩) 3 3],.slice (some ⟨1707,0,none⟩) 3 3],1710,[Mzb0,Mzb1,⟨20,95,2,[.int .i64 1,.int .i64 1]⟩,Mzb2,⟨31,95,2,[.int .i64 1,.int .i64 1]⟩,⟨667,87,6,[.string (by8 [112]),.int .i64 3,.int .i64 0,.int .i64 0,.int .i64 0,.int .i64 0]⟩,Mzb3,Mzb4,Mzb5,Mzb6,Mzb7,Mzb8,Mzb9,ydbj,ydes,⟨1069,191,3,[.string (by8 [97,99,99,101,112,116]),.slice (some ⟨746,0,none⟩) 8 CU,.slice (some ⟨802,0,none⟩) 1 CU,.string (by8 [112,114,111,112,111,115,101]),.slice (some ⟨881,0,none⟩) 8 CU,.slice (some ⟨933,0,none⟩) 1 CU,.string (by8 [119,105,116,104,100,114,97,119]),.slice (some ⟨1042,0,none⟩) 12 CU,.slice (some ⟨1065,0,none⟩) 1 CU]⟩,⟨1704,3,1,[.int .i64 (-1)]⟩,⟨1705,3,1,[.int .i64 (-1)]⟩,⟨1706,3,1,[.int .i64 (-1)]⟩,⟨1707,22,1,[.slice (some ⟨1704,0,none⟩) 1 1,.slice (some ⟨1705,0,none⟩) 1 1,.slice (some ⟨1706,0,none⟩) 1 1]⟩],.int .i64 0,2383,[],1710⟩
def ydpn:List Fact:=[ybxy]
theorem ycgq:ybg ydpn:=ybg.seq (ybg.cons (f:=Mzm1) yczz (ybg.cons (f:=Mzm2) yczw (ybg.cons (f:=Mzm3) ydap ybg.nil))) (by kernel_rfl)
def Mzm4:Fact:=ybkf.move [746,795,802,2856] 2859
theorem yddg:ydm zF Mzm4:=yds (ybg.at_ yix 0 rfl) (by kernel_rfl)
def Mzm5:Fact:=ybiv.move [881,926,933,2856] 2984
theorem ydfb:ydm zF Mzm5:=yds (ybg.at_ yix 1 rfl) (by kernel_rfl)
def Mzm6:Fact:=ybkk.move [1042,1058,1065,2856] 3109
theorem yddn:ydm zF Mzm6:=yds (ybg.at_ yrx 0 rfl) (by kernel_rfl)
/- selfstab/memory.Check -/
def ycvs:Fact:=⟨112,[.agg #[.string (by8 [109,97,116,99,104,105,110,103]),.slice (some ⟨667,0,none⟩) 1 CU,.slice (some ⟨1069,0,none⟩) 3 CU],.agg #[.slice (some ⟨12,0,none⟩) 3 CU,.slice (some ⟨5,0,none⟩) 3 3],.slice (some ⟨2544,0,none⟩) 3 3],2606,[Mzb0,Mzb1,⟨20,95,2,[.int .i64 1,.int .i64 1]⟩,Mzb2,⟨31,95,2,[.int .i64 1,.int .i64 1]⟩,⟨667,87,6,[.string (by8 [112]),.int .i64 3,.int .i64 0,.int .i64 0,.int .i64 0,.int .i64 0]⟩,Mzb3,Mzb4,Mzb5,Mzb6,Mzb7,Mzb8,Mzb9,ydbj,ydes,⟨1069,191,3,[.string (by8 [97,99,99,101,112,116]),.slice (some ⟨746,0,none⟩) 8 CU,.slice (some ⟨802,0,none⟩) 1 CU,.string (by8 [112,114,111,112,111,115,101]),.slice (some ⟨881,0,none⟩) 8 CU,.slice (some ⟨933,0,none⟩) 1 CU,.string (by8 [119,105,116,104,100,114,97,119]),.slice (some ⟨1042,0,none⟩) 12 CU,.slice (some ⟨1065,0,none⟩) 1 CU]⟩,ydlb,⟨2545,3,1,[.int .i64 (-1)]⟩,⟨2547,3,1,[.int .i64 (-1)]⟩,⟨2588,3,1,[.int .i64 0]⟩],.int .i64 0,3279,[],2606⟩
def ydpy:List Fact:=[ycvs]
theorem ycca:ybg ydpy:=ybg.seq (ybg.cons (f:=Mzm4) yddg (ybg.cons (f:=Mzm5) ydfb (ybg.cons (f:=Mzm6) yddn ybg.nil))) (by kernel_rfl)
end Ev
end
section
namespace Ev
/- selfstab/step.Step -/
def ybsb:Fact:=⟨53,[.agg #[.string (by8 [109,97,116,99,104,105,110,103]),.slice (some ⟨667,0,none⟩) 1 CU,.slice (some ⟨1069,0,none⟩) 3 CU],.agg #[.slice (some ⟨12,0,none⟩) 3 CU,.slice (some ⟨5,0,none⟩) 3 3],.slice (some ⟨2544,0,none⟩) 3 3,.int .u32 1],2604,[Mzb0,Mzb1,⟨20,95,2,[.int .i64 1,.int .i64 1]⟩,Mzb2,⟨31,95,2,[.int .i64 1,.int .i64 1]⟩,⟨667,87,6,[.string (by8 [112]),.int .i64 3,.int .i64 0,.int .i64 0,.int .i64 0,.int .i64 0]⟩,Mzb3,Mzb4,Mzb5,Mzb6,Mzb7,Mzb8,Mzb9,ydbj,ydes,⟨1069,191,3,[.string (by8 [97,99,99,101,112,116]),.slice (some ⟨746,0,none⟩) 8 CU,.slice (some ⟨802,0,none⟩) 1 CU,.string (by8 [112,114,111,112,111,115,101]),.slice (some ⟨881,0,none⟩) 8 CU,.slice (some ⟨933,0,none⟩) 1 CU,.string (by8 [119,105,116,104,100,114,97,119]),.slice (some ⟨1042,0,none⟩) 12 CU,.slice (some ⟨1065,0,none⟩) 1 CU]⟩,ydlb,⟨2545,3,1,[.int .i64 (-1)]⟩,⟨2547,3,1,[.int .i64 (-1)]⟩,⟨2588,3,1,[.int .i64 0]⟩],.tuple #[.slice (some ⟨3486,0,none⟩) 3 3,.int .i64 0],3517,[⟨3486,22,1,[.slice (some ⟨3505,0,none⟩) 1 CU,.slice (some ⟨3488,0,none⟩) 1 CU,.slice (some ⟨3489,0,none⟩) 1 CU]⟩,⟨3488,3,1,[.int .i64 0]⟩,⟨3489,3,1,[.int .i64 (-1)]⟩,⟨3505,3,1,[.int .i64 0]⟩],2604⟩
def ydpx:List Fact:=[ybsb]
theorem yccz:ybg ydpx:=ybg.seq (ybg.cons (f:=ycvs) (ybg.at_ ycca 0 rfl) ybg.nil) (by kernel_rfl)
end Ev
end
section
namespace Ev
def Mzm0:Fact:=ytl.move [] 33
theorem yczp:ydm zF Mzm0:=yds (ybg.at_ ybkl 0 rfl) (by kernel_rfl)
end Ev
end
section
namespace Ev
open Go Go.RowKit
def mzF:List Fact:=[Mzm0,ybxy,ybsb]
theorem ydod:ybg mzF:=(ybg.cons (f:=Mzm0) yczp (ybg.cons (f:=ybxy) (ybg.at_ ycgq 0 rfl) (ybg.cons (f:=ybsb) (ybg.at_ yccz 0 rfl) ybg.nil)))
def mzH:Hooks:=⟨some 149,some 261,some 153,symB,[⟨1000000000000,mzF⟩],some 158⟩
theorem ydlq:HooksOk zF mzH:=⟨fun g h=>(by cases h;exact ybiw),fun g h=>(by cases h;exact ypz),fun g h=>(by cases h;exact ybxo),yez.cons ydod yez.nil,fun g h=>(by cases h;exact yyv)⟩
def mzT:Option Value->Bool
 |some (.bool b)=>b
 |_=>false
theorem ydki:∀{o:Option Value},mzT o=true->o=some (.bool true)
 |some (.bool true),_=>rfl
set_option maxRecDepth 1000000 in
theorem ybey:outV (ev zF mzH 3000 (.call 64 [] mem0))=some (.bool true):=ydki (by kernel_rfl)
theorem ydei(w:World)(hG:GlW w):Calls zF 64 #[] w fun e w'=>e = .returned (.bool true)/\Below w.heap.size w w' :=
 yyk mix yoh ydlq ybey rfl rfl ⟨_,_,zAN,rfl⟩ w hG
end Ev
end
section
namespace Sh
open Go Ev Go.RowKit
theorem yty:Returns zF 64 [] (.b true):=by
 refine ybjh ⟨_,_,zAN,rfl⟩ (fun _=>.b) (fun _=>.simple rfl) fun G m us hG hr φ M w us' hRl hs hv=>?_;cases hr
 cases hv
 exact ydei w fun x hx=>(hRl.gl x hx).1
end Sh
end
section
namespace Ev
theorem yql:∀l:List UInt8,eqBytes l l=true
 |[]=>rfl
 | x::l=>by
   show(zN x.toNat x.toNat&&eqBytes l l)=true;rw[zG,yql l];rfl
theorem yxc{ρ:Nat->Nat}{a:Addr}(h:a.spot.isNone=true):eqAddr (renA ρ a) (renA ρ a)=true:=by
 rw[yjr];unfold eqAddr;simp only[zG,h,Bool.and_self]
theorem ybqp{ρ:Nat->Nat}{v:Value}(hf:yrd v=true)(h:eq1 v v=true):eq1 (ren1 ρ v) (ren1 ρ v)=true:=by
 unfold yrd at hf;split at hf
 ·exact yxc hf
 ·rename_i a n c
  show(eqAddr (renA ρ a) (renA ρ a)&&zN n n&&zN c c)=true;rw[yxc hf,zG,zG];rfl
 ·rename_i h1 h2
  have:ren1 ρ v=v:=by
   unfold ren1;split
   ·rename_i a;exact absurd rfl (h1 a)
   ·rename_i a n c;exact absurd rfl (h2 a n c)
   ·rfl
  rw[this];exact h
theorem yrt{ρ:Nat->Nat}:∀{l:List Value},l.all yrd=true->eqL1 l l=true->eqL1 (l.map (ren1 ρ)) (l.map (ren1 ρ))=true
 |[],_,_=>rfl
 | x::l,hf,h=>by
   simp only[List.all_cons,zC]at hf;have h:(eq1 x x&&eqL1 l l)=true:=h;rw[zC]at h;show(eq1 (ren1 ρ x) (ren1 ρ x)&&eqL1 (l.map (ren1 ρ)) (l.map (ren1 ρ)))=true;rw[ybqp hf.1 h.1,yrt hf.2 h.2];rfl
theorem ybzc{v:Value}(h1:∀a,v = .agg a->False)(h2:∀g a c,v = .func (.func g) a c->False):eq2 v v=eq1 v v:=by
 cases v with
 |agg a=>exact(h1 a rfl).elim
 | func f a c=>cases f with
   |func g=>exact(h2 g a c rfl).elim
   |_=>rfl
 |_=>rfl
theorem ybvj{ρ:Nat->Nat}{v:Value}(h1:∀a,v = .agg a->False)(h2:∀g a c,v = .func (.func g) a c->False)(hf:yrd v=true):ren2 ρ v=ren1 ρ v:=by
 cases v with
 |agg a=>exact(h1 a rfl).elim
 | func f a c=>cases f with
   |func g=>exact(h2 g a c rfl).elim
   |_=>cases hf
 |_=>rfl
theorem yww{ρ:Nat->Nat}{v:Value}(hf:yrd v=true):(∀a,ren1 ρ v = .agg a->False)/\∀g a c,ren1 ρ v = .func (.func g) a c->False:=by
 cases v with
 |agg a=>cases hf
 |func f a c=>cases hf
 |pointer p=>cases p<;>exact⟨fun _ h=>(by cases h),fun _ _ _ h=>(by cases h)⟩
 |slice p n c=>cases p<;>exact⟨fun _ h=>(by cases h),fun _ _ _ h=>(by cases h)⟩
 |_=>exact⟨fun _ h=>(by cases h),fun _ _ _ h=>(by cases h)⟩
theorem ybqd{ρ:Nat->Nat}{v:Value}(hf:yku v=true)(h:eq2 v v=true):eq2 (ren2 ρ v) (ren2 ρ v)=true:=by
 unfold yku at hf;split at hf
 ·rename_i a
  have h:eqL1 a.toList a.toList=true:=h;show eqL1 (a.toList.map (ren1 ρ)).toArray.toList (a.toList.map (ren1 ρ)).toArray.toList=true;exact yrt hf h
 ·rename_i g a c
  rw[zC]at hf;have h:(zN g g&&eqL1 a.toList a.toList&&eqL1 c.toList c.toList)=true:=h;simp only[zC]at h;show(zN g g&&eqL1 (a.toList.map (ren1 ρ)).toArray.toList (a.toList.map (ren1 ρ)).toArray.toList&&eqL1 (c.toList.map (ren1 ρ)).toArray.toList (c.toList.map (ren1 ρ)).toArray.toList)=true;rw[zG,yrt hf.1 h.1.2,yrt hf.2 h.2];rfl
 ·rename_i h1 h2
  rw[ybzc h1 h2]at h;rw[ybvj h1 h2 hf,ybzc (yww hf).1 (yww hf).2];exact ybqp hf h
def reflB(b:BlkL):Bool:=b.l.all (fun v=>eq2 v v&&yku v)&&zS b.l.length 1000000
theorem yua{ρ:Nat->Nat}{b:BlkL}(h:reflB b=true):∀v∈(b.ren ρ).l,eq2 v v=true:=by
 unfold reflB at h;rw[zC]at h;intro v hv;obtain⟨x,hx,rfl⟩:=List.mem_map.1 hv;have:=List.all_eq_true.1 h.1 x hx;rw[zC]at this;exact ybqd this.2 this.1
theorem ynh{l:List Value}(h:∀v∈l,eq2 v v=true):∀(k:List Value) (n:Nat),l.drop n=k->cellsAre (tOf l) n k=true
 |[],_,_=>rfl
 | v :: k,n,e=>by
   have hn:n<l.length:=by
    rcases Nat.lt_or_ge n l.length with q|q
    ·exact q
    ·rw[List.drop_eq_nil_of_le q]at e;cases e
   rw[List.drop_eq_getElem_cons hn]at e
   injection e with e1 e2
   unfold cellsAre;rw[ycs,zQ hn,e1];simp only;rw[h v (by rw[<-e1];exact zT _),ynh h k (n+1) e2]
   rfl
theorem ypg{m:Mem}{b:BlkL}(hg:m.b.get b.i=some b.blk)(h:∀v∈b.l,eq2 v v=true)(hl:zS b.l.length 1000000=true):blkIs m b=true:=by
 unfold blkIs;rw[hg];show(zN b.l.length b.l.length&&zN b.e b.e&&zN b.z b.z&&zS b.l.length 1000000&&cellsAre (tOf b.l) 0 b.l)=true;rw[zG,zG,zG,hl,ynh h b.l 0 (List.drop_zero ..)];rfl
theorem yuu:∀{l:List BlkL}{t:T ABlk}{i:Nat},(∀b∈l,b.i≠i)->(blksT t l).get i=t.get i
 |[],_,_,_=>rfl
 | b::l,t,i,h=>by
   unfold blksT;rw[T.strict_eq,yuu fun c hc=>h c (List.mem_cons_of_mem _ hc),T.set_at,if_neg (fun e=>h b List.mem_cons_self e.symm)]
theorem ysg:∀{l:List BlkL}{t:T ABlk},ygq (l.map (·.i))=true->∀b∈l,(blksT t l).get b.i=some b.blk
 |[],_,_,b,hb=>by cases hb
 | c :: l,t,h,b,hb=>by
   have h:(!(l.map (·.i)).elem c.i&&ygq (l.map (·.i)))=true:=h;rw[zC,zK]at h;unfold blksT;rw[T.strict_eq];rcases List.mem_cons.1 hb with e|hb
   ·subst e;rw[yuu fun d hd e=>?_,T.set_at,if_pos rfl];have:(l.map (·.i)).elem b.i=true:=List.elem_eq_true_of_mem (List.mem_map.2 ⟨d,hd,e⟩);rw[this]at h;cases h.1
   ·exact ysg h.2 b hb
theorem ymp:∀{l:List Nat},l.Nodup->ygq l=true
 |[],_=>rfl
 | x :: l,h=>by
   rw[zY]at h;show(!(l.elem x)&&ygq l)=true
   have:l.elem x=false:=by
    cases hq:l.elem x with
    |false=>rfl
    |true=>exact absurd (by simpa using hq) h.1
   rw[this,ymp h.2];rfl
theorem yyy:∀{l:List Nat},ygq l=true->l.Nodup
 |[],_=>List.nodup_nil
 | x::l,h=>by
   have h:(!(l.elem x)&&ygq l)=true:=h;rw[zC,zK]at h;rw[zY];refine⟨fun hm=>?_,yyy h.2⟩;have:l.elem x=true:=by simpa using hm
   rw[this]at h;cases h.1
theorem ybly{d:Nat}:∀{l:List BlkL}{k:List Nat},(l.map (·.i)).Nodup->l.length=k.length->l.map (fun b=>yym l k d b.i)=k
 |[],[],_,_=>rfl
 | b :: l,t::k,hn,hl=>by
   rw[zAL,zY]at hn;have ih:=ybly (d:=d) hn.2 (by simpa using hl)
   rw[zAL];have e1:yym (b::l) (t::k) d b.i=t:=by unfold yym;rw[zG];rfl
   rw[e1];congr 1;refine zAM (zO fun c hc=>?_) ih;show(bif zN b.i c.i then t else yym l k d c.i)=_
   have:zN b.i c.i=false:=by
    cases hq:zN b.i c.i with
    |false=>rfl
    |true=>exact absurd (List.mem_map.2 ⟨c,hc,(Nat.eq_of_beq_eq_true hq).symm⟩) hn.1
   rw[this];rfl
 |[],_::_,_,h=>by cases h
 |_::_,[],_,h=>by cases h
def Fact.still(f:Fact):Bool:=zAC f.next0 f.low&&f.args.all yku&&ycaq f.v&&f.pre.all (fun b=>zS b.i f.next0&&reflB b)&&ygq (f.pre.map (·.i))&&f.post.all (fun b=>zAC f.next0 b.i&&zS b.i f.next1&&reflB b)&&ygq (f.post.map (·.i))&&zAC f.next0 f.next1
theorem yclm{a b:Nat}(h:zS a b=true):a<b:=Nat.lt_of_lt_of_le (Nat.lt_succ_self _) (zH h)
theorem ybjl{a b:Nat}(h:a<b):zS a b=true:=zL h
theorem ylk{f:Fact}(h:f.still=true):f.next0<=f.low/\(f.args.all yku=true/\ycaq f.v=true)/\(∀b∈f.pre,b.i<f.next0/\reflB b=true)/\(f.pre.map (·.i)).Nodup/\(∀b∈f.post,f.next0<=b.i/\b.i<f.next1/\reflB b=true)/\(f.post.map (·.i)).Nodup/\f.next0<=f.next1:=by
 unfold Fact.still at h;simp only[zC]at h;obtain⟨⟨⟨⟨⟨⟨⟨h1,h2⟩,h3⟩,h4⟩,h5⟩,h6⟩,h7⟩,h8⟩:=h;refine⟨zH h1,⟨h2,h3⟩,fun b hb=>?_,yyy h5,fun b hb=>?_,yyy h7,zH h8⟩
 ·have:=List.all_eq_true.1 h4 b hb;rw[zC]at this;exact⟨yclm this.1,this.2⟩
 ·have:=List.all_eq_true.1 h6 b hb;simp only[zC]at this;exact⟨zH this.1.1,yclm this.1.2,this.2⟩
theorem ybzu{f:Fact}{tgt:List Nat}{n0:Nat}(hp:∀b∈f.pre,b.i<f.next0/\reflB b=true)(hn:(f.pre.map (·.i)).Nodup)(hl:f.pre.length=tgt.length):f.pre.map (fun b=>f.rho tgt n0 b.i)=tgt:=by
 refine zAM (zO fun b hb=>?_) (ybly (d:=Nat.add n0 (Nat.sub f.next1 f.next0)) hn hl);unfold Fact.rho;have h1:=(hp b hb).1
 have:(zAC f.next0 b.i&&zS b.i f.next1)=false:=by
  rw[zV];left
  cases hq:zAC f.next0 b.i with
  |false=>rfl
  |true=>have:=zH hq;omega
 rw[this];rfl
theorem ybiu{f:Fact}{tgt:List Nat}{n0 i:Nat}(h1:f.next0<=i)(h2:i<f.next1):f.rho tgt n0 i=i-f.next0+n0:=by
 unfold Fact.rho;rw[Bool.cond_eq_ite,if_pos (by rw[zL h1,ybjl h2];rfl)]
 rfl
theorem ywk{P:Program}{f:Fact}{tgt:List Nat}{n0:Nat}(hok:ydm P f)(hs:f.still=true)(hl:f.pre.length=tgt.length)(hn:tgt.Nodup)(hlt:∀t∈tgt,t<n0):ydm P (f.move tgt n0):=by
 refine yds hok ?_;obtain⟨s1,⟨s2,s3⟩,s4,s5,s6,s7,s8⟩:=ylk hs
 have hpi:(f.move tgt n0).pre.map (·.i)=tgt:=by
  show(f.pre.map (BlkL.ren (f.rho tgt n0))).map (·.i)=tgt;rw[zAB];exact zAM (zO fun b hb=>b.ygj) (ybzu (n0:=n0) s4 s5 hl)
 have hqi:ygq ((f.move tgt n0).post.map (·.i))=true:=by
  refine ymp ?_;show((f.post.map (BlkL.ren (f.rho tgt n0))).map (·.i)).Nodup
  have e:(f.post.map (BlkL.ren (f.rho tgt n0))).map (·.i)=(f.post.map (·.i)).map (fun i=>i-f.next0+n0):=by
   rw[zAB,zAB];refine zO fun b hb=>?_;show(b.ren (f.rho tgt n0)).i=b.i-f.next0+n0;rw[b.ygj,ybiu (s6 b hb).1 (s6 b hb).2.1]
  rw[e];unfold List.Nodup at s7 ⊢;rw[List.pairwise_map];refine List.Pairwise.imp_of_mem (fun {x y} hx hy h=>?_) s7;obtain⟨bx,hbx,rfl⟩:=List.mem_map.1 hx;obtain⟨by_,hby,rfl⟩:=List.mem_map.1 hy;have:=(s6 bx hbx).1;have:=(s6 by_ hby).1;omega
 have hpre:ygq ((f.move tgt n0).pre.map (·.i))=true:=by rw[hpi];exact ymp hn
 unfold Fact.moves;simp only[zC];refine⟨⟨⟨⟨⟨⟨⟨⟨zL s1,s2⟩,s3⟩,?_⟩,?_⟩,hpre⟩,?_⟩,?_⟩,zL s8⟩
 ·refine List.all_eq_true.2 fun b hb=>?_;have:=(s4 b hb).2;unfold reflB at this;rw[zC]at this;rw[ybjl (s4 b hb).1,zI];exact List.all_eq_true.2 fun v hv=>by have:=List.all_eq_true.1 this.1 v hv;rw[zC]at this;exact this.2
 ·refine List.all_eq_true.2 fun b hb=>?_;have:=(s6 b hb).2.2;unfold reflB at this;rw[zC]at this;rw[ybjl (s6 b hb).2.1,zI];exact List.all_eq_true.2 fun v hv=>by have:=List.all_eq_true.1 this.1 v hv;rw[zC]at this;exact this.2
 ·refine List.all_eq_true.2 fun b' hb'=>?_;obtain⟨b,hb,rfl⟩:=List.mem_map.1 hb';have h2:=(s4 b hb).2;have h3:(b.ren (f.rho tgt n0)).i∈(f.move tgt n0).pre.map (·.i):=List.mem_map.2 ⟨_,hb',rfl⟩;rw[hpi]at h3;rw[ybjl (hlt _ h3),zI];refine ypg (ysg hpre _ hb') (yua h2) ?_;show zS (b.l.map _).length 1000000=true;rw[zX];unfold reflB at h2;rw[zC]at h2;exact h2.2
 ·refine List.all_eq_true.2 fun b' hb'=>?_;obtain⟨b,hb,rfl⟩:=List.mem_map.1 hb';have h2:=(s6 b hb).2.2;refine ypg (ysg hqi _ hb') (yua h2) ?_;show zS (b.l.map _).length 1000000=true;rw[zX];unfold reflB at h2;rw[zC]at h2;exact h2.2
end Ev
end
end Go.Proofs.YtiejahgklcjhkaaGreatDoor
