/- Lemmas, joined: ScLw WrN WcC Cwm RnC FaR Cwy CenterAnonymousL CenterAnonymousV. -/
import Derived.Test.YtiejahgklcjhkaaGreatDoorPkJ11
import Derived.Test.YtiejahgklcjhkaaGreatDoorPkJ15
import Derived.Test.YtiejahgklcjhkaaGreatDoorPkJ17
import Derived.Test.YtiejahgklcjhkaaGreatDoorPkJ16
import Derived.Test.YtiejahgklcjhkaaGreatDoorTie
import Derived.Test.YtiejahgklcjhkaaGreatDoorCards
import Derived.LaidMore
import Derived.Stop.Joined
import Derived.SevenTiedAt
import Derived.Lib.LaidTab
import Derived.MakeChecks
set_option linter.unusedSimpArgs false
set_option linter.unusedVariables false
namespace Go.Proofs.YtiejahgklcjhkaaGreatDoor
namespace Sh
open Go Ev
def yczl:LO:=[o3 (.mv (.const (.bool false))) 4 0]
def ycwj:LO:=[mv' 1 5 0,o3 (.bin .geq (.tmp 5) (ci' 0)) 6 1,mv' 6 7 3,⟨.mv (.tmp 1),some 8,some (7,true),7⟩,⟨.bin .lss (.tmp 8) (ci' 32),some 9,some (7,true),15⟩,o3 (.pick (.tmp 7) (.tmp 9) (.const (.bool false))) 10 31,mv' 10 11 63,⟨.mv (.tmp 0),some 12,some (11,true),127⟩,⟨.mv (.tmp 1),some 13,some (11,true),127⟩,⟨.conv .u64 (.tmp 13),some 14,some (11,true),383⟩,⟨.bin .shr (.tmp 12) (.tmp 14),some 15,some (11,true),1023⟩,⟨.bin .and (.tmp 15) (.const (.int .u32 1)),some 16,some (11,true),2047⟩,⟨.bin .eql (.tmp 16) (.const (.int .u32 1)),some 17,some (11,true),4095⟩,o3 (.pick (.tmp 11) (.tmp 17) (.const (.bool false))) 18 8191,mv' 18 4 16383]
def c29:SC:=(.seq (.reg false yczl) (.seq (.reg false ycwj) .ret))
theorem ycvn:Fn 29 c29 [.t 4]:=fn_0 Tryz.func29 (by kernel_rfl) (by kernel_rfl)
def ycyg:LO:=[o3 (.box 27 (.tmp 0)) 2 0,o3 (.alloc 27 1 [.a (.slice none 0 0),.a (.slice none 0 0)]) 4 0,o3 (.mv (ci' 0)) 5 0]
def ydce:LO:=[ld' true 2 2 11 0,cl' 96 [11] 12 1,o3 (.un .not (.tmp 12)) 13 3]
def ydem:LO:=[o3 (.build [.a (.slice none 0 0),.a (.slice none 0 0)] []) 14 0,o0 (.store 2 (.tmp 4) (.tmp 14)) 1,o3 (.mv (ci' 1)) 5 3]
def ycxv:LO:=[mv' 1 15 0,fa' 0 1 2 16 0,ld' false 1 16 17 2,ln' 17 18 6,cl' 97 [15,18] 19 15,o3 (.un .not (.tmp 19)) 20 31]
def yddy:LO:=[o3 (.build [.a (.slice none 0 0),.a (.slice none 0 0)] []) 21 0,o0 (.store 2 (.tmp 4) (.tmp 21)) 1,o3 (.mv (ci' 2)) 5 3]
def ycyf:LO:=[fa' 0 1 2 22 0,ld' false 1 22 23 1,ln' 23 24 3,cl' 98 [24] 25 7,o3 (.alloc 27 1 [.a (.slice none 0 0),.a (.slice none 0 0)]) 6 0,o0 (.store 2 (.tmp 6) (.tmp 25)) 31]
def ydbe:LO:=[fa' 1 1 2 26 0,ld' false 1 26 27 1,ln' 27 28 3,o3 (.mv (ci' 0)) 29 0]
def ycpk:LO:=[bn' .lss 29 28 30 0]
def ycwe:LO:=[mv' 29 31 0,ix' 1 27 29 32 0,ld' false 1 32 33 2,mv' 31 7 7,mv' 33 8 15]
def yczo:LO:=[fa' 0 1 6 34 0,ld' false 1 34 35 1,mv' 1 36 0,mv' 7 37 0,ix' 1 36 37 38 12,ld' false 1 38 39 28,fa' 0 1 2 40 0,ld' false 1 40 41 64,mv' 7 42 0,ix' 1 41 42 43 448,ld' false 1 43 44 960,ix' 1 35 39 45 2047,o0 (.store 1 (.tmp 45) (.tmp 44)) 4095]
def ycgv:LO:=[mv' 8 46 0,ln' 46 47 1,o3 (.mv (ci' 0)) 48 0]
def ybpx:LO:=[bn' .lss 48 47 49 0]
def ychr:LO:=[ix' 2 46 48 50 0,ld' true 2 50 51 1,o3 (.alloc 95 1 [.i .i64 0,.i .i64 0]) 10 0,o0 (.store 2 (.tmp 10) (.tmp 51)) 7]
def ycdn:LO:=[fa' 1 1 6 52 0,ld' false 1 52 53 1,mv' 1 54 0,mv' 7 55 0,ix' 1 54 55 56 12,ld' false 1 56 57 28,fa' 1 1 6 58 0,ld' false 1 58 59 64,mv' 1 60 0,mv' 7 61 0,ix' 1 60 61 62 768,ld' false 1 62 63 1792,ix' 1 59 63 64 4032,ld' false 1 64 65 8128,mv' 1 66 0,fa' 0 1 10 67 0,ld' false 1 67 68 32768,ix' 1 66 68 69 114688,ld' false 1 69 70 245760,fa' 1 1 10 71 0,ld' false 1 71 72 524288,o3 (.build [.i .i64 0,.i .i64 0] [(0,1,(.tmp 70)),(1,1,(.tmp 72))]) 73 2080768,o3 (.bslice 95 2 1 [.i .i64 0,.i .i64 0] [(0,2,(.tmp 73))]) 74 4177920,o3 (.app 95 2 16 (.tmp 65) (.tmp 74)) 75 8388544,ix' 1 53 57 76 16777215,o0 (.store 1 (.tmp 76) (.tmp 75)) 33554431]
def yclf:LO:=[o3 (.bin .add (.tmp 48) (ci' 1)) 77 0,mv' 77 48 1]
def ycjx:LO:=[o3 (.bin .add (.tmp 29) (ci' 1)) 78 0,mv' 78 29 1]
def ycic:LO:=[ld' true 2 6 79 0,o0 (.store 2 (.tmp 4) (.tmp 79)) 1,o3 (.mv (ci' 0)) 5 3]
def c40:SC:=(.seq (.reg false ycyg) (.seq (.seq (.reg false ydce) (.cond (.tmp 13) (.seq (.reg false ydem) .ret) .skip)) (.seq (.seq (.reg false ycxv) (.cond (.tmp 20) (.seq (.reg false yddy) .ret) .skip)) (.seq (.reg false ycyf) (.seq (.seq (.reg false ydbe) (.block 0 (.loop (.seq (.reg false ycpk) (.seq (.cond (.tmp 30) .skip (.exit 0)) (.seq (.block 1 (.seq (.reg false ycwe) (.seq (.reg true yczo) (.seq (.reg false ycgv) (.block 2 (.loop (.seq (.reg false ybpx) (.seq (.cond (.tmp 49) .skip (.exit 2)) (.seq (.block 3 (.seq (.reg false ychr) (.reg true ycdn))) (.reg false yclf)))))))))) (.reg false ycjx))))))) (.seq (.reg false ycic) .ret))))))
theorem ycqn:FnU 40 c40 [.c 4 true 2,.t 5]:=fn_u Tryz.func40 (by kernel_rfl) (by kernel_rfl)
def ydat:LO:=[o3 (.mv (.const (.bool false))) 4 0]
def ycvz:LO:=[mv' 0 8 0,ln' 8 9 1,mv' 1 10 0,bn' .neq 9 10 11 7]
def ydfb:LO:=[o3 (.mv (.const (.bool false))) 4 0]
def yddo:LO:=[mv' 1 12 0,o3 (.mk 4 1 1 [.b false] (.tmp 12) (.tmp 12)) 13 1,mv' 13 5 3]
def ydbv:LO:=[mv' 0 14 0,ln' 14 15 1,o3 (.mv (ci' 0)) 16 0]
def ycsp:LO:=[bn' .lss 16 15 17 0]
def yczh:LO:=[ix' 1 14 16 18 0,ld' false 1 18 19 1,mv' 19 7 3]
def yday:LO:=[mv' 7 20 0,o3 (.bin .lss (.tmp 20) (ci' 0)) 21 1,mv' 21 22 3,⟨.mv (.tmp 7),some 23,some (22,false),7⟩,⟨.mv (.tmp 1),some 24,some (22,false),7⟩,⟨.bin .geq (.tmp 23) (.tmp 24),some 25,some (22,false),31⟩,o3 (.pick (.tmp 22) (.const (.bool true)) (.tmp 25)) 26 63,mv' 26 27 127,⟨.mv (.tmp 5),some 28,some (27,false),255⟩,⟨.mv (.tmp 7),some 29,some (27,false),255⟩,⟨.idx 1 (.tmp 28) (.tmp 29),some 30,some (27,false),1023⟩,⟨.load false 1 (.tmp 30),some 31,some (27,false),2047⟩,o3 (.pick (.tmp 27) (.const (.bool true)) (.tmp 31)) 32 4095]
def ydff:LO:=[o3 (.mv (.const (.bool false))) 4 0]
def ydbj:LO:=[mv' 5 33 0,mv' 7 34 0,ix' 1 33 34 35 3,o0 (.store 1 (.tmp 35) (.const (.bool true))) 7]
def ycep:LO:=[o3 (.bin .add (.tmp 16) (ci' 1)) 36 0,mv' 36 16 1]
def ycfu:LO:=[o3 (.mv (.const (.bool true))) 4 0]
def c97:SC:=(.seq (.reg false ydat) (.seq (.seq (.reg false ycvz) (.cond (.tmp 11) (.seq (.reg false ydfb) .ret) .skip)) (.seq (.reg false yddo) (.seq (.seq (.reg false ydbv) (.block 0 (.loop (.seq (.reg false ycsp) (.seq (.cond (.tmp 17) .skip (.exit 0)) (.seq (.block 1 (.seq (.reg false yczh) (.seq (.seq (.reg false yday) (.cond (.tmp 32) (.seq (.reg false ydff) .ret) .skip)) (.reg false ydbj)))) (.reg false ycep))))))) (.seq (.reg false ycfu) .ret)))))
theorem ycwo:Fn 97 c97 [.t 4]:=fn_0 Tryz.func97 (by kernel_rfl) (by kernel_rfl)
def yddk:LO:=[o3 (.alloc 27 1 [.a (.slice none 0 0),.a (.slice none 0 0)]) 2 0]
def ycvx:LO:=[mv' 0 5 0,o3 (.mk 3 1 8 [.i .i64 0] (.tmp 5) (.tmp 5)) 6 1,mv' 0 7 0,o3 (.mk 71 1 24 [.a (.slice none 0 0)] (.tmp 7) (.tmp 7)) 8 4,o3 (.build [.a (.slice none 0 0),.a (.slice none 0 0)] [(0,1,(.tmp 6)),(1,1,(.tmp 8))]) 9 15,o3 (.alloc 27 1 [.a (.slice none 0 0),.a (.slice none 0 0)]) 3 0,o0 (.store 2 (.tmp 3) (.tmp 9)) 63]
def ydcd:LO:=[fa' 0 1 3 10 0,ld' false 1 10 11 1,ln' 11 12 3,o3 (.mv (ci' 0)) 13 0]
def ycrm:LO:=[bn' .lss 13 12 14 0]
def yczi:LO:=[mv' 13 15 0,mv' 15 4 1]
def ydcr:LO:=[fa' 0 1 3 16 0,ld' false 1 16 17 1,mv' 4 18 0,mv' 4 19 0,ix' 1 17 18 20 15,o0 (.store 1 (.tmp 20) (.tmp 19)) 31]
def ydbb:LO:=[o3 (.bin .add (.tmp 13) (ci' 1)) 21 0,mv' 21 13 1]
def ycyz:LO:=[ld' true 2 3 22 0,o0 (.store 2 (.tmp 2) (.tmp 22)) 1]
def c98:SC:=(.seq (.reg false yddk) (.seq (.reg true ycvx) (.seq (.seq (.reg false ydcd) (.block 0 (.loop (.seq (.reg false ycrm) (.seq (.cond (.tmp 14) .skip (.exit 0)) (.seq (.block 1 (.seq (.reg false yczi) (.reg false ydcr))) (.reg false ydbb))))))) (.seq (.reg false ycyz) .ret))))
theorem ycpj:FnM 98 c98 [.c 2 true 2]:=fn_m Tryz.func98 (by kernel_rfl) (by kernel_rfl)
end Sh
end Go.Proofs.YtiejahgklcjhkaaGreatDoor

namespace Go.Proofs.YtiejahgklcjhkaaGreatDoor
open Go
namespace Sh
open Ev Go.RowKit
set_option maxRecDepth 8000
theorem ybvw{v:Nat}(h:v<2 ^ 32):IntKind.wrap .u64 (v:Int)=v:=by
 unfold IntKind.wrap;simp[IntKind.bits,IntKind.signed];omega
theorem ybnh{s v:Nat}(hs:s<2 ^ 32)(hv:v<32):Returns Tryz.prog 29 [.i .u32 s,.i .i64 v] (.b (s.testBit v)):=by
 refine Returns.of (ycvn _ _ ?_);have t1:decide ((v:Int) >= 0)=true:=decide_eq_true (by omega)
 have t2:decide ((v:Int)<32)=true:=decide_eq_true (by omega)
 have ht:=ybfg (s:=s) (v:=v) hs;simp only[IntKind.bits]at ht;have e:((((s >>> v &&& 1:Nat):Int)) == 1)=s.testBit v:=by rw[Bool.eq_iff_iff,beq_iff_eq];exact ypc
 simp only[c29,yczl,ycwj,t1,t2,clash,ybvw (show v<2 ^ 32 by omega),ht,e,go_sem,Nat.reduceEqDiff,Nat.reduceAdd,↓reduceIte,reduceCtorEq]
 exact⟨⟨by omega,by show(v:Int)<((32:Nat):Int);omega⟩,Sim.refl _⟩
end Sh
end Go.Proofs.YtiejahgklcjhkaaGreatDoor

namespace Go.Proofs.YtiejahgklcjhkaaGreatDoor
section
variable {g:Gr} {v:Nat}
end
section
variable {g:Gr}
end
end Go.Proofs.YtiejahgklcjhkaaGreatDoor

namespace Go.Proofs.YtiejahgklcjhkaaGreatDoor
open Go
namespace Sh
open Ev Go.RowKit
set_option maxRecDepth 8000
theorem ybtt:∀ k,([]:List Nat).getD k 0<2 ^ 32:=fun k=>by simp
theorem ybsn:∀ k,inK .i64 (([]:List Int).getD k 0):=fun k=>by
 rw[List.getD_nil];exact ikw (by omega) (by omega)
end Sh
end Go.Proofs.YtiejahgklcjhkaaGreatDoor

namespace Go.Proofs.YtiejahgklcjhkaaGreatDoor
section
variable {g:Gr} {t:Nat}
theorem ypz(g:Gr):yec g=((List.range g.ports.length).map fun v=>(g.ports.getD v []).length).sum:=by
 unfold yec;congr 1;refine List.ext_getElem (by simp) fun i h1 h2=>?_
 simp at h1;simp[List.getD,h1]
theorem ybji(ht:t<=g.ports.length):yec (rotG g t)=yec g:=by
 obtain⟨n,hn⟩:∃ n,g.ports.length=n:=⟨_,rfl⟩;rw[ypz (rotG g t),ypz g,ycg,hn];rw[hn]at ht
 have key:∀ w,w<n->((rotG g t).ports.getD w []).length=(g.ports.getD (rotN n (n - t) w) []).length:=fun w hw=>by
  have h1:=yco ht hw;have h2:=yoc (g:=g) (t:=t) (v:=rotN n (n - t) w) (by omega) (by rw[hn];exact yed (Nat.sub_le n t) hw)
  rw[hn,h1]at h2;rw[h2,List.length_map]
 have e1:(List.range n).map (fun v=>((rotG g t).ports.getD v []).length)=(List.range n).map (fun w=>(g.ports.getD (rotN n (n - t) w) []).length):=List.map_congr_left fun w hw=>key w (List.mem_range.1 hw);rw[e1];obtain⟨d,hd⟩:∃ d:Nat->Nat,(fun v=>(g.ports.getD v []).length)=d:=⟨_,rfl⟩;have hd':∀ v,(g.ports.getD v []).length=d v:=fun v=>by rw[<- hd]
 simp only[hd'];obtain⟨s,rfl⟩:∃ s,n=t+s:=⟨n - t,by omega⟩
 have e2:(List.range (t+s)).map (fun w=>d (rotN (t+s) (t+s - t) w))=(List.range t).map (fun w=>d (s+w)) ++ (List.range s).map d:=by
  rw[List.range_add,List.map_append];congr 1
  ·refine List.map_congr_left fun w hw=>?_;have:=List.mem_range.1 hw;unfold rotN;rw[if_pos (by omega)]
   congr 1;omega
  ·rw[List.map_map];refine List.map_congr_left fun w hw=>?_;have:=List.mem_range.1 hw;show d (rotN (t+s) (t+s - t) (t+w))=d w;unfold rotN;rw[if_neg (by omega)]
   congr 1;omega
 have e3:(List.range (t+s)).map d=(List.range s).map d ++ (List.range t).map (fun w=>d (s+w)):=by
  rw[Nat.add_comm t s,List.range_add,List.map_append,List.map_map];rfl
 rw[e2,e3,List.sum_append,List.sum_append,Nat.add_comm]
theorem ybhy(h:ybb g)(ht:t<=g.ports.length)(hi:isTreeB g=true):isTreeB (rotG g t)=true:=by
 unfold isTreeB at hi ⊢;rw[Bool.and_eq_true,decide_eq_true_iff]at hi ⊢;rw[ybji ht,ycg];exact⟨ybdx h ht hi.1,hi.2⟩
def rotV(n t:Nat):List Int:=(List.range n).map fun v=>((rotN n t v:Nat):Int)
theorem ytv(n t:Nat):(rotV n t).length=n:=by simp[rotV]
theorem yzr{n t v:Nat}(hv:v<n):(rotV n t).getD v 0=((rotN n t v:Nat):Int):=by
 unfold rotV;rw[Sh.getD_at (by simpa using hv),List.getElem_map,List.getElem_range]
end
end Go.Proofs.YtiejahgklcjhkaaGreatDoor

namespace Go.Proofs.YtiejahgklcjhkaaGreatDoor
open Go
def rotRow(g:Gr)(t k i w:Nat):List (Int × Int) :=
 if rotN g.ports.length (g.ports.length - t) w<k then(g.ports.getD (rotN g.ports.length (g.ports.length - t) w) []).map (rotL g.ports.length t)
 else if rotN g.ports.length (g.ports.length - t) w=k then((g.ports.getD k []).take i).map (rotL g.ports.length t)else[]
def yua(g:Gr)(t k w:Nat):Int:=if rotN g.ports.length (g.ports.length - t) w<k then g.ids.getD (rotN g.ports.length (g.ports.length - t) w) 0 else(w:Int)
section
variable {g:Gr} {t k i w:Nat}
theorem ybbh:rotRow g t 0 0 w = []:=by
 unfold rotRow;rw[if_neg (Nat.not_lt_zero _)];split<;>rfl
theorem yyn(ht:t<=g.ports.length)(hw:w<g.ports.length)(hne:w ≠ rotN g.ports.length t k):rotRow g t k i w=rotRow g t k 0 w:=by
 unfold rotRow;have:¬ rotN g.ports.length (g.ports.length - t) w=k:=fun e=>hne (by rw[<- e,yco ht hw])
 rw[if_neg this,if_neg this]
theorem yboa(ht:t<=g.ports.length)(hk:k<g.ports.length)(i:Nat):rotRow g t k i (rotN g.ports.length t k)=((g.ports.getD k []).take i).map (rotL g.ports.length t):=by
 unfold rotRow;rw[yhh ht hk,if_neg (Nat.lt_irrefl k),if_pos rfl]
theorem ybcq:rotRow g t k (g.ports.getD k []).length w=rotRow g t (k+1) 0 w:=by
 unfold rotRow
 by_cases q:rotN g.ports.length (g.ports.length - t) w<k
 ·rw[if_pos q,if_pos (by omega)]
 ·rw[if_neg q]
  by_cases r:rotN g.ports.length (g.ports.length - t) w=k
  ·rw[if_pos r,if_pos (by omega),List.take_length,r]
  ·rw[if_neg r,if_neg (by omega)]
   split<;>rfl
theorem ybge(ht:t<=g.ports.length)(hw:w<g.ports.length):rotRow g t g.ports.length 0 w=(rotG g t).ports.getD w []:=by
 have h:=yed (Nat.sub_le g.ports.length t) hw;have e:=yoc (g:=g) (t:=t) (v:=rotN g.ports.length (g.ports.length - t) w) ht h;rw[yco ht hw]at e;unfold rotRow;rw[if_pos h,e]
theorem ybia:yua g t 0 w=(w:Int):=by
 unfold yua;rw[if_neg (Nat.not_lt_zero _)]
theorem ybgc(ht:t<=g.ports.length)(hk:k<g.ports.length)(hw:w<g.ports.length):yua g t (k+1) w=if w=rotN g.ports.length t k then g.ids.getD k 0 else yua g t k w:=by
 unfold yua
 by_cases q:w=rotN g.ports.length t k
 ·rw[if_pos q,q,yhh ht hk,if_pos (Nat.lt_succ_self k)]
 ·have:¬ rotN g.ports.length (g.ports.length - t) w=k:=fun e=>q (by rw[<- e,yco ht hw])
  rw[if_neg q]
  by_cases r:rotN g.ports.length (g.ports.length - t) w<k
  ·rw[if_pos r,if_pos (by omega)]
  ·rw[if_neg r,if_neg (by omega)]
theorem ybqb(ht:t<=g.ports.length)(hw:w<g.ports.length):yua g t g.ports.length w=(rotG g t).ids.getD w 0:=by
 have h:=yed (Nat.sub_le g.ports.length t) hw;have e:=ycxs (g:=g) (t:=t) (v:=rotN g.ports.length (g.ports.length - t) w) ht h;rw[yco ht hw]at e;unfold yua;rw[if_pos h,e]
end
namespace Sh
open Ev Go.RowKit
set_option maxRecDepth 8000
theorem ybws{n t:Nat}(h0:0<n)(h24:n<=24)(ht:t<=n):Returns Tryz.prog 97 [yj (rotV n t),.i .i64 n] (.b true):=by
 refine Returns.of (ycwo _ _ ?_);have hlen:=ytv n t;have hat:=fun v (hv:v<n)=>yzr (t:=t) hv;obtain⟨P,hP⟩:∃ P,rotV n t=P:=⟨_,rfl⟩;rw[hP]at hlen;simp only[hP]at hat;have f1:((n:Int) != (n:Int))=false:=by simp
 simp only[c97,ydat,ycvz,yddo,ydbv,yj,hP,hlen,f1,clash,go_sem,Nat.reduceEqDiff,Nat.reduceAdd,Nat.reduceLT,↓reduceIte,reduceCtorEq];refine⟨⟨by omega,by omega,by omega⟩,?_⟩
 refine ybd (σ:=Nat) (fun k=>⟨[(16,.i .i64 k),(15,.i .i64 n),(14,yj P),(5,.os (13,0) 0 n true),(1,.i .i64 n)],[(13,.one (some ⟨4,false,1,n,fun j=>[.b (decide (rotN n (n - t) j<k))]⟩))]⟩) (fun k=>k<=n) (fun k=>n - k) 0 (Nat.zero_le _) ?_ ?_
 ·refine yg [] [] [] ?_;simp only[yj,hlen,Nat.not_lt_zero,allQ,live,yc,Int.natCast_zero,go_sem,Nat.reduceEqDiff,↓reduceIte,reduceCtorEq]
 intro k hk
 by_cases hlt:k<n
 ·have t1:decide ((k:Int)<(n:Int))=true:=decide_eq_true (by omega)
  have hx:=hat k hlt;have hr:=yed ht hlt;have hb:=yhh ht hlt;obtain⟨r,hre⟩:∃ r,rotN n t k=r:=⟨_,rfl⟩;rw[hre]at hx hr hb;have t2:decide ((r:Int)<0)=false:=decide_eq_false (by omega)
  have t3:decide ((r:Int) >= (n:Int))=false:=decide_eq_false (by omega)
  have t4:decide (rotN n (n - t) r<k)=false:=decide_eq_false (by omega)
  simp only[ycsp,yczh,yday,ydbj,ycep,yj,hlen,hx,t1,t2,t3,t4,splice,clash,go_sem,Nat.reduceEqDiff,Nat.reduceAdd,↓reduceIte,reduceCtorEq];refine⟨by omega,⟨by omega,by omega⟩,by omega,⟨by omega,by omega⟩,by omega,ikw (by omega) (by omega),?_⟩
  refine yh (k+1) (by omega) (by omega) ?_
  refine yg [] [] [] ?_;simp only[allQ,live,yc,yu,go_sem,Nat.reduceEqDiff,↓reduceIte,reduceCtorEq];refine⟨by omega,fun j hj=>?_⟩
  by_cases q:j=r
  ·subst q;have e:decide (rotN n (n - t) j<k+1)=true:=decide_eq_true (by omega)
   simp only[if_pos,e];simp only[go_sem,live,yc,go_sem,reduceCtorEq]
  ·have e:decide (rotN n (n - t) j<k+1)=decide (rotN n (n - t) j<k):=by
    have:rotN n (n - t) j ≠ k:=fun h=>q (by rw[<- hre,<- h,yco ht hj])
    rw[Bool.eq_iff_iff,decide_eq_true_iff,decide_eq_true_iff];omega
   simp only[if_neg q,e];simp only[go_sem,live,yc,go_sem,reduceCtorEq]
 ·obtain rfl:k=n:=by omega
  have t1:decide ((k:Int)<(k:Int))=false:=decide_eq_false (by omega)
  simp only[ycsp,ycfu,t1,go_sem,Nat.reduceEqDiff,↓reduceIte];exact Sim.refl _
theorem ybzm{n:Nat}(h24:n<=24):Cm Tryz.prog 98 [] [] [.i .i64 n] fun r o=>r = .ag [.os (6,0) 0 n true,.os (8,0) 0 n true]/\o = [(6,.one (some ⟨3,false,1,n,fun j=>[.i .i64 j]⟩)),(8,.one (some ⟨71,false,1,n,fun _=>[.a (.slice none 0 0)]⟩))]:=by
 refine ycpj [] [] _ _ _ ?_;simp only[c98,yddk,ycvx,ydcd,splice,clash,go_sem,Nat.reduceEqDiff,Nat.reduceAdd,Nat.reduceLeDiff,Nat.reduceLT,↓reduceIte,reduceCtorEq];refine⟨⟨by omega,by omega,by omega⟩,⟨by omega,by omega,by omega⟩,by decide,?_⟩
 refine ybd (σ:=Nat) (fun k=>⟨[(13,.i .i64 k),(12,.i .i64 n),(3,.pt (3,0) 0 0),(2,.pt (2,0) 0 0)],[(6,.one (some ⟨3,false,1,n,fun j=>[.i .i64 (if j<k then(j:Int)else 0)]⟩)),(8,.one (some ⟨71,false,1,n,fun _=>[.a (.slice none 0 0)]⟩)),
  (3,.one (some ⟨27,true,2,1,fun _=>[.os (6,0) 0 n true,.os (8,0) 0 n true]⟩)),(2,.one (some ⟨27,true,2,1,fun _=>[.a (.slice none 0 0),.a (.slice none 0 0)]⟩))]⟩) (fun k=>k<=n) (fun k=>n - k) 0 (Nat.zero_le _) ?_ ?_
 ·refine yg [] [] [] ?_;simp only[Nat.not_lt_zero,allQ,live,yc,Int.natCast_zero,go_sem,Nat.reduceEqDiff,↓reduceIte,reduceCtorEq]
 intro k hk
 by_cases hlt:k<n
 ·have t1:decide ((k:Int)<(n:Int))=true:=decide_eq_true (by omega)
  simp only[ycrm,yczi,ydcr,ydbb,t1,splice,clash,go_sem,Nat.reduceEqDiff,Nat.reduceAdd,Nat.reduceLeDiff,↓reduceIte,reduceCtorEq];refine⟨⟨by omega,by omega⟩,by omega,ikw (by omega) (by omega),?_⟩
  refine yh (k+1) (by omega) (by omega) ?_
  refine yg [] [] [] ?_;simp only[go_sem,allQ,live,yc,yu,go_sem,Nat.reduceEqDiff,↓reduceIte,reduceCtorEq];refine⟨by omega,fun j hj=>?_⟩
  by_cases q:j=k
  ·subst q;simp only[if_pos (Nat.lt_succ_self j)];simp only[go_sem,live,yc,go_sem,↓reduceIte,reduceCtorEq]
  ·have e:(if j<k+1 then(j:Int)else 0)=if j<k then(j:Int)else 0:=by
    by_cases q1:j<k
    ·rw[if_pos q1,if_pos (by omega)]
    ·rw[if_neg q1,if_neg (by omega)]
   simp only[if_neg q,e];simp only[go_sem,live,yc,go_sem,reduceCtorEq]
 ·obtain rfl:k=n:=by omega
  have t1:decide ((k:Int)<(k:Int))=false:=decide_eq_false (by omega)
  simp only[ycrm,ycyz,t1,splice,clash,yfu,go_sem,Nat.reduceEqDiff,Nat.reduceAdd,↓reduceIte];refine⟨.ag [.os (6,0) 0 k true,.os (8,0) 0 k true],[(6,.one (some ⟨3,false,1,k,fun j=>[.i .i64 j]⟩)),(8,.one (some ⟨71,false,1,k,fun _=>[.a (.slice none 0 0)]⟩))],?_,?_,rfl,rfl⟩
  ·refine yg [] [] [] ?_;simp only[go_sem,allQ,live,yc,yu,go_sem,Nat.reduceEqDiff,↓reduceIte,reduceCtorEq];intro j hj;rw[if_pos hj]
  ·simp only[famCln,yfn,allQ,live,go_sem,Nat.reduceEqDiff,↓reduceIte]
set_option maxHeartbeats 4000000 in
theorem ybaq{g:Gr}(hg:ybb g){t:Nat}(ht:t<=g.ports.length) :
  Returns Tryz.prog 40 [grV g,yj (rotV g.ports.length t)] (.tp [grV (rotG g t),.i .i64 0]):=by
 refine Returns.of (ycqn [98] _ _ ?_);have hV:=ymt (yblv hg);rw[(ycw g).2 hg]at hV;have h0:=hg.1;have h24:=hg.2.1;have hpl:=hg.2.2.1;have hPm:=ybws (n:=g.ports.length) (t:=t) h0 h24 ht;have hPl:=ytv g.ports.length t;have hPa:=fun v (hv:v<g.ports.length)=>yzr (n:=g.ports.length) (t:=t) hv;have hrl:=fun v (hv:v<g.ports.length)=>yed (n:=g.ports.length) ht hv;have hro:=fun k i w hw hne=>yyn (g:=g) ht (k:=k) (i:=i) (w:=w) hw hne
 have hra:=fun k (hk:k<g.ports.length) i=>yboa (g:=g) ht hk i;have hrn:=fun k w=>ybcq (g:=g) (t:=t) (k:=k) (w:=w);have hre:=fun w hw=>ybge (g:=g) ht (w:=w) hw;have hr0:=fun w=>ybbh (g:=g) (t:=t) (w:=w);have hi0:=fun w=>ybia (g:=g) (t:=t) (w:=w);have hin:=fun k w hw hk=>ybgc (g:=g) ht (k:=k) (w:=w) hk hw;have hie:=fun w hw=>ybqb (g:=g) ht (w:=w) hw;obtain⟨R,hR⟩:∃ R:Nat->Nat->Nat->List (Int × Int),(fun k i w=>rotRow g t k i w)=R:=⟨_,rfl⟩
 have hR':∀ k i w,rotRow g t k i w=R k i w:=fun k i w=>by rw[<- hR]
 obtain⟨I,hI⟩:∃ I:Nat->Nat->Int,(fun k w=>yua g t k w)=I:=⟨_,rfl⟩;have hI':∀ k w,yua g t k w=I k w:=fun k w=>by rw[<- hI]
 simp only[hR']at hro hra hrn hre hr0;simp only[hI']at hi0 hin hie;obtain⟨P,hP⟩:∃ P,rotV g.ports.length t=P:=⟨_,rfl⟩;rw[hP]at hPm hPl hPa ⊢;obtain⟨n,hn⟩:∃ n,g.ports.length=n:=⟨_,rfl⟩;rw[hn]at hPm hPl hPa hrl h0 h24 hpl hro hra hre hin hie;simp only[grV]at hV;simp only[yj,hPl]at hPm;simp only[c40,ycyg,ydce,grV,clash,go_sem,Nat.reduceEqDiff,Nat.reduceAdd,Nat.reduceLT,Nat.reduceBEq,↓reduceIte];refine hV.use ?_
 simp only[thenO,ycxv,yj,hPl,hpl,clash,go_sem,Nat.reduceEqDiff,Nat.reduceAdd,Nat.reduceLeDiff,Nat.reduceBEq,↓reduceIte,reduceCtorEq];refine hPm.use ?_;simp only[ycyf,clash,go_sem,Nat.reduceEqDiff,Nat.reduceAdd,Nat.reduceLeDiff,↓reduceIte,reduceCtorEq];refine callM_of (ybzm (n:=n) h24) [(6,206),(8,208)] 0 [1,2,4] [2,4] ?_ ?_
 ·simp only[go_sem,okN,famCln,yfn,keepF,keepO,allQ,live,yc,go_sem,Nat.reduceEqDiff,Nat.reduceBEq,↓reduceIte,reduceCtorEq]
 rintro r o' ⟨rfl,rfl⟩;simp only[ydbe,yw,hn,clash,thenM,ylo,nuF,nu,difN,keepF,keepO,Fam.ren,OB.ren,dim,ygk,ybxa,yry,yki,go_sem,Nat.reduceEqDiff,Nat.reduceAdd,Nat.reduceLT,Nat.reduceBEq,↓reduceIte,reduceCtorEq]
 refine ybd (σ:=Nat) (fun k=>⟨[(29,.i .i64 k),(28,.i .i64 n),(27,.sl 1 n fun v=>[yba (g.ports.getD v [])]),(1,.sl 1 n fun k=>[.i .i64 (P.getD k 0)]),(2,.pt (2,0) 0 0),(4,.pt (4,0) 0 0),(6,.pt (6,0) 0 0)],
   [(2,.one (some ⟨27,true,2,1,fun _=>[yj g.ids,yw g.ports]⟩)),(4,.one (some ⟨27,true,2,1,fun _=>[.a (.slice none 0 0),.a (.slice none 0 0)]⟩)),(6,.one (some ⟨27,true,2,1,fun _=>[.os (206,0) 0 n true,.os (208,0) 0 n true]⟩)),
   (206,.one (some ⟨3,false,1,n,fun w=>[.i .i64 (I k w)]⟩)),(208,.one (some ⟨71,false,1,n,fun w=>[.os (212,w) 0 (R k 0 w).length true]⟩)),(212,.many fun w=>if w<n then some (rowO (R k 0 w))else none)]⟩) (fun k=>k<=n) (fun k=>n - k) 0 (Nat.zero_le _) ?_ ?_
 ·refine yg [] [212] [] ?_;simp only[yj,yw,hn,hpl,rowO,hr0,hi0,List.length_nil,allQ,live,yc,Int.natCast_zero,go_sem,Nat.reduceEqDiff,Nat.reduceBEq,↓reduceIte,reduceCtorEq];refine⟨fun i hi=>⟨(212,i),rfl,rfl,by simp[hi]⟩,fun i b hb=>?_⟩
  obtain⟨_,rfl⟩:=ydu hb;exact⟨rfl,rfl⟩
 intro k hk
 by_cases hlt:k<n
 ·have t1:decide ((k:Int)<(n:Int))=true:=decide_eq_true (by omega)
  have hpk:=hPa k hlt;have hrk:=hrl k hlt;have hRa:=hra k hlt;have hRo:=fun i w hw hne=>hro k i w hw hne;have hRn:=hrn k;have hIn:=fun w hw=>hin k w hw hlt;have hdeg:=hg.deg_lt (v:=k);have hadj:=fun(l:Int × Int) (hl:l ∈ g.ports.getD k [])=>ydo hg (show k<g.ports.length by omega) hl
  obtain⟨pv,hpv⟩:∃ x,rotN n t k=x:=⟨_,rfl⟩;rw[hpv]at hpk hrk;simp only[hpv]at hRa hRo hIn;obtain⟨L,hL⟩:∃ L,g.ports.getD k []=L:=⟨_,rfl⟩;obtain⟨d,hd⟩:∃ d,L.length=d:=⟨_,rfl⟩;simp only[hL,hd]at hRa hRn hdeg hadj;simp(maxSteps:=5000000) only [ycpk,ycwe,yczo,ycgv,t1,hL,hd,yba,hpk,yw,yj,hn,hpl,splice,clash,go_sem,Nat.reduceEqDiff,Nat.reduceAdd,Nat.reduceLeDiff,↓reduceIte,reduceCtorEq];refine⟨⟨by omega,by omega⟩,⟨by omega,by omega⟩,⟨by omega,by omega⟩,⟨by omega,by omega⟩,hrk,?_⟩
  refine ybd (σ:=Nat) (fun i=>⟨[(48,.i .i64 i),(47,.i .i64 d),(46,.sl 2 d fun j=>[.i .i64 (L.getD j (0,0)).1,.i .i64 (L.getD j (0,0)).2]),(7,.i .i64 k),(29,.i .i64 k),(28,.i .i64 n),(27,.sl 1 n fun v=>[yba (g.ports.getD v [])]),(1,.sl 1 n fun k=>[.i .i64 (P.getD k 0)]),(2,.pt (2,0) 0 0),(4,.pt (4,0) 0 0),(6,.pt (6,0) 0 0)],
    [(2,.one (some ⟨27,true,2,1,fun _=>[yj g.ids,yw g.ports]⟩)),(4,.one (some ⟨27,true,2,1,fun _=>[.a (.slice none 0 0),.a (.slice none 0 0)]⟩)),(6,.one (some ⟨27,true,2,1,fun _=>[.os (206,0) 0 n true,.os (208,0) 0 n true]⟩)),
    (206,.one (some ⟨3,false,1,n,fun w=>[.i .i64 (I (k+1) w)]⟩)),(208,.one (some ⟨71,false,1,n,fun w=>[.os (212,w) 0 (R k i w).length true]⟩)),(212,.many fun w=>if w<n then some (rowO (R k i w))else none)]⟩) (fun i=>i<=d) (fun i=>d - i) 0 (Nat.zero_le _) ?_ ?_
  ·refine yg [] [] [] ?_;simp only[yj,yw,yba,hn,hpl,allQ,live,yc,Int.natCast_zero,go_sem,Nat.reduceEqDiff,↓reduceIte,reduceCtorEq];refine⟨fun _ _ _ _ e=>e,fun w hw=>?_,fun w hw=>by rw[if_pos hw],fun w b hb=>⟨b,hb,⟨rfl,rfl,rfl,rfl⟩,fun j hj=>?_⟩⟩
   ·have e:=hIn w hw
    by_cases q:w=pv
    ·rw[if_pos q]at e ⊢;simp only[e,live,yc,go_sem,reduceCtorEq]
    ·rw[if_neg q]at e ⊢;simp only[e,live,yc,go_sem,reduceCtorEq]
   ·obtain⟨_,rfl⟩:=ydu hb;simp only[rowO,live,yc,go_sem,reduceCtorEq]
  intro i hi
  by_cases hlti:i<d
  ·have t2:decide ((i:Int)<(d:Int))=true:=decide_eq_true (by omega)
   have hm:L.getD i (0,0) ∈ L:=by rw[getD_at (show i<L.length by omega)];exact List.getElem_mem _
   obtain⟨l,hl⟩:∃ l,L.getD i (0,0)=l:=⟨_,rfl⟩;rw[hl]at hm;obtain⟨a1,a2,_,_⟩:=hadj l hm;have hpl2:=hPa l.1.toNat (by omega)
   simp(maxSteps:=5000000) only [ybpx,ychr,ycdn,yclf,t2,hl,hpk,hpl2,rowO,if_pos hrk,splice,clash,go_sem,Nat.reduceEqDiff,Nat.reduceAdd,Nat.reduceLeDiff,Nat.reduceLT,↓reduceIte,reduceCtorEq];have hlen:(R k i pv).length=i:=by rw[hRa i,List.length_map,List.length_take];omega
   refine⟨⟨by omega,by omega⟩,⟨by omega,by omega⟩,⟨by omega,by omega⟩,⟨by omega,by omega⟩,hrk,⟨by omega,by omega⟩,⟨by omega,by omega⟩,by decide,⟨by omega,by omega⟩,hrk,by decide,ikw (by omega) (by omega),?_⟩
   refine yh (i+1) (by omega) (by omega) ?_
   have hnew:R k (i+1) pv=R k i pv ++ [rotL n t l]:=by
    rw[hRa,hRa,List.take_succ_eq_append_getElem (show i<L.length by omega),List.map_append,<- getD_at (show i<L.length by omega) (d:=(0,0)),hl]
    rfl
   have hsame:∀ w,w<n->w ≠ pv->R k (i+1) w=R k i w:=fun w hw hne=>by rw[hRo _ _ hw hne,hRo i _ hw hne]
   have hlen1:(R k (i+1) pv).length=i+1:=by rw[hnew,List.length_append,hlen];rfl
   have ep:(if pv=pv then((75:Nat),(0:Nat))else(212,pv))=(75,0):=if_pos rfl
   have ne1:∀ (c w:Nat),c ≠ 75->c ≠ 212->(c,0) ≠ (if w=pv then((75:Nat),(0:Nat))else(212,w)):=fun c w h1 h2 e=>by
    split at e<;>cases e
    ·exact h1 rfl
    ·exact h2 rfl
   refine yg [(212,fun w=>if w=pv then(75,0)else(212,w))] [] [] ?_
   simp only[yj,yw,yba,hn,hpl,allQ,live,yc,yu,go_sem,Nat.reduceEqDiff,↓reduceIte,reduceCtorEq]
   refine⟨⟨fun w _ e=>ne1 _ _ (by decide) (by decide) e,fun w _ e=>ne1 _ _ (by decide) (by decide) e,fun w _ e=>ne1 _ _ (by decide) (by decide) e,fun w _ e=>ne1 _ _ (by decide) (by decide) e,fun w _ e=>ne1 _ _ (by decide) (by decide) e,
    fun w _ e=>ne1 _ _ (by decide) (by decide) e.symm,fun w _ e=>ne1 _ _ (by decide) (by decide) e.symm,fun w _ e=>ne1 _ _ (by decide) (by decide) e.symm,fun w _ e=>ne1 _ _ (by decide) (by decide) e.symm,fun w _ e=>ne1 _ _ (by decide) (by decide) e.symm,
    fun u _ v _ e=>?_⟩,by omega,fun w hw=>?_,fun w b hb=>?_⟩
   ·by_cases q1:u=pv
    ·by_cases q2:v=pv
     ·rw[q1,q2]
     ·rw[if_pos q1,if_neg q2]at e;cases e
    ·by_cases q2:v=pv
     ·rw[if_neg q1,if_pos q2]at e;cases e
     ·rw[if_neg q1,if_neg q2]at e;exact congrArg Prod.snd e
   ·by_cases q:w=pv
    ·rw[if_pos q,q,hlen,hlen1];simp only[if_pos hrk,live,yc,go_sem,Nat.reduceEqDiff,↓reduceIte,reduceCtorEq]
    ·have en:(if w=pv then((75:Nat),(0:Nat))else(212,w))=(212,w):=if_neg q
     rw[if_neg q,hsame w hw q];simp only[en,if_pos hw,live,yc,go_sem,Nat.reduceEqDiff,↓reduceIte,reduceCtorEq]
   ·obtain⟨hw,rfl⟩:=ydu hb
    by_cases q:w=pv
    ·rw[q];refine⟨⟨95,false,2,(R k i pv).length+1,fun j=>if j<(R k i pv).length then[SV.i .i64 ((R k i pv).getD j (0,0)).1,SV.i .i64 ((R k i pv).getD j (0,0)).2]else List.take 2 (List.drop ((j - (R k i pv).length) * 2) [SV.i .i64 (rotL n t l).1,SV.i .i64 (rotL n t l).2])⟩,by rw[ep];rfl,⟨rfl,rfl,rfl,by rw[hlen1];exact congrArg (· + 1) hlen⟩,fun j hj=>?_⟩
     have hj:j<(R k i pv).length+1:=by have hj:j<(R k (i+1) pv).length:=hj;omega
     have hc:=ypw (R k i pv) (rotL n t l) hj;show telL _ _ _ _ _ (if j<(R k i pv).length then[SV.i .i64 ((R k i pv).getD j (0,0)).1,SV.i .i64 ((R k i pv).getD j (0,0)).2]else List.take 2 (List.drop ((j - (R k i pv).length) * 2) [SV.i .i64 (rotL n t l).1,SV.i .i64 (rotL n t l).2])) [SV.i .i64 ((R k (i+1) pv).getD j (0,0)).1,SV.i .i64 ((R k (i+1) pv).getD j (0,0)).2]
     rw[hc,hnew];exact⟨.inl ⟨trivial,Sim.refl _,rfl⟩,rfl,.inl ⟨trivial,Sim.refl _,rfl⟩,rfl,trivial⟩
    ·have en:(if w=pv then((75:Nat),(0:Nat))else(212,w))=(212,w):=if_neg q
     refine⟨rowO (R k i w),by rw[en];show(if w=pv then none else if w<n then some (rowO (R k i w))else none)=some _;rw[if_neg q,if_pos hw],⟨rfl,rfl,rfl,by rw[hsame w hw q];rfl⟩,fun j hj=>?_⟩
     rw[hsame w hw q];exact⟨.inl ⟨trivial,Sim.refl _,rfl⟩,rfl,.inl ⟨trivial,Sim.refl _,rfl⟩,rfl,trivial⟩
  ·obtain rfl:i=d:=by omega
   have t2:decide ((i:Int)<(i:Int))=false:=decide_eq_false (by omega)
   simp(maxSteps:=5000000) only [ybpx,ycjx,t2,clash,go_sem,Nat.reduceEqDiff,Nat.reduceAdd,↓reduceIte,reduceCtorEq];refine⟨ikw (by omega) (by omega),?_⟩
   refine yh (k+1) (by omega) (by omega) ?_
   refine yg [] [] [] ?_;simp only[yj,yw,yba,hn,hpl,hRn,allQ,live,yc,yu,go_sem,Nat.reduceEqDiff,↓reduceIte,reduceCtorEq];refine⟨fun _ _ _ _ e=>e,by omega,fun w hw=>by rw[if_pos hw],fun w b hb=>⟨b,hb,⟨rfl,rfl,rfl,rfl⟩,fun j hj=>?_⟩⟩
   obtain⟨_,rfl⟩:=ydu hb;simp only[rowO,live,yc,go_sem,reduceCtorEq]
 ·obtain rfl:k=n:=by omega
  have t1:decide ((k:Int)<(k:Int))=false:=decide_eq_false (by omega)
  have g1:(rotG g t).ids.length=k:=by rw[ybdq,hn]
  have g2:(rotG g t).ports.length=k:=by rw[ycg,hn]
  simp only[ycpk,ycic,t1,g1,g2,splice,clash,go_sem,Nat.reduceEqDiff,Nat.reduceAdd,↓reduceIte];refine⟨fun q hq=>?_,ybpb ⟨yqk ⟨sim_sl fun w hw=>?_,ygm fun q hq=>?_,trivial⟩,Sim.refl _,trivial⟩⟩
  ·rw[if_pos hq];exact⟨Nat.le_refl _,fun j hj=>by simp only[rowO,go_sem]⟩
  ·rw[hie w hw]
  ·rw[if_pos hq];simp only[rowO,yba,hre q hq,go_sem];exact⟨Sim.refl _,trivial⟩
end Sh
end Go.Proofs.YtiejahgklcjhkaaGreatDoor

namespace Go.Proofs.YtiejahgklcjhkaaGreatDoor
open Go
namespace Sh
open Ev Go.RowKit
set_option maxRecDepth 8000
set_option maxHeartbeats 8000000 in
theorem ybfz{x:NetR}(hx:x.ok){turn:Int}(ht:inK .i64 turn):Returns Tryz.prog 7 [.ag (netC x),.i .i64 turn] (.b true):=by
 refine Returns.of (ydeg _ _ ?_);have hC:=Tree_ret hx (most:=10) (by omega)
 simp only[netC]at hC;simp only[c7,c7_0,c7_1,netC,clash,go_sem,Nat.reduceEqDiff,Nat.reduceAdd,Nat.reduceLT,↓reduceIte];refine hC.found (V:=grV) (fun r g h=>h.2.2.2) fun r g h=>?_;obtain⟨hT,hit,hn8,-⟩:=h;have hg:=hT.good;have h0:=hg.1;have h24:=hg.2.1;obtain⟨nn,hnn⟩:∃ m,g.ports.length=m:=⟨_,rfl⟩;have hin:=yds (v:=turn) (m:=(nn:Int)) (by omega)
 obtain⟨t,htt⟩:∃ t:Nat,ycy turn nn=t:=Int.eq_ofNat_of_zero_le hin.1;have hW:=ydr turn nn (by omega) ht
 rw[htt]at hW hin;have htn:t<nn:=by omega
 have hT2:=ytx hT (t:=t) (by omega)
 have hit2:=ybhy hg (t:=t) (by omega) hit
 have hRl:=ybaq hg (t:=t) (by omega)
 obtain⟨H,hH⟩:∃ H,rotG g t=H:=⟨_,rfl⟩;have hHn:H.ports.length=nn:=by rw[<- hH,ycg,hnn]
 rw[hH]at hT2 hit2 hRl;have hg2:=hT2.good;have hI:=yblv hg;have hI2:=yblv hg2;have hCh:Checked (Lies CqB Cqv) (Lies CqC Cqr) CqP g:=⟨hg,ybhl,ybct hg,ybfq⟩;have hCh2:Checked (Lies CqB Cqv) (Lies CqC Cqr) CqP H:=⟨hg2,ybhl,ybct hg2,ybfq⟩;have hTx:=ybsi;have hVs:=ybij;have hCf:=ysq hg ybhl hCh.hf (raw:=[]) ybsn;have hCf2:=ysq hg2 ybhl hCh2.hf (raw:=[]) ybsn
 have hrm:=fun v (hv:v<nn)=>ycpy (n:=nn) (t:=t) (v:=v) htn hv;rw[hnn]at hRl h24;simp only[grV]at hCf hCf2 hRl;simp only[thenO,c7_2,grV,yw,hnn,clash,go_sem,Nat.reduceEqDiff,Nat.reduceAdd,Nat.reduceLT,↓reduceIte,reduceCtorEq];simp only[thenO,c7_3,clash,go_sem,Nat.reduceEqDiff,Nat.reduceAdd,↓reduceIte,reduceCtorEq];refine hW.use ?_;simp only[c7_4,c7_5,clash,go_sem,Nat.reduceEqDiff,Nat.reduceAdd,Nat.reduceLT,↓reduceIte,reduceCtorEq]
 refine⟨⟨by omega,by omega,by omega⟩,?_⟩
 have hPl:=ytv nn t;have hPa:=fun v (hv:v<nn)=>yzr (n:=nn) (t:=t) hv;obtain⟨P,hP⟩:∃ P,rotV nn t=P:=⟨_,rfl⟩;rw[hP]at hRl hPl hPa
 refine ybd (σ:=Nat) (fun v=>if v<nn then⟨[(8,.i .i64 v),(7,.os (29,0) 0 nn true),(1,.i .i64 t),(6,.i .i64 nn),(5,.pt (5,0) 0 0)],[(29,.one (some ⟨3,false,1,nn,fun j=>[.i .i64 (if j<v then(rotN nn t j:Int)else 0)]⟩)),(5,.one (some ⟨27,true,2,1,fun _=>[yj g.ids,yw g.ports]⟩))]⟩
   else⟨[(8,.i .i64 v),(7,yj P),(1,.i .i64 t),(6,.i .i64 nn),(5,.pt (5,0) 0 0)],[(5,.one (some ⟨27,true,2,1,fun _=>[yj g.ids,yw g.ports]⟩))]⟩) (fun v=>v<=nn) (fun v=>nn - v) 0 (Nat.zero_le _) ?_ ?_
 ·rw[if_pos (show 0<nn by omega)]
  refine yg [] [] [] ?_;simp only[yw,hnn,Nat.not_lt_zero,allQ,live,yc,Int.natCast_zero,go_sem,Nat.reduceEqDiff,↓reduceIte,reduceCtorEq]
 intro v hv
 by_cases hlt:v<nn
 ·rw[if_pos hlt];have t1:decide ((v:Int)<(nn:Int))=true:=decide_eq_true (by omega)
  have z1:(((nn:Nat):Int) == 0)=false:=by rw[beq_eq_false_iff_ne];omega
  have e:((v:Int)+(t:Int)).tmod (nn:Int)=((rotN nn t v:Nat):Int):=by
   rw[Int.tmod_eq_emod_of_nonneg (by omega),<- hrm v hlt]
   push_cast
   rfl
  have upd:∀ j,(if j=v then((rotN nn t v:Nat):Int)else if j<v then((rotN nn t j:Nat):Int)else 0)=if j<v+1 then((rotN nn t j:Nat):Int)else 0:=fun j=>by
   by_cases q:j=v
   ·rw[if_pos q,if_pos (by omega),q]
   ·rw[if_neg q]
    by_cases q1:j<v
    ·rw[if_pos q1,if_pos (by omega)]
    ·rw[if_neg q1,if_neg (by omega)]
  simp only[c7_6,c7_7,c7_8,t1,e,splice,clash,go_sem,Nat.reduceEqDiff,Nat.reduceAdd,↓reduceIte,reduceCtorEq];refine⟨ikw (by omega) (by omega),by omega,⟨by omega,by omega⟩,by omega,ikw (by omega) (by omega),?_⟩
  refine yh (v+1) (by omega) (by omega) ?_
  by_cases hl2:v+1<nn
  ·rw[if_pos hl2];refine yg [] [] [] ?_;simp only[go_sem,allQ,live,yc,yu,go_sem,Nat.reduceEqDiff,↓reduceIte,reduceCtorEq];refine⟨by omega,fun j hj=>?_⟩
   rw[<- upd j]
   by_cases q:j=v
   ·subst q;simp only[if_pos];simp only[go_sem,live,yc,go_sem,reduceCtorEq]
   ·simp only[if_neg q];simp only[go_sem,live,yc,go_sem,reduceCtorEq]
  ·rw[if_neg hl2];refine yg [] [] [(29,0)] ?_;simp only[yj,hPl,allQ,live,yc,yu,go_sem,Nat.reduceEqDiff,Nat.reduceLeDiff,↓reduceIte,reduceCtorEq];refine⟨fun k _=>by split<;>rfl,by omega,sim_sl fun k hk'=>?_⟩
   rw[hPa k hk']
   by_cases q:k=v
   ·rw[if_pos q,q]
   ·rw[if_neg q,if_pos (show k<v by omega)]
 ·rw[if_neg hlt];obtain rfl:v=nn:=by omega
  have t1:decide ((v:Int)<(v:Int))=false:=decide_eq_false (by omega)
  simp(maxSteps:=5000000) only [c7_6,c7_9,t1,clash,go_sem,Nat.reduceEqDiff,Nat.reduceAdd,↓reduceIte,reduceCtorEq];refine hRl.use ?_;simp(maxSteps:=5000000) only [thenO,ydas,clash,go_sem,Nat.reduceEqDiff,Nat.reduceAdd,Nat.reduceLT,↓reduceIte,reduceCtorEq];refine hTx.use ?_;simp(maxSteps:=5000000) only [go_sem];refine hVs.use ?_;simp(maxSteps:=5000000) only [go_sem,↓reduceIte];refine⟨by decide,(Ct.simL hCf (show SimL [.ag [yj g.ids,yw g.ports],ych CqP.vars,.a (.slice none 0 0)] _ from⟨Sim.refl _,Sim.refl _,yve,trivial⟩)).found (V:=ybe) (fun r c h=>h.2) fun r c h=>?_⟩
  obtain⟨hcv,-⟩:=h;simp(maxSteps:=5000000) only [go_sem];refine⟨by decide,(Ct.simL (ytd [] ybtt 12 (by omega)) (show SimL [.a (.slice none 0 0),.i .i64 12] _ from⟨yve,Sim.refl _,trivial⟩)).found (V:=usV) (fun r ws h=>h.2.2) fun r ws h=>?_⟩
  obtain⟨hwl,hw,-⟩:=h;have hRun:=ybkq ytg hCh (kind:=4) (by omega) (ybsk _) hcv hw (by omega)
  obtain⟨m,Cs,Ks,hD⟩:=runD (ybl CqP g) resS ws c;have hpos:=hD.pos;have hle:=hD.le;obtain⟨C,hCe⟩:∃ C,Cs.getD (m - 1) []=C:=⟨_,rfl⟩;have hCv:yfp CqP g C=true:=by rw[<- hCe];exact(yqx hT yzy hcv _ (hD.at_ (show m - 1<m by omega)).1).valid
  have hR:yhb g C:=by rw[<- hCe];exact ynf hT hcv hD (by omega)
  have hCt:=ypp hI (ybfi (yin hg ybhl hCv))
  have hcp:ybih g C=yem (fun v=>(C.getD v []).getD 0 0) g:=by
   unfold ybih;rw[if_pos (ycff hT hit hCv)]
  rw[hcp]at hCt;rw[hD.cs,hD.ks]at hRun;simp only[grV,ydc,ygl,hD.lC,hD.lK]at hRun;simp only[grV]at hCt;simp(maxSteps:=5000000) only [go_sem,↓reduceIte];refine⟨by decide,hRun.use ?_⟩
  simp(maxSteps:=5000000) only [thenO,ydci,clash,go_sem,Nat.reduceEqDiff,Nat.reduceAdd,↓reduceIte,reduceCtorEq];refine⟨by decide,hTx.use ?_⟩
  simp(maxSteps:=5000000) only [go_sem];refine hVs.use ?_;simp(maxSteps:=5000000) only [go_sem,↓reduceIte];refine⟨by decide,(Ct.simL hCf2 (show SimL [.ag [yj H.ids,yw H.ports],ych CqP.vars,.a (.slice none 0 0)] _ from⟨Sim.refl _,Sim.refl _,yve,trivial⟩)).found (V:=ybe) (fun r c h=>h.2) fun r c2 h=>?_⟩
  obtain⟨hcv2,-⟩:=h;simp(maxSteps:=5000000) only [go_sem];refine⟨by decide,(Ct.simL (ytd [] ybtt 12 (by omega)) (show SimL [.a (.slice none 0 0),.i .i64 12] _ from⟨yve,Sim.refl _,trivial⟩)).found (V:=usV) (fun r ws h=>h.2.2) fun r ws2 h=>?_⟩
  obtain⟨hwl2,hw2,-⟩:=h;have hRun2:=ybkq ytg hCh2 (kind:=4) (by omega) (ybsk _) hcv2 hw2 (by omega)
  obtain⟨m2,Ds,Ls,hD2⟩:=runD (ybl CqP H) resS ws2 c2;have hpos2:=hD2.pos;have hle2:=hD2.le;obtain⟨D,hDe⟩:∃ D,Ds.getD (m2 - 1) []=D:=⟨_,rfl⟩;have hDv:yfp CqP H D=true:=by rw[<- hDe];exact(yqx hT2 yzy hcv2 _ (hD2.at_ (show m2 - 1<m2 by omega)).1).valid
  have hR2:yhb H D:=by rw[<- hDe];exact ynf hT2 hcv2 hD2 (by omega)
  have hCt2:=ypp hI2 (ybfi (yin hg2 ybhl hDv))
  have hcp2:ybih H D=yem (fun v=>(D.getD v []).getD 0 0) H:=by
   unfold ybih;rw[if_pos (ycff hT2 hit2 hDv)]
  rw[hcp2]at hCt2;rw[hD2.cs,hD2.ks]at hRun2;simp only[grV,ydc,ygl,hD2.lC,hD2.lK]at hRun2;simp only[grV]at hCt2;have hrot:=fun v (hv:v<g.ports.length)=>ybqf hT (t:=t) (by omega) (c:=C) (d:=D) hR (by rw[hH];exact hR2) (v:=v) hv
  have hne:=ybyk hT hR
  have hplt:∀ (G:Gr) (hG:ybb G) (f:Nat->Int),yem f G<2 ^ 24:=fun G hG f=>by
   have h24:=hG.2.1;refine Nat.lt_pow_two_of_testBit _ fun i hi=>?_;cases h:(yem f G).testBit i with
   | false=>rfl
   | true=>have:=((yyc hG).1 h).1;omega
  have hS24:=hplt g hg fun v=>(C.getD v []).getD 0 0;have hU24:=hplt H hg2 fun v=>(D.getD v []).getD 0 0;rw[hH]at hrot;obtain⟨S,hS⟩:∃ S,yem (fun v=>(C.getD v []).getD 0 0) g=S:=⟨_,rfl⟩;obtain⟨U,hU⟩:∃ U,yem (fun v=>(D.getD v []).getD 0 0) H=U:=⟨_,rfl⟩;rw[hS]at hCt hne hS24;rw[hU]at hCt2 hU24;simp only[hS,hU]at hrot;have e1:((m:Int) - 1).toNat=m - 1:=by omega
  have e2:((m2:Int) - 1).toNat=m2 - 1:=by omega
  simp(maxSteps:=5000000) only [go_sem,↓reduceIte];refine⟨by decide,hRun2.use ?_⟩
  simp(maxSteps:=5000000) only [thenO,ydbz,ydah,e1,e2,hCe,hDe,Int.reduceBNe,clash,go_sem,Nat.reduceEqDiff,Nat.reduceAdd,↓reduceIte,reduceCtorEq];refine⟨by decide,ikw (by omega) (by omega),⟨by omega,by omega⟩,hCt.use ?_⟩
  simp(maxSteps:=5000000) only [go_sem];refine⟨ikw (by omega) (by omega),⟨by omega,by omega⟩,hCt2.use ?_⟩
  have hPk:=hPa;simp(maxSteps:=5000000) only [ydar,go_sem];refine ybd (σ:=Nat) (fun k=>⟨[(19,.i .i64 k),(17,.i .u32 S),(18,.i .u32 U),(7,.sl 1 v fun k=>[.i .i64 (P.getD k 0)]),(6,.i .i64 v)],[]⟩) (fun k=>k<=v) (fun k=>v - k) 0 (Nat.zero_le _) ?_ ?_
  ·refine yg [] [] [] ?_;simp only[yj,hPl,allQ,live,yc,Int.natCast_zero,go_sem,Nat.reduceEqDiff,↓reduceIte,reduceCtorEq]
  intro k hk
  by_cases hlk:k<v
  ·have t2:decide ((k:Int)<(v:Int))=true:=decide_eq_true (by omega)
   have hx1:=hPa k hlk;have hrl:=yed (n:=v) (t:=t) (by omega) hlk
   have hq:=hrot k (by omega)
   rw[hnn]at hq;have hH1:=ybnh (s:=S) (v:=k) (by omega) (by omega)
   have hH2:=ybnh (s:=U) (v:=rotN v t k) (by omega) (by omega)
   obtain⟨r,hr⟩:∃ r,rotN v t k=r:=⟨_,rfl⟩;rw[hr]at hx1 hrl hq hH2;obtain⟨b,hb⟩:∃ b,S.testBit k=b:=⟨_,rfl⟩;rw[hb]at hH1 hq;rw[<- hq]at hH2;have f1:(b != b)=false:=by cases b<;>rfl
   simp(maxSteps:=5000000) only [ycuk,ydbw,t2,clash,go_sem,Nat.reduceEqDiff,Nat.reduceAdd,↓reduceIte,reduceCtorEq];refine hH1.use ?_;simp(maxSteps:=5000000) only [thenO,hx1,clash,go_sem,Nat.reduceEqDiff,Nat.reduceAdd,↓reduceIte,reduceCtorEq];refine⟨⟨by omega,by omega⟩,hH2.use ?_⟩
   simp(maxSteps:=5000000) only [yczb,f1,clash,go_sem,Nat.reduceEqDiff,Nat.reduceAdd,↓reduceIte,reduceCtorEq];refine⟨ikw (by omega) (by omega),yh (k+1) (by omega) (by omega) ?_⟩
   refine yg [] [] [] ?_;simp only[allQ,live,yc,yu,go_sem,Nat.reduceEqDiff,↓reduceIte,reduceCtorEq];omega
  ·obtain rfl:k=v:=by omega
   have t2:decide ((k:Int)<(k:Int))=false:=decide_eq_false (by omega)
   have hK:=yzi;have f1:((S:Int) != 0)=true:=by rw[bne_iff_ne];omega
   simp(maxSteps:=5000000) only [ycuk,ydaz,t2,clash,go_sem,Nat.reduceEqDiff,Nat.reduceAdd,↓reduceIte,reduceCtorEq];refine hK.use ?_;simp(maxSteps:=5000000) only [thenO,f1,clash,go_sem,Nat.reduceEqDiff,Nat.reduceAdd,↓reduceIte,reduceCtorEq];exact Sim.refl _
end Sh
end Go.Proofs.YtiejahgklcjhkaaGreatDoor

namespace Go.Proofs.YtiejahgklcjhkaaGreatDoor
open Go.ChangeShapes Go.WideShapes Go.ChangeAt Go.RowKit Go.Joins Go.WideMaps Go.WideElems
set_option linter.unusedVariables false

set_option maxRecDepth 100000 in
theorem yiy(W:World)(h:laidMetH Tryz.prog Rows.centerAnonymousRow.laid W):Ev.GlW W:=fun x hx=>by
 rw[MakeChecks.laidMetH_plain _ _ _ (by kernel_rfl)]at h
 have hg : Tryz.prog.globalNamed "math/bits.deBruijn32tab" = some 0 := by kernel_rfl
 have ht:=Lib.tabIs_of_head (rest:=[]) (k:=.u8) (zs:=([0,1,28,2,29,14,24,3,30,22,20,15,25,17,4,8,31,27,13,23,21,19,16,7,26,12,18,6,11,5,10,9]:List Int)) (t:=226) (e:=5) (n:=32) hg (by kernel_rfl) (by kernel_rfl) (by kernel_rfl) (by kernel_rfl) (by kernel_rfl) h
 unfold Lib.TabIs World.var? at ht;rw[hg]at ht;simp only[Option.bind_some]at ht;split at ht
 ·rename_i cs e fz hc
  obtain rfl:=Option.some.inj ht;obtain rfl:=Option.some.inj hx;exact⟨_,_,hc⟩
 ·cases ht

set_option maxRecDepth 100000 in
theorem yix(os:Os)(args:Array Value):laidMetH Tryz.prog Rows.centerAnonymousRow.laid ((World.doorLaid Tryz.prog 14 os).forCall (fun _ _=>0) ⟨#[],args,[]⟩).memory :=
 laidMetH_of_parts3 (fuel:=8) (laidMet_of_run' 8 (by kernel_rfl) (by kernel_rfl)) (by kernel_rfl) (by kernel_rfl)

set_option maxRecDepth 100000 in
theorem yhu(os:Os)(started:os.Started)(H:Type)(enc:TypeId × Value->H) :
  ReturnsInHanded {} Tryz.checked os 7 .any (fun w args=>(Rows.centerAnonymousSpec.pre enc Tryz.prog Tryz.f7 [] false w args/\laidMetH Tryz.prog Rows.centerAnonymousRow.laid w)/\sizedMet enc Tryz.prog Tryz.f7 (OpenSpec.ofChange Rows.centerAnonymousSpec) false w args)
   (Rows.centerAnonymousSpec.post enc Tryz.prog Tryz.f7 false true false false):=by
 refine returnsInHanded_of_change_and (C:=Tryz.checked) (X:=fun w _=>laidMetH Tryz.prog Rows.centerAnonymousRow.laid w) (fun _ _ _ hh h=>h.of_heap hh) own started (by kernel_rfl) Tryz.func7
  (ChangeSpec.witness_shaped (enc:=enc) (C:=Tryz.checked) (os:=os) (X:=fun w _=>laidMetH Tryz.prog Rows.centerAnonymousRow.laid w) false (World.doorLaid Tryz.prog 14 os) #[.agg #[.int .i64 0,.slice .none 0 0,.slice .none 0 0,.slice .none 0 0,.bool false,.bool false],.int .i64 0] 8 rfl (World.shaped_of_RefB (by kernel_rfl) (by kernel_rfl)) (by kernel_rfl) (by kernel_rfl) (by kernel_rfl) (yix os _)) ?_
 intro W base args ds gs before hval0 hW _ _ hL _;have hval:∀ (j:Nat) t v,Tryz.f7.params[j]? = some t->args[j]? = some v->Value.okWide Tryz.prog W .any base t v:=hval0;have hW':=hW;obtain⟨p,q,hA0,hV,rfl,hfz,hnd⟩:=hW;have hA:DataW.TrodAll enc Tryz.prog W 0 (fun _=>true) true Tryz.f7.params.toList args.toList ds p:=hA0;rw[Tryz.params7]at hA hval;obtain⟨v0,vs0,d0,ds0,p0,q0,hargs,rfl,rfl,h0,r0⟩:=trodAll_cons hA
 obtain⟨v1,vs1,d1,ds1,p1,q1,rfl,rfl,rfl,h1,r1⟩:=trodAll_cons r0;obtain⟨rfl,rfl,rfl⟩:=trodAll_nil r1;obtain rfl:args = #[v0,v1]:=by cases args;simp_all
 obtain⟨rfl,rfl⟩:=trodVars_none hV;have k0:=h0;have k1:=h1;have lt0:∀ x ∈ p0,x.block<W.heap.size:=by obtain⟨m,hm⟩:=k0;exact DataW.trod_lt m _ _ _ hm
 have lt1:∀ x ∈ p1,x.block<W.heap.size:=by obtain⟨m,hm⟩:=k1;exact DataW.trod_lt m _ _ _ hm
 obtain⟨x0,u0,hx0,rr0,a0⟩:=Sh.ybpm (hval 0 24 v0 rfl rfl) h0;obtain⟨m1,hm1⟩:=h1;obtain⟨n1,rfl⟩:=okWide_int Tryz.underlying3 (hval 1 3 v1 rfl rfl);obtain⟨x1,hx1,u1,a1,rr1⟩:=Sh.yww (v:=.int .i64 n1) hm1
 clear hA0 hval0
 have ha:Sh.RVL (Sh.memW W).b.get Sh.om0 [.ag (Sh.netC x0),.i .i64 x1] [u0,u1]:=.cons rr0 (.cons rr1 .nil);have hv:Ev.VRL (Sh.phiW W) [u0,u1] [v0,.int .i64 n1]:=.cons a0 (.cons (Sh.yib a1) .nil);refine(Sh.ybie (Sh.ybfz hx0 hx1) ⟨_,_,Tryz.func7,rfl⟩ Ev.yqe (yiy W hL) ha hv).mono fun e W' ⟨he,bel⟩=>?_;subst he;exact⟨_,rfl,_,_,_,[],_,[],hW',trodAll_mk1 (shut_bool Tryz.underlying4 _),(trodAll_cons_mk (Below.trod laidOut (by kernel_rfl) (of_decide_eq_true (by kernel_rfl)) k0 bel lt0) (trodAll_cons_mk (Below.trod laidOut (by kernel_rfl) (of_decide_eq_true (by kernel_rfl)) k1 bel lt1) trodAll_mk0)),rfl,bel.frame _,fun h=>by cases h⟩

end Go.Proofs.YtiejahgklcjhkaaGreatDoor

namespace Go.Proofs.YtiejahgklcjhkaaGreatDoor
open Go.ChangeShapes Go.WideShapes Go.ChangeAt Go.RowKit Go.Joins Go.WideMaps Go.WideElems
set_option linter.unusedVariables false

theorem yka:(Rows.centerAnonymousRow.inPlace == Tryz.prog.inPlace 7)=true:=by kernel_rfl
theorem yla:(Rows.centerAnonymousRow.unfollowed == Tryz.prog.unfollowed 7)=true:=by kernel_rfl
theorem ykl:(Rows.centerAnonymousRow.recurses == Tryz.prog.recurses 7)=true:=by kernel_rfl
theorem ykz:(Rows.centerAnonymousRow.named == Tryz.prog.varsNamed 7)=true:=by kernel_rfl
theorem ykc:laidOutB Tryz.prog=true:=by kernel_rfl
theorem ykn:mapsRowed Tryz.prog=true:=by kernel_rfl
theorem centerAnonymous_j7:Tryz.prog.funcNamed Rows.centerAnonymousRow.func=some 7:=by kernel_rfl
theorem ykx:Rows.centerAnonymousRow.wf (OpenSpec.ofChange Rows.centerAnonymousSpec)=true:=by kernel_rfl
theorem yhv:joinedFacts Tryz.prog 7 Tryz.f7 Rows.centerAnonymousSpec Rows.centerAnonymousRow=true:=by
 unfold joinedFacts
 repeat' (with_reducible refine Bool.and_eq_true_iff.2 ⟨?_,?_⟩)
 all_goals first | (with_reducible exact yka) | (with_reducible exact yla) | (with_reducible exact ykl) | (with_reducible exact ykz) | (with_reducible exact ykc) | (with_reducible exact ykn) | (with_reducible exact ykx) | (with_reducible exact ybxh) | (rw[ybxt];rfl) | (rw[ycsd];rfl) | kernel_rfl
theorem yja:Tryz.f7.isInstance Tryz.prog Rows.centerAnonymousRow.origin Rows.centerAnonymousRow.targs:=of_decide_eq_true (by kernel_rfl)
theorem yiz:Tryz.f7.isWrapper Tryz.prog Rows.centerAnonymousRow.wrapper Rows.centerAnonymousRow.mainSum:=by
 unfold Func.isWrapper
 first | (rw[if_pos (by decide +kernel)];kernel_rfl) | (rw[if_neg (by decide +kernel)];exact⟨rfl,rfl⟩)
theorem centerAnonymous_over:Rows.CenterAnonymousSaid :=
 OpenClaim.holds_of_wide 7 Tryz.f7 rfl rfl rfl rfl rfl rfl rfl ⟨rfl,rfl,rfl,rfl,rfl⟩ rfl rfl rfl rfl rfl centerAnonymous_j7 Tryz.func7 yhv yja yiz
  (fun os started H enc _=>yhu os started H enc)

end Go.Proofs.YtiejahgklcjhkaaGreatDoor

