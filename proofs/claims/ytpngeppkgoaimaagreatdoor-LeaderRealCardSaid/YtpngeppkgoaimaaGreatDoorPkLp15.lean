/- Lemmas, joined: ScLd LdB LdC LdG RowA ShW RowB RowC RvR. -/
import Derived.Test.YtpngeppkgoaimaaGreatDoorPkLp8
import Derived.Test.YtpngeppkgoaimaaGreatDoorPkLp12
import Derived.Test.YtpngeppkgoaimaaGreatDoorPkLp11
import Derived.Test.YtpngeppkgoaimaaGreatDoorPkLp13
import Derived.Test.YtpngeppkgoaimaaGreatDoorPkLp14
import Derived.ProofKit
import Derived.OpenShut
import Derived.ShutString
import Derived.ChangeOld
import Derived.Deep.Matrix
import Derived.Lib.SmallJoins
import Derived.Test.YtpngeppkgoaimaaGreatDoorPkLp7
import Derived.Test.YtpngeppkgoaimaaGreatDoorPkLp3
set_option linter.unusedSimpArgs false
set_option linter.unusedVariables false
namespace Go.Proofs.YtpngeppkgoaimaaGreatDoor
namespace Sh
open Go Ev
def ycpb:LO:=[o3 (.mv (ci' 0)) 2 0]
def ycuj:LO:=[mv' 0 5 0,ln' 5 6 1,o3 (.bin .lss (.tmp 6) (ci' 1)) 7 3]
def ydiv:LO:=[o3 (.no) 8 0,o0 (.no) 1]
def yctj:LO:=[mv' 0 9 0,o3 (.idx 1 (.tmp 9) (ci' 0)) 10 1,ld' false 1 10 11 3,mv' 11 3 7]
def ycsq:LO:=[o3 (.mv (ci' 1)) 4 0]
def ycmv:LO:=[mv' 4 12 0,mv' 0 13 0,ln' 13 14 2,bn' .lss 12 14 15 7]
def ycmm:LO:=[mv' 3 18 0,mv' 0 19 0,mv' 4 20 0,ix' 1 19 20 21 6,ld' false 1 21 22 14,o3 (.mm false (.tmp 18) (.tmp 22)) 23 31,mv' 23 3 63]
def ycvf:LO:=[mv' 4 16 0,o3 (.bin .add (.tmp 16) (ci' 1)) 17 1,mv' 17 4 3]
def yclc:LO:=[mv' 3 24 0,mv' 24 2 1]
def c112:SC:=(.seq (.reg false ycpb) (.seq (.seq (.reg false ycuj) (.cond (.tmp 7) (.reg false ydiv) .skip)) (.seq (.reg false yctj) (.seq (.seq (.reg false ycsq) (.block 0 (.loop (.seq (.seq (.reg false ycmv) (.cond (.tmp 15) .skip (.exit 0))) (.seq (.block 1 (.reg false ycmm)) (.reg false ycvf)))))) (.seq (.reg false yclc) .ret)))))
theorem yczj:Fn 112 c112 [.t 2]:=fn_0 Tryz.func112 (by kernel_rfl) (by kernel_rfl)
def ydnb:LO:=[o3 (.box 28 (.tmp 0)) 1 0,o3 (.mv (.const (.bool false))) 2 0]
def ydol:LO:=[ld' true 2 1 3 0,cl' 100 [3] 4 1,mv' 4 2 3]
def c73:SC:=(.seq (.reg false ydnb) (.seq (.reg false ydol) .ret))
theorem ydnt:Fn 73 c73 [.t 2]:=fn_0 Tryz.func73 (by kernel_rfl) (by kernel_rfl)
def ydvk:LO:=[o3 (.box 28 (.tmp 0)) 1 0,o3 (.mv (ci' 0)) 2 0]
def ydkw:LO:=[fa' 0 1 1 3 0,ld' false 1 3 4 1,fa' 0 1 1 5 0,ld' false 1 5 6 4,cl' 112 [6] 7 12,cl' 111 [4,7] 8 31,mv' 8 2 63]
def c75:SC:=(.seq (.reg false ydvk) (.seq (.reg true ydkw) .ret))
theorem ydro:Fn 75 c75 [.t 2]:=fn_0 Tryz.func75 (by kernel_rfl) (by kernel_rfl)
def ydcf:LO:=[o3 (.box 28 (.tmp 0)) 2 0,o3 (.mv (.const (.bool false))) 4 0]
def ydfc:LO:=[ld' true 2 2 10 0,cl' 73 [10] 11 1,o3 (.un .not (.tmp 11)) 12 3,mv' 12 13 7,⟨.load true 2 (.tmp 2),some 14,some (13,false),15⟩,⟨.mv (.tmp 1),some 15,some (13,false),15⟩,⟨.faddr 0 1 (.tmp 2),some 16,some (13,false),15⟩,⟨.load false 1 (.tmp 16),some 17,some (13,false),79⟩,⟨.call (.func 62) [(.tmp 17)],some 18,some (13,false),207⟩,⟨.faddr 0 1 (.tmp 2),some 19,some (13,false),15⟩,⟨.load false 1 (.tmp 19),some 20,some (13,false),527⟩,⟨.len (.tmp 20),some 21,some (13,false),1551⟩,⟨.bin .sub (.tmp 21) (ci' 1),some 22,some (13,false),3599⟩,⟨.bslice 3 1 3 [.i .i64 0,.i .i64 0,.i .i64 0] [(0,1,(.tmp 18)),(1,1,(.tmp 22)),(2,1,(.const (.int .i64 (-1))))],some 23,some (13,false),8143⟩,⟨.call (.func 79) [(.tmp 14),(.tmp 15),(.tmp 23)],some 24,some (13,false),16383⟩,⟨.un .not (.tmp 24),some 25,some (13,false),32767⟩,o3 (.pick (.tmp 13) (.const (.bool true)) (.tmp 25)) 26 65535]
def ydeu:LO:=[o3 (.mv (.const (.bool false))) 4 0]
def ydgi:LO:=[ld' true 2 2 27 0,cl' 75 [27] 28 1,mv' 28 5 3]
def ydnr:LO:=[ld' true 2 2 29 0,mv' 5 30 0,cl' 71 [29,30] 31 3,o3 (.alloc 22 1 [.a (.slice none 0 0)]) 6 0,o0 (.store 1 (.tmp 6) (.tmp 31)) 15]
def ydkb:LO:=[mv' 1 32 0,ln' 32 33 1,o3 (.mv (ci' 0)) 34 0]
def yczk:LO:=[bn' .lss 34 33 35 0]
def ydln:LO:=[mv' 34 36 0,ix' 1 32 34 37 0,ld' false 1 37 38 2,o3 (.alloc 3 1 [.i .i64 0]) 7 0,o0 (.store 1 (.tmp 7) (.tmp 36)) 15,mv' 38 8 31]
def ydgm:LO:=[ld' true 2 2 39 0,ld' false 1 7 40 0,o3 (.mkfn 80 [] [(.tmp 6),(.tmp 7)]) 41 0,cl' 57 [39,40,41] 42 7,mv' 42 9 15]
def ydur:LO:=[mv' 8 43 0,fa' 0 1 2 44 0,ld' false 1 44 45 2,mv' 5 46 0,ix' 1 45 46 47 14,ld' false 1 47 48 30,ld' false 1 6 49 0,ld' false 1 7 50 0,ix' 1 49 50 51 192,ld' false 1 51 52 448,mv' 9 53 0,o3 (.bslice 3 1 3 [.i .i64 0,.i .i64 0,.i .i64 0] [(0,1,(.tmp 48)),(1,1,(.tmp 52)),(2,1,(.tmp 53))]) 54 2046,cl' 81 [43,54] 55 4095,o3 (.un .not (.tmp 55)) 56 8191]
def ycqb:LO:=[o3 (.mv (.const (.bool false))) 4 0]
def ycvh:LO:=[o3 (.bin .add (.tmp 34) (ci' 1)) 57 0,mv' 57 34 1]
def ycpu:LO:=[o3 (.mv (.const (.bool true))) 4 0]
def c40:SC:=(.seq (.reg false ydcf) (.seq (.seq (.reg true ydfc) (.cond (.tmp 26) (.seq (.reg false ydeu) .ret) .skip)) (.seq (.reg false ydgi) (.seq (.reg false ydnr) (.seq (.seq (.reg false ydkb) (.block 0 (.loop (.seq (.reg false yczk) (.seq (.cond (.tmp 35) .skip (.exit 0)) (.seq (.block 1 (.seq (.reg false ydln) (.seq (.reg false ydgm) (.seq (.reg true ydur) (.cond (.tmp 56) (.seq (.reg false ycqb) .ret) .skip))))) (.reg false ycvh))))))) (.seq (.reg false ycpu) .ret))))))
theorem ydmi:Fn 40 c40 [.t 4]:=fn_0 Tryz.func40 (by kernel_rfl) (by kernel_rfl)
def ydlx:LO:=[o3 (.box 43 (.tmp 0)) 3 0,o3 (.mv (.const (.bool false))) 4 0]
def ydrc:LO:=[ld' false 1 1 5 0,fa' 0 1 3 6 0,ld' false 1 6 7 2,ix' 1 5 7 8 7,ld' false 1 8 9 15,ld' false 1 1 10 0,ld' false 1 2 11 0,ix' 1 10 11 12 96,ld' false 1 12 13 224,o3 (.bin .sub (.tmp 13) (ci' 1)) 14 480,bn' .eql 9 14 15 1023,mv' 15 4 2047]
def c80:SC:=(.seq (.reg false ydlx) (.seq (.reg true ydrc) .ret))
theorem ydgd:Fn 80 c80 [.t 4]:=fn_0 Tryz.func80 (by kernel_rfl) (by kernel_rfl)
def ydab:LO:=[o3 (.box 28 (.tmp 0)) 1 0,o3 (.alloc 56 1 [.i .i64 0,.b false,.b false,.i .i64 0,.i .i64 0]) 2 0]
def ycza:LO:=[ld' true 2 1 4 0,cl' 73 [4] 5 1,o3 (.un .not (.tmp 5)) 6 3]
def ydai:LO:=[o3 (.build [.i .i64 0,.b false,.b false,.i .i64 0,.i .i64 0] []) 7 0,o0 (.store 5 (.tmp 2) (.tmp 7)) 1]
def ycyf:LO:=[fa' 0 1 1 8 0,ld' false 1 8 9 1,ln' 9 10 3,ld' true 2 1 11 0,ld' true 2 1 12 0,cl' 75 [12] 13 16,cl' 74 [11,13] 14 56,bn' .add 10 14 15 127,mv' 15 3 255]
def ydas:LO:=[mv' 3 16 0,o3 (.build [.i .i64 0,.b false,.b false,.i .i64 0,.i .i64 0] [(0,1,(ci' 3)),(2,1,(.const (.bool true))),(3,1,(.tmp 16)),(4,1,(.const (.int .i64 (-1))))]) 17 1,o0 (.store 5 (.tmp 2) (.tmp 17)) 3]
def c38:SC:=(.seq (.reg false ydab) (.seq (.seq (.reg false ycza) (.cond (.tmp 6) (.seq (.reg false ydai) .ret) .skip)) (.seq (.reg true ycyf) (.seq (.reg false ydas) .ret))))
theorem ydsl:Fn 38 c38 [.c 2 true 5]:=fn_0 Tryz.func38 (by kernel_rfl) (by kernel_rfl)
def ydgz:LO:=[o3 (.mv (.const (.slice none 0 0))) 0 0]
def yduu:LO:=[o3 (.call (.func 51) [(.const (.string (ByteArray.mk #[108,101,97,100]))),(ci' 0),(ci' 0),(ci' 1)]) 1 0,o3 (.call (.func 51) [(.const (.string (ByteArray.mk #[100]))),(.const (.int .i64 (-1))),(ci' 1),(ci' 0)]) 2 1,o3 (.call (.func 52) [(.const (.string (ByteArray.mk #[112])))]) 3 3,o3 (.bslice 73 6 3 [.a (.string (ByteArray.mk #[])),.i .i64 0,.i .i64 0,.i .i64 0,.i .i64 0,.i .i64 0,.a (.string (ByteArray.mk #[])),.i .i64 0,.i .i64 0,.i .i64 0,.i .i64 0,.i .i64 0,.a (.string (ByteArray.mk #[])),.i .i64 0,.i .i64 0,.i .i64 0,.i .i64 0,.i .i64 0] [(0,6,(.tmp 1)),(6,6,(.tmp 2)),(12,6,(.tmp 3))]) 4 7,mv' 4 0 15]
def c29:SC:=(.seq (.reg false ydgz) (.seq (.reg false yduu) .ret))
theorem ydoy:Fn 29 c29 [.t 0]:=fn_0 Tryz.func29 (by kernel_rfl) (by kernel_rfl)
def ydpm:LO:=[o3 (.box 28 (.tmp 0)) 1 0,o3 (.mv (.const (.bool false))) 2 0]
def ydjs:LO:=[ld' true 2 1 3 0,cl' 113 [3] 4 1,mv' 4 2 3]
def c76:SC:=(.seq (.reg false ydpm) (.seq (.reg false ydjs) .ret))
theorem ydhr:Fn 76 c76 [.t 2]:=fn_0 Tryz.func76 (by kernel_rfl) (by kernel_rfl)
def ydon:LO:=[o3 (.box 28 (.tmp 0)) 1 0,o3 (.mv (ci' 0)) 2 0]
def ydqj:LO:=[o3 (.mv (ci' 0)) 3 0]
def ydoe:LO:=[o3 (.mv (ci' 1)) 4 0]
def ycgr:LO:=[mv' 4 5 0,fa' 0 1 1 6 0,ld' false 1 6 7 2,ln' 7 8 6,bn' .lss 5 8 9 15]
def ycyu:LO:=[fa' 0 1 1 12 0,ld' false 1 12 13 1,mv' 4 14 0,ix' 1 13 14 15 7,ld' false 1 15 16 15,fa' 0 1 1 17 0,ld' false 1 17 18 32,mv' 3 19 0,ix' 1 18 19 20 224,ld' false 1 20 21 480,bn' .lss 16 21 22 1023]
def ycyl:LO:=[mv' 4 23 0,mv' 23 3 1]
def yddr:LO:=[mv' 4 10 0,o3 (.bin .add (.tmp 10) (ci' 1)) 11 1,mv' 11 4 3]
def ydku:LO:=[mv' 3 24 0,mv' 24 2 1]
def c78:SC:=(.seq (.reg false ydon) (.seq (.reg false ydqj) (.seq (.seq (.reg false ydoe) (.block 0 (.loop (.seq (.seq (.reg false ycgr) (.cond (.tmp 9) .skip (.exit 0))) (.seq (.block 1 (.seq (.reg true ycyu) (.cond (.tmp 22) (.reg false ycyl) .skip))) (.reg false yddr)))))) (.seq (.reg false ydku) .ret))))
theorem ydml:Fn 78 c78 [.t 2]:=fn_0 Tryz.func78 (by kernel_rfl) (by kernel_rfl)
def ydbh:LO:=[o3 (.box 28 (.tmp 0)) 1 0,o3 (.alloc 56 1 [.i .i64 0,.b false,.b false,.i .i64 0,.i .i64 0]) 2 0]
def ydcz:LO:=[ld' true 2 1 3 0,cl' 76 [3] 4 1,o3 (.un .not (.tmp 4)) 5 3]
def ycyv:LO:=[o3 (.build [.i .i64 0,.b false,.b false,.i .i64 0,.i .i64 0] []) 6 0,o0 (.store 5 (.tmp 2) (.tmp 6)) 1]
def ycyk:LO:=[fa' 1 1 1 7 0,ld' false 1 7 8 1,ln' 8 9 3,ld' true 2 1 10 0,ld' true 2 1 11 0,cl' 78 [11] 12 16,cl' 77 [10,12] 13 56,bn' .add 9 13 14 127,o3 (.build [.i .i64 0,.b false,.b false,.i .i64 0,.i .i64 0] [(0,1,(ci' 3)),(2,1,(.const (.bool true))),(3,1,(.tmp 14)),(4,1,(.const (.int .i64 (-1))))]) 15 255,o0 (.store 5 (.tmp 2) (.tmp 15)) 511]
def c39:SC:=(.seq (.reg false ydbh) (.seq (.seq (.reg false ydcz) (.cond (.tmp 5) (.seq (.reg false ycyv) .ret) .skip)) (.seq (.reg true ycyk) .ret)))
theorem ydlq:Fn 39 c39 [.c 2 true 5]:=fn_0 Tryz.func39 (by kernel_rfl) (by kernel_rfl)
def ydpn:LO:=[o3 (.alloc 73 1 [.a (.string (ByteArray.mk #[])),.i .i64 0,.i .i64 0,.i .i64 0,.i .i64 0,.i .i64 0]) 8 0]
def ydhv:LO:=[mv' 0 9 0,mv' 1 10 0,mv' 2 11 0,mv' 3 12 0,o3 (.build [.a (.string (ByteArray.mk #[])),.i .i64 0,.i .i64 0,.i .i64 0,.i .i64 0,.i .i64 0] [(0,1,(.tmp 9)),(1,1,(ci' 1)),(3,1,(.tmp 10)),(4,1,(.tmp 11)),(5,1,(.tmp 12))]) 13 15,o0 (.store 6 (.tmp 8) (.tmp 13)) 31]
def c51:SC:=(.seq (.reg false ydpn) (.seq (.reg false ydhv) .ret))
theorem ydja:Fn 51 c51 [.c 8 true 6]:=fn_0 Tryz.func51 (by kernel_rfl) (by kernel_rfl)
def ydls:LO:=[o3 (.alloc 73 1 [.a (.string (ByteArray.mk #[])),.i .i64 0,.i .i64 0,.i .i64 0,.i .i64 0,.i .i64 0]) 2 0]
def ydpr:LO:=[mv' 0 3 0,o3 (.build [.a (.string (ByteArray.mk #[])),.i .i64 0,.i .i64 0,.i .i64 0,.i .i64 0,.i .i64 0] [(0,1,(.tmp 3)),(1,1,(ci' 3))]) 4 1,o0 (.store 6 (.tmp 2) (.tmp 4)) 3]
def c52:SC:=(.seq (.reg false ydls) (.seq (.reg false ydpr) .ret))
theorem yduw:Fn 52 c52 [.c 2 true 6]:=fn_0 Tryz.func52 (by kernel_rfl) (by kernel_rfl)
end Sh
end Go.Proofs.YtpngeppkgoaimaaGreatDoor

namespace Go.Proofs.YtpngeppkgoaimaaGreatDoor
open Go
namespace Sh
open Ev Go.RowKit
set_option maxRecDepth 8000
theorem ydzl{α:Type}(l:List α)(x d:α)(i:Nat):(l ++ [x]).getD i d=if i<l.length then l.getD i d else if i=l.length then x else d:=by
 by_cases h:i<l.length
 ·simp[List.getD,List.getElem?_append_left h,h]
 ·by_cases e:i=l.length
  ·subst e;simp[List.getD]
  ·rw[if_neg h,if_neg e,List.getD,List.getElem?_eq_none (by simp;omega)]
   rfl
theorem ydzc(k i:Nat)(hi:i ≠ k):(if i<k+1 then(-1:Int)else 0)=if i<k then -1 else 0:=by
 by_cases h:i<k
 ·rw[if_pos h,if_pos (by omega)]
 ·rw[if_neg h,if_neg (by omega)]
theorem ybop(g:Gr)(a i:Nat)(ha:a<g.ports.length)(hi:i<g.ports.length):(start g a).getD i 0=if i=a then 0 else -1:=by
 unfold start;rw[yhu (by simpa using ha)]
 split
 ·rfl
 ·rw[List.getD_eq_getElem?_getD,List.getElem?_replicate,if_pos hi];rfl
theorem ybnl{g:Gr}(hg:yba g){a:Nat}(ha:a<g.ports.length):Returns Tryz.prog 108 [grV g,.i .i64 a] (yu (ybu g a)):=by
 refine Returns.of (ydbp _ _ ?_);obtain⟨n,hn⟩:∃ n,g.ports.length=n:=⟨_,rfl⟩;have h24:=hg.2.1;have h1:=hg.1;rw[hn]at h24 h1 ha;obtain⟨PV,hPV⟩:∃ P,yx g.ports=P:=⟨_,rfl⟩;simp only[c108,yckz,ycin,ycsv,grV,yx,hn,go_sem,Nat.reduceEqDiff,Nat.reduceAdd,Nat.reduceLT,↓reduceIte,reduceCtorEq];refine⟨by omega,?_⟩
 refine ybd (σ:=Nat) (fun k=>⟨[(17,.i .i64 k),(16,.i .i64 n),(5,.os (14,0) 0 n true),(2,.pt (2,0) 0 0),(1,.i .i64 a)],
   [(2,.one (some ⟨28,true,2,1,fun _=>[yu g.ids,yx g.ports]⟩)),(14,.one (some ⟨3,false,1,n,fun i=>[.i .i64 (if i<k then -1 else 0)]⟩))]⟩) (fun k=>k<=n) (fun k=>n - k) 0 (Nat.zero_le _) ?_ ?_
 ·refine yh [] [] [] ?_;simp only[yx,hn,allQ,live,yg,ybb,Int.natCast_zero,go_sem,Nat.reduceEqDiff,↓reduceIte,reduceCtorEq];exact fun i _=>by rw[if_neg (by omega)]
 ·intro k hk
  by_cases hlt:k<n
  ·have ht:decide ((k:Int)<(n:Int))=true:=decide_eq_true (by omega)
   simp only[ycau,yctc,ycta,yckc,ht,splice,and_false,go_sem,Nat.reduceEqDiff,Nat.reduceAdd,↓reduceIte,reduceCtorEq];refine⟨by omega,by omega,ikw (by omega) (by omega),?_⟩
   refine yj (k+1) (by omega) (by omega) ?_
   refine yh [] [] [] ?_;simp only[go_sem,allQ,live,yg,ybb,go_sem,Nat.reduceEqDiff,↓reduceIte,reduceCtorEq];refine⟨by omega,fun i hi=>?_⟩
   by_cases q:i=k
   ·subst q;simp only[if_pos (Nat.lt_succ_self i)];simp only[live,yg,go_sem,↓reduceIte,reduceCtorEq]
   ·simp only[if_neg q,ydzc k i q];simp only[live,yg,go_sem,reduceCtorEq]
  ·obtain rfl:k=n:=by omega
   have ht:decide ((k:Int)<(k:Int))=false:=decide_eq_false (by omega)
   simp only[ycau,ycic,ycnb,ht,splice,and_false,go_sem,Nat.reduceEqDiff,Nat.reduceAdd,Nat.reduceLT,↓reduceIte,reduceCtorEq];refine⟨⟨by omega,by omega⟩,by omega,?_⟩
   refine ybd (σ:=List Int × List Nat × Nat) (fun q=>⟨[(7,.os (128,0) q.2.2 (q.2.1.length - q.2.2) true),(5,.os (14,0) 0 k true),(2,.pt (2,0) 0 0)],
     [(2,.one (some ⟨28,true,2,1,fun _=>[yu g.ids,yx g.ports]⟩)),(14,.one (some ⟨3,false,1,k,fun i=>[.i .i64 (q.1.getD i 0)]⟩)),(128,.one (some ⟨3,false,1,q.2.1.length,fun i=>[.i .i64 (q.2.1.getD i 0:Nat)]⟩))]⟩)
     (fun q=>q.2.2<=q.2.1.length/\BfsInv g a q.1 (q.2.1.drop q.2.2)/\q.2.1.length - q.2.2+yck q.1<=30/\q.2.1.length<=31) (fun q=>q.2.1.length - q.2.2+yck q.1) (start g a,[a],0) ⟨Nat.zero_le _,BfsInv.start (by omega),ymh g a (by omega),by simp⟩ ?_ ?_
   ·refine yh [(128,fun i=>(28,i))] [] [] ?_;simp only[go_sem,allQ,live,yg,go_sem,Nat.reduceEqDiff,↓reduceIte,reduceCtorEq];refine⟨fun i hi=>?_,fun i hi=>?_⟩
    ·rw[ybop g a i (by omega) (by omega),if_pos hi]
     by_cases q:i=a
     ·simp only[if_pos q];simp only[live,yg,go_sem,reduceCtorEq]
     ·simp only[if_neg q];simp only[live,yg,go_sem,reduceCtorEq]
    ·obtain rfl:i=0:=by omega
     simp only[List.getD_cons_zero,live,yg,go_sem,reduceCtorEq]
   ·rintro⟨R,W,o⟩ ⟨ho,hinv,hm30,hw31⟩;have ho:o<=W.length:=ho;have hinv:BfsInv g a R (W.drop o):=hinv;have hm30:W.length - o+yck R<=30:=hm30;have hw31:W.length<=31:=hw31;obtain⟨m,hm⟩:∃ m,W.length=m:=⟨_,rfl⟩;rw[hm]at ho hm30 hw31
    by_cases hlt2:o<m
    ·have hQ:W.drop o=W[o] :: W.drop (o+1):=(List.drop_eq_getElem_cons (by omega))
     obtain⟨v,hv⟩:∃ v,W.getD o 0=v:=⟨_,rfl⟩;have hv':W[o]=v:=by rw[<- hv,getD_at (show o<W.length by omega)]
     rw[hv']at hQ;rw[hQ]at hinv;obtain⟨d,hd⟩:=hinv.qin v (by simp)
     have hvl:v<g.ports.length:=by rw[<- hinv.len];exact(List.getElem?_eq_some_iff.1 hd).1
     obtain⟨ls,hls⟩:∃ ls,g.ports.getD v []=ls:=⟨_,rfl⟩;have hls?:g.ports[v]? = some ls:=by rw[<- hls];simp[List.getD,hvl]
     have hin:=hinv.pop hd ls;have hls24:ls.length<24:=by rw[<- hls];exact hg.deg_lt
     have ht2:decide (((m - o:Nat):Int) > 0)=true:=decide_eq_true (by omega)
     simp only[ybtl,ycaf,ybzy,yccg,ht2,hm,hv,yx,ybc,hls,hn,go_sem,Int.reduceToNat,Nat.reduceEqDiff,Nat.reduceAdd,↓reduceIte,reduceCtorEq];refine⟨⟨by omega,by omega⟩,hlt2,⟨by omega,by omega,by omega⟩,⟨by omega,by omega⟩,?_⟩
     refine ybd (σ:=Nat × List Int × List Nat × Nat) (fun q=>⟨[(43,.i .i64 q.1),(42,.i .i64 ls.length),(41,ybc ls),(8,.i .i64 v),(7,.os (128,0) q.2.2.2 (q.2.2.1.length - q.2.2.2) true),(5,.os (14,0) 0 k true),(2,.pt (2,0) 0 0)],
       [(2,.one (some ⟨28,true,2,1,fun _=>[yu g.ids,yx g.ports]⟩)),(14,.one (some ⟨3,false,1,k,fun i=>[.i .i64 (q.2.1.getD i 0)]⟩)),(128,.one (some ⟨3,false,1,q.2.2.1.length,fun i=>[.i .i64 (q.2.2.1.getD i 0:Nat)]⟩))]⟩)
       (fun q=>q.1<=ls.length/\q.2.2.2<=q.2.2.1.length/\BfsIn g a v d ls q.1 q.2.1 (q.2.2.1.drop q.2.2.2)/\q.2.2.1.length - q.2.2.2+1+yck q.2.1=m - o+yck R/\q.2.2.1.length<=31) (fun q=>ls.length - q.1) (0,R,W,o+1) ⟨Nat.zero_le _,by show o+1<=W.length;omega,hin,by show W.length - (o+1)+1+yck R=_;omega,by show W.length<=31;omega⟩ ?_ ?_
     ·refine yh [] [] [] ?_;simp only[yx,ybc,hn,hm,Nat.sub_sub,allQ,live,yg,Int.natCast_zero,go_sem,Nat.reduceEqDiff,↓reduceIte,reduceCtorEq]
     ·rintro⟨j,R',W',o'⟩ ⟨hj,ho',hin',hun',hw'⟩;have hj:j<=ls.length:=hj;have ho':o'<=W'.length:=ho';have hin':BfsIn g a v d ls j R' (W'.drop o'):=hin';have hun':W'.length - o'+1+yck R'=m - o+yck R:=hun';have hw':W'.length<=31:=hw';obtain⟨m',hm'⟩:∃ m,W'.length=m:=⟨_,rfl⟩;rw[hm']at ho' hun' hw'
      by_cases hjl:j<ls.length
      ·have ht3:decide ((j:Int)<(ls.length:Int))=true:=decide_eq_true (by omega)
       obtain⟨l,hl⟩:∃ l,ls.getD j (0,0)=l:=⟨_,rfl⟩;have hl':ls[j]=l:=by rw[<- hl,getD_at hjl]
       have hlm:l ∈ ls:=by rw[<- hl'];exact List.getElem_mem _
       obtain⟨k1,k2,k3,k4,k5⟩:=hg.link hls? hlm;obtain⟨u,hu⟩:=Int.eq_ofNat_of_zero_le k1;have hul:u<R'.length:=by rw[hin'.len];omega
       have hRv:R'.getD v 0=(d:Int):=by have:=hin'.rv;simp[List.getD,this]
       have hd24:d<g.ports.length:=by
        rcases hin'.val v _ hin'.rv with e | ⟨k',e,h1,h2⟩
        ·omega
        ·obtain rfl:d=k':=by omega
         exact ysi hg (by omega) h1 h2
       have hRu:R'[u]? = some (R'.getD u 0):=by rw[getD_at hul];exact List.getElem?_eq_getElem hul
       by_cases hneg:R'.getD u 0<0
       ·have ht4:decide (R'.getD u 0<0)=true:=decide_eq_true hneg;simp only[yyy,yzd,yxj,yzl,yzm,yxo,ybc,hl,hu,ht3,ht4,hm',hRv,splice,and_false,go_sem,Nat.reduceEqDiff,Nat.reduceAdd,Nat.reduceLeDiff,Nat.reduceLT,↓reduceIte,reduceCtorEq];refine⟨⟨by omega,by omega⟩,⟨by omega,by omega⟩,by omega,⟨by omega,by omega⟩,by omega,ikw (by omega) (by omega),⟨by omega,by omega⟩,by omega,by decide,⟨by omega,by omega,by omega⟩,ikw (by omega) (by omega),?_⟩
        have hRm:R'[u]? = some (-1):=by
         rcases hin'.val u _ hRu with e | ⟨k',e,_⟩
         ·rw[hRu,e]
         ·omega
        have hdis:=hin'.discover hls? hjl (u:=u) (by rw[hl'];exact hu) hRm
        have hunf:=ytr (R:=R') (u:=u) (x:=(d:Int)+1) hRm (by omega)
        have hlen:(W'.drop o' ++ [u]).length=m' - o'+1:=by rw[List.length_append,List.length_drop,hm'];rfl
        refine yj (j+1,R'.set u ((d:Int)+1),W'.drop o' ++ [u],0) ⟨by show j+1<=_;omega,Nat.zero_le _,hdis,by show(W'.drop o' ++ [u]).length - 0+1+yck (R'.set u ((d:Int)+1))=_;omega,by show(W'.drop o' ++ [u]).length<=31;omega⟩ (by show ls.length - (j+1)<ls.length - j;omega) ?_
        refine yh [(128,fun i=>(66,i))] [] [] ?_;simp only[yx,ybc,hn,hlen,allQ,live,yg,ybb,go_sem,Nat.reduceEqDiff,↓reduceIte,reduceCtorEq];refine⟨⟨by omega,Sim.refl _⟩,fun i hi=>?_,fun i hi=>?_⟩
        ·rw[yhu hul]
         by_cases q:i=u
         ·simp only[if_pos q];simp only[live,yg,go_sem,reduceCtorEq]
         ·simp only[if_neg q];simp only[live,yg,go_sem,reduceCtorEq]
        ·rw[ydzl,List.length_drop,hm']
         by_cases q:i<m' - o'
         ·have e:(W'.drop o').getD i 0=W'.getD (o'+i) 0:=by simp[List.getD,List.getElem?_drop]
          simp only[if_pos q,e];simp only[live,yg,go_sem,reduceCtorEq]
         ·obtain rfl:i=m' - o':=by omega
          simp only[if_neg q,Nat.sub_self,Nat.zero_mul,↓reduceIte];simp only[live,yg,go_sem,reduceCtorEq]
       ·have ht4:decide (R'.getD u 0<0)=false:=decide_eq_false hneg;simp only[yyy,yzd,yxj,yzl,yzm,yxo,ybc,hl,hu,ht3,ht4,hm',splice,go_sem,Nat.reduceEqDiff,Nat.reduceAdd,Nat.reduceLeDiff,Nat.reduceLT,↓reduceIte,reduceCtorEq];refine⟨⟨by omega,by omega⟩,⟨by omega,by omega⟩,by omega,ikw (by omega) (by omega),?_⟩
        obtain⟨y,hy⟩:=Int.eq_ofNat_of_zero_le (show 0<=R'.getD u 0 by omega)
        have hsk:=hin'.skip hjl (j:=y) (by rw[hl',hu,Int.toNat_natCast,hRu,hy])
        refine yj (j+1,R',W',o') ⟨by show j+1<=_;omega,by show o'<=W'.length;omega,hsk,by show W'.length - o'+1+yck R'=_;omega,by show W'.length<=31;omega⟩ (by show ls.length - (j+1)<ls.length - j;omega) ?_
        refine yh [] [] [] ?_;simp only[yx,ybc,hn,hm',allQ,live,yg,ybb,go_sem,Nat.reduceEqDiff,↓reduceIte,reduceCtorEq];omega
      ·obtain rfl:j=ls.length:=by omega
       have ht3:decide ((ls.length:Int)<(ls.length:Int))=false:=decide_eq_false (by omega)
       simp only[yyy,yzd,yxj,yzl,yzm,yxo,ht3,go_sem,Nat.reduceEqDiff,↓reduceIte];refine yj (R',W',o') ⟨by show o'<=W'.length;omega,hin'.finish hls?,by show W'.length - o'+yck R'<=30;omega,by show W'.length<=31;omega⟩ (by show W'.length - o'+yck R'<m - o+yck R;omega) ?_
       refine yh [] [] [] ?_;simp only[yx,ybc,hn,hm',allQ,live,yg,go_sem,Nat.reduceEqDiff,↓reduceIte,reduceCtorEq]
    ·obtain rfl:o=m:=by omega
     have ht2:decide (((o - o:Nat):Int) > 0)=false:=decide_eq_false (by omega)
     rw[List.drop_eq_nil_of_le (by omega)]at hinv
     have hdist:=hinv.isDist.unique (ycd hg (by omega))
     subst hdist;have hlen:=hinv.len;simp only[ybtl,ybvp,ht2,hm,yx,ybc,hn,go_sem,Nat.reduceEqDiff,Nat.reduceAdd,↓reduceIte,reduceCtorEq];have e:(ybu g a).length=k:=by omega
     unfold yu;rw[e];exact Sim.refl _
theorem ybrk{g:Gr}(hg:yba g){a:Nat}(ha:a<g.ports.length):Returns Tryz.prog 71 [grV g,.i .i64 a] (yu (ybu g a)):=by
 refine Returns.of (ydtq _ _ ?_);have hV:=ywy (yqu hg);rw[(ycg g).2 hg]at hV;have hS:=ybnl hg ha;have t1:decide ((a:Int)<0)=false:=decide_eq_false (by omega)
 have t2:decide ((a:Int) >= (g.ports.length:Int))=false:=decide_eq_false (by omega)
 simp only[grV,yx]at hV hS;simp only[c71,ydss,ydgo,ydrx,ydnq,grV,yx,clash,go_sem,Nat.reduceEqDiff,Nat.reduceAdd,Nat.reduceLT,↓reduceIte];refine hV.use ?_;simp only[thenO,t1,t2,clash,go_sem,Nat.reduceEqDiff,Nat.reduceAdd,↓reduceIte,reduceCtorEq];refine hS.use ?_;simp only[go_sem];exact Sim.refl _
theorem yczi(l:List Int)(h0:0<l.length)(hl:l.length<=100000):Returns Tryz.prog 112 [yu l] (.i .i64 (minI l)):=by
 refine Returns.of (yczj _ _ ?_);have t0:decide ((l.length:Int)<1)=false:=decide_eq_false (by omega)
 simp only[c112,ycpb,ycuj,yctj,ycsq,yu,t0,go_sem,Int.reduceToNat,Nat.reduceEqDiff,Nat.reduceAdd,↓reduceIte,reduceCtorEq];refine⟨⟨by omega,by omega⟩,?_⟩
 refine ybd (σ:=Nat) (fun k=>⟨[(4,.i .i64 k),(3,.i .i64 (ybag l k)),(0,yu l)],[]⟩) (fun k=>1<=k/\k<=l.length) (fun k=>l.length - k) 1 ⟨by omega,by omega⟩ ?_ ?_
 ·refine yh [] [] [] ?_;simp only[yu,ybda,allQ,live,yg,ybb,go_sem,Nat.reduceEqDiff,↓reduceIte,reduceCtorEq];cases l<;>simp at h0 ⊢
 ·intro k ⟨hk1,hk⟩;simp only[ycmv,ycvf,ycmm,yclc,yu,ybb,go_sem,Nat.reduceEqDiff,Nat.reduceAdd,↓reduceIte,reduceCtorEq];refine⟨fun h=>⟨by omega,ik (by omega) (by omega),?_⟩,fun h=>?_⟩
  ·refine yj (k+1) ⟨by omega,by omega⟩ (by omega) ?_
   refine yh [] [] [] ?_;have hlt:k<l.length:=by omega
   simp only[ywc hk1 hlt,getD_at hlt,allQ,live,yg,ybb,go_sem,Nat.reduceEqDiff,↓reduceIte,reduceCtorEq];simp
  ·obtain rfl:k=l.length:=by omega
   rfl
theorem ybds{g:Gr}(hg:yba g):Returns Tryz.prog 75 [grV g] (.i .i64 (ybp g.ids)):=by
 refine Returns.of (ydro _ _ ?_);have h1:=hg.1;have h2:=hg.2.1;have h3:=hg.2.2.1;have hM:=yczi g.ids (by omega) (by omega)
 have hX:=ybae g.ids (minI g.ids) (by omega)
 rw[ybnp (by omega)]at hX
 simp only[c75,ydvk,ydkw,grV,clash,go_sem,Nat.reduceEqDiff,Nat.reduceAdd,Nat.reduceLeDiff,Nat.reduceLT,↓reduceIte,reduceCtorEq];refine hM.use ?_;simp only[thenO,clash,go_sem,Nat.reduceEqDiff,Nat.reduceAdd,↓reduceIte,reduceCtorEq];refine hX.use ?_;simp only[go_sem];exact Sim.refl _
theorem yic{g:Gr}(hg:yba g):ybp g.ids<g.ports.length:=by
 have h1:=hg.1;have h3:=hg.2.2.1;have:ybp g.ids<g.ids.length:=(yfo g.ids g.ids.length (by omega) (Nat.le_refl _)).1
 omega
theorem yzt{g:Gr}(hI:GrI g):Returns Tryz.prog 100 [grV g] (.b (yby g)):=by
 refine yne ⟨_,_,Tryz.func100,rfl⟩ (fun _=>.b) (fun _=>.simple rfl) fun G m us hG hr φ M w us' hRl hs hv=>?_;obtain⟨u,rfl,h1⟩:=rvl1 hr;obtain⟨u',rfl,h2⟩:=yfp hv;exact yfd u' g w (ybeo hG h1 h2 hRl hs hI)
theorem ycgz{g:Gr}(hI:GrI g)(v:Int):Returns Tryz.prog 74 [grV g,.i .i64 v] (.i .i64 (eccP g v)):=by
 refine yne ⟨_,_,Tryz.func74,rfl⟩ (fun _=>.i) (fun _=>.simple rfl) fun G m us hG hr φ M w us' hRl hs hv=>?_;obtain⟨u,v',rfl,h1,h2⟩:=rvl2 hr;obtain⟨u',v'',rfl,h3,h4⟩:=yoy hv;cases h2.int_inv
 have e:=h4.eq_simple rfl;subst e;exact yqy u' g v w (ybeo hG h1 h3 hRl hs hI)
theorem ybjz{g:Gr}(hI:GrI g):Returns Tryz.prog 73 [grV g] (.b (yby g)):=by
 refine Returns.of (ydnt _ _ ?_);have hC:=yzt hI;simp only[grV]at hC;simp only[c73,ydnb,ydol,grV,go_sem,Nat.reduceEqDiff,Nat.reduceAdd,Nat.reduceLT,↓reduceIte];refine hC.use ?_;simp only[thenO,sim_b,go_sem,Nat.reduceEqDiff,Nat.reduceAdd,↓reduceIte,reduceCtorEq]
end Sh
end Go.Proofs.YtpngeppkgoaimaaGreatDoor

namespace Go.Proofs.YtpngeppkgoaimaaGreatDoor
open Go
def ytj(g:Gr)(v:Nat):List Int:=[g.ids.getD (ybp g.ids) 0,(ybu g (ybp g.ids)).getD v 0,wayP g (ybu g (ybp g.ids)) v]
def yio(g:Gr)(c:Conf):Bool:=yby g && ynx g.ports.length (ydm g [maxI g.ids,(g.ids.length:Int) - 1,-1]) c
def ybt(g:Gr)(c:Conf):Bool:=yio g c && (List.range c.length).all fun v=>decide (c.getD v []=ytj g v)
namespace Sh
open Ev Go.RowKit
set_option maxRecDepth 8000
def clmV(kind:Int)(fair silent:Bool)(rounds moves:Int):List SV:=[.i .i64 kind,.b fair,.b silent,.i .i64 rounds,.i .i64 moves]
def yih(g:Gr):SV:=if yby g=true then .ag (clmV 3 false true ((g.ids.length:Int)+eccP g (ybp g.ids)) (-1))else .ag (clmV 0 false false 0 0)
theorem ybiw{g:Gr}(hg:yba g){c:Conf}(hR:ycgm c){G:List Int}(hG:∀ x ∈ G,I64 x):Returns Tryz.prog 79 [grV g,ybg c,yu G] (.b (ynx g.ports.length (ydm g G) c)):=by
 refine yne ⟨_,_,Tryz.func79,rfl⟩ (fun _=>.b) (fun _=>.simple rfl) fun H m us hH hr φ M w us' hRl hs hv=>?_
 obtain⟨u,us2,rfl,h1,h2⟩:∃ u us2,us=u :: us2/\RV H om0 (grV g) u/\RVL H om0 [ybg c,yu G] us2:=by
  cases hr with | cons x y=>exact⟨_,_,rfl,x,y⟩
 obtain⟨u2,u3,rfl,h3,h4⟩:=rvl2 h2
 obtain⟨u',us3,rfl,h5,h6⟩:∃ u' us3,us'=u' :: us3/\VR φ u u'/\VRL φ [u2,u3] us3:=by
  cases hv with | cons x y=>exact⟨_,_,rfl,x,y⟩
 obtain⟨u2',u3',rfl,h7,h8⟩:=yoy h6;exact yoo u' u2' u3' g c G w (ybeo hH h1 h5 hRl hs (yqu hg)) (yddy hH h3 h7 hRl hs hR) (ints_at hH h4 h8 hRl hs hG) hg
theorem ybon{g:Gr}{D:List Int}(hD:D.length=g.ports.length)(hDb:∀ x ∈ D,-1<=x/\x<=24){v:Nat}(hv:v<g.ports.length)(hn:g.ports.length<=24){l:Int × Int}(hl:0<=l.1/\l.1<g.ports.length) :
  Returns Tryz.prog 80 [.ag [.i .i64 l.1,.i .i64 l.2],.rf [yu D],.rf [.i .i64 v]] (.b (yoq D v l)):=by
 refine Returns.of (ydgd _ _ ?_);have h1:-1<=D.getD v 0/\D.getD v 0<=24:=by rw[getD_at (show v<D.length by omega)];exact hDb _ (List.getElem_mem _)
 simp only[c80,ydlx,ydrc,yu,clash,go_sem,Nat.reduceEqDiff,Nat.reduceAdd,Nat.reduceLeDiff,Nat.reduceLT,↓reduceIte,reduceCtorEq];refine⟨⟨by omega,by omega⟩,⟨by omega,by omega⟩,ikw (by omega) (by omega),?_⟩
 exact Sim.refl _
theorem ywk{g:Gr}(hI:GrI g){c:Conf}(hR:ycgm c)(hcl:c.length<=1000):Returns Tryz.prog 40 [grV g,ybg c] (.b (ybt g c)):=by
 refine Returns.of (ydmi _ _ ?_);have hF:=ybjz hI;cases hcn:yby g with
 | false =>
  have e:ybt g c=false:=by unfold ybt yio;rw[hcn];rfl
  rw[hcn]at hF;rw[e];simp only[grV]at hF;simp only[c40,ydcf,ydfc,grV,clash,go_sem,Nat.reduceEqDiff,Nat.reduceAdd,Nat.reduceLT,↓reduceIte];refine hF.use ?_;simp only[thenO,ydeu,clash,go_sem,Nat.reduceEqDiff,Nat.reduceAdd,↓reduceIte,reduceCtorEq];exact Sim.refl _
 | true =>
  have hg:=(ycg g).1 (ygu hcn);have h1:=hg.1;have h24:=hg.2.1;have hid:=hg.2.2.1;have hM:=ybgr g.ids (by omega) (by omega)
  have hMi:0<=maxI g.ids/\maxI g.ids<=255:=by
   rw[yro (by omega) fun x hx=>(hg.2.2.2.1 x hx).1]
   exact yda hg
  have hC:=ybiw hg hR (G:=[maxI g.ids,(g.ids.length:Int) - 1,-1]) (fun x hx=>by
   simp at hx;rcases hx with rfl | rfl | rfl<;>exact yen (by omega))
  rw[hcn]at hF;simp only[grV,yu]at hF hM;simp only[c40,ydcf,ydfc,grV,yu,clash,go_sem,Nat.reduceEqDiff,Nat.reduceAdd,Nat.reduceLT,↓reduceIte];refine hF.use ?_;simp only[thenO,clash,go_sem,Nat.reduceEqDiff,Nat.reduceAdd,Nat.reduceLeDiff,Nat.reduceLT,↓reduceIte,reduceCtorEq];refine hM.use ?_;simp only[thenO,clash,go_sem,Nat.reduceEqDiff,Nat.reduceAdd,Nat.reduceLeDiff,↓reduceIte];have three:∀ {q:Nat},q<3->q=0\/q=1\/q=2:=fun {q} h=>by omega
  refine⟨ikw (by omega) (by omega),by decide,.inl ⟨?_,hC.useS ?_ ?_⟩⟩
  ·intro q hq;rcases three hq with rfl | rfl | rfl<;>simp only[go_sem]
  ·refine⟨Sim.refl (grV g),Sim.refl _,?_,trivial⟩;refine yge fun q hq=>?_;rcases three hq with rfl | rfl | rfl<;>(simp only[List.getD_cons_zero,List.getD_cons_succ,go_sem];exact⟨Sim.refl _,trivial⟩)
  cases hcf:ynx g.ports.length (ydm g [maxI g.ids,(g.ids.length:Int) - 1,-1]) c with
  | false =>
   have e:ybt g c=false:=by unfold ybt yio;rw[hcf,Bool.and_false];rfl
   rw[e];simp only[ydeu,go_sem,↓reduceIte];exact⟨by decide,Sim.refl _⟩
  | true =>
   have hU:=ybds hg;have hul:=yic hg;have hD:=ybrk hg hul;have hDl:=yfv hg hul;have hDb:=(ycd hg hul).bound hg hul;obtain⟨D,hDe⟩:∃ D,ybu g (ybp g.ids)=D:=⟨_,rfl⟩;rw[hDe]at hD hDl hDb;obtain⟨u,hu⟩:∃ u,ybp g.ids=u:=⟨_,rfl⟩;rw[hu]at hU hul hD;simp only[grV,yu]at hU hD;obtain⟨m,hm⟩:∃ m,c.length=m:=⟨_,rfl⟩;simp only[thenO,ydgi,ydnr,ydkb,clash,go_sem,Nat.reduceEqDiff,Nat.reduceAdd,Nat.reduceLT,↓reduceIte,reduceCtorEq]
   refine⟨by decide,hU.use ?_⟩
   simp only[go_sem,↓reduceIte];refine hD.use ?_;simp only[ybg,hm,go_sem,Nat.reduceEqDiff,↓reduceIte,reduceCtorEq]
   refine ybd (σ:=Nat) (fun k=>⟨[(34,.i .i64 k),(33,.i .i64 m),(32,ybg c),(5,.i .i64 u),(6,.pt (6,0) 0 0),(2,.pt (2,0) 0 0)],
     [(2,.one (some ⟨28,true,2,1,fun _=>[yu g.ids,yx g.ports]⟩)),(6,.one (some ⟨22,true,1,1,fun _=>[yu D]⟩))]⟩)
    (fun k=>k<=m /\ ∀ j,j<k->c.getD j []=ytj g j) (fun k=>m - k) 0 ⟨Nat.zero_le _,fun j hj=>absurd hj (Nat.not_lt_zero j)⟩ ?_ ?_
   ·refine yh [] [] [] ?_;simp only[ybg,yu,hm,allQ,live,yg,Int.natCast_zero,go_sem,Nat.reduceEqDiff,↓reduceIte,reduceCtorEq]
   ·rintro k ⟨hk,hall⟩;have hcn2:m=g.ports.length:=by rw[<- hm];exact((yep _ _ _).1 hcf).1
    by_cases hlt:k<m
    ·have ht:decide ((k:Int)<(m:Int))=true:=decide_eq_true (by omega)
     obtain⟨s,hs⟩:∃ s,c.getD k []=s:=⟨_,rfl⟩
     have hFP:=ynu g k (by omega) 80 [.rf [yu D],.rf [.i .i64 k]] (yoq D k) (by rfl) (by have:=hg.deg_lt (v:=k);omega) (fun l hl=>by
      have hk2:g.ports[k]? = some (g.ports.getD k []):=by simp[List.getD,show k<g.ports.length by omega]
      obtain⟨k1,k2,_⟩:=hg.link hk2 hl;exact ybon hDl hDb (by omega) h24 ⟨k1,k2⟩)
     have hEq:=ybxq s (ytj g k) (by
      have:=((yep _ _ _).1 hcf).2 k s (by rw[<- hs,getD_at (show k<c.length by omega)];exact List.getElem?_eq_getElem _)
      have:=this.1;simp[ydm]at this;omega)
     simp only[grV,yu]at hFP;simp only[yczk,ydln,ydgm,ydur,ybg,yu,hm,hs,ht,clash,go_sem,Nat.reduceEqDiff,Nat.reduceAdd,Nat.reduceLeDiff,Nat.reduceLT,↓reduceIte,reduceCtorEq];refine⟨⟨by omega,by omega⟩,.inl (hFP.use ?_)⟩
     simp only[thenO,clash,go_sem,Nat.reduceEqDiff,Nat.reduceAdd,Nat.reduceLeDiff,Nat.reduceLT,↓reduceIte,reduceCtorEq]
     have hle:ytj g k = [g.ids.getD u 0,D.getD k 0,yey (yoq D k) (g.ports.getD k [])]:=by
      unfold ytj;rw[hDe,hu];rfl
     refine⟨⟨by omega,by omega⟩,⟨by omega,by omega⟩,.inl ⟨fun q hq=>by rcases three hq with rfl | rfl | rfl<;>simp only[go_sem],hEq.useS ?_ ?_⟩⟩
     ·refine⟨Sim.refl (yu s),?_,trivial⟩;rw[hle];refine yge fun q hq=>?_;rcases three hq with rfl | rfl | rfl<;>(simp only[List.getD_cons_zero,List.getD_cons_succ,go_sem];exact⟨Sim.refl _,trivial⟩)
     by_cases hse:s=ytj g k
     ·simp only[ycvh,hse,clash,go_sem,Nat.reduceEqDiff,Nat.reduceAdd,↓reduceIte,reduceCtorEq];refine⟨by decide,ikw (by omega) (by omega),yj (k+1) ⟨by omega,fun j hj=>?_⟩ (by omega) ?_⟩
      ·by_cases q:j=k
       ·rw[q,hs,hse]
       ·exact hall j (by omega)
      ·refine yh [] [] [] ?_;simp only[allQ,live,yg,ybb,go_sem,Nat.reduceEqDiff,↓reduceIte,reduceCtorEq];omega
     ·have e:ybt g c=false:=by
       unfold ybt;rw[Bool.and_eq_false_iff];right
       rw[List.all_eq_false];exact⟨k,List.mem_range.2 (by omega),by rw[hs];simp[hse]⟩
      rw[e];simp only[ycqb,hse,go_sem,↓reduceIte];exact⟨by decide,Sim.refl _⟩
    ·obtain rfl:k=m:=by omega
     have ht:decide ((k:Int)<(k:Int))=false:=decide_eq_false (by omega)
     have e:ybt g c=true:=by
      unfold ybt yio;rw[hcn,hcf,Bool.true_and,Bool.true_and,List.all_eq_true];intro v hv;exact decide_eq_true (hall v (by have:=List.mem_range.1 hv;omega))
     rw[e];simp only[yczk,ycpu,ht,go_sem,Nat.reduceEqDiff,↓reduceIte];exact Sim.refl _
theorem ybpi{g:Gr}(hI:GrI g):Returns Tryz.prog 38 [grV g] (yih g):=by
 refine Returns.of (ydsl _ _ ?_);have hF:=ybjz hI;unfold yih;cases hcn:yby g with
 | false =>
  rw[hcn]at hF;simp only[grV]at hF;simp only[c38,ydab,ycza,ydai,ycyf,ydas,grV,clmV,clash,go_sem,Nat.reduceEqDiff,Nat.reduceAdd,Nat.reduceLT,↓reduceIte];refine hF.use ?_;simp only[thenO,splice,clash,go_sem,Nat.reduceEqDiff,Nat.reduceAdd,↓reduceIte];exact Sim.refl _
 | true =>
  have hg:=(ycg g).1 (ygu hcn);have h24:=hg.2.1;have hid:=hg.2.2.1;have hU:=ybds hg;have hE:=ycgz hI (ybp g.ids)
  have hE1:-1<=eccP g (ybp g.ids)/\eccP g (ybp g.ids)<=1000:=by
   unfold eccP;split
   ·exact⟨yit _,yjq _ _ (by omega) fun x hx=>by
     have:=(ycd hg (a:=((ybp g.ids:Nat):Int).toNat) (by rw[Int.toNat_natCast];exact yic hg)).bound hg (by rw[Int.toNat_natCast];exact yic hg) x hx
     omega⟩
   ·omega
  rw[hcn]at hF;simp only[grV,yu]at hF hU hE;simp only[c38,ydab,ycza,ydai,ycyf,ydas,grV,yu,clmV,clash,go_sem,Nat.reduceEqDiff,Nat.reduceAdd,Nat.reduceLT,↓reduceIte];refine hF.use ?_;simp only[thenO,splice,clash,go_sem,Nat.reduceEqDiff,Nat.reduceAdd,Nat.reduceLeDiff,↓reduceIte,reduceCtorEq];refine hU.use ?_;simp only[go_sem,↓reduceIte];refine hE.use ?_;simp only[go_sem,Nat.reduceEqDiff,Nat.reduceAdd,↓reduceIte]
  exact⟨ikw (by omega) (by omega),Sim.refl _⟩
end Sh
end Go.Proofs.YtpngeppkgoaimaaGreatDoor

namespace Go.Proofs.YtpngeppkgoaimaaGreatDoor
open Go
def yyk:List VarR:=[⟨⟨#[108,101,97,100]⟩,1,0,0,0,1⟩,⟨⟨#[100]⟩,1,0,-1,1,0⟩,⟨⟨#[112]⟩,3,0,0,0,0⟩]
namespace Sh
open Ev Go.RowKit
set_option maxRecDepth 8000
theorem ybzm{g:Gr}(hI:GrI g):Returns Tryz.prog 113 [grV g] (.b (yby g)):=by
 refine yne ⟨_,_,Tryz.func113,rfl⟩ (fun _=>.b) (fun _=>.simple rfl) fun G m us hG hr φ M w us' hRl hs hv=>?_;obtain⟨u,rfl,h1⟩:=rvl1 hr;obtain⟨u',rfl,h2⟩:=yfp hv;exact yqt u' g w (ybeo hG h1 h2 hRl hs hI)
theorem ycgx{g:Gr}(hI:GrI g){v:Int}(hv64:I64 v):Returns Tryz.prog 77 [grV g,.i .i64 v] (.i .i64 (eccP g v)):=by
 refine yne ⟨_,_,Tryz.func77,rfl⟩ (fun _=>.i) (fun _=>.simple rfl) fun G m us hG hr φ M w us' hRl hs hv=>?_;obtain⟨u,v',rfl,h1,h2⟩:=rvl2 hr;obtain⟨u',v'',rfl,h3,h4⟩:=yoy hv;cases h2.int_inv
 have e:=h4.eq_simple rfl;subst e;exact ylx u' g v w (ybeo hG h1 h3 hRl hs hI) hv64
theorem ychy{g:Gr}(hI:GrI g):Returns Tryz.prog 76 [grV g] (.b (yby g)):=by
 refine Returns.of (ydhr _ _ ?_);have hC:=ybzm hI;simp only[grV]at hC;simp only[c76,ydpm,ydjs,grV,go_sem,Nat.reduceEqDiff,Nat.reduceAdd,Nat.reduceLT,↓reduceIte];refine hC.use ?_;simp only[thenO,sim_b,go_sem,Nat.reduceEqDiff,Nat.reduceAdd,↓reduceIte,reduceCtorEq]
theorem ybmv{g:Gr}(hg:yba g):Returns Tryz.prog 78 [grV g] (.i .i64 (ybp g.ids)):=by
 refine Returns.of (ydml _ _ ?_);have h1:=hg.1;have h24:=hg.2.1;have hid:=hg.2.2.1;obtain⟨n,hn⟩:∃ n,g.ids.length=n:=⟨_,rfl⟩;have hle:ybp g.ids=ycj g.ids n:=by rw[<- hn]
 rw[hle];simp only[c78,ydon,ydqj,ydoe,grV,go_sem,Nat.reduceAdd,Nat.reduceLT,↓reduceIte];refine ybd (σ:=Nat) (fun k=>⟨[(4,.i .i64 k),(3,.i .i64 (ycj g.ids k)),(1,.pt (1,0) 0 0)],[(1,.one (some ⟨28,true,2,1,fun _=>[yu g.ids,yx g.ports]⟩))]⟩) (fun k=>1<=k/\k<=n) (fun k=>n - k) 1 ⟨by omega,by omega⟩ ?_ ?_
 ·refine yh [] [] [] ?_;simp only[ylq,allQ,live,yg,ybb,Int.natCast_zero,go_sem,Nat.reduceEqDiff,↓reduceIte,reduceCtorEq];rfl
 ·rintro k ⟨hk1,hk⟩
  by_cases hlt:k<n
  ·have ht:decide ((k:Int)<(n:Int))=true:=decide_eq_true (by omega)
   have hlk:ycj g.ids k<k:=(yfo g.ids k hk1 (by omega)).1
   by_cases hsm:g.ids.getD k 0<g.ids.getD (ycj g.ids k) 0
   ·have ht2:decide (g.ids.getD k 0<g.ids.getD (ycj g.ids k) 0)=true:=decide_eq_true hsm;have hst:ycj g.ids (k+1)=k:=by show(if _ then _ else _)=_;rw[if_pos hsm]
    simp only[ycgr,yddr,ycyu,ycyl,yu,hn,ht,ht2,clash,go_sem,Nat.reduceEqDiff,Nat.reduceAdd,Nat.reduceLeDiff,↓reduceIte,reduceCtorEq];refine⟨⟨by omega,by omega⟩,⟨by omega,by omega⟩,ikw (by omega) (by omega),yj (k+1) ⟨by omega,by omega⟩ (by omega) ?_⟩
    refine yh [] [] [] ?_;simp only[hst,allQ,live,yg,ybb,go_sem,Nat.reduceEqDiff,↓reduceIte,reduceCtorEq];omega
   ·have ht2:decide (g.ids.getD k 0<g.ids.getD (ycj g.ids k) 0)=false:=decide_eq_false hsm;have hst:ycj g.ids (k+1)=ycj g.ids k:=by show(if _ then _ else _)=_;rw[if_neg hsm]
    simp only[ycgr,yddr,ycyu,ycyl,yu,hn,ht,ht2,clash,go_sem,Nat.reduceEqDiff,Nat.reduceAdd,Nat.reduceLeDiff,↓reduceIte,reduceCtorEq];refine⟨⟨by omega,by omega⟩,⟨by omega,by omega⟩,ikw (by omega) (by omega),yj (k+1) ⟨by omega,by omega⟩ (by omega) ?_⟩
    refine yh [] [] [] ?_;simp only[hst,allQ,live,yg,ybb,go_sem,Nat.reduceEqDiff,↓reduceIte,reduceCtorEq];omega
  ·obtain rfl:k=n:=by omega
   have ht:decide ((k:Int)<(k:Int))=false:=decide_eq_false (by omega)
   simp only[ycgr,ydku,yu,hn,ht,go_sem,Nat.reduceEqDiff,Nat.reduceAdd,Nat.reduceLeDiff,↓reduceIte,reduceCtorEq];exact Sim.refl _
theorem yon(nm:ByteArray)(hi pn pi:Int):Returns Tryz.prog 51 [.a (.string nm),.i .i64 hi,.i .i64 pn,.i .i64 pi] (.ag (varC ⟨nm,1,0,hi,pn,pi⟩)):=by
 refine Returns.of (ydja _ _ ?_);simp only[c51,ydpn,ydhv,varC,go_sem,Nat.reduceEqDiff,Nat.reduceAdd,Nat.reduceLeDiff,Nat.reduceLT,↓reduceIte,reduceCtorEq];exact Sim.refl _
theorem yuc(nm:ByteArray):Returns Tryz.prog 52 [.a (.string nm)] (.ag (varC ⟨nm,3,0,0,0,0⟩)):=by
 refine Returns.of (yduw _ _ ?_);simp only[c52,ydls,ydpr,varC,go_sem,Nat.reduceEqDiff,Nat.reduceAdd,Nat.reduceLeDiff,Nat.reduceLT,↓reduceIte,reduceCtorEq];exact Sim.refl _
theorem ycce:Returns Tryz.prog 29 [] (ydf yyk):=by
 refine Returns.of (ydoy _ _ ?_);have h1:=yon ⟨#[108,101,97,100]⟩ 0 0 1;have h2:=yon ⟨#[100]⟩ (-1) 1 0;have h3:=yuc ⟨#[112]⟩;simp only[varC]at h1 h2 h3;simp only[c29,ydgz,yduu,go_sem,↓reduceIte];refine h1.use ?_;simp only[thenO,clash,go_sem,Nat.reduceEqDiff,Nat.reduceAdd,Nat.reduceLeDiff,Nat.reduceLT,↓reduceIte,reduceCtorEq];refine h2.use ?_;simp only[go_sem,Nat.reduceAdd,↓reduceIte]
 refine h3.use ?_;simp only[go_sem,Nat.reduceAdd,↓reduceIte];have three:∀ {q:Nat},q<3->q=0\/q=1\/q=2:=fun {q} h=>by omega
 refine⟨fun q hq=>by rcases three hq with rfl | rfl | rfl<;>simp only[go_sem],?_⟩
 refine yge fun q hq=>?_;rcases three hq with rfl | rfl | rfl<;>(simp only[yyk,varC,List.getD_cons_zero,List.getD_cons_succ,go_sem];exact⟨Sim.refl _,Sim.refl _,Sim.refl _,Sim.refl _,Sim.refl _,Sim.refl _,trivial⟩)
theorem ybas{g:Gr}(hI:GrI g):Returns Tryz.prog 39 [grV g] (yih g):=by
 refine Returns.of (ydlq _ _ ?_);have hF:=ychy hI;unfold yih;cases hcn:yby g with
 | false =>
  rw[hcn]at hF;simp only[grV]at hF;simp only[c39,ydbh,ydcz,ycyv,ycyk,grV,clmV,clash,go_sem,Nat.reduceEqDiff,Nat.reduceAdd,Nat.reduceLT,↓reduceIte];refine hF.use ?_;simp only[thenO,splice,clash,go_sem,Nat.reduceEqDiff,Nat.reduceAdd,↓reduceIte];exact Sim.refl _
 | true =>
  have hg:=(ycg g).1 (ygu hcn);have h1:=hg.1;have h24:=hg.2.1;have hid:=hg.2.2.1;have hlt:=yic hg;have hU:=ybmv hg;have hE:=ycgx hI (v:=(ybp g.ids:Int)) (yen (by omega))
  have hE1:-1<=eccP g (ybp g.ids)/\eccP g (ybp g.ids)<=1000:=by
   unfold eccP;split
   ·exact⟨yit _,yjq _ _ (by omega) fun x hx=>by
     have:=(ycd hg (a:=((ybp g.ids:Nat):Int).toNat) (by rw[Int.toNat_natCast];exact yic hg)).bound hg (by rw[Int.toNat_natCast];exact yic hg) x hx
     omega⟩
   ·omega
  rw[hcn]at hF;simp only[grV,yu,yx]at hF hU hE;simp only[c39,ydbh,ydcz,ycyv,ycyk,grV,yu,yx,clmV,clash,go_sem,Nat.reduceEqDiff,Nat.reduceAdd,Nat.reduceLT,↓reduceIte];refine hF.use ?_;simp only[thenO,splice,clash,go_sem,Nat.reduceEqDiff,Nat.reduceAdd,Nat.reduceLeDiff,↓reduceIte,reduceCtorEq];refine hU.use ?_;simp only[go_sem,↓reduceIte];refine hE.use ?_;simp only[hid,go_sem,Nat.reduceEqDiff,Nat.reduceAdd,↓reduceIte]
  exact⟨ikw (by omega) (by omega),by decide,Sim.refl _⟩
end Sh
end Go.Proofs.YtpngeppkgoaimaaGreatDoor

namespace Go.Proofs.YtpngeppkgoaimaaGreatDoor
open Go.ChangeShapes Go.WideShapes Go.ChangeAt Go.RowKit

theorem ycbd{α:Type}{p:Nat->α->Prop}:∀ (n:Nat),(∀ i,i<n -> ∃ x,p i x) -> ∃ xs:List α,xs.length=n /\ ∀ (j:Nat) (x:α),xs[j]? = some x->p j x
 | 0,_=>⟨[],rfl,by simp⟩
 | n+1,h=>by
  obtain⟨xs,h1,h2⟩:=ycbd n fun i hi=>h i (by omega)
  obtain⟨x,hx⟩:=h n (by omega)
  refine⟨xs ++ [x],by simp[h1],fun j y hy=>?_⟩
  by_cases hj:j<xs.length
  ·rw[List.getElem?_append_left hj]at hy;exact h2 j y hy
  ·rw[List.getElem?_append_right (by omega)]at hy
   have:j - xs.length=0:=by
    rcases Nat.eq_zero_or_pos (j - xs.length)with q | q
    ·exact q
    ·rw[List.getElem?_eq_none (by simp;omega)]at hy;cases hy
   rw[this]at hy;simp at hy;subst hy;obtain rfl:j=n:=by omega
   exact hx

section
variable {H:Type} {enc:TypeId × Value->H} {P:Program} {w:World} {base:Nat} {held:Bool}
theorem wf_i64{n:Int}(h:(Lit.int .i64 n).wf=true):I64 n:=by
 simp only[Lit.wf,Bool.and_eq_true,decide_eq_true_eq]at h;have e1:IntKind.i64.min = -9223372036854775808:=rfl;have e2:IntKind.i64.max=9223372036854775807:=rfl;rw[e1,e2]at h;exact h
end

theorem own:ownKnob Tryz.prog.godebug=Option.none:=by kernel_rfl
theorem laidOut:laidOutB Tryz.prog=true:=by kernel_rfl

section
variable {H:Type} {enc:TypeId × Value->H} {w:World} {base:Nat} {held:Bool} {n:Nat} {v:Value} {x:DataW H × List MemPlace}
end
end Go.Proofs.YtpngeppkgoaimaaGreatDoor

namespace Go.Proofs.YtpngeppkgoaimaaGreatDoor
namespace Sh
open Go Ev Go.RowKit

noncomputable def ybdo{α:Type}(t:T α):Nat->List (Option α)->T α
 | _,[]=>t
 | i,x :: l=>ybdo (T.set (Nat.succ i) t i x) (i+1) l
theorem ynw{α:Type}:∀ (l:List (Option α)) (t:T α) (i j:Nat),(ybdo t i l).get j=if i<=j/\j<i+l.length then(l[j - i]?).join else t.get j
 | [],t,i,j=>by rw[if_neg (by simp)];rfl
 | x :: l,t,i,j=>by
  unfold ybdo;rw[ynw l _ _ j]
  by_cases c:i+1<=j/\j<i+1+l.length
  ·rw[if_pos c,if_pos (by simp;omega),show j - i=(j - (i+1))+1 by omega]
   rfl
  ·rw[if_neg c,T.set_at]
   by_cases q:j=i
   ·subst q;rw[if_pos rfl,if_pos (by simp)]
    simp
   ·rw[if_neg q,if_neg (by simp;omega)]

def absV(Z:Nat)(v:Value):Option Value:=if simple v then some v else match v with
 | .slice (some ⟨b,o,none⟩) n c=>if n<=c/\c<=9223372036854775807 then(if c=0 then some (.slice (some ⟨Z,0,none⟩) n CU)else if b<=Z then some (.slice (some ⟨b,o,none⟩) n CU)else none)else none
 | .slice (some ⟨_,_,some _⟩) n c=>if n<=c/\c=0 then some (.slice (some ⟨Z,0,none⟩) n CU)else none
 | _=>none
noncomputable def absB(Z:Nat)(w:World)(i:Nat):Option ABlk:=match w.heap[i]? with
 | some (.cells c _ _)=>some (.cells (ybdo .leaf 0 (c.toList.map (absV Z))) c.size CU 0)
 | _=>none
def phiW(w:World):Phi:=fun i=>match w.heap[i]? with
 | some (.cells c _ _)=>some ⟨i,0,c.size,0,w.heap[i]?⟩
 | _=>if i<=w.heap.size then some ⟨i,0,0,0,none⟩else none
noncomputable def memW(w:World):Mem:=⟨w.heap.size+1,ybdo .leaf 0 ((List.range w.heap.size).map (absB w.heap.size w)),w.heap.size+1⟩

theorem yng{w:World}{i:Nat}{b:ABlk}:(memW w).b.get i=some b ↔ absB w.heap.size w i=some b:=by
 show(ybdo .leaf 0 _).get i=some b ↔ _;rw[ynw]
 by_cases h:i<w.heap.size
 ·rw[if_pos (by simpa using h)]
  simp[h]
 ·rw[if_neg (by simpa using h),T.get_leaf]
  have:absB w.heap.size w i=none:=by unfold absB;rw[Array.getElem?_eq_none (by omega)]
  rw[this]
theorem ybhl(w:World):Wf (memW w):=fun i b h=>by
 rw[yng]at h;show i<w.heap.size+1;unfold absB at h;split at h
 ·rename_i hc;have:=(Array.getElem?_eq_some_iff.1 hc).1;omega
 ·cases h
theorem ycx{w:World}{v u:Value}(h:absV w.heap.size v=some u):VR (phiW w) u v:=by
 have hZ:∃ l,phiW w w.heap.size=some l:=by
  unfold phiW;rw[Array.getElem?_eq_none (Nat.le_refl _)];simp
 have hφ:∀ b,b<=w.heap.size -> ∃ sz ob,phiW w b=some ⟨b,0,sz,0,ob⟩:=by
  intro b hb;unfold phiW;split
  ·exact⟨_,_,rfl⟩
  ·rw[if_pos hb];exact⟨_,_,rfl⟩
 unfold absV at h;split at h
 ·rename_i hs;cases h;exact .simple hs
 ·split at h
  ·rename_i b o n c _
   split at h
   ·rename_i hc
    split at h
    ·rename_i h0
     cases h
     obtain⟨l,hl⟩:=hZ;exact .slice hl hc.1 (fun q=>absurd rfl q) hc.2 (.inr h0)
    ·split at h
     ·rename_i hbl
      cases h
      obtain⟨sz,ob',hl⟩:=hφ b hbl;exact .slice hl hc.1 (fun q=>absurd rfl q) hc.2 (.inl ⟨by simp,.inl rfl⟩)
     ·cases h
   ·cases h
  ·rename_i b o sp n c _
   split at h
   ·rename_i hc
    cases h
    obtain⟨l,hl⟩:=hZ;exact .slice hl hc.1 (fun q=>absurd rfl q) (by omega) (.inr hc.2)
   ·cases h
  ·cases h
theorem relW(w:World):Rel (phiW w) (memW w).b.get w:=by
 have hblk:∀ i b,(memW w).b.get i=some b -> ∃ l,phiW w i=some l/\l.blk=i/\l.ob=w.heap[i]? /\ BR (phiW w) l w b:=by
  intro i b hb;rw[yng]at hb;unfold absB at hb;split at hb
  ·rename_i c e fz hc
   cases hb
   refine⟨⟨i,0,c.size,0,w.heap[i]?⟩,by unfold phiW;rw[hc],rfl,rfl,rfl,by simp,c.toList,e,fz,⟨fun q=>absurd rfl q,fun o ho=>ho⟩,by simpa using hc,by simp,fun j v hj hg=>?_⟩
   rw[ynw]at hg;split at hg
   ·simp only[Nat.sub_zero,List.getElem?_map]at hg;cases hcj:c.toList[j]? with
    | none=>rw[hcj]at hg;cases hg
    | some x =>
     rw[hcj]at hg;have hg:absV w.heap.size x=some v:=by simpa using hg
     exact⟨x,by rw[Nat.zero_add];exact hcj,ycx hg⟩
   ·rw[T.get_leaf]at hg;cases hg
  ·cases hb
 refine⟨fun i b hb=>by obtain⟨l,h1,_,_,h2⟩:=hblk i b hb;exact⟨l,h1,h2⟩,fun i j x y li lj hne hx hy hi hj=>?_⟩
 obtain⟨l,h1,h2,_⟩:=hblk i x hx;obtain⟨l',h3,h4,_⟩:=hblk j y hy;rw[hi]at h1;cases h1
 rw[hj]at h3;cases h3
 rw[h2,h4];exact hne
theorem yczp{w:World}{i:Nat}{b:ABlk}{l:Ev.Loc}(hb:(memW w).b.get i=some b)(hl:phiW w i=some l):l.blk=i /\ ∃ o,l.ob=some o/\w.heap[i]? = some o:=by
 rw[yng]at hb;unfold absB at hb;split at hb
 ·rename_i c e fz hc
  unfold phiW at hl;rw[hc]at hl;cases hl
  exact⟨rfl,_,rfl,hc⟩
 ·cases hb
theorem ydjx(w:World)(n:Nat):Fresh (phiW w) (memW w).next n:=by
 intro i h1 _;have h1:w.heap.size+1<=i:=h1;unfold phiW;rw[Array.getElem?_eq_none (by omega)]
 simp only;rw[if_neg (by omega)]
theorem ycht {P:Program} {g:FuncId} {args:List SV} {r:SV} {v:Value} {us us':List Value} {w:World} (h:Returns P g args r) (hg:∃ fn c,P.funcs[g]? = some fn/\fn.body=some c) (hn:ypo P)
  (ha:RVL (memW w).b.get om0 args us) (hv:VRL (phiW w) us us') (hr:∀ F u,RV F om0 r u->u=v) (hat:∀ φ v',VR φ v v'->v'=v):Calls P g us'.toArray w fun e w'=>e = .returned v/\Below w.heap.size w w':=by
 obtain⟨u,m',x,h1,h2,h3,rfl,h5⟩:=h (memW w).b.get (memW w) us (ybhl w) (Le.refl _) ha;have hu:=hr _ _ h5;subst hu;have hs:=(h1 (ybhl w)).2 (phiW w) (memW w).b.get w us' (relW w) (fun i b hb=>hb) hv (ydjx w _);obtain⟨fn,c,k1,k2⟩:=hg;rcases hs with⟨_,hc⟩ | ⟨v',w',hrun,_⟩
 ·refine hc.mono ?_;rintro e w' ⟨v',rfl,φ',M',hgd,hvr⟩;rw[hat _ _ hvr];refine⟨rfl,hgd.wg.os,hgd.wg.tape,hgd.wg.output,hgd.wg.size,fun k hk=>?_⟩
  by_cases hi:Img (phiW w) (memW w).b.get k
  ·obtain⟨i,b,l,e1,e2,e3⟩:=hi;obtain⟨k4,o,k5,k6⟩:=yczp e1 e2;have hik:i=k:=k4.symm.trans e3;subst hik;have hlt:i<(memW w).next:=ybhl w i b e1
   have hM:M' i=some b:=by
    rw[hgd.frame i (fun q=>by omega) (.inr (Nat.lt_of_lt_of_le hlt h2))]
    exact e1
   obtain⟨l',q1,q2⟩:=hgd.rel.blk i b hM;rw[hgd.le i l e2]at q1;cases q1
   have hcells:∃ c n,b = .cells c n CU 0:=by
    rw[yng]at e1;unfold absB at e1;split at e1
    ·cases e1;exact⟨_,_,rfl⟩
    ·cases e1
   obtain⟨c',n',rfl⟩:=hcells;obtain⟨_,_,cs,e',fz,h0,_⟩:=q2;rw[k4]at h0;rw[h0.2 o k5,k6]
  ·exact hgd.wg.keep k hk hi
 ·rw[ycf hn k1 k2]at hrun;cases hrun
end Sh
end Go.Proofs.YtpngeppkgoaimaaGreatDoor

namespace Go.Proofs.YtpngeppkgoaimaaGreatDoor
namespace Sh
open Go Ev Go.RowKit Go.ChangeShapes Go.WideShapes Go.ChangeAt
def yut(w:World)(g:SV)(v:Value):Prop:=∃ u,absV w.heap.size v=some u/\RV (memW w).b.get om0 g u
def ybfe(w:World)(g:List SV)(cs:List Value):Prop:=∃ L,cs.map (absV w.heap.size)=L.map some/\RVL (memW w).b.get om0 g L
theorem ybfe.nil(w:World):ybfe w [] []:=⟨[],rfl,.nil⟩
theorem yut.cons{w:World}{g:SV}{v:Value}{gs:List SV}{cs:List Value}(h:yut w g v)(t:ybfe w gs cs):ybfe w (g :: gs) (v :: cs):=by
 obtain⟨u,h1,h2⟩:=h;obtain⟨L,h3,h4⟩:=t;exact⟨u :: L,by rw[List.map_cons,List.map_cons,h1,h3],.cons h2 h4⟩
theorem yyb(w:World)(k:IntKind)(n:Int):yut w (.i k n) (.int k n):=⟨.int k n,rfl,.i⟩
theorem ybkm{w:World}{a:Addr}{v:Value}(h:w.cell? a=some v):a.spot=none/\a.block<w.heap.size /\ ∃ c e fz,w.heap[a.block]? = some (.cells c e fz)/\c[a.off]? = some v:=by
 unfold World.cell? at h;split at h
 ·rename_i c e fz hc
  split at h
  ·cases h
  ·rename_i hs
   refine⟨?_,(Array.getElem?_eq_some_iff.1 hc).1,c,e,fz,hc,h⟩;cases hq:a.spot with
   | none=>rfl
   | some x=>rw[hq]at hs;simp at hs
 ·cases h
section
variable {H:Type} {enc:TypeId × Value->H} {P:Program} {w:World} {base:Nat} {held:Bool}
theorem yvh {α:Type} {z:Nat} {f:α->List SV} {p:α->Prop} (d:α) {t e:TypeId} {fuel:Nat} {v:Value} {x:DataW H × List MemPlace} (ht:P.underlying t=some (.slice e)) (hC:P.cellsOf e=z) (h0:0<z)
  (hE:∀ (n:Nat) (cs':List Value) (y:DataW H × List MemPlace),DataW.trod enc P w base (fun _=>true) held n e cs'=some y->cs'.length=z -> ∃ x,p x/\ybfe w (f x) cs'/\(f x).all one1=true)
  (h:DataW.trod enc P w base (fun _=>true) held fuel t [v]=some x):∃ xs:List α,(∀ x ∈ xs,p x)/\yut w (.sl z xs.length (fun k=>f (xs.getD k d))) v:=by
 rcases Go.Deep.open_slice ht h with⟨h1,_⟩ | ⟨a,len,cap,m,n,D,Pl,hcs,hb,hl,hm,hmm,hx,hi⟩
 ·simp at h1;subst h1;exact⟨[],fun x hx=>(by cases hx),.slice none 0 0,rfl,.sl0 (.inl rfl)⟩
 ·simp at hcs;subst hcs;simp only[if_true]at hmm;subst hmm;unfold maxLen at hm;rw[hC]at hi;obtain⟨b,off,spot⟩:=a;rcases Nat.eq_zero_or_pos m with rfl | hcap
  ·obtain rfl:len=0:=by omega
   refine⟨[],fun x hx=>(by cases hx),.slice (some ⟨w.heap.size,0,none⟩) 0 CU,?_,.sl0 (.inr ⟨_,_,_,rfl⟩)⟩
   cases spot<;>rfl
  ·have h00:∃ v0,w.cell? ⟨b,off,spot⟩=some v0:=by
    obtain⟨cs',h2,_⟩:=hi 0 hcap;obtain⟨_,h3,h4⟩:=World.cells?_some h2;have h5:=h4 0 h0;have h6:cs'[0]? = some (cs'[0]'(by omega)):=List.getElem?_eq_getElem (by omega)
    rw[h6]at h5
    have e:(((⟨b,off,spot⟩:Addr).add (0 * z)).add 0)=⟨b,off,spot⟩:=by
     unfold Addr.add;simp
    rw[e]at h5;exact⟨_,h5⟩
   obtain⟨v0,hv0⟩:=h00;obtain⟨hsp,hblk,c,e',fz,hc,_⟩:=ybkm hv0;have hsp:spot=none:=hsp;subst hsp;have hblk:b<w.heap.size:=hblk;have hc:w.heap[b]? = some (.cells c e' fz):=hc
   have habs:absV w.heap.size (.slice (some ⟨b,off,none⟩) len m)=some (.slice (some ⟨b,off,none⟩) len CU):=by
    unfold absV;rw[if_neg (by simp[simple])]
    simp only;rw[if_pos ⟨hl,hm⟩,if_neg (by omega),if_pos (by omega)]
   obtain⟨xs,x1,x2⟩:=ycbd (p:=fun i x=>p x/\(f x).all one1=true /\ ∃ L:List Value,L.length=z/\RVL (memW w).b.get om0 (f x) L /\ ∀ j,j<z -> ∃ cv,w.cell? ⟨b,off+i * z+j,none⟩=some cv/\absV w.heap.size cv=L[j]?) len fun i hil=>by
    obtain⟨cs',h2,h3⟩:=hi i (by omega)
    obtain⟨_,h4,h5⟩:=World.cells?_some h2;obtain⟨x,q1,⟨L,q2,q3⟩,q4⟩:=hE n cs' _ h3 h4
    have hLz:L.length=z:=by
     have:=congrArg List.length q2
     simpa [h4]using this.symm
    refine⟨x,q1,q4,L,hLz,q3,fun j hj=>?_⟩;have hj':j<cs'.length:=by omega
    refine⟨cs'[j],?_,?_⟩
    ·have:=h5 j hj;rw[List.getElem?_eq_getElem hj']at this;rw[<- this];congr 1;unfold Addr.add;split<;>split<;>simp_all<;>omega
    ·have:=congrArg (fun l=>l[j]?) q2;simp only[List.getElem?_map,List.getElem?_eq_getElem hj']at this;rw[List.getElem?_eq_getElem (show j<L.length by omega)]at this ⊢
     simpa using this
   refine⟨xs,fun x hx=>?_,_,habs,?_⟩
   ·obtain⟨i,hi',rfl⟩:=List.getElem_of_mem hx;exact(x2 i _ (List.getElem?_eq_getElem hi')).1
   ·rw[x1];rcases Nat.eq_zero_or_pos len with rfl | hlen
    ·exact .sl0 (.inr ⟨_,_,_,rfl⟩)
    ·have hat:∀ k,k<len -> ∃ L:List Value,L.length=z/\RVL (memW w).b.get om0 (f (xs.getD k d)) L/\(f (xs.getD k d)).all one1=true /\ ∀ j,j<z -> ∃ cv,w.cell? ⟨b,off+k * z+j,none⟩=some cv/\absV w.heap.size cv=L[j]?:=fun k hk=>by
      have hk':k<xs.length:=by omega
      obtain⟨_,q2,L,q3,q4,q5⟩:=x2 k _ (List.getElem?_eq_getElem hk');rw[List.getD_eq_getElem?_getD,List.getElem?_eq_getElem hk'];exact⟨L,q3,q4,q2,q5⟩
     classical
     let L:Nat->List Value:=fun k=>if hk:k<len then Classical.choose (hat k hk)else[]
     have hL:∀ k (hk:k<len),(L k).length=z/\RVL (memW w).b.get om0 (f (xs.getD k d)) (L k)/\(f (xs.getD k d)).all one1=true /\ ∀ j,j<z -> ∃ cv,w.cell? ⟨b,off+k * z+j,none⟩=some cv/\absV w.heap.size cv=(L k)[j]?:=fun k hk=>by
      have e:L k=Classical.choose (hat k hk):=by show(if hk:k<len then _ else _)=_;rw[dif_pos hk]
      rw[e];exact Classical.choose_spec (hat k hk)
     have hmem:(memW w).b.get b=some (.cells (ybdo .leaf 0 (c.toList.map (absV w.heap.size))) c.size CU 0):=by
      rw[yng];unfold absB;rw[hc]
     have hget:∀ j cv,w.cell? ⟨b,j,none⟩=some cv->j<c.size/\(ybdo .leaf 0 (c.toList.map (absV w.heap.size))).get j=absV w.heap.size cv:=fun j cv hcv=>by
      obtain⟨_,_,c2,e2,fz2,h1,h2⟩:=ybkm hcv;have h1:w.heap[b]? = some (.cells c2 e2 fz2):=h1;rw[hc]at h1;cases h1
      have h2:c[j]? = some cv:=h2;have hj:j<c.size:=(Array.getElem?_eq_some_iff.1 h2).1;refine⟨hj,?_⟩;rw[ynw,if_pos ⟨Nat.zero_le _,by simpa using hj⟩,Nat.sub_zero,List.getElem?_map]
      have:c.toList[j]? = some cv:=by simpa using h2
      rw[this];simp
     refine .sl (L:=L) hmem (.inr rfl) ?_ (fun k hk=>(hL k hk).1) (fun k hk j hj=>?_) (fun k hk=>(hL k hk).2.1) (fun k hk=>(hL k hk).2.2.1)
     ·obtain⟨_,_,_,q⟩:=hL (len - 1) (by omega)
      obtain⟨cv,h1,_⟩:=q (z - 1) (by omega)
      have:=(hget _ _ h1).1
      have e:len * z=(len - 1) * z+z:=by
       obtain⟨y,rfl⟩:∃ y,len=y+1:=⟨len - 1,by omega⟩
       rw[Nat.succ_mul];simp
      omega
     ·obtain⟨_,_,_,q⟩:=hL k hk;obtain⟨cv,h1,h2⟩:=q j hj;rw[(hget _ _ h1).2,h2]
theorem ybyv {t e:TypeId} {fuel:Nat} {v:Value} {x:DataW H × List MemPlace} (ht:P.underlying t=some (.slice e)) (he:P.underlying e=some (.int .i64)) (hC:P.cellsOf e=1)
  (h:DataW.trod enc P w base (fun _=>true) held fuel t [v]=some x):∃ xs,(∀ x ∈ xs,I64 x)/\yut w (yu xs) v:=by
 refine yvh (f:=fun x=>[.i .i64 x]) (p:=I64) 0 ht hC (by decide) (fun n cs' y h1 h2=>?_) h
 obtain⟨k,rfl,_,hw⟩:=DataW.trod_int he h1;exact⟨k,wf_i64 hw,(yyb w .i64 k).cons (ybfe.nil w),rfl⟩
end
section
variable {H:Type} {enc:TypeId × Value->H} {w:World} {base:Nat} {held:Bool} {n:Nat} {v:Value} {x:DataW H × List MemPlace}
theorem yfl(h:DataW.trod enc Tryz.prog w base (fun _=>true) held n 22 [v]=some x):∃ xs,(∀ x ∈ xs,I64 x)/\yut w (yu xs) v :=
 ybyv Tryz.underlying22 Tryz.underlying3 (by kernel_rfl) h
end
theorem ygq {P:Program} {g:FuncId} {args:List SV} {x:Bool} {us':List Value} {w:World} (h:Returns P g args (.b x)) (hg:∃ fn c,P.funcs[g]? = some fn/\fn.body=some c) (hn:ypo P)
  {us:List Value} (ha:RVL (memW w).b.get om0 args us) (hv:VRL (phiW w) us us'):Calls P g us'.toArray w fun e w'=>e = .returned (.bool x)/\Below w.heap.size w w' :=
 ycht h hg hn ha hv (fun F u hu=>by cases hu;rfl) (fun φ v' hv'=>hv'.eq_simple rfl)
end Sh
end Go.Proofs.YtpngeppkgoaimaaGreatDoor

namespace Go.Proofs.YtpngeppkgoaimaaGreatDoor
namespace Sh
open Go Ev Go.RowKit Go.ChangeShapes Go.WideShapes Go.ChangeAt Go.Joins
theorem ydsc{α:Type}{cs:Array α}(h:cs.size=6):∃ c0 c1 c2 c3 c4 c5,cs = #[c0,c1,c2,c3,c4,c5]:=by
 obtain⟨l⟩:=cs
 match l,h with
 | [c0,c1,c2,c3,c4,c5],_=>exact⟨c0,c1,c2,c3,c4,c5,rfl⟩
section
variable {H:Type} {enc:TypeId × Value->H} {P:Program} {w:World} {base:Nat} {held:Bool} {spare:Nat->Bool}
theorem six{α:Type}{xs:List α}(h:xs.length=6):∃ y0 y1 y2 y3 y4 y5,xs = [y0,y1,y2,y3,y4,y5]:=by
 match xs,h with
 | [y0,y1,y2,y3,y4,y5],_=>exact⟨y0,y1,y2,y3,y4,y5,rfl⟩
theorem ybtd {r:Reach} {b0:Nat} {t:TypeId} {f0 f1 f2 f3 f4 f5:Field} {v:Value} {d:DataW H} {p:List MemPlace} (hs:P.underlying t=some (.struct #[f0,f1,f2,f3,f4,f5])) (hone:Go.Deep.oneCellFields P #[f0,f1,f2,f3,f4,f5]=true) (hC:P.cellsOf t=6)
  (hv:Value.okWide P w r b0 t v) (h:DataW.Trod enc P w base spare held t v d p) :
  ∃ (v0 v1 v2 v3 v4 v5:Value) (y0 y1 y2 y3 y4 y5:DataW H × List MemPlace) (n:Nat),v = .agg #[v0,v1,v2,v3,v4,v5] /\
   DataW.trod enc P w base spare held n f0.type [v0]=some y0/\DataW.trod enc P w base spare held n f1.type [v1]=some y1/\DataW.trod enc P w base spare held n f2.type [v2]=some y2 /\
   DataW.trod enc P w base spare held n f3.type [v3]=some y3/\DataW.trod enc P w base spare held n f4.type [v4]=some y4/\DataW.trod enc P w base spare held n f5.type [v5]=some y5:=by
 obtain⟨cs,rfl,hsz⟩:=okWide_struct hs hv;obtain⟨c0,c1,c2,c3,c4,c5,rfl⟩:=ydsc (hsz.trans hC);obtain⟨fuel,hf⟩:=h;obtain⟨xs,n,_,_,_,hlen,hf⟩:=DataW.trod_struct hs hf;obtain⟨y0,y1,y2,y3,y4,y5,rfl⟩:=six hlen;obtain⟨o0,k0⟩:=Go.Deep.hone_of hone 0 f0 rfl;obtain⟨o1,k1⟩:=Go.Deep.hone_of hone 1 f1 rfl;obtain⟨o2,k2⟩:=Go.Deep.hone_of hone 2 f2 rfl;obtain⟨o3,k3⟩:=Go.Deep.hone_of hone 3 f3 rfl;obtain⟨o4,k4⟩:=Go.Deep.hone_of hone 4 f4 rfl
 obtain⟨o5,k5⟩:=Go.Deep.hone_of hone 5 f5 rfl;have h0:=hf 0 f0 rfl;have h1:=hf 1 f1 rfl;have h2:=hf 2 f2 rfl;have h3:=hf 3 f3 rfl;have h4:=hf 4 f4 rfl;have h5:=hf 5 f5 rfl;rw[o0,k0]at h0;rw[o1,k1]at h1;rw[o2,k2]at h2;rw[o3,k3]at h3;rw[o4,k4]at h4;rw[o5,k5]at h5;exact⟨c0,c1,c2,c3,c4,c5,y0,y1,y2,y3,y4,y5,n,rfl,h0,h1,h2,h3,h4,h5⟩
end
set_option maxRecDepth 8000
section
variable {H:Type} {enc:TypeId × Value->H} {w:World} {base:Nat} {held:Bool} {n:Nat} {v:Value} {x:DataW H × List MemPlace}
theorem ybtr(w:World)(b:Bool):yut w (.b b) (.bool b):=⟨.bool b,rfl,.b⟩
theorem yky(h:DataW.trod enc Tryz.prog w base (fun _=>true) held n 25 [v]=some x):∃ xs:List Nat,(∀ k,xs.getD k 0<2 ^ 32)/\yut w (usV xs) v:=by
 obtain⟨xs,h1,h2⟩:=yvh (f:=fun x:Nat=>[SV.i .u32 (x:Int)]) (p:=fun x=>x<2 ^ 32) 0 (z:=1) Tryz.underlying25 (by kernel_rfl) (by decide) (fun n cs' y h1 h2=>by
  obtain⟨k,rfl,_,hw⟩:=DataW.trod_int Tryz.underlying44 h1;have hb:=bounds_u32 hw;obtain⟨m,rfl⟩:∃ m:Nat,k=m:=⟨k.toNat,by omega⟩
  exact⟨m,by omega,(yyb w .u32 m).cons (ybfe.nil w),rfl⟩) h
 refine⟨xs,fun k=>?_,h2⟩;rcases Nat.lt_or_ge k xs.length with q | q
 ·rw[List.getD_eq_getElem?_getD,List.getElem?_eq_getElem q];exact h1 _ (List.getElem_mem q)
 ·rw[List.getD_eq_getElem?_getD,List.getElem?_eq_none q];decide
theorem ymf{l:List Int}(h:∀ x ∈ l,I64 x)(k:Nat):inK .i64 (l.getD k 0):=by
 have:I64 (l.getD k 0):=by
  rcases Nat.lt_or_ge k l.length with q | q
  ·rw[List.getD_eq_getElem?_getD,List.getElem?_eq_getElem q];exact h _ (List.getElem_mem q)
  ·rw[List.getD_eq_getElem?_getD,List.getElem?_eq_none q];exact yen (by decide)
 exact this
theorem ybxn{v:Value}{x:DataW H × List MemPlace}(h:DataW.trod enc Tryz.prog w base (fun _=>true) held n 3 [v]=some x):∃ k,inK .i64 k/\yut w (.i .i64 k) v:=by
 obtain⟨k,e,_,hw⟩:=DataW.trod_int Tryz.underlying3 h;simp at e;subst e;exact⟨k,wf_i64 hw,yyb w .i64 k⟩
theorem ywo{v:Value}{x:DataW H × List MemPlace}(h:DataW.trod enc Tryz.prog w base (fun _=>true) held n 4 [v]=some x):∃ b,yut w (.b b) v:=by
 obtain⟨b,e,_⟩:=DataW.trod_bool Tryz.underlying4 h;simp at e;subst e;exact⟨b,ybtr w b⟩
theorem yib{b0:Nat}{d:DataW H}{p:List MemPlace}(hv:Value.okWide Tryz.prog w .any b0 24 v)(h:DataW.Trod enc Tryz.prog w base (fun _=>true) held 24 v d p) :
  ∃ (x:NetR) (u:Value),x.ok/\RV (memW w).b.get om0 (.ag (netC x)) u/\VR (phiW w) u v:=by
 obtain⟨v0,v1,v2,v3,v4,v5,y0,y1,y2,y3,y4,y5,n,rfl,h0,h1,h2,h3,h4,h5⟩:=ybtd Tryz.underlying24 (by kernel_rfl) (by kernel_rfl) hv h
 obtain⟨k,kI,u0,a0,r0⟩:=ybxn h0;obtain⟨ls,lI,u1,a1,r1⟩:=yfl h1;obtain⟨ws,wI,u2,a2,r2⟩:=yfl h2;obtain⟨is,iI,u3,a3,r3⟩:=yfl h3;obtain⟨ap,u4,a4,r4⟩:=ywo h4;obtain⟨bk,u5,a5,r5⟩:=ywo h5;refine⟨⟨k,ls,ws,is,ap,bk⟩,.agg [u0,u1,u2,u3,u4,u5].toArray,⟨kI,ymf lI,ymf wI,ymf iI⟩,.ag (.cons r0 (.cons r1 (.cons r2 (.cons r3 (.cons r4 (.cons r5 .nil)))))),?_⟩;exact .agg (a:=[u0,u1,u2,u3,u4,u5]) (a':=[v0,v1,v2,v3,v4,v5]) (.cons (ycx a0) (.cons (ycx a1) (.cons (ycx a2) (.cons (ycx a3) (.cons (ycx a4) (.cons (ycx a5) .nil))))))
end
end Sh
end Go.Proofs.YtpngeppkgoaimaaGreatDoor

namespace Go.Proofs.YtpngeppkgoaimaaGreatDoor
namespace Ev
open Go

noncomputable section defs
def renA(ρ:Nat->Nat)(a:Addr):Addr:=forceN (ρ a.block) fun b=>⟨b,a.off,a.spot⟩
def ren1(ρ:Nat->Nat):Value->Value
 | .pointer (some a)=>.pointer (some (renA ρ a))
 | .slice (some a) n c=>.slice (some (renA ρ a)) n c
 | v=>v
def ren2(ρ:Nat->Nat):Value->Value
 | .agg a=>.agg (a.toList.map (ren1 ρ)).toArray
 | .func g a c=>.func g (a.toList.map (ren1 ρ)).toArray (c.toList.map (ren1 ρ)).toArray
 | v=>ren1 ρ v
def renV(ρ:Nat->Nat):Value->Value
 | .tuple a=>.tuple (a.toList.map (ren2 ρ)).toArray
 | v=>ren2 ρ v
def yqw:Value->Bool
 | .pointer (some a)=>a.spot.isNone
 | .slice (some a) _ _=>a.spot.isNone
 | v=>simple v
def yla:Value->Bool
 | .agg a=>a.toList.all yqw
 | .func (.func _) a c=>a.toList.all yqw && c.toList.all yqw
 | v=>yqw v
def ybuc:Value->Bool
 | .tuple a=>a.toList.all yla
 | v=>yla v
def yxp:List BlkL->List Nat->Nat->Nat->Nat
 | b :: l,t :: k,d,i=>bif Nat.beq b.i i then t else yxp l k d i
 | _,_,d,_=>d
def Fact.rho(f:Fact)(tgt:List Nat)(n0:Nat)(i:Nat):Nat :=
 bif Nat.ble f.next0 i && Nat.blt i f.next1 then Nat.add (Nat.sub i f.next0) n0 else yxp f.pre tgt (Nat.add n0 (Nat.sub f.next1 f.next0)) i
def BlkL.ren(ρ:Nat->Nat)(b:BlkL):BlkL:=⟨forceN (ρ b.i) fun i=>i,b.e,b.z,b.l.map (ren2 ρ)⟩
def Fact.move(f:Fact)(tgt:List Nat)(n0:Nat):Fact :=
 ⟨f.g,f.args.map (ren2 (f.rho tgt n0)),n0,f.pre.map (BlkL.ren (f.rho tgt n0)),renV (f.rho tgt n0) f.v,Nat.add n0 (Nat.sub f.next1 f.next0),f.post.map (BlkL.ren (f.rho tgt n0)),n0⟩
def Fact.after(f:Fact):Mem:=⟨f.next1,blksT f.mem.b f.post,f.next0⟩
def yhc:List Nat->Bool
 | []=>true
 | x :: l=>!(l.elem x) && yhc l
def Fact.moves(f:Fact)(tgt:List Nat)(n0:Nat):Bool :=
 Nat.ble f.next0 f.low && f.args.all yla && ybuc f.v && f.pre.all (fun b=>Nat.blt b.i f.next0 && b.l.all yla) && f.post.all (fun b=>Nat.blt b.i f.next1 && b.l.all yla) &&
  yhc ((f.move tgt n0).pre.map (·.i)) && (f.move tgt n0).pre.all (fun b=>Nat.blt b.i n0 && blkIs (f.move tgt n0).mem b) && (f.move tgt n0).post.all (blkIs (f.move tgt n0).after) && Nat.ble f.next0 f.next1
end defs

section
variable {φ φ2:Phi} {ρ:Nat->Nat}

theorem yke(a:Addr):renA ρ a=⟨ρ a.block,a.off,a.spot⟩:=by unfold renA;rw[forceN_eq]
theorem BlkL.yhy(b:BlkL):(b.ren ρ).i=ρ b.i:=by show forceN (ρ b.i) (fun i=>i)=_;rw[forceN_eq]
theorem vr1(hφ:∀ b,φ b=φ2 (ρ b)){v v':Value}(hf:yqw v=true):VR φ v v' ↔ VR φ2 (ren1 ρ v) v':=by
 unfold yqw at hf;split at hf
 ·rename_i a
  obtain⟨b,o,s⟩:=a;have hs:s=none:=by simpa using hf
  subst hs;show VR φ _ _ ↔ VR φ2 (.pointer (some (renA ρ ⟨b,o,none⟩))) v';rw[yke];constructor
  ·intro h;cases h with
   | simple q=>cases q
   | ptr h=>rw[hφ]at h;exact VR.ptr h
  ·intro h;cases h with
   | simple q=>cases q
   | ptr h=>rw[<- hφ]at h;exact VR.ptr h
 ·rename_i a n c
  obtain⟨b,o,s⟩:=a;have hs:s=none:=by simpa using hf
  subst hs;show VR φ _ _ ↔ VR φ2 (.slice (some (renA ρ ⟨b,o,none⟩)) n c) v';rw[yke];constructor
  ·intro h;cases h with
   | simple q=>cases q
   | slice h h1 h2 h3 h4=>rw[hφ]at h;exact VR.slice h h1 h2 h3 h4
  ·intro h;cases h with
   | simple q=>cases q
   | slice h h1 h2 h3 h4=>rw[<- hφ]at h;exact VR.slice h h1 h2 h3 h4
 ·rename_i h1 h2
  have hr:ren1 ρ v=v:=by
   unfold ren1;split
   ·rename_i a;exact absurd rfl (h1 a)
   ·rename_i a n c;exact absurd rfl (h2 a n c)
   ·rfl
  rw[hr];constructor
  ·intro h;rw[h.eq_simple hf];exact VR.simple hf
  ·intro h;rw[h.eq_simple hf];exact VR.simple hf
theorem vrl1(hφ:∀ b,φ b=φ2 (ρ b)):∀ {l l':List Value},l.all yqw=true->(VRL φ l l' ↔ VRL φ2 (l.map (ren1 ρ)) l')
 | [],l',_=>by
  constructor
  ·intro h;cases h;exact VRL.nil
  ·intro h;cases h;exact VRL.nil
 | v :: l,l',hf=>by
  simp only[List.all_cons,Bool.and_eq_true]at hf;constructor
  ·intro h;cases h with
   | cons h1 h2=>exact VRL.cons ((vr1 hφ hf.1).1 h1) ((vrl1 hφ hf.2).1 h2)
  ·intro h;cases h with
   | cons h1 h2=>exact VRL.cons ((vr1 hφ hf.1).2 h1) ((vrl1 hφ hf.2).2 h2)
theorem vr2(hφ:∀ b,φ b=φ2 (ρ b)){v v':Value}(hf:yla v=true):VR φ v v' ↔ VR φ2 (ren2 ρ v) v':=by
 unfold yla at hf;split at hf
 ·rename_i a
  obtain⟨a⟩:=a;show VR φ (.agg a.toArray) _ ↔ VR φ2 (.agg (a.map (ren1 ρ)).toArray) v';constructor
  ·intro h;cases h with
   | simple q=>cases q
   | agg h=>exact VR.agg ((vrl1 hφ hf).1 h)
  ·intro h;cases h with
   | simple q=>cases q
   | agg h=>exact VR.agg ((vrl1 hφ hf).2 h)
 ·rename_i g a c
  obtain⟨a⟩:=a;obtain⟨c⟩:=c;simp only[Bool.and_eq_true]at hf;show VR φ (.func (.func g) a.toArray c.toArray) _ ↔ VR φ2 (.func (.func g) (a.map (ren1 ρ)).toArray (c.map (ren1 ρ)).toArray) v';constructor
  ·intro h;cases h with
   | simple q=>cases q
   | func h k=>exact VR.func ((vrl1 hφ hf.1).1 h) ((vrl1 hφ hf.2).1 k)
  ·intro h;cases h with
   | simple q=>cases q
   | func h k=>exact VR.func ((vrl1 hφ hf.1).2 h) ((vrl1 hφ hf.2).2 k)
 ·rename_i h1 h2
  have hr:ren2 ρ v=ren1 ρ v:=by
   unfold ren2;split
   ·rename_i a;exact absurd rfl (h1 a)
   ·rename_i g a c
    cases hf
   ·rfl
  rw[hr];exact vr1 hφ hf
theorem vrl2(hφ:∀ b,φ b=φ2 (ρ b)):∀ {l l':List Value},l.all yla=true->(VRL φ l l' ↔ VRL φ2 (l.map (ren2 ρ)) l')
 | [],l',_=>by
  constructor
  ·intro h;cases h;exact VRL.nil
  ·intro h;cases h;exact VRL.nil
 | v :: l,l',hf=>by
  simp only[List.all_cons,Bool.and_eq_true]at hf;constructor
  ·intro h;cases h with
   | cons h1 h2=>exact VRL.cons ((vr2 hφ hf.1).1 h1) ((vrl2 hφ hf.2).1 h2)
  ·intro h;cases h with
   | cons h1 h2=>exact VRL.cons ((vr2 hφ hf.1).2 h1) ((vrl2 hφ hf.2).2 h2)
theorem vrV(hφ:∀ b,φ b=φ2 (ρ b)){v v':Value}(hf:ybuc v=true)(h:VR φ v v'):VR φ2 (renV ρ v) v':=by
 unfold ybuc at hf;split at hf
 ·rename_i a
  obtain⟨a⟩:=a;show VR φ2 (.tuple (a.map (ren2 ρ)).toArray) v';cases h with
  | simple q=>cases q
  | tuple h=>exact VR.tuple ((vrl2 hφ hf).1 h)
 ·rename_i h1
  have hr:renV ρ v=ren2 ρ v:=by
   unfold renV;split
   ·rename_i a;exact absurd rfl (h1 a)
   ·rfl
  rw[hr];exact(vr2 hφ hf).1 h
theorem ywt{α:Type}{g:α->Nat}:∀ {l:List α},yhc (l.map g)=true -> ∀ a ∈ l,∀ b ∈ l,g a=g b->a=b
 | [],_,a,ha,_,_,_=>by cases ha
 | x :: l,h,a,ha,b,hb,e=>by
  have h:(!(l.map g).elem (g x) && yhc (l.map g))=true:=h;simp only[Bool.and_eq_true,Bool.not_eq_true']at h
  have hx:∀ y ∈ l,g y ≠ g x:=fun y hy q=>by
   have:(l.map g).elem (g x)=true:=List.elem_eq_true_of_mem (List.mem_map.2 ⟨y,hy,q⟩);rw[this]at h;cases h.1
  rcases List.mem_cons.1 ha with ea | ha'
  ·rcases List.mem_cons.1 hb with eb | hb'
   ·rw[ea,eb]
   ·exact absurd (by rw[<- e,ea]) (hx b hb')
  ·rcases List.mem_cons.1 hb with eb | hb'
   ·exact absurd (by rw[e,eb]) (hx a ha')
   ·exact ywt h.2 a ha' b hb' e
theorem ybip:∀ (l:List BlkL) (k:List Nat) (d i:Nat),yxp l k d i=d \/ ∃ b ∈ l,b.i=i
 | [],_,_,_=>.inl rfl
 | _ :: _,[],_,_=>.inl rfl
 | b :: l,t :: k,d,i=>by
  unfold yxp;rw[Bool.cond_eq_ite];split
  ·rename_i h;exact .inr ⟨b,List.mem_cons_self,Nat.eq_of_beq_eq_true h⟩
  ·rcases ybip l k d i with h | ⟨c,h1,h2⟩
   ·exact .inl h
   ·exact .inr ⟨c,List.mem_cons_of_mem _ h1,h2⟩
end

theorem yfx{P:Program}{f:Fact}{tgt:List Nat}{n0:Nat}(hok:yea P f)(hc:f.moves tgt n0=true):yea P (f.move tgt n0):=by
 obtain⟨m',hs,e1,e2,e3⟩:=hok;unfold Fact.moves at hc;simp only[Bool.and_eq_true]at hc;obtain⟨⟨⟨⟨⟨⟨⟨⟨c1,c2⟩,c3⟩,c4⟩,c5⟩,c6⟩,c7⟩,c8⟩,c9⟩:=hc;have c1:=Nat.le_of_ble_eq_true c1;have c9:=Nat.le_of_ble_eq_true c9;obtain⟨ρ,hρ⟩:∃ ρ,f.rho tgt n0=ρ:=⟨_,rfl⟩;obtain⟨n1,hn1⟩:∃ n1,n0+(f.next1 - f.next0)=n1:=⟨_,rfl⟩
 have hmv:f.move tgt n0=⟨f.g,f.args.map (ren2 ρ),n0,f.pre.map (BlkL.ren ρ),renV ρ f.v,n1,f.post.map (BlkL.ren ρ),n0⟩:=by
  unfold Fact.move;rw[hρ,<- hn1];rfl
 rw[hmv]at c6 c7 c8 ⊢;simp only at c6 c7 c8
 have hpre:∀ b ∈ f.pre,b.i<f.next0/\b.l.all yla=true:=fun b hb=>by
  have:=List.all_eq_true.1 c4 b hb;simp only[Bool.and_eq_true]at this;exact⟨Nat.lt_of_lt_of_le (Nat.lt_succ_self _) (Nat.le_of_ble_eq_true this.1),this.2⟩
 have hpostc:∀ b ∈ f.post,b.i<f.next1/\b.l.all yla=true:=fun b hb=>by
  have:=List.all_eq_true.1 c5 b hb;simp only[Bool.and_eq_true]at this;exact⟨Nat.lt_of_lt_of_le (Nat.lt_succ_self _) (Nat.le_of_ble_eq_true this.1),this.2⟩
 have hinj:∀ b ∈ f.pre,∀ c ∈ f.pre,ρ b.i=ρ c.i->b=c:=by
  rw[List.map_map]at c6;intro b hb c hc he;exact ywt c6 b hb c hc (by show(b.ren ρ).i=(c.ren ρ).i;rw[b.yhy,c.yhy];exact he)
 have hp2:∀ b ∈ f.pre,ρ b.i<n0/\blkIs (Fact.mem ⟨f.g,f.args.map (ren2 ρ),n0,f.pre.map (BlkL.ren ρ),renV ρ f.v,n1,f.post.map (BlkL.ren ρ),n0⟩) (b.ren ρ)=true:=fun b hb=>by
  have:=List.all_eq_true.1 c7 (b.ren ρ) (List.mem_map.2 ⟨b,hb,rfl⟩);simp only[Bool.and_eq_true]at this;have h1:=Nat.lt_of_lt_of_le (Nat.lt_succ_self _) (Nat.le_of_ble_eq_true this.1);rw[b.yhy]at h1;exact⟨h1,this.2⟩
 have hfresh:∀ i,f.next0<=i->i<f.next1->ρ i=i - f.next0+n0:=fun i h1 h2=>by
  rw[<- hρ];unfold Fact.rho;rw[Bool.cond_eq_ite,if_pos (by simp only[Bool.and_eq_true];exact⟨Nat.ble_eq_true_of_le h1,Nat.ble_eq_true_of_le h2⟩)]
  rfl
 have hold:∀ i,¬ (f.next0<=i/\i<f.next1)->ρ i=n1\/ρ i<n0:=fun i hi=>by
  have h1:ρ i=yxp f.pre tgt n1 i:=by
   rw[<- hρ,<- hn1];unfold Fact.rho;rw[Bool.cond_eq_ite,if_neg]
   ·rfl
   ·simp only[Bool.and_eq_true];exact fun q=>hi ⟨Nat.le_of_ble_eq_true q.1,Nat.lt_of_lt_of_le (Nat.lt_succ_self _) (Nat.le_of_ble_eq_true q.2)⟩
  rcases ybip f.pre tgt n1 i with h | ⟨b,hb,rfl⟩
  ·exact .inl (h1.trans h)
  ·exact .inr (hp2 b hb).1
 have hle:n0<=n1:=by omega
 let f2:Fact:=⟨f.g,f.args.map (ren2 ρ),n0,f.pre.map (BlkL.ren ρ),renV ρ f.v,n1,f.post.map (BlkL.ren ρ),n0⟩
 have hget:∀ i x,f.mem.b.get i=some x -> ∃ b ∈ f.pre,b.i=i/\x=b.blk:=fun i x hx=>by
  rcases yil hx with h | h
  ·exact h
  ·cases h
 have hget2:∀ i x,f2.mem.b.get i=some x -> ∃ b ∈ f.pre,ρ b.i=i/\x=(b.ren ρ).blk:=fun i x hx=>by
  rcases yil hx with⟨b',hb',h1,h2⟩ | h
  ·obtain⟨b,hb,rfl⟩:=List.mem_map.1 hb';rw[b.yhy]at h1;exact⟨b,hb,h1,h2⟩
  ·cases h
 have hpost:∀ b ∈ f.post,f.next0<=b.i/\b.i<f.next1 /\ ∃ c,m'.b.get b.i=some (.cells c b.l.length b.e b.z) /\ ∀ j v,j<b.l.length->(c.get j=some v ↔ b.l[j]? = some v):=fun b hb=>by
  obtain⟨c,k1,_,k2⟩:=yip (e3 b hb).2;exact⟨Nat.le_trans c1 (e3 b hb).1,(hpostc b hb).1,c,k1,k2⟩
 have hget3:∀ i x,(blksT f2.mem.b f2.post).get i=some x->(∃ b ∈ f.post,ρ b.i=i/\x=(b.ren ρ).blk)\/f2.mem.b.get i=some x:=fun i x hx=>by
  rcases yil hx with⟨b',hb',h1,h2⟩ | h
  ·obtain⟨b,hb,rfl⟩:=List.mem_map.1 hb';rw[b.yhy]at h1;exact .inl ⟨b,hb,h1,h2⟩
  ·exact .inr h
 have hpr:∀ b ∈ f.post,n0<=ρ b.i/\ρ b.i<n1:=fun b hb=>by
  obtain⟨k1,k2,_⟩:=hpost b hb;rw[hfresh b.i k1 k2];omega
 have hwf1:Wf f.mem:=fun i x hx=>by
  obtain⟨b,hb,rfl,rfl⟩:=hget i x hx;exact(hpre b hb).1
 refine⟨f2.after,?_,rfl,Nat.le_refl _,fun b hb=>?_⟩
 ·intro hw;obtain⟨E,S⟩:=hs hwf1;refine⟨⟨hle,fun i x hx=>?_,fun i x hi hnf hx=>?_,fun i x hx=>?_⟩,fun φ2 M2 w args' hR hsub hv hfr=>?_⟩
  ·rcases hget3 i x hx with⟨b,hb,rfl,rfl⟩ | h
   ·exact .inr (hpr b hb)
   ·exact .inl ⟨x,h⟩
  ·rcases hget3 i x hx with⟨b,hb,rfl,rfl⟩ | h
   ·exact absurd (hpr b hb) hnf
   ·exact h
  ·show i<n1;rcases hget3 i x hx with⟨b,hb,rfl,rfl⟩ | h
   ·exact(hpr b hb).2
   ·exact Nat.lt_of_lt_of_le (hw i x h) hle
  ·have hfr:∀ i,n0<=i->i<n1->φ2 i=none:=hfr
   let φ:Phi:=fun b=>φ2 (ρ b)
   let M:AM:=fun i=>f.mem.b.get i
   have hφ:∀ b,φ b=φ2 (ρ b):=fun _=>rfl
   have hpm:∀ b ∈ f.pre,∃ c,M2 (ρ b.i)=some (.cells c b.l.length b.e b.z) /\ ∀ j v,j<b.l.length->(c.get j=some v ↔ (b.l.map (ren2 ρ))[j]? = some v):=fun b hb=>by
    obtain⟨c,k1,_,k2⟩:=yip (hp2 b hb).2;rw[b.yhy]at k1;have el:(b.ren ρ).l.length=b.l.length:=List.length_map ..;rw[el]at k1 k2;exact⟨c,hsub _ _ k1,k2⟩
   have hmapget:∀ {l:List Value} {j:Nat} {v:Value},l[j]? = some v->(l.map (ren2 ρ))[j]? = some (ren2 ρ v):=fun h=>by rw[List.getElem?_map,h];rfl
   have hRel:Rel φ M w:=by
    refine⟨fun i x hx=>?_,fun i j x y li lj hne hx hy hli hlj=>?_⟩
    ·obtain⟨b,hb,rfl,rfl⟩:=hget i x hx;obtain⟨c,k1,k2⟩:=hpm b hb;obtain⟨l,r1,r2,r3,cs,qe,qf,q0,r4,r5,r6⟩:=hR.blk _ _ k1;refine⟨l,r1,r2,r3,cs,qe,qf,q0,r4,r5,fun j v hj hg=>?_⟩;have hv0:=tOf_get hg;obtain⟨v',s1,s2⟩:=r6 j _ hj ((k2 j _ hj).2 (hmapget hv0));exact⟨v',s1,(vr2 hφ (List.all_eq_true.1 (hpre b hb).2 v (List.mem_of_getElem? hv0))).2 s2⟩
    ·obtain⟨b,hb,rfl,rfl⟩:=hget i x hx;obtain⟨c,hc,rfl,rfl⟩:=hget j y hy;obtain⟨cb,k1,_⟩:=hpm b hb;obtain⟨cc,k2,_⟩:=hpm c hc;exact hR.inj _ _ _ _ li lj (fun q=>hne (by rw[hinj b hb c hc q])) k1 k2 hli hlj
   have hSub:Sub f.mem M:=fun i x hx=>hx
   have hFr:Fresh φ f.mem.next m'.next:=fun i h1 h2=>by
    rw[e1]at h2;have h1:f.next0<=i:=h1;show φ2 (ρ i)=none;rw[hfresh i h1 h2];exact hfr _ (by omega) (by omega)
   refine(S φ M w args' hRel hSub ((vrl2 hφ c2).2 hv) hFr).mono ?_;rintro e w' ⟨v',rfl,φ',M',hgd,hvr⟩;have hout:∀ i,¬ (f.next0<=i/\i<f.next1)->φ' i=φ i:=fun i hi=>hgd.out i (by rw[e1];exact hi)
   have hframe:∀ i,¬ (f.next0<=i/\i<f.next1)->(f.mem.b.get i=none\/i<f.next0)->M' i=M i:=fun i hi hn =>
    hgd.frame i (by rw[e1];exact hi) (hn.imp id fun q=>by omega)
   let φ3:Phi:=fun j=>if n0<=j/\j<n1 then φ' (j - n0+f.next0)else φ2 j
   let M3:AM:=fun j=>if n0<=j/\j<n1 then f2.after.b.get j else M2 j
   have hφ3:∀ b,φ' b=φ3 (ρ b):=fun b=>by
    by_cases hb:f.next0<=b/\b<f.next1
    ·have hr:=hfresh b hb.1 hb.2;have:n0<=ρ b/\ρ b<n1:=by rw[hr];omega
     show φ' b=if n0<=ρ b/\ρ b<n1 then φ' (ρ b - n0+f.next0)else φ2 (ρ b)
     rw[if_pos this,hr];congr 1;omega
    ·have:¬ (n0<=ρ b/\ρ b<n1):=by rcases hold b hb with h | h<;>omega
     show φ' b=if n0<=ρ b/\ρ b<n1 then φ' (ρ b - n0+f.next0)else φ2 (ρ b)
     rw[if_neg this,hout b hb]
   have hle3:φ2.le φ3:=fun j l hj=>by
    have:¬ (n0<=j/\j<n1):=fun q=>by rw[hfr j q.1 q.2]at hj;cases hj
    show(if n0<=j/\j<n1 then φ' (j - n0+f.next0)else φ2 j)=some l
    rw[if_neg this];exact hj
   have hout3:∀ j,¬ (n0<=j/\j<n1)->φ3 j=φ2 j:=fun j hj=>if_neg hj;have hM3o:∀ j,¬ (n0<=j/\j<n1)->M3 j=M2 j:=fun j hj=>if_neg hj;have hM3f:∀ j,n0<=j/\j<n1->M3 j=f2.after.b.get j:=fun j hj=>if_pos hj
   have hnew:∀ j x,n0<=j/\j<n1->M3 j=some x -> ∃ b ∈ f.post,ρ b.i=j/\x=(b.ren ρ).blk:=fun j x hj hx=>by
    rw[hM3f j hj]at hx;rcases hget3 j x hx with h | h
    ·exact h
    ·obtain⟨b,hb,rfl,_⟩:=hget2 j x h;have:=(hp2 b hb).1;omega
   have hnewR:∀ b ∈ f.post,∃ l c,φ' b.i=some l/\M' b.i=some (.cells c b.l.length b.e b.z)/\BR φ3 l w' (b.ren ρ).blk /\ ¬ l.blk<w.heap.size:=fun b hb=>by
    obtain⟨k1,k2,c,k3,k4⟩:=hpost b hb;have hM:=hgd.sub _ _ k3;obtain⟨l,r1,r2,r3,cs,qe,qf,q0,r4,r5,r6⟩:=hgd.rel.blk _ _ hM;have el:(b.ren ρ).l.length=b.l.length:=List.length_map ..;refine⟨l,c,r1,hM,⟨r2,by rw[el];exact r3,cs,qe,qf,q0,r4,r5,fun j v hj hg=>?_⟩,fun hlt=>?_⟩
    ·rw[el]at hj;have hg:=tOf_get hg;have hg':(b.l.map (ren2 ρ))[j]? = some v:=hg;rw[List.getElem?_map]at hg';cases hq:b.l[j]? with
     | none=>rw[hq]at hg';cases hg'
     | some u =>
      rw[hq]at hg';cases hg'
      obtain⟨v',s1,s2⟩:=r6 j u hj ((k4 j u hj).2 hq);exact⟨v',s1,(vr2 hφ3 (List.all_eq_true.1 (hpostc b hb).2 u (List.mem_of_getElem? hq))).1 s2⟩
    ·obtain⟨i,x,l',a1,a2,a3⟩:=hgd.wg.img l.blk hlt ⟨_,_,l,hM,r1,rfl⟩;obtain⟨p,hp,rfl,rfl⟩:=hget i x a1;have hpi:=(hpre p hp).1;have hnf:¬ (f.next0<=p.i/\p.i<f.next1):=fun q=>by omega
     have hMp:=hframe p.i hnf (.inr hpi);exact hgd.rel.inj p.i b.i _ _ l' l (by omega) (hMp.trans a1) hM ((hout p.i hnf).trans a2) r1 a3
   have hoimg:∀ j x l,¬ (n0<=j/\j<n1)->M2 j=some x->φ2 j=some l->BR φ3 l w' x:=fun j x l hj hx hl=>by
    obtain⟨l0,q1,q2⟩:=hR.blk j x hx;rw[hl]at q1;cases q1
    by_cases him:Img φ M l.blk
    ·obtain⟨i,y,l',a1,a2,a3⟩:=him;obtain⟨p,hp,rfl,rfl⟩:=hget i y a1;obtain⟨c,k1,k2⟩:=hpm p hp
     have hji:j=ρ p.i:=by
      apply Classical.byContradiction;intro hne;exact hR.inj _ _ _ _ l l' hne hx k1 hl a2 a3.symm
     subst hji;rw[k1]at hx;cases hx
     have a2':φ2 (ρ p.i)=some l':=a2;rw[hl]at a2';cases a2'
     have hpi:=(hpre p hp).1;have hnf:¬ (f.next0<=p.i/\p.i<f.next1):=fun q=>by omega
     have hMp:=(hframe p.i hnf (.inr hpi)).trans a1;obtain⟨l2,r1,r2,r3,cs,qe,qf,q0,r4,r5,r6⟩:=hgd.rel.blk _ _ hMp;rw[hout p.i hnf,a2]at r1;cases r1
     refine⟨r2,r3,cs,qe,qf,q0,r4,r5,fun j v hj' hg=>?_⟩;have hg:=(k2 j v hj').1 hg;rw[List.getElem?_map]at hg;cases hq:p.l[j]? with
     | none=>rw[hq]at hg;cases hg
     | some u =>
      rw[hq]at hg;cases hg
      have hlen:p.l.length<1000000:=by
       obtain⟨_,_,hl6,_⟩:=yip (hp2 p hp).2;have el:(p.ren ρ).l.length=p.l.length:=List.length_map ..
       rwa [el]at hl6
      obtain⟨v',s1,s2⟩:=r6 j u hj' (by rw[ycvx (by omega)];exact hq)
      exact⟨v',s1,(vr2 hφ3 (List.all_eq_true.1 (hpre p hp).2 u (List.mem_of_getElem? hq))).1 s2⟩
    ·exact(q2.keep (hgd.wg.keep _ q2.lt him)).mono hle3
   refine⟨v',rfl,φ3,M3,⟨hle3,hout3,⟨fun j x hx=>?_,fun i j x y li lj hne hx hy hli hlj=>?_⟩,fun i x hx=>?_,fun i hi _=>hM3o i hi,⟨hgd.wg.os,hgd.wg.tape,hgd.wg.output,hgd.wg.size,fun k hk hn=>?_,fun k hk hq=>?_⟩⟩,vrV hφ3 c3 hvr⟩
   ·by_cases hj:n0<=j/\j<n1
    ·obtain⟨b,hb,rfl,rfl⟩:=hnew j x hj hx;obtain⟨l,c,r1,_,r3,_⟩:=hnewR b hb;exact⟨l,by rw[<- hφ3];exact r1,r3⟩
    ·rw[hM3o j hj]at hx;obtain⟨l,q1,_⟩:=hR.blk j x hx;exact⟨l,by rw[hout3 j hj];exact q1,hoimg j x l hj hx q1⟩
   ·by_cases hi:n0<=i/\i<n1
    ·obtain⟨b,hb,rfl,rfl⟩:=hnew i x hi hx;obtain⟨l,c,r1,r2,_,r4⟩:=hnewR b hb;rw[<- hφ3,r1]at hli;cases hli
     by_cases hj:n0<=j/\j<n1
     ·obtain⟨b',hb',rfl,rfl⟩:=hnew j y hj hy;obtain⟨l',c',s1,s2,_,_⟩:=hnewR b' hb';rw[<- hφ3,s1]at hlj;cases hlj
      exact hgd.rel.inj _ _ _ _ _ _ (fun q=>hne (by rw[q])) r2 s2 r1 s1
     ·rw[hM3o j hj]at hy;rw[hout3 j hj]at hlj;obtain⟨l',q1,q2⟩:=hR.blk j y hy;rw[hlj]at q1;cases q1
      exact fun q=>r4 (by rw[q];exact q2.lt)
    ·rw[hM3o i hi]at hx;rw[hout3 i hi]at hli
     by_cases hj:n0<=j/\j<n1
     ·obtain⟨b',hb',rfl,rfl⟩:=hnew j y hj hy;obtain⟨l',c',s1,s2,_,s4⟩:=hnewR b' hb';rw[<- hφ3,s1]at hlj;cases hlj
      obtain⟨l0,q1,q2⟩:=hR.blk i x hx;rw[hli]at q1;cases q1
      exact fun q=>s4 (by rw[<- q];exact q2.lt)
     ·rw[hM3o j hj]at hy;rw[hout3 j hj]at hlj;exact hR.inj i j x y li lj hne hx hy hli hlj
   ·show M3 i=some x
    by_cases hi:n0<=i/\i<n1
    ·rw[hM3f i hi];exact hx
    ·rw[hM3o i hi];rcases hget3 i x hx with⟨b,hb,rfl,rfl⟩ | h
     ·exact absurd (hpr b hb) hi
     ·exact hsub i x h
   ·refine hgd.wg.keep k hk fun⟨i,x,l,a1,a2,a3⟩=>hn ?_;obtain⟨b,hb,rfl,rfl⟩:=hget i x a1;obtain⟨c,k1,_⟩:=hpm b hb;exact⟨_,_,l,k1,a2,a3⟩
   ·obtain⟨i,x,l,a1,a2,rfl⟩:=hq
    by_cases hi:n0<=i/\i<n1
    ·obtain⟨b,hb,rfl,rfl⟩:=hnew i x hi a1;obtain⟨l',c,r1,_,_,r4⟩:=hnewR b hb;rw[<- hφ3,r1]at a2;cases a2
     exact absurd hk r4
    ·rw[hM3o i hi]at a1;rw[hout3 i hi]at a2;exact⟨i,x,l,a1,a2,rfl⟩
 ·obtain⟨b0,hb0,rfl⟩:=List.mem_map.1 hb;refine⟨?_,List.all_eq_true.1 c8 _ hb⟩;show n0<=(b0.ren ρ).i;rw[b0.yhy];exact(hpr b0 hb0).1
end Ev
end Go.Proofs.YtpngeppkgoaimaaGreatDoor

