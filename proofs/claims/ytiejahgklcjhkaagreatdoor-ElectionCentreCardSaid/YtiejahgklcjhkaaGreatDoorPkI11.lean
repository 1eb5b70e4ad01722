/- Joined. -/
import Derived.Test.YtiejahgklcjhkaaGreatDoorPkI7
import Derived.Test.YtiejahgklcjhkaaGreatDoorPkI8
set_option linter.unusedSimpArgs false
set_option linter.unusedVariables false
open List renaming getElem?_eq_getElem→zA,getElem?_set→zD,range→zG,getElem?_replicate→zH,foldl_append→zI,take_succ_eq_append_getElem→zJ,mem_zipIdx_iff_getElem?→zK,getElem?_zip_eq_some→zL,all_eq_true→zM,mem_of_getElem?→zN,countP_append→zO,take_length→zS,getElem_mem→zT,countP_cons→zU,length_nil→zV,range_succ→zW,replicate→zX,getD→zY,length→zAB
open Nat renaming le_refl→zB,lt_trichotomy→zQ,lt_or_ge→zZ
open Int renaming toNat_natCast→zC,le_trans→zAA
open Bool renaming and_eq_true→zF
namespace Go.Proofs.YtiejahgklcjhkaaGreatDoor
section
namespace Sh
open Go Ev
theorem ydjf {g:FuncId}{fn:Func}{sc:SC}{rs:List SR}(hg:Tryz.prog.funcs[g]?=some fn) (hcmp:fn.body.bind (cmp Tryz.prog fn.ntmps)=some sc) (hrs:cmpR Tryz.prog fn.results.toList=some rs)
 {mu:List FuncId}{args:List SV}{Q:SV->Prop}(h:vc ⟨Ct Tryz.prog,Cm Tryz.prog,ItC Tryz.prog,[],mu⟩ sc (retK rs Q) ⟨slots args 0,[]⟩):Ct Tryz.prog g args Q:=by
 obtain⟨c,h1,h2⟩:=bind_some hcmp;exact ycer mix yrj hg h1 h2 hrs h
theorem ydnx {g:FuncId}{fn:Func}{sc:SC}{rs:List SR}(hg:Tryz.prog.funcs[g]?=some fn) (hcmp:fn.body.bind (cmp Tryz.prog fn.ntmps)=some sc) (hrs:cmpR Tryz.prog fn.results.toList=some rs)
 {pr:List Nm}{mu:List FuncId}{o:Own}{args:List SV}{Q:SV->Own->Prop}(h:vc ⟨Ct Tryz.prog,Cm Tryz.prog,ItC Tryz.prog,pr,mu⟩ sc (retM rs pr Q) ⟨slots args 0,o⟩):Cm Tryz.prog g pr o args Q:=by
 obtain⟨c,h1,h2⟩:=bind_some hcmp;exact ybre mix yrj hg h1 h2 hrs h
def Fn(g:FuncId)(c:SC)(rs:List SR):Prop:=∀(args:List SV) (Q:SV->Prop),vc ⟨Ct Tryz.prog,Cm Tryz.prog,ItC Tryz.prog,[],[]⟩ c (retK rs Q) ⟨slots args 0,[]⟩->Ct Tryz.prog g args Q
def FnU(g:FuncId)(c:SC)(rs:List SR):Prop:=∀(mu:List FuncId) (args:List SV) (Q:SV->Prop),vc ⟨Ct Tryz.prog,Cm Tryz.prog,ItC Tryz.prog,[],mu⟩ c (retK rs Q) ⟨slots args 0,[]⟩->Ct Tryz.prog g args Q
def FnM(g:FuncId)(c:SC)(rs:List SR):Prop:=∀(pr:List Nm) (mu:List FuncId) (o:Own) (args:List SV) (Q:SV->Own->Prop),vc ⟨Ct Tryz.prog,Cm Tryz.prog,ItC Tryz.prog,pr,mu⟩ c (retM rs pr Q) ⟨slots args 0,o⟩->Cm Tryz.prog g pr o args Q
section
variable {g:FuncId}{fn:Func}{sc:SC}{rs:List SR}(hg:Tryz.prog.funcs[g]?=some fn) (hcmp:fn.body.bind (cmp Tryz.prog fn.ntmps)=some sc) (hrs:cmpR Tryz.prog fn.results.toList=some rs)
include hg hcmp hrs
theorem fn_0:Fn g sc rs:=fun _ _ h=>ydjf hg hcmp hrs h
theorem fn_u:FnU g sc rs:=fun _ _ _ h=>ydjf hg hcmp hrs h
theorem fn_m:FnM g sc rs:=fun _ _ _ _ _ h=>ydnx hg hcmp hrs h
end
def o3(x:SOp)(d a:Nat):SOper:=⟨x,some d,none,a⟩
def o0(x:SOp)(a:Nat):SOper:=⟨x,none,none,a⟩
abbrev LO:=List SOper
def mv'(x d a:Nat):SOper:=⟨.mv (.tmp x),some d,none,a⟩
def bn'(op:BinOp)(x y d a:Nat):SOper:=⟨.bin op (.tmp x) (.tmp y),some d,none,a⟩
def ld'(ag:Bool)(n x d a:Nat):SOper:=⟨.load ag n (.tmp x),some d,none,a⟩
def fa'(o n x d a:Nat):SOper:=⟨.faddr o n (.tmp x),some d,none,a⟩
def ix'(z x k d a:Nat):SOper:=⟨.idx z (.tmp x) (.tmp k),some d,none,a⟩
def ln'(x d a:Nat):SOper:=⟨.len (.tmp x),some d,none,a⟩
def xt'(x k d a:Nat):SOper:=⟨.extract (.tmp x) k,some d,none,a⟩
def cl'(g:FuncId)(xs:List Nat)(d a:Nat):SOper:=⟨.call (.func g) (xs.map .tmp),some d,none,a⟩
def ci'(n:Int):Operand:=.const (.int .i64 n)
attribute [go_sem] o3 o0 mv' bn' ld' fa' ix' ln' xt' cl' ci'
attribute [go_sem] ydpc ydcv ycfp ybqo ydrj ydaj ydht ycxy ycfo ydar ycfu ybej yxz ybna ybfu puts ydaq
attribute [go_sem] ydjy ydru ydjp ybbl ybnp ybui yyz ybgl ybnk ybpf ybso ybic ycbw ybhv yccr
attribute [go_sem] ypz Fam.at Prod.mk.injEq ycym ydey ydbo ydcf ydbu ydbj ybnt oldX oldV yjk ynl ybxv ydbq gb_x ydqn resX yhx slots ycbb
attribute [go_sem] ycel ybxf runO opO ybxv xOp SS.get SS.pget SS.gets SS.lit look lookO SS.put SS.own ydfi ydac ydam yccp yccw ycch ycgv
attribute [go_sem] ycbs ycfa yccq ycdb ybkn simple ynv yvg ybdg part idxX natX yqu ybnc xbin xun eqL splice fill OB.set ofV fits yczc ybkd
attribute [go_sem] allP SRec.no SRec.pure clash nmem List.isEmpty_nil List.isEmpty_cons List.drop List.take List.all List.any List.map zAB List.head? List.append
attribute [go_sem] List.nil_append List.append_nil List.cons_append List.all_cons List.all_nil List.drop_succ_cons List.drop_zero List.take_succ_cons List.take_zero List.drop_nil
attribute [go_sem] List.take_nil List.length_cons zV List.map_cons List.map_nil List.getElem?_cons_zero List.getElem?_cons_succ List.elem zC Nat.zero_add
attribute [go_sem] Nat.add_zero if_true if_false ite_true ite_false Option.isNone Option.isNone_none Option.map_some Option.map_none Bool.not_true Bool.not_false Bool.true_or
attribute [go_sem] Bool.or_true Bool.false_or Bool.or_false Bool.and_true Bool.true_and Bool.and_false Bool.false_and Bool.and_self Bool.or_self true_and and_true and_self
attribute [go_sem] true_implies false_implies implies_true forall_const Nat.lt_add_one Nat.one_pos Nat.zero_lt_one Nat.lt_irrefl zB decide_true decide_false Bool.false_eq_true
attribute [go_sem] Bool.true_eq_false forall_eq BEq.rfl beq_self_eq_true decide_eq_true_eq decide_eq_false_iff_not beq_iff_eq beq_eq_false_iff_ne bne_iff_ne bne_eq_false_iff_eq
attribute [go_sem] Bool.not_eq_true Bool.not_eq_false Bool.not_eq_true' Bool.not_eq_false' ydcw yczu ydag yces ycfg ybur ycgg ycbr ycdg
attribute [go_sem] ycfd ybsc ydbr ydip ycxw yccj ycef ycbc yceh ycdz ybqe ybwn yblw ybvp ybqd ybtd ybrq
attribute [go_sem] ybze ydkv ydmf ydij ycyk ydef ycec ydbv yczx ydbs ydet yczp ydpk ydrq ydpw ydjn ydko ydev ydof ydlw ydms
attribute [go_sem] ydgp ydgm ydjt ydon ydhb ycyi yczz ycay ydez ycza ydcs ydal ydeo
attribute [go_sem] yya ybhd idxF ydjw yuy ylp own1 ybju Tel telL yur ybhu ydbw ydab ycyo ycat ycdk ycbv ycbh ycgo ycbl
attribute [go_sem] ycdm ycdi ydpp ydrs ydqe ydos ydgz ydlz ydne ydkk ydme ydnb ydgk lv nmem rid yhg ydpm ydeb ybbc ydjo ydfn ybct
attribute [go_sem] yxd ybko ycjr ydjx ybjf yqs ydpf ydpz ydpn ydjc ydkz ydbk ydli ydkl ydkr ydiv ydik List.any_cons List.any_nil Option.isSome
attribute [go_sem] yddg or_false false_or or_true true_or false_and exists_const exists_false List.not_mem_nil and_false
attribute [go_sem ↓] gb_t gb_f ydqi ydqh
end Sh
end
section
namespace Sh
open Go Ev
def ycij:LO:=[o3 (.mv (ci' 0)) 4 0]
def ycrt:LO:=[mv' 0 6 0,ln' 6 7 1,o3 (.mv (ci' 0)) 8 0]
def yciz:LO:=[bn' .lss 8 7 9 0]
def ycrw:LO:=[mv' 8 10 0,mv' 10 5 1]
def ycrq:LO:=[mv' 1 11 0,mv' 0 12 0,mv' 5 13 0,ix' 1 12 13 14 6,ld' false 1 14 15 14,bn' .eql 11 15 16 31]
def ycis:LO:=[mv' 5 17 0,mv' 17 4 1]
def ycsf:LO:=[o3 (.bin .add (.tmp 8) (ci' 1)) 18 0,mv' 18 8 1]
def ychs:LO:=[o3 (.mv (.const (.int .i64 (-1)))) 4 0]
def c165:SC:=(.seq (.reg false ycij) (.seq (.seq (.reg false ycrt) (.block 0 (.loop (.seq (.reg false yciz) (.seq (.cond (.tmp 9) .skip (.exit 0)) (.seq (.block 1 (.seq (.reg false ycrw) (.seq (.reg false ycrq) (.cond (.tmp 16) (.seq (.reg false ycis) .ret) .skip)))) (.reg false ycsf))))))) (.seq (.reg false ychs) .ret)))
theorem yddu:Fn 165 c165 [.t 4]:=fn_0 Tryz.func165 (by kernel_rfl) (by kernel_rfl)
def ycml:LO:=[o3 (.mv (ci' 0)) 2 0]
def ycox:LO:=[mv' 0 5 0,ln' 5 6 1,o3 (.bin .lss (.tmp 6) (ci' 1)) 7 3]
def yctz:LO:=[o3 (.no) 8 0,o0 (.no) 1]
def ycqh:LO:=[mv' 0 9 0,o3 (.idx 1 (.tmp 9) (ci' 0)) 10 1,ld' false 1 10 11 3,mv' 11 3 7]
def ycrd:LO:=[o3 (.mv (ci' 1)) 4 0]
def ychp:LO:=[mv' 4 12 0,mv' 0 13 0,ln' 13 14 2,bn' .lss 12 14 15 7]
def ychm:LO:=[mv' 3 18 0,mv' 0 19 0,mv' 4 20 0,ix' 1 19 20 21 6,ld' false 1 21 22 14,o3 (.mm true (.tmp 18) (.tmp 22)) 23 31,mv' 23 3 63]
def ycky:LO:=[mv' 4 16 0,o3 (.bin .add (.tmp 16) (ci' 1)) 17 1,mv' 17 4 3]
def ycur:LO:=[mv' 3 24 0,mv' 24 2 1]
def c160:SC:=(.seq (.reg false ycml) (.seq (.seq (.reg false ycox) (.cond (.tmp 7) (.reg false yctz) .skip)) (.seq (.reg false ycqh) (.seq (.seq (.reg false ycrd) (.block 0 (.loop (.seq (.seq (.reg false ychp) (.cond (.tmp 15) .skip (.exit 0))) (.seq (.block 1 (.reg false ychm)) (.reg false ycky)))))) (.seq (.reg false ycur) .ret)))))
theorem yddx:Fn 160 c160 [.t 2]:=fn_0 Tryz.func160 (by kernel_rfl) (by kernel_rfl)
def ycwk:LO:=[o3 (.mv (.const (.bool false))) 4 0]
def ycxi:LO:=[mv' 0 5 0,mv' 1 6 0,cl' 165 [5,6] 7 3,o3 (.bin .geq (.tmp 7) (ci' 0)) 8 7,mv' 8 4 15]
def c274:SC:=(.seq (.reg false ycwk) (.seq (.reg false ycxi) .ret))
theorem yczh:Fn 274 c274 [.t 4]:=fn_0 Tryz.func274 (by kernel_rfl) (by kernel_rfl)
def ycjn:LO:=[o3 (.mv (ci' 0)) 4 0]
def ycho:LO:=[mv' 0 6 0,ln' 6 7 1,o3 (.mv (ci' 0)) 8 0]
def ycrx:LO:=[bn' .lss 8 7 9 0]
def ycnt:LO:=[mv' 8 10 0,mv' 10 5 1]
def ycsm:LO:=[mv' 1 11 0,mv' 0 12 0,mv' 5 13 0,ix' 1 12 13 14 6,ld' false 1 14 15 14,o3 (.call (.tmp 11) [(.tmp 15)]) 16 31]
def ycwf:LO:=[mv' 5 17 0,mv' 17 4 1]
def ycqy:LO:=[o3 (.bin .add (.tmp 8) (ci' 1)) 18 0,mv' 18 8 1]
def ycty:LO:=[o3 (.mv (.const (.int .i64 (-1)))) 4 0]
def c267:SC:=(.seq (.reg false ycjn) (.seq (.seq (.reg false ycho) (.block 0 (.loop (.seq (.reg false ycrx) (.seq (.cond (.tmp 9) .skip (.exit 0)) (.seq (.block 1 (.seq (.reg false ycnt) (.seq (.reg false ycsm) (.cond (.tmp 16) (.seq (.reg false ycwf) .ret) .skip)))) (.reg false ycqy))))))) (.seq (.reg false ycty) .ret)))
theorem yddv:Fn 267 c267 [.t 4]:=fn_0 Tryz.func267 (by kernel_rfl) (by kernel_rfl)
def ycru:LO:=[o3 (.mv (ci' 0)) 2 0]
def ycue:LO:=[mv' 0 4 0,o3 (.bin .lss (.tmp 4) (ci' 1)) 5 1,mv' 5 6 3,⟨.mv (.tmp 0),some 7,some (6,false),7⟩,⟨.bin .gtr (.tmp 7) (ci' 43),some 8,some (6,false),15⟩,o3 (.pick (.tmp 6) (.const (.bool true)) (.tmp 8)) 9 31,mv' 9 3 63]
def ycic:LO:=[o3 (.mv (.const (.int .i64 (-1)))) 2 0]
def ycsx:LO:=[mv' 0 11 0,o3 (.bin .leq (.tmp 11) (ci' 17)) 12 1,mv' 12 10 3]
def yclc:LO:=[o3 (.mv (ci' 0)) 2 0]
def ycmt:LO:=[mv' 0 14 0,o3 (.bin .leq (.tmp 14) (ci' 29)) 15 1,mv' 15 13 3]
def yctq:LO:=[o3 (.mv (ci' 1)) 2 0]
def ycli:LO:=[mv' 0 17 0,o3 (.bin .leq (.tmp 17) (ci' 42)) 18 1,mv' 18 16 3]
def ycwr:LO:=[o3 (.mv (ci' 2)) 2 0]
def ycuo:LO:=[o3 (.mv (ci' 3)) 2 0]
def c247:SC:=(.seq (.reg false ycru) (.seq (.block 0 (.seq (.reg false ycue) (.cond (.tmp 3) (.seq (.reg false ycic) .ret) (.seq (.reg false ycsx) (.cond (.tmp 10) (.seq (.reg false yclc) .ret) (.seq (.reg false ycmt) (.cond (.tmp 13) (.seq (.reg false yctq) .ret) (.seq (.reg false ycli) (.cond (.tmp 16) (.seq (.reg false ycwr) .ret) .skip))))))))) (.seq (.reg false ycuo) .ret)))
theorem ydau:Fn 247 c247 [.t 2]:=fn_0 Tryz.func247 (by kernel_rfl) (by kernel_rfl)
def ychh:LO:=[o3 (.mv (ci' 0)) 4 0]
def ycvl:LO:=[mv' 1 7 0,o3 (.bin .lss (.tmp 7) (ci' 0)) 8 1,mv' 8 9 3,⟨.mv (.tmp 1),some 10,some (9,false),7⟩,⟨.mv (.tmp 0),some 11,some (9,false),7⟩,⟨.len (.tmp 11),some 12,some (9,false),23⟩,⟨.bin .geq (.tmp 10) (.tmp 12),some 13,some (9,false),63⟩,o3 (.pick (.tmp 9) (.const (.bool true)) (.tmp 13)) 14 127]
def ycwt:LO:=[o3 (.mv (.const (.int .i64 (-1)))) 4 0]
def yctg:LO:=[o3 (.mv (ci' 1)) 5 0]
def yctu:LO:=[mv' 1 15 0,mv' 0 16 0,ln' 16 17 2,bn' .lss 15 17 18 7]
def yclj:LO:=[mv' 0 21 0,mv' 1 22 0,ix' 2 21 22 23 3,fa' 0 1 23 24 7,ld' false 1 24 25 15,cl' 247 [25] 26 31,mv' 26 6 63]
def ycrz:LO:=[mv' 6 27 0,o3 (.bin .lss (.tmp 27) (ci' 0)) 28 1]
def ycpe:LO:=[o3 (.mv (.const (.int .i64 (-1)))) 4 0]
def ycmy:LO:=[mv' 5 29 0,mv' 6 30 0,o3 (.bin .sub (.tmp 30) (ci' 1)) 31 2,bn' .add 29 31 32 7,mv' 32 5 15]
def ybud:LO:=[mv' 5 33 0,o3 (.bin .eql (.tmp 33) (ci' 0)) 34 1]
def ybwc:LO:=[mv' 1 35 0,o3 (.bin .add (.tmp 35) (ci' 1)) 36 1,mv' 36 4 3]
def ycie:LO:=[mv' 1 19 0,o3 (.bin .add (.tmp 19) (ci' 1)) 20 1,mv' 20 1 3]
def ybzf:LO:=[o3 (.mv (.const (.int .i64 (-1)))) 4 0]
def c231:SC:=(.seq (.reg false ychh) (.seq (.seq (.reg false ycvl) (.cond (.tmp 14) (.seq (.reg false ycwt) .ret) .skip)) (.seq (.seq (.reg false yctg) (.block 0 (.loop (.seq (.seq (.reg false yctu) (.cond (.tmp 18) .skip (.exit 0))) (.seq (.block 1 (.seq (.reg false yclj) (.seq (.seq (.reg false ycrz) (.cond (.tmp 28) (.seq (.reg false ycpe) .ret) .skip)) (.seq (.reg false ycmy) (.seq (.reg false ybud) (.cond (.tmp 34) (.seq (.reg false ybwc) .ret) .skip)))))) (.reg false ycie)))))) (.seq (.reg false ybzf) .ret))))
theorem ydfj:Fn 231 c231 [.t 4]:=fn_0 Tryz.func231 (by kernel_rfl) (by kernel_rfl)
def ychz:LO:=[o3 (.box 27 (.tmp 0)) 3 0,o3 (.mv (ci' 0)) 6 0]
def ycnp:LO:=[fa' 1 1 3 9 0,ld' false 1 9 10 1,mv' 1 11 0,ix' 1 10 11 12 7,ld' false 1 12 13 15,ln' 13 14 31,o3 (.mv (ci' 0)) 15 0]
def ycpp:LO:=[bn' .lss 15 14 16 0]
def ycuq:LO:=[mv' 15 17 0,ix' 2 13 15 18 0,ld' true 2 18 19 2,o3 (.alloc 95 1 [.i .i64 0,.i .i64 0]) 8 0,mv' 17 7 15,o0 (.store 2 (.tmp 8) (.tmp 19)) 31]
def ycln:LO:=[fa' 0 1 8 20 0,ld' false 1 20 21 1,mv' 2 22 0,bn' .eql 21 22 23 7]
def ycwi:LO:=[mv' 7 24 0,mv' 24 6 1]
def ycph:LO:=[o3 (.bin .add (.tmp 15) (ci' 1)) 25 0,mv' 25 15 1]
def ycqa:LO:=[o3 (.mv (.const (.int .i64 (-1)))) 6 0]
def c170:SC:=(.seq (.reg false ychz) (.seq (.seq (.reg false ycnp) (.block 0 (.loop (.seq (.reg false ycpp) (.seq (.cond (.tmp 16) .skip (.exit 0)) (.seq (.block 1 (.seq (.reg false ycuq) (.seq (.reg false ycln) (.cond (.tmp 23) (.seq (.reg false ycwi) .ret) .skip)))) (.reg false ycph))))))) (.seq (.reg false ycqa) .ret)))
theorem ydeq:Fn 170 c170 [.t 6]:=fn_0 Tryz.func170 (by kernel_rfl) (by kernel_rfl)
def yctb:LO:=[o3 (.box 27 (.tmp 0)) 1 0,o3 (.mv (.const (.int .u32 0))) 2 0]
def ycvf:LO:=[fa' 0 1 1 3 0,ld' false 1 3 4 1,ln' 4 5 3,o3 (.bin .shl (.const (.int .u32 1)) (.tmp 5)) 6 7,o3 (.bin .sub (.tmp 6) (.const (.int .u32 1))) 7 15,mv' 7 2 31]
def c109:SC:=(.seq (.reg false yctb) (.seq (.reg false ycvf) .ret))
theorem ydaw:Fn 109 c109 [.t 2]:=fn_0 Tryz.func109 (by kernel_rfl) (by kernel_rfl)
def ycoz:LO:=[o3 (.mv (ci' 0)) 2 0]
def ycon:LO:=[mv' 0 3 0]
def ycle:LO:=[o3 (.mv (ci' 1)) 2 0]
def ycpc:LO:=[o3 (.mv (ci' 0)) 2 0]
def c256:SC:=(.seq (.reg false ycoz) (.seq (.seq (.reg false ycon) (.cond (.tmp 3) (.seq (.reg false ycle) .ret) .skip)) (.seq (.reg false ycpc) .ret)))
theorem ydeg:Fn 256 c256 [.t 2]:=fn_0 Tryz.func256 (by kernel_rfl) (by kernel_rfl)
def ycme:LO:=[o3 (.mv (ci' 0)) 2 0]
def ycoo:LO:=[mv' 0 3 0,o3 (.mm false (.tmp 3) (ci' 1073741824)) 4 1,o3 (.mm true (.const (.int .i64 (-1073741824))) (.tmp 4)) 5 3,mv' 5 2 7]
def c258:SC:=(.seq (.reg false ycme) (.seq (.reg false ycoo) .ret))
theorem ydan:Fn 258 c258 [.t 2]:=fn_0 Tryz.func258 (by kernel_rfl) (by kernel_rfl)
def ycmq:LO:=[o3 (.mv (ci' 0)) 4 0]
def ycuk:LO:=[mv' 0 5 0,o3 (.bin .eql (.tmp 5) (ci' 18)) 6 1]
def ycxp:LO:=[mv' 1 7 0,o3 (.un .neg (.tmp 7)) 8 1,mv' 8 4 3]
def ycou:LO:=[mv' 1 9 0,o3 (.bin .eql (.tmp 9) (ci' 0)) 10 1,cl' 256 [10] 11 3,mv' 11 4 7]
def c237:SC:=(.seq (.reg false ycmq) (.seq (.seq (.reg false ycuk) (.cond (.tmp 6) (.seq (.reg false ycxp) .ret) .skip)) (.seq (.reg false ycou) .ret)))
theorem ydfm:Fn 237 c237 [.t 4]:=fn_0 Tryz.func237 (by kernel_rfl) (by kernel_rfl)
def ycnc:LO:=[o3 (.mv (ci' 0)) 6 0]
def ycwb:LO:=[mv' 0 7 0]
def ycjy:LO:=[o3 (.bin .eql (.tmp 7) (ci' 30)) 9 0,mv' 9 8 1]
def ycil:LO:=[mv' 1 10 0,mv' 2 11 0,bn' .mul 10 11 12 3,cl' 258 [12] 13 7,mv' 13 6 15]
def ycjv:LO:=[o3 (.bin .eql (.tmp 7) (ci' 31)) 15 0,mv' 15 14 1]
def ycns:LO:=[mv' 1 16 0,mv' 2 17 0,cl' 259 [16,17] 18 3,cl' 258 [18] 19 7,mv' 19 6 15]
def ycxd:LO:=[o3 (.bin .eql (.tmp 7) (ci' 32)) 21 0,mv' 21 20 1]
def ycwz:LO:=[mv' 2 22 0,o3 (.bin .eql (.tmp 22) (ci' 0)) 23 1]
def ycny:LO:=[o3 (.mv (ci' 0)) 6 0]
def ycmw:LO:=[mv' 1 24 0,mv' 2 25 0,mv' 1 26 0,mv' 2 27 0,cl' 259 [26,27] 28 12,bn' .mul 25 28 29 30,bn' .sub 24 29 30 63,cl' 258 [30] 31 127,mv' 31 6 255]
def ybty:LO:=[o3 (.bin .eql (.tmp 7) (ci' 33)) 33 0,mv' 33 32 1]
def ybyj:LO:=[mv' 1 34 0,mv' 2 35 0,bn' .add 34 35 36 3,cl' 258 [36] 37 7,mv' 37 6 15]
def ybtk:LO:=[o3 (.bin .eql (.tmp 7) (ci' 34)) 39 0,mv' 39 38 1]
def ybph:LO:=[mv' 1 40 0,mv' 2 41 0,bn' .sub 40 41 42 3,cl' 258 [42] 43 7,mv' 43 6 15]
def ybwj:LO:=[o3 (.bin .eql (.tmp 7) (ci' 41)) 45 0,mv' 45 44 1]
def ybsw:LO:=[mv' 1 46 0,o3 (.bin .neq (.tmp 46) (ci' 0)) 47 1,mv' 47 48 3,⟨.mv (.tmp 2),some 49,some (48,true),7⟩,⟨.bin .neq (.tmp 49) (ci' 0),some 50,some (48,true),15⟩,o3 (.pick (.tmp 48) (.tmp 50) (.const (.bool false))) 51 31,cl' 256 [51] 52 63,mv' 52 6 127]
def ybtp:LO:=[o3 (.bin .eql (.tmp 7) (ci' 42)) 54 0,mv' 54 53 1]
def ybvq:LO:=[mv' 1 55 0,o3 (.bin .neq (.tmp 55) (ci' 0)) 56 1,mv' 56 57 3,⟨.mv (.tmp 2),some 58,some (57,false),7⟩,⟨.bin .neq (.tmp 58) (ci' 0),some 59,some (57,false),15⟩,o3 (.pick (.tmp 57) (.const (.bool true)) (.tmp 59)) 60 31,cl' 256 [60] 61 63,mv' 61 6 127]
def ybyl:LO:=[mv' 0 62 0,mv' 1 63 0,mv' 2 64 0,cl' 260 [62,63,64] 65 7,cl' 256 [65] 66 15,mv' 66 6 31]
def c239:SC:=(.seq (.reg false ycnc) (.seq (.seq (.reg false ycwb) (.block 0 (.seq (.reg false ycjy) (.cond (.tmp 8) (.seq (.reg false ycil) .ret) (.seq (.reg false ycjv) (.cond (.tmp 14) (.seq (.reg false ycns) .ret) (.seq (.reg false ycxd) (.cond (.tmp 20) (.seq (.seq (.reg false ycwz) (.cond (.tmp 23) (.seq (.reg false ycny) .ret) .skip)) (.seq (.reg false ycmw) .ret)) (.seq (.reg false ybty) (.cond (.tmp 32) (.seq (.reg false ybyj) .ret) (.seq (.reg false ybtk) (.cond (.tmp 38) (.seq (.reg false ybph) .ret) (.seq (.reg false ybwj) (.cond (.tmp 44) (.seq (.reg false ybsw) .ret) (.seq (.reg false ybtp) (.cond (.tmp 53) (.seq (.reg false ybvq) .ret) .skip)))))))))))))))) (.seq (.reg false ybyl) .ret)))
theorem ycxv:Fn 239 c239 [.t 6]:=fn_0 Tryz.func239 (by kernel_rfl) (by kernel_rfl)
def yclo:LO:=[o3 (.mv (ci' 0)) 4 0]
def ycsi:LO:=[mv' 1 6 0,o3 (.bin .eql (.tmp 6) (ci' 0)) 7 1]
def yctr:LO:=[o3 (.mv (ci' 0)) 4 0]
def ycja:LO:=[mv' 0 8 0,mv' 1 9 0,bn' .quo 8 9 10 3,mv' 10 5 7]
def ycnv:LO:=[mv' 0 11 0,mv' 1 12 0,bn' .rem 11 12 13 3,o3 (.bin .neq (.tmp 13) (ci' 0)) 14 7,mv' 14 15 15,⟨.mv (.tmp 0),some 16,some (15,true),31⟩,⟨.bin .lss (.tmp 16) (ci' 0),some 17,some (15,true),63⟩,⟨.mv (.tmp 1),some 18,some (15,true),31⟩,⟨.bin .lss (.tmp 18) (ci' 0),some 19,some (15,true),159⟩,⟨.beq true (.tmp 17) (.tmp 19),some 20,some (15,true),511⟩,o3 (.pick (.tmp 15) (.tmp 20) (.const (.bool false))) 21 1023]
def ycxa:LO:=[mv' 5 22 0,o3 (.bin .sub (.tmp 22) (ci' 1)) 23 1,mv' 23 5 3]
def ycjh:LO:=[mv' 5 24 0,mv' 24 4 1]
def c259:SC:=(.seq (.reg false yclo) (.seq (.seq (.reg false ycsi) (.cond (.tmp 7) (.seq (.reg false yctr) .ret) .skip)) (.seq (.reg false ycja) (.seq (.seq (.reg false ycnv) (.cond (.tmp 21) (.reg false ycxa) .skip)) (.seq (.reg false ycjh) .ret)))))
theorem ycys:Fn 259 c259 [.t 4]:=fn_0 Tryz.func259 (by kernel_rfl) (by kernel_rfl)
def ycre:LO:=[o3 (.mv (.const (.bool false))) 6 0]
def ycuw:LO:=[mv' 0 7 0]
def ycio:LO:=[o3 (.bin .eql (.tmp 7) (ci' 35)) 9 0,mv' 9 8 1]
def ycpi:LO:=[mv' 1 10 0,mv' 2 11 0,bn' .eql 10 11 12 3,mv' 12 6 7]
def ycoc:LO:=[o3 (.bin .eql (.tmp 7) (ci' 36)) 14 0,mv' 14 13 1]
def yckn:LO:=[mv' 1 15 0,mv' 2 16 0,bn' .neq 15 16 17 3,mv' 17 6 7]
def ycsq:LO:=[o3 (.bin .eql (.tmp 7) (ci' 37)) 19 0,mv' 19 18 1]
def ycko:LO:=[mv' 1 20 0,mv' 2 21 0,bn' .lss 20 21 22 3,mv' 22 6 7]
def yckt:LO:=[o3 (.bin .eql (.tmp 7) (ci' 38)) 24 0,mv' 24 23 1]
def ycng:LO:=[mv' 1 25 0,mv' 2 26 0,bn' .leq 25 26 27 3,mv' 27 6 7]
def ybuq:LO:=[o3 (.bin .eql (.tmp 7) (ci' 39)) 29 0,mv' 29 28 1]
def ybuj:LO:=[mv' 1 30 0,mv' 2 31 0,bn' .gtr 30 31 32 3,mv' 32 6 7]
def ybrw:LO:=[mv' 1 33 0,mv' 2 34 0,bn' .geq 33 34 35 3,mv' 35 6 7]
def c260:SC:=(.seq (.reg false ycre) (.seq (.seq (.reg false ycuw) (.block 0 (.seq (.reg false ycio) (.cond (.tmp 8) (.seq (.reg false ycpi) .ret) (.seq (.reg false ycoc) (.cond (.tmp 13) (.seq (.reg false yckn) .ret) (.seq (.reg false ycsq) (.cond (.tmp 18) (.seq (.reg false ycko) .ret) (.seq (.reg false yckt) (.cond (.tmp 23) (.seq (.reg false ycng) .ret) (.seq (.reg false ybuq) (.cond (.tmp 28) (.seq (.reg false ybuj) .ret) .skip)))))))))))) (.seq (.reg false ybrw) .ret)))
theorem yczt:Fn 260 c260 [.t 6]:=fn_0 Tryz.func260 (by kernel_rfl) (by kernel_rfl)
def ycsk:LO:=[o3 (.mv (ci' 0)) 4 0]
def yciw:LO:=[mv' 0 15 0]
def ycsu:LO:=[o3 (.bin .eql (.tmp 15) (ci' 20)) 17 0,mv' 17 16 1]
def ycmd:LO:=[mv' 1 18 0,cl' 266 [18] 19 1,mv' 1 20 0,ln' 20 21 4,bn' .eql 19 21 22 15,cl' 256 [22] 23 31,mv' 23 4 63]
def ycpn:LO:=[o3 (.bin .eql (.tmp 15) (ci' 21)) 25 0,mv' 25 24 1]
def yctm:LO:=[mv' 1 26 0,cl' 266 [26] 27 1,o3 (.bin .gtr (.tmp 27) (ci' 0)) 28 3,cl' 256 [28] 29 7,mv' 29 4 15]
def yckb:LO:=[o3 (.bin .eql (.tmp 15) (ci' 22)) 31 0,mv' 31 30 1]
def ycxu:LO:=[mv' 1 32 0,cl' 266 [32] 33 1,mv' 33 4 3]
def ychv:LO:=[o3 (.bin .eql (.tmp 15) (ci' 23)) 35 0,mv' 35 34 1]
def ycjd:LO:=[mv' 1 36 0,o3 (.call (.func 267) [(.tmp 36),(.func 268)]) 37 1,mv' 37 4 3]
def ybpr:LO:=[o3 (.bin .eql (.tmp 15) (ci' 24)) 39 0,mv' 39 38 1]
def ybuz:LO:=[o3 (.mv (ci' 1073741824)) 5 0]
def ybvs:LO:=[mv' 1 40 0,ln' 40 41 1,o3 (.mv (ci' 0)) 42 0]
def ybxd:LO:=[bn' .lss 42 41 43 0]
def ybqb:LO:=[ix' 1 40 42 44 0,ld' false 1 44 45 1,mv' 45 7 3]
def ybzs:LO:=[mv' 5 46 0,mv' 7 47 0,o3 (.mm false (.tmp 46) (.tmp 47)) 48 3,mv' 48 5 7]
def ybpi:LO:=[o3 (.bin .add (.tmp 42) (ci' 1)) 49 0,mv' 49 42 1]
def ybsm:LO:=[mv' 5 50 0,mv' 50 4 1]
def ybzm:LO:=[o3 (.bin .eql (.tmp 15) (ci' 25)) 52 0,mv' 52 51 1]
def ybpq:LO:=[mv' 1 54 0,cl' 269 [54] 55 1,mv' 55 53 3,xt' 53 0 56 7,xt' 53 1 57 7,mv' 56 8 15,mv' 57 9 63]
def ybxh:LO:=[mv' 8 58 0,mv' 58 4 1]
def ybwx:LO:=[o3 (.bin .eql (.tmp 15) (ci' 26)) 60 0,mv' 60 59 1]
def ybzw:LO:=[o3 (.mv (ci' 0)) 10 0]
def ybvy:LO:=[mv' 1 61 0,ln' 61 62 1,o3 (.mv (ci' 0)) 63 0]
def ybve:LO:=[bn' .lss 63 62 64 0]
def ybul:LO:=[ix' 1 61 63 65 0,ld' false 1 65 66 1,mv' 66 12 3]
def ybry:LO:=[mv' 10 67 0,mv' 12 68 0,bn' .add 67 68 69 3,mv' 69 10 7]
def ybrr:LO:=[o3 (.bin .add (.tmp 63) (ci' 1)) 70 0,mv' 70 63 1]
def ybxw:LO:=[mv' 10 71 0,cl' 258 [71] 72 1,mv' 72 4 3]
def ycaa:LO:=[o3 (.bin .eql (.tmp 15) (ci' 27)) 74 0,mv' 74 73 1]
def ybrx:LO:=[mv' 1 75 0,cl' 270 [75] 76 1,mv' 76 4 3]
def ybqf:LO:=[o3 (.bin .eql (.tmp 15) (ci' 28)) 78 0,mv' 78 77 1]
def ybxu:LO:=[mv' 1 80 0,cl' 269 [80] 81 1,mv' 81 79 3,xt' 79 0 82 7,xt' 79 1 83 7,mv' 82 13 15,mv' 83 14 63]
def ybyp:LO:=[mv' 14 84 0,mv' 84 4 1]
def ybyi:LO:=[mv' 1 85 0,ln' 85 86 1,o3 (.bin .eql (.tmp 86) (ci' 0)) 87 3]
def ybsg:LO:=[o3 (.mv (ci' 0)) 4 0]
def ybtq:LO:=[mv' 1 88 0,o3 (.idx 1 (.tmp 88) (ci' 0)) 89 1,ld' false 1 89 90 3,mv' 90 4 7]
def c257:SC:=(.seq (.reg false ycsk) (.seq (.seq (.reg false yciw) (.block 0 (.seq (.reg false ycsu) (.cond (.tmp 16) (.seq (.reg false ycmd) .ret) (.seq (.reg false ycpn) (.cond (.tmp 24) (.seq (.reg false yctm) .ret) (.seq (.reg false yckb) (.cond (.tmp 30) (.seq (.reg false ycxu) .ret) (.seq (.reg false ychv) (.cond (.tmp 34) (.seq (.reg false ycjd) .ret) (.seq (.reg false ybpr) (.cond (.tmp 38) (.seq (.reg false ybuz) (.seq (.seq (.reg false ybvs) (.block 1 (.loop (.seq (.reg false ybxd) (.seq (.cond (.tmp 43) .skip (.exit 1)) (.seq (.block 2 (.seq (.reg false ybqb) (.reg false ybzs))) (.reg false ybpi))))))) (.seq (.reg false ybsm) .ret))) (.seq (.reg false ybzm) (.cond (.tmp 51) (.seq (.reg false ybpq) (.seq (.reg false ybxh) .ret)) (.seq (.reg false ybwx) (.cond (.tmp 59) (.seq (.reg false ybzw) (.seq (.seq (.reg false ybvy) (.block 3 (.loop (.seq (.reg false ybve) (.seq (.cond (.tmp 64) .skip (.exit 3)) (.seq (.block 4 (.seq (.reg false ybul) (.reg false ybry))) (.reg false ybrr))))))) (.seq (.reg false ybxw) .ret))) (.seq (.reg false ycaa) (.cond (.tmp 73) (.seq (.reg false ybrx) .ret) (.seq (.reg false ybqf) (.cond (.tmp 77) (.seq (.reg false ybxu) (.seq (.reg false ybyp) .ret)) .skip)))))))))))))))))))) (.seq (.seq (.reg false ybyi) (.cond (.tmp 87) (.seq (.reg false ybsg) .ret) .skip)) (.seq (.reg false ybtq) .ret))))
theorem ydas:Fn 257 c257 [.t 4]:=fn_0 Tryz.func257 (by kernel_rfl) (by kernel_rfl)
def ycst:LO:=[o3 (.mv (.const (.bool false))) 2 0]
def ycow:LO:=[mv' 0 3 0,o3 (.bin .neq (.tmp 3) (ci' 0)) 4 1,mv' 4 2 3]
def c268:SC:=(.seq (.reg false ycst) (.seq (.reg false ycow) .ret))
theorem ycyy:Fn 268 c268 [.t 2]:=fn_0 Tryz.func268 (by kernel_rfl) (by kernel_rfl)
def ycmh:LO:=[o3 (.mv (ci' 0)) 2 0]
def ycxf:LO:=[o3 (.mv (ci' 0)) 3 0]
def ycxb:LO:=[mv' 0 6 0,ln' 6 7 1,o3 (.mv (ci' 0)) 8 0]
def ycuj:LO:=[bn' .lss 8 7 9 0]
def ycpv:LO:=[ix' 1 6 8 10 0,ld' false 1 10 11 1,mv' 11 5 3]
def ycvv:LO:=[mv' 5 12 0,o3 (.bin .neq (.tmp 12) (ci' 0)) 13 1]
def ycqn:LO:=[mv' 3 14 0,o3 (.bin .add (.tmp 14) (ci' 1)) 15 1,mv' 15 3 3]
def ycvo:LO:=[o3 (.bin .add (.tmp 8) (ci' 1)) 16 0,mv' 16 8 1]
def yclp:LO:=[mv' 3 17 0,mv' 17 2 1]
def c266:SC:=(.seq (.reg false ycmh) (.seq (.reg false ycxf) (.seq (.seq (.reg false ycxb) (.block 0 (.loop (.seq (.reg false ycuj) (.seq (.cond (.tmp 9) .skip (.exit 0)) (.seq (.block 1 (.seq (.reg false ycpv) (.seq (.reg false ycvv) (.cond (.tmp 13) (.reg false ycqn) .skip)))) (.reg false ycvo))))))) (.seq (.reg false yclp) .ret))))
theorem ydbg:Fn 266 c266 [.t 2]:=fn_0 Tryz.func266 (by kernel_rfl) (by kernel_rfl)
def ycna:LO:=[o3 (.mv (ci' 0)) 2 0,o3 (.mv (ci' 0)) 3 1]
def ycni:LO:=[o3 (.mv (.const (.int .i64 (-1073741824)))) 2 0,o3 (.mv (.const (.int .i64 (-1073741824)))) 3 1]
def yctl:LO:=[mv' 0 6 0,ln' 6 7 1,o3 (.mv (ci' 0)) 8 0]
def ycqj:LO:=[bn' .lss 8 7 9 0]
def ycwm:LO:=[ix' 1 6 8 10 0,ld' false 1 10 11 1,mv' 11 5 3]
def ychl:LO:=[mv' 5 12 0,mv' 2 13 0,bn' .gtr 12 13 14 3]
def ycrj:LO:=[mv' 5 15 0,mv' 2 16 0,mv' 15 2 3,mv' 16 3 7]
def ycqb:LO:=[mv' 3 17 0,mv' 5 18 0,o3 (.mm true (.tmp 17) (.tmp 18)) 19 3,mv' 19 3 7]
def ycmr:LO:=[o3 (.bin .add (.tmp 8) (ci' 1)) 20 0,mv' 20 8 1]
def ycvn:LO:=[mv' 2 21 0,mv' 3 22 0,mv' 21 2 1,mv' 22 3 7]
def c269:SC:=(.seq (.reg false ycna) (.seq (.reg false ycni) (.seq (.seq (.reg false yctl) (.block 0 (.loop (.seq (.reg false ycqj) (.seq (.cond (.tmp 9) .skip (.exit 0)) (.seq (.block 1 (.seq (.reg false ycwm) (.seq (.reg false ychl) (.cond (.tmp 14) (.reg false ycrj) (.reg false ycqb))))) (.reg false ycmr))))))) (.seq (.reg false ycvn) .ret))))
theorem ydde:Fn 269 c269 [.t 2,.t 3]:=fn_0 Tryz.func269 (by kernel_rfl) (by kernel_rfl)
def ycqm:LO:=[o3 (.mv (ci' 0)) 2 0]
def ycry:LO:=[o3 (.mv (ci' 0)) 3 0]
def ycuh:LO:=[mv' 0 4 0,mv' 3 5 0,cl' 274 [4,5] 6 3]
def ycjf:LO:=[mv' 3 7 0,o3 (.bin .add (.tmp 7) (ci' 1)) 8 1,mv' 8 3 3]
def ycnr:LO:=[mv' 3 9 0,mv' 9 2 1]
def c270:SC:=(.seq (.reg false ycqm) (.seq (.reg false ycry) (.seq (.block 0 (.loop (.seq (.seq (.reg false ycuh) (.cond (.tmp 6) .skip (.exit 0))) (.block 1 (.reg false ycjf))))) (.seq (.reg false ycnr) .ret))))
theorem ydav:Fn 270 c270 [.t 2]:=fn_0 Tryz.func270 (by kernel_rfl) (by kernel_rfl)
def ycwa:LO:=[o3 (.box 58 (.tmp 0)) 2 0,o3 (.box 27 (.tmp 1)) 3 0,o3 (.mv (.const (.pointer none))) 4 0]
def ycsw:LO:=[ld' true 3 2 10 0,ld' true 2 3 11 0,fa' 1 1 3 12 0,ld' false 1 12 13 4,ln' 13 14 12,o3 (.mk 22 1 24 [.a (.slice none 0 0)] (.tmp 14) (.tmp 14)) 15 28,o3 (.build [.a (.string (ByteArray.mk #[])),.a (.slice none 0 0),.a (.slice none 0 0),.a (.slice none 0 0),.a (.slice none 0 0),.i .i64 0,.a (.slice none 0 0)] [(0,3,(.tmp 10)),(3,2,(.tmp 11)),(6,1,(.tmp 15))]) 16 63,o3 (.box 170 (.tmp 16)) 17 127,mv' 17 5 255]
def ycwp:LO:=[fa' 1 1 3 18 0,ld' false 1 18 19 1,ln' 19 20 3,o3 (.mv (ci' 0)) 21 0]
def ycrr:LO:=[bn' .lss 21 20 22 0]
def ycip:LO:=[mv' 21 23 0,ix' 1 19 21 24 0,ld' false 1 24 25 2,mv' 23 6 7,mv' 25 7 15]
def ycrh:LO:=[mv' 5 26 0,mv' 5 27 0,o3 (.nilck (.tmp 27)) 28 2,fa' 5 1 28 29 6,ld' false 1 29 30 14,fa' 0 1 3 31 0,ld' false 1 31 32 32,mv' 6 33 0,ix' 1 32 33 34 224,ld' false 1 34 35 480,o3 (.mm true (.tmp 30) (.tmp 35)) 36 1022,o3 (.nilck (.tmp 26)) 37 2047,fa' 5 1 37 38 4095,o0 (.store 1 (.tmp 38) (.tmp 36)) 8191]
def ycir:LO:=[mv' 7 39 0,ln' 39 40 1,o3 (.mv (ci' 0)) 41 0]
def ycwo:LO:=[bn' .lss 41 40 42 0]
def ycuu:LO:=[ix' 2 39 41 43 0,ld' true 2 43 44 1,o3 (.alloc 95 1 [.i .i64 0,.i .i64 0]) 9 0,o0 (.store 2 (.tmp 9) (.tmp 44)) 7]
def ycnw:LO:=[mv' 5 45 0,o3 (.nilck (.tmp 45)) 46 1,fa' 6 1 46 47 3,ld' false 1 47 48 7,mv' 6 49 0,mv' 5 50 0,o3 (.nilck (.tmp 50)) 51 32,fa' 6 1 51 52 96,ld' false 1 52 53 224,mv' 6 54 0,ix' 1 53 54 55 992,ld' false 1 55 56 2016,ld' true 2 3 57 0,fa' 0 1 9 58 0,ld' false 1 58 59 8192,mv' 6 60 0,cl' 170 [57,59,60] 61 61440,o3 (.bslice 3 1 1 [.i .i64 0] [(0,1,(.tmp 61))]) 62 126976,o3 (.app 3 1 8 (.tmp 56) (.tmp 62)) 63 262112,ix' 1 48 49 64 524287,o0 (.store 1 (.tmp 64) (.tmp 63)) 1048575]
def ybvw:LO:=[o3 (.bin .add (.tmp 41) (ci' 1)) 65 0,mv' 65 41 1]
def ybsr:LO:=[o3 (.bin .add (.tmp 21) (ci' 1)) 66 0,mv' 66 21 1]
def ybwf:LO:=[mv' 5 67 0,mv' 67 4 1]
def c143:SC:=(.seq (.reg false ycwa) (.seq (.reg true ycsw) (.seq (.seq (.reg false ycwp) (.block 0 (.loop (.seq (.reg false ycrr) (.seq (.cond (.tmp 22) .skip (.exit 0)) (.seq (.block 1 (.seq (.reg false ycip) (.seq (.reg true ycrh) (.seq (.reg false ycir) (.block 2 (.loop (.seq (.reg false ycwo) (.seq (.cond (.tmp 42) .skip (.exit 2)) (.seq (.block 3 (.seq (.reg false ycuu) (.reg true ycnw))) (.reg false ybvw)))))))))) (.reg false ybsr))))))) (.seq (.reg false ybwf) .ret))))
theorem ydbt:Fn 143 c143 [.t 4]:=fn_0 Tryz.func143 (by kernel_rfl) (by kernel_rfl)
def ycuz:LO:=[o3 (.mv (ci' 0)) 8 0]
def ycol:LO:=[mv' 1 10 0]
def ycid:LO:=[o3 (.bin .eql (.tmp 10) (ci' 6)) 12 0,mv' 12 11 1]
def ycop:LO:=[mv' 0 13 0,o3 (.nilck (.tmp 13)) 14 1,fa' 3 2 14 15 3,fa' 0 1 15 16 7,ld' false 1 16 17 15,ln' 17 18 31,mv' 18 8 63]
def ycrg:LO:=[o3 (.bin .eql (.tmp 10) (ci' 7)) 20 0,mv' 20 19 1]
def yckf:LO:=[mv' 0 21 0,o3 (.nilck (.tmp 21)) 22 1,fa' 5 1 22 23 3,ld' false 1 23 24 7,mv' 24 8 15]
def ycnd:LO:=[o3 (.bin .eql (.tmp 10) (ci' 8)) 26 0,mv' 26 25 1]
def ycmx:LO:=[mv' 0 27 0,o3 (.nilck (.tmp 27)) 28 1,fa' 3 2 28 29 3,fa' 0 1 29 30 7,ld' false 1 30 31 15,mv' 2 32 0,ix' 1 31 32 33 63,ld' false 1 33 34 127,mv' 34 8 255]
def ycux:LO:=[o3 (.bin .eql (.tmp 10) (ci' 9)) 36 0,mv' 36 35 1]
def ycxr:LO:=[mv' 0 37 0,o3 (.nilck (.tmp 37)) 38 1,fa' 3 2 38 39 3,fa' 1 1 39 40 7,ld' false 1 40 41 15,mv' 2 42 0,ix' 1 41 42 43 63,ld' false 1 43 44 127,ln' 44 45 255,mv' 45 8 511]
def ybpn:LO:=[o3 (.bin .eql (.tmp 10) (ci' 10)) 47 0,mv' 47 46 1]
def ybsz:LO:=[mv' 2 48 0,o3 (.bin .eql (.tmp 48) (ci' 0)) 49 1,cl' 256 [49] 50 3,mv' 50 8 7]
def ybxb:LO:=[o3 (.bin .eql (.tmp 10) (ci' 11)) 52 0,mv' 52 51 1]
def ybue:LO:=[mv' 3 53 0,mv' 53 8 1]
def ybqc:LO:=[mv' 0 54 0,o3 (.nilck (.tmp 54)) 55 1,fa' 3 2 55 56 3,fa' 1 1 56 57 7,ld' false 1 57 58 15,mv' 2 59 0,ix' 1 58 59 60 63,ld' false 1 60 61 127,mv' 3 62 0,ix' 2 61 62 63 511,ld' true 2 63 64 1023,o3 (.alloc 95 1 [.i .i64 0,.i .i64 0]) 9 0,o0 (.store 2 (.tmp 9) (.tmp 64)) 4095]
def ybux:LO:=[mv' 1 65 0]
def ybqy:LO:=[o3 (.bin .eql (.tmp 65) (ci' 13)) 67 0,mv' 67 66 1]
def ybrn:LO:=[mv' 0 68 0,o3 (.nilck (.tmp 68)) 69 1,fa' 3 2 69 70 3,fa' 0 1 70 71 7,ld' false 1 71 72 15,fa' 0 1 9 73 0,ld' false 1 73 74 32,ix' 1 72 74 75 127,ld' false 1 75 76 255,mv' 76 8 511]
def ybvb:LO:=[o3 (.bin .eql (.tmp 65) (ci' 14)) 78 0,mv' 78 77 1]
def ybwd:LO:=[mv' 0 79 0,o3 (.nilck (.tmp 79)) 80 1,fa' 3 2 80 81 3,fa' 1 1 81 82 7,ld' false 1 82 83 15,fa' 0 1 9 84 0,ld' false 1 84 85 32,ix' 1 83 85 86 127,ld' false 1 86 87 255,ln' 87 88 511,mv' 88 8 1023]
def ybxi:LO:=[o3 (.bin .eql (.tmp 65) (ci' 15)) 90 0,mv' 90 89 1]
def ybyd:LO:=[fa' 0 1 9 91 0,ld' false 1 91 92 1,o3 (.bin .eql (.tmp 92) (ci' 0)) 93 3,cl' 256 [93] 94 7,mv' 94 8 15]
def ybvc:LO:=[o3 (.bin .eql (.tmp 65) (ci' 16)) 96 0,mv' 96 95 1]
def ybsx:LO:=[fa' 1 1 9 97 0,ld' false 1 97 98 1,mv' 98 8 3]
def ybzt:LO:=[mv' 0 99 0,o3 (.nilck (.tmp 99)) 100 1,fa' 6 1 100 101 3,ld' false 1 101 102 7,mv' 2 103 0,ix' 1 102 103 104 31,ld' false 1 104 105 63,mv' 3 106 0,ix' 1 105 106 107 255,ld' false 1 107 108 511,mv' 108 8 1023]
def c255:SC:=(.seq (.reg false ycuz) (.seq (.seq (.reg false ycol) (.block 0 (.seq (.reg false ycid) (.cond (.tmp 11) (.seq (.reg false ycop) .ret) (.seq (.reg false ycrg) (.cond (.tmp 19) (.seq (.reg false yckf) .ret) (.seq (.reg false ycnd) (.cond (.tmp 25) (.seq (.reg false ycmx) .ret) (.seq (.reg false ycux) (.cond (.tmp 35) (.seq (.reg false ycxr) .ret) (.seq (.reg false ybpn) (.cond (.tmp 46) (.seq (.reg false ybsz) .ret) (.seq (.reg false ybxb) (.cond (.tmp 51) (.seq (.reg false ybue) .ret) .skip)))))))))))))) (.seq (.reg false ybqc) (.seq (.seq (.reg false ybux) (.block 1 (.seq (.reg false ybqy) (.cond (.tmp 66) (.seq (.reg true ybrn) .ret) (.seq (.reg false ybvb) (.cond (.tmp 77) (.seq (.reg true ybwd) .ret) (.seq (.reg false ybxi) (.cond (.tmp 89) (.seq (.reg false ybyd) .ret) (.seq (.reg false ybvc) (.cond (.tmp 95) (.seq (.reg false ybsx) .ret) .skip)))))))))) (.seq (.reg false ybzt) .ret)))))
theorem ydbp:Fn 255 c255 [.t 8]:=fn_0 Tryz.func255 (by kernel_rfl) (by kernel_rfl)
def ycwc:LO:=[o3 (.mv (ci' 0)) 8 0]
def yctn:LO:=[mv' 0 12 0,mv' 1 13 0,mv' 2 14 0,mv' 3 15 0,o3 (.build [.a (.pointer none),.a (.slice none 0 0),.i .i64 0,.a (.slice none 0 0)] [(0,1,(.tmp 12)),(1,1,(.tmp 13)),(2,1,(.tmp 14)),(3,1,(.tmp 15))]) 16 15,o3 (.alloc 228 1 [.a (.pointer none),.a (.slice none 0 0),.i .i64 0,.a (.slice none 0 0)]) 9 0,o0 (.store 4 (.tmp 9) (.tmp 16)) 63]
def ycqs:LO:=[o3 (.call (.func 220) [(.tmp 9),(ci' 0),(.const (.int .i64 (-1)))]) 18 0,mv' 18 17 1,xt' 17 0 19 3,xt' 17 1 20 3,mv' 19 10 7,mv' 20 11 31]
def ycwj:LO:=[mv' 10 21 0,mv' 21 8 1]
def c193:SC:=(.seq (.reg false ycwc) (.seq (.reg false yctn) (.seq (.reg false ycqs) (.seq (.reg false ycwj) .ret))))
theorem ydca:Fn 193 c193 [.t 8]:=fn_0 Tryz.func193 (by kernel_rfl) (by kernel_rfl)
def ycqx:LO:=[o3 (.mv (.const (.bool false))) 8 0]
def ycxg:LO:=[mv' 0 9 0,mv' 1 10 0,mv' 2 11 0,mv' 0 12 0,o3 (.nilck (.tmp 12)) 13 8,fa' 0 3 13 14 24,fa' 2 1 14 15 56,ld' false 1 15 16 120,mv' 3 17 0,ix' 3 16 17 18 504,fa' 1 1 18 19 1016,ld' false 1 19 20 2040,cl' 193 [9,10,11,20] 21 4095,o3 (.bin .neq (.tmp 21) (ci' 0)) 22 8191,mv' 22 8 16383]
def c172:SC:=(.seq (.reg false ycqx) (.seq (.reg false ycxg) .ret))
theorem ydcq:Fn 172 c172 [.t 8]:=fn_0 Tryz.func172 (by kernel_rfl) (by kernel_rfl)
def ywd:LO:=[o3 (.mv (ci' 0)) 6 0,o3 (.mv (ci' 0)) 7 1]
def ywl:LO:=[mv' 0 18 0,o3 (.nilck (.tmp 18)) 19 1,fa' 3 1 19 20 3,ld' false 1 20 21 7,mv' 1 22 0,ix' 2 21 22 23 31,ld' true 2 23 24 63,o3 (.alloc 240 1 [.i .i64 0,.i .i64 0]) 8 0,o0 (.store 2 (.tmp 8) (.tmp 24)) 255]
def ywm:LO:=[fa' 0 1 8 26 0,ld' false 1 26 27 1,o3 (.bin .leq (.tmp 27) (ci' 17)) 28 3,mv' 28 25 7]
def yxl:LO:=[mv' 0 29 0,ld' true 2 8 30 0,mv' 2 31 0,cl' 236 [29,30,31] 32 7,mv' 1 33 0,o3 (.bin .add (.tmp 33) (ci' 1)) 34 16,mv' 32 6 15,mv' 34 7 127]
def yws:LO:=[fa' 0 1 8 36 0,ld' false 1 36 37 1,o3 (.bin .leq (.tmp 37) (ci' 19)) 38 3,mv' 38 35 7]
def ywz:LO:=[mv' 0 40 0,mv' 1 41 0,o3 (.bin .add (.tmp 41) (ci' 1)) 42 2,mv' 2 43 0,cl' 220 [40,42,43] 44 15,mv' 44 39 31,xt' 39 0 45 63,xt' 39 1 46 63,mv' 45 6 127,mv' 46 7 511]
def yxh:LO:=[fa' 0 1 8 47 0,ld' false 1 47 48 1,mv' 6 49 0,cl' 237 [48,49] 50 7,mv' 7 51 0,mv' 50 6 15,mv' 51 7 63]
def ywq:LO:=[fa' 0 1 8 53 0,ld' false 1 53 54 1,o3 (.bin .leq (.tmp 54) (ci' 29)) 55 3,mv' 55 52 7]
def ywr:LO:=[mv' 0 56 0,fa' 0 1 8 57 0,ld' false 1 57 58 2,mv' 1 59 0,cl' 238 [56,58,59] 60 15,xt' 60 0 61 31,xt' 60 1 62 31,mv' 61 6 127,mv' 62 7 255]
def yxn:LO:=[fa' 0 1 8 64 0,ld' false 1 64 65 1,o3 (.bin .leq (.tmp 65) (ci' 42)) 66 3,mv' 66 63 7]
def ypm:LO:=[mv' 0 68 0,mv' 1 69 0,o3 (.bin .add (.tmp 69) (ci' 1)) 70 2,mv' 2 71 0,cl' 220 [68,70,71] 72 15,mv' 72 67 31,xt' 67 0 73 63,xt' 67 1 74 63,mv' 73 9 127,mv' 74 10 511]
def ypc:LO:=[mv' 0 76 0,mv' 10 77 0,mv' 2 78 0,cl' 220 [76,77,78] 79 7,mv' 79 75 15,xt' 75 0 80 31,xt' 75 1 81 31,mv' 80 11 63,mv' 81 12 255]
def ypq:LO:=[fa' 0 1 8 82 0,ld' false 1 82 83 1,mv' 9 84 0,mv' 11 85 0,cl' 239 [83,84,85] 86 15,mv' 12 87 0,mv' 86 6 31,mv' 87 7 127]
def yoo:LO:=[mv' 0 89 0,mv' 1 90 0,o3 (.bin .add (.tmp 90) (ci' 1)) 91 2,mv' 2 92 0,cl' 220 [89,91,92] 93 15,mv' 93 88 31,xt' 88 0 94 63,xt' 88 1 95 63,mv' 94 13 127,mv' 95 14 511]
def ypl:LO:=[mv' 0 97 0,mv' 14 98 0,mv' 2 99 0,cl' 220 [97,98,99] 100 7,mv' 100 96 15,xt' 96 0 101 31,xt' 96 1 102 31,mv' 101 15 63,mv' 102 16 255]
def yok:LO:=[mv' 0 104 0,mv' 16 105 0,mv' 2 106 0,cl' 220 [104,105,106] 107 7,mv' 107 103 15,xt' 103 0 108 31,xt' 103 1 109 31,mv' 108 17 63,mv' 109 7 255]
def yon:LO:=[mv' 13 110 0,o3 (.bin .neq (.tmp 110) (ci' 0)) 111 1]
def ypk:LO:=[mv' 15 112 0,mv' 7 113 0,mv' 112 6 1,mv' 113 7 7]
def yoq:LO:=[mv' 17 114 0,mv' 7 115 0,mv' 114 6 1,mv' 115 7 7]
def c220:SC:=(.seq (.reg false ywd) (.seq (.reg false ywl) (.seq (.block 0 (.seq (.reg false ywm) (.cond (.tmp 25) (.seq (.reg false yxl) .ret) (.seq (.reg false yws) (.cond (.tmp 35) (.seq (.reg false ywz) (.seq (.reg false yxh) .ret)) (.seq (.reg false ywq) (.cond (.tmp 52) (.seq (.reg false ywr) .ret) (.seq (.reg false yxn) (.cond (.tmp 63) (.seq (.reg false ypm) (.seq (.reg false ypc) (.seq (.reg false ypq) .ret))) .skip))))))))) (.seq (.reg false yoo) (.seq (.reg false ypl) (.seq (.reg false yok) (.seq (.seq (.reg false yon) (.cond (.tmp 111) (.seq (.reg false ypk) .ret) .skip)) (.seq (.reg false yoq) .ret))))))))
theorem yth:Fn 220 c220 [.t 6,.t 7]:=fn_0 Tryz.func220 (by kernel_rfl) (by kernel_rfl)
def ycrs:LO:=[o3 (.box 240 (.tmp 1)) 4 0,o3 (.mv (ci' 0)) 6 0]
def ycuy:LO:=[fa' 0 1 4 7 0,ld' false 1 7 8 1]
def ycma:LO:=[o3 (.bin .eql (.tmp 8) (ci' 1)) 10 0,mv' 10 9 1]
def ycsj:LO:=[fa' 1 1 4 11 0,ld' false 1 11 12 1,mv' 12 6 3]
def ycwh:LO:=[o3 (.bin .eql (.tmp 8) (ci' 2)) 14 0,mv' 14 13 1]
def yciu:LO:=[o3 (.mv (ci' 1)) 6 0]
def ycxq:LO:=[o3 (.bin .eql (.tmp 8) (ci' 3)) 16 0,mv' 16 15 1]
def yctt:LO:=[o3 (.mv (ci' 0)) 6 0]
def ycoh:LO:=[o3 (.bin .eql (.tmp 8) (ci' 4)) 18 0,mv' 18 17 1]
def ycun:LO:=[o3 (.mv (.const (.int .i64 (-1)))) 6 0]
def ybxz:LO:=[o3 (.bin .eql (.tmp 8) (ci' 5)) 20 0,mv' 20 19 1]
def ybtg:LO:=[mv' 0 21 0,o3 (.nilck (.tmp 21)) 22 1,fa' 1 1 22 23 3,ld' false 1 23 24 7,mv' 0 25 0,o3 (.nilck (.tmp 25)) 26 16,fa' 2 1 26 27 48,ld' false 1 27 28 112,ix' 1 24 28 29 255,ld' false 1 29 30 511,fa' 1 1 4 31 0,ld' false 1 31 32 1024,ix' 1 30 32 33 4095,ld' false 1 33 34 8191,mv' 34 6 16383]
def ybzz:LO:=[o3 (.bin .eql (.tmp 8) (ci' 12)) 36 0,mv' 36 35 1]
def ycal:LO:=[mv' 0 37 0,o3 (.nilck (.tmp 37)) 38 1,fa' 1 1 38 39 3,ld' false 1 39 40 7,mv' 0 41 0,o3 (.nilck (.tmp 41)) 42 16,fa' 0 1 42 43 48,ld' false 1 43 44 112,o3 (.nilck (.tmp 44)) 45 240,fa' 3 2 45 46 496,fa' 1 1 46 47 1008,ld' false 1 47 48 2032,mv' 0 49 0,o3 (.nilck (.tmp 49)) 50 4096,fa' 2 1 50 51 12288,ld' false 1 51 52 28672,ix' 1 48 52 53 65520,ld' false 1 53 54 131056,mv' 2 55 0,ix' 2 54 55 56 524272,fa' 0 1 56 57 1048560,ld' false 1 57 58 2097136,ix' 1 40 58 59 4194303,ld' false 1 59 60 8388607,fa' 1 1 4 61 0,ld' false 1 61 62 16777216,ix' 1 60 62 63 67108863,ld' false 1 63 64 134217727,mv' 64 6 268435455]
def ybqm:LO:=[mv' 0 65 0,o3 (.nilck (.tmp 65)) 66 1,fa' 0 1 66 67 3,ld' false 1 67 68 7,fa' 0 1 4 69 0,ld' false 1 69 70 16,mv' 0 71 0,o3 (.nilck (.tmp 71)) 72 64,fa' 2 1 72 73 192,ld' false 1 73 74 448,mv' 2 75 0,cl' 255 [68,70,74,75] 76 2047,mv' 76 6 4095]
def c236:SC:=(.seq (.reg false ycrs) (.seq (.seq (.reg false ycuy) (.block 0 (.seq (.reg false ycma) (.cond (.tmp 9) (.seq (.reg false ycsj) .ret) (.seq (.reg false ycwh) (.cond (.tmp 13) (.seq (.reg false yciu) .ret) (.seq (.reg false ycxq) (.cond (.tmp 15) (.seq (.reg false yctt) .ret) (.seq (.reg false ycoh) (.cond (.tmp 17) (.seq (.reg false ycun) .ret) (.seq (.reg false ybxz) (.cond (.tmp 19) (.seq (.reg true ybtg) .ret) (.seq (.reg false ybzz) (.cond (.tmp 35) (.seq (.reg true ycal) .ret) .skip)))))))))))))) (.seq (.reg true ybqm) .ret)))
theorem ydcd:Fn 236 c236 [.t 6]:=fn_0 Tryz.func236 (by kernel_rfl) (by kernel_rfl)
def ycit:LO:=[o3 (.mv (ci' 0)) 6 0,o3 (.mv (ci' 0)) 7 1]
def ycqf:LO:=[o3 (.alloc 256 24 [.i .i64 0]) 8 0]
def ychi:LO:=[mv' 0 11 0,o3 (.nilck (.tmp 11)) 12 1,fa' 0 1 12 13 3,ld' false 1 13 14 7,o3 (.nilck (.tmp 14)) 15 15,fa' 3 2 15 16 31,fa' 1 1 16 17 63,ld' false 1 17 18 127,mv' 0 19 0,o3 (.nilck (.tmp 19)) 20 256,fa' 2 1 20 21 768,ld' false 1 21 22 1792,ix' 1 18 22 23 4095,ld' false 1 23 24 8191,ln' 24 25 16383,mv' 25 9 32767]
def ycnm:LO:=[mv' 9 26 0,o3 (.mv (ci' 0)) 27 0]
def ychg:LO:=[bn' .lss 27 26 28 0]
def ycpr:LO:=[mv' 27 29 0,mv' 29 10 1]
def ycsv:LO:=[mv' 10 31 0,mv' 0 32 0,mv' 2 33 0,o3 (.bin .add (.tmp 33) (ci' 1)) 34 4,mv' 10 35 0,cl' 220 [32,34,35] 36 30,mv' 36 30 62,xt' 30 0 37 126,xt' 30 1 38 126,o3 (.idxA 24 1 (.tmp 8) (.tmp 31)) 39 255,o0 (.store 1 (.tmp 39) (.tmp 37)) 767,mv' 38 7 2047]
def ycku:LO:=[o3 (.bin .add (.tmp 27) (ci' 1)) 40 0,mv' 40 27 1]
def ycus:LO:=[mv' 9 41 0,o3 (.bin .eql (.tmp 41) (ci' 0)) 42 1]
def yckc:LO:=[mv' 0 43 0,o3 (.nilck (.tmp 43)) 44 1,fa' 3 1 44 45 3,ld' false 1 45 46 7,mv' 2 47 0,cl' 231 [46,47] 48 31,mv' 48 7 63]
def ybsh:LO:=[mv' 1 49 0,mv' 9 50 0,o3 (.cutA 24 1 (.tmp 8) none (some (.tmp 50))) 51 2,cl' 257 [49,51] 52 7,mv' 7 53 0,mv' 52 6 15,mv' 53 7 63]
def c238:SC:=(.seq (.reg false ycit) (.seq (.reg false ycqf) (.seq (.reg true ychi) (.seq (.seq (.reg false ycnm) (.block 0 (.loop (.seq (.reg false ychg) (.seq (.cond (.tmp 28) .skip (.exit 0)) (.seq (.block 1 (.seq (.reg false ycpr) (.reg false ycsv))) (.reg false ycku))))))) (.seq (.seq (.reg false ycus) (.cond (.tmp 42) (.reg false yckc) .skip)) (.seq (.reg false ybsh) .ret))))))
theorem ydep:Fn 238 c238 [.t 6,.t 7]:=fn_0 Tryz.func238 (by kernel_rfl) (by kernel_rfl)
end Sh
end
section
def adj(g:Gr)(u v:Nat):Prop:=∃ls,g.ports[u]?=some ls/\∃l∈ls,l.1=(v:Int)
def Walk(g:Gr)(a:Nat):Nat->Nat->Prop
 |0,v=>v=a
 |k+1,v=>∃u,Walk g a k u/\adj g u v
def yyk(g:Gr)(a v:Nat)(x:Int):Prop:=(x = -1/\∀k,¬Walk g a k v)\/∃k:Nat,x=k/\Walk g a k v/\∀j,j<k->¬Walk g a j v
def ysu(g:Gr)(a:Nat)(D:List Int):Prop:=D.length=g.ports.length/\∀v x,D[v]?=some x->yyk g a v x
theorem yyk.unique{g:Gr}{a v:Nat}{x y:Int}(h:yyk g a v x)(h':yyk g a v y):x=y:=by
 rcases h with⟨rfl,h1⟩|⟨k,rfl,h1,h2⟩<;>rcases h' with⟨rfl,h3⟩|⟨j,rfl,h3,h4⟩
 ·rfl
 ·exact absurd h3 (h1 j)
 ·exact absurd h1 (h3 k)
 ·rcases zQ k j with h|h|h
  ·exact absurd h1 (h4 k h)
  ·rw[h]
  ·exact absurd h3 (h2 j h)
theorem ysu.unique{g:Gr}{a:Nat}{D D':List Int}(h:ysu g a D)(h':ysu g a D'):D=D':=by
 apply List.ext_getElem (by rw[h.1,h'.1])
 intro i h1 h2;exact(h.2 i _ (zA h1)).unique (h'.2 i _ (zA h2))
theorem ybe.link{g:Gr}(h:ybe g){v:Nat}{ls:List (Int×Int)}(hv:g.ports[v]?=some ls){l:Int×Int}(hl:l∈ls):0<=l.1/\l.1<g.ports.length/\l.1≠v/\1<=l.2/\l.2<=15:=by
 obtain⟨hlt,e⟩:=List.getElem?_eq_some_iff.1 hv;have:=(h.2.2.2.2.2.1 ⟨v,hlt⟩).1 l (by simp only[Fin.getElem_fin,e];exact hl)
 unfold yii at this;simp only at this;omega
theorem ybe.adj_lt{g:Gr}(h:ybe g){u v:Nat}(ha:adj g u v):u<g.ports.length/\v<g.ports.length:=by
 obtain⟨ls,h1,l,hl,e⟩:=ha;have:=h.link h1 hl;exact⟨(List.getElem?_eq_some_iff.1 h1).1,by omega⟩
theorem ybe.adj_symm{g:Gr}(h:ybe g){u v:Nat}(ha:adj g u v):adj g v u:=by
 obtain⟨hu,hv⟩:=h.adj_lt ha;obtain⟨ls,h1,l,hl,e⟩:=ha;obtain⟨hlt,e1⟩:=List.getElem?_eq_some_iff.1 h1;have:=h.2.2.2.2.2.2 ⟨u,hlt⟩ l (by simp only[Fin.getElem_fin,e1];exact hl)
 rw[e,zC]at this;simp only[zY,zA hv,Option.getD_some]at this;exact⟨_,zA hv,_,this,rfl⟩
structure BfsInv(g:Gr)(a:Nat)(R:List Int)(Q:List Nat):Prop where
 len:R.length=g.ports.length
 src:R[a]?=some 0
 val:∀(v:Nat) (x:Int),R[v]?=some x->x = -1\/∃k:Nat,x=k/\Walk g a k v/\∀j,j<k->¬Walk g a j v
 qin:∀q∈Q,∃k:Nat,R[q]?=some (k:Int)
 sorted:Q.Pairwise (fun p q=>∀x y,R[p]?=some x->R[q]?=some y->x<=y/\y<=x+1)
 done:∀(v k:Nat),R[v]?=some (k:Int)->v∉Q->∀u,adj g v u->∃j:Nat,R[u]?=some (j:Int)
structure BfsIn(g:Gr)(a v d:Nat)(ls:List (Int×Int))(i:Nat)(R:List Int)(Q:List Nat):Prop where
 len:R.length=g.ports.length
 src:R[a]?=some 0
 val:∀(v:Nat) (x:Int),R[v]?=some x->x = -1\/∃k:Nat,x=k/\Walk g a k v/\∀j,j<k->¬Walk g a j v
 qin:∀q∈Q,∃k:Nat,R[q]?=some (k:Int)
 sorted:Q.Pairwise (fun p q=>∀x y,R[p]?=some x->R[q]?=some y->x<=y/\y<=x+1)
 rv:R[v]?=some (d:Int)
 low:∀q∈Q,∀y,R[q]?=some y->(d:Int)<=y/\y<=d+1
 done:∀(u k:Nat),R[u]?=some (k:Int)->u∉Q->u≠v->∀t,adj g u t->∃j:Nat,R[t]?=some (j:Int)
 part:∀l∈ls.take i,∃j:Nat,R[l.1.toNat]?=some (j:Int)
theorem BfsInv.start{g:Gr}{a:Nat}(ha:a<g.ports.length):BfsInv g a ((zX g.ports.length (-1)).set a 0) [a] where
 len:=by simp
 src:=by simp[ha]
 val := by
  intro v x h;rw[zD]at h;split at h
  ·rename_i e
   subst e;simp[ha]at h;subst h;exact .inr ⟨0,rfl,rfl,fun j hj=>absurd hj (by omega)⟩
  ·rw[zH]at h;split at h
   ·cases h;exact .inl rfl
   ·cases h
 qin:=by
  intro q hq;obtain rfl:q=a:=by simpa using hq
  exact⟨0,by simp[ha]⟩
 sorted:=by simp
 done:=by
  intro v k h hv u _;rw[zD]at h;split at h
  ·rename_i e
   exact absurd (by simp[e]) hv
  ·rw[zH]at h;split at h
   ·cases h
   ·cases h
theorem BfsInv.pop{g:Gr}{a:Nat}{R:List Int}{v:Nat}{Q:List Nat}(h:BfsInv g a R (v::Q)){d:Nat}(hd:R[v]?=some (d:Int))(ls:List (Int×Int)):BfsIn g a v d ls 0 R Q where
 len:=h.len
 src:=h.src
 val:=h.val
 qin:=fun q hq=>h.qin q (List.mem_cons_of_mem _ hq)
 sorted:=(List.pairwise_cons.1 h.sorted).2
 rv:=hd
 low:=fun q hq y hy=>(List.pairwise_cons.1 h.sorted).1 q hq _ y hd hy
 done:=fun u k hu hq hv t ht=>h.done u k hu (by simp[hq,hv]) t ht
 part:=by simp
theorem BfsIn.finish{g:Gr}{a v d:Nat}{ls:List (Int×Int)}{R:List Int}{Q:List Nat}(h:BfsIn g a v d ls ls.length R Q)(hls:g.ports[v]?=some ls):BfsInv g a R Q where
 len:=h.len
 src:=h.src
 val:=h.val
 qin:=h.qin
 sorted:=h.sorted
 done:=by
  intro u k hu hq t ht
  by_cases e:u=v
  ·subst e;obtain⟨ls',h1,l,hl,e2⟩:=ht;rw[hls]at h1;cases h1
   have:=h.part l (by rw[zS];exact hl)
   rwa [e2,zC]at this
  ·exact h.done u k hu hq e t ht
theorem BfsIn.skip{g:Gr}{a v d:Nat}{ls:List (Int×Int)}{i:Nat}{R:List Int}{Q:List Nat}(h:BfsIn g a v d ls i R Q)(hi:i<ls.length){j:Nat}(hj:R[ls[i].1.toNat]?=some (j:Int)):BfsIn g a v d ls (i+1) R Q :=
 ⟨h.len,h.src,h.val,h.qin,h.sorted,h.rv,h.low,h.done,by
   intro l hl;rw[take_snoc ls i hi]at hl;rcases List.mem_append.1 hl with hl|hl
   ·exact h.part l hl
   ·obtain rfl:l=ls[i]:=by simpa using hl
    exact⟨j,hj⟩⟩
theorem BfsIn.found{g:Gr}{a v d:Nat}{ls:List (Int×Int)}{i:Nat}{R:List Int}{Q:List Nat}(h:BfsIn g a v d ls i R Q) :
 ∀k,k<=d->∀t,Walk g a k t->∃j:Nat,R[t]?=some (j:Int):=by
 intro k
 induction k with
 |zero=>intro _ t ht;obtain rfl:t=a:=ht;exact⟨0,h.src⟩
 | succ k ih =>
   intro hk t ⟨p,hp,hpt⟩;obtain⟨j,hj⟩:=ih (by omega) p hp
   have hjk:j<=k:=by
    rcases h.val p _ hj with e|⟨k',e,_,hmin⟩
    ·omega
    ·have:j=k':=by omega
     subst this;rcases zZ k j with hlt|hge
     ·exact absurd hp (hmin k hlt)
     ·exact hge
   refine h.done p j hj ?_ ?_ t hpt
   ·intro hq;have:=(h.low p hq _ hj).1;omega
   ·rintro rfl;have e1:=h.rv;rw[hj]at e1;have e2:=Option.some.inj e1;omega
theorem BfsIn.discover{g:Gr}{a v d:Nat}{ls:List (Int×Int)}{i:Nat}{R:List Int}{Q:List Nat}(h:BfsIn g a v d ls i R Q)(hls:g.ports[v]?=some ls)(hi:i<ls.length){u:Nat}(hu:ls[i].1=(u:Int))(hR:R[u]?=some (-1)) :
 BfsIn g a v d ls (i+1) (R.set u ((d:Int)+1)) (Q++[u]):=by
 have hul:u<R.length:=(List.getElem?_eq_some_iff.1 hR).1
 have hne:∀t (k:Nat),R[t]?=some (k:Int)->t≠u:=by
  rintro t k ht rfl;rw[hR]at ht;have:=Option.some.inj ht;omega
 have hset:∀t,t≠u->(R.set u ((d:Int)+1))[t]?=R[t]?:=fun t ht=>by rw[zD,if_neg (by omega)]
 have hsu:(R.set u ((d:Int)+1))[u]?=some ((d:Int)+1):=by rw[zD,if_pos rfl,if_pos hul]
 have keep:∀t:Nat,(∃j:Nat,R[t]?=some (j:Int))->∃j:Nat,(R.set u ((d:Int)+1))[t]?=some (j:Int):=by
  rintro t ⟨j,hj⟩;exact⟨j,by rw[hset t (hne t j hj)];exact hj⟩
 have hadj:adj g v u:=⟨ls,hls,ls[i],zT hi,hu⟩
 have hnq:u∉Q:=fun hq=>by
  obtain⟨k,hk⟩:=h.qin u hq;exact hne u k hk rfl
 refine⟨by simp[h.len],?_,?_,?_,?_,?_,?_,?_,?_⟩
 ·rw[hset a (hne a 0 h.src)];exact h.src
 ·intro t x hx
  by_cases e:t=u
  ·subst e;rw[hsu]at hx;cases hx
   refine .inr ⟨d+1,by omega,?_,?_⟩
   ·rcases h.val v _ h.rv with e|⟨k,e,hk,_⟩
    ·omega
    ·have:d=k:=by omega
     subst this;exact⟨v,hk,hadj⟩
   ·intro j hj hw;obtain⟨k,hk⟩:=h.found j (by omega) t hw
    exact hne t k hk rfl
  ·rw[hset t e]at hx;exact h.val t x hx
 ·intro q hq;rcases List.mem_append.1 hq with hq|hq
  ·exact keep q (h.qin q hq)
  ·obtain rfl:q=u:=by simpa using hq
   exact⟨d+1,by rw[hsu];rfl⟩
 ·rw[List.pairwise_append];refine⟨?_,by simp,?_⟩
  ·refine(List.Pairwise.and_mem.1 h.sorted).imp ?_;rintro p q ⟨hp,hq,hpq⟩ x y hx hy;rw[hset p (fun e=>hnq (e▸hp))]at hx;rw[hset q (fun e=>hnq (e▸hq))]at hy;exact hpq x y hx hy
  ·intro p hp q hq x y hx hy;obtain rfl:q=u:=by simpa using hq
   rw[hset p (fun e=>hnq (e▸hp))]at hx;rw[hsu]at hy;cases hy
   have:=h.low p hp x hx;omega
 ·rw[hset v (hne v d h.rv)];exact h.rv
 ·intro q hq y hy;rcases List.mem_append.1 hq with hq|hq
  ·rw[hset q (fun e=>hnq (e▸hq))]at hy;exact h.low q hq y hy
  ·obtain rfl:q=u:=by simpa using hq
   rw[hsu]at hy;cases hy
   omega
 ·intro t k ht hq hv s hs;have htu:t≠u:=fun e=>hq (by simp[e])
  rw[hset t htu]at ht;exact keep s (h.done t k ht (fun hh=>hq (List.mem_append_left _ hh)) hv s hs)
 ·intro l hl;rw[take_snoc ls i hi]at hl;rcases List.mem_append.1 hl with hl|hl
  ·exact keep _ (h.part l hl)
  ·obtain rfl:l=ls[i]:=by simpa using hl
   rw[hu,zC];exact⟨d+1,by rw[hsu];rfl⟩
theorem BfsInv.isDist{g:Gr}{a:Nat}{R:List Int}(h:BfsInv g a R []):ysu g a R:=by
 have found:∀k t,Walk g a k t->∃j:Nat,R[t]?=some (j:Int):=by
  intro k
  induction k with
  |zero=>intro t ht;obtain rfl:t=a:=ht;exact⟨0,h.src⟩
  | succ k ih =>
    intro t ⟨p,hp,hpt⟩;obtain⟨j,hj⟩:=ih p hp;exact h.done p j hj (by simp) t hpt
 refine⟨h.len,fun v x hx=>?_⟩;rcases h.val v x hx with rfl|h1
 ·refine .inl ⟨rfl,fun k hk=>?_⟩;obtain⟨j,hj⟩:=found k v hk;rw[hx]at hj;have:=Option.some.inj hj;omega
 ·exact .inr h1
def yio(R:List Int):Nat:=R.countP (fun x=>decide (x<0))
theorem ybge{R:List Int}{u:Nat}{x:Int}(hR:R[u]?=some (-1))(hx:0<=x):yio (R.set u x)+1=yio R:=by
 obtain⟨hlt,e⟩:=List.getElem?_eq_some_iff.1 hR;have h1:R=R.take u++R[u]::R.drop (u+1):=by rw[List.getElem_cons_drop,List.take_append_drop]
 have h2:R.set u x=R.take u++x::R.drop (u+1):=by rw[List.set_eq_take_append_cons_drop,if_pos hlt]
 have hx':decide (x<0)=false:=by simp;omega
 unfold yio;rw[h2]
 conv=>rhs;rw[h1]
 rw[zO,zO,zU,zU,e,hx'];simp;omega
end
section
def ykr(R:List Int)(x:Int)(ls:List (Int×Int)):Bool:=ls.any (fun l=>decide (R[l.1.toNat]?=some x))
def yri(g:Gr)(d:Int)(R:List Int)(v:Nat):List Int :=
 if decide (R.getD v 0<0)&&ykr R (d-1) (g.ports.getD v [])then R.set v d else R
def stepD(g:Gr)(R:List Int)(d:Nat):List Int:=(zG g.ports.length).foldl (yri g d) R
def start(g:Gr)(a:Nat):List Int:=(zX g.ports.length (-1)).set a 0
def ybu(g:Gr)(a:Nat):List Int:=(zG (g.ports.length-1)).foldl (fun R d=>stepD g R (d+1)) (start g a)
def Upto(g:Gr)(a d v:Nat)(x:Int):Prop:=(x = -1/\∀k,k<=d->¬Walk g a k v)\/∃k:Nat,k<=d/\x=k/\Walk g a k v/\∀j,j<k->¬Walk g a j v
theorem Upto.eq{g:Gr}{a d v:Nat}{x:Int}(h:Upto g a d v x){k:Nat}(hk:k<=d):x=k↔Walk g a k v/\∀j,j<k->¬Walk g a j v:=by
 rcases h with⟨rfl,h1⟩|⟨i,hi,rfl,h1,h2⟩
 ·exact⟨fun e=>by omega,fun e=>absurd e.1 (h1 k hk)⟩
 ·constructor
  ·intro e;obtain rfl:i=k:=by omega
   exact⟨h1,h2⟩
  ·rintro⟨h3,h4⟩;rcases zQ i k with h|h|h
   ·exact absurd h1 (h4 i h)
   ·omega
   ·exact absurd h3 (h2 k h)
theorem Upto.more{g:Gr}{a d v:Nat}{x:Int}(h:Upto g a d v x)(hx:0<=x):Upto g a (d+1) v x:=by
 rcases h with⟨rfl,h1⟩|⟨i,hi,rfl,h1,h2⟩
 ·omega
 ·exact .inr ⟨i,by omega,rfl,h1,h2⟩
structure LayerInv(g:Gr)(a d v:Nat)(R:List Int):Prop where
 len:R.length=g.ports.length
 new:∀(u:Nat) (x:Int),R[u]?=some x->u<v->Upto g a (d+1) u x
 old:∀(u:Nat) (x:Int),R[u]?=some x->v<=u->Upto g a d u x
theorem LayerInv.at_{g:Gr}{a d v:Nat}{R:List Int}(h:LayerInv g a d v R){u:Nat}(hu:u<g.ports.length):R[u]?=some (d:Int)↔Walk g a d u/\∀j,j<d->¬Walk g a j u:=by
 have hl:=h.len;have e:R[u]?=some R[u]:=zA (by omega)
 have hx:R[u]=(d:Int)↔Walk g a d u/\∀j,j<d->¬Walk g a j u:=by
  by_cases hv:u<v
  ·exact(h.new u _ e hv).eq (by omega)
  ·exact(h.old u _ e (by omega)).eq (by omega)
 rw[e]
 simpa using hx
theorem LayerInv.step{g:Gr}(hg:ybe g){a d v:Nat}{R:List Int}(h:LayerInv g a d v R)(hv:v<g.ports.length):LayerInv g a d (v+1) (yri g ((d:Int)+1) R v):=by
 have hlen:=h.len;have ev:R[v]?=some R[v]:=zA (by omega)
 have eg:R.getD v 0=R[v]:=by simp[zY,ev]
 have ep:g.ports.getD v []=g.ports[v]:=by simp[zY,zA hv]
 have hhas:ykr R ((d:Int)+1-1) g.ports[v]=true↔∃u,adj g u v/\Walk g a d u/\∀j,j<d->¬Walk g a j u:=by
  unfold ykr;rw[List.any_eq_true];constructor
  ·rintro⟨l,hl,h1⟩;have hlk:=hg.link (zA hv) hl;have h1:=of_decide_eq_true h1;rw[show(d:Int)+1-1=d by omega]at h1
   refine⟨l.1.toNat,hg.adj_symm ⟨_,zA hv,l,hl,by omega⟩,?_⟩
   exact(h.at_ (by omega)).1 h1
  ·rintro⟨u,hu,hw⟩;obtain⟨hu1,_⟩:=hg.adj_lt hu;obtain⟨ls,h1,l,hl,e⟩:=hg.adj_symm hu;rw[zA hv]at h1;cases h1
   refine⟨l,hl,decide_eq_true ?_⟩;rw[e,zC,show(d:Int)+1-1=d by omega]
   exact(h.at_ hu1).2 hw
 have hov:=h.old v _ ev (zB _);unfold yri;rw[eg,ep]
 by_cases c1:R[v]<0
 ·have hx:R[v] = -1/\∀k,k<=d->¬Walk g a k v:=by
   rcases hov with h1|⟨k,_,e,_⟩
   ·exact h1
   ·omega
  by_cases c2:ykr R ((d:Int)+1-1) g.ports[v]=true
  ·rw[if_pos (by rw[zF];exact⟨decide_eq_true c1,c2⟩)]
   obtain⟨p,hp,hw,_⟩:=hhas.1 c2;have hset:∀t,t≠v->(R.set v ((d:Int)+1))[t]?=R[t]?:=fun t ht=>by rw[zD,if_neg (by omega)]
   refine⟨by simp[hlen],fun u x hu huv=>?_,fun u x hu huv=>?_⟩
   ·by_cases e:u=v
    ·subst e;rw[zD,if_pos rfl,if_pos (by omega)]at hu
     cases hu
     exact .inr ⟨d+1,zB _,by omega,⟨p,hw,hp⟩,fun j hj=>hx.2 j (by omega)⟩
    ·rw[hset u e]at hu;exact h.new u x hu (by omega)
   ·rw[hset u (by omega)]at hu
    exact h.old u x hu (by omega)
  ·rw[if_neg (fun e=>c2 (zF _ _▸e).2)];refine⟨hlen,fun u x hu huv=>?_,fun u x hu huv=>h.old u x hu (by omega)⟩
   by_cases e:u=v
   ·subst e;rw[ev]at hu;cases hu
    refine .inl ⟨hx.1,fun k hk hw=>?_⟩;rcases zZ d k with hlt|hge
    ·obtain rfl:k=d+1:=by omega
     obtain⟨p,hp,hpv⟩:=hw;refine c2 (hhas.2 ⟨p,hpv,hp,fun j hj hw'=>hx.2 (j+1) (by omega) ⟨p,hw',hpv⟩⟩)
    ·exact hx.2 k hge hw
   ·exact h.new u x hu (by omega)
 ·rw[if_neg (by simp[c1])]
  refine⟨hlen,fun u x hu huv=>?_,fun u x hu huv=>h.old u x hu (by omega)⟩
  by_cases e:u=v
  ·subst e;exact(h.old u x hu (zB _)).more (by rw[ev]at hu;cases hu;omega)
  ·exact h.new u x hu (by omega)
theorem ywi{g:Gr}(hg:ybe g){a d:Nat}{R:List Int}(h:LayerInv g a d 0 R):∀v,v<=g.ports.length->LayerInv g a d v ((zG v).foldl (yri g ((d:Int)+1)) R)
 |0,_=>h
 | v+1,hv=>by
   rw[zW,zI];exact(ywi hg h v (by omega)).step hg (by omega)
def yyd(g:Gr)(a d:Nat)(R:List Int):Prop:=R.length=g.ports.length/\∀(u:Nat) (x:Int),R[u]?=some x->Upto g a d u x
theorem yblp{g:Gr}{a:Nat}(ha:a<g.ports.length):yyd g a 0 (start g a):=by
 refine⟨by simp[start],fun u x hu=>?_⟩
 unfold start at hu;rw[zD]at hu;split at hu
 ·rename_i e
  subst e;simp[ha]at hu;subst hu;exact .inr ⟨0,zB _,rfl,rfl,fun j hj=>absurd hj (by omega)⟩
 ·rename_i e
  rw[zH]at hu;split at hu
  ·cases hu
   refine .inl ⟨rfl,fun k hk hw=>?_⟩;obtain rfl:k=0:=by omega
   exact e hw.symm
  ·cases hu
theorem ybos{g:Gr}(hg:ybe g){a d:Nat}{R:List Int}(h:yyd g a d R):yyd g a (d+1) (stepD g R (d+1)):=by
 have h0:LayerInv g a d 0 R:=⟨h.1,fun _ _ _ hu=>absurd hu (by omega),fun u x hu _=>h.2 u x hu⟩
 have h1:=ywi hg h0 g.ports.length (zB _);unfold stepD;rw[show((d+1:Nat):Int)=(d:Int)+1 by omega]
 exact⟨h1.len,fun u x hu=>h1.new u x hu (by rw[<-h1.len];exact(List.getElem?_eq_some_iff.1 hu).1)⟩
theorem yud{g:Gr}(hg:ybe g){a:Nat}(ha:a<g.ports.length):∀d,yyd g a d ((zG d).foldl (fun R d=>stepD g R (d+1)) (start g a))
 |0=>yblp ha
 |d+1=>by rw[zW,zI];exact ybos hg (yud hg ha d)
theorem chain{g:Gr}{a:Nat}:∀k v,Walk g a k v->(∀j,j<k->¬Walk g a j v)->∃f:Nat->Nat,∀j,j<=k->Walk g a j (f j)/\∀i,i<j->¬Walk g a i (f j)
 | 0,v,h,_=>⟨fun _=>v,fun j hj=>by obtain rfl:j=0:=by omega
                                   exact⟨h,fun i hi=>absurd hi (by omega)⟩⟩
 | k + 1,v,h,hm=>by
   obtain⟨p,hp,hpv⟩:=h;obtain⟨f,hf⟩:=chain k p hp (fun j hj hw=>hm (j+1) (by omega) ⟨p,hw,hpv⟩)
   refine⟨fun j=>if j<=k then f j else v,fun j hj=>?_⟩
   by_cases hjk:j<=k
   ·simp only[if_pos hjk];exact hf j hjk
   ·obtain rfl:j=k+1:=by omega
    simp only[if_neg hjk];exact⟨⟨p,hp,hpv⟩,hm⟩
theorem walk_lt{g:Gr}(hg:ybe g){a:Nat}(ha:a<g.ports.length):∀k v,Walk g a k v->v<g.ports.length
 |0,v,h=>by obtain rfl:v=a:=h;exact ha
 |k+1,v,h=>by obtain⟨u,_,hu⟩:=h;exact(hg.adj_lt hu).2
theorem least_walk{g:Gr}{a v:Nat}:∀k,Walk g a k v->∃j,j<=k/\Walk g a j v/\∀i,i<j->¬Walk g a i v:=by
 intro k
 induction k using Nat.strongRecOn with
 | _ k ih =>
   intro hw
   by_cases h:∃j,j<k/\Walk g a j v
   ·obtain⟨j,hj,hwj⟩:=h;obtain⟨i,hi,r⟩:=ih j hj hwj;exact⟨i,by omega,r⟩
   ·exact⟨k,zB _,hw,fun i hi hwi=>h ⟨i,hi,hwi⟩⟩
theorem ybad{g:Gr}(hg:ybe g){a v k:Nat}(ha:a<g.ports.length)(h:Walk g a k v)(hm:∀j,j<k->¬Walk g a j v):k<g.ports.length:=by
 obtain⟨f,hf⟩:=chain k v h hm;have hinj:∀i j,i<j->j<=k->f i≠f j:=fun i j hij hj e=>(hf j hj).2 i hij (by rw[<-e];exact(hf i (by omega)).1)
 have h1:((zG (k+1)).map f).Nodup:=by
  rw[List.Nodup,List.pairwise_map];refine(List.Pairwise.and_mem.1 List.pairwise_lt_range).imp ?_;rintro i j ⟨_,hj,hij⟩;exact hinj i j hij (by simp at hj;omega)
 have h2:(zG (k+1)).map f ⊆ zG g.ports.length:=by
  intro x hx;obtain⟨j,hj,rfl⟩:=List.mem_map.1 hx;simp only[List.mem_range]at hj ⊢;exact walk_lt hg ha j _ (hf j (by omega)).1
 have:=List.Nodup.length_le_of_subset h1 h2;simp at this;omega
theorem yft{g:Gr}(hg:ybe g){a:Nat}(ha:a<g.ports.length):ysu g a (ybu g a):=by
 obtain⟨h1,h2⟩:=yud hg ha (g.ports.length-1);refine⟨h1,fun v x hx=>?_⟩;rcases h2 v x hx with⟨rfl,h3⟩|⟨k,_,r⟩
 ·refine .inl ⟨rfl,fun k hk=>?_⟩;obtain⟨j,_,hj,hm⟩:=least_walk k hk;have:=ybad hg ha hj hm;exact h3 j (by omega) hj
 ·exact .inr ⟨k,r⟩
theorem ysu.bound{g:Gr}(hg:ybe g){a:Nat}(ha:a<g.ports.length){D:List Int}(h:ysu g a D):∀x∈D,-1<=x/\x<=24:=by
 intro x hx;obtain⟨v,hv,rfl⟩:=List.mem_iff_getElem.1 hx;rcases h.2 v _ (zA hv)with⟨e,_⟩|⟨k,e,h1,h2⟩
 ·omega
 ·have:=ybad hg ha h1 h2;have:=hg.2.1;omega
end
section
def ygc(g:Gr):Bool:=yda g&&(ybu g 0).all (fun x=>decide (0<=x))
def ybw(D:List Int):Int:=D.foldl max (-1)
def yux(g:Gr)(v:Int):List Int:=if yda g=true/\0<=v/\v<g.ports.length then ybu g v.toNat else[]
def eccP(g:Gr)(v:Int):Int:=if ygc g=true/\0<=v/\v<g.ports.length then ybw (ybu g v.toNat)else -1
def yek(D:List Int):Int:=if D.all (fun x=>decide (0<=x))=true then ybw D else -1
theorem yqe(D:List Int):∀m:Int,m<=D.foldl max m:=by
 induction D with
 |nil=>intro m;exact Int.le_refl _
 |cons x D ih=>intro m;exact zAA (Int.le_max_left m x) (ih _)
theorem yvp(D:List Int)(k:Nat)(hk:k<D.length):ybw (D.take (k+1))=max (ybw (D.take k)) D[k]:=by
 unfold ybw;rw[take_snoc D k hk,zI];rfl
theorem ybdn(D:List Int)(m:Int)(hm:-1<=m)(h:∀x∈D,x<=m):ybw D<=m:=by
 unfold ybw
 suffices ∀a:Int,a<=m->D.foldl max a<=m from this _ hm
 induction D with
 |nil=>intro a ha;exact ha
 |cons x D ih=>intro a ha;exact ih (fun y hy=>h y (by simp[hy])) _ (Int.max_le.2 ⟨ha,h x (by simp)⟩)
theorem yqr(D:List Int):∀x∈D,x<=ybw D:=by
 unfold ybw
 suffices ∀a:Int,∀x∈D,x<=D.foldl max a from this _
 induction D with
 |nil=>intro a x hx;simp at hx
 | cons y D ih =>
   intro a x hx;rcases List.mem_cons.1 hx with rfl|hx
   ·exact zAA (Int.le_max_right a x) (yqe D _)
   ·exact ih _ x hx
theorem yho{g:Gr}(hg:ybe g){a:Nat}(ha:a<g.ports.length):(ybu g a).length=g.ports.length:=(yft hg ha).1
theorem Walk.trans{g:Gr}{a b:Nat}:∀{j:Nat}{c:Nat}{k:Nat},Walk g a k b->Walk g b j c->Walk g a (k+j) c
 |0,c,k,h1,h2=>by obtain rfl:c=b:=h2;exact h1
 | j+1,c,k,h1,h2=>by
   obtain⟨u,hu,huc⟩:=h2;exact⟨u,Walk.trans h1 hu,huc⟩
theorem Walk.one{g:Gr}{a b:Nat}(h:adj g a b):Walk g a 1 b:=⟨a,rfl,h⟩
theorem Walk.symm{g:Gr}(hg:ybe g){a:Nat}:∀{k:Nat}{b:Nat},Walk g a k b->Walk g b k a
 |0,b,h=>by obtain rfl:b=a:=h;exact rfl
 | k+1,b,h=>by
   obtain⟨u,hu,hub⟩:=h;have:=Walk.trans (Walk.one (hg.adj_symm hub)) (Walk.symm hg hu)
   rwa [Nat.add_comm]at this
theorem ybfq{g:Gr}(hg:ybe g){a:Nat}(ha:a<g.ports.length):(ybu g a).all (fun x=>decide (0<=x))=true↔∀v,v<g.ports.length->∃k,Walk g a k v:=by
 have hd:=yft hg ha;rw[zM];constructor
 ·intro h v hv;have hv':v<(ybu g a).length:=by rw[hd.1];exact hv
  rcases hd.2 v _ (zA hv')with⟨e,_⟩|⟨k,_,hk,_⟩
  ·have:=of_decide_eq_true (h _ (zT hv'));omega
  ·exact⟨k,hk⟩
 ·intro h x hx;obtain⟨v,hv,rfl⟩:=List.mem_iff_getElem.1 hx;obtain⟨k,hk⟩:=h v (by rw[<-hd.1];exact hv)
  rcases hd.2 v _ (zA hv)with⟨e,h1⟩|⟨k,e,_⟩
  ·exact absurd hk (h1 k)
  ·rw[e];simp
theorem yyq{g:Gr}(hg:ybe g){a b:Nat}(ha:a<g.ports.length)(hb:b<g.ports.length)(h:(ybu g a).all (fun x=>decide (0<=x))=true):(ybu g b).all (fun x=>decide (0<=x))=true:=by
 rw[ybfq hg ha]at h;rw[ybfq hg hb];intro v hv;obtain⟨k,hk⟩:=h v hv;obtain⟨j,hj⟩:=h b hb;exact⟨_,Walk.trans (Walk.symm hg hj) hk⟩
theorem ybem{g:Gr}(hv:yda g=true){v:Int}(h1:0<=v)(h2:v<g.ports.length):yux g v=ybu g v.toNat:=if_pos ⟨hv,h1,h2⟩
theorem yor{g:Gr}{v:Int}(h:¬(yda g=true/\0<=v/\v<g.ports.length)):yux g v=[]:=if_neg h
theorem yss:yek [] = -1:=rfl
theorem ycaf(g:Gr)(v:Int):yek (yux g v)=eccP g v:=by
 unfold eccP ygc
 by_cases hr:yda g=true/\0<=v/\v<g.ports.length
 ·obtain⟨hv,h1,h2⟩:=hr;have hg:=(yfg g).1 hv;rw[ybem hv h1 h2,hv];unfold yek;cases ha:(ybu g v.toNat).all (fun x=>decide (0<=x))with
  | true =>
    have:=yyq hg (a:=v.toNat) (b:=0) (by omega) (by omega) ha
    simp[this,h1,h2]
  | false =>
    have:(ybu g 0).all (fun x=>decide (0<=x))=false:=by
     cases h0:(ybu g 0).all (fun x=>decide (0<=x))with
     |false=>rfl
     | true =>
       have:=yyq hg (a:=0) (b:=v.toNat) (by omega) (by omega) h0
       rw[ha]at this;cases this
    simp[this]
 ·rw[yor hr,yss,if_neg];intro h;exact hr ⟨(zF _ _▸h.1).1,h.2⟩
end
section
abbrev Conf:=List (List Int)
abbrev Bounds:=List (Int×Int)
def ytg(bs:Bounds)(s:List Int):Bool:=decide (s.length=bs.length)&&(bs.zip s).all (fun p=>decide (p.1.1<=p.2)&&decide (p.2<=p.1.2))
def ypf(n:Nat)(bs:Nat->Bounds)(c:Conf):Bool:=decide (c.length=n)&&c.zipIdx.all (fun p=>ytg (bs p.2) p.1)
def yei(bs:Bounds)(s:List Int):Prop:=s.length=bs.length/\∀(i:Nat) b x,bs[i]?=some b->s[i]?=some x->b.1<=x/\x<=b.2
def yblf(n:Nat)(bs:Nat->Bounds)(c:Conf):Prop:=c.length=n/\∀(v:Nat) s,c[v]?=some s->yei (bs v) s
theorem yfe(bs:Bounds)(s:List Int):ytg bs s=true↔yei bs s:=by
 unfold ytg yei;rw[zF,decide_eq_true_iff,zM];refine and_congr_right fun _=>⟨fun h i b x hb hx=>?_,fun h p hp=>?_⟩
 ·have:=h (b,x) (zN (i:=i) (by simp[zL,hb,hx]))
  simpa using this
 ·obtain⟨i,hi⟩:=List.mem_iff_getElem?.1 hp;obtain⟨b,x⟩:=p;rw[zL]at hi
  simpa using h i b x hi.1 hi.2
theorem yey(n:Nat)(bs:Nat->Bounds)(c:Conf):ypf n bs c=true↔yblf n bs c:=by
 unfold ypf yblf;rw[zF,decide_eq_true_iff,zM];refine and_congr_right fun _=>⟨fun h v s hs=>?_,fun h p hp=>?_⟩
 ·refine(yfe _ _).1 (h (s,v) ?_);rw[zK];exact hs
 ·rw[zK]at hp;exact(yfe _ _).2 (h p.2 p.1 hp)
theorem yix{n:Nat}{bs:Nat->Bounds}{c:Conf}(h:¬yblf n bs c):ypf n bs c=false:=by
 cases hb:ypf n bs c with
 |false=>rfl
 |true=>exact absurd ((yey n bs c).1 hb) h
theorem yxs{n:Nat}{bs:Nat->Bounds}{c:Conf}(h:yblf n bs c):ypf n bs c=true:=(yey n bs c).2 h
def ydco(g:Gr)(v:Nat):Nat:=(g.ports.getD v []).length
def ydh(g:Gr)(G:List Int)(v:Nat):Bounds:=G.map (fun h=>if h = -1 then(-1,(ydco g v:Int)-1)else(0,h))
def yber(g:Gr):Int:=g.ids.foldl max 0
end
section
open Go.RowKit
theorem In_t(v lo hi:Int)(w:World)(h1:lo<=v)(h2:v<=hi) :
 Calls Tryz.prog 134 #[.int .i64 v,.int .i64 lo,.int .i64 hi] w fun e w'=>e = .returned (.bool true)/\w=w':=by
 go_enter Tryz.func134,Tryz.ntmps134
 go_wp2
 go_ret
 exact⟨rfl,rfl⟩
theorem In_f(v lo hi:Int)(w:World)(h:v<lo\/hi<v) :
 Calls Tryz.prog 134 #[.int .i64 v,.int .i64 lo,.int .i64 hi] w fun e w'=>e = .returned (.bool false)/\w=w':=by
 by_cases h1:lo<=v
 ·have h2:hi<v:=by omega
  go_enter Tryz.func134,Tryz.ntmps134
  go_wp2
  go_ret
  exact⟨ybi (by simp;omega),rfl⟩
 ·go_enter Tryz.func134,Tryz.ntmps134
  go_wp2
  go_ret
  exact⟨rfl,rfl⟩
theorem yyc(gv:Value)(g:Gr)(v:Nat)(ls:List (Int×Int))(u:Int)(w:World)(hg:GrAt w gv g)(hv:g.ports[v]?=some ls) :
 Calls Tryz.prog 62 #[gv,.int .i64 v,.int .i64 u] w fun e w'=>e = .returned (.int .i64 (yhb ls u))/\Below w.heap.size w w':=by
 obtain⟨i,p,rfl,_,A,c,rfl,hc1,hc2,hp⟩:=hg;have hvlt:v<g.ports.length:=(List.getElem?_eq_some_iff.1 hv).1;obtain⟨b,off,rfl,hb,hP⟩:=hp (by omega)
 obtain⟨lv,hcell,A2,c2,rfl,hl1,hl2,hL⟩:=hP v ls hv;simp only[Nat.mul_one]at hcell;have HL:=Lib.hid hL;have HP:=Lib.hid hP;have Hv:=Lib.hid hv
 clear hL hP hv hp
 go_enter Tryz.func62,Tryz.ntmps62
 go_wp2
 go_loop [7] (fun t=>∃k:Nat,k<=ls.length/\t = .int .i64 k/\Hid ((ls.take k).findIdx? (fun l=>l.1==u)=none)) (fun t=>ls.length-(intOf t).toNat)
 case atStart=>exact⟨0,by omega,rfl,Lib.hid (by simp)⟩
 case round =>
  obtain⟨k,hk,rfl,hnone⟩:=hrel
  by_cases hlt:k<ls.length
  ·obtain⟨b2,off2,rfl,hb2,hE⟩:=HL.out (by omega)
   obtain⟨e1,e2,hw1,hw2⟩:=hE k ls[k] (zA hlt);have HE:=Lib.hid hE
   clear hE
   by_cases heq:ls[k].1=u
   ·have heq':(ls[k].1==u)=true:=by simp[heq]
    have Hr:=Lib.hid (ype ls u k hlt heq hnone.out)
    clear heq
    go_wp2
    go_ret
    exact⟨ysp Hr.out.symm,(Below.refl _ _).alloc (zB _) _⟩
   ·have heq':(ls[k].1==u)=false:=by simp[heq]
    have Hr:=Lib.hid (ypy ls u k hlt heq hnone.out)
    clear heq
    go_wp2
    go_round
    case rel=>exact⟨k+1,by omega,by go_num,Hr⟩
    case measure=>simp[intOf];omega
  ·have hkl:k=ls.length:=by omega
   subst hkl;have Hr:=Lib.hid (yuo ls u hnone.out)
   go_wp2
   go_ret
   exact⟨ysp Hr.out.symm,(Below.refl _ _).alloc (zB _) _⟩
theorem yhv(lv:Value)(ls:List (Int×Int))(v n:Int)(w:World)(hl:ybir w lv ls)(hn:0<=n/\n<=1000) :
 Calls Tryz.prog 135 #[lv,.int .i64 v,.int .i64 n] w fun e w'=>e = .returned (.bool (yly ls v n))/\∃m,w'=w.drewN m:=by
 obtain⟨hn1,hn2⟩:=hn;obtain⟨A,c,rfl,hc1,hc2,hL⟩:=hl;have HL:=Lib.hid hL
 clear hL
 go_enter Tryz.func135,Tryz.ntmps135
 go_wp2
 go_loopw [7] (fun t wr=>∃k m:Nat,k<=ls.length/\t = .int .i64 k/\wr=w.drewN m/\Hid (ycf (ls.take k) v n)) (fun t _=>ls.length-(intOf t).toNat)
 case atStart=>exact⟨0,0,by omega,rfl,rfl,Lib.hid ⟨by simp,by simp⟩⟩
 case round =>
  obtain⟨k,m,hk,rfl,rfl,hok⟩:=hrel
  by_cases hlt:k<ls.length
  ·obtain⟨b2,off2,rfl,hb2,hE⟩:=HL.out (by omega)
   obtain⟨e1,e2,⟨hw1,hw1'⟩,⟨hw2,hw2'⟩⟩:=hE k ls[k] (zA hlt);have HE:=Lib.hid hE
   clear hE
   have Hsn:=Lib.hid (yql ls v n k hlt);have Hbad:=Lib.hid (fun h=>yuh ls v n (k+1) h)
   by_cases c1:0<=ls[k].1/\ls[k].1<=n-1
   ·obtain⟨c1a,c1b⟩:=c1
    by_cases c2:ls[k].1=v
    ·have c2':(ls[k].1==v)=true:=by simp[c2]
     have Hf:=Lib.hid (Hbad.out (fun h=>((Hsn.out.1 h).2.1).2.2.1 c2))
     clear c2
     go_wp2_with (first|(go_at_call 134;refine(In_t _ _ _ _ (by omega) (by omega)).mono ?_;rintro e w' ⟨rfl,rfl⟩))
     go_ret
     exact⟨ybi Hf.out.symm,m,rfl⟩
    ·have c2':(ls[k].1==v)=false:=by simp[c2]
     by_cases c3:1<=ls[k].2/\ls[k].2<=15
     ·obtain⟨c3a,c3b⟩:=c3;have Hlk:=Lib.hid (show yii v n ls[k]from⟨c1a,c1b,c2,c3a,c3b⟩)
      clear c2
      go_wp2_with (first|(go_at_call 134;refine(In_t _ _ _ _ (by omega) (by omega)).mono ?_;rintro e w' ⟨rfl,rfl⟩))
      go_loopw [8] (fun t wr=>∃j m2:Nat,j<=k/\t = .int .i64 j/\wr=w.drewN m2/\Hid (∀i (hi:i<j) (hj:j<=k),ls[i].1≠ls[k].1)) (fun t _=>k-(intOf t).toNat)
      case atStart=>exact⟨0,m,by omega,rfl,rfl,Lib.hid (fun i hi=>absurd hi (by omega))⟩
      case round =>
       obtain⟨j,m2,hj,rfl,rfl,hne⟩:=hrel
       by_cases hjk:j<k
       ·obtain⟨f1,f2,_,_⟩:=HE.out j ls[j] (zA (by omega))
        by_cases c4:ls[j].1=ls[k].1
        ·have c4':(ls[j].1==ls[k].1)=true:=by simp[c4]
         have Hf:=Lib.hid (Hbad.out (fun h=>(Hsn.out.1 h).2.2 j hjk c4))
         clear c4
         go_wp2
         go_quiet (fail)
         go_wp2
         go_ret
         exact⟨ybi Hf.out.symm,_,World.drewN_drewN _ _ _⟩
        ·have c4':(ls[j].1==ls[k].1)=false:=by simp[c4]
         have Hc4:=Lib.hid c4
         clear c4
         go_wp2
         go_quiet (fail)
         go_wp2
         go_roundw
         case rel =>
          refine⟨j+1,_,by omega,by go_num,rfl,Lib.hid (fun i hi hj'=>?_)⟩
          by_cases hij:i<j
          ·exact hne.out i hij hj
          ·obtain rfl:i=j:=by omega
           exact Hc4.out
         case measure=>simp[intOf];omega
       ·obtain rfl:j=k:=by omega
        go_wp2
        go_roundw
        case rel=>exact⟨j+1,_,by omega,by go_num,rfl,Lib.hid (Hsn.out.2 ⟨hok.out,Hlk.out,fun i hi=>hne.out i hi (zB _)⟩)⟩
        case measure=>simp[intOf];omega
     ·have Hf:=Lib.hid (Hbad.out (fun h=>c3 ⟨((Hsn.out.1 h).2.1).2.2.2.1,((Hsn.out.1 h).2.1).2.2.2.2⟩))
      clear c2
      have c3':ls[k].2<1\/15<ls[k].2:=by omega
      clear c3
      go_wp2_with (first|(go_at_call 134;refine(In_t _ _ _ _ (by omega) (by omega)).mono ?_;rintro e w' ⟨rfl,rfl⟩)|(go_at_call 134;refine(In_f _ _ _ _ (by omega)).mono ?_;rintro e w' ⟨rfl,rfl⟩))
      go_ret
      exact⟨ybi Hf.out.symm,m,rfl⟩
   ·have Hf:=Lib.hid (Hbad.out (fun h=>c1 ⟨((Hsn.out.1 h).2.1).1,((Hsn.out.1 h).2.1).2.1⟩));have c1':ls[k].1<0\/n-1<ls[k].1:=by omega
    clear c1
    go_wp2_with (first|(go_at_call 134;refine(In_f _ _ _ _ (by omega)).mono ?_;rintro e w' ⟨rfl,rfl⟩))
    go_ret
    exact⟨ybi Hf.out.symm,m,rfl⟩
  ·obtain rfl:k=ls.length:=by omega
   have Ht:=Lib.hid (yvj ls v n hok.out)
   go_wp2
   go_ret
   exact⟨ybi Ht.out.symm,m,rfl⟩
end
section
open Go.RowKit
set_option maxHeartbeats 2000000 in
theorem yjt(gv:Value)(g:Gr)(w:World)(hg:GrAt w gv g) :
 Calls Tryz.prog 85 #[gv] w fun e w'=>e = .returned (.bool (yda g))/\Below w.heap.size w w':=by
 have hg0:=Lib.hid hg;obtain⟨i,p,rfl,hi,hp⟩:=hg;obtain⟨A,c,rfl,hA1,hA2⟩:=ybo hi;obtain⟨A2,c2,rfl,hB1,hB2⟩:=ybo hp;have Hi:=Lib.hid hi;have Hp:=Lib.hid hp
 clear hi hp
 by_cases n1:1<=g.ports.length/\g.ports.length<=24
 ·obtain⟨n1a,n1b⟩ := n1
  by_cases n2:g.ids.length=g.ports.length
  ·have n2':((g.ids.length:Int)!=(g.ports.length:Int))=false:=by simp[n2]
   have Hn2:=Lib.hid n2;have n2a:g.ids.length<=g.ports.length:=by omega
   have n2b:g.ports.length<=g.ids.length:=by omega
   clear n2
   go_enter Tryz.func85,Tryz.ntmps85
   go_wp2_with (first|(go_at_call 134;refine(In_t _ _ _ _ (by omega) (by omega)).mono ?_;rintro e w' ⟨rfl,rfl⟩))
   go_loopw [4] (fun t wr=>∃k:Nat,k<=g.ports.length/\t = .int .i64 k/\Hid (Below (w.heap.size+1) (w.alloc (.cells #[.slice A g.ids.length c,.slice A2 g.ports.length c2] 27)) wr)/\Hid (∀v,v<k->V2 g v)) (fun t _=>g.ports.length-(intOf t).toNat)
   case atStart=>exact⟨0,by omega,rfl,Lib.hid (Below.refl _ _),Lib.hid (fun v hv=>absurd hv (by omega))⟩
   case round =>
    obtain⟨k,hk,rfl,hbel,hv2⟩:=hrel;obtain⟨q0,q1,hbw,hsz⟩:=box2 hbel.out;have Hbw:=Lib.hid hbw
    clear hbw
    by_cases hlt:k<g.ports.length
    ·obtain⟨b,off,rfl,hb,hcid,hr⟩:=yfn (Hi.out.below Stable.int Hbw.out) (show k<g.ids.length by omega)
     obtain⟨b2,off2,lv,rfl,hb2,hcl,hls⟩:=yfx (Hp.out.below (Stable.sl Stable.link) Hbw.out) (zA hlt);obtain⟨A3,c3,rfl,hl1,hl2⟩:=ybo hls;have Hls:=Lib.hid hls
     clear hls
     obtain⟨x,hx⟩:∃x,g.ids[k]?=some x:=⟨_,zA (by omega)⟩
     have hxe:g.ids[k]=x:=by have:=zA (l:=g.ids) (i:=k) (by omega);rw[hx]at this;exact(Option.some.inj this).symm
     simp only[hxe]at hcid hr;obtain⟨ls,hle⟩:∃ls,g.ports[k]=ls:=⟨_,rfl⟩;have hlp:g.ports[k]?=some ls:=by rw[zA hlt,hle]
     simp only[hle]at hcl hl1 Hls;have Hx:=Lib.hid hx;have Hlp:=Lib.hid hlp
     clear hx hxe hle hlp
     obtain⟨hr1,hr2⟩:=hr;have Hbad:=Lib.hid (fun h=>yvd (g:=g) (v:=k) hlt h)
     by_cases c1:0<=x/\x<=255
     ·obtain⟨c1a,c1b⟩:=c1
      by_cases c2:ls.length<g.ports.length
      ·have c2d:decide (g.ports.length<=ls.length)=false:=by simp;omega
       by_cases c3:yly ls (k:Int) (g.ports.length:Int)=true
       ·go_wp2_with (first|(go_at_call 134;refine(In_t _ _ _ _ (by omega) (by omega)).mono ?_;rintro e w' ⟨rfl,rfl⟩)|(go_at_call 135;refine(yhv _ ls _ _ _ Hls.out ⟨by omega,by omega⟩).mono ?_;rintro e w' ⟨rfl,m,rfl⟩))
        obtain⟨w2,hw2⟩:∃w2,w2=wr.drewN m:=⟨_,rfl⟩;rw[<-hw2];have Hb2:=Lib.hid (yvi hbel.out hw2)
        clear hw2
        go_loopw [5] (fun t wq=>∃j m2:Nat,j<=k/\t = .int .i64 j/\wq=w2.drewN m2/\Hid (∀u y,u<j->g.ids[u]?=some y->y≠x)) (fun t _=>k-(intOf t).toNat)
        case atStart=>exact⟨0,0,by omega,rfl,rfl,Lib.hid (fun u y hu=>absurd hu (by omega))⟩
        case round =>
         obtain⟨j,m2,hj,rfl,rfl,hne⟩:=hrel;obtain⟨q0,q1,hbw,hsz⟩:=box2 Hb2.out;have Hbw2:=Lib.hid hbw;obtain⟨b',off',e',hb',hcid,_⟩:=yfn (Hi.out.below Stable.int Hbw2.out) (show k<g.ids.length by omega)
         cases e'
         clear hbw
         have hkx:g.ids[k]=x:=by have:=zA (l:=g.ids) (i:=k) (by omega);rw[Hx.out]at this;exact(Option.some.inj this).symm
         rw[hkx]at hcid
         clear hkx
         by_cases hjk:j<k
         ·obtain⟨b',off',e',hb',hcj,_⟩:=yfn (Hi.out.below Stable.int Hbw2.out) (show j<g.ids.length by omega)
          cases e'
          by_cases c4:g.ids[j]=x
          ·have c4':(g.ids[j]==x)=true:=by simp[c4]
           have Hf:=Lib.hid (Hbad.out (fun h=>(h x ls Hx.out Hlp.out).2.2.2 j _ hjk (zA (by omega)) c4))
           clear c4
           go_wp2
           go_quiet (fail)
           go_wp2
           go_ret
           exact⟨ybi Hf.out.symm,below_drewN (below_drewN (box2 Hb2.out).2.2.1 _) _⟩
          ·have c4':(g.ids[j]==x)=false:=by simp[c4]
           have Hc4:=Lib.hid c4
           clear c4
           go_wp2
           go_quiet (fail)
           go_wp2
           go_roundw
           case rel =>
            refine⟨j+1,_,by omega,by go_num,rfl,Lib.hid (fun u y hu hy=>?_)⟩
            by_cases huj:u<j
            ·exact hne.out u y huj hy
            ·obtain rfl:u=j:=by omega
             rw[zA (by omega)]at hy
             cases hy
             exact Hc4.out
           case measure=>simp[intOf];omega
         ·obtain rfl:j=k:=by omega
          go_wp2
          go_roundw
          case rel =>
           refine⟨j+1,by omega,by go_num,Lib.hid (below_drewN Hb2.out _),Lib.hid (fun v hv=>?_)⟩
           by_cases hvj:v<j
           ·exact hv2.out v hvj
           ·obtain rfl:v=j:=by omega
            intro x' ls' hx' hls';rw[Hx.out]at hx';rw[Hlp.out]at hls';cases hx'
            cases hls'
            exact⟨⟨c1a,c1b⟩,c2,c3,hne.out⟩
          case measure=>simp[intOf];omega
       ·have c3':yly ls (k:Int) (g.ports.length:Int)=false:=by simpa using c3
        have Hf:=Lib.hid (Hbad.out (fun h=>c3 (h x ls Hx.out Hlp.out).2.2.1))
        clear c3
        go_wp2_with (first|(go_at_call 134;refine(In_t _ _ _ _ (by omega) (by omega)).mono ?_;rintro e w' ⟨rfl,rfl⟩)|(go_at_call 135;refine(yhv _ ls _ _ _ Hls.out ⟨by omega,by omega⟩).mono ?_;rintro e w' ⟨rfl,m,rfl⟩))
        go_ret
        exact⟨ybi Hf.out.symm,below_drewN Hbw.out _⟩
      ·have c2d:decide (g.ports.length<=ls.length)=true:=by simp;omega
       have Hf:=Lib.hid (Hbad.out (fun h=>c2 (h x ls Hx.out Hlp.out).2.1))
       go_wp2_with (first|(go_at_call 134;refine(In_t _ _ _ _ (by omega) (by omega)).mono ?_;rintro e w' ⟨rfl,rfl⟩)|(go_at_call 135;refine(yhv _ ls _ _ _ Hls.out ⟨by omega,by omega⟩).mono ?_;rintro e w' ⟨rfl,m,rfl⟩))
       go_ret
       exact⟨ybi Hf.out.symm,Hbw.out⟩
     ·have Hf:=Lib.hid (Hbad.out (fun h=>c1 (h x ls Hx.out Hlp.out).1));have c1':x<0\/255<x:=by omega
      clear c1
      go_wp2_with (first|(go_at_call 134;refine(In_f _ _ _ _ (by omega)).mono ?_;rintro e w' ⟨rfl,rfl⟩))
      go_ret
      exact⟨ybi Hf.out.symm,Hbw.out⟩
    ·obtain rfl:k=g.ports.length:=by omega
     go_wp2
     go_loopw [6] (fun t wr=>∃k:Nat,k<=g.ports.length/\t = .int .i64 k/\Hid (Below (w.heap.size+1) (w.alloc (.cells #[.slice A g.ids.length c,.slice A2 g.ports.length c2] 27)) wr)/\Hid (∀v i,v<k->V3 g v i)) (fun t _=>g.ports.length-(intOf t).toNat)
     case atStart=>exact⟨0,by omega,rfl,hbel,Lib.hid (fun v i hv=>absurd hv (by omega))⟩
     case round =>
      clear hbel Hbw q0 q1 hsz
      obtain⟨k,hk,rfl,hbel,hv3⟩:=hrel;obtain⟨q0,q1,hbw,hsz⟩:=box2 hbel.out;have Hbw:=Lib.hid hbw
      clear hbw
      by_cases hlt:k<g.ports.length
      ·obtain⟨ls,hle⟩:∃ls,g.ports[k]=ls:=⟨_,rfl⟩;have hlp:g.ports[k]?=some ls:=by rw[zA hlt,hle]
       have Hlp:=Lib.hid hlp
       clear hle hlp
       have Hlk:=Lib.hid (show ∀l∈ls,yii k g.ports.length l by
        have:=(hv2.out k hlt _ ls (zA (by omega)) Hlp.out).2.2.1
        exact fun l hl=>(of_decide_eq_true this).1 l hl)
       have Hbad:=Lib.hid (fun i h=>ytj (g:=g) (v:=k) (i:=i) hlt h)
       go_wp2
       go_loopw [7] (fun t wr=>∃i:Nat,i<=ls.length/\t = .int .i64 i/\Hid (Below (w.heap.size+1) (w.alloc (.cells #[.slice A g.ids.length c,.slice A2 g.ports.length c2] 27)) wr)/\Hid (∀j,j<i->V3 g k j)) (fun t _=>ls.length-(intOf t).toNat)
       case atStart=>exact⟨0,by omega,rfl,hbel,Lib.hid (fun j hj=>absurd hj (by omega))⟩
       case round =>
        clear hbel Hbw q0 q1 hsz
        obtain⟨i,hi,rfl,hbel,hv3'⟩:=hrel;obtain⟨q0,q1,hbw,hsz⟩:=box2 hbel.out;have Hbw:=Lib.hid hbw;obtain⟨b2,off2,lv,rfl,hb2,hcl,hls⟩:=yfx (Hp.out.below (Stable.sl Stable.link) Hbw.out) Hlp.out;obtain⟨A3,c3,rfl,hl1,hl2⟩:=ybo hls
        by_cases hil:i<ls.length
        ·obtain⟨A4,c4,e4,_,_,hE⟩:=hls;cases e4
         obtain⟨b3,off3,rfl,hb3,hE⟩:=hE (by omega)
         obtain⟨⟨l1,wt⟩,hle⟩:∃l,ls[i]=l:=⟨_,rfl⟩;have hl?:ls[i]?=some (l1,wt):=by rw[zA hil,hle]
         obtain⟨hx1,hx2,⟨hr1,hr2⟩,⟨hr3,hr4⟩⟩:=hE i _ hl?;have hlk:=Hlk.out (l1,wt) (zN hl?);unfold yii at hlk;obtain⟨k1,k2,k3,k4,k5⟩:=hlk;simp only at k1 k2 k3 k4 k5 hx1 hx2 hr1 hr2 hr3 hr4;obtain⟨t,rfl⟩:=Int.eq_ofNat_of_zero_le k1;have htl:t<g.ports.length:=by omega
         obtain⟨b',off',lv',e',hb',hcl',hls'⟩:=yfx (Hp.out.below (Stable.sl Stable.link) Hbw.out) (zA htl);cases e'
         obtain⟨A5,c5,rfl,hm1,hm2⟩:=ybo hls';obtain⟨ls',hle'⟩:∃ls',g.ports[t]=ls':=⟨_,rfl⟩;have Hlp':=Lib.hid (show g.ports[t]?=some ls' by rw[zA htl,hle'])
         rw[hle']at hls' hcl' hm1;have Hl?:=Lib.hid hl?;have HE:=Lib.hid hE;have Hls':=Lib.hid hls';have Hbb:=Lib.hid (Hbad.out i)
         clear hle hle' hl? hE hls' k1 k3 hbw
         have Hgr:=Lib.hid (hg0.out.below Hbw.out);rcases ynw (ls:=ls') (u:=(k:Int))with hpt|⟨q,hpt,hq⟩
         ·have Hpt:=Lib.hid hpt
          clear hpt
          have Hf:=Lib.hid (Hbb.out (fun h=>by
           obtain⟨ls2,q2,l2,f1,f2,_⟩:=h ls _ Hlp.out Hl?.out;rw[zC,Hlp'.out]at f1;cases f1
           rw[Hpt.out]at f2;omega))
          go_wp2_with fail
          refine(yyc _ g t ls' k _ (Hgr.out.below ((Below.refl _ _).alloc (zB _) _)) Hlp'.out).mono ?_;rintro e w3 ⟨rfl,hb3w⟩;rw[Hpt.out];have d0:=keepA hb3w _ _ q0;have d1:=keepA hb3w _ _ q1;have d2:=keepA hb3w _ _ hcl';obtain⟨d3,d4⟩:=ybgh hb3w;have Hb3:=Lib.hid (ymy hb3w);have hz3:wr.heap.size<w3.heap.size:=by have:=hb3w.size;simp at this;omega
          clear hb3w
          go_wp2
          go_quiet (fail)
          go_wp2
          go_ret
          exact⟨ybi Hf.out.symm,below_drewN (Hbw.out.trans (Hb3.out.mono Hbw.out.size)) _⟩
         ·have Hpt:=Lib.hid hpt
          clear hpt
          obtain⟨A6,c6,e6,_,_,hE6⟩:=Hls'.out;cases e6
          obtain⟨b6,off6,rfl,hb6,hE6⟩:=hE6 (by omega)
          obtain⟨⟨y1,y2⟩,hqe⟩:∃l,ls'[q]=l:=⟨_,rfl⟩;have hq?:ls'[q]?=some (y1,y2):=by rw[zA hq,hqe]
          obtain⟨_,hx4,_,_⟩:=hE6 q _ hq?;simp only at hx4;have Hq?:=Lib.hid hq?
          clear hqe hq? hE6
          by_cases c7:y2=wt
          ·have c7':(y2 != wt)=false:=by simp[c7]
           have Hv:=Lib.hid (show V3 g k i from fun ls2 l2 f1 f2=>by
            rw[Hlp.out]at f1;cases f1
            rw[Hl?.out]at f2;cases f2
            exact⟨ls',q,(y1,y2),by rw[zC];exact Hlp'.out,Hpt.out,Hq?.out,c7⟩)
           clear c7
           go_wp2_with fail
           refine(yyc _ g t ls' k _ (Hgr.out.below ((Below.refl _ _).alloc (zB _) _)) Hlp'.out).mono ?_;rintro e w3 ⟨rfl,hb3w⟩;rw[Hpt.out];have d0:=keepA hb3w _ _ q0;have d1:=keepA hb3w _ _ q1;have d2:=keepA hb3w _ _ hcl';obtain⟨d3,d4⟩:=ybgh hb3w;have Hb3:=Lib.hid (ymy hb3w);have hz3:wr.heap.size<w3.heap.size:=by have:=hb3w.size;simp at this;omega
           clear hb3w
           have d5:=(Hb3.out.cell hb6).trans hx4
           go_wp2
           go_quiet (fail)
           go_wp2
           go_roundw
           case rel =>
            refine⟨i+1,by omega,by go_num,Lib.hid (below_drewN (hbel.out.trans (Hb3.out.mono (by have:=hbel.out.size;simp at this;omega))) _),Lib.hid (fun j hj=>?_)⟩
            by_cases hji:j<i
            ·exact hv3'.out j hji
            ·obtain rfl:j=i:=by omega
             exact Hv.out
           case measure=>simp[intOf];omega
          ·have c7':(y2 != wt)=true:=by simp[c7]
           have Hf:=Lib.hid (Hbb.out (fun h=>by
            obtain⟨ls2,q2,l2,f1,f2,f3,f4⟩:=h ls _ Hlp.out Hl?.out;rw[zC,Hlp'.out]at f1;cases f1
            rw[Hpt.out]at f2;obtain rfl:q=q2:=by omega
            rw[Hq?.out]at f3;cases f3
            exact c7 f4))
           clear c7
           go_wp2_with fail
           refine(yyc _ g t ls' k _ (Hgr.out.below ((Below.refl _ _).alloc (zB _) _)) Hlp'.out).mono ?_;rintro e w3 ⟨rfl,hb3w⟩;rw[Hpt.out];have d0:=keepA hb3w _ _ q0;have d1:=keepA hb3w _ _ q1;have d2:=keepA hb3w _ _ hcl';obtain⟨d3,d4⟩:=ybgh hb3w;have Hb3:=Lib.hid (ymy hb3w);have hz3:wr.heap.size<w3.heap.size:=by have:=hb3w.size;simp at this;omega
           clear hb3w
           have d5:=(Hb3.out.cell hb6).trans hx4
           go_wp2
           go_quiet (fail)
           go_wp2
           go_ret
           exact⟨ybi Hf.out.symm,below_drewN (Hbw.out.trans (Hb3.out.mono Hbw.out.size)) _⟩
        ·obtain rfl:i=ls.length:=by omega
         have HE:=Lib.hid hls
         clear hls hbw
         go_wp2
         go_roundw
         case rel =>
          refine⟨k+1,by omega,by go_num,hbel,Lib.hid (fun v j hv=>?_)⟩
          by_cases hvk:v<k
          ·exact hv3.out v j hvk
          ·obtain rfl:v=k:=by omega
           by_cases hj:j<ls.length
           ·exact hv3'.out j hj
           ·intro ls2 l2 f1 f2;rw[Hlp.out]at f1;cases f1
            rw[List.getElem?_eq_none (by omega)]at f2
            cases f2
         case measure=>simp[intOf];omega
      ·obtain rfl:k=g.ports.length:=by omega
       have Ht:=Lib.hid (show yda g=true from decide_eq_true (ybe.of n1a n1b Hn2.out hv2.out (fun v i hv=>hv3.out v i hv)))
       go_wp2
       go_ret
       exact⟨ybi Ht.out.symm,Hbw.out⟩
  ·have n2':((g.ids.length:Int)!=(g.ports.length:Int))=true:=by simp;omega
   have Hf:=Lib.hid (yee (g:=g) (fun h=>n2 h.2.2))
   clear n2
   go_enter Tryz.func85,Tryz.ntmps85
   go_wp2_with (first|(go_at_call 134;refine(In_t _ _ _ _ (by omega) (by omega)).mono ?_;rintro e w' ⟨rfl,rfl⟩))
   go_ret
   exact⟨ybi Hf.out.symm,(Below.refl _ _).alloc (zB _) _⟩
 ·have Hf:=Lib.hid (yee (g:=g) (fun h=>n1 ⟨h.1,h.2.1⟩));have n1':g.ports.length<1\/24<g.ports.length:=by omega
  clear n1
  go_enter Tryz.func85,Tryz.ntmps85
  go_wp2_with (first|(go_at_call 134;refine(In_f _ _ _ _ (by omega)).mono ?_;rintro e w' ⟨rfl,rfl⟩))
  go_ret
  exact⟨ybi Hf.out.symm,(Below.refl _ _).alloc (zB _) _⟩
end
section
open Go.RowKit
set_option maxRecDepth 8000
end
section
end
section
def ybbm(ids:List Int)(k:Nat):Int:=(ids.take k).tail.foldl max (ids.headD 0)
abbrev maxI(ids:List Int):Int:=ybbm ids ids.length
theorem ybql{ids:List Int}{k:Nat}(h1:1<=k)(hk:k<ids.length):(ids.take (k+1)).tail=(ids.take k).tail++[ids[k]]:=by
 rw[zJ hk,List.tail_append_of_ne_nil];intro h;have:=congrArg zAB h;rw[List.length_take,zV]at this;omega
theorem ybxl(ids:List Int):ybbm ids 1=ids.headD 0:=by cases ids<;>simp[ybbm]
theorem ybng{ids:List Int}{k:Nat}(h1:1<=k)(hk:k<ids.length):ybbm ids (k+1)=max (ybbm ids k) ids[k]:=by
 unfold ybbm;rw[ybql h1 hk,zI];rfl
theorem yble{ids:List Int}(h0:0<ids.length)(h:∀x∈ids,0<=x):maxI ids=ids.foldl max 0:=by
 cases ids with
 |nil=>simp at h0
 | cons x l =>
   have hx:max 0 x=x:=Int.max_eq_right (h x (by simp))
   simp[maxI,ybbm,hx]
def idxP(ids:List Int)(x:Int):Int:=match ids.findIdx? (fun y=>x==y)with
 |some i=>i
 |none=>-1
theorem ycaw{ids:List Int}{x:Int}{k:Nat}(hk:k<ids.length)(h:x=ids[k])(hn:(ids.take k).findIdx? (fun y=>x==y)=none):idxP ids x=k:=by
 unfold idxP
 have:ids.findIdx? (fun y=>x==y)=some k:=by
  rw[List.findIdx?_eq_some_iff_getElem];refine⟨hk,by simp[h],fun j hj=>?_⟩
  rw[List.findIdx?_eq_none_iff]at hn;simp[hn ids[j] (List.mem_take_iff_getElem.2 ⟨j,by omega,rfl⟩)]
 rw[this]
theorem ybvu{ids:List Int}{x:Int}(hn:(ids.take ids.length).findIdx? (fun y=>x==y)=none):idxP ids x = -1:=by
 rw[zS]at hn;unfold idxP;rw[hn]
theorem ychb{ids:List Int}{x:Int}{k:Nat}(hk:k<ids.length)(h:x≠ids[k])(hn:(ids.take k).findIdx? (fun y=>x==y)=none):(ids.take (k+1)).findIdx? (fun y=>x==y)=none:=by
 rw[zJ hk,List.findIdx?_append,hn];simp[h]
end
end Go.Proofs.YtiejahgklcjhkaaGreatDoor
