/- Joined. -/
import Derived.Test.YthclbjjgfcgbgaaGreatDoorPkCh7
import Derived.Test.YthclbjjgfcgbgaaGreatDoorPkCh8
set_option linter.unusedSimpArgs false
set_option linter.unusedVariables false
set_option maxRecDepth 8000
open List renaming getElem?_eq_getElem->zA,replicate->zF,getElem?_set->zG,mem_of_getElem?->zH,getD->zK,getElem_append_left->zM,range->zN,getElem?_replicate->zO,foldl_append->zQ,take_succ_eq_append_getElem->zT,mem_zipIdx_iff_getElem?->zU,getElem?_zip_eq_some->zV,getElem_append_right->zW,all_eq_true->zX,drop_succ_cons->zZ,countP_append->zAB,length_cons->zAF,ext_getElem->zAG,take_length->zAH,getElem_mem->zAI,countP_cons->zAJ,length_nil->zAL,range_succ->zAM,drop_zero->zAN,map_cons->zAO,length->zAT
open Go.Proofs.Tryz renaming prog->zB,underlying22->zAD,func142->zAQ
open Go.Lib renaming hid->zC
open Nat renaming reduceEqDiff->zD,le_refl->zJ,reduceAdd->zL,lt_trichotomy->zAC,zero_le->zAE,add_zero->zAP,lt_or_ge->zAR
open Int renaming toNat_natCast->zI,eq_ofNat_of_zero_le->zY,natCast_zero->zAK,le_trans->zAS
open Bool renaming and_eq_true->zS,false_eq_true->zAA
open Go
namespace Go.Proofs.YthclbjjgfcgbgaaGreatDoor
section
namespace Sh
open Go Ev
theorem ydtt {g:FuncId}{fn:Func}{sc:SC}{rs:List SR}(hg:Tryz.prog.funcs[g]?=some fn) (hcmp:fn.body.bind (cmp zB fn.ntmps)=some sc) (hrs:cmpR zB fn.results.toList=some rs)
 {mu:List FuncId}{args:List SV}{Q:SV->Prop}(h:vc ⟨Ct zB,Cm zB,ItC zB,[],mu⟩ sc (retK rs Q) ⟨slots args 0,[]⟩):Ct zB g args Q:=by
 obtain⟨c,h1,h2⟩:=bind_some hcmp;exact yckp mix yrs hg h1 h2 hrs h
theorem ydpi {g:FuncId}{fn:Func}{sc:SC}{rs:List SR}(hg:Tryz.prog.funcs[g]?=some fn) (hcmp:fn.body.bind (cmp zB fn.ntmps)=some sc) (hrs:cmpR zB fn.results.toList=some rs)
 {pr:List Nm}{mu:List FuncId}{o:Own}{args:List SV}{Q:SV->Own->Prop}(h:vc ⟨Ct zB,Cm zB,ItC zB,pr,mu⟩ sc (retM rs pr Q) ⟨slots args 0,o⟩):Cm zB g pr o args Q:=by
 obtain⟨c,h1,h2⟩:=bind_some hcmp;exact ybyy mix yrs hg h1 h2 hrs h
def Fn(g:FuncId)(c:SC)(rs:List SR):Prop:=∀(args:List SV) (Q:SV->Prop),vc ⟨Ct zB,Cm zB,ItC zB,[],[]⟩ c (retK rs Q) ⟨slots args 0,[]⟩->Ct zB g args Q
def FnU(g:FuncId)(c:SC)(rs:List SR):Prop:=∀(mu:List FuncId) (args:List SV) (Q:SV->Prop),vc ⟨Ct zB,Cm zB,ItC zB,[],mu⟩ c (retK rs Q) ⟨slots args 0,[]⟩->Ct zB g args Q
def FnM(g:FuncId)(c:SC)(rs:List SR):Prop:=∀(pr:List Nm) (mu:List FuncId) (o:Own) (args:List SV) (Q:SV->Own->Prop),vc ⟨Ct zB,Cm zB,ItC zB,pr,mu⟩ c (retM rs pr Q) ⟨slots args 0,o⟩->Cm zB g pr o args Q
section
variable {g:FuncId}{fn:Func}{sc:SC}{rs:List SR}(hg:Tryz.prog.funcs[g]?=some fn) (hcmp:fn.body.bind (cmp zB fn.ntmps)=some sc) (hrs:cmpR zB fn.results.toList=some rs)
include hg hcmp hrs
theorem fn_0:Fn g sc rs:=fun _ _ h=>ydtt hg hcmp hrs h
theorem fn_u:FnU g sc rs:=fun _ _ _ h=>ydtt hg hcmp hrs h
theorem fn_m:FnM g sc rs:=fun _ _ _ _ _ h=>ydpi hg hcmp hrs h
end
def o3(x:SOp)(d a:Nat):SOper:=⟨x,some d,none,a⟩
def o0(x:SOp)(a:Nat):SOper:=⟨x,none,none,a⟩
abbrev LO:=List SOper
def mv'(x d a:Nat):SOper:=⟨.mv (.tmp x),some d,none,a⟩
def bn'(op:BinOp)(x y d a:Nat):SOper:=⟨.bin op (.tmp x) (.tmp y),some d,none,a⟩
def ld'(ag:Bool)(n x d a:Nat):SOper:=⟨.load ag n (.tmp x),some d,none,a⟩
def fa'(o n x d a:Nat):SOper:=⟨.faddr o n (.tmp x),some d,none,a⟩
def ix'(z x k d a:Nat):SOper:=⟨.idx z (.tmp x) (.tmp k),some d,none,a⟩
def ln'(x d a:Nat):SOper:=⟨.len (.tmp x),some d,none,a⟩
def xt'(x k d a:Nat):SOper:=⟨.extract (.tmp x) k,some d,none,a⟩
def cl'(g:FuncId)(xs:List Nat)(d a:Nat):SOper:=⟨.call (.func g) (xs.map .tmp),some d,none,a⟩
def ci'(n:Int):Operand:=.const (.int .i64 n)
attribute [go_sem] o3 o0 mv' bn' ld' fa' ix' ln' xt' cl' ci'
attribute [go_sem] ydyk ydfg ycht ybva ydzo ydib ydoa ydek ycim ydhp ycje ybdb yyt yboc ybfu puts ydca
attribute [go_sem] ydsb ydxy ydnr ybbk ybpa ybwk ybal ybfn ybnp ybqz ycdz ybhg yckj ybgn ycgg
attribute [go_sem] yqk Fam.at Prod.mk.injEq ydjr ydhk ydfl ydir ydgw ydbo ybol oldX oldV ykc yov yccq ydfj gb_x ydzg resX yig slots ycgd
attribute [go_sem] ycgw ybtu runO opO yccq xOp SS.get SS.pget SS.gets SS.lit look lookO SS.put SS.own ydgx ydfp ydjn ycgl ychn yckz ychs
attribute [go_sem] ycjb ycjh yclm yckl yckq ybju simple ylv yvt ybbc part idxX natX yre ybod xbin xun eqL splice fill OB.set ofV fits ydga
attribute [go_sem] ybkg allP SRec.no SRec.pure clash nmem List.isEmpty_nil List.isEmpty_cons List.drop List.take List.all List.any List.map zAT List.head? List.append
attribute [go_sem] List.nil_append List.append_nil List.cons_append List.all_cons List.all_nil zZ zAN List.take_succ_cons List.take_zero List.drop_nil
attribute [go_sem] List.take_nil zAF zAL zAO List.map_nil List.getElem?_cons_zero List.getElem?_cons_succ List.elem zI Nat.zero_add
attribute [go_sem] zAP if_true if_false ite_true ite_false Option.isNone Option.isNone_none Option.map_some Option.map_none Bool.not_true Bool.not_false Bool.true_or
attribute [go_sem] Bool.or_true Bool.false_or Bool.or_false Bool.and_true Bool.true_and Bool.and_false Bool.false_and Bool.and_self Bool.or_self true_and and_true and_self
attribute [go_sem] true_implies false_implies implies_true forall_const Nat.lt_add_one Nat.one_pos Nat.zero_lt_one Nat.lt_irrefl zJ decide_true decide_false zAA
attribute [go_sem] Bool.true_eq_false forall_eq BEq.rfl beq_self_eq_true decide_eq_true_eq decide_eq_false_iff_not beq_iff_eq beq_eq_false_iff_ne bne_iff_ne bne_eq_false_iff_eq
attribute [go_sem] Bool.not_eq_true Bool.not_eq_false Bool.not_eq_true' Bool.not_eq_false' ydew ydjy ydgk ycii ycju ybyb ycjy yche ycha
attribute [go_sem] ycli ycce ydjt ydxc yddc ycfx ycjv ycic ycfj ycgj ycjj ybum ycdi ybos ybzk yccj ybvy
attribute [go_sem] ycdm ycaq ybvn ydxh ydkx ydwz ydiw ydft yciz ydcw ydco ydja ydjc ydjk ydbu ydyl ydyr ydzm ydoz ydos
attribute [go_sem] ydgc ydqq ydln ydqa ydwr ydrg ydxs ydvc ydpn ydlb ydfz yded ycld ydey ydhz ydii ydcr yddb ydju
attribute [go_sem] ybac ybgu idxF ydwi yss ymf own1 ybms ydhn ydcb zAA false_implies Tel telL ydw yhe ybup ydiq ydcs
attribute [go_sem] ycla yckn ycjz ycfb ycio ychg ycfe ycka yckv yeae ydzs ydyg ydsd ydku ydrp ydtu ydsz ydkp ydwb yduq
attribute [go_sem] ydok lv nmem rid yhj ybxg ydvw yxc ydvq ydio ycov yoi yctj ydug ydxp ycpa yij yblj ydzq ydyt ydzz ydva ydrh yddr
attribute [go_sem] ydtb ydng ydus ydkw ydke ydqt List.any_cons List.any_nil Option.isSome ydet or_false false_or or_true true_or false_and exists_const exists_false
attribute [go_sem] List.not_mem_nil and_false
attribute [go_sem ↓] gb_t gb_f ydzh ydyz
end Sh
end
section
namespace Sh
open Go Ev
def ycoj:LO:=[o3 (.mv (ci' 0)) 4 0]
def ycmu:LO:=[mv' 0 6 0,ln' 6 7 1,o3 (.mv (ci' 0)) 8 0]
def ycsd:LO:=[bn' .lss 8 7 9 0]
def yczv:LO:=[mv' 8 10 0,mv' 10 5 1]
def ycmo:LO:=[mv' 1 11 0,mv' 0 12 0,mv' 5 13 0,ix' 1 12 13 14 6,ld' false 1 14 15 14,bn' .eql 11 15 16 31]
def ycsm:LO:=[mv' 5 17 0,mv' 17 4 1]
def ycur:LO:=[o3 (.bin .add (.tmp 8) (ci' 1)) 18 0,mv' 18 8 1]
def ycpy:LO:=[o3 (.mv (.const (.int .i64 (-1)))) 4 0]
def c143:SC:=(.seq (.reg false ycoj) (.seq (.seq (.reg false ycmu) (.block 0 (.loop (.seq (.reg false ycsd) (.seq (.cond (.tmp 9) .skip (.exit 0)) (.seq (.block 1 (.seq (.reg false yczv) (.seq (.reg false ycmo) (.cond (.tmp 16) (.seq (.reg false ycsm) .ret) .skip)))) (.reg false ycur))))))) (.seq (.reg false ycpy) .ret)))
theorem ydhx:Fn 143 c143 [.t 4]:=fn_0 Tryz.func143 (by kernel_rfl) (by kernel_rfl)
def ydqu:LO:=[o3 (.mv (ci' 0)) 2 0]
def ydpg:LO:=[mv' 0 5 0,ln' 5 6 1,o3 (.bin .lss (.tmp 6) (ci' 1)) 7 3]
def ydmd:LO:=[o3 (.no) 8 0,o0 (.no) 1]
def ydqh:LO:=[mv' 0 9 0,o3 (.idx 1 (.tmp 9) (ci' 0)) 10 1,ld' false 1 10 11 3,mv' 11 3 7]
def ydwh:LO:=[o3 (.mv (ci' 1)) 4 0]
def ydxf:LO:=[mv' 4 12 0,mv' 0 13 0,ln' 13 14 2,bn' .lss 12 14 15 7]
def ydkn:LO:=[mv' 3 18 0,mv' 0 19 0,mv' 4 20 0,ix' 1 19 20 21 6,ld' false 1 21 22 14,o3 (.mm true (.tmp 18) (.tmp 22)) 23 31,mv' 23 3 63]
def ydry:LO:=[mv' 4 16 0,o3 (.bin .add (.tmp 16) (ci' 1)) 17 1,mv' 17 4 3]
def ydvl:LO:=[mv' 3 24 0,mv' 24 2 1]
def c54:SC:=(.seq (.reg false ydqu) (.seq (.seq (.reg false ydpg) (.cond (.tmp 7) (.reg false ydmd) .skip)) (.seq (.reg false ydqh) (.seq (.seq (.reg false ydwh) (.block 0 (.loop (.seq (.seq (.reg false ydxf) (.cond (.tmp 15) .skip (.exit 0))) (.seq (.block 1 (.reg false ydkn)) (.reg false ydry)))))) (.seq (.reg false ydvl) .ret)))))
theorem ydss:Fn 54 c54 [.t 2]:=fn_0 Tryz.func54 (by kernel_rfl) (by kernel_rfl)
def ycyc:LO:=[o3 (.mv (.const (.bool false))) 4 0]
def ycpr:LO:=[mv' 0 5 0,mv' 1 6 0,cl' 143 [5,6] 7 3,o3 (.bin .geq (.tmp 7) (ci' 0)) 8 7,mv' 8 4 15]
def c258:SC:=(.seq (.reg false ycyc) (.seq (.reg false ycpr) .ret))
theorem ydfx:Fn 258 c258 [.t 4]:=fn_0 Tryz.func258 (by kernel_rfl) (by kernel_rfl)
def ycsr:LO:=[o3 (.mv (ci' 0)) 4 0]
def ycxo:LO:=[mv' 0 6 0,ln' 6 7 1,o3 (.mv (ci' 0)) 8 0]
def ycok:LO:=[bn' .lss 8 7 9 0]
def ycuz:LO:=[mv' 8 10 0,mv' 10 5 1]
def ydac:LO:=[mv' 1 11 0,mv' 0 12 0,mv' 5 13 0,ix' 1 12 13 14 6,ld' false 1 14 15 14,o3 (.call (.tmp 11) [(.tmp 15)]) 16 31]
def ydba:LO:=[mv' 5 17 0,mv' 17 4 1]
def ycvu:LO:=[o3 (.bin .add (.tmp 8) (ci' 1)) 18 0,mv' 18 8 1]
def ycqa:LO:=[o3 (.mv (.const (.int .i64 (-1)))) 4 0]
def c251:SC:=(.seq (.reg false ycsr) (.seq (.seq (.reg false ycxo) (.block 0 (.loop (.seq (.reg false ycok) (.seq (.cond (.tmp 9) .skip (.exit 0)) (.seq (.block 1 (.seq (.reg false ycuz) (.seq (.reg false ydac) (.cond (.tmp 16) (.seq (.reg false ydba) .ret) .skip)))) (.reg false ycvu))))))) (.seq (.reg false ycqa) .ret)))
theorem ydev:Fn 251 c251 [.t 4]:=fn_0 Tryz.func251 (by kernel_rfl) (by kernel_rfl)
def ycob:LO:=[o3 (.mv (ci' 0)) 2 0]
def ycpk:LO:=[mv' 0 4 0,o3 (.bin .lss (.tmp 4) (ci' 1)) 5 1,mv' 5 6 3,⟨.mv (.tmp 0),some 7,some (6,false),7⟩,⟨.bin .gtr (.tmp 7) (ci' 43),some 8,some (6,false),15⟩,o3 (.pick (.tmp 6) (.const (.bool true)) (.tmp 8)) 9 31,mv' 9 3 63]
def ycsl:LO:=[o3 (.mv (.const (.int .i64 (-1)))) 2 0]
def ycru:LO:=[mv' 0 11 0,o3 (.bin .leq (.tmp 11) (ci' 17)) 12 1,mv' 12 10 3]
def ycqx:LO:=[o3 (.mv (ci' 0)) 2 0]
def ycrq:LO:=[mv' 0 14 0,o3 (.bin .leq (.tmp 14) (ci' 29)) 15 1,mv' 15 13 3]
def ycxz:LO:=[o3 (.mv (ci' 1)) 2 0]
def ycxr:LO:=[mv' 0 17 0,o3 (.bin .leq (.tmp 17) (ci' 42)) 18 1,mv' 18 16 3]
def ydau:LO:=[o3 (.mv (ci' 2)) 2 0]
def ycwu:LO:=[o3 (.mv (ci' 3)) 2 0]
def c231:SC:=(.seq (.reg false ycob) (.seq (.block 0 (.seq (.reg false ycpk) (.cond (.tmp 3) (.seq (.reg false ycsl) .ret) (.seq (.reg false ycru) (.cond (.tmp 10) (.seq (.reg false ycqx) .ret) (.seq (.reg false ycrq) (.cond (.tmp 13) (.seq (.reg false ycxz) .ret) (.seq (.reg false ycxr) (.cond (.tmp 16) (.seq (.reg false ydau) .ret) .skip))))))))) (.seq (.reg false ycwu) .ret)))
theorem ydfv:Fn 231 c231 [.t 2]:=fn_0 Tryz.func231 (by kernel_rfl) (by kernel_rfl)
def yday:LO:=[o3 (.mv (ci' 0)) 4 0]
def ycpv:LO:=[mv' 1 7 0,o3 (.bin .lss (.tmp 7) (ci' 0)) 8 1,mv' 8 9 3,⟨.mv (.tmp 1),some 10,some (9,false),7⟩,⟨.mv (.tmp 0),some 11,some (9,false),7⟩,⟨.len (.tmp 11),some 12,some (9,false),23⟩,⟨.bin .geq (.tmp 10) (.tmp 12),some 13,some (9,false),63⟩,o3 (.pick (.tmp 9) (.const (.bool true)) (.tmp 13)) 14 127]
def ycnr:LO:=[o3 (.mv (.const (.int .i64 (-1)))) 4 0]
def ycri:LO:=[o3 (.mv (ci' 1)) 5 0]
def ycmg:LO:=[mv' 1 15 0,mv' 0 16 0,ln' 16 17 2,bn' .lss 15 17 18 7]
def ycwz:LO:=[mv' 0 21 0,mv' 1 22 0,ix' 2 21 22 23 3,fa' 0 1 23 24 7,ld' false 1 24 25 15,cl' 231 [25] 26 31,mv' 26 6 63]
def ycso:LO:=[mv' 6 27 0,o3 (.bin .lss (.tmp 27) (ci' 0)) 28 1]
def yctf:LO:=[o3 (.mv (.const (.int .i64 (-1)))) 4 0]
def yczp:LO:=[mv' 5 29 0,mv' 6 30 0,o3 (.bin .sub (.tmp 30) (ci' 1)) 31 2,bn' .add 29 31 32 7,mv' 32 5 15]
def ybtq:LO:=[mv' 5 33 0,o3 (.bin .eql (.tmp 33) (ci' 0)) 34 1]
def yceq:LO:=[mv' 1 35 0,o3 (.bin .add (.tmp 35) (ci' 1)) 36 1,mv' 36 4 3]
def ycqj:LO:=[mv' 1 19 0,o3 (.bin .add (.tmp 19) (ci' 1)) 20 1,mv' 20 1 3]
def ybvr:LO:=[o3 (.mv (.const (.int .i64 (-1)))) 4 0]
def c215:SC:=(.seq (.reg false yday) (.seq (.seq (.reg false ycpv) (.cond (.tmp 14) (.seq (.reg false ycnr) .ret) .skip)) (.seq (.seq (.reg false ycri) (.block 0 (.loop (.seq (.seq (.reg false ycmg) (.cond (.tmp 18) .skip (.exit 0))) (.seq (.block 1 (.seq (.reg false ycwz) (.seq (.seq (.reg false ycso) (.cond (.tmp 28) (.seq (.reg false yctf) .ret) .skip)) (.seq (.reg false yczp) (.seq (.reg false ybtq) (.cond (.tmp 34) (.seq (.reg false yceq) .ret) .skip)))))) (.reg false ycqj)))))) (.seq (.reg false ybvr) .ret))))
theorem ydcl:Fn 215 c215 [.t 4]:=fn_0 Tryz.func215 (by kernel_rfl) (by kernel_rfl)
def ycyq:LO:=[o3 (.box 27 (.tmp 0)) 3 0,o3 (.mv (ci' 0)) 6 0]
def ycvn:LO:=[fa' 1 1 3 9 0,ld' false 1 9 10 1,mv' 1 11 0,ix' 1 10 11 12 7,ld' false 1 12 13 15,ln' 13 14 31,o3 (.mv (ci' 0)) 15 0]
def ycut:LO:=[bn' .lss 15 14 16 0]
def ycqr:LO:=[mv' 15 17 0,ix' 2 13 15 18 0,ld' true 2 18 19 2,o3 (.alloc 68 1 [.i .i64 0,.i .i64 0]) 8 0,mv' 17 7 15,o0 (.store 2 (.tmp 8) (.tmp 19)) 31]
def ycos:LO:=[fa' 0 1 8 20 0,ld' false 1 20 21 1,mv' 2 22 0,bn' .eql 21 22 23 7]
def ycum:LO:=[mv' 7 24 0,mv' 24 6 1]
def yclq:LO:=[o3 (.bin .add (.tmp 15) (ci' 1)) 25 0,mv' 25 15 1]
def ycpo:LO:=[o3 (.mv (.const (.int .i64 (-1)))) 6 0]
def c204:SC:=(.seq (.reg false ycyq) (.seq (.seq (.reg false ycvn) (.block 0 (.loop (.seq (.reg false ycut) (.seq (.cond (.tmp 16) .skip (.exit 0)) (.seq (.block 1 (.seq (.reg false ycqr) (.seq (.reg false ycos) (.cond (.tmp 23) (.seq (.reg false ycum) .ret) .skip)))) (.reg false yclq))))))) (.seq (.reg false ycpo) .ret)))
theorem ydcz:Fn 204 c204 [.t 6]:=fn_0 Tryz.func204 (by kernel_rfl) (by kernel_rfl)
def ycoe:LO:=[o3 (.box 27 (.tmp 0)) 2 0,o3 (.mv (.const (.slice none 0 0))) 4 0]
def yczn:LO:=[fa' 1 1 2 11 0,ld' false 1 11 12 1,ln' 12 13 3,o3 (.mk 3 1 8 [.i .i64 0] (.tmp 13) (.tmp 13)) 14 7,mv' 14 5 15]
def ycrm:LO:=[mv' 5 15 0,ln' 15 16 1,o3 (.mv (ci' 0)) 17 0]
def ybty:LO:=[bn' .lss 17 16 18 0]
def ycox:LO:=[mv' 17 19 0,mv' 19 6 1]
def ycqu:LO:=[mv' 5 20 0,mv' 6 21 0,ix' 1 20 21 22 3,o0 (.store 1 (.tmp 22) (.const (.int .i64 (-1)))) 7]
def ycmv:LO:=[o3 (.bin .add (.tmp 17) (ci' 1)) 23 0,mv' 23 17 1]
def ycyt:LO:=[mv' 5 24 0,mv' 1 25 0,ix' 1 24 25 26 3,o0 (.store 1 (.tmp 26) (ci' 0)) 7]
def ycmc:LO:=[mv' 1 27 0,o3 (.bslice 3 1 1 [.i .i64 0] [(0,1,(.tmp 27))]) 28 1,mv' 28 7 3]
def ycep:LO:=[mv' 7 29 0,ln' 29 30 1,o3 (.bin .gtr (.tmp 30) (ci' 0)) 31 3]
def ycbz:LO:=[mv' 7 32 0,o3 (.idx 1 (.tmp 32) (ci' 0)) 33 1,ld' false 1 33 34 3,mv' 34 8 7]
def ybzb:LO:=[mv' 7 35 0,o3 (.cut 1 (.tmp 35) (some (ci' 1)) none) 36 1,mv' 36 7 3]
def ybuk:LO:=[fa' 1 1 2 37 0,ld' false 1 37 38 1,mv' 8 39 0,ix' 1 38 39 40 7,ld' false 1 40 41 15,ln' 41 42 31,o3 (.mv (ci' 0)) 43 0]
def yzr:LO:=[bn' .lss 43 42 44 0]
def yzw:LO:=[ix' 2 41 43 45 0,ld' true 2 45 46 1,o3 (.alloc 68 1 [.i .i64 0,.i .i64 0]) 10 0,o0 (.store 2 (.tmp 10) (.tmp 46)) 7]
def yym:LO:=[mv' 5 47 0,fa' 0 1 10 48 0,ld' false 1 48 49 2,ix' 1 47 49 50 7,ld' false 1 50 51 15,o3 (.bin .lss (.tmp 51) (ci' 0)) 52 31]
def yys:LO:=[mv' 5 53 0,fa' 0 1 10 54 0,ld' false 1 54 55 2,mv' 5 56 0,mv' 8 57 0,ix' 1 56 57 58 24,ld' false 1 58 59 56,o3 (.bin .add (.tmp 59) (ci' 1)) 60 120,ix' 1 53 55 61 255,o0 (.store 1 (.tmp 61) (.tmp 60)) 511]
def yzx:LO:=[mv' 7 62 0,fa' 0 1 10 63 0,ld' false 1 63 64 2,o3 (.bslice 3 1 1 [.i .i64 0] [(0,1,(.tmp 64))]) 65 6,o3 (.app 3 1 8 (.tmp 62) (.tmp 65)) 66 15,mv' 66 7 31]
def yzg:LO:=[o3 (.bin .add (.tmp 43) (ci' 1)) 67 0,mv' 67 43 1]
def ycdx:LO:=[mv' 5 68 0,mv' 68 4 1]
def c142:SC:=(.seq (.reg false ycoe) (.seq (.reg false yczn) (.seq (.seq (.reg false ycrm) (.block 0 (.loop (.seq (.reg false ybty) (.seq (.cond (.tmp 18) .skip (.exit 0)) (.seq (.block 1 (.seq (.reg false ycox) (.reg false ycqu))) (.reg false ycmv))))))) (.seq (.reg false ycyt) (.seq (.reg false ycmc) (.seq (.block 2 (.loop (.seq (.seq (.reg false ycep) (.cond (.tmp 31) .skip (.exit 2))) (.block 3 (.seq (.reg false ycbz) (.seq (.reg false ybzb) (.seq (.reg false ybuk) (.block 4 (.loop (.seq (.reg false yzr) (.seq (.cond (.tmp 44) .skip (.exit 4)) (.seq (.block 5 (.seq (.reg false yzw) (.seq (.reg false yym) (.cond (.tmp 52) (.seq (.reg true yys) (.reg false yzx)) .skip)))) (.reg false yzg))))))))))))) (.seq (.reg false ycdx) .ret)))))))
theorem ydef:Fn 142 c142 [.t 4]:=fn_0 zAQ (by kernel_rfl) (by kernel_rfl)
def ycuj:LO:=[o3 (.mv (ci' 0)) 2 0]
def ycne:LO:=[o3 (.mv (.const (.int .i64 (-1)))) 3 0]
def ycwp:LO:=[mv' 0 6 0,ln' 6 7 1,o3 (.mv (ci' 0)) 8 0]
def yctw:LO:=[bn' .lss 8 7 9 0]
def yczi:LO:=[ix' 1 6 8 10 0,ld' false 1 10 11 1,mv' 11 5 3]
def ycwv:LO:=[mv' 3 12 0,mv' 5 13 0,o3 (.mm true (.tmp 12) (.tmp 13)) 14 3,mv' 14 3 7]
def ycxw:LO:=[o3 (.bin .add (.tmp 8) (ci' 1)) 15 0,mv' 15 8 1]
def ycwk:LO:=[mv' 3 16 0,mv' 16 2 1]
def c141:SC:=(.seq (.reg false ycuj) (.seq (.reg false ycne) (.seq (.seq (.reg false ycwp) (.block 0 (.loop (.seq (.reg false yctw) (.seq (.cond (.tmp 9) .skip (.exit 0)) (.seq (.block 1 (.seq (.reg false yczi) (.reg false ycwv))) (.reg false ycxw))))))) (.seq (.reg false ycwk) .ret))))
theorem ydfk:Fn 141 c141 [.t 2]:=fn_0 Tryz.func141 (by kernel_rfl) (by kernel_rfl)
def ycmx:LO:=[o3 (.mv (ci' 0)) 2 0]
def ycno:LO:=[mv' 0 3 0]
def ycog:LO:=[o3 (.mv (ci' 1)) 2 0]
def ycyv:LO:=[o3 (.mv (ci' 0)) 2 0]
def c240:SC:=(.seq (.reg false ycmx) (.seq (.seq (.reg false ycno) (.cond (.tmp 3) (.seq (.reg false ycog) .ret) .skip)) (.seq (.reg false ycyv) .ret)))
theorem ydcu:Fn 240 c240 [.t 2]:=fn_0 Tryz.func240 (by kernel_rfl) (by kernel_rfl)
def ycrj:LO:=[o3 (.mv (ci' 0)) 2 0]
def ycqg:LO:=[mv' 0 3 0,o3 (.mm false (.tmp 3) (ci' 1073741824)) 4 1,o3 (.mm true (.const (.int .i64 (-1073741824))) (.tmp 4)) 5 3,mv' 5 2 7]
def c242:SC:=(.seq (.reg false ycrj) (.seq (.reg false ycqg) .ret))
theorem yddu:Fn 242 c242 [.t 2]:=fn_0 Tryz.func242 (by kernel_rfl) (by kernel_rfl)
def ycvf:LO:=[o3 (.mv (ci' 0)) 4 0]
def ycuq:LO:=[mv' 0 5 0,o3 (.bin .eql (.tmp 5) (ci' 18)) 6 1]
def ycof:LO:=[mv' 1 7 0,o3 (.un .neg (.tmp 7)) 8 1,mv' 8 4 3]
def ydbl:LO:=[mv' 1 9 0,o3 (.bin .eql (.tmp 9) (ci' 0)) 10 1,cl' 240 [10] 11 3,mv' 11 4 7]
def c221:SC:=(.seq (.reg false ycvf) (.seq (.seq (.reg false ycuq) (.cond (.tmp 6) (.seq (.reg false ycof) .ret) .skip)) (.seq (.reg false ydbl) .ret)))
theorem ydfa:Fn 221 c221 [.t 4]:=fn_0 Tryz.func221 (by kernel_rfl) (by kernel_rfl)
def ycng:LO:=[o3 (.mv (ci' 0)) 6 0]
def ycrv:LO:=[mv' 0 7 0]
def ycyr:LO:=[o3 (.bin .eql (.tmp 7) (ci' 30)) 9 0,mv' 9 8 1]
def yctc:LO:=[mv' 1 10 0,mv' 2 11 0,bn' .mul 10 11 12 3,cl' 242 [12] 13 7,mv' 13 6 15]
def ycvv:LO:=[o3 (.bin .eql (.tmp 7) (ci' 31)) 15 0,mv' 15 14 1]
def ycnl:LO:=[mv' 1 16 0,mv' 2 17 0,cl' 243 [16,17] 18 3,cl' 242 [18] 19 7,mv' 19 6 15]
def ycnh:LO:=[o3 (.bin .eql (.tmp 7) (ci' 32)) 21 0,mv' 21 20 1]
def ydaf:LO:=[mv' 2 22 0,o3 (.bin .eql (.tmp 22) (ci' 0)) 23 1]
def ydai:LO:=[o3 (.mv (ci' 0)) 6 0]
def ycna:LO:=[mv' 1 24 0,mv' 2 25 0,mv' 1 26 0,mv' 2 27 0,cl' 243 [26,27] 28 12,bn' .mul 25 28 29 30,bn' .sub 24 29 30 63,cl' 242 [30] 31 127,mv' 31 6 255]
def ybvg:LO:=[o3 (.bin .eql (.tmp 7) (ci' 33)) 33 0,mv' 33 32 1]
def ybvw:LO:=[mv' 1 34 0,mv' 2 35 0,bn' .add 34 35 36 3,cl' 242 [36] 37 7,mv' 37 6 15]
def ycaj:LO:=[o3 (.bin .eql (.tmp 7) (ci' 34)) 39 0,mv' 39 38 1]
def ybwc:LO:=[mv' 1 40 0,mv' 2 41 0,bn' .sub 40 41 42 3,cl' 242 [42] 43 7,mv' 43 6 15]
def ybub:LO:=[o3 (.bin .eql (.tmp 7) (ci' 41)) 45 0,mv' 45 44 1]
def ycdh:LO:=[mv' 1 46 0,o3 (.bin .neq (.tmp 46) (ci' 0)) 47 1,mv' 47 48 3,⟨.mv (.tmp 2),some 49,some (48,true),7⟩,⟨.bin .neq (.tmp 49) (ci' 0),some 50,some (48,true),15⟩,o3 (.pick (.tmp 48) (.tmp 50) (.const (.bool false))) 51 31,cl' 240 [51] 52 63,mv' 52 6 127]
def ybvo:LO:=[o3 (.bin .eql (.tmp 7) (ci' 42)) 54 0,mv' 54 53 1]
def ybwy:LO:=[mv' 1 55 0,o3 (.bin .neq (.tmp 55) (ci' 0)) 56 1,mv' 56 57 3,⟨.mv (.tmp 2),some 58,some (57,false),7⟩,⟨.bin .neq (.tmp 58) (ci' 0),some 59,some (57,false),15⟩,o3 (.pick (.tmp 57) (.const (.bool true)) (.tmp 59)) 60 31,cl' 240 [60] 61 63,mv' 61 6 127]
def ybyh:LO:=[mv' 0 62 0,mv' 1 63 0,mv' 2 64 0,cl' 244 [62,63,64] 65 7,cl' 240 [65] 66 15,mv' 66 6 31]
def c223:SC:=(.seq (.reg false ycng) (.seq (.seq (.reg false ycrv) (.block 0 (.seq (.reg false ycyr) (.cond (.tmp 8) (.seq (.reg false yctc) .ret) (.seq (.reg false ycvv) (.cond (.tmp 14) (.seq (.reg false ycnl) .ret) (.seq (.reg false ycnh) (.cond (.tmp 20) (.seq (.seq (.reg false ydaf) (.cond (.tmp 23) (.seq (.reg false ydai) .ret) .skip)) (.seq (.reg false ycna) .ret)) (.seq (.reg false ybvg) (.cond (.tmp 32) (.seq (.reg false ybvw) .ret) (.seq (.reg false ycaj) (.cond (.tmp 38) (.seq (.reg false ybwc) .ret) (.seq (.reg false ybub) (.cond (.tmp 44) (.seq (.reg false ycdh) .ret) (.seq (.reg false ybvo) (.cond (.tmp 53) (.seq (.reg false ybwy) .ret) .skip)))))))))))))))) (.seq (.reg false ybyh) .ret)))
theorem ydes:Fn 223 c223 [.t 6]:=fn_0 Tryz.func223 (by kernel_rfl) (by kernel_rfl)
def ycpp:LO:=[o3 (.mv (ci' 0)) 4 0]
def ycwf:LO:=[mv' 1 6 0,o3 (.bin .eql (.tmp 6) (ci' 0)) 7 1]
def yctd:LO:=[o3 (.mv (ci' 0)) 4 0]
def yczx:LO:=[mv' 0 8 0,mv' 1 9 0,bn' .quo 8 9 10 3,mv' 10 5 7]
def ycwl:LO:=[mv' 0 11 0,mv' 1 12 0,bn' .rem 11 12 13 3,o3 (.bin .neq (.tmp 13) (ci' 0)) 14 7,mv' 14 15 15,⟨.mv (.tmp 0),some 16,some (15,true),31⟩,⟨.bin .lss (.tmp 16) (ci' 0),some 17,some (15,true),63⟩,⟨.mv (.tmp 1),some 18,some (15,true),31⟩,⟨.bin .lss (.tmp 18) (ci' 0),some 19,some (15,true),159⟩,⟨.beq true (.tmp 17) (.tmp 19),some 20,some (15,true),511⟩,o3 (.pick (.tmp 15) (.tmp 20) (.const (.bool false))) 21 1023]
def ycpc:LO:=[mv' 5 22 0,o3 (.bin .sub (.tmp 22) (ci' 1)) 23 1,mv' 23 5 3]
def ycuf:LO:=[mv' 5 24 0,mv' 24 4 1]
def c243:SC:=(.seq (.reg false ycpp) (.seq (.seq (.reg false ycwf) (.cond (.tmp 7) (.seq (.reg false yctd) .ret) .skip)) (.seq (.reg false yczx) (.seq (.seq (.reg false ycwl) (.cond (.tmp 21) (.reg false ycpc) .skip)) (.seq (.reg false ycuf) .ret)))))
theorem ydfu:Fn 243 c243 [.t 4]:=fn_0 Tryz.func243 (by kernel_rfl) (by kernel_rfl)
def yczk:LO:=[o3 (.mv (.const (.bool false))) 6 0]
def ycuh:LO:=[mv' 0 7 0]
def ycsb:LO:=[o3 (.bin .eql (.tmp 7) (ci' 35)) 9 0,mv' 9 8 1]
def ycye:LO:=[mv' 1 10 0,mv' 2 11 0,bn' .eql 10 11 12 3,mv' 12 6 7]
def ycsu:LO:=[o3 (.bin .eql (.tmp 7) (ci' 36)) 14 0,mv' 14 13 1]
def ydaz:LO:=[mv' 1 15 0,mv' 2 16 0,bn' .neq 15 16 17 3,mv' 17 6 7]
def ycxa:LO:=[o3 (.bin .eql (.tmp 7) (ci' 37)) 19 0,mv' 19 18 1]
def ycry:LO:=[mv' 1 20 0,mv' 2 21 0,bn' .lss 20 21 22 3,mv' 22 6 7]
def yczr:LO:=[o3 (.bin .eql (.tmp 7) (ci' 38)) 24 0,mv' 24 23 1]
def ycmt:LO:=[mv' 1 25 0,mv' 2 26 0,bn' .leq 25 26 27 3,mv' 27 6 7]
def ybwi:LO:=[o3 (.bin .eql (.tmp 7) (ci' 39)) 29 0,mv' 29 28 1]
def ybsh:LO:=[mv' 1 30 0,mv' 2 31 0,bn' .gtr 30 31 32 3,mv' 32 6 7]
def ybxi:LO:=[mv' 1 33 0,mv' 2 34 0,bn' .geq 33 34 35 3,mv' 35 6 7]
def c244:SC:=(.seq (.reg false yczk) (.seq (.seq (.reg false ycuh) (.block 0 (.seq (.reg false ycsb) (.cond (.tmp 8) (.seq (.reg false ycye) .ret) (.seq (.reg false ycsu) (.cond (.tmp 13) (.seq (.reg false ydaz) .ret) (.seq (.reg false ycxa) (.cond (.tmp 18) (.seq (.reg false ycry) .ret) (.seq (.reg false yczr) (.cond (.tmp 23) (.seq (.reg false ycmt) .ret) (.seq (.reg false ybwi) (.cond (.tmp 28) (.seq (.reg false ybsh) .ret) .skip)))))))))))) (.seq (.reg false ybxi) .ret)))
theorem ydhf:Fn 244 c244 [.t 6]:=fn_0 Tryz.func244 (by kernel_rfl) (by kernel_rfl)
def ycnb:LO:=[o3 (.mv (ci' 0)) 4 0]
def ycvb:LO:=[mv' 0 15 0]
def ycpx:LO:=[o3 (.bin .eql (.tmp 15) (ci' 20)) 17 0,mv' 17 16 1]
def yctr:LO:=[mv' 1 18 0,cl' 250 [18] 19 1,mv' 1 20 0,ln' 20 21 4,bn' .eql 19 21 22 15,cl' 240 [22] 23 31,mv' 23 4 63]
def ycpe:LO:=[o3 (.bin .eql (.tmp 15) (ci' 21)) 25 0,mv' 25 24 1]
def ycwe:LO:=[mv' 1 26 0,cl' 250 [26] 27 1,o3 (.bin .gtr (.tmp 27) (ci' 0)) 28 3,cl' 240 [28] 29 7,mv' 29 4 15]
def ycws:LO:=[o3 (.bin .eql (.tmp 15) (ci' 22)) 31 0,mv' 31 30 1]
def ycvy:LO:=[mv' 1 32 0,cl' 250 [32] 33 1,mv' 33 4 3]
def yctp:LO:=[o3 (.bin .eql (.tmp 15) (ci' 23)) 35 0,mv' 35 34 1]
def ycya:LO:=[mv' 1 36 0,o3 (.call (.func 251) [(.tmp 36),(.func 252)]) 37 1,mv' 37 4 3]
def yccd:LO:=[o3 (.bin .eql (.tmp 15) (ci' 24)) 39 0,mv' 39 38 1]
def yced:LO:=[o3 (.mv (ci' 1073741824)) 5 0]
def ycbm:LO:=[mv' 1 40 0,ln' 40 41 1,o3 (.mv (ci' 0)) 42 0]
def yccr:LO:=[bn' .lss 42 41 43 0]
def ycaf:LO:=[ix' 1 40 42 44 0,ld' false 1 44 45 1,mv' 45 7 3]
def ybst:LO:=[mv' 5 46 0,mv' 7 47 0,o3 (.mm false (.tmp 46) (.tmp 47)) 48 3,mv' 48 5 7]
def ybvd:LO:=[o3 (.bin .add (.tmp 42) (ci' 1)) 49 0,mv' 49 42 1]
def ybtp:LO:=[mv' 5 50 0,mv' 50 4 1]
def ybzv:LO:=[o3 (.bin .eql (.tmp 15) (ci' 25)) 52 0,mv' 52 51 1]
def ybza:LO:=[mv' 1 54 0,cl' 253 [54] 55 1,mv' 55 53 3,xt' 53 0 56 7,xt' 53 1 57 7,mv' 56 8 15,mv' 57 9 63]
def ybsd:LO:=[mv' 8 58 0,mv' 58 4 1]
def ycag:LO:=[o3 (.bin .eql (.tmp 15) (ci' 26)) 60 0,mv' 60 59 1]
def ycdp:LO:=[o3 (.mv (ci' 0)) 10 0]
def ycak:LO:=[mv' 1 61 0,ln' 61 62 1,o3 (.mv (ci' 0)) 63 0]
def ybuz:LO:=[bn' .lss 63 62 64 0]
def yccf:LO:=[ix' 1 61 63 65 0,ld' false 1 65 66 1,mv' 66 12 3]
def ycbj:LO:=[mv' 10 67 0,mv' 12 68 0,bn' .add 67 68 69 3,mv' 69 10 7]
def ycdj:LO:=[o3 (.bin .add (.tmp 63) (ci' 1)) 70 0,mv' 70 63 1]
def ybvz:LO:=[mv' 10 71 0,cl' 242 [71] 72 1,mv' 72 4 3]
def yccu:LO:=[o3 (.bin .eql (.tmp 15) (ci' 27)) 74 0,mv' 74 73 1]
def ybzm:LO:=[mv' 1 75 0,cl' 254 [75] 76 1,mv' 76 4 3]
def ybye:LO:=[o3 (.bin .eql (.tmp 15) (ci' 28)) 78 0,mv' 78 77 1]
def ycck:LO:=[mv' 1 80 0,cl' 253 [80] 81 1,mv' 81 79 3,xt' 79 0 82 7,xt' 79 1 83 7,mv' 82 13 15,mv' 83 14 63]
def ycax:LO:=[mv' 14 84 0,mv' 84 4 1]
def ybyp:LO:=[mv' 1 85 0,ln' 85 86 1,o3 (.bin .eql (.tmp 86) (ci' 0)) 87 3]
def ybxf:LO:=[o3 (.mv (ci' 0)) 4 0]
def ybuh:LO:=[mv' 1 88 0,o3 (.idx 1 (.tmp 88) (ci' 0)) 89 1,ld' false 1 89 90 3,mv' 90 4 7]
def c241:SC:=(.seq (.reg false ycnb) (.seq (.seq (.reg false ycvb) (.block 0 (.seq (.reg false ycpx) (.cond (.tmp 16) (.seq (.reg false yctr) .ret) (.seq (.reg false ycpe) (.cond (.tmp 24) (.seq (.reg false ycwe) .ret) (.seq (.reg false ycws) (.cond (.tmp 30) (.seq (.reg false ycvy) .ret) (.seq (.reg false yctp) (.cond (.tmp 34) (.seq (.reg false ycya) .ret) (.seq (.reg false yccd) (.cond (.tmp 38) (.seq (.reg false yced) (.seq (.seq (.reg false ycbm) (.block 1 (.loop (.seq (.reg false yccr) (.seq (.cond (.tmp 43) .skip (.exit 1)) (.seq (.block 2 (.seq (.reg false ycaf) (.reg false ybst))) (.reg false ybvd))))))) (.seq (.reg false ybtp) .ret))) (.seq (.reg false ybzv) (.cond (.tmp 51) (.seq (.reg false ybza) (.seq (.reg false ybsd) .ret)) (.seq (.reg false ycag) (.cond (.tmp 59) (.seq (.reg false ycdp) (.seq (.seq (.reg false ycak) (.block 3 (.loop (.seq (.reg false ybuz) (.seq (.cond (.tmp 64) .skip (.exit 3)) (.seq (.block 4 (.seq (.reg false yccf) (.reg false ycbj))) (.reg false ycdj))))))) (.seq (.reg false ybvz) .ret))) (.seq (.reg false yccu) (.cond (.tmp 73) (.seq (.reg false ybzm) .ret) (.seq (.reg false ybye) (.cond (.tmp 77) (.seq (.reg false ycck) (.seq (.reg false ycax) .ret)) .skip)))))))))))))))))))) (.seq (.seq (.reg false ybyp) (.cond (.tmp 87) (.seq (.reg false ybxf) .ret) .skip)) (.seq (.reg false ybuh) .ret))))
theorem ydih:Fn 241 c241 [.t 4]:=fn_0 Tryz.func241 (by kernel_rfl) (by kernel_rfl)
def yclu:LO:=[o3 (.mv (.const (.bool false))) 2 0]
def ycsx:LO:=[mv' 0 3 0,o3 (.bin .neq (.tmp 3) (ci' 0)) 4 1,mv' 4 2 3]
def c252:SC:=(.seq (.reg false yclu) (.seq (.reg false ycsx) .ret))
theorem ydgf:Fn 252 c252 [.t 2]:=fn_0 Tryz.func252 (by kernel_rfl) (by kernel_rfl)
def ycsq:LO:=[o3 (.mv (ci' 0)) 2 0]
def yczy:LO:=[o3 (.mv (ci' 0)) 3 0]
def ycrg:LO:=[mv' 0 6 0,ln' 6 7 1,o3 (.mv (ci' 0)) 8 0]
def ydae:LO:=[bn' .lss 8 7 9 0]
def ycuc:LO:=[ix' 1 6 8 10 0,ld' false 1 10 11 1,mv' 11 5 3]
def yclz:LO:=[mv' 5 12 0,o3 (.bin .neq (.tmp 12) (ci' 0)) 13 1]
def ycxs:LO:=[mv' 3 14 0,o3 (.bin .add (.tmp 14) (ci' 1)) 15 1,mv' 15 3 3]
def ycto:LO:=[o3 (.bin .add (.tmp 8) (ci' 1)) 16 0,mv' 16 8 1]
def ycvz:LO:=[mv' 3 17 0,mv' 17 2 1]
def c250:SC:=(.seq (.reg false ycsq) (.seq (.reg false yczy) (.seq (.seq (.reg false ycrg) (.block 0 (.loop (.seq (.reg false ydae) (.seq (.cond (.tmp 9) .skip (.exit 0)) (.seq (.block 1 (.seq (.reg false ycuc) (.seq (.reg false yclz) (.cond (.tmp 13) (.reg false ycxs) .skip)))) (.reg false ycto))))))) (.seq (.reg false ycvz) .ret))))
theorem ydck:Fn 250 c250 [.t 2]:=fn_0 Tryz.func250 (by kernel_rfl) (by kernel_rfl)
def yctn:LO:=[o3 (.mv (ci' 0)) 2 0,o3 (.mv (ci' 0)) 3 1]
def ycyj:LO:=[o3 (.mv (.const (.int .i64 (-1073741824)))) 2 0,o3 (.mv (.const (.int .i64 (-1073741824)))) 3 1]
def ycol:LO:=[mv' 0 6 0,ln' 6 7 1,o3 (.mv (ci' 0)) 8 0]
def ydao:LO:=[bn' .lss 8 7 9 0]
def ycpt:LO:=[ix' 1 6 8 10 0,ld' false 1 10 11 1,mv' 11 5 3]
def ycmd:LO:=[mv' 5 12 0,mv' 2 13 0,bn' .gtr 12 13 14 3]
def ycmm:LO:=[mv' 5 15 0,mv' 2 16 0,mv' 15 2 3,mv' 16 3 7]
def ydan:LO:=[mv' 3 17 0,mv' 5 18 0,o3 (.mm true (.tmp 17) (.tmp 18)) 19 3,mv' 19 3 7]
def ycql:LO:=[o3 (.bin .add (.tmp 8) (ci' 1)) 20 0,mv' 20 8 1]
def ycsj:LO:=[mv' 2 21 0,mv' 3 22 0,mv' 21 2 1,mv' 22 3 7]
def c253:SC:=(.seq (.reg false yctn) (.seq (.reg false ycyj) (.seq (.seq (.reg false ycol) (.block 0 (.loop (.seq (.reg false ydao) (.seq (.cond (.tmp 9) .skip (.exit 0)) (.seq (.block 1 (.seq (.reg false ycpt) (.seq (.reg false ycmd) (.cond (.tmp 14) (.reg false ycmm) (.reg false ydan))))) (.reg false ycql))))))) (.seq (.reg false ycsj) .ret))))
theorem ydel:Fn 253 c253 [.t 2,.t 3]:=fn_0 Tryz.func253 (by kernel_rfl) (by kernel_rfl)
def ycma:LO:=[o3 (.mv (ci' 0)) 2 0]
def ycpf:LO:=[o3 (.mv (ci' 0)) 3 0]
def yclp:LO:=[mv' 0 4 0,mv' 3 5 0,cl' 258 [4,5] 6 3]
def yczj:LO:=[mv' 3 7 0,o3 (.bin .add (.tmp 7) (ci' 1)) 8 1,mv' 8 3 3]
def ycsz:LO:=[mv' 3 9 0,mv' 9 2 1]
def c254:SC:=(.seq (.reg false ycma) (.seq (.reg false ycpf) (.seq (.block 0 (.loop (.seq (.seq (.reg false yclp) (.cond (.tmp 6) .skip (.exit 0))) (.block 1 (.reg false yczj))))) (.seq (.reg false ycsz) .ret))))
theorem ydjg:Fn 254 c254 [.t 2]:=fn_0 Tryz.func254 (by kernel_rfl) (by kernel_rfl)
def ycyi:LO:=[o3 (.box 32 (.tmp 0)) 2 0,o3 (.box 27 (.tmp 1)) 3 0,o3 (.mv (.const (.pointer none))) 4 0]
def ydav:LO:=[ld' true 3 2 10 0,ld' true 2 3 11 0,fa' 1 1 3 12 0,ld' false 1 12 13 4,ln' 13 14 12,o3 (.mk 22 1 24 [.a (.slice none 0 0)] (.tmp 14) (.tmp 14)) 15 28,o3 (.build [.a (.string (ByteArray.mk #[])),.a (.slice none 0 0),.a (.slice none 0 0),.a (.slice none 0 0),.a (.slice none 0 0),.i .i64 0,.a (.slice none 0 0)] [(0,3,(.tmp 10)),(3,2,(.tmp 11)),(6,1,(.tmp 15))]) 16 63,o3 (.box 235 (.tmp 16)) 17 127,mv' 17 5 255]
def ycre:LO:=[fa' 1 1 3 18 0,ld' false 1 18 19 1,ln' 19 20 3,o3 (.mv (ci' 0)) 21 0]
def ycqs:LO:=[bn' .lss 21 20 22 0]
def ycvk:LO:=[mv' 21 23 0,ix' 1 19 21 24 0,ld' false 1 24 25 2,mv' 23 6 7,mv' 25 7 15]
def ycwc:LO:=[mv' 5 26 0,mv' 5 27 0,o3 (.nilck (.tmp 27)) 28 2,fa' 5 1 28 29 6,ld' false 1 29 30 14,fa' 0 1 3 31 0,ld' false 1 31 32 32,mv' 6 33 0,ix' 1 32 33 34 224,ld' false 1 34 35 480,o3 (.mm true (.tmp 30) (.tmp 35)) 36 1022,o3 (.nilck (.tmp 26)) 37 2047,fa' 5 1 37 38 4095,o0 (.store 1 (.tmp 38) (.tmp 36)) 8191]
def ycoh:LO:=[mv' 7 39 0,ln' 39 40 1,o3 (.mv (ci' 0)) 41 0]
def ycyf:LO:=[bn' .lss 41 40 42 0]
def ycnw:LO:=[ix' 2 39 41 43 0,ld' true 2 43 44 1,o3 (.alloc 68 1 [.i .i64 0,.i .i64 0]) 9 0,o0 (.store 2 (.tmp 9) (.tmp 44)) 7]
def ycrs:LO:=[mv' 5 45 0,o3 (.nilck (.tmp 45)) 46 1,fa' 6 1 46 47 3,ld' false 1 47 48 7,mv' 6 49 0,mv' 5 50 0,o3 (.nilck (.tmp 50)) 51 32,fa' 6 1 51 52 96,ld' false 1 52 53 224,mv' 6 54 0,ix' 1 53 54 55 992,ld' false 1 55 56 2016,ld' true 2 3 57 0,fa' 0 1 9 58 0,ld' false 1 58 59 8192,mv' 6 60 0,cl' 204 [57,59,60] 61 61440,o3 (.bslice 3 1 1 [.i .i64 0] [(0,1,(.tmp 61))]) 62 126976,o3 (.app 3 1 8 (.tmp 56) (.tmp 62)) 63 262112,ix' 1 48 49 64 524287,o0 (.store 1 (.tmp 64) (.tmp 63)) 1048575]
def ybxb:LO:=[o3 (.bin .add (.tmp 41) (ci' 1)) 65 0,mv' 65 41 1]
def ycbg:LO:=[o3 (.bin .add (.tmp 21) (ci' 1)) 66 0,mv' 66 21 1]
def ybwa:LO:=[mv' 5 67 0,mv' 67 4 1]
def c167:SC:=(.seq (.reg false ycyi) (.seq (.reg true ydav) (.seq (.seq (.reg false ycre) (.block 0 (.loop (.seq (.reg false ycqs) (.seq (.cond (.tmp 22) .skip (.exit 0)) (.seq (.block 1 (.seq (.reg false ycvk) (.seq (.reg true ycwc) (.seq (.reg false ycoh) (.block 2 (.loop (.seq (.reg false ycyf) (.seq (.cond (.tmp 42) .skip (.exit 2)) (.seq (.block 3 (.seq (.reg false ycnw) (.reg true ycrs))) (.reg false ybxb)))))))))) (.reg false ycbg))))))) (.seq (.reg false ybwa) .ret))))
theorem ydhe:Fn 167 c167 [.t 4]:=fn_0 Tryz.func167 (by kernel_rfl) (by kernel_rfl)
def ycqz:LO:=[o3 (.mv (ci' 0)) 8 0]
def ycmq:LO:=[mv' 1 10 0]
def yctk:LO:=[o3 (.bin .eql (.tmp 10) (ci' 6)) 12 0,mv' 12 11 1]
def ycqm:LO:=[mv' 0 13 0,o3 (.nilck (.tmp 13)) 14 1,fa' 3 2 14 15 3,fa' 0 1 15 16 7,ld' false 1 16 17 15,ln' 17 18 31,mv' 18 8 63]
def ycpw:LO:=[o3 (.bin .eql (.tmp 10) (ci' 7)) 20 0,mv' 20 19 1]
def ycmf:LO:=[mv' 0 21 0,o3 (.nilck (.tmp 21)) 22 1,fa' 5 1 22 23 3,ld' false 1 23 24 7,mv' 24 8 15]
def ycvo:LO:=[o3 (.bin .eql (.tmp 10) (ci' 8)) 26 0,mv' 26 25 1]
def ycon:LO:=[mv' 0 27 0,o3 (.nilck (.tmp 27)) 28 1,fa' 3 2 28 29 3,fa' 0 1 29 30 7,ld' false 1 30 31 15,mv' 2 32 0,ix' 1 31 32 33 63,ld' false 1 33 34 127,mv' 34 8 255]
def ycod:LO:=[o3 (.bin .eql (.tmp 10) (ci' 9)) 36 0,mv' 36 35 1]
def ycwh:LO:=[mv' 0 37 0,o3 (.nilck (.tmp 37)) 38 1,fa' 3 2 38 39 3,fa' 1 1 39 40 7,ld' false 1 40 41 15,mv' 2 42 0,ix' 1 41 42 43 63,ld' false 1 43 44 127,ln' 44 45 255,mv' 45 8 511]
def ycef:LO:=[o3 (.bin .eql (.tmp 10) (ci' 10)) 47 0,mv' 47 46 1]
def ybve:LO:=[mv' 2 48 0,o3 (.bin .eql (.tmp 48) (ci' 0)) 49 1,cl' 240 [49] 50 3,mv' 50 8 7]
def ybwb:LO:=[o3 (.bin .eql (.tmp 10) (ci' 11)) 52 0,mv' 52 51 1]
def ycel:LO:=[mv' 3 53 0,mv' 53 8 1]
def ybxc:LO:=[mv' 0 54 0,o3 (.nilck (.tmp 54)) 55 1,fa' 3 2 55 56 3,fa' 1 1 56 57 7,ld' false 1 57 58 15,mv' 2 59 0,ix' 1 58 59 60 63,ld' false 1 60 61 127,mv' 3 62 0,ix' 2 61 62 63 511,ld' true 2 63 64 1023,o3 (.alloc 68 1 [.i .i64 0,.i .i64 0]) 9 0,o0 (.store 2 (.tmp 9) (.tmp 64)) 4095]
def ybzr:LO:=[mv' 1 65 0]
def ycbq:LO:=[o3 (.bin .eql (.tmp 65) (ci' 13)) 67 0,mv' 67 66 1]
def ybxz:LO:=[mv' 0 68 0,o3 (.nilck (.tmp 68)) 69 1,fa' 3 2 69 70 3,fa' 0 1 70 71 7,ld' false 1 71 72 15,fa' 0 1 9 73 0,ld' false 1 73 74 32,ix' 1 72 74 75 127,ld' false 1 75 76 255,mv' 76 8 511]
def ybsn:LO:=[o3 (.bin .eql (.tmp 65) (ci' 14)) 78 0,mv' 78 77 1]
def ycea:LO:=[mv' 0 79 0,o3 (.nilck (.tmp 79)) 80 1,fa' 3 2 80 81 3,fa' 1 1 81 82 7,ld' false 1 82 83 15,fa' 0 1 9 84 0,ld' false 1 84 85 32,ix' 1 83 85 86 127,ld' false 1 86 87 255,ln' 87 88 511,mv' 88 8 1023]
def ybso:LO:=[o3 (.bin .eql (.tmp 65) (ci' 15)) 90 0,mv' 90 89 1]
def ybtv:LO:=[fa' 0 1 9 91 0,ld' false 1 91 92 1,o3 (.bin .eql (.tmp 92) (ci' 0)) 93 3,cl' 240 [93] 94 7,mv' 94 8 15]
def yccy:LO:=[o3 (.bin .eql (.tmp 65) (ci' 16)) 96 0,mv' 96 95 1]
def ybwz:LO:=[fa' 1 1 9 97 0,ld' false 1 97 98 1,mv' 98 8 3]
def yccz:LO:=[mv' 0 99 0,o3 (.nilck (.tmp 99)) 100 1,fa' 6 1 100 101 3,ld' false 1 101 102 7,mv' 2 103 0,ix' 1 102 103 104 31,ld' false 1 104 105 63,mv' 3 106 0,ix' 1 105 106 107 255,ld' false 1 107 108 511,mv' 108 8 1023]
def c239:SC:=(.seq (.reg false ycqz) (.seq (.seq (.reg false ycmq) (.block 0 (.seq (.reg false yctk) (.cond (.tmp 11) (.seq (.reg false ycqm) .ret) (.seq (.reg false ycpw) (.cond (.tmp 19) (.seq (.reg false ycmf) .ret) (.seq (.reg false ycvo) (.cond (.tmp 25) (.seq (.reg false ycon) .ret) (.seq (.reg false ycod) (.cond (.tmp 35) (.seq (.reg false ycwh) .ret) (.seq (.reg false ycef) (.cond (.tmp 46) (.seq (.reg false ybve) .ret) (.seq (.reg false ybwb) (.cond (.tmp 51) (.seq (.reg false ycel) .ret) .skip)))))))))))))) (.seq (.reg false ybxc) (.seq (.seq (.reg false ybzr) (.block 1 (.seq (.reg false ycbq) (.cond (.tmp 66) (.seq (.reg true ybxz) .ret) (.seq (.reg false ybsn) (.cond (.tmp 77) (.seq (.reg true ycea) .ret) (.seq (.reg false ybso) (.cond (.tmp 89) (.seq (.reg false ybtv) .ret) (.seq (.reg false yccy) (.cond (.tmp 95) (.seq (.reg false ybwz) .ret) .skip)))))))))) (.seq (.reg false yccz) .ret)))))
theorem ydij:Fn 239 c239 [.t 8]:=fn_0 Tryz.func239 (by kernel_rfl) (by kernel_rfl)
def ycyh:LO:=[o3 (.mv (ci' 0)) 8 0]
def ycni:LO:=[mv' 0 12 0,mv' 1 13 0,mv' 2 14 0,mv' 3 15 0,o3 (.build [.a (.pointer none),.a (.slice none 0 0),.i .i64 0,.a (.slice none 0 0)] [(0,1,(.tmp 12)),(1,1,(.tmp 13)),(2,1,(.tmp 14)),(3,1,(.tmp 15))]) 16 15,o3 (.alloc 237 1 [.a (.pointer none),.a (.slice none 0 0),.i .i64 0,.a (.slice none 0 0)]) 9 0,o0 (.store 4 (.tmp 9) (.tmp 16)) 63]
def ycqn:LO:=[o3 (.call (.func 205) [(.tmp 9),(ci' 0),(.const (.int .i64 (-1)))]) 18 0,mv' 18 17 1,xt' 17 0 19 3,xt' 17 1 20 3,mv' 19 10 7,mv' 20 11 31]
def ycsp:LO:=[mv' 10 21 0,mv' 21 8 1]
def c169:SC:=(.seq (.reg false ycyh) (.seq (.reg false ycni) (.seq (.reg false ycqn) (.seq (.reg false ycsp) .ret))))
theorem ydgl:Fn 169 c169 [.t 8]:=fn_0 Tryz.func169 (by kernel_rfl) (by kernel_rfl)
def ycxx:LO:=[o3 (.mv (.const (.bool false))) 8 0]
def ycmy:LO:=[mv' 0 9 0,mv' 1 10 0,mv' 2 11 0,mv' 0 12 0,o3 (.nilck (.tmp 12)) 13 8,fa' 0 3 13 14 24,fa' 2 1 14 15 56,ld' false 1 15 16 120,mv' 3 17 0,ix' 3 16 17 18 504,fa' 1 1 18 19 1016,ld' false 1 19 20 2040,cl' 169 [9,10,11,20] 21 4095,o3 (.bin .neq (.tmp 21) (ci' 0)) 22 8191,mv' 22 8 16383]
def c168:SC:=(.seq (.reg false ycxx) (.seq (.reg false ycmy) .ret))
theorem ydfq:Fn 168 c168 [.t 8]:=fn_0 Tryz.func168 (by kernel_rfl) (by kernel_rfl)
def yxk:LO:=[o3 (.mv (ci' 0)) 6 0,o3 (.mv (ci' 0)) 7 1]
def yxj:LO:=[mv' 0 18 0,o3 (.nilck (.tmp 18)) 19 1,fa' 3 1 19 20 3,ld' false 1 20 21 7,mv' 1 22 0,ix' 2 21 22 23 31,ld' true 2 23 24 63,o3 (.alloc 251 1 [.i .i64 0,.i .i64 0]) 8 0,o0 (.store 2 (.tmp 8) (.tmp 24)) 255]
def ywf:LO:=[fa' 0 1 8 26 0,ld' false 1 26 27 1,o3 (.bin .leq (.tmp 27) (ci' 17)) 28 3,mv' 28 25 7]
def yxo:LO:=[mv' 0 29 0,ld' true 2 8 30 0,mv' 2 31 0,cl' 220 [29,30,31] 32 7,mv' 1 33 0,o3 (.bin .add (.tmp 33) (ci' 1)) 34 16,mv' 32 6 15,mv' 34 7 127]
def yxw:LO:=[fa' 0 1 8 36 0,ld' false 1 36 37 1,o3 (.bin .leq (.tmp 37) (ci' 19)) 38 3,mv' 38 35 7]
def ywh:LO:=[mv' 0 40 0,mv' 1 41 0,o3 (.bin .add (.tmp 41) (ci' 1)) 42 2,mv' 2 43 0,cl' 205 [40,42,43] 44 15,mv' 44 39 31,xt' 39 0 45 63,xt' 39 1 46 63,mv' 45 6 127,mv' 46 7 511]
def ywg:LO:=[fa' 0 1 8 47 0,ld' false 1 47 48 1,mv' 6 49 0,cl' 221 [48,49] 50 7,mv' 7 51 0,mv' 50 6 15,mv' 51 7 63]
def yvy:LO:=[fa' 0 1 8 53 0,ld' false 1 53 54 1,o3 (.bin .leq (.tmp 54) (ci' 29)) 55 3,mv' 55 52 7]
def ywl:LO:=[mv' 0 56 0,fa' 0 1 8 57 0,ld' false 1 57 58 2,mv' 1 59 0,cl' 222 [56,58,59] 60 15,xt' 60 0 61 31,xt' 60 1 62 31,mv' 61 6 127,mv' 62 7 255]
def yxi:LO:=[fa' 0 1 8 64 0,ld' false 1 64 65 1,o3 (.bin .leq (.tmp 65) (ci' 42)) 66 3,mv' 66 63 7]
def ypi:LO:=[mv' 0 68 0,mv' 1 69 0,o3 (.bin .add (.tmp 69) (ci' 1)) 70 2,mv' 2 71 0,cl' 205 [68,70,71] 72 15,mv' 72 67 31,xt' 67 0 73 63,xt' 67 1 74 63,mv' 73 9 127,mv' 74 10 511]
def ypk:LO:=[mv' 0 76 0,mv' 10 77 0,mv' 2 78 0,cl' 205 [76,77,78] 79 7,mv' 79 75 15,xt' 75 0 80 31,xt' 75 1 81 31,mv' 80 11 63,mv' 81 12 255]
def ypp:LO:=[fa' 0 1 8 82 0,ld' false 1 82 83 1,mv' 9 84 0,mv' 11 85 0,cl' 223 [83,84,85] 86 15,mv' 12 87 0,mv' 86 6 31,mv' 87 7 127]
def yoz:LO:=[mv' 0 89 0,mv' 1 90 0,o3 (.bin .add (.tmp 90) (ci' 1)) 91 2,mv' 2 92 0,cl' 205 [89,91,92] 93 15,mv' 93 88 31,xt' 88 0 94 63,xt' 88 1 95 63,mv' 94 13 127,mv' 95 14 511]
def ypm:LO:=[mv' 0 97 0,mv' 14 98 0,mv' 2 99 0,cl' 205 [97,98,99] 100 7,mv' 100 96 15,xt' 96 0 101 31,xt' 96 1 102 31,mv' 101 15 63,mv' 102 16 255]
def yqa:LO:=[mv' 0 104 0,mv' 16 105 0,mv' 2 106 0,cl' 205 [104,105,106] 107 7,mv' 107 103 15,xt' 103 0 108 31,xt' 103 1 109 31,mv' 108 17 63,mv' 109 7 255]
def ypt:LO:=[mv' 13 110 0,o3 (.bin .neq (.tmp 110) (ci' 0)) 111 1]
def ypf:LO:=[mv' 15 112 0,mv' 7 113 0,mv' 112 6 1,mv' 113 7 7]
def yow:LO:=[mv' 17 114 0,mv' 7 115 0,mv' 114 6 1,mv' 115 7 7]
def c205:SC:=(.seq (.reg false yxk) (.seq (.reg false yxj) (.seq (.block 0 (.seq (.reg false ywf) (.cond (.tmp 25) (.seq (.reg false yxo) .ret) (.seq (.reg false yxw) (.cond (.tmp 35) (.seq (.reg false ywh) (.seq (.reg false ywg) .ret)) (.seq (.reg false yvy) (.cond (.tmp 52) (.seq (.reg false ywl) .ret) (.seq (.reg false yxi) (.cond (.tmp 63) (.seq (.reg false ypi) (.seq (.reg false ypk) (.seq (.reg false ypp) .ret))) .skip))))))))) (.seq (.reg false yoz) (.seq (.reg false ypm) (.seq (.reg false yqa) (.seq (.seq (.reg false ypt) (.cond (.tmp 111) (.seq (.reg false ypf) .ret) .skip)) (.seq (.reg false yow) .ret))))))))
theorem ytd:Fn 205 c205 [.t 6,.t 7]:=fn_0 Tryz.func205 (by kernel_rfl) (by kernel_rfl)
def ycyn:LO:=[o3 (.box 251 (.tmp 1)) 4 0,o3 (.mv (ci' 0)) 6 0]
def ycxb:LO:=[fa' 0 1 4 7 0,ld' false 1 7 8 1]
def ycnk:LO:=[o3 (.bin .eql (.tmp 8) (ci' 1)) 10 0,mv' 10 9 1]
def ycxj:LO:=[fa' 1 1 4 11 0,ld' false 1 11 12 1,mv' 12 6 3]
def ycxl:LO:=[o3 (.bin .eql (.tmp 8) (ci' 2)) 14 0,mv' 14 13 1]
def ycyu:LO:=[o3 (.mv (ci' 1)) 6 0]
def ydag:LO:=[o3 (.bin .eql (.tmp 8) (ci' 3)) 16 0,mv' 16 15 1]
def ycvx:LO:=[o3 (.mv (ci' 0)) 6 0]
def ydak:LO:=[o3 (.bin .eql (.tmp 8) (ci' 4)) 18 0,mv' 18 17 1]
def ycwq:LO:=[o3 (.mv (.const (.int .i64 (-1)))) 6 0]
def ybwu:LO:=[o3 (.bin .eql (.tmp 8) (ci' 5)) 20 0,mv' 20 19 1]
def ybuo:LO:=[mv' 0 21 0,o3 (.nilck (.tmp 21)) 22 1,fa' 1 1 22 23 3,ld' false 1 23 24 7,mv' 0 25 0,o3 (.nilck (.tmp 25)) 26 16,fa' 2 1 26 27 48,ld' false 1 27 28 112,ix' 1 24 28 29 255,ld' false 1 29 30 511,fa' 1 1 4 31 0,ld' false 1 31 32 1024,ix' 1 30 32 33 4095,ld' false 1 33 34 8191,mv' 34 6 16383]
def ybwd:LO:=[o3 (.bin .eql (.tmp 8) (ci' 12)) 36 0,mv' 36 35 1]
def ybul:LO:=[mv' 0 37 0,o3 (.nilck (.tmp 37)) 38 1,fa' 1 1 38 39 3,ld' false 1 39 40 7,mv' 0 41 0,o3 (.nilck (.tmp 41)) 42 16,fa' 0 1 42 43 48,ld' false 1 43 44 112,o3 (.nilck (.tmp 44)) 45 240,fa' 3 2 45 46 496,fa' 1 1 46 47 1008,ld' false 1 47 48 2032,mv' 0 49 0,o3 (.nilck (.tmp 49)) 50 4096,fa' 2 1 50 51 12288,ld' false 1 51 52 28672,ix' 1 48 52 53 65520,ld' false 1 53 54 131056,mv' 2 55 0,ix' 2 54 55 56 524272,fa' 0 1 56 57 1048560,ld' false 1 57 58 2097136,ix' 1 40 58 59 4194303,ld' false 1 59 60 8388607,fa' 1 1 4 61 0,ld' false 1 61 62 16777216,ix' 1 60 62 63 67108863,ld' false 1 63 64 134217727,mv' 64 6 268435455]
def ybzz:LO:=[mv' 0 65 0,o3 (.nilck (.tmp 65)) 66 1,fa' 0 1 66 67 3,ld' false 1 67 68 7,fa' 0 1 4 69 0,ld' false 1 69 70 16,mv' 0 71 0,o3 (.nilck (.tmp 71)) 72 64,fa' 2 1 72 73 192,ld' false 1 73 74 448,mv' 2 75 0,cl' 239 [68,70,74,75] 76 2047,mv' 76 6 4095]
def c220:SC:=(.seq (.reg false ycyn) (.seq (.seq (.reg false ycxb) (.block 0 (.seq (.reg false ycnk) (.cond (.tmp 9) (.seq (.reg false ycxj) .ret) (.seq (.reg false ycxl) (.cond (.tmp 13) (.seq (.reg false ycyu) .ret) (.seq (.reg false ydag) (.cond (.tmp 15) (.seq (.reg false ycvx) .ret) (.seq (.reg false ydak) (.cond (.tmp 17) (.seq (.reg false ycwq) .ret) (.seq (.reg false ybwu) (.cond (.tmp 19) (.seq (.reg true ybuo) .ret) (.seq (.reg false ybwd) (.cond (.tmp 35) (.seq (.reg true ybul) .ret) .skip)))))))))))))) (.seq (.reg true ybzz) .ret)))
theorem ydka:Fn 220 c220 [.t 6]:=fn_0 Tryz.func220 (by kernel_rfl) (by kernel_rfl)
def ydbk:LO:=[o3 (.mv (ci' 0)) 6 0,o3 (.mv (ci' 0)) 7 1]
def ydaq:LO:=[o3 (.alloc 150 24 [.i .i64 0]) 8 0]
def ycmn:LO:=[mv' 0 11 0,o3 (.nilck (.tmp 11)) 12 1,fa' 0 1 12 13 3,ld' false 1 13 14 7,o3 (.nilck (.tmp 14)) 15 15,fa' 3 2 15 16 31,fa' 1 1 16 17 63,ld' false 1 17 18 127,mv' 0 19 0,o3 (.nilck (.tmp 19)) 20 256,fa' 2 1 20 21 768,ld' false 1 21 22 1792,ix' 1 18 22 23 4095,ld' false 1 23 24 8191,ln' 24 25 16383,mv' 25 9 32767]
def ydaj:LO:=[mv' 9 26 0,o3 (.mv (ci' 0)) 27 0]
def ycoc:LO:=[bn' .lss 27 26 28 0]
def ydar:LO:=[mv' 27 29 0,mv' 29 10 1]
def ycph:LO:=[mv' 10 31 0,mv' 0 32 0,mv' 2 33 0,o3 (.bin .add (.tmp 33) (ci' 1)) 34 4,mv' 10 35 0,cl' 205 [32,34,35] 36 30,mv' 36 30 62,xt' 30 0 37 126,xt' 30 1 38 126,o3 (.idxA 24 1 (.tmp 8) (.tmp 31)) 39 255,o0 (.store 1 (.tmp 39) (.tmp 37)) 767,mv' 38 7 2047]
def ycwg:LO:=[o3 (.bin .add (.tmp 27) (ci' 1)) 40 0,mv' 40 27 1]
def ycoi:LO:=[mv' 9 41 0,o3 (.bin .eql (.tmp 41) (ci' 0)) 42 1]
def ycva:LO:=[mv' 0 43 0,o3 (.nilck (.tmp 43)) 44 1,fa' 3 1 44 45 3,ld' false 1 45 46 7,mv' 2 47 0,cl' 215 [46,47] 48 31,mv' 48 7 63]
def ybzw:LO:=[mv' 1 49 0,mv' 9 50 0,o3 (.cutA 24 1 (.tmp 8) none (some (.tmp 50))) 51 2,cl' 241 [49,51] 52 7,mv' 7 53 0,mv' 52 6 15,mv' 53 7 63]
def c222:SC:=(.seq (.reg false ydbk) (.seq (.reg false ydaq) (.seq (.reg true ycmn) (.seq (.seq (.reg false ydaj) (.block 0 (.loop (.seq (.reg false ycoc) (.seq (.cond (.tmp 28) .skip (.exit 0)) (.seq (.block 1 (.seq (.reg false ydar) (.reg false ycph))) (.reg false ycwg))))))) (.seq (.seq (.reg false ycoi) (.cond (.tmp 42) (.reg false ycva) .skip)) (.seq (.reg false ybzw) .ret))))))
theorem ydjq:Fn 222 c222 [.t 6,.t 7]:=fn_0 Tryz.func222 (by kernel_rfl) (by kernel_rfl)
end Sh
end
section
def adj(g:Gr)(u v:Nat):Prop:=∃ls,g.ports[u]?=some ls/\∃l∈ls,l.1=(v:Int)
def Walk(g:Gr)(a:Nat):Nat->Nat->Prop
 |0,v=>v=a
 |k+1,v=>∃u,Walk g a k u/\adj g u v
def ybar(g:Gr)(a v:Nat)(x:Int):Prop:=(x = -1/\∀k,¬Walk g a k v)\/∃k:Nat,x=k/\Walk g a k v/\∀j,j<k->¬Walk g a j v
def ytp(g:Gr)(a:Nat)(D:List Int):Prop:=D.length=g.ports.length/\∀v x,D[v]?=some x->ybar g a v x
theorem ybar.unique{g:Gr}{a v:Nat}{x y:Int}(h:ybar g a v x)(h':ybar g a v y):x=y:=by
 rcases h with⟨rfl,h1⟩|⟨k,rfl,h1,h2⟩<;>rcases h' with⟨rfl,h3⟩|⟨j,rfl,h3,h4⟩
 .rfl
 .exact absurd h3 (h1 j)
 .exact absurd h1 (h3 k)
 .rcases zAC k j with h|h|h
  .exact absurd h1 (h4 k h)
  .rw[h]
  .exact absurd h3 (h2 j h)
theorem ytp.unique{g:Gr}{a:Nat}{D D':List Int}(h:ytp g a D)(h':ytp g a D'):D=D':=by
 apply zAG (by rw[h.1,h'.1])
 intro i h1 h2;exact(h.2 i _ (zA h1)).unique (h'.2 i _ (zA h2))
theorem ybj.link{g:Gr}(h:ybj g){v:Nat}{ls:List (Int×Int)}(hv:g.ports[v]?=some ls){l:Int×Int}(hl:l∈ls):0<=l.1/\l.1<g.ports.length/\l.1≠v/\1<=l.2/\l.2<=15:=by
 obtain⟨hlt,e⟩:=List.getElem?_eq_some_iff.1 hv;have:=(h.2.2.2.2.2.1 ⟨v,hlt⟩).1 l (by simp only[Fin.getElem_fin,e];exact hl)
 unfold ync at this;simp only at this;omega
theorem ybj.adj_lt{g:Gr}(h:ybj g){u v:Nat}(ha:adj g u v):u<g.ports.length/\v<g.ports.length:=by
 obtain⟨ls,h1,l,hl,e⟩:=ha;have:=h.link h1 hl;exact⟨(List.getElem?_eq_some_iff.1 h1).1,by omega⟩
theorem ybj.adj_symm{g:Gr}(h:ybj g){u v:Nat}(ha:adj g u v):adj g v u:=by
 obtain⟨hu,hv⟩:=h.adj_lt ha;obtain⟨ls,h1,l,hl,e⟩:=ha;obtain⟨hlt,e1⟩:=List.getElem?_eq_some_iff.1 h1;have:=h.2.2.2.2.2.2 ⟨u,hlt⟩ l (by simp only[Fin.getElem_fin,e1];exact hl)
 rw[e,zI]at this;simp only[zK,zA hv,Option.getD_some]at this;exact⟨_,zA hv,_,this,rfl⟩
structure BfsInv(g:Gr)(a:Nat)(R:List Int)(Q:List Nat):Prop where
 len:R.length=g.ports.length
 src:R[a]?=some 0
 val:∀(v:Nat) (x:Int),R[v]?=some x->x = -1\/∃k:Nat,x=k/\Walk g a k v/\∀j,j<k->¬Walk g a j v
 qin:∀q∈Q,∃k:Nat,R[q]?=some (k:Int)
 sorted:Q.Pairwise (fun p q=>∀x y,R[p]?=some x->R[q]?=some y->x<=y/\y<=x+1)
 done:∀(v k:Nat),R[v]?=some (k:Int)->v∉Q->∀u,adj g v u->∃j:Nat,R[u]?=some (j:Int)
structure BfsIn(g:Gr)(a v d:Nat)(ls:List (Int×Int))(i:Nat)(R:List Int)(Q:List Nat):Prop where
 len:R.length=g.ports.length
 src:R[a]?=some 0
 val:∀(v:Nat) (x:Int),R[v]?=some x->x = -1\/∃k:Nat,x=k/\Walk g a k v/\∀j,j<k->¬Walk g a j v
 qin:∀q∈Q,∃k:Nat,R[q]?=some (k:Int)
 sorted:Q.Pairwise (fun p q=>∀x y,R[p]?=some x->R[q]?=some y->x<=y/\y<=x+1)
 rv:R[v]?=some (d:Int)
 low:∀q∈Q,∀y,R[q]?=some y->(d:Int)<=y/\y<=d+1
 done:∀(u k:Nat),R[u]?=some (k:Int)->u∉Q->u≠v->∀t,adj g u t->∃j:Nat,R[t]?=some (j:Int)
 part:∀l∈ls.take i,∃j:Nat,R[l.1.toNat]?=some (j:Int)
theorem BfsInv.start{g:Gr}{a:Nat}(ha:a<g.ports.length):BfsInv g a ((zF g.ports.length (-1)).set a 0) [a] where
 len:=by simp
 src:=by simp[ha]
 val := by
  intro v x h;rw[zG]at h;split at h
  .rename_i e
   subst e;simp[ha]at h;subst h;exact .inr ⟨0,rfl,rfl,fun j hj=>absurd hj (by omega)⟩
  .rw[zO]at h;split at h
   .cases h;exact .inl rfl
   .cases h
 qin:=by
  intro q hq;obtain rfl:q=a:=by simpa using hq
  exact⟨0,by simp[ha]⟩
 sorted:=by simp
 done:=by
  intro v k h hv u _;rw[zG]at h;split at h
  .rename_i e
   exact absurd (by simp[e]) hv
  .rw[zO]at h;split at h
   .cases h
   .cases h
theorem BfsInv.pop{g:Gr}{a:Nat}{R:List Int}{v:Nat}{Q:List Nat}(h:BfsInv g a R (v::Q)){d:Nat}(hd:R[v]?=some (d:Int))(ls:List (Int×Int)):BfsIn g a v d ls 0 R Q where
 len:=h.len
 src:=h.src
 val:=h.val
 qin:=fun q hq=>h.qin q (List.mem_cons_of_mem _ hq)
 sorted:=(List.pairwise_cons.1 h.sorted).2
 rv:=hd
 low:=fun q hq y hy=>(List.pairwise_cons.1 h.sorted).1 q hq _ y hd hy
 done:=fun u k hu hq hv t ht=>h.done u k hu (by simp[hq,hv]) t ht
 part:=by simp
theorem BfsIn.finish{g:Gr}{a v d:Nat}{ls:List (Int×Int)}{R:List Int}{Q:List Nat}(h:BfsIn g a v d ls ls.length R Q)(hls:g.ports[v]?=some ls):BfsInv g a R Q where
 len:=h.len
 src:=h.src
 val:=h.val
 qin:=h.qin
 sorted:=h.sorted
 done:=by
  intro u k hu hq t ht
  by_cases e:u=v
  .subst e;obtain⟨ls',h1,l,hl,e2⟩:=ht;rw[hls]at h1;cases h1
   have:=h.part l (by rw[zAH];exact hl)
   rwa [e2,zI]at this
  .exact h.done u k hu hq e t ht
theorem BfsIn.skip{g:Gr}{a v d:Nat}{ls:List (Int×Int)}{i:Nat}{R:List Int}{Q:List Nat}(h:BfsIn g a v d ls i R Q)(hi:i<ls.length){j:Nat}(hj:R[ls[i].1.toNat]?=some (j:Int)):BfsIn g a v d ls (i+1) R Q :=
 ⟨h.len,h.src,h.val,h.qin,h.sorted,h.rv,h.low,h.done,by
   intro l hl;rw[take_snoc ls i hi]at hl;rcases List.mem_append.1 hl with hl|hl
   .exact h.part l hl
   .obtain rfl:l=ls[i]:=by simpa using hl
    exact⟨j,hj⟩⟩
theorem BfsIn.found{g:Gr}{a v d:Nat}{ls:List (Int×Int)}{i:Nat}{R:List Int}{Q:List Nat}(h:BfsIn g a v d ls i R Q) :
 ∀k,k<=d->∀t,Walk g a k t->∃j:Nat,R[t]?=some (j:Int):=by
 intro k
 induction k with
 |zero=>intro _ t ht;obtain rfl:t=a:=ht;exact⟨0,h.src⟩
 | succ k ih =>
   intro hk t ⟨p,hp,hpt⟩;obtain⟨j,hj⟩:=ih (by omega) p hp
   have hjk:j<=k:=by
    rcases h.val p _ hj with e|⟨k',e,_,hmin⟩
    .omega
    .have:j=k':=by omega
     subst this;rcases zAR k j with hlt|hge
     .exact absurd hp (hmin k hlt)
     .exact hge
   refine h.done p j hj ?_ ?_ t hpt
   .intro hq;have:=(h.low p hq _ hj).1;omega
   .rintro rfl;have e1:=h.rv;rw[hj]at e1;have e2:=Option.some.inj e1;omega
theorem BfsIn.discover{g:Gr}{a v d:Nat}{ls:List (Int×Int)}{i:Nat}{R:List Int}{Q:List Nat}(h:BfsIn g a v d ls i R Q)(hls:g.ports[v]?=some ls)(hi:i<ls.length){u:Nat}(hu:ls[i].1=(u:Int))(hR:R[u]?=some (-1)) :
 BfsIn g a v d ls (i+1) (R.set u ((d:Int)+1)) (Q++[u]):=by
 have hul:u<R.length:=(List.getElem?_eq_some_iff.1 hR).1
 have hne:∀t (k:Nat),R[t]?=some (k:Int)->t≠u:=by
  rintro t k ht rfl;rw[hR]at ht;have:=Option.some.inj ht;omega
 have hset:∀t,t≠u->(R.set u ((d:Int)+1))[t]?=R[t]?:=fun t ht=>by rw[zG,if_neg (by omega)]
 have hsu:(R.set u ((d:Int)+1))[u]?=some ((d:Int)+1):=by rw[zG,if_pos rfl,if_pos hul]
 have keep:∀t:Nat,(∃j:Nat,R[t]?=some (j:Int))->∃j:Nat,(R.set u ((d:Int)+1))[t]?=some (j:Int):=by
  rintro t ⟨j,hj⟩;exact⟨j,by rw[hset t (hne t j hj)];exact hj⟩
 have hadj:adj g v u:=⟨ls,hls,ls[i],zAI hi,hu⟩
 have hnq:u∉Q:=fun hq=>by
  obtain⟨k,hk⟩:=h.qin u hq;exact hne u k hk rfl
 refine⟨by simp[h.len],?_,?_,?_,?_,?_,?_,?_,?_⟩
 .rw[hset a (hne a 0 h.src)];exact h.src
 .intro t x hx
  by_cases e:t=u
  .subst e;rw[hsu]at hx;cases hx
   refine .inr ⟨d+1,by omega,?_,?_⟩
   .rcases h.val v _ h.rv with e|⟨k,e,hk,_⟩
    .omega
    .have:d=k:=by omega
     subst this;exact⟨v,hk,hadj⟩
   .intro j hj hw;obtain⟨k,hk⟩:=h.found j (by omega) t hw
    exact hne t k hk rfl
  .rw[hset t e]at hx;exact h.val t x hx
 .intro q hq;rcases List.mem_append.1 hq with hq|hq
  .exact keep q (h.qin q hq)
  .obtain rfl:q=u:=by simpa using hq
   exact⟨d+1,by rw[hsu];rfl⟩
 .rw[List.pairwise_append];refine⟨?_,by simp,?_⟩
  .refine(List.Pairwise.and_mem.1 h.sorted).imp ?_;rintro p q ⟨hp,hq,hpq⟩ x y hx hy;rw[hset p (fun e=>hnq (e▸hp))]at hx;rw[hset q (fun e=>hnq (e▸hq))]at hy;exact hpq x y hx hy
  .intro p hp q hq x y hx hy;obtain rfl:q=u:=by simpa using hq
   rw[hset p (fun e=>hnq (e▸hp))]at hx;rw[hsu]at hy;cases hy
   have:=h.low p hp x hx;omega
 .rw[hset v (hne v d h.rv)];exact h.rv
 .intro q hq y hy;rcases List.mem_append.1 hq with hq|hq
  .rw[hset q (fun e=>hnq (e▸hq))]at hy;exact h.low q hq y hy
  .obtain rfl:q=u:=by simpa using hq
   rw[hsu]at hy;cases hy
   omega
 .intro t k ht hq hv s hs;have htu:t≠u:=fun e=>hq (by simp[e])
  rw[hset t htu]at ht;exact keep s (h.done t k ht (fun hh=>hq (List.mem_append_left _ hh)) hv s hs)
 .intro l hl;rw[take_snoc ls i hi]at hl;rcases List.mem_append.1 hl with hl|hl
  .exact keep _ (h.part l hl)
  .obtain rfl:l=ls[i]:=by simpa using hl
   rw[hu,zI];exact⟨d+1,by rw[hsu];rfl⟩
theorem BfsInv.isDist{g:Gr}{a:Nat}{R:List Int}(h:BfsInv g a R []):ytp g a R:=by
 have found:∀k t,Walk g a k t->∃j:Nat,R[t]?=some (j:Int):=by
  intro k
  induction k with
  |zero=>intro t ht;obtain rfl:t=a:=ht;exact⟨0,h.src⟩
  | succ k ih =>
    intro t ⟨p,hp,hpt⟩;obtain⟨j,hj⟩:=ih p hp;exact h.done p j hj (by simp) t hpt
 refine⟨h.len,fun v x hx=>?_⟩;rcases h.val v x hx with rfl|h1
 .refine .inl ⟨rfl,fun k hk=>?_⟩;obtain⟨j,hj⟩:=found k v hk;rw[hx]at hj;have:=Option.some.inj hj;omega
 .exact .inr h1
def yct(R:List Int):Nat:=R.countP (fun x=>decide (x<0))
theorem ytn{R:List Int}{u:Nat}{x:Int}(hR:R[u]?=some (-1))(hx:0<=x):yct (R.set u x)+1=yct R:=by
 obtain⟨hlt,e⟩:=List.getElem?_eq_some_iff.1 hR;have h1:R=R.take u++R[u]::R.drop (u+1):=by rw[List.getElem_cons_drop,List.take_append_drop]
 have h2:R.set u x=R.take u++x::R.drop (u+1):=by rw[List.set_eq_take_append_cons_drop,if_pos hlt]
 have hx':decide (x<0)=false:=by simp;omega
 unfold yct;rw[h2]
 conv=>rhs;rw[h1]
 rw[zAB,zAB,zAJ,zAJ,e,hx'];simp;omega
end
section
def yclo(R:List Int)(x:Int)(ls:List (Int×Int)):Bool:=ls.any (fun l=>decide (R[l.1.toNat]?=some x))
def ycke(g:Gr)(d:Int)(R:List Int)(v:Nat):List Int :=
 if decide (R.getD v 0<0)&&yclo R (d-1) (g.ports.getD v [])then R.set v d else R
def stepD(g:Gr)(R:List Int)(d:Nat):List Int:=(zN g.ports.length).foldl (ycke g d) R
def start(g:Gr)(a:Nat):List Int:=(zF g.ports.length (-1)).set a 0
def yca(g:Gr)(a:Nat):List Int:=(zN (g.ports.length-1)).foldl (fun R d=>stepD g R (d+1)) (start g a)
def Upto(g:Gr)(a d v:Nat)(x:Int):Prop:=(x = -1/\∀k,k<=d->¬Walk g a k v)\/∃k:Nat,k<=d/\x=k/\Walk g a k v/\∀j,j<k->¬Walk g a j v
theorem Upto.eq{g:Gr}{a d v:Nat}{x:Int}(h:Upto g a d v x){k:Nat}(hk:k<=d):x=k↔Walk g a k v/\∀j,j<k->¬Walk g a j v:=by
 rcases h with⟨rfl,h1⟩|⟨i,hi,rfl,h1,h2⟩
 .exact⟨fun e=>by omega,fun e=>absurd e.1 (h1 k hk)⟩
 .constructor
  .intro e;obtain rfl:i=k:=by omega
   exact⟨h1,h2⟩
  .rintro⟨h3,h4⟩;rcases zAC i k with h|h|h
   .exact absurd h1 (h4 i h)
   .omega
   .exact absurd h3 (h2 k h)
theorem Upto.more{g:Gr}{a d v:Nat}{x:Int}(h:Upto g a d v x)(hx:0<=x):Upto g a (d+1) v x:=by
 rcases h with⟨rfl,h1⟩|⟨i,hi,rfl,h1,h2⟩
 .omega
 .exact .inr ⟨i,by omega,rfl,h1,h2⟩
structure LayerInv(g:Gr)(a d v:Nat)(R:List Int):Prop where
 len:R.length=g.ports.length
 new:∀(u:Nat) (x:Int),R[u]?=some x->u<v->Upto g a (d+1) u x
 old:∀(u:Nat) (x:Int),R[u]?=some x->v<=u->Upto g a d u x
theorem LayerInv.at_{g:Gr}{a d v:Nat}{R:List Int}(h:LayerInv g a d v R){u:Nat}(hu:u<g.ports.length):R[u]?=some (d:Int)↔Walk g a d u/\∀j,j<d->¬Walk g a j u:=by
 have hl:=h.len;have e:R[u]?=some R[u]:=zA (by omega)
 have hx:R[u]=(d:Int)↔Walk g a d u/\∀j,j<d->¬Walk g a j u:=by
  by_cases hv:u<v
  .exact(h.new u _ e hv).eq (by omega)
  .exact(h.old u _ e (by omega)).eq (by omega)
 rw[e]
 simpa using hx
theorem LayerInv.step{g:Gr}(hg:ybj g){a d v:Nat}{R:List Int}(h:LayerInv g a d v R)(hv:v<g.ports.length):LayerInv g a d (v+1) (ycke g ((d:Int)+1) R v):=by
 have hlen:=h.len;have ev:R[v]?=some R[v]:=zA (by omega)
 have eg:R.getD v 0=R[v]:=by simp[zK,ev]
 have ep:g.ports.getD v []=g.ports[v]:=by simp[zK,zA hv]
 have hhas:yclo R ((d:Int)+1-1) g.ports[v]=true↔∃u,adj g u v/\Walk g a d u/\∀j,j<d->¬Walk g a j u:=by
  unfold yclo;rw[List.any_eq_true];constructor
  .rintro⟨l,hl,h1⟩;have hlk:=hg.link (zA hv) hl;have h1:=of_decide_eq_true h1;rw[show(d:Int)+1-1=d by omega]at h1
   refine⟨l.1.toNat,hg.adj_symm ⟨_,zA hv,l,hl,by omega⟩,?_⟩
   exact(h.at_ (by omega)).1 h1
  .rintro⟨u,hu,hw⟩;obtain⟨hu1,_⟩:=hg.adj_lt hu;obtain⟨ls,h1,l,hl,e⟩:=hg.adj_symm hu;rw[zA hv]at h1;cases h1
   refine⟨l,hl,decide_eq_true ?_⟩;rw[e,zI,show(d:Int)+1-1=d by omega]
   exact(h.at_ hu1).2 hw
 have hov:=h.old v _ ev (zJ _);unfold ycke;rw[eg,ep]
 by_cases c1:R[v]<0
 .have hx:R[v] = -1/\∀k,k<=d->¬Walk g a k v:=by
   rcases hov with h1|⟨k,_,e,_⟩
   .exact h1
   .omega
  by_cases c2:yclo R ((d:Int)+1-1) g.ports[v]=true
  .rw[if_pos (by rw[zS];exact⟨decide_eq_true c1,c2⟩)]
   obtain⟨p,hp,hw,_⟩:=hhas.1 c2;have hset:∀t,t≠v->(R.set v ((d:Int)+1))[t]?=R[t]?:=fun t ht=>by rw[zG,if_neg (by omega)]
   refine⟨by simp[hlen],fun u x hu huv=>?_,fun u x hu huv=>?_⟩
   .by_cases e:u=v
    .subst e;rw[zG,if_pos rfl,if_pos (by omega)]at hu
     cases hu
     exact .inr ⟨d+1,zJ _,by omega,⟨p,hw,hp⟩,fun j hj=>hx.2 j (by omega)⟩
    .rw[hset u e]at hu;exact h.new u x hu (by omega)
   .rw[hset u (by omega)]at hu
    exact h.old u x hu (by omega)
  .rw[if_neg (fun e=>c2 (zS _ _▸e).2)];refine⟨hlen,fun u x hu huv=>?_,fun u x hu huv=>h.old u x hu (by omega)⟩
   by_cases e:u=v
   .subst e;rw[ev]at hu;cases hu
    refine .inl ⟨hx.1,fun k hk hw=>?_⟩;rcases zAR d k with hlt|hge
    .obtain rfl:k=d+1:=by omega
     obtain⟨p,hp,hpv⟩:=hw;refine c2 (hhas.2 ⟨p,hpv,hp,fun j hj hw'=>hx.2 (j+1) (by omega) ⟨p,hw',hpv⟩⟩)
    .exact hx.2 k hge hw
   .exact h.new u x hu (by omega)
 .rw[if_neg (by simp[c1])]
  refine⟨hlen,fun u x hu huv=>?_,fun u x hu huv=>h.old u x hu (by omega)⟩
  by_cases e:u=v
  .subst e;exact(h.old u x hu (zJ _)).more (by rw[ev]at hu;cases hu;omega)
  .exact h.new u x hu (by omega)
theorem yya{g:Gr}(hg:ybj g){a d:Nat}{R:List Int}(h:LayerInv g a d 0 R):∀v,v<=g.ports.length->LayerInv g a d v ((zN v).foldl (ycke g ((d:Int)+1)) R)
 |0,_=>h
 | v+1,hv=>by
   rw[zAM,zQ];exact(yya hg h v (by omega)).step hg (by omega)
def yban(g:Gr)(a d:Nat)(R:List Int):Prop:=R.length=g.ports.length/\∀(u:Nat) (x:Int),R[u]?=some x->Upto g a d u x
theorem ybnz{g:Gr}{a:Nat}(ha:a<g.ports.length):yban g a 0 (start g a):=by
 refine⟨by simp[start],fun u x hu=>?_⟩
 unfold start at hu;rw[zG]at hu;split at hu
 .rename_i e
  subst e;simp[ha]at hu;subst hu;exact .inr ⟨0,zJ _,rfl,rfl,fun j hj=>absurd hj (by omega)⟩
 .rename_i e
  rw[zO]at hu;split at hu
  .cases hu
   refine .inl ⟨rfl,fun k hk hw=>?_⟩;obtain rfl:k=0:=by omega
   exact e hw.symm
  .cases hu
theorem yboz{g:Gr}(hg:ybj g){a d:Nat}{R:List Int}(h:yban g a d R):yban g a (d+1) (stepD g R (d+1)):=by
 have h0:LayerInv g a d 0 R:=⟨h.1,fun _ _ _ hu=>absurd hu (by omega),fun u x hu _=>h.2 u x hu⟩
 have h1:=yya hg h0 g.ports.length (zJ _);unfold stepD;rw[show((d+1:Nat):Int)=(d:Int)+1 by omega]
 exact⟨h1.len,fun u x hu=>h1.new u x hu (by rw[<-h1.len];exact(List.getElem?_eq_some_iff.1 hu).1)⟩
theorem yty{g:Gr}(hg:ybj g){a:Nat}(ha:a<g.ports.length):∀d,yban g a d ((zN d).foldl (fun R d=>stepD g R (d+1)) (start g a))
 |0=>ybnz ha
 |d+1=>by rw[zAM,zQ];exact yboz hg (yty hg ha d)
theorem chain{g:Gr}{a:Nat}:∀k v,Walk g a k v->(∀j,j<k->¬Walk g a j v)->∃f:Nat->Nat,∀j,j<=k->Walk g a j (f j)/\∀i,i<j->¬Walk g a i (f j)
 | 0,v,h,_=>⟨fun _=>v,fun j hj=>by obtain rfl:j=0:=by omega
                                   exact⟨h,fun i hi=>absurd hi (by omega)⟩⟩
 | k + 1,v,h,hm=>by
   obtain⟨p,hp,hpv⟩:=h;obtain⟨f,hf⟩:=chain k p hp (fun j hj hw=>hm (j+1) (by omega) ⟨p,hw,hpv⟩)
   refine⟨fun j=>if j<=k then f j else v,fun j hj=>?_⟩
   by_cases hjk:j<=k
   .simp only[if_pos hjk];exact hf j hjk
   .obtain rfl:j=k+1:=by omega
    simp only[if_neg hjk];exact⟨⟨p,hp,hpv⟩,hm⟩
theorem walk_lt{g:Gr}(hg:ybj g){a:Nat}(ha:a<g.ports.length):∀k v,Walk g a k v->v<g.ports.length
 |0,v,h=>by obtain rfl:v=a:=h;exact ha
 |k+1,v,h=>by obtain⟨u,_,hu⟩:=h;exact(hg.adj_lt hu).2
theorem least_walk{g:Gr}{a v:Nat}:∀k,Walk g a k v->∃j,j<=k/\Walk g a j v/\∀i,i<j->¬Walk g a i v:=by
 intro k
 induction k using Nat.strongRecOn with
 | _ k ih =>
   intro hw
   by_cases h:∃j,j<k/\Walk g a j v
   .obtain⟨j,hj,hwj⟩:=h;obtain⟨i,hi,r⟩:=ih j hj hwj;exact⟨i,by omega,r⟩
   .exact⟨k,zJ _,hw,fun i hi hwi=>h ⟨i,hi,hwi⟩⟩
theorem yuf{g:Gr}(hg:ybj g){a v k:Nat}(ha:a<g.ports.length)(h:Walk g a k v)(hm:∀j,j<k->¬Walk g a j v):k<g.ports.length:=by
 obtain⟨f,hf⟩:=chain k v h hm;have hinj:∀i j,i<j->j<=k->f i≠f j:=fun i j hij hj e=>(hf j hj).2 i hij (by rw[<-e];exact(hf i (by omega)).1)
 have h1:((zN (k+1)).map f).Nodup:=by
  rw[List.Nodup,List.pairwise_map];refine(List.Pairwise.and_mem.1 List.pairwise_lt_range).imp ?_;rintro i j ⟨_,hj,hij⟩;exact hinj i j hij (by simp at hj;omega)
 have h2:(zN (k+1)).map f ⊆ zN g.ports.length:=by
  intro x hx;obtain⟨j,hj,rfl⟩:=List.mem_map.1 hx;simp only[List.mem_range]at hj ⊢;exact walk_lt hg ha j _ (hf j (by omega)).1
 have:=List.Nodup.length_le_of_subset h1 h2;simp at this;omega
theorem yfa{g:Gr}(hg:ybj g){a:Nat}(ha:a<g.ports.length):ytp g a (yca g a):=by
 obtain⟨h1,h2⟩:=yty hg ha (g.ports.length-1);refine⟨h1,fun v x hx=>?_⟩;rcases h2 v x hx with⟨rfl,h3⟩|⟨k,_,r⟩
 .refine .inl ⟨rfl,fun k hk=>?_⟩;obtain⟨j,_,hj,hm⟩:=least_walk k hk;have:=yuf hg ha hj hm;exact h3 j (by omega) hj
 .exact .inr ⟨k,r⟩
theorem ytp.bound{g:Gr}(hg:ybj g){a:Nat}(ha:a<g.ports.length){D:List Int}(h:ytp g a D):∀x∈D,-1<=x/\x<=24:=by
 intro x hx;obtain⟨v,hv,rfl⟩:=List.mem_iff_getElem.1 hx;rcases h.2 v _ (zA hv)with⟨e,_⟩|⟨k,e,h1,h2⟩
 .omega
 .have:=yuf hg ha h1 h2;have:=hg.2.1;omega
end
section
def ygk(g:Gr):Bool:=yhc g&&(yca g 0).all (fun x=>decide (0<=x))
def ycq(D:List Int):Int:=D.foldl max (-1)
theorem yra(D:List Int):∀m:Int,m<=D.foldl max m:=by
 induction D with
 |nil=>intro m;exact Int.le_refl _
 |cons x D ih=>intro m;exact zAS (Int.le_max_left m x) (ih _)
theorem yuy(D:List Int)(k:Nat)(hk:k<D.length):ycq (D.take (k+1))=max (ycq (D.take k)) D[k]:=by
 unfold ycq;rw[take_snoc D k hk,zQ];rfl
theorem ybet(D:List Int)(m:Int)(hm:-1<=m)(h:∀x∈D,x<=m):ycq D<=m:=by
 unfold ycq
 suffices ∀a:Int,a<=m->D.foldl max a<=m from this _ hm
 induction D with
 |nil=>intro a ha;exact ha
 |cons x D ih=>intro a ha;exact ih (fun y hy=>h y (by simp[hy])) _ (Int.max_le.2 ⟨ha,h x (by simp)⟩)
theorem ybfd(D:List Int):∀x∈D,x<=ycq D:=by
 unfold ycq
 suffices ∀a:Int,∀x∈D,x<=D.foldl max a from this _
 induction D with
 |nil=>intro a x hx;simp at hx
 | cons y D ih =>
   intro a x hx;rcases List.mem_cons.1 hx with rfl|hx
   .exact zAS (Int.le_max_right a x) (yra D _)
   .exact ih _ x hx
theorem yhz{g:Gr}(hg:ybj g){a:Nat}(ha:a<g.ports.length):(yca g a).length=g.ports.length:=(yfa hg ha).1
theorem Walk.trans{g:Gr}{a b:Nat}:∀{j:Nat}{c:Nat}{k:Nat},Walk g a k b->Walk g b j c->Walk g a (k+j) c
 |0,c,k,h1,h2=>by obtain rfl:c=b:=h2;exact h1
 | j+1,c,k,h1,h2=>by
   obtain⟨u,hu,huc⟩:=h2;exact⟨u,Walk.trans h1 hu,huc⟩
theorem Walk.one{g:Gr}{a b:Nat}(h:adj g a b):Walk g a 1 b:=⟨a,rfl,h⟩
theorem Walk.symm{g:Gr}(hg:ybj g){a:Nat}:∀{k:Nat}{b:Nat},Walk g a k b->Walk g b k a
 |0,b,h=>by obtain rfl:b=a:=h;exact rfl
 | k+1,b,h=>by
   obtain⟨u,hu,hub⟩:=h;have:=Walk.trans (Walk.one (hg.adj_symm hub)) (Walk.symm hg hu)
   rwa [Nat.add_comm]at this
theorem ybfv{g:Gr}(hg:ybj g){a:Nat}(ha:a<g.ports.length):(yca g a).all (fun x=>decide (0<=x))=true↔∀v,v<g.ports.length->∃k,Walk g a k v:=by
 have hd:=yfa hg ha;rw[zX];constructor
 .intro h v hv;have hv':v<(yca g a).length:=by rw[hd.1];exact hv
  rcases hd.2 v _ (zA hv')with⟨e,_⟩|⟨k,_,hk,_⟩
  .have:=of_decide_eq_true (h _ (zAI hv'));omega
  .exact⟨k,hk⟩
 .intro h x hx;obtain⟨v,hv,rfl⟩:=List.mem_iff_getElem.1 hx;obtain⟨k,hk⟩:=h v (by rw[<-hd.1];exact hv)
  rcases hd.2 v _ (zA hv)with⟨e,h1⟩|⟨k,e,_⟩
  .exact absurd hk (h1 k)
  .rw[e];simp
theorem ychw{g:Gr}(hg:ybj g){a b:Nat}(ha:a<g.ports.length)(hb:b<g.ports.length)(h:(yca g a).all (fun x=>decide (0<=x))=true):(yca g b).all (fun x=>decide (0<=x))=true:=by
 rw[ybfv hg ha]at h;rw[ybfv hg hb];intro v hv;obtain⟨k,hk⟩:=h v hv;obtain⟨j,hj⟩:=h b hb;exact⟨_,Walk.trans (Walk.symm hg hj) hk⟩
end
section
abbrev Conf:=List (List Int)
abbrev Bounds:=List (Int×Int)
def ybuv(bs:Bounds)(s:List Int):Bool:=decide (s.length=bs.length)&&(bs.zip s).all (fun p=>decide (p.1.1<=p.2)&&decide (p.2<=p.1.2))
def yvj(n:Nat)(bs:Nat->Bounds)(c:Conf):Bool:=decide (c.length=n)&&c.zipIdx.all (fun p=>ybuv (bs p.2) p.1)
def yii(bs:Bounds)(s:List Int):Prop:=s.length=bs.length/\∀(i:Nat) b x,bs[i]?=some b->s[i]?=some x->b.1<=x/\x<=b.2
def ybmh(n:Nat)(bs:Nat->Bounds)(c:Conf):Prop:=c.length=n/\∀(v:Nat) s,c[v]?=some s->yii (bs v) s
theorem yxa(bs:Bounds)(s:List Int):ybuv bs s=true↔yii bs s:=by
 unfold ybuv yii;rw[zS,decide_eq_true_iff,zX];refine and_congr_right fun _=>⟨fun h i b x hb hx=>?_,fun h p hp=>?_⟩
 .have:=h (b,x) (zH (i:=i) (by simp[zV,hb,hx]))
  simpa using this
 .obtain⟨i,hi⟩:=List.mem_iff_getElem?.1 hp;obtain⟨b,x⟩:=p;rw[zV]at hi
  simpa using h i b x hi.1 hi.2
theorem yff(n:Nat)(bs:Nat->Bounds)(c:Conf):yvj n bs c=true↔ybmh n bs c:=by
 unfold yvj ybmh;rw[zS,decide_eq_true_iff,zX];refine and_congr_right fun _=>⟨fun h v s hs=>?_,fun h p hp=>?_⟩
 .refine(yxa _ _).1 (h (s,v) ?_);rw[zU];exact hs
 .rw[zU]at hp;exact(yxa _ _).2 (h p.2 p.1 hp)
theorem ytw{n:Nat}{bs:Nat->Bounds}{c:Conf}(h:¬ybmh n bs c):yvj n bs c=false:=by
 cases hb:yvj n bs c with
 |false=>rfl
 |true=>exact absurd ((yff n bs c).1 hb) h
theorem ybnl{n:Nat}{bs:Nat->Bounds}{c:Conf}(h:ybmh n bs c):yvj n bs c=true:=(yff n bs c).2 h
def yddq(g:Gr)(v:Nat):Nat:=(g.ports.getD v []).length
def yek(g:Gr)(G:List Int)(v:Nat):Bounds:=G.map (fun h=>if h = -1 then(-1,(yddq g v:Int)-1)else(0,h))
def ybqu(g:Gr):Int:=g.ids.foldl max 0
end
section
open Go.RowKit
end
section
open Go.RowKit
end
section
open Go.RowKit
end
section
end
section
def ybbl(ids:List Int)(k:Nat):Int:=(ids.take k).tail.foldl max (ids.headD 0)
abbrev maxI(ids:List Int):Int:=ybbl ids ids.length
theorem ycey{ids:List Int}{k:Nat}(h1:1<=k)(hk:k<ids.length):(ids.take (k+1)).tail=(ids.take k).tail++[ids[k]]:=by
 rw[zT hk,List.tail_append_of_ne_nil];intro h;have:=congrArg zAT h;rw[List.length_take,zAL]at this;omega
theorem ybyw(ids:List Int):ybbl ids 1=ids.headD 0:=by cases ids<;>simp[ybbl]
theorem ybrc{ids:List Int}{k:Nat}(h1:1<=k)(hk:k<ids.length):ybbl ids (k+1)=max (ybbl ids k) ids[k]:=by
 unfold ybbl;rw[ycey h1 hk,zQ];rfl
theorem ycfa{ids:List Int}(h0:0<ids.length)(h:∀x∈ids,0<=x):maxI ids=ids.foldl max 0:=by
 cases ids with
 |nil=>simp at h0
 | cons x l =>
   have hx:max 0 x=x:=Int.max_eq_right (h x (by simp))
   simp[maxI,ybbl,hx]
def idxP(ids:List Int)(x:Int):Int:=match ids.findIdx? (fun y=>x==y)with
 |some i=>i
 |none=>-1
theorem yckf{ids:List Int}{x:Int}{k:Nat}(hk:k<ids.length)(h:x=ids[k])(hn:(ids.take k).findIdx? (fun y=>x==y)=none):idxP ids x=k:=by
 unfold idxP
 have:ids.findIdx? (fun y=>x==y)=some k:=by
  rw[List.findIdx?_eq_some_iff_getElem];refine⟨hk,by simp[h],fun j hj=>?_⟩
  rw[List.findIdx?_eq_none_iff]at hn;simp[hn ids[j] (List.mem_take_iff_getElem.2 ⟨j,by omega,rfl⟩)]
 rw[this]
theorem ycdt{ids:List Int}{x:Int}(hn:(ids.take ids.length).findIdx? (fun y=>x==y)=none):idxP ids x = -1:=by
 rw[zAH]at hn;unfold idxP;rw[hn]
theorem ycgx{ids:List Int}{x:Int}{k:Nat}(hk:k<ids.length)(h:x≠ids[k])(hn:(ids.take k).findIdx? (fun y=>x==y)=none):(ids.take (k+1)).findIdx? (fun y=>x==y)=none:=by
 rw[zT hk,List.findIdx?_append,hn];simp[h]
end
section
namespace Sh
open Go Ev
def ybc(l:List Int):SV:=.sl 1 l.length (fun k=>[.i .i64 (l.getD k 0)])
def yw(ls:List (Int×Int)):SV:=.sl 2 ls.length (fun j=>[.i .i64 (ls.getD j (0,0)).1,.i .i64 (ls.getD j (0,0)).2])
def yu(ps:List (List (Int×Int))):SV:=.sl 1 ps.length (fun v=>[yw (ps.getD v [])])
def ycn(c:List (List Int)):SV:=.sl 1 c.length (fun v=>[ybc (c.getD v [])])
def grV(g:Gr):SV:=.ag [ybc g.ids,yu g.ports]
theorem ik{n:Int}(h1:-1000000000000<=n)(h2:n<=1000000000000):inK .i64 n:=by
 unfold inK;simp[IntKind.min,IntKind.max,IntKind.bits,IntKind.signed];omega
theorem ikw{n:Int}(h1:-4611686018427387904<=n)(h2:n<=4611686018427387904):inK .i64 n:=by
 unfold inK;simp[IntKind.min,IntKind.max,IntKind.bits,IntKind.signed];omega
theorem getD_at{α:Type}{l:List α}{k:Nat}{d:α}(h:k<l.length):l.getD k d=l[k]:=by simp[zK,h]
theorem yzt{l:List Int}{i k:Nat}{x:Int}(h:i<l.length):(l.set i x).getD k 0=if k=i then x else l.getD k 0:=by
 simp only[zK,zG]
 by_cases q:i=k
 .subst q;simp[h]
 .rw[if_neg q,if_neg (Ne.symm q)]
theorem ybvi(l:List Int)(x:Int)(hl:l.length<=100000):Returns zB 143 [ybc l,.i .i64 x] (.i .i64 (idxP l x)):=by
 refine Returns.of (ydhx _ _ ?_);simp only[c143,ycoj,ycmu,ybc,go_sem,zL,↓reduceIte,reduceCtorEq];refine ybd (σ:=Nat) (fun k=>⟨[(8,.i .i64 k),(0,ybc l),(1,.i .i64 x),(7,.i .i64 l.length)],[]⟩) (fun k=>k<=l.length/\(l.take k).findIdx? (fun y=>x==y)=none) (fun k=>l.length-k) 0 ⟨zAE _,by simp⟩ ?_ ?_
 .refine yh [] [] [] ?_;simp only[ybc,allQ,live,yc,zAK,go_sem,zD,↓reduceIte,reduceCtorEq]
 .intro k ⟨hk,hno⟩;simp only[ycsd,yczv,ycmo,ycsm,ycur,ycpy,ybc,yx,go_sem,zD,zL,↓reduceIte,reduceCtorEq];refine⟨fun h=>⟨by omega,fun he=>?_,fun he=>⟨ik (by omega) (by omega),?_⟩⟩,fun h=>?_⟩
  .have hlt:k<l.length:=by omega
   rw[yckf hlt (by rw[he,getD_at hlt]) hno]
  .have hlt:k<l.length:=by omega
   refine yj (k+1) ⟨by omega,ycgx hlt (by rw[<-getD_at (d:=0) hlt];exact he) hno⟩ (by omega) ?_
   refine yh [] [] [] ?_;simp only[allQ,live,yc,yx,go_sem,zD,↓reduceIte,reduceCtorEq];simp
  .obtain rfl:k=l.length:=by omega
   rw[ycdt hno]
theorem ydde(l:List Int)(h0:0<l.length)(hl:l.length<=100000):Returns zB 54 [ybc l] (.i .i64 (maxI l)):=by
 refine Returns.of (ydss _ _ ?_);simp only[c54,ydqu,ydpg,ydmd,ydqh,ydwh,ybc,go_sem,Int.reduceToNat,zD,zL,↓reduceIte,reduceCtorEq];refine⟨fun h=>by omega,fun _=>⟨by omega,?_⟩⟩
 refine ybd (σ:=Nat) (fun k=>⟨[(4,.i .i64 k),(3,.i .i64 (ybbl l k)),(0,ybc l)],[]⟩) (fun k=>1<=k/\k<=l.length) (fun k=>l.length-k) 1 ⟨by omega,by omega⟩ ?_ ?_
 .refine yh [] [] [] ?_;simp only[ybc,ybyw,allQ,live,yc,yx,go_sem,zD,↓reduceIte,reduceCtorEq];cases l<;>simp at h0 ⊢
 .intro k ⟨hk1,hk⟩;simp only[ydxf,ydry,ydkn,ydvl,ybc,yx,go_sem,zD,zL,↓reduceIte,reduceCtorEq];refine⟨fun h=>⟨by omega,ik (by omega) (by omega),?_⟩,fun h=>?_⟩
  .refine yj (k+1) ⟨by omega,by omega⟩ (by omega) ?_
   refine yh [] [] [] ?_;have hlt:k<l.length:=by omega
   simp only[ybrc hk1 hlt,getD_at hlt,allQ,live,yc,yx,go_sem,zD,↓reduceIte,reduceCtorEq];simp
  .obtain rfl:k=l.length:=by omega
   rfl
theorem ybcu(l:List Int)(hl:l.length<=100000):Returns zB 141 [ybc l] (.i .i64 (ycq l)):=by
 refine Returns.of (ydfk _ _ ?_);simp only[c141,ycuj,ycne,ycwp,ybc,go_sem,zL,↓reduceIte,reduceCtorEq];refine ybd (σ:=Nat) (fun k=>⟨[(8,.i .i64 k),(3,.i .i64 (ycq (l.take k))),(6,ybc l),(7,.i .i64 l.length)],[]⟩) (fun k=>k<=l.length) (fun k=>l.length-k) 0 (zAE _) ?_ ?_
 .refine yh [] [] [] ?_;simp only[ybc,allQ,live,yc,yx,zAK,go_sem,zD,↓reduceIte,reduceCtorEq];simp[ycq]
 .intro k hk;simp only[yctw,yczi,ycwv,ycxw,ycwk,ybc,yx,go_sem,zD,zL,↓reduceIte,reduceCtorEq];refine⟨fun h=>⟨by omega,ik (by omega) (by omega),?_⟩,fun h=>?_⟩
  .refine yj (k+1) (by omega) (by omega) ?_
   refine yh [] [] [] ?_;have hlt:k<l.length:=by omega
   simp only[yuy l k hlt,getD_at hlt,allQ,live,yc,yx,go_sem,zD,↓reduceIte,reduceCtorEq];simp
  .obtain rfl:k=l.length:=by omega
   simp
end Sh
end
section
namespace Sh
open Go Ev Go.RowKit
def GrI(g:Gr):Prop:=(∀x∈g.ids,I64 x)/\∀ls∈g.ports,∀l∈ls,I64 l.1/\I64 l.2
def ybyc(c:List (List Int)):Prop:=∀s∈c,∀x∈s,I64 x
section
variable {G:AM}{m:Mem}{φ:Phi}{M:AM}{w:World}{u u':Value}
theorem yclh {α:Type}{z n:Nat}{gg:Nat->List SV}{xs:List α}{E:Elem α}(hG:Le G m.b.get) (hr:RV G om0 (.sl z n gg) u) (hv:VR φ u u') (hR:Rel φ M w) (hs:Sub m M) (hn:xs.length=n)
 (hE:∀k x b o L L',xs[k]?=some x->RVL G om0 (gg k) L->VRL φ L L'->(∀j v,L'[j]?=some v->w.cell? ⟨b,o+j,none⟩=some v)->E w b o x):SlAt z E w u' xs:=by
 rcases hr.sl_inv with⟨rfl,h0⟩|⟨bk,p,cp,T,N,e,zz,L,rfl,g1,g2,g3,g4,g5,g6,g7⟩
 .have:xs=[]:=List.eq_nil_of_length_eq_zero hn;subst this;rcases h0 with rfl|⟨b,o,c,rfl⟩
  .have e:=hv.eq_simple rfl;subst e;exact SlAt.nil w
  .obtain⟨lc,A,c',k1,k2,k3,k4,k5,k6,k7⟩:=hv.slice_inv;subst k3;exact⟨some A,c',rfl,zAE _,k6,fun q=>absurd q (by simp)⟩
 .obtain⟨lc,A,c',k1,k2,k3,k4,k5,k6,k7⟩:=hv.slice_inv;subst k3;subst hn;refine⟨some A,c',rfl,k4,k6,fun hpos=>?_⟩;rcases k7 with⟨rfl,_⟩|k7
  .obtain⟨lc',h1,h2⟩:=hR.blk _ _ (hs _ _ (hG _ _ g1));have k1':φ bk=some lc:=k1;rw[k1']at h1;cases h1
   obtain⟨h3,h4,cs,e2,fz2,h0,h5,h6,h7⟩:=h2;refine⟨lc.blk,lc.base+p,rfl,(Array.getElem?_eq_some_iff.1 h5).1,fun k x hx=>?_⟩;have hk:k<xs.length:=(List.getElem?_eq_some_iff.1 hx).1;have hin:=yjz (z:=z) hk;have hcells:∀j v,j<z->(L k)[j]?=some v->∃v',cs[lc.base+(p+k*z+j)]?=some v'/\VR φ v v':=fun j v hj hv=>h7 _ v (by omega) (by rw[g5 k hk j hj];exact hv)
   have hex:∀(l:List Value) (q:Nat),(∀j v,l[j]?=some v->∃v',cs[q+j]?=some v'/\VR φ v v')->∃l',VRL φ l l'/\∀j v,l'[j]?=some v->cs[q+j]?=some v:=by
    intro l
    induction l with
    |nil=>intro q _;exact⟨[],.nil,fun j v h=>by simp at h⟩
    | cons a l ih =>
      intro q h;obtain⟨v',e1,e2⟩:=h 0 a rfl;obtain⟨l',e3,e4⟩:=ih (q+1) (fun j v hv=>by have:=h (j+1) v (by simpa using hv);rw[show q+1+j=q+(j+1)by omega];exact this)
      refine⟨v'::l',.cons e2 e3,fun j v hv=>?_⟩;cases j with
      |zero=>simp at hv;subst hv;exact e1
      |succ j=>have:=e4 j v (by simpa using hv);rw[show q+(j+1)=q+1+j by omega];exact this
   obtain⟨L',r1,r2⟩:=hex (L k) (lc.base+p+k*z) (fun j v hv=>by
    have hj:j<z:=by rw[<-g4 k hk];exact(List.getElem?_eq_some_iff.1 hv).1
    have:=hcells j v hj hv;rw[show lc.base+p+k*z+j=lc.base+(p+k*z+j)by omega]
    exact this)
   exact hE k x _ _ (L k) L' hx (g6 k hk) r1 fun j v hv=>cell_of h5 (by have:=r2 j v hv;exact this)
  .omega
theorem ints_at{l:List Int}(hG:Le G m.b.get)(hr:RV G om0 (ybc l) u)(hv:VR φ u u')(hR:Rel φ M w)(hs:Sub m M)(hI:∀x∈l,I64 x):ymz w u' l:=by
 refine yclh hG hr hv hR hs rfl fun k x b o L L' hx hL hL' hc=>?_;have hk:k<l.length:=(List.getElem?_eq_some_iff.1 hx).1;have hxe:l.getD k 0=x:=by simp[zK,hx]
 rw[hxe]at hL;cases hL with
 | cons a b =>
   cases b
   cases a.int_inv
   obtain⟨v',rfl,hvv⟩:=yfq hL';have:=hvv.eq_simple rfl;subst this;exact⟨hc 0 _ rfl,hI x (zH hx)⟩
theorem ycjm{ls:List (Int×Int)}(hG:Le G m.b.get)(hr:RV G om0 (yw ls) u)(hv:VR φ u u')(hR:Rel φ M w)(hs:Sub m M)(hI:∀l∈ls,I64 l.1/\I64 l.2):ybsx w u' ls:=by
 refine yclh hG hr hv hR hs rfl fun k x b o L L' hx hL hL' hc=>?_;have hxe:ls.getD k (0,0)=x:=by simp[zK,hx]
 rw[hxe]at hL;cases hL with
 | cons a b =>
   cases b with
   | cons a2 b2 =>
     cases b2
     cases a.int_inv
     cases a2.int_inv
     obtain⟨v1,v2,rfl,h1,h2⟩:=ybaj hL';have:=h1.eq_simple rfl;subst this;have:=h2.eq_simple rfl;subst this;exact⟨hc 0 _ rfl,hc 1 _ rfl,hI x (zH hx)⟩
theorem ycil{ps:List (List (Int×Int))}(hG:Le G m.b.get)(hr:RV G om0 (yu ps) u)(hv:VR φ u u')(hR:Rel φ M w)(hs:Sub m M)(hI:∀ls∈ps,∀l∈ls,I64 l.1/\I64 l.2):yzc w u' ps:=by
 refine yclh hG hr hv hR hs rfl fun k x b o L L' hx hL hL' hc=>?_;have hxe:ps.getD k []=x:=by simp[zK,hx]
 rw[hxe]at hL;cases hL with
 | cons a b =>
   cases b
   obtain⟨v',rfl,hvv⟩:=yfq hL';exact⟨v',hc 0 _ rfl,ycjm hG a hvv hR hs (hI x (zH hx))⟩
theorem ydfc{c:List (List Int)}(hG:Le G m.b.get)(hr:RV G om0 (ycn c) u)(hv:VR φ u u')(hR:Rel φ M w)(hs:Sub m M)(hI:ybyc c):yczw w u' c:=by
 refine yclh hG hr hv hR hs rfl fun k x b o L L' hx hL hL' hc=>?_;have hxe:c.getD k []=x:=by simp[zK,hx]
 rw[hxe]at hL;cases hL with
 | cons a b =>
   cases b
   obtain⟨v',rfl,hvv⟩:=yfq hL';exact⟨v',hc 0 _ rfl,ints_at hG a hvv hR hs (hI x (zH hx))⟩
theorem ydct{g:Gr}(hG:Le G m.b.get)(hr:RV G om0 (grV g) u)(hv:VR φ u u')(hR:Rel φ M w)(hs:Sub m M)(hI:GrI g):GrAt w u' g:=by
 obtain⟨L,rfl,hL⟩:=hr.ag_inv;cases hL with
 | cons a b =>
   cases b with
   | cons a2 b2 =>
     cases b2
     obtain⟨L',rfl,hL'⟩:=hv.agg_inv;obtain⟨v1,v2,rfl,h1,h2⟩:=ybaj hL';exact⟨v1,v2,rfl,ints_at hG a h1 hR hs hI.1,ycil hG a2 h2 hR hs hI.2⟩
end
theorem ybjw {g:FuncId}{args:List SV}{r:SV}{v:Value}(hg:∃fn c,Tryz.prog.funcs[g]?=some fn/\fn.body=some c) (hrv:∀F,RV F om0 r v) (hvr:∀φ,VR φ v v)
 (h:∀(G:AM) (m:Mem) (us:List Value),Le G m.b.get->RVL G om0 args us->∀φ M w us',Rel φ M w->Sub m M->VRL φ us us'->Calls zB g us'.toArray w fun e w'=>e = .returned v/\Below w.heap.size w w'):Returns zB g args r:=by
 intro G m us hw hle hr;refine⟨v,enterM m,r,ymc yrs hg fun φ M w us' hR hs hv=>(h G m us hle hr φ M w us' hR hs hv).mono ?_,zJ _,Le.refl _,rfl,hrv _⟩;rintro e w' ⟨rfl,hb⟩;exact⟨v,rfl,hvr φ,hb⟩
theorem rvl1{F:AM}{ω:Om}{a:SV}{us:List Value}(h:RVL F ω [a] us):∃u,us=[u]/\RV F ω a u:=by
 cases h with|cons x y=>cases y;exact⟨_,rfl,x⟩
theorem rvl2{F:AM}{ω:Om}{a b:SV}{us:List Value}(h:RVL F ω [a,b] us):∃u v,us=[u,v]/\RV F ω a u/\RV F ω b v:=by
 cases h with|cons x y=>obtain⟨v,rfl,q⟩:=rvl1 y;exact⟨_,v,rfl,x,q⟩
end Sh
end
section
open Go.RowKit
theorem ybvj(n k:Nat)(hk:k<n):(zF k (-1:Int)++zF (n-k) 0).set k (-1)=zF (k+1) (-1)++zF (n-(k+1)) 0:=by
 apply zAG
 .simp;omega
 .intro i h1 h2;rw[List.getElem_set];split
  .subst_vars
   rw[zM (by simp)]
   simp
  .by_cases hi:i<k
   .rw[zM (by simpa using hi),zM (by simp;omega)];simp
   .rw[zW (by simp;omega),zW (by simp;omega)];simp
theorem yoq(g:Gr)(a:Nat)(h:g.ports.length<=24):1+yct (start g a)<=30:=by
 have h1:=List.countP_le_length (p:=fun x:Int=>decide (x<0)) (l:=start g a);have h2:(start g a).length=g.ports.length:=by simp[start]
 unfold yct;omega
set_option maxHeartbeats 2000000 in
theorem ybqk(gv:Value)(g:Gr)(a:Nat)(w:World)(hg:GrAt w gv g)(hgood:ybj g)(ha:a<g.ports.length) :
 Calls zB 142 #[gv,.int .i64 a] w (ydhr (yca g a) w):=by
 have hn24:=hgood.2.1;have Hgood:=zC hgood
 clear hgood
 obtain⟨i,p,rfl,hi,hp⟩:=hg;obtain⟨A2,c2,rfl,hB1,hB2⟩:=ybx hp;have Hp:=zC hp
 clear hi hp
 have hmk:=ybee g.ports.length (by omega)
 go_enter zAQ,Tryz.ntmps142
 go_wp2
 go_loopg [17] g.ports.length (fun q t wr=>∃k:Nat,q+k=g.ports.length/\t = .int .i64 k/\Hid (Below (w.heap.size+1) (w.alloc (.cells #[i,.slice A2 g.ports.length c2] 27)) wr)/\Hid (IBlk wr (w.heap.size+1) (zF k (-1)++zF (g.ports.length-k) 0)))
 case atStart =>
  refine⟨0,by omega,rfl,zC ((Below.refl _ _).alloc (by simp) _),zC ?_⟩
  have:=IBlk.new (w.alloc (.cells #[i,.slice A2 g.ports.length c2] 27)) (zF g.ports.length (0:Int))
  simpa using this
 case round =>
  obtain⟨k,hq,rfl,hbel,hblk⟩:=hrel
  by_cases hlt:k<g.ports.length
  .obtain⟨x,hx⟩:∃x,wr.cell? ⟨w.heap.size+1,k,none⟩=some (.int .i64 x):=⟨_,hblk.out.cell (by simp;omega)⟩
   have hf:=hblk.out.frozen k
   go_wp2
   go_roundg (gk-1)
   case measure=>omega
   case rel =>
    refine⟨k+1,by omega,by go_num,zC (hbel.out.setCell (by simp) _),zC ?_⟩
    have:=hblk.out.set_ k (-1)
    rwa [ybvj _ _ hlt]at this
  .obtain rfl:k=g.ports.length:=by omega
   have hblk0:IBlk wr (w.heap.size+1) (zF g.ports.length (-1)):=by simpa using hblk.out
   obtain⟨x,hx⟩:∃x,wr.cell? ⟨w.heap.size+1,a,none⟩=some (.int .i64 x):=⟨_,hblk0.cell (by simpa using ha)⟩
   have hf:=hblk0.frozen a;have Hb0:=zC hblk0
   clear hblk0 hblk hmk
   go_wp2
   go_loopg [7] (1+yct (start g a)) (fun q t wr=>∃R Q,q=Q.length+yct R/\q<=30/\Hid (Below (w.heap.size+1) (w.alloc (.cells #[i,.slice A2 g.ports.length c2] 27)) wr)/\Hid (IBlk wr (w.heap.size+1) R)/\Hid (BfsInv g a R Q)/\Hid (Owns wr (w.heap.size+2) 3 1 t Q.length (Q.map (fun q:Nat=>Value.int .i64 (q:Int)))))
   case atStart =>
    refine⟨start g a,[a],rfl,yoq g a hn24,zC ((hbel.out.setCell (by simp) _).alloc (by have:=hbel.out.size;simp at this ⊢;omega) _),zC ((Hb0.out.set_ a 0).alloc _),zC (BfsInv.start ha),zC ?_⟩
    refine⟨rfl,.inr ⟨_,0,1,#[.int .i64 (a:Int)],rfl,?_,?_,zJ _,by simp[maxLen],by simp,?_⟩⟩
    .have:=Hb0.out.lt;simp;omega
    .have:=heap_alloc_new (wr.setCell ⟨w.heap.size+1,a,none⟩ (.int .i64 0)) (.cells #[.int .i64 (a:Int)] 3);simpa using this
    .intro j u hu
     simpa using hu
   case round =>
    clear hbel Hb0 hx hf
    obtain⟨R,Q,hq,hq30,hbel,hblk,hinv,hown⟩:=hrel;obtain⟨AQ,cQ,rfl⟩:=hown.out.val;cases Q with
    | nil =>
      have Hd:=zC (hinv.out.isDist.unique (yfa Hgood.out ha))
      go_wp2
      go_ret
      have h:=hblk.out.ints (fun x hx=>by have:=hinv.out.isDist.bound Hgood.out ha x hx;unfold I64;omega) (by rw[hinv.out.len];omega)
      rw[hinv.out.len,Hd.out]at h;exact⟨_,rfl,h,(box2 hbel.out).2.2.1⟩
    | cons v Q =>
      obtain⟨gQ,oQ,cap,hv,hg1,hg2,hg3,hg4,hcell⟩:=hown.out.form (by simp)
      cases hv
      have hc0:=hcell 0 (.int .i64 (v:Int)) rfl;simp only[zAP]at hc0;have Hcell:=zC hcell;obtain⟨d,hd⟩:=hinv.out.qin v (by simp)
      have hvl:v<g.ports.length:=by rw[<-hinv.out.len];exact(List.getElem?_eq_some_iff.1 hd).1
      obtain⟨q0,q1,hbw,hsz⟩:=box2 hbel.out;obtain⟨b2,off2,lv,rfl,hb2,hclw,hls⟩:=ynd Hp.out (zA hvl);have hcl:=ykr hbw _ _ hclw
      clear hclw
      obtain⟨A3,c3,rfl,hl1,hl2⟩:=ybx hls;obtain⟨ls,hle⟩:∃ls,g.ports[v]=ls:=⟨_,rfl⟩;have Hlp:=zC (show g.ports[v]?=some ls by rw[zA hvl,hle])
      rw[hle]at hls hcl hl1;have Hls:=zC hls;have Hin:=zC (hinv.out.pop hd ls);have Hbw:=zC hbw
      clear hle hls hbw hcell hinv hd
      simp only[zAF]at hq hg3 hown hc0;obtain⟨i0,hi0,hz0,hz1,hz2⟩:=info_parts yblh;obtain⟨vQ,hsl,hoQ,hobQ⟩:=ycin (P:=zB) zAD hi0 hz1 hown.out (k:=1) (by simp) (by simp)
      simp only[Nat.add_sub_cancel,Nat.mul_one,zAO,zZ,zAN]at hoQ;have hsl':∀W,(Instr.slice 22 (.slice (some ⟨gQ,oQ,none⟩) (Q.length+1) cQ) (some (.int .i64 1)) none none).run zB W = .ok vQ W:=fun W=>by simpa using hsl W
      have HoQ:=zC hoQ;have Hi0:=zC (show _/\_/\_/\_ from⟨hi0,hz0,hz1,hz2⟩)
      clear hoQ hown hsl hobQ hi0 hz0 hz1 hz2
      unfold maxLen at hg4
      go_wp2
      clear hsl'
      obtain⟨go,rfl⟩:∃go,go=gk:=⟨_,rfl⟩
      go_loopg [43,7] ls.length (fun q t tq wr=>∃(k:Nat) (R:List Int) (Q:List Nat),q+k=ls.length/\t = .int .i64 k/\Hid (go=Q.length+1+yct R)/\Hid (Below (w.heap.size+1) (w.alloc (.cells #[i,.slice (some ⟨b2,off2,none⟩) g.ports.length c2] 27)) wr)/\Hid (IBlk wr (w.heap.size+1) R)/\Hid (BfsIn g a v d ls k R Q)/\Hid (Owns wr (w.heap.size+2) 3 1 tq Q.length (Q.map (fun q:Nat=>Value.int .i64 (q:Int)))))
      case atStart=>exact⟨0,R,Q,by omega,rfl,zC (by omega),hbel,hblk,Hin,HoQ⟩
      case round =>
       clear hbel hblk Hin HoQ hq hcl q0 q1 Hbw hsz
       obtain⟨k,R,Q,hq,rfl,Hgk,hbel,hblk,Hin,HoQ⟩:=hrel
       by_cases hlt:k<ls.length
       .obtain⟨q0,q1,hbw,hsz⟩:=box2 hbel.out;have Hbw:=zC hbw;obtain⟨A4,c4,e4,_,_,hE⟩:=Hls.out.below Stable.link hbw;cases e4
        obtain⟨b3,off3,rfl,hb3,hE⟩:=hE (by omega)
        obtain⟨⟨l1,wt⟩,hle⟩:∃l,ls[k]=l:=⟨_,rfl⟩;have hl?:ls[k]?=some (l1,wt):=by rw[zA hlt,hle]
        obtain⟨hx1,hx2,⟨hr1,hr2⟩,⟨hr3,hr4⟩⟩:=hE k _ hl?;obtain⟨k1,k2,k3,k4,k5⟩:=Hgood.out.link Hlp.out (zH hl?);simp only at k1 k2 k3 k4 k5 hx1 hx2 hr1 hr2 hr3 hr4;obtain⟨u,rfl⟩:=zY k1;have hul:u<R.length:=by rw[Hin.out.len];omega
        have hvR:v<R.length:=by rw[Hin.out.len];omega
        have hRv:R[v]?=some (d:Int):=Hin.out.rv;have hcv:=hblk.out.cell hvR;rw[show R[v]=(d:Int)by have:=zA hvR;rw[hRv]at this;exact(Option.some.inj this).symm]at hcv
        have hcu:=hblk.out.cell hul;have hfu:=hblk.out.frozen u
        have hd24:d<g.ports.length:=by
         rcases Hin.out.val v _ hRv with e|⟨k',e,h1,h2⟩
         .omega
         .obtain rfl:d=k':=by omega
          exact yuf Hgood.out ha h1 h2
        have hle1:ls[k].1=(u:Int):=by rw[hle]
        have hRu:R[u]?=some R[u]:=zA hul;have hB:w.heap.size+1<wr.heap.size:=hblk.out.lt
        clear hE hl? hle hbw k1 k3 hRv
        by_cases hneg:R[u]<0
        .have hRm:R[u]?=some (-1):=by
          rcases Hin.out.val u _ hRu with e|⟨k',e,_⟩
          .exact hRu.trans (congrArg some e)
          .exact absurd e (by omega)
         have Hd:=zC (Hin.out.discover Hlp.out hlt hle1 hRm);have Hun:=zC (ytn (R:=R) (u:=u) (x:=(d:Int)+1) hRm (by omega))
         clear hRu hRm hle1
         go_wp2
         go_region
         go_wp2_with (at_builtin;refine ynm _ rfl _ _ 22 rfl (w.heap.size+2) 3 i0 (.int .i64 0) 1 8 zAD Hi0.out.1 Hi0.out.2.1 Hi0.out.2.2.1 Hi0.out.2.2.2 rfl (by decide) u7 Q.length (Q.map (fun q:Nat=>Value.int .i64 (q:Int))) (by rfl) ?hown _ 1 1 [.int .i64 (u:Int)] (by rfl) rfl ?c1 ?c2 ?c3 ?c4 ?c5 ?_)
         case hown=>exact(((HoQ.out.low (p:=⟨w.heap.size+1,u,none⟩) (by simp) _).alloc _).alloc _).drew
         case c1=>exact ychp (by simp)
         case c2=>simp[Value.oneCell']
         case c3=>have:=Hgk.out;simp only[maxLen];omega
         case c4=>have:=Hgk.out;omega
         case c5=>simp;omega
         intro vQ' w' hown' hgr hob;have hgo:=Hgk.out;have Hown:=zC hown';have Hgr:=zC hgr
         clear hown' hgr hob
         go_wp2
         go_roundg (gk-1)
         case measure=>omega
         case rel =>
          have hb1:=(((hbel.out.setCell (p:=⟨w.heap.size+1,u,none⟩) (by simp) (.int .i64 ((d:Int)+1))).alloc (by simp;omega) (.cells #[.int .i64 (u:Int),.int .i64 wt] 68)).alloc (by simp;omega) (.cells #[.int .i64 (u:Int)] 3)).drew
          have hk1:=((((hblk.out.set_ u ((d:Int)+1)).alloc (.cells #[.int .i64 (u:Int),.int .i64 wt] 68)).alloc (.cells #[.int .i64 (u:Int)] 3)).drew);refine⟨k+1,R.set u ((d:Int)+1),Q++[u],by omega,by go_num,zC ?_,zC (hb1.grown Hgr.out (by simp;omega) (fun x hx=>?_)),zC (hk1.grown Hgr.out (fun e=>?_)),Hd,zC ?_⟩
          .have:=Hun.out;simp;omega
          .have:=(HoQ.out.lt hx).1;omega
          .have:=(HoQ.out.lt e.symm).1;omega
          .have:=Hown.out
           simpa using this
        .have hpos:0<=R[u]:=by omega
         obtain⟨j,hj⟩:=zY hpos;have Hsk:=zC (Hin.out.skip hlt (j:=j) (by rw[hle1,zI,hRu,hj]))
         clear hRu hle1 hj
         go_wp2
         have hgo:=Hgk.out
         go_roundg (gk-1)
         case measure=>omega
         case rel=>exact⟨k+1,R,Q,by omega,by go_num,Hgk,zC (hbel.out.alloc (by omega) _),zC (hblk.out.alloc _),Hsk,zC (HoQ.out.alloc _)⟩
       .obtain rfl:k=ls.length:=by omega
        go_wp2
        have hgo:=Hgk.out
        go_roundg (Q.length+yct R)
        case measure=>omega
        case rel=>exact⟨R,Q,rfl,by omega,hbel,hblk,zC (Hin.out.finish Hlp.out),HoQ⟩
end
end Go.Proofs.YthclbjjgfcgbgaaGreatDoor
