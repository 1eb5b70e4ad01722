/- Joined. -/
import Derived.Test.YtiejahgklcjhkaaGreatPkY7
import Derived.Test.YtiejahgklcjhkaaGreatPkY8
set_option linter.unusedSimpArgs false
set_option linter.unusedVariables false
set_option maxRecDepth 8000
open Go.Proofs.Tryz renaming prog→zA,func64→zT,ntmps64→zAA,zeroCells159→zAC
open List renaming getElem?_eq_getElem→zB,mem_of_getElem?→zF,getD→zH,getD_eq_getElem?_getD→zJ,getElem?_set→zK,range→zL,getElem?_replicate→zM,foldl_append→zO,take_succ_eq_append_getElem→zQ,mem_zipIdx_iff_getElem?→zS,mem_cons_self→zU,getElem?_zip_eq_some→zW,take_length→zX,all_eq_true→zY,getElem_mem→zZ,mem_cons_of_mem→zAB,length_nil→zAD,range_succ→zAE,replicate→zAF,length→zAH
open Nat renaming le_refl→zC,reduceEqDiff→zI,reduceAdd→zV,lt_or_ge→zAG,zero_le→zAI
open Go.Lib renaming hid→zD
open Bool renaming and_eq_true→zG
open Int renaming toNat_natCast→zN
open Go
namespace Go.Proofs.YtiejahgklcjhkaaGreat
section
namespace Sh
open Go Ev
theorem ycqd {g:FuncId}{fn:Func}{sc:SC}{rs:List SR}(hg:Tryz.prog.funcs[g]?=some fn) (hcmp:fn.body.bind (cmp zA fn.ntmps)=some sc) (hrs:cmpR zA fn.results.toList=some rs)
 {mu:List FuncId}{args:List SV}{Q:SV->Prop}(h:vc ⟨Ct zA,Cm zA,ItC zA,[],mu⟩ sc (retK rs Q) ⟨slots args 0,[]⟩):Ct zA g args Q:=by
 obtain⟨c,h1,h2⟩:=bind_some hcmp;exact ybtx mix ypc hg h1 h2 hrs h
theorem ycsg {g:FuncId}{fn:Func}{sc:SC}{rs:List SR}(hg:Tryz.prog.funcs[g]?=some fn) (hcmp:fn.body.bind (cmp zA fn.ntmps)=some sc) (hrs:cmpR zA fn.results.toList=some rs)
 {pr:List Nm}{mu:List FuncId}{o:Own}{args:List SV}{Q:SV->Own->Prop}(h:vc ⟨Ct zA,Cm zA,ItC zA,pr,mu⟩ sc (retM rs pr Q) ⟨slots args 0,o⟩):Cm zA g pr o args Q:=by
 obtain⟨c,h1,h2⟩:=bind_some hcmp;exact ybis mix ypc hg h1 h2 hrs h
def Fn(g:FuncId)(c:SC)(rs:List SR):Prop:=∀(args:List SV) (Q:SV->Prop),vc ⟨Ct zA,Cm zA,ItC zA,[],[]⟩ c (retK rs Q) ⟨slots args 0,[]⟩->Ct zA g args Q
def FnU(g:FuncId)(c:SC)(rs:List SR):Prop:=∀(mu:List FuncId) (args:List SV) (Q:SV->Prop),vc ⟨Ct zA,Cm zA,ItC zA,[],mu⟩ c (retK rs Q) ⟨slots args 0,[]⟩->Ct zA g args Q
def FnM(g:FuncId)(c:SC)(rs:List SR):Prop:=∀(pr:List Nm) (mu:List FuncId) (o:Own) (args:List SV) (Q:SV->Own->Prop),vc ⟨Ct zA,Cm zA,ItC zA,pr,mu⟩ c (retM rs pr Q) ⟨slots args 0,o⟩->Cm zA g pr o args Q
section
variable {g:FuncId}{fn:Func}{sc:SC}{rs:List SR}(hg:Tryz.prog.funcs[g]?=some fn) (hcmp:fn.body.bind (cmp zA fn.ntmps)=some sc) (hrs:cmpR zA fn.results.toList=some rs)
include hg hcmp hrs
theorem fn_0:Fn g sc rs:=fun _ _ h=>ycqd hg hcmp hrs h
theorem fn_u:FnU g sc rs:=fun _ _ _ h=>ycqd hg hcmp hrs h
theorem fn_m:FnM g sc rs:=fun _ _ _ _ _ h=>ycsg hg hcmp hrs h
end
def o3(x:SOp)(d a:Nat):SOper:=⟨x,some d,none,a⟩
def o0(x:SOp)(a:Nat):SOper:=⟨x,none,none,a⟩
abbrev LO:=List SOper
def mv'(x d a:Nat):SOper:=⟨.mv (.tmp x),some d,none,a⟩
def bn'(op:BinOp)(x y d a:Nat):SOper:=⟨.bin op (.tmp x) (.tmp y),some d,none,a⟩
def ld'(ag:Bool)(n x d a:Nat):SOper:=⟨.load ag n (.tmp x),some d,none,a⟩
def fa'(o n x d a:Nat):SOper:=⟨.faddr o n (.tmp x),some d,none,a⟩
def ix'(z x k d a:Nat):SOper:=⟨.idx z (.tmp x) (.tmp k),some d,none,a⟩
def ln'(x d a:Nat):SOper:=⟨.len (.tmp x),some d,none,a⟩
def xt'(x k d a:Nat):SOper:=⟨.extract (.tmp x) k,some d,none,a⟩
def cl'(g:FuncId)(xs:List Nat)(d a:Nat):SOper:=⟨.call (.func g) (xs.map .tmp),some d,none,a⟩
def ci'(n:Int):Operand:=.const (.int .i64 n)
attribute [go_sem] o3 o0 mv' bn' ld' fa' ix' ln' xt' cl' ci'
attribute [go_sem] ycty yceq ybtl ybpt ycud ycjv ycko ycje ybsg ycji ybqs yvf yuq ybeb yzq puts ychb
attribute [go_sem] ycqa yctz ycqu ywg ybez yboq yus ybba ybgv ybef ybhj ybbe ybrj ybak ybqo
attribute [go_sem] ymp Fam.at Prod.mk.injEq ycke ycfu ychw yciv ycfe ycev ybel oldX oldV yhy ykx ybnk ycju gb_x ycul resX ygl slots ybtu
attribute [go_sem] ybra yblq runO opO ybnk xOp SS.get SS.pget SS.gets SS.lit look lookO SS.put SS.own ycfl ycfc ycgg ybtm ybrt ybup ybtp
attribute [go_sem] ybrx ybut ybqk ybsa ybca simple ykn yqi yxo part idxX natX ymy ybfi xbin xun eqL splice fill OB.set ofV fits ycjg ybcr
attribute [go_sem] allP SRec.no SRec.pure clash nmem List.isEmpty_nil List.isEmpty_cons List.drop List.take List.all List.any List.map zAH List.head? List.append
attribute [go_sem] List.nil_append List.append_nil List.cons_append List.all_cons List.all_nil List.drop_succ_cons List.drop_zero List.take_succ_cons List.take_zero List.drop_nil
attribute [go_sem] List.take_nil List.length_cons zAD List.map_cons List.map_nil List.getElem?_cons_zero List.getElem?_cons_succ List.elem zN Nat.zero_add
attribute [go_sem] Nat.add_zero if_true if_false ite_true ite_false Option.isNone Option.isNone_none Option.map_some Option.map_none Bool.not_true Bool.not_false Bool.true_or
attribute [go_sem] Bool.or_true Bool.false_or Bool.or_false Bool.and_true Bool.true_and Bool.and_false Bool.false_and Bool.and_self Bool.or_self true_and and_true and_self
attribute [go_sem] true_implies false_implies implies_true forall_const Nat.lt_add_one Nat.one_pos Nat.zero_lt_one Nat.lt_irrefl zC decide_true decide_false Bool.false_eq_true
attribute [go_sem] Bool.true_eq_false forall_eq BEq.rfl beq_self_eq_true decide_eq_true_eq decide_eq_false_iff_not beq_iff_eq beq_eq_false_iff_ne bne_iff_ne bne_eq_false_iff_eq
attribute [go_sem] Bool.not_eq_true Bool.not_eq_false Bool.not_eq_true' Bool.not_eq_false' ycie yceo ycka ybqg ybsp ybjx ybpz ybub ybqy
attribute [go_sem] ybqt ybpf ycjl ycnj ycjh ybqw ybru ybtn ybqq ybug ybkv ybkw ybga ybkt ybkg ybmi ybik
attribute [go_sem] ybml ycqo ycqv ycnl ycfo ycew ybsq ycjy ycjb ycfx ycgl ychn ycuk ycup yctp ycmm ycnx ychp yclk ycmg ycmq
attribute [go_sem] ycsl ycqz yclg ycsv ycsc ycfg ycib ybsr ycjm ycfi ychc yces ychi
attribute [go_sem] ytk ybap idxF yctg ypz yjp own1 ybdd Tel telL yyf ybjm ycer ycfn ycjf ybtc ybta ybtg ybti ybqm ybto
attribute [go_sem] ybqh ybpx ycug yctm ycuh ycol ycly ycos ycrn ycrp ycsh yclh ycps lv nmem rid yhz yctw ycso ybzl ycky ycjj yqw
attribute [go_sem] ybkf ycrk ycoz ycrl ycra yla ycuf ycuo ycun ycrt ycla ycgt ycni ycpc yctf ycmh ycnq List.any_cons List.any_nil Option.isSome
attribute [go_sem] ycez or_false false_or or_true true_or false_and exists_const exists_false List.not_mem_nil and_false
attribute [go_sem ↓] gb_t gb_f yctu ycui
end Sh
end
section
namespace Sh
open Go Ev
def ybwv:LO:=[o3 (.mv (ci' 0)) 4 0]
def ycef:LO:=[mv' 0 6 0,ln' 6 7 1,o3 (.mv (ci' 0)) 8 0]
def ycch:LO:=[bn' .lss 8 7 9 0]
def ycbd:LO:=[mv' 8 10 0,mv' 10 5 1]
def ybzv:LO:=[mv' 1 11 0,mv' 0 12 0,mv' 5 13 0,ix' 1 12 13 14 6,ld' false 1 14 15 14,bn' .eql 11 15 16 31]
def ycei:LO:=[mv' 5 17 0,mv' 17 4 1]
def ycdy:LO:=[o3 (.bin .add (.tmp 8) (ci' 1)) 18 0,mv' 18 8 1]
def yccj:LO:=[o3 (.mv (.const (.int .i64 (-1)))) 4 0]
def c216:SC:=(.seq (.reg false ybwv) (.seq (.seq (.reg false ycef) (.block 0 (.loop (.seq (.reg false ycch) (.seq (.cond (.tmp 9) .skip (.exit 0)) (.seq (.block 1 (.seq (.reg false ycbd) (.seq (.reg false ybzv) (.cond (.tmp 16) (.seq (.reg false ycei) .ret) .skip)))) (.reg false ycdy))))))) (.seq (.reg false yccj) .ret)))
theorem ycil:Fn 216 c216 [.t 4]:=fn_0 Tryz.func216 (by kernel_rfl) (by kernel_rfl)
def ycbx:LO:=[o3 (.mv (ci' 0)) 2 0]
def ybzw:LO:=[mv' 0 5 0,ln' 5 6 1,o3 (.bin .lss (.tmp 6) (ci' 1)) 7 3]
def ybys:LO:=[o3 (.no) 8 0,o0 (.no) 1]
def ybxg:LO:=[mv' 0 9 0,o3 (.idx 1 (.tmp 9) (ci' 0)) 10 1,ld' false 1 10 11 3,mv' 11 3 7]
def ybyx:LO:=[o3 (.mv (ci' 1)) 4 0]
def ycbn:LO:=[mv' 4 12 0,mv' 0 13 0,ln' 13 14 2,bn' .lss 12 14 15 7]
def ycal:LO:=[mv' 3 18 0,mv' 0 19 0,mv' 4 20 0,ix' 1 19 20 21 6,ld' false 1 21 22 14,o3 (.mm true (.tmp 18) (.tmp 22)) 23 31,mv' 23 3 63]
def ycee:LO:=[mv' 4 16 0,o3 (.bin .add (.tmp 16) (ci' 1)) 17 1,mv' 17 4 3]
def ycel:LO:=[mv' 3 24 0,mv' 24 2 1]
def c158:SC:=(.seq (.reg false ycbx) (.seq (.seq (.reg false ybzw) (.cond (.tmp 7) (.reg false ybys) .skip)) (.seq (.reg false ybxg) (.seq (.seq (.reg false ybyx) (.block 0 (.loop (.seq (.seq (.reg false ycbn) (.cond (.tmp 15) .skip (.exit 0))) (.seq (.block 1 (.reg false ycal)) (.reg false ycee)))))) (.seq (.reg false ycel) .ret)))))
theorem ycey:Fn 158 c158 [.t 2]:=fn_0 Tryz.func158 (by kernel_rfl) (by kernel_rfl)
def ybzu:LO:=[o3 (.mv (.const (.bool false))) 4 0]
def ybyl:LO:=[mv' 0 5 0,mv' 1 6 0,cl' 216 [5,6] 7 3,o3 (.bin .geq (.tmp 7) (ci' 0)) 8 7,mv' 8 4 15]
def c212:SC:=(.seq (.reg false ybzu) (.seq (.reg false ybyl) .ret))
theorem ycga:Fn 212 c212 [.t 4]:=fn_0 Tryz.func212 (by kernel_rfl) (by kernel_rfl)
def ycbz:LO:=[o3 (.mv (ci' 0)) 4 0]
def ybyr:LO:=[mv' 0 6 0,ln' 6 7 1,o3 (.mv (ci' 0)) 8 0]
def ycat:LO:=[bn' .lss 8 7 9 0]
def ybze:LO:=[mv' 8 10 0,mv' 10 5 1]
def ybxo:LO:=[mv' 1 11 0,mv' 0 12 0,mv' 5 13 0,ix' 1 12 13 14 6,ld' false 1 14 15 14,o3 (.call (.tmp 11) [(.tmp 15)]) 16 31]
def yccx:LO:=[mv' 5 17 0,mv' 17 4 1]
def ycbi:LO:=[o3 (.bin .add (.tmp 8) (ci' 1)) 18 0,mv' 18 8 1]
def ybzd:LO:=[o3 (.mv (.const (.int .i64 (-1)))) 4 0]
def c205:SC:=(.seq (.reg false ycbz) (.seq (.seq (.reg false ybyr) (.block 0 (.loop (.seq (.reg false ycat) (.seq (.cond (.tmp 9) .skip (.exit 0)) (.seq (.block 1 (.seq (.reg false ybze) (.seq (.reg false ybxo) (.cond (.tmp 16) (.seq (.reg false yccx) .ret) .skip)))) (.reg false ycbi))))))) (.seq (.reg false ybzd) .ret)))
theorem ycit:Fn 205 c205 [.t 4]:=fn_0 Tryz.func205 (by kernel_rfl) (by kernel_rfl)
def ybvk:LO:=[o3 (.mv (ci' 0)) 2 0]
def ybyo:LO:=[mv' 0 4 0,o3 (.bin .lss (.tmp 4) (ci' 1)) 5 1,mv' 5 6 3,⟨.mv (.tmp 0),some 7,some (6,false),7⟩,⟨.bin .gtr (.tmp 7) (ci' 43),some 8,some (6,false),15⟩,o3 (.pick (.tmp 6) (.const (.bool true)) (.tmp 8)) 9 31,mv' 9 3 63]
def ycdm:LO:=[o3 (.mv (.const (.int .i64 (-1)))) 2 0]
def ybzt:LO:=[mv' 0 11 0,o3 (.bin .leq (.tmp 11) (ci' 17)) 12 1,mv' 12 10 3]
def ybxt:LO:=[o3 (.mv (ci' 0)) 2 0]
def ybvz:LO:=[mv' 0 14 0,o3 (.bin .leq (.tmp 14) (ci' 29)) 15 1,mv' 15 13 3]
def ybxz:LO:=[o3 (.mv (ci' 1)) 2 0]
def ybxx:LO:=[mv' 0 17 0,o3 (.bin .leq (.tmp 17) (ci' 42)) 18 1,mv' 18 16 3]
def ybxa:LO:=[o3 (.mv (ci' 2)) 2 0]
def ycag:LO:=[o3 (.mv (ci' 3)) 2 0]
def c185:SC:=(.seq (.reg false ybvk) (.seq (.block 0 (.seq (.reg false ybyo) (.cond (.tmp 3) (.seq (.reg false ycdm) .ret) (.seq (.reg false ybzt) (.cond (.tmp 10) (.seq (.reg false ybxt) .ret) (.seq (.reg false ybvz) (.cond (.tmp 13) (.seq (.reg false ybxz) .ret) (.seq (.reg false ybxx) (.cond (.tmp 16) (.seq (.reg false ybxa) .ret) .skip))))))))) (.seq (.reg false ycag) .ret)))
theorem ycet:Fn 185 c185 [.t 2]:=fn_0 Tryz.func185 (by kernel_rfl) (by kernel_rfl)
def ybyd:LO:=[o3 (.mv (ci' 0)) 4 0]
def yccu:LO:=[mv' 1 7 0,o3 (.bin .lss (.tmp 7) (ci' 0)) 8 1,mv' 8 9 3,⟨.mv (.tmp 1),some 10,some (9,false),7⟩,⟨.mv (.tmp 0),some 11,some (9,false),7⟩,⟨.len (.tmp 11),some 12,some (9,false),23⟩,⟨.bin .geq (.tmp 10) (.tmp 12),some 13,some (9,false),63⟩,o3 (.pick (.tmp 9) (.const (.bool true)) (.tmp 13)) 14 127]
def yccs:LO:=[o3 (.mv (.const (.int .i64 (-1)))) 4 0]
def ybzh:LO:=[o3 (.mv (ci' 1)) 5 0]
def ybxn:LO:=[mv' 1 15 0,mv' 0 16 0,ln' 16 17 2,bn' .lss 15 17 18 7]
def ycbo:LO:=[mv' 0 21 0,mv' 1 22 0,ix' 2 21 22 23 3,fa' 0 1 23 24 7,ld' false 1 24 25 15,cl' 185 [25] 26 31,mv' 26 6 63]
def yceb:LO:=[mv' 6 27 0,o3 (.bin .lss (.tmp 27) (ci' 0)) 28 1]
def ycbr:LO:=[o3 (.mv (.const (.int .i64 (-1)))) 4 0]
def ybxy:LO:=[mv' 5 29 0,mv' 6 30 0,o3 (.bin .sub (.tmp 30) (ci' 1)) 31 2,bn' .add 29 31 32 7,mv' 32 5 15]
def ybia:LO:=[mv' 5 33 0,o3 (.bin .eql (.tmp 33) (ci' 0)) 34 1]
def ybif:LO:=[mv' 1 35 0,o3 (.bin .add (.tmp 35) (ci' 1)) 36 1,mv' 36 4 3]
def ybzp:LO:=[mv' 1 19 0,o3 (.bin .add (.tmp 19) (ci' 1)) 20 1,mv' 20 1 3]
def ybix:LO:=[o3 (.mv (.const (.int .i64 (-1)))) 4 0]
def c169:SC:=(.seq (.reg false ybyd) (.seq (.seq (.reg false yccu) (.cond (.tmp 14) (.seq (.reg false yccs) .ret) .skip)) (.seq (.seq (.reg false ybzh) (.block 0 (.loop (.seq (.seq (.reg false ybxn) (.cond (.tmp 18) .skip (.exit 0))) (.seq (.block 1 (.seq (.reg false ycbo) (.seq (.seq (.reg false yceb) (.cond (.tmp 28) (.seq (.reg false ycbr) .ret) .skip)) (.seq (.reg false ybxy) (.seq (.reg false ybia) (.cond (.tmp 34) (.seq (.reg false ybif) .ret) .skip)))))) (.reg false ybzp)))))) (.seq (.reg false ybix) .ret))))
theorem ycjk:Fn 169 c169 [.t 4]:=fn_0 Tryz.func169 (by kernel_rfl) (by kernel_rfl)
def ybzb:LO:=[o3 (.box 25 (.tmp 0)) 3 0,o3 (.mv (ci' 0)) 6 0]
def ybwb:LO:=[fa' 1 1 3 9 0,ld' false 1 9 10 1,mv' 1 11 0,ix' 1 10 11 12 7,ld' false 1 12 13 15,ln' 13 14 31,o3 (.mv (ci' 0)) 15 0]
def ycds:LO:=[bn' .lss 15 14 16 0]
def ybvl:LO:=[mv' 15 17 0,ix' 2 13 15 18 0,ld' true 2 18 19 2,o3 (.alloc 81 1 [.i .i64 0,.i .i64 0]) 8 0,mv' 17 7 15,o0 (.store 2 (.tmp 8) (.tmp 19)) 31]
def yceh:LO:=[fa' 0 1 8 20 0,ld' false 1 20 21 1,mv' 2 22 0,bn' .eql 21 22 23 7]
def ycbg:LO:=[mv' 7 24 0,mv' 24 6 1]
def ycaq:LO:=[o3 (.bin .add (.tmp 15) (ci' 1)) 25 0,mv' 25 15 1]
def ycax:LO:=[o3 (.mv (.const (.int .i64 (-1)))) 6 0]
def c133:SC:=(.seq (.reg false ybzb) (.seq (.seq (.reg false ybwb) (.block 0 (.loop (.seq (.reg false ycds) (.seq (.cond (.tmp 16) .skip (.exit 0)) (.seq (.block 1 (.seq (.reg false ybvl) (.seq (.reg false yceh) (.cond (.tmp 23) (.seq (.reg false ycbg) .ret) .skip)))) (.reg false ycaq))))))) (.seq (.reg false ycax) .ret)))
theorem ycig:Fn 133 c133 [.t 6]:=fn_0 Tryz.func133 (by kernel_rfl) (by kernel_rfl)
def ybxp:LO:=[o3 (.mv (ci' 0)) 2 0]
def ycdz:LO:=[mv' 0 3 0]
def ybxm:LO:=[o3 (.mv (ci' 1)) 2 0]
def yccl:LO:=[o3 (.mv (ci' 0)) 2 0]
def c194:SC:=(.seq (.reg false ybxp) (.seq (.seq (.reg false ycdz) (.cond (.tmp 3) (.seq (.reg false ybxm) .ret) .skip)) (.seq (.reg false yccl) .ret)))
theorem ycgc:Fn 194 c194 [.t 2]:=fn_0 Tryz.func194 (by kernel_rfl) (by kernel_rfl)
def ybyc:LO:=[o3 (.mv (ci' 0)) 2 0]
def ybzo:LO:=[mv' 0 3 0,o3 (.mm false (.tmp 3) (ci' 1073741824)) 4 1,o3 (.mm true (.const (.int .i64 (-1073741824))) (.tmp 4)) 5 3,mv' 5 2 7]
def c196:SC:=(.seq (.reg false ybyc) (.seq (.reg false ybzo) .ret))
theorem ycha:Fn 196 c196 [.t 2]:=fn_0 Tryz.func196 (by kernel_rfl) (by kernel_rfl)
def ybwi:LO:=[o3 (.mv (ci' 0)) 4 0]
def ybvp:LO:=[mv' 0 5 0,o3 (.bin .eql (.tmp 5) (ci' 18)) 6 1]
def ycbp:LO:=[mv' 1 7 0,o3 (.un .neg (.tmp 7)) 8 1,mv' 8 4 3]
def ycbu:LO:=[mv' 1 9 0,o3 (.bin .eql (.tmp 9) (ci' 0)) 10 1,cl' 194 [10] 11 3,mv' 11 4 7]
def c175:SC:=(.seq (.reg false ybwi) (.seq (.seq (.reg false ybvp) (.cond (.tmp 6) (.seq (.reg false ycbp) .ret) .skip)) (.seq (.reg false ycbu) .ret)))
theorem ycgn:Fn 175 c175 [.t 4]:=fn_0 Tryz.func175 (by kernel_rfl) (by kernel_rfl)
def ycbv:LO:=[o3 (.mv (ci' 0)) 6 0]
def ybwx:LO:=[mv' 0 7 0]
def ycdd:LO:=[o3 (.bin .eql (.tmp 7) (ci' 30)) 9 0,mv' 9 8 1]
def ycbq:LO:=[mv' 1 10 0,mv' 2 11 0,bn' .mul 10 11 12 3,cl' 196 [12] 13 7,mv' 13 6 15]
def yccd:LO:=[o3 (.bin .eql (.tmp 7) (ci' 31)) 15 0,mv' 15 14 1]
def ybwk:LO:=[mv' 1 16 0,mv' 2 17 0,cl' 197 [16,17] 18 3,cl' 196 [18] 19 7,mv' 19 6 15]
def ybwq:LO:=[o3 (.bin .eql (.tmp 7) (ci' 32)) 21 0,mv' 21 20 1]
def ycbl:LO:=[mv' 2 22 0,o3 (.bin .eql (.tmp 22) (ci' 0)) 23 1]
def ybvg:LO:=[o3 (.mv (ci' 0)) 6 0]
def ybvy:LO:=[mv' 1 24 0,mv' 2 25 0,mv' 1 26 0,mv' 2 27 0,cl' 197 [26,27] 28 12,bn' .mul 25 28 29 30,bn' .sub 24 29 30 63,cl' 196 [30] 31 127,mv' 31 6 255]
def ybpo:LO:=[o3 (.bin .eql (.tmp 7) (ci' 33)) 33 0,mv' 33 32 1]
def ybhs:LO:=[mv' 1 34 0,mv' 2 35 0,bn' .add 34 35 36 3,cl' 196 [36] 37 7,mv' 37 6 15]
def ybmw:LO:=[o3 (.bin .eql (.tmp 7) (ci' 34)) 39 0,mv' 39 38 1]
def yblp:LO:=[mv' 1 40 0,mv' 2 41 0,bn' .sub 40 41 42 3,cl' 196 [42] 43 7,mv' 43 6 15]
def ybmc:LO:=[o3 (.bin .eql (.tmp 7) (ci' 41)) 45 0,mv' 45 44 1]
def ybiz:LO:=[mv' 1 46 0,o3 (.bin .neq (.tmp 46) (ci' 0)) 47 1,mv' 47 48 3,⟨.mv (.tmp 2),some 49,some (48,true),7⟩,⟨.bin .neq (.tmp 49) (ci' 0),some 50,some (48,true),15⟩,o3 (.pick (.tmp 48) (.tmp 50) (.const (.bool false))) 51 31,cl' 194 [51] 52 63,mv' 52 6 127]
def ybnb:LO:=[o3 (.bin .eql (.tmp 7) (ci' 42)) 54 0,mv' 54 53 1]
def ybpi:LO:=[mv' 1 55 0,o3 (.bin .neq (.tmp 55) (ci' 0)) 56 1,mv' 56 57 3,⟨.mv (.tmp 2),some 58,some (57,false),7⟩,⟨.bin .neq (.tmp 58) (ci' 0),some 59,some (57,false),15⟩,o3 (.pick (.tmp 57) (.const (.bool true)) (.tmp 59)) 60 31,cl' 194 [60] 61 63,mv' 61 6 127]
def ybpr:LO:=[mv' 0 62 0,mv' 1 63 0,mv' 2 64 0,cl' 198 [62,63,64] 65 7,cl' 194 [65] 66 15,mv' 66 6 31]
def c177:SC:=(.seq (.reg false ycbv) (.seq (.seq (.reg false ybwx) (.block 0 (.seq (.reg false ycdd) (.cond (.tmp 8) (.seq (.reg false ycbq) .ret) (.seq (.reg false yccd) (.cond (.tmp 14) (.seq (.reg false ybwk) .ret) (.seq (.reg false ybwq) (.cond (.tmp 20) (.seq (.seq (.reg false ycbl) (.cond (.tmp 23) (.seq (.reg false ybvg) .ret) .skip)) (.seq (.reg false ybvy) .ret)) (.seq (.reg false ybpo) (.cond (.tmp 32) (.seq (.reg false ybhs) .ret) (.seq (.reg false ybmw) (.cond (.tmp 38) (.seq (.reg false yblp) .ret) (.seq (.reg false ybmc) (.cond (.tmp 44) (.seq (.reg false ybiz) .ret) (.seq (.reg false ybnb) (.cond (.tmp 53) (.seq (.reg false ybpi) .ret) .skip)))))))))))))))) (.seq (.reg false ybpr) .ret)))
theorem ycgb:Fn 177 c177 [.t 6]:=fn_0 Tryz.func177 (by kernel_rfl) (by kernel_rfl)
def ycbk:LO:=[o3 (.mv (ci' 0)) 4 0]
def ycbe:LO:=[mv' 1 6 0,o3 (.bin .eql (.tmp 6) (ci' 0)) 7 1]
def ybxj:LO:=[o3 (.mv (ci' 0)) 4 0]
def ycca:LO:=[mv' 0 8 0,mv' 1 9 0,bn' .quo 8 9 10 3,mv' 10 5 7]
def ycae:LO:=[mv' 0 11 0,mv' 1 12 0,bn' .rem 11 12 13 3,o3 (.bin .neq (.tmp 13) (ci' 0)) 14 7,mv' 14 15 15,⟨.mv (.tmp 0),some 16,some (15,true),31⟩,⟨.bin .lss (.tmp 16) (ci' 0),some 17,some (15,true),63⟩,⟨.mv (.tmp 1),some 18,some (15,true),31⟩,⟨.bin .lss (.tmp 18) (ci' 0),some 19,some (15,true),159⟩,⟨.beq true (.tmp 17) (.tmp 19),some 20,some (15,true),511⟩,o3 (.pick (.tmp 15) (.tmp 20) (.const (.bool false))) 21 1023]
def ycby:LO:=[mv' 5 22 0,o3 (.bin .sub (.tmp 22) (ci' 1)) 23 1,mv' 23 5 3]
def yccz:LO:=[mv' 5 24 0,mv' 24 4 1]
def c197:SC:=(.seq (.reg false ycbk) (.seq (.seq (.reg false ycbe) (.cond (.tmp 7) (.seq (.reg false ybxj) .ret) .skip)) (.seq (.reg false ycca) (.seq (.seq (.reg false ycae) (.cond (.tmp 21) (.reg false ycby) .skip)) (.seq (.reg false yccz) .ret)))))
theorem ycfd:Fn 197 c197 [.t 4]:=fn_0 Tryz.func197 (by kernel_rfl) (by kernel_rfl)
def ycbf:LO:=[o3 (.mv (.const (.bool false))) 6 0]
def ycdk:LO:=[mv' 0 7 0]
def ybxq:LO:=[o3 (.bin .eql (.tmp 7) (ci' 35)) 9 0,mv' 9 8 1]
def ycdw:LO:=[mv' 1 10 0,mv' 2 11 0,bn' .eql 10 11 12 3,mv' 12 6 7]
def yccb:LO:=[o3 (.bin .eql (.tmp 7) (ci' 36)) 14 0,mv' 14 13 1]
def ybzf:LO:=[mv' 1 15 0,mv' 2 16 0,bn' .neq 15 16 17 3,mv' 17 6 7]
def ycbc:LO:=[o3 (.bin .eql (.tmp 7) (ci' 37)) 19 0,mv' 19 18 1]
def ybvi:LO:=[mv' 1 20 0,mv' 2 21 0,bn' .lss 20 21 22 3,mv' 22 6 7]
def ycak:LO:=[o3 (.bin .eql (.tmp 7) (ci' 38)) 24 0,mv' 24 23 1]
def ybwz:LO:=[mv' 1 25 0,mv' 2 26 0,bn' .leq 25 26 27 3,mv' 27 6 7]
def ybpp:LO:=[o3 (.bin .eql (.tmp 7) (ci' 39)) 29 0,mv' 29 28 1]
def yblm:LO:=[mv' 1 30 0,mv' 2 31 0,bn' .gtr 30 31 32 3,mv' 32 6 7]
def yblz:LO:=[mv' 1 33 0,mv' 2 34 0,bn' .geq 33 34 35 3,mv' 35 6 7]
def c198:SC:=(.seq (.reg false ycbf) (.seq (.seq (.reg false ycdk) (.block 0 (.seq (.reg false ybxq) (.cond (.tmp 8) (.seq (.reg false ycdw) .ret) (.seq (.reg false yccb) (.cond (.tmp 13) (.seq (.reg false ybzf) .ret) (.seq (.reg false ycbc) (.cond (.tmp 18) (.seq (.reg false ybvi) .ret) (.seq (.reg false ycak) (.cond (.tmp 23) (.seq (.reg false ybwz) .ret) (.seq (.reg false ybpp) (.cond (.tmp 28) (.seq (.reg false yblm) .ret) .skip)))))))))))) (.seq (.reg false yblz) .ret)))
theorem ycfm:Fn 198 c198 [.t 6]:=fn_0 Tryz.func198 (by kernel_rfl) (by kernel_rfl)
def ycap:LO:=[o3 (.mv (ci' 0)) 4 0]
def ybvo:LO:=[mv' 0 15 0]
def ybvd:LO:=[o3 (.bin .eql (.tmp 15) (ci' 20)) 17 0,mv' 17 16 1]
def ybxe:LO:=[mv' 1 18 0,cl' 204 [18] 19 1,mv' 1 20 0,ln' 20 21 4,bn' .eql 19 21 22 15,cl' 194 [22] 23 31,mv' 23 4 63]
def ycah:LO:=[o3 (.bin .eql (.tmp 15) (ci' 21)) 25 0,mv' 25 24 1]
def yccc:LO:=[mv' 1 26 0,cl' 204 [26] 27 1,o3 (.bin .gtr (.tmp 27) (ci' 0)) 28 3,cl' 194 [28] 29 7,mv' 29 4 15]
def ybzk:LO:=[o3 (.bin .eql (.tmp 15) (ci' 22)) 31 0,mv' 31 30 1]
def ybyt:LO:=[mv' 1 32 0,cl' 204 [32] 33 1,mv' 33 4 3]
def ycan:LO:=[o3 (.bin .eql (.tmp 15) (ci' 23)) 35 0,mv' 35 34 1]
def ycdb:LO:=[mv' 1 36 0,o3 (.call (.func 205) [(.tmp 36),(.func 206)]) 37 1,mv' 37 4 3]
def ybmx:LO:=[o3 (.bin .eql (.tmp 15) (ci' 24)) 39 0,mv' 39 38 1]
def ybjw:LO:=[o3 (.mv (ci' 1073741824)) 5 0]
def ybjg:LO:=[mv' 1 40 0,ln' 40 41 1,o3 (.mv (ci' 0)) 42 0]
def ybnm:LO:=[bn' .lss 42 41 43 0]
def ybov:LO:=[ix' 1 40 42 44 0,ld' false 1 44 45 1,mv' 45 7 3]
def ybiu:LO:=[mv' 5 46 0,mv' 7 47 0,o3 (.mm false (.tmp 46) (.tmp 47)) 48 3,mv' 48 5 7]
def ybjz:LO:=[o3 (.bin .add (.tmp 42) (ci' 1)) 49 0,mv' 49 42 1]
def ybnn:LO:=[mv' 5 50 0,mv' 50 4 1]
def ybkj:LO:=[o3 (.bin .eql (.tmp 15) (ci' 25)) 52 0,mv' 52 51 1]
def ybnq:LO:=[mv' 1 54 0,cl' 207 [54] 55 1,mv' 55 53 3,xt' 53 0 56 7,xt' 53 1 57 7,mv' 56 8 15,mv' 57 9 63]
def ybnt:LO:=[mv' 8 58 0,mv' 58 4 1]
def ybms:LO:=[o3 (.bin .eql (.tmp 15) (ci' 26)) 60 0,mv' 60 59 1]
def ybke:LO:=[o3 (.mv (ci' 0)) 10 0]
def yboe:LO:=[mv' 1 61 0,ln' 61 62 1,o3 (.mv (ci' 0)) 63 0]
def ybpm:LO:=[bn' .lss 63 62 64 0]
def yblr:LO:=[ix' 1 61 63 65 0,ld' false 1 65 66 1,mv' 66 12 3]
def ybls:LO:=[mv' 10 67 0,mv' 12 68 0,bn' .add 67 68 69 3,mv' 69 10 7]
def ybip:LO:=[o3 (.bin .add (.tmp 63) (ci' 1)) 70 0,mv' 70 63 1]
def ybhr:LO:=[mv' 10 71 0,cl' 196 [71] 72 1,mv' 72 4 3]
def ybmb:LO:=[o3 (.bin .eql (.tmp 15) (ci' 27)) 74 0,mv' 74 73 1]
def ybnd:LO:=[mv' 1 75 0,cl' 208 [75] 76 1,mv' 76 4 3]
def ybir:LO:=[o3 (.bin .eql (.tmp 15) (ci' 28)) 78 0,mv' 78 77 1]
def ybim:LO:=[mv' 1 80 0,cl' 207 [80] 81 1,mv' 81 79 3,xt' 79 0 82 7,xt' 79 1 83 7,mv' 82 13 15,mv' 83 14 63]
def ybks:LO:=[mv' 14 84 0,mv' 84 4 1]
def ybjl:LO:=[mv' 1 85 0,ln' 85 86 1,o3 (.bin .eql (.tmp 86) (ci' 0)) 87 3]
def ybkm:LO:=[o3 (.mv (ci' 0)) 4 0]
def ybjo:LO:=[mv' 1 88 0,o3 (.idx 1 (.tmp 88) (ci' 0)) 89 1,ld' false 1 89 90 3,mv' 90 4 7]
def c195:SC:=(.seq (.reg false ycap) (.seq (.seq (.reg false ybvo) (.block 0 (.seq (.reg false ybvd) (.cond (.tmp 16) (.seq (.reg false ybxe) .ret) (.seq (.reg false ycah) (.cond (.tmp 24) (.seq (.reg false yccc) .ret) (.seq (.reg false ybzk) (.cond (.tmp 30) (.seq (.reg false ybyt) .ret) (.seq (.reg false ycan) (.cond (.tmp 34) (.seq (.reg false ycdb) .ret) (.seq (.reg false ybmx) (.cond (.tmp 38) (.seq (.reg false ybjw) (.seq (.seq (.reg false ybjg) (.block 1 (.loop (.seq (.reg false ybnm) (.seq (.cond (.tmp 43) .skip (.exit 1)) (.seq (.block 2 (.seq (.reg false ybov) (.reg false ybiu))) (.reg false ybjz))))))) (.seq (.reg false ybnn) .ret))) (.seq (.reg false ybkj) (.cond (.tmp 51) (.seq (.reg false ybnq) (.seq (.reg false ybnt) .ret)) (.seq (.reg false ybms) (.cond (.tmp 59) (.seq (.reg false ybke) (.seq (.seq (.reg false yboe) (.block 3 (.loop (.seq (.reg false ybpm) (.seq (.cond (.tmp 64) .skip (.exit 3)) (.seq (.block 4 (.seq (.reg false yblr) (.reg false ybls))) (.reg false ybip))))))) (.seq (.reg false ybhr) .ret))) (.seq (.reg false ybmb) (.cond (.tmp 73) (.seq (.reg false ybnd) .ret) (.seq (.reg false ybir) (.cond (.tmp 77) (.seq (.reg false ybim) (.seq (.reg false ybks) .ret)) .skip)))))))))))))))))))) (.seq (.seq (.reg false ybjl) (.cond (.tmp 87) (.seq (.reg false ybkm) .ret) .skip)) (.seq (.reg false ybjo) .ret))))
theorem ychf:Fn 195 c195 [.t 4]:=fn_0 Tryz.func195 (by kernel_rfl) (by kernel_rfl)
def ycba:LO:=[o3 (.mv (.const (.bool false))) 2 0]
def ybzq:LO:=[mv' 0 3 0,o3 (.bin .neq (.tmp 3) (ci' 0)) 4 1,mv' 4 2 3]
def c206:SC:=(.seq (.reg false ycba) (.seq (.reg false ybzq) .ret))
theorem ycgj:Fn 206 c206 [.t 2]:=fn_0 Tryz.func206 (by kernel_rfl) (by kernel_rfl)
def ybzi:LO:=[o3 (.mv (ci' 0)) 2 0]
def ybxi:LO:=[o3 (.mv (ci' 0)) 3 0]
def ybuz:LO:=[mv' 0 6 0,ln' 6 7 1,o3 (.mv (ci' 0)) 8 0]
def ybyz:LO:=[bn' .lss 8 7 9 0]
def ycdl:LO:=[ix' 1 6 8 10 0,ld' false 1 10 11 1,mv' 11 5 3]
def ybyq:LO:=[mv' 5 12 0,o3 (.bin .neq (.tmp 12) (ci' 0)) 13 1]
def ycek:LO:=[mv' 3 14 0,o3 (.bin .add (.tmp 14) (ci' 1)) 15 1,mv' 15 3 3]
def ybzy:LO:=[o3 (.bin .add (.tmp 8) (ci' 1)) 16 0,mv' 16 8 1]
def ycem:LO:=[mv' 3 17 0,mv' 17 2 1]
def c204:SC:=(.seq (.reg false ybzi) (.seq (.reg false ybxi) (.seq (.seq (.reg false ybuz) (.block 0 (.loop (.seq (.reg false ybyz) (.seq (.cond (.tmp 9) .skip (.exit 0)) (.seq (.block 1 (.seq (.reg false ycdl) (.seq (.reg false ybyq) (.cond (.tmp 13) (.reg false ycek) .skip)))) (.reg false ybzy))))))) (.seq (.reg false ycem) .ret))))
theorem ycgo:Fn 204 c204 [.t 2]:=fn_0 Tryz.func204 (by kernel_rfl) (by kernel_rfl)
def ybwl:LO:=[o3 (.mv (ci' 0)) 2 0,o3 (.mv (ci' 0)) 3 1]
def ycdj:LO:=[o3 (.mv (.const (.int .i64 (-1073741824)))) 2 0,o3 (.mv (.const (.int .i64 (-1073741824)))) 3 1]
def ycay:LO:=[mv' 0 6 0,ln' 6 7 1,o3 (.mv (ci' 0)) 8 0]
def ybyh:LO:=[bn' .lss 8 7 9 0]
def ybxv:LO:=[ix' 1 6 8 10 0,ld' false 1 10 11 1,mv' 11 5 3]
def ycdx:LO:=[mv' 5 12 0,mv' 2 13 0,bn' .gtr 12 13 14 3]
def ycdu:LO:=[mv' 5 15 0,mv' 2 16 0,mv' 15 2 3,mv' 16 3 7]
def yccm:LO:=[mv' 3 17 0,mv' 5 18 0,o3 (.mm true (.tmp 17) (.tmp 18)) 19 3,mv' 19 3 7]
def ycav:LO:=[o3 (.bin .add (.tmp 8) (ci' 1)) 20 0,mv' 20 8 1]
def ybwy:LO:=[mv' 2 21 0,mv' 3 22 0,mv' 21 2 1,mv' 22 3 7]
def c207:SC:=(.seq (.reg false ybwl) (.seq (.reg false ycdj) (.seq (.seq (.reg false ycay) (.block 0 (.loop (.seq (.reg false ybyh) (.seq (.cond (.tmp 9) .skip (.exit 0)) (.seq (.block 1 (.seq (.reg false ybxv) (.seq (.reg false ycdx) (.cond (.tmp 14) (.reg false ycdu) (.reg false yccm))))) (.reg false ycav))))))) (.seq (.reg false ybwy) .ret))))
theorem ycid:Fn 207 c207 [.t 2,.t 3]:=fn_0 Tryz.func207 (by kernel_rfl) (by kernel_rfl)
def ycac:LO:=[o3 (.mv (ci' 0)) 2 0]
def ybwg:LO:=[o3 (.mv (ci' 0)) 3 0]
def ycad:LO:=[mv' 0 4 0,mv' 3 5 0,cl' 212 [4,5] 6 3]
def ybyj:LO:=[mv' 3 7 0,o3 (.bin .add (.tmp 7) (ci' 1)) 8 1,mv' 8 3 3]
def ybyu:LO:=[mv' 3 9 0,mv' 9 2 1]
def c208:SC:=(.seq (.reg false ycac) (.seq (.reg false ybwg) (.seq (.block 0 (.loop (.seq (.seq (.reg false ycad) (.cond (.tmp 6) .skip (.exit 0))) (.block 1 (.reg false ybyj))))) (.seq (.reg false ybyu) .ret))))
theorem ycgv:Fn 208 c208 [.t 2]:=fn_0 Tryz.func208 (by kernel_rfl) (by kernel_rfl)
def ycsu:LO:=[o3 (.box 42 (.tmp 0)) 2 0,o3 (.box 25 (.tmp 1)) 3 0,o3 (.mv (.const (.pointer none))) 4 0]
def ycss:LO:=[ld' true 3 2 10 0,ld' true 2 3 11 0,fa' 1 1 3 12 0,ld' false 1 12 13 4,ln' 13 14 12,o3 (.mk 22 1 24 [.a (.slice none 0 0)] (.tmp 14) (.tmp 14)) 15 28,o3 (.build [.a (.string (ByteArray.mk #[])),.a (.slice none 0 0),.a (.slice none 0 0),.a (.slice none 0 0),.a (.slice none 0 0),.i .i64 0,.a (.slice none 0 0)] [(0,3,(.tmp 10)),(3,2,(.tmp 11)),(6,1,(.tmp 15))]) 16 63,o3 (.box 153 (.tmp 16)) 17 127,mv' 17 5 255]
def ycth:LO:=[fa' 1 1 3 18 0,ld' false 1 18 19 1,ln' 19 20 3,o3 (.mv (ci' 0)) 21 0]
def ycsb:LO:=[bn' .lss 21 20 22 0]
def ycst:LO:=[mv' 21 23 0,ix' 1 19 21 24 0,ld' false 1 24 25 2,mv' 23 6 7,mv' 25 7 15]
def ycli:LO:=[mv' 5 26 0,mv' 5 27 0,o3 (.nilck (.tmp 27)) 28 2,fa' 5 1 28 29 6,ld' false 1 29 30 14,fa' 0 1 3 31 0,ld' false 1 31 32 32,mv' 6 33 0,ix' 1 32 33 34 224,ld' false 1 34 35 480,o3 (.mm true (.tmp 30) (.tmp 35)) 36 1022,o3 (.nilck (.tmp 26)) 37 2047,fa' 5 1 37 38 4095,o0 (.store 1 (.tmp 38) (.tmp 36)) 8191]
def ycoj:LO:=[mv' 7 39 0,ln' 39 40 1,o3 (.mv (ci' 0)) 41 0]
def ycou:LO:=[bn' .lss 41 40 42 0]
def yckt:LO:=[ix' 2 39 41 43 0,ld' true 2 43 44 1,o3 (.alloc 81 1 [.i .i64 0,.i .i64 0]) 9 0,o0 (.store 2 (.tmp 9) (.tmp 44)) 7]
def ycpw:LO:=[mv' 5 45 0,o3 (.nilck (.tmp 45)) 46 1,fa' 6 1 46 47 3,ld' false 1 47 48 7,mv' 6 49 0,mv' 5 50 0,o3 (.nilck (.tmp 50)) 51 32,fa' 6 1 51 52 96,ld' false 1 52 53 224,mv' 6 54 0,ix' 1 53 54 55 992,ld' false 1 55 56 2016,ld' true 2 3 57 0,fa' 0 1 9 58 0,ld' false 1 58 59 8192,mv' 6 60 0,cl' 133 [57,59,60] 61 61440,o3 (.bslice 3 1 1 [.i .i64 0] [(0,1,(.tmp 61))]) 62 126976,o3 (.app 3 1 8 (.tmp 56) (.tmp 62)) 63 262112,ix' 1 48 49 64 524287,o0 (.store 1 (.tmp 64) (.tmp 63)) 1048575]
def ybzc:LO:=[o3 (.bin .add (.tmp 41) (ci' 1)) 65 0,mv' 65 41 1]
def ycct:LO:=[o3 (.bin .add (.tmp 21) (ci' 1)) 66 0,mv' 66 21 1]
def ycdi:LO:=[mv' 5 67 0,mv' 67 4 1]
def c97:SC:=(.seq (.reg false ycsu) (.seq (.reg true ycss) (.seq (.seq (.reg false ycth) (.block 0 (.loop (.seq (.reg false ycsb) (.seq (.cond (.tmp 22) .skip (.exit 0)) (.seq (.block 1 (.seq (.reg false ycst) (.seq (.reg true ycli) (.seq (.reg false ycoj) (.block 2 (.loop (.seq (.reg false ycou) (.seq (.cond (.tmp 42) .skip (.exit 2)) (.seq (.block 3 (.seq (.reg false yckt) (.reg true ycpw))) (.reg false ybzc)))))))))) (.reg false ycct))))))) (.seq (.reg false ycdi) .ret))))
theorem ycsm:Fn 97 c97 [.t 4]:=fn_0 Tryz.func97 (by kernel_rfl) (by kernel_rfl)
def ybwh:LO:=[o3 (.mv (ci' 0)) 8 0]
def ycau:LO:=[mv' 1 10 0]
def ybym:LO:=[o3 (.bin .eql (.tmp 10) (ci' 6)) 12 0,mv' 12 11 1]
def yccv:LO:=[mv' 0 13 0,o3 (.nilck (.tmp 13)) 14 1,fa' 3 2 14 15 3,fa' 0 1 15 16 7,ld' false 1 16 17 15,ln' 17 18 31,mv' 18 8 63]
def ycaf:LO:=[o3 (.bin .eql (.tmp 10) (ci' 7)) 20 0,mv' 20 19 1]
def ybzg:LO:=[mv' 0 21 0,o3 (.nilck (.tmp 21)) 22 1,fa' 5 1 22 23 3,ld' false 1 23 24 7,mv' 24 8 15]
def ybvs:LO:=[o3 (.bin .eql (.tmp 10) (ci' 8)) 26 0,mv' 26 25 1]
def ycce:LO:=[mv' 0 27 0,o3 (.nilck (.tmp 27)) 28 1,fa' 3 2 28 29 3,fa' 0 1 29 30 7,ld' false 1 30 31 15,mv' 2 32 0,ix' 1 31 32 33 63,ld' false 1 33 34 127,mv' 34 8 255]
def ycbb:LO:=[o3 (.bin .eql (.tmp 10) (ci' 9)) 36 0,mv' 36 35 1]
def ycda:LO:=[mv' 0 37 0,o3 (.nilck (.tmp 37)) 38 1,fa' 3 2 38 39 3,fa' 1 1 39 40 7,ld' false 1 40 41 15,mv' 2 42 0,ix' 1 41 42 43 63,ld' false 1 43 44 127,ln' 44 45 255,mv' 45 8 511]
def ybpq:LO:=[o3 (.bin .eql (.tmp 10) (ci' 10)) 47 0,mv' 47 46 1]
def ybnc:LO:=[mv' 2 48 0,o3 (.bin .eql (.tmp 48) (ci' 0)) 49 1,cl' 194 [49] 50 3,mv' 50 8 7]
def ybjr:LO:=[o3 (.bin .eql (.tmp 10) (ci' 11)) 52 0,mv' 52 51 1]
def ybkh:LO:=[mv' 3 53 0,mv' 53 8 1]
def ybho:LO:=[mv' 0 54 0,o3 (.nilck (.tmp 54)) 55 1,fa' 3 2 55 56 3,fa' 1 1 56 57 7,ld' false 1 57 58 15,mv' 2 59 0,ix' 1 58 59 60 63,ld' false 1 60 61 127,mv' 3 62 0,ix' 2 61 62 63 511,ld' true 2 63 64 1023,o3 (.alloc 81 1 [.i .i64 0,.i .i64 0]) 9 0,o0 (.store 2 (.tmp 9) (.tmp 64)) 4095]
def ybjd:LO:=[mv' 1 65 0]
def ybjc:LO:=[o3 (.bin .eql (.tmp 65) (ci' 13)) 67 0,mv' 67 66 1]
def ybpv:LO:=[mv' 0 68 0,o3 (.nilck (.tmp 68)) 69 1,fa' 3 2 69 70 3,fa' 0 1 70 71 7,ld' false 1 71 72 15,fa' 0 1 9 73 0,ld' false 1 73 74 32,ix' 1 72 74 75 127,ld' false 1 75 76 255,mv' 76 8 511]
def yblx:LO:=[o3 (.bin .eql (.tmp 65) (ci' 14)) 78 0,mv' 78 77 1]
def ybmg:LO:=[mv' 0 79 0,o3 (.nilck (.tmp 79)) 80 1,fa' 3 2 80 81 3,fa' 1 1 81 82 7,ld' false 1 82 83 15,fa' 0 1 9 84 0,ld' false 1 84 85 32,ix' 1 83 85 86 127,ld' false 1 86 87 255,ln' 87 88 511,mv' 88 8 1023]
def ybla:LO:=[o3 (.bin .eql (.tmp 65) (ci' 15)) 90 0,mv' 90 89 1]
def yblf:LO:=[fa' 0 1 9 91 0,ld' false 1 91 92 1,o3 (.bin .eql (.tmp 92) (ci' 0)) 93 3,cl' 194 [93] 94 7,mv' 94 8 15]
def ybkb:LO:=[o3 (.bin .eql (.tmp 65) (ci' 16)) 96 0,mv' 96 95 1]
def ybmd:LO:=[fa' 1 1 9 97 0,ld' false 1 97 98 1,mv' 98 8 3]
def yboa:LO:=[mv' 0 99 0,o3 (.nilck (.tmp 99)) 100 1,fa' 6 1 100 101 3,ld' false 1 101 102 7,mv' 2 103 0,ix' 1 102 103 104 31,ld' false 1 104 105 63,mv' 3 106 0,ix' 1 105 106 107 255,ld' false 1 107 108 511,mv' 108 8 1023]
def c193:SC:=(.seq (.reg false ybwh) (.seq (.seq (.reg false ycau) (.block 0 (.seq (.reg false ybym) (.cond (.tmp 11) (.seq (.reg false yccv) .ret) (.seq (.reg false ycaf) (.cond (.tmp 19) (.seq (.reg false ybzg) .ret) (.seq (.reg false ybvs) (.cond (.tmp 25) (.seq (.reg false ycce) .ret) (.seq (.reg false ycbb) (.cond (.tmp 35) (.seq (.reg false ycda) .ret) (.seq (.reg false ybpq) (.cond (.tmp 46) (.seq (.reg false ybnc) .ret) (.seq (.reg false ybjr) (.cond (.tmp 51) (.seq (.reg false ybkh) .ret) .skip)))))))))))))) (.seq (.reg false ybho) (.seq (.seq (.reg false ybjd) (.block 1 (.seq (.reg false ybjc) (.cond (.tmp 66) (.seq (.reg true ybpv) .ret) (.seq (.reg false yblx) (.cond (.tmp 77) (.seq (.reg true ybmg) .ret) (.seq (.reg false ybla) (.cond (.tmp 89) (.seq (.reg false yblf) .ret) (.seq (.reg false ybkb) (.cond (.tmp 95) (.seq (.reg false ybmd) .ret) .skip)))))))))) (.seq (.reg false yboa) .ret)))))
theorem ycfj:Fn 193 c193 [.t 8]:=fn_0 Tryz.func193 (by kernel_rfl) (by kernel_rfl)
def ybxd:LO:=[o3 (.mv (ci' 0)) 8 0]
def ybvv:LO:=[mv' 0 12 0,mv' 1 13 0,mv' 2 14 0,mv' 3 15 0,o3 (.build [.a (.pointer none),.a (.slice none 0 0),.i .i64 0,.a (.slice none 0 0)] [(0,1,(.tmp 12)),(1,1,(.tmp 13)),(2,1,(.tmp 14)),(3,1,(.tmp 15))]) 16 15,o3 (.alloc 181 1 [.a (.pointer none),.a (.slice none 0 0),.i .i64 0,.a (.slice none 0 0)]) 9 0,o0 (.store 4 (.tmp 9) (.tmp 16)) 63]
def ybwp:LO:=[o3 (.call (.func 161) [(.tmp 9),(ci' 0),(.const (.int .i64 (-1)))]) 18 0,mv' 18 17 1,xt' 17 0 19 3,xt' 17 1 20 3,mv' 19 10 7,mv' 20 11 31]
def ycai:LO:=[mv' 10 21 0,mv' 21 8 1]
def c135:SC:=(.seq (.reg false ybxd) (.seq (.reg false ybvv) (.seq (.reg false ybwp) (.seq (.reg false ycai) .ret))))
theorem ycgp:Fn 135 c135 [.t 8]:=fn_0 Tryz.func135 (by kernel_rfl) (by kernel_rfl)
def ycaa:LO:=[o3 (.mv (.const (.bool false))) 8 0]
def ybyp:LO:=[mv' 0 9 0,mv' 1 10 0,mv' 2 11 0,mv' 0 12 0,o3 (.nilck (.tmp 12)) 13 8,fa' 0 3 13 14 24,fa' 2 1 14 15 56,ld' false 1 15 16 120,mv' 3 17 0,ix' 3 16 17 18 504,fa' 1 1 18 19 1016,ld' false 1 19 20 2040,cl' 135 [9,10,11,20] 21 4095,o3 (.bin .neq (.tmp 21) (ci' 0)) 22 8191,mv' 22 8 16383]
def c134:SC:=(.seq (.reg false ycaa) (.seq (.reg false ybyp) .ret))
theorem ycja:Fn 134 c134 [.t 8]:=fn_0 Tryz.func134 (by kernel_rfl) (by kernel_rfl)
def yrl:LO:=[o3 (.mv (ci' 0)) 6 0,o3 (.mv (ci' 0)) 7 1]
def yrx:LO:=[mv' 0 18 0,o3 (.nilck (.tmp 18)) 19 1,fa' 3 1 19 20 3,ld' false 1 20 21 7,mv' 1 22 0,ix' 2 21 22 23 31,ld' true 2 23 24 63,o3 (.alloc 190 1 [.i .i64 0,.i .i64 0]) 8 0,o0 (.store 2 (.tmp 8) (.tmp 24)) 255]
def yrt:LO:=[fa' 0 1 8 26 0,ld' false 1 26 27 1,o3 (.bin .leq (.tmp 27) (ci' 17)) 28 3,mv' 28 25 7]
def yrd:LO:=[mv' 0 29 0,ld' true 2 8 30 0,mv' 2 31 0,cl' 174 [29,30,31] 32 7,mv' 1 33 0,o3 (.bin .add (.tmp 33) (ci' 1)) 34 16,mv' 32 6 15,mv' 34 7 127]
def yrk:LO:=[fa' 0 1 8 36 0,ld' false 1 36 37 1,o3 (.bin .leq (.tmp 37) (ci' 19)) 38 3,mv' 38 35 7]
def yqz:LO:=[mv' 0 40 0,mv' 1 41 0,o3 (.bin .add (.tmp 41) (ci' 1)) 42 2,mv' 2 43 0,cl' 161 [40,42,43] 44 15,mv' 44 39 31,xt' 39 0 45 63,xt' 39 1 46 63,mv' 45 6 127,mv' 46 7 511]
def yry:LO:=[fa' 0 1 8 47 0,ld' false 1 47 48 1,mv' 6 49 0,cl' 175 [48,49] 50 7,mv' 7 51 0,mv' 50 6 15,mv' 51 7 63]
def yro:LO:=[fa' 0 1 8 53 0,ld' false 1 53 54 1,o3 (.bin .leq (.tmp 54) (ci' 29)) 55 3,mv' 55 52 7]
def ysj:LO:=[mv' 0 56 0,fa' 0 1 8 57 0,ld' false 1 57 58 2,mv' 1 59 0,cl' 176 [56,58,59] 60 15,xt' 60 0 61 31,xt' 60 1 62 31,mv' 61 6 127,mv' 62 7 255]
def yrw:LO:=[fa' 0 1 8 64 0,ld' false 1 64 65 1,o3 (.bin .leq (.tmp 65) (ci' 42)) 66 3,mv' 66 63 7]
def ylo:LO:=[mv' 0 68 0,mv' 1 69 0,o3 (.bin .add (.tmp 69) (ci' 1)) 70 2,mv' 2 71 0,cl' 161 [68,70,71] 72 15,mv' 72 67 31,xt' 67 0 73 63,xt' 67 1 74 63,mv' 73 9 127,mv' 74 10 511]
def yli:LO:=[mv' 0 76 0,mv' 10 77 0,mv' 2 78 0,cl' 161 [76,77,78] 79 7,mv' 79 75 15,xt' 75 0 80 31,xt' 75 1 81 31,mv' 80 11 63,mv' 81 12 255]
def ymc:LO:=[fa' 0 1 8 82 0,ld' false 1 82 83 1,mv' 9 84 0,mv' 11 85 0,cl' 177 [83,84,85] 86 15,mv' 12 87 0,mv' 86 6 31,mv' 87 7 127]
def yll:LO:=[mv' 0 89 0,mv' 1 90 0,o3 (.bin .add (.tmp 90) (ci' 1)) 91 2,mv' 2 92 0,cl' 161 [89,91,92] 93 15,mv' 93 88 31,xt' 88 0 94 63,xt' 88 1 95 63,mv' 94 13 127,mv' 95 14 511]
def ylf:LO:=[mv' 0 97 0,mv' 14 98 0,mv' 2 99 0,cl' 161 [97,98,99] 100 7,mv' 100 96 15,xt' 96 0 101 31,xt' 96 1 102 31,mv' 101 15 63,mv' 102 16 255]
def ylq:LO:=[mv' 0 104 0,mv' 16 105 0,mv' 2 106 0,cl' 161 [104,105,106] 107 7,mv' 107 103 15,xt' 103 0 108 31,xt' 103 1 109 31,mv' 108 17 63,mv' 109 7 255]
def ymj:LO:=[mv' 13 110 0,o3 (.bin .neq (.tmp 110) (ci' 0)) 111 1]
def ymg:LO:=[mv' 15 112 0,mv' 7 113 0,mv' 112 6 1,mv' 113 7 7]
def ylg:LO:=[mv' 17 114 0,mv' 7 115 0,mv' 114 6 1,mv' 115 7 7]
def c161:SC:=(.seq (.reg false yrl) (.seq (.reg false yrx) (.seq (.block 0 (.seq (.reg false yrt) (.cond (.tmp 25) (.seq (.reg false yrd) .ret) (.seq (.reg false yrk) (.cond (.tmp 35) (.seq (.reg false yqz) (.seq (.reg false yry) .ret)) (.seq (.reg false yro) (.cond (.tmp 52) (.seq (.reg false ysj) .ret) (.seq (.reg false yrw) (.cond (.tmp 63) (.seq (.reg false ylo) (.seq (.reg false yli) (.seq (.reg false ymc) .ret))) .skip))))))))) (.seq (.reg false yll) (.seq (.reg false ylf) (.seq (.reg false ylq) (.seq (.seq (.reg false ymj) (.cond (.tmp 111) (.seq (.reg false ymg) .ret) .skip)) (.seq (.reg false ylg) .ret))))))))
theorem yop:Fn 161 c161 [.t 6,.t 7]:=fn_0 Tryz.func161 (by kernel_rfl) (by kernel_rfl)
def ycar:LO:=[o3 (.box 190 (.tmp 1)) 4 0,o3 (.mv (ci' 0)) 6 0]
def ybuy:LO:=[fa' 0 1 4 7 0,ld' false 1 7 8 1]
def ycdv:LO:=[o3 (.bin .eql (.tmp 8) (ci' 1)) 10 0,mv' 10 9 1]
def ybvb:LO:=[fa' 1 1 4 11 0,ld' false 1 11 12 1,mv' 12 6 3]
def ybws:LO:=[o3 (.bin .eql (.tmp 8) (ci' 2)) 14 0,mv' 14 13 1]
def ybzn:LO:=[o3 (.mv (ci' 1)) 6 0]
def ycaj:LO:=[o3 (.bin .eql (.tmp 8) (ci' 3)) 16 0,mv' 16 15 1]
def ybwo:LO:=[o3 (.mv (ci' 0)) 6 0]
def ybzx:LO:=[o3 (.bin .eql (.tmp 8) (ci' 4)) 18 0,mv' 18 17 1]
def ybxb:LO:=[o3 (.mv (.const (.int .i64 (-1)))) 6 0]
def ybjf:LO:=[o3 (.bin .eql (.tmp 8) (ci' 5)) 20 0,mv' 20 19 1]
def ybox:LO:=[mv' 0 21 0,o3 (.nilck (.tmp 21)) 22 1,fa' 1 1 22 23 3,ld' false 1 23 24 7,mv' 0 25 0,o3 (.nilck (.tmp 25)) 26 16,fa' 2 1 26 27 48,ld' false 1 27 28 112,ix' 1 24 28 29 255,ld' false 1 29 30 511,fa' 1 1 4 31 0,ld' false 1 31 32 1024,ix' 1 30 32 33 4095,ld' false 1 33 34 8191,mv' 34 6 16383]
def ybpa:LO:=[o3 (.bin .eql (.tmp 8) (ci' 12)) 36 0,mv' 36 35 1]
def ybmu:LO:=[mv' 0 37 0,o3 (.nilck (.tmp 37)) 38 1,fa' 1 1 38 39 3,ld' false 1 39 40 7,mv' 0 41 0,o3 (.nilck (.tmp 41)) 42 16,fa' 0 1 42 43 48,ld' false 1 43 44 112,o3 (.nilck (.tmp 44)) 45 240,fa' 3 2 45 46 496,fa' 1 1 46 47 1008,ld' false 1 47 48 2032,mv' 0 49 0,o3 (.nilck (.tmp 49)) 50 4096,fa' 2 1 50 51 12288,ld' false 1 51 52 28672,ix' 1 48 52 53 65520,ld' false 1 53 54 131056,mv' 2 55 0,ix' 2 54 55 56 524272,fa' 0 1 56 57 1048560,ld' false 1 57 58 2097136,ix' 1 40 58 59 4194303,ld' false 1 59 60 8388607,fa' 1 1 4 61 0,ld' false 1 61 62 16777216,ix' 1 60 62 63 67108863,ld' false 1 63 64 134217727,mv' 64 6 268435455]
def yblg:LO:=[mv' 0 65 0,o3 (.nilck (.tmp 65)) 66 1,fa' 0 1 66 67 3,ld' false 1 67 68 7,fa' 0 1 4 69 0,ld' false 1 69 70 16,mv' 0 71 0,o3 (.nilck (.tmp 71)) 72 64,fa' 2 1 72 73 192,ld' false 1 73 74 448,mv' 2 75 0,cl' 193 [68,70,74,75] 76 2047,mv' 76 6 4095]
def c174:SC:=(.seq (.reg false ycar) (.seq (.seq (.reg false ybuy) (.block 0 (.seq (.reg false ycdv) (.cond (.tmp 9) (.seq (.reg false ybvb) .ret) (.seq (.reg false ybws) (.cond (.tmp 13) (.seq (.reg false ybzn) .ret) (.seq (.reg false ycaj) (.cond (.tmp 15) (.seq (.reg false ybwo) .ret) (.seq (.reg false ybzx) (.cond (.tmp 17) (.seq (.reg false ybxb) .ret) (.seq (.reg false ybjf) (.cond (.tmp 19) (.seq (.reg true ybox) .ret) (.seq (.reg false ybpa) (.cond (.tmp 35) (.seq (.reg true ybmu) .ret) .skip)))))))))))))) (.seq (.reg true yblg) .ret)))
theorem ychu:Fn 174 c174 [.t 6]:=fn_0 Tryz.func174 (by kernel_rfl) (by kernel_rfl)
def ybwm:LO:=[o3 (.mv (ci' 0)) 6 0,o3 (.mv (ci' 0)) 7 1]
def ybve:LO:=[o3 (.alloc 206 24 [.i .i64 0]) 8 0]
def ybvr:LO:=[mv' 0 11 0,o3 (.nilck (.tmp 11)) 12 1,fa' 0 1 12 13 3,ld' false 1 13 14 7,o3 (.nilck (.tmp 14)) 15 15,fa' 3 2 15 16 31,fa' 1 1 16 17 63,ld' false 1 17 18 127,mv' 0 19 0,o3 (.nilck (.tmp 19)) 20 256,fa' 2 1 20 21 768,ld' false 1 21 22 1792,ix' 1 18 22 23 4095,ld' false 1 23 24 8191,ln' 24 25 16383,mv' 25 9 32767]
def ybyb:LO:=[mv' 9 26 0,o3 (.mv (ci' 0)) 27 0]
def ycdn:LO:=[bn' .lss 27 26 28 0]
def ybxs:LO:=[mv' 27 29 0,mv' 29 10 1]
def ybzz:LO:=[mv' 10 31 0,mv' 0 32 0,mv' 2 33 0,o3 (.bin .add (.tmp 33) (ci' 1)) 34 4,mv' 10 35 0,cl' 161 [32,34,35] 36 30,mv' 36 30 62,xt' 30 0 37 126,xt' 30 1 38 126,o3 (.idxA 24 1 (.tmp 8) (.tmp 31)) 39 255,o0 (.store 1 (.tmp 39) (.tmp 37)) 767,mv' 38 7 2047]
def ycaz:LO:=[o3 (.bin .add (.tmp 27) (ci' 1)) 40 0,mv' 40 27 1]
def ycdc:LO:=[mv' 9 41 0,o3 (.bin .eql (.tmp 41) (ci' 0)) 42 1]
def ybxw:LO:=[mv' 0 43 0,o3 (.nilck (.tmp 43)) 44 1,fa' 3 1 44 45 3,ld' false 1 45 46 7,mv' 2 47 0,cl' 169 [46,47] 48 31,mv' 48 7 63]
def ybog:LO:=[mv' 1 49 0,mv' 9 50 0,o3 (.cutA 24 1 (.tmp 8) none (some (.tmp 50))) 51 2,cl' 195 [49,51] 52 7,mv' 7 53 0,mv' 52 6 15,mv' 53 7 63]
def c176:SC:=(.seq (.reg false ybwm) (.seq (.reg false ybve) (.seq (.reg true ybvr) (.seq (.seq (.reg false ybyb) (.block 0 (.loop (.seq (.reg false ycdn) (.seq (.cond (.tmp 28) .skip (.exit 0)) (.seq (.block 1 (.seq (.reg false ybxs) (.reg false ybzz))) (.reg false ycaz))))))) (.seq (.seq (.reg false ycdc) (.cond (.tmp 42) (.reg false ybxw) .skip)) (.seq (.reg false ybog) .ret))))))
theorem ychm:Fn 176 c176 [.t 6,.t 7]:=fn_0 Tryz.func176 (by kernel_rfl) (by kernel_rfl)
end Sh
end
section
def adj(g:Gr)(u v:Nat):Prop:=∃ls,g.ports[u]?=some ls/\∃l∈ls,l.1=(v:Int)
def Walk(g:Gr)(a:Nat):Nat->Nat->Prop
 |0,v=>v=a
 |k+1,v=>∃u,Walk g a k u/\adj g u v
def ycgq(g:Gr)(a v:Nat)(x:Int):Prop:=(x = -1/\∀k,¬Walk g a k v)\/∃k:Nat,x=k/\Walk g a k v/\∀j,j<k->¬Walk g a j v
def ycoi(g:Gr)(a:Nat)(D:List Int):Prop:=D.length=g.ports.length/\∀v x,D[v]?=some x->ycgq g a v x
theorem ybc.link{g:Gr}(h:ybc g){v:Nat}{ls:List (Int×Int)}(hv:g.ports[v]?=some ls){l:Int×Int}(hl:l∈ls):0<=l.1/\l.1<g.ports.length/\l.1≠v/\1<=l.2/\l.2<=15:=by
 obtain⟨hlt,e⟩:=List.getElem?_eq_some_iff.1 hv;have:=(h.2.2.2.2.2.1 ⟨v,hlt⟩).1 l (by simp only[Fin.getElem_fin,e];exact hl)
 unfold yjd at this;simp only at this;omega
theorem ybc.adj_lt{g:Gr}(h:ybc g){u v:Nat}(ha:adj g u v):u<g.ports.length/\v<g.ports.length:=by
 obtain⟨ls,h1,l,hl,e⟩:=ha;have:=h.link h1 hl;exact⟨(List.getElem?_eq_some_iff.1 h1).1,by omega⟩
theorem ybc.adj_symm{g:Gr}(h:ybc g){u v:Nat}(ha:adj g u v):adj g v u:=by
 obtain⟨hu,hv⟩:=h.adj_lt ha;obtain⟨ls,h1,l,hl,e⟩:=ha;obtain⟨hlt,e1⟩:=List.getElem?_eq_some_iff.1 h1;have:=h.2.2.2.2.2.2 ⟨u,hlt⟩ l (by simp only[Fin.getElem_fin,e1];exact hl)
 rw[e,zN]at this;simp only[zH,zB hv,Option.getD_some]at this;exact⟨_,zB hv,_,this,rfl⟩
structure BfsInv(g:Gr)(a:Nat)(R:List Int)(Q:List Nat):Prop where
 len:R.length=g.ports.length
 src:R[a]?=some 0
 val:∀(v:Nat) (x:Int),R[v]?=some x->x = -1\/∃k:Nat,x=k/\Walk g a k v/\∀j,j<k->¬Walk g a j v
 qin:∀q∈Q,∃k:Nat,R[q]?=some (k:Int)
 sorted:Q.Pairwise (fun p q=>∀x y,R[p]?=some x->R[q]?=some y->x<=y/\y<=x+1)
 done:∀(v k:Nat),R[v]?=some (k:Int)->v∉Q->∀u,adj g v u->∃j:Nat,R[u]?=some (j:Int)
structure BfsIn(g:Gr)(a v d:Nat)(ls:List (Int×Int))(i:Nat)(R:List Int)(Q:List Nat):Prop where
 len:R.length=g.ports.length
 src:R[a]?=some 0
 val:∀(v:Nat) (x:Int),R[v]?=some x->x = -1\/∃k:Nat,x=k/\Walk g a k v/\∀j,j<k->¬Walk g a j v
 qin:∀q∈Q,∃k:Nat,R[q]?=some (k:Int)
 sorted:Q.Pairwise (fun p q=>∀x y,R[p]?=some x->R[q]?=some y->x<=y/\y<=x+1)
 rv:R[v]?=some (d:Int)
 low:∀q∈Q,∀y,R[q]?=some y->(d:Int)<=y/\y<=d+1
 done:∀(u k:Nat),R[u]?=some (k:Int)->u∉Q->u≠v->∀t,adj g u t->∃j:Nat,R[t]?=some (j:Int)
 part:∀l∈ls.take i,∃j:Nat,R[l.1.toNat]?=some (j:Int)
theorem BfsInv.start{g:Gr}{a:Nat}(ha:a<g.ports.length):BfsInv g a ((zAF g.ports.length (-1)).set a 0) [a] where
 len:=by simp
 src:=by simp[ha]
 val := by
  intro v x h;rw[zK]at h;split at h
  ·rename_i e
   subst e;simp[ha]at h;subst h;exact .inr ⟨0,rfl,rfl,fun j hj=>absurd hj (by omega)⟩
  ·rw[zM]at h;split at h
   ·cases h;exact .inl rfl
   ·cases h
 qin:=by
  intro q hq;obtain rfl:q=a:=by simpa using hq
  exact⟨0,by simp[ha]⟩
 sorted:=by simp
 done:=by
  intro v k h hv u _;rw[zK]at h;split at h
  ·rename_i e
   exact absurd (by simp[e]) hv
  ·rw[zM]at h;split at h
   ·cases h
   ·cases h
theorem BfsIn.finish{g:Gr}{a v d:Nat}{ls:List (Int×Int)}{R:List Int}{Q:List Nat}(h:BfsIn g a v d ls ls.length R Q)(hls:g.ports[v]?=some ls):BfsInv g a R Q where
 len:=h.len
 src:=h.src
 val:=h.val
 qin:=h.qin
 sorted:=h.sorted
 done:=by
  intro u k hu hq t ht
  by_cases e:u=v
  ·subst e;obtain⟨ls',h1,l,hl,e2⟩:=ht;rw[hls]at h1;cases h1
   have:=h.part l (by rw[zX];exact hl)
   rwa [e2,zN]at this
  ·exact h.done u k hu hq e t ht
theorem BfsIn.skip{g:Gr}{a v d:Nat}{ls:List (Int×Int)}{i:Nat}{R:List Int}{Q:List Nat}(h:BfsIn g a v d ls i R Q)(hi:i<ls.length){j:Nat}(hj:R[ls[i].1.toNat]?=some (j:Int)):BfsIn g a v d ls (i+1) R Q :=
 ⟨h.len,h.src,h.val,h.qin,h.sorted,h.rv,h.low,h.done,by
   intro l hl;rw[take_snoc ls i hi]at hl;rcases List.mem_append.1 hl with hl|hl
   ·exact h.part l hl
   ·obtain rfl:l=ls[i]:=by simpa using hl
    exact⟨j,hj⟩⟩
theorem BfsIn.found{g:Gr}{a v d:Nat}{ls:List (Int×Int)}{i:Nat}{R:List Int}{Q:List Nat}(h:BfsIn g a v d ls i R Q) :
 ∀k,k<=d->∀t,Walk g a k t->∃j:Nat,R[t]?=some (j:Int):=by
 intro k
 induction k with
 |zero=>intro _ t ht;obtain rfl:t=a:=ht;exact⟨0,h.src⟩
 | succ k ih =>
   intro hk t ⟨p,hp,hpt⟩;obtain⟨j,hj⟩:=ih (by omega) p hp
   have hjk:j<=k:=by
    rcases h.val p _ hj with e|⟨k',e,_,hmin⟩
    ·omega
    ·have:j=k':=by omega
     subst this;rcases zAG k j with hlt|hge
     ·exact absurd hp (hmin k hlt)
     ·exact hge
   refine h.done p j hj ?_ ?_ t hpt
   ·intro hq;have:=(h.low p hq _ hj).1;omega
   ·rintro rfl;have e1:=h.rv;rw[hj]at e1;have e2:=Option.some.inj e1;omega
end
section
def ybue(R:List Int)(x:Int)(ls:List (Int×Int)):Bool:=ls.any (fun l=>decide (R[l.1.toNat]?=some x))
def ybrq(g:Gr)(d:Int)(R:List Int)(v:Nat):List Int :=
 if decide (R.getD v 0<0)&&ybue R (d-1) (g.ports.getD v [])then R.set v d else R
def stepD(g:Gr)(R:List Int)(d:Nat):List Int:=(zL g.ports.length).foldl (ybrq g d) R
def start(g:Gr)(a:Nat):List Int:=(zAF g.ports.length (-1)).set a 0
def yds(g:Gr)(a:Nat):List Int:=(zL (g.ports.length-1)).foldl (fun R d=>stepD g R (d+1)) (start g a)
def Upto(g:Gr)(a d v:Nat)(x:Int):Prop:=(x = -1/\∀k,k<=d->¬Walk g a k v)\/∃k:Nat,k<=d/\x=k/\Walk g a k v/\∀j,j<k->¬Walk g a j v
theorem Upto.eq{g:Gr}{a d v:Nat}{x:Int}(h:Upto g a d v x){k:Nat}(hk:k<=d):x=k↔Walk g a k v/\∀j,j<k->¬Walk g a j v:=by
 rcases h with⟨rfl,h1⟩|⟨i,hi,rfl,h1,h2⟩
 ·exact⟨fun e=>by omega,fun e=>absurd e.1 (h1 k hk)⟩
 ·constructor
  ·intro e;obtain rfl:i=k:=by omega
   exact⟨h1,h2⟩
  ·rintro⟨h3,h4⟩;rcases Nat.lt_trichotomy i k with h|h|h
   ·exact absurd h1 (h4 i h)
   ·omega
   ·exact absurd h3 (h2 k h)
theorem Upto.more{g:Gr}{a d v:Nat}{x:Int}(h:Upto g a d v x)(hx:0<=x):Upto g a (d+1) v x:=by
 rcases h with⟨rfl,h1⟩|⟨i,hi,rfl,h1,h2⟩
 ·omega
 ·exact .inr ⟨i,by omega,rfl,h1,h2⟩
structure LayerInv(g:Gr)(a d v:Nat)(R:List Int):Prop where
 len:R.length=g.ports.length
 new:∀(u:Nat) (x:Int),R[u]?=some x->u<v->Upto g a (d+1) u x
 old:∀(u:Nat) (x:Int),R[u]?=some x->v<=u->Upto g a d u x
theorem LayerInv.at_{g:Gr}{a d v:Nat}{R:List Int}(h:LayerInv g a d v R){u:Nat}(hu:u<g.ports.length):R[u]?=some (d:Int)↔Walk g a d u/\∀j,j<d->¬Walk g a j u:=by
 have hl:=h.len;have e:R[u]?=some R[u]:=zB (by omega)
 have hx:R[u]=(d:Int)↔Walk g a d u/\∀j,j<d->¬Walk g a j u:=by
  by_cases hv:u<v
  ·exact(h.new u _ e hv).eq (by omega)
  ·exact(h.old u _ e (by omega)).eq (by omega)
 rw[e]
 simpa using hx
theorem LayerInv.step{g:Gr}(hg:ybc g){a d v:Nat}{R:List Int}(h:LayerInv g a d v R)(hv:v<g.ports.length):LayerInv g a d (v+1) (ybrq g ((d:Int)+1) R v):=by
 have hlen:=h.len;have ev:R[v]?=some R[v]:=zB (by omega)
 have eg:R.getD v 0=R[v]:=by simp[zH,ev]
 have ep:g.ports.getD v []=g.ports[v]:=by simp[zH,zB hv]
 have hhas:ybue R ((d:Int)+1-1) g.ports[v]=true↔∃u,adj g u v/\Walk g a d u/\∀j,j<d->¬Walk g a j u:=by
  unfold ybue;rw[List.any_eq_true];constructor
  ·rintro⟨l,hl,h1⟩;have hlk:=hg.link (zB hv) hl;have h1:=of_decide_eq_true h1;rw[show(d:Int)+1-1=d by omega]at h1
   refine⟨l.1.toNat,hg.adj_symm ⟨_,zB hv,l,hl,by omega⟩,?_⟩
   exact(h.at_ (by omega)).1 h1
  ·rintro⟨u,hu,hw⟩;obtain⟨hu1,_⟩:=hg.adj_lt hu;obtain⟨ls,h1,l,hl,e⟩:=hg.adj_symm hu;rw[zB hv]at h1;cases h1
   refine⟨l,hl,decide_eq_true ?_⟩;rw[e,zN,show(d:Int)+1-1=d by omega]
   exact(h.at_ hu1).2 hw
 have hov:=h.old v _ ev (zC _);unfold ybrq;rw[eg,ep]
 by_cases c1:R[v]<0
 ·have hx:R[v] = -1/\∀k,k<=d->¬Walk g a k v:=by
   rcases hov with h1|⟨k,_,e,_⟩
   ·exact h1
   ·omega
  by_cases c2:ybue R ((d:Int)+1-1) g.ports[v]=true
  ·rw[if_pos (by rw[zG];exact⟨decide_eq_true c1,c2⟩)]
   obtain⟨p,hp,hw,_⟩:=hhas.1 c2;have hset:∀t,t≠v->(R.set v ((d:Int)+1))[t]?=R[t]?:=fun t ht=>by rw[zK,if_neg (by omega)]
   refine⟨by simp[hlen],fun u x hu huv=>?_,fun u x hu huv=>?_⟩
   ·by_cases e:u=v
    ·subst e;rw[zK,if_pos rfl,if_pos (by omega)]at hu
     cases hu
     exact .inr ⟨d+1,zC _,by omega,⟨p,hw,hp⟩,fun j hj=>hx.2 j (by omega)⟩
    ·rw[hset u e]at hu;exact h.new u x hu (by omega)
   ·rw[hset u (by omega)]at hu
    exact h.old u x hu (by omega)
  ·rw[if_neg (fun e=>c2 (zG _ _▸e).2)];refine⟨hlen,fun u x hu huv=>?_,fun u x hu huv=>h.old u x hu (by omega)⟩
   by_cases e:u=v
   ·subst e;rw[ev]at hu;cases hu
    refine .inl ⟨hx.1,fun k hk hw=>?_⟩;rcases zAG d k with hlt|hge
    ·obtain rfl:k=d+1:=by omega
     obtain⟨p,hp,hpv⟩:=hw;refine c2 (hhas.2 ⟨p,hpv,hp,fun j hj hw'=>hx.2 (j+1) (by omega) ⟨p,hw',hpv⟩⟩)
    ·exact hx.2 k hge hw
   ·exact h.new u x hu (by omega)
 ·rw[if_neg (by simp[c1])]
  refine⟨hlen,fun u x hu huv=>?_,fun u x hu huv=>h.old u x hu (by omega)⟩
  by_cases e:u=v
  ·subst e;exact(h.old u x hu (zC _)).more (by rw[ev]at hu;cases hu;omega)
  ·exact h.new u x hu (by omega)
theorem yrf{g:Gr}(hg:ybc g){a d:Nat}{R:List Int}(h:LayerInv g a d 0 R):∀v,v<=g.ports.length->LayerInv g a d v ((zL v).foldl (ybrq g ((d:Int)+1)) R)
 |0,_=>h
 | v+1,hv=>by
   rw[zAE,zO];exact(yrf hg h v (by omega)).step hg (by omega)
def yud(g:Gr)(a d:Nat)(R:List Int):Prop:=R.length=g.ports.length/\∀(u:Nat) (x:Int),R[u]?=some x->Upto g a d u x
theorem ybfw{g:Gr}{a:Nat}(ha:a<g.ports.length):yud g a 0 (start g a):=by
 refine⟨by simp[start],fun u x hu=>?_⟩
 unfold start at hu;rw[zK]at hu;split at hu
 ·rename_i e
  subst e;simp[ha]at hu;subst hu;exact .inr ⟨0,zC _,rfl,rfl,fun j hj=>absurd hj (by omega)⟩
 ·rename_i e
  rw[zM]at hu;split at hu
  ·cases hu
   refine .inl ⟨rfl,fun k hk hw=>?_⟩;obtain rfl:k=0:=by omega
   exact e hw.symm
  ·cases hu
theorem ybfz{g:Gr}(hg:ybc g){a d:Nat}{R:List Int}(h:yud g a d R):yud g a (d+1) (stepD g R (d+1)):=by
 have h0:LayerInv g a d 0 R:=⟨h.1,fun _ _ _ hu=>absurd hu (by omega),fun u x hu _=>h.2 u x hu⟩
 have h1:=yrf hg h0 g.ports.length (zC _);unfold stepD;rw[show((d+1:Nat):Int)=(d:Int)+1 by omega]
 exact⟨h1.len,fun u x hu=>h1.new u x hu (by rw[<-h1.len];exact(List.getElem?_eq_some_iff.1 hu).1)⟩
theorem yor{g:Gr}(hg:ybc g){a:Nat}(ha:a<g.ports.length):∀d,yud g a d ((zL d).foldl (fun R d=>stepD g R (d+1)) (start g a))
 |0=>ybfw ha
 |d+1=>by rw[zAE,zO];exact ybfz hg (yor hg ha d)
theorem chain{g:Gr}{a:Nat}:∀k v,Walk g a k v->(∀j,j<k->¬Walk g a j v)->∃f:Nat->Nat,∀j,j<=k->Walk g a j (f j)/\∀i,i<j->¬Walk g a i (f j)
 | 0,v,h,_=>⟨fun _=>v,fun j hj=>by obtain rfl:j=0:=by omega
                                   exact⟨h,fun i hi=>absurd hi (by omega)⟩⟩
 | k + 1,v,h,hm=>by
   obtain⟨p,hp,hpv⟩:=h;obtain⟨f,hf⟩:=chain k p hp (fun j hj hw=>hm (j+1) (by omega) ⟨p,hw,hpv⟩)
   refine⟨fun j=>if j<=k then f j else v,fun j hj=>?_⟩
   by_cases hjk:j<=k
   ·simp only[if_pos hjk];exact hf j hjk
   ·obtain rfl:j=k+1:=by omega
    simp only[if_neg hjk];exact⟨⟨p,hp,hpv⟩,hm⟩
theorem walk_lt{g:Gr}(hg:ybc g){a:Nat}(ha:a<g.ports.length):∀k v,Walk g a k v->v<g.ports.length
 |0,v,h=>by obtain rfl:v=a:=h;exact ha
 |k+1,v,h=>by obtain⟨u,_,hu⟩:=h;exact(hg.adj_lt hu).2
theorem least_walk{g:Gr}{a v:Nat}:∀k,Walk g a k v->∃j,j<=k/\Walk g a j v/\∀i,i<j->¬Walk g a i v:=by
 intro k
 induction k using Nat.strongRecOn with
 | _ k ih =>
   intro hw
   by_cases h:∃j,j<k/\Walk g a j v
   ·obtain⟨j,hj,hwj⟩:=h;obtain⟨i,hi,r⟩:=ih j hj hwj;exact⟨i,by omega,r⟩
   ·exact⟨k,zC _,hw,fun i hi hwi=>h ⟨i,hi,hwi⟩⟩
theorem ybmn{g:Gr}(hg:ybc g){a v k:Nat}(ha:a<g.ports.length)(h:Walk g a k v)(hm:∀j,j<k->¬Walk g a j v):k<g.ports.length:=by
 obtain⟨f,hf⟩:=chain k v h hm;have hinj:∀i j,i<j->j<=k->f i≠f j:=fun i j hij hj e=>(hf j hj).2 i hij (by rw[<-e];exact(hf i (by omega)).1)
 have h1:((zL (k+1)).map f).Nodup:=by
  rw[List.Nodup,List.pairwise_map];refine(List.Pairwise.and_mem.1 List.pairwise_lt_range).imp ?_;rintro i j ⟨_,hj,hij⟩;exact hinj i j hij (by simp at hj;omega)
 have h2:(zL (k+1)).map f ⊆ zL g.ports.length:=by
  intro x hx;obtain⟨j,hj,rfl⟩:=List.mem_map.1 hx;simp only[List.mem_range]at hj ⊢;exact walk_lt hg ha j _ (hf j (by omega)).1
 have:=List.Nodup.length_le_of_subset h1 h2;simp at this;omega
theorem yim{g:Gr}(hg:ybc g){a:Nat}(ha:a<g.ports.length):ycoi g a (yds g a):=by
 obtain⟨h1,h2⟩:=yor hg ha (g.ports.length-1);refine⟨h1,fun v x hx=>?_⟩;rcases h2 v x hx with⟨rfl,h3⟩|⟨k,_,r⟩
 ·refine .inl ⟨rfl,fun k hk=>?_⟩;obtain⟨j,_,hj,hm⟩:=least_walk k hk;have:=ybmn hg ha hj hm;exact h3 j (by omega) hj
 ·exact .inr ⟨k,r⟩
end
section
def yng(g:Gr):Bool:=ygf g&&(yds g 0).all (fun x=>decide (0<=x))
theorem ywl(D:List Int):∀m:Int,m<=D.foldl max m:=by
 induction D with
 |nil=>intro m;exact Int.le_refl _
 |cons x D ih=>intro m;exact Int.le_trans (Int.le_max_left m x) (ih _)
theorem yya{g:Gr}(hg:ybc g){a:Nat}(ha:a<g.ports.length):(yds g a).length=g.ports.length:=(yim hg ha).1
theorem Walk.trans{g:Gr}{a b:Nat}:∀{j:Nat}{c:Nat}{k:Nat},Walk g a k b->Walk g b j c->Walk g a (k+j) c
 |0,c,k,h1,h2=>by obtain rfl:c=b:=h2;exact h1
 | j+1,c,k,h1,h2=>by
   obtain⟨u,hu,huc⟩:=h2;exact⟨u,Walk.trans h1 hu,huc⟩
theorem Walk.one{g:Gr}{a b:Nat}(h:adj g a b):Walk g a 1 b:=⟨a,rfl,h⟩
theorem Walk.symm{g:Gr}(hg:ybc g){a:Nat}:∀{k:Nat}{b:Nat},Walk g a k b->Walk g b k a
 |0,b,h=>by obtain rfl:b=a:=h;exact rfl
 | k+1,b,h=>by
   obtain⟨u,hu,hub⟩:=h;have:=Walk.trans (Walk.one (hg.adj_symm hub)) (Walk.symm hg hu)
   rwa [Nat.add_comm]at this
theorem yzv{g:Gr}(hg:ybc g){a:Nat}(ha:a<g.ports.length):(yds g a).all (fun x=>decide (0<=x))=true↔∀v,v<g.ports.length->∃k,Walk g a k v:=by
 have hd:=yim hg ha;rw[zY];constructor
 ·intro h v hv;have hv':v<(yds g a).length:=by rw[hd.1];exact hv
  rcases hd.2 v _ (zB hv')with⟨e,_⟩|⟨k,_,hk,_⟩
  ·have:=of_decide_eq_true (h _ (zZ hv'));omega
  ·exact⟨k,hk⟩
 ·intro h x hx;obtain⟨v,hv,rfl⟩:=List.mem_iff_getElem.1 hx;obtain⟨k,hk⟩:=h v (by rw[<-hd.1];exact hv)
  rcases hd.2 v _ (zB hv)with⟨e,h1⟩|⟨k,e,_⟩
  ·exact absurd hk (h1 k)
  ·rw[e];simp
theorem ybsn{g:Gr}(hg:ybc g){a b:Nat}(ha:a<g.ports.length)(hb:b<g.ports.length)(h:(yds g a).all (fun x=>decide (0<=x))=true):(yds g b).all (fun x=>decide (0<=x))=true:=by
 rw[yzv hg ha]at h;rw[yzv hg hb];intro v hv;obtain⟨k,hk⟩:=h v hv;obtain⟨j,hj⟩:=h b hb;exact⟨_,Walk.trans (Walk.symm hg hj) hk⟩
end
section
abbrev Conf:=List (List Int)
abbrev Bounds:=List (Int×Int)
def ypu(bs:Bounds)(s:List Int):Bool:=decide (s.length=bs.length)&&(bs.zip s).all (fun p=>decide (p.1.1<=p.2)&&decide (p.2<=p.1.2))
def ynk(n:Nat)(bs:Nat->Bounds)(c:Conf):Bool:=decide (c.length=n)&&c.zipIdx.all (fun p=>ypu (bs p.2) p.1)
def yfq(bs:Bounds)(s:List Int):Prop:=s.length=bs.length/\∀(i:Nat) b x,bs[i]?=some b->s[i]?=some x->b.1<=x/\x<=b.2
def ybbr(n:Nat)(bs:Nat->Bounds)(c:Conf):Prop:=c.length=n/\∀(v:Nat) s,c[v]?=some s->yfq (bs v) s
theorem yej(bs:Bounds)(s:List Int):ypu bs s=true↔yfq bs s:=by
 unfold ypu yfq;rw[zG,decide_eq_true_iff,zY];refine and_congr_right fun _=>⟨fun h i b x hb hx=>?_,fun h p hp=>?_⟩
 ·have:=h (b,x) (zF (i:=i) (by simp[zW,hb,hx]))
  simpa using this
 ·obtain⟨i,hi⟩:=List.mem_iff_getElem?.1 hp;obtain⟨b,x⟩:=p;rw[zW]at hi
  simpa using h i b x hi.1 hi.2
theorem ydz(n:Nat)(bs:Nat->Bounds)(c:Conf):ynk n bs c=true↔ybbr n bs c:=by
 unfold ynk ybbr;rw[zG,decide_eq_true_iff,zY];refine and_congr_right fun _=>⟨fun h v s hs=>?_,fun h p hp=>?_⟩
 ·refine(yej _ _).1 (h (s,v) ?_);rw[zS];exact hs
 ·rw[zS]at hp;exact(yej _ _).2 (h p.2 p.1 hp)
theorem yhc{n:Nat}{bs:Nat->Bounds}{c:Conf}(h:¬ybbr n bs c):ynk n bs c=false:=by
 cases hb:ynk n bs c with
 |false=>rfl
 |true=>exact absurd ((ydz n bs c).1 hb) h
theorem yqy{n:Nat}{bs:Nat->Bounds}{c:Conf}(h:ybbr n bs c):ynk n bs c=true:=(ydz n bs c).2 h
def ycix(g:Gr)(v:Nat):Nat:=(g.ports.getD v []).length
def ydk(g:Gr)(G:List Int)(v:Nat):Bounds:=G.map (fun h=>if h = -1 then(-1,(ycix g v:Int)-1)else(0,h))
def ybah(g:Gr):Int:=g.ids.foldl max 0
end
section
open Go.RowKit
end
section
open Go.RowKit
end
section
open Go.RowKit
end
section
end
section
def yxv(ids:List Int)(k:Nat):Int:=(ids.take k).tail.foldl max (ids.headD 0)
abbrev maxI(ids:List Int):Int:=yxv ids ids.length
theorem ybnf{ids:List Int}{k:Nat}(h1:1<=k)(hk:k<ids.length):(ids.take (k+1)).tail=(ids.take k).tail++[ids[k]]:=by
 rw[zQ hk,List.tail_append_of_ne_nil];intro h;have:=congrArg zAH h;rw[List.length_take,zAD]at this;omega
theorem yboo(ids:List Int):yxv ids 1=ids.headD 0:=by cases ids<;>simp[yxv]
theorem ybgq{ids:List Int}{k:Nat}(h1:1<=k)(hk:k<ids.length):yxv ids (k+1)=max (yxv ids k) ids[k]:=by
 unfold yxv;rw[ybnf h1 hk,zO];rfl
theorem ybsy{ids:List Int}(h0:0<ids.length)(h:∀x∈ids,0<=x):maxI ids=ids.foldl max 0:=by
 cases ids with
 |nil=>simp at h0
 | cons x l =>
   have hx:max 0 x=x:=Int.max_eq_right (h x (by simp))
   simp[maxI,yxv,hx]
def idxP(ids:List Int)(x:Int):Int:=match ids.findIdx? (fun y=>x==y)with
 |some i=>i
 |none=>-1
theorem ybtv{ids:List Int}{x:Int}{k:Nat}(hk:k<ids.length)(h:x=ids[k])(hn:(ids.take k).findIdx? (fun y=>x==y)=none):idxP ids x=k:=by
 unfold idxP
 have:ids.findIdx? (fun y=>x==y)=some k:=by
  rw[List.findIdx?_eq_some_iff_getElem];refine⟨hk,by simp[h],fun j hj=>?_⟩
  rw[List.findIdx?_eq_none_iff]at hn;simp[hn ids[j] (List.mem_take_iff_getElem.2 ⟨j,by omega,rfl⟩)]
 rw[this]
theorem ybot{ids:List Int}{x:Int}(hn:(ids.take ids.length).findIdx? (fun y=>x==y)=none):idxP ids x = -1:=by
 rw[zX]at hn;unfold idxP;rw[hn]
theorem ybrs{ids:List Int}{x:Int}{k:Nat}(hk:k<ids.length)(h:x≠ids[k])(hn:(ids.take k).findIdx? (fun y=>x==y)=none):(ids.take (k+1)).findIdx? (fun y=>x==y)=none:=by
 rw[zQ hk,List.findIdx?_append,hn];simp[h]
end
section
namespace Sh
open Go Ev
def yj(l:List Int):SV:=.sl 1 l.length (fun k=>[.i .i64 (l.getD k 0)])
def ybd(ls:List (Int×Int)):SV:=.sl 2 ls.length (fun j=>[.i .i64 (ls.getD j (0,0)).1,.i .i64 (ls.getD j (0,0)).2])
def ybf(ps:List (List (Int×Int))):SV:=.sl 1 ps.length (fun v=>[ybd (ps.getD v [])])
def ybk(c:List (List Int)):SV:=.sl 1 c.length (fun v=>[yj (c.getD v [])])
def grV(g:Gr):SV:=.ag [yj g.ids,ybf g.ports]
theorem ik{n:Int}(h1:-1000000000000<=n)(h2:n<=1000000000000):inK .i64 n:=by
 unfold inK;simp[IntKind.min,IntKind.max,IntKind.bits,IntKind.signed];omega
theorem ikw{n:Int}(h1:-4611686018427387904<=n)(h2:n<=4611686018427387904):inK .i64 n:=by
 unfold inK;simp[IntKind.min,IntKind.max,IntKind.bits,IntKind.signed];omega
theorem getD_at{α:Type}{l:List α}{k:Nat}{d:α}(h:k<l.length):l.getD k d=l[k]:=by simp[zH,h]
theorem ybrg{l:List Int}{i k:Nat}{x:Int}(h:i<l.length):(l.set i x).getD k 0=if k=i then x else l.getD k 0:=by
 simp only[zH,zK]
 by_cases q:i=k
 ·subst q;simp[h]
 ·rw[if_neg q,if_neg (Ne.symm q)]
theorem ybhg(l:List Int)(x:Int)(hl:l.length<=100000):Returns zA 216 [yj l,.i .i64 x] (.i .i64 (idxP l x)):=by
 refine Returns.of (ycil _ _ ?_);simp only[c216,ybwv,ycef,yj,go_sem,zV,↓reduceIte,reduceCtorEq];refine ybj (σ:=Nat) (fun k=>⟨[(8,.i .i64 k),(0,yj l),(1,.i .i64 x),(7,.i .i64 l.length)],[]⟩) (fun k=>k<=l.length/\(l.take k).findIdx? (fun y=>x==y)=none) (fun k=>l.length-k) 0 ⟨zAI _,by simp⟩ ?_ ?_
 ·refine yh [] [] [] ?_;simp only[yj,allQ,live,yg,Int.natCast_zero,go_sem,zI,↓reduceIte,reduceCtorEq]
 ·intro k ⟨hk,hno⟩;simp only[ycch,ycbd,ybzv,ycei,ycdy,yccj,yj,ybb,go_sem,zI,zV,↓reduceIte,reduceCtorEq];refine⟨fun h=>⟨by omega,fun he=>?_,fun he=>⟨ik (by omega) (by omega),?_⟩⟩,fun h=>?_⟩
  ·have hlt:k<l.length:=by omega
   rw[ybtv hlt (by rw[he,getD_at hlt]) hno]
  ·have hlt:k<l.length:=by omega
   refine yu (k+1) ⟨by omega,ybrs hlt (by rw[<-getD_at (d:=0) hlt];exact he) hno⟩ (by omega) ?_
   refine yh [] [] [] ?_;simp only[allQ,live,yg,ybb,go_sem,zI,↓reduceIte,reduceCtorEq];simp
  ·obtain rfl:k=l.length:=by omega
   rw[ybot hno]
theorem ycfz(l:List Int)(h0:0<l.length)(hl:l.length<=100000):Returns zA 158 [yj l] (.i .i64 (maxI l)):=by
 refine Returns.of (ycey _ _ ?_);simp only[c158,ycbx,ybzw,ybys,ybxg,ybyx,yj,go_sem,Int.reduceToNat,zI,zV,↓reduceIte,reduceCtorEq];refine⟨fun h=>by omega,fun _=>⟨by omega,?_⟩⟩
 refine ybj (σ:=Nat) (fun k=>⟨[(4,.i .i64 k),(3,.i .i64 (yxv l k)),(0,yj l)],[]⟩) (fun k=>1<=k/\k<=l.length) (fun k=>l.length-k) 1 ⟨by omega,by omega⟩ ?_ ?_
 ·refine yh [] [] [] ?_;simp only[yj,yboo,allQ,live,yg,ybb,go_sem,zI,↓reduceIte,reduceCtorEq];cases l<;>simp at h0 ⊢
 ·intro k ⟨hk1,hk⟩;simp only[ycbn,ycee,ycal,ycel,yj,ybb,go_sem,zI,zV,↓reduceIte,reduceCtorEq];refine⟨fun h=>⟨by omega,ik (by omega) (by omega),?_⟩,fun h=>?_⟩
  ·refine yu (k+1) ⟨by omega,by omega⟩ (by omega) ?_
   refine yh [] [] [] ?_;have hlt:k<l.length:=by omega
   simp only[ybgq hk1 hlt,getD_at hlt,allQ,live,yg,ybb,go_sem,zI,↓reduceIte,reduceCtorEq];simp
  ·obtain rfl:k=l.length:=by omega
   rfl
end Sh
end
section
namespace Sh
open Go Ev Go.RowKit
def GrI(g:Gr):Prop:=(∀x∈g.ids,I64 x)/\∀ls∈g.ports,∀l∈ls,I64 l.1/\I64 l.2
def ybes(c:List (List Int)):Prop:=∀s∈c,∀x∈s,I64 x
section
variable {G:AM}{m:Mem}{φ:Phi}{M:AM}{w:World}{u u':Value}
theorem ybtw {α:Type}{z n:Nat}{gg:Nat->List SV}{xs:List α}{E:Elem α}(hG:Le G m.b.get) (hr:RV G om0 (.sl z n gg) u) (hv:VR φ u u') (hR:Rel φ M w) (hs:Sub m M) (hn:xs.length=n)
 (hE:∀k x b o L L',xs[k]?=some x->RVL G om0 (gg k) L->VRL φ L L'->(∀j v,L'[j]?=some v->w.cell? ⟨b,o+j,none⟩=some v)->E w b o x):SlAt z E w u' xs:=by
 rcases hr.sl_inv with⟨rfl,h0⟩|⟨bk,p,cp,T,N,e,zz,L,rfl,g1,g2,g3,g4,g5,g6,g7⟩
 ·have:xs=[]:=List.eq_nil_of_length_eq_zero hn;subst this;rcases h0 with rfl|⟨b,o,c,rfl⟩
  ·have e:=hv.eq_simple rfl;subst e;exact SlAt.nil w
  ·obtain⟨lc,A,c',k1,k2,k3,k4,k5,k6,k7⟩:=hv.slice_inv;subst k3;exact⟨some A,c',rfl,zAI _,k6,fun q=>absurd q (by simp)⟩
 ·obtain⟨lc,A,c',k1,k2,k3,k4,k5,k6,k7⟩:=hv.slice_inv;subst k3;subst hn;refine⟨some A,c',rfl,k4,k6,fun hpos=>?_⟩;rcases k7 with⟨rfl,_⟩|k7
  ·obtain⟨lc',h1,h2⟩:=hR.blk _ _ (hs _ _ (hG _ _ g1));have k1':φ bk=some lc:=k1;rw[k1']at h1;cases h1
   obtain⟨h3,h4,cs,e2,fz2,h0,h5,h6,h7⟩:=h2;refine⟨lc.blk,lc.base+p,rfl,(Array.getElem?_eq_some_iff.1 h5).1,fun k x hx=>?_⟩;have hk:k<xs.length:=(List.getElem?_eq_some_iff.1 hx).1;have hin:=yht (z:=z) hk;have hcells:∀j v,j<z->(L k)[j]?=some v->∃v',cs[lc.base+(p+k*z+j)]?=some v'/\VR φ v v':=fun j v hj hv=>h7 _ v (by omega) (by rw[g5 k hk j hj];exact hv)
   have hex:∀(l:List Value) (q:Nat),(∀j v,l[j]?=some v->∃v',cs[q+j]?=some v'/\VR φ v v')->∃l',VRL φ l l'/\∀j v,l'[j]?=some v->cs[q+j]?=some v:=by
    intro l
    induction l with
    |nil=>intro q _;exact⟨[],.nil,fun j v h=>by simp at h⟩
    | cons a l ih =>
      intro q h;obtain⟨v',e1,e2⟩:=h 0 a rfl;obtain⟨l',e3,e4⟩:=ih (q+1) (fun j v hv=>by have:=h (j+1) v (by simpa using hv);rw[show q+1+j=q+(j+1)by omega];exact this)
      refine⟨v'::l',.cons e2 e3,fun j v hv=>?_⟩;cases j with
      |zero=>simp at hv;subst hv;exact e1
      |succ j=>have:=e4 j v (by simpa using hv);rw[show q+(j+1)=q+1+j by omega];exact this
   obtain⟨L',r1,r2⟩:=hex (L k) (lc.base+p+k*z) (fun j v hv=>by
    have hj:j<z:=by rw[<-g4 k hk];exact(List.getElem?_eq_some_iff.1 hv).1
    have:=hcells j v hj hv;rw[show lc.base+p+k*z+j=lc.base+(p+k*z+j)by omega]
    exact this)
   exact hE k x _ _ (L k) L' hx (g6 k hk) r1 fun j v hv=>cell_of h5 (by have:=r2 j v hv;exact this)
  ·omega
theorem ints_at{l:List Int}(hG:Le G m.b.get)(hr:RV G om0 (yj l) u)(hv:VR φ u u')(hR:Rel φ M w)(hs:Sub m M)(hI:∀x∈l,I64 x):ykc w u' l:=by
 refine ybtw hG hr hv hR hs rfl fun k x b o L L' hx hL hL' hc=>?_;have hk:k<l.length:=(List.getElem?_eq_some_iff.1 hx).1;have hxe:l.getD k 0=x:=by simp[zH,hx]
 rw[hxe]at hL;cases hL with
 | cons a b =>
   cases b
   cases a.int_inv
   obtain⟨v',rfl,hvv⟩:=ygm hL';have:=hvv.eq_simple rfl;subst this;exact⟨hc 0 _ rfl,hI x (zF hx)⟩
theorem ybre{ls:List (Int×Int)}(hG:Le G m.b.get)(hr:RV G om0 (ybd ls) u)(hv:VR φ u u')(hR:Rel φ M w)(hs:Sub m M)(hI:∀l∈ls,I64 l.1/\I64 l.2):yboi w u' ls:=by
 refine ybtw hG hr hv hR hs rfl fun k x b o L L' hx hL hL' hc=>?_;have hxe:ls.getD k (0,0)=x:=by simp[zH,hx]
 rw[hxe]at hL;cases hL with
 | cons a b =>
   cases b with
   | cons a2 b2 =>
     cases b2
     cases a.int_inv
     cases a2.int_inv
     obtain⟨v1,v2,rfl,h1,h2⟩:=yuo hL';have:=h1.eq_simple rfl;subst this;have:=h2.eq_simple rfl;subst this;exact⟨hc 0 _ rfl,hc 1 _ rfl,hI x (zF hx)⟩
theorem ybsw{ps:List (List (Int×Int))}(hG:Le G m.b.get)(hr:RV G om0 (ybf ps) u)(hv:VR φ u u')(hR:Rel φ M w)(hs:Sub m M)(hI:∀ls∈ps,∀l∈ls,I64 l.1/\I64 l.2):yti w u' ps:=by
 refine ybtw hG hr hv hR hs rfl fun k x b o L L' hx hL hL' hc=>?_;have hxe:ps.getD k []=x:=by simp[zH,hx]
 rw[hxe]at hL;cases hL with
 | cons a b =>
   cases b
   obtain⟨v',rfl,hvv⟩:=ygm hL';exact⟨v',hc 0 _ rfl,ybre hG a hvv hR hs (hI x (zF hx))⟩
theorem yciw{c:List (List Int)}(hG:Le G m.b.get)(hr:RV G om0 (ybk c) u)(hv:VR φ u u')(hR:Rel φ M w)(hs:Sub m M)(hI:ybes c):ycbw w u' c:=by
 refine ybtw hG hr hv hR hs rfl fun k x b o L L' hx hL hL' hc=>?_;have hxe:c.getD k []=x:=by simp[zH,hx]
 rw[hxe]at hL;cases hL with
 | cons a b =>
   cases b
   obtain⟨v',rfl,hvv⟩:=ygm hL';exact⟨v',hc 0 _ rfl,ints_at hG a hvv hR hs (hI x (zF hx))⟩
theorem yclw{g:Gr}(hG:Le G m.b.get)(hr:RV G om0 (grV g) u)(hv:VR φ u u')(hR:Rel φ M w)(hs:Sub m M)(hI:GrI g):GrAt w u' g:=by
 obtain⟨L,rfl,hL⟩:=hr.ag_inv;cases hL with
 | cons a b =>
   cases b with
   | cons a2 b2 =>
     cases b2
     obtain⟨L',rfl,hL'⟩:=hv.agg_inv;obtain⟨v1,v2,rfl,h1,h2⟩:=yuo hL';exact⟨v1,v2,rfl,ints_at hG a h1 hR hs hI.1,ybsw hG a2 h2 hR hs hI.2⟩
end
theorem ybnj {g:FuncId}{args:List SV}{r:SV}{v:Value}(hg:∃fn c,Tryz.prog.funcs[g]?=some fn/\fn.body=some c) (hrv:∀F,RV F om0 r v) (hvr:∀φ,VR φ v v)
 (h:∀(G:AM) (m:Mem) (us:List Value),Le G m.b.get->RVL G om0 args us->∀φ M w us',Rel φ M w->Sub m M->VRL φ us us'->Calls zA g us'.toArray w fun e w'=>e = .returned v/\Below w.heap.size w w'):Returns zA g args r:=by
 intro G m us hw hle hr;refine⟨v,enterM m,r,yjg ypc hg fun φ M w us' hR hs hv=>(h G m us hle hr φ M w us' hR hs hv).mono ?_,zC _,Le.refl _,rfl,hrv _⟩;rintro e w' ⟨rfl,hb⟩;exact⟨v,rfl,hvr φ,hb⟩
theorem rvl1{F:AM}{ω:Om}{a:SV}{us:List Value}(h:RVL F ω [a] us):∃u,us=[u]/\RV F ω a u:=by
 cases h with|cons x y=>cases y;exact⟨_,rfl,x⟩
theorem rvl2{F:AM}{ω:Om}{a b:SV}{us:List Value}(h:RVL F ω [a,b] us):∃u v,us=[u,v]/\RV F ω a u/\RV F ω b v:=by
 cases h with|cons x y=>obtain⟨v,rfl,q⟩:=rvl1 y;exact⟨_,v,rfl,x,q⟩
end Sh
end
section
open Go.RowKit
end
section
open Go.RowKit
theorem yuw:zAC=Array.replicate 256 (.bool false):=by kernel_rfl
def Seen(w:World)(g:Nat)(S:List Int):Prop:=∃cur,w.heap[g]?=some (.cells cur 159 (0,0))/\cur.size=256/\∀i:Nat,i<256->cur[i]?=some (.bool (decide ((i:Int)∈S)))
theorem Seen.cell{w:World}{g:Nat}{S:List Int}(h:Seen w g S){i:Nat}(hi:i<256):w.cell? ⟨g,i,none⟩=some (.bool (decide ((i:Int)∈S))):=by
 obtain⟨cur,h1,h2,h3⟩:=h;simp[World.cell?,h1,h3 i hi]
theorem Seen.frozen{w:World}{g:Nat}{S:List Int}(h:Seen w g S)(i:Nat):w.frozen? ⟨g,i,none⟩=false:=by
 obtain⟨cur,h1,h2,h3⟩:=h;simp[World.frozen?,h1]
theorem Seen.set_{w:World}{g:Nat}{S:List Int}(h:Seen w g S){i:Nat}:Seen (w.setCell ⟨g,i,none⟩ (.bool true)) g (S++[(i:Int)]):=by
 obtain⟨cur,h1,h2,h3⟩:=h;refine⟨cur.setIfInBounds i (.bool true),by simp[World.setCell,Array.getElem?_modify,h1],by simp[h2],fun j hj=>?_⟩
 rw[Array.getElem?_setIfInBounds];split
 ·subst_vars
  rw[if_pos (by omega)]
  simp
 ·rw[h3 j hj];congr 3;simp;omega
theorem Seen.start(w:World):Seen (w.alloc (.cells zAC 159)) w.heap.size []:=by
 refine⟨_,heap_alloc_new w _,by rw[yuw];simp,fun i hi=>?_⟩
 rw[yuw];simp[hi]
def ybbj(ids:List Int):Bool:=decide ((∀x∈ids,0<=x/\x<=255)/\ids.Nodup)
def ypy(ids:List Int)(k:Nat):Prop:=(∀x∈ids.take k,0<=x/\x<=255)/\(ids.take k).Nodup
theorem yboh{ids:List Int}{k:Nat}(hk:k<ids.length):ypy ids (k+1)↔ypy ids k/\(0<=ids[k]/\ids[k]<=255)/\ids[k]∉ids.take k:=by
 unfold ypy;rw[take_snoc ids k hk,List.nodup_append];constructor
 ·rintro⟨h1,h2,_,h3⟩;exact⟨⟨fun x hx=>h1 x (List.mem_append_left _ hx),h2⟩,h1 _ (List.mem_append_right _ (by simp)),fun hm=>h3 _ hm _ (by simp) rfl⟩
 ·rintro⟨⟨h1,h2⟩,h3,h4⟩;refine⟨fun x hx=>?_,h2,by simp,fun a ha b hb e=>?_⟩
  ·rcases List.mem_append.1 hx with hx|hx
   ·exact h1 x hx
   ·simp at hx;subst hx;exact h3
  ·simp at hb;subst hb e;exact h4 ha
theorem yzs{ids:List Int}{k:Nat}(h:¬ypy ids k):ybbj ids=false:=by
 unfold ybbj;rw[decide_eq_false_iff_not];exact fun hd=>h ⟨fun x hx=>hd.1 x (List.mem_of_mem_take hx),hd.2.sublist (List.take_sublist _ _)⟩
theorem ybfp{ids:List Int}(h:ypy ids ids.length):ybbj ids=true:=by
 unfold ypy at h;rw[zX]at h;exact decide_eq_true h
set_option maxRecDepth 100000 in
set_option maxHeartbeats 1000000 in
theorem ynj(iv:Value)(ids:List Int)(w:World)(hi:ykc w iv ids) :
 Calls zA 103 #[iv] w fun e w'=>e = .returned (.bool (ybbj ids))/\Below w.heap.size w w':=by
 obtain⟨A,c,rfl,hA1,hA2⟩:=ycp hi;have Hi:=zD hi
 clear hi
 go_enter Tryz.func103,Tryz.ntmps103
 go_wp2
 go_loopg [8] ids.length (fun q t wr=>∃k:Nat,q+k=ids.length/\t = .int .i64 k/\Hid (Below w.heap.size w wr)/\Hid (Seen wr w.heap.size (ids.take k))/\Hid (ypy ids k))
 case atStart=>exact⟨0,by omega,rfl,zD ((Below.refl _ _).alloc (zC _) _),zD (Seen.start w),zD ⟨by simp,by simp⟩⟩
 case round =>
  obtain⟨k,hq,rfl,hbel,hseen,hok⟩:=hrel
  by_cases hlt:k<ids.length
  ·obtain⟨b,off,rfl,hb,hcid,hr⟩:=ypr (Hi.out.below Stable.int hbel.out) hlt;obtain⟨x,hx⟩:∃x,ids[k]=x:=⟨_,rfl⟩;have Hsn:=zD (yboh hlt);rw[hx]at hcid hr Hsn;obtain⟨hr1,hr2⟩:=hr;have Hbad:=zD (fun h=>yzs (ids:=ids) (k:=k+1) h);have Hts:=zD (take_snoc ids k hlt);rw[hx]at Hts
   clear hx
   by_cases c1:0<=x/\x<=255
   ·obtain⟨c1a,c1b⟩:=c1;obtain⟨n,rfl⟩:=Int.eq_ofNat_of_zero_le c1a;have hcs:=hseen.out.cell (i:=n) (by omega)
    have hfs:=hseen.out.frozen n
    by_cases c2:(n:Int)∈ids.take k
    ·rw[decide_eq_true c2]at hcs;have Hf:=zD (Hbad.out (fun h=>(Hsn.out.1 h).2.2 c2))
     clear c2
     go_wp2
     go_ret
     exact⟨ybm Hf.out.symm,hbel.out⟩
    ·rw[decide_eq_false c2]at hcs;have Hn:=zD (Hsn.out.2 ⟨hok.out,⟨by omega,by omega⟩,c2⟩)
     clear c2
     go_wp2
     go_roundg (gk-1)
     case measure=>omega
     case rel =>
      refine⟨k+1,by omega,by go_num,zD (hbel.out.setCell (zC _) _),zD ?_,Hn⟩
      rw[Hts.out];exact hseen.out.set_
   ·have Hf:=zD (Hbad.out (fun h=>c1 (Hsn.out.1 h).2.1))
    by_cases c3:x<0
    ·clear c1
     go_wp2
     go_ret
     exact⟨ybm Hf.out.symm,hbel.out⟩
    ·have c4:255<x:=by omega
     clear c1
     go_wp2
     go_ret
     exact⟨ybm Hf.out.symm,hbel.out⟩
  ·obtain rfl:k=ids.length:=by omega
   have Ht:=zD (ybfp hok.out)
   go_wp2
   go_ret
   exact⟨ybm Ht.out.symm,hbel.out⟩
theorem ybnv(g:Gr)(h1:1<=g.ids.length)(h2:g.ids.length<=24)(h3:g.ports.length=g.ids.length):ygf g=(ybbj g.ids&&symB g.ports):=by
 unfold ygf ybbj symB;rw[<-Bool.decide_and];congr 1;apply propext;unfold ybc ybsb;constructor
 ·rintro⟨_,_,_,h4,h5,h6,h7⟩;exact⟨⟨h4,h5⟩,h6,h7⟩
 ·rintro⟨⟨h4,h5⟩,h6,h7⟩;exact⟨by omega,by omega,by omega,h4,h5,h6,h7⟩
set_option maxHeartbeats 1000000 in
theorem ybli(gv:Value)(g:Gr)(w:World)(hg:GrAt w gv g) :
 Calls zA 64 #[gv] w fun e w'=>e = .returned (.bool (ygf g))/\Below w.heap.size w w':=by
 obtain⟨i,p,rfl,hi,hp⟩:=hg;obtain⟨A,c,rfl,hA1,hA2⟩:=ycp hi;obtain⟨A2,c2,rfl,hB1,hB2⟩:=ycp hp;have Hi:=zD hi;have Hp:=zD hp
 clear hi hp
 by_cases n1:1<=g.ids.length
 ·by_cases n2:g.ids.length<=24
  ·by_cases n3:g.ports.length=g.ids.length
   ·have n3':((g.ports.length:Int)!=(g.ids.length:Int))=false:=by simp[n3]
    have He:=zD (ybnv g n1 n2 n3);have n3a:g.ports.length<=24:=by omega
    clear n3
    go_enter zT,zAA
    go_wp2_with fail
    refine(ynj _ g.ids _ (Hi.out.below Stable.int ((Below.refl _ _).alloc (zC _) _))).mono ?_;rintro e w1 ⟨rfl,hb1⟩;have Hb1:=zD (ycsz hb1);obtain⟨q0,q1⟩:=ycue hb1
    clear hb1
    cases hd:ybbj g.ids with
    | false =>
      have Hv:=zD (show ygf g=false by rw[He.out,hd];rfl)
      go_wp2_with fail
      go_ret
      exact⟨ybm Hv.out.symm,Hb1.out⟩
    | true =>
      have Hv:=zD (show ygf g=symB g.ports by rw[He.out,hd];rfl)
      go_wp2_with fail
      refine(yke _ g.ports _ (Hp.out.below (Stable.sl Stable.link) Hb1.out) (by omega)).mono ?_
      rintro e w2 ⟨rfl,hb2⟩
      go_wp2_with fail
      go_ret
      exact⟨ybm Hv.out.symm,Hb1.out.trans (hb2.mono Hb1.out.size)⟩
   ·have n3':((g.ports.length:Int)!=(g.ids.length:Int))=true:=by simp;omega
    have Hf:=zD (ygj (g:=g) (fun h=>n3 h.2.2.symm))
    clear n3
    go_enter zT,zAA
    go_wp2
    go_ret
    exact⟨ybm Hf.out.symm,(Below.refl _ _).alloc (zC _) _⟩
  ·have Hf:=zD (ygj (g:=g) (fun h=>n2 (by omega)))
   go_enter zT,zAA
   go_wp2
   go_ret
   exact⟨ybm Hf.out.symm,(Below.refl _ _).alloc (zC _) _⟩
 ·have Hf:=zD (ygj (g:=g) (fun h=>n1 (by omega)))
  go_enter zT,zAA
  go_wp2
  go_ret
  exact⟨ybm Hf.out.symm,(Below.refl _ _).alloc (zC _) _⟩
end
section
namespace Sh
open Go Ev Go.RowKit
theorem yeq{x:Int}(h:-4611686018427387904<=x/\x<=4611686018427387904):I64 x:=by
 unfold I64;omega
theorem yckc{g:Gr}(hg:ybc g):GrI g:=by
 obtain⟨h1,h2,h3,h4,h5,h6,h7⟩:=hg;refine⟨fun x hx=>yeq (by have:=h4 x hx;omega),fun ls hls l hl=>?_⟩
 obtain⟨v,hv,rfl⟩:=List.getElem_of_mem hls;obtain⟨a1,a2,a3,a4,a5⟩:=(h6 ⟨v,hv⟩).1 l hl;exact⟨yeq (by omega),yeq (by omega)⟩
theorem yrh{g:Gr}(hI:GrI g):Returns zA 64 [grV g] (.b (ygf g)):=by
 refine ybnj ⟨_,_,zT,rfl⟩ (fun _=>.b) (fun _=>.simple rfl) fun G m us hG hr φ M w us' hR hs hv=>?_;obtain⟨u,rfl,h1⟩:=rvl1 hr;obtain⟨u',rfl,h2⟩:=ygm hv;exact ybli u' g w (yclw hG h1 h2 hR hs hI)
end Sh
end
section
namespace Sh
open Go Ev
end Sh
end
section
structure VarR where
 name:ByteArray
 kind:Int
 lo:Int
 hi:Int
 perNode:Int
 perID:Int
def varE:Elem VarR:=fun w b o x=>w.cell? ⟨b,o,none⟩=some (.string x.name)/\w.cell? ⟨b,o+1,none⟩=some (.int .i64 x.kind)/\w.cell? ⟨b,o+2,none⟩=some (.int .i64 x.lo)/\w.cell? ⟨b,o+3,none⟩=some (.int .i64 x.hi) /\
 w.cell? ⟨b,o+4,none⟩=some (.int .i64 x.perNode)/\w.cell? ⟨b,o+5,none⟩=some (.int .i64 x.perID)
theorem Stable.var:Stable varE:=fun _ _ _ _ _ h _ hx=>⟨h _ _ hx.1,h _ _ hx.2.1,h _ _ hx.2.2.1,h _ _ hx.2.2.2.1,h _ _ hx.2.2.2.2.1,h _ _ hx.2.2.2.2.2⟩
theorem ybem(ids:List Int)(k:Nat)(hk:k<ids.length):(ids.take (k+1)).foldl max 0=max ((ids.take k).foldl max 0) ids[k]:=by
 rw[take_snoc ids k hk,zO];rfl
theorem yxr(D:List Int)(m:Int)(h:∀x∈D,x<=m):∀a:Int,a<=m->D.foldl max a<=m:=by
 induction D with
 |nil=>intro a ha;exact ha
 |cons x D ih=>intro a ha;exact ih (fun y hy=>h y (by simp[hy])) _ (Int.max_le.2 ⟨ha,h x (by simp)⟩)
theorem ypi{g:Gr}(hg:ybc g):0<=ybah g/\ybah g<=255:=⟨ywl _ _,yxr _ _ (fun x hx=>(hg.2.2.2.1 x hx).2) _ (by omega)⟩
end
section
abbrev Tm:=Int×Int
structure SetR where
 var:Int
 val:List Tm
structure RuleR where
 name:ByteArray
 guard:List Tm
 sets:List SetR
structure ProgR where
 name:ByteArray
 vars:List VarR
 rules:List RuleR
instance:Inhabited VarR:=⟨⟨.empty,0,0,0,0,0⟩⟩
instance:Inhabited SetR:=⟨⟨0,[]⟩⟩
instance:Inhabited RuleR:=⟨⟨.empty,[],[]⟩⟩
inductive Ex where
 |leaf (op arg:Int)
 |un (op:Int) (a:Ex)
 |agg (op:Int) (a:Ex)
 |bin (op:Int) (a b:Ex)
 |ite (c a b:Ex)
def Ex.ser:Ex->List Tm
 |.leaf op arg=>[(op,arg)]
 |.un op a=>(op,0)::a.ser
 |.agg op a=>(op,0)::a.ser
 |.bin op a b=>(op,0)::(a.ser++b.ser)
 |.ite c a b=>(43,0)::(c.ser++(a.ser++b.ser))
def satP(a:Int):Int:=max (-1073741824) (min a 1073741824)
def yeh(b:Bool):Int:=if b then 1 else 0
def yqq(a b:Int):Int:=if b=0 then 0 else if a.tmod b≠0/\(decide (a<0)≠decide (b<0))then a.tdiv b-1 else a.tdiv b
def unP(op a:Int):Int:=if op=18 then -a else yeh (a==0)
def cmpP(op a b:Int):Bool:=if op=35 then a==b else if op=36 then a != b else if op=37 then decide (a<b)else if op=38 then decide (a<=b)else if op=39 then decide (a>b)else decide (a>=b)
def binP(op a b:Int):Int :=
 if op=30 then satP (a*b)else if op=31 then satP (yqq a b)else if op=32 then(if b=0 then 0 else satP (a-b*yqq a b))else if op=33 then satP (a+b)else if op=34 then satP (a-b)
 else if op=41 then yeh (a != 0&&b != 0)else if op=42 then yeh (a != 0||b != 0)else yeh (cmpP op a b)
def countP(l:List Int):Int:=((l.filter (· != 0)).length:Int)
def yms(l:List Int):Int:=l.foldl min 1073741824
def ydj(l:List Int):Int×Int:=l.foldl (fun p a=>if a>p.1 then(a,p.1)else(p.1,max p.2 a)) (-1073741824,-1073741824)
def yni(l:List Int):Nat->Int->Int
 |0,r=>r
 |n+1,r=>if l.elem r then yni l n (r+1)else r
def mexP(l:List Int):Int:=yni l (l.length+1) 0
def yen(l:List Int):Int:=match l.findIdx? (· != 0)with|some i=>i|none=>-1
def yha(op:Int)(l:List Int):Int :=
 if op=20 then yeh (countP l==l.length)else if op=21 then yeh (decide (countP l>0))else if op=22 then countP l else if op=23 then yen l else if op=24 then yms l else if op=25 then(ydj l).1
 else if op=26 then satP l.sum else if op=27 then mexP l else if op=28 then(ydj l).2 else l.headD 0
structure Sc where
 g:Gr
 c:Conf
def ycl(g:Gr)(v port:Nat):Int×Int:=(g.ports.getD v []).getD port (0,0)
def yih(g:Gr)(v:Nat):List Int:=(g.ports.getD v []).map fun l=>yfz (g.ports.getD l.1.toNat []) v
def ykp(g:Gr)(op:Int)(v:Nat)(port:Int):Int :=
 if op=6 then g.ids.length else if op=7 then ybah g else if op=8 then g.ids.getD v 0 else if op=9 then((g.ports.getD v []).length:Int)else if op=10 then yeh ((v:Int)==0)else if op=11 then port
 else(let l:=ycl g v port.toNat
  if op=13 then g.ids.getD l.1.toNat 0 else if op=14 then((g.ports.getD l.1.toNat []).length:Int)else if op=15 then yeh (l.1==0)else if op=16 then l.2 else(yih g v).getD port.toNat 0)
def ypw(g:Gr)(c:Conf)(op arg:Int)(v:Nat)(port:Int):Int :=
 if op=1 then arg else if op=2 then 1 else if op=3 then 0 else if op=4 then -1 else if op=5 then(c.getD v []).getD arg.toNat 0 else if op=12 then(c.getD (ycl g v port.toNat).1.toNat []).getD arg.toNat 0
 else ykp g op v port
def yfa(g:Gr)(c:Conf)(v:Nat):Ex->Int->Int
 |.leaf op arg,p=>ypw g c op arg v p
 |.un op a,p=>unP op (yfa g c v a p)
 |.agg op a,_=>yha op ((zL (g.ports.getD v []).length).map fun(q:Nat)=>yfa g c v a (q:Int))
 |.bin op a b,p=>binP op (yfa g c v a p) (yfa g c v b p)
 |.ite x a b,p=>if yfa g c v x p≠0 then yfa g c v a p else yfa g c v b p
def Ex.ok(nv:Int)(bnd:Bool):Ex->Bool
 |.leaf op arg=>decide (1<=op/\op<=17)&&(if op=1 then decide (0<=arg/\arg<=1073741824)else if op=5\/op=12 then decide (0<=arg/\arg<nv)else true)&&(if 11<=op then bnd else true)
 |.un op a=>decide (op=18\/op=19)&&a.ok nv bnd
 |.agg op a=>decide (20<=op/\op<=29)&&a.ok nv true
 |.bin op a b=>decide (30<=op/\op<=42)&&a.ok nv bnd&&b.ok nv bnd
 |.ite x a b=>x.ok nv bnd&&a.ok nv bnd&&b.ok nv bnd
def InB(x:Int):Prop:=-1073741824<=x/\x<=1073741824
theorem ylz(a:Int):InB (satP a):=by unfold InB satP;omega
theorem yem(b:Bool):InB (yeh b):=by unfold InB yeh;cases b<;>simp
theorem ycnd{op a:Int}(h:InB a):InB (unP op a):=by
 unfold unP;split
 ·unfold InB at *;omega
 ·exact yem _
theorem yckg(op a b:Int):InB (binP op a b):=by
 unfold binP;split;· exact ylz _
 split;· exact ylz _
 split
 ·split
  ·unfold InB;omega
  ·exact ylz _
 split;· exact ylz _
 split;· exact ylz _
 split;· exact yem _
 split;· exact yem _
 exact yem _
theorem countP_le(l:List Int):0<=countP l/\countP l<=l.length:=by
 unfold countP;have:=List.length_filter_le (· != 0) l;omega
theorem ybnw(l:List Int)(h:∀x∈l,InB x):InB (yms l):=by
 unfold yms
 have:∀(l:List Int) (a:Int),InB a->(∀x∈l,InB x)->InB (l.foldl min a):=by
  intro l
  induction l with
  |nil=>intro a ha _;exact ha
  | cons x l ih =>
    intro a ha hl;refine ih _ ?_ fun y hy=>hl y (zAB _ hy);have:=hl x zU;unfold InB at *;omega
 exact this l _ (by unfold InB;omega) h
theorem ysb(l:List Int)(h:∀x∈l,InB x):InB (ydj l).1/\InB (ydj l).2:=by
 unfold ydj
 have:∀(l:List Int) (p:Int×Int),InB p.1/\InB p.2->(∀x∈l,InB x)->InB (l.foldl (fun p a=>if a>p.1 then(a,p.1)else(p.1,max p.2 a)) p).1/\InB (l.foldl (fun p a=>if a>p.1 then(a,p.1)else(p.1,max p.2 a)) p).2:=by
  intro l
  induction l with
  |nil=>intro p hp _;exact hp
  | cons x l ih =>
    intro p hp hl;refine ih _ ?_ fun y hy=>hl y (zAB _ hy);have:=hl x zU;unfold InB at *
    dsimp only
    split<;>dsimp only<;>omega
 exact this l _ (by unfold InB;simp) h
theorem ybdh(l:List Int):∀(n:Nat) (r:Int),r<=yni l n r/\yni l n r<=r+n
 |0,r=>by unfold yni;omega
 | n+1,r=>by
   unfold yni;have:=ybdh l n (r+1);split<;>omega
theorem yvj(l:List Int):-1<=yen l/\yen l<l.length\/yen l = -1:=by
 unfold yen;split
 ·rename_i i hi
  obtain⟨h,_⟩:=List.findIdx?_eq_some_iff_getElem.1 hi;left;omega
 ·exact .inr rfl
theorem ybrk{op:Int}{l:List Int}(hl:l.length<=1000)(h:∀x∈l,InB x):InB (yha op l):=by
 have hc:=countP_le l;unfold yha;split;· exact yem _
 split;· exact yem _
 split;· unfold InB;omega
 split;· have:=yvj l;unfold InB;omega
 split;· exact ybnw l h
 split;· exact(ysb l h).1
 split;· exact ylz _
 split;· have:=ybdh l (l.length+1) 0;unfold mexP InB;omega
 split;· exact(ysb l h).2
 cases l with
 |nil=>unfold InB;simp
 |cons x l=>exact h x zU
structure ConfIn(n nv:Nat)(c:Conf):Prop where
 len:c.length=n
 row:∀s∈c,s.length=nv/\∀x∈s,InB x
theorem ConfIn.at_{n nv:Nat}{c:Conf}(h:ConfIn n nv c){v:Nat}(hv:v<n):(c.getD v []).length=nv/\∀k,InB ((c.getD v []).getD k 0):=by
 have hlt:v<c.length:=by rw[h.len];exact hv
 have e:c.getD v []=c[v]:=by simp[zH,hlt]
 obtain⟨h1,h2⟩:=h.row c[v] (zZ hlt);rw[e];refine⟨h1,fun k=>?_⟩;rw[zJ];cases hk:c[v][k]? with
 |none=>simp;unfold InB;omega
 |some x=>simp;exact h2 x (zF hk)
theorem ybc.ycl{g:Gr}(hg:ybc g){v p:Nat}(hv:v<g.ports.length)(hp:p<(g.ports.getD v []).length):0<=(ycl g v p).1/\(ycl g v p).1<g.ports.length/\1<=(ycl g v p).2/\(ycl g v p).2<=15:=by
 have e:g.ports.getD v []=g.ports[v]:=by simp[zH,hv]
 have h1:=hg.2.2.2.2.2.1 ⟨v,hv⟩;rw[e]at hp;have hm:(g.ports[v])[p]∈g.ports[v]:=zZ hp;have h2:=h1.1 _ hm;unfold yjd at h2;have e2:Go.Proofs.YtiejahgklcjhkaaGreat.ycl g v p=(g.ports[v])[p]:=by unfold Go.Proofs.YtiejahgklcjhkaaGreat.ycl;rw[e];simp[zH,hp]
 rw[e2];omega
theorem ybc.deg_lt{g:Gr}(hg:ybc g){v:Nat}:(g.ports.getD v []).length<24:=by
 by_cases hv:v<g.ports.length
 ·have h1:=hg.2.2.2.2.2.1 ⟨v,hv⟩;have:=yok hv h1;have e:g.ports.getD v []=g.ports[v]:=by simp[zH,hv]
  rw[e];have:=hg.2.1;have h3:g.ports[(⟨v,hv⟩:Fin g.ports.length)].length=g.ports[v].length:=rfl;omega
 ·rw[zJ,List.getElem?_eq_none (by omega)]
  simp
theorem ybc.id_in{g:Gr}(hg:ybc g)(v:Nat):0<=g.ids.getD v 0/\g.ids.getD v 0<=255:=by
 rw[zJ];cases h:g.ids[v]? with
 |none=>simp
 |some x=>exact hg.2.2.2.1 x (zF h)
theorem ybuk{g:Gr}{c:Conf}{n nv:Nat}(hg:ybc g)(hn:g.ports.length=n)(hc:ConfIn n nv c){op arg:Int}{bnd:Bool}(ho:(Ex.leaf op arg).ok nv bnd=true){v:Nat}(hv:v<n){p:Int}(hp:bnd=true->0<=p/\p<(g.ports.getD v []).length)(hpi:InB p):InB (ypw g c op arg v p):=by
 subst hn;have h24:=hg.2.1;have hd:=hg.deg_lt (v:=v);unfold ypw;simp only[Ex.ok,zG,decide_eq_true_eq]at ho;obtain⟨⟨ho1,ho2⟩,ho3⟩:=ho;split
 ·rename_i h;rw[if_pos h]at ho2;simp at ho2;unfold InB;omega
 split;· unfold InB;omega
 split;· unfold InB;omega
 split;· unfold InB;omega
 split;· exact(hc.at_ hv).2 _
 split
 ·rename_i h
  rw[if_pos (by omega)]at ho3
  obtain⟨q1,q2⟩:=hp ho3;have hl:=hg.ycl hv (p:=p.toNat) (by omega)
  exact(hc.at_ (v:=(ycl g v p.toNat).1.toNat) (by omega)).2 _
 ·unfold ykp;split;· rw[hg.2.2.1];unfold InB;omega
  split;· have:=ypi hg;unfold InB;omega
  split;· have:=hg.id_in v;unfold InB;omega
  split;· unfold InB;omega
  split;· exact yem _
  split;· exact hpi
  rename_i h6 h7 h8 h9 h10 h11
  rw[if_pos (by omega)]at ho3
  obtain⟨q1,q2⟩:=hp ho3;have hl:=hg.ycl hv (p:=p.toNat) (by omega)
  simp only;split;· have:=hg.id_in (ycl g v p.toNat).1.toNat;unfold InB;omega
  split;· have:=hg.deg_lt (v:=(ycl g v p.toNat).1.toNat);unfold InB;omega
  split;· exact yem _
  split;· unfold InB;omega
  ·unfold yih;rw[zJ,List.getElem?_map];cases hk:(g.ports.getD v [])[p.toNat]? with
   |none=>simp;unfold InB;omega
   | some l =>
     simp;have hd2:=hg.deg_lt (v:=l.1.toNat);rcases yub (ls:=g.ports.getD l.1.toNat []) (u:=(v:Int))with e|⟨k,e,hk⟩
     ·simp at e;rw[e];unfold InB;omega
     ·simp at e hk hd2;rw[e];unfold InB;omega
theorem ygi{g:Gr}{c:Conf}{n nv:Nat}(hg:ybc g)(hn:g.ports.length=n)(hc:ConfIn n nv c){v:Nat}(hv:v<n):∀(x:Ex) {bnd:Bool}{p:Int},x.ok nv bnd=true->(bnd=true->0<=p/\p<(g.ports.getD v []).length)->InB p->InB (yfa g c v x p)
 |.leaf op arg,bnd,p,h,hp,hpi=>ybuk hg hn hc h hv hp hpi
 | .un op a,bnd,p,h,hp,hpi=>by
   simp only[Ex.ok,zG]at h;exact ycnd (ygi hg hn hc hv a h.2 hp hpi)
 | .agg op a,bnd,p,h,hp,hpi=>by
   simp only[Ex.ok,zG]at h;have:=hg.deg_lt (v:=v);refine ybrk (by simp;simp at this;omega) fun x hx=>?_
   obtain⟨q,hq,rfl⟩:=List.mem_map.1 hx;have hq:=List.mem_range.1 hq;exact ygi hg hn hc hv a h.2 (fun _=>by omega) (by unfold InB;omega)
 |.bin op a b,bnd,p,h,hp,hpi=>yckg _ _ _
 | .ite x a b,bnd,p,h,hp,hpi=>by
   simp only[Ex.ok,zG]at h;unfold yfa;split
   ·exact ygi hg hn hc hv a h.1.2 hp hpi
   ·exact ygi hg hn hc hv b h.2 hp hpi
end
end Go.Proofs.YtiejahgklcjhkaaGreat
