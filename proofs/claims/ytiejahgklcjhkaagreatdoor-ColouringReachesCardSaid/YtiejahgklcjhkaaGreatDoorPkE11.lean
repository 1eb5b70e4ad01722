/- Lemmas, joined: ShS ScEv PlainC PlainD PlainF PlainG RefA RefB Small PlainH LdP SgA. -/
import Derived.Test.YtiejahgklcjhkaaGreatDoorPkE7
import Derived.Test.YtiejahgklcjhkaaGreatDoorPkE8
set_option linter.unusedSimpArgs false
set_option linter.unusedVariables false
namespace Go.Proofs.YtiejahgklcjhkaaGreatDoor
namespace Sh
open Go Ev
theorem ydan {g:FuncId} {fn:Func} {sc:SC} {rs:List SR} (hg:Tryz.prog.funcs[g]? = some fn) (hcmp:fn.body.bind (cmp Tryz.prog fn.ntmps)=some sc) (hrs:cmpR Tryz.prog fn.results.toList=some rs)
  {mu:List FuncId} {args:List SV} {Q:SV->Prop} (h:vc ⟨Ct Tryz.prog,Cm Tryz.prog,ItC Tryz.prog,[],mu⟩ sc (retK rs Q) ⟨slots args 0,[]⟩):Ct Tryz.prog g args Q:=by
 obtain⟨c,h1,h2⟩:=bind_some hcmp;exact ybzq mix ykz hg h1 h2 hrs h
theorem yczf {g:FuncId} {fn:Func} {sc:SC} {rs:List SR} (hg:Tryz.prog.funcs[g]? = some fn) (hcmp:fn.body.bind (cmp Tryz.prog fn.ntmps)=some sc) (hrs:cmpR Tryz.prog fn.results.toList=some rs)
  {pr:List Nm} {mu:List FuncId} {o:Own} {args:List SV} {Q:SV->Own->Prop} (h:vc ⟨Ct Tryz.prog,Cm Tryz.prog,ItC Tryz.prog,pr,mu⟩ sc (retM rs pr Q) ⟨slots args 0,o⟩):Cm Tryz.prog g pr o args Q:=by
 obtain⟨c,h1,h2⟩:=bind_some hcmp;exact ybqk mix ykz hg h1 h2 hrs h
def Fn(g:FuncId)(c:SC)(rs:List SR):Prop:=∀ (args:List SV) (Q:SV->Prop),vc ⟨Ct Tryz.prog,Cm Tryz.prog,ItC Tryz.prog,[],[]⟩ c (retK rs Q) ⟨slots args 0,[]⟩->Ct Tryz.prog g args Q
def FnU(g:FuncId)(c:SC)(rs:List SR):Prop:=∀ (mu:List FuncId) (args:List SV) (Q:SV->Prop),vc ⟨Ct Tryz.prog,Cm Tryz.prog,ItC Tryz.prog,[],mu⟩ c (retK rs Q) ⟨slots args 0,[]⟩->Ct Tryz.prog g args Q
def FnM(g:FuncId)(c:SC)(rs:List SR):Prop:=∀ (pr:List Nm) (mu:List FuncId) (o:Own) (args:List SV) (Q:SV->Own->Prop),vc ⟨Ct Tryz.prog,Cm Tryz.prog,ItC Tryz.prog,pr,mu⟩ c (retM rs pr Q) ⟨slots args 0,o⟩->Cm Tryz.prog g pr o args Q
section
variable {g:FuncId} {fn:Func} {sc:SC} {rs:List SR} (hg:Tryz.prog.funcs[g]? = some fn) (hcmp:fn.body.bind (cmp Tryz.prog fn.ntmps)=some sc) (hrs:cmpR Tryz.prog fn.results.toList=some rs)
include hg hcmp hrs
theorem fn_0:Fn g sc rs:=fun _ _ h=>ydan hg hcmp hrs h
theorem fn_u:FnU g sc rs:=fun _ _ _ h=>ydan hg hcmp hrs h
theorem fn_m:FnM g sc rs:=fun _ _ _ _ _ h=>yczf hg hcmp hrs h
end
def o3(x:SOp)(d a:Nat):SOper:=⟨x,some d,none,a⟩
def o0(x:SOp)(a:Nat):SOper:=⟨x,none,none,a⟩
abbrev LO:=List SOper
def mv'(x d a:Nat):SOper:=⟨.mv (.tmp x),some d,none,a⟩
def bn'(op:BinOp)(x y d a:Nat):SOper:=⟨.bin op (.tmp x) (.tmp y),some d,none,a⟩
def ld'(ag:Bool)(n x d a:Nat):SOper:=⟨.load ag n (.tmp x),some d,none,a⟩
def fa'(o n x d a:Nat):SOper:=⟨.faddr o n (.tmp x),some d,none,a⟩
def ix'(z x k d a:Nat):SOper:=⟨.idx z (.tmp x) (.tmp k),some d,none,a⟩
def ln'(x d a:Nat):SOper:=⟨.len (.tmp x),some d,none,a⟩
def xt'(x k d a:Nat):SOper:=⟨.extract (.tmp x) k,some d,none,a⟩
def cl'(g:FuncId)(xs:List Nat)(d a:Nat):SOper:=⟨.call (.func g) (xs.map .tmp),some d,none,a⟩
def ci'(n:Int):Operand:=.const (.int .i64 n)
attribute [go_sem] o3 o0 mv' bn' ld' fa' ix' ln' xt' cl' ci'
attribute [go_sem] ydgw ycte ybyv ybro ydhq ycvy ydfs ycvu ybzm yctu ybzj yxw yww ybji ybed puts ycss
attribute [go_sem] ydae ydhg ycyf yzp ybju ybmy yvq ybco ybik ybjc ybpe ybcf ybvl ybcm ybyn
attribute [go_sem] yon Fam.at Prod.mk.injEq ycul yctq ycsp ycvb ycws ycuu ybkp oldX oldV yht yld yblj ycvj gb_x ydgx resX ygd slots ybzk
attribute [go_sem] ybyp ybqd runO opO yblj xOp SS.get SS.pget SS.gets SS.lit look lookO SS.put SS.own ycty ycuy ycti ybym ybze ybwu ycae
attribute [go_sem] ybxb ybya ybvz ybvt ybfh simple yls yst ybau part idxX natX yop ybid xbin xun eqL splice fill OB.set ofV fits fitsM ybfp
attribute [go_sem] allP SRec.no SRec.pure clash nmem List.isEmpty_nil List.isEmpty_cons List.drop List.take List.all List.any List.map List.length List.head? List.append
attribute [go_sem] List.nil_append List.append_nil List.cons_append List.all_cons List.all_nil List.drop_succ_cons List.drop_zero List.take_succ_cons List.take_zero List.drop_nil
attribute [go_sem] List.take_nil List.length_cons List.length_nil List.map_cons List.map_nil List.getElem?_cons_zero List.getElem?_cons_succ List.elem Int.toNat_natCast Nat.zero_add
attribute [go_sem] Nat.add_zero if_true if_false ite_true ite_false Option.isNone Option.isNone_none Option.map_some Option.map_none Bool.not_true Bool.not_false Bool.true_or
attribute [go_sem] Bool.or_true Bool.false_or Bool.or_false Bool.and_true Bool.true_and Bool.and_false Bool.false_and Bool.and_self Bool.or_self true_and and_true and_self
attribute [go_sem] true_implies false_implies implies_true forall_const Nat.lt_add_one Nat.one_pos Nat.zero_lt_one Nat.lt_irrefl Nat.le_refl decide_true decide_false Bool.false_eq_true
attribute [go_sem] Bool.true_eq_false forall_eq BEq.rfl beq_self_eq_true decide_eq_true_eq decide_eq_false_iff_not beq_iff_eq beq_eq_false_iff_ne bne_iff_ne bne_eq_false_iff_eq
attribute [go_sem] Bool.not_eq_true Bool.not_eq_false Bool.not_eq_true' Bool.not_eq_false' ycsb ycqu ycrw ybzh ybwc ybns ycag ybwn ybzo
attribute [go_sem] ybxy ybtt ycrb yder ycrl ybvx ybwt ybwy ybxv ybvh yblg ybve ybjj ybnc ybru ybmc ybny
attribute [go_sem] ybtp ydbz ydaj ydcj ycts ycsd ybzi ycuh ycri ycsv ycrr ycsz ydhb ydhn ydhe ycyq ycyl ycuz ycyr ydfb ydcw
attribute [go_sem] ycyd yden yczy ydbv yddc ycqj ycxe ybvs ycrz ycsn ycwd yctm ycug
attribute [go_sem] ywq injOK idxF ydcu slotOk ownFits own1 ybhg Tel telL ybag ybuc ycvm ycvq ycql ybzf ycah ybxr ybxa ybvo ybzl
attribute [go_sem] ybyr ycaa ydgt ydhs ydgn ycyw yczx ycys ycye ydbe ydbc ycxy ydav lv nmem rid yex ydhf ycxf yyk ydek ycsm ylh
attribute [go_sem] yrx ybfm ycpd ydco ybhj ygs ydhy ydgv ydhl ydas ydcz ycsy ydcd ycyc ycxn yczv ydaf List.any_cons List.any_nil Option.isSome
attribute [go_sem] ycrk or_false false_or or_true true_or false_and exists_const exists_false List.not_mem_nil and_false
attribute [go_sem ↓] gb_t gb_f ydhp ydgr
end Sh
end Go.Proofs.YtiejahgklcjhkaaGreatDoor

namespace Go.Proofs.YtiejahgklcjhkaaGreatDoor
namespace Sh
open Go Ev
def ycet:LO:=[o3 (.mv (ci' 0)) 4 0]
def yckn:LO:=[mv' 0 6 0,ln' 6 7 1,o3 (.mv (ci' 0)) 8 0]
def ycoz:LO:=[bn' .lss 8 7 9 0]
def ycll:LO:=[mv' 8 10 0,mv' 10 5 1]
def ycov:LO:=[mv' 1 11 0,mv' 0 12 0,mv' 5 13 0,ix' 1 12 13 14 6,ld' false 1 14 15 14,bn' .eql 11 15 16 31]
def yciu:LO:=[mv' 5 17 0,mv' 17 4 1]
def ycbj:LO:=[o3 (.bin .add (.tmp 8) (ci' 1)) 18 0,mv' 18 8 1]
def ycbr:LO:=[o3 (.mv (.const (.int .i64 (-1)))) 4 0]
def c165:SC:=(.seq (.reg false ycet) (.seq (.seq (.reg false yckn) (.block 0 (.loop (.seq (.reg false ycoz) (.seq (.cond (.tmp 9) .skip (.exit 0)) (.seq (.block 1 (.seq (.reg false ycll) (.seq (.reg false ycov) (.cond (.tmp 16) (.seq (.reg false yciu) .ret) .skip)))) (.reg false ycbj))))))) (.seq (.reg false ycbr) .ret)))
theorem ycwk:Fn 165 c165 [.t 4]:=fn_0 Tryz.func165 (by kernel_rfl) (by kernel_rfl)
def ycpq:LO:=[o3 (.mv (ci' 0)) 2 0]
def ycer:LO:=[mv' 0 5 0,ln' 5 6 1,o3 (.bin .lss (.tmp 6) (ci' 1)) 7 3]
def ycfa:LO:=[o3 (.no) 8 0,o0 (.no) 1]
def ycig:LO:=[mv' 0 9 0,o3 (.idx 1 (.tmp 9) (ci' 0)) 10 1,ld' false 1 10 11 3,mv' 11 3 7]
def ycle:LO:=[o3 (.mv (ci' 1)) 4 0]
def ycjq:LO:=[mv' 4 12 0,mv' 0 13 0,ln' 13 14 2,bn' .lss 12 14 15 7]
def ycld:LO:=[mv' 3 18 0,mv' 0 19 0,mv' 4 20 0,ix' 1 19 20 21 6,ld' false 1 21 22 14,o3 (.mm true (.tmp 18) (.tmp 22)) 23 31,mv' 23 3 63]
def ycnp:LO:=[mv' 4 16 0,o3 (.bin .add (.tmp 16) (ci' 1)) 17 1,mv' 17 4 3]
def yceq:LO:=[mv' 3 24 0,mv' 24 2 1]
def c160:SC:=(.seq (.reg false ycpq) (.seq (.seq (.reg false ycer) (.cond (.tmp 7) (.reg false ycfa) .skip)) (.seq (.reg false ycig) (.seq (.seq (.reg false ycle) (.block 0 (.loop (.seq (.seq (.reg false ycjq) (.cond (.tmp 15) .skip (.exit 0))) (.seq (.block 1 (.reg false ycld)) (.reg false ycnp)))))) (.seq (.reg false yceq) .ret)))))
theorem ycsh:Fn 160 c160 [.t 2]:=fn_0 Tryz.func160 (by kernel_rfl) (by kernel_rfl)
def ycgw:LO:=[o3 (.mv (.const (.bool false))) 4 0]
def ycio:LO:=[mv' 0 5 0,mv' 1 6 0,cl' 165 [5,6] 7 3,o3 (.bin .geq (.tmp 7) (ci' 0)) 8 7,mv' 8 4 15]
def c274:SC:=(.seq (.reg false ycgw) (.seq (.reg false ycio) .ret))
theorem ycrt:Fn 274 c274 [.t 4]:=fn_0 Tryz.func274 (by kernel_rfl) (by kernel_rfl)
def ycga:LO:=[o3 (.mv (ci' 0)) 4 0]
def ycel:LO:=[mv' 0 6 0,ln' 6 7 1,o3 (.mv (ci' 0)) 8 0]
def ycjw:LO:=[bn' .lss 8 7 9 0]
def ycim:LO:=[mv' 8 10 0,mv' 10 5 1]
def ycau:LO:=[mv' 1 11 0,mv' 0 12 0,mv' 5 13 0,ix' 1 12 13 14 6,ld' false 1 14 15 14,o3 (.call (.tmp 11) [(.tmp 15)]) 16 31]
def ycbg:LO:=[mv' 5 17 0,mv' 17 4 1]
def ycnm:LO:=[o3 (.bin .add (.tmp 8) (ci' 1)) 18 0,mv' 18 8 1]
def ychf:LO:=[o3 (.mv (.const (.int .i64 (-1)))) 4 0]
def c267:SC:=(.seq (.reg false ycga) (.seq (.seq (.reg false ycel) (.block 0 (.loop (.seq (.reg false ycjw) (.seq (.cond (.tmp 9) .skip (.exit 0)) (.seq (.block 1 (.seq (.reg false ycim) (.seq (.reg false ycau) (.cond (.tmp 16) (.seq (.reg false ycbg) .ret) .skip)))) (.reg false ycnm))))))) (.seq (.reg false ychf) .ret)))
theorem ycqk:Fn 267 c267 [.t 4]:=fn_0 Tryz.func267 (by kernel_rfl) (by kernel_rfl)
def ycce:LO:=[o3 (.mv (ci' 0)) 2 0]
def yccq:LO:=[mv' 0 4 0,o3 (.bin .lss (.tmp 4) (ci' 1)) 5 1,mv' 5 6 3,⟨.mv (.tmp 0),some 7,some (6,false),7⟩,⟨.bin .gtr (.tmp 7) (ci' 43),some 8,some (6,false),15⟩,o3 (.pick (.tmp 6) (.const (.bool true)) (.tmp 8)) 9 31,mv' 9 3 63]
def yckq:LO:=[o3 (.mv (.const (.int .i64 (-1)))) 2 0]
def ycdp:LO:=[mv' 0 11 0,o3 (.bin .leq (.tmp 11) (ci' 17)) 12 1,mv' 12 10 3]
def yckj:LO:=[o3 (.mv (ci' 0)) 2 0]
def ycin:LO:=[mv' 0 14 0,o3 (.bin .leq (.tmp 14) (ci' 29)) 15 1,mv' 15 13 3]
def ychj:LO:=[o3 (.mv (ci' 1)) 2 0]
def ycdx:LO:=[mv' 0 17 0,o3 (.bin .leq (.tmp 17) (ci' 42)) 18 1,mv' 18 16 3]
def ycos:LO:=[o3 (.mv (ci' 2)) 2 0]
def yckp:LO:=[o3 (.mv (ci' 3)) 2 0]
def c247:SC:=(.seq (.reg false ycce) (.seq (.block 0 (.seq (.reg false yccq) (.cond (.tmp 3) (.seq (.reg false yckq) .ret) (.seq (.reg false ycdp) (.cond (.tmp 10) (.seq (.reg false yckj) .ret) (.seq (.reg false ycin) (.cond (.tmp 13) (.seq (.reg false ychj) .ret) (.seq (.reg false ycdx) (.cond (.tmp 16) (.seq (.reg false ycos) .ret) .skip))))))))) (.seq (.reg false yckp) .ret)))
theorem ycqz:Fn 247 c247 [.t 2]:=fn_0 Tryz.func247 (by kernel_rfl) (by kernel_rfl)
def ycqa:LO:=[o3 (.mv (ci' 0)) 4 0]
def ycek:LO:=[mv' 1 7 0,o3 (.bin .lss (.tmp 7) (ci' 0)) 8 1,mv' 8 9 3,⟨.mv (.tmp 1),some 10,some (9,false),7⟩,⟨.mv (.tmp 0),some 11,some (9,false),7⟩,⟨.len (.tmp 11),some 12,some (9,false),23⟩,⟨.bin .geq (.tmp 10) (.tmp 12),some 13,some (9,false),63⟩,o3 (.pick (.tmp 9) (.const (.bool true)) (.tmp 13)) 14 127]
def yclq:LO:=[o3 (.mv (.const (.int .i64 (-1)))) 4 0]
def ycfx:LO:=[o3 (.mv (ci' 1)) 5 0]
def ycmr:LO:=[mv' 1 15 0,mv' 0 16 0,ln' 16 17 2,bn' .lss 15 17 18 7]
def ycaq:LO:=[mv' 0 21 0,mv' 1 22 0,ix' 2 21 22 23 3,fa' 0 1 23 24 7,ld' false 1 24 25 15,cl' 247 [25] 26 31,mv' 26 6 63]
def ycdn:LO:=[mv' 6 27 0,o3 (.bin .lss (.tmp 27) (ci' 0)) 28 1]
def ycnj:LO:=[o3 (.mv (.const (.int .i64 (-1)))) 4 0]
def ycei:LO:=[mv' 5 29 0,mv' 6 30 0,o3 (.bin .sub (.tmp 30) (ci' 1)) 31 2,bn' .add 29 31 32 7,mv' 32 5 15]
def ybsb:LO:=[mv' 5 33 0,o3 (.bin .eql (.tmp 33) (ci' 0)) 34 1]
def ybtd:LO:=[mv' 1 35 0,o3 (.bin .add (.tmp 35) (ci' 1)) 36 1,mv' 36 4 3]
def ycol:LO:=[mv' 1 19 0,o3 (.bin .add (.tmp 19) (ci' 1)) 20 1,mv' 20 1 3]
def ybug:LO:=[o3 (.mv (.const (.int .i64 (-1)))) 4 0]
def c231:SC:=(.seq (.reg false ycqa) (.seq (.seq (.reg false ycek) (.cond (.tmp 14) (.seq (.reg false yclq) .ret) .skip)) (.seq (.seq (.reg false ycfx) (.block 0 (.loop (.seq (.seq (.reg false ycmr) (.cond (.tmp 18) .skip (.exit 0))) (.seq (.block 1 (.seq (.reg false ycaq) (.seq (.seq (.reg false ycdn) (.cond (.tmp 28) (.seq (.reg false ycnj) .ret) .skip)) (.seq (.reg false ycei) (.seq (.reg false ybsb) (.cond (.tmp 34) (.seq (.reg false ybtd) .ret) .skip)))))) (.reg false ycol)))))) (.seq (.reg false ybug) .ret))))
theorem ycwr:Fn 231 c231 [.t 4]:=fn_0 Tryz.func231 (by kernel_rfl) (by kernel_rfl)
def ycat:LO:=[o3 (.box 27 (.tmp 0)) 3 0,o3 (.mv (ci' 0)) 6 0]
def ycqd:LO:=[fa' 1 1 3 9 0,ld' false 1 9 10 1,mv' 1 11 0,ix' 1 10 11 12 7,ld' false 1 12 13 15,ln' 13 14 31,o3 (.mv (ci' 0)) 15 0]
def ycng:LO:=[bn' .lss 15 14 16 0]
def ycpo:LO:=[mv' 15 17 0,ix' 2 13 15 18 0,ld' true 2 18 19 2,o3 (.alloc 95 1 [.i .i64 0,.i .i64 0]) 8 0,mv' 17 7 15,o0 (.store 2 (.tmp 8) (.tmp 19)) 31]
def ycih:LO:=[fa' 0 1 8 20 0,ld' false 1 20 21 1,mv' 2 22 0,bn' .eql 21 22 23 7]
def ycap:LO:=[mv' 7 24 0,mv' 24 6 1]
def yclp:LO:=[o3 (.bin .add (.tmp 15) (ci' 1)) 25 0,mv' 25 15 1]
def ychx:LO:=[o3 (.mv (.const (.int .i64 (-1)))) 6 0]
def c170:SC:=(.seq (.reg false ycat) (.seq (.seq (.reg false ycqd) (.block 0 (.loop (.seq (.reg false ycng) (.seq (.cond (.tmp 16) .skip (.exit 0)) (.seq (.block 1 (.seq (.reg false ycpo) (.seq (.reg false ycih) (.cond (.tmp 23) (.seq (.reg false ycap) .ret) .skip)))) (.reg false yclp))))))) (.seq (.reg false ychx) .ret)))
theorem ycva:Fn 170 c170 [.t 6]:=fn_0 Tryz.func170 (by kernel_rfl) (by kernel_rfl)
def ycil:LO:=[o3 (.box 27 (.tmp 0)) 1 0,o3 (.mv (.const (.int .u32 0))) 2 0]
def ycly:LO:=[fa' 0 1 1 3 0,ld' false 1 3 4 1,ln' 4 5 3,o3 (.bin .shl (.const (.int .u32 1)) (.tmp 5)) 6 7,o3 (.bin .sub (.tmp 6) (.const (.int .u32 1))) 7 15,mv' 7 2 31]
def c109:SC:=(.seq (.reg false ycil) (.seq (.reg false ycly) .ret))
theorem ycqs:Fn 109 c109 [.t 2]:=fn_0 Tryz.func109 (by kernel_rfl) (by kernel_rfl)
def ycje:LO:=[o3 (.mv (ci' 0)) 2 0]
def yclz:LO:=[mv' 0 3 0]
def yciv:LO:=[o3 (.mv (ci' 1)) 2 0]
def ycon:LO:=[o3 (.mv (ci' 0)) 2 0]
def c256:SC:=(.seq (.reg false ycje) (.seq (.seq (.reg false yclz) (.cond (.tmp 3) (.seq (.reg false yciv) .ret) .skip)) (.seq (.reg false ycon) .ret)))
theorem ycvd:Fn 256 c256 [.t 2]:=fn_0 Tryz.func256 (by kernel_rfl) (by kernel_rfl)
def ycnk:LO:=[o3 (.mv (ci' 0)) 2 0]
def ycey:LO:=[mv' 0 3 0,o3 (.mm false (.tmp 3) (ci' 1073741824)) 4 1,o3 (.mm true (.const (.int .i64 (-1073741824))) (.tmp 4)) 5 3,mv' 5 2 7]
def c258:SC:=(.seq (.reg false ycnk) (.seq (.reg false ycey) .ret))
theorem ycvs:Fn 258 c258 [.t 2]:=fn_0 Tryz.func258 (by kernel_rfl) (by kernel_rfl)
def ycmm:LO:=[o3 (.mv (ci' 0)) 4 0]
def ycff:LO:=[mv' 0 5 0,o3 (.bin .eql (.tmp 5) (ci' 18)) 6 1]
def ycjm:LO:=[mv' 1 7 0,o3 (.un .neg (.tmp 7)) 8 1,mv' 8 4 3]
def ycli:LO:=[mv' 1 9 0,o3 (.bin .eql (.tmp 9) (ci' 0)) 10 1,cl' 256 [10] 11 3,mv' 11 4 7]
def c237:SC:=(.seq (.reg false ycmm) (.seq (.seq (.reg false ycff) (.cond (.tmp 6) (.seq (.reg false ycjm) .ret) .skip)) (.seq (.reg false ycli) .ret)))
theorem ycqh:Fn 237 c237 [.t 4]:=fn_0 Tryz.func237 (by kernel_rfl) (by kernel_rfl)
def ycgd:LO:=[o3 (.mv (ci' 0)) 6 0]
def ycco:LO:=[mv' 0 7 0]
def ycmn:LO:=[o3 (.bin .eql (.tmp 7) (ci' 30)) 9 0,mv' 9 8 1]
def ycfl:LO:=[mv' 1 10 0,mv' 2 11 0,bn' .mul 10 11 12 3,cl' 258 [12] 13 7,mv' 13 6 15]
def ycgm:LO:=[o3 (.bin .eql (.tmp 7) (ci' 31)) 15 0,mv' 15 14 1]
def ycdc:LO:=[mv' 1 16 0,mv' 2 17 0,cl' 259 [16,17] 18 3,cl' 258 [18] 19 7,mv' 19 6 15]
def ycft:LO:=[o3 (.bin .eql (.tmp 7) (ci' 32)) 21 0,mv' 21 20 1]
def ycbv:LO:=[mv' 2 22 0,o3 (.bin .eql (.tmp 22) (ci' 0)) 23 1]
def ycoi:LO:=[o3 (.mv (ci' 0)) 6 0]
def ycom:LO:=[mv' 1 24 0,mv' 2 25 0,mv' 1 26 0,mv' 2 27 0,cl' 259 [26,27] 28 12,bn' .mul 25 28 29 30,bn' .sub 24 29 30 63,cl' 258 [30] 31 127,mv' 31 6 255]
def ybqp:LO:=[o3 (.bin .eql (.tmp 7) (ci' 33)) 33 0,mv' 33 32 1]
def ybpd:LO:=[mv' 1 34 0,mv' 2 35 0,bn' .add 34 35 36 3,cl' 258 [36] 37 7,mv' 37 6 15]
def ybue:LO:=[o3 (.bin .eql (.tmp 7) (ci' 34)) 39 0,mv' 39 38 1]
def yblp:LO:=[mv' 1 40 0,mv' 2 41 0,bn' .sub 40 41 42 3,cl' 258 [42] 43 7,mv' 43 6 15]
def ybqa:LO:=[o3 (.bin .eql (.tmp 7) (ci' 41)) 45 0,mv' 45 44 1]
def ybrx:LO:=[mv' 1 46 0,o3 (.bin .neq (.tmp 46) (ci' 0)) 47 1,mv' 47 48 3,⟨.mv (.tmp 2),some 49,some (48,true),7⟩,⟨.bin .neq (.tmp 49) (ci' 0),some 50,some (48,true),15⟩,o3 (.pick (.tmp 48) (.tmp 50) (.const (.bool false))) 51 31,cl' 256 [51] 52 63,mv' 52 6 127]
def ybop:LO:=[o3 (.bin .eql (.tmp 7) (ci' 42)) 54 0,mv' 54 53 1]
def ybsg:LO:=[mv' 1 55 0,o3 (.bin .neq (.tmp 55) (ci' 0)) 56 1,mv' 56 57 3,⟨.mv (.tmp 2),some 58,some (57,false),7⟩,⟨.bin .neq (.tmp 58) (ci' 0),some 59,some (57,false),15⟩,o3 (.pick (.tmp 57) (.const (.bool true)) (.tmp 59)) 60 31,cl' 256 [60] 61 63,mv' 61 6 127]
def ybky:LO:=[mv' 0 62 0,mv' 1 63 0,mv' 2 64 0,cl' 260 [62,63,64] 65 7,cl' 256 [65] 66 15,mv' 66 6 31]
def c239:SC:=(.seq (.reg false ycgd) (.seq (.seq (.reg false ycco) (.block 0 (.seq (.reg false ycmn) (.cond (.tmp 8) (.seq (.reg false ycfl) .ret) (.seq (.reg false ycgm) (.cond (.tmp 14) (.seq (.reg false ycdc) .ret) (.seq (.reg false ycft) (.cond (.tmp 20) (.seq (.seq (.reg false ycbv) (.cond (.tmp 23) (.seq (.reg false ycoi) .ret) .skip)) (.seq (.reg false ycom) .ret)) (.seq (.reg false ybqp) (.cond (.tmp 32) (.seq (.reg false ybpd) .ret) (.seq (.reg false ybue) (.cond (.tmp 38) (.seq (.reg false yblp) .ret) (.seq (.reg false ybqa) (.cond (.tmp 44) (.seq (.reg false ybrx) .ret) (.seq (.reg false ybop) (.cond (.tmp 53) (.seq (.reg false ybsg) .ret) .skip)))))))))))))))) (.seq (.reg false ybky) .ret)))
theorem yctg:Fn 239 c239 [.t 6]:=fn_0 Tryz.func239 (by kernel_rfl) (by kernel_rfl)
def ycow:LO:=[o3 (.mv (ci' 0)) 4 0]
def yccv:LO:=[mv' 1 6 0,o3 (.bin .eql (.tmp 6) (ci' 0)) 7 1]
def ycdj:LO:=[o3 (.mv (ci' 0)) 4 0]
def ycoj:LO:=[mv' 0 8 0,mv' 1 9 0,bn' .quo 8 9 10 3,mv' 10 5 7]
def ycen:LO:=[mv' 0 11 0,mv' 1 12 0,bn' .rem 11 12 13 3,o3 (.bin .neq (.tmp 13) (ci' 0)) 14 7,mv' 14 15 15,⟨.mv (.tmp 0),some 16,some (15,true),31⟩,⟨.bin .lss (.tmp 16) (ci' 0),some 17,some (15,true),63⟩,⟨.mv (.tmp 1),some 18,some (15,true),31⟩,⟨.bin .lss (.tmp 18) (ci' 0),some 19,some (15,true),159⟩,⟨.beq true (.tmp 17) (.tmp 19),some 20,some (15,true),511⟩,o3 (.pick (.tmp 15) (.tmp 20) (.const (.bool false))) 21 1023]
def ycib:LO:=[mv' 5 22 0,o3 (.bin .sub (.tmp 22) (ci' 1)) 23 1,mv' 23 5 3]
def ycie:LO:=[mv' 5 24 0,mv' 24 4 1]
def c259:SC:=(.seq (.reg false ycow) (.seq (.seq (.reg false yccv) (.cond (.tmp 7) (.seq (.reg false ycdj) .ret) .skip)) (.seq (.reg false ycoj) (.seq (.seq (.reg false ycen) (.cond (.tmp 21) (.reg false ycib) .skip)) (.seq (.reg false ycie) .ret)))))
theorem ycth:Fn 259 c259 [.t 4]:=fn_0 Tryz.func259 (by kernel_rfl) (by kernel_rfl)
def ycjx:LO:=[o3 (.mv (.const (.bool false))) 6 0]
def ycch:LO:=[mv' 0 7 0]
def ycem:LO:=[o3 (.bin .eql (.tmp 7) (ci' 35)) 9 0,mv' 9 8 1]
def ycbh:LO:=[mv' 1 10 0,mv' 2 11 0,bn' .eql 10 11 12 3,mv' 12 6 7]
def ycbb:LO:=[o3 (.bin .eql (.tmp 7) (ci' 36)) 14 0,mv' 14 13 1]
def ycgc:LO:=[mv' 1 15 0,mv' 2 16 0,bn' .neq 15 16 17 3,mv' 17 6 7]
def ycij:LO:=[o3 (.bin .eql (.tmp 7) (ci' 37)) 19 0,mv' 19 18 1]
def yclx:LO:=[mv' 1 20 0,mv' 2 21 0,bn' .lss 20 21 22 3,mv' 22 6 7]
def ycep:LO:=[o3 (.bin .eql (.tmp 7) (ci' 38)) 24 0,mv' 24 23 1]
def ycpz:LO:=[mv' 1 25 0,mv' 2 26 0,bn' .leq 25 26 27 3,mv' 27 6 7]
def ybsn:LO:=[o3 (.bin .eql (.tmp 7) (ci' 39)) 29 0,mv' 29 28 1]
def ybuw:LO:=[mv' 1 30 0,mv' 2 31 0,bn' .gtr 30 31 32 3,mv' 32 6 7]
def ybsd:LO:=[mv' 1 33 0,mv' 2 34 0,bn' .geq 33 34 35 3,mv' 35 6 7]
def c260:SC:=(.seq (.reg false ycjx) (.seq (.seq (.reg false ycch) (.block 0 (.seq (.reg false ycem) (.cond (.tmp 8) (.seq (.reg false ycbh) .ret) (.seq (.reg false ycbb) (.cond (.tmp 13) (.seq (.reg false ycgc) .ret) (.seq (.reg false ycij) (.cond (.tmp 18) (.seq (.reg false yclx) .ret) (.seq (.reg false ycep) (.cond (.tmp 23) (.seq (.reg false ycpz) .ret) (.seq (.reg false ybsn) (.cond (.tmp 28) (.seq (.reg false ybuw) .ret) .skip)))))))))))) (.seq (.reg false ybsd) .ret)))
theorem ycvn:Fn 260 c260 [.t 6]:=fn_0 Tryz.func260 (by kernel_rfl) (by kernel_rfl)
def ycpk:LO:=[o3 (.mv (ci' 0)) 4 0]
def yckm:LO:=[mv' 0 15 0]
def yccy:LO:=[o3 (.bin .eql (.tmp 15) (ci' 20)) 17 0,mv' 17 16 1]
def ycev:LO:=[mv' 1 18 0,cl' 266 [18] 19 1,mv' 1 20 0,ln' 20 21 4,bn' .eql 19 21 22 15,cl' 256 [22] 23 31,mv' 23 4 63]
def ycpg:LO:=[o3 (.bin .eql (.tmp 15) (ci' 21)) 25 0,mv' 25 24 1]
def yckf:LO:=[mv' 1 26 0,cl' 266 [26] 27 1,o3 (.bin .gtr (.tmp 27) (ci' 0)) 28 3,cl' 256 [28] 29 7,mv' 29 4 15]
def ycgv:LO:=[o3 (.bin .eql (.tmp 15) (ci' 22)) 31 0,mv' 31 30 1]
def ycgu:LO:=[mv' 1 32 0,cl' 266 [32] 33 1,mv' 33 4 3]
def ycpc:LO:=[o3 (.bin .eql (.tmp 15) (ci' 23)) 35 0,mv' 35 34 1]
def ycop:LO:=[mv' 1 36 0,o3 (.call (.func 267) [(.tmp 36),(.func 268)]) 37 1,mv' 37 4 3]
def ybqg:LO:=[o3 (.bin .eql (.tmp 15) (ci' 24)) 39 0,mv' 39 38 1]
def ybno:LO:=[o3 (.mv (ci' 1073741824)) 5 0]
def ybly:LO:=[mv' 1 40 0,ln' 40 41 1,o3 (.mv (ci' 0)) 42 0]
def ybva:LO:=[bn' .lss 42 41 43 0]
def ybqi:LO:=[ix' 1 40 42 44 0,ld' false 1 44 45 1,mv' 45 7 3]
def ybmp:LO:=[mv' 5 46 0,mv' 7 47 0,o3 (.mm false (.tmp 46) (.tmp 47)) 48 3,mv' 48 5 7]
def ybus:LO:=[o3 (.bin .add (.tmp 42) (ci' 1)) 49 0,mv' 49 42 1]
def ybuy:LO:=[mv' 5 50 0,mv' 50 4 1]
def ybrp:LO:=[o3 (.bin .eql (.tmp 15) (ci' 25)) 52 0,mv' 52 51 1]
def ybot:LO:=[mv' 1 54 0,cl' 269 [54] 55 1,mv' 55 53 3,xt' 53 0 56 7,xt' 53 1 57 7,mv' 56 8 15,mv' 57 9 63]
def ybtu:LO:=[mv' 8 58 0,mv' 58 4 1]
def yboj:LO:=[o3 (.bin .eql (.tmp 15) (ci' 26)) 60 0,mv' 60 59 1]
def yblw:LO:=[o3 (.mv (ci' 0)) 10 0]
def ybni:LO:=[mv' 1 61 0,ln' 61 62 1,o3 (.mv (ci' 0)) 63 0]
def ybqr:LO:=[bn' .lss 63 62 64 0]
def ybnl:LO:=[ix' 1 61 63 65 0,ld' false 1 65 66 1,mv' 66 12 3]
def yboz:LO:=[mv' 10 67 0,mv' 12 68 0,bn' .add 67 68 69 3,mv' 69 10 7]
def ybpx:LO:=[o3 (.bin .add (.tmp 63) (ci' 1)) 70 0,mv' 70 63 1]
def ybrk:LO:=[mv' 10 71 0,cl' 258 [71] 72 1,mv' 72 4 3]
def ybrt:LO:=[o3 (.bin .eql (.tmp 15) (ci' 27)) 74 0,mv' 74 73 1]
def ybsw:LO:=[mv' 1 75 0,cl' 270 [75] 76 1,mv' 76 4 3]
def yblq:LO:=[o3 (.bin .eql (.tmp 15) (ci' 28)) 78 0,mv' 78 77 1]
def ybnn:LO:=[mv' 1 80 0,cl' 269 [80] 81 1,mv' 81 79 3,xt' 79 0 82 7,xt' 79 1 83 7,mv' 82 13 15,mv' 83 14 63]
def ybsa:LO:=[mv' 14 84 0,mv' 84 4 1]
def ybsl:LO:=[mv' 1 85 0,ln' 85 86 1,o3 (.bin .eql (.tmp 86) (ci' 0)) 87 3]
def ybol:LO:=[o3 (.mv (ci' 0)) 4 0]
def ybsx:LO:=[mv' 1 88 0,o3 (.idx 1 (.tmp 88) (ci' 0)) 89 1,ld' false 1 89 90 3,mv' 90 4 7]
def c257:SC:=(.seq (.reg false ycpk) (.seq (.seq (.reg false yckm) (.block 0 (.seq (.reg false yccy) (.cond (.tmp 16) (.seq (.reg false ycev) .ret) (.seq (.reg false ycpg) (.cond (.tmp 24) (.seq (.reg false yckf) .ret) (.seq (.reg false ycgv) (.cond (.tmp 30) (.seq (.reg false ycgu) .ret) (.seq (.reg false ycpc) (.cond (.tmp 34) (.seq (.reg false ycop) .ret) (.seq (.reg false ybqg) (.cond (.tmp 38) (.seq (.reg false ybno) (.seq (.seq (.reg false ybly) (.block 1 (.loop (.seq (.reg false ybva) (.seq (.cond (.tmp 43) .skip (.exit 1)) (.seq (.block 2 (.seq (.reg false ybqi) (.reg false ybmp))) (.reg false ybus))))))) (.seq (.reg false ybuy) .ret))) (.seq (.reg false ybrp) (.cond (.tmp 51) (.seq (.reg false ybot) (.seq (.reg false ybtu) .ret)) (.seq (.reg false yboj) (.cond (.tmp 59) (.seq (.reg false yblw) (.seq (.seq (.reg false ybni) (.block 3 (.loop (.seq (.reg false ybqr) (.seq (.cond (.tmp 64) .skip (.exit 3)) (.seq (.block 4 (.seq (.reg false ybnl) (.reg false yboz))) (.reg false ybpx))))))) (.seq (.reg false ybrk) .ret))) (.seq (.reg false ybrt) (.cond (.tmp 73) (.seq (.reg false ybsw) .ret) (.seq (.reg false yblq) (.cond (.tmp 77) (.seq (.reg false ybnn) (.seq (.reg false ybsa) .ret)) .skip)))))))))))))))))))) (.seq (.seq (.reg false ybsl) (.cond (.tmp 87) (.seq (.reg false ybol) .ret) .skip)) (.seq (.reg false ybsx) .ret))))
theorem ycrj:Fn 257 c257 [.t 4]:=fn_0 Tryz.func257 (by kernel_rfl) (by kernel_rfl)
def yciq:LO:=[o3 (.mv (.const (.bool false))) 2 0]
def ycfw:LO:=[mv' 0 3 0,o3 (.bin .neq (.tmp 3) (ci' 0)) 4 1,mv' 4 2 3]
def c268:SC:=(.seq (.reg false yciq) (.seq (.reg false ycfw) .ret))
theorem ycwq:Fn 268 c268 [.t 2]:=fn_0 Tryz.func268 (by kernel_rfl) (by kernel_rfl)
def ycjb:LO:=[o3 (.mv (ci' 0)) 2 0]
def ycby:LO:=[o3 (.mv (ci' 0)) 3 0]
def ycjn:LO:=[mv' 0 6 0,ln' 6 7 1,o3 (.mv (ci' 0)) 8 0]
def ycoo:LO:=[bn' .lss 8 7 9 0]
def ycpx:LO:=[ix' 1 6 8 10 0,ld' false 1 10 11 1,mv' 11 5 3]
def ycmj:LO:=[mv' 5 12 0,o3 (.bin .neq (.tmp 12) (ci' 0)) 13 1]
def ycjs:LO:=[mv' 3 14 0,o3 (.bin .add (.tmp 14) (ci' 1)) 15 1,mv' 15 3 3]
def ychl:LO:=[o3 (.bin .add (.tmp 8) (ci' 1)) 16 0,mv' 16 8 1]
def ycde:LO:=[mv' 3 17 0,mv' 17 2 1]
def c266:SC:=(.seq (.reg false ycjb) (.seq (.reg false ycby) (.seq (.seq (.reg false ycjn) (.block 0 (.loop (.seq (.reg false ycoo) (.seq (.cond (.tmp 9) .skip (.exit 0)) (.seq (.block 1 (.seq (.reg false ycpx) (.seq (.reg false ycmj) (.cond (.tmp 13) (.reg false ycjs) .skip)))) (.reg false ychl))))))) (.seq (.reg false ycde) .ret))))
theorem ycvf:Fn 266 c266 [.t 2]:=fn_0 Tryz.func266 (by kernel_rfl) (by kernel_rfl)
def ycbn:LO:=[o3 (.mv (ci' 0)) 2 0,o3 (.mv (ci' 0)) 3 1]
def ycml:LO:=[o3 (.mv (.const (.int .i64 (-1073741824)))) 2 0,o3 (.mv (.const (.int .i64 (-1073741824)))) 3 1]
def ycbe:LO:=[mv' 0 6 0,ln' 6 7 1,o3 (.mv (ci' 0)) 8 0]
def yciw:LO:=[bn' .lss 8 7 9 0]
def ycdy:LO:=[ix' 1 6 8 10 0,ld' false 1 10 11 1,mv' 11 5 3]
def yckk:LO:=[mv' 5 12 0,mv' 2 13 0,bn' .gtr 12 13 14 3]
def ychz:LO:=[mv' 5 15 0,mv' 2 16 0,mv' 15 2 3,mv' 16 3 7]
def ycds:LO:=[mv' 3 17 0,mv' 5 18 0,o3 (.mm true (.tmp 17) (.tmp 18)) 19 3,mv' 19 3 7]
def yclg:LO:=[o3 (.bin .add (.tmp 8) (ci' 1)) 20 0,mv' 20 8 1]
def ycbf:LO:=[mv' 2 21 0,mv' 3 22 0,mv' 21 2 1,mv' 22 3 7]
def c269:SC:=(.seq (.reg false ycbn) (.seq (.reg false ycml) (.seq (.seq (.reg false ycbe) (.block 0 (.loop (.seq (.reg false yciw) (.seq (.cond (.tmp 9) .skip (.exit 0)) (.seq (.block 1 (.seq (.reg false ycdy) (.seq (.reg false yckk) (.cond (.tmp 14) (.reg false ychz) (.reg false ycds))))) (.reg false yclg))))))) (.seq (.reg false ycbf) .ret))))
theorem ycuq:Fn 269 c269 [.t 2,.t 3]:=fn_0 Tryz.func269 (by kernel_rfl) (by kernel_rfl)
def ycof:LO:=[o3 (.mv (ci' 0)) 2 0]
def yckg:LO:=[o3 (.mv (ci' 0)) 3 0]
def ycgb:LO:=[mv' 0 4 0,mv' 3 5 0,cl' 274 [4,5] 6 3]
def ychq:LO:=[mv' 3 7 0,o3 (.bin .add (.tmp 7) (ci' 1)) 8 1,mv' 8 3 3]
def ycnr:LO:=[mv' 3 9 0,mv' 9 2 1]
def c270:SC:=(.seq (.reg false ycof) (.seq (.reg false yckg) (.seq (.block 0 (.loop (.seq (.seq (.reg false ycgb) (.cond (.tmp 6) .skip (.exit 0))) (.block 1 (.reg false ychq))))) (.seq (.reg false ycnr) .ret))))
theorem ycru:Fn 270 c270 [.t 2]:=fn_0 Tryz.func270 (by kernel_rfl) (by kernel_rfl)
def ycmq:LO:=[o3 (.box 58 (.tmp 0)) 2 0,o3 (.box 27 (.tmp 1)) 3 0,o3 (.mv (.const (.pointer none))) 4 0]
def ycic:LO:=[ld' true 3 2 10 0,ld' true 2 3 11 0,fa' 1 1 3 12 0,ld' false 1 12 13 4,ln' 13 14 12,o3 (.mk 22 1 24 [.a (.slice none 0 0)] (.tmp 14) (.tmp 14)) 15 28,o3 (.build [.a (.string (ByteArray.mk #[])),.a (.slice none 0 0),.a (.slice none 0 0),.a (.slice none 0 0),.a (.slice none 0 0),.i .i64 0,.a (.slice none 0 0)] [(0,3,(.tmp 10)),(3,2,(.tmp 11)),(6,1,(.tmp 15))]) 16 63,o3 (.box 170 (.tmp 16)) 17 127,mv' 17 5 255]
def ycew:LO:=[fa' 1 1 3 18 0,ld' false 1 18 19 1,ln' 19 20 3,o3 (.mv (ci' 0)) 21 0]
def ycbq:LO:=[bn' .lss 21 20 22 0]
def ycoe:LO:=[mv' 21 23 0,ix' 1 19 21 24 0,ld' false 1 24 25 2,mv' 23 6 7,mv' 25 7 15]
def yche:LO:=[mv' 5 26 0,mv' 5 27 0,o3 (.nilck (.tmp 27)) 28 2,fa' 5 1 28 29 6,ld' false 1 29 30 14,fa' 0 1 3 31 0,ld' false 1 31 32 32,mv' 6 33 0,ix' 1 32 33 34 224,ld' false 1 34 35 480,o3 (.mm true (.tmp 30) (.tmp 35)) 36 1022,o3 (.nilck (.tmp 26)) 37 2047,fa' 5 1 37 38 4095,o0 (.store 1 (.tmp 38) (.tmp 36)) 8191]
def ycda:LO:=[mv' 7 39 0,ln' 39 40 1,o3 (.mv (ci' 0)) 41 0]
def ycif:LO:=[bn' .lss 41 40 42 0]
def yckw:LO:=[ix' 2 39 41 43 0,ld' true 2 43 44 1,o3 (.alloc 95 1 [.i .i64 0,.i .i64 0]) 9 0,o0 (.store 2 (.tmp 9) (.tmp 44)) 7]
def ycpe:LO:=[mv' 5 45 0,o3 (.nilck (.tmp 45)) 46 1,fa' 6 1 46 47 3,ld' false 1 47 48 7,mv' 6 49 0,mv' 5 50 0,o3 (.nilck (.tmp 50)) 51 32,fa' 6 1 51 52 96,ld' false 1 52 53 224,mv' 6 54 0,ix' 1 53 54 55 992,ld' false 1 55 56 2016,ld' true 2 3 57 0,fa' 0 1 9 58 0,ld' false 1 58 59 8192,mv' 6 60 0,cl' 170 [57,59,60] 61 61440,o3 (.bslice 3 1 1 [.i .i64 0] [(0,1,(.tmp 61))]) 62 126976,o3 (.app 3 1 8 (.tmp 56) (.tmp 62)) 63 262112,ix' 1 48 49 64 524287,o0 (.store 1 (.tmp 64) (.tmp 63)) 1048575]
def ybqx:LO:=[o3 (.bin .add (.tmp 41) (ci' 1)) 65 0,mv' 65 41 1]
def ybll:LO:=[o3 (.bin .add (.tmp 21) (ci' 1)) 66 0,mv' 66 21 1]
def ybul:LO:=[mv' 5 67 0,mv' 67 4 1]
def c143:SC:=(.seq (.reg false ycmq) (.seq (.reg true ycic) (.seq (.seq (.reg false ycew) (.block 0 (.loop (.seq (.reg false ycbq) (.seq (.cond (.tmp 22) .skip (.exit 0)) (.seq (.block 1 (.seq (.reg false ycoe) (.seq (.reg true yche) (.seq (.reg false ycda) (.block 2 (.loop (.seq (.reg false ycif) (.seq (.cond (.tmp 42) .skip (.exit 2)) (.seq (.block 3 (.seq (.reg false yckw) (.reg true ycpe))) (.reg false ybqx)))))))))) (.reg false ybll))))))) (.seq (.reg false ybul) .ret))))
theorem ycsw:Fn 143 c143 [.t 4]:=fn_0 Tryz.func143 (by kernel_rfl) (by kernel_rfl)
def ycgg:LO:=[o3 (.mv (ci' 0)) 8 0]
def ycdu:LO:=[mv' 1 10 0]
def ycnh:LO:=[o3 (.bin .eql (.tmp 10) (ci' 6)) 12 0,mv' 12 11 1]
def yclr:LO:=[mv' 0 13 0,o3 (.nilck (.tmp 13)) 14 1,fa' 3 2 14 15 3,fa' 0 1 15 16 7,ld' false 1 16 17 15,ln' 17 18 31,mv' 18 8 63]
def ycef:LO:=[o3 (.bin .eql (.tmp 10) (ci' 7)) 20 0,mv' 20 19 1]
def yclh:LO:=[mv' 0 21 0,o3 (.nilck (.tmp 21)) 22 1,fa' 5 1 22 23 3,ld' false 1 23 24 7,mv' 24 8 15]
def ycmf:LO:=[o3 (.bin .eql (.tmp 10) (ci' 8)) 26 0,mv' 26 25 1]
def ychc:LO:=[mv' 0 27 0,o3 (.nilck (.tmp 27)) 28 1,fa' 3 2 28 29 3,fa' 0 1 29 30 7,ld' false 1 30 31 15,mv' 2 32 0,ix' 1 31 32 33 63,ld' false 1 33 34 127,mv' 34 8 255]
def ycno:LO:=[o3 (.bin .eql (.tmp 10) (ci' 9)) 36 0,mv' 36 35 1]
def ycnd:LO:=[mv' 0 37 0,o3 (.nilck (.tmp 37)) 38 1,fa' 3 2 38 39 3,fa' 1 1 39 40 7,ld' false 1 40 41 15,mv' 2 42 0,ix' 1 41 42 43 63,ld' false 1 43 44 127,ln' 44 45 255,mv' 45 8 511]
def ybvf:LO:=[o3 (.bin .eql (.tmp 10) (ci' 10)) 47 0,mv' 47 46 1]
def ybog:LO:=[mv' 2 48 0,o3 (.bin .eql (.tmp 48) (ci' 0)) 49 1,cl' 256 [49] 50 3,mv' 50 8 7]
def ybqt:LO:=[o3 (.bin .eql (.tmp 10) (ci' 11)) 52 0,mv' 52 51 1]
def ybty:LO:=[mv' 3 53 0,mv' 53 8 1]
def yblh:LO:=[mv' 0 54 0,o3 (.nilck (.tmp 54)) 55 1,fa' 3 2 55 56 3,fa' 1 1 56 57 7,ld' false 1 57 58 15,mv' 2 59 0,ix' 1 58 59 60 63,ld' false 1 60 61 127,mv' 3 62 0,ix' 2 61 62 63 511,ld' true 2 63 64 1023,o3 (.alloc 95 1 [.i .i64 0,.i .i64 0]) 9 0,o0 (.store 2 (.tmp 9) (.tmp 64)) 4095]
def ybqo:LO:=[mv' 1 65 0]
def ybuq:LO:=[o3 (.bin .eql (.tmp 65) (ci' 13)) 67 0,mv' 67 66 1]
def ybou:LO:=[mv' 0 68 0,o3 (.nilck (.tmp 68)) 69 1,fa' 3 2 69 70 3,fa' 0 1 70 71 7,ld' false 1 71 72 15,fa' 0 1 9 73 0,ld' false 1 73 74 32,ix' 1 72 74 75 127,ld' false 1 75 76 255,mv' 76 8 511]
def ybqm:LO:=[o3 (.bin .eql (.tmp 65) (ci' 14)) 78 0,mv' 78 77 1]
def yblm:LO:=[mv' 0 79 0,o3 (.nilck (.tmp 79)) 80 1,fa' 3 2 80 81 3,fa' 1 1 81 82 7,ld' false 1 82 83 15,fa' 0 1 9 84 0,ld' false 1 84 85 32,ix' 1 83 85 86 127,ld' false 1 86 87 255,ln' 87 88 511,mv' 88 8 1023]
def ybod:LO:=[o3 (.bin .eql (.tmp 65) (ci' 15)) 90 0,mv' 90 89 1]
def ybsz:LO:=[fa' 0 1 9 91 0,ld' false 1 91 92 1,o3 (.bin .eql (.tmp 92) (ci' 0)) 93 3,cl' 256 [93] 94 7,mv' 94 8 15]
def ybud:LO:=[o3 (.bin .eql (.tmp 65) (ci' 16)) 96 0,mv' 96 95 1]
def ybnf:LO:=[fa' 1 1 9 97 0,ld' false 1 97 98 1,mv' 98 8 3]
def ybqz:LO:=[mv' 0 99 0,o3 (.nilck (.tmp 99)) 100 1,fa' 6 1 100 101 3,ld' false 1 101 102 7,mv' 2 103 0,ix' 1 102 103 104 31,ld' false 1 104 105 63,mv' 3 106 0,ix' 1 105 106 107 255,ld' false 1 107 108 511,mv' 108 8 1023]
def c255:SC:=(.seq (.reg false ycgg) (.seq (.seq (.reg false ycdu) (.block 0 (.seq (.reg false ycnh) (.cond (.tmp 11) (.seq (.reg false yclr) .ret) (.seq (.reg false ycef) (.cond (.tmp 19) (.seq (.reg false yclh) .ret) (.seq (.reg false ycmf) (.cond (.tmp 25) (.seq (.reg false ychc) .ret) (.seq (.reg false ycno) (.cond (.tmp 35) (.seq (.reg false ycnd) .ret) (.seq (.reg false ybvf) (.cond (.tmp 46) (.seq (.reg false ybog) .ret) (.seq (.reg false ybqt) (.cond (.tmp 51) (.seq (.reg false ybty) .ret) .skip)))))))))))))) (.seq (.reg false yblh) (.seq (.seq (.reg false ybqo) (.block 1 (.seq (.reg false ybuq) (.cond (.tmp 66) (.seq (.reg true ybou) .ret) (.seq (.reg false ybqm) (.cond (.tmp 77) (.seq (.reg true yblm) .ret) (.seq (.reg false ybod) (.cond (.tmp 89) (.seq (.reg false ybsz) .ret) (.seq (.reg false ybud) (.cond (.tmp 95) (.seq (.reg false ybnf) .ret) .skip)))))))))) (.seq (.reg false ybqz) .ret)))))
theorem ycua:Fn 255 c255 [.t 8]:=fn_0 Tryz.func255 (by kernel_rfl) (by kernel_rfl)
def ycnw:LO:=[o3 (.mv (ci' 0)) 8 0]
def ycjz:LO:=[mv' 0 12 0,mv' 1 13 0,mv' 2 14 0,mv' 3 15 0,o3 (.build [.a (.pointer none),.a (.slice none 0 0),.i .i64 0,.a (.slice none 0 0)] [(0,1,(.tmp 12)),(1,1,(.tmp 13)),(2,1,(.tmp 14)),(3,1,(.tmp 15))]) 16 15,o3 (.alloc 228 1 [.a (.pointer none),.a (.slice none 0 0),.i .i64 0,.a (.slice none 0 0)]) 9 0,o0 (.store 4 (.tmp 9) (.tmp 16)) 63]
def ycbo:LO:=[o3 (.call (.func 220) [(.tmp 9),(ci' 0),(.const (.int .i64 (-1)))]) 18 0,mv' 18 17 1,xt' 17 0 19 3,xt' 17 1 20 3,mv' 19 10 7,mv' 20 11 31]
def ycny:LO:=[mv' 10 21 0,mv' 21 8 1]
def c193:SC:=(.seq (.reg false ycnw) (.seq (.reg false ycjz) (.seq (.reg false ycbo) (.seq (.reg false ycny) .ret))))
theorem ycsu:Fn 193 c193 [.t 8]:=fn_0 Tryz.func193 (by kernel_rfl) (by kernel_rfl)
def ycas:LO:=[o3 (.mv (.const (.bool false))) 8 0]
def yccr:LO:=[mv' 0 9 0,mv' 1 10 0,mv' 2 11 0,mv' 0 12 0,o3 (.nilck (.tmp 12)) 13 8,fa' 0 3 13 14 24,fa' 2 1 14 15 56,ld' false 1 15 16 120,mv' 3 17 0,ix' 3 16 17 18 504,fa' 1 1 18 19 1016,ld' false 1 19 20 2040,cl' 193 [9,10,11,20] 21 4095,o3 (.bin .neq (.tmp 21) (ci' 0)) 22 8191,mv' 22 8 16383]
def c172:SC:=(.seq (.reg false ycas) (.seq (.reg false yccr) .ret))
theorem ycvr:Fn 172 c172 [.t 8]:=fn_0 Tryz.func172 (by kernel_rfl) (by kernel_rfl)
def ytr:LO:=[o3 (.mv (ci' 0)) 6 0,o3 (.mv (ci' 0)) 7 1]
def yuf:LO:=[mv' 0 18 0,o3 (.nilck (.tmp 18)) 19 1,fa' 3 1 19 20 3,ld' false 1 20 21 7,mv' 1 22 0,ix' 2 21 22 23 31,ld' true 2 23 24 63,o3 (.alloc 240 1 [.i .i64 0,.i .i64 0]) 8 0,o0 (.store 2 (.tmp 8) (.tmp 24)) 255]
def yux:LO:=[fa' 0 1 8 26 0,ld' false 1 26 27 1,o3 (.bin .leq (.tmp 27) (ci' 17)) 28 3,mv' 28 25 7]
def yud:LO:=[mv' 0 29 0,ld' true 2 8 30 0,mv' 2 31 0,cl' 236 [29,30,31] 32 7,mv' 1 33 0,o3 (.bin .add (.tmp 33) (ci' 1)) 34 16,mv' 32 6 15,mv' 34 7 127]
def yuu:LO:=[fa' 0 1 8 36 0,ld' false 1 36 37 1,o3 (.bin .leq (.tmp 37) (ci' 19)) 38 3,mv' 38 35 7]
def yub:LO:=[mv' 0 40 0,mv' 1 41 0,o3 (.bin .add (.tmp 41) (ci' 1)) 42 2,mv' 2 43 0,cl' 220 [40,42,43] 44 15,mv' 44 39 31,xt' 39 0 45 63,xt' 39 1 46 63,mv' 45 6 127,mv' 46 7 511]
def yur:LO:=[fa' 0 1 8 47 0,ld' false 1 47 48 1,mv' 6 49 0,cl' 237 [48,49] 50 7,mv' 7 51 0,mv' 50 6 15,mv' 51 7 63]
def yug:LO:=[fa' 0 1 8 53 0,ld' false 1 53 54 1,o3 (.bin .leq (.tmp 54) (ci' 29)) 55 3,mv' 55 52 7]
def yuc:LO:=[mv' 0 56 0,fa' 0 1 8 57 0,ld' false 1 57 58 2,mv' 1 59 0,cl' 238 [56,58,59] 60 15,xt' 60 0 61 31,xt' 60 1 62 31,mv' 61 6 127,mv' 62 7 255]
def yth:LO:=[fa' 0 1 8 64 0,ld' false 1 64 65 1,o3 (.bin .leq (.tmp 65) (ci' 42)) 66 3,mv' 66 63 7]
def ymk:LO:=[mv' 0 68 0,mv' 1 69 0,o3 (.bin .add (.tmp 69) (ci' 1)) 70 2,mv' 2 71 0,cl' 220 [68,70,71] 72 15,mv' 72 67 31,xt' 67 0 73 63,xt' 67 1 74 63,mv' 73 9 127,mv' 74 10 511]
def ynk:LO:=[mv' 0 76 0,mv' 10 77 0,mv' 2 78 0,cl' 220 [76,77,78] 79 7,mv' 79 75 15,xt' 75 0 80 31,xt' 75 1 81 31,mv' 80 11 63,mv' 81 12 255]
def ynz:LO:=[fa' 0 1 8 82 0,ld' false 1 82 83 1,mv' 9 84 0,mv' 11 85 0,cl' 239 [83,84,85] 86 15,mv' 12 87 0,mv' 86 6 31,mv' 87 7 127]
def ynu:LO:=[mv' 0 89 0,mv' 1 90 0,o3 (.bin .add (.tmp 90) (ci' 1)) 91 2,mv' 2 92 0,cl' 220 [89,91,92] 93 15,mv' 93 88 31,xt' 88 0 94 63,xt' 88 1 95 63,mv' 94 13 127,mv' 95 14 511]
def ynd:LO:=[mv' 0 97 0,mv' 14 98 0,mv' 2 99 0,cl' 220 [97,98,99] 100 7,mv' 100 96 15,xt' 96 0 101 31,xt' 96 1 102 31,mv' 101 15 63,mv' 102 16 255]
def ync:LO:=[mv' 0 104 0,mv' 16 105 0,mv' 2 106 0,cl' 220 [104,105,106] 107 7,mv' 107 103 15,xt' 103 0 108 31,xt' 103 1 109 31,mv' 108 17 63,mv' 109 7 255]
def ynn:LO:=[mv' 13 110 0,o3 (.bin .neq (.tmp 110) (ci' 0)) 111 1]
def ymp:LO:=[mv' 15 112 0,mv' 7 113 0,mv' 112 6 1,mv' 113 7 7]
def ymy:LO:=[mv' 17 114 0,mv' 7 115 0,mv' 114 6 1,mv' 115 7 7]
def c220:SC:=(.seq (.reg false ytr) (.seq (.reg false yuf) (.seq (.block 0 (.seq (.reg false yux) (.cond (.tmp 25) (.seq (.reg false yud) .ret) (.seq (.reg false yuu) (.cond (.tmp 35) (.seq (.reg false yub) (.seq (.reg false yur) .ret)) (.seq (.reg false yug) (.cond (.tmp 52) (.seq (.reg false yuc) .ret) (.seq (.reg false yth) (.cond (.tmp 63) (.seq (.reg false ymk) (.seq (.reg false ynk) (.seq (.reg false ynz) .ret))) .skip))))))))) (.seq (.reg false ynu) (.seq (.reg false ynd) (.seq (.reg false ync) (.seq (.seq (.reg false ynn) (.cond (.tmp 111) (.seq (.reg false ymp) .ret) .skip)) (.seq (.reg false ymy) .ret))))))))
theorem yrh:Fn 220 c220 [.t 6,.t 7]:=fn_0 Tryz.func220 (by kernel_rfl) (by kernel_rfl)
def ycns:LO:=[o3 (.box 240 (.tmp 1)) 4 0,o3 (.mv (ci' 0)) 6 0]
def yckc:LO:=[fa' 0 1 4 7 0,ld' false 1 7 8 1]
def yclf:LO:=[o3 (.bin .eql (.tmp 8) (ci' 1)) 10 0,mv' 10 9 1]
def ycbw:LO:=[fa' 1 1 4 11 0,ld' false 1 11 12 1,mv' 12 6 3]
def ycej:LO:=[o3 (.bin .eql (.tmp 8) (ci' 2)) 14 0,mv' 14 13 1]
def ycdl:LO:=[o3 (.mv (ci' 1)) 6 0]
def ycez:LO:=[o3 (.bin .eql (.tmp 8) (ci' 3)) 16 0,mv' 16 15 1]
def ycfi:LO:=[o3 (.mv (ci' 0)) 6 0]
def ycoa:LO:=[o3 (.bin .eql (.tmp 8) (ci' 4)) 18 0,mv' 18 17 1]
def ycjk:LO:=[o3 (.mv (.const (.int .i64 (-1)))) 6 0]
def ybpw:LO:=[o3 (.bin .eql (.tmp 8) (ci' 5)) 20 0,mv' 20 19 1]
def ybrj:LO:=[mv' 0 21 0,o3 (.nilck (.tmp 21)) 22 1,fa' 1 1 22 23 3,ld' false 1 23 24 7,mv' 0 25 0,o3 (.nilck (.tmp 25)) 26 16,fa' 2 1 26 27 48,ld' false 1 27 28 112,ix' 1 24 28 29 255,ld' false 1 29 30 511,fa' 1 1 4 31 0,ld' false 1 31 32 1024,ix' 1 30 32 33 4095,ld' false 1 33 34 8191,mv' 34 6 16383]
def ybpt:LO:=[o3 (.bin .eql (.tmp 8) (ci' 12)) 36 0,mv' 36 35 1]
def ybnk:LO:=[mv' 0 37 0,o3 (.nilck (.tmp 37)) 38 1,fa' 1 1 38 39 3,ld' false 1 39 40 7,mv' 0 41 0,o3 (.nilck (.tmp 41)) 42 16,fa' 0 1 42 43 48,ld' false 1 43 44 112,o3 (.nilck (.tmp 44)) 45 240,fa' 3 2 45 46 496,fa' 1 1 46 47 1008,ld' false 1 47 48 2032,mv' 0 49 0,o3 (.nilck (.tmp 49)) 50 4096,fa' 2 1 50 51 12288,ld' false 1 51 52 28672,ix' 1 48 52 53 65520,ld' false 1 53 54 131056,mv' 2 55 0,ix' 2 54 55 56 524272,fa' 0 1 56 57 1048560,ld' false 1 57 58 2097136,ix' 1 40 58 59 4194303,ld' false 1 59 60 8388607,fa' 1 1 4 61 0,ld' false 1 61 62 16777216,ix' 1 60 62 63 67108863,ld' false 1 63 64 134217727,mv' 64 6 268435455]
def ybvg:LO:=[mv' 0 65 0,o3 (.nilck (.tmp 65)) 66 1,fa' 0 1 66 67 3,ld' false 1 67 68 7,fa' 0 1 4 69 0,ld' false 1 69 70 16,mv' 0 71 0,o3 (.nilck (.tmp 71)) 72 64,fa' 2 1 72 73 192,ld' false 1 73 74 448,mv' 2 75 0,cl' 255 [68,70,74,75] 76 2047,mv' 76 6 4095]
def c236:SC:=(.seq (.reg false ycns) (.seq (.seq (.reg false yckc) (.block 0 (.seq (.reg false yclf) (.cond (.tmp 9) (.seq (.reg false ycbw) .ret) (.seq (.reg false ycej) (.cond (.tmp 13) (.seq (.reg false ycdl) .ret) (.seq (.reg false ycez) (.cond (.tmp 15) (.seq (.reg false ycfi) .ret) (.seq (.reg false ycoa) (.cond (.tmp 17) (.seq (.reg false ycjk) .ret) (.seq (.reg false ybpw) (.cond (.tmp 19) (.seq (.reg true ybrj) .ret) (.seq (.reg false ybpt) (.cond (.tmp 35) (.seq (.reg true ybnk) .ret) .skip)))))))))))))) (.seq (.reg true ybvg) .ret)))
theorem yctv:Fn 236 c236 [.t 6]:=fn_0 Tryz.func236 (by kernel_rfl) (by kernel_rfl)
def ycfh:LO:=[o3 (.mv (ci' 0)) 6 0,o3 (.mv (ci' 0)) 7 1]
def ycfn:LO:=[o3 (.alloc 256 24 [.i .i64 0]) 8 0]
def yccf:LO:=[mv' 0 11 0,o3 (.nilck (.tmp 11)) 12 1,fa' 0 1 12 13 3,ld' false 1 13 14 7,o3 (.nilck (.tmp 14)) 15 15,fa' 3 2 15 16 31,fa' 1 1 16 17 63,ld' false 1 17 18 127,mv' 0 19 0,o3 (.nilck (.tmp 19)) 20 256,fa' 2 1 20 21 768,ld' false 1 21 22 1792,ix' 1 18 22 23 4095,ld' false 1 23 24 8191,ln' 24 25 16383,mv' 25 9 32767]
def ycgf:LO:=[mv' 9 26 0,o3 (.mv (ci' 0)) 27 0]
def yckv:LO:=[bn' .lss 27 26 28 0]
def ycjf:LO:=[mv' 27 29 0,mv' 29 10 1]
def ycmh:LO:=[mv' 10 31 0,mv' 0 32 0,mv' 2 33 0,o3 (.bin .add (.tmp 33) (ci' 1)) 34 4,mv' 10 35 0,cl' 220 [32,34,35] 36 30,mv' 36 30 62,xt' 30 0 37 126,xt' 30 1 38 126,o3 (.idxA 24 1 (.tmp 8) (.tmp 31)) 39 255,o0 (.store 1 (.tmp 39) (.tmp 37)) 767,mv' 38 7 2047]
def ycke:LO:=[o3 (.bin .add (.tmp 27) (ci' 1)) 40 0,mv' 40 27 1]
def ycpb:LO:=[mv' 9 41 0,o3 (.bin .eql (.tmp 41) (ci' 0)) 42 1]
def ycoc:LO:=[mv' 0 43 0,o3 (.nilck (.tmp 43)) 44 1,fa' 3 1 44 45 3,ld' false 1 45 46 7,mv' 2 47 0,cl' 231 [46,47] 48 31,mv' 48 7 63]
def ybri:LO:=[mv' 1 49 0,mv' 9 50 0,o3 (.cutA 24 1 (.tmp 8) none (some (.tmp 50))) 51 2,cl' 257 [49,51] 52 7,mv' 7 53 0,mv' 52 6 15,mv' 53 7 63]
def c238:SC:=(.seq (.reg false ycfh) (.seq (.reg false ycfn) (.seq (.reg true yccf) (.seq (.seq (.reg false ycgf) (.block 0 (.loop (.seq (.reg false yckv) (.seq (.cond (.tmp 28) .skip (.exit 0)) (.seq (.block 1 (.seq (.reg false ycjf) (.reg false ycmh))) (.reg false ycke))))))) (.seq (.seq (.reg false ycpb) (.cond (.tmp 42) (.reg false ycoc) .skip)) (.seq (.reg false ybri) .ret))))))
theorem ycrc:Fn 238 c238 [.t 6,.t 7]:=fn_0 Tryz.func238 (by kernel_rfl) (by kernel_rfl)
end Sh
end Go.Proofs.YtiejahgklcjhkaaGreatDoor

namespace Go.Proofs.YtiejahgklcjhkaaGreatDoor

def adj(g:Gr)(u v:Nat):Prop:=∃ ls,g.ports[u]? = some ls /\ ∃ l ∈ ls,l.1=(v:Int)
def Walk(g:Gr)(a:Nat):Nat->Nat->Prop
 | 0,v=>v=a
 | k+1,v=>∃ u,Walk g a k u/\adj g u v
def ycsx(g:Gr)(a v:Nat)(x:Int):Prop:=(x = -1 /\ ∀ k,¬ Walk g a k v) \/ ∃ k:Nat,x=k/\Walk g a k v /\ ∀ j,j<k -> ¬ Walk g a j v
def ycym(g:Gr)(a:Nat)(D:List Int):Prop:=D.length=g.ports.length /\ ∀ v x,D[v]? = some x->ycsx g a v x

theorem GoodG.link{g:Gr}(h:GoodG g){v:Nat}{ls:List (Int × Int)}(hv:g.ports[v]? = some ls){l:Int × Int}(hl:l ∈ ls):0<=l.1/\l.1<g.ports.length/\l.1 ≠ v/\1<=l.2/\l.2<=15:=by
 obtain⟨hlt,e⟩:=List.getElem?_eq_some_iff.1 hv;have:=(h.2.2.2.2.2.1 ⟨v,hlt⟩).1 l (by simp only[Fin.getElem_fin,e];exact hl)
 unfold ygf at this;simp only at this;omega
theorem GoodG.adj_lt{g:Gr}(h:GoodG g){u v:Nat}(ha:adj g u v):u<g.ports.length/\v<g.ports.length:=by
 obtain⟨ls,h1,l,hl,e⟩:=ha;have:=h.link h1 hl;exact⟨(List.getElem?_eq_some_iff.1 h1).1,by omega⟩
theorem GoodG.adj_symm{g:Gr}(h:GoodG g){u v:Nat}(ha:adj g u v):adj g v u:=by
 obtain⟨hu,hv⟩:=h.adj_lt ha;obtain⟨ls,h1,l,hl,e⟩:=ha;obtain⟨hlt,e1⟩:=List.getElem?_eq_some_iff.1 h1;have:=h.2.2.2.2.2.2 ⟨u,hlt⟩ l (by simp only[Fin.getElem_fin,e1];exact hl)
 rw[e,Int.toNat_natCast]at this;simp only[List.getD,List.getElem?_eq_getElem hv,Option.getD_some]at this;exact⟨_,List.getElem?_eq_getElem hv,_,this,rfl⟩

structure BfsInv(g:Gr)(a:Nat)(R:List Int)(Q:List Nat):Prop where
 len:R.length=g.ports.length
 src:R[a]? = some 0
 val:∀ (v:Nat) (x:Int),R[v]? = some x->x = -1 \/ ∃ k:Nat,x=k/\Walk g a k v /\ ∀ j,j<k -> ¬ Walk g a j v
 qin:∀ q ∈ Q,∃ k:Nat,R[q]? = some (k:Int)
 sorted:Q.Pairwise (fun p q=>∀ x y,R[p]? = some x->R[q]? = some y->x<=y/\y<=x+1)
 done:∀ (v k:Nat),R[v]? = some (k:Int)->v ∉ Q -> ∀ u,adj g v u -> ∃ j:Nat,R[u]? = some (j:Int)

structure BfsIn(g:Gr)(a v d:Nat)(ls:List (Int × Int))(i:Nat)(R:List Int)(Q:List Nat):Prop where
 len:R.length=g.ports.length
 src:R[a]? = some 0
 val:∀ (v:Nat) (x:Int),R[v]? = some x->x = -1 \/ ∃ k:Nat,x=k/\Walk g a k v /\ ∀ j,j<k -> ¬ Walk g a j v
 qin:∀ q ∈ Q,∃ k:Nat,R[q]? = some (k:Int)
 sorted:Q.Pairwise (fun p q=>∀ x y,R[p]? = some x->R[q]? = some y->x<=y/\y<=x+1)
 rv:R[v]? = some (d:Int)
 low:∀ q ∈ Q,∀ y,R[q]? = some y->(d:Int)<=y/\y<=d+1
 done:∀ (u k:Nat),R[u]? = some (k:Int)->u ∉ Q->u ≠ v -> ∀ t,adj g u t -> ∃ j:Nat,R[t]? = some (j:Int)
 part:∀ l ∈ ls.take i,∃ j:Nat,R[l.1.toNat]? = some (j:Int)

theorem BfsInv.start{g:Gr}{a:Nat}(ha:a<g.ports.length):BfsInv g a ((List.replicate g.ports.length (-1)).set a 0) [a] where
 len:=by simp
 src:=by simp[ha]
 val:=by
  intro v x h;rw[List.getElem?_set]at h;split at h
  ·rename_i e
   subst e;simp[ha]at h;subst h;exact .inr ⟨0,rfl,rfl,fun j hj=>absurd hj (by omega)⟩
  ·rw[List.getElem?_replicate]at h;split at h
   ·cases h;exact .inl rfl
   ·cases h
 qin:=by
  intro q hq;obtain rfl:q=a:=by simpa using hq
  exact⟨0,by simp[ha]⟩
 sorted:=by simp
 done:=by
  intro v k h hv u _;rw[List.getElem?_set]at h;split at h
  ·rename_i e
   exact absurd (by simp[e]) hv
  ·rw[List.getElem?_replicate]at h;split at h
   ·cases h
   ·cases h

theorem BfsIn.finish{g:Gr}{a v d:Nat}{ls:List (Int × Int)}{R:List Int}{Q:List Nat}(h:BfsIn g a v d ls ls.length R Q)(hls:g.ports[v]? = some ls):BfsInv g a R Q where
 len:=h.len
 src:=h.src
 val:=h.val
 qin:=h.qin
 sorted:=h.sorted
 done:=by
  intro u k hu hq t ht
  by_cases e:u=v
  ·subst e;obtain⟨ls',h1,l,hl,e2⟩:=ht;rw[hls]at h1;cases h1
   have:=h.part l (by rw[List.take_length];exact hl)
   rwa [e2,Int.toNat_natCast]at this
  ·exact h.done u k hu hq e t ht

theorem BfsIn.skip{g:Gr}{a v d:Nat}{ls:List (Int × Int)}{i:Nat}{R:List Int}{Q:List Nat}(h:BfsIn g a v d ls i R Q)(hi:i<ls.length){j:Nat}(hj:R[ls[i].1.toNat]? = some (j:Int)):BfsIn g a v d ls (i+1) R Q :=
 ⟨h.len,h.src,h.val,h.qin,h.sorted,h.rv,h.low,h.done,by
   intro l hl;rw[take_snoc ls i hi]at hl;rcases List.mem_append.1 hl with hl | hl
   ·exact h.part l hl
   ·obtain rfl:l=ls[i]:=by simpa using hl
    exact⟨j,hj⟩⟩

theorem BfsIn.found{g:Gr}{a v d:Nat}{ls:List (Int × Int)}{i:Nat}{R:List Int}{Q:List Nat}(h:BfsIn g a v d ls i R Q) :
  ∀ k,k<=d -> ∀ t,Walk g a k t -> ∃ j:Nat,R[t]? = some (j:Int):=by
 intro k
 induction k with
 | zero=>intro _ t ht;obtain rfl:t=a:=ht;exact⟨0,h.src⟩
 | succ k ih =>
  intro hk t ⟨p,hp,hpt⟩;obtain⟨j,hj⟩:=ih (by omega) p hp
  have hjk:j<=k:=by
   rcases h.val p _ hj with e | ⟨k',e,_,hmin⟩
   ·omega
   ·have:j=k':=by omega
    subst this;rcases Nat.lt_or_ge k j with hlt | hge
    ·exact absurd hp (hmin k hlt)
    ·exact hge
  refine h.done p j hj ?_ ?_ t hpt
  ·intro hq;have:=(h.low p hq _ hj).1;omega
  ·rintro rfl;have e1:=h.rv;rw[hj]at e1;have e2:=Option.some.inj e1;omega

end Go.Proofs.YtiejahgklcjhkaaGreatDoor

namespace Go.Proofs.YtiejahgklcjhkaaGreatDoor

def ycaj(R:List Int)(x:Int)(ls:List (Int × Int)):Bool:=ls.any (fun l=>decide (R[l.1.toNat]? = some x))
def ybxs(g:Gr)(d:Int)(R:List Int)(v:Nat):List Int :=
 if decide (R.getD v 0<0) && ycaj R (d - 1) (g.ports.getD v [])then R.set v d else R
def stepD(g:Gr)(R:List Int)(d:Nat):List Int:=(List.range g.ports.length).foldl (ybxs g d) R
def start(g:Gr)(a:Nat):List Int:=(List.replicate g.ports.length (-1)).set a 0
def ydq(g:Gr)(a:Nat):List Int:=(List.range (g.ports.length - 1)).foldl (fun R d=>stepD g R (d+1)) (start g a)

def Upto(g:Gr)(a d v:Nat)(x:Int):Prop:=(x = -1 /\ ∀ k,k<=d -> ¬ Walk g a k v) \/ ∃ k:Nat,k<=d/\x=k/\Walk g a k v /\ ∀ j,j<k -> ¬ Walk g a j v

theorem Upto.eq{g:Gr}{a d v:Nat}{x:Int}(h:Upto g a d v x){k:Nat}(hk:k<=d):x=k ↔ Walk g a k v /\ ∀ j,j<k -> ¬ Walk g a j v:=by
 rcases h with⟨rfl,h1⟩ | ⟨i,hi,rfl,h1,h2⟩
 ·exact⟨fun e=>by omega,fun e=>absurd e.1 (h1 k hk)⟩
 ·constructor
  ·intro e;obtain rfl:i=k:=by omega
   exact⟨h1,h2⟩
  ·rintro⟨h3,h4⟩;rcases Nat.lt_trichotomy i k with h | h | h
   ·exact absurd h1 (h4 i h)
   ·omega
   ·exact absurd h3 (h2 k h)

theorem Upto.more{g:Gr}{a d v:Nat}{x:Int}(h:Upto g a d v x)(hx:0<=x):Upto g a (d+1) v x:=by
 rcases h with⟨rfl,h1⟩ | ⟨i,hi,rfl,h1,h2⟩
 ·omega
 ·exact .inr ⟨i,by omega,rfl,h1,h2⟩

structure LayerInv(g:Gr)(a d v:Nat)(R:List Int):Prop where
 len:R.length=g.ports.length
 new:∀ (u:Nat) (x:Int),R[u]? = some x->u<v->Upto g a (d+1) u x
 old:∀ (u:Nat) (x:Int),R[u]? = some x->v<=u->Upto g a d u x

theorem LayerInv.at_{g:Gr}{a d v:Nat}{R:List Int}(h:LayerInv g a d v R){u:Nat}(hu:u<g.ports.length):R[u]? = some (d:Int) ↔ Walk g a d u /\ ∀ j,j<d -> ¬ Walk g a j u:=by
 have hl:=h.len;have e:R[u]? = some R[u]:=List.getElem?_eq_getElem (by omega)
 have hx:R[u]=(d:Int) ↔ Walk g a d u /\ ∀ j,j<d -> ¬ Walk g a j u:=by
  by_cases hv:u<v
  ·exact(h.new u _ e hv).eq (by omega)
  ·exact(h.old u _ e (by omega)).eq (by omega)
 rw[e]
 simpa using hx

theorem LayerInv.step{g:Gr}(hg:GoodG g){a d v:Nat}{R:List Int}(h:LayerInv g a d v R)(hv:v<g.ports.length):LayerInv g a d (v+1) (ybxs g ((d:Int)+1) R v):=by
 have hlen:=h.len;have ev:R[v]? = some R[v]:=List.getElem?_eq_getElem (by omega)
 have eg:R.getD v 0=R[v]:=by simp[List.getD,ev]
 have ep:g.ports.getD v []=g.ports[v]:=by simp[List.getD,List.getElem?_eq_getElem hv]
 have hhas:ycaj R ((d:Int)+1 - 1) g.ports[v]=true ↔ ∃ u,adj g u v/\Walk g a d u /\ ∀ j,j<d -> ¬ Walk g a j u:=by
  unfold ycaj;rw[List.any_eq_true];constructor
  ·rintro⟨l,hl,h1⟩;have hlk:=hg.link (List.getElem?_eq_getElem hv) hl;have h1:=of_decide_eq_true h1;rw[show(d:Int)+1 - 1=d by omega]at h1
   refine⟨l.1.toNat,hg.adj_symm ⟨_,List.getElem?_eq_getElem hv,l,hl,by omega⟩,?_⟩
   exact(h.at_ (by omega)).1 h1
  ·rintro⟨u,hu,hw⟩;obtain⟨hu1,_⟩:=hg.adj_lt hu;obtain⟨ls,h1,l,hl,e⟩:=hg.adj_symm hu;rw[List.getElem?_eq_getElem hv]at h1;cases h1
   refine⟨l,hl,decide_eq_true ?_⟩;rw[e,Int.toNat_natCast,show(d:Int)+1 - 1=d by omega]
   exact(h.at_ hu1).2 hw
 have hov:=h.old v _ ev (Nat.le_refl _);unfold ybxs;rw[eg,ep]
 by_cases c1:R[v]<0
 ·have hx:R[v] = -1 /\ ∀ k,k<=d -> ¬ Walk g a k v:=by
   rcases hov with h1 | ⟨k,_,e,_⟩
   ·exact h1
   ·omega
  by_cases c2:ycaj R ((d:Int)+1 - 1) g.ports[v]=true
  ·rw[if_pos (by rw[Bool.and_eq_true];exact⟨decide_eq_true c1,c2⟩)]
   obtain⟨p,hp,hw,_⟩:=hhas.1 c2;have hset:∀ t,t ≠ v->(R.set v ((d:Int)+1))[t]? = R[t]?:=fun t ht=>by rw[List.getElem?_set,if_neg (by omega)]
   refine⟨by simp[hlen],fun u x hu huv=>?_,fun u x hu huv=>?_⟩
   ·by_cases e:u=v
    ·subst e;rw[List.getElem?_set,if_pos rfl,if_pos (by omega)]at hu
     cases hu
     exact .inr ⟨d+1,Nat.le_refl _,by omega,⟨p,hw,hp⟩,fun j hj=>hx.2 j (by omega)⟩
    ·rw[hset u e]at hu;exact h.new u x hu (by omega)
   ·rw[hset u (by omega)]at hu
    exact h.old u x hu (by omega)
  ·rw[if_neg (fun e=>c2 (Bool.and_eq_true _ _ ▸ e).2)];refine⟨hlen,fun u x hu huv=>?_,fun u x hu huv=>h.old u x hu (by omega)⟩
   by_cases e:u=v
   ·subst e;rw[ev]at hu;cases hu
    refine .inl ⟨hx.1,fun k hk hw=>?_⟩;rcases Nat.lt_or_ge d k with hlt | hge
    ·obtain rfl:k=d+1:=by omega
     obtain⟨p,hp,hpv⟩:=hw;refine c2 (hhas.2 ⟨p,hpv,hp,fun j hj hw'=>hx.2 (j+1) (by omega) ⟨p,hw',hpv⟩⟩)
    ·exact hx.2 k hge hw
   ·exact h.new u x hu (by omega)
 ·rw[if_neg (by simp[c1])]
  refine⟨hlen,fun u x hu huv=>?_,fun u x hu huv=>h.old u x hu (by omega)⟩
  by_cases e:u=v
  ·subst e;exact(h.old u x hu (Nat.le_refl _)).more (by rw[ev]at hu;cases hu;omega)
  ·exact h.new u x hu (by omega)

theorem yuh{g:Gr}(hg:GoodG g){a d:Nat}{R:List Int}(h:LayerInv g a d 0 R):∀ v,v<=g.ports.length->LayerInv g a d v ((List.range v).foldl (ybxs g ((d:Int)+1)) R)
 | 0,_=>h
 | v+1,hv=>by
  rw[List.range_succ,List.foldl_append];exact(yuh hg h v (by omega)).step hg (by omega)

def ywu(g:Gr)(a d:Nat)(R:List Int):Prop:=R.length=g.ports.length /\ ∀ (u:Nat) (x:Int),R[u]? = some x->Upto g a d u x

theorem ybkw{g:Gr}{a:Nat}(ha:a<g.ports.length):ywu g a 0 (start g a):=by
 refine⟨by simp[start],fun u x hu=>?_⟩
 unfold start at hu;rw[List.getElem?_set]at hu;split at hu
 ·rename_i e
  subst e;simp[ha]at hu;subst hu;exact .inr ⟨0,Nat.le_refl _,rfl,rfl,fun j hj=>absurd hj (by omega)⟩
 ·rename_i e
  rw[List.getElem?_replicate]at hu;split at hu
  ·cases hu
   refine .inl ⟨rfl,fun k hk hw=>?_⟩;obtain rfl:k=0:=by omega
   exact e hw.symm
  ·cases hu

theorem ybiy{g:Gr}(hg:GoodG g){a d:Nat}{R:List Int}(h:ywu g a d R):ywu g a (d+1) (stepD g R (d+1)):=by
 have h0:LayerInv g a d 0 R:=⟨h.1,fun _ _ _ hu=>absurd hu (by omega),fun u x hu _=>h.2 u x hu⟩
 have h1:=yuh hg h0 g.ports.length (Nat.le_refl _);unfold stepD;rw[show((d+1:Nat):Int)=(d:Int)+1 by omega]
 exact⟨h1.len,fun u x hu=>h1.new u x hu (by rw[<- h1.len];exact(List.getElem?_eq_some_iff.1 hu).1)⟩

theorem yqq{g:Gr}(hg:GoodG g){a:Nat}(ha:a<g.ports.length):∀ d,ywu g a d ((List.range d).foldl (fun R d=>stepD g R (d+1)) (start g a))
 | 0=>ybkw ha
 | d+1=>by rw[List.range_succ,List.foldl_append];exact ybiy hg (yqq hg ha d)

theorem chain {g : Gr} {a : Nat} : ∀ k v, Walk g a k v -> (∀ j, j < k -> ¬ Walk g a j v) -> ∃ f : Nat -> Nat, ∀ j, j <= k -> Walk g a j (f j) /\ ∀ i, i < j -> ¬ Walk g a i (f j)
  | 0, v, h, _ => ⟨fun _ => v, fun j hj => by obtain rfl : j = 0 := by omega
                                              exact ⟨h, fun i hi => absurd hi (by omega)⟩⟩
  | k + 1, v, h, hm => by
    obtain ⟨p, hp, hpv⟩ := h
    obtain ⟨f, hf⟩ := chain k p hp (fun j hj hw => hm (j + 1) (by omega) ⟨p, hw, hpv⟩)
    refine ⟨fun j => if j <= k then f j else v, fun j hj => ?_⟩
    by_cases hjk : j <= k
    · simp only [if_pos hjk]; exact hf j hjk
    · obtain rfl : j = k + 1 := by omega
      simp only [if_neg hjk]
      exact ⟨⟨p, hp, hpv⟩, hm⟩

theorem walk_lt{g:Gr}(hg:GoodG g){a:Nat}(ha:a<g.ports.length):∀ k v,Walk g a k v->v<g.ports.length
 | 0,v,h=>by obtain rfl:v=a:=h;exact ha
 | k+1,v,h=>by obtain⟨u,_,hu⟩:=h;exact(hg.adj_lt hu).2

theorem least_walk{g:Gr}{a v:Nat}:∀ k,Walk g a k v -> ∃ j,j<=k/\Walk g a j v /\ ∀ i,i<j -> ¬ Walk g a i v:=by
 intro k
 induction k using Nat.strongRecOn with
 | _ k ih =>
  intro hw
  by_cases h:∃ j,j<k/\Walk g a j v
  ·obtain⟨j,hj,hwj⟩:=h;obtain⟨i,hi,r⟩:=ih j hj hwj;exact⟨i,by omega,r⟩
  ·exact⟨k,Nat.le_refl _,hw,fun i hi hwi=>h ⟨i,hi,hwi⟩⟩

theorem ybto{g:Gr}(hg:GoodG g){a v k:Nat}(ha:a<g.ports.length)(h:Walk g a k v)(hm:∀ j,j<k -> ¬ Walk g a j v):k<g.ports.length:=by
 obtain⟨f,hf⟩:=chain k v h hm;have hinj:∀ i j,i<j->j<=k->f i ≠ f j:=fun i j hij hj e=>(hf j hj).2 i hij (by rw[<- e];exact(hf i (by omega)).1)
 have h1:((List.range (k+1)).map f).Nodup:=by
  rw[List.Nodup,List.pairwise_map];refine(List.Pairwise.and_mem.1 List.pairwise_lt_range).imp ?_;rintro i j ⟨_,hj,hij⟩;exact hinj i j hij (by simp at hj;omega)
 have h2:(List.range (k+1)).map f ⊆ List.range g.ports.length:=by
  intro x hx;obtain⟨j,hj,rfl⟩:=List.mem_map.1 hx;simp only[List.mem_range]at hj ⊢;exact walk_lt hg ha j _ (hf j (by omega)).1
 have:=List.Nodup.length_le_of_subset h1 h2;simp at this;omega

theorem yin{g:Gr}(hg:GoodG g){a:Nat}(ha:a<g.ports.length):ycym g a (ydq g a):=by
 obtain⟨h1,h2⟩:=yqq hg ha (g.ports.length - 1);refine⟨h1,fun v x hx=>?_⟩;rcases h2 v x hx with⟨rfl,h3⟩ | ⟨k,_,r⟩
 ·refine .inl ⟨rfl,fun k hk=>?_⟩;obtain⟨j,_,hj,hm⟩:=least_walk k hk;have:=ybto hg ha hj hm;exact h3 j (by omega) hj
 ·exact .inr ⟨k,r⟩

end Go.Proofs.YtiejahgklcjhkaaGreatDoor

namespace Go.Proofs.YtiejahgklcjhkaaGreatDoor

def ype(g:Gr):Bool:=yci g && (ydq g 0).all (fun x=>decide (0<=x))
theorem yzy(D:List Int):∀ m:Int,m<=D.foldl max m:=by
 induction D with
 | nil=>intro m;exact Int.le_refl _
 | cons x D ih=>intro m;exact Int.le_trans (Int.le_max_left m x) (ih _)
theorem ybam{g:Gr}(hg:GoodG g){a:Nat}(ha:a<g.ports.length):(ydq g a).length=g.ports.length:=(yin hg ha).1

theorem Walk.trans{g:Gr}{a b:Nat}:∀ {j:Nat} {c:Nat} {k:Nat},Walk g a k b->Walk g b j c->Walk g a (k+j) c
 | 0,c,k,h1,h2=>by obtain rfl:c=b:=h2;exact h1
 | j+1,c,k,h1,h2=>by
  obtain⟨u,hu,huc⟩:=h2;exact⟨u,Walk.trans h1 hu,huc⟩
theorem Walk.one{g:Gr}{a b:Nat}(h:adj g a b):Walk g a 1 b:=⟨a,rfl,h⟩
theorem Walk.symm{g:Gr}(hg:GoodG g){a:Nat}:∀ {k:Nat} {b:Nat},Walk g a k b->Walk g b k a
 | 0,b,h=>by obtain rfl:b=a:=h;exact rfl
 | k+1,b,h=>by
  obtain⟨u,hu,hub⟩:=h;have:=Walk.trans (Walk.one (hg.adj_symm hub)) (Walk.symm hg hu)
  rwa [Nat.add_comm]at this

theorem ybdw{g:Gr}(hg:GoodG g){a:Nat}(ha:a<g.ports.length):(ydq g a).all (fun x=>decide (0<=x))=true ↔ ∀ v,v<g.ports.length -> ∃ k,Walk g a k v:=by
 have hd:=yin hg ha;rw[List.all_eq_true];constructor
 ·intro h v hv;have hv':v<(ydq g a).length:=by rw[hd.1];exact hv
  rcases hd.2 v _ (List.getElem?_eq_getElem hv')with⟨e,_⟩ | ⟨k,_,hk,_⟩
  ·have:=of_decide_eq_true (h _ (List.getElem_mem hv'));omega
  ·exact⟨k,hk⟩
 ·intro h x hx;obtain⟨v,hv,rfl⟩:=List.mem_iff_getElem.1 hx;obtain⟨k,hk⟩:=h v (by rw[<- hd.1];exact hv)
  rcases hd.2 v _ (List.getElem?_eq_getElem hv)with⟨e,h1⟩ | ⟨k,e,_⟩
  ·exact absurd hk (h1 k)
  ·rw[e];simp

theorem ybxz{g:Gr}(hg:GoodG g){a b:Nat}(ha:a<g.ports.length)(hb:b<g.ports.length)(h:(ydq g a).all (fun x=>decide (0<=x))=true):(ydq g b).all (fun x=>decide (0<=x))=true:=by
 rw[ybdw hg ha]at h;rw[ybdw hg hb];intro v hv;obtain⟨k,hk⟩:=h v hv;obtain⟨j,hj⟩:=h b hb;exact⟨_,Walk.trans (Walk.symm hg hj) hk⟩

end Go.Proofs.YtiejahgklcjhkaaGreatDoor

namespace Go.Proofs.YtiejahgklcjhkaaGreatDoor

abbrev Conf:=List (List Int)
abbrev Bounds:=List (Int × Int)

def yrs(bs:Bounds)(s:List Int):Bool:=decide (s.length=bs.length) && (bs.zip s).all (fun p=>decide (p.1.1<=p.2) && decide (p.2<=p.1.2))
def yph(n:Nat)(bs:Nat->Bounds)(c:Conf):Bool:=decide (c.length=n) && c.zipIdx.all (fun p=>yrs (bs p.2) p.1)

def ydp(bs:Bounds)(s:List Int):Prop:=s.length=bs.length /\ ∀ (i:Nat) b x,bs[i]? = some b->s[i]? = some x->b.1<=x/\x<=b.2
def ybfl(n:Nat)(bs:Nat->Bounds)(c:Conf):Prop:=c.length=n /\ ∀ (v:Nat) s,c[v]? = some s->ydp (bs v) s

theorem yea(bs:Bounds)(s:List Int):yrs bs s=true ↔ ydp bs s:=by
 unfold yrs ydp;rw[Bool.and_eq_true,decide_eq_true_iff,List.all_eq_true];refine and_congr_right fun _=>⟨fun h i b x hb hx=>?_,fun h p hp=>?_⟩
 ·have:=h (b,x) (List.mem_of_getElem? (i:=i) (by simp[List.getElem?_zip_eq_some,hb,hx]))
  simpa using this
 ·obtain⟨i,hi⟩:=List.mem_iff_getElem?.1 hp;obtain⟨b,x⟩:=p;rw[List.getElem?_zip_eq_some]at hi
  simpa using h i b x hi.1 hi.2
theorem ydy(n:Nat)(bs:Nat->Bounds)(c:Conf):yph n bs c=true ↔ ybfl n bs c:=by
 unfold yph ybfl;rw[Bool.and_eq_true,decide_eq_true_iff,List.all_eq_true];refine and_congr_right fun _=>⟨fun h v s hs=>?_,fun h p hp=>?_⟩
 ·refine(yea _ _).1 (h (s,v) ?_);rw[List.mem_zipIdx_iff_getElem?];exact hs
 ·rw[List.mem_zipIdx_iff_getElem?]at hp;exact(yea _ _).2 (h p.2 p.1 hp)
theorem yho{n:Nat}{bs:Nat->Bounds}{c:Conf}(h:¬ ybfl n bs c):yph n bs c=false:=by
 cases hb:yph n bs c with
 | false=>rfl
 | true=>exact absurd ((ydy n bs c).1 hb) h
theorem yuk{n:Nat}{bs:Nat->Bounds}{c:Conf}(h:ybfl n bs c):yph n bs c=true:=(ydy n bs c).2 h
def ycum(g:Gr)(v:Nat):Nat:=(g.ports.getD v []).length
def ycy(g:Gr)(G:List Int)(v:Nat):Bounds:=G.map (fun h=>if h = -1 then(-1,(ycum g v:Int) - 1)else(0,h))
def ybeg(g:Gr):Int:=g.ids.foldl max 0
end Go.Proofs.YtiejahgklcjhkaaGreatDoor

namespace Go.Proofs.YtiejahgklcjhkaaGreatDoor
open Go.RowKit

theorem In_t(v lo hi:Int)(w:World)(h1:lo<=v)(h2:v<=hi) :
  Calls Tryz.prog 134 #[.int .i64 v,.int .i64 lo,.int .i64 hi] w fun e w'=>e = .returned (.bool true)/\w=w':=by
 go_enter Tryz.func134,Tryz.ntmps134
 go_wp2
 go_ret
 exact⟨rfl,rfl⟩

theorem In_f(v lo hi:Int)(w:World)(h:v<lo\/hi<v) :
  Calls Tryz.prog 134 #[.int .i64 v,.int .i64 lo,.int .i64 hi] w fun e w'=>e = .returned (.bool false)/\w=w':=by
 by_cases h1:lo<=v
 ·have h2:hi<v:=by omega
  go_enter Tryz.func134,Tryz.ntmps134
  go_wp2
  go_ret
  exact⟨ybb (by simp;omega),rfl⟩
 ·go_enter Tryz.func134,Tryz.ntmps134
  go_wp2
  go_ret
  exact⟨rfl,rfl⟩

theorem yxa(gv:Value)(g:Gr)(v:Nat)(ls:List (Int × Int))(u:Int)(w:World)(hg:GrAt w gv g)(hv:g.ports[v]? = some ls) :
  Calls Tryz.prog 62 #[gv,.int .i64 v,.int .i64 u] w fun e w'=>e = .returned (.int .i64 (yfh ls u))/\Below w.heap.size w w':=by
 obtain⟨i,p,rfl,_,A,c,rfl,hc1,hc2,hp⟩:=hg;have hvlt:v<g.ports.length:=(List.getElem?_eq_some_iff.1 hv).1;obtain⟨b,off,rfl,hb,hP⟩:=hp (by omega)
 obtain⟨lv,hcell,A2,c2,rfl,hl1,hl2,hL⟩:=hP v ls hv;simp only[Nat.mul_one]at hcell;have HL:=Lib.hid hL;have HP:=Lib.hid hP;have Hv:=Lib.hid hv
 clear hL hP hv hp
 go_enter Tryz.func62,Tryz.ntmps62
 go_wp2
 go_loop [7] (fun t=>∃ k:Nat,k<=ls.length/\t = .int .i64 k/\Hid ((ls.take k).findIdx? (fun l=>l.1 == u)=none)) (fun t=>ls.length - (intOf t).toNat)
 case atStart=>exact⟨0,by omega,rfl,Lib.hid (by simp)⟩
 case round =>
  obtain⟨k,hk,rfl,hnone⟩:=hrel
  by_cases hlt:k<ls.length
  ·obtain⟨b2,off2,rfl,hb2,hE⟩:=HL.out (by omega)
   obtain⟨e1,e2,hw1,hw2⟩:=hE k ls[k] (List.getElem?_eq_getElem hlt);have HE:=Lib.hid hE
   clear hE
   by_cases heq:ls[k].1=u
   ·have heq':(ls[k].1 == u)=true:=by simp[heq]
    have Hr:=Lib.hid (ymv ls u k hlt heq hnone.out)
    clear heq
    go_wp2
    go_ret
    exact⟨ybqv Hr.out.symm,(Below.refl _ _).alloc (Nat.le_refl _) _⟩
   ·have heq':(ls[k].1 == u)=false:=by simp[heq]
    have Hr:=Lib.hid (yok ls u k hlt heq hnone.out)
    clear heq
    go_wp2
    go_round
    case rel=>exact⟨k+1,by omega,by go_num,Hr⟩
    case measure=>simp[intOf];omega
  ·have hkl:k=ls.length:=by omega
   subst hkl;have Hr:=Lib.hid (yrc ls u hnone.out)
   go_wp2
   go_ret
   exact⟨ybqv Hr.out.symm,(Below.refl _ _).alloc (Nat.le_refl _) _⟩


theorem yfz(lv:Value)(ls:List (Int × Int))(v n:Int)(w:World)(hl:ybbr w lv ls)(hn:0<=n/\n<=1000) :
  Calls Tryz.prog 135 #[lv,.int .i64 v,.int .i64 n] w fun e w'=>e = .returned (.bool (ylp ls v n)) /\ ∃ m,w'=w.drewN m:=by
 obtain⟨hn1,hn2⟩:=hn;obtain⟨A,c,rfl,hc1,hc2,hL⟩:=hl;have HL:=Lib.hid hL
 clear hL
 go_enter Tryz.func135,Tryz.ntmps135
 go_wp2
 go_loopw [7] (fun t wr=>∃ k m:Nat,k<=ls.length/\t = .int .i64 k/\wr=w.drewN m/\Hid (ybq (ls.take k) v n)) (fun t _=>ls.length - (intOf t).toNat)
 case atStart=>exact⟨0,0,by omega,rfl,rfl,Lib.hid ⟨by simp,by simp⟩⟩
 case round =>
  obtain⟨k,m,hk,rfl,rfl,hok⟩:=hrel
  by_cases hlt:k<ls.length
  ·obtain⟨b2,off2,rfl,hb2,hE⟩:=HL.out (by omega)
   obtain⟨e1,e2,⟨hw1,hw1'⟩,⟨hw2,hw2'⟩⟩:=hE k ls[k] (List.getElem?_eq_getElem hlt);have HE:=Lib.hid hE
   clear hE
   have Hsn:=Lib.hid (yoi ls v n k hlt);have Hbad:=Lib.hid (fun h=>yrz ls v n (k+1) h)
   by_cases c1:0<=ls[k].1/\ls[k].1<=n - 1
   ·obtain⟨c1a,c1b⟩:=c1
    by_cases c2:ls[k].1=v
    ·have c2':(ls[k].1 == v)=true:=by simp[c2]
     have Hf:=Lib.hid (Hbad.out (fun h=>((Hsn.out.1 h).2.1).2.2.1 c2))
     clear c2
     go_wp2_with (first | (go_at_call 134;refine(In_t _ _ _ _ (by omega) (by omega)).mono ?_;rintro e w' ⟨rfl,rfl⟩))
     go_ret
     exact⟨ybb Hf.out.symm,m,rfl⟩
    ·have c2':(ls[k].1 == v)=false:=by simp[c2]
     by_cases c3:1<=ls[k].2/\ls[k].2<=15
     ·obtain⟨c3a,c3b⟩:=c3;have Hlk:=Lib.hid (show ygf v n ls[k]from⟨c1a,c1b,c2,c3a,c3b⟩)
      clear c2
      go_wp2_with (first | (go_at_call 134;refine(In_t _ _ _ _ (by omega) (by omega)).mono ?_;rintro e w' ⟨rfl,rfl⟩))
      go_loopw [8] (fun t wr=>∃ j m2:Nat,j<=k/\t = .int .i64 j/\wr=w.drewN m2/\Hid (∀ i (hi:i<j) (hj:j<=k),ls[i].1 ≠ ls[k].1)) (fun t _=>k - (intOf t).toNat)
      case atStart=>exact⟨0,m,by omega,rfl,rfl,Lib.hid (fun i hi=>absurd hi (by omega))⟩
      case round =>
       obtain⟨j,m2,hj,rfl,rfl,hne⟩:=hrel
       by_cases hjk:j<k
       ·obtain⟨f1,f2,_,_⟩:=HE.out j ls[j] (List.getElem?_eq_getElem (by omega))
        by_cases c4:ls[j].1=ls[k].1
        ·have c4':(ls[j].1 == ls[k].1)=true:=by simp[c4]
         have Hf:=Lib.hid (Hbad.out (fun h=>(Hsn.out.1 h).2.2 j hjk c4))
         clear c4
         go_wp2
         go_quiet (fail)
         go_wp2
         go_ret
         exact⟨ybb Hf.out.symm,_,World.drewN_drewN _ _ _⟩
        ·have c4':(ls[j].1 == ls[k].1)=false:=by simp[c4]
         have Hc4:=Lib.hid c4
         clear c4
         go_wp2
         go_quiet (fail)
         go_wp2
         go_roundw
         case rel =>
          refine⟨j+1,_,by omega,by go_num,rfl,Lib.hid (fun i hi hj'=>?_)⟩
          by_cases hij:i<j
          ·exact hne.out i hij hj
          ·obtain rfl:i=j:=by omega
           exact Hc4.out
         case measure=>simp[intOf];omega
       ·obtain rfl:j=k:=by omega
        go_wp2
        go_roundw
        case rel=>exact⟨j+1,_,by omega,by go_num,rfl,Lib.hid (Hsn.out.2 ⟨hok.out,Hlk.out,fun i hi=>hne.out i hi (Nat.le_refl _)⟩)⟩
        case measure=>simp[intOf];omega
     ·have Hf:=Lib.hid (Hbad.out (fun h=>c3 ⟨((Hsn.out.1 h).2.1).2.2.2.1,((Hsn.out.1 h).2.1).2.2.2.2⟩))
      clear c2
      have c3':ls[k].2<1\/15<ls[k].2:=by omega
      clear c3
      go_wp2_with (first | (go_at_call 134;refine(In_t _ _ _ _ (by omega) (by omega)).mono ?_;rintro e w' ⟨rfl,rfl⟩) | (go_at_call 134;refine(In_f _ _ _ _ (by omega)).mono ?_;rintro e w' ⟨rfl,rfl⟩))
      go_ret
      exact⟨ybb Hf.out.symm,m,rfl⟩
   ·have Hf:=Lib.hid (Hbad.out (fun h=>c1 ⟨((Hsn.out.1 h).2.1).1,((Hsn.out.1 h).2.1).2.1⟩));have c1':ls[k].1<0\/n - 1<ls[k].1:=by omega
    clear c1
    go_wp2_with (first | (go_at_call 134;refine(In_f _ _ _ _ (by omega)).mono ?_;rintro e w' ⟨rfl,rfl⟩))
    go_ret
    exact⟨ybb Hf.out.symm,m,rfl⟩
  ·obtain rfl:k=ls.length:=by omega
   have Ht:=Lib.hid (ysk ls v n hok.out)
   go_wp2
   go_ret
   exact⟨ybb Ht.out.symm,m,rfl⟩

end Go.Proofs.YtiejahgklcjhkaaGreatDoor

namespace Go.Proofs.YtiejahgklcjhkaaGreatDoor
open Go.RowKit

set_option maxHeartbeats 2000000 in
theorem yyo(gv:Value)(g:Gr)(w:World)(hg:GrAt w gv g) :
  Calls Tryz.prog 85 #[gv] w fun e w'=>e = .returned (.bool (yci g))/\Below w.heap.size w w':=by
 have hg0:=Lib.hid hg;obtain⟨i,p,rfl,hi,hp⟩:=hg;obtain⟨A,c,rfl,hA1,hA2⟩:=ybk hi;obtain⟨A2,c2,rfl,hB1,hB2⟩:=ybk hp;have Hi:=Lib.hid hi;have Hp:=Lib.hid hp
 clear hi hp
 by_cases n1:1<=g.ports.length/\g.ports.length<=24
 ·obtain⟨n1a,n1b⟩:=n1
  by_cases n2:g.ids.length=g.ports.length
  ·have n2':((g.ids.length:Int) != (g.ports.length:Int))=false:=by simp[n2]
   have Hn2:=Lib.hid n2;have n2a:g.ids.length<=g.ports.length:=by omega
   have n2b:g.ports.length<=g.ids.length:=by omega
   clear n2
   go_enter Tryz.func85,Tryz.ntmps85
   go_wp2_with (first | (go_at_call 134;refine(In_t _ _ _ _ (by omega) (by omega)).mono ?_;rintro e w' ⟨rfl,rfl⟩))
   go_loopw [4] (fun t wr=>∃ k:Nat,k<=g.ports.length/\t = .int .i64 k/\Hid (Below (w.heap.size+1) (w.alloc (.cells #[.slice A g.ids.length c,.slice A2 g.ports.length c2] 27)) wr)/\Hid (∀ v,v<k->V2 g v)) (fun t _=>g.ports.length - (intOf t).toNat)
   case atStart=>exact⟨0,by omega,rfl,Lib.hid (Below.refl _ _),Lib.hid (fun v hv=>absurd hv (by omega))⟩
   case round =>
    obtain⟨k,hk,rfl,hbel,hv2⟩:=hrel;obtain⟨q0,q1,hbw,hsz⟩:=box2 hbel.out;have Hbw:=Lib.hid hbw
    clear hbw
    by_cases hlt:k<g.ports.length
    ·obtain⟨b,off,rfl,hb,hcid,hr⟩:=ygr (Hi.out.below Stable.int Hbw.out) (show k<g.ids.length by omega)
     obtain⟨b2,off2,lv,rfl,hb2,hcl,hls⟩:=ygi (Hp.out.below (Stable.sl Stable.link) Hbw.out) (List.getElem?_eq_getElem hlt);obtain⟨A3,c3,rfl,hl1,hl2⟩:=ybk hls;have Hls:=Lib.hid hls
     clear hls
     obtain⟨x,hx⟩:∃ x,g.ids[k]? = some x:=⟨_,List.getElem?_eq_getElem (by omega)⟩
     have hxe:g.ids[k]=x:=by have:=List.getElem?_eq_getElem (l:=g.ids) (i:=k) (by omega);rw[hx]at this;exact(Option.some.inj this).symm
     simp only[hxe]at hcid hr;obtain⟨ls,hle⟩:∃ ls,g.ports[k]=ls:=⟨_,rfl⟩;have hlp:g.ports[k]? = some ls:=by rw[List.getElem?_eq_getElem hlt,hle]
     simp only[hle]at hcl hl1 Hls;have Hx:=Lib.hid hx;have Hlp:=Lib.hid hlp
     clear hx hxe hle hlp
     obtain⟨hr1,hr2⟩:=hr;have Hbad:=Lib.hid (fun h=>yrd (g:=g) (v:=k) hlt h)
     by_cases c1:0<=x/\x<=255
     ·obtain⟨c1a,c1b⟩:=c1
      by_cases c2:ls.length<g.ports.length
      ·have c2d:decide (g.ports.length<=ls.length)=false:=by simp;omega
       by_cases c3:ylp ls (k:Int) (g.ports.length:Int)=true
       ·go_wp2_with (first | (go_at_call 134;refine(In_t _ _ _ _ (by omega) (by omega)).mono ?_;rintro e w' ⟨rfl,rfl⟩) | (go_at_call 135;refine(yfz _ ls _ _ _ Hls.out ⟨by omega,by omega⟩).mono ?_;rintro e w' ⟨rfl,m,rfl⟩))
        obtain⟨w2,hw2⟩:∃ w2,w2=wr.drewN m:=⟨_,rfl⟩;rw[<- hw2];have Hb2:=Lib.hid (ysi hbel.out hw2)
        clear hw2
        go_loopw [5] (fun t wq=>∃ j m2:Nat,j<=k/\t = .int .i64 j/\wq=w2.drewN m2/\Hid (∀ u y,u<j->g.ids[u]? = some y->y ≠ x)) (fun t _=>k - (intOf t).toNat)
        case atStart=>exact⟨0,0,by omega,rfl,rfl,Lib.hid (fun u y hu=>absurd hu (by omega))⟩
        case round =>
         obtain⟨j,m2,hj,rfl,rfl,hne⟩:=hrel;obtain⟨q0,q1,hbw,hsz⟩:=box2 Hb2.out;have Hbw2:=Lib.hid hbw;obtain⟨b',off',e',hb',hcid,_⟩:=ygr (Hi.out.below Stable.int Hbw2.out) (show k<g.ids.length by omega)
         cases e'
         clear hbw
         have hkx:g.ids[k]=x:=by have:=List.getElem?_eq_getElem (l:=g.ids) (i:=k) (by omega);rw[Hx.out]at this;exact(Option.some.inj this).symm
         rw[hkx]at hcid
         clear hkx
         by_cases hjk:j<k
         ·obtain⟨b',off',e',hb',hcj,_⟩:=ygr (Hi.out.below Stable.int Hbw2.out) (show j<g.ids.length by omega)
          cases e'
          by_cases c4:g.ids[j]=x
          ·have c4':(g.ids[j] == x)=true:=by simp[c4]
           have Hf:=Lib.hid (Hbad.out (fun h=>(h x ls Hx.out Hlp.out).2.2.2 j _ hjk (List.getElem?_eq_getElem (by omega)) c4))
           clear c4
           go_wp2
           go_quiet (fail)
           go_wp2
           go_ret
           exact⟨ybb Hf.out.symm,below_drewN (below_drewN (box2 Hb2.out).2.2.1 _) _⟩
          ·have c4':(g.ids[j] == x)=false:=by simp[c4]
           have Hc4:=Lib.hid c4
           clear c4
           go_wp2
           go_quiet (fail)
           go_wp2
           go_roundw
           case rel =>
            refine⟨j+1,_,by omega,by go_num,rfl,Lib.hid (fun u y hu hy=>?_)⟩
            by_cases huj:u<j
            ·exact hne.out u y huj hy
            ·obtain rfl:u=j:=by omega
             rw[List.getElem?_eq_getElem (by omega)]at hy
             cases hy
             exact Hc4.out
           case measure=>simp[intOf];omega
         ·obtain rfl:j=k:=by omega
          go_wp2
          go_roundw
          case rel =>
           refine⟨j+1,by omega,by go_num,Lib.hid (below_drewN Hb2.out _),Lib.hid (fun v hv=>?_)⟩
           by_cases hvj:v<j
           ·exact hv2.out v hvj
           ·obtain rfl:v=j:=by omega
            intro x' ls' hx' hls';rw[Hx.out]at hx';rw[Hlp.out]at hls';cases hx'
            cases hls'
            exact⟨⟨c1a,c1b⟩,c2,c3,hne.out⟩
          case measure=>simp[intOf];omega
       ·have c3':ylp ls (k:Int) (g.ports.length:Int)=false:=by simpa using c3
        have Hf:=Lib.hid (Hbad.out (fun h=>c3 (h x ls Hx.out Hlp.out).2.2.1))
        clear c3
        go_wp2_with (first | (go_at_call 134;refine(In_t _ _ _ _ (by omega) (by omega)).mono ?_;rintro e w' ⟨rfl,rfl⟩) | (go_at_call 135;refine(yfz _ ls _ _ _ Hls.out ⟨by omega,by omega⟩).mono ?_;rintro e w' ⟨rfl,m,rfl⟩))
        go_ret
        exact⟨ybb Hf.out.symm,below_drewN Hbw.out _⟩
      ·have c2d:decide (g.ports.length<=ls.length)=true:=by simp;omega
       have Hf:=Lib.hid (Hbad.out (fun h=>c2 (h x ls Hx.out Hlp.out).2.1))
       go_wp2_with (first | (go_at_call 134;refine(In_t _ _ _ _ (by omega) (by omega)).mono ?_;rintro e w' ⟨rfl,rfl⟩) | (go_at_call 135;refine(yfz _ ls _ _ _ Hls.out ⟨by omega,by omega⟩).mono ?_;rintro e w' ⟨rfl,m,rfl⟩))
       go_ret
       exact⟨ybb Hf.out.symm,Hbw.out⟩
     ·have Hf:=Lib.hid (Hbad.out (fun h=>c1 (h x ls Hx.out Hlp.out).1));have c1':x<0\/255<x:=by omega
      clear c1
      go_wp2_with (first | (go_at_call 134;refine(In_f _ _ _ _ (by omega)).mono ?_;rintro e w' ⟨rfl,rfl⟩))
      go_ret
      exact⟨ybb Hf.out.symm,Hbw.out⟩
    ·obtain rfl:k=g.ports.length:=by omega
     go_wp2
     go_loopw [6] (fun t wr=>∃ k:Nat,k<=g.ports.length/\t = .int .i64 k/\Hid (Below (w.heap.size+1) (w.alloc (.cells #[.slice A g.ids.length c,.slice A2 g.ports.length c2] 27)) wr)/\Hid (∀ v i,v<k->V3 g v i)) (fun t _=>g.ports.length - (intOf t).toNat)
     case atStart=>exact⟨0,by omega,rfl,hbel,Lib.hid (fun v i hv=>absurd hv (by omega))⟩
     case round =>
      clear hbel Hbw q0 q1 hsz
      obtain⟨k,hk,rfl,hbel,hv3⟩:=hrel;obtain⟨q0,q1,hbw,hsz⟩:=box2 hbel.out;have Hbw:=Lib.hid hbw
      clear hbw
      by_cases hlt:k<g.ports.length
      ·obtain⟨ls,hle⟩:∃ ls,g.ports[k]=ls:=⟨_,rfl⟩;have hlp:g.ports[k]? = some ls:=by rw[List.getElem?_eq_getElem hlt,hle]
       have Hlp:=Lib.hid hlp
       clear hle hlp
       have Hlk:=Lib.hid (show ∀ l ∈ ls,ygf k g.ports.length l by
        have:=(hv2.out k hlt _ ls (List.getElem?_eq_getElem (by omega)) Hlp.out).2.2.1
        exact fun l hl=>(of_decide_eq_true this).1 l hl)
       have Hbad:=Lib.hid (fun i h=>ysh (g:=g) (v:=k) (i:=i) hlt h)
       go_wp2
       go_loopw [7] (fun t wr=>∃ i:Nat,i<=ls.length/\t = .int .i64 i/\Hid (Below (w.heap.size+1) (w.alloc (.cells #[.slice A g.ids.length c,.slice A2 g.ports.length c2] 27)) wr)/\Hid (∀ j,j<i->V3 g k j)) (fun t _=>ls.length - (intOf t).toNat)
       case atStart=>exact⟨0,by omega,rfl,hbel,Lib.hid (fun j hj=>absurd hj (by omega))⟩
       case round =>
        clear hbel Hbw q0 q1 hsz
        obtain⟨i,hi,rfl,hbel,hv3'⟩:=hrel;obtain⟨q0,q1,hbw,hsz⟩:=box2 hbel.out;have Hbw:=Lib.hid hbw;obtain⟨b2,off2,lv,rfl,hb2,hcl,hls⟩:=ygi (Hp.out.below (Stable.sl Stable.link) Hbw.out) Hlp.out;obtain⟨A3,c3,rfl,hl1,hl2⟩:=ybk hls
        by_cases hil:i<ls.length
        ·obtain⟨A4,c4,e4,_,_,hE⟩:=hls;cases e4
         obtain⟨b3,off3,rfl,hb3,hE⟩:=hE (by omega)
         obtain⟨⟨l1,wt⟩,hle⟩:∃ l,ls[i]=l:=⟨_,rfl⟩;have hl?:ls[i]? = some (l1,wt):=by rw[List.getElem?_eq_getElem hil,hle]
         obtain⟨hx1,hx2,⟨hr1,hr2⟩,⟨hr3,hr4⟩⟩:=hE i _ hl?;have hlk:=Hlk.out (l1,wt) (List.mem_of_getElem? hl?);unfold ygf at hlk;obtain⟨k1,k2,k3,k4,k5⟩:=hlk;simp only at k1 k2 k3 k4 k5 hx1 hx2 hr1 hr2 hr3 hr4;obtain⟨t,rfl⟩:=Int.eq_ofNat_of_zero_le k1;have htl:t<g.ports.length:=by omega
         obtain⟨b',off',lv',e',hb',hcl',hls'⟩:=ygi (Hp.out.below (Stable.sl Stable.link) Hbw.out) (List.getElem?_eq_getElem htl);cases e'
         obtain⟨A5,c5,rfl,hm1,hm2⟩:=ybk hls';obtain⟨ls',hle'⟩:∃ ls',g.ports[t]=ls':=⟨_,rfl⟩;have Hlp':=Lib.hid (show g.ports[t]? = some ls' by rw[List.getElem?_eq_getElem htl,hle'])
         rw[hle']at hls' hcl' hm1;have Hl?:=Lib.hid hl?;have HE:=Lib.hid hE;have Hls':=Lib.hid hls';have Hbb:=Lib.hid (Hbad.out i)
         clear hle hle' hl? hE hls' k1 k3 hbw
         have Hgr:=Lib.hid (hg0.out.below Hbw.out);rcases yky (ls:=ls') (u:=(k:Int))with hpt | ⟨q,hpt,hq⟩
         ·have Hpt:=Lib.hid hpt
          clear hpt
          have Hf:=Lib.hid (Hbb.out (fun h=>by
           obtain⟨ls2,q2,l2,f1,f2,_⟩:=h ls _ Hlp.out Hl?.out;rw[Int.toNat_natCast,Hlp'.out]at f1;cases f1
           rw[Hpt.out]at f2;omega))
          go_wp2_with fail
          refine(yxa _ g t ls' k _ (Hgr.out.below ((Below.refl _ _).alloc (Nat.le_refl _) _)) Hlp'.out).mono ?_;rintro e w3 ⟨rfl,hb3w⟩;rw[Hpt.out];have d0:=keepA hb3w _ _ q0;have d1:=keepA hb3w _ _ q1;have d2:=keepA hb3w _ _ hcl';obtain⟨d3,d4⟩:=ybyy hb3w;have Hb3:=Lib.hid (ybfk hb3w);have hz3:wr.heap.size<w3.heap.size:=by have:=hb3w.size;simp at this;omega
          clear hb3w
          go_wp2
          go_quiet (fail)
          go_wp2
          go_ret
          exact⟨ybb Hf.out.symm,below_drewN (Hbw.out.trans (Hb3.out.mono Hbw.out.size)) _⟩
         ·have Hpt:=Lib.hid hpt
          clear hpt
          obtain⟨A6,c6,e6,_,_,hE6⟩:=Hls'.out;cases e6
          obtain⟨b6,off6,rfl,hb6,hE6⟩:=hE6 (by omega)
          obtain⟨⟨y1,y2⟩,hqe⟩:∃ l,ls'[q]=l:=⟨_,rfl⟩;have hq?:ls'[q]? = some (y1,y2):=by rw[List.getElem?_eq_getElem hq,hqe]
          obtain⟨_,hx4,_,_⟩:=hE6 q _ hq?;simp only at hx4;have Hq?:=Lib.hid hq?
          clear hqe hq? hE6
          by_cases c7:y2=wt
          ·have c7':(y2 != wt)=false:=by simp[c7]
           have Hv:=Lib.hid (show V3 g k i from fun ls2 l2 f1 f2=>by
            rw[Hlp.out]at f1;cases f1
            rw[Hl?.out]at f2;cases f2
            exact⟨ls',q,(y1,y2),by rw[Int.toNat_natCast];exact Hlp'.out,Hpt.out,Hq?.out,c7⟩)
           clear c7
           go_wp2_with fail
           refine(yxa _ g t ls' k _ (Hgr.out.below ((Below.refl _ _).alloc (Nat.le_refl _) _)) Hlp'.out).mono ?_;rintro e w3 ⟨rfl,hb3w⟩;rw[Hpt.out];have d0:=keepA hb3w _ _ q0;have d1:=keepA hb3w _ _ q1;have d2:=keepA hb3w _ _ hcl';obtain⟨d3,d4⟩:=ybyy hb3w;have Hb3:=Lib.hid (ybfk hb3w);have hz3:wr.heap.size<w3.heap.size:=by have:=hb3w.size;simp at this;omega
           clear hb3w
           have d5:=(Hb3.out.cell hb6).trans hx4
           go_wp2
           go_quiet (fail)
           go_wp2
           go_roundw
           case rel =>
            refine⟨i+1,by omega,by go_num,Lib.hid (below_drewN (hbel.out.trans (Hb3.out.mono (by have:=hbel.out.size;simp at this;omega))) _),Lib.hid (fun j hj=>?_)⟩
            by_cases hji:j<i
            ·exact hv3'.out j hji
            ·obtain rfl:j=i:=by omega
             exact Hv.out
           case measure=>simp[intOf];omega
          ·have c7':(y2 != wt)=true:=by simp[c7]
           have Hf:=Lib.hid (Hbb.out (fun h=>by
            obtain⟨ls2,q2,l2,f1,f2,f3,f4⟩:=h ls _ Hlp.out Hl?.out;rw[Int.toNat_natCast,Hlp'.out]at f1;cases f1
            rw[Hpt.out]at f2;obtain rfl:q=q2:=by omega
            rw[Hq?.out]at f3;cases f3
            exact c7 f4))
           clear c7
           go_wp2_with fail
           refine(yxa _ g t ls' k _ (Hgr.out.below ((Below.refl _ _).alloc (Nat.le_refl _) _)) Hlp'.out).mono ?_;rintro e w3 ⟨rfl,hb3w⟩;rw[Hpt.out];have d0:=keepA hb3w _ _ q0;have d1:=keepA hb3w _ _ q1;have d2:=keepA hb3w _ _ hcl';obtain⟨d3,d4⟩:=ybyy hb3w;have Hb3:=Lib.hid (ybfk hb3w);have hz3:wr.heap.size<w3.heap.size:=by have:=hb3w.size;simp at this;omega
           clear hb3w
           have d5:=(Hb3.out.cell hb6).trans hx4
           go_wp2
           go_quiet (fail)
           go_wp2
           go_ret
           exact⟨ybb Hf.out.symm,below_drewN (Hbw.out.trans (Hb3.out.mono Hbw.out.size)) _⟩
        ·obtain rfl:i=ls.length:=by omega
         have HE:=Lib.hid hls
         clear hls hbw
         go_wp2
         go_roundw
         case rel =>
          refine⟨k+1,by omega,by go_num,hbel,Lib.hid (fun v j hv=>?_)⟩
          by_cases hvk:v<k
          ·exact hv3.out v j hvk
          ·obtain rfl:v=k:=by omega
           by_cases hj:j<ls.length
           ·exact hv3'.out j hj
           ·intro ls2 l2 f1 f2;rw[Hlp.out]at f1;cases f1
            rw[List.getElem?_eq_none (by omega)]at f2
            cases f2
         case measure=>simp[intOf];omega
      ·obtain rfl:k=g.ports.length:=by omega
       have Ht:=Lib.hid (show yci g=true from decide_eq_true (GoodG.of n1a n1b Hn2.out hv2.out (fun v i hv=>hv3.out v i hv)))
       go_wp2
       go_ret
       exact⟨ybb Ht.out.symm,Hbw.out⟩
  ·have n2':((g.ids.length:Int) != (g.ports.length:Int))=true:=by simp;omega
   have Hf:=Lib.hid (ydg (g:=g) (fun h=>n2 h.2.2))
   clear n2
   go_enter Tryz.func85,Tryz.ntmps85
   go_wp2_with (first | (go_at_call 134;refine(In_t _ _ _ _ (by omega) (by omega)).mono ?_;rintro e w' ⟨rfl,rfl⟩))
   go_ret
   exact⟨ybb Hf.out.symm,(Below.refl _ _).alloc (Nat.le_refl _) _⟩
 ·have Hf:=Lib.hid (ydg (g:=g) (fun h=>n1 ⟨h.1,h.2.1⟩));have n1':g.ports.length<1\/24<g.ports.length:=by omega
  clear n1
  go_enter Tryz.func85,Tryz.ntmps85
  go_wp2_with (first | (go_at_call 134;refine(In_f _ _ _ _ (by omega)).mono ?_;rintro e w' ⟨rfl,rfl⟩))
  go_ret
  exact⟨ybb Hf.out.symm,(Below.refl _ _).alloc (Nat.le_refl _) _⟩
end Go.Proofs.YtiejahgklcjhkaaGreatDoor

namespace Go.Proofs.YtiejahgklcjhkaaGreatDoor
open Go.RowKit
set_option maxRecDepth 8000

end Go.Proofs.YtiejahgklcjhkaaGreatDoor

namespace Go.Proofs.YtiejahgklcjhkaaGreatDoor

end Go.Proofs.YtiejahgklcjhkaaGreatDoor

namespace Go.Proofs.YtiejahgklcjhkaaGreatDoor

def yyf(ids:List Int)(k:Nat):Int:=(ids.take k).tail.foldl max (ids.headD 0)
abbrev maxI(ids:List Int):Int:=yyf ids ids.length
theorem ybur{ids:List Int}{k:Nat}(h1:1<=k)(hk:k<ids.length):(ids.take (k+1)).tail=(ids.take k).tail ++ [ids[k]]:=by
 rw[List.take_succ_eq_append_getElem hk,List.tail_append_of_ne_nil];intro h;have:=congrArg List.length h;rw[List.length_take,List.length_nil]at this;omega
theorem ybom(ids:List Int):yyf ids 1=ids.headD 0:=by cases ids<;>simp[yyf]
theorem ybkl{ids:List Int}{k:Nat}(h1:1<=k)(hk:k<ids.length):yyf ids (k+1)=max (yyf ids k) ids[k]:=by
 unfold yyf;rw[ybur h1 hk,List.foldl_append];rfl
theorem ybgm{ids:List Int}(h0:0<ids.length)(h:∀ x ∈ ids,0<=x):maxI ids=ids.foldl max 0:=by
 cases ids with
 | nil=>simp at h0
 | cons x l =>
  have hx:max 0 x=x:=Int.max_eq_right (h x (by simp))
  simp[maxI,yyf,hx]

def idxP(ids:List Int)(x:Int):Int:=match ids.findIdx? (fun y=>x == y)with
 | some i=>i
 | none=>-1
theorem ybwz{ids:List Int}{x:Int}{k:Nat}(hk:k<ids.length)(h:x=ids[k])(hn:(ids.take k).findIdx? (fun y=>x == y)=none):idxP ids x=k:=by
 unfold idxP
 have:ids.findIdx? (fun y=>x == y)=some k:=by
  rw[List.findIdx?_eq_some_iff_getElem];refine⟨hk,by simp[h],fun j hj=>?_⟩
  rw[List.findIdx?_eq_none_iff]at hn;simp[hn ids[j] (List.mem_take_iff_getElem.2 ⟨j,by omega,rfl⟩)]
 rw[this]
theorem ybmk{ids:List Int}{x:Int}(hn:(ids.take ids.length).findIdx? (fun y=>x == y)=none):idxP ids x = -1:=by
 rw[List.take_length]at hn;unfold idxP;rw[hn]
theorem ybvu{ids:List Int}{x:Int}{k:Nat}(hk:k<ids.length)(h:x ≠ ids[k])(hn:(ids.take k).findIdx? (fun y=>x == y)=none):(ids.take (k+1)).findIdx? (fun y=>x == y)=none:=by
 rw[List.take_succ_eq_append_getElem hk,List.findIdx?_append,hn];simp[h]
end Go.Proofs.YtiejahgklcjhkaaGreatDoor

namespace Go.Proofs.YtiejahgklcjhkaaGreatDoor
namespace Sh
open Go Ev

def yg(l:List Int):SV:=.sl 1 l.length (fun k=>[.i .i64 (l.getD k 0)])
def yu(ls:List (Int × Int)):SV:=.sl 2 ls.length (fun j=>[.i .i64 (ls.getD j (0,0)).1,.i .i64 (ls.getD j (0,0)).2])
def yx(ps:List (List (Int × Int))):SV:=.sl 1 ps.length (fun v=>[yu (ps.getD v [])])
def yba(c:List (List Int)):SV:=.sl 1 c.length (fun v=>[yg (c.getD v [])])
def grV(g:Gr):SV:=.ag [yg g.ids,yx g.ports]
theorem ik{n:Int}(h1:-1000000000000<=n)(h2:n<=1000000000000):inK .i64 n:=by
 unfold inK;simp[IntKind.min,IntKind.max,IntKind.bits,IntKind.signed];omega
theorem ikw{n:Int}(h1:-4611686018427387904<=n)(h2:n<=4611686018427387904):inK .i64 n:=by
 unfold inK;simp[IntKind.min,IntKind.max,IntKind.bits,IntKind.signed];omega
theorem getD_at{α:Type}{l:List α}{k:Nat}{d:α}(h:k<l.length):l.getD k d=l[k]:=by simp[List.getD,h]
theorem ybyf{l:List Int}{i k:Nat}{x:Int}(h:i<l.length):(l.set i x).getD k 0=if k=i then x else l.getD k 0:=by
 simp only[List.getD,List.getElem?_set]
 by_cases q:i=k
 ·subst q;simp[h]
 ·rw[if_neg q,if_neg (Ne.symm q)]

set_option maxRecDepth 8000

theorem ybli(l:List Int)(x:Int)(hl:l.length<=100000):Returns Tryz.prog 165 [yg l,.i .i64 x] (.i .i64 (idxP l x)):=by
 refine Returns.of (ycwk _ _ ?_);simp only[c165,ycet,yckn,yg,go_sem,Nat.reduceAdd,↓reduceIte,reduceCtorEq];refine ybd (σ:=Nat) (fun k=>⟨[(8,.i .i64 k),(0,yg l),(1,.i .i64 x),(7,.i .i64 l.length)],[]⟩) (fun k=>k<=l.length/\(l.take k).findIdx? (fun y=>x == y)=none) (fun k=>l.length - k) 0 ⟨Nat.zero_le _,by simp⟩ ?_ ?_
 ·refine weak_all [] [] [] ?_;simp only[yg,allQ,live,sim_self,Int.natCast_zero,go_sem,Nat.reduceEqDiff,↓reduceIte,reduceCtorEq]
 ·intro k ⟨hk,hno⟩;simp only[ycoz,ycll,ycov,yciu,ycbj,ycbr,yg,yh,go_sem,Nat.reduceEqDiff,Nat.reduceAdd,↓reduceIte,reduceCtorEq];refine⟨fun h=>⟨by omega,fun he=>?_,fun he=>⟨ik (by omega) (by omega),?_⟩⟩,fun h=>?_⟩
  ·have hlt:k<l.length:=by omega
   rw[ybwz hlt (by rw[he,getD_at hlt]) hno]
  ·have hlt:k<l.length:=by omega
   refine yc (k+1) ⟨by omega,ybvu hlt (by rw[<- getD_at (d:=0) hlt];exact he) hno⟩ (by omega) ?_
   refine weak_all [] [] [] ?_;simp only[allQ,live,sim_self,yh,go_sem,Nat.reduceEqDiff,↓reduceIte,reduceCtorEq];simp
  ·obtain rfl:k=l.length:=by omega
   rw[ybmk hno]
theorem ycvg(l:List Int)(h0:0<l.length)(hl:l.length<=100000):Returns Tryz.prog 160 [yg l] (.i .i64 (maxI l)):=by
 refine Returns.of (ycsh _ _ ?_);simp only[c160,ycpq,ycer,ycfa,ycig,ycle,yg,go_sem,Int.reduceToNat,Nat.reduceEqDiff,Nat.reduceAdd,↓reduceIte,reduceCtorEq];refine⟨fun h=>by omega,fun _=>⟨by omega,?_⟩⟩
 refine ybd (σ:=Nat) (fun k=>⟨[(4,.i .i64 k),(3,.i .i64 (yyf l k)),(0,yg l)],[]⟩) (fun k=>1<=k/\k<=l.length) (fun k=>l.length - k) 1 ⟨by omega,by omega⟩ ?_ ?_
 ·refine weak_all [] [] [] ?_;simp only[yg,ybom,allQ,live,sim_self,yh,go_sem,Nat.reduceEqDiff,↓reduceIte,reduceCtorEq];cases l<;>simp at h0 ⊢
 ·intro k ⟨hk1,hk⟩;simp only[ycjq,ycnp,ycld,yceq,yg,yh,go_sem,Nat.reduceEqDiff,Nat.reduceAdd,↓reduceIte,reduceCtorEq];refine⟨fun h=>⟨by omega,ik (by omega) (by omega),?_⟩,fun h=>?_⟩
  ·refine yc (k+1) ⟨by omega,by omega⟩ (by omega) ?_
   refine weak_all [] [] [] ?_;have hlt:k<l.length:=by omega
   simp only[ybkl hk1 hlt,getD_at hlt,allQ,live,sim_self,yh,go_sem,Nat.reduceEqDiff,↓reduceIte,reduceCtorEq];simp
  ·obtain rfl:k=l.length:=by omega
   rfl
end Sh
end Go.Proofs.YtiejahgklcjhkaaGreatDoor

