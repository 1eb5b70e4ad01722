/- Lemmas, joined: ShS ScSt ScEv PlainC. -/
import Derived.Test.YtiejahgklcjhkaaGreatDoorPkF7
import Derived.Test.YtiejahgklcjhkaaGreatDoorPkF8
set_option linter.unusedSimpArgs false
set_option linter.unusedVariables false
namespace Go.Proofs.YtiejahgklcjhkaaGreatDoor
namespace Sh
open Go Ev
theorem yddc {g:FuncId} {fn:Func} {sc:SC} {rs:List SR} (hg:Tryz.prog.funcs[g]? = some fn) (hcmp:fn.body.bind (cmp Tryz.prog fn.ntmps)=some sc) (hrs:cmpR Tryz.prog fn.results.toList=some rs)
  {mu:List FuncId} {args:List SV} {Q:SV->Prop} (h:vc ⟨Ct Tryz.prog,Cm Tryz.prog,ItC Tryz.prog,[],mu⟩ sc (retK rs Q) ⟨slots args 0,[]⟩):Ct Tryz.prog g args Q:=by
 obtain⟨c,h1,h2⟩:=bind_some hcmp;exact ybyc mix ymd hg h1 h2 hrs h
theorem ydhp {g:FuncId} {fn:Func} {sc:SC} {rs:List SR} (hg:Tryz.prog.funcs[g]? = some fn) (hcmp:fn.body.bind (cmp Tryz.prog fn.ntmps)=some sc) (hrs:cmpR Tryz.prog fn.results.toList=some rs)
  {pr:List Nm} {mu:List FuncId} {o:Own} {args:List SV} {Q:SV->Own->Prop} (h:vc ⟨Ct Tryz.prog,Cm Tryz.prog,ItC Tryz.prog,pr,mu⟩ sc (retM rs pr Q) ⟨slots args 0,o⟩):Cm Tryz.prog g pr o args Q:=by
 obtain⟨c,h1,h2⟩:=bind_some hcmp;exact ybow mix ymd hg h1 h2 hrs h
def Fn(g:FuncId)(c:SC)(rs:List SR):Prop:=∀ (args:List SV) (Q:SV->Prop),vc ⟨Ct Tryz.prog,Cm Tryz.prog,ItC Tryz.prog,[],[]⟩ c (retK rs Q) ⟨slots args 0,[]⟩->Ct Tryz.prog g args Q
def FnU(g:FuncId)(c:SC)(rs:List SR):Prop:=∀ (mu:List FuncId) (args:List SV) (Q:SV->Prop),vc ⟨Ct Tryz.prog,Cm Tryz.prog,ItC Tryz.prog,[],mu⟩ c (retK rs Q) ⟨slots args 0,[]⟩->Ct Tryz.prog g args Q
def FnM(g:FuncId)(c:SC)(rs:List SR):Prop:=∀ (pr:List Nm) (mu:List FuncId) (o:Own) (args:List SV) (Q:SV->Own->Prop),vc ⟨Ct Tryz.prog,Cm Tryz.prog,ItC Tryz.prog,pr,mu⟩ c (retM rs pr Q) ⟨slots args 0,o⟩->Cm Tryz.prog g pr o args Q
section
variable {g:FuncId} {fn:Func} {sc:SC} {rs:List SR} (hg:Tryz.prog.funcs[g]? = some fn) (hcmp:fn.body.bind (cmp Tryz.prog fn.ntmps)=some sc) (hrs:cmpR Tryz.prog fn.results.toList=some rs)
include hg hcmp hrs
theorem fn_0:Fn g sc rs:=fun _ _ h=>yddc hg hcmp hrs h
theorem fn_u:FnU g sc rs:=fun _ _ _ h=>yddc hg hcmp hrs h
theorem fn_m:FnM g sc rs:=fun _ _ _ _ _ h=>ydhp hg hcmp hrs h
end
def o3(x:SOp)(d a:Nat):SOper:=⟨x,some d,none,a⟩
def o0(x:SOp)(a:Nat):SOper:=⟨x,none,none,a⟩
abbrev LO:=List SOper
def mv'(x d a:Nat):SOper:=⟨.mv (.tmp x),some d,none,a⟩
def bn'(op:BinOp)(x y d a:Nat):SOper:=⟨.bin op (.tmp x) (.tmp y),some d,none,a⟩
def ld'(ag:Bool)(n x d a:Nat):SOper:=⟨.load ag n (.tmp x),some d,none,a⟩
def fa'(o n x d a:Nat):SOper:=⟨.faddr o n (.tmp x),some d,none,a⟩
def ix'(z x k d a:Nat):SOper:=⟨.idx z (.tmp x) (.tmp k),some d,none,a⟩
def ln'(x d a:Nat):SOper:=⟨.len (.tmp x),some d,none,a⟩
def xt'(x k d a:Nat):SOper:=⟨.extract (.tmp x) k,some d,none,a⟩
def cl'(g:FuncId)(xs:List Nat)(d a:Nat):SOper:=⟨.call (.func g) (xs.map .tmp),some d,none,a⟩
def ci'(n:Int):Operand:=.const (.int .i64 n)
attribute [go_sem] o3 o0 mv' bn' ld' fa' ix' ln' xt' cl' ci'
attribute [go_sem] ydkh ycto ycbi ybof ydiw ycvk yday ycxn ybyl ycyi ybzc ywy ywd ybjm ybdv puts yczk
attribute [go_sem] ydbp ydju ydfw yzv ybkw ybqp yuq ybbh ybic ybik ybsm ybci ybzu ybde ycbt
attribute [go_sem] yoc Fam.at Prod.mk.injEq ycwx ycwi ycwo ycvi ycss yczo ybjx oldX oldV yhk yjw yblx ycvw gb_x ydid resX yfw slots ybxi
attribute [go_sem] ycab ybqv runO opO yblx xOp SS.get SS.pget SS.gets SS.lit look lookO SS.put SS.own ycxd ycxf yctc ybyw ycaf ybwy ycbs
attribute [go_sem] ybyj ybzt ycax ycan ybey simple yld ysd ybaq part idxX natX yoa ybiy xbin xun eqL splice fill OB.set ofV fits fitsM ybgi
attribute [go_sem] allP SRec.no SRec.pure clash nmem List.isEmpty_nil List.isEmpty_cons List.drop List.take List.all List.any List.map List.length List.head? List.append
attribute [go_sem] List.nil_append List.append_nil List.cons_append List.all_cons List.all_nil List.drop_succ_cons List.drop_zero List.take_succ_cons List.take_zero List.drop_nil
attribute [go_sem] List.take_nil List.length_cons List.length_nil List.map_cons List.map_nil List.getElem?_cons_zero List.getElem?_cons_succ List.elem Int.toNat_natCast Nat.zero_add
attribute [go_sem] Nat.add_zero if_true if_false ite_true ite_false Option.isNone Option.isNone_none Option.map_some Option.map_none Bool.not_true Bool.not_false Bool.true_or
attribute [go_sem] Bool.or_true Bool.false_or Bool.or_false Bool.and_true Bool.true_and Bool.and_false Bool.false_and Bool.and_self Bool.or_self true_and and_true and_self
attribute [go_sem] true_implies false_implies implies_true forall_const Nat.lt_add_one Nat.one_pos Nat.zero_lt_one Nat.lt_irrefl Nat.le_refl decide_true decide_false Bool.false_eq_true
attribute [go_sem] Bool.true_eq_false forall_eq BEq.rfl beq_self_eq_true decide_eq_true_eq decide_eq_false_iff_not beq_iff_eq beq_eq_false_iff_ne bne_iff_ne bne_eq_false_iff_eq
attribute [go_sem] Bool.not_eq_true Bool.not_eq_false Bool.not_eq_true' Bool.not_eq_false' ycuz ycvg ycuh ybxq ycbv ybuh ycbd ybxj ybxd
attribute [go_sem] ybzy ybqn yctq ydbq ycud ybwt ybzd ybxz ycbk ycas ybpn yboc ybkv ybvt ybrw ybmn ybrj
attribute [go_sem] ybva yddn ydib ydbe ycvn ycwd ybzp ycsx ycyy ycwq ycsq ycue ydjs ydjo ydik ydbw ydhy ycyo ydhn ydgk ydeo
attribute [go_sem] ydfg ydfo ydfj ydej ydea ycuu ycux ycaj ycsr ycsu ycuo ycvf ycxa
attribute [go_sem] yuz injOK idxF ydcg slotOk ownFits own1 ybgh Tel telL yxj yblu yczi ycxi yctx ybxp ycbc ybxa ycak ybzb ybwn
attribute [go_sem] ybyk ybzz ydin ydjm ydjb ydge ydek yddy ydck ydac ydhi ydcm ydfk lv nmem rid yew ydjq ycwh yxq ydcw ycwb ylb
attribute [go_sem] yrv ybfa ycfg ydbn ybhq ygd ydiq ydja ydke yddi ydfx yczd ydfb ydel ydgb ydbj yded List.any_cons List.any_nil Option.isSome
attribute [go_sem] ycuq or_false false_or or_true true_or false_and exists_const exists_false List.not_mem_nil and_false
attribute [go_sem ↓] gb_t gb_f ydkl ydjv
end Sh
end Go.Proofs.YtiejahgklcjhkaaGreatDoor

namespace Go.Proofs.YtiejahgklcjhkaaGreatDoor
namespace Sh
open Go Ev
def ytu:List Nat:=[0,1,1,2,1,2,2,3,1,2,2,3,2,3,3,4,1,2,2,3,2,3,3,4,2,3,3,4,3,4,4,5,1,2,2,3,2,3,3,4,2,3,3,4,3,4,4,5,2,3,3,4,3,4,4,5,3,4,4,5,4,5,5,6,1,2,2,3,2,3,3,4,2,3,3,4,3,4,4,5,2,3,3,4,3,4,4,5,3,4,4,5,4,5,5,6,2,3,3,4,3,4,4,5,3,4,4,5,4,5,5,6,3,4,4,5,4,5,5,6,4,5,5,6,5,6,6,7,1,2,2,3,2,3,3,4,2,3,3,4,3,4,4,5,2,3,3,4,3,4,4,5,3,4,4,5,4,5,5,6,2,3,3,4,3,4,4,5,3,4,4,5,4,5,5,6,3,4,4,5,4,5,5,6,4,5,5,6,5,6,6,7,2,3,3,4,3,4,4,5,3,4,4,5,4,5,5,6,3,4,4,5,4,5,5,6,4,5,5,6,5,6,6,7,3,4,4,5,4,5,5,6,4,5,5,6,5,6,6,7,4,5,5,6,5,6,6,7,5,6,6,7,6,7,7,8]
def ycci:LO:=[o3 (.box 87 (.tmp 0)) 3 0,o3 (.box 27 (.tmp 1)) 4 0,o3 (.mv (ci' 0)) 6 0,o3 (.mv (ci' 0)) 7 4]
def ycry:LO:=[o3 (.build [.i .i64 0,.a (.nilFunc)] [(0,1,(ci' 1)),(1,1,(.func 198))]) 11 0,o3 (.build [.i .i64 0,.a (.nilFunc)] [(0,1,(ci' 2)),(1,1,(.func 199))]) 12 0,o3 (.build [.i .i64 0,.a (.nilFunc)] [(0,1,(ci' 3)),(1,1,(.func 200))]) 13 0,o3 (.bslice 209 2 3 [.i .i64 0,.a (.nilFunc),.i .i64 0,.a (.nilFunc),.i .i64 0,.a (.nilFunc)] [(0,2,(.tmp 11)),(2,2,(.tmp 12)),(4,2,(.tmp 13))]) 14 7,mv' 14 8 15]
def ycmf:LO:=[mv' 8 15 0,ln' 15 16 1,o3 (.mv (ci' 0)) 17 0]
def ybgv:LO:=[bn' .lss 17 16 18 0]
def ybhh:LO:=[ix' 2 15 17 19 0,ld' true 2 19 20 1,o3 (.alloc 209 1 [.i .i64 0,.a (.nilFunc)]) 10 0,o0 (.store 2 (.tmp 10) (.tmp 20)) 7]
def ybhd:LO:=[fa' 0 1 10 21 0,ld' false 1 21 22 1,fa' 1 1 3 23 0,ld' false 1 23 24 4,bn' .eql 22 24 25 15]
def ybgw:LO:=[fa' 1 1 10 26 0,ld' false 1 26 27 1,ld' true 6 3 28 0,ld' true 2 4 29 0,mv' 2 30 0,o3 (.call (.tmp 27) [(.tmp 28),(.tmp 29),(.tmp 30)]) 31 31,xt' 31 0 32 63,xt' 31 1 33 63,mv' 32 6 255,mv' 33 7 511]
def ybgl:LO:=[o3 (.bin .add (.tmp 17) (ci' 1)) 34 0,mv' 34 17 1]
def ybgg:LO:=[o3 (.mv (ci' 0)) 6 0,o3 (.mv (.const (.int .i64 (-1)))) 7 1]
def c171:SC:=(.seq (.reg false ycci) (.seq (.reg false ycry) (.seq (.seq (.reg false ycmf) (.block 0 (.loop (.seq (.reg false ybgv) (.seq (.cond (.tmp 18) .skip (.exit 0)) (.seq (.block 1 (.seq (.reg false ybhh) (.seq (.reg false ybhd) (.cond (.tmp 25) (.seq (.reg false ybgw) .ret) .skip)))) (.reg false ybgl))))))) (.seq (.reg false ybgg) .ret))))
theorem ycuc:Fn 171 c171 [.t 6,.t 7]:=fn_0 Tryz.func171 (by kernel_rfl) (by kernel_rfl)
def yccv:LO:=[o3 (.box 87 (.tmp 0)) 3 0,o3 (.box 27 (.tmp 1)) 4 0,o3 (.mv (ci' 0)) 6 0,o3 (.mv (ci' 0)) 7 4]
def ycrm:LO:=[fa' 2 1 3 8 0,ld' false 1 8 9 1,fa' 3 1 3 10 0,ld' false 1 10 11 4,fa' 4 1 3 12 0,ld' false 1 12 13 16,fa' 0 1 4 14 0,ld' false 1 14 15 64,ln' 15 16 192,bn' .mul 13 16 17 496,bn' .add 11 17 18 1020,fa' 5 1 3 19 0,ld' false 1 19 20 2048,fa' 0 1 4 21 0,ld' false 1 21 22 8192,cl' 160 [22] 23 24576,bn' .mul 20 23 24 63488,bn' .add 18 24 25 131068,mv' 9 6 57347,mv' 25 7 524287]
def c198:SC:=(.seq (.reg false yccv) (.seq (.reg true ycrm) .ret))
theorem ycsw:Fn 198 c198 [.t 6,.t 7]:=fn_0 Tryz.func198 (by kernel_rfl) (by kernel_rfl)
def ycmx:LO:=[o3 (.box 87 (.tmp 0)) 3 0,o3 (.box 27 (.tmp 1)) 4 0,o3 (.mv (ci' 0)) 6 0,o3 (.mv (ci' 0)) 7 4]
def yceo:LO:=[o3 (.mv (ci' 0)) 6 0,o3 (.mv (ci' 1)) 7 1]
def c199:SC:=(.seq (.reg false ycmx) (.seq (.reg false yceo) .ret))
theorem ycxo:Fn 199 c199 [.t 6,.t 7]:=fn_0 Tryz.func199 (by kernel_rfl) (by kernel_rfl)
def ycqk:LO:=[o3 (.box 87 (.tmp 0)) 3 0,o3 (.box 27 (.tmp 1)) 4 0,o3 (.mv (ci' 0)) 6 0,o3 (.mv (ci' 0)) 7 4]
def ycgk:LO:=[fa' 1 1 4 8 0,ld' false 1 8 9 1,mv' 2 10 0,ix' 1 9 10 11 7,ld' false 1 11 12 15,ln' 12 13 31,o3 (.bin .sub (.tmp 13) (ci' 1)) 14 63,o3 (.mv (.const (.int .i64 (-1)))) 6 0,mv' 14 7 255]
def c200:SC:=(.seq (.reg false ycqk) (.seq (.reg true ycgk) .ret))
theorem ycxj:Fn 200 c200 [.t 6,.t 7]:=fn_0 Tryz.func200 (by kernel_rfl) (by kernel_rfl)
def yccf:LO:=[o3 (.box 58 (.tmp 0)) 2 0,o3 (.box 27 (.tmp 1)) 3 0,o3 (.mv (.const (.slice none 0 0))) 4 0]
def ycri:LO:=[fa' 0 1 3 9 0,ld' false 1 9 10 1,ln' 10 11 3,o3 (.mk 73 1 24 [.a (.slice none 0 0)] (.tmp 11) (.tmp 11)) 12 7,mv' 12 5 15]
def yckw:LO:=[mv' 5 13 0,ln' 13 14 1,o3 (.mv (ci' 0)) 15 0]
def ycrt:LO:=[bn' .lss 15 14 16 0]
def ycpa:LO:=[mv' 15 17 0,mv' 17 6 1]
def ycll:LO:=[mv' 5 18 0,mv' 6 19 0,fa' 1 1 2 20 0,ld' false 1 20 21 4,ln' 21 22 12,o3 (.mk 75 2 16 [.i .i64 0,.i .i64 0] (.tmp 22) (.tmp 22)) 23 28,ix' 1 18 19 24 63,o0 (.store 1 (.tmp 24) (.tmp 23)) 127]
def yckz:LO:=[fa' 1 1 2 25 0,ld' false 1 25 26 1,ln' 26 27 3,o3 (.mv (ci' 0)) 28 0]
def ycio:LO:=[bn' .lss 28 27 29 0]
def ycpm:LO:=[mv' 28 30 0,ix' 6 26 28 31 0,ld' true 6 31 32 2,o3 (.alloc 87 1 [.a (.string (ByteArray.mk #[])),.i .i64 0,.i .i64 0,.i .i64 0,.i .i64 0,.i .i64 0]) 8 0,mv' 30 7 15,o0 (.store 6 (.tmp 8) (.tmp 32)) 31]
def ycho:LO:=[mv' 5 34 0,mv' 6 35 0,ix' 1 34 35 36 3,ld' false 1 36 37 7,mv' 7 38 0,mv' 5 39 0,mv' 6 40 0,ix' 1 39 40 41 96,ld' false 1 41 42 224,mv' 7 43 0,ld' true 6 8 44 0,ld' true 2 3 45 0,mv' 6 46 0,cl' 171 [44,45,46] 47 7168,mv' 47 33 15360,xt' 33 0 48 31744,xt' 33 1 49 31744,ix' 2 37 38 50 31,o3 (.idxA 2 1 (.tmp 50) (ci' 0)) 51 196095,o0 (.store 1 (.tmp 51) (.tmp 48)) 458239,ix' 2 42 43 52 992,o3 (.idxA 2 1 (.tmp 52) (ci' 1)) 53 2097151,o0 (.store 1 (.tmp 53) (.tmp 49)) 4194303]
def ybtr:LO:=[o3 (.bin .add (.tmp 28) (ci' 1)) 54 0,mv' 54 28 1]
def ybny:LO:=[o3 (.bin .add (.tmp 15) (ci' 1)) 55 0,mv' 55 15 1]
def ybra:LO:=[mv' 5 56 0,mv' 56 4 1]
def c144:SC:=(.seq (.reg false yccf) (.seq (.reg false ycri) (.seq (.seq (.reg false yckw) (.block 0 (.loop (.seq (.reg false ycrt) (.seq (.cond (.tmp 16) .skip (.exit 0)) (.seq (.block 1 (.seq (.reg false ycpa) (.seq (.reg false ycll) (.seq (.reg false yckz) (.block 2 (.loop (.seq (.reg false ycio) (.seq (.cond (.tmp 29) .skip (.exit 2)) (.seq (.block 3 (.seq (.reg false ycpm) (.reg true ycho))) (.reg false ybtr)))))))))) (.reg false ybny))))))) (.seq (.reg false ybra) .ret))))
theorem ycsk:Fn 144 c144 [.t 4]:=fn_0 Tryz.func144 (by kernel_rfl) (by kernel_rfl)
def ycck:LO:=[o3 (.box 75 (.tmp 1)) 4 0,o3 (.mv (ci' 0)) 6 0]
def ycdw:LO:=[mv' 2 8 0,o3 (.idxA 2 1 (.tmp 4) (ci' 0)) 9 0,ld' false 1 9 10 2,bn' .geq 8 10 11 7,mv' 11 12 15,⟨.mv (.tmp 2),some 13,some (12,true),31⟩,⟨.idxA 2 1 (.tmp 4) (ci' 1),some 14,some (12,true),31⟩,⟨.load false 1 (.tmp 14),some 15,some (12,true),95⟩,⟨.bin .leq (.tmp 13) (.tmp 15),some 16,some (12,true),255⟩,o3 (.pick (.tmp 12) (.tmp 16) (.const (.bool false))) 17 511,mv' 17 7 1023]
def yckp:LO:=[mv' 2 18 0,mv' 18 6 1]
def yckx:LO:=[mv' 0 20 0,o3 (.bin .eql (.tmp 20) (ci' 3)) 21 1,mv' 21 19 3]
def ycls:LO:=[o3 (.mv (.const (.int .i64 (-1)))) 6 0]
def ycmw:LO:=[mv' 2 23 0,o3 (.idxA 2 1 (.tmp 4) (ci' 0)) 24 0,ld' false 1 24 25 2,bn' .lss 23 25 26 7,mv' 26 22 15]
def ycjo:LO:=[o3 (.idxA 2 1 (.tmp 4) (ci' 0)) 27 0,ld' false 1 27 28 1,mv' 28 6 3]
def ycpq:LO:=[o3 (.idxA 2 1 (.tmp 4) (ci' 1)) 29 0,ld' false 1 29 30 1,mv' 30 6 3]
def c194:SC:=(.seq (.reg false ycck) (.seq (.block 0 (.seq (.reg false ycdw) (.cond (.tmp 7) (.seq (.reg false yckp) .ret) (.seq (.reg false yckx) (.cond (.tmp 19) (.seq (.reg false ycls) .ret) (.seq (.reg false ycmw) (.cond (.tmp 22) (.seq (.reg false ycjo) .ret) .skip))))))) (.seq (.reg false ycpq) .ret)))
theorem yctk:Fn 194 c194 [.t 6]:=fn_0 Tryz.func194 (by kernel_rfl) (by kernel_rfl)
def yciy:LO:=[o3 (.box 58 (.tmp 0)) 2 0,o3 (.box 27 (.tmp 1)) 3 0,o3 (.mv (ci' 0)) 4 0]
def ycdi:LO:=[ld' true 3 2 9 0,cl' 191 [9] 10 1,o3 (.un .not (.tmp 10)) 11 3]
def ycfm:LO:=[o3 (.mv (ci' 8)) 4 0]
def ycpf:LO:=[ld' true 2 3 12 0,cl' 96 [12] 13 1,o3 (.un .not (.tmp 13)) 14 3]
def ycdj:LO:=[o3 (.mv (ci' 1)) 4 0]
def ycfd:LO:=[fa' 1 1 2 15 0,ld' false 1 15 16 1,ln' 16 17 3,o3 (.mv (ci' 0)) 18 0]
def ycjr:LO:=[bn' .lss 18 17 19 0]
def ycec:LO:=[ix' 6 16 18 20 0,ld' true 6 20 21 1,o3 (.alloc 87 1 [.a (.string (ByteArray.mk #[])),.i .i64 0,.i .i64 0,.i .i64 0,.i .i64 0,.i .i64 0]) 6 0,o0 (.store 6 (.tmp 6) (.tmp 21)) 7]
def ycnu:LO:=[fa' 1 1 6 22 0,ld' false 1 22 23 1,o3 (.bin .neq (.tmp 23) (ci' 1)) 24 3]
def ycct:LO:=[ld' true 6 6 26 0,ld' true 2 3 27 0,o3 (.call (.func 171) [(.tmp 26),(.tmp 27),(ci' 0)]) 28 3,mv' 28 25 7,xt' 25 0 29 15,xt' 25 1 30 15,mv' 29 7 31,mv' 30 8 127]
def ybpq:LO:=[mv' 8 31 0,mv' 7 32 0,bn' .lss 31 32 33 3,mv' 33 34 7,⟨.mv (.tmp 8),some 35,some (34,false),15⟩,⟨.mv (.tmp 7),some 36,some (34,false),15⟩,⟨.bin .sub (.tmp 35) (.tmp 36),some 37,some (34,false),63⟩,⟨.bin .add (.tmp 37) (ci' 1),some 38,some (34,false),127⟩,⟨.bin .gtr (.tmp 38) (ci' 4096),some 39,some (34,false),255⟩,o3 (.pick (.tmp 34) (.const (.bool true)) (.tmp 39)) 40 511]
def ybqq:LO:=[o3 (.mv (ci' 9)) 4 0]
def ybpb:LO:=[o3 (.bin .add (.tmp 18) (ci' 1)) 41 0,mv' 41 18 1]
def ybph:LO:=[o3 (.mv (ci' 0)) 4 0]
def c155:SC:=(.seq (.reg false yciy) (.seq (.seq (.reg false ycdi) (.cond (.tmp 11) (.seq (.reg false ycfm) .ret) .skip)) (.seq (.seq (.reg false ycpf) (.cond (.tmp 14) (.seq (.reg false ycdj) .ret) .skip)) (.seq (.seq (.reg false ycfd) (.block 0 (.loop (.seq (.reg false ycjr) (.seq (.cond (.tmp 19) .skip (.exit 0)) (.seq (.block 1 (.seq (.reg false ycec) (.seq (.seq (.reg false ycnu) (.cond (.tmp 24) (.exit 1) .skip)) (.seq (.reg false ycct) (.seq (.reg false ybpq) (.cond (.tmp 40) (.seq (.reg false ybqq) .ret) .skip)))))) (.reg false ybpb))))))) (.seq (.reg false ybph) .ret)))))
theorem ycyw:Fn 155 c155 [.t 4]:=fn_0 Tryz.func155 (by kernel_rfl) (by kernel_rfl)
def yddo:LO:=[o3 (.box 58 (.tmp 0)) 3 0,o3 (.box 27 (.tmp 1)) 4 0,o3 (.mv (.const (.bool false))) 6 0]
def yddr:LO:=[ld' true 3 3 7 0,ld' true 2 4 8 0,mv' 2 9 0,cl' 112 [7,8,9] 10 7,o3 (.bin .eql (.tmp 10) (ci' 0)) 11 15,mv' 11 6 31]
def c92:SC:=(.seq (.reg false yddo) (.seq (.reg false yddr) .ret))
theorem ydff:Fn 92 c92 [.t 6]:=fn_0 Tryz.func92 (by kernel_rfl) (by kernel_rfl)
def ycrn:LO:=[o3 (.box 58 (.tmp 0)) 3 0,o3 (.box 27 (.tmp 1)) 4 0,o3 (.mv (ci' 0)) 6 0]
def ycex:LO:=[ld' true 3 3 8 0,ld' true 2 4 9 0,cl' 155 [8,9] 10 3,mv' 10 7 7]
def ycmv:LO:=[mv' 7 11 0,o3 (.bin .neq (.tmp 11) (ci' 0)) 12 1]
def ycmp:LO:=[mv' 7 13 0,mv' 13 6 1]
def ycou:LO:=[ld' true 3 3 14 0,ld' true 2 4 15 0,cl' 144 [14,15] 16 3,mv' 2 17 0,cl' 156 [16,17] 18 15,o3 (.un .not (.tmp 18)) 19 31]
def ycnh:LO:=[o3 (.mv (ci' 10)) 6 0]
def ycfr:LO:=[o3 (.mv (ci' 0)) 6 0]
def c112:SC:=(.seq (.reg false ycrn) (.seq (.seq (.reg false ycex) (.seq (.reg false ycmv) (.cond (.tmp 12) (.seq (.reg false ycmp) .ret) .skip))) (.seq (.seq (.reg false ycou) (.cond (.tmp 19) (.seq (.reg false ycnh) .ret) .skip)) (.seq (.reg false ycfr) .ret))))
theorem yczt:Fn 112 c112 [.t 6]:=fn_0 Tryz.func112 (by kernel_rfl) (by kernel_rfl)
def ycdz:LO:=[o3 (.mv (.const (.bool false))) 4 0]
def ycgf:LO:=[mv' 1 7 0,ln' 7 8 1,mv' 0 9 0,ln' 9 10 4,bn' .neq 8 10 11 15]
def yclr:LO:=[o3 (.mv (.const (.bool false))) 4 0]
def ycjg:LO:=[mv' 0 12 0,ln' 12 13 1,o3 (.mv (ci' 0)) 14 0]
def ycef:LO:=[bn' .lss 14 13 15 0]
def yclu:LO:=[mv' 14 16 0,ix' 1 12 14 17 0,ld' false 1 17 18 2,mv' 16 5 7,mv' 18 6 15]
def ycgy:LO:=[mv' 6 19 0,mv' 1 20 0,mv' 5 21 0,ix' 1 20 21 22 6,ld' false 1 22 23 14,cl' 192 [19,23] 24 31,o3 (.un .not (.tmp 24)) 25 63]
def ycpu:LO:=[o3 (.mv (.const (.bool false))) 4 0]
def ycot:LO:=[o3 (.bin .add (.tmp 14) (ci' 1)) 26 0,mv' 26 14 1]
def ycjz:LO:=[o3 (.mv (.const (.bool true))) 4 0]
def c156:SC:=(.seq (.reg false ycdz) (.seq (.seq (.reg false ycgf) (.cond (.tmp 11) (.seq (.reg false yclr) .ret) .skip)) (.seq (.seq (.reg false ycjg) (.block 0 (.loop (.seq (.reg false ycef) (.seq (.cond (.tmp 15) .skip (.exit 0)) (.seq (.block 1 (.seq (.reg false yclu) (.seq (.reg false ycgy) (.cond (.tmp 25) (.seq (.reg false ycpu) .ret) .skip)))) (.reg false ycot))))))) (.seq (.reg false ycjz) .ret))))
theorem ycut:Fn 156 c156 [.t 4]:=fn_0 Tryz.func156 (by kernel_rfl) (by kernel_rfl)
def ycev:LO:=[o3 (.mv (.const (.bool false))) 4 0]
def ycpo:LO:=[mv' 1 7 0,ln' 7 8 1,mv' 0 9 0,ln' 9 10 4,bn' .neq 8 10 11 15]
def ycrj:LO:=[o3 (.mv (.const (.bool false))) 4 0]
def ycow:LO:=[mv' 1 12 0,ln' 12 13 1,o3 (.mv (ci' 0)) 14 0]
def ycfo:LO:=[bn' .lss 14 13 15 0]
def ycgc:LO:=[mv' 14 16 0,ix' 1 12 14 17 0,ld' false 1 17 18 2,mv' 16 5 7,mv' 18 6 15]
def ycmk:LO:=[mv' 6 19 0,mv' 0 20 0,mv' 5 21 0,ix' 2 20 21 22 6,o3 (.idxA 2 1 (.tmp 22) (ci' 0)) 23 14,ld' false 1 23 24 30,bn' .lss 19 24 25 63,mv' 25 26 127,⟨.mv (.tmp 6),some 27,some (26,false),255⟩,⟨.mv (.tmp 0),some 28,some (26,false),255⟩,⟨.mv (.tmp 5),some 29,some (26,false),255⟩,⟨.idx 2 (.tmp 28) (.tmp 29),some 30,some (26,false),1791⟩,⟨.idxA 2 1 (.tmp 30) (ci' 1),some 31,some (26,false),3839⟩,⟨.load false 1 (.tmp 31),some 32,some (26,false),7935⟩,⟨.bin .gtr (.tmp 27) (.tmp 32),some 33,some (26,false),16383⟩,o3 (.pick (.tmp 26) (.const (.bool true)) (.tmp 33)) 34 32767]
def ycch:LO:=[o3 (.mv (.const (.bool false))) 4 0]
def ycnw:LO:=[o3 (.bin .add (.tmp 14) (ci' 1)) 35 0,mv' 35 14 1]
def ycfy:LO:=[o3 (.mv (.const (.bool true))) 4 0]
def c192:SC:=(.seq (.reg false ycev) (.seq (.seq (.reg false ycpo) (.cond (.tmp 11) (.seq (.reg false ycrj) .ret) .skip)) (.seq (.seq (.reg false ycow) (.block 0 (.loop (.seq (.reg false ycfo) (.seq (.cond (.tmp 15) .skip (.exit 0)) (.seq (.block 1 (.seq (.reg false ycgc) (.seq (.reg false ycmk) (.cond (.tmp 34) (.seq (.reg false ycch) .ret) .skip)))) (.reg false ycnw))))))) (.seq (.reg false ycfy) .ret))))
theorem ycwy:Fn 192 c192 [.t 4]:=fn_0 Tryz.func192 (by kernel_rfl) (by kernel_rfl)
def yboy:LO:=[o3 (.mv (.const (.slice none 0 0))) 2 0]
def ybst:LO:=[mv' 0 6 0,ln' 6 7 1,o3 (.mk 22 1 24 [.a (.slice none 0 0)] (.tmp 7) (.tmp 7)) 8 3,mv' 8 3 7]
def ybrk:LO:=[mv' 0 9 0,ln' 9 10 1,o3 (.mv (ci' 0)) 11 0]
def yban:LO:=[bn' .lss 11 10 12 0]
def ybah:LO:=[mv' 11 13 0,ix' 1 9 11 14 0,ld' false 1 14 15 2,mv' 13 4 7,mv' 15 5 15]
def yxu:LO:=[mv' 3 16 0,mv' 4 17 0,mv' 5 18 0,o3 (.app 3 1 8 (.const (.slice none 0 0)) (.tmp 18)) 19 4,ix' 1 16 17 20 15,o0 (.store 1 (.tmp 20) (.tmp 19)) 31]
def yys:LO:=[o3 (.bin .add (.tmp 11) (ci' 1)) 21 0,mv' 21 11 1]
def yyi:LO:=[mv' 3 22 0,mv' 22 2 1]
def c132:SC:=(.seq (.reg false yboy) (.seq (.reg false ybst) (.seq (.seq (.reg false ybrk) (.block 0 (.loop (.seq (.reg false yban) (.seq (.cond (.tmp 12) .skip (.exit 0)) (.seq (.block 1 (.seq (.reg false ybah) (.reg false yxu))) (.reg false yys))))))) (.seq (.reg false yyi) .ret))))
theorem ycwr:Fn 132 c132 [.t 2]:=fn_0 Tryz.func132 (by kernel_rfl) (by kernel_rfl)
theorem ycbx:FnM 132 c132 [.t 2]:=fn_m Tryz.func132 (by kernel_rfl) (by kernel_rfl)
def ydbh:LO:=[o3 (.box 58 (.tmp 0)) 2 0,o3 (.box 27 (.tmp 1)) 3 0,o3 (.mv (.const (.pointer none))) 4 0]
def ydem:LO:=[ld' true 3 2 5 0,ld' true 3 2 6 0,ld' true 2 3 7 0,cl' 143 [6,7] 8 6,ld' true 3 2 9 0,ld' true 2 3 10 0,cl' 144 [9,10] 11 62,o3 (.build [.a (.string (ByteArray.mk #[])),.a (.slice none 0 0),.a (.slice none 0 0),.a (.pointer none),.a (.slice none 0 0)] [(0,3,(.tmp 5)),(3,1,(.tmp 8)),(4,1,(.tmp 11))]) 12 127,o3 (.box 140 (.tmp 12)) 13 255,mv' 13 4 511]
def c93:SC:=(.seq (.reg false ydbh) (.seq (.reg true ydem) .ret))
theorem yddp:Fn 93 c93 [.t 4]:=fn_0 Tryz.func93 (by kernel_rfl) (by kernel_rfl)
def ycok:LO:=[o3 (.mv (ci' 0)) 6 0]
def ycoj:LO:=[mv' 0 8 0,o3 (.nilck (.tmp 8)) 9 1,fa' 0 3 9 10 3,fa' 2 1 10 11 7,ld' false 1 11 12 15,ln' 12 13 31,o3 (.mv (ci' 0)) 14 0]
def ycgp:LO:=[bn' .lss 14 13 15 0]
def ychp:LO:=[mv' 14 16 0,mv' 16 7 1]
def ychh:LO:=[mv' 0 17 0,o3 (.nilck (.tmp 17)) 18 1,fa' 3 1 18 19 3,ld' false 1 19 20 7,mv' 1 21 0,mv' 2 22 0,mv' 7 23 0,cl' 172 [20,21,22,23] 24 127]
def ycmu:LO:=[mv' 7 25 0,mv' 25 6 1]
def ycom:LO:=[o3 (.bin .add (.tmp 14) (ci' 1)) 26 0,mv' 26 14 1]
def yciq:LO:=[o3 (.mv (.const (.int .i64 (-1)))) 6 0]
def c147:SC:=(.seq (.reg false ycok) (.seq (.seq (.reg false ycoj) (.block 0 (.loop (.seq (.reg false ycgp) (.seq (.cond (.tmp 15) .skip (.exit 0)) (.seq (.block 1 (.seq (.reg false ychp) (.seq (.reg false ychh) (.cond (.tmp 24) (.seq (.reg false ycmu) .ret) .skip)))) (.reg false ycom))))))) (.seq (.reg false yciq) .ret)))
theorem ycwl:Fn 147 c147 [.t 6]:=fn_0 Tryz.func147 (by kernel_rfl) (by kernel_rfl)
def ydee:LO:=[o3 (.box 99 (.tmp 0)) 2 0,o3 (.box 34 (.tmp 1)) 3 0,o3 (.mv (.const (.int .u32 0))) 4 0]
def yczx:LO:=[ld' false 1 2 5 0,o3 (.nilck (.tmp 5)) 6 1,fa' 4 1 6 7 3,ld' false 1 7 8 7,ln' 8 9 15,o3 (.mkfn 146 [] [(.tmp 2),(.tmp 3)]) 10 0,cl' 145 [9,10] 11 63,mv' 11 4 127]
def c94:SC:=(.seq (.reg false ydee) (.seq (.reg false yczx) .ret))
theorem ydhu:Fn 94 c94 [.t 4]:=fn_0 Tryz.func94 (by kernel_rfl) (by kernel_rfl)
def ycmb:LO:=[o3 (.mv (.const (.bool false))) 4 0]
def ycrf:LO:=[ld' false 1 1 5 0,ld' false 1 2 6 0,mv' 0 7 0,cl' 147 [5,6,7] 8 7,o3 (.bin .geq (.tmp 8) (ci' 0)) 9 15,mv' 9 4 31]
def c146:SC:=(.seq (.reg false ycmb) (.seq (.reg false ycrf) .ret))
theorem ycve:Fn 146 c146 [.t 4]:=fn_0 Tryz.func146 (by kernel_rfl) (by kernel_rfl)
def ycjl:LO:=[o3 (.mv (.const (.slice none 0 0))) 8 0]
def ycgh:LO:=[mv' 1 13 0,mv' 2 14 0,ix' 1 13 14 15 3,ld' false 1 15 16 7,o3 (.app 3 1 8 (.const (.slice none 0 0)) (.tmp 16)) 17 15,mv' 17 9 31]
def ycfw:LO:=[mv' 0 18 0,o3 (.nilck (.tmp 18)) 19 1,fa' 0 3 19 20 3,fa' 2 1 20 21 7,ld' false 1 21 22 15,mv' 3 23 0,ix' 3 22 23 24 63,fa' 2 1 24 25 127,ld' false 1 25 26 255,ln' 26 27 511,o3 (.mv (ci' 0)) 28 0]
def ycon:LO:=[bn' .lss 28 27 29 0]
def ycrp:LO:=[ix' 2 26 28 30 0,ld' true 2 30 31 1,o3 (.alloc 200 1 [.i .i64 0,.a (.slice none 0 0)]) 11 0,o0 (.store 2 (.tmp 11) (.tmp 31)) 7]
def ycrz:LO:=[mv' 0 32 0,o3 (.nilck (.tmp 32)) 33 1,fa' 3 1 33 34 3,ld' false 1 34 35 7,mv' 1 36 0,mv' 2 37 0,fa' 1 1 11 38 0,ld' false 1 38 39 64,cl' 193 [35,36,37,39] 40 255,mv' 40 12 511]
def ycnr:LO:=[mv' 9 41 0,fa' 0 1 11 42 0,ld' false 1 42 43 2,mv' 0 44 0,o3 (.nilck (.tmp 44)) 45 8,fa' 0 3 45 46 24,fa' 1 1 46 47 56,ld' false 1 47 48 120,fa' 0 1 11 49 0,ld' false 1 49 50 256,ix' 6 48 50 51 1016,fa' 1 1 51 52 2040,ld' false 1 52 53 4088,mv' 0 54 0,o3 (.nilck (.tmp 54)) 55 8192,fa' 4 1 55 56 24576,ld' false 1 56 57 57344,mv' 2 58 0,ix' 1 57 58 59 253952,ld' false 1 59 60 516096,fa' 0 1 11 61 0,ld' false 1 61 62 1048576,ix' 2 60 62 63 4186112,ld' true 2 63 64 8380416,mv' 12 65 0,cl' 194 [53,64,65] 66 33554424,ix' 1 41 43 67 67108863,o0 (.store 1 (.tmp 67) (.tmp 66)) 134217727]
def yckv:LO:=[o3 (.bin .add (.tmp 28) (ci' 1)) 68 0,mv' 68 28 1]
def ycpj:LO:=[mv' 9 69 0,mv' 69 8 1]
def c157:SC:=(.seq (.reg false ycjl) (.seq (.reg false ycgh) (.seq (.seq (.reg false ycfw) (.block 0 (.loop (.seq (.reg false ycon) (.seq (.cond (.tmp 29) .skip (.exit 0)) (.seq (.block 1 (.seq (.reg false ycrp) (.seq (.reg true ycrz) (.reg true ycnr)))) (.reg false yckv))))))) (.seq (.reg false ycpj) .ret))))
theorem ycta:Fn 157 c157 [.t 8]:=fn_0 Tryz.func157 (by kernel_rfl) (by kernel_rfl)
def ycma:LO:=[o3 (.mv (.const (.slice none 0 0))) 6 0]
def ycmq:LO:=[mv' 1 9 0,cl' 132 [9] 10 1,mv' 10 7 3]
def ycdr:LO:=[mv' 1 11 0,ln' 11 12 1,o3 (.mv (ci' 0)) 13 0]
def ycgs:LO:=[bn' .lss 13 12 14 0]
def ycfz:LO:=[mv' 13 15 0,mv' 15 8 1]
def yckh:LO:=[mv' 2 16 0,mv' 8 17 0,bn' .shr 16 17 18 3,o3 (.bin .and (.tmp 18) (.const (.int .u32 1))) 19 7,o3 (.bin .eql (.tmp 19) (.const (.int .u32 1))) 20 15]
def ycnm:LO:=[mv' 7 21 0,mv' 8 22 0,mv' 0 23 0,mv' 1 24 0,mv' 8 25 0,mv' 0 26 0,mv' 1 27 0,mv' 8 28 0,cl' 147 [26,27,28] 29 224,cl' 157 [23,24,25,29] 30 508,ix' 1 21 22 31 1023,o0 (.store 1 (.tmp 31) (.tmp 30)) 2047]
def ycrq:LO:=[o3 (.bin .add (.tmp 13) (ci' 1)) 32 0,mv' 32 13 1]
def ycna:LO:=[mv' 7 33 0,mv' 33 6 1]
def c113:SC:=(.seq (.reg false ycma) (.seq (.reg false ycmq) (.seq (.seq (.reg false ycdr) (.block 0 (.loop (.seq (.reg false ycgs) (.seq (.cond (.tmp 14) .skip (.exit 0)) (.seq (.block 1 (.seq (.reg false ycfz) (.seq (.reg false yckh) (.cond (.tmp 20) (.reg false ycnm) .skip)))) (.reg false ycrq))))))) (.seq (.reg false ycna) .ret))))
theorem ybyo:FnU 113 c113 [.t 6]:=fn_u Tryz.func113 (by kernel_rfl) (by kernel_rfl)
def ycdv:LO:=[o3 (.mv (.const (.int .u32 0))) 4 0]
def ycep:LO:=[o3 (.mv (.const (.int .u32 0))) 5 0]
def yckd:LO:=[mv' 0 7 0,o3 (.mv (ci' 0)) 8 0]
def ycqw:LO:=[bn' .lss 8 7 9 0]
def ychf:LO:=[mv' 8 10 0,mv' 10 6 1]
def ycgm:LO:=[mv' 1 11 0,mv' 6 12 0,o3 (.call (.tmp 11) [(.tmp 12)]) 13 3]
def ycko:LO:=[mv' 5 14 0,mv' 6 15 0,o3 (.bin .shl (.const (.int .u32 1)) (.tmp 15)) 16 2,bn' .or 14 16 17 7,mv' 17 5 15]
def ycms:LO:=[o3 (.bin .add (.tmp 8) (ci' 1)) 18 0,mv' 18 8 1]
def ycrx:LO:=[mv' 5 19 0,mv' 19 4 1]
def c145:SC:=(.seq (.reg false ycdv) (.seq (.reg false ycep) (.seq (.seq (.reg false yckd) (.block 0 (.loop (.seq (.reg false ycqw) (.seq (.cond (.tmp 9) .skip (.exit 0)) (.seq (.block 1 (.seq (.reg false ychf) (.seq (.reg false ycgm) (.cond (.tmp 13) (.reg false ycko) .skip)))) (.reg false ycms))))))) (.seq (.reg false ycrx) .ret))))
theorem ycxh:Fn 145 c145 [.t 4]:=fn_0 Tryz.func145 (by kernel_rfl) (by kernel_rfl)
def ydfa:LO:=[o3 (.box 58 (.tmp 0)) 3 0,o3 (.box 27 (.tmp 1)) 4 0,o3 (.mv (.const (.int .u32 0))) 6 0]
def ydbr:LO:=[ld' true 3 3 7 0,ld' true 2 4 8 0,mv' 2 9 0,cl' 92 [7,8,9] 10 7,o3 (.un .not (.tmp 10)) 11 15]
def ydhf:LO:=[o3 (.mv (.const (.int .u32 0))) 6 0]
def ydfl:LO:=[ld' true 3 3 12 0,ld' true 2 4 13 0,cl' 93 [12,13] 14 3,mv' 2 15 0,cl' 94 [14,15] 16 15,mv' 16 6 31]
def c36:SC:=(.seq (.reg false ydfa) (.seq (.seq (.reg false ydbr) (.cond (.tmp 11) (.seq (.reg false ydhf) .ret) .skip)) (.seq (.reg false ydfl) .ret)))
theorem ydhj:Fn 36 c36 [.t 6]:=fn_0 Tryz.func36 (by kernel_rfl) (by kernel_rfl)
def ycgn:LO:=[o3 (.mv (.const (.bool false))) 2 0]
def ycgl:LO:=[mv' 0 5 0,ln' 5 6 1,o3 (.mv (ci' 0)) 7 0]
def ycez:LO:=[bn' .lss 7 6 8 0]
def ycge:LO:=[ix' 1 5 7 9 0,ld' false 1 9 10 1,mv' 10 4 3]
def ycey:LO:=[mv' 4 11 0,o3 (.bin .andNot (.tmp 11) (.const (.int .u32 16777215))) 12 1,o3 (.bin .neq (.tmp 12) (.const (.int .u32 0))) 13 3]
def ycoz:LO:=[o3 (.mv (.const (.bool false))) 2 0]
def yccq:LO:=[o3 (.bin .add (.tmp 7) (ci' 1)) 14 0,mv' 14 7 1]
def ycne:LO:=[o3 (.mv (.const (.bool true))) 2 0]
def c223:SC:=(.seq (.reg false ycgn) (.seq (.seq (.reg false ycgl) (.block 0 (.loop (.seq (.reg false ycez) (.seq (.cond (.tmp 8) .skip (.exit 0)) (.seq (.block 1 (.seq (.reg false ycge) (.seq (.reg false ycey) (.cond (.tmp 13) (.seq (.reg false ycoz) .ret) .skip)))) (.reg false yccq))))))) (.seq (.reg false ycne) .ret)))
theorem ycxq:Fn 223 c223 [.t 2]:=fn_0 Tryz.func223 (by kernel_rfl) (by kernel_rfl)
def c222_0:LO:=[o3 (.box 48 (.tmp 0)) 1 0,o3 (.mv (.const (.bool false))) 2 0]
def c222_1:LO:=[fa' 0 1 1 3 0,ld' false 1 3 4 1,o3 (.bin .lss (.tmp 4) (ci' 0)) 5 3,mv' 5 6 7,⟨.faddr 0 1 (.tmp 1),some 7,some (6,false),15⟩,⟨.load false 1 (.tmp 7),some 8,some (6,false),31⟩,⟨.bin .gtr (.tmp 8) (ci' 4096),some 9,some (6,false),63⟩,o3 (.pick (.tmp 6) (.const (.bool true)) (.tmp 9)) 10 127,mv' 10 11 255,⟨.faddr 2 1 (.tmp 1),some 12,some (11,false),511⟩,⟨.load false 1 (.tmp 12),some 13,some (11,false),1023⟩,⟨.bin .lss (.tmp 13) (ci' 0),some 14,some (11,false),2047⟩,o3 (.pick (.tmp 11) (.const (.bool true)) (.tmp 14)) 15 4095,mv' 15 16 8191,⟨.faddr 2 1 (.tmp 1),some 17,some (16,false),16383⟩,⟨.load false 1 (.tmp 17),some 18,some (16,false),32767⟩,⟨.faddr 3 1 (.tmp 1),some 19,some (16,false),16383⟩,⟨.load false 1 (.tmp 19),some 20,some (16,false),81919⟩,⟨.bin .gtr (.tmp 18) (.tmp 20),some 21,some (16,false),262143⟩,o3 (.pick (.tmp 16) (.const (.bool true)) (.tmp 21)) 22 524287,mv' 22 23 1048575,⟨.faddr 3 1 (.tmp 1),some 24,some (23,false),2097151⟩,⟨.load false 1 (.tmp 24),some 25,some (23,false),4194303⟩,⟨.faddr 0 1 (.tmp 1),some 26,some (23,false),2097151⟩,⟨.load false 1 (.tmp 26),some 27,some (23,false),10485759⟩,⟨.bin .gtr (.tmp 25) (.tmp 27),some 28,some (23,false),33554431⟩,o3 (.pick (.tmp 23) (.const (.bool true)) (.tmp 28)) 29 67108863]
def ydgf:LO:=[o3 (.mv (.const (.bool false))) 2 0]
def c222_3:LO:=[fa' 3 1 1 30 0,ld' false 1 30 31 1,fa' 2 1 1 32 0,ld' false 1 32 33 4,o3 (.bin .add (.tmp 33) (ci' 1)) 34 12,bn' .gtr 31 34 35 31]
def ydau:LO:=[o3 (.mv (.const (.bool false))) 2 0]
def c222_5:LO:=[fa' 0 1 1 36 0,ld' false 1 36 37 1,fa' 1 1 1 38 0,ld' false 1 38 39 4,bn' .leq 37 39 40 15,mv' 40 41 31,⟨.faddr 1 1 (.tmp 1),some 42,some (41,true),63⟩,⟨.load false 1 (.tmp 42),some 43,some (41,true),127⟩,⟨.faddr 0 1 (.tmp 1),some 44,some (41,true),63⟩,⟨.load false 1 (.tmp 44),some 45,some (41,true),319⟩,⟨.bin .mul (ci' 24) (.tmp 45),some 46,some (41,true),831⟩,⟨.bin .leq (.tmp 43) (.tmp 46),some 47,some (41,true),2047⟩,o3 (.pick (.tmp 41) (.tmp 47) (.const (.bool false))) 48 4095,mv' 48 49 8191,⟨.faddr 4 1 (.tmp 1),some 50,some (49,true),16383⟩,⟨.load false 1 (.tmp 50),some 51,some (49,true),32767⟩,⟨.bslice 40 1 1 [.i .u32 0] [(0,1,(.tmp 51))],some 52,some (49,true),65535⟩,⟨.call (.func 223) [(.tmp 52)],some 53,some (49,true),131071⟩,o3 (.pick (.tmp 49) (.tmp 53) (.const (.bool false))) 54 262143,mv' 54 2 524287]
def c222:SC:=(.seq (.reg false c222_0) (.seq (.seq (.reg false c222_1) (.cond (.tmp 29) (.seq (.reg false ydgf) .ret) .skip)) (.seq (.seq (.reg false c222_3) (.cond (.tmp 35) (.seq (.reg false ydau) .ret) .skip)) (.seq (.reg false c222_5) .ret))))
theorem c222_ok:Fn 222 c222 [.t 2]:=fn_0 Tryz.func222 (by kernel_rfl) (by kernel_rfl)
def yccy:LO:=[o3 (.alloc 48 1 [.i .i64 0,.i .i64 0,.i .i64 0,.i .i64 0,.i .u32 0]) 2 0]
def ycrh:LO:=[mv' 0 3 0,o3 (.bin .and (.tmp 3) (.const (.int .u32 16777215))) 4 1,o3 (.build [.i .i64 0,.i .i64 0,.i .i64 0,.i .i64 0,.i .u32 0] [(4,1,(.tmp 4))]) 5 3,o0 (.store 5 (.tmp 2) (.tmp 5)) 7]
def c195:SC:=(.seq (.reg false yccy) (.seq (.reg false ycrh) .ret))
theorem ycvc:Fn 195 c195 [.c 2 true 5]:=fn_0 Tryz.func195 (by kernel_rfl) (by kernel_rfl)
def ycov:LO:=[o3 (.box 48 (.tmp 0)) 3 0,o3 (.alloc 48 1 [.i .i64 0,.i .i64 0,.i .i64 0,.i .i64 0,.i .u32 0]) 6 0,o3 (.mv (ci' 0)) 7 0]
def ycen:LO:=[ld' true 5 3 8 0,cl' 222 [8] 9 1,o3 (.un .not (.tmp 9)) 10 3]
def ydcs:LO:=[o3 (.build [.i .i64 0,.i .i64 0,.i .i64 0,.i .i64 0,.i .u32 0] []) 11 0,o0 (.store 5 (.tmp 6) (.tmp 11)) 1,o3 (.mv (ci' 7)) 7 3]
def ycgq:LO:=[mv' 1 12 0,o3 (.bin .eql (.tmp 12) (.const (.int .u32 0))) 13 1,mv' 13 14 3,⟨.mv (.tmp 1),some 15,some (14,false),7⟩,⟨.mv (.tmp 2),some 16,some (14,false),7⟩,⟨.bslice 40 1 2 [.i .u32 0,.i .u32 0] [(0,1,(.tmp 15)),(1,1,(.tmp 16))],some 17,some (14,false),31⟩,⟨.call (.func 223) [(.tmp 17)],some 18,some (14,false),63⟩,⟨.un .not (.tmp 18),some 19,some (14,false),127⟩,o3 (.pick (.tmp 14) (.const (.bool true)) (.tmp 19)) 20 255]
def ydcc:LO:=[o3 (.build [.i .i64 0,.i .i64 0,.i .i64 0,.i .i64 0,.i .u32 0] []) 21 0,o0 (.store 5 (.tmp 6) (.tmp 21)) 1,o3 (.mv (ci' 11)) 7 3]
def ycdy:LO:=[fa' 0 1 3 22 0,ld' false 1 22 23 1,o3 (.bin .eql (.tmp 23) (ci' 4096)) 24 3]
def ydcv:LO:=[o3 (.build [.i .i64 0,.i .i64 0,.i .i64 0,.i .i64 0,.i .u32 0] []) 25 0,o0 (.store 5 (.tmp 6) (.tmp 25)) 1,o3 (.mv (ci' 3)) 7 3]
def ycft:LO:=[fa' 0 1 3 26 0,ld' false 1 26 27 1,o3 (.bin .add (.tmp 27) (ci' 1)) 28 3,fa' 0 1 3 29 7,o0 (.store 1 (.tmp 29) (.tmp 28)) 15]
def ycfi:LO:=[fa' 1 1 3 30 0,ld' false 1 30 31 1,mv' 1 32 0,cl' 104 [32] 33 4,bn' .add 31 33 34 15,fa' 1 1 3 35 31,o0 (.store 1 (.tmp 35) (.tmp 34)) 63]
def ycmo:LO:=[fa' 2 1 3 36 0,ld' false 1 36 37 1,o3 (.bin .add (.tmp 37) (ci' 1)) 38 3,fa' 3 1 3 39 7,o0 (.store 1 (.tmp 39) (.tmp 38)) 15]
def ybpx:LO:=[fa' 4 1 3 40 0,ld' false 1 40 41 1,mv' 1 42 0,bn' .andNot 41 42 43 7,mv' 2 44 0,bn' .and 43 44 45 31,fa' 4 1 3 46 63,o0 (.store 1 (.tmp 46) (.tmp 45)) 127]
def ybmw:LO:=[fa' 4 1 3 47 0,ld' false 1 47 48 1,o3 (.bin .eql (.tmp 48) (.const (.int .u32 0))) 49 3]
def ybtw:LO:=[fa' 3 1 3 50 0,ld' false 1 50 51 1,fa' 2 1 3 52 3,o0 (.store 1 (.tmp 52) (.tmp 51)) 7]
def ybqs:LO:=[mv' 2 53 0,fa' 4 1 3 54 1,o0 (.store 1 (.tmp 54) (.tmp 53)) 3]
def ybcn:LO:=[ld' true 5 3 55 0,o0 (.store 5 (.tmp 6) (.tmp 55)) 1,o3 (.mv (ci' 0)) 7 3]
def c197:SC:=(.seq (.reg false ycov) (.seq (.seq (.reg false ycen) (.cond (.tmp 10) (.seq (.reg false ydcs) .ret) .skip)) (.seq (.seq (.reg false ycgq) (.cond (.tmp 20) (.seq (.reg false ydcc) .ret) .skip)) (.seq (.seq (.reg false ycdy) (.cond (.tmp 24) (.seq (.reg false ydcv) .ret) .skip)) (.seq (.reg false ycft) (.seq (.reg true ycfi) (.seq (.reg false ycmo) (.seq (.reg false ybpx) (.seq (.seq (.reg false ybmw) (.cond (.tmp 49) (.seq (.reg false ybtw) (.reg false ybqs)) .skip)) (.seq (.reg false ybcn) .ret))))))))))
theorem ycza:Fn 197 c197 [.c 6 true 5,.t 7]:=fn_0 Tryz.func197 (by kernel_rfl) (by kernel_rfl)
def yccm:LO:=[o3 (.mv (ci' 0)) 2 0]
def ycqy:LO:=[mv' 0 3 0,o3 (.bin .shr (.tmp 3) (.const (.int .u64 24))) 4 1,o3 (.stri ytu (.tmp 4)) 5 3,mv' 0 6 0,o3 (.bin .shr (.tmp 6) (.const (.int .u64 16))) 7 8,o3 (.bin .and (.tmp 7) (.const (.int .u32 255))) 8 24,o3 (.stri ytu (.tmp 8)) 9 56,bn' .add 5 9 10 127,mv' 0 11 0,o3 (.bin .shr (.tmp 11) (.const (.int .u64 8))) 12 256,o3 (.bin .and (.tmp 12) (.const (.int .u32 255))) 13 768,o3 (.stri ytu (.tmp 13)) 14 1792,bn' .add 10 14 15 4095,mv' 0 16 0,o3 (.bin .and (.tmp 16) (.const (.int .u32 255))) 17 8192,o3 (.stri ytu (.tmp 17)) 18 24576,bn' .add 15 18 19 65535,o3 (.conv .i64 (.tmp 19)) 20 131071,mv' 20 2 262143]
def c104:SC:=(.seq (.reg false yccm) (.seq (.reg true ycqy) .ret))
theorem ycwm:Fn 104 c104 [.t 2]:=fn_0 Tryz.func104 (by kernel_rfl) (by kernel_rfl)
def ycnk:LO:=[o3 (.box 27 (.tmp 0)) 1 0,o3 (.mv (.const (.slice none 0 0))) 2 0]
def ycde:LO:=[fa' 1 1 1 8 0,ld' false 1 8 9 1,ln' 9 10 3,o3 (.mk 40 1 4 [.i .u32 0] (.tmp 10) (.tmp 10)) 11 7,mv' 11 3 15]
def ycgu:LO:=[fa' 1 1 1 12 0,ld' false 1 12 13 1,ln' 13 14 3,o3 (.mv (ci' 0)) 15 0]
def ycem:LO:=[bn' .lss 15 14 16 0]
def ychn:LO:=[mv' 15 17 0,ix' 1 13 15 18 0,ld' false 1 18 19 2,mv' 17 4 7,mv' 19 5 15]
def ycqz:LO:=[mv' 5 20 0,ln' 20 21 1,o3 (.mv (ci' 0)) 22 0]
def ycnt:LO:=[bn' .lss 22 21 23 0]
def ycpt:LO:=[ix' 2 20 22 24 0,ld' true 2 24 25 1,o3 (.alloc 95 1 [.i .i64 0,.i .i64 0]) 7 0,o0 (.store 2 (.tmp 7) (.tmp 25)) 7]
def ycfl:LO:=[mv' 3 26 0,mv' 4 27 0,ix' 1 26 27 28 3,ld' false 1 28 29 7,fa' 0 1 7 30 0,ld' false 1 30 31 16,o3 (.bin .shl (.const (.int .u32 1)) (.tmp 31)) 32 48,bn' .or 29 32 33 127,ix' 1 26 27 34 255,o0 (.store 1 (.tmp 34) (.tmp 33)) 511]
def ycrs:LO:=[o3 (.bin .add (.tmp 22) (ci' 1)) 35 0,mv' 35 22 1]
def ybuw:LO:=[o3 (.bin .add (.tmp 15) (ci' 1)) 36 0,mv' 36 15 1]
def ybql:LO:=[mv' 3 37 0,mv' 37 2 1]
def c110:SC:=(.seq (.reg false ycnk) (.seq (.reg false ycde) (.seq (.seq (.reg false ycgu) (.block 0 (.loop (.seq (.reg false ycem) (.seq (.cond (.tmp 16) .skip (.exit 0)) (.seq (.block 1 (.seq (.reg false ychn) (.seq (.reg false ycqz) (.block 2 (.loop (.seq (.reg false ycnt) (.seq (.cond (.tmp 23) .skip (.exit 2)) (.seq (.block 3 (.seq (.reg false ycpt) (.reg true ycfl))) (.reg false ycrs))))))))) (.reg false ybuw))))))) (.seq (.reg false ybql) .ret))))
theorem ycuj:Fn 110 c110 [.t 2]:=fn_0 Tryz.func110 (by kernel_rfl) (by kernel_rfl)
def ycop:LO:=[o3 (.mv (.const (.bool false))) 8 0]
def ycgz:LO:=[mv' 3 9 0,o3 (.bin .eql (.tmp 9) (.const (.int .u32 0))) 10 1,mv' 10 11 3,⟨.mv (.tmp 3),some 12,some (11,false),7⟩,⟨.mv (.tmp 2),some 13,some (11,false),7⟩,⟨.bin .andNot (.tmp 12) (.tmp 13),some 14,some (11,false),31⟩,⟨.bin .neq (.tmp 14) (.const (.int .u32 0)),some 15,some (11,false),63⟩,o3 (.pick (.tmp 11) (.const (.bool true)) (.tmp 15)) 16 127]
def ydec:LO:=[o3 (.mv (.const (.bool false))) 8 0]
def ychd:LO:=[mv' 1 17 0]
def ycni:LO:=[o3 (.bin .eql (.tmp 17) (ci' 1)) 19 0,mv' 19 18 1]
def ydbt:LO:=[mv' 3 20 0,mv' 3 21 0,o3 (.bin .sub (.tmp 21) (.const (.int .u32 1))) 22 2,bn' .and 20 22 23 7,o3 (.bin .eql (.tmp 23) (.const (.int .u32 0))) 24 15,mv' 24 8 31]
def ycpx:LO:=[o3 (.bin .eql (.tmp 17) (ci' 2)) 26 0,mv' 26 25 1]
def yciu:LO:=[mv' 0 27 0,mv' 3 28 0,cl' 221 [27,28] 29 3,mv' 29 8 7]
def ydhw:LO:=[o3 (.bin .eql (.tmp 17) (ci' 4)) 31 0,mv' 31 30 1]
def ydhx:LO:=[mv' 3 32 0,mv' 2 33 0,bn' .eql 32 33 34 3,mv' 34 8 7]
def ycxw:LO:=[o3 (.mv (.const (.bool true))) 8 0]
def c196:SC:=(.seq (.reg false ycop) (.seq (.seq (.reg false ycgz) (.cond (.tmp 16) (.seq (.reg false ydec) .ret) .skip)) (.seq (.seq (.reg false ychd) (.block 0 (.seq (.reg false ycni) (.cond (.tmp 18) (.seq (.reg false ydbt) .ret) (.seq (.reg false ycpx) (.cond (.tmp 25) (.seq (.reg false yciu) .ret) (.seq (.reg false ydhw) (.cond (.tmp 30) (.seq (.reg false ydhx) .ret) .skip)))))))) (.seq (.reg false ycxw) .ret))))
theorem ycyk:Fn 196 c196 [.t 8]:=fn_0 Tryz.func196 (by kernel_rfl) (by kernel_rfl)
def ycnz:LO:=[o3 (.box 110 (.tmp 0)) 4 0,o3 (.mv (.const (.int .u32 0))) 8 0]
def ycqg:LO:=[mv' 3 11 0,mv' 2 12 0,bn' .and 11 12 13 3,mv' 13 3 7]
def ycic:LO:=[mv' 3 14 0,o3 (.bin .eql (.tmp 14) (.const (.int .u32 0))) 15 1]
def ycor:LO:=[mv' 2 16 0,mv' 2 17 0,o3 (.un .neg (.tmp 17)) 18 2,bn' .and 16 18 19 7,mv' 19 3 15]
def yclb:LO:=[mv' 1 20 0]
def yckf:LO:=[o3 (.bin .eql (.tmp 20) (ci' 1)) 22 0,mv' 22 21 1]
def ydfm:LO:=[mv' 3 23 0,mv' 3 24 0,o3 (.un .neg (.tmp 24)) 25 2,bn' .and 23 25 26 7,mv' 26 8 15]
def ycdd:LO:=[o3 (.bin .eql (.tmp 20) (ci' 2)) 28 0,mv' 28 27 1]
def ycfu:LO:=[o3 (.alloc 40 1 [.i .u32 0]) 9 0,o0 (.store 1 (.tmp 9) (.const (.int .u32 0))) 1]
def ycnj:LO:=[mv' 3 29 0,cl' 154 [29] 30 1]
def yben:LO:=[mv' 31 10 0]
def ybdh:LO:=[ld' false 1 4 32 0,mv' 10 33 0,ix' 1 32 33 34 3,ld' false 1 34 35 7,ld' false 1 9 36 0,bn' .and 35 36 37 31,o3 (.bin .eql (.tmp 37) (.const (.int .u32 0))) 38 63]
def ybbu:LO:=[ld' false 1 9 39 0,mv' 10 40 0,o3 (.bin .shl (.const (.int .u32 1)) (.tmp 40)) 41 2,bn' .or 39 41 42 7,o0 (.store 1 (.tmp 9) (.tmp 42)) 15]
def ybni:LO:=[ld' false 1 9 43 0,mv' 43 8 1]
def yctv:LO:=[o3 (.bin .eql (.tmp 20) (ci' 4)) 45 0,mv' 45 44 1]
def ycvh:LO:=[mv' 2 46 0,mv' 46 8 1]
def ycyl:LO:=[mv' 3 47 0,mv' 47 8 1]
def c111:SC:=(.seq (.reg false ycnz) (.seq (.reg false ycqg) (.seq (.seq (.reg false ycic) (.cond (.tmp 15) (.reg false ycor) .skip)) (.seq (.seq (.reg false yclb) (.block 0 (.seq (.reg false yckf) (.cond (.tmp 21) (.seq (.reg false ydfm) .ret) (.seq (.reg false ycdd) (.cond (.tmp 27) (.seq (.reg false ycfu) (.seq (.seq (.reg false ycnj) (.block 1 (.range (.tmp 30) [31] (.reg false yben) (.block 2 (.seq (.reg true ybdh) (.cond (.tmp 38) (.reg true ybbu) .skip)))))) (.seq (.reg false ybni) .ret))) (.seq (.reg false yctv) (.cond (.tmp 44) (.seq (.reg false ycvh) .ret) .skip)))))))) (.seq (.reg false ycyl) .ret)))))
theorem ybxk:FnU 111 c111 [.t 8]:=fn_u Tryz.func111 (by kernel_rfl) (by kernel_rfl)
def ycfp:LO:=[o3 (.mv (.const (.bool false))) 2 0]
def ycgo:LO:=[mv' 0 3 0,o3 (.bin .geq (.tmp 3) (ci' 1)) 4 1,mv' 4 5 3,⟨.mv (.tmp 0),some 6,some (5,true),7⟩,⟨.bin .leq (.tmp 6) (ci' 4),some 7,some (5,true),15⟩,o3 (.pick (.tmp 5) (.tmp 7) (.const (.bool false))) 8 31,mv' 8 2 63]
def c108:SC:=(.seq (.reg false ycfp) (.seq (.reg false ycgo) .ret))
theorem ycyf:Fn 108 c108 [.t 2]:=fn_0 Tryz.func108 (by kernel_rfl) (by kernel_rfl)
def ycin:LO:=[o3 (.box 58 (.tmp 0)) 5 0,o3 (.box 27 (.tmp 1)) 6 0,o3 (.mv (ci' 0)) 10 0]
def ycpb:LO:=[ld' true 3 5 12 0,ld' true 2 6 13 0,mv' 3 14 0,cl' 112 [12,13,14] 15 7,mv' 15 11 15]
def yceb:LO:=[mv' 11 16 0,o3 (.bin .neq (.tmp 16) (ci' 0)) 17 1]
def yddv:LO:=[mv' 11 18 0,mv' 18 10 1]
def ycpw:LO:=[mv' 2 19 0,cl' 108 [19] 20 1,o3 (.un .not (.tmp 20)) 21 3]
def ydgo:LO:=[o3 (.mv (ci' 12)) 10 0]
def ycco:LO:=[mv' 4 22 0,o3 (.bin .gtr (.tmp 22) (ci' 4096)) 23 1]
def ydaq:LO:=[o3 (.mv (ci' 3)) 10 0]
def ycip:LO:=[o3 (.mv (ci' 0)) 10 0]
def c129:SC:=(.seq (.reg false ycin) (.seq (.seq (.reg false ycpb) (.seq (.reg false yceb) (.cond (.tmp 17) (.seq (.reg false yddv) .ret) .skip))) (.seq (.seq (.reg false ycpw) (.cond (.tmp 21) (.seq (.reg false ydgo) .ret) .skip)) (.seq (.seq (.reg false ycco) (.cond (.tmp 23) (.seq (.reg false ydaq) .ret) .skip)) (.seq (.reg false ycip) .ret)))))
theorem ycxe:Fn 129 c129 [.t 10]:=fn_0 Tryz.func129 (by kernel_rfl) (by kernel_rfl)
def ycga:LO:=[o3 (.box 58 (.tmp 0)) 4 0,o3 (.box 27 (.tmp 1)) 5 0,o3 (.alloc 126 1 [.a (.pointer none),.a (.slice none 0 0),.i .i64 0,.i .u32 0,.a (.nilFunc)]) 8 0]
def ycnf:LO:=[ld' true 3 4 9 0,ld' true 2 5 10 0,cl' 93 [9,10] 11 3,ld' true 2 5 12 0,cl' 110 [12] 13 15,mv' 2 14 0,ld' true 2 5 15 0,cl' 109 [15] 16 95,mv' 3 17 0,o3 (.build [.a (.pointer none),.a (.slice none 0 0),.i .i64 0,.i .u32 0,.a (.nilFunc)] [(0,1,(.tmp 11)),(1,1,(.tmp 13)),(2,1,(.tmp 14)),(3,1,(.tmp 16)),(4,1,(.tmp 17))]) 18 511,o0 (.store 5 (.tmp 8) (.tmp 18)) 1023]
def c130:SC:=(.seq (.reg false ycga) (.seq (.reg true ycnf) .ret))
theorem ybzn:FnM 130 c130 [.c 8 true 5]:=fn_m Tryz.func130 (by kernel_rfl) (by kernel_rfl)
def ycla:LO:=[o3 (.box 126 (.tmp 0)) 4 0,o3 (.alloc 130 1 [.a (.slice none 0 0),.a (.slice none 0 0),.a (.slice none 0 0),.i .i64 0,.i .i64 0,.i .i64 0,.i .i64 0,.i .u32 0]) 8 0,o3 (.mv (ci' 0)) 9 0]
def ychk:LO:=[o3 (.alloc 130 1 [.a (.slice none 0 0),.a (.slice none 0 0),.a (.slice none 0 0),.i .i64 0,.i .i64 0,.i .i64 0,.i .i64 0,.i .u32 0]) 10 0]
def ycoh:LO:=[mv' 1 16 0,cl' 132 [16] 17 1,mv' 17 1 3]
def ycpd:LO:=[fa' 0 1 4 18 0,ld' false 1 18 19 1,mv' 1 20 0,cl' 94 [19,20] 21 7,fa' 3 1 4 22 0,ld' false 1 22 23 16,bn' .and 21 23 24 63,mv' 24 11 127]
def ycfv:LO:=[mv' 11 25 0,cl' 195 [25] 26 1,o3 (.alloc 48 1 [.i .i64 0,.i .i64 0,.i .i64 0,.i .i64 0,.i .u32 0]) 12 0,o0 (.store 5 (.tmp 12) (.tmp 26)) 7]
def ycid:LO:=[fa' 4 1 4 27 0,ld' false 1 27 28 1,mv' 1 29 0,mv' 11 30 0,ld' true 5 12 31 0,o3 (.call (.tmp 28) [(.tmp 29),(.tmp 30),(.tmp 31)]) 32 31]
def yche:LO:=[fa' 1 1 10 33 0,ld' false 1 33 34 1,mv' 11 35 0,o3 (.bslice 40 1 1 [.i .u32 0] [(0,1,(.tmp 35))]) 36 4,o3 (.app 40 1 4 (.tmp 34) (.tmp 36)) 37 15,fa' 1 1 10 38 31,o0 (.store 1 (.tmp 38) (.tmp 37)) 63]
def ycgv:LO:=[mv' 2 39 0,o3 (.mv (ci' 0)) 40 0]
def ycmy:LO:=[bn' .lss 40 39 41 0]
def ycoe:LO:=[mv' 40 42 0,mv' 42 13 1]
def ybnj:LO:=[mv' 3 44 0,mv' 13 45 0,mv' 11 46 0,o3 (.call (.tmp 44) [(.tmp 45),(.tmp 46)]) 47 7,mv' 47 43 15,xt' 43 0 48 31,xt' 43 1 49 31,mv' 48 14 63,mv' 49 15 255]
def ybdo:LO:=[mv' 15 50 0,o3 (.un .not (.tmp 50)) 51 1]
def ybtb:LO:=[fa' 1 1 4 52 0,ld' false 1 52 53 1,fa' 2 1 4 54 0,ld' false 1 54 55 4,mv' 11 56 0,mv' 14 57 0,cl' 196 [53,55,56,57] 58 63,o3 (.un .not (.tmp 58)) 59 127]
def ycug:LO:=[o3 (.build [.a (.slice none 0 0),.a (.slice none 0 0),.a (.slice none 0 0),.i .i64 0,.i .i64 0,.i .i64 0,.i .i64 0,.i .u32 0] []) 60 0,o0 (.store 8 (.tmp 8) (.tmp 60)) 1,o3 (.mv (ci' 11)) 9 3]
def ybng:LO:=[fa' 0 1 4 61 0,ld' false 1 61 62 1,mv' 1 63 0,mv' 14 64 0,cl' 113 [62,63,64] 65 15,mv' 65 1 31]
def ybvx:LO:=[fa' 0 1 4 66 0,ld' false 1 66 67 1,mv' 1 68 0,cl' 94 [67,68] 69 7,fa' 3 1 4 70 0,ld' false 1 70 71 16,bn' .and 69 71 72 63,mv' 72 11 127]
def ybob:LO:=[ld' true 5 12 74 0,mv' 14 75 0,mv' 11 76 0,cl' 197 [74,75,76] 77 7,mv' 77 73 15,xt' 73 0 78 31,xt' 73 1 79 31,o0 (.store 5 (.tmp 12) (.tmp 78)) 63]
def ybqh:LO:=[fa' 4 1 4 80 0,ld' false 1 80 81 1,mv' 1 82 0,mv' 11 83 0,ld' true 5 12 84 0,o3 (.call (.tmp 81) [(.tmp 82),(.tmp 83),(.tmp 84)]) 85 31]
def ybqc:LO:=[fa' 0 1 10 86 0,ld' false 1 86 87 1,mv' 14 88 0,o3 (.bslice 40 1 1 [.i .u32 0] [(0,1,(.tmp 88))]) 89 4,o3 (.app 40 1 4 (.tmp 87) (.tmp 89)) 90 15,fa' 0 1 10 91 31,o0 (.store 1 (.tmp 91) (.tmp 90)) 63]
def ybmr:LO:=[fa' 1 1 10 92 0,ld' false 1 92 93 1,mv' 11 94 0,o3 (.bslice 40 1 1 [.i .u32 0] [(0,1,(.tmp 94))]) 95 4,o3 (.app 40 1 4 (.tmp 93) (.tmp 95)) 96 15,fa' 1 1 10 97 31,o0 (.store 1 (.tmp 97) (.tmp 96)) 63]
def ybuu:LO:=[o3 (.bin .add (.tmp 40) (ci' 1)) 98 0,mv' 98 40 1]
def ybbz:LO:=[mv' 1 99 0,ld' true 5 12 100 0,fa' 2 1 10 101 1,o0 (.store 1 (.tmp 101) (.tmp 99)) 5,fa' 3 5 10 102 15,o0 (.store 5 (.tmp 102) (.tmp 100)) 31]
def ybbq:LO:=[ld' true 8 10 103 0,o0 (.store 8 (.tmp 8) (.tmp 103)) 1,o3 (.mv (ci' 0)) 9 3]
def c168:SC:=(.seq (.reg false ycla) (.seq (.reg false ychk) (.seq (.reg false ycoh) (.seq (.reg true ycpd) (.seq (.reg false ycfv) (.seq (.reg false ycid) (.seq (.reg false yche) (.seq (.seq (.reg false ycgv) (.block 0 (.loop (.seq (.reg false ycmy) (.seq (.cond (.tmp 41) .skip (.exit 0)) (.seq (.block 1 (.seq (.reg false ycoe) (.seq (.reg false ybnj) (.seq (.seq (.reg false ybdo) (.cond (.tmp 51) (.exit 0) .skip)) (.seq (.seq (.reg false ybtb) (.cond (.tmp 59) (.seq (.reg false ycug) .ret) .skip)) (.seq (.reg false ybng) (.seq (.reg true ybvx) (.seq (.reg false ybob) (.seq (.reg false ybqh) (.seq (.reg false ybqc) (.reg false ybmr))))))))))) (.reg false ybuu))))))) (.seq (.reg true ybbz) (.seq (.reg false ybbq) .ret))))))))))
theorem ycbu:FnM 168 c168 [.c 8 true 8,.t 9]:=fn_m Tryz.func168 (by kernel_rfl) (by kernel_rfl)
def ycqx:LO:=[o3 (.box 126 (.tmp 0)) 3 0,o3 (.box 38 (.tmp 2)) 5 0,o3 (.alloc 130 1 [.a (.slice none 0 0),.a (.slice none 0 0),.a (.slice none 0 0),.i .i64 0,.i .i64 0,.i .i64 0,.i .i64 0,.i .u32 0]) 6 0,o3 (.mv (ci' 0)) 7 0]
def ycsc:LO:=[ld' true 5 3 8 0,mv' 1 9 0,ld' false 1 5 10 0,ln' 10 11 4,o3 (.mkfn 169 [] [(.tmp 3),(.tmp 5)]) 12 0,cl' 168 [8,9,11,12] 13 31,xt' 13 0 14 63,xt' 13 1 15 63,o0 (.store 8 (.tmp 6) (.tmp 14)) 255,mv' 15 7 511]
def c133:SC:=(.seq (.reg false ycqx) (.seq (.reg false ycsc) .ret))
theorem ycaz:FnM 133 c133 [.c 6 true 8,.t 7]:=fn_m Tryz.func133 (by kernel_rfl) (by kernel_rfl)
def ybsb:LO:=[o3 (.mv (.const (.int .u32 0))) 6 0,o3 (.mv (.const (.bool false))) 7 1]
def ybwg:LO:=[fa' 1 1 2 8 0,ld' false 1 8 9 1,fa' 2 1 2 10 0,ld' false 1 10 11 4,mv' 1 12 0,ld' false 1 3 13 0,mv' 0 14 0,ix' 1 13 14 15 96,ld' false 1 15 16 224,cl' 111 [9,11,12,16] 17 511,mv' 1 18 0,o3 (.bin .neq (.tmp 18) (.const (.int .u32 0))) 19 1024,mv' 17 6 1023,mv' 19 7 8191]
def c169:SC:=(.seq (.reg false ybsb) (.seq (.reg true ybwg) .ret))
theorem ybwe:Fn 169 c169 [.t 6,.t 7]:=fn_0 Tryz.func169 (by kernel_rfl) (by kernel_rfl)
def ydgz:LO:=[o3 (.box 58 (.tmp 0)) 5 0,o3 (.box 27 (.tmp 1)) 6 0,o3 (.mv (.const (.slice none 0 0))) 10 0,o3 (.mv (.const (.slice none 0 0))) 11 4,o3 (.mv (ci' 0)) 12 12]
def ydbf:LO:=[ld' true 3 5 19 0,ld' true 2 6 20 0,mv' 2 21 0,mv' 3 22 0,mv' 4 23 0,ln' 23 24 16,cl' 129 [19,20,21,22,24] 25 63,mv' 25 13 127]
def yddq:LO:=[mv' 13 26 0,o3 (.bin .neq (.tmp 26) (ci' 0)) 27 1]
def ydka:LO:=[mv' 13 28 0,o3 (.mv (.const (.slice none 0 0))) 10 0,o3 (.mv (.const (.slice none 0 0))) 11 2,mv' 28 12 7]
def ydcl:LO:=[o3 (.alloc 29 1 [.a (.slice none 0 0)]) 14 0]
def ydcy:LO:=[o3 (.alloc 30 1 [.a (.slice none 0 0)]) 15 0]
def ydei:LO:=[ld' true 3 5 29 0,ld' true 2 6 30 0,mv' 2 31 0,o3 (.mkfn 131 [] [(.tmp 14),(.tmp 15)]) 32 0,cl' 130 [29,30,31,32] 33 15,o3 (.alloc 126 1 [.a (.pointer none),.a (.slice none 0 0),.i .i64 0,.i .u32 0,.a (.nilFunc)]) 16 0,o0 (.store 5 (.tmp 16) (.tmp 33)) 63]
def ydha:LO:=[ld' true 5 16 35 0,mv' 3 36 0,mv' 4 37 0,cl' 133 [35,36,37] 38 7,mv' 38 34 15,xt' 34 0 39 31,xt' 34 1 40 31,o3 (.alloc 130 1 [.a (.slice none 0 0),.a (.slice none 0 0),.a (.slice none 0 0),.i .i64 0,.i .i64 0,.i .i64 0,.i .i64 0,.i .u32 0]) 17 0,o0 (.store 8 (.tmp 17) (.tmp 39)) 191,mv' 40 18 511]
def ydfp:LO:=[mv' 18 41 0,o3 (.bin .neq (.tmp 41) (ci' 0)) 42 1]
def ydip:LO:=[mv' 18 43 0,o3 (.mv (.const (.slice none 0 0))) 10 0,o3 (.mv (.const (.slice none 0 0))) 11 2,mv' 43 12 7]
def ycqn:LO:=[ld' false 1 14 44 0,ld' false 1 15 45 0,mv' 44 10 1,mv' 45 11 7,o3 (.mv (ci' 0)) 12 15]
def c78:SC:=(.seq (.reg false ydgz) (.seq (.seq (.reg false ydbf) (.seq (.reg false yddq) (.cond (.tmp 27) (.seq (.reg false ydka) .ret) .skip))) (.seq (.reg false ydcl) (.seq (.reg false ydcy) (.seq (.reg false ydei) (.seq (.seq (.reg false ydha) (.seq (.reg false ydfp) (.cond (.tmp 42) (.seq (.reg false ydip) .ret) .skip))) (.seq (.reg true ycqn) .ret)))))))
theorem yctl:FnU 78 c78 [.t 10,.t 11,.t 12]:=fn_u Tryz.func78 (by kernel_rfl) (by kernel_rfl)
def yblz:LO:=[o3 (.box 48 (.tmp 2)) 7 0]
def ybnq:LO:=[ld' false 1 3 8 0,mv' 0 9 0,cl' 132 [9] 10 2,o3 (.bslice 34 1 1 [.a (.slice none 0 0)] [(0,1,(.tmp 10))]) 11 6,o3 (.app 34 1 24 (.tmp 8) (.tmp 11)) 12 15,o0 (.store 1 (.tmp 3) (.tmp 12)) 31]
def ybrh:LO:=[ld' false 1 4 13 0,ld' true 5 7 14 0,o3 (.bslice 48 5 1 [.i .i64 0,.i .i64 0,.i .i64 0,.i .i64 0,.i .u32 0] [(0,5,(.tmp 14))]) 15 2,o3 (.app 48 5 40 (.tmp 13) (.tmp 15)) 16 7,o0 (.store 1 (.tmp 4) (.tmp 16)) 15]
def c131:SC:=(.seq (.reg false yblz) (.seq (.reg true ybnq) (.reg false ybrh)))
theorem ybhr:FnM 131 c131 []:=fn_m Tryz.func131 (by kernel_rfl) (by kernel_rfl)
end Sh
end Go.Proofs.YtiejahgklcjhkaaGreatDoor

namespace Go.Proofs.YtiejahgklcjhkaaGreatDoor
namespace Sh
open Go Ev
def ycmi:LO:=[o3 (.mv (ci' 0)) 4 0]
def yckt:LO:=[mv' 0 6 0,ln' 6 7 1,o3 (.mv (ci' 0)) 8 0]
def ycps:LO:=[bn' .lss 8 7 9 0]
def ycei:LO:=[mv' 8 10 0,mv' 10 5 1]
def ycny:LO:=[mv' 1 11 0,mv' 0 12 0,mv' 5 13 0,ix' 1 12 13 14 6,ld' false 1 14 15 14,bn' .eql 11 15 16 31]
def ycmz:LO:=[mv' 5 17 0,mv' 17 4 1]
def ycrl:LO:=[o3 (.bin .add (.tmp 8) (ci' 1)) 18 0,mv' 18 8 1]
def ycmm:LO:=[o3 (.mv (.const (.int .i64 (-1)))) 4 0]
def c165:SC:=(.seq (.reg false ycmi) (.seq (.seq (.reg false yckt) (.block 0 (.loop (.seq (.reg false ycps) (.seq (.cond (.tmp 9) .skip (.exit 0)) (.seq (.block 1 (.seq (.reg false ycei) (.seq (.reg false ycny) (.cond (.tmp 16) (.seq (.reg false ycmz) .ret) .skip)))) (.reg false ycrl))))))) (.seq (.reg false ycmm) .ret)))
theorem ycuw:Fn 165 c165 [.t 4]:=fn_0 Tryz.func165 (by kernel_rfl) (by kernel_rfl)
def ycgi:LO:=[o3 (.mv (ci' 0)) 2 0]
def ycdt:LO:=[mv' 0 5 0,ln' 5 6 1,o3 (.bin .lss (.tmp 6) (ci' 1)) 7 3]
def ycdo:LO:=[o3 (.no) 8 0,o0 (.no) 1]
def ycjb:LO:=[mv' 0 9 0,o3 (.idx 1 (.tmp 9) (ci' 0)) 10 1,ld' false 1 10 11 3,mv' 11 3 7]
def yccg:LO:=[o3 (.mv (ci' 1)) 4 0]
def ycdu:LO:=[mv' 4 12 0,mv' 0 13 0,ln' 13 14 2,bn' .lss 12 14 15 7]
def ycqe:LO:=[mv' 3 18 0,mv' 0 19 0,mv' 4 20 0,ix' 1 19 20 21 6,ld' false 1 21 22 14,o3 (.mm true (.tmp 18) (.tmp 22)) 23 31,mv' 23 3 63]
def ycdk:LO:=[mv' 4 16 0,o3 (.bin .add (.tmp 16) (ci' 1)) 17 1,mv' 17 4 3]
def ycii:LO:=[mv' 3 24 0,mv' 24 2 1]
def c160:SC:=(.seq (.reg false ycgi) (.seq (.seq (.reg false ycdt) (.cond (.tmp 7) (.reg false ycdo) .skip)) (.seq (.reg false ycjb) (.seq (.seq (.reg false yccg) (.block 0 (.loop (.seq (.seq (.reg false ycdu) (.cond (.tmp 15) .skip (.exit 0))) (.seq (.block 1 (.reg false ycqe)) (.reg false ycdk)))))) (.seq (.reg false ycii) .ret)))))
theorem ycvm:Fn 160 c160 [.t 2]:=fn_0 Tryz.func160 (by kernel_rfl) (by kernel_rfl)
def ycof:LO:=[o3 (.mv (.const (.bool false))) 4 0]
def yclz:LO:=[mv' 0 5 0,mv' 1 6 0,cl' 165 [5,6] 7 3,o3 (.bin .geq (.tmp 7) (ci' 0)) 8 7,mv' 8 4 15]
def c274:SC:=(.seq (.reg false ycof) (.seq (.reg false yclz) .ret))
theorem yczc:Fn 274 c274 [.t 4]:=fn_0 Tryz.func274 (by kernel_rfl) (by kernel_rfl)
def yclo:LO:=[o3 (.mv (ci' 0)) 4 0]
def ycrb:LO:=[mv' 0 6 0,ln' 6 7 1,o3 (.mv (ci' 0)) 8 0]
def ychc:LO:=[bn' .lss 8 7 9 0]
def yclg:LO:=[mv' 8 10 0,mv' 10 5 1]
def ycce:LO:=[mv' 1 11 0,mv' 0 12 0,mv' 5 13 0,ix' 1 12 13 14 6,ld' false 1 14 15 14,o3 (.call (.tmp 11) [(.tmp 15)]) 16 31]
def ycpr:LO:=[mv' 5 17 0,mv' 17 4 1]
def ycob:LO:=[o3 (.bin .add (.tmp 8) (ci' 1)) 18 0,mv' 18 8 1]
def ycrw:LO:=[o3 (.mv (.const (.int .i64 (-1)))) 4 0]
def c267:SC:=(.seq (.reg false yclo) (.seq (.seq (.reg false ycrb) (.block 0 (.loop (.seq (.reg false ychc) (.seq (.cond (.tmp 9) .skip (.exit 0)) (.seq (.block 1 (.seq (.reg false yclg) (.seq (.reg false ycce) (.cond (.tmp 16) (.seq (.reg false ycpr) .ret) .skip)))) (.reg false ycob))))))) (.seq (.reg false ycrw) .ret)))
theorem ycxb:Fn 267 c267 [.t 4]:=fn_0 Tryz.func267 (by kernel_rfl) (by kernel_rfl)
def yccw:LO:=[o3 (.mv (ci' 0)) 2 0]
def ycmr:LO:=[mv' 0 4 0,o3 (.bin .lss (.tmp 4) (ci' 1)) 5 1,mv' 5 6 3,⟨.mv (.tmp 0),some 7,some (6,false),7⟩,⟨.bin .gtr (.tmp 7) (ci' 43),some 8,some (6,false),15⟩,o3 (.pick (.tmp 6) (.const (.bool true)) (.tmp 8)) 9 31,mv' 9 3 63]
def ycno:LO:=[o3 (.mv (.const (.int .i64 (-1)))) 2 0]
def ycik:LO:=[mv' 0 11 0,o3 (.bin .leq (.tmp 11) (ci' 17)) 12 1,mv' 12 10 3]
def ycfj:LO:=[o3 (.mv (ci' 0)) 2 0]
def ycoo:LO:=[mv' 0 14 0,o3 (.bin .leq (.tmp 14) (ci' 29)) 15 1,mv' 15 13 3]
def ycis:LO:=[o3 (.mv (ci' 1)) 2 0]
def ycra:LO:=[mv' 0 17 0,o3 (.bin .leq (.tmp 17) (ci' 42)) 18 1,mv' 18 16 3]
def ycfn:LO:=[o3 (.mv (ci' 2)) 2 0]
def ychv:LO:=[o3 (.mv (ci' 3)) 2 0]
def c247:SC:=(.seq (.reg false yccw) (.seq (.block 0 (.seq (.reg false ycmr) (.cond (.tmp 3) (.seq (.reg false ycno) .ret) (.seq (.reg false ycik) (.cond (.tmp 10) (.seq (.reg false ycfj) .ret) (.seq (.reg false ycoo) (.cond (.tmp 13) (.seq (.reg false ycis) .ret) (.seq (.reg false ycra) (.cond (.tmp 16) (.seq (.reg false ycfn) .ret) .skip))))))))) (.seq (.reg false ychv) .ret)))
theorem ycwv:Fn 247 c247 [.t 2]:=fn_0 Tryz.func247 (by kernel_rfl) (by kernel_rfl)
def yclf:LO:=[o3 (.mv (ci' 0)) 4 0]
def yckm:LO:=[mv' 1 7 0,o3 (.bin .lss (.tmp 7) (ci' 0)) 8 1,mv' 8 9 3,⟨.mv (.tmp 1),some 10,some (9,false),7⟩,⟨.mv (.tmp 0),some 11,some (9,false),7⟩,⟨.len (.tmp 11),some 12,some (9,false),23⟩,⟨.bin .geq (.tmp 10) (.tmp 12),some 13,some (9,false),63⟩,o3 (.pick (.tmp 9) (.const (.bool true)) (.tmp 13)) 14 127]
def ychq:LO:=[o3 (.mv (.const (.int .i64 (-1)))) 4 0]
def ycgd:LO:=[o3 (.mv (ci' 1)) 5 0]
def ycks:LO:=[mv' 1 15 0,mv' 0 16 0,ln' 16 17 2,bn' .lss 15 17 18 7]
def ycdc:LO:=[mv' 0 21 0,mv' 1 22 0,ix' 2 21 22 23 3,fa' 0 1 23 24 7,ld' false 1 24 25 15,cl' 247 [25] 26 31,mv' 26 6 63]
def ycgg:LO:=[mv' 6 27 0,o3 (.bin .lss (.tmp 27) (ci' 0)) 28 1]
def ycdp:LO:=[o3 (.mv (.const (.int .i64 (-1)))) 4 0]
def ycqa:LO:=[mv' 5 29 0,mv' 6 30 0,o3 (.bin .sub (.tmp 30) (ci' 1)) 31 2,bn' .add 29 31 32 7,mv' 32 5 15]
def ybre:LO:=[mv' 5 33 0,o3 (.bin .eql (.tmp 33) (ci' 0)) 34 1]
def ybsy:LO:=[mv' 1 35 0,o3 (.bin .add (.tmp 35) (ci' 1)) 36 1,mv' 36 4 3]
def ycod:LO:=[mv' 1 19 0,o3 (.bin .add (.tmp 19) (ci' 1)) 20 1,mv' 20 1 3]
def ybpy:LO:=[o3 (.mv (.const (.int .i64 (-1)))) 4 0]
def c231:SC:=(.seq (.reg false yclf) (.seq (.seq (.reg false yckm) (.cond (.tmp 14) (.seq (.reg false ychq) .ret) .skip)) (.seq (.seq (.reg false ycgd) (.block 0 (.loop (.seq (.seq (.reg false ycks) (.cond (.tmp 18) .skip (.exit 0))) (.seq (.block 1 (.seq (.reg false ycdc) (.seq (.seq (.reg false ycgg) (.cond (.tmp 28) (.seq (.reg false ycdp) .ret) .skip)) (.seq (.reg false ycqa) (.seq (.reg false ybre) (.cond (.tmp 34) (.seq (.reg false ybsy) .ret) .skip)))))) (.reg false ycod)))))) (.seq (.reg false ybpy) .ret))))
theorem ycxu:Fn 231 c231 [.t 4]:=fn_0 Tryz.func231 (by kernel_rfl) (by kernel_rfl)
def yccl:LO:=[o3 (.box 27 (.tmp 0)) 3 0,o3 (.mv (ci' 0)) 6 0]
def yceq:LO:=[fa' 1 1 3 9 0,ld' false 1 9 10 1,mv' 1 11 0,ix' 1 10 11 12 7,ld' false 1 12 13 15,ln' 13 14 31,o3 (.mv (ci' 0)) 15 0]
def ycfe:LO:=[bn' .lss 15 14 16 0]
def ycnx:LO:=[mv' 15 17 0,ix' 2 13 15 18 0,ld' true 2 18 19 2,o3 (.alloc 95 1 [.i .i64 0,.i .i64 0]) 8 0,mv' 17 7 15,o0 (.store 2 (.tmp 8) (.tmp 19)) 31]
def ycnp:LO:=[fa' 0 1 8 20 0,ld' false 1 20 21 1,mv' 2 22 0,bn' .eql 21 22 23 7]
def ycmn:LO:=[mv' 7 24 0,mv' 24 6 1]
def ycqh:LO:=[o3 (.bin .add (.tmp 15) (ci' 1)) 25 0,mv' 25 15 1]
def ycix:LO:=[o3 (.mv (.const (.int .i64 (-1)))) 6 0]
def c170:SC:=(.seq (.reg false yccl) (.seq (.seq (.reg false yceq) (.block 0 (.loop (.seq (.reg false ycfe) (.seq (.cond (.tmp 16) .skip (.exit 0)) (.seq (.block 1 (.seq (.reg false ycnx) (.seq (.reg false ycnp) (.cond (.tmp 23) (.seq (.reg false ycmn) .ret) .skip)))) (.reg false ycqh))))))) (.seq (.reg false ycix) .ret)))
theorem yczn:Fn 170 c170 [.t 6]:=fn_0 Tryz.func170 (by kernel_rfl) (by kernel_rfl)
def ycha:LO:=[o3 (.box 27 (.tmp 0)) 1 0,o3 (.mv (.const (.int .u32 0))) 2 0]
def ycqu:LO:=[fa' 0 1 1 3 0,ld' false 1 3 4 1,ln' 4 5 3,o3 (.bin .shl (.const (.int .u32 1)) (.tmp 5)) 6 7,o3 (.bin .sub (.tmp 6) (.const (.int .u32 1))) 7 15,mv' 7 2 31]
def c109:SC:=(.seq (.reg false ycha) (.seq (.reg false ycqu) .ret))
theorem ycwt:Fn 109 c109 [.t 2]:=fn_0 Tryz.func109 (by kernel_rfl) (by kernel_rfl)
def yceh:LO:=[o3 (.mv (ci' 0)) 2 0]
def ycqm:LO:=[mv' 0 3 0]
def ycjm:LO:=[o3 (.mv (ci' 1)) 2 0]
def ychx:LO:=[o3 (.mv (ci' 0)) 2 0]
def c256:SC:=(.seq (.reg false yceh) (.seq (.seq (.reg false ycqm) (.cond (.tmp 3) (.seq (.reg false ycjm) .ret) .skip)) (.seq (.reg false ychx) .ret)))
theorem ycwu:Fn 256 c256 [.t 2]:=fn_0 Tryz.func256 (by kernel_rfl) (by kernel_rfl)
def ycnl:LO:=[o3 (.mv (ci' 0)) 2 0]
def yccz:LO:=[mv' 0 3 0,o3 (.mm false (.tmp 3) (ci' 1073741824)) 4 1,o3 (.mm true (.const (.int .i64 (-1073741824))) (.tmp 4)) 5 3,mv' 5 2 7]
def c258:SC:=(.seq (.reg false ycnl) (.seq (.reg false yccz) .ret))
theorem ycso:Fn 258 c258 [.t 2]:=fn_0 Tryz.func258 (by kernel_rfl) (by kernel_rfl)
def yces:LO:=[o3 (.mv (ci' 0)) 4 0]
def ycfc:LO:=[mv' 0 5 0,o3 (.bin .eql (.tmp 5) (ci' 18)) 6 1]
def ycje:LO:=[mv' 1 7 0,o3 (.un .neg (.tmp 7)) 8 1,mv' 8 4 3]
def ycmh:LO:=[mv' 1 9 0,o3 (.bin .eql (.tmp 9) (ci' 0)) 10 1,cl' 256 [10] 11 3,mv' 11 4 7]
def c237:SC:=(.seq (.reg false yces) (.seq (.seq (.reg false ycfc) (.cond (.tmp 6) (.seq (.reg false ycje) .ret) .skip)) (.seq (.reg false ycmh) .ret)))
theorem yctn:Fn 237 c237 [.t 4]:=fn_0 Tryz.func237 (by kernel_rfl) (by kernel_rfl)
def ycjk:LO:=[o3 (.mv (ci' 0)) 6 0]
def ycpz:LO:=[mv' 0 7 0]
def ychz:LO:=[o3 (.bin .eql (.tmp 7) (ci' 30)) 9 0,mv' 9 8 1]
def ycjq:LO:=[mv' 1 10 0,mv' 2 11 0,bn' .mul 10 11 12 3,cl' 258 [12] 13 7,mv' 13 6 15]
def ycnv:LO:=[o3 (.bin .eql (.tmp 7) (ci' 31)) 15 0,mv' 15 14 1]
def ycjs:LO:=[mv' 1 16 0,mv' 2 17 0,cl' 259 [16,17] 18 3,cl' 258 [18] 19 7,mv' 19 6 15]
def yclt:LO:=[o3 (.bin .eql (.tmp 7) (ci' 32)) 21 0,mv' 21 20 1]
def ycpv:LO:=[mv' 2 22 0,o3 (.bin .eql (.tmp 22) (ci' 0)) 23 1]
def ycer:LO:=[o3 (.mv (ci' 0)) 6 0]
def ycli:LO:=[mv' 1 24 0,mv' 2 25 0,mv' 1 26 0,mv' 2 27 0,cl' 259 [26,27] 28 12,bn' .mul 25 28 29 30,bn' .sub 24 29 30 63,cl' 258 [30] 31 127,mv' 31 6 255]
def ybpj:LO:=[o3 (.bin .eql (.tmp 7) (ci' 33)) 33 0,mv' 33 32 1]
def ybmc:LO:=[mv' 1 34 0,mv' 2 35 0,bn' .add 34 35 36 3,cl' 258 [36] 37 7,mv' 37 6 15]
def ybrz:LO:=[o3 (.bin .eql (.tmp 7) (ci' 34)) 39 0,mv' 39 38 1]
def ybnx:LO:=[mv' 1 40 0,mv' 2 41 0,bn' .sub 40 41 42 3,cl' 258 [42] 43 7,mv' 43 6 15]
def ybvo:LO:=[o3 (.bin .eql (.tmp 7) (ci' 41)) 45 0,mv' 45 44 1]
def ybvy:LO:=[mv' 1 46 0,o3 (.bin .neq (.tmp 46) (ci' 0)) 47 1,mv' 47 48 3,⟨.mv (.tmp 2),some 49,some (48,true),7⟩,⟨.bin .neq (.tmp 49) (ci' 0),some 50,some (48,true),15⟩,o3 (.pick (.tmp 48) (.tmp 50) (.const (.bool false))) 51 31,cl' 256 [51] 52 63,mv' 52 6 127]
def ybuo:LO:=[o3 (.bin .eql (.tmp 7) (ci' 42)) 54 0,mv' 54 53 1]
def ybqa:LO:=[mv' 1 55 0,o3 (.bin .neq (.tmp 55) (ci' 0)) 56 1,mv' 56 57 3,⟨.mv (.tmp 2),some 58,some (57,false),7⟩,⟨.bin .neq (.tmp 58) (ci' 0),some 59,some (57,false),15⟩,o3 (.pick (.tmp 57) (.const (.bool true)) (.tmp 59)) 60 31,cl' 256 [60] 61 63,mv' 61 6 127]
def ybpw:LO:=[mv' 0 62 0,mv' 1 63 0,mv' 2 64 0,cl' 260 [62,63,64] 65 7,cl' 256 [65] 66 15,mv' 66 6 31]
def c239:SC:=(.seq (.reg false ycjk) (.seq (.seq (.reg false ycpz) (.block 0 (.seq (.reg false ychz) (.cond (.tmp 8) (.seq (.reg false ycjq) .ret) (.seq (.reg false ycnv) (.cond (.tmp 14) (.seq (.reg false ycjs) .ret) (.seq (.reg false yclt) (.cond (.tmp 20) (.seq (.seq (.reg false ycpv) (.cond (.tmp 23) (.seq (.reg false ycer) .ret) .skip)) (.seq (.reg false ycli) .ret)) (.seq (.reg false ybpj) (.cond (.tmp 32) (.seq (.reg false ybmc) .ret) (.seq (.reg false ybrz) (.cond (.tmp 38) (.seq (.reg false ybnx) .ret) (.seq (.reg false ybvo) (.cond (.tmp 44) (.seq (.reg false ybvy) .ret) (.seq (.reg false ybuo) (.cond (.tmp 53) (.seq (.reg false ybqa) .ret) .skip)))))))))))))))) (.seq (.reg false ybpw) .ret)))
theorem ycxy:Fn 239 c239 [.t 6]:=fn_0 Tryz.func239 (by kernel_rfl) (by kernel_rfl)
def ycre:LO:=[o3 (.mv (ci' 0)) 4 0]
def ycoc:LO:=[mv' 1 6 0,o3 (.bin .eql (.tmp 6) (ci' 0)) 7 1]
def yckq:LO:=[o3 (.mv (ci' 0)) 4 0]
def ycif:LO:=[mv' 0 8 0,mv' 1 9 0,bn' .quo 8 9 10 3,mv' 10 5 7]
def ycme:LO:=[mv' 0 11 0,mv' 1 12 0,bn' .rem 11 12 13 3,o3 (.bin .neq (.tmp 13) (ci' 0)) 14 7,mv' 14 15 15,⟨.mv (.tmp 0),some 16,some (15,true),31⟩,⟨.bin .lss (.tmp 16) (ci' 0),some 17,some (15,true),63⟩,⟨.mv (.tmp 1),some 18,some (15,true),31⟩,⟨.bin .lss (.tmp 18) (ci' 0),some 19,some (15,true),159⟩,⟨.beq true (.tmp 17) (.tmp 19),some 20,some (15,true),511⟩,o3 (.pick (.tmp 15) (.tmp 20) (.const (.bool false))) 21 1023]
def ycse:LO:=[mv' 5 22 0,o3 (.bin .sub (.tmp 22) (ci' 1)) 23 1,mv' 23 5 3]
def ycjy:LO:=[mv' 5 24 0,mv' 24 4 1]
def c259:SC:=(.seq (.reg false ycre) (.seq (.seq (.reg false ycoc) (.cond (.tmp 7) (.seq (.reg false yckq) .ret) .skip)) (.seq (.reg false ycif) (.seq (.seq (.reg false ycme) (.cond (.tmp 21) (.reg false ycse) .skip)) (.seq (.reg false ycjy) .ret)))))
theorem ycwz:Fn 259 c259 [.t 4]:=fn_0 Tryz.func259 (by kernel_rfl) (by kernel_rfl)
def ycrv:LO:=[o3 (.mv (.const (.bool false))) 6 0]
def ycfa:LO:=[mv' 0 7 0]
def ycfx:LO:=[o3 (.bin .eql (.tmp 7) (ci' 35)) 9 0,mv' 9 8 1]
def ycea:LO:=[mv' 1 10 0,mv' 2 11 0,bn' .eql 10 11 12 3,mv' 12 6 7]
def ychl:LO:=[o3 (.bin .eql (.tmp 7) (ci' 36)) 14 0,mv' 14 13 1]
def ycky:LO:=[mv' 1 15 0,mv' 2 16 0,bn' .neq 15 16 17 3,mv' 17 6 7]
def yccn:LO:=[o3 (.bin .eql (.tmp 7) (ci' 37)) 19 0,mv' 19 18 1]
def ychg:LO:=[mv' 1 20 0,mv' 2 21 0,bn' .lss 20 21 22 3,mv' 22 6 7]
def ycfh:LO:=[o3 (.bin .eql (.tmp 7) (ci' 38)) 24 0,mv' 24 23 1]
def ycnc:LO:=[mv' 1 25 0,mv' 2 26 0,bn' .leq 25 26 27 3,mv' 27 6 7]
def ybsn:LO:=[o3 (.bin .eql (.tmp 7) (ci' 39)) 29 0,mv' 29 28 1]
def ybsp:LO:=[mv' 1 30 0,mv' 2 31 0,bn' .gtr 30 31 32 3,mv' 32 6 7]
def ybnr:LO:=[mv' 1 33 0,mv' 2 34 0,bn' .geq 33 34 35 3,mv' 35 6 7]
def c260:SC:=(.seq (.reg false ycrv) (.seq (.seq (.reg false ycfa) (.block 0 (.seq (.reg false ycfx) (.cond (.tmp 8) (.seq (.reg false ycea) .ret) (.seq (.reg false ychl) (.cond (.tmp 13) (.seq (.reg false ycky) .ret) (.seq (.reg false yccn) (.cond (.tmp 18) (.seq (.reg false ychg) .ret) (.seq (.reg false ycfh) (.cond (.tmp 23) (.seq (.reg false ycnc) .ret) (.seq (.reg false ybsn) (.cond (.tmp 28) (.seq (.reg false ybsp) .ret) .skip)))))))))))) (.seq (.reg false ybnr) .ret)))
theorem ycvu:Fn 260 c260 [.t 6]:=fn_0 Tryz.func260 (by kernel_rfl) (by kernel_rfl)
def yclh:LO:=[o3 (.mv (ci' 0)) 4 0]
def ycet:LO:=[mv' 0 15 0]
def ycff:LO:=[o3 (.bin .eql (.tmp 15) (ci' 20)) 17 0,mv' 17 16 1]
def yclv:LO:=[mv' 1 18 0,cl' 266 [18] 19 1,mv' 1 20 0,ln' 20 21 4,bn' .eql 19 21 22 15,cl' 256 [22] 23 31,mv' 23 4 63]
def yclp:LO:=[o3 (.bin .eql (.tmp 15) (ci' 21)) 25 0,mv' 25 24 1]
def ycpp:LO:=[mv' 1 26 0,cl' 266 [26] 27 1,o3 (.bin .gtr (.tmp 27) (ci' 0)) 28 3,cl' 256 [28] 29 7,mv' 29 4 15]
def yccj:LO:=[o3 (.bin .eql (.tmp 15) (ci' 22)) 31 0,mv' 31 30 1]
def ycnq:LO:=[mv' 1 32 0,cl' 266 [32] 33 1,mv' 33 4 3]
def yccc:LO:=[o3 (.bin .eql (.tmp 15) (ci' 23)) 35 0,mv' 35 34 1]
def ycle:LO:=[mv' 1 36 0,o3 (.call (.func 267) [(.tmp 36),(.func 268)]) 37 1,mv' 37 4 3]
def ybvu:LO:=[o3 (.bin .eql (.tmp 15) (ci' 24)) 39 0,mv' 39 38 1]
def ybrx:LO:=[o3 (.mv (ci' 1073741824)) 5 0]
def ybpo:LO:=[mv' 1 40 0,ln' 40 41 1,o3 (.mv (ci' 0)) 42 0]
def ybpg:LO:=[bn' .lss 42 41 43 0]
def ybrt:LO:=[ix' 1 40 42 44 0,ld' false 1 44 45 1,mv' 45 7 3]
def ybrm:LO:=[mv' 5 46 0,mv' 7 47 0,o3 (.mm false (.tmp 46) (.tmp 47)) 48 3,mv' 48 5 7]
def ybrs:LO:=[o3 (.bin .add (.tmp 42) (ci' 1)) 49 0,mv' 49 42 1]
def ybtq:LO:=[mv' 5 50 0,mv' 50 4 1]
def ybtu:LO:=[o3 (.bin .eql (.tmp 15) (ci' 25)) 52 0,mv' 52 51 1]
def ybon:LO:=[mv' 1 54 0,cl' 269 [54] 55 1,mv' 55 53 3,xt' 53 0 56 7,xt' 53 1 57 7,mv' 56 8 15,mv' 57 9 63]
def ybne:LO:=[mv' 8 58 0,mv' 58 4 1]
def ybmx:LO:=[o3 (.bin .eql (.tmp 15) (ci' 26)) 60 0,mv' 60 59 1]
def ybrr:LO:=[o3 (.mv (ci' 0)) 10 0]
def ybua:LO:=[mv' 1 61 0,ln' 61 62 1,o3 (.mv (ci' 0)) 63 0]
def ybss:LO:=[bn' .lss 63 62 64 0]
def ybvv:LO:=[ix' 1 61 63 65 0,ld' false 1 65 66 1,mv' 66 12 3]
def ybnt:LO:=[mv' 10 67 0,mv' 12 68 0,bn' .add 67 68 69 3,mv' 69 10 7]
def ybpm:LO:=[o3 (.bin .add (.tmp 63) (ci' 1)) 70 0,mv' 70 63 1]
def ybos:LO:=[mv' 10 71 0,cl' 258 [71] 72 1,mv' 72 4 3]
def ybuk:LO:=[o3 (.bin .eql (.tmp 15) (ci' 27)) 74 0,mv' 74 73 1]
def ybsj:LO:=[mv' 1 75 0,cl' 270 [75] 76 1,mv' 76 4 3]
def ybpl:LO:=[o3 (.bin .eql (.tmp 15) (ci' 28)) 78 0,mv' 78 77 1]
def ybnn:LO:=[mv' 1 80 0,cl' 269 [80] 81 1,mv' 81 79 3,xt' 79 0 82 7,xt' 79 1 83 7,mv' 82 13 15,mv' 83 14 63]
def ybvf:LO:=[mv' 14 84 0,mv' 84 4 1]
def ybth:LO:=[mv' 1 85 0,ln' 85 86 1,o3 (.bin .eql (.tmp 86) (ci' 0)) 87 3]
def ybom:LO:=[o3 (.mv (ci' 0)) 4 0]
def ybmg:LO:=[mv' 1 88 0,o3 (.idx 1 (.tmp 88) (ci' 0)) 89 1,ld' false 1 89 90 3,mv' 90 4 7]
def c257:SC:=(.seq (.reg false yclh) (.seq (.seq (.reg false ycet) (.block 0 (.seq (.reg false ycff) (.cond (.tmp 16) (.seq (.reg false yclv) .ret) (.seq (.reg false yclp) (.cond (.tmp 24) (.seq (.reg false ycpp) .ret) (.seq (.reg false yccj) (.cond (.tmp 30) (.seq (.reg false ycnq) .ret) (.seq (.reg false yccc) (.cond (.tmp 34) (.seq (.reg false ycle) .ret) (.seq (.reg false ybvu) (.cond (.tmp 38) (.seq (.reg false ybrx) (.seq (.seq (.reg false ybpo) (.block 1 (.loop (.seq (.reg false ybpg) (.seq (.cond (.tmp 43) .skip (.exit 1)) (.seq (.block 2 (.seq (.reg false ybrt) (.reg false ybrm))) (.reg false ybrs))))))) (.seq (.reg false ybtq) .ret))) (.seq (.reg false ybtu) (.cond (.tmp 51) (.seq (.reg false ybon) (.seq (.reg false ybne) .ret)) (.seq (.reg false ybmx) (.cond (.tmp 59) (.seq (.reg false ybrr) (.seq (.seq (.reg false ybua) (.block 3 (.loop (.seq (.reg false ybss) (.seq (.cond (.tmp 64) .skip (.exit 3)) (.seq (.block 4 (.seq (.reg false ybvv) (.reg false ybnt))) (.reg false ybpm))))))) (.seq (.reg false ybos) .ret))) (.seq (.reg false ybuk) (.cond (.tmp 73) (.seq (.reg false ybsj) .ret) (.seq (.reg false ybpl) (.cond (.tmp 77) (.seq (.reg false ybnn) (.seq (.reg false ybvf) .ret)) .skip)))))))))))))))))))) (.seq (.seq (.reg false ybth) (.cond (.tmp 87) (.seq (.reg false ybom) .ret) .skip)) (.seq (.reg false ybmg) .ret))))
theorem yczh:Fn 257 c257 [.t 4]:=fn_0 Tryz.func257 (by kernel_rfl) (by kernel_rfl)
def ycjp:LO:=[o3 (.mv (.const (.bool false))) 2 0]
def yclj:LO:=[mv' 0 3 0,o3 (.bin .neq (.tmp 3) (ci' 0)) 4 1,mv' 4 2 3]
def c268:SC:=(.seq (.reg false ycjp) (.seq (.reg false yclj) .ret))
theorem ycvt:Fn 268 c268 [.t 2]:=fn_0 Tryz.func268 (by kernel_rfl) (by kernel_rfl)
def ycig:LO:=[o3 (.mv (ci' 0)) 2 0]
def yckj:LO:=[o3 (.mv (ci' 0)) 3 0]
def yccx:LO:=[mv' 0 6 0,ln' 6 7 1,o3 (.mv (ci' 0)) 8 0]
def ycgx:LO:=[bn' .lss 8 7 9 0]
def ycqc:LO:=[ix' 1 6 8 10 0,ld' false 1 10 11 1,mv' 11 5 3]
def ycnd:LO:=[mv' 5 12 0,o3 (.bin .neq (.tmp 12) (ci' 0)) 13 1]
def ycqq:LO:=[mv' 3 14 0,o3 (.bin .add (.tmp 14) (ci' 1)) 15 1,mv' 15 3 3]
def ycqv:LO:=[o3 (.bin .add (.tmp 8) (ci' 1)) 16 0,mv' 16 8 1]
def ycgw:LO:=[mv' 3 17 0,mv' 17 2 1]
def c266:SC:=(.seq (.reg false ycig) (.seq (.reg false yckj) (.seq (.seq (.reg false yccx) (.block 0 (.loop (.seq (.reg false ycgx) (.seq (.cond (.tmp 9) .skip (.exit 0)) (.seq (.block 1 (.seq (.reg false ycqc) (.seq (.reg false ycnd) (.cond (.tmp 13) (.reg false ycqq) .skip)))) (.reg false ycqv))))))) (.seq (.reg false ycgw) .ret))))
theorem ycsl:Fn 266 c266 [.t 2]:=fn_0 Tryz.func266 (by kernel_rfl) (by kernel_rfl)
def ycdq:LO:=[o3 (.mv (ci' 0)) 2 0,o3 (.mv (ci' 0)) 3 1]
def ycng:LO:=[o3 (.mv (.const (.int .i64 (-1073741824)))) 2 0,o3 (.mv (.const (.int .i64 (-1073741824)))) 3 1]
def ycdm:LO:=[mv' 0 6 0,ln' 6 7 1,o3 (.mv (ci' 0)) 8 0]
def ycpy:LO:=[bn' .lss 8 7 9 0]
def ycjd:LO:=[ix' 1 6 8 10 0,ld' false 1 10 11 1,mv' 11 5 3]
def ycos:LO:=[mv' 5 12 0,mv' 2 13 0,bn' .gtr 12 13 14 3]
def ychy:LO:=[mv' 5 15 0,mv' 2 16 0,mv' 15 2 3,mv' 16 3 7]
def ycpi:LO:=[mv' 3 17 0,mv' 5 18 0,o3 (.mm true (.tmp 17) (.tmp 18)) 19 3,mv' 19 3 7]
def ycca:LO:=[o3 (.bin .add (.tmp 8) (ci' 1)) 20 0,mv' 20 8 1]
def ycja:LO:=[mv' 2 21 0,mv' 3 22 0,mv' 21 2 1,mv' 22 3 7]
def c269:SC:=(.seq (.reg false ycdq) (.seq (.reg false ycng) (.seq (.seq (.reg false ycdm) (.block 0 (.loop (.seq (.reg false ycpy) (.seq (.cond (.tmp 9) .skip (.exit 0)) (.seq (.block 1 (.seq (.reg false ycjd) (.seq (.reg false ycos) (.cond (.tmp 14) (.reg false ychy) (.reg false ycpi))))) (.reg false ycca))))))) (.seq (.reg false ycja) .ret))))
theorem ycyt:Fn 269 c269 [.t 2,.t 3]:=fn_0 Tryz.func269 (by kernel_rfl) (by kernel_rfl)
def ycox:LO:=[o3 (.mv (ci' 0)) 2 0]
def ycru:LO:=[o3 (.mv (ci' 0)) 3 0]
def ychj:LO:=[mv' 0 4 0,mv' 3 5 0,cl' 274 [4,5] 6 3]
def yccr:LO:=[mv' 3 7 0,o3 (.bin .add (.tmp 7) (ci' 1)) 8 1,mv' 8 3 3]
def yccb:LO:=[mv' 3 9 0,mv' 9 2 1]
def c270:SC:=(.seq (.reg false ycox) (.seq (.reg false ycru) (.seq (.block 0 (.loop (.seq (.seq (.reg false ychj) (.cond (.tmp 6) .skip (.exit 0))) (.block 1 (.reg false yccr))))) (.seq (.reg false yccb) .ret))))
theorem yctf:Fn 270 c270 [.t 2]:=fn_0 Tryz.func270 (by kernel_rfl) (by kernel_rfl)
def ychu:LO:=[o3 (.box 58 (.tmp 0)) 2 0,o3 (.box 27 (.tmp 1)) 3 0,o3 (.mv (.const (.pointer none))) 4 0]
def ycsd:LO:=[ld' true 3 2 10 0,ld' true 2 3 11 0,fa' 1 1 3 12 0,ld' false 1 12 13 4,ln' 13 14 12,o3 (.mk 22 1 24 [.a (.slice none 0 0)] (.tmp 14) (.tmp 14)) 15 28,o3 (.build [.a (.string (ByteArray.mk #[])),.a (.slice none 0 0),.a (.slice none 0 0),.a (.slice none 0 0),.a (.slice none 0 0),.i .i64 0,.a (.slice none 0 0)] [(0,3,(.tmp 10)),(3,2,(.tmp 11)),(6,1,(.tmp 15))]) 16 63,o3 (.box 170 (.tmp 16)) 17 127,mv' 17 5 255]
def yckl:LO:=[fa' 1 1 3 18 0,ld' false 1 18 19 1,ln' 19 20 3,o3 (.mv (ci' 0)) 21 0]
def ycpc:LO:=[bn' .lss 21 20 22 0]
def ycmj:LO:=[mv' 21 23 0,ix' 1 19 21 24 0,ld' false 1 24 25 2,mv' 23 6 7,mv' 25 7 15]
def yckr:LO:=[mv' 5 26 0,mv' 5 27 0,o3 (.nilck (.tmp 27)) 28 2,fa' 5 1 28 29 6,ld' false 1 29 30 14,fa' 0 1 3 31 0,ld' false 1 31 32 32,mv' 6 33 0,ix' 1 32 33 34 224,ld' false 1 34 35 480,o3 (.mm true (.tmp 30) (.tmp 35)) 36 1022,o3 (.nilck (.tmp 26)) 37 2047,fa' 5 1 37 38 4095,o0 (.store 1 (.tmp 38) (.tmp 36)) 8191]
def ycol:LO:=[mv' 7 39 0,ln' 39 40 1,o3 (.mv (ci' 0)) 41 0]
def ycph:LO:=[bn' .lss 41 40 42 0]
def ycir:LO:=[ix' 2 39 41 43 0,ld' true 2 43 44 1,o3 (.alloc 95 1 [.i .i64 0,.i .i64 0]) 9 0,o0 (.store 2 (.tmp 9) (.tmp 44)) 7]
def ycib:LO:=[mv' 5 45 0,o3 (.nilck (.tmp 45)) 46 1,fa' 6 1 46 47 3,ld' false 1 47 48 7,mv' 6 49 0,mv' 5 50 0,o3 (.nilck (.tmp 50)) 51 32,fa' 6 1 51 52 96,ld' false 1 52 53 224,mv' 6 54 0,ix' 1 53 54 55 992,ld' false 1 55 56 2016,ld' true 2 3 57 0,fa' 0 1 9 58 0,ld' false 1 58 59 8192,mv' 6 60 0,cl' 170 [57,59,60] 61 61440,o3 (.bslice 3 1 1 [.i .i64 0] [(0,1,(.tmp 61))]) 62 126976,o3 (.app 3 1 8 (.tmp 56) (.tmp 62)) 63 262112,ix' 1 48 49 64 524287,o0 (.store 1 (.tmp 64) (.tmp 63)) 1048575]
def ybot:LO:=[o3 (.bin .add (.tmp 41) (ci' 1)) 65 0,mv' 65 41 1]
def ybuf:LO:=[o3 (.bin .add (.tmp 21) (ci' 1)) 66 0,mv' 66 21 1]
def ybrd:LO:=[mv' 5 67 0,mv' 67 4 1]
def c143:SC:=(.seq (.reg false ychu) (.seq (.reg true ycsd) (.seq (.seq (.reg false yckl) (.block 0 (.loop (.seq (.reg false ycpc) (.seq (.cond (.tmp 22) .skip (.exit 0)) (.seq (.block 1 (.seq (.reg false ycmj) (.seq (.reg true yckr) (.seq (.reg false ycol) (.block 2 (.loop (.seq (.reg false ycph) (.seq (.cond (.tmp 42) .skip (.exit 2)) (.seq (.block 3 (.seq (.reg false ycir) (.reg true ycib))) (.reg false ybot)))))))))) (.reg false ybuf))))))) (.seq (.reg false ybrd) .ret))))
theorem ycvs:Fn 143 c143 [.t 4]:=fn_0 Tryz.func143 (by kernel_rfl) (by kernel_rfl)
def yciv:LO:=[o3 (.mv (ci' 0)) 8 0]
def ycpe:LO:=[mv' 1 10 0]
def ycjf:LO:=[o3 (.bin .eql (.tmp 10) (ci' 6)) 12 0,mv' 12 11 1]
def ycdh:LO:=[mv' 0 13 0,o3 (.nilck (.tmp 13)) 14 1,fa' 3 2 14 15 3,fa' 0 1 15 16 7,ld' false 1 16 17 15,ln' 17 18 31,mv' 18 8 63]
def ycsa:LO:=[o3 (.bin .eql (.tmp 10) (ci' 7)) 20 0,mv' 20 19 1]
def yckb:LO:=[mv' 0 21 0,o3 (.nilck (.tmp 21)) 22 1,fa' 5 1 22 23 3,ld' false 1 23 24 7,mv' 24 8 15]
def ycrr:LO:=[o3 (.bin .eql (.tmp 10) (ci' 8)) 26 0,mv' 26 25 1]
def ycej:LO:=[mv' 0 27 0,o3 (.nilck (.tmp 27)) 28 1,fa' 3 2 28 29 3,fa' 0 1 29 30 7,ld' false 1 30 31 15,mv' 2 32 0,ix' 1 31 32 33 63,ld' false 1 33 34 127,mv' 34 8 255]
def yclc:LO:=[o3 (.bin .eql (.tmp 10) (ci' 9)) 36 0,mv' 36 35 1]
def yclk:LO:=[mv' 0 37 0,o3 (.nilck (.tmp 37)) 38 1,fa' 3 2 38 39 3,fa' 1 1 39 40 7,ld' false 1 40 41 15,mv' 2 42 0,ix' 1 41 42 43 63,ld' false 1 43 44 127,ln' 44 45 255,mv' 45 8 511]
def ybtm:LO:=[o3 (.bin .eql (.tmp 10) (ci' 10)) 47 0,mv' 47 46 1]
def ybvm:LO:=[mv' 2 48 0,o3 (.bin .eql (.tmp 48) (ci' 0)) 49 1,cl' 256 [49] 50 3,mv' 50 8 7]
def ybqt:LO:=[o3 (.bin .eql (.tmp 10) (ci' 11)) 52 0,mv' 52 51 1]
def ybmf:LO:=[mv' 3 53 0,mv' 53 8 1]
def ybsv:LO:=[mv' 0 54 0,o3 (.nilck (.tmp 54)) 55 1,fa' 3 2 55 56 3,fa' 1 1 56 57 7,ld' false 1 57 58 15,mv' 2 59 0,ix' 1 58 59 60 63,ld' false 1 60 61 127,mv' 3 62 0,ix' 2 61 62 63 511,ld' true 2 63 64 1023,o3 (.alloc 95 1 [.i .i64 0,.i .i64 0]) 9 0,o0 (.store 2 (.tmp 9) (.tmp 64)) 4095]
def ybtz:LO:=[mv' 1 65 0]
def ybrf:LO:=[o3 (.bin .eql (.tmp 65) (ci' 13)) 67 0,mv' 67 66 1]
def ybvn:LO:=[mv' 0 68 0,o3 (.nilck (.tmp 68)) 69 1,fa' 3 2 69 70 3,fa' 0 1 70 71 7,ld' false 1 71 72 15,fa' 0 1 9 73 0,ld' false 1 73 74 32,ix' 1 72 74 75 127,ld' false 1 75 76 255,mv' 76 8 511]
def ybuz:LO:=[o3 (.bin .eql (.tmp 65) (ci' 14)) 78 0,mv' 78 77 1]
def ybuv:LO:=[mv' 0 79 0,o3 (.nilck (.tmp 79)) 80 1,fa' 3 2 80 81 3,fa' 1 1 81 82 7,ld' false 1 82 83 15,fa' 0 1 9 84 0,ld' false 1 84 85 32,ix' 1 83 85 86 127,ld' false 1 86 87 255,ln' 87 88 511,mv' 88 8 1023]
def ybqb:LO:=[o3 (.bin .eql (.tmp 65) (ci' 15)) 90 0,mv' 90 89 1]
def yblt:LO:=[fa' 0 1 9 91 0,ld' false 1 91 92 1,o3 (.bin .eql (.tmp 92) (ci' 0)) 93 3,cl' 256 [93] 94 7,mv' 94 8 15]
def yblo:LO:=[o3 (.bin .eql (.tmp 65) (ci' 16)) 96 0,mv' 96 95 1]
def ybuy:LO:=[fa' 1 1 9 97 0,ld' false 1 97 98 1,mv' 98 8 3]
def ybmz:LO:=[mv' 0 99 0,o3 (.nilck (.tmp 99)) 100 1,fa' 6 1 100 101 3,ld' false 1 101 102 7,mv' 2 103 0,ix' 1 102 103 104 31,ld' false 1 104 105 63,mv' 3 106 0,ix' 1 105 106 107 255,ld' false 1 107 108 511,mv' 108 8 1023]
def c255:SC:=(.seq (.reg false yciv) (.seq (.seq (.reg false ycpe) (.block 0 (.seq (.reg false ycjf) (.cond (.tmp 11) (.seq (.reg false ycdh) .ret) (.seq (.reg false ycsa) (.cond (.tmp 19) (.seq (.reg false yckb) .ret) (.seq (.reg false ycrr) (.cond (.tmp 25) (.seq (.reg false ycej) .ret) (.seq (.reg false yclc) (.cond (.tmp 35) (.seq (.reg false yclk) .ret) (.seq (.reg false ybtm) (.cond (.tmp 46) (.seq (.reg false ybvm) .ret) (.seq (.reg false ybqt) (.cond (.tmp 51) (.seq (.reg false ybmf) .ret) .skip)))))))))))))) (.seq (.reg false ybsv) (.seq (.seq (.reg false ybtz) (.block 1 (.seq (.reg false ybrf) (.cond (.tmp 66) (.seq (.reg true ybvn) .ret) (.seq (.reg false ybuz) (.cond (.tmp 77) (.seq (.reg true ybuv) .ret) (.seq (.reg false ybqb) (.cond (.tmp 89) (.seq (.reg false yblt) .ret) (.seq (.reg false yblo) (.cond (.tmp 95) (.seq (.reg false ybuy) .ret) .skip)))))))))) (.seq (.reg false ybmz) .ret)))))
theorem yctg:Fn 255 c255 [.t 8]:=fn_0 Tryz.func255 (by kernel_rfl) (by kernel_rfl)
def ycjh:LO:=[o3 (.mv (ci' 0)) 8 0]
def ycln:LO:=[mv' 0 12 0,mv' 1 13 0,mv' 2 14 0,mv' 3 15 0,o3 (.build [.a (.pointer none),.a (.slice none 0 0),.i .i64 0,.a (.slice none 0 0)] [(0,1,(.tmp 12)),(1,1,(.tmp 13)),(2,1,(.tmp 14)),(3,1,(.tmp 15))]) 16 15,o3 (.alloc 228 1 [.a (.pointer none),.a (.slice none 0 0),.i .i64 0,.a (.slice none 0 0)]) 9 0,o0 (.store 4 (.tmp 9) (.tmp 16)) 63]
def ycih:LO:=[o3 (.call (.func 220) [(.tmp 9),(ci' 0),(.const (.int .i64 (-1)))]) 18 0,mv' 18 17 1,xt' 17 0 19 3,xt' 17 1 20 3,mv' 19 10 7,mv' 20 11 31]
def yciz:LO:=[mv' 10 21 0,mv' 21 8 1]
def c193:SC:=(.seq (.reg false ycjh) (.seq (.reg false ycln) (.seq (.reg false ycih) (.seq (.reg false yciz) .ret))))
theorem ycul:Fn 193 c193 [.t 8]:=fn_0 Tryz.func193 (by kernel_rfl) (by kernel_rfl)
def yclq:LO:=[o3 (.mv (.const (.bool false))) 8 0]
def ychr:LO:=[mv' 0 9 0,mv' 1 10 0,mv' 2 11 0,mv' 0 12 0,o3 (.nilck (.tmp 12)) 13 8,fa' 0 3 13 14 24,fa' 2 1 14 15 56,ld' false 1 15 16 120,mv' 3 17 0,ix' 3 16 17 18 504,fa' 1 1 18 19 1016,ld' false 1 19 20 2040,cl' 193 [9,10,11,20] 21 4095,o3 (.bin .neq (.tmp 21) (ci' 0)) 22 8191,mv' 22 8 16383]
def c172:SC:=(.seq (.reg false yclq) (.seq (.reg false ychr) .ret))
theorem ycvv:Fn 172 c172 [.t 8]:=fn_0 Tryz.func172 (by kernel_rfl) (by kernel_rfl)
def ysy:LO:=[o3 (.mv (ci' 0)) 6 0,o3 (.mv (ci' 0)) 7 1]
def yud:LO:=[mv' 0 18 0,o3 (.nilck (.tmp 18)) 19 1,fa' 3 1 19 20 3,ld' false 1 20 21 7,mv' 1 22 0,ix' 2 21 22 23 31,ld' true 2 23 24 63,o3 (.alloc 240 1 [.i .i64 0,.i .i64 0]) 8 0,o0 (.store 2 (.tmp 8) (.tmp 24)) 255]
def ysp:LO:=[fa' 0 1 8 26 0,ld' false 1 26 27 1,o3 (.bin .leq (.tmp 27) (ci' 17)) 28 3,mv' 28 25 7]
def ysx:LO:=[mv' 0 29 0,ld' true 2 8 30 0,mv' 2 31 0,cl' 236 [29,30,31] 32 7,mv' 1 33 0,o3 (.bin .add (.tmp 33) (ci' 1)) 34 16,mv' 32 6 15,mv' 34 7 127]
def ytw:LO:=[fa' 0 1 8 36 0,ld' false 1 36 37 1,o3 (.bin .leq (.tmp 37) (ci' 19)) 38 3,mv' 38 35 7]
def ytm:LO:=[mv' 0 40 0,mv' 1 41 0,o3 (.bin .add (.tmp 41) (ci' 1)) 42 2,mv' 2 43 0,cl' 220 [40,42,43] 44 15,mv' 44 39 31,xt' 39 0 45 63,xt' 39 1 46 63,mv' 45 6 127,mv' 46 7 511]
def yty:LO:=[fa' 0 1 8 47 0,ld' false 1 47 48 1,mv' 6 49 0,cl' 237 [48,49] 50 7,mv' 7 51 0,mv' 50 6 15,mv' 51 7 63]
def ysu:LO:=[fa' 0 1 8 53 0,ld' false 1 53 54 1,o3 (.bin .leq (.tmp 54) (ci' 29)) 55 3,mv' 55 52 7]
def ysw:LO:=[mv' 0 56 0,fa' 0 1 8 57 0,ld' false 1 57 58 2,mv' 1 59 0,cl' 238 [56,58,59] 60 15,xt' 60 0 61 31,xt' 60 1 62 31,mv' 61 6 127,mv' 62 7 255]
def yuk:LO:=[fa' 0 1 8 64 0,ld' false 1 64 65 1,o3 (.bin .leq (.tmp 65) (ci' 42)) 66 3,mv' 66 63 7]
def ymn:LO:=[mv' 0 68 0,mv' 1 69 0,o3 (.bin .add (.tmp 69) (ci' 1)) 70 2,mv' 2 71 0,cl' 220 [68,70,71] 72 15,mv' 72 67 31,xt' 67 0 73 63,xt' 67 1 74 63,mv' 73 9 127,mv' 74 10 511]
def ymk:LO:=[mv' 0 76 0,mv' 10 77 0,mv' 2 78 0,cl' 220 [76,77,78] 79 7,mv' 79 75 15,xt' 75 0 80 31,xt' 75 1 81 31,mv' 80 11 63,mv' 81 12 255]
def ymt:LO:=[fa' 0 1 8 82 0,ld' false 1 82 83 1,mv' 9 84 0,mv' 11 85 0,cl' 239 [83,84,85] 86 15,mv' 12 87 0,mv' 86 6 31,mv' 87 7 127]
def ylj:LO:=[mv' 0 89 0,mv' 1 90 0,o3 (.bin .add (.tmp 90) (ci' 1)) 91 2,mv' 2 92 0,cl' 220 [89,91,92] 93 15,mv' 93 88 31,xt' 88 0 94 63,xt' 88 1 95 63,mv' 94 13 127,mv' 95 14 511]
def ymw:LO:=[mv' 0 97 0,mv' 14 98 0,mv' 2 99 0,cl' 220 [97,98,99] 100 7,mv' 100 96 15,xt' 96 0 101 31,xt' 96 1 102 31,mv' 101 15 63,mv' 102 16 255]
def ymx:LO:=[mv' 0 104 0,mv' 16 105 0,mv' 2 106 0,cl' 220 [104,105,106] 107 7,mv' 107 103 15,xt' 103 0 108 31,xt' 103 1 109 31,mv' 108 17 63,mv' 109 7 255]
def ymy:LO:=[mv' 13 110 0,o3 (.bin .neq (.tmp 110) (ci' 0)) 111 1]
def ymh:LO:=[mv' 15 112 0,mv' 7 113 0,mv' 112 6 1,mv' 113 7 7]
def yll:LO:=[mv' 17 114 0,mv' 7 115 0,mv' 114 6 1,mv' 115 7 7]
def c220:SC:=(.seq (.reg false ysy) (.seq (.reg false yud) (.seq (.block 0 (.seq (.reg false ysp) (.cond (.tmp 25) (.seq (.reg false ysx) .ret) (.seq (.reg false ytw) (.cond (.tmp 35) (.seq (.reg false ytm) (.seq (.reg false yty) .ret)) (.seq (.reg false ysu) (.cond (.tmp 52) (.seq (.reg false ysw) .ret) (.seq (.reg false yuk) (.cond (.tmp 63) (.seq (.reg false ymn) (.seq (.reg false ymk) (.seq (.reg false ymt) .ret))) .skip))))))))) (.seq (.reg false ylj) (.seq (.reg false ymw) (.seq (.reg false ymx) (.seq (.seq (.reg false ymy) (.cond (.tmp 111) (.seq (.reg false ymh) .ret) .skip)) (.seq (.reg false yll) .ret))))))))
theorem yrt:Fn 220 c220 [.t 6,.t 7]:=fn_0 Tryz.func220 (by kernel_rfl) (by kernel_rfl)
def ycjt:LO:=[o3 (.box 240 (.tmp 1)) 4 0,o3 (.mv (ci' 0)) 6 0]
def ycmg:LO:=[fa' 0 1 4 7 0,ld' false 1 7 8 1]
def ycek:LO:=[o3 (.bin .eql (.tmp 8) (ci' 1)) 10 0,mv' 10 9 1]
def ycgb:LO:=[fa' 1 1 4 11 0,ld' false 1 11 12 1,mv' 12 6 3]
def ycoq:LO:=[o3 (.bin .eql (.tmp 8) (ci' 2)) 14 0,mv' 14 13 1]
def ychw:LO:=[o3 (.mv (ci' 1)) 6 0]
def ychb:LO:=[o3 (.bin .eql (.tmp 8) (ci' 3)) 16 0,mv' 16 15 1]
def ycdb:LO:=[o3 (.mv (ci' 0)) 6 0]
def ycdl:LO:=[o3 (.bin .eql (.tmp 8) (ci' 4)) 18 0,mv' 18 17 1]
def yclw:LO:=[o3 (.mv (.const (.int .i64 (-1)))) 6 0]
def ybvc:LO:=[o3 (.bin .eql (.tmp 8) (ci' 5)) 20 0,mv' 20 19 1]
def ybue:LO:=[mv' 0 21 0,o3 (.nilck (.tmp 21)) 22 1,fa' 1 1 22 23 3,ld' false 1 23 24 7,mv' 0 25 0,o3 (.nilck (.tmp 25)) 26 16,fa' 2 1 26 27 48,ld' false 1 27 28 112,ix' 1 24 28 29 255,ld' false 1 29 30 511,fa' 1 1 4 31 0,ld' false 1 31 32 1024,ix' 1 30 32 33 4095,ld' false 1 33 34 8191,mv' 34 6 16383]
def ybme:LO:=[o3 (.bin .eql (.tmp 8) (ci' 12)) 36 0,mv' 36 35 1]
def ybro:LO:=[mv' 0 37 0,o3 (.nilck (.tmp 37)) 38 1,fa' 1 1 38 39 3,ld' false 1 39 40 7,mv' 0 41 0,o3 (.nilck (.tmp 41)) 42 16,fa' 0 1 42 43 48,ld' false 1 43 44 112,o3 (.nilck (.tmp 44)) 45 240,fa' 3 2 45 46 496,fa' 1 1 46 47 1008,ld' false 1 47 48 2032,mv' 0 49 0,o3 (.nilck (.tmp 49)) 50 4096,fa' 2 1 50 51 12288,ld' false 1 51 52 28672,ix' 1 48 52 53 65520,ld' false 1 53 54 131056,mv' 2 55 0,ix' 2 54 55 56 524272,fa' 0 1 56 57 1048560,ld' false 1 57 58 2097136,ix' 1 40 58 59 4194303,ld' false 1 59 60 8388607,fa' 1 1 4 61 0,ld' false 1 61 62 16777216,ix' 1 60 62 63 67108863,ld' false 1 63 64 134217727,mv' 64 6 268435455]
def ybsq:LO:=[mv' 0 65 0,o3 (.nilck (.tmp 65)) 66 1,fa' 0 1 66 67 3,ld' false 1 67 68 7,fa' 0 1 4 69 0,ld' false 1 69 70 16,mv' 0 71 0,o3 (.nilck (.tmp 71)) 72 64,fa' 2 1 72 73 192,ld' false 1 73 74 448,mv' 2 75 0,cl' 255 [68,70,74,75] 76 2047,mv' 76 6 4095]
def c236:SC:=(.seq (.reg false ycjt) (.seq (.seq (.reg false ycmg) (.block 0 (.seq (.reg false ycek) (.cond (.tmp 9) (.seq (.reg false ycgb) .ret) (.seq (.reg false ycoq) (.cond (.tmp 13) (.seq (.reg false ychw) .ret) (.seq (.reg false ychb) (.cond (.tmp 15) (.seq (.reg false ycdb) .ret) (.seq (.reg false ycdl) (.cond (.tmp 17) (.seq (.reg false yclw) .ret) (.seq (.reg false ybvc) (.cond (.tmp 19) (.seq (.reg true ybue) .ret) (.seq (.reg false ybme) (.cond (.tmp 35) (.seq (.reg true ybro) .ret) .skip)))))))))))))) (.seq (.reg true ybsq) .ret)))
theorem ycyr:Fn 236 c236 [.t 6]:=fn_0 Tryz.func236 (by kernel_rfl) (by kernel_rfl)
def ycdn:LO:=[o3 (.mv (ci' 0)) 6 0,o3 (.mv (ci' 0)) 7 1]
def ycro:LO:=[o3 (.alloc 256 24 [.i .i64 0]) 8 0]
def ycld:LO:=[mv' 0 11 0,o3 (.nilck (.tmp 11)) 12 1,fa' 0 1 12 13 3,ld' false 1 13 14 7,o3 (.nilck (.tmp 14)) 15 15,fa' 3 2 15 16 31,fa' 1 1 16 17 63,ld' false 1 17 18 127,mv' 0 19 0,o3 (.nilck (.tmp 19)) 20 256,fa' 2 1 20 21 768,ld' false 1 21 22 1792,ix' 1 18 22 23 4095,ld' false 1 23 24 8191,ln' 24 25 16383,mv' 25 9 32767]
def ycij:LO:=[mv' 9 26 0,o3 (.mv (ci' 0)) 27 0]
def ycnb:LO:=[bn' .lss 27 26 28 0]
def ycqs:LO:=[mv' 27 29 0,mv' 29 10 1]
def ycki:LO:=[mv' 10 31 0,mv' 0 32 0,mv' 2 33 0,o3 (.bin .add (.tmp 33) (ci' 1)) 34 4,mv' 10 35 0,cl' 220 [32,34,35] 36 30,mv' 36 30 62,xt' 30 0 37 126,xt' 30 1 38 126,o3 (.idxA 24 1 (.tmp 8) (.tmp 31)) 39 255,o0 (.store 1 (.tmp 39) (.tmp 37)) 767,mv' 38 7 2047]
def ycie:LO:=[o3 (.bin .add (.tmp 27) (ci' 1)) 40 0,mv' 40 27 1]
def ycly:LO:=[mv' 9 41 0,o3 (.bin .eql (.tmp 41) (ci' 0)) 42 1]
def ycgj:LO:=[mv' 0 43 0,o3 (.nilck (.tmp 43)) 44 1,fa' 3 1 44 45 3,ld' false 1 45 46 7,mv' 2 47 0,cl' 231 [46,47] 48 31,mv' 48 7 63]
def ybvz:LO:=[mv' 1 49 0,mv' 9 50 0,o3 (.cutA 24 1 (.tmp 8) none (some (.tmp 50))) 51 2,cl' 257 [49,51] 52 7,mv' 7 53 0,mv' 52 6 15,mv' 53 7 63]
def c238:SC:=(.seq (.reg false ycdn) (.seq (.reg false ycro) (.seq (.reg true ycld) (.seq (.seq (.reg false ycij) (.block 0 (.loop (.seq (.reg false ycnb) (.seq (.cond (.tmp 28) .skip (.exit 0)) (.seq (.block 1 (.seq (.reg false ycqs) (.reg false ycki))) (.reg false ycie))))))) (.seq (.seq (.reg false ycly) (.cond (.tmp 42) (.reg false ycgj) .skip)) (.seq (.reg false ybvz) .ret))))))
theorem ycum:Fn 238 c238 [.t 6,.t 7]:=fn_0 Tryz.func238 (by kernel_rfl) (by kernel_rfl)
end Sh
end Go.Proofs.YtiejahgklcjhkaaGreatDoor

namespace Go.Proofs.YtiejahgklcjhkaaGreatDoor

def adj(g:Gr)(u v:Nat):Prop:=∃ ls,g.ports[u]? = some ls /\ ∃ l ∈ ls,l.1=(v:Int)
def Walk(g:Gr)(a:Nat):Nat->Nat->Prop
 | 0,v=>v=a
 | k+1,v=>∃ u,Walk g a k u/\adj g u v
def ycsg(g:Gr)(a v:Nat)(x:Int):Prop:=(x = -1 /\ ∀ k,¬ Walk g a k v) \/ ∃ k:Nat,x=k/\Walk g a k v /\ ∀ j,j<k -> ¬ Walk g a j v
def yddb(g:Gr)(a:Nat)(D:List Int):Prop:=D.length=g.ports.length /\ ∀ v x,D[v]? = some x->ycsg g a v x

theorem GoodG.link{g:Gr}(h:GoodG g){v:Nat}{ls:List (Int × Int)}(hv:g.ports[v]? = some ls){l:Int × Int}(hl:l ∈ ls):0<=l.1/\l.1<g.ports.length/\l.1 ≠ v/\1<=l.2/\l.2<=15:=by
 obtain⟨hlt,e⟩:=List.getElem?_eq_some_iff.1 hv;have:=(h.2.2.2.2.2.1 ⟨v,hlt⟩).1 l (by simp only[Fin.getElem_fin,e];exact hl)
 unfold yfz at this;simp only at this;omega
theorem GoodG.adj_lt{g:Gr}(h:GoodG g){u v:Nat}(ha:adj g u v):u<g.ports.length/\v<g.ports.length:=by
 obtain⟨ls,h1,l,hl,e⟩:=ha;have:=h.link h1 hl;exact⟨(List.getElem?_eq_some_iff.1 h1).1,by omega⟩
theorem GoodG.adj_symm{g:Gr}(h:GoodG g){u v:Nat}(ha:adj g u v):adj g v u:=by
 obtain⟨hu,hv⟩:=h.adj_lt ha;obtain⟨ls,h1,l,hl,e⟩:=ha;obtain⟨hlt,e1⟩:=List.getElem?_eq_some_iff.1 h1;have:=h.2.2.2.2.2.2 ⟨u,hlt⟩ l (by simp only[Fin.getElem_fin,e1];exact hl)
 rw[e,Int.toNat_natCast]at this;simp only[List.getD,List.getElem?_eq_getElem hv,Option.getD_some]at this;exact⟨_,List.getElem?_eq_getElem hv,_,this,rfl⟩

structure BfsInv(g:Gr)(a:Nat)(R:List Int)(Q:List Nat):Prop where
 len:R.length=g.ports.length
 src:R[a]? = some 0
 val:∀ (v:Nat) (x:Int),R[v]? = some x->x = -1 \/ ∃ k:Nat,x=k/\Walk g a k v /\ ∀ j,j<k -> ¬ Walk g a j v
 qin:∀ q ∈ Q,∃ k:Nat,R[q]? = some (k:Int)
 sorted:Q.Pairwise (fun p q=>∀ x y,R[p]? = some x->R[q]? = some y->x<=y/\y<=x+1)
 done:∀ (v k:Nat),R[v]? = some (k:Int)->v ∉ Q -> ∀ u,adj g v u -> ∃ j:Nat,R[u]? = some (j:Int)

structure BfsIn(g:Gr)(a v d:Nat)(ls:List (Int × Int))(i:Nat)(R:List Int)(Q:List Nat):Prop where
 len:R.length=g.ports.length
 src:R[a]? = some 0
 val:∀ (v:Nat) (x:Int),R[v]? = some x->x = -1 \/ ∃ k:Nat,x=k/\Walk g a k v /\ ∀ j,j<k -> ¬ Walk g a j v
 qin:∀ q ∈ Q,∃ k:Nat,R[q]? = some (k:Int)
 sorted:Q.Pairwise (fun p q=>∀ x y,R[p]? = some x->R[q]? = some y->x<=y/\y<=x+1)
 rv:R[v]? = some (d:Int)
 low:∀ q ∈ Q,∀ y,R[q]? = some y->(d:Int)<=y/\y<=d+1
 done:∀ (u k:Nat),R[u]? = some (k:Int)->u ∉ Q->u ≠ v -> ∀ t,adj g u t -> ∃ j:Nat,R[t]? = some (j:Int)
 part:∀ l ∈ ls.take i,∃ j:Nat,R[l.1.toNat]? = some (j:Int)

theorem BfsInv.start{g:Gr}{a:Nat}(ha:a<g.ports.length):BfsInv g a ((List.replicate g.ports.length (-1)).set a 0) [a] where
 len:=by simp
 src:=by simp[ha]
 val:=by
  intro v x h;rw[List.getElem?_set]at h;split at h
  ·rename_i e
   subst e;simp[ha]at h;subst h;exact .inr ⟨0,rfl,rfl,fun j hj=>absurd hj (by omega)⟩
  ·rw[List.getElem?_replicate]at h;split at h
   ·cases h;exact .inl rfl
   ·cases h
 qin:=by
  intro q hq;obtain rfl:q=a:=by simpa using hq
  exact⟨0,by simp[ha]⟩
 sorted:=by simp
 done:=by
  intro v k h hv u _;rw[List.getElem?_set]at h;split at h
  ·rename_i e
   exact absurd (by simp[e]) hv
  ·rw[List.getElem?_replicate]at h;split at h
   ·cases h
   ·cases h

theorem BfsIn.finish{g:Gr}{a v d:Nat}{ls:List (Int × Int)}{R:List Int}{Q:List Nat}(h:BfsIn g a v d ls ls.length R Q)(hls:g.ports[v]? = some ls):BfsInv g a R Q where
 len:=h.len
 src:=h.src
 val:=h.val
 qin:=h.qin
 sorted:=h.sorted
 done:=by
  intro u k hu hq t ht
  by_cases e:u=v
  ·subst e;obtain⟨ls',h1,l,hl,e2⟩:=ht;rw[hls]at h1;cases h1
   have:=h.part l (by rw[List.take_length];exact hl)
   rwa [e2,Int.toNat_natCast]at this
  ·exact h.done u k hu hq e t ht

theorem BfsIn.skip{g:Gr}{a v d:Nat}{ls:List (Int × Int)}{i:Nat}{R:List Int}{Q:List Nat}(h:BfsIn g a v d ls i R Q)(hi:i<ls.length){j:Nat}(hj:R[ls[i].1.toNat]? = some (j:Int)):BfsIn g a v d ls (i+1) R Q :=
 ⟨h.len,h.src,h.val,h.qin,h.sorted,h.rv,h.low,h.done,by
   intro l hl;rw[take_snoc ls i hi]at hl;rcases List.mem_append.1 hl with hl | hl
   ·exact h.part l hl
   ·obtain rfl:l=ls[i]:=by simpa using hl
    exact⟨j,hj⟩⟩

theorem BfsIn.found{g:Gr}{a v d:Nat}{ls:List (Int × Int)}{i:Nat}{R:List Int}{Q:List Nat}(h:BfsIn g a v d ls i R Q) :
  ∀ k,k<=d -> ∀ t,Walk g a k t -> ∃ j:Nat,R[t]? = some (j:Int):=by
 intro k
 induction k with
 | zero=>intro _ t ht;obtain rfl:t=a:=ht;exact⟨0,h.src⟩
 | succ k ih =>
  intro hk t ⟨p,hp,hpt⟩;obtain⟨j,hj⟩:=ih (by omega) p hp
  have hjk:j<=k:=by
   rcases h.val p _ hj with e | ⟨k',e,_,hmin⟩
   ·omega
   ·have:j=k':=by omega
    subst this;rcases Nat.lt_or_ge k j with hlt | hge
    ·exact absurd hp (hmin k hlt)
    ·exact hge
  refine h.done p j hj ?_ ?_ t hpt
  ·intro hq;have:=(h.low p hq _ hj).1;omega
  ·rintro rfl;have e1:=h.rv;rw[hj]at e1;have e2:=Option.some.inj e1;omega

end Go.Proofs.YtiejahgklcjhkaaGreatDoor

