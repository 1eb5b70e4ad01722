/- Joined. -/
import Derived.Test.YthclbjjgfcgbgaaGreatDoorPkCm7
import Derived.Test.YthclbjjgfcgbgaaGreatDoorPkCm8
set_option linter.unusedSimpArgs false
set_option linter.unusedVariables false
set_option maxRecDepth 8000
open Go.Proofs.Tryz renaming prog->zA
open List renaming getElem?_eq_getElem->zB,getD_eq_getElem?_getD->zF,getD->zG,range->zH,getElem?_set->zJ,foldl_append->zK,take_succ_eq_append_getElem->zL,mem_of_getElem?->zM,mem_zipIdx_iff_getElem?->zN,mem_cons_self->zO,getElem?_zip_eq_some->zT,all_eq_true->zU,getElem_mem->zV,mem_cons_of_mem->zW,length_nil->zY,range_succ->zZ,length->zAA
open Bool renaming and_eq_true->zC,false_eq_true->zX
open Nat renaming reduceEqDiff->zD,le_refl->zI,reduceAdd->zQ
open Int renaming toNat_natCast->zS
open Go
namespace Go.Proofs.YthclbjjgfcgbgaaGreatDoor
section
namespace Sh
open Go Ev
theorem ydnm {g:FuncId}{fn:Func}{sc:SC}{rs:List SR}(hg:Tryz.prog.funcs[g]?=some fn) (hcmp:fn.body.bind (cmp zA fn.ntmps)=some sc) (hrs:cmpR zA fn.results.toList=some rs)
 {mu:List FuncId}{args:List SV}{Q:SV->Prop}(h:vc ⟨Ct zA,Cm zA,ItC zA,[],mu⟩ sc (retK rs Q) ⟨slots args 0,[]⟩):Ct zA g args Q:=by
 obtain⟨c,h1,h2⟩:=bind_some hcmp;exact ycgd mix yri hg h1 h2 hrs h
theorem ydvc {g:FuncId}{fn:Func}{sc:SC}{rs:List SR}(hg:Tryz.prog.funcs[g]?=some fn) (hcmp:fn.body.bind (cmp zA fn.ntmps)=some sc) (hrs:cmpR zA fn.results.toList=some rs)
 {pr:List Nm}{mu:List FuncId}{o:Own}{args:List SV}{Q:SV->Own->Prop}(h:vc ⟨Ct zA,Cm zA,ItC zA,pr,mu⟩ sc (retM rs pr Q) ⟨slots args 0,o⟩):Cm zA g pr o args Q:=by
 obtain⟨c,h1,h2⟩:=bind_some hcmp;exact ybuk mix yri hg h1 h2 hrs h
def Fn(g:FuncId)(c:SC)(rs:List SR):Prop:=∀(args:List SV) (Q:SV->Prop),vc ⟨Ct zA,Cm zA,ItC zA,[],[]⟩ c (retK rs Q) ⟨slots args 0,[]⟩->Ct zA g args Q
def FnU(g:FuncId)(c:SC)(rs:List SR):Prop:=∀(mu:List FuncId) (args:List SV) (Q:SV->Prop),vc ⟨Ct zA,Cm zA,ItC zA,[],mu⟩ c (retK rs Q) ⟨slots args 0,[]⟩->Ct zA g args Q
def FnM(g:FuncId)(c:SC)(rs:List SR):Prop:=∀(pr:List Nm) (mu:List FuncId) (o:Own) (args:List SV) (Q:SV->Own->Prop),vc ⟨Ct zA,Cm zA,ItC zA,pr,mu⟩ c (retM rs pr Q) ⟨slots args 0,o⟩->Cm zA g pr o args Q
section
variable {g:FuncId}{fn:Func}{sc:SC}{rs:List SR}(hg:Tryz.prog.funcs[g]?=some fn) (hcmp:fn.body.bind (cmp zA fn.ntmps)=some sc) (hrs:cmpR zA fn.results.toList=some rs)
include hg hcmp hrs
theorem fn_0:Fn g sc rs:=fun _ _ h=>ydnm hg hcmp hrs h
theorem fn_u:FnU g sc rs:=fun _ _ _ h=>ydnm hg hcmp hrs h
theorem fn_m:FnM g sc rs:=fun _ _ _ _ _ h=>ydvc hg hcmp hrs h
end
def o3(x:SOp)(d a:Nat):SOper:=⟨x,some d,none,a⟩
def o0(x:SOp)(a:Nat):SOper:=⟨x,none,none,a⟩
abbrev LO:=List SOper
def mv'(x d a:Nat):SOper:=⟨.mv (.tmp x),some d,none,a⟩
def bn'(op:BinOp)(x y d a:Nat):SOper:=⟨.bin op (.tmp x) (.tmp y),some d,none,a⟩
def ld'(ag:Bool)(n x d a:Nat):SOper:=⟨.load ag n (.tmp x),some d,none,a⟩
def fa'(o n x d a:Nat):SOper:=⟨.faddr o n (.tmp x),some d,none,a⟩
def ix'(z x k d a:Nat):SOper:=⟨.idx z (.tmp x) (.tmp k),some d,none,a⟩
def ln'(x d a:Nat):SOper:=⟨.len (.tmp x),some d,none,a⟩
def xt'(x k d a:Nat):SOper:=⟨.extract (.tmp x) k,some d,none,a⟩
def cl'(g:FuncId)(xs:List Nat)(d a:Nat):SOper:=⟨.call (.func g) (xs.map .tmp),some d,none,a⟩
def ci'(n:Int):Operand:=.const (.int .i64 n)
attribute [go_sem] o3 o0 mv' bn' ld' fa' ix' ln' xt' cl' ci'
attribute [go_sem] yebg ydfv yckm yccy ydzy ydjs ydxy ydfm ycgs ydcc ycie ybck yzh ybpg ybjt puts yder
attribute [go_sem] ydko yeao ydok ybfk ybqr ybvv yyz ybgg ybpf ybph ybvd ybjz ycfw ybjw ycka
attribute [go_sem] yqs Fam.at Prod.mk.injEq ydfh ydbk ydbj ydil ydev ydgb ybqt oldX oldV ykd yny ybyi ydfx gb_x yebo resX yim slots yclj
attribute [go_sem] ycls ybtn runO opO ybyi xOp SS.get SS.pget SS.gets SS.lit look lookO SS.put SS.own ydia ydkn yddn ycln ycgl ychy ycjk
attribute [go_sem] ycgr yclp ycic ycgm yclf yblx simple ylo yvz ybbx part idxX natX yrb ybqw xbin xun eqL splice fill OB.set ofV fits ydir
attribute [go_sem] ybne allP SRec.no SRec.pure clash nmem List.isEmpty_nil List.isEmpty_cons List.drop List.take List.all List.any List.map zAA List.head? List.append
attribute [go_sem] List.nil_append List.append_nil List.cons_append List.all_cons List.all_nil List.drop_succ_cons List.drop_zero List.take_succ_cons List.take_zero List.drop_nil
attribute [go_sem] List.take_nil List.length_cons zY List.map_cons List.map_nil List.getElem?_cons_zero List.getElem?_cons_succ List.elem zS Nat.zero_add
attribute [go_sem] Nat.add_zero if_true if_false ite_true ite_false Option.isNone Option.isNone_none Option.map_some Option.map_none Bool.not_true Bool.not_false Bool.true_or
attribute [go_sem] Bool.or_true Bool.false_or Bool.or_false Bool.and_true Bool.true_and Bool.and_false Bool.false_and Bool.and_self Bool.or_self true_and and_true and_self
attribute [go_sem] true_implies false_implies implies_true forall_const Nat.lt_add_one Nat.one_pos Nat.zero_lt_one Nat.lt_irrefl zI decide_true decide_false zX
attribute [go_sem] Bool.true_eq_false forall_eq BEq.rfl beq_self_eq_true decide_eq_true_eq decide_eq_false_iff_not beq_iff_eq beq_eq_false_iff_ne bne_iff_ne bne_eq_false_iff_eq
attribute [go_sem] Bool.not_eq_true Bool.not_eq_false Bool.not_eq_true' Bool.not_eq_false' ydfb ydhx yddp ychb ychs ycfb ycjl ycmc ycho
attribute [go_sem] yckk ycey ydjc ydqc ydhi ycjd ycfr ycfm ycfl ychx ycja ybwq ycbn yboq ycdz ycah ycai
attribute [go_sem] ybxm ybzq ybtl ydlb ydlv ydmw ydin ydhg ycjt ydbs yddd ydci ydij ydcx ydjy yeam ydzw yeba ydpe ydyi
attribute [go_sem] ydjo ydoh ydpq ydqa ydnh ydpr ydmi ydsy ydlz yduw ydet ydhc yckg ydhe ydhv ydgr yddg yddu ydfa
attribute [go_sem] yyn ybgz idxF ydpu yub ymm own1 ybmy ydhf ydjm zX false_implies Tel telL yec yhn ycer ydfz ydeh
attribute [go_sem] ycgj yclw ycio ycik ycft ychg ycli yclo ycjg yebl yeai yebb ydze ydku ydyf ydob ydoz ydzd ydqi ydqm
attribute [go_sem] ydsw lv nmem rid ygr ybyy ydpv yyb ydyk yddr yyf ymc ycay ydlr ydvs ycch yfx ybnt yeau ydzu yeab ydnl ydph yddw
attribute [go_sem] ydtr ydra ydws ydnc ydnu ydpl List.any_cons List.any_nil Option.isSome ydbg or_false false_or or_true true_or false_and exists_const exists_false
attribute [go_sem] List.not_mem_nil and_false
attribute [go_sem ↓] gb_t gb_f ydzj yebf
end Sh
end
section
namespace Sh
open Go Ev
def yxt:List Nat:=[0,1,1,2,1,2,2,3,1,2,2,3,2,3,3,4,1,2,2,3,2,3,3,4,2,3,3,4,3,4,4,5,1,2,2,3,2,3,3,4,2,3,3,4,3,4,4,5,2,3,3,4,3,4,4,5,3,4,4,5,4,5,5,6,1,2,2,3,2,3,3,4,2,3,3,4,3,4,4,5,2,3,3,4,3,4,4,5,3,4,4,5,4,5,5,6,2,3,3,4,3,4,4,5,3,4,4,5,4,5,5,6,3,4,4,5,4,5,5,6,4,5,5,6,5,6,6,7,1,2,2,3,2,3,3,4,2,3,3,4,3,4,4,5,2,3,3,4,3,4,4,5,3,4,4,5,4,5,5,6,2,3,3,4,3,4,4,5,3,4,4,5,4,5,5,6,3,4,4,5,4,5,5,6,4,5,5,6,5,6,6,7,2,3,3,4,3,4,4,5,3,4,4,5,4,5,5,6,3,4,4,5,4,5,5,6,4,5,5,6,5,6,6,7,3,4,4,5,4,5,5,6,4,5,5,6,5,6,6,7,4,5,5,6,5,6,6,7,5,6,6,7,6,7,7,8]
def ycxd:LO:=[o3 (.box 160 (.tmp 0)) 3 0,o3 (.box 27 (.tmp 1)) 4 0,o3 (.mv (ci' 0)) 6 0,o3 (.mv (ci' 0)) 7 4]
def ycoo:LO:=[o3 (.build [.i .i64 0,.a (.nilFunc)] [(0,1,(ci' 1)),(1,1,(.func 176))]) 11 0,o3 (.build [.i .i64 0,.a (.nilFunc)] [(0,1,(ci' 2)),(1,1,(.func 177))]) 12 0,o3 (.build [.i .i64 0,.a (.nilFunc)] [(0,1,(ci' 3)),(1,1,(.func 178))]) 13 0,o3 (.bslice 210 2 3 [.i .i64 0,.a (.nilFunc),.i .i64 0,.a (.nilFunc),.i .i64 0,.a (.nilFunc)] [(0,2,(.tmp 11)),(2,2,(.tmp 12)),(4,2,(.tmp 13))]) 14 7,mv' 14 8 15]
def ycnm:LO:=[mv' 8 15 0,ln' 15 16 1,o3 (.mv (ci' 0)) 17 0]
def ybnj:LO:=[bn' .lss 17 16 18 0]
def ybna:LO:=[ix' 2 15 17 19 0,ld' true 2 19 20 1,o3 (.alloc 210 1 [.i .i64 0,.a (.nilFunc)]) 10 0,o0 (.store 2 (.tmp 10) (.tmp 20)) 7]
def ybod:LO:=[fa' 0 1 10 21 0,ld' false 1 21 22 1,fa' 1 1 3 23 0,ld' false 1 23 24 4,bn' .eql 22 24 25 15]
def ybmw:LO:=[fa' 1 1 10 26 0,ld' false 1 26 27 1,ld' true 6 3 28 0,ld' true 2 4 29 0,mv' 2 30 0,o3 (.call (.tmp 27) [(.tmp 28),(.tmp 29),(.tmp 30)]) 31 31,xt' 31 0 32 63,xt' 31 1 33 63,mv' 32 6 255,mv' 33 7 511]
def ybkh:LO:=[o3 (.bin .add (.tmp 17) (ci' 1)) 34 0,mv' 34 17 1]
def ybnc:LO:=[o3 (.mv (ci' 0)) 6 0,o3 (.mv (.const (.int .i64 (-1)))) 7 1]
def c132:SC:=(.seq (.reg false ycxd) (.seq (.reg false ycoo) (.seq (.seq (.reg false ycnm) (.block 0 (.loop (.seq (.reg false ybnj) (.seq (.cond (.tmp 18) .skip (.exit 0)) (.seq (.block 1 (.seq (.reg false ybna) (.seq (.reg false ybod) (.cond (.tmp 25) (.seq (.reg false ybmw) .ret) .skip)))) (.reg false ybkh))))))) (.seq (.reg false ybnc) .ret))))
theorem ydiv:Fn 132 c132 [.t 6,.t 7]:=fn_0 Tryz.func132 (by kernel_rfl) (by kernel_rfl)
def yctb:LO:=[o3 (.box 160 (.tmp 0)) 3 0,o3 (.box 27 (.tmp 1)) 4 0,o3 (.mv (ci' 0)) 6 0,o3 (.mv (ci' 0)) 7 4]
def ycvd:LO:=[fa' 2 1 3 8 0,ld' false 1 8 9 1,fa' 3 1 3 10 0,ld' false 1 10 11 4,fa' 4 1 3 12 0,ld' false 1 12 13 16,fa' 0 1 4 14 0,ld' false 1 14 15 64,ln' 15 16 192,bn' .mul 13 16 17 496,bn' .add 11 17 18 1020,fa' 5 1 3 19 0,ld' false 1 19 20 2048,fa' 0 1 4 21 0,ld' false 1 21 22 8192,cl' 54 [22] 23 24576,bn' .mul 20 23 24 63488,bn' .add 18 24 25 131068,mv' 9 6 57347,mv' 25 7 524287]
def c176:SC:=(.seq (.reg false yctb) (.seq (.reg true ycvd) .ret))
theorem ydjn:Fn 176 c176 [.t 6,.t 7]:=fn_0 Tryz.func176 (by kernel_rfl) (by kernel_rfl)
def ycrj:LO:=[o3 (.box 160 (.tmp 0)) 3 0,o3 (.box 27 (.tmp 1)) 4 0,o3 (.mv (ci' 0)) 6 0,o3 (.mv (ci' 0)) 7 4]
def ycpr:LO:=[o3 (.mv (ci' 0)) 6 0,o3 (.mv (ci' 1)) 7 1]
def c177:SC:=(.seq (.reg false ycrj) (.seq (.reg false ycpr) .ret))
theorem ydjp:Fn 177 c177 [.t 6,.t 7]:=fn_0 Tryz.func177 (by kernel_rfl) (by kernel_rfl)
def ycqp:LO:=[o3 (.box 160 (.tmp 0)) 3 0,o3 (.box 27 (.tmp 1)) 4 0,o3 (.mv (ci' 0)) 6 0,o3 (.mv (ci' 0)) 7 4]
def ydba:LO:=[fa' 1 1 4 8 0,ld' false 1 8 9 1,mv' 2 10 0,ix' 1 9 10 11 7,ld' false 1 11 12 15,ln' 12 13 31,o3 (.bin .sub (.tmp 13) (ci' 1)) 14 63,o3 (.mv (.const (.int .i64 (-1)))) 6 0,mv' 14 7 255]
def c178:SC:=(.seq (.reg false ycqp) (.seq (.reg true ydba) .ret))
theorem ydjl:Fn 178 c178 [.t 6,.t 7]:=fn_0 Tryz.func178 (by kernel_rfl) (by kernel_rfl)
def ydya:LO:=[o3 (.box 32 (.tmp 0)) 2 0,o3 (.box 27 (.tmp 1)) 3 0,o3 (.mv (.const (.slice none 0 0))) 4 0]
def yduk:LO:=[fa' 0 1 3 9 0,ld' false 1 9 10 1,ln' 10 11 3,o3 (.mk 92 1 24 [.a (.slice none 0 0)] (.tmp 11) (.tmp 11)) 12 7,mv' 12 5 15]
def ydnq:LO:=[mv' 5 13 0,ln' 13 14 1,o3 (.mv (ci' 0)) 15 0]
def ydoa:LO:=[bn' .lss 15 14 16 0]
def ydym:LO:=[mv' 15 17 0,mv' 17 6 1]
def ydwq:LO:=[mv' 5 18 0,mv' 6 19 0,fa' 1 1 2 20 0,ld' false 1 20 21 4,ln' 21 22 12,o3 (.mk 91 2 16 [.i .i64 0,.i .i64 0] (.tmp 22) (.tmp 22)) 23 28,ix' 1 18 19 24 63,o0 (.store 1 (.tmp 24) (.tmp 23)) 127]
def ydkt:LO:=[fa' 1 1 2 25 0,ld' false 1 25 26 1,ln' 26 27 3,o3 (.mv (ci' 0)) 28 0]
def ydol:LO:=[bn' .lss 28 27 29 0]
def ydrs:LO:=[mv' 28 30 0,ix' 6 26 28 31 0,ld' true 6 31 32 2,o3 (.alloc 160 1 [.a (.string (ByteArray.mk #[])),.i .i64 0,.i .i64 0,.i .i64 0,.i .i64 0,.i .i64 0]) 8 0,mv' 30 7 15,o0 (.store 6 (.tmp 8) (.tmp 32)) 31]
def ydxg:LO:=[mv' 5 34 0,mv' 6 35 0,ix' 1 34 35 36 3,ld' false 1 36 37 7,mv' 7 38 0,mv' 5 39 0,mv' 6 40 0,ix' 1 39 40 41 96,ld' false 1 41 42 224,mv' 7 43 0,ld' true 6 8 44 0,ld' true 2 3 45 0,mv' 6 46 0,cl' 132 [44,45,46] 47 7168,mv' 47 33 15360,xt' 33 0 48 31744,xt' 33 1 49 31744,ix' 2 37 38 50 31,o3 (.idxA 2 1 (.tmp 50) (ci' 0)) 51 196095,o0 (.store 1 (.tmp 51) (.tmp 48)) 458239,ix' 2 42 43 52 992,o3 (.idxA 2 1 (.tmp 52) (ci' 1)) 53 2097151,o0 (.store 1 (.tmp 53) (.tmp 49)) 4194303]
def ycot:LO:=[o3 (.bin .add (.tmp 28) (ci' 1)) 54 0,mv' 54 28 1]
def ycxg:LO:=[o3 (.bin .add (.tmp 15) (ci' 1)) 55 0,mv' 55 15 1]
def ycqy:LO:=[mv' 5 56 0,mv' 56 4 1]
def c63:SC:=(.seq (.reg false ydya) (.seq (.reg false yduk) (.seq (.seq (.reg false ydnq) (.block 0 (.loop (.seq (.reg false ydoa) (.seq (.cond (.tmp 16) .skip (.exit 0)) (.seq (.block 1 (.seq (.reg false ydym) (.seq (.reg false ydwq) (.seq (.reg false ydkt) (.block 2 (.loop (.seq (.reg false ydol) (.seq (.cond (.tmp 29) .skip (.exit 2)) (.seq (.block 3 (.seq (.reg false ydrs) (.reg true ydxg))) (.reg false ycot)))))))))) (.reg false ycxg))))))) (.seq (.reg false ycqy) .ret))))
theorem yduc:Fn 63 c63 [.t 4]:=fn_0 Tryz.func63 (by kernel_rfl) (by kernel_rfl)
def ycov:LO:=[o3 (.box 91 (.tmp 1)) 4 0,o3 (.mv (ci' 0)) 6 0]
def ycqn:LO:=[mv' 2 8 0,o3 (.idxA 2 1 (.tmp 4) (ci' 0)) 9 0,ld' false 1 9 10 2,bn' .geq 8 10 11 7,mv' 11 12 15,⟨.mv (.tmp 2),some 13,some (12,true),31⟩,⟨.idxA 2 1 (.tmp 4) (ci' 1),some 14,some (12,true),31⟩,⟨.load false 1 (.tmp 14),some 15,some (12,true),95⟩,⟨.bin .leq (.tmp 13) (.tmp 15),some 16,some (12,true),255⟩,o3 (.pick (.tmp 12) (.tmp 16) (.const (.bool false))) 17 511,mv' 17 7 1023]
def ycnt:LO:=[mv' 2 18 0,mv' 18 6 1]
def ycmf:LO:=[mv' 0 20 0,o3 (.bin .eql (.tmp 20) (ci' 3)) 21 1,mv' 21 19 3]
def ycur:LO:=[o3 (.mv (.const (.int .i64 (-1)))) 6 0]
def ycpq:LO:=[mv' 2 23 0,o3 (.idxA 2 1 (.tmp 4) (ci' 0)) 24 0,ld' false 1 24 25 2,bn' .lss 23 25 26 7,mv' 26 22 15]
def ycxz:LO:=[o3 (.idxA 2 1 (.tmp 4) (ci' 0)) 27 0,ld' false 1 27 28 1,mv' 28 6 3]
def yczj:LO:=[o3 (.idxA 2 1 (.tmp 4) (ci' 1)) 29 0,ld' false 1 29 30 1,mv' 30 6 3]
def c170:SC:=(.seq (.reg false ycov) (.seq (.block 0 (.seq (.reg false ycqn) (.cond (.tmp 7) (.seq (.reg false ycnt) .ret) (.seq (.reg false ycmf) (.cond (.tmp 19) (.seq (.reg false ycur) .ret) (.seq (.reg false ycpq) (.cond (.tmp 22) (.seq (.reg false ycxz) .ret) .skip))))))) (.seq (.reg false yczj) .ret)))
theorem ydiq:Fn 170 c170 [.t 6]:=fn_0 Tryz.func170 (by kernel_rfl) (by kernel_rfl)
def ydrd:LO:=[o3 (.box 32 (.tmp 0)) 2 0,o3 (.box 27 (.tmp 1)) 3 0,o3 (.mv (ci' 0)) 4 0]
def ydlc:LO:=[ld' true 3 2 9 0,cl' 130 [9] 10 1,o3 (.un .not (.tmp 10)) 11 3]
def ydum:LO:=[o3 (.mv (ci' 8)) 4 0]
def ydna:LO:=[ld' true 2 3 12 0,cl' 131 [12] 13 1,o3 (.un .not (.tmp 13)) 14 3]
def ydkx:LO:=[o3 (.mv (ci' 1)) 4 0]
def ydnp:LO:=[fa' 1 1 2 15 0,ld' false 1 15 16 1,ln' 16 17 3,o3 (.mv (ci' 0)) 18 0]
def ydni:LO:=[bn' .lss 18 17 19 0]
def ydzg:LO:=[ix' 6 16 18 20 0,ld' true 6 20 21 1,o3 (.alloc 160 1 [.a (.string (ByteArray.mk #[])),.i .i64 0,.i .i64 0,.i .i64 0,.i .i64 0,.i .i64 0]) 6 0,o0 (.store 6 (.tmp 6) (.tmp 21)) 7]
def ydmn:LO:=[fa' 1 1 6 22 0,ld' false 1 22 23 1,o3 (.bin .neq (.tmp 23) (ci' 1)) 24 3]
def ydlt:LO:=[ld' true 6 6 26 0,ld' true 2 3 27 0,o3 (.call (.func 132) [(.tmp 26),(.tmp 27),(ci' 0)]) 28 3,mv' 28 25 7,xt' 25 0 29 15,xt' 25 1 30 15,mv' 29 7 31,mv' 30 8 127]
def yctz:LO:=[mv' 8 31 0,mv' 7 32 0,bn' .lss 31 32 33 3,mv' 33 34 7,⟨.mv (.tmp 8),some 35,some (34,false),15⟩,⟨.mv (.tmp 7),some 36,some (34,false),15⟩,⟨.bin .sub (.tmp 35) (.tmp 36),some 37,some (34,false),63⟩,⟨.bin .add (.tmp 37) (ci' 1),some 38,some (34,false),127⟩,⟨.bin .gtr (.tmp 38) (ci' 4096),some 39,some (34,false),255⟩,o3 (.pick (.tmp 34) (.const (.bool true)) (.tmp 39)) 40 511]
def ycxb:LO:=[o3 (.mv (ci' 9)) 4 0]
def ycxc:LO:=[o3 (.bin .add (.tmp 18) (ci' 1)) 41 0,mv' 41 18 1]
def yczt:LO:=[o3 (.mv (ci' 0)) 4 0]
def c62:SC:=(.seq (.reg false ydrd) (.seq (.seq (.reg false ydlc) (.cond (.tmp 11) (.seq (.reg false ydum) .ret) .skip)) (.seq (.seq (.reg false ydna) (.cond (.tmp 14) (.seq (.reg false ydkx) .ret) .skip)) (.seq (.seq (.reg false ydnp) (.block 0 (.loop (.seq (.reg false ydni) (.seq (.cond (.tmp 19) .skip (.exit 0)) (.seq (.block 1 (.seq (.reg false ydzg) (.seq (.seq (.reg false ydmn) (.cond (.tmp 24) (.exit 1) .skip)) (.seq (.reg false ydlt) (.seq (.reg false yctz) (.cond (.tmp 40) (.seq (.reg false ycxb) .ret) .skip)))))) (.reg false ycxc))))))) (.seq (.reg false yczt) .ret)))))
theorem ydow:Fn 62 c62 [.t 4]:=fn_0 Tryz.func62 (by kernel_rfl) (by kernel_rfl)
def ycxp:LO:=[o3 (.box 32 (.tmp 0)) 2 0,o3 (.box 27 (.tmp 1)) 3 0,o3 (.mv (.const (.pointer none))) 4 0]
def ycsx:LO:=[ld' true 3 2 5 0,ld' true 3 2 6 0,ld' true 2 3 7 0,cl' 167 [6,7] 8 6,ld' true 3 2 9 0,ld' true 2 3 10 0,cl' 63 [9,10] 11 62,o3 (.build [.a (.string (ByteArray.mk #[])),.a (.slice none 0 0),.a (.slice none 0 0),.a (.pointer none),.a (.slice none 0 0)] [(0,3,(.tmp 5)),(3,1,(.tmp 8)),(4,1,(.tmp 11))]) 12 127,o3 (.box 200 (.tmp 12)) 13 255,mv' 13 4 511]
def c123:SC:=(.seq (.reg false ycxp) (.seq (.reg true ycsx) .ret))
theorem ydgd:Fn 123 c123 [.t 4]:=fn_0 Tryz.func123 (by kernel_rfl) (by kernel_rfl)
def ycrb:LO:=[o3 (.mv (ci' 0)) 6 0]
def ycrp:LO:=[mv' 0 8 0,o3 (.nilck (.tmp 8)) 9 1,fa' 0 3 9 10 3,fa' 2 1 10 11 7,ld' false 1 11 12 15,ln' 12 13 31,o3 (.mv (ci' 0)) 14 0]
def ycrt:LO:=[bn' .lss 14 13 15 0]
def ycpm:LO:=[mv' 14 16 0,mv' 16 7 1]
def ycvn:LO:=[mv' 0 17 0,o3 (.nilck (.tmp 17)) 18 1,fa' 3 1 18 19 3,ld' false 1 19 20 7,mv' 1 21 0,mv' 2 22 0,mv' 7 23 0,cl' 168 [20,21,22,23] 24 127]
def ycwq:LO:=[mv' 7 25 0,mv' 25 6 1]
def ycwa:LO:=[o3 (.bin .add (.tmp 14) (ci' 1)) 26 0,mv' 26 14 1]
def ycmk:LO:=[o3 (.mv (.const (.int .i64 (-1)))) 6 0]
def c126:SC:=(.seq (.reg false ycrb) (.seq (.seq (.reg false ycrp) (.block 0 (.loop (.seq (.reg false ycrt) (.seq (.cond (.tmp 15) .skip (.exit 0)) (.seq (.block 1 (.seq (.reg false ycpm) (.seq (.reg false ycvn) (.cond (.tmp 24) (.seq (.reg false ycwq) .ret) .skip)))) (.reg false ycwa))))))) (.seq (.reg false ycmk) .ret)))
theorem ydjz:Fn 126 c126 [.t 6]:=fn_0 Tryz.func126 (by kernel_rfl) (by kernel_rfl)
def yczl:LO:=[o3 (.mv (.const (.slice none 0 0))) 8 0]
def ycya:LO:=[mv' 1 13 0,mv' 2 14 0,ix' 1 13 14 15 3,ld' false 1 15 16 7,o3 (.app 3 1 8 (.const (.slice none 0 0)) (.tmp 16)) 17 15,mv' 17 9 31]
def ycne:LO:=[mv' 0 18 0,o3 (.nilck (.tmp 18)) 19 1,fa' 0 3 19 20 3,fa' 2 1 20 21 7,ld' false 1 21 22 15,mv' 3 23 0,ix' 3 22 23 24 63,fa' 2 1 24 25 127,ld' false 1 25 26 255,ln' 26 27 511,o3 (.mv (ci' 0)) 28 0]
def ydai:LO:=[bn' .lss 28 27 29 0]
def ycqi:LO:=[ix' 2 26 28 30 0,ld' true 2 30 31 1,o3 (.alloc 203 1 [.i .i64 0,.a (.slice none 0 0)]) 11 0,o0 (.store 2 (.tmp 11) (.tmp 31)) 7]
def ycms:LO:=[mv' 0 32 0,o3 (.nilck (.tmp 32)) 33 1,fa' 3 1 33 34 3,ld' false 1 34 35 7,mv' 1 36 0,mv' 2 37 0,fa' 1 1 11 38 0,ld' false 1 38 39 64,cl' 169 [35,36,37,39] 40 255,mv' 40 12 511]
def ycsk:LO:=[mv' 9 41 0,fa' 0 1 11 42 0,ld' false 1 42 43 2,mv' 0 44 0,o3 (.nilck (.tmp 44)) 45 8,fa' 0 3 45 46 24,fa' 1 1 46 47 56,ld' false 1 47 48 120,fa' 0 1 11 49 0,ld' false 1 49 50 256,ix' 6 48 50 51 1016,fa' 1 1 51 52 2040,ld' false 1 52 53 4088,mv' 0 54 0,o3 (.nilck (.tmp 54)) 55 8192,fa' 4 1 55 56 24576,ld' false 1 56 57 57344,mv' 2 58 0,ix' 1 57 58 59 253952,ld' false 1 59 60 516096,fa' 0 1 11 61 0,ld' false 1 61 62 1048576,ix' 2 60 62 63 4186112,ld' true 2 63 64 8380416,mv' 12 65 0,cl' 170 [53,64,65] 66 33554424,ix' 1 41 43 67 67108863,o0 (.store 1 (.tmp 67) (.tmp 66)) 134217727]
def ycxj:LO:=[o3 (.bin .add (.tmp 28) (ci' 1)) 68 0,mv' 68 28 1]
def ycqd:LO:=[mv' 9 69 0,mv' 69 8 1]
def c127:SC:=(.seq (.reg false yczl) (.seq (.reg false ycya) (.seq (.seq (.reg false ycne) (.block 0 (.loop (.seq (.reg false ydai) (.seq (.cond (.tmp 29) .skip (.exit 0)) (.seq (.block 1 (.seq (.reg false ycqi) (.seq (.reg true ycms) (.reg true ycsk)))) (.reg false ycxj))))))) (.seq (.reg false ycqd) .ret))))
theorem ycij:FnM 127 c127 [.t 8]:=fn_m Tryz.func127 (by kernel_rfl) (by kernel_rfl)
def ycxt:LO:=[o3 (.mv (ci' 0)) 2 0]
def ycou:LO:=[mv' 0 3 0,o3 (.bin .shr (.tmp 3) (.const (.int .u64 24))) 4 1,o3 (.stri yxt (.tmp 4)) 5 3,mv' 0 6 0,o3 (.bin .shr (.tmp 6) (.const (.int .u64 16))) 7 8,o3 (.bin .and (.tmp 7) (.const (.int .u32 255))) 8 24,o3 (.stri yxt (.tmp 8)) 9 56,bn' .add 5 9 10 127,mv' 0 11 0,o3 (.bin .shr (.tmp 11) (.const (.int .u64 8))) 12 256,o3 (.bin .and (.tmp 12) (.const (.int .u32 255))) 13 768,o3 (.stri yxt (.tmp 13)) 14 1792,bn' .add 10 14 15 4095,mv' 0 16 0,o3 (.bin .and (.tmp 16) (.const (.int .u32 255))) 17 8192,o3 (.stri yxt (.tmp 17)) 18 24576,bn' .add 15 18 19 65535,o3 (.conv .i64 (.tmp 19)) 20 131071,mv' 20 2 262143]
def c113:SC:=(.seq (.reg false ycxt) (.seq (.reg true ycou) .ret))
theorem ydid:Fn 113 c113 [.t 2]:=fn_0 Tryz.func113 (by kernel_rfl) (by kernel_rfl)
def ycxn:LO:=[o3 (.box 27 (.tmp 0)) 1 0,o3 (.mv (.const (.slice none 0 0))) 2 0]
def yctn:LO:=[fa' 1 1 1 8 0,ld' false 1 8 9 1,ln' 9 10 3,o3 (.mk 77 1 4 [.i .u32 0] (.tmp 10) (.tmp 10)) 11 7,mv' 11 3 15]
def ycxh:LO:=[fa' 1 1 1 12 0,ld' false 1 12 13 1,ln' 13 14 3,o3 (.mv (ci' 0)) 15 0]
def ycnp:LO:=[bn' .lss 15 14 16 0]
def yctx:LO:=[mv' 15 17 0,ix' 1 13 15 18 0,ld' false 1 18 19 2,mv' 17 4 7,mv' 19 5 15]
def yctc:LO:=[mv' 5 20 0,ln' 20 21 1,o3 (.mv (ci' 0)) 22 0]
def ycse:LO:=[bn' .lss 22 21 23 0]
def ycym:LO:=[ix' 2 20 22 24 0,ld' true 2 24 25 1,o3 (.alloc 68 1 [.i .i64 0,.i .i64 0]) 7 0,o0 (.store 2 (.tmp 7) (.tmp 25)) 7]
def ycyh:LO:=[mv' 3 26 0,mv' 4 27 0,ix' 1 26 27 28 3,ld' false 1 28 29 7,fa' 0 1 7 30 0,ld' false 1 30 31 16,o3 (.bin .shl (.const (.int .u32 1)) (.tmp 31)) 32 48,bn' .or 29 32 33 127,ix' 1 26 27 34 255,o0 (.store 1 (.tmp 34) (.tmp 33)) 511]
def ycoa:LO:=[o3 (.bin .add (.tmp 22) (ci' 1)) 35 0,mv' 35 22 1]
def ycac:LO:=[o3 (.bin .add (.tmp 15) (ci' 1)) 36 0,mv' 36 15 1]
def ybwd:LO:=[mv' 3 37 0,mv' 37 2 1]
def c124:SC:=(.seq (.reg false ycxn) (.seq (.reg false yctn) (.seq (.seq (.reg false ycxh) (.block 0 (.loop (.seq (.reg false ycnp) (.seq (.cond (.tmp 16) .skip (.exit 0)) (.seq (.block 1 (.seq (.reg false yctx) (.seq (.reg false yctc) (.block 2 (.loop (.seq (.reg false ycse) (.seq (.cond (.tmp 23) .skip (.exit 2)) (.seq (.block 3 (.seq (.reg false ycym) (.reg true ycyh))) (.reg false ycoa))))))))) (.reg false ycac))))))) (.seq (.reg false ybwd) .ret))))
theorem ydjr:Fn 124 c124 [.t 2]:=fn_0 Tryz.func124 (by kernel_rfl) (by kernel_rfl)
def ycnx:LO:=[o3 (.mv (.const (.bool false))) 8 0]
def yczg:LO:=[mv' 3 9 0,o3 (.bin .eql (.tmp 9) (.const (.int .u32 0))) 10 1,mv' 10 11 3,⟨.mv (.tmp 3),some 12,some (11,false),7⟩,⟨.mv (.tmp 2),some 13,some (11,false),7⟩,⟨.bin .andNot (.tmp 12) (.tmp 13),some 14,some (11,false),31⟩,⟨.bin .neq (.tmp 14) (.const (.int .u32 0)),some 15,some (11,false),63⟩,o3 (.pick (.tmp 11) (.const (.bool true)) (.tmp 15)) 16 127]
def ydlj:LO:=[o3 (.mv (.const (.bool false))) 8 0]
def ycra:LO:=[mv' 1 17 0]
def yczs:LO:=[o3 (.bin .eql (.tmp 17) (ci' 1)) 19 0,mv' 19 18 1]
def ydxt:LO:=[mv' 3 20 0,mv' 3 21 0,o3 (.bin .sub (.tmp 21) (.const (.int .u32 1))) 22 2,bn' .and 20 22 23 7,o3 (.bin .eql (.tmp 23) (.const (.int .u32 0))) 24 15,mv' 24 8 31]
def ycng:LO:=[o3 (.bin .eql (.tmp 17) (ci' 2)) 26 0,mv' 26 25 1]
def ycwi:LO:=[mv' 0 27 0,mv' 3 28 0,cl' 206 [27,28] 29 3,mv' 29 8 7]
def ydpw:LO:=[o3 (.bin .eql (.tmp 17) (ci' 4)) 31 0,mv' 31 30 1]
def ydoe:LO:=[mv' 3 32 0,mv' 2 33 0,bn' .eql 32 33 34 3,mv' 34 8 7]
def ydct:LO:=[o3 (.mv (.const (.bool true))) 8 0]
def c171:SC:=(.seq (.reg false ycnx) (.seq (.seq (.reg false yczg) (.cond (.tmp 16) (.seq (.reg false ydlj) .ret) .skip)) (.seq (.seq (.reg false ycra) (.block 0 (.seq (.reg false yczs) (.cond (.tmp 18) (.seq (.reg false ydxt) .ret) (.seq (.reg false ycng) (.cond (.tmp 25) (.seq (.reg false ycwi) .ret) (.seq (.reg false ydpw) (.cond (.tmp 30) (.seq (.reg false ydoe) .ret) .skip)))))))) (.seq (.reg false ydct) .ret))))
theorem ydei:Fn 171 c171 [.t 8]:=fn_0 Tryz.func171 (by kernel_rfl) (by kernel_rfl)
def ydvw:LO:=[o3 (.mv (.const (.bool false))) 2 0]
def ydup:LO:=[mv' 0 3 0,o3 (.bin .geq (.tmp 3) (ci' 1)) 4 1,mv' 4 5 3,⟨.mv (.tmp 0),some 6,some (5,true),7⟩,⟨.bin .leq (.tmp 6) (ci' 4),some 7,some (5,true),15⟩,o3 (.pick (.tmp 5) (.tmp 7) (.const (.bool false))) 8 31,mv' 8 2 63]
def c57:SC:=(.seq (.reg false ydvw) (.seq (.reg false ydup) .ret))
theorem ydkz:Fn 57 c57 [.t 2]:=fn_0 Tryz.func57 (by kernel_rfl) (by kernel_rfl)
end Sh
end
section
namespace Sh
open Go Ev
def yctw:LO:=[o3 (.mv (ci' 0)) 4 0]
def ycrd:LO:=[mv' 0 6 0,ln' 6 7 1,o3 (.mv (ci' 0)) 8 0]
def ycpg:LO:=[bn' .lss 8 7 9 0]
def yczy:LO:=[mv' 8 10 0,mv' 10 5 1]
def ydar:LO:=[mv' 1 11 0,mv' 0 12 0,mv' 5 13 0,ix' 1 12 13 14 6,ld' false 1 14 15 14,bn' .eql 11 15 16 31]
def yczv:LO:=[mv' 5 17 0,mv' 17 4 1]
def ycob:LO:=[o3 (.bin .add (.tmp 8) (ci' 1)) 18 0,mv' 18 8 1]
def ycqx:LO:=[o3 (.mv (.const (.int .i64 (-1)))) 4 0]
def c143:SC:=(.seq (.reg false yctw) (.seq (.seq (.reg false ycrd) (.block 0 (.loop (.seq (.reg false ycpg) (.seq (.cond (.tmp 9) .skip (.exit 0)) (.seq (.block 1 (.seq (.reg false yczy) (.seq (.reg false ydar) (.cond (.tmp 16) (.seq (.reg false yczv) .ret) .skip)))) (.reg false ycob))))))) (.seq (.reg false ycqx) .ret)))
theorem ydbl:Fn 143 c143 [.t 4]:=fn_0 Tryz.func143 (by kernel_rfl) (by kernel_rfl)
def ydtq:LO:=[o3 (.mv (ci' 0)) 2 0]
def ydxc:LO:=[mv' 0 5 0,ln' 5 6 1,o3 (.bin .lss (.tmp 6) (ci' 1)) 7 3]
def ydom:LO:=[o3 (.no) 8 0,o0 (.no) 1]
def ydno:LO:=[mv' 0 9 0,o3 (.idx 1 (.tmp 9) (ci' 0)) 10 1,ld' false 1 10 11 3,mv' 11 3 7]
def ydvm:LO:=[o3 (.mv (ci' 1)) 4 0]
def ydlg:LO:=[mv' 4 12 0,mv' 0 13 0,ln' 13 14 2,bn' .lss 12 14 15 7]
def ydmq:LO:=[mv' 3 18 0,mv' 0 19 0,mv' 4 20 0,ix' 1 19 20 21 6,ld' false 1 21 22 14,o3 (.mm true (.tmp 18) (.tmp 22)) 23 31,mv' 23 3 63]
def ydza:LO:=[mv' 4 16 0,o3 (.bin .add (.tmp 16) (ci' 1)) 17 1,mv' 17 4 3]
def ydzc:LO:=[mv' 3 24 0,mv' 24 2 1]
def c54:SC:=(.seq (.reg false ydtq) (.seq (.seq (.reg false ydxc) (.cond (.tmp 7) (.reg false ydom) .skip)) (.seq (.reg false ydno) (.seq (.seq (.reg false ydvm) (.block 0 (.loop (.seq (.seq (.reg false ydlg) (.cond (.tmp 15) .skip (.exit 0))) (.seq (.block 1 (.reg false ydmq)) (.reg false ydza)))))) (.seq (.reg false ydzc) .ret)))))
theorem ydvi:Fn 54 c54 [.t 2]:=fn_0 Tryz.func54 (by kernel_rfl) (by kernel_rfl)
def ycnr:LO:=[o3 (.mv (.const (.bool false))) 4 0]
def ycth:LO:=[mv' 0 5 0,mv' 1 6 0,cl' 143 [5,6] 7 3,o3 (.bin .geq (.tmp 7) (ci' 0)) 8 7,mv' 8 4 15]
def c258:SC:=(.seq (.reg false ycnr) (.seq (.reg false ycth) .ret))
theorem ydkh:Fn 258 c258 [.t 4]:=fn_0 Tryz.func258 (by kernel_rfl) (by kernel_rfl)
def ycrg:LO:=[o3 (.mv (ci' 0)) 4 0]
def ycnb:LO:=[mv' 0 6 0,ln' 6 7 1,o3 (.mv (ci' 0)) 8 0]
def ycpn:LO:=[bn' .lss 8 7 9 0]
def ycon:LO:=[mv' 8 10 0,mv' 10 5 1]
def ycrf:LO:=[mv' 1 11 0,mv' 0 12 0,mv' 5 13 0,ix' 1 12 13 14 6,ld' false 1 14 15 14,o3 (.call (.tmp 11) [(.tmp 15)]) 16 31]
def ycoy:LO:=[mv' 5 17 0,mv' 17 4 1]
def ycsh:LO:=[o3 (.bin .add (.tmp 8) (ci' 1)) 18 0,mv' 18 8 1]
def ycxk:LO:=[o3 (.mv (.const (.int .i64 (-1)))) 4 0]
def c251:SC:=(.seq (.reg false ycrg) (.seq (.seq (.reg false ycnb) (.block 0 (.loop (.seq (.reg false ycpn) (.seq (.cond (.tmp 9) .skip (.exit 0)) (.seq (.block 1 (.seq (.reg false ycon) (.seq (.reg false ycrf) (.cond (.tmp 16) (.seq (.reg false ycoy) .ret) .skip)))) (.reg false ycsh))))))) (.seq (.reg false ycxk) .ret)))
theorem ydbv:Fn 251 c251 [.t 4]:=fn_0 Tryz.func251 (by kernel_rfl) (by kernel_rfl)
def yczq:LO:=[o3 (.mv (ci' 0)) 2 0]
def ycmv:LO:=[mv' 0 4 0,o3 (.bin .lss (.tmp 4) (ci' 1)) 5 1,mv' 5 6 3,⟨.mv (.tmp 0),some 7,some (6,false),7⟩,⟨.bin .gtr (.tmp 7) (ci' 43),some 8,some (6,false),15⟩,o3 (.pick (.tmp 6) (.const (.bool true)) (.tmp 8)) 9 31,mv' 9 3 63]
def ycwd:LO:=[o3 (.mv (.const (.int .i64 (-1)))) 2 0]
def ycwl:LO:=[mv' 0 11 0,o3 (.bin .leq (.tmp 11) (ci' 17)) 12 1,mv' 12 10 3]
def ycmu:LO:=[o3 (.mv (ci' 0)) 2 0]
def ydbc:LO:=[mv' 0 14 0,o3 (.bin .leq (.tmp 14) (ci' 29)) 15 1,mv' 15 13 3]
def ycrh:LO:=[o3 (.mv (ci' 1)) 2 0]
def ycty:LO:=[mv' 0 17 0,o3 (.bin .leq (.tmp 17) (ci' 42)) 18 1,mv' 18 16 3]
def yctd:LO:=[o3 (.mv (ci' 2)) 2 0]
def ycpe:LO:=[o3 (.mv (ci' 3)) 2 0]
def c231:SC:=(.seq (.reg false yczq) (.seq (.block 0 (.seq (.reg false ycmv) (.cond (.tmp 3) (.seq (.reg false ycwd) .ret) (.seq (.reg false ycwl) (.cond (.tmp 10) (.seq (.reg false ycmu) .ret) (.seq (.reg false ydbc) (.cond (.tmp 13) (.seq (.reg false ycrh) .ret) (.seq (.reg false ycty) (.cond (.tmp 16) (.seq (.reg false yctd) .ret) .skip))))))))) (.seq (.reg false ycpe) .ret)))
theorem ydjb:Fn 231 c231 [.t 2]:=fn_0 Tryz.func231 (by kernel_rfl) (by kernel_rfl)
def ycpv:LO:=[o3 (.mv (ci' 0)) 4 0]
def ycpk:LO:=[mv' 1 7 0,o3 (.bin .lss (.tmp 7) (ci' 0)) 8 1,mv' 8 9 3,⟨.mv (.tmp 1),some 10,some (9,false),7⟩,⟨.mv (.tmp 0),some 11,some (9,false),7⟩,⟨.len (.tmp 11),some 12,some (9,false),23⟩,⟨.bin .geq (.tmp 10) (.tmp 12),some 13,some (9,false),63⟩,o3 (.pick (.tmp 9) (.const (.bool true)) (.tmp 13)) 14 127]
def ycxs:LO:=[o3 (.mv (.const (.int .i64 (-1)))) 4 0]
def ycnh:LO:=[o3 (.mv (ci' 1)) 5 0]
def ycsi:LO:=[mv' 1 15 0,mv' 0 16 0,ln' 16 17 2,bn' .lss 15 17 18 7]
def ycmw:LO:=[mv' 0 21 0,mv' 1 22 0,ix' 2 21 22 23 3,fa' 0 1 23 24 7,ld' false 1 24 25 15,cl' 231 [25] 26 31,mv' 26 6 63]
def ycqm:LO:=[mv' 6 27 0,o3 (.bin .lss (.tmp 27) (ci' 0)) 28 1]
def ycsj:LO:=[o3 (.mv (.const (.int .i64 (-1)))) 4 0]
def ycry:LO:=[mv' 5 29 0,mv' 6 30 0,o3 (.bin .sub (.tmp 30) (ci' 1)) 31 2,bn' .add 29 31 32 7,mv' 32 5 15]
def ybtw:LO:=[mv' 5 33 0,o3 (.bin .eql (.tmp 33) (ci' 0)) 34 1]
def ybye:LO:=[mv' 1 35 0,o3 (.bin .add (.tmp 35) (ci' 1)) 36 1,mv' 36 4 3]
def ydan:LO:=[mv' 1 19 0,o3 (.bin .add (.tmp 19) (ci' 1)) 20 1,mv' 20 1 3]
def ybzf:LO:=[o3 (.mv (.const (.int .i64 (-1)))) 4 0]
def c215:SC:=(.seq (.reg false ycpv) (.seq (.seq (.reg false ycpk) (.cond (.tmp 14) (.seq (.reg false ycxs) .ret) .skip)) (.seq (.seq (.reg false ycnh) (.block 0 (.loop (.seq (.seq (.reg false ycsi) (.cond (.tmp 18) .skip (.exit 0))) (.seq (.block 1 (.seq (.reg false ycmw) (.seq (.seq (.reg false ycqm) (.cond (.tmp 28) (.seq (.reg false ycsj) .ret) .skip)) (.seq (.reg false ycry) (.seq (.reg false ybtw) (.cond (.tmp 34) (.seq (.reg false ybye) .ret) .skip)))))) (.reg false ydan)))))) (.seq (.reg false ybzf) .ret))))
theorem ydiy:Fn 215 c215 [.t 4]:=fn_0 Tryz.func215 (by kernel_rfl) (by kernel_rfl)
def ydao:LO:=[o3 (.box 27 (.tmp 0)) 3 0,o3 (.mv (ci' 0)) 6 0]
def ycyb:LO:=[fa' 1 1 3 9 0,ld' false 1 9 10 1,mv' 1 11 0,ix' 1 10 11 12 7,ld' false 1 12 13 15,ln' 13 14 31,o3 (.mv (ci' 0)) 15 0]
def ycvi:LO:=[bn' .lss 15 14 16 0]
def ycnd:LO:=[mv' 15 17 0,ix' 2 13 15 18 0,ld' true 2 18 19 2,o3 (.alloc 68 1 [.i .i64 0,.i .i64 0]) 8 0,mv' 17 7 15,o0 (.store 2 (.tmp 8) (.tmp 19)) 31]
def ycss:LO:=[fa' 0 1 8 20 0,ld' false 1 20 21 1,mv' 2 22 0,bn' .eql 21 22 23 7]
def ydat:LO:=[mv' 7 24 0,mv' 24 6 1]
def ycxw:LO:=[o3 (.bin .add (.tmp 15) (ci' 1)) 25 0,mv' 25 15 1]
def ycnf:LO:=[o3 (.mv (.const (.int .i64 (-1)))) 6 0]
def c204:SC:=(.seq (.reg false ydao) (.seq (.seq (.reg false ycyb) (.block 0 (.loop (.seq (.reg false ycvi) (.seq (.cond (.tmp 16) .skip (.exit 0)) (.seq (.block 1 (.seq (.reg false ycnd) (.seq (.reg false ycss) (.cond (.tmp 23) (.seq (.reg false ydat) .ret) .skip)))) (.reg false ycxw))))))) (.seq (.reg false ycnf) .ret)))
theorem ydgy:Fn 204 c204 [.t 6]:=fn_0 Tryz.func204 (by kernel_rfl) (by kernel_rfl)
def ycyk:LO:=[o3 (.mv (ci' 0)) 2 0]
def ycml:LO:=[mv' 0 3 0]
def ycqs:LO:=[o3 (.mv (ci' 1)) 2 0]
def ycts:LO:=[o3 (.mv (ci' 0)) 2 0]
def c240:SC:=(.seq (.reg false ycyk) (.seq (.seq (.reg false ycml) (.cond (.tmp 3) (.seq (.reg false ycqs) .ret) .skip)) (.seq (.reg false ycts) .ret)))
theorem ydbp:Fn 240 c240 [.t 2]:=fn_0 Tryz.func240 (by kernel_rfl) (by kernel_rfl)
def ycuk:LO:=[o3 (.mv (ci' 0)) 2 0]
def yczx:LO:=[mv' 0 3 0,o3 (.mm false (.tmp 3) (ci' 1073741824)) 4 1,o3 (.mm true (.const (.int .i64 (-1073741824))) (.tmp 4)) 5 3,mv' 5 2 7]
def c242:SC:=(.seq (.reg false ycuk) (.seq (.reg false yczx) .ret))
theorem ydcp:Fn 242 c242 [.t 2]:=fn_0 Tryz.func242 (by kernel_rfl) (by kernel_rfl)
def ycsp:LO:=[o3 (.mv (ci' 0)) 4 0]
def yczp:LO:=[mv' 0 5 0,o3 (.bin .eql (.tmp 5) (ci' 18)) 6 1]
def ydac:LO:=[mv' 1 7 0,o3 (.un .neg (.tmp 7)) 8 1,mv' 8 4 3]
def ycmx:LO:=[mv' 1 9 0,o3 (.bin .eql (.tmp 9) (ci' 0)) 10 1,cl' 240 [10] 11 3,mv' 11 4 7]
def c221:SC:=(.seq (.reg false ycsp) (.seq (.seq (.reg false yczp) (.cond (.tmp 6) (.seq (.reg false ydac) .ret) .skip)) (.seq (.reg false ycmx) .ret)))
theorem ydeo:Fn 221 c221 [.t 4]:=fn_0 Tryz.func221 (by kernel_rfl) (by kernel_rfl)
def ycus:LO:=[o3 (.mv (ci' 0)) 6 0]
def ycwo:LO:=[mv' 0 7 0]
def ycop:LO:=[o3 (.bin .eql (.tmp 7) (ci' 30)) 9 0,mv' 9 8 1]
def ydav:LO:=[mv' 1 10 0,mv' 2 11 0,bn' .mul 10 11 12 3,cl' 242 [12] 13 7,mv' 13 6 15]
def ycva:LO:=[o3 (.bin .eql (.tmp 7) (ci' 31)) 15 0,mv' 15 14 1]
def ycyf:LO:=[mv' 1 16 0,mv' 2 17 0,cl' 243 [16,17] 18 3,cl' 242 [18] 19 7,mv' 19 6 15]
def ycsw:LO:=[o3 (.bin .eql (.tmp 7) (ci' 32)) 21 0,mv' 21 20 1]
def ycpx:LO:=[mv' 2 22 0,o3 (.bin .eql (.tmp 22) (ci' 0)) 23 1]
def ycom:LO:=[o3 (.mv (ci' 0)) 6 0]
def ycvj:LO:=[mv' 1 24 0,mv' 2 25 0,mv' 1 26 0,mv' 2 27 0,cl' 243 [26,27] 28 12,bn' .mul 25 28 29 30,bn' .sub 24 29 30 63,cl' 242 [30] 31 127,mv' 31 6 255]
def ybzy:LO:=[o3 (.bin .eql (.tmp 7) (ci' 33)) 33 0,mv' 33 32 1]
def ycav:LO:=[mv' 1 34 0,mv' 2 35 0,bn' .add 34 35 36 3,cl' 242 [36] 37 7,mv' 37 6 15]
def ybxk:LO:=[o3 (.bin .eql (.tmp 7) (ci' 34)) 39 0,mv' 39 38 1]
def yccu:LO:=[mv' 1 40 0,mv' 2 41 0,bn' .sub 40 41 42 3,cl' 242 [42] 43 7,mv' 43 6 15]
def ycbt:LO:=[o3 (.bin .eql (.tmp 7) (ci' 41)) 45 0,mv' 45 44 1]
def ycbu:LO:=[mv' 1 46 0,o3 (.bin .neq (.tmp 46) (ci' 0)) 47 1,mv' 47 48 3,⟨.mv (.tmp 2),some 49,some (48,true),7⟩,⟨.bin .neq (.tmp 49) (ci' 0),some 50,some (48,true),15⟩,o3 (.pick (.tmp 48) (.tmp 50) (.const (.bool false))) 51 31,cl' 240 [51] 52 63,mv' 52 6 127]
def ybtu:LO:=[o3 (.bin .eql (.tmp 7) (ci' 42)) 54 0,mv' 54 53 1]
def ybta:LO:=[mv' 1 55 0,o3 (.bin .neq (.tmp 55) (ci' 0)) 56 1,mv' 56 57 3,⟨.mv (.tmp 2),some 58,some (57,false),7⟩,⟨.bin .neq (.tmp 58) (ci' 0),some 59,some (57,false),15⟩,o3 (.pick (.tmp 57) (.const (.bool true)) (.tmp 59)) 60 31,cl' 240 [60] 61 63,mv' 61 6 127]
def ycei:LO:=[mv' 0 62 0,mv' 1 63 0,mv' 2 64 0,cl' 244 [62,63,64] 65 7,cl' 240 [65] 66 15,mv' 66 6 31]
def c223:SC:=(.seq (.reg false ycus) (.seq (.seq (.reg false ycwo) (.block 0 (.seq (.reg false ycop) (.cond (.tmp 8) (.seq (.reg false ydav) .ret) (.seq (.reg false ycva) (.cond (.tmp 14) (.seq (.reg false ycyf) .ret) (.seq (.reg false ycsw) (.cond (.tmp 20) (.seq (.seq (.reg false ycpx) (.cond (.tmp 23) (.seq (.reg false ycom) .ret) .skip)) (.seq (.reg false ycvj) .ret)) (.seq (.reg false ybzy) (.cond (.tmp 32) (.seq (.reg false ycav) .ret) (.seq (.reg false ybxk) (.cond (.tmp 38) (.seq (.reg false yccu) .ret) (.seq (.reg false ycbt) (.cond (.tmp 44) (.seq (.reg false ycbu) .ret) (.seq (.reg false ybtu) (.cond (.tmp 53) (.seq (.reg false ybta) .ret) .skip)))))))))))))))) (.seq (.reg false ycei) .ret)))
theorem ydhy:Fn 223 c223 [.t 6]:=fn_0 Tryz.func223 (by kernel_rfl) (by kernel_rfl)
def ydag:LO:=[o3 (.mv (ci' 0)) 4 0]
def ycpl:LO:=[mv' 1 6 0,o3 (.bin .eql (.tmp 6) (ci' 0)) 7 1]
def ycrc:LO:=[o3 (.mv (ci' 0)) 4 0]
def ycwz:LO:=[mv' 0 8 0,mv' 1 9 0,bn' .quo 8 9 10 3,mv' 10 5 7]
def ycto:LO:=[mv' 0 11 0,mv' 1 12 0,bn' .rem 11 12 13 3,o3 (.bin .neq (.tmp 13) (ci' 0)) 14 7,mv' 14 15 15,⟨.mv (.tmp 0),some 16,some (15,true),31⟩,⟨.bin .lss (.tmp 16) (ci' 0),some 17,some (15,true),63⟩,⟨.mv (.tmp 1),some 18,some (15,true),31⟩,⟨.bin .lss (.tmp 18) (ci' 0),some 19,some (15,true),159⟩,⟨.beq true (.tmp 17) (.tmp 19),some 20,some (15,true),511⟩,o3 (.pick (.tmp 15) (.tmp 20) (.const (.bool false))) 21 1023]
def ycye:LO:=[mv' 5 22 0,o3 (.bin .sub (.tmp 22) (ci' 1)) 23 1,mv' 23 5 3]
def ycoc:LO:=[mv' 5 24 0,mv' 24 4 1]
def c243:SC:=(.seq (.reg false ydag) (.seq (.seq (.reg false ycpl) (.cond (.tmp 7) (.seq (.reg false ycrc) .ret) .skip)) (.seq (.reg false ycwz) (.seq (.seq (.reg false ycto) (.cond (.tmp 21) (.reg false ycye) .skip)) (.seq (.reg false ycoc) .ret)))))
theorem ydgt:Fn 243 c243 [.t 4]:=fn_0 Tryz.func243 (by kernel_rfl) (by kernel_rfl)
def ycyg:LO:=[o3 (.mv (.const (.bool false))) 6 0]
def yctu:LO:=[mv' 0 7 0]
def ycod:LO:=[o3 (.bin .eql (.tmp 7) (ci' 35)) 9 0,mv' 9 8 1]
def ycta:LO:=[mv' 1 10 0,mv' 2 11 0,bn' .eql 10 11 12 3,mv' 12 6 7]
def ycni:LO:=[o3 (.bin .eql (.tmp 7) (ci' 36)) 14 0,mv' 14 13 1]
def ycvv:LO:=[mv' 1 15 0,mv' 2 16 0,bn' .neq 15 16 17 3,mv' 17 6 7]
def ycoi:LO:=[o3 (.bin .eql (.tmp 7) (ci' 37)) 19 0,mv' 19 18 1]
def ycuf:LO:=[mv' 1 20 0,mv' 2 21 0,bn' .lss 20 21 22 3,mv' 22 6 7]
def ydaj:LO:=[o3 (.bin .eql (.tmp 7) (ci' 38)) 24 0,mv' 24 23 1]
def ycmy:LO:=[mv' 1 25 0,mv' 2 26 0,bn' .leq 25 26 27 3,mv' 27 6 7]
def yceo:LO:=[o3 (.bin .eql (.tmp 7) (ci' 39)) 29 0,mv' 29 28 1]
def ybxj:LO:=[mv' 1 30 0,mv' 2 31 0,bn' .gtr 30 31 32 3,mv' 32 6 7]
def ybwr:LO:=[mv' 1 33 0,mv' 2 34 0,bn' .geq 33 34 35 3,mv' 35 6 7]
def c244:SC:=(.seq (.reg false ycyg) (.seq (.seq (.reg false yctu) (.block 0 (.seq (.reg false ycod) (.cond (.tmp 8) (.seq (.reg false ycta) .ret) (.seq (.reg false ycni) (.cond (.tmp 13) (.seq (.reg false ycvv) .ret) (.seq (.reg false ycoi) (.cond (.tmp 18) (.seq (.reg false ycuf) .ret) (.seq (.reg false ydaj) (.cond (.tmp 23) (.seq (.reg false ycmy) .ret) (.seq (.reg false yceo) (.cond (.tmp 28) (.seq (.reg false ybxj) .ret) .skip)))))))))))) (.seq (.reg false ybwr) .ret)))
theorem ydhs:Fn 244 c244 [.t 6]:=fn_0 Tryz.func244 (by kernel_rfl) (by kernel_rfl)
def yctt:LO:=[o3 (.mv (ci' 0)) 4 0]
def ycsb:LO:=[mv' 0 15 0]
def ycrq:LO:=[o3 (.bin .eql (.tmp 15) (ci' 20)) 17 0,mv' 17 16 1]
def ycwk:LO:=[mv' 1 18 0,cl' 250 [18] 19 1,mv' 1 20 0,ln' 20 21 4,bn' .eql 19 21 22 15,cl' 240 [22] 23 31,mv' 23 4 63]
def yczd:LO:=[o3 (.bin .eql (.tmp 15) (ci' 21)) 25 0,mv' 25 24 1]
def ycpp:LO:=[mv' 1 26 0,cl' 250 [26] 27 1,o3 (.bin .gtr (.tmp 27) (ci' 0)) 28 3,cl' 240 [28] 29 7,mv' 29 4 15]
def ycps:LO:=[o3 (.bin .eql (.tmp 15) (ci' 22)) 31 0,mv' 31 30 1]
def ydak:LO:=[mv' 1 32 0,cl' 250 [32] 33 1,mv' 33 4 3]
def ycyp:LO:=[o3 (.bin .eql (.tmp 15) (ci' 23)) 35 0,mv' 35 34 1]
def ydas:LO:=[mv' 1 36 0,o3 (.call (.func 251) [(.tmp 36),(.func 252)]) 37 1,mv' 37 4 3]
def ycan:LO:=[o3 (.bin .eql (.tmp 15) (ci' 24)) 39 0,mv' 39 38 1]
def ybwk:LO:=[o3 (.mv (ci' 1073741824)) 5 0]
def ycbw:LO:=[mv' 1 40 0,ln' 40 41 1,o3 (.mv (ci' 0)) 42 0]
def ybvk:LO:=[bn' .lss 42 41 43 0]
def ybva:LO:=[ix' 1 40 42 44 0,ld' false 1 44 45 1,mv' 45 7 3]
def ycdc:LO:=[mv' 5 46 0,mv' 7 47 0,o3 (.mm false (.tmp 46) (.tmp 47)) 48 3,mv' 48 5 7]
def ybyk:LO:=[o3 (.bin .add (.tmp 42) (ci' 1)) 49 0,mv' 49 42 1]
def ycez:LO:=[mv' 5 50 0,mv' 50 4 1]
def ycbj:LO:=[o3 (.bin .eql (.tmp 15) (ci' 25)) 52 0,mv' 52 51 1]
def ybux:LO:=[mv' 1 54 0,cl' 253 [54] 55 1,mv' 55 53 3,xt' 53 0 56 7,xt' 53 1 57 7,mv' 56 8 15,mv' 57 9 63]
def ycbk:LO:=[mv' 8 58 0,mv' 58 4 1]
def ybxg:LO:=[o3 (.bin .eql (.tmp 15) (ci' 26)) 60 0,mv' 60 59 1]
def ybzl:LO:=[o3 (.mv (ci' 0)) 10 0]
def ybsw:LO:=[mv' 1 61 0,ln' 61 62 1,o3 (.mv (ci' 0)) 63 0]
def ybzn:LO:=[bn' .lss 63 62 64 0]
def ycdl:LO:=[ix' 1 61 63 65 0,ld' false 1 65 66 1,mv' 66 12 3]
def ybxq:LO:=[mv' 10 67 0,mv' 12 68 0,bn' .add 67 68 69 3,mv' 69 10 7]
def ybxx:LO:=[o3 (.bin .add (.tmp 63) (ci' 1)) 70 0,mv' 70 63 1]
def ybun:LO:=[mv' 10 71 0,cl' 242 [71] 72 1,mv' 72 4 3]
def ybvg:LO:=[o3 (.bin .eql (.tmp 15) (ci' 27)) 74 0,mv' 74 73 1]
def ybvt:LO:=[mv' 1 75 0,cl' 254 [75] 76 1,mv' 76 4 3]
def ycat:LO:=[o3 (.bin .eql (.tmp 15) (ci' 28)) 78 0,mv' 78 77 1]
def ycdf:LO:=[mv' 1 80 0,cl' 253 [80] 81 1,mv' 81 79 3,xt' 79 0 82 7,xt' 79 1 83 7,mv' 82 13 15,mv' 83 14 63]
def ybui:LO:=[mv' 14 84 0,mv' 84 4 1]
def ybwg:LO:=[mv' 1 85 0,ln' 85 86 1,o3 (.bin .eql (.tmp 86) (ci' 0)) 87 3]
def ybxc:LO:=[o3 (.mv (ci' 0)) 4 0]
def ybvy:LO:=[mv' 1 88 0,o3 (.idx 1 (.tmp 88) (ci' 0)) 89 1,ld' false 1 89 90 3,mv' 90 4 7]
def c241:SC:=(.seq (.reg false yctt) (.seq (.seq (.reg false ycsb) (.block 0 (.seq (.reg false ycrq) (.cond (.tmp 16) (.seq (.reg false ycwk) .ret) (.seq (.reg false yczd) (.cond (.tmp 24) (.seq (.reg false ycpp) .ret) (.seq (.reg false ycps) (.cond (.tmp 30) (.seq (.reg false ydak) .ret) (.seq (.reg false ycyp) (.cond (.tmp 34) (.seq (.reg false ydas) .ret) (.seq (.reg false ycan) (.cond (.tmp 38) (.seq (.reg false ybwk) (.seq (.seq (.reg false ycbw) (.block 1 (.loop (.seq (.reg false ybvk) (.seq (.cond (.tmp 43) .skip (.exit 1)) (.seq (.block 2 (.seq (.reg false ybva) (.reg false ycdc))) (.reg false ybyk))))))) (.seq (.reg false ycez) .ret))) (.seq (.reg false ycbj) (.cond (.tmp 51) (.seq (.reg false ybux) (.seq (.reg false ycbk) .ret)) (.seq (.reg false ybxg) (.cond (.tmp 59) (.seq (.reg false ybzl) (.seq (.seq (.reg false ybsw) (.block 3 (.loop (.seq (.reg false ybzn) (.seq (.cond (.tmp 64) .skip (.exit 3)) (.seq (.block 4 (.seq (.reg false ycdl) (.reg false ybxq))) (.reg false ybxx))))))) (.seq (.reg false ybun) .ret))) (.seq (.reg false ybvg) (.cond (.tmp 73) (.seq (.reg false ybvt) .ret) (.seq (.reg false ycat) (.cond (.tmp 77) (.seq (.reg false ycdf) (.seq (.reg false ybui) .ret)) .skip)))))))))))))))))))) (.seq (.seq (.reg false ybwg) (.cond (.tmp 87) (.seq (.reg false ybxc) .ret) .skip)) (.seq (.reg false ybvy) .ret))))
theorem ydkd:Fn 241 c241 [.t 4]:=fn_0 Tryz.func241 (by kernel_rfl) (by kernel_rfl)
def ycwv:LO:=[o3 (.mv (.const (.bool false))) 2 0]
def ycmn:LO:=[mv' 0 3 0,o3 (.bin .neq (.tmp 3) (ci' 0)) 4 1,mv' 4 2 3]
def c252:SC:=(.seq (.reg false ycwv) (.seq (.reg false ycmn) .ret))
theorem ydki:Fn 252 c252 [.t 2]:=fn_0 Tryz.func252 (by kernel_rfl) (by kernel_rfl)
def ycup:LO:=[o3 (.mv (ci' 0)) 2 0]
def ycoz:LO:=[o3 (.mv (ci' 0)) 3 0]
def ydbd:LO:=[mv' 0 6 0,ln' 6 7 1,o3 (.mv (ci' 0)) 8 0]
def ycqe:LO:=[bn' .lss 8 7 9 0]
def ydaz:LO:=[ix' 1 6 8 10 0,ld' false 1 10 11 1,mv' 11 5 3]
def ycvm:LO:=[mv' 5 12 0,o3 (.bin .neq (.tmp 12) (ci' 0)) 13 1]
def ycui:LO:=[mv' 3 14 0,o3 (.bin .add (.tmp 14) (ci' 1)) 15 1,mv' 15 3 3]
def ycxo:LO:=[o3 (.bin .add (.tmp 8) (ci' 1)) 16 0,mv' 16 8 1]
def ycrv:LO:=[mv' 3 17 0,mv' 17 2 1]
def c250:SC:=(.seq (.reg false ycup) (.seq (.reg false ycoz) (.seq (.seq (.reg false ydbd) (.block 0 (.loop (.seq (.reg false ycqe) (.seq (.cond (.tmp 9) .skip (.exit 0)) (.seq (.block 1 (.seq (.reg false ydaz) (.seq (.reg false ycvm) (.cond (.tmp 13) (.reg false ycui) .skip)))) (.reg false ycxo))))))) (.seq (.reg false ycrv) .ret))))
theorem ydcn:Fn 250 c250 [.t 2]:=fn_0 Tryz.func250 (by kernel_rfl) (by kernel_rfl)
def ydaw:LO:=[o3 (.mv (ci' 0)) 2 0,o3 (.mv (ci' 0)) 3 1]
def ycvl:LO:=[o3 (.mv (.const (.int .i64 (-1073741824)))) 2 0,o3 (.mv (.const (.int .i64 (-1073741824)))) 3 1]
def yczr:LO:=[mv' 0 6 0,ln' 6 7 1,o3 (.mv (ci' 0)) 8 0]
def ydbb:LO:=[bn' .lss 8 7 9 0]
def ycqz:LO:=[ix' 1 6 8 10 0,ld' false 1 10 11 1,mv' 11 5 3]
def ycwf:LO:=[mv' 5 12 0,mv' 2 13 0,bn' .gtr 12 13 14 3]
def ydad:LO:=[mv' 5 15 0,mv' 2 16 0,mv' 15 2 3,mv' 16 3 7]
def ycmz:LO:=[mv' 3 17 0,mv' 5 18 0,o3 (.mm true (.tmp 17) (.tmp 18)) 19 3,mv' 19 3 7]
def ycsd:LO:=[o3 (.bin .add (.tmp 8) (ci' 1)) 20 0,mv' 20 8 1]
def ydap:LO:=[mv' 2 21 0,mv' 3 22 0,mv' 21 2 1,mv' 22 3 7]
def c253:SC:=(.seq (.reg false ydaw) (.seq (.reg false ycvl) (.seq (.seq (.reg false yczr) (.block 0 (.loop (.seq (.reg false ydbb) (.seq (.cond (.tmp 9) .skip (.exit 0)) (.seq (.block 1 (.seq (.reg false ycqz) (.seq (.reg false ycwf) (.cond (.tmp 14) (.reg false ydad) (.reg false ycmz))))) (.reg false ycsd))))))) (.seq (.reg false ydap) .ret))))
theorem ydke:Fn 253 c253 [.t 2,.t 3]:=fn_0 Tryz.func253 (by kernel_rfl) (by kernel_rfl)
def yctv:LO:=[o3 (.mv (ci' 0)) 2 0]
def ycws:LO:=[o3 (.mv (ci' 0)) 3 0]
def ydal:LO:=[mv' 0 4 0,mv' 3 5 0,cl' 258 [4,5] 6 3]
def ycnk:LO:=[mv' 3 7 0,o3 (.bin .add (.tmp 7) (ci' 1)) 8 1,mv' 8 3 3]
def ycyo:LO:=[mv' 3 9 0,mv' 9 2 1]
def c254:SC:=(.seq (.reg false yctv) (.seq (.reg false ycws) (.seq (.block 0 (.loop (.seq (.seq (.reg false ydal) (.cond (.tmp 6) .skip (.exit 0))) (.block 1 (.reg false ycnk))))) (.seq (.reg false ycyo) .ret))))
theorem ydcy:Fn 254 c254 [.t 2]:=fn_0 Tryz.func254 (by kernel_rfl) (by kernel_rfl)
def ycyz:LO:=[o3 (.box 32 (.tmp 0)) 2 0,o3 (.box 27 (.tmp 1)) 3 0,o3 (.mv (.const (.pointer none))) 4 0]
def ycti:LO:=[ld' true 3 2 10 0,ld' true 2 3 11 0,fa' 1 1 3 12 0,ld' false 1 12 13 4,ln' 13 14 12,o3 (.mk 22 1 24 [.a (.slice none 0 0)] (.tmp 14) (.tmp 14)) 15 28,o3 (.build [.a (.string (ByteArray.mk #[])),.a (.slice none 0 0),.a (.slice none 0 0),.a (.slice none 0 0),.a (.slice none 0 0),.i .i64 0,.a (.slice none 0 0)] [(0,3,(.tmp 10)),(3,2,(.tmp 11)),(6,1,(.tmp 15))]) 16 63,o3 (.box 235 (.tmp 16)) 17 127,mv' 17 5 255]
def ycvq:LO:=[fa' 1 1 3 18 0,ld' false 1 18 19 1,ln' 19 20 3,o3 (.mv (ci' 0)) 21 0]
def ycqu:LO:=[bn' .lss 21 20 22 0]
def ycmm:LO:=[mv' 21 23 0,ix' 1 19 21 24 0,ld' false 1 24 25 2,mv' 23 6 7,mv' 25 7 15]
def ycoj:LO:=[mv' 5 26 0,mv' 5 27 0,o3 (.nilck (.tmp 27)) 28 2,fa' 5 1 28 29 6,ld' false 1 29 30 14,fa' 0 1 3 31 0,ld' false 1 31 32 32,mv' 6 33 0,ix' 1 32 33 34 224,ld' false 1 34 35 480,o3 (.mm true (.tmp 30) (.tmp 35)) 36 1022,o3 (.nilck (.tmp 26)) 37 2047,fa' 5 1 37 38 4095,o0 (.store 1 (.tmp 38) (.tmp 36)) 8191]
def ycsr:LO:=[mv' 7 39 0,ln' 39 40 1,o3 (.mv (ci' 0)) 41 0]
def ycsa:LO:=[bn' .lss 41 40 42 0]
def yczz:LO:=[ix' 2 39 41 43 0,ld' true 2 43 44 1,o3 (.alloc 68 1 [.i .i64 0,.i .i64 0]) 9 0,o0 (.store 2 (.tmp 9) (.tmp 44)) 7]
def ycuw:LO:=[mv' 5 45 0,o3 (.nilck (.tmp 45)) 46 1,fa' 6 1 46 47 3,ld' false 1 47 48 7,mv' 6 49 0,mv' 5 50 0,o3 (.nilck (.tmp 50)) 51 32,fa' 6 1 51 52 96,ld' false 1 52 53 224,mv' 6 54 0,ix' 1 53 54 55 992,ld' false 1 55 56 2016,ld' true 2 3 57 0,fa' 0 1 9 58 0,ld' false 1 58 59 8192,mv' 6 60 0,cl' 204 [57,59,60] 61 61440,o3 (.bslice 3 1 1 [.i .i64 0] [(0,1,(.tmp 61))]) 62 126976,o3 (.app 3 1 8 (.tmp 56) (.tmp 62)) 63 262112,ix' 1 48 49 64 524287,o0 (.store 1 (.tmp 64) (.tmp 63)) 1048575]
def ycee:LO:=[o3 (.bin .add (.tmp 41) (ci' 1)) 65 0,mv' 65 41 1]
def ybzx:LO:=[o3 (.bin .add (.tmp 21) (ci' 1)) 66 0,mv' 66 21 1]
def ybzt:LO:=[mv' 5 67 0,mv' 67 4 1]
def c167:SC:=(.seq (.reg false ycyz) (.seq (.reg true ycti) (.seq (.seq (.reg false ycvq) (.block 0 (.loop (.seq (.reg false ycqu) (.seq (.cond (.tmp 22) .skip (.exit 0)) (.seq (.block 1 (.seq (.reg false ycmm) (.seq (.reg true ycoj) (.seq (.reg false ycsr) (.block 2 (.loop (.seq (.reg false ycsa) (.seq (.cond (.tmp 42) .skip (.exit 2)) (.seq (.block 3 (.seq (.reg false yczz) (.reg true ycuw))) (.reg false ycee)))))))))) (.reg false ybzx))))))) (.seq (.reg false ybzt) .ret))))
theorem ydgv:Fn 167 c167 [.t 4]:=fn_0 Tryz.func167 (by kernel_rfl) (by kernel_rfl)
def yctm:LO:=[o3 (.mv (ci' 0)) 8 0]
def yczu:LO:=[mv' 1 10 0]
def ycuj:LO:=[o3 (.bin .eql (.tmp 10) (ci' 6)) 12 0,mv' 12 11 1]
def yctk:LO:=[mv' 0 13 0,o3 (.nilck (.tmp 13)) 14 1,fa' 3 2 14 15 3,fa' 0 1 15 16 7,ld' false 1 16 17 15,ln' 17 18 31,mv' 18 8 63]
def ycmg:LO:=[o3 (.bin .eql (.tmp 10) (ci' 7)) 20 0,mv' 20 19 1]
def ycvw:LO:=[mv' 0 21 0,o3 (.nilck (.tmp 21)) 22 1,fa' 5 1 22 23 3,ld' false 1 23 24 7,mv' 24 8 15]
def ycwp:LO:=[o3 (.bin .eql (.tmp 10) (ci' 8)) 26 0,mv' 26 25 1]
def ycsm:LO:=[mv' 0 27 0,o3 (.nilck (.tmp 27)) 28 1,fa' 3 2 28 29 3,fa' 0 1 29 30 7,ld' false 1 30 31 15,mv' 2 32 0,ix' 1 31 32 33 63,ld' false 1 33 34 127,mv' 34 8 255]
def ycnq:LO:=[o3 (.bin .eql (.tmp 10) (ci' 9)) 36 0,mv' 36 35 1]
def ycze:LO:=[mv' 0 37 0,o3 (.nilck (.tmp 37)) 38 1,fa' 3 2 38 39 3,fa' 1 1 39 40 7,ld' false 1 40 41 15,mv' 2 42 0,ix' 1 41 42 43 63,ld' false 1 43 44 127,ln' 44 45 255,mv' 45 8 511]
def ycba:LO:=[o3 (.bin .eql (.tmp 10) (ci' 10)) 47 0,mv' 47 46 1]
def ybtt:LO:=[mv' 2 48 0,o3 (.bin .eql (.tmp 48) (ci' 0)) 49 1,cl' 240 [49] 50 3,mv' 50 8 7]
def yccw:LO:=[o3 (.bin .eql (.tmp 10) (ci' 11)) 52 0,mv' 52 51 1]
def ybuj:LO:=[mv' 3 53 0,mv' 53 8 1]
def ybwz:LO:=[mv' 0 54 0,o3 (.nilck (.tmp 54)) 55 1,fa' 3 2 55 56 3,fa' 1 1 56 57 7,ld' false 1 57 58 15,mv' 2 59 0,ix' 1 58 59 60 63,ld' false 1 60 61 127,mv' 3 62 0,ix' 2 61 62 63 511,ld' true 2 63 64 1023,o3 (.alloc 68 1 [.i .i64 0,.i .i64 0]) 9 0,o0 (.store 2 (.tmp 9) (.tmp 64)) 4095]
def ycdi:LO:=[mv' 1 65 0]
def ybtr:LO:=[o3 (.bin .eql (.tmp 65) (ci' 13)) 67 0,mv' 67 66 1]
def ybyc:LO:=[mv' 0 68 0,o3 (.nilck (.tmp 68)) 69 1,fa' 3 2 69 70 3,fa' 0 1 70 71 7,ld' false 1 71 72 15,fa' 0 1 9 73 0,ld' false 1 73 74 32,ix' 1 72 74 75 127,ld' false 1 75 76 255,mv' 76 8 511]
def ybvx:LO:=[o3 (.bin .eql (.tmp 65) (ci' 14)) 78 0,mv' 78 77 1]
def ycfg:LO:=[mv' 0 79 0,o3 (.nilck (.tmp 79)) 80 1,fa' 3 2 80 81 3,fa' 1 1 81 82 7,ld' false 1 82 83 15,fa' 0 1 9 84 0,ld' false 1 84 85 32,ix' 1 83 85 86 127,ld' false 1 86 87 255,ln' 87 88 511,mv' 88 8 1023]
def ybyb:LO:=[o3 (.bin .eql (.tmp 65) (ci' 15)) 90 0,mv' 90 89 1]
def ybts:LO:=[fa' 0 1 9 91 0,ld' false 1 91 92 1,o3 (.bin .eql (.tmp 92) (ci' 0)) 93 3,cl' 240 [93] 94 7,mv' 94 8 15]
def ybxy:LO:=[o3 (.bin .eql (.tmp 65) (ci' 16)) 96 0,mv' 96 95 1]
def yccb:LO:=[fa' 1 1 9 97 0,ld' false 1 97 98 1,mv' 98 8 3]
def ybws:LO:=[mv' 0 99 0,o3 (.nilck (.tmp 99)) 100 1,fa' 6 1 100 101 3,ld' false 1 101 102 7,mv' 2 103 0,ix' 1 102 103 104 31,ld' false 1 104 105 63,mv' 3 106 0,ix' 1 105 106 107 255,ld' false 1 107 108 511,mv' 108 8 1023]
def c239:SC:=(.seq (.reg false yctm) (.seq (.seq (.reg false yczu) (.block 0 (.seq (.reg false ycuj) (.cond (.tmp 11) (.seq (.reg false yctk) .ret) (.seq (.reg false ycmg) (.cond (.tmp 19) (.seq (.reg false ycvw) .ret) (.seq (.reg false ycwp) (.cond (.tmp 25) (.seq (.reg false ycsm) .ret) (.seq (.reg false ycnq) (.cond (.tmp 35) (.seq (.reg false ycze) .ret) (.seq (.reg false ycba) (.cond (.tmp 46) (.seq (.reg false ybtt) .ret) (.seq (.reg false yccw) (.cond (.tmp 51) (.seq (.reg false ybuj) .ret) .skip)))))))))))))) (.seq (.reg false ybwz) (.seq (.seq (.reg false ycdi) (.block 1 (.seq (.reg false ybtr) (.cond (.tmp 66) (.seq (.reg true ybyc) .ret) (.seq (.reg false ybvx) (.cond (.tmp 77) (.seq (.reg true ycfg) .ret) (.seq (.reg false ybyb) (.cond (.tmp 89) (.seq (.reg false ybts) .ret) (.seq (.reg false ybxy) (.cond (.tmp 95) (.seq (.reg false yccb) .ret) .skip)))))))))) (.seq (.reg false ybws) .ret)))))
theorem yddi:Fn 239 c239 [.t 8]:=fn_0 Tryz.func239 (by kernel_rfl) (by kernel_rfl)
def yctp:LO:=[o3 (.mv (ci' 0)) 8 0]
def ycrm:LO:=[mv' 0 12 0,mv' 1 13 0,mv' 2 14 0,mv' 3 15 0,o3 (.build [.a (.pointer none),.a (.slice none 0 0),.i .i64 0,.a (.slice none 0 0)] [(0,1,(.tmp 12)),(1,1,(.tmp 13)),(2,1,(.tmp 14)),(3,1,(.tmp 15))]) 16 15,o3 (.alloc 237 1 [.a (.pointer none),.a (.slice none 0 0),.i .i64 0,.a (.slice none 0 0)]) 9 0,o0 (.store 4 (.tmp 9) (.tmp 16)) 63]
def ycun:LO:=[o3 (.call (.func 205) [(.tmp 9),(ci' 0),(.const (.int .i64 (-1)))]) 18 0,mv' 18 17 1,xt' 17 0 19 3,xt' 17 1 20 3,mv' 19 10 7,mv' 20 11 31]
def ycxv:LO:=[mv' 10 21 0,mv' 21 8 1]
def c169:SC:=(.seq (.reg false yctp) (.seq (.reg false ycrm) (.seq (.reg false ycun) (.seq (.reg false ycxv) .ret))))
theorem ydjj:Fn 169 c169 [.t 8]:=fn_0 Tryz.func169 (by kernel_rfl) (by kernel_rfl)
def ycql:LO:=[o3 (.mv (.const (.bool false))) 8 0]
def ycyq:LO:=[mv' 0 9 0,mv' 1 10 0,mv' 2 11 0,mv' 0 12 0,o3 (.nilck (.tmp 12)) 13 8,fa' 0 3 13 14 24,fa' 2 1 14 15 56,ld' false 1 15 16 120,mv' 3 17 0,ix' 3 16 17 18 504,fa' 1 1 18 19 1016,ld' false 1 19 20 2040,cl' 169 [9,10,11,20] 21 4095,o3 (.bin .neq (.tmp 21) (ci' 0)) 22 8191,mv' 22 8 16383]
def c168:SC:=(.seq (.reg false ycql) (.seq (.reg false ycyq) .ret))
theorem ydik:Fn 168 c168 [.t 8]:=fn_0 Tryz.func168 (by kernel_rfl) (by kernel_rfl)
def yxn:LO:=[o3 (.mv (ci' 0)) 6 0,o3 (.mv (ci' 0)) 7 1]
def ywy:LO:=[mv' 0 18 0,o3 (.nilck (.tmp 18)) 19 1,fa' 3 1 19 20 3,ld' false 1 20 21 7,mv' 1 22 0,ix' 2 21 22 23 31,ld' true 2 23 24 63,o3 (.alloc 251 1 [.i .i64 0,.i .i64 0]) 8 0,o0 (.store 2 (.tmp 8) (.tmp 24)) 255]
def yws:LO:=[fa' 0 1 8 26 0,ld' false 1 26 27 1,o3 (.bin .leq (.tmp 27) (ci' 17)) 28 3,mv' 28 25 7]
def ywt:LO:=[mv' 0 29 0,ld' true 2 8 30 0,mv' 2 31 0,cl' 220 [29,30,31] 32 7,mv' 1 33 0,o3 (.bin .add (.tmp 33) (ci' 1)) 34 16,mv' 32 6 15,mv' 34 7 127]
def ywl:LO:=[fa' 0 1 8 36 0,ld' false 1 36 37 1,o3 (.bin .leq (.tmp 37) (ci' 19)) 38 3,mv' 38 35 7]
def ywp:LO:=[mv' 0 40 0,mv' 1 41 0,o3 (.bin .add (.tmp 41) (ci' 1)) 42 2,mv' 2 43 0,cl' 205 [40,42,43] 44 15,mv' 44 39 31,xt' 39 0 45 63,xt' 39 1 46 63,mv' 45 6 127,mv' 46 7 511]
def yxw:LO:=[fa' 0 1 8 47 0,ld' false 1 47 48 1,mv' 6 49 0,cl' 221 [48,49] 50 7,mv' 7 51 0,mv' 50 6 15,mv' 51 7 63]
def yxi:LO:=[fa' 0 1 8 53 0,ld' false 1 53 54 1,o3 (.bin .leq (.tmp 54) (ci' 29)) 55 3,mv' 55 52 7]
def ywg:LO:=[mv' 0 56 0,fa' 0 1 8 57 0,ld' false 1 57 58 2,mv' 1 59 0,cl' 222 [56,58,59] 60 15,xt' 60 0 61 31,xt' 60 1 62 31,mv' 61 6 127,mv' 62 7 255]
def yyc:LO:=[fa' 0 1 8 64 0,ld' false 1 64 65 1,o3 (.bin .leq (.tmp 65) (ci' 42)) 66 3,mv' 66 63 7]
def ypu:LO:=[mv' 0 68 0,mv' 1 69 0,o3 (.bin .add (.tmp 69) (ci' 1)) 70 2,mv' 2 71 0,cl' 205 [68,70,71] 72 15,mv' 72 67 31,xt' 67 0 73 63,xt' 67 1 74 63,mv' 73 9 127,mv' 74 10 511]
def ypm:LO:=[mv' 0 76 0,mv' 10 77 0,mv' 2 78 0,cl' 205 [76,77,78] 79 7,mv' 79 75 15,xt' 75 0 80 31,xt' 75 1 81 31,mv' 80 11 63,mv' 81 12 255]
def ypx:LO:=[fa' 0 1 8 82 0,ld' false 1 82 83 1,mv' 9 84 0,mv' 11 85 0,cl' 223 [83,84,85] 86 15,mv' 12 87 0,mv' 86 6 31,mv' 87 7 127]
def ypk:LO:=[mv' 0 89 0,mv' 1 90 0,o3 (.bin .add (.tmp 90) (ci' 1)) 91 2,mv' 2 92 0,cl' 205 [89,91,92] 93 15,mv' 93 88 31,xt' 88 0 94 63,xt' 88 1 95 63,mv' 94 13 127,mv' 95 14 511]
def ypq:LO:=[mv' 0 97 0,mv' 14 98 0,mv' 2 99 0,cl' 205 [97,98,99] 100 7,mv' 100 96 15,xt' 96 0 101 31,xt' 96 1 102 31,mv' 101 15 63,mv' 102 16 255]
def yqc:LO:=[mv' 0 104 0,mv' 16 105 0,mv' 2 106 0,cl' 205 [104,105,106] 107 7,mv' 107 103 15,xt' 103 0 108 31,xt' 103 1 109 31,mv' 108 17 63,mv' 109 7 255]
def yot:LO:=[mv' 13 110 0,o3 (.bin .neq (.tmp 110) (ci' 0)) 111 1]
def ypv:LO:=[mv' 15 112 0,mv' 7 113 0,mv' 112 6 1,mv' 113 7 7]
def ypw:LO:=[mv' 17 114 0,mv' 7 115 0,mv' 114 6 1,mv' 115 7 7]
def c205:SC:=(.seq (.reg false yxn) (.seq (.reg false ywy) (.seq (.block 0 (.seq (.reg false yws) (.cond (.tmp 25) (.seq (.reg false ywt) .ret) (.seq (.reg false ywl) (.cond (.tmp 35) (.seq (.reg false ywp) (.seq (.reg false yxw) .ret)) (.seq (.reg false yxi) (.cond (.tmp 52) (.seq (.reg false ywg) .ret) (.seq (.reg false yyc) (.cond (.tmp 63) (.seq (.reg false ypu) (.seq (.reg false ypm) (.seq (.reg false ypx) .ret))) .skip))))))))) (.seq (.reg false ypk) (.seq (.reg false ypq) (.seq (.reg false yqc) (.seq (.seq (.reg false yot) (.cond (.tmp 111) (.seq (.reg false ypv) .ret) .skip)) (.seq (.reg false ypw) .ret))))))))
theorem yun:Fn 205 c205 [.t 6,.t 7]:=fn_0 Tryz.func205 (by kernel_rfl) (by kernel_rfl)
def ycpt:LO:=[o3 (.box 251 (.tmp 1)) 4 0,o3 (.mv (ci' 0)) 6 0]
def ycum:LO:=[fa' 0 1 4 7 0,ld' false 1 7 8 1]
def ycsu:LO:=[o3 (.bin .eql (.tmp 8) (ci' 1)) 10 0,mv' 10 9 1]
def ycqv:LO:=[fa' 1 1 4 11 0,ld' false 1 11 12 1,mv' 12 6 3]
def ydah:LO:=[o3 (.bin .eql (.tmp 8) (ci' 2)) 14 0,mv' 14 13 1]
def ycyw:LO:=[o3 (.mv (ci' 1)) 6 0]
def ycqt:LO:=[o3 (.bin .eql (.tmp 8) (ci' 3)) 16 0,mv' 16 15 1]
def ycmo:LO:=[o3 (.mv (ci' 0)) 6 0]
def ycqc:LO:=[o3 (.bin .eql (.tmp 8) (ci' 4)) 18 0,mv' 18 17 1]
def yczw:LO:=[o3 (.mv (.const (.int .i64 (-1)))) 6 0]
def yccn:LO:=[o3 (.bin .eql (.tmp 8) (ci' 5)) 20 0,mv' 20 19 1]
def ycdv:LO:=[mv' 0 21 0,o3 (.nilck (.tmp 21)) 22 1,fa' 1 1 22 23 3,ld' false 1 23 24 7,mv' 0 25 0,o3 (.nilck (.tmp 25)) 26 16,fa' 2 1 26 27 48,ld' false 1 27 28 112,ix' 1 24 28 29 255,ld' false 1 29 30 511,fa' 1 1 4 31 0,ld' false 1 31 32 1024,ix' 1 30 32 33 4095,ld' false 1 33 34 8191,mv' 34 6 16383]
def ybty:LO:=[o3 (.bin .eql (.tmp 8) (ci' 12)) 36 0,mv' 36 35 1]
def ybyp:LO:=[mv' 0 37 0,o3 (.nilck (.tmp 37)) 38 1,fa' 1 1 38 39 3,ld' false 1 39 40 7,mv' 0 41 0,o3 (.nilck (.tmp 41)) 42 16,fa' 0 1 42 43 48,ld' false 1 43 44 112,o3 (.nilck (.tmp 44)) 45 240,fa' 3 2 45 46 496,fa' 1 1 46 47 1008,ld' false 1 47 48 2032,mv' 0 49 0,o3 (.nilck (.tmp 49)) 50 4096,fa' 2 1 50 51 12288,ld' false 1 51 52 28672,ix' 1 48 52 53 65520,ld' false 1 53 54 131056,mv' 2 55 0,ix' 2 54 55 56 524272,fa' 0 1 56 57 1048560,ld' false 1 57 58 2097136,ix' 1 40 58 59 4194303,ld' false 1 59 60 8388607,fa' 1 1 4 61 0,ld' false 1 61 62 16777216,ix' 1 60 62 63 67108863,ld' false 1 63 64 134217727,mv' 64 6 268435455]
def ybwh:LO:=[mv' 0 65 0,o3 (.nilck (.tmp 65)) 66 1,fa' 0 1 66 67 3,ld' false 1 67 68 7,fa' 0 1 4 69 0,ld' false 1 69 70 16,mv' 0 71 0,o3 (.nilck (.tmp 71)) 72 64,fa' 2 1 72 73 192,ld' false 1 73 74 448,mv' 2 75 0,cl' 239 [68,70,74,75] 76 2047,mv' 76 6 4095]
def c220:SC:=(.seq (.reg false ycpt) (.seq (.seq (.reg false ycum) (.block 0 (.seq (.reg false ycsu) (.cond (.tmp 9) (.seq (.reg false ycqv) .ret) (.seq (.reg false ydah) (.cond (.tmp 13) (.seq (.reg false ycyw) .ret) (.seq (.reg false ycqt) (.cond (.tmp 15) (.seq (.reg false ycmo) .ret) (.seq (.reg false ycqc) (.cond (.tmp 17) (.seq (.reg false yczw) .ret) (.seq (.reg false yccn) (.cond (.tmp 19) (.seq (.reg true ycdv) .ret) (.seq (.reg false ybty) (.cond (.tmp 35) (.seq (.reg true ybyp) .ret) .skip)))))))))))))) (.seq (.reg true ybwh) .ret)))
theorem ydhk:Fn 220 c220 [.t 6]:=fn_0 Tryz.func220 (by kernel_rfl) (by kernel_rfl)
def yczf:LO:=[o3 (.mv (ci' 0)) 6 0,o3 (.mv (ci' 0)) 7 1]
def ycuv:LO:=[o3 (.alloc 150 24 [.i .i64 0]) 8 0]
def ycpi:LO:=[mv' 0 11 0,o3 (.nilck (.tmp 11)) 12 1,fa' 0 1 12 13 3,ld' false 1 13 14 7,o3 (.nilck (.tmp 14)) 15 15,fa' 3 2 15 16 31,fa' 1 1 16 17 63,ld' false 1 17 18 127,mv' 0 19 0,o3 (.nilck (.tmp 19)) 20 256,fa' 2 1 20 21 768,ld' false 1 21 22 1792,ix' 1 18 22 23 4095,ld' false 1 23 24 8191,ln' 24 25 16383,mv' 25 9 32767]
def yday:LO:=[mv' 9 26 0,o3 (.mv (ci' 0)) 27 0]
def ycwr:LO:=[bn' .lss 27 26 28 0]
def ycuu:LO:=[mv' 27 29 0,mv' 29 10 1]
def ycut:LO:=[mv' 10 31 0,mv' 0 32 0,mv' 2 33 0,o3 (.bin .add (.tmp 33) (ci' 1)) 34 4,mv' 10 35 0,cl' 205 [32,34,35] 36 30,mv' 36 30 62,xt' 30 0 37 126,xt' 30 1 38 126,o3 (.idxA 24 1 (.tmp 8) (.tmp 31)) 39 255,o0 (.store 1 (.tmp 39) (.tmp 37)) 767,mv' 38 7 2047]
def yctg:LO:=[o3 (.bin .add (.tmp 27) (ci' 1)) 40 0,mv' 40 27 1]
def ycvt:LO:=[mv' 9 41 0,o3 (.bin .eql (.tmp 41) (ci' 0)) 42 1]
def ycrw:LO:=[mv' 0 43 0,o3 (.nilck (.tmp 43)) 44 1,fa' 3 1 44 45 3,ld' false 1 45 46 7,mv' 2 47 0,cl' 215 [46,47] 48 31,mv' 48 7 63]
def ybxu:LO:=[mv' 1 49 0,mv' 9 50 0,o3 (.cutA 24 1 (.tmp 8) none (some (.tmp 50))) 51 2,cl' 241 [49,51] 52 7,mv' 7 53 0,mv' 52 6 15,mv' 53 7 63]
def c222:SC:=(.seq (.reg false yczf) (.seq (.reg false ycuv) (.seq (.reg true ycpi) (.seq (.seq (.reg false yday) (.block 0 (.loop (.seq (.reg false ycwr) (.seq (.cond (.tmp 28) .skip (.exit 0)) (.seq (.block 1 (.seq (.reg false ycuu) (.reg false ycut))) (.reg false yctg))))))) (.seq (.seq (.reg false ycvt) (.cond (.tmp 42) (.reg false ycrw) .skip)) (.seq (.reg false ybxu) .ret))))))
theorem ydes:Fn 222 c222 [.t 6,.t 7]:=fn_0 Tryz.func222 (by kernel_rfl) (by kernel_rfl)
end Sh
end
section
def adj(g:Gr)(u v:Nat):Prop:=∃ls,g.ports[u]?=some ls/\∃l∈ls,l.1=(v:Int)
def Walk(g:Gr)(a:Nat):Nat->Nat->Prop
 |0,v=>v=a
 |k+1,v=>∃u,Walk g a k u/\adj g u v
def ydbx(g:Gr)(a v:Nat)(x:Int):Prop:=(x = -1/\∀k,¬Walk g a k v)\/∃k:Nat,x=k/\Walk g a k v/\∀j,j<k->¬Walk g a j v
def ydux(g:Gr)(a:Nat)(D:List Int):Prop:=D.length=g.ports.length/\∀v x,D[v]?=some x->ydbx g a v x
theorem ybg.link{g:Gr}(h:ybg g){v:Nat}{ls:List (Int×Int)}(hv:g.ports[v]?=some ls){l:Int×Int}(hl:l∈ls):0<=l.1/\l.1<g.ports.length/\l.1≠v/\1<=l.2/\l.2<=15:=by
 obtain⟨hlt,e⟩:=List.getElem?_eq_some_iff.1 hv;have:=(h.2.2.2.2.2.1 ⟨v,hlt⟩).1 l (by simp only[Fin.getElem_fin,e];exact hl)
 unfold ynr at this;simp only at this;omega
theorem ybg.adj_lt{g:Gr}(h:ybg g){u v:Nat}(ha:adj g u v):u<g.ports.length/\v<g.ports.length:=by
 obtain⟨ls,h1,l,hl,e⟩:=ha;have:=h.link h1 hl;exact⟨(List.getElem?_eq_some_iff.1 h1).1,by omega⟩
theorem ybg.adj_symm{g:Gr}(h:ybg g){u v:Nat}(ha:adj g u v):adj g v u:=by
 obtain⟨hu,hv⟩:=h.adj_lt ha;obtain⟨ls,h1,l,hl,e⟩:=ha;obtain⟨hlt,e1⟩:=List.getElem?_eq_some_iff.1 h1;have:=h.2.2.2.2.2.2 ⟨u,hlt⟩ l (by simp only[Fin.getElem_fin,e1];exact hl)
 rw[e,zS]at this;simp only[zG,zB hv,Option.getD_some]at this;exact⟨_,zB hv,_,this,rfl⟩
end
section
def ycim(R:List Int)(x:Int)(ls:List (Int×Int)):Bool:=ls.any (fun l=>decide (R[l.1.toNat]?=some x))
def yclb(g:Gr)(d:Int)(R:List Int)(v:Nat):List Int :=
 if decide (R.getD v 0<0)&&ycim R (d-1) (g.ports.getD v [])then R.set v d else R
def stepD(g:Gr)(R:List Int)(d:Nat):List Int:=(zH g.ports.length).foldl (yclb g d) R
def start(g:Gr)(a:Nat):List Int:=(List.replicate g.ports.length (-1)).set a 0
def ycfo(g:Gr)(a:Nat):List Int:=(zH (g.ports.length-1)).foldl (fun R d=>stepD g R (d+1)) (start g a)
def Upto(g:Gr)(a d v:Nat)(x:Int):Prop:=(x = -1/\∀k,k<=d->¬Walk g a k v)\/∃k:Nat,k<=d/\x=k/\Walk g a k v/\∀j,j<k->¬Walk g a j v
theorem Upto.eq{g:Gr}{a d v:Nat}{x:Int}(h:Upto g a d v x){k:Nat}(hk:k<=d):x=k↔Walk g a k v/\∀j,j<k->¬Walk g a j v:=by
 rcases h with⟨rfl,h1⟩|⟨i,hi,rfl,h1,h2⟩
 .exact⟨fun e=>by omega,fun e=>absurd e.1 (h1 k hk)⟩
 .constructor
  .intro e;obtain rfl:i=k:=by omega
   exact⟨h1,h2⟩
  .rintro⟨h3,h4⟩;rcases Nat.lt_trichotomy i k with h|h|h
   .exact absurd h1 (h4 i h)
   .omega
   .exact absurd h3 (h2 k h)
theorem Upto.more{g:Gr}{a d v:Nat}{x:Int}(h:Upto g a d v x)(hx:0<=x):Upto g a (d+1) v x:=by
 rcases h with⟨rfl,h1⟩|⟨i,hi,rfl,h1,h2⟩
 .omega
 .exact .inr ⟨i,by omega,rfl,h1,h2⟩
structure LayerInv(g:Gr)(a d v:Nat)(R:List Int):Prop where
 len:R.length=g.ports.length
 new:∀(u:Nat) (x:Int),R[u]?=some x->u<v->Upto g a (d+1) u x
 old:∀(u:Nat) (x:Int),R[u]?=some x->v<=u->Upto g a d u x
theorem LayerInv.at_{g:Gr}{a d v:Nat}{R:List Int}(h:LayerInv g a d v R){u:Nat}(hu:u<g.ports.length):R[u]?=some (d:Int)↔Walk g a d u/\∀j,j<d->¬Walk g a j u:=by
 have hl:=h.len;have e:R[u]?=some R[u]:=zB (by omega)
 have hx:R[u]=(d:Int)↔Walk g a d u/\∀j,j<d->¬Walk g a j u:=by
  by_cases hv:u<v
  .exact(h.new u _ e hv).eq (by omega)
  .exact(h.old u _ e (by omega)).eq (by omega)
 rw[e]
 simpa using hx
theorem LayerInv.step{g:Gr}(hg:ybg g){a d v:Nat}{R:List Int}(h:LayerInv g a d v R)(hv:v<g.ports.length):LayerInv g a d (v+1) (yclb g ((d:Int)+1) R v):=by
 have hlen:=h.len;have ev:R[v]?=some R[v]:=zB (by omega)
 have eg:R.getD v 0=R[v]:=by simp[zG,ev]
 have ep:g.ports.getD v []=g.ports[v]:=by simp[zG,zB hv]
 have hhas:ycim R ((d:Int)+1-1) g.ports[v]=true↔∃u,adj g u v/\Walk g a d u/\∀j,j<d->¬Walk g a j u:=by
  unfold ycim;rw[List.any_eq_true];constructor
  .rintro⟨l,hl,h1⟩;have hlk:=hg.link (zB hv) hl;have h1:=of_decide_eq_true h1;rw[show(d:Int)+1-1=d by omega]at h1
   refine⟨l.1.toNat,hg.adj_symm ⟨_,zB hv,l,hl,by omega⟩,?_⟩
   exact(h.at_ (by omega)).1 h1
  .rintro⟨u,hu,hw⟩;obtain⟨hu1,_⟩:=hg.adj_lt hu;obtain⟨ls,h1,l,hl,e⟩:=hg.adj_symm hu;rw[zB hv]at h1;cases h1
   refine⟨l,hl,decide_eq_true ?_⟩;rw[e,zS,show(d:Int)+1-1=d by omega]
   exact(h.at_ hu1).2 hw
 have hov:=h.old v _ ev (zI _);unfold yclb;rw[eg,ep]
 by_cases c1:R[v]<0
 .have hx:R[v] = -1/\∀k,k<=d->¬Walk g a k v:=by
   rcases hov with h1|⟨k,_,e,_⟩
   .exact h1
   .omega
  by_cases c2:ycim R ((d:Int)+1-1) g.ports[v]=true
  .rw[if_pos (by rw[zC];exact⟨decide_eq_true c1,c2⟩)]
   obtain⟨p,hp,hw,_⟩:=hhas.1 c2;have hset:∀t,t≠v->(R.set v ((d:Int)+1))[t]?=R[t]?:=fun t ht=>by rw[zJ,if_neg (by omega)]
   refine⟨by simp[hlen],fun u x hu huv=>?_,fun u x hu huv=>?_⟩
   .by_cases e:u=v
    .subst e;rw[zJ,if_pos rfl,if_pos (by omega)]at hu
     cases hu
     exact .inr ⟨d+1,zI _,by omega,⟨p,hw,hp⟩,fun j hj=>hx.2 j (by omega)⟩
    .rw[hset u e]at hu;exact h.new u x hu (by omega)
   .rw[hset u (by omega)]at hu
    exact h.old u x hu (by omega)
  .rw[if_neg (fun e=>c2 (zC _ _▸e).2)];refine⟨hlen,fun u x hu huv=>?_,fun u x hu huv=>h.old u x hu (by omega)⟩
   by_cases e:u=v
   .subst e;rw[ev]at hu;cases hu
    refine .inl ⟨hx.1,fun k hk hw=>?_⟩;rcases Nat.lt_or_ge d k with hlt|hge
    .obtain rfl:k=d+1:=by omega
     obtain⟨p,hp,hpv⟩:=hw;refine c2 (hhas.2 ⟨p,hpv,hp,fun j hj hw'=>hx.2 (j+1) (by omega) ⟨p,hw',hpv⟩⟩)
    .exact hx.2 k hge hw
   .exact h.new u x hu (by omega)
 .rw[if_neg (by simp[c1])]
  refine⟨hlen,fun u x hu huv=>?_,fun u x hu huv=>h.old u x hu (by omega)⟩
  by_cases e:u=v
  .subst e;exact(h.old u x hu (zI _)).more (by rw[ev]at hu;cases hu;omega)
  .exact h.new u x hu (by omega)
theorem ywr{g:Gr}(hg:ybg g){a d:Nat}{R:List Int}(h:LayerInv g a d 0 R):∀v,v<=g.ports.length->LayerInv g a d v ((zH v).foldl (yclb g ((d:Int)+1)) R)
 |0,_=>h
 | v+1,hv=>by
   rw[zZ,zK];exact(ywr hg h v (by omega)).step hg (by omega)
def yzb(g:Gr)(a d:Nat)(R:List Int):Prop:=R.length=g.ports.length/\∀(u:Nat) (x:Int),R[u]?=some x->Upto g a d u x
theorem ybox{g:Gr}{a:Nat}(ha:a<g.ports.length):yzb g a 0 (start g a):=by
 refine⟨by simp[start],fun u x hu=>?_⟩
 unfold start at hu;rw[zJ]at hu;split at hu
 .rename_i e
  subst e;simp[ha]at hu;subst hu;exact .inr ⟨0,zI _,rfl,rfl,fun j hj=>absurd hj (by omega)⟩
 .rename_i e
  rw[List.getElem?_replicate]at hu;split at hu
  .cases hu
   refine .inl ⟨rfl,fun k hk hw=>?_⟩;obtain rfl:k=0:=by omega
   exact e hw.symm
  .cases hu
theorem ybsf{g:Gr}(hg:ybg g){a d:Nat}{R:List Int}(h:yzb g a d R):yzb g a (d+1) (stepD g R (d+1)):=by
 have h0:LayerInv g a d 0 R:=⟨h.1,fun _ _ _ hu=>absurd hu (by omega),fun u x hu _=>h.2 u x hu⟩
 have h1:=ywr hg h0 g.ports.length (zI _);unfold stepD;rw[show((d+1:Nat):Int)=(d:Int)+1 by omega]
 exact⟨h1.len,fun u x hu=>h1.new u x hu (by rw[<-h1.len];exact(List.getElem?_eq_some_iff.1 hu).1)⟩
theorem ysv{g:Gr}(hg:ybg g){a:Nat}(ha:a<g.ports.length):∀d,yzb g a d ((zH d).foldl (fun R d=>stepD g R (d+1)) (start g a))
 |0=>ybox ha
 |d+1=>by rw[zZ,zK];exact ybsf hg (ysv hg ha d)
theorem chain{g:Gr}{a:Nat}:∀k v,Walk g a k v->(∀j,j<k->¬Walk g a j v)->∃f:Nat->Nat,∀j,j<=k->Walk g a j (f j)/\∀i,i<j->¬Walk g a i (f j)
 | 0,v,h,_=>⟨fun _=>v,fun j hj=>by obtain rfl:j=0:=by omega
                                   exact⟨h,fun i hi=>absurd hi (by omega)⟩⟩
 | k + 1,v,h,hm=>by
   obtain⟨p,hp,hpv⟩:=h;obtain⟨f,hf⟩:=chain k p hp (fun j hj hw=>hm (j+1) (by omega) ⟨p,hw,hpv⟩)
   refine⟨fun j=>if j<=k then f j else v,fun j hj=>?_⟩
   by_cases hjk:j<=k
   .simp only[if_pos hjk];exact hf j hjk
   .obtain rfl:j=k+1:=by omega
    simp only[if_neg hjk];exact⟨⟨p,hp,hpv⟩,hm⟩
theorem walk_lt{g:Gr}(hg:ybg g){a:Nat}(ha:a<g.ports.length):∀k v,Walk g a k v->v<g.ports.length
 |0,v,h=>by obtain rfl:v=a:=h;exact ha
 |k+1,v,h=>by obtain⟨u,_,hu⟩:=h;exact(hg.adj_lt hu).2
theorem least_walk{g:Gr}{a v:Nat}:∀k,Walk g a k v->∃j,j<=k/\Walk g a j v/\∀i,i<j->¬Walk g a i v:=by
 intro k
 induction k using Nat.strongRecOn with
 | _ k ih =>
   intro hw
   by_cases h:∃j,j<k/\Walk g a j v
   .obtain⟨j,hj,hwj⟩:=h;obtain⟨i,hi,r⟩:=ih j hj hwj;exact⟨i,by omega,r⟩
   .exact⟨k,zI _,hw,fun i hi hwi=>h ⟨i,hi,hwi⟩⟩
theorem ydfw{g:Gr}(hg:ybg g){a v k:Nat}(ha:a<g.ports.length)(h:Walk g a k v)(hm:∀j,j<k->¬Walk g a j v):k<g.ports.length:=by
 obtain⟨f,hf⟩:=chain k v h hm;have hinj:∀i j,i<j->j<=k->f i≠f j:=fun i j hij hj e=>(hf j hj).2 i hij (by rw[<-e];exact(hf i (by omega)).1)
 have h1:((zH (k+1)).map f).Nodup:=by
  rw[List.Nodup,List.pairwise_map];refine(List.Pairwise.and_mem.1 List.pairwise_lt_range).imp ?_;rintro i j ⟨_,hj,hij⟩;exact hinj i j hij (by simp at hj;omega)
 have h2:(zH (k+1)).map f ⊆ zH g.ports.length:=by
  intro x hx;obtain⟨j,hj,rfl⟩:=List.mem_map.1 hx;simp only[List.mem_range]at hj ⊢;exact walk_lt hg ha j _ (hf j (by omega)).1
 have:=List.Nodup.length_le_of_subset h1 h2;simp at this;omega
theorem ybfb{g:Gr}(hg:ybg g){a:Nat}(ha:a<g.ports.length):ydux g a (ycfo g a):=by
 obtain⟨h1,h2⟩:=ysv hg ha (g.ports.length-1);refine⟨h1,fun v x hx=>?_⟩;rcases h2 v x hx with⟨rfl,h3⟩|⟨k,_,r⟩
 .refine .inl ⟨rfl,fun k hk=>?_⟩;obtain⟨j,_,hj,hm⟩:=least_walk k hk;have:=ydfw hg ha hj hm;exact h3 j (by omega) hj
 .exact .inr ⟨k,r⟩
end
section
def ycjx(g:Gr):Bool:=yfv g&&(ycfo g 0).all (fun x=>decide (0<=x))
theorem ybcd(D:List Int):∀m:Int,m<=D.foldl max m:=by
 induction D with
 |nil=>intro m;exact Int.le_refl _
 |cons x D ih=>intro m;exact Int.le_trans (Int.le_max_left m x) (ih _)
theorem ydfs{g:Gr}(hg:ybg g){a:Nat}(ha:a<g.ports.length):(ycfo g a).all (fun x=>decide (0<=x))=true↔∀v,v<g.ports.length->∃k,Walk g a k v:=by
 have hd:=ybfb hg ha;rw[zU];constructor
 .intro h v hv;have hv':v<(ycfo g a).length:=by rw[hd.1];exact hv
  rcases hd.2 v _ (zB hv')with⟨e,_⟩|⟨k,_,hk,_⟩
  .have:=of_decide_eq_true (h _ (zV hv'));omega
  .exact⟨k,hk⟩
 .intro h x hx;obtain⟨v,hv,rfl⟩:=List.mem_iff_getElem.1 hx;obtain⟨k,hk⟩:=h v (by rw[<-hd.1];exact hv)
  rcases hd.2 v _ (zB hv)with⟨e,h1⟩|⟨k,e,_⟩
  .exact absurd hk (h1 k)
  .rw[e];simp
end
section
abbrev Conf:=List (List Int)
abbrev Bounds:=List (Int×Int)
def ycem(bs:Bounds)(s:List Int):Bool:=decide (s.length=bs.length)&&(bs.zip s).all (fun p=>decide (p.1.1<=p.2)&&decide (p.2<=p.1.2))
def yvy(n:Nat)(bs:Nat->Bounds)(c:Conf):Bool:=decide (c.length=n)&&c.zipIdx.all (fun p=>ycem (bs p.2) p.1)
def yip(bs:Bounds)(s:List Int):Prop:=s.length=bs.length/\∀(i:Nat) b x,bs[i]?=some b->s[i]?=some x->b.1<=x/\x<=b.2
def ybny(n:Nat)(bs:Nat->Bounds)(c:Conf):Prop:=c.length=n/\∀(v:Nat) s,c[v]?=some s->yip (bs v) s
theorem yxp(bs:Bounds)(s:List Int):ycem bs s=true↔yip bs s:=by
 unfold ycem yip;rw[zC,decide_eq_true_iff,zU];refine and_congr_right fun _=>⟨fun h i b x hb hx=>?_,fun h p hp=>?_⟩
 .have:=h (b,x) (zM (i:=i) (by simp[zT,hb,hx]))
  simpa using this
 .obtain⟨i,hi⟩:=List.mem_iff_getElem?.1 hp;obtain⟨b,x⟩:=p;rw[zT]at hi
  simpa using h i b x hi.1 hi.2
theorem yft(n:Nat)(bs:Nat->Bounds)(c:Conf):yvy n bs c=true↔ybny n bs c:=by
 unfold yvy ybny;rw[zC,decide_eq_true_iff,zU];refine and_congr_right fun _=>⟨fun h v s hs=>?_,fun h p hp=>?_⟩
 .refine(yxp _ _).1 (h (s,v) ?_);rw[zN];exact hs
 .rw[zN]at hp;exact(yxp _ _).2 (h p.2 p.1 hp)
theorem ytj{n:Nat}{bs:Nat->Bounds}{c:Conf}(h:¬ybny n bs c):yvy n bs c=false:=by
 cases hb:yvy n bs c with
 |false=>rfl
 |true=>exact absurd ((yft n bs c).1 hb) h
theorem ybpv{n:Nat}{bs:Nat->Bounds}{c:Conf}(h:ybny n bs c):yvy n bs c=true:=(yft n bs c).2 h
def ybfx(g:Gr)(v:Nat):Nat:=(g.ports.getD v []).length
def yef(g:Gr)(G:List Int)(v:Nat):Bounds:=G.map (fun h=>if h = -1 then(-1,(ybfx g v:Int)-1)else(0,h))
def ybte(g:Gr):Int:=g.ids.foldl max 0
end
section
open Go.RowKit
end
section
open Go.RowKit
end
section
open Go.RowKit
def ybew(acc:Int×Int->Bool)(ls:List (Int×Int)):Int:=match ls.findIdx? acc with|some i=>i|none=>-1
end
section
def portOf(g:Gr)(v:Nat)(y:Int):Int:=if 0<=y then((g.ports.getD v []).getD y.toNat (0,0)).1 else -1
def yyy(g:Gr)(c:Conf)(x:Nat):List Int:=c.zipIdx.map (fun p=>portOf g p.2 (p.1.getD x 0))
theorem ybev(g:Gr)(c:Conf)(x v:Nat)(s:List Int)(hs:c[v]?=some s):(yyy g c x)[v]?=some (portOf g v (s.getD x 0)):=by
 simp[yyy,List.getElem?_zipIdx,hs]
end
section
def ybet(ids:List Int)(k:Nat):Int:=(ids.take k).tail.foldl max (ids.headD 0)
abbrev maxI(ids:List Int):Int:=ybet ids ids.length
theorem ybtq{ids:List Int}{k:Nat}(h1:1<=k)(hk:k<ids.length):(ids.take (k+1)).tail=(ids.take k).tail++[ids[k]]:=by
 rw[zL hk,List.tail_append_of_ne_nil];intro h;have:=congrArg zAA h;rw[List.length_take,zY]at this;omega
theorem ycbp(ids:List Int):ybet ids 1=ids.headD 0:=by cases ids<;>simp[ybet]
theorem ybrf{ids:List Int}{k:Nat}(h1:1<=k)(hk:k<ids.length):ybet ids (k+1)=max (ybet ids k) ids[k]:=by
 unfold ybet;rw[ybtq h1 hk,zK];rfl
theorem ychr{ids:List Int}(h0:0<ids.length)(h:∀x∈ids,0<=x):maxI ids=ids.foldl max 0:=by
 cases ids with
 |nil=>simp at h0
 | cons x l =>
   have hx:max 0 x=x:=Int.max_eq_right (h x (by simp))
   simp[maxI,ybet,hx]
def idxP(ids:List Int)(x:Int):Int:=match ids.findIdx? (fun y=>x==y)with
 |some i=>i
 |none=>-1
theorem ycfp{ids:List Int}{x:Int}{k:Nat}(hk:k<ids.length)(h:x=ids[k])(hn:(ids.take k).findIdx? (fun y=>x==y)=none):idxP ids x=k:=by
 unfold idxP
 have:ids.findIdx? (fun y=>x==y)=some k:=by
  rw[List.findIdx?_eq_some_iff_getElem];refine⟨hk,by simp[h],fun j hj=>?_⟩
  rw[List.findIdx?_eq_none_iff]at hn;simp[hn ids[j] (List.mem_take_iff_getElem.2 ⟨j,by omega,rfl⟩)]
 rw[this]
theorem ybzk{ids:List Int}{x:Int}(hn:(ids.take ids.length).findIdx? (fun y=>x==y)=none):idxP ids x = -1:=by
 rw[List.take_length]at hn;unfold idxP;rw[hn]
theorem ychj{ids:List Int}{x:Int}{k:Nat}(hk:k<ids.length)(h:x≠ids[k])(hn:(ids.take k).findIdx? (fun y=>x==y)=none):(ids.take (k+1)).findIdx? (fun y=>x==y)=none:=by
 rw[zL hk,List.findIdx?_append,hn];simp[h]
end
section
namespace Sh
open Go Ev
def ybc(l:List Int):SV:=.sl 1 l.length (fun k=>[.i .i64 (l.getD k 0)])
def ybb(ls:List (Int×Int)):SV:=.sl 2 ls.length (fun j=>[.i .i64 (ls.getD j (0,0)).1,.i .i64 (ls.getD j (0,0)).2])
def yu(ps:List (List (Int×Int))):SV:=.sl 1 ps.length (fun v=>[ybb (ps.getD v [])])
def ycz(c:List (List Int)):SV:=.sl 1 c.length (fun v=>[ybc (c.getD v [])])
def grV(g:Gr):SV:=.ag [ybc g.ids,yu g.ports]
theorem ik{n:Int}(h1:-1000000000000<=n)(h2:n<=1000000000000):inK .i64 n:=by
 unfold inK;simp[IntKind.min,IntKind.max,IntKind.bits,IntKind.signed];omega
theorem ikw{n:Int}(h1:-4611686018427387904<=n)(h2:n<=4611686018427387904):inK .i64 n:=by
 unfold inK;simp[IntKind.min,IntKind.max,IntKind.bits,IntKind.signed];omega
theorem getD_at{α:Type}{l:List α}{k:Nat}{d:α}(h:k<l.length):l.getD k d=l[k]:=by simp[zG,h]
theorem ycht{l:List Int}{i k:Nat}{x:Int}(h:i<l.length):(l.set i x).getD k 0=if k=i then x else l.getD k 0:=by
 simp only[zG,zJ]
 by_cases q:i=k
 .subst q;simp[h]
 .rw[if_neg q,if_neg (Ne.symm q)]
theorem ybxo(l:List Int)(x:Int)(hl:l.length<=100000):Returns zA 143 [ybc l,.i .i64 x] (.i .i64 (idxP l x)):=by
 refine Returns.of (ydbl _ _ ?_);simp only[c143,yctw,ycrd,ybc,go_sem,zQ,↓reduceIte,reduceCtorEq];refine ybf (σ:=Nat) (fun k=>⟨[(8,.i .i64 k),(0,ybc l),(1,.i .i64 x),(7,.i .i64 l.length)],[]⟩) (fun k=>k<=l.length/\(l.take k).findIdx? (fun y=>x==y)=none) (fun k=>l.length-k) 0 ⟨Nat.zero_le _,by simp⟩ ?_ ?_
 .refine yh [] [] [] ?_;simp only[ybc,allQ,live,yc,Int.natCast_zero,go_sem,zD,↓reduceIte,reduceCtorEq]
 .intro k ⟨hk,hno⟩;simp only[ycpg,yczy,ydar,yczv,ycob,ycqx,ybc,yx,go_sem,zD,zQ,↓reduceIte,reduceCtorEq];refine⟨fun h=>⟨by omega,fun he=>?_,fun he=>⟨ik (by omega) (by omega),?_⟩⟩,fun h=>?_⟩
  .have hlt:k<l.length:=by omega
   rw[ycfp hlt (by rw[he,getD_at hlt]) hno]
  .have hlt:k<l.length:=by omega
   refine yj (k+1) ⟨by omega,ychj hlt (by rw[<-getD_at (d:=0) hlt];exact he) hno⟩ (by omega) ?_
   refine yh [] [] [] ?_;simp only[allQ,live,yc,yx,go_sem,zD,↓reduceIte,reduceCtorEq];simp
  .obtain rfl:k=l.length:=by omega
   rw[ybzk hno]
theorem ydbr(l:List Int)(h0:0<l.length)(hl:l.length<=100000):Returns zA 54 [ybc l] (.i .i64 (maxI l)):=by
 refine Returns.of (ydvi _ _ ?_);simp only[c54,ydtq,ydxc,ydom,ydno,ydvm,ybc,go_sem,Int.reduceToNat,zD,zQ,↓reduceIte,reduceCtorEq];refine⟨fun h=>by omega,fun _=>⟨by omega,?_⟩⟩
 refine ybf (σ:=Nat) (fun k=>⟨[(4,.i .i64 k),(3,.i .i64 (ybet l k)),(0,ybc l)],[]⟩) (fun k=>1<=k/\k<=l.length) (fun k=>l.length-k) 1 ⟨by omega,by omega⟩ ?_ ?_
 .refine yh [] [] [] ?_;simp only[ybc,ycbp,allQ,live,yc,yx,go_sem,zD,↓reduceIte,reduceCtorEq];cases l<;>simp at h0 ⊢
 .intro k ⟨hk1,hk⟩;simp only[ydlg,ydza,ydmq,ydzc,ybc,yx,go_sem,zD,zQ,↓reduceIte,reduceCtorEq];refine⟨fun h=>⟨by omega,ik (by omega) (by omega),?_⟩,fun h=>?_⟩
  .refine yj (k+1) ⟨by omega,by omega⟩ (by omega) ?_
   refine yh [] [] [] ?_;have hlt:k<l.length:=by omega
   simp only[ybrf hk1 hlt,getD_at hlt,allQ,live,yc,yx,go_sem,zD,↓reduceIte,reduceCtorEq];simp
  .obtain rfl:k=l.length:=by omega
   rfl
end Sh
end
section
structure VarR where
 name:ByteArray
 kind:Int
 lo:Int
 hi:Int
 perNode:Int
 perID:Int
theorem ybse(ids:List Int)(k:Nat)(hk:k<ids.length):(ids.take (k+1)).foldl max 0=max ((ids.take k).foldl max 0) ids[k]:=by
 rw[take_snoc ids k hk,zK];rfl
theorem ybfm(D:List Int)(m:Int)(h:∀x∈D,x<=m):∀a:Int,a<=m->D.foldl max a<=m:=by
 induction D with
 |nil=>intro a ha;exact ha
 |cons x D ih=>intro a ha;exact ih (fun y hy=>h y (by simp[hy])) _ (Int.max_le.2 ⟨ha,h x (by simp)⟩)
theorem yva{g:Gr}(hg:ybg g):0<=ybte g/\ybte g<=255:=⟨ybcd _ _,ybfm _ _ (fun x hx=>(hg.2.2.2.1 x hx).2) _ (by omega)⟩
end
section
abbrev Tm:=Int×Int
structure SetR where
 var:Int
 val:List Tm
structure RuleR where
 name:ByteArray
 guard:List Tm
 sets:List SetR
structure ProgR where
 name:ByteArray
 vars:List VarR
 rules:List RuleR
instance:Inhabited VarR:=⟨⟨.empty,0,0,0,0,0⟩⟩
instance:Inhabited SetR:=⟨⟨0,[]⟩⟩
instance:Inhabited RuleR:=⟨⟨.empty,[],[]⟩⟩
inductive Ex where
 |leaf (op arg:Int)
 |un (op:Int) (a:Ex)
 |agg (op:Int) (a:Ex)
 |bin (op:Int) (a b:Ex)
 |ite (c a b:Ex)
def Ex.ser:Ex->List Tm
 |.leaf op arg=>[(op,arg)]
 |.un op a=>(op,0)::a.ser
 |.agg op a=>(op,0)::a.ser
 |.bin op a b=>(op,0)::(a.ser++b.ser)
 |.ite c a b=>(43,0)::(c.ser++(a.ser++b.ser))
def satP(a:Int):Int:=max (-1073741824) (min a 1073741824)
def ybz(b:Bool):Int:=if b then 1 else 0
def ywa(a b:Int):Int:=if b=0 then 0 else if a.tmod b≠0/\(decide (a<0)≠decide (b<0))then a.tdiv b-1 else a.tdiv b
def unP(op a:Int):Int:=if op=18 then -a else ybz (a==0)
def cmpP(op a b:Int):Bool:=if op=35 then a==b else if op=36 then a != b else if op=37 then decide (a<b)else if op=38 then decide (a<=b)else if op=39 then decide (a>b)else decide (a>=b)
def binP(op a b:Int):Int :=
 if op=30 then satP (a*b)else if op=31 then satP (ywa a b)else if op=32 then(if b=0 then 0 else satP (a-b*ywa a b))else if op=33 then satP (a+b)else if op=34 then satP (a-b)
 else if op=41 then ybz (a != 0&&b != 0)else if op=42 then ybz (a != 0||b != 0)else ybz (cmpP op a b)
def countP(l:List Int):Int:=((l.filter (· != 0)).length:Int)
def yqk(l:List Int):Int:=l.foldl min 1073741824
def yem(l:List Int):Int×Int:=l.foldl (fun p a=>if a>p.1 then(a,p.1)else(p.1,max p.2 a)) (-1073741824,-1073741824)
def yvl(l:List Int):Nat->Int->Int
 |0,r=>r
 |n+1,r=>if l.elem r then yvl l n (r+1)else r
def mexP(l:List Int):Int:=yvl l (l.length+1) 0
def yev(l:List Int):Int:=match l.findIdx? (· != 0)with|some i=>i|none=>-1
def yhv(op:Int)(l:List Int):Int :=
 if op=20 then ybz (countP l==l.length)else if op=21 then ybz (decide (countP l>0))else if op=22 then countP l else if op=23 then yev l else if op=24 then yqk l else if op=25 then(yem l).1
 else if op=26 then satP l.sum else if op=27 then mexP l else if op=28 then(yem l).2 else l.headD 0
def ybt(g:Gr)(v port:Nat):Int×Int:=(g.ports.getD v []).getD port (0,0)
def yit(g:Gr)(v:Nat):List Int:=(g.ports.getD v []).map fun l=>yig (g.ports.getD l.1.toNat []) v
def yoq(g:Gr)(op:Int)(v:Nat)(port:Int):Int :=
 if op=6 then g.ids.length else if op=7 then ybte g else if op=8 then g.ids.getD v 0 else if op=9 then((g.ports.getD v []).length:Int)else if op=10 then ybz ((v:Int)==0)else if op=11 then port
 else(let l:=ybt g v port.toNat
  if op=13 then g.ids.getD l.1.toNat 0 else if op=14 then((g.ports.getD l.1.toNat []).length:Int)else if op=15 then ybz (l.1==0)else if op=16 then l.2 else(yit g v).getD port.toNat 0)
def ytv(g:Gr)(c:Conf)(op arg:Int)(v:Nat)(port:Int):Int :=
 if op=1 then arg else if op=2 then 1 else if op=3 then 0 else if op=4 then -1 else if op=5 then(c.getD v []).getD arg.toNat 0 else if op=12 then(c.getD (ybt g v port.toNat).1.toNat []).getD arg.toNat 0
 else yoq g op v port
def ydr(g:Gr)(c:Conf)(v:Nat):Ex->Int->Int
 |.leaf op arg,p=>ytv g c op arg v p
 |.un op a,p=>unP op (ydr g c v a p)
 |.agg op a,_=>yhv op ((zH (g.ports.getD v []).length).map fun(q:Nat)=>ydr g c v a (q:Int))
 |.bin op a b,p=>binP op (ydr g c v a p) (ydr g c v b p)
 |.ite x a b,p=>if ydr g c v x p≠0 then ydr g c v a p else ydr g c v b p
def Ex.ok(nv:Int)(bnd:Bool):Ex->Bool
 |.leaf op arg=>decide (1<=op/\op<=17)&&(if op=1 then decide (0<=arg/\arg<=1073741824)else if op=5\/op=12 then decide (0<=arg/\arg<nv)else true)&&(if 11<=op then bnd else true)
 |.un op a=>decide (op=18\/op=19)&&a.ok nv bnd
 |.agg op a=>decide (20<=op/\op<=29)&&a.ok nv true
 |.bin op a b=>decide (30<=op/\op<=42)&&a.ok nv bnd&&b.ok nv bnd
 |.ite x a b=>x.ok nv bnd&&a.ok nv bnd&&b.ok nv bnd
def InB(x:Int):Prop:=-1073741824<=x/\x<=1073741824
theorem yov(a:Int):InB (satP a):=by unfold InB satP;omega
theorem ygp(b:Bool):InB (ybz b):=by unfold InB ybz;cases b<;>simp
theorem ydvb{op a:Int}(h:InB a):InB (unP op a):=by
 unfold unP;split
 .unfold InB at *;omega
 .exact ygp _
theorem ydjw(op a b:Int):InB (binP op a b):=by
 unfold binP;split;· exact yov _
 split;· exact yov _
 split
 .split
  .unfold InB;omega
  .exact yov _
 split;· exact yov _
 split;· exact yov _
 split;· exact ygp _
 split;· exact ygp _
 exact ygp _
theorem countP_le(l:List Int):0<=countP l/\countP l<=l.length:=by
 unfold countP;have:=List.length_filter_le (· != 0) l;omega
theorem ybsn(l:List Int)(h:∀x∈l,InB x):InB (yqk l):=by
 unfold yqk
 have:∀(l:List Int) (a:Int),InB a->(∀x∈l,InB x)->InB (l.foldl min a):=by
  intro l
  induction l with
  |nil=>intro a ha _;exact ha
  | cons x l ih =>
    intro a ha hl;refine ih _ ?_ fun y hy=>hl y (zW _ hy);have:=hl x zO;unfold InB at *;omega
 exact this l _ (by unfold InB;omega) h
theorem ywc(l:List Int)(h:∀x∈l,InB x):InB (yem l).1/\InB (yem l).2:=by
 unfold yem
 have:∀(l:List Int) (p:Int×Int),InB p.1/\InB p.2->(∀x∈l,InB x)->InB (l.foldl (fun p a=>if a>p.1 then(a,p.1)else(p.1,max p.2 a)) p).1/\InB (l.foldl (fun p a=>if a>p.1 then(a,p.1)else(p.1,max p.2 a)) p).2:=by
  intro l
  induction l with
  |nil=>intro p hp _;exact hp
  | cons x l ih =>
    intro p hp hl;refine ih _ ?_ fun y hy=>hl y (zW _ hy);have:=hl x zO;unfold InB at *
    dsimp only
    split<;>dsimp only<;>omega
 exact this l _ (by unfold InB;simp) h
theorem ybku(l:List Int):∀(n:Nat) (r:Int),r<=yvl l n r/\yvl l n r<=r+n
 |0,r=>by unfold yvl;omega
 | n+1,r=>by
   unfold yvl;have:=ybku l n (r+1);split<;>omega
theorem ybbu(l:List Int):-1<=yev l/\yev l<l.length\/yev l = -1:=by
 unfold yev;split
 .rename_i i hi
  obtain⟨h,_⟩:=List.findIdx?_eq_some_iff_getElem.1 hi;left;omega
 .exact .inr rfl
theorem yclt{op:Int}{l:List Int}(hl:l.length<=1000)(h:∀x∈l,InB x):InB (yhv op l):=by
 have hc:=countP_le l;unfold yhv;split;· exact ygp _
 split;· exact ygp _
 split;· unfold InB;omega
 split;· have:=ybbu l;unfold InB;omega
 split;· exact ybsn l h
 split;· exact(ywc l h).1
 split;· exact yov _
 split;· have:=ybku l (l.length+1) 0;unfold mexP InB;omega
 split;· exact(ywc l h).2
 cases l with
 |nil=>unfold InB;simp
 |cons x l=>exact h x zO
structure ConfIn(n nv:Nat)(c:Conf):Prop where
 len:c.length=n
 row:∀s∈c,s.length=nv/\∀x∈s,InB x
theorem ConfIn.at_{n nv:Nat}{c:Conf}(h:ConfIn n nv c){v:Nat}(hv:v<n):(c.getD v []).length=nv/\∀k,InB ((c.getD v []).getD k 0):=by
 have hlt:v<c.length:=by rw[h.len];exact hv
 have e:c.getD v []=c[v]:=by simp[zG,hlt]
 obtain⟨h1,h2⟩:=h.row c[v] (zV hlt);rw[e];refine⟨h1,fun k=>?_⟩;rw[zF];cases hk:c[v][k]? with
 |none=>simp;unfold InB;omega
 |some x=>simp;exact h2 x (zM hk)
theorem ybg.ybt{g:Gr}(hg:ybg g){v p:Nat}(hv:v<g.ports.length)(hp:p<(g.ports.getD v []).length):0<=(ybt g v p).1/\(ybt g v p).1<g.ports.length/\1<=(ybt g v p).2/\(ybt g v p).2<=15:=by
 have e:g.ports.getD v []=g.ports[v]:=by simp[zG,hv]
 have h1:=hg.2.2.2.2.2.1 ⟨v,hv⟩;rw[e]at hp;have hm:(g.ports[v])[p]∈g.ports[v]:=zV hp;have h2:=h1.1 _ hm;unfold ynr at h2;have e2:Go.Proofs.YthclbjjgfcgbgaaGreatDoor.ybt g v p=(g.ports[v])[p]:=by unfold Go.Proofs.YthclbjjgfcgbgaaGreatDoor.ybt;rw[e];simp[zG,hp]
 rw[e2];omega
theorem ybg.deg_lt{g:Gr}(hg:ybg g){v:Nat}:(g.ports.getD v []).length<24:=by
 by_cases hv:v<g.ports.length
 .have h1:=hg.2.2.2.2.2.1 ⟨v,hv⟩;have:=ybht hv h1;have e:g.ports.getD v []=g.ports[v]:=by simp[zG,hv]
  rw[e];have:=hg.2.1;have h3:g.ports[(⟨v,hv⟩:Fin g.ports.length)].length=g.ports[v].length:=rfl;omega
 .rw[zF,List.getElem?_eq_none (by omega)]
  simp
theorem ybg.id_in{g:Gr}(hg:ybg g)(v:Nat):0<=g.ids.getD v 0/\g.ids.getD v 0<=255:=by
 rw[zF];cases h:g.ids[v]? with
 |none=>simp
 |some x=>exact hg.2.2.2.1 x (zM h)
theorem yclg{g:Gr}{c:Conf}{n nv:Nat}(hg:ybg g)(hn:g.ports.length=n)(hc:ConfIn n nv c){op arg:Int}{bnd:Bool}(ho:(Ex.leaf op arg).ok nv bnd=true){v:Nat}(hv:v<n){p:Int}(hp:bnd=true->0<=p/\p<(g.ports.getD v []).length)(hpi:InB p):InB (ytv g c op arg v p):=by
 subst hn;have h24:=hg.2.1;have hd:=hg.deg_lt (v:=v);unfold ytv;simp only[Ex.ok,zC,decide_eq_true_eq]at ho;obtain⟨⟨ho1,ho2⟩,ho3⟩:=ho;split
 .rename_i h;rw[if_pos h]at ho2;simp at ho2;unfold InB;omega
 split;· unfold InB;omega
 split;· unfold InB;omega
 split;· unfold InB;omega
 split;· exact(hc.at_ hv).2 _
 split
 .rename_i h
  rw[if_pos (by omega)]at ho3
  obtain⟨q1,q2⟩:=hp ho3;have hl:=hg.ybt hv (p:=p.toNat) (by omega)
  exact(hc.at_ (v:=(ybt g v p.toNat).1.toNat) (by omega)).2 _
 .unfold yoq;split;· rw[hg.2.2.1];unfold InB;omega
  split;· have:=yva hg;unfold InB;omega
  split;· have:=hg.id_in v;unfold InB;omega
  split;· unfold InB;omega
  split;· exact ygp _
  split;· exact hpi
  rename_i h6 h7 h8 h9 h10 h11
  rw[if_pos (by omega)]at ho3
  obtain⟨q1,q2⟩:=hp ho3;have hl:=hg.ybt hv (p:=p.toNat) (by omega)
  simp only;split;· have:=hg.id_in (ybt g v p.toNat).1.toNat;unfold InB;omega
  split;· have:=hg.deg_lt (v:=(ybt g v p.toNat).1.toNat);unfold InB;omega
  split;· exact ygp _
  split;· unfold InB;omega
  .unfold yit;rw[zF,List.getElem?_map];cases hk:(g.ports.getD v [])[p.toNat]? with
   |none=>simp;unfold InB;omega
   | some l =>
     simp;have hd2:=hg.deg_lt (v:=l.1.toNat);rcases ybbb (ls:=g.ports.getD l.1.toNat []) (u:=(v:Int))with e|⟨k,e,hk⟩
     .simp at e;rw[e];unfold InB;omega
     .simp at e hk hd2;rw[e];unfold InB;omega
theorem yic{g:Gr}{c:Conf}{n nv:Nat}(hg:ybg g)(hn:g.ports.length=n)(hc:ConfIn n nv c){v:Nat}(hv:v<n):∀(x:Ex) {bnd:Bool}{p:Int},x.ok nv bnd=true->(bnd=true->0<=p/\p<(g.ports.getD v []).length)->InB p->InB (ydr g c v x p)
 |.leaf op arg,bnd,p,h,hp,hpi=>yclg hg hn hc h hv hp hpi
 | .un op a,bnd,p,h,hp,hpi=>by
   simp only[Ex.ok,zC]at h;exact ydvb (yic hg hn hc hv a h.2 hp hpi)
 | .agg op a,bnd,p,h,hp,hpi=>by
   simp only[Ex.ok,zC]at h;have:=hg.deg_lt (v:=v);refine yclt (by simp;simp at this;omega) fun x hx=>?_
   obtain⟨q,hq,rfl⟩:=List.mem_map.1 hx;have hq:=List.mem_range.1 hq;exact yic hg hn hc hv a h.2 (fun _=>by omega) (by unfold InB;omega)
 |.bin op a b,bnd,p,h,hp,hpi=>ydjw _ _ _
 | .ite x a b,bnd,p,h,hp,hpi=>by
   simp only[Ex.ok,zC]at h;unfold ydr;split
   .exact yic hg hn hc hv a h.1.2 hp hpi
   .exact yic hg hn hc hv b h.2 hp hpi
end
end Go.Proofs.YthclbjjgfcgbgaaGreatDoor
