/- Joined. -/
import Derived.Test.YtiejahgklcjhkaaGreatDoorPkT13
set_option linter.unusedSimpArgs false
set_option linter.unusedVariables false
set_option maxRecDepth 8000
open Nat renaming reduceEqDiff→zA,reduceAdd→zB,reduceLeDiff→zC,reduceLT→zF,zero_le→zJ,pow_le_pow_right→zL,lt_of_lt_of_le→zO,testBit_lt_two_pow→zQ,lt_succ_self→zW,mod_eq_of_lt→zX,not_lt_zero→zZ,le_refl→zAB,lt_pow_two_of_testBit→zAE,shiftRight_eq_div_pow→zAF,eq_of_testBit_eq→zAJ,pow_lt_pow_right→zAL,reduceBEq→zAM,reduceMul→zAN,lt_of_le_of_lt→zAP,testBit_and→zAS,and_le_left→zAT,testBit→zAU
open Bool renaming and_eq_true→zD
open Int renaming natCast_zero→zG,toNat_natCast→zV,reduceToNat→zAH
open Go.Proofs.Tryz renaming prog→zH
open BitVec renaming ofInt→zI,ofInt_natCast→zK,toNat_ofNat→zU,getLsbD_ofNat→zAK
open List renaming getElem_mem→zM,getElem?_eq_getElem→zN,getD→zS,take_succ_eq_append_getElem→zY,eq_nil_of_length_eq_zero→zAA,append_assoc→zAC,drop_eq_getElem_cons→zAD,length_map→zAG,length→zAI,length_append→zAO,take_length→zAQ,range→zAR
open Classical renaming byContradiction→zT
open Go
namespace Go.Proofs.YtiejahgklcjhkaaGreatDoor
section
def Ex.shp:Ex->Bool
 |.leaf op _=>decide (1<=op/\op<=17)
 |.un op a=>decide (18<=op/\op<=29)&&a.shp
 |.agg op a=>decide (18<=op/\op<=29)&&a.shp
 |.bin op a b=>decide (30<=op/\op<=42)&&a.shp&&b.shp
 |.ite x a b=>x.shp&&a.shp&&b.shp
theorem Ex.ok_shp{nv:Int}:∀(x:Ex) {bnd:Bool},x.ok nv bnd=true->x.shp=true
 | .leaf op arg,bnd,h=>by
   simp only[Ex.ok,zD]at h;exact h.1.1
 | .un op a,bnd,h=>by
   simp only[Ex.ok,zD,decide_eq_true_eq]at h;simp only[Ex.shp,zD,decide_eq_true_eq];exact⟨by omega,Ex.ok_shp a h.2⟩
 | .agg op a,bnd,h=>by
   simp only[Ex.ok,zD,decide_eq_true_eq]at h;simp only[Ex.shp,zD,decide_eq_true_eq];exact⟨by omega,Ex.ok_shp a h.2⟩
 | .bin op a b,bnd,h=>by
   simp only[Ex.ok,zD,decide_eq_true_eq]at h;simp only[Ex.shp,zD,decide_eq_true_eq];exact⟨⟨h.1.1,Ex.ok_shp a h.1.2⟩,Ex.ok_shp b h.2⟩
 | .ite x a b,bnd,h=>by
   simp only[Ex.ok,zD]at h;simp only[Ex.shp,zD];exact⟨⟨Ex.ok_shp x h.1.1,Ex.ok_shp a h.1.2⟩,Ex.ok_shp b h.2⟩
def ykq(op:Int):Int:=if op<1\/op>43 then -1 else if op<=17 then 0 else if op<=29 then 1 else if op<=42 then 2 else 3
def serL(ts:List Ex):List Tm:=(ts.map Ex.ser).flatten
def Ex.head:Ex->Tm
 |.leaf op arg=>(op,arg)
 |.un op _=>(op,0)
 |.agg op _=>(op,0)
 |.bin op _ _=>(op,0)
 |.ite _ _ _=>(43,0)
def Ex.subs:Ex->List Ex
 |.leaf _ _=>[]
 |.un _ a=>[a]
 |.agg _ a=>[a]
 |.bin _ a b=>[a,b]
 |.ite x a b=>[x,a,b]
theorem Ex.ser_eq(x:Ex):x.ser=x.head::serL x.subs:=by
 cases x<;>simp[Ex.ser,Ex.head,Ex.subs,serL]
theorem ycct{op:Int}(h:1<=op/\op<=17):ykq op=0:=by
 unfold ykq;rw[if_neg (by omega),if_pos (by omega)]
theorem ybho{op:Int}(h:18<=op/\op<=29):ykq op=1:=by
 unfold ykq;rw[if_neg (by omega),if_neg (by omega),if_pos (by omega)]
theorem ycfb{op:Int}(h:30<=op/\op<=42):ykq op=2:=by
 unfold ykq;rw[if_neg (by omega),if_neg (by omega),if_neg (by omega),if_pos (by omega)]
theorem Ex.arity(x:Ex)(h:x.shp=true):ykq x.head.1=x.subs.length:=by
 cases x with
 |leaf op arg=>simp only[Ex.shp,decide_eq_true_eq]at h;exact ycct h
 |un op a=>simp only[Ex.shp,zD,decide_eq_true_eq]at h;exact ybho h.1
 |agg op a=>simp only[Ex.shp,zD,decide_eq_true_eq]at h;exact ybho h.1
 |bin op a b=>simp only[Ex.shp,zD,decide_eq_true_eq]at h;exact ycfb h.1.1
 |ite x a b=>simp[Ex.head,Ex.subs,ykq]
theorem Ex.subs_shp(x:Ex)(h:x.shp=true):∀y∈x.subs,y.shp=true:=by
 cases x with
 |leaf op arg=>intro y hy;cases hy
 |un op a=>simp only[Ex.shp,zD]at h;intro y hy;simp[Ex.subs]at hy;subst hy;exact h.2
 |agg op a=>simp only[Ex.shp,zD]at h;intro y hy;simp[Ex.subs]at hy;subst hy;exact h.2
 |bin op a b=>simp only[Ex.shp,zD]at h;intro y hy;simp[Ex.subs]at hy;rcases hy with rfl|rfl<;>first|exact h.1.2|exact h.2
 |ite x a b=>simp only[Ex.shp,zD]at h;intro y hy;simp[Ex.subs]at hy;rcases hy with rfl|rfl|rfl<;>first|exact h.1.1|exact h.1.2|exact h.2
theorem yfc{e:List Tm}{at_:Nat}{t:Tm}{r:List Tm}(h:e.drop at_=t::r):at_<e.length/\e.getD at_ (0,0)=t/\e.drop (at_+1)=r:=by
 have hlt:at_<e.length:=by
  refine zT fun hc=>?_;rw[List.drop_of_length_le (by omega)]at h;cases h
 refine⟨hlt,?_,?_⟩
 ·rw[zAD hlt]at h;simp only[List.cons.injEq]at h;simp[zS,hlt,h.1]
 ·rw[zAD hlt]at h;simp only[List.cons.injEq]at h;exact h.2
namespace Sh
open Go Ev
theorem ybwi(op:Int):Returns zH 247 [.i .i64 op] (.i .i64 (ykq op)):=by
 refine Returns.of (ydec _ _ ?_);simp only[c247,ychh,ycoq,ycif,ycmk,ycko,ycot,yckm,ycjk,ycnn,ycuz,ybb,ykq,go_sem,zA,zB,↓reduceIte,reduceCtorEq];refine⟨fun h1=>⟨fun h=>by rw[if_pos (.inr h)],fun h2=>⟨fun h=>by rw[if_neg (by omega),if_pos h],fun h3=>⟨fun h=>by rw[if_neg (by omega),if_neg h3,if_pos h],fun h4=>⟨fun h=>by rw[if_neg (by omega),if_neg h3,if_neg h4,if_pos h],fun h5=>by rw[if_neg (by omega),if_neg h3,if_neg h4,if_neg h5]⟩⟩⟩⟩,fun h=>by rw[if_pos (.inl h)]⟩
theorem yden(e:List Tm)(x:Ex)(at_:Nat)(rest:List Tm)(hx:x.shp=true)(he:e.drop at_=x.ser++rest)(hl:e.length<=1000):Returns zH 231 [ybd e,.i .i64 at_] (.i .i64 ((at_+x.ser.length:Nat):Int)):=by
 refine Returns.of (ydae _ _ ?_)
 have h0:at_<e.length:=by
  rw[x.ser_eq]at he;exact(yfc he).1
 simp only[c231,ycwe,ycij,ycth,ycip,ybd,ybb,go_sem,zA,zB,↓reduceIte,reduceCtorEq];refine⟨fun _=>⟨fun h=>by omega,fun _=>?_⟩,fun h=>by omega⟩
 refine ybj (σ:=Nat×List Ex) (fun p=>⟨[(1,.i .i64 p.1),(5,.i .i64 p.2.length),(0,ybd e)],[]⟩)
  (fun p=>e.drop p.1=serL p.2++rest/\p.2≠[]/\(∀y∈p.2,y.shp=true)/\p.1+(serL p.2).length=at_+x.ser.length/\p.2.length<=3*p.1+1) (fun p=>e.length-p.1) (at_,[x]) ⟨by simpa[serL]using he,by simp,by simpa using hx,by simp[serL],by simp⟩ ?_ ?_
 ·refine yj [] [] [] ?_;simp only[ybd,allQ,live,yg,ybb,go_sem,zA,↓reduceIte,reduceCtorEq];simp
 ·rintro⟨k,ts⟩ ⟨hk,hne,hsh,hlen,hb⟩;cases ts with
  |nil=>exact absurd rfl hne
  | cons y ts =>
    dsimp only at hk hlen hb ⊢
    have hser:serL (y::ts)=y.head::(serL y.subs++serL ts):=by
     show(y.ser++serL ts)=_;rw[y.ser_eq];rfl
    rw[hser]at hk hlen;obtain⟨d1,d2,d3⟩:=yfc hk;have hy:=hsh y List.mem_cons_self;have har:=y.arity hy;have hsub:y.subs.length<=3:=by cases y<;>simp[Ex.subs]
    simp only[List.length_cons]at hb hlen;simp only[ycla,ycge,ycum,ycgo,ycis,ycug,ybtx,ybnv,ybvd,ybd,ybb,go_sem,zA,zB,zC,↓reduceIte,reduceCtorEq];refine⟨fun hlt=>⟨by omega,(ybwi _).use ?_⟩,fun hlt=>by omega⟩
    rw[d2,har];simp only[ybi,ybb,go_sem,zA,zB,↓reduceIte,reduceCtorEq];refine⟨fun h=>by omega,fun _=>⟨ikw (by omega) (by omega),ikw (by simp;omega) (by simp;omega),fun h=>⟨ikw (by omega) (by omega),?_⟩,fun h=>⟨ikw (by omega) (by omega),?_⟩⟩⟩
    ·have h1:ts=[]:=zAA (by omega)
     have h2:y.subs=[]:=zAA (by omega)
     subst h1;rw[h2]at hlen;simp[serL]at hlen;omega
    ·have hpos:y.subs++ts≠[]:=fun q=>by
      have q1:=congrArg zAI q;simp only[zAO,List.length_nil]at q1;omega
     refine yw (k+1,y.subs++ts) ⟨?_,hpos,?_,?_,?_⟩ (by dsimp only;omega) ?_
     ·dsimp only
      rw[d3];simp[serL]
     ·intro z hz;rcases List.mem_append.1 hz with q|q
      ·exact y.subs_shp hy z q
      ·exact hsh z (List.mem_cons_of_mem _ q)
     ·dsimp only
      have:(serL (y.subs++ts)).length=(serL y.subs++serL ts).length:=by simp[serL]
      rw[this];omega
     ·dsimp only
      simp only[zAO];omega
     ·refine yj [] [] [] ?_;simp only[allQ,live,yg,ybb,go_sem,zA,↓reduceIte,reduceCtorEq];simp;omega
end Sh
end
section
namespace Sh
open Go Ev
def varC(x:VarR):List SV:=[.a (.string x.name),.i .i64 x.kind,.i .i64 x.lo,.i .i64 x.hi,.i .i64 x.perNode,.i .i64 x.perID]
def ydd(l:List VarR):SV:=.sl 6 l.length (fun k=>varC (l.getD k default))
def yid(l:List SetR):SV:=.sl 2 l.length (fun k=>[.i .i64 (l.getD k default).var,ybd (l.getD k default).val])
def ydb(l:List RuleR):SV:=.sl 3 l.length (fun k=>[.a (.string (l.getD k default).name),ybd (l.getD k default).guard,yid (l.getD k default).sets])
def yni(p:ProgR):List SV:=[.a (.string p.name),ydd p.vars,ydb p.rules]
def ydp(g:Gr):SV:=.sl 1 g.ports.length (fun v=>[yx (yjr g v)])
def yfw(p:ProgR)(g:Gr):List SV:=[.a (.string p.name),ydd p.vars,ydb p.rules,yx g.ids,ybe g.ports,.i .i64 (yjh g),ydp g]
def yit(p:ProgR)(g:Gr)(c:Conf)(v:Nat)(e:List Tm):List SV:=[.rf (yfw p g),ybl c,.i .i64 v,ybd e]
theorem yblf(l:List Int):one1 (yx l)=true:=rfl
theorem ybgc{n:Nat}(l:List Int):owned (n+1) (yx l)=false:=rfl
theorem ybce{n:Nat}(l:List Int):scalar (n+1) (yx l)=false:=rfl
theorem ybkp{n:Nat}(o:Own)(l:List Int):view o (n+1) (yx l)=yx l:=rfl
theorem ybwx{n:Nat}(o:Own)(l:List Int):vok o (n+1) (yx l)=True:=rfl
theorem ybnz{n:Nat}(h:Nm->Nm)(l:List Int):ren h (n+1) (yx l)=yx l:=rfl
theorem ybzo{n:Nat}(L:Nm->Bool)(l:List Int):cln L (n+1) (yx l)=true:=rfl
theorem ybdi(l:List (Int×Int)):one1 (ybd l)=true:=rfl
theorem ybcd{n:Nat}(l:List (Int×Int)):owned (n+1) (ybd l)=false:=rfl
theorem ywi{n:Nat}(l:List (Int×Int)):scalar (n+1) (ybd l)=false:=rfl
theorem ybgo{n:Nat}(o:Own)(l:List (Int×Int)):view o (n+1) (ybd l)=ybd l:=rfl
theorem ybmj{n:Nat}(o:Own)(l:List (Int×Int)):vok o (n+1) (ybd l)=True:=rfl
theorem ybmc{n:Nat}(h:Nm->Nm)(l:List (Int×Int)):ren h (n+1) (ybd l)=ybd l:=rfl
theorem ybju{n:Nat}(L:Nm->Bool)(l:List (Int×Int)):cln L (n+1) (ybd l)=true:=rfl
theorem ybga(l:List (List (Int×Int))):one1 (ybe l)=true:=rfl
theorem ybbe{n:Nat}(l:List (List (Int×Int))):owned (n+1) (ybe l)=false:=rfl
theorem yxl{n:Nat}(l:List (List (Int×Int))):scalar (n+1) (ybe l)=false:=rfl
theorem ybfa{n:Nat}(o:Own)(l:List (List (Int×Int))):view o (n+1) (ybe l)=ybe l:=rfl
theorem yblo{n:Nat}(o:Own)(l:List (List (Int×Int))):vok o (n+1) (ybe l)=True:=rfl
theorem ybnd{n:Nat}(h:Nm->Nm)(l:List (List (Int×Int))):ren h (n+1) (ybe l)=ybe l:=rfl
theorem yblk{n:Nat}(L:Nm->Bool)(l:List (List (Int×Int))):cln L (n+1) (ybe l)=true:=rfl
theorem ybjy(l:List (List Int)):one1 (ybl l)=true:=rfl
theorem ybfs{n:Nat}(l:List (List Int)):owned (n+1) (ybl l)=false:=rfl
theorem ybaa{n:Nat}(l:List (List Int)):scalar (n+1) (ybl l)=false:=rfl
theorem yblm{n:Nat}(o:Own)(l:List (List Int)):view o (n+1) (ybl l)=ybl l:=rfl
theorem ybtr{n:Nat}(o:Own)(l:List (List Int)):vok o (n+1) (ybl l)=True:=rfl
theorem ybsq{n:Nat}(h:Nm->Nm)(l:List (List Int)):ren h (n+1) (ybl l)=ybl l:=rfl
theorem ybnp{n:Nat}(L:Nm->Bool)(l:List (List Int)):cln L (n+1) (ybl l)=true:=rfl
theorem ybmd(l:List VarR):one1 (ydd l)=true:=rfl
theorem ybem{n:Nat}(l:List VarR):owned (n+1) (ydd l)=false:=rfl
theorem ybag{n:Nat}(l:List VarR):scalar (n+1) (ydd l)=false:=rfl
theorem yblr{n:Nat}(o:Own)(l:List VarR):view o (n+1) (ydd l)=ydd l:=rfl
theorem ybqe{n:Nat}(o:Own)(l:List VarR):vok o (n+1) (ydd l)=True:=rfl
theorem ybzb{n:Nat}(h:Nm->Nm)(l:List VarR):ren h (n+1) (ydd l)=ydd l:=rfl
theorem ybqj{n:Nat}(L:Nm->Bool)(l:List VarR):cln L (n+1) (ydd l)=true:=rfl
theorem ybng(l:List SetR):one1 (yid l)=true:=rfl
theorem ybfk{n:Nat}(l:List SetR):owned (n+1) (yid l)=false:=rfl
theorem ybbs{n:Nat}(l:List SetR):scalar (n+1) (yid l)=false:=rfl
theorem ybly{n:Nat}(o:Own)(l:List SetR):view o (n+1) (yid l)=yid l:=rfl
theorem ybvb{n:Nat}(o:Own)(l:List SetR):vok o (n+1) (yid l)=True:=rfl
theorem ybsz{n:Nat}(h:Nm->Nm)(l:List SetR):ren h (n+1) (yid l)=yid l:=rfl
theorem ybyj{n:Nat}(L:Nm->Bool)(l:List SetR):cln L (n+1) (yid l)=true:=rfl
theorem ybfd(l:List RuleR):one1 (ydb l)=true:=rfl
theorem yyq{n:Nat}(l:List RuleR):owned (n+1) (ydb l)=false:=rfl
theorem ywd{n:Nat}(l:List RuleR):scalar (n+1) (ydb l)=false:=rfl
theorem ybeq{n:Nat}(o:Own)(l:List RuleR):view o (n+1) (ydb l)=ydb l:=rfl
theorem ybnh{n:Nat}(o:Own)(l:List RuleR):vok o (n+1) (ydb l)=True:=rfl
theorem ybke{n:Nat}(h:Nm->Nm)(l:List RuleR):ren h (n+1) (ydb l)=ydb l:=rfl
theorem yblh{n:Nat}(L:Nm->Bool)(l:List RuleR):cln L (n+1) (ydb l)=true:=rfl
theorem ybcy(l:Gr):one1 (ydp l)=true:=rfl
theorem yzc{n:Nat}(l:Gr):owned (n+1) (ydp l)=false:=rfl
theorem yxp{n:Nat}(l:Gr):scalar (n+1) (ydp l)=false:=rfl
theorem ybeu{n:Nat}(o:Own)(l:Gr):view o (n+1) (ydp l)=ydp l:=rfl
theorem ybma{n:Nat}(o:Own)(l:Gr):vok o (n+1) (ydp l)=True:=rfl
theorem yblg{n:Nat}(h:Nm->Nm)(l:Gr):ren h (n+1) (ydp l)=ydp l:=rfl
theorem ybmr{n:Nat}(L:Nm->Bool)(l:Gr):cln L (n+1) (ydp l)=true:=rfl
theorem ybdg{n:Nat}(fr:List Nm)(o:Own)(l:List Int):ydi fr o (n+1) (yx l)=yx l:=rfl
theorem ybnx{n:Nat}(fr:List Nm)(o:Own)(l:List Int):pok fr o (n+1) (yx l)=True:=rfl
theorem ybcv{n:Nat}(fr:List Nm)(o:Own)(l:List (Int×Int)):ydi fr o (n+1) (ybd l)=ybd l:=rfl
theorem ybmw{n:Nat}(fr:List Nm)(o:Own)(l:List (Int×Int)):pok fr o (n+1) (ybd l)=True:=rfl
theorem ybbq{n:Nat}(fr:List Nm)(o:Own)(l:List (List (Int×Int))):ydi fr o (n+1) (ybe l)=ybe l:=rfl
theorem ybjo{n:Nat}(fr:List Nm)(o:Own)(l:List (List (Int×Int))):pok fr o (n+1) (ybe l)=True:=rfl
theorem ybdp{n:Nat}(fr:List Nm)(o:Own)(l:List (List Int)):ydi fr o (n+1) (ybl l)=ybl l:=rfl
theorem ybpl{n:Nat}(fr:List Nm)(o:Own)(l:List (List Int)):pok fr o (n+1) (ybl l)=True:=rfl
theorem ybcx{n:Nat}(fr:List Nm)(o:Own)(l:List VarR):ydi fr o (n+1) (ydd l)=ydd l:=rfl
theorem ybso{n:Nat}(fr:List Nm)(o:Own)(l:List VarR):pok fr o (n+1) (ydd l)=True:=rfl
theorem ybfu{n:Nat}(fr:List Nm)(o:Own)(l:List SetR):ydi fr o (n+1) (yid l)=yid l:=rfl
theorem ybyo{n:Nat}(fr:List Nm)(o:Own)(l:List SetR):pok fr o (n+1) (yid l)=True:=rfl
theorem yyz{n:Nat}(fr:List Nm)(o:Own)(l:List RuleR):ydi fr o (n+1) (ydb l)=ydb l:=rfl
theorem ybne{n:Nat}(fr:List Nm)(o:Own)(l:List RuleR):pok fr o (n+1) (ydb l)=True:=rfl
theorem ybbo{n:Nat}(fr:List Nm)(o:Own)(l:Gr):ydi fr o (n+1) (ydp l)=ydp l:=rfl
theorem ybks{n:Nat}(fr:List Nm)(o:Own)(l:Gr):pok fr o (n+1) (ydp l)=True:=rfl
theorem ybdw(l:List Int):SV.cells (yx l)=[yx l]:=rfl
theorem ybbp(l:List (Int×Int)):SV.cells (ybd l)=[ybd l]:=rfl
theorem ybcf(l:List (List (Int×Int))):SV.cells (ybe l)=[ybe l]:=rfl
theorem ybff(l:List (List Int)):SV.cells (ybl l)=[ybl l]:=rfl
theorem ybef(l:List VarR):SV.cells (ydd l)=[ydd l]:=rfl
theorem ybdq(l:List SetR):SV.cells (yid l)=[yid l]:=rfl
theorem ybcs(l:List RuleR):SV.cells (ydb l)=[ydb l]:=rfl
theorem yys(l:Gr):SV.cells (ydp l)=[ydp l]:=rfl
attribute [go_sem] yblf ybgc ybce ybkp ybwx ybnz ybzo ybdi ybcd ywi ybgo ybmj ybmc ybju
attribute [go_sem] ybga ybbe yxl ybfa yblo ybnd yblk ybjy ybfs ybaa yblm ybtr ybsq
attribute [go_sem] ybnp ybmd ybem ybag yblr ybqe ybzb ybqj ybng ybfk ybbs ybly ybvb ybsz
attribute [go_sem] ybyj ybfd yyq ywd ybeq ybnh ybke yblh ybcy yzc yxp ybeu ybma
attribute [go_sem] yblg ybmr ybdg ybnx ybcv ybmw ybbq ybjo ybdp ybpl ybcx ybso ybfu ybyo
attribute [go_sem] yyz ybne ybbo ybks ybdw ybbp ybcf ybff ybef ybdq ybcs yys
end Sh
end
section
namespace Sh
open Go Ev
theorem ycaq(p:ProgR){g:Gr}(hg:ybc g)(op:Int){v:Nat}(hv:v<g.ports.length)(port:Int)(hp:op=6\/op=7\/op=8\/op=9\/op=10\/op=11\/(0<=port/\port<(g.ports.getD v []).length)) :
 Returns zH 255 [.rf (yfw p g),.i .i64 op,.i .i64 v,.i .i64 port] (.i .i64 (ymo g op v port)):=by
 refine Returns.of (ycyc _ _ ?_);have hlen:=hg.2.2.1;simp only[c255,ycsb,ycsa,yckd,ycgd,ycgm,ycku,ycju,ycmm,yciw,ycpx,ybog,ybqz,ybva,ybti,ybxs,ybrr,ybth,ybyf,ybsy,ybwm,yboj,ybsv,ybtc,ybud,ybug,yfw,yx,ybe,ybd,ydp,ybb,go_sem,zA,zB,zC,zF,↓reduceIte,reduceCtorEq];refine⟨fun h6=>?_,fun h6=>⟨fun h7=>?_,fun h7=>⟨fun h8=>⟨by omega,?_⟩,fun h8=>⟨fun h9=>⟨by omega,?_⟩,fun h9=>⟨fun h10=>(yee _).use ?_,fun h10=>⟨fun h11=>?_,fun h11=>?_⟩⟩⟩⟩⟩⟩
 ·simp[ymo,h6]
 ·simp[ymo,h7]
 ·simp[ymo,h8]
 ·simp[ymo,h9]
 ·simp only[ybi,ybb,go_sem,zA,zB,↓reduceIte,reduceCtorEq];simp[ymo,h10]
 ·simp[ymo,h11]
 ·have hp:0<=port/\port<(g.ports.getD v []).length:=by omega
  have hpn:port.toNat<(g.ports.getD v []).length:=by omega
  have hl:=hg.ybr hv hpn;unfold ybr at hl;refine⟨by omega,by omega,fun h13=>⟨by omega,?_⟩,fun h13=>⟨fun h14=>⟨by omega,?_⟩,fun h14=>⟨fun h15=>(yee _).use ?_,fun h15=>⟨fun h16=>?_,fun h16=>⟨by omega,?_⟩⟩⟩⟩⟩
  ·simp[ymo,h13,ybr]
  ·simp[ymo,h14,ybr]
  ·simp only[ybi,ybb,go_sem,zA,zB,↓reduceIte,reduceCtorEq];simp[ymo,h15,ybr]
  ·simp[ymo,h16,ybr]
  ·refine⟨by rw[show(yjr g v).length=(g.ports.getD v []).length from zAG _];omega,?_⟩
   simp[ymo,h6,h7,h8,h9,h10,h11,h13,h14,h15,h16]
theorem ycdu(p:ProgR){g:Gr}(hg:ybc g){nv:Nat}{c:Conf}(hc:ConfIn g.ports.length nv c){v:Nat}(hv:v<g.ports.length)(e:List Tm){op arg:Int}{bnd:Bool}(ho:(Ex.leaf op arg).ok nv bnd=true)(port:Int)(hp:bnd=true->0<=port/\port<(g.ports.getD v []).length) :
 Returns zH 236 [.rf (yit p g c v e),.ag [.i .i64 op,.i .i64 arg],.i .i64 port] (.i .i64 (ysx g c op arg v port)):=by
 refine Returns.of (yczl _ _ ?_);simp only[Ex.ok,zD,decide_eq_true_eq]at ho;obtain⟨⟨ho1,ho2⟩,ho3⟩:=ho;have hlen:=hc.len;have hrow:=hc.at_ hv;have hF:=ycaq p hg op hv port;simp only[yfw,yx,ybe,ybd,ydp]at hF;simp only[c236,yctn,ycja,ycgl,ycld,ycme,ycre,ycpg,yckn,ycpq,ycwd,ybre,ybnj,ybwn,ybsc,ybpu,yit,ybl,yfw,yx,ybe,ybd,ydp,ybb,go_sem,zA,zB,zC,zF,↓reduceIte,reduceCtorEq];refine⟨fun h1=>?_,fun h1=>⟨fun h2=>?_,fun h2=>⟨fun h3=>?_,fun h3=>⟨fun h4=>?_,fun h4=>⟨fun h5=>?_,fun h5=>⟨fun h12=>?_,fun h12=>(hF ?_).use ?_⟩⟩⟩⟩⟩⟩
 ·simp[ysx,h1]
 ·simp[ysx,h2]
 ·simp[ysx,h3]
 ·simp[ysx,h4]
 ·rw[if_neg (by omega),if_pos (by omega)]at ho2
  have ho2:=of_decide_eq_true ho2;refine⟨by omega,by omega,?_⟩
  simp[ysx,h5]
 ·rw[if_neg (by omega),if_pos (by omega)]at ho2
  have ho2:=of_decide_eq_true ho2;rw[if_pos (by omega)]at ho3
  have hp:=hp ho3;have hpn:port.toNat<(g.ports.getD v []).length:=by omega
  have hl:=hg.ybr hv hpn;have hr2:=hc.at_ (v:=(ybr g v port.toNat).1.toNat) (by omega)
  unfold ybr at hl hr2;refine⟨by omega,by omega,by omega,by omega,?_⟩
  simp[ysx,h12,ybr]
 ·by_cases q:11<=op
  ·rw[if_pos q]at ho3;have:=hp ho3;omega
  ·omega
 ·simp only[ybi,ybb,go_sem,zA,zB,↓reduceIte,reduceCtorEq];simp[ysx,h1,h2,h3,h4,h5,h12]
theorem yqe{e:List Tm}{at_:Nat}{a b:List Tm}(h:e.drop at_=a++b):e.drop (at_+a.length)=b:=by
 rw[<-List.drop_drop,h,List.drop_left]
theorem ycdb{n:Nat}{gg:Nat->List SV}{l:List Int}(hn:n=l.length)(h:∀k,k<n->gg k=[.i .i64 (l.getD k 0)]):Sim (.sl 1 n gg) (yx l):=by
 subst hn;exact yjk h
def ybzc(p:ProgR)(g:Gr)(nv:Nat)(c:Conf)(v:Nat)(e:List Tm)(x:Ex):Prop :=
 ∀ (bnd:Bool) (port:Int) (at_:Nat) (rest:List Tm),x.ok nv bnd=true->(bnd=true->0<=port/\port<(g.ports.getD v []).length)->InB port->e.drop at_=x.ser++rest ->
   Returns zH 220 [.rf (yit p g c v e),.i .i64 at_,.i .i64 port] (.tp [.i .i64 (ybx g c v x port),.i .i64 ((at_+x.ser.length:Nat):Int)])
theorem ywz(p:ProgR){g:Gr}(hg:ybc g){nv:Nat}{c:Conf}(hc:ConfIn g.ports.length nv c){v:Nat}(hv:v<g.ports.length)(e:List Tm)(hl:e.length<=1000){op:Int}{a:Ex}(ho:(Ex.agg op a).ok nv true=true)(ih:ybzc p g nv c v e a)(at_:Nat)(rest:List Tm)(he:e.drop at_=(Ex.agg op a).ser++rest) :
 Returns zH 238 [.rf (yit p g c v e),.i .i64 op,.i .i64 at_] (.tp [.i .i64 (ybx g c v (.agg op a) 0),.i .i64 ((at_+(Ex.agg op a).ser.length:Nat):Int)]):=by
 have ho':=ho;simp only[Ex.ok,zD,decide_eq_true_eq]at ho;have hd:=hg.deg_lt (v:=v);obtain⟨deg,hdeg⟩:∃d,(g.ports.getD v []).length=d:=⟨_,rfl⟩;rw[hdeg]at hd;have hin:∀q:Nat,q<deg->InB (ybx g c v a q):=fun q hq=>yhd hg rfl hc hv a ho.2 (fun _=>by omega) (by unfold InB;omega)
 have hsh:=Ex.ok_shp _ ho';have hdrop:e.drop (at_+1)=a.ser++rest:=(yfc (show e.drop at_=(op,0)::(a.ser++rest)from he)).2.2
 have hat:=(yfc (show e.drop at_=(op,0)::(a.ser++rest)from he)).1
 have hfit:at_+1+a.ser.length<=e.length:=by
  have:=congrArg zAI hdrop;simp at this;omega
 refine Returns.of (ycyn _ _ ?_);simp only[c238,ycsx,yciy,ycts,ycsr,yit,ybl,yfw,yx,ybe,ybd,ydp,hdeg,go_sem,zA,zB,zC,zF,↓reduceIte,reduceCtorEq];refine⟨by omega,?_⟩
 let val:Nat->Int:=fun q=>ybx g c v a q
 refine ybj (σ:=Nat) (fun k=>⟨[(27,.i .i64 k),(26,.i .i64 deg),(9,.i .i64 deg),(0,.rf (yit p g c v e)),(1,.i .i64 op),(2,.i .i64 at_),(8,.pt (8,0) 0 0),(7,.i .i64 (if k=0 then 0 else((at_+1+a.ser.length:Nat):Int)))],
  [(8,.one (some ⟨256,true,1,24,fun i=>[.i .i64 (if i<k then val i else 0)]⟩))]⟩) (fun k=>k<=deg) (fun k=>deg-k) 0 (zJ _) ?_ ?_
 ·refine yj [] [] [] ?_;simp only[yit,ybl,yfw,yx,ybe,ybd,ydp,allQ,live,yg,ybb,zG,go_sem,zA,↓reduceIte,reduceCtorEq];intro i _;rw[if_neg (by omega)]
 ·intro k hk;simp only[yclp,ycih,ycto,ycti,ycry,yclx,ybxp,go_sem,zA,zB,zC,↓reduceIte,reduceCtorEq];refine⟨fun hlt=>⟨ikw (by omega) (by omega),?_⟩,fun hlt=>?_⟩
  ·have hk':k<deg:=by omega
   have hv1:=ih true (k:Int) (at_+1) rest ho.2 (fun _=>by rw[hdeg];omega) (by unfold InB;omega) hdrop
   rw[show((at_+1:Nat):Int)=(at_:Int)+1 by omega]at hv1
   refine hv1.use ?_;simp only[ybi,splice,go_sem,zA,zB,↓reduceIte,reduceCtorEq];refine⟨by omega,by omega,ikw (by omega) (by omega),?_⟩
   refine yw (k+1) (by omega) (by omega) ?_
   refine yj [] [] [] ?_;simp only[allQ,live,yg,ybb,go_sem,zA,↓reduceIte,reduceCtorEq];refine⟨by omega,?_⟩
   intro i hi
   by_cases q:i=k
   ·rw[if_pos q,if_pos (by omega)]
    subst q;simp only[val,live,yg,go_sem,reduceCtorEq]
   ·rw[if_neg q]
    by_cases q2:i<k
    ·rw[if_pos q2,if_pos (by omega)]
     simp only[live,yg,go_sem,reduceCtorEq]
    ·rw[if_neg q2,if_neg (by omega)]
     simp only[live,yg,go_sem,reduceCtorEq]
  ·obtain rfl:k=deg:=by omega
   have hE:=yden e _ at_ rest hsh he hl
   have hF:=ycbd op ((zAR k).map val) (by simp;omega) (fun x hx=>by
    obtain⟨q,hq,rfl⟩:=List.mem_map.1 hx;exact hin q (List.mem_range.1 hq))
   have hres:ybx g c v (.agg op a) 0=yhm op ((zAR k).map val):=by
    show yhm op _=_;rw[hdeg]
   rw[hres];simp only[yit,ybd,go_sem,zA,zB,↓reduceIte,reduceCtorEq];simp only[ybd]at hE
   have hsim:SimL [.i .i64 op,.sl 1 (k-0) fun i=>[.i .i64 (if i<k then val i else 0)]] [.i .i64 op,yx ((zAR k).map val)]:=by
    refine⟨Sim.refl _,ycdb (by simp) fun i hi=>?_,trivial⟩
    rw[if_pos (by omega)]
    simp[zS,show i<k by omega]
   refine⟨fun h0=>hE.use ?_,fun h0=>?_⟩
   ·simp only[ybi,go_sem,zA,zB,zC,↓reduceIte,reduceCtorEq];refine⟨by simp;omega,.inl ⟨by omega,hF.useS hsim ?_⟩⟩
    simp only[go_sem];exact Sim.refl _
   ·refine⟨by simp;omega,.inl ⟨by omega,hF.useS hsim ?_⟩⟩
    simp only[ybi,if_neg (show ¬k=0 by omega),go_sem,zA,zB,↓reduceIte,reduceCtorEq]
    rw[show at_+(Ex.agg op a).ser.length=at_+1+a.ser.length by simp[Ex.ser];omega]
    exact Sim.refl _
end Sh
end
section
namespace Sh
open Go Ev
theorem ybkj(g:Gr)(v:Nat)(hv:v<g.ports.length)(u:Int)(hl:(g.ports.getD v []).length<=100000):Returns zH 170 [grV g,.i .i64 v,.i .i64 u] (.i .i64 (yha (g.ports.getD v []) u)):=by
 refine Returns.of (ycxs _ _ ?_);simp only[c170,ychx,ycki,grV,ybe,ybd,yx,go_sem,zA,zB,zF,↓reduceIte,reduceCtorEq];refine⟨by omega,?_⟩
 obtain⟨ls,hls⟩:∃ls,g.ports.getD v []=ls:=⟨_,rfl⟩;rw[hls]at hl ⊢;refine ybj (σ:=Nat) (fun k=>⟨[(15,.i .i64 k),(13,ybd ls),(14,.i .i64 ls.length),(2,.i .i64 u)],[]⟩) (fun k=>k<=ls.length/\(ls.take k).findIdx? (fun l=>l.1==u)=none) (fun k=>ls.length-k) 0 ⟨zJ _,by simp⟩ ?_ ?_
 ·refine yj [] [] [] ?_;simp only[ybd,allQ,live,yg,zG,go_sem,zA,↓reduceIte,reduceCtorEq]
 ·intro k ⟨hk,hno⟩;simp only[ycux,ycoi,ycji,ycmc,ycoy,ycrr,ybd,ybb,splice,go_sem,zA,zB,zC,zF,↓reduceIte,reduceCtorEq];refine⟨fun hlt=>⟨by omega,fun he=>?_,fun he=>⟨ikw (by omega) (by omega),?_⟩⟩,fun hlt=>?_⟩
  ·have hlt:k<ls.length:=by omega
   rw[getD_at hlt]at he;rw[yuq ls u k hlt he hno]
  ·have hlt:k<ls.length:=by omega
   rw[getD_at hlt]at he;refine yw (k+1) ⟨by omega,ybad ls u k hlt he hno⟩ (by omega) ?_
   refine yj [] [] [] ?_;simp only[allQ,live,yg,ybb,go_sem,zA,↓reduceIte,reduceCtorEq];simp
  ·obtain rfl:k=ls.length:=by omega
   rw[ybdb ls u hno]
theorem yblc{ids:List Int}{k:Nat}(h:k<ids.length):(ids.take (k+1)).foldl max 0=max ((ids.take k).foldl max 0) (ids.getD k 0):=by
 rw[ybjq ids k h,getD_at h]
theorem yzl(p:ProgR){g:Gr}(hg:ybc g):Returns zH 143 [.ag (yni p),grV g] (.rf (yfw p g)):=by
 refine Returns.of (ycym _ _ ?_);have h24:=hg.2.1;have hid:=hg.2.2.1;obtain⟨n,hn⟩:∃n,g.ports.length=n:=⟨_,rfl⟩;rw[hn]at h24 hid;simp only[c143,yctd,yche,yclz,grV,ybe,ybd,yx,yni,splice,hn,go_sem,zA,zB,zC,zF,↓reduceIte,reduceCtorEq];refine⟨by omega,?_⟩
 refine ybj (σ:=Nat) (fun k=>⟨[(21,.i .i64 k),(19,ybe g.ports),(20,.i .i64 n),(3,.pt (3,0) 0 0),(5,.pt (17,0) 0 0)],
  [(3,.one (some ⟨27,true,2,1,fun _=>[yx g.ids,ybe g.ports]⟩)),(17,.one (some ⟨170,true,7,1,fun _=>[.a (.string p.name),ydd p.vars,ydb p.rules,yx g.ids,ybe g.ports,.i .i64 ((g.ids.take k).foldl max 0),.os (15,0) 0 n true]⟩)),
   (15,.one (some ⟨22,false,1,n,fun i=>[if i<k then yx (yjr g i)else .a (.slice none 0 0)]⟩))]⟩) (fun k=>k<=n) (fun k=>n-k) 0 (zJ _) ?_ ?_
 ·refine yj [] [] [] ?_;simp only[ybe,ybd,yx,hn,allQ,live,yg,ybb,zG,go_sem,zA,↓reduceIte,reduceCtorEq];refine⟨fun i _=>by simp,fun i _=>?_⟩
  rw[if_neg (by omega)]
  simp only[yg,go_sem]
 ·intro k hk;simp only[ycln,ycqx,ycog,yclj,ybe,ybd,yx,splice,hn,go_sem,zA,zB,zC,↓reduceIte,reduceCtorEq];refine⟨fun hlt=>⟨by omega,by omega,by decide,?_⟩,fun hlt=>?_⟩
  ·have hk':k<n:=by omega
   obtain⟨ls,hls⟩:∃ls,g.ports.getD k []=ls:=⟨_,rfl⟩;have hdeg:=hg.deg_lt (v:=k);rw[hls]at hdeg;rw[hls]
   have hback:∀j,j<ls.length->(yjr g k).getD j 0=yha (g.ports.getD (ls.getD j (0,0)).1.toNat []) k:=fun j hj=>by
    unfold yjr;rw[hls];simp[zS,hj]
   have hbl:(yjr g k).length=ls.length:=by unfold yjr;rw[hls,zAG]
   refine ybj (σ:=Nat) (fun j=>⟨[(41,.i .i64 j),(39,ybd ls),(40,.i .i64 ls.length),(6,.i .i64 k),(21,.i .i64 k),(19,ybe g.ports),(20,.i .i64 n),(3,.pt (3,0) 0 0),(5,.pt (17,0) 0 0)],
    [(3,.one (some ⟨27,true,2,1,fun _=>[yx g.ids,ybe g.ports]⟩)),(17,.one (some ⟨170,true,7,1,fun _=>[.a (.string p.name),ydd p.vars,ydb p.rules,yx g.ids,ybe g.ports,.i .i64 ((g.ids.take (k+1)).foldl max 0),.os (15,0) 0 n true]⟩)),
     (15,.one (some ⟨22,false,1,n,fun i=>[if i<k then yx (yjr g i)else if i=k then .os (100,0) 0 j true else .a (.slice none 0 0)]⟩)),
     (100,.one (some ⟨3,false,1,j,fun q=>[.i .i64 ((yjr g k).getD q 0)]⟩))]⟩) (fun j=>j<=ls.length) (fun j=>ls.length-j) 0 (zJ _) ?_ ?_
   ·refine yj [] [100] [] ?_;simp only[ybe,ybd,yx,hn,yblc (show k<g.ids.length by omega),allQ,live,yg,zG,go_sem,zA,zAM,↓reduceIte,reduceCtorEq]
    intro i hi
    by_cases q1:i<k
    ·simp only[if_pos q1];simp only[yg,go_sem,reduceCtorEq]
    ·by_cases q2:i=k
     ·simp only[if_neg q1,if_pos q2];simp only[live,go_sem,zA,↓reduceIte];simp
     ·simp only[if_neg q1,if_neg q2];simp only[yg,go_sem,reduceCtorEq]
   ·intro j hj;simp only[ycqi,ycsn,ycie,ybqf,ybvr,ybe,ybd,yx,splice,hn,go_sem,zA,zB,zC,zF,↓reduceIte,reduceCtorEq]
    have hP:=fun hlt:j<ls.length=>ybkj g (ls.getD j (0,0)).1.toNat (by
     have:=hg.ybr (v:=k) (p:=j) (by omega) (by rw[hls];omega)
     unfold ybr at this;rw[hls]at this;omega) (k:Int) (by have:=hg.deg_lt (v:=(ls.getD j (0,0)).1.toNat);omega)
    have hto:j<ls.length->((ls.getD j (0,0)).1.toNat:Int)=(ls.getD j (0,0)).1:=fun hlt=>by
     have:=hg.ybr (v:=k) (p:=j) (by omega) (by rw[hls];omega)
     unfold ybr at this;rw[hls]at this;omega
    refine⟨fun hlt=>⟨by omega,by omega,by omega,?_⟩,fun hlt=>?_⟩
    ·have hj':j<ls.length:=by omega
     have hP:=hP hj';rw[hto hj']at hP;simp only[grV,ybe,ybd,yx,hn]at hP;refine hP.use ?_;simp only[ybi,splice,go_sem,zA,zB,zC,zF,↓reduceIte,reduceCtorEq];refine⟨by decide,by omega,by decide,by omega,by omega,by decide,ikw (by omega) (by omega),?_⟩
     refine yw (j+1) (by omega) (by omega) ?_
     refine yj [(100,fun _=>(63,0))] [] [] ?_;simp only[allQ,live,yg,ybb,go_sem,zA,↓reduceIte,reduceCtorEq];refine⟨by omega,fun i hi=>?_,fun i hi=>?_⟩
     ·by_cases q2:i=k
      ·simp only[if_pos q2,if_neg (show ¬i<k by omega)]
       simp only[live,yg,go_sem,zA,↓reduceIte,reduceCtorEq]
      ·simp only[if_neg q2]
       by_cases q1:i<k
       ·simp only[if_pos q1];simp only[live,yg,go_sem,reduceCtorEq]
       ·simp only[if_neg q1];simp only[live,yg,go_sem,reduceCtorEq]
     ·by_cases q2:i<j
      ·simp only[if_pos q2];simp only[live,yg,go_sem,reduceCtorEq]
      ·obtain rfl:i=j:=by omega
       simp only[if_neg q2,Nat.sub_self,Nat.zero_mul];simp only[live,ybb,go_sem,reduceCtorEq];rw[hback i hj']
    ·obtain rfl:j=ls.length:=by omega
     refine⟨ikw (by omega) (by omega),?_⟩
     refine yw (k+1) (by omega) (by omega) ?_
     refine yj [] [] [(100,0)] ?_;simp only[allQ,live,yg,ybb,go_sem,zA,zC,↓reduceIte,reduceCtorEq];refine⟨by omega,fun i hi=>?_⟩
     by_cases q1:i<k
     ·simp only[if_pos q1,if_pos (show i<k+1 by omega)]
      simp only[yg,go_sem]
     ·by_cases q2:i=k
      ·simp only[if_neg q1,if_pos q2,if_pos (show i<k+1 by omega)]
       subst q2;simp only[hbl,yg,go_sem,zA,↓reduceIte]
      ·simp only[if_neg q1,if_neg q2,if_neg (show ¬i<k+1 by omega)]
       simp only[yg,go_sem]
  ·obtain rfl:k=n:=by omega
   simp only[ybup,go_sem,zA,zB,zC,↓reduceIte,reduceCtorEq];refine⟨fun q hq=>by simp only[if_pos hq];simp only[go_sem],?_⟩
   refine ydms ?_ (by simp only[yfw,go_sem])
   simp only[SimL,yfw,yx,ybe,ybd,ydp,hn,yg,true_and,and_true];refine⟨?_,?_⟩
   ·rw[ybb];refine⟨rfl,?_⟩;unfold yjh;rw[List.take_of_length_le (by omega)]
   ·refine ygn fun q hq=>?_;simp only[if_pos hq];simp only[SimL,yg,go_sem]
end Sh
end
section
def yjs(f:Nat->Bool):Nat->Nat
 |0=>0
 |n+1=>if f n then yjs f n|||2^n else yjs f n
theorem yjq(f:Nat->Bool):∀(n i:Nat),(yjs f n).testBit i=(decide (i<n)&&f i)
 |0,i=>by simp[yjs]
 | n + 1,i=>by
   unfold yjs;have ih:=yjq f n i
   by_cases h:f n=true
   ·rw[if_pos h,Nat.testBit_or,ih,Nat.testBit_two_pow]
    by_cases e:n=i
    ·subst e;simp[h]
    ·have:(i<n+1)=(i<n):=propext (by omega)
     simp[e,this]
   ·rw[if_neg h,ih]
    by_cases e:n=i
    ·subst e;simp[h]
    ·have:(i<n+1)=(i<n):=propext (by omega)
     simp[this]
theorem ybgs(f:Nat->Bool)(n:Nat):yjs f n<2^n:=by
 refine zAE _ fun i hi=>?_;rw[yjq];simp;omega
def difB(a b:Nat):Nat:=a ^^^ (a&&&b)
theorem ymk(a b i:Nat):(difB a b).testBit i=(a.testBit i && !(b.testBit i)):=by
 unfold difB;rw[Nat.testBit_xor,zAS];cases a.testBit i<;>cases b.testBit i<;>rfl
theorem yel(a:Nat):a=0↔∀i,a.testBit i=false:=by
 constructor
 ·rintro rfl i;simp
 ·intro h;exact zAJ fun i=>by rw[h i];simp
theorem ydij{a b n:Nat}(h:a<2^n):a&&&b<2^n:=by
 have:=zAT (n:=a) (m:=b);omega
theorem ybds{a b n:Nat}(h:a<2^n):difB a b<2^n:=by
 refine zAE _ fun i hi=>?_;rw[ymk,zQ (zO h (zL (by omega) hi))]
 rfl
structure Cnt where
 steps:Nat
 moves:Nat
 rounds:Nat
 begun:Nat
 pend:Nat
def yge(s:Nat):Nat->Nat
 |0=>0
 |n+1=>yge s n+(s.testBit n).toNat
def popP(s:Nat):Nat:=yge s 32
def ydx(e:Nat):Cnt:=⟨0,0,0,0,e⟩
def addP(k:Cnt)(chosen after:Nat):Cnt :=
 let p:=difB k.pend chosen&&&after
 ⟨k.steps+1,k.moves+popP chosen,if p=0 then k.rounds+1 else k.rounds,k.rounds+1,if p=0 then after else p⟩
def Cnt.ok(k:Cnt):Prop:=k.rounds<=k.begun/\k.begun<=k.rounds+1/\k.begun<=k.steps/\k.steps<=k.moves/\k.moves<=24*k.steps/\k.pend<2^24
theorem ykg(s:Nat):∀n,yge s n<=n
 |0=>zAB _
 | n+1=>by
   have:=ykg s n;unfold yge;cases s.testBit n<;>simp[Bool.toNat]<;>omega
theorem yvf(s:Nat)(h:s<2^24):∀k,yge s (24+k)=yge s 24
 |0=>rfl
 | k+1=>by
   have e:s.testBit (24+k)=false:=zQ (zO h (zL (by omega) (by omega)))
   show yge s (24+k)+(s.testBit (24+k)).toNat=_;rw[yvf s h k,e];rfl
theorem yboo(s:Nat)(h:s<2^24):popP s<=24:=by
 have:=yvf s h 8;unfold popP;rw[this];exact ykg s 24
theorem ybbm{s i:Nat}(hs:s.testBit i=true):∀n,i<n->1<=yge s n
 |0,h=>by omega
 | n+1,h=>by
   unfold yge
   by_cases e:i=n
   ·subst e;rw[hs];simp
   ·have:=ybbm hs n (by omega);omega
theorem ycas(s:Nat)(h:s<2^32)(h0:s≠0):1<=popP s:=by
 refine zT fun hc=>h0 ?_;rw[yel];intro i;cases hb:s.testBit i with
 |false=>rfl
 | true =>
   exfalso
   have hi:i<32:=by
    refine zT fun hi=>?_;rw[zQ (zO h (zL (by omega) (by omega)))]at hb
    cases hb
   exact hc (ybbm hb 32 hi)
theorem ybpo{e:Nat}(h:e<2^24):(ydx e).ok:=⟨zAB _,by simp[ydx],zAB _,zAB _,by simp[ydx],h⟩
theorem ydcg{k:Cnt}{s e:Nat}(hk:k.ok)(hs:s<2^24)(h0:s≠0)(he:e<2^24):(addP k s e).ok:=by
 obtain⟨h1,h2,h3,h4,h5,h6⟩:=hk;have p1:=yboo s hs;have p2:=ycas s (by omega) h0
 have hp:difB k.pend s&&&e<2^24:=ydij (ybds h6);unfold addP Cnt.ok;simp only;refine⟨by split<;>omega,by split<;>omega,by omega,by omega,by omega,by split<;>omega⟩
structure Sys where
 n:Nat
 en:Conf->Nat
 mv:Conf->Nat->Conf
def Sys.run(S:Sys)(res:Nat->Nat->Nat):List Nat->Conf->Cnt->List (Conf×Cnt)
 |[],_,_=>[]
 | w::ws,c,k=>if S.en c=0 then[]else(let s:=res (S.en c) w
   let d:=S.mv c s
   (d,addP k s (S.en d))::S.run res ws d (addP k s (S.en d)))
def Sys.runs(S:Sys)(res:Nat->Nat->Nat)(ws:List Nat)(c:Conf):List (Conf×Cnt):=(c,ydx (S.en c))::S.run res ws c (ydx (S.en c))
def subB(a b:Nat):Prop:=∀i,a.testBit i=true->b.testBit i=true
def ybye(res:Nat->Nat->Nat):Prop:=∀e w,e≠0->res e w≠0/\subB (res e w) e
theorem Sys.run_all{S:Sys}{res:Nat->Nat->Nat}(hr:ybye res){J:Conf->Cnt->Prop}(hstep:∀c k s,J c k->s≠0->subB s (S.en c)->J (S.mv c s) (addP k s (S.en (S.mv c s)))) :
 ∀(ws:List Nat) (c:Conf) (k:Cnt),J c k->∀p∈S.run res ws c k,J p.1 p.2
 |[],_,_,_,p,hp=>by cases hp
 | w :: ws,c,k,hJ,p,hp=>by
   unfold Sys.run at hp;split at hp
   ·cases hp
   ·rename_i h0
    obtain⟨r1,r2⟩:=hr _ w h0;have hJ':=hstep c k _ hJ r1 r2;rcases List.mem_cons.1 hp with e|e
    ·rw[e];exact hJ'
    ·exact Sys.run_all hr hstep ws _ _ hJ' p e
theorem Sys.runs_all{S:Sys}{res:Nat->Nat->Nat}(hr:ybye res){J:Conf->Cnt->Prop}(hstep:∀c k s,J c k->s≠0->subB s (S.en c)->J (S.mv c s) (addP k s (S.en (S.mv c s)))){ws:List Nat}{c:Conf}(h:J c (ydx (S.en c))):∀p∈S.runs res ws c,J p.1 p.2:=fun p hp=>by
 rcases List.mem_cons.1 hp with e|e
 ·rw[e];exact h
 ·exact Sys.run_all hr hstep ws _ _ h p e
structure ByRounds(S:Sys)(V:Conf->Prop)(P:Nat->Nat->List Int->Prop):Prop where
 valid:∀c s,V c->s≠0->subB s (S.en c)->V (S.mv c s)
 stay:∀c s v,V c->v<S.n->s.testBit v=false->(S.mv c s).getD v []=c.getD v []
 move:∀c s v r,V c->v<S.n->s.testBit v=true->subB s (S.en c)->(∀u,u<S.n->P r u (c.getD u []))->P (r+1) v ((S.mv c s).getD v [])
 rest:∀c v r,V c->v<S.n->(S.en c).testBit v=false->(∀u,u<S.n->P r u (c.getD u []))->P (r+1) v (c.getD v [])
 less:∀r v s,P (r+1) v s->P r v s
structure RInv(S:Sys)(V:Conf->Prop)(P:Nat->Nat->List Int->Prop)(c:Conf)(k:Cnt):Prop where
 valid:V c
 all:∀v,v<S.n->P k.rounds v (c.getD v [])
 done:∀v,v<S.n->k.pend.testBit v=false->P (k.rounds+1) v (c.getD v [])
 begun:k.begun<=k.rounds+1
theorem ByRounds.start{S:Sys}{V:Conf->Prop}{P:Nat->Nat->List Int->Prop}(h:ByRounds S V P){c:Conf}(hv:V c)(h0:∀v,v<S.n->P 0 v (c.getD v [])):RInv S V P c (ydx (S.en c)) :=
 ⟨hv,h0,fun v hn hb=>h.rest c v 0 hv hn hb h0,by simp[ydx]⟩
theorem ByRounds.step{S:Sys}{V:Conf->Prop}{P:Nat->Nat->List Int->Prop}(h:ByRounds S V P)(c:Conf)(k:Cnt)(s:Nat)(hi:RInv S V P c k)(h0:s≠0)(hs:subB s (S.en c)):RInv S V P (S.mv c s) (addP k s (S.en (S.mv c s))):=by
 obtain⟨i1,i2,i3,i4⟩:=hi;have hv:=h.valid c s i1 h0 hs
 have hall:∀v,v<S.n->P k.rounds v ((S.mv c s).getD v []):=fun v hn=>by
  cases hb:s.testBit v with
  |true=>exact h.less _ _ _ (h.move c s v _ i1 hn hb hs i2)
  |false=>rw[h.stay c s v i1 hn hb];exact i2 v hn
 have hnext:∀v,v<S.n->(difB k.pend s&&&S.en (S.mv c s)).testBit v=false->P (k.rounds+1) v ((S.mv c s).getD v []):=fun v hn hb=>by
  rw[zAS,ymk]at hb;cases hb1:s.testBit v with
  |true=>exact h.move c s v _ i1 hn hb1 hs i2
  | false =>
    cases hb2:k.pend.testBit v with
    |false=>rw[h.stay c s v i1 hn hb1];exact i3 v hn hb2
    | true =>
      rw[hb1,hb2]at hb;exact h.rest _ v _ hv hn (by simpa using hb) hall
 unfold addP;simp only
 by_cases hp:difB k.pend s&&&S.en (S.mv c s)=0
 ·simp only[if_pos hp];have hall':∀v,v<S.n->P (k.rounds+1) v ((S.mv c s).getD v []):=fun v hn=>hnext v hn (by rw[hp];simp)
  exact⟨hv,hall',fun v hn hb=>h.rest _ v _ hv hn hb hall',by show k.rounds+1<=_;simp⟩
 ·simp only[if_neg hp];exact⟨hv,hall,hnext,zAB _⟩
theorem ByRounds.runs{S:Sys}{V:Conf->Prop}{P:Nat->Nat->List Int->Prop}(h:ByRounds S V P){res:Nat->Nat->Nat}(hr:ybye res){ws:List Nat}{c:Conf}(hv:V c)(h0:∀v,v<S.n->P 0 v (c.getD v [])):∀p∈S.runs res ws c,RInv S V P p.1 p.2 :=
 Sys.runs_all hr h.step (h.start hv h0)
end
section
structure RuleT where
 name:ByteArray
 guard:Ex
 sets:List (Int×Ex)
structure ProgT where
 name:ByteArray
 vars:List VarR
 rules:List RuleT
instance:Inhabited Ex:=⟨.leaf 0 0⟩
instance:Inhabited RuleT:=⟨⟨.empty,default,[]⟩⟩
def RuleT.raw(r:RuleT):RuleR:=⟨r.name,r.guard.ser,r.sets.map fun s=>⟨s.1,s.2.ser⟩⟩
def ProgT.raw(p:ProgT):ProgR:=⟨p.name,p.vars,p.rules.map RuleT.raw⟩
def RuleT.ok(nv:Nat)(r:RuleT):Bool:=r.guard.ok nv false&&decide (r.guard.ser.length<=1000)&&decide (r.sets.length<=100)&&r.sets.all fun s=>decide (0<=s.1/\s.1<nv)&&s.2.ok nv false&&decide (s.2.ser.length<=1000)
def VarR.ok(x:VarR):Bool:=decide (x.kind=1\/x.kind=2\/x.kind=3)&&decide (0<=x.lo/\x.lo<=4096)&&decide (-4096<=x.hi/\x.hi<=4096)&&decide (0<=x.perNode/\x.perNode<=255)&&decide (0<=x.perID/\x.perID<=255)
def ProgT.ok(p:ProgT):Bool:=decide (1<=p.vars.length/\p.vars.length<=6)&&p.vars.all VarR.ok&&decide (p.rules.length<=12)&&p.rules.all (RuleT.ok p.vars.length)
def ykt(g:Gr)(c:Conf)(v:Nat)(r:RuleT):Bool:=ybx g c v r.guard (-1)!=0
def ygx(p:ProgT)(g:Gr)(c:Conf)(v:Nat):Int:=match p.rules.findIdx? (ykt g c v)with|some i=>i|none=>-1
def ybh(g:Gr)(v:Nat)(x:VarR):Int×Int :=
 if x.kind=1 then(x.lo,x.hi+x.perNode*(g.ids.length:Int)+x.perID*maxI g.ids)else if x.kind=2 then(0,1)else if x.kind=3 then(-1,((g.ports.getD v []).length:Int)-1)else(0,-1)
def ygc(kind:Int)(b:Int×Int)(x:Int):Int:=if x>=b.1/\x<=b.2 then x else if kind=3 then -1 else if x<b.1 then b.1 else b.2
def yot(p:ProgT)(g:Gr)(c:Conf)(v:Nat)(s0:List Int)(sets:List (Int×Ex)):List Int :=
 sets.foldl (fun s a=>s.set a.1.toNat (ygc (p.vars.getD a.1.toNat default).kind (ybh g v (p.vars.getD a.1.toNat default)) (ybx g c v a.2 (-1)))) s0
def yyv(p:ProgT)(g:Gr)(c:Conf)(v:Nat)(r:Nat):List Int:=yot p g c v (c.getD v []) (p.rules.getD r default).sets
def ycc(p:ProgT)(g:Gr)(c:Conf):Nat:=yjs (fun v=>decide (ygx p g c v>=0)) g.ids.length
def ync(p:ProgT)(g:Gr)(c:Conf)(s:Nat):Conf:=c.zipIdx.map fun q=>if s.testBit q.2 then yyv p g c q.2 (ygx p g c q.2).toNat else q.1
def yby(p:ProgT)(g:Gr):Sys:=⟨g.ids.length,ycc p g,ync p g⟩
def yga(p:ProgT)(g:Gr)(c:Conf):Bool:=ynt g.ids.length (fun v=>p.vars.map (ybh g v)) c
end
section
namespace Sh
open Go Ev
theorem ydaf{g:Gr}(hg:ybc g):0<=maxI g.ids/\maxI g.ids<=255:=by
 have h1:=hg.1;have h2:=hg.2.2.1;rw[yyg (by omega) fun x hx=>(hg.2.2.2.1 x hx).1]
 exact ydh hg
theorem ybeo{x:VarR}(h:x.ok=true):(x.kind=1\/x.kind=2\/x.kind=3)/\(0<=x.lo/\x.lo<=4096)/\(-4096<=x.hi/\x.hi<=4096)/\(0<=x.perNode/\x.perNode<=255)/\(0<=x.perID/\x.perID<=255):=by
 unfold VarR.ok at h;simp only[zD,decide_eq_true_eq]at h;obtain⟨⟨⟨⟨a,b⟩,c⟩,d⟩,e⟩:=h;exact⟨a,b,c,d,e⟩
theorem mulN{a b A B:Int}(h1:0<=a)(h2:a<=A)(h3:0<=b)(h4:b<=B):0<=a*b/\a*b<=A*B:=⟨Int.mul_nonneg h1 h3,Int.mul_le_mul h2 h4 h3 (by omega)⟩
theorem ynb{g:Gr}(hg:ybc g){x:VarR}(hx:x.ok=true):(0<=x.perNode*(g.ids.length:Int)/\x.perNode*(g.ids.length:Int)<=255*24)/\(0<=x.perID*maxI g.ids/\x.perID*maxI g.ids<=255*255):=by
 obtain⟨_,_,_,h4,h5⟩:=ybeo hx;have h6:=ydaf hg;have h7:=hg.2.1;have h8:=hg.2.2.1;exact⟨mulN h4.1 h4.2 (by omega) (by omega),mulN h5.1 h5.2 h6.1 h6.2⟩
theorem ybdj{g:Gr}(hg:ybc g){x:VarR}(hx:x.ok=true)(v:Int):Returns zH 198 [.ag (varC x),grV g,.i .i64 v] (.tp [.i .i64 x.lo,.i .i64 (x.hi+x.perNode*(g.ids.length:Int)+x.perID*maxI g.ids)]):=by
 refine Returns.of (ycyr _ _ ?_);have h1:=hg.1;have h7:=hg.2.1;have h8:=hg.2.2.1;have hM:=ybzs g.ids (by omega) (by omega)
 obtain⟨hb1,hb2⟩:=ynb hg hx;obtain⟨_,_,hv3,_,_⟩:=ybeo hx;simp only[yx]at hM;simp only[c198,ycnz,ycqk,grV,varC,yx,go_sem,zA,zB,zC,zF,↓reduceIte,reduceCtorEq];refine⟨ikw (by omega) (by omega),ikw (by omega) (by omega),hM.use ?_⟩
 simp only[ybi,go_sem,zA,zB,↓reduceIte,reduceCtorEq];refine⟨ikw (by omega) (by omega),ikw (by omega) (by omega),?_⟩
 exact Sim.refl _
theorem ybep(g:Gr)(x:VarR)(v:Int):Returns zH 199 [.ag (varC x),grV g,.i .i64 v] (.tp [.i .i64 0,.i .i64 1]):=by
 refine Returns.of (ycxz _ _ ?_);simp only[c199,ycow,ycqp,grV,varC,go_sem,zA,zB,zF,↓reduceIte,reduceCtorEq];exact Sim.refl _
theorem ybfp{g:Gr}(hg:ybc g)(x:VarR){v:Nat}(hv:v<g.ports.length):Returns zH 200 [.ag (varC x),grV g,.i .i64 v] (.tp [.i .i64 (-1),.i .i64 (((g.ports.getD v []).length:Int)-1)]):=by
 refine Returns.of (ydaa _ _ ?_);have hd:=hg.deg_lt (v:=v);simp only[c200,ycpo,ycib,grV,ybe,ybd,varC,go_sem,zA,zB,zF,↓reduceIte,reduceCtorEq];refine⟨by omega,ikw (by omega) (by omega),?_⟩
 exact Sim.refl _
theorem ybpz(kind:Int)(b:Int×Int)(x:Int):Returns zH 194 [.i .i64 kind,.ag [.i .i64 b.1,.i .i64 b.2],.i .i64 x] (.i .i64 (ygc kind b x)):=by
 refine Returns.of (yddq _ _ ?_);simp only[c194,ychi,ycqm,yckc,ycwt,ycur,yckq,ycqb,ycod,ybb,ygc,go_sem,zAH,zA,zB,zC,zF,zAN,↓reduceIte,reduceCtorEq];refine⟨by omega,fun h1=>⟨by omega,fun h2=>by rw[if_pos ⟨h1,h2⟩],fun h2=>⟨fun h3=>by rw[if_neg (fun q=>h2 q.2),if_pos h3],fun h3=>⟨by omega,fun h4=>⟨by omega,by rw[if_neg (fun q=>h2 q.2),if_neg h3,if_pos h4]⟩,fun h4=>⟨by omega,by rw[if_neg (fun q=>h2 q.2),if_neg h3,if_neg h4]⟩⟩⟩⟩,fun h1=>⟨fun h3=>by rw[if_neg (fun q=>h1 q.1),if_pos h3],fun h3=>⟨by omega,fun h4=>⟨by omega,by rw[if_neg (fun q=>h1 q.1),if_neg h3,if_pos h4]⟩,fun h4=>⟨by omega,by rw[if_neg (fun q=>h1 q.1),if_neg h3,if_neg h4]⟩⟩⟩⟩
theorem yur{g:Gr}(hg:ybc g){x:VarR}(hx:x.ok=true){v:Nat}(hv:v<g.ports.length):Returns zH 171 [.ag (varC x),grV g,.i .i64 v] (.tp [.i .i64 (ybh g v x).1,.i .i64 (ybh g v x).2]):=by
 refine Returns.of (yddr _ _ ?_);have h1:=ybdj hg hx v;have h2:=ybep g x v;have h3:=ybfp hg x hv;obtain⟨hk,_⟩:=ybeo hx;simp only[varC,grV]at h1 h2 h3;simp only[c171,ycgt,yckv,ycli,varC,grV,splice,go_sem,zA,zB,zC,zF,↓reduceIte,reduceCtorEq]
 refine ybj (σ:=Nat) (fun k=>⟨[(17,.i .i64 k),(15,.os (14,0) 0 3 true),(16,.i .i64 3),(2,.i .i64 v),(3,.pt (3,0) 0 0),(4,.pt (4,0) 0 0)],
  [(3,.one (some ⟨87,true,6,1,fun _=>varC x⟩)),(4,.one (some ⟨27,true,2,1,fun _=>[yx g.ids,ybe g.ports]⟩)),
   (14,.one (some ⟨209,false,2,3,fun k=>if k=0 then[.i .i64 1,.fn 198 [] []]else if k=1 then[.i .i64 2,.fn 199 [] []]else[.i .i64 3,.fn 200 [] []]⟩))]⟩)
  (fun k=>k<=2/\(1<=k->x.kind≠1)/\(2<=k->x.kind≠2)) (fun k=>3-k) 0 ⟨by omega,by omega,by omega⟩ ?_ ?_
 ·refine yj [] [] [] ?_;simp only[varC,allQ,live,yg,ybb,zG,go_sem,zA,↓reduceIte,reduceCtorEq];refine⟨rfl,fun i hi=>?_⟩;rcases(show i=0\/i=1\/i=2 by omega)with rfl|rfl|rfl
  ·simp only[live,yg,go_sem,↓reduceIte,reduceCtorEq]
  ·simp only[if_neg (show ¬(1:Nat)=0 by omega),live,yg,go_sem,↓reduceIte,reduceCtorEq]
  ·simp only[if_neg (show ¬(2:Nat)=0 by omega),if_neg (show ¬(2:Nat)=1 by omega),live,yg,go_sem,zA,↓reduceIte,reduceCtorEq]
 ·rintro k ⟨hk2,hk3,hk4⟩;rcases(show k=0\/k=1\/k=2 by omega)with rfl|rfl|rfl
  ·simp only[ybhw,ybiz,ybhd,ybji,ybib,ybjc,varC,splice,go_sem,zA,zB,zC,zF,↓reduceIte,reduceCtorEq];refine⟨fun _=>⟨by omega,fun he=>h1.use ?_,fun he=>⟨ikw (by omega) (by omega),?_⟩⟩,fun h=>by omega⟩
   ·simp only[ybi,go_sem,zA,zB,↓reduceIte,reduceCtorEq];have e:ybh g v x=(x.lo,x.hi+x.perNode*(g.ids.length:Int)+x.perID*maxI g.ids):=by unfold ybh;rw[if_pos he.symm]
    rw[e];exact Sim.refl _
   ·refine yw 1 ⟨by omega,fun _ q=>he q.symm,by omega⟩ (by omega) ?_
    refine yj [] [] [] ?_;simp only[allQ,live,yg,ybb,zG,go_sem,zA,↓reduceIte,reduceCtorEq];refine⟨by omega,fun i hi=>?_⟩
    rcases(show i=0\/i=1\/i=2 by omega)with rfl|rfl|rfl
    ·simp only[live,yg,go_sem,↓reduceIte,reduceCtorEq]
    ·simp only[if_neg (show ¬(1:Nat)=0 by omega),live,yg,go_sem,↓reduceIte,reduceCtorEq]
    ·simp only[if_neg (show ¬(2:Nat)=0 by omega),if_neg (show ¬(2:Nat)=1 by omega),live,yg,go_sem,zA,↓reduceIte,reduceCtorEq]
  ·simp only[ybhw,ybiz,ybhd,ybji,ybib,ybjc,varC,splice,go_sem,zA,zB,zC,zF,↓reduceIte,reduceCtorEq];refine⟨fun _=>⟨by omega,fun he=>h2.use ?_,fun he=>⟨ikw (by omega) (by omega),?_⟩⟩,fun h=>by omega⟩
   ·simp only[ybi,go_sem,zA,zB,↓reduceIte,reduceCtorEq];have e:ybh g v x=(0,1):=by unfold ybh;rw[if_neg (by omega),if_pos he.symm]
    rw[e];exact Sim.refl _
   ·refine yw 2 ⟨by omega,fun _=>by omega,fun _ q=>he q.symm⟩ (by omega) ?_
    refine yj [] [] [] ?_;simp only[allQ,live,yg,ybb,go_sem,zA,↓reduceIte,reduceCtorEq];refine⟨by omega,fun i hi=>?_⟩
    rcases(show i=0\/i=1\/i=2 by omega)with rfl|rfl|rfl
    ·simp only[live,yg,go_sem,↓reduceIte,reduceCtorEq]
    ·simp only[if_neg (show ¬(1:Nat)=0 by omega),live,yg,go_sem,↓reduceIte,reduceCtorEq]
    ·simp only[if_neg (show ¬(2:Nat)=0 by omega),if_neg (show ¬(2:Nat)=1 by omega),live,yg,go_sem,zA,↓reduceIte,reduceCtorEq]
  ·simp only[ybhw,ybiz,ybhd,ybji,ybib,ybjc,varC,splice,go_sem,zA,zB,zC,zF,↓reduceIte,reduceCtorEq];refine⟨fun _=>⟨by omega,fun he=>h3.use ?_,fun he=>by omega⟩,fun h=>by omega⟩
   simp only[ybi,go_sem,zA,zB,↓reduceIte,reduceCtorEq];have e:ybh g v x=(-1,((g.ports.getD v []).length:Int)-1):=by unfold ybh;rw[if_neg (by omega),if_neg (by omega),if_pos he.symm]
   rw[e];exact Sim.refl _
def yjd(n:Nat)(vars:List VarR)(b:Nat->VarR->Int×Int):SV:=.sl 1 n (fun v=>[.sl 2 vars.length (fun i=>[.i .i64 (b v (vars.getD i default)).1,.i .i64 (b v (vars.getD i default)).2])])
def rowT(vars:List VarR)(b:VarR->Int×Int):SV:=.sl 2 vars.length (fun i=>[.i .i64 (b (vars.getD i default)).1,.i .i64 (b (vars.getD i default)).2])
theorem ybch(p:ProgR){g:Gr}(hg:ybc g)(hp:p.vars.all VarR.ok=true)(hl:p.vars.length<=6):Returns zH 144 [.ag (yni p),grV g] (yjd g.ids.length p.vars (ybh g)):=by
 refine Returns.of (yczd _ _ ?_);have h24:=hg.2.1;have hid:=hg.2.2.1;obtain⟨n,hn⟩:∃n,g.ids.length=n:=⟨_,rfl⟩;obtain⟨nv,hnv⟩:∃k,p.vars.length=k:=⟨_,rfl⟩;rw[hn];rw[hnv]at hl;simp only[c144,ychn,ycva,ycmx,grV,yx,yni,hn,go_sem,zA,zB,zC,zF,↓reduceIte,reduceCtorEq];refine⟨by omega,?_⟩
 refine ybj (σ:=Nat) (fun k=>⟨[(15,.i .i64 k),(14,.i .i64 n),(5,.os (12,0) 0 n true),(2,.pt (2,0) 0 0),(3,.pt (3,0) 0 0)],
  [(2,.one (some ⟨58,true,3,1,fun _=>yni p⟩)),(3,.one (some ⟨27,true,2,1,fun _=>[yx g.ids,ybe g.ports]⟩)),
   (12,.one (some ⟨73,false,1,n,fun i=>[if i<k then rowT p.vars (ybh g i)else .a (.slice none 0 0)]⟩))]⟩) (fun k=>k<=n) (fun k=>n-k) 0 (zJ _) ?_ ?_
 ·refine yj [] [] [] ?_;simp only[yni,yx,hn,allQ,live,yg,zG,go_sem,zA,↓reduceIte,reduceCtorEq];intro i _;rw[if_neg (by omega)]
  simp only[yg,go_sem]
 ·intro k hk;simp only[ycsk,ycra,ycnv,yctk,yni,ydd,splice,hnv,go_sem,zA,zB,zC,zF,↓reduceIte,reduceCtorEq];refine⟨fun hlt=>⟨by omega,by omega,by omega,?_⟩,fun hlt=>?_⟩
  ·have hk':k<n:=by omega
   let b:Nat->Int×Int:=fun i=>ybh g k (p.vars.getD i default)
   refine ybj (σ:=Nat) (fun j=>⟨[(28,.i .i64 j),(26,ydd p.vars),(27,.i .i64 nv),(6,.i .i64 k),(15,.i .i64 k),(14,.i .i64 n),(5,.os (12,0) 0 n true),(2,.pt (2,0) 0 0),(3,.pt (3,0) 0 0)],
    [(2,.one (some ⟨58,true,3,1,fun _=>yni p⟩)),(3,.one (some ⟨27,true,2,1,fun _=>[yx g.ids,ybe g.ports]⟩)),
     (12,.one (some ⟨73,false,1,n,fun i=>[if i<k then rowT p.vars (ybh g i)else if i=k then .os (23,0) 0 nv true else .a (.slice none 0 0)]⟩)),
     (23,.one (some ⟨75,false,2,nv,fun i=>[.i .i64 (if i<j then(b i).1 else 0),.i .i64 (if i<j then(b i).2 else 0)]⟩))]⟩) (fun j=>j<=nv) (fun j=>nv-j) 0 (zJ _) ?_ ?_
   ·refine yj [] [] [] ?_;simp only[yni,ydd,hnv,allQ,live,yg,ybb,zG,go_sem,zA,↓reduceIte,reduceCtorEq];refine⟨fun i hi=>?_,fun i hi=>?_⟩
    ·by_cases q2:i=k
     ·simp only[if_pos q2,if_neg (show ¬i<k by omega)]
      simp only[live,yg,go_sem,zA,↓reduceIte,reduceCtorEq]
     ·simp only[if_neg q2]
      by_cases q1:i<k
      ·simp only[if_pos q1];simp only[rowT,live,yg,go_sem,reduceCtorEq]
      ·simp only[if_neg q1];simp only[live,yg,go_sem,reduceCtorEq]
    ·simp only[if_neg (zZ i),and_self]
   ·intro j hj;simp only[ycwk,ycnx,yckx,ybzh,ybsk,yni,ydd,varC,splice,hnv,go_sem,zA,zB,zF,↓reduceIte,reduceCtorEq];refine⟨fun hlt=>?_,fun hlt=>?_⟩
    ·have hj':j<nv:=by omega
     have hB:=yur hg (x:=p.vars.getD j default) (by
      rw[getD_at (by omega)]
      exact List.all_eq_true.1 hp _ (zM _)) (v:=k) (by omega)
     simp only[varC,grV]at hB;refine⟨by omega,by omega,by omega,by omega,by omega,hB.use ?_⟩
     simp only[ybi,splice,go_sem,zAH,zA,zB,zC,zAN,↓reduceIte,reduceCtorEq];refine⟨by omega,by omega,by omega,by decide,by omega,by omega,by omega,by decide,ikw (by omega) (by omega),?_⟩
     refine yw (j+1) (by omega) (by omega) ?_
     refine yj [] [] [] ?_;simp only[allQ,live,yg,ybb,go_sem,zA,↓reduceIte,reduceCtorEq];refine⟨by omega,fun i hi=>?_,fun i hi=>?_⟩
     ·by_cases q1:i<k
      ·simp only[if_pos q1];simp only[rowT,yg,go_sem]
      ·simp only[if_neg q1]
       by_cases q2:i=k
       ·simp only[if_pos q2];simp only[live,yg,go_sem,zA,↓reduceIte]
       ·simp only[if_neg q2];simp only[yg,go_sem]
     ·by_cases q2:i=j
      ·subst q2;simp only[if_pos (zW i),↓reduceIte];simp only[live,ybb,go_sem,reduceCtorEq];exact⟨rfl,rfl⟩
      ·simp only[if_neg q2]
       by_cases q1:i<j
       ·simp only[if_pos q1,if_pos (show i<j+1 by omega)]
        simp only[live,yg,go_sem,reduceCtorEq]
       ·simp only[if_neg q1,if_neg (show ¬i<j+1 by omega)]
        simp only[live,yg,go_sem,reduceCtorEq]
    ·obtain rfl:j=nv:=by omega
     refine⟨ikw (by omega) (by omega),?_⟩
     refine yw (k+1) (by omega) (by omega) ?_
     refine yj [] [] [(23,0)] ?_;simp only[allQ,live,yg,ybb,go_sem,zA,zC,↓reduceIte,reduceCtorEq];refine⟨by omega,fun i hi=>?_⟩
     by_cases q1:i<k
     ·simp only[if_pos q1,if_pos (show i<k+1 by omega)]
      simp only[rowT,yg,go_sem]
     ·by_cases q2:i=k
      ·simp only[if_neg q1,if_pos q2,if_pos (show i<k+1 by omega)]
       subst q2;simp only[rowT,hnv,go_sem,zA,↓reduceIte];refine ygn fun q hq=>?_;simp only[if_pos hq];simp only[SimL,go_sem];exact⟨Sim.refl _,Sim.refl _⟩
      ·simp only[if_neg q1,if_neg q2,if_neg (show ¬i<k+1 by omega)]
       simp only[yg,go_sem]
  ·obtain rfl:k=n:=by omega
   simp only[ybxy,go_sem,zA,zB,↓reduceIte,reduceCtorEq];refine⟨fun q hq=>by simp only[if_pos hq];simp only[rowT,go_sem],?_⟩
   refine ygn fun q hq=>?_;simp only[if_pos hq];simp only[SimL,yg,rowT,hnv,go_sem]
end Sh
end
section
namespace Sh
open Go Ev
theorem ybxc(bs:Bounds)(s:List Int)(hl:bs.length<=1000):Returns zH 192 [ybd bs,yx s] (.b (yrr bs s)):=by
 refine Returns.of (ydaz _ _ ?_);simp only[c192,ycsv,ycky,yckz,yckl,ybd,yx,yjn,go_sem,zA,zB,↓reduceIte,reduceCtorEq];refine⟨fun h=>?_,fun h=>?_⟩
 ·have:¬yrr bs s=true:=fun q=>h (by rw[((yfm bs s).1 q).1])
  simpa using this
 have hlen:s.length=bs.length:=by omega
 refine ybj (σ:=Nat) (fun k=>⟨[(14,.i .i64 k),(13,.i .i64 s.length),(12,yx s),(0,ybd bs)],[]⟩) (fun k=>k<=s.length/\∀i,i<k->(bs.getD i (0,0)).1<=s.getD i 0/\s.getD i 0<=(bs.getD i (0,0)).2) (fun k=>s.length-k) 0 ⟨zJ _,fun i h=>absurd h (zZ _)⟩ ?_ ?_
 ·refine yj [] [] [] ?_;simp only[ybd,yx,allQ,live,yg,zG,go_sem,zA,↓reduceIte,reduceCtorEq]
 ·intro k ⟨hk,hall⟩;simp only[ycuw,ycmb,ycuj,ycoh,ycpd,ycue,ybd,yx,yjn,go_sem,zAH,zA,zB,zC,zAN,↓reduceIte,reduceCtorEq]
  have hno:k<s.length->¬((bs.getD k (0,0)).1<=s.getD k 0/\s.getD k 0<=(bs.getD k (0,0)).2)->yrr bs s=false:=fun hlt hn=>by
   have:¬yrr bs s=true:=fun q=>hn (by
    have hb:k<bs.length:=by omega
    have:=((yfm bs s).1 q).2 k bs[k] s[k] (zN hb) (zN hlt);rw[getD_at hlt,getD_at hb];exact this)
   simpa using this
  refine⟨fun hlt=>⟨by omega,by omega,by omega,fun h1=>⟨by omega,by omega,fun h2=>?_,fun h2=>⟨ikw (by omega) (by omega),?_⟩⟩,fun h1=>?_⟩,fun hlt=>?_⟩
  ·rw[hno (by omega) (by omega)]
  ·refine yw (k+1) ⟨by omega,fun i hi=>?_⟩ (by omega) ?_
   ·by_cases q:i<k
    ·exact hall i q
    ·obtain rfl:i=k:=by omega
     omega
   ·refine yj [] [] [] ?_;simp only[allQ,live,yg,ybb,go_sem,zA,↓reduceIte,reduceCtorEq];simp
  ·rw[hno (by omega) (by omega)]
  ·obtain rfl:k=s.length:=by omega
   rw[(yfm bs s).2 ⟨hlen,fun i b x hb hx=>by
    have h1:=(List.getElem?_eq_some_iff.1 hx).1;have:=hall i h1;simp only[zS,hb,hx,Option.getD_some]at this;exact this⟩]
theorem ybkl{n:Nat}(vars:List VarR)(hv:vars.length<=1000)(b:Nat->VarR->Int×Int)(c:Conf)(hn:n<=1000):Returns zH 156 [yjd n vars b,ybl c] (.b (ynt n (fun v=>vars.map (b v)) c)):=by
 refine Returns.of (yddk _ _ ?_);simp only[c156,ycpn,ycsl,ycvt,ycsc,yjd,ybl,yjn,go_sem,zA,zB,↓reduceIte,reduceCtorEq];refine⟨fun h=>?_,fun h=>?_⟩
 ·rw[yin fun q=>h (by rw[q.1])]
 have hlen:c.length=n:=by omega
 refine ybj (σ:=Nat) (fun k=>⟨[(14,.i .i64 k),(13,.i .i64 n),(12,yjd n vars b),(1,ybl c)],[]⟩) (fun k=>k<=n/\∀(i:Nat) s,i<k->c[i]?=some s->yev (vars.map (b i)) s) (fun k=>n-k) 0 ⟨zJ _,fun i s h=>absurd h (zZ _)⟩ ?_ ?_
 ·refine yj [] [] [] ?_;simp only[yjd,ybl,allQ,live,yg,zG,go_sem,zA,↓reduceIte,reduceCtorEq]
 ·intro k ⟨hk,hall⟩;simp only[ycjq,ycxj,yclo,ycsf,ycst,ycnd,yjd,ybl,yx,yjn,go_sem,zA,zB,↓reduceIte,reduceCtorEq];refine⟨fun hlt=>⟨by omega,by omega,?_⟩,fun hlt=>?_⟩
  ·have hS := ybxc (vars.map (b k)) (c.getD k []) (by simpa using hv)
   refine hS.useS ⟨?_,Sim.refl _,trivial⟩ ?_
   ·show Sim (.sl 2 vars.length _) (ybd (vars.map (b k)));unfold ybd;rw[zAG];refine yjk fun i hi=>?_;simp[zS,hi]
   ·simp only[ybi,yjn,go_sem,zA,zB,↓reduceIte,reduceCtorEq];have hk':k<c.length:=by omega
    rw[getD_at hk'];refine⟨fun h1=>?_,fun h1=>⟨ikw (by omega) (by omega),?_⟩⟩
    ·rw[yin fun q=>by
      have:=(yfm _ _).2 (q.2 k c[k] (zN hk'));rw[this]at h1;cases h1]
    ·refine yw (k+1) ⟨by omega,fun i s hi hs=>?_⟩ (by omega) ?_
     ·by_cases q:i<k
      ·exact hall i s q hs
      ·obtain rfl:i=k:=by omega
       rw[zN hk']at hs;cases hs
       exact(yfm _ _).1 h1
     ·refine yj [] [] [] ?_;simp only[allQ,live,yg,ybb,go_sem,zA,↓reduceIte,reduceCtorEq];simp
  ·obtain rfl:k=n:=by omega
   rw[yvh ⟨hlen,fun v s hs=>hall v s (by have:=(List.getElem?_eq_some_iff.1 hs).1;omega) hs⟩]
theorem yvt(c:Conf)(hc:∀s∈c,0<s.length/\s.length<=1000)(hl:c.length<=1000):Returns zH 132 [ybl c] (ybl c):=by
 refine Returns.of (ydem _ _ ?_);obtain⟨n,hn⟩:∃n,c.length=n:=⟨_,rfl⟩;rw[hn]at hl;simp only[c132,ybpm,ybsf,ybrk,ybl,hn,go_sem,zA,zB,zF,↓reduceIte,reduceCtorEq];refine⟨by omega,?_⟩
 refine ybj (σ:=Nat) (fun k=>⟨[(11,.i .i64 k),(10,.i .i64 n),(9,ybl c),(3,.os (8,0) 0 n true)],[(8,.one (some ⟨22,false,1,n,fun i=>[if i<k then yx (c.getD i [])else .a (.slice none 0 0)]⟩))]⟩) (fun k=>k<=n) (fun k=>n-k) 0 (zJ _) ?_ ?_
 ·refine yj [] [] [] ?_;simp only[ybl,hn,allQ,live,yg,zG,go_sem,zA,↓reduceIte,reduceCtorEq];intro i _;rw[if_neg (by omega)]
  simp only[yg,go_sem]
 ·intro k hk
  have hrow:k<n->0<(c.getD k []).length/\(c.getD k []).length<=1000:=fun h=>by
   have:=hc (c.getD k []) (by rw[getD_at (show k<c.length by omega)];exact zM _)
   exact this
  by_cases hlt:k<n
  ·have hr:=hrow (by omega)
   have hr0:¬(c.getD k []).length=0:=by omega
   have ht:decide ((k:Int)<(n:Int))=true:=decide_eq_true (by omega)
   simp only[ybcu,ybac,ybax,ybbk,ybaz,ybl,yx,splice,hn,hr0,ht,go_sem,zA,zB,zF,↓reduceIte,reduceCtorEq];refine⟨by omega,by omega,by omega,by omega,ikw (by omega) (by omega),?_⟩
   refine yw (k+1) (by omega) (by omega) ?_
   refine yj [] [] [(19,0)] ?_;simp only[allQ,live,yg,ybb,go_sem,zA,↓reduceIte,reduceCtorEq];refine⟨by omega,fun i hi=>?_⟩
   by_cases q2:i=k
   ·subst q2;simp only[if_pos (zW i),↓reduceIte];simp only[live,yg,go_sem,zA,↓reduceIte,reduceCtorEq]
   ·simp only[if_neg q2]
    by_cases q1:i<k
    ·simp only[if_pos q1,if_pos (show i<k+1 by omega)]
     simp only[live,yg,go_sem,reduceCtorEq]
    ·simp only[if_neg q1,if_neg (show ¬i<k+1 by omega)]
     simp only[live,yg,go_sem,reduceCtorEq]
  ·obtain rfl:k=n:=by omega
   have ht:decide ((k:Int)<(k:Int))=false:=decide_eq_false (by omega)
   simp only[ybcu,ybac,ybax,ybbk,ybaz,ybl,yx,hn,ht,go_sem,zA,zB,↓reduceIte,reduceCtorEq];refine⟨fun q hq=>by simp only[if_pos hq];simp only[go_sem],?_⟩
   refine ygn fun q hq=>?_;simp only[if_pos hq];simp only[SimL,yg,go_sem]
theorem yccp(c:Conf)(hc:∀s∈c,0<s.length/\s.length<=1000)(hl:c.length<=1000):Cm zH 132 [] [] [ybl c] fun r o=>r = .os (8,0) 0 c.length true/\o=[(8,.one (some ⟨22,false,1,c.length,fun i=>[yx (c.getD i [])]⟩))]:=by
 refine ycfd [] [] _ _ _ ?_;obtain⟨n,hn⟩:∃n,c.length=n:=⟨_,rfl⟩;rw[hn]at hl ⊢;simp only[c132,ybpm,ybsf,ybrk,ybl,hn,go_sem,zA,zB,zF,↓reduceIte,reduceCtorEq];refine⟨by omega,?_⟩
 refine ybj (σ:=Nat) (fun k=>⟨[(11,.i .i64 k),(10,.i .i64 n),(9,ybl c),(3,.os (8,0) 0 n true)],[(8,.one (some ⟨22,false,1,n,fun i=>[if i<k then yx (c.getD i [])else .a (.slice none 0 0)]⟩))]⟩) (fun k=>k<=n) (fun k=>n-k) 0 (zJ _) ?_ ?_
 ·refine yj [] [] [] ?_;simp only[ybl,hn,allQ,live,yg,zG,go_sem,zA,↓reduceIte,reduceCtorEq];intro i _;rw[if_neg (by omega)]
  simp only[yg,go_sem]
 ·intro k hk
  have hrow:k<n->0<(c.getD k []).length/\(c.getD k []).length<=1000:=fun h=>by
   have:=hc (c.getD k []) (by rw[getD_at (show k<c.length by omega)];exact zM _)
   exact this
  by_cases hlt:k<n
  ·have hr:=hrow (by omega)
   have hr0:¬(c.getD k []).length=0:=by omega
   have ht:decide ((k:Int)<(n:Int))=true:=decide_eq_true (by omega)
   simp only[ybcu,ybac,ybax,ybbk,ybaz,ybl,yx,splice,hn,hr0,ht,go_sem,zA,zB,zF,↓reduceIte,reduceCtorEq];refine⟨by omega,by omega,by omega,by omega,ikw (by omega) (by omega),?_⟩
   refine yw (k+1) (by omega) (by omega) ?_
   refine yj [] [] [(19,0)] ?_;simp only[allQ,live,yg,ybb,go_sem,zA,↓reduceIte,reduceCtorEq];refine⟨by omega,fun i hi=>?_⟩
   by_cases q2:i=k
   ·subst q2;simp only[if_pos (zW i),↓reduceIte];simp only[live,yg,go_sem,zA,↓reduceIte,reduceCtorEq]
   ·simp only[if_neg q2]
    by_cases q1:i<k
    ·simp only[if_pos q1,if_pos (show i<k+1 by omega)]
     simp only[live,yg,go_sem,reduceCtorEq]
    ·simp only[if_neg q1,if_neg (show ¬i<k+1 by omega)]
     simp only[live,yg,go_sem,reduceCtorEq]
  ·obtain rfl:k=n:=by omega
   have ht:decide ((k:Int)<(k:Int))=false:=decide_eq_false (by omega)
   simp only[ybcu,ybac,ybax,ybbk,ybaz,ybl,yx,hn,ht,ygg,go_sem,zA,zB,↓reduceIte,reduceCtorEq];refine⟨.os (8,0) 0 k true,[(8,.one (some ⟨22,false,1,k,fun i=>[yx (c.getD i [])]⟩))],?_,?_,rfl,rfl⟩
   ·refine yj [] [] [] ?_;simp only[yx,allQ,live,yg,go_sem,↓reduceIte,reduceCtorEq];intro i hi;simp only[if_pos hi];simp only[yg,go_sem]
   ·simp only[ycf,yfd,allQ,live,go_sem,↓reduceIte]
end Sh
end
section
namespace Sh
open Go Ev
theorem yhb(p:ProgR){g:Gr}(hg:ybc g){nv:Nat}{c:Conf}(hc:ConfIn g.ports.length nv c){v:Nat}(hv:v<g.ports.length)(e:List Tm)(hl:e.length<=1000):∀x:Ex,ybzc p g nv c v e x
 | .leaf op arg=>by
   intro bnd port at_ rest ho hp hpi he;obtain⟨d1,d2,d3⟩:=yfc (show e.drop at_=(op,arg)::rest from he)
   have hL:=ycdu p hg hc hv e ho port hp;have hr:=ho;simp only[Ex.ok,zD,decide_eq_true_eq]at hr;simp only[yit,ybd]at hL;refine Returns.of (yrv _ _ ?_);simp only[c220,yuj,yus,yum,yuw,yuo,yvo,yve,yvi,yuv,yun,yoh,yoo,yns,ynv,yox,yon,ynj,ynx,yoq,yit,ybd,d2,splice,go_sem,zA,zB,zC,zF,↓reduceIte,reduceCtorEq];refine⟨by omega,fun h=>hL.use ?_,fun h=>by omega⟩
   simp only[ybi,go_sem,zA,zB,↓reduceIte,reduceCtorEq];refine⟨ikw (by omega) (by omega),?_⟩
   exact Sim.refl _
 | .un op a=>by
   intro bnd port at_ rest ho hp hpi he;obtain⟨d1,d2,d3⟩:=yfc (show e.drop at_=(op,0)::(a.ser++rest)from he)
   have hr:=ho;simp only[Ex.ok,zD,decide_eq_true_eq]at hr;have hV:=yhb p hg hc hv e hl a bnd port (at_+1) rest hr.2 hp hpi d3;rw[show((at_+1:Nat):Int)=(at_:Int)+1 by omega]at hV
   have hU:=ybzg op (ybx g c v a port) (yhd hg rfl hc hv a hr.2 hp hpi);simp only[yit,ybd]at hV;refine Returns.of (yrv _ _ ?_);simp only[c220,yuj,yus,yum,yuw,yuo,yvo,yve,yvi,yuv,yun,yoh,yoo,yns,ynv,yox,yon,ynj,ynx,yoq,yit,ybd,d2,splice,go_sem,zA,zB,zC,zF,↓reduceIte,reduceCtorEq];refine⟨by omega,fun h=>by omega,fun h=>⟨fun h=>⟨ikw (by omega) (by omega),hV.use ?_⟩,fun h=>by omega⟩⟩
   simp only[ybi,go_sem,zA,zB,zC,↓reduceIte,reduceCtorEq];refine hU.use ?_;simp only[go_sem];rw[show at_+(Ex.un op a).ser.length=at_+1+a.ser.length by simp[Ex.ser];omega]
   exact Sim.refl _
 | .agg op a=>by
   intro bnd port at_ rest ho hp hpi he;obtain⟨d1,d2,d3⟩:=yfc (show e.drop at_=(op,0)::(a.ser++rest)from he)
   have hr:=ho;simp only[Ex.ok,zD,decide_eq_true_eq]at hr;have ho2:(Ex.agg op a).ok nv true=true:=by simp only[Ex.ok,zD,decide_eq_true_eq];exact hr
   have hA:=ywz p hg hc hv e hl ho2 (yhb p hg hc hv e hl a) at_ rest he;simp only[yit,ybd]at hA;refine Returns.of (yrv _ _ ?_);simp only[c220,yuj,yus,yum,yuw,yuo,yvo,yve,yvi,yuv,yun,yoh,yoo,yns,ynv,yox,yon,ynj,ynx,yoq,yit,ybd,d2,splice,go_sem,zA,zB,zC,zF,↓reduceIte,reduceCtorEq];refine⟨by omega,fun h=>by omega,fun h=>⟨fun h=>by omega,fun h=>⟨fun h=>hA.use ?_,fun h=>by omega⟩⟩⟩
   simp only[ybi,go_sem,zA,zB,↓reduceIte,reduceCtorEq];exact Sim.refl _
 | .bin op a b=>by
   intro bnd port at_ rest ho hp hpi he;obtain⟨d1,d2,d3⟩:=yfc (show e.drop at_=(op,0)::((a.ser++b.ser)++rest)from he)
   have hr:=ho;simp only[Ex.ok,zD,decide_eq_true_eq]at hr;rw[zAC]at d3
   have hfit:at_+1+a.ser.length<=e.length:=by
    have:=congrArg zAI d3;simp at this;omega
   have hV1:=yhb p hg hc hv e hl a bnd port (at_+1) _ hr.1.2 hp hpi d3;have hV2:=yhb p hg hc hv e hl b bnd port (at_+1+a.ser.length) _ hr.2 hp hpi (yqe d3);rw[show((at_+1:Nat):Int)=(at_:Int)+1 by omega]at hV1
   have hB:=ybml op (ybx g c v a port) (ybx g c v b port) (yhd hg rfl hc hv a hr.1.2 hp hpi) (yhd hg rfl hc hv b hr.2 hp hpi);simp only[yit,ybd]at hV1 hV2;refine Returns.of (yrv _ _ ?_);simp only[c220,yuj,yus,yum,yuw,yuo,yvo,yve,yvi,yuv,yun,yoh,yoo,yns,ynv,yox,yon,ynj,ynx,yoq,yit,ybd,d2,splice,go_sem,zA,zB,zC,zF,↓reduceIte,reduceCtorEq];refine⟨by omega,fun h=>by omega,fun h=>⟨fun h=>by omega,fun h=>⟨fun h=>by omega,fun h=>⟨fun h=>⟨ikw (by omega) (by omega),hV1.use ?_⟩,fun h=>by omega⟩⟩⟩⟩
   simp only[ybi,go_sem,zA,zB,↓reduceIte,reduceCtorEq];refine hV2.use ?_;simp only[go_sem,zA,zB,zC,↓reduceIte];refine hB.use ?_;simp only[go_sem];rw[show at_+(Ex.bin op a b).ser.length=at_+1+a.ser.length+b.ser.length by simp[Ex.ser];omega]
   exact Sim.refl _
 | .ite x a b=>by
   intro bnd port at_ rest ho hp hpi he;obtain⟨d1,d2,d3⟩:=yfc (show e.drop at_=(43,0)::((x.ser++(a.ser++b.ser))++rest)from he)
   have hr:=ho;simp only[Ex.ok,zD]at hr;rw[zAC,zAC]at d3
   have hfit:at_+1+x.ser.length+a.ser.length<=e.length:=by
    have:=congrArg zAI d3;simp at this;omega
   have hV1:=yhb p hg hc hv e hl x bnd port (at_+1) _ hr.1.1 hp hpi d3;have hV2:=yhb p hg hc hv e hl a bnd port (at_+1+x.ser.length) _ hr.1.2 hp hpi (yqe d3);have hV3:=yhb p hg hc hv e hl b bnd port (at_+1+x.ser.length+a.ser.length) _ hr.2 hp hpi (yqe (yqe d3));rw[show((at_+1:Nat):Int)=(at_:Int)+1 by omega]at hV1
   simp only[yit,ybd]at hV1 hV2 hV3;refine Returns.of (yrv _ _ ?_);simp only[c220,yuj,yus,yum,yuw,yuo,yvo,yve,yvi,yuv,yun,yoh,yoo,yns,ynv,yox,yon,ynj,ynx,yoq,yit,ybd,d2,splice,go_sem,zA,zB,zC,zF,↓reduceIte,reduceCtorEq];refine⟨by omega,fun h=>by omega,fun h=>⟨fun h=>by omega,fun h=>⟨fun h=>by omega,fun h=>⟨fun h=>by omega,fun h=>⟨ikw (by omega) (by omega),hV1.use ?_⟩⟩⟩⟩⟩
   simp only[ybi,go_sem,zA,zB,↓reduceIte,reduceCtorEq];refine hV2.use ?_;simp only[go_sem,zA,↓reduceIte,reduceCtorEq];refine hV3.use ?_;simp only[go_sem,zA,zB,↓reduceIte,reduceCtorEq];rw[show at_+(Ex.ite x a b).ser.length=at_+1+x.ser.length+a.ser.length+b.ser.length by simp[Ex.ser];omega]
   refine⟨fun h0=>?_,fun h0=>?_⟩
   ·show Sim _ (.tp [.i .i64 (if _ then _ else _),_])
    rw[if_pos h0];exact Sim.refl _
   ·show Sim _ (.tp [.i .i64 (if _ then _ else _),_])
    rw[if_neg (not_not_intro h0)];exact Sim.refl _
theorem ybak(p:ProgR){g:Gr}(hg:ybc g){nv:Nat}{c:Conf}(hc:ConfIn g.ports.length nv c){v:Nat}(hv:v<g.ports.length)(x:Ex)(hx:x.ok nv false=true)(hl:x.ser.length<=1000) :
 Returns zH 193 [.rf (yfw p g),ybl c,.i .i64 v,ybd x.ser] (.i .i64 (ybx g c v x (-1))):=by
 have hV:=yhb p hg hc hv x.ser hl x false (-1) 0 [] hx (fun q=>by cases q) (by unfold InB;omega) (by simp)
 refine Returns.of (yddv _ _ ?_);simp only[yit,yfw,ybl,yx,ybd,ybe,ydp,zG]at hV;simp only[c193,yctf,ycvk,ycmv,ychz,yfw,ybl,yx,ybd,ybe,ydp,splice,go_sem,zA,zB,zC,zF,↓reduceIte,reduceCtorEq];refine .inl (hV.use ?_);simp only[ybi,ybb,go_sem,zA,zB,↓reduceIte,reduceCtorEq]
end Sh
end
section
theorem yql{a:Nat}(h:a<2^32):IntKind.wrap .u32 (a:Int)=a:=by
 unfold IntKind.wrap;simp[IntKind.bits,IntKind.signed];omega
theorem u32_and{a b:Nat}(ha:a<2^32)(hb:b<2^32):IntKind.wrap .u32 (((zI (IntKind.bits .u32) (a:Int))&&&zI (IntKind.bits .u32) (b:Int)).toNat:Int)=((a&&&b:Nat):Int):=by
 show IntKind.wrap .u32 (((zI 32 (a:Int))&&&zI 32 (b:Int)).toNat:Int)=_;rw[zK,zK,BitVec.toNat_and,zU,zU,zX ha,zX hb];exact yql (zAP zAT ha)
theorem u32_or{a b:Nat}(ha:a<2^32)(hb:b<2^32):IntKind.wrap .u32 (((zI (IntKind.bits .u32) (a:Int))|||zI (IntKind.bits .u32) (b:Int)).toNat:Int)=((a|||b:Nat):Int):=by
 show IntKind.wrap .u32 (((zI 32 (a:Int))|||zI 32 (b:Int)).toNat:Int)=_;rw[zK,zK,BitVec.toNat_or,zU,zU,zX ha,zX hb];exact yql (Nat.or_lt_two_pow ha hb)
theorem u32_andNot{a b:Nat}(ha:a<2^32)(hb:b<2^32):IntKind.wrap .u32 (((zI (IntKind.bits .u32) (a:Int)) &&& ~~~zI (IntKind.bits .u32) (b:Int)).toNat:Int)=((difB a b:Nat):Int):=by
 show IntKind.wrap .u32 (((zI 32 (a:Int)) &&& ~~~zI 32 (b:Int)).toNat:Int)=_
 have e:((zI 32 (a:Int)) &&& ~~~zI 32 (b:Int)).toNat=difB a b:=by
  rw[zK,zK];refine zAJ fun i=>?_;rw[ymk,BitVec.testBit_toNat,BitVec.getLsbD_and,BitVec.getLsbD_not,zAK,zAK]
  by_cases hi:i<32
  ·simp[hi]
  ·rw[zQ (zO ha (zL (by omega) (by omega)))]
   simp
 rw[e];exact yql (ybds ha)
theorem u32_neg{a:Nat}(h0:0<a)(ha:a<2^32):IntKind.wrap .u32 (0-(a:Int))=((2^32-a:Nat):Int):=by
 unfold IntKind.wrap;simp[IntKind.bits,IntKind.signed];omega
theorem ywb{v:Nat}(hv:v<32):IntKind.wrap .u32 (1*2^(v:Int).toNat)=((2^v:Nat):Int):=by
 have h:2^v<2^32:=zAL (by omega) hv
 have:=yql h;rw[zV,Int.one_mul];rw[<-this]
 norm_cast
theorem ybzd{a v:Nat}:(a:Int).fdiv (2^(v:Int).toNat)=((a>>>v:Nat):Int):=by
 rw[zV,zAF];rw[Int.fdiv_eq_ediv_of_nonneg _ (Int.pow_nonneg (by omega))]
 simp
theorem ycyy(a v:Nat):((a>>>v)&&&1=1)↔a.testBit v=true:=by
 rw[zAU,bne_iff_ne];rw[Nat.and_comm 1 (a>>>v)];rw[Nat.and_one_is_mod];omega
theorem ycfo{s v:Nat}(hs:s<2^32):IntKind.wrap .u32 (((zI (IntKind.bits .u32) ((s:Int).fdiv (2^v)))&&&zI (IntKind.bits .u32) 1).toNat:Int)=(((s>>>v)&&&1:Nat):Int):=by
 have h:=ybzd (a:=s) (v:=v);rw[zV]at h;rw[h];have h2:s>>>v<2^32:=by rw[zAF];exact zAP (Nat.div_le_self _ _) hs
 exact u32_and (a:=s>>>v) (b:=1) h2 (by decide)
theorem ybbf{s v:Nat}:((((s>>>v)&&&1:Nat):Int)=1)↔s.testBit v=true:=by
 rw[<-ycyy s v];omega
def resS(e _w:Nat):Nat:=e
end
section
namespace Sh
open Go Ev
def yeg(p:ProgR)(g:Gr):List SV:=[.a (.string p.name),ydd p.vars,ydb p.rules,.rf (yfw p g),yjd g.ids.length p.vars (ybh g)]
theorem yzi(p:ProgR){g:Gr}(hg:ybc g)(hp:p.vars.all VarR.ok=true)(hl:p.vars.length<=6):Returns zH 93 [.ag (yni p),grV g] (.rf (yeg p g)):=by
 refine Returns.of (ydmd _ _ ?_);have hS:=yzl p hg;have hT:=ybch p hg hp hl;simp only[yni,grV]at hS hT;simp only[c93,ydik,ydkj,yni,grV,go_sem,zA,zB,zF,↓reduceIte,reduceCtorEq];refine hS.use ?_;simp only[ybi,go_sem,zA,zB,zC,zF,↓reduceIte,reduceCtorEq];refine hT.use ?_;simp only[yjd,yeg,go_sem,zA,zB,zC,↓reduceIte];refine⟨by decide,by decide,Sim.refl _⟩
theorem ybon(p:ProgT){g:Gr}(hg:ybc g)(hp:p.ok=true){c:Conf}(hc:ConfIn g.ports.length p.vars.length c){v:Nat}(hv:v<g.ports.length){r:Nat}(hr:r<p.rules.length) :
 Returns zH 172 [.rf (yfw p.raw g),ybl c,.i .i64 v,.i .i64 r] (.b (ykt g c v (p.rules.getD r default))):=by
 refine Returns.of (yczf _ _ ?_);obtain⟨R,hR⟩:∃R,p.rules.getD r default=R:=⟨_,rfl⟩
 have hok:R.ok p.vars.length=true:=by
  unfold ProgT.ok at hp;simp only[zD]at hp;rw[<-hR,getD_at hr];exact List.all_eq_true.1 hp.2 _ (zM _)
 unfold RuleT.ok at hok;simp only[zD,decide_eq_true_eq]at hok;have hV:=ybak p.raw hg hc hv R.guard hok.1.1.1 hok.1.1.2
 have hraw:p.raw.rules.getD r default=R.raw:=by
  rw[<-hR];simp[ProgT.raw,zS,hr]
 have hlen:p.raw.rules.length=p.rules.length:=by simp[ProgT.raw]
 simp only[yfw,ydb,hlen]at hV;rw[hR];simp only[c172,ycil,ycgs,yfw,ydb,hraw,hlen,go_sem,zA,zB,zC,↓reduceIte,reduceCtorEq];refine⟨by omega,hV.use ?_⟩
 simp only[ybi,yjn,ykt,go_sem,zA,zB,↓reduceIte,reduceCtorEq]
theorem ydkr{p:ProgT}{g:Gr}{c:Conf}{v k:Nat}(hk:k<p.rules.length)(hn:(p.rules.take k).findIdx? (ykt g c v)=none)(h:ykt g c v (p.rules.getD k default)=true):ygx p g c v=k:=by
 unfold ygx
 have:p.rules.findIdx? (ykt g c v)=some k:=by
  rw[List.findIdx?_eq_some_iff_getElem];refine⟨hk,by rwa [getD_at hk]at h,fun j hj=>?_⟩
  rw[List.findIdx?_eq_none_iff]at hn;have:=hn p.rules[j] (List.mem_take_iff_getElem.2 ⟨j,by omega,rfl⟩)
  simpa using this
 rw[this]
theorem ybmq{p:ProgT}{g:Gr}{c:Conf}{v:Nat}(hn:(p.rules.take p.rules.length).findIdx? (ykt g c v)=none):ygx p g c v = -1:=by
 unfold ygx;rw[zAQ]at hn;rw[hn]
theorem ycec(p:ProgT)(g:Gr)(c:Conf)(v:Nat):-1<=ygx p g c v/\ygx p g c v<p.rules.length:=by
 unfold ygx;split
 ·rename_i i hi
  obtain⟨h,_⟩:=List.findIdx?_eq_some_iff_getElem.1 hi;omega
 ·omega
theorem ybiv(p:ProgT){g:Gr}(hg:ybc g)(hp:p.ok=true){c:Conf}(hc:ConfIn g.ports.length p.vars.length c){v:Nat}(hv:v<g.ports.length) :
 Returns zH 147 [.rf (yeg p.raw g),ybl c,.i .i64 v] (.i .i64 (ygx p g c v)):=by
 refine Returns.of (yczo _ _ ?_);have hlen:p.raw.rules.length=p.rules.length:=by simp[ProgT.raw]
 have h12:p.rules.length<=12:=by
  unfold ProgT.ok at hp;simp only[zD,decide_eq_true_eq]at hp;exact hp.1.2
 simp only[c147,ycnq,ycwa,yeg,ydb,hlen,go_sem,zA,zB,zC,↓reduceIte,reduceCtorEq];refine ybj (σ:=Nat) (fun k=>⟨[(14,.i .i64 k),(13,.i .i64 p.rules.length),(0,.rf (yeg p.raw g)),(1,ybl c),(2,.i .i64 v)],[]⟩) (fun k=>k<=p.rules.length/\(p.rules.take k).findIdx? (ykt g c v)=none) (fun k=>p.rules.length-k) 0 ⟨zJ _,by simp⟩ ?_ ?_
 ·refine yj [] [] [] ?_;simp only[yeg,ydb,hlen,allQ,live,yg,zG,go_sem,zA,↓reduceIte,reduceCtorEq]
 ·intro k ⟨hk,hno⟩;simp only[ycui,ycss,ycrn,ycqs,ycon,yclf,yeg,ybb,go_sem,zA,zB,zC,↓reduceIte,reduceCtorEq];refine⟨fun hlt=>?_,fun hlt=>?_⟩
  ·have hk':k<p.rules.length:=by omega
   refine(ybon p hg hp hc hv hk').use ?_;simp only[ybi,ybb,go_sem,zA,zB,↓reduceIte,reduceCtorEq];refine⟨fun h=>by rw[ydkr hk' hno h],fun h=>⟨ikw (by omega) (by omega),?_⟩⟩
   refine yw (k+1) ⟨by omega,?_⟩ (by omega) ?_
   ·rw[zY hk',List.findIdx?_append,hno];rw[getD_at hk']at h;simp[h]
   ·refine yj [] [] [] ?_;simp only[allQ,live,yg,ybb,go_sem,zA,↓reduceIte,reduceCtorEq];simp
  ·obtain rfl:k=p.rules.length:=by omega
   rw[ybmq hno]
theorem ybxw(n:Nat)(hn:n<=32)(h:FuncId)(cp:List SV)(f:Nat->Bool)(hcp4:cp.any (owned 4)=false)(hf:∀v,v<n->Returns zH h (.i .i64 v::cp) (.b (f v))):Returns zH 145 [.i .i64 n,.fn h [] cp] (.i .u32 (yjs f n)):=by
 refine Returns.of (yczq _ _ ?_);have hcp:=ykx hcp4;simp only[c145,ycoj,yclm,ycuk,go_sem,zB,↓reduceIte,reduceCtorEq];refine ybj (σ:=Nat) (fun k=>⟨[(8,.i .i64 k),(7,.i .i64 n),(1,.fn h [] cp),(5,.i .u32 (yjs f k))],[]⟩) (fun k=>k<=n) (fun k=>n-k) 0 (zJ _) ?_ ?_
 ·refine yj [] [] [] ?_;simp only[yfh _ hcp4,yfb _ hcp4,yjs,allQ,live,yg,zG,go_sem,zA,↓reduceIte,reduceCtorEq]
 ·intro k hk;simp only[ycxg,ycwb,ycph,ycit,ycjv,ycjj,ybb,hcp,List.any_cons,go_sem,zA,zB,↓reduceIte,reduceCtorEq];refine⟨fun hlt=>(hf k (by omega)).use ?_,fun hlt=>?_⟩
  ·have hk':k<n:=by omega
   have hb1:yjs f k<2^32:=zO (ybgs f k) (zL (by omega) (by omega))
   have hb2:2^k<2^32:=zAL (by omega) (by omega)
   simp only[ybi,IntKind.bits,go_sem,zA,zB,↓reduceIte,reduceCtorEq];refine⟨fun h1=>⟨by omega,ikw (by omega) (by omega),?_⟩,fun h1=>⟨ikw (by omega) (by omega),?_⟩⟩
   ·refine yw (k+1) (by omega) (by omega) ?_
    refine yj [] [] [] ?_;have e1:=ywb (v:=k) (by omega)
    have e2:=u32_or hb1 hb2;rw[zV]at e1;simp only[yfh _ hcp4,yfb _ hcp4,e1,allQ,live,yg,ybb,go_sem,zA,↓reduceIte,reduceCtorEq];refine⟨by omega,?_⟩
    rw[show yjs f (k+1)=yjs f k|||2^k by show(if f k then _ else _)=_;rw[if_pos h1]]
    exact e2
   ·refine yw (k+1) (by omega) (by omega) ?_
    refine yj [] [] [] ?_;simp only[yfh _ hcp4,yfb _ hcp4,allQ,live,yg,ybb,go_sem,zA,↓reduceIte,reduceCtorEq];rw[show yjs f (k+1)=yjs f k by show(if f k then _ else _)=_;rw[if_neg (by rw[h1];simp)]]
    simp
  ·obtain rfl:k=n:=by omega
   rfl
theorem ybbi(p:ProgT){g:Gr}(hg:ybc g)(hp:p.ok=true){c:Conf}(hc:ConfIn g.ports.length p.vars.length c){v:Nat}(hv:v<g.ports.length) :
 Returns zH 146 [.i .i64 v,.rf [.rf (yeg p.raw g)],.rf [ybl c]] (.b (decide (ygx p g c v>=0))):=by
 refine Returns.of (ycxk _ _ ?_);have hR:=ybiv p hg hp hc hv;simp only[c146,ycok,ycsi,go_sem,zA,zB,↓reduceIte,reduceCtorEq];refine hR.use ?_;simp only[ybi,yjn,go_sem,zA,zB,↓reduceIte,reduceCtorEq]
theorem ypc(p:ProgT){g:Gr}(hg:ybc g)(hp:p.ok=true){c:Conf}(hc:ConfIn g.ports.length p.vars.length c) :
 Returns zH 94 [.rf (yeg p.raw g),ybl c] (.i .u32 (ycc p g c)):=by
 refine Returns.of (ydnj _ _ ?_);have hid:=hg.2.2.1;have h24:=hg.2.1;have hN:=ybxw g.ids.length (by omega) 146 [.rf [.rf (yeg p.raw g)],.rf [ybl c]] (fun v=>decide (ygx p g c v>=0)) rfl (fun v hv=>ybbi p hg hp hc (by omega))
 simp only[yeg]at hN;simp only[c94,ydjx,ydke,yeg,yjd,go_sem,zA,zB,zC,zF,↓reduceIte,reduceCtorEq];simp only[yjd]at hN;refine .inl (hN.use ?_);simp only[ybi,ybb,go_sem,zA,zB,↓reduceIte,reduceCtorEq];rfl
theorem ypt(p:ProgT)(g:Gr)(c:Conf)(v:Nat):∀(sets:List (Int×Ex)) (s0:List Int),(yot p g c v s0 sets).length=s0.length
 |[],_=>rfl
 | a::sets,s0=>by
   show(yot p g c v (s0.set _ _) sets).length=_;rw[ypt p g c v sets];simp
theorem ybmu(p:ProgT)(g:Gr)(c:Conf)(v:Nat)(s0:List Int)(sets:List (Int×Ex))(k:Nat)(h:k<sets.length) :
 yot p g c v s0 (sets.take (k+1))=(yot p g c v s0 (sets.take k)).set (sets.getD k default).1.toNat (ygc (p.vars.getD (sets.getD k default).1.toNat default).kind (ybh g v (p.vars.getD (sets.getD k default).1.toNat default)) (ybx g c v (sets.getD k default).2 (-1))):=by
 unfold yot;rw[zY h,List.foldl_append,getD_at h];rfl
theorem yceu(p:ProgT){g:Gr}(hg:ybc g)(hp:p.ok=true){c:Conf}(hc:ConfIn g.ports.length p.vars.length c){v:Nat}(hv:v<g.ports.length){r:Nat}(hr:r<p.rules.length) :
 Returns zH 157 [.rf (yeg p.raw g),ybl c,.i .i64 v,.i .i64 r] (yx (yyv p g c v r)):=by
 refine Returns.of (ycxo _ _ ?_);obtain⟨R,hR⟩:∃R,p.rules.getD r default=R:=⟨_,rfl⟩;have hp':=hp;unfold ProgT.ok at hp';simp only[zD,decide_eq_true_eq]at hp'
 have hok:R.ok p.vars.length=true:=by
  rw[<-hR,getD_at hr];exact List.all_eq_true.1 hp'.2 _ (zM _)
 unfold RuleT.ok at hok;simp only[zD,decide_eq_true_eq]at hok
 have hraw:p.raw.rules.getD r default=R.raw:=by
  rw[<-hR];simp[ProgT.raw,zS,hr]
 have hlen:p.raw.rules.length=p.rules.length:=by simp[ProgT.raw]
 have hsl:R.raw.sets.length=R.sets.length:=by simp[RuleT.raw]
 have hid:=hg.2.2.1;have hcl:=hc.len;have hrow:=hc.at_ hv;have hne:¬(c.getD v []).length=0:=by omega
 simp only[c157,ycrc,ycjp,yclh,hne,yeg,ydb,yid,hraw,hlen,hsl,ybl,yx,go_sem,zA,zB,zC,zF,↓reduceIte,reduceCtorEq];obtain⟨nv,hnv⟩:∃k,p.vars.length=k:=⟨_,rfl⟩;have hrl:=hrow.1;rw[hnv]at hrl hok hc;rw[hnv]at hp';have hmv:yyv p g c v r=yot p g c v (c.getD v []) R.sets:=by unfold yyv;rw[hR]
 have hml:∀k,(yot p g c v (c.getD v []) (R.sets.take k)).length=nv:=fun k=>(ypt p g c v _ _).trans hrl;refine⟨by omega,by omega,by omega,?_⟩
 refine ybj (σ:=Nat) (fun k=>⟨[(28,.i .i64 k),(27,.i .i64 R.sets.length),(26,yid R.raw.sets),(0,.rf (yeg p.raw g)),(1,ybl c),(2,.i .i64 v),(9,.os (17,0) 0 nv true)],
  [(17,.one (some ⟨3,false,1,nv,fun i=>[.i .i64 ((yot p g c v (c.getD v []) (R.sets.take k)).getD i 0)]⟩))]⟩) (fun k=>k<=R.sets.length) (fun k=>R.sets.length-k) 0 (zJ _) ?_ ?_
 ·refine yj [] [] [] ?_;simp only[yeg,ydb,yid,hlen,hsl,hrl,ybl,yx,allQ,live,yg,ybb,zG,go_sem,zA,↓reduceIte,reduceCtorEq];simp[yot]
 ·intro k hk;simp only[ycsw,ycvo,ycir,yeg,yid,hsl,splice,go_sem,zA,zB,zC,zF,↓reduceIte,reduceCtorEq];refine⟨fun hlt=>?_,fun hlt=>?_⟩
  ·have hk':k<R.sets.length:=by omega
   obtain⟨S,hS⟩:∃S,R.sets.getD k default=S:=⟨_,rfl⟩
   have hset:R.raw.sets.getD k default=⟨S.1,S.2.ser⟩:=by
    rw[<-hS];simp[RuleT.raw,zS,hk']
   have hSok:=List.all_eq_true.1 hok.2 S (by rw[<-hS,getD_at hk'];exact zM _)
   simp only[zD,decide_eq_true_eq]at hSok;have hV:=ybak p.raw hg hc hv S.2 hSok.1.2 hSok.2;refine⟨by omega,?_⟩
   rw[hset];refine hV.use ?_;have hB:=ybpz (p.vars.getD S.1.toNat default).kind (ybh g v (p.vars.getD S.1.toNat default)) (ybx g c v S.2 (-1));have hvars:p.raw.vars=p.vars:=rfl;simp only[ycve,ybi,yjd,ydd,varC,splice,hvars,hnv,go_sem,zA,zB,zC,↓reduceIte,reduceCtorEq];refine⟨by omega,by omega,by omega,hB.use ?_⟩
   simp only[go_sem,zA,↓reduceIte];have hb2:zAU 134217727 25=true:=by decide
   simp only[yctu,hb2,go_sem,zA,zB,↓reduceIte,reduceCtorEq];refine⟨by omega,by omega,ikw (by omega) (by omega),?_⟩
   refine yw (k+1) (by omega) (by omega) ?_
   refine yj [] [] [] ?_;simp only[ybmu p g c v _ _ k hk',hS,allQ,live,yg,ybb,go_sem,zA,↓reduceIte,reduceCtorEq];refine⟨by omega,fun i hi=>?_⟩
   rw[yxi (by rw[hml];omega)]
   by_cases q:i=S.1.toNat
   ·simp only[if_pos q];simp only[live,yg,go_sem,reduceCtorEq]
   ·simp only[if_neg q];simp only[live,yg,go_sem,reduceCtorEq]
  ·obtain rfl:k=R.sets.length:=by omega
   simp only[ycty,go_sem,zA,zB,↓reduceIte,reduceCtorEq];have hl:=hml R.sets.length;rw[zAQ]at hl ⊢;rw[hmv,hl];exact Sim.refl _
theorem ymb(p:ProgT)(g:Gr)(c:Conf)(s:Nat){v:Nat}(hv:v<c.length):(ync p g c s).getD v []=if s.testBit v then yyv p g c v (ygx p g c v).toNat else c.getD v []:=by
 unfold ync;simp[zS,hv]
theorem yjt(p:ProgT)(g:Gr)(c:Conf)(s:Nat):(ync p g c s).length=c.length:=by simp[ync]
theorem ycdh(p:ProgT){g:Gr}(hg:ybc g)(hp:p.ok=true){c:Conf}(hc:ConfIn g.ports.length p.vars.length c){s:Nat}(hs:s<2^32)(hen:subB s (ycc p g c)) :
 Returns zH 113 [.rf (yeg p.raw g),ybl c,.i .u32 s] (ybl (ync p g c s)):=by
 refine Returns.of (ycdk [132] _ _ ?_);have h24:=hg.2.1;have hcl:=hc.len;have hp':=hp;unfold ProgT.ok at hp';simp only[zD,decide_eq_true_eq]at hp';have hC:=yccp c (fun x hx=>by have:=(hc.row x hx).1;omega) (by omega)
 simp only[c113,ycwf,ycuy,go_sem,zA,zB,↓reduceIte,reduceCtorEq];refine yem hC [] 100 [0,1,2] [] ?_ ?_
 ·simp only[go_sem,ycf,yfd,ydy,ydm,allQ,live,yg,go_sem,zA,↓reduceIte,reduceCtorEq]
 ·rintro r o' ⟨rfl,rfl⟩;simp only[yclc,ybl,yx,ymj,ykn,nuF,nu,difN,ydy,ydm,Fam.ren,OB.ren,dim,yzy,yjb,go_sem,zA,zB,↓reduceIte,reduceCtorEq];obtain⟨n,hn⟩:∃n,c.length=n:=⟨_,rfl⟩
  let row:Nat->Nat->List Int:=fun k i=>if i<k then(ync p g c s).getD i []else c.getD i []
  refine ybj (σ:=Nat) (fun k=>⟨[(13,.i .i64 k),(12,.i .i64 n),(7,.os (108,0) 0 n true),(0,.rf (yeg p.raw g)),(1,ybl c),(2,.i .u32 s)],
   [(108,.one (some ⟨22,false,1,n,fun i=>[yx (row k i)]⟩))]⟩) (fun k=>k<=n) (fun k=>n-k) 0 (zJ _) ?_ ?_
  ·refine yj [] [] [] ?_;simp only[ybl,hn,allQ,live,yg,zG,go_sem,zA,↓reduceIte,reduceCtorEq];refine⟨Sim.refl _,fun i hi=>?_⟩;simp only[row,if_neg (zZ i)];exact Sim.refl _
  ·intro k hk;have ht:=ycfo (s:=s) (v:=k) hs;simp only[IntKind.bits]at ht;simp only[ycsp,ycrl,ycno,ycof,ychk,ycwv,IntKind.bits,ht,ybbf,go_sem,zA,zB,zAM,↓reduceIte,reduceCtorEq];refine⟨fun hlt=>⟨by omega,fun h1=>?_,fun h1=>?_⟩,fun hlt=>?_⟩
   ·have hk':k<c.length:=by omega
    have hkg:k<g.ports.length:=by omega
    have hr0:0<=ygx p g c k:=by
     have:=hen k h1;unfold ycc at this;rw[yjq]at this;simp only[zD,decide_eq_true_eq]at this;exact this.2
    have hrl:=(ycec p g c k).2;have hr1:ygx p g c k=((ygx p g c k).toNat:Int):=by omega
    refine(ybiv p hg hp hc hkg).use ?_;simp only[ybi,splice,go_sem,zA,zB,zAM,↓reduceIte,reduceCtorEq];have hM:=yceu p hg hp hc hkg (r:=(ygx p g c k).toNat) (by omega)
    rw[<-hr1]at hM;refine hM.use ?_;simp only[go_sem,zA,↓reduceIte];refine⟨by omega,by omega,ikw (by omega) (by omega),?_⟩
    refine yw (k+1) (by omega) (by omega) ?_
    refine yj [] [] [] ?_;simp only[allQ,live,yg,ybb,go_sem,zA,↓reduceIte,reduceCtorEq];refine⟨by omega,fun i hi=>?_⟩
    by_cases q:i=k
    ·simp only[if_pos q];subst q;simp only[go_sem,live,go_sem];simp only[row,if_pos (zW i),ymb p g c s hk',h1,↓reduceIte];exact Sim.refl _
    ·simp only[if_neg q];simp only[go_sem,live,go_sem]
     have:row (k+1) i=row k i:=by
      simp only[row]
      by_cases q1:i<k
      ·rw[if_pos q1,if_pos (by omega)]
      ·rw[if_neg q1,if_neg (by omega)]
     rw[this];exact Sim.refl _
   ·have hk':k<c.length:=by omega
    refine⟨ikw (by omega) (by omega),?_⟩
    refine yw (k+1) (by omega) (by omega) ?_
    refine yj [] [] [] ?_;simp only[allQ,live,yg,ybb,go_sem,zA,↓reduceIte,reduceCtorEq];refine⟨by omega,fun i hi=>?_⟩
    have:row (k+1) i=row k i:=by
     simp only[row]
     by_cases q1:i<k
     ·rw[if_pos q1,if_pos (by omega)]
     ·by_cases q:i=k
      ·subst q;rw[if_neg q1,if_pos (by omega),ymb p g c s hk',if_neg (fun q=>h1 (ybbf.2 q))]
      ·rw[if_neg q1,if_neg (by omega)]
    rw[this];exact Sim.refl _
   ·obtain rfl:k=n:=by omega
    rw[yjt,hn];refine ygn fun q hq=>⟨⟨?_,trivial⟩,rfl⟩;simp only[row,if_pos hq];exact Sim.refl _
end Sh
end
end Go.Proofs.YtiejahgklcjhkaaGreatDoor
