/- Lemmas, joined: SgH SgN SgI SgK Pr Pt SgL SgM SgJ U32. -/
import Derived.Test.YtpngeppkgoaimaaGreatDoorPkLp10
import Derived.Test.YtpngeppkgoaimaaGreatDoorPkLp9
import Derived.Test.YtpngeppkgoaimaaGreatDoorPkLp3
set_option linter.unusedSimpArgs false
set_option linter.unusedVariables false
namespace Go.Proofs.YtpngeppkgoaimaaGreatDoor
def Ex.shp:Ex->Bool
 | .leaf op _=>decide (1<=op/\op<=17)
 | .un op a=>decide (18<=op/\op<=29) && a.shp
 | .agg op a=>decide (18<=op/\op<=29) && a.shp
 | .bin op a b=>decide (30<=op/\op<=42) && a.shp && b.shp
 | .ite x a b=>x.shp && a.shp && b.shp
theorem Ex.ok_shp{nv:Int}:∀ (x:Ex) {bnd:Bool},x.ok nv bnd=true->x.shp=true
 | .leaf op arg,bnd,h=>by
  simp only[Ex.ok,Bool.and_eq_true]at h;exact h.1.1
 | .un op a,bnd,h=>by
  simp only[Ex.ok,Bool.and_eq_true,decide_eq_true_eq]at h;simp only[Ex.shp,Bool.and_eq_true,decide_eq_true_eq];exact⟨by omega,Ex.ok_shp a h.2⟩
 | .agg op a,bnd,h=>by
  simp only[Ex.ok,Bool.and_eq_true,decide_eq_true_eq]at h;simp only[Ex.shp,Bool.and_eq_true,decide_eq_true_eq];exact⟨by omega,Ex.ok_shp a h.2⟩
 | .bin op a b,bnd,h=>by
  simp only[Ex.ok,Bool.and_eq_true,decide_eq_true_eq]at h;simp only[Ex.shp,Bool.and_eq_true,decide_eq_true_eq];exact⟨⟨h.1.1,Ex.ok_shp a h.1.2⟩,Ex.ok_shp b h.2⟩
 | .ite x a b,bnd,h=>by
  simp only[Ex.ok,Bool.and_eq_true]at h;simp only[Ex.shp,Bool.and_eq_true];exact⟨⟨Ex.ok_shp x h.1.1,Ex.ok_shp a h.1.2⟩,Ex.ok_shp b h.2⟩
def ylf(op:Int):Int:=if op<1\/op > 43 then -1 else if op<=17 then 0 else if op<=29 then 1 else if op<=42 then 2 else 3
def serL(ts:List Ex):List Tm:=(ts.map Ex.ser).flatten
def Ex.head:Ex->Tm
 | .leaf op arg=>(op,arg)
 | .un op _=>(op,0)
 | .agg op _=>(op,0)
 | .bin op _ _=>(op,0)
 | .ite _ _ _=>(43,0)
def Ex.subs:Ex->List Ex
 | .leaf _ _=>[]
 | .un _ a=>[a]
 | .agg _ a=>[a]
 | .bin _ a b=>[a,b]
 | .ite x a b=>[x,a,b]
theorem Ex.ser_eq(x:Ex):x.ser=x.head :: serL x.subs:=by
 cases x<;>simp[Ex.ser,Ex.head,Ex.subs,serL]
theorem ychd{op:Int}(h:1<=op/\op<=17):ylf op=0:=by
 unfold ylf;rw[if_neg (by omega),if_pos (by omega)]
theorem ybko{op:Int}(h:18<=op/\op<=29):ylf op=1:=by
 unfold ylf;rw[if_neg (by omega),if_neg (by omega),if_pos (by omega)]
theorem ycee{op:Int}(h:30<=op/\op<=42):ylf op=2:=by
 unfold ylf;rw[if_neg (by omega),if_neg (by omega),if_neg (by omega),if_pos (by omega)]
theorem Ex.arity(x:Ex)(h:x.shp=true):ylf x.head.1=x.subs.length:=by
 cases x with
 | leaf op arg=>simp only[Ex.shp,decide_eq_true_eq]at h;exact ychd h
 | un op a=>simp only[Ex.shp,Bool.and_eq_true,decide_eq_true_eq]at h;exact ybko h.1
 | agg op a=>simp only[Ex.shp,Bool.and_eq_true,decide_eq_true_eq]at h;exact ybko h.1
 | bin op a b=>simp only[Ex.shp,Bool.and_eq_true,decide_eq_true_eq]at h;exact ycee h.1.1
 | ite x a b=>simp[Ex.head,Ex.subs,ylf]
theorem Ex.subs_shp(x:Ex)(h:x.shp=true):∀ y ∈ x.subs,y.shp=true:=by
 cases x with
 | leaf op arg=>intro y hy;cases hy
 | un op a=>simp only[Ex.shp,Bool.and_eq_true]at h;intro y hy;simp[Ex.subs]at hy;subst hy;exact h.2
 | agg op a=>simp only[Ex.shp,Bool.and_eq_true]at h;intro y hy;simp[Ex.subs]at hy;subst hy;exact h.2
 | bin op a b=>simp only[Ex.shp,Bool.and_eq_true]at h;intro y hy;simp[Ex.subs]at hy;rcases hy with rfl | rfl<;>first | exact h.1.2 | exact h.2
 | ite x a b=>simp only[Ex.shp,Bool.and_eq_true]at h;intro y hy;simp[Ex.subs]at hy;rcases hy with rfl | rfl | rfl<;>first | exact h.1.1 | exact h.1.2 | exact h.2
theorem yfb{e:List Tm}{at_:Nat}{t:Tm}{r:List Tm}(h:e.drop at_=t :: r):at_<e.length/\e.getD at_ (0,0)=t/\e.drop (at_+1)=r:=by
 have hlt:at_<e.length:=by
  refine Classical.byContradiction fun hc=>?_;rw[List.drop_of_length_le (by omega)]at h;cases h
 refine⟨hlt,?_,?_⟩
 ·rw[List.drop_eq_getElem_cons hlt]at h;simp only[List.cons.injEq]at h;simp[List.getD,hlt,h.1]
 ·rw[List.drop_eq_getElem_cons hlt]at h;simp only[List.cons.injEq]at h;exact h.2
namespace Sh
open Go Ev
set_option maxRecDepth 8000

theorem ybzn(op:Int):Returns Tryz.prog 203 [.i .i64 op] (.i .i64 (ylf op)):=by
 refine Returns.of (ydda _ _ ?_);simp only[c203,ycpp,ycto,ycqa,ycuh,yckm,ycoy,ycot,ycie,ycsp,ycks,ybb,ylf,go_sem,Nat.reduceEqDiff,Nat.reduceAdd,↓reduceIte,reduceCtorEq];refine⟨fun h1=>⟨fun h=>by rw[if_pos (.inr h)],fun h2=>⟨fun h=>by rw[if_neg (by omega),if_pos h],fun h3=>⟨fun h=>by rw[if_neg (by omega),if_neg h3,if_pos h],fun h4=>⟨fun h=>by rw[if_neg (by omega),if_neg h3,if_neg h4,if_pos h],fun h5=>by rw[if_neg (by omega),if_neg h3,if_neg h4,if_neg h5]⟩⟩⟩⟩,fun h=>by rw[if_pos (.inl h)]⟩
theorem yczd(e:List Tm)(x:Ex)(at_:Nat)(rest:List Tm)(hx:x.shp=true)(he:e.drop at_=x.ser ++ rest)(hl:e.length<=1000):Returns Tryz.prog 189 [ybc e,.i .i64 at_] (.i .i64 ((at_+x.ser.length:Nat):Int)):=by
 refine Returns.of (ydei _ _ ?_)
 have h0:at_<e.length:=by
  rw[x.ser_eq]at he;exact(yfb he).1
 simp only[c189,ycpl,ycjs,ycof,yclf,ybc,ybb,go_sem,Nat.reduceEqDiff,Nat.reduceAdd,↓reduceIte,reduceCtorEq];refine⟨fun _=>⟨fun h=>by omega,fun _=>?_⟩,fun h=>by omega⟩
 refine ybd (σ:=Nat × List Ex) (fun p=>⟨[(1,.i .i64 p.1),(5,.i .i64 p.2.length),(0,ybc e)],[]⟩)
  (fun p=>e.drop p.1=serL p.2 ++ rest/\p.2 ≠ []/\(∀ y ∈ p.2,y.shp=true)/\p.1+(serL p.2).length=at_+x.ser.length/\p.2.length<=3 * p.1+1) (fun p=>e.length - p.1) (at_,[x]) ⟨by simpa [serL]using he,by simp,by simpa using hx,by simp[serL],by simp⟩ ?_ ?_
 ·refine yh [] [] [] ?_;simp only[ybc,allQ,live,yg,ybb,go_sem,Nat.reduceEqDiff,↓reduceIte,reduceCtorEq];simp
 ·rintro⟨k,ts⟩ ⟨hk,hne,hsh,hlen,hb⟩;cases ts with
  | nil=>exact absurd rfl hne
  | cons y ts =>
   dsimp only at hk hlen hb ⊢
   have hser:serL (y :: ts)=y.head :: (serL y.subs ++ serL ts):=by
    show(y.ser ++ serL ts)=_;rw[y.ser_eq];rfl
   rw[hser]at hk hlen;obtain⟨d1,d2,d3⟩:=yfb hk;have hy:=hsh y List.mem_cons_self;have har:=y.arity hy;have hsub:y.subs.length<=3:=by cases y<;>simp[Ex.subs]
   simp only[List.length_cons]at hb hlen;simp only[ycox,ycqz,ycwn,yckj,yctw,ycnk,ybzb,ybux,ybuy,ybc,ybb,go_sem,Nat.reduceEqDiff,Nat.reduceAdd,Nat.reduceLeDiff,↓reduceIte,reduceCtorEq];refine⟨fun hlt=>⟨by omega,(ybzn _).use ?_⟩,fun hlt=>by omega⟩
   rw[d2,har];simp only[thenO,ybb,go_sem,Nat.reduceEqDiff,Nat.reduceAdd,↓reduceIte,reduceCtorEq];refine⟨fun h=>by omega,fun _=>⟨ikw (by omega) (by omega),ikw (by simp;omega) (by simp;omega),fun h=>⟨ikw (by omega) (by omega),?_⟩,fun h=>⟨ikw (by omega) (by omega),?_⟩⟩⟩
   ·have h1:ts = []:=List.eq_nil_of_length_eq_zero (by omega)
    have h2:y.subs = []:=List.eq_nil_of_length_eq_zero (by omega)
    subst h1;rw[h2]at hlen;simp[serL]at hlen;omega
   ·have hpos:y.subs ++ ts ≠ []:=fun q=>by
     have q1:=congrArg List.length q;simp only[List.length_append,List.length_nil]at q1;omega
    refine yj (k+1,y.subs ++ ts) ⟨?_,hpos,?_,?_,?_⟩ (by dsimp only;omega) ?_
    ·dsimp only
     rw[d3];simp[serL]
    ·intro z hz;rcases List.mem_append.1 hz with q | q
     ·exact y.subs_shp hy z q
     ·exact hsh z (List.mem_cons_of_mem _ q)
    ·dsimp only
     have:(serL (y.subs ++ ts)).length=(serL y.subs ++ serL ts).length:=by simp[serL]
     rw[this];omega
    ·dsimp only
     simp only[List.length_append];omega
    ·refine yh [] [] [] ?_;simp only[allQ,live,yg,ybb,go_sem,Nat.reduceEqDiff,↓reduceIte,reduceCtorEq];simp;omega
end Sh
end Go.Proofs.YtpngeppkgoaimaaGreatDoor

namespace Go.Proofs.YtpngeppkgoaimaaGreatDoor
namespace Sh
open Go Ev
def varC(x:VarR):List SV:=[.a (.string x.name),.i .i64 x.kind,.i .i64 x.lo,.i .i64 x.hi,.i .i64 x.perNode,.i .i64 x.perID]
def ydf(l:List VarR):SV:=.sl 6 l.length (fun k=>varC (l.getD k default))
def yiq(l:List SetR):SV:=.sl 2 l.length (fun k=>[.i .i64 (l.getD k default).var,ybc (l.getD k default).val])
def ycq(l:List RuleR):SV:=.sl 3 l.length (fun k=>[.a (.string (l.getD k default).name),ybc (l.getD k default).guard,yiq (l.getD k default).sets])
def ymx(p:ProgR):List SV:=[.a (.string p.name),ydf p.vars,ycq p.rules]
def yds(g:Gr):SV:=.sl 1 g.ports.length (fun v=>[yu (yka g v)])
def yfu(p:ProgR)(g:Gr):List SV:=[.a (.string p.name),ydf p.vars,ycq p.rules,yu g.ids,yx g.ports,.i .i64 (yjo g),yds g]
def yiv(p:ProgR)(g:Gr)(c:Conf)(v:Nat)(e:List Tm):List SV:=[.rf (yfu p g),ybg c,.i .i64 v,ybc e]
theorem ybpd(l:List Int):one1 (yu l)=true:=rfl
theorem ybfx{n:Nat}(l:List Int):owned (n+1) (yu l)=false:=rfl
theorem ybbn{n:Nat}(l:List Int):scalar (n+1) (yu l)=false:=rfl
theorem ybnv{n:Nat}(o:Own)(l:List Int):view o (n+1) (yu l)=yu l:=rfl
theorem ybwb{n:Nat}(o:Own)(l:List Int):vok o (n+1) (yu l)=True:=rfl
theorem ycax{n:Nat}(h:Nm->Nm)(l:List Int):ren h (n+1) (yu l)=yu l:=rfl
theorem ycbc{n:Nat}(L:Nm->Bool)(l:List Int):cln L (n+1) (yu l)=true:=rfl
theorem ybie(l:List (Int × Int)):one1 (ybc l)=true:=rfl
theorem ybab{n:Nat}(l:List (Int × Int)):owned (n+1) (ybc l)=false:=rfl
theorem yzr{n:Nat}(l:List (Int × Int)):scalar (n+1) (ybc l)=false:=rfl
theorem ybfz{n:Nat}(o:Own)(l:List (Int × Int)):view o (n+1) (ybc l)=ybc l:=rfl
theorem ybor{n:Nat}(o:Own)(l:List (Int × Int)):vok o (n+1) (ybc l)=True:=rfl
theorem ybot{n:Nat}(h:Nm->Nm)(l:List (Int × Int)):ren h (n+1) (ybc l)=ybc l:=rfl
theorem ybmy{n:Nat}(L:Nm->Bool)(l:List (Int × Int)):cln L (n+1) (ybc l)=true:=rfl
theorem ybfl(l:List (List (Int × Int))):one1 (yx l)=true:=rfl
theorem ybdp{n:Nat}(l:List (List (Int × Int))):owned (n+1) (yx l)=false:=rfl
theorem yzg{n:Nat}(l:List (List (Int × Int))):scalar (n+1) (yx l)=false:=rfl
theorem ybig{n:Nat}(o:Own)(l:List (List (Int × Int))):view o (n+1) (yx l)=yx l:=rfl
theorem ybmh{n:Nat}(o:Own)(l:List (List (Int × Int))):vok o (n+1) (yx l)=True:=rfl
theorem ybna{n:Nat}(h:Nm->Nm)(l:List (List (Int × Int))):ren h (n+1) (yx l)=yx l:=rfl
theorem yboc{n:Nat}(L:Nm->Bool)(l:List (List (Int × Int))):cln L (n+1) (yx l)=true:=rfl
theorem ybnw(l:List (List Int)):one1 (ybg l)=true:=rfl
theorem ybgz{n:Nat}(l:List (List Int)):owned (n+1) (ybg l)=false:=rfl
theorem ybby{n:Nat}(l:List (List Int)):scalar (n+1) (ybg l)=false:=rfl
theorem ybmc{n:Nat}(o:Own)(l:List (List Int)):view o (n+1) (ybg l)=ybg l:=rfl
theorem ybua{n:Nat}(o:Own)(l:List (List Int)):vok o (n+1) (ybg l)=True:=rfl
theorem ybzu{n:Nat}(h:Nm->Nm)(l:List (List Int)):ren h (n+1) (ybg l)=ybg l:=rfl
theorem ybrn{n:Nat}(L:Nm->Bool)(l:List (List Int)):cln L (n+1) (ybg l)=true:=rfl
theorem yblr(l:List VarR):one1 (ydf l)=true:=rfl
theorem ybhx{n:Nat}(l:List VarR):owned (n+1) (ydf l)=false:=rfl
theorem ybct{n:Nat}(l:List VarR):scalar (n+1) (ydf l)=false:=rfl
theorem ybnt{n:Nat}(o:Own)(l:List VarR):view o (n+1) (ydf l)=ydf l:=rfl
theorem ybwe{n:Nat}(o:Own)(l:List VarR):vok o (n+1) (ydf l)=True:=rfl
theorem ybyf{n:Nat}(h:Nm->Nm)(l:List VarR):ren h (n+1) (ydf l)=ydf l:=rfl
theorem ybye{n:Nat}(L:Nm->Bool)(l:List VarR):cln L (n+1) (ydf l)=true:=rfl
theorem ybod(l:List SetR):one1 (yiq l)=true:=rfl
theorem ybia{n:Nat}(l:List SetR):owned (n+1) (yiq l)=false:=rfl
theorem ybau{n:Nat}(l:List SetR):scalar (n+1) (yiq l)=false:=rfl
theorem ybln{n:Nat}(o:Own)(l:List SetR):view o (n+1) (yiq l)=yiq l:=rfl
theorem ycbt{n:Nat}(o:Own)(l:List SetR):vok o (n+1) (yiq l)=True:=rfl
theorem ybwg{n:Nat}(h:Nm->Nm)(l:List SetR):ren h (n+1) (yiq l)=yiq l:=rfl
theorem ybul{n:Nat}(L:Nm->Bool)(l:List SetR):cln L (n+1) (yiq l)=true:=rfl
theorem ybfh(l:List RuleR):one1 (ycq l)=true:=rfl
theorem ybat{n:Nat}(l:List RuleR):owned (n+1) (ycq l)=false:=rfl
theorem yyo{n:Nat}(l:List RuleR):scalar (n+1) (ycq l)=false:=rfl
theorem ybfi{n:Nat}(o:Own)(l:List RuleR):view o (n+1) (ycq l)=ycq l:=rfl
theorem ybni{n:Nat}(o:Own)(l:List RuleR):vok o (n+1) (ycq l)=True:=rfl
theorem ybno{n:Nat}(h:Nm->Nm)(l:List RuleR):ren h (n+1) (ycq l)=ycq l:=rfl
theorem ybnk{n:Nat}(L:Nm->Bool)(l:List RuleR):cln L (n+1) (ycq l)=true:=rfl
theorem ybhh(l:Gr):one1 (yds l)=true:=rfl
theorem ybbd{n:Nat}(l:Gr):owned (n+1) (yds l)=false:=rfl
theorem yya{n:Nat}(l:Gr):scalar (n+1) (yds l)=false:=rfl
theorem ybfw{n:Nat}(o:Own)(l:Gr):view o (n+1) (yds l)=yds l:=rfl
theorem yblt{n:Nat}(o:Own)(l:Gr):vok o (n+1) (yds l)=True:=rfl
theorem yblx{n:Nat}(h:Nm->Nm)(l:Gr):ren h (n+1) (yds l)=yds l:=rfl
theorem ybmi{n:Nat}(L:Nm->Bool)(l:Gr):cln L (n+1) (yds l)=true:=rfl
theorem ybge{n:Nat}(fr:List Nm)(o:Own)(l:List Int):ydh fr o (n+1) (yu l)=yu l:=rfl
theorem ybrt{n:Nat}(fr:List Nm)(o:Own)(l:List Int):pok fr o (n+1) (yu l)=True:=rfl
theorem ybcs{n:Nat}(fr:List Nm)(o:Own)(l:List (Int × Int)):ydh fr o (n+1) (ybc l)=ybc l:=rfl
theorem ybmk{n:Nat}(fr:List Nm)(o:Own)(l:List (Int × Int)):pok fr o (n+1) (ybc l)=True:=rfl
theorem ybdm{n:Nat}(fr:List Nm)(o:Own)(l:List (List (Int × Int))):ydh fr o (n+1) (yx l)=yx l:=rfl
theorem yboo{n:Nat}(fr:List Nm)(o:Own)(l:List (List (Int × Int))):pok fr o (n+1) (yx l)=True:=rfl
theorem ybht{n:Nat}(fr:List Nm)(o:Own)(l:List (List Int)):ydh fr o (n+1) (ybg l)=ybg l:=rfl
theorem yccf{n:Nat}(fr:List Nm)(o:Own)(l:List (List Int)):pok fr o (n+1) (ybg l)=True:=rfl
theorem ybim{n:Nat}(fr:List Nm)(o:Own)(l:List VarR):ydh fr o (n+1) (ydf l)=ydf l:=rfl
theorem yccb{n:Nat}(fr:List Nm)(o:Own)(l:List VarR):pok fr o (n+1) (ydf l)=True:=rfl
theorem ybhs{n:Nat}(fr:List Nm)(o:Own)(l:List SetR):ydh fr o (n+1) (yiq l)=yiq l:=rfl
theorem ybwn{n:Nat}(fr:List Nm)(o:Own)(l:List SetR):pok fr o (n+1) (yiq l)=True:=rfl
theorem ybcl{n:Nat}(fr:List Nm)(o:Own)(l:List RuleR):ydh fr o (n+1) (ycq l)=ycq l:=rfl
theorem ybmm{n:Nat}(fr:List Nm)(o:Own)(l:List RuleR):pok fr o (n+1) (ycq l)=True:=rfl
theorem ybbp{n:Nat}(fr:List Nm)(o:Own)(l:Gr):ydh fr o (n+1) (yds l)=yds l:=rfl
theorem ybnx{n:Nat}(fr:List Nm)(o:Own)(l:Gr):pok fr o (n+1) (yds l)=True:=rfl
theorem ybif(l:List Int):SV.cells (yu l) = [yu l]:=rfl
theorem ybdb(l:List (Int × Int)):SV.cells (ybc l) = [ybc l]:=rfl
theorem ybbh(l:List (List (Int × Int))):SV.cells (yx l) = [yx l]:=rfl
theorem yber(l:List (List Int)):SV.cells (ybg l) = [ybg l]:=rfl
theorem ybey(l:List VarR):SV.cells (ydf l) = [ydf l]:=rfl
theorem ybhv(l:List SetR):SV.cells (yiq l) = [yiq l]:=rfl
theorem ybcy(l:List RuleR):SV.cells (ycq l) = [ycq l]:=rfl
theorem ybbi(l:Gr):SV.cells (yds l) = [yds l]:=rfl
attribute [go_sem] ybpd ybfx ybbn ybnv ybwb ycax ycbc ybie ybab yzr ybfz ybor ybot ybmy
attribute [go_sem] ybfl ybdp yzg ybig ybmh ybna yboc ybnw ybgz ybby ybmc ybua ybzu
attribute [go_sem] ybrn yblr ybhx ybct ybnt ybwe ybyf ybye ybod ybia ybau ybln ycbt ybwg
attribute [go_sem] ybul ybfh ybat yyo ybfi ybni ybno ybnk ybhh ybbd yya ybfw yblt
attribute [go_sem] yblx ybmi ybge ybrt ybcs ybmk ybdm yboo ybht yccf ybim yccb ybhs ybwn
attribute [go_sem] ybcl ybmm ybbp ybnx ybif ybdb ybbh yber ybey ybhv ybcy ybbi
end Sh
end Go.Proofs.YtpngeppkgoaimaaGreatDoor

namespace Go.Proofs.YtpngeppkgoaimaaGreatDoor
namespace Sh
open Go Ev
set_option maxRecDepth 8000

theorem ychh(p:ProgR){g:Gr}(hg:yba g)(op:Int){v:Nat}(hv:v<g.ports.length)(port:Int)(hp:op=6\/op=7\/op=8\/op=9\/op=10\/op=11\/(0<=port/\port<(g.ports.getD v []).length)) :
  Returns Tryz.prog 220 [.rf (yfu p g),.i .i64 op,.i .i64 v,.i .i64 port] (.i .i64 (ymq g op v port)):=by
 refine Returns.of (yddf _ _ ?_);have hlen:=hg.2.2.1;simp only[c220,ycpt,ycuy,ycnr,ycpx,ycsw,ycpe,ycxh,ycvv,ycjj,ycko,ybwp,ycad,ycav,ybuo,ybri,ybuf,ybsu,ybtm,ybvh,ybwl,yccj,ybqh,ycbu,ybzq,ybrq,yfu,yu,yx,ybc,yds,ybb,go_sem,Nat.reduceEqDiff,Nat.reduceAdd,Nat.reduceLeDiff,Nat.reduceLT,↓reduceIte,reduceCtorEq];refine⟨fun h6=>?_,fun h6=>⟨fun h7=>?_,fun h7=>⟨fun h8=>⟨by omega,?_⟩,fun h8=>⟨fun h9=>⟨by omega,?_⟩,fun h9=>⟨fun h10=>(yef _).use ?_,fun h10=>⟨fun h11=>?_,fun h11=>?_⟩⟩⟩⟩⟩⟩
 ·simp[ymq,h6]
 ·simp[ymq,h7]
 ·simp[ymq,h8]
 ·simp[ymq,h9]
 ·simp only[thenO,ybb,go_sem,Nat.reduceEqDiff,Nat.reduceAdd,↓reduceIte,reduceCtorEq];simp[ymq,h10]
 ·simp[ymq,h11]
 ·have hp:0<=port/\port<(g.ports.getD v []).length:=by omega
  have hpn:port.toNat<(g.ports.getD v []).length:=by omega
  have hl:=hg.ybo hv hpn;unfold ybo at hl;refine⟨by omega,by omega,fun h13=>⟨by omega,?_⟩,fun h13=>⟨fun h14=>⟨by omega,?_⟩,fun h14=>⟨fun h15=>(yef _).use ?_,fun h15=>⟨fun h16=>?_,fun h16=>⟨by omega,?_⟩⟩⟩⟩⟩
  ·simp[ymq,h13,ybo]
  ·simp[ymq,h14,ybo]
  ·simp only[thenO,ybb,go_sem,Nat.reduceEqDiff,Nat.reduceAdd,↓reduceIte,reduceCtorEq];simp[ymq,h15,ybo]
  ·simp[ymq,h16,ybo]
  ·refine⟨by rw[show(yka g v).length=(g.ports.getD v []).length from List.length_map _];omega,?_⟩
   simp[ymq,h6,h7,h8,h9,h10,h11,h13,h14,h15,h16]
theorem ycff(p:ProgR){g:Gr}(hg:yba g){nv:Nat}{c:Conf}(hc:ConfIn g.ports.length nv c){v:Nat}(hv:v<g.ports.length)(e:List Tm){op arg:Int}{bnd:Bool}(ho:(Ex.leaf op arg).ok nv bnd=true)(port:Int)(hp:bnd=true->0<=port/\port<(g.ports.getD v []).length) :
  Returns Tryz.prog 211 [.rf (yiv p g c v e),.ag [.i .i64 op,.i .i64 arg],.i .i64 port] (.i .i64 (yui g c op arg v port)):=by
 refine Returns.of (ydeb _ _ ?_);simp only[Ex.ok,Bool.and_eq_true,decide_eq_true_eq]at ho;obtain⟨⟨ho1,ho2⟩,ho3⟩:=ho;have hlen:=hc.len;have hrow:=hc.at_ hv;have hF:=ychh p hg op hv port;simp only[yfu,yu,yx,ybc,yds]at hF;simp only[c211,ycwh,yckp,ycml,ycwc,yckg,ycri,ycos,ycud,ycvt,ycrm,ybws,ybzz,ybsa,ybzo,ybtk,yiv,ybg,yfu,yu,yx,ybc,yds,ybb,go_sem,Nat.reduceEqDiff,Nat.reduceAdd,Nat.reduceLeDiff,Nat.reduceLT,↓reduceIte,reduceCtorEq]
 refine⟨fun h1=>?_,fun h1=>⟨fun h2=>?_,fun h2=>⟨fun h3=>?_,fun h3=>⟨fun h4=>?_,fun h4=>⟨fun h5=>?_,fun h5=>⟨fun h12=>?_,fun h12=>(hF ?_).use ?_⟩⟩⟩⟩⟩⟩
 ·simp[yui,h1]
 ·simp[yui,h2]
 ·simp[yui,h3]
 ·simp[yui,h4]
 ·rw[if_neg (by omega),if_pos (by omega)]at ho2
  have ho2:=of_decide_eq_true ho2;refine⟨by omega,by omega,?_⟩
  simp[yui,h5]
 ·rw[if_neg (by omega),if_pos (by omega)]at ho2
  have ho2:=of_decide_eq_true ho2;rw[if_pos (by omega)]at ho3
  have hp:=hp ho3;have hpn:port.toNat<(g.ports.getD v []).length:=by omega
  have hl:=hg.ybo hv hpn;have hr2:=hc.at_ (v:=(ybo g v port.toNat).1.toNat) (by omega)
  unfold ybo at hl hr2;refine⟨by omega,by omega,by omega,by omega,?_⟩
  simp[yui,h12,ybo]
 ·by_cases q:11<=op
  ·rw[if_pos q]at ho3;have:=hp ho3;omega
  ·omega
 ·simp only[thenO,ybb,go_sem,Nat.reduceEqDiff,Nat.reduceAdd,↓reduceIte,reduceCtorEq];simp[yui,h1,h2,h3,h4,h5,h12]

theorem yrd{e:List Tm}{at_:Nat}{a b:List Tm}(h:e.drop at_=a ++ b):e.drop (at_+a.length)=b:=by
 rw[<- List.drop_drop,h,List.drop_left]
theorem ycgw{n:Nat}{gg:Nat->List SV}{l:List Int}(hn:n=l.length)(h:∀ k,k<n->gg k = [.i .i64 (l.getD k 0)]):Sim (.sl 1 n gg) (yu l):=by
 subst hn;exact sim_sl h
def ybsi(p:ProgR)(g:Gr)(nv:Nat)(c:Conf)(v:Nat)(e:List Tm)(x:Ex):Prop :=
 ∀ (bnd:Bool) (port:Int) (at_:Nat) (rest:List Tm),x.ok nv bnd=true->(bnd=true->0<=port/\port<(g.ports.getD v []).length)->InB port->e.drop at_=x.ser ++ rest ->
  Returns Tryz.prog 194 [.rf (yiv p g c v e),.i .i64 at_,.i .i64 port] (.tp [.i .i64 (ybm g c v x port),.i .i64 ((at_+x.ser.length:Nat):Int)])
theorem yyq(p:ProgR){g:Gr}(hg:yba g){nv:Nat}{c:Conf}(hc:ConfIn g.ports.length nv c){v:Nat}(hv:v<g.ports.length)(e:List Tm)(hl:e.length<=1000){op:Int}{a:Ex}(ho:(Ex.agg op a).ok nv true=true)(ih:ybsi p g nv c v e a)(at_:Nat)(rest:List Tm)(he:e.drop at_=(Ex.agg op a).ser ++ rest) :
  Returns Tryz.prog 213 [.rf (yiv p g c v e),.i .i64 op,.i .i64 at_] (.tp [.i .i64 (ybm g c v (.agg op a) 0),.i .i64 ((at_+(Ex.agg op a).ser.length:Nat):Int)]):=by
 have ho':=ho;simp only[Ex.ok,Bool.and_eq_true,decide_eq_true_eq]at ho;have hd:=hg.deg_lt (v:=v);obtain⟨deg,hdeg⟩:∃ d,(g.ports.getD v []).length=d:=⟨_,rfl⟩;rw[hdeg]at hd;have hin:∀ q:Nat,q<deg->InB (ybm g c v a q):=fun q hq=>yhq hg rfl hc hv a ho.2 (fun _=>by omega) (by unfold InB;omega)
 have hsh:=Ex.ok_shp _ ho';have hdrop:e.drop (at_+1)=a.ser ++ rest:=(yfb (show e.drop at_=(op,0) :: (a.ser ++ rest)from he)).2.2
 have hat:=(yfb (show e.drop at_=(op,0) :: (a.ser ++ rest)from he)).1
 have hfit:at_+1+a.ser.length<=e.length:=by
  have:=congrArg List.length hdrop;simp at this;omega
 refine Returns.of (yczq _ _ ?_);simp only[c213,ycwd,ycld,ycku,ycqo,yiv,ybg,yfu,yu,yx,ybc,yds,hdeg,go_sem,Nat.reduceEqDiff,Nat.reduceAdd,Nat.reduceLeDiff,Nat.reduceLT,↓reduceIte,reduceCtorEq];refine⟨by omega,?_⟩
 let val:Nat->Int:=fun q=>ybm g c v a q
 refine ybd (σ:=Nat) (fun k=>⟨[(27,.i .i64 k),(26,.i .i64 deg),(9,.i .i64 deg),(0,.rf (yiv p g c v e)),(1,.i .i64 op),(2,.i .i64 at_),(8,.pt (8,0) 0 0),(7,.i .i64 (if k=0 then 0 else((at_+1+a.ser.length:Nat):Int)))],
   [(8,.one (some ⟨248,true,1,24,fun i=>[.i .i64 (if i<k then val i else 0)]⟩))]⟩) (fun k=>k<=deg) (fun k=>deg - k) 0 (Nat.zero_le _) ?_ ?_
 ·refine yh [] [] [] ?_;simp only[yiv,ybg,yfu,yu,yx,ybc,yds,allQ,live,yg,ybb,Int.natCast_zero,go_sem,Nat.reduceEqDiff,↓reduceIte,reduceCtorEq];intro i _;rw[if_neg (by omega)]
 ·intro k hk;simp only[ycvn,ycsd,yclr,ycjd,ycww,ycii,ybun,go_sem,Nat.reduceEqDiff,Nat.reduceAdd,Nat.reduceLeDiff,↓reduceIte,reduceCtorEq];refine⟨fun hlt=>⟨ikw (by omega) (by omega),?_⟩,fun hlt=>?_⟩
  ·have hk':k<deg:=by omega
   have hv1:=ih true (k:Int) (at_+1) rest ho.2 (fun _=>by rw[hdeg];omega) (by unfold InB;omega) hdrop
   rw[show((at_+1:Nat):Int)=(at_:Int)+1 by omega]at hv1
   refine hv1.use ?_;simp only[thenO,splice,go_sem,Nat.reduceEqDiff,Nat.reduceAdd,↓reduceIte,reduceCtorEq];refine⟨by omega,by omega,ikw (by omega) (by omega),?_⟩
   refine yj (k+1) (by omega) (by omega) ?_
   refine yh [] [] [] ?_;simp only[allQ,live,yg,ybb,go_sem,Nat.reduceEqDiff,↓reduceIte,reduceCtorEq];refine⟨by omega,?_⟩
   intro i hi
   by_cases q:i=k
   ·rw[if_pos q,if_pos (by omega)]
    subst q;simp only[val,live,yg,go_sem,reduceCtorEq]
   ·rw[if_neg q]
    by_cases q2:i<k
    ·rw[if_pos q2,if_pos (by omega)]
     simp only[live,yg,go_sem,reduceCtorEq]
    ·rw[if_neg q2,if_neg (by omega)]
     simp only[live,yg,go_sem,reduceCtorEq]
  ·obtain rfl:k=deg:=by omega
   have hE:=yczd e _ at_ rest hsh he hl
   have hF:=ychq op ((List.range k).map val) (by simp;omega) (fun x hx=>by
    obtain⟨q,hq,rfl⟩:=List.mem_map.1 hx;exact hin q (List.mem_range.1 hq))
   have hres:ybm g c v (.agg op a) 0=ygg op ((List.range k).map val):=by
    show ygg op _=_;rw[hdeg]
   rw[hres];simp only[yiv,ybc,go_sem,Nat.reduceEqDiff,Nat.reduceAdd,↓reduceIte,reduceCtorEq];simp only[ybc]at hE
   have hsim:SimL [.i .i64 op,.sl 1 (k - 0) fun i=>[.i .i64 (if i<k then val i else 0)]] [.i .i64 op,yu ((List.range k).map val)]:=by
    refine⟨Sim.refl _,ycgw (by simp) fun i hi=>?_,trivial⟩
    rw[if_pos (by omega)]
    simp[List.getD,show i<k by omega]
   refine⟨fun h0=>hE.use ?_,fun h0=>?_⟩
   ·simp only[thenO,go_sem,Nat.reduceEqDiff,Nat.reduceAdd,Nat.reduceLeDiff,↓reduceIte,reduceCtorEq];refine⟨by simp;omega,.inl ⟨by omega,hF.useS hsim ?_⟩⟩
    simp only[go_sem];exact Sim.refl _
   ·refine⟨by simp;omega,.inl ⟨by omega,hF.useS hsim ?_⟩⟩
    simp only[thenO,if_neg (show ¬ k=0 by omega),go_sem,Nat.reduceEqDiff,Nat.reduceAdd,↓reduceIte,reduceCtorEq]
    rw[show at_+(Ex.agg op a).ser.length=at_+1+a.ser.length by simp[Ex.ser];omega]
    exact Sim.refl _
end Sh
end Go.Proofs.YtpngeppkgoaimaaGreatDoor

namespace Go.Proofs.YtpngeppkgoaimaaGreatDoor
namespace Sh
open Go Ev
set_option maxRecDepth 8000

theorem yboj(g:Gr)(v:Nat)(hv:v<g.ports.length)(u:Int)(hl:(g.ports.getD v []).length<=100000):Returns Tryz.prog 142 [grV g,.i .i64 v,.i .i64 u] (.i .i64 (ygw (g.ports.getD v []) u)):=by
 refine Returns.of (ycyw _ _ ?_);simp only[c142,yclp,ycpa,grV,yx,ybc,yu,go_sem,Nat.reduceEqDiff,Nat.reduceAdd,Nat.reduceLT,↓reduceIte,reduceCtorEq];refine⟨by omega,?_⟩
 obtain⟨ls,hls⟩:∃ ls,g.ports.getD v []=ls:=⟨_,rfl⟩;rw[hls]at hl ⊢;refine ybd (σ:=Nat) (fun k=>⟨[(15,.i .i64 k),(13,ybc ls),(14,.i .i64 ls.length),(2,.i .i64 u)],[]⟩) (fun k=>k<=ls.length/\(ls.take k).findIdx? (fun l=>l.1 == u)=none) (fun k=>ls.length - k) 0 ⟨Nat.zero_le _,by simp⟩ ?_ ?_
 ·refine yh [] [] [] ?_;simp only[ybc,allQ,live,yg,Int.natCast_zero,go_sem,Nat.reduceEqDiff,↓reduceIte,reduceCtorEq]
 ·intro k ⟨hk,hno⟩;simp only[ycou,ycsz,yckd,ycom,ycun,ycpy,ybc,ybb,splice,go_sem,Nat.reduceEqDiff,Nat.reduceAdd,Nat.reduceLeDiff,Nat.reduceLT,↓reduceIte,reduceCtorEq];refine⟨fun hlt=>⟨by omega,fun he=>?_,fun he=>⟨ikw (by omega) (by omega),?_⟩⟩,fun hlt=>?_⟩
  ·have hlt:k<ls.length:=by omega
   rw[getD_at hlt]at he;rw[ype ls u k hlt he hno]
  ·have hlt:k<ls.length:=by omega
   rw[getD_at hlt]at he;refine yj (k+1) ⟨by omega,yqm ls u k hlt he hno⟩ (by omega) ?_
   refine yh [] [] [] ?_;simp only[allQ,live,yg,ybb,go_sem,Nat.reduceEqDiff,↓reduceIte,reduceCtorEq];simp
  ·obtain rfl:k=ls.length:=by omega
   rw[yst ls u hno]
theorem yboe{ids:List Int}{k:Nat}(h:k<ids.length):(ids.take (k+1)).foldl max 0=max ((ids.take k).foldl max 0) (ids.getD k 0):=by
 rw[ybnf ids k h,getD_at h]
theorem ybdx(p:ProgR){g:Gr}(hg:yba g):Returns Tryz.prog 103 [.ag (ymx p),grV g] (.rf (yfu p g)):=by
 refine Returns.of (ydbm _ _ ?_);have h24:=hg.2.1;have hid:=hg.2.2.1;obtain⟨n,hn⟩:∃ n,g.ports.length=n:=⟨_,rfl⟩;rw[hn]at h24 hid;simp only[c103,ycwr,ycsk,yckr,grV,yx,ybc,yu,ymx,splice,hn,go_sem,Nat.reduceEqDiff,Nat.reduceAdd,Nat.reduceLeDiff,Nat.reduceLT,↓reduceIte,reduceCtorEq];refine⟨by omega,?_⟩
 refine ybd (σ:=Nat) (fun k=>⟨[(21,.i .i64 k),(19,yx g.ports),(20,.i .i64 n),(3,.pt (3,0) 0 0),(5,.pt (17,0) 0 0)],
   [(3,.one (some ⟨28,true,2,1,fun _=>[yu g.ids,yx g.ports]⟩)),(17,.one (some ⟨171,true,7,1,fun _=>[.a (.string p.name),ydf p.vars,ycq p.rules,yu g.ids,yx g.ports,.i .i64 ((g.ids.take k).foldl max 0),.os (15,0) 0 n true]⟩)),
    (15,.one (some ⟨22,false,1,n,fun i=>[if i<k then yu (yka g i)else .a (.slice none 0 0)]⟩))]⟩) (fun k=>k<=n) (fun k=>n - k) 0 (Nat.zero_le _) ?_ ?_
 ·refine yh [] [] [] ?_;simp only[yx,ybc,yu,hn,allQ,live,yg,ybb,Int.natCast_zero,go_sem,Nat.reduceEqDiff,↓reduceIte,reduceCtorEq];refine⟨fun i _=>by simp,fun i _=>?_⟩
  rw[if_neg (by omega)]
  simp only[yg,go_sem]
 ·intro k hk;simp only[yciq,yctn,ycui,yckw,yx,ybc,yu,splice,hn,go_sem,Nat.reduceEqDiff,Nat.reduceAdd,Nat.reduceLeDiff,↓reduceIte,reduceCtorEq];refine⟨fun hlt=>⟨by omega,by omega,by decide,?_⟩,fun hlt=>?_⟩
  ·have hk':k<n:=by omega
   obtain⟨ls,hls⟩:∃ ls,g.ports.getD k []=ls:=⟨_,rfl⟩;have hdeg:=hg.deg_lt (v:=k);rw[hls]at hdeg;rw[hls]
   have hback:∀ j,j<ls.length->(yka g k).getD j 0=ygw (g.ports.getD (ls.getD j (0,0)).1.toNat []) k:=fun j hj=>by
    unfold yka;rw[hls];simp[List.getD,hj]
   have hbl:(yka g k).length=ls.length:=by unfold yka;rw[hls,List.length_map]
   refine ybd (σ:=Nat) (fun j=>⟨[(41,.i .i64 j),(39,ybc ls),(40,.i .i64 ls.length),(6,.i .i64 k),(21,.i .i64 k),(19,yx g.ports),(20,.i .i64 n),(3,.pt (3,0) 0 0),(5,.pt (17,0) 0 0)],
    [(3,.one (some ⟨28,true,2,1,fun _=>[yu g.ids,yx g.ports]⟩)),(17,.one (some ⟨171,true,7,1,fun _=>[.a (.string p.name),ydf p.vars,ycq p.rules,yu g.ids,yx g.ports,.i .i64 ((g.ids.take (k+1)).foldl max 0),.os (15,0) 0 n true]⟩)),
     (15,.one (some ⟨22,false,1,n,fun i=>[if i<k then yu (yka g i)else if i=k then .os (100,0) 0 j true else .a (.slice none 0 0)]⟩)),
     (100,.one (some ⟨3,false,1,j,fun q=>[.i .i64 ((yka g k).getD q 0)]⟩))]⟩) (fun j=>j<=ls.length) (fun j=>ls.length - j) 0 (Nat.zero_le _) ?_ ?_
   ·refine yh [] [100] [] ?_;simp only[yx,ybc,yu,hn,yboe (show k<g.ids.length by omega),allQ,live,yg,Int.natCast_zero,go_sem,Nat.reduceEqDiff,Nat.reduceBEq,↓reduceIte,reduceCtorEq]
    intro i hi
    by_cases q1:i<k
    ·simp only[if_pos q1];simp only[yg,go_sem,reduceCtorEq]
    ·by_cases q2:i=k
     ·simp only[if_neg q1,if_pos q2];simp only[live,go_sem,Nat.reduceEqDiff,↓reduceIte];simp
     ·simp only[if_neg q1,if_neg q2];simp only[yg,go_sem,reduceCtorEq]
   ·intro j hj;simp only[ycoh,yclg,ycke,ycbb,ybxf,yx,ybc,yu,splice,hn,go_sem,Nat.reduceEqDiff,Nat.reduceAdd,Nat.reduceLeDiff,Nat.reduceLT,↓reduceIte,reduceCtorEq]
    have hP:=fun hlt:j<ls.length=>yboj g (ls.getD j (0,0)).1.toNat (by
     have:=hg.ybo (v:=k) (p:=j) (by omega) (by rw[hls];omega)
     unfold ybo at this;rw[hls]at this;omega) (k:Int) (by have:=hg.deg_lt (v:=(ls.getD j (0,0)).1.toNat);omega)
    have hto:j<ls.length->((ls.getD j (0,0)).1.toNat:Int)=(ls.getD j (0,0)).1:=fun hlt=>by
     have:=hg.ybo (v:=k) (p:=j) (by omega) (by rw[hls];omega)
     unfold ybo at this;rw[hls]at this;omega
    refine⟨fun hlt=>⟨by omega,by omega,by omega,?_⟩,fun hlt=>?_⟩
    ·have hj':j<ls.length:=by omega
     have hP:=hP hj';rw[hto hj']at hP;simp only[grV,yx,ybc,yu,hn]at hP;refine hP.use ?_;simp only[thenO,splice,go_sem,Nat.reduceEqDiff,Nat.reduceAdd,Nat.reduceLeDiff,Nat.reduceLT,↓reduceIte,reduceCtorEq];refine⟨by decide,by omega,by decide,by omega,by omega,by decide,ikw (by omega) (by omega),?_⟩
     refine yj (j+1) (by omega) (by omega) ?_
     refine yh [(100,fun _=>(63,0))] [] [] ?_;simp only[allQ,live,yg,ybb,go_sem,Nat.reduceEqDiff,↓reduceIte,reduceCtorEq];refine⟨by omega,fun i hi=>?_,fun i hi=>?_⟩
     ·by_cases q2:i=k
      ·simp only[if_pos q2,if_neg (show ¬ i<k by omega)]
       simp only[live,yg,go_sem,Nat.reduceEqDiff,↓reduceIte,reduceCtorEq]
      ·simp only[if_neg q2]
       by_cases q1:i<k
       ·simp only[if_pos q1];simp only[live,yg,go_sem,reduceCtorEq]
       ·simp only[if_neg q1];simp only[live,yg,go_sem,reduceCtorEq]
     ·by_cases q2:i<j
      ·simp only[if_pos q2];simp only[live,yg,go_sem,reduceCtorEq]
      ·obtain rfl:i=j:=by omega
       simp only[if_neg q2,Nat.sub_self,Nat.zero_mul];simp only[live,ybb,go_sem,reduceCtorEq];rw[hback i hj']
    ·obtain rfl:j=ls.length:=by omega
     refine⟨ikw (by omega) (by omega),?_⟩
     refine yj (k+1) (by omega) (by omega) ?_
     refine yh [] [] [(100,0)] ?_;simp only[allQ,live,yg,ybb,go_sem,Nat.reduceEqDiff,Nat.reduceLeDiff,↓reduceIte,reduceCtorEq];refine⟨by omega,fun i hi=>?_⟩
     by_cases q1:i<k
     ·simp only[if_pos q1,if_pos (show i<k+1 by omega)]
      simp only[yg,go_sem]
     ·by_cases q2:i=k
      ·simp only[if_neg q1,if_pos q2,if_pos (show i<k+1 by omega)]
       subst q2;simp only[hbl,yg,go_sem,Nat.reduceEqDiff,↓reduceIte]
      ·simp only[if_neg q1,if_neg q2,if_neg (show ¬ i<k+1 by omega)]
       simp only[yg,go_sem]
  ·obtain rfl:k=n:=by omega
   simp only[ybur,go_sem,Nat.reduceEqDiff,Nat.reduceAdd,Nat.reduceLeDiff,↓reduceIte,reduceCtorEq];refine⟨fun q hq=>by simp only[if_pos hq];simp only[go_sem],?_⟩
   refine ydqs ?_ (by simp only[yfu,go_sem])
   simp only[SimL,yfu,yu,yx,ybc,yds,hn,yg,true_and,and_true];refine⟨?_,?_⟩
   ·rw[ybb];refine⟨rfl,?_⟩;unfold yjo;rw[List.take_of_length_le (by omega)]
   ·refine yge fun q hq=>?_;simp only[if_pos hq];simp only[SimL,yg,go_sem]
end Sh
end Go.Proofs.YtpngeppkgoaimaaGreatDoor

namespace Go.Proofs.YtpngeppkgoaimaaGreatDoor

def yfh(f:Nat->Bool):Nat->Nat
 | 0=>0
 | n+1=>if f n then yfh f n ||| 2 ^ n else yfh f n
theorem yei(f:Nat->Bool):∀ (n i:Nat),(yfh f n).testBit i=(decide (i<n) && f i)
 | 0,i=>by simp[yfh]
 | n+1,i=>by
  unfold yfh;have ih:=yei f n i
  by_cases h:f n=true
  ·rw[if_pos h,Nat.testBit_or,ih,Nat.testBit_two_pow]
   by_cases e:n=i
   ·subst e;simp[h]
   ·have:(i<n+1)=(i<n):=propext (by omega)
    simp[e,this]
  ·rw[if_neg h,ih]
   by_cases e:n=i
   ·subst e;simp[h]
   ·have:(i<n+1)=(i<n):=propext (by omega)
    simp[this]
theorem yru(f:Nat->Bool)(n:Nat):yfh f n<2 ^ n:=by
 refine Nat.lt_pow_two_of_testBit _ fun i hi=>?_;rw[yei];simp;omega
def difB(a b:Nat):Nat:=a ^^^ (a &&& b)
theorem ykz(a b i:Nat):(difB a b).testBit i=(a.testBit i && !(b.testBit i)):=by
 unfold difB;rw[Nat.testBit_xor,Nat.testBit_and];cases a.testBit i<;>cases b.testBit i<;>rfl
theorem ydd(a:Nat):a=0 ↔ ∀ i,a.testBit i=false:=by
 constructor
 ·rintro rfl i;simp
 ·intro h;exact Nat.eq_of_testBit_eq fun i=>by rw[h i];simp
theorem yclj{a b n:Nat}(h:a<2 ^ n):a &&& b<2 ^ n:=by
 have:=Nat.and_le_left (n:=a) (m:=b);omega
theorem ybfk{a b n:Nat}(h:a<2 ^ n):difB a b<2 ^ n:=by
 refine Nat.lt_pow_two_of_testBit _ fun i hi=>?_;rw[ykz,Nat.testBit_lt_two_pow (Nat.lt_of_lt_of_le h (Nat.pow_le_pow_right (by omega) hi))]
 rfl
structure Cnt where
 steps:Nat
 moves:Nat
 rounds:Nat
 begun:Nat
 pend:Nat
def ygn(s:Nat):Nat->Nat
 | 0=>0
 | n+1=>ygn s n+(s.testBit n).toNat
def popP(s:Nat):Nat:=ygn s 32
def ydu(e:Nat):Cnt:=⟨0,0,0,0,e⟩
def addP(k:Cnt)(chosen after:Nat):Cnt :=
 let p:=difB k.pend chosen &&& after
 ⟨k.steps+1,k.moves+popP chosen,if p=0 then k.rounds+1 else k.rounds,k.rounds+1,if p=0 then after else p⟩
def Cnt.ok(k:Cnt):Prop:=k.rounds<=k.begun/\k.begun<=k.rounds+1/\k.begun<=k.steps/\k.steps<=k.moves/\k.moves<=24 * k.steps/\k.pend<2 ^ 24
theorem ykl(s:Nat):∀ n,ygn s n<=n
 | 0=>Nat.le_refl _
 | n+1=>by
  have:=ykl s n;unfold ygn;cases s.testBit n<;>simp[Bool.toNat]<;>omega
theorem yxa(s:Nat)(h:s<2 ^ 24):∀ k,ygn s (24+k)=ygn s 24
 | 0=>rfl
 | k+1=>by
  have e:s.testBit (24+k)=false:=Nat.testBit_lt_two_pow (Nat.lt_of_lt_of_le h (Nat.pow_le_pow_right (by omega) (by omega)))
  show ygn s (24+k)+(s.testBit (24+k)).toNat=_;rw[yxa s h k,e];rfl
theorem ybyg(s:Nat)(h:s<2 ^ 24):popP s<=24:=by
 have:=yxa s h 8;unfold popP;rw[this];exact ykl s 24
theorem ybam{s i:Nat}(hs:s.testBit i=true):∀ n,i<n->1<=ygn s n
 | 0,h=>by omega
 | n+1,h=>by
  unfold ygn
  by_cases e:i=n
  ·subst e;rw[hs];simp
  ·have:=ybam hs n (by omega);omega
theorem ycgy(s:Nat)(h:s<2 ^ 32)(h0:s ≠ 0):1<=popP s:=by
 refine Classical.byContradiction fun hc=>h0 ?_;rw[ydd];intro i;cases hb:s.testBit i with
 | false=>rfl
 | true =>
  exfalso
  have hi:i<32:=by
   refine Classical.byContradiction fun hi=>?_;rw[Nat.testBit_lt_two_pow (Nat.lt_of_lt_of_le h (Nat.pow_le_pow_right (by omega) (by omega)))]at hb
   cases hb
  exact hc (ybam hb 32 hi)
theorem ybsr{e:Nat}(h:e<2 ^ 24):(ydu e).ok:=⟨Nat.le_refl _,by simp[ydu],Nat.le_refl _,Nat.le_refl _,by simp[ydu],h⟩
theorem yddz{k:Cnt}{s e:Nat}(hk:k.ok)(hs:s<2 ^ 24)(h0:s ≠ 0)(he:e<2 ^ 24):(addP k s e).ok:=by
 obtain⟨h1,h2,h3,h4,h5,h6⟩:=hk;have p1:=ybyg s hs;have p2:=ycgy s (by omega) h0
 have hp:difB k.pend s &&& e<2 ^ 24:=yclj (ybfk h6);unfold addP Cnt.ok;simp only;refine⟨by split<;>omega,by split<;>omega,by omega,by omega,by omega,by split<;>omega⟩

structure Sys where
 n:Nat
 en:Conf->Nat
 mv:Conf->Nat->Conf
def Sys.run(S:Sys)(res:Nat->Nat->Nat):List Nat->Conf->Cnt->List (Conf × Cnt)
 | [],_,_=>[]
 | w :: ws,c,k=>if S.en c=0 then[]else(let s:=res (S.en c) w
  let d:=S.mv c s
  (d,addP k s (S.en d)) :: S.run res ws d (addP k s (S.en d)))
def Sys.runs(S:Sys)(res:Nat->Nat->Nat)(ws:List Nat)(c:Conf):List (Conf × Cnt):=(c,ydu (S.en c)) :: S.run res ws c (ydu (S.en c))
def subB(a b:Nat):Prop:=∀ i,a.testBit i=true->b.testBit i=true
def ybcf(res:Nat->Nat->Nat):Prop:=∀ e w,e ≠ 0->res e w ≠ 0/\subB (res e w) e
theorem Sys.run_all{S:Sys}{res:Nat->Nat->Nat}(hr:ybcf res){J:Conf->Cnt->Prop}(hstep:∀ c k s,J c k->s ≠ 0->subB s (S.en c)->J (S.mv c s) (addP k s (S.en (S.mv c s)))) :
  ∀ (ws:List Nat) (c:Conf) (k:Cnt),J c k -> ∀ p ∈ S.run res ws c k,J p.1 p.2
 | [],_,_,_,p,hp=>by cases hp
 | w :: ws,c,k,hJ,p,hp=>by
  unfold Sys.run at hp;split at hp
  ·cases hp
  ·rename_i h0
   obtain⟨r1,r2⟩:=hr _ w h0;have hJ':=hstep c k _ hJ r1 r2;rcases List.mem_cons.1 hp with e | e
   ·rw[e];exact hJ'
   ·exact Sys.run_all hr hstep ws _ _ hJ' p e
theorem Sys.runs_all{S:Sys}{res:Nat->Nat->Nat}(hr:ybcf res){J:Conf->Cnt->Prop}(hstep:∀ c k s,J c k->s ≠ 0->subB s (S.en c)->J (S.mv c s) (addP k s (S.en (S.mv c s)))){ws:List Nat}{c:Conf}(h:J c (ydu (S.en c))):∀ p ∈ S.runs res ws c,J p.1 p.2:=fun p hp=>by
 rcases List.mem_cons.1 hp with e | e
 ·rw[e];exact h
 ·exact Sys.run_all hr hstep ws _ _ h p e

structure ByRounds(S:Sys)(V:Conf->Prop)(P:Nat->Nat->List Int->Prop):Prop where
 valid:∀ c s,V c->s ≠ 0->subB s (S.en c)->V (S.mv c s)
 stay:∀ c s v,V c->v<S.n->s.testBit v=false->(S.mv c s).getD v []=c.getD v []
 move:∀ c s v r,V c->v<S.n->s.testBit v=true->subB s (S.en c)->(∀ u,u<S.n->P r u (c.getD u []))->P (r+1) v ((S.mv c s).getD v [])
 rest:∀ c v r,V c->v<S.n->(S.en c).testBit v=false->(∀ u,u<S.n->P r u (c.getD u []))->P (r+1) v (c.getD v [])
 less:∀ r v s,P (r+1) v s->P r v s
structure RInv(S:Sys)(V:Conf->Prop)(P:Nat->Nat->List Int->Prop)(c:Conf)(k:Cnt):Prop where
 valid:V c
 all:∀ v,v<S.n->P k.rounds v (c.getD v [])
 done:∀ v,v<S.n->k.pend.testBit v=false->P (k.rounds+1) v (c.getD v [])
 begun:k.begun<=k.rounds+1
theorem ByRounds.start{S:Sys}{V:Conf->Prop}{P:Nat->Nat->List Int->Prop}(h:ByRounds S V P){c:Conf}(hv:V c)(h0:∀ v,v<S.n->P 0 v (c.getD v [])):RInv S V P c (ydu (S.en c)) :=
 ⟨hv,h0,fun v hn hb=>h.rest c v 0 hv hn hb h0,by simp[ydu]⟩
theorem ByRounds.step{S:Sys}{V:Conf->Prop}{P:Nat->Nat->List Int->Prop}(h:ByRounds S V P)(c:Conf)(k:Cnt)(s:Nat)(hi:RInv S V P c k)(h0:s ≠ 0)(hs:subB s (S.en c)):RInv S V P (S.mv c s) (addP k s (S.en (S.mv c s))):=by
 obtain⟨i1,i2,i3,i4⟩:=hi;have hv:=h.valid c s i1 h0 hs
 have hall:∀ v,v<S.n->P k.rounds v ((S.mv c s).getD v []):=fun v hn=>by
  cases hb:s.testBit v with
  | true=>exact h.less _ _ _ (h.move c s v _ i1 hn hb hs i2)
  | false=>rw[h.stay c s v i1 hn hb];exact i2 v hn
 have hnext:∀ v,v<S.n->(difB k.pend s &&& S.en (S.mv c s)).testBit v=false->P (k.rounds+1) v ((S.mv c s).getD v []):=fun v hn hb=>by
  rw[Nat.testBit_and,ykz]at hb;cases hb1:s.testBit v with
  | true=>exact h.move c s v _ i1 hn hb1 hs i2
  | false =>
   cases hb2:k.pend.testBit v with
   | false=>rw[h.stay c s v i1 hn hb1];exact i3 v hn hb2
   | true =>
    rw[hb1,hb2]at hb;exact h.rest _ v _ hv hn (by simpa using hb) hall
 unfold addP;simp only
 by_cases hp:difB k.pend s &&& S.en (S.mv c s)=0
 ·simp only[if_pos hp];have hall':∀ v,v<S.n->P (k.rounds+1) v ((S.mv c s).getD v []):=fun v hn=>hnext v hn (by rw[hp];simp)
  exact⟨hv,hall',fun v hn hb=>h.rest _ v _ hv hn hb hall',by show k.rounds+1<=_;simp⟩
 ·simp only[if_neg hp];exact⟨hv,hall,hnext,Nat.le_refl _⟩
theorem ByRounds.runs{S:Sys}{V:Conf->Prop}{P:Nat->Nat->List Int->Prop}(h:ByRounds S V P){res:Nat->Nat->Nat}(hr:ybcf res){ws:List Nat}{c:Conf}(hv:V c)(h0:∀ v,v<S.n->P 0 v (c.getD v [])):∀ p ∈ S.runs res ws c,RInv S V P p.1 p.2 :=
 Sys.runs_all hr h.step (h.start hv h0)
end Go.Proofs.YtpngeppkgoaimaaGreatDoor

namespace Go.Proofs.YtpngeppkgoaimaaGreatDoor

structure RuleT where
 name:ByteArray
 guard:Ex
 sets:List (Int × Ex)
structure ProgT where
 name:ByteArray
 vars:List VarR
 rules:List RuleT
instance:Inhabited Ex:=⟨.leaf 0 0⟩
instance:Inhabited RuleT:=⟨⟨.empty,default,[]⟩⟩
def RuleT.raw(r:RuleT):RuleR:=⟨r.name,r.guard.ser,r.sets.map fun s=>⟨s.1,s.2.ser⟩⟩
def ProgT.raw(p:ProgT):ProgR:=⟨p.name,p.vars,p.rules.map RuleT.raw⟩
def RuleT.ok(nv:Nat)(r:RuleT):Bool:=r.guard.ok nv false && decide (r.guard.ser.length<=1000) && decide (r.sets.length<=100) && r.sets.all fun s=>decide (0<=s.1/\s.1<nv) && s.2.ok nv false && decide (s.2.ser.length<=1000)
def VarR.ok(x:VarR):Bool:=decide (x.kind=1\/x.kind=2\/x.kind=3) && decide (0<=x.lo/\x.lo<=4096) && decide (-4096<=x.hi/\x.hi<=4096) && decide (0<=x.perNode/\x.perNode<=255) && decide (0<=x.perID/\x.perID<=255)
def ProgT.ok(p:ProgT):Bool:=decide (1<=p.vars.length/\p.vars.length<=6) && p.vars.all VarR.ok && decide (p.rules.length<=12) && p.rules.all (RuleT.ok p.vars.length)

def yji(g:Gr)(c:Conf)(v:Nat)(r:RuleT):Bool:=ybm g c v r.guard (-1) != 0
def ygf(p:ProgT)(g:Gr)(c:Conf)(v:Nat):Int:=match p.rules.findIdx? (yji g c v)with | some i=>i | none=>-1
def ybf(g:Gr)(v:Nat)(x:VarR):Int × Int :=
 if x.kind=1 then(x.lo,x.hi+x.perNode * (g.ids.length:Int)+x.perID * maxI g.ids)else if x.kind=2 then(0,1)else if x.kind=3 then(-1,((g.ports.getD v []).length:Int) - 1)else(0,-1)
def ydz(kind:Int)(b:Int × Int)(x:Int):Int:=if x >= b.1/\x<=b.2 then x else if kind=3 then -1 else if x<b.1 then b.1 else b.2
def ymd(p:ProgT)(g:Gr)(c:Conf)(v:Nat)(s0:List Int)(sets:List (Int × Ex)):List Int :=
 sets.foldl (fun s a=>s.set a.1.toNat (ydz (p.vars.getD a.1.toNat default).kind (ybf g v (p.vars.getD a.1.toNat default)) (ybm g c v a.2 (-1)))) s0
def yuz(p:ProgT)(g:Gr)(c:Conf)(v:Nat)(r:Nat):List Int:=ymd p g c v (c.getD v []) (p.rules.getD r default).sets
def ybn(p:ProgT)(g:Gr)(c:Conf):Nat:=yfh (fun v=>decide (ygf p g c v >= 0)) g.ids.length
def ylb(p:ProgT)(g:Gr)(c:Conf)(s:Nat):Conf:=c.zipIdx.map fun q=>if s.testBit q.2 then yuz p g c q.2 (ygf p g c q.2).toNat else q.1
def ybk(p:ProgT)(g:Gr):Sys:=⟨g.ids.length,ybn p g,ylb p g⟩
def ych(p:ProgT)(g:Gr)(c:Conf):Bool:=ynx g.ids.length (fun v=>p.vars.map (ybf g v)) c
end Go.Proofs.YtpngeppkgoaimaaGreatDoor

namespace Go.Proofs.YtpngeppkgoaimaaGreatDoor
namespace Sh
open Go Ev
set_option maxRecDepth 8000

theorem ydcp{g:Gr}(hg:yba g):0<=maxI g.ids/\maxI g.ids<=255:=by
 have h1:=hg.1;have h2:=hg.2.2.1;rw[yro (by omega) fun x hx=>(hg.2.2.2.1 x hx).1]
 exact yda hg
theorem ybff{x:VarR}(h:x.ok=true):(x.kind=1\/x.kind=2\/x.kind=3)/\(0<=x.lo/\x.lo<=4096)/\(-4096<=x.hi/\x.hi<=4096)/\(0<=x.perNode/\x.perNode<=255)/\(0<=x.perID/\x.perID<=255):=by
 unfold VarR.ok at h;simp only[Bool.and_eq_true,decide_eq_true_eq]at h;obtain⟨⟨⟨⟨a,b⟩,c⟩,d⟩,e⟩:=h;exact⟨a,b,c,d,e⟩
theorem mulN{a b A B:Int}(h1:0<=a)(h2:a<=A)(h3:0<=b)(h4:b<=B):0<=a * b/\a * b<=A * B:=⟨Int.mul_nonneg h1 h3,Int.mul_le_mul h2 h4 h3 (by omega)⟩
theorem ynm{g:Gr}(hg:yba g){x:VarR}(hx:x.ok=true):(0<=x.perNode * (g.ids.length:Int)/\x.perNode * (g.ids.length:Int)<=255 * 24)/\(0<=x.perID * maxI g.ids/\x.perID * maxI g.ids<=255 * 255):=by
 obtain⟨_,_,_,h4,h5⟩:=ybff hx;have h6:=ydcp hg;have h7:=hg.2.1;have h8:=hg.2.2.1;exact⟨mulN h4.1 h4.2 (by omega) (by omega),mulN h5.1 h5.2 h6.1 h6.2⟩
theorem ybhb{g:Gr}(hg:yba g){x:VarR}(hx:x.ok=true)(v:Int):Returns Tryz.prog 171 [.ag (varC x),grV g,.i .i64 v] (.tp [.i .i64 x.lo,.i .i64 (x.hi+x.perNode * (g.ids.length:Int)+x.perID * maxI g.ids)]):=by
 refine Returns.of (ydcj _ _ ?_);have h1:=hg.1;have h7:=hg.2.1;have h8:=hg.2.2.1;have hM:=ybgr g.ids (by omega) (by omega)
 obtain⟨hb1,hb2⟩:=ynm hg hx;obtain⟨_,_,hv3,_,_⟩:=ybff hx;simp only[yu]at hM;simp only[c171,ycuo,yctg,grV,varC,yu,go_sem,Nat.reduceEqDiff,Nat.reduceAdd,Nat.reduceLeDiff,Nat.reduceLT,↓reduceIte,reduceCtorEq];refine⟨ikw (by omega) (by omega),ikw (by omega) (by omega),hM.use ?_⟩
 simp only[thenO,go_sem,Nat.reduceEqDiff,Nat.reduceAdd,↓reduceIte,reduceCtorEq];refine⟨ikw (by omega) (by omega),ikw (by omega) (by omega),?_⟩
 exact Sim.refl _
theorem ybhd(g:Gr)(x:VarR)(v:Int):Returns Tryz.prog 172 [.ag (varC x),grV g,.i .i64 v] (.tp [.i .i64 0,.i .i64 1]):=by
 refine Returns.of (ycxv _ _ ?_);simp only[c172,ycxl,ycpo,grV,varC,go_sem,Nat.reduceEqDiff,Nat.reduceAdd,Nat.reduceLT,↓reduceIte,reduceCtorEq];exact Sim.refl _
theorem ybha{g:Gr}(hg:yba g)(x:VarR){v:Nat}(hv:v<g.ports.length):Returns Tryz.prog 173 [.ag (varC x),grV g,.i .i64 v] (.tp [.i .i64 (-1),.i .i64 (((g.ports.getD v []).length:Int) - 1)]):=by
 refine Returns.of (yczy _ _ ?_);have hd:=hg.deg_lt (v:=v);simp only[c173,yciz,ycmi,grV,yx,ybc,varC,go_sem,Nat.reduceEqDiff,Nat.reduceAdd,Nat.reduceLT,↓reduceIte,reduceCtorEq];refine⟨by omega,ikw (by omega) (by omega),?_⟩
 exact Sim.refl _
theorem ybum(kind:Int)(b:Int × Int)(x:Int):Returns Tryz.prog 195 [.i .i64 kind,.ag [.i .i64 b.1,.i .i64 b.2],.i .i64 x] (.i .i64 (ydz kind b x)):=by
 refine Returns.of (yczo _ _ ?_);simp only[c195,ycoo,yckf,ycoj,ycrr,ycls,ycit,ycwe,ycxk,ybb,ydz,go_sem,Int.reduceToNat,Nat.reduceEqDiff,Nat.reduceAdd,Nat.reduceLeDiff,Nat.reduceLT,Nat.reduceMul,↓reduceIte,reduceCtorEq];refine⟨by omega,fun h1=>⟨by omega,fun h2=>by rw[if_pos ⟨h1,h2⟩],fun h2=>⟨fun h3=>by rw[if_neg (fun q=>h2 q.2),if_pos h3],fun h3=>⟨by omega,fun h4=>⟨by omega,by rw[if_neg (fun q=>h2 q.2),if_neg h3,if_pos h4]⟩,fun h4=>⟨by omega,by rw[if_neg (fun q=>h2 q.2),if_neg h3,if_neg h4]⟩⟩⟩⟩,fun h1=>⟨fun h3=>by rw[if_neg (fun q=>h1 q.1),if_pos h3],fun h3=>⟨by omega,fun h4=>⟨by omega,by rw[if_neg (fun q=>h1 q.1),if_neg h3,if_pos h4]⟩,fun h4=>⟨by omega,by rw[if_neg (fun q=>h1 q.1),if_neg h3,if_neg h4]⟩⟩⟩⟩
theorem yvz{g:Gr}(hg:yba g){x:VarR}(hx:x.ok=true){v:Nat}(hv:v<g.ports.length):Returns Tryz.prog 143 [.ag (varC x),grV g,.i .i64 v] (.tp [.i .i64 (ybf g v x).1,.i .i64 (ybf g v x).2]):=by
 refine Returns.of (ycyc _ _ ?_);have h1:=ybhb hg hx v;have h2:=ybhd g x v;have h3:=ybha hg x hv;obtain⟨hk,_⟩:=ybff hx;simp only[varC,grV]at h1 h2 h3;simp only[c143,ycuf,ycsb,ycnc,varC,grV,splice,go_sem,Nat.reduceEqDiff,Nat.reduceAdd,Nat.reduceLeDiff,Nat.reduceLT,↓reduceIte,reduceCtorEq]
 refine ybd (σ:=Nat) (fun k=>⟨[(17,.i .i64 k),(15,.os (14,0) 0 3 true),(16,.i .i64 3),(2,.i .i64 v),(3,.pt (3,0) 0 0),(4,.pt (4,0) 0 0)],
   [(3,.one (some ⟨73,true,6,1,fun _=>varC x⟩)),(4,.one (some ⟨28,true,2,1,fun _=>[yu g.ids,yx g.ports]⟩)),
    (14,.one (some ⟨208,false,2,3,fun k=>if k=0 then[.i .i64 1,.fn 171 [] []]else if k=1 then[.i .i64 2,.fn 172 [] []]else[.i .i64 3,.fn 173 [] []]⟩))]⟩)
  (fun k=>k<=2/\(1<=k->x.kind ≠ 1)/\(2<=k->x.kind ≠ 2)) (fun k=>3 - k) 0 ⟨by omega,by omega,by omega⟩ ?_ ?_
 ·refine yh [] [] [] ?_;simp only[varC,allQ,live,yg,ybb,Int.natCast_zero,go_sem,Nat.reduceEqDiff,↓reduceIte,reduceCtorEq];refine⟨rfl,fun i hi=>?_⟩;rcases(show i=0\/i=1\/i=2 by omega)with rfl | rfl | rfl
  ·simp only[live,yg,go_sem,↓reduceIte,reduceCtorEq]
  ·simp only[if_neg (show ¬ (1:Nat)=0 by omega),live,yg,go_sem,↓reduceIte,reduceCtorEq]
  ·simp only[if_neg (show ¬ (2:Nat)=0 by omega),if_neg (show ¬ (2:Nat)=1 by omega),live,yg,go_sem,Nat.reduceEqDiff,↓reduceIte,reduceCtorEq]
 ·rintro k ⟨hk2,hk3,hk4⟩;rcases(show k=0\/k=1\/k=2 by omega)with rfl | rfl | rfl
  ·simp only[yblk,ybjs,ybky,ybkx,ybld,yblc,varC,splice,go_sem,Nat.reduceEqDiff,Nat.reduceAdd,Nat.reduceLeDiff,Nat.reduceLT,↓reduceIte,reduceCtorEq];refine⟨fun _=>⟨by omega,fun he=>h1.use ?_,fun he=>⟨ikw (by omega) (by omega),?_⟩⟩,fun h=>by omega⟩
   ·simp only[thenO,go_sem,Nat.reduceEqDiff,Nat.reduceAdd,↓reduceIte,reduceCtorEq];have e:ybf g v x=(x.lo,x.hi+x.perNode * (g.ids.length:Int)+x.perID * maxI g.ids):=by unfold ybf;rw[if_pos he.symm]
    rw[e];exact Sim.refl _
   ·refine yj 1 ⟨by omega,fun _ q=>he q.symm,by omega⟩ (by omega) ?_
    refine yh [] [] [] ?_;simp only[allQ,live,yg,ybb,Int.natCast_zero,go_sem,Nat.reduceEqDiff,↓reduceIte,reduceCtorEq];refine⟨by omega,fun i hi=>?_⟩
    rcases(show i=0\/i=1\/i=2 by omega)with rfl | rfl | rfl
    ·simp only[live,yg,go_sem,↓reduceIte,reduceCtorEq]
    ·simp only[if_neg (show ¬ (1:Nat)=0 by omega),live,yg,go_sem,↓reduceIte,reduceCtorEq]
    ·simp only[if_neg (show ¬ (2:Nat)=0 by omega),if_neg (show ¬ (2:Nat)=1 by omega),live,yg,go_sem,Nat.reduceEqDiff,↓reduceIte,reduceCtorEq]
  ·simp only[yblk,ybjs,ybky,ybkx,ybld,yblc,varC,splice,go_sem,Nat.reduceEqDiff,Nat.reduceAdd,Nat.reduceLeDiff,Nat.reduceLT,↓reduceIte,reduceCtorEq];refine⟨fun _=>⟨by omega,fun he=>h2.use ?_,fun he=>⟨ikw (by omega) (by omega),?_⟩⟩,fun h=>by omega⟩
   ·simp only[thenO,go_sem,Nat.reduceEqDiff,Nat.reduceAdd,↓reduceIte,reduceCtorEq];have e:ybf g v x=(0,1):=by unfold ybf;rw[if_neg (by omega),if_pos he.symm]
    rw[e];exact Sim.refl _
   ·refine yj 2 ⟨by omega,fun _=>by omega,fun _ q=>he q.symm⟩ (by omega) ?_
    refine yh [] [] [] ?_;simp only[allQ,live,yg,ybb,go_sem,Nat.reduceEqDiff,↓reduceIte,reduceCtorEq];refine⟨by omega,fun i hi=>?_⟩
    rcases(show i=0\/i=1\/i=2 by omega)with rfl | rfl | rfl
    ·simp only[live,yg,go_sem,↓reduceIte,reduceCtorEq]
    ·simp only[if_neg (show ¬ (1:Nat)=0 by omega),live,yg,go_sem,↓reduceIte,reduceCtorEq]
    ·simp only[if_neg (show ¬ (2:Nat)=0 by omega),if_neg (show ¬ (2:Nat)=1 by omega),live,yg,go_sem,Nat.reduceEqDiff,↓reduceIte,reduceCtorEq]
  ·simp only[yblk,ybjs,ybky,ybkx,ybld,yblc,varC,splice,go_sem,Nat.reduceEqDiff,Nat.reduceAdd,Nat.reduceLeDiff,Nat.reduceLT,↓reduceIte,reduceCtorEq];refine⟨fun _=>⟨by omega,fun he=>h3.use ?_,fun he=>by omega⟩,fun h=>by omega⟩
   simp only[thenO,go_sem,Nat.reduceEqDiff,Nat.reduceAdd,↓reduceIte,reduceCtorEq];have e:ybf g v x=(-1,((g.ports.getD v []).length:Int) - 1):=by unfold ybf;rw[if_neg (by omega),if_neg (by omega),if_pos he.symm]
   rw[e];exact Sim.refl _
def yjh(n:Nat)(vars:List VarR)(b:Nat->VarR->Int × Int):SV:=.sl 1 n (fun v=>[.sl 2 vars.length (fun i=>[.i .i64 (b v (vars.getD i default)).1,.i .i64 (b v (vars.getD i default)).2])])
def rowT(vars:List VarR)(b:VarR->Int × Int):SV:=.sl 2 vars.length (fun i=>[.i .i64 (b (vars.getD i default)).1,.i .i64 (b (vars.getD i default)).2])
theorem ybdv(p:ProgR){g:Gr}(hg:yba g)(hp:p.vars.all VarR.ok=true)(hl:p.vars.length<=6):Returns Tryz.prog 104 [.ag (ymx p),grV g] (yjh g.ids.length p.vars (ybf g)):=by
 refine Returns.of (ydfe _ _ ?_);have h24:=hg.2.1;have hid:=hg.2.2.1;obtain⟨n,hn⟩:∃ n,g.ids.length=n:=⟨_,rfl⟩;obtain⟨nv,hnv⟩:∃ k,p.vars.length=k:=⟨_,rfl⟩;rw[hn];rw[hnv]at hl;simp only[c104,yctk,ycsa,ycsn,grV,yu,ymx,hn,go_sem,Nat.reduceEqDiff,Nat.reduceAdd,Nat.reduceLeDiff,Nat.reduceLT,↓reduceIte,reduceCtorEq];refine⟨by omega,?_⟩
 refine ybd (σ:=Nat) (fun k=>⟨[(15,.i .i64 k),(14,.i .i64 n),(5,.os (12,0) 0 n true),(2,.pt (2,0) 0 0),(3,.pt (3,0) 0 0)],
   [(2,.one (some ⟨53,true,3,1,fun _=>ymx p⟩)),(3,.one (some ⟨28,true,2,1,fun _=>[yu g.ids,yx g.ports]⟩)),
    (12,.one (some ⟨172,false,1,n,fun i=>[if i<k then rowT p.vars (ybf g i)else .a (.slice none 0 0)]⟩))]⟩) (fun k=>k<=n) (fun k=>n - k) 0 (Nat.zero_le _) ?_ ?_
 ·refine yh [] [] [] ?_;simp only[ymx,yu,hn,allQ,live,yg,Int.natCast_zero,go_sem,Nat.reduceEqDiff,↓reduceIte,reduceCtorEq];intro i _;rw[if_neg (by omega)]
  simp only[yg,go_sem]
 ·intro k hk;simp only[ycjq,ycja,ycwi,ycvq,ymx,ydf,splice,hnv,go_sem,Nat.reduceEqDiff,Nat.reduceAdd,Nat.reduceLeDiff,Nat.reduceLT,↓reduceIte,reduceCtorEq];refine⟨fun hlt=>⟨by omega,by omega,by omega,?_⟩,fun hlt=>?_⟩
  ·have hk':k<n:=by omega
   let b:Nat->Int × Int:=fun i=>ybf g k (p.vars.getD i default)
   refine ybd (σ:=Nat) (fun j=>⟨[(28,.i .i64 j),(26,ydf p.vars),(27,.i .i64 nv),(6,.i .i64 k),(15,.i .i64 k),(14,.i .i64 n),(5,.os (12,0) 0 n true),(2,.pt (2,0) 0 0),(3,.pt (3,0) 0 0)],
    [(2,.one (some ⟨53,true,3,1,fun _=>ymx p⟩)),(3,.one (some ⟨28,true,2,1,fun _=>[yu g.ids,yx g.ports]⟩)),
     (12,.one (some ⟨172,false,1,n,fun i=>[if i<k then rowT p.vars (ybf g i)else if i=k then .os (23,0) 0 nv true else .a (.slice none 0 0)]⟩)),
     (23,.one (some ⟨175,false,2,nv,fun i=>[.i .i64 (if i<j then(b i).1 else 0),.i .i64 (if i<j then(b i).2 else 0)]⟩))]⟩) (fun j=>j<=nv) (fun j=>nv - j) 0 (Nat.zero_le _) ?_ ?_
   ·refine yh [] [] [] ?_;simp only[ymx,ydf,hnv,allQ,live,yg,ybb,Int.natCast_zero,go_sem,Nat.reduceEqDiff,↓reduceIte,reduceCtorEq];refine⟨fun i hi=>?_,fun i hi=>?_⟩
    ·by_cases q2:i=k
     ·simp only[if_pos q2,if_neg (show ¬ i<k by omega)]
      simp only[live,yg,go_sem,Nat.reduceEqDiff,↓reduceIte,reduceCtorEq]
     ·simp only[if_neg q2]
      by_cases q1:i<k
      ·simp only[if_pos q1];simp only[rowT,live,yg,go_sem,reduceCtorEq]
      ·simp only[if_neg q1];simp only[live,yg,go_sem,reduceCtorEq]
    ·simp only[if_neg (Nat.not_lt_zero i),and_self]
   ·intro j hj;simp only[yclz,ycqy,yctu,ybxy,ycbl,ymx,ydf,varC,splice,hnv,go_sem,Nat.reduceEqDiff,Nat.reduceAdd,Nat.reduceLT,↓reduceIte,reduceCtorEq];refine⟨fun hlt=>?_,fun hlt=>?_⟩
    ·have hj':j<nv:=by omega
     have hB:=yvz hg (x:=p.vars.getD j default) (by
      rw[getD_at (by omega)]
      exact List.all_eq_true.1 hp _ (List.getElem_mem _)) (v:=k) (by omega)
     simp only[varC,grV]at hB;refine⟨by omega,by omega,by omega,by omega,by omega,hB.use ?_⟩
     simp only[thenO,splice,go_sem,Int.reduceToNat,Nat.reduceEqDiff,Nat.reduceAdd,Nat.reduceLeDiff,Nat.reduceMul,↓reduceIte,reduceCtorEq];refine⟨by omega,by omega,by omega,by decide,by omega,by omega,by omega,by decide,ikw (by omega) (by omega),?_⟩
     refine yj (j+1) (by omega) (by omega) ?_
     refine yh [] [] [] ?_;simp only[allQ,live,yg,ybb,go_sem,Nat.reduceEqDiff,↓reduceIte,reduceCtorEq];refine⟨by omega,fun i hi=>?_,fun i hi=>?_⟩
     ·by_cases q1:i<k
      ·simp only[if_pos q1];simp only[rowT,yg,go_sem]
      ·simp only[if_neg q1]
       by_cases q2:i=k
       ·simp only[if_pos q2];simp only[live,yg,go_sem,Nat.reduceEqDiff,↓reduceIte]
       ·simp only[if_neg q2];simp only[yg,go_sem]
     ·by_cases q2:i=j
      ·subst q2;simp only[if_pos (Nat.lt_succ_self i),↓reduceIte];simp only[live,ybb,go_sem,reduceCtorEq];exact⟨rfl,rfl⟩
      ·simp only[if_neg q2]
       by_cases q1:i<j
       ·simp only[if_pos q1,if_pos (show i<j+1 by omega)]
        simp only[live,yg,go_sem,reduceCtorEq]
       ·simp only[if_neg q1,if_neg (show ¬ i<j+1 by omega)]
        simp only[live,yg,go_sem,reduceCtorEq]
    ·obtain rfl:j=nv:=by omega
     refine⟨ikw (by omega) (by omega),?_⟩
     refine yj (k+1) (by omega) (by omega) ?_
     refine yh [] [] [(23,0)] ?_;simp only[allQ,live,yg,ybb,go_sem,Nat.reduceEqDiff,Nat.reduceLeDiff,↓reduceIte,reduceCtorEq];refine⟨by omega,fun i hi=>?_⟩
     by_cases q1:i<k
     ·simp only[if_pos q1,if_pos (show i<k+1 by omega)]
      simp only[rowT,yg,go_sem]
     ·by_cases q2:i=k
      ·simp only[if_neg q1,if_pos q2,if_pos (show i<k+1 by omega)]
       subst q2;simp only[rowT,hnv,go_sem,Nat.reduceEqDiff,↓reduceIte];refine yge fun q hq=>?_;simp only[if_pos hq];simp only[SimL,go_sem];exact⟨Sim.refl _,Sim.refl _⟩
      ·simp only[if_neg q1,if_neg q2,if_neg (show ¬ i<k+1 by omega)]
       simp only[yg,go_sem]
  ·obtain rfl:k=n:=by omega
   simp only[ybqn,go_sem,Nat.reduceEqDiff,Nat.reduceAdd,↓reduceIte,reduceCtorEq];refine⟨fun q hq=>by simp only[if_pos hq];simp only[rowT,go_sem],?_⟩
   refine yge fun q hq=>?_;simp only[if_pos hq];simp only[SimL,yg,rowT,hnv,go_sem]
end Sh
end Go.Proofs.YtpngeppkgoaimaaGreatDoor

namespace Go.Proofs.YtpngeppkgoaimaaGreatDoor
namespace Sh
open Go Ev
set_option maxRecDepth 8000

theorem ybsc(bs:Bounds)(s:List Int)(hl:bs.length<=1000):Returns Tryz.prog 170 [ybc bs,yu s] (.b (ysb bs s)):=by
 refine Returns.of (ydbu _ _ ?_);simp only[c170,ycmx,yctr,ycwx,ycib,ybc,yu,sim_b,go_sem,Nat.reduceEqDiff,Nat.reduceAdd,↓reduceIte,reduceCtorEq];refine⟨fun h=>?_,fun h=>?_⟩
 ·have:¬ ysb bs s=true:=fun q=>h (by rw[((yfq bs s).1 q).1])
  simpa using this
 have hlen:s.length=bs.length:=by omega
 refine ybd (σ:=Nat) (fun k=>⟨[(14,.i .i64 k),(13,.i .i64 s.length),(12,yu s),(0,ybc bs)],[]⟩) (fun k=>k<=s.length /\ ∀ i,i<k->(bs.getD i (0,0)).1<=s.getD i 0/\s.getD i 0<=(bs.getD i (0,0)).2) (fun k=>s.length - k) 0 ⟨Nat.zero_le _,fun i h=>absurd h (Nat.not_lt_zero _)⟩ ?_ ?_
 ·refine yh [] [] [] ?_;simp only[ybc,yu,allQ,live,yg,Int.natCast_zero,go_sem,Nat.reduceEqDiff,↓reduceIte,reduceCtorEq]
 ·intro k ⟨hk,hall⟩;simp only[ycqu,ycrt,yckh,ycnu,ycvc,yckk,ybc,yu,sim_b,go_sem,Int.reduceToNat,Nat.reduceEqDiff,Nat.reduceAdd,Nat.reduceLeDiff,Nat.reduceMul,↓reduceIte,reduceCtorEq]
  have hno:k<s.length -> ¬ ((bs.getD k (0,0)).1<=s.getD k 0/\s.getD k 0<=(bs.getD k (0,0)).2)->ysb bs s=false:=fun hlt hn=>by
   have:¬ ysb bs s=true:=fun q=>hn (by
    have hb:k<bs.length:=by omega
    have:=((yfq bs s).1 q).2 k bs[k] s[k] (List.getElem?_eq_getElem hb) (List.getElem?_eq_getElem hlt);rw[getD_at hlt,getD_at hb];exact this)
   simpa using this
  refine⟨fun hlt=>⟨by omega,by omega,by omega,fun h1=>⟨by omega,by omega,fun h2=>?_,fun h2=>⟨ikw (by omega) (by omega),?_⟩⟩,fun h1=>?_⟩,fun hlt=>?_⟩
  ·rw[hno (by omega) (by omega)]
  ·refine yj (k+1) ⟨by omega,fun i hi=>?_⟩ (by omega) ?_
   ·by_cases q:i<k
    ·exact hall i q
    ·obtain rfl:i=k:=by omega
     omega
   ·refine yh [] [] [] ?_;simp only[allQ,live,yg,ybb,go_sem,Nat.reduceEqDiff,↓reduceIte,reduceCtorEq];simp
  ·rw[hno (by omega) (by omega)]
  ·obtain rfl:k=s.length:=by omega
   rw[(yfq bs s).2 ⟨hlen,fun i b x hb hx=>by
    have h1:=(List.getElem?_eq_some_iff.1 hx).1;have:=hall i h1;simp only[List.getD,hb,hx,Option.getD_some]at this;exact this⟩]
theorem ybma{n:Nat}(vars:List VarR)(hv:vars.length<=1000)(b:Nat->VarR->Int × Int)(c:Conf)(hn:n<=1000):Returns Tryz.prog 141 [yjh n vars b,ybg c] (.b (ynx n (fun v=>vars.map (b v)) c)):=by
 refine Returns.of (ycyg _ _ ?_);simp only[c141,ycwo,ycna,yctl,ycst,yjh,ybg,sim_b,go_sem,Nat.reduceEqDiff,Nat.reduceAdd,↓reduceIte,reduceCtorEq];refine⟨fun h=>?_,fun h=>?_⟩
 ·rw[yjb fun q=>h (by rw[q.1])]
 have hlen:c.length=n:=by omega
 refine ybd (σ:=Nat) (fun k=>⟨[(14,.i .i64 k),(13,.i .i64 n),(12,yjh n vars b),(1,ybg c)],[]⟩) (fun k=>k<=n /\ ∀ (i:Nat) s,i<k->c[i]? = some s->yex (vars.map (b i)) s) (fun k=>n - k) 0 ⟨Nat.zero_le _,fun i s h=>absurd h (Nat.not_lt_zero _)⟩ ?_ ?_
 ·refine yh [] [] [] ?_;simp only[yjh,ybg,allQ,live,yg,Int.natCast_zero,go_sem,Nat.reduceEqDiff,↓reduceIte,reduceCtorEq]
 ·intro k ⟨hk,hall⟩;simp only[ycqk,ycue,ycth,yclm,ycuc,ycod,yjh,ybg,yu,sim_b,go_sem,Nat.reduceEqDiff,Nat.reduceAdd,↓reduceIte,reduceCtorEq];refine⟨fun hlt=>⟨by omega,by omega,?_⟩,fun hlt=>?_⟩
  ·have hS:=ybsc (vars.map (b k)) (c.getD k []) (by simpa using hv)
   refine hS.useS ⟨?_,Sim.refl _,trivial⟩ ?_
   ·show Sim (.sl 2 vars.length _) (ybc (vars.map (b k)));unfold ybc;rw[List.length_map];refine sim_sl fun i hi=>?_;simp[List.getD,hi]
   ·simp only[thenO,sim_b,go_sem,Nat.reduceEqDiff,Nat.reduceAdd,↓reduceIte,reduceCtorEq];have hk':k<c.length:=by omega
    rw[getD_at hk'];refine⟨fun h1=>?_,fun h1=>⟨ikw (by omega) (by omega),?_⟩⟩
    ·rw[yjb fun q=>by
      have:=(yfq _ _).2 (q.2 k c[k] (List.getElem?_eq_getElem hk'));rw[this]at h1;cases h1]
    ·refine yj (k+1) ⟨by omega,fun i s hi hs=>?_⟩ (by omega) ?_
     ·by_cases q:i<k
      ·exact hall i s q hs
      ·obtain rfl:i=k:=by omega
       rw[List.getElem?_eq_getElem hk']at hs;cases hs
       exact(yfq _ _).1 h1
     ·refine yh [] [] [] ?_;simp only[allQ,live,yg,ybb,go_sem,Nat.reduceEqDiff,↓reduceIte,reduceCtorEq];simp
  ·obtain rfl:k=n:=by omega
   rw[ywz ⟨hlen,fun v s hs=>hall v s (by have:=(List.getElem?_eq_some_iff.1 hs).1;omega) hs⟩]
theorem yxe(c:Conf)(hc:∀ s ∈ c,0<s.length/\s.length<=1000)(hl:c.length<=1000):Returns Tryz.prog 92 [ybg c] (ybg c):=by
 refine Returns.of (ydtw _ _ ?_);obtain⟨n,hn⟩:∃ n,c.length=n:=⟨_,rfl⟩;rw[hn]at hl;simp only[c92,ydby,yczg,yczu,ybg,hn,go_sem,Nat.reduceEqDiff,Nat.reduceAdd,Nat.reduceLT,↓reduceIte,reduceCtorEq];refine⟨by omega,?_⟩
 refine ybd (σ:=Nat) (fun k=>⟨[(11,.i .i64 k),(10,.i .i64 n),(9,ybg c),(3,.os (8,0) 0 n true)],[(8,.one (some ⟨22,false,1,n,fun i=>[if i<k then yu (c.getD i [])else .a (.slice none 0 0)]⟩))]⟩) (fun k=>k<=n) (fun k=>n - k) 0 (Nat.zero_le _) ?_ ?_
 ·refine yh [] [] [] ?_;simp only[ybg,hn,allQ,live,yg,Int.natCast_zero,go_sem,Nat.reduceEqDiff,↓reduceIte,reduceCtorEq];intro i _;rw[if_neg (by omega)]
  simp only[yg,go_sem]
 ·intro k hk
  have hrow:k<n->0<(c.getD k []).length/\(c.getD k []).length<=1000:=fun h=>by
   have:=hc (c.getD k []) (by rw[getD_at (show k<c.length by omega)];exact List.getElem_mem _)
   exact this
  by_cases hlt:k<n
  ·have hr:=hrow (by omega)
   have hr0:¬ (c.getD k []).length=0:=by omega
   have ht:decide ((k:Int)<(n:Int))=true:=decide_eq_true (by omega)
   simp only[ybvz,ybxd,ybsl,ybpk,ybuq,ybg,yu,splice,hn,hr0,ht,go_sem,Nat.reduceEqDiff,Nat.reduceAdd,Nat.reduceLT,↓reduceIte,reduceCtorEq];refine⟨by omega,by omega,by omega,by omega,ikw (by omega) (by omega),?_⟩
   refine yj (k+1) (by omega) (by omega) ?_
   refine yh [] [] [(19,0)] ?_;simp only[allQ,live,yg,ybb,go_sem,Nat.reduceEqDiff,↓reduceIte,reduceCtorEq];refine⟨by omega,fun i hi=>?_⟩
   by_cases q2:i=k
   ·subst q2;simp only[if_pos (Nat.lt_succ_self i),↓reduceIte];simp only[live,yg,go_sem,Nat.reduceEqDiff,↓reduceIte,reduceCtorEq]
   ·simp only[if_neg q2]
    by_cases q1:i<k
    ·simp only[if_pos q1,if_pos (show i<k+1 by omega)]
     simp only[live,yg,go_sem,reduceCtorEq]
    ·simp only[if_neg q1,if_neg (show ¬ i<k+1 by omega)]
     simp only[live,yg,go_sem,reduceCtorEq]
  ·obtain rfl:k=n:=by omega
   have ht:decide ((k:Int)<(k:Int))=false:=decide_eq_false (by omega)
   simp only[ybvz,ybxd,ybsl,ybpk,ybuq,ybg,yu,hn,ht,go_sem,Nat.reduceEqDiff,Nat.reduceAdd,↓reduceIte,reduceCtorEq];refine⟨fun q hq=>by simp only[if_pos hq];simp only[go_sem],?_⟩
   refine yge fun q hq=>?_;simp only[if_pos hq];simp only[SimL,yg,go_sem]
theorem ycej(c:Conf)(hc:∀ s ∈ c,0<s.length/\s.length<=1000)(hl:c.length<=1000):Cm Tryz.prog 92 [] [] [ybg c] fun r o=>r = .os (8,0) 0 c.length true/\o = [(8,.one (some ⟨22,false,1,c.length,fun i=>[yu (c.getD i [])]⟩))]:=by
 refine ydaq [] [] _ _ _ ?_;obtain⟨n,hn⟩:∃ n,c.length=n:=⟨_,rfl⟩;rw[hn]at hl ⊢;simp only[c92,ydby,yczg,yczu,ybg,hn,go_sem,Nat.reduceEqDiff,Nat.reduceAdd,Nat.reduceLT,↓reduceIte,reduceCtorEq];refine⟨by omega,?_⟩
 refine ybd (σ:=Nat) (fun k=>⟨[(11,.i .i64 k),(10,.i .i64 n),(9,ybg c),(3,.os (8,0) 0 n true)],[(8,.one (some ⟨22,false,1,n,fun i=>[if i<k then yu (c.getD i [])else .a (.slice none 0 0)]⟩))]⟩) (fun k=>k<=n) (fun k=>n - k) 0 (Nat.zero_le _) ?_ ?_
 ·refine yh [] [] [] ?_;simp only[ybg,hn,allQ,live,yg,Int.natCast_zero,go_sem,Nat.reduceEqDiff,↓reduceIte,reduceCtorEq];intro i _;rw[if_neg (by omega)]
  simp only[yg,go_sem]
 ·intro k hk
  have hrow:k<n->0<(c.getD k []).length/\(c.getD k []).length<=1000:=fun h=>by
   have:=hc (c.getD k []) (by rw[getD_at (show k<c.length by omega)];exact List.getElem_mem _)
   exact this
  by_cases hlt:k<n
  ·have hr:=hrow (by omega)
   have hr0:¬ (c.getD k []).length=0:=by omega
   have ht:decide ((k:Int)<(n:Int))=true:=decide_eq_true (by omega)
   simp only[ybvz,ybxd,ybsl,ybpk,ybuq,ybg,yu,splice,hn,hr0,ht,go_sem,Nat.reduceEqDiff,Nat.reduceAdd,Nat.reduceLT,↓reduceIte,reduceCtorEq];refine⟨by omega,by omega,by omega,by omega,ikw (by omega) (by omega),?_⟩
   refine yj (k+1) (by omega) (by omega) ?_
   refine yh [] [] [(19,0)] ?_;simp only[allQ,live,yg,ybb,go_sem,Nat.reduceEqDiff,↓reduceIte,reduceCtorEq];refine⟨by omega,fun i hi=>?_⟩
   by_cases q2:i=k
   ·subst q2;simp only[if_pos (Nat.lt_succ_self i),↓reduceIte];simp only[live,yg,go_sem,Nat.reduceEqDiff,↓reduceIte,reduceCtorEq]
   ·simp only[if_neg q2]
    by_cases q1:i<k
    ·simp only[if_pos q1,if_pos (show i<k+1 by omega)]
     simp only[live,yg,go_sem,reduceCtorEq]
    ·simp only[if_neg q1,if_neg (show ¬ i<k+1 by omega)]
     simp only[live,yg,go_sem,reduceCtorEq]
  ·obtain rfl:k=n:=by omega
   have ht:decide ((k:Int)<(k:Int))=false:=decide_eq_false (by omega)
   simp only[ybvz,ybxd,ybsl,ybpk,ybuq,ybg,yu,hn,ht,ygt,go_sem,Nat.reduceEqDiff,Nat.reduceAdd,↓reduceIte,reduceCtorEq];refine⟨.os (8,0) 0 k true,[(8,.one (some ⟨22,false,1,k,fun i=>[yu (c.getD i [])]⟩))],?_,?_,rfl,rfl⟩
   ·refine yh [] [] [] ?_;simp only[yu,allQ,live,yg,go_sem,↓reduceIte,reduceCtorEq];intro i hi;simp only[if_pos hi];simp only[yg,go_sem]
   ·simp only[famCln,yga,allQ,live,go_sem,↓reduceIte]
end Sh
end Go.Proofs.YtpngeppkgoaimaaGreatDoor

namespace Go.Proofs.YtpngeppkgoaimaaGreatDoor
namespace Sh
open Go Ev
set_option maxRecDepth 8000

theorem yho(p:ProgR){g:Gr}(hg:yba g){nv:Nat}{c:Conf}(hc:ConfIn g.ports.length nv c){v:Nat}(hv:v<g.ports.length)(e:List Tm)(hl:e.length<=1000):∀ x:Ex,ybsi p g nv c v e x
 | .leaf op arg=>by
  intro bnd port at_ rest ho hp hpi he;obtain⟨d1,d2,d3⟩:=yfb (show e.drop at_=(op,arg) :: rest from he)
  have hL:=ycff p hg hc hv e ho port hp;have hr:=ho;simp only[Ex.ok,Bool.and_eq_true,decide_eq_true_eq]at hr;simp only[yiv,ybc]at hL;refine Returns.of (ytl _ _ ?_);simp only[c194,yvo,yvt,yvp,ywl,yvs,yvi,ywr,ywb,yvw,ywd,ypp,ypi,ypd,yor,yox,ypm,yow,yph,ypn,yiv,ybc,d2,splice,go_sem,Nat.reduceEqDiff,Nat.reduceAdd,Nat.reduceLeDiff,Nat.reduceLT,↓reduceIte,reduceCtorEq]
  refine⟨by omega,fun h=>hL.use ?_,fun h=>by omega⟩
  simp only[thenO,go_sem,Nat.reduceEqDiff,Nat.reduceAdd,↓reduceIte,reduceCtorEq];refine⟨ikw (by omega) (by omega),?_⟩
  exact Sim.refl _
 | .un op a=>by
  intro bnd port at_ rest ho hp hpi he;obtain⟨d1,d2,d3⟩:=yfb (show e.drop at_=(op,0) :: (a.ser ++ rest)from he)
  have hr:=ho;simp only[Ex.ok,Bool.and_eq_true,decide_eq_true_eq]at hr;have hV:=yho p hg hc hv e hl a bnd port (at_+1) rest hr.2 hp hpi d3;rw[show((at_+1:Nat):Int)=(at_:Int)+1 by omega]at hV
  have hU:=ybzi op (ybm g c v a port) (yhq hg rfl hc hv a hr.2 hp hpi);simp only[yiv,ybc]at hV;refine Returns.of (ytl _ _ ?_);simp only[c194,yvo,yvt,yvp,ywl,yvs,yvi,ywr,ywb,yvw,ywd,ypp,ypi,ypd,yor,yox,ypm,yow,yph,ypn,yiv,ybc,d2,splice,go_sem,Nat.reduceEqDiff,Nat.reduceAdd,Nat.reduceLeDiff,Nat.reduceLT,↓reduceIte,reduceCtorEq]
  refine⟨by omega,fun h=>by omega,fun h=>⟨fun h=>⟨ikw (by omega) (by omega),hV.use ?_⟩,fun h=>by omega⟩⟩
  simp only[thenO,go_sem,Nat.reduceEqDiff,Nat.reduceAdd,Nat.reduceLeDiff,↓reduceIte,reduceCtorEq];refine hU.use ?_;simp only[go_sem];rw[show at_+(Ex.un op a).ser.length=at_+1+a.ser.length by simp[Ex.ser];omega]
  exact Sim.refl _
 | .agg op a=>by
  intro bnd port at_ rest ho hp hpi he;obtain⟨d1,d2,d3⟩:=yfb (show e.drop at_=(op,0) :: (a.ser ++ rest)from he)
  have hr:=ho;simp only[Ex.ok,Bool.and_eq_true,decide_eq_true_eq]at hr;have ho2:(Ex.agg op a).ok nv true=true:=by simp only[Ex.ok,Bool.and_eq_true,decide_eq_true_eq];exact hr
  have hA:=yyq p hg hc hv e hl ho2 (yho p hg hc hv e hl a) at_ rest he;simp only[yiv,ybc]at hA;refine Returns.of (ytl _ _ ?_);simp only[c194,yvo,yvt,yvp,ywl,yvs,yvi,ywr,ywb,yvw,ywd,ypp,ypi,ypd,yor,yox,ypm,yow,yph,ypn,yiv,ybc,d2,splice,go_sem,Nat.reduceEqDiff,Nat.reduceAdd,Nat.reduceLeDiff,Nat.reduceLT,↓reduceIte,reduceCtorEq]
  refine⟨by omega,fun h=>by omega,fun h=>⟨fun h=>by omega,fun h=>⟨fun h=>hA.use ?_,fun h=>by omega⟩⟩⟩
  simp only[thenO,go_sem,Nat.reduceEqDiff,Nat.reduceAdd,↓reduceIte,reduceCtorEq];exact Sim.refl _
 | .bin op a b=>by
  intro bnd port at_ rest ho hp hpi he;obtain⟨d1,d2,d3⟩:=yfb (show e.drop at_=(op,0) :: ((a.ser ++ b.ser) ++ rest)from he)
  have hr:=ho;simp only[Ex.ok,Bool.and_eq_true,decide_eq_true_eq]at hr;rw[List.append_assoc]at d3
  have hfit:at_+1+a.ser.length<=e.length:=by
   have:=congrArg List.length d3;simp at this;omega
  have hV1:=yho p hg hc hv e hl a bnd port (at_+1) _ hr.1.2 hp hpi d3;have hV2:=yho p hg hc hv e hl b bnd port (at_+1+a.ser.length) _ hr.2 hp hpi (yrd d3);rw[show((at_+1:Nat):Int)=(at_:Int)+1 by omega]at hV1
  have hB:=ybob op (ybm g c v a port) (ybm g c v b port) (yhq hg rfl hc hv a hr.1.2 hp hpi) (yhq hg rfl hc hv b hr.2 hp hpi);simp only[yiv,ybc]at hV1 hV2;refine Returns.of (ytl _ _ ?_);simp only[c194,yvo,yvt,yvp,ywl,yvs,yvi,ywr,ywb,yvw,ywd,ypp,ypi,ypd,yor,yox,ypm,yow,yph,ypn,yiv,ybc,d2,splice,go_sem,Nat.reduceEqDiff,Nat.reduceAdd,Nat.reduceLeDiff,Nat.reduceLT,↓reduceIte,reduceCtorEq]
  refine⟨by omega,fun h=>by omega,fun h=>⟨fun h=>by omega,fun h=>⟨fun h=>by omega,fun h=>⟨fun h=>⟨ikw (by omega) (by omega),hV1.use ?_⟩,fun h=>by omega⟩⟩⟩⟩
  simp only[thenO,go_sem,Nat.reduceEqDiff,Nat.reduceAdd,↓reduceIte,reduceCtorEq];refine hV2.use ?_;simp only[go_sem,Nat.reduceEqDiff,Nat.reduceAdd,Nat.reduceLeDiff,↓reduceIte];refine hB.use ?_;simp only[go_sem];rw[show at_+(Ex.bin op a b).ser.length=at_+1+a.ser.length+b.ser.length by simp[Ex.ser];omega]
  exact Sim.refl _
 | .ite x a b=>by
  intro bnd port at_ rest ho hp hpi he;obtain⟨d1,d2,d3⟩:=yfb (show e.drop at_=(43,0) :: ((x.ser ++ (a.ser ++ b.ser)) ++ rest)from he)
  have hr:=ho;simp only[Ex.ok,Bool.and_eq_true]at hr;rw[List.append_assoc,List.append_assoc]at d3
  have hfit:at_+1+x.ser.length+a.ser.length<=e.length:=by
   have:=congrArg List.length d3;simp at this;omega
  have hV1:=yho p hg hc hv e hl x bnd port (at_+1) _ hr.1.1 hp hpi d3;have hV2:=yho p hg hc hv e hl a bnd port (at_+1+x.ser.length) _ hr.1.2 hp hpi (yrd d3);have hV3:=yho p hg hc hv e hl b bnd port (at_+1+x.ser.length+a.ser.length) _ hr.2 hp hpi (yrd (yrd d3));rw[show((at_+1:Nat):Int)=(at_:Int)+1 by omega]at hV1
  simp only[yiv,ybc]at hV1 hV2 hV3;refine Returns.of (ytl _ _ ?_);simp only[c194,yvo,yvt,yvp,ywl,yvs,yvi,ywr,ywb,yvw,ywd,ypp,ypi,ypd,yor,yox,ypm,yow,yph,ypn,yiv,ybc,d2,splice,go_sem,Nat.reduceEqDiff,Nat.reduceAdd,Nat.reduceLeDiff,Nat.reduceLT,↓reduceIte,reduceCtorEq];refine⟨by omega,fun h=>by omega,fun h=>⟨fun h=>by omega,fun h=>⟨fun h=>by omega,fun h=>⟨fun h=>by omega,fun h=>⟨ikw (by omega) (by omega),hV1.use ?_⟩⟩⟩⟩⟩
  simp only[thenO,go_sem,Nat.reduceEqDiff,Nat.reduceAdd,↓reduceIte,reduceCtorEq];refine hV2.use ?_;simp only[go_sem,Nat.reduceEqDiff,↓reduceIte,reduceCtorEq];refine hV3.use ?_;simp only[go_sem,Nat.reduceEqDiff,Nat.reduceAdd,↓reduceIte,reduceCtorEq];rw[show at_+(Ex.ite x a b).ser.length=at_+1+x.ser.length+a.ser.length+b.ser.length by simp[Ex.ser];omega]
  refine⟨fun h0=>?_,fun h0=>?_⟩
  ·show Sim _ (.tp [.i .i64 (if _ then _ else _),_])
   rw[if_pos h0];exact Sim.refl _
  ·show Sim _ (.tp [.i .i64 (if _ then _ else _),_])
   rw[if_neg (not_not_intro h0)];exact Sim.refl _
theorem ybec(p:ProgR){g:Gr}(hg:yba g){nv:Nat}{c:Conf}(hc:ConfIn g.ports.length nv c){v:Nat}(hv:v<g.ports.length)(x:Ex)(hx:x.ok nv false=true)(hl:x.ser.length<=1000) :
  Returns Tryz.prog 174 [.rf (yfu p g),ybg c,.i .i64 v,ybc x.ser] (.i .i64 (ybm g c v x (-1))):=by
 have hV:=yho p hg hc hv x.ser hl x false (-1) 0 [] hx (fun q=>by cases q) (by unfold InB;omega) (by simp)
 refine Returns.of (yddh _ _ ?_);simp only[yiv,yfu,ybg,yu,ybc,yx,yds,Int.natCast_zero]at hV;simp only[c174,ycxf,yckx,ycwy,yckb,yfu,ybg,yu,ybc,yx,yds,splice,go_sem,Nat.reduceEqDiff,Nat.reduceAdd,Nat.reduceLeDiff,Nat.reduceLT,↓reduceIte,reduceCtorEq];refine .inl (hV.use ?_);simp only[thenO,ybb,go_sem,Nat.reduceEqDiff,Nat.reduceAdd,↓reduceIte,reduceCtorEq]
end Sh
end Go.Proofs.YtpngeppkgoaimaaGreatDoor

namespace Go.Proofs.YtpngeppkgoaimaaGreatDoor
open Go

theorem yrm{a:Nat}(h:a<2 ^ 32):IntKind.wrap .u32 (a:Int)=a:=by
 unfold IntKind.wrap;simp[IntKind.bits,IntKind.signed];omega
theorem u32_and{a b:Nat}(ha:a<2 ^ 32)(hb:b<2 ^ 32):IntKind.wrap .u32 (((BitVec.ofInt (IntKind.bits .u32) (a:Int)) &&& BitVec.ofInt (IntKind.bits .u32) (b:Int)).toNat:Int)=((a &&& b:Nat):Int):=by
 show IntKind.wrap .u32 (((BitVec.ofInt 32 (a:Int)) &&& BitVec.ofInt 32 (b:Int)).toNat:Int)=_;rw[BitVec.ofInt_natCast,BitVec.ofInt_natCast,BitVec.toNat_and,BitVec.toNat_ofNat,BitVec.toNat_ofNat,Nat.mod_eq_of_lt ha,Nat.mod_eq_of_lt hb];exact yrm (Nat.lt_of_le_of_lt Nat.and_le_left ha)
theorem u32_or{a b:Nat}(ha:a<2 ^ 32)(hb:b<2 ^ 32):IntKind.wrap .u32 (((BitVec.ofInt (IntKind.bits .u32) (a:Int)) ||| BitVec.ofInt (IntKind.bits .u32) (b:Int)).toNat:Int)=((a ||| b:Nat):Int):=by
 show IntKind.wrap .u32 (((BitVec.ofInt 32 (a:Int)) ||| BitVec.ofInt 32 (b:Int)).toNat:Int)=_;rw[BitVec.ofInt_natCast,BitVec.ofInt_natCast,BitVec.toNat_or,BitVec.toNat_ofNat,BitVec.toNat_ofNat,Nat.mod_eq_of_lt ha,Nat.mod_eq_of_lt hb];exact yrm (Nat.or_lt_two_pow ha hb)
theorem u32_andNot{a b:Nat}(ha:a<2 ^ 32)(hb:b<2 ^ 32):IntKind.wrap .u32 (((BitVec.ofInt (IntKind.bits .u32) (a:Int)) &&& ~~~BitVec.ofInt (IntKind.bits .u32) (b:Int)).toNat:Int)=((difB a b:Nat):Int):=by
 show IntKind.wrap .u32 (((BitVec.ofInt 32 (a:Int)) &&& ~~~BitVec.ofInt 32 (b:Int)).toNat:Int)=_
 have e:((BitVec.ofInt 32 (a:Int)) &&& ~~~BitVec.ofInt 32 (b:Int)).toNat=difB a b:=by
  rw[BitVec.ofInt_natCast,BitVec.ofInt_natCast];refine Nat.eq_of_testBit_eq fun i=>?_;rw[ykz,BitVec.testBit_toNat,BitVec.getLsbD_and,BitVec.getLsbD_not,BitVec.getLsbD_ofNat,BitVec.getLsbD_ofNat]
  by_cases hi:i<32
  ·simp[hi]
  ·rw[Nat.testBit_lt_two_pow (Nat.lt_of_lt_of_le ha (Nat.pow_le_pow_right (by omega) (by omega)))]
   simp
 rw[e];exact yrm (ybfk ha)
theorem u32_neg{a:Nat}(h0:0<a)(ha:a<2 ^ 32):IntKind.wrap .u32 (0 - (a:Int))=((2 ^ 32 - a:Nat):Int):=by
 unfold IntKind.wrap;simp[IntKind.bits,IntKind.signed];omega
theorem ymn{v:Nat}(hv:v<32):IntKind.wrap .u32 (1 * 2 ^ (v:Int).toNat)=((2 ^ v:Nat):Int):=by
 have h:2 ^ v<2 ^ 32:=Nat.pow_lt_pow_right (by omega) hv
 have:=yrm h;rw[Int.toNat_natCast,Int.one_mul];rw[<- this]
 norm_cast
theorem ybty{a v:Nat}:(a:Int).fdiv (2 ^ (v:Int).toNat)=((a >>> v:Nat):Int):=by
 rw[Int.toNat_natCast,Nat.shiftRight_eq_div_pow];rw[Int.fdiv_eq_ediv_of_nonneg _ (Int.pow_nonneg (by omega))]
 simp
theorem ydff(a v:Nat):((a >>> v) &&& 1=1) ↔ a.testBit v=true:=by
 rw[Nat.testBit,bne_iff_ne];rw[Nat.and_comm 1 (a >>> v)];rw[Nat.and_one_is_mod];omega
theorem ybkt{s v:Nat}(hs:s<2 ^ 32):IntKind.wrap .u32 (((BitVec.ofInt (IntKind.bits .u32) ((s:Int).fdiv (2 ^ v))) &&& BitVec.ofInt (IntKind.bits .u32) 1).toNat:Int)=(((s >>> v) &&& 1:Nat):Int):=by
 have h:=ybty (a:=s) (v:=v);rw[Int.toNat_natCast]at h;rw[h];have h2:s >>> v<2 ^ 32:=by rw[Nat.shiftRight_eq_div_pow];exact Nat.lt_of_le_of_lt (Nat.div_le_self _ _) hs
 exact u32_and (a:=s >>> v) (b:=1) h2 (by decide)
theorem yry{s v:Nat}:((((s >>> v) &&& 1:Nat):Int)=1) ↔ s.testBit v=true:=by
 rw[<- ydff s v];omega
def lowB(e:Nat):Nat:=e &&& (2 ^ 32 - e)
theorem ycfo(e:Nat):subB (lowB e) e:=fun i h=>by
 unfold lowB at h;rw[Nat.testBit_and,Bool.and_eq_true]at h;exact h.1
theorem ybcu:∀ (n e:Nat),0<e->e<2 ^ n -> ∃ i q,i<n/\e=2 ^ i * (2 * q+1)
 | 0,e,h,h2=>by simp at h2;omega
 | n+1,e,h,h2=>by
  by_cases hp:e % 2=1
  ·exact⟨0,e / 2,by omega,by omega⟩
  ·obtain⟨i,q,h3,h4⟩:=ybcu n (e / 2) (by omega) (by rw[Nat.pow_succ]at h2;omega)
   exact⟨i+1,q,by omega,by rw[Nat.pow_succ,Nat.mul_assoc,Nat.mul_left_comm,<- h4];omega⟩
theorem ydft{e:Nat}(h0:e ≠ 0)(he:e<2 ^ 32):lowB e ≠ 0:=by
 obtain⟨i,q,hi,hq⟩:=ybcu 32 e (by omega) he
 have h1:e.testBit i=true:=by
  rw[hq,Nat.testBit_eq_decide_div_mod_eq,Nat.mul_div_cancel_left _ (Nat.two_pow_pos i)];simp
 have h2:(2 ^ 32 - e).testBit i=true:=by
  obtain⟨j,hj⟩:∃ j,32=i+(j+1):=⟨31 - i,by omega⟩
  have e1:2 ^ 32=2 ^ i * (2 * 2 ^ j):=by
   have:(2:Nat) ^ 32=2 ^ (i+(j+1)):=by rw[<- hj]
   rw[this,Nat.pow_add,Nat.pow_succ,Nat.mul_comm (2 ^ j) 2]
  have hlt:2 * q+1<2 * 2 ^ j:=by
   rw[e1,hq]at he;exact Nat.lt_of_mul_lt_mul_left he
  have e2:2 ^ 32 - e=2 ^ i * (2 * 2 ^ j - (2 * q+1)):=by rw[e1,hq,Nat.mul_sub]
  rw[e2,Nat.testBit_eq_decide_div_mod_eq,Nat.mul_div_cancel_left _ (Nat.two_pow_pos i)];simp;try omega
 intro hz;have:(lowB e).testBit i=true:=by unfold lowB;rw[Nat.testBit_and,h1,h2];rfl
 rw[hz]at this;simp at this
def resD(e w:Nat):Nat:=if w &&& e=0 then lowB e else w &&& e
def resS(e _w:Nat):Nat:=e
end Go.Proofs.YtpngeppkgoaimaaGreatDoor

