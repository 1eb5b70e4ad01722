/- Joined. -/
import Derived.Test.YthclbjjgfcgbgaaGreatDoorPkCh12
set_option linter.unusedSimpArgs false
set_option linter.unusedVariables false
set_option maxRecDepth 8000
open Nat renaming reduceEqDiff->zA,reduceAdd->zB,reduceLT->zC,reduceLeDiff->zD,zero_le->zM,testBit_lt_two_pow->zS,pow_le_pow_right->zT,lt_pow_two_of_testBit->zU,shiftRight_eq_div_pow->zV,lt_of_lt_of_le->zW,mod_eq_of_lt->zY,pow_lt_pow_right->zAC,lt_of_le_of_lt->zAF,testBit_and->zAK,le_refl->zAO,eq_of_testBit_eq->zAP,or_lt_two_pow->zAT,and_le_left->zAW,reduceMul->zAX,lt_irrefl->zAY
open Bool renaming and_eq_true->zF
open Go.Proofs.Tryz renaming prog->zG
open Int renaming natCast_zero->zH,toNat_natCast->zN,emod_lt_of_pos->zAG,reduceToNat->zAL,emod_nonneg->zAM
open BitVec renaming ofInt->zI,ofInt_natCast->zK,toNat_ofNat->zX,getLsbD_ofNat->zAQ
open List renaming getElem_mem->zJ,getD->zL,take_succ_eq_append_getElem->zO,getElem?_eq_getElem->zQ,getElem?_eq_none->zZ,mem_cons_of_mem->zAA,length_map->zAB,eq_nil_of_length_eq_zero->zAD,mem_cons_self->zAE,append_assoc->zAH,drop_eq_getElem_cons->zAI,range->zAJ,length->zAN,getElem_of_mem->zAR,length_append->zAS,foldl_append->zAU,take_length->zAV
open Classical renaming byContradiction->zAZ
open Go
namespace Go.Proofs.YthclbjjgfcgbgaaGreatDoor
section
def Ex.shp:Ex->Bool
 |.leaf op _=>decide (1<=op/\op<=17)
 |.un op a=>decide (18<=op/\op<=29)&&a.shp
 |.agg op a=>decide (18<=op/\op<=29)&&a.shp
 |.bin op a b=>decide (30<=op/\op<=42)&&a.shp&&b.shp
 |.ite x a b=>x.shp&&a.shp&&b.shp
theorem Ex.ok_shp{nv:Int}:∀(x:Ex) {bnd:Bool},x.ok nv bnd=true->x.shp=true
 | .leaf op arg,bnd,h=>by
   simp only[Ex.ok,zF]at h;exact h.1.1
 | .un op a,bnd,h=>by
   simp only[Ex.ok,zF,decide_eq_true_eq]at h;simp only[Ex.shp,zF,decide_eq_true_eq];exact⟨by omega,Ex.ok_shp a h.2⟩
 | .agg op a,bnd,h=>by
   simp only[Ex.ok,zF,decide_eq_true_eq]at h;simp only[Ex.shp,zF,decide_eq_true_eq];exact⟨by omega,Ex.ok_shp a h.2⟩
 | .bin op a b,bnd,h=>by
   simp only[Ex.ok,zF,decide_eq_true_eq]at h;simp only[Ex.shp,zF,decide_eq_true_eq];exact⟨⟨h.1.1,Ex.ok_shp a h.1.2⟩,Ex.ok_shp b h.2⟩
 | .ite x a b,bnd,h=>by
   simp only[Ex.ok,zF]at h;simp only[Ex.shp,zF];exact⟨⟨Ex.ok_shp x h.1.1,Ex.ok_shp a h.1.2⟩,Ex.ok_shp b h.2⟩
def ylz(op:Int):Int:=if op<1\/op>43 then -1 else if op<=17 then 0 else if op<=29 then 1 else if op<=42 then 2 else 3
def serL(ts:List Ex):List Tm:=(ts.map Ex.ser).flatten
def Ex.head:Ex->Tm
 |.leaf op arg=>(op,arg)
 |.un op _=>(op,0)
 |.agg op _=>(op,0)
 |.bin op _ _=>(op,0)
 |.ite _ _ _=>(43,0)
def Ex.subs:Ex->List Ex
 |.leaf _ _=>[]
 |.un _ a=>[a]
 |.agg _ a=>[a]
 |.bin _ a b=>[a,b]
 |.ite x a b=>[x,a,b]
theorem Ex.ser_eq(x:Ex):x.ser=x.head::serL x.subs:=by
 cases x<;>simp[Ex.ser,Ex.head,Ex.subs,serL]
theorem ycjs{op:Int}(h:1<=op/\op<=17):ylz op=0:=by
 unfold ylz;rw[if_neg (by omega),if_pos (by omega)]
theorem ybkr{op:Int}(h:18<=op/\op<=29):ylz op=1:=by
 unfold ylz;rw[if_neg (by omega),if_neg (by omega),if_pos (by omega)]
theorem ycjd{op:Int}(h:30<=op/\op<=42):ylz op=2:=by
 unfold ylz;rw[if_neg (by omega),if_neg (by omega),if_neg (by omega),if_pos (by omega)]
theorem Ex.arity(x:Ex)(h:x.shp=true):ylz x.head.1=x.subs.length:=by
 cases x with
 |leaf op arg=>simp only[Ex.shp,decide_eq_true_eq]at h;exact ycjs h
 |un op a=>simp only[Ex.shp,zF,decide_eq_true_eq]at h;exact ybkr h.1
 |agg op a=>simp only[Ex.shp,zF,decide_eq_true_eq]at h;exact ybkr h.1
 |bin op a b=>simp only[Ex.shp,zF,decide_eq_true_eq]at h;exact ycjd h.1.1
 |ite x a b=>simp[Ex.head,Ex.subs,ylz]
theorem Ex.subs_shp(x:Ex)(h:x.shp=true):∀y∈x.subs,y.shp=true:=by
 cases x with
 |leaf op arg=>intro y hy;cases hy
 |un op a=>simp only[Ex.shp,zF]at h;intro y hy;simp[Ex.subs]at hy;subst hy;exact h.2
 |agg op a=>simp only[Ex.shp,zF]at h;intro y hy;simp[Ex.subs]at hy;subst hy;exact h.2
 |bin op a b=>simp only[Ex.shp,zF]at h;intro y hy;simp[Ex.subs]at hy;rcases hy with rfl|rfl<;>first|exact h.1.2|exact h.2
 |ite x a b=>simp only[Ex.shp,zF]at h;intro y hy;simp[Ex.subs]at hy;rcases hy with rfl|rfl|rfl<;>first|exact h.1.1|exact h.1.2|exact h.2
theorem yfg{e:List Tm}{at_:Nat}{t:Tm}{r:List Tm}(h:e.drop at_=t::r):at_<e.length/\e.getD at_ (0,0)=t/\e.drop (at_+1)=r:=by
 have hlt:at_<e.length:=by
  refine zAZ fun hc=>?_;rw[List.drop_of_length_le (by omega)]at h;cases h
 refine⟨hlt,?_,?_⟩
 .rw[zAI hlt]at h;simp only[List.cons.injEq]at h;simp[zL,hlt,h.1]
 .rw[zAI hlt]at h;simp only[List.cons.injEq]at h;exact h.2
namespace Sh
open Go Ev
theorem ycad(op:Int):Returns zG 231 [.i .i64 op] (.i .i64 (ylz op)):=by
 refine Returns.of (ydfv _ _ ?_);simp only[c231,ycob,ycpk,ycsl,ycru,ycqx,ycrq,ycxz,ycxr,ydau,ycwu,yx,ylz,go_sem,zA,zB,↓reduceIte,reduceCtorEq];refine⟨fun h1=>⟨fun h=>by rw[if_pos (.inr h)],fun h2=>⟨fun h=>by rw[if_neg (by omega),if_pos h],fun h3=>⟨fun h=>by rw[if_neg (by omega),if_neg h3,if_pos h],fun h4=>⟨fun h=>by rw[if_neg (by omega),if_neg h3,if_neg h4,if_pos h],fun h5=>by rw[if_neg (by omega),if_neg h3,if_neg h4,if_neg h5]⟩⟩⟩⟩,fun h=>by rw[if_pos (.inl h)]⟩
theorem yddk(e:List Tm)(x:Ex)(at_:Nat)(rest:List Tm)(hx:x.shp=true)(he:e.drop at_=x.ser++rest)(hl:e.length<=1000):Returns zG 215 [yw e,.i .i64 at_] (.i .i64 ((at_+x.ser.length:Nat):Int)):=by
 refine Returns.of (ydcl _ _ ?_)
 have h0:at_<e.length:=by
  rw[x.ser_eq]at he;exact(yfg he).1
 simp only[c215,yday,ycpv,ycnr,ycri,yw,yx,go_sem,zA,zB,↓reduceIte,reduceCtorEq];refine⟨fun _=>⟨fun h=>by omega,fun _=>?_⟩,fun h=>by omega⟩
 refine ybd (σ:=Nat×List Ex) (fun p=>⟨[(1,.i .i64 p.1),(5,.i .i64 p.2.length),(0,yw e)],[]⟩)
  (fun p=>e.drop p.1=serL p.2++rest/\p.2≠[]/\(∀y∈p.2,y.shp=true)/\p.1+(serL p.2).length=at_+x.ser.length/\p.2.length<=3*p.1+1) (fun p=>e.length-p.1) (at_,[x]) ⟨by simpa[serL]using he,by simp,by simpa using hx,by simp[serL],by simp⟩ ?_ ?_
 .refine yh [] [] [] ?_;simp only[yw,allQ,live,yc,yx,go_sem,zA,↓reduceIte,reduceCtorEq];simp
 .rintro⟨k,ts⟩ ⟨hk,hne,hsh,hlen,hb⟩;cases ts with
  |nil=>exact absurd rfl hne
  | cons y ts =>
    dsimp only at hk hlen hb ⊢
    have hser:serL (y::ts)=y.head::(serL y.subs++serL ts):=by
     show(y.ser++serL ts)=_;rw[y.ser_eq];rfl
    rw[hser]at hk hlen;obtain⟨d1,d2,d3⟩:=yfg hk;have hy:=hsh y zAE;have har:=y.arity hy;have hsub:y.subs.length<=3:=by cases y<;>simp[Ex.subs]
    simp only[List.length_cons]at hb hlen;simp only[ycmg,ycqj,ycwz,ycso,yctf,yczp,ybtq,yceq,ybvr,yw,yx,go_sem,zA,zB,zD,↓reduceIte,reduceCtorEq];refine⟨fun hlt=>⟨by omega,(ycad _).use ?_⟩,fun hlt=>by omega⟩
    rw[d2,har];simp only[ybg,yx,go_sem,zA,zB,↓reduceIte,reduceCtorEq];refine⟨fun h=>by omega,fun _=>⟨ikw (by omega) (by omega),ikw (by simp;omega) (by simp;omega),fun h=>⟨ikw (by omega) (by omega),?_⟩,fun h=>⟨ikw (by omega) (by omega),?_⟩⟩⟩
    .have h1:ts=[]:=zAD (by omega)
     have h2:y.subs=[]:=zAD (by omega)
     subst h1;rw[h2]at hlen;simp[serL]at hlen;omega
    .have hpos:y.subs++ts≠[]:=fun q=>by
      have q1:=congrArg zAN q;simp only[zAS,List.length_nil]at q1;omega
     refine yj (k+1,y.subs++ts) ⟨?_,hpos,?_,?_,?_⟩ (by dsimp only;omega) ?_
     .dsimp only
      rw[d3];simp[serL]
     .intro z hz;rcases List.mem_append.1 hz with q|q
      .exact y.subs_shp hy z q
      .exact hsh z (zAA _ q)
     .dsimp only
      have:(serL (y.subs++ts)).length=(serL y.subs++serL ts).length:=by simp[serL]
      rw[this];omega
     .dsimp only
      simp only[zAS];omega
     .refine yh [] [] [] ?_;simp only[allQ,live,yc,yx,go_sem,zA,↓reduceIte,reduceCtorEq];simp;omega
end Sh
end
section
namespace Sh
open Go Ev
theorem ychz(p:ProgR){g:Gr}(hg:ybj g)(op:Int){v:Nat}(hv:v<g.ports.length)(port:Int)(hp:op=6\/op=7\/op=8\/op=9\/op=10\/op=11\/(0<=port/\port<(g.ports.getD v []).length)) :
 Returns zG 239 [.rf (ygf p g),.i .i64 op,.i .i64 v,.i .i64 port] (.i .i64 (yog g op v port)):=by
 refine Returns.of (ydij _ _ ?_);have hlen:=hg.2.2.1;simp only[c239,ycqz,ycmq,yctk,ycqm,ycpw,ycmf,ycvo,ycon,ycod,ycwh,ycef,ybve,ybwb,ycel,ybxc,ybzr,ycbq,ybxz,ybsn,ycea,ybso,ybtv,yccy,ybwz,yccz,ygf,ybc,yu,yw,ydu,yx,go_sem,zA,zB,zD,zC,↓reduceIte,reduceCtorEq];refine⟨fun h6=>?_,fun h6=>⟨fun h7=>?_,fun h7=>⟨fun h8=>⟨by omega,?_⟩,fun h8=>⟨fun h9=>⟨by omega,?_⟩,fun h9=>⟨fun h10=>(yel _).use ?_,fun h10=>⟨fun h11=>?_,fun h11=>?_⟩⟩⟩⟩⟩⟩
 .simp[yog,h6]
 .simp[yog,h7]
 .simp[yog,h8]
 .simp[yog,h9]
 .simp only[ybg,yx,go_sem,zA,zB,↓reduceIte,reduceCtorEq];simp[yog,h10]
 .simp[yog,h11]
 .have hp:0<=port/\port<(g.ports.getD v []).length:=by omega
  have hpn:port.toNat<(g.ports.getD v []).length:=by omega
  have hl:=hg.ydc hv hpn;unfold ydc at hl;refine⟨by omega,by omega,fun h13=>⟨by omega,?_⟩,fun h13=>⟨fun h14=>⟨by omega,?_⟩,fun h14=>⟨fun h15=>(yel _).use ?_,fun h15=>⟨fun h16=>?_,fun h16=>⟨by omega,?_⟩⟩⟩⟩⟩
  .simp[yog,h13,ydc]
  .simp[yog,h14,ydc]
  .simp only[ybg,yx,go_sem,zA,zB,↓reduceIte,reduceCtorEq];simp[yog,h15,ydc]
  .simp[yog,h16,ydc]
  .refine⟨by rw[show(yki g v).length=(g.ports.getD v []).length from zAB _];omega,?_⟩
   simp[yog,h6,h7,h8,h9,h10,h11,h13,h14,h15,h16]
theorem yckw(p:ProgR){g:Gr}(hg:ybj g){nv:Nat}{c:Conf}(hc:ConfIn g.ports.length nv c){v:Nat}(hv:v<g.ports.length)(e:List Tm){op arg:Int}{bnd:Bool}(ho:(Ex.leaf op arg).ok nv bnd=true)(port:Int)(hp:bnd=true->0<=port/\port<(g.ports.getD v []).length) :
 Returns zG 220 [.rf (yjs p g c v e),.ag [.i .i64 op,.i .i64 arg],.i .i64 port] (.i .i64 (ysv g c op arg v port)):=by
 refine Returns.of (ydka _ _ ?_);simp only[Ex.ok,zF,decide_eq_true_eq]at ho;obtain⟨⟨ho1,ho2⟩,ho3⟩:=ho;have hlen:=hc.len;have hrow:=hc.at_ hv;have hF:=ychz p hg op hv port;simp only[ygf,ybc,yu,yw,ydu]at hF;simp only[c220,ycyn,ycxb,ycnk,ycxj,ycxl,ycyu,ydag,ycvx,ydak,ycwq,ybwu,ybuo,ybwd,ybul,ybzz,yjs,ycn,ygf,ybc,yu,yw,ydu,yx,go_sem,zA,zB,zD,zC,↓reduceIte,reduceCtorEq];refine⟨fun h1=>?_,fun h1=>⟨fun h2=>?_,fun h2=>⟨fun h3=>?_,fun h3=>⟨fun h4=>?_,fun h4=>⟨fun h5=>?_,fun h5=>⟨fun h12=>?_,fun h12=>(hF ?_).use ?_⟩⟩⟩⟩⟩⟩
 .simp[ysv,h1]
 .simp[ysv,h2]
 .simp[ysv,h3]
 .simp[ysv,h4]
 .rw[if_neg (by omega),if_pos (by omega)]at ho2
  have ho2:=of_decide_eq_true ho2;refine⟨by omega,by omega,?_⟩
  simp[ysv,h5]
 .rw[if_neg (by omega),if_pos (by omega)]at ho2
  have ho2:=of_decide_eq_true ho2;rw[if_pos (by omega)]at ho3
  have hp:=hp ho3;have hpn:port.toNat<(g.ports.getD v []).length:=by omega
  have hl:=hg.ydc hv hpn;have hr2:=hc.at_ (v:=(ydc g v port.toNat).1.toNat) (by omega)
  unfold ydc at hl hr2;refine⟨by omega,by omega,by omega,by omega,?_⟩
  simp[ysv,h12,ydc]
 .by_cases q:11<=op
  .rw[if_pos q]at ho3;have:=hp ho3;omega
  .omega
 .simp only[ybg,yx,go_sem,zA,zB,↓reduceIte,reduceCtorEq];simp[ysv,h1,h2,h3,h4,h5,h12]
theorem yrv{e:List Tm}{at_:Nat}{a b:List Tm}(h:e.drop at_=a++b):e.drop (at_+a.length)=b:=by
 rw[<-List.drop_drop,h,List.drop_left]
theorem ycfv{n:Nat}{gg:Nat->List SV}{l:List Int}(hn:n=l.length)(h:∀k,k<n->gg k=[.i .i64 (l.getD k 0)]):Sim (.sl 1 n gg) (ybc l):=by
 subst hn;exact ybbx h
def ycap(p:ProgR)(g:Gr)(nv:Nat)(c:Conf)(v:Nat)(e:List Tm)(x:Ex):Prop :=
 ∀ (bnd:Bool) (port:Int) (at_:Nat) (rest:List Tm),x.ok nv bnd=true->(bnd=true->0<=port/\port<(g.ports.getD v []).length)->InB port->e.drop at_=x.ser++rest ->
   Returns zG 205 [.rf (yjs p g c v e),.i .i64 at_,.i .i64 port] (.tp [.i .i64 (yfn g c v x port),.i .i64 ((at_+x.ser.length:Nat):Int)])
theorem yyl(p:ProgR){g:Gr}(hg:ybj g){nv:Nat}{c:Conf}(hc:ConfIn g.ports.length nv c){v:Nat}(hv:v<g.ports.length)(e:List Tm)(hl:e.length<=1000){op:Int}{a:Ex}(ho:(Ex.agg op a).ok nv true=true)(ih:ycap p g nv c v e a)(at_:Nat)(rest:List Tm)(he:e.drop at_=(Ex.agg op a).ser++rest) :
 Returns zG 222 [.rf (yjs p g c v e),.i .i64 op,.i .i64 at_] (.tp [.i .i64 (yfn g c v (.agg op a) 0),.i .i64 ((at_+(Ex.agg op a).ser.length:Nat):Int)]):=by
 have ho':=ho;simp only[Ex.ok,zF,decide_eq_true_eq]at ho;have hd:=hg.deg_lt (v:=v);obtain⟨deg,hdeg⟩:∃d,(g.ports.getD v []).length=d:=⟨_,rfl⟩;rw[hdeg]at hd;have hin:∀q:Nat,q<deg->InB (yfn g c v a q):=fun q hq=>yic hg rfl hc hv a ho.2 (fun _=>by omega) (by unfold InB;omega)
 have hsh:=Ex.ok_shp _ ho';have hdrop:e.drop (at_+1)=a.ser++rest:=(yfg (show e.drop at_=(op,0)::(a.ser++rest)from he)).2.2
 have hat:=(yfg (show e.drop at_=(op,0)::(a.ser++rest)from he)).1
 have hfit:at_+1+a.ser.length<=e.length:=by
  have:=congrArg zAN hdrop;simp at this;omega
 refine Returns.of (ydjq _ _ ?_);simp only[c222,ydbk,ydaq,ycmn,ydaj,yjs,ycn,ygf,ybc,yu,yw,ydu,hdeg,go_sem,zA,zB,zD,zC,↓reduceIte,reduceCtorEq];refine⟨by omega,?_⟩
 let val:Nat->Int:=fun q=>yfn g c v a q
 refine ybd (σ:=Nat) (fun k=>⟨[(27,.i .i64 k),(26,.i .i64 deg),(9,.i .i64 deg),(0,.rf (yjs p g c v e)),(1,.i .i64 op),(2,.i .i64 at_),(8,.pt (8,0) 0 0),(7,.i .i64 (if k=0 then 0 else((at_+1+a.ser.length:Nat):Int)))],
  [(8,.one (some ⟨150,true,1,24,fun i=>[.i .i64 (if i<k then val i else 0)]⟩))]⟩) (fun k=>k<=deg) (fun k=>deg-k) 0 (zM _) ?_ ?_
 .refine yh [] [] [] ?_;simp only[yjs,ycn,ygf,ybc,yu,yw,ydu,allQ,live,yc,yx,zH,go_sem,zA,zC,↓reduceIte,reduceCtorEq];intro i _;rw[if_neg (by omega)]
 .intro k hk;simp only[ycoc,ydar,ycph,ycwg,ycoi,ycva,ybzw,go_sem,zA,zB,zD,zC,↓reduceIte,reduceCtorEq];refine⟨fun hlt=>⟨ikw (by omega) (by omega),?_⟩,fun hlt=>?_⟩
  .have hk':k<deg:=by omega
   have hv1:=ih true (k:Int) (at_+1) rest ho.2 (fun _=>by rw[hdeg];omega) (by unfold InB;omega) hdrop
   rw[show((at_+1:Nat):Int)=(at_:Int)+1 by omega]at hv1
   refine hv1.use ?_;simp only[ybg,splice,go_sem,zA,zB,↓reduceIte,reduceCtorEq];refine⟨by omega,by omega,ikw (by omega) (by omega),?_⟩
   refine yj (k+1) (by omega) (by omega) ?_
   refine yh [] [] [] ?_;simp only[allQ,live,yc,yx,go_sem,zA,zC,↓reduceIte,reduceCtorEq];refine⟨by omega,?_⟩
   intro i hi
   by_cases q:i=k
   .rw[if_pos q,if_pos (by omega)]
    subst q;simp only[val,live,yc,go_sem,reduceCtorEq]
   .rw[if_neg q]
    by_cases q2:i<k
    .rw[if_pos q2,if_pos (by omega)]
     simp only[live,yc,go_sem,reduceCtorEq]
    .rw[if_neg q2,if_neg (by omega)]
     simp only[live,yc,go_sem,reduceCtorEq]
  .obtain rfl:k=deg:=by omega
   have hE:=yddk e _ at_ rest hsh he hl
   have hF:=ycfs op ((zAJ k).map val) (by simp;omega) (fun x hx=>by
    obtain⟨q,hq,rfl⟩:=List.mem_map.1 hx;exact hin q (List.mem_range.1 hq))
   have hres:yfn g c v (.agg op a) 0=yje op ((zAJ k).map val):=by
    show yje op _=_;rw[hdeg]
   rw[hres];simp only[yjs,yw,go_sem,zA,zB,↓reduceIte,reduceCtorEq];simp only[yw]at hE
   have hsim:SimL [.i .i64 op,.sl 1 (k-0) fun i=>[.i .i64 (if i<k then val i else 0)]] [.i .i64 op,ybc ((zAJ k).map val)]:=by
    refine⟨Sim.refl _,ycfv (by simp) fun i hi=>?_,trivial⟩
    rw[if_pos (by omega)]
    simp[zL,show i<k by omega]
   refine⟨fun h0=>hE.use ?_,fun h0=>?_⟩
   .simp only[ybg,go_sem,zA,zB,zD,zC,↓reduceIte,reduceCtorEq];refine⟨by simp;omega,.inl ⟨by omega,hF.useS hsim ?_⟩⟩
    simp only[go_sem];exact Sim.refl _
   .refine⟨by simp;omega,.inl ⟨by omega,hF.useS hsim ?_⟩⟩
    simp only[ybg,if_neg (show ¬k=0 by omega),go_sem,zA,zB,↓reduceIte,reduceCtorEq]
    rw[show at_+(Ex.agg op a).ser.length=at_+1+a.ser.length by simp[Ex.ser];omega]
    exact Sim.refl _
end Sh
end
section
namespace Sh
open Go Ev
theorem ybnx(g:Gr)(v:Nat)(hv:v<g.ports.length)(u:Int)(hl:(g.ports.getD v []).length<=100000):Returns zG 204 [grV g,.i .i64 v,.i .i64 u] (.i .i64 (yly (g.ports.getD v []) u)):=by
 refine Returns.of (ydcz _ _ ?_);simp only[c204,ycyq,ycvn,grV,yu,yw,ybc,go_sem,zA,zB,zC,↓reduceIte,reduceCtorEq];refine⟨by omega,?_⟩
 obtain⟨ls,hls⟩:∃ls,g.ports.getD v []=ls:=⟨_,rfl⟩;rw[hls]at hl ⊢;refine ybd (σ:=Nat) (fun k=>⟨[(15,.i .i64 k),(13,yw ls),(14,.i .i64 ls.length),(2,.i .i64 u)],[]⟩) (fun k=>k<=ls.length/\(ls.take k).findIdx? (fun l=>l.1==u)=none) (fun k=>ls.length-k) 0 ⟨zM _,by simp⟩ ?_ ?_
 .refine yh [] [] [] ?_;simp only[yw,allQ,live,yc,zH,go_sem,zA,↓reduceIte,reduceCtorEq]
 .intro k ⟨hk,hno⟩;simp only[ycut,ycqr,ycos,ycum,yclq,ycpo,yw,yx,splice,go_sem,zA,zB,zD,zC,↓reduceIte,reduceCtorEq];refine⟨fun hlt=>⟨by omega,fun he=>?_,fun he=>⟨ikw (by omega) (by omega),?_⟩⟩,fun hlt=>?_⟩
  .have hlt:k<ls.length:=by omega
   rw[getD_at hlt]at he;rw[ybny ls u k hlt he hno]
  .have hlt:k<ls.length:=by omega
   rw[getD_at hlt]at he;refine yj (k+1) ⟨by omega,ybcv ls u k hlt he hno⟩ (by omega) ?_
   refine yh [] [] [] ?_;simp only[allQ,live,yc,yx,go_sem,zA,↓reduceIte,reduceCtorEq];simp
  .obtain rfl:k=ls.length:=by omega
   rw[ybja ls u hno]
theorem ybpf{ids:List Int}{k:Nat}(h:k<ids.length):(ids.take (k+1)).foldl max 0=max ((ids.take k).foldl max 0) (ids.getD k 0):=by
 rw[ybrk ids k h,getD_at h]
theorem ybeq(p:ProgR){g:Gr}(hg:ybj g):Returns zG 167 [.ag (ymp p),grV g] (.rf (ygf p g)):=by
 refine Returns.of (ydhe _ _ ?_);have h24:=hg.2.1;have hid:=hg.2.2.1;obtain⟨n,hn⟩:∃n,g.ports.length=n:=⟨_,rfl⟩;rw[hn]at h24 hid;simp only[c167,ycyi,ydav,ycre,grV,yu,yw,ybc,ymp,splice,hn,go_sem,zA,zB,zD,zC,↓reduceIte,reduceCtorEq];refine⟨by omega,?_⟩
 refine ybd (σ:=Nat) (fun k=>⟨[(21,.i .i64 k),(19,yu g.ports),(20,.i .i64 n),(3,.pt (3,0) 0 0),(5,.pt (17,0) 0 0)],
  [(3,.one (some ⟨27,true,2,1,fun _=>[ybc g.ids,yu g.ports]⟩)),(17,.one (some ⟨235,true,7,1,fun _=>[.a (.string p.name),yeu p.vars,ydd p.rules,ybc g.ids,yu g.ports,.i .i64 ((g.ids.take k).foldl max 0),.os (15,0) 0 n true]⟩)),
   (15,.one (some ⟨22,false,1,n,fun i=>[if i<k then ybc (yki g i)else .a (.slice none 0 0)]⟩))]⟩) (fun k=>k<=n) (fun k=>n-k) 0 (zM _) ?_ ?_
 .refine yh [] [] [] ?_;simp only[yu,yw,ybc,hn,allQ,live,yc,yx,zH,go_sem,zA,zC,↓reduceIte,reduceCtorEq];refine⟨fun i _=>by simp,fun i _=>?_⟩
  rw[if_neg (by omega)]
  simp only[yc,go_sem]
 .intro k hk;simp only[ycqs,ycvk,ycwc,ycoh,yu,yw,ybc,splice,hn,go_sem,zA,zB,zD,↓reduceIte,reduceCtorEq];refine⟨fun hlt=>⟨by omega,by omega,by decide,?_⟩,fun hlt=>?_⟩
  .have hk':k<n:=by omega
   obtain⟨ls,hls⟩:∃ls,g.ports.getD k []=ls:=⟨_,rfl⟩;have hdeg:=hg.deg_lt (v:=k);rw[hls]at hdeg;rw[hls]
   have hback:∀j,j<ls.length->(yki g k).getD j 0=yly (g.ports.getD (ls.getD j (0,0)).1.toNat []) k:=fun j hj=>by
    unfold yki;rw[hls];simp[zL,hj]
   have hbl:(yki g k).length=ls.length:=by unfold yki;rw[hls,zAB]
   refine ybd (σ:=Nat) (fun j=>⟨[(41,.i .i64 j),(39,yw ls),(40,.i .i64 ls.length),(6,.i .i64 k),(21,.i .i64 k),(19,yu g.ports),(20,.i .i64 n),(3,.pt (3,0) 0 0),(5,.pt (17,0) 0 0)],
    [(3,.one (some ⟨27,true,2,1,fun _=>[ybc g.ids,yu g.ports]⟩)),(17,.one (some ⟨235,true,7,1,fun _=>[.a (.string p.name),yeu p.vars,ydd p.rules,ybc g.ids,yu g.ports,.i .i64 ((g.ids.take (k+1)).foldl max 0),.os (15,0) 0 n true]⟩)),
     (15,.one (some ⟨22,false,1,n,fun i=>[if i<k then ybc (yki g i)else if i=k then .os (100,0) 0 j true else .a (.slice none 0 0)]⟩)),
     (100,.one (some ⟨3,false,1,j,fun q=>[.i .i64 ((yki g k).getD q 0)]⟩))]⟩) (fun j=>j<=ls.length) (fun j=>ls.length-j) 0 (zM _) ?_ ?_
   .refine yh [] [100] [] ?_;simp only[yu,yw,ybc,hn,ybpf (show k<g.ids.length by omega),allQ,live,yc,zH,go_sem,zA,zC,Nat.reduceBEq,↓reduceIte,reduceCtorEq]
    intro i hi
    by_cases q1:i<k
    .simp only[if_pos q1];simp only[yc,go_sem,reduceCtorEq]
    .by_cases q2:i=k
     .simp only[if_neg q1,if_pos q2];simp only[live,go_sem,zA,↓reduceIte];simp
     .simp only[if_neg q1,if_neg q2];simp only[yc,go_sem,reduceCtorEq]
   .intro j hj;simp only[ycyf,ycnw,ycrs,ybxb,ycbg,yu,yw,ybc,splice,hn,go_sem,zA,zB,zD,zC,↓reduceIte,reduceCtorEq]
    have hP:=fun hlt:j<ls.length=>ybnx g (ls.getD j (0,0)).1.toNat (by
     have:=hg.ydc (v:=k) (p:=j) (by omega) (by rw[hls];omega)
     unfold ydc at this;rw[hls]at this;omega) (k:Int) (by have:=hg.deg_lt (v:=(ls.getD j (0,0)).1.toNat);omega)
    have hto:j<ls.length->((ls.getD j (0,0)).1.toNat:Int)=(ls.getD j (0,0)).1:=fun hlt=>by
     have:=hg.ydc (v:=k) (p:=j) (by omega) (by rw[hls];omega)
     unfold ydc at this;rw[hls]at this;omega
    refine⟨fun hlt=>⟨by omega,by omega,by omega,?_⟩,fun hlt=>?_⟩
    .have hj':j<ls.length:=by omega
     have hP:=hP hj';rw[hto hj']at hP;simp only[grV,yu,yw,ybc,hn]at hP;refine hP.use ?_;simp only[ybg,splice,go_sem,zA,zB,zD,zC,↓reduceIte,reduceCtorEq];refine⟨by decide,by omega,by decide,by omega,by omega,by decide,ikw (by omega) (by omega),?_⟩
     refine yj (j+1) (by omega) (by omega) ?_
     refine yh [(100,fun _=>(63,0))] [] [] ?_;simp only[allQ,live,yc,yx,go_sem,zA,zC,↓reduceIte,reduceCtorEq];refine⟨by omega,fun i hi=>?_,fun i hi=>?_⟩
     .by_cases q2:i=k
      .simp only[if_pos q2,if_neg (show ¬i<k by omega)]
       simp only[live,yc,go_sem,zA,↓reduceIte,reduceCtorEq]
      .simp only[if_neg q2]
       by_cases q1:i<k
       .simp only[if_pos q1];simp only[live,yc,go_sem,reduceCtorEq]
       .simp only[if_neg q1];simp only[live,yc,go_sem,reduceCtorEq]
     .by_cases q2:i<j
      .simp only[if_pos q2];simp only[live,yc,go_sem,reduceCtorEq]
      .obtain rfl:i=j:=by omega
       simp only[if_neg q2,Nat.sub_self,Nat.zero_mul];simp only[live,yx,go_sem,reduceCtorEq];rw[hback i hj']
    .obtain rfl:j=ls.length:=by omega
     refine⟨ikw (by omega) (by omega),?_⟩
     refine yj (k+1) (by omega) (by omega) ?_
     refine yh [] [] [(100,0)] ?_;simp only[allQ,live,yc,yx,go_sem,zA,zD,zC,↓reduceIte,reduceCtorEq];refine⟨by omega,fun i hi=>?_⟩
     by_cases q1:i<k
     .simp only[if_pos q1,if_pos (show i<k+1 by omega)]
      simp only[yc,go_sem]
     .by_cases q2:i=k
      .simp only[if_neg q1,if_pos q2,if_pos (show i<k+1 by omega)]
       subst q2;simp only[hbl,yc,go_sem,zA,↓reduceIte]
      .simp only[if_neg q1,if_neg q2,if_neg (show ¬i<k+1 by omega)]
       simp only[yc,go_sem]
  .obtain rfl:k=n:=by omega
   simp only[ybwa,go_sem,zA,zB,zD,↓reduceIte,reduceCtorEq];refine⟨fun q hq=>by simp only[if_pos hq];simp only[go_sem],?_⟩
   refine ycvg ?_ (by simp only[ygf,go_sem])
   simp only[SimL,ygf,ybc,yu,yw,ydu,hn,yc,true_and,and_true];refine⟨?_,?_⟩
   .rw[yx];refine⟨rfl,?_⟩;unfold ybqu;rw[List.take_of_length_le (by omega)]
   .refine ydp fun q hq=>?_;simp only[if_pos hq];simp only[SimL,yc,go_sem]
end Sh
end
section
def ykn(f:Nat->Bool):Nat->Nat
 |0=>0
 |n+1=>if f n then ykn f n|||2^n else ykn f n
theorem ykl(f:Nat->Bool):∀(n i:Nat),(ykn f n).testBit i=(decide (i<n)&&f i)
 |0,i=>by simp[ykn]
 | n + 1,i=>by
   unfold ykn;have ih:=ykl f n i
   by_cases h:f n=true
   .rw[if_pos h,Nat.testBit_or,ih,Nat.testBit_two_pow]
    by_cases e:n=i
    .subst e;simp[h]
    .have:(i<n+1)=(i<n):=propext (by omega)
     simp[e,this]
   .rw[if_neg h,ih]
    by_cases e:n=i
    .subst e;simp[h]
    .have:(i<n+1)=(i<n):=propext (by omega)
     simp[this]
theorem ybap(f:Nat->Bool)(n:Nat):ykn f n<2^n:=by
 refine zU _ fun i hi=>?_;rw[ykl];simp;omega
def difB(a b:Nat):Nat:=a ^^^ (a&&&b)
theorem yyg(a b i:Nat):(difB a b).testBit i=(a.testBit i && !(b.testBit i)):=by
 unfold difB;rw[Nat.testBit_xor,zAK];cases a.testBit i<;>cases b.testBit i<;>rfl
theorem yjx(a:Nat):a=0↔∀i,a.testBit i=false:=by
 constructor
 .rintro rfl i;simp
 .intro h;exact zAP fun i=>by rw[h i];simp
theorem ybxo{a b n:Nat}(h:a<2^n):a&&&b<2^n:=by
 have:=zAW (n:=a) (m:=b);omega
theorem ysm{a b n:Nat}(h:a<2^n):difB a b<2^n:=by
 refine zU _ fun i hi=>?_;rw[yyg,zS (zW h (zT (by omega) hi))]
 rfl
structure Cnt where
 steps:Nat
 moves:Nat
 rounds:Nat
 begun:Nat
 pend:Nat
def yhm(s:Nat):Nat->Nat
 |0=>0
 |n+1=>yhm s n+(s.testBit n).toNat
def popP(s:Nat):Nat:=yhm s 32
def ybff(e:Nat):Cnt:=⟨0,0,0,0,e⟩
def addP(k:Cnt)(chosen after:Nat):Cnt :=
 let p:=difB k.pend chosen&&&after
 ⟨k.steps+1,k.moves+popP chosen,if p=0 then k.rounds+1 else k.rounds,k.rounds+1,if p=0 then after else p⟩
def Cnt.ok(k:Cnt):Prop:=k.rounds<=k.begun/\k.begun<=k.rounds+1/\k.begun<=k.steps/\k.steps<=k.moves/\k.moves<=24*k.steps/\k.pend<2^24
theorem ylj(s:Nat):∀n,yhm s n<=n
 |0=>zAO _
 | n+1=>by
   have:=ylj s n;unfold yhm;cases s.testBit n<;>simp[Bool.toNat]<;>omega
theorem ywa(s:Nat)(h:s<2^24):∀k,yhm s (24+k)=yhm s 24
 |0=>rfl
 | k+1=>by
   have e:s.testBit (24+k)=false:=zS (zW h (zT (by omega) (by omega)))
   show yhm s (24+k)+(s.testBit (24+k)).toNat=_;rw[ywa s h k,e];rfl
theorem ydfw(s:Nat)(h:s<2^24):popP s<=24:=by
 have:=ywa s h 8;unfold popP;rw[this];exact ylj s 24
structure Sys where
 n:Nat
 en:Conf->Nat
 mv:Conf->Nat->Conf
def Sys.run(S:Sys)(res:Nat->Nat->Nat):List Nat->Conf->Cnt->List (Conf×Cnt)
 |[],_,_=>[]
 | w::ws,c,k=>if S.en c=0 then[]else(let s:=res (S.en c) w
   let d:=S.mv c s
   (d,addP k s (S.en d))::S.run res ws d (addP k s (S.en d)))
def Sys.runs(S:Sys)(res:Nat->Nat->Nat)(ws:List Nat)(c:Conf):List (Conf×Cnt):=(c,ybff (S.en c))::S.run res ws c (ybff (S.en c))
def subB(a b:Nat):Prop:=∀i,a.testBit i=true->b.testBit i=true
structure ByRounds(S:Sys)(V:Conf->Prop)(P:Nat->Nat->List Int->Prop):Prop where
 valid:∀c s,V c->s≠0->subB s (S.en c)->V (S.mv c s)
 stay:∀c s v,V c->v<S.n->s.testBit v=false->(S.mv c s).getD v []=c.getD v []
 move:∀c s v r,V c->v<S.n->s.testBit v=true->subB s (S.en c)->(∀u,u<S.n->P r u (c.getD u []))->P (r+1) v ((S.mv c s).getD v [])
 rest:∀c v r,V c->v<S.n->(S.en c).testBit v=false->(∀u,u<S.n->P r u (c.getD u []))->P (r+1) v (c.getD v [])
 less:∀r v s,P (r+1) v s->P r v s
structure RInv(S:Sys)(V:Conf->Prop)(P:Nat->Nat->List Int->Prop)(c:Conf)(k:Cnt):Prop where
 valid:V c
 all:∀v,v<S.n->P k.rounds v (c.getD v [])
 done:∀v,v<S.n->k.pend.testBit v=false->P (k.rounds+1) v (c.getD v [])
 begun:k.begun<=k.rounds+1
theorem ByRounds.start{S:Sys}{V:Conf->Prop}{P:Nat->Nat->List Int->Prop}(h:ByRounds S V P){c:Conf}(hv:V c)(h0:∀v,v<S.n->P 0 v (c.getD v [])):RInv S V P c (ybff (S.en c)) :=
 ⟨hv,h0,fun v hn hb=>h.rest c v 0 hv hn hb h0,by simp[ybff]⟩
theorem ByRounds.step{S:Sys}{V:Conf->Prop}{P:Nat->Nat->List Int->Prop}(h:ByRounds S V P)(c:Conf)(k:Cnt)(s:Nat)(hi:RInv S V P c k)(h0:s≠0)(hs:subB s (S.en c)):RInv S V P (S.mv c s) (addP k s (S.en (S.mv c s))):=by
 obtain⟨i1,i2,i3,i4⟩:=hi;have hv:=h.valid c s i1 h0 hs
 have hall:∀v,v<S.n->P k.rounds v ((S.mv c s).getD v []):=fun v hn=>by
  cases hb:s.testBit v with
  |true=>exact h.less _ _ _ (h.move c s v _ i1 hn hb hs i2)
  |false=>rw[h.stay c s v i1 hn hb];exact i2 v hn
 have hnext:∀v,v<S.n->(difB k.pend s&&&S.en (S.mv c s)).testBit v=false->P (k.rounds+1) v ((S.mv c s).getD v []):=fun v hn hb=>by
  rw[zAK,yyg]at hb;cases hb1:s.testBit v with
  |true=>exact h.move c s v _ i1 hn hb1 hs i2
  | false =>
    cases hb2:k.pend.testBit v with
    |false=>rw[h.stay c s v i1 hn hb1];exact i3 v hn hb2
    | true =>
      rw[hb1,hb2]at hb;exact h.rest _ v _ hv hn (by simpa using hb) hall
 unfold addP;simp only
 by_cases hp:difB k.pend s&&&S.en (S.mv c s)=0
 .simp only[if_pos hp];have hall':∀v,v<S.n->P (k.rounds+1) v ((S.mv c s).getD v []):=fun v hn=>hnext v hn (by rw[hp];simp)
  exact⟨hv,hall',fun v hn hb=>h.rest _ v _ hv hn hb hall',by show k.rounds+1<=_;simp⟩
 .simp only[if_neg hp];exact⟨hv,hall,hnext,zAO _⟩
end
section
structure RuleT where
 name:ByteArray
 guard:Ex
 sets:List (Int×Ex)
structure ProgT where
 name:ByteArray
 vars:List VarR
 rules:List RuleT
instance:Inhabited Ex:=⟨.leaf 0 0⟩
instance:Inhabited RuleT:=⟨⟨.empty,default,[]⟩⟩
def RuleT.raw(r:RuleT):RuleR:=⟨r.name,r.guard.ser,r.sets.map fun s=>⟨s.1,s.2.ser⟩⟩
def ProgT.raw(p:ProgT):ProgR:=⟨p.name,p.vars,p.rules.map RuleT.raw⟩
def RuleT.ok(nv:Nat)(r:RuleT):Bool:=r.guard.ok nv false&&decide (r.guard.ser.length<=1000)&&decide (r.sets.length<=100)&&r.sets.all fun s=>decide (0<=s.1/\s.1<nv)&&s.2.ok nv false&&decide (s.2.ser.length<=1000)
def VarR.ok(x:VarR):Bool:=decide (x.kind=1\/x.kind=2\/x.kind=3)&&decide (0<=x.lo/\x.lo<=4096)&&decide (-4096<=x.hi/\x.hi<=4096)&&decide (0<=x.perNode/\x.perNode<=255)&&decide (0<=x.perID/\x.perID<=255)
def ProgT.ok(p:ProgT):Bool:=decide (1<=p.vars.length/\p.vars.length<=6)&&p.vars.all VarR.ok&&decide (p.rules.length<=12)&&p.rules.all (RuleT.ok p.vars.length)
def yol(g:Gr)(c:Conf)(v:Nat)(r:RuleT):Bool:=yfn g c v r.guard (-1)!=0
def yee(p:ProgT)(g:Gr)(c:Conf)(v:Nat):Int:=match p.rules.findIdx? (yol g c v)with|some i=>i|none=>-1
def ybn(g:Gr)(v:Nat)(x:VarR):Int×Int :=
 if x.kind=1 then(x.lo,x.hi+x.perNode*(g.ids.length:Int)+x.perID*maxI g.ids)else if x.kind=2 then(0,1)else if x.kind=3 then(-1,((g.ports.getD v []).length:Int)-1)else(0,-1)
def ymb(kind:Int)(b:Int×Int)(x:Int):Int:=if x>=b.1/\x<=b.2 then x else if kind=3 then -1 else if x<b.1 then b.1 else b.2
def yrp(p:ProgT)(g:Gr)(c:Conf)(v:Nat)(s0:List Int)(sets:List (Int×Ex)):List Int :=
 sets.foldl (fun s a=>s.set a.1.toNat (ymb (p.vars.getD a.1.toNat default).kind (ybn g v (p.vars.getD a.1.toNat default)) (yfn g c v a.2 (-1)))) s0
def yjt(p:ProgT)(g:Gr)(c:Conf)(v:Nat)(r:Nat):List Int:=yrp p g c v (c.getD v []) (p.rules.getD r default).sets
def ybq(p:ProgT)(g:Gr)(c:Conf):Nat:=ykn (fun v=>decide (yee p g c v>=0)) g.ids.length
def yfs(p:ProgT)(g:Gr)(c:Conf)(s:Nat):Conf:=c.zipIdx.map fun q=>if s.testBit q.2 then yjt p g c q.2 (yee p g c q.2).toNat else q.1
def yko(p:ProgT)(g:Gr):Sys:=⟨g.ids.length,ybq p g,yfs p g⟩
def ydk(p:ProgT)(g:Gr)(c:Conf):Bool:=yvj g.ids.length (fun v=>p.vars.map (ybn g v)) c
end
section
namespace Sh
open Go Ev
theorem ydjf{g:Gr}(hg:ybj g):0<=maxI g.ids/\maxI g.ids<=255:=by
 have h1:=hg.1;have h2:=hg.2.2.1;rw[ycfa (by omega) fun x hx=>(hg.2.2.2.1 x hx).1]
 exact yuc hg
theorem ybnm{x:VarR}(h:x.ok=true):(x.kind=1\/x.kind=2\/x.kind=3)/\(0<=x.lo/\x.lo<=4096)/\(-4096<=x.hi/\x.hi<=4096)/\(0<=x.perNode/\x.perNode<=255)/\(0<=x.perID/\x.perID<=255):=by
 unfold VarR.ok at h;simp only[zF,decide_eq_true_eq]at h;obtain⟨⟨⟨⟨a,b⟩,c⟩,d⟩,e⟩:=h;exact⟨a,b,c,d,e⟩
theorem mulN{a b A B:Int}(h1:0<=a)(h2:a<=A)(h3:0<=b)(h4:b<=B):0<=a*b/\a*b<=A*B:=⟨Int.mul_nonneg h1 h3,Int.mul_le_mul h2 h4 h3 (by omega)⟩
theorem yup{g:Gr}(hg:ybj g){x:VarR}(hx:x.ok=true):(0<=x.perNode*(g.ids.length:Int)/\x.perNode*(g.ids.length:Int)<=255*24)/\(0<=x.perID*maxI g.ids/\x.perID*maxI g.ids<=255*255):=by
 obtain⟨_,_,_,h4,h5⟩:=ybnm hx;have h6:=ydjf hg;have h7:=hg.2.1;have h8:=hg.2.2.1;exact⟨mulN h4.1 h4.2 (by omega) (by omega),mulN h5.1 h5.2 h6.1 h6.2⟩
theorem ybgt{g:Gr}(hg:ybj g){x:VarR}(hx:x.ok=true)(v:Int):Returns zG 176 [.ag (varC x),grV g,.i .i64 v] (.tp [.i .i64 x.lo,.i .i64 (x.hi+x.perNode*(g.ids.length:Int)+x.perID*maxI g.ids)]):=by
 refine Returns.of (ydho _ _ ?_);have h1:=hg.1;have h7:=hg.2.1;have h8:=hg.2.2.1;have hM:=ydde g.ids (by omega) (by omega)
 obtain⟨hb1,hb2⟩:=yup hg hx;obtain⟨_,_,hv3,_,_⟩:=ybnm hx;simp only[ybc]at hM;simp only[c176,ycmj,ycsg,grV,varC,ybc,go_sem,zA,zB,zD,zC,↓reduceIte,reduceCtorEq];refine⟨ikw (by omega) (by omega),ikw (by omega) (by omega),hM.use ?_⟩
 simp only[ybg,go_sem,zA,zB,↓reduceIte,reduceCtorEq];refine⟨ikw (by omega) (by omega),ikw (by omega) (by omega),?_⟩
 exact Sim.refl _
theorem ybgx(g:Gr)(x:VarR)(v:Int):Returns zG 177 [.ag (varC x),grV g,.i .i64 v] (.tp [.i .i64 0,.i .i64 1]):=by
 refine Returns.of (ydea _ _ ?_);simp only[c177,ycxm,ycot,grV,varC,go_sem,zA,zB,zC,↓reduceIte,reduceCtorEq];exact Sim.refl _
theorem ybgs{g:Gr}(hg:ybj g)(x:VarR){v:Nat}(hv:v<g.ports.length):Returns zG 178 [.ag (varC x),grV g,.i .i64 v] (.tp [.i .i64 (-1),.i .i64 (((g.ports.getD v []).length:Int)-1)]):=by
 refine Returns.of (ydie _ _ ?_);have hd:=hg.deg_lt (v:=v);simp only[c178,ycsv,ycsk,grV,yu,yw,varC,go_sem,zA,zB,zC,↓reduceIte,reduceCtorEq];refine⟨by omega,ikw (by omega) (by omega),?_⟩
 exact Sim.refl _
theorem ycan(kind:Int)(b:Int×Int)(x:Int):Returns zG 170 [.i .i64 kind,.ag [.i .i64 b.1,.i .i64 b.2],.i .i64 x] (.i .i64 (ymb kind b x)):=by
 refine Returns.of (ydjh _ _ ?_);simp only[c170,ycxi,ydat,ycwa,ycro,ycnd,ycvm,ycxk,ycuo,yx,ymb,go_sem,zAL,zA,zB,zD,zC,zAX,↓reduceIte,reduceCtorEq];refine⟨by omega,fun h1=>⟨by omega,fun h2=>by rw[if_pos ⟨h1,h2⟩],fun h2=>⟨fun h3=>by rw[if_neg (fun q=>h2 q.2),if_pos h3],fun h3=>⟨by omega,fun h4=>⟨by omega,by rw[if_neg (fun q=>h2 q.2),if_neg h3,if_pos h4]⟩,fun h4=>⟨by omega,by rw[if_neg (fun q=>h2 q.2),if_neg h3,if_neg h4]⟩⟩⟩⟩,fun h1=>⟨fun h3=>by rw[if_neg (fun q=>h1 q.1),if_pos h3],fun h3=>⟨by omega,fun h4=>⟨by omega,by rw[if_neg (fun q=>h1 q.1),if_neg h3,if_pos h4]⟩,fun h4=>⟨by omega,by rw[if_neg (fun q=>h1 q.1),if_neg h3,if_neg h4]⟩⟩⟩⟩
theorem yxx{g:Gr}(hg:ybj g){x:VarR}(hx:x.ok=true){v:Nat}(hv:v<g.ports.length):Returns zG 132 [.ag (varC x),grV g,.i .i64 v] (.tp [.i .i64 (ybn g v x).1,.i .i64 (ybn g v x).2]):=by
 refine Returns.of (ydeh _ _ ?_);have h1:=ybgt hg hx v;have h2:=ybgx g x v;have h3:=ybgs hg x hv;obtain⟨hk,_⟩:=ybnm hx;simp only[varC,grV]at h1 h2 h3;simp only[c132,ycyp,yczs,yclt,varC,grV,splice,go_sem,zA,zB,zD,zC,↓reduceIte,reduceCtorEq]
 refine ybd (σ:=Nat) (fun k=>⟨[(17,.i .i64 k),(15,.os (14,0) 0 3 true),(16,.i .i64 3),(2,.i .i64 v),(3,.pt (3,0) 0 0),(4,.pt (4,0) 0 0)],
  [(3,.one (some ⟨160,true,6,1,fun _=>varC x⟩)),(4,.one (some ⟨27,true,2,1,fun _=>[ybc g.ids,yu g.ports]⟩)),
   (14,.one (some ⟨210,false,2,3,fun k=>if k=0 then[.i .i64 1,.fn 176 [] []]else if k=1 then[.i .i64 2,.fn 177 [] []]else[.i .i64 3,.fn 178 [] []]⟩))]⟩)
  (fun k=>k<=2/\(1<=k->x.kind≠1)/\(2<=k->x.kind≠2)) (fun k=>3-k) 0 ⟨by omega,by omega,by omega⟩ ?_ ?_
 .refine yh [] [] [] ?_;simp only[varC,allQ,live,yc,yx,zH,go_sem,zA,zC,↓reduceIte,reduceCtorEq];refine⟨rfl,fun i hi=>?_⟩;rcases(show i=0\/i=1\/i=2 by omega)with rfl|rfl|rfl
  .simp only[live,yc,go_sem,↓reduceIte,reduceCtorEq]
  .simp only[if_neg (show ¬(1:Nat)=0 by omega),live,yc,go_sem,↓reduceIte,reduceCtorEq]
  .simp only[if_neg (show ¬(2:Nat)=0 by omega),if_neg (show ¬(2:Nat)=1 by omega),live,yc,go_sem,zA,↓reduceIte,reduceCtorEq]
 .rintro k ⟨hk2,hk3,hk4⟩;rcases(show k=0\/k=1\/k=2 by omega)with rfl|rfl|rfl
  .simp only[ybkt,ybks,ybmx,ybnb,ybmv,ybjx,varC,splice,go_sem,zA,zB,zD,zC,↓reduceIte,reduceCtorEq];refine⟨fun _=>⟨by omega,fun he=>h1.use ?_,fun he=>⟨ikw (by omega) (by omega),?_⟩⟩,fun h=>by omega⟩
   .simp only[ybg,go_sem,zA,zB,↓reduceIte,reduceCtorEq];have e:ybn g v x=(x.lo,x.hi+x.perNode*(g.ids.length:Int)+x.perID*maxI g.ids):=by unfold ybn;rw[if_pos he.symm]
    rw[e];exact Sim.refl _
   .refine yj 1 ⟨by omega,fun _ q=>he q.symm,by omega⟩ (by omega) ?_
    refine yh [] [] [] ?_;simp only[allQ,live,yc,yx,zH,go_sem,zA,zC,↓reduceIte,reduceCtorEq];refine⟨by omega,fun i hi=>?_⟩
    rcases(show i=0\/i=1\/i=2 by omega)with rfl|rfl|rfl
    .simp only[live,yc,go_sem,↓reduceIte,reduceCtorEq]
    .simp only[if_neg (show ¬(1:Nat)=0 by omega),live,yc,go_sem,↓reduceIte,reduceCtorEq]
    .simp only[if_neg (show ¬(2:Nat)=0 by omega),if_neg (show ¬(2:Nat)=1 by omega),live,yc,go_sem,zA,↓reduceIte,reduceCtorEq]
  .simp only[ybkt,ybks,ybmx,ybnb,ybmv,ybjx,varC,splice,go_sem,zA,zB,zD,zC,↓reduceIte,reduceCtorEq];refine⟨fun _=>⟨by omega,fun he=>h2.use ?_,fun he=>⟨ikw (by omega) (by omega),?_⟩⟩,fun h=>by omega⟩
   .simp only[ybg,go_sem,zA,zB,↓reduceIte,reduceCtorEq];have e:ybn g v x=(0,1):=by unfold ybn;rw[if_neg (by omega),if_pos he.symm]
    rw[e];exact Sim.refl _
   .refine yj 2 ⟨by omega,fun _=>by omega,fun _ q=>he q.symm⟩ (by omega) ?_
    refine yh [] [] [] ?_;simp only[allQ,live,yc,yx,go_sem,zA,zC,↓reduceIte,reduceCtorEq];refine⟨by omega,fun i hi=>?_⟩
    rcases(show i=0\/i=1\/i=2 by omega)with rfl|rfl|rfl
    .simp only[live,yc,go_sem,↓reduceIte,reduceCtorEq]
    .simp only[if_neg (show ¬(1:Nat)=0 by omega),live,yc,go_sem,↓reduceIte,reduceCtorEq]
    .simp only[if_neg (show ¬(2:Nat)=0 by omega),if_neg (show ¬(2:Nat)=1 by omega),live,yc,go_sem,zA,↓reduceIte,reduceCtorEq]
  .simp only[ybkt,ybks,ybmx,ybnb,ybmv,ybjx,varC,splice,go_sem,zA,zB,zD,zC,↓reduceIte,reduceCtorEq];refine⟨fun _=>⟨by omega,fun he=>h3.use ?_,fun he=>by omega⟩,fun h=>by omega⟩
   simp only[ybg,go_sem,zA,zB,↓reduceIte,reduceCtorEq];have e:ybn g v x=(-1,((g.ports.getD v []).length:Int)-1):=by unfold ybn;rw[if_neg (by omega),if_neg (by omega),if_pos he.symm]
   rw[e];exact Sim.refl _
def ywn(n:Nat)(vars:List VarR)(b:Nat->VarR->Int×Int):SV:=.sl 1 n (fun v=>[.sl 2 vars.length (fun i=>[.i .i64 (b v (vars.getD i default)).1,.i .i64 (b v (vars.getD i default)).2])])
def rowT(vars:List VarR)(b:VarR->Int×Int):SV:=.sl 2 vars.length (fun i=>[.i .i64 (b (vars.getD i default)).1,.i .i64 (b (vars.getD i default)).2])
theorem ybfb(p:ProgR){g:Gr}(hg:ybj g)(hp:p.vars.all VarR.ok=true)(hl:p.vars.length<=6):Returns zG 63 [.ag (ymp p),grV g] (ywn g.ids.length p.vars (ybn g)):=by
 refine Returns.of (ydub _ _ ?_);have h24:=hg.2.1;have hid:=hg.2.2.1;obtain⟨n,hn⟩:∃n,g.ids.length=n:=⟨_,rfl⟩;obtain⟨nv,hnv⟩:∃k,p.vars.length=k:=⟨_,rfl⟩;rw[hn];rw[hnv]at hl;simp only[c63,ydlu,ydld,ydnn,grV,ybc,ymp,hn,go_sem,zA,zB,zD,zC,↓reduceIte,reduceCtorEq];refine⟨by omega,?_⟩
 refine ybd (σ:=Nat) (fun k=>⟨[(15,.i .i64 k),(14,.i .i64 n),(5,.os (12,0) 0 n true),(2,.pt (2,0) 0 0),(3,.pt (3,0) 0 0)],
  [(2,.one (some ⟨32,true,3,1,fun _=>ymp p⟩)),(3,.one (some ⟨27,true,2,1,fun _=>[ybc g.ids,yu g.ports]⟩)),
   (12,.one (some ⟨92,false,1,n,fun i=>[if i<k then rowT p.vars (ybn g i)else .a (.slice none 0 0)]⟩))]⟩) (fun k=>k<=n) (fun k=>n-k) 0 (zM _) ?_ ?_
 .refine yh [] [] [] ?_;simp only[ymp,ybc,hn,allQ,live,yc,zH,go_sem,zA,zC,↓reduceIte,reduceCtorEq];intro i _;rw[if_neg (by omega)]
  simp only[yc,go_sem]
 .intro k hk;simp only[ydmz,yduf,ydpj,ydof,ymp,yeu,splice,hnv,go_sem,zA,zB,zD,zC,↓reduceIte,reduceCtorEq];refine⟨fun hlt=>⟨by omega,by omega,by omega,?_⟩,fun hlt=>?_⟩
  .have hk':k<n:=by omega
   let b:Nat->Int×Int:=fun i=>ybn g k (p.vars.getD i default)
   refine ybd (σ:=Nat) (fun j=>⟨[(28,.i .i64 j),(26,yeu p.vars),(27,.i .i64 nv),(6,.i .i64 k),(15,.i .i64 k),(14,.i .i64 n),(5,.os (12,0) 0 n true),(2,.pt (2,0) 0 0),(3,.pt (3,0) 0 0)],
    [(2,.one (some ⟨32,true,3,1,fun _=>ymp p⟩)),(3,.one (some ⟨27,true,2,1,fun _=>[ybc g.ids,yu g.ports]⟩)),
     (12,.one (some ⟨92,false,1,n,fun i=>[if i<k then rowT p.vars (ybn g i)else if i=k then .os (23,0) 0 nv true else .a (.slice none 0 0)]⟩)),
     (23,.one (some ⟨91,false,2,nv,fun i=>[.i .i64 (if i<j then(b i).1 else 0),.i .i64 (if i<j then(b i).2 else 0)]⟩))]⟩) (fun j=>j<=nv) (fun j=>nv-j) 0 (zM _) ?_ ?_
   .refine yh [] [] [] ?_;simp only[ymp,yeu,hnv,allQ,live,yc,yx,zH,go_sem,zA,zC,↓reduceIte,reduceCtorEq];refine⟨fun i hi=>?_,fun i hi=>?_⟩
    .by_cases q2:i=k
     .simp only[if_pos q2,if_neg (show ¬i<k by omega)]
      simp only[live,yc,go_sem,zA,↓reduceIte,reduceCtorEq]
     .simp only[if_neg q2]
      by_cases q1:i<k
      .simp only[if_pos q1];simp only[rowT,live,yc,go_sem,reduceCtorEq]
      .simp only[if_neg q1];simp only[live,yc,go_sem,reduceCtorEq]
    .simp only[if_neg (Nat.not_lt_zero i),and_self]
   .intro j hj;simp only[ydnf,ydpb,ydsp,ycze,ycrk,ymp,yeu,varC,splice,hnv,go_sem,zA,zB,zC,↓reduceIte,reduceCtorEq];refine⟨fun hlt=>?_,fun hlt=>?_⟩
    .have hj':j<nv:=by omega
     have hB:=yxx hg (x:=p.vars.getD j default) (by
      rw[getD_at (by omega)]
      exact List.all_eq_true.1 hp _ (zJ _)) (v:=k) (by omega)
     simp only[varC,grV]at hB;refine⟨by omega,by omega,by omega,by omega,by omega,hB.use ?_⟩
     simp only[ybg,splice,go_sem,zAL,zA,zB,zD,zAX,↓reduceIte,reduceCtorEq];refine⟨by omega,by omega,by omega,by decide,by omega,by omega,by omega,by decide,ikw (by omega) (by omega),?_⟩
     refine yj (j+1) (by omega) (by omega) ?_
     refine yh [] [] [] ?_;simp only[allQ,live,yc,yx,go_sem,zA,zC,↓reduceIte,reduceCtorEq];refine⟨by omega,fun i hi=>?_,fun i hi=>?_⟩
     .by_cases q1:i<k
      .simp only[if_pos q1];simp only[rowT,yc,go_sem]
      .simp only[if_neg q1]
       by_cases q2:i=k
       .simp only[if_pos q2];simp only[live,yc,go_sem,zA,↓reduceIte]
       .simp only[if_neg q2];simp only[yc,go_sem]
     .by_cases q2:i=j
      .subst q2;simp only[if_pos (Nat.lt_succ_self i),↓reduceIte];simp only[live,yx,go_sem,reduceCtorEq];exact⟨rfl,rfl⟩
      .simp only[if_neg q2]
       by_cases q1:i<j
       .simp only[if_pos q1,if_pos (show i<j+1 by omega)]
        simp only[live,yc,go_sem,reduceCtorEq]
       .simp only[if_neg q1,if_neg (show ¬i<j+1 by omega)]
        simp only[live,yc,go_sem,reduceCtorEq]
    .obtain rfl:j=nv:=by omega
     refine⟨ikw (by omega) (by omega),?_⟩
     refine yj (k+1) (by omega) (by omega) ?_
     refine yh [] [] [(23,0)] ?_;simp only[allQ,live,yc,yx,go_sem,zA,zD,zC,↓reduceIte,reduceCtorEq];refine⟨by omega,fun i hi=>?_⟩
     by_cases q1:i<k
     .simp only[if_pos q1,if_pos (show i<k+1 by omega)]
      simp only[rowT,yc,go_sem]
     .by_cases q2:i=k
      .simp only[if_neg q1,if_pos q2,if_pos (show i<k+1 by omega)]
       subst q2;simp only[rowT,hnv,go_sem,zA,↓reduceIte];refine ydp fun q hq=>?_;simp only[if_pos hq];simp only[SimL,go_sem];exact⟨Sim.refl _,Sim.refl _⟩
      .simp only[if_neg q1,if_neg q2,if_neg (show ¬i<k+1 by omega)]
       simp only[yc,go_sem]
  .obtain rfl:k=n:=by omega
   simp only[ycth,go_sem,zA,zB,↓reduceIte,reduceCtorEq];refine⟨fun q hq=>by simp only[if_pos hq];simp only[rowT,go_sem],?_⟩
   refine ydp fun q hq=>?_;simp only[if_pos hq];simp only[SimL,yc,rowT,hnv,go_sem]
end Sh
end
section
namespace Sh
open Go Ev
end Sh
end
section
namespace Sh
open Go Ev
theorem yhq(p:ProgR){g:Gr}(hg:ybj g){nv:Nat}{c:Conf}(hc:ConfIn g.ports.length nv c){v:Nat}(hv:v<g.ports.length)(e:List Tm)(hl:e.length<=1000):∀x:Ex,ycap p g nv c v e x
 | .leaf op arg=>by
   intro bnd port at_ rest ho hp hpi he;obtain⟨d1,d2,d3⟩:=yfg (show e.drop at_=(op,arg)::rest from he)
   have hL:=yckw p hg hc hv e ho port hp;have hr:=ho;simp only[Ex.ok,zF,decide_eq_true_eq]at hr;simp only[yjs,yw]at hL;refine Returns.of (ytd _ _ ?_);simp only[c205,yxk,yxj,ywf,yxo,yxw,ywh,ywg,yvy,ywl,yxi,ypi,ypk,ypp,yoz,ypm,yqa,ypt,ypf,yow,yjs,yw,d2,splice,go_sem,zA,zB,zD,zC,↓reduceIte,reduceCtorEq];refine⟨by omega,fun h=>hL.use ?_,fun h=>by omega⟩
   simp only[ybg,go_sem,zA,zB,↓reduceIte,reduceCtorEq];refine⟨ikw (by omega) (by omega),?_⟩
   exact Sim.refl _
 | .un op a=>by
   intro bnd port at_ rest ho hp hpi he;obtain⟨d1,d2,d3⟩:=yfg (show e.drop at_=(op,0)::(a.ser++rest)from he)
   have hr:=ho;simp only[Ex.ok,zF,decide_eq_true_eq]at hr;have hV:=yhq p hg hc hv e hl a bnd port (at_+1) rest hr.2 hp hpi d3;rw[show((at_+1:Nat):Int)=(at_:Int)+1 by omega]at hV
   have hU:=ybzq op (yfn g c v a port) (yic hg rfl hc hv a hr.2 hp hpi);simp only[yjs,yw]at hV;refine Returns.of (ytd _ _ ?_);simp only[c205,yxk,yxj,ywf,yxo,yxw,ywh,ywg,yvy,ywl,yxi,ypi,ypk,ypp,yoz,ypm,yqa,ypt,ypf,yow,yjs,yw,d2,splice,go_sem,zA,zB,zD,zC,↓reduceIte,reduceCtorEq];refine⟨by omega,fun h=>by omega,fun h=>⟨fun h=>⟨ikw (by omega) (by omega),hV.use ?_⟩,fun h=>by omega⟩⟩
   simp only[ybg,go_sem,zA,zB,zD,↓reduceIte,reduceCtorEq];refine hU.use ?_;simp only[go_sem];rw[show at_+(Ex.un op a).ser.length=at_+1+a.ser.length by simp[Ex.ser];omega]
   exact Sim.refl _
 | .agg op a=>by
   intro bnd port at_ rest ho hp hpi he;obtain⟨d1,d2,d3⟩:=yfg (show e.drop at_=(op,0)::(a.ser++rest)from he)
   have hr:=ho;simp only[Ex.ok,zF,decide_eq_true_eq]at hr;have ho2:(Ex.agg op a).ok nv true=true:=by simp only[Ex.ok,zF,decide_eq_true_eq];exact hr
   have hA:=yyl p hg hc hv e hl ho2 (yhq p hg hc hv e hl a) at_ rest he;simp only[yjs,yw]at hA;refine Returns.of (ytd _ _ ?_);simp only[c205,yxk,yxj,ywf,yxo,yxw,ywh,ywg,yvy,ywl,yxi,ypi,ypk,ypp,yoz,ypm,yqa,ypt,ypf,yow,yjs,yw,d2,splice,go_sem,zA,zB,zD,zC,↓reduceIte,reduceCtorEq];refine⟨by omega,fun h=>by omega,fun h=>⟨fun h=>by omega,fun h=>⟨fun h=>hA.use ?_,fun h=>by omega⟩⟩⟩
   simp only[ybg,go_sem,zA,zB,↓reduceIte,reduceCtorEq];exact Sim.refl _
 | .bin op a b=>by
   intro bnd port at_ rest ho hp hpi he;obtain⟨d1,d2,d3⟩:=yfg (show e.drop at_=(op,0)::((a.ser++b.ser)++rest)from he)
   have hr:=ho;simp only[Ex.ok,zF,decide_eq_true_eq]at hr;rw[zAH]at d3
   have hfit:at_+1+a.ser.length<=e.length:=by
    have:=congrArg zAN d3;simp at this;omega
   have hV1:=yhq p hg hc hv e hl a bnd port (at_+1) _ hr.1.2 hp hpi d3;have hV2:=yhq p hg hc hv e hl b bnd port (at_+1+a.ser.length) _ hr.2 hp hpi (yrv d3);rw[show((at_+1:Nat):Int)=(at_:Int)+1 by omega]at hV1
   have hB:=ybox op (yfn g c v a port) (yfn g c v b port) (yic hg rfl hc hv a hr.1.2 hp hpi) (yic hg rfl hc hv b hr.2 hp hpi);simp only[yjs,yw]at hV1 hV2;refine Returns.of (ytd _ _ ?_);simp only[c205,yxk,yxj,ywf,yxo,yxw,ywh,ywg,yvy,ywl,yxi,ypi,ypk,ypp,yoz,ypm,yqa,ypt,ypf,yow,yjs,yw,d2,splice,go_sem,zA,zB,zD,zC,↓reduceIte,reduceCtorEq];refine⟨by omega,fun h=>by omega,fun h=>⟨fun h=>by omega,fun h=>⟨fun h=>by omega,fun h=>⟨fun h=>⟨ikw (by omega) (by omega),hV1.use ?_⟩,fun h=>by omega⟩⟩⟩⟩
   simp only[ybg,go_sem,zA,zB,↓reduceIte,reduceCtorEq];refine hV2.use ?_;simp only[go_sem,zA,zB,zD,↓reduceIte];refine hB.use ?_;simp only[go_sem];rw[show at_+(Ex.bin op a b).ser.length=at_+1+a.ser.length+b.ser.length by simp[Ex.ser];omega]
   exact Sim.refl _
 | .ite x a b=>by
   intro bnd port at_ rest ho hp hpi he;obtain⟨d1,d2,d3⟩:=yfg (show e.drop at_=(43,0)::((x.ser++(a.ser++b.ser))++rest)from he)
   have hr:=ho;simp only[Ex.ok,zF]at hr;rw[zAH,zAH]at d3
   have hfit:at_+1+x.ser.length+a.ser.length<=e.length:=by
    have:=congrArg zAN d3;simp at this;omega
   have hV1:=yhq p hg hc hv e hl x bnd port (at_+1) _ hr.1.1 hp hpi d3;have hV2:=yhq p hg hc hv e hl a bnd port (at_+1+x.ser.length) _ hr.1.2 hp hpi (yrv d3);have hV3:=yhq p hg hc hv e hl b bnd port (at_+1+x.ser.length+a.ser.length) _ hr.2 hp hpi (yrv (yrv d3));rw[show((at_+1:Nat):Int)=(at_:Int)+1 by omega]at hV1
   simp only[yjs,yw]at hV1 hV2 hV3;refine Returns.of (ytd _ _ ?_);simp only[c205,yxk,yxj,ywf,yxo,yxw,ywh,ywg,yvy,ywl,yxi,ypi,ypk,ypp,yoz,ypm,yqa,ypt,ypf,yow,yjs,yw,d2,splice,go_sem,zA,zB,zD,zC,↓reduceIte,reduceCtorEq];refine⟨by omega,fun h=>by omega,fun h=>⟨fun h=>by omega,fun h=>⟨fun h=>by omega,fun h=>⟨fun h=>by omega,fun h=>⟨ikw (by omega) (by omega),hV1.use ?_⟩⟩⟩⟩⟩
   simp only[ybg,go_sem,zA,zB,↓reduceIte,reduceCtorEq];refine hV2.use ?_;simp only[go_sem,zA,↓reduceIte,reduceCtorEq];refine hV3.use ?_;simp only[go_sem,zA,zB,↓reduceIte,reduceCtorEq];rw[show at_+(Ex.ite x a b).ser.length=at_+1+x.ser.length+a.ser.length+b.ser.length by simp[Ex.ser];omega]
   refine⟨fun h0=>?_,fun h0=>?_⟩
   .show Sim _ (.tp [.i .i64 (if _ then _ else _),_])
    rw[if_pos h0];exact Sim.refl _
   .show Sim _ (.tp [.i .i64 (if _ then _ else _),_])
    rw[if_neg (not_not_intro h0)];exact Sim.refl _
theorem ybbr(p:ProgR){g:Gr}(hg:ybj g){nv:Nat}{c:Conf}(hc:ConfIn g.ports.length nv c){v:Nat}(hv:v<g.ports.length)(x:Ex)(hx:x.ok nv false=true)(hl:x.ser.length<=1000) :
 Returns zG 169 [.rf (ygf p g),ycn c,.i .i64 v,yw x.ser] (.i .i64 (yfn g c v x (-1))):=by
 have hV:=yhq p hg hc hv x.ser hl x false (-1) 0 [] hx (fun q=>by cases q) (by unfold InB;omega) (by simp)
 refine Returns.of (ydgl _ _ ?_);simp only[yjs,ygf,ycn,ybc,yw,yu,ydu,zH]at hV;simp only[c169,ycyh,ycni,ycqn,ycsp,ygf,ycn,ybc,yw,yu,ydu,splice,go_sem,zA,zB,zD,zC,↓reduceIte,reduceCtorEq];refine .inl (hV.use ?_);simp only[ybg,yx,go_sem,zA,zB,↓reduceIte,reduceCtorEq]
end Sh
end
section
theorem ykz{a:Nat}(h:a<2^32):IntKind.wrap .u32 (a:Int)=a:=by
 unfold IntKind.wrap;simp[IntKind.bits,IntKind.signed];omega
theorem u32_and{a b:Nat}(ha:a<2^32)(hb:b<2^32):IntKind.wrap .u32 (((zI (IntKind.bits .u32) (a:Int))&&&zI (IntKind.bits .u32) (b:Int)).toNat:Int)=((a&&&b:Nat):Int):=by
 show IntKind.wrap .u32 (((zI 32 (a:Int))&&&zI 32 (b:Int)).toNat:Int)=_;rw[zK,zK,BitVec.toNat_and,zX,zX,zY ha,zY hb];exact ykz (zAF zAW ha)
theorem u32_or{a b:Nat}(ha:a<2^32)(hb:b<2^32):IntKind.wrap .u32 (((zI (IntKind.bits .u32) (a:Int))|||zI (IntKind.bits .u32) (b:Int)).toNat:Int)=((a|||b:Nat):Int):=by
 show IntKind.wrap .u32 (((zI 32 (a:Int))|||zI 32 (b:Int)).toNat:Int)=_;rw[zK,zK,BitVec.toNat_or,zX,zX,zY ha,zY hb];exact ykz (zAT ha hb)
theorem u32_andNot{a b:Nat}(ha:a<2^32)(hb:b<2^32):IntKind.wrap .u32 (((zI (IntKind.bits .u32) (a:Int)) &&& ~~~zI (IntKind.bits .u32) (b:Int)).toNat:Int)=((difB a b:Nat):Int):=by
 show IntKind.wrap .u32 (((zI 32 (a:Int)) &&& ~~~zI 32 (b:Int)).toNat:Int)=_
 have e:((zI 32 (a:Int)) &&& ~~~zI 32 (b:Int)).toNat=difB a b:=by
  rw[zK,zK];refine zAP fun i=>?_;rw[yyg,BitVec.testBit_toNat,BitVec.getLsbD_and,BitVec.getLsbD_not,zAQ,zAQ]
  by_cases hi:i<32
  .simp[hi]
  .rw[zS (zW ha (zT (by omega) (by omega)))]
   simp
 rw[e];exact ykz (ysm ha)
theorem u32_neg{a:Nat}(h0:0<a)(ha:a<2^32):IntKind.wrap .u32 (0-(a:Int))=((2^32-a:Nat):Int):=by
 unfold IntKind.wrap;simp[IntKind.bits,IntKind.signed];omega
theorem ybjv{v:Nat}(hv:v<32):IntKind.wrap .u32 (1*2^(v:Int).toNat)=((2^v:Nat):Int):=by
 have h:2^v<2^32:=zAC (by omega) hv
 have:=ykz h;rw[zN,Int.one_mul];rw[<-this]
 norm_cast
theorem ydgd{a v:Nat}:(a:Int).fdiv (2^(v:Int).toNat)=((a>>>v:Nat):Int):=by
 rw[zN,zV];rw[Int.fdiv_eq_ediv_of_nonneg _ (Int.pow_nonneg (by omega))]
 simp
end
section
namespace Sh
open Go Ev
def yim(p:ProgR)(g:Gr):List SV:=[.a (.string p.name),yeu p.vars,ydd p.rules,.rf (ygf p g),ywn g.ids.length p.vars (ybn g)]
theorem ybdf(p:ProgR){g:Gr}(hg:ybj g)(hp:p.vars.all VarR.ok=true)(hl:p.vars.length<=6):Returns zG 123 [.ag (ymp p),grV g] (.rf (yim p g)):=by
 refine Returns.of (ydbz _ _ ?_);have hS:=ybeq p hg;have hT:=ybfb p hg hp hl;simp only[ymp,grV]at hS hT;simp only[c123,ycse,ycnm,ymp,grV,go_sem,zA,zB,zC,↓reduceIte,reduceCtorEq];refine hS.use ?_;simp only[ybg,go_sem,zA,zB,zD,zC,↓reduceIte,reduceCtorEq];refine hT.use ?_;simp only[ywn,yim,go_sem,zA,zB,zD,↓reduceIte];refine⟨by decide,by decide,Sim.refl _⟩
theorem ybtg(p:ProgT){g:Gr}(hg:ybj g)(hp:p.ok=true){c:Conf}(hc:ConfIn g.ports.length p.vars.length c){v:Nat}(hv:v<g.ports.length){r:Nat}(hr:r<p.rules.length) :
 Returns zG 168 [.rf (ygf p.raw g),ycn c,.i .i64 v,.i .i64 r] (.b (yol g c v (p.rules.getD r default))):=by
 refine Returns.of (ydfq _ _ ?_);obtain⟨R,hR⟩:∃R,p.rules.getD r default=R:=⟨_,rfl⟩
 have hok:R.ok p.vars.length=true:=by
  unfold ProgT.ok at hp;simp only[zF]at hp;rw[<-hR,getD_at hr];exact List.all_eq_true.1 hp.2 _ (zJ _)
 unfold RuleT.ok at hok;simp only[zF,decide_eq_true_eq]at hok;have hV:=ybbr p.raw hg hc hv R.guard hok.1.1.1 hok.1.1.2
 have hraw:p.raw.rules.getD r default=R.raw:=by
  rw[<-hR];simp[ProgT.raw,zL,hr]
 have hlen:p.raw.rules.length=p.rules.length:=by simp[ProgT.raw]
 simp only[ygf,ydd,hlen]at hV;rw[hR];simp only[c168,ycxx,ycmy,ygf,ydd,hraw,hlen,go_sem,zA,zB,zD,↓reduceIte,reduceCtorEq];refine⟨by omega,hV.use ?_⟩
 simp only[ybg,ytr,yol,go_sem,zA,zB,↓reduceIte,reduceCtorEq]
theorem ydnt{p:ProgT}{g:Gr}{c:Conf}{v k:Nat}(hk:k<p.rules.length)(hn:(p.rules.take k).findIdx? (yol g c v)=none)(h:yol g c v (p.rules.getD k default)=true):yee p g c v=k:=by
 unfold yee
 have:p.rules.findIdx? (yol g c v)=some k:=by
  rw[List.findIdx?_eq_some_iff_getElem];refine⟨hk,by rwa [getD_at hk]at h,fun j hj=>?_⟩
  rw[List.findIdx?_eq_none_iff]at hn;have:=hn p.rules[j] (List.mem_take_iff_getElem.2 ⟨j,by omega,rfl⟩)
  simpa using this
 rw[this]
theorem ybra{p:ProgT}{g:Gr}{c:Conf}{v:Nat}(hn:(p.rules.take p.rules.length).findIdx? (yol g c v)=none):yee p g c v = -1:=by
 unfold yee;rw[zAV]at hn;rw[hn]
theorem ycln(p:ProgT)(g:Gr)(c:Conf)(v:Nat):-1<=yee p g c v/\yee p g c v<p.rules.length:=by
 unfold yee;split
 .rename_i i hi
  obtain⟨h,_⟩:=List.findIdx?_eq_some_iff_getElem.1 hi;omega
 .omega
theorem ycfl(p:ProgT){g:Gr}(hg:ybj g)(hp:p.ok=true){c:Conf}(hc:ConfIn g.ports.length p.vars.length c){v:Nat}(hv:v<g.ports.length) :
 Returns zG 126 [.rf (yim p.raw g),ycn c,.i .i64 v] (.i .i64 (yee p g c v)):=by
 refine Returns.of (ydhy _ _ ?_);have hlen:p.raw.rules.length=p.rules.length:=by simp[ProgT.raw]
 have h12:p.rules.length<=12:=by
  unfold ProgT.ok at hp;simp only[zF,decide_eq_true_eq]at hp;exact hp.1.2
 simp only[c126,ycxf,ycsf,yim,ydd,hlen,go_sem,zA,zB,zD,↓reduceIte,reduceCtorEq];refine ybd (σ:=Nat) (fun k=>⟨[(14,.i .i64 k),(13,.i .i64 p.rules.length),(0,.rf (yim p.raw g)),(1,ycn c),(2,.i .i64 v)],[]⟩) (fun k=>k<=p.rules.length/\(p.rules.take k).findIdx? (yol g c v)=none) (fun k=>p.rules.length-k) 0 ⟨zM _,by simp⟩ ?_ ?_
 .refine yh [] [] [] ?_;simp only[yim,ydd,hlen,allQ,live,yc,zH,go_sem,zA,↓reduceIte,reduceCtorEq]
 .intro k ⟨hk,hno⟩;simp only[ycud,ycrh,ycvc,ycti,ycnc,ycpq,yim,yx,go_sem,zA,zB,zD,↓reduceIte,reduceCtorEq];refine⟨fun hlt=>?_,fun hlt=>?_⟩
  .have hk':k<p.rules.length:=by omega
   refine(ybtg p hg hp hc hv hk').use ?_;simp only[ybg,yx,go_sem,zA,zB,↓reduceIte,reduceCtorEq];refine⟨fun h=>by rw[ydnt hk' hno h],fun h=>⟨ikw (by omega) (by omega),?_⟩⟩
   refine yj (k+1) ⟨by omega,?_⟩ (by omega) ?_
   .rw[zO hk',List.findIdx?_append,hno];rw[getD_at hk']at h;simp[h]
   .refine yh [] [] [] ?_;simp only[allQ,live,yc,yx,go_sem,zA,↓reduceIte,reduceCtorEq];simp
  .obtain rfl:k=p.rules.length:=by omega
   rw[ybra hno]
theorem yqz(p:ProgT)(g:Gr)(c:Conf)(v:Nat):∀(sets:List (Int×Ex)) (s0:List Int),(yrp p g c v s0 sets).length=s0.length
 |[],_=>rfl
 | a::sets,s0=>by
   show(yrp p g c v (s0.set _ _) sets).length=_;rw[yqz p g c v sets];simp
theorem ybph(p:ProgT)(g:Gr)(c:Conf)(v:Nat)(s0:List Int)(sets:List (Int×Ex))(k:Nat)(h:k<sets.length) :
 yrp p g c v s0 (sets.take (k+1))=(yrp p g c v s0 (sets.take k)).set (sets.getD k default).1.toNat (ymb (p.vars.getD (sets.getD k default).1.toNat default).kind (ybn g v (p.vars.getD (sets.getD k default).1.toNat default)) (yfn g c v (sets.getD k default).2 (-1))):=by
 unfold yrp;rw[zO h,zAU,getD_at h];rfl
theorem yoc(p:ProgT)(g:Gr)(c:Conf)(s:Nat){v:Nat}(hv:v<c.length):(yfs p g c s).getD v []=if s.testBit v then yjt p g c v (yee p g c v).toNat else c.getD v []:=by
 unfold yfs;simp[zL,hv]
theorem yks(p:ProgT)(g:Gr)(c:Conf)(s:Nat):(yfs p g c s).length=c.length:=by simp[yfs]
end Sh
end
section
namespace Sh
open Go Ev
def ybcz(p:ProgT)(g:Gr):Bool:=p.vars.all fun x=>decide (x.kind=1)==false||(decide ((ybn g 0 x).1<=(ybn g 0 x).2)&&decide ((ybn g 0 x).2-(ybn g 0 x).1+1<=4096))
def yfe(Q1 Q2:(Nat->Option ABlk)->Value->Prop)(p:ProgR):List SV:=[.a (.string p.name),.ex Q1 (yeu p.vars),.ex Q2 (ydd p.rules)]
theorem ybbg(Q1 Q2:(Nat->Option ABlk)->Value->Prop)(p:ProgR):Sim (.ag (yfe Q1 Q2 p)) (.ag (ymp p)):=ybke ⟨Sim.refl _,ybch _ _,ybch _ _,trivial⟩
theorem yyi{Q1 Q2:(Nat->Option ABlk)->Value->Prop}(p:ProgT){g:Gr}(hg:ybj g)(hp:p.ok=true)(hf:ybcz p g=true)(hV:Returns zG 130 [.ag (yfe Q1 Q2 p.raw)] (.b true))(hG:Returns zG 131 [grV g] (.b true)) :
 Returns zG 62 [.ag (yfe Q1 Q2 p.raw),grV g] (.i .i64 0):=by
 refine Returns.of (ydpz _ _ ?_);have hp':=hp;unfold ProgT.ok at hp';simp only[zF,decide_eq_true_eq]at hp';have hvars:p.raw.vars=p.vars:=rfl;simp only[yfe,grV]at hV hG;simp only[c62,ydvg,ydnz,ydmr,ydsm,yduc,yduy,yfe,grV,go_sem,zA,zB,zC,↓reduceIte,reduceCtorEq];refine hV.use ?_;simp only[ybg,go_sem,zA,zB,↓reduceIte];refine hG.use ?_;simp only[yeu,hvars,go_sem,zA,zB,zD,↓reduceIte,reduceCtorEq]
 have hall:∀k,k<p.vars.length->(p.vars.getD k default).ok=true/\((p.vars.getD k default).kind=1->(ybn g 0 (p.vars.getD k default)).1<=(ybn g 0 (p.vars.getD k default)).2/\(ybn g 0 (p.vars.getD k default)).2-(ybn g 0 (p.vars.getD k default)).1+1<=4096):=fun k hk=>by
  rw[getD_at hk];refine⟨List.all_eq_true.1 hp'.1.1.2 _ (zJ _),fun h1=>?_⟩;have:=List.all_eq_true.1 hf _ (zJ hk)
  simpa[h1]using this
 refine ybd (σ:=Nat) (fun k=>⟨[(18,.i .i64 k),(17,.i .i64 p.vars.length),(16,.ex Q1 (yeu p.vars)),(3,.pt (3,0) 0 0)],[(3,.one (some ⟨27,true,2,1,fun _=>[ybc g.ids,yu g.ports]⟩))]⟩) (fun k=>k<=p.vars.length) (fun k=>p.vars.length-k) 0 (zM _) ?_ ?_
 .refine yh [] [] [] ?_;simp only[yeu,allQ,live,yc,zH,go_sem,zA,zC,↓reduceIte,reduceCtorEq]
 .intro k hk;obtain⟨x,hx⟩:∃x,p.vars.getD k default=x:=⟨_,rfl⟩;simp only[ydpl,ydtn,ydrs,ydvi,ycoz,ydbe,ycvr,ycwo,yeu,varC,splice,yx,hx,go_sem,zA,zB,zD,zC,↓reduceIte,reduceCtorEq];intro hlt;have hk':k<p.vars.length:=by omega
  obtain⟨hxo,hxb⟩:=hall k hk';rw[hx]at hxo hxb;have hB:=yxx hg hxo (v:=0) (by have:=hg.1;omega)
  simp only[varC,grV,zH]at hB;obtain⟨hb1,hb2⟩:=yup hg hxo;have hvo:=ybnm hxo;refine⟨by omega,fun h1=>⟨ikw (by omega) (by omega),?_⟩,fun h1=>hB.use ?_⟩
  .refine yj (k+1) (by omega) (by omega) ?_
   refine yh [] [] [] ?_;simp only[allQ,live,yc,yx,go_sem,zA,zC,↓reduceIte,reduceCtorEq];omega
  .obtain⟨hb3,hb4⟩:=hxb h1;obtain⟨b1,hb1'⟩:∃b,(ybn g 0 x).1=b:=⟨_,rfl⟩;obtain⟨b2,hb2'⟩:∃b,(ybn g 0 x).2=b:=⟨_,rfl⟩;have e:ybn g 0 x=(x.lo,x.hi+x.perNode*(g.ids.length:Int)+x.perID*maxI g.ids):=by unfold ybn;rw[if_pos h1]
   rw[e]at hb1' hb2';simp only[]at hb1' hb2';simp only[e]at hb3 hb4;rw[e];simp only[ybg,yx,go_sem,zA,zB,↓reduceIte,reduceCtorEq];simp only[hb1',hb2']at hb3 hb4 ⊢;refine⟨fun _=>⟨ikw (by omega) (by omega),ikw (by omega) (by omega),fun hgt=>absurd hb4 (by omega),fun _=>⟨ikw (by omega) (by omega),?_⟩⟩,fun hlt2=>absurd hb3 (by omega)⟩
   refine yj (k+1) (by omega) (by omega) ?_
   refine yh [] [] [] ?_;simp only[allQ,live,yc,yx,go_sem,zA,zC,↓reduceIte,reduceCtorEq];omega
end Sh
end
section
namespace Sh
open Go Ev Go.RowKit
theorem ybyd{g:Gr}(hg:ybj g){x:VarR}(hx:x.ok=true)(v:Nat):-4096<=(ybn g v x).1/\(ybn g v x).2<=100000:=by
 obtain⟨h1,h2,h3,h4,h5⟩:=ybnm hx;obtain⟨h6,h7⟩:=yup hg hx;have h8:=hg.deg_lt (v:=v);unfold ybn;split
 .exact⟨by simp only[];omega,by simp only[];omega⟩
 .split
  .exact⟨by simp only[];omega,by simp only[];omega⟩
  .split
   .exact⟨by simp only[];omega,by simp only[];omega⟩
   .exact⟨by simp only[];omega,by simp only[];omega⟩
theorem ybmp{p:ProgT}{g:Gr}(hg:ybj g)(hp:p.ok=true){c:Conf}(hc:ydk p g c=true):ConfIn g.ports.length p.vars.length c:=by
 have h:=(yff _ _ _).1 hc;have hp':=hp;unfold ProgT.ok at hp';simp only[zF,decide_eq_true_eq]at hp';refine⟨h.1.trans hg.2.2.1,fun s hs=>?_⟩;obtain⟨v,hv,rfl⟩:=zAR hs;have h2:=h.2 v _ (zQ hv);have hl:(c[v]).length=p.vars.length:=by have:=h2.1;simpa using this
 refine⟨hl,fun x hx=>?_⟩;obtain⟨i,hi,rfl⟩:=zAR hx;have hi':i<p.vars.length:=by omega
 have h3:=h2.2 i (ybn g v p.vars[i]) _ (by simp[hi']) (zQ hi)
 have h4:=ybyd hg (List.all_eq_true.1 hp'.1.1.2 _ (zJ hi')) v;unfold InB;omega
structure Checked(Q1 Q2:(Nat->Option ABlk)->Value->Prop)(p:ProgT)(g:Gr):Prop where
 hg:ybj g
 hp:p.ok=true
 hf:ybcz p g=true
 hV:Returns zG 130 [.ag (yfe Q1 Q2 p.raw)] (.b true)
theorem Checked.gv{Q1 Q2:(Nat->Option ABlk)->Value->Prop}{p:ProgT}{g:Gr}(h:Checked Q1 Q2 p g):Returns zG 131 [grV g] (.b true):=by
 have e:=yxy (ydim h.hg);rw[(yfb g).2 h.hg]at e;exact e
section
variable {Q1 Q2:(Nat->Option ABlk)->Value->Prop}{p:ProgT}{g:Gr}
theorem ybqw(k:Int):Returns zG 57 [.i .i64 k] (.b (decide (1<=k)&&decide (k<=4))):=by
 refine Returns.of (ydlz _ _ ?_);simp only[c57,ydti,ydxe,ytr,go_sem,zA,zB,↓reduceIte,reduceCtorEq]
 by_cases h:k>=1<;>simp[h]
end
end Sh
end
section
theorem yoa(s a:Nat):∀b,yhm s (a+b)=yhm s a+yhm (s>>>a) b
 |0=>rfl
 | b+1=>by
   show yhm s (a+b)+(s.testBit (a+b)).toNat=_;rw[yoa s a b];show _=yhm s a+(yhm (s>>>a) b+((s>>>a).testBit b).toNat);rw[Nat.testBit_shiftRight];omega
theorem ypw(s:Nat):∀b,b<=8->yhm (s&&&255) b=yhm s b
 |0,_=>rfl
 | b+1,h=>by
   show yhm _ b+_=yhm s b+_;rw[ypw s b (by omega),zAK,show(255:Nat)=2^8-1 from rfl,Nat.testBit_two_pow_sub_one]
   simp[show b<8 by omega]
theorem ybpz(s:Nat):popP s=yhm (s>>>24&&&255) 8+yhm (s>>>16&&&255) 8+yhm (s>>>8&&&255) 8+yhm (s&&&255) 8:=by
 simp only[ypw _ 8 (zAO _)];have h1:=yoa s 8 24;have h2:=yoa (s>>>8) 8 16;have h3:=yoa (s>>>8>>>8) 8 8;simp only[<-Nat.shiftRight_add,zB]at h1 h2 h3;unfold popP;omega
namespace Sh
open Ev Go.RowKit
theorem yzl:∀k,k<256->ywo.getD k 0=yhm k 8:=by decide
theorem ydcf:ywo.length=256:=by decide
theorem ycdb(a v:Nat):(a:Int).fdiv (2^v)=((a>>>v:Nat):Int):=by
 have h:=ydgd (a:=a) (v:=v)
 rwa [zN]at h
theorem yctx{a:Nat}(ha:a<2^32):IntKind.wrap .u32 (((zI (IntKind.bits .u32) (a:Int))&&&zI (IntKind.bits .u32) 255).toNat:Int)=((a&&&255:Nat):Int):=u32_and (b:=255) ha (by decide)
theorem yduw{a n:Nat}(h:a<2^32):a>>>n<2^32:=by rw[zV];exact zAF (Nat.div_le_self _ _) h
theorem ybmz{s:Nat}(hs:s<2^32):Returns zG 113 [.i .u32 s] (.i .i64 (popP s)):=by
 refine Returns.of (ydem _ _ ?_);simp only[c113,ycxt,ydbm,clash,go_sem,zAL,zA,zB,↓reduceIte,reduceCtorEq];have f1:=yctx hs;have f2:=fun n=>yctx (yduw (n:=n) hs);simp only[IntKind.bits]at f1 f2;simp only[ycdb,f1,f2,zN,ydcf];have hp:=ybpz s;have l1:s>>>24<256:=by rw[zV];omega
 have b1:∀x:Nat,x&&&255<256:=fun x=>zAF Nat.and_le_right (by omega)
 rw[ypw (s>>>24) 8 (zAO _)]at hp;rw[yzl _ l1,yzl _ (b1 (s>>>16)),yzl _ (b1 (s>>>8)),yzl _ (b1 s)];have q1:=ylj (s>>>24) 8;have q2:=ylj (s>>>16&&&255) 8;have q3:=ylj (s>>>8&&&255) 8;have q4:=ylj (s&&&255) 8;have w1:=b1 (s>>>16);have w2:=b1 (s>>>8);have w3:=b1 s;have u8k:∀x:Int,0<=x->x<=255->inK .u8 x:=fun x h1 h2=>⟨by simpa[IntKind.min,IntKind.signed]using h1,by simpa[IntKind.max,IntKind.bits,IntKind.signed]using h2⟩
 refine⟨⟨by omega,by decide⟩,⟨by omega,by omega⟩,⟨by omega,by decide⟩,by omega,u8k _ (by omega) (by omega),⟨by omega,by decide⟩,by omega,u8k _ (by omega) (by omega),by omega,u8k _ (by omega) (by omega),?_⟩
 rw[wrap_in (ikw (by omega) (by omega)),hp]
 exact Sim.refl _
def cntV(k:Cnt):List SV:=[.i .i64 k.steps,.i .i64 k.moves,.i .i64 k.rounds,.i .i64 k.begun,.i .u32 k.pend]
def usV(l:List Nat):SV:=.sl 1 l.length (fun k=>[.i .u32 ((l.getD k 0:Nat):Int)])
end Sh
end
section
def netP(ls:List (Int×Int)):Nat:=ls.foldl (fun a l=>a|||2^l.1.toNat) 0
theorem ybwm(ls:List (Int×Int))(k:Nat)(h:k<ls.length):netP (ls.take (k+1))=netP (ls.take k)|||2^(ls.getD k (0,0)).1.toNat:=by
 unfold netP;rw[zO h,zAU,Sh.getD_at h];rfl
theorem ydeu(ls:List (Int×Int))(h:∀l∈ls,l.1<24):netP ls<2^24:=by
 unfold netP
 have:∀(ls:List (Int×Int)) (a:Nat),(∀l∈ls,l.1<24)->a<2^24->ls.foldl (fun a l=>a|||2^l.1.toNat) a<2^24:=by
  intro ls
  induction ls with
  |nil=>intro a _ h;exact h
  | cons l ls ih =>
    intro a hl ha;refine ih _ (fun x hx=>hl x (zAA _ hx)) (zAT ha ?_);have:=hl l zAE;exact zAC (by omega) (by omega)
 exact this ls 0 h (by decide)
namespace Sh
open Ev Go.RowKit
theorem ybqy{g:Gr}(hg:ybj g):Returns zG 124 [grV g] (usV (g.ports.map netP)):=by
 refine Returns.of (ydcy _ _ ?_);have h3:=hg.2.2.1;have h4:=hg.2.1;simp only[c124,ydax,yctz,ydam,grV,ybc,yu,go_sem,zA,zB,zC,↓reduceIte,reduceCtorEq];refine⟨by omega,?_⟩
 obtain⟨n,hn⟩:∃n,g.ports.length=n:=⟨_,rfl⟩
 let val:Nat->Nat->Nat:=fun k i=>if i<k then netP (g.ports.getD i [])else 0
 refine ybd (σ:=Nat) (fun k=>⟨[(15,.i .i64 k),(14,.i .i64 n),(13,yu g.ports),(3,.os (11,0) 0 n true)],
  [(11,.one (some ⟨77,false,1,n,fun i=>[.i .u32 (val k i:Nat)]⟩))]⟩) (fun k=>k<=n) (fun k=>n-k) 0 (zM _) ?_ ?_
 .refine yh [] [] [] ?_;simp only[yu,hn,allQ,live,yc,yx,zH,go_sem,zA,zC,↓reduceIte,reduceCtorEq];simp[val]
 .intro k hk;obtain⟨L,hL⟩:∃L,g.ports.getD k []=L:=⟨_,rfl⟩;simp only[yctt,ycst,ycyx,yu,yw,hn,hL,go_sem,zA,zB,↓reduceIte,reduceCtorEq];refine⟨fun hlt=>?_,fun hlt=>?_⟩
  .have hk':k<n:=by omega
   have hkp:k<g.ports.length:=by omega
   have hlk:∀l∈L,0<=l.1/\l.1<24:=fun l hl=>by
    rw[<-hL,getD_at hkp]at hl;obtain⟨a1,a2,_⟩:=(hg.2.2.2.2.2.1 ⟨k,hkp⟩).1 l hl;exact⟨a1,by omega⟩
   have hdeg:=hg.deg_lt (v:=k);rw[hL]at hdeg;refine⟨by omega,?_⟩
   obtain⟨m,hm⟩:∃m,L.length=m:=⟨_,rfl⟩;rw[hm]
   let val2:Nat->Nat->Nat:=fun j i=>if i<k then netP (g.ports.getD i [])else if i=k then netP (L.take j)else 0
   refine ybd (σ:=Nat) (fun j=>⟨[(22,.i .i64 j),(21,.i .i64 m),(20,yw L),(4,.i .i64 k),(15,.i .i64 k),(14,.i .i64 n),(13,yu g.ports),(3,.os (11,0) 0 n true)],
    [(11,.one (some ⟨77,false,1,n,fun i=>[.i .u32 (val2 j i:Nat)]⟩))]⟩) (fun j=>j<=m) (fun j=>m-j) 0 (zM _) ?_ ?_
   .refine yh [] [] [] ?_;simp only[yu,yw,hn,hm,allQ,live,yc,yx,zH,go_sem,zA,zC,↓reduceIte,reduceCtorEq];intro i hi;simp only[val,val2]
    by_cases q:i<k
    .rw[if_pos q,if_pos q]
    .rw[if_neg q,if_neg q]
     by_cases q2:i=k
     .rw[if_pos q2];rfl
     .rw[if_neg q2]
   .intro j hj;obtain⟨l,hl⟩:∃l,L.getD j (0,0)=l:=⟨_,rfl⟩;simp only[ycrc,ycyd,yu,yw,hn,hm,hl,go_sem,zA,zB,zC,↓reduceIte,reduceCtorEq];refine⟨fun hlj=>⟨by omega,?_⟩,fun hlj=>?_⟩
    .have hj':j<L.length:=by omega
     have hl2:=hlk l (by rw[<-hl,getD_at hj'];exact zJ _)
     obtain⟨t,ht⟩:∃t:Nat,l.1=t:=⟨l.1.toNat,by omega⟩
     have h24t:t<24:=by omega
     have hval:val2 j k<2^24:=by
      simp only[val2,if_neg (zAY k),if_true];exact ydeu _ fun l hl=>(hlk l (List.mem_of_mem_take hl)).2
     have hp:2^t<2^24:=zAC (by omega) h24t
     have hsh:=ybjv (v:=t) (by omega)
     have hor:=u32_or (a:=val2 j k) (b:=2^t) (by omega) (by omega)
     rw[zN]at hsh;simp only[IntKind.bits]at hor;simp only[ycqf,ht,clash,hsh,hor,go_sem,zA,zB,zD,↓reduceIte,reduceCtorEq];refine⟨by omega,by omega,⟨by omega,by show _<((32:Nat):Int);omega⟩,by omega,by omega,by decide,?_⟩
     simp only[yczc,go_sem,zA,zB,↓reduceIte,reduceCtorEq];refine⟨ikw (by omega) (by omega),?_⟩
     refine yj (j+1) (by omega) (by omega) ?_
     refine yh [] [] [] ?_;simp only[allQ,live,yc,yx,go_sem,zA,zC,↓reduceIte,reduceCtorEq];refine⟨by omega,fun i hi=>?_⟩
     have hsn:=ybwm L j hj';rw[hl,ht,zN]at hsn
     by_cases q:i=k
     .simp only[if_pos q];subst q;simp only[go_sem,live,yx,go_sem,reduceCtorEq];simp only[val2,if_neg (zAY i),if_true,hsn]
     .simp only[if_neg q];simp only[go_sem,live,yx,go_sem,reduceCtorEq];simp only[val2,if_neg q]
    .obtain rfl:j=m:=by omega
     simp only[ycew,go_sem,zA,zB,↓reduceIte,reduceCtorEq];refine⟨ikw (by omega) (by omega),?_⟩
     refine yj (k+1) (by omega) (by omega) ?_
     refine yh [] [] [] ?_;simp only[allQ,live,yc,yx,go_sem,zA,zC,↓reduceIte,reduceCtorEq];refine⟨by omega,fun i hi=>?_⟩
     simp only[val,val2]
     by_cases q:i<k
     .rw[if_pos q,if_pos (by omega)]
     .rw[if_neg q]
      by_cases q2:i=k
      .rw[if_pos q2,if_pos (by omega),q2,hL,<-hm,zAV]
      .rw[if_neg q2,if_neg (by omega)]
  .obtain rfl:k=n:=by omega
   simp only[ybrw,go_sem,zA,zB,↓reduceIte,reduceCtorEq];unfold usV;rw[zAB,hn];refine ybbx fun i hi=>?_;have hi':i<g.ports.length:=by omega
   simp only[val,if_pos hi];simp[zL,hi']
theorem ybcy(net:SV){e s:Nat}(he:e<2^24)(h0:s≠0)(hs:s<2^24)(hsub:difB s e=0):Returns zG 171 [net,.i .i64 3,.i .u32 e,.i .u32 s] (.b true):=by
 refine Returns.of (ydfd _ _ ?_);have z0:((s:Int)==0)=false:=by simp;omega
 have a0:=u32_andNot (a:=s) (b:=e) (by omega) (by omega)
 rw[hsub]at a0;simp only[zH,IntKind.bits]at a0;simp only[c171,ycpg,ycmh,z0,a0,Int.reduceBNe,go_sem,zA,zB,↓reduceIte,reduceCtorEq];simp only[ycuk,yczq,ycts,ycxc,ybvk,Int.reduceBEq,ytr,go_sem,zA,zB,↓reduceIte,reduceCtorEq]
end Sh
end
section
namespace Sh
open Go Ev
def ydto:LO:=[o3 (.mv (ci' 0)) 4 0]
def ydol:LO:=[mv' 1 5 0,o3 (.bin .lss (.tmp 5) (ci' 1)) 6 1]
def ydkm:LO:=[o3 (.mv (ci' 0)) 4 0]
def ydsx:LO:=[mv' 0 7 0,mv' 1 8 0,bn' .rem 7 8 9 3,mv' 9 0 7]
def ydkd:LO:=[mv' 0 10 0,o3 (.bin .lss (.tmp 10) (ci' 0)) 11 1]
def ydtv:LO:=[mv' 0 12 0,mv' 1 13 0,bn' .add 12 13 14 3,mv' 14 0 7]
def ydpt:LO:=[mv' 0 15 0,mv' 15 4 1]
def c49:SC:=(.seq (.reg false ydto) (.seq (.seq (.reg false ydol) (.cond (.tmp 6) (.seq (.reg false ydkm) .ret) .skip)) (.seq (.reg false ydsx) (.seq (.seq (.reg false ydkd) (.cond (.tmp 11) (.reg false ydtv) .skip)) (.seq (.reg false ydpt) .ret)))))
theorem ydtm:Fn 49 c49 [.t 4]:=fn_0 Tryz.func49 (by kernel_rfl) (by kernel_rfl)
def ydmx:LO:=[o3 (.mv (ci' 0)) 4 0]
def ydsh:LO:=[mv' 1 5 0,mv' 0 6 0,ln' 6 7 2,bn' .lss 5 7 8 7]
def ydpv:LO:=[mv' 0 9 0,mv' 1 10 0,ix' 1 9 10 11 3,ld' false 1 11 12 7,mv' 12 4 15]
def yduk:LO:=[o3 (.mv (ci' 0)) 4 0]
def c50:SC:=(.seq (.reg false ydmx) (.seq (.seq (.reg false ydsh) (.cond (.tmp 8) (.seq (.reg false ydpv) .ret) .skip)) (.seq (.reg false yduk) .ret)))
theorem ydwv:Fn 50 c50 [.t 4]:=fn_0 Tryz.func50 (by kernel_rfl) (by kernel_rfl)
def ycqy:LO:=[o3 (.box 27 (.tmp 0)) 3 0,o3 (.mv (.const (.bool false))) 6 0]
def ycrr:LO:=[o3 (.mv (ci' 0)) 7 0]
def ycyk:LO:=[mv' 7 8 0,fa' 1 1 3 9 0,ld' false 1 9 10 2,mv' 1 11 0,ix' 1 10 11 12 14,ld' false 1 12 13 30,ln' 13 14 62,bn' .lss 8 14 15 127]
def ycww:LO:=[fa' 1 1 3 18 0,ld' false 1 18 19 1,mv' 1 20 0,ix' 1 19 20 21 7,ld' false 1 21 22 15,mv' 7 23 0,ix' 2 22 23 24 63,fa' 0 1 24 25 127,ld' false 1 25 26 255,mv' 2 27 0,bn' .eql 26 27 28 1023]
def ycmr:LO:=[o3 (.mv (.const (.bool true))) 6 0]
def ydbi:LO:=[mv' 7 16 0,o3 (.bin .add (.tmp 16) (ci' 1)) 17 1,mv' 17 7 3]
def ycyb:LO:=[o3 (.mv (.const (.bool false))) 6 0]
def c116:SC:=(.seq (.reg false ycqy) (.seq (.seq (.reg false ycrr) (.block 0 (.loop (.seq (.seq (.reg false ycyk) (.cond (.tmp 15) .skip (.exit 0))) (.seq (.block 1 (.seq (.reg false ycww) (.cond (.tmp 28) (.seq (.reg false ycmr) .ret) .skip))) (.reg false ydbi)))))) (.seq (.reg false ycyb) .ret)))
theorem ydcm:Fn 116 c116 [.t 6]:=fn_0 Tryz.func116 (by kernel_rfl) (by kernel_rfl)
def ydcc:LO:=[o3 (.box 24 (.tmp 0)) 5 0,o3 (.box 27 (.tmp 1)) 6 0]
def ydda:LO:=[mv' 2 12 0,mv' 3 13 0,bn' .eql 12 13 14 3,mv' 14 15 7,⟨.load true 2 (.tmp 6),some 16,some (15,false),15⟩,⟨.mv (.tmp 2),some 17,some (15,false),15⟩,⟨.mv (.tmp 3),some 18,some (15,false),15⟩,⟨.call (.func 116) [(.tmp 16),(.tmp 17),(.tmp 18)],some 19,some (15,false),127⟩,o3 (.pick (.tmp 15) (.const (.bool true)) (.tmp 19)) 20 255]
def ybow:LO:=[mv' 3 21 0,mv' 4 22 0,o3 (.build [.i .i64 0,.i .i64 0] [(0,1,(.tmp 21)),(1,1,(.tmp 22))]) 23 3,mv' 2 24 0,mv' 4 25 0,o3 (.build [.i .i64 0,.i .i64 0] [(0,1,(.tmp 24)),(1,1,(.tmp 25))]) 26 24,o3 (.alloc 68 1 [.i .i64 0,.i .i64 0]) 10 0,o3 (.alloc 68 1 [.i .i64 0,.i .i64 0]) 11 0,o0 (.store 2 (.tmp 10) (.tmp 23)) 199,o0 (.store 2 (.tmp 11) (.tmp 26)) 511]
def ybrf:LO:=[fa' 5 1 5 27 0,ld' false 1 27 28 1]
def ybxd:LO:=[fa' 1 1 6 29 0,ld' false 1 29 30 1,mv' 2 31 0,ld' true 2 10 32 0,o3 (.bslice 68 2 1 [.i .i64 0,.i .i64 0] [(0,2,(.tmp 32))]) 33 8,fa' 1 1 6 34 0,ld' false 1 34 35 32,mv' 2 36 0,ix' 1 35 36 37 224,ld' false 1 37 38 480,o3 (.app 68 2 16 (.tmp 33) (.tmp 38)) 39 1016,ix' 1 30 31 40 2047,o0 (.store 1 (.tmp 40) (.tmp 39)) 4095]
def ybui:LO:=[fa' 1 1 6 41 0,ld' false 1 41 42 1,mv' 3 43 0,ld' true 2 11 44 0,o3 (.bslice 68 2 1 [.i .i64 0,.i .i64 0] [(0,2,(.tmp 44))]) 45 8,fa' 1 1 6 46 0,ld' false 1 46 47 32,mv' 3 48 0,ix' 1 47 48 49 224,ld' false 1 49 50 480,o3 (.app 68 2 16 (.tmp 45) (.tmp 50)) 51 1016,ix' 1 42 43 52 2047,o0 (.store 1 (.tmp 52) (.tmp 51)) 4095]
def ydlk:LO:=[fa' 1 1 6 53 0,ld' false 1 53 54 1,mv' 2 55 0,fa' 1 1 6 56 0,ld' false 1 56 57 8,mv' 3 58 0,fa' 1 1 6 59 0,ld' false 1 59 60 64,mv' 2 61 0,ix' 1 60 61 62 448,ld' false 1 62 63 960,ld' true 2 10 64 0,o3 (.bslice 68 2 1 [.i .i64 0,.i .i64 0] [(0,2,(.tmp 64))]) 65 2048,o3 (.app 68 2 16 (.tmp 63) (.tmp 65)) 66 8128,fa' 1 1 6 67 0,ld' false 1 67 68 16384,mv' 3 69 0,ix' 1 68 69 70 114688,ld' false 1 70 71 245760,ld' true 2 11 72 0,o3 (.bslice 68 2 1 [.i .i64 0,.i .i64 0] [(0,2,(.tmp 72))]) 73 524288,o3 (.app 68 2 16 (.tmp 71) (.tmp 73)) 74 2097088,ix' 1 54 55 75 4194247,o0 (.store 1 (.tmp 75) (.tmp 66)) 8388551,ix' 1 57 58 76 16777215,o0 (.store 1 (.tmp 76) (.tmp 74)) 33554431]
def c48:SC:=(.seq (.reg false ydcc) (.seq (.seq (.reg false ydda) (.cond (.tmp 20) .ret .skip)) (.seq (.reg false ybow) (.seq (.seq (.reg false ybrf) (.cond (.tmp 28) (.seq (.reg true ybxd) (.seq (.reg true ybui) .ret)) .skip)) (.reg true ydlk)))))
theorem yden:FnM 48 c48 []:=fn_m Tryz.func48 (by kernel_rfl) (by kernel_rfl)
def ydqv:LO:=[o3 (.box 24 (.tmp 0)) 2 0,o3 (.alloc 27 1 [.a (.slice none 0 0),.a (.slice none 0 0)]) 4 0]
def ydqe:LO:=[fa' 0 1 2 10 0,ld' false 1 10 11 1,o3 (.wsub (.tmp 11) (ci' 1)) 12 3,mv' 1 13 0,cl' 49 [12,13] 14 15,o3 (.bin .add (ci' 1) (.tmp 14)) 15 31,mv' 15 5 63]
def ydrd:LO:=[mv' 5 16 0,o3 (.mk 135 1 24 [.a (.slice none 0 0)] (.tmp 16) (.tmp 16)) 17 1,o3 (.build [.a (.slice none 0 0),.a (.slice none 0 0)] [(1,1,(.tmp 17))]) 18 3,o3 (.alloc 27 1 [.a (.slice none 0 0),.a (.slice none 0 0)]) 6 0,o0 (.store 2 (.tmp 6) (.tmp 18)) 15]
def ydmo:LO:=[o3 (.mv (ci' 0)) 7 0]
def ydql:LO:=[mv' 7 19 0,mv' 5 20 0,bn' .lss 19 20 21 3]
def ydrv:LO:=[fa' 3 1 2 24 0,ld' false 1 24 25 1,mv' 7 26 0,cl' 50 [25,26] 27 7,o3 (.call (.func 49) [(.tmp 27),(ci' 256)]) 28 15,mv' 28 8 31]
def ydml:LO:=[o3 (.mv (ci' 0)) 9 0]
def ydqm:LO:=[mv' 9 29 0,mv' 7 30 0,bn' .lss 29 30 31 3]
def ycwt:LO:=[fa' 0 1 6 34 0,ld' false 1 34 35 1,mv' 9 36 0,ix' 1 35 36 37 7,ld' false 1 37 38 15,mv' 8 39 0,bn' .eql 38 39 40 63]
def ycty:LO:=[mv' 8 41 0,o3 (.bin .add (.tmp 41) (ci' 1)) 42 1,o3 (.bin .rem (.tmp 42) (ci' 256)) 43 3,mv' 43 8 7,o3 (.mv (.const (.int .i64 (-1)))) 9 15]
def yduv:LO:=[mv' 9 32 0,o3 (.bin .add (.tmp 32) (ci' 1)) 33 1,mv' 33 9 3]
def ycwy:LO:=[fa' 0 1 6 44 0,ld' false 1 44 45 1,mv' 8 46 0,o3 (.bslice 3 1 1 [.i .i64 0] [(0,1,(.tmp 46))]) 47 4,o3 (.app 3 1 8 (.tmp 45) (.tmp 47)) 48 15,fa' 0 1 6 49 31,o0 (.store 1 (.tmp 49) (.tmp 48)) 63]
def ydvt:LO:=[mv' 7 22 0,o3 (.bin .add (.tmp 22) (ci' 1)) 23 1,mv' 23 7 3]
def ycqi:LO:=[ld' true 2 6 50 0,o0 (.store 2 (.tmp 4) (.tmp 50)) 1]
def c47:SC:=(.seq (.reg false ydqv) (.seq (.reg false ydqe) (.seq (.reg false ydrd) (.seq (.seq (.reg false ydmo) (.block 0 (.loop (.seq (.seq (.reg false ydql) (.cond (.tmp 21) .skip (.exit 0))) (.seq (.block 1 (.seq (.reg false ydrv) (.seq (.seq (.reg false ydml) (.block 2 (.loop (.seq (.seq (.reg false ydqm) (.cond (.tmp 31) .skip (.exit 2))) (.seq (.block 3 (.seq (.reg false ycwt) (.cond (.tmp 40) (.reg false ycty) .skip))) (.reg false yduv)))))) (.reg false ycwy)))) (.reg false ydvt)))))) (.seq (.reg false ycqi) .ret)))))
theorem ydjv:FnM 47 c47 [.c 4 true 2]:=fn_m Tryz.func47 (by kernel_rfl) (by kernel_rfl)
def ydqs:LO:=[o3 (.box 24 (.tmp 0)) 2 0,o3 (.alloc 27 1 [.a (.slice none 0 0),.a (.slice none 0 0)]) 4 0]
def ydpp:LO:=[ld' true 6 2 7 0,mv' 1 8 0,cl' 47 [7,8] 9 3,o3 (.alloc 27 1 [.a (.slice none 0 0),.a (.slice none 0 0)]) 5 0,o0 (.store 2 (.tmp 5) (.tmp 9)) 15]
def ydlw:LO:=[o3 (.mv (ci' 1)) 6 0]
def ydil:LO:=[mv' 6 10 0,fa' 1 1 5 11 0,ld' false 1 11 12 2,ln' 12 13 6,bn' .lss 10 13 14 15]
def ydog:LO:=[ld' true 6 2 17 0,ld' true 2 5 18 0,fa' 1 1 2 19 0,ld' false 1 19 20 4,mv' 6 21 0,o3 (.bin .sub (.tmp 21) (ci' 1)) 22 16,cl' 50 [20,22] 23 60,mv' 6 24 0,cl' 49 [23,24] 25 252,mv' 6 26 0,fa' 2 1 2 27 0,ld' false 1 27 28 1024,mv' 6 29 0,o3 (.bin .sub (.tmp 29) (ci' 1)) 30 4096,cl' 50 [28,30] 31 15868,o3 (.call (.func 49) [(.tmp 31),(ci' 15)]) 32 32252,o3 (.bin .add (ci' 1) (.tmp 32)) 33 65020,cl' 48 [17,18,25,26,33] 34 131071]
def ydui:LO:=[mv' 6 15 0,o3 (.bin .add (.tmp 15) (ci' 1)) 16 1,mv' 16 6 3]
def ydtl:LO:=[ld' true 2 5 35 0,o0 (.store 2 (.tmp 4) (.tmp 35)) 1]
def c10:SC:=(.seq (.reg false ydqs) (.seq (.reg false ydpp) (.seq (.seq (.reg false ydlw) (.block 0 (.loop (.seq (.seq (.reg false ydil) (.cond (.tmp 14) .skip (.exit 0))) (.seq (.block 1 (.reg true ydog)) (.reg false ydui)))))) (.seq (.reg false ydtl) .ret))))
theorem ydgj:FnM 10 c10 [.c 4 true 2]:=fn_m Tryz.func10 (by kernel_rfl) (by kernel_rfl)
end Sh
end
section
namespace Sh
open Ev Go.RowKit
instance:Inhabited Cnt:=⟨⟨0,0,0,0,0⟩⟩
structure DaemonOk(kind:Int)(net:List Nat)(res:Nat->Nat->Nat):Prop where
 resolve:∀(e w:Nat),e<2^24->e<2^net.length->e≠0->w<2^32->Returns zG 0 [usV net,.i .i64 kind,.i .u32 e,.i .u32 w] (.i .u32 (res e w))
 permits:∀(e w:Nat),e<2^24->e<2^net.length->e≠0->w<2^32->Returns zG 171 [usV net,.i .i64 kind,.i .u32 e,.i .u32 (res e w)] (.b true)
 zero:∀(w:Nat),w<2^32->∃x:Nat,Returns zG 0 [usV net,.i .i64 kind,.i .u32 0,.i .u32 w] (.i .u32 x)
 sub:∀(e w:Nat),e≠0->e<2^24->res e w≠0/\subB (res e w) e
theorem ybat{s e n:Nat}(h:subB s e)(he:e<2^n):s<2^n:=by
 refine zU _ fun i hi=>?_;cases hb:s.testBit i with
 |false=>rfl
 | true =>
   have:=h i hb;rw[zS (zW he (zT (by omega) hi))]at this
   cases this
end Sh
end
section
theorem yclf{kind:Int}{b:Int×Int}(hb:b.1<=b.2)(h3:kind=3->b.1 <= -1 /\ -1<=b.2)(x:Int):b.1<=ymb kind b x/\ymb kind b x<=b.2:=by
 unfold ymb;split
 .assumption
 .split
  .exact h3 (by assumption)
  .split<;>omega
namespace Sh
theorem ycff{p:ProgT}{g:Gr}(hg:ybj g)(hp:p.ok=true)(hf:ybcz p g=true){x:VarR}(hx:x∈p.vars)(v:Nat):(ybn g v x).1<=(ybn g v x).2/\(x.kind=3->(ybn g v x).1 <= -1 /\ -1<=(ybn g v x).2):=by
 have h1:=List.all_eq_true.1 hf x hx;have hp':=hp;unfold ProgT.ok at hp';simp only[zF,decide_eq_true_eq]at hp';have hxo:=ybnm (List.all_eq_true.1 hp'.1.1.2 _ hx);rcases hxo.1 with h|h|h
 .have e:ybn g v x=ybn g 0 x:=by unfold ybn;rw[if_pos h,if_pos h]
  rw[e];simp[h]at h1;exact⟨h1.1,fun q=>by omega⟩
 .unfold ybn;rw[if_neg (by omega),if_pos h]
  exact⟨by decide,fun q=>by omega⟩
 .unfold ybn;rw[if_neg (by omega),if_neg (by omega),if_pos h]
  exact⟨by simp only[];omega,fun _=>⟨by simp only[];omega,by simp only[];omega⟩⟩
theorem ycec{p:ProgT}{g:Gr}(hg:ybj g)(hp:p.ok=true)(hf:ybcz p g=true){v:Nat}{s:List Int}(hs:yii (p.vars.map (ybn g v)) s){a:Int}(ha:0<=a/\a<p.vars.length)(y:Int) :
 yii (p.vars.map (ybn g v)) (s.set a.toNat (ymb (p.vars.getD a.toNat default).kind (ybn g v (p.vars.getD a.toNat default)) y)):=by
 refine⟨by rw[List.length_set];exact hs.1,fun i b x hb hx=>?_⟩
 by_cases q:a.toNat=i
 .subst q;have hlt:a.toNat<p.vars.length:=by omega
  rw[List.getElem?_map,zQ hlt]at hb;cases hb
  have hl:a.toNat<s.length:=by rw[hs.1,zAB];exact hlt
  rw[List.getElem?_set_self hl]at hx;cases hx
  rw[getD_at hlt];obtain⟨h1,h2⟩:=ycff hg hp hf (zJ hlt) v;exact yclf h1 h2 y
 .rw[List.getElem?_set_ne q]at hx;exact hs.2 i b x hb hx
theorem yxl{p:ProgT}{g:Gr}(hg:ybj g)(hp:p.ok=true)(hf:ybcz p g=true)(c:Conf)(v:Nat):∀(sets:List (Int×Ex)) (s:List Int),(∀a∈sets,0<=a.1/\a.1<p.vars.length)->yii (p.vars.map (ybn g v)) s->yii (p.vars.map (ybn g v)) (yrp p g c v s sets)
 |[],s,_,hs=>hs
 | a::sets,s,ha,hs=>by
   show yii _ (yrp p g c v (s.set _ _) sets);exact yxl hg hp hf c v sets _ (fun x hx=>ha x (zAA _ hx)) (ycec hg hp hf hs (ha a zAE) _)
theorem yir{p:ProgT}{g:Gr}(hg:ybj g)(hp:p.ok=true)(hf:ybcz p g=true){c:Conf}(hc:ydk p g c=true)(s:Nat):ydk p g (yfs p g c s)=true:=by
 have h:=(yff _ _ _).1 hc;refine(yff _ _ _).2 ⟨by rw[yks];exact h.1,fun v st hst=>?_⟩
 have hv:v<c.length:=by
  have:=(List.getElem?_eq_some_iff.1 hst).1
  rwa [yks]at this
 have e:st=(yfs p g c s).getD v []:=by simp[zL,hst]
 rw[yoc p g c s hv]at e;have hold:=h.2 v (c.getD v []) (by rw[getD_at hv];exact zQ hv)
 rw[e];split
 .unfold yjt;refine yxl hg hp hf c v _ _ (fun a ha=>?_) hold;have hp':=hp;unfold ProgT.ok at hp';simp only[zF,decide_eq_true_eq]at hp'
  by_cases hr:(yee p g c v).toNat<p.rules.length
  .rw[getD_at hr]at ha;have hok:=List.all_eq_true.1 hp'.2 _ (zJ hr);unfold RuleT.ok at hok;simp only[zF,decide_eq_true_eq]at hok;have:=List.all_eq_true.1 hok.2 a ha;simp only[zF,decide_eq_true_eq]at this;exact this.1.1
  .have:p.rules.getD (yee p g c v).toNat default=default:=by simp[zL,zZ (Nat.le_of_not_lt hr)]
   rw[this]at ha;cases ha
 .exact hold
theorem yvh(p:ProgT)(g:Gr)(c:Conf):ybq p g c<2^g.ids.length:=ybap _ _
end Sh
end
section
namespace Sh
open Ev Go.RowKit
def TT:(Nat->Option ABlk)->Value->Prop:=fun _ _=>True
def yey(p:ProgT)(g:Gr):SV:=.ex TT (.rf (yim p.raw g))
theorem gmr{α:Type}(f:Nat->α)(n k:Nat)(d:α)(h:k<n):((zAJ n).map f).getD k d=f k:=by simp[zL,h]
def mapR{α:Type}(n:Nat)(f:Nat->α):List α:=(zAJ n).map f
theorem gmR{α:Type}(f:Nat->α)(n k:Nat)(d:α)(h:k<n):(mapR n f).getD k d=f k:=gmr f n k d h
theorem ybkf{α:Type}(n:Nat)(f:Nat->α):(mapR n f).length=n:=by simp[mapR]
section
variable {Q1 Q2:(Nat->Option ABlk)->Value->Prop}{p:ProgT}{g:Gr}
end
end Sh
end
section
namespace Sh
open Ev Go.RowKit
theorem Returns.exT{P:Program}{g:FuncId}{args:List SV}{r:SV}(h:Returns P g args r):Returns P g args (.ex TT r):=fun G m us h1 h2 h3=>by
 obtain⟨v,m',x,a,b,c,d,e⟩:=h G m us h1 h2 h3;exact⟨v,m',.ex TT r,a,b,c,rfl,.ex trivial (fun _ _ _ _ _=>trivial) (d▸e)⟩
section
variable {Q1 Q2:(Nat->Option ABlk)->Value->Prop}{p:ProgT}{g:Gr}
def yia(l:List Conf):SV:=.sl 1 l.length (fun i=>[ycn (l.getD i [])])
def yok(l:List Cnt):SV:=.sl 5 l.length (fun i=>cntV (l.getD i default))
end
end Sh
end
section
def ydx(v m:Int):Int:=if m<1 then 0 else v%m
def atP(l:List Int)(i:Nat):Int:=l.getD i 0
theorem ylg{v m:Int}(h:1<=m):0<=ydx v m/\ydx v m<m:=by
 unfold ydx;rw[if_neg (by omega)]
 exact⟨zAM _ (by omega),zAG _ (by omega)⟩
namespace Sh
open Ev Go.RowKit
theorem ybmu{v m:Int}(h:1<=m):(if v.tmod m<0 then v.tmod m+m else v.tmod m)=v%m:=by
 have h1:=Int.emod_add_mul_ediv v m;have h2:=zAM v (show m≠0 by omega)
 have h3:=zAG v (show 0<m by omega)
 have h4:=Int.tmod_eq_emod (a:=v) (b:=m);have h5:(m.natAbs:Int)=m:=by omega
 rw[h4]
 by_cases q:0<=v\/m ∣ v
 .simp only[if_pos q,zH,Int.sub_zero];rw[if_neg (by omega)]
 .simp only[if_neg q,h5];rw[if_pos (by omega)]
  omega
theorem ylf(v m:Int)(hm:m<=4611686018427387904)(hv:inK .i64 v):Returns zG 49 [.i .i64 v,.i .i64 m] (.i .i64 (ydx v m)):=by
 refine Returns.of (ydtm _ _ ?_);simp only[c49,ydto,ydol,ydkm,ydsx,ydkd,ydtv,ydpt,yx,go_sem,zA,zB,↓reduceIte,reduceCtorEq];unfold ydx;refine⟨fun h=>by rw[if_pos h],fun h=>⟨by omega,fun h2=>?_,fun h2=>?_⟩⟩
 .have h3:=ybmu (v:=v) (show 1<=m by omega)
  rw[if_pos h2]at h3;rw[if_neg h,h3];have h4:=zAM v (show m≠0 by omega)
  have h5:=zAG v (show 0<m by omega)
  exact⟨ikw (by omega) (by omega),rfl⟩
 .have h3:=ybmu (v:=v) (show 1<=m by omega)
  rw[if_neg h2]at h3;rw[if_neg h,h3]
theorem at_ret(l:List Int)(i:Nat):Returns zG 50 [ybc l,.i .i64 i] (.i .i64 (atP l i)):=by
 refine Returns.of (ydwv _ _ ?_);simp only[c50,ydmx,ydsh,ydpv,yduk,ybc,yx,go_sem,zA,zB,↓reduceIte,reduceCtorEq];exact⟨fun h=>⟨by omega,rfl⟩,fun h=>by unfold atP;rw[zL,zZ (by omega)];rfl⟩
theorem ydnb{α:Type}(l:List α)(x d:α)(i:Nat):(l++[x]).getD i d=if i<l.length then l.getD i d else if i=l.length then x else d:=by
 by_cases h:i<l.length
 .simp[zL,List.getElem?_append_left h,h]
 .by_cases e:i=l.length
  .subst e;simp[zL]
  .rw[if_neg h,if_neg e,zL,zZ (by simp;omega)]
   rfl
end Sh
end
section
namespace Sh
open Ev Go.RowKit
section
variable {p:ProgT}{g:Gr}
end
end Sh
end
end Go.Proofs.YthclbjjgfcgbgaaGreatDoor
