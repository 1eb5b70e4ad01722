/- Joined. -/
import Derived.Test.YtiejahgklcjhkaaGreatDoorPkT7
set_option linter.unusedSimpArgs false
set_option linter.unusedVariables false
set_option maxRecDepth 8000
open Nat renaming reduceEqDiff->zA,reduceAdd->zB,reduceLeDiff->zC,reduceLT->zD,reduceBEq->zJ,zero_le->zL,pow_le_pow_right->zQ,lt_of_lt_of_le->zT,testBit_lt_two_pow->zV,zero_mul->zW,and_two_pow_sub_one_of_lt_two_pow->zY,pow_lt_pow_right->zAB,shiftRight_eq_div_pow->zAC,sub_self->zAE,le_refl->zAF,lt_pow_two_of_testBit->zAJ,not_lt_zero->zAK,lt_of_le_of_lt->zAM,reduceMul->zAQ,lt_succ_self->zAS,mod_eq_of_lt->zAT,testBit_two_pow_sub_one->zBA,testBit_and->zBJ,div_le_self->zBK,eq_of_testBit_eq->zBM,lt_of_lt_of_eq->zBP,or_lt_two_pow->zBQ,and_le_left->zBT,lt_irrefl->zBX,and_zero->zBY,lt_or_ge->zCA,testBit->zCB,mod_lt->zCC
open Bool renaming and_eq_true->zF
open Go.Proofs.Tryz renaming prog->zG
open Int renaming natCast_zero->zH,toNat_natCast->zO,reduceToNat->zAH,emod_lt_of_pos->zAN,reduceBNe->zAR,emod_nonneg->zAX,reduceBEq->zBB,ofNat_tmod->zBV
open BitVec renaming ofInt->zI,ofInt_natCast->zX,toNat_ofNat->zAL,getLsbD_ofNat->zBN
open List renaming getD->zK,getElem_mem->zM,getElem?_eq_getElem->zN,take_succ_eq_append_getElem->zS,length_map->zU,range->zZ,length_append->zAA,eq_nil_of_length_eq_zero->zAD,getD_cons_zero->zAG,take_of_length_le->zAO,getElem?_set_self->zAP,getElem?_eq_none->zAU,mem_cons_of_mem->zAV,getElem?_set_ne->zAW,length->zAY,mem_cons_self->zAZ,map_cons->zBC,foldl_append->zBD,append_assoc->zBE,drop_eq_getElem_cons->zBF,getElem?_append_left->zBG,take_length->zBH,getElem?_cons_zero->zBI,range_succ_eq_map->zBL,getElem_of_mem->zBO,length_cons->zBR,getElem_map->zBS,map_append->zBU,replicate->zBW,map_map->zBZ
open Classical renaming byContradiction->zAI
open Go
namespace Go.Proofs.YtiejahgklcjhkaaGreatDoor
section
namespace Sh
open Go Ev
theorem ybeo{l:List Int}{k:Nat}(h:k<l.length):ypz (l.take (k+1))=min (ypz (l.take k)) (l.getD k 0):=by
 unfold ypz;rw[zS h,zBD,getD_at h];rfl
theorem yvw{l:List Int}{k:Nat}(h:k<l.length):(l.take (k+1)).sum=(l.take k).sum+l.getD k 0:=by
 rw[zS h,List.sum_append,getD_at h];simp
theorem ybwe{l:List Int}(h:∀x∈l,InB x):∀k,k<=l.length -> -1073741824*(k:Int)<=(l.take k).sum/\(l.take k).sum<=1073741824*(k:Int)
 |0,_=>by simp
 | k+1,hk=>by
   have ih:=ybwe h k (by omega)
   rw[yvw (by omega)]
   have:=h l[k] (zM (by omega))
   rw[<-getD_at (d:=0) (show k<l.length by omega)]at this
   unfold InB at this;omega
theorem ybzb(op:Int)(l:List Int)(hl:l.length<=24)(hb:∀x∈l,InB x):Returns zG 257 [.i .i64 op,yw l] (.i .i64 (ygg op l)):=by
 refine Returns.of (ycxj _ _ ?_);have hin:∀k,k<l.length->InB (l.getD k 0):=fun k hk=>by rw[getD_at hk];exact hb _ (zM hk)
 obtain⟨L,hL⟩:∃L,yw l=L:=⟨_,rfl⟩;have hLs:L = .sl 1 l.length (fun k=>[.i .i64 (l.getD k 0)]):=hL.symm;simp only[c257,yceo,ycpe,ycds,yckt,ycse,ycsg,ycss,ycrm,ycqr,ycor,ybpb,ybsh,yboz,ybua,ybtn,ybup,ybul,yblw,ybmg,ybqm,ybmx,ybrk,ybmh,ybtf,ybmj,ybvd,ybqc,ybnu,ybnx,ybnf,ybwo,ybqb,yblp,ybti,ybpc,ybrm,ybsb,yw,go_sem,zAH,zA,zB,↓reduceIte,reduceCtorEq];have hcount:=ybvx l (by omega)
 have htwo:=yrn l (by omega)
 simp only[yw]at hcount htwo;refine⟨fun h20=>hcount.use ?_,fun h20=>⟨fun h21=>hcount.use ?_,fun h21=>⟨fun h22=>hcount.use ?_,fun h22=>⟨fun h23=>?_,fun h23=>⟨fun h24=>?_,fun h24=>⟨fun h25=>htwo.use ?_,fun h25=>⟨fun h26=>?_,fun h26=>⟨fun h27=>?_,fun h27=>⟨fun h28=>htwo.use ?_,fun h28=>?_⟩⟩⟩⟩⟩⟩⟩⟩⟩
 .simp only[ybh,go_sem,zA,zB,↓reduceIte,reduceCtorEq];refine(ydz _).use ?_;simp only[yba,go_sem];simp[ygg,h20]
 .simp only[ybh,go_sem,zA,zB,↓reduceIte,reduceCtorEq];refine(ydz _).use ?_;simp only[yba,go_sem];simp[ygg,h21]
 .simp only[ybh,yba,go_sem,zA,zB,↓reduceIte,reduceCtorEq];simp[ygg,h22]
 .have:=ywf l (by omega)
  simp only[yw]at this;refine this.use ?_;simp only[ybh,yba,go_sem,zA,zB,↓reduceIte,reduceCtorEq];simp[ygg,h23]
 .refine ybn (σ:=Nat) (fun k=>⟨[(42,.i .i64 k),(5,.i .i64 (ypz (l.take k))),(40,yw l),(41,.i .i64 l.length)],[]⟩) (fun k=>k<=l.length) (fun k=>l.length-k) 0 (zL _) ?_ ?_
  .refine yh [] [] [] ?_;simp only[yw,allQ,live,yc,yba,zH,go_sem,zA,↓reduceIte,reduceCtorEq];simp[ypz]
  .intro k hk;simp only[yw,yba,go_sem,zA,zB,↓reduceIte,reduceCtorEq];refine⟨fun hlt=>⟨by omega,ikw (by omega) (by omega),?_⟩,fun hlt=>?_⟩
   .have hk':k<l.length:=by omega
    refine yu (k+1) (by omega) (by omega) ?_
    refine yh [] [] [] ?_;simp only[ybeo hk',allQ,live,yc,yba,go_sem,zA,↓reduceIte,reduceCtorEq];simp
   .rw[zAO (by omega)]
    simp[ygg,h24]
 .simp only[ybh,yba,go_sem,zA,zB,↓reduceIte,reduceCtorEq];simp[ygg,h25]
 .refine ybn (σ:=Nat) (fun k=>⟨[(63,.i .i64 k),(10,.i .i64 (l.take k).sum),(61,yw l),(62,.i .i64 l.length)],[]⟩) (fun k=>k<=l.length) (fun k=>l.length-k) 0 (zL _) ?_ ?_
  .refine yh [] [] [] ?_;simp only[yw,allQ,live,yc,yba,zH,go_sem,zA,↓reduceIte,reduceCtorEq];simp
  .intro k hk;simp only[yw,go_sem,zA,zB,↓reduceIte,reduceCtorEq];have hs:=ybwe hb k hk;refine⟨fun hlt=>?_,fun hlt=>(ydo _).use ?_⟩
   .have hk':k<l.length:=by omega
    have hs2:=ybwe hb (k+1) hk';rw[yvw hk']at hs2;refine⟨by omega,ikw (by omega) (by omega),ikw (by omega) (by omega),?_⟩
    refine yu (k+1) (by omega) (by omega) ?_
    refine yh [] [] [] ?_;simp only[yvw hk',allQ,live,yc,yba,go_sem,zA,↓reduceIte,reduceCtorEq];simp
   .simp only[ybh,yba,go_sem,zA,zB,↓reduceIte,reduceCtorEq];rw[zAO (by omega)]
    simp[ygg,h26]
 .have:=ycvj l (by omega)
  simp only[yw]at this;refine this.use ?_;simp only[ybh,yba,go_sem,zA,zB,↓reduceIte,reduceCtorEq];simp[ygg,h27]
 .simp only[ybh,yba,go_sem,zA,zB,↓reduceIte,reduceCtorEq];simp[ygg,h28]
 .refine⟨fun h0=>?_,fun h0=>⟨by omega,?_⟩⟩
  .simp only[yba,go_sem];have:l=[]:=zAD (by omega)
   simp[ygg,h20,h21,h22,h23,h24,h25,h26,h27,h28,this]
  .cases l with
   |nil=>simp at h0
   | cons x l=>
     simp only[yba,go_sem];simp[ygg,h20,h21,h22,h23,h24,h25,h26,h27,h28]
end Sh
end
section
def Ex.shp:Ex->Bool
 |.leaf op _=>decide (1<=op/\op<=17)
 |.un op a=>decide (18<=op/\op<=29)&&a.shp
 |.agg op a=>decide (18<=op/\op<=29)&&a.shp
 |.bin op a b=>decide (30<=op/\op<=42)&&a.shp&&b.shp
 |.ite x a b=>x.shp&&a.shp&&b.shp
theorem Ex.ok_shp{nv:Int}:∀(x:Ex) {bnd:Bool},x.ok nv bnd=true->x.shp=true
 | .leaf op arg,bnd,h=>by
   simp only[Ex.ok,zF]at h;exact h.1.1
 | .un op a,bnd,h=>by
   simp only[Ex.ok,zF,decide_eq_true_eq]at h;simp only[Ex.shp,zF,decide_eq_true_eq];exact⟨by omega,Ex.ok_shp a h.2⟩
 | .agg op a,bnd,h=>by
   simp only[Ex.ok,zF,decide_eq_true_eq]at h;simp only[Ex.shp,zF,decide_eq_true_eq];exact⟨by omega,Ex.ok_shp a h.2⟩
 | .bin op a b,bnd,h=>by
   simp only[Ex.ok,zF,decide_eq_true_eq]at h;simp only[Ex.shp,zF,decide_eq_true_eq];exact⟨⟨h.1.1,Ex.ok_shp a h.1.2⟩,Ex.ok_shp b h.2⟩
 | .ite x a b,bnd,h=>by
   simp only[Ex.ok,zF]at h;simp only[Ex.shp,zF];exact⟨⟨Ex.ok_shp x h.1.1,Ex.ok_shp a h.1.2⟩,Ex.ok_shp b h.2⟩
def ykp(op:Int):Int:=if op<1\/op>43 then -1 else if op<=17 then 0 else if op<=29 then 1 else if op<=42 then 2 else 3
def serL(ts:List Ex):List Tm:=(ts.map Ex.ser).flatten
def Ex.head:Ex->Tm
 |.leaf op arg=>(op,arg)
 |.un op _=>(op,0)
 |.agg op _=>(op,0)
 |.bin op _ _=>(op,0)
 |.ite _ _ _=>(43,0)
def Ex.subs:Ex->List Ex
 |.leaf _ _=>[]
 |.un _ a=>[a]
 |.agg _ a=>[a]
 |.bin _ a b=>[a,b]
 |.ite x a b=>[x,a,b]
theorem Ex.ser_eq(x:Ex):x.ser=x.head::serL x.subs:=by
 cases x<;>simp[Ex.ser,Ex.head,Ex.subs,serL]
theorem ybzu{op:Int}(h:1<=op/\op<=17):ykp op=0:=by
 unfold ykp;rw[if_neg (by omega),if_pos (by omega)]
theorem ybfy{op:Int}(h:18<=op/\op<=29):ykp op=1:=by
 unfold ykp;rw[if_neg (by omega),if_neg (by omega),if_pos (by omega)]
theorem ycaa{op:Int}(h:30<=op/\op<=42):ykp op=2:=by
 unfold ykp;rw[if_neg (by omega),if_neg (by omega),if_neg (by omega),if_pos (by omega)]
theorem Ex.arity(x:Ex)(h:x.shp=true):ykp x.head.1=x.subs.length:=by
 cases x with
 |leaf op arg=>simp only[Ex.shp,decide_eq_true_eq]at h;exact ybzu h
 |un op a=>simp only[Ex.shp,zF,decide_eq_true_eq]at h;exact ybfy h.1
 |agg op a=>simp only[Ex.shp,zF,decide_eq_true_eq]at h;exact ybfy h.1
 |bin op a b=>simp only[Ex.shp,zF,decide_eq_true_eq]at h;exact ycaa h.1.1
 |ite x a b=>simp[Ex.head,Ex.subs,ykp]
theorem Ex.subs_shp(x:Ex)(h:x.shp=true):∀y∈x.subs,y.shp=true:=by
 cases x with
 |leaf op arg=>intro y hy;cases hy
 |un op a=>simp only[Ex.shp,zF]at h;intro y hy;simp[Ex.subs]at hy;subst hy;exact h.2
 |agg op a=>simp only[Ex.shp,zF]at h;intro y hy;simp[Ex.subs]at hy;subst hy;exact h.2
 |bin op a b=>simp only[Ex.shp,zF]at h;intro y hy;simp[Ex.subs]at hy;rcases hy with rfl|rfl<;>first|exact h.1.2|exact h.2
 |ite x a b=>simp only[Ex.shp,zF]at h;intro y hy;simp[Ex.subs]at hy;rcases hy with rfl|rfl|rfl<;>first|exact h.1.1|exact h.1.2|exact h.2
theorem yeq{e:List Tm}{at_:Nat}{t:Tm}{r:List Tm}(h:e.drop at_=t::r):at_<e.length/\e.getD at_ (0,0)=t/\e.drop (at_+1)=r:=by
 have hlt:at_<e.length:=by
  refine zAI fun hc=>?_;rw[List.drop_of_length_le (by omega)]at h;cases h
 refine⟨hlt,?_,?_⟩
 .rw[zBF hlt]at h;simp only[List.cons.injEq]at h;simp[zK,hlt,h.1]
 .rw[zBF hlt]at h;simp only[List.cons.injEq]at h;exact h.2
namespace Sh
open Go Ev
theorem ybpa(op:Int):Returns zG 247 [.i .i64 op] (.i .i64 (ykp op)):=by
 refine Returns.of (ycuq _ _ ?_);simp only[c247,ychl,ycij,yckh,ychv,ycgs,ychn,ycjf,yciv,ycqj,ycqc,yba,ykp,go_sem,zA,zB,↓reduceIte,reduceCtorEq];refine⟨fun h1=>⟨fun h=>by rw[if_pos (.inr h)],fun h2=>⟨fun h=>by rw[if_neg (by omega),if_pos h],fun h3=>⟨fun h=>by rw[if_neg (by omega),if_neg h3,if_pos h],fun h4=>⟨fun h=>by rw[if_neg (by omega),if_neg h3,if_neg h4,if_pos h],fun h5=>by rw[if_neg (by omega),if_neg h3,if_neg h4,if_neg h5]⟩⟩⟩⟩,fun h=>by rw[if_pos (.inl h)]⟩
theorem ycwi(e:List Tm)(x:Ex)(at_:Nat)(rest:List Tm)(hx:x.shp=true)(he:e.drop at_=x.ser++rest)(hl:e.length<=1000):Returns zG 231 [ybd e,.i .i64 at_] (.i .i64 ((at_+x.ser.length:Nat):Int)):=by
 refine Returns.of (ycvq _ _ ?_)
 have h0:at_<e.length:=by
  rw[x.ser_eq]at he;exact(yeq he).1
 simp only[c231,ycpv,ycka,ycom,ycoj,ybd,yba,go_sem,zA,zB,↓reduceIte,reduceCtorEq];refine⟨fun _=>⟨fun h=>by omega,fun _=>?_⟩,fun h=>by omega⟩
 refine ybn (σ:=Nat×List Ex) (fun p=>⟨[(1,.i .i64 p.1),(5,.i .i64 p.2.length),(0,ybd e)],[]⟩)
  (fun p=>e.drop p.1=serL p.2++rest/\p.2≠[]/\(∀y∈p.2,y.shp=true)/\p.1+(serL p.2).length=at_+x.ser.length/\p.2.length<=3*p.1+1) (fun p=>e.length-p.1) (at_,[x]) ⟨by simpa[serL]using he,by simp,by simpa using hx,by simp[serL],by simp⟩ ?_ ?_
 .refine yh [] [] [] ?_;simp only[ybd,allQ,live,yc,yba,go_sem,zA,↓reduceIte,reduceCtorEq];simp
 .rintro⟨k,ts⟩ ⟨hk,hne,hsh,hlen,hb⟩;cases ts with
  |nil=>exact absurd rfl hne
  | cons y ts =>
    dsimp only at hk hlen hb ⊢
    have hser:serL (y::ts)=y.head::(serL y.subs++serL ts):=by
     show(y.ser++serL ts)=_;rw[y.ser_eq];rfl
    rw[hser]at hk hlen;obtain⟨d1,d2,d3⟩:=yeq hk;have hy:=hsh y zAZ;have har:=y.arity hy;have hsub:y.subs.length<=3:=by cases y<;>simp[Ex.subs]
    simp only[zBR]at hb hlen;simp only[ycew,ychd,ycpz,ycqk,ycpf,ycht,ybth,ybmn,ybpq,ybd,yba,go_sem,zA,zB,zC,↓reduceIte,reduceCtorEq];refine⟨fun hlt=>⟨by omega,(ybpa _).use ?_⟩,fun hlt=>by omega⟩
    rw[d2,har];simp only[ybh,yba,go_sem,zA,zB,↓reduceIte,reduceCtorEq];refine⟨fun h=>by omega,fun _=>⟨ikw (by omega) (by omega),ikw (by simp;omega) (by simp;omega),fun h=>⟨ikw (by omega) (by omega),?_⟩,fun h=>⟨ikw (by omega) (by omega),?_⟩⟩⟩
    .have h1:ts=[]:=zAD (by omega)
     have h2:y.subs=[]:=zAD (by omega)
     subst h1;rw[h2]at hlen;simp[serL]at hlen;omega
    .have hpos:y.subs++ts≠[]:=fun q=>by
      have q1:=congrArg zAY q;simp only[zAA,List.length_nil]at q1;omega
     refine yu (k+1,y.subs++ts) ⟨?_,hpos,?_,?_,?_⟩ (by dsimp only;omega) ?_
     .dsimp only
      rw[d3];simp[serL]
     .intro z hz;rcases List.mem_append.1 hz with q|q
      .exact y.subs_shp hy z q
      .exact hsh z (zAV _ q)
     .dsimp only
      have:(serL (y.subs++ts)).length=(serL y.subs++serL ts).length:=by simp[serL]
      rw[this];omega
     .dsimp only
      simp only[zAA];omega
     .refine yh [] [] [] ?_;simp only[allQ,live,yc,yba,go_sem,zA,↓reduceIte,reduceCtorEq];simp;omega
end Sh
end
section
namespace Sh
open Go Ev
theorem ybxy(p:ProgR){g:Gr}(hg:ybg g)(op:Int){v:Nat}(hv:v<g.ports.length)(port:Int)(hp:op=6\/op=7\/op=8\/op=9\/op=10\/op=11\/(0<=port/\port<(g.ports.getD v []).length)) :
 Returns zG 255 [.rf (yff p g),.i .i64 op,.i .i64 v,.i .i64 port] (.i .i64 (yms g op v port)):=by
 refine Returns.of (ycul _ _ ?_);have hlen:=hg.2.2.1;simp only[c255,ycjj,ycqm,ycdp,ycdu,ycrf,ycrd,yckx,yckf,ycnf,ycol,ybux,ybps,ybpy,ybpv,ybof,ybrz,ybsc,ybmm,ybsv,ybpn,ybsp,ybvy,ybnn,ybor,yblt,yff,yw,ybe,ybd,ydm,yba,go_sem,zA,zB,zC,zD,↓reduceIte,reduceCtorEq];refine⟨fun h6=>?_,fun h6=>⟨fun h7=>?_,fun h7=>⟨fun h8=>⟨by omega,?_⟩,fun h8=>⟨fun h9=>⟨by omega,?_⟩,fun h9=>⟨fun h10=>(ydz _).use ?_,fun h10=>⟨fun h11=>?_,fun h11=>?_⟩⟩⟩⟩⟩⟩
 .simp[yms,h6]
 .simp[yms,h7]
 .simp[yms,h8]
 .simp[yms,h9]
 .simp only[ybh,yba,go_sem,zA,zB,↓reduceIte,reduceCtorEq];simp[yms,h10]
 .simp[yms,h11]
 .have hp:0<=port/\port<(g.ports.getD v []).length:=by omega
  have hpn:port.toNat<(g.ports.getD v []).length:=by omega
  have hl:=hg.ych hv hpn;unfold ych at hl;refine⟨by omega,by omega,fun h13=>⟨by omega,?_⟩,fun h13=>⟨fun h14=>⟨by omega,?_⟩,fun h14=>⟨fun h15=>(ydz _).use ?_,fun h15=>⟨fun h16=>?_,fun h16=>⟨by omega,?_⟩⟩⟩⟩⟩
  .simp[yms,h13,ych]
  .simp[yms,h14,ych]
  .simp only[ybh,yba,go_sem,zA,zB,↓reduceIte,reduceCtorEq];simp[yms,h15,ych]
  .simp[yms,h16,ych]
  .refine⟨by rw[show(yjj g v).length=(g.ports.getD v []).length from zU _];omega,?_⟩
   simp[yms,h6,h7,h8,h9,h10,h11,h13,h14,h15,h16]
theorem ycaj(p:ProgR){g:Gr}(hg:ybg g){nv:Nat}{c:Conf}(hc:ConfIn g.ports.length nv c){v:Nat}(hv:v<g.ports.length)(e:List Tm){op arg:Int}{bnd:Bool}(ho:(Ex.leaf op arg).ok nv bnd=true)(port:Int)(hp:bnd=true->0<=port/\port<(g.ports.getD v []).length) :
 Returns zG 236 [.rf (yiv p g c v e),.ag [.i .i64 op,.i .i64 arg],.i .i64 port] (.i .i64 (yth g c op arg v port)):=by
 refine Returns.of (ycvc _ _ ?_);simp only[Ex.ok,zF,decide_eq_true_eq]at ho;obtain⟨⟨ho1,ho2⟩,ho3⟩:=ho;have hlen:=hc.len;have hrow:=hc.at_ hv;have hF:=ybxy p hg op hv port;simp only[yff,yw,ybe,ybd,ydm]at hF;simp only[c236,ycjo,ycfp,ycrk,ycey,ycoy,ycoo,ycpm,ycei,ychg,ycfn,ybvi,ybuz,ybui,ybov,ybpt,yiv,ybm,yff,yw,ybe,ybd,ydm,yba,go_sem,zA,zB,zC,zD,↓reduceIte,reduceCtorEq];refine⟨fun h1=>?_,fun h1=>⟨fun h2=>?_,fun h2=>⟨fun h3=>?_,fun h3=>⟨fun h4=>?_,fun h4=>⟨fun h5=>?_,fun h5=>⟨fun h12=>?_,fun h12=>(hF ?_).use ?_⟩⟩⟩⟩⟩⟩
 .simp[yth,h1]
 .simp[yth,h2]
 .simp[yth,h3]
 .simp[yth,h4]
 .rw[if_neg (by omega),if_pos (by omega)]at ho2
  have ho2:=of_decide_eq_true ho2;refine⟨by omega,by omega,?_⟩
  simp[yth,h5]
 .rw[if_neg (by omega),if_pos (by omega)]at ho2
  have ho2:=of_decide_eq_true ho2;rw[if_pos (by omega)]at ho3
  have hp:=hp ho3;have hpn:port.toNat<(g.ports.getD v []).length:=by omega
  have hl:=hg.ych hv hpn;have hr2:=hc.at_ (v:=(ych g v port.toNat).1.toNat) (by omega)
  unfold ych at hl hr2;refine⟨by omega,by omega,by omega,by omega,?_⟩
  simp[yth,h12,ych]
 .by_cases q:11<=op
  .rw[if_pos q]at ho3;have:=hp ho3;omega
  .omega
 .simp only[ybh,yba,go_sem,zA,zB,↓reduceIte,reduceCtorEq];simp[yth,h1,h2,h3,h4,h5,h12]
theorem yqw{e:List Tm}{at_:Nat}{a b:List Tm}(h:e.drop at_=a++b):e.drop (at_+a.length)=b:=by
 rw[<-List.drop_drop,h,List.drop_left]
theorem ybzp{n:Nat}{gg:Nat->List SV}{l:List Int}(hn:n=l.length)(h:∀k,k<n->gg k=[.i .i64 (l.getD k 0)]):Sim (.sl 1 n gg) (yw l):=by
 subst hn;exact yhz h
def ybtt(p:ProgR)(g:Gr)(nv:Nat)(c:Conf)(v:Nat)(e:List Tm)(x:Ex):Prop :=
 ∀ (bnd:Bool) (port:Int) (at_:Nat) (rest:List Tm),x.ok nv bnd=true->(bnd=true->0<=port/\port<(g.ports.getD v []).length)->InB port->e.drop at_=x.ser++rest ->
   Returns zG 220 [.rf (yiv p g c v e),.i .i64 at_,.i .i64 port] (.tp [.i .i64 (ycs g c v x port),.i .i64 ((at_+x.ser.length:Nat):Int)])
theorem yxa(p:ProgR){g:Gr}(hg:ybg g){nv:Nat}{c:Conf}(hc:ConfIn g.ports.length nv c){v:Nat}(hv:v<g.ports.length)(e:List Tm)(hl:e.length<=1000){op:Int}{a:Ex}(ho:(Ex.agg op a).ok nv true=true)(ih:ybtt p g nv c v e a)(at_:Nat)(rest:List Tm)(he:e.drop at_=(Ex.agg op a).ser++rest) :
 Returns zG 238 [.rf (yiv p g c v e),.i .i64 op,.i .i64 at_] (.tp [.i .i64 (ycs g c v (.agg op a) 0),.i .i64 ((at_+(Ex.agg op a).ser.length:Nat):Int)]):=by
 have ho':=ho;simp only[Ex.ok,zF,decide_eq_true_eq]at ho;have hd:=hg.deg_lt (v:=v);obtain⟨deg,hdeg⟩:∃d,(g.ports.getD v []).length=d:=⟨_,rfl⟩;rw[hdeg]at hd;have hin:∀q:Nat,q<deg->InB (ycs g c v a q):=fun q hq=>yhc hg rfl hc hv a ho.2 (fun _=>by omega) (by unfold InB;omega)
 have hsh:=Ex.ok_shp _ ho';have hdrop:e.drop (at_+1)=a.ser++rest:=(yeq (show e.drop at_=(op,0)::(a.ser++rest)from he)).2.2
 have hat:=(yeq (show e.drop at_=(op,0)::(a.ser++rest)from he)).1
 have hfit:at_+1+a.ser.length<=e.length:=by
  have:=congrArg zAY hdrop;simp at this;omega
 refine Returns.of (ycxl _ _ ?_);simp only[c238,ycno,ycsn,ycpb,ycnd,yiv,ybm,yff,yw,ybe,ybd,ydm,hdeg,go_sem,zA,zB,zC,zD,↓reduceIte,reduceCtorEq];refine⟨by omega,?_⟩
 let val:Nat->Int:=fun q=>ycs g c v a q
 refine ybn (σ:=Nat) (fun k=>⟨[(27,.i .i64 k),(26,.i .i64 deg),(9,.i .i64 deg),(0,.rf (yiv p g c v e)),(1,.i .i64 op),(2,.i .i64 at_),(8,.pt (8,0) 0 0),(7,.i .i64 (if k=0 then 0 else((at_+1+a.ser.length:Nat):Int)))],
  [(8,.one (some ⟨256,true,1,24,fun i=>[.i .i64 (if i<k then val i else 0)]⟩))]⟩) (fun k=>k<=deg) (fun k=>deg-k) 0 (zL _) ?_ ?_
 .refine yh [] [] [] ?_;simp only[yiv,ybm,yff,yw,ybe,ybd,ydm,allQ,live,yc,yba,zH,go_sem,zA,↓reduceIte,reduceCtorEq];intro i _;rw[if_neg (by omega)]
 .intro k hk;simp only[ycje,yced,ycee,ycpx,ycps,ycsp,yboi,go_sem,zA,zB,zC,↓reduceIte,reduceCtorEq];refine⟨fun hlt=>⟨ikw (by omega) (by omega),?_⟩,fun hlt=>?_⟩
  .have hk':k<deg:=by omega
   have hv1:=ih true (k:Int) (at_+1) rest ho.2 (fun _=>by rw[hdeg];omega) (by unfold InB;omega) hdrop
   rw[show((at_+1:Nat):Int)=(at_:Int)+1 by omega]at hv1
   refine hv1.use ?_;simp only[ybh,splice,go_sem,zA,zB,↓reduceIte,reduceCtorEq];refine⟨by omega,by omega,ikw (by omega) (by omega),?_⟩
   refine yu (k+1) (by omega) (by omega) ?_
   refine yh [] [] [] ?_;simp only[allQ,live,yc,yba,go_sem,zA,↓reduceIte,reduceCtorEq];refine⟨by omega,?_⟩
   intro i hi
   by_cases q:i=k
   .rw[if_pos q,if_pos (by omega)]
    subst q;simp only[val,live,yc,go_sem,reduceCtorEq]
   .rw[if_neg q]
    by_cases q2:i<k
    .rw[if_pos q2,if_pos (by omega)]
     simp only[live,yc,go_sem,reduceCtorEq]
    .rw[if_neg q2,if_neg (by omega)]
     simp only[live,yc,go_sem,reduceCtorEq]
  .obtain rfl:k=deg:=by omega
   have hE:=ycwi e _ at_ rest hsh he hl
   have hF:=ybzb op ((zZ k).map val) (by simp;omega) (fun x hx=>by
    obtain⟨q,hq,rfl⟩:=List.mem_map.1 hx;exact hin q (List.mem_range.1 hq))
   have hres:ycs g c v (.agg op a) 0=ygg op ((zZ k).map val):=by
    show ygg op _=_;rw[hdeg]
   rw[hres];simp only[yiv,ybd,go_sem,zA,zB,↓reduceIte,reduceCtorEq];simp only[ybd]at hE
   have hsim:SimL [.i .i64 op,.sl 1 (k-0) fun i=>[.i .i64 (if i<k then val i else 0)]] [.i .i64 op,yw ((zZ k).map val)]:=by
    refine⟨Sim.refl _,ybzp (by simp) fun i hi=>?_,trivial⟩
    rw[if_pos (by omega)]
    simp[zK,show i<k by omega]
   refine⟨fun h0=>hE.use ?_,fun h0=>?_⟩
   .simp only[ybh,go_sem,zA,zB,zC,↓reduceIte,reduceCtorEq];refine⟨by simp;omega,.inl ⟨by omega,hF.useS hsim ?_⟩⟩
    simp only[go_sem];exact Sim.refl _
   .refine⟨by simp;omega,.inl ⟨by omega,hF.useS hsim ?_⟩⟩
    simp only[ybh,if_neg (show ¬k=0 by omega),go_sem,zA,zB,↓reduceIte,reduceCtorEq]
    rw[show at_+(Ex.agg op a).ser.length=at_+1+a.ser.length by simp[Ex.ser];omega]
    exact Sim.refl _
end Sh
end
section
namespace Sh
open Go Ev
theorem ybiz(g:Gr)(v:Nat)(hv:v<g.ports.length)(u:Int)(hl:(g.ports.getD v []).length<=100000):Returns zG 170 [grV g,.i .i64 v,.i .i64 u] (.i .i64 (ygz (g.ports.getD v []) u)):=by
 refine Returns.of (ycwu _ _ ?_);simp only[c170,ycmi,ycdz,grV,ybe,ybd,yw,go_sem,zA,zB,zD,↓reduceIte,reduceCtorEq];refine⟨by omega,?_⟩
 obtain⟨ls,hls⟩:∃ls,g.ports.getD v []=ls:=⟨_,rfl⟩;rw[hls]at hl ⊢;refine ybn (σ:=Nat) (fun k=>⟨[(15,.i .i64 k),(13,ybd ls),(14,.i .i64 ls.length),(2,.i .i64 u)],[]⟩) (fun k=>k<=ls.length/\(ls.take k).findIdx? (fun l=>l.1==u)=none) (fun k=>ls.length-k) 0 ⟨zL _,by simp⟩ ?_ ?_
 .refine yh [] [] [] ?_;simp only[ybd,allQ,live,yc,zH,go_sem,zA,↓reduceIte,reduceCtorEq]
 .intro k ⟨hk,hno⟩;simp only[ycfe,ycep,ycim,ycoi,ycmf,ycki,ybd,yba,splice,go_sem,zA,zB,zC,zD,↓reduceIte,reduceCtorEq];refine⟨fun hlt=>⟨by omega,fun he=>?_,fun he=>⟨ikw (by omega) (by omega),?_⟩⟩,fun hlt=>?_⟩
  .have hlt:k<ls.length:=by omega
   rw[getD_at hlt]at he;rw[yus ls u k hlt he hno]
  .have hlt:k<ls.length:=by omega
   rw[getD_at hlt]at he;refine yu (k+1) ⟨by omega,ybbe ls u k hlt he hno⟩ (by omega) ?_
   refine yh [] [] [] ?_;simp only[allQ,live,yc,yba,go_sem,zA,↓reduceIte,reduceCtorEq];simp
  .obtain rfl:k=ls.length:=by omega
   rw[ybch ls u hno]
theorem ybkz{ids:List Int}{k:Nat}(h:k<ids.length):(ids.take (k+1)).foldl max 0=max ((ids.take k).foldl max 0) (ids.getD k 0):=by
 rw[ybkl ids k h,getD_at h]
theorem ybac(p:ProgR){g:Gr}(hg:ybg g):Returns zG 143 [.ag (yna p),grV g] (.rf (yff p g)):=by
 refine Returns.of (ydaa _ _ ?_);have h24:=hg.2.1;have hid:=hg.2.2.1;obtain⟨n,hn⟩:∃n,g.ports.length=n:=⟨_,rfl⟩;rw[hn]at h24 hid;simp only[c143,ycha,ycqf,ycog,grV,ybe,ybd,yw,yna,splice,hn,go_sem,zA,zB,zC,zD,↓reduceIte,reduceCtorEq];refine⟨by omega,?_⟩
 refine ybn (σ:=Nat) (fun k=>⟨[(21,.i .i64 k),(19,ybe g.ports),(20,.i .i64 n),(3,.pt (3,0) 0 0),(5,.pt (17,0) 0 0)],
  [(3,.one (some ⟨27,true,2,1,fun _=>[yw g.ids,ybe g.ports]⟩)),(17,.one (some ⟨170,true,7,1,fun _=>[.a (.string p.name),yek p.vars,ycx p.rules,yw g.ids,ybe g.ports,.i .i64 ((g.ids.take k).foldl max 0),.os (15,0) 0 n true]⟩)),
   (15,.one (some ⟨22,false,1,n,fun i=>[if i<k then yw (yjj g i)else .a (.slice none 0 0)]⟩))]⟩) (fun k=>k<=n) (fun k=>n-k) 0 (zL _) ?_ ?_
 .refine yh [] [] [] ?_;simp only[ybe,ybd,yw,hn,allQ,live,yc,yba,zH,go_sem,zA,↓reduceIte,reduceCtorEq];refine⟨fun i _=>by simp,fun i _=>?_⟩
  rw[if_neg (by omega)]
  simp only[yc,go_sem]
 .intro k hk;simp only[ycll,ycpq,ycir,ycks,ybe,ybd,yw,splice,hn,go_sem,zA,zB,zC,↓reduceIte,reduceCtorEq];refine⟨fun hlt=>⟨by omega,by omega,by decide,?_⟩,fun hlt=>?_⟩
  .have hk':k<n:=by omega
   obtain⟨ls,hls⟩:∃ls,g.ports.getD k []=ls:=⟨_,rfl⟩;have hdeg:=hg.deg_lt (v:=k);rw[hls]at hdeg;rw[hls]
   have hback:∀j,j<ls.length->(yjj g k).getD j 0=ygz (g.ports.getD (ls.getD j (0,0)).1.toNat []) k:=fun j hj=>by
    unfold yjj;rw[hls];simp[zK,hj]
   have hbl:(yjj g k).length=ls.length:=by unfold yjj;rw[hls,zU]
   refine ybn (σ:=Nat) (fun j=>⟨[(41,.i .i64 j),(39,ybd ls),(40,.i .i64 ls.length),(6,.i .i64 k),(21,.i .i64 k),(19,ybe g.ports),(20,.i .i64 n),(3,.pt (3,0) 0 0),(5,.pt (17,0) 0 0)],
    [(3,.one (some ⟨27,true,2,1,fun _=>[yw g.ids,ybe g.ports]⟩)),(17,.one (some ⟨170,true,7,1,fun _=>[.a (.string p.name),yek p.vars,ycx p.rules,yw g.ids,ybe g.ports,.i .i64 ((g.ids.take (k+1)).foldl max 0),.os (15,0) 0 n true]⟩)),
     (15,.one (some ⟨22,false,1,n,fun i=>[if i<k then yw (yjj g i)else if i=k then .os (100,0) 0 j true else .a (.slice none 0 0)]⟩)),
     (100,.one (some ⟨3,false,1,j,fun q=>[.i .i64 ((yjj g k).getD q 0)]⟩))]⟩) (fun j=>j<=ls.length) (fun j=>ls.length-j) 0 (zL _) ?_ ?_
   .refine yh [] [100] [] ?_;simp only[ybe,ybd,yw,hn,ybkz (show k<g.ids.length by omega),allQ,live,yc,zH,go_sem,zA,zJ,↓reduceIte,reduceCtorEq]
    intro i hi
    by_cases q1:i<k
    .simp only[if_pos q1];simp only[yc,go_sem,reduceCtorEq]
    .by_cases q2:i=k
     .simp only[if_neg q1,if_pos q2];simp only[live,go_sem,zA,↓reduceIte];simp
     .simp only[if_neg q1,if_neg q2];simp only[yc,go_sem,reduceCtorEq]
   .intro j hj;simp only[ycou,ychu,ycmp,ybpd,ybta,ybe,ybd,yw,splice,hn,go_sem,zA,zB,zC,zD,↓reduceIte,reduceCtorEq]
    have hP:=fun hlt:j<ls.length=>ybiz g (ls.getD j (0,0)).1.toNat (by
     have:=hg.ych (v:=k) (p:=j) (by omega) (by rw[hls];omega)
     unfold ych at this;rw[hls]at this;omega) (k:Int) (by have:=hg.deg_lt (v:=(ls.getD j (0,0)).1.toNat);omega)
    have hto:j<ls.length->((ls.getD j (0,0)).1.toNat:Int)=(ls.getD j (0,0)).1:=fun hlt=>by
     have:=hg.ych (v:=k) (p:=j) (by omega) (by rw[hls];omega)
     unfold ych at this;rw[hls]at this;omega
    refine⟨fun hlt=>⟨by omega,by omega,by omega,?_⟩,fun hlt=>?_⟩
    .have hj':j<ls.length:=by omega
     have hP:=hP hj';rw[hto hj']at hP;simp only[grV,ybe,ybd,yw,hn]at hP;refine hP.use ?_;simp only[ybh,splice,go_sem,zA,zB,zC,zD,↓reduceIte,reduceCtorEq];refine⟨by decide,by omega,by decide,by omega,by omega,by decide,ikw (by omega) (by omega),?_⟩
     refine yu (j+1) (by omega) (by omega) ?_
     refine yh [(100,fun _=>(63,0))] [] [] ?_;simp only[allQ,live,yc,yba,go_sem,zA,↓reduceIte,reduceCtorEq];refine⟨by omega,fun i hi=>?_,fun i hi=>?_⟩
     .by_cases q2:i=k
      .simp only[if_pos q2,if_neg (show ¬i<k by omega)]
       simp only[live,yc,go_sem,zA,↓reduceIte,reduceCtorEq]
      .simp only[if_neg q2]
       by_cases q1:i<k
       .simp only[if_pos q1];simp only[live,yc,go_sem,reduceCtorEq]
       .simp only[if_neg q1];simp only[live,yc,go_sem,reduceCtorEq]
     .by_cases q2:i<j
      .simp only[if_pos q2];simp only[live,yc,go_sem,reduceCtorEq]
      .obtain rfl:i=j:=by omega
       simp only[if_neg q2,zAE,zW];simp only[live,yba,go_sem,reduceCtorEq];rw[hback i hj']
    .obtain rfl:j=ls.length:=by omega
     refine⟨ikw (by omega) (by omega),?_⟩
     refine yu (k+1) (by omega) (by omega) ?_
     refine yh [] [] [(100,0)] ?_;simp only[allQ,live,yc,yba,go_sem,zA,zC,↓reduceIte,reduceCtorEq];refine⟨by omega,fun i hi=>?_⟩
     by_cases q1:i<k
     .simp only[if_pos q1,if_pos (show i<k+1 by omega)]
      simp only[yc,go_sem]
     .by_cases q2:i=k
      .simp only[if_neg q1,if_pos q2,if_pos (show i<k+1 by omega)]
       subst q2;simp only[hbl,yc,go_sem,zA,↓reduceIte]
      .simp only[if_neg q1,if_neg q2,if_neg (show ¬i<k+1 by omega)]
       simp only[yc,go_sem]
  .obtain rfl:k=n:=by omega
   simp only[ybls,go_sem,zA,zB,zC,↓reduceIte,reduceCtorEq];refine⟨fun q hq=>by simp only[if_pos hq];simp only[go_sem],?_⟩
   refine ydhh ?_ (by simp only[yff,go_sem])
   simp only[SimL,yff,yw,ybe,ybd,ydm,hn,yc,true_and,and_true];refine⟨?_,?_⟩
   .rw[yba];refine⟨rfl,?_⟩;unfold ybeb;rw[zAO (by omega)]
   .refine yjo fun q hq=>?_;simp only[if_pos hq];simp only[SimL,yc,go_sem]
end Sh
end
section
def ylf(f:Nat->Bool):Nat->Nat
 |0=>0
 |n+1=>if f n then ylf f n|||2^n else ylf f n
theorem ylu(f:Nat->Bool):∀(n i:Nat),(ylf f n).testBit i=(decide (i<n)&&f i)
 |0,i=>by simp[ylf]
 | n + 1,i=>by
   unfold ylf;have ih:=ylu f n i
   by_cases h:f n=true
   .rw[if_pos h,Nat.testBit_or,ih,Nat.testBit_two_pow]
    by_cases e:n=i
    .subst e;simp[h]
    .have:(i<n+1)=(i<n):=propext (by omega)
     simp[e,this]
   .rw[if_neg h,ih]
    by_cases e:n=i
    .subst e;simp[h]
    .have:(i<n+1)=(i<n):=propext (by omega)
     simp[this]
theorem ybhh(f:Nat->Bool)(n:Nat):ylf f n<2^n:=by
 refine zAJ _ fun i hi=>?_;rw[ylu];simp;omega
def difB(a b:Nat):Nat:=a ^^^ (a&&&b)
theorem ygw(a b i:Nat):(difB a b).testBit i=(a.testBit i && !(b.testBit i)):=by
 unfold difB;rw[Nat.testBit_xor,zBJ];cases a.testBit i<;>cases b.testBit i<;>rfl
theorem yed(a:Nat):a=0↔∀i,a.testBit i=false:=by
 constructor
 .rintro rfl i;simp
 .intro h;exact zBM fun i=>by rw[h i];simp
theorem ydhq{a b n:Nat}(h:a<2^n):a&&&b<2^n:=by
 have:=zBT (n:=a) (m:=b);omega
theorem ywy{a b n:Nat}(h:a<2^n):difB a b<2^n:=by
 refine zAJ _ fun i hi=>?_;rw[ygw,zV (zT h (zQ (by omega) hi))]
 rfl
structure Cnt where
 steps:Nat
 moves:Nat
 rounds:Nat
 begun:Nat
 pend:Nat
def yex(s:Nat):Nat->Nat
 |0=>0
 |n+1=>yex s n+(s.testBit n).toNat
def popP(s:Nat):Nat:=yex s 32
def ydi(e:Nat):Cnt:=⟨0,0,0,0,e⟩
def addP(k:Cnt)(chosen after:Nat):Cnt :=
 let p:=difB k.pend chosen&&&after
 ⟨k.steps+1,k.moves+popP chosen,if p=0 then k.rounds+1 else k.rounds,k.rounds+1,if p=0 then after else p⟩
def Cnt.ok(k:Cnt):Prop:=k.rounds<=k.begun/\k.begun<=k.rounds+1/\k.begun<=k.steps/\k.steps<=k.moves/\k.moves<=24*k.steps/\k.pend<2^24
theorem ykf(s:Nat):∀n,yex s n<=n
 |0=>zAF _
 | n+1=>by
   have:=ykf s n;unfold yex;cases s.testBit n<;>simp[Bool.toNat]<;>omega
theorem yuu(s:Nat)(h:s<2^24):∀k,yex s (24+k)=yex s 24
 |0=>rfl
 | k+1=>by
   have e:s.testBit (24+k)=false:=zV (zT h (zQ (by omega) (by omega)))
   show yex s (24+k)+(s.testBit (24+k)).toNat=_;rw[yuu s h k,e];rfl
theorem ybwy(s:Nat)(h:s<2^24):popP s<=24:=by
 have:=yuu s h 8;unfold popP;rw[this];exact ykf s 24
theorem yyw{s i:Nat}(hs:s.testBit i=true):∀n,i<n->1<=yex s n
 |0,h=>by omega
 | n+1,h=>by
   unfold yex
   by_cases e:i=n
   .subst e;rw[hs];simp
   .have:=yyw hs n (by omega);omega
theorem ycbm(s:Nat)(h:s<2^32)(h0:s≠0):1<=popP s:=by
 refine zAI fun hc=>h0 ?_;rw[yed];intro i;cases hb:s.testBit i with
 |false=>rfl
 | true =>
   exfalso
   have hi:i<32:=by
    refine zAI fun hi=>?_;rw[zV (zT h (zQ (by omega) (by omega)))]at hb
    cases hb
   exact hc (yyw hb 32 hi)
theorem ybpw{e:Nat}(h:e<2^24):(ydi e).ok:=⟨zAF _,by simp[ydi],zAF _,zAF _,by simp[ydi],h⟩
theorem ycya{k:Cnt}{s e:Nat}(hk:k.ok)(hs:s<2^24)(h0:s≠0)(he:e<2^24):(addP k s e).ok:=by
 obtain⟨h1,h2,h3,h4,h5,h6⟩:=hk;have p1:=ybwy s hs;have p2:=ycbm s (by omega) h0
 have hp:difB k.pend s&&&e<2^24:=ydhq (ywy h6);unfold addP Cnt.ok;simp only;refine⟨by split<;>omega,by split<;>omega,by omega,by omega,by omega,by split<;>omega⟩
structure Sys where
 n:Nat
 en:Conf->Nat
 mv:Conf->Nat->Conf
def Sys.run(S:Sys)(res:Nat->Nat->Nat):List Nat->Conf->Cnt->List (Conf×Cnt)
 |[],_,_=>[]
 | w::ws,c,k=>if S.en c=0 then[]else(let s:=res (S.en c) w
   let d:=S.mv c s
   (d,addP k s (S.en d))::S.run res ws d (addP k s (S.en d)))
def Sys.runs(S:Sys)(res:Nat->Nat->Nat)(ws:List Nat)(c:Conf):List (Conf×Cnt):=(c,ydi (S.en c))::S.run res ws c (ydi (S.en c))
def subB(a b:Nat):Prop:=∀i,a.testBit i=true->b.testBit i=true
def yccr(res:Nat->Nat->Nat):Prop:=∀e w,e≠0->res e w≠0/\subB (res e w) e
theorem Sys.run_all{S:Sys}{res:Nat->Nat->Nat}(hr:yccr res){J:Conf->Cnt->Prop}(hstep:∀c k s,J c k->s≠0->subB s (S.en c)->J (S.mv c s) (addP k s (S.en (S.mv c s)))) :
 ∀(ws:List Nat) (c:Conf) (k:Cnt),J c k->∀p∈S.run res ws c k,J p.1 p.2
 |[],_,_,_,p,hp=>by cases hp
 | w :: ws,c,k,hJ,p,hp=>by
   unfold Sys.run at hp;split at hp
   .cases hp
   .rename_i h0
    obtain⟨r1,r2⟩:=hr _ w h0;have hJ':=hstep c k _ hJ r1 r2;rcases List.mem_cons.1 hp with e|e
    .rw[e];exact hJ'
    .exact Sys.run_all hr hstep ws _ _ hJ' p e
theorem Sys.runs_all{S:Sys}{res:Nat->Nat->Nat}(hr:yccr res){J:Conf->Cnt->Prop}(hstep:∀c k s,J c k->s≠0->subB s (S.en c)->J (S.mv c s) (addP k s (S.en (S.mv c s)))){ws:List Nat}{c:Conf}(h:J c (ydi (S.en c))):∀p∈S.runs res ws c,J p.1 p.2:=fun p hp=>by
 rcases List.mem_cons.1 hp with e|e
 .rw[e];exact h
 .exact Sys.run_all hr hstep ws _ _ h p e
structure ByRounds(S:Sys)(V:Conf->Prop)(P:Nat->Nat->List Int->Prop):Prop where
 valid:∀c s,V c->s≠0->subB s (S.en c)->V (S.mv c s)
 stay:∀c s v,V c->v<S.n->s.testBit v=false->(S.mv c s).getD v []=c.getD v []
 move:∀c s v r,V c->v<S.n->s.testBit v=true->subB s (S.en c)->(∀u,u<S.n->P r u (c.getD u []))->P (r+1) v ((S.mv c s).getD v [])
 rest:∀c v r,V c->v<S.n->(S.en c).testBit v=false->(∀u,u<S.n->P r u (c.getD u []))->P (r+1) v (c.getD v [])
 less:∀r v s,P (r+1) v s->P r v s
structure RInv(S:Sys)(V:Conf->Prop)(P:Nat->Nat->List Int->Prop)(c:Conf)(k:Cnt):Prop where
 valid:V c
 all:∀v,v<S.n->P k.rounds v (c.getD v [])
 done:∀v,v<S.n->k.pend.testBit v=false->P (k.rounds+1) v (c.getD v [])
 begun:k.begun<=k.rounds+1
theorem ByRounds.start{S:Sys}{V:Conf->Prop}{P:Nat->Nat->List Int->Prop}(h:ByRounds S V P){c:Conf}(hv:V c)(h0:∀v,v<S.n->P 0 v (c.getD v [])):RInv S V P c (ydi (S.en c)) :=
 ⟨hv,h0,fun v hn hb=>h.rest c v 0 hv hn hb h0,by simp[ydi]⟩
theorem ByRounds.step{S:Sys}{V:Conf->Prop}{P:Nat->Nat->List Int->Prop}(h:ByRounds S V P)(c:Conf)(k:Cnt)(s:Nat)(hi:RInv S V P c k)(h0:s≠0)(hs:subB s (S.en c)):RInv S V P (S.mv c s) (addP k s (S.en (S.mv c s))):=by
 obtain⟨i1,i2,i3,i4⟩:=hi;have hv:=h.valid c s i1 h0 hs
 have hall:∀v,v<S.n->P k.rounds v ((S.mv c s).getD v []):=fun v hn=>by
  cases hb:s.testBit v with
  |true=>exact h.less _ _ _ (h.move c s v _ i1 hn hb hs i2)
  |false=>rw[h.stay c s v i1 hn hb];exact i2 v hn
 have hnext:∀v,v<S.n->(difB k.pend s&&&S.en (S.mv c s)).testBit v=false->P (k.rounds+1) v ((S.mv c s).getD v []):=fun v hn hb=>by
  rw[zBJ,ygw]at hb;cases hb1:s.testBit v with
  |true=>exact h.move c s v _ i1 hn hb1 hs i2
  | false =>
    cases hb2:k.pend.testBit v with
    |false=>rw[h.stay c s v i1 hn hb1];exact i3 v hn hb2
    | true =>
      rw[hb1,hb2]at hb;exact h.rest _ v _ hv hn (by simpa using hb) hall
 unfold addP;simp only
 by_cases hp:difB k.pend s&&&S.en (S.mv c s)=0
 .simp only[if_pos hp];have hall':∀v,v<S.n->P (k.rounds+1) v ((S.mv c s).getD v []):=fun v hn=>hnext v hn (by rw[hp];simp)
  exact⟨hv,hall',fun v hn hb=>h.rest _ v _ hv hn hb hall',by show k.rounds+1<=_;simp⟩
 .simp only[if_neg hp];exact⟨hv,hall,hnext,zAF _⟩
theorem ByRounds.runs{S:Sys}{V:Conf->Prop}{P:Nat->Nat->List Int->Prop}(h:ByRounds S V P){res:Nat->Nat->Nat}(hr:yccr res){ws:List Nat}{c:Conf}(hv:V c)(h0:∀v,v<S.n->P 0 v (c.getD v [])):∀p∈S.runs res ws c,RInv S V P p.1 p.2 :=
 Sys.runs_all hr h.step (h.start hv h0)
end
section
structure RuleT where
 name:ByteArray
 guard:Ex
 sets:List (Int×Ex)
structure ProgT where
 name:ByteArray
 vars:List VarR
 rules:List RuleT
instance:Inhabited Ex:=⟨.leaf 0 0⟩
instance:Inhabited RuleT:=⟨⟨.empty,default,[]⟩⟩
def RuleT.raw(r:RuleT):RuleR:=⟨r.name,r.guard.ser,r.sets.map fun s=>⟨s.1,s.2.ser⟩⟩
def ProgT.raw(p:ProgT):ProgR:=⟨p.name,p.vars,p.rules.map RuleT.raw⟩
def RuleT.ok(nv:Nat)(r:RuleT):Bool:=r.guard.ok nv false&&decide (r.guard.ser.length<=1000)&&decide (r.sets.length<=100)&&r.sets.all fun s=>decide (0<=s.1/\s.1<nv)&&s.2.ok nv false&&decide (s.2.ser.length<=1000)
def VarR.ok(x:VarR):Bool:=decide (x.kind=1\/x.kind=2\/x.kind=3)&&decide (0<=x.lo/\x.lo<=4096)&&decide (-4096<=x.hi/\x.hi<=4096)&&decide (0<=x.perNode/\x.perNode<=255)&&decide (0<=x.perID/\x.perID<=255)
def ProgT.ok(p:ProgT):Bool:=decide (1<=p.vars.length/\p.vars.length<=6)&&p.vars.all VarR.ok&&decide (p.rules.length<=12)&&p.rules.all (RuleT.ok p.vars.length)
def yjc(g:Gr)(c:Conf)(v:Nat)(r:RuleT):Bool:=ycs g c v r.guard (-1)!=0
def ygs(p:ProgT)(g:Gr)(c:Conf)(v:Nat):Int:=match p.rules.findIdx? (yjc g c v)with|some i=>i|none=>-1
def ybi(g:Gr)(v:Nat)(x:VarR):Int×Int :=
 if x.kind=1 then(x.lo,x.hi+x.perNode*(g.ids.length:Int)+x.perID*maxI g.ids)else if x.kind=2 then(0,1)else if x.kind=3 then(-1,((g.ports.getD v []).length:Int)-1)else(0,-1)
def yez(kind:Int)(b:Int×Int)(x:Int):Int:=if x>=b.1/\x<=b.2 then x else if kind=3 then -1 else if x<b.1 then b.1 else b.2
def ynt(p:ProgT)(g:Gr)(c:Conf)(v:Nat)(s0:List Int)(sets:List (Int×Ex)):List Int :=
 sets.foldl (fun s a=>s.set a.1.toNat (yez (p.vars.getD a.1.toNat default).kind (ybi g v (p.vars.getD a.1.toNat default)) (ycs g c v a.2 (-1)))) s0
def yyh(p:ProgT)(g:Gr)(c:Conf)(v:Nat)(r:Nat):List Int:=ynt p g c v (c.getD v []) (p.rules.getD r default).sets
def ybk(p:ProgT)(g:Gr)(c:Conf):Nat:=ylf (fun v=>decide (ygs p g c v>=0)) g.ids.length
def ydk(p:ProgT)(g:Gr)(c:Conf)(s:Nat):Conf:=c.zipIdx.map fun q=>if s.testBit q.2 then yyh p g c q.2 (ygs p g c q.2).toNat else q.1
def ybp(p:ProgT)(g:Gr):Sys:=⟨g.ids.length,ybk p g,ydk p g⟩
def ygr(p:ProgT)(g:Gr)(c:Conf):Bool:=yow g.ids.length (fun v=>p.vars.map (ybi g v)) c
end
section
namespace Sh
open Go Ev
theorem ycth{g:Gr}(hg:ybg g):0<=maxI g.ids/\maxI g.ids<=255:=by
 have h1:=hg.1;have h2:=hg.2.2.1;rw[ybys (by omega) fun x hx=>(hg.2.2.2.1 x hx).1]
 exact yrt hg
theorem ybic{x:VarR}(h:x.ok=true):(x.kind=1\/x.kind=2\/x.kind=3)/\(0<=x.lo/\x.lo<=4096)/\(-4096<=x.hi/\x.hi<=4096)/\(0<=x.perNode/\x.perNode<=255)/\(0<=x.perID/\x.perID<=255):=by
 unfold VarR.ok at h;simp only[zF,decide_eq_true_eq]at h;obtain⟨⟨⟨⟨a,b⟩,c⟩,d⟩,e⟩:=h;exact⟨a,b,c,d,e⟩
theorem mulN{a b A B:Int}(h1:0<=a)(h2:a<=A)(h3:0<=b)(h4:b<=B):0<=a*b/\a*b<=A*B:=⟨Int.mul_nonneg h1 h3,Int.mul_le_mul h2 h4 h3 (by omega)⟩
theorem yrs{g:Gr}(hg:ybg g){x:VarR}(hx:x.ok=true):(0<=x.perNode*(g.ids.length:Int)/\x.perNode*(g.ids.length:Int)<=255*24)/\(0<=x.perID*maxI g.ids/\x.perID*maxI g.ids<=255*255):=by
 obtain⟨_,_,_,h4,h5⟩:=ybic hx;have h6:=ycth hg;have h7:=hg.2.1;have h8:=hg.2.2.1;exact⟨mulN h4.1 h4.2 (by omega) (by omega),mulN h5.1 h5.2 h6.1 h6.2⟩
theorem ybec{g:Gr}(hg:ybg g){x:VarR}(hx:x.ok=true)(v:Int):Returns zG 198 [.ag (varC x),grV g,.i .i64 v] (.tp [.i .i64 x.lo,.i .i64 (x.hi+x.perNode*(g.ids.length:Int)+x.perID*maxI g.ids)]):=by
 refine Returns.of (ycxh _ _ ?_);have h1:=hg.1;have h7:=hg.2.1;have h8:=hg.2.2.1;have hM:=ycwy g.ids (by omega) (by omega)
 obtain⟨hb1,hb2⟩:=yrs hg hx;obtain⟨_,_,hv3,_,_⟩:=ybic hx;simp only[yw]at hM;simp only[c198,ycnq,ycfl,grV,varC,yw,go_sem,zA,zB,zC,zD,↓reduceIte,reduceCtorEq];refine⟨ikw (by omega) (by omega),ikw (by omega) (by omega),hM.use ?_⟩
 simp only[ybh,go_sem,zA,zB,↓reduceIte,reduceCtorEq];refine⟨ikw (by omega) (by omega),ikw (by omega) (by omega),?_⟩
 exact Sim.refl _
theorem ybez(g:Gr)(x:VarR)(v:Int):Returns zG 199 [.ag (varC x),grV g,.i .i64 v] (.tp [.i .i64 0,.i .i64 1]):=by
 refine Returns.of (yczu _ _ ?_);simp only[c199,ychj,ycly,grV,varC,go_sem,zA,zB,zD,↓reduceIte,reduceCtorEq];exact Sim.refl _
theorem ybfe{g:Gr}(hg:ybg g)(x:VarR){v:Nat}(hv:v<g.ports.length):Returns zG 200 [.ag (varC x),grV g,.i .i64 v] (.tp [.i .i64 (-1),.i .i64 (((g.ports.getD v []).length:Int)-1)]):=by
 refine Returns.of (ydal _ _ ?_);have hd:=hg.deg_lt (v:=v);simp only[c200,yckj,ycdn,grV,ybe,ybd,varC,go_sem,zA,zB,zD,↓reduceIte,reduceCtorEq];refine⟨by omega,ikw (by omega) (by omega),?_⟩
 exact Sim.refl _
theorem ybse(kind:Int)(b:Int×Int)(x:Int):Returns zG 194 [.i .i64 kind,.ag [.i .i64 b.1,.i .i64 b.2],.i .i64 x] (.i .i64 (yez kind b x)):=by
 refine Returns.of (yctv _ _ ?_);simp only[c194,ycgn,ycdm,ycet,ycok,ycqi,ycdw,ycil,ycln,yba,yez,go_sem,zAH,zA,zB,zC,zD,zAQ,↓reduceIte,reduceCtorEq];refine⟨by omega,fun h1=>⟨by omega,fun h2=>by rw[if_pos ⟨h1,h2⟩],fun h2=>⟨fun h3=>by rw[if_neg (fun q=>h2 q.2),if_pos h3],fun h3=>⟨by omega,fun h4=>⟨by omega,by rw[if_neg (fun q=>h2 q.2),if_neg h3,if_pos h4]⟩,fun h4=>⟨by omega,by rw[if_neg (fun q=>h2 q.2),if_neg h3,if_neg h4]⟩⟩⟩⟩,fun h1=>⟨fun h3=>by rw[if_neg (fun q=>h1 q.1),if_pos h3],fun h3=>⟨by omega,fun h4=>⟨by omega,by rw[if_neg (fun q=>h1 q.1),if_neg h3,if_pos h4]⟩,fun h4=>⟨by omega,by rw[if_neg (fun q=>h1 q.1),if_neg h3,if_neg h4]⟩⟩⟩⟩
theorem yvk{g:Gr}(hg:ybg g){x:VarR}(hx:x.ok=true){v:Nat}(hv:v<g.ports.length):Returns zG 171 [.ag (varC x),grV g,.i .i64 v] (.tp [.i .i64 (ybi g v x).1,.i .i64 (ybi g v x).2]):=by
 refine Returns.of (ycut _ _ ?_);have h1:=ybec hg hx v;have h2:=ybez g x v;have h3:=ybfe hg x hv;obtain⟨hk,_⟩:=ybic hx;simp only[varC,grV]at h1 h2 h3;simp only[c171,ycih,ycrl,ycne,varC,grV,splice,go_sem,zA,zB,zC,zD,↓reduceIte,reduceCtorEq]
 refine ybn (σ:=Nat) (fun k=>⟨[(17,.i .i64 k),(15,.os (14,0) 0 3 true),(16,.i .i64 3),(2,.i .i64 v),(3,.pt (3,0) 0 0),(4,.pt (4,0) 0 0)],
  [(3,.one (some ⟨87,true,6,1,fun _=>varC x⟩)),(4,.one (some ⟨27,true,2,1,fun _=>[yw g.ids,ybe g.ports]⟩)),
   (14,.one (some ⟨209,false,2,3,fun k=>if k=0 then[.i .i64 1,.fn 198 [] []]else if k=1 then[.i .i64 2,.fn 199 [] []]else[.i .i64 3,.fn 200 [] []]⟩))]⟩)
  (fun k=>k<=2/\(1<=k->x.kind≠1)/\(2<=k->x.kind≠2)) (fun k=>3-k) 0 ⟨by omega,by omega,by omega⟩ ?_ ?_
 .refine yh [] [] [] ?_;simp only[varC,allQ,live,yc,yba,zH,go_sem,zA,↓reduceIte,reduceCtorEq];refine⟨rfl,fun i hi=>?_⟩;rcases(show i=0\/i=1\/i=2 by omega)with rfl|rfl|rfl
  .simp only[live,yc,go_sem,↓reduceIte,reduceCtorEq]
  .simp only[if_neg (show ¬(1:Nat)=0 by omega),live,yc,go_sem,↓reduceIte,reduceCtorEq]
  .simp only[if_neg (show ¬(2:Nat)=0 by omega),if_neg (show ¬(2:Nat)=1 by omega),live,yc,go_sem,zA,↓reduceIte,reduceCtorEq]
 .rintro k ⟨hk2,hk3,hk4⟩;rcases(show k=0\/k=1\/k=2 by omega)with rfl|rfl|rfl
  .simp only[ybgj,ybhj,ybhx,ybgr,ybfx,ybgi,varC,splice,go_sem,zA,zB,zC,zD,↓reduceIte,reduceCtorEq];refine⟨fun _=>⟨by omega,fun he=>h1.use ?_,fun he=>⟨ikw (by omega) (by omega),?_⟩⟩,fun h=>by omega⟩
   .simp only[ybh,go_sem,zA,zB,↓reduceIte,reduceCtorEq];have e:ybi g v x=(x.lo,x.hi+x.perNode*(g.ids.length:Int)+x.perID*maxI g.ids):=by unfold ybi;rw[if_pos he.symm]
    rw[e];exact Sim.refl _
   .refine yu 1 ⟨by omega,fun _ q=>he q.symm,by omega⟩ (by omega) ?_
    refine yh [] [] [] ?_;simp only[allQ,live,yc,yba,zH,go_sem,zA,↓reduceIte,reduceCtorEq];refine⟨by omega,fun i hi=>?_⟩
    rcases(show i=0\/i=1\/i=2 by omega)with rfl|rfl|rfl
    .simp only[live,yc,go_sem,↓reduceIte,reduceCtorEq]
    .simp only[if_neg (show ¬(1:Nat)=0 by omega),live,yc,go_sem,↓reduceIte,reduceCtorEq]
    .simp only[if_neg (show ¬(2:Nat)=0 by omega),if_neg (show ¬(2:Nat)=1 by omega),live,yc,go_sem,zA,↓reduceIte,reduceCtorEq]
  .simp only[ybgj,ybhj,ybhx,ybgr,ybfx,ybgi,varC,splice,go_sem,zA,zB,zC,zD,↓reduceIte,reduceCtorEq];refine⟨fun _=>⟨by omega,fun he=>h2.use ?_,fun he=>⟨ikw (by omega) (by omega),?_⟩⟩,fun h=>by omega⟩
   .simp only[ybh,go_sem,zA,zB,↓reduceIte,reduceCtorEq];have e:ybi g v x=(0,1):=by unfold ybi;rw[if_neg (by omega),if_pos he.symm]
    rw[e];exact Sim.refl _
   .refine yu 2 ⟨by omega,fun _=>by omega,fun _ q=>he q.symm⟩ (by omega) ?_
    refine yh [] [] [] ?_;simp only[allQ,live,yc,yba,go_sem,zA,↓reduceIte,reduceCtorEq];refine⟨by omega,fun i hi=>?_⟩
    rcases(show i=0\/i=1\/i=2 by omega)with rfl|rfl|rfl
    .simp only[live,yc,go_sem,↓reduceIte,reduceCtorEq]
    .simp only[if_neg (show ¬(1:Nat)=0 by omega),live,yc,go_sem,↓reduceIte,reduceCtorEq]
    .simp only[if_neg (show ¬(2:Nat)=0 by omega),if_neg (show ¬(2:Nat)=1 by omega),live,yc,go_sem,zA,↓reduceIte,reduceCtorEq]
  .simp only[ybgj,ybhj,ybhx,ybgr,ybfx,ybgi,varC,splice,go_sem,zA,zB,zC,zD,↓reduceIte,reduceCtorEq];refine⟨fun _=>⟨by omega,fun he=>h3.use ?_,fun he=>by omega⟩,fun h=>by omega⟩
   simp only[ybh,go_sem,zA,zB,↓reduceIte,reduceCtorEq];have e:ybi g v x=(-1,((g.ports.getD v []).length:Int)-1):=by unfold ybi;rw[if_neg (by omega),if_neg (by omega),if_pos he.symm]
   rw[e];exact Sim.refl _
def yjb(n:Nat)(vars:List VarR)(b:Nat->VarR->Int×Int):SV:=.sl 1 n (fun v=>[.sl 2 vars.length (fun i=>[.i .i64 (b v (vars.getD i default)).1,.i .i64 (b v (vars.getD i default)).2])])
def rowT(vars:List VarR)(b:VarR->Int×Int):SV:=.sl 2 vars.length (fun i=>[.i .i64 (b (vars.getD i default)).1,.i .i64 (b (vars.getD i default)).2])
theorem ybbp(p:ProgR){g:Gr}(hg:ybg g)(hp:p.vars.all VarR.ok=true)(hl:p.vars.length<=6):Returns zG 144 [.ag (yna p),grV g] (yjb g.ids.length p.vars (ybi g)):=by
 refine Returns.of (yctb _ _ ?_);have h24:=hg.2.1;have hid:=hg.2.2.1;obtain⟨n,hn⟩:∃n,g.ids.length=n:=⟨_,rfl⟩;obtain⟨nv,hnv⟩:∃k,p.vars.length=k:=⟨_,rfl⟩;rw[hn];rw[hnv]at hl;simp only[c144,ycit,ycpi,ycfi,grV,yw,yna,hn,go_sem,zA,zB,zC,zD,↓reduceIte,reduceCtorEq];refine⟨by omega,?_⟩
 refine ybn (σ:=Nat) (fun k=>⟨[(15,.i .i64 k),(14,.i .i64 n),(5,.os (12,0) 0 n true),(2,.pt (2,0) 0 0),(3,.pt (3,0) 0 0)],
  [(2,.one (some ⟨58,true,3,1,fun _=>yna p⟩)),(3,.one (some ⟨27,true,2,1,fun _=>[yw g.ids,ybe g.ports]⟩)),
   (12,.one (some ⟨73,false,1,n,fun i=>[if i<k then rowT p.vars (ybi g i)else .a (.slice none 0 0)]⟩))]⟩) (fun k=>k<=n) (fun k=>n-k) 0 (zL _) ?_ ?_
 .refine yh [] [] [] ?_;simp only[yna,yw,hn,allQ,live,yc,zH,go_sem,zA,↓reduceIte,reduceCtorEq];intro i _;rw[if_neg (by omega)]
  simp only[yc,go_sem]
 .intro k hk;simp only[yclk,ycfj,ycix,ycgw,yna,yek,splice,hnv,go_sem,zA,zB,zC,zD,↓reduceIte,reduceCtorEq];refine⟨fun hlt=>⟨by omega,by omega,by omega,?_⟩,fun hlt=>?_⟩
  .have hk':k<n:=by omega
   let b:Nat->Int×Int:=fun i=>ybi g k (p.vars.getD i default)
   refine ybn (σ:=Nat) (fun j=>⟨[(28,.i .i64 j),(26,yek p.vars),(27,.i .i64 nv),(6,.i .i64 k),(15,.i .i64 k),(14,.i .i64 n),(5,.os (12,0) 0 n true),(2,.pt (2,0) 0 0),(3,.pt (3,0) 0 0)],
    [(2,.one (some ⟨58,true,3,1,fun _=>yna p⟩)),(3,.one (some ⟨27,true,2,1,fun _=>[yw g.ids,ybe g.ports]⟩)),
     (12,.one (some ⟨73,false,1,n,fun i=>[if i<k then rowT p.vars (ybi g i)else if i=k then .os (23,0) 0 nv true else .a (.slice none 0 0)]⟩)),
     (23,.one (some ⟨75,false,2,nv,fun i=>[.i .i64 (if i<j then(b i).1 else 0),.i .i64 (if i<j then(b i).2 else 0)]⟩))]⟩) (fun j=>j<=nv) (fun j=>nv-j) 0 (zL _) ?_ ?_
   .refine yh [] [] [] ?_;simp only[yna,yek,hnv,allQ,live,yc,yba,zH,go_sem,zA,↓reduceIte,reduceCtorEq];refine⟨fun i hi=>?_,fun i hi=>?_⟩
    .by_cases q2:i=k
     .simp only[if_pos q2,if_neg (show ¬i<k by omega)]
      simp only[live,yc,go_sem,zA,↓reduceIte,reduceCtorEq]
     .simp only[if_neg q2]
      by_cases q1:i<k
      .simp only[if_pos q1];simp only[rowT,live,yc,go_sem,reduceCtorEq]
      .simp only[if_neg q1];simp only[live,yc,go_sem,reduceCtorEq]
    .simp only[if_neg (zAK i),and_self]
   .intro j hj;simp only[ycot,ycqa,yckv,ybqt,ybqr,yna,yek,varC,splice,hnv,go_sem,zA,zB,zD,↓reduceIte,reduceCtorEq];refine⟨fun hlt=>?_,fun hlt=>?_⟩
    .have hj':j<nv:=by omega
     have hB:=yvk hg (x:=p.vars.getD j default) (by
      rw[getD_at (by omega)]
      exact List.all_eq_true.1 hp _ (zM _)) (v:=k) (by omega)
     simp only[varC,grV]at hB;refine⟨by omega,by omega,by omega,by omega,by omega,hB.use ?_⟩
     simp only[ybh,splice,go_sem,zAH,zA,zB,zC,zAQ,↓reduceIte,reduceCtorEq];refine⟨by omega,by omega,by omega,by decide,by omega,by omega,by omega,by decide,ikw (by omega) (by omega),?_⟩
     refine yu (j+1) (by omega) (by omega) ?_
     refine yh [] [] [] ?_;simp only[allQ,live,yc,yba,go_sem,zA,↓reduceIte,reduceCtorEq];refine⟨by omega,fun i hi=>?_,fun i hi=>?_⟩
     .by_cases q1:i<k
      .simp only[if_pos q1];simp only[rowT,yc,go_sem]
      .simp only[if_neg q1]
       by_cases q2:i=k
       .simp only[if_pos q2];simp only[live,yc,go_sem,zA,↓reduceIte]
       .simp only[if_neg q2];simp only[yc,go_sem]
     .by_cases q2:i=j
      .subst q2;simp only[if_pos (zAS i),↓reduceIte];simp only[live,yba,go_sem,reduceCtorEq];exact⟨rfl,rfl⟩
      .simp only[if_neg q2]
       by_cases q1:i<j
       .simp only[if_pos q1,if_pos (show i<j+1 by omega)]
        simp only[live,yc,go_sem,reduceCtorEq]
       .simp only[if_neg q1,if_neg (show ¬i<j+1 by omega)]
        simp only[live,yc,go_sem,reduceCtorEq]
    .obtain rfl:j=nv:=by omega
     refine⟨ikw (by omega) (by omega),?_⟩
     refine yu (k+1) (by omega) (by omega) ?_
     refine yh [] [] [(23,0)] ?_;simp only[allQ,live,yc,yba,go_sem,zA,zC,↓reduceIte,reduceCtorEq];refine⟨by omega,fun i hi=>?_⟩
     by_cases q1:i<k
     .simp only[if_pos q1,if_pos (show i<k+1 by omega)]
      simp only[rowT,yc,go_sem]
     .by_cases q2:i=k
      .simp only[if_neg q1,if_pos q2,if_pos (show i<k+1 by omega)]
       subst q2;simp only[rowT,hnv,go_sem,zA,↓reduceIte];refine yjo fun q hq=>?_;simp only[if_pos hq];simp only[SimL,go_sem];exact⟨Sim.refl _,Sim.refl _⟩
      .simp only[if_neg q1,if_neg q2,if_neg (show ¬i<k+1 by omega)]
       simp only[yc,go_sem]
  .obtain rfl:k=n:=by omega
   simp only[ybqx,go_sem,zA,zB,↓reduceIte,reduceCtorEq];refine⟨fun q hq=>by simp only[if_pos hq];simp only[rowT,go_sem],?_⟩
   refine yjo fun q hq=>?_;simp only[if_pos hq];simp only[SimL,yc,rowT,hnv,go_sem]
end Sh
end
section
namespace Sh
open Go Ev
theorem ybly(bs:Bounds)(s:List Int)(hl:bs.length<=1000):Returns zG 192 [ybd bs,yw s] (.b (ysv bs s)):=by
 refine Returns.of (ycun _ _ ?_);simp only[c192,ycfr,ycmw,ycmn,ychk,ybd,yw,yfk,go_sem,zA,zB,↓reduceIte,reduceCtorEq];refine⟨fun h=>?_,fun h=>?_⟩
 .have:¬ysv bs s=true:=fun q=>h (by rw[((yew bs s).1 q).1])
  simpa using this
 have hlen:s.length=bs.length:=by omega
 refine ybn (σ:=Nat) (fun k=>⟨[(14,.i .i64 k),(13,.i .i64 s.length),(12,yw s),(0,ybd bs)],[]⟩) (fun k=>k<=s.length/\∀i,i<k->(bs.getD i (0,0)).1<=s.getD i 0/\s.getD i 0<=(bs.getD i (0,0)).2) (fun k=>s.length-k) 0 ⟨zL _,fun i h=>absurd h (zAK _)⟩ ?_ ?_
 .refine yh [] [] [] ?_;simp only[ybd,yw,allQ,live,yc,zH,go_sem,zA,↓reduceIte,reduceCtorEq]
 .intro k ⟨hk,hall⟩;simp only[ycrg,ycdv,ycru,ycjg,ycpd,ycos,ybd,yw,yfk,go_sem,zAH,zA,zB,zC,zAQ,↓reduceIte,reduceCtorEq]
  have hno:k<s.length->¬((bs.getD k (0,0)).1<=s.getD k 0/\s.getD k 0<=(bs.getD k (0,0)).2)->ysv bs s=false:=fun hlt hn=>by
   have:¬ysv bs s=true:=fun q=>hn (by
    have hb:k<bs.length:=by omega
    have:=((yew bs s).1 q).2 k bs[k] s[k] (zN hb) (zN hlt);rw[getD_at hlt,getD_at hb];exact this)
   simpa using this
  refine⟨fun hlt=>⟨by omega,by omega,by omega,fun h1=>⟨by omega,by omega,fun h2=>?_,fun h2=>⟨ikw (by omega) (by omega),?_⟩⟩,fun h1=>?_⟩,fun hlt=>?_⟩
  .rw[hno (by omega) (by omega)]
  .refine yu (k+1) ⟨by omega,fun i hi=>?_⟩ (by omega) ?_
   .by_cases q:i<k
    .exact hall i q
    .obtain rfl:i=k:=by omega
     omega
   .refine yh [] [] [] ?_;simp only[allQ,live,yc,yba,go_sem,zA,↓reduceIte,reduceCtorEq];simp
  .rw[hno (by omega) (by omega)]
  .obtain rfl:k=s.length:=by omega
   rw[(yew bs s).2 ⟨hlen,fun i b x hb hx=>by
    have h1:=(List.getElem?_eq_some_iff.1 hx).1;have:=hall i h1;simp only[zK,hb,hx,Option.getD_some]at this;exact this⟩]
theorem ybki{n:Nat}(vars:List VarR)(hv:vars.length<=1000)(b:Nat->VarR->Int×Int)(c:Conf)(hn:n<=1000):Returns zG 156 [yjb n vars b,ybm c] (.b (yow n (fun v=>vars.map (b v)) c)):=by
 refine Returns.of (ycza _ _ ?_);simp only[c156,ycoc,ycnl,ycon,ycmv,yjb,ybm,yfk,go_sem,zA,zB,↓reduceIte,reduceCtorEq];refine⟨fun h=>?_,fun h=>?_⟩
 .rw[yie fun q=>h (by rw[q.1])]
 have hlen:c.length=n:=by omega
 refine ybn (σ:=Nat) (fun k=>⟨[(14,.i .i64 k),(13,.i .i64 n),(12,yjb n vars b),(1,ybm c)],[]⟩) (fun k=>k<=n/\∀(i:Nat) s,i<k->c[i]?=some s->yfw (vars.map (b i)) s) (fun k=>n-k) 0 ⟨zL _,fun i s h=>absurd h (zAK _)⟩ ?_ ?_
 .refine yh [] [] [] ?_;simp only[yjb,ybm,allQ,live,yc,zH,go_sem,zA,↓reduceIte,reduceCtorEq]
 .intro k ⟨hk,hall⟩;simp only[ycgr,ycsm,ycku,ycgx,ycsb,ycpt,yjb,ybm,yw,yfk,go_sem,zA,zB,↓reduceIte,reduceCtorEq];refine⟨fun hlt=>⟨by omega,by omega,?_⟩,fun hlt=>?_⟩
  .have hS := ybly (vars.map (b k)) (c.getD k []) (by simpa using hv)
   refine hS.useS ⟨?_,Sim.refl _,trivial⟩ ?_
   .show Sim (.sl 2 vars.length _) (ybd (vars.map (b k)));unfold ybd;rw[zU];refine yhz fun i hi=>?_;simp[zK,hi]
   .simp only[ybh,yfk,go_sem,zA,zB,↓reduceIte,reduceCtorEq];have hk':k<c.length:=by omega
    rw[getD_at hk'];refine⟨fun h1=>?_,fun h1=>⟨ikw (by omega) (by omega),?_⟩⟩
    .rw[yie fun q=>by
      have:=(yew _ _).2 (q.2 k c[k] (zN hk'));rw[this]at h1;cases h1]
    .refine yu (k+1) ⟨by omega,fun i s hi hs=>?_⟩ (by omega) ?_
     .by_cases q:i<k
      .exact hall i s q hs
      .obtain rfl:i=k:=by omega
       rw[zN hk']at hs;cases hs
       exact(yew _ _).1 h1
     .refine yh [] [] [] ?_;simp only[allQ,live,yc,yba,go_sem,zA,↓reduceIte,reduceCtorEq];simp
  .obtain rfl:k=n:=by omega
   rw[yup ⟨hlen,fun v s hs=>hall v s (by have:=(List.getElem?_eq_some_iff.1 hs).1;omega) hs⟩]
theorem yxz(c:Conf)(hc:∀s∈c,0<s.length/\s.length<=1000)(hl:c.length<=1000):Returns zG 132 [ybm c] (ybm c):=by
 refine Returns.of (ycyw _ _ ?_);obtain⟨n,hn⟩:∃n,c.length=n:=⟨_,rfl⟩;rw[hn]at hl;simp only[c132,ybrx,ybpj,ybpo,ybm,hn,go_sem,zA,zB,zD,↓reduceIte,reduceCtorEq];refine⟨by omega,?_⟩
 refine ybn (σ:=Nat) (fun k=>⟨[(11,.i .i64 k),(10,.i .i64 n),(9,ybm c),(3,.os (8,0) 0 n true)],[(8,.one (some ⟨22,false,1,n,fun i=>[if i<k then yw (c.getD i [])else .a (.slice none 0 0)]⟩))]⟩) (fun k=>k<=n) (fun k=>n-k) 0 (zL _) ?_ ?_
 .refine yh [] [] [] ?_;simp only[ybm,hn,allQ,live,yc,zH,go_sem,zA,↓reduceIte,reduceCtorEq];intro i _;rw[if_neg (by omega)]
  simp only[yc,go_sem]
 .intro k hk
  have hrow:k<n->0<(c.getD k []).length/\(c.getD k []).length<=1000:=fun h=>by
   have:=hc (c.getD k []) (by rw[getD_at (show k<c.length by omega)];exact zM _)
   exact this
  by_cases hlt:k<n
  .have hr:=hrow (by omega)
   have hr0:¬(c.getD k []).length=0:=by omega
   have ht:decide ((k:Int)<(n:Int))=true:=decide_eq_true (by omega)
   simp only[yzi,yzo,ybbm,yzc,yyu,ybm,yw,splice,hn,hr0,ht,go_sem,zA,zB,zD,↓reduceIte,reduceCtorEq];refine⟨by omega,by omega,by omega,by omega,ikw (by omega) (by omega),?_⟩
   refine yu (k+1) (by omega) (by omega) ?_
   refine yh [] [] [(19,0)] ?_;simp only[allQ,live,yc,yba,go_sem,zA,↓reduceIte,reduceCtorEq];refine⟨by omega,fun i hi=>?_⟩
   by_cases q2:i=k
   .subst q2;simp only[if_pos (zAS i),↓reduceIte];simp only[live,yc,go_sem,zA,↓reduceIte,reduceCtorEq]
   .simp only[if_neg q2]
    by_cases q1:i<k
    .simp only[if_pos q1,if_pos (show i<k+1 by omega)]
     simp only[live,yc,go_sem,reduceCtorEq]
    .simp only[if_neg q1,if_neg (show ¬i<k+1 by omega)]
     simp only[live,yc,go_sem,reduceCtorEq]
  .obtain rfl:k=n:=by omega
   have ht:decide ((k:Int)<(k:Int))=false:=decide_eq_false (by omega)
   simp only[yzi,yzo,ybbm,yzc,yyu,ybm,yw,hn,ht,go_sem,zA,zB,↓reduceIte,reduceCtorEq];refine⟨fun q hq=>by simp only[if_pos hq];simp only[go_sem],?_⟩
   refine yjo fun q hq=>?_;simp only[if_pos hq];simp only[SimL,yc,go_sem]
theorem ycbp(c:Conf)(hc:∀s∈c,0<s.length/\s.length<=1000)(hl:c.length<=1000):Cm zG 132 [] [] [ybm c] fun r o=>r = .os (8,0) 0 c.length true/\o=[(8,.one (some ⟨22,false,1,c.length,fun i=>[yw (c.getD i [])]⟩))]:=by
 refine ybxp [] [] _ _ _ ?_;obtain⟨n,hn⟩:∃n,c.length=n:=⟨_,rfl⟩;rw[hn]at hl ⊢;simp only[c132,ybrx,ybpj,ybpo,ybm,hn,go_sem,zA,zB,zD,↓reduceIte,reduceCtorEq];refine⟨by omega,?_⟩
 refine ybn (σ:=Nat) (fun k=>⟨[(11,.i .i64 k),(10,.i .i64 n),(9,ybm c),(3,.os (8,0) 0 n true)],[(8,.one (some ⟨22,false,1,n,fun i=>[if i<k then yw (c.getD i [])else .a (.slice none 0 0)]⟩))]⟩) (fun k=>k<=n) (fun k=>n-k) 0 (zL _) ?_ ?_
 .refine yh [] [] [] ?_;simp only[ybm,hn,allQ,live,yc,zH,go_sem,zA,↓reduceIte,reduceCtorEq];intro i _;rw[if_neg (by omega)]
  simp only[yc,go_sem]
 .intro k hk
  have hrow:k<n->0<(c.getD k []).length/\(c.getD k []).length<=1000:=fun h=>by
   have:=hc (c.getD k []) (by rw[getD_at (show k<c.length by omega)];exact zM _)
   exact this
  by_cases hlt:k<n
  .have hr:=hrow (by omega)
   have hr0:¬(c.getD k []).length=0:=by omega
   have ht:decide ((k:Int)<(n:Int))=true:=decide_eq_true (by omega)
   simp only[yzi,yzo,ybbm,yzc,yyu,ybm,yw,splice,hn,hr0,ht,go_sem,zA,zB,zD,↓reduceIte,reduceCtorEq];refine⟨by omega,by omega,by omega,by omega,ikw (by omega) (by omega),?_⟩
   refine yu (k+1) (by omega) (by omega) ?_
   refine yh [] [] [(19,0)] ?_;simp only[allQ,live,yc,yba,go_sem,zA,↓reduceIte,reduceCtorEq];refine⟨by omega,fun i hi=>?_⟩
   by_cases q2:i=k
   .subst q2;simp only[if_pos (zAS i),↓reduceIte];simp only[live,yc,go_sem,zA,↓reduceIte,reduceCtorEq]
   .simp only[if_neg q2]
    by_cases q1:i<k
    .simp only[if_pos q1,if_pos (show i<k+1 by omega)]
     simp only[live,yc,go_sem,reduceCtorEq]
    .simp only[if_neg q1,if_neg (show ¬i<k+1 by omega)]
     simp only[live,yc,go_sem,reduceCtorEq]
  .obtain rfl:k=n:=by omega
   have ht:decide ((k:Int)<(k:Int))=false:=decide_eq_false (by omega)
   simp only[yzi,yzo,ybbm,yzc,yyu,ybm,yw,hn,ht,yhj,go_sem,zA,zB,↓reduceIte,reduceCtorEq];refine⟨.os (8,0) 0 k true,[(8,.one (some ⟨22,false,1,k,fun i=>[yw (c.getD i [])]⟩))],?_,?_,rfl,rfl⟩
   .refine yh [] [] [] ?_;simp only[yw,allQ,live,yc,go_sem,↓reduceIte,reduceCtorEq];intro i hi;simp only[if_pos hi];simp only[yc,go_sem]
   .simp only[yco,yfe,allQ,live,go_sem,↓reduceIte]
end Sh
end
section
namespace Sh
open Go Ev
theorem yhb(p:ProgR){g:Gr}(hg:ybg g){nv:Nat}{c:Conf}(hc:ConfIn g.ports.length nv c){v:Nat}(hv:v<g.ports.length)(e:List Tm)(hl:e.length<=1000):∀x:Ex,ybtt p g nv c v e x
 | .leaf op arg=>by
   intro bnd port at_ rest ho hp hpi he;obtain⟨d1,d2,d3⟩:=yeq (show e.drop at_=(op,arg)::rest from he)
   have hL:=ycaj p hg hc hv e ho port hp;have hr:=ho;simp only[Ex.ok,zF,decide_eq_true_eq]at hr;simp only[yiv,ybd]at hL;refine Returns.of (ytb _ _ ?_);simp only[c220,yun,yvg,ytz,yuy,yux,yvn,ytx,yvb,yuw,yvh,yot,ynp,ynz,yob,yov,yoj,ynm,yom,yny,yiv,ybd,d2,splice,go_sem,zA,zB,zC,zD,↓reduceIte,reduceCtorEq];refine⟨by omega,fun h=>hL.use ?_,fun h=>by omega⟩
   simp only[ybh,go_sem,zA,zB,↓reduceIte,reduceCtorEq];refine⟨ikw (by omega) (by omega),?_⟩
   exact Sim.refl _
 | .un op a=>by
   intro bnd port at_ rest ho hp hpi he;obtain⟨d1,d2,d3⟩:=yeq (show e.drop at_=(op,0)::(a.ser++rest)from he)
   have hr:=ho;simp only[Ex.ok,zF,decide_eq_true_eq]at hr;have hV:=yhb p hg hc hv e hl a bnd port (at_+1) rest hr.2 hp hpi d3;rw[show((at_+1:Nat):Int)=(at_:Int)+1 by omega]at hV
   have hU:=ybqh op (ycs g c v a port) (yhc hg rfl hc hv a hr.2 hp hpi);simp only[yiv,ybd]at hV;refine Returns.of (ytb _ _ ?_);simp only[c220,yun,yvg,ytz,yuy,yux,yvn,ytx,yvb,yuw,yvh,yot,ynp,ynz,yob,yov,yoj,ynm,yom,yny,yiv,ybd,d2,splice,go_sem,zA,zB,zC,zD,↓reduceIte,reduceCtorEq];refine⟨by omega,fun h=>by omega,fun h=>⟨fun h=>⟨ikw (by omega) (by omega),hV.use ?_⟩,fun h=>by omega⟩⟩
   simp only[ybh,go_sem,zA,zB,zC,↓reduceIte,reduceCtorEq];refine hU.use ?_;simp only[go_sem];rw[show at_+(Ex.un op a).ser.length=at_+1+a.ser.length by simp[Ex.ser];omega]
   exact Sim.refl _
 | .agg op a=>by
   intro bnd port at_ rest ho hp hpi he;obtain⟨d1,d2,d3⟩:=yeq (show e.drop at_=(op,0)::(a.ser++rest)from he)
   have hr:=ho;simp only[Ex.ok,zF,decide_eq_true_eq]at hr;have ho2:(Ex.agg op a).ok nv true=true:=by simp only[Ex.ok,zF,decide_eq_true_eq];exact hr
   have hA:=yxa p hg hc hv e hl ho2 (yhb p hg hc hv e hl a) at_ rest he;simp only[yiv,ybd]at hA;refine Returns.of (ytb _ _ ?_);simp only[c220,yun,yvg,ytz,yuy,yux,yvn,ytx,yvb,yuw,yvh,yot,ynp,ynz,yob,yov,yoj,ynm,yom,yny,yiv,ybd,d2,splice,go_sem,zA,zB,zC,zD,↓reduceIte,reduceCtorEq];refine⟨by omega,fun h=>by omega,fun h=>⟨fun h=>by omega,fun h=>⟨fun h=>hA.use ?_,fun h=>by omega⟩⟩⟩
   simp only[ybh,go_sem,zA,zB,↓reduceIte,reduceCtorEq];exact Sim.refl _
 | .bin op a b=>by
   intro bnd port at_ rest ho hp hpi he;obtain⟨d1,d2,d3⟩:=yeq (show e.drop at_=(op,0)::((a.ser++b.ser)++rest)from he)
   have hr:=ho;simp only[Ex.ok,zF,decide_eq_true_eq]at hr;rw[zBE]at d3
   have hfit:at_+1+a.ser.length<=e.length:=by
    have:=congrArg zAY d3;simp at this;omega
   have hV1:=yhb p hg hc hv e hl a bnd port (at_+1) _ hr.1.2 hp hpi d3;have hV2:=yhb p hg hc hv e hl b bnd port (at_+1+a.ser.length) _ hr.2 hp hpi (yqw d3);rw[show((at_+1:Nat):Int)=(at_:Int)+1 by omega]at hV1
   have hB:=yblk op (ycs g c v a port) (ycs g c v b port) (yhc hg rfl hc hv a hr.1.2 hp hpi) (yhc hg rfl hc hv b hr.2 hp hpi);simp only[yiv,ybd]at hV1 hV2;refine Returns.of (ytb _ _ ?_);simp only[c220,yun,yvg,ytz,yuy,yux,yvn,ytx,yvb,yuw,yvh,yot,ynp,ynz,yob,yov,yoj,ynm,yom,yny,yiv,ybd,d2,splice,go_sem,zA,zB,zC,zD,↓reduceIte,reduceCtorEq];refine⟨by omega,fun h=>by omega,fun h=>⟨fun h=>by omega,fun h=>⟨fun h=>by omega,fun h=>⟨fun h=>⟨ikw (by omega) (by omega),hV1.use ?_⟩,fun h=>by omega⟩⟩⟩⟩
   simp only[ybh,go_sem,zA,zB,↓reduceIte,reduceCtorEq];refine hV2.use ?_;simp only[go_sem,zA,zB,zC,↓reduceIte];refine hB.use ?_;simp only[go_sem];rw[show at_+(Ex.bin op a b).ser.length=at_+1+a.ser.length+b.ser.length by simp[Ex.ser];omega]
   exact Sim.refl _
 | .ite x a b=>by
   intro bnd port at_ rest ho hp hpi he;obtain⟨d1,d2,d3⟩:=yeq (show e.drop at_=(43,0)::((x.ser++(a.ser++b.ser))++rest)from he)
   have hr:=ho;simp only[Ex.ok,zF]at hr;rw[zBE,zBE]at d3
   have hfit:at_+1+x.ser.length+a.ser.length<=e.length:=by
    have:=congrArg zAY d3;simp at this;omega
   have hV1:=yhb p hg hc hv e hl x bnd port (at_+1) _ hr.1.1 hp hpi d3;have hV2:=yhb p hg hc hv e hl a bnd port (at_+1+x.ser.length) _ hr.1.2 hp hpi (yqw d3);have hV3:=yhb p hg hc hv e hl b bnd port (at_+1+x.ser.length+a.ser.length) _ hr.2 hp hpi (yqw (yqw d3));rw[show((at_+1:Nat):Int)=(at_:Int)+1 by omega]at hV1
   simp only[yiv,ybd]at hV1 hV2 hV3;refine Returns.of (ytb _ _ ?_);simp only[c220,yun,yvg,ytz,yuy,yux,yvn,ytx,yvb,yuw,yvh,yot,ynp,ynz,yob,yov,yoj,ynm,yom,yny,yiv,ybd,d2,splice,go_sem,zA,zB,zC,zD,↓reduceIte,reduceCtorEq];refine⟨by omega,fun h=>by omega,fun h=>⟨fun h=>by omega,fun h=>⟨fun h=>by omega,fun h=>⟨fun h=>by omega,fun h=>⟨ikw (by omega) (by omega),hV1.use ?_⟩⟩⟩⟩⟩
   simp only[ybh,go_sem,zA,zB,↓reduceIte,reduceCtorEq];refine hV2.use ?_;simp only[go_sem,zA,↓reduceIte,reduceCtorEq];refine hV3.use ?_;simp only[go_sem,zA,zB,↓reduceIte,reduceCtorEq];rw[show at_+(Ex.ite x a b).ser.length=at_+1+x.ser.length+a.ser.length+b.ser.length by simp[Ex.ser];omega]
   refine⟨fun h0=>?_,fun h0=>?_⟩
   .show Sim _ (.tp [.i .i64 (if _ then _ else _),_])
    rw[if_pos h0];exact Sim.refl _
   .show Sim _ (.tp [.i .i64 (if _ then _ else _),_])
    rw[if_neg (not_not_intro h0)];exact Sim.refl _
theorem yzt(p:ProgR){g:Gr}(hg:ybg g){nv:Nat}{c:Conf}(hc:ConfIn g.ports.length nv c){v:Nat}(hv:v<g.ports.length)(x:Ex)(hx:x.ok nv false=true)(hl:x.ser.length<=1000) :
 Returns zG 193 [.rf (yff p g),ybm c,.i .i64 v,ybd x.ser] (.i .i64 (ycs g c v x (-1))):=by
 have hV:=yhb p hg hc hv x.ser hl x false (-1) 0 [] hx (fun q=>by cases q) (by unfold InB;omega) (by simp)
 refine Returns.of (yctp _ _ ?_);simp only[yiv,yff,ybm,yw,ybd,ybe,ydm,zH]at hV;simp only[c193,ycso,ycgl,yclm,ycsh,yff,ybm,yw,ybd,ybe,ydm,splice,go_sem,zA,zB,zC,zD,↓reduceIte,reduceCtorEq];refine .inl (hV.use ?_);simp only[ybh,yba,go_sem,zA,zB,↓reduceIte,reduceCtorEq]
end Sh
end
section
theorem yka{a:Nat}(h:a<2^32):IntKind.wrap .u32 (a:Int)=a:=by
 unfold IntKind.wrap;simp[IntKind.bits,IntKind.signed];omega
theorem u32_and{a b:Nat}(ha:a<2^32)(hb:b<2^32):IntKind.wrap .u32 (((zI (IntKind.bits .u32) (a:Int))&&&zI (IntKind.bits .u32) (b:Int)).toNat:Int)=((a&&&b:Nat):Int):=by
 show IntKind.wrap .u32 (((zI 32 (a:Int))&&&zI 32 (b:Int)).toNat:Int)=_;rw[zX,zX,BitVec.toNat_and,zAL,zAL,zAT ha,zAT hb];exact yka (zAM zBT ha)
theorem u32_or{a b:Nat}(ha:a<2^32)(hb:b<2^32):IntKind.wrap .u32 (((zI (IntKind.bits .u32) (a:Int))|||zI (IntKind.bits .u32) (b:Int)).toNat:Int)=((a|||b:Nat):Int):=by
 show IntKind.wrap .u32 (((zI 32 (a:Int))|||zI 32 (b:Int)).toNat:Int)=_;rw[zX,zX,BitVec.toNat_or,zAL,zAL,zAT ha,zAT hb];exact yka (zBQ ha hb)
theorem u32_andNot{a b:Nat}(ha:a<2^32)(hb:b<2^32):IntKind.wrap .u32 (((zI (IntKind.bits .u32) (a:Int)) &&& ~~~zI (IntKind.bits .u32) (b:Int)).toNat:Int)=((difB a b:Nat):Int):=by
 show IntKind.wrap .u32 (((zI 32 (a:Int)) &&& ~~~zI 32 (b:Int)).toNat:Int)=_
 have e:((zI 32 (a:Int)) &&& ~~~zI 32 (b:Int)).toNat=difB a b:=by
  rw[zX,zX];refine zBM fun i=>?_;rw[ygw,BitVec.testBit_toNat,BitVec.getLsbD_and,BitVec.getLsbD_not,zBN,zBN]
  by_cases hi:i<32
  .simp[hi]
  .rw[zV (zT ha (zQ (by omega) (by omega)))]
   simp
 rw[e];exact yka (ywy ha)
theorem u32_neg{a:Nat}(h0:0<a)(ha:a<2^32):IntKind.wrap .u32 (0-(a:Int))=((2^32-a:Nat):Int):=by
 unfold IntKind.wrap;simp[IntKind.bits,IntKind.signed];omega
theorem yqp{v:Nat}(hv:v<32):IntKind.wrap .u32 (1*2^(v:Int).toNat)=((2^v:Nat):Int):=by
 have h:2^v<2^32:=zAB (by omega) hv
 have:=yka h;rw[zO,Int.one_mul];rw[<-this]
 norm_cast
theorem ybou{a v:Nat}:(a:Int).fdiv (2^(v:Int).toNat)=((a>>>v:Nat):Int):=by
 rw[zO,zAC];rw[Int.fdiv_eq_ediv_of_nonneg _ (Int.pow_nonneg (by omega))]
 simp
theorem ycvl(a v:Nat):((a>>>v)&&&1=1)↔a.testBit v=true:=by
 rw[zCB,bne_iff_ne];rw[Nat.and_comm 1 (a>>>v)];rw[Nat.and_one_is_mod];omega
theorem yccs{s v:Nat}(hs:s<2^32):IntKind.wrap .u32 (((zI (IntKind.bits .u32) ((s:Int).fdiv (2^v)))&&&zI (IntKind.bits .u32) 1).toNat:Int)=(((s>>>v)&&&1:Nat):Int):=by
 have h:=ybou (a:=s) (v:=v);rw[zO]at h;rw[h];have h2:s>>>v<2^32:=by rw[zAC];exact zAM (zBK _ _) hs
 exact u32_and (a:=s>>>v) (b:=1) h2 (by decide)
theorem yza{s v:Nat}:((((s>>>v)&&&1:Nat):Int)=1)↔s.testBit v=true:=by
 rw[<-ycvl s v];omega
def resS(e _w:Nat):Nat:=e
end
section
namespace Sh
open Go Ev
def ydy(p:ProgR)(g:Gr):List SV:=[.a (.string p.name),yek p.vars,ycx p.rules,.rf (yff p g),yjb g.ids.length p.vars (ybi g)]
theorem ybai(p:ProgR){g:Gr}(hg:ybg g)(hp:p.vars.all VarR.ok=true)(hl:p.vars.length<=6):Returns zG 93 [.ag (yna p),grV g] (.rf (ydy p g)):=by
 refine Returns.of (ydeq _ _ ?_);have hS:=ybac p hg;have hT:=ybbp p hg hp hl;simp only[yna,grV]at hS hT;simp only[c93,ydck,yddr,yna,grV,go_sem,zA,zB,zD,↓reduceIte,reduceCtorEq];refine hS.use ?_;simp only[ybh,go_sem,zA,zB,zC,zD,↓reduceIte,reduceCtorEq];refine hT.use ?_;simp only[yjb,ydy,go_sem,zA,zB,zC,↓reduceIte];refine⟨by decide,by decide,Sim.refl _⟩
theorem ybug(p:ProgT){g:Gr}(hg:ybg g)(hp:p.ok=true){c:Conf}(hc:ConfIn g.ports.length p.vars.length c){v:Nat}(hv:v<g.ports.length){r:Nat}(hr:r<p.rules.length) :
 Returns zG 172 [.rf (yff p.raw g),ybm c,.i .i64 v,.i .i64 r] (.b (yjc g c v (p.rules.getD r default))):=by
 refine Returns.of (yczq _ _ ?_);obtain⟨R,hR⟩:∃R,p.rules.getD r default=R:=⟨_,rfl⟩
 have hok:R.ok p.vars.length=true:=by
  unfold ProgT.ok at hp;simp only[zF]at hp;rw[<-hR,getD_at hr];exact List.all_eq_true.1 hp.2 _ (zM _)
 unfold RuleT.ok at hok;simp only[zF,decide_eq_true_eq]at hok;have hV:=yzt p.raw hg hc hv R.guard hok.1.1.1 hok.1.1.2
 have hraw:p.raw.rules.getD r default=R.raw:=by
  rw[<-hR];simp[ProgT.raw,zK,hr]
 have hlen:p.raw.rules.length=p.rules.length:=by simp[ProgT.raw]
 simp only[yff,ycx,hlen]at hV;rw[hR];simp only[c172,ycec,ycnp,yff,ycx,hraw,hlen,go_sem,zA,zB,zC,↓reduceIte,reduceCtorEq];refine⟨by omega,hV.use ?_⟩
 simp only[ybh,yfk,yjc,go_sem,zA,zB,↓reduceIte,reduceCtorEq]
theorem yddf{p:ProgT}{g:Gr}{c:Conf}{v k:Nat}(hk:k<p.rules.length)(hn:(p.rules.take k).findIdx? (yjc g c v)=none)(h:yjc g c v (p.rules.getD k default)=true):ygs p g c v=k:=by
 unfold ygs
 have:p.rules.findIdx? (yjc g c v)=some k:=by
  rw[List.findIdx?_eq_some_iff_getElem];refine⟨hk,by rwa [getD_at hk]at h,fun j hj=>?_⟩
  rw[List.findIdx?_eq_none_iff]at hn;have:=hn p.rules[j] (List.mem_take_iff_getElem.2 ⟨j,by omega,rfl⟩)
  simpa using this
 rw[this]
theorem ybir{p:ProgT}{g:Gr}{c:Conf}{v:Nat}(hn:(p.rules.take p.rules.length).findIdx? (yjc g c v)=none):ygs p g c v = -1:=by
 unfold ygs;rw[zBH]at hn;rw[hn]
theorem yccf(p:ProgT)(g:Gr)(c:Conf)(v:Nat):-1<=ygs p g c v/\ygs p g c v<p.rules.length:=by
 unfold ygs;split
 .rename_i i hi
  obtain⟨h,_⟩:=List.findIdx?_eq_some_iff_getElem.1 hi;omega
 .omega
theorem ybhe(p:ProgT){g:Gr}(hg:ybg g)(hp:p.ok=true){c:Conf}(hc:ConfIn g.ports.length p.vars.length c){v:Nat}(hv:v<g.ports.length) :
 Returns zG 147 [.rf (ydy p.raw g),ybm c,.i .i64 v] (.i .i64 (ygs p g c v)):=by
 refine Returns.of (ycxg _ _ ?_);have hlen:p.raw.rules.length=p.rules.length:=by simp[ProgT.raw]
 have h12:p.rules.length<=12:=by
  unfold ProgT.ok at hp;simp only[zF,decide_eq_true_eq]at hp;exact hp.1.2
 simp only[c147,ycfx,yciu,ydy,ycx,hlen,go_sem,zA,zB,zC,↓reduceIte,reduceCtorEq];refine ybn (σ:=Nat) (fun k=>⟨[(14,.i .i64 k),(13,.i .i64 p.rules.length),(0,.rf (ydy p.raw g)),(1,ybm c),(2,.i .i64 v)],[]⟩) (fun k=>k<=p.rules.length/\(p.rules.take k).findIdx? (yjc g c v)=none) (fun k=>p.rules.length-k) 0 ⟨zL _,by simp⟩ ?_ ?_
 .refine yh [] [] [] ?_;simp only[ydy,ycx,hlen,allQ,live,yc,zH,go_sem,zA,↓reduceIte,reduceCtorEq]
 .intro k ⟨hk,hno⟩;simp only[yckc,ycpu,ycof,ycmc,yclx,ycnu,ydy,yba,go_sem,zA,zB,zC,↓reduceIte,reduceCtorEq];refine⟨fun hlt=>?_,fun hlt=>?_⟩
  .have hk':k<p.rules.length:=by omega
   refine(ybug p hg hp hc hv hk').use ?_;simp only[ybh,yba,go_sem,zA,zB,↓reduceIte,reduceCtorEq];refine⟨fun h=>by rw[yddf hk' hno h],fun h=>⟨ikw (by omega) (by omega),?_⟩⟩
   refine yu (k+1) ⟨by omega,?_⟩ (by omega) ?_
   .rw[zS hk',List.findIdx?_append,hno];rw[getD_at hk']at h;simp[h]
   .refine yh [] [] [] ?_;simp only[allQ,live,yc,yba,go_sem,zA,↓reduceIte,reduceCtorEq];simp
  .obtain rfl:k=p.rules.length:=by omega
   rw[ybir hno]
theorem ybwh(n:Nat)(hn:n<=32)(h:FuncId)(cp:List SV)(f:Nat->Bool)(hcp4:cp.any (owned 4)=false)(hf:∀v,v<n->Returns zG h (.i .i64 v::cp) (.b (f v))):Returns zG 145 [.i .i64 n,.fn h [] cp] (.i .u32 (ylf f n)):=by
 refine Returns.of (ycxv _ _ ?_);have hcp:=ykm hcp4;simp only[c145,ycpr,ycnb,ycia,go_sem,zB,↓reduceIte,reduceCtorEq];refine ybn (σ:=Nat) (fun k=>⟨[(8,.i .i64 k),(7,.i .i64 n),(1,.fn h [] cp),(5,.i .u32 (ylf f k))],[]⟩) (fun k=>k<=n) (fun k=>n-k) 0 (zL _) ?_ ?_
 .refine yh [] [] [] ?_;simp only[ydq _ hcp4,ydn _ hcp4,ylf,allQ,live,yc,zH,go_sem,zA,↓reduceIte,reduceCtorEq]
 .intro k hk;simp only[yceb,ycpp,yclf,ycfz,ycmh,ycrv,yba,hcp,List.any_cons,go_sem,zA,zB,↓reduceIte,reduceCtorEq];refine⟨fun hlt=>(hf k (by omega)).use ?_,fun hlt=>?_⟩
  .have hk':k<n:=by omega
   have hb1:ylf f k<2^32:=zT (ybhh f k) (zQ (by omega) (by omega))
   have hb2:2^k<2^32:=zAB (by omega) (by omega)
   simp only[ybh,IntKind.bits,go_sem,zA,zB,↓reduceIte,reduceCtorEq];refine⟨fun h1=>⟨by omega,ikw (by omega) (by omega),?_⟩,fun h1=>⟨ikw (by omega) (by omega),?_⟩⟩
   .refine yu (k+1) (by omega) (by omega) ?_
    refine yh [] [] [] ?_;have e1:=yqp (v:=k) (by omega)
    have e2:=u32_or hb1 hb2;rw[zO]at e1;simp only[ydq _ hcp4,ydn _ hcp4,e1,allQ,live,yc,yba,go_sem,zA,↓reduceIte,reduceCtorEq];refine⟨by omega,?_⟩
    rw[show ylf f (k+1)=ylf f k|||2^k by show(if f k then _ else _)=_;rw[if_pos h1]]
    exact e2
   .refine yu (k+1) (by omega) (by omega) ?_
    refine yh [] [] [] ?_;simp only[ydq _ hcp4,ydn _ hcp4,allQ,live,yc,yba,go_sem,zA,↓reduceIte,reduceCtorEq];rw[show ylf f (k+1)=ylf f k by show(if f k then _ else _)=_;rw[if_neg (by rw[h1];simp)]]
    simp
  .obtain rfl:k=n:=by omega
   rfl
theorem yyt(p:ProgT){g:Gr}(hg:ybg g)(hp:p.ok=true){c:Conf}(hc:ConfIn g.ports.length p.vars.length c){v:Nat}(hv:v<g.ports.length) :
 Returns zG 146 [.i .i64 v,.rf [.rf (ydy p.raw g)],.rf [ybm c]] (.b (decide (ygs p g c v>=0))):=by
 refine Returns.of (ycud _ _ ?_);have hR:=ybhe p hg hp hc hv;simp only[c146,ycoa,ycry,go_sem,zA,zB,↓reduceIte,reduceCtorEq];refine hR.use ?_;simp only[ybh,yfk,go_sem,zA,zB,↓reduceIte,reduceCtorEq]
theorem ypu(p:ProgT){g:Gr}(hg:ybg g)(hp:p.ok=true){c:Conf}(hc:ConfIn g.ports.length p.vars.length c) :
 Returns zG 94 [.rf (ydy p.raw g),ybm c] (.i .u32 (ybk p g c)):=by
 refine Returns.of (yddn _ _ ?_);have hid:=hg.2.2.1;have h24:=hg.2.1;have hN:=ybwh g.ids.length (by omega) 146 [.rf [.rf (ydy p.raw g)],.rf [ybm c]] (fun v=>decide (ygs p g c v>=0)) rfl (fun v hv=>yyt p hg hp hc (by omega))
 simp only[ydy]at hN;simp only[c94,ydcr,ydgs,ydy,yjb,go_sem,zA,zB,zC,zD,↓reduceIte,reduceCtorEq];simp only[yjb]at hN;refine .inl (hN.use ?_);simp only[ybh,yba,go_sem,zA,zB,↓reduceIte,reduceCtorEq];rfl
theorem ypr(p:ProgT)(g:Gr)(c:Conf)(v:Nat):∀(sets:List (Int×Ex)) (s0:List Int),(ynt p g c v s0 sets).length=s0.length
 |[],_=>rfl
 | a::sets,s0=>by
   show(ynt p g c v (s0.set _ _) sets).length=_;rw[ypr p g c v sets];simp
theorem ybij(p:ProgT)(g:Gr)(c:Conf)(v:Nat)(s0:List Int)(sets:List (Int×Ex))(k:Nat)(h:k<sets.length) :
 ynt p g c v s0 (sets.take (k+1))=(ynt p g c v s0 (sets.take k)).set (sets.getD k default).1.toNat (yez (p.vars.getD (sets.getD k default).1.toNat default).kind (ybi g v (p.vars.getD (sets.getD k default).1.toNat default)) (ycs g c v (sets.getD k default).2 (-1))):=by
 unfold ynt;rw[zS h,zBD,getD_at h];rfl
theorem ybzw(p:ProgT){g:Gr}(hg:ybg g)(hp:p.ok=true){c:Conf}(hc:ConfIn g.ports.length p.vars.length c){v:Nat}(hv:v<g.ports.length){r:Nat}(hr:r<p.rules.length) :
 Returns zG 157 [.rf (ydy p.raw g),ybm c,.i .i64 v,.i .i64 r] (yw (yyh p g c v r)):=by
 refine Returns.of (ydai _ _ ?_);obtain⟨R,hR⟩:∃R,p.rules.getD r default=R:=⟨_,rfl⟩;have hp':=hp;unfold ProgT.ok at hp';simp only[zF,decide_eq_true_eq]at hp'
 have hok:R.ok p.vars.length=true:=by
  rw[<-hR,getD_at hr];exact List.all_eq_true.1 hp'.2 _ (zM _)
 unfold RuleT.ok at hok;simp only[zF,decide_eq_true_eq]at hok
 have hraw:p.raw.rules.getD r default=R.raw:=by
  rw[<-hR];simp[ProgT.raw,zK,hr]
 have hlen:p.raw.rules.length=p.rules.length:=by simp[ProgT.raw]
 have hsl:R.raw.sets.length=R.sets.length:=by simp[RuleT.raw]
 have hid:=hg.2.2.1;have hcl:=hc.len;have hrow:=hc.at_ hv;have hne:¬(c.getD v []).length=0:=by omega
 simp only[c157,ycjh,ycrq,yclq,hne,ydy,ycx,yhs,hraw,hlen,hsl,ybm,yw,go_sem,zA,zB,zC,zD,↓reduceIte,reduceCtorEq];obtain⟨nv,hnv⟩:∃k,p.vars.length=k:=⟨_,rfl⟩;have hrl:=hrow.1;rw[hnv]at hrl hok hc;rw[hnv]at hp';have hmv:yyh p g c v r=ynt p g c v (c.getD v []) R.sets:=by unfold yyh;rw[hR]
 have hml:∀k,(ynt p g c v (c.getD v []) (R.sets.take k)).length=nv:=fun k=>(ypr p g c v _ _).trans hrl;refine⟨by omega,by omega,by omega,?_⟩
 refine ybn (σ:=Nat) (fun k=>⟨[(28,.i .i64 k),(27,.i .i64 R.sets.length),(26,yhs R.raw.sets),(0,.rf (ydy p.raw g)),(1,ybm c),(2,.i .i64 v),(9,.os (17,0) 0 nv true)],
  [(17,.one (some ⟨3,false,1,nv,fun i=>[.i .i64 ((ynt p g c v (c.getD v []) (R.sets.take k)).getD i 0)]⟩))]⟩) (fun k=>k<=R.sets.length) (fun k=>R.sets.length-k) 0 (zL _) ?_ ?_
 .refine yh [] [] [] ?_;simp only[ydy,ycx,yhs,hlen,hsl,hrl,ybm,yw,allQ,live,yc,yba,zH,go_sem,zA,↓reduceIte,reduceCtorEq];simp[ynt]
 .intro k hk;simp only[ycgk,yckm,ycgm,ydy,yhs,hsl,splice,go_sem,zA,zB,zC,zD,↓reduceIte,reduceCtorEq];refine⟨fun hlt=>?_,fun hlt=>?_⟩
  .have hk':k<R.sets.length:=by omega
   obtain⟨S,hS⟩:∃S,R.sets.getD k default=S:=⟨_,rfl⟩
   have hset:R.raw.sets.getD k default=⟨S.1,S.2.ser⟩:=by
    rw[<-hS];simp[RuleT.raw,zK,hk']
   have hSok:=List.all_eq_true.1 hok.2 S (by rw[<-hS,getD_at hk'];exact zM _)
   simp only[zF,decide_eq_true_eq]at hSok;have hV:=yzt p.raw hg hc hv S.2 hSok.1.2 hSok.2;refine⟨by omega,?_⟩
   rw[hset];refine hV.use ?_;have hB:=ybse (p.vars.getD S.1.toNat default).kind (ybi g v (p.vars.getD S.1.toNat default)) (ycs g c v S.2 (-1));have hvars:p.raw.vars=p.vars:=rfl;simp only[ycmt,ybh,yjb,yek,varC,splice,hvars,hnv,go_sem,zA,zB,zC,↓reduceIte,reduceCtorEq];refine⟨by omega,by omega,by omega,hB.use ?_⟩
   simp only[go_sem,zA,↓reduceIte];have hb2:zCB 134217727 25=true:=by decide
   simp only[ycna,hb2,go_sem,zA,zB,↓reduceIte,reduceCtorEq];refine⟨by omega,by omega,ikw (by omega) (by omega),?_⟩
   refine yu (k+1) (by omega) (by omega) ?_
   refine yh [] [] [] ?_;simp only[ybij p g c v _ _ k hk',hS,allQ,live,yc,yba,go_sem,zA,↓reduceIte,reduceCtorEq];refine⟨by omega,fun i hi=>?_⟩
   rw[ybxt (by rw[hml];omega)]
   by_cases q:i=S.1.toNat
   .simp only[if_pos q];simp only[live,yc,go_sem,reduceCtorEq]
   .simp only[if_neg q];simp only[live,yc,go_sem,reduceCtorEq]
  .obtain rfl:k=R.sets.length:=by omega
   simp only[ycpn,go_sem,zA,zB,↓reduceIte,reduceCtorEq];have hl:=hml R.sets.length;rw[zBH]at hl ⊢;rw[hmv,hl];exact Sim.refl _
theorem ymq(p:ProgT)(g:Gr)(c:Conf)(s:Nat){v:Nat}(hv:v<c.length):(ydk p g c s).getD v []=if s.testBit v then yyh p g c v (ygs p g c v).toNat else c.getD v []:=by
 unfold ydk;simp[zK,hv]
theorem yjq(p:ProgT)(g:Gr)(c:Conf)(s:Nat):(ydk p g c s).length=c.length:=by simp[ydk]
theorem ybyl(p:ProgT){g:Gr}(hg:ybg g)(hp:p.ok=true){c:Conf}(hc:ConfIn g.ports.length p.vars.length c){s:Nat}(hs:s<2^32)(hen:subB s (ybk p g c)) :
 Returns zG 113 [.rf (ydy p.raw g),ybm c,.i .u32 s] (ybm (ydk p g c s)):=by
 refine Returns.of (yccz [132] _ _ ?_);have h24:=hg.2.1;have hcl:=hc.len;have hp':=hp;unfold ProgT.ok at hp';simp only[zF,decide_eq_true_eq]at hp';have hC:=ycbp c (fun x hx=>by have:=(hc.row x hx).1;omega) (by omega)
 simp only[c113,ycez,ycnk,go_sem,zA,zB,↓reduceIte,reduceCtorEq];refine yfr hC [] 100 [0,1,2] [] ?_ ?_
 .simp only[go_sem,yco,yfe,yej,ydu,allQ,live,yc,go_sem,zA,↓reduceIte,reduceCtorEq]
 .rintro r o' ⟨rfl,rfl⟩;simp only[ycjv,ybm,yw,yrl,ynr,nuF,nu,difN,yej,ydu,Fam.ren,OB.ren,dim,yub,ymy,go_sem,zA,zB,↓reduceIte,reduceCtorEq];obtain⟨n,hn⟩:∃n,c.length=n:=⟨_,rfl⟩
  let row:Nat->Nat->List Int:=fun k i=>if i<k then(ydk p g c s).getD i []else c.getD i []
  refine ybn (σ:=Nat) (fun k=>⟨[(13,.i .i64 k),(12,.i .i64 n),(7,.os (108,0) 0 n true),(0,.rf (ydy p.raw g)),(1,ybm c),(2,.i .u32 s)],
   [(108,.one (some ⟨22,false,1,n,fun i=>[yw (row k i)]⟩))]⟩) (fun k=>k<=n) (fun k=>n-k) 0 (zL _) ?_ ?_
  .refine yh [] [] [] ?_;simp only[ybm,hn,allQ,live,yc,zH,go_sem,zA,↓reduceIte,reduceCtorEq];refine⟨Sim.refl _,fun i hi=>?_⟩;simp only[row,if_neg (zAK i)];exact Sim.refl _
  .intro k hk;have ht:=yccs (s:=s) (v:=k) hs;simp only[IntKind.bits]at ht;simp only[yclo,ycgz,ycqt,ycow,ycqw,ycel,IntKind.bits,ht,yza,go_sem,zA,zB,zJ,↓reduceIte,reduceCtorEq];refine⟨fun hlt=>⟨by omega,fun h1=>?_,fun h1=>?_⟩,fun hlt=>?_⟩
   .have hk':k<c.length:=by omega
    have hkg:k<g.ports.length:=by omega
    have hr0:0<=ygs p g c k:=by
     have:=hen k h1;unfold ybk at this;rw[ylu]at this;simp only[zF,decide_eq_true_eq]at this;exact this.2
    have hrl:=(yccf p g c k).2;have hr1:ygs p g c k=((ygs p g c k).toNat:Int):=by omega
    refine(ybhe p hg hp hc hkg).use ?_;simp only[ybh,splice,go_sem,zA,zB,zJ,↓reduceIte,reduceCtorEq];have hM:=ybzw p hg hp hc hkg (r:=(ygs p g c k).toNat) (by omega)
    rw[<-hr1]at hM;refine hM.use ?_;simp only[go_sem,zA,↓reduceIte];refine⟨by omega,by omega,ikw (by omega) (by omega),?_⟩
    refine yu (k+1) (by omega) (by omega) ?_
    refine yh [] [] [] ?_;simp only[allQ,live,yc,yba,go_sem,zA,↓reduceIte,reduceCtorEq];refine⟨by omega,fun i hi=>?_⟩
    by_cases q:i=k
    .simp only[if_pos q];subst q;simp only[go_sem,live,go_sem];simp only[row,if_pos (zAS i),ymq p g c s hk',h1,↓reduceIte];exact Sim.refl _
    .simp only[if_neg q];simp only[go_sem,live,go_sem]
     have:row (k+1) i=row k i:=by
      simp only[row]
      by_cases q1:i<k
      .rw[if_pos q1,if_pos (by omega)]
      .rw[if_neg q1,if_neg (by omega)]
     rw[this];exact Sim.refl _
   .have hk':k<c.length:=by omega
    refine⟨ikw (by omega) (by omega),?_⟩
    refine yu (k+1) (by omega) (by omega) ?_
    refine yh [] [] [] ?_;simp only[allQ,live,yc,yba,go_sem,zA,↓reduceIte,reduceCtorEq];refine⟨by omega,fun i hi=>?_⟩
    have:row (k+1) i=row k i:=by
     simp only[row]
     by_cases q1:i<k
     .rw[if_pos q1,if_pos (by omega)]
     .by_cases q:i=k
      .subst q;rw[if_neg q1,if_pos (by omega),ymq p g c s hk',if_neg (fun q=>h1 (yza.2 q))]
      .rw[if_neg q1,if_neg (by omega)]
    rw[this];exact Sim.refl _
   .obtain rfl:k=n:=by omega
    rw[yjq,hn];refine yjo fun q hq=>⟨⟨?_,trivial⟩,rfl⟩;simp only[row,if_pos hq];exact Sim.refl _
end Sh
end
section
namespace Sh
open Go Ev
def ybbs(p:ProgT)(g:Gr):Bool:=p.vars.all fun x=>decide (x.kind=1)==false||(decide ((ybi g 0 x).1<=(ybi g 0 x).2)&&decide ((ybi g 0 x).2-(ybi g 0 x).1+1<=4096))
def ygd(Q1 Q2:(Nat->Option ABlk)->Value->Prop)(p:ProgR):List SV:=[.a (.string p.name),.ex Q1 (yek p.vars),.ex Q2 (ycx p.rules)]
theorem ycaz{Q1 Q2:(Nat->Option ABlk)->Value->Prop}(p:ProgT){g:Gr}(hg:ybg g)(hp:p.ok=true)(hf:ybbs p g=true)(hV:Returns zG 191 [.ag (ygd Q1 Q2 p.raw)] (.b true))(hG:Returns zG 96 [grV g] (.b true)) :
 Returns zG 155 [.ag (ygd Q1 Q2 p.raw),grV g] (.i .i64 0):=by
 refine Returns.of (yctr _ _ ?_);have hp':=hp;unfold ProgT.ok at hp';simp only[zF,decide_eq_true_eq]at hp';have hvars:p.raw.vars=p.vars:=rfl;simp only[ygd,grV]at hV hG;simp only[c155,ycqx,ycnj,ycqy,ycgp,ycmq,ycko,ygd,grV,go_sem,zA,zB,zD,↓reduceIte,reduceCtorEq];refine hV.use ?_;simp only[ybh,go_sem,zA,zB,↓reduceIte];refine hG.use ?_;simp only[yek,hvars,go_sem,zA,zB,zC,↓reduceIte,reduceCtorEq]
 have hall:∀k,k<p.vars.length->(p.vars.getD k default).ok=true/\((p.vars.getD k default).kind=1->(ybi g 0 (p.vars.getD k default)).1<=(ybi g 0 (p.vars.getD k default)).2/\(ybi g 0 (p.vars.getD k default)).2-(ybi g 0 (p.vars.getD k default)).1+1<=4096):=fun k hk=>by
  rw[getD_at hk];refine⟨List.all_eq_true.1 hp'.1.1.2 _ (zM _),fun h1=>?_⟩;have:=List.all_eq_true.1 hf _ (zM hk)
  simpa[h1]using this
 refine ybn (σ:=Nat) (fun k=>⟨[(18,.i .i64 k),(17,.i .i64 p.vars.length),(16,.ex Q1 (yek p.vars)),(3,.pt (3,0) 0 0)],[(3,.one (some ⟨27,true,2,1,fun _=>[yw g.ids,ybe g.ports]⟩))]⟩) (fun k=>k<=p.vars.length) (fun k=>p.vars.length-k) 0 (zL _) ?_ ?_
 .refine yh [] [] [] ?_;simp only[yek,allQ,live,yc,zH,go_sem,zA,↓reduceIte,reduceCtorEq]
 .intro k hk;obtain⟨x,hx⟩:∃x,p.vars.getD k default=x:=⟨_,rfl⟩;simp only[ycop,ycsu,ycjx,ycqp,ybmq,yblu,ybvj,ybmo,yek,varC,splice,yba,hx,go_sem,zA,zB,zC,zD,↓reduceIte,reduceCtorEq];intro hlt;have hk':k<p.vars.length:=by omega
  obtain⟨hxo,hxb⟩:=hall k hk';rw[hx]at hxo hxb;have hB:=yvk hg hxo (v:=0) (by have:=hg.1;omega)
  simp only[varC,grV,zH]at hB;obtain⟨hb1,hb2⟩:=yrs hg hxo;have hvo:=ybic hxo;refine⟨by omega,fun h1=>⟨ikw (by omega) (by omega),?_⟩,fun h1=>hB.use ?_⟩
  .refine yu (k+1) (by omega) (by omega) ?_
   refine yh [] [] [] ?_;simp only[allQ,live,yc,yba,go_sem,zA,↓reduceIte,reduceCtorEq];omega
  .obtain⟨hb3,hb4⟩:=hxb h1;obtain⟨b1,hb1'⟩:∃b,(ybi g 0 x).1=b:=⟨_,rfl⟩;obtain⟨b2,hb2'⟩:∃b,(ybi g 0 x).2=b:=⟨_,rfl⟩;have e:ybi g 0 x=(x.lo,x.hi+x.perNode*(g.ids.length:Int)+x.perID*maxI g.ids):=by unfold ybi;rw[if_pos h1]
   rw[e]at hb1' hb2';simp only[]at hb1' hb2';simp only[e]at hb3 hb4;rw[e];simp only[ybh,yba,go_sem,zA,zB,↓reduceIte,reduceCtorEq];simp only[hb1',hb2']at hb3 hb4 ⊢;refine⟨fun _=>⟨ikw (by omega) (by omega),ikw (by omega) (by omega),fun hgt=>absurd hb4 (by omega),fun _=>⟨ikw (by omega) (by omega),?_⟩⟩,fun hlt2=>absurd hb3 (by omega)⟩
   refine yu (k+1) (by omega) (by omega) ?_
   refine yh [] [] [] ?_;simp only[allQ,live,yc,yba,go_sem,zA,↓reduceIte,reduceCtorEq];omega
end Sh
end
section
namespace Sh
open Go Ev Go.RowKit
theorem ybqy{g:Gr}(hg:ybg g){x:VarR}(hx:x.ok=true)(v:Nat):-4096<=(ybi g v x).1/\(ybi g v x).2<=100000:=by
 obtain⟨h1,h2,h3,h4,h5⟩:=ybic hx;obtain⟨h6,h7⟩:=yrs hg hx;have h8:=hg.deg_lt (v:=v);unfold ybi;split
 .exact⟨by simp only[];omega,by simp only[];omega⟩
 .split
  .exact⟨by simp only[];omega,by simp only[];omega⟩
  .split
   .exact⟨by simp only[];omega,by simp only[];omega⟩
   .exact⟨by simp only[];omega,by simp only[];omega⟩
theorem yml{p:ProgT}{g:Gr}(hg:ybg g)(hp:p.ok=true){c:Conf}(hc:ygr p g c=true):ConfIn g.ports.length p.vars.length c:=by
 have h:=(yel _ _ _).1 hc;have hp':=hp;unfold ProgT.ok at hp';simp only[zF,decide_eq_true_eq]at hp';refine⟨h.1.trans hg.2.2.1,fun s hs=>?_⟩;obtain⟨v,hv,rfl⟩:=zBO hs;have h2:=h.2 v _ (zN hv);have hl:(c[v]).length=p.vars.length:=by have:=h2.1;simpa using this
 refine⟨hl,fun x hx=>?_⟩;obtain⟨i,hi,rfl⟩:=zBO hx;have hi':i<p.vars.length:=by omega
 have h3:=h2.2 i (ybi g v p.vars[i]) _ (by simp[hi']) (zN hi)
 have h4:=ybqy hg (List.all_eq_true.1 hp'.1.1.2 _ (zM hi')) v;unfold InB;omega
structure Checked(Q1 Q2:(Nat->Option ABlk)->Value->Prop)(p:ProgT)(g:Gr):Prop where
 hg:ybg g
 hp:p.ok=true
 hf:ybbs p g=true
 hV:Returns zG 191 [.ag (ygd Q1 Q2 p.raw)] (.b true)
theorem Checked.gv{Q1 Q2:(Nat->Option ABlk)->Value->Prop}{p:ProgT}{g:Gr}(h:Checked Q1 Q2 p g):Returns zG 96 [grV g] (.b true):=by
 have e:=yva (ycyy h.hg);rw[(yid g).2 h.hg]at e;exact e
section
variable {Q1 Q2:(Nat->Option ABlk)->Value->Prop}{p:ProgT}{g:Gr}
theorem ybrp(h:Checked Q1 Q2 p g)(c:Conf):Returns zG 112 [.ag (ygd Q1 Q2 p.raw),grV g,ybm c] (.i .i64 (if ygr p g c then 0 else 10)):=by
 refine Returns.of (yczj _ _ ?_);have hp':=h.hp;unfold ProgT.ok at hp';simp only[zF,decide_eq_true_eq]at hp';have hid:=h.hg.2.2.1;have h24:=h.hg.2.1;have hF:=ycaz p h.hg h.hp h.hf h.hV h.gv;have hT:=ybbp p.raw h.hg hp'.1.1.2 hp'.1.1.1.2;have hW:=ybki (n:=g.ids.length) p.vars (by omega) (ybi g) c (by omega)
 simp only[ygd,grV]at hF hT;simp only[c112,yceg,ycro,ygd,grV,go_sem,zA,zB,zD,↓reduceIte,reduceCtorEq];refine hF.use ?_;simp only[ybh,ycfq,ycnv,ycer,go_sem,zA,zB,↓reduceIte,reduceCtorEq];refine⟨fun h=>absurd rfl h,hT.useS ?_ ?_⟩
 .exact⟨ysb ⟨Sim.refl _,yri _ _,yri _ _,trivial⟩,Sim.refl _,trivial⟩
 simp only[yjb]at hW ⊢;simp only[go_sem,↓reduceIte];refine hW.use ?_;simp only[go_sem];have hcf:∀b,yow g.ids.length (fun v=>p.vars.map (ybi g v)) c=b->ygr p g c=b:=fun b h=>h;refine⟨fun h1=>?_,fun h1=>?_⟩
 .simp only[yckz,hcf _ h1,yba,go_sem,↓reduceIte]
 .simp only[ycqu,hcf _ h1,yba,go_sem,↓reduceIte]
theorem ybju(k:Int):Returns zG 108 [.i .i64 k] (.b (decide (1<=k)&&decide (k<=4))):=by
 refine Returns.of (ycxp _ _ ?_);simp only[c108,ycrh,ycla,yfk,go_sem,zA,zB,↓reduceIte,reduceCtorEq]
 by_cases h:k>=1<;>simp[h]
end
end Sh
end
section
theorem yni(s a:Nat):∀b,yex s (a+b)=yex s a+yex (s>>>a) b
 |0=>rfl
 | b+1=>by
   show yex s (a+b)+(s.testBit (a+b)).toNat=_;rw[yni s a b];show _=yex s a+(yex (s>>>a) b+((s>>>a).testBit b).toNat);rw[Nat.testBit_shiftRight];omega
theorem yoq(s:Nat):∀b,b<=8->yex (s&&&255) b=yex s b
 |0,_=>rfl
 | b+1,h=>by
   show yex _ b+_=yex s b+_;rw[yoq s b (by omega),zBJ,show(255:Nat)=2^8-1 from rfl,zBA]
   simp[show b<8 by omega]
theorem ybkc(s:Nat):popP s=yex (s>>>24&&&255) 8+yex (s>>>16&&&255) 8+yex (s>>>8&&&255) 8+yex (s&&&255) 8:=by
 simp only[yoq _ 8 (zAF _)];have h1:=yni s 8 24;have h2:=yni (s>>>8) 8 16;have h3:=yni (s>>>8>>>8) 8 8;simp only[<-Nat.shiftRight_add,zB]at h1 h2 h3;unfold popP;omega
namespace Sh
open Ev Go.RowKit
theorem ywm:∀k,k<256->yve.getD k 0=yex k 8:=by decide
theorem ycub:yve.length=256:=by decide
theorem ycxy(a v:Nat):(a:Int).fdiv (2^v)=((a>>>v:Nat):Int):=by
 have h:=ybou (a:=a) (v:=v)
 rwa [zO]at h
theorem ycqd{a:Nat}(ha:a<2^32):IntKind.wrap .u32 (((zI (IntKind.bits .u32) (a:Int))&&&zI (IntKind.bits .u32) 255).toNat:Int)=((a&&&255:Nat):Int):=u32_and (b:=255) ha (by decide)
theorem ydgo{a n:Nat}(h:a<2^32):a>>>n<2^32:=by rw[zAC];exact zAM (zBK _ _) h
theorem ybfv{s:Nat}(hs:s<2^32):Returns zG 104 [.i .u32 s] (.i .i64 (popP s)):=by
 refine Returns.of (ycyd _ _ ?_);simp only[c104,ycgb,ycjc,clash,go_sem,zAH,zA,zB,↓reduceIte,reduceCtorEq];have f1:=ycqd hs;have f2:=fun n=>ycqd (ydgo (n:=n) hs);simp only[IntKind.bits]at f1 f2;simp only[ycxy,f1,f2,zO,ycub];have hp:=ybkc s;have l1:s>>>24<256:=by rw[zAC];omega
 have b1:∀x:Nat,x&&&255<256:=fun x=>zAM Nat.and_le_right (by omega)
 rw[yoq (s>>>24) 8 (zAF _)]at hp;rw[ywm _ l1,ywm _ (b1 (s>>>16)),ywm _ (b1 (s>>>8)),ywm _ (b1 s)];have q1:=ykf (s>>>24) 8;have q2:=ykf (s>>>16&&&255) 8;have q3:=ykf (s>>>8&&&255) 8;have q4:=ykf (s&&&255) 8;have w1:=b1 (s>>>16);have w2:=b1 (s>>>8);have w3:=b1 s;have u8k:∀x:Int,0<=x->x<=255->inK .u8 x:=fun x h1 h2=>⟨by simpa[IntKind.min,IntKind.signed]using h1,by simpa[IntKind.max,IntKind.bits,IntKind.signed]using h2⟩
 refine⟨⟨by omega,by decide⟩,⟨by omega,by omega⟩,⟨by omega,by decide⟩,by omega,u8k _ (by omega) (by omega),⟨by omega,by decide⟩,by omega,u8k _ (by omega) (by omega),by omega,u8k _ (by omega) (by omega),?_⟩
 rw[wrap_in (ikw (by omega) (by omega)),hp]
 exact Sim.refl _
def cntV(k:Cnt):List SV:=[.i .i64 k.steps,.i .i64 k.moves,.i .i64 k.rounds,.i .i64 k.begun,.i .u32 k.pend]
theorem ybqn{e:Nat}(he:e<2^24):Returns zG 195 [.i .u32 e] (.ag (cntV (ydi e))):=by
 refine Returns.of (ycuu _ _ ?_);simp only[c195,ycrp,ycfa,go_sem,zA,zB,zD,↓reduceIte,reduceCtorEq];have e1:e&&&16777215=e:=by rw[show(16777215:Nat)=2^24-1 from rfl,zY he]
 have e2:IntKind.wrap .u32 (((zI (IntKind.bits .u32) (e:Int))&&&zI (IntKind.bits .u32) 16777215).toNat:Int)=((e&&&16777215:Nat):Int):=u32_and (b:=16777215) (by omega) (by decide)
 simp only[IntKind.bits]at e2;rw[e2,e1];exact Sim.refl _
def usV(l:List Nat):SV:=.sl 1 l.length (fun k=>[.i .u32 ((l.getD k 0:Nat):Int)])
theorem ydio{a:Nat}(ha:a<2^24):IntKind.wrap .u32 (((zI (IntKind.bits .u32) (a:Int)) &&& ~~~zI (IntKind.bits .u32) 16777215).toNat:Int)=0:=by
 have h:=u32_andNot (a:=a) (b:=16777215) (by omega) (by decide)
 have e:difB a 16777215=0:=by
  rw[yed];intro i;rw[ygw,show(16777215:Nat)=2^24-1 from rfl,zBA]
  by_cases hi:i<24
  .simp[hi]
  .rw[zV (zT ha (zQ (by omega) (by omega)))]
   rfl
 rw[e]at h;exact h
theorem ypv(l:List Nat)(hl:l.length<=10)(h:∀k,k<l.length->l.getD k 0<2^24):Returns zG 223 [usV l] (.b true):=by
 refine Returns.of (ycxe _ _ ?_);simp only[c223,ycig,yckw,usV,go_sem,zB,↓reduceIte,reduceCtorEq];refine ybn (σ:=Nat) (fun k=>⟨[(7,.i .i64 k),(6,.i .i64 l.length),(5,usV l)],[]⟩) (fun k=>k<=l.length) (fun k=>l.length-k) 0 (zL _) ?_ ?_
 .refine yh [] [] [] ?_;simp only[usV,allQ,live,yc,zH,go_sem,zA,↓reduceIte,reduceCtorEq]
 .intro k hk;simp only[ycek,ycfd,ycmx,ycqb,usV,go_sem,zA,zB,↓reduceIte,reduceCtorEq];refine⟨fun hlt=>?_,fun hlt=>?_⟩
  .have hk':k<l.length:=by omega
   have e0:=ydio (h k hk');simp only[IntKind.bits]at e0;rw[e0];refine⟨⟨by omega,by omega⟩,fun h=>absurd rfl h,fun _=>?_⟩
   simp only[ycja,go_sem,zA,zB,↓reduceIte,reduceCtorEq];refine⟨ikw (by omega) (by omega),?_⟩
   refine yu (k+1) (by omega) (by omega) ?_
   refine yh [] [] [] ?_;simp only[allQ,live,yc,yba,go_sem,zA,↓reduceIte,reduceCtorEq];omega
  .simp only[ycjm,yfk,go_sem,↓reduceIte]
theorem ybla{k:Cnt}(hk : k.ok)(hs:k.steps<=4096):Returns zG 222 [.ag (cntV k)] (.b true):=by
 refine Returns.of (ycyr _ _ ?_);obtain⟨h1,h2,h3,h4,h5,h6⟩:=hk
 have hP:=ypv [k.pend] (by simp) (fun i hi=>by have:i=0:=by simp at hi;omega
                                               subst this;exact h6)
 have f1:decide ((k.steps:Int)<0)=false:=by simp
 have f2:decide ((k.steps:Int)>4096)=false:=by simp;omega
 have f3:decide ((k.rounds:Int)<0)=false:=by simp
 have f4:decide ((k.rounds:Int)>k.begun)=false:=by simp;omega
 have f5:decide ((k.begun:Int)>k.steps)=false:=by simp;omega
 have f6:decide ((k.begun:Int)>k.rounds+1)=false:=by simp;omega
 have f7:decide ((k.steps:Int)<=k.moves)=true:=by simp;omega
 have f8:decide ((k.moves:Int)<=24*k.steps)=true:=by simp;omega
 simp(maxSteps:=5000000) only [c222,ycsj,yclr,cntV,f1,f2,f3,f4,f5,go_sem,zA,zB,zC,zD,↓reduceIte,reduceCtorEq];simp only[ycjq,f6,go_sem,zA,zB,zC,↓reduceIte,reduceCtorEq];refine⟨ikw (by omega) (by omega),?_⟩
 simp(maxSteps:=5000000) only [ycsr,f7,f8,go_sem,zA,zB,zC,zD,↓reduceIte,reduceCtorEq];refine⟨ikw (by omega) (by omega),?_⟩
 refine .inl ⟨fun q hq=>?_,hP.useS ?_ ?_⟩
 .obtain rfl:q=0:=by omega
  simp only[go_sem]
 .exact⟨yhz fun q hq=>by obtain rfl:q=0:=by omega
                         rfl,trivial⟩
 simp only[ybh,yfk,go_sem,zA,zB,↓reduceIte,reduceCtorEq]
theorem ycxw{k:Cnt}(hk:k.ok)(hs:k.steps<4096){s e:Nat}(h0:s≠0)(hs24:s<2^24)(he:e<2^24):Returns zG 197 [.ag (cntV k),.i .u32 s,.i .u32 e] (.tp [.ag (cntV (addP k s e)),.i .i64 0]):=by
 refine Returns.of (ycye _ _ ?_);have hV:=ybla hk (by omega)
 have hO:=ybfv (s:=s) (by omega)
 have hP:=ypv [s,e] (by simp) (fun i hi=>by
  have:i=0\/i=1:=by simp at hi;omega
  rcases this with rfl|rfl
  .exact hs24
  .exact he)
 obtain⟨h1,h2,h3,h4,h5,h6⟩:=hk;simp only[cntV]at hV;simp only[c197,ycrw,ychi,cntV,go_sem,zA,zB,zD,↓reduceIte];refine hV.use ?_;have z0:((s:Int)==0)=false:=by simp;omega
 simp only[ybh,ycsf,z0,go_sem,zA,zB,zC,zD,↓reduceIte,reduceCtorEq];refine .inl ⟨fun q hq=>?_,hP.useS ?_ ?_⟩
 .have:q=0\/q=1:=by omega
  rcases this with rfl|rfl
  .simp only[go_sem]
  .simp only[go_sem]
 .exact⟨yhz fun q hq=>by
   have:q=0\/q=1:=by omega
   rcases this with rfl|rfl<;>rfl,trivial⟩
 have z1:((k.steps:Int)==4096)=false:=by simp;omega
 simp only[yciz,ycqg,z1,go_sem,zA,zB,zC,↓reduceIte,reduceCtorEq];refine⟨ikw (by omega) (by omega),?_⟩
 simp only[ychq,clash,go_sem,zA,zB,zC,↓reduceIte,reduceCtorEq];refine hO.use ?_;have hpop:=ybwy s hs24;have a1:=u32_andNot (a:=k.pend) (b:=s) (by omega) (by omega)
 have hd:difB k.pend s<2^24:=ywy h6;have a2:=u32_and (a:=difB k.pend s) (b:=e) (by omega) (by omega)
 obtain⟨P,hPe⟩:∃P,difB k.pend s&&&e=P:=⟨_,rfl⟩;rw[hPe]at a2;simp only[IntKind.bits]at a1 a2;simp only[ybh,go_sem,zA,zB,zC,↓reduceIte,reduceCtorEq];refine⟨ikw (by omega) (by omega),?_⟩
 simp only[yclp,ybnq,yblx,a1,a2,go_sem,zA,zB,zC,↓reduceIte,reduceCtorEq];refine⟨by decide,ikw (by omega) (by omega),fun hP0=>?_,fun hP0=>?_⟩
 .have hP1:P=0:=by omega
  have ea:addP k s e=⟨k.steps+1,k.moves+popP s,k.rounds+1,k.rounds+1,e⟩:=by unfold addP;simp only[hPe,hP1,if_true]
  rw[ea];simp only[ybuw,ybny,ybfm,go_sem,zA,zB,zC,↓reduceIte,reduceCtorEq];exact Sim.refl _
 .have hP1:¬P=0:=by omega
  have ea:addP k s e=⟨k.steps+1,k.moves+popP s,k.rounds,k.rounds+1,P⟩:=by unfold addP;simp only[hPe,if_neg hP1]
  rw[ea];simp only[ybfm,go_sem,zA,zB,↓reduceIte];exact Sim.refl _
end Sh
end
section
def netP(ls:List (Int×Int)):Nat:=ls.foldl (fun a l=>a|||2^l.1.toNat) 0
theorem ybsw(ls:List (Int×Int))(k:Nat)(h:k<ls.length):netP (ls.take (k+1))=netP (ls.take k)|||2^(ls.getD k (0,0)).1.toNat:=by
 unfold netP;rw[zS h,zBD,Sh.getD_at h];rfl
theorem ycue(ls:List (Int×Int))(h:∀l∈ls,l.1<24):netP ls<2^24:=by
 unfold netP
 have:∀(ls:List (Int×Int)) (a:Nat),(∀l∈ls,l.1<24)->a<2^24->ls.foldl (fun a l=>a|||2^l.1.toNat) a<2^24:=by
  intro ls
  induction ls with
  |nil=>intro a _ h;exact h
  | cons l ls ih =>
    intro a hl ha;refine ih _ (fun x hx=>hl x (zAV _ hx)) (zBQ ha ?_);have:=hl l zAZ;exact zAB (by omega) (by omega)
 exact this ls 0 h (by decide)
namespace Sh
open Ev Go.RowKit
theorem u32k{a:Nat}(h:a<2^32):inK .u32 (a:Int):=⟨by simp[IntKind.min,IntKind.signed],by simp[IntKind.max,IntKind.bits,IntKind.signed];omega⟩
theorem ybsi{g:Gr}(hg:ybg g):Returns zG 109 [grV g] (.i .u32 (2^g.ids.length-1:Nat)):=by
 refine Returns.of (ycto _ _ ?_);have h3:=hg.2.2.1;have h4:=hg.2.1;simp only[c109,ycqh,ycod,grV,yw,go_sem,zA,zB,zC,zD,↓reduceIte,reduceCtorEq];have h5:=yqp (v:=g.ids.length) (by omega)
 rw[zO]at h5;have h6:2^g.ids.length<2^32:=zAB (by omega) (by omega)
 have h7:1<=2^g.ids.length:=Nat.one_le_two_pow;have h8:(((2^g.ids.length:Nat):Int))-1=((2^g.ids.length-1:Nat):Int):=by omega
 rw[h5,h8];refine⟨⟨by omega,by show _<((32:Nat):Int);omega⟩,u32k (by omega),Sim.refl _⟩
theorem ybin{g:Gr}(hg:ybg g):Returns zG 110 [grV g] (usV (g.ports.map netP)):=by
 refine Returns.of (yczx _ _ ?_);have h3:=hg.2.2.1;have h4:=hg.2.1;simp only[c110,ycsl,ychm,ycsa,grV,yw,ybe,go_sem,zA,zB,zD,↓reduceIte,reduceCtorEq];refine⟨by omega,?_⟩
 obtain⟨n,hn⟩:∃n,g.ports.length=n:=⟨_,rfl⟩
 let val:Nat->Nat->Nat:=fun k i=>if i<k then netP (g.ports.getD i [])else 0
 refine ybn (σ:=Nat) (fun k=>⟨[(15,.i .i64 k),(14,.i .i64 n),(13,ybe g.ports),(3,.os (11,0) 0 n true)],
  [(11,.one (some ⟨40,false,1,n,fun i=>[.i .u32 (val k i:Nat)]⟩))]⟩) (fun k=>k<=n) (fun k=>n-k) 0 (zL _) ?_ ?_
 .refine yh [] [] [] ?_;simp only[ybe,hn,allQ,live,yc,yba,zH,go_sem,zA,↓reduceIte,reduceCtorEq];simp[val]
 .intro k hk;obtain⟨L,hL⟩:∃L,g.ports.getD k []=L:=⟨_,rfl⟩;simp only[ycle,ycgd,ychf,ybe,ybd,hn,hL,go_sem,zA,zB,↓reduceIte,reduceCtorEq];refine⟨fun hlt=>?_,fun hlt=>?_⟩
  .have hk':k<n:=by omega
   have hkp:k<g.ports.length:=by omega
   have hlk:∀l∈L,0<=l.1/\l.1<24:=fun l hl=>by
    rw[<-hL,getD_at hkp]at hl;obtain⟨a1,a2,_⟩:=(hg.2.2.2.2.2.1 ⟨k,hkp⟩).1 l hl;exact⟨a1,by omega⟩
   have hdeg:=hg.deg_lt (v:=k);rw[hL]at hdeg;refine⟨by omega,?_⟩
   obtain⟨m,hm⟩:∃m,L.length=m:=⟨_,rfl⟩;rw[hm]
   let val2:Nat->Nat->Nat:=fun j i=>if i<k then netP (g.ports.getD i [])else if i=k then netP (L.take j)else 0
   refine ybn (σ:=Nat) (fun j=>⟨[(22,.i .i64 j),(21,.i .i64 m),(20,ybd L),(4,.i .i64 k),(15,.i .i64 k),(14,.i .i64 n),(13,ybe g.ports),(3,.os (11,0) 0 n true)],
    [(11,.one (some ⟨40,false,1,n,fun i=>[.i .u32 (val2 j i:Nat)]⟩))]⟩) (fun j=>j<=m) (fun j=>m-j) 0 (zL _) ?_ ?_
   .refine yh [] [] [] ?_;simp only[ybe,ybd,hn,hm,allQ,live,yc,yba,zH,go_sem,zA,↓reduceIte,reduceCtorEq];intro i hi;simp only[val,val2]
    by_cases q:i<k
    .rw[if_pos q,if_pos q]
    .rw[if_neg q,if_neg q]
     by_cases q2:i=k
     .rw[if_pos q2];rfl
     .rw[if_neg q2]
   .intro j hj;obtain⟨l,hl⟩:∃l,L.getD j (0,0)=l:=⟨_,rfl⟩;simp only[ycnw,ycsv,ybe,ybd,hn,hm,hl,go_sem,zA,zB,zD,↓reduceIte,reduceCtorEq];refine⟨fun hlj=>⟨by omega,?_⟩,fun hlj=>?_⟩
    .have hj':j<L.length:=by omega
     have hl2:=hlk l (by rw[<-hl,getD_at hj'];exact zM _)
     obtain⟨t,ht⟩:∃t:Nat,l.1=t:=⟨l.1.toNat,by omega⟩
     have h24t:t<24:=by omega
     have hval:val2 j k<2^24:=by
      simp only[val2,if_neg (zBX k),if_true];exact ycue _ fun l hl=>(hlk l (List.mem_of_mem_take hl)).2
     have hp:2^t<2^24:=zAB (by omega) h24t
     have hsh:=yqp (v:=t) (by omega)
     have hor:=u32_or (a:=val2 j k) (b:=2^t) (by omega) (by omega)
     rw[zO]at hsh;simp only[IntKind.bits]at hor;simp only[ychw,ht,clash,hsh,hor,go_sem,zA,zB,zC,↓reduceIte,reduceCtorEq];refine⟨by omega,by omega,⟨by omega,by show _<((32:Nat):Int);omega⟩,by omega,by omega,by decide,?_⟩
     simp only[yciq,go_sem,zA,zB,↓reduceIte,reduceCtorEq];refine⟨ikw (by omega) (by omega),?_⟩
     refine yu (j+1) (by omega) (by omega) ?_
     refine yh [] [] [] ?_;simp only[allQ,live,yc,yba,go_sem,zA,↓reduceIte,reduceCtorEq];refine⟨by omega,fun i hi=>?_⟩
     have hsn:=ybsw L j hj';rw[hl,ht,zO]at hsn
     by_cases q:i=k
     .simp only[if_pos q];subst q;simp only[go_sem,live,yba,go_sem,reduceCtorEq];simp only[val2,if_neg (zBX i),if_true,hsn]
     .simp only[if_neg q];simp only[go_sem,live,yba,go_sem,reduceCtorEq];simp only[val2,if_neg q]
    .obtain rfl:j=m:=by omega
     simp only[ybsa,go_sem,zA,zB,↓reduceIte,reduceCtorEq];refine⟨ikw (by omega) (by omega),?_⟩
     refine yu (k+1) (by omega) (by omega) ?_
     refine yh [] [] [] ?_;simp only[allQ,live,yc,yba,go_sem,zA,↓reduceIte,reduceCtorEq];refine⟨by omega,fun i hi=>?_⟩
     simp only[val,val2]
     by_cases q:i<k
     .rw[if_pos q,if_pos (by omega)]
     .rw[if_neg q]
      by_cases q2:i=k
      .rw[if_pos q2,if_pos (by omega),q2,hL,<-hm,zBH]
      .rw[if_neg q2,if_neg (by omega)]
  .obtain rfl:k=n:=by omega
   simp only[ybme,go_sem,zA,zB,↓reduceIte,reduceCtorEq];unfold usV;rw[zU,hn];refine yhz fun i hi=>?_;have hi':i<g.ports.length:=by omega
   simp only[val,if_pos hi];simp[zK,hi']
theorem ybbt(net:SV){e:Nat}(he:e<2^24)(h0:e≠0):Returns zG 196 [net,.i .i64 4,.i .u32 e,.i .u32 e] (.b true):=by
 refine Returns.of (ycuj _ _ ?_);have z0:((e:Int)==0)=false:=by simp;omega
 have hd:difB e e=0:=by unfold difB;simp
 have a0:=u32_andNot (a:=e) (b:=e) (by omega) (by omega)
 rw[hd]at a0;simp only[zH,IntKind.bits]at a0;simp only[c196,ycri,ycjk,z0,a0,zAR,go_sem,zA,zB,↓reduceIte,reduceCtorEq];simp only[ycra,ycng,ycnm,ycqo,ycsq,ybrv,zBB,yfk,go_sem,zA,zB,↓reduceIte,reduceCtorEq]
theorem ybak(net:SV)(hn:net.cells.all one1=true){e w:Nat}(he:e<2^24)(h0:e≠0)(hw:w<2^32):Returns zG 111 [net,.i .i64 4,.i .u32 e,.i .u32 w] (.i .u32 e):=by
 refine Returns.of (yblv _ _ ?_);have a0:=u32_and (a:=w) (b:=e) (by omega) (by omega)
 have a1:=u32_neg (a:=e) (by omega) (by omega)
 have a2:=u32_and (a:=e) (b:=2^32-e) (by omega) (by omega)
 obtain⟨W,hW⟩:∃W,w&&&e=W:=⟨_,rfl⟩;rw[hW]at a0;simp only[IntKind.bits]at a0 a2;simp only[c111,ybng,ybuj,ybsz,a0,hn,go_sem,zA,zB,zD,↓reduceIte,reduceCtorEq];refine⟨fun q=>?_,fun q=>?_⟩
 .simp only[ybvw,ybhu,ybgz,ybgu,yxl,ywc,IntKind.signed,a1,a2,zBB,go_sem,zA,zB,↓reduceIte,reduceCtorEq];exact Sim.refl _
 .simp only[ybhu,ybgz,ybgu,yxl,ywc,zBB,go_sem,zA,zB,↓reduceIte,reduceCtorEq];exact Sim.refl _
end Sh
end
section
namespace Sh
open Go Ev
def ydax:LO:=[o3 (.mv (ci' 0)) 4 0]
def ydcf:LO:=[mv' 1 5 0,o3 (.bin .lss (.tmp 5) (ci' 1)) 6 1]
def ydia:LO:=[o3 (.mv (ci' 0)) 4 0]
def yddq:LO:=[mv' 0 7 0,mv' 1 8 0,bn' .rem 7 8 9 3,mv' 9 0 7]
def ydht:LO:=[mv' 0 10 0,o3 (.bin .lss (.tmp 10) (ci' 0)) 11 1]
def yddi:LO:=[mv' 0 12 0,mv' 1 13 0,bn' .add 12 13 14 3,mv' 14 0 7]
def ydee:LO:=[mv' 0 15 0,mv' 15 4 1]
def c39:SC:=(.seq (.reg false ydax) (.seq (.seq (.reg false ydcf) (.cond (.tmp 6) (.seq (.reg false ydia) .ret) .skip)) (.seq (.reg false yddq) (.seq (.seq (.reg false ydht) (.cond (.tmp 11) (.reg false yddi) .skip)) (.seq (.reg false ydee) .ret)))))
theorem ydby:Fn 39 c39 [.t 4]:=fn_0 Tryz.func39 (by kernel_rfl) (by kernel_rfl)
def yder:LO:=[o3 (.mv (ci' 0)) 4 0]
def ydct:LO:=[mv' 1 5 0,mv' 0 6 0,ln' 6 7 2,bn' .lss 5 7 8 7]
def ydgu:LO:=[mv' 0 9 0,mv' 1 10 0,ix' 1 9 10 11 3,ld' false 1 11 12 7,mv' 12 4 15]
def ydew:LO:=[o3 (.mv (ci' 0)) 4 0]
def c77:SC:=(.seq (.reg false yder) (.seq (.seq (.reg false ydct) (.cond (.tmp 8) (.seq (.reg false ydgu) .ret) .skip)) (.seq (.reg false ydew) .ret)))
theorem ydfl:Fn 77 c77 [.t 4]:=fn_0 Tryz.func77 (by kernel_rfl) (by kernel_rfl)
def ycif:LO:=[o3 (.box 27 (.tmp 0)) 3 0,o3 (.mv (.const (.bool false))) 6 0]
def ycrn:LO:=[o3 (.mv (ci' 0)) 7 0]
def ychr:LO:=[mv' 7 8 0,fa' 1 1 3 9 0,ld' false 1 9 10 2,mv' 1 11 0,ix' 1 10 11 12 14,ld' false 1 12 13 30,ln' 13 14 62,bn' .lss 8 14 15 127]
def ychy:LO:=[fa' 1 1 3 18 0,ld' false 1 18 19 1,mv' 1 20 0,ix' 1 19 20 21 7,ld' false 1 21 22 15,mv' 7 23 0,ix' 2 22 23 24 63,fa' 0 1 24 25 127,ld' false 1 25 26 255,mv' 2 27 0,bn' .eql 26 27 28 1023]
def ycjs:LO:=[o3 (.mv (.const (.bool true))) 6 0]
def ycip:LO:=[mv' 7 16 0,o3 (.bin .add (.tmp 16) (ci' 1)) 17 1,mv' 17 7 3]
def ycpg:LO:=[o3 (.mv (.const (.bool false))) 6 0]
def c128:SC:=(.seq (.reg false ycif) (.seq (.seq (.reg false ycrn) (.block 0 (.loop (.seq (.seq (.reg false ychr) (.cond (.tmp 15) .skip (.exit 0))) (.seq (.block 1 (.seq (.reg false ychy) (.cond (.tmp 28) (.seq (.reg false ycjs) .ret) .skip))) (.reg false ycip)))))) (.seq (.reg false ycpg) .ret)))
theorem ycwb:Fn 128 c128 [.t 6]:=fn_0 Tryz.func128 (by kernel_rfl) (by kernel_rfl)
def yczg:LO:=[o3 (.box 24 (.tmp 0)) 5 0,o3 (.box 27 (.tmp 1)) 6 0]
def ycvb:LO:=[mv' 2 12 0,mv' 3 13 0,bn' .eql 12 13 14 3,mv' 14 15 7,⟨.load true 2 (.tmp 6),some 16,some (15,false),15⟩,⟨.mv (.tmp 2),some 17,some (15,false),15⟩,⟨.mv (.tmp 3),some 18,some (15,false),15⟩,⟨.call (.func 128) [(.tmp 16),(.tmp 17),(.tmp 18)],some 19,some (15,false),127⟩,o3 (.pick (.tmp 15) (.const (.bool true)) (.tmp 19)) 20 255]
def ybje:LO:=[mv' 3 21 0,mv' 4 22 0,o3 (.build [.i .i64 0,.i .i64 0] [(0,1,(.tmp 21)),(1,1,(.tmp 22))]) 23 3,mv' 2 24 0,mv' 4 25 0,o3 (.build [.i .i64 0,.i .i64 0] [(0,1,(.tmp 24)),(1,1,(.tmp 25))]) 26 24,o3 (.alloc 95 1 [.i .i64 0,.i .i64 0]) 10 0,o3 (.alloc 95 1 [.i .i64 0,.i .i64 0]) 11 0,o0 (.store 2 (.tmp 10) (.tmp 23)) 199,o0 (.store 2 (.tmp 11) (.tmp 26)) 511]
def yblc:LO:=[fa' 5 1 5 27 0,ld' false 1 27 28 1]
def ybww:LO:=[fa' 1 1 6 29 0,ld' false 1 29 30 1,mv' 2 31 0,ld' true 2 10 32 0,o3 (.bslice 95 2 1 [.i .i64 0,.i .i64 0] [(0,2,(.tmp 32))]) 33 8,fa' 1 1 6 34 0,ld' false 1 34 35 32,mv' 2 36 0,ix' 1 35 36 37 224,ld' false 1 37 38 480,o3 (.app 95 2 16 (.tmp 33) (.tmp 38)) 39 1016,ix' 1 30 31 40 2047,o0 (.store 1 (.tmp 40) (.tmp 39)) 4095]
def ybud:LO:=[fa' 1 1 6 41 0,ld' false 1 41 42 1,mv' 3 43 0,ld' true 2 11 44 0,o3 (.bslice 95 2 1 [.i .i64 0,.i .i64 0] [(0,2,(.tmp 44))]) 45 8,fa' 1 1 6 46 0,ld' false 1 46 47 32,mv' 3 48 0,ix' 1 47 48 49 224,ld' false 1 49 50 480,o3 (.app 95 2 16 (.tmp 45) (.tmp 50)) 51 1016,ix' 1 42 43 52 2047,o0 (.store 1 (.tmp 52) (.tmp 51)) 4095]
def ydfk:LO:=[fa' 1 1 6 53 0,ld' false 1 53 54 1,mv' 2 55 0,fa' 1 1 6 56 0,ld' false 1 56 57 8,mv' 3 58 0,fa' 1 1 6 59 0,ld' false 1 59 60 64,mv' 2 61 0,ix' 1 60 61 62 448,ld' false 1 62 63 960,ld' true 2 10 64 0,o3 (.bslice 95 2 1 [.i .i64 0,.i .i64 0] [(0,2,(.tmp 64))]) 65 2048,o3 (.app 95 2 16 (.tmp 63) (.tmp 65)) 66 8128,fa' 1 1 6 67 0,ld' false 1 67 68 16384,mv' 3 69 0,ix' 1 68 69 70 114688,ld' false 1 70 71 245760,ld' true 2 11 72 0,o3 (.bslice 95 2 1 [.i .i64 0,.i .i64 0] [(0,2,(.tmp 72))]) 73 524288,o3 (.app 95 2 16 (.tmp 71) (.tmp 73)) 74 2097088,ix' 1 54 55 75 4194247,o0 (.store 1 (.tmp 75) (.tmp 66)) 8388551,ix' 1 57 58 76 16777215,o0 (.store 1 (.tmp 76) (.tmp 74)) 33554431]
def c76:SC:=(.seq (.reg false yczg) (.seq (.seq (.reg false ycvb) (.cond (.tmp 20) .ret .skip)) (.seq (.reg false ybje) (.seq (.seq (.reg false yblc) (.cond (.tmp 28) (.seq (.reg true ybww) (.seq (.reg true ybud) .ret)) .skip)) (.reg true ydfk)))))
theorem ycwk:FnM 76 c76 []:=fn_m Tryz.func76 (by kernel_rfl) (by kernel_rfl)
def ydcz:LO:=[o3 (.box 24 (.tmp 0)) 2 0,o3 (.alloc 27 1 [.a (.slice none 0 0),.a (.slice none 0 0)]) 4 0]
def yden:LO:=[fa' 0 1 2 10 0,ld' false 1 10 11 1,o3 (.wsub (.tmp 11) (ci' 1)) 12 3,mv' 1 13 0,cl' 39 [12,13] 14 15,o3 (.bin .add (ci' 1) (.tmp 14)) 15 31,mv' 15 5 63]
def ydcj:LO:=[mv' 5 16 0,o3 (.mk 71 1 24 [.a (.slice none 0 0)] (.tmp 16) (.tmp 16)) 17 1,o3 (.build [.a (.slice none 0 0),.a (.slice none 0 0)] [(1,1,(.tmp 17))]) 18 3,o3 (.alloc 27 1 [.a (.slice none 0 0),.a (.slice none 0 0)]) 6 0,o0 (.store 2 (.tmp 6) (.tmp 18)) 15]
def ydgc:LO:=[o3 (.mv (ci' 0)) 7 0]
def ydfj:LO:=[mv' 7 19 0,mv' 5 20 0,bn' .lss 19 20 21 3]
def ydfa:LO:=[fa' 3 1 2 24 0,ld' false 1 24 25 1,mv' 7 26 0,cl' 77 [25,26] 27 7,o3 (.call (.func 39) [(.tmp 27),(ci' 256)]) 28 15,mv' 28 8 31]
def ydgg:LO:=[o3 (.mv (ci' 0)) 9 0]
def ydhj:LO:=[mv' 9 29 0,mv' 7 30 0,bn' .lss 29 30 31 3]
def ycpw:LO:=[fa' 0 1 6 34 0,ld' false 1 34 35 1,mv' 9 36 0,ix' 1 35 36 37 7,ld' false 1 37 38 15,mv' 8 39 0,bn' .eql 38 39 40 63]
def ycgf:LO:=[mv' 8 41 0,o3 (.bin .add (.tmp 41) (ci' 1)) 42 1,o3 (.bin .rem (.tmp 42) (ci' 256)) 43 3,mv' 43 8 7,o3 (.mv (.const (.int .i64 (-1)))) 9 15]
def ydgt:LO:=[mv' 9 32 0,o3 (.bin .add (.tmp 32) (ci' 1)) 33 1,mv' 33 9 3]
def ycex:LO:=[fa' 0 1 6 44 0,ld' false 1 44 45 1,mv' 8 46 0,o3 (.bslice 3 1 1 [.i .i64 0] [(0,1,(.tmp 46))]) 47 4,o3 (.app 3 1 8 (.tmp 45) (.tmp 47)) 48 15,fa' 0 1 6 49 31,o0 (.store 1 (.tmp 49) (.tmp 48)) 63]
def ydgm:LO:=[mv' 7 22 0,o3 (.bin .add (.tmp 22) (ci' 1)) 23 1,mv' 23 7 3]
def ycnc:LO:=[ld' true 2 6 50 0,o0 (.store 2 (.tmp 4) (.tmp 50)) 1]
def c75:SC:=(.seq (.reg false ydcz) (.seq (.reg false yden) (.seq (.reg false ydcj) (.seq (.seq (.reg false ydgc) (.block 0 (.loop (.seq (.seq (.reg false ydfj) (.cond (.tmp 21) .skip (.exit 0))) (.seq (.block 1 (.seq (.reg false ydfa) (.seq (.seq (.reg false ydgg) (.block 2 (.loop (.seq (.seq (.reg false ydhj) (.cond (.tmp 31) .skip (.exit 2))) (.seq (.block 3 (.seq (.reg false ycpw) (.cond (.tmp 40) (.reg false ycgf) .skip))) (.reg false ydgt)))))) (.reg false ycex)))) (.reg false ydgm)))))) (.seq (.reg false ycnc) .ret)))))
theorem yczn:FnM 75 c75 [.c 4 true 2]:=fn_m Tryz.func75 (by kernel_rfl) (by kernel_rfl)
def ydec:LO:=[o3 (.box 24 (.tmp 0)) 2 0,o3 (.alloc 27 1 [.a (.slice none 0 0),.a (.slice none 0 0)]) 4 0]
def ydcd:LO:=[ld' true 6 2 7 0,mv' 1 8 0,cl' 75 [7,8] 9 3,o3 (.alloc 27 1 [.a (.slice none 0 0),.a (.slice none 0 0)]) 5 0,o0 (.store 2 (.tmp 5) (.tmp 9)) 15]
def ydge:LO:=[o3 (.mv (ci' 1)) 6 0]
def ydak:LO:=[mv' 6 10 0,fa' 1 1 5 11 0,ld' false 1 11 12 2,ln' 12 13 6,bn' .lss 10 13 14 15]
def ydcv:LO:=[ld' true 6 2 17 0,ld' true 2 5 18 0,fa' 1 1 2 19 0,ld' false 1 19 20 4,mv' 6 21 0,o3 (.bin .sub (.tmp 21) (ci' 1)) 22 16,cl' 77 [20,22] 23 60,mv' 6 24 0,cl' 39 [23,24] 25 252,mv' 6 26 0,fa' 2 1 2 27 0,ld' false 1 27 28 1024,mv' 6 29 0,o3 (.bin .sub (.tmp 29) (ci' 1)) 30 4096,cl' 77 [28,30] 31 15868,o3 (.call (.func 39) [(.tmp 31),(ci' 15)]) 32 32252,o3 (.bin .add (ci' 1) (.tmp 32)) 33 65020,cl' 76 [17,18,25,26,33] 34 131071]
def yddp:LO:=[mv' 6 15 0,o3 (.bin .add (.tmp 15) (ci' 1)) 16 1,mv' 16 6 3]
def yddk:LO:=[ld' true 2 5 35 0,o0 (.store 2 (.tmp 4) (.tmp 35)) 1]
def c21:SC:=(.seq (.reg false ydec) (.seq (.reg false ydcd) (.seq (.seq (.reg false ydge) (.block 0 (.loop (.seq (.seq (.reg false ydak) (.cond (.tmp 14) .skip (.exit 0))) (.seq (.block 1 (.reg true ydcv)) (.reg false yddp)))))) (.seq (.reg false yddk) .ret))))
theorem yczm:FnM 21 c21 [.c 4 true 2]:=fn_m Tryz.func21 (by kernel_rfl) (by kernel_rfl)
def ydbn:LO:=[o3 (.mv (.const (.slice none 0 0))) 4 0]
def yddg:LO:=[o3 (.mv (.const (.slice none 0 0))) 5 0]
def ydbb:LO:=[o3 (.mv (ci' 0)) 6 0]
def ydhk:LO:=[mv' 6 9 0,mv' 1 10 0,bn' .lss 9 10 11 3]
def ydgp:LO:=[mv' 0 14 0,ln' 14 15 1,o3 (.bin .eql (.tmp 15) (ci' 0)) 16 3]
def ydfh:LO:=[mv' 5 17 0,o3 (.bslice 40 1 1 [.i .u32 0] [(0,1,(.const (.int .u32 4294967295)))]) 18 0,o3 (.app 40 1 4 (.tmp 17) (.tmp 18)) 19 3,mv' 19 5 7]
def ydeh:LO:=[mv' 0 20 0,mv' 6 21 0,mv' 0 22 0,ln' 22 23 4,bn' .rem 21 23 24 14,ix' 1 20 24 25 31,ld' false 1 25 26 63,mv' 6 27 0,mv' 0 28 0,ln' 28 29 256,bn' .quo 27 29 30 896,o3 (.bin .rem (.tmp 30) (ci' 24)) 31 1920,o3 (.conv .u64 (.tmp 31)) 32 3968,mv' 26 7 127,mv' 32 8 16383]
def ydhr:LO:=[mv' 7 33 0,o3 (.bin .and (.tmp 33) (.const (.int .u32 16777215))) 34 1,mv' 34 7 3]
def ydfs:LO:=[mv' 5 35 0,mv' 7 36 0,mv' 8 37 0,bn' .shl 36 37 38 6,mv' 7 39 0,mv' 8 40 0,o3 (.bin .sub (.const (.int .u64 24)) (.tmp 40)) 41 32,bn' .shr 39 41 42 112,bn' .or 38 42 43 254,o3 (.bin .and (.tmp 43) (.const (.int .u32 16777215))) 44 510,o3 (.bslice 40 1 1 [.i .u32 0] [(0,1,(.tmp 44))]) 45 1022,o3 (.app 40 1 4 (.tmp 35) (.tmp 45)) 46 2047,mv' 46 5 4095]
def ycyx:LO:=[mv' 6 12 0,o3 (.bin .add (.tmp 12) (ci' 1)) 13 1,mv' 13 6 3]
def ycib:LO:=[mv' 5 47 0,mv' 47 4 1]
def c26:SC:=(.seq (.reg false ydbn) (.seq (.reg false yddg) (.seq (.seq (.reg false ydbb) (.block 0 (.loop (.seq (.seq (.reg false ydhk) (.cond (.tmp 11) .skip (.exit 0))) (.seq (.block 1 (.seq (.seq (.reg false ydgp) (.cond (.tmp 16) (.seq (.reg false ydfh) (.exit 1)) .skip)) (.seq (.reg true ydeh) (.seq (.reg false ydhr) (.reg false ydfs))))) (.reg false ycyx)))))) (.seq (.reg false ycib) .ret))))
theorem ydgb:Fn 26 c26 [.t 4]:=fn_0 Tryz.func26 (by kernel_rfl) (by kernel_rfl)
def ydcm:LO:=[o3 (.box 27 (.tmp 1)) 6 0,o3 (.mv (.const (.slice none 0 0))) 10 0,o3 (.mv (.const (.slice none 0 0))) 11 2,o3 (.mv (.const (.bool false))) 12 6]
def ydgk:LO:=[mv' 0 17 0,cl' 37 [17] 18 1,ld' true 2 6 19 0,mv' 2 20 0,mv' 3 21 0,mv' 4 22 0,cl' 78 [18,19,20,21,22] 23 63,mv' 23 16 127,xt' 16 0 24 255,xt' 16 1 25 255,xt' 16 2 26 255,mv' 24 13 511,mv' 25 14 3071,mv' 26 15 8191]
def ydgh:LO:=[mv' 13 27 0,mv' 14 28 0,mv' 15 29 0,o3 (.bin .eql (.tmp 29) (ci' 0)) 30 4,mv' 30 31 12,⟨.mv (.tmp 13),some 32,some (31,true),28⟩,⟨.len (.tmp 32),some 33,some (31,true),60⟩,⟨.mv (.tmp 14),some 34,some (31,true),28⟩,⟨.len (.tmp 34),some 35,some (31,true),156⟩,⟨.bin .eql (.tmp 33) (.tmp 35),some 36,some (31,true),508⟩,o3 (.pick (.tmp 31) (.tmp 36) (.const (.bool false))) 37 1020,mv' 37 38 2044,⟨.mv (.tmp 13),some 39,some (38,true),4092⟩,⟨.len (.tmp 39),some 40,some (38,true),8188⟩,⟨.bin .gtr (.tmp 40) (ci' 0),some 41,some (38,true),16380⟩,o3 (.pick (.tmp 38) (.tmp 41) (.const (.bool false))) 42 32764,mv' 27 10 4093,mv' 28 11 69631,mv' 42 12 262143]
def c22:SC:=(.seq (.reg false ydcm) (.seq (.reg true ydgk) (.seq (.reg false ydgh) .ret)))
theorem ydca:Fn 22 c22 [.t 10,.t 11,.t 12]:=fn_0 Tryz.func22 (by kernel_rfl) (by kernel_rfl)
end Sh
end
section
namespace Sh
open Ev Go.RowKit
instance:Inhabited Cnt:=⟨⟨0,0,0,0,0⟩⟩
def seeO(cs:List Conf)(ks:List Cnt):Own:=[(1,.one (some ⟨29,true,1,1,fun _=>[.os (2,0) 0 cs.length true]⟩)),(2,.one (some ⟨34,false,1,cs.length,fun i=>[ybm (cs.getD i [])]⟩)),
 (3,.one (some ⟨30,true,1,1,fun _=>[.os (4,0) 0 ks.length true]⟩)),(4,.one (some ⟨48,false,5,ks.length,fun i=>cntV (ks.getD i default)⟩))]
def ycyv:Own:=[(1,.one (some ⟨29,true,1,1,fun _=>[.a (.slice none 0 0)]⟩)),(3,.one (some ⟨30,true,1,1,fun _=>[.a (.slice none 0 0)]⟩))]
theorem ybxn(cs:List Conf)(ks:List Cnt)(h1:0<cs.length/\cs.length<=5000)(h2:0<ks.length/\ks.length<=5000){c:Conf}(hc:∀s∈c,0<s.length/\s.length<=1000)(hl:c.length<=1000)(e:Nat)(k:Cnt) :
 Cm zG 131 [(1,0),(3,0)] (seeO cs ks) [ybm c,.i .u32 e,.ag (cntV k),.pt (1,0) 0 0,.pt (3,0) 0 0] fun r o=>r = .tp []/\o=seeO (cs++[c]) (ks++[k]):=by
 refine ybhi [(1,0),(3,0)] [] _ _ _ ?_;obtain⟨n,hn⟩:∃n,cs.length=n:=⟨_,rfl⟩;obtain⟨m,hm⟩:∃m,ks.length=m:=⟨_,rfl⟩;have hC:=yxz c hc hl;obtain⟨O2,hO2⟩:∃O,seeO (cs++[c]) (ks++[k])=O:=⟨_,rfl⟩;rw[hO2];simp only[c131,ybsq,ybre,ybwx,seeO,cntV,hn,hm,go_sem,zA,zB,zD,↓reduceIte,reduceCtorEq];refine hC.use ?_;simp only[ybh,clash,yhj,go_sem,zA,zB,zC,zD,↓reduceIte,reduceCtorEq];refine⟨by decide,⟨by omega,by omega⟩,by decide,by decide,⟨by omega,by omega⟩,.tp [],O2,?_,?_,rfl,rfl⟩
 .subst hO2;refine yea [(2,fun i=>(12,i)),(4,fun i=>(16,i))] [] [] ?_;simp only[seeO,cntV,zAA,hn,hm,allQ,live,yc,go_sem,zA,↓reduceIte,reduceCtorEq];have gl:∀{α:Type}(l:List α) (x d:α) (i:Nat),i<l.length->(l++[x]).getD i d=l.getD i d:=fun l x d i h=>by simp[zK,zBG h]
  have gr:∀{α:Type}(l:List α) (x d:α),(l++[x]).getD l.length d=x:=fun l x d=>by simp[zK]
  refine⟨fun i hi=>?_,fun i hi=>?_⟩
  .by_cases q:i<n
   .simp only[if_pos q,gl cs c [] i (by omega)]
    simp only[go_sem,live,yc,go_sem]
   .obtain rfl:i=n:=by omega
    simp only[if_neg q,zAE,zW];have e:=gr cs c [];rw[hn]at e;simp only[e,live,yc,go_sem]
  .by_cases q:i<m
   .simp only[if_pos q,gl ks k default i (by omega)]
    simp only[go_sem,live,yc,go_sem,reduceCtorEq]
   .obtain rfl:i=m:=by omega
    simp only[if_neg q,zAE,zW];have e:=gr ks k default;rw[hm]at e;simp only[e,live,yc,go_sem,reduceCtorEq]
 .subst hO2;simp only[seeO,cntV,yco,yfe,allQ,live,go_sem,zA,↓reduceIte]
theorem ybmc{c:Conf}(hc:∀s∈c,0<s.length/\s.length<=1000)(hl:c.length<=1000)(e:Nat)(k:Cnt) :
 Cm zG 131 [(1,0),(3,0)] ycyv [ybm c,.i .u32 e,.ag (cntV k),.pt (1,0) 0 0,.pt (3,0) 0 0] fun r o=>r = .tp []/\o=seeO [c] [k]:=by
 refine ybhi [(1,0),(3,0)] [] _ _ _ ?_;have hC:=yxz c hc hl;obtain⟨O2,hO2⟩:∃O,seeO [c] [k]=O:=⟨_,rfl⟩;rw[hO2];simp only[c131,ybsq,ybre,ybwx,ycyv,cntV,go_sem,zA,zB,zD,↓reduceIte,reduceCtorEq];refine hC.use ?_;simp only[ybh,clash,yhj,go_sem,zA,zB,zC,zD,zAQ,↓reduceIte,reduceCtorEq];refine⟨by decide,by decide,by decide,.tp [],O2,?_,?_,rfl,rfl⟩
 .subst hO2;refine yea [(2,fun i=>(12,i)),(4,fun i=>(16,i))] [] [] ?_;simp only[seeO,cntV,allQ,live,yc,go_sem,zA,↓reduceIte,reduceCtorEq];refine⟨fun i hi=>?_,fun i hi=>?_⟩
  .obtain rfl:i=0:=by omega
   simp only[zW];simp only[zAG,live,yc,go_sem]
  .obtain rfl:i=0:=by omega
   simp only[zW];simp only[zAG,live,yc,go_sem,reduceCtorEq]
 .subst hO2;simp only[seeO,cntV,yco,yfe,allQ,live,go_sem,zA,↓reduceIte]
structure DaemonOk(kind:Int)(net:List Nat)(res:Nat->Nat->Nat):Prop where
 resolve:∀(e w:Nat),e<2^24->e<2^net.length->e≠0->w<2^32->Returns zG 111 [usV net,.i .i64 kind,.i .u32 e,.i .u32 w] (.i .u32 (res e w))
 permits:∀(e w:Nat),e<2^24->e<2^net.length->e≠0->w<2^32->Returns zG 196 [usV net,.i .i64 kind,.i .u32 e,.i .u32 (res e w)] (.b true)
 zero:∀(w:Nat),w<2^32->∃x:Nat,Returns zG 111 [usV net,.i .i64 kind,.i .u32 0,.i .u32 w] (.i .u32 x)
 sub:∀(e w:Nat),e≠0->e<2^24->res e w≠0/\subB (res e w) e
theorem ybcd{kind:Int}{net:List Nat}{res:Nat->Nat->Nat}(hd:DaemonOk kind net res)(rest:SV)(liv:SV)(mv:SV){ws:List Nat}(hw:∀k,ws.getD k 0<2^32){e:Nat}(he:e<2^24)(hen:e<2^net.length)(h0:e≠0){k:Nat}(hk:k<ws.length) :
 Returns zG 169 [.i .i64 k,.i .u32 e,.rf [mv,usV net,.i .i64 kind,liv,rest],.rf [usV ws]] (.tp [.i .u32 (res e (ws.getD k 0)),.b true]):=by
 refine Returns.of (ybpk _ _ ?_);have hR:=hd.resolve e (ws.getD k 0) he hen h0 (hw k);have z0:((e:Int)!=0)=true:=by simp;omega
 simp only[usV]at hR;simp only[c169,ybwv,ybqv,usV,clash,go_sem,zA,zB,zC,↓reduceIte,reduceCtorEq];refine⟨by omega,hR.use ?_⟩
 simp only[ybh,clash,z0,go_sem,zA,zB,↓reduceIte,reduceCtorEq];exact Sim.refl _
theorem ybcx{kind:Int}{net:List Nat}{res:Nat->Nat->Nat}(hd:DaemonOk kind net res)(rest:SV)(liv:SV)(mv:SV){ws:List Nat}(hw:∀k,ws.getD k 0<2^32){k:Nat}(hk:k<ws.length) :
 ∃x:Nat,Returns zG 169 [.i .i64 k,.i .u32 0,.rf [mv,usV net,.i .i64 kind,liv,rest],.rf [usV ws]] (.tp [.i .u32 x,.b false]):=by
 obtain⟨x,hR⟩:=hd.zero (ws.getD k 0) (hw k);refine⟨x,Returns.of (ybpk _ _ ?_)⟩;simp only[usV]at hR;simp only[c169,ybwv,ybqv,usV,clash,go_sem,zA,zB,zC,↓reduceIte,reduceCtorEq];refine⟨by omega,hR.use ?_⟩
 simp only[ybh,clash,zAR,go_sem,zA,zB,↓reduceIte,reduceCtorEq];exact Sim.refl _
theorem ycvt{s e n:Nat}(h:subB s e)(he:e<2^n):s<2^n:=by
 refine zAJ _ fun i hi=>?_;cases hb:s.testBit i with
 |false=>rfl
 | true =>
   have:=h i hb;rw[zV (zT he (zQ (by omega) hi))]at this
   cases this
theorem ycxz(net:List Nat):DaemonOk 4 net resS where
 resolve:=fun e w he _ h0 hw=>ybak (usV net) (by simp[usV,ybgf,yboh]) he h0 hw
 permits:=fun e w he _ h0 hw=>ybbt (usV net) he h0
 zero:=fun w hw=>⟨0,by
  refine Returns.of (yblv _ _ ?_);have a0:=u32_and (a:=w) (b:=0) (by omega) (by omega)
  rw[zBY]at a0;have a1:IntKind.wrap .u32 (0-0)=0:=by decide
  have a2:=u32_and (a:=0) (b:=0) (by omega) (by omega)
  rw[zBY]at a2;simp only[zH,IntKind.bits]at a0 a2;simp only[usV,c111,ybng,ybuj,ybsz,ybvw,ybhu,ybgz,ybgu,yxl,ywc,IntKind.signed,a0,a1,a2,zBB,yba,go_sem,zA,zB,zD,↓reduceIte,reduceCtorEq];rfl⟩
 sub:=fun e w h0 _=>⟨h0,fun _ h=>h⟩
end Sh
end
section
def stAt(S:Sys)(res:Nat->Nat->Nat):List Nat->Conf->Cnt->Nat->Conf×Cnt
 |_,c,k,0=>(c,k)
 |ws,c,k,i+1=>stAt S res ws.tail (S.mv c (res (S.en c) (ws.getD 0 0))) (addP k (res (S.en c) (ws.getD 0 0)) (S.en (S.mv c (res (S.en c) (ws.getD 0 0))))) i
theorem yzb(S:Sys)(res:Nat->Nat->Nat):∀(i:Nat) (ws:List Nat) (c:Conf) (k:Cnt),
 stAt S res ws c k (i+1)=(S.mv (stAt S res ws c k i).1 (res (S.en (stAt S res ws c k i).1) (ws.getD i 0)),addP (stAt S res ws c k i).2 (res (S.en (stAt S res ws c k i).1) (ws.getD i 0)) (S.en (S.mv (stAt S res ws c k i).1 (res (S.en (stAt S res ws c k i).1) (ws.getD i 0)))))
 |0,ws,c,k=>rfl
 | i+1,ws,c,k=>by
   show stAt S res ws.tail _ _ (i+1)=_;rw[yzb S res i ws.tail];have e:ws.tail.getD i 0=ws.getD (i+1) 0:=by cases ws<;>rfl
   rw[e];rfl
theorem ybaw(S:Sys)(res:Nat->Nat->Nat):∀(ws:List Nat) (c:Conf) (k:Cnt) (i:Nat),(∀j,j<i->S.en (stAt S res ws c k j).1≠0)->i<=ws.length->(i=ws.length\/S.en (stAt S res ws c k i).1=0) ->
 S.run res ws c k=(zZ i).map fun j=>stAt S res ws c k (j+1)
 | [],c,k,i,_,hi,_=>by
   have:i=0:=by simpa using hi
   subst this;rfl
 | w :: ws,c,k,0,_,_,h=>by
   have h0:S.en c=0:=by
    rcases h with h|h
    .simp at h
    .exact h
   unfold Sys.run;rw[if_pos h0];rfl
 | w :: ws,c,k,i+1,hj,hi,h=>by
   have h0:S.en c≠0:=hj 0 (by omega)
   unfold Sys.run;rw[if_neg h0];simp only
   have e:=ybaw S res ws (S.mv c (res (S.en c) w)) (addP k (res (S.en c) w) (S.en (S.mv c (res (S.en c) w)))) i (fun j hj'=>hj (j+1) (by omega)) (by simpa using hi) (by
    rcases h with h|h
    .exact .inl (by simpa using h)
    .exact .inr h)
   rw[e,zBL,zBC,zBZ];rfl
theorem ybkv(S:Sys)(res:Nat->Nat->Nat)(ws:List Nat)(c:Conf)(i:Nat)(hj:∀j,j<i->S.en (stAt S res ws c (ydi (S.en c)) j).1≠0)(hi:i<=ws.length)(h:i=ws.length\/S.en (stAt S res ws c (ydi (S.en c)) i).1=0) :
 S.runs res ws c=(zZ (i+1)).map fun j=>stAt S res ws c (ydi (S.en c)) j:=by
 unfold Sys.runs;rw[ybaw S res ws c _ i hj hi h,zBL,zBC,zBZ];rfl
theorem ybzc{kind:Int}{b:Int×Int}(hb:b.1<=b.2)(h3:kind=3->b.1 <= -1 /\ -1<=b.2)(x:Int):b.1<=yez kind b x/\yez kind b x<=b.2:=by
 unfold yez;split
 .assumption
 .split
  .exact h3 (by assumption)
  .split<;>omega
namespace Sh
theorem yccv{p:ProgT}{g:Gr}(hg:ybg g)(hp:p.ok=true)(hf:ybbs p g=true){x:VarR}(hx:x∈p.vars)(v:Nat):(ybi g v x).1<=(ybi g v x).2/\(x.kind=3->(ybi g v x).1 <= -1 /\ -1<=(ybi g v x).2):=by
 have h1:=List.all_eq_true.1 hf x hx;have hp':=hp;unfold ProgT.ok at hp';simp only[zF,decide_eq_true_eq]at hp';have hxo:=ybic (List.all_eq_true.1 hp'.1.1.2 _ hx);rcases hxo.1 with h|h|h
 .have e:ybi g v x=ybi g 0 x:=by unfold ybi;rw[if_pos h,if_pos h]
  rw[e];simp[h]at h1;exact⟨h1.1,fun q=>by omega⟩
 .unfold ybi;rw[if_neg (by omega),if_pos h]
  exact⟨by decide,fun q=>by omega⟩
 .unfold ybi;rw[if_neg (by omega),if_neg (by omega),if_pos h]
  exact⟨by simp only[];omega,fun _=>⟨by simp only[];omega,by simp only[];omega⟩⟩
theorem ybmf{p:ProgT}{g:Gr}(hg:ybg g)(hp:p.ok=true)(hf:ybbs p g=true){v:Nat}{s:List Int}(hs:yfw (p.vars.map (ybi g v)) s){a:Int}(ha:0<=a/\a<p.vars.length)(y:Int) :
 yfw (p.vars.map (ybi g v)) (s.set a.toNat (yez (p.vars.getD a.toNat default).kind (ybi g v (p.vars.getD a.toNat default)) y)):=by
 refine⟨by rw[List.length_set];exact hs.1,fun i b x hb hx=>?_⟩
 by_cases q:a.toNat=i
 .subst q;have hlt:a.toNat<p.vars.length:=by omega
  rw[List.getElem?_map,zN hlt]at hb;cases hb
  have hl:a.toNat<s.length:=by rw[hs.1,zU];exact hlt
  rw[zAP hl]at hx;cases hx
  rw[getD_at hlt];obtain⟨h1,h2⟩:=yccv hg hp hf (zM hlt) v;exact ybzc h1 h2 y
 .rw[zAW q]at hx;exact hs.2 i b x hb hx
theorem yuv{p:ProgT}{g:Gr}(hg:ybg g)(hp:p.ok=true)(hf:ybbs p g=true)(c:Conf)(v:Nat):∀(sets:List (Int×Ex)) (s:List Int),(∀a∈sets,0<=a.1/\a.1<p.vars.length)->yfw (p.vars.map (ybi g v)) s->yfw (p.vars.map (ybi g v)) (ynt p g c v s sets)
 |[],s,_,hs=>hs
 | a::sets,s,ha,hs=>by
   show yfw _ (ynt p g c v (s.set _ _) sets);exact yuv hg hp hf c v sets _ (fun x hx=>ha x (zAV _ hx)) (ybmf hg hp hf hs (ha a zAZ) _)
theorem yoa{p:ProgT}{g:Gr}(hg:ybg g)(hp:p.ok=true)(hf:ybbs p g=true){c:Conf}(hc:ygr p g c=true)(s:Nat):ygr p g (ydk p g c s)=true:=by
 have h:=(yel _ _ _).1 hc;refine(yel _ _ _).2 ⟨by rw[yjq];exact h.1,fun v st hst=>?_⟩
 have hv:v<c.length:=by
  have:=(List.getElem?_eq_some_iff.1 hst).1
  rwa [yjq]at this
 have e:st=(ydk p g c s).getD v []:=by simp[zK,hst]
 rw[ymq p g c s hv]at e;have hold:=h.2 v (c.getD v []) (by rw[getD_at hv];exact zN hv)
 rw[e];split
 .unfold yyh;refine yuv hg hp hf c v _ _ (fun a ha=>?_) hold;have hp':=hp;unfold ProgT.ok at hp';simp only[zF,decide_eq_true_eq]at hp'
  by_cases hr:(ygs p g c v).toNat<p.rules.length
  .rw[getD_at hr]at ha;have hok:=List.all_eq_true.1 hp'.2 _ (zM hr);unfold RuleT.ok at hok;simp only[zF,decide_eq_true_eq]at hok;have:=List.all_eq_true.1 hok.2 a ha;simp only[zF,decide_eq_true_eq]at this;exact this.1.1
  .have:p.rules.getD (ygs p g c v).toNat default=default:=by simp[zK,zAU (Nat.le_of_not_lt hr)]
   rw[this]at ha;cases ha
 .exact hold
theorem yns{p:ProgT}{g:Gr}(hg:ybg g)(hp:p.ok=true){c:Conf}(hc:ygr p g c=true):(∀s∈c,0<s.length/\s.length<=1000)/\c.length<=1000:=by
 have h:=yml hg hp hc;have hp':=hp;unfold ProgT.ok at hp';simp only[zF,decide_eq_true_eq]at hp';have:=hg.2.1;exact⟨fun s hs=>by have:=(h.row s hs).1;omega,by rw[h.len];omega⟩
theorem ybxd(p:ProgT)(g:Gr)(c:Conf):ybk p g c<2^g.ids.length:=ybhh _ _
end Sh
end
section
namespace Sh
open Ev Go.RowKit
def seeC:SV:=.fn 131 [] [.pt (201,0) 0 0,.pt (203,0) 0 0]
def seeX(cs:List Conf)(ks:List Cnt):Own:=[(201,.one (some ⟨29,true,1,1,fun _=>[.os (202,0) 0 cs.length true]⟩)),(202,.one (some ⟨34,false,1,cs.length,fun i=>[ybm (cs.getD i [])]⟩)),
 (203,.one (some ⟨30,true,1,1,fun _=>[.os (204,0) 0 ks.length true]⟩)),(204,.one (some ⟨48,false,5,ks.length,fun i=>cntV (ks.getD i default)⟩))]
def ymw:Own:=[(201,.one (some ⟨29,true,1,1,fun _=>[.a (.slice none 0 0)]⟩)),(203,.one (some ⟨30,true,1,1,fun _=>[.a (.slice none 0 0)]⟩))]
def TT:(Nat->Option ABlk)->Value->Prop:=fun _ _=>True
def yfa(p:ProgT)(g:Gr):SV:=.ex TT (.rf (ydy p.raw g))
def ydw(p:ProgT)(g:Gr)(net:List Nat)(kind:Int):List SV:=[yfa p g,usV net,.i .i64 kind,.i .u32 (2^g.ids.length-1:Nat),seeC]
def ybnd(p:ProgT)(g:Gr)(net:List Nat)(kind:Int)(ws:List Nat):Own:=[(205,.one (some ⟨126,true,5,1,fun _=>ydw p g net kind⟩)),(206,.one (some ⟨38,true,1,1,fun _=>[usV ws]⟩))]
theorem gmr{α:Type}(f:Nat->α)(n k:Nat)(d:α)(h:k<n):((zZ n).map f).getD k d=f k:=by simp[zK,h]
def mapR{α:Type}(n:Nat)(f:Nat->α):List α:=(zZ n).map f
theorem gmR{α:Type}(f:Nat->α)(n k:Nat)(d:α)(h:k<n):(mapR n f).getD k d=f k:=gmr f n k d h
theorem yjy{α:Type}(n:Nat)(f:Nat->α):(mapR n f).length=n:=by simp[mapR]
theorem ybhd{α β:Type}(n:Nat)(f:Nat->α)(h:α->β):(mapR n f).map h=mapR n fun k=>h (f k):=by simp[mapR,Function.comp_def]
theorem ybwu{α:Type}(f:Nat->α)(n:Nat)(x d:α)(hx:f n=x)(k:Nat)(h:k<n+1):(((zZ n).map f)++[x]).getD k d=f k:=by
 rw[<-hx,show[f n]=[n].map f from rfl,<-zBU,<-List.range_succ]
 exact gmr f (n+1) k d h
section
variable {Q1 Q2:(Nat->Option ABlk)->Value->Prop}{p:ProgT}{g:Gr}
theorem yblm(h:Checked Q1 Q2 p g){kind:Int}{net:List Nat}(hnl:g.ids.length<=net.length){res:Nat->Nat->Nat}(hd:DaemonOk kind net res){c:Conf}(hc:ygr p g c=true){ws:List Nat}(hw:∀k,ws.getD k 0<2^32)(hwl:ws.length<=4000) :
 Cm zG 168 [(201,0),(203,0)] (ymw++ybnd p g net kind ws) [.ag (ydw p g net kind),ybm c,.i .i64 ws.length,.fn 169 [] [.pt (205,0) 0 0,.pt (206,0) 0 0]]
  fun r o=>(∃l1 l2 c' k',r = .tp [.ag (usV l1::usV l2::ybm c'::cntV k'),.i .i64 0])/\o=seeX ((ybp p g).runs res ws c |>.map (·.1)) ((ybp p g).runs res ws c |>.map (·.2)):=by
 refine ybyw [(201,0),(203,0)] [131] _ _ _ ?_;obtain⟨O2,hO2⟩:∃O,seeX ((ybp p g).runs res ws c |>.map (·.1)) ((ybp p g).runs res ws c |>.map (·.2))=O:=⟨_,rfl⟩;rw[hO2];obtain⟨hr1,hr2⟩:=yns h.hg h.hp hc;have hcin:=yml h.hg h.hp hc;have hC:=yxz c hr1 hr2;have hE:=ypu p h.hg h.hp hcin;have hX:SimL [yfa p g,ybm c] [.rf (ydy p.raw g),ybm c]:=⟨yri _ _,Sim.refl _,trivial⟩;have hen:=ybxd p g c;have hid:=h.hg.2.2.1
 have h24:=h.hg.2.1;have h2n:2^g.ids.length<=2^24:=zQ (by omega) (by omega)
 simp only[c168,ycql,ycjw,ycld,ymw,ybnd,ydw,seeC,usV,yfa,go_sem,zA,zB,zD,zJ,↓reduceIte,reduceCtorEq];refine hC.use ?_;simp only[ybh,ycoe,clash,go_sem,zA,zB,zC,zJ,↓reduceIte,reduceCtorEq];refine hE.useS ?_ ?_
 .exact hX
 have ha:IntKind.wrap .u32 (((zI (IntKind.bits .u32) (ybk p g c:Int))&&&zI (IntKind.bits .u32) ((2^g.ids.length-1:Nat):Int)).toNat:Int)=(ybk p g c:Int):=by
  have e:=u32_and (a:=ybk p g c) (b:=2^g.ids.length-1) (by omega) (by omega)
  rw[zY hen]at e;exact e
 simp only[IntKind.bits]at ha;simp only[ybh,yclh,clash,ha,go_sem,zA,zB,zD,zJ,↓reduceIte];have hB:=ybqn (e:=ybk p g c) (by omega)
 obtain⟨K0,hK0⟩:∃K,ydi (ybk p g c)=K:=⟨_,rfl⟩;rw[hK0]at hB;refine hB.use ?_;simp only[ycfk,cntV,go_sem,zA,zB,↓reduceIte,reduceCtorEq];have hS:=ybmc hr1 hr2 (ybk p g c) K0;simp only[cntV]at hS;refine yfr hS [(1,201),(3,203)] 200 [1,2,3,4,8,9,10,11,12] [4,8,10,12,205,206] ?_ ?_
 .simp only[ycyv,to1,okN,yco,yfe,yej,ydu,allQ,live,yc,go_sem,zA,zB,zJ,↓reduceIte,reduceCtorEq]
 .rintro r o' ⟨rfl,rfl⟩;simp only[seeO,yrl,ynr,nuF,nu,difN,yej,ydu,Fam.ren,OB.ren,dim,yso,ymy,go_sem,zA,zB,zJ,↓reduceIte,reduceCtorEq];simp only[ycnz,ycfb,splice,go_sem,zA,zB,zC,zD,zAQ,↓reduceIte,reduceCtorEq]
  let st:Nat->Conf×Cnt:=stAt (ybp p g) res ws c K0
  let en:Nat->Nat:=fun i=>ybk p g (st i).1
  let ch:Nat->Nat:=fun i=>res (en i) (ws.getD i 0)
  refine ybn (σ:=Nat) (fun i=>⟨[(40,.i .i64 i),(39,.i .i64 ws.length),(1,ybm (st i).1),(3,.fn 169 [] [.pt (205,0) 0 0,.pt (206,0) 0 0]),(4,.pt (4,0) 0 0),(8,.pt (8,0) 0 0),(9,.i .i64 0),(10,.pt (10,0) 0 0),(11,.i .u32 (en i)),(12,.pt (12,0) 0 0)],
   [(4,.one (some ⟨126,true,5,1,fun _=>ydw p g net kind⟩)),
    (8,.one (some ⟨130,true,8,1,fun _=>[.a (.slice none 0 0),.a (.slice none 0 0),.a (.slice none 0 0),.i .i64 0,.i .i64 0,.i .i64 0,.i .i64 0,.i .u32 0]⟩)),
    (10,.one (some ⟨130,true,8,1,fun _=>[.os (301,0) 0 i true,.os (302,0) 0 (i+1) true,.a (.slice none 0 0),.i .i64 0,.i .i64 0,.i .i64 0,.i .i64 0,.i .u32 0]⟩)),
    (301,.one (some ⟨40,false,1,i,fun j=>[.i .u32 (ch j)]⟩)),(302,.one (some ⟨40,false,1,i+1,fun j=>[.i .u32 (en j)]⟩)),
    (12,.one (some ⟨48,true,5,1,fun _=>cntV (st i).2⟩)),
    (201,.one (some ⟨29,true,1,1,fun _=>[.os (202,0) 0 (i+1) true]⟩)),(202,.one (some ⟨34,false,1,i+1,fun j=>[ybm (st j).1]⟩)),
    (203,.one (some ⟨30,true,1,1,fun _=>[.os (204,0) 0 (i+1) true]⟩)),(204,.one (some ⟨48,false,5,i+1,fun j=>cntV (st j).2⟩)),
    (205,.one (some ⟨126,true,5,1,fun _=>ydw p g net kind⟩)),(206,.one (some ⟨38,true,1,1,fun _=>[usV ws]⟩))]⟩)
   (fun i=>i<=ws.length/\(∀j,j<i->en j≠0)/\ygr p g (st i).1=true/\(st i).2.ok/\(st i).2.steps=i) (fun i=>ws.length-i) 0 ⟨zL _,fun j hj=>absurd hj (zAK j),hc,by show K0.ok;rw[<-hK0];exact ybpw (by omega),by show K0.steps=0;rw[<-hK0];rfl⟩ ?_ ?_
  .refine yea [(302,fun i=>(37,i))] [301] [] ?_;have st0:st 0=(c,K0):=rfl;have en0:en 0=ybk p g c:=rfl;simp only[ydw,yfa,seeC,usV,cntV,st0,en0,allQ,live,yc,yba,zH,go_sem,zA,zC,zJ,↓reduceIte,reduceCtorEq];refine⟨fun i _=>⟨(301,0),rfl,?_⟩,?_⟩
   .simp only[go_sem,go_sem,zA,↓reduceIte]
   refine⟨fun i hi=>?_,fun i hi=>?_,fun i hi=>?_⟩
   .obtain rfl:i=0:=by omega
    simp only[zW];simp only[en0,live,yc,go_sem,reduceCtorEq]
   .obtain rfl:i=0:=by omega
    simp only[st0,zAG,yc,go_sem]
   .obtain rfl:i=0:=by omega
    simp only[st0,zAG,go_sem]
  .rintro i ⟨hi,hj,hci,hko,hks⟩;obtain⟨cr1,cr2⟩:=yns h.hg h.hp hci;have cin:=yml h.hg h.hp hci;have eni:=ybxd p g (st i).1
   have fin:(i=ws.length\/en i=0)->(ybp p g).runs res ws c=mapR (i+1) st:=fun hq=>by
    have e:=ybkv (ybp p g) res ws c i;rw[show(ybp p g).en c=ybk p g c from rfl,hK0]at e
    exact e hj hi hq
   simp only[ycst,ycfh,ybmt,ydw,yfa,seeC,usV,cntV,go_sem,zA,zB,zC,zJ,↓reduceIte,reduceCtorEq];refine⟨fun hlt=>.inl ?_,fun hlt=>?_⟩
   .have hi':i<ws.length:=by omega
    by_cases h0:en i=0
    .obtain⟨x,hF⟩:=ybcx hd (.fn 131 [] [.rf [.sl 1 (i+1) fun j=>[ybm (st j).1]],.rf [.sl 5 (i+1) fun j=>cntV (st j).2]]) (.i .u32 (2^g.ids.length-1:Nat)) (yfa p g) hw hi';simp only[yfa,usV,cntV]at hF;simp only[h0,zH];refine hF.use ?_;simp only[ybh,ybes,ybev,ybem,go_sem,zA,zB,zC,↓reduceIte,reduceCtorEq];refine⟨by decide,?_⟩
     simp only[yhj,go_sem];refine⟨.tp [.ag (usV (mapR i ch)::usV (mapR (i+1) en)::ybm (st i).1::cntV (st i).2),.i .i64 0],O2,?_,?_,⟨_,_,_,_,rfl⟩,rfl⟩
     .subst hO2;rw[fin (.inr h0)];refine yea [] [] [(301,0),(302,0)] ?_;simp only[seeX,usV,cntV,ybhd,yjy,allQ,live,yc,yba,go_sem,zA,↓reduceIte,reduceCtorEq];refine⟨ycic ⟨ysb ⟨yhz fun q hq=>by rw[gmR _ _ _ _ hq],yhz fun q hq=>by rw[gmR _ _ _ _ hq],Sim.refl _,Sim.refl _,Sim.refl _,Sim.refl _,Sim.refl _,Sim.refl _,trivial⟩,Sim.refl _,trivial⟩,fun q hq=>?_,fun q hq=>?_⟩
      .rw[gmR _ _ _ _ hq];exact Sim.refl _
      .rw[gmR _ _ _ _ hq];exact⟨rfl,rfl,rfl,rfl,rfl⟩
     .subst hO2;simp only[seeX,usV,cntV,yco,yfe,allQ,live,go_sem,zA,↓reduceIte]
    .have hen24:en i<2^24:=by show ybk p g (st i).1<_;omega
     have henn:en i<2^net.length:=zT eni (zQ (by omega) hnl)
     have hF:=ybcd hd (.fn 131 [] [.rf [.sl 1 (i+1) fun j=>[ybm (st j).1]],.rf [.sl 5 (i+1) fun j=>cntV (st j).2]]) (.i .u32 (2^g.ids.length-1:Nat)) (yfa p g) hw hen24 henn h0 hi';obtain⟨hch0,hchs⟩:=hd.sub (en i) (ws.getD i 0) h0 hen24;have hP:=hd.permits (en i) (ws.getD i 0) hen24 henn h0 (hw i);have hch24:ch i<2^24:=ycvt hchs hen24;have hSt:=ybyl p h.hg h.hp cin (s:=ch i) (by omega) hchs
     obtain⟨d,hdd⟩:∃d,ydk p g (st i).1 (ch i)=d:=⟨_,rfl⟩;rw[hdd]at hSt;have hcd:ygr p g d=true:=by rw[<-hdd];exact yoa h.hg h.hp h.hf hci (ch i)
     simp only[yfa,usV,cntV]at hF hP;refine hF.use ?_;simp only[ybh,ybes,ybus,go_sem,zA,zB,zC,zJ,↓reduceIte,reduceCtorEq];refine hP.use ?_;simp only[ybh,ybox,go_sem,zA,zB,zC,zJ,↓reduceIte,reduceCtorEq];refine hSt.useS ?_ ?_
     .exact⟨yri _ _,Sim.refl _,Sim.refl _,trivial⟩
     obtain⟨dr1,dr2⟩:=yns h.hg h.hp hcd;have dcin:=yml h.hg h.hp hcd;have hE2:=ypu p h.hg h.hp dcin;have hen2:=ybxd p g d;obtain⟨e2,he2⟩:∃e,ybk p g d=e:=⟨_,rfl⟩;rw[he2]at hE2 hen2
     have ha2:IntKind.wrap .u32 (((zI (IntKind.bits .u32) (e2:Int))&&&zI (IntKind.bits .u32) ((2^g.ids.length-1:Nat):Int)).toNat:Int)=(e2:Int):=by
      have e:=u32_and (a:=e2) (b:=2^g.ids.length-1) (by omega) (by omega)
      rw[zY hen2]at e;exact e
     simp only[IntKind.bits]at ha2;simp only[ybh,ybsn,clash,go_sem,zA,zB,zC,zJ,↓reduceIte,reduceCtorEq];refine hE2.useS ?_ ?_
     .exact⟨yri _ _,Sim.refl _,trivial⟩
     have hA:=ycxw hko (by omega) hch0 hch24 (e:=e2) (by omega)
     obtain⟨K2,hK2⟩:∃K,addP (st i).2 (ch i) e2=K:=⟨_,rfl⟩;rw[hK2]at hA;simp only[cntV]at hA;simp only[ybh,ybvp,clash,ha2,go_sem,zA,zB,zJ,↓reduceIte,reduceCtorEq];refine hA.use ?_;simp only[ybwp,go_sem,zA,zB,↓reduceIte,reduceCtorEq]
     let cs:List Conf:=(zZ (i+1)).map fun j=>(st j).1
     let ks:List Cnt:=(zZ (i+1)).map fun j=>(st j).2
     have lc:cs.length=i+1:=by simp[cs]
     have lk:ks.length=i+1:=by simp[ks]
     have hS2:=ybxn cs ks (by omega) (by omega) dr1 dr2 e2 K2
     simp only[cntV]at hS2;refine yfr hS2 [(1,201),(2,202),(3,203),(4,204)] 400 [40,39,1,3,4,8,9,10,11,12,14] [4,8,10,301,302,12,205,206] ?_ ?_
     .simp only[seeO,lc,lk,cntV,to1,okN,yco,yfe,yej,ydu,allQ,live,yc,yba,go_sem,zA,zB,zJ,↓reduceIte,reduceCtorEq];refine⟨fun q hq=>?_,fun q hq=>?_⟩
      .simp only[cs,gmr _ _ _ _ hq];exact Sim.refl _
      .simp only[ks,gmr _ _ _ _ hq];exact⟨trivial,trivial,trivial,trivial,trivial⟩
     .rintro r o' ⟨rfl,rfl⟩;simp only[seeO,cntV,zAA,lc,lk,yrl,ynr,nuF,nu,difN,yej,ydu,Fam.ren,OB.ren,dim,yhk,yso,ymy,go_sem,zA,zJ,↓reduceIte];simp only[ybna,ybmw,ybtg,splice,go_sem,zA,zB,zC,zD,↓reduceIte,reduceCtorEq]
      have hst:st (i+1)=(d,K2):=by
       show stAt (ybp p g) res ws c K0 (i+1)=_;rw[yzb];show(ydk p g (st i).1 (ch i),addP (st i).2 (ch i) (ybk p g (ydk p g (st i).1 (ch i))))=_;rw[hdd,he2,hK2]
      have hen':en (i+1)=e2:=by
       show ybk p g (st (i+1)).1=_;rw[hst];exact he2
      refine⟨⟨by omega,by omega⟩,⟨by omega,by omega⟩,ikw (by omega) (by omega),?_⟩
      refine yu (i+1) ⟨by omega,fun j hj'=>?_,by rw[hst];exact hcd,by rw[hst,<-hK2];exact ycya hko hch24 hch0 (by omega),by rw[hst,<-hK2];show(st i).2.steps+1=i+1;omega⟩ (by omega) ?_
      .by_cases q:j=i
       .rw[q];exact h0
       .exact hj j (by omega)
      refine yea [(301,fun i=>(90,i)),(302,fun i=>(96,i))] [] [] ?_;simp only[hst,hen',allQ,live,yc,yba,go_sem,zA,zC,↓reduceIte,reduceCtorEq];have hcs:∀k,k<i+1+1->(cs++[d]).getD k []=(st k).1:=ybwu (fun j=>(st j).1) (i+1) d [] (by rw[hst])
      have hksx:∀k,k<i+1+1->(ks++[K2]).getD k default=(st k).2:=ybwu (fun j=>(st j).2) (i+1) K2 default (by rw[hst])
      refine⟨by omega,fun q hq=>?_,fun q hq=>?_,fun q hq=>?_,fun q hq=>?_⟩
      .by_cases q1:q<i
       .simp only[if_pos q1];simp only[go_sem,live,yc,go_sem,reduceCtorEq]
       .obtain rfl:q=i:=by omega
        simp only[if_neg q1,zAE,zW];simp only[ch,live,yc,go_sem,reduceCtorEq]
      .by_cases q1:q<i+1
       .simp only[if_pos q1];simp only[go_sem,live,yc,go_sem,reduceCtorEq]
       .obtain rfl:q=i+1:=by omega
        simp only[if_neg q1,zAE,zW];simp only[hen',live,yc,go_sem,reduceCtorEq]
      .rw[hcs q hq];exact Sim.refl _
      .rw[hksx q hq];exact⟨rfl,rfl,rfl,rfl,rfl⟩
   .obtain rfl:i=ws.length:=by omega
    simp only[ybev,ybem,go_sem,zA,zB,zC,↓reduceIte,reduceCtorEq];refine⟨by decide,?_⟩
    simp only[yhj,go_sem];refine⟨.tp [.ag (usV (mapR ws.length ch)::usV (mapR (ws.length+1) en)::ybm (st ws.length).1::cntV (st ws.length).2),.i .i64 0],O2,?_,?_,⟨_,_,_,_,rfl⟩,rfl⟩
    .subst hO2;rw[fin (.inl rfl)];refine yea [] [] [(301,0),(302,0)] ?_;simp only[seeX,usV,cntV,ybhd,yjy,allQ,live,yc,yba,go_sem,zA,↓reduceIte,reduceCtorEq];refine⟨ycic ⟨ysb ⟨yhz fun q hq=>by rw[gmR _ _ _ _ hq],yhz fun q hq=>by rw[gmR _ _ _ _ hq],Sim.refl _,Sim.refl _,Sim.refl _,Sim.refl _,Sim.refl _,Sim.refl _,trivial⟩,Sim.refl _,trivial⟩,fun q hq=>?_,fun q hq=>?_⟩
     .rw[gmR _ _ _ _ hq];exact Sim.refl _
     .rw[gmR _ _ _ _ hq];exact⟨rfl,rfl,rfl,rfl,rfl⟩
    .subst hO2;simp only[seeX,usV,cntV,yco,yfe,allQ,live,go_sem,zA,↓reduceIte]
end
end Sh
end
section
namespace Sh
open Ev Go.RowKit
theorem Returns.exT{P:Program}{g:FuncId}{args:List SV}{r:SV}(h:Returns P g args r):Returns P g args (.ex TT r):=fun G m us h1 h2 h3=>by
 obtain⟨v,m',x,a,b,c,d,e⟩:=h G m us h1 h2 h3;exact⟨v,m',.ex TT r,a,b,c,rfl,.ex trivial (fun _ _ _ _ _=>trivial) (d▸e)⟩
section
variable {Q1 Q2:(Nat->Option ABlk)->Value->Prop}{p:ProgT}{g:Gr}
theorem ybwj(h:Checked Q1 Q2 p g){kind:Int}(hk:1<=kind/\kind<=4){c:Conf}(hc:ygr p g c=true){len:Nat}(hl:len<=4096):Returns zG 129 [.ag (ygd Q1 Q2 p.raw),grV g,.i .i64 kind,ybm c,.i .i64 len] (.i .i64 0):=by
 refine Returns.of (ycty _ _ ?_);have hC:=ybrp h c;rw[if_pos hc]at hC;have hD:=ybju kind;rw[decide_eq_true hk.1,decide_eq_true hk.2]at hD;have f1:decide ((len:Int)>4096)=false:=by simp;omega
 simp only[ygd,grV]at hC;simp only[c129,ycsw,yckr,ygd,grV,go_sem,zA,zB,zD,↓reduceIte,reduceCtorEq];refine hC.use ?_;simp only[ybh,yckq,yclv,zAR,go_sem,zA,zB,↓reduceIte,reduceCtorEq];refine hD.use ?_;simp only[ycph,ycjt,f1,yba,Bool.and_self,go_sem,zA,zB,↓reduceIte,reduceCtorEq]
theorem ybll(h:Checked Q1 Q2 p g):Returns zG 93 [.ag (yna p.raw),grV g] (yfa p g):=by
 have hp':=h.hp;unfold ProgT.ok at hp';simp only[zF,decide_eq_true_eq]at hp';exact(ybai p.raw h.hg hp'.1.1.2 hp'.1.1.1.2).exT
theorem yyz(h:Checked Q1 Q2 p g)(kind:Int):Cm zG 130 [(201,0),(203,0)] ymw [.ag (ygd Q1 Q2 p.raw),grV g,.i .i64 kind,seeC] fun r o=>r = .ag (ydw p g (g.ports.map netP) kind)/\o=ymw:=by
 refine ybxu [(201,0),(203,0)] [] _ _ _ ?_;have hM:=ybll h;have hN:=ybin h.hg;have hA:=ybsi h.hg;simp only[grV]at hM hN hA;simp only[c130,ycoz,yclc,ygd,grV,seeC,ymw,clash,go_sem,zA,zB,zD,↓reduceIte,reduceCtorEq];refine hM.useS ?_ ?_
 .exact⟨ysb ⟨Sim.refl _,yri _ _,yri _ _,trivial⟩,Sim.refl _,trivial⟩
 simp only[usV,yfa]at hN ⊢;simp only[ybh,clash,go_sem,zA,zB,zC,↓reduceIte,reduceCtorEq];refine hN.use ?_;simp only[go_sem,zB,zC,↓reduceIte];refine⟨by decide,hA.use ?_⟩
 simp only[yhj,go_sem,zA,zB,↓reduceIte];refine⟨by decide,by decide,.ag (ydw p g (g.ports.map netP) kind),ymw,?_,?_,rfl,rfl⟩
 .refine yea [] [] [] ?_;simp only[ydw,yfa,usV,seeC,ymw,allQ,live,yc,go_sem,zA,↓reduceIte,reduceCtorEq]
 .simp only[ydw,yfa,usV,seeC,ymw,yco,yfe,allQ,live,go_sem,zA,↓reduceIte]
theorem ybpz(h:Checked Q1 Q2 p g){kind:Int}{net:List Nat}(hnl:g.ids.length<=net.length){res:Nat->Nat->Nat}(hd:DaemonOk kind net res){c:Conf}(hc:ygr p g c=true){ws:List Nat}(hw:∀k,ws.getD k 0<2^32)(hwl:ws.length<=4000) :
 Cm zG 133 [(201,0),(203,0)] ymw [.ag (ydw p g net kind),ybm c,usV ws]
  fun r o=>(∃l1 l2 c' k',r = .tp [.ag (usV l1::usV l2::ybm c'::cntV k'),.i .i64 0])/\o=seeX ((ybp p g).runs res ws c |>.map (·.1)) ((ybp p g).runs res ws c |>.map (·.2)):=by
 refine ycbn [(201,0),(203,0)] [168] _ _ _ ?_;have hX:=yblm h hnl hd hc hw hwl
 generalize ((ybp p g).runs res ws c).map (·.1)=CS at hX ⊢
 generalize ((ybp p g).runs res ws c).map (·.2)=KS at hX ⊢
 simp only[c133,ycqz,ycsd,ymw,ydw,yfa,usV,seeC,go_sem,zA,zB,zD,↓reduceIte,reduceCtorEq];refine yfr hX [(201,201),(203,203),(205,3),(206,5)] 0 [6,7] [6] ?_ ?_
 .simp only[ymw,ybnd,ydw,yfa,usV,seeC,List.cons_append,List.nil_append,to1,okN,yco,yfe,yej,ydu,allQ,live,yc,go_sem,zA,zB,zC,zJ,↓reduceIte,reduceCtorEq]
 .rintro r o' ⟨⟨l1,l2,c',k',rfl⟩,rfl⟩;simp only[seeX,usV,cntV,yrl,ynr,nuF,nu,difN,yej,ydu,Fam.ren,OB.ren,dim,yhk,yub,yvo,yso,ymy,go_sem,zA,zB,zJ,↓reduceIte,reduceCtorEq];simp only[yhj,go_sem];refine⟨.tp [.ag (usV l1::usV l2::ybm c'::cntV k'),.i .i64 0],seeX CS KS,?_,?_,⟨l1,l2,c',k',rfl⟩,rfl⟩
  .refine yea [] [] [] ?_;simp only[seeX,usV,cntV,allQ,live,yc,go_sem,zA,↓reduceIte,reduceCtorEq]
  .simp only[seeX,usV,cntV,yco,yfe,allQ,live,go_sem,zA,↓reduceIte]
def yeh(l:List Conf):SV:=.sl 1 l.length (fun i=>[ybm (l.getD i [])])
def yhx(l:List Cnt):SV:=.sl 5 l.length (fun i=>cntV (l.getD i default))
theorem ybqa(h:Checked Q1 Q2 p g){kind:Int}(hk:1<=kind/\kind<=4){res:Nat->Nat->Nat}(hd:DaemonOk kind (g.ports.map netP) res){c:Conf}(hc:ygr p g c=true){ws:List Nat}(hw:∀k,ws.getD k 0<2^32)(hwl:ws.length<=4000) :
 Returns zG 78 [.ag (ygd Q1 Q2 p.raw),grV g,.i .i64 kind,ybm c,usV ws] (.tp [yeh (((ybp p g).runs res ws c).map (·.1)),yhx (((ybp p g).runs res ws c).map (·.2)),.i .i64 0]):=by
 refine Returns.of (ycwd [130,133] _ _ ?_);have hC:=ybwj h hk hc (len:=ws.length) (by omega)
 have hN:=yyz h kind;have hX:=ybpz h (by have:=h.hg.2.2.1;rw[zU];omega) hd hc hw hwl
 generalize ((ybp p g).runs res ws c).map (·.1)=CS at hX ⊢
 generalize ((ybp p g).runs res ws c).map (·.2)=KS at hX ⊢
 simp only[ygd,grV]at hC;simp only[c78,ydhg,ydha,ygd,grV,usV,go_sem,zA,zB,zD,zJ,↓reduceIte,reduceCtorEq];refine hC.use ?_;simp only[ybh,ydaz,ydat,ydbs,ydhz,zAR,go_sem,zA,zB,zD,↓reduceIte,reduceCtorEq];refine yfr hN [(201,14),(203,15)] 0 [3,4,14,15] [] ?_ ?_
 .simp only[ymw,seeC,ygd,grV,to1,okN,yco,yfe,yej,ydu,allQ,live,yc,go_sem,zA,zB,↓reduceIte,reduceCtorEq]
 rintro r o' ⟨rfl,rfl⟩;simp only[ymw,ydw,yfa,usV,seeC,yrl,ynr,nuF,nu,difN,yej,ydu,Fam.ren,OB.ren,dim,yhk,ybxe,yub,ybqu,yvo,ybnz,ybqj,go_sem,zA,zB,zD,zJ,↓reduceIte,reduceCtorEq];simp only[ydgf,go_sem,zA,zB,zJ,↓reduceIte,reduceCtorEq];simp only[ydw,yfa,usV,seeC]at hX;refine yfr hX [(201,14),(203,15)] 0 [14,15] [] ?_ ?_
 .simp only[ymw,to1,okN,yco,yfe,yej,ydu,allQ,live,yc,go_sem,zA,zB,↓reduceIte,reduceCtorEq]
 rintro r o' ⟨⟨l1,l2,c',k',rfl⟩,rfl⟩;simp only[seeX,cntV,yrl,ynr,nuF,nu,difN,yej,ydu,Fam.ren,OB.ren,dim,yhk,yub,yvo,yso,ymy,go_sem,zA,zB,zD,zJ,↓reduceIte,reduceCtorEq];simp only[ydaq,yceh,clash,zAR,yeh,yhx,go_sem,zA,zB,↓reduceIte,reduceCtorEq];exact Sim.refl _
end
end Sh
end
section
def ycu(v m:Int):Int:=if m<1 then 0 else v%m
def atP(l:List Int)(i:Nat):Int:=l.getD i 0
theorem yhw{v m:Int}(h:1<=m):0<=ycu v m/\ycu v m<m:=by
 unfold ycu;rw[if_neg (by omega)]
 exact⟨zAX _ (by omega),zAN _ (by omega)⟩
namespace Sh
open Ev Go.RowKit
theorem ybhb{v m:Int}(h:1<=m):(if v.tmod m<0 then v.tmod m+m else v.tmod m)=v%m:=by
 have h1:=Int.emod_add_mul_ediv v m;have h2:=zAX v (show m≠0 by omega)
 have h3:=zAN v (show 0<m by omega)
 have h4:=Int.tmod_eq_emod (a:=v) (b:=m);have h5:(m.natAbs:Int)=m:=by omega
 rw[h4]
 by_cases q:0<=v\/m ∣ v
 .simp only[if_pos q,zH,Int.sub_zero];rw[if_neg (by omega)]
 .simp only[if_neg q,h5];rw[if_pos (by omega)]
  omega
theorem yhl(v m:Int)(hm:m<=4611686018427387904)(hv:inK .i64 v):Returns zG 39 [.i .i64 v,.i .i64 m] (.i .i64 (ycu v m)):=by
 refine Returns.of (ydby _ _ ?_);simp only[c39,ydax,ydcf,ydia,yddq,ydht,yddi,ydee,yba,go_sem,zA,zB,↓reduceIte,reduceCtorEq];unfold ycu;refine⟨fun h=>by rw[if_pos h],fun h=>⟨by omega,fun h2=>?_,fun h2=>?_⟩⟩
 .have h3:=ybhb (v:=v) (show 1<=m by omega)
  rw[if_pos h2]at h3;rw[if_neg h,h3];have h4:=zAX v (show m≠0 by omega)
  have h5:=zAN v (show 0<m by omega)
  exact⟨ikw (by omega) (by omega),rfl⟩
 .have h3:=ybhb (v:=v) (show 1<=m by omega)
  rw[if_neg h2]at h3;rw[if_neg h,h3]
theorem at_ret(l:List Int)(i:Nat):Returns zG 77 [yw l,.i .i64 i] (.i .i64 (atP l i)):=by
 refine Returns.of (ydfl _ _ ?_);simp only[c77,yder,ydct,ydgu,ydew,yw,yba,go_sem,zA,zB,↓reduceIte,reduceCtorEq];exact⟨fun h=>⟨by omega,rfl⟩,fun h=>by unfold atP;rw[zK,zAU (by omega)];rfl⟩
theorem wrap32(z:Int):0<=IntKind.wrap .u32 z/\IntKind.wrap .u32 z<2^32:=by
 unfold IntKind.wrap;simp only[IntKind.signed,IntKind.bits];exact⟨zAX _ (by decide),zAN _ (by decide)⟩
theorem ybjo{α:Type}(l:List α)(x d:α)(i:Nat):(l++[x]).getD i d=if i<l.length then l.getD i d else if i=l.length then x else d:=by
 by_cases h:i<l.length
 .simp[zK,zBG h,h]
 .by_cases e:i=l.length
  .subst e;simp[zK]
  .rw[if_neg h,if_neg e,zK,zAU (by simp;omega)]
   rfl
theorem ybjf(l:List Nat)(hb:∀k,l.getD k 0<2^32)(n:Nat)(hn:n<=1000):Ct zG 26 [usV l,.i .i64 n] fun r=>∃ws:List Nat,ws.length=n/\(∀k,ws.getD k 0<2^32)/\Sim r (usV ws):=by
 refine ydgb _ _ ?_;simp only[c26,ydbn,yddg,ydbb,usV,go_sem,↓reduceIte];refine ybn (σ:=List Nat) (fun ws=>⟨[(6,.i .i64 ws.length),(1,.i .i64 n),(0,usV l),(5,.os (100,0) 0 ws.length true)],[(100,.one (some ⟨40,false,1,ws.length,fun k=>[.i .u32 (ws.getD k 0:Nat)]⟩))]⟩) (fun ws=>ws.length<=n/\∀k,ws.getD k 0<2^32) (fun ws=>n-ws.length) [] ⟨zL _,fun k=>by simp⟩ ?_ ?_
 .refine yh [] [100] [] ?_;simp only[usV,allQ,live,yc,zH,go_sem,zA,↓reduceIte,reduceCtorEq];exact⟨(100,0),rfl,rfl,rfl⟩
 .rintro ws ⟨h1,h2⟩;simp only[ydhk,ydgp,usV,go_sem,zA,zB,↓reduceIte,reduceCtorEq];refine⟨fun hlt=>⟨fun h0=>?_,fun h0=>?_⟩,fun hlt=>?_⟩
  .simp only[ycyx,ydfh,splice,go_sem,zA,zB,zC,zD,↓reduceIte,reduceCtorEq];refine⟨⟨by omega,by omega⟩,ikw (by omega) (by omega),?_⟩
   refine yu (ws++[4294967295]) ⟨by simp;omega,fun k=>?_⟩ (by simp;omega) ?_
   .rw[ybjo];split
    .exact h2 k
    .split<;>decide
   refine yh [(100,fun i=>(19,i))] [] [] ?_;simp only[zAA,allQ,live,yc,yba,go_sem,zA,↓reduceIte,reduceCtorEq];refine⟨by omega,fun i hi=>?_⟩
   rw[ybjo]
   by_cases q:i<ws.length
   .simp only[if_pos q];simp only[live,yc,go_sem,reduceCtorEq]
   .obtain rfl:i=ws.length:=by omega
    simp only[if_neg q,zAE,zW];simp only[live,yba,go_sem,↓reduceIte,reduceCtorEq];rfl
  .simp only[ydeh,ydhr,clash,go_sem,zA,zB,↓reduceIte,reduceCtorEq];have hl0:0<l.length:=by omega
   have t1:(ws.length:Int).tmod (l.length:Int)=((ws.length%l.length:Nat):Int):=(zBV _ _).symm;have t2:(ws.length:Int).tdiv (l.length:Int)=((ws.length/l.length:Nat):Int):=(Int.ofNat_tdiv _ _).symm;have t3:((ws.length/l.length:Nat):Int).tmod 24=((ws.length/l.length%24:Nat):Int):=(zBV _ 24).symm;have hlt1:=zCC ws.length hl0;have hle1:=zBK ws.length l.length;obtain⟨D,hD⟩:∃D,ws.length/l.length=D:=⟨_,rfl⟩
   rw[hD]at t2 t3 hle1;obtain⟨K,hK⟩:∃K,D%24=K:=⟨_,rfl⟩;have hK24:K<24:=by rw[<-hK];exact zCC _ (by decide)
   have t4:IntKind.wrap .u64 (K:Int)=K:=by unfold IntKind.wrap;simp[IntKind.bits,IntKind.signed];omega
   simp only[t1,t2,t3,hK,t4]
   generalize IntKind.wrap .u32 _=A
   refine⟨by omega,⟨by omega,by omega⟩,⟨by omega,ikw (by omega) (by omega)⟩,by decide,?_⟩
   simp only[ycyx,ydfs,splice,go_sem,zA,zB,zC,zD,↓reduceIte,reduceCtorEq]
   generalize hZ:IntKind.wrap .u32 ((BitVec.toNat _:Nat):Int)=Z
   have hz:0<=Z/\Z<2^32:=by rw[<-hZ];exact wrap32 _
   obtain⟨z,rfl⟩:∃z:Nat,Z=z:=⟨Z.toNat,by omega⟩
   refine⟨⟨by omega,by show _<((32:Nat):Int);omega⟩,⟨by simp[IntKind.min,IntKind.signed];omega,by simp[IntKind.max,IntKind.bits,IntKind.signed];omega⟩,⟨by omega,by show _<((32:Nat):Int);omega⟩,⟨by omega,by omega⟩,ikw (by omega) (by omega),?_⟩
   refine yu (ws++[z]) ⟨by simp;omega,fun k=>?_⟩ (by simp;omega) ?_
   .rw[ybjo];split
    .exact h2 k
    .split<;>omega
   refine yh [(100,fun i=>(46,i))] [] [] ?_;simp only[zAA,allQ,live,yc,yba,go_sem,zA,↓reduceIte,reduceCtorEq];refine⟨by omega,fun i hi=>?_⟩
   rw[ybjo]
   by_cases q:i<ws.length
   .simp only[if_pos q];simp only[live,yc,go_sem,reduceCtorEq]
   .obtain rfl:i=ws.length:=by omega
    simp only[if_neg q,zAE,zW];simp only[live,yc,go_sem,↓reduceIte,reduceCtorEq]
  .simp only[ycib,go_sem,zA,zB,↓reduceIte,reduceCtorEq];exact⟨ws,by omega,h2,Sim.refl _⟩
end Sh
end
section
namespace Sh
open Ev Go.RowKit
section
variable {p:ProgT}{g:Gr}
end
end Sh
end
section
namespace Sh
open Ev Go.RowKit
def blV(l:List Bool):SV:=.sl 1 l.length (fun k=>[.b (l.getD k false)])
def ycdd(l:List Bool)(k:Nat):Bool:=(l.take k).any id
structure HeldOk(legit:List Bool)(ks:List Cnt)(rounds moves:Int)(ended:Bool):Prop where
 len:legit.length=ks.length
 pos:0<legit.length
 stays:∀i,i<legit.length->ycdd legit i=true->legit.getD i false=true
 rounds:∀i,i<legit.length->ycdd legit (i+1)=false->((ks.getD i default).begun:Int)<=rounds
 moves:∀i,i<legit.length->ycdd legit (i+1)=false->0<=moves->((ks.getD i default).moves:Int)<=moves
 ends:ycdd legit legit.length=true\/ended=false
theorem ycug{Q1 Q2:(Nat->Option ABlk)->Value->Prop}{p:ProgT}{g:Gr}{t:ByteArray}(hpr:Returns zG 37 [.a (.string t)] (.ag (ygd Q1 Q2 p.raw)))(h:Checked Q1 Q2 p g){kind:Int}(hk:1<=kind/\kind<=4){res:Nat->Nat->Nat}(hd:DaemonOk kind (g.ports.map netP) res){c:Conf}(hc:ygr p g c=true){ws:List Nat}(hw:∀k,ws.getD k 0<2^32)(hwl:ws.length<=4000) :
 Returns zG 22 [.a (.string t),grV g,.i .i64 kind,ybm c,usV ws] (.tp [yeh (((ybp p g).runs res ws c).map (·.1)),yhx (((ybp p g).runs res ws c).map (·.2)),.b true]):=by
 refine Returns.of (ydca _ _ ?_);have hX:=ybqa h hk hd hc hw hwl;obtain⟨R,hR⟩:∃R,(ybp p g).runs res ws c=R:=⟨_,rfl⟩;rw[hR]at hX ⊢;have hRl:0<R.length:=by rw[<-hR];simp[Sys.runs]
 obtain⟨m,hm⟩:∃m,R.length=m:=⟨_,rfl⟩;rw[hm]at hRl;have f1:((m:Int)==(m:Int))=true:=by simp
 have f2:decide ((m:Int)>0)=true:=by simp;omega
 simp only[ygd]at hpr hX;simp only[grV,usV,yeh,yhx,zU,hm]at hX;simp only[c22,ydcm,ydgk,grV,usV,clash,go_sem,zB,zD,↓reduceIte,reduceCtorEq];refine hpr.use ?_;simp only[ybh,clash,go_sem,zA,zB,↓reduceIte,reduceCtorEq];refine hX.use ?_;simp(maxSteps:=5000000) only [ydgh,clash,f1,f2,go_sem,zA,zB,↓reduceIte,reduceCtorEq];refine⟨by decide,?_⟩
 unfold yeh yhx;rw[zU,zU,hm];exact Sim.refl _
end Sh
end
section
namespace Sh
open Ev Go.RowKit
theorem ycbx{n nv:Nat}{c:Conf}(h:ConfIn n nv c):yccl c:=fun s hs x hx=>by
 have:=(h.row s hs).2 x hx;unfold InB at this;exact ygk (by omega)
end Sh
end
section
namespace Sh
open Go Ev
end Sh
end
section
namespace Sh
open Ev Go.RowKit
end Sh
end
section
structure Tgt(S:Sys)(V:Conf->Prop)(T:Conf->Nat->List Int):Prop where
 valid:∀c s,V c->s≠0->subB s (S.en c)->V (S.mv c s)
 stay:∀c s v,V c->v<S.n->s.testBit v=false->(S.mv c s).getD v []=c.getD v []
 move:∀c s v,V c->v<S.n->s.testBit v=true->subB s (S.en c)->(S.mv c s).getD v []=T c v
 en:∀c v,V c->v<S.n->((S.en c).testBit v=false↔c.getD v []=T c v)
theorem Tgt.rounds{S:Sys}{V:Conf->Prop}{T:Conf->Nat->List Int}(h:Tgt S V T){P:Nat->Nat->List Int->Prop}(hT:∀c v r,V c->v<S.n->(∀u,u<S.n->P r u (c.getD u []))->P (r+1) v (T c v))(hl:∀r v s,P (r+1) v s->P r v s):ByRounds S V P where
 valid:=h.valid
 stay:=h.stay
 move:=fun c s v r hv hn hb hs hall=>by rw[h.move c s v hv hn hb hs];exact hT c v r hv hn hall
 rest:=fun c v r hv hn hb hall=>by rw[(h.en c v hv hn).1 hb];exact hT c v r hv hn hall
 less:=hl
theorem Tgt.silent{S:Sys}{V:Conf->Prop}{T:Conf->Nat->List Int}(h:Tgt S V T){P:Nat->Nat->List Int->Prop}(hT:∀c v r,V c->v<S.n->(∀u,u<S.n->P r u (c.getD u []))->P (r+1) v (T c v)){c:Conf}(hv:V c)(h0:∀v,v<S.n->P 0 v (c.getD v []))(he:S.en c=0):∀r v,v<S.n->P r v (c.getD v [])
 |0,v,hn=>h0 v hn
 | r+1,v,hn=>by
   rw[(h.en c v hv hn).1 (by rw[he];simp)]
   exact hT c v r hv hn (Tgt.silent h hT hv h0 he r)
theorem Sys.run_last{S:Sys}{res:Nat->Nat->Nat}:∀(ws:List Nat) (c:Conf) (k:Cnt) (i:Nat),i+1<(S.run res ws c k).length->∀p,(S.run res ws c k)[i]?=some p->S.en p.1≠0
 |[],c,k,i,h,p,hp=>by simp[Sys.run]at h
 | w :: ws,c,k,i,h,p,hp=>by
   unfold Sys.run at h hp;split at h
   .simp at h
   .rename_i h0
    rw[if_neg h0]at hp;cases i with
    | zero =>
      simp only[zBI]at hp;cases hp
      simp only[zBR]at h;cases ws with
      |nil=>simp[Sys.run]at h
      | cons w' ws =>
        unfold Sys.run at h;split at h
        .simp at h
        .assumption
    |succ i=>exact Sys.run_last ws _ _ i (by simpa using h) p (by simpa using hp)
theorem Sys.runs_last{S:Sys}{res:Nat->Nat->Nat}{ws:List Nat}{c:Conf}{i:Nat}(h:i+1<(S.runs res ws c).length){p:Conf×Cnt}(hp:(S.runs res ws c)[i]?=some p):S.en p.1≠0:=by
 unfold Sys.runs at h hp;cases i with
 | zero =>
   simp only[zBI]at hp;cases hp
   cases ws with
   |nil=>simp[Sys.run]at h
   | cons w ws =>
     unfold Sys.run at h;split at h
     .simp at h
     .assumption
 |succ i=>exact Sys.run_last ws _ _ i (by simpa using h) p (by simpa using hp)
end
section
open Go.RowKit
end
section
def ygf(g:Gr):Nat:=(g.ports.map zAY).sum
def addL(back:Bool)(l:List (Int×Int))(x:Int×Int):List (Int×Int):=if back then x::l else l++[x]
theorem yee{back:Bool}{l:List (Int×Int)}{x y:Int×Int}:y∈addL back l x↔y=x\/y∈l:=by
 unfold addL;cases back<;>simp[or_comm]
def ycc(back:Bool)(g:Gr)(a b:Nat)(w:Int):Gr:=⟨g.ids,(g.ports.set a (addL back (g.ports.getD a []) (b,w))).set b (addL back (g.ports.getD b []) (a,w))⟩
theorem ydp(back:Bool)(g:Gr){a b:Nat}(w:Int)(ha:a<g.ports.length)(hb:b<g.ports.length)(v:Nat) :
 (ycc back g a b w).ports.getD v []=if v=b then addL back (g.ports.getD b []) (a,w)else if v=a then addL back (g.ports.getD a []) (b,w)else g.ports.getD v []:=by
 unfold ycc;simp only[zK]
 by_cases h1:v=b
 .subst h1;rw[if_pos rfl,zAP (by simpa using hb)]
  rfl
 .rw[if_neg h1,zAW (fun q=>h1 q.symm)]
  by_cases h2:v=a
  .subst h2;rw[if_pos rfl,zAP ha];rfl
  .rw[if_neg h2,zAW (fun q=>h2 q.symm)]
theorem ypo{back:Bool}{l:List (Int×Int)}{v n:Int}{x:Int×Int}(h:ycp l v n)(hx:ykn v n x)(hno:∀y∈l,y.1≠x.1):ycp (addL back l x) v n:=by
 refine⟨fun y hy=>?_,?_⟩
 .rcases yee.1 hy with rfl|hy
  .exact hx
  .exact h.1 y hy
 .have hn:x.1∉l.map (·.1):=fun hm=>by
   obtain⟨y,hy,e⟩:=List.mem_map.1 hm;exact hno y hy e
  unfold addL;cases back
  .simp only[Bool.false_eq_true,if_false,zBU,zBC,List.map_nil];rw[List.nodup_append];refine⟨h.2,by simp,fun p hp q hq=>?_⟩
   rw[List.mem_singleton]at hq;subst hq;intro e;exact hn (e▸hp)
  .simp only[if_true,zBC];exact List.nodup_cons.2 ⟨hn,h.2⟩
theorem ybaq{back:Bool}{g:Gr}(hg:ybg g){a b:Nat}{w:Int}(ha:a<g.ports.length)(hb:b<g.ports.length)(hab:a≠b)(hw:1<=w/\w<=15)(hno:∀y∈g.ports.getD a [],y.1≠(b:Int)):ybg (ycc back g a b w):=by
 obtain⟨h1,h2,h3,h4,h5,h6,h7⟩:=hg;have hlen:(ycc back g a b w).ports.length=g.ports.length:=by simp[ycc]
 have gd:∀(v:Nat) (hv:v<g.ports.length),g.ports.getD v []=g.ports[v]:=fun v hv=>by simp[zK,hv]
 have hno2:∀y∈g.ports.getD b [],y.1≠(a:Int):=fun y hy e=>by
  rw[gd b hb]at hy;have:=h7 ⟨b,hb⟩ y hy;rw[e,zO]at this;exact hno _ this rfl
 have at_:∀(v:Nat) (hv:v<g.ports.length),(ycc back g a b w).ports[v]'(by rw[hlen];exact hv)=if v=b then addL back (g.ports.getD b []) (a,w)else if v=a then addL back (g.ports.getD a []) (b,w)else g.ports.getD v []:=fun v hv=>by
  rw[<-ydp back g w ha hb v];simp[zK,hlen,hv]
 refine⟨by rw[hlen];exact h1,by rw[hlen];exact h2,by rw[hlen];exact h3,h4,h5,fun v=>?_,fun v l hl=>?_⟩
 .have hv:v.1<g.ports.length:=zBP v.isLt hlen;have hl':(((ycc back g a b w).ports.length:Nat):Int)=(g.ports.length:Int):=by rw[hlen]
  rw[hl'];show ycp ((ycc back g a b w).ports[v.1]) _ _;rw[at_ v.1 hv];split
  .rename_i e
   rw[e];refine ypo ?_ ⟨by simp only[];omega,by simp only[];omega,by simp only[];omega,hw.1,hw.2⟩ hno2
   rw[gd b hb];exact h6 ⟨b,hb⟩
  .split
   .rename_i e
    rw[e];refine ypo ?_ ⟨by simp only[];omega,by simp only[];omega,by simp only[];omega,hw.1,hw.2⟩ hno
    rw[gd a ha];exact h6 ⟨a,ha⟩
   .rw[gd v.1 hv];exact h6 ⟨v.1,hv⟩
 .have hv:v.1<g.ports.length:=zBP v.isLt hlen
  change l∈(ycc back g a b w).ports[v.1]at hl
  rw[at_ v.1 hv]at hl
  have old:∀u x,x∈g.ports.getD u []->x∈(ycc back g a b w).ports.getD u []:=fun u x hx=>by
   rw[ydp back g w ha hb u];split
   .rename_i e;subst e;exact yee.2 (.inr hx)
   .split
    .rename_i e;subst e;exact yee.2 (.inr hx)
    .exact hx
  have sym:∀(u:Nat) (hu:u<g.ports.length),l∈g.ports.getD u []->((u:Int),l.2)∈(ycc back g a b w).ports.getD l.1.toNat []:=fun u hu hx=>by
   rw[gd u hu]at hx;exact old _ _ (h7 ⟨u,hu⟩ l hx)
  split at hl
  .rename_i e
   rcases yee.1 hl with rfl|hl
   .rw[ydp back g w ha hb,e];simp only[zO];simp only[if_neg hab,if_true];exact yee.2 (.inl rfl)
   .rw[e];exact sym b hb hl
  .split at hl
   .rename_i e
    rcases yee.1 hl with rfl|hl
    .rw[ydp back g w ha hb,e];simp only[zO];simp only[if_true];exact yee.2 (.inl rfl)
    .rw[e];exact sym a ha hl
   .exact sym v.1 hv hl
end
section
def Tre(g:Gr)(m:Nat):Prop:=∀v,0<v->v<m->∃u,u<v/\adj g u v
theorem Tre.walk{g:Gr}{m:Nat}(h:Tre g m):∀v,v<m->∃k,Walk g 0 k v:=by
 intro v
 induction v using Nat.strongRecOn with
 | _ v ih =>
   intro hv
   by_cases h0:v=0
   .subst h0;exact⟨0,rfl⟩
   .obtain⟨u,hu,ha⟩:=h v (by omega) hv
    obtain⟨k,hk⟩:=ih u hu (by omega)
    exact⟨k+1,u,hk,ha⟩
theorem Tre.conn{g:Gr}(hg:ybg g)(h:Tre g g.ports.length):ygq g=true:=by
 unfold ygq;rw[(yid g).2 hg,Bool.true_and,ybcj hg (a:=0) (by have:=hg.1;omega)]
 exact h.walk
theorem yku{g:Gr}{u v:Nat}:adj g u v↔∃l,l∈g.ports.getD u []/\l.1=(v:Int):=by
 constructor
 .rintro⟨ls,h,l,hl,e⟩;exact⟨l,by simpa[zK,h]using hl,e⟩
 .rintro⟨l,hl,e⟩;cases h:g.ports[u]? with
  |none=>simp[zK,h]at hl
  |some ls=>exact⟨ls,h,l,by simpa[zK,h]using hl,e⟩
theorem ybdb{back:Bool}{g:Gr}{a b:Nat}{w:Int}(ha:a<g.ports.length)(hb:b<g.ports.length){u v:Nat}(h:adj g u v):adj (ycc back g a b w) u v:=by
 obtain⟨l,hl,e⟩:=yku.1 h;refine yku.2 ⟨l,?_,e⟩;rw[ydp back g w ha hb u];split
 .rename_i q;subst q;exact yee.2 (.inr hl)
 .split
  .rename_i q;subst q;exact yee.2 (.inr hl)
  .exact hl
theorem ybeg{back:Bool}{g:Gr}{a b:Nat}{w:Int}(ha:a<g.ports.length)(hb:b<g.ports.length)(hab:a≠b):adj (ycc back g a b w) a b:=by
 refine yku.2 ⟨((b:Int),w),?_,rfl⟩;rw[ydp back g w ha hb a,if_neg hab,if_pos rfl];exact yee.2 (.inl rfl)
theorem Tre.add{back:Bool}{g:Gr}{a b:Nat}{w:Int}(ha:a<g.ports.length)(hb:b<g.ports.length){m:Nat}(h:Tre g m):Tre (ycc back g a b w) m:=fun v h0 hv=>by
 obtain⟨u,hu,hadj⟩:=h v h0 hv;exact⟨u,hu,ybdb ha hb hadj⟩
def bare(ids:List Int):Gr:=⟨ids,zBW ids.length []⟩
theorem ybsx{ids:List Int}(h1:1<=ids.length)(h2:ids.length<=24)(h3:∀x∈ids,0<=x/\x<=255)(h4:ids.Nodup):ybg (bare ids):=by
 have e:∀v:Fin (bare ids).ports.length,(bare ids).ports[v]=[]:=fun v=>by
  have hv:v.1<ids.length:=by have:=v.isLt;simpa[bare]using this
  show(zBW ids.length ([]:List (Int×Int)))[v.1]'(by simpa using hv)=[]
  exact List.getElem_replicate ..
 refine⟨by simpa[bare]using h1,by simpa[bare]using h2,by simp[bare],h3,h4,fun v=>?_,fun v l hl=>?_⟩
 .rw[e v];exact⟨fun l hl=>(nomatch hl),List.nodup_nil⟩
 .rw[e v]at hl;cases hl
end
section
abbrev eNum(k:Int):Ex:=.leaf 1 k
abbrev ybpp:Ex:=.leaf 4 0
abbrev eVar(k:Int):Ex:=.leaf 5 k
abbrev eN:Ex:=.leaf 6 0
abbrev eQ(k:Int):Ex:=.leaf 12 k
theorem yrp{α:Type}(g:Gr)(v:Nat)(f:Int×Int->α)(h:Nat->α)(e:∀q,q<(g.ports.getD v []).length->h q=f ((g.ports.getD v []).getD q (0,0))):(zZ (g.ports.getD v []).length).map h=(g.ports.getD v []).map f:=by
 refine List.ext_getElem (by simp) fun i h1 h2=>?_
 have hi:i<(g.ports.getD v []).length:=by simpa using h1
 rw[zBS,List.getElem_range,zBS,e i hi];congr 1;rw[List.getD_eq_getElem?_getD,zN hi];rfl
def endP(c:Conf)(k:Nat)(l:Int×Int):Int:=(c.getD l.1.toNat []).getD k 0
theorem ymn(b:Bool):(ybs b != 0)=b:=by cases b<;>rfl
section
variable {nm nd np nt nl:ByteArray}{g:Gr}{c:Conf}{v:Nat}
theorem bT1{x:ByteArray}:ybi g v ⟨x,1,0,0,1,0⟩=(0,0+1*(g.ids.length:Int)+0*maxI g.ids):=by
 show(if (1:Int)=1 then _ else _)=_
 rw[if_pos rfl]
end
end
section
section
variable {g:Gr}{a v:Nat}
theorem ygp(hg:ybg g)(hc:ygq g=true)(ha:a<g.ports.length)(hv:v<g.ports.length):∃k:Nat,(yci g a).getD v 0=k/\Walk g a k v/\(∀j,j<k->¬Walk g a j v)/\k<g.ports.length:=by
 have h0:0<g.ports.length:=by omega
 have hall:(yci g a).all (fun x=>decide (0<=x))=true:=ybyy hg h0 ha ((zF _ _▸hc).2);have hl:=yqd hg ha;have hvl:v<(yci g a).length:=by rw[hl];exact hv
 have e:(yci g a).getD v 0=(yci g a)[v]:=by simp[zK,hvl]
 have hpos:0<=(yci g a)[v]:=by simpa using List.all_eq_true.1 hall _ (zM hvl)
 rcases(ygv hg ha).2 v _ (zN hvl)with⟨h,_⟩|⟨k,h1,h2,h3⟩
 .omega
 .exact⟨k,by rw[e,h1],h2,h3,ywn hg ha h2 h3⟩
theorem yctd{k:Nat}(hg:ybg g)(hc:ygq g=true)(ha:a<g.ports.length)(hv:v<g.ports.length)(h1:Walk g a k v)(h2:∀j,j<k->¬Walk g a j v):(yci g a).getD v 0=k:=by
 obtain⟨j,e,h3,h4,_⟩:=ygp hg hc ha hv;rcases Nat.lt_trichotomy j k with h|h|h
 .exact absurd h3 (h2 j h)
 .rw[e,h]
 .exact absurd h1 (h4 k h)
theorem ybss(hg:ybg g)(hc:ygq g=true)(ha:a<g.ports.length):(yci g a).getD a 0=0:=yctd hg hc ha ha (k:=0) rfl fun j hj=>by omega
theorem ybvr(hg:ybg g)(hc:ygq g=true)(ha:a<g.ports.length)(hv:v<g.ports.length):0<=(yci g a).getD v 0/\(yci g a).getD v 0<g.ports.length:=by
 obtain⟨k,e,_,_,h⟩:=ygp hg hc ha hv;omega
theorem ybxr(hg:ybg g)(hc:ygq g=true)(ha:a<g.ports.length)(hv:v<g.ports.length)(hne:v≠a):1<=(yci g a).getD v 0:=by
 obtain⟨k,e,h1,_,_⟩:=ygp hg hc ha hv;cases k with
 |zero=>exact absurd h1 hne
 |succ k=>omega
theorem ybxc(hg:ybg g)(hc:ygq g=true)(ha:a<g.ports.length){u:Nat}(h:adj g u v):(yci g a).getD v 0<=(yci g a).getD u 0+1:=by
 obtain⟨hu,hv⟩:=hg.adj_lt h;obtain⟨k,e,h1,_,_⟩:=ygp hg hc ha hu;obtain⟨j,e',_,h3,_⟩:=ygp hg hc ha hv;rw[e,e'];rcases zCA (k+1) j with q|q
 .exact absurd ⟨u,h1,h⟩ (h3 (k+1) q)
 .omega
theorem yzk(hg:ybg g)(hc:ygq g=true)(ha:a<g.ports.length)(hv:v<g.ports.length)(hne:v≠a):∃u,adj g v u/\(yci g a).getD u 0=(yci g a).getD v 0-1:=by
 obtain⟨k,e,h1,h2,_⟩:=ygp hg hc ha hv;cases k with
 |zero=>exact absurd h1 hne
 | succ k =>
   obtain⟨u,h3,h4⟩:=h1;refine⟨u,hg.adj_symm h4,?_⟩;have h5:=ybxc hg hc ha h4;obtain⟨hu,_⟩:=hg.adj_lt h4;obtain⟨j,e',_,h6,_⟩:=ygp hg hc ha hu;rw[e,e']at h5;rcases zCA k j with q|q
   .exact absurd h3 (h6 k q)
   .rw[e,e'];omega
theorem ydc{l:Int×Int}(hg:ybg g)(hv:v<g.ports.length)(hl:l∈g.ports.getD v []):0<=l.1/\l.1.toNat<g.ports.length/\adj g v l.1.toNat/\1<=l.2/\l.2<=15:=by
 have e:g.ports[v]?=some (g.ports.getD v []):=by simp[zK,hv]
 have h:=hg.link e hl;exact⟨h.1,by omega,⟨_,e,l,hl,by omega⟩,h.2.2.2.1,h.2.2.2.2⟩
theorem yif{u:Nat}(h:adj g v u):∃l∈g.ports.getD v [],l.1.toNat=u:=by
 obtain⟨l,hl,e⟩:=yku.1 h;exact⟨l,hl,by rw[e];simp⟩
end
section
variable {nm nd np nt nl:ByteArray}{g:Gr}
end
end
end Go.Proofs.YtiejahgklcjhkaaGreatDoor
