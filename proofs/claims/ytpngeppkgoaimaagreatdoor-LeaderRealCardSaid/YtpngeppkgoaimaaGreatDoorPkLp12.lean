/- Lemmas, joined: SgO SgP SgB GraphA GraphC SgD SgQ SgR SgS ScWo. -/
import Derived.Test.YtpngeppkgoaimaaGreatDoorPkLp11
import Derived.Test.YtpngeppkgoaimaaGreatDoorPkLp10
import Derived.Test.YtpngeppkgoaimaaGreatDoorPkLp8
set_option linter.unusedSimpArgs false
set_option linter.unusedVariables false
namespace Go.Proofs.YtpngeppkgoaimaaGreatDoor
namespace Sh
open Go Ev
set_option maxRecDepth 8000

def yeg(p:ProgR)(g:Gr):List SV:=[.a (.string p.name),ydf p.vars,ycq p.rules,.rf (yfu p g),yjh g.ids.length p.vars (ybf g)]
theorem yqk(p:ProgR){g:Gr}(hg:yba g)(hp:p.vars.all VarR.ok=true)(hl:p.vars.length<=6):Returns Tryz.prog 64 [.ag (ymx p),grV g] (.rf (yeg p g)):=by
 refine Returns.of (ydvh _ _ ?_);have hS:=ybdx p hg;have hT:=ybdv p hg hp hl;simp only[ymx,grV]at hS hT;simp only[c64,ydlk,ydht,ymx,grV,go_sem,Nat.reduceEqDiff,Nat.reduceAdd,Nat.reduceLT,↓reduceIte,reduceCtorEq];refine hS.use ?_;simp only[thenO,go_sem,Nat.reduceEqDiff,Nat.reduceAdd,Nat.reduceLeDiff,Nat.reduceLT,↓reduceIte,reduceCtorEq];refine hT.use ?_;simp only[yjh,yeg,go_sem,Nat.reduceEqDiff,Nat.reduceAdd,Nat.reduceLeDiff,↓reduceIte]
 refine⟨by decide,by decide,Sim.refl _⟩
theorem ybrj(p:ProgT){g:Gr}(hg:yba g)(hp:p.ok=true){c:Conf}(hc:ConfIn g.ports.length p.vars.length c){v:Nat}(hv:v<g.ports.length){r:Nat}(hr:r<p.rules.length) :
  Returns Tryz.prog 144 [.rf (yfu p.raw g),ybg c,.i .i64 v,.i .i64 r] (.b (yji g c v (p.rules.getD r default))):=by
 refine Returns.of (ydbc _ _ ?_);obtain⟨R,hR⟩:∃ R,p.rules.getD r default=R:=⟨_,rfl⟩
 have hok:R.ok p.vars.length=true:=by
  unfold ProgT.ok at hp;simp only[Bool.and_eq_true]at hp;rw[<- hR,getD_at hr];exact List.all_eq_true.1 hp.2 _ (List.getElem_mem _)
 unfold RuleT.ok at hok;simp only[Bool.and_eq_true,decide_eq_true_eq]at hok;have hV:=ybec p.raw hg hc hv R.guard hok.1.1.1 hok.1.1.2
 have hraw:p.raw.rules.getD r default=R.raw:=by
  rw[<- hR];simp[ProgT.raw,List.getD,hr]
 have hlen:p.raw.rules.length=p.rules.length:=by simp[ProgT.raw]
 simp only[yfu,ycq,hlen]at hV;rw[hR];simp only[c144,ycrc,ycih,yfu,ycq,hraw,hlen,go_sem,Nat.reduceEqDiff,Nat.reduceAdd,Nat.reduceLeDiff,↓reduceIte,reduceCtorEq];refine⟨by omega,hV.use ?_⟩
 simp only[thenO,sim_b,yji,go_sem,Nat.reduceEqDiff,Nat.reduceAdd,↓reduceIte,reduceCtorEq]
theorem ydjr{p:ProgT}{g:Gr}{c:Conf}{v k:Nat}(hk:k<p.rules.length)(hn:(p.rules.take k).findIdx? (yji g c v)=none)(h:yji g c v (p.rules.getD k default)=true):ygf p g c v=k:=by
 unfold ygf
 have:p.rules.findIdx? (yji g c v)=some k:=by
  rw[List.findIdx?_eq_some_iff_getElem];refine⟨hk,by rwa [getD_at hk]at h,fun j hj=>?_⟩
  rw[List.findIdx?_eq_none_iff]at hn;have:=hn p.rules[j] (List.mem_take_iff_getElem.2 ⟨j,by omega,rfl⟩)
  simpa using this
 rw[this]
theorem ybph{p:ProgT}{g:Gr}{c:Conf}{v:Nat}(hn:(p.rules.take p.rules.length).findIdx? (yji g c v)=none):ygf p g c v = -1:=by
 unfold ygf;rw[List.take_length]at hn;rw[hn]
theorem ycdj(p:ProgT)(g:Gr)(c:Conf)(v:Nat):-1<=ygf p g c v/\ygf p g c v<p.rules.length:=by
 unfold ygf;split
 ·rename_i i hi
  obtain⟨h,_⟩:=List.findIdx?_eq_some_iff_getElem.1 hi;omega
 ·omega
theorem ybkd(p:ProgT){g:Gr}(hg:yba g)(hp:p.ok=true){c:Conf}(hc:ConfIn g.ports.length p.vars.length c){v:Nat}(hv:v<g.ports.length) :
  Returns Tryz.prog 107 [.rf (yeg p.raw g),ybg c,.i .i64 v] (.i .i64 (ygf p g c v)):=by
 refine Returns.of (ydfp _ _ ?_);have hlen:p.raw.rules.length=p.rules.length:=by simp[ProgT.raw]
 have h12:p.rules.length<=12:=by
  unfold ProgT.ok at hp;simp only[Bool.and_eq_true,decide_eq_true_eq]at hp;exact hp.1.2
 simp only[c107,ycju,ycti,yeg,ycq,hlen,go_sem,Nat.reduceEqDiff,Nat.reduceAdd,Nat.reduceLeDiff,↓reduceIte,reduceCtorEq];refine ybd (σ:=Nat) (fun k=>⟨[(14,.i .i64 k),(13,.i .i64 p.rules.length),(0,.rf (yeg p.raw g)),(1,ybg c),(2,.i .i64 v)],[]⟩) (fun k=>k<=p.rules.length/\(p.rules.take k).findIdx? (yji g c v)=none) (fun k=>p.rules.length - k) 0 ⟨Nat.zero_le _,by simp⟩ ?_ ?_
 ·refine yh [] [] [] ?_;simp only[yeg,ycq,hlen,allQ,live,yg,Int.natCast_zero,go_sem,Nat.reduceEqDiff,↓reduceIte,reduceCtorEq]
 ·intro k ⟨hk,hno⟩;simp only[ycqq,ycjf,ycvi,ycvu,ycms,ycuq,yeg,ybb,go_sem,Nat.reduceEqDiff,Nat.reduceAdd,Nat.reduceLeDiff,↓reduceIte,reduceCtorEq];refine⟨fun hlt=>?_,fun hlt=>?_⟩
  ·have hk':k<p.rules.length:=by omega
   refine(ybrj p hg hp hc hv hk').use ?_;simp only[thenO,ybb,go_sem,Nat.reduceEqDiff,Nat.reduceAdd,↓reduceIte,reduceCtorEq];refine⟨fun h=>by rw[ydjr hk' hno h],fun h=>⟨ikw (by omega) (by omega),?_⟩⟩
   refine yj (k+1) ⟨by omega,?_⟩ (by omega) ?_
   ·rw[List.take_succ_eq_append_getElem hk',List.findIdx?_append,hno];rw[getD_at hk']at h;simp[h]
   ·refine yh [] [] [] ?_;simp only[allQ,live,yg,ybb,go_sem,Nat.reduceEqDiff,↓reduceIte,reduceCtorEq];simp
  ·obtain rfl:k=p.rules.length:=by omega
   rw[ybph hno]
theorem ycak(n:Nat)(hn:n<=32)(h:FuncId)(cp:List SV)(f:Nat->Bool)(hcp4:cp.any (owned 4)=false)(hf:∀ v,v<n->Returns Tryz.prog h (.i .i64 v :: cp) (.b (f v))):Returns Tryz.prog 105 [.i .i64 n,.fn h [] cp] (.i .u32 (yfh f n)):=by
 refine Returns.of (ydde _ _ ?_);have hcp:=yli hcp4;simp only[c105,ycso,ycrp,ycru,go_sem,Nat.reduceAdd,↓reduceIte,reduceCtorEq];refine ybd (σ:=Nat) (fun k=>⟨[(8,.i .i64 k),(7,.i .i64 n),(1,.fn h [] cp),(5,.i .u32 (yfh f k))],[]⟩) (fun k=>k<=n) (fun k=>n - k) 0 (Nat.zero_le _) ?_ ?_
 ·refine yh [] [] [] ?_;simp only[yfi _ hcp4,yfc _ hcp4,yfh,allQ,live,yg,Int.natCast_zero,go_sem,Nat.reduceEqDiff,↓reduceIte,reduceCtorEq]
 ·intro k hk;simp only[ycug,ycpr,ycvz,ycmd,ycvr,ycnm,ybb,hcp,List.any_cons,go_sem,Nat.reduceEqDiff,Nat.reduceAdd,↓reduceIte,reduceCtorEq];refine⟨fun hlt=>(hf k (by omega)).use ?_,fun hlt=>?_⟩
  ·have hk':k<n:=by omega
   have hb1:yfh f k<2 ^ 32:=Nat.lt_of_lt_of_le (yru f k) (Nat.pow_le_pow_right (by omega) (by omega))
   have hb2:2 ^ k<2 ^ 32:=Nat.pow_lt_pow_right (by omega) (by omega)
   simp only[thenO,IntKind.bits,go_sem,Nat.reduceEqDiff,Nat.reduceAdd,↓reduceIte,reduceCtorEq];refine⟨fun h1=>⟨by omega,ikw (by omega) (by omega),?_⟩,fun h1=>⟨ikw (by omega) (by omega),?_⟩⟩
   ·refine yj (k+1) (by omega) (by omega) ?_
    refine yh [] [] [] ?_;have e1:=ymn (v:=k) (by omega)
    have e2:=u32_or hb1 hb2;rw[Int.toNat_natCast]at e1;simp only[yfi _ hcp4,yfc _ hcp4,e1,allQ,live,yg,ybb,go_sem,Nat.reduceEqDiff,↓reduceIte,reduceCtorEq];refine⟨by omega,?_⟩
    rw[show yfh f (k+1)=yfh f k ||| 2 ^ k by show(if f k then _ else _)=_;rw[if_pos h1]]
    exact e2
   ·refine yj (k+1) (by omega) (by omega) ?_
    refine yh [] [] [] ?_;simp only[yfi _ hcp4,yfc _ hcp4,allQ,live,yg,ybb,go_sem,Nat.reduceEqDiff,↓reduceIte,reduceCtorEq];rw[show yfh f (k+1)=yfh f k by show(if f k then _ else _)=_;rw[if_neg (by rw[h1];simp)]]
    simp
  ·obtain rfl:k=n:=by omega
   rfl
theorem ybcm(p:ProgT){g:Gr}(hg:yba g)(hp:p.ok=true){c:Conf}(hc:ConfIn g.ports.length p.vars.length c){v:Nat}(hv:v<g.ports.length) :
  Returns Tryz.prog 106 [.i .i64 v,.rf [.rf (yeg p.raw g)],.rf [ybg c]] (.b (decide (ygf p g c v >= 0))):=by
 refine Returns.of (yddt _ _ ?_);have hR:=ybkd p hg hp hc hv;simp only[c106,ycjz,ycvs,go_sem,Nat.reduceEqDiff,Nat.reduceAdd,↓reduceIte,reduceCtorEq];refine hR.use ?_;simp only[thenO,sim_b,go_sem,Nat.reduceEqDiff,Nat.reduceAdd,↓reduceIte,reduceCtorEq]
theorem ykd(p:ProgT){g:Gr}(hg:yba g)(hp:p.ok=true){c:Conf}(hc:ConfIn g.ports.length p.vars.length c) :
  Returns Tryz.prog 65 [.rf (yeg p.raw g),ybg c] (.i .u32 (ybn p g c)):=by
 refine Returns.of (ydgk _ _ ?_);have hid:=hg.2.2.1;have h24:=hg.2.1;have hN:=ycak g.ids.length (by omega) 106 [.rf [.rf (yeg p.raw g)],.rf [ybg c]] (fun v=>decide (ygf p g c v >= 0)) rfl (fun v hv=>ybcm p hg hp hc (by omega))
 simp only[yeg]at hN;simp only[c65,ydkk,ydkg,yeg,yjh,go_sem,Nat.reduceEqDiff,Nat.reduceAdd,Nat.reduceLeDiff,Nat.reduceLT,↓reduceIte,reduceCtorEq];simp only[yjh]at hN;refine .inl (hN.use ?_);simp only[thenO,ybb,go_sem,Nat.reduceEqDiff,Nat.reduceAdd,↓reduceIte,reduceCtorEq];rfl
theorem yqp(p:ProgT)(g:Gr)(c:Conf)(v:Nat):∀ (sets:List (Int × Ex)) (s0:List Int),(ymd p g c v s0 sets).length=s0.length
 | [],_=>rfl
 | a :: sets,s0=>by
  show(ymd p g c v (s0.set _ _) sets).length=_;rw[yqp p g c v sets];simp
theorem yblo(p:ProgT)(g:Gr)(c:Conf)(v:Nat)(s0:List Int)(sets:List (Int × Ex))(k:Nat)(h:k<sets.length) :
  ymd p g c v s0 (sets.take (k+1))=(ymd p g c v s0 (sets.take k)).set (sets.getD k default).1.toNat (ydz (p.vars.getD (sets.getD k default).1.toNat default).kind (ybf g v (p.vars.getD (sets.getD k default).1.toNat default)) (ybm g c v (sets.getD k default).2 (-1))):=by
 unfold ymd;rw[List.take_succ_eq_append_getElem h,List.foldl_append,getD_at h];rfl
theorem ycge(p:ProgT){g:Gr}(hg:yba g)(hp:p.ok=true){c:Conf}(hc:ConfIn g.ports.length p.vars.length c){v:Nat}(hv:v<g.ports.length){r:Nat}(hr:r<p.rules.length) :
  Returns Tryz.prog 176 [.rf (yeg p.raw g),ybg c,.i .i64 v,.i .i64 r] (yu (yuz p g c v r)):=by
 refine Returns.of (ydcs _ _ ?_);obtain⟨R,hR⟩:∃ R,p.rules.getD r default=R:=⟨_,rfl⟩;have hp':=hp;unfold ProgT.ok at hp';simp only[Bool.and_eq_true,decide_eq_true_eq]at hp'
 have hok:R.ok p.vars.length=true:=by
  rw[<- hR,getD_at hr];exact List.all_eq_true.1 hp'.2 _ (List.getElem_mem _)
 unfold RuleT.ok at hok;simp only[Bool.and_eq_true,decide_eq_true_eq]at hok
 have hraw:p.raw.rules.getD r default=R.raw:=by
  rw[<- hR];simp[ProgT.raw,List.getD,hr]
 have hlen:p.raw.rules.length=p.rules.length:=by simp[ProgT.raw]
 have hsl:R.raw.sets.length=R.sets.length:=by simp[RuleT.raw]
 have hid:=hg.2.2.1;have hcl:=hc.len;have hrow:=hc.at_ hv;have hne:¬ (c.getD v []).length=0:=by omega
 simp only[c176,ycps,ycwz,ycnw,hne,yeg,ycq,yiq,hraw,hlen,hsl,ybg,yu,go_sem,Nat.reduceEqDiff,Nat.reduceAdd,Nat.reduceLeDiff,Nat.reduceLT,↓reduceIte,reduceCtorEq];obtain⟨nv,hnv⟩:∃ k,p.vars.length=k:=⟨_,rfl⟩;have hrl:=hrow.1;rw[hnv]at hrl hok hc;rw[hnv]at hp';have hmv:yuz p g c v r=ymd p g c v (c.getD v []) R.sets:=by unfold yuz;rw[hR]
 have hml:∀ k,(ymd p g c v (c.getD v []) (R.sets.take k)).length=nv:=fun k=>(yqp p g c v _ _).trans hrl;refine⟨by omega,by omega,by omega,?_⟩
 refine ybd (σ:=Nat) (fun k=>⟨[(28,.i .i64 k),(27,.i .i64 R.sets.length),(26,yiq R.raw.sets),(0,.rf (yeg p.raw g)),(1,ybg c),(2,.i .i64 v),(9,.os (17,0) 0 nv true)],
   [(17,.one (some ⟨3,false,1,nv,fun i=>[.i .i64 ((ymd p g c v (c.getD v []) (R.sets.take k)).getD i 0)]⟩))]⟩) (fun k=>k<=R.sets.length) (fun k=>R.sets.length - k) 0 (Nat.zero_le _) ?_ ?_
 ·refine yh [] [] [] ?_;simp only[yeg,ycq,yiq,hlen,hsl,hrl,ybg,yu,allQ,live,yg,ybb,Int.natCast_zero,go_sem,Nat.reduceEqDiff,↓reduceIte,reduceCtorEq];simp[ymd]
 ·intro k hk;simp only[ycsc,ycpm,ycki,yeg,yiq,hsl,splice,go_sem,Nat.reduceEqDiff,Nat.reduceAdd,Nat.reduceLeDiff,Nat.reduceLT,↓reduceIte,reduceCtorEq];refine⟨fun hlt=>?_,fun hlt=>?_⟩
  ·have hk':k<R.sets.length:=by omega
   obtain⟨S,hS⟩:∃ S,R.sets.getD k default=S:=⟨_,rfl⟩
   have hset:R.raw.sets.getD k default=⟨S.1,S.2.ser⟩:=by
    rw[<- hS];simp[RuleT.raw,List.getD,hk']
   have hSok:=List.all_eq_true.1 hok.2 S (by rw[<- hS,getD_at hk'];exact List.getElem_mem _)
   simp only[Bool.and_eq_true,decide_eq_true_eq]at hSok;have hV:=ybec p.raw hg hc hv S.2 hSok.1.2 hSok.2;refine⟨by omega,?_⟩
   rw[hset];refine hV.use ?_;have hB:=ybum (p.vars.getD S.1.toNat default).kind (ybf g v (p.vars.getD S.1.toNat default)) (ybm g c v S.2 (-1));have hvars:p.raw.vars=p.vars:=rfl;simp only[ycse,thenO,yjh,ydf,varC,splice,hvars,hnv,go_sem,Nat.reduceEqDiff,Nat.reduceAdd,Nat.reduceLeDiff,↓reduceIte,reduceCtorEq];refine⟨by omega,by omega,by omega,hB.use ?_⟩
   simp only[go_sem,Nat.reduceEqDiff,↓reduceIte];have hb2:Nat.testBit 134217727 25=true:=by decide
   simp only[ycmo,hb2,go_sem,Nat.reduceEqDiff,Nat.reduceAdd,↓reduceIte,reduceCtorEq];refine⟨by omega,by omega,ikw (by omega) (by omega),?_⟩
   refine yj (k+1) (by omega) (by omega) ?_
   refine yh [] [] [] ?_;simp only[yblo p g c v _ _ k hk',hS,allQ,live,yg,ybb,go_sem,Nat.reduceEqDiff,↓reduceIte,reduceCtorEq];refine⟨by omega,fun i hi=>?_⟩
   rw[yhu (by rw[hml];omega)]
   by_cases q:i=S.1.toNat
   ·simp only[if_pos q];simp only[live,yg,go_sem,reduceCtorEq]
   ·simp only[if_neg q];simp only[live,yg,go_sem,reduceCtorEq]
  ·obtain rfl:k=R.sets.length:=by omega
   simp only[ycmg,go_sem,Nat.reduceEqDiff,Nat.reduceAdd,↓reduceIte,reduceCtorEq];have hl:=hml R.sets.length;rw[List.take_length]at hl ⊢;rw[hmv,hl];exact Sim.refl _
theorem yja(p:ProgT)(g:Gr)(c:Conf)(s:Nat){v:Nat}(hv:v<c.length):(ylb p g c s).getD v []=if s.testBit v then yuz p g c v (ygf p g c v).toNat else c.getD v []:=by
 unfold ylb;simp[List.getD,hv]
theorem yjs(p:ProgT)(g:Gr)(c:Conf)(s:Nat):(ylb p g c s).length=c.length:=by simp[ylb]
theorem ycel(p:ProgT){g:Gr}(hg:yba g)(hp:p.ok=true){c:Conf}(hc:ConfIn g.ports.length p.vars.length c){s:Nat}(hs:s<2 ^ 32)(hen:subB s (ybn p g c)) :
  Returns Tryz.prog 147 [.rf (yeg p.raw g),ybg c,.i .u32 s] (ybg (ylb p g c s)):=by
 refine Returns.of (yccm [92] _ _ ?_);have h24:=hg.2.1;have hcl:=hc.len;have hp':=hp;unfold ProgT.ok at hp';simp only[Bool.and_eq_true,decide_eq_true_eq]at hp';have hC:=ycej c (fun x hx=>by have:=(hc.row x hx).1;omega) (by omega)
 simp only[c147,ycka,yctx,go_sem,Nat.reduceEqDiff,Nat.reduceAdd,↓reduceIte,reduceCtorEq];refine callM_of hC [] 100 [0,1,2] [] ?_ ?_
 ·simp only[go_sem,famCln,yga,keepF,keepO,allQ,live,yg,go_sem,Nat.reduceEqDiff,↓reduceIte,reduceCtorEq]
 ·rintro r o' ⟨rfl,rfl⟩;simp only[ycmq,ybg,yu,thenM,ylw,nuF,nu,difN,keepF,keepO,Fam.ren,OB.ren,dim,ybdt,ykc,go_sem,Nat.reduceEqDiff,Nat.reduceAdd,↓reduceIte,reduceCtorEq];obtain⟨n,hn⟩:∃ n,c.length=n:=⟨_,rfl⟩
  let row:Nat->Nat->List Int:=fun k i=>if i<k then(ylb p g c s).getD i []else c.getD i []
  refine ybd (σ:=Nat) (fun k=>⟨[(13,.i .i64 k),(12,.i .i64 n),(7,.os (108,0) 0 n true),(0,.rf (yeg p.raw g)),(1,ybg c),(2,.i .u32 s)],
   [(108,.one (some ⟨22,false,1,n,fun i=>[yu (row k i)]⟩))]⟩) (fun k=>k<=n) (fun k=>n - k) 0 (Nat.zero_le _) ?_ ?_
  ·refine yh [] [] [] ?_;simp only[ybg,hn,allQ,live,yg,Int.natCast_zero,go_sem,Nat.reduceEqDiff,↓reduceIte,reduceCtorEq];refine⟨Sim.refl _,fun i hi=>?_⟩;simp only[row,if_neg (Nat.not_lt_zero i)];exact Sim.refl _
  ·intro k hk;have ht:=ybkt (s:=s) (v:=k) hs;simp only[IntKind.bits]at ht;simp only[ycsr,ycje,ycwq,ycpw,ycsl,ycjn,IntKind.bits,ht,yry,go_sem,Nat.reduceEqDiff,Nat.reduceAdd,Nat.reduceBEq,↓reduceIte,reduceCtorEq];refine⟨fun hlt=>⟨by omega,fun h1=>?_,fun h1=>?_⟩,fun hlt=>?_⟩
   ·have hk':k<c.length:=by omega
    have hkg:k<g.ports.length:=by omega
    have hr0:0<=ygf p g c k:=by
     have:=hen k h1;unfold ybn at this;rw[yei]at this;simp only[Bool.and_eq_true,decide_eq_true_eq]at this;exact this.2
    have hrl:=(ycdj p g c k).2;have hr1:ygf p g c k=((ygf p g c k).toNat:Int):=by omega
    refine(ybkd p hg hp hc hkg).use ?_;simp only[thenO,splice,go_sem,Nat.reduceEqDiff,Nat.reduceAdd,Nat.reduceBEq,↓reduceIte,reduceCtorEq];have hM:=ycge p hg hp hc hkg (r:=(ygf p g c k).toNat) (by omega)
    rw[<- hr1]at hM;refine hM.use ?_;simp only[go_sem,Nat.reduceEqDiff,↓reduceIte];refine⟨by omega,by omega,ikw (by omega) (by omega),?_⟩
    refine yj (k+1) (by omega) (by omega) ?_
    refine yh [] [] [] ?_;simp only[allQ,live,yg,ybb,go_sem,Nat.reduceEqDiff,↓reduceIte,reduceCtorEq];refine⟨by omega,fun i hi=>?_⟩
    by_cases q:i=k
    ·simp only[if_pos q];subst q;simp only[go_sem,live,go_sem];simp only[row,if_pos (Nat.lt_succ_self i),yja p g c s hk',h1,↓reduceIte];exact Sim.refl _
    ·simp only[if_neg q];simp only[go_sem,live,go_sem]
     have:row (k+1) i=row k i:=by
      simp only[row]
      by_cases q1:i<k
      ·rw[if_pos q1,if_pos (by omega)]
      ·rw[if_neg q1,if_neg (by omega)]
     rw[this];exact Sim.refl _
   ·have hk':k<c.length:=by omega
    refine⟨ikw (by omega) (by omega),?_⟩
    refine yj (k+1) (by omega) (by omega) ?_
    refine yh [] [] [] ?_;simp only[allQ,live,yg,ybb,go_sem,Nat.reduceEqDiff,↓reduceIte,reduceCtorEq];refine⟨by omega,fun i hi=>?_⟩
    have:row (k+1) i=row k i:=by
     simp only[row]
     by_cases q1:i<k
     ·rw[if_pos q1,if_pos (by omega)]
     ·by_cases q:i=k
      ·subst q;rw[if_neg q1,if_pos (by omega),yja p g c s hk',if_neg (fun q=>h1 (yry.2 q))]
      ·rw[if_neg q1,if_neg (by omega)]
    rw[this];exact Sim.refl _
   ·obtain rfl:k=n:=by omega
    rw[yjs,hn];refine yge fun q hq=>⟨⟨?_,trivial⟩,rfl⟩;simp only[row,if_pos hq];exact Sim.refl _
end Sh
end Go.Proofs.YtpngeppkgoaimaaGreatDoor

namespace Go.Proofs.YtpngeppkgoaimaaGreatDoor
namespace Sh
open Go Ev
set_option maxRecDepth 8000

def ysz(p:ProgT)(g:Gr):Bool:=p.vars.all fun x=>decide (x.kind=1) == false || (decide ((ybf g 0 x).1<=(ybf g 0 x).2) && decide ((ybf g 0 x).2 - (ybf g 0 x).1+1<=4096))
def ycn(Q1 Q2:(Nat->Option ABlk)->Value->Prop)(p:ProgR):List SV:=[.a (.string p.name),.ex Q1 (ydf p.vars),.ex Q2 (ycq p.rules)]
theorem ycgk{Q1 Q2:(Nat->Option ABlk)->Value->Prop}(p:ProgT){g:Gr}(hg:yba g)(hp:p.ok=true)(hf:ysz p g=true)(hV:Returns Tryz.prog 169 [.ag (ycn Q1 Q2 p.raw)] (.b true))(hG:Returns Tryz.prog 84 [grV g] (.b true)) :
  Returns Tryz.prog 140 [.ag (ycn Q1 Q2 p.raw),grV g] (.i .i64 0):=by
 refine Returns.of (ydcg _ _ ?_);have hp':=hp;unfold ProgT.ok at hp';simp only[Bool.and_eq_true,decide_eq_true_eq]at hp';have hvars:p.raw.vars=p.vars:=rfl;simp only[ycn,grV]at hV hG;simp only[c140,ycif,ycok,ycpq,ycrz,ycjt,ycqe,ycn,grV,go_sem,Nat.reduceEqDiff,Nat.reduceAdd,Nat.reduceLT,↓reduceIte,reduceCtorEq];refine hV.use ?_;simp only[thenO,go_sem,Nat.reduceEqDiff,Nat.reduceAdd,↓reduceIte]
 refine hG.use ?_;simp only[ydf,hvars,go_sem,Nat.reduceEqDiff,Nat.reduceAdd,Nat.reduceLeDiff,↓reduceIte,reduceCtorEq]
 have hall:∀ k,k<p.vars.length->(p.vars.getD k default).ok=true/\((p.vars.getD k default).kind=1->(ybf g 0 (p.vars.getD k default)).1<=(ybf g 0 (p.vars.getD k default)).2/\(ybf g 0 (p.vars.getD k default)).2 - (ybf g 0 (p.vars.getD k default)).1+1<=4096):=fun k hk=>by
  rw[getD_at hk];refine⟨List.all_eq_true.1 hp'.1.1.2 _ (List.getElem_mem _),fun h1=>?_⟩;have:=List.all_eq_true.1 hf _ (List.getElem_mem hk)
  simpa [h1]using this
 refine ybd (σ:=Nat) (fun k=>⟨[(18,.i .i64 k),(17,.i .i64 p.vars.length),(16,.ex Q1 (ydf p.vars)),(3,.pt (3,0) 0 0)],[(3,.one (some ⟨28,true,2,1,fun _=>[yu g.ids,yx g.ports]⟩))]⟩) (fun k=>k<=p.vars.length) (fun k=>p.vars.length - k) 0 (Nat.zero_le _) ?_ ?_
 ·refine yh [] [] [] ?_;simp only[ydf,allQ,live,yg,Int.natCast_zero,go_sem,Nat.reduceEqDiff,↓reduceIte,reduceCtorEq]
 ·intro k hk;obtain⟨x,hx⟩:∃ x,p.vars.getD k default=x:=⟨_,rfl⟩;simp only[ycln,ycji,ycpi,ycpz,ybvt,ybtj,ybwu,ybxv,ydf,varC,splice,ybb,hx,go_sem,Nat.reduceEqDiff,Nat.reduceAdd,Nat.reduceLeDiff,Nat.reduceLT,↓reduceIte,reduceCtorEq];intro hlt;have hk':k<p.vars.length:=by omega
  obtain⟨hxo,hxb⟩:=hall k hk';rw[hx]at hxo hxb;have hB:=yvz hg hxo (v:=0) (by have:=hg.1;omega)
  simp only[varC,grV,Int.natCast_zero]at hB;obtain⟨hb1,hb2⟩:=ynm hg hxo;have hvo:=ybff hxo;refine⟨by omega,fun h1=>⟨ikw (by omega) (by omega),?_⟩,fun h1=>hB.use ?_⟩
  ·refine yj (k+1) (by omega) (by omega) ?_
   refine yh [] [] [] ?_;simp only[allQ,live,yg,ybb,go_sem,Nat.reduceEqDiff,↓reduceIte,reduceCtorEq];omega
  ·obtain⟨hb3,hb4⟩:=hxb h1;obtain⟨b1,hb1'⟩:∃ b,(ybf g 0 x).1=b:=⟨_,rfl⟩;obtain⟨b2,hb2'⟩:∃ b,(ybf g 0 x).2=b:=⟨_,rfl⟩;have e:ybf g 0 x=(x.lo,x.hi+x.perNode * (g.ids.length:Int)+x.perID * maxI g.ids):=by unfold ybf;rw[if_pos h1]
   rw[e]at hb1' hb2';simp only[]at hb1' hb2';simp only[e]at hb3 hb4;rw[e];simp only[thenO,ybb,go_sem,Nat.reduceEqDiff,Nat.reduceAdd,↓reduceIte,reduceCtorEq];simp only[hb1',hb2']at hb3 hb4 ⊢;refine⟨fun _=>⟨ikw (by omega) (by omega),ikw (by omega) (by omega),fun hgt=>absurd hb4 (by omega),fun _=>⟨ikw (by omega) (by omega),?_⟩⟩,fun hlt2=>absurd hb3 (by omega)⟩
   refine yj (k+1) (by omega) (by omega) ?_
   refine yh [] [] [] ?_;simp only[allQ,live,yg,ybb,go_sem,Nat.reduceEqDiff,↓reduceIte,reduceCtorEq];omega
end Sh
end Go.Proofs.YtpngeppkgoaimaaGreatDoor

namespace Go.Proofs.YtpngeppkgoaimaaGreatDoor
namespace Sh
open Go Ev Go.RowKit

def GrI(g:Gr):Prop:=(∀ x ∈ g.ids,I64 x) /\ ∀ ls ∈ g.ports,∀ l ∈ ls,I64 l.1/\I64 l.2
def ycgm(c:List (List Int)):Prop:=∀ s ∈ c,∀ x ∈ s,I64 x

section
variable {G:AM} {m:Mem} {φ:Phi} {M:AM} {w:World} {u u':Value}

theorem ycgp {α:Type} {z n:Nat} {gg:Nat->List SV} {xs:List α} {E:Elem α} (hG:Le G m.b.get) (hr:RV G om0 (.sl z n gg) u) (hv:VR φ u u') (hR:Rel φ M w) (hs:Sub m M) (hn:xs.length=n)
  (hE:∀ k x b o L L',xs[k]? = some x->RVL G om0 (gg k) L->VRL φ L L'->(∀ j v,L'[j]? = some v->w.cell? ⟨b,o+j,none⟩=some v)->E w b o x):SlAt z E w u' xs:=by
 rcases hr.sl_inv with⟨rfl,h0⟩ | ⟨bk,p,cp,T,N,e,zz,L,rfl,g1,g2,g3,g4,g5,g6,g7⟩
 ·have:xs = []:=List.eq_nil_of_length_eq_zero hn;subst this;rcases h0 with rfl | ⟨b,o,c,rfl⟩
  ·have e:=hv.eq_simple rfl;subst e;exact SlAt.nil w
  ·obtain⟨lc,A,c',k1,k2,k3,k4,k5,k6,k7⟩:=hv.slice_inv;subst k3;exact⟨some A,c',rfl,Nat.zero_le _,k6,fun q=>absurd q (by simp)⟩
 ·obtain⟨lc,A,c',k1,k2,k3,k4,k5,k6,k7⟩:=hv.slice_inv;subst k3;subst hn;refine⟨some A,c',rfl,k4,k6,fun hpos=>?_⟩;rcases k7 with⟨rfl,_⟩ | k7
  ·obtain⟨lc',h1,h2⟩:=hR.blk _ _ (hs _ _ (hG _ _ g1));have k1':φ bk=some lc:=k1;rw[k1']at h1;cases h1
   obtain⟨h3,h4,cs,e2,fz2,h0,h5,h6,h7⟩:=h2;refine⟨lc.blk,lc.base+p,rfl,(Array.getElem?_eq_some_iff.1 h5).1,fun k x hx=>?_⟩;have hk:k<xs.length:=(List.getElem?_eq_some_iff.1 hx).1;have hin:=yjk (z:=z) hk;have hcells:∀ j v,j<z->(L k)[j]? = some v -> ∃ v',cs[lc.base+(p+k * z+j)]? = some v'/\VR φ v v':=fun j v hj hv=>h7 _ v (by omega) (by rw[g5 k hk j hj];exact hv)
   have hex:∀ (l:List Value) (q:Nat),(∀ j v,l[j]? = some v -> ∃ v',cs[q+j]? = some v'/\VR φ v v') -> ∃ l',VRL φ l l' /\ ∀ j v,l'[j]? = some v->cs[q+j]? = some v:=by
    intro l
    induction l with
    | nil=>intro q _;exact⟨[],.nil,fun j v h=>by simp at h⟩
    | cons a l ih =>
     intro q h;obtain⟨v',e1,e2⟩:=h 0 a rfl;obtain⟨l',e3,e4⟩:=ih (q+1) (fun j v hv=>by have:=h (j+1) v (by simpa using hv);rw[show q+1+j=q+(j+1)by omega];exact this)
     refine⟨v' :: l',.cons e2 e3,fun j v hv=>?_⟩;cases j with
     | zero=>simp at hv;subst hv;exact e1
     | succ j=>have:=e4 j v (by simpa using hv);rw[show q+(j+1)=q+1+j by omega];exact this
   obtain⟨L',r1,r2⟩:=hex (L k) (lc.base+p+k * z) (fun j v hv=>by
    have hj:j<z:=by rw[<- g4 k hk];exact(List.getElem?_eq_some_iff.1 hv).1
    have:=hcells j v hj hv;rw[show lc.base+p+k * z+j=lc.base+(p+k * z+j)by omega]
    exact this)
   exact hE k x _ _ (L k) L' hx (g6 k hk) r1 fun j v hv=>cell_of h5 (by have:=r2 j v hv;exact this)
  ·omega
theorem ints_at{l:List Int}(hG:Le G m.b.get)(hr:RV G om0 (yu l) u)(hv:VR φ u u')(hR:Rel φ M w)(hs:Sub m M)(hI:∀ x ∈ l,I64 x):yjg w u' l:=by
 refine ycgp hG hr hv hR hs rfl fun k x b o L L' hx hL hL' hc=>?_;have hk:k<l.length:=(List.getElem?_eq_some_iff.1 hx).1;have hxe:l.getD k 0=x:=by simp[List.getD,hx]
 rw[hxe]at hL;cases hL with
 | cons a b =>
  cases b
  cases a.int_inv
  obtain⟨v',rfl,hvv⟩:=yfp hL';have:=hvv.eq_simple rfl;subst this;exact⟨hc 0 _ rfl,hI x (List.mem_of_getElem? hx)⟩
theorem ychl{ls:List (Int × Int)}(hG:Le G m.b.get)(hr:RV G om0 (ybc ls) u)(hv:VR φ u u')(hR:Rel φ M w)(hs:Sub m M)(hI:∀ l ∈ ls,I64 l.1/\I64 l.2):ybev w u' ls:=by
 refine ycgp hG hr hv hR hs rfl fun k x b o L L' hx hL hL' hc=>?_;have hxe:ls.getD k (0,0)=x:=by simp[List.getD,hx]
 rw[hxe]at hL;cases hL with
 | cons a b =>
  cases b with
  | cons a2 b2 =>
   cases b2
   cases a.int_inv
   cases a2.int_inv
   obtain⟨v1,v2,rfl,h1,h2⟩:=yoy hL';have:=h1.eq_simple rfl;subst this;have:=h2.eq_simple rfl;subst this;exact⟨hc 0 _ rfl,hc 1 _ rfl,hI x (List.mem_of_getElem? hx)⟩
theorem yceq{ps:List (List (Int × Int))}(hG:Le G m.b.get)(hr:RV G om0 (yx ps) u)(hv:VR φ u u')(hR:Rel φ M w)(hs:Sub m M)(hI:∀ ls ∈ ps,∀ l ∈ ls,I64 l.1/\I64 l.2):yyg w u' ps:=by
 refine ycgp hG hr hv hR hs rfl fun k x b o L L' hx hL hL' hc=>?_;have hxe:ps.getD k []=x:=by simp[List.getD,hx]
 rw[hxe]at hL;cases hL with
 | cons a b =>
  cases b
  obtain⟨v',rfl,hvv⟩:=yfp hL';exact⟨v',hc 0 _ rfl,ychl hG a hvv hR hs (hI x (List.mem_of_getElem? hx))⟩
theorem yddy{c:List (List Int)}(hG:Le G m.b.get)(hr:RV G om0 (ybg c) u)(hv:VR φ u u')(hR:Rel φ M w)(hs:Sub m M)(hI:ycgm c):ycnt w u' c:=by
 refine ycgp hG hr hv hR hs rfl fun k x b o L L' hx hL hL' hc=>?_;have hxe:c.getD k []=x:=by simp[List.getD,hx]
 rw[hxe]at hL;cases hL with
 | cons a b =>
  cases b
  obtain⟨v',rfl,hvv⟩:=yfp hL';exact⟨v',hc 0 _ rfl,ints_at hG a hvv hR hs (hI x (List.mem_of_getElem? hx))⟩
theorem ybeo{g:Gr}(hG:Le G m.b.get)(hr:RV G om0 (grV g) u)(hv:VR φ u u')(hR:Rel φ M w)(hs:Sub m M)(hI:GrI g):GrAt w u' g:=by
 obtain⟨L,rfl,hL⟩:=hr.ag_inv;cases hL with
 | cons a b =>
  cases b with
  | cons a2 b2 =>
   cases b2
   obtain⟨L',rfl,hL'⟩:=hv.agg_inv;obtain⟨v1,v2,rfl,h1,h2⟩:=yoy hL';exact⟨v1,v2,rfl,ints_at hG a h1 hR hs hI.1,yceq hG a2 h2 hR hs hI.2⟩
end
theorem yne {g:FuncId} {args:List SV} {r:SV} {v:Value} (hg:∃ fn c,Tryz.prog.funcs[g]? = some fn/\fn.body=some c) (hrv:∀ F,RV F om0 r v) (hvr:∀ φ,VR φ v v)
  (h:∀ (G:AM) (m:Mem) (us:List Value),Le G m.b.get->RVL G om0 args us -> ∀ φ M w us',Rel φ M w->Sub m M->VRL φ us us'->Calls Tryz.prog g us'.toArray w fun e w'=>e = .returned v/\Below w.heap.size w w'):Returns Tryz.prog g args r:=by
 intro G m us hw hle hr;refine⟨v,enterM m,r,ylj yjr hg fun φ M w us' hR hs hv=>(h G m us hle hr φ M w us' hR hs hv).mono ?_,Nat.le_refl _,Le.refl _,rfl,hrv _⟩;rintro e w' ⟨rfl,hb⟩;exact⟨v,rfl,hvr φ,hb⟩
theorem rvl1{F:AM}{ω:Om}{a:SV}{us:List Value}(h:RVL F ω [a] us):∃ u,us = [u]/\RV F ω a u:=by
 cases h with | cons x y=>cases y;exact⟨_,rfl,x⟩
theorem rvl2{F:AM}{ω:Om}{a b:SV}{us:List Value}(h:RVL F ω [a,b] us):∃ u v,us = [u,v]/\RV F ω a u/\RV F ω b v:=by
 cases h with | cons x y=>obtain⟨v,rfl,q⟩:=rvl1 y;exact⟨_,v,rfl,x,q⟩
end Sh
end Go.Proofs.YtpngeppkgoaimaaGreatDoor

namespace Go.Proofs.YtpngeppkgoaimaaGreatDoor
open Go.RowKit

theorem ybzp(n k:Nat)(hk:k<n):(List.replicate k (-1:Int) ++ List.replicate (n - k) 0).set k (-1)=List.replicate (k+1) (-1) ++ List.replicate (n - (k+1)) 0:=by
 apply List.ext_getElem
 ·simp;omega
 ·intro i h1 h2;rw[List.getElem_set];split
  ·subst_vars
   rw[List.getElem_append_left (by simp)]
   simp
  ·by_cases hi:i<k
   ·rw[List.getElem_append_left (by simpa using hi),List.getElem_append_left (by simp;omega)];simp
   ·rw[List.getElem_append_right (by simp;omega),List.getElem_append_right (by simp;omega)];simp

theorem ymh(g:Gr)(a:Nat)(h:g.ports.length<=24):1+yck (start g a)<=30:=by
 have h1:=List.countP_le_length (p:=fun x:Int=>decide (x<0)) (l:=start g a);have h2:(start g a).length=g.ports.length:=by simp[start]
 unfold yck;omega

set_option maxHeartbeats 2000000 in
theorem ywa(gv:Value)(g:Gr)(a:Nat)(w:World)(hg:GrAt w gv g)(hgood:yba g)(ha:a<g.ports.length) :
  Calls Tryz.prog 108 #[gv,.int .i64 a] w (ybqf (ybu g a) w):=by
 have hn24:=hgood.2.1;have Hgood:=Lib.hid hgood
 clear hgood
 obtain⟨i,p,rfl,hi,hp⟩:=hg;obtain⟨A2,c2,rfl,hB1,hB2⟩:=ybl hp;have Hp:=Lib.hid hp
 clear hi hp
 have hmk:=ybbv g.ports.length (by omega)
 go_enter Tryz.func108,Tryz.ntmps108
 go_wp2
 go_loopg [17] g.ports.length (fun q t wr=>∃ k:Nat,q+k=g.ports.length/\t = .int .i64 k/\Hid (Below (w.heap.size+1) (w.alloc (.cells #[i,.slice A2 g.ports.length c2] 28)) wr)/\Hid (IBlk wr (w.heap.size+1) (List.replicate k (-1) ++ List.replicate (g.ports.length - k) 0)))
 case atStart =>
  refine⟨0,by omega,rfl,Lib.hid ((Below.refl _ _).alloc (by simp) _),Lib.hid ?_⟩
  have:=IBlk.new (w.alloc (.cells #[i,.slice A2 g.ports.length c2] 28)) (List.replicate g.ports.length (0:Int))
  simpa using this
 case round =>
  obtain⟨k,hq,rfl,hbel,hblk⟩:=hrel
  by_cases hlt:k<g.ports.length
  ·obtain⟨x,hx⟩:∃ x,wr.cell? ⟨w.heap.size+1,k,none⟩=some (.int .i64 x):=⟨_,hblk.out.cell (by simp;omega)⟩
   have hf:=hblk.out.frozen k
   go_wp2
   go_roundg (gk - 1)
   case measure=>omega
   case rel =>
    refine⟨k+1,by omega,by go_num,Lib.hid (hbel.out.setCell (by simp) _),Lib.hid ?_⟩
    have:=hblk.out.set_ k (-1)
    rwa [ybzp _ _ hlt]at this
  ·obtain rfl:k=g.ports.length:=by omega
   have hblk0:IBlk wr (w.heap.size+1) (List.replicate g.ports.length (-1)):=by simpa using hblk.out
   obtain⟨x,hx⟩:∃ x,wr.cell? ⟨w.heap.size+1,a,none⟩=some (.int .i64 x):=⟨_,hblk0.cell (by simpa using ha)⟩
   have hf:=hblk0.frozen a;have Hb0:=Lib.hid hblk0
   clear hblk0 hblk hmk
   go_wp2
   go_loopg [7] (1+yck (start g a)) (fun q t wr=>∃ R Q,q=Q.length+yck R/\q<=30/\Hid (Below (w.heap.size+1) (w.alloc (.cells #[i,.slice A2 g.ports.length c2] 28)) wr)/\Hid (IBlk wr (w.heap.size+1) R)/\Hid (BfsInv g a R Q)/\Hid (Owns wr (w.heap.size+2) 3 1 t Q.length (Q.map (fun q:Nat=>Value.int .i64 (q:Int)))))
   case atStart =>
    refine⟨start g a,[a],rfl,ymh g a hn24,Lib.hid ((hbel.out.setCell (by simp) _).alloc (by have:=hbel.out.size;simp at this ⊢;omega) _),Lib.hid ((Hb0.out.set_ a 0).alloc _),Lib.hid (BfsInv.start ha),Lib.hid ?_⟩
    refine⟨rfl,.inr ⟨_,0,1,#[.int .i64 (a:Int)],rfl,?_,?_,Nat.le_refl _,by simp[maxLen],by simp,?_⟩⟩
    ·have:=Hb0.out.lt;simp;omega
    ·have:=heap_alloc_new (wr.setCell ⟨w.heap.size+1,a,none⟩ (.int .i64 0)) (.cells #[.int .i64 (a:Int)] 3);simpa using this
    ·intro j u hu
     simpa using hu
   case round =>
    clear hbel Hb0 hx hf
    obtain⟨R,Q,hq,hq30,hbel,hblk,hinv,hown⟩:=hrel;obtain⟨AQ,cQ,rfl⟩:=hown.out.val;cases Q with
    | nil =>
     have Hd:=Lib.hid (hinv.out.isDist.unique (ycd Hgood.out ha))
     go_wp2
     go_ret
     have h:=hblk.out.ints (fun x hx=>by have:=hinv.out.isDist.bound Hgood.out ha x hx;unfold I64;omega) (by rw[hinv.out.len];omega)
     rw[hinv.out.len,Hd.out]at h;exact⟨_,rfl,h,(box2 hbel.out).2.2.1⟩
    | cons v Q =>
     obtain⟨gQ,oQ,cap,hv,hg1,hg2,hg3,hg4,hcell⟩:=hown.out.form (by simp)
     cases hv
     have hc0:=hcell 0 (.int .i64 (v:Int)) rfl;simp only[Nat.add_zero]at hc0;have Hcell:=Lib.hid hcell;obtain⟨d,hd⟩:=hinv.out.qin v (by simp)
     have hvl:v<g.ports.length:=by rw[<- hinv.out.len];exact(List.getElem?_eq_some_iff.1 hd).1
     obtain⟨q0,q1,hbw,hsz⟩:=box2 hbel.out;obtain⟨b2,off2,lv,rfl,hb2,hclw,hls⟩:=yfw Hp.out (List.getElem?_eq_getElem hvl);have hcl:=yhe hbw _ _ hclw
     clear hclw
     obtain⟨A3,c3,rfl,hl1,hl2⟩:=ybl hls;obtain⟨ls,hle⟩:∃ ls,g.ports[v]=ls:=⟨_,rfl⟩;have Hlp:=Lib.hid (show g.ports[v]? = some ls by rw[List.getElem?_eq_getElem hvl,hle])
     rw[hle]at hls hcl hl1;have Hls:=Lib.hid hls;have Hin:=Lib.hid (hinv.out.pop hd ls);have Hbw:=Lib.hid hbw
     clear hle hls hbw hcell hinv hd
     simp only[List.length_cons]at hq hg3 hown hc0;obtain⟨i0,hi0,hz0,hz1,hz2⟩:=info_parts yyj;obtain⟨vQ,hsl,hoQ,hobQ⟩:=ycia (P:=Tryz.prog) Tryz.underlying22 hi0 hz1 hown.out (k:=1) (by simp) (by simp)
     simp only[Nat.add_sub_cancel,Nat.mul_one,List.map_cons,List.drop_succ_cons,List.drop_zero]at hoQ;have hsl':∀ W,(Instr.slice 22 (.slice (some ⟨gQ,oQ,none⟩) (Q.length+1) cQ) (some (.int .i64 1)) none none).run Tryz.prog W = .ok vQ W:=fun W=>by simpa using hsl W
     have HoQ:=Lib.hid hoQ;have Hi0:=Lib.hid (show _/\_/\_/\_ from⟨hi0,hz0,hz1,hz2⟩)
     clear hoQ hown hsl hobQ hi0 hz0 hz1 hz2
     unfold maxLen at hg4
     go_wp2
     clear hsl'
     obtain⟨go,rfl⟩:∃ go,go=gk:=⟨_,rfl⟩
     go_loopg [43,7] ls.length (fun q t tq wr=>∃ (k:Nat) (R:List Int) (Q:List Nat),q+k=ls.length/\t = .int .i64 k/\Hid (go=Q.length+1+yck R)/\Hid (Below (w.heap.size+1) (w.alloc (.cells #[i,.slice (some ⟨b2,off2,none⟩) g.ports.length c2] 28)) wr)/\Hid (IBlk wr (w.heap.size+1) R)/\Hid (BfsIn g a v d ls k R Q)/\Hid (Owns wr (w.heap.size+2) 3 1 tq Q.length (Q.map (fun q:Nat=>Value.int .i64 (q:Int)))))
     case atStart=>exact⟨0,R,Q,by omega,rfl,Lib.hid (by omega),hbel,hblk,Hin,HoQ⟩
     case round =>
      clear hbel hblk Hin HoQ hq hcl q0 q1 Hbw hsz
      obtain⟨k,R,Q,hq,rfl,Hgk,hbel,hblk,Hin,HoQ⟩:=hrel
      by_cases hlt:k<ls.length
      ·obtain⟨q0,q1,hbw,hsz⟩:=box2 hbel.out;have Hbw:=Lib.hid hbw;obtain⟨A4,c4,e4,_,_,hE⟩:=Hls.out.below Stable.link hbw;cases e4
       obtain⟨b3,off3,rfl,hb3,hE⟩:=hE (by omega)
       obtain⟨⟨l1,wt⟩,hle⟩:∃ l,ls[k]=l:=⟨_,rfl⟩;have hl?:ls[k]? = some (l1,wt):=by rw[List.getElem?_eq_getElem hlt,hle]
       obtain⟨hx1,hx2,⟨hr1,hr2⟩,⟨hr3,hr4⟩⟩:=hE k _ hl?;obtain⟨k1,k2,k3,k4,k5⟩:=Hgood.out.link Hlp.out (List.mem_of_getElem? hl?);simp only at k1 k2 k3 k4 k5 hx1 hx2 hr1 hr2 hr3 hr4;obtain⟨u,rfl⟩:=Int.eq_ofNat_of_zero_le k1;have hul:u<R.length:=by rw[Hin.out.len];omega
       have hvR:v<R.length:=by rw[Hin.out.len];omega
       have hRv:R[v]? = some (d:Int):=Hin.out.rv;have hcv:=hblk.out.cell hvR;rw[show R[v]=(d:Int)by have:=List.getElem?_eq_getElem hvR;rw[hRv]at this;exact(Option.some.inj this).symm]at hcv
       have hcu:=hblk.out.cell hul;have hfu:=hblk.out.frozen u
       have hd24:d<g.ports.length:=by
        rcases Hin.out.val v _ hRv with e | ⟨k',e,h1,h2⟩
        ·omega
        ·obtain rfl:d=k':=by omega
         exact ysi Hgood.out ha h1 h2
       have hle1:ls[k].1=(u:Int):=by rw[hle]
       have hRu:R[u]? = some R[u]:=List.getElem?_eq_getElem hul;have hB:w.heap.size+1<wr.heap.size:=hblk.out.lt
       clear hE hl? hle hbw k1 k3 hRv
       by_cases hneg:R[u]<0
       ·have hRm:R[u]? = some (-1):=by
         rcases Hin.out.val u _ hRu with e | ⟨k',e,_⟩
         ·exact hRu.trans (congrArg some e)
         ·exact absurd e (by omega)
        have Hd:=Lib.hid (Hin.out.discover Hlp.out hlt hle1 hRm);have Hun:=Lib.hid (ytr (R:=R) (u:=u) (x:=(d:Int)+1) hRm (by omega))
        clear hRu hRm hle1
        go_wp2
        go_region
        go_wp2_with (at_builtin;refine yhn _ rfl _ _ 22 rfl (w.heap.size+2) 3 i0 (.int .i64 0) 1 8 Tryz.underlying22 Hi0.out.1 Hi0.out.2.1 Hi0.out.2.2.1 Hi0.out.2.2.2 rfl (by decide) u7 Q.length (Q.map (fun q:Nat=>Value.int .i64 (q:Int))) (by rfl) ?hown _ 1 1 [.int .i64 (u:Int)] (by rfl) rfl ?c1 ?c2 ?c3 ?c4 ?c5 ?_)
        case hown=>exact(((HoQ.out.low (p:=⟨w.heap.size+1,u,none⟩) (by simp) _).alloc _).alloc _).drew
        case c1=>exact ybkw (by simp)
        case c2=>simp[Value.oneCell']
        case c3=>have:=Hgk.out;simp only[maxLen];omega
        case c4=>have:=Hgk.out;omega
        case c5=>simp;omega
        intro vQ' w' hown' hgr hob;have hgo:=Hgk.out;have Hown:=Lib.hid hown';have Hgr:=Lib.hid hgr
        clear hown' hgr hob
        go_wp2
        go_roundg (gk - 1)
        case measure=>omega
        case rel =>
         have hb1:=(((hbel.out.setCell (p:=⟨w.heap.size+1,u,none⟩) (by simp) (.int .i64 ((d:Int)+1))).alloc (by simp;omega) (.cells #[.int .i64 (u:Int),.int .i64 wt] 43)).alloc (by simp;omega) (.cells #[.int .i64 (u:Int)] 3)).drew
         have hk1:=((((hblk.out.set_ u ((d:Int)+1)).alloc (.cells #[.int .i64 (u:Int),.int .i64 wt] 43)).alloc (.cells #[.int .i64 (u:Int)] 3)).drew);refine⟨k+1,R.set u ((d:Int)+1),Q ++ [u],by omega,by go_num,Lib.hid ?_,Lib.hid (hb1.grown Hgr.out (by simp;omega) (fun x hx=>?_)),Lib.hid (hk1.grown Hgr.out (fun e=>?_)),Hd,Lib.hid ?_⟩
         ·have:=Hun.out;simp;omega
         ·have:=(HoQ.out.lt hx).1;omega
         ·have:=(HoQ.out.lt e.symm).1;omega
         ·have:=Hown.out
          simpa using this
       ·have hpos:0<=R[u]:=by omega
        obtain⟨j,hj⟩:=Int.eq_ofNat_of_zero_le hpos;have Hsk:=Lib.hid (Hin.out.skip hlt (j:=j) (by rw[hle1,Int.toNat_natCast,hRu,hj]))
        clear hRu hle1 hj
        go_wp2
        have hgo:=Hgk.out
        go_roundg (gk - 1)
        case measure=>omega
        case rel=>exact⟨k+1,R,Q,by omega,by go_num,Hgk,Lib.hid (hbel.out.alloc (by omega) _),Lib.hid (hblk.out.alloc _),Hsk,Lib.hid (HoQ.out.alloc _)⟩
      ·obtain rfl:k=ls.length:=by omega
       go_wp2
       have hgo:=Hgk.out
       go_roundg (Q.length+yck R)
       case measure=>omega
       case rel=>exact⟨R,Q,rfl,by omega,hbel,hblk,Lib.hid (Hin.out.finish Hlp.out),HoQ⟩
end Go.Proofs.YtpngeppkgoaimaaGreatDoor

namespace Go.Proofs.YtpngeppkgoaimaaGreatDoor
open Go.RowKit

theorem ybap:Tryz.zeroCells177=Array.replicate 256 (.bool false):=by kernel_rfl

def Seen(w:World)(g:Nat)(S:List Int):Prop:=∃ cur,w.heap[g]? = some (.cells cur 177 (0,0))/\cur.size=256 /\ ∀ i:Nat,i<256->cur[i]? = some (.bool (decide ((i:Int) ∈ S)))

theorem Seen.cell{w:World}{g:Nat}{S:List Int}(h:Seen w g S){i:Nat}(hi:i<256):w.cell? ⟨g,i,none⟩=some (.bool (decide ((i:Int) ∈ S))):=by
 obtain⟨cur,h1,h2,h3⟩:=h;simp[World.cell?,h1,h3 i hi]
theorem Seen.frozen{w:World}{g:Nat}{S:List Int}(h:Seen w g S)(i:Nat):w.frozen? ⟨g,i,none⟩=false:=by
 obtain⟨cur,h1,h2,h3⟩:=h;simp[World.frozen?,h1]
theorem Seen.set_{w:World}{g:Nat}{S:List Int}(h:Seen w g S){i:Nat}:Seen (w.setCell ⟨g,i,none⟩ (.bool true)) g (S ++ [(i:Int)]):=by
 obtain⟨cur,h1,h2,h3⟩:=h;refine⟨cur.setIfInBounds i (.bool true),by simp[World.setCell,Array.getElem?_modify,h1],by simp[h2],fun j hj=>?_⟩
 rw[Array.getElem?_setIfInBounds];split
 ·subst_vars
  rw[if_pos (by omega)]
  simp
 ·rw[h3 j hj];congr 3;simp;omega

theorem Seen.start(w:World):Seen (w.alloc (.cells Tryz.zeroCells177 177)) w.heap.size []:=by
 refine⟨_,heap_alloc_new w _,by rw[ybap];simp,fun i hi=>?_⟩
 rw[ybap];simp[hi]

def yben(ids:List Int):Bool:=decide ((∀ x ∈ ids,0<=x/\x<=255)/\ids.Nodup)
def yub(ids:List Int)(k:Nat):Prop:=(∀ x ∈ ids.take k,0<=x/\x<=255)/\(ids.take k).Nodup
theorem ybtp{ids:List Int}{k:Nat}(hk:k<ids.length):yub ids (k+1) ↔ yub ids k/\(0<=ids[k]/\ids[k]<=255)/\ids[k] ∉ ids.take k:=by
 unfold yub;rw[take_snoc ids k hk,List.nodup_append];constructor
 ·rintro⟨h1,h2,_,h3⟩;exact⟨⟨fun x hx=>h1 x (List.mem_append_left _ hx),h2⟩,h1 _ (List.mem_append_right _ (by simp)),fun hm=>h3 _ hm _ (by simp) rfl⟩
 ·rintro⟨⟨h1,h2⟩,h3,h4⟩;refine⟨fun x hx=>?_,h2,by simp,fun a ha b hb e=>?_⟩
  ·rcases List.mem_append.1 hx with hx | hx
   ·exact h1 x hx
   ·simp at hx;subst hx;exact h3
  ·simp at hb;subst hb e;exact h4 ha
theorem ybga{ids:List Int}{k:Nat}(h:¬ yub ids k):yben ids=false:=by
 unfold yben;rw[decide_eq_false_iff_not];exact fun hd=>h ⟨fun x hx=>hd.1 x (List.mem_of_mem_take hx),hd.2.sublist (List.take_sublist _ _)⟩
theorem ybne{ids:List Int}(h:yub ids ids.length):yben ids=true:=by
 unfold yub at h;rw[List.take_length]at h;exact decide_eq_true h

set_option maxRecDepth 100000 in
set_option maxHeartbeats 1000000 in
theorem yqx(iv:Value)(ids:List Int)(w:World)(hi:yjg w iv ids) :
  Calls Tryz.prog 115 #[iv] w fun e w'=>e = .returned (.bool (yben ids))/\Below w.heap.size w w':=by
 obtain⟨A,c,rfl,hA1,hA2⟩:=ybl hi;have Hi:=Lib.hid hi
 clear hi
 go_enter Tryz.func115,Tryz.ntmps115
 go_wp2
 go_loopg [8] ids.length (fun q t wr=>∃ k:Nat,q+k=ids.length/\t = .int .i64 k/\Hid (Below w.heap.size w wr)/\Hid (Seen wr w.heap.size (ids.take k))/\Hid (yub ids k))
 case atStart=>exact⟨0,by omega,rfl,Lib.hid ((Below.refl _ _).alloc (Nat.le_refl _) _),Lib.hid (Seen.start w),Lib.hid ⟨by simp,by simp⟩⟩
 case round =>
  obtain⟨k,hq,rfl,hbel,hseen,hok⟩:=hrel
  by_cases hlt:k<ids.length
  ·obtain⟨b,off,rfl,hb,hcid,hr⟩:=yfj (Hi.out.below Stable.int hbel.out) hlt;obtain⟨x,hx⟩:∃ x,ids[k]=x:=⟨_,rfl⟩;have Hsn:=Lib.hid (ybtp hlt);rw[hx]at hcid hr Hsn;obtain⟨hr1,hr2⟩:=hr;have Hbad:=Lib.hid (fun h=>ybga (ids:=ids) (k:=k+1) h);have Hts:=Lib.hid (take_snoc ids k hlt);rw[hx]at Hts
   clear hx
   by_cases c1:0<=x/\x<=255
   ·obtain⟨c1a,c1b⟩:=c1;obtain⟨n,rfl⟩:=Int.eq_ofNat_of_zero_le c1a;have hcs:=hseen.out.cell (i:=n) (by omega)
    have hfs:=hseen.out.frozen n
    by_cases c2:(n:Int) ∈ ids.take k
    ·rw[decide_eq_true c2]at hcs;have Hf:=Lib.hid (Hbad.out (fun h=>(Hsn.out.1 h).2.2 c2))
     clear c2
     go_wp2
     go_ret
     exact⟨ybi Hf.out.symm,hbel.out⟩
    ·rw[decide_eq_false c2]at hcs;have Hn:=Lib.hid (Hsn.out.2 ⟨hok.out,⟨by omega,by omega⟩,c2⟩)
     clear c2
     go_wp2
     go_roundg (gk - 1)
     case measure=>omega
     case rel =>
      refine⟨k+1,by omega,by go_num,Lib.hid (hbel.out.setCell (Nat.le_refl _) _),Lib.hid ?_,Hn⟩
      rw[Hts.out];exact hseen.out.set_
   ·have Hf:=Lib.hid (Hbad.out (fun h=>c1 (Hsn.out.1 h).2.1))
    by_cases c3:x<0
    ·clear c1
     go_wp2
     go_ret
     exact⟨ybi Hf.out.symm,hbel.out⟩
    ·have c4:255<x:=by omega
     clear c1
     go_wp2
     go_ret
     exact⟨ybi Hf.out.symm,hbel.out⟩
  ·obtain rfl:k=ids.length:=by omega
   have Ht:=Lib.hid (ybne hok.out)
   go_wp2
   go_ret
   exact⟨ybi Ht.out.symm,hbel.out⟩

theorem ybzk(g:Gr)(h1:1<=g.ids.length)(h2:g.ids.length<=24)(h3:g.ports.length=g.ids.length):ycs g=(yben g.ids && symB g.ports):=by
 unfold ycs yben symB;rw[<- Bool.decide_and];congr 1;apply propext;unfold yba yccp;constructor
 ·rintro⟨_,_,_,h4,h5,h6,h7⟩;exact⟨⟨h4,h5⟩,h6,h7⟩
 ·rintro⟨⟨h4,h5⟩,h6,h7⟩;exact⟨by omega,by omega,by omega,h4,h5,h6,h7⟩

set_option maxHeartbeats 1000000 in
theorem ytv(gv:Value)(g:Gr)(w:World)(hg:GrAt w gv g) :
  Calls Tryz.prog 84 #[gv] w fun e w'=>e = .returned (.bool (ycs g))/\Below w.heap.size w w':=by
 obtain⟨i,p,rfl,hi,hp⟩:=hg;obtain⟨A,c,rfl,hA1,hA2⟩:=ybl hi;obtain⟨A2,c2,rfl,hB1,hB2⟩:=ybl hp;have Hi:=Lib.hid hi;have Hp:=Lib.hid hp
 clear hi hp
 by_cases n1:1<=g.ids.length
 ·by_cases n2:g.ids.length<=24
  ·by_cases n3:g.ports.length=g.ids.length
   ·have n3':((g.ports.length:Int) != (g.ids.length:Int))=false:=by simp[n3]
    have He:=Lib.hid (ybzk g n1 n2 n3);have n3a:g.ports.length<=24:=by omega
    clear n3
    go_enter Tryz.func84,Tryz.ntmps84
    go_wp2_with fail
    refine(yqx _ g.ids _ (Hi.out.below Stable.int ((Below.refl _ _).alloc (Nat.le_refl _) _))).mono ?_;rintro e w1 ⟨rfl,hb1⟩;have Hb1:=Lib.hid (yhl hb1);obtain⟨q0,q1⟩:=yyt hb1
    clear hb1
    cases hd:yben g.ids with
    | false =>
     have Hv:=Lib.hid (show ycs g=false by rw[He.out,hd];rfl)
     go_wp2_with fail
     go_ret
     exact⟨ybi Hv.out.symm,Hb1.out⟩
    | true =>
     have Hv:=Lib.hid (show ycs g=symB g.ports by rw[He.out,hd];rfl)
     go_wp2_with fail
     refine(ymg _ g.ports _ (Hp.out.below (Stable.sl Stable.link) Hb1.out) (by omega)).mono ?_
     rintro e w2 ⟨rfl,hb2⟩
     go_wp2_with fail
     go_ret
     exact⟨ybi Hv.out.symm,Hb1.out.trans (hb2.mono Hb1.out.size)⟩
   ·have n3':((g.ports.length:Int) != (g.ids.length:Int))=true:=by simp;omega
    have Hf:=Lib.hid (yek (g:=g) (fun h=>n3 h.2.2.symm))
    clear n3
    go_enter Tryz.func84,Tryz.ntmps84
    go_wp2
    go_ret
    exact⟨ybi Hf.out.symm,(Below.refl _ _).alloc (Nat.le_refl _) _⟩
  ·have Hf:=Lib.hid (yek (g:=g) (fun h=>n2 (by omega)))
   go_enter Tryz.func84,Tryz.ntmps84
   go_wp2
   go_ret
   exact⟨ybi Hf.out.symm,(Below.refl _ _).alloc (Nat.le_refl _) _⟩
 ·have Hf:=Lib.hid (yek (g:=g) (fun h=>n1 (by omega)))
  go_enter Tryz.func84,Tryz.ntmps84
  go_wp2
  go_ret
  exact⟨ybi Hf.out.symm,(Below.refl _ _).alloc (Nat.le_refl _) _⟩
end Go.Proofs.YtpngeppkgoaimaaGreatDoor

namespace Go.Proofs.YtpngeppkgoaimaaGreatDoor
namespace Sh
open Go Ev Go.RowKit
set_option maxRecDepth 8000
theorem yen{x:Int}(h:-4611686018427387904<=x/\x<=4611686018427387904):I64 x:=by
 unfold I64;omega
theorem yqu{g:Gr}(hg:yba g):GrI g:=by
 obtain⟨h1,h2,h3,h4,h5,h6,h7⟩:=hg;refine⟨fun x hx=>yen (by have:=h4 x hx;omega),fun ls hls l hl=>?_⟩
 obtain⟨v,hv,rfl⟩:=List.getElem_of_mem hls;obtain⟨a1,a2,a3,a4,a5⟩:=(h6 ⟨v,hv⟩).1 l hl;exact⟨yen (by omega),yen (by omega)⟩
theorem ywy{g:Gr}(hI:GrI g):Returns Tryz.prog 84 [grV g] (.b (ycs g)):=by
 refine yne ⟨_,_,Tryz.func84,rfl⟩ (fun _=>.b) (fun _=>.simple rfl) fun G m us hG hr φ M w us' hR hs hv=>?_;obtain⟨u,rfl,h1⟩:=rvl1 hr;obtain⟨u',rfl,h2⟩:=yfp hv;exact ytv u' g w (ybeo hG h1 h2 hR hs hI)
end Sh
end Go.Proofs.YtpngeppkgoaimaaGreatDoor

namespace Go.Proofs.YtpngeppkgoaimaaGreatDoor
namespace Sh
open Go Ev Go.RowKit
set_option maxRecDepth 8000

theorem ybqr{g:Gr}(hg:yba g){x:VarR}(hx:x.ok=true)(v:Nat):-4096<=(ybf g v x).1/\(ybf g v x).2<=100000:=by
 obtain⟨h1,h2,h3,h4,h5⟩:=ybff hx;obtain⟨h6,h7⟩:=ynm hg hx;have h8:=hg.deg_lt (v:=v);unfold ybf;split
 ·exact⟨by simp only[];omega,by simp only[];omega⟩
 ·split
  ·exact⟨by simp only[];omega,by simp only[];omega⟩
  ·split
   ·exact⟨by simp only[];omega,by simp only[];omega⟩
   ·exact⟨by simp only[];omega,by simp only[];omega⟩
theorem yhp{p:ProgT}{g:Gr}(hg:yba g)(hp:p.ok=true){c:Conf}(hc:ych p g c=true):ConfIn g.ports.length p.vars.length c:=by
 have h:=(yep _ _ _).1 hc;have hp':=hp;unfold ProgT.ok at hp';simp only[Bool.and_eq_true,decide_eq_true_eq]at hp';refine⟨h.1.trans hg.2.2.1,fun s hs=>?_⟩;obtain⟨v,hv,rfl⟩:=List.getElem_of_mem hs;have h2:=h.2 v _ (List.getElem?_eq_getElem hv);have hl:(c[v]).length=p.vars.length:=by have:=h2.1;simpa using this
 refine⟨hl,fun x hx=>?_⟩;obtain⟨i,hi,rfl⟩:=List.getElem_of_mem hx;have hi':i<p.vars.length:=by omega
 have h3:=h2.2 i (ybf g v p.vars[i]) _ (by simp[hi']) (List.getElem?_eq_getElem hi)
 have h4:=ybqr hg (List.all_eq_true.1 hp'.1.1.2 _ (List.getElem_mem hi')) v;unfold InB;omega
structure Checked(Q1 Q2:(Nat->Option ABlk)->Value->Prop)(p:ProgT)(g:Gr):Prop where
 hg:yba g
 hp:p.ok=true
 hf:ysz p g=true
 hV:Returns Tryz.prog 169 [.ag (ycn Q1 Q2 p.raw)] (.b true)
theorem Checked.gv{Q1 Q2:(Nat->Option ABlk)->Value->Prop}{p:ProgT}{g:Gr}(h:Checked Q1 Q2 p g):Returns Tryz.prog 84 [grV g] (.b true):=by
 have e:=ywy (yqu h.hg);rw[(ycg g).2 h.hg]at e;exact e
section
variable {Q1 Q2:(Nat->Option ABlk)->Value->Prop} {p:ProgT} {g:Gr}
theorem ybdj(h:Checked Q1 Q2 p g)(c:Conf):Returns Tryz.prog 102 [.ag (ycn Q1 Q2 p.raw),grV g,ybg c] (.i .i64 (if ych p g c then 0 else 10)):=by
 refine Returns.of (ydfs _ _ ?_);have hp':=h.hp;unfold ProgT.ok at hp';simp only[Bool.and_eq_true,decide_eq_true_eq]at hp';have hid:=h.hg.2.2.1;have h24:=h.hg.2.1;have hF:=ycgk p h.hg h.hp h.hf h.hV h.gv;have hT:=ybdv p.raw h.hg hp'.1.1.2 hp'.1.1.1.2;have hW:=ybma (n:=g.ids.length) p.vars (by omega) (ybf g) c (by omega)
 simp only[ycn,grV]at hF hT;simp only[c102,ycrv,ycmp,ycn,grV,go_sem,Nat.reduceEqDiff,Nat.reduceAdd,Nat.reduceLT,↓reduceIte,reduceCtorEq];refine hF.use ?_;simp only[thenO,ycnn,ycma,ycuv,go_sem,Nat.reduceEqDiff,Nat.reduceAdd,↓reduceIte,reduceCtorEq];refine⟨fun h=>absurd rfl h,hT.useS ?_ ?_⟩
 ·exact⟨ytx ⟨Sim.refl _,ynf _ _,ynf _ _,trivial⟩,Sim.refl _,trivial⟩
 simp only[yjh]at hW ⊢;simp only[go_sem,↓reduceIte];refine hW.use ?_;simp only[go_sem];have hcf:∀ b,ynx g.ids.length (fun v=>p.vars.map (ybf g v)) c=b->ych p g c=b:=fun b h=>h;refine⟨fun h1=>?_,fun h1=>?_⟩
 ·simp only[ycjh,hcf _ h1,ybb,go_sem,↓reduceIte]
 ·simp only[ycmu,hcf _ h1,ybb,go_sem,↓reduceIte]
theorem ybmj(h:Checked Q1 Q2 p g)(c:Conf):Returns Tryz.prog 63 [.ag (ycn Q1 Q2 p.raw),grV g,ybg c] (.b (ych p g c)):=by
 refine Returns.of (ydme _ _ ?_);have hC:=ybdj h c;simp only[ycn,grV]at hC;simp only[c63,ydhq,ydir,ycn,grV,go_sem,Nat.reduceEqDiff,Nat.reduceAdd,Nat.reduceLT,↓reduceIte,reduceCtorEq];refine hC.use ?_;simp only[thenO,sim_b,go_sem,Nat.reduceEqDiff,Nat.reduceAdd,↓reduceIte,reduceCtorEq];cases ych p g c<;>rfl
theorem ygz(h:Checked Q1 Q2 p g){c:Conf}(hc:ych p g c=true):Returns Tryz.prog 27 [.ag (ycn Q1 Q2 p.raw),grV g,ybg c] (.i .u32 (ybn p g c)):=by
 refine Returns.of (ydhd _ _ ?_);have hp':=h.hp;unfold ProgT.ok at hp';simp only[Bool.and_eq_true,decide_eq_true_eq]at hp';have hM:=ybmj h c;rw[hc]at hM;have hN:=yqk p.raw h.hg hp'.1.1.2 hp'.1.1.1.2;have hE:=ykd p h.hg h.hp (yhp h.hg h.hp hc);simp only[ycn,grV]at hM hN;simp only[c27,ydsy,ydnm,ycn,grV,go_sem,Nat.reduceEqDiff,Nat.reduceAdd,Nat.reduceLT,↓reduceIte,reduceCtorEq]
 refine hM.use ?_;simp only[thenO,yduo,ydpv,go_sem,Nat.reduceEqDiff,Nat.reduceAdd,↓reduceIte,reduceCtorEq];refine hN.useS ?_ ?_
 ·exact⟨ytx ⟨Sim.refl _,ynf _ _,ynf _ _,trivial⟩,Sim.refl _,trivial⟩
 simp only[go_sem,↓reduceIte];refine hE.use ?_;simp only[go_sem];exact Sim.refl _
theorem ybos(k:Int):Returns Tryz.prog 118 [.i .i64 k] (.b (decide (1<=k) && decide (k<=4))):=by
 refine Returns.of (ydax _ _ ?_);simp only[c118,ycmt,ycvp,sim_b,go_sem,Nat.reduceEqDiff,Nat.reduceAdd,↓reduceIte,reduceCtorEq]
 by_cases h:k >= 1<;>simp[h]

end
end Sh
end Go.Proofs.YtpngeppkgoaimaaGreatDoor

namespace Go.Proofs.YtpngeppkgoaimaaGreatDoor
open Go

theorem ynj(s a:Nat):∀ b,ygn s (a+b)=ygn s a+ygn (s >>> a) b
 | 0=>rfl
 | b+1=>by
  show ygn s (a+b)+(s.testBit (a+b)).toNat=_;rw[ynj s a b];show _=ygn s a+(ygn (s >>> a) b+((s >>> a).testBit b).toNat);rw[Nat.testBit_shiftRight];omega
theorem ypb(s:Nat):∀ b,b<=8->ygn (s &&& 255) b=ygn s b
 | 0,_=>rfl
 | b+1,h=>by
  show ygn _ b+_=ygn s b+_;rw[ypb s b (by omega),Nat.testBit_and,show(255:Nat)=2 ^ 8 - 1 from rfl,Nat.testBit_two_pow_sub_one]
  simp[show b<8 by omega]
theorem ybmd(s:Nat):popP s=ygn (s >>> 24 &&& 255) 8+ygn (s >>> 16 &&& 255) 8+ygn (s >>> 8 &&& 255) 8+ygn (s &&& 255) 8:=by
 simp only[ypb _ 8 (Nat.le_refl _)];have h1:=ynj s 8 24;have h2:=ynj (s >>> 8) 8 16;have h3:=ynj (s >>> 8 >>> 8) 8 8;simp only[<- Nat.shiftRight_add,Nat.reduceAdd]at h1 h2 h3;unfold popP;omega
namespace Sh
open Ev Go.RowKit
set_option maxRecDepth 8000
theorem yxu:∀ k,k<256->yvx.getD k 0=ygn k 8:=by decide
theorem ycxs:yvx.length=256:=by decide
theorem yczv(a v:Nat):(a:Int).fdiv (2 ^ v)=((a >>> v:Nat):Int):=by
 have h:=ybty (a:=a) (v:=v)
 rwa [Int.toNat_natCast]at h
theorem ycro{a:Nat}(ha:a<2 ^ 32):IntKind.wrap .u32 (((BitVec.ofInt (IntKind.bits .u32) (a:Int)) &&& BitVec.ofInt (IntKind.bits .u32) 255).toNat:Int)=((a &&& 255:Nat):Int):=u32_and (b:=255) ha (by decide)
theorem ydvr{a n:Nat}(h:a<2 ^ 32):a >>> n<2 ^ 32:=by rw[Nat.shiftRight_eq_div_pow];exact Nat.lt_of_le_of_lt (Nat.div_le_self _ _) h
theorem ycdr{s:Nat}(hs:s<2 ^ 32):Returns Tryz.prog 179 [.i .u32 s] (.i .i64 (popP s)):=by
 refine Returns.of (ydbd _ _ ?_);simp only[c179,ycuz,yclt,clash,go_sem,Int.reduceToNat,Nat.reduceEqDiff,Nat.reduceAdd,↓reduceIte,reduceCtorEq];have f1:=ycro hs;have f2:=fun n=>ycro (ydvr (n:=n) hs);simp only[IntKind.bits]at f1 f2;simp only[yczv,f1,f2,Int.toNat_natCast,ycxs];have hp:=ybmd s;have l1:s >>> 24<256:=by rw[Nat.shiftRight_eq_div_pow];omega
 have b1:∀ x:Nat,x &&& 255<256:=fun x=>Nat.lt_of_le_of_lt Nat.and_le_right (by omega)
 rw[ypb (s >>> 24) 8 (Nat.le_refl _)]at hp;rw[yxu _ l1,yxu _ (b1 (s >>> 16)),yxu _ (b1 (s >>> 8)),yxu _ (b1 s)];have q1:=ykl (s >>> 24) 8;have q2:=ykl (s >>> 16 &&& 255) 8;have q3:=ykl (s >>> 8 &&& 255) 8;have q4:=ykl (s &&& 255) 8;have w1:=b1 (s >>> 16);have w2:=b1 (s >>> 8);have w3:=b1 s;have u8k:∀ x:Int,0<=x->x<=255->inK .u8 x:=fun x h1 h2=>⟨by simpa [IntKind.min,IntKind.signed]using h1,by simpa [IntKind.max,IntKind.bits,IntKind.signed]using h2⟩
 refine⟨⟨by omega,by decide⟩,⟨by omega,by omega⟩,⟨by omega,by decide⟩,by omega,u8k _ (by omega) (by omega),⟨by omega,by decide⟩,by omega,u8k _ (by omega) (by omega),by omega,u8k _ (by omega) (by omega),?_⟩
 rw[wrap_in (ikw (by omega) (by omega)),hp]
 exact Sim.refl _
def cntV(k:Cnt):List SV:=[.i .i64 k.steps,.i .i64 k.moves,.i .i64 k.rounds,.i .i64 k.begun,.i .u32 k.pend]
theorem ybrp{e:Nat}(he:e<2 ^ 24):Returns Tryz.prog 145 [.i .u32 e] (.ag (cntV (ydu e))):=by
 refine Returns.of (ycxq _ _ ?_);simp only[c145,ycow,ycvg,go_sem,Nat.reduceEqDiff,Nat.reduceAdd,Nat.reduceLT,↓reduceIte,reduceCtorEq];have e1:e &&& 16777215=e:=by rw[show(16777215:Nat)=2 ^ 24 - 1 from rfl,Nat.and_two_pow_sub_one_of_lt_two_pow he]
 have e2:IntKind.wrap .u32 (((BitVec.ofInt (IntKind.bits .u32) (e:Int)) &&& BitVec.ofInt (IntKind.bits .u32) 16777215).toNat:Int)=((e &&& 16777215:Nat):Int):=u32_and (b:=16777215) (by omega) (by decide)
 simp only[IntKind.bits]at e2;rw[e2,e1];exact Sim.refl _
def usV(l:List Nat):SV:=.sl 1 l.length (fun k=>[.i .u32 ((l.getD k 0:Nat):Int)])
theorem ydzh{a:Nat}(ha:a<2 ^ 24):IntKind.wrap .u32 (((BitVec.ofInt (IntKind.bits .u32) (a:Int)) &&& ~~~BitVec.ofInt (IntKind.bits .u32) 16777215).toNat:Int)=0:=by
 have h:=u32_andNot (a:=a) (b:=16777215) (by omega) (by decide)
 have e:difB a 16777215=0:=by
  rw[ydd];intro i;rw[ykz,show(16777215:Nat)=2 ^ 24 - 1 from rfl,Nat.testBit_two_pow_sub_one]
  by_cases hi:i<24
  ·simp[hi]
  ·rw[Nat.testBit_lt_two_pow (Nat.lt_of_lt_of_le ha (Nat.pow_le_pow_right (by omega) (by omega)))]
   rfl
 rw[e]at h;exact h
theorem possible_ret(l:List Nat)(hl:l.length<=10)(h:∀ k,k<l.length->l.getD k 0<2 ^ 24):Returns Tryz.prog 178 [usV l] (.b true):=by
 refine Returns.of (ydbb _ _ ?_);simp only[c178,ycxa,yciv,usV,go_sem,Nat.reduceAdd,↓reduceIte,reduceCtorEq];refine ybd (σ:=Nat) (fun k=>⟨[(7,.i .i64 k),(6,.i .i64 l.length),(5,usV l)],[]⟩) (fun k=>k<=l.length) (fun k=>l.length - k) 0 (Nat.zero_le _) ?_ ?_
 ·refine yh [] [] [] ?_;simp only[usV,allQ,live,yg,Int.natCast_zero,go_sem,Nat.reduceEqDiff,↓reduceIte,reduceCtorEq]
 ·intro k hk;simp only[ycnx,ycmr,ycnh,ycwa,usV,go_sem,Nat.reduceEqDiff,Nat.reduceAdd,↓reduceIte,reduceCtorEq];refine⟨fun hlt=>?_,fun hlt=>?_⟩
  ·have hk':k<l.length:=by omega
   have e0:=ydzh (h k hk');simp only[IntKind.bits]at e0;rw[e0];refine⟨⟨by omega,by omega⟩,fun h=>absurd rfl h,fun _=>?_⟩
   simp only[yctm,go_sem,Nat.reduceEqDiff,Nat.reduceAdd,↓reduceIte,reduceCtorEq];refine⟨ikw (by omega) (by omega),?_⟩
   refine yj (k+1) (by omega) (by omega) ?_
   refine yh [] [] [] ?_;simp only[allQ,live,yg,ybb,go_sem,Nat.reduceEqDiff,↓reduceIte,reduceCtorEq];omega
  ·simp only[ycre,sim_b,go_sem,↓reduceIte]
theorem CValid_ret {k : Cnt} (hk : k.ok) (hs : k.steps <= 4096) : Returns Tryz.prog 177 [.ag (cntV k)] (.b true) := by
  refine Returns.of (c177_ok _ _ ?_)
  obtain ⟨h1, h2, h3, h4, h5, h6⟩ := hk
  have hP := possible_ret [k.pend] (by simp) (fun i hi => by have : i = 0 := by simp at hi; omega
                                                             subst this; exact h6)
  have f1 : decide ((k.steps : Int) < 0) = false := by simp
  have f2 : decide ((k.steps : Int) > 4096) = false := by simp; omega
  have f3 : decide ((k.rounds : Int) < 0) = false := by simp
  have f4 : decide ((k.rounds : Int) > k.begun) = false := by simp; omega
  have f5 : decide ((k.begun : Int) > k.steps) = false := by simp; omega
  have f6 : decide ((k.begun : Int) > k.rounds + 1) = false := by simp; omega
  have f7 : decide ((k.steps : Int) <= k.moves) = true := by simp; omega
  have f8 : decide ((k.moves : Int) <= 24 * k.steps) = true := by simp; omega
  simp (maxSteps := 5000000) only [c177, c177_0, c177_1, cntV, f1, f2, f3, f4, f5, go_sem, Nat.reduceEqDiff, Nat.reduceAdd, Nat.reduceLeDiff, Nat.reduceLT, ↓reduceIte, reduceCtorEq]
  simp only [c177_3, f6, go_sem, Nat.reduceEqDiff, Nat.reduceAdd, Nat.reduceLeDiff, ↓reduceIte, reduceCtorEq]
  refine ⟨ikw (by omega) (by omega), ?_⟩
  simp (maxSteps := 5000000) only [c177_5, f7, f8, go_sem, Nat.reduceEqDiff, Nat.reduceAdd, Nat.reduceLeDiff, Nat.reduceLT, ↓reduceIte, reduceCtorEq]
  refine ⟨ikw (by omega) (by omega), ?_⟩
  refine .inl ⟨fun q hq => ?_, hP.useS ?_ ?_⟩
  · obtain rfl : q = 0 := by omega
    simp only [go_sem]
  · exact ⟨sim_sl fun q hq => by obtain rfl : q = 0 := by omega
                                 rfl, trivial⟩
  simp only [thenO, sim_b, go_sem, Nat.reduceEqDiff, Nat.reduceAdd, ↓reduceIte, reduceCtorEq]
theorem ydat{k:Cnt}(hk:k.ok)(hs:k.steps<4096){s e:Nat}(h0:s ≠ 0)(hs24:s<2 ^ 24)(he:e<2 ^ 24):Returns Tryz.prog 148 [.ag (cntV k),.i .u32 s,.i .u32 e] (.tp [.ag (cntV (addP k s e)),.i .i64 0]):=by
 refine Returns.of (ydao _ _ ?_);have hV:=CValid_ret hk (by omega)
 have hO:=ycdr (s:=s) (by omega)
 have hP:=possible_ret [s,e] (by simp) (fun i hi=>by
  have:i=0\/i=1:=by simp at hi;omega
  rcases this with rfl | rfl
  ·exact hs24
  ·exact he)
 obtain⟨h1,h2,h3,h4,h5,h6⟩:=hk;simp only[cntV]at hV;simp only[c148,ycrh,ycvd,cntV,go_sem,Nat.reduceEqDiff,Nat.reduceAdd,Nat.reduceLT,↓reduceIte];refine hV.use ?_;have z0:((s:Int) == 0)=false:=by simp;omega
 simp only[thenO,ycis,z0,go_sem,Nat.reduceEqDiff,Nat.reduceAdd,Nat.reduceLeDiff,Nat.reduceLT,↓reduceIte,reduceCtorEq];refine .inl ⟨fun q hq=>?_,hP.useS ?_ ?_⟩
 ·have:q=0\/q=1:=by omega
  rcases this with rfl | rfl
  ·simp only[go_sem]
  ·simp only[go_sem]
 ·exact⟨sim_sl fun q hq=>by
   have:q=0\/q=1:=by omega
   rcases this with rfl | rfl<;>rfl,trivial⟩
 have z1:((k.steps:Int) == 4096)=false:=by simp;omega
 simp only[ycwv,ycpf,z1,go_sem,Nat.reduceEqDiff,Nat.reduceAdd,Nat.reduceLeDiff,↓reduceIte,reduceCtorEq];refine⟨ikw (by omega) (by omega),?_⟩
 simp only[ycqs,clash,go_sem,Nat.reduceEqDiff,Nat.reduceAdd,Nat.reduceLeDiff,↓reduceIte,reduceCtorEq];refine hO.use ?_;have hpop:=ybyg s hs24;have a1:=u32_andNot (a:=k.pend) (b:=s) (by omega) (by omega)
 have hd:difB k.pend s<2 ^ 24:=ybfk h6;have a2:=u32_and (a:=difB k.pend s) (b:=e) (by omega) (by omega)
 obtain⟨P,hPe⟩:∃ P,difB k.pend s &&& e=P:=⟨_,rfl⟩;rw[hPe]at a2;simp only[IntKind.bits]at a1 a2;simp only[thenO,go_sem,Nat.reduceEqDiff,Nat.reduceAdd,Nat.reduceLeDiff,↓reduceIte,reduceCtorEq];refine⟨ikw (by omega) (by omega),?_⟩
 simp only[ycrx,ybpu,ybvb,a1,a2,go_sem,Nat.reduceEqDiff,Nat.reduceAdd,Nat.reduceLeDiff,↓reduceIte,reduceCtorEq];refine⟨by decide,ikw (by omega) (by omega),fun hP0=>?_,fun hP0=>?_⟩
 ·have hP1:P=0:=by omega
  have ea:addP k s e=⟨k.steps+1,k.moves+popP s,k.rounds+1,k.rounds+1,e⟩:=by unfold addP;simp only[hPe,hP1,if_true]
  rw[ea];simp only[ybys,ybyz,ybho,go_sem,Nat.reduceEqDiff,Nat.reduceAdd,Nat.reduceLeDiff,↓reduceIte,reduceCtorEq];exact Sim.refl _
 ·have hP1:¬ P=0:=by omega
  have ea:addP k s e=⟨k.steps+1,k.moves+popP s,k.rounds,k.rounds+1,P⟩:=by unfold addP;simp only[hPe,if_neg hP1]
  rw[ea];simp only[ybho,go_sem,Nat.reduceEqDiff,Nat.reduceAdd,↓reduceIte];exact Sim.refl _
end Sh
end Go.Proofs.YtpngeppkgoaimaaGreatDoor

namespace Go.Proofs.YtpngeppkgoaimaaGreatDoor
open Go
def netP(ls:List (Int × Int)):Nat:=ls.foldl (fun a l=>a ||| 2 ^ l.1.toNat) 0
theorem ybvy(ls:List (Int × Int))(k:Nat)(h:k<ls.length):netP (ls.take (k+1))=netP (ls.take k) ||| 2 ^ (ls.getD k (0,0)).1.toNat:=by
 unfold netP;rw[List.take_succ_eq_append_getElem h,List.foldl_append,Sh.getD_at h];rfl
theorem ydee(ls:List (Int × Int))(h:∀ l ∈ ls,l.1<24):netP ls<2 ^ 24:=by
 unfold netP
 have:∀ (ls:List (Int × Int)) (a:Nat),(∀ l ∈ ls,l.1<24)->a<2 ^ 24->ls.foldl (fun a l=>a ||| 2 ^ l.1.toNat) a<2 ^ 24:=by
  intro ls
  induction ls with
  | nil=>intro a _ h;exact h
  | cons l ls ih =>
   intro a hl ha;refine ih _ (fun x hx=>hl x (List.mem_cons_of_mem _ hx)) (Nat.or_lt_two_pow ha ?_);have:=hl l List.mem_cons_self;exact Nat.pow_lt_pow_right (by omega) (by omega)
 exact this ls 0 h (by decide)
namespace Sh
open Ev Go.RowKit
set_option maxRecDepth 8000
theorem u32k{a:Nat}(h:a<2 ^ 32):inK .u32 (a:Int):=⟨by simp[IntKind.min,IntKind.signed],by simp[IntKind.max,IntKind.bits,IntKind.signed];omega⟩
theorem yday{g:Gr}(hg:yba g):Returns Tryz.prog 120 [grV g] (.i .u32 (2 ^ g.ids.length - 1:Nat)):=by
 refine Returns.of (ydct _ _ ?_);have h3:=hg.2.2.1;have h4:=hg.2.1;simp only[c120,ycno,ycwt,grV,yu,go_sem,Nat.reduceEqDiff,Nat.reduceAdd,Nat.reduceLeDiff,Nat.reduceLT,↓reduceIte,reduceCtorEq];have h5:=ymn (v:=g.ids.length) (by omega)
 rw[Int.toNat_natCast]at h5;have h6:2 ^ g.ids.length<2 ^ 32:=Nat.pow_lt_pow_right (by omega) (by omega)
 have h7:1<=2 ^ g.ids.length:=Nat.one_le_two_pow;have h8:(((2 ^ g.ids.length:Nat):Int)) - 1=((2 ^ g.ids.length - 1:Nat):Int):=by omega
 rw[h5,h8];refine⟨⟨by omega,by show _<((32:Nat):Int);omega⟩,u32k (by omega),Sim.refl _⟩
theorem yblv{g:Gr}(hg:yba g):Returns Tryz.prog 119 [grV g] (usV (g.ports.map netP)):=by
 refine Returns.of (ydfx _ _ ?_);have h3:=hg.2.2.1;have h4:=hg.2.1;simp only[c119,ycrs,ycnq,yclh,grV,yu,yx,go_sem,Nat.reduceEqDiff,Nat.reduceAdd,Nat.reduceLT,↓reduceIte,reduceCtorEq];refine⟨by omega,?_⟩
 obtain⟨n,hn⟩:∃ n,g.ports.length=n:=⟨_,rfl⟩
 let val:Nat->Nat->Nat:=fun k i=>if i<k then netP (g.ports.getD i [])else 0
 refine ybd (σ:=Nat) (fun k=>⟨[(15,.i .i64 k),(14,.i .i64 n),(13,yx g.ports),(3,.os (11,0) 0 n true)],
  [(11,.one (some ⟨44,false,1,n,fun i=>[.i .u32 (val k i:Nat)]⟩))]⟩) (fun k=>k<=n) (fun k=>n - k) 0 (Nat.zero_le _) ?_ ?_
 ·refine yh [] [] [] ?_;simp only[yx,hn,allQ,live,yg,ybb,Int.natCast_zero,go_sem,Nat.reduceEqDiff,↓reduceIte,reduceCtorEq];simp[val]
 ·intro k hk;obtain⟨L,hL⟩:∃ L,g.ports.getD k []=L:=⟨_,rfl⟩;simp only[ycrb,yctd,ycuu,yx,ybc,hn,hL,go_sem,Nat.reduceEqDiff,Nat.reduceAdd,↓reduceIte,reduceCtorEq];refine⟨fun hlt=>?_,fun hlt=>?_⟩
  ·have hk':k<n:=by omega
   have hkp:k<g.ports.length:=by omega
   have hlk:∀ l ∈ L,0<=l.1/\l.1<24:=fun l hl=>by
    rw[<- hL,getD_at hkp]at hl;obtain⟨a1,a2,_⟩:=(hg.2.2.2.2.2.1 ⟨k,hkp⟩).1 l hl;exact⟨a1,by omega⟩
   have hdeg:=hg.deg_lt (v:=k);rw[hL]at hdeg;refine⟨by omega,?_⟩
   obtain⟨m,hm⟩:∃ m,L.length=m:=⟨_,rfl⟩;rw[hm]
   let val2:Nat->Nat->Nat:=fun j i=>if i<k then netP (g.ports.getD i [])else if i=k then netP (L.take j)else 0
   refine ybd (σ:=Nat) (fun j=>⟨[(22,.i .i64 j),(21,.i .i64 m),(20,ybc L),(4,.i .i64 k),(15,.i .i64 k),(14,.i .i64 n),(13,yx g.ports),(3,.os (11,0) 0 n true)],
    [(11,.one (some ⟨44,false,1,n,fun i=>[.i .u32 (val2 j i:Nat)]⟩))]⟩) (fun j=>j<=m) (fun j=>m - j) 0 (Nat.zero_le _) ?_ ?_
   ·refine yh [] [] [] ?_;simp only[yx,ybc,hn,hm,allQ,live,yg,ybb,Int.natCast_zero,go_sem,Nat.reduceEqDiff,↓reduceIte,reduceCtorEq];intro i hi;simp only[val,val2]
    by_cases q:i<k
    ·rw[if_pos q,if_pos q]
    ·rw[if_neg q,if_neg q]
     by_cases q2:i=k
     ·rw[if_pos q2];rfl
     ·rw[if_neg q2]
   ·intro j hj;obtain⟨l,hl⟩:∃ l,L.getD j (0,0)=l:=⟨_,rfl⟩;simp only[ycur,ycnp,yx,ybc,hn,hm,hl,go_sem,Nat.reduceEqDiff,Nat.reduceAdd,Nat.reduceLT,↓reduceIte,reduceCtorEq];refine⟨fun hlj=>⟨by omega,?_⟩,fun hlj=>?_⟩
    ·have hj':j<L.length:=by omega
     have hl2:=hlk l (by rw[<- hl,getD_at hj'];exact List.getElem_mem _)
     obtain⟨t,ht⟩:∃ t:Nat,l.1=t:=⟨l.1.toNat,by omega⟩
     have h24t:t<24:=by omega
     have hval:val2 j k<2 ^ 24:=by
      simp only[val2,if_neg (Nat.lt_irrefl k),if_true];exact ydee _ fun l hl=>(hlk l (List.mem_of_mem_take hl)).2
     have hp:2 ^ t<2 ^ 24:=Nat.pow_lt_pow_right (by omega) h24t
     have hsh:=ymn (v:=t) (by omega)
     have hor:=u32_or (a:=val2 j k) (b:=2 ^ t) (by omega) (by omega)
     rw[Int.toNat_natCast]at hsh;simp only[IntKind.bits]at hor;simp only[yclq,ht,clash,hsh,hor,go_sem,Nat.reduceEqDiff,Nat.reduceAdd,Nat.reduceLeDiff,↓reduceIte,reduceCtorEq];refine⟨by omega,by omega,⟨by omega,by show _<((32:Nat):Int);omega⟩,by omega,by omega,by decide,?_⟩
     simp only[ycpj,go_sem,Nat.reduceEqDiff,Nat.reduceAdd,↓reduceIte,reduceCtorEq];refine⟨ikw (by omega) (by omega),?_⟩
     refine yj (j+1) (by omega) (by omega) ?_
     refine yh [] [] [] ?_;simp only[allQ,live,yg,ybb,go_sem,Nat.reduceEqDiff,↓reduceIte,reduceCtorEq];refine⟨by omega,fun i hi=>?_⟩
     have hsn:=ybvy L j hj';rw[hl,ht,Int.toNat_natCast]at hsn
     by_cases q:i=k
     ·simp only[if_pos q];subst q;simp only[go_sem,live,ybb,go_sem,reduceCtorEq];simp only[val2,if_neg (Nat.lt_irrefl i),if_true,hsn]
     ·simp only[if_neg q];simp only[go_sem,live,ybb,go_sem,reduceCtorEq];simp only[val2,if_neg q]
    ·obtain rfl:j=m:=by omega
     simp only[ybup,go_sem,Nat.reduceEqDiff,Nat.reduceAdd,↓reduceIte,reduceCtorEq];refine⟨ikw (by omega) (by omega),?_⟩
     refine yj (k+1) (by omega) (by omega) ?_
     refine yh [] [] [] ?_;simp only[allQ,live,yg,ybb,go_sem,Nat.reduceEqDiff,↓reduceIte,reduceCtorEq];refine⟨by omega,fun i hi=>?_⟩
     simp only[val,val2]
     by_cases q:i<k
     ·rw[if_pos q,if_pos (by omega)]
     ·rw[if_neg q]
      by_cases q2:i=k
      ·rw[if_pos q2,if_pos (by omega),q2,hL,<- hm,List.take_length]
      ·rw[if_neg q2,if_neg (by omega)]
  ·obtain rfl:k=n:=by omega
   simp only[ycaz,go_sem,Nat.reduceEqDiff,Nat.reduceAdd,↓reduceIte,reduceCtorEq];unfold usV;rw[List.length_map,hn];refine sim_sl fun i hi=>?_;have hi':i<g.ports.length:=by omega
   simp only[val,if_pos hi];simp[List.getD,hi']
theorem ybai(net:SV){e s:Nat}(he:e<2 ^ 24)(h0:s ≠ 0)(hs:s<2 ^ 24)(hsub:difB s e=0):Returns Tryz.prog 146 [net,.i .i64 3,.i .u32 e,.i .u32 s] (.b true):=by
 refine Returns.of (ybwv _ _ ?_);have z0:((s:Int) == 0)=false:=by simp;omega
 have a0:=u32_andNot (a:=s) (b:=e) (by omega) (by omega)
 rw[hsub]at a0;simp only[Int.natCast_zero,IntKind.bits]at a0;simp only[c146,ycbn,ycbo,z0,a0,Int.reduceBNe,go_sem,Nat.reduceEqDiff,Nat.reduceAdd,↓reduceIte,reduceCtorEq];simp only[ybqk,ybyt,ybqa,ybpv,ybfu,Int.reduceBEq,sim_b,go_sem,Nat.reduceEqDiff,Nat.reduceAdd,↓reduceIte,reduceCtorEq]
theorem yzu(net:SV){e:Nat}(he:e<2 ^ 24)(h0:e ≠ 0):Returns Tryz.prog 146 [net,.i .i64 4,.i .u32 e,.i .u32 e] (.b true):=by
 refine Returns.of (ybwv _ _ ?_);have z0:((e:Int) == 0)=false:=by simp;omega
 have hd:difB e e=0:=by unfold difB;simp
 have a0:=u32_andNot (a:=e) (b:=e) (by omega) (by omega)
 rw[hd]at a0;simp only[Int.natCast_zero,IntKind.bits]at a0;simp only[c146,ycbn,ycbo,z0,a0,Int.reduceBNe,go_sem,Nat.reduceEqDiff,Nat.reduceAdd,↓reduceIte,reduceCtorEq];simp only[ybqk,ybyt,ybqa,ybpv,yciy,ybfu,Int.reduceBEq,sim_b,go_sem,Nat.reduceEqDiff,Nat.reduceAdd,↓reduceIte,reduceCtorEq]
theorem ybbj(net:SV)(hn:net.cells.all one1=true){e w:Nat}(he:e<2 ^ 24)(h0:e ≠ 0)(hw:w<2 ^ 32):Returns Tryz.prog 123 [net,.i .i64 3,.i .u32 e,.i .u32 w] (.i .u32 (resD e w)):=by
 refine Returns.of (yyv _ _ ?_);have a0:=u32_and (a:=w) (b:=e) (by omega) (by omega)
 have a1:=u32_neg (a:=e) (by omega) (by omega)
 have a2:=u32_and (a:=e) (b:=2 ^ 32 - e) (by omega) (by omega)
 obtain⟨W,hW⟩:∃ W,w &&& e=W:=⟨_,rfl⟩;rw[hW]at a0;simp only[IntKind.bits]at a0 a2;simp only[c123,ybeh,ybbk,ybcc,a0,hn,go_sem,Nat.reduceEqDiff,Nat.reduceAdd,Nat.reduceLT,↓reduceIte,reduceCtorEq];have hWl:W<2 ^ 24:=by rw[<- hW,Nat.and_comm];exact yclj he
 refine⟨fun q=>?_,fun q=>?_⟩
 ·have q0:W=0:=by omega
  have er:resD e w=e &&& (2 ^ 32 - e):=by unfold resD;rw[if_pos (by rw[hW];exact q0)];rfl
  rw[er];simp only[ybca,yrx,ytb,ytg,ylu,yxr,IntKind.signed,a1,a2,Int.reduceBEq,go_sem,Nat.reduceEqDiff,Nat.reduceAdd,↓reduceIte,reduceCtorEq];exact Sim.refl _
 ·have q0:¬ W=0:=by omega
  have er:resD e w=W:=by unfold resD;rw[if_neg (by rw[hW];exact q0),hW]
  rw[er];simp only[yrx,ytb,ytg,ylu,yxr,Int.reduceBEq,go_sem,Nat.reduceEqDiff,Nat.reduceAdd,↓reduceIte,reduceCtorEq];exact Sim.refl _
theorem ybej(net:SV)(hn:net.cells.all one1=true){e w:Nat}(he:e<2 ^ 24)(h0:e ≠ 0)(hw:w<2 ^ 32):Returns Tryz.prog 123 [net,.i .i64 4,.i .u32 e,.i .u32 w] (.i .u32 e):=by
 refine Returns.of (yyv _ _ ?_);have a0:=u32_and (a:=w) (b:=e) (by omega) (by omega)
 have a1:=u32_neg (a:=e) (by omega) (by omega)
 have a2:=u32_and (a:=e) (b:=2 ^ 32 - e) (by omega) (by omega)
 obtain⟨W,hW⟩:∃ W,w &&& e=W:=⟨_,rfl⟩;rw[hW]at a0;simp only[IntKind.bits]at a0 a2;simp only[c123,ybeh,ybbk,ybcc,a0,hn,go_sem,Nat.reduceEqDiff,Nat.reduceAdd,Nat.reduceLT,↓reduceIte,reduceCtorEq];refine⟨fun q=>?_,fun q=>?_⟩
 ·simp only[ybca,yrx,ytb,ytg,ylu,yyi,IntKind.signed,a1,a2,Int.reduceBEq,go_sem,Nat.reduceEqDiff,Nat.reduceAdd,↓reduceIte,reduceCtorEq];exact Sim.refl _
 ·simp only[yrx,ytb,ytg,ylu,yyi,Int.reduceBEq,go_sem,Nat.reduceEqDiff,Nat.reduceAdd,↓reduceIte,reduceCtorEq];exact Sim.refl _
end Sh
end Go.Proofs.YtpngeppkgoaimaaGreatDoor

namespace Go.Proofs.YtpngeppkgoaimaaGreatDoor
namespace Sh
open Go Ev
def ydqh:LO:=[o3 (.mv (ci' 0)) 4 0]
def ydry:LO:=[mv' 1 5 0,o3 (.bin .lss (.tmp 5) (ci' 1)) 6 1]
def ydjf:LO:=[o3 (.mv (ci' 0)) 4 0]
def ydic:LO:=[mv' 0 7 0,mv' 1 8 0,bn' .rem 7 8 9 3,mv' 9 0 7]
def ydsp:LO:=[mv' 0 10 0,o3 (.bin .lss (.tmp 10) (ci' 0)) 11 1]
def ydsq:LO:=[mv' 0 12 0,mv' 1 13 0,bn' .add 12 13 14 3,mv' 14 0 7]
def ydnh:LO:=[mv' 0 15 0,mv' 15 4 1]
def c44:SC:=(.seq (.reg false ydqh) (.seq (.seq (.reg false ydry) (.cond (.tmp 6) (.seq (.reg false ydjf) .ret) .skip)) (.seq (.reg false ydic) (.seq (.seq (.reg false ydsp) (.cond (.tmp 11) (.reg false ydsq) .skip)) (.seq (.reg false ydnh) .ret)))))
theorem ydmm:Fn 44 c44 [.t 4]:=fn_0 Tryz.func44 (by kernel_rfl) (by kernel_rfl)
def ydsv:LO:=[o3 (.mv (ci' 0)) 4 0]
def ydoj:LO:=[mv' 1 5 0,mv' 0 6 0,ln' 6 7 2,bn' .lss 5 7 8 7]
def ydvw:LO:=[mv' 0 9 0,mv' 1 10 0,ix' 1 9 10 11 3,ld' false 1 11 12 7,mv' 12 4 15]
def ydrl:LO:=[o3 (.mv (ci' 0)) 4 0]
def c50:SC:=(.seq (.reg false ydsv) (.seq (.seq (.reg false ydoj) (.cond (.tmp 8) (.seq (.reg false ydvw) .ret) .skip)) (.seq (.reg false ydrl) .ret)))
theorem ydvv:Fn 50 c50 [.t 4]:=fn_0 Tryz.func50 (by kernel_rfl) (by kernel_rfl)
def ycla:LO:=[o3 (.box 28 (.tmp 0)) 3 0,o3 (.mv (.const (.bool false))) 6 0]
def yctb:LO:=[o3 (.mv (ci' 0)) 7 0]
def yctz:LO:=[mv' 7 8 0,fa' 1 1 3 9 0,ld' false 1 9 10 2,mv' 1 11 0,ix' 1 10 11 12 14,ld' false 1 12 13 30,ln' 13 14 62,bn' .lss 8 14 15 127]
def ycir:LO:=[fa' 1 1 3 18 0,ld' false 1 18 19 1,mv' 1 20 0,ix' 1 19 20 21 7,ld' false 1 21 22 15,mv' 7 23 0,ix' 2 22 23 24 63,fa' 0 1 24 25 127,ld' false 1 25 26 255,mv' 2 27 0,bn' .eql 26 27 28 1023]
def ycvo:LO:=[o3 (.mv (.const (.bool true))) 6 0]
def ycsj:LO:=[mv' 7 16 0,o3 (.bin .add (.tmp 16) (ci' 1)) 17 1,mv' 17 7 3]
def ycte:LO:=[o3 (.mv (.const (.bool false))) 6 0]
def c117:SC:=(.seq (.reg false ycla) (.seq (.seq (.reg false yctb) (.block 0 (.loop (.seq (.seq (.reg false yctz) (.cond (.tmp 15) .skip (.exit 0))) (.seq (.block 1 (.seq (.reg false ycir) (.cond (.tmp 28) (.seq (.reg false ycvo) .ret) .skip))) (.reg false ycsj)))))) (.seq (.reg false ycte) .ret)))
theorem ydbs:Fn 117 c117 [.t 6]:=fn_0 Tryz.func117 (by kernel_rfl) (by kernel_rfl)
def ydbl:LO:=[o3 (.box 24 (.tmp 0)) 5 0,o3 (.box 28 (.tmp 1)) 6 0]
def yddj:LO:=[mv' 2 12 0,mv' 3 13 0,bn' .eql 12 13 14 3,mv' 14 15 7,⟨.load true 2 (.tmp 6),some 16,some (15,false),15⟩,⟨.mv (.tmp 2),some 17,some (15,false),15⟩,⟨.mv (.tmp 3),some 18,some (15,false),15⟩,⟨.call (.func 117) [(.tmp 16),(.tmp 17),(.tmp 18)],some 19,some (15,false),127⟩,o3 (.pick (.tmp 15) (.const (.bool true)) (.tmp 19)) 20 255]
def ybow:LO:=[mv' 3 21 0,mv' 4 22 0,o3 (.build [.i .i64 0,.i .i64 0] [(0,1,(.tmp 21)),(1,1,(.tmp 22))]) 23 3,mv' 2 24 0,mv' 4 25 0,o3 (.build [.i .i64 0,.i .i64 0] [(0,1,(.tmp 24)),(1,1,(.tmp 25))]) 26 24,o3 (.alloc 43 1 [.i .i64 0,.i .i64 0]) 10 0,o3 (.alloc 43 1 [.i .i64 0,.i .i64 0]) 11 0,o0 (.store 2 (.tmp 10) (.tmp 23)) 199,o0 (.store 2 (.tmp 11) (.tmp 26)) 511]
def ybok:LO:=[fa' 5 1 5 27 0,ld' false 1 27 28 1]
def yccd:LO:=[fa' 1 1 6 29 0,ld' false 1 29 30 1,mv' 2 31 0,ld' true 2 10 32 0,o3 (.bslice 43 2 1 [.i .i64 0,.i .i64 0] [(0,2,(.tmp 32))]) 33 8,fa' 1 1 6 34 0,ld' false 1 34 35 32,mv' 2 36 0,ix' 1 35 36 37 224,ld' false 1 37 38 480,o3 (.app 43 2 16 (.tmp 33) (.tmp 38)) 39 1016,ix' 1 30 31 40 2047,o0 (.store 1 (.tmp 40) (.tmp 39)) 4095]
def ycaa:LO:=[fa' 1 1 6 41 0,ld' false 1 41 42 1,mv' 3 43 0,ld' true 2 11 44 0,o3 (.bslice 43 2 1 [.i .i64 0,.i .i64 0] [(0,2,(.tmp 44))]) 45 8,fa' 1 1 6 46 0,ld' false 1 46 47 32,mv' 3 48 0,ix' 1 47 48 49 224,ld' false 1 49 50 480,o3 (.app 43 2 16 (.tmp 45) (.tmp 50)) 51 1016,ix' 1 42 43 52 2047,o0 (.store 1 (.tmp 52) (.tmp 51)) 4095]
def ydly:LO:=[fa' 1 1 6 53 0,ld' false 1 53 54 1,mv' 2 55 0,fa' 1 1 6 56 0,ld' false 1 56 57 8,mv' 3 58 0,fa' 1 1 6 59 0,ld' false 1 59 60 64,mv' 2 61 0,ix' 1 60 61 62 448,ld' false 1 62 63 960,ld' true 2 10 64 0,o3 (.bslice 43 2 1 [.i .i64 0,.i .i64 0] [(0,2,(.tmp 64))]) 65 2048,o3 (.app 43 2 16 (.tmp 63) (.tmp 65)) 66 8128,fa' 1 1 6 67 0,ld' false 1 67 68 16384,mv' 3 69 0,ix' 1 68 69 70 114688,ld' false 1 70 71 245760,ld' true 2 11 72 0,o3 (.bslice 43 2 1 [.i .i64 0,.i .i64 0] [(0,2,(.tmp 72))]) 73 524288,o3 (.app 43 2 16 (.tmp 71) (.tmp 73)) 74 2097088,ix' 1 54 55 75 4194247,o0 (.store 1 (.tmp 75) (.tmp 66)) 8388551,ix' 1 57 58 76 16777215,o0 (.store 1 (.tmp 76) (.tmp 74)) 33554431]
def c87:SC:=(.seq (.reg false ydbl) (.seq (.seq (.reg false yddj) (.cond (.tmp 20) .ret .skip)) (.seq (.reg false ybow) (.seq (.seq (.reg false ybok) (.cond (.tmp 28) (.seq (.reg true yccd) (.seq (.reg true ycaa) .ret)) .skip)) (.reg true ydly)))))
theorem yddm:FnM 87 c87 []:=fn_m Tryz.func87 (by kernel_rfl) (by kernel_rfl)
def ydvo:LO:=[o3 (.box 24 (.tmp 0)) 2 0,o3 (.alloc 28 1 [.a (.slice none 0 0),.a (.slice none 0 0)]) 4 0]
def ydhf:LO:=[fa' 0 1 2 10 0,ld' false 1 10 11 1,o3 (.wsub (.tmp 11) (ci' 1)) 12 3,mv' 1 13 0,cl' 44 [12,13] 14 15,o3 (.bin .add (ci' 1) (.tmp 14)) 15 31,mv' 15 5 63]
def ydtj:LO:=[mv' 5 16 0,o3 (.mk 41 1 24 [.a (.slice none 0 0)] (.tmp 16) (.tmp 16)) 17 1,o3 (.build [.a (.slice none 0 0),.a (.slice none 0 0)] [(1,1,(.tmp 17))]) 18 3,o3 (.alloc 28 1 [.a (.slice none 0 0),.a (.slice none 0 0)]) 6 0,o0 (.store 2 (.tmp 6) (.tmp 18)) 15]
def ydva:LO:=[o3 (.mv (ci' 0)) 7 0]
def ydmt:LO:=[mv' 7 19 0,mv' 5 20 0,bn' .lss 19 20 21 3]
def ydho:LO:=[fa' 3 1 2 24 0,ld' false 1 24 25 1,mv' 7 26 0,cl' 50 [25,26] 27 7,o3 (.call (.func 44) [(.tmp 27),(ci' 256)]) 28 15,mv' 28 8 31]
def ydin:LO:=[o3 (.mv (ci' 0)) 9 0]
def ydmg:LO:=[mv' 9 29 0,mv' 7 30 0,bn' .lss 29 30 31 3]
def ycra:LO:=[fa' 0 1 6 34 0,ld' false 1 34 35 1,mv' 9 36 0,ix' 1 35 36 37 7,ld' false 1 37 38 15,mv' 8 39 0,bn' .eql 38 39 40 63]
def ycpg:LO:=[mv' 8 41 0,o3 (.bin .add (.tmp 41) (ci' 1)) 42 1,o3 (.bin .rem (.tmp 42) (ci' 256)) 43 3,mv' 43 8 7,o3 (.mv (.const (.int .i64 (-1)))) 9 15]
def ydsh:LO:=[mv' 9 32 0,o3 (.bin .add (.tmp 32) (ci' 1)) 33 1,mv' 33 9 3]
def ycmn:LO:=[fa' 0 1 6 44 0,ld' false 1 44 45 1,mv' 8 46 0,o3 (.bslice 3 1 1 [.i .i64 0] [(0,1,(.tmp 46))]) 47 4,o3 (.app 3 1 8 (.tmp 45) (.tmp 47)) 48 15,fa' 0 1 6 49 31,o0 (.store 1 (.tmp 49) (.tmp 48)) 63]
def ydnv:LO:=[mv' 7 22 0,o3 (.bin .add (.tmp 22) (ci' 1)) 23 1,mv' 23 7 3]
def ycsg:LO:=[ld' true 2 6 50 0,o0 (.store 2 (.tmp 4) (.tmp 50)) 1]
def c88:SC:=(.seq (.reg false ydvo) (.seq (.reg false ydhf) (.seq (.reg false ydtj) (.seq (.seq (.reg false ydva) (.block 0 (.loop (.seq (.seq (.reg false ydmt) (.cond (.tmp 21) .skip (.exit 0))) (.seq (.block 1 (.seq (.reg false ydho) (.seq (.seq (.reg false ydin) (.block 2 (.loop (.seq (.seq (.reg false ydmg) (.cond (.tmp 31) .skip (.exit 2))) (.seq (.block 3 (.seq (.reg false ycra) (.cond (.tmp 40) (.reg false ycpg) .skip))) (.reg false ydsh)))))) (.reg false ycmn)))) (.reg false ydnv)))))) (.seq (.reg false ycsg) .ret)))))
theorem ycxm:FnM 88 c88 [.c 4 true 2]:=fn_m Tryz.func88 (by kernel_rfl) (by kernel_rfl)
def ydtz:LO:=[o3 (.box 24 (.tmp 0)) 2 0,o3 (.alloc 28 1 [.a (.slice none 0 0),.a (.slice none 0 0)]) 4 0]
def ydmp:LO:=[ld' true 6 2 7 0,mv' 1 8 0,cl' 88 [7,8] 9 3,o3 (.alloc 28 1 [.a (.slice none 0 0),.a (.slice none 0 0)]) 5 0,o0 (.store 2 (.tmp 5) (.tmp 9)) 15]
def ydto:LO:=[o3 (.mv (ci' 1)) 6 0]
def ydbo:LO:=[mv' 6 10 0,fa' 1 1 5 11 0,ld' false 1 11 12 2,ln' 12 13 6,bn' .lss 10 13 14 15]
def ydtl:LO:=[ld' true 6 2 17 0,ld' true 2 5 18 0,fa' 1 1 2 19 0,ld' false 1 19 20 4,mv' 6 21 0,o3 (.bin .sub (.tmp 21) (ci' 1)) 22 16,cl' 50 [20,22] 23 60,mv' 6 24 0,cl' 44 [23,24] 25 252,mv' 6 26 0,fa' 2 1 2 27 0,ld' false 1 27 28 1024,mv' 6 29 0,o3 (.bin .sub (.tmp 29) (ci' 1)) 30 4096,cl' 50 [28,30] 31 15868,o3 (.call (.func 44) [(.tmp 31),(ci' 15)]) 32 32252,o3 (.bin .add (ci' 1) (.tmp 32)) 33 65020,cl' 87 [17,18,25,26,33] 34 131071]
def ydmb:LO:=[mv' 6 15 0,o3 (.bin .add (.tmp 15) (ci' 1)) 16 1,mv' 16 6 3]
def ydkt:LO:=[ld' true 2 5 35 0,o0 (.store 2 (.tmp 4) (.tmp 35)) 1]
def c48:SC:=(.seq (.reg false ydtz) (.seq (.reg false ydmp) (.seq (.seq (.reg false ydto) (.block 0 (.loop (.seq (.seq (.reg false ydbo) (.cond (.tmp 14) .skip (.exit 0))) (.seq (.block 1 (.reg true ydtl)) (.reg false ydmb)))))) (.seq (.reg false ydkt) .ret))))
theorem ydez:FnM 48 c48 [.c 4 true 2]:=fn_m Tryz.func48 (by kernel_rfl) (by kernel_rfl)
def ydpp:LO:=[o3 (.box 24 (.tmp 0)) 2 0,o3 (.box 28 (.tmp 1)) 3 0,o3 (.alloc 28 1 [.a (.slice none 0 0),.a (.slice none 0 0)]) 4 0]
def ydgb:LO:=[fa' 1 1 3 7 0,ld' false 1 7 8 1,ln' 8 9 3,mv' 9 5 7]
def ydhj:LO:=[mv' 5 10 0,mv' 10 6 1]
def ychr:LO:=[mv' 6 11 0,o3 (.bin .add (.tmp 11) (ci' 1)) 12 1,fa' 1 1 2 13 0,ld' false 1 13 14 4,ln' 14 15 12,bn' .lss 12 15 16 31,mv' 16 17 63,⟨.mv (.tmp 6),some 18,some (17,true),127⟩,⟨.bin .lss (.tmp 18) (ci' 60),some 19,some (17,true),255⟩,o3 (.pick (.tmp 17) (.tmp 19) (.const (.bool false))) 20 511]
def ydsn:LO:=[ld' true 6 2 23 0,ld' true 2 3 24 0,fa' 1 1 2 25 0,ld' false 1 25 26 4,mv' 6 27 0,ix' 1 26 27 28 28,ld' false 1 28 29 60,mv' 5 30 0,cl' 44 [29,30] 31 252,fa' 1 1 2 32 0,ld' false 1 32 33 512,mv' 6 34 0,o3 (.bin .add (.tmp 34) (ci' 1)) 35 2048,ix' 1 33 35 36 7680,ld' false 1 36 37 15872,mv' 5 38 0,cl' 44 [37,38] 39 65532,fa' 2 1 2 40 0,ld' false 1 40 41 131072,mv' 6 42 0,cl' 50 [41,42] 43 1048572,o3 (.call (.func 44) [(.tmp 43),(ci' 15)]) 44 2097148,o3 (.bin .add (ci' 1) (.tmp 44)) 45 4194300,cl' 87 [23,24,31,39,45] 46 8388607]
def ydgw:LO:=[mv' 6 21 0,o3 (.bin .add (.tmp 21) (ci' 2)) 22 1,mv' 22 6 3]
def ydcb:LO:=[ld' true 2 3 47 0,o0 (.store 2 (.tmp 4) (.tmp 47)) 1]
def c47:SC:=(.seq (.reg false ydpp) (.seq (.reg false ydgb) (.seq (.seq (.reg false ydhj) (.block 0 (.loop (.seq (.seq (.reg false ychr) (.cond (.tmp 20) .skip (.exit 0))) (.seq (.block 1 (.reg true ydsn)) (.reg false ydgw)))))) (.seq (.reg false ydcb) .ret))))
theorem ycxw:FnM 47 c47 [.c 4 true 2]:=fn_m Tryz.func47 (by kernel_rfl) (by kernel_rfl)
def ydhy:LO:=[o3 (.box 24 (.tmp 0)) 2 0,o3 (.alloc 28 1 [.a (.slice none 0 0),.a (.slice none 0 0)]) 4 0]
def ydwd:LO:=[ld' true 6 2 5 0,ld' true 6 2 6 0,mv' 1 7 0,cl' 48 [6,7] 8 6,cl' 47 [5,8] 9 15,o0 (.store 2 (.tmp 4) (.tmp 9)) 31]
def c15:SC:=(.seq (.reg false ydhy) (.seq (.reg true ydwd) .ret))
theorem ycyy:FnU 15 c15 [.c 4 true 2]:=fn_u Tryz.func15 (by kernel_rfl) (by kernel_rfl)
def ydrq:LO:=[o3 (.box 28 (.tmp 0)) 3 0,o3 (.mv (.const (.slice none 0 0))) 6 0]
def ydni:LO:=[fa' 1 1 3 16 0,ld' false 1 16 17 1,ln' 17 18 3,mv' 18 7 7,o3 (.mv (ci' 0)) 8 15]
def ydnl:LO:=[o3 (.mv (ci' 0)) 9 0]
def ydsa:LO:=[mv' 9 19 0,mv' 7 20 0,bn' .lss 19 20 21 3]
def ydgp:LO:=[mv' 8 24 0,fa' 0 1 3 25 0,ld' false 1 25 26 2,mv' 9 27 0,ix' 1 26 27 28 14,ld' false 1 28 29 30,o3 (.mm true (.tmp 24) (.tmp 29)) 30 63,mv' 30 8 127]
def ydsf:LO:=[mv' 9 22 0,o3 (.bin .add (.tmp 22) (ci' 1)) 23 1,mv' 23 9 3]
def ydqr:LO:=[o3 (.mv (.const (.slice none 0 0))) 10 0]
def ydtm:LO:=[o3 (.mv (ci' 0)) 11 0]
def ydll:LO:=[mv' 11 31 0,mv' 7 32 0,bn' .lss 31 32 33 3]
def ycqr:LO:=[o3 (.mv (.const (.slice none 0 0))) 12 0]
def ycwm:LO:=[o3 (.mv (ci' 0)) 13 0]
def yckt:LO:=[mv' 13 36 0,mv' 1 37 0,ln' 37 38 2,bn' .lss 36 38 39 7]
def ycrf:LO:=[mv' 1 42 0,mv' 13 43 0,ix' 6 42 43 44 3,fa' 2 1 44 45 7,ld' false 1 45 46 15,mv' 1 47 0,mv' 13 48 0,ix' 6 47 48 49 96,fa' 3 1 49 50 224,ld' false 1 50 51 480,mv' 1 52 0,mv' 13 53 0,ix' 6 52 53 54 3072,fa' 4 1 54 55 7168,ld' false 1 55 56 15360,mv' 7 57 0,bn' .mul 56 57 58 64512,bn' .add 51 58 59 131040,mv' 1 60 0,mv' 13 61 0,ix' 6 60 61 62 786432,fa' 5 1 62 63 1835008,ld' false 1 63 64 3932160,mv' 8 65 0,bn' .mul 64 65 66 16515072,bn' .add 59 66 67 33554400,mv' 46 14 31,mv' 67 15 134217727]
def ycly:LO:=[mv' 1 68 0,mv' 13 69 0,ix' 6 68 69 70 3,fa' 1 1 70 71 7,ld' false 1 71 72 15]
def ybkk:LO:=[o3 (.bin .eql (.tmp 72) (ci' 2)) 74 0,mv' 74 73 1]
def ybjm:LO:=[o3 (.mv (ci' 0)) 14 0,o3 (.mv (ci' 1)) 15 1]
def ybkz:LO:=[o3 (.bin .eql (.tmp 72) (ci' 3)) 76 0,mv' 76 75 1]
def ybja:LO:=[fa' 1 1 3 77 0,ld' false 1 77 78 1,mv' 11 79 0,ix' 1 78 79 80 7,ld' false 1 80 81 15,ln' 81 82 31,o3 (.bin .sub (.tmp 82) (ci' 1)) 83 63,o3 (.mv (.const (.int .i64 (-1)))) 14 0,mv' 83 15 255]
def ybit:LO:=[mv' 12 84 0,mv' 14 85 0,mv' 2 86 0,mv' 11 87 0,mv' 1 88 0,ln' 88 89 16,bn' .mul 87 89 90 56,mv' 13 91 0,bn' .add 90 91 92 248,cl' 50 [86,92] 93 508,mv' 15 94 0,mv' 14 95 0,bn' .sub 94 95 96 3072,o3 (.bin .add (.tmp 96) (ci' 1)) 97 7168,cl' 44 [93,97] 98 16380,bn' .add 85 98 99 32766,o3 (.bslice 3 1 1 [.i .i64 0] [(0,1,(.tmp 99))]) 100 65534,o3 (.app 3 1 8 (.tmp 84) (.tmp 100)) 101 131071,mv' 101 12 262143]
def ybjy:LO:=[mv' 13 40 0,o3 (.bin .add (.tmp 40) (ci' 1)) 41 1,mv' 41 13 3]
def yciu:LO:=[mv' 10 102 0,mv' 12 103 0,o3 (.bslice 22 1 1 [.a (.slice none 0 0)] [(0,1,(.tmp 103))]) 104 2,o3 (.app 22 1 24 (.tmp 102) (.tmp 104)) 105 7,mv' 105 10 15]
def ydov:LO:=[mv' 11 34 0,o3 (.bin .add (.tmp 34) (ci' 1)) 35 1,mv' 35 11 3]
def ycmj:LO:=[mv' 10 106 0,mv' 106 6 1]
def c18:SC:=(.seq (.reg false ydrq) (.seq (.reg false ydni) (.seq (.seq (.reg false ydnl) (.block 0 (.loop (.seq (.seq (.reg false ydsa) (.cond (.tmp 21) .skip (.exit 0))) (.seq (.block 1 (.reg false ydgp)) (.reg false ydsf)))))) (.seq (.reg false ydqr) (.seq (.seq (.reg false ydtm) (.block 2 (.loop (.seq (.seq (.reg false ydll) (.cond (.tmp 33) .skip (.exit 2))) (.seq (.block 3 (.seq (.reg false ycqr) (.seq (.seq (.reg false ycwm) (.block 4 (.loop (.seq (.seq (.reg false yckt) (.cond (.tmp 39) .skip (.exit 4))) (.seq (.block 5 (.seq (.reg true ycrf) (.seq (.seq (.reg false ycly) (.block 6 (.seq (.reg false ybkk) (.cond (.tmp 73) (.reg false ybjm) (.seq (.reg false ybkz) (.cond (.tmp 75) (.reg true ybja) .skip)))))) (.reg false ybit)))) (.reg false ybjy)))))) (.reg false yciu)))) (.reg false ydov)))))) (.seq (.reg false ycmj) .ret))))))
theorem ydqx:Fn 18 c18 [.t 6]:=fn_0 Tryz.func18 (by kernel_rfl) (by kernel_rfl)
def ydhl:LO:=[o3 (.mv (.const (.slice none 0 0))) 4 0]
def ydqv:LO:=[o3 (.mv (.const (.slice none 0 0))) 5 0]
def ydox:LO:=[o3 (.mv (ci' 0)) 6 0]
def ydpd:LO:=[mv' 6 9 0,mv' 1 10 0,bn' .lss 9 10 11 3]
def ydiz:LO:=[mv' 0 14 0,ln' 14 15 1,o3 (.bin .eql (.tmp 15) (ci' 0)) 16 3]
def ydpa:LO:=[mv' 5 17 0,o3 (.bslice 44 1 1 [.i .u32 0] [(0,1,(.const (.int .u32 4294967295)))]) 18 0,o3 (.app 44 1 4 (.tmp 17) (.tmp 18)) 19 3,mv' 19 5 7]
def ydrd:LO:=[mv' 0 20 0,mv' 6 21 0,mv' 0 22 0,ln' 22 23 4,bn' .rem 21 23 24 14,ix' 1 20 24 25 31,ld' false 1 25 26 63,mv' 6 27 0,mv' 0 28 0,ln' 28 29 256,bn' .quo 27 29 30 896,o3 (.bin .rem (.tmp 30) (ci' 24)) 31 1920,o3 (.conv .u64 (.tmp 31)) 32 3968,mv' 26 7 127,mv' 32 8 16383]
def ydiq:LO:=[mv' 7 33 0,o3 (.bin .and (.tmp 33) (.const (.int .u32 16777215))) 34 1,mv' 34 7 3]
def ydvy:LO:=[mv' 5 35 0,mv' 7 36 0,mv' 8 37 0,bn' .shl 36 37 38 6,mv' 7 39 0,mv' 8 40 0,o3 (.bin .sub (.const (.int .u64 24)) (.tmp 40)) 41 32,bn' .shr 39 41 42 112,bn' .or 38 42 43 254,o3 (.bin .and (.tmp 43) (.const (.int .u32 16777215))) 44 510,o3 (.bslice 44 1 1 [.i .u32 0] [(0,1,(.tmp 44))]) 45 1022,o3 (.app 44 1 4 (.tmp 35) (.tmp 45)) 46 2047,mv' 46 5 4095]
def ydco:LO:=[mv' 6 12 0,o3 (.bin .add (.tmp 12) (ci' 1)) 13 1,mv' 13 6 3]
def ycxe:LO:=[mv' 5 47 0,mv' 47 4 1]
def c20:SC:=(.seq (.reg false ydhl) (.seq (.reg false ydqv) (.seq (.seq (.reg false ydox) (.block 0 (.loop (.seq (.seq (.reg false ydpd) (.cond (.tmp 11) .skip (.exit 0))) (.seq (.block 1 (.seq (.seq (.reg false ydiz) (.cond (.tmp 16) (.seq (.reg false ydpa) (.exit 1)) .skip)) (.seq (.reg true ydrd) (.seq (.reg false ydiq) (.reg false ydvy))))) (.reg false ydco)))))) (.seq (.reg false ycxe) .ret))))
theorem ydvj:Fn 20 c20 [.t 4]:=fn_0 Tryz.func20 (by kernel_rfl) (by kernel_rfl)
def ydiu:LO:=[o3 (.box 28 (.tmp 1)) 6 0,o3 (.mv (.const (.slice none 0 0))) 10 0,o3 (.mv (.const (.slice none 0 0))) 11 2,o3 (.mv (.const (.bool false))) 12 6]
def ydpw:LO:=[mv' 0 17 0,cl' 25 [17] 18 1,ld' true 2 6 19 0,mv' 2 20 0,mv' 3 21 0,mv' 4 22 0,cl' 49 [18,19,20,21,22] 23 63,mv' 23 16 127,xt' 16 0 24 255,xt' 16 1 25 255,xt' 16 2 26 255,mv' 24 13 511,mv' 25 14 3071,mv' 26 15 8191]
def ydvx:LO:=[mv' 13 27 0,mv' 14 28 0,mv' 15 29 0,o3 (.bin .eql (.tmp 29) (ci' 0)) 30 4,mv' 30 31 12,⟨.mv (.tmp 13),some 32,some (31,true),28⟩,⟨.len (.tmp 32),some 33,some (31,true),60⟩,⟨.mv (.tmp 14),some 34,some (31,true),28⟩,⟨.len (.tmp 34),some 35,some (31,true),156⟩,⟨.bin .eql (.tmp 33) (.tmp 35),some 36,some (31,true),508⟩,o3 (.pick (.tmp 31) (.tmp 36) (.const (.bool false))) 37 1020,mv' 37 38 2044,⟨.mv (.tmp 13),some 39,some (38,true),4092⟩,⟨.len (.tmp 39),some 40,some (38,true),8188⟩,⟨.bin .gtr (.tmp 40) (ci' 0),some 41,some (38,true),16380⟩,o3 (.pick (.tmp 38) (.tmp 41) (.const (.bool false))) 42 32764,mv' 27 10 4093,mv' 28 11 69631,mv' 42 12 262143]
def c16:SC:=(.seq (.reg false ydiu) (.seq (.reg true ydpw) (.seq (.reg false ydvx) .ret)))
theorem ydtu:Fn 16 c16 [.t 10,.t 11,.t 12]:=fn_0 Tryz.func16 (by kernel_rfl) (by kernel_rfl)
def ydjj:LO:=[o3 (.box 56 (.tmp 2)) 6 0,o3 (.mv (.const (.bool false))) 8 0]
def ydha:LO:=[mv' 0 11 0,ln' 11 12 1,mv' 1 13 0,ln' 13 14 4,bn' .neq 12 14 15 15,mv' 15 16 31,⟨.mv (.tmp 0),some 17,some (16,false),63⟩,⟨.len (.tmp 17),some 18,some (16,false),127⟩,⟨.bin .eql (.tmp 18) (ci' 0),some 19,some (16,false),255⟩,o3 (.pick (.tmp 16) (.const (.bool true)) (.tmp 19)) 20 511]
def ydpb:LO:=[o3 (.mv (.const (.bool false))) 8 0]
def ydlh:LO:=[o3 (.mv (.const (.bool false))) 9 0]
def ydvb:LO:=[o3 (.mv (ci' 0)) 10 0]
def yboy:LO:=[mv' 10 21 0,mv' 0 22 0,ln' 22 23 2,bn' .lss 21 23 24 7]
def ybqb:LO:=[mv' 9 27 0,mv' 27 28 1,⟨.mv (.tmp 0),some 29,some (28,true),3⟩,⟨.mv (.tmp 10),some 30,some (28,true),3⟩,⟨.idx 1 (.tmp 29) (.tmp 30),some 31,some (28,true),15⟩,⟨.load false 1 (.tmp 31),some 32,some (28,true),31⟩,⟨.un .not (.tmp 32),some 33,some (28,true),63⟩,o3 (.pick (.tmp 28) (.tmp 33) (.const (.bool false))) 34 127]
def ydyw:LO:=[o3 (.mv (.const (.bool false))) 8 0]
def ybqd:LO:=[mv' 9 35 0,mv' 35 36 1,⟨.mv (.tmp 0),some 37,some (36,false),3⟩,⟨.mv (.tmp 10),some 38,some (36,false),3⟩,⟨.idx 1 (.tmp 37) (.tmp 38),some 39,some (36,false),15⟩,⟨.load false 1 (.tmp 39),some 40,some (36,false),31⟩,o3 (.pick (.tmp 36) (.const (.bool true)) (.tmp 40)) 41 63,mv' 41 9 127]
def ybbf:LO:=[mv' 9 42 0,o3 (.un .not (.tmp 42)) 43 1,mv' 43 44 3,⟨.mv (.tmp 1),some 45,some (44,true),7⟩,⟨.mv (.tmp 10),some 46,some (44,true),7⟩,⟨.idx 5 (.tmp 45) (.tmp 46),some 47,some (44,true),31⟩,⟨.faddr 3 1 (.tmp 47),some 48,some (44,true),63⟩,⟨.load false 1 (.tmp 48),some 49,some (44,true),127⟩,⟨.faddr 3 1 (.tmp 6),some 50,some (44,true),7⟩,⟨.load false 1 (.tmp 50),some 51,some (44,true),263⟩,⟨.bin .gtr (.tmp 49) (.tmp 51),some 52,some (44,true),1023⟩,⟨.mv (.tmp 52),some 53,some (44,true),2047⟩,⟨.faddr 4 1 (.tmp 6),some 54,some (53,false),4095⟩,⟨.load false 1 (.tmp 54),some 55,some (53,false),8191⟩,⟨.bin .geq (.tmp 55) (ci' 0),some 56,some (53,false),16383⟩,⟨.mv (.tmp 56),some 57,some (53,false),32767⟩,⟨.mv (.tmp 1),some 58,some (57,true),65535⟩,⟨.mv (.tmp 10),some 59,some (57,true),65535⟩,⟨.idx 5 (.tmp 58) (.tmp 59),some 60,some (57,true),262143⟩,⟨.faddr 1 1 (.tmp 60),some 61,some (57,true),524287⟩,⟨.load false 1 (.tmp 61),some 62,some (57,true),1048575⟩,⟨.faddr 4 1 (.tmp 6),some 63,some (57,true),65535⟩,⟨.load false 1 (.tmp 63),some 64,some (57,true),2162687⟩,⟨.bin .gtr (.tmp 62) (.tmp 64),some 65,some (57,true),8388607⟩,⟨.pick (.tmp 57) (.tmp 65) (.const (.bool false)),some 66,some (53,false),16777215⟩,⟨.pick (.tmp 53) (.const (.bool true)) (.tmp 66),some 67,some (44,true),33554431⟩,o3 (.pick (.tmp 44) (.tmp 67) (.const (.bool false))) 68 67108863]
def yduc:LO:=[o3 (.mv (.const (.bool false))) 8 0]
def yxx:LO:=[mv' 10 25 0,o3 (.bin .add (.tmp 25) (ci' 1)) 26 1,mv' 26 10 3]
def ycpd:LO:=[mv' 9 69 0,mv' 69 70 1,⟨.mv (.tmp 3),some 71,some (70,false),3⟩,⟨.un .not (.tmp 71),some 72,some (70,false),7⟩,o3 (.pick (.tmp 70) (.const (.bool true)) (.tmp 72)) 73 15,mv' 73 8 31]
def c41:SC:=(.seq (.reg false ydjj) (.seq (.seq (.reg false ydha) (.cond (.tmp 20) (.seq (.reg false ydpb) .ret) .skip)) (.seq (.reg false ydlh) (.seq (.seq (.reg false ydvb) (.block 0 (.loop (.seq (.seq (.reg false yboy) (.cond (.tmp 24) .skip (.exit 0))) (.seq (.block 1 (.seq (.seq (.reg false ybqb) (.cond (.tmp 34) (.seq (.reg false ydyw) .ret) .skip)) (.seq (.reg false ybqd) (.seq (.reg true ybbf) (.cond (.tmp 68) (.seq (.reg false yduc) .ret) .skip))))) (.reg false yxx)))))) (.seq (.reg false ycpd) .ret)))))
theorem ydth:Fn 41 c41 [.t 8]:=fn_0 Tryz.func41 (by kernel_rfl) (by kernel_rfl)
end Sh
end Go.Proofs.YtpngeppkgoaimaaGreatDoor

