/- Lemmas, joined: SgO SgP SgQ SgR SgS ScWo SgT SgU SgV SgX. -/
import Derived.Test.YtiejahgklcjhkaaGreatDoorPkJ13
import Derived.Test.YtiejahgklcjhkaaGreatDoorPkJ12
import Derived.Test.YtiejahgklcjhkaaGreatDoorPkJ11
set_option linter.unusedSimpArgs false
set_option linter.unusedVariables false
namespace Go.Proofs.YtiejahgklcjhkaaGreatDoor
namespace Sh
open Go Ev
set_option maxRecDepth 8000

def ydd(p:ProgR)(g:Gr):List SV:=[.a (.string p.name),ych p.vars,yca p.rules,.rf (yei p g),yhr g.ids.length p.vars (ybc g)]
theorem yyb(p:ProgR){g:Gr}(hg:ybb g)(hp:p.vars.all VarR.ok=true)(hl:p.vars.length<=6):Returns Tryz.prog 93 [.ag (ykf p),grV g] (.rf (ydd p g)):=by
 refine Returns.of (ycvs _ _ ?_);have hS:=yyv p hg;have hT:=yzc p hg hp hl;simp only[ykf,grV]at hS hT;simp only[c93,yddd,ydaq,ykf,grV,go_sem,Nat.reduceEqDiff,Nat.reduceAdd,Nat.reduceLT,↓reduceIte,reduceCtorEq];refine hS.use ?_;simp only[thenO,go_sem,Nat.reduceEqDiff,Nat.reduceAdd,Nat.reduceLeDiff,Nat.reduceLT,↓reduceIte,reduceCtorEq];refine hT.use ?_;simp only[yhr,ydd,go_sem,Nat.reduceEqDiff,Nat.reduceAdd,Nat.reduceLeDiff,↓reduceIte]
 refine⟨by decide,by decide,Sim.refl _⟩
theorem ybqk(p:ProgT){g:Gr}(hg:ybb g)(hp:p.ok=true){c:Conf}(hc:ConfIn g.ports.length p.vars.length c){v:Nat}(hv:v<g.ports.length){r:Nat}(hr:r<p.rules.length) :
  Returns Tryz.prog 172 [.rf (yei p.raw g),ybe c,.i .i64 v,.i .i64 r] (.b (ykp g c v (p.rules.getD r default))):=by
 refine Returns.of (ycrd _ _ ?_);obtain⟨R,hR⟩:∃ R,p.rules.getD r default=R:=⟨_,rfl⟩
 have hok:R.ok p.vars.length=true:=by
  unfold ProgT.ok at hp;simp only[Bool.and_eq_true]at hp;rw[<- hR,getD_at hr];exact List.all_eq_true.1 hp.2 _ (List.getElem_mem _)
 unfold RuleT.ok at hok;simp only[Bool.and_eq_true,decide_eq_true_eq]at hok;have hV:=ywo p.raw hg hc hv R.guard hok.1.1.1 hok.1.1.2
 have hraw:p.raw.rules.getD r default=R.raw:=by
  rw[<- hR];simp[ProgT.raw,List.getD,hr]
 have hlen:p.raw.rules.length=p.rules.length:=by simp[ProgT.raw]
 simp only[yei,yca,hlen]at hV;rw[hR];simp only[c172,ycdh,ycmj,yei,yca,hraw,hlen,go_sem,Nat.reduceEqDiff,Nat.reduceAdd,Nat.reduceLeDiff,↓reduceIte,reduceCtorEq];refine⟨by omega,hV.use ?_⟩
 simp only[thenO,sim_b,ykp,go_sem,Nat.reduceEqDiff,Nat.reduceAdd,↓reduceIte,reduceCtorEq]
theorem yczs{p:ProgT}{g:Gr}{c:Conf}{v k:Nat}(hk:k<p.rules.length)(hn:(p.rules.take k).findIdx? (ykp g c v)=none)(h:ykp g c v (p.rules.getD k default)=true):ygg p g c v=k:=by
 unfold ygg
 have:p.rules.findIdx? (ykp g c v)=some k:=by
  rw[List.findIdx?_eq_some_iff_getElem];refine⟨hk,by rwa [getD_at hk]at h,fun j hj=>?_⟩
  rw[List.findIdx?_eq_none_iff]at hn;have:=hn p.rules[j] (List.mem_take_iff_getElem.2 ⟨j,by omega,rfl⟩)
  simpa using this
 rw[this]
theorem ybik{p:ProgT}{g:Gr}{c:Conf}{v:Nat}(hn:(p.rules.take p.rules.length).findIdx? (ykp g c v)=none):ygg p g c v = -1:=by
 unfold ygg;rw[List.take_length]at hn;rw[hn]
theorem ybyt(p:ProgT)(g:Gr)(c:Conf)(v:Nat):-1<=ygg p g c v/\ygg p g c v<p.rules.length:=by
 unfold ygg;split
 ·rename_i i hi
  obtain⟨h,_⟩:=List.findIdx?_eq_some_iff_getElem.1 hi;omega
 ·omega
theorem ybdh(p:ProgT){g:Gr}(hg:ybb g)(hp:p.ok=true){c:Conf}(hc:ConfIn g.ports.length p.vars.length c){v:Nat}(hv:v<g.ports.length) :
  Returns Tryz.prog 147 [.rf (ydd p.raw g),ybe c,.i .i64 v] (.i .i64 (ygg p g c v)):=by
 refine Returns.of (yctu _ _ ?_);have hlen:p.raw.rules.length=p.rules.length:=by simp[ProgT.raw]
 have h12:p.rules.length<=12:=by
  unfold ProgT.ok at hp;simp only[Bool.and_eq_true,decide_eq_true_eq]at hp;exact hp.1.2
 simp only[c147,yckx,ycac,ydd,yca,hlen,go_sem,Nat.reduceEqDiff,Nat.reduceAdd,Nat.reduceLeDiff,↓reduceIte,reduceCtorEq];refine ybd (σ:=Nat) (fun k=>⟨[(14,.i .i64 k),(13,.i .i64 p.rules.length),(0,.rf (ydd p.raw g)),(1,ybe c),(2,.i .i64 v)],[]⟩) (fun k=>k<=p.rules.length/\(p.rules.take k).findIdx? (ykp g c v)=none) (fun k=>p.rules.length - k) 0 ⟨Nat.zero_le _,by simp⟩ ?_ ?_
 ·refine yg [] [] [] ?_;simp only[ydd,yca,hlen,allQ,live,yc,Int.natCast_zero,go_sem,Nat.reduceEqDiff,↓reduceIte,reduceCtorEq]
 ·intro k ⟨hk,hno⟩;simp only[ycdx,ycfr,ycaj,ycji,yckh,ycew,ydd,yu,go_sem,Nat.reduceEqDiff,Nat.reduceAdd,Nat.reduceLeDiff,↓reduceIte,reduceCtorEq];refine⟨fun hlt=>?_,fun hlt=>?_⟩
  ·have hk':k<p.rules.length:=by omega
   refine(ybqk p hg hp hc hv hk').use ?_;simp only[thenO,yu,go_sem,Nat.reduceEqDiff,Nat.reduceAdd,↓reduceIte,reduceCtorEq];refine⟨fun h=>by rw[yczs hk' hno h],fun h=>⟨ikw (by omega) (by omega),?_⟩⟩
   refine yh (k+1) ⟨by omega,?_⟩ (by omega) ?_
   ·rw[List.take_succ_eq_append_getElem hk',List.findIdx?_append,hno];rw[getD_at hk']at h;simp[h]
   ·refine yg [] [] [] ?_;simp only[allQ,live,yc,yu,go_sem,Nat.reduceEqDiff,↓reduceIte,reduceCtorEq];simp
  ·obtain rfl:k=p.rules.length:=by omega
   rw[ybik hno]
theorem ybsu(n:Nat)(hn:n<=32)(h:FuncId)(cp:List SV)(f:Nat->Bool)(hcp4:cp.any (owned 4)=false)(hf:∀ v,v<n->Returns Tryz.prog h (.i .i64 v :: cp) (.b (f v))):Returns Tryz.prog 145 [.i .i64 n,.fn h [] cp] (.i .u32 (yhx f n)):=by
 refine Returns.of (ycsi _ _ ?_);have hcp:=yjg hcp4;simp only[c145,ycfj,ycip,ybzz,go_sem,Nat.reduceAdd,↓reduceIte,reduceCtorEq];refine ybd (σ:=Nat) (fun k=>⟨[(8,.i .i64 k),(7,.i .i64 n),(1,.fn h [] cp),(5,.i .u32 (yhx f k))],[]⟩) (fun k=>k<=n) (fun k=>n - k) 0 (Nat.zero_le _) ?_ ?_
 ·refine yg [] [] [] ?_;simp only[ycx _ hcp4,ycu _ hcp4,yhx,allQ,live,yc,Int.natCast_zero,go_sem,Nat.reduceEqDiff,↓reduceIte,reduceCtorEq]
 ·intro k hk;simp only[ycgx,ycfw,ycod,ycaa,ycjw,ycav,yu,hcp,List.any_cons,go_sem,Nat.reduceEqDiff,Nat.reduceAdd,↓reduceIte,reduceCtorEq];refine⟨fun hlt=>(hf k (by omega)).use ?_,fun hlt=>?_⟩
  ·have hk':k<n:=by omega
   have hb1:yhx f k<2 ^ 32:=Nat.lt_of_lt_of_le (ybdv f k) (Nat.pow_le_pow_right (by omega) (by omega))
   have hb2:2 ^ k<2 ^ 32:=Nat.pow_lt_pow_right (by omega) (by omega)
   simp only[thenO,IntKind.bits,go_sem,Nat.reduceEqDiff,Nat.reduceAdd,↓reduceIte,reduceCtorEq];refine⟨fun h1=>⟨by omega,ikw (by omega) (by omega),?_⟩,fun h1=>⟨ikw (by omega) (by omega),?_⟩⟩
   ·refine yh (k+1) (by omega) (by omega) ?_
    refine yg [] [] [] ?_;have e1:=yoa (v:=k) (by omega)
    have e2:=u32_or hb1 hb2;rw[Int.toNat_natCast]at e1;simp only[ycx _ hcp4,ycu _ hcp4,e1,allQ,live,yc,yu,go_sem,Nat.reduceEqDiff,↓reduceIte,reduceCtorEq];refine⟨by omega,?_⟩
    rw[show yhx f (k+1)=yhx f k ||| 2 ^ k by show(if f k then _ else _)=_;rw[if_pos h1]]
    exact e2
   ·refine yh (k+1) (by omega) (by omega) ?_
    refine yg [] [] [] ?_;simp only[ycx _ hcp4,ycu _ hcp4,allQ,live,yc,yu,go_sem,Nat.reduceEqDiff,↓reduceIte,reduceCtorEq];rw[show yhx f (k+1)=yhx f k by show(if f k then _ else _)=_;rw[if_neg (by rw[h1];simp)]]
    simp
  ·obtain rfl:k=n:=by omega
   rfl
theorem yyt(p:ProgT){g:Gr}(hg:ybb g)(hp:p.ok=true){c:Conf}(hc:ConfIn g.ports.length p.vars.length c){v:Nat}(hv:v<g.ports.length) :
  Returns Tryz.prog 146 [.i .i64 v,.rf [.rf (ydd p.raw g)],.rf [ybe c]] (.b (decide (ygg p g c v >= 0))):=by
 refine Returns.of (ycsb _ _ ?_);have hR:=ybdh p hg hp hc hv;simp only[c146,ycmm,yciy,go_sem,Nat.reduceEqDiff,Nat.reduceAdd,↓reduceIte,reduceCtorEq];refine hR.use ?_;simp only[thenO,sim_b,go_sem,Nat.reduceEqDiff,Nat.reduceAdd,↓reduceIte,reduceCtorEq]
theorem yns(p:ProgT){g:Gr}(hg:ybb g)(hp:p.ok=true){c:Conf}(hc:ConfIn g.ports.length p.vars.length c) :
  Returns Tryz.prog 94 [.rf (ydd p.raw g),ybe c] (.i .u32 (ybp p g c)):=by
 refine Returns.of (ycxg _ _ ?_);have hid:=hg.2.2.1;have h24:=hg.2.1;have hN:=ybsu g.ids.length (by omega) 146 [.rf [.rf (ydd p.raw g)],.rf [ybe c]] (fun v=>decide (ygg p g c v >= 0)) rfl (fun v hv=>yyt p hg hp hc (by omega))
 simp only[ydd]at hN;simp only[c94,ycvu,ycxj,ydd,yhr,go_sem,Nat.reduceEqDiff,Nat.reduceAdd,Nat.reduceLeDiff,Nat.reduceLT,↓reduceIte,reduceCtorEq];simp only[yhr]at hN;refine .inl (hN.use ?_);simp only[thenO,yu,go_sem,Nat.reduceEqDiff,Nat.reduceAdd,↓reduceIte,reduceCtorEq];rfl
theorem ynd(p:ProgT)(g:Gr)(c:Conf)(v:Nat):∀ (sets:List (Int × Ex)) (s0:List Int),(ylp p g c v s0 sets).length=s0.length
 | [],_=>rfl
 | a :: sets,s0=>by
  show(ylp p g c v (s0.set _ _) sets).length=_;rw[ynd p g c v sets];simp
theorem ybiu(p:ProgT)(g:Gr)(c:Conf)(v:Nat)(s0:List Int)(sets:List (Int × Ex))(k:Nat)(h:k<sets.length) :
  ylp p g c v s0 (sets.take (k+1))=(ylp p g c v s0 (sets.take k)).set (sets.getD k default).1.toNat (yji (p.vars.getD (sets.getD k default).1.toNat default).kind (ybc g v (p.vars.getD (sets.getD k default).1.toNat default)) (yea g c v (sets.getD k default).2 (-1))):=by
 unfold ylp;rw[List.take_succ_eq_append_getElem h,List.foldl_append,getD_at h];rfl
theorem ybwi(p:ProgT){g:Gr}(hg:ybb g)(hp:p.ok=true){c:Conf}(hc:ConfIn g.ports.length p.vars.length c){v:Nat}(hv:v<g.ports.length){r:Nat}(hr:r<p.rules.length) :
  Returns Tryz.prog 157 [.rf (ydd p.raw g),ybe c,.i .i64 v,.i .i64 r] (yj (ybcl p g c v r)):=by
 refine Returns.of (ycun _ _ ?_);obtain⟨R,hR⟩:∃ R,p.rules.getD r default=R:=⟨_,rfl⟩;have hp':=hp;unfold ProgT.ok at hp';simp only[Bool.and_eq_true,decide_eq_true_eq]at hp'
 have hok:R.ok p.vars.length=true:=by
  rw[<- hR,getD_at hr];exact List.all_eq_true.1 hp'.2 _ (List.getElem_mem _)
 unfold RuleT.ok at hok;simp only[Bool.and_eq_true,decide_eq_true_eq]at hok
 have hraw:p.raw.rules.getD r default=R.raw:=by
  rw[<- hR];simp[ProgT.raw,List.getD,hr]
 have hlen:p.raw.rules.length=p.rules.length:=by simp[ProgT.raw]
 have hsl:R.raw.sets.length=R.sets.length:=by simp[RuleT.raw]
 have hid:=hg.2.2.1;have hcl:=hc.len;have hrow:=hc.at_ hv;have hne:¬ (c.getD v []).length=0:=by omega
 simp only[c157,ycfp,ycla,ycbj,hne,ydd,yca,ygs,hraw,hlen,hsl,ybe,yj,go_sem,Nat.reduceEqDiff,Nat.reduceAdd,Nat.reduceLeDiff,Nat.reduceLT,↓reduceIte,reduceCtorEq];obtain⟨nv,hnv⟩:∃ k,p.vars.length=k:=⟨_,rfl⟩;have hrl:=hrow.1;rw[hnv]at hrl hok hc;rw[hnv]at hp';have hmv:ybcl p g c v r=ylp p g c v (c.getD v []) R.sets:=by unfold ybcl;rw[hR]
 have hml:∀ k,(ylp p g c v (c.getD v []) (R.sets.take k)).length=nv:=fun k=>(ynd p g c v _ _).trans hrl;refine⟨by omega,by omega,by omega,?_⟩
 refine ybd (σ:=Nat) (fun k=>⟨[(28,.i .i64 k),(27,.i .i64 R.sets.length),(26,ygs R.raw.sets),(0,.rf (ydd p.raw g)),(1,ybe c),(2,.i .i64 v),(9,.os (17,0) 0 nv true)],
   [(17,.one (some ⟨3,false,1,nv,fun i=>[.i .i64 ((ylp p g c v (c.getD v []) (R.sets.take k)).getD i 0)]⟩))]⟩) (fun k=>k<=R.sets.length) (fun k=>R.sets.length - k) 0 (Nat.zero_le _) ?_ ?_
 ·refine yg [] [] [] ?_;simp only[ydd,yca,ygs,hlen,hsl,hrl,ybe,yj,allQ,live,yc,yu,Int.natCast_zero,go_sem,Nat.reduceEqDiff,↓reduceIte,reduceCtorEq];simp[ylp]
 ·intro k hk;simp only[ycks,ycfz,ycoi,ydd,ygs,hsl,splice,go_sem,Nat.reduceEqDiff,Nat.reduceAdd,Nat.reduceLeDiff,Nat.reduceLT,↓reduceIte,reduceCtorEq];refine⟨fun hlt=>?_,fun hlt=>?_⟩
  ·have hk':k<R.sets.length:=by omega
   obtain⟨S,hS⟩:∃ S,R.sets.getD k default=S:=⟨_,rfl⟩
   have hset:R.raw.sets.getD k default=⟨S.1,S.2.ser⟩:=by
    rw[<- hS];simp[RuleT.raw,List.getD,hk']
   have hSok:=List.all_eq_true.1 hok.2 S (by rw[<- hS,getD_at hk'];exact List.getElem_mem _)
   simp only[Bool.and_eq_true,decide_eq_true_eq]at hSok;have hV:=ywo p.raw hg hc hv S.2 hSok.1.2 hSok.2;refine⟨by omega,?_⟩
   rw[hset];refine hV.use ?_;have hB:=ybkr (p.vars.getD S.1.toNat default).kind (ybc g v (p.vars.getD S.1.toNat default)) (yea g c v S.2 (-1));have hvars:p.raw.vars=p.vars:=rfl;simp only[ycld,thenO,yhr,ych,varC,splice,hvars,hnv,go_sem,Nat.reduceEqDiff,Nat.reduceAdd,Nat.reduceLeDiff,↓reduceIte,reduceCtorEq];refine⟨by omega,by omega,by omega,hB.use ?_⟩
   simp only[go_sem,Nat.reduceEqDiff,↓reduceIte];have hb2:Nat.testBit 134217727 25=true:=by decide
   simp only[ycmr,hb2,go_sem,Nat.reduceEqDiff,Nat.reduceAdd,↓reduceIte,reduceCtorEq];refine⟨by omega,by omega,ikw (by omega) (by omega),?_⟩
   refine yh (k+1) (by omega) (by omega) ?_
   refine yg [] [] [] ?_;simp only[ybiu p g c v _ _ k hk',hS,allQ,live,yc,yu,go_sem,Nat.reduceEqDiff,↓reduceIte,reduceCtorEq];refine⟨by omega,fun i hi=>?_⟩
   rw[ybyq (by rw[hml];omega)]
   by_cases q:i=S.1.toNat
   ·simp only[if_pos q];simp only[live,yc,go_sem,reduceCtorEq]
   ·simp only[if_neg q];simp only[live,yc,go_sem,reduceCtorEq]
  ·obtain rfl:k=R.sets.length:=by omega
   simp only[ycas,go_sem,Nat.reduceEqDiff,Nat.reduceAdd,↓reduceIte,reduceCtorEq];have hl:=hml R.sets.length;rw[List.take_length]at hl ⊢;rw[hmv,hl];exact Sim.refl _
theorem yjy(p:ProgT)(g:Gr)(c:Conf)(s:Nat){v:Nat}(hv:v<c.length):(ykj p g c s).getD v []=if s.testBit v then ybcl p g c v (ygg p g c v).toNat else c.getD v []:=by
 unfold ykj;simp[List.getD,hv]
theorem yii(p:ProgT)(g:Gr)(c:Conf)(s:Nat):(ykj p g c s).length=c.length:=by simp[ykj]
theorem ybvg(p:ProgT){g:Gr}(hg:ybb g)(hp:p.ok=true){c:Conf}(hc:ConfIn g.ports.length p.vars.length c){s:Nat}(hs:s<2 ^ 32)(hen:subB s (ybp p g c)) :
  Returns Tryz.prog 113 [.rf (ydd p.raw g),ybe c,.i .u32 s] (ybe (ykj p g c s)):=by
 refine Returns.of (ybwy [132] _ _ ?_);have h24:=hg.2.1;have hcl:=hc.len;have hp':=hp;unfold ProgT.ok at hp';simp only[Bool.and_eq_true,decide_eq_true_eq]at hp';have hC:=ybvt c (fun x hx=>by have:=(hc.row x hx).1;omega) (by omega)
 simp only[c113,ycej,ychm,go_sem,Nat.reduceEqDiff,Nat.reduceAdd,↓reduceIte,reduceCtorEq];refine callM_of hC [] 100 [0,1,2] [] ?_ ?_
 ·simp only[go_sem,famCln,yfn,keepF,keepO,allQ,live,yc,go_sem,Nat.reduceEqDiff,↓reduceIte,reduceCtorEq]
 ·rintro r o' ⟨rfl,rfl⟩;simp only[ycoo,ybe,yj,thenM,ylo,nuF,nu,difN,keepF,keepO,Fam.ren,OB.ren,dim,yyh,yki,go_sem,Nat.reduceEqDiff,Nat.reduceAdd,↓reduceIte,reduceCtorEq];obtain⟨n,hn⟩:∃ n,c.length=n:=⟨_,rfl⟩
  let row:Nat->Nat->List Int:=fun k i=>if i<k then(ykj p g c s).getD i []else c.getD i []
  refine ybd (σ:=Nat) (fun k=>⟨[(13,.i .i64 k),(12,.i .i64 n),(7,.os (108,0) 0 n true),(0,.rf (ydd p.raw g)),(1,ybe c),(2,.i .u32 s)],
   [(108,.one (some ⟨22,false,1,n,fun i=>[yj (row k i)]⟩))]⟩) (fun k=>k<=n) (fun k=>n - k) 0 (Nat.zero_le _) ?_ ?_
  ·refine yg [] [] [] ?_;simp only[ybe,hn,allQ,live,yc,Int.natCast_zero,go_sem,Nat.reduceEqDiff,↓reduceIte,reduceCtorEq];refine⟨Sim.refl _,fun i hi=>?_⟩;simp only[row,if_neg (Nat.not_lt_zero i)];exact Sim.refl _
  ·intro k hk;have ht:=ybfg (s:=s) (v:=k) hs;simp only[IntKind.bits]at ht;simp only[ycer,ycdb,ycal,ycdk,ycmu,ycel,IntKind.bits,ht,ypc,go_sem,Nat.reduceEqDiff,Nat.reduceAdd,Nat.reduceBEq,↓reduceIte,reduceCtorEq];refine⟨fun hlt=>⟨by omega,fun h1=>?_,fun h1=>?_⟩,fun hlt=>?_⟩
   ·have hk':k<c.length:=by omega
    have hkg:k<g.ports.length:=by omega
    have hr0:0<=ygg p g c k:=by
     have:=hen k h1;unfold ybp at this;rw[yig]at this;simp only[Bool.and_eq_true,decide_eq_true_eq]at this;exact this.2
    have hrl:=(ybyt p g c k).2;have hr1:ygg p g c k=((ygg p g c k).toNat:Int):=by omega
    refine(ybdh p hg hp hc hkg).use ?_;simp only[thenO,splice,go_sem,Nat.reduceEqDiff,Nat.reduceAdd,Nat.reduceBEq,↓reduceIte,reduceCtorEq];have hM:=ybwi p hg hp hc hkg (r:=(ygg p g c k).toNat) (by omega)
    rw[<- hr1]at hM;refine hM.use ?_;simp only[go_sem,Nat.reduceEqDiff,↓reduceIte];refine⟨by omega,by omega,ikw (by omega) (by omega),?_⟩
    refine yh (k+1) (by omega) (by omega) ?_
    refine yg [] [] [] ?_;simp only[allQ,live,yc,yu,go_sem,Nat.reduceEqDiff,↓reduceIte,reduceCtorEq];refine⟨by omega,fun i hi=>?_⟩
    by_cases q:i=k
    ·simp only[if_pos q];subst q;simp only[go_sem,live,go_sem];simp only[row,if_pos (Nat.lt_succ_self i),yjy p g c s hk',h1,↓reduceIte];exact Sim.refl _
    ·simp only[if_neg q];simp only[go_sem,live,go_sem]
     have:row (k+1) i=row k i:=by
      simp only[row]
      by_cases q1:i<k
      ·rw[if_pos q1,if_pos (by omega)]
      ·rw[if_neg q1,if_neg (by omega)]
     rw[this];exact Sim.refl _
   ·have hk':k<c.length:=by omega
    refine⟨ikw (by omega) (by omega),?_⟩
    refine yh (k+1) (by omega) (by omega) ?_
    refine yg [] [] [] ?_;simp only[allQ,live,yc,yu,go_sem,Nat.reduceEqDiff,↓reduceIte,reduceCtorEq];refine⟨by omega,fun i hi=>?_⟩
    have:row (k+1) i=row k i:=by
     simp only[row]
     by_cases q1:i<k
     ·rw[if_pos q1,if_pos (by omega)]
     ·by_cases q:i=k
      ·subst q;rw[if_neg q1,if_pos (by omega),yjy p g c s hk',if_neg (fun q=>h1 (ypc.2 q))]
      ·rw[if_neg q1,if_neg (by omega)]
    rw[this];exact Sim.refl _
   ·obtain rfl:k=n:=by omega
    rw[yii,hn];refine ygm fun q hq=>⟨⟨?_,trivial⟩,rfl⟩;simp only[row,if_pos hq];exact Sim.refl _
end Sh
end Go.Proofs.YtiejahgklcjhkaaGreatDoor

namespace Go.Proofs.YtiejahgklcjhkaaGreatDoor
namespace Sh
open Go Ev
set_option maxRecDepth 8000

def yud(p:ProgT)(g:Gr):Bool:=p.vars.all fun x=>decide (x.kind=1) == false || (decide ((ybc g 0 x).1<=(ybc g 0 x).2) && decide ((ybc g 0 x).2 - (ybc g 0 x).1+1<=4096))
def yfl(Q1 Q2:(Nat->Option ABlk)->Value->Prop)(p:ProgR):List SV:=[.a (.string p.name),.ex Q1 (ych p.vars),.ex Q2 (yca p.rules)]
theorem ybxy{Q1 Q2:(Nat->Option ABlk)->Value->Prop}(p:ProgT){g:Gr}(hg:ybb g)(hp:p.ok=true)(hf:yud p g=true)(hV:Returns Tryz.prog 191 [.ag (yfl Q1 Q2 p.raw)] (.b true))(hG:Returns Tryz.prog 96 [grV g] (.b true)) :
  Returns Tryz.prog 155 [.ag (yfl Q1 Q2 p.raw),grV g] (.i .i64 0):=by
 refine Returns.of (ycse _ _ ?_);have hp':=hp;unfold ProgT.ok at hp';simp only[Bool.and_eq_true,decide_eq_true_eq]at hp';have hvars:p.raw.vars=p.vars:=rfl;simp only[yfl,grV]at hV hG;simp only[c155,ychj,ycjo,ycig,ycmx,yccg,ycco,yfl,grV,go_sem,Nat.reduceEqDiff,Nat.reduceAdd,Nat.reduceLT,↓reduceIte,reduceCtorEq];refine hV.use ?_;simp only[thenO,go_sem,Nat.reduceEqDiff,Nat.reduceAdd,↓reduceIte]
 refine hG.use ?_;simp only[ych,hvars,go_sem,Nat.reduceEqDiff,Nat.reduceAdd,Nat.reduceLeDiff,↓reduceIte,reduceCtorEq]
 have hall:∀ k,k<p.vars.length->(p.vars.getD k default).ok=true/\((p.vars.getD k default).kind=1->(ybc g 0 (p.vars.getD k default)).1<=(ybc g 0 (p.vars.getD k default)).2/\(ybc g 0 (p.vars.getD k default)).2 - (ybc g 0 (p.vars.getD k default)).1+1<=4096):=fun k hk=>by
  rw[getD_at hk];refine⟨List.all_eq_true.1 hp'.1.1.2 _ (List.getElem_mem _),fun h1=>?_⟩;have:=List.all_eq_true.1 hf _ (List.getElem_mem hk)
  simpa [h1]using this
 refine ybd (σ:=Nat) (fun k=>⟨[(18,.i .i64 k),(17,.i .i64 p.vars.length),(16,.ex Q1 (ych p.vars)),(3,.pt (3,0) 0 0)],[(3,.one (some ⟨27,true,2,1,fun _=>[yj g.ids,yw g.ports]⟩))]⟩) (fun k=>k<=p.vars.length) (fun k=>p.vars.length - k) 0 (Nat.zero_le _) ?_ ?_
 ·refine yg [] [] [] ?_;simp only[ych,allQ,live,yc,Int.natCast_zero,go_sem,Nat.reduceEqDiff,↓reduceIte,reduceCtorEq]
 ·intro k hk;obtain⟨x,hx⟩:∃ x,p.vars.getD k default=x:=⟨_,rfl⟩;simp only[ycdp,ycjy,ycch,yckd,yblw,ybti,ybps,yblk,ych,varC,splice,yu,hx,go_sem,Nat.reduceEqDiff,Nat.reduceAdd,Nat.reduceLeDiff,Nat.reduceLT,↓reduceIte,reduceCtorEq];intro hlt;have hk':k<p.vars.length:=by omega
  obtain⟨hxo,hxb⟩:=hall k hk';rw[hx]at hxo hxb;have hB:=ytf hg hxo (v:=0) (by have:=hg.1;omega)
  simp only[varC,grV,Int.natCast_zero]at hB;obtain⟨hb1,hb2⟩:=ylc hg hxo;have hvo:=yzv hxo;refine⟨by omega,fun h1=>⟨ikw (by omega) (by omega),?_⟩,fun h1=>hB.use ?_⟩
  ·refine yh (k+1) (by omega) (by omega) ?_
   refine yg [] [] [] ?_;simp only[allQ,live,yc,yu,go_sem,Nat.reduceEqDiff,↓reduceIte,reduceCtorEq];omega
  ·obtain⟨hb3,hb4⟩:=hxb h1;obtain⟨b1,hb1'⟩:∃ b,(ybc g 0 x).1=b:=⟨_,rfl⟩;obtain⟨b2,hb2'⟩:∃ b,(ybc g 0 x).2=b:=⟨_,rfl⟩;have e:ybc g 0 x=(x.lo,x.hi+x.perNode * (g.ids.length:Int)+x.perID * maxI g.ids):=by unfold ybc;rw[if_pos h1]
   rw[e]at hb1' hb2';simp only[]at hb1' hb2';simp only[e]at hb3 hb4;rw[e];simp only[thenO,yu,go_sem,Nat.reduceEqDiff,Nat.reduceAdd,↓reduceIte,reduceCtorEq];simp only[hb1',hb2']at hb3 hb4 ⊢;refine⟨fun _=>⟨ikw (by omega) (by omega),ikw (by omega) (by omega),fun hgt=>absurd hb4 (by omega),fun _=>⟨ikw (by omega) (by omega),?_⟩⟩,fun hlt2=>absurd hb3 (by omega)⟩
   refine yh (k+1) (by omega) (by omega) ?_
   refine yg [] [] [] ?_;simp only[allQ,live,yc,yu,go_sem,Nat.reduceEqDiff,↓reduceIte,reduceCtorEq];omega
end Sh
end Go.Proofs.YtiejahgklcjhkaaGreatDoor

namespace Go.Proofs.YtiejahgklcjhkaaGreatDoor
namespace Sh
open Go Ev Go.RowKit
set_option maxRecDepth 8000

theorem ybox{g:Gr}(hg:ybb g){x:VarR}(hx:x.ok=true)(v:Nat):-4096<=(ybc g v x).1/\(ybc g v x).2<=100000:=by
 obtain⟨h1,h2,h3,h4,h5⟩:=yzv hx;obtain⟨h6,h7⟩:=ylc hg hx;have h8:=hg.deg_lt (v:=v);unfold ybc;split
 ·exact⟨by simp only[];omega,by simp only[];omega⟩
 ·split
  ·exact⟨by simp only[];omega,by simp only[];omega⟩
  ·split
   ·exact⟨by simp only[];omega,by simp only[];omega⟩
   ·exact⟨by simp only[];omega,by simp only[];omega⟩
theorem yin{p:ProgT}{g:Gr}(hg:ybb g)(hp:p.ok=true){c:Conf}(hc:yfp p g c=true):ConfIn g.ports.length p.vars.length c:=by
 have h:=(ydz _ _ _).1 hc;have hp':=hp;unfold ProgT.ok at hp';simp only[Bool.and_eq_true,decide_eq_true_eq]at hp';refine⟨h.1.trans hg.2.2.1,fun s hs=>?_⟩;obtain⟨v,hv,rfl⟩:=List.getElem_of_mem hs;have h2:=h.2 v _ (List.getElem?_eq_getElem hv);have hl:(c[v]).length=p.vars.length:=by have:=h2.1;simpa using this
 refine⟨hl,fun x hx=>?_⟩;obtain⟨i,hi,rfl⟩:=List.getElem_of_mem hx;have hi':i<p.vars.length:=by omega
 have h3:=h2.2 i (ybc g v p.vars[i]) _ (by simp[hi']) (List.getElem?_eq_getElem hi)
 have h4:=ybox hg (List.all_eq_true.1 hp'.1.1.2 _ (List.getElem_mem hi')) v;unfold InB;omega
structure Checked(Q1 Q2:(Nat->Option ABlk)->Value->Prop)(p:ProgT)(g:Gr):Prop where
 hg:ybb g
 hp:p.ok=true
 hf:yud p g=true
 hV:Returns Tryz.prog 191 [.ag (yfl Q1 Q2 p.raw)] (.b true)
theorem Checked.gv{Q1 Q2:(Nat->Option ABlk)->Value->Prop}{p:ProgT}{g:Gr}(h:Checked Q1 Q2 p g):Returns Tryz.prog 96 [grV g] (.b true):=by
 have e:=ymt (yblv h.hg);rw[(ycw g).2 h.hg]at e;exact e
section
variable {Q1 Q2:(Nat->Option ABlk)->Value->Prop} {p:ProgT} {g:Gr}
theorem yblm(h:Checked Q1 Q2 p g)(c:Conf):Returns Tryz.prog 112 [.ag (yfl Q1 Q2 p.raw),grV g,ybe c] (.i .i64 (if yfp p g c then 0 else 10)):=by
 refine Returns.of (ycte _ _ ?_);have hp':=h.hp;unfold ProgT.ok at hp';simp only[Bool.and_eq_true,decide_eq_true_eq]at hp';have hid:=h.hg.2.2.1;have h24:=h.hg.2.1;have hF:=ybxy p h.hg h.hp h.hf h.hV h.gv;have hT:=yzc p.raw h.hg hp'.1.1.2 hp'.1.1.1.2;have hW:=ybif (n:=g.ids.length) p.vars (by omega) (ybc g) c (by omega)
 simp only[yfl,grV]at hF hT;simp only[c112,yceh,yclg,yfl,grV,go_sem,Nat.reduceEqDiff,Nat.reduceAdd,Nat.reduceLT,↓reduceIte,reduceCtorEq];refine hF.use ?_;simp only[thenO,ycdt,ycaw,ycbq,go_sem,Nat.reduceEqDiff,Nat.reduceAdd,↓reduceIte,reduceCtorEq];refine⟨fun h=>absurd rfl h,hT.useS ?_ ?_⟩
 ·exact⟨yqk ⟨Sim.refl _,ypi _ _,ypi _ _,trivial⟩,Sim.refl _,trivial⟩
 simp only[yhr]at hW ⊢;simp only[go_sem,↓reduceIte];refine hW.use ?_;simp only[go_sem];have hcf:∀ b,ynw g.ids.length (fun v=>p.vars.map (ybc g v)) c=b->yfp p g c=b:=fun b h=>h;refine⟨fun h1=>?_,fun h1=>?_⟩
 ·simp only[ycgy,hcf _ h1,yu,go_sem,↓reduceIte]
 ·simp only[ycly,hcf _ h1,yu,go_sem,↓reduceIte]
theorem ybfw(k:Int):Returns Tryz.prog 108 [.i .i64 k] (.b (decide (1<=k) && decide (k<=4))):=by
 refine Returns.of (ycrc _ _ ?_);simp only[c108,ycae,ycoj,sim_b,go_sem,Nat.reduceEqDiff,Nat.reduceAdd,↓reduceIte,reduceCtorEq]
 by_cases h:k >= 1<;>simp[h]

end
end Sh
end Go.Proofs.YtiejahgklcjhkaaGreatDoor

namespace Go.Proofs.YtiejahgklcjhkaaGreatDoor
open Go

theorem yld(s a:Nat):∀ b,yfb s (a+b)=yfb s a+yfb (s >>> a) b
 | 0=>rfl
 | b+1=>by
  show yfb s (a+b)+(s.testBit (a+b)).toNat=_;rw[yld s a b];show _=yfb s a+(yfb (s >>> a) b+((s >>> a).testBit b).toNat);rw[Nat.testBit_shiftRight];omega
theorem yln(s:Nat):∀ b,b<=8->yfb (s &&& 255) b=yfb s b
 | 0,_=>rfl
 | b+1,h=>by
  show yfb _ b+_=yfb s b+_;rw[yln s b (by omega),Nat.testBit_and,show(255:Nat)=2 ^ 8 - 1 from rfl,Nat.testBit_two_pow_sub_one]
  simp[show b<8 by omega]
theorem ybhw(s:Nat):popP s=yfb (s >>> 24 &&& 255) 8+yfb (s >>> 16 &&& 255) 8+yfb (s >>> 8 &&& 255) 8+yfb (s &&& 255) 8:=by
 simp only[yln _ 8 (Nat.le_refl _)];have h1:=yld s 8 24;have h2:=yld (s >>> 8) 8 16;have h3:=yld (s >>> 8 >>> 8) 8 8;simp only[<- Nat.shiftRight_add,Nat.reduceAdd]at h1 h2 h3;unfold popP;omega
namespace Sh
open Ev Go.RowKit
set_option maxRecDepth 8000
theorem yvb:∀ k,k<256->yte.getD k 0=yfb k 8:=by decide
theorem ycpa:yte.length=256:=by decide
theorem ycrr(a v:Nat):(a:Int).fdiv (2 ^ v)=((a >>> v:Nat):Int):=by
 have h:=ybqn (a:=a) (v:=v)
 rwa [Int.toNat_natCast]at h
theorem yccf{a:Nat}(ha:a<2 ^ 32):IntKind.wrap .u32 (((BitVec.ofInt (IntKind.bits .u32) (a:Int)) &&& BitVec.ofInt (IntKind.bits .u32) 255).toNat:Int)=((a &&& 255:Nat):Int):=u32_and (b:=255) ha (by decide)
theorem ycyi{a n:Nat}(h:a<2 ^ 32):a >>> n<2 ^ 32:=by rw[Nat.shiftRight_eq_div_pow];exact Nat.lt_of_le_of_lt (Nat.div_le_self _ _) h
theorem ybzs{s:Nat}(hs:s<2 ^ 32):Returns Tryz.prog 104 [.i .u32 s] (.i .i64 (popP s)):=by
 refine Returns.of (ycts _ _ ?_);simp only[c104,ycjq,ycjm,clash,go_sem,Int.reduceToNat,Nat.reduceEqDiff,Nat.reduceAdd,↓reduceIte,reduceCtorEq];have f1:=yccf hs;have f2:=fun n=>yccf (ycyi (n:=n) hs);simp only[IntKind.bits]at f1 f2;simp only[ycrr,f1,f2,Int.toNat_natCast,ycpa];have hp:=ybhw s;have l1:s >>> 24<256:=by rw[Nat.shiftRight_eq_div_pow];omega
 have b1:∀ x:Nat,x &&& 255<256:=fun x=>Nat.lt_of_le_of_lt Nat.and_le_right (by omega)
 rw[yln (s >>> 24) 8 (Nat.le_refl _)]at hp;rw[yvb _ l1,yvb _ (b1 (s >>> 16)),yvb _ (b1 (s >>> 8)),yvb _ (b1 s)];have q1:=yio (s >>> 24) 8;have q2:=yio (s >>> 16 &&& 255) 8;have q3:=yio (s >>> 8 &&& 255) 8;have q4:=yio (s &&& 255) 8;have w1:=b1 (s >>> 16);have w2:=b1 (s >>> 8);have w3:=b1 s;have u8k:∀ x:Int,0<=x->x<=255->inK .u8 x:=fun x h1 h2=>⟨by simpa [IntKind.min,IntKind.signed]using h1,by simpa [IntKind.max,IntKind.bits,IntKind.signed]using h2⟩
 refine⟨⟨by omega,by decide⟩,⟨by omega,by omega⟩,⟨by omega,by decide⟩,by omega,u8k _ (by omega) (by omega),⟨by omega,by decide⟩,by omega,u8k _ (by omega) (by omega),by omega,u8k _ (by omega) (by omega),?_⟩
 rw[wrap_in (ikw (by omega) (by omega)),hp]
 exact Sim.refl _
def cntV(k:Cnt):List SV:=[.i .i64 k.steps,.i .i64 k.moves,.i .i64 k.rounds,.i .i64 k.begun,.i .u32 k.pend]
theorem ybrs{e:Nat}(he:e<2 ^ 24):Returns Tryz.prog 195 [.i .u32 e] (.ag (cntV (ycj e))):=by
 refine Returns.of (ycpm _ _ ?_);simp only[c195,yceq,ycev,go_sem,Nat.reduceEqDiff,Nat.reduceAdd,Nat.reduceLT,↓reduceIte,reduceCtorEq];have e1:e &&& 16777215=e:=by rw[show(16777215:Nat)=2 ^ 24 - 1 from rfl,Nat.and_two_pow_sub_one_of_lt_two_pow he]
 have e2:IntKind.wrap .u32 (((BitVec.ofInt (IntKind.bits .u32) (e:Int)) &&& BitVec.ofInt (IntKind.bits .u32) 16777215).toNat:Int)=((e &&& 16777215:Nat):Int):=u32_and (b:=16777215) (by omega) (by decide)
 simp only[IntKind.bits]at e2;rw[e2,e1];exact Sim.refl _
def usV(l:List Nat):SV:=.sl 1 l.length (fun k=>[.i .u32 ((l.getD k 0:Nat):Int)])
theorem ydgc{a:Nat}(ha:a<2 ^ 24):IntKind.wrap .u32 (((BitVec.ofInt (IntKind.bits .u32) (a:Int)) &&& ~~~BitVec.ofInt (IntKind.bits .u32) 16777215).toNat:Int)=0:=by
 have h:=u32_andNot (a:=a) (b:=16777215) (by omega) (by decide)
 have e:difB a 16777215=0:=by
  rw[ydj];intro i;rw[yhk,show(16777215:Nat)=2 ^ 24 - 1 from rfl,Nat.testBit_two_pow_sub_one]
  by_cases hi:i<24
  ·simp[hi]
  ·rw[Nat.testBit_lt_two_pow (Nat.lt_of_lt_of_le ha (Nat.pow_le_pow_right (by omega) (by omega)))]
   rfl
 rw[e]at h;exact h
theorem possible_ret(l:List Nat)(hl:l.length<=10)(h:∀ k,k<l.length->l.getD k 0<2 ^ 24):Returns Tryz.prog 223 [usV l] (.b true):=by
 refine Returns.of (ycub _ _ ?_);simp only[c223,ycna,ycjj,usV,go_sem,Nat.reduceAdd,↓reduceIte,reduceCtorEq];refine ybd (σ:=Nat) (fun k=>⟨[(7,.i .i64 k),(6,.i .i64 l.length),(5,usV l)],[]⟩) (fun k=>k<=l.length) (fun k=>l.length - k) 0 (Nat.zero_le _) ?_ ?_
 ·refine yg [] [] [] ?_;simp only[usV,allQ,live,yc,Int.natCast_zero,go_sem,Nat.reduceEqDiff,↓reduceIte,reduceCtorEq]
 ·intro k hk;simp only[ycdc,yceo,ycgm,ycan,usV,go_sem,Nat.reduceEqDiff,Nat.reduceAdd,↓reduceIte,reduceCtorEq];refine⟨fun hlt=>?_,fun hlt=>?_⟩
  ·have hk':k<l.length:=by omega
   have e0:=ydgc (h k hk');simp only[IntKind.bits]at e0;rw[e0];refine⟨⟨by omega,by omega⟩,fun h=>absurd rfl h,fun _=>?_⟩
   simp only[ycmh,go_sem,Nat.reduceEqDiff,Nat.reduceAdd,↓reduceIte,reduceCtorEq];refine⟨ikw (by omega) (by omega),?_⟩
   refine yh (k+1) (by omega) (by omega) ?_
   refine yg [] [] [] ?_;simp only[allQ,live,yc,yu,go_sem,Nat.reduceEqDiff,↓reduceIte,reduceCtorEq];omega
  ·simp only[ycaq,sim_b,go_sem,↓reduceIte]
theorem CValid_ret {k : Cnt} (hk : k.ok) (hs : k.steps <= 4096) : Returns Tryz.prog 222 [.ag (cntV k)] (.b true) := by
  refine Returns.of (c222_ok _ _ ?_)
  obtain ⟨h1, h2, h3, h4, h5, h6⟩ := hk
  have hP := possible_ret [k.pend] (by simp) (fun i hi => by have : i = 0 := by simp at hi; omega
                                                             subst this; exact h6)
  have f1 : decide ((k.steps : Int) < 0) = false := by simp
  have f2 : decide ((k.steps : Int) > 4096) = false := by simp; omega
  have f3 : decide ((k.rounds : Int) < 0) = false := by simp
  have f4 : decide ((k.rounds : Int) > k.begun) = false := by simp; omega
  have f5 : decide ((k.begun : Int) > k.steps) = false := by simp; omega
  have f6 : decide ((k.begun : Int) > k.rounds + 1) = false := by simp; omega
  have f7 : decide ((k.steps : Int) <= k.moves) = true := by simp; omega
  have f8 : decide ((k.moves : Int) <= 24 * k.steps) = true := by simp; omega
  simp (maxSteps := 5000000) only [c222, c222_0, c222_1, cntV, f1, f2, f3, f4, f5, go_sem, Nat.reduceEqDiff, Nat.reduceAdd, Nat.reduceLeDiff, Nat.reduceLT, ↓reduceIte, reduceCtorEq]
  simp only [c222_3, f6, go_sem, Nat.reduceEqDiff, Nat.reduceAdd, Nat.reduceLeDiff, ↓reduceIte, reduceCtorEq]
  refine ⟨ikw (by omega) (by omega), ?_⟩
  simp (maxSteps := 5000000) only [c222_5, f7, f8, go_sem, Nat.reduceEqDiff, Nat.reduceAdd, Nat.reduceLeDiff, Nat.reduceLT, ↓reduceIte, reduceCtorEq]
  refine ⟨ikw (by omega) (by omega), ?_⟩
  refine .inl ⟨fun q hq => ?_, hP.useS ?_ ?_⟩
  · obtain rfl : q = 0 := by omega
    simp only [go_sem]
  · exact ⟨sim_sl fun q hq => by obtain rfl : q = 0 := by omega
                                 rfl, trivial⟩
  simp only [thenO, sim_b, go_sem, Nat.reduceEqDiff, Nat.reduceAdd, ↓reduceIte, reduceCtorEq]
theorem ycud{k:Cnt}(hk:k.ok)(hs:k.steps<4096){s e:Nat}(h0:s ≠ 0)(hs24:s<2 ^ 24)(he:e<2 ^ 24):Returns Tryz.prog 197 [.ag (cntV k),.i .u32 s,.i .u32 e] (.tp [.ag (cntV (addP k s e)),.i .i64 0]):=by
 refine Returns.of (yctn _ _ ?_);have hV:=CValid_ret hk (by omega)
 have hO:=ybzs (s:=s) (by omega)
 have hP:=possible_ret [s,e] (by simp) (fun i hi=>by
  have:i=0\/i=1:=by simp at hi;omega
  rcases this with rfl | rfl
  ·exact hs24
  ·exact he)
 obtain⟨h1,h2,h3,h4,h5,h6⟩:=hk;simp only[cntV]at hV;simp only[c197,ycgz,ycbo,cntV,go_sem,Nat.reduceEqDiff,Nat.reduceAdd,Nat.reduceLT,↓reduceIte];refine hV.use ?_;have z0:((s:Int) == 0)=false:=by simp;omega
 simp only[thenO,ycll,z0,go_sem,Nat.reduceEqDiff,Nat.reduceAdd,Nat.reduceLeDiff,Nat.reduceLT,↓reduceIte,reduceCtorEq];refine .inl ⟨fun q hq=>?_,hP.useS ?_ ?_⟩
 ·have:q=0\/q=1:=by omega
  rcases this with rfl | rfl
  ·simp only[go_sem]
  ·simp only[go_sem]
 ·exact⟨sim_sl fun q hq=>by
   have:q=0\/q=1:=by omega
   rcases this with rfl | rfl<;>rfl,trivial⟩
 have z1:((k.steps:Int) == 4096)=false:=by simp;omega
 simp only[ycdq,ycfo,z1,go_sem,Nat.reduceEqDiff,Nat.reduceAdd,Nat.reduceLeDiff,↓reduceIte,reduceCtorEq];refine⟨ikw (by omega) (by omega),?_⟩
 simp only[ychc,clash,go_sem,Nat.reduceEqDiff,Nat.reduceAdd,Nat.reduceLeDiff,↓reduceIte,reduceCtorEq];refine hO.use ?_;have hpop:=ybrf s hs24;have a1:=u32_andNot (a:=k.pend) (b:=s) (by omega) (by omega)
 have hd:difB k.pend s<2 ^ 24:=yvf h6;have a2:=u32_and (a:=difB k.pend s) (b:=e) (by omega) (by omega)
 obtain⟨P,hPe⟩:∃ P,difB k.pend s &&& e=P:=⟨_,rfl⟩;rw[hPe]at a2;simp only[IntKind.bits]at a1 a2;simp only[thenO,go_sem,Nat.reduceEqDiff,Nat.reduceAdd,Nat.reduceLeDiff,↓reduceIte,reduceCtorEq];refine⟨ikw (by omega) (by omega),?_⟩
 simp only[yccn,ybqj,yblx,a1,a2,go_sem,Nat.reduceEqDiff,Nat.reduceAdd,Nat.reduceLeDiff,↓reduceIte,reduceCtorEq];refine⟨by decide,ikw (by omega) (by omega),fun hP0=>?_,fun hP0=>?_⟩
 ·have hP1:P=0:=by omega
  have ea:addP k s e=⟨k.steps+1,k.moves+popP s,k.rounds+1,k.rounds+1,e⟩:=by unfold addP;simp only[hPe,hP1,if_true]
  rw[ea];simp only[ybta,ybqs,yzx,go_sem,Nat.reduceEqDiff,Nat.reduceAdd,Nat.reduceLeDiff,↓reduceIte,reduceCtorEq];exact Sim.refl _
 ·have hP1:¬ P=0:=by omega
  have ea:addP k s e=⟨k.steps+1,k.moves+popP s,k.rounds,k.rounds+1,P⟩:=by unfold addP;simp only[hPe,if_neg hP1]
  rw[ea];simp only[yzx,go_sem,Nat.reduceEqDiff,Nat.reduceAdd,↓reduceIte];exact Sim.refl _
end Sh
end Go.Proofs.YtiejahgklcjhkaaGreatDoor

namespace Go.Proofs.YtiejahgklcjhkaaGreatDoor
open Go
def netP(ls:List (Int × Int)):Nat:=ls.foldl (fun a l=>a ||| 2 ^ l.1.toNat) 0
theorem ybpv(ls:List (Int × Int))(k:Nat)(h:k<ls.length):netP (ls.take (k+1))=netP (ls.take k) ||| 2 ^ (ls.getD k (0,0)).1.toNat:=by
 unfold netP;rw[List.take_succ_eq_append_getElem h,List.foldl_append,Sh.getD_at h];rfl
theorem ycrt(ls:List (Int × Int))(h:∀ l ∈ ls,l.1<24):netP ls<2 ^ 24:=by
 unfold netP
 have:∀ (ls:List (Int × Int)) (a:Nat),(∀ l ∈ ls,l.1<24)->a<2 ^ 24->ls.foldl (fun a l=>a ||| 2 ^ l.1.toNat) a<2 ^ 24:=by
  intro ls
  induction ls with
  | nil=>intro a _ h;exact h
  | cons l ls ih =>
   intro a hl ha;refine ih _ (fun x hx=>hl x (List.mem_cons_of_mem _ hx)) (Nat.or_lt_two_pow ha ?_);have:=hl l List.mem_cons_self;exact Nat.pow_lt_pow_right (by omega) (by omega)
 exact this ls 0 h (by decide)
namespace Sh
open Ev Go.RowKit
set_option maxRecDepth 8000
theorem u32k{a:Nat}(h:a<2 ^ 32):inK .u32 (a:Int):=⟨by simp[IntKind.min,IntKind.signed],by simp[IntKind.max,IntKind.bits,IntKind.signed];omega⟩
theorem ybkv{g:Gr}(hg:ybb g):Returns Tryz.prog 109 [grV g] (.i .u32 (2 ^ g.ids.length - 1:Nat)):=by
 refine Returns.of (yctb _ _ ?_);have h3:=hg.2.2.1;have h4:=hg.2.1;simp only[c109,yclw,ycbw,grV,yj,go_sem,Nat.reduceEqDiff,Nat.reduceAdd,Nat.reduceLeDiff,Nat.reduceLT,↓reduceIte,reduceCtorEq];have h5:=yoa (v:=g.ids.length) (by omega)
 rw[Int.toNat_natCast]at h5;have h6:2 ^ g.ids.length<2 ^ 32:=Nat.pow_lt_pow_right (by omega) (by omega)
 have h7:1<=2 ^ g.ids.length:=Nat.one_le_two_pow;have h8:(((2 ^ g.ids.length:Nat):Int)) - 1=((2 ^ g.ids.length - 1:Nat):Int):=by omega
 rw[h5,h8];refine⟨⟨by omega,by show _<((32:Nat):Int);omega⟩,u32k (by omega),Sim.refl _⟩
theorem ybgd{g:Gr}(hg:ybb g):Returns Tryz.prog 110 [grV g] (usV (g.ports.map netP)):=by
 refine Returns.of (ycqh _ _ ?_);have h3:=hg.2.2.1;have h4:=hg.2.1;simp only[c110,ychz,ycgw,ycdg,grV,yj,yw,go_sem,Nat.reduceEqDiff,Nat.reduceAdd,Nat.reduceLT,↓reduceIte,reduceCtorEq];refine⟨by omega,?_⟩
 obtain⟨n,hn⟩:∃ n,g.ports.length=n:=⟨_,rfl⟩
 let val:Nat->Nat->Nat:=fun k i=>if i<k then netP (g.ports.getD i [])else 0
 refine ybd (σ:=Nat) (fun k=>⟨[(15,.i .i64 k),(14,.i .i64 n),(13,yw g.ports),(3,.os (11,0) 0 n true)],
  [(11,.one (some ⟨40,false,1,n,fun i=>[.i .u32 (val k i:Nat)]⟩))]⟩) (fun k=>k<=n) (fun k=>n - k) 0 (Nat.zero_le _) ?_ ?_
 ·refine yg [] [] [] ?_;simp only[yw,hn,allQ,live,yc,yu,Int.natCast_zero,go_sem,Nat.reduceEqDiff,↓reduceIte,reduceCtorEq];simp[val]
 ·intro k hk;obtain⟨L,hL⟩:∃ L,g.ports.getD k []=L:=⟨_,rfl⟩;simp only[yccw,ycov,ycgf,yw,yba,hn,hL,go_sem,Nat.reduceEqDiff,Nat.reduceAdd,↓reduceIte,reduceCtorEq];refine⟨fun hlt=>?_,fun hlt=>?_⟩
  ·have hk':k<n:=by omega
   have hkp:k<g.ports.length:=by omega
   have hlk:∀ l ∈ L,0<=l.1/\l.1<24:=fun l hl=>by
    rw[<- hL,getD_at hkp]at hl;obtain⟨a1,a2,_⟩:=(hg.2.2.2.2.2.1 ⟨k,hkp⟩).1 l hl;exact⟨a1,by omega⟩
   have hdeg:=hg.deg_lt (v:=k);rw[hL]at hdeg;refine⟨by omega,?_⟩
   obtain⟨m,hm⟩:∃ m,L.length=m:=⟨_,rfl⟩;rw[hm]
   let val2:Nat->Nat->Nat:=fun j i=>if i<k then netP (g.ports.getD i [])else if i=k then netP (L.take j)else 0
   refine ybd (σ:=Nat) (fun j=>⟨[(22,.i .i64 j),(21,.i .i64 m),(20,yba L),(4,.i .i64 k),(15,.i .i64 k),(14,.i .i64 n),(13,yw g.ports),(3,.os (11,0) 0 n true)],
    [(11,.one (some ⟨40,false,1,n,fun i=>[.i .u32 (val2 j i:Nat)]⟩))]⟩) (fun j=>j<=m) (fun j=>m - j) 0 (Nat.zero_le _) ?_ ?_
   ·refine yg [] [] [] ?_;simp only[yw,yba,hn,hm,allQ,live,yc,yu,Int.natCast_zero,go_sem,Nat.reduceEqDiff,↓reduceIte,reduceCtorEq];intro i hi;simp only[val,val2]
    by_cases q:i<k
    ·rw[if_pos q,if_pos q]
    ·rw[if_neg q,if_neg q]
     by_cases q2:i=k
     ·rw[if_pos q2];rfl
     ·rw[if_neg q2]
   ·intro j hj;obtain⟨l,hl⟩:∃ l,L.getD j (0,0)=l:=⟨_,rfl⟩;simp only[ycnb,ycnz,yw,yba,hn,hm,hl,go_sem,Nat.reduceEqDiff,Nat.reduceAdd,Nat.reduceLT,↓reduceIte,reduceCtorEq];refine⟨fun hlj=>⟨by omega,?_⟩,fun hlj=>?_⟩
    ·have hj':j<L.length:=by omega
     have hl2:=hlk l (by rw[<- hl,getD_at hj'];exact List.getElem_mem _)
     obtain⟨t,ht⟩:∃ t:Nat,l.1=t:=⟨l.1.toNat,by omega⟩
     have h24t:t<24:=by omega
     have hval:val2 j k<2 ^ 24:=by
      simp only[val2,if_neg (Nat.lt_irrefl k),if_true];exact ycrt _ fun l hl=>(hlk l (List.mem_of_mem_take hl)).2
     have hp:2 ^ t<2 ^ 24:=Nat.pow_lt_pow_right (by omega) h24t
     have hsh:=yoa (v:=t) (by omega)
     have hor:=u32_or (a:=val2 j k) (b:=2 ^ t) (by omega) (by omega)
     rw[Int.toNat_natCast]at hsh;simp only[IntKind.bits]at hor;simp only[ycds,ht,clash,hsh,hor,go_sem,Nat.reduceEqDiff,Nat.reduceAdd,Nat.reduceLeDiff,↓reduceIte,reduceCtorEq];refine⟨by omega,by omega,⟨by omega,by show _<((32:Nat):Int);omega⟩,by omega,by omega,by decide,?_⟩
     simp only[ycbi,go_sem,Nat.reduceEqDiff,Nat.reduceAdd,↓reduceIte,reduceCtorEq];refine⟨ikw (by omega) (by omega),?_⟩
     refine yh (j+1) (by omega) (by omega) ?_
     refine yg [] [] [] ?_;simp only[allQ,live,yc,yu,go_sem,Nat.reduceEqDiff,↓reduceIte,reduceCtorEq];refine⟨by omega,fun i hi=>?_⟩
     have hsn:=ybpv L j hj';rw[hl,ht,Int.toNat_natCast]at hsn
     by_cases q:i=k
     ·simp only[if_pos q];subst q;simp only[go_sem,live,yu,go_sem,reduceCtorEq];simp only[val2,if_neg (Nat.lt_irrefl i),if_true,hsn]
     ·simp only[if_neg q];simp only[go_sem,live,yu,go_sem,reduceCtorEq];simp only[val2,if_neg q]
    ·obtain rfl:j=m:=by omega
     simp only[ybtk,go_sem,Nat.reduceEqDiff,Nat.reduceAdd,↓reduceIte,reduceCtorEq];refine⟨ikw (by omega) (by omega),?_⟩
     refine yh (k+1) (by omega) (by omega) ?_
     refine yg [] [] [] ?_;simp only[allQ,live,yc,yu,go_sem,Nat.reduceEqDiff,↓reduceIte,reduceCtorEq];refine⟨by omega,fun i hi=>?_⟩
     simp only[val,val2]
     by_cases q:i<k
     ·rw[if_pos q,if_pos (by omega)]
     ·rw[if_neg q]
      by_cases q2:i=k
      ·rw[if_pos q2,if_pos (by omega),q2,hL,<- hm,List.take_length]
      ·rw[if_neg q2,if_neg (by omega)]
  ·obtain rfl:k=n:=by omega
   simp only[ybnd,go_sem,Nat.reduceEqDiff,Nat.reduceAdd,↓reduceIte,reduceCtorEq];unfold usV;rw[List.length_map,hn];refine sim_sl fun i hi=>?_;have hi':i<g.ports.length:=by omega
   simp only[val,if_pos hi];simp[List.getD,hi']
theorem yyp(net:SV){e:Nat}(he:e<2 ^ 24)(h0:e ≠ 0):Returns Tryz.prog 196 [net,.i .i64 4,.i .u32 e,.i .u32 e] (.b true):=by
 refine Returns.of (ycuc _ _ ?_);have z0:((e:Int) == 0)=false:=by simp;omega
 have hd:difB e e=0:=by unfold difB;simp
 have a0:=u32_andNot (a:=e) (b:=e) (by omega) (by omega)
 rw[hd]at a0;simp only[Int.natCast_zero,IntKind.bits]at a0;simp only[c196,yclp,ybzx,z0,a0,Int.reduceBNe,go_sem,Nat.reduceEqDiff,Nat.reduceAdd,↓reduceIte,reduceCtorEq];simp only[ycba,ycbl,ycgs,ycjc,ycjl,ybld,Int.reduceBEq,sim_b,go_sem,Nat.reduceEqDiff,Nat.reduceAdd,↓reduceIte,reduceCtorEq]
theorem yyk(net:SV)(hn:net.cells.all one1=true){e w:Nat}(he:e<2 ^ 24)(h0:e ≠ 0)(hw:w<2 ^ 32):Returns Tryz.prog 111 [net,.i .i64 4,.i .u32 e,.i .u32 w] (.i .u32 e):=by
 refine Returns.of (ybtg _ _ ?_);have a0:=u32_and (a:=w) (b:=e) (by omega) (by omega)
 have a1:=u32_neg (a:=e) (by omega) (by omega)
 have a2:=u32_and (a:=e) (b:=2 ^ 32 - e) (by omega) (by omega)
 obtain⟨W,hW⟩:∃ W,w &&& e=W:=⟨_,rfl⟩;rw[hW]at a0;simp only[IntKind.bits]at a0 a2;simp only[c111,ybnw,ybsg,ybrz,a0,hn,go_sem,Nat.reduceEqDiff,Nat.reduceAdd,Nat.reduceLT,↓reduceIte,reduceCtorEq];refine⟨fun q=>?_,fun q=>?_⟩
 ·simp only[ybtq,ybdy,ybeo,ybfm,yvd,yvl,IntKind.signed,a1,a2,Int.reduceBEq,go_sem,Nat.reduceEqDiff,Nat.reduceAdd,↓reduceIte,reduceCtorEq];exact Sim.refl _
 ·simp only[ybdy,ybeo,ybfm,yvd,yvl,Int.reduceBEq,go_sem,Nat.reduceEqDiff,Nat.reduceAdd,↓reduceIte,reduceCtorEq];exact Sim.refl _
end Sh
end Go.Proofs.YtiejahgklcjhkaaGreatDoor

namespace Go.Proofs.YtiejahgklcjhkaaGreatDoor
namespace Sh
open Go Ev
def ydcp:LO:=[o3 (.mv (ci' 0)) 4 0]
def ycyj:LO:=[mv' 1 5 0,o3 (.bin .lss (.tmp 5) (ci' 1)) 6 1]
def yczg:LO:=[o3 (.mv (ci' 0)) 4 0]
def ycxp:LO:=[mv' 0 7 0,mv' 1 8 0,bn' .rem 7 8 9 3,mv' 9 0 7]
def ycyh:LO:=[mv' 0 10 0,o3 (.bin .lss (.tmp 10) (ci' 0)) 11 1]
def ycxh:LO:=[mv' 0 12 0,mv' 1 13 0,bn' .add 12 13 14 3,mv' 14 0 7]
def ycxy:LO:=[mv' 0 15 0,mv' 15 4 1]
def c39:SC:=(.seq (.reg false ydcp) (.seq (.seq (.reg false ycyj) (.cond (.tmp 6) (.seq (.reg false yczg) .ret) .skip)) (.seq (.reg false ycxp) (.seq (.seq (.reg false ycyh) (.cond (.tmp 11) (.reg false ycxh) .skip)) (.seq (.reg false ycxy) .ret)))))
theorem ycyl:Fn 39 c39 [.t 4]:=fn_0 Tryz.func39 (by kernel_rfl) (by kernel_rfl)
def ydag:LO:=[o3 (.mv (ci' 0)) 4 0]
def ycxn:LO:=[mv' 1 5 0,mv' 0 6 0,ln' 6 7 2,bn' .lss 5 7 8 7]
def ycxb:LO:=[mv' 0 9 0,mv' 1 10 0,ix' 1 9 10 11 3,ld' false 1 11 12 7,mv' 12 4 15]
def ydda:LO:=[o3 (.mv (ci' 0)) 4 0]
def c77:SC:=(.seq (.reg false ydag) (.seq (.seq (.reg false ycxn) (.cond (.tmp 8) (.seq (.reg false ycxb) .ret) .skip)) (.seq (.reg false ydda) .ret)))
theorem ycwr:Fn 77 c77 [.t 4]:=fn_0 Tryz.func77 (by kernel_rfl) (by kernel_rfl)
def ycag:LO:=[o3 (.box 27 (.tmp 0)) 3 0,o3 (.mv (.const (.bool false))) 6 0]
def ycik:LO:=[o3 (.mv (ci' 0)) 7 0]
def yckf:LO:=[mv' 7 8 0,fa' 1 1 3 9 0,ld' false 1 9 10 2,mv' 1 11 0,ix' 1 10 11 12 14,ld' false 1 12 13 30,ln' 13 14 62,bn' .lss 8 14 15 127]
def yclz:LO:=[fa' 1 1 3 18 0,ld' false 1 18 19 1,mv' 1 20 0,ix' 1 19 20 21 7,ld' false 1 21 22 15,mv' 7 23 0,ix' 2 22 23 24 63,fa' 0 1 24 25 127,ld' false 1 25 26 255,mv' 2 27 0,bn' .eql 26 27 28 1023]
def ycgu:LO:=[o3 (.mv (.const (.bool true))) 6 0]
def ycfa:LO:=[mv' 7 16 0,o3 (.bin .add (.tmp 16) (ci' 1)) 17 1,mv' 17 7 3]
def yccc:LO:=[o3 (.mv (.const (.bool false))) 6 0]
def c128:SC:=(.seq (.reg false ycag) (.seq (.seq (.reg false ycik) (.block 0 (.loop (.seq (.seq (.reg false yckf) (.cond (.tmp 15) .skip (.exit 0))) (.seq (.block 1 (.seq (.reg false yclz) (.cond (.tmp 28) (.seq (.reg false ycgu) .ret) .skip))) (.reg false ycfa)))))) (.seq (.reg false yccc) .ret)))
theorem ycqk:Fn 128 c128 [.t 6]:=fn_0 Tryz.func128 (by kernel_rfl) (by kernel_rfl)
def ycqz:LO:=[o3 (.box 24 (.tmp 0)) 5 0,o3 (.box 27 (.tmp 1)) 6 0]
def ycqc:LO:=[mv' 2 12 0,mv' 3 13 0,bn' .eql 12 13 14 3,mv' 14 15 7,⟨.load true 2 (.tmp 6),some 16,some (15,false),15⟩,⟨.mv (.tmp 2),some 17,some (15,false),15⟩,⟨.mv (.tmp 3),some 18,some (15,false),15⟩,⟨.call (.func 128) [(.tmp 16),(.tmp 17),(.tmp 18)],some 19,some (15,false),127⟩,o3 (.pick (.tmp 15) (.const (.bool true)) (.tmp 19)) 20 255]
def ybjd:LO:=[mv' 3 21 0,mv' 4 22 0,o3 (.build [.i .i64 0,.i .i64 0] [(0,1,(.tmp 21)),(1,1,(.tmp 22))]) 23 3,mv' 2 24 0,mv' 4 25 0,o3 (.build [.i .i64 0,.i .i64 0] [(0,1,(.tmp 24)),(1,1,(.tmp 25))]) 26 24,o3 (.alloc 95 1 [.i .i64 0,.i .i64 0]) 10 0,o3 (.alloc 95 1 [.i .i64 0,.i .i64 0]) 11 0,o0 (.store 2 (.tmp 10) (.tmp 23)) 199,o0 (.store 2 (.tmp 11) (.tmp 26)) 511]
def ybhc:LO:=[fa' 5 1 5 27 0,ld' false 1 27 28 1]
def ybrc:LO:=[fa' 1 1 6 29 0,ld' false 1 29 30 1,mv' 2 31 0,ld' true 2 10 32 0,o3 (.bslice 95 2 1 [.i .i64 0,.i .i64 0] [(0,2,(.tmp 32))]) 33 8,fa' 1 1 6 34 0,ld' false 1 34 35 32,mv' 2 36 0,ix' 1 35 36 37 224,ld' false 1 37 38 480,o3 (.app 95 2 16 (.tmp 33) (.tmp 38)) 39 1016,ix' 1 30 31 40 2047,o0 (.store 1 (.tmp 40) (.tmp 39)) 4095]
def ybpi:LO:=[fa' 1 1 6 41 0,ld' false 1 41 42 1,mv' 3 43 0,ld' true 2 11 44 0,o3 (.bslice 95 2 1 [.i .i64 0,.i .i64 0] [(0,2,(.tmp 44))]) 45 8,fa' 1 1 6 46 0,ld' false 1 46 47 32,mv' 3 48 0,ix' 1 47 48 49 224,ld' false 1 49 50 480,o3 (.app 95 2 16 (.tmp 45) (.tmp 50)) 51 1016,ix' 1 42 43 52 2047,o0 (.store 1 (.tmp 52) (.tmp 51)) 4095]
def yczp:LO:=[fa' 1 1 6 53 0,ld' false 1 53 54 1,mv' 2 55 0,fa' 1 1 6 56 0,ld' false 1 56 57 8,mv' 3 58 0,fa' 1 1 6 59 0,ld' false 1 59 60 64,mv' 2 61 0,ix' 1 60 61 62 448,ld' false 1 62 63 960,ld' true 2 10 64 0,o3 (.bslice 95 2 1 [.i .i64 0,.i .i64 0] [(0,2,(.tmp 64))]) 65 2048,o3 (.app 95 2 16 (.tmp 63) (.tmp 65)) 66 8128,fa' 1 1 6 67 0,ld' false 1 67 68 16384,mv' 3 69 0,ix' 1 68 69 70 114688,ld' false 1 70 71 245760,ld' true 2 11 72 0,o3 (.bslice 95 2 1 [.i .i64 0,.i .i64 0] [(0,2,(.tmp 72))]) 73 524288,o3 (.app 95 2 16 (.tmp 71) (.tmp 73)) 74 2097088,ix' 1 54 55 75 4194247,o0 (.store 1 (.tmp 75) (.tmp 66)) 8388551,ix' 1 57 58 76 16777215,o0 (.store 1 (.tmp 76) (.tmp 74)) 33554431]
def c76:SC:=(.seq (.reg false ycqz) (.seq (.seq (.reg false ycqc) (.cond (.tmp 20) .ret .skip)) (.seq (.reg false ybjd) (.seq (.seq (.reg false ybhc) (.cond (.tmp 28) (.seq (.reg true ybrc) (.seq (.reg true ybpi) .ret)) .skip)) (.reg true yczp)))))
theorem ycux:FnM 76 c76 []:=fn_m Tryz.func76 (by kernel_rfl) (by kernel_rfl)
def ydav:LO:=[o3 (.box 24 (.tmp 0)) 2 0,o3 (.alloc 27 1 [.a (.slice none 0 0),.a (.slice none 0 0)]) 4 0]
def ycye:LO:=[fa' 0 1 2 10 0,ld' false 1 10 11 1,o3 (.wsub (.tmp 11) (ci' 1)) 12 3,mv' 1 13 0,cl' 39 [12,13] 14 15,o3 (.bin .add (ci' 1) (.tmp 14)) 15 31,mv' 15 5 63]
def yddm:LO:=[mv' 5 16 0,o3 (.mk 71 1 24 [.a (.slice none 0 0)] (.tmp 16) (.tmp 16)) 17 1,o3 (.build [.a (.slice none 0 0),.a (.slice none 0 0)] [(1,1,(.tmp 17))]) 18 3,o3 (.alloc 27 1 [.a (.slice none 0 0),.a (.slice none 0 0)]) 6 0,o0 (.store 2 (.tmp 6) (.tmp 18)) 15]
def ycxl:LO:=[o3 (.mv (ci' 0)) 7 0]
def ycvm:LO:=[mv' 7 19 0,mv' 5 20 0,bn' .lss 19 20 21 3]
def ycyp:LO:=[fa' 3 1 2 24 0,ld' false 1 24 25 1,mv' 7 26 0,cl' 77 [25,26] 27 7,o3 (.call (.func 39) [(.tmp 27),(ci' 256)]) 28 15,mv' 28 8 31]
def ydam:LO:=[o3 (.mv (ci' 0)) 9 0]
def ycxx:LO:=[mv' 9 29 0,mv' 7 30 0,bn' .lss 29 30 31 3]
def ycdz:LO:=[fa' 0 1 6 34 0,ld' false 1 34 35 1,mv' 9 36 0,ix' 1 35 36 37 7,ld' false 1 37 38 15,mv' 8 39 0,bn' .eql 38 39 40 63]
def yclv:LO:=[mv' 8 41 0,o3 (.bin .add (.tmp 41) (ci' 1)) 42 1,o3 (.bin .rem (.tmp 42) (ci' 256)) 43 3,mv' 43 8 7,o3 (.mv (.const (.int .i64 (-1)))) 9 15]
def ycyd:LO:=[mv' 9 32 0,o3 (.bin .add (.tmp 32) (ci' 1)) 33 1,mv' 33 9 3]
def ycgq:LO:=[fa' 0 1 6 44 0,ld' false 1 44 45 1,mv' 8 46 0,o3 (.bslice 3 1 1 [.i .i64 0] [(0,1,(.tmp 46))]) 47 4,o3 (.app 3 1 8 (.tmp 45) (.tmp 47)) 48 15,fa' 0 1 6 49 31,o0 (.store 1 (.tmp 49) (.tmp 48)) 63]
def ydck:LO:=[mv' 7 22 0,o3 (.bin .add (.tmp 22) (ci' 1)) 23 1,mv' 23 7 3]
def ycij:LO:=[ld' true 2 6 50 0,o0 (.store 2 (.tmp 4) (.tmp 50)) 1]
def c75:SC:=(.seq (.reg false ydav) (.seq (.reg false ycye) (.seq (.reg false yddm) (.seq (.seq (.reg false ycxl) (.block 0 (.loop (.seq (.seq (.reg false ycvm) (.cond (.tmp 21) .skip (.exit 0))) (.seq (.block 1 (.seq (.reg false ycyp) (.seq (.seq (.reg false ydam) (.block 2 (.loop (.seq (.seq (.reg false ycxx) (.cond (.tmp 31) .skip (.exit 2))) (.seq (.block 3 (.seq (.reg false ycdz) (.cond (.tmp 40) (.reg false yclv) .skip))) (.reg false ycyd)))))) (.reg false ycgq)))) (.reg false ydck)))))) (.seq (.reg false ycij) .ret)))))
theorem ycti:FnM 75 c75 [.c 4 true 2]:=fn_m Tryz.func75 (by kernel_rfl) (by kernel_rfl)
def yczv:LO:=[o3 (.box 24 (.tmp 0)) 2 0,o3 (.alloc 27 1 [.a (.slice none 0 0),.a (.slice none 0 0)]) 4 0]
def yddr:LO:=[ld' true 6 2 7 0,mv' 1 8 0,cl' 75 [7,8] 9 3,o3 (.alloc 27 1 [.a (.slice none 0 0),.a (.slice none 0 0)]) 5 0,o0 (.store 2 (.tmp 5) (.tmp 9)) 15]
def ydau:LO:=[o3 (.mv (ci' 1)) 6 0]
def ycqs:LO:=[mv' 6 10 0,fa' 1 1 5 11 0,ld' false 1 11 12 2,ln' 12 13 6,bn' .lss 10 13 14 15]
def ydba:LO:=[ld' true 6 2 17 0,ld' true 2 5 18 0,fa' 1 1 2 19 0,ld' false 1 19 20 4,mv' 6 21 0,o3 (.bin .sub (.tmp 21) (ci' 1)) 22 16,cl' 77 [20,22] 23 60,mv' 6 24 0,cl' 39 [23,24] 25 252,mv' 6 26 0,fa' 2 1 2 27 0,ld' false 1 27 28 1024,mv' 6 29 0,o3 (.bin .sub (.tmp 29) (ci' 1)) 30 4096,cl' 77 [28,30] 31 15868,o3 (.call (.func 39) [(.tmp 31),(ci' 15)]) 32 32252,o3 (.bin .add (ci' 1) (.tmp 32)) 33 65020,cl' 76 [17,18,25,26,33] 34 131071]
def ycwd:LO:=[mv' 6 15 0,o3 (.bin .add (.tmp 15) (ci' 1)) 16 1,mv' 16 6 3]
def ycza:LO:=[ld' true 2 5 35 0,o0 (.store 2 (.tmp 4) (.tmp 35)) 1]
def c21:SC:=(.seq (.reg false yczv) (.seq (.reg false yddr) (.seq (.seq (.reg false ydau) (.block 0 (.loop (.seq (.seq (.reg false ycqs) (.cond (.tmp 14) .skip (.exit 0))) (.seq (.block 1 (.reg true ydba)) (.reg false ycwd)))))) (.seq (.reg false ycza) .ret))))
theorem ycpv:FnM 21 c21 [.c 4 true 2]:=fn_m Tryz.func21 (by kernel_rfl) (by kernel_rfl)
def yczj:LO:=[o3 (.box 27 (.tmp 0)) 3 0,o3 (.mv (.const (.slice none 0 0))) 6 0]
def ycwv:LO:=[fa' 1 1 3 16 0,ld' false 1 16 17 1,ln' 17 18 3,mv' 18 7 7,o3 (.mv (ci' 0)) 8 15]
def ydch:LO:=[o3 (.mv (ci' 0)) 9 0]
def ycvk:LO:=[mv' 9 19 0,mv' 7 20 0,bn' .lss 19 20 21 3]
def yczq:LO:=[mv' 8 24 0,fa' 0 1 3 25 0,ld' false 1 25 26 2,mv' 9 27 0,ix' 1 26 27 28 14,ld' false 1 28 29 30,o3 (.mm true (.tmp 24) (.tmp 29)) 30 63,mv' 30 8 127]
def ycwx:LO:=[mv' 9 22 0,o3 (.bin .add (.tmp 22) (ci' 1)) 23 1,mv' 23 9 3]
def yddi:LO:=[o3 (.mv (.const (.slice none 0 0))) 10 0]
def ycvp:LO:=[o3 (.mv (ci' 0)) 11 0]
def ycyr:LO:=[mv' 11 31 0,mv' 7 32 0,bn' .lss 31 32 33 3]
def yclr:LO:=[o3 (.mv (.const (.slice none 0 0))) 12 0]
def ycka:LO:=[o3 (.mv (ci' 0)) 13 0]
def ycgr:LO:=[mv' 13 36 0,mv' 1 37 0,ln' 37 38 2,bn' .lss 36 38 39 7]
def ycdd:LO:=[mv' 1 42 0,mv' 13 43 0,ix' 6 42 43 44 3,fa' 2 1 44 45 7,ld' false 1 45 46 15,mv' 1 47 0,mv' 13 48 0,ix' 6 47 48 49 96,fa' 3 1 49 50 224,ld' false 1 50 51 480,mv' 1 52 0,mv' 13 53 0,ix' 6 52 53 54 3072,fa' 4 1 54 55 7168,ld' false 1 55 56 15360,mv' 7 57 0,bn' .mul 56 57 58 64512,bn' .add 51 58 59 131040,mv' 1 60 0,mv' 13 61 0,ix' 6 60 61 62 786432,fa' 5 1 62 63 1835008,ld' false 1 63 64 3932160,mv' 8 65 0,bn' .mul 64 65 66 16515072,bn' .add 59 66 67 33554400,mv' 46 14 31,mv' 67 15 134217727]
def ycns:LO:=[mv' 1 68 0,mv' 13 69 0,ix' 6 68 69 70 3,fa' 1 1 70 71 7,ld' false 1 71 72 15]
def ybdf:LO:=[o3 (.bin .eql (.tmp 72) (ci' 2)) 74 0,mv' 74 73 1]
def ybdg:LO:=[o3 (.mv (ci' 0)) 14 0,o3 (.mv (ci' 1)) 15 1]
def ybev:LO:=[o3 (.bin .eql (.tmp 72) (ci' 3)) 76 0,mv' 76 75 1]
def ybdk:LO:=[fa' 1 1 3 77 0,ld' false 1 77 78 1,mv' 11 79 0,ix' 1 78 79 80 7,ld' false 1 80 81 15,ln' 81 82 31,o3 (.bin .sub (.tmp 82) (ci' 1)) 83 63,o3 (.mv (.const (.int .i64 (-1)))) 14 0,mv' 83 15 255]
def ybex:LO:=[mv' 12 84 0,mv' 14 85 0,mv' 2 86 0,mv' 11 87 0,mv' 1 88 0,ln' 88 89 16,bn' .mul 87 89 90 56,mv' 13 91 0,bn' .add 90 91 92 248,cl' 77 [86,92] 93 508,mv' 15 94 0,mv' 14 95 0,bn' .sub 94 95 96 3072,o3 (.bin .add (.tmp 96) (ci' 1)) 97 7168,cl' 39 [93,97] 98 16380,bn' .add 85 98 99 32766,o3 (.bslice 3 1 1 [.i .i64 0] [(0,1,(.tmp 99))]) 100 65534,o3 (.app 3 1 8 (.tmp 84) (.tmp 100)) 101 131071,mv' 101 12 262143]
def ybdc:LO:=[mv' 13 40 0,o3 (.bin .add (.tmp 40) (ci' 1)) 41 1,mv' 41 13 3]
def ycfh:LO:=[mv' 10 102 0,mv' 12 103 0,o3 (.bslice 22 1 1 [.a (.slice none 0 0)] [(0,1,(.tmp 103))]) 104 2,o3 (.app 22 1 24 (.tmp 102) (.tmp 104)) 105 7,mv' 105 10 15]
def ydbk:LO:=[mv' 11 34 0,o3 (.bin .add (.tmp 34) (ci' 1)) 35 1,mv' 35 11 3]
def ycck:LO:=[mv' 10 106 0,mv' 106 6 1]
def c24:SC:=(.seq (.reg false yczj) (.seq (.reg false ycwv) (.seq (.seq (.reg false ydch) (.block 0 (.loop (.seq (.seq (.reg false ycvk) (.cond (.tmp 21) .skip (.exit 0))) (.seq (.block 1 (.reg false yczq)) (.reg false ycwx)))))) (.seq (.reg false yddi) (.seq (.seq (.reg false ycvp) (.block 2 (.loop (.seq (.seq (.reg false ycyr) (.cond (.tmp 33) .skip (.exit 2))) (.seq (.block 3 (.seq (.reg false yclr) (.seq (.seq (.reg false ycka) (.block 4 (.loop (.seq (.seq (.reg false ycgr) (.cond (.tmp 39) .skip (.exit 4))) (.seq (.block 5 (.seq (.reg true ycdd) (.seq (.seq (.reg false ycns) (.block 6 (.seq (.reg false ybdf) (.cond (.tmp 73) (.reg false ybdg) (.seq (.reg false ybev) (.cond (.tmp 75) (.reg true ybdk) .skip)))))) (.reg false ybex)))) (.reg false ybdc)))))) (.reg false ycfh)))) (.reg false ydbk)))))) (.seq (.reg false ycck) .ret))))))
theorem ydbt:Fn 24 c24 [.t 6]:=fn_0 Tryz.func24 (by kernel_rfl) (by kernel_rfl)
def ycyx:LO:=[o3 (.mv (.const (.slice none 0 0))) 4 0]
def yddq:LO:=[o3 (.mv (.const (.slice none 0 0))) 5 0]
def ycvo:LO:=[o3 (.mv (ci' 0)) 6 0]
def ycwc:LO:=[mv' 6 9 0,mv' 1 10 0,bn' .lss 9 10 11 3]
def yddj:LO:=[mv' 0 14 0,ln' 14 15 1,o3 (.bin .eql (.tmp 15) (ci' 0)) 16 3]
def yddb:LO:=[mv' 5 17 0,o3 (.bslice 40 1 1 [.i .u32 0] [(0,1,(.const (.int .u32 4294967295)))]) 18 0,o3 (.app 40 1 4 (.tmp 17) (.tmp 18)) 19 3,mv' 19 5 7]
def ycxe:LO:=[mv' 0 20 0,mv' 6 21 0,mv' 0 22 0,ln' 22 23 4,bn' .rem 21 23 24 14,ix' 1 20 24 25 31,ld' false 1 25 26 63,mv' 6 27 0,mv' 0 28 0,ln' 28 29 256,bn' .quo 27 29 30 896,o3 (.bin .rem (.tmp 30) (ci' 24)) 31 1920,o3 (.conv .u64 (.tmp 31)) 32 3968,mv' 26 7 127,mv' 32 8 16383]
def ycxz:LO:=[mv' 7 33 0,o3 (.bin .and (.tmp 33) (.const (.int .u32 16777215))) 34 1,mv' 34 7 3]
def ydap:LO:=[mv' 5 35 0,mv' 7 36 0,mv' 8 37 0,bn' .shl 36 37 38 6,mv' 7 39 0,mv' 8 40 0,o3 (.bin .sub (.const (.int .u64 24)) (.tmp 40)) 41 32,bn' .shr 39 41 42 112,bn' .or 38 42 43 254,o3 (.bin .and (.tmp 43) (.const (.int .u32 16777215))) 44 510,o3 (.bslice 40 1 1 [.i .u32 0] [(0,1,(.tmp 44))]) 45 1022,o3 (.app 40 1 4 (.tmp 35) (.tmp 45)) 46 2047,mv' 46 5 4095]
def ycth:LO:=[mv' 6 12 0,o3 (.bin .add (.tmp 12) (ci' 1)) 13 1,mv' 13 6 3]
def ycfy:LO:=[mv' 5 47 0,mv' 47 4 1]
def c26:SC:=(.seq (.reg false ycyx) (.seq (.reg false yddq) (.seq (.seq (.reg false ycvo) (.block 0 (.loop (.seq (.seq (.reg false ycwc) (.cond (.tmp 11) .skip (.exit 0))) (.seq (.block 1 (.seq (.seq (.reg false yddj) (.cond (.tmp 16) (.seq (.reg false yddb) (.exit 1)) .skip)) (.seq (.reg true ycxe) (.seq (.reg false ycxz) (.reg false ydap))))) (.reg false ycth)))))) (.seq (.reg false ycfy) .ret))))
theorem ycyw:Fn 26 c26 [.t 4]:=fn_0 Tryz.func26 (by kernel_rfl) (by kernel_rfl)
def ydby:LO:=[o3 (.box 27 (.tmp 1)) 6 0,o3 (.mv (.const (.slice none 0 0))) 10 0,o3 (.mv (.const (.slice none 0 0))) 11 2,o3 (.mv (.const (.bool false))) 12 6]
def yddn:LO:=[mv' 0 17 0,cl' 37 [17] 18 1,ld' true 2 6 19 0,mv' 2 20 0,mv' 3 21 0,mv' 4 22 0,cl' 78 [18,19,20,21,22] 23 63,mv' 23 16 127,xt' 16 0 24 255,xt' 16 1 25 255,xt' 16 2 26 255,mv' 24 13 511,mv' 25 14 3071,mv' 26 15 8191]
def ycxo:LO:=[mv' 13 27 0,mv' 14 28 0,mv' 15 29 0,o3 (.bin .eql (.tmp 29) (ci' 0)) 30 4,mv' 30 31 12,⟨.mv (.tmp 13),some 32,some (31,true),28⟩,⟨.len (.tmp 32),some 33,some (31,true),60⟩,⟨.mv (.tmp 14),some 34,some (31,true),28⟩,⟨.len (.tmp 34),some 35,some (31,true),156⟩,⟨.bin .eql (.tmp 33) (.tmp 35),some 36,some (31,true),508⟩,o3 (.pick (.tmp 31) (.tmp 36) (.const (.bool false))) 37 1020,mv' 37 38 2044,⟨.mv (.tmp 13),some 39,some (38,true),4092⟩,⟨.len (.tmp 39),some 40,some (38,true),8188⟩,⟨.bin .gtr (.tmp 40) (ci' 0),some 41,some (38,true),16380⟩,o3 (.pick (.tmp 38) (.tmp 41) (.const (.bool false))) 42 32764,mv' 27 10 4093,mv' 28 11 69631,mv' 42 12 262143]
def c22:SC:=(.seq (.reg false ydby) (.seq (.reg true yddn) (.seq (.reg false ycxo) .ret)))
theorem ycwi:Fn 22 c22 [.t 10,.t 11,.t 12]:=fn_0 Tryz.func22 (by kernel_rfl) (by kernel_rfl)
end Sh
end Go.Proofs.YtiejahgklcjhkaaGreatDoor

namespace Go.Proofs.YtiejahgklcjhkaaGreatDoor
open Go
namespace Sh
open Ev Go.RowKit
set_option maxRecDepth 8000
instance:Inhabited Cnt:=⟨⟨0,0,0,0,0⟩⟩
def seeO(cs:List Conf)(ks:List Cnt):Own:=[(1,.one (some ⟨29,true,1,1,fun _=>[.os (2,0) 0 cs.length true]⟩)),(2,.one (some ⟨34,false,1,cs.length,fun i=>[ybe (cs.getD i [])]⟩)),
 (3,.one (some ⟨30,true,1,1,fun _=>[.os (4,0) 0 ks.length true]⟩)),(4,.one (some ⟨48,false,5,ks.length,fun i=>cntV (ks.getD i default)⟩))]
def ycsy:Own:=[(1,.one (some ⟨29,true,1,1,fun _=>[.a (.slice none 0 0)]⟩)),(3,.one (some ⟨30,true,1,1,fun _=>[.a (.slice none 0 0)]⟩))]
theorem ybzb(cs:List Conf)(ks:List Cnt)(h1:0<cs.length/\cs.length<=5000)(h2:0<ks.length/\ks.length<=5000){c:Conf}(hc:∀ s ∈ c,0<s.length/\s.length<=1000)(hl:c.length<=1000)(e:Nat)(k:Cnt) :
  Cm Tryz.prog 131 [(1,0),(3,0)] (seeO cs ks) [ybe c,.i .u32 e,.ag (cntV k),.pt (1,0) 0 0,.pt (3,0) 0 0] fun r o=>r = .tp []/\o=seeO (cs ++ [c]) (ks ++ [k]):=by
 refine ybea [(1,0),(3,0)] [] _ _ _ ?_;obtain⟨n,hn⟩:∃ n,cs.length=n:=⟨_,rfl⟩;obtain⟨m,hm⟩:∃ m,ks.length=m:=⟨_,rfl⟩;have hC:=yuw c hc hl;obtain⟨O2,hO2⟩:∃ O,seeO (cs ++ [c]) (ks ++ [k])=O:=⟨_,rfl⟩;rw[hO2];simp only[c131,ybtp,ybqi,ybqt,seeO,cntV,hn,hm,go_sem,Nat.reduceEqDiff,Nat.reduceAdd,Nat.reduceLT,↓reduceIte,reduceCtorEq];refine hC.use ?_;simp only[thenO,clash,yfu,go_sem,Nat.reduceEqDiff,Nat.reduceAdd,Nat.reduceLeDiff,Nat.reduceLT,↓reduceIte,reduceCtorEq]
 refine⟨by decide,⟨by omega,by omega⟩,by decide,by decide,⟨by omega,by omega⟩,.tp [],O2,?_,?_,rfl,rfl⟩
 ·subst hO2;refine ydf [(2,fun i=>(12,i)),(4,fun i=>(16,i))] [] [] ?_;simp only[seeO,cntV,List.length_append,hn,hm,allQ,live,yc,go_sem,Nat.reduceEqDiff,↓reduceIte,reduceCtorEq];have gl:∀ {α:Type} (l:List α) (x d:α) (i:Nat),i<l.length->(l ++ [x]).getD i d=l.getD i d:=fun l x d i h=>by simp[List.getD,List.getElem?_append_left h]
  have gr:∀ {α:Type} (l:List α) (x d:α),(l ++ [x]).getD l.length d=x:=fun l x d=>by simp[List.getD]
  refine⟨fun i hi=>?_,fun i hi=>?_⟩
  ·by_cases q:i<n
   ·simp only[if_pos q,gl cs c [] i (by omega)]
    simp only[go_sem,live,yc,go_sem]
   ·obtain rfl:i=n:=by omega
    simp only[if_neg q,Nat.sub_self,Nat.zero_mul];have e:=gr cs c [];rw[hn]at e;simp only[e,live,yc,go_sem]
  ·by_cases q:i<m
   ·simp only[if_pos q,gl ks k default i (by omega)]
    simp only[go_sem,live,yc,go_sem,reduceCtorEq]
   ·obtain rfl:i=m:=by omega
    simp only[if_neg q,Nat.sub_self,Nat.zero_mul];have e:=gr ks k default;rw[hm]at e;simp only[e,live,yc,go_sem,reduceCtorEq]
 ·subst hO2;simp only[seeO,cntV,famCln,yfn,allQ,live,go_sem,Nat.reduceEqDiff,↓reduceIte]
theorem ybpp{c:Conf}(hc:∀ s ∈ c,0<s.length/\s.length<=1000)(hl:c.length<=1000)(e:Nat)(k:Cnt) :
  Cm Tryz.prog 131 [(1,0),(3,0)] ycsy [ybe c,.i .u32 e,.ag (cntV k),.pt (1,0) 0 0,.pt (3,0) 0 0] fun r o=>r = .tp []/\o=seeO [c] [k]:=by
 refine ybea [(1,0),(3,0)] [] _ _ _ ?_;have hC:=yuw c hc hl;obtain⟨O2,hO2⟩:∃ O,seeO [c] [k]=O:=⟨_,rfl⟩;rw[hO2];simp only[c131,ybtp,ybqi,ybqt,ycsy,cntV,go_sem,Nat.reduceEqDiff,Nat.reduceAdd,Nat.reduceLT,↓reduceIte,reduceCtorEq];refine hC.use ?_;simp only[thenO,clash,yfu,go_sem,Nat.reduceEqDiff,Nat.reduceAdd,Nat.reduceLeDiff,Nat.reduceLT,Nat.reduceMul,↓reduceIte,reduceCtorEq];refine⟨by decide,by decide,by decide,.tp [],O2,?_,?_,rfl,rfl⟩
 ·subst hO2;refine ydf [(2,fun i=>(12,i)),(4,fun i=>(16,i))] [] [] ?_;simp only[seeO,cntV,allQ,live,yc,go_sem,Nat.reduceEqDiff,↓reduceIte,reduceCtorEq];refine⟨fun i hi=>?_,fun i hi=>?_⟩
  ·obtain rfl:i=0:=by omega
   simp only[Nat.zero_mul];simp only[List.getD_cons_zero,live,yc,go_sem]
  ·obtain rfl:i=0:=by omega
   simp only[Nat.zero_mul];simp only[List.getD_cons_zero,live,yc,go_sem,reduceCtorEq]
 ·subst hO2;simp only[seeO,cntV,famCln,yfn,allQ,live,go_sem,Nat.reduceEqDiff,↓reduceIte]
structure DaemonOk(kind:Int)(net:List Nat)(res:Nat->Nat->Nat):Prop where
 resolve:∀ (e w:Nat),e<2 ^ 24->e<2 ^ net.length->e ≠ 0->w<2 ^ 32->Returns Tryz.prog 111 [usV net,.i .i64 kind,.i .u32 e,.i .u32 w] (.i .u32 (res e w))
 permits:∀ (e w:Nat),e<2 ^ 24->e<2 ^ net.length->e ≠ 0->w<2 ^ 32->Returns Tryz.prog 196 [usV net,.i .i64 kind,.i .u32 e,.i .u32 (res e w)] (.b true)
 zero:∀ (w:Nat),w<2 ^ 32 -> ∃ x:Nat,Returns Tryz.prog 111 [usV net,.i .i64 kind,.i .u32 0,.i .u32 w] (.i .u32 x)
 sub:∀ (e w:Nat),e ≠ 0->e<2 ^ 24->res e w ≠ 0/\subB (res e w) e
theorem yzu{kind:Int}{net:List Nat}{res:Nat->Nat->Nat}(hd:DaemonOk kind net res)(rest:SV)(liv:SV)(mv:SV){ws:List Nat}(hw:∀ k,ws.getD k 0<2 ^ 32){e:Nat}(he:e<2 ^ 24)(hen:e<2 ^ net.length)(h0:e ≠ 0){k:Nat}(hk:k<ws.length) :
  Returns Tryz.prog 169 [.i .i64 k,.i .u32 e,.rf [mv,usV net,.i .i64 kind,liv,rest],.rf [usV ws]] (.tp [.i .u32 (res e (ws.getD k 0)),.b true]):=by
 refine Returns.of (ybov _ _ ?_);have hR:=hd.resolve e (ws.getD k 0) he hen h0 (hw k);have z0:((e:Int) != 0)=true:=by simp;omega
 simp only[usV]at hR;simp only[c169,ybnb,ybky,usV,clash,go_sem,Nat.reduceEqDiff,Nat.reduceAdd,Nat.reduceLeDiff,↓reduceIte,reduceCtorEq];refine⟨by omega,hR.use ?_⟩
 simp only[thenO,clash,z0,go_sem,Nat.reduceEqDiff,Nat.reduceAdd,↓reduceIte,reduceCtorEq];exact Sim.refl _
theorem ybba{kind:Int}{net:List Nat}{res:Nat->Nat->Nat}(hd:DaemonOk kind net res)(rest:SV)(liv:SV)(mv:SV){ws:List Nat}(hw:∀ k,ws.getD k 0<2 ^ 32){k:Nat}(hk:k<ws.length) :
  ∃ x:Nat,Returns Tryz.prog 169 [.i .i64 k,.i .u32 0,.rf [mv,usV net,.i .i64 kind,liv,rest],.rf [usV ws]] (.tp [.i .u32 x,.b false]):=by
 obtain⟨x,hR⟩:=hd.zero (ws.getD k 0) (hw k);refine⟨x,Returns.of (ybov _ _ ?_)⟩;simp only[usV]at hR;simp only[c169,ybnb,ybky,usV,clash,go_sem,Nat.reduceEqDiff,Nat.reduceAdd,Nat.reduceLeDiff,↓reduceIte,reduceCtorEq];refine⟨by omega,hR.use ?_⟩
 simp only[thenO,clash,Int.reduceBNe,go_sem,Nat.reduceEqDiff,Nat.reduceAdd,↓reduceIte,reduceCtorEq];exact Sim.refl _
theorem yctv{s e n:Nat}(h:subB s e)(he:e<2 ^ n):s<2 ^ n:=by
 refine Nat.lt_pow_two_of_testBit _ fun i hi=>?_;cases hb:s.testBit i with
 | false=>rfl
 | true =>
  have:=h i hb;rw[Nat.testBit_lt_two_pow (Nat.lt_of_lt_of_le he (Nat.pow_le_pow_right (by omega) hi))]at this
  cases this
theorem ybsk(net:List Nat):DaemonOk 4 net resS where
 resolve:=fun e w he _ h0 hw=>yyk (usV net) (by simp[usV,ybde,ybmu]) he h0 hw
 permits:=fun e w he _ h0 hw=>yyp (usV net) he h0
 zero:=fun w hw=>⟨0,by
  refine Returns.of (ybtg _ _ ?_);have a0:=u32_and (a:=w) (b:=0) (by omega) (by omega)
  rw[Nat.and_zero]at a0;have a1:IntKind.wrap .u32 (0 - 0)=0:=by decide
  have a2:=u32_and (a:=0) (b:=0) (by omega) (by omega)
  rw[Nat.and_zero]at a2;simp only[Int.natCast_zero,IntKind.bits]at a0 a2;simp only[usV,c111,ybnw,ybsg,ybrz,ybtq,ybdy,ybeo,ybfm,yvd,yvl,IntKind.signed,a0,a1,a2,Int.reduceBEq,yu,go_sem,Nat.reduceEqDiff,Nat.reduceAdd,Nat.reduceLT,↓reduceIte,reduceCtorEq];rfl⟩
 sub:=fun e w h0 _=>⟨h0,fun _ h=>h⟩
end Sh
end Go.Proofs.YtiejahgklcjhkaaGreatDoor

namespace Go.Proofs.YtiejahgklcjhkaaGreatDoor
open Go
def stAt(S:Sys)(res:Nat->Nat->Nat):List Nat->Conf->Cnt->Nat->Conf × Cnt
 | _,c,k,0=>(c,k)
 | ws,c,k,i+1=>stAt S res ws.tail (S.mv c (res (S.en c) (ws.getD 0 0))) (addP k (res (S.en c) (ws.getD 0 0)) (S.en (S.mv c (res (S.en c) (ws.getD 0 0))))) i
theorem ywf(S:Sys)(res:Nat->Nat->Nat):∀ (i:Nat) (ws:List Nat) (c:Conf) (k:Cnt),
  stAt S res ws c k (i+1)=(S.mv (stAt S res ws c k i).1 (res (S.en (stAt S res ws c k i).1) (ws.getD i 0)),addP (stAt S res ws c k i).2 (res (S.en (stAt S res ws c k i).1) (ws.getD i 0)) (S.en (S.mv (stAt S res ws c k i).1 (res (S.en (stAt S res ws c k i).1) (ws.getD i 0)))))
 | 0,ws,c,k=>rfl
 | i+1,ws,c,k=>by
  show stAt S res ws.tail _ _ (i+1)=_;rw[ywf S res i ws.tail];have e:ws.tail.getD i 0=ws.getD (i+1) 0:=by cases ws<;>rfl
  rw[e];rfl
theorem yxn(S:Sys)(res:Nat->Nat->Nat):∀ (ws:List Nat) (c:Conf) (k:Cnt) (i:Nat),(∀ j,j<i->S.en (stAt S res ws c k j).1 ≠ 0)->i<=ws.length->(i=ws.length\/S.en (stAt S res ws c k i).1=0) ->
  S.run res ws c k=(List.range i).map fun j=>stAt S res ws c k (j+1)
 | [],c,k,i,_,hi,_=>by
  have:i=0:=by simpa using hi
  subst this;rfl
 | w :: ws,c,k,0,_,_,h=>by
  have h0:S.en c=0:=by
   rcases h with h | h
   ·simp at h
   ·exact h
  unfold Sys.run;rw[if_pos h0];rfl
 | w :: ws,c,k,i+1,hj,hi,h=>by
  have h0:S.en c ≠ 0:=hj 0 (by omega)
  unfold Sys.run;rw[if_neg h0];simp only
  have e:=yxn S res ws (S.mv c (res (S.en c) w)) (addP k (res (S.en c) w) (S.en (S.mv c (res (S.en c) w)))) i (fun j hj'=>hj (j+1) (by omega)) (by simpa using hi) (by
   rcases h with h | h
   ·exact .inl (by simpa using h)
   ·exact .inr h)
  rw[e,List.range_succ_eq_map,List.map_cons,List.map_map];rfl
theorem ybgo(S:Sys)(res:Nat->Nat->Nat)(ws:List Nat)(c:Conf)(i:Nat)(hj:∀ j,j<i->S.en (stAt S res ws c (ycj (S.en c)) j).1 ≠ 0)(hi:i<=ws.length)(h:i=ws.length\/S.en (stAt S res ws c (ycj (S.en c)) i).1=0) :
  S.runs res ws c=(List.range (i+1)).map fun j=>stAt S res ws c (ycj (S.en c)) j:=by
 unfold Sys.runs;rw[yxn S res ws c _ i hj hi h,List.range_succ_eq_map,List.map_cons,List.map_map];rfl
theorem ybul{kind:Int}{b:Int × Int}(hb:b.1<=b.2)(h3:kind=3->b.1 <= -1 /\ -1<=b.2)(x:Int):b.1<=yji kind b x/\yji kind b x<=b.2:=by
 unfold yji;split
 ·assumption
 ·split
  ·exact h3 (by assumption)
  ·split<;>omega
namespace Sh
theorem ybfb{p:ProgT}{g:Gr}(hg:ybb g)(hp:p.ok=true)(hf:yud p g=true){x:VarR}(hx:x ∈ p.vars)(v:Nat):(ybc g v x).1<=(ybc g v x).2/\(x.kind=3->(ybc g v x).1 <= -1 /\ -1<=(ybc g v x).2):=by
 have h1:=List.all_eq_true.1 hf x hx;have hp':=hp;unfold ProgT.ok at hp';simp only[Bool.and_eq_true,decide_eq_true_eq]at hp';have hxo:=yzv (List.all_eq_true.1 hp'.1.1.2 _ hx);rcases hxo.1 with h | h | h
 ·have e:ybc g v x=ybc g 0 x:=by unfold ybc;rw[if_pos h,if_pos h]
  rw[e];simp[h]at h1;exact⟨h1.1,fun q=>by omega⟩
 ·unfold ybc;rw[if_neg (by omega),if_pos h]
  exact⟨by decide,fun q=>by omega⟩
 ·unfold ybc;rw[if_neg (by omega),if_neg (by omega),if_pos h]
  exact⟨by simp only[];omega,fun _=>⟨by simp only[];omega,by simp only[];omega⟩⟩
theorem ybrr{p:ProgT}{g:Gr}(hg:ybb g)(hp:p.ok=true)(hf:yud p g=true){v:Nat}{s:List Int}(hs:ydp (p.vars.map (ybc g v)) s){a:Int}(ha:0<=a/\a<p.vars.length)(y:Int) :
  ydp (p.vars.map (ybc g v)) (s.set a.toNat (yji (p.vars.getD a.toNat default).kind (ybc g v (p.vars.getD a.toNat default)) y)):=by
 refine⟨by rw[List.length_set];exact hs.1,fun i b x hb hx=>?_⟩
 by_cases q:a.toNat=i
 ·subst q;have hlt:a.toNat<p.vars.length:=by omega
  rw[List.getElem?_map,List.getElem?_eq_getElem hlt]at hb;cases hb
  have hl:a.toNat<s.length:=by rw[hs.1,List.length_map];exact hlt
  rw[List.getElem?_set_self hl]at hx;cases hx
  rw[getD_at hlt];obtain⟨h1,h2⟩:=ybfb hg hp hf (List.getElem_mem hlt) v;exact ybul h1 h2 y
 ·rw[List.getElem?_set_ne q]at hx;exact hs.2 i b x hb hx
theorem yru{p:ProgT}{g:Gr}(hg:ybb g)(hp:p.ok=true)(hf:yud p g=true)(c:Conf)(v:Nat):∀ (sets:List (Int × Ex)) (s:List Int),(∀ a ∈ sets,0<=a.1/\a.1<p.vars.length)->ydp (p.vars.map (ybc g v)) s->ydp (p.vars.map (ybc g v)) (ylp p g c v s sets)
 | [],s,_,hs=>hs
 | a :: sets,s,ha,hs=>by
  show ydp _ (ylp p g c v (s.set _ _) sets);exact yru hg hp hf c v sets _ (fun x hx=>ha x (List.mem_cons_of_mem _ hx)) (ybrr hg hp hf hs (ha a List.mem_cons_self) _)
theorem ysn{p:ProgT}{g:Gr}(hg:ybb g)(hp:p.ok=true)(hf:yud p g=true){c:Conf}(hc:yfp p g c=true)(s:Nat):yfp p g (ykj p g c s)=true:=by
 have h:=(ydz _ _ _).1 hc;refine(ydz _ _ _).2 ⟨by rw[yii];exact h.1,fun v st hst=>?_⟩
 have hv:v<c.length:=by
  have:=(List.getElem?_eq_some_iff.1 hst).1
  rwa [yii]at this
 have e:st=(ykj p g c s).getD v []:=by simp[List.getD,hst]
 rw[yjy p g c s hv]at e;have hold:=h.2 v (c.getD v []) (by rw[getD_at hv];exact List.getElem?_eq_getElem hv)
 rw[e];split
 ·unfold ybcl;refine yru hg hp hf c v _ _ (fun a ha=>?_) hold;have hp':=hp;unfold ProgT.ok at hp';simp only[Bool.and_eq_true,decide_eq_true_eq]at hp'
  by_cases hr:(ygg p g c v).toNat<p.rules.length
  ·rw[getD_at hr]at ha;have hok:=List.all_eq_true.1 hp'.2 _ (List.getElem_mem hr);unfold RuleT.ok at hok;simp only[Bool.and_eq_true,decide_eq_true_eq]at hok;have:=List.all_eq_true.1 hok.2 a ha;simp only[Bool.and_eq_true,decide_eq_true_eq]at this;exact this.1.1
  ·have:p.rules.getD (ygg p g c v).toNat default=default:=by simp[List.getD,List.getElem?_eq_none (Nat.le_of_not_lt hr)]
   rw[this]at ha;cases ha
 ·exact hold
theorem ymn{p:ProgT}{g:Gr}(hg:ybb g)(hp:p.ok=true){c:Conf}(hc:yfp p g c=true):(∀ s ∈ c,0<s.length/\s.length<=1000)/\c.length<=1000:=by
 have h:=yin hg hp hc;have hp':=hp;unfold ProgT.ok at hp';simp only[Bool.and_eq_true,decide_eq_true_eq]at hp';have:=hg.2.1;exact⟨fun s hs=>by have:=(h.row s hs).1;omega,by rw[h.len];omega⟩
theorem ybvz(p:ProgT)(g:Gr)(c:Conf):ybp p g c<2 ^ g.ids.length:=ybdv _ _
end Sh
end Go.Proofs.YtiejahgklcjhkaaGreatDoor

namespace Go.Proofs.YtiejahgklcjhkaaGreatDoor
open Go
namespace Sh
open Ev Go.RowKit
set_option maxRecDepth 8000
def seeC:SV:=.fn 131 [] [.pt (201,0) 0 0,.pt (203,0) 0 0]
def seeX(cs:List Conf)(ks:List Cnt):Own:=[(201,.one (some ⟨29,true,1,1,fun _=>[.os (202,0) 0 cs.length true]⟩)),(202,.one (some ⟨34,false,1,cs.length,fun i=>[ybe (cs.getD i [])]⟩)),
 (203,.one (some ⟨30,true,1,1,fun _=>[.os (204,0) 0 ks.length true]⟩)),(204,.one (some ⟨48,false,5,ks.length,fun i=>cntV (ks.getD i default)⟩))]
def yjz:Own:=[(201,.one (some ⟨29,true,1,1,fun _=>[.a (.slice none 0 0)]⟩)),(203,.one (some ⟨30,true,1,1,fun _=>[.a (.slice none 0 0)]⟩))]
def TT:(Nat->Option ABlk)->Value->Prop:=fun _ _=>True
def yeq(p:ProgT)(g:Gr):SV:=.ex TT (.rf (ydd p.raw g))
def ycz(p:ProgT)(g:Gr)(net:List Nat)(kind:Int):List SV:=[yeq p g,usV net,.i .i64 kind,.i .u32 (2 ^ g.ids.length - 1:Nat),seeC]
def ybor(p:ProgT)(g:Gr)(net:List Nat)(kind:Int)(ws:List Nat):Own:=[(205,.one (some ⟨126,true,5,1,fun _=>ycz p g net kind⟩)),(206,.one (some ⟨38,true,1,1,fun _=>[usV ws]⟩))]
theorem gmr{α:Type}(f:Nat->α)(n k:Nat)(d:α)(h:k<n):((List.range n).map f).getD k d=f k:=by simp[List.getD,h]
def mapR{α:Type}(n:Nat)(f:Nat->α):List α:=(List.range n).map f
theorem gmR{α:Type}(f:Nat->α)(n k:Nat)(d:α)(h:k<n):(mapR n f).getD k d=f k:=gmr f n k d h
theorem ybdr{α:Type}(n:Nat)(f:Nat->α):(mapR n f).length=n:=by simp[mapR]
theorem ybfh{α β:Type}(n:Nat)(f:Nat->α)(h:α->β):(mapR n f).map h=mapR n fun k=>h (f k):=by simp[mapR,Function.comp_def]
theorem ybph{α:Type}(f:Nat->α)(n:Nat)(x d:α)(hx:f n=x)(k:Nat)(h:k<n+1):(((List.range n).map f) ++ [x]).getD k d=f k:=by
 rw[<- hx,show[f n] = [n].map f from rfl,<- List.map_append,<- List.range_succ]
 exact gmr f (n+1) k d h
section
variable {Q1 Q2:(Nat->Option ABlk)->Value->Prop} {p:ProgT} {g:Gr}
theorem ybgr(h:Checked Q1 Q2 p g){kind:Int}{net:List Nat}(hnl:g.ids.length<=net.length){res:Nat->Nat->Nat}(hd:DaemonOk kind net res){c:Conf}(hc:yfp p g c=true){ws:List Nat}(hw:∀ k,ws.getD k 0<2 ^ 32)(hwl:ws.length<=4000) :
  Cm Tryz.prog 168 [(201,0),(203,0)] (yjz ++ ybor p g net kind ws) [.ag (ycz p g net kind),ybe c,.i .i64 ws.length,.fn 169 [] [.pt (205,0) 0 0,.pt (206,0) 0 0]]
   fun r o=>(∃ l1 l2 c' k',r = .tp [.ag (usV l1 :: usV l2 :: ybe c' :: cntV k'),.i .i64 0])/\o=seeX ((ybl p g).runs res ws c |>.map (·.1)) ((ybl p g).runs res ws c |>.map (·.2)):=by
 refine ybyo [(201,0),(203,0)] [131] _ _ _ ?_;obtain⟨O2,hO2⟩:∃ O,seeX ((ybl p g).runs res ws c |>.map (·.1)) ((ybl p g).runs res ws c |>.map (·.2))=O:=⟨_,rfl⟩;rw[hO2];obtain⟨hr1,hr2⟩:=ymn h.hg h.hp hc;have hcin:=yin h.hg h.hp hc;have hC:=yuw c hr1 hr2;have hE:=yns p h.hg h.hp hcin;have hX:SimL [yeq p g,ybe c] [.rf (ydd p.raw g),ybe c]:=⟨ypi _ _,Sim.refl _,trivial⟩
 have hen:=ybvz p g c;have hid:=h.hg.2.2.1;have h24:=h.hg.2.1;have h2n:2 ^ g.ids.length<=2 ^ 24:=Nat.pow_le_pow_right (by omega) (by omega)
 simp only[c168,yciv,ycni,ycih,yjz,ybor,ycz,seeC,usV,yeq,go_sem,Nat.reduceEqDiff,Nat.reduceAdd,Nat.reduceLT,Nat.reduceBEq,↓reduceIte,reduceCtorEq];refine hC.use ?_;simp only[thenO,ycob,clash,go_sem,Nat.reduceEqDiff,Nat.reduceAdd,Nat.reduceLeDiff,Nat.reduceBEq,↓reduceIte,reduceCtorEq];refine hE.useS ?_ ?_
 ·exact hX
 have ha:IntKind.wrap .u32 (((BitVec.ofInt (IntKind.bits .u32) (ybp p g c:Int)) &&& BitVec.ofInt (IntKind.bits .u32) ((2 ^ g.ids.length - 1:Nat):Int)).toNat:Int)=(ybp p g c:Int):=by
  have e:=u32_and (a:=ybp p g c) (b:=2 ^ g.ids.length - 1) (by omega) (by omega)
  rw[Nat.and_two_pow_sub_one_of_lt_two_pow hen]at e;exact e
 simp only[IntKind.bits]at ha;simp only[thenO,yclq,clash,ha,go_sem,Nat.reduceEqDiff,Nat.reduceAdd,Nat.reduceLT,Nat.reduceBEq,↓reduceIte];have hB:=ybrs (e:=ybp p g c) (by omega)
 obtain⟨K0,hK0⟩:∃ K,ycj (ybp p g c)=K:=⟨_,rfl⟩;rw[hK0]at hB;refine hB.use ?_;simp only[yche,cntV,go_sem,Nat.reduceEqDiff,Nat.reduceAdd,↓reduceIte,reduceCtorEq];have hS:=ybpp hr1 hr2 (ybp p g c) K0;simp only[cntV]at hS;refine callM_of hS [(1,201),(3,203)] 200 [1,2,3,4,8,9,10,11,12] [4,8,10,12,205,206] ?_ ?_
 ·simp only[ycsy,to1,okN,famCln,yfn,keepF,keepO,allQ,live,yc,go_sem,Nat.reduceEqDiff,Nat.reduceAdd,Nat.reduceBEq,↓reduceIte,reduceCtorEq]
 ·rintro r o' ⟨rfl,rfl⟩;simp only[seeO,thenM,ylo,nuF,nu,difN,keepF,keepO,Fam.ren,OB.ren,dim,ysh,yki,go_sem,Nat.reduceEqDiff,Nat.reduceAdd,Nat.reduceBEq,↓reduceIte,reduceCtorEq];simp only[ycln,ycjd,splice,go_sem,Nat.reduceEqDiff,Nat.reduceAdd,Nat.reduceLeDiff,Nat.reduceLT,Nat.reduceMul,↓reduceIte,reduceCtorEq]
  let st:Nat->Conf × Cnt:=stAt (ybl p g) res ws c K0
  let en:Nat->Nat:=fun i=>ybp p g (st i).1
  let ch:Nat->Nat:=fun i=>res (en i) (ws.getD i 0)
  refine ybd (σ:=Nat) (fun i=>⟨[(40,.i .i64 i),(39,.i .i64 ws.length),(1,ybe (st i).1),(3,.fn 169 [] [.pt (205,0) 0 0,.pt (206,0) 0 0]),(4,.pt (4,0) 0 0),(8,.pt (8,0) 0 0),(9,.i .i64 0),(10,.pt (10,0) 0 0),(11,.i .u32 (en i)),(12,.pt (12,0) 0 0)],
   [(4,.one (some ⟨126,true,5,1,fun _=>ycz p g net kind⟩)),
    (8,.one (some ⟨130,true,8,1,fun _=>[.a (.slice none 0 0),.a (.slice none 0 0),.a (.slice none 0 0),.i .i64 0,.i .i64 0,.i .i64 0,.i .i64 0,.i .u32 0]⟩)),
    (10,.one (some ⟨130,true,8,1,fun _=>[.os (301,0) 0 i true,.os (302,0) 0 (i+1) true,.a (.slice none 0 0),.i .i64 0,.i .i64 0,.i .i64 0,.i .i64 0,.i .u32 0]⟩)),
    (301,.one (some ⟨40,false,1,i,fun j=>[.i .u32 (ch j)]⟩)),(302,.one (some ⟨40,false,1,i+1,fun j=>[.i .u32 (en j)]⟩)),
    (12,.one (some ⟨48,true,5,1,fun _=>cntV (st i).2⟩)),
    (201,.one (some ⟨29,true,1,1,fun _=>[.os (202,0) 0 (i+1) true]⟩)),(202,.one (some ⟨34,false,1,i+1,fun j=>[ybe (st j).1]⟩)),
    (203,.one (some ⟨30,true,1,1,fun _=>[.os (204,0) 0 (i+1) true]⟩)),(204,.one (some ⟨48,false,5,i+1,fun j=>cntV (st j).2⟩)),
    (205,.one (some ⟨126,true,5,1,fun _=>ycz p g net kind⟩)),(206,.one (some ⟨38,true,1,1,fun _=>[usV ws]⟩))]⟩)
   (fun i=>i<=ws.length/\(∀ j,j<i->en j ≠ 0)/\yfp p g (st i).1=true/\(st i).2.ok/\(st i).2.steps=i) (fun i=>ws.length - i) 0 ⟨Nat.zero_le _,fun j hj=>absurd hj (Nat.not_lt_zero j),hc,by show K0.ok;rw[<- hK0];exact ybos (by omega),by show K0.steps=0;rw[<- hK0];rfl⟩ ?_ ?_
  ·refine ydf [(302,fun i=>(37,i))] [301] [] ?_;have st0:st 0=(c,K0):=rfl;have en0:en 0=ybp p g c:=rfl;simp only[ycz,yeq,seeC,usV,cntV,st0,en0,allQ,live,yc,yu,Int.natCast_zero,go_sem,Nat.reduceEqDiff,Nat.reduceLeDiff,Nat.reduceBEq,↓reduceIte,reduceCtorEq];refine⟨fun i _=>⟨(301,0),rfl,?_⟩,?_⟩
   ·simp only[go_sem,go_sem,Nat.reduceEqDiff,↓reduceIte]
   refine⟨fun i hi=>?_,fun i hi=>?_,fun i hi=>?_⟩
   ·obtain rfl:i=0:=by omega
    simp only[Nat.zero_mul];simp only[en0,live,yc,go_sem,reduceCtorEq]
   ·obtain rfl:i=0:=by omega
    simp only[st0,List.getD_cons_zero,yc,go_sem]
   ·obtain rfl:i=0:=by omega
    simp only[st0,List.getD_cons_zero,go_sem]
  ·rintro i ⟨hi,hj,hci,hko,hks⟩;obtain⟨cr1,cr2⟩:=ymn h.hg h.hp hci;have cin:=yin h.hg h.hp hci;have eni:=ybvz p g (st i).1
   have fin:(i=ws.length\/en i=0)->(ybl p g).runs res ws c=mapR (i+1) st:=fun hq=>by
    have e:=ybgo (ybl p g) res ws c i;rw[show(ybl p g).en c=ybp p g c from rfl,hK0]at e
    exact e hj hi hq
   simp only[ycgg,yccx,ybon,ycz,yeq,seeC,usV,cntV,go_sem,Nat.reduceEqDiff,Nat.reduceAdd,Nat.reduceLeDiff,Nat.reduceBEq,↓reduceIte,reduceCtorEq];refine⟨fun hlt=>.inl ?_,fun hlt=>?_⟩
   ·have hi':i<ws.length:=by omega
    by_cases h0:en i=0
    ·obtain⟨x,hF⟩:=ybba hd (.fn 131 [] [.rf [.sl 1 (i+1) fun j=>[ybe (st j).1]],.rf [.sl 5 (i+1) fun j=>cntV (st j).2]]) (.i .u32 (2 ^ g.ids.length - 1:Nat)) (yeq p g) hw hi';simp only[yeq,usV,cntV]at hF;simp only[h0,Int.natCast_zero];refine hF.use ?_;simp only[thenO,yzh,ybco,ybaa,go_sem,Nat.reduceEqDiff,Nat.reduceAdd,Nat.reduceLeDiff,↓reduceIte,reduceCtorEq];refine⟨by decide,?_⟩
     simp only[yfu,go_sem];refine⟨.tp [.ag (usV (mapR i ch) :: usV (mapR (i+1) en) :: ybe (st i).1 :: cntV (st i).2),.i .i64 0],O2,?_,?_,⟨_,_,_,_,rfl⟩,rfl⟩
     ·subst hO2;rw[fin (.inr h0)];refine ydf [] [] [(301,0),(302,0)] ?_;simp only[seeX,usV,cntV,ybfh,ybdr,allQ,live,yc,yu,go_sem,Nat.reduceEqDiff,↓reduceIte,reduceCtorEq];refine⟨ybpb ⟨yqk ⟨sim_sl fun q hq=>by rw[gmR _ _ _ _ hq],sim_sl fun q hq=>by rw[gmR _ _ _ _ hq],Sim.refl _,Sim.refl _,Sim.refl _,Sim.refl _,Sim.refl _,Sim.refl _,trivial⟩,Sim.refl _,trivial⟩,fun q hq=>?_,fun q hq=>?_⟩
      ·rw[gmR _ _ _ _ hq];exact Sim.refl _
      ·rw[gmR _ _ _ _ hq];exact⟨rfl,rfl,rfl,rfl,rfl⟩
     ·subst hO2;simp only[seeX,usV,cntV,famCln,yfn,allQ,live,go_sem,Nat.reduceEqDiff,↓reduceIte]
    ·have hen24:en i<2 ^ 24:=by show ybp p g (st i).1<_;omega
     have henn:en i<2 ^ net.length:=Nat.lt_of_lt_of_le eni (Nat.pow_le_pow_right (by omega) hnl)
     have hF:=yzu hd (.fn 131 [] [.rf [.sl 1 (i+1) fun j=>[ybe (st j).1]],.rf [.sl 5 (i+1) fun j=>cntV (st j).2]]) (.i .u32 (2 ^ g.ids.length - 1:Nat)) (yeq p g) hw hen24 henn h0 hi';obtain⟨hch0,hchs⟩:=hd.sub (en i) (ws.getD i 0) h0 hen24;have hP:=hd.permits (en i) (ws.getD i 0) hen24 henn h0 (hw i);have hch24:ch i<2 ^ 24:=yctv hchs hen24;have hSt:=ybvg p h.hg h.hp cin (s:=ch i) (by omega) hchs
     obtain⟨d,hdd⟩:∃ d,ykj p g (st i).1 (ch i)=d:=⟨_,rfl⟩;rw[hdd]at hSt;have hcd:yfp p g d=true:=by rw[<- hdd];exact ysn h.hg h.hp h.hf hci (ch i)
     simp only[yeq,usV,cntV]at hF hP;refine hF.use ?_;simp only[thenO,yzh,ybjt,go_sem,Nat.reduceEqDiff,Nat.reduceAdd,Nat.reduceLeDiff,Nat.reduceBEq,↓reduceIte,reduceCtorEq];refine hP.use ?_;simp only[thenO,ybqd,go_sem,Nat.reduceEqDiff,Nat.reduceAdd,Nat.reduceLeDiff,Nat.reduceBEq,↓reduceIte,reduceCtorEq];refine hSt.useS ?_ ?_
     ·exact⟨ypi _ _,Sim.refl _,Sim.refl _,trivial⟩
     obtain⟨dr1,dr2⟩:=ymn h.hg h.hp hcd;have dcin:=yin h.hg h.hp hcd;have hE2:=yns p h.hg h.hp dcin;have hen2:=ybvz p g d;obtain⟨e2,he2⟩:∃ e,ybp p g d=e:=⟨_,rfl⟩;rw[he2]at hE2 hen2
     have ha2:IntKind.wrap .u32 (((BitVec.ofInt (IntKind.bits .u32) (e2:Int)) &&& BitVec.ofInt (IntKind.bits .u32) ((2 ^ g.ids.length - 1:Nat):Int)).toNat:Int)=(e2:Int):=by
      have e:=u32_and (a:=e2) (b:=2 ^ g.ids.length - 1) (by omega) (by omega)
      rw[Nat.and_two_pow_sub_one_of_lt_two_pow hen2]at e;exact e
     simp only[IntKind.bits]at ha2;simp only[thenO,ybkd,clash,go_sem,Nat.reduceEqDiff,Nat.reduceAdd,Nat.reduceLeDiff,Nat.reduceBEq,↓reduceIte,reduceCtorEq];refine hE2.useS ?_ ?_
     ·exact⟨ypi _ _,Sim.refl _,trivial⟩
     have hA:=ycud hko (by omega) hch0 hch24 (e:=e2) (by omega)
     obtain⟨K2,hK2⟩:∃ K,addP (st i).2 (ch i) e2=K:=⟨_,rfl⟩;rw[hK2]at hA;simp only[cntV]at hA;simp only[thenO,ybmb,clash,ha2,go_sem,Nat.reduceEqDiff,Nat.reduceAdd,Nat.reduceBEq,↓reduceIte,reduceCtorEq];refine hA.use ?_;simp only[ybjx,go_sem,Nat.reduceEqDiff,Nat.reduceAdd,↓reduceIte,reduceCtorEq]
     let cs:List Conf:=(List.range (i+1)).map fun j=>(st j).1
     let ks:List Cnt:=(List.range (i+1)).map fun j=>(st j).2
     have lc:cs.length=i+1:=by simp[cs]
     have lk:ks.length=i+1:=by simp[ks]
     have hS2:=ybzb cs ks (by omega) (by omega) dr1 dr2 e2 K2
     simp only[cntV]at hS2;refine callM_of hS2 [(1,201),(2,202),(3,203),(4,204)] 400 [40,39,1,3,4,8,9,10,11,12,14] [4,8,10,301,302,12,205,206] ?_ ?_
     ·simp only[seeO,lc,lk,cntV,to1,okN,famCln,yfn,keepF,keepO,allQ,live,yc,yu,go_sem,Nat.reduceEqDiff,Nat.reduceAdd,Nat.reduceBEq,↓reduceIte,reduceCtorEq];refine⟨fun q hq=>?_,fun q hq=>?_⟩
      ·simp only[cs,gmr _ _ _ _ hq];exact Sim.refl _
      ·simp only[ks,gmr _ _ _ _ hq];exact⟨trivial,trivial,trivial,trivial,trivial⟩
     ·rintro r o' ⟨rfl,rfl⟩;simp only[seeO,cntV,List.length_append,lc,lk,thenM,ylo,nuF,nu,difN,keepF,keepO,Fam.ren,OB.ren,dim,ygk,ysh,yki,go_sem,Nat.reduceEqDiff,Nat.reduceBEq,↓reduceIte];simp only[ybkj,ybns,yboj,splice,go_sem,Nat.reduceEqDiff,Nat.reduceAdd,Nat.reduceLeDiff,Nat.reduceLT,↓reduceIte,reduceCtorEq]
      have hst:st (i+1)=(d,K2):=by
       show stAt (ybl p g) res ws c K0 (i+1)=_;rw[ywf];show(ykj p g (st i).1 (ch i),addP (st i).2 (ch i) (ybp p g (ykj p g (st i).1 (ch i))))=_;rw[hdd,he2,hK2]
      have hen':en (i+1)=e2:=by
       show ybp p g (st (i+1)).1=_;rw[hst];exact he2
      refine⟨⟨by omega,by omega⟩,⟨by omega,by omega⟩,ikw (by omega) (by omega),?_⟩
      refine yh (i+1) ⟨by omega,fun j hj'=>?_,by rw[hst];exact hcd,by rw[hst,<- hK2];exact ycsw hko hch24 hch0 (by omega),by rw[hst,<- hK2];show(st i).2.steps+1=i+1;omega⟩ (by omega) ?_
      ·by_cases q:j=i
       ·rw[q];exact h0
       ·exact hj j (by omega)
      refine ydf [(301,fun i=>(90,i)),(302,fun i=>(96,i))] [] [] ?_;simp only[hst,hen',allQ,live,yc,yu,go_sem,Nat.reduceEqDiff,Nat.reduceLeDiff,↓reduceIte,reduceCtorEq];have hcs:∀ k,k<i+1+1->(cs ++ [d]).getD k []=(st k).1:=ybph (fun j=>(st j).1) (i+1) d [] (by rw[hst])
      have hksx:∀ k,k<i+1+1->(ks ++ [K2]).getD k default=(st k).2:=ybph (fun j=>(st j).2) (i+1) K2 default (by rw[hst])
      refine⟨by omega,fun q hq=>?_,fun q hq=>?_,fun q hq=>?_,fun q hq=>?_⟩
      ·by_cases q1:q<i
       ·simp only[if_pos q1];simp only[go_sem,live,yc,go_sem,reduceCtorEq]
       ·obtain rfl:q=i:=by omega
        simp only[if_neg q1,Nat.sub_self,Nat.zero_mul];simp only[ch,live,yc,go_sem,reduceCtorEq]
      ·by_cases q1:q<i+1
       ·simp only[if_pos q1];simp only[go_sem,live,yc,go_sem,reduceCtorEq]
       ·obtain rfl:q=i+1:=by omega
        simp only[if_neg q1,Nat.sub_self,Nat.zero_mul];simp only[hen',live,yc,go_sem,reduceCtorEq]
      ·rw[hcs q hq];exact Sim.refl _
      ·rw[hksx q hq];exact⟨rfl,rfl,rfl,rfl,rfl⟩
   ·obtain rfl:i=ws.length:=by omega
    simp only[ybco,ybaa,go_sem,Nat.reduceEqDiff,Nat.reduceAdd,Nat.reduceLeDiff,↓reduceIte,reduceCtorEq];refine⟨by decide,?_⟩
    simp only[yfu,go_sem];refine⟨.tp [.ag (usV (mapR ws.length ch) :: usV (mapR (ws.length+1) en) :: ybe (st ws.length).1 :: cntV (st ws.length).2),.i .i64 0],O2,?_,?_,⟨_,_,_,_,rfl⟩,rfl⟩
    ·subst hO2;rw[fin (.inl rfl)];refine ydf [] [] [(301,0),(302,0)] ?_;simp only[seeX,usV,cntV,ybfh,ybdr,allQ,live,yc,yu,go_sem,Nat.reduceEqDiff,↓reduceIte,reduceCtorEq];refine⟨ybpb ⟨yqk ⟨sim_sl fun q hq=>by rw[gmR _ _ _ _ hq],sim_sl fun q hq=>by rw[gmR _ _ _ _ hq],Sim.refl _,Sim.refl _,Sim.refl _,Sim.refl _,Sim.refl _,Sim.refl _,trivial⟩,Sim.refl _,trivial⟩,fun q hq=>?_,fun q hq=>?_⟩
     ·rw[gmR _ _ _ _ hq];exact Sim.refl _
     ·rw[gmR _ _ _ _ hq];exact⟨rfl,rfl,rfl,rfl,rfl⟩
    ·subst hO2;simp only[seeX,usV,cntV,famCln,yfn,allQ,live,go_sem,Nat.reduceEqDiff,↓reduceIte]
end
end Sh
end Go.Proofs.YtiejahgklcjhkaaGreatDoor

namespace Go.Proofs.YtiejahgklcjhkaaGreatDoor
open Go
namespace Sh
open Ev Go.RowKit
set_option maxRecDepth 8000
theorem Returns.exT{P:Program}{g:FuncId}{args:List SV}{r:SV}(h:Returns P g args r):Returns P g args (.ex TT r):=fun G m us h1 h2 h3=>by
 obtain⟨v,m',x,a,b,c,d,e⟩:=h G m us h1 h2 h3;exact⟨v,m',.ex TT r,a,b,c,rfl,.ex trivial (fun _ _ _ _ _=>trivial) (d ▸ e)⟩
section
variable {Q1 Q2:(Nat->Option ABlk)->Value->Prop} {p:ProgT} {g:Gr}
theorem ybmq(h:Checked Q1 Q2 p g){kind:Int}(hk:1<=kind/\kind<=4){c:Conf}(hc:yfp p g c=true){len:Nat}(hl:len<=4096):Returns Tryz.prog 129 [.ag (yfl Q1 Q2 p.raw),grV g,.i .i64 kind,ybe c,.i .i64 len] (.i .i64 0):=by
 refine Returns.of (ycuy _ _ ?_);have hC:=yblm h c;rw[if_pos hc]at hC;have hD:=ybfw kind;rw[decide_eq_true hk.1,decide_eq_true hk.2]at hD;have f1:decide ((len:Int) > 4096)=false:=by simp;omega
 simp only[yfl,grV]at hC;simp only[c129,ychs,ycbc,yfl,grV,go_sem,Nat.reduceEqDiff,Nat.reduceAdd,Nat.reduceLT,↓reduceIte,reduceCtorEq];refine hC.use ?_;simp only[thenO,ycek,ycki,Int.reduceBNe,go_sem,Nat.reduceEqDiff,Nat.reduceAdd,↓reduceIte,reduceCtorEq];refine hD.use ?_;simp only[ycdw,ycke,f1,yu,Bool.and_self,go_sem,Nat.reduceEqDiff,Nat.reduceAdd,↓reduceIte,reduceCtorEq]
theorem ybis(h:Checked Q1 Q2 p g):Returns Tryz.prog 93 [.ag (ykf p.raw),grV g] (yeq p g):=by
 have hp':=h.hp;unfold ProgT.ok at hp';simp only[Bool.and_eq_true,decide_eq_true_eq]at hp';exact(yyb p.raw h.hg hp'.1.1.2 hp'.1.1.1.2).exT
theorem yyq(h:Checked Q1 Q2 p g)(kind:Int):Cm Tryz.prog 130 [(201,0),(203,0)] yjz [.ag (yfl Q1 Q2 p.raw),grV g,.i .i64 kind,seeC] fun r o=>r = .ag (ycz p g (g.ports.map netP) kind)/\o=yjz:=by
 refine ybzr [(201,0),(203,0)] [] _ _ _ ?_;have hM:=ybis h;have hN:=ybgd h.hg;have hA:=ybkv h.hg;simp only[grV]at hM hN hA;simp only[c130,ycgp,ycef,yfl,grV,seeC,yjz,clash,go_sem,Nat.reduceEqDiff,Nat.reduceAdd,Nat.reduceLT,↓reduceIte,reduceCtorEq];refine hM.useS ?_ ?_
 ·exact⟨yqk ⟨Sim.refl _,ypi _ _,ypi _ _,trivial⟩,Sim.refl _,trivial⟩
 simp only[usV,yeq]at hN ⊢;simp only[thenO,clash,go_sem,Nat.reduceEqDiff,Nat.reduceAdd,Nat.reduceLeDiff,↓reduceIte,reduceCtorEq];refine hN.use ?_;simp only[go_sem,Nat.reduceAdd,Nat.reduceLeDiff,↓reduceIte];refine⟨by decide,hA.use ?_⟩
 simp only[yfu,go_sem,Nat.reduceEqDiff,Nat.reduceAdd,↓reduceIte];refine⟨by decide,by decide,.ag (ycz p g (g.ports.map netP) kind),yjz,?_,?_,rfl,rfl⟩
 ·refine ydf [] [] [] ?_;simp only[ycz,yeq,usV,seeC,yjz,allQ,live,yc,go_sem,Nat.reduceEqDiff,↓reduceIte,reduceCtorEq]
 ·simp only[ycz,yeq,usV,seeC,yjz,famCln,yfn,allQ,live,go_sem,Nat.reduceEqDiff,↓reduceIte]
theorem ybot(h:Checked Q1 Q2 p g){kind:Int}{net:List Nat}(hnl:g.ids.length<=net.length){res:Nat->Nat->Nat}(hd:DaemonOk kind net res){c:Conf}(hc:yfp p g c=true){ws:List Nat}(hw:∀ k,ws.getD k 0<2 ^ 32)(hwl:ws.length<=4000) :
  Cm Tryz.prog 133 [(201,0),(203,0)] yjz [.ag (ycz p g net kind),ybe c,usV ws]
   fun r o=>(∃ l1 l2 c' k',r = .tp [.ag (usV l1 :: usV l2 :: ybe c' :: cntV k'),.i .i64 0])/\o=seeX ((ybl p g).runs res ws c |>.map (·.1)) ((ybl p g).runs res ws c |>.map (·.2)):=by
 refine ybwz [(201,0),(203,0)] [168] _ _ _ ?_;have hX:=ybgr h hnl hd hc hw hwl
 generalize ((ybl p g).runs res ws c).map (·.1)=CS at hX ⊢
 generalize ((ybl p g).runs res ws c).map (·.2)=KS at hX ⊢
 simp only[c133,ycbn,ycle,yjz,ycz,yeq,usV,seeC,go_sem,Nat.reduceEqDiff,Nat.reduceAdd,Nat.reduceLT,↓reduceIte,reduceCtorEq];refine callM_of hX [(201,201),(203,203),(205,3),(206,5)] 0 [6,7] [6] ?_ ?_
 ·simp only[yjz,ybor,ycz,yeq,usV,seeC,List.cons_append,List.nil_append,to1,okN,famCln,yfn,keepF,keepO,allQ,live,yc,go_sem,Nat.reduceEqDiff,Nat.reduceAdd,Nat.reduceLeDiff,Nat.reduceBEq,↓reduceIte,reduceCtorEq]
 ·rintro r o' ⟨⟨l1,l2,c',k',rfl⟩,rfl⟩;simp only[seeX,usV,cntV,thenM,ylo,nuF,nu,difN,keepF,keepO,Fam.ren,OB.ren,dim,ygk,yyh,yry,ysh,yki,go_sem,Nat.reduceEqDiff,Nat.reduceAdd,Nat.reduceBEq,↓reduceIte,reduceCtorEq];simp only[yfu,go_sem];refine⟨.tp [.ag (usV l1 :: usV l2 :: ybe c' :: cntV k'),.i .i64 0],seeX CS KS,?_,?_,⟨l1,l2,c',k',rfl⟩,rfl⟩
  ·refine ydf [] [] [] ?_;simp only[seeX,usV,cntV,allQ,live,yc,go_sem,Nat.reduceEqDiff,↓reduceIte,reduceCtorEq]
  ·simp only[seeX,usV,cntV,famCln,yfn,allQ,live,go_sem,Nat.reduceEqDiff,↓reduceIte]
def ydc(l:List Conf):SV:=.sl 1 l.length (fun i=>[ybe (l.getD i [])])
def ygl(l:List Cnt):SV:=.sl 5 l.length (fun i=>cntV (l.getD i default))
theorem ybpz(h:Checked Q1 Q2 p g){kind:Int}(hk:1<=kind/\kind<=4){res:Nat->Nat->Nat}(hd:DaemonOk kind (g.ports.map netP) res){c:Conf}(hc:yfp p g c=true){ws:List Nat}(hw:∀ k,ws.getD k 0<2 ^ 32)(hwl:ws.length<=4000) :
  Returns Tryz.prog 78 [.ag (yfl Q1 Q2 p.raw),grV g,.i .i64 kind,ybe c,usV ws] (.tp [ydc (((ybl p g).runs res ws c).map (·.1)),ygl (((ybl p g).runs res ws c).map (·.2)),.i .i64 0]):=by
 refine Returns.of (ycpe [130,133] _ _ ?_);have hC:=ybmq h hk hc (len:=ws.length) (by omega)
 have hN:=yyq h kind;have hX:=ybot h (by have:=h.hg.2.2.1;rw[List.length_map];omega) hd hc hw hwl
 generalize ((ybl p g).runs res ws c).map (·.1)=CS at hX ⊢
 generalize ((ybl p g).runs res ws c).map (·.2)=KS at hX ⊢
 simp only[yfl,grV]at hC;simp only[c78,ycvq,ycxc,yfl,grV,usV,go_sem,Nat.reduceEqDiff,Nat.reduceAdd,Nat.reduceLT,Nat.reduceBEq,↓reduceIte,reduceCtorEq];refine hC.use ?_;simp only[thenO,ycwz,ydbm,ycxa,yddf,Int.reduceBNe,go_sem,Nat.reduceEqDiff,Nat.reduceAdd,Nat.reduceLT,↓reduceIte,reduceCtorEq];refine callM_of hN [(201,14),(203,15)] 0 [3,4,14,15] [] ?_ ?_
 ·simp only[yjz,seeC,yfl,grV,to1,okN,famCln,yfn,keepF,keepO,allQ,live,yc,go_sem,Nat.reduceEqDiff,Nat.reduceAdd,↓reduceIte,reduceCtorEq]
 rintro r o' ⟨rfl,rfl⟩;simp only[yjz,ycz,yeq,usV,seeC,thenM,ylo,nuF,nu,difN,keepF,keepO,Fam.ren,OB.ren,dim,ygk,ybxa,yyh,yclu,yry,ycdj,ycii,go_sem,Nat.reduceEqDiff,Nat.reduceAdd,Nat.reduceLT,Nat.reduceBEq,↓reduceIte,reduceCtorEq];simp only[yczm,go_sem,Nat.reduceEqDiff,Nat.reduceAdd,Nat.reduceBEq,↓reduceIte,reduceCtorEq];simp only[ycz,yeq,usV,seeC]at hX;refine callM_of hX [(201,14),(203,15)] 0 [14,15] [] ?_ ?_
 ·simp only[yjz,to1,okN,famCln,yfn,keepF,keepO,allQ,live,yc,go_sem,Nat.reduceEqDiff,Nat.reduceAdd,↓reduceIte,reduceCtorEq]
 rintro r o' ⟨⟨l1,l2,c',k',rfl⟩,rfl⟩;simp only[seeX,cntV,thenM,ylo,nuF,nu,difN,keepF,keepO,Fam.ren,OB.ren,dim,ygk,yyh,yry,ysh,yki,go_sem,Nat.reduceEqDiff,Nat.reduceAdd,Nat.reduceLT,Nat.reduceBEq,↓reduceIte,reduceCtorEq];simp only[ydde,yceg,clash,Int.reduceBNe,ydc,ygl,go_sem,Nat.reduceEqDiff,Nat.reduceAdd,↓reduceIte,reduceCtorEq];exact Sim.refl _
end
end Sh
end Go.Proofs.YtiejahgklcjhkaaGreatDoor

