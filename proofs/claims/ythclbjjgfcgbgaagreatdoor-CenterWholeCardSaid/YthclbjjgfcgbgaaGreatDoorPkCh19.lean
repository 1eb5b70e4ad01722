/- Joined. -/
import Derived.Test.YthclbjjgfcgbgaaGreatDoorPkCh18
set_option linter.unusedSimpArgs false
set_option linter.unusedVariables false
set_option maxRecDepth 8000
open Nat renaming reduceEqDiff->zA,reduceAdd->zB,reduceLT->zC,reduceBEq->zF,reduceLeDiff->zG,pow_le_pow_right->zI,zero_le->zJ,le_trans->zM,le_refl->zS,not_lt_zero->zT,lt_of_lt_of_le->zV,le_mul_of_pos_left->zX,mul_le_mul_left->zAE,testBit_lt_two_pow->zAI,max_eq_right->zAK,testBit_and->zAL,max_eq_left->zAM,mul_le_mul->zAO,mul_comm->zAP,le_total->zAQ,lt_trans->zAR
open And renaming intro->zD
open Int renaming natCast_zero->zH,lt_irrefl->zK,toNat_natCast->zO,reduceBNe->zY,mul_le_mul_of_nonneg_right->zAB,lt_or_le->zAS
open List renaming mem_cons_self->zL,getElem_mem->zQ,length_append->zW,countP_mono_left->zAA,mem_cons_of_mem->zAC,length_map->zAD,getD_eq_getElem?_getD->zAF,getElem?_eq_getElem->zAG,headD_cons->zAH,getElem?_map->zAJ,countP_map->zAN,range->zAT,getD->zAU
open Bool renaming and_eq_true->zN
open Classical renaming byContradiction->zU
open Go.Proofs.Tryz renaming prog->zZ
open Go
namespace Go.Proofs.YthclbjjgfcgbgaaGreatDoor
section
namespace Sh
open Ev Go.RowKit
theorem ydre{h:Nm->Nm}{vir:List Nat}{fr:List Nm}{O1 O:Own}{X:List SV}{k:IntKind}{x:Int}(e:X=[.i k x]):telL h vir fr O1 O X [.i k x]:=by
 subst e;exact⟨.inl ⟨trivial,by rw[ybup];exact Sim.refl _,rfl⟩,rfl,trivial⟩
theorem ybey{l:List Int}{c:OB}{h:Nm->Nm}{fr:List Nm}{O1 O2:Own}(hc:(c.e=3/\c.bx=false/\c.z=1/\c.n=l.length)/\∀i,i<l.length->c.g i=[.i .i64 (l.getD i 0)]) :
 (c.e=(intO l).e/\c.bx=(intO l).bx/\c.z=(intO l).z/\c.n=(intO l).n)/\(mapE (intO l).e=true->∀i,c.g i=(intO l).g i)/\∀i,i<(intO l).n->telL h [] fr O1 O2 (c.g i) ((intO l).g i) :=
 ⟨hc.1,fun q=>absurd (show false=true from q) Bool.false_ne_true,fun i hi=>ydre (hc.2 i hi)⟩
set_option maxHeartbeats 8000000 in
theorem ychm(p:ProgT){g:Gr}(hg:ybj g)(hp:p.ok=true){c:Conf}(hc:ConfIn g.ports.length p.vars.length c){v:Nat}(hv:v<g.ports.length){r:Nat}(hr:r<p.rules.length) :
 Cm zZ 127 [(302,0)] (ybr 302 303 c.length fun j=>c.getD j []) [.rf (yim p.raw g),.os (302,0) 0 c.length true,.i .i64 v,.i .i64 r] fun r' o=>r'=ybc (yjt p g c v r)/\o=ybr 302 303 c.length fun j=>c.getD j []:=by
 refine ycgn [(302,0)] [] _ _ _ ?_;obtain⟨R,hR⟩:∃R,p.rules.getD r default=R:=⟨_,rfl⟩;have hp':=hp;unfold ProgT.ok at hp';simp only[zN,decide_eq_true_eq]at hp'
 have hok:R.ok p.vars.length=true:=by
  rw[<-hR,getD_at hr];exact List.all_eq_true.1 hp'.2 _ (zQ _)
 unfold RuleT.ok at hok;simp only[zN,decide_eq_true_eq]at hok
 have hraw:p.raw.rules.getD r default=R.raw:=by
  rw[<-hR];simp[ProgT.raw,zAU,hr]
 have hlen:p.raw.rules.length=p.rules.length:=by simp[ProgT.raw]
 have hsl:R.raw.sets.length=R.sets.length:=by simp[RuleT.raw]
 have hid:=hg.2.2.1;have hcl:=hc.len;have hrow:=hc.at_ hv;have hne:¬(c.getD v []).length=0:=by omega
 have hvc:v<c.length:=by omega
 let w:Nat->List Int:=fun j=>c.getD j []
 simp only[c127,ycqp,ydaa,ycpj,hne,yim,ydd,yio,hraw,hlen,hsl,ybr,ycm,intO,if_pos hvc,clash,go_sem,zA,zB,zG,zC,↓reduceIte,reduceCtorEq];obtain⟨nv,hnv⟩:∃k,p.vars.length=k:=⟨_,rfl⟩;have hrl:=hrow.1;rw[hnv]at hrl hok hc;rw[hnv]at hp';have hmv:yjt p g c v r=yrp p g c v (c.getD v []) R.sets:=by unfold yjt;rw[hR]
 have hml:∀k,(yrp p g c v (c.getD v []) (R.sets.take k)).length=nv:=fun k=>(yqz p g c v _ _).trans hrl
 repeat refine zD (by first|omega|decide|exact ikw (by omega) (by omega)) ?_
 refine ybd (σ:=Nat) (fun k=>⟨[(28,.i .i64 k),(27,.i .i64 R.sets.length),(26,yio R.raw.sets),(0,.rf (yim p.raw g)),(1,.os (302,0) 0 c.length true),(2,.i .i64 v),(9,.os (17,0) 0 nv true)],
  (17,.one (some ⟨3,false,1,nv,fun i=>[.i .i64 ((yrp p g c v (c.getD v []) (R.sets.take k)).getD i 0)]⟩))::ybr 302 303 c.length w⟩) (fun k=>k<=R.sets.length) (fun k=>R.sets.length-k) 0 (zJ _) ?_ ?_
 .refine ybl [] [] [] ?_;simp only[yim,ydd,yio,hlen,hsl,hrl,ybr,ycm,allQ,live,yc,yx,zH,go_sem,zA,zC,↓reduceIte,reduceCtorEq];refine⟨fun _ _ _ _ e=>e,fun i hi=>rfl,fun i hi=>⟨Sim.refl _,by rw[if_pos hi]⟩,fun i b hb=>?_⟩
  obtain⟨q,rfl⟩:=yco hb;exact⟨_,if_pos q,ycg (ycj _)⟩
 .intro k hk;simp only[ycym,ycvs,yczf,yim,yio,hsl,ybr,splice,clash,go_sem,zA,zB,zG,zC,↓reduceIte,reduceCtorEq];refine⟨fun hlt=>?_,fun hlt=>?_⟩
  .have hk':k<R.sets.length:=by omega
   obtain⟨S,hS⟩:∃S,R.sets.getD k default=S:=⟨_,rfl⟩
   have hset:R.raw.sets.getD k default=⟨S.1,S.2.ser⟩:=by
    rw[<-hS];simp[RuleT.raw,zAU,hk']
   have hSok:=List.all_eq_true.1 hok.2 S (by rw[<-hS,getD_at hk'];exact zQ _)
   simp only[zN,decide_eq_true_eq]at hSok;have hV:=ybbr p.raw hg hc hv S.2 hSok.1.2 hSok.2;refine⟨by omega,?_⟩
   rw[hset];refine .inl ⟨fun q hq=>?_,hV.useS ⟨Sim.refl _,?_,Sim.refl _,Sim.refl _,trivial⟩ ?_⟩
   .simp only[ycm,if_pos hq];exact⟨zS _,fun _ _=>⟨trivial,trivial⟩⟩
   .unfold ycn;refine ydp fun q hq=>?_;simp only[ycm,if_pos hq];exact⟨⟨Sim.refl _,trivial⟩,rfl⟩
   have hB:=ycan (p.vars.getD S.1.toNat default).kind (ybn g v (p.vars.getD S.1.toNat default)) (yfn g c v S.2 (-1));have hvars:p.raw.vars=p.vars:=rfl;simp only[ycqo,ybg,ywn,yeu,varC,splice,hvars,hnv,clash,go_sem,zA,zB,zG,↓reduceIte,reduceCtorEq];refine⟨by omega,by omega,by omega,hB.use ?_⟩
   simp only[go_sem,zA,↓reduceIte];have hb2:Nat.testBit 134217727 25=true:=by decide
   simp only[ycxn,hb2,clash,go_sem,zA,zB,↓reduceIte,reduceCtorEq];refine⟨by omega,by omega,ikw (by omega) (by omega),?_⟩
   refine yj (k+1) (by omega) (by omega) ?_
   refine ybl [] [] [] ?_;simp only[ybph p g c v _ _ k hk',hS,ycm,allQ,live,yc,yx,go_sem,zA,zC,↓reduceIte,reduceCtorEq];refine⟨fun _ _ _ _ e=>e,by omega,fun i hi=>yfi ?_,fun i hi=>by rw[if_pos hi],fun i b hb=>?_⟩
   .rw[yzt (by rw[hml];omega)]
    by_cases q:i=S.1.toNat
    .simp only[if_pos q]
    .simp only[if_neg q]
   .obtain⟨q,rfl⟩:=yco hb;exact⟨_,if_pos q,ycg (ycj _)⟩
  .obtain rfl:k=R.sets.length:=by omega
   simp only[ycwm,ygm,clash,go_sem,zA,zB,↓reduceIte,reduceCtorEq];have hl:=hml R.sets.length;rw[List.take_length,<-hmv]at hl ⊢;refine⟨ybc (yjt p g c v r),ybr 302 303 c.length w,?_,?_,rfl,rfl⟩
   .refine ybl [] [] [(17,0)] ?_;simp only[ybr,ycm,ybc,allQ,live,yc,go_sem,zA,zC,↓reduceIte,reduceCtorEq];refine⟨fun _ _ _ _ e=>e,by rw[hl];exact Sim.refl _,fun i hi=>by rw[if_pos hi],fun i b hb=>?_⟩
    obtain⟨q,rfl⟩:=yco hb;exact⟨_,if_pos q,ybey (ycj _)⟩
   .simp only[ybr,ycm,ycc,yev,ybc,allQ,live,go_sem,zA,↓reduceIte];exact⟨fun k hk=>by rw[if_pos hk],fun i b hb=>(yco hb).2▸yjr⟩
end Sh
end
section
theorem ybbb(f:Nat->Int):∀(l:List Nat),sumI (fun j=>f (l.getD j 0)) l.length=(l.map f).sum
 |[]=>rfl
 | x::l=>by
   show sumI _ (l.length+1)=_;rw[ykw,List.map_cons,List.sum_cons,<-ybbb f l];rfl
theorem yblx(f:Nat->Int)(p:Nat->Bool):∀m,(((zAT m).filter p).map f).sum=sumI (fun v=>if p v=true then f v else 0) m
 |0=>rfl
 | m+1=>by
   rw[List.range_succ,List.filter_append,List.map_append,List.sum_append,yblx f p m];show _=sumI _ m+_;congr 1;cases h:p m<;>simp[h]
theorem ybmm{g:Nat->Int}{n:Nat}:∀d,(∀v,n<=v->g v=0)->sumI g (n+d)=sumI g n
 |0,_=>rfl
 | d+1,h=>by
   show sumI g (n+d)+g (n+d)=_;rw[ybmm d h,h (n+d) (by omega)];omega
theorem ybvs{f:Nat->Int}{s n:Nat}(hn:n<=32)(hs:s<2^n):sumI (fun j=>f ((ybw s).getD j 0)) (ybw s).length=sumI (fun v=>if s.testBit v=true then f v else 0) n:=by
 rw[ybbb];unfold ybw;rw[yblx]
 have:=ybmm (g:=fun v=>if s.testBit v=true then f v else 0) (n:=n) (32-n) fun v hv=>by
  show(if s.testBit v=true then f v else 0)=0
  rw[zAI (zV hs (zI (by omega) hv))];rfl
 rw[show n+(32-n)=32 by omega]at this
 exact this
theorem ybjt:∀(xs qs:List Int),grR xs xs qs=0
 |[],_=>rfl
 |_::_,[]=>rfl
 | x::xs,q::qs=>by
   show(x-x)*q+grR xs xs qs=0;rw[ybjt xs qs,Int.sub_self,Int.zero_mul];rfl
theorem ybfm{f:Nat->Int}{B:Int}:∀n:Nat,(∀i,i<n -> -B<=f i/\f i<=B) -> -(n*B)<=sumI f n/\sumI f n<=n*B
 |0,_=>by simp[sumI]
 | n+1,h=>by
   have ih:=ybfm n fun i hi=>h i (by omega)
   have h1:=h n (by omega)
   show -(((n+1:Nat):Int)*B)<=sumI f n+f n/\sumI f n+f n<=((n+1:Nat):Int)*B;have:((n+1:Nat):Int)*B=n*B+B:=by rw[Int.natCast_add,Int.add_mul];simp
   omega
theorem ycss{a b:Int}(h1:-2000000<=a/\a<=2000000)(h2:0<=b/\b<=32768):-65536000000<=a*b/\a*b<=65536000000:=by
 have e1:a*b<=2000000*b:=zAB h1.2 h2.1;have e2:-2000000*b<=a*b:=zAB h1.1 h2.1;omega
theorem ybuu:∀{bs:List (Int×Int)}(p:Nat) {t:Nat},bdR bs->t<bs.length->∃m:Nat,(plR bs p).1.getD t 0=(m:Int)/\m<=p*ybp bs
 |[],_,_,_,h=>by simp at h
 | b::bs,p,0,hb,_=>⟨(plR bs p).2,rfl,by
   rw[ypd];exact zAE _ (zX _ (yot (hb b zL)).1)⟩
 | b::bs,p,t+1,hb,h=>by
   obtain⟨m,h1,h2⟩:=ybuu (bs:=bs) p (t:=t) (fun x hx=>hb x (zAC _ hx)) (by simpa using h)
   exact⟨m,h1,zM h2 (zAE _ (zX _ (yot (hb b zL)).1))⟩
theorem ycds:∀{rs:List (List (Int×Int))}(p:Nat) {v t:Nat},bdT rs->v<rs.length->t<(rs.getD v []).length->∃m:Nat,((plT rs p).1.getD v []).getD t 0=(m:Int)/\m<=p*ybi rs
 |[],_,_,_,_,h,_=>by simp at h
 | r::rs,p,0,t,hb,_,ht=>by
   obtain⟨m,h1,h2⟩:=ybuu (bs:=r) (plT rs p).2 (hb r zL) ht;refine⟨m,h1,zM h2 ?_⟩;rw[yyx];show p*ybi rs*ybp r<=p*(ybp r*ybi rs);rw[Nat.mul_assoc,zAP (ybi rs)];exact zS _
 | r::rs,p,v+1,t,hb,h,ht=>by
   obtain⟨m,h1,h2⟩:=ycds (rs:=rs) p (v:=v) (t:=t) (fun x hx=>hb x (zAC _ hx)) (by simpa using h) ht
   exact⟨m,h1,zM h2 (zAE _ (zX _ (ykq (hb r zL))))⟩
def ylr(p:ProgT)(g:Gr)(c:Conf)(v:Nat):Int:=if yee p g c v<0 then 0 else grR (yjt p g c v (yee p g c v).toNat) (c.getD v []) ((plT (tabP p g) 1).1.getD v [])
section
variable {p:ProgT}{g:Gr}{c:Conf}
theorem ydlx{v:Nat}:(ybq p g c).testBit v=(decide (v<g.ids.length)&&decide (yee p g c v>=0)):=ykl _ _ _
theorem ydkb(hg:ybj g)(hp:p.ok=true)(hf:∀c,ydk p g c=true->∀s,ydk p g (yfs p g c s)=true)(hb:bdT (tabP p g))(hc:ydk p g c=true)(h32:g.ids.length<=32){s:Nat}(hs:subB s (ybq p g c))(hs2:s<2^g.ids.length) :
 rkT (tabP p g) c+sumI (fun j=>ylr p g c ((ybw s).getD j 0)) (ybw s).length=rkT (tabP p g) (yfs p g c s):=by
 have hd:ydk p g (yfs p g c s)=true:=hf c hc s;have hci:=yhp.1 hc;have hdi:=yhp.1 hd;have hl:c.length=g.ids.length:=(ykt.1 hci).1.trans (ygu _ _ _);have h1:=ycoq 1 hci hdi;rw[ybse (by rw[Sh.yks]) (by rw[yzy];exact(ygu _ _ _).trans hl.symm),hl]at h1
 rw[ybvs h32 hs2]
 have h2:sumI (fun v=>if s.testBit v=true then ylr p g c v else 0) g.ids.length=sumI (fun i=>grR ((yfs p g c s).getD i []) (c.getD i []) ((plT (tabP p g) 1).1.getD i [])) g.ids.length:=ywr fun v hv=>by
  rw[Sh.yoc p g c s (by omega)]
  cases hb:s.testBit v with
  | true =>
    have:=hs v hb;rw[ydlx,zN,decide_eq_true_iff,decide_eq_true_iff]at this;show ylr p g c v=grR (yjt p g c v _) _ _;unfold ylr;rw[if_neg (by omega)]
  | false =>
    show(0:Int)=grR (c.getD v []) _ _;rw[ybjt]
 rw[h2,h1];omega
end
end
section
def rkN(p:ProgT)(g:Gr)(d:Conf):Nat:=(rkT (tabP p g) d).toNat
def ycav(perm:Nat->Bool)(p:ProgT)(g:Gr)(c:Conf):List (Nat×Nat):=(chP perm (ybq p g c)).map fun s=>(s,rkN p g (yfs p g c s))
namespace Sh
open Ev Go.RowKit
section
variable {Q1 Q2:(Nat->Option ABlk)->Value->Prop}{p:ProgT}{g:Gr}
theorem ybtz(h:Checked Q1 Q2 p g){c:Conf}(hc:ydk p g c=true){v:Nat}(hv:v<g.ids.length):inR ((tabP p g).getD v []) (yjt p g c v (yee p g c v).toNat):=by
 have h1:=yhp.1 (yir h.hg h.hp h.hf hc (2^v));have hl:c.length=g.ids.length:=(ykt.1 (yhp.1 hc)).1.trans (ygu _ _ _);have h2:=(ykt.1 h1).2 v (by rw[show(tabP p g).length=g.ids.length from ygu _ _ _];exact hv)
 rw[yoc p g c _ (by omega),if_pos (by rw[Nat.testBit_two_pow];simp)]at h2
 exact h2
set_option maxHeartbeats 8000000 in
theorem yccs (h:Checked Q1 Q2 p g) (hT:TabOk (tabP p g)) {kind:Int}(hkd:kind=2\/kind=3) (hn4:g.ids.length<=4) {c:Conf}(hc:ydk p g c=true) {perm:Nat->Bool}
 (hperm:∀e s,e<2^g.ids.length->s≠0->s<16->s&&&e=s->Returns zZ 171 [usV (g.ports.map netP),.i .i64 kind,.i .u32 (e:Nat),.i .u32 (s:Nat)] (.b (perm s))) :
 Cm zZ 60 [(302,0)] (ybr 302 303 c.length fun j=>c.getD j []) [.rf (ydf p g (g.ports.map netP) kind (tabP p g)),.os (302,0) 0 c.length true,.i .i64 (rkN p g c:Nat)] fun r o =>
  r = .tp [.i .u32 (ybq p g c:Nat),ybh (ycav perm p g c),.i .i64 0]/\o=ybr 302 303 c.length fun j=>c.getD j []:=by
 refine ydhq [(302,0)] [129,127] _ _ _ ?_;have hid:=h.hg.2.2.1;have h24:=h.hg.2.1;have cin:=ybmp h.hg h.hp hc;have hci:=yhp.1 hc;obtain⟨hcl,hcr⟩:=ykt.1 hci;have htl:(tabP p g).length=g.ids.length:=ygu _ _ _;have hcl':c.length=g.ids.length:=hcl.trans htl;have hen:ybq p g c<16:=zV (yvh p g c) (zI (by omega) hn4:2^g.ids.length<=2^4)
 have hrow:∀v,v<g.ids.length->∃bs,(tabP p g).getD v []=bs/\bs.length<=6/\(c.getD v []).length=bs.length/\(yjt p g c v (yee p g c v).toNat).length=bs.length/\((yeh (tabP p g)).getD v []).length=bs.length /\
  ∀i,i<bs.length->(-1000000<=(c.getD v []).getD i 0/\(c.getD v []).getD i 0<=1000000)/\(-1000000<=(yjt p g c v (yee p g c v).toNat).getD i 0/\(yjt p g c v (yee p g c v).toNat).getD i 0<=1000000)/\(0<=((yeh (tabP p g)).getD v []).getD i 0/\((yeh (tabP p g)).getD v []).getD i 0<=32768):=fun v hv=>by
  have hv':v<(tabP p g).length:=by omega
  obtain⟨hr,hb⟩:=hT.at_ hv';obtain⟨h1,h2⟩:=ymr.1 (hcr v hv');obtain⟨h3,h4⟩:=ymr.1 (ybtz h hc hv);refine⟨_,rfl,hr.2,h1,h3,yuo hv',fun i hi=>?_⟩;have a:=hb i hi;have b:=h2 i hi;have d:=h4 i hi;obtain⟨m,e1,e2⟩:=ycds 1 hT.bd hv' hi;have e3:((yeh (tabP p g)).getD v []).getD i 0=(m:Int):=e1;have e4:=hT.tot;rw[e3];omega
 have hgrTo:∀v,v<g.ids.length->∀x,x<=(c.getD v []).length -> -1000000000000<=sumI (fun i=>((yjt p g c v (yee p g c v).toNat).getD i 0-(c.getD v []).getD i 0)*((yeh (tabP p g)).getD v []).getD i 0) x/\sumI (fun i=>((yjt p g c v (yee p g c v).toNat).getD i 0-(c.getD v []).getD i 0)*((yeh (tabP p g)).getD v []).getD i 0) x<=1000000000000:=fun v hv x hx=>by
  obtain⟨bs,-,h1,h2,-,-,h3⟩:=hrow v hv;have:=ybfm (B:=65536000000) x fun i hi=>ycss (a:=(yjt p g c v (yee p g c v).toNat).getD i 0-(c.getD v []).getD i 0) (b:=((yeh (tabP p g)).getD v []).getD i 0) (by have:=h3 i (by omega);omega) (h3 i (by omega)).2.2
  have hx6:(x:Int)<=6:=by omega
  omega
 have hgeq:∀v,v<g.ids.length->¬yee p g c v<0->ylr p g c v=sumI (fun i=>((yjt p g c v (yee p g c v).toNat).getD i 0-(c.getD v []).getD i 0)*((yeh (tabP p g)).getD v []).getD i 0) (c.getD v []).length:=fun v hv hr=>by
  obtain⟨bs,-,h1,h2,h3,h4,-⟩:=hrow v hv;unfold ylr;rw[if_neg hr];exact ybsv (by omega) (by show((yeh (tabP p g)).getD v []).length=_;omega)
 have hgrow:∀v,v<g.ids.length -> -1000000000000<=ylr p g c v/\ylr p g c v<=1000000000000:=fun v hv=>by
  by_cases hr:yee p g c v<0
  .have:ylr p g c v=0:=if_pos hr;omega
  .rw[hgeq v hv hr];exact hgrTo v hv _ (zS _)
 have hRule:=fun v (hv:v<g.ids.length)=>ycfl p h.hg h.hp cin (v:=v) (by omega)
 have hMove:=fun v (hv:v<g.ids.length) (r:Nat) (hr:r<p.rules.length)=>ychm p h.hg h.hp cin (v:=v) (by omega) hr
 let bc:List SV:=ydf p g (g.ports.map netP) kind (tabP p g)
 let w:Nat->List Int:=fun j=>c.getD j []
 let K:Own:=ybr 302 303 c.length w
 let f:Nat->Bool:=fun j=>decide (yee p g c j>=0)
 simp only[c60,ydlr,ydnh,ydle,ydmg,ydf,ybr,clash,go_sem,zA,zB,zC,↓reduceIte,reduceCtorEq];refine ybd (σ:=Nat) (fun v=>⟨[(23,.i .i64 v),(22,.i .i64 (c.length:Nat)),(1,.os (302,0) 0 c.length true),(0,.rf bc),(9,.i .u32 (ykn f v:Nat)),(2,.i .i64 (rkN p g c:Nat)),(10,.pt (10,0) 0 0)],(10,.one (some ⟨150,true,1,24,fun j=>[.i .i64 (if j<v then ylr p g c j else 0)]⟩))::K⟩) (fun v=>v<=g.ids.length) (fun v=>g.ids.length-v) 0 (zJ _) ?_ ?_
 .refine ybl [] [] [] ?_;simp only[K,ybr,ycm,bc,ydf,ycn,ybc,ykn,zT,allQ,live,yc,zH,go_sem,zA,zC,↓reduceIte,reduceCtorEq];exact⟨fun _ _ _ _ e=>e,fun i hi=>⟨Sim.refl _,by rw[if_pos hi]⟩,fun i b hb=>ydl hb⟩
 .intro v hv
  by_cases hlt:v<g.ids.length
  .have d1 : decide ((v:Int)<(c.length:Int))=true:=by simp;omega
   have hrl:=ycln p g c v;have hst:ykn f (v+1)=if f v=true then ykn f v|||2^v else ykn f v:=rfl
   have hsl:=ybap f v;have h2v:2^v<=2^4:=zI (by omega) (by omega)
   have hR:=hRule v hlt
   by_cases hr:yee p g c v<0
   .have d2:decide (yee p g c v<0)=true:=decide_eq_true hr;have hf0:f v=false:=decide_eq_false (by omega)
    rw[hf0,if_neg (by decide)]at hst
    have hg0:ylr p g c v=0:=if_pos hr;simp only[ychc,ydez,ydgy,yddf,ybud,K,ybr,bc,ydf,yey,d1,clash,go_sem,zA,zB,zG,zF,↓reduceIte,reduceCtorEq];refine .inl ⟨fun q hq=>?_,hR.useS ⟨ybch _ _,?_,Sim.refl _,trivial⟩ (zD rfl ?_)⟩
    .simp only[ycm,if_pos hq];exact⟨zS _,fun _ _=>⟨trivial,trivial⟩⟩
    .unfold ycn;refine ydp fun q hq=>?_;simp only[ycm,if_pos hq];exact⟨⟨Sim.refl _,trivial⟩,rfl⟩
    simp only[ybg,d2,clash,go_sem,zA,zB,↓reduceIte,reduceCtorEq]
    repeat refine zD (by first|omega|decide|exact ikw (by omega) (by omega)) ?_
    refine yj (v+1) hlt (by omega) ?_
    refine ybl [] [] [] ?_;simp only[ycm,hst,allQ,live,yc,yx,go_sem,zA,zC,↓reduceIte,reduceCtorEq];refine⟨fun _ _ _ _ e=>e,by omega,fun j hj=>?_,fun i hi=>by rw[if_pos hi],fun i b hb=>ydl hb⟩
    by_cases e:j<v
    .rw[if_pos e,if_pos (by omega)]
    .rw[if_neg e]
     by_cases e2:j=v
     .rw[if_pos (by omega),e2,hg0]
     .rw[if_neg (by omega)]
   .have d2:decide (yee p g c v<0)=false:=decide_eq_false hr;obtain⟨r,hre⟩:∃r:Nat,yee p g c v=(r:Int):=⟨(yee p g c v).toNat,by omega⟩
    have hf0:f v=true:=decide_eq_true (by omega)
    rw[hf0,if_pos rfl]at hst;have hM:=hMove v hlt r (by omega)
    have hmi:=ybtz h hc hlt;rw[hre]at hR d2 hmi;rw[zO]at hmi;have hgT:=hgrTo v hlt;have hge:=hgeq v hlt hr;obtain⟨bs,-,w1,w2,w3,w4,w5⟩:=hrow v hlt;rw[hre,zO]at hgT hge w3 w5;have hpl:(yeh (tabP p g)).length=g.ids.length:=(yzy _ 1).trans htl;obtain⟨M,hMe⟩:∃M,yjt p g c v r=M:=⟨_,rfl⟩;obtain⟨cv,hcve⟩:∃cv,c.getD v []=cv:=⟨_,rfl⟩;obtain⟨qv,hqve⟩:∃qv,(yeh (tabP p g)).getD v []=qv:=⟨_,rfl⟩;rw[hMe]at hM hgT hge w3 w5
    rw[hcve]at hgT hge w2 w5;rw[hqve]at hgT hge w4 w5
    let gt:Nat->Int:=sumI (fun i=>(M.getD i 0-cv.getD i 0)*qv.getD i 0)
    have u1:=ybjv (v:=v) (by omega)
    have u2:=u32_or (a:=ykn f v) (b:=2^v) (by omega) (by omega)
    rw[<-hst]at u2;simp only[IntKind.bits,zO]at u1 u2;simp only[ychc,ydez,ydgy,yddf,K,ybr,bc,ydf,yey,d1,clash,go_sem,zA,zB,zG,zF,↓reduceIte,reduceCtorEq];refine .inl ⟨fun q hq=>?_,hR.useS ⟨ybch _ _,?_,Sim.refl _,trivial⟩ (zD rfl ?_)⟩
    .simp only[ycm,if_pos hq];exact⟨zS _,fun _ _=>⟨trivial,trivial⟩⟩
    .unfold ycn;refine ydp fun q hq=>?_;simp only[ycm,if_pos hq];exact⟨⟨Sim.refl _,trivial⟩,rfl⟩
    simp only[ybg,ydlo,ydoj,d2,u1,u2,clash,go_sem,zA,zB,zG,zF,↓reduceIte,reduceCtorEq]
    repeat refine zD (by first|omega|decide|exact ikw (by omega) (by omega)) ?_
    refine yea hM [(302,302),(303,303)] 400 [11,23,22,1,0,9,2,10] [10] ?_ ?_
    .simp only[ybr,ycm,to1,okN,ycc,yev,ydz,ydm,allQ,live,yc,go_sem,zA,zB,zC,zF,↓reduceIte,reduceCtorEq];exact⟨fun _ _ _ _ e=>e,ybch _ _,fun i hi=>⟨Sim.refl _,by rw[if_pos hi]⟩,fun i b hb=>ydl hb⟩
    rintro r o' ⟨rfl,rfl⟩;simp only[ybr,ybc,ymm,ykm,nuF,nu,difN,ydz,ydm,Fam.ren,OB.ren,dim,yxc,yij,go_sem,zA,zB,zF,↓reduceIte,reduceCtorEq];refine ybd (σ:=Nat) (fun x=>⟨[(48,.i .i64 x),(47,.i .i64 (M.length:Nat)),(46,ybc M),(11,.i .i64 v),(23,.i .i64 v),(22,.i .i64 (c.length:Nat)),(1,.os (302,0) 0 c.length true),(0,.rf bc),(9,.i .u32 (ykn f (v+1):Nat)),(2,.i .i64 (rkN p g c:Nat)),(10,.pt (10,0) 0 0)],(10,.one (some ⟨150,true,1,24,fun j=>[.i .i64 (if j=v then gt x else if j<v then ylr p g c j else 0)]⟩))::K⟩) (fun x=>x<=M.length) (fun x=>M.length-x) 0 (zJ _) ?_ ?_
    .refine ybl [] [] [] ?_;simp only[K,ybr,ycm,bc,ydf,ybc,allQ,live,yc,yx,zH,go_sem,zA,zC,↓reduceIte,reduceCtorEq];refine⟨fun _ _ _ _ e=>e,Sim.refl _,fun i hi=>?_,fun i hi=>⟨Sim.refl _,by rw[if_pos hi]⟩,fun i b hb=>yix (h':=nu [(302,302),(303,303)] 400) hb⟩
     have:gt 0=0:=rfl
     by_cases e:i=v
     .rw[if_pos e,if_neg (by omega),this]
     .rw[if_neg e]
    .intro x hx
     by_cases hlt2:x<M.length
     .have d3:=dec_lt hlt2;have hg1:=hgT x (by omega)
      have hg2:=hgT (x+1) (by omega)
      have hgs:gt (x+1)=gt x+(M.getD x 0-cv.getD x 0)*qv.getD x 0:=rfl
      change -1000000000000<=gt x/\gt x<=1000000000000 at hg1
      change -1000000000000<=gt (x+1)/\gt (x+1)<=1000000000000 at hg2
      obtain⟨y1,y2,y3⟩:=w5 x (by omega)
      obtain⟨Mx,hMx⟩:∃y,M.getD x 0=y:=⟨_,rfl⟩;obtain⟨cx,hcx⟩:∃y,cv.getD x 0=y:=⟨_,rfl⟩;obtain⟨qx,hqx⟩:∃y,qv.getD x 0=y:=⟨_,rfl⟩;rw[hMx,hcx,hqx]at hgs;rw[hMx]at y2;rw[hcx]at y1;rw[hqx]at y3;have hmb:=ycss (a:=Mx-cx) (b:=qx) (by omega) y3
      have hvc:v<c.length:=by omega
      have hwv:w v=cv:=hcve;simp only[K,ybr,ycm,intO,if_pos hvc,hwv,ybto,ycxv,ycnt,ycxh,bc,ydf,ycn,ybc,d3,hqve,hMx,hcx,hqx,splice,clash,go_sem,zA,zB,↓reduceIte,reduceCtorEq]
      repeat refine zD (by first|omega|decide|exact ikw (by omega) (by omega)) ?_
      refine yj (x+1) hlt2 (by omega) ?_
      refine ybl [] [] [] ?_;simp only[allQ,live,yc,yx,go_sem,zA,zC,↓reduceIte,reduceCtorEq];refine⟨fun _ _ _ _ e=>e,by omega,fun i hi=>yfi ?_,fun i hi=>by rw[if_pos hi],fun i b hb=>ydl hb⟩
      by_cases e:i=v
      .rw[if_pos e,if_pos e,hgs]
      .rw[if_neg e,if_neg e,if_neg e]
     .obtain rfl:x=M.length:=by omega
      simp only[K,ybr,ybto,ybud,bc,ydf,ybc,zK,clash,go_sem,zA,zB,↓reduceIte,reduceCtorEq]
      repeat refine zD (by first|omega|decide|exact ikw (by omega) (by omega)) ?_
      refine yj (v+1) hlt (by omega) ?_
      refine ybl [] [] [] ?_;simp only[ycm,allQ,live,yc,yx,go_sem,zA,zC,↓reduceIte,reduceCtorEq];refine⟨fun _ _ _ _ e=>e,⟨by omega,Sim.refl _⟩,fun j hj=>?_,fun i hi=>by rw[if_pos hi],fun i b hb=>ydl hb⟩
      by_cases e:j=v
      .rw[if_pos e,if_pos (by omega),e,hge]
       show sumI _ M.length=_;rw[show M.length=cv.length by omega]
      .rw[if_neg e]
       by_cases e2:j<v
       .rw[if_pos e2,if_pos (by omega)]
       .rw[if_neg e2,if_neg (by omega)]
  .obtain rfl:v=g.ids.length:=by omega
   have d1:decide (((g.ids.length:Nat):Int)<(c.length:Int))=false:=by simp;omega
   have hef:ykn f g.ids.length=ybq p g c:=rfl;obtain⟨en,hene⟩:∃e,ybq p g c=e:=⟨_,rfl⟩;have hsz:=ybhh (net:=g.ports.map netP) hkd hen (fun s h1 h2 h3=>hperm _ s (yvh p g c) h1 h2 h3);have hstep:=fun s (hs:subB s (ybq p g c)) (h2:s<2^g.ids.length)=>ydkb h.hg h.hp (fun c hc s=>yir h.hg h.hp h.hf hc s) hT.bd hc (by omega) hs h2
   have hmem:=fun s (hs:s∈chP perm (ybq p g c))=>ybna hs;rw[hef];rw[hene]at hsz hstep hmem hen ⊢;obtain⟨ch,hche⟩:∃l,chP perm en=l:=⟨_,rfl⟩;have harc:ycav perm p g c=ch.map fun s=>(s,rkN p g (yfs p g c s)):=by unfold ycav;rw[hene,hche]
   rw[harc];rw[hche]at hsz hmem;have hchl:ch.length<=16:=by rw[<-hche];exact yyu _ _ _
   simp only[usV]at hsz;simp only[K,ybr,ychc,ycrb,bc,ydf,d1,clash,go_sem,zA,zB,zG,zF,↓reduceIte,reduceCtorEq];refine hsz.use ?_;simp only[ybg,ycxp,ycvt,ycyy,splice,clash,go_sem,zA,zB,zC,↓reduceIte,reduceCtorEq]
   repeat refine zD (by first|omega|decide|exact ikw (by omega) (by omega)) ?_
   let R:Nat->Nat:=fun s=>rkN p g (yfs p g c s)
   let u:Nat->Nat->Nat:=fun i j=>if j<i then ch.getD j 0 else 0
   let w:Nat->Nat->Int:=fun i j=>if j<i then(R (ch.getD j 0):Nat)else 0
   have hu0:∀j,u 0 j=0:=fun j=>if_neg (zT j);have hw0:∀j,w 0 j=0:=fun j=>if_neg (zT j)
   let G:OB:=⟨150,true,1,24,fun j=>[.i .i64 (if j<g.ids.length then ylr p g c j else 0)]⟩
   let B:Own:=[(17,.one (some ⟨78,true,1,1,fun _=>[.os (98,0) 0 ch.length true]⟩)),(10,.one (some G))]++K
   let C:(Nat->Nat)->(Nat->Int)->Nat×Fam:=fun u w=>(98,.one (some ⟨103,false,2,ch.length,fun j=>[.i .u32 (u j:Nat),.i .i64 (w j)]⟩))
   refine ybd (σ:=Nat) (fun i=>⟨[(101,.i .i64 i),(100,.i .i64 (ch.length:Nat)),(99,usV ch),(9,.i .u32 (en:Nat)),(2,.i .i64 (rkN p g c:Nat)),(10,.pt (10,0) 0 0),(17,.pt (17,0) 0 0)],C (u i) (w i)::B⟩) (fun i=>i<=ch.length) (fun i=>ch.length-i) 0 (zJ _) ?_ ?_
   .refine ybl [] [] [] ?_;simp only[K,ybr,ycm,usV,G,B,C,hu0,hw0,allQ,live,yc,zH,go_sem,zA,zC,↓reduceIte,reduceCtorEq];exact⟨fun _ _ _ _ e=>e,fun i hi=>by rw[if_pos hi],fun i b hb=>ydl hb⟩
   .intro i hi
    by_cases hlt:i<ch.length
    .have d2:=dec_lt hlt;obtain⟨s,hs⟩:∃s,ch.getD i 0=s:=⟨_,rfl⟩;obtain⟨m1,m2,m3,-⟩:=hmem s (by rw[<-hs];exact getD_mem hlt)
     have s24:s<2^24:=by omega
     have hsub:subB s en:=fun v hv=>by
      have:(s&&&en).testBit v=true:=by rw[m3];exact hv
      rw[zAL,zN]at this;exact this.2
     have hen2:en<2^g.ids.length:=by rw[<-hene];exact yvh p g c
     have hs2:s<2^g.ids.length:=ybat hsub hen2
     let gv:Nat->Int:=fun q=>(rkN p g c:Nat)+sumI (fun j=>ylr p g c ((ybw s).getD j 0)) q
     have hlast:gv (ybw s).length=(R s:Nat):=by
      have e1:=hstep s hsub hs2;have e2:=(yxv hci).1;have e3:=(yxv (yhp.1 (yir h.hg h.hp h.hf hc s))).1;show((rkT (tabP p g) c).toNat:Int)+_=((rkT (tabP p g) (yfs p g c s)).toNat:Int);omega
     have hnode:∀q,q<(ybw s).length->(ybw s).getD q 0<g.ids.length:=fun q hq=>by
      obtain⟨-,hb⟩:=ycgc s24 (getD_mem hq);refine zU fun hge=>?_;rw[zAI (zV hs2 (zI (by omega) (by omega)))]at hb
      cases hb
     have hnl:(ybw s).length<=32:=by
      have:=List.length_filter_le (fun v=>s.testBit v) (zAT 32);unfold ybw
      simpa using this
     have hrk:rkN p g c<=32768:=by
      have e2:=yxv hci;have e3:=hT.tot;show(rkT (tabP p g) c).toNat<=_;omega
     have hgv:∀q,q<=(ybw s).length -> -100000000000000<=gv q/\gv q<=100000000000000:=fun q hq=>by
      have:=ybfm (f:=fun j=>ylr p g c ((ybw s).getD j 0)) (B:=1000000000000) q fun j hj=>hgrow _ (hnode j (by omega))
      have hq':(q:Int)<=32:=by omega
      show -100000000000000<=(rkN p g c:Int)+_/\(rkN p g c:Int)+_<=100000000000000;omega
     have hgs:∀q,gv (q+1)=gv q+ylr p g c ((ybw s).getD q 0):=fun q=>by
      exact(Int.add_assoc _ _ _).symm
     simp only[K,ybr,ycdc,ydab,ycqd,ycux,usV,G,B,C,d2,hs,splice,clash,go_sem,zA,zB,zG,zC,↓reduceIte,reduceCtorEq]
     repeat refine zD (by first|omega|decide|exact ikw (by omega) (by omega)) ?_
     refine yea (ycgz (s:=s)) [(1,60)] 0 [101,100,99,9,2,10,17,18] [17,18,10,98,302,303] ?_ ?_
     .simp only[ycm,okN,ycc,yev,ydz,ydm,allQ,live,yc,go_sem,zA,zF,↓reduceIte,reduceCtorEq];exact⟨fun k hk=>by split<;>rfl,fun i b hb=>(yco hb).2▸yjr⟩
     rintro r o' ⟨rfl,rfl⟩;simp only[setO,ymm,ykm,nuF,nu,difN,ydz,ydm,Fam.ren,OB.ren,dim,yhj,yctj,ycpa,go_sem,zA,zF,↓reduceIte]
     refine ynt (ybug (b:=60) (s:=s) (by omega)) [(60,0),(17,0),(18,0),(10,0),(98,0),(302,0)] (fun q (_:Unit)=>⟨[(113,.fn 172 [] [.pt (60,0) 0 0]),(101,.i .i64 i),(100,.i .i64 (ch.length:Nat)),(99,usV ch),(9,.i .u32 (en:Nat)),(2,.i .i64 (rkN p g c:Nat)),(10,.pt (10,0) 0 0),(17,.pt (17,0) 0 0),(18,.pt (18,0) 0 0)],
      (60,.one (some (setO (ydo s q))))::(18,.one (some ⟨3,true,1,1,fun _=>[.i .i64 i]⟩))::C (fun k=>if k=i then s else u i k) (fun k=>if k=i then gv q else w i k)::B⟩)
      (fun q _=>q<=(ybw s).length) () (zJ _) ⟨fun β h=>by rw[List.mem_singleton.1 h];simp,fun β h=>by rw[List.mem_singleton.1 h];exact zL⟩ ?_ (fun _=>rfl) ?_ ?_ ?_
     .refine ybl [] [] [] ?_;simp only[K,ybr,ycm,setO,usV,ydo,G,B,C,allQ,live,yc,go_sem,zA,zC,↓reduceIte,reduceCtorEq];refine⟨fun _ _ _ _ e=>e,fun k hk=>?_,fun i hi=>by rw[if_pos hi],fun i b hb=>ydl hb⟩
      have h0:gv 0=(rkN p g c:Nat):=Int.add_zero _
      by_cases e:k=i
      .rw[if_pos e,if_pos e,if_pos e,h0];exact yob rfl
      .rw[if_neg e,if_neg e,if_neg e];exact yob rfl
     .intro q _ hq _;refine⟨rfl,?_⟩;simp only[usV,allQ,go_sem,zA]
     .intro q _ hq hlt2;have hlt2:q<(ybw s).length:=hlt2;have hv:=hnode q hlt2;have g1:=hgv q (by omega)
      have g2:=hgv (q+1) (by omega)
      have g3:=hgs q;have g4:=hgrow _ hv;obtain⟨v,hve⟩:∃v,(ybw s).getD q 0=v:=⟨_,rfl⟩;rw[hve]at hv g3 g4;refine⟨_,rfl,?_⟩;simp only[ybzj];simp only[K,ybr,ycwd,ycns,usV,G,B,C,hve,if_pos hv,splice,clash,go_sem,zA,zB,↓reduceIte,reduceCtorEq]
      repeat refine zD (by first|omega|decide|exact ikw (by omega) (by omega)) ?_
      refine ybl [] [] [] ?_;simp only[ycm,setO,allQ,live,yc,go_sem,zA,zC,↓reduceIte,reduceCtorEq];refine⟨fun _ _ _ _ e=>e,fun k hk=>?_,fun i hi=>by rw[if_pos hi],fun i b hb=>ydl hb⟩
      by_cases e:k=i
      .rw[if_pos e,if_pos e,if_pos e,g3];exact yob rfl
      .simp only[if_neg e];exact yob rfl
     .intro _ _;simp only[yctb,ybzj,clash,go_sem,zA,zB,↓reduceIte,reduceCtorEq]
      repeat refine zD (by first|omega|decide|exact ikw (by omega) (by omega)) ?_
      refine yj (i+1) hlt (by omega) ?_
      refine ybl [] [] [] ?_;simp only[K,ybr,ycm,usV,G,B,C,hlast,allQ,live,yc,yx,go_sem,zA,zC,↓reduceIte,reduceCtorEq];refine⟨fun _ _ _ _ e=>e,by omega,fun k hk=>?_,fun i hi=>by rw[if_pos hi],fun i b hb=>ydl hb⟩
      show _=((if k<i+1 then ch.getD k 0 else 0:Nat):Int)/\_=(if k<i+1 then((R (ch.getD k 0):Nat):Int)else 0)
      by_cases e:k=i
      .rw[if_pos e,if_pos e,if_pos (by omega),if_pos (by omega),e,hs]
       exact⟨rfl,rfl⟩
      .rw[if_neg e,if_neg e]
       by_cases e2:k<i
       .rw[if_pos (by omega),if_pos (by omega)]
        exact⟨congrArg _ (if_pos e2),if_pos e2⟩
       .rw[if_neg (by omega),if_neg (by omega)]
        exact⟨congrArg _ (if_neg e2),if_neg e2⟩
    .obtain rfl:i=ch.length:=by omega
     simp only[ycdc,ycte,ygm,usV,G,B,C,K,ybr,zK,clash,go_sem,zA,zB,↓reduceIte,reduceCtorEq]
     repeat refine zD (by first|omega|decide|exact ikw (by omega) (by omega)) ?_
     refine⟨.tp [.i .u32 (en:Nat),ybh (ch.map fun s=>(s,rkN p g (yfs p g c s))),.i .i64 0],K,?_,?_,rfl,rfl⟩
     .refine ybl [] [] [(98,0)] ?_;simp only[K,ybr,ycm,ybh,zAD,allQ,live,yc,go_sem,zA,zC,↓reduceIte,reduceCtorEq];refine⟨fun _ _ _ _ e=>e,yxg ⟨Sim.refl _,ydp fun q hq=>?_,Sim.refl _,trivial⟩,fun i hi=>by rw[if_pos hi],fun i b hb=>?_⟩
      .have e1:u ch.length q=ch.getD q 0:=if_pos hq;have e2:w ch.length q=(R (ch.getD q 0):Nat):=if_pos hq
       have e3:(ch.map fun s=>(s,rkN p g (yfs p g c s))).getD q (0,0)=(ch.getD q 0,R (ch.getD q 0)):=by
        simp only[zAF,zAJ,zAG hq];rfl
       rw[e1,e2,e3];exact⟨⟨Sim.refl _,Sim.refl _,trivial⟩,rfl⟩
      .obtain⟨q,rfl⟩:=yco hb;exact⟨_,if_pos q,ybey (ycj _)⟩
     .simp only[K,ybr,ycm,ycc,yev,ybh,allQ,live,go_sem,zA,↓reduceIte];exact⟨fun k hk=>by rw[if_pos hk],fun i b hb=>(yco hb).2▸yjr⟩
end
end Sh
end
section
def cfP(p:ProgT)(g:Gr)(k:Nat):Conf:=(unT (tabP p g) k).1
def spcP(perm:Nat->Bool)(p:ProgT)(g:Gr):Spc:=⟨ybi (tabP p g),fun k=>ybq p g (cfP p g k),fun k=>ycav perm p g (cfP p g k)⟩
def cfA(T:List (List (Int×Int))):Nat->Conf
 |0=>(unT T 0).1
 |k+1=>(advT T (cfA T k)).1
theorem ybvv{T:List (List (Int×Int))}(hb:bdT T):∀{k:Nat},k<ybi T->cfA T k=(unT T k).1
 |0,_=>rfl
 | k+1,h=>by
   show(advT T (cfA T k)).1=_;rw[ybvv hb (by omega),ydby hb h]
theorem ydli{p:ProgT}{g:Gr}{k:Nat}(hk:k<ybi (tabP p g)):rkN p g (cfP p g k)=k:=by
 unfold rkN cfP;rw[ybma,Nat.mod_eq_of_lt hk,zO]
theorem ybyt{p:ProgT}{g:Gr}(hb:bdT (tabP p g))(k:Nat):ydk p g (cfP p g k)=true:=yhp.2 (yxh k hb)
namespace Sh
open Ev Go.RowKit
theorem ybsj{h:Nm->Nm}{vir:List Nat}{O1 O:Own}(l:List (Nat×Nat)):telL h vir [] O1 O [ybh l] [ybh l]:=⟨.inl ⟨(yhe _ _ _).2 trivial,by rw[ydw];exact Sim.refl _,rfl⟩,rfl,trivial⟩
section
variable {Q1 Q2:(Nat->Option ABlk)->Value->Prop}{p:ProgT}{g:Gr}
set_option maxHeartbeats 8000000 in
theorem ybvx (h:Checked Q1 Q2 p g) (hT:TabOk (tabP p g)) {kind:Int}(hkd:kind=2\/kind=3) (hn4:g.ids.length<=4) {perm:Nat->Bool}
 (hperm:∀e s,e<2^g.ids.length->s≠0->s<16->s&&&e=s->Returns zZ 171 [usV (g.ports.map netP),.i .i64 kind,.i .u32 (e:Nat),.i .u32 (s:Nat)] (.b (perm s)))
 (htot:sumA (spcP perm p g) (ybi (tabP p g))<=262144) :
 Returns zZ 14 [.ag (yfe Q1 Q2 p.raw),grV g,.i .i64 kind] (.tp [.ag (spcC (spcP perm p g)),.i .i64 0]):=by
 refine Returns.of (ydfo [59,61,60] _ _ ?_);have hC:=ybur h hT;have hD:=ybqw kind;have hBd:=ybgv h hT kind;have hL:=ycik h hT;have hS:=fun k (hk:k<ybi (tabP p g))=>yccs h hT hkd hn4 (c:=cfP p g k) (ybyt hT.bd k) hperm;have hv:(decide (1<=kind)&&decide (kind<=4))=true:=by rcases hkd with rfl|rfl<;>rfl
 rw[hv]at hD;obtain⟨S,hSe⟩:∃S,spcP perm p g=S:=⟨_,rfl⟩;have hSN:S.N=ybi (tabP p g):=by rw[<-hSe];rfl
 have hSe1:∀k,ybq p g (cfP p g k)=S.en k:=fun k=>by rw[<-hSe];rfl
 have hSa:∀k,ycav perm p g (cfP p g k)=S.arcs k:=fun k=>by rw[<-hSe];rfl
 have hmono:=fun k (hk:k<=S.N)=>ykf S hk;rw[hSe]at htot ⊢;rw[<-hSN]at htot;have hNle:=hT.tot;obtain⟨T,hTe⟩:∃T,tabP p g=T:=⟨_,rfl⟩;have hcf:∀k,cfP p g k=(unT T k).1:=fun k=>by rw[<-hTe];rfl
 have hrk:=fun k=>ydli (p:=p) (g:=g) (k:=k);have htl:T.length=g.ids.length:=by rw[<-hTe];exact ygu _ _ _
 rw[hTe]at hT hC hL hBd hS hSN hNle;simp only[hTe]at hrk hS;have hA:=fun k=>ybpr hT (c:=cfA T k);simp only[yfe,grV]at hC hBd hL;simp only[c14,ydwl,ydms,yfe,grV,clash,go_sem,zA,zB,zC,zF,↓reduceIte,reduceCtorEq];refine hC.use ?_;simp only[ybg,ydvf,ydww,clash,zY,go_sem,zA,zB,zF,↓reduceIte,reduceCtorEq];refine hD.use ?_;simp only[ybg,ydqb,ydns,clash,zY,go_sem,zA,zB,zF,↓reduceIte,reduceCtorEq];refine hBd.use ?_
 simp only[ydrn,ycms,clash,go_sem,zA,zB,zG,zC,↓reduceIte,reduceCtorEq]
 repeat refine zD (by first|omega|decide|exact ikw (by omega) (by omega)) ?_
 refine yea hL [(302,72),(303,73)] 400 [10,8,11,6] [46,48,11,6] ?_ ?_
 .simp only[ydf,usV,yu,ycn,yey,okN,ycc,yev,ydz,ydm,allQ,live,yc,go_sem,zA,zB,zF,↓reduceIte,reduceCtorEq]
 rintro r o' ⟨rfl,rfl⟩;simp only[ybr,ymm,ykm,nuF,nu,difN,ydz,ydm,Fam.ren,OB.ren,dim,yhj,yoi,yij,go_sem,zA,zB,zF,↓reduceIte,reduceCtorEq];simp only[ycpm,ycue,clash,go_sem,zA,zB,↓reduceIte]
 let B:Own:=[(6,.one (some ⟨41,true,2,1,fun _=>[.a (.slice none 0 0),.a (.slice none 0 0)]⟩)),(11,.one (some ⟨41,true,2,1,fun _=>[.os (46,0) 0 (ybi T) true,.os (48,0) 0 (ybi T) true]⟩))]
 let e:Nat->Nat->Nat:=fun k j=>if j<k then S.en j else 0
 let a:Nat->Nat->SV:=fun k j=>if j<k then ybh (S.arcs j)else .a (.slice none 0 0)
 have he0:∀j,e 0 j=0:=fun j=>if_neg (zT j)
 have hacl:∀{p:Nm->Bool}(k j:Nat),cln p 5 (a k j)=true:=fun k j=>by
  show cln _ 5 (if j<k then ybh (S.arcs j)else .a (.slice none 0 0))=true
  split<;>rfl
 have ha0:∀j,a 0 j = .a (.slice none 0 0):=fun j=>if_neg (zT j)
 let O2:(Nat->Nat)->(Nat->SV)->Own:=fun e a=>[(46,.one (some ⟨77,false,1,ybi T,fun j=>[.i .u32 (e j:Nat)]⟩)),(48,.one (some ⟨78,false,1,ybi T,fun j=>[a j]⟩))]
 refine ybd (σ:=Nat) (fun k=>⟨[(57,.i .i64 k),(56,.i .i64 (ybi T:Nat)),(10,.rf (ydf p g (g.ports.map netP) kind T)),(12,.os (72,0) 0 T.length true),(14,.i .i64 (sumA S k:Nat)),(11,.pt (11,0) 0 0),(6,.pt (6,0) 0 0)],
  ybr 72 73 T.length (fun j=>(cfA T k).getD j [])++(O2 (e k) (a k)++B)⟩) (fun k=>k<=ybi T) (fun k=>ybi T-k) 0 (zJ _) ?_ ?_
 .refine yh [] [] [] ?_
  have hl0:∀v,v<T.length->(cfA T 0).getD v []=lowT T v:=fun v hv=>by
   show(unT T 0).1.getD v []=_;rw[ycbs hT.bd,yue hv]
  simp only[B,O2,he0,ha0,ybr,ycm,ydf,usV,yu,ycn,yey,allQ,live,yc,yx,zH,go_sem,zA,zC,↓reduceIte,reduceCtorEq];refine⟨fun _ _ _ _ e=>e,rfl,fun v hv=>⟨by rw[hl0 v hv];exact Sim.refl _,by rw[if_pos hv]⟩,fun v b hb=>?_⟩
  obtain⟨q,rfl⟩:=yco hb;rw[hl0 v q];exact yix (h':=nu [(302,72),(303,73)] 400) (w:=lowT T) (if_pos q)
 .intro k hk
  by_cases hlt:k<ybi T
  .have d1:=dec_lt hlt;have hck:=ybvv hT.bd hlt;have hcn:=ybvv (k:=k+1) hT.bd;have hAk:=hA k (by rw[hck];exact yxh k hT.bd)
   have hSk:=hS k hlt;rw[hSe1,hSa,hrk k hlt,hcf k,<-hck]at hSk;have hcl:(cfA T k).length=T.length:=(ykt.1 (by rw[hck];exact yxh k hT.bd)).1
   have hnx:(advT T (cfA T k)).1=cfA T (k+1):=rfl;rw[hnx]at hAk;obtain⟨c,hc⟩:∃c,cfA T k=c:=⟨_,rfl⟩;obtain⟨c',hc'⟩:∃c,cfA T (k+1)=c:=⟨_,rfl⟩;rw[hc]at hcl hSk hAk;rw[hc']at hAk;have hm1:=hmono (k+1) (by omega)
   have hs1:sumA S (k+1)=sumA S k+(S.arcs k).length:=rfl;obtain⟨tot,htote⟩:∃t,sumA S k=t:=⟨_,rfl⟩;rw[htote]at hs1;have d2:decide ((tot:Int)+((S.arcs k).length:Int)>262144)=false:=by simp;omega
   rw[hcl]at hSk;simp only[ybzp,ydad,ycxd,B,O2,ybr,d1,hc,clash,go_sem,zA,zB,zF,↓reduceIte,reduceCtorEq];refine yea hSk [(302,72),(303,73)] 400 [15,57,56,10,12,14,11,6] [46,48,11,6] ?_ ?_
   .simp only[ybr,ycm,ydf,usV,yu,ycn,yey,to1,okN,ycc,yev,ydz,ydm,allQ,live,yc,go_sem,zA,zB,zC,zF,↓reduceIte,reduceCtorEq];exact⟨⟨fun _ _ _ _ e=>e,fun i hi=>by rw[if_pos hi],fun i b hb=>ydl (w:=fun j=>c.getD j []) hb⟩,fun j _=>hacl k j⟩
   rintro r o' ⟨rfl,rfl⟩;simp only[ybr,ybh,ymm,ykm,nuF,nu,difN,ydz,ydm,Fam.ren,OB.ren,dim,yhj,yxc,yoi,yij,go_sem,zA,zB,zF,↓reduceIte,reduceCtorEq];simp only[yczl,yctl,yczo,ydbg,ydf,htote,d2,splice,clash,zY,go_sem,zA,zB,zG,zF,↓reduceIte,reduceCtorEq]
   repeat refine zD (by first|omega|decide|exact ikw (by omega) (by omega)) ?_
   refine yea hAk [(302,72),(303,73)] 400 [57,56,10,12,14,11,6] [46,48,11,6] ?_ ?_
   .simp only[ybr,ycm,usV,yu,ycn,yey,to1,okN,ycc,yev,ydz,ydm,allQ,live,yc,go_sem,zA,zB,zC,zF,↓reduceIte,reduceCtorEq];refine⟨⟨fun _ _ _ _ e=>e,fun i hi=>by rw[if_pos hi],fun i b hb=>yix (h':=nu [(302,72),(303,73)] 400) (w:=fun j=>c.getD j []) hb⟩,?_⟩
    exact⟨fun j _=>by split<;>rfl,fun j _=>by
     split
     .rfl
     .show(cln _ 5 (a k j)&&true)=true;rw[hacl];rfl⟩
   rintro r o' ⟨rfl,rfl⟩;simp only[ybr,usV,yu,ycn,yey,ymm,ykm,nuF,nu,difN,ydz,ydm,Fam.ren,OB.ren,dim,yoi,yij,go_sem,zA,zF,↓reduceIte];simp only[ycsi,clash,go_sem,zA,zB,↓reduceIte,reduceCtorEq]
   repeat refine zD (by first|omega|decide|exact ikw (by omega) (by omega)) ?_
   refine yj (k+1) hlt (by omega) ?_
   refine yh [] [] [] ?_;simp only[ycm,allQ,live,yc,yx,go_sem,zA,zC,↓reduceIte,reduceCtorEq];rw[hc',hs1];refine⟨fun _ _ _ _ e=>e,⟨by omega,by omega⟩,fun i hi=>⟨Sim.refl _,by rw[if_pos hi]⟩,fun i b hb=>yix (h':=nu [(302,72),(303,73)] 400) (w:=fun j=>c'.getD j []) hb,?_⟩
   refine⟨fun i hi=>yfi ?_,fun i hi=>?_⟩
   .show _=[SV.i .u32 ((if i<k+1 then S.en i else 0:Nat):Int)]
    by_cases q:i=k
    .rw[if_pos q,if_pos (by omega),q]
    .rw[if_neg q]
     by_cases q2:i<k
     .rw[if_pos (by omega),show e k i=S.en i from if_pos q2]
     .rw[if_neg (by omega),show e k i=0 from if_neg q2]
   .by_cases q:i=k
    .rw[if_pos q,show a (k+1) i=ybh (S.arcs k)from(if_pos (by omega)).trans (by rw[q])]
     exact ybsj _
    .rw[if_neg q]
     by_cases q2:i<k
     .rw[show a (k+1) i=ybh (S.arcs i)from if_pos (by omega),show a k i=ybh (S.arcs i)from if_pos q2]
      exact ybsj _
     .rw[show a (k+1) i = .a (.slice none 0 0)from if_neg (by omega),show a k i = .a (.slice none 0 0)from if_neg q2]
      exact yie rfl
  .obtain rfl:k=ybi T:=by omega
   simp only[ybzp,ycrz,B,O2,ybr,zK,splice,clash,go_sem,zA,zB,↓reduceIte];have e1:∀q,q<ybi T->a (ybi T) q=ybh (S.arcs q):=fun q hq=>if_pos hq;have e2:∀q,q<ybi T->e (ybi T) q=S.en q:=fun q hq=>if_pos hq;refine⟨fun q hq=>by rw[e1 q hq];trivial,yxg ⟨?_,Sim.refl _,trivial⟩⟩
   unfold spcC;rw[hSN];refine ybke ⟨ydp fun q hq=>?_,ydp fun q hq=>?_,trivial⟩
   .rw[e2 q hq];exact⟨⟨Sim.refl _,trivial⟩,rfl⟩
   .rw[e1 q hq];exact⟨⟨Sim.refl _,trivial⟩,rfl⟩
end
end Sh
end
section
namespace Sh
open Ev Go.RowKit
def boxS(N:Nat)(lg:Nat->Bool)(x:(Nat->Bool)×List (Nat×Nat)):Own :=
 [(3,.one (some ⟨45,true,1,1,fun _=>[ybb N lg]⟩)),(6,.one (some ⟨166,true,1,1,fun _=>[.mr (18,0)]⟩)),(18,.one (some ⟨CU,true,0,0,fun c=>[.b (x.1 c)]⟩)),
  (7,.one (some ⟨167,true,1,1,fun _=>[.os (72,0) 0 x.2.length true]⟩)),(72,yfw x.2)]
def addF:SV:=.fn 137 [] [.pt (3,0) 0 0,.pt (6,0) 0 0,.pt (7,0) 0 0]
theorem yble{F j:Nat}{f:Nat->List Nat}{p:Nm->Bool}(h:p (F,j)=true):cln p 5 (rowC F f j)=true:=by
 unfold rowC;split
 .rfl
 .exact h
theorem ybkn{e:Nat}{k:IntKind}{l:List Nat}{b:OB}{p:Nm->Bool}(hb:rowB e k l=some b):∀i,i<b.n->(b.g i).all (cln p 5)=true:=by
 unfold rowB at hb;split at hb
 .cases hb
 .cases hb;exact fun _ _=>rfl
set_option maxHeartbeats 4000000 in
theorem ycjk{S : Spc}(h:S.ok)(lg:Nat->Bool){n:Nat}(hn:n<=24)(hen:∀k,k<S.N->S.en k<2^n)(hM:S.N*2^n<=262144) :
 Ct zZ 75 [.ag (spcC S),ybb S.N lg] fun r=>∃R:Nat->List Nat,Sim r (.tp [.sl 1 S.N fun k=>[usV (R k)],.i .i64 0])/\(∀k,∀x∈R k,x<2^n/\lg k=false)/\∀k,(R k).length<=262144:=by
 refine ydce [137] _ _ ?_;have hle:=h.le;have h2n:2^n<=2^24:=zI (by omega) hn
 simp only[c75,yduo,ydpq,ydpx,ydom,ydvn,spcC,ybh,ybb,splice,clash,go_sem,zA,zB,zG,zC,↓reduceIte,reduceCtorEq]
 refine ybd (σ:=Nat×(Nat->Bool)×List (Nat×Nat)) (fun y=>⟨[(23,.i .i64 y.1),(22,.i .i64 (S.N:Nat)),(21,.sl 1 S.N fun k=>[.i .u32 (S.en k:Nat)]),(8,addF),(2,.pt (2,0) 0 0),(3,.pt (3,0) 0 0),(7,.pt (7,0) 0 0)],(2,spcO S)::boxS S.N lg y.2⟩)
  (fun y=>y.1<=S.N/\QI S.N n lg y.2) (fun y=>S.N-y.1) (0,fun _=>false,[]) ⟨zJ _,QI.start _ _ _⟩ ?_ ?_
 .refine yh [] [72] [] ?_;simp only[boxS,addF,spcO,spcC,ybh,ybb,yfw,yls,allQ,live,yc,zH,go_sem,zA,zC,zF,↓reduceIte,reduceCtorEq];exact fun i _=>⟨(72,0),rfl,rfl,rfl⟩
 .rintro⟨k,x⟩ ⟨hk,hx⟩;simp only at hk hx ⊢;have hxl:=hx.len
  by_cases hlt:k<S.N
  .have d1:=dec_lt hlt;have hA:=ybae (lg:=lg) (x:=x) (by omega) hlt hle (s:=S.en k) (by have:=h.lt k hlt;omega)
   have hx':=hx.step hlt (hen k hlt);simp only[yfc,yfw,ybb]at hA;simp only[ydgm,ydsf,ydkh,ydpf,boxS,addF,spcO,spcC,ybh,ybb,yfw,d1,clash,go_sem,zA,zB,zG,↓reduceIte,reduceCtorEq]
   repeat refine zD (by first|omega|decide|exact ikw (by omega) (by omega)) ?_
   refine yea hA [(301,3),(302,6),(303,18),(304,7),(305,72)] 400 [23,22,21,8,2,3,7] [2] ?_ ?_
   .simp only[to1,okN,ycc,yev,ydz,ydm,allQ,live,yc,go_sem,zA,zB,zC,zF,↓reduceIte,reduceCtorEq]
   rintro r o' ⟨rfl,rfl⟩
   generalize yvr lg x k (S.en k)=x' at hx'
   simp only[ymm,ykm,nuF,nu,difN,ydz,ydm,Fam.ren,OB.ren,dim,yhj,ybxg,yxc,yoi,yij,yblj,go_sem,zA,zB,zF,↓reduceIte,reduceCtorEq]
   repeat refine zD (by first|omega|decide|exact ikw (by omega) (by omega)) ?_
   refine yj (k+1,x') ⟨hlt,hx'⟩ (by show _-(k+1)<_-k;omega) ?_
   refine yh [] [] [] ?_;simp only[allQ,live,yc,yx,go_sem,zA,zC,↓reduceIte,reduceCtorEq];omega
  .obtain rfl:k=S.N:=by omega
   simp only[ydgm,ydlf,ycou,boxS,spcO,spcC,ybh,ybb,yfw,zK,clash,go_sem,zA,zB,zC,↓reduceIte,reduceCtorEq]
   repeat refine zD (by first|omega|decide|exact ikw (by omega) (by omega)) ?_
   let st2:Nat->(Nat->Bool)×List (Nat×Nat)->(Nat->List Nat)->Own:=fun _ x R=>(2,spcO S)::(36,.one (some ⟨38,false,1,S.N,fun j=>[rowC 73 R j]⟩))::(73,yho 77 .u32 R)::boxS S.N lg x
   refine ybd (σ:=Nat×((Nat->Bool)×List (Nat×Nat))×(Nat->List Nat)) (fun y=>⟨[(12,.i .i64 y.1),(11,.os (36,0) 0 S.N true),(8,addF),(2,.pt (2,0) 0 0),(7,.pt (7,0) 0 0)],st2 0 y.2.1 y.2.2⟩)
    (fun y=>QI S.N n lg y.2.1/\y.1<=y.2.1.2.length/\(∀k,∀z∈y.2.2 k,z<2^n/\lg k=false)/\∀k,(y.2.2 k).length<=y.1) (fun y=>262145-y.1) (0,x,fun _=>[]) ⟨hx,zJ _,fun _ _ h=>(nomatch h),fun _=>zJ _⟩ ?_ ?_
   .refine yh [] [] [] ?_;simp only[st2,boxS,addF,spcO,spcC,ybh,ybb,yfw,rowC,yho,rowB,allQ,live,yc,zH,go_sem,zA,zC,↓reduceIte,reduceCtorEq]
   .rintro⟨i,x,R⟩ ⟨hx,hi,hR1,hR2⟩;simp only at hx hi hR1 hR2 ⊢;have hxl:=hx.len
    by_cases hlt:i<x.2.length
    .have d1 := dec_lt hlt;have d2:decide ((x.2.length:Int)>262144)=false:=by simp;omega
     obtain⟨⟨k,s⟩,hks⟩:∃p,x.2.getD i (0,0)=p:=⟨_,rfl⟩
     obtain⟨hkN,hs,hlk⟩:k<S.N/\s<2^n/\lg k=false:=by
      have:=hx.lt (x.2.getD i (0,0)) (by rw[yms hlt];exact zQ _)
      rw[hks]at this;exact this
     have hal:=h.len hkN;obtain⟨R',hR'⟩:∃R',(fun q=>if q=k then R k++[s]else R q)=R':=⟨_,rfl⟩
     have hst1:R' k=R k++[s]:=by rw[<-hR'];simp
     have hst0:∀j,¬j=k->R' j=R j:=fun j e=>by rw[<-hR'];simp[e]
     have hRk:=hR2 k
     by_cases q:(R k).length=0
     .simp only[ybmi,yccw,ycdn,ybxk,ybwj,st2,boxS,spcO,spcC,ybh,ybb,yfw,rowC,yho,rowB,q,d1,d2,hks,splice,clash,go_sem,zA,zB,zG,zC,Nat.reduceMul,↓reduceIte,reduceCtorEq]
      repeat refine zD (by first|omega|decide|exact ikw (by omega) (by omega)) ?_
      refine ybd (σ:=Nat×((Nat->Bool)×List (Nat×Nat))) (fun y=>⟨[(70,.i .i64 y.1),(69,.i .i64 ((S.arcs k).length:Nat)),(68,ybh (S.arcs k)),(12,.i .i64 i),(11,.os (36,0) 0 S.N true),(8,addF),(2,.pt (2,0) 0 0),(7,.pt (7,0) 0 0),(13,.pt (13,0) 0 0)],(13,.one (some ⟨109,true,2,1,fun _=>[.i .i64 (k:Nat),.i .u32 (s:Nat)]⟩))::st2 0 y.2 R'⟩)
       (fun y=>y.1<=(S.arcs k).length/\QI S.N n lg y.2/\i<y.2.2.length) (fun y=>(S.arcs k).length-y.1) (0,x) ⟨zJ _,hx,hlt⟩ ?_ ?_
      .refine yh [(73,fun j=>if j=k then(61,0)else(73,j))] [] [] ?_
       simp only[st2,boxS,addF,spcO,spcC,ybh,ybb,yfw,yho,allQ,live,yc,zH,go_sem,zA,zC,↓reduceIte,reduceCtorEq];refine⟨?_,fun i hi=>?_,fun i b hb=>?_⟩
       .repeat' apply zD
        all_goals first|exact fun i _=>ybam (by decide) (by decide)|exact fun i _=>yqn (by decide) (by decide)|exact fun i _ j _=>ywc (by decide)
       .refine ynq (F:=73) (e:=77) (k:=.u32) (f:=R') [(73,fun j=>if j=k then(61,0)else(73,j))] ?_ rfl
        by_cases e:i=k
        .subst e;have e1:(R' i).length=1:=by rw[hst1,zW,q];rfl
         simp only[e1,go_sem,↓reduceIte,reduceCtorEq]
        .simp only[hst0 i e,e,go_sem,↓reduceIte]
       .by_cases e:i=k
        .subst e;rw[hst1]at hb;simp only[go_sem,zA,↓reduceIte];exact yds (e:=77) (k:=.u32) rfl hb (ybme q rfl)
        .rw[hst0 i e]at hb;simp only[e,go_sem,zA,↓reduceIte];exact⟨_,hb,yds (e:=77) (k:=.u32) rfl hb (yem (e:=77) (k:=.u32) hb)⟩
      .rintro⟨j,x⟩ ⟨hj,hx,hlt⟩;simp only at hj hx hlt ⊢;have hxl:=hx.len
       by_cases hlt2:j<(S.arcs k).length
       .have d3:=dec_lt hlt2;have hto:=h.to k hkN j hlt2;have hsub:=(h.sub k hkN j hlt2).1;obtain⟨⟨a,t⟩,hat⟩:∃p,(S.arcs k).getD j (0,0)=p:=⟨_,rfl⟩;rw[hat]at hto hsub;simp only at hto hsub;have hAf:=yur h (k:=k) (p:=s) (s:=a) (t:=t) (by omega) (by omega) hto
        have hap:yfp S s a t<2^n:=by
         unfold yfp ymq;split
         .exact hen t hto
         .exact ybxo (ysm hs)
        have hA:=ybae (lg:=lg) (x:=x) (by omega) hto hle (s:=yfp S s a t) (by omega)
        have hx':=hx.step (lg:=lg) hto hap;have hxl':=ybmg (lg:=lg) (x:=x) (k:=t) (s:=yfp S s a t);simp only[yfc,yfw,ybb]at hA;simp only[spcC,ybh]at hAf;simp only[ybbv,ycde,ybzt,ybtf,ybrz,st2,boxS,addF,spcO,spcC,ybh,ybb,yfw,d3,hat,splice,clash,go_sem,zA,zB,zC,zF,↓reduceIte,reduceCtorEq]
        repeat refine zD (by first|omega|decide|exact ikw (by omega) (by omega)) ?_
        refine hAf.use ?_;simp only[ybg,splice,clash,go_sem,zA,zB,zC,↓reduceIte,reduceCtorEq]
        repeat refine zD (by first|omega|decide|exact ikw (by omega) (by omega)) ?_
        refine yea hA [(301,3),(302,6),(303,18),(304,7),(305,72)] 400 [70,69,68,12,11,8,2,7,13] [2,36,73,13] ?_ ?_
        .simp only[yho,to1,okN,ycc,yev,ydz,ydm,allQ,live,yc,go_sem,zA,zB,zC,zF,↓reduceIte,reduceCtorEq];exact⟨fun q _=>yble rfl,fun q b hb=>ybkn hb⟩
        rintro r o' ⟨rfl,rfl⟩
        generalize yvr lg x t (yfp S s a t)=x' at hx' hxl'
        simp only[yho,ymm,ykm,nuF,nu,difN,ydz,ydm,Fam.ren,OB.ren,dim,yhj,ybxg,yxc,yoi,yij,yblj,go_sem,zA,zB,zF,↓reduceIte,reduceCtorEq]
        repeat refine zD (by first|omega|decide|exact ikw (by omega) (by omega)) ?_
        refine yj (j+1,x') ⟨hlt2,hx',by show i<x'.2.length;omega⟩ (by show _-(j+1)<_-j;omega) ?_
        refine yh [] [] [] ?_;simp only[allQ,live,yc,yx,go_sem,zA,zC,↓reduceIte,reduceCtorEq];exact⟨fun _ _ _ _ e=>e,by omega,fun i _=>yjm (e:=77) (k:=.u32) [] rfl rfl,fun i b hb=>⟨b,hb,yds (e:=77) (k:=.u32) rfl hb (yem (e:=77) (k:=.u32) hb)⟩⟩
       .obtain rfl:j=(S.arcs k).length:=by omega
        simp only[ybbv,ybwr,st2,boxS,addF,spcO,spcC,ybh,ybb,yfw,zK,clash,go_sem,zA,zB,↓reduceIte,reduceCtorEq]
        repeat refine zD (by first|omega|decide|exact ikw (by omega) (by omega)) ?_
        refine yj (i+1,x,R') ⟨hx,hlt,fun u z hz=>?_,fun u=>?_⟩ (by show 262145-(i+1)<262145-i;omega) ?_
        .have hz:z∈R' u:=hz
         by_cases e:u=k
         .subst e;rw[hst1]at hz;rcases List.mem_append.1 hz with r|r
          .exact hR1 u z r
          .rw[List.mem_singleton.1 r];exact⟨hs,hlk⟩
         .rw[hst0 u e]at hz;exact hR1 u z hz
        .show(R' u).length<=i+1
         by_cases e:u=k
         .subst e;rw[hst1,zW];have:=hR2 u;show _+1<=_;omega
         .rw[hst0 u e];have:=hR2 u;omega
        refine yh [] [] [] ?_;simp only[yho,allQ,live,yc,yx,go_sem,zA,zC,↓reduceIte,reduceCtorEq];exact⟨fun _ _ _ _ e=>e,by omega,fun i _=>yjm (e:=77) (k:=.u32) [] rfl rfl,fun i b hb=>⟨b,hb,yds (e:=77) (k:=.u32) rfl hb (yem (e:=77) (k:=.u32) hb)⟩⟩
     .have q0 : 0<(R k).length:=by omega
      simp only[ybmi,yccw,ycdn,ybxk,ybwj,st2,boxS,spcO,spcC,ybh,ybb,yfw,rowC,yho,rowB,q,d1,d2,hks,splice,clash,go_sem,zA,zB,zG,zC,↓reduceIte,reduceCtorEq]
      repeat refine zD (by first|omega|decide|exact ikw (by omega) (by omega)) ?_
      refine ybd (σ:=Nat×((Nat->Bool)×List (Nat×Nat))) (fun y=>⟨[(70,.i .i64 y.1),(69,.i .i64 ((S.arcs k).length:Nat)),(68,ybh (S.arcs k)),(12,.i .i64 i),(11,.os (36,0) 0 S.N true),(8,addF),(2,.pt (2,0) 0 0),(7,.pt (7,0) 0 0),(13,.pt (13,0) 0 0)],(13,.one (some ⟨109,true,2,1,fun _=>[.i .i64 (k:Nat),.i .u32 (s:Nat)]⟩))::st2 0 y.2 R'⟩)
       (fun y=>y.1<=(S.arcs k).length/\QI S.N n lg y.2/\i<y.2.2.length) (fun y=>(S.arcs k).length-y.1) (0,x) ⟨zJ _,hx,hlt⟩ ?_ ?_
      .refine yh [(73,fun j=>if j=k then(61,0)else(73,j))] [] [] ?_
       simp only[st2,boxS,addF,spcO,spcC,ybh,ybb,yfw,yho,allQ,live,yc,zH,go_sem,zA,zC,↓reduceIte,reduceCtorEq];refine⟨?_,fun i hi=>?_,fun i b hb=>?_⟩
       .repeat' apply zD
        all_goals first|exact fun i _=>ybam (by decide) (by decide)|exact fun i _=>yqn (by decide) (by decide)|exact fun i _ j _=>ywc (by decide)
       .refine ynq (F:=73) (e:=77) (k:=.u32) (f:=R') [(73,fun j=>if j=k then(61,0)else(73,j))] ?_ rfl
        by_cases e:i=k
        .subst e;have e1:(R' i).length=(R i).length+1:=by rw[hst1,zW];rfl
         have e2:¬(R i).length+1=0:=by omega
         simp only[e1,e2,go_sem,↓reduceIte]
        .simp only[hst0 i e,e,go_sem,↓reduceIte]
       .by_cases e:i=k
        .subst e;rw[hst1]at hb;simp only[go_sem,zA,↓reduceIte];exact yds (e:=77) (k:=.u32) rfl hb (ybcf (g':=fun i=>List.take 1 (List.drop (i*1) [.i .u32 (s:Int)])) rfl (fun _ _=>rfl) rfl)
        .rw[hst0 i e]at hb;simp only[e,go_sem,zA,↓reduceIte];exact⟨_,hb,yds (e:=77) (k:=.u32) rfl hb (yem (e:=77) (k:=.u32) hb)⟩
      .rintro⟨j,x⟩ ⟨hj,hx,hlt⟩;simp only at hj hx hlt ⊢;have hxl:=hx.len
       by_cases hlt2:j<(S.arcs k).length
       .have d3:=dec_lt hlt2;have hto:=h.to k hkN j hlt2;have hsub:=(h.sub k hkN j hlt2).1;obtain⟨⟨a,t⟩,hat⟩:∃p,(S.arcs k).getD j (0,0)=p:=⟨_,rfl⟩;rw[hat]at hto hsub;simp only at hto hsub;have hAf:=yur h (k:=k) (p:=s) (s:=a) (t:=t) (by omega) (by omega) hto
        have hap:yfp S s a t<2^n:=by
         unfold yfp ymq;split
         .exact hen t hto
         .exact ybxo (ysm hs)
        have hA:=ybae (lg:=lg) (x:=x) (by omega) hto hle (s:=yfp S s a t) (by omega)
        have hx':=hx.step (lg:=lg) hto hap;have hxl':=ybmg (lg:=lg) (x:=x) (k:=t) (s:=yfp S s a t);simp only[yfc,yfw,ybb]at hA;simp only[spcC,ybh]at hAf;simp only[ybbv,ycde,ybzt,ybtf,ybrz,st2,boxS,addF,spcO,spcC,ybh,ybb,yfw,d3,hat,splice,clash,go_sem,zA,zB,zC,zF,↓reduceIte,reduceCtorEq]
        repeat refine zD (by first|omega|decide|exact ikw (by omega) (by omega)) ?_
        refine hAf.use ?_;simp only[ybg,splice,clash,go_sem,zA,zB,zC,↓reduceIte,reduceCtorEq]
        repeat refine zD (by first|omega|decide|exact ikw (by omega) (by omega)) ?_
        refine yea hA [(301,3),(302,6),(303,18),(304,7),(305,72)] 400 [70,69,68,12,11,8,2,7,13] [2,36,73,13] ?_ ?_
        .simp only[yho,to1,okN,ycc,yev,ydz,ydm,allQ,live,yc,go_sem,zA,zB,zC,zF,↓reduceIte,reduceCtorEq];exact⟨fun q _=>yble rfl,fun q b hb=>ybkn hb⟩
        rintro r o' ⟨rfl,rfl⟩
        generalize yvr lg x t (yfp S s a t)=x' at hx' hxl'
        simp only[yho,ymm,ykm,nuF,nu,difN,ydz,ydm,Fam.ren,OB.ren,dim,yhj,ybxg,yxc,yoi,yij,yblj,go_sem,zA,zB,zF,↓reduceIte,reduceCtorEq]
        repeat refine zD (by first|omega|decide|exact ikw (by omega) (by omega)) ?_
        refine yj (j+1,x') ⟨hlt2,hx',by show i<x'.2.length;omega⟩ (by show _-(j+1)<_-j;omega) ?_
        refine yh [] [] [] ?_;simp only[allQ,live,yc,yx,go_sem,zA,zC,↓reduceIte,reduceCtorEq];exact⟨fun _ _ _ _ e=>e,by omega,fun i _=>yjm (e:=77) (k:=.u32) [] rfl rfl,fun i b hb=>⟨b,hb,yds (e:=77) (k:=.u32) rfl hb (yem (e:=77) (k:=.u32) hb)⟩⟩
       .obtain rfl:j=(S.arcs k).length:=by omega
        simp only[ybbv,ybwr,st2,boxS,addF,spcO,spcC,ybh,ybb,yfw,zK,clash,go_sem,zA,zB,↓reduceIte,reduceCtorEq]
        repeat refine zD (by first|omega|decide|exact ikw (by omega) (by omega)) ?_
        refine yj (i+1,x,R') ⟨hx,hlt,fun u z hz=>?_,fun u=>?_⟩ (by show 262145-(i+1)<262145-i;omega) ?_
        .have hz:z∈R' u:=hz
         by_cases e:u=k
         .subst e;rw[hst1]at hz;rcases List.mem_append.1 hz with r|r
          .exact hR1 u z r
          .rw[List.mem_singleton.1 r];exact⟨hs,hlk⟩
         .rw[hst0 u e]at hz;exact hR1 u z hz
        .show(R' u).length<=i+1
         by_cases e:u=k
         .subst e;rw[hst1,zW];have:=hR2 u;show _+1<=_;omega
         .rw[hst0 u e];have:=hR2 u;omega
        refine yh [] [] [] ?_;simp only[yho,allQ,live,yc,yx,go_sem,zA,zC,↓reduceIte,reduceCtorEq];exact⟨fun _ _ _ _ e=>e,by omega,fun i _=>yjm (e:=77) (k:=.u32) [] rfl rfl,fun i b hb=>⟨b,hb,yds (e:=77) (k:=.u32) rfl hb (yem (e:=77) (k:=.u32) hb)⟩⟩
    .obtain rfl:i=x.2.length:=by omega
     simp only[ybmi,ycor,st2,boxS,addF,spcO,spcC,ybh,ybb,yfw,zK,clash,go_sem,zA,zB,↓reduceIte,reduceCtorEq];refine⟨fun q hq=>?_,R,yxg ⟨ydp fun q hq=>?_,Sim.refl _,trivial⟩,hR1,fun q=>by have:=hR2 q;omega⟩
     .unfold rowC
      by_cases e:(R q).length=0
      .simp only[e,go_sem,↓reduceIte]
      .simp only[e,yho,rowB,go_sem,zA,↓reduceIte]
     .unfold rowC
      by_cases e:(R q).length=0
      .simp only[e,SimL,usV,go_sem,↓reduceIte];exact ybhl
      .simp only[e,yho,rowB,SimL,usV,go_sem,zA,↓reduceIte];exact Sim.refl _
end Sh
end
section
namespace Sh
open Ev Go.RowKit
structure RdB(S:Spc)(lg:Nat->Bool)(n:Nat)(B:Nat->Nat->Nat->Prop):Prop where
 one:∀k,k<S.N->lg k=false->∀s,s<2^n->B k s 1
 done:∀k,k<S.N->lg k=false->∀s,s<2^n->∀i,i<(S.arcs k).length->lg ((S.arcs k).getD i (0,0)).2=false->ymq S s ((S.arcs k).getD i (0,0)).1 ((S.arcs k).getD i (0,0)).2=0->∀x,B ((S.arcs k).getD i (0,0)).2 (S.en ((S.arcs k).getD i (0,0)).2) x->B k s (1+x)
 more:∀k,k<S.N->lg k=false->∀s,s<2^n->∀i,i<(S.arcs k).length->lg ((S.arcs k).getD i (0,0)).2=false->ymq S s ((S.arcs k).getD i (0,0)).1 ((S.arcs k).getD i (0,0)).2≠0->∀x,B ((S.arcs k).getD i (0,0)).2 (ymq S s ((S.arcs k).getD i (0,0)).1 ((S.arcs k).getD i (0,0)).2) x->B k s x
 le:∀k s x,B k s x->x<=1000000
theorem ybym{a b c d:Nat}(hb:b<2^32)(hd:d<2^32)(e:mkey (a:Int) (b:Int)=mkey (c:Int) (d:Int)):a=c/\b=d:=by
 unfold mkey at e;simp only[zO]at e;omega
set_option maxHeartbeats 4000000 in
theorem ycdl {S:Spc}(h:S.ok){lg:Nat->Bool}(hf:S.free lg){n:Nat}(hn:n<=24)(hen:∀k,k<S.N->S.en k<2^n)(hM:S.N*2^n<=262144){B:Nat->Nat->Nat->Prop}(hB:RdB S lg n B) :
 Ct zZ 19 [.ag (spcC S),ybb S.N lg] fun r=>∃f:Nat->Nat,Sim r (.tp [.sl 1 S.N fun k=>[.i .i64 (f k:Nat)],.i .i64 0])/\∀k,k<S.N->f k=0\/(lg k=false/\B k (S.en k) (f k)):=by
 refine ydny _ _ ?_;have hle:=h.le;have h2n:2^n<=2^24:=zI (by omega) hn
 have hO:=ybcq h hf;have hR:=ycjk h lg hn hen hM;simp only[spcC,ybh,ybb]at hO hR;simp only[c19,ydtr,ydrb,spcC,ybh,ybb,clash,go_sem,zA,zB,zC,↓reduceIte,reduceCtorEq];refine hO.fnd (V:=fun L=>.tp [ych L,.i .i64 0]) (fun r L h=>h.1) fun r L hL=>?_;obtain⟨-,hlt,hlen,hall⟩:=hL;simp only[ybg,ydlm,ydtk,clash,ych,zY,go_sem,zA,zB,↓reduceIte,reduceCtorEq];refine hR.fnd (V:=fun R=>.tp [.sl 1 S.N fun k=>[usV (R k)],.i .i64 0]) (fun r L h=>h.1) fun r R hR=>?_
 obtain⟨-,hR1,hR2⟩:=hR;simp only[ydve,ydlv,ydop,clash,usV,zY,go_sem,zA,zB,zC,↓reduceIte,reduceCtorEq]
 let VI:(Nat->Nat)->Prop:=fun V=>∀(k:Nat),k<S.N->∀(s:Nat),s<2^n->V (mkey (k:Int) (s:Int))=0\/(lg k=false/\B k s (V (mkey (k:Int) (s:Int))))
 let mp:(Nat->Nat)->Nat×Fam:=fun V=>(41,.one (some ⟨CU,true,1,0,fun c=>[.i .i64 (V c:Nat)]⟩))
 refine ybd (σ:=Nat×(Nat->Nat)) (fun y=>⟨[(44,.i .i64 y.1),(43,.i .i64 (L.length:Nat)),(42,ych L),(1,ybb S.N lg),(2,.pt (2,0) 0 0),(8,.sl 1 S.N fun k=>[usV (R k)]),(9,.mr (41,0))],[(2,spcO S),mp y.2]⟩) (fun y=>y.1<=L.length/\VI y.2) (fun y=>L.length-y.1) (0,fun _=>0) ⟨zJ _,fun _ _ _ _=>.inl rfl⟩ ?_ ?_
 .refine yh [] [] [] ?_;simp only[mp,ych,usV,spcO,spcC,ybh,ybb,yls,allQ,live,yc,zH,go_sem,zA,zC,↓reduceIte,reduceCtorEq]
 .rintro⟨i,V⟩ ⟨hi,hV⟩;simp only at hi hV ⊢
  by_cases hlt2:i<L.length
  .have d1 := dec_lt hlt2;obtain⟨k,hk⟩:∃k,L.getD i 0=k:=⟨_,rfl⟩;have hkN:k<S.N:=by rw[<-hk,getD_at hlt2];exact hlt _ (zQ _)
   have hal:=h.len hkN;have hRl:=hR2 k;simp only[ydjx,ycmp,ycul,mp,ych,usV,spcO,spcC,ybh,ybb,d1,hk,clash,go_sem,zA,zB,↓reduceIte,reduceCtorEq]
   repeat refine zD (by first|omega|decide|exact ikw (by omega) (by omega)) ?_
   refine ybd (σ:=Nat×(Nat->Nat)) (fun y=>⟨[(53,.i .i64 y.1),(52,.i .i64 ((R k).length:Nat)),(51,usV (R k)),(11,.i .i64 k),(44,.i .i64 i),(43,.i .i64 (L.length:Nat)),(42,ych L),(1,ybb S.N lg),(2,.pt (2,0) 0 0),(8,.sl 1 S.N fun k=>[usV (R k)]),(9,.mr (41,0))],[(2,spcO S),mp y.2]⟩) (fun y=>y.1<=(R k).length/\VI y.2) (fun y=>(R k).length-y.1) (0,V) ⟨zJ _,hV⟩ ?_ ?_
   .refine yh [] [] [] ?_;simp only[mp,ych,usV,spcO,spcC,ybh,ybb,allQ,live,yc,zH,go_sem,zA,zC,↓reduceIte,reduceCtorEq]
   .rintro⟨u,V⟩ ⟨hu,hV⟩;simp only at hu hV ⊢
    by_cases hlt3:u<(R k).length
    .have d2 := dec_lt hlt3;obtain⟨s,hs⟩:∃s,(R k).getD u 0=s:=⟨_,rfl⟩;obtain⟨hs2,hlk⟩:=hR1 k s (by rw[<-hs,getD_at hlt3];exact zQ _)
     simp only[ycei,ycus,ycsc,ycqe,yctq,mp,ych,usV,spcO,spcC,ybh,ybb,d2,hs,splice,clash,go_sem,zA,zB,zG,zC,↓reduceIte,reduceCtorEq]
     repeat refine zD (by first|omega|decide|exact ikw (by omega) (by omega)) ?_
     refine ybd (σ:=Nat×Nat) (fun z=>⟨[(66,.i .i64 z.1),(65,.i .i64 ((S.arcs k).length:Nat)),(64,ybh (S.arcs k)),(15,.i .i64 z.2),(14,.pt (14,0) 0 0),(53,.i .i64 u),(52,.i .i64 ((R k).length:Nat)),(51,usV (R k)),(11,.i .i64 k),(44,.i .i64 i),(43,.i .i64 (L.length:Nat)),(42,ych L),(1,ybb S.N lg),(2,.pt (2,0) 0 0),(8,.sl 1 S.N fun k=>[usV (R k)]),(9,.mr (41,0))],
      [(14,.one (some ⟨109,true,2,1,fun _=>[.i .i64 (k:Nat),.i .u32 (s:Nat)]⟩)),(2,spcO S),mp V]⟩) (fun z=>z.1<=(S.arcs k).length/\B k s z.2) (fun z=>(S.arcs k).length-z.1) (0,1) ⟨zJ _,hB.one k hkN hlk s hs2⟩ ?_ ?_
     .refine yh [] [] [] ?_;simp only[mp,ych,usV,spcO,spcC,ybh,ybb,allQ,live,yc,yx,zH,go_sem,zA,zC,↓reduceIte,reduceCtorEq];rfl
     .rintro⟨j,m⟩ ⟨hj,hm⟩;simp only at hj hm ⊢;have hm6:=hB.le _ _ _ hm
      by_cases hlt4:j<(S.arcs k).length
      .have d3 := dec_lt hlt4;have hto:=h.to k hkN j hlt4;have hsub:=(h.sub k hkN j hlt4).1;have hdone:=hB.done k hkN hlk s hs2 j hlt4;have hmore:=hB.more k hkN hlk s hs2 j hlt4;obtain⟨⟨a,t⟩,hat⟩:∃p,(S.arcs k).getD j (0,0)=p:=⟨_,rfl⟩;rw[hat]at hto hsub hdone hmore;simp only at hto hsub hdone hmore;cases hlt':lg t with
       | true =>
         simp only[ybct,yblu,ybmc,ybjy,mp,ych,usV,spcO,spcC,ybh,ybb,d3,hat,hlt',splice,clash,go_sem,zA,zB,zC,↓reduceIte,reduceCtorEq]
         repeat refine zD (by first|omega|decide|exact ikw (by omega) (by omega)) ?_
         refine yj (j+1,m) ⟨hlt4,hm⟩ (by show _-(j+1)<_-j;omega) ?_
         refine yh [] [] [] ?_;simp only[allQ,live,yc,yx,go_sem,zA,zC,↓reduceIte,reduceCtorEq];omega
       | false =>
         have hAf:=yur h (k:=k) (p:=s) (s:=a) (t:=t) (by omega) (by omega) hto
         have hap:yfp S s a t<2^n:=by
          unfold yfp ymq;split
          .exact hen t hto
          .exact ybxo (ysm hs2)
         have hVt:=hV t hto (yfp S s a t) hap;obtain⟨v,hv⟩:∃v,V (mkey (t:Int) (yfp S s a t:Int))=v:=⟨_,rfl⟩;rw[hv]at hVt
         have hv6:v<=1000000:=by
          rcases hVt with r|⟨_,r⟩
          .omega
          .exact hB.le _ _ _ r
         simp only[spcC,ybh]at hAf
         by_cases hp0:ymq S s a t=0
         .have e1:B k s (max m (1+v)):=by
           rcases zAQ m (1+v)with r|r
           .rw[zAK r];rcases hVt with q|⟨_,q⟩
            .rw[q];exact hB.one k hkN hlk s hs2
            .refine hdone hlt' hp0 v ?_;have:yfp S s a t=S.en t:=if_pos hp0;rw[this]at q;exact q
           .rw[zAM r];exact hm
          rw[decide_eq_true hp0]at hAf;simp only[ybct,yblu,ybmc,ybzc,mp,ych,usV,spcO,spcC,ybh,ybb,d3,hat,hlt',splice,clash,go_sem,zA,zB,zC,↓reduceIte,reduceCtorEq]
          repeat refine zD (by first|omega|decide|exact ikw (by omega) (by omega)) ?_
          refine hAf.use ?_;simp only[ybg,ybxr,ycpb,ybjy,splice,clash,zAH,hv,go_sem,zA,zB,zC,↓reduceIte,reduceCtorEq]
          repeat refine zD (by first|omega|decide|exact ikw (by omega) (by omega)) ?_
          refine yj (j+1,max m (1+v)) ⟨hlt4,e1⟩ (by show _-(j+1)<_-j;omega) ?_
          refine yh [] [] [] ?_;simp only[allQ,live,yc,yx,go_sem,zA,zC,↓reduceIte,reduceCtorEq];omega
         .have e1:B k s (max m v):=by
           rcases zAQ m v with r|r
           .rw[zAK r];rcases hVt with q|⟨_,q⟩
            .have:m=v:=by omega
             rw[<-this];exact hm
            .refine hmore hlt' hp0 v ?_;have:yfp S s a t=ymq S s a t:=if_neg hp0;rw[this]at q;exact q
           .rw[zAM r];exact hm
          rw[decide_eq_false hp0]at hAf;simp only[ybct,yblu,ybmc,ybzc,mp,ych,usV,spcO,spcC,ybh,ybb,d3,hat,hlt',splice,clash,go_sem,zA,zB,zC,↓reduceIte,reduceCtorEq]
          repeat refine zD (by first|omega|decide|exact ikw (by omega) (by omega)) ?_
          refine hAf.use ?_;simp only[ybg,ybxr,ycpu,ybjy,splice,clash,zAH,hv,go_sem,zA,zB,zC,↓reduceIte,reduceCtorEq]
          repeat refine zD (by first|omega|decide|exact ikw (by omega) (by omega)) ?_
          refine yj (j+1,max m v) ⟨hlt4,e1⟩ (by show _-(j+1)<_-j;omega) ?_
          refine yh [] [] [] ?_;simp only[allQ,live,yc,yx,go_sem,zA,zC,↓reduceIte,reduceCtorEq];omega
      .obtain rfl:j=(S.arcs k).length:=by omega
       obtain⟨V',hV'⟩:∃V':Nat->Nat,(fun c=>if c=mkey (k:Int) (s:Int)then m else V c)=V':=⟨_,rfl⟩
       have hVV:VI V':=fun k' hk' s' hs'=>by
        rw[<-hV'];show(if _ then m else V _)=0\/(lg k'=false/\B k' s' (if _ then m else V _))
        by_cases e:mkey (k':Int) (s':Int)=mkey (k:Int) (s:Int)
        .obtain⟨rfl,rfl⟩:=ybym (by omega) (by omega) e
         rw[if_pos rfl];exact .inr ⟨hlk,hm⟩
        .rw[if_neg e];exact hV k' hk' s' hs'
       simp only[ybct,ycnq,ycps,mp,ych,usV,spcO,spcC,ybh,ybb,zK,clash,ydxw,go_sem,zA,zB,↓reduceIte,reduceCtorEq]
       repeat refine zD (by first|omega|decide|exact ikw (by omega) (by omega)) ?_
       refine yj (u+1,V') ⟨hlt3,hVV⟩ (by show _-(u+1)<_-u;omega) ?_
       refine yh [] [] [] ?_;simp only[allQ,live,yc,yx,go_sem,zA,zC,↓reduceIte,reduceCtorEq];refine⟨by omega,fun i=>?_,fun i hi=>absurd hi (by omega)⟩
       rw[<-hV']
       by_cases e:i=mkey (k:Int) (s:Int)
       .simp only[if_pos e]
       .simp only[if_neg e]
    .obtain rfl:u=(R k).length:=by omega
     simp only[ycei,ycmz,mp,ych,usV,spcO,spcC,ybh,ybb,zK,clash,go_sem,zA,zB,↓reduceIte,reduceCtorEq]
     repeat refine zD (by first|omega|decide|exact ikw (by omega) (by omega)) ?_
     refine yj (i+1,V) ⟨hlt2,hV⟩ (by show _-(i+1)<_-i;omega) ?_
     refine yh [] [] [] ?_;simp only[allQ,live,yc,yx,go_sem,zA,zC,↓reduceIte,reduceCtorEq];omega
  .obtain rfl:i=L.length:=by omega
   simp only[ydjx,ycxy,ycsn,mp,ych,usV,spcO,spcC,ybh,ybb,zK,clash,go_sem,zA,zB,zG,zC,↓reduceIte,reduceCtorEq]
   repeat refine zD (by first|omega|decide|exact ikw (by omega) (by omega)) ?_
   let f:Nat->Nat->Nat:=fun k q=>if q<k/\lg q=false then V (mkey (q:Int) (S.en q:Int))else 0
   refine ybd (σ:=Nat) (fun k=>⟨[(106,.i .i64 k),(105,.i .i64 (S.N:Nat)),(104,.sl 1 S.N fun k=>[.i .u32 (S.en k:Nat)]),(1,ybb S.N lg),(9,.mr (41,0)),(20,.os (102,0) 0 S.N true)],[(102,.one (some ⟨3,false,1,S.N,fun q=>[.i .i64 (f k q:Nat)]⟩)),mp V]⟩) (fun k=>k<=S.N) (fun k=>S.N-k) 0 (zJ _) ?_ ?_
   .refine yh [] [] [] ?_;simp only[mp,ybb,allQ,live,yc,yx,zH,go_sem,zA,zC,↓reduceIte,reduceCtorEq]
    exact fun i _=>by
     show(0:Int)=((if i<0/\lg i=false then _ else 0:Nat):Int)
     rw[if_neg (fun r=>by omega)]
     rfl
   .intro k hk
    by_cases hlt:k<S.N
    .have d1:=dec_lt hlt;have he:=h.lt k hlt;cases hq:lg k with
     | true =>
       have hfk:∀q,f (k+1) q=f k q:=fun q=>by
        show(if _ then _ else _)=if _ then _ else _
        by_cases e:q=k
        .subst e;rw[hq,if_neg (fun r=>by cases r.2),if_neg (fun r=>by cases r.2)]
        .by_cases r:q<k/\lg q=false
         .rw[if_pos r,if_pos ⟨by omega,r.2⟩]
         .rw[if_neg r,if_neg (fun w=>r ⟨by omega,w.2⟩)]
       simp only[ybls,ybvp,ybws,ybts,mp,ybb,d1,hq,clash,go_sem,zA,zB,↓reduceIte,reduceCtorEq]
       repeat refine zD (by first|omega|decide|exact ikw (by omega) (by omega)) ?_
       refine yj (k+1) hlt (by omega) ?_
       refine yh [] [] [] ?_;simp only[hfk,allQ,live,yc,yx,go_sem,zA,zC,↓reduceIte,reduceCtorEq];omega
     | false =>
       have hfk:∀q,f (k+1) q=if q=k then V (mkey (k:Int) (S.en k:Int))else f k q:=fun q=>by
        show(if _ then _ else _)=if _ then _ else(if _ then _ else _)
        by_cases e:q=k
        .subst e;rw[if_pos rfl,if_pos ⟨by omega,hq⟩]
        .rw[if_neg e]
         by_cases r:q<k/\lg q=false
         .rw[if_pos r,if_pos ⟨by omega,r.2⟩]
         .rw[if_neg r,if_neg (fun w=>r ⟨by omega,w.2⟩)]
       simp only[ybls,ybvp,ybws,ycuu,ybts,mp,ybb,d1,hq,splice,clash,zAH,go_sem,zA,zB,zG,↓reduceIte,reduceCtorEq]
       repeat refine zD (by first|omega|decide|exact ikw (by omega) (by omega)) ?_
       refine yj (k+1) hlt (by omega) ?_
       refine yh [] [] [] ?_;simp only[hfk,allQ,live,yc,yx,go_sem,zA,zC,↓reduceIte,reduceCtorEq];refine⟨by omega,fun i hi=>yfi ?_⟩
       by_cases e:i=k
       .simp only[if_pos e]
       .simp only[if_neg e]
    .obtain rfl:k=S.N:=by omega
     simp only[ybls,ycpz,mp,ybb,zK,clash,go_sem,zA,zB,↓reduceIte,reduceCtorEq];refine⟨f S.N,Sim.refl _,fun k hk=>?_⟩;show(if _ then _ else _)=0\/(_/\B k (S.en k) (if _ then _ else _))
     by_cases r:k<S.N/\lg k=false
     .rw[if_pos r];exact hV k hk (S.en k) (hen k hk)
     .rw[if_neg r];exact .inl rfl
end Sh
end
section
structure WLaw(p:ProgT)(g:Gr)(perm:Nat->Bool)(D:Nat->Prop)(L:Conf->Bool)(J:Conf->Cnt->Prop)(R:Nat)(M:Nat->Prop):Prop where
 tab:TabOk (tabP p g)
 n4:g.ids.length<=4
 big:ybi (tabP p g)*2^g.ids.length<=262144
 fit:∀c,ydk p g c=true->∀s,ydk p g (yfs p g c s)=true
 permD:∀s,s<2^g.ids.length->perm s=true->D s
 low:∀e,e<16->e≠0->perm ((4294967296-e)&&&e)=true
 start:∀c,ydk p g c=true->J c (ybff (ybq p g c))
 step:∀c k s,ydk p g c=true->J c k->s≠0->subB s (ybq p g c)->D s->J (yfs p g c s) (addP k s (ybq p g (yfs p g c s)))
 rests:∀c,ydk p g c=true->(ybq p g c=0↔L c=true)
 rounds:∀c k,ydk p g c=true->J c k->L c=false->k.rounds+1<=R
 r1000:R<=100000
 moves:∀c k,ydk p g c=true->J c k->M k.moves
 noloop:∀c s m,Loop (yko p g) (fun c=>ydk p g c=true) c s m->(∀i,D (s i))->False
theorem yddw{perm:Nat->Bool}{e n:Nat}(hn:n<=4)(he:e<2^n):(chP perm e).length<=2^n:=by
 have h16:2^n<=16:=zI (by omega) hn
 have:=ykd (perm:=perm) (e:=e) (n:=2^n) (16-2^n) fun t h1 _ h=>by
  have:t&&&e<=e:=Nat.and_le_right;rw[h.2]at this;omega
 rw[show 2^n+(16-2^n)=16 by omega]at this
 show(chTo perm e 16).length<=_;rw[this];exact yyu _ _ _
theorem yph{s e:Nat}(h:s&&&e=s):subB s e:=fun v hv=>by
 have:(s&&&e).testBit v=true:=by rw[h];exact hv
 rw[zAL,zN]at this;exact this.2
namespace WLaw
variable {p:ProgT}{g:Gr}{perm:Nat->Bool}{D:Nat->Prop}{L:Conf->Bool}{J:Conf->Cnt->Prop}{R:Nat}{M:Nat->Prop}
theorem en16(h:WLaw p g perm D L J R M)(c:Conf):ybq p g c<16:=zV (Sh.yvh p g c) (zI (by omega) h.n4:2^g.ids.length<=2^4)
theorem ytl(h:WLaw p g perm D L J R M){k i:Nat}(hi:i<((spcP perm p g).arcs k).length) :
 ∃s,((spcP perm p g).arcs k).getD i (0,0)=(s,rkN p g (yfs p g (cfP p g k) s))/\s=(chP perm (ybq p g (cfP p g k))).getD i 0/\s<16/\s≠0/\s&&&ybq p g (cfP p g k)=s/\perm s=true:=by
 change i<((chP perm (ybq p g (cfP p g k))).map _).length at hi
 rw[zAD]at hi;refine⟨_,?_,rfl,ybna (Sh.getD_mem hi)⟩;show((chP perm (ybq p g (cfP p g k))).map _).getD i (0,0)=_;simp only[zAF,zAJ,zAG hi];rfl
theorem conf(h:WLaw p g perm D L J R M)(k:Nat):ydk p g (cfP p g k)=true:=ybyt h.tab.bd k
theorem yduz(h:WLaw p g perm D L J R M){d:Conf}(hd:ydk p g d=true):rkN p g d<ybi (tabP p g)/\cfP p g (rkN p g d)=d:=by
 have hi:=yhp.1 hd;have:=yxv hi;refine⟨?_,ybjq hi⟩;unfold rkN;omega
theorem ybio(h:WLaw p g perm D L J R M){k s:Nat}:cfP p g (rkN p g (yfs p g (cfP p g k) s))=yfs p g (cfP p g k) s:=(h.yduz (h.fit _ (h.conf k) s)).2
theorem ybas(h:WLaw p g perm D L J R M)(k:Nat):((spcP perm p g).arcs k).length=(chP perm (ybq p g (cfP p g k))).length:=zAD _
theorem ycnp(h:WLaw p g perm D L J R M):∀k,sumA (spcP perm p g) k<=k*2^g.ids.length
 |0=>zJ _
 | k + 1=>by
   have h1:=ycnp h k
   have h2:((spcP perm p g).arcs k).length<=2^g.ids.length:=by
    rw[h.ybas];exact yddw h.n4 (Sh.yvh p g _)
   show sumA (spcP perm p g) k+((spcP perm p g).arcs k).length<=(k+1)*2^g.ids.length;rw[Nat.succ_mul];omega
theorem tot(h:WLaw p g perm D L J R M):sumA (spcP perm p g) (ybi (tabP p g))<=262144:=zM (h.ycnp _) h.big
theorem yzv(h:WLaw p g perm D L J R M)(k:Nat):(spcP perm p g).en k=0↔((spcP perm p g).arcs k).length=0:=by
 rw[h.ybas];show ybq p g (cfP p g k)=0↔_;constructor
 .intro e;rw[e,ybmq];rfl
 .intro e;refine zU fun q=>ydpa (h.en16 _) q (h.low _ (h.en16 _) q) (List.length_eq_zero_iff.1 e)
theorem ok(h:WLaw p g perm D L J R M):(spcP perm p g).ok:=by
 have hlt:∀k,ybq p g (cfP p g k)<2^24:=fun k=>zAR (h.en16 _) (by omega)
 refine⟨yoj h.tab.bd,h.tab.tot,fun k _=>hlt k,fun k _=>h.yzv k,fun k _ i hi=>?_,fun k _ i hi=>?_,fun k _ i hi=>?_,h.tot⟩
 .obtain⟨s,e,-,h1,-,h2,-⟩:=h.ytl hi;rw[e];exact⟨zAR h1 (by omega),Sh.yblm h2⟩
 .obtain⟨s,e,es,h1,h0,h2,-⟩:=h.ytl hi;rw[e];unfold ybie
  by_cases q:i=0
  .rw[if_pos q];show 0<s;omega
  .rw[if_neg q];obtain⟨s',e',es',-⟩:=h.ytl (k:=k) (i:=i-1) (by omega)
   rw[e'];show s'<s;have hl:=hi;rw[h.ybas]at hl;rw[es,es',yms hl,yms (by omega)]
   exact List.pairwise_iff_getElem.1 (ybfw _ _ _) _ _ _ _ (by omega)
 .obtain⟨s,e,-⟩:=h.ytl hi;rw[e];exact(h.yduz (h.fit _ (h.conf k) s)).1
theorem free(h:WLaw p g perm D L J R M):(spcP perm p g).free fun k=>L (cfP p g k):=by
 refine⟨fun k _ hl e=>?_,fun f m hB=>?_⟩
 .have:(spcP perm p g).en k=0:=(h.yzv k).2 (by rw[e];rfl)
  have:=(h.rests _ (h.conf k)).1 this;rw[hl]at this;cases this
 .have ha:∀i,∃s,s<2^g.ids.length/\s≠0/\subB s (ybq p g (cfP p g (f i)))/\D s/\cfP p g (f (i+1))=yfs p g (cfP p g (f i)) s:=fun i=>by
   obtain⟨a,h1,h2⟩:=hB.arc i;obtain⟨j,hj,rfl⟩:=List.getElem_of_mem h1;obtain⟨s,e,-,h3,h4,h5,h6⟩:=h.ytl hj;rw[yms hj]at e;rw[e]at h2;have hs2:s<2^g.ids.length:=Sh.ybat (yph h5) (Sh.yvh p g _);refine⟨s,hs2,h4,yph h5,h.permD s hs2 h6,?_⟩;rw[<-h2];exact h.ybio
  let s:Nat->Nat:=fun i=>(ha i).choose
  have hs:=fun i=>(ha i).choose_spec;exact h.noloop (fun i=>cfP p g (f i)) s m ⟨hB.pos,fun i=>by show cfP p g _=_;rw[hB.per],fun i=>h.conf _,fun i=>(hs i).2.1,fun i=>(hs i).2.2.1,fun i=>(hs i).2.2.2.2⟩ fun i=>(hs i).2.2.2.1
theorem rest(h:WLaw p g perm D L J R M)(k:Nat)(hl:L (cfP p g k)=true):((spcP perm p g).arcs k).length=0:=(h.yzv k).1 ((h.rests _ (h.conf k)).2 hl)
def BM(p:ProgT)(g:Gr)(J:Conf->Cnt->Prop)(M:Nat->Prop)(k x:Nat):Prop:=∀kk,J (cfP p g k) kk->M (x+kk.moves)
theorem mvB(h:WLaw p g perm D L J R M):Sh.MvB (spcP perm p g) (fun k=>L (cfP p g k)) (BM p g J M):=by
 refine⟨fun k _ kk hk=>by rw[Nat.zero_add];exact h.moves _ _ (h.conf k) hk,fun k _ _ i hi x hB kk hk=>?_⟩
 obtain⟨s,e,-,h3,h4,h5,h6⟩:=h.ytl hi;rw[e]at hB ⊢;have hs2:s<2^g.ids.length:=Sh.ybat (yph h5) (Sh.yvh p g _);have:=h.step _ _ s (h.conf k) hk h4 (yph h5) (h.permD s hs2 h6);rw[<-h.ybio]at this;have:=hB _ this;show M (popP s+x+kk.moves);rw[show popP s+x+kk.moves=x+(kk.moves+popP s)by omega]
 exact this
def BR(p:ProgT)(g:Gr)(J:Conf->Cnt->Prop)(R k s x:Nat):Prop:=(∀kk,J (cfP p g k) kk->kk.pend=s->kk.rounds+x<=R)/\x<=1+R
theorem rdB(h:WLaw p g perm D L J R M):Sh.RdB (spcP perm p g) (fun k=>L (cfP p g k)) g.ids.length (BR p g J R):=by
 have nx:∀k i,i<((spcP perm p g).arcs k).length->∀kk,J (cfP p g k) kk->J (cfP p g (((spcP perm p g).arcs k).getD i (0,0)).2) (addP kk (((spcP perm p g).arcs k).getD i (0,0)).1 ((spcP perm p g).en (((spcP perm p g).arcs k).getD i (0,0)).2)):=fun k i hi kk hk=>by
  obtain⟨s,e,-,h3,h4,h5,h6⟩:=h.ytl hi;rw[e];have hs2:s<2^g.ids.length:=Sh.ybat (yph h5) (Sh.yvh p g _);have:=h.step _ _ s (h.conf k) hk h4 (yph h5) (h.permD s hs2 h6);rw[<-h.ybio]at this;exact this
 refine⟨fun k _ hl s _=>⟨fun kk hk _=>h.rounds _ _ (h.conf k) hk hl,by omega⟩,fun k _ hl s _ i hi hl2 hp x hB=>⟨fun kk hk he=>?_,?_⟩,fun k _ hl s _ i hi hl2 hp x hB=>⟨fun kk hk he=>?_,hB.2⟩,fun k s x hB=>?_⟩
 .have h1:=nx k i hi kk hk;unfold ymq at hp;unfold addP at h1;simp only[he,hp,if_true]at h1;have:=hB.1 _ h1 rfl;have:kk.rounds+1+x<=R:=this;omega
 .have:=hB.1 _ (h.start _ (h.conf _)) rfl;have:0+x<=R:=this;omega
 .have h1:=nx k i hi kk hk;unfold ymq at hp hB;unfold addP at h1;simp only[he,if_neg hp]at h1;have:=hB.1 _ h1 rfl;exact this
 .have:=hB.2;have:=h.r1000;omega
theorem ycid(h:WLaw p g perm D L J R M){k x:Nat}(hx:BM p g J M k x):M x:=hx _ (h.start _ (h.conf k))
theorem ybxj(h:WLaw p g perm D L J R M){k x:Nat}(hx:x=0\/(L (cfP p g k)=false/\BR p g J R k ((spcP perm p g).en k) x)):x<=R:=by
 rcases hx with rfl|⟨-,hx⟩
 .exact zJ _
 .have:=hx.1 _ (h.start _ (h.conf k)) rfl;have:0+x<=R:=this;omega
end WLaw
end
section
theorem ybjo{r:Nat}:∀T:List (List (Int×Int)),(∀x∈T,ybp x<=r)->ybi T<=r^T.length
 |[],_=>zS _
 | x::T,h=>by
   show ybp x*ybi T<=r^(T.length+1);rw[Nat.pow_succ,zAP (r^T.length)];exact zAO (h x zL) (ybjo T fun y hy=>h y (zAC _ hy))
theorem ysj{p:ProgT}{g:Gr}{x:List (Int×Int)}(h:x∈tabP p g):∃v,v<g.ids.length/\x=p.vars.map (ybn g v):=by
 unfold tabP tabT at h;obtain⟨v,hv,rfl⟩:=List.mem_map.1 h;exact⟨v,List.mem_range.1 hv,rfl⟩
theorem yceo {p:ProgT}{g:Gr}{m r:Nat}(hn:g.ids.length<=m) (hm:m<=4) (hv:0<p.vars.length/\p.vars.length<=6)
 (hb:∀v,v<g.ids.length->∀x∈p.vars,-1000000<=(ybn g v x).1/\(ybn g v x).1<=(ybn g v x).2/\(ybn g v x).2<=1000000)
 (hr:∀v,v<g.ids.length->ybp (p.vars.map (ybn g v))<=r) (h1:1<=r) (h2:r^m<=32768) (h3:r^m*2^m<=262144):TabOk (tabP p g)/\ybi (tabP p g)*2^g.ids.length<=262144:=by
 have hl:(tabP p g).length=g.ids.length:=ygu _ _ _
 have hp:ybi (tabP p g)<=r^m:=by
  refine zM (ybjo (r:=r) _ fun x hx=>?_) ?_
  .obtain⟨v,hv,rfl⟩:=ysj hx;exact hr v hv
  .rw[hl];exact zI h1 hn
 refine⟨⟨fun x hx b hb'=>?_,fun x hx b hb'=>?_,by omega,fun x hx=>?_,by omega⟩,zM (zAO hp (zI (by omega) hn)) h3⟩
 .obtain⟨v,hv,rfl⟩:=ysj hx;obtain⟨y,hy,rfl⟩:=List.mem_map.1 hb';exact(hb v hv y hy).2.1
 .obtain⟨v,hv,rfl⟩:=ysj hx;obtain⟨y,hy,rfl⟩:=List.mem_map.1 hb';exact⟨(hb v hv y hy).1,(hb v hv y hy).2.2⟩
 .obtain⟨v,hv,rfl⟩:=ysj hx;rw[zAD];omega
theorem ydye {p:ProgT}{g:Gr}{P:Nat->Nat->List Int->Prop}{L:Conf->Bool}{R:Nat}(ht:TabOk (tabP p g)/\ybi (tabP p g)*2^g.ids.length<=262144) (n4:g.ids.length<=4)
 (fit:∀c,ydk p g c=true->∀s,ydk p g (yfs p g c s)=true) (hby:ByRounds (yko p g) (fun c=>ydk p g c=true) P) (h0:∀c v,ydk p g c=true->v<g.ids.length->P 0 v (c.getD v []))
 (rests:∀c,ydk p g c=true->(ybq p g c=0↔L c=true)) (right:∀c r,ydk p g c=true->R<=r->(∀v,v<g.ids.length->P r v (c.getD v []))->L c=true) (hR:R<=100000)
 (noloop:∀(c:Nat->Conf) (s:Nat->Nat) (m:Nat),Loop (yko p g) (fun c=>ydk p g c=true) c s m->False) :
 WLaw p g (fun _=>true) (fun _=>True) L (RInv (yko p g) (fun c=>ydk p g c=true) P) R (fun _=>True) where
 tab:=ht.1
 n4:=n4
 big:=ht.2
 fit:=fit
 permD:=fun _ _ _=>trivial
 low:=fun _ _ _=>rfl
 start:=fun c hc=>hby.start hc fun v hv=>h0 c v hc hv
 step:=fun c k s hc hJ h1 h2 _=>hby.step c k s hJ h1 h2
 rests:=rests
 rounds:=fun c k hc hJ hl=>by
  refine zU fun q=>?_;rw[right c k.rounds hc (by omega) hJ.all]at hl
  cases hl
 r1000:=hR
 moves:=fun _ _ _ _=>trivial
 noloop:=fun c s m h _=>noloop c s m h
end
section
theorem ybgw{g:Gr}(hg:ybj g){v:Nat}(hv:v<g.ids.length){l:Int×Int}(hl:l∈g.ports.getD v []):l.1.toNat<g.ids.length/\1<=l.2/\l.2<=15:=by
 have e:g.ids.length=g.ports.length:=hg.2.2.1;obtain⟨_,h1,_,h2,h3⟩:=ygj hg (by omega) hl
 exact⟨by omega,h2,h3⟩
end
section
section
variable {nm nh nr:ByteArray}{g:Gr}
theorem ycku (hg:ybj g) {c c':Conf}{v:Nat}(hv:v<g.ids.length) (hc:∀u,u<g.ids.length->0<=(c.getD u []).getD 0 0)
 (hall:∀u,u<g.ids.length->((c.getD u []).getD 0 0<cnV g c v->(c'.getD u []).getD 0 0=(c.getD u []).getD 0 0)/\(cnV g c v<=(c.getD u []).getD 0 0->cnV g c v<=(c'.getD u []).getD 0 0)):cnV g c' v=cnV g c v:=by
 by_cases hd:((g.ports.getD v []).length:Int)<2
 .unfold cnV;rw[if_pos hd,if_pos hd]
 .have h1:=(yju (-1073741824) ((g.ports.getD v []).map (endP c 0))).2.2;have h2:=(yju (-1073741824) ((g.ports.getD v []).map (endP c' 0))).2.2
  have k1:∀m:Int,-1073741824<m->(m<=cnS g c v↔2<=(g.ports.getD v []).countP fun l=>decide (m<=endP c 0 l)):=fun m hm=>by
   have:=(h1 m hm).2;rw[zAN]at this;exact this
  have k2:∀m:Int,-1073741824<m->(m<=cnS g c' v↔2<=(g.ports.getD v []).countP fun l=>decide (m<=endP c' 0 l)):=fun m hm=>by
   have:=(h2 m hm).2;rw[zAN]at this;exact this
  have hends:∀l∈g.ports.getD v [],(endP c 0 l<cnV g c v->endP c' 0 l=endP c 0 l)/\(cnV g c v<=endP c 0 l->cnV g c v<=endP c' 0 l):=fun l hl=>hall _ (ybgw hg hv hl).1;have hge:∀l∈g.ports.getD v [],0<=endP c 0 l:=fun l hl=>hc _ (ybgw hg hv hl).1
  have h0:0<=cnS g c v:=(k1 0 (by omega)).2 (by
   rw[List.countP_eq_length.2 fun l hl=>by simpa using hge l hl]
   omega)
  by_cases hS:cnS g c v<(g.ids.length:Int)
  .have eV:cnV g c v=cnS g c v+1:=by unfold cnV;rw[if_neg hd,if_pos hS]
   rw[eV]at hends ⊢
   have a1:cnS g c v<=cnS g c' v:=(k2 _ (by omega)).2 (zM ((k1 _ (by omega)).1 (Int.le_refl _)) (zAA fun l hl q=>by
    have:=hends l hl;simp only[decide_eq_true_eq]at q ⊢;rcases zAS (endP c 0 l) (cnS g c v+1)with w|w
    .rw[this.1 w];exact q
    .have:=this.2 w;omega))
   have a2:¬cnS g c v+1<=cnS g c' v:=fun q=>by
    have q1:=(k2 _ (by omega)).1 q
    have q2:2<=(g.ports.getD v []).countP fun l=>decide (cnS g c v+1<=endP c 0 l):=zM q1 (zAA fun l hl q=>by
     have:=hends l hl;simp only[decide_eq_true_eq]at q ⊢;rcases zAS (endP c 0 l) (cnS g c v+1)with w|w
     .rw[this.1 w]at q;exact q
     .exact w)
    have:=(k1 _ (by omega)).2 q2
    omega
   unfold cnV;rw[if_neg hd,if_pos (by omega)]
   omega
  .have eV:cnV g c v=(g.ids.length:Int):=by unfold cnV;rw[if_neg hd,if_neg hS]
   rw[eV]at hends ⊢
   have a1:(g.ids.length:Int)<=cnS g c' v:=(k2 (g.ids.length:Int) (by omega)).2 (zM ((k1 (g.ids.length:Int) (by omega)).1 (by omega)) (zAA fun l hl q=>by
    have:=hends l hl;simp only[decide_eq_true_eq]at q ⊢;exact this.2 q))
   unfold cnV;rw[if_neg hd,if_neg (by omega)]
theorem ybnt(hg:ybj g){c:Nat->Conf}{s:Nat->Nat}{m:Nat}(hL:Loop (yko (yex nm nh nr) g) (fun c=>ydk (yex nm nh nr) g c=true) c s m):False:=by
 refine(ybkl hg).no_loop (fun c=>ybap _ _) (fun r=>r.getD 0 0) (fun c v hc hv=>((ygo hc).row v hv).2.1) (fun c c' v hc hc' hv hall=>ycku hg hv (fun u hu=>((ygo hc).row u hu).2.1) hall) (fun c c' v hc hc' hv hall=>?_) hL;have e:∀l∈g.ports.getD v [],endP c' 0 l=endP c 0 l:=fun l hl=>hall _ (ybgw hg hv hl).1;have eS:cnS g c' v=cnS g c v:=by unfold cnS;rw[List.map_congr_left e]
 show[cnV g c' v]=[cnV g c v];unfold cnV;rw[eS]
end
end
section
section
variable {nm nh nr:ByteArray}{g:Gr}
theorem yddx(h:Tr g)(hit:ydb g=true)(hn:g.ports.length<=4):WLaw (yex nm nh nr) g (fun _=>true) (fun _=>True) (yec g) (RInv (yko (yex nm nh nr) g) (fun c=>ydk (yex nm nh nr) g c=true) (cnR g)) (ykb g/2+1).toNat (fun _=>True):=by
 have hg:=h.good;have hpl:=hg.2.2.1;have hd0:0<=ykb g:=yji (g:=g) g.ports.length;have hd1:ykb g<=24:=Sh.ybgj hg g.ports.length (zS _);have hbt:∀v,ybn g v ⟨nh,1,0,0,1,0⟩=(0,0+1*(g.ids.length:Int)+0*maxI g.ids):=fun v=>if_pos rfl
 refine ydye (yceo (m:=4) (r:=5) (by omega) (by omega) ⟨Nat.succ_pos _,by show 1<=6;omega⟩ (fun v hv x hx=>?_) (fun v hv=>?_) (by omega) (by decide) (by decide)) (by omega)
  (fun c hc s=>Sh.yir hg ydov (ybfq hg) hc s) ((ybkl hg).rounds (fun c v r hc' hn hall=>ybih h (ygo hc') hn r hall) ychd) (fun c v hc hv=>ybki (ygo hc) hv)
  (fun c hc=>yvl h hit hc) (fun c r hc hr hall=>(ybjs h hit hc).2 fun v hv=>?_) (by omega) (fun c s m hL=>ybnt hg hL)
 .rw[List.mem_singleton.1 hx,hbt];show -1000000<=(0:Int)/\(0:Int)<=0+1*(g.ids.length:Int)+0*maxI g.ids/\0+1*(g.ids.length:Int)+0*maxI g.ids<=1000000;omega
 .show szP (ybn g v ⟨nh,1,0,0,1,0⟩)*1<=5;rw[hbt];unfold szP;show(0+1*(g.ids.length:Int)+0*maxI g.ids-0+1).toNat*1<=5;omega
 .have h2:=hall v hv;have h3:=h.ht_diam (v:=v) (by omega) (fun a b ha hb=>ybqm hg ha hb)
  have h4:cnR g r v (c.getD v []):=h2;unfold cnR at h4;rw[if_pos (by omega)]at h4
  exact h4
end
end
end Go.Proofs.YthclbjjgfcgbgaaGreatDoor
