/- Joined. -/
import Derived.Test.YtiejahgklcjhkaaGreatDoorPkG16
import Derived.Test.YtiejahgklcjhkaaGreatDoorPkG9
set_option linter.unusedSimpArgs false
set_option linter.unusedVariables false
set_option maxRecDepth 8000
open Nat renaming reduceEqDiff→zA,reduceAdd→zB,reduceLeDiff→zC,reduceLT→zD,add_comm→zJ,reduceBEq→zK,le_refl→zN,zero_le→zO,zero_add→zT,not_lt_zero→zV,ble_eq_true_of_le→zY,eq_zero_or_pos→zAG,reduceMul→zAN,testBit_two_pow→zAO,sub_self→zAP,lt_irrefl→zAY,mul_comm→zAZ,beq→zBB
open List renaming range→zF,take_succ_eq_append_getElem→zG,getElem_mem→zH,length_cons→zI,eq_nil_of_length_eq_zero→zL,foldl_append→zQ,not_mem_nil→zS,getElem?_eq_getElem→zU,mem_cons_self→zW,length_append→zX,take_length→zZ,getD→zAB,mem_cons_of_mem→zAD,getElem_of_mem→zAF,getD_eq_getElem?_getD→zAI,range_succ→zAK,length_pos_of_mem→zAL,length_singleton→zAM,getElem_map→zAR,foldl_cons→zAS,length_nil→zAT,length_map→zAU,mem_range→zAV,take→zAW,drop→zAX,length→zBA
open Int renaming natCast_zero→zM,eq_ofNat_of_zero_le→zAC,toNat_of_nonneg→zAE
open Bool renaming and_eq_true→zAA,true_and→zAH,not_eq_true'→zAJ
open And renaming intro→zAQ
open Go
namespace Go.Proofs.YtiejahgklcjhkaaGreatDoor
section
theorem Tr.rch_le{g:Gr}(h:Tr g){v u:Nat}(hu:adj g v u):1<=rchP g v u/\rchP g v u<=24:=by
 obtain⟨w,hw,_,e⟩:=h.rch_ex hu;have:=h.lt_n hw (h.good.adj_lt hu).1;have:=h.good.2.1;have:=h.rch_pos hu;omega
def htS(g:Gr)(v i:Nat):Int×Int:=(((g.ports.getD v []).take i).map fun l=>rchP g v l.1.toNat).foldl yqe (0,0)
theorem ybki{g:Gr}{v i:Nat}(hi:i<(g.ports.getD v []).length):htS g v (i+1)=yqe (htS g v i) (rchP g v ((g.ports.getD v []).getD i (0,0)).1.toNat):=by
 unfold htS;rw[zG hi,List.map_append,zQ,Sh.getD_at hi];rfl
theorem ybtg(g:Gr)(v:Nat):(htS g v (g.ports.getD v []).length).2=htP g v:=by
 unfold htS;rw[zZ];exact ycym g v
theorem ybsf{g:Gr}(h:Tr g){v:Nat}(hv:v<g.ports.length):∀i,i<=(g.ports.getD v []).length->(0<=(htS g v i).2/\(htS g v i).2<=(htS g v i).1)/\(htS g v i).1<=24
 |0,_=>by simp[htS]
 | i+1,hi=>by
   have ih:=ybsf h hv i (by omega)
   have hm:(g.ports.getD v []).getD i (0,0)∈g.ports.getD v []:=by rw[Sh.getD_at (show i<_ by omega)];exact zH _
   have hr:=h.rch_le (ydj h.good hv hm).2.2.1;rw[ybki (by omega)]
   unfold yqe;simp only;omega
theorem Tr.ht_le{g:Gr}(h:Tr g){v:Nat}(hv:v<g.ports.length):0<=htP g v/\htP g v<=24:=by
 have:=ybsf h hv _ (zN _);rw[<-ybtg g v];omega
def rchS(g:Gr)(v u i:Nat):Int:=((g.ports.getD u []).take i).foldl (ypd g v u) 1
theorem ybud{g:Gr}{v u i:Nat}(hi:i<(g.ports.getD u []).length):rchS g v u (i+1)=ypd g v u (rchS g v u i) ((g.ports.getD u []).getD i (0,0)):=by
 unfold rchS;rw[zG hi,zQ,Sh.getD_at hi];rfl
namespace Sh
open Ev Go.RowKit
theorem ybby{g:Gr}(h:Tr g):∀(k v u:Nat),adj g v u->(rchP g v u).toNat<=k->Returns Tryz.prog 142 [grV g,.i .i64 v,.i .i64 u] (.i .i64 (rchP g v u))
 |0,v,u,hu,hk=>by have:=h.rch_pos hu;omega
 | k + 1,v,u,hu,hk=>by
   refine Returns.of (yczc _ _ ?_);have ih:=ybby h k;obtain⟨hv,hul⟩:=h.good.adj_lt hu;have h24:=h.good.2.1;have hlo:=h.rch_loop hu;have hrs:∀i,rchS g v u i=((g.ports.getD u []).take i).foldl (ypd g v u) 1:=fun _=>rfl;have hsu:=fun i=>ybud (g:=g) (v:=v) (u:=u) (i:=i);have hle:=h.rch_le hu;obtain⟨L,hL⟩:∃L,g.ports.getD u []=L:=⟨_,rfl⟩;have hdeg:=h.good.deg_lt (v:=u)
   have hadj:∀l∈L,0<=l.1/\l.1.toNat<g.ports.length/\adj g u l.1.toNat:=fun l hl=>by
    obtain⟨a,b,c,_⟩:=ydj h.good hul (by rw[hL];exact hl)
    exact⟨a,b,c⟩
   have hless:∀l∈L,l.1≠(v:Int)->rchP g u l.1.toNat<rchP g v u:=fun l hl=>h.rch_less hu (by rw[hL];exact hl)
   rw[hL]at hlo hdeg hrs;simp only[hL]at hsu;obtain⟨d,hd⟩:∃d,L.length=d:=⟨_,rfl⟩;obtain⟨S,hS⟩:∃S:Nat->Int,(fun i=>rchS g v u i)=S:=⟨_,rfl⟩;have hS':∀i,rchS g v u i=S i:=fun i=>by rw[<-hS]
   simp only[hS']at hsu hrs;rw[hd]at hdeg hsu;have hS0:S 0=1:=by rw[hrs];rfl
   have hSd:S d=rchP g v u:=by rw[hrs,<-hd,zZ,hlo]
   rw[<-hSd]at hless hle ⊢;simp only[grV]at ih;simp only[c142,yctr,ycwu,yclq,grV,yx,yba,hL,hd,clash,go_sem,zA,zB,zD,↓reduceIte,reduceCtorEq];refine⟨⟨by omega,by omega⟩,?_⟩
   refine ybj (σ:=Nat) (fun i=>⟨[(16,.i .i64 i),(15,.i .i64 d),(14,yba L),(7,.i .i64 (S i)),(1,.i .i64 v),(2,.i .i64 u),(3,.pt (3,0) 0 0)],[(3,.one (some ⟨27,true,2,1,fun _=>[yw g.ids,yx g.ports]⟩))]⟩) (fun i=>i<=d) (fun i=>d-i) 0 (zO _) ?_ ?_
   ·refine yh [] [] [] ?_;simp only[yx,yba,hd,hS0,allQ,live,yc,zM,go_sem,zA,↓reduceIte,reduceCtorEq]
   intro i hi
   by_cases hlt:i<d
   ·have t1:decide ((i:Int)<(d:Int))=true:=decide_eq_true (by omega)
    have hm:L.getD i (0,0)∈L:=by rw[getD_at (show i<L.length by omega)];exact zH _
    have hss:=hsu i hlt;obtain⟨l,hl⟩:∃l,L.getD i (0,0)=l:=⟨_,rfl⟩;rw[hl]at hm hss;obtain⟨a1,a2,a3⟩:=hadj l hm
    by_cases hlv:l.1=(v:Int)
    ·have t2:(l.1 != (v:Int))=false:=by rw[hlv];simp
     have e:S (i+1)=S i:=by
      rw[hss];unfold ypd;rw[if_neg (by rw[t2];decide)]
     simp only[ybka,ybqo,ybsx,ybpr,yba,hd,hl,t1,t2,splice,clash,go_sem,zA,zB,zC,zD,↓reduceIte,reduceCtorEq];refine⟨by omega,ikw (by omega) (by omega),?_⟩
     refine yj (i+1) (by omega) (by omega) ?_
     refine yh [] [] [] ?_;simp only[e,allQ,live,yc,ybb,go_sem,zA,↓reduceIte,reduceCtorEq];omega
    ·have t2:(l.1 != (v:Int))=true:=by rw[bne_iff_ne];exact hlv
     have hlr:=hless l hm hlv;have hlb:=h.rch_le a3;have hR:=ih u l.1.toNat a3 (by rw[<-hSd]at hk;omega)
     rw[zAE a1]at hR
     have e:S (i+1)=max (S i) (1+rchP g u l.1.toNat):=by
      rw[hss];unfold ypd;rw[if_pos t2]
     obtain⟨r,hr⟩:∃r,rchP g u l.1.toNat=r:=⟨_,rfl⟩;rw[hr]at hR e hlb;simp only[ybka,ybqo,ybsx,ycpy,ybpr,yba,hd,hl,t1,t2,splice,clash,go_sem,zA,zB,zC,zD,↓reduceIte,reduceCtorEq];refine⟨by omega,hR.use ?_⟩
     simp only[ybh,clash,go_sem,zA,zB,↓reduceIte,reduceCtorEq];refine⟨ikw (by omega) (by omega),ikw (by omega) (by omega),?_⟩
     refine yj (i+1) (by omega) (by omega) ?_
     refine yh [] [] [] ?_;simp only[e,allQ,live,yc,ybb,go_sem,zA,↓reduceIte,reduceCtorEq];omega
   ·obtain rfl:i=d:=by omega
    have t1:decide ((i:Int)<(i:Int))=false:=decide_eq_false (by omega)
    simp only[ybka,ychf,t1,clash,go_sem,zA,zB,↓reduceIte,reduceCtorEq];exact Sim.refl _
set_option maxHeartbeats 1000000 in
theorem ybea{g:Gr}(h:Tr g):Returns Tryz.prog 91 [grV g] (yw (mapR g.ports.length (htP g))):=by
 refine Returns.of (ydlz _ _ ?_);have hg:=h.good;have h24:=hg.2.1;have hpl:=hg.2.2.1;obtain⟨n,hn⟩:∃n,g.ports.length=n:=⟨_,rfl⟩;rw[hn]at h24 hpl ⊢;simp only[c91,ydgy,ydgz,ydmi,grV,yw,yx,hpl,hn,clash,go_sem,zA,zB,zC,zD,↓reduceIte,reduceCtorEq];refine⟨⟨by omega,by omega,by omega⟩,?_⟩
 refine ybj (σ:=Nat) (fun v=>⟨[(17,.i .i64 v),(16,.i .i64 n),(15,yx g.ports),(3,.os (13,0) 0 n true),(1,.pt (1,0) 0 0)],[(13,.one (some ⟨3,false,1,n,fun j=>[.i .i64 (if j<v then htP g j else 0)]⟩)),(1,.one (some ⟨27,true,2,1,fun _=>[yw g.ids,yx g.ports]⟩))]⟩) (fun v=>v<=n) (fun v=>n-v) 0 (zO _) ?_ ?_
 ·refine yh [] [] [] ?_;simp only[yw,yx,hpl,hn,zV,allQ,live,yc,zM,go_sem,zA,↓reduceIte,reduceCtorEq]
 intro v hv
 by_cases hlt:v<n
 ·have t1:decide ((v:Int)<(n:Int))=true:=decide_eq_true (by omega)
  have hend:=ybtg g v;have hsu:=fun i=>ybki (g:=g) (v:=v) (i:=i);have hsl:=ybsf h (v:=v) (by omega)
  have hdeg:=hg.deg_lt (v:=v);have hadj:=fun(l:Int×Int) (hl:l∈g.ports.getD v [])=>ydj hg (by omega) hl
  obtain⟨L,hL⟩:∃L,g.ports.getD v []=L:=⟨_,rfl⟩;obtain⟨d,hd⟩:∃d,L.length=d:=⟨_,rfl⟩;rw[hL,hd]at hend hdeg hsl;rw[hL]at hadj;simp only[hL,hd]at hsu;obtain⟨S,hS⟩:∃S:Nat->Int×Int,(fun i=>htS g v i)=S:=⟨_,rfl⟩;have hS':∀i,htS g v i=S i:=fun i=>by rw[<-hS]
  have hS0:S 0=(0,0):=by rw[<-hS'];rfl
  simp only[hS']at hsu hsl hend;simp only[ydbh,ydgr,ydib,ydmk,yx,yba,hn,hL,hd,t1,clash,go_sem,zA,zB,↓reduceIte,reduceCtorEq];refine⟨by omega,?_⟩
  refine ybj (σ:=Nat) (fun i=>⟨[(24,.i .i64 i),(23,.i .i64 d),(22,yba L),(6,.i .i64 (S i).1),(4,.i .i64 v),(17,.i .i64 v),(16,.i .i64 n),(15,yx g.ports),(3,.os (13,0) 0 n true),(1,.pt (1,0) 0 0)],[(13,.one (some ⟨3,false,1,n,fun j=>[.i .i64 (if j<v then htP g j else if j=v then(S i).2 else 0)]⟩)),(1,.one (some ⟨27,true,2,1,fun _=>[yw g.ids,yx g.ports]⟩))]⟩) (fun i=>i<=d) (fun i=>d-i) 0 (zO _) ?_ ?_
  ·refine yh [] [] [] ?_;simp only[yw,yx,yba,hn,hd,hS0,allQ,live,yc,ybb,zM,go_sem,zA,↓reduceIte,reduceCtorEq];intro j hj;split
   ·rfl
   ·split<;>rfl
  intro i hi
  by_cases hlti:i<d
  ·have t2:decide ((i:Int)<(d:Int))=true:=decide_eq_true (by omega)
   have hm:L.getD i (0,0)∈L:=by rw[getD_at (show i<L.length by omega)];exact zH _
   have hss:=hsu i hlti;have hb:=hsl i hi;obtain⟨l,hl⟩:∃l,L.getD i (0,0)=l:=⟨_,rfl⟩;rw[hl]at hm hss;obtain⟨a1,a2,a3,_⟩:=hadj l hm;have hR:=ybby h _ v l.1.toNat a3 (zN _);have hrb:=h.rch_le a3;rw[zAE a1]at hR;obtain⟨r,hr⟩:∃r,rchP g v l.1.toNat=r:=⟨_,rfl⟩;rw[hr]at hR hss hrb;have e1:(S (i+1)).1=max (S i).1 r:=by rw[hss];rfl
   have e2:(S (i+1)).2=max (S i).2 (min r (S i).1):=by rw[hss];rfl
   simp only[grV]at hR;have i0:(if v<v then htP g v else if v=v then(S i).2 else 0)=(S i).2:=by rw[if_neg (zAY v),if_pos rfl]
   have i1:(if v=v then(S i).2 else 0)=(S i).2:=if_pos rfl
   simp only[ycyo,ydjp,ydok,yba,hd,hl,t2,splice,clash,go_sem,zA,zB,zC,zD,↓reduceIte,reduceCtorEq];refine⟨by omega,hR.use ?_⟩
   simp only[ybh,ycvl,ycgt,ycsh,splice,clash,<-e1,<-e2,go_sem,zA,zB,↓reduceIte,reduceCtorEq];refine⟨⟨by omega,by omega⟩,by omega,⟨by omega,by omega⟩,by omega,ikw (by omega) (by omega),?_⟩
   refine yj (i+1) (by omega) (by omega) ?_
   refine yh [] [] [] ?_;simp only[yw,yx,yba,hn,allQ,live,yc,ybb,go_sem,zA,↓reduceIte,reduceCtorEq];refine⟨by omega,fun j hj=>?_⟩
   by_cases q:j=v
   ·subst q;simp only[if_pos,if_neg (zAY j)];simp only[go_sem,live,yc,go_sem,reduceCtorEq]
   ·simp only[if_neg q];simp only[go_sem,live,yc,go_sem,reduceCtorEq]
  ·obtain rfl:i=d:=by omega
   have t2:decide ((i:Int)<(i:Int))=false:=decide_eq_false (by omega)
   simp only[ycyo,ycqr,t2,clash,go_sem,zA,zB,↓reduceIte,reduceCtorEq];refine⟨ikw (by omega) (by omega),?_⟩
   refine yj (v+1) (by omega) (by omega) ?_
   refine yh [] [] [] ?_;simp only[yw,yx,yba,hn,allQ,live,yc,ybb,go_sem,zA,↓reduceIte,reduceCtorEq];refine⟨by omega,fun j hj=>?_⟩
   by_cases q:j<v
   ·rw[if_pos q,if_pos (by omega)]
   ·rw[if_neg q]
    by_cases q2:j=v
    ·rw[if_pos q2,if_pos (by omega),q2,hend]
    ·rw[if_neg q2,if_neg (by omega)]
 ·obtain rfl:v=n:=by omega
  have t1:decide ((v:Int)<(v:Int))=false:=decide_eq_false (by omega)
  simp only[ydbh,ycpk,t1,clash,go_sem,zA,zB,↓reduceIte,reduceCtorEq];rw[yjq];refine yks fun j hj=>?_;rw[gmR _ _ _ _ hj,if_pos hj]
end Sh
end
section
section
variable {g:Gr}{t u v:Nat}
end
end
section
section
variable {g:Gr}{t u v a:Nat}
end
end
section
def pkL(f:Nat->Int)(v:Nat)(s:Nat)(l:Int×Int):Nat:=if f v<f l.1.toNat then difB s (2^v)else s
def pkV(f:Nat->Int)(g:Gr)(s v:Nat):Nat:=(g.ports.getD v []).foldl (pkL f v) s
def yid(f:Nat->Int)(g:Gr):Nat:=(zF g.ports.length).foldl (pkV f g) (2^g.ports.length-1)
section
variable {g:Gr}{f:Nat->Int}
theorem ybij{v i:Nat}:∀(ls:List (Int×Int)) (s:Nat),(ls.foldl (pkL f v) s).testBit i=true↔s.testBit i=true/\(i=v->∀l∈ls,f l.1.toNat<=f v)
 |[],s=>⟨fun h=>⟨h,fun _ _ hl=>nomatch hl⟩,fun h=>h.1⟩
 | l :: ls,s=>by
   rw[zAS,ybij ls]
   have hb:(pkL f v s l).testBit i=true↔s.testBit i=true/\(i=v->f l.1.toNat<=f v):=by
    unfold pkL
    by_cases q:f v<f l.1.toNat
    ·rw[if_pos q,ygf,zAA,zAJ,zAO,decide_eq_false_iff_not];exact and_congr Iff.rfl ⟨fun h e=>absurd e.symm h,fun h e=>by have:=h e.symm;omega⟩
    ·rw[if_neg q];exact⟨fun h=>⟨h,fun _=>by omega⟩,fun h=>h.1⟩
   rw[hb];constructor
   ·rintro⟨⟨h1,h2⟩,h3⟩;refine⟨h1,fun e x hx=>?_⟩;rcases List.mem_cons.1 hx with r|r
    ·rw[r];exact h2 e
    ·exact h3 e x r
   ·rintro⟨h1,h2⟩;exact⟨⟨h1,fun e=>h2 e l zW⟩,fun e x hx=>h2 e x (zAD _ hx)⟩
theorem ybjq{i:Nat}:∀(vs:List Nat) (s:Nat),(vs.foldl (pkV f g) s).testBit i=true↔s.testBit i=true/\(i∈vs->∀l∈g.ports.getD i [],f l.1.toNat<=f i)
 |[],s=>⟨fun h=>⟨h,fun hl=>nomatch hl⟩,fun h=>h.1⟩
 | v :: vs,s=>by
   rw[zAS,ybjq vs];have hb:(pkV f g s v).testBit i=true↔s.testBit i=true/\(i=v->∀l∈g.ports.getD v [],f l.1.toNat<=f v):=ybij _ _;rw[hb];constructor
   ·rintro⟨⟨h1,h2⟩,h3⟩;refine⟨h1,fun hm=>?_⟩;rcases List.mem_cons.1 hm with r|r
    ·subst r;exact h2 rfl
    ·exact h3 r
   ·rintro⟨h1,h2⟩;exact⟨⟨h1,fun e=>by subst e;exact h2 zW⟩,fun hm=>h2 (zAD _ hm)⟩
theorem ysb(hg:ybe g){v:Nat}:(yid f g).testBit v=true↔v<g.ports.length/\∀u,adj g v u->f u<=f v:=by
 unfold yid;rw[ybjq,Nat.testBit_two_pow_sub_one,decide_eq_true_iff,zAV];constructor
 ·rintro⟨h1,h2⟩;refine⟨h1,fun u hu=>?_⟩;obtain⟨l,hl,e⟩:=yhr hu;rw[<-e];exact h2 h1 l hl
 ·rintro⟨h1,h2⟩;exact⟨h1,fun _ l hl=>h2 _ (ydj hg h1 hl).2.2.1⟩
end
end
section
namespace Sh
open Go Ev Go.RowKit
section
variable {m:Mem}{F:AM}
theorem row_of{z bk p n cp N e zz:Nat}{Tb:Ev.T Value}{L:Nat->List Value}(h1:m.b.get bk=some (.cells Tb N e zz))(h2:0<n)(h3:p+n*z<=N)(h4:∀a,a<n->(L a).length=z)(h5:∀a,a<n->∀j,j<z->Tb.get (p+a*z+j)=(L a)[j]?) :
 rowOf m z (.slice (some ⟨bk,p,none⟩) n cp)=some (ycc L n,[bk]):=by
 have hl:=ydb h4;show(bif zBB n 0 then _ else _)=_;rw[show zBB n 0=false by cases n with|zero=>omega|succ n=>rfl]
 simp only[cond_false];rw[h1];simp only;rw[zY h3];simp only[cond_true]
 have hg:=ygq (T:=Tb) (L:=ycc L n) (o:=p) (fun j hj=>by
  rw[hl]at hj;rcases zAG z with hz|hz
  ·subst hz;omega
  ·have hd:=Nat.div_add_mod j z;have hm:=Nat.mod_lt j hz;have hk:j/z<n:=Nat.div_lt_of_lt_mul (by rwa [zAZ]at hj)
   have e1:j=j/z*z+j%z:=by rw[zAZ];exact hd.symm
   rw[e1,yfo h4 _ _ hk hm,<-Nat.add_assoc];exact h5 _ hk _ hm)
 rw[hl]at hg;rw[hg]
theorem row_zero{u:Value}(h:Z0 u)(z:Nat):rowOf m z u=some ([],[]):=by
 rcases h with rfl|⟨b,o,c,rfl⟩
 ·rfl
 ·rfl
theorem in64{n:Int}(h:I64 n):inI64 n=true:=by
 unfold I64 at h;unfold inI64;split
 ·rename_i k;exact zY (by simp only[Int.ofNat_eq_natCast]at h;omega)
 ·rename_i k;exact zY (by omega)
theorem ypk{a b:Int}(ha:I64 a)(hb:I64 b):∀{l:List Value}{r:List (Int×Int)},pairsOf l=some r->pairsOf (l++[.int .i64 a,.int .i64 b])=some (r++[(a,b)])
 | [],r,h=>by
   cases h
   show(bif inI64 a&&inI64 b then _ else _)=_;rw[in64 ha,in64 hb];rfl
 | .int .i64 x :: .int .i64 y::l,r,h=>by
   unfold pairsOf at h;split at h
   ·rename_i r' hr
    rw[Bool.cond_eq_ite]at h;split at h
    ·rename_i hc
     cases h
     show(match pairsOf (l++[.int .i64 a,.int .i64 b])with|some r=>bif inI64 x&&inI64 y then some ((x,y)::r)else none|none=>none)=_
     rw[ypk ha hb hr];simp only[hc,cond_true];rfl
    ·cases h
   ·cases h
theorem ybnt(hF:Le F m.b.get){ls:List (Int×Int)}{u:Value}(h:RV F om0 (yba ls) u)(hI:∀l∈ls,I64 l.1/\I64 l.2):linksOf m u=some ls:=by
 unfold linksOf;rcases h.sl_inv with⟨h0,hz⟩|⟨bk,p,cp,T,N,e,zz,L,rfl,g1,g2,g3,g4,g5,g6,g7⟩
 ·rw[row_zero hz];have:ls=[]:=zL h0;subst this;rfl
 ·rcases zAG ls.length with h0|h0
  ·have:ls=[]:=zL h0;subst this;rfl
  ·rw[row_of (hF _ _ g1) h0 g3 g4 g5]
   have:∀n,n<=ls.length->pairsOf (ycc L n)=some (ls.take n):=by
    intro n
    induction n with
    |zero=>intro _;rfl
    | succ n ih =>
      intro hn;have hn':n<ls.length:=by omega
      have hl:=g6 n hn'
      have e1:L n=[.int .i64 ls[n].1,.int .i64 ls[n].2]:=by
       have e0:ls.getD n (0,0)=ls[n]:=by simp[zAB,hn']
       rw[e0]at hl;obtain⟨x,y,e2,hx,hy⟩:=rvl2 hl;rw[e2,hx.int_inv,hy.int_inv]
      show pairsOf (ycc L n++L n)=_;rw[e1,zG hn'];have:=hI ls[n] (zH hn');exact ypk this.1 this.2 (ih (by omega))
   simp only;rw[this _ (zN _),zZ]
theorem ybyg{α β:Type}{f:α->Option β}:∀{l:List α}{r:List β},l.length=r.length->(∀(k:Nat) x y,l[k]?=some x->r[k]?=some y->f x=some y)->mapO f l=some r
 |[],[],_,_=>rfl
 | x::l,y::r,hl,h=>by
   unfold mapO;rw[h 0 x y rfl rfl];simp only;rw[ybyg (by simpa using hl) fun k a b h1 h2=>h (k+1) a b (by simpa using h1) (by simpa using h2)]
 |[],_::_,hl,_=>by simp at hl
 |_::_,[],hl,_=>by simp at hl
theorem ybql{L:Nat->List Value}{n:Nat}(h:∀a,a<n->(L a).length=1){k:Nat}(hk:k<n):(ycc L n)[k]?=(L k)[0]?:=by
 have:=yfo h k 0 hk (by omega)
 simpa using this
theorem ybng{ids:SV}{P:List (List (Int×Int))}{u:Value}(h:RV F om0 (.rf [ids,yx P]) u)(hI:∀ls∈P,∀l∈ls,I64 l.1/\I64 l.2) :
 ∃A v us,u = .pointer (some A)/\∀m:Mem,Le F m.b.get->graphOf m A=some ⟨v,us,P⟩:=by
 obtain⟨bk,p,T,N,e,zz,L,rfl,h1,h2,h3,h4,_⟩:=h.rf_inv;cases h4 with
 | cons a0 b0 =>
   cases b0 with
   | cons a1 b1 =>
     rename_i u0 _ u1 _
     cases b1
     have hbox:∀m:Mem,Le F m.b.get->boxPorts m ⟨bk,p,none⟩=some u1:=fun m hF=>by
      unfold boxPorts;simp only;rw[hF _ _ h1];simp only;rw[show Nat.blt (p+1) N=true from zY (show p+1+1<=N by simp at h2;omega)]
      simp only[cond_true];exact h3 1 (by simp)
     have fin:∀(us:List Value) (ft:List Nat),(∀m:Mem,Le F m.b.get->rowOf m 1 u1=some (us,ft))->us.length=P.length->(∀(k:Nat) x y,us[k]?=some x->P[k]?=some y->RV F om0 (yba y) x) ->
      ∃A v us,Value.pointer (some ⟨bk,p,none⟩) = .pointer (some A)/\∀m:Mem,Le F m.b.get->graphOf m A=some ⟨v,us,P⟩:=fun us ft hr hl hx=>by
      refine⟨_,u1,us,rfl,fun m hF=>?_⟩;unfold graphOf;rw[hbox m hF];show ob (rowOf m 1 u1) _=_;rw[hr m hF];show ob (mapO (linksOf m) us) _=_;rw[ybyg hl fun k x y q1 q2=>ybnt hF (hx k x y q1 q2) (hI y (List.mem_of_getElem? q2))];rfl
     rcases a1.sl_inv with⟨k0,hz⟩|⟨bk',p',cp,T',N',e',zz',L',rfl,g1,g2,g3,g4,g5,g6,g7⟩
     ·have:P=[]:=zL k0;subst this;exact fin [] [] (fun m _=>row_zero hz 1) rfl (fun k x y q _=>by simp at q)
     ·rcases zAG P.length with h0|h0
      ·have:P=[]:=zL h0;subst this;exact fin [] [] (fun m _=>rfl) rfl (fun k x y q _=>by simp at q)
      ·refine fin (ycc L' P.length) [bk'] (fun m hF=>row_of (hF _ _ g1) h0 g3 g4 g5) (by rw[ydb g4,Nat.mul_one]) fun k x y q1 q2=>?_
       have hk:k<P.length:=(List.getElem?_eq_some_iff.1 q2).1;rw[ybql g4 hk]at q1;have hl:=g6 k hk;have e0:P.getD k []=y:=by simp[zAB,q2]
       rw[e0]at hl;obtain⟨v,e1,hv⟩:=rvl1 hl;rw[e1]at q1;cases q1
       exact hv
end
def yep(P:List (List (Int×Int)))(k:Nat):El:=(flatAt 0 P).getD k ⟨0,0,0⟩
def ybsr(P:List (List (Int×Int))):ItS:=⟨(flatAt 0 P).length,fun k=>[.i .i64 (yep P k).v,.ag [.i .i64 (yep P k).a,.i .i64 (yep P k).b]],[],fun _ _=>True,fun _ o=>o⟩
theorem ycbb{ids:SV}{P:List (List (Int×Int))}(hI:∀ls∈P,∀l∈ls,I64 l.1/\I64 l.2):ItC Tryz.prog 158 [.rf [ids,yx P]] (ybsr P):=by
 intro lo F ω s f m us hc hr _;obtain⟨u,rfl,hu⟩:=rvl1 hr
 have hu0:RV F om0 (.rf [ids,yx P]) u:=by
  obtain⟨bk,p,T,N,e,zz,L,rfl,h1,h2,h3,h4,h5⟩:=hu.rf_inv;exact .rf h1 h2 h3 h4 h5
 obtain⟨A,v,vs,rfl,hg⟩:=ybng hu0 hI;have el0:∀k,k<(flatAt 0 P).length->(flatAt 0 P)[k]?=some (yep P k):=fun k hk=>by simp[yep,zAB,hk]
 refine⟨⟨(flatAt 0 P).length,fun k=>[(yep P k).v0,(yep P k).v1],fun _ m=>graphOf m A=some ⟨v,vs,P⟩,fun _ m=>m,fun _ _ M w M' w'=>M'=M/\w'=w⟩,⟨yxv.1,fun k m hk hw _=>Grow.refl hw,?_,?_⟩,rfl,fun F' ω' s' f' m' k hF _ hc' hk _=>⟨hg m' (hF.trans hc'.sub),fun hk=>⟨.cons .i (.cons (.ag (.cons .i (.cons .i .nil))) .nil),hc'⟩⟩⟩
 ·rintro k φ M w m M' w' hk hw hR hs hp ⟨rfl,rfl⟩;exact Good.refl hR hs
 ·intro l St Stop φ M w cap' hread hgrow hyield h0 hcap;obtain⟨box,rfl,hbox⟩:=yfv hcap;refine CallsIn.mono (yxv.2 l A ⟨v,vs,P⟩ (fun pre φ' M' w'=>φ.le φ'/\(∃post,flatAt 0 P=pre++post)/\St pre.length φ' M' w') Stop φ M w box ?_ ?_ ?_ ⟨φ.le_refl,⟨_,rfl⟩,h0⟩ hbox) ?_
  ·rintro pre φ' M' w' ⟨_,_,hst⟩;exact(hread _ _ _ _ hst).2
  ·rintro pre φ' M' w' w'' ⟨h1,h2,hst⟩ hb;exact⟨h1,h2,hgrow _ _ _ _ _ hst hb⟩
  ·rintro pre x post φ' M' w' ⟨h1,_,hst⟩ hfl;have hfl:flatAt 0 P=pre++x::post:=hfl;have hk:pre.length<(flatAt 0 P).length:=by rw[hfl];simp
   have ex:yep P pre.length=x:=by
    have:=el0 _ hk;rw[hfl,List.getElem?_append_right (zN _)]at this
    simpa using this.symm
   obtain⟨fn,tmps,asg,bd,hy1,hy2⟩:=hyield pre.length φ' M' w' [x.v0,x.v1] hk hst (by
    show VRL φ' [(yep P pre.length).v0,(yep P pre.length).v1] _;rw[ex];exact .cons (.simple rfl) (.cons (VR.atomA (v:=x.v1) rfl) .nil))
   refine⟨fn,tmps,asg,bd,hy1,hy2.mono ?_⟩
   ·rintro e w'' (⟨he,φ'',M'',h3,_,h4⟩|h)
    ·refine .inl ⟨he,φ'',M'',h3,Phi.le_trans h1 h3,⟨post,by rw[hfl];simp⟩,?_⟩
     rw[zX];exact h4 M'' w'' ⟨rfl,rfl⟩
    ·exact .inr h
  ·rintro e w' ⟨h1,(⟨φ',M',_,_,hst⟩|h)⟩
   ·exact⟨h1,.inl ⟨φ',M',hst⟩⟩
   ·exact⟨h1,.inr h⟩
end Sh
end
section
namespace Sh
open Go Ev
def ycll:LO:=[o3 (.box 27 (.tmp 0)) 1 0,o3 (.mv (.const (.nilFunc))) 2 0]
def ychd:LO:=[o3 (.mkfn 158 [] [(.tmp 1)]) 3 0,mv' 3 2 1]
def c120:SC:=(.seq (.reg false ycll) (.seq (.reg false ychd) .ret))
theorem yddu:Fn 120 c120 [.t 2]:=fn_0 Tryz.func120 (by kernel_rfl) (by kernel_rfl)
end Sh
end
section
open Ev
theorem ybce:∀(ps:List (List (Int×Int))) (v:Nat) (x:El),x∈flatAt v ps->v<=x.v/\x.v<v+ps.length/\(x.a,x.b)∈ps.getD (x.v-v) []
 |[],_,_,h=>absurd h zS
 | ls::l,v,x,h=>by
   rcases List.mem_append.1 h with h|h
   ·obtain⟨y,hy,rfl⟩:=List.mem_map.1 h;refine⟨zN _,by simp,?_⟩
    simp only[zAP,List.getD_cons_zero];exact hy
   ·obtain⟨h1,h2,h3⟩:=ybce l (v+1) x h;refine⟨by omega,by simp only[zI];omega,?_⟩
    have e:x.v-v=(x.v-(v+1))+1:=by omega
    rw[e,List.getD_cons_succ];exact h3
theorem ybyo{g:Gr}{k:Nat}(hk:k<g.ports.length):flatAt 0 (g.ports.take (k+1))=flatAt 0 (g.ports.take k)++(g.ports.getD k []).map fun x=>(⟨k,x.1,x.2⟩:El):=by
 have h:=ylh (ps:=g.ports) (k:=k) (ls:=g.ports.getD k []) (by simp[zAB,hk])
 rw[<-h];unfold yga;rw[zZ]
theorem ybda{α:Type}{g:Gr}(f:α->El->α)(a:α):∀k,k<=g.ports.length->(flatAt 0 (g.ports.take k)).foldl f a=(zF k).foldl (fun a v=>(g.ports.getD v []).foldl (fun a l=>f a ⟨v,l.1,l.2⟩) a) a
 |0,_=>by simp[flatAt]
 | k+1,hk=>by
   rw[ybyo (by omega),zQ,ybda f a k (by omega),zAK,zQ,List.foldl_map]
   rfl
theorem ycdx{α:Type}{g:Gr}(f:α->El->α)(a:α):(flatAt 0 g.ports).foldl f a=(zF g.ports.length).foldl (fun a v=>(g.ports.getD v []).foldl (fun a l=>f a ⟨v,l.1,l.2⟩) a) a:=by
 have:=ybda (g:=g) f a g.ports.length (zN _)
 rwa [zZ]at this
theorem ybyl{g:Gr}(hg:ybe g){k:Nat}(hk:k<(flatAt 0 g.ports).length):(Sh.yep g.ports k).v<g.ports.length/\((Sh.yep g.ports k).a,(Sh.yep g.ports k).b)∈g.ports.getD (Sh.yep g.ports k).v []:=by
 have hm:Sh.yep g.ports k∈flatAt 0 g.ports:=by unfold Sh.yep;rw[Sh.getD_at hk];exact zH hk
 obtain⟨_,h2,h3⟩:=ybce _ _ _ hm;exact⟨by omega,by simpa using h3⟩
theorem ybyw{α:Type}{g:Gr}(f:α->El->α)(a:α){k:Nat}(hk:k<(flatAt 0 g.ports).length):((flatAt 0 g.ports).take (k+1)).foldl f a=f (((flatAt 0 g.ports).take k).foldl f a) (Sh.yep g.ports k):=by
 rw[zG hk,zQ];unfold Sh.yep;rw[Sh.getD_at hk];rfl
theorem ybqi{g:Gr}(hg:ybe g):∀ls∈g.ports,∀l∈ls,I64 l.1/\I64 l.2:=fun ls hls l hl=>by
 obtain⟨v,hv,e⟩:=zAF hls;have h24:=hg.2.1;have:g.ports.getD v []=ls:=by simp[zAB,hv,e]
 obtain⟨h1,h2,_,h4,h5⟩:=ydj hg hv (by rw[this];exact hl)
 exact⟨Sh.yft (by omega),Sh.yft (by omega)⟩
end
section
namespace Sh
open Ev Go.RowKit
theorem ybzb{g:Gr}:Returns Tryz.prog 120 [grV g] (.fn 158 [] [.rf [yw g.ids,yx g.ports]]):=by
 refine Returns.of (yddu _ _ ?_);simp only[c120,ycll,ychd,grV,clash,go_sem,zA,zB,zC,zD,↓reduceIte,reduceCtorEq];exact Sim.refl _
end Sh
end
section
def pkEl(f:Nat->Int)(s:Nat)(e:Ev.El):Nat:=if f e.v<f e.a.toNat then difB s (2^e.v)else s
theorem ybkt(f:Nat->Int)(g:Gr):(Ev.flatAt 0 g.ports).foldl (pkEl f) (2^g.ports.length-1)=yid f g:=by
 rw[ycdx];rfl
theorem ytt{g:Gr}(h:ydn g=true):yfy g=true:=by
 unfold ydn at h;rw[zAA]at h;exact h.1
theorem ybdu{g:Gr}(h:ydn g=true):ybe g:=(yfh g).1 (yky (ytt h))
namespace Sh
open Ev Go.RowKit
theorem yrk(o:Own)(n:Nat):∀l:List SV,allP (pok [] o n) l
 |[]=>trivial
 |v::l=>⟨by rw[ybed];trivial,yrk o n l⟩
theorem yhl(o:Own)(n:Nat):∀l:List SV,l.map (ydd [] o n)=l
 |[]=>rfl
 |v::l=>by rw[List.map_cons,ytw,yhl o n l]
set_option maxHeartbeats 1000000 in
theorem ybzc{g:Gr}(hg:ybe g){f:Nat->Int}{h:FuncId}{cp:List SV}(hcp4:cp.any (owned 4)=false)(hf:∀v,v<g.ports.length->Returns Tryz.prog h (.i .i64 v::cp) (.i .i64 (f v))) :
 Returns Tryz.prog 81 [grV g,.fn h [] cp] (.i .u32 (yid f g)):=by
 refine Returns.of (ydoh _ _ ?_);have hcp:=ykr hcp4;have hA:=ybph hg;have hLk:=ybzb (g:=g);have h24:=hg.2.1;have hpl:=hg.2.2.1;have hpk:=ybkt f g;rw[hpl]at hA;obtain⟨n,hn⟩:∃n,g.ports.length=n:=⟨_,rfl⟩;rw[hn]at hA h24 hpl hf hpk;obtain⟨A,hAe⟩:∃A,2^n-1=A:=⟨_,rfl⟩;have hAl:A<2^24:=by rw[<-hAe];have:2^n<=2^24:=Nat.pow_le_pow_right (by omega) h24;have:=Nat.two_pow_pos n;omega
 rw[hAe]at hA hpk;obtain⟨S,hS⟩:∃S:Nat->Nat,(fun k=>((flatAt 0 g.ports).take k).foldl (pkEl f) A)=S:=⟨_,rfl⟩;have hS0:S 0=A:=by rw[<-hS];rfl
 have hSn:S (flatAt 0 g.ports).length=yid f g:=by rw[<-hS,<-hpk];simp
 have hSs:∀k,k<(flatAt 0 g.ports).length->S (k+1)=pkEl f (S k) (yep g.ports k):=fun k hk=>by rw[<-hS];exact ybyw (pkEl f) A hk
 have hSl:∀k,k<=(flatAt 0 g.ports).length->S k<2^24:=fun k=>by
  induction k with
  |zero=>intro _;rw[hS0];exact hAl
  | succ k ih =>
    intro hk;rw[hSs k hk];unfold pkEl;split
    ·exact yzd (ih (by omega))
    ·exact ih (by omega)
 rw[<-hSn];simp only[grV]at hA hLk;simp only[c81,ydky,ydgw,ydjq,grV,clash,go_sem,zA,zB,zD,↓reduceIte,reduceCtorEq];refine hA.use ?_;simp only[ybh,splice,clash,go_sem,zA,zB,zD,↓reduceIte];refine hLk.use ?_
 refine ywz (ycbb (ybqi hg)) [(2,0),(3,0),(5,0)] (fun i (_:Unit)=>⟨[(11,.fn 158 [] [.rf [yw g.ids,yx g.ports]]),(2,.pt (2,0) 0 0),(3,.pt (3,0) 0 0),(5,.pt (5,0) 0 0)],
  [(2,.one (some ⟨27,true,2,1,fun _=>[yw g.ids,yx g.ports]⟩)),(3,.one (some ⟨90,true,1,1,fun _=>[.fn h [] cp]⟩)),(5,.one (some ⟨40,true,1,1,fun _=>[.i .u32 (S i)]⟩))]⟩) (fun i _=>i<=(flatAt 0 g.ports).length) () (zO _) ⟨fun _ h=>absurd h zS,fun _ h=>absurd h zS⟩ ?_ (fun _=>rfl) ?_ ?_ ?_
 ·refine yh [] [] [] ?_;simp only[hS0,ydw _ hcp4,ydy _ hcp4,allQ,live,yc,go_sem,zA,↓reduceIte,reduceCtorEq];intro _ _;refine⟨yrk _ _ cp,?_⟩;rw[yhl];exact Sim.refl _
 ·intro i _ hi _;refine⟨trivial,?_⟩;simp only[go_sem,allQ,go_sem,zA]
 ·intro i _ hi hlti;have hlti:i<(flatAt 0 g.ports).length:=hlti;obtain⟨e1,e2⟩:=ybyl hg hlti;have hs:=hSs i hlti;have hb:=hSl i hi;obtain⟨E,hE⟩:∃E,yep g.ports i=E:=⟨_,rfl⟩;rw[hE]at hs e1 e2;obtain⟨a1,a2,_⟩:=ydj hg e1 e2;have a1:0<=E.a:=a1;have a2:E.a.toNat<g.ports.length:=a2;have f1:=hf E.v (by omega)
  have f2:=hf E.a.toNat (by omega)
  rw[zAE a1]at f2;obtain⟨a,ha⟩:∃a,S i=a:=⟨_,rfl⟩;rw[ha]at hs hb;refine⟨_,rfl,?_⟩;simp only[ybsr];obtain⟨x,hx⟩:∃x,f E.v=x:=⟨_,rfl⟩;obtain⟨y,hy⟩:∃y,f E.a.toNat=y:=⟨_,rfl⟩;rw[hx]at f1;rw[hy]at f2;simp only[ydma,ydiy,ydlt,ha,hE,splice,hcp,clash,go_sem,zA,zB,zD,↓reduceIte,reduceCtorEq];refine f1.use ?_;simp only[ybh,hcp,clash,go_sem,zA,zB,zC,↓reduceIte,reduceCtorEq];refine f2.use ?_
  by_cases q:x<y
  ·have z1:decide (x<y)=true:=decide_eq_true q;have e:S (i+1)=difB a (2^E.v):=by rw[hs];unfold pkEl;rw[hx,hy,if_pos q]
   have sh:=yni (v:=E.v) (by omega)
   have an:=u32_andNot (a:=a) (b:=2^E.v) (by omega) (Nat.pow_lt_pow_right (by omega) (by omega))
   simp only[IntKind.bits,Int.toNat_natCast]at sh an;simp only[ydkk,splice,z1,sh,an,clash,go_sem,zA,zB,↓reduceIte,reduceCtorEq]
   repeat (first|refine⟨by omega,?_⟩|refine⟨by decide,?_⟩)
   refine ycx [] [] [] ?_;simp only[e,ydw _ hcp4,ydy _ hcp4,allQ,live,yc,go_sem,zA,↓reduceIte,reduceCtorEq];intro _ _;refine⟨yrk _ _ cp,?_⟩;rw[yhl];exact Sim.refl _
  ·have z1:decide (x<y)=false:=decide_eq_false q;have e:S (i+1)=a:=by rw[hs];unfold pkEl;rw[hx,hy,if_neg q]
   simp only[z1,go_sem,↓reduceIte]
   repeat (first|refine⟨by omega,?_⟩|refine⟨by decide,?_⟩)
   refine ycx [] [] [] ?_;simp only[e,ydw _ hcp4,ydy _ hcp4,allQ,live,yc,go_sem,zA,↓reduceIte,reduceCtorEq];intro _ _;refine⟨yrk _ _ cp,?_⟩;rw[yhl];exact Sim.refl _
 ·intro _ _;simp only[ydig,ybsr,clash,go_sem,zA,zB,↓reduceIte,reduceCtorEq];exact Sim.refl _
end Sh
end
section
abbrev Ptr:=Nat->Option Nat
def Mt(p:Ptr)(x:Nat):Prop:=∃y,p x=some y/\p y=some x
inductive Mv (g:Gr) (p:Ptr) (v:Nat):Option Nat->Prop
 |accept (u:Nat):p v=none->adj g v u->p u=some v->Mv g p v (some u)
 |propose (u:Nat):p v=none->adj g v u->p u=none->(∀x,adj g v x->p x≠some v)->Mv g p v (some u)
 |withdraw (u w:Nat):p v=some u->p u=some w->w≠v->Mv g p v none
structure PtI(g:Gr)(p:Ptr)(I:Nat->Prop):Prop where
 nb:∀v u,p v=some u->adj g v u
 fresh:∀v u,p v=some u->¬I v->p u=none\/p u=some v\/Mt p u
open Classical in
noncomputable def lv(A B C:Prop):Nat:=if A then 0 else if B then 1 else if C then 0 else 2
noncomputable def lft(p:Ptr)(I:Nat->Prop)(u v:Nat):Nat:=lv (p u=some v/\p v=some u) ((p u=some v/\¬I u)\/(p v=some u/\¬I v)) (Mt p u\/Mt p v)
section
variable {g:Gr}{p:Ptr}{I:Nat->Prop}{v:Nat}{t:Option Nat}
end
end
section
section
variable {g:Gr}{p:Ptr}{I:Nat->Prop}{v:Nat}{t:Option Nat}
end
open Classical in
noncomputable def oldN(g:Gr)(p:Ptr)(I:Nat->Prop):Nat:=((zF g.ports.length).map fun x=>if I x/\p x≠none then 1 else 0).sum
open Classical in
noncomputable def lftN(g:Gr)(p:Ptr)(I:Nat->Prop):Nat:=((zF g.ports.length).map fun x=>((g.ports.getD x []).map fun l=>lft p I x l.1.toNat).sum).sum
open Classical in
end
section
section
variable {g:Gr}{p:Ptr}{I:Nat->Prop}{v w:Nat}{t t':Option Nat}
noncomputable def potN(g:Gr)(p:Ptr)(I:Nat->Prop):Nat:=2*oldN g p I+lftN g p I
open Classical in
end
end
section
def ycnc:Ex:=.bin 35 (eQ 0) (.leaf 17 0)
def ycvv:Ex:=.bin 35 (eQ 0) ybxh
def ydof:Ex:=.bin 41 (.bin 41 (.bin 35 (.leaf 11 0) (eVar 0)) (.bin 36 (eQ 0) ybxh)) (.bin 36 (eQ 0) (.leaf 17 0))
def ydnd(nm p a b w:ByteArray):ProgT:=⟨nm,[⟨p,3,0,0,0,0⟩],[⟨a,.bin 41 (.bin 35 (eVar 0) ybxh) (.agg 21 ycnc),[(0,.agg 23 ycnc)]⟩,⟨b,.bin 41 (.bin 35 (eVar 0) ybxh) (.agg 21 ycvv),[(0,.agg 23 ycvv)]⟩,⟨w,.agg 21 ydof,[(0,ybxh)]⟩]⟩
def pAt(c:Conf)(v:Nat):Int:=(c.getD v []).getD 0 0
def toP(g:Gr)(c:Conf):Ptr:=fun v=>if v<g.ports.length/\0<=pAt c v then some ((g.ports.getD v []).getD (pAt c v).toNat (0,0)).1.toNat else none
structure MtC(g:Gr)(c:Conf):Prop where
 len:c.length=g.ids.length
 row:∀v,v<g.ids.length->(c.getD v []).length=1/\(-1<=pAt c v/\pAt c v<(g.ports.getD v []).length)
section
variable {nm np na nb nw:ByteArray}{g:Gr}{c:Conf}{u v s:Nat}
end
end
section
theorem ybai{α:Type}[DecidableEq α]:∀{l1 l2:List α},l1.Nodup->(∀x∈l1,x∈l2)->l1.length<=l2.length
 |[],_,_,_=>zO _
 | a::t,l2,hn,hs=>by
   have hn:=List.nodup_cons.1 hn;have h1:=hs a zW;have:=ybai (l1:=t) (l2:=l2.erase a) hn.2 fun y hy=>(List.mem_erase_of_ne fun e=>hn.1 (by rw[<-e];exact hy)).2 (hs y (zAD _ hy))
   rw[List.length_erase_of_mem h1]at this;have:=zAL h1;simp only[zI];omega
def kcEx:Ex:=.agg 21 (.bin 35 (eQ 0) (eVar 0))
def ybzz(nm c r:ByteArray):ProgT:=⟨nm,[⟨c,1,0,0,1,0⟩],[⟨r,kcEx,[(0,.agg 27 (eQ 0))]⟩]⟩
def yccl(c:Conf)(v:Nat):Int:=(c.getD v []).getD 0 0
def ydqf(g:Gr)(c:Conf)(v:Nat):Prop:=∃u,adj g v u/\yccl c u=yccl c v
structure KcC(g:Gr)(c:Conf):Prop where
 len:c.length=g.ids.length
 row:∀v,v<g.ids.length->(c.getD v []).length=1/\(0<=yccl c v/\yccl c v<=g.ids.length)
section
variable {nm nc nr:ByteArray}{g:Gr}{c:Conf}{u v s:Nat}
def kcR(g:Gr)(r v:Nat)(c:Conf):Prop:=1<=r->¬ydqf g c v
structure KcJ(nm nc nr:ByteArray)(g:Gr)(c:Conf)(k:Cnt):Prop where
 inv:RInvC (ybu (ybzz nm nc nr) g) (fun c=>yeq (ybzz nm nc nr) g c=true) (kcR g) c k
 moves:k.moves+popP (ybm (ybzz nm nc nr) g c)<=g.ids.length
end
end
section
def yli(ls:List (Int×Int))(b:Int):Bool:=ls.any fun l=>decide (l.1=b)
namespace Sh
open Ev Go.RowKit
theorem ybms{ids:List Int}{ports:List (List (Int×Int))}{a b:Nat}(ha:a<ports.length)(hl:(ports.getD a []).length<=100000) :
 Returns Tryz.prog 128 [.ag [yw ids,yx ports],.i .i64 a,.i .i64 b] (.b (yli (ports.getD a []) b)):=by
 refine Returns.of (yczi _ _ ?_);obtain⟨n,hn⟩:∃n,ports.length=n:=⟨_,rfl⟩;obtain⟨L,hL⟩:∃L,ports.getD a []=L:=⟨_,rfl⟩;rw[hL]at hl ⊢;obtain⟨m,hm⟩:∃m,L.length=m:=⟨_,rfl⟩;simp only[c128,yctx,yctk,go_sem,zB,zD,↓reduceIte];refine ybj (σ:=Nat) (fun k=>⟨[(7,.i .i64 k),(3,.pt (3,0) 0 0),(1,.i .i64 a),(2,.i .i64 b)],[(3,.one (some ⟨27,true,2,1,fun _=>[yw ids,yx ports]⟩))]⟩) (fun k=>k<=m/\∀j,j<k->(L.getD j (0,0)).1≠b) (fun k=>m-k) 0 ⟨zO _,fun j hj=>absurd hj (zV j)⟩ ?_ ?_
 ·refine yh [] [] [] ?_;simp only[go_sem,allQ,live,yc,zM,go_sem,zA,↓reduceIte,reduceCtorEq]
 ·rintro k ⟨hk,hno⟩;simp only[ycrb,ycse,ycpp,ycth,ycrf,yx,yba,hn,hL,hm,go_sem,zA,zB,zC,↓reduceIte,reduceCtorEq];refine⟨⟨by omega,by omega⟩,fun hlt=>⟨⟨by omega,by omega⟩,⟨by omega,by omega⟩,fun he=>?_,fun hne=>⟨ikw (by omega) (by omega),?_⟩⟩,fun hge=>?_⟩
  ·have hk':k<L.length:=by omega
   have:yli L b=true:=List.any_eq_true.2 ⟨L[k],zH _,by rw[getD_at hk']at he;exact decide_eq_true he⟩
   rw[this];exact Sim.refl _
  ·refine yj (k+1) ⟨by omega,fun j hj=>?_⟩ (by omega) ?_
   ·by_cases q:j=k
    ·rw[q];exact hne
    ·exact hno j (by omega)
   refine yh [] [] [] ?_;simp only[allQ,live,yc,ybb,go_sem,zA,↓reduceIte,reduceCtorEq];omega
  ·have:yli L b=false:=List.any_eq_false.2 fun l hl he=>by
    obtain⟨j,hj,rfl⟩:=zAF hl;have:=hno j (by omega)
    rw[getD_at hj]at this;exact this (of_decide_eq_true he)
   rw[this];exact Sim.refl _
end Sh
end
section
structure NetR where
 n:Int
 links:List Int
 weights:List Int
 ids:List Int
 apart:Bool
 back:Bool
def NetR.ok(x:NetR):Prop:=Sh.inK .i64 x.n/\(∀k,Sh.inK .i64 (x.links.getD k 0))/\(∀k,Sh.inK .i64 (x.weights.getD k 0))/\(∀k,Sh.inK .i64 (x.ids.getD k 0))
theorem ybgc(a r:Nat)(hr:r<=256):((zF r).map fun i=>(((a+i)%256:Nat):Int)).Nodup:=by
 unfold List.Nodup;rw[List.pairwise_map];refine List.Pairwise.imp_of_mem (R:=(· < ·)) (fun {i j} hi hj h=>?_) List.pairwise_lt_range;have hi:=List.mem_range.1 hi;have hj:=List.mem_range.1 hj;intro e;omega
theorem ybii{a r:Nat}{l:List Int}(hr:r<=256)(h:∀i,i<r->(((a+i)%256:Nat):Int)∈l):r<=l.length:=by
 have:=List.Nodup.length_le_of_subset (ybgc a r hr) (l₂:=l) fun x hx=>by
  obtain⟨i,hi,rfl⟩:=List.mem_map.1 hx;exact h i (List.mem_range.1 hi)
 simpa using this
namespace Sh
open Ev Go.RowKit
def netC(x:NetR):List SV:=[.i .i64 x.n,yw x.links,yw x.weights,yw x.ids,.b x.apart,.b x.back]
theorem wrap64_in(z:Int):inK .i64 (IntKind.wrap .i64 z):=by
 unfold inK;have e1:IntKind.i64.min = -9223372036854775808:=rfl;have e2:IntKind.i64.max=9223372036854775807:=rfl;have h1:=Int.emod_nonneg z (show(18446744073709551616:Int)≠0 by decide)
 have h2:=Int.emod_lt_of_pos z (show(0:Int)<18446744073709551616 by decide)
 rw[e1,e2]
 have e:IntKind.wrap .i64 z=if z%18446744073709551616>=9223372036854775808 then z%18446744073709551616-18446744073709551616 else z%18446744073709551616:=by
  show(if (true&&decide (z%18446744073709551616>=9223372036854775808))=true then z%18446744073709551616-18446744073709551616 else z%18446744073709551616)=_
  simp only[zAH,decide_eq_true_eq]
 rw[e];split<;>omega
theorem ycdk{x:NetR}(hx:x.ok){most:Nat}(hm:1<=most/\most<=24) :
 Cm Tryz.prog 75 [] [] [.ag (netC x),.i .i64 most] fun r o=>∃ids:List Int,(1<=ids.length/\ids.length<=most)/\(∀y∈ids,0<=y/\y<=255)/\ids.Nodup/\r = .ag [yw ids,.os (17,0) 0 ids.length true] /\
  o=[(17,.one (some ⟨71,false,1,ids.length,fun _=>[.a (.slice none 0 0)]⟩))]:=by
 refine yder [] [] _ _ _ ?_;obtain⟨hx1,hx2,hx3,hx4⟩:=hx;have hin:=yfg (v:=IntKind.wrap .i64 (x.n-1)) (m:=(most:Int)) (by omega)
 obtain⟨k,hk⟩:∃k:Nat,yek (IntKind.wrap .i64 (x.n-1)) most=k:=zAC hin.1;have hW:=yff (IntKind.wrap .i64 (x.n-1)) most (by omega) (wrap64_in _)
 rw[hk]at hW hin;obtain⟨n,hn⟩:∃n:Nat,(1:Int)+(k:Int)=(n:Int):=⟨1+k,by omega⟩
 have hn1:1<=n/\n<=most:=by omega
 simp only[c75,ydgd,ydli,netC,go_sem,zA,zB,zC,zD,↓reduceIte,reduceCtorEq];refine hW.use ?_;simp only[ybh,ydmn,ydgp,hn,clash,go_sem,zA,zB,zD,↓reduceIte,reduceCtorEq];refine⟨ikw (by omega) (by omega),⟨by omega,by omega,by omega⟩,?_⟩
 refine ybj (σ:=List Int) (fun l=>⟨[(7,.i .i64 l.length),(5,.i .i64 n),(2,.pt (2,0) 0 0),(6,.pt (6,0) 0 0),(4,.pt (4,0) 0 0)],
  [(2,.one (some ⟨24,true,6,1,fun _=>netC x⟩)),(4,.one (some ⟨27,true,2,1,fun _=>[.a (.slice none 0 0),.a (.slice none 0 0)]⟩)),
   (6,.one (some ⟨27,true,2,1,fun _=>[.os (148,0) 0 l.length true,.os (17,0) 0 n true]⟩)),(17,.one (some ⟨71,false,1,n,fun _=>[.a (.slice none 0 0)]⟩)),
   (148,.one (some ⟨3,false,1,l.length,fun k=>[.i .i64 (l.getD k 0)]⟩))]⟩)
  (fun l=>l.length<=n/\(∀y∈l,0<=y/\y<=255)/\l.Nodup) (fun l=>n-l.length) [] ⟨zO _,fun y hy=>(zS hy).elim,List.nodup_nil⟩ ?_ ?_
 ·refine yh [] [148] [] ?_;simp only[netC,allQ,live,yc,zM,go_sem,zA,zK,↓reduceIte,reduceCtorEq];exact fun i _=>⟨(148,0),rfl,rfl,rfl⟩
 ·rintro l ⟨hl,hl2,hl3⟩;obtain⟨v,hv⟩:∃v,l.length=v:=⟨_,rfl⟩;rw[hv]at hl;have hA:=at_ret x.ids v;have hi2:=yfg (v:=atP x.ids v) (m:=256) (by omega)
  obtain⟨a,ha⟩:∃a:Nat,yek (atP x.ids v) 256=a:=zAC hi2.1;have hW2:=yff (atP x.ids v) 256 (by omega) (hx4 v)
  rw[ha]at hW2 hi2;simp only[ydhf,ydiz,ydge,ycmd,netC,hv,splice,clash,go_sem,zA,zB,zC,↓reduceIte,reduceCtorEq];refine⟨fun hlt=>?_,fun hge=>?_⟩
  ·refine hA.use ?_;simp only[ybh,clash,go_sem,zA,zB,↓reduceIte,reduceCtorEq];refine hW2.use ?_
   refine ybj (σ:=Nat×Nat) (fun q=>⟨[(9,.i .i64 q.2),(8,.i .i64 ((a+q.1)%256:Nat)),(7,.i .i64 v),(5,.i .i64 n),(2,.pt (2,0) 0 0),(6,.pt (6,0) 0 0),(4,.pt (4,0) 0 0)],
    [(2,.one (some ⟨24,true,6,1,fun _=>netC x⟩)),(4,.one (some ⟨27,true,2,1,fun _=>[.a (.slice none 0 0),.a (.slice none 0 0)]⟩)),
     (6,.one (some ⟨27,true,2,1,fun _=>[.os (148,0) 0 v true,.os (17,0) 0 n true]⟩)),(17,.one (some ⟨71,false,1,n,fun _=>[.a (.slice none 0 0)]⟩)),
     (148,.one (some ⟨3,false,1,v,fun k=>[.i .i64 (l.getD k 0)]⟩))]⟩)
    (fun q=>q.2<=v/\(∀i,i<q.1->(((a+i)%256:Nat):Int)∈l)/\q.1<=256/\∀j,j<q.2->l.getD j 0≠(((a+q.1)%256:Nat):Int)) (fun q=>(v-q.1)*(v+2)+(v-q.2)) (0,0) ⟨zO _,fun i hi=>absurd hi (zV i),by omega,fun j hj=>absurd hj (zV j)⟩ ?_ ?_
   ·refine yh [] [] [] ?_;simp only[netC,allQ,live,yc,ybb,zM,go_sem,zA,↓reduceIte,reduceCtorEq];rw[Nat.mod_eq_of_lt (by omega)]
   ·rintro⟨r,u⟩ ⟨hu,hr,hr256,hno⟩;obtain⟨b,hb⟩:∃b,(a+r)%256=b:=⟨_,rfl⟩;have hb256:b<256:=by omega
    simp only[ydol,ydkz,ycuo,yctv,ycsi,ydnr,netC,hb,splice,clash,go_sem,zA,zB,zC,zD,↓reduceIte,reduceCtorEq];have hu:u<=v:=hu;have hr:∀i,i<r->(((a+i)%256:Nat):Int)∈l:=hr;have hr256:r<=256:=hr256;have hno:∀j,j<u->l.getD j 0≠(b:Int):=fun j hj=>by rw[<-hb];exact hno j hj
    have hrv:r<=v:=by rw[<-hv];exact ybii hr256 hr
    refine⟨fun hlt2=>⟨⟨by omega,by omega⟩,by omega,fun he=>⟨ikw (by omega) (by omega),by decide,ikw (by omega) (by omega),?_⟩,fun hne=>⟨ikw (by omega) (by omega),?_⟩⟩,fun hge2=>?_⟩
    ·have hmem:(b:Int)∈l:=by
      rw[<-he,getD_at (show u<l.length by omega)]
      exact zH _
     have hr':∀i,i<r+1->(((a+i)%256:Nat):Int)∈l:=fun i hi=>by
      by_cases q:i=r
      ·rw[q,hb];exact hmem
      ·exact hr i (by omega)
     have hrv':r+1<=v:=by rw[<-hv];exact ybii (by omega) hr'
     refine yj (r+1,0) ⟨zO _,hr',by show r+1<=256;omega,fun j hj=>absurd hj (zV j)⟩ ?_ ?_
     ·show(v-(r+1))*(v+2)+(v-0)<(v-r)*(v+2)+(v-u);obtain⟨m,hm⟩:∃m,v-r=m+1:=⟨v-r-1,by omega⟩
      rw[show v-(r+1)=m by omega,hm,Nat.succ_mul]
      generalize m*(v+2)=z
      omega
     ·refine yh [] [] [] ?_;simp only[allQ,live,yc,ybb,zM,go_sem,zA,↓reduceIte,reduceCtorEq];refine⟨by omega,?_⟩
      rw[Int.tmod_eq_emod_of_nonneg (by omega)]
      omega
    ·refine yj (r,u+1) ⟨by show u+1<=v;omega,hr,hr256,fun j hj=>?_⟩ ?_ ?_
     ·show l.getD j 0≠(((a+r)%256:Nat):Int);rw[hb]
      by_cases q:j=u
      ·rw[q];exact hne
      ·exact hno j (by have:j<u+1:=hj;omega)
     ·show(v-r)*(v+2)+(v-(u+1))<(v-r)*(v+2)+(v-u)
      generalize (v-r)*(v+2)=z
      omega
     ·refine yh [] [] [] ?_;simp only[hb,allQ,live,yc,ybb,go_sem,zA,↓reduceIte,reduceCtorEq];omega
    ·obtain rfl:u=v:=by omega
     refine⟨⟨by omega,by omega⟩,ikw (by omega) (by omega),?_⟩
     have hno':(b:Int)∉l:=fun hm=>by
      obtain⟨j,hj,e⟩:=zAF hm;exact hno j (by omega) (by rw[getD_at hj,e])
     refine yj (l++[(b:Int)]) ⟨by rw[zX,zAM];omega,fun y hy=>?_,?_⟩ (by rw[zX,zAM];omega) ?_
     ·rcases List.mem_append.1 hy with hy|hy
      ·exact hl2 y hy
      ·rw[List.mem_singleton.1 hy];omega
     ·rw[List.nodup_append];exact⟨hl3,by simp,fun y hy z hz=>by rw[List.mem_singleton.1 hz];exact fun e=>hno' (e▸hy)⟩
     refine yh [(148,fun i=>(48,i))] [] [] ?_;simp only[zX,hv,allQ,live,yc,ybb,go_sem,zA,↓reduceIte,reduceCtorEq];refine⟨by omega,fun i hi=>?_⟩
     rw[yta,hv]
     by_cases q:i<u
     ·simp only[if_pos q];simp only[live,yc,go_sem,reduceCtorEq]
     ·obtain rfl:i=u:=by omega
      simp only[if_neg q,zAP];simp only[live,yc,go_sem,↓reduceIte,reduceCtorEq]
  ·obtain rfl:v=n:=by omega
   simp only[yha,go_sem];refine⟨.ag [yw l,.os (17,0) 0 v true],[(17,.one (some ⟨71,false,1,v,fun _=>[.a (.slice none 0 0)]⟩))],?_,?_,l,by rw[hv];exact hn1,hl2,hl3,by rw[hv],by rw[hv]⟩
   ·refine yh [] [] [(148,0)] ?_;simp only[yw,hv,allQ,live,yc,go_sem,zA,↓reduceIte,reduceCtorEq]
   ·simp only[ycz,ygc,allQ,live,go_sem,↓reduceIte]
end Sh
end
section
def yio(back:Bool)(g:Gr)(a b:Nat)(w:Int):Gr:=if a=b\/yli (g.ports.getD a []) b=true then g else ycd back g a b w
namespace Sh
open Ev Go.RowKit
def rowO(l:List (Int×Int)):OB:=⟨95,false,2,l.length,fun k=>[.i .i64 (l.getD k (0,0)).1,.i .i64 (l.getD k (0,0)).2]⟩
def yge(ports:List (List (Int×Int))):Own:=[(211,.one (some ⟨71,false,1,ports.length,fun v=>[.os (212,v) 0 (ports.getD v []).length true]⟩)),
 (212,.many fun v=>if v<ports.length then some (rowO (ports.getD v []))else none)]
def yuc(g:Gr):SV:=.ag [yw g.ids,.os (211,0) 0 g.ports.length true]
theorem yiu{i n:Nat}{x b:OB}(h:(if i<n then some x else none)=some b):i<n/\b=x:=by
 split at h
 ·cases h;exact⟨by assumption,rfl⟩
 ·cases h
theorem ybw(back:Bool)(L:List (Int×Int))(x:Int×Int):(addL back L x).length=L.length+1:=by
 unfold addL;cases back<;>simp
theorem ybbv(L:List (Int×Int))(x:Int×Int){k:Nat}(hk:k<L.length+1):(if k<L.length then[SV.i .i64 (L.getD k (0,0)).1,SV.i .i64 (L.getD k (0,0)).2]else zAW 2 (zAX ((k-L.length)*2) [SV.i .i64 x.1,SV.i .i64 x.2]))=[SV.i .i64 ((addL false L x).getD k (0,0)).1,SV.i .i64 ((addL false L x).getD k (0,0)).2]:=by
 show _=[SV.i .i64 ((L++[x]).getD k (0,0)).1,SV.i .i64 ((L++[x]).getD k (0,0)).2];rw[yta]
 by_cases h:k<L.length
 ·rw[if_pos h,if_pos h]
 ·obtain rfl:k=L.length:=by omega
  rw[if_neg h,if_neg h,if_pos rfl,zAP];rfl
theorem ymj(L:List (Int×Int))(x:Int×Int)(k:Nat):(if k<1 then zAW 2 (zAX (k*2) [SV.i .i64 x.1,SV.i .i64 x.2])else[SV.i .i64 (L.getD (k-1) (0,0)).1,SV.i .i64 (L.getD (k-1) (0,0)).2])=[SV.i .i64 ((addL true L x).getD k (0,0)).1,SV.i .i64 ((addL true L x).getD k (0,0)).2]:=by
 show _=[SV.i .i64 ((x::L).getD k (0,0)).1,SV.i .i64 ((x::L).getD k (0,0)).2];cases k with
 |zero=>rfl
 |succ k=>rw[if_neg (by omega)];rfl
theorem cells_one(L:List (Int×Int))(h:L.length=0)(x:Int×Int){k:Nat}(hk:k<1):zAW 2 (zAX (k*2) [SV.i .i64 x.1,SV.i .i64 x.2])=[SV.i .i64 ((addL true L x).getD k (0,0)).1,SV.i .i64 ((addL true L x).getD k (0,0)).2]:=by
 obtain rfl:k=0:=by omega
 rfl
theorem yii {n:Nat}{o:Own}{P':List (List (Int×Int))}(hl:P'.length=n) (A:Nat->Nm) {R:Nat->List SV}(h11:lookO o (211,0)=some ⟨71,false,1,n,R⟩) (hR:∀v,v<n->R v=[.os (A v) 0 (P'.getD v []).length true])
 (hA:∀v,v<n->∃q,lookO o (A v)=some ⟨95,false,2,(P'.getD v []).length,q⟩/\∀k,k<(P'.getD v []).length->q k=[.i .i64 ((P'.getD v []).getD k (0,0)).1,.i .i64 ((P'.getD v []).getD k (0,0)).2])
 (hi:∀u v,u<n->v<n->A u=A v->u=v) (h0:∀v,v<n->A v≠(211,0)) :
 ∃r o',Weak [(211,0)] ⟨[(0,.tp [])],o⟩ ⟨[(0,r)],o'⟩/\(cln (live o') 5 r=true/\allQ (fun p=>ycz (live o') p.2) o'/\allQ (fun β=>live o' β=true) [(211,0)])/\r = .tp []/\o'=yge P':=by
 subst hl
 have hsome:∀i,(if i<P'.length then some (rowO (P'.getD i []))else none).isSome=true->i<P'.length:=fun i h=>by
  by_cases q:i<P'.length
  ·exact q
  ·rw[if_neg q]at h;cases h
 have hlive:∀i,i<P'.length->live (yge P') (212,i)=true:=fun i hi=>by
  show(if i<P'.length then some (rowO (P'.getD i []))else none).isSome=true
  rw[if_pos hi];rfl
 refine⟨.tp [],yge P',ybgq [(212,A)] [] [] trivial ⟨.inr ⟨.inr fun e=>⟨rfl,rfl⟩,.inr fun j hj e=>?_,trivial⟩,.inr ⟨.inr fun i hi' e=>?_,.inr fun i hi' j hj e=>⟨rfl,?_⟩,trivial⟩,trivial⟩ ⟨?_,trivial⟩ ⟨?_,fun i b hb=>?_,trivial⟩ ⟨⟨rfl,rfl,rfl⟩,trivial⟩,⟨rfl,⟨?_,?_,trivial⟩,rfl,trivial⟩,rfl,rfl⟩
 ·exact absurd e.symm (h0 j (hsome j hj))
 ·exact absurd e (h0 i (hsome i hi'))
 ·exact hi i j (hsome i hi') (hsome j hj) e
 ·exact⟨_,rfl,.inl ⟨trivial,Sim.refl _,rfl⟩⟩
 ·refine⟨_,h11,⟨rfl,rfl,rfl,rfl,rfl⟩,fun i hi'=>?_⟩;have hi':i<P'.length:=hi';show telL _ _ _ _ _ (R i) _;rw[hR i hi'];refine⟨.inl ⟨by simp only[go_sem],Sim.refl _,?_⟩,rfl,trivial⟩
  show(live (yge P') (212,i) && !(List.elem 212 []))=true;rw[hlive i hi'];rfl
 ·obtain⟨hi',rfl⟩:=yiu hb;obtain⟨q,q1,q2⟩:=hA i hi';refine⟨_,q1,⟨rfl,rfl,rfl,rfl,rfl⟩,fun k hk=>?_⟩;show telL _ _ _ _ _ (q k) _;rw[q2 k hk];exact⟨.inl ⟨trivial,Sim.refl _,rfl⟩,rfl,.inl ⟨trivial,Sim.refl _,rfl⟩,rfl,trivial⟩
 ·intro k hk;have:live (yge P') (212,k)=true:=hlive k hk;simp only[yge,List.all_cons,List.all_nil,Bool.and_true]at this ⊢;exact this
 ·intro i b hb k hk;obtain⟨hi',rfl⟩:=yiu hb;rfl
section
variable {x:NetR}{g:Gr}{a b:Nat}{w:Int}
theorem yczb (ha:a<g.ports.length)(hb:b<g.ports.length)(hn:g.ports.length<=24)(hd:∀v,(g.ports.getD v []).length<=1000) :
 Cm Tryz.prog 76 [(211,0)] (yge g.ports) [.ag (netC x),yuc g,.i .i64 a,.i .i64 b,.i .i64 w] fun r o=>r = .tp []/\o=yge (yio x.back g a b w).ports:=by
 refine ycyw [(211,0)] [] _ _ _ ?_;obtain⟨O2,hO2⟩:∃O,yge (yio x.back g a b w).ports=O:=⟨_,rfl⟩;rw[hO2]
 by_cases hab:a=b
 ·subst hab;have hP:yio x.back g a a w=g:=if_pos (.inl rfl);rw[hP]at hO2;simp only[c76,ydas,yczx,netC,yuc,yge,yha,go_sem,zA,zB,zD,↓reduceIte,reduceCtorEq];subst hO2;exact yii rfl (fun v=>(212,v)) rfl (fun v hv=>rfl) (fun v hv=>⟨_,if_pos hv,fun k hk=>rfl⟩) (fun u v _ _ e=>congrArg Prod.snd e) (fun v _ e=>by cases e)
 ·have hne:((a:Int)==(b:Int))=false:=by rw[beq_eq_false_iff_ne];omega
  have hL:=ybms (ids:=g.ids) (ports:=g.ports) (b:=b) ha (by have:=hd a;omega)
  simp only[c76,ydas,yczx,netC,yuc,yge,hne,clash,go_sem,zA,zB,zD,↓reduceIte,reduceCtorEq];refine .inl ⟨fun q hq=>by rw[if_pos hq];exact⟨zN _,fun k hk=>by simp only[rowO,go_sem]⟩,hL.useS ?_ ?_⟩
  ·refine⟨yub ⟨Sim.refl _,?_,trivial⟩,Sim.refl _,Sim.refl _,trivial⟩;refine yiv fun q hq=>?_;rw[if_pos hq];simp only[rowO,yba,go_sem];exact⟨Sim.refl _,trivial⟩
  cases hlk:yli (g.ports.getD a []) b with
  | true =>
    have hP:yio x.back g a b w=g:=if_pos (.inr hlk);rw[hP]at hO2;simp only[ybh,clash,yha,go_sem,zA,zB,↓reduceIte];subst hO2;exact yii rfl (fun v=>(212,v)) rfl (fun v hv=>rfl) (fun v hv=>⟨_,if_pos hv,fun k hk=>rfl⟩) (fun u v _ _ e=>congrArg Prod.snd e) (fun v _ e=>by cases e)
  | false =>
    have hP:yio x.back g a b w=ycd x.back g a b w:=if_neg (fun q=>by rcases q with q|q;exact hab q;rw[hlk]at q;cases q)
    rw[hP]at hO2;subst hO2;have hba:¬b=a:=fun e=>hab e.symm;have hlen:(ycd x.back g a b w).ports.length=g.ports.length:=by simp[ycd]
    have hat:=ydt x.back g w ha hb;obtain⟨G',hG'⟩:∃G,(ycd x.back g a b w).ports=G:=⟨_,rfl⟩;rw[hG']at hlen ⊢;have hat:∀v,G'.getD v []=if v=b then addL x.back (g.ports.getD b []) (a,w)else if v=a then addL x.back (g.ports.getD a []) (b,w)else g.ports.getD v []:=fun v=>by rw[<-hG'];exact hat v
    clear hG' hP
    obtain⟨x1,x2,x3,x4,x5,back⟩:=x;have hda:=hd a;have hdb:=hd b;cases back with
    | false =>
      simp only[ybh,clash,yblx,ybni,ydnn,rowO,if_pos ha,if_pos hb,hab,hba,yha,and_false,go_sem,zA,zB,zC,zD,↓reduceIte,reduceCtorEq];refine⟨⟨by omega,by omega⟩,by omega,⟨by omega,by omega⟩,by decide,⟨by omega,by omega⟩,by omega,⟨by omega,by omega⟩,by decide,⟨by omega,by omega⟩,by omega,by decide,⟨by omega,by omega⟩,by omega,by decide,?_⟩
      refine yii hlen (fun v=>if v=b then(74,0)else if v=a then(66,0)else(212,v)) rfl (fun v hv=>?_) (fun v hv=>?_) (fun u v _ _ e=>?_) (fun v _ e=>?_)
      ·rw[hat v]
       by_cases q:v=b
       ·simp only[if_pos q,ybw]
       ·by_cases q2:v=a
        ·simp only[if_neg q,if_pos q2,ybw]
        ·simp only[if_neg q,if_neg q2]
      ·rw[hat v]
       by_cases q:v=b
       ·simp only[if_pos q,ybw];exact⟨_,rfl,fun k hk=>ybbv _ (_,_) hk⟩
       ·by_cases q2:v=a
        ·simp only[if_neg q,if_pos q2,ybw];exact⟨_,rfl,fun k hk=>ybbv _ (_,_) hk⟩
        ·simp only[if_neg q,if_neg q2];refine⟨fun k=>[.i .i64 ((g.ports.getD v []).getD k (0,0)).1,.i .i64 ((g.ports.getD v []).getD k (0,0)).2],?_,fun k hk=>rfl⟩;show(if v=b then none else if v=a then none else if v<g.ports.length then some _ else none)=some _
         rw[if_neg q,if_neg q2,if_pos hv]
      ·by_cases q:u=b<;>by_cases q2:u=a<;>by_cases q3:v=b<;>by_cases q4:v=a<;>simp[q,q2,q3,q4,hab]at e ⊢<;>omega
      ·by_cases q:v=b<;>by_cases q2:v=a<;>simp[q,q2,hab]at e
    | true =>
      by_cases hza:(g.ports.getD a []).length=0
      ·by_cases hzb:(g.ports.getD b []).length=0
       ·simp only[ybh,clash,yblx,ybni,ybxb,ybzq,rowO,if_pos ha,if_pos hb,hba,yha,and_false,hza,hzb,go_sem,zA,zB,zC,zD,zAN,↓reduceIte,reduceCtorEq]
        repeat' apply zAQ
        all_goals first|omega|decide|skip
        refine yii hlen (fun v=>if v=b then(45,0)else if v=a then(33,0)else(212,v)) rfl (fun v hv=>?_) (fun v hv=>?_) (fun u v _ _ e=>?_) (fun v _ e=>?_)
        ·rw[hat v]
         by_cases q:v=b
         ·simp only[if_pos q,ybw,hzb,zT]
         ·by_cases q2:v=a
          ·simp only[if_neg q,if_pos q2,ybw,hza,zT]
          ·simp only[if_neg q,if_neg q2]
        ·rw[hat v]
         by_cases q:v=b
         ·simp only[if_pos q,ybw,hzb,zT];exact⟨_,rfl,fun k hk=>cells_one _ hzb (_,_) hk⟩
         ·by_cases q2:v=a
          ·simp only[if_neg q,if_pos q2,ybw,hza,zT];exact⟨_,rfl,fun k hk=>cells_one _ hza (_,_) hk⟩
          ·simp only[if_neg q,if_neg q2];refine⟨fun k=>[.i .i64 ((g.ports.getD v []).getD k (0,0)).1,.i .i64 ((g.ports.getD v []).getD k (0,0)).2],?_,fun k hk=>rfl⟩;show(if v<g.ports.length then some _ else none)=some _
           rw[if_pos hv]
        ·by_cases q:u=b<;>by_cases q2:u=a<;>by_cases q3:v=b<;>by_cases q4:v=a<;>simp[q,q2,q3,q4,hab]at e ⊢<;>omega
        ·by_cases q:v=b<;>by_cases q2:v=a<;>simp[q,q2,hab]at e
       ·simp only[ybh,clash,yblx,ybni,ybxb,ybzq,rowO,if_pos ha,if_pos hb,hba,yha,and_false,hza,hzb,go_sem,zA,zB,zC,zD,zAN,↓reduceIte,reduceCtorEq]
        repeat' apply zAQ
        all_goals first|omega|decide|skip
        refine yii hlen (fun v=>if v=b then(51,0)else if v=a then(33,0)else(212,v)) rfl (fun v hv=>?_) (fun v hv=>?_) (fun u v _ _ e=>?_) (fun v _ e=>?_)
        ·rw[hat v]
         by_cases q:v=b
         ·simp only[if_pos q,ybw,zJ]
         ·by_cases q2:v=a
          ·simp only[if_neg q,if_pos q2,ybw,hza,zT,zJ]
          ·simp only[if_neg q,if_neg q2]
        ·rw[hat v]
         by_cases q:v=b
         ·simp only[if_pos q,ybw];exact⟨_,congrArg some (congrArg (fun n=>OB.mk _ _ _ n _) (zJ _ _)),fun k hk=>ymj _ (_,_) k⟩
         ·by_cases q2:v=a
          ·simp only[if_neg q,if_pos q2,ybw,hza,zT];exact⟨_,rfl,fun k hk=>cells_one _ hza (_,_) hk⟩
          ·simp only[if_neg q,if_neg q2];refine⟨fun k=>[.i .i64 ((g.ports.getD v []).getD k (0,0)).1,.i .i64 ((g.ports.getD v []).getD k (0,0)).2],?_,fun k hk=>rfl⟩;show(if v<g.ports.length then some _ else none)=some _
           rw[if_pos hv]
        ·by_cases q:u=b<;>by_cases q2:u=a<;>by_cases q3:v=b<;>by_cases q4:v=a<;>simp[q,q2,q3,q4,hab]at e ⊢<;>omega
        ·by_cases q:v=b<;>by_cases q2:v=a<;>simp[q,q2,hab]at e
      ·by_cases hzb:(g.ports.getD b []).length=0
       ·simp only[ybh,clash,yblx,ybni,ybxb,ybzq,rowO,if_pos ha,if_pos hb,hba,yha,and_false,hza,hzb,go_sem,zA,zB,zC,zD,zAN,↓reduceIte,reduceCtorEq]
        repeat' apply zAQ
        all_goals first|omega|decide|skip
        refine yii hlen (fun v=>if v=b then(45,0)else if v=a then(39,0)else(212,v)) rfl (fun v hv=>?_) (fun v hv=>?_) (fun u v _ _ e=>?_) (fun v _ e=>?_)
        ·rw[hat v]
         by_cases q:v=b
         ·simp only[if_pos q,ybw,hzb,zT,zJ]
         ·by_cases q2:v=a
          ·simp only[if_neg q,if_pos q2,ybw,zJ]
          ·simp only[if_neg q,if_neg q2]
        ·rw[hat v]
         by_cases q:v=b
         ·simp only[if_pos q,ybw,hzb,zT];exact⟨_,rfl,fun k hk=>cells_one _ hzb (_,_) hk⟩
         ·by_cases q2:v=a
          ·simp only[if_neg q,if_pos q2,ybw];exact⟨_,congrArg some (congrArg (fun n=>OB.mk _ _ _ n _) (zJ _ _)),fun k hk=>ymj _ (_,_) k⟩
          ·simp only[if_neg q,if_neg q2];refine⟨fun k=>[.i .i64 ((g.ports.getD v []).getD k (0,0)).1,.i .i64 ((g.ports.getD v []).getD k (0,0)).2],?_,fun k hk=>rfl⟩;show(if v<g.ports.length then some _ else none)=some _
           rw[if_pos hv]
        ·by_cases q:u=b<;>by_cases q2:u=a<;>by_cases q3:v=b<;>by_cases q4:v=a<;>simp[q,q2,q3,q4,hab]at e ⊢<;>omega
        ·by_cases q:v=b<;>by_cases q2:v=a<;>simp[q,q2,hab]at e
       ·simp only[ybh,clash,yblx,ybni,ybxb,ybzq,rowO,if_pos ha,if_pos hb,hba,yha,and_false,hza,hzb,go_sem,zA,zB,zC,zD,↓reduceIte,reduceCtorEq]
        repeat' apply zAQ
        all_goals first|omega|decide|skip
        refine yii hlen (fun v=>if v=b then(51,0)else if v=a then(39,0)else(212,v)) rfl (fun v hv=>?_) (fun v hv=>?_) (fun u v _ _ e=>?_) (fun v _ e=>?_)
        ·rw[hat v]
         by_cases q:v=b
         ·simp only[if_pos q,ybw,zJ]
         ·by_cases q2:v=a
          ·simp only[if_neg q,if_pos q2,ybw,zJ]
          ·simp only[if_neg q,if_neg q2]
        ·rw[hat v]
         by_cases q:v=b
         ·simp only[if_pos q,ybw];exact⟨_,congrArg some (congrArg (fun n=>OB.mk _ _ _ n _) (zJ _ _)),fun k hk=>ymj _ (_,_) k⟩
         ·by_cases q2:v=a
          ·simp only[if_neg q,if_pos q2,ybw];exact⟨_,congrArg some (congrArg (fun n=>OB.mk _ _ _ n _) (zJ _ _)),fun k hk=>ymj _ (_,_) k⟩
          ·simp only[if_neg q,if_neg q2];refine⟨fun k=>[.i .i64 ((g.ports.getD v []).getD k (0,0)).1,.i .i64 ((g.ports.getD v []).getD k (0,0)).2],?_,fun k hk=>rfl⟩;show(if v<g.ports.length then some _ else none)=some _
           rw[if_pos hv]
        ·by_cases q:u=b<;>by_cases q2:u=a<;>by_cases q3:v=b<;>by_cases q4:v=a<;>simp[q,q2,q3,q4,hab]at e ⊢<;>omega
        ·by_cases q:v=b<;>by_cases q2:v=a<;>simp[q,q2,hab]at e
end
end Sh
end
section
theorem ybnr{back:Bool}{g:Gr}{a b:Nat}{w:Int}(hg:ybe g)(ha:a<g.ports.length)(hb:b<g.ports.length)(hw:1<=w/\w<=15):ybe (yio back g a b w)/\(yio back g a b w).ids=g.ids/\(yio back g a b w).ports.length=g.ports.length:=by
 unfold yio
 by_cases h:a=b\/yli (g.ports.getD a []) b=true
 ·rw[if_pos h];exact⟨hg,rfl,rfl⟩
 ·rw[if_neg h];refine⟨ybar hg ha hb (fun e=>h (.inl e)) hw fun l hl e=>h (.inr (List.any_eq_true.2 ⟨l,hl,decide_eq_true e⟩)),rfl,by simp[ycd]⟩
theorem ybxa{back:Bool}{g:Gr}{a b:Nat}{w:Int}(ha:a<g.ports.length)(hb:b<g.ports.length){m:Nat}(h:Tre g m):Tre (yio back g a b w) m:=by
 unfold yio;split
 ·exact h
 ·exact h.add ha hb
theorem ybru{back:Bool}{g:Gr}{a b:Nat}{w:Int}(ha:a<g.ports.length)(hb:b<g.ports.length)(hab:a≠b):adj (yio back g a b w) a b:=by
 unfold yio;split
 ·rename_i h
  rcases h with h|h
  ·exact absurd h hab
  ·obtain⟨l,hl,e⟩:=List.any_eq_true.1 h;exact yij.2 ⟨l,hl,of_decide_eq_true e⟩
 ·exact ybfj ha hb hab
theorem ybgr:∀(l:List Nat) (i x:Nat) (h:i<l.length),(l.set i x).sum+l[i]=l.sum+x
 |a::l,0,x,_=>by simp;omega
 | a::l,i+1,x,h=>by
   have:=ybgr l i x (by simpa using h)
   simp only[List.set_cons_succ,List.sum_cons,List.getElem_cons_succ];omega
theorem ybny{back:Bool}{g:Gr}{a b:Nat}{w:Int}(ha:a<g.ports.length)(hb:b<g.ports.length)(hab:a≠b):ygt (ycd back g a b w)=ygt g+2:=by
 unfold ygt ycd;simp only[List.map_set,Sh.ybw];have h1:=ybgr (g.ports.map zBA) a ((g.ports.getD a []).length+1) (by simpa using ha)
 have h2:=ybgr ((g.ports.map zBA).set a ((g.ports.getD a []).length+1)) b ((g.ports.getD b []).length+1) (by simpa using hb)
 rw[List.getElem_set_ne hab,zAR,<-Sh.getD_at hb (d:=[])]at h2;rw[zAR,<-Sh.getD_at ha (d:=[])]at h1;omega
def WtF(x:NetR)(g:Gr):Prop:=∀v l,l∈g.ports.getD v []->∃i,l.2=1+yek (atP x.weights i) 15
theorem ycgh{x:NetR}{back:Bool}{g:Gr}{a b:Nat}{w:Int}(ha:a<g.ports.length)(hb:b<g.ports.length)(hw:∃i,w=1+yek (atP x.weights i) 15)(h:WtF x g):WtF x (yio back g a b w):=by
 unfold yio;split
 ·exact h
 ·intro v l hl;rw[ydt back g w ha hb]at hl;split at hl
  ·rcases yeg.1 hl with rfl|hl
   ·exact hw
   ·exact h _ _ hl
  ·split at hl
   ·rcases yeg.1 hl with rfl|hl
    ·exact hw
    ·exact h _ _ hl
   ·exact h _ _ hl
structure TreeTo(x:NetR)(v:Nat)(g:Gr):Prop where
 tre:Tre g v
 wt:WtF x g
 none_:∀u,v<=u->g.ports.getD u []=[]
 count:ygt g+2=2*v
theorem ype(ids:List Int)(v:Nat):(bare ids).ports.getD v []=[]:=by
 unfold bare;rw[zAI,List.getElem?_replicate];split<;>rfl
theorem TreeTo.zero(x:NetR)(ids:List Int):TreeTo x 1 (bare ids):=by
 refine⟨fun v h0 h1=>by omega,fun v l hl=>?_,fun u _=>ype ids u,?_⟩
 ·rw[ype]at hl;exact absurd hl zS
 ·have:ygt (bare ids)=0:=by
   unfold ygt bare;simp
  omega
theorem TreeTo.succ{x:NetR}{v:Nat}{g:Gr}(hg:ybe g)(h:TreeTo x v g)(hv:v<g.ports.length)(h1:1<=v){a:Nat}(ha:a<v){w:Int}(hw:∃i,w=1+yek (atP x.weights i) 15):TreeTo x (v+1) (yio x.back g a v w):=by
 have hadj:=ybru (back:=x.back) (g:=g) (a:=a) (b:=v) (w:=w) (by omega) (by omega) (by omega)
 have hno:¬(a=v\/yli (g.ports.getD a []) v=true):=by
  rintro(e|e)
  ·omega
  ·obtain⟨l,hl,e⟩:=List.any_eq_true.1 e;have e:=of_decide_eq_true e;have:adj g v a:=hg.adj_symm (yij.2 ⟨l,hl,e⟩);obtain⟨l',hl',_⟩:=yij.1 this;rw[h.none_ v (zN _)]at hl';exact absurd hl' zS
 have e:yio x.back g a v w=ycd x.back g a v w:=by unfold yio;rw[if_neg hno]
 refine⟨fun u h0 hu=>?_,ycgh (by omega) hv hw h.wt,fun u hu=>?_,?_⟩
 ·by_cases q:u=v
  ·subst q;exact⟨a,ha,hadj⟩
  ·exact ybxa (by omega) hv h.tre u h0 (by omega)
 ·rw[e,ydt x.back g w (by omega) hv,if_neg (by omega),if_neg (by omega)]
  exact h.none_ u (by omega)
 ·rw[e,ybny (by omega) hv (by omega)]
  have:=h.count;omega
namespace Sh
open Ev Go.RowKit
theorem ycdc{n:Nat}{P:List (List (Int×Int))}{f:SV->SV}(hf:∀k z,f (.i k z) = .i k z){i:Nat}(hi:i<n):(match (if i<n then some (rowO (P.getD i []))else none)with|some b=>some (⟨b.e,b.bx,b.z,b.n,fun k=>(b.g k).map f⟩:OB)|none=>none)=some (rowO (P.getD i [])):=by
 rw[if_pos hi];simp[rowO,hf]
theorem ydaa{x:NetR}(hx:x.ok){most:Nat}(hm:1<=most/\most<=24) :
 Cm Tryz.prog 21 [] [] [.ag (netC x),.i .i64 most] fun r o=>∃g,ybe g/\TreeTo x g.ports.length g/\g.ports.length<=most/\r=yuc g/\o=yge g.ports:=by
 refine ycxz [] [75,76] _ _ _ ?_;have hN:=ycdk hx hm;obtain⟨hx1,hx2,hx3,hx4⟩:=hx;simp only[netC]at hN;simp only[c21,ydfw,ydnu,netC,go_sem,zA,zB,zD,↓reduceIte,reduceCtorEq];refine yfi hN [(17,117)] 0 [2,4] [2,4] ?_ ?_
 ·simp only[okN,ycz,ygc,yev,yef,allQ,live,yc,go_sem,zA,zB,zK,↓reduceIte,reduceCtorEq]
 rintro r o' ⟨ids,h1,h2,h3,rfl,rfl⟩;obtain⟨n,hn⟩:∃n,ids.length=n:=⟨_,rfl⟩;rw[hn]at h1;simp only[hn,yrd,ymq,nuF,nu,difN,yev,yef,Fam.ren,OB.ren,dim,ydai,ybcb,ypr,go_sem,zA,zB,zD,zK,↓reduceIte];simp only[ydkv,go_sem]
 refine ybj (σ:=Nat×Gr) (fun q=>⟨[(6,.i .i64 q.1),(5,.pt (5,0) 0 0),(2,.pt (2,0) 0 0),(4,.pt (4,0) 0 0)],
  (5,.one (some ⟨27,true,2,1,fun _=>[yw q.2.ids,.os (211,0) 0 n true]⟩))::(2,.one (some ⟨24,true,6,1,fun _=>netC x⟩))::(4,.one (some ⟨27,true,2,1,fun _=>[.a (.slice none 0 0),.a (.slice none 0 0)]⟩))::yge q.2.ports⟩)
  (fun q=>ybe q.2/\q.2.ports.length=n/\TreeTo x q.1 q.2/\1<=q.1/\q.1<=n) (fun q=>n-q.1) (1,bare ids) ⟨ybtm (by omega) (by omega) h2 h3,by simp[bare,hn],TreeTo.zero x ids,by omega,by omega⟩ ?_ ?_
 ·refine yh [(211,fun i=>(117,i))] [212] [] ?_;have b1:(bare ids).ids=ids:=rfl;have b2:(bare ids).ports.length=n:=by simp[bare,hn]
  have b3:∀v,(bare ids).ports.getD v []=[]:=ype ids;simp only[netC,yge,rowO,b1,b2,b3,zAT,allQ,live,yc,ybb,go_sem,zA,zK,↓reduceIte,reduceCtorEq];refine⟨rfl,fun i hi=>⟨(212,i),rfl,rfl,by simp[hi]⟩,fun i b hb=>?_⟩
  obtain⟨_,rfl⟩:=yiu hb;exact⟨rfl,rfl⟩
 ·rintro⟨v,g⟩ ⟨hg,hgn,htr,hv1,hvn⟩;have hg:ybe g:=hg;have hgn:g.ports.length=n:=hgn;have htr:TreeTo x v g:=htr;have hv1:1<=v:=hv1;have hvn:v<=n:=hvn
  by_cases hlt:v<n
  ·have ht:decide ((v:Int)<(n:Int))=true:=decide_eq_true (by omega)
   have hv2:(v:Int)-1=((v-1:Nat):Int):=by omega
   have hA1:=at_ret x.links (v-1);have hA2:=at_ret x.weights (v-1);have hi1:=yfg (v:=atP x.links (v-1)) (m:=(v:Int)) (by omega)
   have hi2:=yfg (v:=atP x.weights (v-1)) (m:=15) (by omega)
   have hW1:=yff (atP x.links (v-1)) v (by omega) (hx2 _)
   have hW2:=yff (atP x.weights (v-1)) 15 (by omega) (hx3 _)
   obtain⟨a,ha⟩:∃a:Nat,yek (atP x.links (v-1)) v=a:=zAC hi1.1;obtain⟨w,hw⟩:∃w:Int,yek (atP x.weights (v-1)) 15=w:=⟨_,rfl⟩;rw[ha]at hW1 hi1;rw[hw]at hW2 hi2;have hL:=yczb (x:=x) (g:=g) (a:=a) (b:=v) (w:=1+w) (by omega) (by omega) (by omega) (fun u=>by have:=hg.deg_lt (v:=u);omega)
   simp only[ydfj,ydlw,ydnt,netC,yge,ht,hv2,clash,go_sem,zA,zB,zC,zK,↓reduceIte,reduceCtorEq];refine⟨ikw (by omega) (by omega),hA1.use ?_⟩
   simp only[ybh,clash,go_sem,zA,zB,zC,zK,↓reduceIte,reduceCtorEq];refine hW1.use ?_;simp only[hv2,go_sem];refine⟨ikw (by omega) (by omega),hA2.use ?_⟩
   simp only[go_sem,↓reduceIte];refine hW2.use ?_;simp only[go_sem,zA,zK,↓reduceIte];refine⟨ikw (by omega) (by omega),yfi hL [(211,211),(212,212)] 0 [2,4,5,6] [2,4,5] ?_ ?_⟩
   ·simp only[netC,yuc,yge,hgn,to1,okN,ycz,ygc,yev,yef,allQ,live,yc,go_sem,zA,zB,zK,↓reduceIte,reduceCtorEq];refine⟨⟨fun i _ j _ e=>e,fun i hi=>by rw[if_pos hi],fun i b hb=>?_⟩,by decide⟩
    obtain⟨hi,rfl⟩:=yiu hb;exact⟨_,if_pos hi,⟨rfl,rfl,rfl,rfl⟩,fun k hk=>by simp only[rowO,live,yc,go_sem,reduceCtorEq]⟩
   ·rintro r o' ⟨rfl,rfl⟩;simp only[yge,yrd,ymq,nuF,nu,difN,yev,yef,Fam.ren,OB.ren,dim,yve,ypr,go_sem,zA,zB,zK,↓reduceIte,reduceCtorEq];obtain⟨gg1,gg2,gg3⟩:=ybnr (back:=x.back) (a:=a) (b:=v) (w:=1+w) hg (by omega) (by omega) (by omega)
    have gg4:=htr.succ hg (by omega) hv1 (a:=a) (by omega) (w:=1+w) ⟨v-1,by rw[hw]⟩
    obtain⟨G,hG⟩:∃G,yio x.back g a v (1+w)=G:=⟨_,rfl⟩;rw[hG]at gg1 gg2 gg3 gg4 ⊢;rw[hgn]at gg3;refine⟨ikw (by omega) (by omega),yj (v+1,G) ⟨gg1,gg3,gg4,by omega,by omega⟩ (by show n-(v+1)<n-v;omega) ?_⟩
    ·refine yh [] [] [] ?_;simp only[gg3,gg2,allQ,live,yc,ybb,go_sem,zA,↓reduceIte,reduceCtorEq];refine⟨fun i _ j _ e=>e,by omega,fun i hi=>by rw[if_pos hi],fun i b hb=>?_⟩
     obtain⟨hi,rfl⟩:=yiu hb;refine⟨_,ycdc (f:=ren (nu [(211,211),(212,212)] 0) 5) (fun _ _=>rfl) hi,⟨rfl,rfl,rfl,rfl⟩,fun k hk=>?_⟩;simp only[rowO,live,yc,go_sem,reduceCtorEq]
  ·obtain rfl:v=n:=by omega
   have ht:decide ((v:Int)<(v:Int))=false:=decide_eq_false (by omega)
   simp only[ydfj,ydhm,netC,yge,ht,clash,splice,yha,go_sem,zA,zB,↓reduceIte,reduceCtorEq];refine⟨yuc g,yge g.ports,?_,?_,g,hg,by rw[hgn];exact htr,by omega,rfl,rfl⟩
   ·refine yh [] [] [] ?_;simp only[yge,yuc,hgn,allQ,live,yc,go_sem,zA,↓reduceIte,reduceCtorEq];refine⟨fun i _ j _ e=>e,fun i hi=>by rw[if_pos hi],fun i b hb=>?_⟩
    obtain⟨hi,rfl⟩:=yiu hb;exact⟨_,if_pos hi,⟨rfl,rfl,rfl,rfl⟩,fun k hk=>by simp only[rowO,live,yc,go_sem,reduceCtorEq]⟩
   ·simp only[yge,yuc,ycz,ygc,allQ,live,go_sem,zA,↓reduceIte];refine⟨fun i hi=>by rw[if_pos hi],fun i b hb k hk=>?_⟩
    obtain⟨hi,rfl⟩:=yiu hb;simp only[rowO,go_sem]
end Sh
end
section
namespace Sh
open Ev Go.RowKit
end Sh
end
section
namespace Sh
open Ev Go.RowKit
theorem ycav(l:List Nat):one1 (usV l)=true:=rfl
theorem ybyu{n:Nat}(l:List Nat):owned (n+1) (usV l)=false:=rfl
theorem yblu{n:Nat}(l:List Nat):scalar (n+1) (usV l)=false:=rfl
theorem ycax{n:Nat}(o:Own)(l:List Nat):view o (n+1) (usV l)=usV l:=rfl
theorem ydey{n:Nat}(o:Own)(l:List Nat):vok o (n+1) (usV l)=True:=rfl
theorem ycxt{n:Nat}(h:Nm->Nm)(l:List Nat):ren h (n+1) (usV l)=usV l:=rfl
theorem yddw{n:Nat}(D:Nm->Bool)(l:List Nat):cln D (n+1) (usV l)=true:=rfl
theorem ybqq{n:Nat}(fr:List Nm)(o:Own)(l:List Nat):ydd fr o (n+1) (usV l)=usV l:=rfl
theorem yddo{n:Nat}(fr:List Nm)(o:Own)(l:List Nat):pok fr o (n+1) (usV l)=True:=rfl
theorem ybpt(l:List Nat):SV.cells (usV l)=[usV l]:=rfl
theorem ybfc(l:List Conf):one1 (yen l)=true:=rfl
theorem ybcq{n:Nat}(l:List Conf):owned (n+1) (yen l)=false:=rfl
theorem yxa{n:Nat}(l:List Conf):scalar (n+1) (yen l)=false:=rfl
theorem ybdz{n:Nat}(o:Own)(l:List Conf):view o (n+1) (yen l)=yen l:=rfl
theorem ybmu{n:Nat}(o:Own)(l:List Conf):vok o (n+1) (yen l)=True:=rfl
theorem ybml{n:Nat}(h:Nm->Nm)(l:List Conf):ren h (n+1) (yen l)=yen l:=rfl
theorem yblg{n:Nat}(D:Nm->Bool)(l:List Conf):cln D (n+1) (yen l)=true:=rfl
theorem ybbd{n:Nat}(fr:List Nm)(o:Own)(l:List Conf):ydd fr o (n+1) (yen l)=yen l:=rfl
theorem yblv{n:Nat}(fr:List Nm)(o:Own)(l:List Conf):pok fr o (n+1) (yen l)=True:=rfl
theorem ybci(l:List Conf):SV.cells (yen l)=[yen l]:=rfl
theorem ybnb(l:List Cnt):one1 (yht l)=true:=rfl
theorem ybgz{n:Nat}(l:List Cnt):owned (n+1) (yht l)=false:=rfl
theorem ybcl{n:Nat}(l:List Cnt):scalar (n+1) (yht l)=false:=rfl
theorem ybno{n:Nat}(o:Own)(l:List Cnt):view o (n+1) (yht l)=yht l:=rfl
theorem ybwz{n:Nat}(o:Own)(l:List Cnt):vok o (n+1) (yht l)=True:=rfl
theorem ybtq{n:Nat}(h:Nm->Nm)(l:List Cnt):ren h (n+1) (yht l)=yht l:=rfl
theorem ybpf{n:Nat}(D:Nm->Bool)(l:List Cnt):cln D (n+1) (yht l)=true:=rfl
theorem ybhq{n:Nat}(fr:List Nm)(o:Own)(l:List Cnt):ydd fr o (n+1) (yht l)=yht l:=rfl
theorem ybpl{n:Nat}(fr:List Nm)(o:Own)(l:List Cnt):pok fr o (n+1) (yht l)=True:=rfl
theorem ybeg(l:List Cnt):SV.cells (yht l)=[yht l]:=rfl
theorem ycbj(l:List Bool):one1 (blV l)=true:=rfl
theorem ybwy{n:Nat}(l:List Bool):owned (n+1) (blV l)=false:=rfl
theorem yblo{n:Nat}(l:List Bool):scalar (n+1) (blV l)=false:=rfl
theorem ycfn{n:Nat}(o:Own)(l:List Bool):view o (n+1) (blV l)=blV l:=rfl
theorem ydad{n:Nat}(o:Own)(l:List Bool):vok o (n+1) (blV l)=True:=rfl
theorem ycyi{n:Nat}(h:Nm->Nm)(l:List Bool):ren h (n+1) (blV l)=blV l:=rfl
theorem ydcc{n:Nat}(D:Nm->Bool)(l:List Bool):cln D (n+1) (blV l)=true:=rfl
theorem ybuw{n:Nat}(fr:List Nm)(o:Own)(l:List Bool):ydd fr o (n+1) (blV l)=blV l:=rfl
theorem ycze{n:Nat}(fr:List Nm)(o:Own)(l:List Bool):pok fr o (n+1) (blV l)=True:=rfl
theorem ybss(l:List Bool):SV.cells (blV l)=[blV l]:=rfl
attribute [go_sem] ycav ybyu yblu ycax ydey ycxt yddw ybqq yddo ybpt ybfc ybcq yxa ybdz ybmu ybml yblg ybbd yblv ybci ybnb ybgz ybcl ybno ybwz ybtq ybpf ybhq ybpl ybeg ycbj ybwy yblo ycfn ydad ycyi ydcc ybuw ycze ybss
theorem Ct.found{P:Program}{g:FuncId}{args:List SV}{α:Type}{R:SV->α->Prop}{V:α->SV}{Q:SV->Prop}(h:Ct P g args fun r=>∃x,R r x)(hs:∀r x,R r x->Sim r (V x))(hq:∀r x,R r x->Q (V x)):Ct P g args Q:=fun G m us h1 h2 h3=>by
 obtain⟨v,m',r,a,b,c,⟨x,hx⟩,e⟩:=h G m us h1 h2 h3;exact⟨v,m',V x,a,b,c,hq r x hx,hs r x hx _ _ _ e⟩
theorem Sys.run_len(S:Sys)(res:Nat->Nat->Nat):∀(ws:List Nat) (c:Conf) (k:Cnt),(S.run res ws c k).length<=ws.length
 |[],_,_=>zN _
 | w :: ws,c,k=>by
   unfold Sys.run;split
   ·exact zO _
   ·simp only[zI];have:=Sys.run_len S res ws (S.mv c (res (S.en c) w)) (addP k (res (S.en c) w) (S.en (S.mv c (res (S.en c) w))));omega
structure RunD(S:Sys)(res:Nat->Nat->Nat)(ws:List Nat)(c:Conf)(n:Nat)(Cs:List Conf)(Ks:List Cnt):Prop where
 cs:(S.runs res ws c).map (·.1)=Cs
 ks:(S.runs res ws c).map (·.2)=Ks
 len:(S.runs res ws c).length=n
 pos:0<n
 le:n<=ws.length+1
theorem RunD.at_{S:Sys}{res:Nat->Nat->Nat}{ws:List Nat}{c:Conf}{n:Nat}{Cs:List Conf}{Ks:List Cnt}(h:RunD S res ws c n Cs Ks){k:Nat}(hk:k<n):(Cs.getD k [],Ks.getD k default)∈S.runs res ws c/\(S.runs res ws c)[k]?=some (Cs.getD k [],Ks.getD k default):=by
 have hk':k<(S.runs res ws c).length:=by rw[h.len];exact hk
 have e:(S.runs res ws c)[k]=(Cs.getD k [],Ks.getD k default):=by
  rw[<-h.cs,<-h.ks];simp[zAB,hk']
 exact⟨by rw[<-e];exact zH hk',by rw[<-e];exact zU hk'⟩
theorem RunD.lC{S:Sys}{res:Nat->Nat->Nat}{ws:List Nat}{c:Conf}{n:Nat}{Cs:List Conf}{Ks:List Cnt}(h:RunD S res ws c n Cs Ks):Cs.length=n:=by rw[<-h.cs,zAU,h.len]
theorem RunD.lK{S:Sys}{res:Nat->Nat->Nat}{ws:List Nat}{c:Conf}{n:Nat}{Cs:List Conf}{Ks:List Cnt}(h:RunD S res ws c n Cs Ks):Ks.length=n:=by rw[<-h.ks,zAU,h.len]
theorem runD(S:Sys)(res:Nat->Nat->Nat)(ws:List Nat)(c:Conf):∃n Cs Ks,RunD S res ws c n Cs Ks :=
 ⟨_,_,_,rfl,rfl,rfl,by simp[Sys.runs],by have:=Sys.run_len S res ws c (ydp (S.en c));simp only[Sys.runs,zI];omega⟩
theorem RunD.last{S:Sys}{res:Nat->Nat->Nat}{ws:List Nat}{c:Conf}{n:Nat}{Cs:List Conf}{Ks:List Cnt}(h:RunD S res ws c n Cs Ks){k:Nat}(hk:k+1<n):S.en (Cs.getD k [])≠0:=by
 have h1:=(h.at_ (show k<n by omega)).2
 exact Sys.runs_last (by rw[h.len];exact hk) h1
end Sh
end
section
namespace Sh
theorem ybke(S:Sys)(res:Nat->Nat->Nat):∀(ws:List Nat) (c:Conf) (k:Cnt),(S.run res ws c k).length<ws.length->S.en (((c,k)::S.run res ws c k).getD (S.run res ws c k).length default).1=0
 |[],c,k,h=>by simp at h
 | w :: ws,c,k,h=>by
   unfold Sys.run at h ⊢
   by_cases h0:S.en c=0
   ·simp only[if_pos h0];exact h0
   ·simp only[if_neg h0,zI]at h ⊢;exact ybke S res ws _ _ (by omega)
theorem RunD.over{S:Sys}{res:Nat->Nat->Nat}{ws:List Nat}{c:Conf}{n:Nat}{Cs:List Conf}{Ks:List Cnt}(h:RunD S res ws c n Cs Ks):S.en (Cs.getD (n-1) [])=0\/n=ws.length+1:=by
 by_cases q:n=ws.length+1
 ·exact .inr q
 ·left
  have hl:=h.len;have h1:=h.le
  have h2:=ybke S res ws c (ydp (S.en c)) (by
   simp only[Sys.runs,zI]at hl;omega)
  have e:(S.run res ws c (ydp (S.en c))).length=n-1:=by simp only[Sys.runs,zI]at hl;omega
  rw[e]at h2;have h3:=(h.at_ (show n-1<n by have:=h.pos;omega)).2
  have e2:((c,ydp (S.en c))::S.run res ws c (ydp (S.en c))).getD (n-1) default=(Cs.getD (n-1) [],Ks.getD (n-1) default):=by
   rw[zAI];have h3:((c,ydp (S.en c))::S.run res ws c (ydp (S.en c)))[n-1]?=some (Cs.getD (n-1) [],Ks.getD (n-1) default):=h3;rw[h3];rfl
  rw[e2]at h2;exact h2
end Sh
end
section
section
variable {nm np na nb nw:ByteArray}{g:Gr}{c:Conf}{u v s:Nat}
end
end
section
section
variable {nm np na nb nw:ByteArray}{g:Gr}{c:Conf}{u v s:Nat}
def ydrp(g:Gr)(s:Nat):List Nat:=(zF g.ids.length).filter s.testBit
theorem ybej{α:Type}(f:α->Bool)(l:List α)(x:α):((l++[x]).filter f).length=(l.filter f).length+(f x).toNat:=by
 rw[List.filter_append,zX];cases h:f x<;>simp[h]
theorem ypq(s:Nat):∀n,yfe s n=((zF n).filter s.testBit).length
 |0=>rfl
 | n+1=>by
   rw[zAK,ybej,<-ypq s n];rfl
structure MtJ(nm np na nb nw:ByteArray)(g:Gr)(c:Conf)(k:Cnt):Prop where
 valid:yeq (ydnd nm np na nb nw) g c=true
 moves:∃I,PtI g (toP g c) I/\2*k.moves+potN g (toP g c) I<=2*g.ports.length+2*ygt g
end
end
section
theorem ycyu{s n:Nat}:yfe s n=1↔∃v,v<n/\∀i,i<n->(s.testBit i=true↔i=v):=by
 rw[ypq];have mem:∀i,i∈(zF n).filter s.testBit↔i<n/\s.testBit i=true:=fun i=>by rw[List.mem_filter,zAV]
 constructor
 ·intro h;obtain⟨a,ha⟩:=List.length_eq_one_iff.1 h;rw[ha]at mem;have h0:=(mem a).1 zW;refine⟨a,h0.1,fun i hi=>⟨fun hb=>?_,fun e=>by rw[e];exact h0.2⟩⟩
  have:=(mem i).2 ⟨hi,hb⟩
  simpa using this
 ·rintro⟨v,hv,h⟩
  have h1:=ybai (l1:=(zF n).filter s.testBit) (l2:=[v]) (List.nodup_range.filter _) fun x hx=>by
   have:=(mem x).1 hx;rw[(h x this.1).1 this.2];exact zW
  have h2:=zAL ((mem v).2 ⟨hv,(h v hv).2 rfl⟩);simp only[zI,zAT]at h1;omega
def ledB(c:Conf)(k:Nat):Nat:=(zF k).foldl (fun s v=>s|||(lAt c v).toNat*2^v) 0
theorem ybpg{c:Conf}(n:Nat)(hl:∀v,v<n->lAt c v=0\/lAt c v=1):∀k,k<=n->∀i,(ledB c k).testBit i=true↔i<k/\lAt c i=1
 |0,_,i=>⟨fun h=>by simp[ledB]at h,fun h=>absurd h.1 (zV _)⟩
 | k + 1,hk,i=>by
   have e:ledB c (k+1)=ledB c k|||(lAt c k).toNat*2^k:=by unfold ledB;rw[zAK,zQ];rfl
   rw[e,Nat.testBit_or,Bool.or_eq_true,ybpg n hl k (by omega) i]
   rcases hl k (by omega)with q|q
   ·rw[q];simp only[Int.toNat_zero,Nat.zero_mul,Nat.zero_testBit,Bool.false_eq_true,or_false];constructor
    ·rintro⟨a,b⟩;exact⟨by omega,b⟩
    ·rintro⟨a,b⟩;refine⟨?_,b⟩
     by_cases r:i=k
     ·subst r;omega
     ·omega
   ·rw[q];have:(1:Int).toNat*2^k=2^k:=by rw[show(1:Int).toNat=1 from rfl,Nat.one_mul]
    rw[this,zAO,decide_eq_true_iff];constructor
    ·rintro(⟨a,b⟩|a)
     ·exact⟨by omega,b⟩
     ·subst a;exact⟨by omega,q⟩
    ·rintro⟨a,b⟩
     by_cases r:k=i
     ·exact .inr r
     ·exact .inl ⟨by omega,b⟩
theorem ycbz{g:Gr}(h:Tr g){c:Conf}(hc:ElC g c)(hH:ygr g c):(yfe (ledB c g.ids.length) 32=1/\∀i,(ledB c g.ids.length).testBit i=true->i<g.ports.length/\Peak g i)↔ysu g c:=by
 have hpl:=h.good.2.2.1;have h24:=h.good.2.1;have bit:=ybpg g.ids.length (c:=c) (fun v hv=>(hc.row v hv).2.2) g.ids.length (zN _);rw[ycyu];constructor
 ·rintro⟨⟨v,hv,h1⟩,h2⟩;have hb:=(h1 v hv).2 rfl;have hb':=(bit v).1 hb;exact⟨hH,v,hb'.1,(h2 v hb).2,hb'.2,fun u hu e=>(h1 u (by omega)).1 ((bit u).2 ⟨hu,e⟩)⟩
 ·rintro⟨_,v,hv,hp,h1,h2⟩;refine⟨⟨v,by omega,fun i hi=>⟨fun hb=>?_,fun e=>?_⟩⟩,fun i hb=>?_⟩
  ·have:=(bit i).1 hb;exact h2 i this.1 this.2
  ·rw[e];exact(bit v).2 ⟨hv,h1⟩
  ·have:=(bit i).1 hb;rw[h2 i this.1 this.2];exact⟨by omega,hp⟩
end
section
def yfx(g:Gr)(c:Conf):Bool:=ydn g&&yoy g.ports.length (ydi g [(g.ids.length:Int),1]) c
def ybzi(g:Gr)(c:Conf):Bool:=(zF c.length).all fun v=>!(hAt c v != htP g v)
def ybys(g:Gr)(c:Conf):Bool:=((popP (ledB c c.length):Int)==1)&&((difB (ledB c c.length) (yid (htP g) g):Int)==0)
def yhc(g:Gr)(c:Conf):Bool:=yfx g c&&(ybzi g c&&ybys g c)
theorem ysz{g:Gr}{c:Conf}(h:yfx g c=true):ydn g=true/\c.length=g.ports.length/\∀v,v<c.length->(c.getD v []).length=2/\(0<=hAt c v/\hAt c v<=g.ids.length)/\(lAt c v=0\/lAt c v=1):=by
 unfold yfx at h;rw[zAA]at h;have hck:=(yew _ _ _).1 h.2;refine⟨h.1,hck.1,fun v hv=>?_⟩;have h2:=hck.2 v _ (zU hv);have e:c[v]=c.getD v []:=by rw[Sh.getD_at hv]
 rw[e]at h2;have hne:¬(g.ids.length:Int) = -1:=by omega
 have eb:ydi g [(g.ids.length:Int),1] v=[(0,(g.ids.length:Int)),(0,1)]:=by simp[ydi,hne]
 rw[eb]at h2;have hl:(c.getD v []).length=2:=h2.1;have h3:=h2.2 0 (0,(g.ids.length:Int)) (hAt c v) rfl (by unfold hAt;rw[Sh.getD_at (show 0<(c.getD v []).length by omega)];exact zU _)
 have h4:=h2.2 1 (0,1) (lAt c v) rfl (by unfold lAt;rw[Sh.getD_at (show 1<(c.getD v []).length by omega)];exact zU _)
 simp only at h3 h4;exact⟨hl,h3,by omega⟩
theorem ydik{g:Gr}{c:Conf}(hg:ybe g)(h:yfx g c=true):ElC g c:=by
 obtain⟨_,h1,h2⟩:=ysz h;have hpl:=hg.2.2.1;exact⟨by omega,fun v hv=>h2 v (by omega)⟩
section
variable {nm nh nl nf nd nt ni:ByteArray}{g:Gr}
theorem ydkc(h:Tr g)(hit:ydn g=true){c:Conf}(hv:yeq (ybs nm nh nl nf nd nt ni) g c=true):yfx g c=true:=by
 have hC:=ylc hv;have hpl:=h.good.2.2.1;unfold yfx;rw[hit,zAH,yew];refine⟨by rw[hC.len,hpl],fun v s hs=>?_⟩
 obtain⟨hvl,e⟩:=List.getElem?_eq_some_iff.1 hs;have e:c.getD v []=s:=by simp[zAB,hs]
 obtain⟨h1,h2,h3⟩:=hC.row v (by rw[<-hC.len];exact hvl)
 unfold hAt at h2;unfold lAt at h3;rw[e]at h1 h2 h3;have hne:¬(g.ids.length:Int) = -1:=by omega
 have eb:ydi g [(g.ids.length:Int),1] v=[(0,(g.ids.length:Int)),(0,1)]:=by simp[ydi,hne]
 rw[eb];refine⟨h1,fun i b x hb hx=>?_⟩;have hi:=(List.getElem?_eq_some_iff.1 hb).1;have hi:i<2:=by simpa using hi
 have e2:s.getD i 0=x:=by simp[zAB,hx]
 rcases(show i=0\/i=1 by omega)with rfl|rfl
 ·have hb:some (0,(g.ids.length:Int))=some b:=hb;cases hb
  rw[e2]at h2;exact h2
 ·have hb:some (0,1)=some b:=hb;cases hb
  rw[e2]at h3;show 0<=x/\x<=1;omega
theorem yyl(h:Tr g){c:Conf}(hq:yfx g c=true):yhc g c=true↔ysu g c:=by
 obtain⟨_,hl,_⟩:=ysz hq;have hC:=ydik h.good hq;have hpl:=h.good.2.2.1;have h24:=h.good.2.1;have hcl:c.length=g.ids.length:=by omega
 unfold yhc ybzi ybys;rw[hq,zAH,zAA,zAA,List.all_eq_true,beq_iff_eq,beq_iff_eq,hcl]
 have hHt:(∀x∈zF g.ids.length,(!(hAt c x != htP g x))=true)↔ygr g c:=by
  constructor
  ·intro q v hv;have:=q v (List.mem_range.2 hv);rw[zAJ,bne_eq_false_iff_eq]at this;exact this
  ·intro q v hv;rw[zAJ,bne_eq_false_iff_eq];exact q v (List.mem_range.1 hv)
 rw[hHt]
 have hz:∀H:ygr g c,(((popP (ledB c g.ids.length):Int))=1/\((difB (ledB c g.ids.length) (yid (htP g) g):Nat):Int)=0)↔ysu g c:=fun H=>by
  rw[<-ycbz h hC H];refine and_congr ?_ ?_
  ·unfold popP;omega
  ·have e:((difB (ledB c g.ids.length) (yid (htP g) g):Nat):Int)=0↔difB (ledB c g.ids.length) (yid (htP g) g)=0:=by omega
   rw[e,yby];constructor
   ·intro q i hb;have:=q i;rw[ygf,hb,zAH,Bool.not_eq_false']at this;exact(ysb h.good).1 this
   ·intro q i;rw[ygf];cases hb:(ledB c g.ids.length).testBit i with
    |false=>rfl
    |true=>rw[(ysb h.good).2 (q i hb)];rfl
 exact⟨fun⟨a,b⟩=>(hz a).1 b,fun r=>⟨r.1,(hz r.1).2 r⟩⟩
theorem yuu(h:Tr g)(hit:ydn g=true){c:Conf}(hv:yeq (ybs nm nh nl nf nd nt ni) g c=true):ybm (ybs nm nh nl nf nd nt ni) g c=0↔yhc g c=true:=(ycek h hv).trans (yyl h (ydkc h hit hv)).symm
def elN(g:Gr):Nat:=(yqt g/2+1).toNat
theorem ydka(h:Tr g):∀v,v<g.ids.length->htP g v<(elN g:Int):=fun v hv=>by
 have:=h.ht_le_diam (v:=v) (by have:=h.good.2.2.1;omega)
 have:=ylk (g:=g) g.ports.length;unfold elN yqt at *;omega
theorem ycen(h:Tr g){res:Nat->Nat->Nat}(hr:ResD (yoh g) res){ws:List Nat}{c:Conf}(hv:yeq (ybs nm nh nl nf nd nt ni) g c=true):∀p∈(ybu (ybs nm nh nl nf nd nt ni) g).runs res ws c,RInvC (ybu (ybs nm nh nl nf nd nt ni) g) (fun c=>yeq (ybs nm nh nl nf nd nt ni) g c=true) (elR g (elN g)) p.1 p.2:=ybvu h (ydka h) hr (ws:=ws) hv
end
end
end Go.Proofs.YtiejahgklcjhkaaGreatDoor
