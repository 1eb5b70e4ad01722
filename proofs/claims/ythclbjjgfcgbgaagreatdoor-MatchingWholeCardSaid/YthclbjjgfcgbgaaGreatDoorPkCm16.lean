/- Joined. -/
import Derived.Test.YthclbjjgfcgbgaaGreatDoorPkCm15
set_option linter.unusedSimpArgs false
set_option linter.unusedVariables false
set_option maxRecDepth 8000
open List renaming mem_cons_self->zA,mem_cons_of_mem->zB,getD_eq_getElem?_getD->zJ,getElem?_eq_none->zL,countP_cons->zQ,length_map->zX,range->zY
open Classical renaming byContradiction->zC
open Int renaming natCast_mul->zD,toNat_natCast->zH,add_mul->zK,natCast_add->zM,add_mul_ediv_right->zS,ediv_eq_zero_of_lt->zT,mul_assoc->zAA,add_comm->zAD,zero_add->zAE,sub_self->zAG,mul_comm->zAH,sub_mul->zAO
open Go.Lib renaming hid->zF
open Nat renaming mul_comm->zG,mod_eq_of_lt->zI,mul_assoc->zO,div_div_eq_div_mul->zU,mul_le_mul_right->zV,reduceAdd->zZ,reduceLT->zAC,succ_mul->zAF,lt_or_ge->zAI,mul_pos->zAJ,mod_one->zAK,mod_mul->zAL,add_mul->zAM,mul_one->zAN,mod_lt->zAP
open Go.Proofs.Tryz renaming prog->zN,func172->zAB
open Bool renaming false_eq_true->zW
open Go
namespace Go.Proofs.YthclbjjgfcgbgaaGreatDoor
section
namespace Ev
open Go Go.RowKit
theorem ybmd(v:Value):(T.sets .leaf 0 [v]).get 0=some v:=ybwe (l:=[v]) (j:=0) (by simp)
noncomputable def yxu(x:Nat):ABlk:=.cells (T.sets .leaf 0 [.int .u32 x]) 1 77 0
def setAt(b x:Nat)(m:Mem):Prop:=∃c,m.b.get b=some (.cells c 1 77 0)/\c.get 0=some (.int .u32 x)
section
variable {φ:Phi}{M:AM}{w:World}{m:Mem}{b x y:Nat}
theorem ybag(h:setAt b x m)(hR:Rel φ M w)(hs:Sub m M):∃l cs,φ b=some l/\l.sz=0/\l.base+1<=l.size/\l.ob=none/\w.heap[l.blk]?=some (.cells cs 77 (0,0))/\cs.size=l.size/\cs[l.base]?=some (.int .u32 x):=by
 obtain⟨c,h1,h2⟩:=h;obtain⟨l,cs,e',fz,g1,g2,g3,g4,g5,g6,g7⟩:=hR.cellsAt (hs _ _ h1);obtain⟨q1,q2,q3⟩:=g4 (by decide)
 subst q1 q2;obtain⟨v',k1,k2⟩:=g7 0 _ (by omega) h2
 have e:=k2.eq_simple rfl;subst e;exact⟨l,cs.toArray,g1,g2,g3,q3,g5,by simpa using g6,by simpa using k1⟩
theorem ydea(h:setAt b x m)(hR:Rel φ M w)(hs:Sub m M){l:Loc}(hl:φ b=some l) :
 Rel φ (upd M b (some (yxu y))) (w.setCell ⟨l.blk,l.base,none⟩ (.int .u32 y))/\WG φ M w φ (upd M b (some (yxu y))) (w.setCell ⟨l.blk,l.base,none⟩ (.int .u32 y)):=by
 obtain⟨l',cs,g1,g2,g3,g4,g5,g6,g7⟩:=ybag h hR hs;rw[hl]at g1;cases g1
 obtain⟨c,h1,_⟩:=h;rw[setCell_eq_setRow w l.blk l.base cs _ _ _ g5];refine hR.setRow (hs _ _ h1) hl ⟨g2,g3,(cs.setIfInBounds l.base (.int .u32 y)).toList,77,(0,0),⟨fun _=>⟨rfl,rfl,g4⟩,fun o ho=>(by rw[g4]at ho;cases ho)⟩,?_,by simpa using g6,fun j v hj hv=>?_⟩
 .rw[Array.toArray_toList];exact setRow_heap w _ _ _ _ _ g5
 .obtain rfl:j=0:=by omega
  rw[ybmd]at hv;cases hv
  refine⟨.int .u32 y,?_,.simple rfl⟩;have hlt:l.base<cs.size:=by omega
  simp[hlt]
end
noncomputable def yqn(b y:Nat)(m:Mem):Mem:=m.app (.upd b (yxu y))
theorem ybqb(b y:Nat)(m:Mem)(i:Nat):(yqn b y m).b.get i=if i=b then some (yxu y)else m.b.get i:=by
 unfold yqn;rw[Sh.yzg];exact T.set_at _ _ _ _
noncomputable def ycvo(b s:Nat):It where
 n:=(ybw s).length
 el:=fun k=>[.int .i64 ((ybw s).getD k 0:Nat)]
 pre:=fun k m=>setAt b (ydq s k) m
 adv:=fun k m=>yqn b (ydq s (k+1)) m
 step:=fun k φ M w M' w'=>∃l,φ b=some l/\M'=upd M b (some (yxu (ydq s (k+1))))/\w'=w.setCell ⟨l.blk,l.base,none⟩ (.int .u32 (ydq s (k+1):Nat))
theorem ydgj{a:Nat}(h0:a≠0)(h:a<2^32):bits BinOp.and IntKind.u32 (a:Int) (IntKind.wrap .u32 ((a:Int)-1))=((a&&&(a-1):Nat):Int):=by
 have e:IntKind.wrap .u32 ((a:Int)-1)=((a-1:Nat):Int):=by
  have e1:(a:Int)-1=((a-1:Nat):Int):=by omega
  rw[e1];exact ykz (by omega)
 rw[e];exact u32_and (a:=a) (b:=a-1) h (by omega)
set_option maxRecDepth 100000 in
set_option maxHeartbeats 2000000 in
theorem yckc{b s:Nat}(hs32:s<2^32):ItOk zN 172 [.pointer (some ⟨b,0,none⟩)] (ycvo b s):=by
 refine⟨fun args w=>ybx yri zAB rfl args w,fun k m hk hw hp=>?_,?_,?_⟩
 .obtain⟨c,h1,_⟩:=hp;have hb:=hw _ _ h1;show Grow m (yqn b _ m);unfold yqn
  exact⟨ycdm hw (fun i hi=>by
   have hi:i∈[b]:=hi;rw[List.mem_singleton.1 hi];exact⟨_,h1⟩),(ysz m _).1⟩
 .rintro k φ M w m M' w' hk hw hR hs hp ⟨l,hl,rfl,rfl⟩;obtain⟨r1,r2⟩:=ydea (y:=ydq s (k+1)) hp hR hs hl;obtain⟨c,h1,_⟩:=hp;refine⟨φ.le_refl,fun _ _=>rfl,r1,fun i x hx=>?_,fun i hi hn=>?_,r2⟩
  .have hx:(yqn b (ydq s (k+1)) m).b.get i=some x:=hx;rw[ybqb]at hx;show(if i=b then _ else _)=_
   split at hx
   .rename_i q;rw[if_pos q];exact hx
   .rename_i q;rw[if_neg q];exact hs _ _ hx
  .show(if i=b then _ else _)=_
   rw[if_neg fun q=>?_];subst q;rcases hn with hn|hn
   .rw[h1]at hn;cases hn
   .have hn:i<(yqn i (ydq s (k+1)) m).low:=hn;unfold yqn at hn;rw[Sh.yzg]at hn;have hn:i<Nat.min m.low i:=hn;exact absurd hn (Nat.not_lt.2 (Nat.min_le_right m.low i))
 .intro l St Stop φ M w cap' hread hgrow hyield h0 hcap;obtain⟨box,rfl,hbox⟩:=ygi hcap;obtain⟨lc,hlc,_,rfl⟩:=hbox.ptr_inv;obtain⟨N,hN⟩:∃N,(ybw s).length=N:=⟨_,rfl⟩;have Hread:=zF hread;have Hgrow:=zF hgrow;have Hyield:=zF hyield;have H0:=zF h0;have Hlc:=zF hlc
  have cellOf:Hid (∀k φ' M' W,St k φ' M' W->φ.le φ'/\W.cell? ⟨lc.blk,lc.base,none⟩=some (.int .u32 (ydq s k:Nat))/\W.frozen? ⟨lc.blk,lc.base,none⟩=false/\(∃e fz,W.heap[0]?=some (.cells ybef.toArray e fz))/\lc.blk<W.heap.size):=zF fun k φ' M' W hst=>by
   obtain⟨hle,m,hR,hsu,hpre⟩:=hread k φ' M' W hst;obtain⟨l',cs,g1,g2,g3,g4,g5,g6,g7⟩:=ybag hpre hR hsu;rw[hle _ _ hlc]at g1;cases g1
   exact⟨hle,by simp[World.cell?,g5,g7],by simp[World.frozen?,g5],(hR.gl _ rfl).1,(Array.getElem?_eq_some_iff.1 g5).1⟩
  clear hread hgrow hyield h0 hbox hlc hcap
  refine callsIn_of_wp zAB rfl trivial ?_
  simp only[Tryz.ntmps172,List.size_toArray,List.length_cons,List.length_nil,zZ,Nat.reduceSub,Array.replicate_succ,
   Array.replicate_zero,List.push_toArray,List.append_toArray,List.nil_append,List.cons_append]
  gi_wp2
  gi_loopg [] N (fun q wr=>∃k:Nat,q+k=N/\Hid (∃φ' M',φ.le φ'/\St k φ' M' wr))
  case atStart=>exact⟨0,by omega,zF ⟨φ,M,φ.le_refl,H0.out⟩⟩
  case round =>
   obtain⟨k,hq,hst⟩:=hrel;obtain⟨φ1,M1,hle1,hst1⟩:=hst.out;obtain⟨_,hc1,hf1,hg1,hb1⟩:=cellOf.out _ _ _ _ hst1
   by_cases hlt:k<N
   .obtain⟨h0,hz⟩:=ydjh hs32 (k:=k) (by omega)
    have hx32:=yor hs32 k;have key:=ydgj h0 hx32;have hrs:ydq s (k+1)=ydq s k&&&(ydq s k-1):=rfl;obtain⟨x,hx⟩:∃x,ydq s k=x:=⟨_,rfl⟩;obtain⟨y,hy⟩:∃y,ydq s (k+1)=y:=⟨_,rfl⟩;rw[hx]at hc1 h0 hz hx32 key hrs;rw[hy]at hrs;rw[<-hrs]at key;have hne:((x:Int)!=0)=true:=by rw[bne_iff_ne];omega
    have htz:=ydpy (w:=wr) (x:=x) hx32 hg1;rw[hz]at htz;obtain⟨v,hv⟩:∃v,(ybw s).getD k 0=v:=⟨_,rfl⟩
    obtain⟨fn,tmps,assign,body,hy',hRd⟩:=Hyield.out k φ1 M1 wr [.int .i64 (v:Nat)] (by show k<(ybw s).length;omega) hst1 (by
     show VRL φ1 [.int .i64 ((ybw s).getD k 0:Nat)] _;rw[hv];exact .cons (.simple rfl) .nil)
    rw[hv]at htz;have hyl:(Instr.yield l #[.int .i64 (v:Int)]).run zN wr = .ok (.round l fn tmps assign body) wr:=hy';have Hst1:=zF hst1;have Hle1:=zF hle1;have Hy:=zF hy;have Hx:=zF hx
    clear hst hst1 hle1 hy' hg1 hz hrs hx hy
    gi_wp2
    refine⟨trivial,callsIn_wide.2 (htz.mono ?_)⟩;rintro e w' ⟨rfl,rfl⟩
    gi_wp2
    refine hRd.mono ?_;rintro e W3 (⟨rfl,φ3,M3,hle3,⟨m3,hR3,hS3,hp3⟩,hst3⟩|⟨rfl,hstop⟩)
    .obtain⟨l',cs,g1,g2,g3,g4,g5,g6,g7⟩:=ybag hp3 hR3 hS3;rw[hle3 _ _ (Hle1.out _ _ Hlc.out)]at g1;cases g1
     have hc3:W3.cell? ⟨lc.blk,lc.base,none⟩=some (.int .u32 (x:Nat)):=by
      have hxe:ydq s k=x:=Hx.out;simp[World.cell?,g5,g7,hxe]
     have hf3:W3.frozen? ⟨lc.blk,lc.base,none⟩=false:=by simp[World.frozen?,g5]
     have Hst3:=zF (hst3 _ _ ⟨lc,hle3 _ _ (Hle1.out _ _ Hlc.out),rfl,rfl⟩);have Hle3:=zF hle3
     clear hst3 hle3 hRd hyl hR3 hS3 hp3 g2 g3 g4 g5 g6 g7
     gi_wp2
     gi_roundg (gk-1)
     case measure=>omega
     case rel =>
      have hthis:=Hst3.out;rw[Hy.out]at hthis;refine⟨k+1,by omega,zF ⟨φ3,upd M3 b (some (yxu y)),Phi.le_trans Hle1.out Hle3.out,?_⟩⟩
      clear Hread Hgrow Hyield H0 cellOf Hst3
      have e1:IntKind.wrap .u32 ((x:Int)-1)=(x:Int)-1:=by
       have e:(x:Int)-1=((x-1:Nat):Int):=by omega
       rw[e];exact ykz (by omega)
      rw[e1]at key;rw[key];exact hthis
    .have Hstop:=zF hstop
     clear hstop hRd hyl
     gi_wp2
     refine bodyPost_ret (results_none rfl _ _ _) rfl ?_;exact⟨⟨_,rfl⟩,.inr Hstop.out⟩
   .have hk:k=N:=by omega
    have h0:ydq s k=0:=(rest_end hs32 (by omega)).2 (by omega)
    rw[h0]at hc1;have Hst1:=zF hst1;have Hle1:=zF hle1
    clear hst hst1 hle1 hg1
    gi_wp2
    go_end0
    exact⟨⟨_,rfl⟩,.inl ⟨φ1,M1,by
     have:=Hst1.out;rw[hk,<-hN]at this;exact this⟩⟩
end Ev
end
section
theorem ydpg{t v i:Nat}:(t|||2^v).testBit i=true↔t.testBit i=true\/i=v:=by
 rw[Nat.testBit_or,Bool.or_eq_true,Nat.testBit_two_pow,decide_eq_true_iff];exact or_congr Iff.rfl eq_comm
end
section
namespace Sh
open Ev Go.RowKit
def setO(x:Nat):OB:=⟨77,true,1,1,fun _=>[.i .u32 x]⟩
def ybdd(b s:Nat):ItS:=⟨(ybw s).length,fun k=>[.i .i64 ((ybw s).getD k 0:Nat)],[(b,0)],fun k o=>lookO o (b,0)=some (setO (ydq s k)),fun k o=>(SS.own ⟨[],o⟩ (b,0) (some (setO (ydq s (k+1))))).o⟩
theorem ybfn{b s:Nat}(hs:s<2^32):ItC zN 172 [.pt (b,0) 0 0] (ybdd b s):=by
 intro lo F ω st f m us hc hr hown;obtain⟨u,rfl,hu⟩:=rvl1 hr;obtain⟨k,z,hk,rfl⟩:=hu.pt_inv;have hown0:lookO st.o (b,0)=some (setO (ydq s 0)):=hown;obtain⟨hz,_⟩:=hc.ownAt hown0 hk (.inl (show(1:Nat)≠0 by decide))
 have hz:z=1:=hz;subst hz;refine⟨ycvo k s,yckc hs,rfl,fun F' ω' s' f' m' j hF hω hc' hj hown'=>?_⟩;have hk':=hω (b,0) zA _ hk;have hown':lookO s'.o (b,0)=some (setO (ydq s j)):=hown';obtain⟨_,Tb,L,g1,g2⟩:=hc'.ownAt hown' hk' (.inl (show(1:Nat)≠0 by decide))
 obtain⟨g3,g4,_,g5⟩:=g2 0 (by show 0<1;omega)
 refine⟨?_,fun hlt=>⟨.cons .i .nil,?_⟩⟩
 .refine⟨Tb,g1,?_⟩;have h0:=g5 0 (by show 0<1;omega)
  have g4:RVL F' ω' [.i .u32 (ydq s j:Nat)] (L 0):=g4;obtain⟨v,e,hv⟩:=rvl1 g4;rw[e,hv.int_inv]at h0;exact h0
 .exact hc'.upd (b:=setO (ydq s (j+1))) ⟨_,hown'⟩ hk' (show 77≠CU by decide) (Tb:=T.sets .leaf 0 [.int .u32 (ydq s (j+1):Nat)]) (L:=fun _=>[.int .u32 (ydq s (j+1):Nat)]) fun i hi=>by
   have hi:i<1:=hi;obtain rfl:i=0:=by omega
   refine⟨rfl,.cons .i .nil,rfl,fun q hq=>?_⟩;have hq:q<1:=hq;obtain rfl:q=0:=by omega
   exact ybmd _
theorem ybmh{s:Nat}:Cm zN 129 [] [] [.i .u32 s] fun r o=>r = .fn 172 [] [.pt (1,0) 0 0]/\o=[(1,.one (some (setO s)))]:=by
 refine yckp [] [] _ _ _ ?_;simp only[c129,ycyv,ycxe,clash,yga,go_sem,Nat.reduceEqDiff,zZ,zAC,↓reduceIte,reduceCtorEq];refine⟨.fn 172 [] [.pt (1,0) 0 0],[(1,.one (some (setO s)))],?_,?_,rfl,rfl⟩
 .refine yh [] [] [] ?_;simp only[setO,allQ,live,yc,go_sem,zAC,↓reduceIte,reduceCtorEq]
 .simp only[setO,yby,ydn,allQ,live,go_sem,↓reduceIte]
theorem ybnk{s v:Nat}(hs:s<2^24)(h:v∈ybw s):v<24/\s.testBit v=true:=by
 have hb:=(ytd.1 h).2;refine⟨zC fun q=>?_,hb⟩;rw[Nat.testBit_lt_two_pow (Nat.lt_of_lt_of_le hs (Nat.pow_le_pow_right (by omega) (by omega)))]at hb
 cases hb
theorem getD_mem{l:List Nat}{k:Nat}(h:k<l.length):l.getD k 0∈l:=by rw[getD_at h];exact List.getElem_mem h
end Sh
end
section
namespace Sh
open Go Ev
end Sh
end
section
section
variable {nm nl nd np no nj:ByteArray}{g:Gr}{c:Conf}{v:Nat}
end
end
section
section
variable {nm nl nd np no nj:ByteArray}{g:Gr}{c:Conf}{v:Nat}
end
end
section
section
variable {nm nl nd np no nj:ByteArray}{g:Gr}{c:Conf}{v:Nat}
theorem key_eq{a b x y n:Int}(hx:0<=x/\x<n)(hy:0<=y/\y<n):a*n+x=b*n+y↔a=b/\x=y:=by
 constructor
 .intro h;have h1:(a*n+x)/n=a:=by rw[zAD,zS _ _ (by omega),zT hx.1 hx.2,zAE]
  have h2:(b*n+y)/n=b:=by rw[zAD,zS _ _ (by omega),zT hy.1 hy.2,zAE]
  have h3:a=b:=by rw[<-h1,<-h2,h]
  subst h3;exact⟨rfl,by omega⟩
 .rintro⟨rfl,rfl⟩;rfl
end
end
section
namespace Sh
open Ev Go.RowKit
end Sh
end
section
namespace Sh
open Ev Go.RowKit
end Sh
end
section
theorem ybmm(ls:List (Int×Int))(u:Nat):(netP ls).testBit u=true↔∃l∈ls,l.1.toNat=u:=by
 have key:∀(ls:List (Int×Int)) (a:Nat),(ls.foldl (fun a l=>a|||2^l.1.toNat) a).testBit u=true↔a.testBit u=true\/∃l∈ls,l.1.toNat=u:=by
  intro ls
  induction ls with
  |nil=>exact fun a=>⟨.inl,fun h=>h.resolve_right fun⟨_,h,_⟩=>nomatch h⟩
  | cons x ls ih =>
    intro a;rw[List.foldl_cons,ih,ydpg];constructor
    .rintro((h|h)|⟨l,hl,e⟩)
     .exact .inl h
     .exact .inr ⟨x,zA,h.symm⟩
     .exact .inr ⟨l,zB _ hl,e⟩
    .rintro(h|⟨l,hl,e⟩)
     .exact .inl (.inl h)
     .rcases List.mem_cons.1 hl with r|r
      .exact .inl (.inr (by rw[<-e,r]))
      .exact .inr ⟨l,r,e⟩
 unfold netP;rw[key];simp
def netG(g:Gr)(v:Nat):Nat:=netP (g.ports.getD v [])
theorem ybni{g:Gr}(hg:ybg g){u v:Nat}(h:(netG g v).testBit u=true):adj g v u:=by
 obtain⟨l,hl,e⟩:=(ybmm _ _).1 h
 by_cases hv:v<g.ports.length
 .rw[<-e];exact(ydl hg hv hl).2.2.1
 .rw[zJ,zL (by omega)]at hl
  cases hl
theorem ydhn{g:Gr}(hg:ybg g)(v:Nat):netG g v<2^24:=by
 have:=hg.2.1;refine Nat.lt_pow_two_of_testBit _ fun i hi=>?_;cases h:(netG g v).testBit i with
 |false=>rfl
 |true=>have:=(hg.adj_lt (ybni hg h)).2;omega
theorem ybir(g:Gr)(v:Nat):(g.ports.map netP).getD v 0=netG g v:=by
 unfold netG
 by_cases hv:v<g.ports.length
 .rw[Sh.getD_at (by rw[zX];exact hv),List.getElem_map,Sh.getD_at hv]
 .rw[zJ,zL (by rw[zX];omega),zJ,zL (by omega)]
  rfl
namespace Sh
open Ev Go.RowKit
end Sh
end
section
namespace Sh
open Ev Go.RowKit
theorem ycdq:Returns zN 39 [] (.a (.string Mqt)):=by
 refine Returns.of (ydsh _ _ ?_);simp only[c39,ydwl,ydth,go_sem,↓reduceIte];exact Sim.refl _
theorem ybhv{g:Gr}(hI:GrI g)(hg:ybg g):Returns zN 40 [grV g] (.ag (ycro 2 false true (2*yel g+g.ports.length:Nat) (2*yel g+g.ports.length:Nat))):=by
 have h:=ybro hI;unfold ybit at h;rw[if_pos ((yff g).2 hg)]at h;exact h
end Sh
end
section
namespace Sh
open Go Ev
def ydme:LO:=[o3 (.mv (.const (.slice none 0 0))) 4 0]
def ydte:LO:=[mv' 0 8 0,ln' 8 9 1,o3 (.mk 22 1 24 [.a (.slice none 0 0)] (.tmp 9) (.tmp 9)) 10 3,mv' 10 5 7]
def ydua:LO:=[mv' 0 11 0,ln' 11 12 1,o3 (.mv (ci' 0)) 13 0]
def ydew:LO:=[bn' .lss 13 12 14 0]
def ydll:LO:=[mv' 13 15 0,mv' 15 6 1]
def ydxw:LO:=[mv' 5 16 0,mv' 6 17 0,mv' 0 18 0,mv' 6 19 0,ix' 1 18 19 20 12,ld' false 1 20 21 28,ln' 21 22 60,o3 (.mk 3 1 8 [.i .i64 0] (.tmp 22) (.tmp 22)) 23 124,ix' 1 16 17 24 255,o0 (.store 1 (.tmp 24) (.tmp 23)) 511]
def ydmh:LO:=[mv' 0 25 0,mv' 6 26 0,ix' 1 25 26 27 3,ld' false 1 27 28 7,ln' 28 29 15,o3 (.mv (ci' 0)) 30 0]
def ydjk:LO:=[bn' .lss 30 29 31 0]
def ydxo:LO:=[mv' 30 32 0,mv' 32 7 1]
def ydzf:LO:=[mv' 5 33 0,mv' 6 34 0,ix' 1 33 34 35 3,ld' false 1 35 36 7,mv' 7 37 0,mv' 1 38 0,mv' 6 39 0,mv' 7 40 0,o3 (.call (.tmp 38) [(.tmp 39),(.tmp 40)]) 41 224,ix' 1 36 37 42 511,o0 (.store 1 (.tmp 42) (.tmp 41)) 1023]
def yczi:LO:=[o3 (.bin .add (.tmp 30) (ci' 1)) 43 0,mv' 43 30 1]
def ycqj:LO:=[o3 (.bin .add (.tmp 13) (ci' 1)) 44 0,mv' 44 13 1]
def ycxa:LO:=[mv' 5 45 0,mv' 45 4 1]
def c65:SC:=(.seq (.reg false ydme) (.seq (.reg false ydte) (.seq (.seq (.reg false ydua) (.block 0 (.loop (.seq (.reg false ydew) (.seq (.cond (.tmp 14) .skip (.exit 0)) (.seq (.block 1 (.seq (.reg false ydll) (.seq (.reg false ydxw) (.seq (.reg false ydmh) (.block 2 (.loop (.seq (.reg false ydjk) (.seq (.cond (.tmp 31) .skip (.exit 2)) (.seq (.block 3 (.seq (.reg false ydxo) (.reg true ydzf))) (.reg false yczi)))))))))) (.reg false ycqj))))))) (.seq (.reg false ycxa) .ret))))
theorem ydgw:FnM 65 c65 [.t 4]:=fn_m Tryz.func65 (by kernel_rfl) (by kernel_rfl)
def ydyc:LO:=[o3 (.box 32 (.tmp 0)) 2 0,o3 (.box 27 (.tmp 1)) 3 0,o3 (.mv (.const (.slice none 0 0))) 4 0,o3 (.mv (ci' 0)) 5 4]
def ydur:LO:=[ld' true 3 2 8 0,ld' true 2 3 9 0,cl' 62 [8,9] 10 3,mv' 10 6 7]
def ydqe:LO:=[mv' 6 11 0,o3 (.bin .neq (.tmp 11) (ci' 0)) 12 1]
def yeby:LO:=[mv' 6 13 0,o3 (.mv (.const (.slice none 0 0))) 4 0,mv' 13 5 3]
def ydml:LO:=[ld' true 3 2 14 0,ld' true 2 3 15 0,cl' 63 [14,15] 16 3,o3 (.alloc 84 1 [.a (.slice none 0 0)]) 7 0,o0 (.store 1 (.tmp 7) (.tmp 16)) 15]
def ydsg:LO:=[ld' false 1 7 17 0,o3 (.mkfn 125 [] [(.tmp 7)]) 18 0,cl' 65 [17,18] 19 3,mv' 19 4 7,o3 (.mv (ci' 0)) 5 15]
def c59:SC:=(.seq (.reg false ydyc) (.seq (.seq (.reg false ydur) (.seq (.reg false ydqe) (.cond (.tmp 12) (.seq (.reg false yeby) .ret) .skip))) (.seq (.reg false ydml) (.seq (.reg false ydsg) .ret))))
theorem ydcz:FnM 59 c59 [.t 4,.t 5]:=fn_m Tryz.func59 (by kernel_rfl) (by kernel_rfl)
def ycpd:LO:=[o3 (.mv (ci' 0)) 5 0]
def ycre:LO:=[ld' false 1 2 6 0,mv' 0 7 0,ix' 1 6 7 8 3,ld' false 1 8 9 7,mv' 1 10 0,ix' 2 9 10 11 31,o3 (.idxA 2 1 (.tmp 11) (ci' 0)) 12 63,ld' false 1 12 13 127,mv' 13 5 255]
def c125:SC:=(.seq (.reg false ycpd) (.seq (.reg false ycre) .ret))
theorem ydbu:Fn 125 c125 [.t 5]:=fn_0 Tryz.func125 (by kernel_rfl) (by kernel_rfl)
def ydoi:LO:=[o3 (.box 32 (.tmp 0)) 2 0,o3 (.box 27 (.tmp 1)) 3 0,o3 (.mv (ci' 0)) 4 0,o3 (.mv (ci' 0)) 5 4]
def ydvr:LO:=[ld' true 3 2 7 0,ld' true 2 3 8 0,cl' 62 [7,8] 9 3,mv' 9 6 7]
def ydtf:LO:=[mv' 6 10 0,o3 (.bin .neq (.tmp 10) (ci' 0)) 11 1]
def yebx:LO:=[mv' 6 12 0,o3 (.mv (ci' 0)) 4 0,mv' 12 5 3]
def ydul:LO:=[ld' true 3 2 13 0,ld' true 2 3 14 0,cl' 63 [13,14] 15 3,cl' 64 [15] 16 7,xt' 16 0 17 15,xt' 16 1 18 15,mv' 17 4 63,mv' 18 5 127]
def c56:SC:=(.seq (.reg false ydoi) (.seq (.seq (.reg false ydvr) (.seq (.reg false ydtf) (.cond (.tmp 11) (.seq (.reg false yebx) .ret) .skip))) (.seq (.reg false ydul) .ret)))
theorem ydqt:Fn 56 c56 [.t 4,.t 5]:=fn_0 Tryz.func56 (by kernel_rfl) (by kernel_rfl)
def yduy:LO:=[o3 (.mv (ci' 0)) 2 0,o3 (.mv (ci' 0)) 3 1]
def ydrn:LO:=[o3 (.mv (ci' 1)) 4 0]
def ydrw:LO:=[mv' 0 9 0,ln' 9 10 1,o3 (.mv (ci' 0)) 11 0]
def ydey:LO:=[bn' .lss 11 10 12 0]
def ydyl:LO:=[ix' 1 9 11 13 0,ld' false 1 13 14 1,mv' 14 6 3]
def ydrv:LO:=[mv' 6 15 0,ln' 15 16 1,o3 (.mv (ci' 0)) 17 0]
def ydkb:LO:=[bn' .lss 17 16 18 0]
def ydvz:LO:=[ix' 2 15 17 19 0,ld' true 2 19 20 1,o3 (.alloc 91 1 [.i .i64 0,.i .i64 0]) 8 0,o0 (.store 2 (.tmp 8) (.tmp 20)) 7]
def ydwk:LO:=[mv' 4 21 0,o3 (.idxA 2 1 (.tmp 8) (ci' 1)) 22 0,ld' false 1 22 23 2,o3 (.idxA 2 1 (.tmp 8) (ci' 0)) 24 0,ld' false 1 24 25 8,bn' .sub 23 25 26 30,o3 (.bin .add (.tmp 26) (ci' 1)) 27 62,bn' .mul 21 27 28 127,mv' 28 4 255]
def ydpx:LO:=[mv' 4 29 0,o3 (.bin .gtr (.tmp 29) (ci' 32768)) 30 1]
def ydng:LO:=[o3 (.mv (ci' 0)) 2 0,o3 (.mv (ci' 3)) 3 1]
def ycqh:LO:=[o3 (.bin .add (.tmp 17) (ci' 1)) 31 0,mv' 31 17 1]
def ydam:LO:=[o3 (.bin .add (.tmp 11) (ci' 1)) 32 0,mv' 32 11 1]
def ycvg:LO:=[mv' 4 33 0,mv' 33 2 1,o3 (.mv (ci' 0)) 3 3]
def c64:SC:=(.seq (.reg false yduy) (.seq (.reg false ydrn) (.seq (.seq (.reg false ydrw) (.block 0 (.loop (.seq (.reg false ydey) (.seq (.cond (.tmp 12) .skip (.exit 0)) (.seq (.block 1 (.seq (.reg false ydyl) (.seq (.reg false ydrv) (.block 2 (.loop (.seq (.reg false ydkb) (.seq (.cond (.tmp 18) .skip (.exit 2)) (.seq (.block 3 (.seq (.reg false ydvz) (.seq (.reg false ydwk) (.seq (.reg false ydpx) (.cond (.tmp 30) (.seq (.reg false ydng) .ret) .skip))))) (.reg false ycqh))))))))) (.reg false ydam))))))) (.seq (.reg false ycvg) .ret))))
theorem ydmm:Fn 64 c64 [.t 2,.t 3]:=fn_0 Tryz.func64 (by kernel_rfl) (by kernel_rfl)
def ydky:LO:=[o3 (.box 32 (.tmp 0)) 3 0,o3 (.box 27 (.tmp 1)) 4 0,o3 (.box 3 (.tmp 2)) 5 0,o3 (.mv (.const (.slice none 0 0))) 6 0,o3 (.mv (ci' 0)) 7 8]
def ydtb:LO:=[ld' true 3 3 18 0,ld' true 2 4 19 0,cl' 62 [18,19] 20 3,mv' 20 8 7]
def ydug:LO:=[mv' 8 21 0,o3 (.bin .neq (.tmp 21) (ci' 0)) 22 1]
def yeaj:LO:=[mv' 8 23 0,o3 (.mv (.const (.slice none 0 0))) 6 0,mv' 23 7 3]
def ydqu:LO:=[ld' true 3 3 24 0,ld' true 2 4 25 0,cl' 63 [24,25] 26 3,o3 (.alloc 84 1 [.a (.slice none 0 0)]) 9 0,o0 (.store 1 (.tmp 9) (.tmp 26)) 15]
def ydls:LO:=[ld' false 1 9 28 0,cl' 64 [28] 29 1,mv' 29 27 3,xt' 27 0 30 7,xt' 27 1 31 7,mv' 30 10 15,mv' 31 11 63]
def yduj:LO:=[mv' 11 32 0,o3 (.bin .neq (.tmp 32) (ci' 0)) 33 1]
def yebv:LO:=[mv' 11 34 0,o3 (.mv (.const (.slice none 0 0))) 6 0,mv' 34 7 3]
def ydsv:LO:=[ld' false 1 5 35 0,o3 (.bin .lss (.tmp 35) (ci' 0)) 36 1,mv' 36 37 3,⟨.load false 1 (.tmp 5),some 38,some (37,false),7⟩,⟨.mv (.tmp 10),some 39,some (37,false),7⟩,⟨.bin .geq (.tmp 38) (.tmp 39),some 40,some (37,false),31⟩,o3 (.pick (.tmp 37) (.const (.bool true)) (.tmp 40)) 41 63]
def ydzn:LO:=[o3 (.mv (.const (.slice none 0 0))) 6 0,o3 (.mv (ci' 2)) 7 1]
def ydae:LO:=[ld' false 1 9 42 0,o3 (.mkfn 66 [] [(.tmp 9)]) 43 0,cl' 65 [42,43] 44 3,o3 (.alloc 46 1 [.a (.slice none 0 0)]) 12 0,o0 (.store 1 (.tmp 12) (.tmp 44)) 15]
def ycua:LO:=[ld' false 1 9 45 0,cl' 67 [45] 46 1]
def ycyc:LO:=[o3 (.alloc 3 1 [.i .i64 0]) 13 0,o0 (.store 1 (.tmp 13) (.tmp 47)) 1]
def ycxl:LO:=[mv' 48 14 0]
def ycyd:LO:=[mv' 14 49 0,cl' 68 [49] 50 1]
def ycqb:LO:=[mv' 51 15 0]
def ycqw:LO:=[o3 (.alloc 91 1 [.i .i64 0,.i .i64 0]) 16 0,o0 (.store 2 (.tmp 16) (.tmp 52)) 1]
def ycuq:LO:=[o3 (.idxA 2 1 (.tmp 16) (ci' 1)) 53 0,ld' false 1 53 54 1,o3 (.idxA 2 1 (.tmp 16) (ci' 0)) 55 0,ld' false 1 55 56 4,bn' .sub 54 56 57 15,o3 (.bin .add (.tmp 57) (ci' 1)) 58 31,mv' 58 17 63]
def ydaf:LO:=[ld' false 1 12 59 0,ld' false 1 13 60 0,ix' 1 59 60 61 3,ld' false 1 61 62 7,mv' 15 63 0,ix' 1 62 63 64 31,ld' false 1 64 65 63,ld' false 1 5 66 0,mv' 17 67 0,bn' .rem 66 67 68 384,bn' .add 65 68 69 1023,ix' 1 62 63 70 2047,o0 (.store 1 (.tmp 70) (.tmp 69)) 4095]
def ycsn:LO:=[ld' false 1 5 71 0,mv' 17 72 0,bn' .quo 71 72 73 3,o0 (.store 1 (.tmp 5) (.tmp 73)) 7]
def yczh:LO:=[ld' false 1 12 74 0,mv' 74 6 1,o3 (.mv (ci' 0)) 7 3]
def c15:SC:=(.seq (.reg false ydky) (.seq (.seq (.reg false ydtb) (.seq (.reg false ydug) (.cond (.tmp 22) (.seq (.reg false yeaj) .ret) .skip))) (.seq (.reg false ydqu) (.seq (.reg false ydls) (.seq (.seq (.reg false yduj) (.cond (.tmp 33) (.seq (.reg false yebv) .ret) .skip)) (.seq (.seq (.reg false ydsv) (.cond (.tmp 41) (.seq (.reg false ydzn) .ret) .skip)) (.seq (.reg false ydae) (.seq (.seq (.reg false ycua) (.block 0 (.range (.tmp 46) [47,48] (.seq (.reg false ycyc) (.reg false ycxl)) (.block 1 (.seq (.reg false ycyd) (.block 2 (.range (.tmp 50) [51,52] (.seq (.reg false ycqb) (.reg false ycqw)) (.block 3 (.seq (.reg false ycuq) (.seq (.reg true ydaf) (.reg false ycsn))))))))))) (.seq (.reg false yczh) .ret)))))))))
theorem ydig:FnU 15 c15 [.t 6,.t 7]:=fn_u Tryz.func15 (by kernel_rfl) (by kernel_rfl)
def ydmy:LO:=[o3 (.mv (ci' 0)) 5 0]
def ydle:LO:=[ld' false 1 2 6 0,mv' 0 7 0,ix' 1 6 7 8 3,ld' false 1 8 9 7,mv' 1 10 0,ix' 2 9 10 11 31,o3 (.idxA 2 1 (.tmp 11) (ci' 0)) 12 63,ld' false 1 12 13 127,mv' 13 5 255]
def c66:SC:=(.seq (.reg false ydmy) (.seq (.reg false ydle) .ret))
theorem ydnj:Fn 66 c66 [.t 5]:=fn_0 Tryz.func66 (by kernel_rfl) (by kernel_rfl)
def ydxs:LO:=[o3 (.box 46 (.tmp 1)) 3 0]
def ydkp:LO:=[mv' 0 8 0,cl' 67 [8] 9 1]
def ydlw:LO:=[o3 (.alloc 3 1 [.i .i64 0]) 4 0,o0 (.store 1 (.tmp 4) (.tmp 10)) 1]
def ydwr:LO:=[mv' 11 5 0]
def ydmr:LO:=[mv' 5 12 0,cl' 68 [12] 13 1]
def ydgq:LO:=[mv' 14 6 0]
def ydie:LO:=[o3 (.alloc 91 1 [.i .i64 0,.i .i64 0]) 7 0,o0 (.store 2 (.tmp 7) (.tmp 15)) 1]
def ydcb:LO:=[ld' false 1 3 16 0,ld' false 1 4 17 0,ix' 1 16 17 18 3,ld' false 1 18 19 7,mv' 6 20 0,ix' 1 19 20 21 31,ld' false 1 21 22 63,o3 (.idxA 2 1 (.tmp 7) (ci' 1)) 23 0,ld' false 1 23 24 128,bn' .lss 22 24 25 511]
def ydwy:LO:=[ld' false 1 3 26 0,ld' false 1 4 27 0,ix' 1 26 27 28 3,ld' false 1 28 29 7,mv' 6 30 0,ix' 1 29 30 31 31,ld' false 1 31 32 63,o3 (.bin .add (.tmp 32) (ci' 1)) 33 127,ix' 1 29 30 34 255,o0 (.store 1 (.tmp 34) (.tmp 33)) 511]
def yduh:LO:=[ld' false 1 3 35 0,ld' false 1 4 36 0,ix' 1 35 36 37 3,ld' false 1 37 38 7,mv' 6 39 0,o3 (.idxA 2 1 (.tmp 7) (ci' 0)) 40 0,ld' false 1 40 41 32,ix' 1 38 39 42 127,o0 (.store 1 (.tmp 42) (.tmp 41)) 255]
def c61:SC:=(.seq (.reg false ydxs) (.seq (.reg false ydkp) (.block 0 (.range (.tmp 9) [10,11] (.seq (.reg false ydlw) (.reg false ydwr)) (.block 1 (.seq (.reg false ydmr) (.block 2 (.range (.tmp 13) [14,15] (.seq (.reg false ydgq) (.reg false ydie)) (.block 3 (.seq (.seq (.reg true ydcb) (.cond (.tmp 25) (.seq (.reg false ydwy) .ret) .skip)) (.reg true yduh)))))))))))
theorem yddq:FnM 61 c61 []:=fn_m Tryz.func61 (by kernel_rfl) (by kernel_rfl)
def ydwg:LO:=[o3 (.box 84 (.tmp 0)) 1 0,o3 (.mv (.const (.nilFunc))) 2 0]
def ydrq:LO:=[o3 (.mkfn 133 [] [(.tmp 1)]) 3 0,mv' 3 2 1]
def c67:SC:=(.seq (.reg false ydwg) (.seq (.reg false ydrq) .ret))
theorem ydne:Fn 67 c67 [.t 2]:=fn_0 Tryz.func67 (by kernel_rfl) (by kernel_rfl)
def ydax:LO:=[o3 (.box 41 (.tmp 0)) 1 0,o3 (.mv (.const (.bool false))) 2 0]
def ycsl:LO:=[fa' 0 1 1 6 0,ld' false 1 6 7 1,ln' 7 8 3,mv' 8 3 7]
def yczo:LO:=[mv' 3 9 0,o3 (.bin .lss (.tmp 9) (ci' 1)) 10 1,mv' 10 11 3,⟨.mv (.tmp 3),some 12,some (11,false),7⟩,⟨.bin .gtr (.tmp 12) (ci' 32768),some 13,some (11,false),15⟩,o3 (.pick (.tmp 11) (.const (.bool true)) (.tmp 13)) 14 31,mv' 14 15 63,⟨.faddr 1 1 (.tmp 1),some 16,some (15,false),127⟩,⟨.load false 1 (.tmp 16),some 17,some (15,false),255⟩,⟨.len (.tmp 17),some 18,some (15,false),511⟩,⟨.mv (.tmp 3),some 19,some (15,false),127⟩,⟨.bin .neq (.tmp 18) (.tmp 19),some 20,some (15,false),2047⟩,o3 (.pick (.tmp 15) (.const (.bool true)) (.tmp 20)) 21 4095]
def ydqk:LO:=[o3 (.mv (.const (.bool false))) 2 0]
def yctr:LO:=[o3 (.mv (ci' 0)) 4 0]
def ycqo:LO:=[mv' 3 22 0,o3 (.mv (ci' 0)) 23 0]
def ybtk:LO:=[bn' .lss 23 22 24 0]
def ycox:LO:=[mv' 23 25 0,mv' 25 5 1]
def ycnv:LO:=[mv' 4 26 0,fa' 1 1 1 27 0,ld' false 1 27 28 2,mv' 5 29 0,ix' 1 28 29 30 14,ld' false 1 30 31 30,ln' 31 32 62,bn' .add 26 32 33 127,mv' 33 4 255]
def ycxi:LO:=[mv' 4 34 0,o3 (.bin .gtr (.tmp 34) (ci' 262144)) 35 1,mv' 35 36 3,⟨.faddr 0 1 (.tmp 1),some 37,some (36,false),7⟩,⟨.load false 1 (.tmp 37),some 38,some (36,false),15⟩,⟨.mv (.tmp 5),some 39,some (36,false),7⟩,⟨.idx 1 (.tmp 38) (.tmp 39),some 40,some (36,false),63⟩,⟨.load false 1 (.tmp 40),some 41,some (36,false),127⟩,⟨.faddr 1 1 (.tmp 1),some 42,some (36,false),7⟩,⟨.load false 1 (.tmp 42),some 43,some (36,false),263⟩,⟨.mv (.tmp 5),some 44,some (36,false),7⟩,⟨.idx 1 (.tmp 43) (.tmp 44),some 45,some (36,false),1799⟩,⟨.load false 1 (.tmp 45),some 46,some (36,false),3847⟩,⟨.mv (.tmp 3),some 47,some (36,false),7⟩,⟨.call (.func 180) [(.tmp 41),(.tmp 46),(.tmp 47)],some 48,some (36,false),16383⟩,⟨.un .not (.tmp 48),some 49,some (36,false),32767⟩,o3 (.pick (.tmp 36) (.const (.bool true)) (.tmp 49)) 50 65535]
def yddx:LO:=[o3 (.mv (.const (.bool false))) 2 0]
def ycev:LO:=[o3 (.bin .add (.tmp 23) (ci' 1)) 51 0,mv' 51 23 1]
def ybxl:LO:=[o3 (.mv (.const (.bool true))) 2 0]
def c136:SC:=(.seq (.reg false ydax) (.seq (.reg false ycsl) (.seq (.seq (.reg false yczo) (.cond (.tmp 21) (.seq (.reg false ydqk) .ret) .skip)) (.seq (.reg false yctr) (.seq (.seq (.reg false ycqo) (.block 0 (.loop (.seq (.reg false ybtk) (.seq (.cond (.tmp 24) .skip (.exit 0)) (.seq (.block 1 (.seq (.reg false ycox) (.seq (.reg false ycnv) (.seq (.reg true ycxi) (.cond (.tmp 50) (.seq (.reg false yddx) .ret) .skip))))) (.reg false ycev))))))) (.seq (.reg false ybxl) .ret))))))
theorem ydek:Fn 136 c136 [.t 2]:=fn_0 Tryz.func136 (by kernel_rfl) (by kernel_rfl)
def ycyy:LO:=[o3 (.mv (.const (.bool false))) 6 0]
def yctl:LO:=[mv' 0 10 0,o3 (.bin .shr (.tmp 10) (.const (.int .u64 24))) 11 1,o3 (.bin .neq (.tmp 11) (.const (.int .u32 0))) 12 3,mv' 12 13 7,⟨.mv (.tmp 0),some 14,some (13,false),15⟩,⟨.bin .neq (.tmp 14) (.const (.int .u32 0)),some 15,some (13,false),31⟩,⟨.mv (.tmp 1),some 16,some (13,false),15⟩,⟨.len (.tmp 16),some 17,some (13,false),79⟩,⟨.bin .gtr (.tmp 17) (ci' 0),some 18,some (13,false),207⟩,⟨.beq true (.tmp 15) (.tmp 18),some 19,some (13,false),511⟩,o3 (.pick (.tmp 13) (.const (.bool true)) (.tmp 19)) 20 1023]
def ydry:LO:=[o3 (.mv (.const (.bool false))) 6 0]
def ycpf:LO:=[o3 (.mv (.const (.int .u32 0))) 7 0]
def ycpo:LO:=[mv' 1 21 0,ln' 21 22 1,o3 (.mv (ci' 0)) 23 0]
def ycea:LO:=[bn' .lss 23 22 24 0]
def yczn:LO:=[ix' 2 21 23 25 0,ld' true 2 25 26 1,o3 (.alloc 103 1 [.i .u32 0,.i .i64 0]) 9 0,o0 (.store 2 (.tmp 9) (.tmp 26)) 7]
def ycza:LO:=[fa' 0 1 9 27 0,ld' false 1 27 28 1,mv' 7 29 0,bn' .leq 28 29 30 7,mv' 30 31 15,⟨.faddr 0 1 (.tmp 9),some 32,some (31,false),31⟩,⟨.load false 1 (.tmp 32),some 33,some (31,false),63⟩,⟨.mv (.tmp 0),some 34,some (31,false),31⟩,⟨.bin .andNot (.tmp 33) (.tmp 34),some 35,some (31,false),255⟩,⟨.bin .neq (.tmp 35) (.const (.int .u32 0)),some 36,some (31,false),511⟩,o3 (.pick (.tmp 31) (.const (.bool true)) (.tmp 36)) 37 1023,mv' 37 38 2047,⟨.faddr 1 1 (.tmp 9),some 39,some (38,false),4095⟩,⟨.load false 1 (.tmp 39),some 40,some (38,false),8191⟩,⟨.bin .lss (.tmp 40) (ci' 0),some 41,some (38,false),16383⟩,o3 (.pick (.tmp 38) (.const (.bool true)) (.tmp 41)) 42 32767,mv' 42 43 65535,⟨.faddr 1 1 (.tmp 9),some 44,some (43,false),131071⟩,⟨.load false 1 (.tmp 44),some 45,some (43,false),262143⟩,⟨.mv (.tmp 2),some 46,some (43,false),131071⟩,⟨.bin .geq (.tmp 45) (.tmp 46),some 47,some (43,false),1048575⟩,o3 (.pick (.tmp 43) (.const (.bool true)) (.tmp 47)) 48 2097151]
def yctq:LO:=[o3 (.mv (.const (.bool false))) 6 0]
def ycwy:LO:=[fa' 0 1 9 49 0,ld' false 1 49 50 1,mv' 50 7 3]
def ycax:LO:=[o3 (.bin .add (.tmp 23) (ci' 1)) 51 0,mv' 51 23 1]
def ybhr:LO:=[o3 (.mv (.const (.bool true))) 6 0]
def c180:SC:=(.seq (.reg false ycyy) (.seq (.seq (.reg false yctl) (.cond (.tmp 20) (.seq (.reg false ydry) .ret) .skip)) (.seq (.reg false ycpf) (.seq (.seq (.reg false ycpo) (.block 0 (.loop (.seq (.reg false ycea) (.seq (.cond (.tmp 24) .skip (.exit 0)) (.seq (.block 1 (.seq (.reg false yczn) (.seq (.seq (.reg false ycza) (.cond (.tmp 48) (.seq (.reg false yctq) .ret) .skip)) (.reg false ycwy)))) (.reg false ycax))))))) (.seq (.reg false ybhr) .ret)))))
theorem ydcq:Fn 180 c180 [.t 6]:=fn_0 Tryz.func180 (by kernel_rfl) (by kernel_rfl)
def ydrz:LO:=[o3 (.box 32 (.tmp 0)) 3 0,o3 (.box 27 (.tmp 1)) 4 0,o3 (.alloc 41 1 [.a (.slice none 0 0),.a (.slice none 0 0)]) 6 0,o3 (.mv (ci' 0)) 7 0]
def ydmb:LO:=[ld' true 3 3 20 0,ld' true 2 4 21 0,cl' 56 [20,21] 22 3,mv' 22 19 7,xt' 19 0 23 15,xt' 19 1 24 15,mv' 23 8 31,mv' 24 9 127]
def ydmz:LO:=[mv' 9 25 0,o3 (.bin .neq (.tmp 25) (ci' 0)) 26 1,mv' 26 27 3,⟨.mv (.tmp 9),some 28,some (27,true),7⟩,⟨.bin .neq (.tmp 28) (ci' 3),some 29,some (27,true),15⟩,o3 (.pick (.tmp 27) (.tmp 29) (.const (.bool false))) 30 31]
def yean:LO:=[o3 (.build [.a (.slice none 0 0),.a (.slice none 0 0)] []) 31 0,mv' 9 32 0,o0 (.store 2 (.tmp 6) (.tmp 31)) 1,mv' 32 7 7]
def ydnd:LO:=[mv' 2 33 0,cl' 57 [33] 34 1,o3 (.un .not (.tmp 34)) 35 3]
def yeas:LO:=[o3 (.build [.a (.slice none 0 0),.a (.slice none 0 0)] []) 36 0,o0 (.store 2 (.tmp 6) (.tmp 36)) 1,o3 (.mv (ci' 12)) 7 3]
def ydrx:LO:=[mv' 9 37 0,o3 (.bin .neq (.tmp 37) (ci' 0)) 38 1]
def yebz:LO:=[o3 (.build [.a (.slice none 0 0),.a (.slice none 0 0)] []) 39 0,mv' 9 40 0,o0 (.store 2 (.tmp 6) (.tmp 39)) 1,mv' 40 7 7]
def ydlk:LO:=[ld' true 3 3 41 0,ld' true 2 4 42 0,mv' 2 43 0,cl' 58 [41,42,43] 44 7,mv' 44 10 15]
def ydrr:LO:=[mv' 8 45 0,o3 (.mk 77 1 4 [.i .u32 0] (.tmp 45) (.tmp 45)) 46 1,mv' 8 47 0,o3 (.mk 78 1 24 [.a (.slice none 0 0)] (.tmp 47) (.tmp 47)) 48 4,o3 (.build [.a (.slice none 0 0),.a (.slice none 0 0)] [(0,1,(.tmp 46)),(1,1,(.tmp 48))]) 49 15,o3 (.alloc 41 1 [.a (.slice none 0 0),.a (.slice none 0 0)]) 11 0,o0 (.store 2 (.tmp 11) (.tmp 49)) 63]
def ycqq:LO:=[ld' true 3 3 51 0,ld' true 2 4 52 0,cl' 59 [51,52] 53 3,mv' 53 50 7,xt' 50 0 54 15,xt' 50 1 55 15,mv' 54 12 31,mv' 55 13 127]
def ycwm:LO:=[o3 (.mv (ci' 0)) 14 0]
def ycyu:LO:=[mv' 8 56 0,o3 (.mv (ci' 0)) 57 0]
def ybyl:LO:=[bn' .lss 57 56 58 0]
def ycxr:LO:=[mv' 57 59 0,mv' 59 15 1]
def ycpj:LO:=[mv' 10 61 0,mv' 12 62 0,mv' 15 63 0,cl' 60 [61,62,63] 64 7,mv' 64 60 15,xt' 60 0 65 31,xt' 60 1 66 31,xt' 60 2 67 31,mv' 65 16 63,mv' 66 17 383,mv' 67 18 1023]
def ycwc:LO:=[mv' 14 68 0,mv' 17 69 0,ln' 69 70 2,bn' .add 68 70 71 7,mv' 71 14 15]
def ycyt:LO:=[mv' 18 72 0,o3 (.bin .neq (.tmp 72) (ci' 0)) 73 1,mv' 73 74 3,⟨.mv (.tmp 14),some 75,some (74,false),7⟩,⟨.bin .gtr (.tmp 75) (ci' 262144),some 76,some (74,false),15⟩,o3 (.pick (.tmp 74) (.const (.bool true)) (.tmp 76)) 77 31]
def ydvp:LO:=[o3 (.build [.a (.slice none 0 0),.a (.slice none 0 0)] []) 78 0,o0 (.store 2 (.tmp 6) (.tmp 78)) 1,o3 (.mv (ci' 3)) 7 3]
def ycny:LO:=[fa' 0 1 11 79 0,ld' false 1 79 80 1,mv' 15 81 0,fa' 1 1 11 82 0,ld' false 1 82 83 8,mv' 15 84 0,mv' 16 85 0,mv' 17 86 0,ix' 1 80 81 87 71,o0 (.store 1 (.tmp 87) (.tmp 85)) 327,ix' 1 83 84 88 1023,o0 (.store 1 (.tmp 88) (.tmp 86)) 2047]
def ycwj:LO:=[mv' 10 89 0,o3 (.nilck (.tmp 89)) 90 1,fa' 3 1 90 91 3,ld' false 1 91 92 7,mv' 12 93 0,cl' 61 [92,93] 94 31]
def ycyr:LO:=[o3 (.bin .add (.tmp 57) (ci' 1)) 95 0,mv' 95 57 1]
def ycyx:LO:=[ld' true 2 11 96 0,o0 (.store 2 (.tmp 6) (.tmp 96)) 1,o3 (.mv (ci' 0)) 7 3]
def c14:SC:=(.seq (.reg false ydrz) (.seq (.reg false ydmb) (.seq (.seq (.reg false ydmz) (.cond (.tmp 30) (.seq (.reg false yean) .ret) .skip)) (.seq (.seq (.reg false ydnd) (.cond (.tmp 35) (.seq (.reg false yeas) .ret) .skip)) (.seq (.seq (.reg false ydrx) (.cond (.tmp 38) (.seq (.reg false yebz) .ret) .skip)) (.seq (.reg false ydlk) (.seq (.reg true ydrr) (.seq (.reg false ycqq) (.seq (.reg false ycwm) (.seq (.seq (.reg false ycyu) (.block 0 (.loop (.seq (.reg false ybyl) (.seq (.cond (.tmp 58) .skip (.exit 0)) (.seq (.block 1 (.seq (.reg false ycxr) (.seq (.reg false ycpj) (.seq (.reg false ycwc) (.seq (.seq (.reg false ycyt) (.cond (.tmp 77) (.seq (.reg false ydvp) .ret) .skip)) (.seq (.reg true ycny) (.reg false ycwj))))))) (.reg false ycyr))))))) (.seq (.reg false ycyx) .ret)))))))))))
theorem yddm:FnU 14 c14 [.c 6 true 2,.t 7]:=fn_u Tryz.func14 (by kernel_rfl) (by kernel_rfl)
def ydox:LO:=[o3 (.box 32 (.tmp 0)) 3 0,o3 (.box 27 (.tmp 1)) 4 0,o3 (.mv (.const (.pointer none))) 6 0]
def ydps:LO:=[ld' true 3 3 11 0,ld' true 2 4 12 0,cl' 123 [11,12] 13 3,ld' true 2 4 14 0,cl' 124 [14] 15 15,mv' 2 16 0,ld' true 3 3 17 0,ld' true 2 4 18 0,cl' 63 [17,18] 19 223,o3 (.build [.a (.pointer none),.a (.slice none 0 0),.i .i64 0,.a (.slice none 0 0),.a (.slice none 0 0)] [(0,1,(.tmp 13)),(1,1,(.tmp 15)),(2,1,(.tmp 16)),(3,1,(.tmp 19))]) 20 511,o3 (.box 86 (.tmp 20)) 21 1023,mv' 21 7 2047]
def ydtv:LO:=[mv' 7 22 0,mv' 7 23 0,o3 (.nilck (.tmp 23)) 24 2,fa' 3 1 24 25 6,ld' false 1 25 26 14,ln' 26 27 30,o3 (.mk 22 1 24 [.a (.slice none 0 0)] (.tmp 27) (.tmp 27)) 28 62,o3 (.nilck (.tmp 22)) 29 127,fa' 4 1 29 30 255,o0 (.store 1 (.tmp 30) (.tmp 28)) 511]
def ydtm:LO:=[o3 (.mv (ci' 1)) 8 0]
def ydov:LO:=[mv' 7 31 0,o3 (.nilck (.tmp 31)) 32 1,fa' 3 1 32 33 3,ld' false 1 33 34 7,ln' 34 35 15,o3 (.bin .sub (.tmp 35) (ci' 1)) 36 31,mv' 36 9 63]
def ydcs:LO:=[mv' 9 37 0,o3 (.bin .geq (.tmp 37) (ci' 0)) 38 1]
def ydvn:LO:=[mv' 7 41 0,o3 (.nilck (.tmp 41)) 42 1,fa' 4 1 42 43 3,ld' false 1 43 44 7,mv' 9 45 0,mv' 7 46 0,o3 (.nilck (.tmp 46)) 47 32,fa' 3 1 47 48 96,ld' false 1 48 49 224,mv' 9 50 0,ix' 1 49 50 51 992,ld' false 1 51 52 2016,ln' 52 53 4064,o3 (.mk 3 1 8 [.i .i64 0] (.tmp 53) (.tmp 53)) 54 8160,ix' 1 44 45 55 16383,o0 (.store 1 (.tmp 55) (.tmp 54)) 32767]
def ydyb:LO:=[mv' 7 56 0,o3 (.nilck (.tmp 56)) 57 1,fa' 3 1 57 58 3,ld' false 1 58 59 7,mv' 9 60 0,ix' 1 59 60 61 31,ld' false 1 61 62 63,ln' 62 63 127,o3 (.bin .sub (.tmp 63) (ci' 1)) 64 255,mv' 64 10 511]
def ydck:LO:=[mv' 10 65 0,o3 (.bin .geq (.tmp 65) (ci' 0)) 66 1]
def ycsq:LO:=[mv' 7 69 0,o3 (.nilck (.tmp 69)) 70 1,fa' 4 1 70 71 3,ld' false 1 71 72 7,mv' 9 73 0,ix' 1 72 73 74 31,ld' false 1 74 75 63,mv' 10 76 0,mv' 8 77 0,ix' 1 75 76 78 511,o0 (.store 1 (.tmp 78) (.tmp 77)) 1023]
def ycpc:LO:=[mv' 8 79 0,mv' 7 80 0,o3 (.nilck (.tmp 80)) 81 2,fa' 3 1 81 82 6,ld' false 1 82 83 14,mv' 9 84 0,ix' 1 83 84 85 62,ld' false 1 85 86 126,mv' 10 87 0,ix' 2 86 87 88 510,o3 (.idxA 2 1 (.tmp 88) (ci' 1)) 89 1022,ld' false 1 89 90 2046,mv' 7 91 0,o3 (.nilck (.tmp 91)) 92 4096,fa' 3 1 92 93 12288,ld' false 1 93 94 28672,mv' 9 95 0,ix' 1 94 95 96 126976,ld' false 1 96 97 258048,mv' 10 98 0,ix' 2 97 98 99 1044480,o3 (.idxA 2 1 (.tmp 99) (ci' 0)) 100 2093056,ld' false 1 100 101 4190208,bn' .sub 90 101 102 8388606,o3 (.bin .add (.tmp 102) (ci' 1)) 103 16777214,bn' .mul 79 103 104 33554431,mv' 104 8 67108863]
def ycww:LO:=[mv' 10 67 0,o3 (.bin .sub (.tmp 67) (ci' 1)) 68 1,mv' 68 10 3]
def ydyd:LO:=[mv' 9 39 0,o3 (.bin .sub (.tmp 39) (ci' 1)) 40 1,mv' 40 9 3]
def ydab:LO:=[mv' 7 105 0,mv' 105 6 1]
def c58:SC:=(.seq (.reg false ydox) (.seq (.reg true ydps) (.seq (.reg false ydtv) (.seq (.reg false ydtm) (.seq (.seq (.reg false ydov) (.block 0 (.loop (.seq (.seq (.reg false ydcs) (.cond (.tmp 38) .skip (.exit 0))) (.seq (.block 1 (.seq (.reg true ydvn) (.seq (.reg false ydyb) (.block 2 (.loop (.seq (.seq (.reg false ydck) (.cond (.tmp 66) .skip (.exit 2))) (.seq (.block 3 (.seq (.reg false ycsq) (.reg true ycpc))) (.reg false ycww)))))))) (.reg false ydyd)))))) (.seq (.reg false ydab) .ret))))))
theorem ydui:Fn 58 c58 [.t 6]:=fn_0 Tryz.func58 (by kernel_rfl) (by kernel_rfl)
def ydqs:LO:=[o3 (.mv (.const (.int .u32 0))) 6 0,o3 (.mv (.const (.slice none 0 0))) 7 1,o3 (.mv (ci' 0)) 8 3]
def ydtp:LO:=[o3 (.mv (.const (.int .u32 0))) 9 0]
def ydmx:LO:=[o3 (.alloc 150 24 [.i .i64 0]) 10 0]
def ydnb:LO:=[mv' 1 21 0,ln' 21 22 1,o3 (.mv (ci' 0)) 23 0]
def ycgu:LO:=[bn' .lss 23 22 24 0]
def ydfq:LO:=[mv' 23 25 0,mv' 25 11 1]
def ydde:LO:=[mv' 0 26 0,o3 (.nilck (.tmp 26)) 27 1,fa' 0 1 27 28 3,ld' false 1 28 29 7,mv' 1 30 0,mv' 11 31 0,cl' 126 [29,30,31] 32 63,mv' 32 12 127]
def ydgk:LO:=[mv' 12 33 0,o3 (.bin .lss (.tmp 33) (ci' 0)) 34 1]
def ydtt:LO:=[mv' 9 35 0,mv' 11 36 0,o3 (.bin .shl (.const (.int .u32 1)) (.tmp 36)) 37 2,bn' .or 35 37 38 7,mv' 38 9 15]
def ydwf:LO:=[mv' 0 39 0,o3 (.nilck (.tmp 39)) 40 1,fa' 0 1 40 41 3,ld' false 1 41 42 7,mv' 1 43 0,mv' 11 44 0,mv' 12 45 0,cl' 127 [42,43,44,45] 46 127,ln' 46 47 255,o3 (.mv (ci' 0)) 48 0]
def ybwl:LO:=[bn' .lss 48 47 49 0]
def ycvf:LO:=[mv' 48 50 0,ix' 1 46 48 51 0,ld' false 1 51 52 2,mv' 50 13 7,mv' 52 14 15]
def ycol:LO:=[mv' 11 53 0,o3 (.idxA 24 1 (.tmp 10) (.tmp 53)) 54 1,ld' false 1 54 55 3,mv' 14 56 0,mv' 1 57 0,mv' 11 58 0,ix' 1 57 58 59 48,ld' false 1 59 60 112,mv' 13 61 0,ix' 1 60 61 62 496,ld' false 1 62 63 1008,bn' .sub 56 63 64 2040,mv' 0 65 0,o3 (.nilck (.tmp 65)) 66 4096,fa' 4 1 66 67 12288,ld' false 1 67 68 28672,mv' 11 69 0,ix' 1 68 69 70 126976,ld' false 1 70 71 258048,mv' 13 72 0,ix' 1 71 72 73 1044480,ld' false 1 73 74 2093056,bn' .mul 64 74 75 4194296,bn' .add 55 75 76 8388607,o3 (.idxA 24 1 (.tmp 10) (.tmp 53)) 77 16777215,o0 (.store 1 (.tmp 77) (.tmp 76)) 33554431]
def ycvh:LO:=[o3 (.bin .add (.tmp 48) (ci' 1)) 78 0,mv' 78 48 1]
def yceb:LO:=[o3 (.bin .add (.tmp 23) (ci' 1)) 79 0,mv' 79 23 1]
def ycpw:LO:=[mv' 0 81 0,o3 (.nilck (.tmp 81)) 82 1,fa' 1 1 82 83 3,ld' false 1 83 84 7,mv' 0 85 0,o3 (.nilck (.tmp 85)) 86 16,fa' 2 1 86 87 48,ld' false 1 87 88 112,mv' 9 89 0,cl' 128 [84,88,89] 90 511,mv' 90 80 1023,xt' 80 0 91 2047,xt' 80 1 92 2047,mv' 91 15 4095,mv' 92 16 16383]
def ycsy:LO:=[mv' 16 93 0,o3 (.bin .neq (.tmp 93) (ci' 0)) 94 1]
def ydlo:LO:=[mv' 16 95 0,o3 (.mv (.const (.int .u32 0))) 6 0,o3 (.mv (.const (.slice none 0 0))) 7 2,mv' 95 8 7]
def ycow:LO:=[mv' 15 96 0,ln' 96 97 1,o3 (.mk 103 2 16 [.i .u32 0,.i .i64 0] (.tmp 97) (.tmp 97)) 98 3,o3 (.alloc 78 1 [.a (.slice none 0 0)]) 17 0,o0 (.store 1 (.tmp 17) (.tmp 98)) 15]
def ycos:LO:=[mv' 15 99 0,ln' 99 100 1,o3 (.mv (ci' 0)) 101 0]
def ybxp:LO:=[bn' .lss 101 100 102 0]
def ycvs:LO:=[mv' 101 103 0,ix' 1 99 101 104 0,ld' false 1 104 105 2,o3 (.alloc 3 1 [.i .i64 0]) 18 0,o0 (.store 1 (.tmp 18) (.tmp 103)) 15,mv' 105 19 31]
def ycsz:LO:=[ld' false 1 17 106 0,ld' false 1 18 107 0,mv' 19 108 0,mv' 2 109 0,o3 (.build [.i .u32 0,.i .i64 0] [(0,1,(.tmp 108)),(1,1,(.tmp 109))]) 110 12,ix' 2 106 107 111 31,o0 (.store 2 (.tmp 111) (.tmp 110)) 63]
def yczk:LO:=[mv' 19 112 0,cl' 129 [112] 113 1]
def ycvb:LO:=[mv' 114 20 0]
def ycux:LO:=[ld' false 1 17 115 0,ld' false 1 18 116 0,ix' 2 115 116 117 3,fa' 1 1 117 118 7,ld' false 1 118 119 15,mv' 20 120 0,o3 (.idxA 24 1 (.tmp 10) (.tmp 120)) 121 32,ld' false 1 121 122 96,bn' .add 119 122 123 255,ix' 2 115 116 124 511,fa' 1 1 124 125 1023,o0 (.store 1 (.tmp 125) (.tmp 123)) 2047]
def ycuh:LO:=[o3 (.bin .add (.tmp 101) (ci' 1)) 126 0,mv' 126 101 1]
def ycvu:LO:=[mv' 9 127 0,ld' false 1 17 128 0,mv' 127 6 1,mv' 128 7 7,o3 (.mv (ci' 0)) 8 15]
def c60:SC:=(.seq (.reg false ydqs) (.seq (.reg false ydtp) (.seq (.reg false ydmx) (.seq (.seq (.reg false ydnb) (.block 0 (.loop (.seq (.reg false ycgu) (.seq (.cond (.tmp 24) .skip (.exit 0)) (.seq (.block 1 (.seq (.reg false ydfq) (.seq (.reg false ydde) (.seq (.seq (.reg false ydgk) (.cond (.tmp 34) (.exit 1) .skip)) (.seq (.reg false ydtt) (.seq (.reg false ydwf) (.block 2 (.loop (.seq (.reg false ybwl) (.seq (.cond (.tmp 49) .skip (.exit 2)) (.seq (.block 3 (.seq (.reg false ycvf) (.reg true ycol))) (.reg false ycvh)))))))))))) (.reg false yceb))))))) (.seq (.reg true ycpw) (.seq (.seq (.reg false ycsy) (.cond (.tmp 94) (.seq (.reg false ydlo) .ret) .skip)) (.seq (.reg false ycow) (.seq (.seq (.reg false ycos) (.block 4 (.loop (.seq (.reg false ybxp) (.seq (.cond (.tmp 102) .skip (.exit 4)) (.seq (.block 5 (.seq (.reg false ycvs) (.seq (.reg false ycsz) (.seq (.reg false yczk) (.block 6 (.range (.tmp 113) [114] (.reg false ycvb) (.block 7 (.reg true ycux)))))))) (.reg false ycuh))))))) (.seq (.reg true ycvu) .ret)))))))))
theorem ydjq:FnM 60 c60 [.t 6,.t 7,.t 8]:=fn_m Tryz.func60 (by kernel_rfl) (by kernel_rfl)
def ycdd:LO:=[o3 (.mv (.const (.slice none 0 0))) 6 0,o3 (.mv (ci' 0)) 7 1]
def ybxe:LO:=[mv' 2 11 0,o3 (.bin .eql (.tmp 11) (.const (.int .u32 0))) 12 1]
def ycnz:LO:=[o3 (.mv (.const (.slice none 0 0))) 6 0,o3 (.mv (ci' 0)) 7 1]
def ycrn:LO:=[o3 (.alloc 38 1 [.a (.slice none 0 0)]) 8 0]
def ycmi:LO:=[mv' 1 13 0]
def ycog:LO:=[o3 (.bin .eql (.tmp 13) (ci' 1)) 15 0,mv' 15 14 1]
def ydrt:LO:=[mv' 2 16 0,cl' 129 [16] 17 1]
def ydwd:LO:=[mv' 18 9 0]
def ydmf:LO:=[ld' false 1 8 19 0,mv' 9 20 0,o3 (.bin .shl (.const (.int .u32 1)) (.tmp 20)) 21 2,o3 (.bslice 77 1 1 [.i .u32 0] [(0,1,(.tmp 21))]) 22 6,o3 (.app 77 1 4 (.tmp 19) (.tmp 22)) 23 15,o0 (.store 1 (.tmp 8) (.tmp 23)) 31]
def ydto:LO:=[ld' false 1 8 24 0,mv' 24 6 1,o3 (.mv (ci' 0)) 7 3]
def ybyt:LO:=[o3 (.bin .eql (.tmp 13) (ci' 4)) 26 0,mv' 26 25 1]
def ydiu:LO:=[mv' 2 27 0,o3 (.bslice 77 1 1 [.i .u32 0] [(0,1,(.tmp 27))]) 28 1,mv' 28 6 3,o3 (.mv (ci' 0)) 7 7]
def ycel:LO:=[mv' 2 29 0,cl' 113 [29] 30 1,o3 (.bin .gtr (.tmp 30) (ci' 10)) 31 3]
def yddo:LO:=[o3 (.mv (.const (.slice none 0 0))) 6 0,o3 (.mv (ci' 3)) 7 1]
def ybua:LO:=[mv' 2 32 0,o3 (.un .neg (.tmp 32)) 33 1,mv' 2 34 0,bn' .and 33 34 35 7,mv' 35 10 15]
def ybkb:LO:=[mv' 10 36 0,o3 (.bin .neq (.tmp 36) (.const (.int .u32 0))) 37 1]
def ybxr:LO:=[mv' 0 43 0,mv' 1 44 0,mv' 2 45 0,mv' 10 46 0,cl' 171 [43,44,45,46] 47 15]
def ybvi:LO:=[ld' false 1 8 48 0,mv' 10 49 0,o3 (.bslice 77 1 1 [.i .u32 0] [(0,1,(.tmp 49))]) 50 2,o3 (.app 77 1 4 (.tmp 48) (.tmp 50)) 51 7,o0 (.store 1 (.tmp 8) (.tmp 51)) 15]
def ybjo:LO:=[mv' 10 38 0,mv' 2 39 0,o3 (.wsub (.tmp 38) (.tmp 39)) 40 3,mv' 2 41 0,bn' .and 40 41 42 15,mv' 42 10 31]
def ybto:LO:=[ld' false 1 8 52 0,mv' 52 6 1,o3 (.mv (ci' 0)) 7 3]
def c128:SC:=(.seq (.reg false ycdd) (.seq (.seq (.reg false ybxe) (.cond (.tmp 12) (.seq (.reg false ycnz) .ret) .skip)) (.seq (.reg false ycrn) (.seq (.seq (.reg false ycmi) (.block 0 (.seq (.reg false ycog) (.cond (.tmp 14) (.seq (.seq (.reg false ydrt) (.block 1 (.range (.tmp 17) [18] (.reg false ydwd) (.block 2 (.reg true ydmf))))) (.seq (.reg false ydto) .ret)) (.seq (.reg false ybyt) (.cond (.tmp 25) (.seq (.reg false ydiu) .ret) .skip)))))) (.seq (.seq (.reg false ycel) (.cond (.tmp 31) (.seq (.reg false yddo) .ret) .skip)) (.seq (.seq (.reg false ybua) (.block 3 (.loop (.seq (.seq (.reg false ybkb) (.cond (.tmp 37) .skip (.exit 3))) (.seq (.block 4 (.seq (.reg false ybxr) (.cond (.tmp 47) (.reg false ybvi) .skip))) (.reg false ybjo)))))) (.seq (.reg false ybto) .ret)))))))
theorem ydiz:Fn 128 c128 [.t 6,.t 7]:=fn_0 Tryz.func128 (by kernel_rfl) (by kernel_rfl)
def ydsc:LO:=[o3 (.box 41 (.tmp 0)) 2 0,o3 (.mv (ci' 0)) 4 0]
def ydma:LO:=[ld' true 2 2 5 0,cl' 136 [5] 6 1,o3 (.un .not (.tmp 6)) 7 3]
def ydzp:LO:=[o3 (.mv (ci' 13)) 4 0]
def ydzh:LO:=[mv' 1 8 0,ln' 8 9 1,fa' 0 1 2 10 0,ld' false 1 10 11 4,ln' 11 12 12,bn' .neq 9 12 13 31]
def yebs:LO:=[o3 (.mv (ci' 7)) 4 0]
def ydva:LO:=[o3 (.mv (ci' 0)) 4 0]
def c73:SC:=(.seq (.reg false ydsc) (.seq (.seq (.reg false ydma) (.cond (.tmp 7) (.seq (.reg false ydzp) .ret) .skip)) (.seq (.seq (.reg false ydzh) (.cond (.tmp 13) (.seq (.reg false yebs) .ret) .skip)) (.seq (.reg false ydva) .ret))))
theorem ydnx:Fn 73 c73 [.t 4]:=fn_0 Tryz.func73 (by kernel_rfl) (by kernel_rfl)
def ydmt:LO:=[o3 (.box 41 (.tmp 0)) 2 0,o3 (.mv (.const (.bool false))) 4 0,o3 (.mv (ci' 0)) 5 2]
def ydvu:LO:=[ld' true 2 2 11 0,mv' 1 12 0,cl' 73 [11,12] 13 3,mv' 13 6 7]
def ydyr:LO:=[mv' 6 14 0,o3 (.bin .neq (.tmp 14) (ci' 0)) 15 1]
def yeap:LO:=[mv' 6 16 0,o3 (.mv (.const (.bool false))) 4 0,mv' 16 5 3]
def ydyn:LO:=[fa' 1 1 2 17 0,ld' false 1 17 18 1,ln' 18 19 3,o3 (.mv (ci' 0)) 20 0]
def ycgx:LO:=[bn' .lss 20 19 21 0]
def ydim:LO:=[mv' 20 22 0,ix' 1 18 20 23 0,ld' false 1 23 24 2,mv' 22 7 7,mv' 24 8 15]
def ydbw:LO:=[mv' 1 25 0,mv' 7 26 0,ix' 1 25 26 27 3,ld' false 1 27 28 7,o3 (.un .not (.tmp 28)) 29 15]
def ydon:LO:=[mv' 8 30 0,ln' 30 31 1,o3 (.mv (ci' 0)) 32 0]
def ydtd:LO:=[bn' .lss 32 31 33 0]
def ydxr:LO:=[ix' 2 30 32 34 0,ld' true 2 34 35 1,o3 (.alloc 103 1 [.i .u32 0,.i .i64 0]) 10 0,o0 (.store 2 (.tmp 10) (.tmp 35)) 7]
def ydxf:LO:=[mv' 1 36 0,fa' 1 1 10 37 0,ld' false 1 37 38 2,ix' 1 36 38 39 7,ld' false 1 39 40 15,o3 (.un .not (.tmp 40)) 41 31]
def ydpd:LO:=[o3 (.mv (.const (.bool false))) 4 0,o3 (.mv (ci' 0)) 5 1]
def yduu:LO:=[o3 (.bin .add (.tmp 32) (ci' 1)) 42 0,mv' 42 32 1]
def ycaa:LO:=[o3 (.bin .add (.tmp 20) (ci' 1)) 43 0,mv' 43 20 1]
def ycri:LO:=[o3 (.mv (.const (.bool true))) 4 0,o3 (.mv (ci' 0)) 5 1]
def c18:SC:=(.seq (.reg false ydmt) (.seq (.seq (.reg false ydvu) (.seq (.reg false ydyr) (.cond (.tmp 15) (.seq (.reg false yeap) .ret) .skip))) (.seq (.seq (.reg false ydyn) (.block 0 (.loop (.seq (.reg false ycgx) (.seq (.cond (.tmp 21) .skip (.exit 0)) (.seq (.block 1 (.seq (.reg false ydim) (.seq (.seq (.reg false ydbw) (.cond (.tmp 29) (.exit 1) .skip)) (.seq (.reg false ydon) (.block 2 (.loop (.seq (.reg false ydtd) (.seq (.cond (.tmp 33) .skip (.exit 2)) (.seq (.block 3 (.seq (.reg false ydxr) (.seq (.reg false ydxf) (.cond (.tmp 41) (.seq (.reg false ydpd) .ret) .skip)))) (.reg false yduu)))))))))) (.reg false ycaa))))))) (.seq (.reg false ycri) .ret))))
theorem ydyh:Fn 18 c18 [.t 4,.t 5]:=fn_0 Tryz.func18 (by kernel_rfl) (by kernel_rfl)
def ycrr:LO:=[o3 (.box 41 (.tmp 0)) 1 0,o3 (.mv (.const (.slice none 0 0))) 2 0]
def ydaq:LO:=[fa' 1 1 1 8 0,ld' false 1 8 9 1,ln' 9 10 3,o3 (.mk 22 1 24 [.a (.slice none 0 0)] (.tmp 10) (.tmp 10)) 11 7,mv' 11 3 15]
def ycqf:LO:=[fa' 1 1 1 12 0,ld' false 1 12 13 1,ln' 13 14 3,o3 (.mv (ci' 0)) 15 0]
def ybtf:LO:=[bn' .lss 15 14 16 0]
def ycmp:LO:=[mv' 15 17 0,ix' 1 13 15 18 0,ld' false 1 18 19 2,mv' 17 4 7,mv' 19 5 15]
def ydbe:LO:=[mv' 5 20 0,ln' 20 21 1,o3 (.mv (ci' 0)) 22 0]
def yble:LO:=[bn' .lss 22 21 23 0]
def ybvo:LO:=[ix' 2 20 22 24 0,ld' true 2 24 25 1,o3 (.alloc 103 1 [.i .u32 0,.i .i64 0]) 7 0,o0 (.store 2 (.tmp 7) (.tmp 25)) 7]
def ycbg:LO:=[mv' 3 26 0,fa' 1 1 7 27 0,ld' false 1 27 28 2,mv' 3 29 0,fa' 1 1 7 30 0,ld' false 1 30 31 16,ix' 1 29 31 32 56,ld' false 1 32 33 120,mv' 4 34 0,o3 (.bslice 3 1 1 [.i .i64 0] [(0,1,(.tmp 34))]) 35 256,o3 (.app 3 1 8 (.tmp 33) (.tmp 35)) 36 1016,ix' 1 26 28 37 2047,o0 (.store 1 (.tmp 37) (.tmp 36)) 4095]
def ybvj:LO:=[o3 (.bin .add (.tmp 22) (ci' 1)) 38 0,mv' 38 22 1]
def ybaz:LO:=[o3 (.bin .add (.tmp 15) (ci' 1)) 39 0,mv' 39 15 1]
def ybus:LO:=[mv' 3 40 0,mv' 40 2 1]
def c179:SC:=(.seq (.reg false ycrr) (.seq (.reg false ydaq) (.seq (.seq (.reg false ycqf) (.block 0 (.loop (.seq (.reg false ybtf) (.seq (.cond (.tmp 16) .skip (.exit 0)) (.seq (.block 1 (.seq (.reg false ycmp) (.seq (.reg false ydbe) (.block 2 (.loop (.seq (.reg false yble) (.seq (.cond (.tmp 23) .skip (.exit 2)) (.seq (.block 3 (.seq (.reg false ybvo) (.reg true ycbg))) (.reg false ybvj))))))))) (.reg false ybaz))))))) (.seq (.reg false ybus) .ret))))
theorem yded:Fn 179 c179 [.t 2]:=fn_0 Tryz.func179 (by kernel_rfl) (by kernel_rfl)
def ycvy:LO:=[o3 (.box 41 (.tmp 0)) 2 0,o3 (.mv (.const (.slice none 0 0))) 4 0]
def ycuy:LO:=[o3 (.mv (.const (.slice none 0 0))) 5 0]
def ycvp:LO:=[mv' 1 13 0,ln' 13 14 1,o3 (.mv (ci' 0)) 15 0]
def ybls:LO:=[bn' .lss 15 14 16 0]
def ybve:LO:=[mv' 15 17 0,ix' 1 13 15 18 0,ld' false 1 18 19 2,mv' 17 6 7,mv' 19 7 15]
def ybwc:LO:=[mv' 7 20 0]
def ybst:LO:=[mv' 5 21 0,mv' 6 22 0,o3 (.bslice 3 1 1 [.i .i64 0] [(0,1,(.tmp 22))]) 23 2,o3 (.app 3 1 8 (.tmp 21) (.tmp 23)) 24 7,mv' 24 5 15]
def ycbs:LO:=[o3 (.bin .add (.tmp 15) (ci' 1)) 25 0,mv' 25 15 1]
def ycwu:LO:=[ld' true 2 2 26 0,cl' 179 [26] 27 1,mv' 27 8 3]
def ycuo:LO:=[mv' 1 28 0,ln' 28 29 1,o3 (.mk 3 1 8 [.i .i64 0] (.tmp 29) (.tmp 29)) 30 3,mv' 30 9 7]
def ybuq:LO:=[o3 (.mv (ci' 0)) 10 0]
def ybis:LO:=[mv' 10 31 0,mv' 5 32 0,ln' 32 33 2,bn' .lss 31 33 34 7]
def ybxn:LO:=[mv' 8 37 0,mv' 5 38 0,mv' 10 39 0,ix' 1 38 39 40 6,ld' false 1 40 41 14,ix' 1 37 41 42 31,ld' false 1 42 43 63,ln' 43 44 127,o3 (.mv (ci' 0)) 45 0]
def yue:LO:=[bn' .lss 45 44 46 0]
def yzt:LO:=[ix' 1 43 45 47 0,ld' false 1 47 48 1,mv' 48 12 3]
def ybao:LO:=[mv' 9 49 0,mv' 12 50 0,ix' 1 49 50 51 3,ld' false 1 51 52 7,o3 (.bin .add (.tmp 52) (ci' 1)) 53 15,ix' 1 49 50 54 31,o0 (.store 1 (.tmp 54) (.tmp 53)) 63]
def yyw:LO:=[mv' 1 55 0,mv' 12 56 0,ix' 1 55 56 57 3,ld' false 1 57 58 7,o3 (.un .not (.tmp 58)) 59 15,mv' 59 60 31,⟨.mv (.tmp 9),some 61,some (60,true),63⟩,⟨.mv (.tmp 12),some 62,some (60,true),63⟩,⟨.idx 1 (.tmp 61) (.tmp 62),some 63,some (60,true),255⟩,⟨.load false 1 (.tmp 63),some 64,some (60,true),511⟩,⟨.faddr 1 1 (.tmp 2),some 65,some (60,true),63⟩,⟨.load false 1 (.tmp 65),some 66,some (60,true),1087⟩,⟨.mv (.tmp 12),some 67,some (60,true),63⟩,⟨.idx 1 (.tmp 66) (.tmp 67),some 68,some (60,true),7231⟩,⟨.load false 1 (.tmp 68),some 69,some (60,true),15423⟩,⟨.len (.tmp 69),some 70,some (60,true),31807⟩,⟨.bin .eql (.tmp 64) (.tmp 70),some 71,some (60,true),65535⟩,o3 (.pick (.tmp 60) (.tmp 71) (.const (.bool false))) 72 131071]
def ybsu:LO:=[mv' 5 73 0,mv' 12 74 0,o3 (.bslice 3 1 1 [.i .i64 0] [(0,1,(.tmp 74))]) 75 2,o3 (.app 3 1 8 (.tmp 73) (.tmp 75)) 76 7,mv' 76 5 15]
def yzn:LO:=[o3 (.bin .add (.tmp 45) (ci' 1)) 77 0,mv' 77 45 1]
def yceg:LO:=[mv' 10 35 0,o3 (.bin .add (.tmp 35) (ci' 1)) 36 1,mv' 36 10 3]
def ybue:LO:=[mv' 5 78 0,mv' 78 4 1]
def c135:SC:=(.seq (.reg false ycvy) (.seq (.reg false ycuy) (.seq (.seq (.reg false ycvp) (.block 0 (.loop (.seq (.reg false ybls) (.seq (.cond (.tmp 16) .skip (.exit 0)) (.seq (.block 1 (.seq (.reg false ybve) (.seq (.reg false ybwc) (.cond (.tmp 20) (.reg false ybst) .skip)))) (.reg false ycbs))))))) (.seq (.reg false ycwu) (.seq (.reg false ycuo) (.seq (.seq (.reg false ybuq) (.block 2 (.loop (.seq (.seq (.reg false ybis) (.cond (.tmp 34) .skip (.exit 2))) (.seq (.block 3 (.seq (.reg false ybxn) (.block 4 (.loop (.seq (.reg false yue) (.seq (.cond (.tmp 46) .skip (.exit 4)) (.seq (.block 5 (.seq (.reg false yzt) (.seq (.reg false ybao) (.seq (.reg true yyw) (.cond (.tmp 72) (.reg false ybsu) .skip))))) (.reg false yzn)))))))) (.reg false yceg)))))) (.seq (.reg false ybue) .ret)))))))
theorem ydht:Fn 135 c135 [.t 4]:=fn_0 Tryz.func135 (by kernel_rfl) (by kernel_rfl)
def ydsr:LO:=[o3 (.box 41 (.tmp 0)) 2 0,o3 (.mv (.const (.slice none 0 0))) 4 0,o3 (.mv (ci' 0)) 5 2]
def ydsd:LO:=[ld' true 2 2 10 0,mv' 1 11 0,cl' 73 [10,11] 12 3,mv' 12 6 7]
def ydnk:LO:=[mv' 6 13 0,o3 (.bin .neq (.tmp 13) (ci' 0)) 14 1]
def yebj:LO:=[mv' 6 15 0,o3 (.mv (.const (.slice none 0 0))) 4 0,mv' 15 5 3]
def yduq:LO:=[mv' 1 16 0,ln' 16 17 1,o3 (.mk 4 1 1 [.b false] (.tmp 17) (.tmp 17)) 18 3,mv' 18 7 7]
def ydqr:LO:=[ld' true 2 2 19 0,mv' 1 20 0,cl' 135 [19,20] 21 3,ln' 21 22 7,o3 (.mv (ci' 0)) 23 0]
def ydch:LO:=[bn' .lss 23 22 24 0]
def ydsm:LO:=[ix' 1 21 23 25 0,ld' false 1 25 26 1,mv' 26 9 3]
def ydwi:LO:=[mv' 7 27 0,mv' 9 28 0,ix' 1 27 28 29 3,o0 (.store 1 (.tmp 29) (.const (.bool true))) 7]
def ydvk:LO:=[o3 (.bin .add (.tmp 23) (ci' 1)) 30 0,mv' 30 23 1]
def ycrl:LO:=[mv' 7 31 0,mv' 31 4 1,o3 (.mv (ci' 0)) 5 3]
def c72:SC:=(.seq (.reg false ydsr) (.seq (.seq (.reg false ydsd) (.seq (.reg false ydnk) (.cond (.tmp 14) (.seq (.reg false yebj) .ret) .skip))) (.seq (.reg false yduq) (.seq (.seq (.reg false ydqr) (.block 0 (.loop (.seq (.reg false ydch) (.seq (.cond (.tmp 24) .skip (.exit 0)) (.seq (.block 1 (.seq (.reg false ydsm) (.reg false ydwi))) (.reg false ydvk))))))) (.seq (.reg false ycrl) .ret)))))
theorem ydhz:FnM 72 c72 [.t 4,.t 5]:=fn_m Tryz.func72 (by kernel_rfl) (by kernel_rfl)
def ydou:LO:=[o3 (.box 41 (.tmp 0)) 2 0,o3 (.mv (.const (.slice none 0 0))) 4 0,o3 (.mv (ci' 0)) 5 2]
def ydwo:LO:=[ld' true 2 2 10 0,mv' 1 11 0,cl' 72 [10,11] 12 3,mv' 12 9 7,xt' 9 0 13 15,xt' 9 1 14 15,mv' 13 6 31,mv' 14 7 127]
def ydkq:LO:=[mv' 7 15 0,o3 (.bin .neq (.tmp 15) (ci' 0)) 16 1]
def ydzr:LO:=[mv' 7 17 0,o3 (.mv (.const (.slice none 0 0))) 4 0,mv' 17 5 3]
def ydss:LO:=[mv' 6 18 0,ln' 18 19 1,o3 (.mv (ci' 0)) 20 0]
def ydji:LO:=[bn' .lss 20 19 21 0]
def ydmk:LO:=[mv' 20 22 0,mv' 22 8 1]
def ydsq:LO:=[mv' 6 23 0,mv' 8 24 0,mv' 6 25 0,mv' 8 26 0,ix' 1 25 26 27 12,ld' false 1 27 28 28,o3 (.un .not (.tmp 28)) 29 60,ix' 1 23 24 30 127,o0 (.store 1 (.tmp 30) (.tmp 29)) 255]
def ydqd:LO:=[o3 (.bin .add (.tmp 20) (ci' 1)) 31 0,mv' 31 20 1]
def ydqv:LO:=[mv' 6 32 0,mv' 32 4 1,o3 (.mv (ci' 0)) 5 3]
def c17:SC:=(.seq (.reg false ydou) (.seq (.reg false ydwo) (.seq (.seq (.reg false ydkq) (.cond (.tmp 16) (.seq (.reg false ydzr) .ret) .skip)) (.seq (.seq (.reg false ydss) (.block 0 (.loop (.seq (.reg false ydji) (.seq (.cond (.tmp 21) .skip (.exit 0)) (.seq (.block 1 (.seq (.reg false ydmk) (.reg false ydsq))) (.reg false ydqd))))))) (.seq (.reg false ydqv) .ret)))))
theorem ydga:FnU 17 c17 [.t 4,.t 5]:=fn_u Tryz.func17 (by kernel_rfl) (by kernel_rfl)
def yduo:LO:=[o3 (.box 41 (.tmp 0)) 2 0,o3 (.mv (.const (.slice none 0 0))) 4 0,o3 (.mv (ci' 0)) 5 2]
def ydwc:LO:=[ld' true 2 2 8 0,mv' 1 9 0,cl' 73 [8,9] 10 3,mv' 10 6 7]
def ydqz:LO:=[mv' 6 11 0,o3 (.bin .neq (.tmp 11) (ci' 0)) 12 1]
def yeaz:LO:=[mv' 6 13 0,o3 (.mv (.const (.slice none 0 0))) 4 0,mv' 13 5 3]
def ydmg:LO:=[ld' true 2 2 14 0,mv' 1 15 0,cl' 135 [14,15] 16 3,mv' 16 7 7]
def ydof:LO:=[mv' 7 17 0,ln' 17 18 1,mv' 1 19 0,ln' 19 20 4,bn' .lss 18 20 21 15]
def yeat:LO:=[o3 (.mv (.const (.slice none 0 0))) 4 0,o3 (.mv (ci' 14)) 5 1]
def ydww:LO:=[mv' 7 22 0,mv' 22 4 1,o3 (.mv (ci' 0)) 5 3]
def c74:SC:=(.seq (.reg false yduo) (.seq (.seq (.reg false ydwc) (.seq (.reg false ydqz) (.cond (.tmp 12) (.seq (.reg false yeaz) .ret) .skip))) (.seq (.reg false ydmg) (.seq (.seq (.reg false ydof) (.cond (.tmp 21) (.seq (.reg false yeat) .ret) .skip)) (.seq (.reg false ydww) .ret)))))
theorem ydun:Fn 74 c74 [.t 4,.t 5]:=fn_0 Tryz.func74 (by kernel_rfl) (by kernel_rfl)
def ydwv:LO:=[o3 (.box 41 (.tmp 0)) 3 0,o3 (.mv (.const (.slice none 0 0))) 6 0,o3 (.mv (ci' 0)) 7 2]
def ydkr:LO:=[ld' true 2 3 16 0,mv' 1 17 0,cl' 74 [16,17] 18 3,mv' 18 15 7,xt' 15 0 19 15,xt' 15 1 20 15,mv' 19 8 31,mv' 20 9 127]
def yduz:LO:=[mv' 9 21 0,o3 (.bin .neq (.tmp 21) (ci' 0)) 22 1]
def ydzt:LO:=[mv' 9 23 0,o3 (.mv (.const (.slice none 0 0))) 6 0,mv' 23 7 3]
def ydqn:LO:=[mv' 1 24 0,ln' 24 25 1,o3 (.mk 3 1 8 [.i .i64 0] (.tmp 25) (.tmp 25)) 26 3,mv' 26 10 7]
def ydoq:LO:=[mv' 8 27 0,ln' 27 28 1,o3 (.mv (ci' 0)) 29 0]
def yclv:LO:=[bn' .lss 29 28 30 0]
def ydjd:LO:=[ix' 1 27 29 31 0,ld' false 1 31 32 1,mv' 32 12 3]
def ydbh:LO:=[mv' 1 33 0,mv' 12 34 0,ix' 1 33 34 35 3,ld' false 1 35 36 7]
def ydnr:LO:=[fa' 1 1 3 37 0,ld' false 1 37 38 1,mv' 12 39 0,ix' 1 38 39 40 7,ld' false 1 40 41 15,ln' 41 42 31,o3 (.mv (ci' 0)) 43 0]
def ycfa:LO:=[bn' .lss 43 42 44 0]
def ycoh:LO:=[ix' 2 41 43 45 0,ld' true 2 45 46 1,o3 (.alloc 103 1 [.i .u32 0,.i .i64 0]) 14 0,o0 (.store 2 (.tmp 14) (.tmp 46)) 7]
def ycmr:LO:=[mv' 10 47 0,mv' 12 48 0,mv' 10 49 0,mv' 12 50 0,ix' 1 49 50 51 12,ld' false 1 51 52 28,mv' 2 53 0,ld' true 2 14 54 0,o3 (.call (.tmp 53) [(.tmp 54)]) 55 192,mv' 10 56 0,fa' 1 1 14 57 0,ld' false 1 57 58 1024,ix' 1 56 58 59 3584,ld' false 1 59 60 7680,bn' .add 55 60 61 16320,o3 (.mm true (.tmp 52) (.tmp 61)) 62 32764,ix' 1 47 48 63 65535,o0 (.store 1 (.tmp 63) (.tmp 62)) 131071]
def yczm:LO:=[o3 (.bin .add (.tmp 43) (ci' 1)) 64 0,mv' 64 43 1]
def ybyq:LO:=[o3 (.bin .add (.tmp 29) (ci' 1)) 65 0,mv' 65 29 1]
def ycnu:LO:=[mv' 10 66 0,mv' 66 6 1,o3 (.mv (ci' 0)) 7 3]
def c77:SC:=(.seq (.reg false ydwv) (.seq (.reg false ydkr) (.seq (.seq (.reg false yduz) (.cond (.tmp 22) (.seq (.reg false ydzt) .ret) .skip)) (.seq (.reg false ydqn) (.seq (.seq (.reg false ydoq) (.block 0 (.loop (.seq (.reg false yclv) (.seq (.cond (.tmp 30) .skip (.exit 0)) (.seq (.block 1 (.seq (.reg false ydjd) (.seq (.seq (.reg false ydbh) (.cond (.tmp 36) (.exit 1) .skip)) (.seq (.reg false ydnr) (.block 2 (.loop (.seq (.reg false ycfa) (.seq (.cond (.tmp 44) .skip (.exit 2)) (.seq (.block 3 (.seq (.reg false ycoh) (.reg true ycmr))) (.reg false yczm)))))))))) (.reg false ybyq))))))) (.seq (.reg false ycnu) .ret))))))
theorem ydtk:Fn 77 c77 [.t 6,.t 7]:=fn_0 Tryz.func77 (by kernel_rfl) (by kernel_rfl)
def ydmv:LO:=[o3 (.box 103 (.tmp 0)) 1 0,o3 (.mv (ci' 0)) 2 0]
def ydwj:LO:=[fa' 0 1 1 3 0,ld' false 1 3 4 1,cl' 113 [4] 5 3,mv' 5 2 7]
def c78:SC:=(.seq (.reg false ydmv) (.seq (.reg false ydwj) .ret))
theorem ydoj:Fn 78 c78 [.t 2]:=fn_0 Tryz.func78 (by kernel_rfl) (by kernel_rfl)
def ydyw:LO:=[o3 (.box 41 (.tmp 0)) 2 0,o3 (.mv (.const (.slice none 0 0))) 4 0,o3 (.mv (ci' 0)) 5 2]
def ydwx:LO:=[ld' true 2 2 6 0,mv' 1 7 0,o3 (.call (.func 77) [(.tmp 6),(.tmp 7),(.func 78)]) 8 3,xt' 8 0 9 7,xt' 8 1 10 7,mv' 9 4 31,mv' 10 5 63]
def c20:SC:=(.seq (.reg false ydyw) (.seq (.reg false ydwx) .ret))
theorem ydld:Fn 20 c20 [.t 4,.t 5]:=fn_0 Tryz.func20 (by kernel_rfl) (by kernel_rfl)
def ydic:LO:=[o3 (.box 41 (.tmp 0)) 3 0,o3 (.box 109 (.tmp 1)) 4 0,o3 (.box 103 (.tmp 2)) 5 0,o3 (.alloc 109 1 [.i .i64 0,.i .u32 0]) 6 0,o3 (.mv (.const (.bool false))) 7 0]
def ydft:LO:=[fa' 1 1 4 9 0,ld' false 1 9 10 1,fa' 0 1 5 11 0,ld' false 1 11 12 4,bn' .andNot 10 12 13 15,fa' 0 1 3 14 0,ld' false 1 14 15 32,fa' 1 1 5 16 0,ld' false 1 16 17 128,ix' 1 15 17 18 480,ld' false 1 18 19 992,bn' .and 13 19 20 2047,mv' 20 8 4095]
def ydfn:LO:=[mv' 8 21 0,o3 (.bin .eql (.tmp 21) (.const (.int .u32 0))) 22 1]
def ydwp:LO:=[fa' 1 1 5 23 0,ld' false 1 23 24 1,fa' 0 1 3 25 0,ld' false 1 25 26 4,fa' 1 1 5 27 0,ld' false 1 27 28 16,ix' 1 26 28 29 60,ld' false 1 29 30 124,o3 (.build [.i .i64 0,.i .u32 0] [(0,1,(.tmp 24)),(1,1,(.tmp 30))]) 31 255,o0 (.store 2 (.tmp 6) (.tmp 31)) 511,o3 (.mv (.const (.bool true))) 7 1023]
def ydxl:LO:=[fa' 1 1 5 32 0,ld' false 1 32 33 1,mv' 8 34 0,o3 (.build [.i .i64 0,.i .u32 0] [(0,1,(.tmp 33)),(1,1,(.tmp 34))]) 35 7,o0 (.store 2 (.tmp 6) (.tmp 35)) 15,o3 (.mv (.const (.bool false))) 7 31]
def c76:SC:=(.seq (.reg false ydic) (.seq (.reg true ydft) (.seq (.seq (.reg false ydfn) (.cond (.tmp 22) (.seq (.reg true ydwp) .ret) .skip)) (.seq (.reg false ydxl) .ret))))
theorem ydms:Fn 76 c76 [.c 6 true 2,.t 7]:=fn_0 Tryz.func76 (by kernel_rfl) (by kernel_rfl)
def ydrb:LO:=[o3 (.box 41 (.tmp 0)) 2 0,o3 (.box 45 (.tmp 1)) 3 0,o3 (.mv (.const (.slice none 0 0))) 4 0,o3 (.mv (ci' 0)) 5 4]
def ydpk:LO:=[o3 (.mkmap 0) 18 0,o3 (.alloc 166 1 [.a (.map none)]) 6 0,o0 (.store 1 (.tmp 6) (.tmp 18)) 3]
def ydrm:LO:=[o3 (.alloc 167 1 [.a (.slice none 0 0)]) 7 0]
def ydny:LO:=[o3 (.mkfn 137 [] [(.tmp 3),(.tmp 6),(.tmp 7)]) 19 0,mv' 19 8 1]
def ydut:LO:=[fa' 0 1 2 20 0,ld' false 1 20 21 1,ln' 21 22 3,o3 (.mv (ci' 0)) 23 0]
def ydgg:LO:=[bn' .lss 23 22 24 0]
def ydwn:LO:=[mv' 23 25 0,ix' 1 21 23 26 0,ld' false 1 26 27 2,mv' 25 9 7,mv' 27 10 15]
def ydtz:LO:=[mv' 8 28 0,mv' 9 29 0,mv' 10 30 0,o3 (.build [.i .i64 0,.i .u32 0] [(0,1,(.tmp 29)),(1,1,(.tmp 30))]) 31 6,o3 (.call (.tmp 28) [(.tmp 31)]) 32 15]
def ydwm:LO:=[o3 (.bin .add (.tmp 23) (ci' 1)) 33 0,mv' 33 23 1]
def ydmu:LO:=[ld' false 1 3 34 0,ln' 34 35 1,o3 (.mk 38 1 24 [.a (.slice none 0 0)] (.tmp 35) (.tmp 35)) 36 3,mv' 36 11 7]
def ycxu:LO:=[o3 (.mv (ci' 0)) 12 0]
def ybkk:LO:=[mv' 12 37 0,ld' false 1 7 38 0,ln' 38 39 2,bn' .lss 37 39 40 7]
def ybxf:LO:=[ld' false 1 7 43 0,ln' 43 44 1,o3 (.bin .gtr (.tmp 44) (ci' 262144)) 45 3]
def ydpc:LO:=[o3 (.mv (.const (.slice none 0 0))) 4 0,o3 (.mv (ci' 3)) 5 1]
def ycdp:LO:=[ld' false 1 7 46 0,mv' 12 47 0,ix' 2 46 47 48 3,ld' true 2 48 49 7,o3 (.alloc 109 1 [.i .i64 0,.i .u32 0]) 13 0,o0 (.store 2 (.tmp 13) (.tmp 49)) 31]
def ycam:LO:=[mv' 11 50 0,fa' 0 1 13 51 0,ld' false 1 51 52 2,mv' 11 53 0,fa' 0 1 13 54 0,ld' false 1 54 55 16,ix' 1 53 55 56 56,ld' false 1 56 57 120,fa' 1 1 13 58 0,ld' false 1 58 59 256,o3 (.bslice 77 1 1 [.i .u32 0] [(0,1,(.tmp 59))]) 60 768,o3 (.app 77 1 4 (.tmp 57) (.tmp 60)) 61 2040,ix' 1 50 52 62 4095,o0 (.store 1 (.tmp 62) (.tmp 61)) 8191]
def ybvw:LO:=[fa' 1 1 2 63 0,ld' false 1 63 64 1,fa' 0 1 13 65 0,ld' false 1 65 66 4,ix' 1 64 66 67 15,ld' false 1 67 68 31,ln' 68 69 63,o3 (.mv (ci' 0)) 70 0]
def ybec:LO:=[bn' .lss 70 69 71 0]
def ycco:LO:=[ix' 2 68 70 72 0,ld' true 2 72 73 1,o3 (.alloc 103 1 [.i .u32 0,.i .i64 0]) 15 0,o0 (.store 2 (.tmp 15) (.tmp 73)) 7]
def ybtx:LO:=[ld' true 2 2 75 0,ld' true 2 13 76 0,ld' true 2 15 77 0,cl' 76 [75,76,77] 78 7,mv' 78 74 15,xt' 74 0 79 31,xt' 74 1 80 31,o3 (.alloc 109 1 [.i .i64 0,.i .u32 0]) 16 0,o0 (.store 2 (.tmp 16) (.tmp 79)) 191,mv' 80 17 511]
def ybud:LO:=[mv' 8 81 0,ld' true 2 16 82 0,o3 (.call (.tmp 81) [(.tmp 82)]) 83 3]
def ybsq:LO:=[o3 (.bin .add (.tmp 70) (ci' 1)) 84 0,mv' 84 70 1]
def ycap:LO:=[mv' 12 41 0,o3 (.bin .add (.tmp 41) (ci' 1)) 42 1,mv' 42 12 3]
def ycxq:LO:=[mv' 11 85 0,mv' 85 4 1,o3 (.mv (ci' 0)) 5 3]
def c75:SC:=(.seq (.reg false ydrb) (.seq (.reg false ydpk) (.seq (.reg false ydrm) (.seq (.reg false ydny) (.seq (.seq (.reg false ydut) (.block 0 (.loop (.seq (.reg false ydgg) (.seq (.cond (.tmp 24) .skip (.exit 0)) (.seq (.block 1 (.seq (.reg false ydwn) (.reg false ydtz))) (.reg false ydwm))))))) (.seq (.reg false ydmu) (.seq (.seq (.reg false ycxu) (.block 2 (.loop (.seq (.seq (.reg false ybkk) (.cond (.tmp 40) .skip (.exit 2))) (.seq (.block 3 (.seq (.seq (.reg false ybxf) (.cond (.tmp 45) (.seq (.reg false ydpc) .ret) .skip)) (.seq (.reg false ycdp) (.seq (.reg true ycam) (.seq (.reg false ybvw) (.block 4 (.loop (.seq (.reg false ybec) (.seq (.cond (.tmp 71) .skip (.exit 4)) (.seq (.block 5 (.seq (.reg false ycco) (.seq (.reg false ybtx) (.reg false ybud)))) (.reg false ybsq))))))))))) (.reg false ycap)))))) (.seq (.reg false ycxq) .ret))))))))
theorem ydff:FnU 75 c75 [.t 4,.t 5]:=fn_u Tryz.func75 (by kernel_rfl) (by kernel_rfl)
def ybms:LO:=[o3 (.box 109 (.tmp 0)) 4 0]
def yblp:LO:=[ld' false 1 1 5 0,fa' 0 1 4 6 0,ld' false 1 6 7 2,ix' 1 5 7 8 7,ld' false 1 8 9 15,o3 (.un .not (.tmp 9)) 10 31,mv' 10 11 63,⟨.load false 1 (.tmp 2),some 12,some (11,true),127⟩,⟨.load true 2 (.tmp 4),some 13,some (11,true),127⟩,⟨.mget 0 (.tmp 12) (.tmp 13),some 14,some (11,true),511⟩,⟨.un .not (.tmp 14),some 15,some (11,true),1023⟩,o3 (.pick (.tmp 11) (.tmp 15) (.const (.bool false))) 16 2047]
def ycph:LO:=[ld' false 1 2 17 0,ld' true 2 4 18 0,o0 (.mset 0 (.tmp 17) (.tmp 18) (.const (.bool true))) 3]
def ycug:LO:=[ld' false 1 3 19 0,ld' true 2 4 20 0,o3 (.bslice 109 2 1 [.i .i64 0,.i .u32 0] [(0,2,(.tmp 20))]) 21 2,o3 (.app 109 2 16 (.tmp 19) (.tmp 21)) 22 7,o0 (.store 1 (.tmp 3) (.tmp 22)) 15]
def c137:SC:=(.seq (.reg false ybms) (.seq (.reg false yblp) (.cond (.tmp 16) (.seq (.reg false ycph) (.reg false ycug)) .skip)))
theorem ycki:FnM 137 c137 []:=fn_m Tryz.func137 (by kernel_rfl) (by kernel_rfl)
def ydli:LO:=[o3 (.box 41 (.tmp 0)) 2 0,o3 (.mv (.const (.slice none 0 0))) 4 0,o3 (.mv (ci' 0)) 5 2]
def ydxn:LO:=[ld' true 2 2 24 0,mv' 1 25 0,cl' 74 [24,25] 26 3,mv' 26 23 7,xt' 23 0 27 15,xt' 23 1 28 15,mv' 27 6 31,mv' 28 7 127]
def ydqx:LO:=[mv' 7 29 0,o3 (.bin .neq (.tmp 29) (ci' 0)) 30 1]
def yeaq:LO:=[mv' 7 31 0,o3 (.mv (.const (.slice none 0 0))) 4 0,mv' 31 5 3]
def ydsx:LO:=[ld' true 2 2 33 0,mv' 1 34 0,cl' 75 [33,34] 35 3,mv' 35 32 7,xt' 32 0 36 15,xt' 32 1 37 15,mv' 36 8 31,mv' 37 7 127]
def ydtu:LO:=[mv' 7 38 0,o3 (.bin .neq (.tmp 38) (ci' 0)) 39 1]
def ydzq:LO:=[mv' 7 40 0,o3 (.mv (.const (.slice none 0 0))) 4 0,mv' 40 5 3]
def ydos:LO:=[o3 (.mkmap 1) 41 0,mv' 41 9 1]
def ydks:LO:=[mv' 6 42 0,ln' 42 43 1,o3 (.mv (ci' 0)) 44 0]
def ydfc:LO:=[bn' .lss 44 43 45 0]
def ycyj:LO:=[ix' 1 42 44 46 0,ld' false 1 46 47 1,mv' 47 11 3]
def ycvk:LO:=[mv' 8 48 0,mv' 11 49 0,ix' 1 48 49 50 3,ld' false 1 50 51 7,ln' 51 52 15,o3 (.mv (ci' 0)) 53 0]
def ybso:LO:=[bn' .lss 53 52 54 0]
def ycpy:LO:=[ix' 1 51 53 55 0,ld' false 1 55 56 1,mv' 56 13 3]
def ycnc:LO:=[mv' 11 57 0,mv' 13 58 0,o3 (.build [.i .i64 0,.i .u32 0] [(0,1,(.tmp 57)),(1,1,(.tmp 58))]) 59 3,o3 (.alloc 109 1 [.i .i64 0,.i .u32 0]) 14 0,o0 (.store 2 (.tmp 14) (.tmp 59)) 15]
def ycsf:LO:=[o3 (.mv (ci' 1)) 15 0]
def ycwt:LO:=[fa' 1 1 2 60 0,ld' false 1 60 61 1,mv' 11 62 0,ix' 1 61 62 63 7,ld' false 1 63 64 15,ln' 64 65 31,o3 (.mv (ci' 0)) 66 0]
def ybbv:LO:=[bn' .lss 66 65 67 0]
def yboc:LO:=[ix' 2 64 66 68 0,ld' true 2 68 69 1,o3 (.alloc 103 1 [.i .u32 0,.i .i64 0]) 17 0,o0 (.store 2 (.tmp 17) (.tmp 69)) 7]
def yblk:LO:=[mv' 1 70 0,fa' 1 1 17 71 0,ld' false 1 71 72 2,ix' 1 70 72 73 7,ld' false 1 73 74 15]
def ybxz:LO:=[ld' true 2 2 76 0,ld' true 2 14 77 0,ld' true 2 17 78 0,cl' 76 [76,77,78] 79 7,mv' 79 75 15,xt' 75 0 80 31,xt' 75 1 81 31,o3 (.alloc 109 1 [.i .i64 0,.i .u32 0]) 18 0,o0 (.store 2 (.tmp 18) (.tmp 80)) 191,mv' 81 19 511]
def ybtg:LO:=[mv' 19 82 0]
def ycrs:LO:=[mv' 15 83 0,mv' 9 84 0,ld' true 2 18 85 0,o3 (.mget 1 (.tmp 84) (.tmp 85)) 86 6,o3 (.bin .add (ci' 1) (.tmp 86)) 87 14,o3 (.mm true (.tmp 83) (.tmp 87)) 88 31,mv' 88 15 63]
def ycuc:LO:=[mv' 15 89 0,mv' 9 90 0,ld' true 2 18 91 0,o3 (.mget 1 (.tmp 90) (.tmp 91)) 92 6,o3 (.mm true (.tmp 89) (.tmp 92)) 93 15,mv' 93 15 31]
def yblq:LO:=[o3 (.bin .add (.tmp 66) (ci' 1)) 94 0,mv' 94 66 1]
def ydaa:LO:=[mv' 9 95 0,ld' true 2 14 96 0,mv' 15 97 0,o0 (.mset 1 (.tmp 95) (.tmp 96) (.tmp 97)) 7]
def ycnn:LO:=[o3 (.bin .add (.tmp 53) (ci' 1)) 98 0,mv' 98 53 1]
def ycyi:LO:=[o3 (.bin .add (.tmp 44) (ci' 1)) 99 0,mv' 99 44 1]
def ycmh:LO:=[mv' 1 100 0,ln' 100 101 1,o3 (.mk 3 1 8 [.i .i64 0] (.tmp 101) (.tmp 101)) 102 3,mv' 102 20 7]
def ycor:LO:=[fa' 0 1 2 103 0,ld' false 1 103 104 1,ln' 104 105 3,o3 (.mv (ci' 0)) 106 0]
def ybng:LO:=[bn' .lss 106 105 107 0]
def ycct:LO:=[mv' 106 108 0,ix' 1 104 106 109 0,ld' false 1 109 110 2,mv' 108 21 7,mv' 110 22 15]
def ybwb:LO:=[mv' 1 111 0,mv' 21 112 0,ix' 1 111 112 113 3,ld' false 1 113 114 7,o3 (.un .not (.tmp 114)) 115 15]
def yczb:LO:=[mv' 20 116 0,mv' 21 117 0,mv' 9 118 0,mv' 21 119 0,mv' 22 120 0,o3 (.build [.i .i64 0,.i .u32 0] [(0,1,(.tmp 119)),(1,1,(.tmp 120))]) 121 24,o3 (.mget 1 (.tmp 118) (.tmp 121)) 122 60,ix' 1 116 117 123 127,o0 (.store 1 (.tmp 123) (.tmp 122)) 255]
def ycfh:LO:=[o3 (.bin .add (.tmp 106) (ci' 1)) 124 0,mv' 124 106 1]
def ycqa:LO:=[mv' 20 125 0,mv' 125 4 1,o3 (.mv (ci' 0)) 5 3]
def c19:SC:=(.seq (.reg false ydli) (.seq (.reg false ydxn) (.seq (.seq (.reg false ydqx) (.cond (.tmp 30) (.seq (.reg false yeaq) .ret) .skip)) (.seq (.reg false ydsx) (.seq (.seq (.reg false ydtu) (.cond (.tmp 39) (.seq (.reg false ydzq) .ret) .skip)) (.seq (.reg false ydos) (.seq (.seq (.reg false ydks) (.block 0 (.loop (.seq (.reg false ydfc) (.seq (.cond (.tmp 45) .skip (.exit 0)) (.seq (.block 1 (.seq (.reg false ycyj) (.seq (.reg false ycvk) (.block 2 (.loop (.seq (.reg false ybso) (.seq (.cond (.tmp 54) .skip (.exit 2)) (.seq (.block 3 (.seq (.reg false ycpy) (.seq (.reg false ycnc) (.seq (.reg false ycsf) (.seq (.seq (.reg false ycwt) (.block 4 (.loop (.seq (.reg false ybbv) (.seq (.cond (.tmp 67) .skip (.exit 4)) (.seq (.block 5 (.seq (.reg false yboc) (.seq (.seq (.reg false yblk) (.cond (.tmp 74) (.exit 5) .skip)) (.seq (.reg false ybxz) (.seq (.reg false ybtg) (.cond (.tmp 82) (.reg false ycrs) (.reg false ycuc))))))) (.reg false yblq))))))) (.reg false ydaa)))))) (.reg false ycnn))))))))) (.reg false ycyi))))))) (.seq (.reg false ycmh) (.seq (.seq (.reg false ycor) (.block 6 (.loop (.seq (.reg false ybng) (.seq (.cond (.tmp 107) .skip (.exit 6)) (.seq (.block 7 (.seq (.reg false ycct) (.seq (.reg false ybwb) (.cond (.tmp 115) (.reg false yczb) .skip)))) (.reg false ycfh))))))) (.seq (.reg false ycqa) .ret))))))))))
theorem ydxu:Fn 19 c19 [.t 4,.t 5]:=fn_0 Tryz.func19 (by kernel_rfl) (by kernel_rfl)
def ydsb:LO:=[o3 (.box 92 (.tmp 0)) 1 0,o3 (.mv (.const (.nilFunc))) 2 0]
def ydsi:LO:=[o3 (.mkfn 134 [] [(.tmp 1)]) 3 0,mv' 3 2 1]
def c68:SC:=(.seq (.reg false ydsb) (.seq (.reg false ydsi) .ret))
theorem ydxb:Fn 68 c68 [.t 2]:=fn_0 Tryz.func68 (by kernel_rfl) (by kernel_rfl)
end Sh
end
section
def szP(b:Int×Int):Nat:=(b.2-b.1+1).toNat
def ybq:List (Int×Int)->Nat
 |[]=>1
 |b::bs=>szP b*ybq bs
def ybl:List (List (Int×Int))->Nat
 |[]=>1
 |r::rs=>ybq r*ybl rs
def unR:List (Int×Int)->Nat->List Int×Nat
 |[],k=>([],k)
 |b::bs,k=>((b.1+(((unR bs k).2%szP b:Nat):Int))::(unR bs k).1,(unR bs k).2/szP b)
def unT:List (List (Int×Int))->Nat->Conf×Nat
 |[],k=>([],k)
 |r::rs,k=>((unR r (unT rs k).2).1::(unT rs k).1,(unR r (unT rs k).2).2)
def rkR:List (Int×Int)->List Int->Int
 |b::bs,x::xs=>(x-b.1)*ybq bs+rkR bs xs
 |_,_=>0
def rkT:List (List (Int×Int))->Conf->Int
 |r::rs,c::cs=>rkR r c*ybl rs+rkT rs cs
 |_,_=>0
def inR:List (Int×Int)->List Int->Prop
 |[],[]=>True
 |b::bs,x::xs=>(b.1<=x/\x<=b.2)/\inR bs xs
 |_,_=>False
def inT:List (List (Int×Int))->Conf->Prop
 |[],[]=>True
 |r::rs,c::cs=>inR r c/\inT rs cs
 |_,_=>False
def bdR(bs:List (Int×Int)):Prop:=∀b∈bs,b.1<=b.2
def bdT(rs:List (List (Int×Int))):Prop:=∀r∈rs,bdR r
theorem yol{b:Int×Int}(h:b.1<=b.2):0<szP b/\(szP b:Int)=b.2-b.1+1:=by unfold szP;omega
theorem ykr:∀{bs:List (Int×Int)},bdR bs->0<ybq bs
 |[],_=>by decide
 |b::bs,h=>zAJ (yol (h b zA)).1 (ykr fun x hx=>h x (zB _ hx))
theorem ynt:∀{rs:List (List (Int×Int))},bdT rs->0<ybl rs
 |[],_=>by decide
 |r::rs,h=>zAJ (ykr (h r zA)) (ynt fun x hx=>h x (zB _ hx))
theorem ybiw:∀(bs:List (Int×Int)) (k:Nat),(unR bs k).2=k/ybq bs
 |[],k=>by simp[unR,ybq]
 | b::bs,k=>by
   show(unR bs k).2/szP b=k/(szP b*ybq bs);rw[ybiw bs k,zU,zG]
theorem yccg:∀(rs:List (List (Int×Int))) (k:Nat),(unT rs k).2=k/ybl rs
 |[],k=>by simp[unT,ybl]
 | r::rs,k=>by
   show(unR r (unT rs k).2).2=k/(ybq r*ybl rs);rw[ybiw,yccg rs k,zU,zG]
theorem ycmq:∀(bs:List (Int×Int)) (k:Nat),rkR bs (unR bs k).1=((k%ybq bs:Nat):Int)
 |[],k=>by simp[rkR,ybq,zAK]
 | b::bs,k=>by
   show(b.1+(((unR bs k).2%szP b:Nat):Int)-b.1)*(ybq bs:Int)+rkR bs (unR bs k).1=((k%(szP b*ybq bs):Nat):Int);rw[ycmq bs k,ybiw,zG (szP b),zAL,zG (ybq bs) (k/ybq bs%szP b),zM,zD];rw[show b.1+((k/ybq bs%szP b:Nat):Int)-b.1=((k/ybq bs%szP b:Nat):Int)by omega]
   omega
theorem ycmt:∀{bs:List (Int×Int)}(k:Nat),bdR bs->inR bs (unR bs k).1
 |[],_,_=>trivial
 | b::bs,k,h=>by
   have hb:=yol (h b zA);have hm:=zAP (unR bs k).2 hb.1;exact⟨⟨by omega,by omega⟩,ycmt k fun x hx=>h x (zB _ hx)⟩
theorem ywz:∀{rs:List (List (Int×Int))}(k:Nat),bdT rs->inT rs (unT rs k).1
 |[],_,_=>trivial
 |r::rs,k,h=>⟨ycmt _ (h r zA),ywz k fun x hx=>h x (zB _ hx)⟩
theorem ybnz:∀(rs:List (List (Int×Int))) (k:Nat),rkT rs (unT rs k).1=((k%ybl rs:Nat):Int)
 |[],k=>by simp[rkT,ybl,zAK]
 | r::rs,k=>by
   show rkR r (unR r (unT rs k).2).1*(ybl rs:Int)+rkT rs (unT rs k).1=((k%(ybq r*ybl rs):Nat):Int);rw[ycmq,ybnz rs k,yccg,zG (ybq r),zAL,zG (ybl rs) (k/ybl rs%ybq r),zM,zD];omega
theorem ycrz:∀{bs:List (Int×Int)}{xs:List Int},inR bs xs->0<=rkR bs xs/\rkR bs xs<ybq bs/\∀m:Nat,unR bs ((rkR bs xs).toNat+m*ybq bs)=(xs,m)
 |[],[],_=>⟨by simp[rkR],by simp[rkR,ybq],fun m=>by simp[rkR,unR,ybq]⟩
 |[],_::_,h=>h.elim
 |_::_,[],h=>h.elim
 | b :: bs,x::xs,⟨⟨h1,h2⟩,h3⟩=>by
   obtain⟨i1,i2,i3⟩:=ycrz h3;obtain⟨s1,s2⟩:=yol (show b.1<=b.2 by omega)
   obtain⟨d,hd⟩:∃d:Nat,x-b.1=d:=⟨(x-b.1).toNat,by omega⟩
   obtain⟨r,hr⟩:∃r:Nat,rkR bs xs=r:=⟨(rkR bs xs).toNat,by omega⟩
   have hds:d+1<=szP b:=by omega
   have e:rkR (b::bs) (x::xs)=((d*ybq bs+r:Nat):Int):=by
    show(x-b.1)*(ybq bs:Int)+rkR bs xs=_;rw[hd,hr,zM,zD]
   have hlt:d*ybq bs+r<szP b*ybq bs:=by
    have:=zV (ybq bs) hds;rw[zAF]at this;omega
   rw[e];refine⟨by omega,by show((d*ybq bs+r:Nat):Int)<((szP b*ybq bs:Nat):Int);omega,fun m=>?_⟩
   have i4:=i3 (d+m*szP b)
   have e2:((d*ybq bs+r:Nat):Int).toNat+m*(szP b*ybq bs)=(rkR bs xs).toNat+(d+m*szP b)*ybq bs:=by
    rw[hr,zH,zH,zAM,zO];omega
   have e3:unR bs (((d*ybq bs+r:Nat):Int).toNat+m*ybq (b::bs))=(xs,d+m*szP b):=by
    rw[<-i4,<-e2];rfl
   show((b.1+(((unR bs _).2%szP b:Nat):Int))::(unR bs _).1,(unR bs _).2/szP b)=_;rw[e3];simp only;rw[Nat.add_mul_mod_self_right,zI (by omega),Nat.add_mul_div_right _ _ s1,Nat.div_eq_of_lt (by omega),<-hd]
   simp only[Nat.zero_add,Prod.mk.injEq,List.cons.injEq,and_true];omega
theorem yxq:∀{rs:List (List (Int×Int))}{c:Conf},inT rs c->0<=rkT rs c/\rkT rs c<ybl rs/\∀m:Nat,unT rs ((rkT rs c).toNat+m*ybl rs)=(c,m)
 |[],[],_=>⟨by simp[rkT],by simp[rkT,ybl],fun m=>by simp[rkT,unT,ybl]⟩
 |[],_::_,h=>h.elim
 |_::_,[],h=>h.elim
 | b :: bs,x::xs,⟨h1,h3⟩=>by
   obtain⟨i1,i2,i3⟩:=yxq h3;obtain⟨j1,j2,j3⟩:=ycrz h1;obtain⟨d,hd⟩:∃d:Nat,rkR b x=d:=⟨(rkR b x).toNat,by omega⟩
   obtain⟨r,hr⟩:∃r:Nat,rkT bs xs=r:=⟨(rkT bs xs).toNat,by omega⟩
   have hds:d+1<=ybq b:=by omega
   have e:rkT (b::bs) (x::xs)=((d*ybl bs+r:Nat):Int):=by
    show rkR b x*(ybl bs:Int)+rkT bs xs=_;rw[hd,hr,zM,zD]
   have hlt:d*ybl bs+r<ybq b*ybl bs:=by
    have:=zV (ybl bs) hds;rw[zAF]at this;omega
   rw[e];refine⟨by omega,by show((d*ybl bs+r:Nat):Int)<((ybq b*ybl bs:Nat):Int);omega,fun m=>?_⟩
   have i4:=i3 (d+m*ybq b)
   have e2:((d*ybl bs+r:Nat):Int).toNat+m*(ybq b*ybl bs)=(rkT bs xs).toNat+(d+m*ybq b)*ybl bs:=by
    rw[hr,zH,zH,zAM,zO];omega
   have e3:unT bs (((d*ybl bs+r:Nat):Int).toNat+m*ybl (b::bs))=(xs,d+m*ybq b):=by
    rw[<-i4,<-e2];rfl
   have j4:=j3 m;rw[hd,zH]at j4;show((unR b (unT bs _).2).1::(unT bs _).1,(unR b (unT bs _).2).2)=_;rw[e3];simp only;rw[j4]
theorem yboh{rs:List (List (Int×Int))}{c:Conf}(h:inT rs c):(unT rs (rkT rs c).toNat).1=c:=by
 have:=(yxq h).2.2 0;rw[Nat.zero_mul,Nat.add_zero]at this;rw[this]
theorem yddl{rs:List (List (Int×Int))}{c d:Conf}(hc:inT rs c)(hd:inT rs d)(e:rkT rs c=rkT rs d):c=d:=by
 rw[<-yboh hc,e,yboh hd]
end
section
def advR:List (Int×Int)->List Int->List Int×Bool
 |b::bs,x::xs=>if (advR bs xs).2 then(x::(advR bs xs).1,true)else if x<b.2 then((x+1)::(advR bs xs).1,true)else(b.1::(advR bs xs).1,false)
 |_,_=>([],false)
def advT:List (List (Int×Int))->Conf->Conf×Bool
 |r::rs,c::cs=>if (advT rs cs).2 then(c::(advT rs cs).1,true)else((advR r c).1::(advT rs cs).1,(advR r c).2)
 |_,_=>([],false)
theorem ybzg:∀{bs:List (Int×Int)}{xs:List Int},inR bs xs->inR bs (advR bs xs).1/\((advR bs xs).2=true->rkR bs (advR bs xs).1=rkR bs xs+1)/\((advR bs xs).2=false->rkR bs (advR bs xs).1=0/\rkR bs xs+1=ybq bs)
 |[],[],_=>⟨trivial,(fun h=>by cases h),fun _=>⟨rfl,rfl⟩⟩
 |[],_::_,h=>h.elim
 |_::_,[],h=>h.elim
 | b :: bs,x::xs,⟨⟨h1,h2⟩,h3⟩=>by
   obtain⟨i1,i2,i3⟩:=ybzg h3;obtain⟨s1,s2⟩:=yol (show b.1<=b.2 by omega)
   unfold advR;cases hf:(advR bs xs).2 with
   | true =>
     have e:=i2 hf;simp only[if_true];refine⟨⟨⟨h1,h2⟩,i1⟩,fun _=>?_,fun h=>by cases h⟩
     show(x-b.1)*(ybq bs:Int)+rkR bs (advR bs xs).1=(x-b.1)*(ybq bs:Int)+rkR bs xs+1;rw[e];omega
   | false =>
     obtain⟨e1,e2⟩:=i3 hf;simp only[zW,if_false]
     by_cases hx:x<b.2
     .rw[if_pos hx];refine⟨⟨⟨by omega,by omega⟩,i1⟩,fun _=>?_,fun h=>by cases h⟩
      show(x+1-b.1)*(ybq bs:Int)+rkR bs (advR bs xs).1=(x-b.1)*(ybq bs:Int)+rkR bs xs+1;rw[e1,show x+1-b.1=(x-b.1)+1 by omega,zK]
      omega
     .rw[if_neg hx];refine⟨⟨⟨by omega,by omega⟩,i1⟩,(fun h=>by cases h),fun _=>⟨?_,?_⟩⟩
      .show(b.1-b.1)*(ybq bs:Int)+rkR bs (advR bs xs).1=0;rw[e1,zAG];simp
      .show(x-b.1)*(ybq bs:Int)+rkR bs xs+1=((szP b*ybq bs:Nat):Int);rw[zD,s2,show b.2-b.1+1=(x-b.1)+1 by omega,zK]
       omega
theorem ybsp:∀{rs:List (List (Int×Int))}{c:Conf},inT rs c->inT rs (advT rs c).1/\((advT rs c).2=true->rkT rs (advT rs c).1=rkT rs c+1)/\((advT rs c).2=false->rkT rs (advT rs c).1=0/\rkT rs c+1=ybl rs)
 |[],[],_=>⟨trivial,(fun h=>by cases h),fun _=>⟨rfl,rfl⟩⟩
 |[],_::_,h=>h.elim
 |_::_,[],h=>h.elim
 | b :: bs,x::xs,⟨h1,h3⟩=>by
   obtain⟨i1,i2,i3⟩:=ybsp h3;obtain⟨j1,j2,j3⟩:=ybzg h1;unfold advT;cases hf:(advT bs xs).2 with
   | true =>
     have e:=i2 hf;simp only[if_true];refine⟨⟨h1,i1⟩,fun _=>?_,fun h=>by cases h⟩
     show rkR b x*(ybl bs:Int)+rkT bs (advT bs xs).1=rkR b x*(ybl bs:Int)+rkT bs xs+1;rw[e];omega
   | false =>
     obtain⟨e1,e2⟩:=i3 hf;simp only[zW,if_false];refine⟨⟨j1,i1⟩,fun h=>?_,fun h=>⟨?_,?_⟩⟩
     .show rkR b (advR b x).1*(ybl bs:Int)+rkT bs (advT bs xs).1=rkR b x*(ybl bs:Int)+rkT bs xs+1;rw[e1,j2 h,zK];omega
     .show rkR b (advR b x).1*(ybl bs:Int)+rkT bs (advT bs xs).1=0;rw[e1,(j3 h).1];simp
     .show rkR b x*(ybl bs:Int)+rkT bs xs+1=((ybq b*ybl bs:Nat):Int);rw[zD,<-(j3 h).2,zK];omega
theorem ydis{rs:List (List (Int×Int))}{k:Nat}(hb:bdT rs)(hk:k+1<ybl rs):(advT rs (unT rs k).1).1=(unT rs (k+1)).1:=by
 have hi:=ywz k hb;obtain⟨h1,h2,h3⟩:=ybsp hi;have e:=ybnz rs k;rw[zI (by omega)]at e
 have ht:(advT rs (unT rs k).1).2=true:=by
  cases hf:(advT rs (unT rs k).1).2 with
  |true=>rfl
  |false=>have:=(h3 hf).2;omega
 refine yddl h1 (ywz _ hb) ?_;rw[h2 ht,e,ybnz,zI hk];omega
def ynu(rs:List (List (Int×Int))):Conf:=rs.map (·.map (·.1))
theorem ybbw:∀{bs:List (Int×Int)},bdR bs->inR bs (bs.map (·.1))/\rkR bs (bs.map (·.1))=0
 |[],_=>⟨trivial,rfl⟩
 | b::bs,h=>by
   obtain⟨i1,i2⟩:=ybbw (bs:=bs) fun x hx=>h x (zB _ hx);refine⟨⟨⟨Int.le_refl _,h b zA⟩,i1⟩,?_⟩;show(b.1-b.1)*(ybq bs:Int)+rkR bs (bs.map (·.1))=0;rw[i2,zAG];simp
theorem ybdk:∀{rs:List (List (Int×Int))},bdT rs->inT rs (ynu rs)/\rkT rs (ynu rs)=0
 |[],_=>⟨trivial,rfl⟩
 | r::rs,h=>by
   obtain⟨i1,i2⟩:=ybdk (rs:=rs) fun x hx=>h x (zB _ hx);obtain⟨j1,j2⟩:=ybbw (h r zA);refine⟨⟨j1,i1⟩,?_⟩;show rkR r (r.map (·.1))*(ybl rs:Int)+rkT rs (ynu rs)=0;rw[i2,j2];simp
theorem ybvz{rs:List (List (Int×Int))}(h:bdT rs):(unT rs 0).1=ynu rs:=by
 obtain⟨h1,h2⟩:=ybdk h;have:=yboh h1;rw[h2]at this;exact this
def plR:List (Int×Int)->Nat->List Int×Nat
 |[],p=>([],p)
 |b::bs,p=>(((plR bs p).2:Int)::(plR bs p).1,(plR bs p).2*szP b)
def plT:List (List (Int×Int))->Nat->List (List Int)×Nat
 |[],p=>([],p)
 |r::rs,p=>((plR r (plT rs p).2).1::(plT rs p).1,(plR r (plT rs p).2).2)
theorem ypj:∀(bs:List (Int×Int)) (p:Nat),(plR bs p).2=p*ybq bs
 |[],p=>(zAN p).symm
 | b::bs,p=>by
   show(plR bs p).2*szP b=p*(szP b*ybq bs);rw[ypj bs p,zO,zG (szP b)]
theorem yys:∀(rs:List (List (Int×Int))) (p:Nat),(plT rs p).2=p*ybl rs
 |[],p=>(zAN p).symm
 | r::rs,p=>by
   show(plR r (plT rs p).2).2=p*(ybq r*ybl rs);rw[ypj,yys rs p,zO,zG (ybq r)]
theorem ybhu:∀(bs:List (Int×Int)) (p:Nat),(plR bs p).1.length=bs.length
 |[],_=>rfl
 |b::bs,p=>by show(plR bs p).1.length+1=_;rw[ybhu bs p];rfl
theorem ybaj:∀(rs:List (List (Int×Int))) (p:Nat),(plT rs p).1.length=rs.length
 |[],_=>rfl
 |r::rs,p=>by show(plT rs p).1.length+1=_;rw[ybaj rs p];rfl
def grR:List Int->List Int->List Int->Int
 |y::ys,x::xs,q::qs=>(y-x)*q+grR ys xs qs
 |_,_,_=>0
def grT:Conf->Conf->List (List Int)->Int
 |d::ds,c::cs,q::qs=>grR d c q+grT ds cs qs
 |_,_,_=>0
theorem ycwx:∀{bs:List (Int×Int)}{xs ys:List Int}(p:Nat),inR bs xs->inR bs ys->grR ys xs (plR bs p).1=(rkR bs ys-rkR bs xs)*(p:Int)
 |[],[],[],p,_,_=>by simp[grR,rkR]
 |[],_::_,_,_,h,_=>h.elim
 |[],[],_::_,_,_,h=>h.elim
 |_::_,[],_,_,h,_=>h.elim
 |_::_,_::_,[],_,_,h=>h.elim
 | b::bs,x::xs,y::ys,p,h,h'=>by
   show(y-x)*((plR bs p).2:Int)+grR ys xs (plR bs p).1=((y-b.1)*(ybq bs:Int)+rkR bs ys-((x-b.1)*(ybq bs:Int)+rkR bs xs))*(p:Int);rw[ycwx p h.2 h'.2,ypj,zD,show((y-b.1)*(ybq bs:Int)+rkR bs ys-((x-b.1)*(ybq bs:Int)+rkR bs xs))=(y-x)*(ybq bs:Int)+(rkR bs ys-rkR bs xs)by simp only[zAO];omega,zK,zAH (p:Int),zAA]
theorem ycud:∀{rs:List (List (Int×Int))}{c d:Conf}(p:Nat),inT rs c->inT rs d->grT d c (plT rs p).1=(rkT rs d-rkT rs c)*(p:Int)
 |[],[],[],p,_,_=>by simp[grT,rkT]
 |[],_::_,_,_,h,_=>h.elim
 |[],[],_::_,_,_,h=>h.elim
 |_::_,[],_,_,h,_=>h.elim
 |_::_,_::_,[],_,_,h=>h.elim
 | b::bs,x::xs,y::ys,p,h,h'=>by
   show grR y x (plR b (plT bs p).2).1+grT ys xs (plT bs p).1=(rkR b y*(ybl bs:Int)+rkT bs ys-(rkR b x*(ybl bs:Int)+rkT bs xs))*(p:Int);rw[ycwx _ h.1 h'.1,ycud p h.2 h'.2,yys,zD,show(rkR b y*(ybl bs:Int)+rkT bs ys-(rkR b x*(ybl bs:Int)+rkT bs xs))=(rkR b y-rkR b x)*(ybl bs:Int)+(rkT bs ys-rkT bs xs)by rw[zAO];omega,zK,zAH (p:Int),zAA]
def sumI(f:Nat->Int):Nat->Int
 |0=>0
 |n+1=>sumI f n+f n
theorem ykw(f:Nat->Int):∀n,sumI f (n+1)=f 0+sumI (fun i=>f (i+1)) n
 |0=>by simp[sumI]
 | n+1=>by
   show sumI f (n+1)+f (n+1)=f 0+(sumI (fun i=>f (i+1)) n+f (n+1));rw[ykw f n];omega
theorem ywn{f g:Nat->Int}:∀{n:Nat},(∀i,i<n->f i=g i)->sumI f n=sumI g n
 |0,_=>rfl
 | n+1,h=>by
   show sumI f n+f n=sumI g n+g n;rw[ywn fun i hi=>h i (by omega),h n (by omega)]
theorem ybsr:∀{ys xs qs:List Int},ys.length=xs.length->qs.length=xs.length->grR ys xs qs=sumI (fun i=>(ys.getD i 0-xs.getD i 0)*qs.getD i 0) xs.length
 |[],[],[],_,_=>rfl
 | y::ys,x::xs,q::qs,h1,h2=>by
   show(y-x)*q+grR ys xs qs=sumI _ (xs.length+1);rw[ykw,ybsr (by simpa using h1) (by simpa using h2)]
   rfl
theorem ycbx:∀{d c:Conf}{qs:List (List Int)},d.length=c.length->qs.length=c.length->grT d c qs=sumI (fun i=>grR (d.getD i []) (c.getD i []) (qs.getD i [])) c.length
 |[],[],[],_,_=>rfl
 | y::ys,x::xs,q::qs,h1,h2=>by
   show grR y x q+grT ys xs qs=sumI _ (xs.length+1);rw[ykw,ycbx (by simpa using h1) (by simpa using h2)]
   rfl
end
section
structure Loop(S:Sys)(V:Conf->Prop)(c:Nat->Conf)(s:Nat->Nat)(m:Nat):Prop where
 pos:0<m
 per:∀i,c (i+m)=c i
 val:∀i,V (c i)
 ne:∀i,s i≠0
 sub:∀i,subB (s i) (S.en (c i))
 nx:∀i,c (i+1)=S.mv (c i) (s i)
section
variable {S:Sys}{V:Conf->Prop}{c:Nat->Conf}{s:Nat->Nat}{m:Nat}
end
end
section
theorem ydmp{N:Nat}{f:Nat->Nat}(h:∀i,f i<N):∃i m,0<m/\f (i+m)=f i:=by
 refine zC fun hc=>?_;have inj:∀i j,i<j->f i≠f j:=fun i j hij e=>hc ⟨i,j-i,by omega,by rw[show i+(j-i)=j by omega,e]⟩
 have hn:((zY (N+1)).map f).Nodup:=by
  unfold List.Nodup;rw[List.pairwise_map];exact List.pairwise_lt_range.imp fun {a b} hab=>inj a b hab
 have:=yhl (l2:=zY N) hn fun x hx=>by
  obtain⟨i,_,rfl⟩:=List.mem_map.1 hx;exact List.mem_range.2 (h i)
 simp at this;omega
structure Back(N:Nat)(arcs:Nat->List (Nat×Nat))(f:Nat->Nat)(m:Nat):Prop where
 pos:0<m
 per:∀i,f (i+m)=f i
 lt:∀i,f i<N
 arc:∀i,∃a∈arcs (f i),a.2=f (i+1)
theorem ycjo{m t:Nat}(hm:0<m):((t+1)%m=t%m+1)\/(t%m+1=m/\(t+1)%m=0):=by
 have h1:=zAP t hm;rcases zAI (t%m+1) m with h|h
 .left
  rw[Nat.add_mod];rcases zAI 1 m with h2|h2
  .rw[zI h2,zI h]
  .omega
 .right
  refine⟨by omega,?_⟩
  have e:t+1=m*(t/m)+m:=by
   have:=Nat.div_add_mod t m;omega
  rw[e,Nat.mul_add_mod,Nat.mod_self]
theorem ydgz {N:Nat}{arcs:Nat->List (Nat×Nat)}{set:Nat->Bool}{L:List Nat}(hset:∀k,k<N->set k=true->k∈L)
 (hcl:∀k,k<N->set k=false->arcs k≠[]->(∀a∈arcs k,a.2∈L)->k∈L) (hto:∀k,k<N->∀a∈arcs k,a.2<N) (hne:∀k,k<N->set k=false->arcs k≠[])
 (hcyc:∀f m,Back N arcs f m->False):∀k,k<N->k∈L:=by
 classical
 intro k0 h0;refine zC fun hk0=>?_
 have step:∀k:Nat,∃k',(k<N/\¬k∈L)->(k'<N/\¬k'∈L)/\∃a∈arcs k,a.2=k':=fun k=>by
  by_cases hk:k<N/\¬k∈L
  .have hs:set k=false:=by
    cases hs:set k with
    |false=>rfl
    |true=>exact absurd (hset k hk.1 hs) hk.2
   obtain⟨a,ha,hn⟩:∃a∈arcs k,¬a.2∈L:=zC fun hc =>
    hk.2 (hcl k hk.1 hs (hne k hk.1 hs) fun a ha=>zC fun hn=>hc ⟨a,ha,hn⟩)
   exact⟨a.2,fun _=>⟨⟨hto k hk.1 a ha,hn⟩,a,ha,rfl⟩⟩
  .exact⟨0,fun h=>absurd h hk⟩
 let nx:Nat->Nat:=fun k=>(step k).choose
 have hnx:∀k,(k<N/\¬k∈L)->(nx k<N/\¬nx k∈L)/\∃a∈arcs k,a.2=nx k:=fun k=>(step k).choose_spec
 let f:Nat->Nat:=fun i=>Nat.rec k0 (fun _ k=>nx k) i
 have f1:∀i,f (i+1)=nx (f i):=fun i=>rfl
 have hf:∀i,f i<N/\¬f i∈L:=fun i=>by
  induction i with
  |zero=>exact⟨h0,hk0⟩
  |succ i ih=>rw[f1];exact(hnx _ ih).1
 obtain⟨i,m,hm,e⟩:=ydmp fun i=>(hf i).1;refine hcyc (fun t=>f (i+t%m)) m ⟨hm,fun t=>by simp,fun t=>(hf _).1,fun t=>?_⟩
 obtain⟨a,ha,ea⟩:=(hnx _ (hf (i+t%m))).2;refine⟨a,ha,ea.trans ?_⟩;rw[<-f1];rcases ycjo (t:=t) hm with h|⟨h,h'⟩
 .rw[h];rfl
 .rw[h',show i+t%m+1=i+m by omega,e];rfl
theorem ydgo{N:Nat}{L:List Nat}(h:∀k,k<N->k∈L):N<=L.length:=by
 have:=yhl (l1:=zY N) (l2:=L) List.nodup_range fun x hx=>h x (List.mem_range.1 hx)
 simpa using this
def yrs(l:List (Nat×Nat))(A:List Nat):Nat:=l.countP fun a=>A.contains a.2
theorem ybxv{l:List (Nat×Nat)}{A:List Nat}:yrs l A=l.length↔∀a∈l,a.2∈A:=by
 unfold yrs;rw[List.countP_eq_length];simp
theorem ybuc(l:List (Nat×Nat)):yrs l []=0:=by
 unfold yrs;rw[List.countP_eq_zero];simp
theorem ybos{l:List (Nat×Nat)}{A:List Nat}{x:Nat}(hx:x∉A):yrs l (A++[x])=yrs l A+l.countP fun a=>a.2==x:=by
 unfold yrs
 induction l with
 |nil=>rfl
 | cons a l ih =>
   rw[zQ,zQ,zQ,ih]
   by_cases h1:a.2=x
   .have:A.contains a.2=false:=by rw[h1];simpa using hx
    have h2:(A++[x]).contains a.2=true:=by simp[h1]
    rw[this,h2];simp[h1];omega
   .have h2:(A++[x]).contains a.2=A.contains a.2:=by
     simp[h1]
    rw[h2];simp[h1];omega
end
end Go.Proofs.YthclbjjgfcgbgaaGreatDoor
