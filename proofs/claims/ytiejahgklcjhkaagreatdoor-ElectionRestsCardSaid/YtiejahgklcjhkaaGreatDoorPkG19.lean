/- Joined. -/
import Derived.Test.YtiejahgklcjhkaaGreatDoorPkG18
import Derived.Deep.Matrix
import Derived.Lib.SmallJoins
import GoSem.ClaimSevenParts
set_option linter.unusedSimpArgs false
set_option linter.unusedVariables false
set_option maxRecDepth 8000
open Nat renaming reduceEqDiff→zA,reduceAdd→zD,lt_of_lt_of_le→zH,eq_zero_or_pos→zJ,reduceBEq→zK,testBit_lt_two_pow→zQ,pow_le_pow_right→zS,pow_lt_pow_right→zT,reduceLT→zU,zero_le→zV,testBit_and→zAA,two_pow_pos→zAB,sub_zero→zAG,lt_or_ge→zAH
open List renaming getElem?_eq_getElem→zB,getD_eq_getElem?_getD→zC,getElem?_eq_none→zF,mem_cons_self→zG,getElem?_map→zL,getElem_mem→zN,not_mem_nil→zW,length_map→zZ,map_cons→zAE
open Array renaming getElem?_eq_none→zI
open Classical renaming byContradiction→zM,choose→zY,choose_spec→zAI
open Int renaming natCast_zero→zO,reduceBNe→zAC,reduceBEq→zAD
open Bool renaming and_eq_true→zX
open BitVec renaming ofInt→zAF
open Go
namespace Go.Proofs.YtiejahgklcjhkaaGreatDoor
section
namespace Sh
open Ev Go.RowKit
def setO(x:Nat):OB:=⟨40,true,1,1,fun _=>[.i .u32 x]⟩
def ybbe(b s:Nat):ItS:=⟨(ybr s).length,fun k=>[.i .i64 ((ybr s).getD k 0:Nat)],[(b,0)],fun k o=>lookO o (b,0)=some (setO (ydc s k)),fun k o=>(SS.own ⟨[],o⟩ (b,0) (some (setO (ydc s (k+1))))).o⟩
theorem ybbi{b s:Nat}(hs:s<2^32):ItC Tryz.prog 189 [.pt (b,0) 0 0] (ybbe b s):=by
 intro lo F ω st f m us hc hr hown;obtain⟨u,rfl,hu⟩:=rvl1 hr;obtain⟨k,z,hk,rfl⟩:=hu.pt_inv;have hown0:lookO st.o (b,0)=some (setO (ydc s 0)):=hown;obtain⟨hz,_⟩:=hc.ownAt hown0 hk;have hz:z=1:=hz;subst hz;refine⟨ycnw k s,yccu hs,rfl,fun F' ω' s' f' m' j hF hω hc' hj hown'=>?_⟩;have hk':=hω (b,0) zG _ hk;have hown':lookO s'.o (b,0)=some (setO (ydc s j)):=hown';obtain⟨_,Tb,L,g1,g2⟩:=hc'.ownAt hown' hk'
 obtain⟨g3,g4,_,g5⟩:=g2 0 (by show 0<1;omega)
 refine⟨?_,fun hlt=>⟨.cons .i .nil,?_⟩⟩
 ·refine⟨Tb,g1,?_⟩;have h0:=g5 0 (by show 0<1;omega)
  have g4:RVL F' ω' [.i .u32 (ydc s j:Nat)] (L 0):=g4;obtain⟨v,e,hv⟩:=rvl1 g4;rw[e,hv.int_inv]at h0;exact h0
 ·exact hc'.upd (b:=setO (ydc s (j+1))) ⟨_,hown'⟩ hk' (show 40≠CU by decide) (Tb:=T.sets .leaf 0 [.int .u32 (ydc s (j+1):Nat)]) (L:=fun _=>[.int .u32 (ydc s (j+1):Nat)]) fun i hi=>by
   have hi:i<1:=hi;obtain rfl:i=0:=by omega
   refine⟨rfl,.cons .i .nil,rfl,fun q hq=>?_⟩;have hq:q<1:=hq;obtain rfl:q=0:=by omega
   exact ybjd _
theorem ybkb{s:Nat}:Cm Tryz.prog 154 [] [] [.i .u32 s] fun r o=>r = .fn 189 [] [.pt (1,0) 0 0]/\o=[(1,.one (some (setO s)))]:=by
 refine ycbk [] [] _ _ _ ?_;simp only[c154,ycwx,ycjw,clash,yha,go_sem,zA,zD,zU,↓reduceIte,reduceCtorEq];refine⟨.fn 189 [] [.pt (1,0) 0 0],[(1,.one (some (setO s)))],?_,?_,rfl,rfl⟩
 ·refine yh [] [] [] ?_;simp only[setO,allQ,live,yc,go_sem,↓reduceIte,reduceCtorEq]
 ·simp only[setO,ycz,ygc,allQ,live,go_sem,↓reduceIte]
theorem yyk{s v:Nat}(hs:s<2^24)(h:v∈ybr s):v<24/\s.testBit v=true:=by
 have hb:=(ybqr.1 h).2;refine⟨zM fun q=>?_,hb⟩;rw[zQ (zH hs (zS (by omega) (by omega)))]at hb
 cases hb
theorem getD_mem{l:List Nat}{k:Nat}(h:k<l.length):l.getD k 0∈l:=by rw[getD_at h];exact zN h
theorem ybuy{net:List Nat}{s:Nat}(hs:s<2^24)(hn:∀v,s.testBit v=true->v<net.length)(hb:∀v,net.getD v 0<2^32)(hind:∀v,s.testBit v=true->net.getD v 0&&&s=0) :
 Returns Tryz.prog 221 [usV net,.i .u32 s] (.b true):=by
 refine Returns.of (ycej [154] _ _ ?_);simp only[c221,ycmj,ycon,usV,clash,go_sem,zA,zD,zU,↓reduceIte,reduceCtorEq];refine yfi (ybkb (s:=s)) [(1,60)] 0 [2,3,4] [2,3,4] ?_ ?_
 ·simp only[okN,ycz,ygc,yev,yef,allQ,live,yc,go_sem,zA,zK,↓reduceIte,reduceCtorEq]
 rintro r o' ⟨rfl,rfl⟩;simp only[setO,yrd,ymq,nuF,nu,difN,yev,yef,Fam.ren,OB.ren,dim,ygz,ybir,ybia,go_sem,zA,zK,↓reduceIte]
 refine ywz (ybbi (b:=60) (s:=s) (by omega)) [(60,0),(2,0),(3,0),(4,0)] (fun i (_:Unit)=>⟨[(7,.fn 189 [] [.pt (60,0) 0 0]),(2,.pt (2,0) 0 0),(3,.pt (3,0) 0 0),(4,.pt (4,0) 0 0)],
  [(60,.one (some (setO (ydc s i)))),(2,.one (some ⟨110,true,1,1,fun _=>[usV net]⟩)),(3,.one (some ⟨40,true,1,1,fun _=>[.i .u32 s]⟩)),(4,.one (some ⟨4,true,1,1,fun _=>[.b false]⟩))]⟩)
  (fun i _=>i<=(ybr s).length) () (zV _) ⟨fun _ h=>absurd h zW,fun β h=>by rw[List.mem_singleton.1 h];exact zG⟩ ?_ (fun _=>rfl) ?_ ?_ ?_
 ·refine yh [] [] [] ?_;simp only[setO,usV,ydc,allQ,live,yc,go_sem,zA,↓reduceIte,reduceCtorEq]
 ·intro i _ hi _;refine⟨rfl,?_⟩;simp only[go_sem,allQ,go_sem,zA]
 ·intro i _ hi hlt;have hlt:i<(ybr s).length:=hlt;obtain⟨h24,hbit⟩:=yyk hs (getD_mem hlt);obtain⟨v,hv⟩:∃v,(ybr s).getD i 0=v:=⟨_,rfl⟩;rw[hv]at h24 hbit;have hvn:=hn v hbit;have an:=u32_and (a:=net.getD v 0) (b:=s) (hb v) (by omega)
  rw[hind v hbit]at an;simp only[IntKind.bits]at an;refine⟨_,rfl,?_⟩;simp only[ybbe];simp only[ycnb,ycod,usV,setO,hv,an,zO,zAC,clash,go_sem,zA,zD,↓reduceIte,reduceCtorEq]
  repeat (first|refine⟨by omega,?_⟩|refine⟨by decide,?_⟩)
  refine ycx [] [] [] ?_;simp only[allQ,live,yc,go_sem,zA,↓reduceIte,reduceCtorEq]
 ·intro _ _;simp only[ycpd,ybbe,splice,go_sem,zA,↓reduceIte];exact Sim.refl _
end Sh
end
section
namespace Sh
open Go Ev
end Sh
end
section
structure LdC(g:Gr)(c:Conf):Prop where
 len:c.length=g.ids.length
 row:∀v,v<g.ids.length->(c.getD v []).length=3/\(0<=(c.getD v []).getD 0 0/\(c.getD v []).getD 0 0<=ybhn g)/\(0<=(c.getD v []).getD 1 0/\(c.getD v []).getD 1 0<g.ids.length)/\(-1<=(c.getD v []).getD 2 0/\(c.getD v []).getD 2 0<(g.ports.getD v []).length)
section
variable {nm nl nd np no nj:ByteArray}{g:Gr}{c:Conf}{v:Nat}
theorem LdC.link(h:LdC g c)(hg:ybe g)(hv:v<g.ids.length){l:Int×Int}(hl:l∈g.ports.getD v []):0<=l.1/\l.1.toNat<g.ids.length/\adj g v l.1.toNat/\(0<=endP c 0 l/\endP c 0 l<=ybhn g)/\(0<=endP c 1 l/\endP c 1 l<g.ids.length):=by
 have hpl:=hg.2.2.1;obtain⟨h1,h2,h3,_⟩:=ydj hg (by omega) hl
 have h4:=h.row l.1.toNat (by omega)
 exact⟨h1,by omega,h3,h4.2.1,h4.2.2.1⟩
end
end
section
section
variable {nm nl nd np no nj:ByteArray}{g:Gr}{c:Conf}{v:Nat}
end
end
section
section
variable {nm nl nd np no nj:ByteArray}{g:Gr}{c:Conf}{v:Nat}
end
end
section
namespace Sh
open Ev Go.RowKit
end Sh
end
section
theorem ycbw(ls:List (Int×Int))(u:Nat):(netP ls).testBit u=true↔∃l∈ls,l.1.toNat=u:=by
 have key:∀(ls:List (Int×Int)) (a:Nat),(ls.foldl (fun a l=>a|||2^l.1.toNat) a).testBit u=true↔a.testBit u=true\/∃l∈ls,l.1.toNat=u:=by
  intro ls
  induction ls with
  |nil=>exact fun a=>⟨.inl,fun h=>h.resolve_right fun⟨_,h,_⟩=>nomatch h⟩
  | cons x ls ih =>
    intro a;rw[List.foldl_cons,ih,yqn];constructor
    ·rintro((h|h)|⟨l,hl,e⟩)
     ·exact .inl h
     ·exact .inr ⟨x,zG,h.symm⟩
     ·exact .inr ⟨l,List.mem_cons_of_mem _ hl,e⟩
    ·rintro(h|⟨l,hl,e⟩)
     ·exact .inl (.inl h)
     ·rcases List.mem_cons.1 hl with r|r
      ·exact .inl (.inr (by rw[<-e,r]))
      ·exact .inr ⟨l,r,e⟩
 unfold netP;rw[key];simp
def netG(g:Gr)(v:Nat):Nat:=netP (g.ports.getD v [])
theorem ybkh{g:Gr}(hg:ybe g){u v:Nat}(h:(netG g v).testBit u=true):adj g v u:=by
 obtain⟨l,hl,e⟩:=(ycbw _ _).1 h
 by_cases hv:v<g.ports.length
 ·rw[<-e];exact(ydj hg hv hl).2.2.1
 ·rw[zC,zF (by omega)]at hl
  cases hl
theorem ydbd{g:Gr}(hg:ybe g)(v:Nat):netG g v<2^24:=by
 have:=hg.2.1;refine Nat.lt_pow_two_of_testBit _ fun i hi=>?_;cases h:(netG g v).testBit i with
 |false=>rfl
 |true=>have:=(hg.adj_lt (ybkh hg h)).2;omega
theorem ybfl(g:Gr)(v:Nat):(g.ports.map netP).getD v 0=netG g v:=by
 unfold netG
 by_cases hv:v<g.ports.length
 ·rw[Sh.getD_at (by rw[zZ];exact hv),List.getElem_map,Sh.getD_at hv]
 ·rw[zC,zF (by rw[zZ];omega),zC,zF (by omega)]
  rfl
def resG(g:Gr):Nat->Nat->Nat:=resL (netG g)
theorem yxy{g:Gr}(hg:ybe g):ResD (yoh g) (resG g):=ydeo hg (ycai hg)
theorem ybxm{g:Gr}(hg:ybe g){s:Nat}(h:yoh g s){v:Nat}(hv:s.testBit v=true):netG g v&&&s=0:=by
 rw[yby];intro i;rw[zAA];cases q:(netG g v).testBit i with
 |false=>rfl
 |true=>rw[h v i (ybkh hg q) hv];rfl
def yml(f:Nat->Nat)(x i:Nat):Nat:=((ybr x).take i).foldl (takeB f) 0
theorem ytf{f:Nat->Nat}{x i:Nat}(hi:i<(ybr x).length):yml f x (i+1)=takeB f (yml f x i) ((ybr x).getD i 0):=by
 unfold yml;rw[List.take_succ_eq_append_getElem hi,List.foldl_append,Sh.getD_at hi];rfl
theorem ybmn(f:Nat->Nat)(x:Nat):yml f x (ybr x).length=(ybr x).foldl (takeB f) 0:=by unfold yml;rw[List.take_length]
theorem ybde{f:Nat->Nat}{x:Nat}(hx:x<2^24):∀i,i<=(ybr x).length->yml f x i<2^24
 |0,_=>zAB 24
 | i+1,hi=>by
   rw[ytf (by omega)]
   have h:=ybde (f:=f) hx i (by omega)
   have h2:=(Sh.yyk hx (Sh.getD_mem (show i<(ybr x).length by omega))).1
   unfold takeB;split
   ·exact Nat.or_lt_two_pow h (zT (by omega) h2)
   ·exact h
theorem ycbr:lowB 0=0:=Nat.zero_and _
theorem yccf(e w:Nat):subB (resD e w) e:=by
 unfold resD;split
 ·exact ybiq e
 ·intro i hi;rw[zAA,zX]at hi;exact hi.2
namespace Sh
open Ev Go.RowKit
set_option maxHeartbeats 2000000 in
theorem ypz{net:List Nat}{e w:Nat}(he:e<2^24)(hn:∀v,e.testBit v=true->v<net.length)(hb:∀v,net.getD v 0<2^24)(hw:w<2^32) :
 Returns Tryz.prog 111 [usV net,.i .i64 2,.i .u32 e,.i .u32 w] (.i .u32 ((ybr (resD e w)).foldl (takeB fun v=>net.getD v 0) 0:Nat)):=by
 refine Returns.of (ycba [154] _ _ ?_);have a0:=u32_and (a:=w) (b:=e) (by omega) (by omega)
 obtain⟨N,a1,a2⟩:∃N:Nat,IntKind.wrap .u32 (0-(e:Int))=(N:Int)/\IntKind.wrap .u32 (((zAF (IntKind.bits .u32) (e:Int))&&&zAF (IntKind.bits .u32) (N:Int)).toNat:Int)=((lowB e:Nat):Int):=by
  by_cases h0:e=0
  ·subst h0;refine⟨0,by decide,?_⟩
   have:=u32_and (a:=0) (b:=0) (by omega) (by omega)
   rw[Nat.and_zero]at this;rw[ycbr];exact this
  ·exact⟨2^32-e,u32_neg (by omega) (by omega),u32_and (a:=e) (b:=2^32-e) (by omega) (by omega)⟩
 have hsub:=yccf e w;obtain⟨W,hW⟩:∃W,w&&&e=W:=⟨_,rfl⟩;rw[hW]at a0;simp only[IntKind.bits]at a0 a2
 obtain⟨x,hx,hcase⟩:∃x,resD e w=x/\((((W:Int)==0)=true/\lowB e=x)\/(((W:Int)==0)=false/\W=x)):=by
  unfold resD;rw[hW]
  by_cases q:W=0
  ·exact⟨lowB e,if_pos q,.inl ⟨by rw[q];rfl,rfl⟩⟩
  ·exact⟨W,if_neg q,.inr ⟨by rw[beq_eq_false_iff_ne];omega,rfl⟩⟩
 rw[hx]at hsub ⊢;have hx24:x<2^24:=ybep hsub he;obtain⟨f,hf⟩:∃f:Nat->Nat,(fun v=>net.getD v 0)=f:=⟨_,rfl⟩;have hf':∀v,net.getD v 0=f v:=fun v=>by rw[<-hf]
 simp only[hf']at hb;rw[hf,<-ybmn f x];have hlt24:=ybde (f:=f) hx24;have hsu:=fun i=>ytf (f:=f) (x:=x) (i:=i);have ht0:yml f x 0=0:=rfl;obtain⟨T,hT⟩:∃T:Nat->Nat,(fun i=>yml f x i)=T:=⟨_,rfl⟩;have hT':∀i,yml f x i=T i:=fun i=>by rw[<-hT]
 simp only[hT']at hlt24 hsu ht0 ⊢;rcases hcase with⟨z0,hz⟩|⟨z0,hz⟩
 all_goals
  first
   |rw[hz]at a2
   |rw[hz]at a0 z0
  simp only[c111,ycry,ycgq,ycui,yclj,ycsx,ycmz,ycqm,ycje,ycrn,usV,a0,a1,a2,z0,IntKind.signed,zAD,clash,go_sem,zA,zD,zU,↓reduceIte,reduceCtorEq];refine yfi (ybkb (s:=x)) [(1,60)] 0 [4,9] [4,9] ?_ ?_
  ·simp only[okN,ycz,ygc,yev,yef,allQ,live,yc,go_sem,zA,zK,↓reduceIte,reduceCtorEq]
  rintro r o' ⟨rfl,rfl⟩;simp only[setO,yrd,ymq,nuF,nu,difN,yev,yef,Fam.ren,OB.ren,dim,ygz,ybir,ybia,go_sem,zA,zK,↓reduceIte]
  refine ywz (ybbi (b:=60) (s:=x) (by omega)) [(60,0),(4,0),(9,0)] (fun i (_:Unit)=>⟨[(30,.fn 189 [] [.pt (60,0) 0 0]),(4,.pt (4,0) 0 0),(9,.pt (9,0) 0 0)],
   [(60,.one (some (setO (ydc x i)))),(4,.one (some ⟨110,true,1,1,fun _=>[usV net]⟩)),(9,.one (some ⟨40,true,1,1,fun _=>[.i .u32 (T i)]⟩))]⟩)
   (fun i _=>i<=(ybr x).length) () (zV _) ⟨fun _ h=>absurd h zW,fun β h=>by rw[List.mem_singleton.1 h];exact zG⟩ ?_ (fun _=>rfl) ?_ ?_ ?_
  ·refine yh [] [] [] ?_;simp only[setO,usV,ydc,ht0,allQ,live,yc,zO,go_sem,zA,↓reduceIte,reduceCtorEq]
  ·intro i _ hi _;refine⟨rfl,?_⟩;simp only[go_sem,allQ,go_sem,zA]
  ·intro i _ hi hlt;have hlt:i<(ybr x).length:=hlt;obtain⟨h24,hbit⟩:=yyk hx24 (getD_mem hlt);have hs:=hsu i hlt;have hti:=hlt24 i (by omega)
   obtain⟨v,hv⟩:∃v,(ybr x).getD i 0=v:=⟨_,rfl⟩;rw[hv]at h24 hbit hs;have hvn:=hn v (hsub v hbit);have hbv:=hb v;have hfv:=hf' v;obtain⟨b,hbe⟩:∃b,f v=b:=⟨_,rfl⟩;obtain⟨t,hte⟩:∃t,T i=t:=⟨_,rfl⟩;unfold takeB at hs;rw[hbe]at hbv hfv hs;rw[hte]at hti hs;have an:=u32_and (a:=b) (b:=t) (by omega) (by omega)
   obtain⟨a,ha⟩:∃a,b&&&t=a:=⟨_,rfl⟩;rw[ha]at an hs;have sh:=yni (v:=v) (by omega)
   have ov:=u32_or (a:=t) (b:=2^v) (by omega) (zT (by omega) (by omega))
   simp only[IntKind.bits,Int.toNat_natCast]at an sh ov;refine⟨_,rfl,?_⟩;simp only[ybbe]
   by_cases q:a=0
   ·have z1:((a:Int)==0)=true:=by rw[q];rfl
    rw[if_pos q]at hs;simp only[ybee,ybdv,ybfg,usV,setO,hv,hfv,hte,an,sh,ov,z1,splice,clash,go_sem,zA,zD,↓reduceIte,reduceCtorEq]
    repeat (first|refine⟨by omega,?_⟩|refine⟨by decide,?_⟩)
    refine ycx [] [] [] ?_;simp only[hs,allQ,live,yc,go_sem,zA,↓reduceIte,reduceCtorEq]
   ·have z1:((a:Int)==0)=false:=by rw[beq_eq_false_iff_ne];omega
    rw[if_neg q]at hs;simp only[ybee,ybdv,ybfg,usV,setO,hv,hfv,hte,an,z1,clash,go_sem,zA,zD,↓reduceIte,reduceCtorEq]
    repeat (first|refine⟨by omega,?_⟩|refine⟨by decide,?_⟩)
    refine ycx [] [] [] ?_;simp only[hs,allQ,live,yc,go_sem,zA,↓reduceIte,reduceCtorEq]
  ·intro _ _;simp only[ybyp,ybbe,clash,go_sem,zA,zD,↓reduceIte,reduceCtorEq];exact Sim.refl _
theorem ybcv{net:List Nat}{e s:Nat}(he:e<2^24)(h0:s≠0)(hs:s<2^24)(hsub:difB s e=0)(hn:∀v,s.testBit v=true->v<net.length)(hb:∀v,net.getD v 0<2^32)(hi:∀v,s.testBit v=true->net.getD v 0&&&s=0) :
 Returns Tryz.prog 196 [usV net,.i .i64 2,.i .u32 e,.i .u32 s] (.b true):=by
 refine Returns.of (ydah _ _ ?_);have z0:((s:Int)==0)=false:=by simp;omega
 have a0:=u32_andNot (a:=s) (b:=e) (by omega) (by omega)
 have hI:=ybuy hs hn hb hi;rw[hsub]at a0;simp only[usV]at hI;simp only[zO,IntKind.bits]at a0;simp only[c196,ycqd,ycvf,usV,z0,a0,zAC,go_sem,zA,zD,↓reduceIte,reduceCtorEq];simp only[ycnl,ycqh,ycrv,ychg,zAD,go_sem,zA,zD,↓reduceIte,reduceCtorEq];refine hI.use ?_;simp only[ybh,ykh,go_sem,zA,zD,↓reduceIte,reduceCtorEq]
theorem ydfl{g:Gr}(hg:ybe g):DaemonOk 2 (g.ports.map netP) (resG g):=by
 have hN:(fun v=>(g.ports.map netP).getD v 0)=netG g:=funext fun v=>ybfl g v;have hb:∀v,(g.ports.map netP).getD v 0<2^24:=fun v=>by rw[ybfl];exact ydbd hg v
 have hl:∀(e:Nat),e<2^(g.ports.map netP).length->∀v,e.testBit v=true->v<(g.ports.map netP).length:=fun e he v hv=>by
  refine zM fun q=>?_;rw[zQ (zH he (zS (by omega) (by omega)))]at hv
  cases hv
 have hrs:∀(e w:Nat),e<2^24->resG g e w=(ybr (resD e w)).foldl (takeB (netG g)) 0:=fun e w he=>if_pos he
 exact
  { resolve:=fun e w he hn h0 hw=>by
     rw[hrs e w he,<-hN];exact ypz he (hl e hn) hb hw
    permits:=fun e w he hn h0 hw=>by
     obtain⟨h1,h2,h3⟩:=yxy hg e w h0;exact ybcv he h1 (ybep h2 he) (ycew h2) (fun v hv=>hl e hn v (h2 v hv)) (fun v=>zH (hb v) (by omega)) fun v hv=>by rw[ybfl];exact ybxm hg h3 hv
    zero:=fun w hw=>⟨_,ypz (zAB 24) (fun v hv=>by simp at hv) hb hw⟩
    sub:=fun e w h0 _=>⟨(yxy hg e w h0).1,(yxy hg e w h0).2.1⟩ }
end Sh
end
section
namespace Sh
open Ev Go.RowKit
theorem ybpv:Returns Tryz.prog 42 [] (.a (.string Nqt)):=by
 refine Returns.of (ydml _ _ ?_);simp only[c42,ydjn,ydhn,go_sem,↓reduceIte];exact Sim.refl _
theorem ybfy{g:Gr}(hI:GrI g)(hit:ydn g=true):Returns Tryz.prog 43 [grV g] (.ag (ycli 2 false true (yqt g/2+2) (-1))):=by
 have h:=ybmp hI;unfold ybfx at h;rw[if_pos hit]at h;exact h
theorem ybnn:Returns Tryz.prog 41 [] (ydh NqP.vars):=by
 have e:NqP.vars=[⟨⟨#[104]⟩,1,0,0,1,0⟩,⟨⟨#[108]⟩,2,0,0,0,0⟩]:=by kernel_rfl
 rw[e];exact ybpo
end Sh
end
section
open Go.ChangeShapes Go.WideShapes Go.ChangeAt Go.RowKit
theorem ybrv{α:Type}{p:Nat->α->Prop}:∀(n:Nat),(∀i,i<n->∃x,p i x)->∃xs:List α,xs.length=n/\∀(j:Nat) (x:α),xs[j]?=some x->p j x
 |0,_=>⟨[],rfl,by simp⟩
 | n + 1,h=>by
   obtain⟨xs,h1,h2⟩:=ybrv n fun i hi=>h i (by omega)
   obtain⟨x,hx⟩:=h n (by omega)
   refine⟨xs++[x],by simp[h1],fun j y hy=>?_⟩
   by_cases hj:j<xs.length
   ·rw[List.getElem?_append_left hj]at hy;exact h2 j y hy
   ·rw[List.getElem?_append_right (by omega)]at hy
    have:j-xs.length=0:=by
     rcases zJ (j-xs.length)with q|q
     ·exact q
     ·rw[zF (by simp;omega)]at hy;cases hy
    rw[this]at hy;simp at hy;subst hy;obtain rfl:j=n:=by omega
    exact hx
section
variable {H:Type}{enc:TypeId×Value->H}{P:Program}{w:World}{base:Nat}{held:Bool}
theorem wf_i64{n:Int}(h:(Lit.int .i64 n).wf=true):I64 n:=by
 simp only[Lit.wf,zX,decide_eq_true_eq]at h;have e1:IntKind.i64.min = -9223372036854775808:=rfl;have e2:IntKind.i64.max=9223372036854775807:=rfl;rw[e1,e2]at h;exact h
end
theorem own:ownKnob Tryz.prog.godebug=Option.none:=by kernel_rfl
theorem laidOut:laidOutB Tryz.prog=true:=by kernel_rfl
section
variable {H:Type}{enc:TypeId×Value->H}{w:World}{base:Nat}{held:Bool}{n:Nat}{v:Value}{x:DataW H×List MemPlace}
end
end
section
namespace Sh
open Go Ev Go.RowKit
noncomputable def yzo{α:Type}(t:T α):Nat->List (Option α)->T α
 |_,[]=>t
 |i,x::l=>yzo (T.set (Nat.succ i) t i x) (i+1) l
theorem yly{α:Type}:∀(l:List (Option α)) (t:T α) (i j:Nat),(yzo t i l).get j=if i<=j/\j<i+l.length then(l[j-i]?).join else t.get j
 |[],t,i,j=>by rw[if_neg (by simp)];rfl
 | x :: l,t,i,j=>by
   unfold yzo;rw[yly l _ _ j]
   by_cases c:i+1<=j/\j<i+1+l.length
   ·rw[if_pos c,if_pos (by simp;omega),show j-i=(j-(i+1))+1 by omega]
    rfl
   ·rw[if_neg c,T.set_at]
    by_cases q:j=i
    ·subst q;rw[if_pos rfl,if_pos (by simp)]
     simp
    ·rw[if_neg q,if_neg (by simp;omega)]
def absV(Z:Nat)(v:Value):Option Value:=if simple v then some v else match v with
 |.slice (some ⟨b,o,none⟩) n c=>if n<=c/\c<=9223372036854775807 then(if c=0 then some (.slice (some ⟨Z,0,none⟩) n CU)else if b<=Z then some (.slice (some ⟨b,o,none⟩) n CU)else none)else none
 |.slice (some ⟨_,_,some _⟩) n c=>if n<=c/\c=0 then some (.slice (some ⟨Z,0,none⟩) n CU)else none
 |_=>none
def isU8:Value->Bool
 |.int .u8 _=>true
 |_=>false
noncomputable def absB(Z:Nat)(w:World)(i:Nat):Option ABlk:=match w.heap[i]? with
 |some (.cells c _ _)=>if c.toList.all isU8=true then none else some (.cells (yzo .leaf 0 (c.toList.map (absV Z))) c.size CU 0)
 |_=>none
def phiW(w:World):Phi:=fun i=>match w.heap[i]? with
 |some (.cells c _ _)=>some ⟨i,0,c.size,0,w.heap[i]?⟩
 |_=>if i<=w.heap.size then some ⟨i,0,0,0,none⟩else none
noncomputable def memW(w:World):Mem:=⟨w.heap.size+1,yzo .leaf 0 ((List.range w.heap.size).map (absB w.heap.size w)),w.heap.size+1⟩
theorem yke{w:World}{i:Nat}{b:ABlk}:(memW w).b.get i=some b↔absB w.heap.size w i=some b:=by
 show(yzo .leaf 0 _).get i=some b↔_;rw[yly]
 by_cases h:i<w.heap.size
 ·rw[if_pos (by simpa using h)]
  simp[h]
 ·rw[if_neg (by simpa using h),T.get_leaf]
  have:absB w.heap.size w i=none:=by unfold absB;rw[zI (by omega)]
  rw[this]
theorem ybek(w:World):Wf (memW w):=fun i b h=>by
 rw[yke]at h;show i<w.heap.size+1;unfold absB at h;split at h
 ·rename_i hc;have:=(Array.getElem?_eq_some_iff.1 hc).1;omega
 ·cases h
theorem yis{w:World}{v u:Value}(h:absV w.heap.size v=some u):VR (phiW w) u v:=by
 have hZ:∃l,phiW w w.heap.size=some l:=by
  unfold phiW;rw[zI (Nat.le_refl _)];simp
 have hφ:∀b,b<=w.heap.size->∃sz ob,phiW w b=some ⟨b,0,sz,0,ob⟩:=by
  intro b hb;unfold phiW;split
  ·exact⟨_,_,rfl⟩
  ·rw[if_pos hb];exact⟨_,_,rfl⟩
 unfold absV at h;split at h
 ·rename_i hs;cases h;exact .simple hs
 ·split at h
  ·rename_i b o n c _
   split at h
   ·rename_i hc
    split at h
    ·rename_i h0
     cases h
     obtain⟨l,hl⟩:=hZ;exact .slice hl hc.1 (fun q=>absurd rfl q) hc.2 (.inr h0)
    ·split at h
     ·rename_i hbl
      cases h
      obtain⟨sz,ob',hl⟩:=hφ b hbl;exact .slice hl hc.1 (fun q=>absurd rfl q) hc.2 (.inl ⟨by simp,.inl rfl⟩)
     ·cases h
   ·cases h
  ·rename_i b o sp n c _
   split at h
   ·rename_i hc
    cases h
    obtain⟨l,hl⟩:=hZ;exact .slice hl hc.1 (fun q=>absurd rfl q) (by omega) (.inr hc.2)
   ·cases h
  ·cases h
theorem ycbv:∀x,yccm=some x->x.2.all isU8=true:=by
 intro x hx;unfold yccm at hx
 first|(cases hx;done)|(cases hx;rfl)
theorem relW{w:World}(hG:GlW w):Rel (phiW w) (memW w).b.get w:=by
 have hblk:∀i b,(memW w).b.get i=some b->∃l,phiW w i=some l/\l.blk=i/\l.ob=w.heap[i]?/\BR (phiW w) l w b:=by
  intro i b hb;rw[yke]at hb;unfold absB at hb;split at hb
  ·rename_i c e fz hc
   split at hb
   ·cases hb
   cases hb
   refine⟨⟨i,0,c.size,0,w.heap[i]?⟩,by unfold phiW;rw[hc],rfl,rfl,rfl,by simp,c.toList,e,fz,⟨fun q=>absurd rfl q,fun o ho=>ho⟩,by simpa using hc,by simp,fun j v hj hg=>?_⟩
   rw[yly]at hg;split at hg
   ·simp only[zAG,zL]at hg;cases hcj:c.toList[j]? with
    |none=>rw[hcj]at hg;cases hg
    | some x =>
      rw[hcj]at hg;have hg:absV w.heap.size x=some v:=by simpa using hg
      exact⟨x,by rw[Nat.zero_add];exact hcj,yis hg⟩
   ·rw[T.get_leaf]at hg;cases hg
  ·cases hb
 refine⟨⟨fun i b hb=>by obtain⟨l,h1,_,_,h2⟩:=hblk i b hb;exact⟨l,h1,h2⟩,fun i j x y li lj hne hx hy hi hj=>?_⟩,fun x hx=>⟨hG x hx,fun⟨i,b,l,h1,h2,h3⟩=>?_⟩⟩
 rotate_left
 ·obtain⟨l',k1,k2,_⟩:=hblk i b h1;rw[h2]at k1;cases k1
  rw[h3]at k2;obtain⟨e,fz,q⟩:=hG x hx;rw[yke]at h1;unfold absB at h1;rw[<-k2,q]at h1;simp only at h1;rw[if_pos (by simpa using ycbv x hx)]at h1
  cases h1
 obtain⟨l,h1,h2,_⟩:=hblk i x hx;obtain⟨l',h3,h4,_⟩:=hblk j y hy;rw[hi]at h1;cases h1
 rw[hj]at h3;cases h3
 rw[h2,h4];exact hne
theorem yczo{w:World}{i:Nat}{b:ABlk}{l:Ev.Loc}(hb:(memW w).b.get i=some b)(hl:phiW w i=some l):l.blk=i/\∃o,l.ob=some o/\w.heap[i]?=some o:=by
 rw[yke]at hb;unfold absB at hb;split at hb
 ·rename_i c e fz hc
  unfold phiW at hl;rw[hc]at hl;cases hl
  exact⟨rfl,_,rfl,hc⟩
 ·cases hb
theorem ydku(w:World)(n:Nat):yfw (phiW w) (memW w).next n:=by
 intro i h1 _;have h1:w.heap.size+1<=i:=h1;unfold phiW;rw[zI (by omega)]
 simp only;rw[if_neg (by omega)]
theorem ycal {P:Program}{g:FuncId}{args:List SV}{r:SV}{v:Value}{us us':List Value}{w:World}(h:Returns P g args r) (hg:∃fn c,P.funcs[g]?=some fn/\fn.body=some c) (hn:yoq P) (hG:GlW w)
 (ha:RVL (memW w).b.get om0 args us) (hv:VRL (phiW w) us us') (hr:∀F u,RV F om0 r u->u=v) (hat:∀φ v',VR φ v v'->v'=v):Calls P g us'.toArray w fun e w'=>e = .returned v/\Below w.heap.size w w':=by
 obtain⟨u,m',x,h1,h2,h3,rfl,h5⟩:=h (memW w).b.get (memW w) us (ybek w) (Le.refl _) ha;have hu:=hr _ _ h5;subst hu;have hs:=(h1 (ybek w)).2 (phiW w) (memW w).b.get w us' (relW hG) (fun i b hb=>hb) hv (ydku w _);obtain⟨fn,c,k1,k2⟩:=hg;rcases hs with⟨_,hc⟩|⟨v',w',hrun,_⟩
 ·refine hc.mono ?_;rintro e w' ⟨v',rfl,φ',M',hgd,hvr⟩;rw[hat _ _ hvr];refine⟨rfl,hgd.wg.os,hgd.wg.tape,hgd.wg.output,hgd.wg.size,fun k hk=>?_⟩
  by_cases hi:Img (phiW w) (memW w).b.get k
  ·obtain⟨i,b,l,e1,e2,e3⟩:=hi;obtain⟨k4,o,k5,k6⟩:=yczo e1 e2;have hik:i=k:=k4.symm.trans e3;subst hik;have hlt:i<(memW w).next:=ybek w i b e1
   have hM:M' i=some b:=by
    rw[hgd.frame i (fun q=>by omega) (.inr (zH hlt h2))]
    exact e1
   obtain⟨l',q1,q2⟩:=hgd.rel.blk i b hM;rw[hgd.le i l e2]at q1;cases q1
   have hcells:∃c n,b = .cells c n CU 0:=by
    rw[yke]at e1;unfold absB at e1;split at e1
    ·split at e1
     ·cases e1
     ·cases e1;exact⟨_,_,rfl⟩
    ·cases e1
   obtain⟨c',n',rfl⟩:=hcells;obtain⟨_,_,cs,e',fz,h0,_⟩:=q2;rw[k4]at h0;rw[h0.2 o k5,k6]
  ·exact hgd.wg.keep k hk hi
 ·rw[ybv hn k1 k2]at hrun;cases hrun
end Sh
end
section
namespace Sh
open Go Ev Go.RowKit Go.ChangeShapes Go.WideShapes Go.ChangeAt
def ysl(w:World)(g:SV)(v:Value):Prop:=∃u,absV w.heap.size v=some u/\RV (memW w).b.get om0 g u
def ybgf(w:World)(g:List SV)(cs:List Value):Prop:=∃L,cs.map (absV w.heap.size)=L.map some/\RVL (memW w).b.get om0 g L
theorem ybgf.nil(w:World):ybgf w [] []:=⟨[],rfl,.nil⟩
theorem ysl.cons{w:World}{g:SV}{v:Value}{gs:List SV}{cs:List Value}(h:ysl w g v)(t:ybgf w gs cs):ybgf w (g::gs) (v::cs):=by
 obtain⟨u,h1,h2⟩:=h;obtain⟨L,h3,h4⟩:=t;exact⟨u::L,by rw[zAE,zAE,h1,h3],.cons h2 h4⟩
theorem yza(w:World)(k:IntKind)(n:Int):ysl w (.i k n) (.int k n):=⟨.int k n,rfl,.i⟩
theorem ybip{w:World}{a:Addr}{v:Value}(h:w.cell? a=some v):a.spot=none/\a.block<w.heap.size/\∃c e fz,w.heap[a.block]?=some (.cells c e fz)/\c[a.off]?=some v:=by
 unfold World.cell? at h;split at h
 ·rename_i c e fz hc
  split at h
  ·cases h
  ·rename_i hs
   refine⟨?_,(Array.getElem?_eq_some_iff.1 hc).1,c,e,fz,hc,h⟩;cases hq:a.spot with
   |none=>rfl
   |some x=>rw[hq]at hs;simp at hs
 ·cases h
section
variable {H:Type}{enc:TypeId×Value->H}{P:Program}{w:World}{base:Nat}{held:Bool}
theorem yvt {α:Type}{z:Nat}{f:α->List SV}{p:α->Prop}(d:α) {t e:TypeId}{fuel:Nat}{v:Value}{x:DataW H×List MemPlace}(ht:P.underlying t=some (.slice e)) (hC:P.cellsOf e=z) (h0:0<z)
 (hE:∀(n:Nat) (cs':List Value) (y:DataW H×List MemPlace),DataW.trod enc P w base (fun _=>true) held n e cs'=some y->cs'.length=z->∃x,p x/\ybgf w (f x) cs'/\(f x).all one1=true/\(cs'.head?.any isU8)=false)
 (h:DataW.trod enc P w base (fun _=>true) held fuel t [v]=some x):∃xs:List α,(∀x∈xs,p x)/\ysl w (.sl z xs.length (fun k=>f (xs.getD k d))) v/\isU8 v=false:=by
 rcases Go.Deep.open_slice ht h with⟨h1,_⟩|⟨a,len,cap,m,n,D,Pl,hcs,hb,hl,hm,hmm,hx,hi⟩
 ·simp at h1;subst h1;exact⟨[],fun x hx=>(by cases hx),⟨.slice none 0 0,rfl,.sl0 (.inl rfl)⟩,rfl⟩
 ·simp at hcs;subst hcs;simp only[if_true]at hmm;subst hmm;unfold maxLen at hm;rw[hC]at hi;obtain⟨b,off,spot⟩:=a;rcases zJ m with rfl|hcap
  ·obtain rfl:len=0:=by omega
   refine⟨[],fun x hx=>(by cases hx),⟨.slice (some ⟨w.heap.size,0,none⟩) 0 CU,?_,.sl0 (.inr ⟨_,_,_,rfl⟩)⟩,rfl⟩
   cases spot<;>rfl
  ·have h00:∃v0,w.cell? ⟨b,off,spot⟩=some v0/\isU8 v0=false:=by
    obtain⟨cs',h2,h2'⟩:=hi 0 hcap;obtain⟨_,h3,h4⟩:=World.cells?_some h2;have h5:=h4 0 h0;have h6:cs'[0]?=some (cs'[0]'(by omega)):=zB (by omega)
    rw[h6]at h5
    have e:(((⟨b,off,spot⟩:Addr).add (0*z)).add 0)=⟨b,off,spot⟩:=by
     unfold Addr.add;simp
    rw[e]at h5;obtain⟨_,_,_,_,h7⟩:=hE n cs' _ h2' h3;refine⟨_,h5,?_⟩
    match cs',h7,h3 with
    |c::_,h7,_=>simpa using h7
    |[],_,h3=>exact absurd h3 (by simp;omega)
   obtain⟨v0,hv0,hv8⟩:=h00;obtain⟨hsp,hblk,c,e',fz,hc,hc0⟩:=ybip hv0
   have hnu:¬c.toList.all isU8=true:=fun q=>by
    have:=List.all_eq_true.1 q v0 (by rw[Array.mem_toList_iff];exact Array.mem_of_getElem? hc0)
    rw[hv8]at this;cases this
   have hsp:spot=none:=hsp;subst hsp;have hblk:b<w.heap.size:=hblk;have hc:w.heap[b]?=some (.cells c e' fz):=hc
   have habs:absV w.heap.size (.slice (some ⟨b,off,none⟩) len m)=some (.slice (some ⟨b,off,none⟩) len CU):=by
    unfold absV;rw[if_neg (by simp[simple])]
    simp only;rw[if_pos ⟨hl,hm⟩,if_neg (by omega),if_pos (by omega)]
   obtain⟨xs,x1,x2⟩:=ybrv (p:=fun i x=>p x/\(f x).all one1=true/\∃L:List Value,L.length=z/\RVL (memW w).b.get om0 (f x) L/\∀j,j<z->∃cv,w.cell? ⟨b,off+i*z+j,none⟩=some cv/\absV w.heap.size cv=L[j]?) len fun i hil=>by
    obtain⟨cs',h2,h3⟩:=hi i (by omega)
    obtain⟨_,h4,h5⟩:=World.cells?_some h2;obtain⟨x,q1,⟨L,q2,q3⟩,q4,_⟩:=hE n cs' _ h3 h4
    have hLz:L.length=z:=by
     have:=congrArg List.length q2
     simpa[h4]using this.symm
    refine⟨x,q1,q4,L,hLz,q3,fun j hj=>?_⟩;have hj':j<cs'.length:=by omega
    refine⟨cs'[j],?_,?_⟩
    ·have:=h5 j hj;rw[zB hj']at this;rw[<-this];congr 1;unfold Addr.add;split<;>split<;>simp_all<;>omega
    ·have:=congrArg (fun l=>l[j]?) q2;simp only[zL,zB hj']at this;rw[zB (show j<L.length by omega)]at this ⊢
     simpa using this
   refine⟨xs,fun x hx=>?_,⟨_,habs,?_⟩,rfl⟩
   ·obtain⟨i,hi',rfl⟩:=List.getElem_of_mem hx;exact(x2 i _ (zB hi')).1
   ·rw[x1];rcases zJ len with rfl|hlen
    ·exact .sl0 (.inr ⟨_,_,_,rfl⟩)
    ·have hat:∀k,k<len->∃L:List Value,L.length=z/\RVL (memW w).b.get om0 (f (xs.getD k d)) L/\(f (xs.getD k d)).all one1=true/\∀j,j<z->∃cv,w.cell? ⟨b,off+k*z+j,none⟩=some cv/\absV w.heap.size cv=L[j]?:=fun k hk=>by
      have hk':k<xs.length:=by omega
      obtain⟨_,q2,L,q3,q4,q5⟩:=x2 k _ (zB hk');rw[zC,zB hk'];exact⟨L,q3,q4,q2,q5⟩
     classical
     let L:Nat->List Value:=fun k=>if hk:k<len then zY (hat k hk)else[]
     have hL:∀k (hk:k<len),(L k).length=z/\RVL (memW w).b.get om0 (f (xs.getD k d)) (L k)/\(f (xs.getD k d)).all one1=true/\∀j,j<z->∃cv,w.cell? ⟨b,off+k*z+j,none⟩=some cv/\absV w.heap.size cv=(L k)[j]?:=fun k hk=>by
      have e:L k=zY (hat k hk):=by show(if hk:k<len then _ else _)=_;rw[dif_pos hk]
      rw[e];exact zAI (hat k hk)
     have hmem:(memW w).b.get b=some (.cells (yzo .leaf 0 (c.toList.map (absV w.heap.size))) c.size CU 0):=by
      rw[yke];unfold absB;rw[hc];exact if_neg hnu
     have hget:∀j cv,w.cell? ⟨b,j,none⟩=some cv->j<c.size/\(yzo .leaf 0 (c.toList.map (absV w.heap.size))).get j=absV w.heap.size cv:=fun j cv hcv=>by
      obtain⟨_,_,c2,e2,fz2,h1,h2⟩:=ybip hcv;have h1:w.heap[b]?=some (.cells c2 e2 fz2):=h1;rw[hc]at h1;cases h1
      have h2:c[j]?=some cv:=h2;have hj:j<c.size:=(Array.getElem?_eq_some_iff.1 h2).1;refine⟨hj,?_⟩;rw[yly,if_pos ⟨zV _,by simpa using hj⟩,zAG,zL]
      have:c.toList[j]?=some cv:=by simpa using h2
      rw[this];simp
     refine .sl (L:=L) hmem (.inr rfl) ?_ (fun k hk=>(hL k hk).1) (fun k hk j hj=>?_) (fun k hk=>(hL k hk).2.1) (fun k hk=>(hL k hk).2.2.1)
     ·obtain⟨_,_,_,q⟩:=hL (len-1) (by omega)
      obtain⟨cv,h1,_⟩:=q (z-1) (by omega)
      have:=(hget _ _ h1).1
      have e:len*z=(len-1)*z+z:=by
       obtain⟨y,rfl⟩:∃y,len=y+1:=⟨len-1,by omega⟩
       rw[Nat.succ_mul];simp
      omega
     ·obtain⟨_,_,_,q⟩:=hL k hk;obtain⟨cv,h1,h2⟩:=q j hj;rw[(hget _ _ h1).2,h2]
theorem ybsg {t e:TypeId}{fuel:Nat}{v:Value}{x:DataW H×List MemPlace}(ht:P.underlying t=some (.slice e)) (he:P.underlying e=some (.int .i64)) (hC:P.cellsOf e=1)
 (h:DataW.trod enc P w base (fun _=>true) held fuel t [v]=some x):∃xs,(∀x∈xs,I64 x)/\ysl w (yw xs) v/\isU8 v=false:=by
 refine yvt (f:=fun x=>[.i .i64 x]) (p:=I64) 0 ht hC (by decide) (fun n cs' y h1 h2=>?_) h
 obtain⟨k,rfl,_,hw⟩:=DataW.trod_int he h1;exact⟨k,wf_i64 hw,(yza w .i64 k).cons (ybgf.nil w),rfl,rfl⟩
end
section
variable {H:Type}{enc:TypeId×Value->H}{w:World}{base:Nat}{held:Bool}{n:Nat}{v:Value}{x:DataW H×List MemPlace}
theorem ybqc(h:DataW.trod enc Tryz.prog w base (fun _=>true) held n 22 [v]=some x):∃xs,(∀x∈xs,I64 x)/\ysl w (yw xs) v/\isU8 v=false :=
 ybsg Tryz.underlying22 Tryz.underlying3 (by kernel_rfl) h
theorem ylp(h:DataW.trod enc Tryz.prog w base (fun _=>true) held n 22 [v]=some x):∃xs,(∀x∈xs,I64 x)/\ysl w (yw xs) v:=by
 obtain⟨xs,h1,h2,_⟩:=ybqc h;exact⟨xs,h1,h2⟩
end
theorem ybmz {P:Program}{g:FuncId}{args:List SV}{x:Bool}{us':List Value}{w:World}(h:Returns P g args (.b x)) (hg:∃fn c,P.funcs[g]?=some fn/\fn.body=some c) (hn:yoq P) (hG:GlW w)
 {us:List Value}(ha:RVL (memW w).b.get om0 args us) (hv:VRL (phiW w) us us'):Calls P g us'.toArray w fun e w'=>e = .returned (.bool x)/\Below w.heap.size w w' :=
 ycal h hg hn hG ha hv (fun F u hu=>by cases hu;rfl) (fun φ v' hv'=>hv'.eq_simple rfl)
end Sh
end
section
namespace Sh
open Go Ev Go.RowKit Go.ChangeShapes Go.WideShapes Go.ChangeAt Go.Joins
theorem ydix{α:Type}{cs:Array α}(h:cs.size=6):∃c0 c1 c2 c3 c4 c5,cs = #[c0,c1,c2,c3,c4,c5]:=by
 obtain⟨l⟩:=cs
 match l,h with
 |[c0,c1,c2,c3,c4,c5],_=>exact⟨c0,c1,c2,c3,c4,c5,rfl⟩
section
variable {H:Type}{enc:TypeId×Value->H}{P:Program}{w:World}{base:Nat}{held:Bool}{spare:Nat->Bool}
theorem six{α:Type}{xs:List α}(h:xs.length=6):∃y0 y1 y2 y3 y4 y5,xs=[y0,y1,y2,y3,y4,y5]:=by
 match xs,h with
 |[y0,y1,y2,y3,y4,y5],_=>exact⟨y0,y1,y2,y3,y4,y5,rfl⟩
theorem ybrk {r:Reach}{b0:Nat}{t:TypeId}{f0 f1 f2 f3 f4 f5:Field}{v:Value}{d:DataW H}{p:List MemPlace}(hs:P.underlying t=some (.struct #[f0,f1,f2,f3,f4,f5])) (hone:Go.Deep.oneCellFields P #[f0,f1,f2,f3,f4,f5]=true) (hC:P.cellsOf t=6)
 (hv:Value.okWide P w r b0 t v) (h:DataW.Trod enc P w base spare held t v d p) :
 ∃ (v0 v1 v2 v3 v4 v5:Value) (y0 y1 y2 y3 y4 y5:DataW H×List MemPlace) (n:Nat),v = .agg #[v0,v1,v2,v3,v4,v5] /\
   DataW.trod enc P w base spare held n f0.type [v0]=some y0/\DataW.trod enc P w base spare held n f1.type [v1]=some y1/\DataW.trod enc P w base spare held n f2.type [v2]=some y2 /\
   DataW.trod enc P w base spare held n f3.type [v3]=some y3/\DataW.trod enc P w base spare held n f4.type [v4]=some y4/\DataW.trod enc P w base spare held n f5.type [v5]=some y5:=by
 obtain⟨cs,rfl,hsz⟩:=okWide_struct hs hv;obtain⟨c0,c1,c2,c3,c4,c5,rfl⟩:=ydix (hsz.trans hC);obtain⟨fuel,hf⟩:=h;obtain⟨xs,n,_,_,_,hlen,hf⟩:=DataW.trod_struct hs hf;obtain⟨y0,y1,y2,y3,y4,y5,rfl⟩:=six hlen;obtain⟨o0,k0⟩:=Go.Deep.hone_of hone 0 f0 rfl;obtain⟨o1,k1⟩:=Go.Deep.hone_of hone 1 f1 rfl;obtain⟨o2,k2⟩:=Go.Deep.hone_of hone 2 f2 rfl;obtain⟨o3,k3⟩:=Go.Deep.hone_of hone 3 f3 rfl;obtain⟨o4,k4⟩:=Go.Deep.hone_of hone 4 f4 rfl
 obtain⟨o5,k5⟩:=Go.Deep.hone_of hone 5 f5 rfl;have h0:=hf 0 f0 rfl;have h1:=hf 1 f1 rfl;have h2:=hf 2 f2 rfl;have h3:=hf 3 f3 rfl;have h4:=hf 4 f4 rfl;have h5:=hf 5 f5 rfl;rw[o0,k0]at h0;rw[o1,k1]at h1;rw[o2,k2]at h2;rw[o3,k3]at h3;rw[o4,k4]at h4;rw[o5,k5]at h5;exact⟨c0,c1,c2,c3,c4,c5,y0,y1,y2,y3,y4,y5,n,rfl,h0,h1,h2,h3,h4,h5⟩
end
section
variable {H:Type}{enc:TypeId×Value->H}{w:World}{base:Nat}{held:Bool}{n:Nat}{v:Value}{x:DataW H×List MemPlace}
theorem ybsh(w:World)(b:Bool):ysl w (.b b) (.bool b):=⟨.bool b,rfl,.b⟩
theorem ycca(h:DataW.trod enc Tryz.prog w base (fun _=>true) held n 38 [v]=some x):∃xs:List Nat,(∀k,xs.getD k 0<2^32)/\ysl w (usV xs) v:=by
 obtain⟨xs,h1,h2,_⟩:=yvt (f:=fun x:Nat=>[SV.i .u32 (x:Int)]) (p:=fun x=>x<2^32) 0 (z:=1) Tryz.underlying38 (by kernel_rfl) (by decide) (fun n cs' y h1 h2=>by
  obtain⟨k,rfl,_,hw⟩:=DataW.trod_int Tryz.underlying40 h1;have hb:=bounds_u32 hw;obtain⟨m,rfl⟩:∃m:Nat,k=m:=⟨k.toNat,by omega⟩
  exact⟨m,by omega,(yza w .u32 m).cons (ybgf.nil w),rfl,rfl⟩) h
 refine⟨xs,fun k=>?_,h2⟩;rcases zAH k xs.length with q|q
 ·rw[zC,zB q];exact h1 _ (zN q)
 ·rw[zC,zF q];decide
theorem ybiu{l:List Int}(h:∀x∈l,I64 x)(k:Nat):inK .i64 (l.getD k 0):=by
 have:I64 (l.getD k 0):=by
  rcases zAH k l.length with q|q
  ·rw[zC,zB q];exact h _ (zN q)
  ·rw[zC,zF q];exact yft (by decide)
 exact this
theorem ybsu{v:Value}{x:DataW H×List MemPlace}(h:DataW.trod enc Tryz.prog w base (fun _=>true) held n 3 [v]=some x):∃k,inK .i64 k/\ysl w (.i .i64 k) v:=by
 obtain⟨k,e,_,hw⟩:=DataW.trod_int Tryz.underlying3 h;simp at e;subst e;exact⟨k,wf_i64 hw,yza w .i64 k⟩
theorem ywd{v:Value}{x:DataW H×List MemPlace}(h:DataW.trod enc Tryz.prog w base (fun _=>true) held n 4 [v]=some x):∃b,ysl w (.b b) v:=by
 obtain⟨b,e,_⟩:=DataW.trod_bool Tryz.underlying4 h;simp at e;subst e;exact⟨b,ybsh w b⟩
theorem ybui{b0:Nat}{d:DataW H}{p:List MemPlace}(hv:Value.okWide Tryz.prog w .any b0 24 v)(h:DataW.Trod enc Tryz.prog w base (fun _=>true) held 24 v d p) :
 ∃(x:NetR) (u:Value),x.ok/\RV (memW w).b.get om0 (.ag (netC x)) u/\VR (phiW w) u v:=by
 obtain⟨v0,v1,v2,v3,v4,v5,y0,y1,y2,y3,y4,y5,n,rfl,h0,h1,h2,h3,h4,h5⟩:=ybrk Tryz.underlying24 (by kernel_rfl) (by kernel_rfl) hv h
 obtain⟨k,kI,u0,a0,r0⟩:=ybsu h0;obtain⟨ls,lI,u1,a1,r1⟩:=ylp h1;obtain⟨ws,wI,u2,a2,r2⟩:=ylp h2;obtain⟨is,iI,u3,a3,r3⟩:=ylp h3;obtain⟨ap,u4,a4,r4⟩:=ywd h4;obtain⟨bk,u5,a5,r5⟩:=ywd h5;refine⟨⟨k,ls,ws,is,ap,bk⟩,.agg [u0,u1,u2,u3,u4,u5].toArray,⟨kI,ybiu lI,ybiu wI,ybiu iI⟩,.ag (.cons r0 (.cons r1 (.cons r2 (.cons r3 (.cons r4 (.cons r5 .nil)))))),?_⟩;exact .agg (a:=[u0,u1,u2,u3,u4,u5]) (a':=[v0,v1,v2,v3,v4,v5]) (.cons (yis a0) (.cons (yis a1) (.cons (yis a2) (.cons (yis a3) (.cons (yis a4) (.cons (yis a5) .nil))))))
end
end Sh
end
section
def ioN:List Nat:=[104,97,114,110,101,115,115,32,101,52,49,99,97,57,54,99,54,54,56,50,102,54,55,101,57,51,102,51,48,51,101,48,51,98,57,97,56,54,102,55,97,50,53,102,55,52,99,102,98,55,57,53,57,48,57,52,55,52,55,48,48,102,100,56,48,52,56,55,54,48,53,97,32,99,117,116,32,97,116,32,115,101,108,102,115,116,97,98,47,115,101,108,102,115,116,97,98,108,97,119,50,55,46,67,101,110,116,101,114,77,105,100,100,108,101,32,115,101,108,102,115,116,97,98,47,115,101,108,102,115,116,97,98,108,97,119,50,55,46,67,101,110,116,101,114,82,111,117,110,100,115,32,115,101,108,102,115,116,97,98,47,115,101,108,102,115,116,97,98,108,97,119,50,55,46,67,101,110,116,101,114,82,101,97,99,104,101,115,32,115,101,108,102,115,116,97,98,47,115,101,108,102,115,116,97,98,108,97,119,50,55,46,67,101,110,116,101,114,82,101,115,116,115,32,115,101,108,102,115,116,97,98,47,115,101,108,102,115,116,97,98,108,97,119,50,55,46,67,101,110,116,101,114,65,110,111,110,121,109,111,117,115,32,115,101,108,102,115,116,97,98,47,115,101,108,102,115,116,97,98,108,97,119,50,56,46,69,108,101,99,116,105,111,110,82,101,97,99,104,101,115,32,115,101,108,102,115,116,97,98,47,115,101,108,102,115,116,97,98,108,97,119,50,56,46,69,108,101,99,116,105,111,110,82,101,115,116,115,32,115,101,108,102,115,116,97,98,47,115,101,108,102,115,116,97,98,108,97,119,50,56,46,69,108,101,99,116,105,111,110,67,101,110,116,114,101,32,115,101,108,102,115,116,97,98,47,115,101,108,102,115,116,97,98,108,97,119,50,56,46,69,108,101,99,116,105,111,110,84,111,103,101,116,104,101,114,32,115,101,108,102,115,116,97,98,47,115,101,108,102,115,116,97,98,108,97,119,51,50,46,67,111,108,111,117,114,105,110,103,83,104,114,105,110,107,115,32,115,101,108,102,115,116,97,98,47,115,101,108,102,115,116,97,98,108,97,119,51,50,46,67,111,108,111,117,114,105,110,103,82,101,97,99,104,101,115,32,115,101,108,102,115,116,97,98,47,115,101,108,102,115,116,97,98,108,97,119,51,50,46,67,111,108,111,117,114,105,110,103,82,101,115,116,115,32,115,101,108,102,115,116,97,98,47,115,101,108,102,115,116,97,98,108,97,119,51,48,46,77,97,116,99,104,105,110,103,77,97,120,105,109,97,108,32,115,101,108,102,115,116,97,98,47,115,101,108,102,115,116,97,98,108,97,119,51,48,46,77,97,116,99,104,105,110,103,83,116,97,121,115,32,115,101,108,102,115,116,97,98,47,115,101,108,102,115,116,97,98,108,97,119,51,48,46,77,97,116,99,104,105,110,103,84,111,103,101,116,104,101,114,32,115,101,108,102,115,116,97,98,47,115,101,108,102,115,116,97,98,108,97,119,51,48,46,77,97,116,99,104,105,110,103,82,101,97,99,104,101,115,32,115,101,108,102,115,116,97,98,47,115,101,108,102,115,116,97,98,108,97,119,51,48,46,77,97,116,99,104,105,110,103,82,101,115,116,115,32,115,101,108,102,115,116,97,98,47,115,101,108,102,115,116,97,98,108,97,119,50,54,46,76,101,97,100,101,114,65,110,121,119,104,101,114,101]
theorem ydpy:Tryz.prog.initOrder=String.ofList (ioN.map Char.ofNat):=by kernel_rfl
theorem yxc:Tryz.prog.initOrder.toList=ioN.map Char.ofNat:=by rw[ydpy];exact String.toList_ofList
theorem ydap (P : Program) {l c : List Char} {rest : List (List Char)} (h : P.initOrder.toList = l) (hb : behindMainWord (wordsSigns l) = c :: rest) (h1 : (c == "gc".toList || c == "spec".toList) = false) (h2 : (c == "cut".toList) = true) : P.make = some Make.cut := by
 unfold Program.make;rw[h,hb];simp only[h1,h2];simp
theorem ycgf (P : Program) {l c : List Char} {rest : List (List Char)} (h : P.initOrder.toList = l) (hb : behindMainWord (wordsSigns l) = c :: rest) (e : (stripLifts liftWords (c :: rest)).1 = []) (e2 : ((stripLifts liftWords (c :: rest)).2.head? == some "cut".toList) = true)
 (h1:P.bearsReflect=false) (h2:P.laysLater=false) (h3:P.doorFits []=true):P.mayEnter=true:=by
 unfold Program.mayEnter;rw[h,hb];simp only[e,e2,h1,h2,h3];simp
theorem ydnj : behindMainWord (wordsSigns (ioN.map Char.ofNat)) = "cut".toList :: (behindMainWord (wordsSigns (ioN.map Char.ofNat))).tail := by kernel_rfl
theorem ydbk:Tryz.prog.make=some Make.cut:=ydap _ yxc ydnj (by kernel_rfl) (by kernel_rfl)
theorem ycfg:Tryz.prog.mayEnter=true:=ycgf _ yxc ydnj (by kernel_rfl) (by kernel_rfl) (by kernel_rfl) (by kernel_rfl) (by kernel_rfl)
def ioH:List Nat:=[101,52,49,99,97,57,54,99,54,54,56,50,102,54,55,101,57,51,102,51,48,51,101,48,51,98,57,97,56,54,102,55,97,50,53,102,55,52,99,102,98,55,57,53,57,48,57,52,55,52,55,48,48,102,100,56,48,52,56,55,54,48,53,97]
theorem ydat : "e41ca96c6682f67e93f303e03b9a86f7a25f74cfb795909474700fd80487605a".toList = ioH.map Char.ofNat := by
 have h : "e41ca96c6682f67e93f303e03b9a86f7a25f74cfb795909474700fd80487605a" = String.ofList (ioH.map Char.ofNat) := by kernel_rfl
 rw[h];exact String.toList_ofList
theorem ydcs (P : Program) {l h s : List Char} {rest : List (List Char)} (hl : P.initOrder.toList = l) (hb : wordsSigns l = h :: s :: rest) (hs : isSumSigns s = true) (hh : (h == "harness".toList) = true) : P.mainIs = some (true, s) := by
 unfold Program.mainIs;rw[hl,hb];simp only[hs,hh];simp
theorem ydqd:wordsSigns (ioN.map Char.ofNat)=([104,97,114,110,101,115,115]:List Nat).map Char.ofNat::ioH.map Char.ofNat::(wordsSigns (ioN.map Char.ofNat)).tail.tail:=by kernel_rfl
theorem ycyy : Tryz.prog.mainIs = some (true, "e41ca96c6682f67e93f303e03b9a86f7a25f74cfb795909474700fd80487605a".toList) := by
 rw[ydat];exact ydcs _ yxc ydqd (by kernel_rfl) (by kernel_rfl)
theorem yccw:true=Tryz.prog.looks []:=by kernel_rfl
theorem ycaw:Tryz.prog.liftsFinal=false:=by
 unfold Program.liftsFinal Program.headLifts;rw[yxc]
 kernel_rfl
end
end Go.Proofs.YtiejahgklcjhkaaGreatDoor
