/- Joined. -/
import Derived.Test.YtiejahgklcjhkaaGreatDoorPkT12
set_option linter.unusedSimpArgs false
set_option linter.unusedVariables false
set_option maxRecDepth 8000
open Nat renaming reduceEqDiff→zA,reduceAdd→zB,zero_le→zL,eq_zero_or_pos→zW,mul_le_mul→zAB
open List renaming getElem?_eq_getElem→zC,take_succ_eq_append_getElem→zD,getD_eq_getElem?_getD→zG,mem_of_getElem?→zH,take_of_length_le→zJ,getElem_mem→zK,getD→zM,eq_nil_of_length_eq_zero→zO,mem_cons_self→zQ,getElem?_map→zS,foldl_append→zT,findIdx?_eq_none_iff→zU,mem_cons_of_mem→zV,elem_eq_mem→zY,range→zZ,map_cons→zAC
open Go.Proofs.Tryz renaming prog→zF,func132→zAD
open Int renaming natCast_zero→zI,natAbs_mul→zAA
open Bool renaming and_eq_true→zN
open Classical renaming choose→zX,choose_spec→zAE
open Go
namespace Go.Proofs.YtiejahgklcjhkaaGreatDoor
section
namespace Sh
open Go Ev Go.RowKit
def GrI(g:Gr):Prop:=(∀x∈g.ids,I64 x)/\∀ls∈g.ports,∀l∈ls,I64 l.1/\I64 l.2
def ybnn(c:List (List Int)):Prop:=∀s∈c,∀x∈s,I64 x
section
variable {G:AM}{m:Mem}{φ:Phi}{M:AM}{w:World}{u u':Value}
theorem ycbz {α:Type}{z n:Nat}{gg:Nat->List SV}{xs:List α}{E:Elem α}(hG:Le G m.b.get) (hr:RV G om0 (.sl z n gg) u) (hv:VR φ u u') (hR:Rel φ M w) (hs:Sub m M) (hn:xs.length=n)
 (hE:∀k x b o L L',xs[k]?=some x->RVL G om0 (gg k) L->VRL φ L L'->(∀j v,L'[j]?=some v->w.cell? ⟨b,o+j,none⟩=some v)->E w b o x):SlAt z E w u' xs:=by
 rcases hr.sl_inv with⟨rfl,h0⟩|⟨bk,p,cp,T,N,e,zz,L,rfl,g1,g2,g3,g4,g5,g6,g7⟩
 ·have:xs=[]:=zO hn;subst this;rcases h0 with rfl|⟨b,o,c,rfl⟩
  ·have e:=hv.eq_simple rfl;subst e;exact SlAt.nil w
  ·obtain⟨lc,A,c',k1,k2,k3,k4,k5,k6,k7⟩:=hv.slice_inv;subst k3;exact⟨some A,c',rfl,zL _,k6,fun q=>absurd q (by simp)⟩
 ·obtain⟨lc,A,c',k1,k2,k3,k4,k5,k6,k7⟩:=hv.slice_inv;subst k3;subst hn;refine⟨some A,c',rfl,k4,k6,fun hpos=>?_⟩;rcases k7 with⟨rfl,_⟩|k7
  ·obtain⟨lc',h1,h2⟩:=hR.blk _ _ (hs _ _ (hG _ _ g1));have k1':φ bk=some lc:=k1;rw[k1']at h1;cases h1
   obtain⟨h3,h4,cs,e2,fz2,h0,h5,h6,h7⟩:=h2;refine⟨lc.blk,lc.base+p,rfl,(Array.getElem?_eq_some_iff.1 h5).1,fun k x hx=>?_⟩;have hk:k<xs.length:=(List.getElem?_eq_some_iff.1 hx).1;have hin:=yiz (z:=z) hk;have hcells:∀j v,j<z->(L k)[j]?=some v->∃v',cs[lc.base+(p+k*z+j)]?=some v'/\VR φ v v':=fun j v hj hv=>h7 _ v (by omega) (by rw[g5 k hk j hj];exact hv)
   have hex:∀(l:List Value) (q:Nat),(∀j v,l[j]?=some v->∃v',cs[q+j]?=some v'/\VR φ v v')->∃l',VRL φ l l'/\∀j v,l'[j]?=some v->cs[q+j]?=some v:=by
    intro l
    induction l with
    |nil=>intro q _;exact⟨[],.nil,fun j v h=>by simp at h⟩
    | cons a l ih =>
      intro q h;obtain⟨v',e1,e2⟩:=h 0 a rfl;obtain⟨l',e3,e4⟩:=ih (q+1) (fun j v hv=>by have:=h (j+1) v (by simpa using hv);rw[show q+1+j=q+(j+1)by omega];exact this)
      refine⟨v'::l',.cons e2 e3,fun j v hv=>?_⟩;cases j with
      |zero=>simp at hv;subst hv;exact e1
      |succ j=>have:=e4 j v (by simpa using hv);rw[show q+(j+1)=q+1+j by omega];exact this
   obtain⟨L',r1,r2⟩:=hex (L k) (lc.base+p+k*z) (fun j v hv=>by
    have hj:j<z:=by rw[<-g4 k hk];exact(List.getElem?_eq_some_iff.1 hv).1
    have:=hcells j v hj hv;rw[show lc.base+p+k*z+j=lc.base+(p+k*z+j)by omega]
    exact this)
   exact hE k x _ _ (L k) L' hx (g6 k hk) r1 fun j v hv=>cell_of h5 (by have:=r2 j v hv;exact this)
  ·omega
theorem ints_at{l:List Int}(hG:Le G m.b.get)(hr:RV G om0 (yx l) u)(hv:VR φ u u')(hR:Rel φ M w)(hs:Sub m M)(hI:∀x∈l,I64 x):yku w u' l:=by
 refine ycbz hG hr hv hR hs rfl fun k x b o L L' hx hL hL' hc=>?_;have hk:k<l.length:=(List.getElem?_eq_some_iff.1 hx).1;have hxe:l.getD k 0=x:=by simp[zM,hx]
 rw[hxe]at hL;cases hL with
 | cons a b =>
   cases b
   cases a.int_inv
   obtain⟨v',rfl,hvv⟩:=yhs hL';have:=hvv.eq_simple rfl;subst this;exact⟨hc 0 _ rfl,hI x (zH hx)⟩
theorem ycdn{ls:List (Int×Int)}(hG:Le G m.b.get)(hr:RV G om0 (ybd ls) u)(hv:VR φ u u')(hR:Rel φ M w)(hs:Sub m M)(hI:∀l∈ls,I64 l.1/\I64 l.2):ybyh w u' ls:=by
 refine ycbz hG hr hv hR hs rfl fun k x b o L L' hx hL hL' hc=>?_;have hxe:ls.getD k (0,0)=x:=by simp[zM,hx]
 rw[hxe]at hL;cases hL with
 | cons a b =>
   cases b with
   | cons a2 b2 =>
     cases b2
     cases a.int_inv
     cases a2.int_inv
     obtain⟨v1,v2,rfl,h1,h2⟩:=yyd hL';have:=h1.eq_simple rfl;subst this;have:=h2.eq_simple rfl;subst this;exact⟨hc 0 _ rfl,hc 1 _ rfl,hI x (zH hx)⟩
theorem yccr{ps:List (List (Int×Int))}(hG:Le G m.b.get)(hr:RV G om0 (ybe ps) u)(hv:VR φ u u')(hR:Rel φ M w)(hs:Sub m M)(hI:∀ls∈ps,∀l∈ls,I64 l.1/\I64 l.2):ywk w u' ps:=by
 refine ycbz hG hr hv hR hs rfl fun k x b o L L' hx hL hL' hc=>?_;have hxe:ps.getD k []=x:=by simp[zM,hx]
 rw[hxe]at hL;cases hL with
 | cons a b =>
   cases b
   obtain⟨v',rfl,hvv⟩:=yhs hL';exact⟨v',hc 0 _ rfl,ycdn hG a hvv hR hs (hI x (zH hx))⟩
theorem yczy{c:List (List Int)}(hG:Le G m.b.get)(hr:RV G om0 (ybl c) u)(hv:VR φ u u')(hR:Rel φ M w)(hs:Sub m M)(hI:ybnn c):ychj w u' c:=by
 refine ycbz hG hr hv hR hs rfl fun k x b o L L' hx hL hL' hc=>?_;have hxe:c.getD k []=x:=by simp[zM,hx]
 rw[hxe]at hL;cases hL with
 | cons a b =>
   cases b
   obtain⟨v',rfl,hvv⟩:=yhs hL';exact⟨v',hc 0 _ rfl,ints_at hG a hvv hR hs (hI x (zH hx))⟩
theorem ycyx{g:Gr}(hG:Le G m.b.get)(hr:RV G om0 (grV g) u)(hv:VR φ u u')(hR:Rel φ M w)(hs:Sub m M)(hI:GrI g):GrAt w u' g:=by
 obtain⟨L,rfl,hL⟩:=hr.ag_inv;cases hL with
 | cons a b =>
   cases b with
   | cons a2 b2 =>
     cases b2
     obtain⟨L',rfl,hL'⟩:=hv.agg_inv;obtain⟨v1,v2,rfl,h1,h2⟩:=yyd hL';exact⟨v1,v2,rfl,ints_at hG a h1 hR hs hI.1,yccr hG a2 h2 hR hs hI.2⟩
end
theorem ybjg {g:FuncId}{args:List SV}{r:SV}{v:Value}(hg:∃fn c,Tryz.prog.funcs[g]?=some fn/\fn.body=some c) (hrv:∀F,RV F om0 r v) (hvr:∀φ,VR φ v v)
 (h:∀(G:AM) (m:Mem) (us:List Value),Le G m.b.get->RVL G om0 args us->∀φ M w us',Rel φ M w->Sub m M->VRL φ us us'->Calls zF g us'.toArray w fun e w'=>e = .returned v/\Below w.heap.size w w'):Returns zF g args r:=by
 intro G m us hw hle hr;refine⟨v,enterM m,r,yky ytg hg fun φ M w us' hR hs hv=>(h G m us hle hr φ M w us' hR hs hv).mono ?_,Nat.le_refl _,Le.refl _,rfl,hrv _⟩;rintro e w' ⟨rfl,hb⟩;exact⟨v,rfl,hvr φ,hb⟩
theorem rvl1{F:AM}{ω:Om}{a:SV}{us:List Value}(h:RVL F ω [a] us):∃u,us=[u]/\RV F ω a u:=by
 cases h with|cons x y=>cases y;exact⟨_,rfl,x⟩
theorem rvl2{F:AM}{ω:Om}{a b:SV}{us:List Value}(h:RVL F ω [a,b] us):∃u v,us=[u,v]/\RV F ω a u/\RV F ω b v:=by
 cases h with|cons x y=>obtain⟨v,rfl,q⟩:=rvl1 y;exact⟨_,v,rfl,x,q⟩
end Sh
end
section
namespace Sh
open Go Ev Go.RowKit Go.ChangeShapes Go.WideShapes Go.ChangeAt
def yti(w:World)(g:SV)(v:Value):Prop:=∃u,absV w.heap.size v=some u/\RV (memW w).b.get om0 g u
def yblb(w:World)(g:List SV)(cs:List Value):Prop:=∃L,cs.map (absV w.heap.size)=L.map some/\RVL (memW w).b.get om0 g L
theorem yblb.nil(w:World):yblb w [] []:=⟨[],rfl,.nil⟩
theorem yti.cons{w:World}{g:SV}{v:Value}{gs:List SV}{cs:List Value}(h:yti w g v)(t:yblb w gs cs):yblb w (g::gs) (v::cs):=by
 obtain⟨u,h1,h2⟩:=h;obtain⟨L,h3,h4⟩:=t;exact⟨u::L,by rw[zAC,zAC,h1,h3],.cons h2 h4⟩
theorem ybje(w:World)(k:IntKind)(n:Int):yti w (.i k n) (.int k n):=⟨.int k n,rfl,.i⟩
theorem ybiq{w:World}{a:Addr}{v:Value}(h:w.cell? a=some v):a.spot=none/\a.block<w.heap.size/\∃c e fz,w.heap[a.block]?=some (.cells c e fz)/\c[a.off]?=some v:=by
 unfold World.cell? at h;split at h
 ·rename_i c e fz hc
  split at h
  ·cases h
  ·rename_i hs
   refine⟨?_,(Array.getElem?_eq_some_iff.1 hc).1,c,e,fz,hc,h⟩;cases hq:a.spot with
   |none=>rfl
   |some x=>rw[hq]at hs;simp at hs
 ·cases h
section
variable {H:Type}{enc:TypeId×Value->H}{P:Program}{w:World}{base:Nat}{held:Bool}
theorem yblv {α:Type}{z:Nat}{f:α->List SV}{p:α->Prop}(d:α) {t e:TypeId}{fuel:Nat}{v:Value}{x:DataW H×List MemPlace}(ht:P.underlying t=some (.slice e)) (hC:P.cellsOf e=z) (h0:0<z)
 (hE:∀(n:Nat) (cs':List Value) (y:DataW H×List MemPlace),DataW.trod enc P w base (fun _=>true) held n e cs'=some y->cs'.length=z->∃x,p x/\yblb w (f x) cs'/\(f x).all one1=true/\(cs'.head?.any isU8)=false)
 (h:DataW.trod enc P w base (fun _=>true) held fuel t [v]=some x):∃xs:List α,(∀x∈xs,p x)/\yti w (.sl z xs.length (fun k=>f (xs.getD k d))) v/\isU8 v=false:=by
 rcases Go.Deep.open_slice ht h with⟨h1,_⟩|⟨a,len,cap,m,n,D,Pl,hcs,hb,hl,hm,hmm,hx,hi⟩
 ·simp at h1;subst h1;exact⟨[],fun x hx=>(by cases hx),⟨.slice none 0 0,rfl,.sl0 (.inl rfl)⟩,rfl⟩
 ·simp at hcs;subst hcs;simp only[if_true]at hmm;subst hmm;unfold maxLen at hm;rw[hC]at hi;obtain⟨b,off,spot⟩:=a;rcases zW m with rfl|hcap
  ·obtain rfl:len=0:=by omega
   refine⟨[],fun x hx=>(by cases hx),⟨.slice (some ⟨w.heap.size,0,none⟩) 0 CU,?_,.sl0 (.inr ⟨_,_,_,rfl⟩)⟩,rfl⟩
   cases spot<;>rfl
  ·have h00:∃v0,w.cell? ⟨b,off,spot⟩=some v0/\isU8 v0=false:=by
    obtain⟨cs',h2,h2'⟩:=hi 0 hcap;obtain⟨_,h3,h4⟩:=World.cells?_some h2;have h5:=h4 0 h0;have h6:cs'[0]?=some (cs'[0]'(by omega)):=zC (by omega)
    rw[h6]at h5
    have e:(((⟨b,off,spot⟩:Addr).add (0*z)).add 0)=⟨b,off,spot⟩:=by
     unfold Addr.add;simp
    rw[e]at h5;obtain⟨_,_,_,_,h7⟩:=hE n cs' _ h2' h3;refine⟨_,h5,?_⟩
    match cs',h7,h3 with
    |c::_,h7,_=>simpa using h7
    |[],_,h3=>exact absurd h3 (by simp;omega)
   obtain⟨v0,hv0,hv8⟩:=h00;obtain⟨hsp,hblk,c,e',fz,hc,hc0⟩:=ybiq hv0
   have hnu:¬c.toList.all isU8=true:=fun q=>by
    have:=List.all_eq_true.1 q v0 (by rw[Array.mem_toList_iff];exact Array.mem_of_getElem? hc0)
    rw[hv8]at this;cases this
   have hsp:spot=none:=hsp;subst hsp;have hblk:b<w.heap.size:=hblk;have hc:w.heap[b]?=some (.cells c e' fz):=hc
   have habs:absV w.heap.size (.slice (some ⟨b,off,none⟩) len m)=some (.slice (some ⟨b,off,none⟩) len CU):=by
    unfold absV;rw[if_neg (by simp[simple])]
    simp only;rw[if_pos ⟨hl,hm⟩,if_neg (by omega),if_pos (by omega)]
   obtain⟨xs,x1,x2⟩:=ybvl (p:=fun i x=>p x/\(f x).all one1=true/\∃L:List Value,L.length=z/\RVL (memW w).b.get om0 (f x) L/\∀j,j<z->∃cv,w.cell? ⟨b,off+i*z+j,none⟩=some cv/\absV w.heap.size cv=L[j]?) len fun i hil=>by
    obtain⟨cs',h2,h3⟩:=hi i (by omega)
    obtain⟨_,h4,h5⟩:=World.cells?_some h2;obtain⟨x,q1,⟨L,q2,q3⟩,q4,_⟩:=hE n cs' _ h3 h4
    have hLz:L.length=z:=by
     have:=congrArg List.length q2
     simpa[h4]using this.symm
    refine⟨x,q1,q4,L,hLz,q3,fun j hj=>?_⟩;have hj':j<cs'.length:=by omega
    refine⟨cs'[j],?_,?_⟩
    ·have:=h5 j hj;rw[zC hj']at this;rw[<-this];congr 1;unfold Addr.add;split<;>split<;>simp_all<;>omega
    ·have:=congrArg (fun l=>l[j]?) q2;simp only[zS,zC hj']at this;rw[zC (show j<L.length by omega)]at this ⊢
     simpa using this
   refine⟨xs,fun x hx=>?_,⟨_,habs,?_⟩,rfl⟩
   ·obtain⟨i,hi',rfl⟩:=List.getElem_of_mem hx;exact(x2 i _ (zC hi')).1
   ·rw[x1];rcases zW len with rfl|hlen
    ·exact .sl0 (.inr ⟨_,_,_,rfl⟩)
    ·have hat:∀k,k<len->∃L:List Value,L.length=z/\RVL (memW w).b.get om0 (f (xs.getD k d)) L/\(f (xs.getD k d)).all one1=true/\∀j,j<z->∃cv,w.cell? ⟨b,off+k*z+j,none⟩=some cv/\absV w.heap.size cv=L[j]?:=fun k hk=>by
      have hk':k<xs.length:=by omega
      obtain⟨_,q2,L,q3,q4,q5⟩:=x2 k _ (zC hk');rw[zG,zC hk'];exact⟨L,q3,q4,q2,q5⟩
     classical
     let L:Nat->List Value:=fun k=>if hk:k<len then zX (hat k hk)else[]
     have hL:∀k (hk:k<len),(L k).length=z/\RVL (memW w).b.get om0 (f (xs.getD k d)) (L k)/\(f (xs.getD k d)).all one1=true/\∀j,j<z->∃cv,w.cell? ⟨b,off+k*z+j,none⟩=some cv/\absV w.heap.size cv=(L k)[j]?:=fun k hk=>by
      have e:L k=zX (hat k hk):=by show(if hk:k<len then _ else _)=_;rw[dif_pos hk]
      rw[e];exact zAE (hat k hk)
     have hmem:(memW w).b.get b=some (.cells (ybas .leaf 0 (c.toList.map (absV w.heap.size))) c.size CU 0):=by
      rw[ykb];unfold absB;rw[hc];exact if_neg hnu
     have hget:∀j cv,w.cell? ⟨b,j,none⟩=some cv->j<c.size/\(ybas .leaf 0 (c.toList.map (absV w.heap.size))).get j=absV w.heap.size cv:=fun j cv hcv=>by
      obtain⟨_,_,c2,e2,fz2,h1,h2⟩:=ybiq hcv;have h1:w.heap[b]?=some (.cells c2 e2 fz2):=h1;rw[hc]at h1;cases h1
      have h2:c[j]?=some cv:=h2;have hj:j<c.size:=(Array.getElem?_eq_some_iff.1 h2).1;refine⟨hj,?_⟩;rw[ymh,if_pos ⟨zL _,by simpa using hj⟩,Nat.sub_zero,zS]
      have:c.toList[j]?=some cv:=by simpa using h2
      rw[this];simp
     refine .sl (L:=L) hmem (.inr rfl) ?_ (fun k hk=>(hL k hk).1) (fun k hk j hj=>?_) (fun k hk=>(hL k hk).2.1) (fun k hk=>(hL k hk).2.2.1)
     ·obtain⟨_,_,_,q⟩:=hL (len-1) (by omega)
      obtain⟨cv,h1,_⟩:=q (z-1) (by omega)
      have:=(hget _ _ h1).1
      have e:len*z=(len-1)*z+z:=by
       obtain⟨y,rfl⟩:∃y,len=y+1:=⟨len-1,by omega⟩
       rw[Nat.succ_mul];simp
      omega
     ·obtain⟨_,_,_,q⟩:=hL k hk;obtain⟨cv,h1,h2⟩:=q j hj;rw[(hget _ _ h1).2,h2]
theorem ybuw {t e:TypeId}{fuel:Nat}{v:Value}{x:DataW H×List MemPlace}(ht:P.underlying t=some (.slice e)) (he:P.underlying e=some (.int .i64)) (hC:P.cellsOf e=1)
 (h:DataW.trod enc P w base (fun _=>true) held fuel t [v]=some x):∃xs,(∀x∈xs,I64 x)/\yti w (yx xs) v/\isU8 v=false:=by
 refine yblv (f:=fun x=>[.i .i64 x]) (p:=I64) 0 ht hC (by decide) (fun n cs' y h1 h2=>?_) h
 obtain⟨k,rfl,_,hw⟩:=DataW.trod_int he h1;exact⟨k,wf_i64 hw,(ybje w .i64 k).cons (yblb.nil w),rfl,rfl⟩
end
section
variable {H:Type}{enc:TypeId×Value->H}{w:World}{base:Nat}{held:Bool}{n:Nat}{v:Value}{x:DataW H×List MemPlace}
theorem ybzw(h:DataW.trod enc zF w base (fun _=>true) held n 22 [v]=some x):∃xs,(∀x∈xs,I64 x)/\yti w (yx xs) v/\isU8 v=false :=
 ybuw Tryz.underlying22 Tryz.underlying3 (by kernel_rfl) h
theorem ymq(h:DataW.trod enc zF w base (fun _=>true) held n 22 [v]=some x):∃xs,(∀x∈xs,I64 x)/\yti w (yx xs) v:=by
 obtain⟨xs,h1,h2,_⟩:=ybzw h;exact⟨xs,h1,h2⟩
end
theorem yblx {P:Program}{g:FuncId}{args:List SV}{x:Bool}{us':List Value}{w:World}(h:Returns P g args (.b x)) (hg:∃fn c,P.funcs[g]?=some fn/\fn.body=some c) (hn:yog P) (hG:GlW w)
 {us:List Value}(ha:RVL (memW w).b.get om0 args us) (hv:VRL (phiW w) us us'):Calls P g us'.toArray w fun e w'=>e = .returned (.bool x)/\Below w.heap.size w w' :=
 ycce h hg hn hG ha hv (fun F u hu=>by cases hu;rfl) (fun φ v' hv'=>hv'.eq_simple rfl)
end Sh
end
section
namespace Sh
open Go Ev
def yut:List Nat:=[0,1,1,2,1,2,2,3,1,2,2,3,2,3,3,4,1,2,2,3,2,3,3,4,2,3,3,4,3,4,4,5,1,2,2,3,2,3,3,4,2,3,3,4,3,4,4,5,2,3,3,4,3,4,4,5,3,4,4,5,4,5,5,6,1,2,2,3,2,3,3,4,2,3,3,4,3,4,4,5,2,3,3,4,3,4,4,5,3,4,4,5,4,5,5,6,2,3,3,4,3,4,4,5,3,4,4,5,4,5,5,6,3,4,4,5,4,5,5,6,4,5,5,6,5,6,6,7,1,2,2,3,2,3,3,4,2,3,3,4,3,4,4,5,2,3,3,4,3,4,4,5,3,4,4,5,4,5,5,6,2,3,3,4,3,4,4,5,3,4,4,5,4,5,5,6,3,4,4,5,4,5,5,6,4,5,5,6,5,6,6,7,2,3,3,4,3,4,4,5,3,4,4,5,4,5,5,6,3,4,4,5,4,5,5,6,4,5,5,6,5,6,6,7,3,4,4,5,4,5,5,6,4,5,5,6,5,6,6,7,4,5,5,6,5,6,6,7,5,6,6,7,6,7,7,8]
def ycgt:LO:=[o3 (.box 87 (.tmp 0)) 3 0,o3 (.box 27 (.tmp 1)) 4 0,o3 (.mv (ci' 0)) 6 0,o3 (.mv (ci' 0)) 7 4]
def yckv:LO:=[o3 (.build [.i .i64 0,.a (.nilFunc)] [(0,1,(ci' 1)),(1,1,(.func 198))]) 11 0,o3 (.build [.i .i64 0,.a (.nilFunc)] [(0,1,(ci' 2)),(1,1,(.func 199))]) 12 0,o3 (.build [.i .i64 0,.a (.nilFunc)] [(0,1,(ci' 3)),(1,1,(.func 200))]) 13 0,o3 (.bslice 209 2 3 [.i .i64 0,.a (.nilFunc),.i .i64 0,.a (.nilFunc),.i .i64 0,.a (.nilFunc)] [(0,2,(.tmp 11)),(2,2,(.tmp 12)),(4,2,(.tmp 13))]) 14 7,mv' 14 8 15]
def ycli:LO:=[mv' 8 15 0,ln' 15 16 1,o3 (.mv (ci' 0)) 17 0]
def ybhw:LO:=[bn' .lss 17 16 18 0]
def ybiz:LO:=[ix' 2 15 17 19 0,ld' true 2 19 20 1,o3 (.alloc 209 1 [.i .i64 0,.a (.nilFunc)]) 10 0,o0 (.store 2 (.tmp 10) (.tmp 20)) 7]
def ybhd:LO:=[fa' 0 1 10 21 0,ld' false 1 21 22 1,fa' 1 1 3 23 0,ld' false 1 23 24 4,bn' .eql 22 24 25 15]
def ybji:LO:=[fa' 1 1 10 26 0,ld' false 1 26 27 1,ld' true 6 3 28 0,ld' true 2 4 29 0,mv' 2 30 0,o3 (.call (.tmp 27) [(.tmp 28),(.tmp 29),(.tmp 30)]) 31 31,xt' 31 0 32 63,xt' 31 1 33 63,mv' 32 6 255,mv' 33 7 511]
def ybib:LO:=[o3 (.bin .add (.tmp 17) (ci' 1)) 34 0,mv' 34 17 1]
def ybjc:LO:=[o3 (.mv (ci' 0)) 6 0,o3 (.mv (.const (.int .i64 (-1)))) 7 1]
def c171:SC:=(.seq (.reg false ycgt) (.seq (.reg false yckv) (.seq (.seq (.reg false ycli) (.block 0 (.loop (.seq (.reg false ybhw) (.seq (.cond (.tmp 18) .skip (.exit 0)) (.seq (.block 1 (.seq (.reg false ybiz) (.seq (.reg false ybhd) (.cond (.tmp 25) (.seq (.reg false ybji) .ret) .skip)))) (.reg false ybib))))))) (.seq (.reg false ybjc) .ret))))
theorem yddr:Fn 171 c171 [.t 6,.t 7]:=fn_0 Tryz.func171 (by kernel_rfl) (by kernel_rfl)
def ycnz:LO:=[o3 (.box 87 (.tmp 0)) 3 0,o3 (.box 27 (.tmp 1)) 4 0,o3 (.mv (ci' 0)) 6 0,o3 (.mv (ci' 0)) 7 4]
def ycqk:LO:=[fa' 2 1 3 8 0,ld' false 1 8 9 1,fa' 3 1 3 10 0,ld' false 1 10 11 4,fa' 4 1 3 12 0,ld' false 1 12 13 16,fa' 0 1 4 14 0,ld' false 1 14 15 64,ln' 15 16 192,bn' .mul 13 16 17 496,bn' .add 11 17 18 1020,fa' 5 1 3 19 0,ld' false 1 19 20 2048,fa' 0 1 4 21 0,ld' false 1 21 22 8192,cl' 160 [22] 23 24576,bn' .mul 20 23 24 63488,bn' .add 18 24 25 131068,mv' 9 6 57347,mv' 25 7 524287]
def c198:SC:=(.seq (.reg false ycnz) (.seq (.reg true ycqk) .ret))
theorem ycyr:Fn 198 c198 [.t 6,.t 7]:=fn_0 Tryz.func198 (by kernel_rfl) (by kernel_rfl)
def ycow:LO:=[o3 (.box 87 (.tmp 0)) 3 0,o3 (.box 27 (.tmp 1)) 4 0,o3 (.mv (ci' 0)) 6 0,o3 (.mv (ci' 0)) 7 4]
def ycqp:LO:=[o3 (.mv (ci' 0)) 6 0,o3 (.mv (ci' 1)) 7 1]
def c199:SC:=(.seq (.reg false ycow) (.seq (.reg false ycqp) .ret))
theorem ycxz:Fn 199 c199 [.t 6,.t 7]:=fn_0 Tryz.func199 (by kernel_rfl) (by kernel_rfl)
def ycpo:LO:=[o3 (.box 87 (.tmp 0)) 3 0,o3 (.box 27 (.tmp 1)) 4 0,o3 (.mv (ci' 0)) 6 0,o3 (.mv (ci' 0)) 7 4]
def ycib:LO:=[fa' 1 1 4 8 0,ld' false 1 8 9 1,mv' 2 10 0,ix' 1 9 10 11 7,ld' false 1 11 12 15,ln' 12 13 31,o3 (.bin .sub (.tmp 13) (ci' 1)) 14 63,o3 (.mv (.const (.int .i64 (-1)))) 6 0,mv' 14 7 255]
def c200:SC:=(.seq (.reg false ycpo) (.seq (.reg true ycib) .ret))
theorem ydaa:Fn 200 c200 [.t 6,.t 7]:=fn_0 Tryz.func200 (by kernel_rfl) (by kernel_rfl)
def ychn:LO:=[o3 (.box 58 (.tmp 0)) 2 0,o3 (.box 27 (.tmp 1)) 3 0,o3 (.mv (.const (.slice none 0 0))) 4 0]
def ycva:LO:=[fa' 0 1 3 9 0,ld' false 1 9 10 1,ln' 10 11 3,o3 (.mk 73 1 24 [.a (.slice none 0 0)] (.tmp 11) (.tmp 11)) 12 7,mv' 12 5 15]
def ycmx:LO:=[mv' 5 13 0,ln' 13 14 1,o3 (.mv (ci' 0)) 15 0]
def ycsk:LO:=[bn' .lss 15 14 16 0]
def ycra:LO:=[mv' 15 17 0,mv' 17 6 1]
def ycnv:LO:=[mv' 5 18 0,mv' 6 19 0,fa' 1 1 2 20 0,ld' false 1 20 21 4,ln' 21 22 12,o3 (.mk 75 2 16 [.i .i64 0,.i .i64 0] (.tmp 22) (.tmp 22)) 23 28,ix' 1 18 19 24 63,o0 (.store 1 (.tmp 24) (.tmp 23)) 127]
def yctk:LO:=[fa' 1 1 2 25 0,ld' false 1 25 26 1,ln' 26 27 3,o3 (.mv (ci' 0)) 28 0]
def ycwk:LO:=[bn' .lss 28 27 29 0]
def ycnx:LO:=[mv' 28 30 0,ix' 6 26 28 31 0,ld' true 6 31 32 2,o3 (.alloc 87 1 [.a (.string (ByteArray.mk #[])),.i .i64 0,.i .i64 0,.i .i64 0,.i .i64 0,.i .i64 0]) 8 0,mv' 30 7 15,o0 (.store 6 (.tmp 8) (.tmp 32)) 31]
def yckx:LO:=[mv' 5 34 0,mv' 6 35 0,ix' 1 34 35 36 3,ld' false 1 36 37 7,mv' 7 38 0,mv' 5 39 0,mv' 6 40 0,ix' 1 39 40 41 96,ld' false 1 41 42 224,mv' 7 43 0,ld' true 6 8 44 0,ld' true 2 3 45 0,mv' 6 46 0,cl' 171 [44,45,46] 47 7168,mv' 47 33 15360,xt' 33 0 48 31744,xt' 33 1 49 31744,ix' 2 37 38 50 31,o3 (.idxA 2 1 (.tmp 50) (ci' 0)) 51 196095,o0 (.store 1 (.tmp 51) (.tmp 48)) 458239,ix' 2 42 43 52 992,o3 (.idxA 2 1 (.tmp 52) (ci' 1)) 53 2097151,o0 (.store 1 (.tmp 53) (.tmp 49)) 4194303]
def ybzh:LO:=[o3 (.bin .add (.tmp 28) (ci' 1)) 54 0,mv' 54 28 1]
def ybsk:LO:=[o3 (.bin .add (.tmp 15) (ci' 1)) 55 0,mv' 55 15 1]
def ybxy:LO:=[mv' 5 56 0,mv' 56 4 1]
def c144:SC:=(.seq (.reg false ychn) (.seq (.reg false ycva) (.seq (.seq (.reg false ycmx) (.block 0 (.loop (.seq (.reg false ycsk) (.seq (.cond (.tmp 16) .skip (.exit 0)) (.seq (.block 1 (.seq (.reg false ycra) (.seq (.reg false ycnv) (.seq (.reg false yctk) (.block 2 (.loop (.seq (.reg false ycwk) (.seq (.cond (.tmp 29) .skip (.exit 2)) (.seq (.block 3 (.seq (.reg false ycnx) (.reg true yckx))) (.reg false ybzh)))))))))) (.reg false ybsk))))))) (.seq (.reg false ybxy) .ret))))
theorem yczd:Fn 144 c144 [.t 4]:=fn_0 Tryz.func144 (by kernel_rfl) (by kernel_rfl)
def ychi:LO:=[o3 (.box 75 (.tmp 1)) 4 0,o3 (.mv (ci' 0)) 6 0]
def ycqm:LO:=[mv' 2 8 0,o3 (.idxA 2 1 (.tmp 4) (ci' 0)) 9 0,ld' false 1 9 10 2,bn' .geq 8 10 11 7,mv' 11 12 15,⟨.mv (.tmp 2),some 13,some (12,true),31⟩,⟨.idxA 2 1 (.tmp 4) (ci' 1),some 14,some (12,true),31⟩,⟨.load false 1 (.tmp 14),some 15,some (12,true),95⟩,⟨.bin .leq (.tmp 13) (.tmp 15),some 16,some (12,true),255⟩,o3 (.pick (.tmp 12) (.tmp 16) (.const (.bool false))) 17 511,mv' 17 7 1023]
def yckc:LO:=[mv' 2 18 0,mv' 18 6 1]
def ycwt:LO:=[mv' 0 20 0,o3 (.bin .eql (.tmp 20) (ci' 3)) 21 1,mv' 21 19 3]
def ycur:LO:=[o3 (.mv (.const (.int .i64 (-1)))) 6 0]
def yckq:LO:=[mv' 2 23 0,o3 (.idxA 2 1 (.tmp 4) (ci' 0)) 24 0,ld' false 1 24 25 2,bn' .lss 23 25 26 7,mv' 26 22 15]
def ycqb:LO:=[o3 (.idxA 2 1 (.tmp 4) (ci' 0)) 27 0,ld' false 1 27 28 1,mv' 28 6 3]
def ycod:LO:=[o3 (.idxA 2 1 (.tmp 4) (ci' 1)) 29 0,ld' false 1 29 30 1,mv' 30 6 3]
def c194:SC:=(.seq (.reg false ychi) (.seq (.block 0 (.seq (.reg false ycqm) (.cond (.tmp 7) (.seq (.reg false yckc) .ret) (.seq (.reg false ycwt) (.cond (.tmp 19) (.seq (.reg false ycur) .ret) (.seq (.reg false yckq) (.cond (.tmp 22) (.seq (.reg false ycqb) .ret) .skip))))))) (.seq (.reg false ycod) .ret)))
theorem yddq:Fn 194 c194 [.t 6]:=fn_0 Tryz.func194 (by kernel_rfl) (by kernel_rfl)
def ycrj:LO:=[o3 (.box 58 (.tmp 0)) 2 0,o3 (.box 27 (.tmp 1)) 3 0,o3 (.mv (ci' 0)) 4 0]
def ycov:LO:=[ld' true 3 2 9 0,cl' 191 [9] 10 1,o3 (.un .not (.tmp 10)) 11 3]
def ycuq:LO:=[o3 (.mv (ci' 8)) 4 0]
def ycvi:LO:=[ld' true 2 3 12 0,cl' 96 [12] 13 1,o3 (.un .not (.tmp 13)) 14 3]
def ycll:LO:=[o3 (.mv (ci' 1)) 4 0]
def ycgu:LO:=[fa' 1 1 2 15 0,ld' false 1 15 16 1,ln' 16 17 3,o3 (.mv (ci' 0)) 18 0]
def yckf:LO:=[bn' .lss 18 17 19 0]
def ycse:LO:=[ix' 6 16 18 20 0,ld' true 6 20 21 1,o3 (.alloc 87 1 [.a (.string (ByteArray.mk #[])),.i .i64 0,.i .i64 0,.i .i64 0,.i .i64 0,.i .i64 0]) 6 0,o0 (.store 6 (.tmp 6) (.tmp 21)) 7]
def ycqd:LO:=[fa' 1 1 6 22 0,ld' false 1 22 23 1,o3 (.bin .neq (.tmp 23) (ci' 1)) 24 3]
def yctm:LO:=[ld' true 6 6 26 0,ld' true 2 3 27 0,o3 (.call (.func 171) [(.tmp 26),(.tmp 27),(ci' 0)]) 28 3,mv' 28 25 7,xt' 25 0 29 15,xt' 25 1 30 15,mv' 29 7 31,mv' 30 8 127]
def ybyc:LO:=[mv' 8 31 0,mv' 7 32 0,bn' .lss 31 32 33 3,mv' 33 34 7,⟨.mv (.tmp 8),some 35,some (34,false),15⟩,⟨.mv (.tmp 7),some 36,some (34,false),15⟩,⟨.bin .sub (.tmp 35) (.tmp 36),some 37,some (34,false),63⟩,⟨.bin .add (.tmp 37) (ci' 1),some 38,some (34,false),127⟩,⟨.bin .gtr (.tmp 38) (ci' 4096),some 39,some (34,false),255⟩,o3 (.pick (.tmp 34) (.const (.bool true)) (.tmp 39)) 40 511]
def ycah:LO:=[o3 (.mv (ci' 9)) 4 0]
def ybpa:LO:=[o3 (.bin .add (.tmp 18) (ci' 1)) 41 0,mv' 41 18 1]
def ybqi:LO:=[o3 (.mv (ci' 0)) 4 0]
def c155:SC:=(.seq (.reg false ycrj) (.seq (.seq (.reg false ycov) (.cond (.tmp 11) (.seq (.reg false ycuq) .ret) .skip)) (.seq (.seq (.reg false ycvi) (.cond (.tmp 14) (.seq (.reg false ycll) .ret) .skip)) (.seq (.seq (.reg false ycgu) (.block 0 (.loop (.seq (.reg false yckf) (.seq (.cond (.tmp 19) .skip (.exit 0)) (.seq (.block 1 (.seq (.reg false ycse) (.seq (.seq (.reg false ycqd) (.cond (.tmp 24) (.exit 1) .skip)) (.seq (.reg false yctm) (.seq (.reg false ybyc) (.cond (.tmp 40) (.seq (.reg false ycah) .ret) .skip)))))) (.reg false ybpa))))))) (.seq (.reg false ybqi) .ret)))))
theorem ydcx:Fn 155 c155 [.t 4]:=fn_0 Tryz.func155 (by kernel_rfl) (by kernel_rfl)
def yctv:LO:=[o3 (.box 58 (.tmp 0)) 3 0,o3 (.box 27 (.tmp 1)) 4 0,o3 (.mv (ci' 0)) 6 0]
def ycho:LO:=[ld' true 3 3 8 0,ld' true 2 4 9 0,cl' 155 [8,9] 10 3,mv' 10 7 7]
def yctj:LO:=[mv' 7 11 0,o3 (.bin .neq (.tmp 11) (ci' 0)) 12 1]
def ycml:LO:=[mv' 7 13 0,mv' 13 6 1]
def ycwl:LO:=[ld' true 3 3 14 0,ld' true 2 4 15 0,cl' 144 [14,15] 16 3,mv' 2 17 0,cl' 156 [16,17] 18 15,o3 (.un .not (.tmp 18)) 19 31]
def yclw:LO:=[o3 (.mv (ci' 10)) 6 0]
def ycvj:LO:=[o3 (.mv (ci' 0)) 6 0]
def c112:SC:=(.seq (.reg false yctv) (.seq (.seq (.reg false ycho) (.seq (.reg false yctj) (.cond (.tmp 12) (.seq (.reg false ycml) .ret) .skip))) (.seq (.seq (.reg false ycwl) (.cond (.tmp 19) (.seq (.reg false yclw) .ret) .skip)) (.seq (.reg false ycvj) .ret))))
theorem ydea:Fn 112 c112 [.t 6]:=fn_0 Tryz.func112 (by kernel_rfl) (by kernel_rfl)
def ycpn:LO:=[o3 (.mv (.const (.bool false))) 4 0]
def ycsl:LO:=[mv' 1 7 0,ln' 7 8 1,mv' 0 9 0,ln' 9 10 4,bn' .neq 8 10 11 15]
def ycvt:LO:=[o3 (.mv (.const (.bool false))) 4 0]
def ycsc:LO:=[mv' 0 12 0,ln' 12 13 1,o3 (.mv (ci' 0)) 14 0]
def ycjq:LO:=[bn' .lss 14 13 15 0]
def ycxj:LO:=[mv' 14 16 0,ix' 1 12 14 17 0,ld' false 1 17 18 2,mv' 16 5 7,mv' 18 6 15]
def yclo:LO:=[mv' 6 19 0,mv' 1 20 0,mv' 5 21 0,ix' 1 20 21 22 6,ld' false 1 22 23 14,cl' 192 [19,23] 24 31,o3 (.un .not (.tmp 24)) 25 63]
def ycsf:LO:=[o3 (.mv (.const (.bool false))) 4 0]
def ycst:LO:=[o3 (.bin .add (.tmp 14) (ci' 1)) 26 0,mv' 26 14 1]
def ycnd:LO:=[o3 (.mv (.const (.bool true))) 4 0]
def c156:SC:=(.seq (.reg false ycpn) (.seq (.seq (.reg false ycsl) (.cond (.tmp 11) (.seq (.reg false ycvt) .ret) .skip)) (.seq (.seq (.reg false ycsc) (.block 0 (.loop (.seq (.reg false ycjq) (.seq (.cond (.tmp 15) .skip (.exit 0)) (.seq (.block 1 (.seq (.reg false ycxj) (.seq (.reg false yclo) (.cond (.tmp 25) (.seq (.reg false ycsf) .ret) .skip)))) (.reg false ycst))))))) (.seq (.reg false ycnd) .ret))))
theorem yddk:Fn 156 c156 [.t 4]:=fn_0 Tryz.func156 (by kernel_rfl) (by kernel_rfl)
def ycsv:LO:=[o3 (.mv (.const (.bool false))) 4 0]
def ycky:LO:=[mv' 1 7 0,ln' 7 8 1,mv' 0 9 0,ln' 9 10 4,bn' .neq 8 10 11 15]
def yckz:LO:=[o3 (.mv (.const (.bool false))) 4 0]
def yckl:LO:=[mv' 1 12 0,ln' 12 13 1,o3 (.mv (ci' 0)) 14 0]
def ycuw:LO:=[bn' .lss 14 13 15 0]
def ycmb:LO:=[mv' 14 16 0,ix' 1 12 14 17 0,ld' false 1 17 18 2,mv' 16 5 7,mv' 18 6 15]
def ycuj:LO:=[mv' 6 19 0,mv' 0 20 0,mv' 5 21 0,ix' 2 20 21 22 6,o3 (.idxA 2 1 (.tmp 22) (ci' 0)) 23 14,ld' false 1 23 24 30,bn' .lss 19 24 25 63,mv' 25 26 127,⟨.mv (.tmp 6),some 27,some (26,false),255⟩,⟨.mv (.tmp 0),some 28,some (26,false),255⟩,⟨.mv (.tmp 5),some 29,some (26,false),255⟩,⟨.idx 2 (.tmp 28) (.tmp 29),some 30,some (26,false),1791⟩,⟨.idxA 2 1 (.tmp 30) (ci' 1),some 31,some (26,false),3839⟩,⟨.load false 1 (.tmp 31),some 32,some (26,false),7935⟩,⟨.bin .gtr (.tmp 27) (.tmp 32),some 33,some (26,false),16383⟩,o3 (.pick (.tmp 26) (.const (.bool true)) (.tmp 33)) 34 32767]
def ycoh:LO:=[o3 (.mv (.const (.bool false))) 4 0]
def ycpd:LO:=[o3 (.bin .add (.tmp 14) (ci' 1)) 35 0,mv' 35 14 1]
def ycue:LO:=[o3 (.mv (.const (.bool true))) 4 0]
def c192:SC:=(.seq (.reg false ycsv) (.seq (.seq (.reg false ycky) (.cond (.tmp 11) (.seq (.reg false yckz) .ret) .skip)) (.seq (.seq (.reg false yckl) (.block 0 (.loop (.seq (.reg false ycuw) (.seq (.cond (.tmp 15) .skip (.exit 0)) (.seq (.block 1 (.seq (.reg false ycmb) (.seq (.reg false ycuj) (.cond (.tmp 34) (.seq (.reg false ycoh) .ret) .skip)))) (.reg false ycpd))))))) (.seq (.reg false ycue) .ret))))
theorem ydaz:Fn 192 c192 [.t 4]:=fn_0 Tryz.func192 (by kernel_rfl) (by kernel_rfl)
def ybpm:LO:=[o3 (.mv (.const (.slice none 0 0))) 2 0]
def ybsf:LO:=[mv' 0 6 0,ln' 6 7 1,o3 (.mk 22 1 24 [.a (.slice none 0 0)] (.tmp 7) (.tmp 7)) 8 3,mv' 8 3 7]
def ybrk:LO:=[mv' 0 9 0,ln' 9 10 1,o3 (.mv (ci' 0)) 11 0]
def ybcu:LO:=[bn' .lss 11 10 12 0]
def ybac:LO:=[mv' 11 13 0,ix' 1 9 11 14 0,ld' false 1 14 15 2,mv' 13 4 7,mv' 15 5 15]
def ybax:LO:=[mv' 3 16 0,mv' 4 17 0,mv' 5 18 0,o3 (.app 3 1 8 (.const (.slice none 0 0)) (.tmp 18)) 19 4,ix' 1 16 17 20 15,o0 (.store 1 (.tmp 20) (.tmp 19)) 31]
def ybbk:LO:=[o3 (.bin .add (.tmp 11) (ci' 1)) 21 0,mv' 21 11 1]
def ybaz:LO:=[mv' 3 22 0,mv' 22 2 1]
def c132:SC:=(.seq (.reg false ybpm) (.seq (.reg false ybsf) (.seq (.seq (.reg false ybrk) (.block 0 (.loop (.seq (.reg false ybcu) (.seq (.cond (.tmp 12) .skip (.exit 0)) (.seq (.block 1 (.seq (.reg false ybac) (.reg false ybax))) (.reg false ybbk))))))) (.seq (.reg false ybaz) .ret))))
theorem ydem:Fn 132 c132 [.t 2]:=fn_0 zAD (by kernel_rfl) (by kernel_rfl)
theorem ycfd:FnM 132 c132 [.t 2]:=fn_m zAD (by kernel_rfl) (by kernel_rfl)
def ydik:LO:=[o3 (.box 58 (.tmp 0)) 2 0,o3 (.box 27 (.tmp 1)) 3 0,o3 (.mv (.const (.pointer none))) 4 0]
def ydkj:LO:=[ld' true 3 2 5 0,ld' true 3 2 6 0,ld' true 2 3 7 0,cl' 143 [6,7] 8 6,ld' true 3 2 9 0,ld' true 2 3 10 0,cl' 144 [9,10] 11 62,o3 (.build [.a (.string (ByteArray.mk #[])),.a (.slice none 0 0),.a (.slice none 0 0),.a (.pointer none),.a (.slice none 0 0)] [(0,3,(.tmp 5)),(3,1,(.tmp 8)),(4,1,(.tmp 11))]) 12 127,o3 (.box 140 (.tmp 12)) 13 255,mv' 13 4 511]
def c93:SC:=(.seq (.reg false ydik) (.seq (.reg true ydkj) .ret))
theorem ydmd:Fn 93 c93 [.t 4]:=fn_0 Tryz.func93 (by kernel_rfl) (by kernel_rfl)
def ycnq:LO:=[o3 (.mv (ci' 0)) 6 0]
def ycwa:LO:=[mv' 0 8 0,o3 (.nilck (.tmp 8)) 9 1,fa' 0 3 9 10 3,fa' 2 1 10 11 7,ld' false 1 11 12 15,ln' 12 13 31,o3 (.mv (ci' 0)) 14 0]
def ycui:LO:=[bn' .lss 14 13 15 0]
def ycss:LO:=[mv' 14 16 0,mv' 16 7 1]
def ycrn:LO:=[mv' 0 17 0,o3 (.nilck (.tmp 17)) 18 1,fa' 3 1 18 19 3,ld' false 1 19 20 7,mv' 1 21 0,mv' 2 22 0,mv' 7 23 0,cl' 172 [20,21,22,23] 24 127]
def ycqs:LO:=[mv' 7 25 0,mv' 25 6 1]
def ycon:LO:=[o3 (.bin .add (.tmp 14) (ci' 1)) 26 0,mv' 26 14 1]
def yclf:LO:=[o3 (.mv (.const (.int .i64 (-1)))) 6 0]
def c147:SC:=(.seq (.reg false ycnq) (.seq (.seq (.reg false ycwa) (.block 0 (.loop (.seq (.reg false ycui) (.seq (.cond (.tmp 15) .skip (.exit 0)) (.seq (.block 1 (.seq (.reg false ycss) (.seq (.reg false ycrn) (.cond (.tmp 24) (.seq (.reg false ycqs) .ret) .skip)))) (.reg false ycon))))))) (.seq (.reg false yclf) .ret)))
theorem yczo:Fn 147 c147 [.t 6]:=fn_0 Tryz.func147 (by kernel_rfl) (by kernel_rfl)
def ydjx:LO:=[o3 (.box 99 (.tmp 0)) 2 0,o3 (.box 34 (.tmp 1)) 3 0,o3 (.mv (.const (.int .u32 0))) 4 0]
def ydke:LO:=[ld' false 1 2 5 0,o3 (.nilck (.tmp 5)) 6 1,fa' 4 1 6 7 3,ld' false 1 7 8 7,ln' 8 9 15,o3 (.mkfn 146 [] [(.tmp 2),(.tmp 3)]) 10 0,cl' 145 [9,10] 11 63,mv' 11 4 127]
def c94:SC:=(.seq (.reg false ydjx) (.seq (.reg false ydke) .ret))
theorem ydnj:Fn 94 c94 [.t 4]:=fn_0 Tryz.func94 (by kernel_rfl) (by kernel_rfl)
def ycok:LO:=[o3 (.mv (.const (.bool false))) 4 0]
def ycsi:LO:=[ld' false 1 1 5 0,ld' false 1 2 6 0,mv' 0 7 0,cl' 147 [5,6,7] 8 7,o3 (.bin .geq (.tmp 8) (ci' 0)) 9 15,mv' 9 4 31]
def c146:SC:=(.seq (.reg false ycok) (.seq (.reg false ycsi) .ret))
theorem ycxk:Fn 146 c146 [.t 4]:=fn_0 Tryz.func146 (by kernel_rfl) (by kernel_rfl)
def ycrc:LO:=[o3 (.mv (.const (.slice none 0 0))) 8 0]
def ycjp:LO:=[mv' 1 13 0,mv' 2 14 0,ix' 1 13 14 15 3,ld' false 1 15 16 7,o3 (.app 3 1 8 (.const (.slice none 0 0)) (.tmp 16)) 17 15,mv' 17 9 31]
def yclh:LO:=[mv' 0 18 0,o3 (.nilck (.tmp 18)) 19 1,fa' 0 3 19 20 3,fa' 2 1 20 21 7,ld' false 1 21 22 15,mv' 3 23 0,ix' 3 22 23 24 63,fa' 2 1 24 25 127,ld' false 1 25 26 255,ln' 26 27 511,o3 (.mv (ci' 0)) 28 0]
def ycsw:LO:=[bn' .lss 28 27 29 0]
def ycvo:LO:=[ix' 2 26 28 30 0,ld' true 2 30 31 1,o3 (.alloc 200 1 [.i .i64 0,.a (.slice none 0 0)]) 11 0,o0 (.store 2 (.tmp 11) (.tmp 31)) 7]
def ycir:LO:=[mv' 0 32 0,o3 (.nilck (.tmp 32)) 33 1,fa' 3 1 33 34 3,ld' false 1 34 35 7,mv' 1 36 0,mv' 2 37 0,fa' 1 1 11 38 0,ld' false 1 38 39 64,cl' 193 [35,36,37,39] 40 255,mv' 40 12 511]
def ycve:LO:=[mv' 9 41 0,fa' 0 1 11 42 0,ld' false 1 42 43 2,mv' 0 44 0,o3 (.nilck (.tmp 44)) 45 8,fa' 0 3 45 46 24,fa' 1 1 46 47 56,ld' false 1 47 48 120,fa' 0 1 11 49 0,ld' false 1 49 50 256,ix' 6 48 50 51 1016,fa' 1 1 51 52 2040,ld' false 1 52 53 4088,mv' 0 54 0,o3 (.nilck (.tmp 54)) 55 8192,fa' 4 1 55 56 24576,ld' false 1 56 57 57344,mv' 2 58 0,ix' 1 57 58 59 253952,ld' false 1 59 60 516096,fa' 0 1 11 61 0,ld' false 1 61 62 1048576,ix' 2 60 62 63 4186112,ld' true 2 63 64 8380416,mv' 12 65 0,cl' 194 [53,64,65] 66 33554424,ix' 1 41 43 67 67108863,o0 (.store 1 (.tmp 67) (.tmp 66)) 134217727]
def yctu:LO:=[o3 (.bin .add (.tmp 28) (ci' 1)) 68 0,mv' 68 28 1]
def ycty:LO:=[mv' 9 69 0,mv' 69 8 1]
def c157:SC:=(.seq (.reg false ycrc) (.seq (.reg false ycjp) (.seq (.seq (.reg false yclh) (.block 0 (.loop (.seq (.reg false ycsw) (.seq (.cond (.tmp 29) .skip (.exit 0)) (.seq (.block 1 (.seq (.reg false ycvo) (.seq (.reg true ycir) (.reg true ycve)))) (.reg false yctu))))))) (.seq (.reg false ycty) .ret))))
theorem ycxo:Fn 157 c157 [.t 8]:=fn_0 Tryz.func157 (by kernel_rfl) (by kernel_rfl)
def ycwf:LO:=[o3 (.mv (.const (.slice none 0 0))) 6 0]
def ycuy:LO:=[mv' 1 9 0,cl' 132 [9] 10 1,mv' 10 7 3]
def yclc:LO:=[mv' 1 11 0,ln' 11 12 1,o3 (.mv (ci' 0)) 13 0]
def ycsp:LO:=[bn' .lss 13 12 14 0]
def ycrl:LO:=[mv' 13 15 0,mv' 15 8 1]
def ycno:LO:=[mv' 2 16 0,mv' 8 17 0,bn' .shr 16 17 18 3,o3 (.bin .and (.tmp 18) (.const (.int .u32 1))) 19 7,o3 (.bin .eql (.tmp 19) (.const (.int .u32 1))) 20 15]
def ycof:LO:=[mv' 7 21 0,mv' 8 22 0,mv' 0 23 0,mv' 1 24 0,mv' 8 25 0,mv' 0 26 0,mv' 1 27 0,mv' 8 28 0,cl' 147 [26,27,28] 29 224,cl' 157 [23,24,25,29] 30 508,ix' 1 21 22 31 1023,o0 (.store 1 (.tmp 31) (.tmp 30)) 2047]
def ychk:LO:=[o3 (.bin .add (.tmp 13) (ci' 1)) 32 0,mv' 32 13 1]
def ycwv:LO:=[mv' 7 33 0,mv' 33 6 1]
def c113:SC:=(.seq (.reg false ycwf) (.seq (.reg false ycuy) (.seq (.seq (.reg false yclc) (.block 0 (.loop (.seq (.reg false ycsp) (.seq (.cond (.tmp 14) .skip (.exit 0)) (.seq (.block 1 (.seq (.reg false ycrl) (.seq (.reg false ycno) (.cond (.tmp 20) (.reg false ycof) .skip)))) (.reg false ychk))))))) (.seq (.reg false ycwv) .ret))))
theorem ycdk:FnU 113 c113 [.t 6]:=fn_u Tryz.func113 (by kernel_rfl) (by kernel_rfl)
def ycoj:LO:=[o3 (.mv (.const (.int .u32 0))) 4 0]
def yclm:LO:=[o3 (.mv (.const (.int .u32 0))) 5 0]
def ycuk:LO:=[mv' 0 7 0,o3 (.mv (ci' 0)) 8 0]
def ycxg:LO:=[bn' .lss 8 7 9 0]
def ycwb:LO:=[mv' 8 10 0,mv' 10 6 1]
def ycph:LO:=[mv' 1 11 0,mv' 6 12 0,o3 (.call (.tmp 11) [(.tmp 12)]) 13 3]
def ycit:LO:=[mv' 5 14 0,mv' 6 15 0,o3 (.bin .shl (.const (.int .u32 1)) (.tmp 15)) 16 2,bn' .or 14 16 17 7,mv' 17 5 15]
def ycjv:LO:=[o3 (.bin .add (.tmp 8) (ci' 1)) 18 0,mv' 18 8 1]
def ycjj:LO:=[mv' 5 19 0,mv' 19 4 1]
def c145:SC:=(.seq (.reg false ycoj) (.seq (.reg false yclm) (.seq (.seq (.reg false ycuk) (.block 0 (.loop (.seq (.reg false ycxg) (.seq (.cond (.tmp 9) .skip (.exit 0)) (.seq (.block 1 (.seq (.reg false ycwb) (.seq (.reg false ycph) (.cond (.tmp 13) (.reg false ycit) .skip)))) (.reg false ycjv))))))) (.seq (.reg false ycjj) .ret))))
theorem yczq:Fn 145 c145 [.t 4]:=fn_0 Tryz.func145 (by kernel_rfl) (by kernel_rfl)
def ycqc:LO:=[o3 (.mv (.const (.bool false))) 2 0]
def ycnk:LO:=[mv' 0 5 0,ln' 5 6 1,o3 (.mv (ci' 0)) 7 0]
def ycop:LO:=[bn' .lss 7 6 8 0]
def ycoa:LO:=[ix' 1 5 7 9 0,ld' false 1 9 10 1,mv' 10 4 3]
def ycpe:LO:=[mv' 4 11 0,o3 (.bin .andNot (.tmp 11) (.const (.int .u32 16777215))) 12 1,o3 (.bin .neq (.tmp 12) (.const (.int .u32 0))) 13 3]
def ychq:LO:=[o3 (.mv (.const (.bool false))) 2 0]
def ycxa:LO:=[o3 (.bin .add (.tmp 7) (ci' 1)) 14 0,mv' 14 7 1]
def ycwo:LO:=[o3 (.mv (.const (.bool true))) 2 0]
def c223:SC:=(.seq (.reg false ycqc) (.seq (.seq (.reg false ycnk) (.block 0 (.loop (.seq (.reg false ycop) (.seq (.cond (.tmp 8) .skip (.exit 0)) (.seq (.block 1 (.seq (.reg false ycoa) (.seq (.reg false ycpe) (.cond (.tmp 13) (.seq (.reg false ychq) .ret) .skip)))) (.reg false ycxa))))))) (.seq (.reg false ycwo) .ret)))
theorem ydcy:Fn 223 c223 [.t 2]:=fn_0 Tryz.func223 (by kernel_rfl) (by kernel_rfl)
def ychf:LO:=[o3 (.box 48 (.tmp 0)) 1 0,o3 (.mv (.const (.bool false))) 2 0]
def ycsz:LO:=[fa' 0 1 1 3 0,ld' false 1 3 4 1,o3 (.bin .lss (.tmp 4) (ci' 0)) 5 3,mv' 5 6 7,⟨.faddr 0 1 (.tmp 1),some 7,some (6,false),15⟩,⟨.load false 1 (.tmp 7),some 8,some (6,false),31⟩,⟨.bin .gtr (.tmp 8) (ci' 4096),some 9,some (6,false),63⟩,o3 (.pick (.tmp 6) (.const (.bool true)) (.tmp 9)) 10 127,mv' 10 11 255,⟨.faddr 2 1 (.tmp 1),some 12,some (11,false),511⟩,⟨.load false 1 (.tmp 12),some 13,some (11,false),1023⟩,⟨.bin .lss (.tmp 13) (ci' 0),some 14,some (11,false),2047⟩,o3 (.pick (.tmp 11) (.const (.bool true)) (.tmp 14)) 15 4095,mv' 15 16 8191,⟨.faddr 2 1 (.tmp 1),some 17,some (16,false),16383⟩,⟨.load false 1 (.tmp 17),some 18,some (16,false),32767⟩,⟨.faddr 3 1 (.tmp 1),some 19,some (16,false),16383⟩,⟨.load false 1 (.tmp 19),some 20,some (16,false),81919⟩,⟨.bin .gtr (.tmp 18) (.tmp 20),some 21,some (16,false),262143⟩,o3 (.pick (.tmp 16) (.const (.bool true)) (.tmp 21)) 22 524287,mv' 22 23 1048575,⟨.faddr 3 1 (.tmp 1),some 24,some (23,false),2097151⟩,⟨.load false 1 (.tmp 24),some 25,some (23,false),4194303⟩,⟨.faddr 0 1 (.tmp 1),some 26,some (23,false),2097151⟩,⟨.load false 1 (.tmp 26),some 27,some (23,false),10485759⟩,⟨.bin .gtr (.tmp 25) (.tmp 27),some 28,some (23,false),33554431⟩,o3 (.pick (.tmp 23) (.const (.bool true)) (.tmp 28)) 29 67108863]
def ydlq:LO:=[o3 (.mv (.const (.bool false))) 2 0]
def ycny:LO:=[fa' 3 1 1 30 0,ld' false 1 30 31 1,fa' 2 1 1 32 0,ld' false 1 32 33 4,o3 (.bin .add (.tmp 33) (ci' 1)) 34 12,bn' .gtr 31 34 35 31]
def ydmv:LO:=[o3 (.mv (.const (.bool false))) 2 0]
def yclg:LO:=[fa' 0 1 1 36 0,ld' false 1 36 37 1,fa' 1 1 1 38 0,ld' false 1 38 39 4,bn' .leq 37 39 40 15,mv' 40 41 31,⟨.faddr 1 1 (.tmp 1),some 42,some (41,true),63⟩,⟨.load false 1 (.tmp 42),some 43,some (41,true),127⟩,⟨.faddr 0 1 (.tmp 1),some 44,some (41,true),63⟩,⟨.load false 1 (.tmp 44),some 45,some (41,true),319⟩,⟨.bin .mul (ci' 24) (.tmp 45),some 46,some (41,true),831⟩,⟨.bin .leq (.tmp 43) (.tmp 46),some 47,some (41,true),2047⟩,o3 (.pick (.tmp 41) (.tmp 47) (.const (.bool false))) 48 4095,mv' 48 49 8191,⟨.faddr 4 1 (.tmp 1),some 50,some (49,true),16383⟩,⟨.load false 1 (.tmp 50),some 51,some (49,true),32767⟩,⟨.bslice 40 1 1 [.i .u32 0] [(0,1,(.tmp 51))],some 52,some (49,true),65535⟩,⟨.call (.func 223) [(.tmp 52)],some 53,some (49,true),131071⟩,o3 (.pick (.tmp 49) (.tmp 53) (.const (.bool false))) 54 262143,mv' 54 2 524287]
def c222:SC:=(.seq (.reg false ychf) (.seq (.seq (.reg false ycsz) (.cond (.tmp 29) (.seq (.reg false ydlq) .ret) .skip)) (.seq (.seq (.reg false ycny) (.cond (.tmp 35) (.seq (.reg false ydmv) .ret) .skip)) (.seq (.reg false yclg) .ret))))
theorem ydab:Fn 222 c222 [.t 2]:=fn_0 Tryz.func222 (by kernel_rfl) (by kernel_rfl)
def ycjh:LO:=[o3 (.alloc 48 1 [.i .i64 0,.i .i64 0,.i .i64 0,.i .i64 0,.i .u32 0]) 2 0]
def ychm:LO:=[mv' 0 3 0,o3 (.bin .and (.tmp 3) (.const (.int .u32 16777215))) 4 1,o3 (.build [.i .i64 0,.i .i64 0,.i .i64 0,.i .i64 0,.i .u32 0] [(4,1,(.tmp 4))]) 5 3,o0 (.store 5 (.tmp 2) (.tmp 5)) 7]
def c195:SC:=(.seq (.reg false ycjh) (.seq (.reg false ychm) .ret))
theorem ydbf:Fn 195 c195 [.c 2 true 5]:=fn_0 Tryz.func195 (by kernel_rfl) (by kernel_rfl)
def ycwh:LO:=[o3 (.box 48 (.tmp 0)) 3 0,o3 (.alloc 48 1 [.i .i64 0,.i .i64 0,.i .i64 0,.i .i64 0,.i .u32 0]) 6 0,o3 (.mv (ci' 0)) 7 0]
def ycwu:LO:=[ld' true 5 3 8 0,cl' 222 [8] 9 1,o3 (.un .not (.tmp 9)) 10 3]
def ydha:LO:=[o3 (.build [.i .i64 0,.i .i64 0,.i .i64 0,.i .i64 0,.i .u32 0] []) 11 0,o0 (.store 5 (.tmp 6) (.tmp 11)) 1,o3 (.mv (ci' 7)) 7 3]
def yckw:LO:=[mv' 1 12 0,o3 (.bin .eql (.tmp 12) (.const (.int .u32 0))) 13 1,mv' 13 14 3,⟨.mv (.tmp 1),some 15,some (14,false),7⟩,⟨.mv (.tmp 2),some 16,some (14,false),7⟩,⟨.bslice 40 1 2 [.i .u32 0,.i .u32 0] [(0,1,(.tmp 15)),(1,1,(.tmp 16))],some 17,some (14,false),31⟩,⟨.call (.func 223) [(.tmp 17)],some 18,some (14,false),63⟩,⟨.un .not (.tmp 18),some 19,some (14,false),127⟩,o3 (.pick (.tmp 14) (.const (.bool true)) (.tmp 19)) 20 255]
def ydfq:LO:=[o3 (.build [.i .i64 0,.i .i64 0,.i .i64 0,.i .i64 0,.i .u32 0] []) 21 0,o0 (.store 5 (.tmp 6) (.tmp 21)) 1,o3 (.mv (ci' 11)) 7 3]
def ycht:LO:=[fa' 0 1 3 22 0,ld' false 1 22 23 1,o3 (.bin .eql (.tmp 23) (ci' 4096)) 24 3]
def ydeu:LO:=[o3 (.build [.i .i64 0,.i .i64 0,.i .i64 0,.i .i64 0,.i .u32 0] []) 25 0,o0 (.store 5 (.tmp 6) (.tmp 25)) 1,o3 (.mv (ci' 3)) 7 3]
def ycik:LO:=[fa' 0 1 3 26 0,ld' false 1 26 27 1,o3 (.bin .add (.tmp 27) (ci' 1)) 28 3,fa' 0 1 3 29 7,o0 (.store 1 (.tmp 29) (.tmp 28)) 15]
def ycnt:LO:=[fa' 1 1 3 30 0,ld' false 1 30 31 1,mv' 1 32 0,cl' 104 [32] 33 4,bn' .add 31 33 34 15,fa' 1 1 3 35 31,o0 (.store 1 (.tmp 35) (.tmp 34)) 63]
def ycor:LO:=[fa' 2 1 3 36 0,ld' false 1 36 37 1,o3 (.bin .add (.tmp 37) (ci' 1)) 38 3,fa' 3 1 3 39 7,o0 (.store 1 (.tmp 39) (.tmp 38)) 15]
def ybwz:LO:=[fa' 4 1 3 40 0,ld' false 1 40 41 1,mv' 1 42 0,bn' .andNot 41 42 43 7,mv' 2 44 0,bn' .and 43 44 45 31,fa' 4 1 3 46 63,o0 (.store 1 (.tmp 46) (.tmp 45)) 127]
def ybws:LO:=[fa' 4 1 3 47 0,ld' false 1 47 48 1,o3 (.bin .eql (.tmp 48) (.const (.int .u32 0))) 49 3]
def ybxd:LO:=[fa' 3 1 3 50 0,ld' false 1 50 51 1,fa' 2 1 3 52 3,o0 (.store 1 (.tmp 52) (.tmp 51)) 7]
def ybry:LO:=[mv' 2 53 0,fa' 4 1 3 54 1,o0 (.store 1 (.tmp 54) (.tmp 53)) 3]
def ybdl:LO:=[ld' true 5 3 55 0,o0 (.store 5 (.tmp 6) (.tmp 55)) 1,o3 (.mv (ci' 0)) 7 3]
def c197:SC:=(.seq (.reg false ycwh) (.seq (.seq (.reg false ycwu) (.cond (.tmp 10) (.seq (.reg false ydha) .ret) .skip)) (.seq (.seq (.reg false yckw) (.cond (.tmp 20) (.seq (.reg false ydfq) .ret) .skip)) (.seq (.seq (.reg false ycht) (.cond (.tmp 24) (.seq (.reg false ydeu) .ret) .skip)) (.seq (.reg false ycik) (.seq (.reg true ycnt) (.seq (.reg false ycor) (.seq (.reg false ybwz) (.seq (.seq (.reg false ybws) (.cond (.tmp 49) (.seq (.reg false ybxd) (.reg false ybry)) .skip)) (.seq (.reg false ybdl) .ret))))))))))
theorem ydcj:Fn 197 c197 [.c 6 true 5,.t 7]:=fn_0 Tryz.func197 (by kernel_rfl) (by kernel_rfl)
def yckp:LO:=[o3 (.mv (ci' 0)) 2 0]
def ycmu:LO:=[mv' 0 3 0,o3 (.bin .shr (.tmp 3) (.const (.int .u64 24))) 4 1,o3 (.stri yut (.tmp 4)) 5 3,mv' 0 6 0,o3 (.bin .shr (.tmp 6) (.const (.int .u64 16))) 7 8,o3 (.bin .and (.tmp 7) (.const (.int .u32 255))) 8 24,o3 (.stri yut (.tmp 8)) 9 56,bn' .add 5 9 10 127,mv' 0 11 0,o3 (.bin .shr (.tmp 11) (.const (.int .u64 8))) 12 256,o3 (.bin .and (.tmp 12) (.const (.int .u32 255))) 13 768,o3 (.stri yut (.tmp 13)) 14 1792,bn' .add 10 14 15 4095,mv' 0 16 0,o3 (.bin .and (.tmp 16) (.const (.int .u32 255))) 17 8192,o3 (.stri yut (.tmp 17)) 18 24576,bn' .add 15 18 19 65535,o3 (.conv .i64 (.tmp 19)) 20 131071,mv' 20 2 262143]
def c104:SC:=(.seq (.reg false yckp) (.seq (.reg true ycmu) .ret))
theorem ydel:Fn 104 c104 [.t 2]:=fn_0 Tryz.func104 (by kernel_rfl) (by kernel_rfl)
def ycqj:LO:=[o3 (.box 27 (.tmp 0)) 1 0,o3 (.mv (.const (.slice none 0 0))) 2 0]
def ycjl:LO:=[fa' 1 1 1 8 0,ld' false 1 8 9 1,ln' 9 10 3,o3 (.mk 40 1 4 [.i .u32 0] (.tmp 10) (.tmp 10)) 11 7,mv' 11 3 15]
def ycrt:LO:=[fa' 1 1 1 12 0,ld' false 1 12 13 1,ln' 13 14 3,o3 (.mv (ci' 0)) 15 0]
def ycvn:LO:=[bn' .lss 15 14 16 0]
def ycri:LO:=[mv' 15 17 0,ix' 1 13 15 18 0,ld' false 1 18 19 2,mv' 17 4 7,mv' 19 5 15]
def ycga:LO:=[mv' 5 20 0,ln' 20 21 1,o3 (.mv (ci' 0)) 22 0]
def ycuu:LO:=[bn' .lss 22 21 23 0]
def ycjf:LO:=[ix' 2 20 22 24 0,ld' true 2 24 25 1,o3 (.alloc 95 1 [.i .i64 0,.i .i64 0]) 7 0,o0 (.store 2 (.tmp 7) (.tmp 25)) 7]
def ycsu:LO:=[mv' 3 26 0,mv' 4 27 0,ix' 1 26 27 28 3,ld' false 1 28 29 7,fa' 0 1 7 30 0,ld' false 1 30 31 16,o3 (.bin .shl (.const (.int .u32 1)) (.tmp 31)) 32 48,bn' .or 29 32 33 127,ix' 1 26 27 34 255,o0 (.store 1 (.tmp 34) (.tmp 33)) 511]
def ycww:LO:=[o3 (.bin .add (.tmp 22) (ci' 1)) 35 0,mv' 35 22 1]
def ybxt:LO:=[o3 (.bin .add (.tmp 15) (ci' 1)) 36 0,mv' 36 15 1]
def yboq:LO:=[mv' 3 37 0,mv' 37 2 1]
def c110:SC:=(.seq (.reg false ycqj) (.seq (.reg false ycjl) (.seq (.seq (.reg false ycrt) (.block 0 (.loop (.seq (.reg false ycvn) (.seq (.cond (.tmp 16) .skip (.exit 0)) (.seq (.block 1 (.seq (.reg false ycri) (.seq (.reg false ycga) (.block 2 (.loop (.seq (.reg false ycuu) (.seq (.cond (.tmp 23) .skip (.exit 2)) (.seq (.block 3 (.seq (.reg false ycjf) (.reg true ycsu))) (.reg false ycww))))))))) (.reg false ybxt))))))) (.seq (.reg false yboq) .ret))))
theorem ydah:Fn 110 c110 [.t 2]:=fn_0 Tryz.func110 (by kernel_rfl) (by kernel_rfl)
def ycvs:LO:=[o3 (.mv (.const (.bool false))) 8 0]
def ycnb:LO:=[mv' 3 9 0,o3 (.bin .eql (.tmp 9) (.const (.int .u32 0))) 10 1,mv' 10 11 3,⟨.mv (.tmp 3),some 12,some (11,false),7⟩,⟨.mv (.tmp 2),some 13,some (11,false),7⟩,⟨.bin .andNot (.tmp 12) (.tmp 13),some 14,some (11,false),31⟩,⟨.bin .neq (.tmp 14) (.const (.int .u32 0)),some 15,some (11,false),63⟩,o3 (.pick (.tmp 11) (.const (.bool true)) (.tmp 15)) 16 127]
def ydlj:LO:=[o3 (.mv (.const (.bool false))) 8 0]
def ycgi:LO:=[mv' 1 17 0]
def yckh:LO:=[o3 (.bin .eql (.tmp 17) (ci' 1)) 19 0,mv' 19 18 1]
def ydob:LO:=[mv' 3 20 0,mv' 3 21 0,o3 (.bin .sub (.tmp 21) (.const (.int .u32 1))) 22 2,bn' .and 20 22 23 7,o3 (.bin .eql (.tmp 23) (.const (.int .u32 0))) 24 15,mv' 24 8 31]
def ycnm:LO:=[o3 (.bin .eql (.tmp 17) (ci' 2)) 26 0,mv' 26 25 1]
def ydla:LO:=[mv' 0 27 0,mv' 3 28 0,cl' 221 [27,28] 29 3,mv' 29 8 7]
def ycmp:LO:=[o3 (.bin .eql (.tmp 17) (ci' 4)) 31 0,mv' 31 30 1]
def ychp:LO:=[mv' 3 32 0,mv' 2 33 0,bn' .eql 32 33 34 3,mv' 34 8 7]
def ybzt:LO:=[o3 (.mv (.const (.bool true))) 8 0]
def c196:SC:=(.seq (.reg false ycvs) (.seq (.seq (.reg false ycnb) (.cond (.tmp 16) (.seq (.reg false ydlj) .ret) .skip)) (.seq (.seq (.reg false ycgi) (.block 0 (.seq (.reg false yckh) (.cond (.tmp 18) (.seq (.reg false ydob) .ret) (.seq (.reg false ycnm) (.cond (.tmp 25) (.seq (.reg false ydla) .ret) (.seq (.reg false ycmp) (.cond (.tmp 30) (.seq (.reg false ychp) .ret) .skip)))))))) (.seq (.reg false ybzt) .ret))))
theorem ydap:Fn 196 c196 [.t 8]:=fn_0 Tryz.func196 (by kernel_rfl) (by kernel_rfl)
def ybxm:LO:=[o3 (.box 110 (.tmp 0)) 4 0,o3 (.mv (.const (.int .u32 0))) 8 0]
def ybwp:LO:=[mv' 3 11 0,mv' 2 12 0,bn' .and 11 12 13 3,mv' 13 3 7]
def ybxv:LO:=[mv' 3 14 0,o3 (.bin .eql (.tmp 14) (.const (.int .u32 0))) 15 1]
def ybsd:LO:=[mv' 2 16 0,mv' 2 17 0,o3 (.un .neg (.tmp 17)) 18 2,bn' .and 16 18 19 7,mv' 19 3 15]
def ybhx:LO:=[mv' 1 20 0]
def ybgr:LO:=[o3 (.bin .eql (.tmp 20) (ci' 1)) 22 0,mv' 22 21 1]
def ydng:LO:=[mv' 3 23 0,mv' 3 24 0,o3 (.un .neg (.tmp 24)) 25 2,bn' .and 23 25 26 7,mv' 26 8 15]
def ybhp:LO:=[o3 (.bin .eql (.tmp 20) (ci' 2)) 28 0,mv' 28 27 1]
def ydgr:LO:=[o3 (.alloc 40 1 [.i .u32 0]) 9 0,o0 (.store 1 (.tmp 9) (.const (.int .u32 0))) 1]
def ydep:LO:=[mv' 3 29 0,cl' 154 [29] 30 1]
def ycyd:LO:=[mv' 31 10 0]
def ydcd:LO:=[ld' false 1 4 32 0,mv' 10 33 0,ix' 1 32 33 34 3,ld' false 1 34 35 7,ld' false 1 9 36 0,bn' .and 35 36 37 31,o3 (.bin .eql (.tmp 37) (.const (.int .u32 0))) 38 63]
def ydan:LO:=[ld' false 1 9 39 0,mv' 10 40 0,o3 (.bin .shl (.const (.int .u32 1)) (.tmp 40)) 41 2,bn' .or 39 41 42 7,o0 (.store 1 (.tmp 9) (.tmp 42)) 15]
def ydek:LO:=[ld' false 1 9 43 0,mv' 43 8 1]
def yxh:LO:=[o3 (.bin .eql (.tmp 20) (ci' 4)) 45 0,mv' 45 44 1]
def yxd:LO:=[mv' 2 46 0,mv' 46 8 1]
def ydck:LO:=[mv' 3 47 0,mv' 47 8 1]
def c111:SC:=(.seq (.reg false ybxm) (.seq (.reg false ybwp) (.seq (.seq (.reg false ybxv) (.cond (.tmp 15) (.reg false ybsd) .skip)) (.seq (.seq (.reg false ybhx) (.block 0 (.seq (.reg false ybgr) (.cond (.tmp 21) (.seq (.reg false ydng) .ret) (.seq (.reg false ybhp) (.cond (.tmp 27) (.seq (.reg false ydgr) (.seq (.seq (.reg false ydep) (.block 1 (.range (.tmp 30) [31] (.reg false ycyd) (.block 2 (.seq (.reg true ydcd) (.cond (.tmp 38) (.reg true ydan) .skip)))))) (.seq (.reg false ydek) .ret))) (.seq (.reg false yxh) (.cond (.tmp 44) (.seq (.reg false yxd) .ret) .skip)))))))) (.seq (.reg false ydck) .ret)))))
theorem ybqq:Fn 111 c111 [.t 8]:=fn_0 Tryz.func111 (by kernel_rfl) (by kernel_rfl)
def ycpp:LO:=[o3 (.mv (.const (.bool false))) 2 0]
def yctq:LO:=[mv' 0 3 0,o3 (.bin .geq (.tmp 3) (ci' 1)) 4 1,mv' 4 5 3,⟨.mv (.tmp 0),some 6,some (5,true),7⟩,⟨.bin .leq (.tmp 6) (ci' 4),some 7,some (5,true),15⟩,o3 (.pick (.tmp 5) (.tmp 7) (.const (.bool false))) 8 31,mv' 8 2 63]
def c108:SC:=(.seq (.reg false ycpp) (.seq (.reg false yctq) .ret))
theorem ydad:Fn 108 c108 [.t 2]:=fn_0 Tryz.func108 (by kernel_rfl) (by kernel_rfl)
def ycpa:LO:=[o3 (.box 58 (.tmp 0)) 5 0,o3 (.box 27 (.tmp 1)) 6 0,o3 (.mv (ci' 0)) 10 0]
def ycpr:LO:=[ld' true 3 5 12 0,ld' true 2 6 13 0,mv' 3 14 0,cl' 112 [12,13,14] 15 7,mv' 15 11 15]
def ycrz:LO:=[mv' 11 16 0,o3 (.bin .neq (.tmp 16) (ci' 0)) 17 1]
def ydho:LO:=[mv' 11 18 0,mv' 18 10 1]
def ycqq:LO:=[mv' 2 19 0,cl' 108 [19] 20 1,o3 (.un .not (.tmp 20)) 21 3]
def ydim:LO:=[o3 (.mv (ci' 12)) 10 0]
def ycia:LO:=[mv' 4 22 0,o3 (.bin .gtr (.tmp 22) (ci' 4096)) 23 1]
def ydjo:LO:=[o3 (.mv (ci' 3)) 10 0]
def ycpc:LO:=[o3 (.mv (ci' 0)) 10 0]
def c129:SC:=(.seq (.reg false ycpa) (.seq (.seq (.reg false ycpr) (.seq (.reg false ycrz) (.cond (.tmp 17) (.seq (.reg false ydho) .ret) .skip))) (.seq (.seq (.reg false ycqq) (.cond (.tmp 21) (.seq (.reg false ydim) .ret) .skip)) (.seq (.seq (.reg false ycia) (.cond (.tmp 23) (.seq (.reg false ydjo) .ret) .skip)) (.seq (.reg false ycpc) .ret)))))
theorem ycxx:Fn 129 c129 [.t 10]:=fn_0 Tryz.func129 (by kernel_rfl) (by kernel_rfl)
def ycua:LO:=[o3 (.box 58 (.tmp 0)) 4 0,o3 (.box 27 (.tmp 1)) 5 0,o3 (.alloc 126 1 [.a (.pointer none),.a (.slice none 0 0),.i .i64 0,.i .u32 0,.a (.nilFunc)]) 8 0]
def ycpk:LO:=[ld' true 3 4 9 0,ld' true 2 5 10 0,cl' 93 [9,10] 11 3,ld' true 2 5 12 0,cl' 110 [12] 13 15,mv' 2 14 0,ld' true 2 5 15 0,cl' 109 [15] 16 95,mv' 3 17 0,o3 (.build [.a (.pointer none),.a (.slice none 0 0),.i .i64 0,.i .u32 0,.a (.nilFunc)] [(0,1,(.tmp 11)),(1,1,(.tmp 13)),(2,1,(.tmp 14)),(3,1,(.tmp 16)),(4,1,(.tmp 17))]) 18 511,o0 (.store 5 (.tmp 8) (.tmp 18)) 1023]
def c130:SC:=(.seq (.reg false ycua) (.seq (.reg true ycpk) .ret))
theorem ycfj:FnM 130 c130 [.c 8 true 5]:=fn_m Tryz.func130 (by kernel_rfl) (by kernel_rfl)
def ycmw:LO:=[o3 (.box 126 (.tmp 0)) 4 0,o3 (.alloc 130 1 [.a (.slice none 0 0),.a (.slice none 0 0),.a (.slice none 0 0),.i .i64 0,.i .i64 0,.i .i64 0,.i .i64 0,.i .u32 0]) 8 0,o3 (.mv (ci' 0)) 9 0]
def ycpy:LO:=[o3 (.alloc 130 1 [.a (.slice none 0 0),.a (.slice none 0 0),.a (.slice none 0 0),.i .i64 0,.i .i64 0,.i .i64 0,.i .i64 0,.i .u32 0]) 10 0]
def ycuv:LO:=[mv' 1 16 0,cl' 132 [16] 17 1,mv' 17 1 3]
def ycvq:LO:=[fa' 0 1 4 18 0,ld' false 1 18 19 1,mv' 1 20 0,cl' 94 [19,20] 21 7,fa' 3 1 4 22 0,ld' false 1 22 23 16,bn' .and 21 23 24 63,mv' 24 11 127]
def ycjr:LO:=[mv' 11 25 0,cl' 195 [25] 26 1,o3 (.alloc 48 1 [.i .i64 0,.i .i64 0,.i .i64 0,.i .i64 0,.i .u32 0]) 12 0,o0 (.store 5 (.tmp 12) (.tmp 26)) 7]
def ycxb:LO:=[fa' 4 1 4 27 0,ld' false 1 27 28 1,mv' 1 29 0,mv' 11 30 0,ld' true 5 12 31 0,o3 (.call (.tmp 28) [(.tmp 29),(.tmp 30),(.tmp 31)]) 32 31]
def ycgq:LO:=[fa' 1 1 10 33 0,ld' false 1 33 34 1,mv' 11 35 0,o3 (.bslice 40 1 1 [.i .u32 0] [(0,1,(.tmp 35))]) 36 4,o3 (.app 40 1 4 (.tmp 34) (.tmp 36)) 37 15,fa' 1 1 10 38 31,o0 (.store 1 (.tmp 38) (.tmp 37)) 63]
def ycvu:LO:=[mv' 2 39 0,o3 (.mv (ci' 0)) 40 0]
def ycje:LO:=[bn' .lss 40 39 41 0]
def ycud:LO:=[mv' 40 42 0,mv' 42 13 1]
def ybqg:LO:=[mv' 3 44 0,mv' 13 45 0,mv' 11 46 0,o3 (.call (.tmp 44) [(.tmp 45),(.tmp 46)]) 47 7,mv' 47 43 15,xt' 43 0 48 31,xt' 43 1 49 31,mv' 48 14 63,mv' 49 15 255]
def ybda:LO:=[mv' 15 50 0,o3 (.un .not (.tmp 50)) 51 1]
def ybvq:LO:=[fa' 1 1 4 52 0,ld' false 1 52 53 1,fa' 2 1 4 54 0,ld' false 1 54 55 4,mv' 11 56 0,mv' 14 57 0,cl' 196 [53,55,56,57] 58 63,o3 (.un .not (.tmp 58)) 59 127]
def ycyz:LO:=[o3 (.build [.a (.slice none 0 0),.a (.slice none 0 0),.a (.slice none 0 0),.i .i64 0,.i .i64 0,.i .i64 0,.i .i64 0,.i .u32 0] []) 60 0,o0 (.store 8 (.tmp 8) (.tmp 60)) 1,o3 (.mv (ci' 11)) 9 3]
def ybvj:LO:=[fa' 0 1 4 61 0,ld' false 1 61 62 1,mv' 1 63 0,mv' 14 64 0,cl' 113 [62,63,64] 65 15,mv' 65 1 31]
def ybvh:LO:=[fa' 0 1 4 66 0,ld' false 1 66 67 1,mv' 1 68 0,cl' 94 [67,68] 69 7,fa' 3 1 4 70 0,ld' false 1 70 71 16,bn' .and 69 71 72 63,mv' 72 11 127]
def yboi:LO:=[ld' true 5 12 74 0,mv' 14 75 0,mv' 11 76 0,cl' 197 [74,75,76] 77 7,mv' 77 73 15,xt' 73 0 78 31,xt' 73 1 79 31,o0 (.store 5 (.tmp 12) (.tmp 78)) 63]
def ybyr:LO:=[fa' 4 1 4 80 0,ld' false 1 80 81 1,mv' 1 82 0,mv' 11 83 0,ld' true 5 12 84 0,o3 (.call (.tmp 81) [(.tmp 82),(.tmp 83),(.tmp 84)]) 85 31]
def ybzl:LO:=[fa' 0 1 10 86 0,ld' false 1 86 87 1,mv' 14 88 0,o3 (.bslice 40 1 1 [.i .u32 0] [(0,1,(.tmp 88))]) 89 4,o3 (.app 40 1 4 (.tmp 87) (.tmp 89)) 90 15,fa' 0 1 10 91 31,o0 (.store 1 (.tmp 91) (.tmp 90)) 63]
def ybxa:LO:=[fa' 1 1 10 92 0,ld' false 1 92 93 1,mv' 11 94 0,o3 (.bslice 40 1 1 [.i .u32 0] [(0,1,(.tmp 94))]) 95 4,o3 (.app 40 1 4 (.tmp 93) (.tmp 95)) 96 15,fa' 1 1 10 97 31,o0 (.store 1 (.tmp 97) (.tmp 96)) 63]
def ybxb:LO:=[o3 (.bin .add (.tmp 40) (ci' 1)) 98 0,mv' 98 40 1]
def ybcz:LO:=[mv' 1 99 0,ld' true 5 12 100 0,fa' 2 1 10 101 1,o0 (.store 1 (.tmp 101) (.tmp 99)) 5,fa' 3 5 10 102 15,o0 (.store 5 (.tmp 102) (.tmp 100)) 31]
def ybeh:LO:=[ld' true 8 10 103 0,o0 (.store 8 (.tmp 8) (.tmp 103)) 1,o3 (.mv (ci' 0)) 9 3]
def c168:SC:=(.seq (.reg false ycmw) (.seq (.reg false ycpy) (.seq (.reg false ycuv) (.seq (.reg true ycvq) (.seq (.reg false ycjr) (.seq (.reg false ycxb) (.seq (.reg false ycgq) (.seq (.seq (.reg false ycvu) (.block 0 (.loop (.seq (.reg false ycje) (.seq (.cond (.tmp 41) .skip (.exit 0)) (.seq (.block 1 (.seq (.reg false ycud) (.seq (.reg false ybqg) (.seq (.seq (.reg false ybda) (.cond (.tmp 51) (.exit 0) .skip)) (.seq (.seq (.reg false ybvq) (.cond (.tmp 59) (.seq (.reg false ycyz) .ret) .skip)) (.seq (.reg false ybvj) (.seq (.reg true ybvh) (.seq (.reg false yboi) (.seq (.reg false ybyr) (.seq (.reg false ybzl) (.reg false ybxa))))))))))) (.reg false ybxb))))))) (.seq (.reg true ybcz) (.seq (.reg false ybeh) .ret))))))))))
theorem ycev:FnM 168 c168 [.c 8 true 8,.t 9]:=fn_m Tryz.func168 (by kernel_rfl) (by kernel_rfl)
def yclk:LO:=[o3 (.box 126 (.tmp 0)) 3 0,o3 (.box 38 (.tmp 2)) 5 0,o3 (.alloc 130 1 [.a (.slice none 0 0),.a (.slice none 0 0),.a (.slice none 0 0),.i .i64 0,.i .i64 0,.i .i64 0,.i .i64 0,.i .u32 0]) 6 0,o3 (.mv (ci' 0)) 7 0]
def ycka:LO:=[ld' true 5 3 8 0,mv' 1 9 0,ld' false 1 5 10 0,ln' 10 11 4,o3 (.mkfn 169 [] [(.tmp 3),(.tmp 5)]) 12 0,cl' 168 [8,9,11,12] 13 31,xt' 13 0 14 63,xt' 13 1 15 63,o0 (.store 8 (.tmp 6) (.tmp 14)) 255,mv' 15 7 511]
def c133:SC:=(.seq (.reg false yclk) (.seq (.reg false ycka) .ret))
theorem ycew:FnM 133 c133 [.c 6 true 8,.t 7]:=fn_m Tryz.func133 (by kernel_rfl) (by kernel_rfl)
def ybwr:LO:=[o3 (.mv (.const (.int .u32 0))) 6 0,o3 (.mv (.const (.bool false))) 7 1]
def ycad:LO:=[fa' 1 1 2 8 0,ld' false 1 8 9 1,fa' 2 1 2 10 0,ld' false 1 10 11 4,mv' 1 12 0,ld' false 1 3 13 0,mv' 0 14 0,ix' 1 13 14 15 96,ld' false 1 15 16 224,cl' 111 [9,11,12,16] 17 511,mv' 1 18 0,o3 (.bin .neq (.tmp 18) (.const (.int .u32 0))) 19 1024,mv' 17 6 1023,mv' 19 7 8191]
def c169:SC:=(.seq (.reg false ybwr) (.seq (.reg true ycad) .ret))
theorem ybyi:Fn 169 c169 [.t 6,.t 7]:=fn_0 Tryz.func169 (by kernel_rfl) (by kernel_rfl)
def ydip:LO:=[o3 (.box 58 (.tmp 0)) 5 0,o3 (.box 27 (.tmp 1)) 6 0,o3 (.mv (.const (.slice none 0 0))) 10 0,o3 (.mv (.const (.slice none 0 0))) 11 4,o3 (.mv (ci' 0)) 12 12]
def ydls:LO:=[ld' true 3 5 19 0,ld' true 2 6 20 0,mv' 2 21 0,mv' 3 22 0,mv' 4 23 0,ln' 23 24 16,cl' 129 [19,20,21,22,24] 25 63,mv' 25 13 127]
def ydhn:LO:=[mv' 13 26 0,o3 (.bin .neq (.tmp 26) (ci' 0)) 27 1]
def ydpo:LO:=[mv' 13 28 0,o3 (.mv (.const (.slice none 0 0))) 10 0,o3 (.mv (.const (.slice none 0 0))) 11 2,mv' 28 12 7]
def ydji:LO:=[o3 (.alloc 29 1 [.a (.slice none 0 0)]) 14 0]
def ydil:LO:=[o3 (.alloc 30 1 [.a (.slice none 0 0)]) 15 0]
def ydgo:LO:=[ld' true 3 5 29 0,ld' true 2 6 30 0,mv' 2 31 0,o3 (.mkfn 131 [] [(.tmp 14),(.tmp 15)]) 32 0,cl' 130 [29,30,31,32] 33 15,o3 (.alloc 126 1 [.a (.pointer none),.a (.slice none 0 0),.i .i64 0,.i .u32 0,.a (.nilFunc)]) 16 0,o0 (.store 5 (.tmp 16) (.tmp 33)) 63]
def ydhe:LO:=[ld' true 5 16 35 0,mv' 3 36 0,mv' 4 37 0,cl' 133 [35,36,37] 38 7,mv' 38 34 15,xt' 34 0 39 31,xt' 34 1 40 31,o3 (.alloc 130 1 [.a (.slice none 0 0),.a (.slice none 0 0),.a (.slice none 0 0),.i .i64 0,.i .i64 0,.i .i64 0,.i .i64 0,.i .u32 0]) 17 0,o0 (.store 8 (.tmp 17) (.tmp 39)) 191,mv' 40 18 511]
def ydkg:LO:=[mv' 18 41 0,o3 (.bin .neq (.tmp 41) (ci' 0)) 42 1]
def ydox:LO:=[mv' 18 43 0,o3 (.mv (.const (.slice none 0 0))) 10 0,o3 (.mv (.const (.slice none 0 0))) 11 2,mv' 43 12 7]
def ycgn:LO:=[ld' false 1 14 44 0,ld' false 1 15 45 0,mv' 44 10 1,mv' 45 11 7,o3 (.mv (ci' 0)) 12 15]
def c78:SC:=(.seq (.reg false ydip) (.seq (.seq (.reg false ydls) (.seq (.reg false ydhn) (.cond (.tmp 27) (.seq (.reg false ydpo) .ret) .skip))) (.seq (.reg false ydji) (.seq (.reg false ydil) (.seq (.reg false ydgo) (.seq (.seq (.reg false ydhe) (.seq (.reg false ydkg) (.cond (.tmp 42) (.seq (.reg false ydox) .ret) .skip))) (.seq (.reg true ycgn) .ret)))))))
theorem ydav:FnU 78 c78 [.t 10,.t 11,.t 12]:=fn_u Tryz.func78 (by kernel_rfl) (by kernel_rfl)
def ybpe:LO:=[o3 (.box 48 (.tmp 2)) 7 0]
def ybwg:LO:=[ld' false 1 3 8 0,mv' 0 9 0,cl' 132 [9] 10 2,o3 (.bslice 34 1 1 [.a (.slice none 0 0)] [(0,1,(.tmp 10))]) 11 6,o3 (.app 34 1 24 (.tmp 8) (.tmp 11)) 12 15,o0 (.store 1 (.tmp 3) (.tmp 12)) 31]
def ybuo:LO:=[ld' false 1 4 13 0,ld' true 5 7 14 0,o3 (.bslice 48 5 1 [.i .i64 0,.i .i64 0,.i .i64 0,.i .i64 0,.i .u32 0] [(0,5,(.tmp 14))]) 15 2,o3 (.app 48 5 40 (.tmp 13) (.tmp 15)) 16 7,o0 (.store 1 (.tmp 4) (.tmp 16)) 15]
def c131:SC:=(.seq (.reg false ybpe) (.seq (.reg true ybwg) (.reg false ybuo)))
theorem ybhf:FnM 131 c131 []:=fn_m Tryz.func131 (by kernel_rfl) (by kernel_rfl)
end Sh
end
section
structure VarR where
 name:ByteArray
 kind:Int
 lo:Int
 hi:Int
 perNode:Int
 perID:Int
def varE:Elem VarR:=fun w b o x=>w.cell? ⟨b,o,none⟩=some (.string x.name)/\w.cell? ⟨b,o+1,none⟩=some (.int .i64 x.kind)/\w.cell? ⟨b,o+2,none⟩=some (.int .i64 x.lo)/\w.cell? ⟨b,o+3,none⟩=some (.int .i64 x.hi) /\
 w.cell? ⟨b,o+4,none⟩=some (.int .i64 x.perNode)/\w.cell? ⟨b,o+5,none⟩=some (.int .i64 x.perID)
theorem Stable.var:Stable varE:=fun _ _ _ _ _ h _ hx=>⟨h _ _ hx.1,h _ _ hx.2.1,h _ _ hx.2.2.1,h _ _ hx.2.2.2.1,h _ _ hx.2.2.2.2.1,h _ _ hx.2.2.2.2.2⟩
theorem ybjq(ids:List Int)(k:Nat)(hk:k<ids.length):(ids.take (k+1)).foldl max 0=max ((ids.take k).foldl max 0) ids[k]:=by
 rw[take_snoc ids k hk,zT];rfl
theorem ybau(D:List Int)(m:Int)(h:∀x∈D,x<=m):∀a:Int,a<=m->D.foldl max a<=m:=by
 induction D with
 |nil=>intro a ha;exact ha
 |cons x D ih=>intro a ha;exact ih (fun y hy=>h y (by simp[hy])) _ (Int.max_le.2 ⟨ha,h x (by simp)⟩)
theorem ydh{g:Gr}(hg:ybc g):0<=yjh g/\yjh g<=255:=⟨yfo _ _,ybau _ _ (fun x hx=>(hg.2.2.2.1 x hx).2) _ (by omega)⟩
end
section
abbrev Tm:=Int×Int
structure SetR where
 var:Int
 val:List Tm
structure RuleR where
 name:ByteArray
 guard:List Tm
 sets:List SetR
structure ProgR where
 name:ByteArray
 vars:List VarR
 rules:List RuleR
instance:Inhabited VarR:=⟨⟨.empty,0,0,0,0,0⟩⟩
instance:Inhabited SetR:=⟨⟨0,[]⟩⟩
instance:Inhabited RuleR:=⟨⟨.empty,[],[]⟩⟩
inductive Ex where
 |leaf (op arg:Int)
 |un (op:Int) (a:Ex)
 |agg (op:Int) (a:Ex)
 |bin (op:Int) (a b:Ex)
 |ite (c a b:Ex)
def Ex.ser:Ex->List Tm
 |.leaf op arg=>[(op,arg)]
 |.un op a=>(op,0)::a.ser
 |.agg op a=>(op,0)::a.ser
 |.bin op a b=>(op,0)::(a.ser++b.ser)
 |.ite c a b=>(43,0)::(c.ser++(a.ser++b.ser))
def satP(a:Int):Int:=max (-1073741824) (min a 1073741824)
def ycm(b:Bool):Int:=if b then 1 else 0
def ymd(a b:Int):Int:=if b=0 then 0 else if a.tmod b≠0/\(decide (a<0)≠decide (b<0))then a.tdiv b-1 else a.tdiv b
def unP(op a:Int):Int:=if op=18 then -a else ycm (a==0)
def cmpP(op a b:Int):Bool:=if op=35 then a==b else if op=36 then a != b else if op=37 then decide (a<b)else if op=38 then decide (a<=b)else if op=39 then decide (a>b)else decide (a>=b)
def binP(op a b:Int):Int :=
 if op=30 then satP (a*b)else if op=31 then satP (ymd a b)else if op=32 then(if b=0 then 0 else satP (a-b*ymd a b))else if op=33 then satP (a+b)else if op=34 then satP (a-b)
 else if op=41 then ycm (a != 0&&b != 0)else if op=42 then ycm (a != 0||b != 0)else ycm (cmpP op a b)
def countP(l:List Int):Int:=((l.filter (· != 0)).length:Int)
def ygq(l:List Int):Int:=l.foldl min 1073741824
def yeb(l:List Int):Int×Int:=l.foldl (fun p a=>if a>p.1 then(a,p.1)else(p.1,max p.2 a)) (-1073741824,-1073741824)
def yth(l:List Int):Nat->Int->Int
 |0,r=>r
 |n+1,r=>if l.elem r then yth l n (r+1)else r
def mexP(l:List Int):Int:=yth l (l.length+1) 0
def yef(l:List Int):Int:=match l.findIdx? (· != 0)with|some i=>i|none=>-1
def yhm(op:Int)(l:List Int):Int :=
 if op=20 then ycm (countP l==l.length)else if op=21 then ycm (decide (countP l>0))else if op=22 then countP l else if op=23 then yef l else if op=24 then ygq l else if op=25 then(yeb l).1
 else if op=26 then satP l.sum else if op=27 then mexP l else if op=28 then(yeb l).2 else l.headD 0
structure Sc where
 g:Gr
 c:Conf
def ybr(g:Gr)(v port:Nat):Int×Int:=(g.ports.getD v []).getD port (0,0)
def yjr(g:Gr)(v:Nat):List Int:=(g.ports.getD v []).map fun l=>yha (g.ports.getD l.1.toNat []) v
def ymo(g:Gr)(op:Int)(v:Nat)(port:Int):Int :=
 if op=6 then g.ids.length else if op=7 then yjh g else if op=8 then g.ids.getD v 0 else if op=9 then((g.ports.getD v []).length:Int)else if op=10 then ycm ((v:Int)==0)else if op=11 then port
 else(let l:=ybr g v port.toNat
  if op=13 then g.ids.getD l.1.toNat 0 else if op=14 then((g.ports.getD l.1.toNat []).length:Int)else if op=15 then ycm (l.1==0)else if op=16 then l.2 else(yjr g v).getD port.toNat 0)
def ysx(g:Gr)(c:Conf)(op arg:Int)(v:Nat)(port:Int):Int :=
 if op=1 then arg else if op=2 then 1 else if op=3 then 0 else if op=4 then -1 else if op=5 then(c.getD v []).getD arg.toNat 0 else if op=12 then(c.getD (ybr g v port.toNat).1.toNat []).getD arg.toNat 0
 else ymo g op v port
def ybx(g:Gr)(c:Conf)(v:Nat):Ex->Int->Int
 |.leaf op arg,p=>ysx g c op arg v p
 |.un op a,p=>unP op (ybx g c v a p)
 |.agg op a,_=>yhm op ((zZ (g.ports.getD v []).length).map fun(q:Nat)=>ybx g c v a (q:Int))
 |.bin op a b,p=>binP op (ybx g c v a p) (ybx g c v b p)
 |.ite x a b,p=>if ybx g c v x p≠0 then ybx g c v a p else ybx g c v b p
def Ex.ok(nv:Int)(bnd:Bool):Ex->Bool
 |.leaf op arg=>decide (1<=op/\op<=17)&&(if op=1 then decide (0<=arg/\arg<=1073741824)else if op=5\/op=12 then decide (0<=arg/\arg<nv)else true)&&(if 11<=op then bnd else true)
 |.un op a=>decide (op=18\/op=19)&&a.ok nv bnd
 |.agg op a=>decide (20<=op/\op<=29)&&a.ok nv true
 |.bin op a b=>decide (30<=op/\op<=42)&&a.ok nv bnd&&b.ok nv bnd
 |.ite x a b=>x.ok nv bnd&&a.ok nv bnd&&b.ok nv bnd
def InB(x:Int):Prop:=-1073741824<=x/\x<=1073741824
theorem ypb(a:Int):InB (satP a):=by unfold InB satP;omega
theorem yfv(b:Bool):InB (ycm b):=by unfold InB ycm;cases b<;>simp
theorem ydln{op a:Int}(h:InB a):InB (unP op a):=by
 unfold unP;split
 ·unfold InB at *;omega
 ·exact yfv _
theorem ydcr(op a b:Int):InB (binP op a b):=by
 unfold binP;split;· exact ypb _
 split;· exact ypb _
 split
 ·split
  ·unfold InB;omega
  ·exact ypb _
 split;· exact ypb _
 split;· exact ypb _
 split;· exact yfv _
 split;· exact yfv _
 exact yfv _
theorem countP_le(l:List Int):0<=countP l/\countP l<=l.length:=by
 unfold countP;have:=List.length_filter_le (· != 0) l;omega
theorem ybos(l:List Int)(h:∀x∈l,InB x):InB (ygq l):=by
 unfold ygq
 have:∀(l:List Int) (a:Int),InB a->(∀x∈l,InB x)->InB (l.foldl min a):=by
  intro l
  induction l with
  |nil=>intro a ha _;exact ha
  | cons x l ih =>
    intro a ha hl;refine ih _ ?_ fun y hy=>hl y (zV _ hy);have:=hl x zQ;unfold InB at *;omega
 exact this l _ (by unfold InB;omega) h
theorem yuu(l:List Int)(h:∀x∈l,InB x):InB (yeb l).1/\InB (yeb l).2:=by
 unfold yeb
 have:∀(l:List Int) (p:Int×Int),InB p.1/\InB p.2->(∀x∈l,InB x)->InB (l.foldl (fun p a=>if a>p.1 then(a,p.1)else(p.1,max p.2 a)) p).1/\InB (l.foldl (fun p a=>if a>p.1 then(a,p.1)else(p.1,max p.2 a)) p).2:=by
  intro l
  induction l with
  |nil=>intro p hp _;exact hp
  | cons x l ih =>
    intro p hp hl;refine ih _ ?_ fun y hy=>hl y (zV _ hy);have:=hl x zQ;unfold InB at *
    dsimp only
    split<;>dsimp only<;>omega
 exact this l _ (by unfold InB;simp) h
theorem ybic(l:List Int):∀(n:Nat) (r:Int),r<=yth l n r/\yth l n r<=r+n
 |0,r=>by unfold yth;omega
 | n+1,r=>by
   unfold yth;have:=ybic l n (r+1);split<;>omega
theorem yzq(l:List Int):-1<=yef l/\yef l<l.length\/yef l = -1:=by
 unfold yef;split
 ·rename_i i hi
  obtain⟨h,_⟩:=List.findIdx?_eq_some_iff_getElem.1 hi;left;omega
 ·exact .inr rfl
theorem ycdf{op:Int}{l:List Int}(hl:l.length<=1000)(h:∀x∈l,InB x):InB (yhm op l):=by
 have hc:=countP_le l;unfold yhm;split;· exact yfv _
 split;· exact yfv _
 split;· unfold InB;omega
 split;· have:=yzq l;unfold InB;omega
 split;· exact ybos l h
 split;· exact(yuu l h).1
 split;· exact ypb _
 split;· have:=ybic l (l.length+1) 0;unfold mexP InB;omega
 split;· exact(yuu l h).2
 cases l with
 |nil=>unfold InB;simp
 |cons x l=>exact h x zQ
structure ConfIn(n nv:Nat)(c:Conf):Prop where
 len:c.length=n
 row:∀s∈c,s.length=nv/\∀x∈s,InB x
theorem ConfIn.at_{n nv:Nat}{c:Conf}(h:ConfIn n nv c){v:Nat}(hv:v<n):(c.getD v []).length=nv/\∀k,InB ((c.getD v []).getD k 0):=by
 have hlt:v<c.length:=by rw[h.len];exact hv
 have e:c.getD v []=c[v]:=by simp[zM,hlt]
 obtain⟨h1,h2⟩:=h.row c[v] (zK hlt);rw[e];refine⟨h1,fun k=>?_⟩;rw[zG];cases hk:c[v][k]? with
 |none=>simp;unfold InB;omega
 |some x=>simp;exact h2 x (zH hk)
theorem ybc.ybr{g:Gr}(hg:ybc g){v p:Nat}(hv:v<g.ports.length)(hp:p<(g.ports.getD v []).length):0<=(ybr g v p).1/\(ybr g v p).1<g.ports.length/\1<=(ybr g v p).2/\(ybr g v p).2<=15:=by
 have e:g.ports.getD v []=g.ports[v]:=by simp[zM,hv]
 have h1:=hg.2.2.2.2.2.1 ⟨v,hv⟩;rw[e]at hp;have hm:(g.ports[v])[p]∈g.ports[v]:=zK hp;have h2:=h1.1 _ hm;unfold ykw at h2;have e2:Go.Proofs.YtiejahgklcjhkaaGreatDoor.ybr g v p=(g.ports[v])[p]:=by unfold Go.Proofs.YtiejahgklcjhkaaGreatDoor.ybr;rw[e];simp[zM,hp]
 rw[e2];omega
theorem ybc.deg_lt{g:Gr}(hg:ybc g){v:Nat}:(g.ports.getD v []).length<24:=by
 by_cases hv:v<g.ports.length
 ·have h1:=hg.2.2.2.2.2.1 ⟨v,hv⟩;have:=ysm hv h1;have e:g.ports.getD v []=g.ports[v]:=by simp[zM,hv]
  rw[e];have:=hg.2.1;have h3:g.ports[(⟨v,hv⟩:Fin g.ports.length)].length=g.ports[v].length:=rfl;omega
 ·rw[zG,List.getElem?_eq_none (by omega)]
  simp
theorem ybc.id_in{g:Gr}(hg:ybc g)(v:Nat):0<=g.ids.getD v 0/\g.ids.getD v 0<=255:=by
 rw[zG];cases h:g.ids[v]? with
 |none=>simp
 |some x=>exact hg.2.2.2.1 x (zH h)
theorem ycfv{g:Gr}{c:Conf}{n nv:Nat}(hg:ybc g)(hn:g.ports.length=n)(hc:ConfIn n nv c){op arg:Int}{bnd:Bool}(ho:(Ex.leaf op arg).ok nv bnd=true){v:Nat}(hv:v<n){p:Int}(hp:bnd=true->0<=p/\p<(g.ports.getD v []).length)(hpi:InB p):InB (ysx g c op arg v p):=by
 subst hn;have h24:=hg.2.1;have hd:=hg.deg_lt (v:=v);unfold ysx;simp only[Ex.ok,zN,decide_eq_true_eq]at ho;obtain⟨⟨ho1,ho2⟩,ho3⟩:=ho;split
 ·rename_i h;rw[if_pos h]at ho2;simp at ho2;unfold InB;omega
 split;· unfold InB;omega
 split;· unfold InB;omega
 split;· unfold InB;omega
 split;· exact(hc.at_ hv).2 _
 split
 ·rename_i h
  rw[if_pos (by omega)]at ho3
  obtain⟨q1,q2⟩:=hp ho3;have hl:=hg.ybr hv (p:=p.toNat) (by omega)
  exact(hc.at_ (v:=(ybr g v p.toNat).1.toNat) (by omega)).2 _
 ·unfold ymo;split;· rw[hg.2.2.1];unfold InB;omega
  split;· have:=ydh hg;unfold InB;omega
  split;· have:=hg.id_in v;unfold InB;omega
  split;· unfold InB;omega
  split;· exact yfv _
  split;· exact hpi
  rename_i h6 h7 h8 h9 h10 h11
  rw[if_pos (by omega)]at ho3
  obtain⟨q1,q2⟩:=hp ho3;have hl:=hg.ybr hv (p:=p.toNat) (by omega)
  simp only;split;· have:=hg.id_in (ybr g v p.toNat).1.toNat;unfold InB;omega
  split;· have:=hg.deg_lt (v:=(ybr g v p.toNat).1.toNat);unfold InB;omega
  split;· exact yfv _
  split;· unfold InB;omega
  ·unfold yjr;rw[zG,zS];cases hk:(g.ports.getD v [])[p.toNat]? with
   |none=>simp;unfold InB;omega
   | some l =>
     simp;have hd2:=hg.deg_lt (v:=l.1.toNat);rcases ywl (ls:=g.ports.getD l.1.toNat []) (u:=(v:Int))with e|⟨k,e,hk⟩
     ·simp at e;rw[e];unfold InB;omega
     ·simp at e hk hd2;rw[e];unfold InB;omega
theorem yhd{g:Gr}{c:Conf}{n nv:Nat}(hg:ybc g)(hn:g.ports.length=n)(hc:ConfIn n nv c){v:Nat}(hv:v<n):∀(x:Ex) {bnd:Bool}{p:Int},x.ok nv bnd=true->(bnd=true->0<=p/\p<(g.ports.getD v []).length)->InB p->InB (ybx g c v x p)
 |.leaf op arg,bnd,p,h,hp,hpi=>ycfv hg hn hc h hv hp hpi
 | .un op a,bnd,p,h,hp,hpi=>by
   simp only[Ex.ok,zN]at h;exact ydln (yhd hg hn hc hv a h.2 hp hpi)
 | .agg op a,bnd,p,h,hp,hpi=>by
   simp only[Ex.ok,zN]at h;have:=hg.deg_lt (v:=v);refine ycdf (by simp;simp at this;omega) fun x hx=>?_
   obtain⟨q,hq,rfl⟩:=List.mem_map.1 hx;have hq:=List.mem_range.1 hq;exact yhd hg hn hc hv a h.2 (fun _=>by omega) (by unfold InB;omega)
 |.bin op a b,bnd,p,h,hp,hpi=>ydcr _ _ _
 | .ite x a b,bnd,p,h,hp,hpi=>by
   simp only[Ex.ok,zN]at h;unfold ybx;split
   ·exact yhd hg hn hc hv a h.1.2 hp hpi
   ·exact yhd hg hn hc hv b h.2 hp hpi
end
section
namespace Sh
open Go Ev
theorem mulB{a b:Int}(ha:InB a)(hb:InB b):-1152921504606846976<=a*b/\a*b<=1152921504606846976:=by
 unfold InB at *
 have h:(a*b).natAbs<=1073741824*1073741824:=by
  rw[zAA];exact zAB (by omega) (by omega)
 omega
theorem yee(b:Bool):Returns zF 256 [.b b] (.i .i64 (ycm b)):=by
 refine Returns.of (ydct _ _ ?_);simp only[c256,ycle,yckg,ycxe,ycmr,ybb,ycm,go_sem,↓reduceIte,reduceCtorEq];cases b<;>simp
theorem ydt(a:Int):Returns zF 258 [.i .i64 a] (.i .i64 (satP a)):=by
 refine Returns.of (ycyk _ _ ?_);simp only[c258,ycgr,ycma,ybb,satP,go_sem,zA,zB,↓reduceIte,reduceCtorEq]
theorem ydff{a b:Int}(ha:InB a):-1073741824<=a.tdiv b/\a.tdiv b<=1073741824:=by
 have h1:(a.tdiv b).natAbs=a.natAbs/b.natAbs:=Int.natAbs_tdiv a b;have h2:a.natAbs/b.natAbs<=a.natAbs:=Nat.div_le_self _ _;rw[<-h1]at h2;unfold InB at ha;omega
theorem ycen{a b:Int}(ha:InB a):-1073741825<=ymd a b/\ymd a b<=1073741824:=by
 have:=ydff (b:=b) ha;unfold ymd;split
 ·omega
 ·split<;>omega
theorem ycaa{a b:Int}(ha:InB a)(hb:InB b):-1152921505680588800<=b*ymd a b/\b*ymd a b<=1152921505680588800:=by
 have h1:=ycen (b:=b) ha
 have h:(b*ymd a b).natAbs<=1073741824*1073741825:=by
  unfold InB at *;rw[zAA];exact zAB (by omega) (by omega)
 omega
theorem ybzg(op a:Int)(ha:InB a):Returns zF 237 [.i .i64 op,.i .i64 a] (.i .i64 (unP op a)):=by
 refine Returns.of (ydcs _ _ ?_);simp only[c237,ycgp,ycgk,yctc,ycpz,ybb,unP,IntKind.signed,go_sem,zA,zB,↓reduceIte,reduceCtorEq];unfold InB at ha;refine⟨fun h=>⟨ikw (by omega) (by omega),by rw[if_pos h];omega⟩,fun h=>(yee _).use ?_⟩
 simp only[ybi,ybb,go_sem,zA,zB,↓reduceIte,reduceCtorEq];rw[if_neg h]
theorem ypm(a b:Int)(ha:InB a):Returns zF 259 [.i .i64 a,.i .i64 b] (.i .i64 (ymd a b)):=by
 refine Returns.of (ydcz _ _ ?_);simp only[c259,ycfz,ycrm,yckr,ycii,ycpm,ycjo,ycix,ybb,ymd,go_sem,zA,zB,↓reduceIte,reduceCtorEq];have:=ydff (b:=b) ha;refine⟨fun h=>by rw[if_pos h],fun h=>⟨⟨h,ikw (by omega) (by omega)⟩,h,fun h1=>⟨fun h2=>⟨ikw (by omega) (by omega),?_⟩,fun h2=>?_⟩,fun h1=>?_⟩⟩
 ·rw[if_neg h,if_pos ⟨h1,h2⟩]
 ·rw[if_neg h,if_neg (fun q=>q.2 h2)]
 ·rw[if_neg h,if_neg (fun q=>q.1 h1)]
theorem ybcj(op a b:Int):Returns zF 260 [.i .i64 op,.i .i64 a,.i .i64 b] (.b (cmpP op a b)):=by
 refine Returns.of (yddl _ _ ?_);simp only[c260,yclu,ycke,ycmg,ycul,ycpv,ycpi,ycps,ycjw,ycns,ycna,ybwt,ybvv,yboa,yjn,cmpP,go_sem,zA,zB,↓reduceIte,reduceCtorEq];refine⟨fun h=>by rw[if_pos h],fun h35=>⟨fun h=>by rw[if_neg h35,if_pos h],fun h36=>⟨fun h=>by rw[if_neg h35,if_neg h36,if_pos h],fun h37=>⟨fun h=>by rw[if_neg h35,if_neg h36,if_neg h37,if_pos h],fun h38=>⟨fun h=>by rw[if_neg h35,if_neg h36,if_neg h37,if_neg h38,if_pos h],fun h39=>by rw[if_neg h35,if_neg h36,if_neg h37,if_neg h38,if_neg h39]⟩⟩⟩⟩⟩
theorem ybml(op a b:Int)(ha:InB a)(hb:InB b):Returns zF 239 [.i .i64 op,.i .i64 a,.i .i64 b] (.i .i64 (binP op a b)):=by
 refine Returns.of (yddf _ _ ?_);simp only[c239,ycup,ycrs,ycgx,ycuc,ycsy,ycly,ychl,ycqy,ycoz,ycmq,ybxz,ybod,ybyd,ybsa,ybop,ybru,ybzx,ybqr,ybpp,ybb,go_sem,zA,zB,↓reduceIte,reduceCtorEq];have hm:=mulB ha hb;have hq:=ycaa ha hb;have hA:=ha;have hB:=hb;unfold InB at hA hB;refine⟨fun h=>⟨ikw (by omega) (by omega),(ydt _).use ?_⟩,fun h30=>⟨fun h=>(ypm a b ha).use ?_,fun h31=>⟨fun h=>⟨fun h0=>?_,fun h0=>(ypm a b ha).use ?_⟩,fun h32=>⟨fun h=>⟨ikw (by omega) (by omega),(ydt _).use ?_⟩,fun h33=>⟨fun h=>⟨ikw (by omega) (by omega),(ydt _).use ?_⟩,fun h34=>?_⟩⟩⟩⟩⟩
 ·simp only[ybi,ybb,go_sem,zA,zB,↓reduceIte,reduceCtorEq];simp[binP,h]
 ·simp only[ybi,go_sem,zA,zB,↓reduceIte,reduceCtorEq];refine(ydt _).use ?_;simp only[ybb,go_sem];simp[binP,h]
 ·simp[binP,h,h0]
 ·simp only[ybi,go_sem,zA,zB,↓reduceIte,reduceCtorEq];refine⟨ikw (by omega) (by omega),ikw (by omega) (by omega),(ydt _).use ?_⟩
  simp only[ybb,go_sem];simp[binP,h,h0]
 ·simp only[ybi,ybb,go_sem,zA,zB,↓reduceIte,reduceCtorEq];simp[binP,h]
 ·simp only[ybi,ybb,go_sem,zA,zB,↓reduceIte,reduceCtorEq];simp[binP,h]
 ·refine⟨fun h=>?_,fun h41=>⟨fun h=>?_,fun h42=>?_⟩⟩
  ·refine⟨fun h1=>(yee _).use ?_,fun h1=>(yee _).use ?_⟩
   ·simp only[ybi,ybb,go_sem,zA,zB,↓reduceIte,reduceCtorEq];simp[binP,h];rw[show(a != 0)=true by simpa using h1];simp
   ·simp only[ybi,ybb,go_sem,zA,zB,↓reduceIte,reduceCtorEq];simp[binP,h,h1]
  ·refine⟨fun h1=>(yee _).use ?_,fun h1=>(yee _).use ?_⟩
   ·simp only[ybi,ybb,go_sem,zA,zB,↓reduceIte,reduceCtorEq];simp[binP,h,h1]
   ·simp only[ybi,ybb,go_sem,zA,zB,↓reduceIte,reduceCtorEq];simp[binP,h];rw[show(a != 0)=true by simpa using h1];simp
  ·refine(ybcj op a b).use ?_;simp only[ybi,go_sem,zA,zB,↓reduceIte,reduceCtorEq];refine(yee _).use ?_;simp only[ybb,go_sem];simp[binP,h30,h31,h32,h33,h34,h41,h42]
end Sh
end
section
namespace Sh
open Go Ev
theorem yrj{l:List Int}{k:Nat}(h:k<l.length):countP (l.take (k+1))=countP (l.take k)+(if l.getD k 0≠0 then 1 else 0):=by
 unfold countP;rw[zD h,List.filter_append,List.length_append,getD_at h]
 by_cases q:l[k]=0
 ·simp[q]
 ·simp[q]
theorem ybfz{l:List Int}(k:Nat):0<=countP (l.take k)/\countP (l.take k)<=k:=by
 have:=countP_le (l.take k);simp only[List.length_take]at this;omega
theorem ybvc(l:List Int)(hl:l.length<=1000):Returns zF 266 [yx l] (.i .i64 (countP l)):=by
 refine Returns.of (ydai _ _ ?_);simp only[c266,yckj,ycxi,ycrh,yx,go_sem,zB,↓reduceIte,reduceCtorEq];refine ybj (σ:=Nat) (fun k=>⟨[(8,.i .i64 k),(3,.i .i64 (countP (l.take k))),(6,yx l),(7,.i .i64 l.length)],[]⟩) (fun k=>k<=l.length) (fun k=>l.length-k) 0 (zL _) ?_ ?_
 ·refine yj [] [] [] ?_;simp only[yx,allQ,live,yg,ybb,zI,go_sem,zA,↓reduceIte,reduceCtorEq];simp[countP]
 ·intro k hk;simp only[ycwr,ycvd,ycpt,ycut,ycvc,ychb,yx,ybb,go_sem,zA,zB,↓reduceIte,reduceCtorEq];have hb:=ybfz (l:=l) k;refine⟨fun hlt=>⟨by omega,fun h0=>⟨ikw (by omega) (by omega),ikw (by omega) (by omega),?_⟩,fun h0=>⟨ikw (by omega) (by omega),?_⟩⟩,fun hlt=>?_⟩
  ·have hk':k<l.length:=by omega
   refine yw (k+1) (by omega) (by omega) ?_
   refine yj [] [] [] ?_;simp only[yrj hk',if_pos h0,allQ,live,yg,ybb,go_sem,zA,↓reduceIte,reduceCtorEq];simp
  ·have hk':k<l.length:=by omega
   refine yw (k+1) (by omega) (by omega) ?_
   refine yj [] [] [] ?_;simp only[yrj hk',if_neg (not_not_intro h0),allQ,live,yg,ybb,go_sem,zA,↓reduceIte,reduceCtorEq];simp
  ·rw[zJ (by omega)]
theorem ypk{l:List Int}{k:Nat}(h:k<l.length):yeb (l.take (k+1))=(if l.getD k 0>(yeb (l.take k)).1 then(l.getD k 0,(yeb (l.take k)).1)else((yeb (l.take k)).1,max (yeb (l.take k)).2 (l.getD k 0))):=by
 unfold yeb;rw[zD h,zT,getD_at h];rfl
theorem yrd(l:List Int)(hl:l.length<=1000):Returns zF 269 [yx l] (.tp [.i .i64 (yeb l).1,.i .i64 (yeb l).2]):=by
 refine Returns.of (ydeb _ _ ?_);simp only[c269,ycgg,ycro,yciz,yx,go_sem,zB,↓reduceIte,reduceCtorEq];refine ybj (σ:=Nat) (fun k=>⟨[(8,.i .i64 k),(2,.i .i64 (yeb (l.take k)).1),(3,.i .i64 (yeb (l.take k)).2),(6,yx l),(7,.i .i64 l.length)],[]⟩) (fun k=>k<=l.length) (fun k=>l.length-k) 0 (zL _) ?_ ?_
 ·refine yj [] [] [] ?_;simp only[yx,allQ,live,yg,ybb,zI,go_sem,zA,↓reduceIte,reduceCtorEq];simp[yeb]
 ·intro k hk;simp only[ycqu,ychc,ycjm,ycwg,ycun,ychg,ycsq,yx,go_sem,zA,zB,↓reduceIte,reduceCtorEq];refine⟨fun hlt=>⟨by omega,fun h0=>⟨ikw (by omega) (by omega),?_⟩,fun h0=>⟨ikw (by omega) (by omega),?_⟩⟩,fun hlt=>?_⟩
  ·have hk':k<l.length:=by omega
   refine yw (k+1) (by omega) (by omega) ?_
   refine yj [] [] [] ?_;simp only[ypk hk',if_pos h0,allQ,live,yg,ybb,go_sem,zA,↓reduceIte,reduceCtorEq];simp
  ·have hk':k<l.length:=by omega
   refine yw (k+1) (by omega) (by omega) ?_
   refine yj [] [] [] ?_;simp only[ypk hk',if_neg h0,allQ,live,yg,ybb,go_sem,zA,↓reduceIte,reduceCtorEq];simp
  ·rw[zJ (by omega)]
   exact Sim.refl _
theorem ybba(l:List Int)(x:Int)(hl:l.length<=100000):Returns zF 274 [yx l,.i .i64 x] (.b (l.elem x)):=by
 refine Returns.of (ydbv _ _ ?_);simp only[c274,ycqz,ycim,yx,go_sem,zA,zB,↓reduceIte,reduceCtorEq];refine(ybcw l x hl).use ?_;simp only[ybi,yjn,go_sem,zA,zB,↓reduceIte,reduceCtorEq];unfold idxP;cases h:l.findIdx? (fun y=>x==y)with
 | none =>
   rw[zU]at h
   have:l.elem x=false:=by
    rw[zY,decide_eq_false_iff_not];intro hm;have:=h x hm;simp at this
   rw[this];simp
 | some i =>
   obtain⟨h1,h2,_⟩:=List.findIdx?_eq_some_iff_getElem.1 h
   have:l.elem x=true:=by
    rw[zY,decide_eq_true_eq];have:x=l[i]:=by simpa using h2
    rw[this];exact zK h1
   rw[this];simp
theorem ybla{l:List Int}{n:Nat}{r:Int}(h:l.elem r=true):yth l (n+1) r=yth l n (r+1):=by
 show(if l.elem r then _ else _)=_;rw[if_pos h]
theorem ybkh{l:List Int}{n:Nat}{r:Int}(h:l.elem r=false):yth l n r=r:=by
 cases n with
 |zero=>rfl
 |succ n=>show(if l.elem r then _ else _)=_;rw[if_neg (by rw[h];simp)]
theorem ybca{l:List Int}{k:Nat}(h:∀j:Nat,j<k->l.elem (j:Int)=true):k<=l.length:=by
 have h1:((zZ k).map fun(j:Nat)=>(j:Int)).Nodup:=by
  rw[List.Nodup,List.pairwise_map];exact List.nodup_range.imp fun {a b} hab e=>hab (by omega)
 have h2:((zZ k).map fun(j:Nat)=>(j:Int)) ⊆ l:=fun x hx=>by
  obtain⟨j,hj,rfl⟩:=List.mem_map.1 hx;have:=h j (List.mem_range.1 hj)
  simpa using this
 have:=List.Nodup.length_le_of_subset h1 h2
 simpa using this
theorem ydbk(l:List Int)(hl:l.length<=1000):Returns zF 270 [yx l] (.i .i64 (mexP l)):=by
 refine Returns.of (ydbw _ _ ?_);simp only[c270,ycrb,ycvb,yx,go_sem];refine ybj (σ:=Nat) (fun k=>⟨[(3,.i .i64 k),(0,yx l)],[]⟩) (fun k=>(∀j:Nat,j<k->l.elem (j:Int)=true)/\mexP l=yth l (l.length+1-k) k) (fun k=>l.length+1-k) 0 ⟨fun j h=>absurd h (Nat.not_lt_zero _),rfl⟩ ?_ ?_
 ·refine yj [] [] [] ?_;simp only[yx,allQ,live,yg,zI,go_sem,↓reduceIte,reduceCtorEq]
 ·intro k ⟨hk,he⟩;have hb:=ybca hk;simp only[yctl,yctg,ycvp,yx,go_sem,zA,zB,↓reduceIte,reduceCtorEq];refine(ybba l k (by omega)).use ?_
  simp only[ybi,ybb,go_sem,zA,zB,↓reduceIte,reduceCtorEq];refine⟨fun h=>⟨ikw (by omega) (by omega),?_⟩,fun h=>?_⟩
  ·have hk2:∀j:Nat,j<k+1->l.elem (j:Int)=true:=fun j hj=>by
    by_cases q:j<k
    ·exact hk j q
    ·obtain rfl:j=k:=by omega
     exact h
   have hb2:=ybca hk2;refine yw (k+1) ⟨hk2,?_⟩ (by omega) ?_
   ·rw[he,show l.length+1-k=(l.length+1-(k+1))+1 by omega,ybla h];simp
   ·refine yj [] [] [] ?_;simp only[allQ,live,yg,ybb,go_sem,↓reduceIte,reduceCtorEq];simp
  ·rw[he,ybkh h]
theorem ybqn(x:Int):Returns zF 268 [.i .i64 x] (.b (x != 0)):=by
 refine Returns.of (yczv _ _ ?_);simp only[c268,ycjc,ycmn,yjn,go_sem,zA,zB,↓reduceIte,reduceCtorEq]
theorem ywp(l:List Int)(hl:l.length<=1000):Returns zF 267 [yx l,.fn 268 [] []] (.i .i64 (yef l)):=by
 refine Returns.of (ydbo _ _ ?_);simp only[c267,ycmi,ycxc,yx,go_sem,zB,↓reduceIte,reduceCtorEq];refine ybj (σ:=Nat) (fun k=>⟨[(8,.i .i64 k),(0,yx l),(1,.fn 268 [] []),(7,.i .i64 l.length)],[]⟩) (fun k=>k<=l.length/\(l.take k).findIdx? (· != 0)=none) (fun k=>l.length-k) 0 ⟨zL _,by simp⟩ ?_ ?_
 ·refine yj [] [] [] ?_;simp only[yx,allQ,live,yg,zI,go_sem,zA,↓reduceIte,reduceCtorEq]
 ·intro k ⟨hk,hno⟩;simp only[yctx,ycso,yclt,ycuh,ycnh,ycnw,yx,ybb,go_sem,zA,zB,↓reduceIte,reduceCtorEq];refine⟨fun hlt=>⟨by omega,(ybqn _).use ?_⟩,fun hlt=>?_⟩
  ·have hlt:k<l.length:=by omega
   simp only[ybi,ybb,go_sem,zA,zB,↓reduceIte,reduceCtorEq];rw[getD_at hlt];refine⟨fun ha=>?_,fun ha=>⟨ikw (by omega) (by omega),?_⟩⟩
   ·have:l.findIdx? (· != 0)=some k:=by
     rw[List.findIdx?_eq_some_iff_getElem];refine⟨hlt,by simpa using ha,fun j hj=>?_⟩
     rw[zU]at hno;have:=hno l[j] (List.mem_take_iff_getElem.2 ⟨j,by omega,rfl⟩)
     simpa using this
    unfold yef;rw[this]
   ·refine yw (k+1) ⟨by omega,?_⟩ (by omega) ?_
    ·rw[zD hlt,List.findIdx?_append,hno];simp[ha]
    ·refine yj [] [] [] ?_;simp only[allQ,live,yg,ybb,go_sem,zA,↓reduceIte,reduceCtorEq];simp
  ·obtain rfl:k=l.length:=by omega
   rw[List.take_length]at hno;unfold yef;rw[hno]
end Sh
end
section
namespace Sh
open Go Ev
theorem ybgg{l:List Int}{k:Nat}(h:k<l.length):ygq (l.take (k+1))=min (ygq (l.take k)) (l.getD k 0):=by
 unfold ygq;rw[zD h,zT,getD_at h];rfl
theorem yvy{l:List Int}{k:Nat}(h:k<l.length):(l.take (k+1)).sum=(l.take k).sum+l.getD k 0:=by
 rw[zD h,List.sum_append,getD_at h];simp
theorem ybra{l:List Int}(h:∀x∈l,InB x):∀k,k<=l.length -> -1073741824*(k:Int)<=(l.take k).sum/\(l.take k).sum<=1073741824*(k:Int)
 |0,_=>by simp
 | k+1,hk=>by
   have ih:=ybra h k (by omega)
   rw[yvy (by omega)]
   have:=h l[k] (zK (by omega))
   rw[<-getD_at (d:=0) (show k<l.length by omega)]at this
   unfold InB at this;omega
theorem ycbd(op:Int)(l:List Int)(hl:l.length<=24)(hb:∀x∈l,InB x):Returns zF 257 [.i .i64 op,yx l] (.i .i64 (yhm op l)):=by
 refine Returns.of (yczz _ _ ?_);have hin:∀k,k<l.length->InB (l.getD k 0):=fun k hk=>by rw[getD_at hk];exact hb _ (zK hk)
 obtain⟨L,hL⟩:∃L,yx l=L:=⟨_,rfl⟩;have hLs:L = .sl 1 l.length (fun k=>[.i .i64 (l.getD k 0)]):=hL.symm;simp only[c257,ycvf,ychv,ycio,yclq,ychu,ycqo,ycms,ycrg,ycrx,ycnp,ybrb,ybsm,ybtt,ybpk,ybzf,ybsp,ybzi,ybyw,ybzq,ybwd,ybxn,ybnk,ybpx,ybwc,ybuh,ybpf,ybyv,ybzm,ybvt,ybyq,ybpi,ybvp,ybul,ybzv,ybnt,ybrw,ybxi,yx,go_sem,Int.reduceToNat,zA,zB,↓reduceIte,reduceCtorEq];have hcount:=ybvc l (by omega)
 have htwo:=yrd l (by omega)
 simp only[yx]at hcount htwo;refine⟨fun h20=>hcount.use ?_,fun h20=>⟨fun h21=>hcount.use ?_,fun h21=>⟨fun h22=>hcount.use ?_,fun h22=>⟨fun h23=>?_,fun h23=>⟨fun h24=>?_,fun h24=>⟨fun h25=>htwo.use ?_,fun h25=>⟨fun h26=>?_,fun h26=>⟨fun h27=>?_,fun h27=>⟨fun h28=>htwo.use ?_,fun h28=>?_⟩⟩⟩⟩⟩⟩⟩⟩⟩
 ·simp only[ybi,go_sem,zA,zB,↓reduceIte,reduceCtorEq];refine(yee _).use ?_;simp only[ybb,go_sem];simp[yhm,h20]
 ·simp only[ybi,go_sem,zA,zB,↓reduceIte,reduceCtorEq];refine(yee _).use ?_;simp only[ybb,go_sem];simp[yhm,h21]
 ·simp only[ybi,ybb,go_sem,zA,zB,↓reduceIte,reduceCtorEq];simp[yhm,h22]
 ·have:=ywp l (by omega)
  simp only[yx]at this;refine this.use ?_;simp only[ybi,ybb,go_sem,zA,zB,↓reduceIte,reduceCtorEq];simp[yhm,h23]
 ·refine ybj (σ:=Nat) (fun k=>⟨[(42,.i .i64 k),(5,.i .i64 (ygq (l.take k))),(40,yx l),(41,.i .i64 l.length)],[]⟩) (fun k=>k<=l.length) (fun k=>l.length-k) 0 (zL _) ?_ ?_
  ·refine yj [] [] [] ?_;simp only[yx,allQ,live,yg,ybb,zI,go_sem,zA,↓reduceIte,reduceCtorEq];simp[ygq]
  ·intro k hk;simp only[yx,ybb,go_sem,zA,zB,↓reduceIte,reduceCtorEq];refine⟨fun hlt=>⟨by omega,ikw (by omega) (by omega),?_⟩,fun hlt=>?_⟩
   ·have hk':k<l.length:=by omega
    refine yw (k+1) (by omega) (by omega) ?_
    refine yj [] [] [] ?_;simp only[ybgg hk',allQ,live,yg,ybb,go_sem,zA,↓reduceIte,reduceCtorEq];simp
   ·rw[zJ (by omega)]
    simp[yhm,h24]
 ·simp only[ybi,ybb,go_sem,zA,zB,↓reduceIte,reduceCtorEq];simp[yhm,h25]
 ·refine ybj (σ:=Nat) (fun k=>⟨[(63,.i .i64 k),(10,.i .i64 (l.take k).sum),(61,yx l),(62,.i .i64 l.length)],[]⟩) (fun k=>k<=l.length) (fun k=>l.length-k) 0 (zL _) ?_ ?_
  ·refine yj [] [] [] ?_;simp only[yx,allQ,live,yg,ybb,zI,go_sem,zA,↓reduceIte,reduceCtorEq];simp
  ·intro k hk;simp only[yx,go_sem,zA,zB,↓reduceIte,reduceCtorEq];have hs:=ybra hb k hk;refine⟨fun hlt=>?_,fun hlt=>(ydt _).use ?_⟩
   ·have hk':k<l.length:=by omega
    have hs2:=ybra hb (k+1) hk';rw[yvy hk']at hs2;refine⟨by omega,ikw (by omega) (by omega),ikw (by omega) (by omega),?_⟩
    refine yw (k+1) (by omega) (by omega) ?_
    refine yj [] [] [] ?_;simp only[yvy hk',allQ,live,yg,ybb,go_sem,zA,↓reduceIte,reduceCtorEq];simp
   ·simp only[ybi,ybb,go_sem,zA,zB,↓reduceIte,reduceCtorEq];rw[zJ (by omega)]
    simp[yhm,h26]
 ·have:=ydbk l (by omega)
  simp only[yx]at this;refine this.use ?_;simp only[ybi,ybb,go_sem,zA,zB,↓reduceIte,reduceCtorEq];simp[yhm,h27]
 ·simp only[ybi,ybb,go_sem,zA,zB,↓reduceIte,reduceCtorEq];simp[yhm,h28]
 ·refine⟨fun h0=>?_,fun h0=>⟨by omega,?_⟩⟩
  ·simp only[ybb,go_sem];have:l=[]:=zO (by omega)
   simp[yhm,h20,h21,h22,h23,h24,h25,h26,h27,h28,this]
  ·cases l with
   |nil=>simp at h0
   | cons x l=>
     simp only[ybb,go_sem];simp[yhm,h20,h21,h22,h23,h24,h25,h26,h27,h28]
end Sh
end
end Go.Proofs.YtiejahgklcjhkaaGreatDoor
