/- Joined. -/
import Derived.Test.YthclbjjgfcgbgaaGreatDoorPkCm17
set_option linter.unusedSimpArgs false
set_option linter.unusedVariables false
set_option maxRecDepth 8000
open Nat renaming reduceEqDiff->zA,reduceAdd->zB,reduceLT->zC,reduceLeDiff->zF,zero_le->zI,reduceBEq->zK,le_mul_of_pos_left->zM,mul_le_mul_left->zS,reduceMul->zT,le_trans->zV,sub_self->zAA,mul_assoc->zAD,sub_zero->zAG,le_mul_of_pos_right->zAH,le_refl->zAI,div_le_self->zAR,not_lt_zero->zAT
open And renaming intro->zD
open List renaming mem_cons_self->zG,getD->zJ,take_succ_eq_append_getElem->zO,take_append_drop->zU,getElem_mem->zW,not_mem_nil->zX,mem_cons_of_mem->zY,getElem?_eq_getElem->zZ,drop_length->zAB,range->zAJ,mem_of_mem_drop->zAK,mem_of_mem_take->zAL,getElem_of_mem->zAM,take_length->zAP
open Go.Proofs.Tryz renaming prog->zH
open Int renaming natCast_zero->zL,reduceToNat->zN,mul_le_mul_of_nonneg_right->zAC,lt_irrefl->zAE,reduceBNe->zAF,natCast_mul->zAS,reduceNeg->zAU,reduceGE->zAV
open Bool renaming and_eq_true->zQ,false_eq_true->zAN,false_ne_true->zAO
open Option renaming getD_some->zAQ
open Go
namespace Go.Proofs.YthclbjjgfcgbgaaGreatDoor
section
def tabT(n:Nat)(vars:List VarR)(b:Nat->VarR->Int×Int):List (List (Int×Int)):=(zAJ n).map fun v=>vars.map (b v)
theorem yhb(n:Nat)(vars:List VarR)(b:Nat->VarR->Int×Int):(tabT n vars b).length=n:=by simp[tabT]
theorem ybjq{n:Nat}{vars:List VarR}{b:Nat->VarR->Int×Int}{v:Nat}(hv:v<n):(tabT n vars b).getD v []=vars.map (b v):=by simp[tabT,zJ,hv]
structure TabOk(T:List (List (Int×Int))):Prop where
 bd:bdT T
 sm:∀r∈T,∀b∈r,-1000000<=b.1/\b.2<=1000000
 len:T.length<=24
 row:∀r∈T,0<r.length/\r.length<=6
 tot:ybl T<=32768
theorem yie:∀(a b:List (Int×Int)),ybq (a++b)=ybq a*ybq b
 |[],b=>by simp[ybq]
 | x::a,b=>by
   show szP x*ybq (a++b)=szP x*ybq a*ybq b;rw[yie a b,zAD]
theorem ygo:∀(a b:List (List (Int×Int))),ybl (a++b)=ybl a*ybl b
 |[],b=>by simp[ybl]
 | x::a,b=>by
   show ybq x*ybl (a++b)=ybq x*ybl a*ybl b;rw[ygo a b,zAD]
def pTo(T:List (List (Int×Int)))(v i:Nat):Nat:=ybl (T.take v)*ybq ((T.getD v []).take i)
section
variable {T:List (List (Int×Int))}{v i:Nat}
theorem yhu{α:Type}{l:List α}{k:Nat}{d:α}(h:k<l.length):l.getD k d=l[k]:=by simp[zJ,h]
theorem ycgn:pTo T 0 0=1:=by simp[pTo,ybl,ybq]
theorem ycke(hi:i<(T.getD v []).length):pTo T v (i+1)=pTo T v i*szP ((T.getD v []).getD i (0,0)):=by
 unfold pTo;rw[zO hi,yie,yhu hi,zAD];simp[ybq]
theorem ycjp(hv:v<T.length):pTo T v (T.getD v []).length=pTo T (v+1) 0:=by
 unfold pTo;rw[zAP,zO hv,ygo,yhu hv];simp[ybl,ybq]
theorem yddv:pTo T T.length 0=ybl T:=by simp[pTo,ybq]
theorem ybza(h:bdT T):bdR (T.getD v []):=by
 by_cases hv:v<T.length
 .rw[yhu hv];exact h _ (zW _)
 .rw[zJ,List.getElem?_eq_none (by omega)];exact fun _ h=>nomatch h
theorem ybrh(h:bdR (T.getD v []))(i:Nat):ybq ((T.getD v []).take i)<=ybq (T.getD v []):=by
 conv=>rhs;rw[<-zU i (T.getD v []),yie]
 exact zAH _ (ykr fun b hb=>h b (zAK hb))
theorem ydmd(h:bdT T)(hv:v<T.length)(i:Nat):pTo T v i<=ybl T:=by
 have h1:pTo T v i<=ybl (T.take (v+1)):=by
  rw[zO hv,ygo];unfold pTo;have:=ybrh (T:=T) (v:=v) (ybza h) i;rw[yhu hv]at this ⊢;have e:ybl [T[v]]=ybq T[v]:=by simp[ybl]
  rw[e];exact zS _ this
 refine zV h1 ?_
 conv=>rhs;rw[<-zU (v+1) T,ygo]
 exact zAH _ (ynt fun b hb=>h b (zAK hb))
theorem TabOk.at_(h:TabOk T)(hv:v<T.length):(0<(T.getD v []).length/\(T.getD v []).length<=6)/\∀i,i<(T.getD v []).length->((T.getD v []).getD i (0,0)).1<=((T.getD v []).getD i (0,0)).2 /\ -1000000<=((T.getD v []).getD i (0,0)).1/\((T.getD v []).getD i (0,0)).2<=1000000:=by
 have e:=yhu (d:=[]) hv;have hm:T.getD v []∈T:=by rw[e];exact zW _
 refine⟨h.row _ hm,fun i hi=>?_⟩;have hb:(T.getD v []).getD i (0,0)∈T.getD v []:=by rw[yhu hi];exact zW _
 exact⟨h.bd _ hm _ hb,h.sm _ hm _ hb⟩
end
theorem ymo:∀{bs:List (Int×Int)}{xs:List Int},inR bs xs↔xs.length=bs.length/\∀i,i<bs.length->(bs.getD i (0,0)).1<=xs.getD i 0/\xs.getD i 0<=(bs.getD i (0,0)).2
 |[],[]=>⟨fun _=>⟨rfl,fun i h=>by simp at h⟩,fun _=>trivial⟩
 |[],_::_=>⟨fun h=>h.elim,fun h=>by simp at h⟩
 |_::_,[]=>⟨fun h=>h.elim,fun h=>by simp at h⟩
 | b :: bs,x::xs=>by
   show(_/\inR bs xs)↔_;rw[ymo];constructor
   .rintro⟨h1,h2,h3⟩;refine⟨by simp[h2],fun i hi=>?_⟩
    cases i with
    |zero=>exact h1
    |succ i=>exact h3 i (by simpa using hi)
   .rintro⟨h1,h2⟩;exact⟨h2 0 (by simp),by simpa using h1,fun i hi=>h2 (i+1) (by simpa using hi)⟩
theorem yke:∀{rs:List (List (Int×Int))}{c:Conf},inT rs c↔c.length=rs.length/\∀v,v<rs.length->inR (rs.getD v []) (c.getD v [])
 |[],[]=>⟨fun _=>⟨rfl,fun i h=>by simp at h⟩,fun _=>trivial⟩
 |[],_::_=>⟨fun h=>h.elim,fun h=>by simp at h⟩
 |_::_,[]=>⟨fun h=>h.elim,fun h=>by simp at h⟩
 | b :: bs,x::xs=>by
   show(_/\inT bs xs)↔_;rw[yke];constructor
   .rintro⟨h1,h2,h3⟩;refine⟨by simp[h2],fun i hi=>?_⟩
    cases i with
    |zero=>exact h1
    |succ i=>exact h3 i (by simpa using hi)
   .rintro⟨h1,h2⟩;exact⟨h2 0 (by simp),by simpa using h1,fun i hi=>h2 (i+1) (by simpa using hi)⟩
def tabP(p:ProgT)(g:Gr):List (List (Int×Int)):=tabT g.ids.length p.vars (ybm g)
theorem yih{p:ProgT}{g:Gr}{c:Conf}:yfs p g c=true↔inT (tabP p g) c:=by
 unfold yfs;rw[yft,yke];unfold tabP;rw[yhb];refine and_congr_right fun hl=>⟨fun h v hv=>?_,fun h v st hst=>?_⟩
 .rw[ybjq hv];obtain⟨h1,h2⟩:=h v (c.getD v []) (by rw[yhu (by omega)];exact zZ (by omega))
  refine ymo.2 ⟨h1,fun i hi=>?_⟩;have h1:(c.getD v []).length=(p.vars.map (ybm g v)).length:=h1;have hi':i<(c.getD v []).length:=by omega
  exact h2 i _ _ (by rw[yhu hi];exact zZ hi) (by rw[yhu hi'];exact zZ hi')
 .have hv:v<g.ids.length:=by have:=(List.getElem?_eq_some_iff.1 hst).1;omega
  have h1:=h v hv;rw[ybjq hv,show c.getD v []=st by simp[zJ,hst]]at h1
  obtain⟨h2,h3⟩:=ymo.1 h1;refine⟨h2,fun i b x hb hx=>?_⟩;have hi:=(List.getElem?_eq_some_iff.1 hb).1;have h4:=h3 i hi;rw[show(p.vars.map (ybm g v)).getD i (0,0)=b by simp only[zJ,hb,zAQ],show st.getD i 0=x by simp only[zJ,hx,zAQ]]at h4
  exact h4
end
section
theorem ybiv:∀(bs:List (Int×Int)) (k:Nat),(unR bs k).1.length=bs.length
 |[],_=>rfl
 |b::bs,k=>by show(unR bs k).1.length+1=_;rw[ybiv bs k];rfl
theorem ycad:∀(rs:List (List (Int×Int))) (k:Nat),(unT rs k).1.length=rs.length
 |[],_=>rfl
 |r::rs,k=>by show(unT rs k).1.length+1=_;rw[ycad rs k];rfl
theorem ycdt:∀(rs:List (List (Int×Int))) (k v:Nat),v<rs.length->((unT rs k).1.getD v []).length=(rs.getD v []).length
 |[],_,_,h=>by simp at h
 |r::rs,k,0,_=>ybiv r _
 |r::rs,k,v+1,h=>ycdt rs k v (by simpa using h)
def rowU(bs:List (Int×Int))(k x t:Nat):Int:=if t<bs.length-x then(bs.getD t (0,0)).1 else(unR (bs.drop (bs.length-x)) k).1.getD (t-(bs.length-x)) 0
def kU(bs:List (Int×Int))(k x:Nat):Nat:=(unR (bs.drop (bs.length-x)) k).2
theorem ydcr(bs:List (Int×Int))(k:Nat):kU bs k 0=k:=by unfold kU;rw[zAG,zAB];rfl
theorem ydru(bs:List (Int×Int))(k:Nat):kU bs k bs.length=(unR bs k).2:=by unfold kU;rw[zAA];rfl
theorem ybwv(bs:List (Int×Int))(k:Nat){t:Nat}(ht:t<bs.length):rowU bs k 0 t=(bs.getD t (0,0)).1:=by unfold rowU;rw[if_pos (by omega)]
theorem yckj(bs:List (Int×Int))(k t:Nat):rowU bs k bs.length t=(unR bs k).1.getD t 0:=by unfold rowU;rw[if_neg (by omega),zAA];rfl
section
variable {bs:List (Int×Int)}{k x i:Nat}
theorem drop_at{α:Type}{l:List α}{i:Nat}(d:α)(hi:i<l.length):l.drop i=l.getD i d::l.drop (i+1):=by rw[List.drop_eq_getElem_cons hi,yhu hi]
theorem ybwo(hx:x<bs.length)(hi:i=bs.length-1-x):unR (bs.drop (bs.length-(x+1))) k=(((bs.getD i (0,0)).1+((kU bs k x%szP (bs.getD i (0,0)):Nat):Int))::(unR (bs.drop (bs.length-x)) k).1,kU bs k x/szP (bs.getD i (0,0))):=by
 have e1:bs.length-(x+1)=i:=by omega
 have e2:bs.length-x=i+1:=by omega
 unfold kU;rw[e1,e2,drop_at (0,0) (show i<bs.length by omega)]
 rfl
theorem ydfi(hx:x<bs.length)(hi:i=bs.length-1-x):kU bs k (x+1)=kU bs k x/szP (bs.getD i (0,0)):=by
 show(unR _ k).2=_;rw[ybwo hx hi]
theorem ycbz(hx:x<bs.length)(hi:i=bs.length-1-x)(t:Nat):rowU bs k (x+1) t=if t=i then(bs.getD i (0,0)).1+((kU bs k x%szP (bs.getD i (0,0)):Nat):Int)else rowU bs k x t:=by
 unfold rowU
 by_cases e:t=i
 .rw[if_pos e,if_neg (by omega),ybwo hx hi,show t-(bs.length-(x+1))=0 by omega]
  rfl
 .rw[if_neg e]
  by_cases q:t<i
  .rw[if_pos (by omega),if_pos (by omega)]
  .rw[if_neg (by omega),if_neg (by omega),ybwo hx hi,show t-(bs.length-(x+1))=(t-(bs.length-x))+1 by omega]
   rfl
theorem ycfn(hx:x<bs.length)(hi:i=bs.length-1-x):rowU bs k x i=(bs.getD i (0,0)).1:=by unfold rowU;rw[if_pos (by omega)]
end
def lowT(T:List (List (Int×Int)))(v:Nat):List Int:=(T.getD v []).map (·.1)
theorem yzj(T:List (List (Int×Int)))(v:Nat):(lowT T v).length=(T.getD v []).length:=by simp[lowT]
theorem ydez{T:List (List (Int×Int))}{v t:Nat}(ht:t<(T.getD v []).length):(lowT T v).getD t 0=((T.getD v []).getD t (0,0)).1:=by
 unfold lowT;rw[yhu (by simpa using ht),yhu ht];simp
theorem yvg{T:List (List (Int×Int))}{v:Nat}(hv:v<T.length):(ynu T).getD v []=lowT T v:=by
 unfold ynu lowT;rw[yhu (by simpa using hv),yhu hv];simp
def cU(T:List (List (Int×Int)))(k q j:Nat):List Int:=if j<T.length-q then lowT T j else(unT (T.drop (T.length-q)) k).1.getD (j-(T.length-q)) []
def kT(T:List (List (Int×Int)))(k q:Nat):Nat:=(unT (T.drop (T.length-q)) k).2
theorem ydju(T:List (List (Int×Int)))(k:Nat):kT T k 0=k:=by unfold kT;rw[zAG,zAB];rfl
theorem ybzi(T:List (List (Int×Int)))(k:Nat){j:Nat}(hj:j<T.length):cU T k 0 j=lowT T j:=by unfold cU;rw[if_pos (by omega)]
theorem ydyo(T:List (List (Int×Int)))(k j:Nat):cU T k T.length j=(unT T k).1.getD j []:=by unfold cU;rw[if_neg (by omega),zAA];rfl
section
variable {T:List (List (Int×Int))}{k q v:Nat}
theorem ybyv(hq:q<T.length)(hv:v=T.length-1-q):unT (T.drop (T.length-(q+1))) k=((unR (T.getD v []) (kT T k q)).1::(unT (T.drop (T.length-q)) k).1,(unR (T.getD v []) (kT T k q)).2):=by
 have e1:T.length-(q+1)=v:=by omega
 have e2:T.length-q=v+1:=by omega
 unfold kT;rw[e1,e2,drop_at [] (show v<T.length by omega)]
 rfl
theorem ydeg(hq:q<T.length)(hv:v=T.length-1-q):kT T k (q+1)=(unR (T.getD v []) (kT T k q)).2:=by
 show(unT _ k).2=_;rw[ybyv hq hv]
theorem ydib(hq:q<T.length)(hv:v=T.length-1-q)(j:Nat):cU T k (q+1) j=if j=v then(unR (T.getD v []) (kT T k q)).1 else cU T k q j:=by
 unfold cU
 by_cases e:j=v
 .rw[if_pos e,if_neg (by omega),ybyv hq hv,show j-(T.length-(q+1))=0 by omega]
  rfl
 .rw[if_neg e]
  by_cases w:j<v
  .rw[if_pos (by omega),if_pos (by omega)]
  .rw[if_neg (by omega),if_neg (by omega),ybyv hq hv,show j-(T.length-(q+1))=(j-(T.length-q))+1 by omega]
   rfl
theorem ydmc(hq:q<T.length)(hv:v=T.length-1-q):cU T k q v=lowT T v:=by unfold cU;rw[if_pos (by omega)]
theorem ydkw(hq:q<=T.length){j:Nat}(hj:j<T.length):(cU T k q j).length=(T.getD j []).length:=by
 unfold cU;split
 .exact yzj T j
 .rename_i w
  have h1:=ycdt (T.drop (T.length-q)) k (j-(T.length-q)) (by rw[List.length_drop];omega)
  rw[h1];congr 1;simp only[zJ,List.getElem?_drop];rw[show T.length-q+(j-(T.length-q))=j by omega]
theorem ydem:∀(bs:List (Int×Int)) (k:Nat),(unR bs k).2<=k
 |[],_=>zAI _
 |b::bs,k=>zV (zAR _ _) (ydem bs k)
theorem ydnn:∀(rs:List (List (Int×Int))) (k:Nat),(unT rs k).2<=k
 |[],_=>zAI _
 |r::rs,k=>zV (ydem r _) (ydnn rs k)
end
def ybpl(bs:List (Int×Int))(xs:List Int)(i:Nat):Prop:=∀t,i<=t->t<bs.length->¬xs.getD t 0<(bs.getD t (0,0)).2
def ybym(T:List (List (Int×Int)))(c:Conf)(v:Nat):Prop:=∀j,v<=j->j<T.length->ybpl (T.getD j []) (c.getD j []) 0
theorem yuo:∀{bs:List (Int×Int)}{xs:List Int},xs.length=bs.length->ybpl bs xs 0->advR bs xs=(bs.map (·.1),false)
 |[],[],_,_=>rfl
 |[],_::_,h,_=>by simp at h
 |_::_,[],h,_=>by simp at h
 | b::bs,x::xs,h,hf=>by
   have ih:=yuo (bs:=bs) (xs:=xs) (by simpa using h) fun t _ ht=>hf (t+1) (by omega) (by simpa using ht)
   have h0:¬x<b.2:=hf 0 (by omega) (by simp)
   unfold advR;rw[ih];simp[h0]
theorem yyh:∀{bs:List (Int×Int)}{xs:List Int}{i:Nat},xs.length=bs.length->i<bs.length->ybpl bs xs (i+1)->xs.getD i 0<(bs.getD i (0,0)).2 ->
 (advR bs xs).2=true/\(advR bs xs).1.length=bs.length/\∀t,t<bs.length->(advR bs xs).1.getD t 0=if t<i then xs.getD t 0 else if t=i then xs.getD i 0+1 else(bs.getD t (0,0)).1
 |[],_,i,_,h,_,_=>by simp at h
 |_::_,[],_,h,_,_,_=>by simp at h
 | b :: bs,x::xs,0,h,_,hf,hx=>by
   have hl:xs.length=bs.length:=by simpa using h
   have ih:=yuo hl fun t _ ht=>hf (t+1) (by omega) (by simpa using ht)
   have h0:x<b.2:=hx;unfold advR;rw[ih];simp only[zAN,if_false,if_pos h0];refine⟨trivial,by simp,fun t ht=>?_⟩
   cases t with
   |zero=>rfl
   | succ t =>
     rw[if_neg (by omega),if_neg (by omega)]
     show(bs.map (·.1)).getD t 0=(bs.getD t (0,0)).1;rw[yhu (by simpa using ht),yhu (by simpa using ht)];simp
 | b :: bs,x::xs,i+1,h,hi,hf,hx=>by
   have hl:xs.length=bs.length:=by simpa using h
   obtain⟨h1,h2,h3⟩:=yyh (i:=i) hl (by simpa using hi) (fun t h1 ht=>hf (t+1) (by omega) (by simpa using ht)) hx
   unfold advR;rw[h1];simp only[if_true];refine⟨trivial,by simp[h2],fun t ht=>?_⟩
   cases t with
   |zero=>rw[if_pos (by omega)];rfl
   | succ t =>
     have h4:=h3 t (by simpa using ht)
     show(advR bs xs).1.getD t 0=_;rw[h4]
     by_cases q:t<i
     .rw[if_pos q,if_pos (by omega)];rfl
     .by_cases q2:t=i
      .rw[if_neg q,if_pos q2,if_neg (by omega),if_pos (by omega)];rfl
      .rw[if_neg q,if_neg q2,if_neg (by omega),if_neg (by omega)];rfl
theorem yuv:∀{T:List (List (Int×Int))}{c:Conf},c.length=T.length->(∀j,j<T.length->(c.getD j []).length=(T.getD j []).length)->ybym T c 0->advT T c=(ynu T,false)
 |[],[],_,_,_=>rfl
 |[],_::_,h,_,_=>by simp at h
 |_::_,[],h,_,_=>by simp at h
 | b::bs,x::xs,h,hr,hf=>by
   have ih:=yuv (T:=bs) (c:=xs) (by simpa using h) (fun j hj=>hr (j+1) (by simpa using hj)) fun t _ ht=>hf (t+1) (by omega) (by simpa using ht)
   have h0:=yuo (bs:=b) (xs:=x) (hr 0 (by simp)) (hf 0 (by omega) (by simp))
   unfold advT;rw[ih,h0];simp[ynu]
theorem yxx:∀{T:List (List (Int×Int))}{c:Conf}{v:Nat},c.length=T.length->(∀j,j<T.length->(c.getD j []).length=(T.getD j []).length)->v<T.length->ybym T c (v+1)->(advR (T.getD v []) (c.getD v [])).2=true ->
 (advT T c).2=true/\(advT T c).1.length=T.length/\∀j,j<T.length->(advT T c).1.getD j []=if j<v then c.getD j []else if j=v then(advR (T.getD v []) (c.getD v [])).1 else lowT T j
 |[],_,i,_,_,h,_,_=>by simp at h
 |_::_,[],_,h,_,_,_,_=>by simp at h
 | b :: bs,x::xs,0,h,hr,_,hf,hx=>by
   have hl:xs.length=bs.length:=by simpa using h
   have ih:=yuv hl (fun j hj=>hr (j+1) (by simpa using hj)) fun t _ ht=>hf (t+1) (by omega) (by simpa using ht)
   have h0:(advR b x).2=true:=hx;unfold advT;rw[ih];simp only[zAN,if_false];refine⟨h0,by simp[ynu],fun t ht=>?_⟩
   cases t with
   |zero=>rfl
   | succ t =>
     rw[if_neg (by omega),if_neg (by omega)]
     exact yvg (T:=bs) (by simpa using ht)
 | b :: bs,x::xs,i+1,h,hr,hi,hf,hx=>by
   have hl:xs.length=bs.length:=by simpa using h
   obtain⟨h1,h2,h3⟩:=yxx (v:=i) hl (fun j hj=>hr (j+1) (by simpa using hj)) (by simpa using hi) (fun t h1 ht=>hf (t+1) (by omega) (by simpa using ht)) hx
   unfold advT;rw[h1];simp only[if_true];refine⟨trivial,by simp[h2],fun t ht=>?_⟩
   cases t with
   |zero=>rw[if_pos (by omega)];rfl
   | succ t =>
     have h4:=h3 t (by simpa using ht)
     show(advT bs xs).1.getD t []=_;rw[h4]
     by_cases q:t<i
     .rw[if_pos q,if_pos (by omega)];rfl
     .by_cases q2:t=i
      .rw[if_neg q,if_pos q2,if_neg (by omega),if_pos (by omega)];rfl
      .rw[if_neg q,if_neg q2,if_neg (by omega),if_neg (by omega)];rfl
end
section
namespace Sh
open Ev Go.RowKit
theorem ybrt(n:Nat)(vars:List VarR)(b:Nat->VarR->Int×Int):Sim (ywk n vars b) (yu (tabT n vars b)):=by
 unfold ywk yu;rw[yhb];refine ydp fun v hv=>⟨⟨?_,trivial⟩,rfl⟩;rw[ybjq hv];unfold ybb;rw[List.length_map];refine ybce fun i hi=>?_
 have e:(vars.map (b v)).getD i (0,0)=b v (vars.getD i default):=by
  rw[yhu (by simpa using hi),yhu hi];simp
 rw[e]
theorem yld{Q1 Q2:(Nat->Option ABlk)->Value->Prop}{p:ProgT}{g:Gr}(h:Checked Q1 Q2 p g):Returns zH 63 [.ag (yfj Q1 Q2 p.raw),grV g] (yu (tabP p g)):=by
 have hp':=h.hp;unfold ProgT.ok at hp';simp only[zQ,decide_eq_true_eq]at hp';have hT:=ybbl p.raw h.hg hp'.1.1.2 hp'.1.1.1.2;exact Returns.of ((hT.use (ybrt _ _ _)).simL ⟨ybeh _ _ _,Sim.refl _,trivial⟩)
theorem yyk{T:List (List (Int×Int))}(h:TabOk T):Returns zH 64 [yu T] (.tp [.i .i64 (ybl T:Nat),.i .i64 0]):=by
 refine Returns.of (ydmm _ _ ?_);have hlen:=h.len;have htot:=h.tot;simp only[c64,yduy,ydrn,ydrw,yu,clash,go_sem,zB,↓reduceIte,reduceCtorEq];refine ybf (σ:=Nat) (fun v=>⟨[(11,.i .i64 v),(10,.i .i64 (T.length:Nat)),(9,yu T),(4,.i .i64 (pTo T v 0:Nat))],[]⟩) (fun v=>v<=T.length) (fun v=>T.length-v) 0 (zI _) ?_ ?_
 .refine yh [] [] [] ?_;simp only[yu,ycgn,allQ,live,yc,yx,zL,go_sem,zA,↓reduceIte,reduceCtorEq];rfl
 .intro v hv
  by_cases hlt:v<T.length
  .have d1:=dec_lt hlt;obtain⟨hr,hb⟩:=h.at_ hlt;have hpl:=fun i=>ydmd h.bd hlt i;have hps:=fun i=>ycke (T:=T) (v:=v) (i:=i);have hpn:=ycjp hlt;obtain⟨row,hrow⟩:∃r,T.getD v []=r:=⟨_,rfl⟩;rw[hrow]at hr hb hps hpn;simp only[ydey,ydyl,ydrv,yu,ybb,d1,hrow,clash,go_sem,zA,zB,↓reduceIte,reduceCtorEq]
   repeat refine zD (by first|omega|decide|exact ikw (by omega) (by omega)) ?_
   refine ybf (σ:=Nat) (fun i=>⟨[(17,.i .i64 i),(16,.i .i64 (row.length:Nat)),(15,ybb row),(11,.i .i64 v),(10,.i .i64 (T.length:Nat)),(9,yu T),(4,.i .i64 (pTo T v i:Nat))],[]⟩) (fun i=>i<=row.length) (fun i=>row.length-i) 0 (zI _) ?_ ?_
   .refine yh [] [] [] ?_;simp only[yu,ybb,allQ,live,yc,zL,go_sem,zA,↓reduceIte,reduceCtorEq]
   .intro i hi
    by_cases hlt2:i<row.length
    .have d2:=dec_lt hlt2;obtain⟨b1,b2,b3⟩:=hb i hlt2;have hq:=hpl (i+1);have hq0:=hpl i;have hs:=hps i hlt2;obtain⟨⟨lo,hi'⟩,hbe⟩:∃b,row.getD i (0,0)=b:=⟨_,rfl⟩;rw[hbe]at b1 b2 b3 hs;simp only at b1 b2 b3;have hsz:=(yol (b:=(lo,hi')) b1).2;simp only at hsz;have hm:((pTo T v i:Nat):Int)*(hi'-lo+1)=((pTo T v (i+1):Nat):Int):=by rw[hs,zAS,hsz]
     have d3:decide (((pTo T v (i+1):Nat):Int)>32768)=false:=by simp;omega
     simp only[ydkb,ydvz,ydwk,ydpx,ycqh,yu,ybb,d2,hbe,hm,d3,splice,clash,go_sem,zN,zA,zB,zF,zC,zT,↓reduceIte,reduceCtorEq]
     repeat refine zD (by first|omega|decide|exact ikw (by omega) (by omega)) ?_
     refine yj (i+1) hlt2 (by omega) ?_
     refine yh [] [] [] ?_;simp only[allQ,live,yc,yx,go_sem,zA,↓reduceIte,reduceCtorEq];omega
    .obtain rfl:i=row.length:=by omega
     simp only[ydkb,ydam,yu,ybb,zAE,clash,go_sem,zA,zB,↓reduceIte,reduceCtorEq]
     repeat refine zD (by first|omega|decide|exact ikw (by omega) (by omega)) ?_
     refine yj (v+1) hlt (by omega) ?_
     refine yh [] [] [] ?_;simp only[hpn,allQ,live,yc,yx,go_sem,zA,↓reduceIte,reduceCtorEq];omega
  .obtain rfl:v=T.length:=by omega
   simp only[ydey,ycvg,zAE,yddv,go_sem,zA,zB,↓reduceIte,reduceCtorEq];exact Sim.refl _
theorem ybvs{Q1 Q2:(Nat->Option ABlk)->Value->Prop}{p:ProgT}{g:Gr}(h:Checked Q1 Q2 p g)(hT:TabOk (tabP p g)):Returns zH 56 [.ag (yfj Q1 Q2 p.raw),grV g] (.tp [.i .i64 (ybl (tabP p g):Nat),.i .i64 0]):=by
 refine Returns.of (ydqt _ _ ?_);have hF:=ybbe p h.hg h.hp h.hf h.hV h.gv;have hTb:=yld h;have hC:=yyk hT;simp only[yfj,grV]at hF hTb;simp only[c56,ydoi,ydvr,yfj,grV,clash,go_sem,zA,zB,zC,↓reduceIte,reduceCtorEq];refine hF.use ?_;simp only[ybh,ydtf,ydul,clash,zAF,go_sem,zA,zB,↓reduceIte,reduceCtorEq];refine hTb.use ?_;simp only[go_sem,↓reduceIte];refine hC.use ?_;simp only[go_sem,↓reduceIte];exact Sim.refl _
theorem ygc{ρ:List (Nat×(Nat->Nm))}{O1 O:Own}{β:Nm}{p n:Nat}{ap:Bool}{X:List SV}(hl:live O β=true)(hX:X=[.os (rid ρ β) p n ap]):telL (rid ρ) [] [] O1 O X [.os β p n ap]:=by
 subst hX;refine⟨.inl ⟨(yhn _ _ _).2 trivial,by rw[yec];exact Sim.refl _,?_⟩,rfl,trivial⟩
 show(live O β && !(List.elem β.1 []))=true;rw[hl];rfl
theorem yib{h:Nm->Nm}{O1 O:Own}{X:List SV}(hX:X=[.a (.slice none 0 0)]):telL h [] [] O1 O X [.a (.slice none 0 0)]:=by
 subst hX;exact⟨.inl ⟨(yhn _ _ _).2 trivial,by rw[yec];exact Sim.refl _,rfl⟩,rfl,trivial⟩
def intO(l:List Int):OB:=⟨3,false,1,l.length,fun i=>[.i .i64 (l.getD i 0)]⟩
theorem ycf{l:List Int}{c:OB}{h:Nm->Nm}{O1 O2:Own}(hc:(c.e=3/\c.bx=false/\c.z=1/\c.n=l.length)/\∀i,i<l.length->c.g i=[.i .i64 (l.getD i 0)]) :
 (c.e=(intO l).e/\c.bx=(intO l).bx/\c.z=(intO l).z/\c.n=(intO l).n)/\(mapE (intO l).e=true->∀i,c.g i=(intO l).g i)/\∀i,i<(intO l).n->telL h [] [] O1 O2 (c.g i) ((intO l).g i) :=
 ⟨hc.1,fun q=>absurd (show false=true from q) zAO,fun i hi=>yfn (hc.2 i hi)⟩
theorem ycl(l:List Int):((intO l).e=3/\(intO l).bx=false/\(intO l).z=1/\(intO l).n=l.length)/\∀i,i<l.length->(intO l).g i=[.i .i64 (l.getD i 0)]:=⟨⟨rfl,rfl,rfl,rfl⟩,fun _ _=>rfl⟩
theorem yct{i n:Nat}{x b:OB}(h:(if i<n then some x else none)=some b):i<n/\b=x:=by
 split at h
 .cases h;exact⟨by assumption,rfl⟩
 .cases h
def ycq(n:Nat)(w:Nat->List Int):Fam:=.many fun v=>if v<n then some (intO (w v))else none
def ybu(F G n:Nat)(w:Nat->List Int):Own:=[(F,.one (some ⟨22,false,1,n,fun v=>[.os (G,v) 0 (w v).length true]⟩)),(G,ycq n w)]
theorem ychm{ρ:List (Nat×(Nat->Nm))}{G n v:Nat}{w:Nat->List Int}{O1 O:Own}{X:List SV}(hv:v<n)(hO:lookO O (G,v)=if v<n then some (intO (w v))else none)(hX:X=[.os (rid ρ (G,v)) 0 (w v).length true]):telL (rid ρ) [] [] O1 O X [.os (G,v) 0 (w v).length true] :=
 ygc (by unfold live;rw[hO,if_pos hv];rfl) hX
theorem yjn{l:List Int}{p:Nm->Bool}:∀i,i<(intO l).n->((intO l).g i).all (cln p 5)=true:=fun _ _=>rfl
theorem yds{h:Nm->Nm}{O1 O2:Own}{n i:Nat}{w:Nat->List Int}{b:OB}(hb:(if i<n then some (intO (w i))else none)=some b):∃c,(if i<n then some (intO (w i))else none)=some c/\(c.e=b.e/\c.bx=b.bx/\c.z=b.z/\c.n=b.n)/\(mapE b.e=true->∀i,c.g i=b.g i)/\∀i,i<b.n->telL h [] [] O1 O2 (c.g i) (b.g i):=by
 obtain⟨hi,rfl⟩:=yct hb;exact⟨_,if_pos hi,ycf (ycl _)⟩
theorem yjb{h h':Nm->Nm}{O1 O2:Own}{n i:Nat}{w:Nat->List Int}{b:OB}(hb:(if i<n then some (intO (w i))else none)=some b):∃c,(match (if i<n then some (intO (w i))else none)with|some b=>some (OB.ren h' b)|none=>none)=some c/\(c.e=b.e/\c.bx=b.bx/\c.z=b.z/\c.n=b.n)/\(mapE b.e=true->∀i,c.g i=b.g i)/\∀i,i<b.n->telL h [] [] O1 O2 (c.g i) (b.g i):=by
 obtain⟨hi,rfl⟩:=yct hb;exact⟨OB.ren h' (intO (w i)),by rw[if_pos hi],ycf ⟨⟨rfl,rfl,rfl,rfl⟩,fun _ _=>rfl⟩⟩
def boxT(F:Nat)(T:List (List (Int×Int))):Nat×Fam:=(F,.one (some ⟨84,true,1,1,fun _=>[yu T]⟩))
set_option maxHeartbeats 1000000 in
theorem ybkr{T:List (List (Int×Int))}(h:TabOk T){f:FuncId}(hf:∀v,v<T.length->∀i,i<(T.getD v []).length->Returns zH f [.i .i64 (v:Nat),.i .i64 (i:Nat),.rf [yu T]] (.i .i64 ((T.getD v []).getD i (0,0)).1)) :
 Cm zH 65 [(301,0)] [boxT 301 T] [yu T,.fn f [] [.pt (301,0) 0 0]] fun r o=>r = .os (302,0) 0 T.length true/\o=boxT 301 T::ybu 302 303 T.length (lowT T):=by
 refine ydgw [(301,0)] [] _ _ _ ?_;have hlen:=h.len;have hlow:∀v,(lowT T v).length=(T.getD v []).length:=yzj T;simp only[c65,ydme,ydte,ydua,yu,boxT,clash,go_sem,zA,zB,zC,↓reduceIte,reduceCtorEq]
 repeat refine zD (by first|omega|decide|exact ikw (by omega) (by omega)) ?_
 let fm:Nat->Nat×Fam:=fun k=>(303,.many fun v=>if v<k then some (intO (lowT T v))else none)
 refine ybf (σ:=Nat) (fun k=>⟨[(13,.i .i64 k),(12,.i .i64 (T.length:Nat)),(0,yu T),(1,.fn f [] [.pt (301,0) 0 0]),(5,.os (10,0) 0 T.length true),(11,yu T)],
  [boxT 301 T,(10,.one (some ⟨22,false,1,T.length,fun v=>if v<k then[.os (303,v) 0 (T.getD v []).length true]else[.a (.slice none 0 0)]⟩)),fm k]⟩) (fun k=>k<=T.length) (fun k=>T.length-k) 0 (zI _) ?_ ?_
 .refine ybi [] [] [] ?_;simp only[fm,boxT,yu,zAT,allQ,live,yc,zL,go_sem,zA,zC,↓reduceIte,reduceCtorEq]
 .intro k hk
  by_cases hlt:k<T.length
  .have d1 := dec_lt hlt;obtain⟨hr,hb⟩:=h.at_ hlt;obtain⟨row,hrow⟩:∃r,T.getD k []=r:=⟨_,rfl⟩;rw[hrow]at hr hb;have hlk:lowT T k=row.map (·.1):=by unfold lowT;rw[hrow]
   simp only[ydew,ydll,ydxw,ydmh,fm,boxT,yu,ybb,d1,hrow,clash,go_sem,zA,zB,zC,↓reduceIte,reduceCtorEq]
   repeat refine zD (by first|omega|decide|exact ikw (by omega) (by omega)) ?_
   refine ybf (σ:=Nat) (fun i=>⟨[(30,.i .i64 i),(29,.i .i64 (row.length:Nat)),(6,.i .i64 k),(13,.i .i64 k),(12,.i .i64 (T.length:Nat)),(0,yu T),(1,.fn f [] [.pt (301,0) 0 0]),(5,.os (10,0) 0 T.length true),(11,yu T)],
    [boxT 301 T,(10,.one (some ⟨22,false,1,T.length,fun v=>if v=k then[.os (23,0) 0 row.length true]else if v<k then[.os (303,v) 0 (T.getD v []).length true]else[.a (.slice none 0 0)]⟩)),(23,.one (some ⟨3,false,1,row.length,fun j=>[.i .i64 (if j<i then(row.getD j (0,0)).1 else 0)]⟩)),fm k]⟩) (fun i=>i<=row.length) (fun i=>row.length-i) 0 (zI _) ?_ ?_
   .refine ybi [] [] [] ?_;simp only[fm,boxT,yu,ybb,zAT,allQ,live,yc,zL,go_sem,zA,zC,↓reduceIte,reduceCtorEq];refine⟨fun _ _ _ _ e=>e,fun v hv=>?_,fun v b hb=>⟨b,hb,?_⟩⟩
    .by_cases q:v=k
     .simp only[if_pos q];exact ygc rfl rfl
     .by_cases q2:v<k
      .simp only[if_neg q,if_pos q2];exact ygc (by show(if v<k then some (intO (lowT T v))else none).isSome=true;rw[if_pos q2];rfl) rfl
      .simp only[if_neg q,if_neg q2];exact yib rfl
    .obtain⟨q,rfl⟩:=yct hb;exact ycf (ycl _)
   .intro i hi
    by_cases hlt2:i<row.length
    .have d2:=dec_lt hlt2;have hF:=hf k hlt i (by rw[hrow];exact hlt2)
     rw[hrow]at hF;simp only[yu,ybb]at hF;simp only[ydjk,ydxo,ydzf,yczi,fm,boxT,yu,ybb,d2,clash,go_sem,zA,zB,zF,↓reduceIte,reduceCtorEq]
     repeat refine zD (by first|omega|decide|exact ikw (by omega) (by omega)) ?_
     refine .inl (hF.use ?_);simp only[ybh,splice,clash,go_sem,zA,zB,↓reduceIte,reduceCtorEq]
     repeat refine zD (by first|omega|decide|exact ikw (by omega) (by omega)) ?_
     refine yj (i+1) hlt2 (by omega) ?_
     refine ybi [] [] [] ?_;simp only[allQ,live,yc,yx,go_sem,zA,zC,↓reduceIte,reduceCtorEq];refine⟨fun _ _ _ _ e=>e,by omega,fun v hv=>?_,fun j hj=>yfn ?_,fun v b hb=>⟨b,hb,?_⟩⟩
     .by_cases q:v=k
      .simp only[if_pos q];exact ygc rfl rfl
      .by_cases q2:v<k
       .simp only[if_neg q,if_pos q2];exact ygc (by show(if v<k then some (intO (lowT T v))else none).isSome=true;rw[if_pos q2];rfl) rfl
       .simp only[if_neg q,if_neg q2];exact yib rfl
     .by_cases e:j=i
      .subst e;rw[if_pos rfl,if_pos (by omega)]
      .rw[if_neg e]
       by_cases e2:j<i
       .rw[if_pos e2,if_pos (by omega)]
       .rw[if_neg e2,if_neg (by omega)]
     .obtain⟨q,rfl⟩:=yct hb;exact ycf (ycl _)
    .obtain rfl:i=row.length:=by omega
     simp only[ydjk,ycqj,fm,boxT,yu,ybb,zAE,clash,go_sem,zA,zB,↓reduceIte,reduceCtorEq]
     repeat refine zD (by first|omega|decide|exact ikw (by omega) (by omega)) ?_
     refine yj (k+1) hlt (by omega) ?_
     refine ybi [(303,fun v=>if v=k then(23,0)else(303,v))] [] [] ?_
     simp only[allQ,live,yc,yx,go_sem,zA,zC,↓reduceIte,reduceCtorEq];refine⟨?_,by omega,fun v hv=>?_,fun v b hb=>?_⟩
     .repeat' apply zD
      all_goals first|exact fun i _=>ybar (by decide) (by decide)|exact fun i _=>yql (by decide) (by decide)|exact fun i _ j _=>ywm (by decide)
     .by_cases q:v=k
      .subst q;simp only[↓reduceIte,if_pos (Nat.lt_succ_self v),hrow];exact ygc (by show(if v<v+1 then some (intO (lowT T v))else none).isSome=true;rw[if_pos (by omega)];rfl) (by simp only[go_sem,↓reduceIte])
      .by_cases q2:v<k
       .simp only[if_neg q,if_pos q2,if_pos (show v<k+1 by omega)]
        exact ygc (by show(if v<k+1 then some (intO (lowT T v))else none).isSome=true;rw[if_pos (by omega)];rfl) (by simp only[q,go_sem,↓reduceIte])
       .simp only[if_neg q,if_neg q2,if_neg (show ¬v<k+1 by omega)];exact yib rfl
     .obtain⟨hv,rfl⟩:=yct hb
      by_cases q:v=k
      .subst q;simp only[go_sem,zA,↓reduceIte];refine ycf (c:=⟨3,false,1,row.length,fun j=>[.i .i64 (if j<row.length then(row.getD j (0,0)).1 else 0)]⟩) ⟨⟨rfl,rfl,rfl,by rw[hlow,hrow]⟩,fun i hi=>?_⟩
       have hi:i<row.length:=by rw[hlow,hrow]at hi;exact hi
       rw[ydez (by rw[hrow];exact hi),hrow]
       simp only[if_pos hi]
      .simp only[q,go_sem,zA,↓reduceIte];exact⟨_,if_pos (by omega),ycf (ycl _)⟩
  .obtain rfl:k=T.length:=by omega
   simp only[ydew,ycxa,fm,boxT,yu,zAE,yga,go_sem,zA,zB,↓reduceIte,reduceCtorEq];refine⟨.os (302,0) 0 T.length true,boxT 301 T::ybu 302 303 T.length (lowT T),?_,?_,rfl,rfl⟩
   .refine ybi [(302,fun i=>(10,i))] [] [] ?_;simp only[ybu,ycq,boxT,yu,allQ,live,yc,go_sem,zA,zC,↓reduceIte,reduceCtorEq];refine⟨fun _ _ _ _ e=>e,fun v hv=>?_,fun v b hb=>yds hb⟩;rw[if_pos hv,<-yzj];exact ychm hv rfl rfl
   .simp only[ybu,boxT,yu,ycq,yby,ydn,allQ,live,go_sem,zA,↓reduceIte];exact⟨fun k hk=>by rw[if_pos hk],fun i b hb=>(yct hb).2▸yjn⟩
theorem ybrq{T:List (List (Int×Int))}{v i:Nat}(hv:v<T.length)(hi:i<(T.getD v []).length):Returns zH 125 [.i .i64 (v:Nat),.i .i64 (i:Nat),.rf [yu T]] (.i .i64 ((T.getD v []).getD i (0,0)).1):=by
 refine Returns.of (ydbu _ _ ?_);simp only[c125,ycpd,ycre,yu,ybb,clash,go_sem,zN,zA,zB,zF,zT,↓reduceIte,reduceCtorEq]
 repeat refine zD (by first|omega|decide|exact ikw (by omega) (by omega)) ?_
 exact Sim.refl _
theorem ybig{T:List (List (Int×Int))}{v i:Nat}(hv:v<T.length)(hi:i<(T.getD v []).length):Returns zH 66 [.i .i64 (v:Nat),.i .i64 (i:Nat),.rf [yu T]] (.i .i64 ((T.getD v []).getD i (0,0)).1):=by
 refine Returns.of (ydnj _ _ ?_);simp only[c66,ydmy,ydle,yu,ybb,clash,go_sem,zN,zA,zB,zF,zT,↓reduceIte,reduceCtorEq]
 repeat refine zD (by first|omega|decide|exact ikw (by omega) (by omega)) ?_
 exact Sim.refl _
set_option maxHeartbeats 1000000 in
theorem ycgk{Q1 Q2:(Nat->Option ABlk)->Value->Prop}{p:ProgT}{g:Gr}(h:Checked Q1 Q2 p g)(hT:TabOk (tabP p g)) :
 Cm zH 59 [] [] [.ag (yfj Q1 Q2 p.raw),grV g] fun r o=>r = .tp [.os (302,0) 0 (tabP p g).length true,.i .i64 0]/\o=ybu 302 303 (tabP p g).length (lowT (tabP p g)):=by
 refine ydcz [] [65] _ _ _ ?_;have hF:=ybbe p h.hg h.hp h.hf h.hV h.gv;have hTb:=yld h;have hB:=ybkr hT (f:=125) fun v hv i hi=>ybrq hv hi
 generalize tabP p g=T at hTb hB hT
 simp only[yfj,grV]at hF hTb;simp only[c59,ydyc,ydur,yfj,grV,clash,go_sem,zA,zB,zC,zK,↓reduceIte,reduceCtorEq];refine hF.use ?_;simp only[ybh,ydqe,ydml,ydsg,clash,zAF,go_sem,zA,zB,zC,zK,↓reduceIte,reduceCtorEq];refine hTb.use ?_;simp only[go_sem,↓reduceIte]
 repeat refine zD (by first|omega|decide|exact ikw (by omega) (by omega)) ?_
 refine yco hB [(301,7),(302,72),(303,73)] 400 [] [] ?_ ?_
 .simp only[boxT,to1,yby,ydn,ycs,yck,allQ,live,yc,go_sem,zB,zC,↓reduceIte,reduceCtorEq]
 rintro r o' ⟨rfl,rfl⟩;simp only[boxT,ybu,yiq,yhr,nuF,nu,difN,ycs,yck,Fam.ren,OB.ren,dim,yfx,go_sem,zA,zB,zK,↓reduceIte,reduceCtorEq];simp only[yga,go_sem];refine⟨.tp [.os (302,0) 0 T.length true,.i .i64 0],ybu 302 303 T.length (lowT T),?_,?_,rfl,rfl⟩
 .refine ybi [(302,fun i=>(72,i)),(303,fun i=>(73,i))] [] [] ?_;simp only[ybu,ycq,allQ,live,yc,go_sem,zA,zC,↓reduceIte,reduceCtorEq];exact⟨fun _ _ _ _ e=>e,fun v hv=>by rw[if_pos hv],fun i b hb=>yjb (h':=nu [(301,7),(302,72),(303,73)] 400) hb⟩
 .simp only[ybu,ycq,yby,ydn,allQ,live,go_sem,zA,↓reduceIte];exact⟨fun k hk=>by rw[if_pos hk],fun i b hb=>(yct hb).2▸yjn⟩
end Sh
end
section
def rowL(bs:List (Int×Int))(k x:Nat):List Int:=(zAJ bs.length).map (rowU bs k x)
theorem ybad(bs:List (Int×Int))(k x:Nat):(rowL bs k x).length=bs.length:=by simp[rowL]
theorem yts{bs:List (Int×Int)}{k x t:Nat}(ht:t<bs.length):(rowL bs k x).getD t 0=rowU bs k x t:=by simp[rowL,zJ,ht]
theorem ysp{l l':List Int}(h:l.length=l'.length)(he:∀t,t<l.length->l.getD t 0=l'.getD t 0):l=l':=by
 refine List.ext_getElem h fun t h1 h2=>?_;have:=he t h1
 rwa [yhu h1,yhu h2]at this
theorem ybzu(bs:List (Int×Int))(k:Nat):rowL bs k 0=bs.map (·.1):=ysp (by simp[rowL]) fun t ht=>by
 have ht:t<bs.length:=by simpa[rowL]using ht
 rw[yts ht,ybwv bs k ht];simp[zJ,ht]
theorem ycib(bs:List (Int×Int))(k:Nat):rowL bs k bs.length=(unR bs k).1:=ysp (by rw[ybad,ybiv]) fun t ht=>by
 rw[yts (by simpa[rowL]using ht),yckj]
namespace Sh
open Ev Go.RowKit
section
variable {Q1 Q2:(Nat->Option ABlk)->Value->Prop}{p:ProgT}{g:Gr}
set_option maxHeartbeats 4000000 in
theorem ybpq(h:Checked Q1 Q2 p g)(hT:TabOk (tabP p g)){k0:Nat}(hk:k0<ybl (tabP p g)):Returns zH 15 [.ag (yfj Q1 Q2 p.raw),grV g,.i .i64 (k0:Nat)] (.tp [ycz (unT (tabP p g) k0).1,.i .i64 0]):=by
 refine Returns.of (ydig [65] _ _ ?_);have hF:=ybbe p h.hg h.hp h.hf h.hV h.gv;have hTb:=yld h;have hB:=ybkr hT (f:=66) fun v hv i hi=>ybig hv hi;have hC:=yyk hT;have htot:=hT.tot;have hlen:=hT.len
 generalize tabP p g=T at hTb hB hT hC hk htot hlen ⊢
 obtain⟨N,hN⟩:∃N,ybl T=N:=⟨_,rfl⟩;rw[hN]at hC hk htot;simp only[yfj,grV]at hF hTb;have d1:decide ((k0:Int)<0)=false:=by simp
 have d2:decide ((k0:Int)>=(N:Int))=false:=by simp;omega
 simp only[c15,ydky,ydtb,yfj,grV,clash,go_sem,zA,zB,zC,zK,↓reduceIte,reduceCtorEq];refine hF.use ?_;simp only[ybh,ydug,ydqu,ydls,clash,zAF,go_sem,zA,zB,zC,zK,↓reduceIte,reduceCtorEq];refine hTb.use ?_;simp only[go_sem,↓reduceIte]
 repeat refine zD (by first|omega|decide|exact ikw (by omega) (by omega)) ?_
 refine hC.use ?_;simp only[yduj,ydsv,ydae,clash,zAF,d1,d2,go_sem,zA,zB,↓reduceIte,reduceCtorEq]
 repeat refine zD (by first|omega|decide|exact ikw (by omega) (by omega)) ?_
 refine yco hB [(301,9),(302,72),(303,73)] 400 [9,5] [5] ?_ ?_
 .simp only[boxT,to1,okN,yby,ydn,ycs,yck,allQ,live,yc,go_sem,zA,zB,zC,zK,↓reduceIte,reduceCtorEq]
 rintro r o' ⟨rfl,rfl⟩;simp only[boxT,ybu,yiq,yhr,nuF,nu,difN,ycs,yck,Fam.ren,OB.ren,dim,yfx,go_sem,zA,zB,zC,zK,↓reduceIte];simp only[ycua,yu,go_sem,zA,zB,zK,↓reduceIte]
 repeat refine zD (by first|omega|decide|exact ikw (by omega) (by omega)) ?_
 refine(ybex (n:=T.length) (e:=fun v=>ybb (T.getD v []))).use ?_;simp only[ybh,clash,go_sem]
 let ownU:(Nat->List Int)->Nat->Own:=fun w k=>(5,.one (some ⟨3,true,1,1,fun _=>[.i .i64 (k:Nat)]⟩))::(12,.one (some ⟨46,true,1,1,fun _=>[.os (72,0) 0 T.length true]⟩))::ybu 72 73 T.length w
 refine yjl (ybfj (n:=T.length) (e:=fun v=>ybb (T.getD v []))) [(12,0),(5,0)] (fun q (_:Unit)=>⟨[(46,.fn 133 [] [.rf [yu T]]),(12,.pt (12,0) 0 0),(5,.pt (5,0) 0 0)],ownU (cU T k0 q) (kT T k0 q)⟩)
  (fun q _=>q<=T.length) () (zI _) ⟨fun _ h=>absurd h zX,fun β h=>absurd h zX⟩ ?_ (fun _=>rfl) ?_ ?_ ?_
 .refine yh [] [] [] ?_;simp only[ownU,ybu,ycq,yu,ydju,allQ,live,yc,go_sem,zA,zC,↓reduceIte,reduceCtorEq];refine⟨fun _ _ _ _ e=>e,fun v hv=>?_,fun v b hb=>?_⟩
  .rw[ybzi T k0 hv];exact⟨Sim.refl _,by rw[if_pos hv]⟩
  .obtain⟨hv,rfl⟩:=yct hb;rw[ybzi T k0 hv];exact yjb (w:=lowT T) (h':=nu [(301,9),(302,72),(303,73)] 400) (if_pos hv)
 .intro i _ hi _;refine⟨trivial,?_⟩;simp only[yu,allQ,go_sem,zA]
 .intro q _ hq hlt;have hlt:q<T.length:=hlt;obtain⟨v,hv⟩:∃v,T.length-1-q=v:=⟨_,rfl⟩;have hvn:v<T.length:=by omega
  refine⟨_,rfl,?_⟩;simp only[bwdS,hv];simp only[ycyc,ycxl,ycyd,ownU,ybu,yu,splice,clash,go_sem,zA,zB,zC,zK,↓reduceIte];refine(ybes (ls:=T.getD v [])).use ?_;obtain⟨hr,hb⟩:=hT.at_ hvn
  have hI:∀l∈T.getD v [],I64 l.1/\I64 l.2:=fun l hl=>by
   obtain⟨i,hi,rfl⟩:=zAM hl;have:=hb i hi;rw[yhu hi]at this;unfold I64;omega
  have hcS:=ydib (k:=k0) hlt hv.symm;have hcO:=ydmc (k:=k0) hlt hv.symm;have hkS:=ydeg (k:=k0) hlt hv.symm;have hlw:lowT T v=(T.getD v []).map (·.1):=rfl;have hcl:=fun {j}=>ydkw (k:=k0) (q:=q) hq (j:=j);have hkl:kT T k0 q<=k0:=ydnn _ _;obtain⟨kk,hkk⟩:∃kk,kT T k0 q=kk:=⟨_,rfl⟩;rw[hkk]at hcS hkS hkl;obtain⟨bs,hbs⟩:∃bs,T.getD v []=bs:=⟨_,rfl⟩;rw[hbs]at hr hb hI hcS hkS hlw;simp only[ybh,clash,hbs,go_sem]
  refine yjl (ybbp (ls:=bs) hI) [(12,0),(5,0),(13,0)] (fun x (_:Unit)=>⟨[(50,.fn 134 [] [.rf [ybb bs]]),(12,.pt (12,0) 0 0),(5,.pt (5,0) 0 0),(13,.pt (13,0) 0 0)],(13,.one (some ⟨3,true,1,1,fun _=>[.i .i64 (v:Nat)]⟩))::ownU (fun j=>if j=v then rowL bs kk x else cU T k0 q j) (kU bs kk x)⟩)
   (fun x _=>x<=bs.length) () (zI _) ⟨fun β h=>(by rcases List.mem_cons.1 h with r|r;rw[r];exact zG;rw[List.mem_singleton.1 r];exact zY _ zG),fun β h=>absurd h zX⟩ ?_ (fun _=>rfl) ?_ ?_ ?_
  .refine ybi [] [] [] ?_
   have e0:∀j,(if j=v then rowL bs kk 0 else cU T k0 q j)=cU T k0 q j:=fun j=>by
    by_cases e:j=v
    .rw[if_pos e,ybzu,e,hcO,hlw]
    .rw[if_neg e]
   simp only[ownU,ybu,ycq,ydcr,e0,hkk,allQ,live,yc,go_sem,zA,zC,↓reduceIte,reduceCtorEq];exact⟨fun _ _ _ _ e=>e,fun j hj=>by rw[if_pos hj],fun j b hb=>yds hb⟩
  .intro x _ hx _;refine⟨trivial,?_⟩;simp only[ybb,allQ,go_sem,zA]
  .intro x _ hx hlt2;have hlt2:x<bs.length:=hlt2;obtain⟨i,hi⟩:∃i,bs.length-1-x=i:=⟨_,rfl⟩;have hin:i<bs.length:=by omega
   refine⟨_,rfl,?_⟩;simp only[bwdS,hi];obtain⟨b1,b2,b3⟩:=hb i hin;have hrS:=ycbz (k:=kk) hlt2 hi.symm;have hrO:=ycfn (k:=kk) hlt2 hi.symm;have hkS2:=ydfi (k:=kk) hlt2 hi.symm;obtain⟨⟨lo,hi'⟩,hbe⟩:∃b,bs.getD i (0,0)=b:=⟨_,rfl⟩;rw[hbe]at b1 b2 b3 hrS hrO hkS2;simp only at b1 b2 b3 hrO;have hsz:=yol (b:=(lo,hi')) b1;obtain⟨sz,hsze⟩:∃sz,szP (lo,hi')=sz:=⟨_,rfl⟩;rw[hsze]at hsz hrS hkS2;simp only at hsz hrS
   have hsz2:hi'-lo+1=(sz:Int):=hsz.2.symm;have hkU:kU bs kk x<=kk:=ydem _ _;obtain⟨y,hy⟩:∃y,kU bs kk x=y:=⟨_,rfl⟩;rw[hy]at hrS hkS2 hkU;have hmod:(y:Int).tmod (sz:Int)=((y%sz:Nat):Int):=rfl;have hdiv:(y:Int).tdiv (sz:Int)=((y/sz:Nat):Int):=rfl;have hrL:(rowL bs kk x).getD i 0=lo:=by rw[yts hin,hrO]
   have hrn:=ybad bs kk x;have hml:y%sz<sz:=Nat.mod_lt _ hsz.1;have hdl:y/sz<=y:=zAR _ _;simp only[ycqb,ycqw,ycuq,ydaf,ycsn,ownU,ybu,ycq,intO,if_pos hvn,hrn,hy,hrL,hbe,hsz2,hmod,hdiv,splice,clash,go_sem,zN,zA,zB,zF,zC,zT,↓reduceIte,reduceCtorEq]
   repeat refine zD (by first|omega|decide|exact ikw (by omega) (by omega)) ?_
   refine zD ⟨by omega,ikw (by omega) (by omega)⟩ ?_
   repeat refine zD (by first|omega|decide|exact ikw (by omega) (by omega)) ?_
   refine ybi [] [] [] ?_
   have hw:∀t,t<bs.length->(if t=i then[SV.i .i64 (lo+((y%sz:Nat):Int))]else[SV.i .i64 ((rowL bs kk x).getD t 0)])=[SV.i .i64 ((rowL bs kk (x+1)).getD t 0)]:=fun t ht=>by
    rw[yts ht,yts ht,hrS]
    by_cases e:t=i
    .rw[if_pos e,if_pos e]
    .rw[if_neg e,if_neg e]
   have hrn2:=ybad bs kk (x+1);simp only[hkS2,allQ,live,yc,go_sem,zA,zC,↓reduceIte,reduceCtorEq];refine⟨fun _ _ _ _ e=>e,fun j hj=>?_,fun j b hb=>?_⟩
   .by_cases e:j=v
    .subst e;simp only[hrn,hrn2,if_pos hj,yc,go_sem,↓reduceIte]
    .simp only[e,if_pos hj,yc,go_sem,↓reduceIte]
   .obtain⟨hj,rfl⟩:=yct (x:=intO (if j=v then rowL bs kk (x+1)else cU T k0 q j)) hb
    by_cases e:j=v
    .subst e;simp only[go_sem,↓reduceIte];exact ycf (l:=rowL bs kk (x+1)) (c:=⟨3,false,1,bs.length,fun t=>if t=i then[SV.i .i64 (lo+((y%sz:Nat):Int))]else[SV.i .i64 ((rowL bs kk x).getD t 0)]⟩) ⟨⟨rfl,rfl,rfl,hrn2.symm⟩,fun t ht=>hw t (by rw[hrn2]at ht;exact ht)⟩
    .simp only[e,go_sem,↓reduceIte];exact⟨_,if_pos hj,ycf (l:=cU T k0 q j) (ycl _)⟩
  .intro _ _
   have e0:∀j,(if j=v then rowL bs kk bs.length else cU T k0 q j)=cU T k0 (q+1) j:=fun j=>by
    rw[hcS]
    by_cases e:j=v
    .rw[if_pos e,if_pos e,ycib]
    .rw[if_neg e,if_neg e]
   simp only[bwdS,go_sem]
   repeat refine zD (by first|omega|decide|exact ikw (by omega) (by omega)) ?_
   refine ybi [] [] [] ?_;simp only[ownU,ybu,ycq,ydru,e0,hkS,allQ,live,yc,go_sem,zA,zC,↓reduceIte,reduceCtorEq];exact⟨fun _ _ _ _ e=>e,fun j hj=>by rw[if_pos hj],fun j b hb=>yds hb⟩
 .intro _ _;simp only[yczh,bwdS,ownU,ybu,clash,go_sem,zA,zB,↓reduceIte,reduceCtorEq];have hcl:∀j,j<T.length->(unT T k0).1.getD j []=cU T k0 T.length j:=fun j _=>(ydyo T k0 j).symm;have hul:=ycad T k0;refine⟨fun j hj=>?_,ywu ⟨?_,Sim.refl _,trivial⟩⟩
  .simp only[ycq,intO,if_pos hj,go_sem]
  .unfold ycz ybc;rw[hul];refine ydp fun j hj=>?_;simp only[ycq,intO,if_pos hj,SimL,hcl j hj,go_sem];exact Sim.refl _
end
end Sh
end
section
def rowD(bs:List (Int×Int))(xs:List Int)(x:Nat):List Int:=(zAJ bs.length).map fun t=>if t<bs.length-x then xs.getD t 0 else(bs.getD t (0,0)).1
theorem yni(bs:List (Int×Int))(xs:List Int)(x:Nat):(rowD bs xs x).length=bs.length:=by simp[rowD]
theorem ypp{bs:List (Int×Int)}{xs:List Int}{x t:Nat}(ht:t<bs.length):(rowD bs xs x).getD t 0=if t<bs.length-x then xs.getD t 0 else(bs.getD t (0,0)).1:=by simp[rowD,zJ,ht]
theorem ycfe{bs:List (Int×Int)}{xs:List Int}(h:xs.length=bs.length):rowD bs xs 0=xs:=ysp (by rw[yni,h]) fun t ht=>by
 have ht:t<bs.length:=by rwa [yni]at ht
 rw[ypp ht,if_pos (by omega)]
theorem ychu(bs:List (Int×Int))(xs:List Int):rowD bs xs bs.length=bs.map (·.1):=ysp (by simp[rowD]) fun t ht=>by
 have ht:t<bs.length:=by rwa [yni]at ht
 rw[ypp ht,if_neg (by omega)]
 simp[zJ,ht]
def cD(T:List (List (Int×Int)))(c:Conf)(q j:Nat):List Int:=if j<T.length-q then c.getD j []else lowT T j
namespace Sh
open Ev Go.RowKit
set_option maxHeartbeats 4000000 in
theorem ybqh{T:List (List (Int×Int))}(hT:TabOk T){c:Conf}(hc:inT T c) :
 Cm zH 61 [(302,0)] (ybu 302 303 T.length fun j=>c.getD j []) [yu T,.os (302,0) 0 T.length true] fun r o=>r = .tp []/\o=ybu 302 303 T.length fun j=>(advT T c).1.getD j []:=by
 refine yddq [(302,0)] [] _ _ _ ?_;have hlen:=hT.len;obtain⟨hcl,hcr⟩:=yke.1 hc;have hcrl:∀j,j<T.length->(c.getD j []).length=(T.getD j []).length:=fun j hj=>(ymo.1 (hcr j hj)).1;simp only[c61,ydxs,ydkp,yu,ybu,go_sem,zA,zB,zC,↓reduceIte,reduceCtorEq];refine(ybex (n:=T.length) (e:=fun v=>ybb (T.getD v []))).use ?_;simp only[ybh,clash,go_sem]
 let own3:(Nat->List Int)->Own:=fun w=>(3,.one (some ⟨46,true,1,1,fun _=>[.os (302,0) 0 T.length true]⟩))::ybu 302 303 T.length w
 refine yjl (ybfj (n:=T.length) (e:=fun v=>ybb (T.getD v []))) [(302,0),(3,0)] (fun q (_:Unit)=>⟨[(9,.fn 133 [] [.rf [yu T]]),(3,.pt (3,0) 0 0)],own3 (cD T c q)⟩)
  (fun q _=>q<=T.length/\ybym T c (T.length-q)) () ⟨zI _,fun j h1 h2=>absurd h1 (by omega)⟩ ⟨fun β h=>by rw[List.mem_singleton.1 h];exact zG,fun β h=>absurd h zX⟩ ?_ (fun _=>rfl) ?_ ?_ ?_
 .refine ybi [] [] [] ?_;have e0:∀j,j<T.length->cD T c 0 j=c.getD j []:=fun j hj=>by unfold cD;rw[if_pos (by omega)]
  simp only[own3,ybu,ycq,yu,allQ,live,yc,go_sem,zA,zC,↓reduceIte,reduceCtorEq];refine⟨fun _ _ _ _ e=>e,fun j hj=>?_,fun j b hb=>?_⟩
  .rw[e0 j hj];exact⟨Sim.refl _,by rw[if_pos hj]⟩
  .obtain⟨hj,rfl⟩:=yct (x:=intO (cD T c 0 j)) hb;rw[e0 j hj];exact⟨_,if_pos hj,ycf (ycl _)⟩
 .intro i _ hi _;refine⟨trivial,?_⟩;simp only[yu,allQ,go_sem,zA]
 .rintro q _ ⟨hq,hfu⟩ hlt;have hlt:q<T.length:=hlt;obtain⟨v,hv⟩:∃v,T.length-1-q=v:=⟨_,rfl⟩;have hvn:v<T.length:=by omega
  refine⟨_,rfl,?_⟩;simp only[bwdS,hv];simp only[ydlw,ydwr,ydmr,own3,ybu,yu,splice,clash,go_sem,zA,zB,zC,↓reduceIte];refine(ybes (ls:=T.getD v [])).use ?_;obtain⟨hr,hb⟩:=hT.at_ hvn
  have hI:∀l∈T.getD v [],I64 l.1/\I64 l.2:=fun l hl=>by
   obtain⟨i,hi,rfl⟩:=zAM hl;have:=hb i hi;rw[yhu hi]at this;unfold I64;omega
  have hfv:ybym T c (v+1):=fun j h1 h2=>hfu j (by omega) h2
  have hcv:cD T c q v=c.getD v []:=by unfold cD;rw[if_pos (by omega)]
  have hcS:∀j,cD T c (q+1) j=if j=v then lowT T v else cD T c q j:=fun j=>by
   unfold cD
   by_cases e:j=v
   .rw[if_pos e,if_neg (by omega),e]
   .rw[if_neg e]
    by_cases w:j<v
    .rw[if_pos (by omega),if_pos (by omega)]
    .rw[if_neg (by omega),if_neg (by omega)]
  have hcq:∀j,j<T.length->cD T c q j=if j<v then c.getD j []else if j=v then c.getD v []else lowT T j:=fun j hj=>by
   unfold cD
   by_cases w:j<v
   .rw[if_pos (by omega),if_pos w]
   .by_cases e:j=v
    .rw[if_pos (by omega),if_neg w,if_pos e,e]
    .rw[if_neg (by omega),if_neg w,if_neg e]
  have hraise:=yxx hcl hcrl hvn hfv;have hlw:lowT T v=(T.getD v []).map (·.1):=rfl;have hinr:=ymo.1 (hcr v hvn);obtain⟨bs,hbs⟩:∃bs,T.getD v []=bs:=⟨_,rfl⟩;obtain⟨xs,hxs⟩:∃xs,c.getD v []=xs:=⟨_,rfl⟩;rw[hbs]at hr hb hI hlw hraise hinr;rw[hxs]at hraise hinr hcv hcq;obtain⟨hxl,hxi⟩:=hinr;simp only[ybh,clash,hbs,go_sem]
  refine yjl (ybbp (ls:=bs) hI) [(302,0),(3,0),(4,0)] (fun x (_:Unit)=>⟨[(13,.fn 134 [] [.rf [ybb bs]]),(3,.pt (3,0) 0 0),(4,.pt (4,0) 0 0)],(4,.one (some ⟨3,true,1,1,fun _=>[.i .i64 (v:Nat)]⟩))::own3 (fun j=>if j=v then rowD bs xs x else cD T c q j)⟩)
   (fun x _=>x<=bs.length/\ybpl bs xs (bs.length-x)) () ⟨zI _,fun j h1 h2=>absurd h1 (by omega)⟩ ⟨fun β h=>(by rcases List.mem_cons.1 h with r|r;rw[r];exact zG;rw[List.mem_singleton.1 r];exact zY _ zG),fun β h=>absurd h zX⟩ ?_ (fun _=>rfl) ?_ ?_ ?_
  .refine ybi [] [] [] ?_
   have e0:∀j,(if j=v then rowD bs xs 0 else cD T c q j)=cD T c q j:=fun j=>by
    by_cases e:j=v
    .rw[if_pos e,ycfe hxl,e,hcv]
    .rw[if_neg e]
   simp only[own3,ybu,ycq,e0,allQ,live,yc,go_sem,zA,zC,↓reduceIte,reduceCtorEq];exact⟨fun _ _ _ _ e=>e,fun j hj=>by rw[if_pos hj],fun j b hb=>yds hb⟩
  .rintro x _ hx _;refine⟨trivial,?_⟩;simp only[ybb,allQ,go_sem,zA]
  .rintro x _ ⟨hx,hfr⟩ hlt2;have hlt2:x<bs.length:=hlt2;obtain⟨i,hi⟩:∃i,bs.length-1-x=i:=⟨_,rfl⟩;have hin:i<bs.length:=by omega
   refine⟨_,rfl,?_⟩;simp only[bwdS,hi];obtain⟨b1,b2,b3⟩:=hb i hin;have hxx:=hxi i hin;have hfi:ybpl bs xs (i+1):=fun t h1 h2=>hfr t (by omega) h2
   have hrw:=yyh hxl hin hfi;have hra:(rowD bs xs x).getD i 0=xs.getD i 0:=by rw[ypp hin,if_pos (by omega)]
   have hrn:=yni bs xs x;have hrn2:=yni bs xs (x+1);obtain⟨⟨lo,hi'⟩,hbe⟩:∃b,bs.getD i (0,0)=b:=⟨_,rfl⟩;rw[hbe]at b1 b2 b3 hxx hrw;simp only at b1 b2 b3 hxx hrw;obtain⟨y,hy⟩:∃y,xs.getD i 0=y:=⟨_,rfl⟩;rw[hy]at hxx hrw hra
   by_cases hlt3:y<hi'
   .have d1:decide (y<hi')=true:=decide_eq_true hlt3;simp only[ydgq,ydie,ydcb,ydwy,own3,ybu,ycq,intO,if_pos hvn,hrn,hra,hbe,d1,splice,clash,yga,go_sem,zN,zA,zB,zC,zT,↓reduceIte,reduceCtorEq]
    repeat refine zD (by first|omega|decide|exact ikw (by omega) (by omega)) ?_
    obtain⟨w1,w2,w3⟩:=hrw hlt3;obtain⟨_,_,H⟩:=hraise w1
    have hcell:∀t,t<bs.length->(if t=i then[SV.i .i64 (y+1)]else[SV.i .i64 ((rowD bs xs x).getD t 0)])=[SV.i .i64 ((advR bs xs).1.getD t 0)]:=fun t ht=>by
     rw[w3 t ht]
     by_cases e:t=i
     .rw[if_pos e,if_neg (by omega),if_pos e]
     .rw[if_neg e,if_neg e,ypp ht]
      by_cases w:t<i
      .rw[if_pos (by omega),if_pos w]
      .rw[if_neg (by omega),if_neg w]
    refine⟨.tp [],ybu 302 303 T.length (fun j=>(advT T c).1.getD j []),?_,?_,rfl,rfl⟩
    .refine ybi [] [] [] ?_;simp only[ybu,ycq,allQ,live,yc,go_sem,zA,zC,↓reduceIte,reduceCtorEq];refine⟨fun _ _ _ _ e=>e,fun j hj=>?_,fun j b hb=>?_⟩
     .have Hj:=H j hj
      by_cases e:j=v
      .subst e;rw[if_neg (by omega),if_pos rfl]at Hj
       simp only[hrn,Hj,w2,if_pos hj,yc,go_sem,↓reduceIte]
      .rw[if_neg e]at Hj;have:=hcq j hj;rw[if_neg e,<-Hj]at this;simp only[e,this,if_pos hj,yc,go_sem,↓reduceIte]
     .obtain⟨hj,rfl⟩:=yct (x:=intO ((advT T c).1.getD j [])) hb;have Hj:=H j hj
      by_cases e:j=v
      .subst e;rw[if_neg (by omega),if_pos rfl]at Hj
       rw[Hj];simp only[go_sem,↓reduceIte];exact ycf (l:=(advR bs xs).1) (c:=⟨3,false,1,bs.length,fun t=>if t=i then[SV.i .i64 (y+1)]else[SV.i .i64 ((rowD bs xs x).getD t 0)]⟩) ⟨⟨rfl,rfl,rfl,w2.symm⟩,fun t ht=>hcell t (by rw[w2]at ht;exact ht)⟩
      .rw[if_neg e]at Hj;have:=hcq j hj;rw[if_neg e,<-Hj]at this;rw[<-this];simp only[e,go_sem,↓reduceIte];exact⟨_,if_pos hj,ycf (l:=cD T c q j) (ycl _)⟩
    .simp only[ybu,ycq,yby,ydn,allQ,live,go_sem,zA,↓reduceIte];exact⟨fun k hk=>by rw[if_pos hk],fun i b hb=>(yct hb).2▸yjn⟩
   .have d1:decide (y<hi')=false:=decide_eq_false hlt3;simp only[ydgq,ydie,ydcb,yduh,own3,ybu,ycq,intO,if_pos hvn,hrn,hra,hbe,d1,splice,clash,go_sem,zN,zA,zB,zF,zC,zT,↓reduceIte,reduceCtorEq]
    repeat refine zD (by first|omega|decide|exact ikw (by omega) (by omega)) ?_
    refine zD ⟨hlt2,fun t h1 h2=>?_⟩ ?_
    .by_cases e:t=i
     .rw[e,hy,hbe];exact hlt3
     .exact hfr t (by omega) h2
    refine ybi [] [] [] ?_
    have hw:∀t,t<bs.length->(if t=i then[SV.i .i64 lo]else[SV.i .i64 ((rowD bs xs x).getD t 0)])=[SV.i .i64 ((rowD bs xs (x+1)).getD t 0)]:=fun t ht=>by
     rw[ypp ht,ypp ht]
     by_cases e:t=i
     .rw[if_pos e,if_neg (by omega),e,hbe]
     .rw[if_neg e]
      by_cases w:t<i
      .rw[if_pos (by omega),if_pos (by omega)]
      .rw[if_neg (by omega),if_neg (by omega)]
    simp only[allQ,live,yc,go_sem,zA,zC,↓reduceIte,reduceCtorEq];refine⟨fun _ _ _ _ e=>e,fun j hj=>?_,fun j b hb=>?_⟩
    .by_cases e:j=v
     .subst e;simp only[hrn,hrn2,if_pos hj,yc,go_sem,↓reduceIte]
     .simp only[e,if_pos hj,yc,go_sem,↓reduceIte]
    .obtain⟨hj,rfl⟩:=yct (x:=intO (if j=v then rowD bs xs (x+1)else cD T c q j)) hb
     by_cases e:j=v
     .subst e;simp only[go_sem,↓reduceIte];exact ycf (l:=rowD bs xs (x+1)) (c:=⟨3,false,1,bs.length,fun t=>if t=i then[SV.i .i64 lo]else[SV.i .i64 ((rowD bs xs x).getD t 0)]⟩) ⟨⟨rfl,rfl,rfl,hrn2.symm⟩,fun t ht=>hw t (by rw[hrn2]at ht;exact ht)⟩
     .simp only[e,go_sem,↓reduceIte];exact⟨_,if_pos hj,ycf (l:=cD T c q j) (ycl _)⟩
  .rintro _ ⟨_,hfr⟩
   have e0:∀j,(if j=v then rowD bs xs bs.length else cD T c q j)=cD T c (q+1) j:=fun j=>by
    rw[hcS]
    by_cases e:j=v
    .rw[if_pos e,if_pos e,ychu,hlw]
    .rw[if_neg e,if_neg e]
   have hfr:ybpl bs xs (bs.length-bs.length):=hfr;simp only[bwdS,go_sem];refine zD ⟨hlt,fun j h1 h2=>?_⟩ ?_
   .by_cases e:j=v
    .subst e;rw[hbs,hxs];exact fun t _ ht=>hfr t (by omega) ht
    .exact hfv j (by omega) h2
   refine ybi [] [] [] ?_;simp only[own3,ybu,ycq,e0,allQ,live,yc,go_sem,zA,zC,↓reduceIte,reduceCtorEq];exact⟨fun _ _ _ _ e=>e,fun j hj=>by rw[if_pos hj],fun j b hb=>yds hb⟩
 .rintro _ ⟨_,hfu⟩;simp only[bwdS,own3,ybu,yga,go_sem];have hfu:ybym T c (T.length-T.length):=hfu;have hall:=yuv hcl hcrl fun j _ hj=>hfu j (by omega) hj
  have e0:∀j,j<T.length->cD T c T.length j=(advT T c).1.getD j []:=fun j hj=>by
   rw[hall,yvg hj];unfold cD;rw[if_neg (by omega)]
  refine⟨.tp [],ybu 302 303 T.length (fun j=>(advT T c).1.getD j []),?_,?_,rfl,rfl⟩
  .refine ybi [] [] [] ?_;simp only[ybu,ycq,allQ,live,yc,go_sem,zA,zC,↓reduceIte,reduceCtorEq];refine⟨fun _ _ _ _ e=>e,fun j hj=>?_,fun j b hb=>?_⟩
   .rw[e0 j hj];exact⟨Sim.refl _,by rw[if_pos hj]⟩
   .obtain⟨hj,rfl⟩:=yct (x:=intO ((advT T c).1.getD j [])) hb;rw[<-e0 j hj];exact⟨_,if_pos hj,ycf (ycl _)⟩
  .simp only[ybu,ycq,yby,ydn,allQ,live,go_sem,zA,↓reduceIte];exact⟨fun k hk=>by rw[if_pos hk],fun i b hb=>(yct hb).2▸yjn⟩
end Sh
end
section
def rowP(bs:List (Int×Int))(p x t:Nat):Int:=if t<bs.length-x then 0 else(plR (bs.drop (bs.length-x)) p).1.getD (t-(bs.length-x)) 0
def pP(bs:List (Int×Int))(p x:Nat):Nat:=(plR (bs.drop (bs.length-x)) p).2
theorem ydii(bs:List (Int×Int))(p:Nat):pP bs p 0=p:=by unfold pP;rw[zAG,zAB];rfl
theorem ydri(bs:List (Int×Int))(p:Nat):pP bs p bs.length=(plR bs p).2:=by unfold pP;rw[zAA];rfl
theorem ycdb(bs:List (Int×Int))(p:Nat){t:Nat}(ht:t<bs.length):rowP bs p 0 t=0:=by unfold rowP;rw[if_pos (by omega)]
theorem ycje(bs:List (Int×Int))(p t:Nat):rowP bs p bs.length t=(plR bs p).1.getD t 0:=by unfold rowP;rw[if_neg (by omega),zAA];rfl
section
variable {bs:List (Int×Int)}{p x i:Nat}
theorem ybvm(hx:x<bs.length)(hi:i=bs.length-1-x):plR (bs.drop (bs.length-(x+1))) p=(((pP bs p x:Nat):Int)::(plR (bs.drop (bs.length-x)) p).1,pP bs p x*szP (bs.getD i (0,0))):=by
 have e1:bs.length-(x+1)=i:=by omega
 have e2:bs.length-x=i+1:=by omega
 unfold pP;rw[e1,e2,drop_at (0,0) (show i<bs.length by omega)]
 rfl
theorem ydda(hx:x<bs.length)(hi:i=bs.length-1-x):pP bs p (x+1)=pP bs p x*szP (bs.getD i (0,0)):=by
 show(plR _ p).2=_;rw[ybvm hx hi]
theorem rowP_step(hx:x<bs.length)(hi:i=bs.length-1-x)(t:Nat):rowP bs p (x+1) t=if t=i then((pP bs p x:Nat):Int)else rowP bs p x t:=by
 unfold rowP
 by_cases e:t=i
 .rw[if_pos e,if_neg (by omega),ybvm hx hi,show t-(bs.length-(x+1))=0 by omega]
  rfl
 .rw[if_neg e]
  by_cases q:t<i
  .rw[if_pos (by omega),if_pos (by omega)]
  .rw[if_neg (by omega),if_neg (by omega),ybvm hx hi,show t-(bs.length-(x+1))=(t-(bs.length-x))+1 by omega]
   rfl
theorem yebh:pP bs p x=p*ybq (bs.drop (bs.length-x)):=ypj _ _
theorem yeac(h:bdR bs):pP bs p x<=p*ybq bs:=by
 rw[yebh];refine zS _ ?_
 conv=>rhs;rw[<-zU (bs.length-x) bs,yie]
 exact zM _ (ykr fun b hb=>h b (zAL hb))
end
def cP(T:List (List (Int×Int)))(q j:Nat):List Int:=if j<T.length-q then[]else(plT (T.drop (T.length-q)) 1).1.getD (j-(T.length-q)) []
def ppT(T:List (List (Int×Int)))(q:Nat):Nat:=(plT (T.drop (T.length-q)) 1).2
theorem yciv(T:List (List (Int×Int))):ppT T 0=1:=by unfold ppT;rw[zAG,zAB];rfl
theorem ydxa(T:List (List (Int×Int)))(j:Nat):cP T T.length j=(plT T 1).1.getD j []:=by unfold cP;rw[if_neg (by omega),zAA];rfl
section
variable {T:List (List (Int×Int))}{q v:Nat}
theorem ybzr(hq:q<T.length)(hv:v=T.length-1-q):plT (T.drop (T.length-(q+1))) 1=((plR (T.getD v []) (ppT T q)).1::(plT (T.drop (T.length-q)) 1).1,(plR (T.getD v []) (ppT T q)).2):=by
 have e1:T.length-(q+1)=v:=by omega
 have e2:T.length-q=v+1:=by omega
 unfold ppT;rw[e1,e2,drop_at [] (show v<T.length by omega)]
 rfl
theorem yblw(hq:q<T.length)(hv:v=T.length-1-q):ppT T (q+1)=(plR (T.getD v []) (ppT T q)).2:=by
 show(plT _ 1).2=_;rw[ybzr hq hv]
theorem ydfp(hq:q<T.length)(hv:v=T.length-1-q)(j:Nat):cP T (q+1) j=if j=v then(plR (T.getD v []) (ppT T q)).1 else cP T q j:=by
 unfold cP
 by_cases e:j=v
 .rw[if_pos e,if_neg (by omega),ybzr hq hv,show j-(T.length-(q+1))=0 by omega]
  rfl
 .rw[if_neg e]
  by_cases w:j<v
  .rw[if_pos (by omega),if_pos (by omega)]
  .rw[if_neg (by omega),if_neg (by omega),ybzr hq hv,show j-(T.length-(q+1))=(j-(T.length-q))+1 by omega]
   rfl
theorem ydxe:ppT T q=ybl (T.drop (T.length-q)):=by unfold ppT;rw[yys,Nat.one_mul]
theorem ydog(h:bdT T):ppT T q<=ybl T:=by
 rw[ydxe]
 conv=>rhs;rw[<-zU (T.length-q) T,ygo]
 exact zM _ (ynt fun b hb=>h b (zAL hb))
theorem ydlh(h:bdT T)(hq:q<T.length)(hv:v=T.length-1-q)(x:Nat):pP (T.getD v []) (ppT T q) x<=ybl T:=by
 refine zV (yeac (ybza h)) ?_;have:ppT T q*ybq (T.getD v [])=ppT T (q+1):=by rw[yblw hq hv,ypj]
 rw[this];exact ydog h
end
end
section
namespace Sh
open Ev Go.RowKit
def yep(T:List (List (Int×Int))):List (List Int):=(plT T 1).1
theorem ycag:∀(rs:List (List (Int×Int))) (p v:Nat),v<rs.length->((plT rs p).1.getD v []).length=(rs.getD v []).length
 |[],_,_,h=>by simp at h
 |r::rs,p,0,_=>ybhu r _
 |r::rs,p,v+1,h=>ycag rs p v (by simpa using h)
theorem yty{T:List (List (Int×Int))}{j:Nat}(hj:j<T.length):((yep T).getD j []).length=(T.getD j []).length:=ycag T 1 j hj
def ydi(p:ProgT)(g:Gr)(net:List Nat)(kind:Int)(T:List (List (Int×Int))):List SV:=[yfd p g,usV net,.i .i64 kind,yu T,ycz (yep T)]
theorem ybsj{Q1 Q2:(Nat->Option ABlk)->Value->Prop}{p:ProgT}{g:Gr}(h:Checked Q1 Q2 p g):Returns zH 123 [.ag (yfj Q1 Q2 p.raw),grV g] (yfd p g):=by
 have hp':=h.hp;unfold ProgT.ok at hp';simp only[zQ,decide_eq_true_eq]at hp';have hM:Returns zH 123 [.ag (ymw p.raw),grV g] (yfd p g):=(ybfg p.raw h.hg hp'.1.1.2 hp'.1.1.1.2).exT
 have hC:Ct zH 123 [.ag (yfj Q1 Q2 p.raw),grV g] fun r=>Sim r (yfd p g):=by
  refine(hM.use (Q:=fun r=>Sim r (yfd p g)) (Sim.refl _)).simL ?_;exact⟨ybeh _ _ _,Sim.refl _,trivial⟩
 exact Returns.of hC
section
variable {Q1 Q2:(Nat->Option ABlk)->Value->Prop}{p:ProgT}{g:Gr}
set_option maxHeartbeats 4000000 in
theorem ybhc(h:Checked Q1 Q2 p g)(hT:TabOk (tabP p g))(kind:Int):Returns zH 58 [.ag (yfj Q1 Q2 p.raw),grV g,.i .i64 kind] (.rf (ydi p g (g.ports.map netP) kind (tabP p g))):=by
 refine Returns.of (ydui _ _ ?_);have hM:=ybsj h;have hN:=ybqc h.hg;have hTb:=yld h;have htot:=hT.tot;have hlen:=hT.len;obtain⟨T,hTT⟩:∃T,tabP p g=T:=⟨_,rfl⟩;rw[hTT]at hTb hT htot hlen ⊢
 generalize g.ports.map netP=net at hN ⊢
 simp only[yfj,grV]at hM hN hTb;simp only[c58,ydox,ydps,yfj,grV,clash,go_sem,zA,zB,zC,↓reduceIte,reduceCtorEq];refine hM.use ?_;simp only[usV,yfd]at hN ⊢;simp only[ybh,clash,go_sem,zA,zB,zF,zC,↓reduceIte,reduceCtorEq];refine hN.use ?_;simp only[go_sem,zB,zF,↓reduceIte]
 repeat refine zD (by first|omega|decide|exact ikw (by omega) (by omega)) ?_
 refine hTb.use ?_;simp only[ydtv,ydtm,ydov,yu,splice,clash,go_sem,zA,zB,zF,zC,↓reduceIte,reduceCtorEq]
 repeat refine zD (by first|omega|decide|exact ikw (by omega) (by omega)) ?_
 let bo:Nat×Fam:=(21,.one (some ⟨86,true,5,1,fun _=>[yfd p g,usV net,.i .i64 kind,yu T,.os (28,0) 0 T.length true]⟩))
 let fm:Nat->Nat×Fam:=fun q=>(303,.many fun j=>if T.length-q<=j/\j<T.length then some (intO (cP T q j))else none)
 let rowQ:Nat->Nat->List SV:=fun q j=>if T.length-q<=j then[.os (303,j) 0 (T.getD j []).length true]else[.a (.slice none 0 0)]
 have hlv:∀(O:Own) (q j:Nat),T.length-q<=j/\j<T.length->look O 303=some (fm q).2->live O (303,j)=true:=fun O q j hj ho=>by
  show(lookO O (303,j)).isSome=true;unfold lookO;rw[ho];show(if T.length-q<=j/\j<T.length then some (intO (cP T q j))else none).isSome=true
  rw[if_pos hj];rfl
 refine ybf (σ:=Nat) (fun q=>⟨[(9,.i .i64 ((T.length:Int)-1-(q:Nat))),(8,.i .i64 (ppT T q:Nat)),(7,.pt (21,0) 0 0)],[bo,(28,.one (some ⟨22,false,1,T.length,rowQ q⟩)),fm q]⟩) (fun q=>q<=T.length) (fun q=>T.length-q) 0 (zI _) ?_ ?_
 .refine yh [] [] [] ?_;simp only[bo,fm,rowQ,usV,yfd,yu,yciv,allQ,live,yc,yx,zL,go_sem,zA,zC,↓reduceIte,reduceCtorEq];refine⟨fun _ _ _ _ e=>e,⟨by omega,rfl⟩,fun j hj=>?_,fun j b hb=>?_⟩
  .rw[if_neg (by omega)];exact yib rfl
  .rw[if_neg (by omega)]at hb;cases hb
 .intro q hq
  by_cases hlt:q<T.length
  .obtain⟨v,hv⟩:∃v,T.length-1-q=v:=⟨_,rfl⟩;have hvn:v<T.length:=by omega
   have hvi:(T.length:Int)-1-(q:Nat)=(v:Int):=by omega
   have d1:decide ((v:Int)>=0)=true:=by simp
   obtain⟨hr,hb⟩:=hT.at_ hvn;have hpS:=yblw hlt hv.symm;have hcS:=ydfp hlt hv.symm;have hpl:=ydlh hT.bd hlt hv.symm;obtain⟨pq,hpq⟩:∃pq,ppT T q=pq:=⟨_,rfl⟩;obtain⟨bs,hbs⟩:∃bs,T.getD v []=bs:=⟨_,rfl⟩;rw[hbs,hpq]at hpS hcS hpl;rw[hbs]at hr hb;have hnv:¬T.length-q<=v:=by omega
   simp only[ydcs,ydvn,ydyb,if_neg hnv,bo,fm,rowQ,usV,yfd,yu,ybb,hvi,d1,hbs,hpq,splice,clash,go_sem,zA,zB,zF,zC,↓reduceIte,reduceCtorEq]
   repeat refine zD (by first|omega|decide|exact ikw (by omega) (by omega)) ?_
   have hlq:∀(O:Own) (j:Nat),T.length-q<=j/\j<T.length->look O 303=some (fm q).2->Sh.live O (303,j)=true:=fun O j=>hlv O q j;refine ybf (σ:=Nat) (fun x=>⟨[(10,.i .i64 ((bs.length:Int)-1-(x:Nat))),(9,.i .i64 (v:Nat)),(8,.i .i64 (pP bs pq x:Nat)),(7,.pt (21,0) 0 0)],[bo,(28,.one (some ⟨22,false,1,T.length,fun j=>if j=v then[.os (54,0) 0 bs.length true]else rowQ q j⟩)),(54,.one (some ⟨3,false,1,bs.length,fun t=>[.i .i64 (rowP bs pq x t)]⟩)),fm q]⟩) (fun x=>x<=bs.length) (fun x=>bs.length-x) 0 (zI _) ?_ ?_
   .refine yh [] [] [] ?_;simp only[bo,fm,rowQ,usV,yfd,yu,ybb,ydii,allQ,live,yc,yx,zL,go_sem,zA,zC,↓reduceIte,reduceCtorEq];refine⟨fun _ _ _ _ e=>e,by omega,fun j hj=>?_,fun t ht=>by rw[ycdb bs pq ht],fun j b hb=>?_⟩
    .by_cases e:j=v
     .simp only[if_pos e];exact ygc rfl rfl
     .by_cases w:T.length-q<=j
      .simp only[if_neg e,if_pos w];exact ygc (hlq _ j ⟨w,hj⟩ rfl) rfl
      .simp only[if_neg e,if_neg w];exact yib rfl
    .by_cases w:T.length-q<=j/\j<T.length
     .rw[if_pos w]at hb;cases hb
      exact⟨_,if_pos w,ycf (ycl _)⟩
     .rw[if_neg w]at hb;cases hb
   .intro x hx
    by_cases hlt2:x<bs.length
    .obtain⟨i,hi⟩:∃i,bs.length-1-x=i:=⟨_,rfl⟩;have hin:i<bs.length:=by omega
     have hii:(bs.length:Int)-1-(x:Nat)=(i:Int):=by omega
     have d2:decide ((i:Int)>=0)=true:=by simp
     have hs1:=ydda (p:=pq) hlt2 hi.symm;have hs2:=rowP_step (p:=pq) hlt2 hi.symm;have hl1:=hpl x;have hl2:=hpl (x+1);obtain⟨b1,b2,b3⟩:=hb i hin;obtain⟨⟨lo,hi'⟩,hbe⟩:∃b,bs.getD i (0,0)=b:=⟨_,rfl⟩;rw[hbe]at b1 b2 b3 hs1;simp only at b1 b2 b3;have hsz:=(yol (b:=(lo,hi')) b1).2;simp only at hsz;have hm:((pP bs pq x:Nat):Int)*(hi'-lo+1)=((pP bs pq (x+1):Nat):Int):=by rw[hs1,zAS,hsz]
     simp only[ydck,ycww,ycsq,ycpc,bo,fm,rowQ,usV,yfd,yu,ybb,hii,d2,hbs,hbe,hm,splice,clash,go_sem,zN,zA,zB,zF,zT,↓reduceIte,reduceCtorEq]
     repeat refine zD (by first|omega|decide|exact ikw (by omega) (by omega)) ?_
     refine yj (x+1) hlt2 (by omega) ?_
     refine yh [] [] [] ?_;simp only[allQ,live,yc,yx,go_sem,zA,zC,↓reduceIte,reduceCtorEq];refine⟨fun _ _ _ _ e=>e,by omega,fun j hj=>?_,fun t ht=>yfn ?_,fun j b hb=>?_⟩
     .by_cases e:j=v
      .simp only[if_pos e];exact ygc rfl rfl
      .by_cases w:T.length-q<=j
       .simp only[if_neg e,if_pos w];exact ygc (hlq _ j ⟨w,hj⟩ rfl) rfl
       .simp only[if_neg e,if_neg w];exact yib rfl
     .rw[hs2]
      by_cases e:t=i
      .rw[if_pos e,if_pos e]
      .rw[if_neg e,if_neg e]
     .by_cases w:T.length-q<=j/\j<T.length
      .rw[if_pos w]at hb;cases hb
       exact⟨_,if_pos w,ycf (ycl _)⟩
      .rw[if_neg w]at hb;cases hb
    .obtain rfl:x=bs.length:=by omega
     have hii:(bs.length:Int)-1-(bs.length:Nat) = -1:=by omega
     simp only[ydck,ydyd,bo,fm,rowQ,usV,yfd,yu,ybb,hii,clash,zAU,zAV,go_sem,zA,zB,↓reduceIte,reduceCtorEq]
     repeat refine zD (by first|omega|decide|exact ikw (by omega) (by omega)) ?_
     refine yj (q+1) hlt (by omega) ?_
     refine yh [(303,fun j=>if j=v then(54,0)else(303,j))] [] [] ?_
     simp only[ydri,hpS,allQ,live,yc,yx,go_sem,zA,zC,↓reduceIte,reduceCtorEq];refine⟨?_,by omega,fun j hj=>?_,fun j b hb=>?_⟩
     .repeat' apply zD
      all_goals first|exact fun i _=>ybar (by decide) (by decide)|exact fun i _=>yql (by decide) (by decide)|exact fun i _ j _=>ywm (by decide)
     .by_cases e:j=v
      .have e2:T.length-(q+1)<=j:=by omega
       simp only[if_pos e,if_pos e2];exact ygc (hlv _ (q+1) j ⟨e2,hj⟩ rfl) (by subst e;simp only[hbs,go_sem,↓reduceIte])
      .by_cases w:T.length-q<=j
       .have e2:T.length-(q+1)<=j:=by omega
        simp only[if_neg e,if_pos w,if_pos e2];exact ygc (hlv _ (q+1) j ⟨e2,hj⟩ rfl) (by simp only[e,go_sem,↓reduceIte])
       .have e2:¬T.length-(q+1)<=j:=by omega
        simp only[if_neg e,if_neg w,if_neg e2];exact yib rfl
     .by_cases w:T.length-(q+1)<=j/\j<T.length
      .rw[if_pos w]at hb;cases hb
       by_cases e:j=v
       .subst e;simp only[go_sem,zA,↓reduceIte];have hcj:=hcS j;rw[if_pos rfl]at hcj;rw[hcj];refine ycf (l:=(plR bs pq).1) (c:=⟨3,false,1,bs.length,fun t=>[SV.i .i64 (rowP bs pq bs.length t)]⟩) ⟨⟨rfl,rfl,rfl,(ybhu bs pq).symm⟩,fun t ht=>?_⟩;show[SV.i .i64 (rowP bs pq bs.length t)]=_;rw[ycje]
       .have hcj:=hcS j;rw[if_neg e]at hcj;rw[hcj];have w2:T.length-q<=j/\j<T.length:=⟨by omega,w.2⟩
        simp only[e,go_sem,zA,↓reduceIte];exact⟨_,if_pos w2,ycf (ycl _)⟩
      .rw[if_neg w]at hb;cases hb
  .obtain rfl:q=T.length:=by omega
   have hvi:(T.length:Int)-1-(T.length:Nat) = -1:=by omega
   simp only[ydcs,ydab,bo,fm,rowQ,usV,yfd,yu,ybb,hvi,clash,zAU,zAV,go_sem,zA,zB,zF,↓reduceIte,reduceCtorEq];have hn0:∀j,T.length-T.length<=j:=fun j=>by omega
   have hcl:∀j,cP T T.length j=(yep T).getD j []:=fun j=>ydxa T j;have hpl:(yep T).length=T.length:=ybaj T 1;have hrl:∀j,j<T.length->((yep T).getD j []).length=(T.getD j []).length:=fun j hj=>yty hj;refine⟨fun j hj=>?_,ycxx ⟨Sim.refl _,Sim.refl _,Sim.refl _,Sim.refl _,?_,trivial⟩ rfl⟩
   .simp only[if_pos (hn0 j)];have w:T.length-T.length<=j/\j<T.length:=⟨hn0 j,hj⟩;simp only[if_pos w,intO,hcl,hrl j hj,go_sem,zA,↓reduceIte]
   .unfold ycz ybc;rw[hpl];refine ydp fun j hj=>?_;simp only[if_pos (hn0 j)];have w:T.length-T.length<=j/\j<T.length:=⟨hn0 j,hj⟩;simp only[if_pos w,intO,hcl,hrl j hj,SimL,go_sem,zA,↓reduceIte];exact Sim.refl _
end
end Sh
end
section
namespace Sh
open Ev Go.RowKit
theorem ydtw{h:Nm->Nm}{vir:List Nat}{fr:List Nm}{O1 O:Own}{X:List SV}{k:IntKind}{x:Int}(e:X=[.i k x]):telL h vir fr O1 O X [.i k x]:=by
 subst e;exact⟨.inl ⟨trivial,by rw[ycer];exact Sim.refl _,rfl⟩,rfl,trivial⟩
theorem ybdv{l:List Int}{c:OB}{h:Nm->Nm}{fr:List Nm}{O1 O2:Own}(hc:(c.e=3/\c.bx=false/\c.z=1/\c.n=l.length)/\∀i,i<l.length->c.g i=[.i .i64 (l.getD i 0)]) :
 (c.e=(intO l).e/\c.bx=(intO l).bx/\c.z=(intO l).z/\c.n=(intO l).n)/\(mapE (intO l).e=true->∀i,c.g i=(intO l).g i)/\∀i,i<(intO l).n->telL h [] fr O1 O2 (c.g i) ((intO l).g i) :=
 ⟨hc.1,fun q=>absurd (show false=true from q) zAO,fun i hi=>ydtw (hc.2 i hi)⟩
set_option maxHeartbeats 8000000 in
theorem ycjj(p:ProgT){g:Gr}(hg:ybg g)(hp:p.ok=true){c:Conf}(hc:ConfIn g.ports.length p.vars.length c){v:Nat}(hv:v<g.ports.length){r:Nat}(hr:r<p.rules.length) :
 Cm zH 127 [(302,0)] (ybu 302 303 c.length fun j=>c.getD j []) [.rf (yje p.raw g),.os (302,0) 0 c.length true,.i .i64 v,.i .i64 r] fun r' o=>r'=ybc (yis p g c v r)/\o=ybu 302 303 c.length fun j=>c.getD j []:=by
 refine ycij [(302,0)] [] _ _ _ ?_;obtain⟨R,hR⟩:∃R,p.rules.getD r default=R:=⟨_,rfl⟩;have hp':=hp;unfold ProgT.ok at hp';simp only[zQ,decide_eq_true_eq]at hp'
 have hok:R.ok p.vars.length=true:=by
  rw[<-hR,getD_at hr];exact List.all_eq_true.1 hp'.2 _ (zW _)
 unfold RuleT.ok at hok;simp only[zQ,decide_eq_true_eq]at hok
 have hraw:p.raw.rules.getD r default=R.raw:=by
  rw[<-hR];simp[ProgT.raw,zJ,hr]
 have hlen:p.raw.rules.length=p.rules.length:=by simp[ProgT.raw]
 have hsl:R.raw.sets.length=R.sets.length:=by simp[RuleT.raw]
 have hid:=hg.2.2.1;have hcl:=hc.len;have hrow:=hc.at_ hv;have hne:¬(c.getD v []).length=0:=by omega
 have hvc:v<c.length:=by omega
 let w:Nat->List Int:=fun j=>c.getD j []
 simp only[c127,yczl,ycya,ycne,hne,yje,ydh,yjc,hraw,hlen,hsl,ybu,ycq,intO,if_pos hvc,clash,go_sem,zA,zB,zF,zC,↓reduceIte,reduceCtorEq];obtain⟨nv,hnv⟩:∃k,p.vars.length=k:=⟨_,rfl⟩;have hrl:=hrow.1;rw[hnv]at hrl hok hc;rw[hnv]at hp';have hmv:yis p g c v r=yop p g c v (c.getD v []) R.sets:=by unfold yis;rw[hR]
 have hml:∀k,(yop p g c v (c.getD v []) (R.sets.take k)).length=nv:=fun k=>(yqr p g c v _ _).trans hrl
 repeat refine zD (by first|omega|decide|exact ikw (by omega) (by omega)) ?_
 refine ybf (σ:=Nat) (fun k=>⟨[(28,.i .i64 k),(27,.i .i64 R.sets.length),(26,yjc R.raw.sets),(0,.rf (yje p.raw g)),(1,.os (302,0) 0 c.length true),(2,.i .i64 v),(9,.os (17,0) 0 nv true)],
  (17,.one (some ⟨3,false,1,nv,fun i=>[.i .i64 ((yop p g c v (c.getD v []) (R.sets.take k)).getD i 0)]⟩))::ybu 302 303 c.length w⟩) (fun k=>k<=R.sets.length) (fun k=>R.sets.length-k) 0 (zI _) ?_ ?_
 .refine ybi [] [] [] ?_;simp only[yje,ydh,yjc,hlen,hsl,hrl,ybu,ycq,allQ,live,yc,yx,zL,go_sem,zA,zC,↓reduceIte,reduceCtorEq];refine⟨fun _ _ _ _ e=>e,fun i hi=>rfl,fun i hi=>⟨Sim.refl _,by rw[if_pos hi]⟩,fun i b hb=>?_⟩
  obtain⟨q,rfl⟩:=yct hb;exact⟨_,if_pos q,ycf (ycl _)⟩
 .intro k hk;simp only[ydai,ycqi,ycms,yje,yjc,hsl,ybu,splice,clash,go_sem,zA,zB,zF,zC,↓reduceIte,reduceCtorEq];refine⟨fun hlt=>?_,fun hlt=>?_⟩
  .have hk':k<R.sets.length:=by omega
   obtain⟨S,hS⟩:∃S,R.sets.getD k default=S:=⟨_,rfl⟩
   have hset:R.raw.sets.getD k default=⟨S.1,S.2.ser⟩:=by
    rw[<-hS];simp[RuleT.raw,zJ,hk']
   have hSok:=List.all_eq_true.1 hok.2 S (by rw[<-hS,getD_at hk'];exact zW _)
   simp only[zQ,decide_eq_true_eq]at hSok;have hV:=ybfr p.raw hg hc hv S.2 hSok.1.2 hSok.2;refine⟨by omega,?_⟩
   rw[hset];refine .inl ⟨fun q hq=>?_,hV.useS ⟨Sim.refl _,?_,Sim.refl _,Sim.refl _,trivial⟩ ?_⟩
   .simp only[ycq,if_pos hq];exact⟨zAI _,fun _ _=>⟨trivial,trivial⟩⟩
   .unfold ycz;refine ydp fun q hq=>?_;simp only[ycq,if_pos hq];exact⟨⟨Sim.refl _,trivial⟩,rfl⟩
   have hB:=ybyo (p.vars.getD S.1.toNat default).kind (ybm g v (p.vars.getD S.1.toNat default)) (ydr g c v S.2 (-1));have hvars:p.raw.vars=p.vars:=rfl;simp only[ycsk,ybh,ywk,yfc,varC,splice,hvars,hnv,clash,go_sem,zA,zB,zF,↓reduceIte,reduceCtorEq];refine⟨by omega,by omega,by omega,hB.use ?_⟩
   simp only[go_sem,zA,↓reduceIte];have hb2:Nat.testBit 134217727 25=true:=by decide
   simp only[ycxj,hb2,clash,go_sem,zA,zB,↓reduceIte,reduceCtorEq];refine⟨by omega,by omega,ikw (by omega) (by omega),?_⟩
   refine yj (k+1) (by omega) (by omega) ?_
   refine ybi [] [] [] ?_;simp only[ybqq p g c v _ _ k hk',hS,ycq,allQ,live,yc,yx,go_sem,zA,zC,↓reduceIte,reduceCtorEq];refine⟨fun _ _ _ _ e=>e,by omega,fun i hi=>yfn ?_,fun i hi=>by rw[if_pos hi],fun i b hb=>?_⟩
   .rw[ycht (by rw[hml];omega)]
    by_cases q:i=S.1.toNat
    .simp only[if_pos q]
    .simp only[if_neg q]
   .obtain⟨q,rfl⟩:=yct hb;exact⟨_,if_pos q,ycf (ycl _)⟩
  .obtain rfl:k=R.sets.length:=by omega
   simp only[ycqd,yga,clash,go_sem,zA,zB,↓reduceIte,reduceCtorEq];have hl:=hml R.sets.length;rw[zAP,<-hmv]at hl ⊢;refine⟨ybc (yis p g c v r),ybu 302 303 c.length w,?_,?_,rfl,rfl⟩
   .refine ybi [] [] [(17,0)] ?_;simp only[ybu,ycq,ybc,allQ,live,yc,go_sem,zA,zC,↓reduceIte,reduceCtorEq];refine⟨fun _ _ _ _ e=>e,by rw[hl];exact Sim.refl _,fun i hi=>by rw[if_pos hi],fun i b hb=>?_⟩
    obtain⟨q,rfl⟩:=yct hb;exact⟨_,if_pos q,ybdv (ycl _)⟩
   .simp only[ybu,ycq,yby,ydn,ybc,allQ,live,go_sem,zA,↓reduceIte];exact⟨fun k hk=>by rw[if_pos hk],fun i b hb=>(yct hb).2▸yjn⟩
end Sh
end
section
theorem ybcy(f:Nat->Int):∀(l:List Nat),sumI (fun j=>f (l.getD j 0)) l.length=(l.map f).sum
 |[]=>rfl
 | x::l=>by
   show sumI _ (l.length+1)=_;rw[ykw,List.map_cons,List.sum_cons,<-ybcy f l];rfl
theorem ybmi(f:Nat->Int)(p:Nat->Bool):∀m,(((zAJ m).filter p).map f).sum=sumI (fun v=>if p v=true then f v else 0) m
 |0=>rfl
 | m+1=>by
   rw[List.range_succ,List.filter_append,List.map_append,List.sum_append,ybmi f p m];show _=sumI _ m+_;congr 1;cases h:p m<;>simp[h]
theorem ybog{g:Nat->Int}{n:Nat}:∀d,(∀v,n<=v->g v=0)->sumI g (n+d)=sumI g n
 |0,_=>rfl
 | d+1,h=>by
   show sumI g (n+d)+g (n+d)=_;rw[ybog d h,h (n+d) (by omega)];omega
theorem yccr{f:Nat->Int}{s n:Nat}(hn:n<=32)(hs:s<2^n):sumI (fun j=>f ((ybw s).getD j 0)) (ybw s).length=sumI (fun v=>if s.testBit v=true then f v else 0) n:=by
 rw[ybcy];unfold ybw;rw[ybmi]
 have:=ybog (g:=fun v=>if s.testBit v=true then f v else 0) (n:=n) (32-n) fun v hv=>by
  show(if s.testBit v=true then f v else 0)=0
  rw[Nat.testBit_lt_two_pow (Nat.lt_of_lt_of_le hs (Nat.pow_le_pow_right (by omega) hv))];rfl
 rw[show n+(32-n)=32 by omega]at this
 exact this
theorem ybmz:∀(xs qs:List Int),grR xs xs qs=0
 |[],_=>rfl
 |_::_,[]=>rfl
 | x::xs,q::qs=>by
   show(x-x)*q+grR xs xs qs=0;rw[ybmz xs qs,Int.sub_self,Int.zero_mul];rfl
theorem ybhw{f:Nat->Int}{B:Int}:∀n:Nat,(∀i,i<n -> -B<=f i/\f i<=B) -> -(n*B)<=sumI f n/\sumI f n<=n*B
 |0,_=>by simp[sumI]
 | n+1,h=>by
   have ih:=ybhw n fun i hi=>h i (by omega)
   have h1:=h n (by omega)
   show -(((n+1:Nat):Int)*B)<=sumI f n+f n/\sumI f n+f n<=((n+1:Nat):Int)*B;have:((n+1:Nat):Int)*B=n*B+B:=by rw[Int.natCast_add,Int.add_mul];simp
   omega
theorem ycxf{a b:Int}(h1:-2000000<=a/\a<=2000000)(h2:0<=b/\b<=32768):-65536000000<=a*b/\a*b<=65536000000:=by
 have e1:a*b<=2000000*b:=zAC h1.2 h2.1;have e2:-2000000*b<=a*b:=zAC h1.1 h2.1;omega
theorem ybss:∀{bs:List (Int×Int)}(p:Nat) {t:Nat},bdR bs->t<bs.length->∃m:Nat,(plR bs p).1.getD t 0=(m:Int)/\m<=p*ybq bs
 |[],_,_,_,h=>by simp at h
 | b::bs,p,0,hb,_=>⟨(plR bs p).2,rfl,by
   rw[ypj];exact zS _ (zM _ (yol (hb b zG)).1)⟩
 | b::bs,p,t+1,hb,h=>by
   obtain⟨m,h1,h2⟩:=ybss (bs:=bs) p (t:=t) (fun x hx=>hb x (zY _ hx)) (by simpa using h)
   exact⟨m,h1,zV h2 (zS _ (zM _ (yol (hb b zG)).1))⟩
theorem ybsz:∀{rs:List (List (Int×Int))}(p:Nat) {v t:Nat},bdT rs->v<rs.length->t<(rs.getD v []).length->∃m:Nat,((plT rs p).1.getD v []).getD t 0=(m:Int)/\m<=p*ybl rs
 |[],_,_,_,_,h,_=>by simp at h
 | r::rs,p,0,t,hb,_,ht=>by
   obtain⟨m,h1,h2⟩:=ybss (bs:=r) (plT rs p).2 (hb r zG) ht;refine⟨m,h1,zV h2 ?_⟩;rw[yys];show p*ybl rs*ybq r<=p*(ybq r*ybl rs);rw[zAD,Nat.mul_comm (ybl rs)];exact zAI _
 | r::rs,p,v+1,t,hb,h,ht=>by
   obtain⟨m,h1,h2⟩:=ybsz (rs:=rs) p (v:=v) (t:=t) (fun x hx=>hb x (zY _ hx)) (by simpa using h) ht
   exact⟨m,h1,zV h2 (zS _ (zM _ (ykr (hb r zG))))⟩
def ylm(p:ProgT)(g:Gr)(c:Conf)(v:Nat):Int:=if ydy p g c v<0 then 0 else grR (yis p g c v (ydy p g c v).toNat) (c.getD v []) ((plT (tabP p g) 1).1.getD v [])
section
variable {p:ProgT}{g:Gr}{c:Conf}
theorem ydvj{v:Nat}:(ybj p g c).testBit v=(decide (v<g.ids.length)&&decide (ydy p g c v>=0)):=yod _ _ _
theorem ydhh(hg:ybg g)(hp:p.ok=true)(hf:∀c,yfs p g c=true->∀s,yfs p g (ydm p g c s)=true)(hb:bdT (tabP p g))(hc:yfs p g c=true)(h32:g.ids.length<=32){s:Nat}(hs:subB s (ybj p g c))(hs2:s<2^g.ids.length) :
 rkT (tabP p g) c+sumI (fun j=>ylm p g c ((ybw s).getD j 0)) (ybw s).length=rkT (tabP p g) (ydm p g c s):=by
 have hd:yfs p g (ydm p g c s)=true:=hf c hc s;have hci:=yih.1 hc;have hdi:=yih.1 hd;have hl:c.length=g.ids.length:=(yke.1 hci).1.trans (yhb _ _ _);have h1:=ycud 1 hci hdi;rw[ycbx (by rw[Sh.ykn]) (by rw[ybaj];exact(yhb _ _ _).trans hl.symm),hl]at h1
 rw[yccr h32 hs2]
 have h2:sumI (fun v=>if s.testBit v=true then ylm p g c v else 0) g.ids.length=sumI (fun i=>grR ((ydm p g c s).getD i []) (c.getD i []) ((plT (tabP p g) 1).1.getD i [])) g.ids.length:=ywn fun v hv=>by
  rw[Sh.ynf p g c s (by omega)]
  cases hb:s.testBit v with
  | true =>
    have:=hs v hb;rw[ydvj,zQ,decide_eq_true_iff,decide_eq_true_iff]at this;show ylm p g c v=grR (yis p g c v _) _ _;unfold ylm;rw[if_neg (by omega)]
  | false =>
    show(0:Int)=grR (c.getD v []) _ _;rw[ybmz]
 rw[h2,h1];omega
end
end
end Go.Proofs.YthclbjjgfcgbgaaGreatDoor
