/- Joined. -/
import Derived.Test.YthclbjjgfcgbgaaGreatDoorPkCb9
set_option linter.unusedSimpArgs false
set_option linter.unusedVariables false
set_option maxRecDepth 8000
open Nat renaming reduceEqDiff->zA,reduceAdd->zB,reduceLT->zC,reduceLeDiff->zD,reduceBEq->zF,zero_le->zG,pow_le_pow_right->zI,le_trans->zN,le_mul_of_pos_left->zO,not_lt_zero->zS,reduceMul->zT,le_refl->zX,sub_self->zZ,mul_le_mul_left->zAE,lt_of_lt_of_le->zAF,sub_zero->zAM,testBit_lt_two_pow->zAP,mul_le_mul->zAR,max_eq_right->zAY,div_le_self->zAZ,testBit_and->zBB,max_eq_left->zBC,mul_comm->zBE,le_total->zBF,lt_trans->zBG
open Int renaming lt_irrefl->zH,reduceBNe->zL,reduceToNat->zQ,toNat_natCast->zY,mul_le_mul_of_nonneg_right->zAJ,reduceNeg->zAU,natCast_mul->zBA,reduceGE->zBD
open Go.Proofs.Tryz renaming prog->zJ
open List renaming mem_cons_self->zK,mem_cons_of_mem->zU,length_map->zW,not_mem_nil->zAB,getElem_mem->zAC,getD_eq_getElem?_getD->zAD,length_append->zAG,drop_length->zAH,getD->zAI,getElem_of_mem->zAK,mem_map_of_mem->zAL,getElem?_eq_getElem->zAN,headD_cons->zAO,take_append_drop->zAQ,range->zAS,mem_of_mem_take->zAT,getElem?_map->zAX,take->zBH,drop->zBI
open Bool renaming and_eq_true->zM,false_eq_true->zAV,false_ne_true->zAW
open Classical renaming byContradiction->zV
open And renaming intro->zAA
open Go
namespace Go.Proofs.YthclbjjgfcgbgaaGreatDoor
section
theorem ybob:∀(bs:List (Int×Int)) (k:Nat),(unR bs k).1.length=bs.length
 |[],_=>rfl
 |b::bs,k=>by show(unR bs k).1.length+1=_;rw[ybob bs k];rfl
theorem ycfs:∀(rs:List (List (Int×Int))) (k:Nat),(unT rs k).1.length=rs.length
 |[],_=>rfl
 |r::rs,k=>by show(unT rs k).1.length+1=_;rw[ycfs rs k];rfl
theorem ychm:∀(rs:List (List (Int×Int))) (k v:Nat),v<rs.length->((unT rs k).1.getD v []).length=(rs.getD v []).length
 |[],_,_,h=>by simp at h
 |r::rs,k,0,_=>ybob r _
 |r::rs,k,v+1,h=>ychm rs k v (by simpa using h)
def rowU(bs:List (Int×Int))(k x t:Nat):Int:=if t<bs.length-x then(bs.getD t (0,0)).1 else(unR (bs.drop (bs.length-x)) k).1.getD (t-(bs.length-x)) 0
def kU(bs:List (Int×Int))(k x:Nat):Nat:=(unR (bs.drop (bs.length-x)) k).2
theorem ydeu(bs:List (Int×Int))(k:Nat):kU bs k 0=k:=by unfold kU;rw[zAM,zAH];rfl
theorem ydqa(bs:List (Int×Int))(k:Nat):kU bs k bs.length=(unR bs k).2:=by unfold kU;rw[zZ];rfl
theorem ycbw(bs:List (Int×Int))(k:Nat){t:Nat}(a:t<bs.length):rowU bs k 0 t=(bs.getD t (0,0)).1:=by unfold rowU;rw[if_pos (by omega)]
theorem ycml(bs:List (Int×Int))(k t:Nat):rowU bs k bs.length t=(unR bs k).1.getD t 0:=by unfold rowU;rw[if_neg (by omega),zZ];rfl
section
variable {bs:List (Int×Int)}{k x i:Nat}
theorem drop_at{b:Type}{l:List b}{i:Nat}(d:b)(a:i<l.length):l.drop i=l.getD i d::l.drop (i+1):=by rw[List.drop_eq_getElem_cons a,yio a]
theorem ycgy(d:x<bs.length)(c:i=bs.length-1-x):unR (bs.drop (bs.length-(x+1))) k=(((bs.getD i (0,0)).1+((kU bs k x%szP (bs.getD i (0,0)):Nat):Int))::(unR (bs.drop (bs.length-x)) k).1,kU bs k x/szP (bs.getD i (0,0))):=by
 have a:bs.length-(x+1)=i:=by omega
 have b:bs.length-x=i+1:=by omega
 unfold kU;rw[a,b,drop_at (0,0) (show i<bs.length by omega)]
 rfl
theorem ydmr(b:x<bs.length)(a:i=bs.length-1-x):kU bs k (x+1)=kU bs k x/szP (bs.getD i (0,0)):=by
 show(unR _ k).2=_;rw[ycgy b a]
theorem ycdo(b:x<bs.length)(a:i=bs.length-1-x)(t:Nat):rowU bs k (x+1) t=if t=i then(bs.getD i (0,0)).1+((kU bs k x%szP (bs.getD i (0,0)):Nat):Int)else rowU bs k x t:=by
 unfold rowU
 by_cases e:t=i
 .rw[if_pos e,if_neg (by omega),ycgy b a,show t-(bs.length-(x+1))=0 by omega]
  rfl
 .rw[if_neg e]
  by_cases q:t<i
  .rw[if_pos (by omega),if_pos (by omega)]
  .rw[if_neg (by omega),if_neg (by omega),ycgy b a,show t-(bs.length-(x+1))=(t-(bs.length-x))+1 by omega]
   rfl
theorem ycpg(b:x<bs.length)(a:i=bs.length-1-x):rowU bs k x i=(bs.getD i (0,0)).1:=by unfold rowU;rw[if_pos (by omega)]
end
def lowT(T:List (List (Int×Int)))(v:Nat):List Int:=(T.getD v []).map (·.1)
theorem ybeg(T:List (List (Int×Int)))(v:Nat):(lowT T v).length=(T.getD v []).length:=by simp[lowT]
theorem ydlb{T:List (List (Int×Int))}{v t:Nat}(a:t<(T.getD v []).length):(lowT T v).getD t 0=((T.getD v []).getD t (0,0)).1:=by
 unfold lowT;rw[yio (by simpa using a),yio a];simp
theorem yxa{T:List (List (Int×Int))}{v:Nat}(a:v<T.length):(ypd T).getD v []=lowT T v:=by
 unfold ypd lowT;rw[yio (by simpa using a),yio a];simp
def cU(T:List (List (Int×Int)))(k q j:Nat):List Int:=if j<T.length-q then lowT T j else(unT (T.drop (T.length-q)) k).1.getD (j-(T.length-q)) []
def kT(T:List (List (Int×Int)))(k q:Nat):Nat:=(unT (T.drop (T.length-q)) k).2
theorem ydiz(T:List (List (Int×Int)))(k:Nat):kT T k 0=k:=by unfold kT;rw[zAM,zAH];rfl
theorem ybxa(T:List (List (Int×Int)))(k:Nat){j:Nat}(a:j<T.length):cU T k 0 j=lowT T j:=by unfold cU;rw[if_pos (by omega)]
theorem ydym(T:List (List (Int×Int)))(k j:Nat):cU T k T.length j=(unT T k).1.getD j []:=by unfold cU;rw[if_neg (by omega),zZ];rfl
section
variable {T:List (List (Int×Int))}{k q v:Nat}
theorem ycfz(c:q<T.length)(d:v=T.length-1-q):unT (T.drop (T.length-(q+1))) k=((unR (T.getD v []) (kT T k q)).1::(unT (T.drop (T.length-q)) k).1,(unR (T.getD v []) (kT T k q)).2):=by
 have a:T.length-(q+1)=v:=by omega
 have b:T.length-q=v+1:=by omega
 unfold kT;rw[a,b,drop_at [] (show v<T.length by omega)]
 rfl
theorem ydgg(a:q<T.length)(b:v=T.length-1-q):kT T k (q+1)=(unR (T.getD v []) (kT T k q)).2:=by
 show(unT _ k).2=_;rw[ycfz a b]
theorem ydlc(a:q<T.length)(b:v=T.length-1-q)(j:Nat):cU T k (q+1) j=if j=v then(unR (T.getD v []) (kT T k q)).1 else cU T k q j:=by
 unfold cU
 by_cases e:j=v
 .rw[if_pos e,if_neg (by omega),ycfz a b,show j-(T.length-(q+1))=0 by omega]
  rfl
 .rw[if_neg e]
  by_cases w:j<v
  .rw[if_pos (by omega),if_pos (by omega)]
  .rw[if_neg (by omega),if_neg (by omega),ycfz a b,show j-(T.length-(q+1))=(j-(T.length-q))+1 by omega]
   rfl
theorem ydrt(a:q<T.length)(b:v=T.length-1-q):cU T k q v=lowT T v:=by unfold cU;rw[if_pos (by omega)]
theorem ydod(c:q<=T.length){j:Nat}(b:j<T.length):(cU T k q j).length=(T.getD j []).length:=by
 unfold cU;split
 .exact ybeg T j
 .rename_i w
  have a:=ychm (T.drop (T.length-q)) k (j-(T.length-q)) (by rw[List.length_drop];omega)
  rw[a];congr 1;simp only[zAI,List.getElem?_drop];rw[show T.length-q+(j-(T.length-q))=j by omega]
theorem ydhk:∀(bs:List (Int×Int)) (k:Nat),(unR bs k).2<=k
 |[],_=>zX _
 |b::bs,k=>zN (zAZ _ _) (ydhk bs k)
theorem ydpc:∀(rs:List (List (Int×Int))) (k:Nat),(unT rs k).2<=k
 |[],_=>zX _
 |r::rs,k=>zN (ydhk r _) (ydpc rs k)
end
def ybvk(bs:List (Int×Int))(xs:List Int)(i:Nat):Prop:=∀t,i<=t->t<bs.length->¬xs.getD t 0<(bs.getD t (0,0)).2
def ybwn(T:List (List (Int×Int)))(c:Conf)(v:Nat):Prop:=∀j,v<=j->j<T.length->ybvk (T.getD j []) (c.getD j []) 0
theorem yvn:∀{bs:List (Int×Int)}{xs:List Int},xs.length=bs.length->ybvk bs xs 0->advR bs xs=(bs.map (·.1),false)
 |[],[],_,_=>rfl
 |[],_::_,h,_=>by simp at h
 |_::_,[],h,_=>by simp at h
 | b::bs,x::xs,h,a=>by
   have e:=yvn (bs:=bs) (xs:=xs) (by simpa using h) fun t _ d=>a (t+1) (by omega) (by simpa using d)
   have c:¬x<b.2:=a 0 (by omega) (by simp)
   unfold advR;rw[e];simp[c]
theorem yzr:∀{bs:List (Int×Int)}{xs:List Int}{i:Nat},xs.length=bs.length->i<bs.length->ybvk bs xs (i+1)->xs.getD i 0<(bs.getD i (0,0)).2 ->
 (advR bs xs).2=true/\(advR bs xs).1.length=bs.length/\∀t,t<bs.length->(advR bs xs).1.getD t 0=if t<i then xs.getD t 0 else if t=i then xs.getD i 0+1 else(bs.getD t (0,0)).1
 |[],_,i,_,h,_,_=>by simp at h
 |_::_,[],_,h,_,_,_=>by simp at h
 | b :: bs,x::xs,0,h,_,c,e=>by
   have d:xs.length=bs.length:=by simpa using h
   have p:=yvn d fun t _ a=>c (t+1) (by omega) (by simpa using a)
   have j:x<b.2:=e;unfold advR;rw[p];simp only[zAV,if_false,if_pos j];refine⟨trivial,by simp,fun t a=>?_⟩
   cases t with
   |zero=>rfl
   | succ t =>
     rw[if_neg (by omega),if_neg (by omega)]
     show(bs.map (·.1)).getD t 0=(bs.getD t (0,0)).1;rw[yio (by simpa using a),yio (by simpa using a)];simp
 | b :: bs,x::xs,i+1,h,o,c,e=>by
   have d:xs.length=bs.length:=by simpa using h
   obtain⟨f,l,m⟩:=yzr (i:=i) d (by simpa using o) (fun t f a=>c (t+1) (by omega) (by simpa using a)) e
   unfold advR;rw[f];simp only[if_true];refine⟨trivial,by simp[l],fun t a=>?_⟩
   cases t with
   |zero=>rw[if_pos (by omega)];rfl
   | succ t =>
     have n:=m t (by simpa using a)
     show(advR bs xs).1.getD t 0=_;rw[n]
     by_cases q:t<i
     .rw[if_pos q,if_pos (by omega)];rfl
     .by_cases g:t=i
      .rw[if_neg q,if_pos g,if_neg (by omega),if_pos (by omega)];rfl
      .rw[if_neg q,if_neg g,if_neg (by omega),if_neg (by omega)];rfl
theorem yvv:∀{T:List (List (Int×Int))}{c:Conf},c.length=T.length->(∀j,j<T.length->(c.getD j []).length=(T.getD j []).length)->ybwn T c 0->advT T c=(ypd T,false)
 |[],[],_,_,_=>rfl
 |[],_::_,h,_,_=>by simp at h
 |_::_,[],h,_,_=>by simp at h
 | b::bs,x::xs,h,d,a=>by
   have l:=yvv (T:=bs) (c:=xs) (by simpa using h) (fun j f=>d (j+1) (by simpa using f)) fun t _ g=>a (t+1) (by omega) (by simpa using g)
   have e:=yvn (bs:=b) (xs:=x) (d 0 (by simp)) (a 0 (by omega) (by simp))
   unfold advT;rw[l,e];simp[ypd]
theorem ybau:∀{T:List (List (Int×Int))}{c:Conf}{v:Nat},c.length=T.length->(∀j,j<T.length->(c.getD j []).length=(T.getD j []).length)->v<T.length->ybwn T c (v+1)->(advR (T.getD v []) (c.getD v [])).2=true ->
 (advT T c).2=true/\(advT T c).1.length=T.length/\∀j,j<T.length->(advT T c).1.getD j []=if j<v then c.getD j []else if j=v then(advR (T.getD v []) (c.getD v [])).1 else lowT T j
 |[],_,i,_,_,h,_,_=>by simp at h
 |_::_,[],_,h,_,_,_,_=>by simp at h
 | b :: bs,x::d,0,h,l,_,e,m=>by
   have g:d.length=bs.length:=by simpa using h
   have y:=yvv g (fun j f=>l (j+1) (by simpa using f)) fun t _ a=>e (t+1) (by omega) (by simpa using a)
   have p:(advR b x).2=true:=m;unfold advT;rw[y];simp only[zAV,if_false];refine⟨p,by simp[ypd],fun t a=>?_⟩
   cases t with
   |zero=>rfl
   | succ t =>
     rw[if_neg (by omega),if_neg (by omega)]
     exact yxa (T:=bs) (by simpa using a)
 | b :: bs,x::d,i+1,h,l,w,e,m=>by
   have g:d.length=bs.length:=by simpa using h
   obtain⟨n,r,s⟩:=ybau (v:=i) g (fun j f=>l (j+1) (by simpa using f)) (by simpa using w) (fun t n a=>e (t+1) (by omega) (by simpa using a)) m
   unfold advT;rw[n];simp only[if_true];refine⟨trivial,by simp[r],fun t a=>?_⟩
   cases t with
   |zero=>rw[if_pos (by omega)];rfl
   | succ t =>
     have u:=s t (by simpa using a)
     show(advT bs d).1.getD t []=_;rw[u]
     by_cases q:t<i
     .rw[if_pos q,if_pos (by omega)];rfl
     .by_cases o:t=i
      .rw[if_neg q,if_pos o,if_neg (by omega),if_pos (by omega)];rfl
      .rw[if_neg q,if_neg o,if_neg (by omega),if_neg (by omega)];rfl
end
section
namespace Sh
open Ev Go.RowKit
theorem ybup(n:Nat)(a:List VarR)(b:Nat->VarR->Int×Int):Sim (yzt n a b) (yj (tabT n a b)):=by
 unfold yzt yj;rw[yhq];refine ydu fun v d=>⟨⟨?_,trivial⟩,rfl⟩;rw[ybkh d];unfold yx;rw[zW];refine ybql fun i c=>?_
 have e:(a.map (b v)).getD i (0,0)=b v (a.getD i default):=by
  rw[yio (by simpa using c),yio c];simp
 rw[e]
theorem ync{b c:(Nat->Option ABlk)->Value->Prop}{p:ProgT}{g:Gr}(h:Checked b c p g):Returns zJ 63 [.ag (yfu b c p.raw),grV g] (yj (tabP p g)):=by
 have a:=h.hp;unfold ProgT.ok at a;simp only[zM,decide_eq_true_eq]at a;have d:=ybjn p.raw h.hg a.1.1.2 a.1.1.1.2;exact Returns.of ((d.use (ybup _ _ _)).simL ⟨ybhj _ _ _,Sim.refl _,trivial⟩)
theorem ybap{T:List (List (Int×Int))}(h:TabOk T):Returns zJ 64 [yj T] (.tp [.i .i64 (ybl T:Nat),.i .i64 0]):=by
 refine Returns.of (ydwb _ _ ?_);have q:=h.len;have t:=h.tot;simp only[c64,ydrc,ydzy,ydwr,yj,clash,go_sem,zB,↓reduceIte,reduceCtorEq];refine ybd (σ:=Nat) (fun v=>⟨[(11,.i .i64 v),(10,.i .i64 (T.length:Nat)),(9,yj T),(4,.i .i64 (pTo T v 0:Nat))],[]⟩) (fun v=>v<=T.length) (fun v=>T.length-v) 0 (zG _) ?_ ?_
 .refine yu ?_;simp only[yj,ycjf,wk,go_sem,zA,↓reduceIte,reduceCtorEq];rfl
 .intro v B
  by_cases c:v<T.length
  .have d1:=dec_lt c;obtain⟨y,p⟩:=h.at_ c;have g:=fun i=>ydxr h.bd c i;have k:=fun i=>yclz (T:=T) (v:=v) (i:=i);have j:=ycjn c;obtain⟨row,d⟩:∃r,T.getD v []=r:=⟨_,rfl⟩;rw[d]at y p k j;simp only[ydlz,ydvy,ydyl,yj,yx,d1,d,clash,go_sem,zA,zB,↓reduceIte,reduceCtorEq]
   repeat refine ybc ?_
   refine ybd (σ:=Nat) (fun i=>⟨[(17,.i .i64 i),(16,.i .i64 (row.length:Nat)),(15,yx row),(11,.i .i64 v),(10,.i .i64 (T.length:Nat)),(9,yj T),(4,.i .i64 (pTo T v i:Nat))],[]⟩) (fun i=>i<=row.length) (fun i=>row.length-i) 0 (zG _) ?_ ?_
   .refine yu ?_;simp only[yj,yx,wk,go_sem,zA,↓reduceIte,reduceCtorEq]
   .intro i z
    by_cases a:i<row.length
    .have d2:=dec_lt a;obtain⟨m,n,o⟩:=p i a;have A:=g (i+1);have x:=g i;have s:=k i a;obtain⟨⟨u,f⟩,e⟩:∃b,row.getD i (0,0)=b:=⟨_,rfl⟩;rw[e]at m n o s;simp only at m n o;have l:=(yqx (b:=(u,f)) m).2;simp only at l;have w:((pTo T v i:Nat):Int)*(f-u+1)=((pTo T v (i+1):Nat):Int):=by rw[s,zBA,l]
     have d3:decide (((pTo T v (i+1):Nat):Int)>32768)=false:=by simp;omega
     simp only[ydjx,ydxt,yebf,ydxd,ycyx,yj,yx,d2,e,w,d3,splice,clash,go_sem,zQ,zA,zB,zD,zC,zT,↓reduceIte,reduceCtorEq]
     repeat refine ybc ?_
     refine yh (i+1) a (by omega) ?_
     refine yu ?_;simp only[wk,go_sem,zA,↓reduceIte,reduceCtorEq];omega
    .obtain rfl:i=row.length:=by omega
     simp only[ydjx,ydek,yj,yx,zH,clash,go_sem,zA,zB,↓reduceIte,reduceCtorEq]
     repeat refine ybc ?_
     refine yh (v+1) c (by omega) ?_
     refine yu ?_;simp only[j,wk,go_sem,zA,↓reduceIte,reduceCtorEq];omega
  .obtain rfl:v=T.length:=by omega
   simp only[ydlz,ycsf,zH,ydmt,go_sem,zA,zB,↓reduceIte,reduceCtorEq];exact Sim.refl _
theorem ycdg{b c:(Nat->Option ABlk)->Value->Prop}{p:ProgT}{g:Gr}(h:Checked b c p g)(f:TabOk (tabP p g)):Returns zJ 56 [.ag (yfu b c p.raw),grV g] (.tp [.i .i64 (ybl (tabP p g):Nat),.i .i64 0]):=by
 refine Returns.of (ydpo _ _ ?_);have d:=ybbw p h.hg h.hp h.hf h.hV h.gv;have a:=ync h;have e:=ybap f;simp only[yfu,grV]at d a;simp only[c56,yebq,ydnz,yfu,grV,clash,go_sem,zA,zB,zC];refine d.use ?_;simp only[ybj,ydog,ydzq,clash,zL,go_sem,zA,zB];refine a.use ?_;simp only[go_sem];refine e.use ?_;simp only[go_sem];exact Sim.refl _
theorem ygj{ρ:List (Nat×(Nat->Nm))}{b O:Own}{a:Nm}{p n:Nat}{ap:Bool}{X:List SV}(d:live O a=true)(c:X=[.os (rid ρ a) p n ap]):telL (rid ρ) [] [] b O X [.os a p n ap]:=by
 subst c;refine⟨.inl ⟨(yif _ _ _).2 trivial,by rw[yej];exact Sim.refl _,?_⟩,rfl,trivial⟩
 show(live O a && !(List.elem a.1 []))=true;rw[d];rfl
theorem yjd{h:Nm->Nm}{b O:Own}{X:List SV}(c:X=[.a (.slice none 0 0)]):telL h [] [] b O X [.a (.slice none 0 0)]:=by
 subst c;exact⟨.inl ⟨(yif _ _ _).2 trivial,by rw[yej];exact Sim.refl _,rfl⟩,rfl,trivial⟩
def intO(l:List Int):OB:=⟨3,false,1,l.length,fun i=>[.i .i64 (l.getD i 0)]⟩
theorem ycj{l:List Int}{c:OB}{h:Nm->Nm}{b d:Own}(a:(c.e=3/\c.bx=false/\c.z=1/\c.n=l.length)/\∀i,i<l.length->c.g i=[.i .i64 (l.getD i 0)]) :
 (c.e=(intO l).e/\c.bx=(intO l).bx/\c.z=(intO l).z/\c.n=(intO l).n)/\(mapE (intO l).e=true->∀i,c.g i=(intO l).g i)/\∀i,i<(intO l).n->telL h [] [] b d (c.g i) ((intO l).g i) :=
 ⟨a.1,fun q=>absurd (show false=true from q) zAW,fun i f=>yfy (a.2 i f)⟩
theorem ycq(l:List Int):((intO l).e=3/\(intO l).bx=false/\(intO l).z=1/\(intO l).n=l.length)/\∀i,i<l.length->(intO l).g i=[.i .i64 (l.getD i 0)]:=⟨⟨rfl,rfl,rfl,rfl⟩,fun _ _=>rfl⟩
theorem ycz{i n:Nat}{x b:OB}(h:(if i<n then some x else none)=some b):i<n/\b=x:=by
 split at h
 .cases h;exact⟨by assumption,rfl⟩
 .cases h
def ycw(n:Nat)(w:Nat->List Int):Fam:=.many fun v=>if v<n then some (intO (w v))else none
def ybu(F G n:Nat)(w:Nat->List Int):Own:=[(F,.one (some ⟨22,false,1,n,fun v=>[.os (G,v) 0 (w v).length true]⟩)),(G,ycw n w)]
theorem yckl{ρ:List (Nat×(Nat->Nm))}{G n v:Nat}{w:Nat->List Int}{a O:Own}{X:List SV}(d:v<n)(b:lookO O (G,v)=if v<n then some (intO (w v))else none)(c:X=[.os (rid ρ (G,v)) 0 (w v).length true]):telL (rid ρ) [] [] a O X [.os (G,v) 0 (w v).length true] :=
 ygj (by unfold live;rw[b,if_pos d];rfl) c
theorem ykt{l:List Int}{p:Nm->Bool}:∀i,i<(intO l).n->((intO l).g i).all (cln p 5)=true:=fun _ _=>rfl
theorem ydx{h:Nm->Nm}{a d:Own}{n i:Nat}{w:Nat->List Int}{b:OB}(f:(if i<n then some (intO (w i))else none)=some b):∃c,(if i<n then some (intO (w i))else none)=some c/\(c.e=b.e/\c.bx=b.bx/\c.z=b.z/\c.n=b.n)/\(mapE b.e=true->∀i,c.g i=b.g i)/\∀i,i<b.n->telL h [] [] a d (c.g i) (b.g i):=by
 obtain⟨j,rfl⟩:=ycz f;exact⟨_,if_pos j,ycj (ycq _)⟩
theorem yjq{h h':Nm->Nm}{a d:Own}{n i:Nat}{w:Nat->List Int}{b:OB}(f:(if i<n then some (intO (w i))else none)=some b):∃c,(match (if i<n then some (intO (w i))else none)with|some b=>some (OB.ren h' b)|none=>none)=some c/\(c.e=b.e/\c.bx=b.bx/\c.z=b.z/\c.n=b.n)/\(mapE b.e=true->∀i,c.g i=b.g i)/\∀i,i<b.n->telL h [] [] a d (c.g i) (b.g i):=by
 obtain⟨j,rfl⟩:=ycz f;exact⟨OB.ren h' (intO (w i)),by rw[if_pos j],ycj ⟨⟨rfl,rfl,rfl,rfl⟩,fun _ _=>rfl⟩⟩
def boxT(F:Nat)(T:List (List (Int×Int))):Nat×Fam:=(F,.one (some ⟨84,true,1,1,fun _=>[yj T]⟩))
set_option maxHeartbeats 1000000 in
theorem ybou{T:List (List (Int×Int))}(h:TabOk T){f:FuncId}(z:∀v,v<T.length->∀i,i<(T.getD v []).length->Returns zJ f [.i .i64 (v:Nat),.i .i64 (i:Nat),.rf [yj T]] (.i .i64 ((T.getD v []).getD i (0,0)).1)) :
 Cm zJ 65 [(301,0)] [boxT 301 T] [yj T,.fn f [] [.pt (301,0) 0 0]] fun r o=>r = .os (302,0) 0 T.length true/\o=boxT 301 T::ybu 302 303 T.length (lowT T):=by
 refine ydhi [(301,0)] [] _ _ _ ?_;have y:=h.len;have s:∀v,(lowT T v).length=(T.getD v []).length:=ybeg T;simp only[c65,ydxz,ydzi,ydsb,yj,boxT,clash,go_sem,zA,zB,zC,↓reduceIte,reduceCtorEq]
 repeat refine ybc ?_
 let p:Nat->Nat×Fam:=fun k=>(303,.many fun v=>if v<k then some (intO (lowT T v))else none)
 refine ybd (σ:=Nat) (fun k=>⟨[(13,.i .i64 k),(12,.i .i64 (T.length:Nat)),(0,yj T),(1,.fn f [] [.pt (301,0) 0 0]),(5,.os (10,0) 0 T.length true),(11,yj T)],
  [boxT 301 T,(10,.one (some ⟨22,false,1,T.length,fun v=>if v<k then[.os (303,v) 0 (T.getD v []).length true]else[.a (.slice none 0 0)]⟩)),p k]⟩) (fun k=>k<=T.length) (fun k=>T.length-k) 0 (zG _) ?_ ?_
 .refine ybn [] [] [] ?_;simp only[p,boxT,yj,zS,wk,go_sem,zA,zC,↓reduceIte,reduceCtorEq]
 .intro k hk
  by_cases n:k<T.length
  .have d1 := dec_lt n;obtain⟨B,g⟩:=h.at_ n;obtain⟨row,d⟩:∃r,T.getD k []=r:=⟨_,rfl⟩;rw[d]at B g;have A:lowT T k=row.map (·.1):=by unfold lowT;rw[d]
   simp only[ydht,ydxl,ydvi,ydni,p,boxT,yj,yx,d1,d,clash,go_sem,zA,zB,zC,↓reduceIte,reduceCtorEq]
   repeat refine ybc ?_
   refine ybd (σ:=Nat) (fun i=>⟨[(30,.i .i64 i),(29,.i .i64 (row.length:Nat)),(6,.i .i64 k),(13,.i .i64 k),(12,.i .i64 (T.length:Nat)),(0,yj T),(1,.fn f [] [.pt (301,0) 0 0]),(5,.os (10,0) 0 T.length true),(11,yj T)],
    [boxT 301 T,(10,.one (some ⟨22,false,1,T.length,fun v=>if v=k then[.os (23,0) 0 row.length true]else if v<k then[.os (303,v) 0 (T.getD v []).length true]else[.a (.slice none 0 0)]⟩)),(23,.one (some ⟨3,false,1,row.length,fun j=>[.i .i64 (if j<i then(row.getD j (0,0)).1 else 0)]⟩)),p k]⟩) (fun i=>i<=row.length) (fun i=>row.length-i) 0 (zG _) ?_ ?_
   .refine ybn [] [] [] ?_;simp only[p,boxT,yj,yx,zS,wk,go_sem,zA,zC,↓reduceIte,reduceCtorEq];refine⟨fun _ _ _ _ e=>e,fun v u=>?_,fun v b g=>⟨b,g,?_⟩⟩
    .by_cases q:v=k
     .simp only[if_pos q];exact ygj rfl rfl
     .by_cases m:v<k
      .simp only[if_neg q,if_pos m];exact ygj (by show(if v<k then some (intO (lowT T v))else none).isSome=true;rw[if_pos m];rfl) rfl
      .simp only[if_neg q,if_neg m];exact yjd rfl
    .obtain⟨q,rfl⟩:=ycz g;exact ycj (ycq _)
   .intro i t
    by_cases l:i<row.length
    .have d2:=dec_lt l;have w:=z k n i (by rw[d];exact l)
     rw[d]at w;simp only[yj,yx]at w;simp only[ydkx,ydyf,ydny,ydea,p,boxT,yj,yx,d2,clash,go_sem,zA,zB,zD,↓reduceIte,reduceCtorEq]
     repeat refine ybc ?_
     refine .inl (w.use ?_);simp only[ybj,splice,clash,go_sem,zA,zB,↓reduceIte,reduceCtorEq]
     repeat refine ybc ?_
     refine yh (i+1) l (by omega) ?_
     refine ybn [] [] [] ?_;simp only[wk,go_sem,zA,zC,↓reduceIte,reduceCtorEq];refine⟨fun _ _ _ _ e=>e,by omega,fun v u=>?_,fun j C=>yfy ?_,fun v b g=>⟨b,g,?_⟩⟩
     .by_cases q:v=k
      .simp only[if_pos q];exact ygj rfl rfl
      .by_cases m:v<k
       .simp only[if_neg q,if_pos m];exact ygj (by show(if v<k then some (intO (lowT T v))else none).isSome=true;rw[if_pos m];rfl) rfl
       .simp only[if_neg q,if_neg m];exact yjd rfl
     .by_cases e:j=i
      .subst e;rw[if_pos rfl,if_pos (by omega)]
      .rw[if_neg e]
       by_cases x:j<i
       .rw[if_pos x,if_pos (by omega)]
       .rw[if_neg x,if_neg (by omega)]
     .obtain⟨q,rfl⟩:=ycz g;exact ycj (ycq _)
    .obtain rfl:i=row.length:=by omega
     simp only[ydkx,ycyd,p,boxT,yj,yx,zH,clash,go_sem,zA,zB,↓reduceIte,reduceCtorEq]
     repeat refine ybc ?_
     refine yh (k+1) n (by omega) ?_
     refine ybn [(303,fun v=>if v=k then(23,0)else(303,v))] [] [] ?_
     simp only[wk,go_sem,zA,zC,↓reduceIte,reduceCtorEq];refine⟨?_,by omega,fun v u=>?_,fun v b g=>?_⟩
     .repeat' apply zAA
      all_goals first|exact fun i _=>ybee (by decide) (by decide)|exact fun i _=>ysn (by decide) (by decide)|exact fun i _ j _=>yzx (by decide)
     .by_cases q:v=k
      .subst q;simp only[↓reduceIte,if_pos (Nat.lt_succ_self v),d];exact ygj (by show(if v<v+1 then some (intO (lowT T v))else none).isSome=true;rw[if_pos (by omega)];rfl) (by simp only[go_sem,↓reduceIte])
      .by_cases m:v<k
       .simp only[if_neg q,if_pos m,if_pos (show v<k+1 by omega)]
        exact ygj (by show(if v<k+1 then some (intO (lowT T v))else none).isSome=true;rw[if_pos (by omega)];rfl) (by simp only[q,go_sem,↓reduceIte])
       .simp only[if_neg q,if_neg m,if_neg (show ¬v<k+1 by omega)];exact yjd rfl
     .obtain⟨u,rfl⟩:=ycz g
      by_cases q:v=k
      .subst q;simp only[go_sem,zA,↓reduceIte];refine ycj (c:=⟨3,false,1,row.length,fun j=>[.i .i64 (if j<row.length then(row.getD j (0,0)).1 else 0)]⟩) ⟨⟨rfl,rfl,rfl,by rw[s,d]⟩,fun i t=>?_⟩
       have t:i<row.length:=by rw[s,d]at t;exact t
       rw[ydlb (by rw[d];exact t),d]
       simp only[if_pos t]
      .simp only[q,go_sem,zA,↓reduceIte];exact⟨_,if_pos (by omega),ycj (ycq _)⟩
  .obtain rfl:k=T.length:=by omega
   simp only[ydht,yczf,p,boxT,yj,zH,yhi,go_sem,zA,zB,↓reduceIte,reduceCtorEq];refine⟨.os (302,0) 0 T.length true,boxT 301 T::ybu 302 303 T.length (lowT T),?_,?_,rfl,rfl⟩
   .refine ybn [(302,fun i=>(10,i))] [] [] ?_;simp only[ybu,ycw,boxT,yj,wk,go_sem,zA,zC,↓reduceIte,reduceCtorEq];refine⟨fun _ _ _ _ e=>e,fun v u=>?_,fun v b g=>ydx g⟩;rw[if_pos u,<-ybeg];exact yckl u rfl rfl
   .simp only[ybu,boxT,yj,ycw,ycl,yfm,wk,go_sem,zA,↓reduceIte];exact⟨fun k hk=>by rw[if_pos hk],fun i b g=>(ycz g).2▸ykt⟩
theorem ybvw{T:List (List (Int×Int))}{v i:Nat}(b:v<T.length)(a:i<(T.getD v []).length):Returns zJ 125 [.i .i64 (v:Nat),.i .i64 (i:Nat),.rf [yj T]] (.i .i64 ((T.getD v []).getD i (0,0)).1):=by
 refine Returns.of (ydmq _ _ ?_);simp only[c125,ydbj,ycwo,yj,yx,clash,go_sem,zQ,zA,zB,zD,zT]
 repeat refine ybc ?_
 exact Sim.refl _
theorem ybne{T:List (List (Int×Int))}{v i:Nat}(b:v<T.length)(a:i<(T.getD v []).length):Returns zJ 66 [.i .i64 (v:Nat),.i .i64 (i:Nat),.rf [yj T]] (.i .i64 ((T.getD v []).getD i (0,0)).1):=by
 refine Returns.of (ydpq _ _ ?_);simp only[c66,ydqx,ydxu,yj,yx,clash,go_sem,zQ,zA,zB,zD,zT]
 repeat refine ybc ?_
 exact Sim.refl _
set_option maxHeartbeats 1000000 in
theorem ycns{j l:(Nat->Option ABlk)->Value->Prop}{p:ProgT}{g:Gr}(h:Checked j l p g)(q:TabOk (tabP p g)) :
 Cm zJ 59 [] [] [.ag (yfu j l p.raw),grV g] fun r o=>r = .tp [.os (302,0) 0 (tabP p g).length true,.i .i64 0]/\o=ybu 302 303 (tabP p g).length (lowT (tabP p g)):=by
 refine ydft [] [65] _ _ _ ?_;have n:=ybbw p h.hg h.hp h.hf h.hV h.gv;have a:=ync h;have m:=ybou q (f:=125) fun v d i s=>ybvw d s
 generalize tabP p g=T at a m q
 simp only[yfu,grV]at n a;simp only[c59,ydpf,ydqp,yfu,grV,clash,go_sem,zA,zB,zC,zF,↓reduceIte,reduceCtorEq];refine n.use ?_;simp only[ybj,ydzm,ydqf,ydzw,clash,zL,go_sem,zA,zB,zC,zF,↓reduceIte,reduceCtorEq];refine a.use ?_;simp only[go_sem,↓reduceIte]
 repeat refine ybc ?_
 refine yeu m [(301,7),(302,72),(303,73)] 400 [] [] ?_ ?_
 .simp only[boxT,to1,okN,ycl,yfm,yer,ydy,wk,go_sem,zB,zC,↓reduceIte,reduceCtorEq]
 rintro r t ⟨rfl,rfl⟩;simp only[boxT,ybu,yow,yln,nuF,nu,difN,yer,ydy,Fam.ren,OB.ren,dim,yjx,go_sem,zA,zB,zF,↓reduceIte,reduceCtorEq];simp only[yhi,go_sem];refine⟨.tp [.os (302,0) 0 T.length true,.i .i64 0],ybu 302 303 T.length (lowT T),?_,?_,rfl,rfl⟩
 .refine ybn [(302,fun i=>(72,i)),(303,fun i=>(73,i))] [] [] ?_;simp only[ybu,ycw,wk,go_sem,zA,zC,↓reduceIte,reduceCtorEq];exact⟨fun _ _ _ _ e=>e,fun v d=>by rw[if_pos d],fun i b c=>yjq (h':=nu [(301,7),(302,72),(303,73)] 400) c⟩
 .simp only[ybu,ycw,ycl,yfm,wk,go_sem,zA,↓reduceIte];exact⟨fun k hk=>by rw[if_pos hk],fun i b c=>(ycz c).2▸ykt⟩
end Sh
end
section
def rowL(bs:List (Int×Int))(k x:Nat):List Int:=(zAS bs.length).map (rowU bs k x)
theorem ybdl(bs:List (Int×Int))(k x:Nat):(rowL bs k x).length=bs.length:=by simp[rowL]
theorem yvb{bs:List (Int×Int)}{k x t:Nat}(a:t<bs.length):(rowL bs k x).getD t 0=rowU bs k x t:=by simp[rowL,zAI,a]
theorem yuc{l l':List Int}(h:l.length=l'.length)(c:∀t,t<l.length->l.getD t 0=l'.getD t 0):l=l':=by
 refine List.ext_getElem h fun t a b=>?_;have:=c t a
 rwa [yio a,yio b]at this
theorem ycep(bs:List (Int×Int))(k:Nat):rowL bs k 0=bs.map (·.1):=yuc (by simp[rowL]) fun t a=>by
 have a:t<bs.length:=by simpa[rowL]using a
 rw[yvb a,ycbw bs k a];simp[zAI,a]
theorem ycmu(bs:List (Int×Int))(k:Nat):rowL bs k bs.length=(unR bs k).1:=yuc (by rw[ybdl,ybob]) fun t a=>by
 rw[yvb (by simpa[rowL]using a),ycml]
namespace Sh
open Ev Go.RowKit
section
variable {Q1 Q2:(Nat->Option ABlk)->Value->Prop}{p:ProgT}{g:Gr}
set_option maxHeartbeats 4000000 in
theorem ybus(h:Checked Q1 Q2 p g)(O:TabOk (tabP p g)){k0:Nat}(hk:k0<ybl (tabP p g)):Returns zJ 15 [.ag (yfu Q1 Q2 p.raw),grV g,.i .i64 (k0:Nat)] (.tp [yct (unT (tabP p g) k0).1,.i .i64 0]):=by
 refine Returns.of (ydhl [65] _ _ ?_);have hF:=ybbw p h.hg h.hp h.hf h.hV h.gv;have I:=ync h;have hB:=ybou O (f:=66) fun v z i F=>ybne z F;have hC:=ybap O;have H:=O.tot;have X:=O.len
 generalize tabP p g=T at I hB O hC hk H X ⊢
 obtain⟨N,hN⟩:∃N,ybl T=N:=⟨_,rfl⟩;rw[hN]at hC hk H;simp only[yfu,grV]at hF I;have d1:decide ((k0:Int)<0)=false:=by simp
 have d2:decide ((k0:Int)>=(N:Int))=false:=by simp;omega
 simp only[c15,ydqn,ydoo,yfu,grV,clash,go_sem,zA,zB,zC,zF];refine hF.use ?_;simp only[ybj,ydvn,ydtj,yduh,clash,zL,go_sem,zA,zB,zC,zF];refine I.use ?_;simp only[go_sem]
 repeat refine ybc ?_
 refine hC.use ?_;simp only[ydvl,ydxj,ycwy,clash,zL,d1,d2,go_sem,zA,zB]
 repeat refine ybc ?_
 refine yeu hB [(301,9),(302,72),(303,73)] 400 [9,5] [5] ?_ ?_
 .simp only[boxT,to1,okN,ycl,yfm,yer,ydy,wk,go_sem,zA,zB,zC,zF]
 rintro r o' ⟨rfl,rfl⟩;simp only[boxT,ybu,yow,yln,nuF,nu,difN,yer,ydy,Fam.ren,OB.ren,dim,yjx,go_sem,zA,zB,zC,zF];simp only[yctt,yj,go_sem,zA,zB,zF]
 repeat refine ybc ?_
 refine(ybjp (n:=T.length) (e:=fun v=>yx (T.getD v []))).use ?_;simp only[ybj,clash,go_sem]
 let d:(Nat->List Int)->Nat->Own:=fun w k=>(5,.one (some ⟨3,true,1,1,fun _=>[.i .i64 (k:Nat)]⟩))::(12,.one (some ⟨46,true,1,1,fun _=>[.os (72,0) 0 T.length true]⟩))::ybu 72 73 T.length w
 refine yqn (ybin (n:=T.length) (e:=fun v=>yx (T.getD v []))) [(12,0),(5,0)] (fun q (_:Unit)=>⟨[(46,.fn 133 [] [.rf [yj T]]),(12,.pt (12,0) 0 0),(5,.pt (5,0) 0 0)],d (cU T k0 q) (kT T k0 q)⟩)
  (fun q _=>q<=T.length) () (zG _) ⟨fun _ h=>absurd h zAB,fun β h=>absurd h zAB⟩ ?_ (fun _=>rfl) ?_ ?_ ?_
 .refine yu ?_;simp only[d,ybu,ycw,yj,ydiz,wk,go_sem,zA,zC];refine⟨fun _ _ _ _ e=>e,fun v z=>?_,fun v b B=>?_⟩
  .rw[ybxa T k0 z];exact⟨Sim.refl _,by rw[if_pos z]⟩
  .obtain⟨z,rfl⟩:=ycz B;rw[ybxa T k0 z];exact yjq (w:=lowT T) (h':=nu [(301,9),(302,72),(303,73)] 400) (if_pos z)
 .intro i _ F _;refine⟨trivial,?_⟩;simp only[yj,wk,go_sem,zA]
 .intro q _ hq C;have C:q<T.length:=C;obtain⟨v,z⟩:∃v,T.length-1-q=v:=⟨_,rfl⟩;have a3:v<T.length:=by omega
  refine⟨_,rfl,?_⟩;simp only[bwdS,z];simp only[ydas,yczy,yczm,d,ybu,yj,splice,clash,go_sem,zA,zB,zC,zF];refine(ybjo (ls:=T.getD v [])).use ?_;obtain⟨hr,B⟩:=O.at_ a3
  have hI:∀l∈T.getD v [],I64 l.1/\I64 l.2:=fun l hl=>by
   obtain⟨i,F,rfl⟩:=zAK hl;have:=B i F;rw[yio F]at this;unfold I64;omega
  have J:=ydlc (k:=k0) C z.symm;have a4:=ydrt (k:=k0) C z.symm;have L:=ydgg (k:=k0) C z.symm;have Y:lowT T v=(T.getD v []).map (·.1):=rfl;have S:=fun {j}=>ydod (k:=k0) (q:=q) hq (j:=j);have a6:kT T k0 q<=k0:=ydpc _ _;obtain⟨m,W⟩:∃m,kT T k0 q=m:=⟨_,rfl⟩;rw[W]at J L a6;obtain⟨a,R⟩:∃a,T.getD v []=a:=⟨_,rfl⟩;rw[R]at hr B hI J L Y;simp only[ybj,clash,R,go_sem]
  refine yqn (ybjh (ls:=a) hI) [(12,0),(5,0),(13,0)] (fun x (_:Unit)=>⟨[(50,.fn 134 [] [.rf [yx a]]),(12,.pt (12,0) 0 0),(5,.pt (5,0) 0 0),(13,.pt (13,0) 0 0)],(13,.one (some ⟨3,true,1,1,fun _=>[.i .i64 (v:Nat)]⟩))::d (fun j=>if j=v then rowL a m x else cU T k0 q j) (kU a m x)⟩)
   (fun x _=>x<=a.length) () (zG _) ⟨fun β h=>(by rcases List.mem_cons.1 h with r|r;rw[r];exact zK;rw[List.mem_singleton.1 r];exact zU _ zK),fun β h=>absurd h zAB⟩ ?_ (fun _=>rfl) ?_ ?_ ?_
  .refine ybn [] [] [] ?_
   have e0:∀j,(if j=v then rowL a m 0 else cU T k0 q j)=cU T k0 q j:=fun j=>by
    by_cases e:j=v
    .rw[if_pos e,ycep,e,a4,Y]
    .rw[if_neg e]
   simp only[d,ybu,ycw,ydeu,e0,W,wk,go_sem,zA,zC];exact⟨fun _ _ _ _ e=>e,fun j u=>by rw[if_pos u],fun j b B=>ydx B⟩
  .intro x _ hx _;refine⟨trivial,?_⟩;simp only[yx,wk,go_sem,zA]
  .intro x _ hx o;have o:x<a.length:=o;obtain⟨i,F⟩:∃i,a.length-1-x=i:=⟨_,rfl⟩;have V:i<a.length:=by omega
   refine⟨_,rfl,?_⟩;simp only[bwdS,F];obtain⟨b1,b2,b3⟩:=B i V;have D:=ycdo (k:=m) o F.symm;have M:=ycpg (k:=m) o F.symm;have s:=ydmr (k:=m) o F.symm;obtain⟨⟨P,K⟩,Q⟩:∃b,a.getD i (0,0)=b:=⟨_,rfl⟩;rw[Q]at b1 b2 b3 D M s;simp only at b1 b2 b3 M;have G:=yqx (b:=(P,K)) b1;obtain⟨A,a2⟩:∃A,szP (P,K)=A:=⟨_,rfl⟩;rw[a2]at G D s;simp only at G D;have a1:K-P+1=(A:Int):=G.2.symm;have a5:kU a m x<=m:=ydhk _ _;obtain⟨y,hy⟩:∃y,kU a m x=y:=⟨_,rfl⟩
   rw[hy]at D s a5;have Z:(y:Int).tmod (A:Int)=((y%A:Nat):Int):=rfl;have U:(y:Int).tdiv (A:Int)=((y/A:Nat):Int):=rfl;have a7:(rowL a m x).getD i 0=P:=by rw[yvb V,M]
   have a0:=ybdl a m x;have b0:y%A<A:=Nat.mod_lt _ G.1;have a9:y/A<=y:=zAZ _ _;simp only[ycyu,ycvi,yddp,ydbn,yday,d,ybu,ycw,intO,if_pos a3,a0,hy,a7,Q,a1,Z,U,splice,clash,go_sem,zQ,zA,zB,zD,zC,zT]
   repeat refine ybc ?_
   refine zAA ⟨by omega,ikw (by omega) (by omega)⟩ ?_
   repeat refine ybc ?_
   refine ybn [] [] [] ?_
   have hw:∀t,t<a.length->(if t=i then[SV.i .i64 (P+((y%A:Nat):Int))]else[SV.i .i64 ((rowL a m x).getD t 0)])=[SV.i .i64 ((rowL a m (x+1)).getD t 0)]:=fun t ht=>by
    rw[yvb ht,yvb ht,D]
    by_cases e:t=i
    .rw[if_pos e,if_pos e]
    .rw[if_neg e,if_neg e]
   have E:=ybdl a m (x+1);simp only[s,wk,go_sem,zA,zC];refine⟨fun _ _ _ _ e=>e,fun j u=>?_,fun j b B=>?_⟩
   .by_cases e:j=v
    .subst e;simp only[a0,E,if_pos u,wk,go_sem]
    .simp only[e,if_pos u,wk,go_sem]
   .obtain⟨u,rfl⟩:=ycz (x:=intO (if j=v then rowL a m (x+1)else cU T k0 q j)) B
    by_cases e:j=v
    .subst e;simp only[go_sem];exact ycj (l:=rowL a m (x+1)) (c:=⟨3,false,1,a.length,fun t=>if t=i then[SV.i .i64 (P+((y%A:Nat):Int))]else[SV.i .i64 ((rowL a m x).getD t 0)]⟩) ⟨⟨rfl,rfl,rfl,E.symm⟩,fun t ht=>hw t (by rw[E]at ht;exact ht)⟩
    .simp only[e,go_sem];exact⟨_,if_pos u,ycj (l:=cU T k0 q j) (ycq _)⟩
  .intro _ _
   have e0:∀j,(if j=v then rowL a m a.length else cU T k0 q j)=cU T k0 (q+1) j:=fun j=>by
    rw[J]
    by_cases e:j=v
    .rw[if_pos e,if_pos e,ycmu]
    .rw[if_neg e,if_neg e]
   simp only[bwdS,go_sem]
   repeat refine ybc ?_
   refine ybn [] [] [] ?_;simp only[d,ybu,ycw,ydqa,e0,L,wk,go_sem,zA,zC];exact⟨fun _ _ _ _ e=>e,fun j u=>by rw[if_pos u],fun j b B=>ydx B⟩
 .intro _ _;simp only[ycws,bwdS,d,ybu,clash,go_sem,zA,zB];have S:∀j,j<T.length->(unT T k0).1.getD j []=cU T k0 T.length j:=fun j _=>(ydym T k0 j).symm;have a8:=ycfs T k0;refine⟨fun j u=>?_,yyy ⟨?_,Sim.refl _,trivial⟩⟩
  .simp only[ycw,intO,if_pos u,go_sem]
  .unfold yct ybb;rw[a8];refine ydu fun j u=>?_;simp only[ycw,intO,if_pos u,SimL,S j u,go_sem];exact Sim.refl _
end
end Sh
end
section
def rowD(bs:List (Int×Int))(xs:List Int)(x:Nat):List Int:=(zAS bs.length).map fun t=>if t<bs.length-x then xs.getD t 0 else(bs.getD t (0,0)).1
theorem yqu(bs:List (Int×Int))(xs:List Int)(x:Nat):(rowD bs xs x).length=bs.length:=by simp[rowD]
theorem yru{bs:List (Int×Int)}{xs:List Int}{x t:Nat}(a:t<bs.length):(rowD bs xs x).getD t 0=if t<bs.length-x then xs.getD t 0 else(bs.getD t (0,0)).1:=by simp[rowD,zAI,a]
theorem ybzd{bs:List (Int×Int)}{xs:List Int}(h:xs.length=bs.length):rowD bs xs 0=xs:=yuc (by rw[yqu,h]) fun t a=>by
 have a:t<bs.length:=by rwa [yqu]at a
 rw[yru a,if_pos (by omega)]
theorem ycoo(bs:List (Int×Int))(xs:List Int):rowD bs xs bs.length=bs.map (·.1):=yuc (by simp[rowD]) fun t a=>by
 have a:t<bs.length:=by rwa [yqu]at a
 rw[yru a,if_neg (by omega)]
 simp[zAI,a]
def cD(T:List (List (Int×Int)))(c:Conf)(q j:Nat):List Int:=if j<T.length-q then c.getD j []else lowT T j
namespace Sh
open Ev Go.RowKit
set_option maxHeartbeats 4000000 in
theorem ybst{T:List (List (Int×Int))}(hT:TabOk T){c:Conf}(hc:inT T c) :
 Cm zJ 61 [(302,0)] (ybu 302 303 T.length fun j=>c.getD j []) [yj T,.os (302,0) 0 T.length true] fun r o=>r = .tp []/\o=ybu 302 303 T.length fun j=>(advT T c).1.getD j []:=by
 refine ydet [(302,0)] [] _ _ _ ?_;have a8:=hT.len;obtain⟨Y,Z⟩:=ymk.1 hc;have N:∀j,j<T.length->(c.getD j []).length=(T.getD j []).length:=fun j a=>(yom.1 (Z j a)).1;simp only[c61,yeac,ydpr,yj,ybu,go_sem,zA,zB,zC];refine(ybjp (n:=T.length) (e:=fun v=>yx (T.getD v []))).use ?_;simp only[ybj,clash,go_sem]
 let f:(Nat->List Int)->Own:=fun w=>(3,.one (some ⟨46,true,1,1,fun _=>[.os (302,0) 0 T.length true]⟩))::ybu 302 303 T.length w
 refine yqn (ybin (n:=T.length) (e:=fun v=>yx (T.getD v []))) [(302,0),(3,0)] (fun q (_:Unit)=>⟨[(9,.fn 133 [] [.rf [yj T]]),(3,.pt (3,0) 0 0)],f (cD T c q)⟩)
  (fun q _=>q<=T.length/\ybwn T c (T.length-q)) () ⟨zG _,fun j O J=>absurd O (by omega)⟩ ⟨fun β h=>by rw[List.mem_singleton.1 h];exact zK,fun β h=>absurd h zAB⟩ ?_ (fun _=>rfl) ?_ ?_ ?_
 .refine ybn [] [] [] ?_;have I:∀j,j<T.length->cD T c 0 j=c.getD j []:=fun j a=>by unfold cD;rw[if_pos (by omega)]
  simp only[f,ybu,ycw,yj,wk,go_sem,zA,zC];refine⟨fun _ _ _ _ e=>e,fun j a=>?_,fun j b m=>?_⟩
  .rw[I j a];exact⟨Sim.refl _,by rw[if_pos a]⟩
  .obtain⟨a,rfl⟩:=ycz (x:=intO (cD T c 0 j)) m;rw[I j a];exact⟨_,if_pos a,ycj (ycq _)⟩
 .intro i _ hi _;refine⟨trivial,?_⟩;simp only[yj,wk,go_sem,zA]
 .rintro q _ ⟨hq,B⟩ U;have U:q<T.length:=U;obtain⟨v,hv⟩:∃v,T.length-1-q=v:=⟨_,rfl⟩;have F:v<T.length:=by omega
  refine⟨_,rfl,?_⟩;simp only[bwdS,hv];simp only[yeaz,ydub,ydxn,f,ybu,yj,splice,clash,go_sem,zA,zB,zC];refine(ybjo (ls:=T.getD v [])).use ?_;obtain⟨hr,m⟩:=hT.at_ F
  have hI:∀l∈T.getD v [],I64 l.1/\I64 l.2:=fun l hl=>by
   obtain⟨i,hi,rfl⟩:=zAK hl;have:=m i hi;rw[yio hi]at this;unfold I64;omega
  have a1:ybwn T c (v+1):=fun j O J=>B j (by omega) J
  have a0:cD T c q v=c.getD v []:=by unfold cD;rw[if_pos (by omega)]
  have a5:∀j,cD T c (q+1) j=if j=v then lowT T v else cD T c q j:=fun j=>by
   unfold cD
   by_cases e:j=v
   .rw[if_pos e,if_neg (by omega),e]
   .rw[if_neg e]
    by_cases w:j<v
    .rw[if_pos (by omega),if_pos (by omega)]
    .rw[if_neg (by omega),if_neg (by omega)]
  have R:∀j,j<T.length->cD T c q j=if j<v then c.getD j []else if j=v then c.getD v []else lowT T j:=fun j a=>by
   unfold cD
   by_cases w:j<v
   .rw[if_pos (by omega),if_pos w]
   .by_cases e:j=v
    .rw[if_pos (by omega),if_neg w,if_pos e,e]
    .rw[if_neg (by omega),if_neg w,if_neg e]
  have p:=ybau Y N F a1;have a2:lowT T v=(T.getD v []).map (·.1):=rfl;have C:=yom.1 (Z v F);obtain⟨d,P⟩:∃d,T.getD v []=d:=⟨_,rfl⟩;obtain⟨g,a4⟩:∃g,c.getD v []=g:=⟨_,rfl⟩;rw[P]at hr m hI a2 p C;rw[a4]at p C a0 R;obtain⟨a3,a7⟩:=C;simp only[ybj,clash,P,go_sem]
  refine yqn (ybjh (ls:=d) hI) [(302,0),(3,0),(4,0)] (fun x (_:Unit)=>⟨[(13,.fn 134 [] [.rf [yx d]]),(3,.pt (3,0) 0 0),(4,.pt (4,0) 0 0)],(4,.one (some ⟨3,true,1,1,fun _=>[.i .i64 (v:Nat)]⟩))::f (fun j=>if j=v then rowD d g x else cD T c q j)⟩)
   (fun x _=>x<=d.length/\ybvk d g (d.length-x)) () ⟨zG _,fun j O J=>absurd O (by omega)⟩ ⟨fun β h=>(by rcases List.mem_cons.1 h with r|r;rw[r];exact zK;rw[List.mem_singleton.1 r];exact zU _ zK),fun β h=>absurd h zAB⟩ ?_ (fun _=>rfl) ?_ ?_ ?_
  .refine ybn [] [] [] ?_
   have I:∀j,(if j=v then rowD d g 0 else cD T c q j)=cD T c q j:=fun j=>by
    by_cases e:j=v
    .rw[if_pos e,ybzd a3,e,a0]
    .rw[if_neg e]
   simp only[f,ybu,ycw,I,wk,go_sem,zA,zC];exact⟨fun _ _ _ _ e=>e,fun j a=>by rw[if_pos a],fun j b m=>ydx m⟩
  .rintro x _ hx _;refine⟨trivial,?_⟩;simp only[yx,wk,go_sem,zA]
  .rintro x _ ⟨hx,u⟩ D;have D:x<d.length:=D;obtain⟨i,hi⟩:∃i,d.length-1-x=i:=⟨_,rfl⟩;have K:i<d.length:=by omega
   refine⟨_,rfl,?_⟩;simp only[bwdS,hi];obtain⟨b1,b2,b3⟩:=m i K;have W:=a7 i K;have a6:ybvk d g (i+1):=fun t O J=>u t (by omega) J
   have M:=yzr a3 K a6;have V:(rowD d g x).getD i 0=g.getD i 0:=by rw[yru K,if_pos (by omega)]
   have L:=yqu d g x;have E:=yqu d g (x+1);obtain⟨⟨lo,S⟩,A⟩:∃b,d.getD i (0,0)=b:=⟨_,rfl⟩;rw[A]at b1 b2 b3 W M;simp only at b1 b2 b3 W M;obtain⟨y,hy⟩:∃y,g.getD i 0=y:=⟨_,rfl⟩;rw[hy]at W M V
   by_cases s:y<S
   .have d1:decide (y<S)=true:=decide_eq_true s;simp only[ydip,ydfx,ydhp,ydts,f,ybu,ycw,intO,if_pos F,L,V,A,d1,splice,clash,yhi,go_sem,zQ,zA,zB,zC,zT]
    repeat refine ybc ?_
    obtain⟨w1,w2,w3⟩:=M s;obtain⟨_,_,H⟩:=p w1
    have Q:∀t,t<d.length->(if t=i then[SV.i .i64 (y+1)]else[SV.i .i64 ((rowD d g x).getD t 0)])=[SV.i .i64 ((advR d g).1.getD t 0)]:=fun t z=>by
     rw[w3 t z]
     by_cases e:t=i
     .rw[if_pos e,if_neg (by omega),if_pos e]
     .rw[if_neg e,if_neg e,yru z]
      by_cases w:t<i
      .rw[if_pos (by omega),if_pos w]
      .rw[if_neg (by omega),if_neg w]
    refine⟨.tp [],ybu 302 303 T.length (fun j=>(advT T c).1.getD j []),?_,?_,rfl,rfl⟩
    .refine ybn [] [] [] ?_;simp only[ybu,ycw,wk,go_sem,zA,zC];refine⟨fun _ _ _ _ e=>e,fun j a=>?_,fun j b m=>?_⟩
     .have G:=H j a
      by_cases e:j=v
      .subst e;rw[if_neg (by omega),if_pos rfl]at G
       simp only[L,G,w2,if_pos a,wk,go_sem]
      .rw[if_neg e]at G;have:=R j a;rw[if_neg e,<-G]at this;simp only[e,this,if_pos a,wk,go_sem]
     .obtain⟨a,rfl⟩:=ycz (x:=intO ((advT T c).1.getD j [])) m;have G:=H j a
      by_cases e:j=v
      .subst e;rw[if_neg (by omega),if_pos rfl]at G
       rw[G];simp only[go_sem];exact ycj (l:=(advR d g).1) (c:=⟨3,false,1,d.length,fun t=>if t=i then[SV.i .i64 (y+1)]else[SV.i .i64 ((rowD d g x).getD t 0)]⟩) ⟨⟨rfl,rfl,rfl,w2.symm⟩,fun t z=>Q t (by rw[w2]at z;exact z)⟩
      .rw[if_neg e]at G;have:=R j a;rw[if_neg e,<-G]at this;rw[<-this];simp only[e,go_sem];exact⟨_,if_pos a,ycj (l:=cD T c q j) (ycq _)⟩
    .simp only[ybu,ycw,ycl,yfm,wk,go_sem,zA];exact⟨fun k hk=>by rw[if_pos hk],fun i b m=>(ycz m).2▸ykt⟩
   .have d1:decide (y<S)=false:=decide_eq_false s;simp only[ydip,ydfx,ydhp,ydpl,f,ybu,ycw,intO,if_pos F,L,V,A,d1,splice,clash,go_sem,zQ,zA,zB,zD,zC,zT]
    repeat refine ybc ?_
    refine zAA ⟨D,fun t O J=>?_⟩ ?_
    .by_cases e:t=i
     .rw[e,hy,A];exact s
     .exact u t (by omega) J
    refine ybn [] [] [] ?_
    have hw:∀t,t<d.length->(if t=i then[SV.i .i64 lo]else[SV.i .i64 ((rowD d g x).getD t 0)])=[SV.i .i64 ((rowD d g (x+1)).getD t 0)]:=fun t z=>by
     rw[yru z,yru z]
     by_cases e:t=i
     .rw[if_pos e,if_neg (by omega),e,A]
     .rw[if_neg e]
      by_cases w:t<i
      .rw[if_pos (by omega),if_pos (by omega)]
      .rw[if_neg (by omega),if_neg (by omega)]
    simp only[wk,go_sem,zA,zC];refine⟨fun _ _ _ _ e=>e,fun j a=>?_,fun j b m=>?_⟩
    .by_cases e:j=v
     .subst e;simp only[L,E,if_pos a,wk,go_sem]
     .simp only[e,if_pos a,wk,go_sem]
    .obtain⟨a,rfl⟩:=ycz (x:=intO (if j=v then rowD d g (x+1)else cD T c q j)) m
     by_cases e:j=v
     .subst e;simp only[go_sem];exact ycj (l:=rowD d g (x+1)) (c:=⟨3,false,1,d.length,fun t=>if t=i then[SV.i .i64 lo]else[SV.i .i64 ((rowD d g x).getD t 0)]⟩) ⟨⟨rfl,rfl,rfl,E.symm⟩,fun t z=>hw t (by rw[E]at z;exact z)⟩
     .simp only[e,go_sem];exact⟨_,if_pos a,ycj (l:=cD T c q j) (ycq _)⟩
  .rintro _ ⟨_,u⟩
   have I:∀j,(if j=v then rowD d g d.length else cD T c q j)=cD T c (q+1) j:=fun j=>by
    rw[a5]
    by_cases e:j=v
    .rw[if_pos e,if_pos e,ycoo,a2]
    .rw[if_neg e,if_neg e]
   have u:ybvk d g (d.length-d.length):=u;simp only[bwdS,go_sem];refine zAA ⟨U,fun j O J=>?_⟩ ?_
   .by_cases e:j=v
    .subst e;rw[P,a4];exact fun t _ z=>u t (by omega) z
    .exact a1 j (by omega) J
   refine ybn [] [] [] ?_;simp only[f,ybu,ycw,I,wk,go_sem,zA,zC];exact⟨fun _ _ _ _ e=>e,fun j a=>by rw[if_pos a],fun j b m=>ydx m⟩
 .rintro _ ⟨_,B⟩;simp only[bwdS,f,ybu,yhi,go_sem];have B:ybwn T c (T.length-T.length):=B;have X:=yvv Y N fun j _ a=>B j (by omega) a
  have I:∀j,j<T.length->cD T c T.length j=(advT T c).1.getD j []:=fun j a=>by
   rw[X,yxa a];unfold cD;rw[if_neg (by omega)]
  refine⟨.tp [],ybu 302 303 T.length (fun j=>(advT T c).1.getD j []),?_,?_,rfl,rfl⟩
  .refine ybn [] [] [] ?_;simp only[ybu,ycw,wk,go_sem,zA,zC];refine⟨fun _ _ _ _ e=>e,fun j a=>?_,fun j b m=>?_⟩
   .rw[I j a];exact⟨Sim.refl _,by rw[if_pos a]⟩
   .obtain⟨a,rfl⟩:=ycz (x:=intO ((advT T c).1.getD j [])) m;rw[<-I j a];exact⟨_,if_pos a,ycj (ycq _)⟩
  .simp only[ybu,ycw,ycl,yfm,wk,go_sem,zA];exact⟨fun k hk=>by rw[if_pos hk],fun i b m=>(ycz m).2▸ykt⟩
end Sh
end
section
def rowP(bs:List (Int×Int))(p x t:Nat):Int:=if t<bs.length-x then 0 else(plR (bs.drop (bs.length-x)) p).1.getD (t-(bs.length-x)) 0
def pP(bs:List (Int×Int))(p x:Nat):Nat:=(plR (bs.drop (bs.length-x)) p).2
theorem ydmi(bs:List (Int×Int))(p:Nat):pP bs p 0=p:=by unfold pP;rw[zAM,zAH];rfl
theorem yduf(bs:List (Int×Int))(p:Nat):pP bs p bs.length=(plR bs p).2:=by unfold pP;rw[zZ];rfl
theorem ybwe(bs:List (Int×Int))(p:Nat){t:Nat}(a:t<bs.length):rowP bs p 0 t=0:=by unfold rowP;rw[if_pos (by omega)]
theorem ycnp(bs:List (Int×Int))(p t:Nat):rowP bs p bs.length t=(plR bs p).1.getD t 0:=by unfold rowP;rw[if_neg (by omega),zZ];rfl
section
variable {bs:List (Int×Int)}{p x i:Nat}
theorem yche(d:x<bs.length)(c:i=bs.length-1-x):plR (bs.drop (bs.length-(x+1))) p=(((pP bs p x:Nat):Int)::(plR (bs.drop (bs.length-x)) p).1,pP bs p x*szP (bs.getD i (0,0))):=by
 have a:bs.length-(x+1)=i:=by omega
 have b:bs.length-x=i+1:=by omega
 unfold pP;rw[a,b,drop_at (0,0) (show i<bs.length by omega)]
 rfl
theorem ydex(b:x<bs.length)(a:i=bs.length-1-x):pP bs p (x+1)=pP bs p x*szP (bs.getD i (0,0)):=by
 show(plR _ p).2=_;rw[yche b a]
theorem rowP_step(b:x<bs.length)(a:i=bs.length-1-x)(t:Nat):rowP bs p (x+1) t=if t=i then((pP bs p x:Nat):Int)else rowP bs p x t:=by
 unfold rowP
 by_cases e:t=i
 .rw[if_pos e,if_neg (by omega),yche b a,show t-(bs.length-(x+1))=0 by omega]
  rfl
 .rw[if_neg e]
  by_cases q:t<i
  .rw[if_pos (by omega),if_pos (by omega)]
  .rw[if_neg (by omega),if_neg (by omega),yche b a,show t-(bs.length-(x+1))=(t-(bs.length-x))+1 by omega]
   rfl
theorem yebz:pP bs p x=p*ybq (bs.drop (bs.length-x)):=yrk _ _
theorem yede(h:bdR bs):pP bs p x<=p*ybq bs:=by
 rw[yebz];refine zAE _ ?_
 conv=>rhs;rw[<-zAQ (bs.length-x) bs,yit]
 exact zO _ (ymh fun b a=>h b (zAT a))
end
def cP(T:List (List (Int×Int)))(q j:Nat):List Int:=if j<T.length-q then[]else(plT (T.drop (T.length-q)) 1).1.getD (j-(T.length-q)) []
def ppT(T:List (List (Int×Int)))(q:Nat):Nat:=(plT (T.drop (T.length-q)) 1).2
theorem ycnz(T:List (List (Int×Int))):ppT T 0=1:=by unfold ppT;rw[zAM,zAH];rfl
theorem yeai(T:List (List (Int×Int)))(j:Nat):cP T T.length j=(plT T 1).1.getD j []:=by unfold cP;rw[if_neg (by omega),zZ];rfl
section
variable {T:List (List (Int×Int))}{q v:Nat}
theorem yceu(c:q<T.length)(d:v=T.length-1-q):plT (T.drop (T.length-(q+1))) 1=((plR (T.getD v []) (ppT T q)).1::(plT (T.drop (T.length-q)) 1).1,(plR (T.getD v []) (ppT T q)).2):=by
 have a:T.length-(q+1)=v:=by omega
 have b:T.length-q=v+1:=by omega
 unfold ppT;rw[a,b,drop_at [] (show v<T.length by omega)]
 rfl
theorem ybpi(a:q<T.length)(b:v=T.length-1-q):ppT T (q+1)=(plR (T.getD v []) (ppT T q)).2:=by
 show(plT _ 1).2=_;rw[yceu a b]
theorem ydeo(a:q<T.length)(b:v=T.length-1-q)(j:Nat):cP T (q+1) j=if j=v then(plR (T.getD v []) (ppT T q)).1 else cP T q j:=by
 unfold cP
 by_cases e:j=v
 .rw[if_pos e,if_neg (by omega),yceu a b,show j-(T.length-(q+1))=0 by omega]
  rfl
 .rw[if_neg e]
  by_cases w:j<v
  .rw[if_pos (by omega),if_pos (by omega)]
  .rw[if_neg (by omega),if_neg (by omega),yceu a b,show j-(T.length-(q+1))=(j-(T.length-q))+1 by omega]
   rfl
theorem yeat:ppT T q=ybl (T.drop (T.length-q)):=by unfold ppT;rw[ybcg,Nat.one_mul]
theorem ydvr(h:bdT T):ppT T q<=ybl T:=by
 rw[yeat]
 conv=>rhs;rw[<-zAQ (T.length-q) T,ygv]
 exact zO _ (ypo fun b a=>h b (zAT a))
theorem ydsz(h:bdT T)(a:q<T.length)(b:v=T.length-1-q)(x:Nat):pP (T.getD v []) (ppT T q) x<=ybl T:=by
 refine zN (yede (ycin h)) ?_;have:ppT T q*ybq (T.getD v [])=ppT T (q+1):=by rw[ybpi a b,yrk]
 rw[this];exact ydvr h
end
end
section
namespace Sh
open Ev Go.RowKit
def yfa(T:List (List (Int×Int))):List (List Int):=(plT T 1).1
theorem ycbk:∀(rs:List (List (Int×Int))) (p v:Nat),v<rs.length->((plT rs p).1.getD v []).length=(rs.getD v []).length
 |[],_,_,h=>by simp at h
 |r::rs,p,0,_=>ybnf r _
 |r::rs,p,v+1,h=>ycbk rs p v (by simpa using h)
theorem yxc{T:List (List (Int×Int))}{j:Nat}(a:j<T.length):((yfa T).getD j []).length=(T.getD j []).length:=ycbk T 1 j a
def ydp(p:ProgT)(g:Gr)(net:List Nat)(kind:Int)(T:List (List (Int×Int))):List SV:=[yft p g,usV net,.i .i64 kind,yj T,yct (yfa T)]
theorem ybsq{Q1 Q2:(Nat->Option ABlk)->Value->Prop}{p:ProgT}{g:Gr}(h:Checked Q1 Q2 p g):Returns zJ 123 [.ag (yfu Q1 Q2 p.raw),grV g] (yft p g):=by
 have a:=h.hp;unfold ProgT.ok at a;simp only[zM,decide_eq_true_eq]at a;have c:Returns zJ 123 [.ag (yoq p.raw),grV g] (yft p g):=(ybgi p.raw h.hg a.1.1.2 a.1.1.1.2).exT
 have b:Ct zJ 123 [.ag (yfu Q1 Q2 p.raw),grV g] fun r=>Sim r (yft p g):=by
  refine(c.use (Q:=fun r=>Sim r (yft p g)) (Sim.refl _)).simL ?_;exact⟨ybhj _ _ _,Sim.refl _,trivial⟩
 exact Returns.of b
section
variable {Q1 Q2:(Nat->Option ABlk)->Value->Prop}{p:ProgT}{g:Gr}
set_option maxHeartbeats 4000000 in
theorem ybny(h:Checked Q1 Q2 p g)(I:TabOk (tabP p g))(kind:Int):Returns zJ 58 [.ag (yfu Q1 Q2 p.raw),grV g,.i .i64 kind] (.rf (ydp p g (g.ports.map netP) kind (tabP p g))):=by
 refine Returns.of (ydwz _ _ ?_);have hM:=ybsq h;have W:=ybtq h.hg;have D:=ync h;have V:=I.tot;have M:=I.len;obtain⟨T,Y⟩:∃T,tabP p g=T:=⟨_,rfl⟩;rw[Y]at D I V M ⊢
 generalize g.ports.map netP=net at W ⊢
 simp only[yfu,grV]at hM W D;simp only[c58,ydur,ydvc,yfu,grV,clash,go_sem,zA,zB,zC];refine hM.use ?_;simp only[usV,yft]at W ⊢;simp only[ybj,clash,go_sem,zA,zB,zD,zC];refine W.use ?_;simp only[go_sem,zB,zD]
 repeat refine ybc ?_
 refine D.use ?_;simp only[ydwd,ydoh,ydwf,yj,splice,clash,go_sem,zA,zB,zD,zC]
 repeat refine ybc ?_
 let B:Nat×Fam:=(21,.one (some ⟨86,true,5,1,fun _=>[yft p g,usV net,.i .i64 kind,yj T,.os (28,0) 0 T.length true]⟩))
 let y:Nat->Nat×Fam:=fun q=>(303,.many fun j=>if T.length-q<=j/\j<T.length then some (intO (cP T q j))else none)
 let f:Nat->Nat->List SV:=fun q j=>if T.length-q<=j then[.os (303,j) 0 (T.getD j []).length true]else[.a (.slice none 0 0)]
 have G:∀(O:Own) (q j:Nat),T.length-q<=j/\j<T.length->look O 303=some (y q).2->live O (303,j)=true:=fun O q j m ho=>by
  show(lookO O (303,j)).isSome=true;unfold lookO;rw[ho];show(if T.length-q<=j/\j<T.length then some (intO (cP T q j))else none).isSome=true
  rw[if_pos m];rfl
 refine ybd (σ:=Nat) (fun q=>⟨[(9,.i .i64 ((T.length:Int)-1-(q:Nat))),(8,.i .i64 (ppT T q:Nat)),(7,.pt (21,0) 0 0)],[B,(28,.one (some ⟨22,false,1,T.length,f q⟩)),y q]⟩) (fun q=>q<=T.length) (fun q=>T.length-q) 0 (zG _) ?_ ?_
 .refine yu ?_;simp only[B,y,f,usV,yft,yj,ycnz,wk,go_sem,zA,zC];refine⟨fun _ _ _ _ e=>e,⟨by omega,rfl⟩,fun j m=>?_,fun j b k=>?_⟩
  .rw[if_neg (by omega)];exact yjd rfl
  .rw[if_neg (by omega)]at k;cases k
 .intro q hq
  by_cases z:q<T.length
  .obtain⟨v,hv⟩:∃v,T.length-1-q=v:=⟨_,rfl⟩;have a2:v<T.length:=by omega
   have H:(T.length:Int)-1-(q:Nat)=(v:Int):=by omega
   have d1:decide ((v:Int)>=0)=true:=by simp
   obtain⟨hr,k⟩:=I.at_ a2;have P:=ybpi z hv.symm;have E:=ydeo z hv.symm;have u:=ydsz I.bd z hv.symm;obtain⟨n,Q⟩:∃n,ppT T q=n:=⟨_,rfl⟩;obtain⟨d,o⟩:∃d,T.getD v []=d:=⟨_,rfl⟩;rw[o,Q]at P E u;rw[o]at hr k;have a0:¬T.length-q<=v:=by omega
   simp only[ydih,ydyj,yean,if_neg a0,B,y,f,usV,yft,yj,yx,H,d1,o,Q,splice,clash,go_sem,zA,zB,zD,zC]
   repeat refine ybc ?_
   have N:∀(O:Own) (j:Nat),T.length-q<=j/\j<T.length->look O 303=some (y q).2->Sh.live O (303,j)=true:=fun O j=>G O q j;refine ybd (σ:=Nat) (fun x=>⟨[(10,.i .i64 ((d.length:Int)-1-(x:Nat))),(9,.i .i64 (v:Nat)),(8,.i .i64 (pP d n x:Nat)),(7,.pt (21,0) 0 0)],[B,(28,.one (some ⟨22,false,1,T.length,fun j=>if j=v then[.os (54,0) 0 d.length true]else f q j⟩)),(54,.one (some ⟨3,false,1,d.length,fun t=>[.i .i64 (rowP d n x t)]⟩)),y q]⟩) (fun x=>x<=d.length) (fun x=>d.length-x) 0 (zG _) ?_ ?_
   .refine yu ?_;simp only[B,y,f,usV,yft,yj,yx,ydmi,wk,go_sem,zA,zC];refine⟨fun _ _ _ _ e=>e,by omega,fun j m=>?_,fun t ht=>by rw[ybwe d n ht],fun j b k=>?_⟩
    .by_cases e:j=v
     .simp only[if_pos e];exact ygj rfl rfl
     .by_cases w:T.length-q<=j
      .simp only[if_neg e,if_pos w];exact ygj (N _ j ⟨w,m⟩ rfl) rfl
      .simp only[if_neg e,if_neg w];exact yjd rfl
    .by_cases w:T.length-q<=j/\j<T.length
     .rw[if_pos w]at k;cases k
      exact⟨_,if_pos w,ycj (ycq _)⟩
     .rw[if_neg w]at k;cases k
   .intro x hx
    by_cases s:x<d.length
    .obtain⟨i,hi⟩:∃i,d.length-1-x=i:=⟨_,rfl⟩;have Z:i<d.length:=by omega
     have F:(d.length:Int)-1-(x:Nat)=(i:Int):=by omega
     have d2:decide ((i:Int)>=0)=true:=by simp
     have S:=ydex (p:=n) s hi.symm;have a1:=rowP_step (p:=n) s hi.symm;have a3:=u x;have a4:=u (x+1);obtain⟨X,b2,b3⟩:=k i Z;obtain⟨⟨lo,L⟩,J⟩:∃b,d.getD i (0,0)=b:=⟨_,rfl⟩;rw[J]at X b2 b3 S;simp only at X b2 b3;have U:=(yqx (b:=(lo,L)) X).2;simp only at U;have hm:((pP d n x:Nat):Int)*(L-lo+1)=((pP d n (x+1):Nat):Int):=by rw[S,zBA,U]
     simp only[ydga,ycul,ycuv,ycso,B,y,f,usV,yft,yj,yx,F,d2,o,J,hm,splice,clash,go_sem,zQ,zA,zB,zD,zT]
     repeat refine ybc ?_
     refine yh (x+1) s (by omega) ?_
     refine yu ?_;simp only[wk,go_sem,zA,zC];refine⟨fun _ _ _ _ e=>e,by omega,fun j m=>?_,fun t ht=>yfy ?_,fun j b k=>?_⟩
     .by_cases e:j=v
      .simp only[if_pos e];exact ygj rfl rfl
      .by_cases w:T.length-q<=j
       .simp only[if_neg e,if_pos w];exact ygj (N _ j ⟨w,m⟩ rfl) rfl
       .simp only[if_neg e,if_neg w];exact yjd rfl
     .rw[a1]
      by_cases e:t=i
      .rw[if_pos e,if_pos e]
      .rw[if_neg e,if_neg e]
     .by_cases w:T.length-q<=j/\j<T.length
      .rw[if_pos w]at k;cases k
       exact⟨_,if_pos w,ycj (ycq _)⟩
      .rw[if_neg w]at k;cases k
    .obtain rfl:x=d.length:=by omega
     have F:(d.length:Int)-1-(d.length:Nat) = -1:=by omega
     simp only[ydga,ydri,B,y,f,usV,yft,yj,yx,F,clash,zAU,zBD,go_sem,zA,zB]
     repeat refine ybc ?_
     refine yh (q+1) z (by omega) ?_
     refine ybw [(303,fun j=>if j=v then(54,0)else(303,j))] [] [] ?_
     simp only[yduf,P,wk,go_sem,zA,zC];refine⟨?_,by omega,fun j m=>?_,fun j b k=>?_⟩
     .repeat' apply zAA
      all_goals first|exact fun i _=>ybee (by decide) (by decide)|exact fun i _=>ysn (by decide) (by decide)|exact fun i _ j _=>yzx (by decide)
     .by_cases e:j=v
      .have C:T.length-(q+1)<=j:=by omega
       simp only[if_pos e,if_pos C];exact ygj (G _ (q+1) j ⟨C,m⟩ rfl) (by subst e;simp only[o,go_sem])
      .by_cases w:T.length-q<=j
       .have C:T.length-(q+1)<=j:=by omega
        simp only[if_neg e,if_pos w,if_pos C];exact ygj (G _ (q+1) j ⟨C,m⟩ rfl) (by simp only[e,go_sem])
       .have C:¬T.length-(q+1)<=j:=by omega
        simp only[if_neg e,if_neg w,if_neg C];exact yjd rfl
     .by_cases w:T.length-(q+1)<=j/\j<T.length
      .rw[if_pos w]at k;cases k
       by_cases e:j=v
       .subst e;simp only[go_sem,zA];have r:=E j;rw[if_pos rfl]at r;rw[r];refine ycj (l:=(plR d n).1) (c:=⟨3,false,1,d.length,fun t=>[SV.i .i64 (rowP d n d.length t)]⟩) ⟨⟨rfl,rfl,rfl,(ybnf d n).symm⟩,fun t ht=>?_⟩;show[SV.i .i64 (rowP d n d.length t)]=_;rw[ycnp]
       .have r:=E j;rw[if_neg e]at r;rw[r];have w2:T.length-q<=j/\j<T.length:=⟨by omega,w.2⟩
        simp only[e,go_sem,zA];exact⟨_,if_pos w2,ycj (ycq _)⟩
      .rw[if_neg w]at k;cases k
  .obtain rfl:q=T.length:=by omega
   have H:(T.length:Int)-1-(T.length:Nat) = -1:=by omega
   simp only[ydih,ycxw,B,y,f,usV,yft,yj,yx,H,clash,zAU,zBD,go_sem,zA,zB,zD];have A:∀j,T.length-T.length<=j:=fun j=>by omega
   have K:∀j,cP T T.length j=(yfa T).getD j []:=fun j=>yeai T j;have u:(yfa T).length=T.length:=ybbp T 1;have R:∀j,j<T.length->((yfa T).getD j []).length=(T.getD j []).length:=fun j m=>yxc m;refine⟨fun j m=>?_,ycqv ⟨Sim.refl _,Sim.refl _,Sim.refl _,Sim.refl _,?_,trivial⟩ rfl⟩
   .simp only[if_pos (A j)];have w:T.length-T.length<=j/\j<T.length:=⟨A j,m⟩;simp only[if_pos w,intO,K,R j m,go_sem,zA]
   .unfold yct ybb;rw[u];refine ydu fun j m=>?_;simp only[if_pos (A j)];have w:T.length-T.length<=j/\j<T.length:=⟨A j,m⟩;simp only[if_pos w,intO,K,R j m,SimL,go_sem,zA];exact Sim.refl _
end
end Sh
end
section
namespace Sh
open Ev Go.RowKit
theorem ydry{h:Nm->Nm}{a:List Nat}{c:List Nm}{b O:Own}{X:List SV}{k:IntKind}{x:Int}(e:X=[.i k x]):telL h a c b O X [.i k x]:=by
 subst e;exact⟨.inl ⟨trivial,by rw[ybxx];exact Sim.refl _,rfl⟩,rfl,trivial⟩
theorem ybga{l:List Int}{c:OB}{h:Nm->Nm}{f:List Nm}{b d:Own}(a:(c.e=3/\c.bx=false/\c.z=1/\c.n=l.length)/\∀i,i<l.length->c.g i=[.i .i64 (l.getD i 0)]) :
 (c.e=(intO l).e/\c.bx=(intO l).bx/\c.z=(intO l).z/\c.n=(intO l).n)/\(mapE (intO l).e=true->∀i,c.g i=(intO l).g i)/\∀i,i<(intO l).n->telL h [] f b d (c.g i) ((intO l).g i) :=
 ⟨a.1,fun q=>absurd (show false=true from q) zAW,fun i j=>ydry (a.2 i j)⟩
set_option maxHeartbeats 8000000 in
theorem yckw(p:ProgT){g:Gr}(M:ybi g)(V:p.ok=true){c:Conf}(C:ConfIn g.ports.length p.vars.length c){v:Nat}(P:v<g.ports.length){r:Nat}(O:r<p.rules.length) :
 Cm zJ 127 [(302,0)] (ybu 302 303 c.length fun j=>c.getD j []) [.rf (yka p.raw g),.os (302,0) 0 c.length true,.i .i64 v,.i .i64 r] fun W o=>W=ybb (yjs p g c v r)/\o=ybu 302 303 c.length fun j=>c.getD j []:=by
 refine ycla [(302,0)] [] _ _ _ ?_;obtain⟨R,D⟩:∃R,p.rules.getD r default=R:=⟨_,rfl⟩;have f:=V;unfold ProgT.ok at f;simp only[zM,decide_eq_true_eq]at f
 have d:R.ok p.vars.length=true:=by
  rw[<-D,getD_at O];exact List.all_eq_true.1 f.2 _ (zAC _)
 unfold RuleT.ok at d;simp only[zM,decide_eq_true_eq]at d
 have z:p.raw.rules.getD r default=R.raw:=by
  rw[<-D];simp[ProgT.raw,zAI,O]
 have h:p.raw.rules.length=p.rules.length:=by simp[ProgT.raw]
 have u:R.raw.sets.length=R.sets.length:=by simp[RuleT.raw]
 have hid:=M.2.2.1;have U:=C.len;have A:=C.at_ P;have I:¬(c.getD v []).length=0:=by omega
 have K:v<c.length:=by omega
 let w:Nat->List Int:=fun j=>c.getD j []
 simp only[c127,ycyt,ydck,ydba,I,yka,ydn,yju,z,h,u,ybu,ycw,intO,if_pos K,clash,go_sem,zA,zB,zD,zC];obtain⟨L,s⟩:∃k,p.vars.length=k:=⟨_,rfl⟩;have t:=A.1;rw[s]at t d C;rw[s]at f;have H:yjs p g c v r=ytt p g c v (c.getD v []) R.sets:=by unfold yjs;rw[D]
 have y:∀k,(ytt p g c v (c.getD v []) (R.sets.take k)).length=L:=fun k=>(ytc p g c v _ _).trans t
 repeat refine ybc ?_
 refine ybd (σ:=Nat) (fun k=>⟨[(28,.i .i64 k),(27,.i .i64 R.sets.length),(26,yju R.raw.sets),(0,.rf (yka p.raw g)),(1,.os (302,0) 0 c.length true),(2,.i .i64 v),(9,.os (17,0) 0 L true)],
  (17,.one (some ⟨3,false,1,L,fun i=>[.i .i64 ((ytt p g c v (c.getD v []) (R.sets.take k)).getD i 0)]⟩))::ybu 302 303 c.length w⟩) (fun k=>k<=R.sets.length) (fun k=>R.sets.length-k) 0 (zG _) ?_ ?_
 .refine ybn [] [] [] ?_;simp only[yka,ydn,yju,h,u,t,ybu,ycw,wk,go_sem,zA,zC];refine⟨fun _ _ _ _ e=>e,fun i m=>rfl,fun i m=>⟨Sim.refl _,by rw[if_pos m]⟩,fun i b l=>?_⟩
  obtain⟨q,rfl⟩:=ycz l;exact⟨_,if_pos q,ycj (ycq _)⟩
 .intro k hk;simp only[ycsd,yctm,ycrs,yka,yju,u,ybu,splice,clash,go_sem,zA,zB,zD,zC];refine⟨fun G=>?_,fun G=>?_⟩
  .have n:k<R.sets.length:=by omega
   obtain⟨S,E⟩:∃S,R.sets.getD k default=S:=⟨_,rfl⟩
   have B:R.raw.sets.getD k default=⟨S.1,S.2.ser⟩:=by
    rw[<-E];simp[RuleT.raw,zAI,n]
   have a:=List.all_eq_true.1 d.2 S (by rw[<-E,getD_at n];exact zAC _)
   simp only[zM,decide_eq_true_eq]at a;have T:=ybjj p.raw M C P S.2 a.1.2 a.2;refine⟨by omega,?_⟩
   rw[B];refine .inl ⟨fun q J=>?_,T.useS ⟨Sim.refl _,?_,Sim.refl _,Sim.refl _,trivial⟩ ?_⟩
   .simp only[ycw,if_pos J];exact⟨zX _,fun _ _=>⟨trivial,trivial⟩⟩
   .unfold yct;refine ydu fun q J=>?_;simp only[ycw,if_pos J];exact⟨⟨Sim.refl _,trivial⟩,rfl⟩
   have Q:=ychy (p.vars.getD S.1.toNat default).kind (ybh g v (p.vars.getD S.1.toNat default)) (ycp g c v S.2 (-1));have x:p.raw.vars=p.vars:=rfl;simp only[ycuo,ybj,yzt,yfk,varC,splice,x,s,clash,go_sem,zA,zB,zD];refine⟨by omega,by omega,by omega,Q.use ?_⟩
   simp only[go_sem,zA];have F:Nat.testBit 134217727 25=true:=by decide
   simp only[ycxs,F,clash,go_sem,zA,zB];refine⟨by omega,by omega,ikw (by omega) (by omega),?_⟩
   refine ycb (k+1) ?_;refine ybn [] [] [] ?_;simp only[ybrz p g c v _ _ k n,E,ycw,wk,go_sem,zA,zC];refine⟨fun _ _ _ _ e=>e,by omega,fun i m=>yfy ?_,fun i m=>by rw[if_pos m],fun i b l=>?_⟩
   .rw[ybdz (by rw[y];omega)]
    by_cases q:i=S.1.toNat
    .simp only[if_pos q]
    .simp only[if_neg q]
   .obtain⟨q,rfl⟩:=ycz l;exact⟨_,if_pos q,ycj (ycq _)⟩
  .obtain rfl:k=R.sets.length:=by omega
   simp only[ycrp,yhi,clash,go_sem,zA,zB];have N:=y R.sets.length;rw[List.take_length,<-H]at N ⊢;refine⟨ybb (yjs p g c v r),ybu 302 303 c.length w,?_,?_,rfl,rfl⟩
   .refine ybn [] [] [(17,0)] ?_;simp only[ybu,ycw,ybb,wk,go_sem,zA,zC];refine⟨fun _ _ _ _ e=>e,by rw[N];exact Sim.refl _,fun i m=>by rw[if_pos m],fun i b l=>?_⟩
    obtain⟨q,rfl⟩:=ycz l;exact⟨_,if_pos q,ybga (ycq _)⟩
   .simp only[ybu,ycw,ycl,yfm,ybb,wk,go_sem,zA];exact⟨fun k hk=>by rw[if_pos hk],fun i b l=>(ycz l).2▸ykt⟩
end Sh
end
section
theorem ybhk(f:Nat->Int):∀(l:List Nat),sumI (fun j=>f (l.getD j 0)) l.length=(l.map f).sum
 |[]=>rfl
 | x::l=>by
   show sumI _ (l.length+1)=_;rw[yna,List.map_cons,List.sum_cons,<-ybhk f l];rfl
theorem ybpm(f:Nat->Int)(p:Nat->Bool):∀m,(((zAS m).filter p).map f).sum=sumI (fun v=>if p v=true then f v else 0) m
 |0=>rfl
 | m+1=>by
   rw[List.range_succ,List.filter_append,List.map_append,List.sum_append,ybpm f p m];show _=sumI _ m+_;congr 1;cases h:p m<;>simp[h]
theorem yboy{g:Nat->Int}{n:Nat}:∀d,(∀v,n<=v->g v=0)->sumI g (n+d)=sumI g n
 |0,_=>rfl
 | d+1,h=>by
   show sumI g (n+d)+g (n+d)=_;rw[yboy d h,h (n+d) (by omega)];omega
theorem ycie{f:Nat->Int}{s n:Nat}(d:n<=32)(a:s<2^n):sumI (fun j=>f ((yca s).getD j 0)) (yca s).length=sumI (fun v=>if s.testBit v=true then f v else 0) n:=by
 rw[ybhk];unfold yca;rw[ybpm]
 have:=yboy (g:=fun v=>if s.testBit v=true then f v else 0) (n:=n) (32-n) fun v b=>by
  show(if s.testBit v=true then f v else 0)=0
  rw[zAP (zAF a (zI (by omega) b))];rfl
 rw[show n+(32-n)=32 by omega]at this
 exact this
theorem ybpu:∀(xs a:List Int),grR xs xs a=0
 |[],_=>rfl
 |_::_,[]=>rfl
 | x::xs,q::a=>by
   show(x-x)*q+grR xs xs a=0;rw[ybpu xs a,Int.sub_self,Int.zero_mul];rfl
theorem yblv{f:Nat->Int}{B:Int}:∀n:Nat,(∀i,i<n -> -B<=f i/\f i<=B) -> -(n*B)<=sumI f n/\sumI f n<=n*B
 |0,_=>by simp[sumI]
 | n+1,h=>by
   have d:=yblv n fun i b=>h i (by omega)
   have a:=h n (by omega)
   show -(((n+1:Nat):Int)*B)<=sumI f n+f n/\sumI f n+f n<=((n+1:Nat):Int)*B;have:((n+1:Nat):Int)*B=n*B+B:=by rw[Int.natCast_add,Int.add_mul];simp
   omega
theorem yddn{a b:Int}(d:-2000000<=a/\a<=2000000)(e:0<=b/\b<=32768):-65536000000<=a*b/\a*b<=65536000000:=by
 have f:a*b<=2000000*b:=zAJ d.2 e.1;have h:-2000000*b<=a*b:=zAJ d.1 e.1;omega
theorem ybxb:∀{bs:List (Int×Int)}(p:Nat) {t:Nat},bdR bs->t<bs.length->∃m:Nat,(plR bs p).1.getD t 0=(m:Int)/\m<=p*ybq bs
 |[],_,_,_,h=>by simp at h
 | b::bs,p,0,a,_=>⟨(plR bs p).2,rfl,by
   rw[yrk];exact zAE _ (zO _ (yqx (a b zK)).1)⟩
 | b::bs,p,t+1,a,h=>by
   obtain⟨m,d,e⟩:=ybxb (bs:=bs) p (t:=t) (fun x f=>a x (zU _ f)) (by simpa using h)
   exact⟨m,d,zN e (zAE _ (zO _ (yqx (a b zK)).1))⟩
theorem ybyz:∀{rs:List (List (Int×Int))}(p:Nat) {v t:Nat},bdT rs->v<rs.length->t<(rs.getD v []).length->∃m:Nat,((plT rs p).1.getD v []).getD t 0=(m:Int)/\m<=p*ybl rs
 |[],_,_,_,_,h,_=>by simp at h
 | r::rs,p,0,t,a,_,e=>by
   obtain⟨m,b,d⟩:=ybxb (bs:=r) (plT rs p).2 (a r zK) e;refine⟨m,b,zN d ?_⟩;rw[ybcg];show p*ybl rs*ybq r<=p*(ybq r*ybl rs);rw[Nat.mul_assoc,zBE (ybl rs)];exact zX _
 | r::rs,p,v+1,t,a,h,e=>by
   obtain⟨m,b,d⟩:=ybyz (rs:=rs) p (v:=v) (t:=t) (fun x f=>a x (zU _ f)) (by simpa using h) e
   exact⟨m,b,zN d (zAE _ (zO _ (ymh (a r zK))))⟩
def ynw(p:ProgT)(g:Gr)(c:Conf)(v:Nat):Int:=if yeq p g c v<0 then 0 else grR (yjs p g c v (yeq p g c v).toNat) (c.getD v []) ((plT (tabP p g) 1).1.getD v [])
section
variable {p:ProgT}{g:Gr}{c:Conf}
theorem ydxf{v:Nat}:(ybt p g c).testBit v=(decide (v<g.ids.length)&&decide (yeq p g c v>=0)):=ymb _ _ _
theorem ydfi(r:ybi g)(t:p.ok=true)(o:∀c,ydd p g c=true->∀s,ydd p g (ygl p g c s)=true)(h:bdT (tabP p g))(k:ydd p g c=true)(b:g.ids.length<=32){s:Nat}(q:subB s (ybt p g c))(e:s<2^g.ids.length) :
 rkT (tabP p g) c+sumI (fun j=>ynw p g c ((yca s).getD j 0)) (yca s).length=rkT (tabP p g) (ygl p g c s):=by
 have n:ydd p g (ygl p g c s)=true:=o c k s;have a:=yiw.1 k;have d:=yiw.1 n;have l:c.length=g.ids.length:=(ymk.1 a).1.trans (yhq _ _ _);have f:=ydbq 1 a d;rw[ychh (by rw[Sh.ylm]) (by rw[ybbp];exact(yhq _ _ _).trans l.symm),l]at f
 rw[ycie b e]
 have m:sumI (fun v=>if s.testBit v=true then ynw p g c v else 0) g.ids.length=sumI (fun i=>grR ((ygl p g c s).getD i []) (c.getD i []) ((plT (tabP p g) 1).1.getD i [])) g.ids.length:=yzj fun v u=>by
  rw[Sh.ypq p g c s (by omega)]
  cases h:s.testBit v with
  | true =>
    have:=q v h;rw[ydxf,zM,decide_eq_true_iff,decide_eq_true_iff]at this;show ynw p g c v=grR (yjs p g c v _) _ _;unfold ynw;rw[if_neg (by omega)]
  | false =>
    show(0:Int)=grR (c.getD v []) _ _;rw[ybpu]
 rw[m,f];omega
end
end
section
def rkN(p:ProgT)(g:Gr)(d:Conf):Nat:=(rkT (tabP p g) d).toNat
def ycef(perm:Nat->Bool)(p:ProgT)(g:Gr)(c:Conf):List (Nat×Nat):=(chP perm (ybt p g c)).map fun s=>(s,rkN p g (ygl p g c s))
namespace Sh
open Ev Go.RowKit
section
variable {Q1 Q2:(Nat->Option ABlk)->Value->Prop}{p:ProgT}{g:Gr}
theorem ycfa(h:Checked Q1 Q2 p g){c:Conf}(b:ydd p g c=true){v:Nat}(e:v<g.ids.length):inR ((tabP p g).getD v []) (yjs p g c v (yeq p g c v).toNat):=by
 have d:=yiw.1 (yjm h.hg h.hp h.hf b (2^v));have f:c.length=g.ids.length:=(ymk.1 (yiw.1 b)).1.trans (yhq _ _ _);have a:=(ymk.1 d).2 v (by rw[show(tabP p g).length=g.ids.length from yhq _ _ _];exact e)
 rw[ypq p g c _ (by omega),if_pos (by rw[Nat.testBit_two_pow];simp)]at a
 exact a
set_option maxHeartbeats 8000000 in
theorem ybwb (h:Checked Q1 Q2 p g) (hT:TabOk (tabP p g)) {kind:Int}(d4:kind=2\/kind=3) (d5:g.ids.length<=4) {c:Conf}(hc:ydd p g c=true) {perm:Nat->Bool}
 (b2:∀e s,e<2^g.ids.length->s≠0->s<16->s&&&e=s->Returns zJ 171 [usV (g.ports.map netP),.i .i64 kind,.i .u32 (e:Nat),.i .u32 (s:Nat)] (.b (perm s))) :
 Cm zJ 60 [(302,0)] (ybu 302 303 c.length fun j=>c.getD j []) [.rf (ydp p g (g.ports.map netP) kind (tabP p g)),.os (302,0) 0 c.length true,.i .i64 (rkN p g c:Nat)] fun r o =>
  r = .tp [.i .u32 (ybt p g c:Nat),ybk (ycef perm p g c),.i .i64 0]/\o=ybu 302 303 c.length fun j=>c.getD j []:=by
 refine ydjt [(302,0)] [129,127] _ _ _ ?_;have hid:=h.hg.2.2.1;have e7:=h.hg.2.1;have b4:=ybqu h.hg h.hp hc;have a8:=yiw.1 hc;obtain⟨c5,c6⟩:=ymk.1 a8;have c2:(tabP p g).length=g.ids.length:=yhq _ _ _;have e6:c.length=g.ids.length:=c5.trans c2;have b6:ybt p g c<16:=zAF (yyj p g c) (zI (by omega) d5:2^g.ids.length<=2^4)
 have U:∀v,v<g.ids.length->∃W,(tabP p g).getD v []=W/\W.length<=6/\(c.getD v []).length=W.length/\(yjs p g c v (yeq p g c v).toNat).length=W.length/\((yfa (tabP p g)).getD v []).length=W.length /\
  ∀i,i<W.length->(-1000000<=(c.getD v []).getD i 0/\(c.getD v []).getD i 0<=1000000)/\(-1000000<=(yjs p g c v (yeq p g c v).toNat).getD i 0/\(yjs p g c v (yeq p g c v).toNat).getD i 0<=1000000)/\(0<=((yfa (tabP p g)).getD v []).getD i 0/\((yfa (tabP p g)).getD v []).getD i 0<=32768):=fun v E=>by
  have a0:v<(tabP p g).length:=by omega
  obtain⟨L,n⟩:=hT.at_ a0;obtain⟨h1,h2⟩:=yom.1 (c6 v a0);obtain⟨h3,h4⟩:=yom.1 (ycfa h hc E);refine⟨_,rfl,L.2,h1,h3,yxc a0,fun i t=>?_⟩;have a:=n i t;have b:=h2 i t;have d:=h4 i t;obtain⟨m,e1,H⟩:=ybyz 1 hT.bd a0 t;have e3:((yfa (tabP p g)).getD v []).getD i 0=(m:Int):=e1;have e4:=hT.tot;rw[e3];omega
 have P:∀v,v<g.ids.length->∀x,x<=(c.getD v []).length -> -1000000000000<=sumI (fun i=>((yjs p g c v (yeq p g c v).toNat).getD i 0-(c.getD v []).getD i 0)*((yfa (tabP p g)).getD v []).getD i 0) x/\sumI (fun i=>((yjs p g c v (yeq p g c v).toNat).getD i 0-(c.getD v []).getD i 0)*((yfa (tabP p g)).getD v []).getD i 0) x<=1000000000000:=fun v E x hx=>by
  obtain⟨W,-,h1,h2,-,-,h3⟩:=U v E;have:=yblv (B:=65536000000) x fun i t=>yddn (a:=(yjs p g c v (yeq p g c v).toNat).getD i 0-(c.getD v []).getD i 0) (b:=((yfa (tabP p g)).getD v []).getD i 0) (by have:=h3 i (by omega);omega) (h3 i (by omega)).2.2
  have f6:(x:Int)<=6:=by omega
  omega
 have a2:∀v,v<g.ids.length->¬yeq p g c v<0->ynw p g c v=sumI (fun i=>((yjs p g c v (yeq p g c v).toNat).getD i 0-(c.getD v []).getD i 0)*((yfa (tabP p g)).getD v []).getD i 0) (c.getD v []).length:=fun v E L=>by
  obtain⟨W,-,h1,h2,h3,h4,-⟩:=U v E;unfold ynw;rw[if_neg L];exact ycfc (by omega) (by show((yfa (tabP p g)).getD v []).length=_;omega)
 have Q:∀v,v<g.ids.length -> -1000000000000<=ynw p g c v/\ynw p g c v<=1000000000000:=fun v E=>by
  by_cases L:yeq p g c v<0
  .have:ynw p g c v=0:=if_pos L;omega
  .rw[a2 v E L];exact P v E _ (zX _)
 have a7:=fun v (E:v<g.ids.length)=>ycob p h.hg h.hp b4 (v:=v) (by omega)
 have a5:=fun v (E:v<g.ids.length) (r:Nat) (L:r<p.rules.length)=>yckw p h.hg h.hp b4 (v:=v) (by omega) L
 let bc:List SV:=ydp p g (g.ports.map netP) kind (tabP p g)
 let w:Nat->List Int:=fun j=>c.getD j []
 let K:Own:=ybu 302 303 c.length w
 let f:Nat->Bool:=fun j=>decide (yeq p g c j>=0)
 simp only[c60,ydyb,ydrf,yeaq,ydne,ydp,ybu,clash,go_sem,zA,zB,zC];refine ybd (σ:=Nat) (fun v=>⟨[(23,.i .i64 v),(22,.i .i64 (c.length:Nat)),(1,.os (302,0) 0 c.length true),(0,.rf bc),(9,.i .u32 (ylp f v:Nat)),(2,.i .i64 (rkN p g c:Nat)),(10,.pt (10,0) 0 0)],(10,.one (some ⟨150,true,1,24,fun j=>[.i .i64 (if j<v then ynw p g c j else 0)]⟩))::K⟩) (fun v=>v<=g.ids.length) (fun v=>g.ids.length-v) 0 (zG _) ?_ ?_
 .refine ybn [] [] [] ?_;simp only[K,ybu,ycw,bc,ydp,yct,ybb,ylp,zS,wk,go_sem,zA,zC];exact⟨fun _ _ _ _ e=>e,fun i t=>⟨Sim.refl _,by rw[if_pos t]⟩,fun i b n=>ydx n⟩
 .intro v E
  by_cases A:v<g.ids.length
  .have d1 : decide ((v:Int)<(c.length:Int))=true:=by simp;omega
   have f4:=ycks p g c v;have Y:ylp f (v+1)=if f v=true then ylp f v|||2^v else ylp f v:=rfl
   have f5:=ybed f v;have e8:2^v<=2^4:=zI (by omega) (by omega)
   have hR:=a7 v A
   by_cases L:yeq p g c v<0
   .have d2:decide (yeq p g c v<0)=true:=decide_eq_true L;have b0:f v=false:=decide_eq_false (by omega)
    rw[b0,if_neg (by decide)]at Y
    have c8:ynw p g c v=0:=if_pos L;simp only[ycoy,ydif,ydkc,ydja,ycdi,K,ybu,bc,ydp,yft,d1,clash,go_sem,zA,zB,zD,zF];refine .inl ⟨fun q F=>?_,hR.useS ⟨ybgc _ _,?_,Sim.refl _,trivial⟩ (zAA rfl ?_)⟩
    .simp only[ycw,if_pos F];exact⟨zX _,fun _ _=>⟨trivial,trivial⟩⟩
    .unfold yct;refine ydu fun q F=>?_;simp only[ycw,if_pos F];exact⟨⟨Sim.refl _,trivial⟩,rfl⟩
    simp only[ybj,d2,clash,go_sem,zA,zB]
    repeat refine ybc ?_
    refine yh (v+1) A (by omega) ?_
    refine ybn [] [] [] ?_;simp only[ycw,Y,wk,go_sem,zA,zC];refine⟨fun _ _ _ _ e=>e,by omega,fun j hj=>?_,fun i t=>by rw[if_pos t],fun i b n=>ydx n⟩
    by_cases e:j<v
    .rw[if_pos e,if_pos (by omega)]
    .rw[if_neg e]
     by_cases H:j=v
     .rw[if_pos (by omega),H,c8]
     .rw[if_neg (by omega)]
   .have d2:decide (yeq p g c v<0)=false:=decide_eq_false L;obtain⟨r,c0⟩:∃r:Nat,yeq p g c v=(r:Int):=⟨(yeq p g c v).toNat,by omega⟩
    have b0:f v=true:=decide_eq_true (by omega)
    rw[b0,if_pos rfl]at Y;have hM:=a5 v A r (by omega)
    have b9:=ycfa h hc A;rw[c0]at hR d2 b9;rw[zY]at b9;have I:=P v A;have J:=a2 v A L;obtain⟨W,-,w1,w2,w3,w4,w5⟩:=U v A;rw[c0,zY]at I J w3 w5;have f1:(yfa (tabP p g)).length=g.ids.length:=(ybbp _ 1).trans c2;obtain⟨M,c4⟩:∃M,yjs p g c v r=M:=⟨_,rfl⟩;obtain⟨cv,a1⟩:∃cv,c.getD v []=cv:=⟨_,rfl⟩;obtain⟨qv,a3⟩:∃qv,(yfa (tabP p g)).getD v []=qv:=⟨_,rfl⟩;rw[c4]at hM I J w3 w5;rw[a1]at I J w2 w5;rw[a3]at I J w4 w5
    let gt:Nat->Int:=sumI (fun i=>(M.getD i 0-cv.getD i 0)*qv.getD i 0)
    have u1:=ybow (v:=v) (by omega)
    have u2:=u32_or (a:=ylp f v) (b:=2^v) (by omega) (by omega)
    rw[<-Y]at u2;simp only[IntKind.bits,zY]at u1 u2;simp only[ycoy,ydif,ydkc,ydja,K,ybu,bc,ydp,yft,d1,clash,go_sem,zA,zB,zD,zF];refine .inl ⟨fun q F=>?_,hR.useS ⟨ybgc _ _,?_,Sim.refl _,trivial⟩ (zAA rfl ?_)⟩
    .simp only[ycw,if_pos F];exact⟨zX _,fun _ _=>⟨trivial,trivial⟩⟩
    .unfold yct;refine ydu fun q F=>?_;simp only[ycw,if_pos F];exact⟨⟨Sim.refl _,trivial⟩,rfl⟩
    simp only[ybj,ydnq,ydmy,d2,u1,u2,clash,go_sem,zA,zB,zD,zF]
    repeat refine ybc ?_
    refine yeu hM [(302,302),(303,303)] 400 [11,23,22,1,0,9,2,10] [10] ?_ ?_
    .simp only[ybu,ycw,to1,okN,ycl,yfm,yer,ydy,wk,go_sem,zA,zB,zC,zF];exact⟨fun _ _ _ _ e=>e,ybgc _ _,fun i t=>⟨Sim.refl _,by rw[if_pos t]⟩,fun i b n=>ydx n⟩
    rintro r o' ⟨rfl,rfl⟩;simp only[ybu,ybb,yow,yln,nuF,nu,difN,yer,ydy,Fam.ren,OB.ren,dim,yze,yjx,go_sem,zA,zB,zF];refine ybd (σ:=Nat) (fun x=>⟨[(48,.i .i64 x),(47,.i .i64 (M.length:Nat)),(46,ybb M),(11,.i .i64 v),(23,.i .i64 v),(22,.i .i64 (c.length:Nat)),(1,.os (302,0) 0 c.length true),(0,.rf bc),(9,.i .u32 (ylp f (v+1):Nat)),(2,.i .i64 (rkN p g c:Nat)),(10,.pt (10,0) 0 0)],(10,.one (some ⟨150,true,1,24,fun j=>[.i .i64 (if j=v then gt x else if j<v then ynw p g c j else 0)]⟩))::K⟩) (fun x=>x<=M.length) (fun x=>M.length-x) 0 (zG _) ?_ ?_
    .refine ybn [] [] [] ?_;simp only[K,ybu,ycw,bc,ydp,ybb,wk,go_sem,zA,zC];refine⟨fun _ _ _ _ e=>e,Sim.refl _,fun i t=>?_,fun i t=>⟨Sim.refl _,by rw[if_pos t]⟩,fun i b n=>yjq (h':=nu [(302,302),(303,303)] 400) n⟩
     have:gt 0=0:=rfl
     by_cases e:i=v
     .rw[if_pos e,if_neg (by omega),this]
     .rw[if_neg e]
    .intro x hx
     by_cases D:x<M.length
     .have d3:=dec_lt D;have c9:=I x (by omega)
      have d0:=I (x+1) (by omega)
      have X:gt (x+1)=gt x+(M.getD x 0-cv.getD x 0)*qv.getD x 0:=rfl
      change -1000000000000<=gt x/\gt x<=1000000000000 at c9
      change -1000000000000<=gt (x+1)/\gt (x+1)<=1000000000000 at d0
      obtain⟨y1,y2,y3⟩:=w5 x (by omega)
      obtain⟨Mx,a6⟩:∃y,M.getD x 0=y:=⟨_,rfl⟩;obtain⟨cx,a9⟩:∃y,cv.getD x 0=y:=⟨_,rfl⟩;obtain⟨qx,b3⟩:∃y,qv.getD x 0=y:=⟨_,rfl⟩;rw[a6,a9,b3]at X;rw[a6]at y2;rw[a9]at y1;rw[b3]at y3;have e9:=yddn (a:=Mx-cx) (b:=qx) (by omega) y3
      have d7:v<c.length:=by omega
      have d9:w v=cv:=a1;simp only[K,ybu,ycw,intO,if_pos d7,d9,ybxe,ycyn,yczn,ycrq,bc,ydp,yct,ybb,d3,a3,a6,a9,b3,splice,clash,go_sem,zA,zB]
      repeat refine ybc ?_
      refine yh (x+1) D (by omega) ?_
      refine ybn [] [] [] ?_;simp only[wk,go_sem,zA,zC];refine⟨fun _ _ _ _ e=>e,by omega,fun i t=>yfy ?_,fun i t=>by rw[if_pos t],fun i b n=>ydx n⟩
      by_cases e:i=v
      .rw[if_pos e,if_pos e,X]
      .rw[if_neg e,if_neg e,if_neg e]
     .obtain rfl:x=M.length:=by omega
      simp only[K,ybu,ybxe,ycdi,bc,ydp,ybb,zH,clash,go_sem,zA,zB]
      repeat refine ybc ?_
      refine yh (v+1) A (by omega) ?_
      refine ybn [] [] [] ?_;simp only[ycw,wk,go_sem,zA,zC];refine⟨fun _ _ _ _ e=>e,⟨by omega,Sim.refl _⟩,fun j hj=>?_,fun i t=>by rw[if_pos t],fun i b n=>ydx n⟩
      by_cases e:j=v
      .rw[if_pos e,if_pos (by omega),e,J]
       show sumI _ M.length=_;rw[show M.length=cv.length by omega]
      .rw[if_neg e]
       by_cases H:j<v
       .rw[if_pos H,if_pos (by omega)]
       .rw[if_neg H,if_neg (by omega)]
  .obtain rfl:v=g.ids.length:=by omega
   have d1:decide (((g.ids.length:Nat):Int)<(c.length:Int))=false:=by simp;omega
   have c7:ylp f g.ids.length=ybt p g c:=rfl;obtain⟨en,O⟩:∃e,ybt p g c=e:=⟨_,rfl⟩;have Z:=ybmc (net:=g.ports.map netP) d4 b6 (fun s h1 h2 h3=>b2 _ s (yyj p g c) h1 h2 h3);have V:=fun s (hs:subB s (ybt p g c)) (h2:s<2^g.ids.length)=>ydfi h.hg h.hp (fun c hc s=>yjm h.hg h.hp h.hf hc s) hT.bd hc (by omega) hs h2
   have S:=fun s (hs:s∈chP perm (ybt p g c))=>ybrf hs;rw[c7];rw[O]at Z V S b6 ⊢;obtain⟨z,N⟩:∃l,chP perm en=l:=⟨_,rfl⟩;have b5:ycef perm p g c=z.map fun s=>(s,rkN p g (ygl p g c s)):=by unfold ycef;rw[O,N]
   rw[b5];rw[N]at Z S;have e5:z.length<=16:=by rw[<-N];exact ybeh _ _ _
   simp only[usV]at Z;simp only[K,ybu,ycoy,ycsm,bc,ydp,d1,clash,go_sem,zA,zB,zD,zF];refine Z.use ?_;simp only[ybj,yddz,yddk,ycsr,splice,clash,go_sem,zA,zB,zC]
   repeat refine ybc ?_
   let R:Nat->Nat:=fun s=>rkN p g (ygl p g c s)
   let u:Nat->Nat->Nat:=fun i j=>if j<i then z.getD j 0 else 0
   let w:Nat->Nat->Int:=fun i j=>if j<i then(R (z.getD j 0):Nat)else 0
   have d6:∀j,u 0 j=0:=fun j=>if_neg (zS j);have d8:∀j,w 0 j=0:=fun j=>if_neg (zS j)
   let G:OB:=⟨150,true,1,24,fun j=>[.i .i64 (if j<g.ids.length then ynw p g c j else 0)]⟩
   let B:Own:=[(17,.one (some ⟨78,true,1,1,fun _=>[.os (98,0) 0 z.length true]⟩)),(10,.one (some G))]++K
   let C:(Nat->Nat)->(Nat->Int)->Nat×Fam:=fun u w=>(98,.one (some ⟨103,false,2,z.length,fun j=>[.i .u32 (u j:Nat),.i .i64 (w j)]⟩))
   refine ybd (σ:=Nat) (fun i=>⟨[(101,.i .i64 i),(100,.i .i64 (z.length:Nat)),(99,usV z),(9,.i .u32 (en:Nat)),(2,.i .i64 (rkN p g c:Nat)),(10,.pt (10,0) 0 0),(17,.pt (17,0) 0 0)],C (u i) (w i)::B⟩) (fun i=>i<=z.length) (fun i=>z.length-i) 0 (zG _) ?_ ?_
   .refine ybn [] [] [] ?_;simp only[K,ybu,ycw,usV,G,B,C,d6,d8,wk,go_sem,zA,zC];exact⟨fun _ _ _ _ e=>e,fun i t=>by rw[if_pos t],fun i b n=>ydx n⟩
   .intro i t
    by_cases A:i<z.length
    .have d2:=dec_lt A;obtain⟨s,hs⟩:∃s,z.getD i 0=s:=⟨_,rfl⟩;obtain⟨m1,m2,m3,-⟩:=S s (by rw[<-hs];exact getD_mem A)
     have e0:s<2^24:=by omega
     have a4:subB s en:=fun v E=>by
      have:(s&&&en).testBit v=true:=by rw[m3];exact E
      rw[zBB,zM]at this;exact this.2
     have b7:en<2^g.ids.length:=by rw[<-O];exact yyj p g c
     have c1:s<2^g.ids.length:=ybds a4 b7
     let gv:Nat->Int:=fun q=>(rkN p g c:Nat)+sumI (fun j=>ynw p g c ((yca s).getD j 0)) q
     have b1:gv (yca s).length=(R s:Nat):=by
      have e1:=V s a4 c1;have H:=(ybae a8).1;have e3:=(ybae (yiw.1 (yjm h.hg h.hp h.hf hc s))).1;show((rkT (tabP p g) c).toNat:Int)+_=((rkT (tabP p g) (ygl p g c s)).toNat:Int);omega
     have T:∀q,q<(yca s).length->(yca s).getD q 0<g.ids.length:=fun q F=>by
      obtain⟨-,n⟩:=ycpb e0 (getD_mem F);refine zV fun J=>?_;rw[zAP (zAF c1 (zI (by omega) (by omega)))]at n
      cases n
     have f0:(yca s).length<=32:=by
      have:=List.length_filter_le (fun v=>s.testBit v) (zAS 32);unfold yca
      simpa using this
     have f3:rkN p g c<=32768:=by
      have H:=ybae a8;have e3:=hT.tot;show(rkT (tabP p g) c).toNat<=_;omega
     have b8:∀q,q<=(yca s).length -> -100000000000000<=gv q/\gv q<=100000000000000:=fun q F=>by
      have:=yblv (f:=fun j=>ynw p g c ((yca s).getD j 0)) (B:=1000000000000) q fun j hj=>Q _ (T j (by omega))
      have f2:(q:Int)<=32:=by omega
      show -100000000000000<=(rkN p g c:Int)+_/\(rkN p g c:Int)+_<=100000000000000;omega
     have X:∀q,gv (q+1)=gv q+ynw p g c ((yca s).getD q 0):=fun q=>by
      exact(Int.add_assoc _ _ _).symm
     simp only[K,ybu,ycap,ycvf,yddc,ycwb,usV,G,B,C,d2,hs,splice,clash,go_sem,zA,zB,zD,zC]
     repeat refine ybc ?_
     refine yeu (yclv (s:=s)) [(1,60)] 0 [101,100,99,9,2,10,17,18] [17,18,10,98,302,303] ?_ ?_
     .simp only[ycw,to1,okN,ycl,yfm,yer,ydy,wk,go_sem,zA,zF];exact⟨fun k hk=>by split<;>rfl,fun i b n=>(ycz n).2▸ykt⟩
     rintro r o' ⟨rfl,rfl⟩;simp only[setO,yow,yln,nuF,nu,difN,yer,ydy,Fam.ren,OB.ren,dim,yid,ycup,ycuq,go_sem,zA,zF]
     refine yqn (yces (b:=60) (s:=s) (by omega)) [(60,0),(17,0),(18,0),(10,0),(98,0),(302,0)] (fun q (_:Unit)=>⟨[(113,.fn 172 [] [.pt (60,0) 0 0]),(101,.i .i64 i),(100,.i .i64 (z.length:Nat)),(99,usV z),(9,.i .u32 (en:Nat)),(2,.i .i64 (rkN p g c:Nat)),(10,.pt (10,0) 0 0),(17,.pt (17,0) 0 0),(18,.pt (18,0) 0 0)],
      (60,.one (some (setO (yec s q))))::(18,.one (some ⟨3,true,1,1,fun _=>[.i .i64 i]⟩))::C (fun k=>if k=i then s else u i k) (fun k=>if k=i then gv q else w i k)::B⟩)
      (fun q _=>q<=(yca s).length) () (zG _) ⟨fun β h=>by rw[List.mem_singleton.1 h];simp,fun β h=>by rw[List.mem_singleton.1 h];exact zK⟩ ?_ (fun _=>rfl) ?_ ?_ ?_
     .refine ybn [] [] [] ?_;simp only[K,ybu,ycw,setO,usV,yec,G,B,C,wk,go_sem,zA,zC];refine⟨fun _ _ _ _ e=>e,fun k hk=>?_,fun i t=>by rw[if_pos t],fun i b n=>ydx n⟩
      have h0:gv 0=(rkN p g c:Nat):=Int.add_zero _
      by_cases e:k=i
      .rw[if_pos e,if_pos e,if_pos e,h0];exact ypx rfl
      .rw[if_neg e,if_neg e,if_neg e];exact ypx rfl
     .intro q _ F _;refine⟨rfl,?_⟩;simp only[usV,wk,go_sem,zA]
     .intro q _ F D;have D:q<(yca s).length:=D;have E:=T q D;have g1:=b8 q (by omega)
      have g2:=b8 (q+1) (by omega)
      have g3:=X q;have g4:=Q _ E;obtain⟨v,c3⟩:∃v,(yca s).getD q 0=v:=⟨_,rfl⟩;rw[c3]at E g3 g4;refine⟨_,rfl,?_⟩;simp only[ycbp];simp only[K,ybu,ycvh,ycql,usV,G,B,C,c3,if_pos E,splice,clash,go_sem,zA,zB]
      repeat refine ybc ?_
      refine ybn [] [] [] ?_;simp only[ycw,setO,wk,go_sem,zA,zC];refine⟨fun _ _ _ _ e=>e,fun k hk=>?_,fun i t=>by rw[if_pos t],fun i b n=>ydx n⟩
      by_cases e:k=i
      .rw[if_pos e,if_pos e,if_pos e,g3];exact ypx rfl
      .simp only[if_neg e];exact ypx rfl
     .intro _ _;simp only[ycwl,ycbp,clash,go_sem,zA,zB]
      repeat refine ybc ?_
      refine yh (i+1) A (by omega) ?_
      refine ybn [] [] [] ?_;simp only[K,ybu,ycw,usV,G,B,C,b1,wk,go_sem,zA,zC];refine⟨fun _ _ _ _ e=>e,by omega,fun k hk=>?_,fun i t=>by rw[if_pos t],fun i b n=>ydx n⟩
      show _=((if k<i+1 then z.getD k 0 else 0:Nat):Int)/\_=(if k<i+1 then((R (z.getD k 0):Nat):Int)else 0)
      by_cases e:k=i
      .rw[if_pos e,if_pos e,if_pos (by omega),if_pos (by omega),e,hs]
       exact⟨rfl,rfl⟩
      .rw[if_neg e,if_neg e]
       by_cases H:k<i
       .rw[if_pos (by omega),if_pos (by omega)]
        exact⟨congrArg _ (if_pos H),if_pos H⟩
       .rw[if_neg (by omega),if_neg (by omega)]
        exact⟨congrArg _ (if_neg H),if_neg H⟩
    .obtain rfl:i=z.length:=by omega
     simp only[ycap,yczz,yhi,usV,G,B,C,K,ybu,zH,clash,go_sem,zA,zB]
     repeat refine ybc ?_
     refine⟨.tp [.i .u32 (en:Nat),ybk (z.map fun s=>(s,rkN p g (ygl p g c s))),.i .i64 0],K,?_,?_,rfl,rfl⟩
     .refine ybn [] [] [(98,0)] ?_;simp only[K,ybu,ycw,ybk,zW,wk,go_sem,zA,zC];refine⟨fun _ _ _ _ e=>e,yyy ⟨Sim.refl _,ydu fun q F=>?_,Sim.refl _,trivial⟩,fun i t=>by rw[if_pos t],fun i b n=>?_⟩
      .have e1:u z.length q=z.getD q 0:=if_pos F;have H:w z.length q=(R (z.getD q 0):Nat):=if_pos F
       have e3:(z.map fun s=>(s,rkN p g (ygl p g c s))).getD q (0,0)=(z.getD q 0,R (z.getD q 0)):=by
        simp only[zAD,zAX,zAN F];rfl
       rw[e1,H,e3];exact⟨⟨Sim.refl _,Sim.refl _,trivial⟩,rfl⟩
      .obtain⟨q,rfl⟩:=ycz n;exact⟨_,if_pos q,ybga (ycq _)⟩
     .simp only[K,ybu,ycw,ycl,yfm,ybk,wk,go_sem,zA];exact⟨fun k hk=>by rw[if_pos hk],fun i b n=>(ycz n).2▸ykt⟩
end
end Sh
end
section
def cfP(p:ProgT)(g:Gr)(k:Nat):Conf:=(unT (tabP p g) k).1
def spcP(perm:Nat->Bool)(p:ProgT)(g:Gr):Spc:=⟨ybl (tabP p g),fun k=>ybt p g (cfP p g k),fun k=>ycef perm p g (cfP p g k)⟩
def cfA(T:List (List (Int×Int))):Nat->Conf
 |0=>(unT T 0).1
 |k+1=>(advT T (cfA T k)).1
theorem ybws{T:List (List (Int×Int))}(a:bdT T):∀{k:Nat},k<ybl T->cfA T k=(unT T k).1
 |0,_=>rfl
 | k+1,h=>by
   show(advT T (cfA T k)).1=_;rw[ybws a (by omega),ydhx a h]
theorem ydwt{p:ProgT}{g:Gr}{k:Nat}(hk:k<ybl (tabP p g)):rkN p g (cfP p g k)=k:=by
 unfold rkN cfP;rw[yboh,Nat.mod_eq_of_lt hk,zY]
theorem ybwi{p:ProgT}{g:Gr}(a:bdT (tabP p g))(k:Nat):ydd p g (cfP p g k)=true:=yiw.2 (ybah k a)
namespace Sh
open Ev Go.RowKit
theorem ycea{h:Nm->Nm}{a:List Nat}{b O:Own}(l:List (Nat×Nat)):telL h a [] b O [ybk l] [ybk l]:=⟨.inl ⟨(yif _ _ _).2 trivial,by rw[yej];exact Sim.refl _,rfl⟩,rfl,trivial⟩
section
variable {Q1 Q2:(Nat->Option ABlk)->Value->Prop}{p:ProgT}{g:Gr}
set_option maxHeartbeats 8000000 in
theorem ybwc (h:Checked Q1 Q2 p g) (d:TabOk (tabP p g)) {kind:Int}(O:kind=2\/kind=3) (a3:g.ids.length<=4) {perm:Nat->Bool}
 (H:∀e s,e<2^g.ids.length->s≠0->s<16->s&&&e=s->Returns zJ 171 [usV (g.ports.map netP),.i .i64 kind,.i .u32 (e:Nat),.i .u32 (s:Nat)] (.b (perm s)))
 (z:sumA (spcP perm p g) (ybl (tabP p g))<=262144) :
 Returns zJ 14 [.ag (yfu Q1 Q2 p.raw),grV g,.i .i64 kind] (.tp [.ag (spcC (spcP perm p g)),.i .i64 0]):=by
 refine Returns.of (ydfj [59,61,60] _ _ ?_);have W:=ycdg h d;have hD:=ybvp kind;have A:=ybny h d kind;have X:=ycns h d;have Y:=fun k (hk:k<ybl (tabP p g))=>ybwb h d O a3 (c:=cfP p g k) (ybwi d.bd k) H;have I:(decide (1<=kind)&&decide (kind<=4))=true:=by rcases O with rfl|rfl<;>rfl
 rw[I]at hD;obtain⟨S,n⟩:∃S,spcP perm p g=S:=⟨_,rfl⟩;have C:S.N=ybl (tabP p g):=by rw[<-n];rfl
 have K:∀k,ybt p g (cfP p g k)=S.en k:=fun k=>by rw[<-n];rfl
 have Z:∀k,ycef perm p g (cfP p g k)=S.arcs k:=fun k=>by rw[<-n];rfl
 have G:=fun k (hk:k<=S.N)=>ylx S hk;rw[n]at z ⊢;rw[<-C]at z;have J:=d.tot;obtain⟨T,u⟩:∃T,tabP p g=T:=⟨_,rfl⟩;have a1:∀k,cfP p g k=(unT T k).1:=fun k=>by rw[<-u];rfl
 have Q:=fun k=>ydwt (p:=p) (g:=g) (k:=k);have a7:T.length=g.ids.length:=by rw[<-u];exact yhq _ _ _
 rw[u]at d W X A Y C J;simp only[u]at Q Y;have hA:=fun k=>ybst d (c:=cfA T k);simp only[yfu,grV]at W A X;simp only[c14,ydut,ydoe,yfu,grV,clash,go_sem,zA,zB,zC,zF];refine W.use ?_;simp only[ybj,yebo,ydyr,clash,zL,go_sem,zA,zB,zF];refine hD.use ?_;simp only[ybj,ydua,ydyc,clash,zL,go_sem,zA,zB,zF];refine A.use ?_;simp only[ydrw,yczx,clash,go_sem,zA,zB,zD,zC]
 repeat refine ybc ?_
 refine yeu X [(302,72),(303,73)] 400 [10,8,11,6] [46,48,11,6] ?_ ?_
 .simp only[ydp,usV,yj,yct,yft,to1,okN,ycl,yfm,yer,ydy,wk,go_sem,zA,zB,zF]
 rintro r o' ⟨rfl,rfl⟩;simp only[ybu,yow,yln,nuF,nu,difN,yer,ydy,Fam.ren,OB.ren,dim,yid,yqh,yjx,go_sem,zA,zB,zF];simp only[ydap,yddx,clash,go_sem,zA,zB]
 let B:Own:=[(6,.one (some ⟨41,true,2,1,fun _=>[.a (.slice none 0 0),.a (.slice none 0 0)]⟩)),(11,.one (some ⟨41,true,2,1,fun _=>[.os (46,0) 0 (ybl T) true,.os (48,0) 0 (ybl T) true]⟩))]
 let e:Nat->Nat->Nat:=fun k j=>if j<k then S.en j else 0
 let a:Nat->Nat->SV:=fun k j=>if j<k then ybk (S.arcs j)else .a (.slice none 0 0)
 have a2:∀j,e 0 j=0:=fun j=>if_neg (zS j)
 have y:∀{p:Nm->Bool}(k j:Nat),cln p 5 (a k j)=true:=fun k j=>by
  show cln _ 5 (if j<k then ybk (S.arcs j)else .a (.slice none 0 0))=true
  split<;>rfl
 have a0:∀j,a 0 j = .a (.slice none 0 0):=fun j=>if_neg (zS j)
 let V:(Nat->Nat)->(Nat->SV)->Own:=fun e a=>[(46,.one (some ⟨77,false,1,ybl T,fun j=>[.i .u32 (e j:Nat)]⟩)),(48,.one (some ⟨78,false,1,ybl T,fun j=>[a j]⟩))]
 refine ybd (σ:=Nat) (fun k=>⟨[(57,.i .i64 k),(56,.i .i64 (ybl T:Nat)),(10,.rf (ydp p g (g.ports.map netP) kind T)),(12,.os (72,0) 0 T.length true),(14,.i .i64 (sumA S k:Nat)),(11,.pt (11,0) 0 0),(6,.pt (6,0) 0 0)],
  ybu 72 73 T.length (fun j=>(cfA T k).getD j [])++(V (e k) (a k)++B)⟩) (fun k=>k<=ybl T) (fun k=>ybl T-k) 0 (zG _) ?_ ?_
 .refine yu ?_
  have P:∀v,v<T.length->(cfA T 0).getD v []=lowT T v:=fun v I=>by
   show(unT T 0).1.getD v []=_;rw[ycdf d.bd,yxa I]
  simp only[B,V,a2,a0,ybu,ycw,ydp,usV,yj,yct,yft,wk,go_sem,zA,zC];refine⟨fun _ _ _ _ e=>e,rfl,fun v I=>⟨by rw[P v I];exact Sim.refl _,by rw[if_pos I]⟩,fun v b D=>?_⟩
  obtain⟨q,rfl⟩:=ycz D;rw[P v q];exact yjq (h':=nu [(302,72),(303,73)] 400) (w:=lowT T) (if_pos q)
 .intro k hk
  by_cases f:k<ybl T
  .have d1:=dec_lt f;have E:=ybws d.bd f;have a5:=ybws (k:=k+1) d.bd;have m:=hA k (by rw[E];exact ybah k d.bd)
   have o:=Y k f;rw[K,Z,Q k f,a1 k,<-E]at o;have M:(cfA T k).length=T.length:=(ymk.1 (by rw[E];exact ybah k d.bd)).1
   have a4:(advT T (cfA T k)).1=cfA T (k+1):=rfl;rw[a4]at m;obtain⟨c,hc⟩:∃c,cfA T k=c:=⟨_,rfl⟩;obtain⟨c',L⟩:∃c,cfA T (k+1)=c:=⟨_,rfl⟩;rw[hc]at M o m;rw[L]at m;have a6:=G (k+1) (by omega)
   have R:sumA S (k+1)=sumA S k+(S.arcs k).length:=rfl;obtain⟨tot,l⟩:∃t,sumA S k=t:=⟨_,rfl⟩;rw[l]at R;have d2:decide ((tot:Int)+((S.arcs k).length:Int)>262144)=false:=by simp;omega
   rw[M]at o;simp only[ycgb,ycqt,ycxp,B,V,ybu,d1,hc,clash,go_sem,zA,zB,zF];refine yeu o [(302,72),(303,73)] 400 [15,57,56,10,12,14,11,6] [46,48,11,6] ?_ ?_
   .simp only[ybu,ycw,ydp,usV,yj,yct,yft,to1,okN,ycl,yfm,yer,ydy,wk,go_sem,zA,zB,zC,zF];exact⟨⟨fun _ _ _ _ e=>e,fun i F=>by rw[if_pos F],fun i b D=>ydx (w:=fun j=>c.getD j []) D⟩,fun j _=>y k j⟩
   rintro r o' ⟨rfl,rfl⟩;simp only[ybu,ybk,yow,yln,nuF,nu,difN,yer,ydy,Fam.ren,OB.ren,dim,yid,yze,yqh,yjx,go_sem,zA,zB,zF];simp only[ydcr,ycyh,ycru,ycsj,ydp,l,d2,splice,clash,zL,go_sem,zA,zB,zD,zF]
   repeat refine ybc ?_
   refine yeu m [(302,72),(303,73)] 400 [57,56,10,12,14,11,6] [46,48,11,6] ?_ ?_
   .simp only[ybu,ycw,usV,yj,yct,yft,to1,okN,ycl,yfm,yer,ydy,wk,go_sem,zA,zB,zC,zF];refine⟨⟨fun _ _ _ _ e=>e,fun i F=>by rw[if_pos F],fun i b D=>yjq (h':=nu [(302,72),(303,73)] 400) (w:=fun j=>c.getD j []) D⟩,?_⟩
    exact⟨fun j _=>by split<;>rfl,fun j _=>by
     split
     .rfl
     .show(cln _ 5 (a k j)&&true)=true;rw[y];rfl⟩
   rintro r o' ⟨rfl,rfl⟩;simp only[ybu,usV,yj,yct,yft,yow,yln,nuF,nu,difN,yer,ydy,Fam.ren,OB.ren,dim,yqh,yjx,go_sem,zA,zF];simp only[ycya,clash,go_sem,zA,zB]
   repeat refine ybc ?_
   refine yh (k+1) f (by omega) ?_
   refine yu ?_;simp only[ycw,wk,go_sem,zA,zC];rw[L,R];refine⟨fun _ _ _ _ e=>e,⟨by omega,by omega⟩,fun i F=>⟨Sim.refl _,by rw[if_pos F]⟩,fun i b D=>yjq (h':=nu [(302,72),(303,73)] 400) (w:=fun j=>c'.getD j []) D,?_⟩
   refine⟨fun i F=>yfy ?_,fun i F=>?_⟩
   .show _=[SV.i .u32 ((if i<k+1 then S.en i else 0:Nat):Int)]
    by_cases q:i=k
    .rw[if_pos q,if_pos (by omega),q]
    .rw[if_neg q]
     by_cases U:i<k
     .rw[if_pos (by omega),show e k i=S.en i from if_pos U]
     .rw[if_neg (by omega),show e k i=0 from if_neg U]
   .by_cases q:i=k
    .rw[if_pos q,show a (k+1) i=ybk (S.arcs k)from(if_pos (by omega)).trans (by rw[q])]
     exact ycea _
    .rw[if_neg q]
     by_cases U:i<k
     .rw[show a (k+1) i=ybk (S.arcs i)from if_pos (by omega),show a k i=ybk (S.arcs i)from if_pos U]
      exact ycea _
     .rw[show a (k+1) i = .a (.slice none 0 0)from if_neg (by omega),show a k i = .a (.slice none 0 0)from if_neg U]
      exact yjd rfl
  .obtain rfl:k=ybl T:=by omega
   simp only[ycgb,ydak,B,V,ybu,zH,splice,clash,go_sem,zA,zB];have e1:∀q,q<ybl T->a (ybl T) q=ybk (S.arcs q):=fun q x=>if_pos x;have e2:∀q,q<ybl T->e (ybl T) q=S.en q:=fun q x=>if_pos x;refine⟨fun q x=>by rw[e1 q x];trivial,yyy ⟨?_,Sim.refl _,trivial⟩⟩
   unfold spcC;rw[C];refine ybps ⟨ydu fun q x=>?_,ydu fun q x=>?_,trivial⟩
   .rw[e2 q x];exact⟨⟨Sim.refl _,trivial⟩,rfl⟩
   .rw[e1 q x];exact⟨⟨Sim.refl _,trivial⟩,rfl⟩
end
end Sh
end
section
namespace Sh
open Ev Go.RowKit
def boxS(N:Nat)(lg:Nat->Bool)(x:(Nat->Bool)×List (Nat×Nat)):Own :=
 [(3,.one (some ⟨45,true,1,1,fun _=>[yba N lg]⟩)),(6,.one (some ⟨166,true,1,1,fun _=>[.mr (18,0)]⟩)),(18,.one (some ⟨CU,true,0,0,fun c=>[.b (x.1 c)]⟩)),
  (7,.one (some ⟨167,true,1,1,fun _=>[.os (72,0) 0 x.2.length true]⟩)),(72,ygk x.2)]
def addF:SV:=.fn 137 [] [.pt (3,0) 0 0,.pt (6,0) 0 0,.pt (7,0) 0 0]
theorem ybpc{F j:Nat}{f:Nat->List Nat}{p:Nm->Bool}(h:p (F,j)=true):cln p 5 (rowC F f j)=true:=by
 unfold rowC;split
 .rfl
 .exact h
theorem ybqm{e:Nat}{k:IntKind}{l:List Nat}{b:OB}{p:Nm->Bool}(a:rowB e k l=some b):∀i,i<b.n->(b.g i).all (cln p 5)=true:=by
 unfold rowB at a;split at a
 .cases a
 .cases a;exact fun _ _=>rfl
set_option maxHeartbeats 4000000 in
theorem ycjd{S : Spc}(h:S.ok)(lg:Nat->Bool){n:Nat}(hn:n<=24)(M:∀k,k<S.N->S.en k<2^n)(hM:S.N*2^n<=262144) :
 Ct zJ 75 [.ag (spcC S),yba S.N lg] fun r=>∃R:Nat->List Nat,Sim r (.tp [.sl 1 S.N fun k=>[usV (R k)],.i .i64 0])/\(∀k,∀x∈R k,x<2^n/\lg k=false)/\∀k,(R k).length<=262144:=by
 refine ydlv [137] _ _ ?_;have P:=h.le;have a0:2^n<=2^24:=zI (by omega) hn
 simp only[c75,ydov,ydyi,ydsu,ydst,ydtv,spcC,ybk,yba,splice,clash,go_sem,zA,zB,zD,zC,↓reduceIte,reduceCtorEq]
 refine ybd (σ:=Nat×(Nat->Bool)×List (Nat×Nat)) (fun y=>⟨[(23,.i .i64 y.1),(22,.i .i64 (S.N:Nat)),(21,.sl 1 S.N fun k=>[.i .u32 (S.en k:Nat)]),(8,addF),(2,.pt (2,0) 0 0),(3,.pt (3,0) 0 0),(7,.pt (7,0) 0 0)],(2,spcO S)::boxS S.N lg y.2⟩)
  (fun y=>y.1<=S.N/\QI S.N n lg y.2) (fun y=>S.N-y.1) (0,fun _=>false,[]) ⟨zG _,QI.start _ _ _⟩ ?_ ?_
 .refine ybw [] [72] [] ?_;simp only[boxS,addF,spcO,spcC,ybk,yba,ygk,ynt,wk,go_sem,zA,zC,zF,↓reduceIte,reduceCtorEq];exact fun i _=>⟨(72,0),rfl,rfl,rfl⟩
 .rintro⟨k,x⟩ ⟨hk,w⟩;simp only at hk w ⊢;have Q:=w.len
  by_cases c:k<S.N
  .have d1:=dec_lt c;have K:=ybes (lg:=lg) (x:=x) (by omega) c P (s:=S.en k) (by have:=h.lt k c;omega)
   have B:=w.step c (M k c);simp only[yfs,ygk,yba]at K;simp only[ydgl,ydyq,ydxy,ydwe,boxS,addF,spcO,spcC,ybk,yba,ygk,d1,clash,go_sem,zA,zB,zD,↓reduceIte,reduceCtorEq]
   repeat refine ybc ?_
   refine yeu K [(301,3),(302,6),(303,18),(304,7),(305,72)] 400 [23,22,21,8,2,3,7] [2] ?_ ?_
   .simp only[to1,okN,ycl,yfm,yer,ydy,wk,go_sem,zA,zB,zC,zF,↓reduceIte,reduceCtorEq]
   rintro r Z ⟨rfl,rfl⟩
   generalize yym lg x k (S.en k)=x' at B
   simp only[yow,yln,nuF,nu,difN,yer,ydy,Fam.ren,OB.ren,dim,yid,ychb,yze,yqh,yjx,ybqo,go_sem,zA,zB,zF,↓reduceIte,reduceCtorEq]
   repeat refine ybc ?_
   refine yh (k+1,x') ⟨c,B⟩ (by show _-(k+1)<_-k;omega) ?_
   refine yu ?_;simp only[wk,go_sem,zA,zC,↓reduceIte,reduceCtorEq];omega
  .obtain rfl:k=S.N:=by omega
   simp only[ydgl,ydvg,ydaf,boxS,spcO,spcC,ybk,yba,ygk,zH,clash,go_sem,zA,zB,zC,↓reduceIte,reduceCtorEq]
   repeat refine ybc ?_
   let m:Nat->(Nat->Bool)×List (Nat×Nat)->(Nat->List Nat)->Own:=fun _ x R=>(2,spcO S)::(36,.one (some ⟨38,false,1,S.N,fun j=>[rowC 73 R j]⟩))::(73,yin 77 .u32 R)::boxS S.N lg x
   refine ybd (σ:=Nat×((Nat->Bool)×List (Nat×Nat))×(Nat->List Nat)) (fun y=>⟨[(12,.i .i64 y.1),(11,.os (36,0) 0 S.N true),(8,addF),(2,.pt (2,0) 0 0),(7,.pt (7,0) 0 0)],m 0 y.2.1 y.2.2⟩)
    (fun y=>QI S.N n lg y.2.1/\y.1<=y.2.1.2.length/\(∀k,∀z∈y.2.2 k,z<2^n/\lg k=false)/\∀k,(y.2.2 k).length<=y.1) (fun y=>262145-y.1) (0,x,fun _=>[]) ⟨w,zG _,fun _ _ h=>(nomatch h),fun _=>zG _⟩ ?_ ?_
   .refine yu ?_;simp only[m,boxS,addF,spcO,spcC,ybk,yba,ygk,rowC,yin,rowB,wk,go_sem,zA,zC,↓reduceIte,reduceCtorEq]
   .rintro⟨i,x,R⟩ ⟨w,X,E,D⟩;simp only at w X E D ⊢;have Q:=w.len
    by_cases c:i<x.2.length
    .have d1 := dec_lt c;have d2:decide ((x.2.length:Int)>262144)=false:=by simp;omega
     obtain⟨⟨k,s⟩,O⟩:∃p,x.2.getD i (0,0)=p:=⟨_,rfl⟩
     obtain⟨hkN,V,U⟩:k<S.N/\s<2^n/\lg k=false:=by
      have:=w.lt (x.2.getD i (0,0)) (by rw[ymg c];exact zAC _)
      rw[O]at this;exact this
     have a2:=h.len hkN;obtain⟨C,T⟩:∃C,(fun q=>if q=k then R k++[s]else R q)=C:=⟨_,rfl⟩
     have v:C k=R k++[s]:=by rw[<-T];simp
     have o:∀j,¬j=k->C j=R j:=fun j e=>by rw[<-T];simp[e]
     have a1:=D k
     by_cases q:(R k).length=0
     .simp only[ybos,ybzl,ybya,ycdm,ybyo,m,boxS,spcO,spcC,ybk,yba,ygk,rowC,yin,rowB,q,d1,d2,O,splice,clash,go_sem,zA,zB,zD,zC,zT,↓reduceIte,reduceCtorEq]
      repeat refine ybc ?_
      refine ybd (σ:=Nat×((Nat->Bool)×List (Nat×Nat))) (fun y=>⟨[(70,.i .i64 y.1),(69,.i .i64 ((S.arcs k).length:Nat)),(68,ybk (S.arcs k)),(12,.i .i64 i),(11,.os (36,0) 0 S.N true),(8,addF),(2,.pt (2,0) 0 0),(7,.pt (7,0) 0 0),(13,.pt (13,0) 0 0)],(13,.one (some ⟨109,true,2,1,fun _=>[.i .i64 (k:Nat),.i .u32 (s:Nat)]⟩))::m 0 y.2 C⟩)
       (fun y=>y.1<=(S.arcs k).length/\QI S.N n lg y.2/\i<y.2.2.length) (fun y=>(S.arcs k).length-y.1) (0,x) ⟨zG _,w,c⟩ ?_ ?_
      .refine ybw [(73,fun j=>if j=k then(61,0)else(73,j))] [] [] ?_
       simp only[m,boxS,addF,spcO,spcC,ybk,yba,ygk,yin,wk,go_sem,zA,zC,↓reduceIte,reduceCtorEq];refine⟨?_,fun i X=>?_,fun i b d=>?_⟩
       .repeat' apply zAA
        all_goals first|exact fun i _=>ybee (by decide) (by decide)|exact fun i _=>ysn (by decide) (by decide)|exact fun i _ j _=>yzx (by decide)
       .refine ypm (F:=73) (e:=77) (k:=.u32) (f:=C) [(73,fun j=>if j=k then(61,0)else(73,j))] ?_ rfl
        by_cases e:i=k
        .subst e;have W:(C i).length=1:=by rw[v,zAG,q];rfl
         simp only[W,go_sem,↓reduceIte,reduceCtorEq]
        .simp only[o i e,e,go_sem,↓reduceIte]
       .by_cases e:i=k
        .subst e;rw[v]at d;simp only[go_sem,zA,↓reduceIte];exact yed (e:=77) (k:=.u32) rfl d (ybqp q rfl)
        .rw[o i e]at d;simp only[e,go_sem,zA,↓reduceIte];exact⟨_,d,yed (e:=77) (k:=.u32) rfl d (yfh (e:=77) (k:=.u32) d)⟩
      .rintro⟨j,x⟩ ⟨Y,w,c⟩;simp only at Y w c ⊢;have Q:=w.len
       by_cases g:j<(S.arcs k).length
       .have d3:=dec_lt g;have l:=h.to k hkN j g;have A:=(h.sub k hkN j g).1;obtain⟨⟨a,t⟩,I⟩:∃p,(S.arcs k).getD j (0,0)=p:=⟨_,rfl⟩;rw[I]at l A;simp only at l A;have H:=yvd h (k:=k) (p:=s) (s:=a) (t:=t) (by omega) (by omega) l
        have L:ygh S s a t<2^n:=by
         unfold ygh yoy;split
         .exact M t l
         .exact ybwv (yvh V)
        have K:=ybes (lg:=lg) (x:=x) (by omega) l P (s:=ygh S s a t) (by omega)
        have B:=w.step (lg:=lg) l L;have J:=ybre (lg:=lg) (x:=x) (k:=t) (s:=ygh S s a t);simp only[yfs,ygk,yba]at K;simp only[spcC,ybk]at H;simp only[ybfg,ycdt,ycfy,ycdd,ybyw,m,boxS,addF,spcO,spcC,ybk,yba,ygk,d3,I,splice,clash,go_sem,zA,zB,zC,zF,↓reduceIte,reduceCtorEq]
        repeat refine ybc ?_
        refine H.use ?_;simp only[ybj,splice,clash,go_sem,zA,zB,zC,↓reduceIte,reduceCtorEq]
        repeat refine ybc ?_
        refine yeu K [(301,3),(302,6),(303,18),(304,7),(305,72)] 400 [70,69,68,12,11,8,2,7,13] [2,36,73,13] ?_ ?_
        .simp only[yin,to1,okN,ycl,yfm,yer,ydy,wk,go_sem,zA,zB,zC,zF,↓reduceIte,reduceCtorEq];exact⟨fun q _=>ybpc rfl,fun q b d=>ybqm d⟩
        rintro r Z ⟨rfl,rfl⟩
        generalize yym lg x t (ygh S s a t)=x' at B J
        simp only[yin,yow,yln,nuF,nu,difN,yer,ydy,Fam.ren,OB.ren,dim,yid,ychb,yze,yqh,yjx,ybqo,go_sem,zA,zB,zF,↓reduceIte,reduceCtorEq]
        repeat refine ybc ?_
        refine yh (j+1,x') ⟨g,B,by show i<x'.2.length;omega⟩ (by show _-(j+1)<_-j;omega) ?_
        refine yu ?_;simp only[wk,go_sem,zA,zC,↓reduceIte,reduceCtorEq];exact⟨fun _ _ _ _ e=>e,by omega,fun i _=>ykp (e:=77) (k:=.u32) [] rfl rfl,fun i b d=>⟨b,d,yed (e:=77) (k:=.u32) rfl d (yfh (e:=77) (k:=.u32) d)⟩⟩
       .obtain rfl:j=(S.arcs k).length:=by omega
        simp only[ybfg,ycdb,m,boxS,addF,spcO,spcC,ybk,yba,ygk,zH,clash,go_sem,zA,zB,↓reduceIte,reduceCtorEq]
        repeat refine ybc ?_
        refine yh (i+1,x,C) ⟨w,c,fun u z G=>?_,fun u=>?_⟩ (by show 262145-(i+1)<262145-i;omega) ?_
        .have G:z∈C u:=G
         by_cases e:u=k
         .subst e;rw[v]at G;rcases List.mem_append.1 G with r|r
          .exact E u z r
          .rw[List.mem_singleton.1 r];exact⟨V,U⟩
         .rw[o u e]at G;exact E u z G
        .show(C u).length<=i+1
         by_cases e:u=k
         .subst e;rw[v,zAG];have:=D u;show _+1<=_;omega
         .rw[o u e];have:=D u;omega
        refine yu ?_;simp only[yin,wk,go_sem,zA,zC,↓reduceIte,reduceCtorEq];exact⟨fun _ _ _ _ e=>e,by omega,fun i _=>ykp (e:=77) (k:=.u32) [] rfl rfl,fun i b d=>⟨b,d,yed (e:=77) (k:=.u32) rfl d (yfh (e:=77) (k:=.u32) d)⟩⟩
     .have q0 : 0<(R k).length:=by omega
      simp only[ybos,ybzl,ybya,ycdm,ybyo,m,boxS,spcO,spcC,ybk,yba,ygk,rowC,yin,rowB,q,d1,d2,O,splice,clash,go_sem,zA,zB,zD,zC,↓reduceIte,reduceCtorEq]
      repeat refine ybc ?_
      refine ybd (σ:=Nat×((Nat->Bool)×List (Nat×Nat))) (fun y=>⟨[(70,.i .i64 y.1),(69,.i .i64 ((S.arcs k).length:Nat)),(68,ybk (S.arcs k)),(12,.i .i64 i),(11,.os (36,0) 0 S.N true),(8,addF),(2,.pt (2,0) 0 0),(7,.pt (7,0) 0 0),(13,.pt (13,0) 0 0)],(13,.one (some ⟨109,true,2,1,fun _=>[.i .i64 (k:Nat),.i .u32 (s:Nat)]⟩))::m 0 y.2 C⟩)
       (fun y=>y.1<=(S.arcs k).length/\QI S.N n lg y.2/\i<y.2.2.length) (fun y=>(S.arcs k).length-y.1) (0,x) ⟨zG _,w,c⟩ ?_ ?_
      .refine ybw [(73,fun j=>if j=k then(61,0)else(73,j))] [] [] ?_
       simp only[m,boxS,addF,spcO,spcC,ybk,yba,ygk,yin,wk,go_sem,zA,zC,↓reduceIte,reduceCtorEq];refine⟨?_,fun i X=>?_,fun i b d=>?_⟩
       .repeat' apply zAA
        all_goals first|exact fun i _=>ybee (by decide) (by decide)|exact fun i _=>ysn (by decide) (by decide)|exact fun i _ j _=>yzx (by decide)
       .refine ypm (F:=73) (e:=77) (k:=.u32) (f:=C) [(73,fun j=>if j=k then(61,0)else(73,j))] ?_ rfl
        by_cases e:i=k
        .subst e;have W:(C i).length=(R i).length+1:=by rw[v,zAG];rfl
         have e2:¬(R i).length+1=0:=by omega
         simp only[W,e2,go_sem,↓reduceIte]
        .simp only[o i e,e,go_sem,↓reduceIte]
       .by_cases e:i=k
        .subst e;rw[v]at d;simp only[go_sem,zA,↓reduceIte];exact yed (e:=77) (k:=.u32) rfl d (ybfl (g':=fun i=>zBH 1 (zBI (i*1) [.i .u32 (s:Int)])) rfl (fun _ _=>rfl) rfl)
        .rw[o i e]at d;simp only[e,go_sem,zA,↓reduceIte];exact⟨_,d,yed (e:=77) (k:=.u32) rfl d (yfh (e:=77) (k:=.u32) d)⟩
      .rintro⟨j,x⟩ ⟨Y,w,c⟩;simp only at Y w c ⊢;have Q:=w.len
       by_cases g:j<(S.arcs k).length
       .have d3:=dec_lt g;have l:=h.to k hkN j g;have A:=(h.sub k hkN j g).1;obtain⟨⟨a,t⟩,I⟩:∃p,(S.arcs k).getD j (0,0)=p:=⟨_,rfl⟩;rw[I]at l A;simp only at l A;have H:=yvd h (k:=k) (p:=s) (s:=a) (t:=t) (by omega) (by omega) l
        have L:ygh S s a t<2^n:=by
         unfold ygh yoy;split
         .exact M t l
         .exact ybwv (yvh V)
        have K:=ybes (lg:=lg) (x:=x) (by omega) l P (s:=ygh S s a t) (by omega)
        have B:=w.step (lg:=lg) l L;have J:=ybre (lg:=lg) (x:=x) (k:=t) (s:=ygh S s a t);simp only[yfs,ygk,yba]at K;simp only[spcC,ybk]at H;simp only[ybfg,ycdt,ycfy,ycdd,ybyw,m,boxS,addF,spcO,spcC,ybk,yba,ygk,d3,I,splice,clash,go_sem,zA,zB,zC,zF,↓reduceIte,reduceCtorEq]
        repeat refine ybc ?_
        refine H.use ?_;simp only[ybj,splice,clash,go_sem,zA,zB,zC,↓reduceIte,reduceCtorEq]
        repeat refine ybc ?_
        refine yeu K [(301,3),(302,6),(303,18),(304,7),(305,72)] 400 [70,69,68,12,11,8,2,7,13] [2,36,73,13] ?_ ?_
        .simp only[yin,to1,okN,ycl,yfm,yer,ydy,wk,go_sem,zA,zB,zC,zF,↓reduceIte,reduceCtorEq];exact⟨fun q _=>ybpc rfl,fun q b d=>ybqm d⟩
        rintro r Z ⟨rfl,rfl⟩
        generalize yym lg x t (ygh S s a t)=x' at B J
        simp only[yin,yow,yln,nuF,nu,difN,yer,ydy,Fam.ren,OB.ren,dim,yid,ychb,yze,yqh,yjx,ybqo,go_sem,zA,zB,zF,↓reduceIte,reduceCtorEq]
        repeat refine ybc ?_
        refine yh (j+1,x') ⟨g,B,by show i<x'.2.length;omega⟩ (by show _-(j+1)<_-j;omega) ?_
        refine yu ?_;simp only[wk,go_sem,zA,zC,↓reduceIte,reduceCtorEq];exact⟨fun _ _ _ _ e=>e,by omega,fun i _=>ykp (e:=77) (k:=.u32) [] rfl rfl,fun i b d=>⟨b,d,yed (e:=77) (k:=.u32) rfl d (yfh (e:=77) (k:=.u32) d)⟩⟩
       .obtain rfl:j=(S.arcs k).length:=by omega
        simp only[ybfg,ycdb,m,boxS,addF,spcO,spcC,ybk,yba,ygk,zH,clash,go_sem,zA,zB,↓reduceIte,reduceCtorEq]
        repeat refine ybc ?_
        refine yh (i+1,x,C) ⟨w,c,fun u z G=>?_,fun u=>?_⟩ (by show 262145-(i+1)<262145-i;omega) ?_
        .have G:z∈C u:=G
         by_cases e:u=k
         .subst e;rw[v]at G;rcases List.mem_append.1 G with r|r
          .exact E u z r
          .rw[List.mem_singleton.1 r];exact⟨V,U⟩
         .rw[o u e]at G;exact E u z G
        .show(C u).length<=i+1
         by_cases e:u=k
         .subst e;rw[v,zAG];have:=D u;show _+1<=_;omega
         .rw[o u e];have:=D u;omega
        refine yu ?_;simp only[yin,wk,go_sem,zA,zC,↓reduceIte,reduceCtorEq];exact⟨fun _ _ _ _ e=>e,by omega,fun i _=>ykp (e:=77) (k:=.u32) [] rfl rfl,fun i b d=>⟨b,d,yed (e:=77) (k:=.u32) rfl d (yfh (e:=77) (k:=.u32) d)⟩⟩
    .obtain rfl:i=x.2.length:=by omega
     simp only[ybos,ycww,m,boxS,addF,spcO,spcC,ybk,yba,ygk,zH,clash,go_sem,zA,zB,↓reduceIte,reduceCtorEq];refine⟨fun q hq=>?_,R,yyy ⟨ydu fun q hq=>?_,Sim.refl _,trivial⟩,E,fun q=>by have:=D q;omega⟩
     .unfold rowC
      by_cases e:(R q).length=0
      .simp only[e,go_sem,↓reduceIte]
      .simp only[e,yin,rowB,go_sem,zA,↓reduceIte]
     .unfold rowC
      by_cases e:(R q).length=0
      .simp only[e,SimL,usV,go_sem,↓reduceIte];exact yblf
      .simp only[e,yin,rowB,SimL,usV,go_sem,zA,↓reduceIte];exact Sim.refl _
end Sh
end
section
namespace Sh
open Ev Go.RowKit
structure RdB(S:Spc)(lg:Nat->Bool)(n:Nat)(B:Nat->Nat->Nat->Prop):Prop where
 one:∀k,k<S.N->lg k=false->∀s,s<2^n->B k s 1
 done:∀k,k<S.N->lg k=false->∀s,s<2^n->∀i,i<(S.arcs k).length->lg ((S.arcs k).getD i (0,0)).2=false->yoy S s ((S.arcs k).getD i (0,0)).1 ((S.arcs k).getD i (0,0)).2=0->∀x,B ((S.arcs k).getD i (0,0)).2 (S.en ((S.arcs k).getD i (0,0)).2) x->B k s (1+x)
 more:∀k,k<S.N->lg k=false->∀s,s<2^n->∀i,i<(S.arcs k).length->lg ((S.arcs k).getD i (0,0)).2=false->yoy S s ((S.arcs k).getD i (0,0)).1 ((S.arcs k).getD i (0,0)).2≠0->∀x,B ((S.arcs k).getD i (0,0)).2 (yoy S s ((S.arcs k).getD i (0,0)).1 ((S.arcs k).getD i (0,0)).2) x->B k s x
 le:∀k s x,B k s x->x<=1000000
theorem ycfr{a b c d:Nat}(f:b<2^32)(g:d<2^32)(e:mkey (a:Int) (b:Int)=mkey (c:Int) (d:Int)):a=c/\b=d:=by
 unfold mkey at e;simp only[zY]at e;omega
set_option maxHeartbeats 4000000 in
theorem ybwm {S:Spc}(h:S.ok){lg:Nat->Bool}(hf:S.free lg){n:Nat}(hn:n<=24)(O:∀k,k<S.N->S.en k<2^n)(hM:S.N*2^n<=262144){B:Nat->Nat->Nat->Prop}(T:RdB S lg n B) :
 Ct zJ 19 [.ag (spcC S),yba S.N lg] fun r=>∃f:Nat->Nat,Sim r (.tp [.sl 1 S.N fun k=>[.i .i64 (f k:Nat)],.i .i64 0])/\∀k,k<S.N->f k=0\/(lg k=false/\B k (S.en k) (f k)):=by
 refine ydvw _ _ ?_;have b1:=h.le;have a8:2^n<=2^24:=zI (by omega) hn
 have hO:=ybil h hf;have X:=ycjd h lg hn O hM;simp only[spcC,ybk,yba]at hO X;simp only[c19,ydvp,ydyw,spcC,ybk,yba,clash,go_sem,zA,zB,zC,↓reduceIte,reduceCtorEq];refine hO.fnd (V:=fun L=>.tp [yco L,.i .i64 0]) (fun r L h=>h.1) fun r L hL=>?_;obtain⟨-,x,a7,a6⟩:=hL;simp only[ybj,yeas,ydtp,clash,yco,zL,go_sem,zA,zB,↓reduceIte,reduceCtorEq];refine X.fnd (V:=fun R=>.tp [.sl 1 S.N fun k=>[usV (R k)],.i .i64 0]) (fun r L h=>h.1) fun r R X=>?_
 obtain⟨-,a0,a1⟩:=X;simp only[ydtr,ydtd,yeaf,clash,usV,zL,go_sem,zA,zB,zC,↓reduceIte,reduceCtorEq]
 let VI:(Nat->Nat)->Prop:=fun V=>∀(k:Nat),k<S.N->∀(s:Nat),s<2^n->V (mkey (k:Int) (s:Int))=0\/(lg k=false/\B k s (V (mkey (k:Int) (s:Int))))
 let d:(Nat->Nat)->Nat×Fam:=fun V=>(41,.one (some ⟨CU,true,1,0,fun c=>[.i .i64 (V c:Nat)]⟩))
 refine ybd (σ:=Nat×(Nat->Nat)) (fun y=>⟨[(44,.i .i64 y.1),(43,.i .i64 (L.length:Nat)),(42,yco L),(1,yba S.N lg),(2,.pt (2,0) 0 0),(8,.sl 1 S.N fun k=>[usV (R k)]),(9,.mr (41,0))],[(2,spcO S),d y.2]⟩) (fun y=>y.1<=L.length/\VI y.2) (fun y=>L.length-y.1) (0,fun _=>0) ⟨zG _,fun _ _ _ _=>.inl rfl⟩ ?_ ?_
 .refine yu ?_;simp only[d,yco,usV,spcO,spcC,ybk,yba,ynt,wk,go_sem,zA,zC,↓reduceIte,reduceCtorEq]
 .rintro⟨i,V⟩ ⟨Y,K⟩;simp only at Y K ⊢
  by_cases E:i<L.length
  .have d1 := dec_lt E;obtain⟨k,hk⟩:∃k,L.getD i 0=k:=⟨_,rfl⟩;have hkN:k<S.N:=by rw[<-hk,getD_at E];exact x _ (zAC _)
   have b0:=h.len hkN;have a9:=a1 k;simp only[ydgb,yctn,ycrb,d,yco,usV,spcO,spcC,ybk,yba,d1,hk,clash,go_sem,zA,zB,↓reduceIte,reduceCtorEq]
   repeat refine ybc ?_
   refine ybd (σ:=Nat×(Nat->Nat)) (fun y=>⟨[(53,.i .i64 y.1),(52,.i .i64 ((R k).length:Nat)),(51,usV (R k)),(11,.i .i64 k),(44,.i .i64 i),(43,.i .i64 (L.length:Nat)),(42,yco L),(1,yba S.N lg),(2,.pt (2,0) 0 0),(8,.sl 1 S.N fun k=>[usV (R k)]),(9,.mr (41,0))],[(2,spcO S),d y.2]⟩) (fun y=>y.1<=(R k).length/\VI y.2) (fun y=>(R k).length-y.1) (0,V) ⟨zG _,K⟩ ?_ ?_
   .refine yu ?_;simp only[d,yco,usV,spcO,spcC,ybk,yba,wk,go_sem,zA,zC,↓reduceIte,reduceCtorEq]
   .rintro⟨u,V⟩ ⟨hu,K⟩;simp only at hu K ⊢
    by_cases F:u<(R k).length
    .have d2 := dec_lt F;obtain⟨s,hs⟩:∃s,(R k).getD u 0=s:=⟨_,rfl⟩;obtain⟨G,D⟩:=a0 k s (by rw[<-hs,getD_at F];exact zAC _)
     simp only[ybzi,ydbe,ydai,yddl,ydcp,d,yco,usV,spcO,spcC,ybk,yba,d2,hs,splice,clash,go_sem,zA,zB,zD,zC,↓reduceIte,reduceCtorEq]
     repeat refine ybc ?_
     refine ybd (σ:=Nat×Nat) (fun z=>⟨[(66,.i .i64 z.1),(65,.i .i64 ((S.arcs k).length:Nat)),(64,ybk (S.arcs k)),(15,.i .i64 z.2),(14,.pt (14,0) 0 0),(53,.i .i64 u),(52,.i .i64 ((R k).length:Nat)),(51,usV (R k)),(11,.i .i64 k),(44,.i .i64 i),(43,.i .i64 (L.length:Nat)),(42,yco L),(1,yba S.N lg),(2,.pt (2,0) 0 0),(8,.sl 1 S.N fun k=>[usV (R k)]),(9,.mr (41,0))],
      [(14,.one (some ⟨109,true,2,1,fun _=>[.i .i64 (k:Nat),.i .u32 (s:Nat)]⟩)),(2,spcO S),d V]⟩) (fun z=>z.1<=(S.arcs k).length/\B k s z.2) (fun z=>(S.arcs k).length-z.1) (0,1) ⟨zG _,T.one k hkN D s G⟩ ?_ ?_
     .refine yu ?_;simp only[d,yco,usV,spcO,spcC,ybk,yba,wk,go_sem,zA,zC,↓reduceIte,reduceCtorEq];rfl
     .rintro⟨j,m⟩ ⟨hj,Q⟩;simp only at hj Q ⊢;have b2:=T.le _ _ _ Q
      by_cases b:j<(S.arcs k).length
      .have d3 := dec_lt b;have H:=h.to k hkN j b;have M:=(h.sub k hkN j b).1;have l:=T.done k hkN D s G j b;have o:=T.more k hkN D s G j b;obtain⟨⟨a,t⟩,J⟩:∃p,(S.arcs k).getD j (0,0)=p:=⟨_,rfl⟩;rw[J]at H M l o;simp only at H M l o;cases g:lg t with
       | true =>
         simp only[ybez,ybqk,ybpe,ybrj,d,yco,usV,spcO,spcC,ybk,yba,d3,J,g,splice,clash,go_sem,zA,zB,zC,↓reduceIte,reduceCtorEq]
         repeat refine ybc ?_
         refine yh (j+1,m) ⟨b,Q⟩ (by show _-(j+1)<_-j;omega) ?_
         refine yu ?_;simp only[wk,go_sem,zA,zC,↓reduceIte,reduceCtorEq];omega
       | false =>
         have C:=yvd h (k:=k) (p:=s) (s:=a) (t:=t) (by omega) (by omega) H
         have a3:ygh S s a t<2^n:=by
          unfold ygh yoy;split
          .exact O t H
          .exact ybwv (yvh G)
         have I:=K t H (ygh S s a t) a3;obtain⟨v,hv⟩:∃v,V (mkey (t:Int) (ygh S s a t:Int))=v:=⟨_,rfl⟩;rw[hv]at I
         have b3:v<=1000000:=by
          rcases I with r|⟨_,r⟩
          .omega
          .exact T.le _ _ _ r
         simp only[spcC,ybk]at C
         by_cases A:yoy S s a t=0
         .have e1:B k s (max m (1+v)):=by
           rcases zBF m (1+v)with r|r
           .rw[zAY r];rcases I with q|⟨_,q⟩
            .rw[q];exact T.one k hkN D s G
            .refine l g A v ?_;have:ygh S s a t=S.en t:=if_pos A;rw[this]at q;exact q
           .rw[zBC r];exact Q
          rw[decide_eq_true A]at C;simp only[ybez,ybqk,ybpe,ybvz,d,yco,usV,spcO,spcC,ybk,yba,d3,J,g,splice,clash,go_sem,zA,zB,zC,↓reduceIte,reduceCtorEq]
          repeat refine ybc ?_
          refine C.use ?_;simp only[ybj,ychl,ydaz,ybrj,splice,clash,zAO,hv,go_sem,zA,zB,zC,↓reduceIte,reduceCtorEq]
          repeat refine ybc ?_
          refine yh (j+1,max m (1+v)) ⟨b,e1⟩ (by show _-(j+1)<_-j;omega) ?_
          refine yu ?_;simp only[wk,go_sem,zA,zC,↓reduceIte,reduceCtorEq];omega
         .have e1:B k s (max m v):=by
           rcases zBF m v with r|r
           .rw[zAY r];rcases I with q|⟨_,q⟩
            .have:m=v:=by omega
             rw[<-this];exact Q
            .refine o g A v ?_;have:ygh S s a t=yoy S s a t:=if_neg A;rw[this]at q;exact q
           .rw[zBC r];exact Q
          rw[decide_eq_false A]at C;simp only[ybez,ybqk,ybpe,ybvz,d,yco,usV,spcO,spcC,ybk,yba,d3,J,g,splice,clash,go_sem,zA,zB,zC,↓reduceIte,reduceCtorEq]
          repeat refine ybc ?_
          refine C.use ?_;simp only[ybj,ychl,ycug,ybrj,splice,clash,zAO,hv,go_sem,zA,zB,zC,↓reduceIte,reduceCtorEq]
          repeat refine ybc ?_
          refine yh (j+1,max m v) ⟨b,e1⟩ (by show _-(j+1)<_-j;omega) ?_
          refine yu ?_;simp only[wk,go_sem,zA,zC,↓reduceIte,reduceCtorEq];omega
      .obtain rfl:j=(S.arcs k).length:=by omega
       obtain⟨W,U⟩:∃W:Nat->Nat,(fun c=>if c=mkey (k:Int) (s:Int)then m else V c)=W:=⟨_,rfl⟩
       have a2:VI W:=fun k' a4 s' a5=>by
        rw[<-U];show(if _ then m else V _)=0\/(lg k'=false/\B k' s' (if _ then m else V _))
        by_cases e:mkey (k':Int) (s':Int)=mkey (k:Int) (s:Int)
        .obtain⟨rfl,rfl⟩:=ycfr (by omega) (by omega) e
         rw[if_pos rfl];exact .inr ⟨D,Q⟩
        .rw[if_neg e];exact K k' a4 s' a5
       simp only[ybez,ycro,ycxx,d,yco,usV,spcO,spcC,ybk,yba,zH,clash,yebw,go_sem,zA,zB,↓reduceIte,reduceCtorEq]
       repeat refine ybc ?_
       refine yh (u+1,W) ⟨F,a2⟩ (by show _-(u+1)<_-u;omega) ?_
       refine yu ?_;simp only[wk,go_sem,zA,zC,↓reduceIte,reduceCtorEq];refine⟨by omega,fun i=>?_,fun i Y=>absurd Y (by omega)⟩
       rw[<-U]
       by_cases e:i=mkey (k:Int) (s:Int)
       .simp only[if_pos e]
       .simp only[if_neg e]
    .obtain rfl:u=(R k).length:=by omega
     simp only[ybzi,ycqd,d,yco,usV,spcO,spcC,ybk,yba,zH,clash,go_sem,zA,zB,↓reduceIte,reduceCtorEq]
     repeat refine ybc ?_
     refine yh (i+1,V) ⟨E,K⟩ (by show _-(i+1)<_-i;omega) ?_
     refine yu ?_;simp only[wk,go_sem,zA,zC,↓reduceIte,reduceCtorEq];omega
  .obtain rfl:i=L.length:=by omega
   simp only[ydgb,ydaq,ydcm,d,yco,usV,spcO,spcC,ybk,yba,zH,clash,go_sem,zA,zB,zD,zC,↓reduceIte,reduceCtorEq]
   repeat refine ybc ?_
   let f:Nat->Nat->Nat:=fun k q=>if q<k/\lg q=false then V (mkey (q:Int) (S.en q:Int))else 0
   refine ybd (σ:=Nat) (fun k=>⟨[(106,.i .i64 k),(105,.i .i64 (S.N:Nat)),(104,.sl 1 S.N fun k=>[.i .u32 (S.en k:Nat)]),(1,yba S.N lg),(9,.mr (41,0)),(20,.os (102,0) 0 S.N true)],[(102,.one (some ⟨3,false,1,S.N,fun q=>[.i .i64 (f k q:Nat)]⟩)),d V]⟩) (fun k=>k<=S.N) (fun k=>S.N-k) 0 (zG _) ?_ ?_
   .refine yu ?_;simp only[d,yba,wk,go_sem,zA,zC,↓reduceIte,reduceCtorEq]
    exact fun i _=>by
     show(0:Int)=((if i<0/\lg i=false then _ else 0:Nat):Int)
     rw[if_neg (fun r=>by omega)]
     rfl
   .intro k hk
    by_cases x:k<S.N
    .have d1:=dec_lt x;have he:=h.lt k x;cases Z:lg k with
     | true =>
       have P:∀q,f (k+1) q=f k q:=fun q=>by
        show(if _ then _ else _)=if _ then _ else _
        by_cases e:q=k
        .subst e;rw[Z,if_neg (fun r=>by cases r.2),if_neg (fun r=>by cases r.2)]
        .by_cases r:q<k/\lg q=false
         .rw[if_pos r,if_pos ⟨by omega,r.2⟩]
         .rw[if_neg r,if_neg (fun w=>r ⟨by omega,w.2⟩)]
       simp only[ybpg,ycio,ybxs,ybxn,d,yba,d1,Z,clash,go_sem,zA,zB,↓reduceIte,reduceCtorEq]
       repeat refine ybc ?_
       refine yh (k+1) x (by omega) ?_
       refine yu ?_;simp only[P,wk,go_sem,zA,zC,↓reduceIte,reduceCtorEq];omega
     | false =>
       have P:∀q,f (k+1) q=if q=k then V (mkey (k:Int) (S.en k:Int))else f k q:=fun q=>by
        show(if _ then _ else _)=if _ then _ else(if _ then _ else _)
        by_cases e:q=k
        .subst e;rw[if_pos rfl,if_pos ⟨by omega,Z⟩]
        .rw[if_neg e]
         by_cases r:q<k/\lg q=false
         .rw[if_pos r,if_pos ⟨by omega,r.2⟩]
         .rw[if_neg r,if_neg (fun w=>r ⟨by omega,w.2⟩)]
       simp only[ybpg,ycio,ybxs,ydcu,ybxn,d,yba,d1,Z,splice,clash,zAO,go_sem,zA,zB,zD,↓reduceIte,reduceCtorEq]
       repeat refine ybc ?_
       refine yh (k+1) x (by omega) ?_
       refine yu ?_;simp only[P,wk,go_sem,zA,zC,↓reduceIte,reduceCtorEq];refine⟨by omega,fun i Y=>yfy ?_⟩
       by_cases e:i=k
       .simp only[if_pos e]
       .simp only[if_neg e]
    .obtain rfl:k=S.N:=by omega
     simp only[ybpg,ydcj,d,yba,zH,clash,go_sem,zA,zB,↓reduceIte,reduceCtorEq];refine⟨f S.N,Sim.refl _,fun k hk=>?_⟩;show(if _ then _ else _)=0\/(_/\B k (S.en k) (if _ then _ else _))
     by_cases r:k<S.N/\lg k=false
     .rw[if_pos r];exact K k hk (S.en k) (O k hk)
     .rw[if_neg r];exact .inl rfl
end Sh
end
section
structure WLaw(p:ProgT)(g:Gr)(perm:Nat->Bool)(D:Nat->Prop)(L:Conf->Bool)(J:Conf->Cnt->Prop)(R:Nat)(M:Nat->Prop):Prop where
 tab:TabOk (tabP p g)
 n4:g.ids.length<=4
 big:ybl (tabP p g)*2^g.ids.length<=262144
 fit:∀c,ydd p g c=true->∀s,ydd p g (ygl p g c s)=true
 permD:∀s,s<2^g.ids.length->perm s=true->D s
 low:∀e,e<16->e≠0->perm ((4294967296-e)&&&e)=true
 start:∀c,ydd p g c=true->J c (ybio (ybt p g c))
 step:∀c k s,ydd p g c=true->J c k->s≠0->subB s (ybt p g c)->D s->J (ygl p g c s) (addP k s (ybt p g (ygl p g c s)))
 rests:∀c,ydd p g c=true->(ybt p g c=0↔L c=true)
 rounds:∀c k,ydd p g c=true->J c k->L c=false->k.rounds+1<=R
 r1000:R<=100000
 moves:∀c k,ydd p g c=true->J c k->M k.moves
 noloop:∀c s m,Loop (yml p g) (fun c=>ydd p g c=true) c s m->(∀i,D (s i))->False
theorem ydix{perm:Nat->Bool}{e n:Nat}(b:n<=4)(d:e<2^n):(chP perm e).length<=2^n:=by
 have a:2^n<=16:=zI (by omega) b
 have:=yli (perm:=perm) (e:=e) (n:=2^n) (16-2^n) fun t c _ h=>by
  have:t&&&e<=e:=Nat.and_le_right;rw[h.2]at this;omega
 rw[show 2^n+(16-2^n)=16 by omega]at this
 show(chTo perm e 16).length<=_;rw[this];exact ybeh _ _ _
theorem ysh{s e:Nat}(h:s&&&e=s):subB s e:=fun v a=>by
 have:(s&&&e).testBit v=true:=by rw[h];exact a
 rw[zBB,zM]at this;exact this.2
namespace WLaw
variable {p:ProgT}{g:Gr}{perm:Nat->Bool}{D:Nat->Prop}{L:Conf->Bool}{J:Conf->Cnt->Prop}{R:Nat}{M:Nat->Prop}
theorem en16(h:WLaw p g perm D L J R M)(c:Conf):ybt p g c<16:=zAF (Sh.yyj p g c) (zI (by omega) h.n4:2^g.ids.length<=2^4)
theorem yvm(h:WLaw p g perm D L J R M){k i:Nat}(a:i<((spcP perm p g).arcs k).length) :
 ∃s,((spcP perm p g).arcs k).getD i (0,0)=(s,rkN p g (ygl p g (cfP p g k) s))/\s=(chP perm (ybt p g (cfP p g k))).getD i 0/\s<16/\s≠0/\s&&&ybt p g (cfP p g k)=s/\perm s=true:=by
 change i<((chP perm (ybt p g (cfP p g k))).map _).length at a
 rw[zW]at a;refine⟨_,?_,rfl,ybrf (Sh.getD_mem a)⟩;show((chP perm (ybt p g (cfP p g k))).map _).getD i (0,0)=_;simp only[zAD,zAX,zAN a];rfl
theorem conf(h:WLaw p g perm D L J R M)(k:Nat):ydd p g (cfP p g k)=true:=ybwi h.tab.bd k
theorem ydwi(h:WLaw p g perm D L J R M){d:Conf}(b:ydd p g d=true):rkN p g d<ybl (tabP p g)/\cfP p g (rkN p g d)=d:=by
 have a:=yiw.1 b;have:=ybae a;refine⟨?_,ybqw a⟩;unfold rkN;omega
theorem ybmd(h:WLaw p g perm D L J R M){k s:Nat}:cfP p g (rkN p g (ygl p g (cfP p g k) s))=ygl p g (cfP p g k) s:=(h.ydwi (h.fit _ (h.conf k) s)).2
theorem ybbo(h:WLaw p g perm D L J R M)(k:Nat):((spcP perm p g).arcs k).length=(chP perm (ybt p g (cfP p g k))).length:=zW _
theorem ydee(h:WLaw p g perm D L J R M):∀k,sumA (spcP perm p g) k<=k*2^g.ids.length
 |0=>zG _
 | k + 1=>by
   have a:=ydee h k
   have b:((spcP perm p g).arcs k).length<=2^g.ids.length:=by
    rw[h.ybbo];exact ydix h.n4 (Sh.yyj p g _)
   show sumA (spcP perm p g) k+((spcP perm p g).arcs k).length<=(k+1)*2^g.ids.length;rw[Nat.succ_mul];omega
theorem tot(h:WLaw p g perm D L J R M):sumA (spcP perm p g) (ybl (tabP p g))<=262144:=zN (h.ydee _) h.big
theorem yber(h:WLaw p g perm D L J R M)(k:Nat):(spcP perm p g).en k=0↔((spcP perm p g).arcs k).length=0:=by
 rw[h.ybbo];show ybt p g (cfP p g k)=0↔_;constructor
 .intro e;rw[e,ybpy];rfl
 .intro e;refine zV fun q=>ydsn (h.en16 _) q (h.low _ (h.en16 _) q) (List.length_eq_zero_iff.1 e)
theorem ok(h:WLaw p g perm D L J R M):(spcP perm p g).ok:=by
 have c:∀k,ybt p g (cfP p g k)<2^24:=fun k=>zBG (h.en16 _) (by omega)
 refine⟨ypo h.tab.bd,h.tab.tot,fun k _=>c k,fun k _=>h.yber k,fun k _ i a=>?_,fun k _ i a=>?_,fun k _ i a=>?_,h.tot⟩
 .obtain⟨s,e,-,d,-,f,-⟩:=h.yvm a;rw[e];exact⟨zBG d (by omega),Sh.ybpl f⟩
 .obtain⟨s,e,m,d,o,f,-⟩:=h.yvm a;rw[e];unfold ybnm
  by_cases q:i=0
  .rw[if_pos q];show 0<s;omega
  .rw[if_neg q];obtain⟨n,l,b,-⟩:=h.yvm (k:=k) (i:=i-1) (by omega)
   rw[l];show n<s;have j:=a;rw[h.ybbo]at j;rw[m,b,ymg j,ymg (by omega)]
   exact List.pairwise_iff_getElem.1 (yblw _ _ _) _ _ _ _ (by omega)
 .obtain⟨s,e,-⟩:=h.yvm a;rw[e];exact(h.ydwi (h.fit _ (h.conf k) s)).1
theorem free(h:WLaw p g perm D L J R M):(spcP perm p g).free fun k=>L (cfP p g k):=by
 refine⟨fun k _ v e=>?_,fun f m d=>?_⟩
 .have:(spcP perm p g).en k=0:=(h.yber k).2 (by rw[e];rfl)
  have:=(h.rests _ (h.conf k)).1 this;rw[v]at this;cases this
 .have o:∀i,∃s,s<2^g.ids.length/\s≠0/\subB s (ybt p g (cfP p g (f i)))/\D s/\cfP p g (f (i+1))=ygl p g (cfP p g (f i)) s:=fun i=>by
   obtain⟨a,r,l⟩:=d.arc i;obtain⟨j,q,rfl⟩:=zAK r;obtain⟨s,e,-,w,t,n,u⟩:=h.yvm q;rw[ymg q]at e;rw[e]at l;have b:s<2^g.ids.length:=Sh.ybds (ysh n) (Sh.yyj p g _);refine⟨s,b,t,ysh n,h.permD s b u,?_⟩;rw[<-l];exact h.ybmd
  let s:Nat->Nat:=fun i=>(o i).choose
  have c:=fun i=>(o i).choose_spec;exact h.noloop (fun i=>cfP p g (f i)) s m ⟨d.pos,fun i=>by show cfP p g _=_;rw[d.per],fun i=>h.conf _,fun i=>(c i).2.1,fun i=>(c i).2.2.1,fun i=>(c i).2.2.2.2⟩ fun i=>(c i).2.2.2.1
theorem rest(h:WLaw p g perm D L J R M)(k:Nat)(a:L (cfP p g k)=true):((spcP perm p g).arcs k).length=0:=(h.yber k).1 ((h.rests _ (h.conf k)).2 a)
def BM(p:ProgT)(g:Gr)(J:Conf->Cnt->Prop)(M:Nat->Prop)(k x:Nat):Prop:=∀a,J (cfP p g k) a->M (x+a.moves)
theorem mvB(h:WLaw p g perm D L J R M):Sh.MvB (spcP perm p g) (fun k=>L (cfP p g k)) (BM p g J M):=by
 refine⟨fun k _ a hk=>by rw[Nat.zero_add];exact h.moves _ _ (h.conf k) hk,fun k _ _ i l x d a hk=>?_⟩
 obtain⟨s,e,-,m,f,c,j⟩:=h.yvm l;rw[e]at d ⊢;have b:s<2^g.ids.length:=Sh.ybds (ysh c) (Sh.yyj p g _);have:=h.step _ _ s (h.conf k) hk f (ysh c) (h.permD s b j);rw[<-h.ybmd]at this;have:=d _ this;show M (popP s+x+a.moves);rw[show popP s+x+a.moves=x+(a.moves+popP s)by omega]
 exact this
def BR(p:ProgT)(g:Gr)(J:Conf->Cnt->Prop)(R k s x:Nat):Prop:=(∀a,J (cfP p g k) a->a.pend=s->a.rounds+x<=R)/\x<=1+R
theorem rdB(h:WLaw p g perm D L J R M):Sh.RdB (spcP perm p g) (fun k=>L (cfP p g k)) g.ids.length (BR p g J R):=by
 have q:∀k i,i<((spcP perm p g).arcs k).length->∀a,J (cfP p g k) a->J (cfP p g (((spcP perm p g).arcs k).getD i (0,0)).2) (addP a (((spcP perm p g).arcs k).getD i (0,0)).1 ((spcP perm p g).en (((spcP perm p g).arcs k).getD i (0,0)).2)):=fun k i d a hk=>by
  obtain⟨s,e,-,u,r,o,t⟩:=h.yvm d;rw[e];have n:s<2^g.ids.length:=Sh.ybds (ysh o) (Sh.yyj p g _);have:=h.step _ _ s (h.conf k) hk r (ysh o) (h.permD s n t);rw[<-h.ybmd]at this;exact this
 refine⟨fun k _ l s _=>⟨fun a hk _=>h.rounds _ _ (h.conf k) hk l,by omega⟩,fun k _ l s _ i d m f x b=>⟨fun a hk j=>?_,?_⟩,fun k _ l s _ i d m f x b=>⟨fun a hk j=>?_,b.2⟩,fun k s x b=>?_⟩
 .have c:=q k i d a hk;unfold yoy at f;unfold addP at c;simp only[j,f,if_true]at c;have:=b.1 _ c rfl;have:a.rounds+1+x<=R:=this;omega
 .have:=b.1 _ (h.start _ (h.conf _)) rfl;have:0+x<=R:=this;omega
 .have c:=q k i d a hk;unfold yoy at f b;unfold addP at c;simp only[j,if_neg f]at c;have:=b.1 _ c rfl;exact this
 .have:=b.2;have:=h.r1000;omega
theorem yckd(h:WLaw p g perm D L J R M){k x:Nat}(a:BM p g J M k x):M x:=a _ (h.start _ (h.conf k))
theorem ybxz(h:WLaw p g perm D L J R M){k x:Nat}(a:x=0\/(L (cfP p g k)=false/\BR p g J R k ((spcP perm p g).en k) x)):x<=R:=by
 rcases a with rfl|⟨-,a⟩
 .exact zG _
 .have:=a.1 _ (h.start _ (h.conf k)) rfl;have:0+x<=R:=this;omega
end WLaw
end
section
theorem ybqz{r:Nat}:∀T:List (List (Int×Int)),(∀x∈T,ybq x<=r)->ybl T<=r^T.length
 |[],_=>zX _
 | x::T,h=>by
   show ybq x*ybl T<=r^(T.length+1);rw[Nat.pow_succ,zBE (r^T.length)];exact zAR (h x zK) (ybqz T fun y a=>h y (zU _ a))
theorem yuv{p:ProgT}{g:Gr}{x:List (Int×Int)}(h:x∈tabP p g):∃v,v<g.ids.length/\x=p.vars.map (ybh g v):=by
 unfold tabP tabT at h;obtain⟨v,a,rfl⟩:=List.mem_map.1 h;exact⟨v,List.mem_range.1 a,rfl⟩
theorem ycbh {p:ProgT}{g:Gr}{m r:Nat}(h:g.ids.length<=m) (q:m<=4) (a:0<p.vars.length/\p.vars.length<=6)
 (f:∀v,v<g.ids.length->∀x∈p.vars,-1000000<=(ybh g v x).1/\(ybh g v x).1<=(ybh g v x).2/\(ybh g v x).2<=1000000)
 (n:∀v,v<g.ids.length->ybq (p.vars.map (ybh g v))<=r) (i:1<=r) (o:r^m<=32768) (j:r^m*2^m<=262144):TabOk (tabP p g)/\ybl (tabP p g)*2^g.ids.length<=262144:=by
 have k:(tabP p g).length=g.ids.length:=yhq _ _ _
 have l:ybl (tabP p g)<=r^m:=by
  refine zN (ybqz (r:=r) _ fun x d=>?_) ?_
  .obtain⟨v,a,rfl⟩:=yuv d;exact n v a
  .rw[k];exact zI i h
 refine⟨⟨fun x d b c=>?_,fun x d b c=>?_,by omega,fun x d=>?_,by omega⟩,zN (zAR l (zI (by omega) h)) j⟩
 .obtain⟨v,a,rfl⟩:=yuv d;obtain⟨y,e,rfl⟩:=List.mem_map.1 c;exact(f v a y e).2.1
 .obtain⟨v,a,rfl⟩:=yuv d;obtain⟨y,e,rfl⟩:=List.mem_map.1 c;exact⟨(f v a y e).1,(f v a y e).2.2⟩
 .obtain⟨v,a,rfl⟩:=yuv d;rw[zW];omega
theorem ydib{g:Gr}(f:ybi g)(v:Nat):(g.ports.getD v []).length<=g.ports.length:=by
 by_cases c:v<g.ports.length
 .obtain⟨d,e⟩:=f.2.2.2.2.2.1 ⟨v,c⟩;rw[ymg c]
  have:=yxt g.ports.length ((g.ports[v]).map (·.1)) (fun x i=>by
   obtain⟨l,h,rfl⟩:=List.mem_map.1 i;obtain⟨a,b,-⟩:=d l h;exact⟨a,by omega⟩) e
  rwa [zW]at this
 .rw[zAD,List.getElem?_eq_none (by omega)]
  exact zG _
theorem yeeh {p:ProgT}{g:Gr}{P:Nat->Nat->List Int->Prop}{L:Conf->Bool}{R:Nat}(ht:TabOk (tabP p g)/\ybl (tabP p g)*2^g.ids.length<=262144) (n4:g.ids.length<=4)
 (fit:∀c,ydd p g c=true->∀s,ydd p g (ygl p g c s)=true) (hby:ByRounds (yml p g) (fun c=>ydd p g c=true) P) (h0:∀c v,ydd p g c=true->v<g.ids.length->P 0 v (c.getD v []))
 (rests:∀c,ydd p g c=true->(ybt p g c=0↔L c=true)) (right:∀c r,ydd p g c=true->R<=r->(∀v,v<g.ids.length->P r v (c.getD v []))->L c=true) (hR:R<=100000)
 (noloop:∀(c:Nat->Conf) (s:Nat->Nat) (m:Nat),Loop (yml p g) (fun c=>ydd p g c=true) c s m->False) :
 WLaw p g (fun _=>true) (fun _=>True) L (RInv (yml p g) (fun c=>ydd p g c=true) P) R (fun _=>True) where
 tab:=ht.1
 n4:=n4
 big:=ht.2
 fit:=fit
 permD:=fun _ _ _=>trivial
 low:=fun _ _ _=>rfl
 start:=fun c hc=>hby.start hc fun v hv=>h0 c v hc hv
 step:=fun c k s hc hJ h1 h2 _=>hby.step c k s hJ h1 h2
 rests:=rests
 rounds:=fun c k hc hJ hl=>by
  refine zV fun q=>?_;rw[right c k.rounds hc (by omega) hJ.all]at hl
  cases hl
 r1000:=hR
 moves:=fun _ _ _ _=>trivial
 noloop:=fun c s m h _=>noloop c s m h
end
section
theorem ycdc{l:List Int}{x:Int}(h:ydz l<x)(f:x<=1073741824):∃y∈l,y=ydz l:=by
 refine zV fun c=>?_;have:∀b:Int,b<=1073741824->(∀y∈l,b<=y)->b<=ydz l:=fun b=>ykg
 have d:=this (ydz l+1) (by omega) fun y a=>by
  have:=ylj a;rcases Int.lt_or_lt_of_ne (show y≠ydz l from fun e=>c ⟨y,a,e⟩)with q|q<;>omega
 omega
theorem ybax{j:Type}{l:List j}{a b:j->Int}{x:Int}(i:x<=1073741824)(h:∀p∈l,(a p<x->b p=a p)/\(x<=a p->x<=b p)) :
 (ydz (l.map a)<x->ydz (l.map b)=ydz (l.map a))/\(x<=ydz (l.map a)->x<=ydz (l.map b)):=by
 refine⟨fun d=>?_,fun k=>?_⟩
 .obtain⟨y,m,e⟩:=ycdc d i;obtain⟨p,g,rfl⟩:=List.mem_map.1 m;have r:=(h p g).1 (by omega)
  have n:ydz (l.map b)<=b p:=ylj (zAL g)
  have o:ydz (l.map a)<=ydz (l.map b):=ykg (by omega) fun z f=>by
   obtain⟨q,c,rfl⟩:=List.mem_map.1 f;have:=ylj (l:=l.map a) (zAL c);rcases Int.lt_or_le (a q) x with w|w
   .rw[(h q c).1 w];exact this
   .have:=(h q c).2 w;omega
  omega
 .refine ykg i fun z f=>?_;obtain⟨q,c,rfl⟩:=List.mem_map.1 f;have:=ylj (l:=l.map a) (zAL c);exact(h q c).2 (by omega)
theorem ybxd{g:Gr}(a:ybi g){v:Nat}(h:v<g.ids.length){l:Int×Int}(d:l∈g.ports.getD v []):l.1.toNat<g.ids.length/\1<=l.2/\l.2<=15:=by
 have e:g.ids.length=g.ports.length:=a.2.2.1;obtain⟨_,f,_,b,c⟩:=ybei a (by omega) d
 exact⟨by omega,b,c⟩
end
section
section
variable {nm nd np nt nl:ByteArray}{g:Gr}
theorem ybnw(i:ybi g){c:Nat->Conf}{s:Nat->Nat}{m:Nat}(z:Loop (yml (ycg nm nd np nt nl) g) (fun c=>ydd (ycg nm nd np nt nl) g c=true) c s m):False:=by
 have y:(g.ids.length:Int)<=24:=by have:=i.2.1;have:=i.2.2.1;omega
 refine(ybeu i).no_loop (fun c=>ybed _ _) (fun r=>r.getD 0 0) (fun c v p f=>((yiv i p).2 v f).2.1.1) (fun c d v p q f a=>?_) (fun c d v p q f a=>?_) z
 .have f:v<g.ids.length:=f
  have b:∀{x:Int},(∀u,u<g.ids.length->((c.getD u []).getD 0 0<x->(d.getD u []).getD 0 0=(c.getD u []).getD 0 0)/\(x<=(c.getD u []).getD 0 0->x<=(d.getD u []).getD 0 0))->∀l∈g.ports.getD v [],(endP c 0 l<x->endP d 0 l=endP c 0 l)/\(x<=endP c 0 l->x<=endP d 0 l) :=
   fun h l j=>h _ (ybxd i f j).1
  by_cases n:v=0
  .unfold bfsT;rw[if_pos n,if_pos n]
  .have e:∀c,(bfsT g c v).getD 0 0=bfsD g c v:=fun c=>by unfold bfsT;rw[if_neg n];rfl
   simp only[e]at a ⊢
   by_cases o:bfsM g c v<(g.ids.length:Int)
   .have k:bfsD g c v=bfsM g c v+1:=by unfold bfsD;rw[if_pos o]
    rw[k]at a ⊢;have:=(ybax (by omega) (b a)).1 (by show bfsM g c v<_;omega)
    have t:bfsM g d v=bfsM g c v:=this;unfold bfsD;rw[t,if_pos o]
   .have k:bfsD g c v=(g.ids.length:Int):=by unfold bfsD;rw[if_neg o]
    rw[k]at a ⊢;have:=(ybax (by omega) (b a)).2 (by show _<=bfsM g c v;omega)
    have t:(g.ids.length:Int)<=bfsM g d v:=this;unfold bfsD;rw[if_neg (by omega)]
 .have f:v<g.ids.length:=f;have e:∀l∈g.ports.getD v [],endP d 0 l=endP c 0 l:=fun l j=>a _ (ybxd i f j).1;have w:bfsM g d v=bfsM g c v:=congrArg ydz (List.map_congr_left e);unfold bfsT bfsD bfsF;rw[w,ysv fun l j=>by rw[e l j]]
end
end
section
section
variable {nm nd np nt nl:ByteArray}{g:Gr}
theorem ycnj(d:ybi g)(b:yeo g=true)(p:0<=eccP g 0)(n:g.ports.length<=3):WLaw (ycg nm nd np nt nl) g (fun _=>true) (fun _=>True) (yen g) (RInv (yml (ycg nm nd np nt nl) g) (fun c=>ydd (ycg nm nd np nt nl) g c=true) (bfsR g)) (eccP g 0+1).toNat (fun _=>True):=by
 have t:=d.2.2.1;have q:=(yqg g 0).2;have j:=ydib d;have i:∀v,ybh g v ⟨nd,1,0,0,1,0⟩=(0,0+1*(g.ids.length:Int)+0*maxI g.ids):=fun v=>if_pos rfl;have h:∀v,ybh g v ⟨np,3,0,0,0,0⟩=(-1,((g.ports.getD v []).length:Int)-1):=fun v=>rfl
 refine yeeh (ycbh (m:=3) (r:=16) (by omega) (by omega) ⟨Nat.succ_pos _,by show 2<=6;omega⟩ (fun v k x l=>?_) (fun v k=>?_) (by omega) (by decide) (by decide)) (by omega)
  (fun c f s=>Sh.yjm d ycyj (ybdi d) f s) ((ybeu d).rounds (fun c v r _ n a=>ybec d b c v r n a) ycbc) (fun c v f k=>ybgj d b f v k)
  (fun c f=>ycar d b f) (fun c r f u a=>(ybfh d b f).2 (yzh d b (r:=r) (by omega) a)) (by omega) (fun c s m o=>ybnw d o)
 .have:=j v;rcases List.mem_cons.1 l with e|l
  .rw[e,i];show -1000000<=(0:Int)/\(0:Int)<=0+1*(g.ids.length:Int)+0*maxI g.ids/\0+1*(g.ids.length:Int)+0*maxI g.ids<=1000000;omega
  .rw[List.mem_singleton.1 l,h];show -1000000<=(-1:Int)/\(-1:Int)<=((g.ports.getD v []).length:Int)-1/\((g.ports.getD v []).length:Int)-1<=1000000;omega
 .have:=j v;show szP (ybh g v ⟨nd,1,0,0,1,0⟩)*(szP (ybh g v ⟨np,3,0,0,0,0⟩)*1)<=16;rw[i,h];unfold szP;show(0+1*(g.ids.length:Int)+0*maxI g.ids-0+1).toNat*((((g.ports.getD v []).length:Int)-1 - -1+1).toNat*1)<=16;exact zN (zAR (show _<=4 by omega) (show _<=4 by omega)) (by decide)
end
end
section
namespace Sh
open Go Ev
def c6_0:LO:=[bx' 24 0 1 0,mb false 2 0]
def c6_1:LO:=[la' 6 1 22 0,o3 (.call (.func 10) [(.tmp 22),(ci' 3)]) 23 1,o3 (.alloc 27 1 [.a (.slice none 0 0),.a (.slice none 0 0)]) 3 0,sto 2 3 23 7]
def c6_2:LO:=[cl' 31 [] 24 0,cl' 11 [24] 25 1,o3 (.alloc 32 1 [.a (.string (ByteArray.mk #[])),.a (.slice none 0 0),.a (.slice none 0 0)]) 4 0,sto 3 4 25 7]
def c6_3:LO:=[la' 2 3 26 0,cl' 32 [26] 27 1,o3 (.alloc 36 1 [.i .i64 0,.b false,.b false,.i .i64 0,.i .i64 0]) 5 0,sto 5 5 27 7]
def c6_4:LO:=[la' 3 4 29 0,la' 2 3 30 0,fa' 0 1 5 31 0,ld' 1 31 32 4,cl' 14 [29,30,32] 33 15,mv' 33 28 31,xt' 28 0 34 63,xt' 28 1 35 63,o3 (.alloc 41 1 [.a (.slice none 0 0),.a (.slice none 0 0)]) 6 0,sto 2 6 34 383,mv' 35 7 1023]
def c6_5:LO:=[mv' 7 36 0,bc .neq 36 0 37 1,mv' 37 38 3,gf (.faddr 1 1 (.tmp 6)) 39 38 7,gf (.load false 1 (.tmp 39)) 40 38 15,gf (.len (.tmp 40)) 41 38 31,gf (.bin .eql (.tmp 41) (ci' 0)) 42 38 63,pk' 38 42 43 127]
def c6_6:LO:=[mb false 2 0]
def c6_7:LO:=[nl' 8 0]
def c6_8:LO:=[mc 0 9 0]
def c6_9:LO:=[mv' 9 44 0,fa' 1 1 6 45 0,ld' 1 45 46 2,ln' 46 47 6,bn' .lss 44 47 48 15]
def ydpt:LO:=[la' 3 4 52 0,la' 2 3 53 0,mv' 9 54 0,cl' 15 [52,53,54] 55 7,mv' 55 51 15,xt' 51 0 56 31,xt' 51 1 57 31,mv' 56 10 63,mv' 57 11 255]
def yduy:LO:=[mv' 11 58 0,bc .neq 58 0 59 1]
def yecw:LO:=[mb false 2 0]
def ydpu:LO:=[mv' 8 60 0,la' 2 3 61 0,mv' 10 62 0,cl' 33 [61,62] 63 6,o3 (.bslice 4 1 1 [.b false] [(0,1,(.tmp 63))]) 64 14,o3 (.app 4 1 1 (.tmp 60) (.tmp 64)) 65 31,mv' 65 8 63]
def ydth:LO:=[mv' 9 49 0,bc .add 49 1 50 1,mv' 50 9 3]
def ydpg:LO:=[la' 2 6 67 0,mv' 8 68 0,cl' 17 [67,68] 69 3,mv' 69 66 7,xt' 66 0 70 15,xt' 66 1 71 15,mv' 70 12 31,mv' 71 13 127]
def ydof:LO:=[la' 2 6 73 0,mv' 8 74 0,cl' 18 [73,74] 75 3,mv' 75 72 7,xt' 72 0 76 15,xt' 72 1 77 15,mv' 76 14 31,mv' 77 15 127]
def ydnc:LO:=[mv' 13 78 0,bc .neq 78 0 79 1,mv' 79 80 3,gf (.mv (.tmp 15)) 81 80 7,gf (.bin .neq (.tmp 81) (ci' 0)) 82 80 15,pk' 80 82 83 31,mv' 83 84 63,gf (.mv (.tmp 14)) 85 84 127,gf (.un .not (.tmp 85)) 86 84 255,pk' 84 86 87 511,mv' 87 88 1023,gf (.mv (.tmp 12)) 89 88 2047,gf (.len (.tmp 89)) 90 88 4095,gf (.mv (.tmp 8)) 91 88 2047,gf (.len (.tmp 91)) 92 88 10239,gf (.bin .neq (.tmp 90) (.tmp 92)) 93 88 32767,pk' 88 93 94 65535]
def yedf:LO:=[mb false 2 0]
def ydzl:LO:=[mc 0 16 0]
def ydkb:LO:=[mv' 16 95 0,mv' 12 96 0,ln' 96 97 2,bn' .lss 95 97 98 7]
def ydyz:LO:=[mv' 12 101 0,mv' 16 102 0,ix' 1 101 102 103 3,ld' 1 103 104 7]
def yeec:LO:=[mb false 2 0]
def ydnp:LO:=[mv' 16 99 0,bc .add 99 1 100 1,mv' 100 16 3]
def ydrq:LO:=[la' 2 6 106 0,mv' 8 107 0,cl' 19 [106,107] 108 3,mv' 108 105 7,xt' 105 0 109 15,xt' 105 1 110 15,mv' 109 17 31,mv' 110 18 127]
def ydzk:LO:=[la' 2 6 112 0,mv' 8 113 0,cl' 20 [112,113] 114 3,mv' 114 111 7,xt' 111 0 115 15,xt' 111 1 116 15,mv' 115 19 31,mv' 116 20 127]
def ydqu:LO:=[mv' 18 117 0,bc .neq 117 0 118 1,mv' 118 119 3,gf (.mv (.tmp 20)) 120 119 7,gf (.bin .neq (.tmp 120) (ci' 0)) 121 119 15,pk' 119 121 122 31,mv' 122 123 63,gf (.mv (.tmp 17)) 124 123 127,gf (.len (.tmp 124)) 125 123 255,gf (.mv (.tmp 8)) 126 123 127,gf (.len (.tmp 126)) 127 123 639,gf (.bin .neq (.tmp 125) (.tmp 127)) 128 123 2047,pk' 123 128 129 4095,mv' 129 130 8191,gf (.mv (.tmp 19)) 131 130 16383,gf (.len (.tmp 131)) 132 130 32767,gf (.mv (.tmp 8)) 133 130 16383,gf (.len (.tmp 133)) 134 130 81919,gf (.bin .neq (.tmp 132) (.tmp 134)) 135 130 262143,pk' 130 135 136 524287]
def yeda:LO:=[mb false 2 0]
def ydwn:LO:=[mc 0 21 0]
def ydke:LO:=[mv' 21 137 0,mv' 17 138 0,ln' 138 139 2,bn' .lss 137 139 140 7]
def ydmv:LO:=[mv' 17 143 0,mv' 21 144 0,ix' 1 143 144 145 3,ld' 1 145 146 7,fa' 3 1 5 147 0,ld' 1 147 148 16,bn' .gtr 146 148 149 63,mv' 149 150 127,gf (.faddr 4 1 (.tmp 5)) 151 150 255,gf (.load false 1 (.tmp 151)) 152 150 511,gf (.bin .geq (.tmp 152) (ci' 0)) 153 150 1023,gf (.mv (.tmp 153)) 154 150 2047,gt (.mv (.tmp 19)) 155 154 4095,gt (.mv (.tmp 21)) 156 154 4095,gt (.idx 1 (.tmp 155) (.tmp 156)) 157 154 16383,gt (.load false 1 (.tmp 157)) 158 154 32767,gt (.faddr 4 1 (.tmp 5)) 159 154 4095,gt (.load false 1 (.tmp 159)) 160 154 69631,gt (.bin .gtr (.tmp 158) (.tmp 160)) 161 154 262143,gf (.pick (.tmp 154) (.tmp 161) (.const (.bool false))) 162 150 524287,pk' 150 162 163 1048575]
def yedg:LO:=[mb false 2 0]
def yeed:LO:=[mv' 21 141 0,bc .add 141 1 142 1,mv' 142 21 3]
def ydui:LO:=[cl' 34 [] 164 0,mv' 164 2 1]
def c6:SC:=(sr c6_0 <| sr c6_1 <| sr c6_2 <| sr c6_3 <| sr c6_4 <| .seq (sr c6_5 <| cn 43 (sr c6_6 <| .ret) .skip) (sr c6_7 <| .seq (sr c6_8 <| .block 0 (.loop (.seq (sr c6_9 <| cn 48 .skip (.exit 0)) (.seq (.block 1 (sr ydpt <| .seq (sr yduy <| cn 59 (sr yecw <| .ret) .skip) (.reg false ydpu))) (.reg false ydth))))) (sr ydpg <| sr ydof <| .seq (sr ydnc <| cn 94 (sr yedf <| .ret) .skip) (.seq (sr ydzl <| .block 2 (.loop (.seq (sr ydkb <| cn 98 .skip (.exit 2)) (.seq (.block 3 (sr ydyz <| cn 104 (sr yeec <| .ret) .skip)) (.reg false ydnp))))) (sr ydrq <| sr ydzk <| .seq (sr ydqu <| cn 136 (sr yeda <| .ret) .skip) (.seq (sr ydwn <| .block 4 (.loop (.seq (sr ydke <| cn 140 .skip (.exit 4)) (.seq (.block 5 (.seq (.reg true ydmv) (cn 163 (sr yedg <| .ret) .skip))) (.reg false yeed))))) (sr ydui <| .ret)))))))
theorem yecf:Fn 6 c6 [.t 2]:=fn_0 Tryz.func6
end Sh
end
section
namespace Sh
open Ev Go.RowKit
set_option maxHeartbeats 16000000 in
theorem ybhu{x:NetR}(hx:x.ok):Returns zJ 6 [.ag (netC x)] (.b true):=by
 refine Returns.of (yecf _ _ ?_);have hC:=ycpa hx (most:=3) (by omega)
 simp only[netC]at hC;simp only[c6,c6_0,c6_1,netC,clash,go_sem,zA,zB,zC];refine hC.found (V:=grV) (fun r g h=>h.2.2.2) fun r g h=>?_;obtain⟨hT,hit,a7,-⟩:=h;have w:=hT.good;have y:=hT.conn;have hI:=ycfd w;have J:Checked (Lies BqB Bqv) (Lies BqC Bqr) BqP g:=⟨w,ydsi,ybdi w,ycma⟩;have K:=ybtd hI y;have a5:=(ydfo w y).1;have c:WLaw BqP g (fun _=>true) (fun _=>True) (yen g) _ (eccP g 0+1).toNat (fun _=>True):=ycnj w y a5 a7
 have a8:2^g.ids.length<=2^4:=zI (by omega) c.n4
 have G:∀e s,e<2^g.ids.length->s≠0->s<16->s&&&e=s->Returns zJ 171 [usV (g.ports.map netP),.i .i64 3,.i .u32 (e:Nat),.i .u32 (s:Nat)] (.b true):=fun e s he h0 hs h=>ybjr _ (by omega) h0 (by omega) (ybpl h)
 have a9:((eccP g 0+1).toNat:Int)=eccP g 0+1:=by omega
 have P:g.ids.length<=24:=by have:=w.2.1;have:=w.2.2.1;omega
 have a2:=ycgi;have a0:=ybtu;have X:=ybwc J c.tab (kind:=3) (.inr rfl) c.n4 (perm:=(fun _=>true)) G c.tot;have T:=fun k (hk:k<ybl (tabP BqP g))=>ybus J c.tab (k0:=k) hk;have F:=fun k=>ybva w (yckq (ybqu w ydsi (c.conf k))) (ybex w y (c.conf k));have p:=ycpr c.ok c.free;have o:=ybth c.ok (lg:=fun k=>yen g (cfP BqP g k)) fun k _ hl=>c.rest k hl;have u:=ybwm c.ok c.free P (fun k _=>yyj _ _ _) c.big c.rdB
 have t:=ycjh c.ok c.free c.mvB;have O:=fun k x=>c.ybxz (k:=k) (x:=x);have L:=fun k x=>c.yckd (k:=k) (x:=x);have C:0<ybl (tabP BqP g):=c.ok.pos;have a6:ybl (tabP BqP g)<=32768:=c.ok.le;have hN:(spcP (fun _=>true) BqP g).N=ybl (tabP BqP g):=rfl;have a4:∀k,(unT (tabP BqP g) k).1=cfP BqP g k:=fun _=>rfl;obtain⟨lg,Q⟩:∃lg:Nat->Bool,(fun k=>yen g (cfP BqP g k))=lg:=⟨_,rfl⟩;have R:∀k,yen g (cfP BqP g k)=lg k:=fun k=>by rw[<-Q]
 simp only[a4]at T;simp only[R]at F;rw[Q]at p o u t;rw[hN]at p o u t;obtain⟨N,M⟩:∃N,ybl (tabP BqP g)=N:=⟨_,rfl⟩;rw[M]at T p o u t C a6;obtain⟨E,Y⟩:∃E:Nat->SV,(fun k=>SV.i .u32 ((spcP (fun _=>true) BqP g).en k:Nat))=E:=⟨_,rfl⟩;obtain⟨A,W⟩:∃A:Nat->SV,(fun k=>ybk ((spcP (fun _=>true) BqP g).arcs k))=A:=⟨_,rfl⟩;have a1:spcC (spcP (fun _=>true) BqP g)=[.sl 1 N fun k=>[E k],.sl 1 N fun k=>[A k]]:=by rw[<-M,<-Y,<-W];rfl
 rw[a1]at X p o u t;simp only[grV,yfu,yba]at X T F p o u t K;simp only[ybj,c6_2,grV,clash,go_sem,zA,zB,zC];refine a2.use ?_;simp only[go_sem];refine a0.use ?_;simp only[ybj,c6_3,yfu,clash,go_sem,zA,zB,zC];refine K.use ?_;simp only[ybj,c6_4,ycfu,clash,go_sem,zA,zB,zD,zC];refine X.use ?_;simp only[go_sem,zA,zB]
 repeat refine ybc ?_
 have d0:((N:Int)==0)=false:=by rw[beq_eq_false_iff_ne];omega
 simp only[c6_5,c6_7,c6_8,d0,zL,clash,go_sem,zA,zB]
 let d:Own:=[(6,.one (some ⟨41,true,2,1,fun _=>[.sl 1 N fun k=>[E k],.sl 1 N fun k=>[A k]]⟩)),(5,.one (some ⟨36,true,5,1,fun _=>[.i .i64 3,.b false,.b true,.i .i64 (eccP g 0+1),.i .i64 (-1)]⟩)),
  (4,.one (some ⟨32,true,3,1,fun _=>[.a (.string BqP.raw.name),.ex (Lies BqB Bqv) (yfk BqP.raw.vars),.ex (Lies BqC Bqr) (ydn BqP.raw.rules)]⟩)),(3,.one (some ⟨27,true,2,1,fun _=>[ybb g.ids,yj g.ports]⟩))]
 let l:List (Nat×SV):=[(6,.pt (6,0) 0 0),(5,.pt (5,0) 0 0),(4,.pt (4,0) 0 0),(3,.pt (3,0) 0 0)]
 obtain⟨U,v,D⟩:∃U:Nat->SS,(∀k,k<N->U k=⟨(9,.i .i64 k)::(8,.os (70,0) 0 k true)::l,(70,.one (some ⟨4,false,1,k,fun i=>[.b (lg i)]⟩))::d⟩)/\U N=⟨(9,.i .i64 N)::(8,.sl 1 N fun i=>[.b (lg i)])::l,d⟩ :=
  ⟨fun k=>if k<N then⟨(9,.i .i64 k)::(8,.os (70,0) 0 k true)::l,(70,.one (some ⟨4,false,1,k,fun i=>[.b (lg i)]⟩))::d⟩else⟨(9,.i .i64 N)::(8,.sl 1 N fun i=>[.b (lg i)])::l,d⟩,fun k hk=>if_pos hk,if_neg (Nat.lt_irrefl _)⟩
 refine ybd (σ:=Nat) U (fun k=>k<=N) (fun k=>N-k) 0 (zG _) ?_ ?_
 .rw[v 0 C];refine ybw [] [70] [] ?_;simp only[l,d,wk,go_sem,zA,zC,zF];exact⟨(70,0),rfl,rfl,rfl⟩
 .intro k hk
  by_cases z:k<N
  .have d1:=dec_lt z;have a3:=T k z;have Z:=F k;rw[v k z];simp only[c6_9,ydpt,l,d,d1,clash,go_sem,zA,zB];refine a3.use ?_;simp only[ybj,yduy,ydpu,splice,clash,zL,go_sem,zA,zB,zC];refine Z.use ?_;simp only[ydth,clash,go_sem,zA,zB,zD]
   repeat refine ybc ?_
   refine yh (k+1) z (by omega) ?_
   have H:∀i,i<k+1->(if i<k then[SV.b (lg i)]else zBH 1 (zBI ((i-k)*1) [SV.b (lg k)]))=[SV.b (lg i)]:=fun i I=>by
    by_cases q:i<k
    .rw[if_pos q]
    .obtain rfl:i=k:=by omega
     rw[if_neg q,zZ];rfl
   by_cases S:k+1<N
   .rw[v (k+1) S];refine ybw [(70,fun i=>(65,i))] [] [] ?_;simp only[l,d,wk,go_sem,zA,zC];exact⟨by omega,fun i I=>ycbe (H i I)⟩
   .obtain rfl:k+1=N:=by omega
    rw[D];refine ybw [] [] [(65,0)] ?_;simp only[l,d,wk,go_sem,zA,zD,zC];exact⟨fun i I=>by rw[H i I];rfl,by omega,ydu fun i I=>by rw[H i I];exact⟨⟨Sim.refl _,trivial⟩,rfl⟩⟩
  .obtain rfl:k=N:=by omega
   rw[D];simp only[c6_9,ydpg,l,d,zH,clash,go_sem,zA,zB];refine p.use ?_;simp only[ybj,ydof,clash,go_sem,zA,zB];refine o.use ?_;simp only[ydnc,ydzl,clash,bne_self_eq_false,go_sem,zA,zB];refine ybd (σ:=Nat) (fun j=>⟨(16,.i .i64 j)::(12,.sl 1 k fun _=>[.b false])::(8,.sl 1 k fun i=>[.b (lg i)])::l,d⟩) (fun j=>j<=k) (fun j=>k-j) 0 (zG _) ?_ ?_
   .refine yu ?_;simp only[l,d,wk,go_sem,zA,zC]
   .intro j hj
    by_cases B:j<k
    .have d2:=dec_lt B;simp only[ydkb,ydnp,ydyz,l,d,d2,clash,go_sem,zA,zB]
     repeat refine ybc ?_
     refine yh (j+1) B (by omega) ?_
     refine yu ?_;simp only[wk,go_sem,zA,zC];omega
    .obtain rfl:j=k:=by omega
     simp only[ydkb,ydrq,l,d,zH,clash,go_sem,zA,zB];refine u.found (V:=fun f=>.tp [.sl 1 j fun q=>[.i .i64 (f q:Nat)],.i .i64 0]) (fun r f h=>h.1) fun r f h=>?_;obtain⟨-,hf⟩:=h;simp only[ybj,ydzk,clash,go_sem,zA,zB];refine t.found (V:=fun f=>.tp [.sl 1 j fun q=>[.i .i64 (f q:Nat)],.i .i64 0]) (fun r f h=>h.1) fun r m h=>?_;obtain⟨-,hm,b0⟩:=h;simp only[ydqu,ydwn,clash,bne_self_eq_false,go_sem,zA,zB]
     refine ybd (σ:=Nat) (fun q=>⟨(21,.i .i64 q)::(19,.sl 1 j fun q=>[.i .i64 (m q:Nat)])::(17,.sl 1 j fun q=>[.i .i64 (f q:Nat)])::l,d⟩) (fun q=>q<=j) (fun q=>j-q) 0 (zG _) ?_ ?_
     .refine yu ?_;simp only[l,d,wk,go_sem,zA,zC]
     .intro q hq
      by_cases n:q<j
      .have d3:=dec_lt n;have r1:=O q (f q) (hf q n);have m1:=L q (m q) (hm q n);have r2:decide (((f q:Nat):Int)>(eccP g 0+1))=false:=decide_eq_false (by omega)
       simp only[ydke,ydmv,l,d,d3,r2,ge_iff_le,Int.reduceLE,zAU,clash,go_sem,zA,zB,zD]
       repeat refine ybc ?_
       simp only[clash,go_sem,zA,zB]
       repeat refine ybc ?_
       refine yh (q+1) n (by omega) ?_
       refine yu ?_;simp only[wk,go_sem,zA,zC];omega
      .obtain rfl:q=j:=by omega
       have hK:=ybll;simp only[ydke,ydui,l,d,zH,clash,go_sem,zA,zB];refine hK.use ?_;simp only[ybj,clash,go_sem,zB];exact Sim.refl _
end Sh
end
end Go.Proofs.YthclbjjgfcgbgaaGreatDoor
