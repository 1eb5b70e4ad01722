/- Joined. -/
import Derived.Test.YthclbjjgfcgbgaaGreatDoorPkCn9
set_option linter.unusedSimpArgs false
set_option linter.unusedVariables false
set_option maxRecDepth 8000
open Nat renaming reduceEqDiff->zA,reduceAdd->zB,reduceLT->zC,reduceLeDiff->zD,zero_le->zH,reduceBEq->zQ,mul_comm->zZ,le_of_ble_eq_true->zAB,sub_self->zAD,le_mul_of_pos_left->zAE,le_trans->zAF,mul_assoc->zAI,reduceMul->zAJ,mul_le_mul_left->zAL,le_refl->zAP,mod_eq_of_lt->zAR,le_mul_of_pos_right->zAW,mul_le_mul_right->zBA,mul_one->zBF,div_eq_of_lt->zBI,lt_or_ge->zBJ,sub_zero->zBM,not_lt_zero->zBP,div_div_eq_div_mul->zBQ,testBit_lt_two_pow->zBR,ble_eq_true_of_le->zBT,pow_le_pow_right->zBU,succ_mul->zCA,lt_of_lt_of_le->zCF,blt->zCH,add_mul->zCM,mod_lt->zCR,mul_add_div->zCW,two_pow_pos->zCX,div_le_self->zCY,add_assoc->zDA,reduceSub->zDB,zero_add->zDD,zero_mul->zDE,mul_pos->zDJ,mod_one->zDK,mod_mul->zDL,ble->zDN
open Go.Proofs.Tryz renaming prog->zF,func133->zDG,func134->zDH
open List renaming mem_cons_self->zG,length_append->zI,getD->zK,mem_cons_of_mem->zL,range->zO,take_succ_eq_append_getElem->zS,getElem_mem->zT,getElem?_append_left->zW,getElem?_eq_getElem->zX,take_length->zAA,filter_append->zAG,take_append_drop->zAH,not_mem_nil->zAK,append_nil->zAN,getElem_of_mem->zAT,range_succ->zAV,filter_cons->zAX,drop_length->zAY,length_filter_le->zAZ,map_append->zBB,length_map->zBC,take_zero->zBE,countP_cons->zBK,pairwise_singleton->zBN,mem_filter->zBO,mem_range->zBS,mem_of_mem_drop->zBX,mem_of_mem_take->zBY,append_toArray->zBZ,map_nil->zCC,take->zCD,drop->zCE,pairwise_map->zCI,count_append->zCJ,size_toArray->zCK,push_toArray->zCL,nodup_range->zCN,length_cons->zCO,cons_append->zCP,filter_nil->zCS,length_nil->zCT,nil_append->zCU,headD_cons->zCV,elem->zDO
open Int renaming lt_irrefl->zJ,natCast_mul->zV,reduceBNe->zY,reduceToNat->zAC,toNat_natCast->zAQ,add_mul->zAS,natCast_add->zAU,mul_le_mul_of_nonneg_right->zBD,natCast_zero->zBL,sub_self->zCB,mul_assoc->zCZ,reduceNeg->zDC,mul_comm->zDF,reduceGE->zDI,sub_mul->zDM
open Classical renaming byContradiction->zM
open Bool renaming and_eq_true->zN,false_eq_true->zAM,or_eq_true->zAO,not_eq_true'->zBH,false_ne_true->zCG
open Go.Lib renaming hid->zU
open And renaming intro->zBG
open Array renaming replicate_succ->zBV,replicate_zero->zBW
open Option renaming getD_some->zCQ
open Go
namespace Go.Proofs.YthclbjjgfcgbgaaGreatDoor
section
def szP(b:Int×Int):Nat:=(b.2-b.1+1).toNat
def ybs:List (Int×Int)->Nat
 |[]=>1
 |b::a=>szP b*ybs a
def ybn:List (List (Int×Int))->Nat
 |[]=>1
 |r::a=>ybs r*ybn a
def unR:List (Int×Int)->Nat->List Int×Nat
 |[],k=>([],k)
 |b::a,k=>((b.1+(((unR a k).2%szP b:Nat):Int))::(unR a k).1,(unR a k).2/szP b)
def unT:List (List (Int×Int))->Nat->Conf×Nat
 |[],k=>([],k)
 |r::a,k=>((unR r (unT a k).2).1::(unT a k).1,(unR r (unT a k).2).2)
def rkR:List (Int×Int)->List Int->Int
 |b::a,x::c=>(x-b.1)*ybs a+rkR a c
 |_,_=>0
def rkT:List (List (Int×Int))->Conf->Int
 |r::a,c::b=>rkR r c*ybn a+rkT a b
 |_,_=>0
def inR:List (Int×Int)->List Int->Prop
 |[],[]=>True
 |b::a,x::c=>(b.1<=x/\x<=b.2)/\inR a c
 |_,_=>False
def inT:List (List (Int×Int))->Conf->Prop
 |[],[]=>True
 |r::b,c::a=>inR r c/\inT b a
 |_,_=>False
def bdR(bs:List (Int×Int)):Prop:=∀b∈bs,b.1<=b.2
def bdT(rs:List (List (Int×Int))):Prop:=∀r∈rs,bdR r
theorem yqn{b:Int×Int}(h:b.1<=b.2):0<szP b/\(szP b:Int)=b.2-b.1+1:=by unfold szP;omega
theorem ynd:∀{bs:List (Int×Int)},bdR bs->0<ybs bs
 |[],_=>by decide
 |b::bs,h=>zDJ (yqn (h b zG)).1 (ynd fun x a=>h x (zL _ a))
theorem ysj:∀{rs:List (List (Int×Int))},bdT rs->0<ybn rs
 |[],_=>by decide
 |r::rs,h=>zDJ (ynd (h r zG)) (ysj fun x a=>h x (zL _ a))
theorem ybmx:∀(bs:List (Int×Int)) (k:Nat),(unR bs k).2=k/ybs bs
 |[],k=>by simp[unR,ybs]
 | b::bs,k=>by
   show(unR bs k).2/szP b=k/(szP b*ybs bs);rw[ybmx bs k,zBQ,zZ]
theorem ychj:∀(rs:List (List (Int×Int))) (k:Nat),(unT rs k).2=k/ybn rs
 |[],k=>by simp[unT,ybn]
 | r::rs,k=>by
   show(unR r (unT rs k).2).2=k/(ybs r*ybn rs);rw[ybmx,ychj rs k,zBQ,zZ]
theorem ydem:∀(bs:List (Int×Int)) (k:Nat),rkR bs (unR bs k).1=((k%ybs bs:Nat):Int)
 |[],k=>by simp[rkR,ybs,zDK]
 | b::bs,k=>by
   show(b.1+(((unR bs k).2%szP b:Nat):Int)-b.1)*(ybs bs:Int)+rkR bs (unR bs k).1=((k%(szP b*ybs bs):Nat):Int);rw[ydem bs k,ybmx,zZ (szP b),zDL,zZ (ybs bs) (k/ybs bs%szP b),zAU,zV];rw[show b.1+((k/ybs bs%szP b:Nat):Int)-b.1=((k/ybs bs%szP b:Nat):Int)by omega]
   omega
theorem ydbu:∀{bs:List (Int×Int)}(k:Nat),bdR bs->inR bs (unR bs k).1
 |[],_,_=>trivial
 | b::bs,k,h=>by
   have a:=yqn (h b zG);have d:=zCR (unR bs k).2 a.1;exact⟨⟨by omega,by omega⟩,ydbu k fun x c=>h x (zL _ c)⟩
theorem ybbb:∀{rs:List (List (Int×Int))}(k:Nat),bdT rs->inT rs (unT rs k).1
 |[],_,_=>trivial
 |r::rs,k,h=>⟨ydbu _ (h r zG),ybbb k fun x a=>h x (zL _ a)⟩
theorem ybty:∀(rs:List (List (Int×Int))) (k:Nat),rkT rs (unT rs k).1=((k%ybn rs:Nat):Int)
 |[],k=>by simp[rkT,ybn,zDK]
 | r::rs,k=>by
   show rkR r (unR r (unT rs k).2).1*(ybn rs:Int)+rkT rs (unT rs k).1=((k%(ybs r*ybn rs):Nat):Int);rw[ydem,ybty rs k,ychj,zZ (ybs r),zDL,zZ (ybn rs) (k/ybn rs%ybs r),zAU,zV];omega
theorem ydax:∀{bs:List (Int×Int)}{xs:List Int},inR bs xs->0<=rkR bs xs/\rkR bs xs<ybs bs/\∀m:Nat,unR bs ((rkR bs xs).toNat+m*ybs bs)=(xs,m)
 |[],[],_=>⟨by simp[rkR],by simp[rkR,ybs],fun m=>by simp[rkR,unR,ybs]⟩
 |[],_::_,h=>h.elim
 |_::_,[],h=>h.elim
 | b :: bs,x::xs,⟨⟨p,q⟩,j⟩=>by
   obtain⟨s,t,l⟩:=ydax j;obtain⟨o,u⟩:=yqn (show b.1<=b.2 by omega)
   obtain⟨d,c⟩:∃d:Nat,x-b.1=d:=⟨(x-b.1).toNat,by omega⟩
   obtain⟨r,f⟩:∃r:Nat,rkR bs xs=r:=⟨(rkR bs xs).toNat,by omega⟩
   have a:d+1<=szP b:=by omega
   have e:rkR (b::bs) (x::xs)=((d*ybs bs+r:Nat):Int):=by
    show(x-b.1)*(ybs bs:Int)+rkR bs xs=_;rw[c,f,zAU,zV]
   have k:d*ybs bs+r<szP b*ybs bs:=by
    have:=zBA (ybs bs) a;rw[zCA]at this;omega
   rw[e];refine⟨by omega,by show((d*ybs bs+r:Nat):Int)<((szP b*ybs bs:Nat):Int);omega,fun m=>?_⟩
   have n:=l (d+m*szP b)
   have g:((d*ybs bs+r:Nat):Int).toNat+m*(szP b*ybs bs)=(rkR bs xs).toNat+(d+m*szP b)*ybs bs:=by
    rw[f,zAQ,zAQ,zCM,zAI];omega
   have i:unR bs (((d*ybs bs+r:Nat):Int).toNat+m*ybs (b::bs))=(xs,d+m*szP b):=by
    rw[<-n,<-g];rfl
   show((b.1+(((unR bs _).2%szP b:Nat):Int))::(unR bs _).1,(unR bs _).2/szP b)=_;rw[i];simp only;rw[Nat.add_mul_mod_self_right,zAR (by omega),Nat.add_mul_div_right _ _ o,zBI (by omega),<-c]
   simp only[zDD,Prod.mk.injEq,List.cons.injEq,and_true];omega
theorem ybbe:∀{rs:List (List (Int×Int))}{c:Conf},inT rs c->0<=rkT rs c/\rkT rs c<ybn rs/\∀m:Nat,unT rs ((rkT rs c).toNat+m*ybn rs)=(c,m)
 |[],[],_=>⟨by simp[rkT],by simp[rkT,ybn],fun m=>by simp[rkT,unT,ybn]⟩
 |[],_::_,h=>h.elim
 |_::_,[],h=>h.elim
 | b :: a,x::f,⟨o,p⟩=>by
   obtain⟨v,w,s⟩:=ybbe p;obtain⟨y,z,u⟩:=ydax o;obtain⟨d,i⟩:∃d:Nat,rkR b x=d:=⟨(rkR b x).toNat,by omega⟩
   obtain⟨r,j⟩:∃r:Nat,rkT a f=r:=⟨(rkT a f).toNat,by omega⟩
   have g:d+1<=ybs b:=by omega
   have e:rkT (b::a) (x::f)=((d*ybn a+r:Nat):Int):=by
    show rkR b x*(ybn a:Int)+rkT a f=_;rw[i,j,zAU,zV]
   have q:d*ybn a+r<ybs b*ybn a:=by
    have:=zBA (ybn a) g;rw[zCA]at this;omega
   rw[e];refine⟨by omega,by show((d*ybn a+r:Nat):Int)<((ybs b*ybn a:Nat):Int);omega,fun m=>?_⟩
   have t:=s (d+m*ybs b)
   have l:((d*ybn a+r:Nat):Int).toNat+m*(ybs b*ybn a)=(rkT a f).toNat+(d+m*ybs b)*ybn a:=by
    rw[j,zAQ,zAQ,zCM,zAI];omega
   have n:unT a (((d*ybn a+r:Nat):Int).toNat+m*ybn (b::a))=(f,d+m*ybs b):=by
    rw[<-t,<-l];rfl
   have k:=u m;rw[i,zAQ]at k;show((unR b (unT a _).2).1::(unT a _).1,(unR b (unT a _).2).2)=_;rw[n];simp only;rw[k]
theorem ybtm{rs:List (List (Int×Int))}{c:Conf}(h:inT rs c):(unT rs (rkT rs c).toNat).1=c:=by
 have:=(ybbe h).2.2 0;rw[zDE,Nat.add_zero]at this;rw[this]
theorem ydth{rs:List (List (Int×Int))}{c d:Conf}(a:inT rs c)(b:inT rs d)(e:rkT rs c=rkT rs d):c=d:=by
 rw[<-ybtm a,e,ybtm b]
end
section
def advR:List (Int×Int)->List Int->List Int×Bool
 |b::a,x::c=>if (advR a c).2 then(x::(advR a c).1,true)else if x<b.2 then((x+1)::(advR a c).1,true)else(b.1::(advR a c).1,false)
 |_,_=>([],false)
def advT:List (List (Int×Int))->Conf->Conf×Bool
 |r::b,c::a=>if (advT b a).2 then(c::(advT b a).1,true)else((advR r c).1::(advT b a).1,(advR r c).2)
 |_,_=>([],false)
theorem ycek:∀{bs:List (Int×Int)}{xs:List Int},inR bs xs->inR bs (advR bs xs).1/\((advR bs xs).2=true->rkR bs (advR bs xs).1=rkR bs xs+1)/\((advR bs xs).2=false->rkR bs (advR bs xs).1=0/\rkR bs xs+1=ybs bs)
 |[],[],_=>⟨trivial,(fun h=>by cases h),fun _=>⟨rfl,rfl⟩⟩
 |[],_::_,h=>h.elim
 |_::_,[],h=>h.elim
 | b :: bs,x::xs,⟨⟨g,i⟩,j⟩=>by
   obtain⟨a,k,l⟩:=ycek j;obtain⟨o,m⟩:=yqn (show b.1<=b.2 by omega)
   unfold advR;cases d:(advR bs xs).2 with
   | true =>
     have e:=k d;simp only[if_true];refine⟨⟨⟨g,i⟩,a⟩,fun _=>?_,fun h=>by cases h⟩
     show(x-b.1)*(ybs bs:Int)+rkR bs (advR bs xs).1=(x-b.1)*(ybs bs:Int)+rkR bs xs+1;rw[e];omega
   | false =>
     obtain⟨c,n⟩:=l d;simp only[zAM,if_false]
     by_cases f:x<b.2
     .rw[if_pos f];refine⟨⟨⟨by omega,by omega⟩,a⟩,fun _=>?_,fun h=>by cases h⟩
      show(x+1-b.1)*(ybs bs:Int)+rkR bs (advR bs xs).1=(x-b.1)*(ybs bs:Int)+rkR bs xs+1;rw[c,show x+1-b.1=(x-b.1)+1 by omega,zAS]
      omega
     .rw[if_neg f];refine⟨⟨⟨by omega,by omega⟩,a⟩,(fun h=>by cases h),fun _=>⟨?_,?_⟩⟩
      .show(b.1-b.1)*(ybs bs:Int)+rkR bs (advR bs xs).1=0;rw[c,zCB];simp
      .show(x-b.1)*(ybs bs:Int)+rkR bs xs+1=((szP b*ybs bs:Nat):Int);rw[zV,m,show b.2-b.1+1=(x-b.1)+1 by omega,zAS]
       omega
theorem ycmp:∀{rs:List (List (Int×Int))}{c:Conf},inT rs c->inT rs (advT rs c).1/\((advT rs c).2=true->rkT rs (advT rs c).1=rkT rs c+1)/\((advT rs c).2=false->rkT rs (advT rs c).1=0/\rkT rs c+1=ybn rs)
 |[],[],_=>⟨trivial,(fun h=>by cases h),fun _=>⟨rfl,rfl⟩⟩
 |[],_::_,h=>h.elim
 |_::_,[],h=>h.elim
 | b :: a,x::d,⟨g,l⟩=>by
   obtain⟨j,m,n⟩:=ycmp l;obtain⟨o,p,k⟩:=ycek g;unfold advT;cases i:(advT a d).2 with
   | true =>
     have e:=m i;simp only[if_true];refine⟨⟨g,j⟩,fun _=>?_,fun h=>by cases h⟩
     show rkR b x*(ybn a:Int)+rkT a (advT a d).1=rkR b x*(ybn a:Int)+rkT a d+1;rw[e];omega
   | false =>
     obtain⟨f,q⟩:=n i;simp only[zAM,if_false];refine⟨⟨o,j⟩,fun h=>?_,fun h=>⟨?_,?_⟩⟩
     .show rkR b (advR b x).1*(ybn a:Int)+rkT a (advT a d).1=rkR b x*(ybn a:Int)+rkT a d+1;rw[f,p h,zAS];omega
     .show rkR b (advR b x).1*(ybn a:Int)+rkT a (advT a d).1=0;rw[f,(k h).1];simp
     .show rkR b x*(ybn a:Int)+rkT a d+1=((ybs b*ybn a:Nat):Int);rw[zV,<-(k h).2,zAS];omega
theorem ydsc{rs:List (List (Int×Int))}{k:Nat}(a:bdT rs)(hk:k+1<ybn rs):(advT rs (unT rs k).1).1=(unT rs (k+1)).1:=by
 have g:=ybbb k a;obtain⟨b,c,d⟩:=ycmp g;have e:=ybty rs k;rw[zAR (by omega)]at e
 have h:(advT rs (unT rs k).1).2=true:=by
  cases f:(advT rs (unT rs k).1).2 with
  |true=>rfl
  |false=>have:=(d f).2;omega
 refine ydth b (ybbb _ a) ?_;rw[c h,e,ybty,zAR hk];omega
def yry(rs:List (List (Int×Int))):Conf:=rs.map (·.map (·.1))
theorem ybib:∀{bs:List (Int×Int)},bdR bs->inR bs (bs.map (·.1))/\rkR bs (bs.map (·.1))=0
 |[],_=>⟨trivial,rfl⟩
 | b::bs,h=>by
   obtain⟨c,d⟩:=ybib (bs:=bs) fun x a=>h x (zL _ a);refine⟨⟨⟨Int.le_refl _,h b zG⟩,c⟩,?_⟩;show(b.1-b.1)*(ybs bs:Int)+rkR bs (bs.map (·.1))=0;rw[d,zCB];simp
theorem ybhv:∀{rs:List (List (Int×Int))},bdT rs->inT rs (yry rs)/\rkT rs (yry rs)=0
 |[],_=>⟨trivial,rfl⟩
 | r::rs,h=>by
   obtain⟨b,c⟩:=ybhv (rs:=rs) fun x a=>h x (zL _ a);obtain⟨d,e⟩:=ybib (h r zG);refine⟨⟨d,b⟩,?_⟩;show rkR r (r.map (·.1))*(ybn rs:Int)+rkT rs (yry rs)=0;rw[c,e];simp
theorem ychh{rs:List (List (Int×Int))}(h:bdT rs):(unT rs 0).1=yry rs:=by
 obtain⟨a,b⟩:=ybhv h;have:=ybtm a;rw[b]at this;exact this
def plR:List (Int×Int)->Nat->List Int×Nat
 |[],p=>([],p)
 |b::a,p=>(((plR a p).2:Int)::(plR a p).1,(plR a p).2*szP b)
def plT:List (List (Int×Int))->Nat->List (List Int)×Nat
 |[],p=>([],p)
 |r::a,p=>((plR r (plT a p).2).1::(plT a p).1,(plR r (plT a p).2).2)
theorem ytu:∀(bs:List (Int×Int)) (p:Nat),(plR bs p).2=p*ybs bs
 |[],p=>(zBF p).symm
 | b::bs,p=>by
   show(plR bs p).2*szP b=p*(szP b*ybs bs);rw[ytu bs p,zAI,zZ (szP b)]
theorem ybgj:∀(rs:List (List (Int×Int))) (p:Nat),(plT rs p).2=p*ybn rs
 |[],p=>(zBF p).symm
 | r::rs,p=>by
   show(plR r (plT rs p).2).2=p*(ybs r*ybn rs);rw[ytu,ybgj rs p,zAI,zZ (ybs r)]
theorem ybmf:∀(bs:List (Int×Int)) (p:Nat),(plR bs p).1.length=bs.length
 |[],_=>rfl
 |b::bs,p=>by show(plR bs p).1.length+1=_;rw[ybmf bs p];rfl
theorem ybfe:∀(rs:List (List (Int×Int))) (p:Nat),(plT rs p).1.length=rs.length
 |[],_=>rfl
 |r::rs,p=>by show(plT rs p).1.length+1=_;rw[ybfe rs p];rfl
def grR:List Int->List Int->List Int->Int
 |y::c,x::b,q::a=>(y-x)*q+grR c b a
 |_,_,_=>0
def grT:Conf->Conf->List (List Int)->Int
 |d::b,c::a,q::e=>grR d c q+grT b a e
 |_,_,_=>0
theorem ydia:∀{bs:List (Int×Int)}{xs ys:List Int}(p:Nat),inR bs xs->inR bs ys->grR ys xs (plR bs p).1=(rkR bs ys-rkR bs xs)*(p:Int)
 |[],[],[],p,_,_=>by simp[grR,rkR]
 |[],_::_,_,_,h,_=>h.elim
 |[],[],_::_,_,_,h=>h.elim
 |_::_,[],_,_,h,_=>h.elim
 |_::_,_::_,[],_,_,h=>h.elim
 | b::bs,x::xs,y::ys,p,h,a=>by
   show(y-x)*((plR bs p).2:Int)+grR ys xs (plR bs p).1=((y-b.1)*(ybs bs:Int)+rkR bs ys-((x-b.1)*(ybs bs:Int)+rkR bs xs))*(p:Int);rw[ydia p h.2 a.2,ytu,zV,show((y-b.1)*(ybs bs:Int)+rkR bs ys-((x-b.1)*(ybs bs:Int)+rkR bs xs))=(y-x)*(ybs bs:Int)+(rkR bs ys-rkR bs xs)by simp only[zDM];omega,zAS,zDF (p:Int),zCZ]
theorem ydfw:∀{rs:List (List (Int×Int))}{c d:Conf}(p:Nat),inT rs c->inT rs d->grT d c (plT rs p).1=(rkT rs d-rkT rs c)*(p:Int)
 |[],[],[],p,_,_=>by simp[grT,rkT]
 |[],_::_,_,_,h,_=>h.elim
 |[],[],_::_,_,_,h=>h.elim
 |_::_,[],_,_,h,_=>h.elim
 |_::_,_::_,[],_,_,h=>h.elim
 | b::a,x::e,y::f,p,h,g=>by
   show grR y x (plR b (plT a p).2).1+grT f e (plT a p).1=(rkR b y*(ybn a:Int)+rkT a f-(rkR b x*(ybn a:Int)+rkT a e))*(p:Int);rw[ydia _ h.1 g.1,ydfw p h.2 g.2,ybgj,zV,show(rkR b y*(ybn a:Int)+rkT a f-(rkR b x*(ybn a:Int)+rkT a e))=(rkR b y-rkR b x)*(ybn a:Int)+(rkT a f-rkT a e)by rw[zDM];omega,zAS,zDF (p:Int),zCZ]
def sumI(f:Nat->Int):Nat->Int
 |0=>0
 |n+1=>sumI f n+f n
theorem yoj(f:Nat->Int):∀n,sumI f (n+1)=f 0+sumI (fun i=>f (i+1)) n
 |0=>by simp[sumI]
 | n+1=>by
   show sumI f (n+1)+f (n+1)=f 0+(sumI (fun i=>f (i+1)) n+f (n+1));rw[yoj f n];omega
theorem ybca{f g:Nat->Int}:∀{n:Nat},(∀i,i<n->f i=g i)->sumI f n=sumI g n
 |0,_=>rfl
 | n+1,h=>by
   show sumI f n+f n=sumI g n+g n;rw[ybca fun i a=>h i (by omega),h n (by omega)]
theorem ychm:∀{ys xs a:List Int},ys.length=xs.length->a.length=xs.length->grR ys xs a=sumI (fun i=>(ys.getD i 0-xs.getD i 0)*a.getD i 0) xs.length
 |[],[],[],_,_=>rfl
 | y::ys,x::xs,q::a,b,c=>by
   show(y-x)*q+grR ys xs a=sumI _ (xs.length+1);rw[yoj,ychm (by simpa using b) (by simpa using c)]
   rfl
theorem ycku:∀{d c:Conf}{a:List (List Int)},d.length=c.length->a.length=c.length->grT d c a=sumI (fun i=>grR (d.getD i []) (c.getD i []) (a.getD i [])) c.length
 |[],[],[],_,_=>rfl
 | y::g,x::b,q::a,e,f=>by
   show grR y x q+grT g b a=sumI _ (b.length+1);rw[yoj,ycku (by simpa using e) (by simpa using f)]
   rfl
end
section
structure Loop(S:Sys)(V:Conf->Prop)(c:Nat->Conf)(s:Nat->Nat)(m:Nat):Prop where
 pos:0<m
 per:∀i,c (i+m)=c i
 val:∀i,V (c i)
 ne:∀i,s i≠0
 sub:∀i,subB (s i) (S.en (c i))
 nx:∀i,c (i+1)=S.mv (c i) (s i)
theorem switch{p:Nat->Prop}{a:Nat}:∀d,¬p a->p (a+d)->∃j,¬p j/\p (j+1)
 |0,b,e=>absurd e b
 | d+1,b,e=>by
   by_cases q:p (a+d)
   .exact switch d b q
   .exact⟨a+d,q,e⟩
theorem exists_least{p:Nat->Prop}(h:∃x,p x):∃x,p x/\∀y,p y->x<=y:=by
 obtain⟨x,d⟩:=h
 induction x using Nat.strongRecOn with
 | ind x e =>
   by_cases q:∃y,p y/\y<x
   .obtain⟨y,b,a⟩:=q;exact e y a b
   .exact⟨x,d,fun y b=>Nat.le_of_not_lt fun a=>q ⟨y,b,a⟩⟩
section
variable {S:Sys}{V:Conf->Prop}{c:Nat->Conf}{s:Nat->Nat}{m:Nat}
end
theorem ycrd {n:Nat}(f F:Nat->Nat->Int) {m:Nat}(hm:0<m) (C:∀i v,f (i+m) v=f i v) (l:∀t v,v<n->0<=f t v) (row:∀t v,v<n->f (t+1) v=F t v\/f (t+1) v=f t v)
 (O:∀t o v,v<n->(∀u,u<n->(f t u<F t v->f o u=f t u)/\(F t v<=f t u->F t v<=f o u))->F o v=F t v):∀v,v<n->∀t,f (t+1) v=f t v:=by
 classical
 have pers:∀v i k,f (i+k*m) v=f i v:=fun v i k=>by
  induction k with
  |zero=>rw[zDE];rfl
  |succ k M=>rw[zCA,<-zDA,C,M]
 have later:∀i t,∃j,t<=j/\∀v,f j v=f i v:=fun i t=>⟨i+t*m,zAF (zAW t hm) (Nat.le_add_left _ _),fun v=>pers v i t⟩;intro v1 D t1;refine zM fun J=>?_
 let I:Nat->Prop:=fun v=>v<n/\∃t,f (t+1) v≠f t v
 let P:Nat->Prop:=fun x=>∃v,I v/\∃i,f i v=(x:Int)
 have Q:∃x,P x:=⟨(f 0 v1).toNat,v1,⟨D,t1,J⟩,0,by have:=l 0 v1 D;omega⟩
 obtain⟨z,⟨v,⟨L,t0,K⟩,i,N⟩,hz⟩:=exists_least Q
 have g:∀u,I u->∀t,((z:Nat):Int)<=f t u:=fun u r t=>by
  have h0:=l t u r.1;have:=hz (f t u).toNat ⟨u,r,t,by omega⟩
  omega
 obtain⟨x,hx⟩:∃x:Int,(z:Int)=x:=⟨_,rfl⟩;rw[hx]at N g
 have E:∀u,u<n->¬I u->∀t o,f t u=f o u:=fun u r hn=>by
  have all:∀t,f t u=f 0 u:=fun t=>by
   induction t with
   |zero=>rfl
   | succ t M =>
     rw[<-M];exact zM fun q=>hn ⟨r,t,q⟩
  exact fun t o=>(all t).trans (all o).symm
 have B:∃a,f a v≠x:=by
  by_cases q:f t0 v=x
  .exact⟨t0+1,fun e=>K (e.trans q.symm)⟩
  .exact⟨t0,q⟩
 obtain⟨a,T⟩:=B;obtain⟨b,U,W⟩:=later i a;obtain⟨j,y,h⟩:=switch (p:=fun t=>f t v=x) (a:=a) (b-a) T (by show f (a+(b-a)) v=x;rw[show a+(b-a)=b by omega,W];exact N)
 have w:F j v=x:=by
  rcases row j v L with e|e
  .rw[<-e];exact h
  .rw[e]at h;exact absurd h y
 have R:∀t,F t v=x:=fun t=>by
  rw[O j t v L fun u r=>?_]
  .exact w
  .rw[w]
   by_cases q:I u
   .exact⟨fun Z=>absurd (g u q j) (by omega),fun _=>g u q t⟩
   .have e:=E u r q t j;exact⟨fun _=>e,fun Y=>by omega⟩
 obtain⟨d,X,G⟩:=later j (j+1);obtain⟨k,H,A⟩:=switch (p:=fun t=>¬f t v=x) (a:=j+1) (d-(j+1)) (fun q=>q h) (by show ¬f (j+1+(d-(j+1))) v=x;rw[show j+1+(d-(j+1))=d by omega,G];exact y)
 rcases row k v L with e|e
 .exact A (by rw[e];exact R k)
 .exact A (by rw[e];exact zM H)
end
section
theorem ydyq{N:Nat}{f:Nat->Nat}(h:∀i,f i<N):∃i m,0<m/\f (i+m)=f i:=by
 refine zM fun g=>?_;have d:∀i j,i<j->f i≠f j:=fun i j k e=>g ⟨i,j-i,by omega,by rw[show i+(j-i)=j by omega,e]⟩
 have l:((zO (N+1)).map f).Nodup:=by
  unfold List.Nodup;rw[zCI];exact List.pairwise_lt_range.imp fun {a b} c=>d a b c
 have:=ykh (l2:=zO N) l fun x n=>by
  obtain⟨i,_,rfl⟩:=List.mem_map.1 n;exact List.mem_range.2 (h i)
 simp at this;omega
structure Back(N:Nat)(arcs:Nat->List (Nat×Nat))(f:Nat->Nat)(m:Nat):Prop where
 pos:0<m
 per:∀i,f (i+m)=f i
 lt:∀i,f i<N
 arc:∀i,∃a∈arcs (f i),a.2=f (i+1)
theorem ycua{m t:Nat}(b:0<m):((t+1)%m=t%m+1)\/(t%m+1=m/\(t+1)%m=0):=by
 have c:=zCR t b;rcases zBJ (t%m+1) m with h|h
 .left
  rw[Nat.add_mod];rcases zBJ 1 m with a|a
  .rw[zAR a,zAR h]
  .omega
 .right
  refine⟨by omega,?_⟩
  have e:t+1=m*(t/m)+m:=by
   have:=Nat.div_add_mod t m;omega
  rw[e,Nat.mul_add_mod,Nat.mod_self]
theorem ydly {N:Nat}{b:Nat->List (Nat×Nat)}{set:Nat->Bool}{L:List Nat}(j:∀k,k<N->set k=true->k∈L)
 (o:∀k,k<N->set k=false->b k≠[]->(∀a∈b k,a.2∈L)->k∈L) (u:∀k,k<N->∀a∈b k,a.2<N) (s:∀k,k<N->set k=false->b k≠[])
 (d:∀f m,Back N b f m->False):∀k,k<N->k∈L:=by
 classical
 intro C z;refine zM fun q=>?_
 have step:∀k:Nat,∃v,(k<N/\¬k∈L)->(v<N/\¬v∈L)/\∃a∈b k,a.2=v:=fun k=>by
  by_cases hk:k<N/\¬k∈L
  .have n:set k=false:=by
    cases n:set k with
    |false=>rfl
    |true=>exact absurd (j k hk.1 n) hk.2
   obtain⟨a,c,r⟩:∃a∈b k,¬a.2∈L:=zM fun A =>
    hk.2 (o k hk.1 n (s k hk.1 n) fun a c=>zM fun r=>A ⟨a,c,r⟩)
   exact⟨a.2,fun _=>⟨⟨u k hk.1 a c,r⟩,a,c,rfl⟩⟩
  .exact⟨0,fun h=>absurd h hk⟩
 let l:Nat->Nat:=fun k=>(step k).choose
 have g:∀k,(k<N/\¬k∈L)->(l k<N/\¬l k∈L)/\∃a∈b k,a.2=l k:=fun k=>(step k).choose_spec
 let f:Nat->Nat:=fun i=>Nat.rec C (fun _ k=>l k) i
 have f1:∀i,f (i+1)=l (f i):=fun i=>rfl
 have p:∀i,f i<N/\¬f i∈L:=fun i=>by
  induction i with
  |zero=>exact⟨z,q⟩
  |succ i B=>rw[f1];exact(g _ B).1
 obtain⟨i,m,w,e⟩:=ydyq fun i=>(p i).1;refine d (fun t=>f (i+t%m)) m ⟨w,fun t=>by simp,fun t=>(p _).1,fun t=>?_⟩
 obtain⟨a,c,x⟩:=(g _ (p (i+t%m))).2;refine⟨a,c,x.trans ?_⟩;rw[<-f1];rcases ycua (t:=t) w with h|⟨h,y⟩
 .rw[h];rfl
 .rw[y,show i+t%m+1=i+m by omega,e];rfl
theorem ydup{N:Nat}{L:List Nat}(h:∀k,k<N->k∈L):N<=L.length:=by
 have:=ykh (l1:=zO N) (l2:=L) zCN fun x a=>h x (List.mem_range.1 a)
 simpa using this
def yvv(l:List (Nat×Nat))(A:List Nat):Nat:=l.countP fun a=>A.contains a.2
theorem ycko{l:List (Nat×Nat)}{A:List Nat}:yvv l A=l.length↔∀a∈l,a.2∈A:=by
 unfold yvv;rw[List.countP_eq_length];simp
theorem ycah(l:List (Nat×Nat)):yvv l []=0:=by
 unfold yvv;rw[List.countP_eq_zero];simp
theorem ybwd{l:List (Nat×Nat)}{A:List Nat}{x:Nat}(d:x∉A):yvv l (A++[x])=yvv l A+l.countP fun a=>a.2==x:=by
 unfold yvv
 induction l with
 |nil=>rfl
 | cons a l e =>
   rw[zBK,zBK,zBK,e]
   by_cases b:a.2=x
   .have:A.contains a.2=false:=by rw[b];simpa using d
    have c:(A++[x]).contains a.2=true:=by simp[b]
    rw[this,c];simp[b];omega
   .have c:(A++[x]).contains a.2=A.contains a.2:=by
     simp[b]
    rw[c];simp[b];omega
end
section
theorem yqg{a:Type}{l:List a}{k:Nat}{d:a}(h:k<l.length):l.getD k d=l[k]:=by simp[zK,h]
structure Spc where
 N:Nat
 en:Nat->Nat
 arcs:Nat->List (Nat×Nat)
def ybqd(l:List (Nat×Nat))(i:Nat):Nat:=if i=0 then 0 else(l.getD (i-1) (0,0)).1
def sumA(S:Spc):Nat->Nat
 |0=>0
 |k+1=>sumA S k+(S.arcs k).length
structure Spc.ok(S:Spc):Prop where
 pos:0<S.N
 le:S.N<=32768
 lt:∀k,k<S.N->S.en k<2^24
 ne:∀k,k<S.N->(S.en k=0↔(S.arcs k).length=0)
 sub:∀k,k<S.N->∀i,i<(S.arcs k).length->((S.arcs k).getD i (0,0)).1<2^24/\difB ((S.arcs k).getD i (0,0)).1 (S.en k)=0
 asc:∀k,k<S.N->∀i,i<(S.arcs k).length->ybqd (S.arcs k) i<((S.arcs k).getD i (0,0)).1
 to:∀k,k<S.N->∀i,i<(S.arcs k).length->((S.arcs k).getD i (0,0)).2<S.N
 tot:sumA S S.N<=262144
theorem ynl(S:Spc):∀{n k:Nat},k<=n->sumA S k<=sumA S n
 |0,k,h=>by rw[Nat.le_zero.1 h];exact zAP _
 | n + 1,k,h=>by
   rcases zBJ k (n+1)with q|q
   .have:=ynl S (n:=n) (k:=k) (by omega)
    show _<=sumA S n+_;omega
   .rw[show k=n+1 by omega];exact zAP _
theorem Spc.ok.len{S:Spc}(h:S.ok){k:Nat}(hk:k<S.N):(S.arcs k).length<=262144:=by
 have a:=ynl S (n:=S.N) (k:=k+1) (by omega)
 have b:=h.tot;have:sumA S (k+1)=sumA S k+(S.arcs k).length:=rfl;omega
theorem Spc.ok.mem{S:Spc}(h:S.ok){k:Nat}(hk:k<S.N){a:Nat×Nat}(c:a∈S.arcs k):a.2<S.N:=by
 obtain⟨i,b,rfl⟩:=zAT c;have:=h.to k hk i b
 rwa [yqg b]at this
def ygt(S:Spc)(k i:Nat):List (Nat×Nat):=(zO k).flatMap (fun q=>(S.arcs q).map fun a=>(q,a.2))++((S.arcs k).take i).map fun a=>(k,a.2)
def yhm(S:Spc)(k i j:Nat):List Nat:=((ygt S k i).filter fun p=>p.2==j).map (·.1)
theorem yuh(S:Spc)(k:Nat):ygt S k (S.arcs k).length=ygt S (k+1) 0:=by
 unfold ygt;rw[zAA,zAV,List.flatMap_append];simp
theorem ybcb(S:Spc)(k j:Nat):yhm S k (S.arcs k).length j=yhm S (k+1) 0 j:=by unfold yhm;rw[yuh]
theorem ybda(S:Spc)(j:Nat):yhm S 0 0 j=[]:=rfl
theorem ybjj(S:Spc){k i:Nat}(a:i<(S.arcs k).length):ygt S k (i+1)=ygt S k i++[(k,((S.arcs k).getD i (0,0)).2)]:=by
 unfold ygt;rw[zS a,zBB,<-List.append_assoc,yqg a];rfl
theorem ybvu(S:Spc){k i:Nat}(a:i<(S.arcs k).length)(j:Nat):yhm S k (i+1) j=if j=((S.arcs k).getD i (0,0)).2 then yhm S k i j++[k]else yhm S k i j:=by
 unfold yhm;rw[ybjj S a,zAG,zBB]
 by_cases q:j=((S.arcs k).getD i (0,0)).2
 .rw[if_pos q];have:((k,((S.arcs k).getD i (0,0)).2).2==j)=true:=by rw[q];exact beq_self_eq_true _
  rw[zAX,this];rfl
 .rw[if_neg q];have:((k,((S.arcs k).getD i (0,0)).2).2==j)=false:=by rw[beq_eq_false_iff_ne];exact Ne.symm q
  rw[zAX,this];simp
theorem ypq(S:Spc):∀k,(ygt S k 0).length=sumA S k
 |0=>rfl
 | k+1=>by
   rw[<-yuh];have a:=ypq S k;unfold ygt at a ⊢;simp only[zBE,zCC,zAN]at a;rw[zI,a,zAA,zBC];rfl
theorem yyk{S:Spc}(h:S.ok){k i:Nat}(hk:k<=S.N)(f:k<S.N->i<=(S.arcs k).length)(b:k=S.N->i=0)(j:Nat):(yhm S k i j).length<=262144:=by
 have c:(ygt S k i).length<=262144:=by
  rcases zBJ k S.N with q|q
  .have d:=ynl S (n:=S.N) (k:=k+1) (by omega)
   have e:=h.tot;have a:=ypq S k;unfold ygt at a ⊢;simp only[zBE,zCC,zAN]at a;rw[zI,a,zBC,List.length_take];have:sumA S (k+1)=sumA S k+(S.arcs k).length:=rfl;omega
  .rw[b (by omega),ypq,show k=S.N by omega];exact h.tot
 unfold yhm;rw[zBC];exact zAF (zAZ _ _) c
theorem ycpf{S:Spc}{k i j:Nat}(hk:k<S.N\/i=0/\k<=S.N):∀x∈yhm S k i j,x<S.N:=fun x d=>by
 unfold yhm at d;obtain⟨p,b,rfl⟩:=List.mem_map.1 d;have b:=(List.mem_filter.1 b).1;unfold ygt at b;rcases List.mem_append.1 b with q|q
 .obtain⟨y,e,q⟩:=List.mem_flatMap.1 q;obtain⟨a,_,rfl⟩:=List.mem_map.1 q;have:=List.mem_range.1 e;show y<S.N;omega
 .obtain⟨a,c,rfl⟩:=List.mem_map.1 q;rcases hk with h|⟨h,_⟩
  .exact h
  .rw[h]at c;simp at c
def srcS(S:Spc)(j:Nat):List Nat:=yhm S S.N 0 j
theorem ybic{S:Spc}{k:Nat}(j:Nat):∀n,(yhm S n 0 j).count k=if k<n then(S.arcs k).countP (fun a=>a.2==j)else 0
 |0=>by simp[ybda]
 | n + 1=>by
   have d:=ybic (S:=S) (k:=k) j n
   have e:yhm S (n+1) 0 j=yhm S n 0 j++((S.arcs n).filter fun a=>a.2==j).map fun _=>n:=by
    rw[<-ybcb];unfold yhm ygt;simp only[zAA,zBE,zCC,zAN,zAG,zBB,List.filter_map,List.map_map];rfl
   rw[e,zCJ,d]
   by_cases q:k=n
   .subst q;rw[if_neg (by omega),if_pos (by omega),List.map_const',List.count_replicate_self,<-List.countP_eq_length_filter]
    omega
   .rw[List.count_eq_zero.2 (fun c=>q (by obtain⟨_,_,rfl⟩:=List.mem_map.1 c;rfl))]
    by_cases b:k<n
    .rw[if_pos b,if_pos (by omega)];omega
    .rw[if_neg b,if_neg (by omega)]
structure OrdI(S:Spc)(lg:Nat->Bool)(L:List Nat)(i j:Nat)(E:Nat->Nat):Prop where
 nd:L.Nodup
 lt:∀x∈L,x<S.N
 set:∀k,k<S.N->lg k=true->k∈L
 hi:i<=L.length
 cnt:∀k,k<S.N->E k=yvv (S.arcs k) (L.take i)+(if i<L.length then((srcS S (L.getD i 0)).take j).count k else 0)
 inn:∀k,k<S.N->lg k=false->(k∈L↔0<(S.arcs k).length/\E k=(S.arcs k).length)
section
variable {S:Spc}{lg:Nat->Bool}{L:List Nat}{i j:Nat}{E:Nat->Nat}
theorem OrdI.start(c:L.Nodup)(b:∀x∈L,x<S.N)(a:∀k,k<S.N->(k∈L↔lg k=true)):OrdI S lg L 0 0 fun _=>0 :=
 ⟨c,b,fun k hk h=>(a k hk).2 h,zH _,fun k hk=>by rw[zBE,ycah];simp,fun k hk h=>⟨fun d=>(by rw[(a k hk).1 d]at h;cases h),fun q=>by omega⟩⟩
theorem ygx{b:Type}{l:List b}{i:Nat}(d:b)(a:i<l.length):l.take (i+1)=l.take i++[l.getD i d]:=by
 rw[zS a,yqg a]
theorem OrdI.cnt_le(h:OrdI S lg L i j E)(a:i<L.length){k:Nat}(hk:k<S.N):yvv (S.arcs k) (L.take i)+(srcS S (L.getD i 0)).count k=yvv (S.arcs k) (L.take (i+1)):=by
 rw[ygx 0 a,ybwd]
 .unfold srcS;rw[ybic,if_pos hk]
 .intro c;have:=h.nd;rw[<-zAH (i+1) L,ygx 0 a]at this;have b:=(List.nodup_append.1 (List.nodup_append.1 this).1).2.2;exact b _ c _ (List.mem_singleton.2 rfl) rfl
theorem ycpl(l:List (Nat×Nat))(A:List Nat):yvv l A<=l.length:=List.countP_le_length
theorem yna{l:List Nat}{j:Nat}(a:j<l.length)(k:Nat):(l.take (j+1)).count k=(l.take j).count k+if l.getD j 0=k then 1 else 0:=by
 rw[ygx 0 a,zCJ,List.count_singleton];simp
theorem OrdI.step(h:OrdI S lg L i j E)(g:i<L.length)(p:j<(srcS S (L.getD i 0)).length){k:Nat}(hk:(srcS S (L.getD i 0)).getD j 0=k)(hkN:k<S.N) :
 E k<(S.arcs k).length/\(let s:=fun q=>if q=k then E k+1 else E q
 OrdI S lg (if lg k=false/\E k+1=(S.arcs k).length then L++[k]else L) i (j+1) s):=by
 have m:E k<(S.arcs k).length:=by
  have l:=h.cnt k hkN;rw[if_pos g]at l;have A:=h.cnt_le g hkN;have B:=ycpl (S.arcs k) (L.take (i+1));have v:=yna p k;rw[if_pos hk]at v;have C:((srcS S (L.getD i 0)).take (j+1)).count k<=(srcS S (L.getD i 0)).count k:=(List.take_sublist _ _).count_le _;omega
 refine⟨m,?_⟩
 have f:∀q,q<S.N->(if q=k then E k+1 else E q)=yvv (S.arcs q) (L.take i)+((srcS S (L.getD i 0)).take (j+1)).count q:=fun q z=>by
  have l:=h.cnt q z;rw[if_pos g]at l;rw[yna p q,hk]
  by_cases e:q=k
  .subst e;rw[if_pos rfl,if_pos rfl];omega
  .rw[if_neg e,if_neg (Ne.symm e)];omega
 by_cases q:lg k=false/\E k+1=(S.arcs k).length
 .simp only[if_pos q]
  have o:k∉L:=fun n=>by
   have:=((h.inn k hkN q.1).1 n).2;omega
  refine⟨?_,fun x c=>?_,fun x c d=>List.mem_append_left _ (h.set x c d),by rw[zI];have:=h.hi;omega,fun x c=>?_,fun x c d=>?_⟩
  .exact List.nodup_append.2 ⟨h.nd,zBN _ _,fun a w b y=>by rw[List.mem_singleton.1 y];rintro rfl;exact o w⟩
  .rcases List.mem_append.1 c with r|r
   .exact h.lt x r
   .rw[List.mem_singleton.1 r];exact hkN
  .have t:(L++[k]).take i=L.take i:=List.take_append_of_le_length h.hi
   have u:(L++[k]).getD i 0=L.getD i 0:=by
    simp only[zK,zW g]
   have d:i<(L++[k]).length:=by rw[zI];omega
   rw[t,u,if_pos d];exact f x c
  .by_cases e:x=k
   .subst e;rw[if_pos rfl];exact⟨fun _=>⟨by omega,q.2⟩,fun _=>List.mem_append_right _ (List.mem_singleton.2 rfl)⟩
   .rw[if_neg e];refine Iff.trans ?_ (h.inn x c d);rw[List.mem_append,List.mem_singleton];exact⟨fun r=>r.resolve_right e,.inl⟩
 .simp only[if_neg q];refine⟨h.nd,h.lt,h.set,h.hi,fun x c=>by rw[if_pos g];exact f x c,fun x c d=>?_⟩
  by_cases e:x=k
  .subst e;rw[if_pos rfl];exact⟨fun n=>absurd ((h.inn x c d).1 n).2 (by omega),fun r=>absurd ⟨d,r.2⟩ q⟩
  .rw[if_neg e];exact h.inn x c d
theorem OrdI.next(h:OrdI S lg L i j E)(a:i<L.length)(c:j=(srcS S (L.getD i 0)).length):OrdI S lg L (i+1) 0 E :=
 ⟨h.nd,h.lt,h.set,a,fun k hk=>by
   have b:=h.cnt k hk;rw[if_pos a,c,zAA]at b;rw[b,h.cnt_le a hk];simp,h.inn⟩
theorem OrdI.all(h:OrdI S lg L L.length j E)(d:∀k,k<S.N->∀a∈S.arcs k,a.2<S.N)(c:∀k,k<S.N->lg k=false->S.arcs k≠[])(b:∀f m,Back S.N S.arcs f m->False):∀k,k<S.N->k∈L:=by
 refine ydly h.set (fun k hk l n g=>(h.inn k hk l).2 ⟨List.length_pos_iff.2 n,?_⟩) d c b;have e:=h.cnt k hk;rw[if_neg (by omega),zAA]at e
 rw[e,ycko.2 g];rfl
theorem OrdI.len(h:OrdI S lg L i j E):L.length<=S.N:=by
 have:=ykh (l2:=zO S.N) h.nd fun x a=>List.mem_range.2 (h.lt x a)
 simpa using this
end
end
section
namespace Sh
open Ev Go.RowKit
def ybm(l:List (Nat×Nat)):SV:=.sl 2 l.length (fun i=>[.i .u32 ((l.getD i (0,0)).1:Nat),.i .i64 ((l.getD i (0,0)).2:Nat)])
def spcC(S:Spc):List SV:=[.sl 1 S.N (fun k=>[.i .u32 (S.en k:Nat)]),.sl 1 S.N (fun k=>[ybm (S.arcs k)])]
def ybc(n:Nat)(f:Nat->Bool):SV:=.sl 1 n (fun k=>[.b (f k)])
theorem dec_lt{a b:Nat}(h:a<b):decide ((a:Int)<(b:Int))=true:=by simp;omega
theorem ybvm{e n:Nat}{l:List (Nat×Nat)}(C:e<2^24)(c:e=0↔l.length=0)(A:l.length<=262144)(g:∀i,i<l.length->(l.getD i (0,0)).1<2^24/\difB (l.getD i (0,0)).1 e=0)(d:∀i,i<l.length->ybqd l i<(l.getD i (0,0)).1)(s:∀i,i<l.length->(l.getD i (0,0)).2<n) :
 Returns zF 180 [.i .u32 (e:Nat),ybm l,.i .i64 (n:Nat)] (.b true):=by
 refine Returns.of (ydpc _ _ ?_);obtain⟨m,x⟩:∃m,l.length=m:=⟨_,rfl⟩;have B:e>>>24=0:=by rw[Nat.shiftRight_eq_div_pow];omega
 have f0:((((e>>>24:Nat):Int))!=0)=false:=by rw[B];rfl
 have f1:(((e:Int)!=0)!=decide ((m:Int)>0))=false:=by
  rw[x]at c
  by_cases q:e=0
  .have:=c.1 q;subst q;subst this;rfl
  .have D:m≠0:=fun r=>q (c.2 r);have y:((e:Int)!=0)=true:=by rw[bne_iff_ne];omega
   have z:decide ((m:Int)>0)=true:=by simp;omega
   rw[y,z];rfl
 simp only[c180,ydcu,yczg,ycxk,ydfn,ybm,x,yceq,f0,f1,go_sem,zAC,zA,zB];refine⟨by decide,?_⟩
 refine ybe (σ:=Nat) (fun k=>⟨[(23,.i .i64 k),(22,.i .i64 m),(21,.sl 2 m (fun i=>[.i .u32 ((l.getD i (0,0)).1:Nat),.i .i64 ((l.getD i (0,0)).2:Nat)])),(0,.i .u32 (e:Nat)),(2,.i .i64 (n:Nat)),(7,.i .u32 (ybqd l k:Nat))],[]⟩)
  (fun k=>k<=m) (fun k=>m-k) 0 (zH _) ?_ ?_
 .refine yj ?_;simp only[ybqd,wk,go_sem,zA]
 .intro k hk
  by_cases j:k<m
  .obtain⟨u,h⟩:=g k (by omega)
   have v:=d k (by omega)
   have w:=s k (by omega)
   have o:ybqd l (k+1)=(l.getD k (0,0)).1:=rfl;obtain⟨⟨a,t⟩,f⟩:∃p,l.getD k (0,0)=p:=⟨_,rfl⟩;rw[f]at u h v w o;simp only at u h v w o;have d1:=dec_lt j;have d2:decide ((a:Int)<=(ybqd l k:Int))=false:=by simp;omega
   have d3:=u32_andNot (a:=a) (b:=e) (by omega) (by omega)
   rw[h]at d3;simp only[IntKind.bits]at d3;have d4:decide ((t:Int)<0)=false:=by simp
   have d5:decide ((t:Int)>=(n:Int))=false:=by simp;omega
   have d6:((((0:Nat):Int))!=0)=false:=rfl;simp only[yclq,ydek,ydep,ycvw,ycza,ycle,yblp,f,d1,d2,d3,d4,d5,d6,splice,go_sem,zA,zB,zD,zC];refine⟨⟨by omega,by omega⟩,ikw (by omega) (by omega),?_⟩
   refine ybv (k+1) ?_;refine yj ?_;simp only[o,wk,go_sem,zA];omega
  .obtain rfl:k=m:=by omega
   simp only[yclq,yblp,zJ,ybat,go_sem,zA]
def spcO(S:Spc):Fam:=.one (some ⟨41,true,2,1,fun _=>spcC S⟩)
theorem ybyv{S:Spc}(h:S.ok):Returns zF 136 [.ag (spcC S)] (.b true):=by
 refine Returns.of (ydom _ _ ?_);have g:=h.pos;have d:=h.le;have f1:decide ((S.N:Int)<1)=false:=by simp;omega
 have f2:decide ((S.N:Int)>32768)=false:=by simp;omega
 have f3:((S.N:Int)!=(S.N:Int))=false:=by simp
 simp only[c136,ycxh,ydea,yczr,ydlj,ydef,spcC,ybm,f1,f2,f3,go_sem,zA,zB,zD,zC];refine ybe (σ:=Nat) (fun k=>⟨[(23,.i .i64 k),(22,.i .i64 (S.N:Nat)),(3,.i .i64 (S.N:Nat)),(4,.i .i64 (sumA S k:Nat)),(1,.pt (1,0) 0 0)],[(1,spcO S)]⟩) (fun k=>k<=S.N) (fun k=>S.N-k) 0 (zH _) ?_ ?_
 .refine yj ?_;simp only[spcO,spcC,ybm,sumA,wk,go_sem,zA,zC]
 .intro k hk
  by_cases a:k<S.N
  .have c:=ybvm (h.lt k a) (h.ne k a) (h.len a) (h.sub k a) (h.asc k a) (h.to k a);simp only[ybm]at c;have d1:=dec_lt a;have e:((sumA S k:Nat):Int)+((S.arcs k).length:Nat)=((sumA S (k+1):Nat):Int):=by show _=((sumA S k+(S.arcs k).length:Nat):Int);omega
   have f:=ynl S (n:=S.N) (k:=k+1) (by omega)
   have j:=h.tot;have d2:decide (((sumA S (k+1):Nat):Int)>262144)=false:=by simp;omega
   simp only[ycat,ydck,ydgx,ydfb,ycgu,spcO,spcC,ybm,d1,d2,e,clash,go_sem,zA,zB,zD];refine⟨by omega,ikw (by omega) (by omega),by omega,by omega,c.use ?_⟩
   simp only[ybj,clash,go_sem,zA,zB]
   try refine⟨by decide,?_⟩
   refine⟨ikw (by omega) (by omega),?_⟩
   refine ybv (k+1) ?_;refine yj ?_;simp only[wk,go_sem,zA,zC];omega
  .obtain rfl:k=S.N:=by omega
   simp only[ycat,yccd,zJ,ybat,go_sem,zA]
theorem ytq{S:Spc}(h:S.ok)(lg:Nat->Bool):Returns zF 73 [.ag (spcC S),ybc S.N lg] (.i .i64 0):=by
 refine Returns.of (ydya _ _ ?_);have a:=ybyv h;have f3:((S.N:Int)!=(S.N:Int))=false:=by simp
 simp only[spcC,ybm]at a;simp only[c73,yejs,yeea,spcC,ybm,ybc,clash,go_sem,zA,zB,zC];refine a.use ?_;simp only[ybj,yefx,ydve,clash,f3,go_sem,zA,zB,zD];exact Sim.refl _
theorem ybyq{S:Spc}(h:S.ok){lg:Nat->Bool}(f:∀k,k<S.N->lg k=true->(S.arcs k).length=0):Returns zF 18 [.ag (spcC S),ybc S.N lg] (.tp [.b true,.i .i64 0]):=by
 refine Returns.of (yeah _ _ ?_);have d:=ytq h lg;have g:=h.le;simp only[spcC,ybm,ybc]at d;simp only[c18,ydwe,yejb,spcC,ybm,ybc,clash,go_sem,zA,zB,zC];refine d.use ?_;simp only[ybj,yedd,ydxg,clash,zY,go_sem,zA,zB];refine ybe (σ:=Nat) (fun k=>⟨[(20,.i .i64 k),(19,.i .i64 (S.N:Nat)),(18,.sl 1 S.N fun k=>[ybm (S.arcs k)]),(1,ybc S.N lg)],[]⟩) (fun k=>k<=S.N) (fun k=>S.N-k) 0 (zH _) ?_ ?_
 .refine yj ?_;simp only[ybm,ybc,wk,go_sem,zA]
 .intro k hk
  by_cases a:k<S.N
  .have d1:=dec_lt a;cases c:lg k with
   | false =>
     simp only[ycta,ydot,ydrm,ycjk,ybm,ybc,d1,c,clash,go_sem,zA,zB];refine⟨⟨by omega,by omega⟩,⟨by omega,by omega⟩,ikw (by omega) (by omega),?_⟩
     refine ybv (k+1) ?_;refine yj ?_;simp only[wk,go_sem,zA];omega
   | true =>
     have e:=f k a c;simp only[ycta,ydot,ydrm,ydzq,ybm,ybc,d1,c,clash,e,go_sem,zA,zB];refine⟨⟨by omega,by omega⟩,⟨by omega,by omega⟩,?_⟩
     refine ybe (σ:=Unit) (fun _=>⟨[(32,.i .i64 0),(31,.i .i64 0),(20,.i .i64 k),(19,.i .i64 (S.N:Nat)),(18,.sl 1 S.N fun k=>[ybm (S.arcs k)]),(1,ybc S.N lg)],[]⟩) (fun _=>True) (fun _=>0) () trivial ?_ ?_
     .refine yj ?_;simp only[ybm,ybc,wk,go_sem,zA]
     .intro _ _;simp only[ydwy,ycjk,ybm,ybc,zJ,clash,go_sem,zA,zB];refine⟨ikw (by omega) (by omega),?_⟩
      refine ybv (k+1) ?_;refine yj ?_;simp only[wk,go_sem,zA];omega
  .obtain rfl:k=S.N:=by omega
   simp only[ycta,ydkr,zJ,go_sem,zA,zB];exact Sim.refl _
end Sh
end
section
namespace Sh
open Ev Go.RowKit
def ycp(l:List Nat):SV:=.sl 1 l.length (fun i=>[.i .i64 ((l.getD i 0:Nat):Int)])
def rowC(F:Nat)(f:Nat->List Nat)(j:Nat):SV:=if (f j).length=0 then .a (.slice none 0 0)else .os (F,j) 0 (f j).length true
def rowB(e:Nat)(k:IntKind)(l:List Nat):Option OB:=if l.length=0 then none else some ⟨e,false,1,l.length,fun i=>[.i k ((l.getD i 0:Nat):Int)]⟩
def yjb(e:Nat)(k:IntKind)(f:Nat->List Nat):Fam:=.many fun j=>rowB e k (f j)
theorem ylh{F e j:Nat}{k:IntKind}{f:Nat->List Nat}{O:Own}(ρ:List (Nat×(Nat->Nm))){X:SV}(c:X=if (f j).length=0 then .a (.slice none 0 0)else .os (rid ρ (F,j)) 0 (f j).length true)(b:lookO O (F,j)=rowB e k (f j)) :
 (Sim X (ren (rid ρ) 5 (rowC F f j))/\cln (lv [] O) 5 (rowC F f j)=true)/\one1 (rowC F f j)=true:=by
 subst c;unfold rowC
 by_cases q:(f j).length=0
 .simp only[if_pos q];exact⟨⟨Sim.refl _,rfl⟩,rfl⟩
 .simp only[if_neg q];refine⟨⟨Sim.refl _,?_⟩,rfl⟩;show(live O (F,j) && !(zDO F []))=true;unfold live;rw[b];unfold rowB;rw[if_neg q];rfl
theorem yeo{e:Nat}{k:IntKind}{l:List Nat}{b:OB}{h:Nm->Nm}{f j:Own}(m:mapE e=false)(a:rowB e k l=some b){c:OB}(d:(c.e=e/\c.bx=false/\c.z=1/\c.n=l.length)/\∀i,i<l.length->c.g i=[.i k ((l.getD i 0:Nat):Int)]) :
 (c.e=b.e/\c.bx=b.bx/\c.z=b.z/\c.n=b.n)/\(mapE b.e=true->∀i,c.g i=b.g i)/\∀i,i<b.n->telL h [] [] f j (c.g i) (b.g i):=by
 unfold rowB at a;split at a
 .cases a
 .cases a
  refine⟨d.1,fun q=>?_,fun i o=>?_⟩
  .have q:mapE e=true:=q;rw[m]at q;cases q
  .rw[d.2 i o];exact⟨.inl ⟨(yhn _ _ _).2 trivial,by rw[yec];exact Sim.refl _,rfl⟩,rfl,trivial⟩
theorem yfi{e:Nat}{k:IntKind}{l:List Nat}{b:OB}(a:rowB e k l=some b):(b.e=e/\b.bx=false/\b.z=1/\b.n=l.length)/\∀i,i<l.length->b.g i=[.i k ((l.getD i 0:Nat):Int)]:=by
 unfold rowB at a;split at a
 .cases a
 .cases a;exact⟨⟨rfl,rfl,rfl,rfl⟩,fun _ _=>rfl⟩
theorem ybrz{e:Nat}{k:IntKind}{l:List Nat}{x:Nat}(h:l.length=0){g:Nat->List SV}(a:g 0=[.i k (x:Int)]):((⟨e,false,1,1,g⟩:OB).e=e/\(⟨e,false,1,1,g⟩:OB).bx=false/\(⟨e,false,1,1,g⟩:OB).z=1/\(⟨e,false,1,1,g⟩:OB).n=(l++[x]).length)/\∀i,i<(l++[x]).length->(⟨e,false,1,1,g⟩:OB).g i=[.i k (((l++[x]).getD i 0:Nat):Int)]:=by
 obtain rfl:l=[]:=List.eq_nil_of_length_eq_zero h;refine⟨⟨rfl,rfl,rfl,rfl⟩,fun i b=>?_⟩;obtain rfl:i=0:=by simp at b;omega
 exact a
theorem ybir{e n:Nat}{k:IntKind}{l:List Nat}{x:Nat}{g g':Nat->List SV}(d:n=l.length)(b:∀i,i<l.length->g i=[.i k ((l.getD i 0:Nat):Int)])(a:g' 0=[.i k (x:Int)]) :
 ((⟨e,false,1,n+1,fun i=>if i<n then g i else g' (i-n)⟩:OB).e=e/\(⟨e,false,1,n+1,fun i=>if i<n then g i else g' (i-n)⟩:OB).bx=false/\(⟨e,false,1,n+1,fun i=>if i<n then g i else g' (i-n)⟩:OB).z=1/\(⟨e,false,1,n+1,fun i=>if i<n then g i else g' (i-n)⟩:OB).n=(l++[x]).length) /\
   ∀i,i<(l++[x]).length->(⟨e,false,1,n+1,fun i=>if i<n then g i else g' (i-n)⟩:OB).g i=[.i k (((l++[x]).getD i 0:Nat):Int)]:=by
 subst d;refine⟨⟨rfl,rfl,rfl,by rw[zI];rfl⟩,fun i c=>?_⟩
 show(if i<l.length then g i else g' (i-l.length))=_
 by_cases q:i<l.length
 .rw[if_pos q,b i q];simp[zK,zW q]
 .have:i=l.length:=by simp at c;omega
  subst this;rw[if_neg q,zAD,a];simp[zK]
theorem yqo{F e j:Nat}{k:IntKind}{f:Nat->List Nat}{b O:Own}(ρ:List (Nat×(Nat->Nm))){X:List SV}(i:X=[if (f j).length=0 then .a (.slice none 0 0)else .os (rid ρ (F,j)) 0 (f j).length true])(h:lookO O (F,j)=rowB e k (f j)):telL (rid ρ) [] [] b O X [rowC F f j]:=by
 subst i;obtain⟨⟨c,d⟩,g⟩:=ylh (X:=if (f j).length=0 then .a (.slice none 0 0)else .os (rid ρ (F,j)) 0 (f j).length true) ρ rfl h
 exact⟨.inl ⟨(yhn _ _ _).2 trivial,by rw[yec];exact c,d⟩,g,trivial⟩
theorem ybgi{a b c d t i:Nat}(f:c≠a)(g:c≠b):((c,d):Nm)=(if i=t then((a,0):Nm)else(b,i))->False:=fun e=>by
 split at e
 .exact f (congrArg Prod.fst e)
 .exact g (congrArg Prod.fst e)
theorem yuj{a b c d t i:Nat}(f:c≠a)(g:c≠b):(if i=t then((a,0):Nm)else(b,i))=((c,d):Nm)->False:=fun e=>ybgi f g e.symm
theorem ybco{a b t i j:Nat}(h:a≠b)(e:(if i=t then((a,0):Nm)else(b,i))=if j=t then((a,0):Nm)else(b,j)):i=j:=by
 by_cases c:i=t<;>by_cases d:j=t
 .omega
 .rw[if_pos c,if_neg d]at e;exact absurd (congrArg Prod.fst e) h
 .rw[if_neg c,if_pos d]at e;exact absurd (congrArg Prod.fst e).symm h
 .rw[if_neg c,if_neg d]at e;exact congrArg Prod.snd e
theorem ybot{S:Spc}(h:S.ok):Returns zF 179 [.ag (spcC S)] (.sl 1 S.N fun j=>[ycp (srcS S j)]):=by
 refine Returns.of (ydlv _ _ ?_);have G:=h.le;simp only[c179,ydah,ydit,ydgi,spcC,ybm,clash,go_sem,zA,zB,zC,↓reduceIte,reduceCtorEq];refine⟨by omega,?_⟩
 let o:Nat->Nat->Own:=fun k i=>[(1,spcO S),(11,.one (some ⟨22,false,1,S.N,fun j=>[rowC 60 (yhm S k i) j]⟩)),(60,yjb 3 .i64 (yhm S k i))]
 refine ybe (σ:=Nat) (fun k=>⟨[(15,.i .i64 k),(14,.i .i64 (S.N:Nat)),(13,.sl 1 S.N fun k=>[ybm (S.arcs k)]),(1,.pt (1,0) 0 0),(3,.os (11,0) 0 S.N true)],o k 0⟩) (fun k=>k<=S.N) (fun k=>S.N-k) 0 (zH _) ?_ ?_
 .refine yj ?_;simp only[o,spcO,spcC,ybm,rowC,yjb,rowB,ybda,wk,go_sem,zA,zC,↓reduceIte,reduceCtorEq]
 .intro k hk
  by_cases s:k<S.N
  .have d1 := dec_lt s;have D:=h.len s;simp only[ycnk,ycwe,ycvj,o,ybm,d1,clash,go_sem,zA,zB,↓reduceIte,reduceCtorEq];refine⟨⟨by omega,by omega⟩,?_⟩
   refine ybe (σ:=Nat) (fun i=>⟨[(22,.i .i64 i),(21,.i .i64 ((S.arcs k).length:Nat)),(20,ybm (S.arcs k)),(4,.i .i64 k),(15,.i .i64 k),(14,.i .i64 (S.N:Nat)),(13,.sl 1 S.N fun k=>[ybm (S.arcs k)]),(1,.pt (1,0) 0 0),(3,.os (11,0) 0 S.N true)],o k i⟩)
    (fun i=>i<=(S.arcs k).length) (fun i=>(S.arcs k).length-i) 0 (zH _) ?_ ?_
   .refine yj ?_;simp only[o,spcO,spcC,ybm,yjb,wk,go_sem,zA,zC,↓reduceIte,reduceCtorEq];exact⟨fun _ _ _ _ e=>e,fun i _=>ylh [] rfl rfl,fun i b c=>⟨b,c,yeo rfl c (yfi c)⟩⟩
   .intro i A
    by_cases m:i<(S.arcs k).length
    .have z:=h.to k s i m;obtain⟨⟨a,t⟩,n⟩:∃p,(S.arcs k).getD i (0,0)=p:=⟨_,rfl⟩;rw[n]at z;simp only at z;have d2:=dec_lt m;have l:=ybvu S m;rw[n]at l;simp only at l;have x:=yyk h (k:=k) (i:=i) (by omega) (by omega) (by omega) t
     obtain⟨f,w⟩:∃f,yhm S k i=f:=⟨_,rfl⟩;obtain⟨u,r⟩:∃f,yhm S k (i+1)=f:=⟨_,rfl⟩;rw[w]at l x;rw[r]at l;have d:∀j,¬j=t->u j=f j:=fun j E=>by rw[l,if_neg E]
     have g:u t=f t++[k]:=by rw[l,if_pos rfl]
     by_cases q:(f t).length=0
     .simp only[ybtk,ycdu,ycap,ycgk,ybdl,o,spcO,spcC,ybm,d2,n,w,rowC,yjb,rowB,q,clash,go_sem,zA,zB,zD,zC,zAJ,↓reduceIte,reduceCtorEq]
      repeat refine ybd ?_
      refine ybv (i+1) ?_;refine yca [(60,fun j=>if j=t then(36,0)else(60,j))] [] [] ?_
      simp only[r,wk,go_sem,zA,zC,↓reduceIte,reduceCtorEq];refine⟨⟨fun i _=>ybgi (by decide) (by decide),fun i _=>ybgi (by decide) (by decide),fun i _=>yuj (by decide) (by decide),fun i _=>yuj (by decide) (by decide),fun i _ j _=>ybco (by decide)⟩,by omega,fun i A=>?_,fun i b c=>?_⟩
      .refine yqo (F:=60) (e:=3) (k:=.i64) (f:=u) [(60,fun j=>if j=t then(36,0)else(60,j))] ?_ rfl
       by_cases e:i=t
       .subst e;have v:(u i).length=1:=by rw[g,zI,q];rfl
        simp only[v,go_sem,↓reduceIte,reduceCtorEq]
       .simp only[d i e,e,go_sem,↓reduceIte]
      .by_cases e:i=t
       .subst e;rw[g]at c;simp only[go_sem,zA,↓reduceIte];exact yeo (e:=3) (k:=.i64) rfl c (ybrz q rfl)
       .rw[d i e]at c;simp only[e,go_sem,zA,↓reduceIte];exact⟨_,c,yeo (e:=3) (k:=.i64) rfl c (yfi (e:=3) (k:=.i64) c)⟩
     .have I:0<(f t).length:=by omega
      simp only[ybtk,ycdu,ycap,ycgk,ybdl,o,spcO,spcC,ybm,d2,n,w,rowC,yjb,rowB,q,clash,go_sem,zA,zB,zD,zC,↓reduceIte,reduceCtorEq]
      repeat refine ybd ?_
      refine ybv (i+1) ?_;refine yca [(60,fun j=>if j=t then(36,0)else(60,j))] [] [] ?_
      simp only[r,wk,go_sem,zA,zC,↓reduceIte,reduceCtorEq];refine⟨⟨fun i _=>ybgi (by decide) (by decide),fun i _=>ybgi (by decide) (by decide),fun i _=>yuj (by decide) (by decide),fun i _=>yuj (by decide) (by decide),fun i _ j _=>ybco (by decide)⟩,by omega,fun i A=>?_,fun i b c=>?_⟩
      .refine yqo (F:=60) (e:=3) (k:=.i64) (f:=u) [(60,fun j=>if j=t then(36,0)else(60,j))] ?_ rfl
       by_cases e:i=t
       .subst e;have v:(u i).length=(f i).length+1:=by rw[g,zI];rfl
        have C:¬(f i).length+1=0:=by omega
        simp only[v,C,go_sem,↓reduceIte]
       .simp only[d i e,e,go_sem,↓reduceIte]
      .by_cases e:i=t
       .subst e;rw[g]at c;simp only[go_sem,zA,↓reduceIte];exact yeo (e:=3) (k:=.i64) rfl c (ybir (g':=fun i=>zCD 1 (zCE (i*1) [.i .i64 (k:Int)])) rfl (fun _ _=>rfl) rfl)
       .rw[d i e]at c;simp only[e,go_sem,zA,↓reduceIte];exact⟨_,c,yeo (e:=3) (k:=.i64) rfl c (yfi (e:=3) (k:=.i64) c)⟩
    .obtain rfl:i=(S.arcs k).length:=by omega
     have y:yhm S k (S.arcs k).length=yhm S (k+1) 0:=funext fun j=>ybcb S k j;simp only[ybtk,ybdl,o,spcO,spcC,ybm,zJ,clash,y,go_sem,zA,zB,↓reduceIte,reduceCtorEq];refine⟨ikw (by omega) (by omega),?_⟩
     refine ybv (k+1) ?_;refine yj ?_;simp only[yjb,wk,go_sem,zA,zC,↓reduceIte,reduceCtorEq];exact⟨fun _ _ _ _ e=>e,by omega,fun i _=>ylh [] rfl rfl,fun i b c=>⟨b,c,yeo rfl c (yfi c)⟩⟩
  .obtain rfl:k=S.N:=by omega
   simp only[ycnk,ychq,o,spcO,zJ,go_sem,zA,zB,↓reduceIte,reduceCtorEq];have B:∀q,q<S.N->(yhm S S.N 0 q).length<=262144:=fun q _=>yyk h (k:=S.N) (i:=0) (by omega) (by omega) (by omega) q
   refine⟨fun q H=>?_,yej fun q H=>?_⟩
   .unfold rowC
    by_cases e:(yhm S S.N 0 q).length=0
    .simp only[e,go_sem,↓reduceIte]
    .simp only[e,yjb,rowB,go_sem,zA,↓reduceIte]
   .unfold rowC
    by_cases e:(yhm S S.N 0 q).length=0
    .simp only[e,SimL,ycp,srcS,go_sem,↓reduceIte];exact yboq
    .simp only[e,yjb,rowB,SimL,ycp,srcS,go_sem,zA,↓reduceIte];exact Sim.refl _
end Sh
end
section
namespace Sh
open Ev Go.RowKit
theorem Ct.fnd{P:Program}{g:FuncId}{args:List SV}{f:Type}{R:SV->f->Prop}{V:f->SV}{Q:SV->Prop}(h:Ct P g args fun r=>∃x,R r x)(n:∀r x,R r x->Sim r (V x))(l:∀r x,R r x->Q (V x)):Ct P g args Q:=fun G m p i j k=>by
 obtain⟨v,o,r,a,b,c,⟨x,d⟩,e⟩:=h G m p i j k;exact⟨v,o,V x,a,b,c,l r x d,n r x d _ _ _ e⟩
def natO(L:List Nat):Fam:=.one (some ⟨3,false,1,L.length,fun i=>[.i .i64 ((L.getD i 0:Nat):Int)]⟩)
theorem ybsl(L:List Nat)(x:Nat){i:Nat}(a:i<L.length+1):(if i<L.length then[SV.i .i64 ((L.getD i 0:Nat):Int)]else zCD 1 (zCE ((i-L.length)*1) [SV.i .i64 (x:Int)]))=[SV.i .i64 (((L++[x]).getD i 0:Nat):Int)]:=by
 by_cases q:i<L.length
 .rw[if_pos q];simp[zK,zW q]
 .obtain rfl:i=L.length:=by omega
  rw[if_neg q,zAD];simp[zK]
structure OrdL(S:Spc)(lg:Nat->Bool)(L:List Nat):Prop where
 lt:∀x∈L,x<S.N
 len:L.length=S.N
 all:∀k,k<S.N->k∈L
structure _root_.Go.Proofs.YthclbjjgfcgbgaaGreatDoor.Spc.free(S:Spc)(lg:Nat->Bool):Prop where
 ne:∀k,k<S.N->lg k=false->S.arcs k≠[]
 cyc:∀f m,Back S.N S.arcs f m->False
def yov(lg:Nat->Bool)(k:Nat):List Nat:=(zO k).filter lg
theorem ybzu(lg:Nat->Bool)(k:Nat):yov lg (k+1)=yov lg k++if lg k=true then[k]else[]:=by
 unfold yov;rw[zAV,zAG];congr 1;cases h:lg k<;>simp[h]
theorem ybru(lg:Nat->Bool)(k:Nat):(yov lg k).length<=k:=by
 have:=zAZ lg (zO k);unfold yov
 simpa using this
theorem ycru{lg:Nat->Bool}{n k:Nat}(hk:k<n):k∈yov lg n↔lg k=true:=by
 unfold yov;rw[zBO,zBS];exact⟨fun h=>h.2,fun h=>⟨hk,h⟩⟩
theorem ydmz(lg:Nat->Bool)(n:Nat):(yov lg n).Nodup:=List.Pairwise.filter _ zCN
theorem ydpj(lg:Nat->Bool)(n:Nat):∀x∈yov lg n,x<n:=fun x h=>List.mem_range.1 (List.mem_filter.1 h).1
theorem yga{h:Nm->Nm}{a:List Nat}{b O:Own}{X:List SV}{k:IntKind}{x:Int}(e:X=[.i k x]):telL h a [] b O X [.i k x]:=by
 subst e;exact⟨.inl ⟨(yhn _ _ _).2 trivial,by rw[yec];exact Sim.refl _,rfl⟩,rfl,trivial⟩
set_option maxHeartbeats 1000000 in
theorem ybqo{S:Spc}(h:S.ok){lg:Nat->Bool}(F:S.free lg):Ct zF 135 [.ag (spcC S),ybc S.N lg] fun r=>∃L,Sim r (ycp L)/\OrdL S lg L:=by
 refine ydmv _ _ ?_;have M:=h.le;have D:=ybot h;simp only[spcC,ybm,ycp]at D;simp only[c135,ycww,ydba,ycuu,spcC,ybm,ybc,clash,go_sem,zA,zB,zC];refine ybe (σ:=Nat) (fun k=>⟨[(15,.i .i64 k),(14,.i .i64 (S.N:Nat)),(13,ybc S.N lg),(1,ybc S.N lg),(2,.pt (2,0) 0 0),(5,.os (70,0) 0 (yov lg k).length true)],[(2,spcO S),(70,natO (yov lg k))]⟩) (fun k=>k<=S.N) (fun k=>S.N-k) 0 (zH _) ?_ ?_
 .refine yca [] [70] [] ?_;simp only[spcO,spcC,ybm,ybc,natO,show yov lg 0=[]from rfl,wk,go_sem,zA,zC,zQ]
  exact⟨(70,0),rfl,rfl,rfl⟩
 .intro k hk
  by_cases b:k<S.N
  .have d1:=dec_lt b;have s:=ybru lg k;have f:=ybzu lg k;obtain⟨L,w⟩:∃L,yov lg k=L:=⟨_,rfl⟩;obtain⟨P,p⟩:∃L,yov lg (k+1)=L:=⟨_,rfl⟩;rw[w]at s;rw[w,p]at f;cases l:lg k with
   | true =>
     rw[l,if_pos rfl]at f;simp only[ybsq,yciv,ycjf,ycgg,ycdo,ybc,natO,w,d1,l,clash,go_sem,zA,zB,zD,zC]
     repeat refine ybd ?_
     refine ybv (k+1) ?_;refine yca [(70,fun i=>(24,i))] [] [] ?_;simp only[spcO,spcC,ybm,p,f,zI,wk,go_sem,zA,zC];exact⟨by omega,fun i m=>yga (ybsl L k m)⟩
   | false =>
     rw[l,if_neg (by decide),zAN]at f
     simp only[ybsq,yciv,ycjf,ycgg,ycdo,ybc,natO,w,d1,l,clash,go_sem,zA,zB]
     repeat refine ybd ?_
     refine ybv (k+1) ?_;refine yj ?_;simp only[spcO,spcC,ybm,p,f,wk,go_sem,zA,zC];omega
  .obtain rfl:k=S.N:=by omega
   simp only[ybsq,yczp,natO,spcO,spcC,ybm,ybc,zJ,go_sem,zA,zB];have v:OrdI S lg (yov lg S.N) 0 0 fun _=>0:=OrdI.start (ydmz _ _) (ydpj _ _) fun k hk=>ycru hk;have s:=ybru lg S.N
   generalize yov lg S.N=L0 at v s
   refine D.use ?_;simp only[ybj,ydab,ycae,clash,go_sem,zA,zB,zC]
   repeat refine ybd ?_
   refine ybe (σ:=Nat×List Nat×(Nat->Nat)) (fun x=>⟨[(10,.i .i64 x.1),(5,.os (70,0) 0 x.2.1.length true),(9,.os (30,0) 0 S.N true),(8,.sl 1 S.N fun j=>[ycp (srcS S j)]),(1,ybc S.N lg),(2,.pt (2,0) 0 0)],
    [(2,spcO S),(70,natO x.2.1),(30,.one (some ⟨3,false,1,S.N,fun k=>[.i .i64 (x.2.2 k:Nat)]⟩))]⟩) (fun x=>OrdI S lg x.2.1 x.1 0 x.2.2) (fun x=>S.N+1-x.1) (0,L0,fun _=>0) v ?_ ?_
   .refine yj ?_;simp only[spcO,spcC,ybm,ybc,natO,ycp,wk,go_sem,zA,zC]
   .rintro⟨i,L,E⟩ e;simp only at e ⊢;have u:=e.len;have J:=e.hi
    by_cases b:i<L.length
    .have d1 := dec_lt b;obtain⟨x,g⟩:∃x,L.getD i 0=x:=⟨_,rfl⟩;have O:x<S.N:=by rw[<-g,getD_at b];exact e.lt _ (zT _)
     have B:=yyk h (k:=S.N) (i:=0) (by omega) (by omega) (by omega) x
     change (srcS S x).length<=262144 at B
     simp only[ybnj,ycir,ybyy,natO,ycp,ybc,d1,g,clash,go_sem,zA,zB]
     repeat refine ybd ?_
     refine ybe (σ:=Nat×List Nat×(Nat->Nat)) (fun y=>⟨[(45,.i .i64 y.1),(44,.i .i64 ((srcS S x).length:Nat)),(43,ycp (srcS S x)),(10,.i .i64 i),(5,.os (70,0) 0 y.2.1.length true),(9,.os (30,0) 0 S.N true),(8,.sl 1 S.N fun j=>[ycp (srcS S j)]),(1,ybc S.N lg),(2,.pt (2,0) 0 0)],
      [(2,spcO S),(70,natO y.2.1),(30,.one (some ⟨3,false,1,S.N,fun k=>[.i .i64 (y.2.2 k:Nat)]⟩))]⟩) (fun y=>OrdI S lg y.2.1 i y.1 y.2.2/\i<y.2.1.length/\y.2.1.getD i 0=x/\y.1<=(srcS S x).length) (fun y=>(srcS S x).length-y.1) (0,L,E) ⟨e,b,g,zH _⟩ ?_ ?_
     .refine yj ?_;simp only[spcO,spcC,ybm,ybc,natO,ycp,wk,go_sem,zA,zC]
     .rintro⟨j,L,E⟩ ⟨e,b,g,K⟩;simp only at e b g K ⊢;have u:=e.len
      by_cases c:j<(srcS S x).length
      .have d2:=dec_lt c;obtain⟨k,hk⟩:∃k,(srcS S x).getD j 0=k:=⟨_,rfl⟩;have hkN:k<S.N:=by rw[<-hk,getD_at c];exact ycpf (.inr ⟨rfl,zAP _⟩) _ (zT _)
       have I:=h.len hkN;obtain⟨G,d⟩:=e.step b (by rw[g];exact c) (by rw[g];exact hk) hkN
       simp only at d;obtain⟨z,t⟩:∃z,(fun q=>if q=k then E k+1 else E q)=z:=⟨_,rfl⟩
       have o:∀(i:Nat),i<S.N->(if i=k then[SV.i .i64 ((E k:Int)+1)]else[SV.i .i64 (E i:Int)])=[SV.i .i64 (z i:Int)]:=fun i _=>by
        rw[<-t]
        by_cases q:i=k
        .simp only[if_pos q];rfl
        .simp only[if_neg q]
       rw[t]at d;cases l:lg k with
       | true =>
         rw[l,if_neg (fun q=>by cases q.1)]at d
         simp only[yzq,ybel,ybfg,ybef,ybfw,natO,ycp,ybc,spcO,spcC,ybm,d2,hk,l,clash,go_sem,zA,zB]
         repeat refine ybd ?_
         refine yu (j+1,L,_) ⟨d,b,g,c⟩ (by show _-(j+1)<_-j;omega) ?_
         refine yj ?_;simp only[wk,go_sem,zA,zC];exact⟨by omega,fun i m=>yga (o i m)⟩
       | false =>
         by_cases C:E k+1=(S.arcs k).length
         .rw[if_pos ⟨l,C⟩]at d;have d3:(((E k:Int)+1)==((S.arcs k).length:Int))=true:=by rw[beq_iff_eq];omega
          simp only[yzq,ybel,ybfg,ybef,yclz,ybfw,natO,ycp,ybc,spcO,spcC,ybm,d2,d3,hk,l,clash,go_sem,zA,zB,zD,zC]
          repeat refine ybd ?_
          refine yu (j+1,L++[k],_) ⟨d,by show i<(L++[k]).length;rw[zI];omega,by show(L++[k]).getD i 0=x;rw[<-g];simp only[zK,zW b],c⟩ (by show _-(j+1)<_-j;omega) ?_
          refine yca [(70,fun i=>(76,i))] [] [] ?_;simp only[zI,wk,go_sem,zA,zC];exact⟨by omega,fun i m=>yga (ybsl L k m),fun i m=>yga (o i m)⟩
         .rw[if_neg (fun q=>C q.2)]at d;have d3:(((E k:Int)+1)==((S.arcs k).length:Int))=false:=by rw[beq_eq_false_iff_ne];omega
          simp only[yzq,ybel,ybfg,ybef,ybfw,natO,ycp,ybc,spcO,spcC,ybm,d2,d3,hk,l,clash,go_sem,zA,zB]
          repeat refine ybd ?_
          refine yu (j+1,L,_) ⟨d,b,g,c⟩ (by show _-(j+1)<_-j;omega) ?_
          refine yj ?_;simp only[wk,go_sem,zA,zC];exact⟨by omega,fun i m=>yga (o i m)⟩
      .obtain rfl:j=(srcS S x).length:=by omega
       have A:=e.next b (by rw[g])
       simp only[yzq,natO,ycp,ybc,spcO,spcC,ybm,zJ,clash,go_sem,zA,zB]
       repeat refine ybd ?_
       refine yu (i+1,L,E) A (by show S.N+1-(i+1)<S.N+1-i;omega) ?_
       refine yj ?_;simp only[wk,go_sem,zA,zC];omega
    .obtain rfl:i=L.length:=by omega
     have n:=e.all (fun k hk a H=>h.mem hk H) F.ne F.cyc;simp only[ybnj,ycaj,natO,zJ,go_sem,zA,zB];exact⟨L,Sim.refl _,e.lt,Nat.le_antisymm u (ydup n),n⟩
def allO(n:Nat)(b:Bool):Fam:=.one (some ⟨4,false,1,n,fun _=>[.b b]⟩)
theorem ycbi{h:Nm->Nm}{a:List Nat}{c O:Own}{X:List SV}{x:Bool}(e:X=[.b x]):telL h a [] c O X [.b x]:=by
 subst e;exact⟨.inl ⟨(yhn _ _ _).2 trivial,by rw[yec];exact Sim.refl _,rfl⟩,rfl,trivial⟩
set_option maxHeartbeats 1000000 in
theorem ybla{S:Spc}(h:S.ok){lg:Nat->Bool}(p:S.free lg):Cm zF 72 [] [] [.ag (spcC S),ybc S.N lg] fun r o=>r = .tp [.os (1,0) 0 S.N true,.i .i64 0]/\o=[(1,allO S.N true)]:=by
 refine ydty [] [] _ _ _ ?_;have s:=h.le;have g:=ytq h lg;have j:=ybqo h p;simp only[spcC,ybm,ybc]at g j;simp only[c72,yejl,yecr,spcC,ybm,ybc,clash,go_sem,zA,zB,zC];refine g.use ?_;simp only[ybj,yecs,ydwz,yeiz,clash,zY,go_sem,zA,zB,zC]
 repeat refine ybd ?_
 refine j.fnd (V:=ycp) (fun r L h=>h.1) fun r L n=>?_;obtain⟨-,d,m,c⟩:=n;simp only[ycp,go_sem]
 let mk:Nat->Nat->Bool:=fun i k=>decide (k∈L.take i)
 refine ybe (σ:=Nat) (fun i=>⟨[(23,.i .i64 i),(22,.i .i64 (L.length:Nat)),(21,ycp L),(7,.os (18,0) 0 S.N true)],[(18,.one (some ⟨4,false,1,S.N,fun k=>[.b (mk i k)]⟩))]⟩) (fun i=>i<=L.length) (fun i=>L.length-i) 0 (zH _) ?_ ?_
 .refine yj ?_;simp only[ycp,mk,wk,go_sem,zA,zC]
 .intro i l
  by_cases a:i<L.length
  .have d1:=dec_lt a;obtain⟨k,hk⟩:∃k,L.getD i 0=k:=⟨_,rfl⟩;have hkN:k<S.N:=by rw[<-hk,getD_at a];exact d _ (zT _)
   have f:∀q,mk (i+1) q=if q=k then true else mk i q:=fun q=>by
    show decide (q∈L.take (i+1))=if q=k then true else decide (q∈L.take i)
    rw[ygx 0 a,hk]
    by_cases e:q=k
    .simp[e]
    .simp[e]
   simp only[ydnd,yeil,yebx,yebk,ycp,d1,hk,clash,go_sem,zA,zB]
   repeat refine ybd ?_
   refine ybv (i+1) ?_;refine yj ?_;simp only[f,wk,go_sem,zA,zC];refine⟨by omega,fun q _=>ycbi ?_⟩
   by_cases e:q=k
   .rw[if_pos e,if_pos e]
   .rw[if_neg e,if_neg e]
  .obtain rfl:i=L.length:=by omega
   simp only[ydnd,ydcl,ycp,zJ,yhq,go_sem,zA,zB];refine⟨.tp [.os (1,0) 0 S.N true,.i .i64 0],[(1,allO S.N true)],?_,?_,rfl,rfl⟩
   .refine ybl [(1,fun i=>(18,i))] [] [] ?_;simp only[allO,mk,zAA,wk,go_sem,zC];exact fun i l=>c i l
   .simp only[allO,ycl,yfk,wk,go_sem]
set_option maxHeartbeats 1000000 in
theorem ycoi{S:Spc}(h:S.ok){lg:Nat->Bool}(d:S.free lg):Returns zF 17 [.ag (spcC S),ybc S.N lg] (.tp [ybc S.N fun _=>false,.i .i64 0]):=by
 refine Returns.of (ydlw [72] _ _ ?_);have f:=h.le;have c:=ybla h d;simp only[spcC,ybm,ybc]at c;simp only[c17,yebt,yecm,spcC,ybm,ybc,clash,go_sem,zA,zB,zC,↓reduceIte,reduceCtorEq];refine yek c [] 50 [] [] ?_ ?_
 .simp only[go_sem,to1,okN,ycl,yfk,yee,ydu,wk,go_sem,zB,↓reduceIte,reduceCtorEq]
 rintro r j ⟨rfl,rfl⟩;simp only[allO,yoy,ymh,nuF,nu,difN,yee,ydu,Fam.ren,OB.ren,dim,yid,ycib,yqw,ykv,go_sem,zA,zB,↓reduceIte,reduceCtorEq];simp only[ydwh,yeiy,clash,zY,go_sem,zA,zB,↓reduceIte];refine ybe (σ:=Nat) (fun i=>⟨[(20,.i .i64 i),(19,.i .i64 (S.N:Nat)),(6,.os (51,0) 0 S.N true)],[(51,.one (some ⟨4,false,1,S.N,fun k=>[.b (!decide (k<i))]⟩))]⟩) (fun i=>i<=S.N) (fun i=>S.N-i) 0 (zH _) ?_ ?_
 .refine yj ?_;simp only[go_sem,wk,go_sem,zA,zC,↓reduceIte,reduceCtorEq];exact fun i _=>by simp
 .intro i g
  by_cases a:i<S.N
  .have d1:=dec_lt a;simp only[ydqg,ydwl,yedx,yehq,d1,clash,go_sem,zA,zB,↓reduceIte,reduceCtorEq]
   repeat refine ybd ?_
   refine ybv (i+1) ?_;refine yj ?_;simp only[go_sem,wk,go_sem,zA,zC,↓reduceIte,reduceCtorEq];refine⟨by omega,fun q _=>ycbi ?_⟩
   by_cases e:q=i
   .subst e;rw[if_pos rfl];simp
   .rw[if_neg e];congr 2;rw[show decide (q<i)=decide (q<i+1)from decide_eq_decide.2 (by omega)]
  .obtain rfl:i=S.N:=by omega
   simp only[ydqg,yegg,zJ,go_sem,zA,zB,↓reduceIte,reduceCtorEq];exact ybbg ⟨ybln fun k hk=>by rw[decide_eq_true hk];rfl,Sim.refl _,trivial⟩
end Sh
end
section
namespace Sh
open Ev Go.RowKit
set_option maxHeartbeats 1000000 in
theorem ybkn{S:Spc}(h:S.ok){lg:Nat->Bool}(d:S.free lg):Ct zF 74 [.ag (spcC S),ybc S.N lg] fun r=>∃L,Sim r (.tp [ycp L,.i .i64 0])/\OrdL S lg L:=by
 refine ydvo _ _ ?_;have e:=h.le;have b:=ytq h lg;have c:=ybqo h d;simp only[spcC,ybm,ybc]at b c;simp only[c74,ydwn,ydzx,spcC,ybm,ybc,clash,go_sem,zA,zB,zC];refine b.use ?_;simp only[ybj,yeep,yedg,ydyb,clash,zY,go_sem,zA,zB];refine c.fnd (V:=ycp) (fun r L h=>h.1) fun r L a=>?_;obtain⟨-,a⟩:=a;simp only[ydxc,clash,ycp,a.len,zJ,go_sem,zA,zB];exact⟨L,by rw[a.len];exact Sim.refl _,a⟩
theorem ybxt{s t:Nat}(b:s<2^32):Returns zF 78 [.ag [.i .u32 (s:Nat),.i .i64 (t:Nat)]] (.i .i64 (popP s:Nat)):=by
 refine Returns.of (yego _ _ ?_);have a:=ybfh b;simp only[c78,ydxv,yejq,clash,go_sem,zA,zB,zD,zC];refine a.use ?_;simp only[ybj,clash,go_sem,zA,zB];exact Sim.refl _
structure MvB(S:Spc)(lg:Nat->Bool)(B:Nat->Nat->Prop):Prop where
 zero:∀k,k<S.N->B k 0
 arc:∀k,k<S.N->lg k=false->∀i,i<(S.arcs k).length->∀x,B ((S.arcs k).getD i (0,0)).2 x->B k (popP ((S.arcs k).getD i (0,0)).1+x)
set_option maxHeartbeats 2000000 in
theorem ybmu{S:Spc}(h:S.ok){lg:Nat->Bool}(M:S.free lg){B:Nat->Nat->Prop}(I:MvB S lg B) :
 Ct zF 77 [.ag (spcC S),ybc S.N lg,.fn 78 [] []] fun r=>∃f:Nat->Nat,Sim r (.tp [.sl 1 S.N fun k=>[.i .i64 (f k:Nat)],.i .i64 0])/\(∀k,k<S.N->B k (f k))/\∀k,k<S.N->f k<=1000000:=by
 refine yeed _ _ ?_;have W:=h.le;have J:=ybkn h M;simp only[spcC,ybm,ybc]at J;simp only[c77,yecq,yeha,spcC,ybm,ybc,clash,go_sem,zA,zB,zC];refine J.fnd (V:=fun L=>.tp [ycp L,.i .i64 0]) (fun r L h=>h.1) fun r L P=>?_;obtain⟨-,G,O,K⟩:=P;simp only[ybj,ydxp,yefh,yejg,clash,ycp,zY,go_sem,zA,zB,zC]
 repeat refine ybd ?_
 refine ybe (σ:=Nat×(Nat->Nat)) (fun x=>⟨[(29,.i .i64 x.1),(28,.i .i64 (L.length:Nat)),(27,ycp L),(10,.os (26,0) 0 S.N true),(1,ybc S.N lg),(2,.fn 78 [] []),(3,.pt (3,0) 0 0)],
  [(3,spcO S),(26,.one (some ⟨3,false,1,S.N,fun k=>[.i .i64 (x.2 k:Nat)]⟩))]⟩) (fun x=>x.1<=L.length/\(∀k,k<S.N->B k (x.2 k))/\∀k,x.2 k<=24*x.1) (fun x=>L.length-x.1) (0,fun _=>0) ⟨zH _,I.zero,fun _=>zH _⟩ ?_ ?_
 .refine yj ?_;simp only[ycp,ybc,spcO,spcC,ybm,wk,go_sem,zA,zC]
 .rintro⟨i,f⟩ ⟨F,b,c⟩;simp only at F b c ⊢
  by_cases g:i<L.length
  .have d1 := dec_lt g;obtain⟨k,hk⟩:∃k,L.getD i 0=k:=⟨_,rfl⟩;have hkN:k<S.N:=by rw[<-hk,getD_at g];exact G _ (zT _)
   have R:=h.len hkN;cases H:lg k with
   | true =>
     simp only[yctf,ydsq,ydqs,ychg,ycp,ybc,d1,hk,H,clash,go_sem,zA,zB]
     repeat refine ybd ?_
     refine yu (i+1,f) ⟨g,b,fun q=>by have:=c q;show f q<=24*(i+1);omega⟩ (by show _-(i+1)<_-i;omega) ?_
     refine yj ?_;simp only[spcO,spcC,ybm,wk,go_sem,zA,zC];omega
   | false =>
     simp only[yctf,ydsq,ydqs,yefl,ycp,ybc,spcO,spcC,ybm,d1,hk,H,clash,go_sem,zA,zB]
     repeat refine ybd ?_
     refine ybe (σ:=Nat×(Nat->Nat)) (fun y=>⟨[(43,.i .i64 y.1),(42,.i .i64 ((S.arcs k).length:Nat)),(41,ybm (S.arcs k)),(12,.i .i64 k),(29,.i .i64 i),(28,.i .i64 (L.length:Nat)),(27,ycp L),(10,.os (26,0) 0 S.N true),(1,ybc S.N lg),(2,.fn 78 [] []),(3,.pt (3,0) 0 0)],
      [(3,spcO S),(26,.one (some ⟨3,false,1,S.N,fun k=>[.i .i64 (y.2 k:Nat)]⟩))]⟩) (fun y=>y.1<=(S.arcs k).length/\(∀k,k<S.N->B k (y.2 k))/\(∀q,q≠k->y.2 q<=24*i)/\y.2 k<=24*(i+1)) (fun y=>(S.arcs k).length-y.1) (0,f) ⟨zH _,b,fun q _=>c q,by have:=c k;show f k<=24*(i+1);omega⟩ ?_ ?_
     .refine yj ?_;simp only[ycp,ybc,spcO,spcC,ybm,wk,go_sem,zA,zC]
     .rintro⟨j,f⟩ ⟨U,b,c,C⟩;simp only at U b c C ⊢
      by_cases d:j<(S.arcs k).length
      .have d2:=dec_lt d;have w:=h.to k hkN j d;have m:=(h.sub k hkN j d).1;have l:=I.arc k hkN H j d;have u:((S.arcs k).getD j (0,0)).2≠k:=fun e=>M.cyc (fun _=>k) 1 ⟨by omega,fun _=>rfl,fun _=>hkN,fun _=>⟨_,by rw[getD_at d];exact zT _,e⟩⟩
       obtain⟨⟨a,t⟩,z⟩:∃p,(S.arcs k).getD j (0,0)=p:=⟨_,rfl⟩;rw[z]at w m l u;simp only at w m l u;have Q:=ybxt (s:=a) (t:=t) (by omega)
       have X:=ydnf a m;have T:=c t u;obtain⟨n,A⟩:∃n:Nat->Nat,(fun q=>if q=k then max (f k) (popP a+f t)else f q)=n:=⟨_,rfl⟩
       have o:n k=max (f k) (popP a+f t):=by rw[<-A];simp
       have v:∀q,q≠k->n q=f q:=fun q e=>by rw[<-A];simp[e]
       have E:∀(i:Nat),i<S.N->(if i=k then[SV.i .i64 (max (f k:Int) ((popP a:Int)+(f t:Int)))]else[SV.i .i64 (f i:Int)])=[SV.i .i64 (n i:Int)]:=fun i _=>by
        by_cases q:i=k
        .subst q;rw[if_pos rfl,o];congr 2;omega
        .rw[if_neg q,v i q]
       simp only[ycky,ydlm,ydhm,ycxv,ycp,ybc,spcO,spcC,ybm,d2,z,clash,go_sem,zA,zB,zC]
       repeat refine ybd ?_
       refine Q.use ?_;simp only[ybj,clash,go_sem,zA,zB]
       repeat refine ybd ?_
       refine yu (j+1,n) ⟨d,fun q D=>?_,fun q e=>by show n q<=_;rw[v q e];exact c q e,by show n k<=_;rw[o];omega⟩ (by show _-(j+1)<_-j;omega) ?_
       .show B q (n q)
        by_cases e:q=k
        .subst e;rw[o];rcases Nat.le_total (f q) (popP a+f t)with r|r
         .rw[Nat.max_eq_right r];exact l _ (b t w)
         .rw[Nat.max_eq_left r];exact b q D
        .rw[v q e];exact b q D
       refine yj ?_;simp only[wk,go_sem,zA,zC];exact⟨by omega,fun i F=>yga (E i F)⟩
      .obtain rfl:j=(S.arcs k).length:=by omega
       simp only[ycky,ychg,ycp,ybc,spcO,spcC,ybm,zJ,clash,go_sem,zA,zB]
       repeat refine ybd ?_
       refine yu (i+1,f) ⟨g,b,fun q=>?_⟩ (by show _-(i+1)<_-i;omega) ?_
       .show f q<=24*(i+1)
        by_cases e:q=k
        .rw[e];exact C
        .have:=c q e;omega
       refine yj ?_;simp only[wk,go_sem,zA,zC];omega
  .obtain rfl:i=L.length:=by omega
   simp only[yctf,yczh,ycp,zJ,go_sem,zA,zB];exact⟨f,Sim.refl _,b,fun k _=>by have:=c k;omega⟩
theorem yctx{S:Spc}(h:S.ok){lg:Nat->Bool}(a:S.free lg){B:Nat->Nat->Prop}(c:MvB S lg B) :
 Ct zF 20 [.ag (spcC S),ybc S.N lg] fun r=>∃f:Nat->Nat,Sim r (.tp [.sl 1 S.N fun k=>[.i .i64 (f k:Nat)],.i .i64 0])/\(∀k,k<S.N->B k (f k))/\∀k,k<S.N->f k<=1000000:=by
 refine yebp _ _ ?_;have b:=ybmu h a c;simp only[spcC,ybm,ybc]at b;simp only[c20,yeik,ydvh,spcC,ybm,ybc,clash,go_sem,zA,zB,zC];refine b.fnd (V:=fun f:Nat->Nat=>.tp [.sl 1 S.N fun k=>[.i .i64 (f k:Nat)],.i .i64 0]) (fun r f h=>h.1) fun r f a=>?_;simp only[ybj,clash,go_sem,zA,zB];exact⟨f,Sim.refl _,a.2⟩
end Sh
end
section
def chTo(perm:Nat->Bool)(e n:Nat):List Nat:=(zO n).filter fun s=>decide (s≠0/\s&&&e=s)&&perm s
def chP(perm:Nat->Bool)(e:Nat):List Nat:=chTo perm e 16
def nxB(e s:Nat):Nat:=((s+4294967296-e)%4294967296)&&&e
set_option maxRecDepth 100000 in
theorem ybja:∀e,e<16->e≠0->(4294967296-e)&&&e≠0/\(4294967296-e)&&&e<16/\((4294967296-e)&&&e)&&&e=(4294967296-e)&&&e/\∀t,t<16->t≠0->t&&&e=t->(4294967296-e)&&&e<=t:=by decide +kernel
set_option maxRecDepth 100000 in
theorem ybnv:((zO 16).all fun e=>(zO 16).all fun s=>s==0 || !(s&&&e==s)||(nxB e s==0&&(zO 16).all fun t=>!(t&&&e==t)||zDN t s)||(zCH s (nxB e s)&&zCH (nxB e s) 16&&(nxB e s&&&e==nxB e s)&&(zO 16).all fun t=>!(t&&&e==t)||zDN t s||zDN (nxB e s) t))=true:=by decide +kernel
theorem ybwo(e:Nat)(k:e<16)(s:Nat)(l:s<16)(i:s≠0)(j:s&&&e=s):(nxB e s=0/\∀t,t<16->t&&&e=t->t<=s)\/(s<nxB e s/\nxB e s<16/\nxB e s&&&e=nxB e s/\∀t,t<16->t&&&e=t->s<t->nxB e s<=t):=by
 have h:=List.all_eq_true.1 (List.all_eq_true.1 ybnv e (List.mem_range.2 k)) s (List.mem_range.2 l);rw[zAO,zAO,zAO]at h;rcases h with((h|h)|h)|h
 .exact absurd (beq_iff_eq.1 h) i
 .rw[zBH,beq_eq_false_iff_ne]at h;exact absurd j h
 .rw[zN,beq_iff_eq]at h;refine .inl ⟨h.1,fun t g f=>?_⟩;have:=List.all_eq_true.1 h.2 t (List.mem_range.2 g);rw[zAO,zBH,beq_eq_false_iff_ne]at this;exact this.elim (fun q=>absurd f q) zAB
 .rw[zN,zN,zN,beq_iff_eq]at h;obtain⟨⟨⟨a,b⟩,c⟩,d⟩:=h;have a:s+1<=nxB e s:=zAB a;have b:nxB e s+1<=16:=zAB b;refine .inr ⟨a,b,c,fun t g f m=>?_⟩;have:=List.all_eq_true.1 d t (List.mem_range.2 g);rw[zAO,zAO,zBH,beq_eq_false_iff_ne]at this;rcases this with(q|q)|q
  .exact absurd f q
  .have:=zAB q;omega
  .exact zAB q
theorem ynh{perm:Nat->Bool}{e n:Nat}:∀d,(∀t,n<=t->t<n+d->¬(t≠0/\t&&&e=t))->chTo perm e (n+d)=chTo perm e n
 |0,_=>rfl
 | d+1,h=>by
   have b:=ynh (perm:=perm) d fun t a c=>h t a (by omega)
   rw[<-b,<-zDA];unfold chTo;rw[zAV,zAG];have:=h (n+d) (by omega) (by omega)
   simp only[zAX,decide_eq_false this,Bool.false_and,zAM,if_false,zCS,zAN]
theorem ycfp{perm:Nat->Bool}{e s:Nat}(h:s≠0/\s&&&e=s):chTo perm e (s+1)=chTo perm e s++if perm s=true then[s]else[]:=by
 unfold chTo;rw[zAV,zAG];congr 1;cases a:perm s<;>simp only[zAX,decide_eq_true h,a,Bool.true_and,zCS]<;>rfl
theorem ybtr{perm:Nat->Bool}{e l:Nat}(h:∀t,t<l->¬(t≠0/\t&&&e=t)):chTo perm e l=[]:=by
 have:=ynh (perm:=perm) (n:=0) l fun t _ a=>h t (by omega)
 rw[zDD]at this;exact this
theorem ybtz{perm:Nat->Bool}{e n s:Nat}(h:s∈chTo perm e n):s<n/\s≠0/\s&&&e=s/\perm s=true:=by
 unfold chTo at h;rw[zBO,zBS,zN,decide_eq_true_iff]at h;exact⟨h.1,h.2.1.1,h.2.1.2,h.2.2⟩
theorem ybme(perm:Nat->Bool)(e n:Nat):(chTo perm e n).Pairwise (· < ·):=List.Pairwise.filter _ List.pairwise_lt_range
theorem ybdo(perm:Nat->Bool)(e n:Nat):(chTo perm e n).length<=n:=by
 have:=zAZ (fun s=>decide (s≠0/\s&&&e=s)&&perm s) (zO n);unfold chTo
 simpa using this
theorem ybst(perm:Nat->Bool):chP perm 0=[]:=by
 unfold chP;refine ybtr fun t _ h=>h.1 ?_;rw[<-h.2,Nat.and_zero]
theorem ydxn{perm:Nat->Bool}{e:Nat}(f:e<16)(a:e≠0)(g:perm ((4294967296-e)&&&e)=true):chP perm e≠[]:=fun h=>by
 obtain⟨b,c,d,_⟩:=ybja e f a
 have:((4294967296-e)&&&e)∈chP perm e:=by
  unfold chP chTo;rw[zBO,zBS,zN,decide_eq_true_iff];exact⟨c,⟨b,d⟩,g⟩
 rw[h]at this;cases this
theorem ydrd{a b:Nat}(c:a<2^32)(d:b<2^32):IntKind.wrap .u32 ((a:Int)-(b:Int))=(((a+4294967296-b)%4294967296:Nat):Int):=by
 unfold IntKind.wrap;simp[IntKind.bits,IntKind.signed];omega
namespace Sh
open Ev Go.RowKit
def usO(F:Nat)(L:List Nat):Nat×Fam:=(F,.one (some ⟨77,false,1,L.length,fun i=>[.i .u32 ((L.getD i 0:Nat):Int)]⟩))
theorem ydlp(L:List Nat)(x:Nat){i:Nat}(a:i<L.length+1):(if i<L.length then[SV.i .u32 ((L.getD i 0:Nat):Int)]else zCD 1 (zCE ((i-L.length)*1) [SV.i .u32 (x:Int)]))=[SV.i .u32 (((L++[x]).getD i 0:Nat):Int)]:=by
 by_cases q:i<L.length
 .rw[if_pos q];simp[zK,zW q]
 .obtain rfl:i=L.length:=by omega
  rw[if_neg q,zAD];simp[zK]
set_option maxHeartbeats 1000000 in
theorem ybni{net:List Nat}{kind:Int}(O:kind=2\/kind=3){e:Nat}(v:e<16){perm:Nat->Bool}(j:∀s,s≠0->s<16->s&&&e=s->Returns zF 171 [usV net,.i .i64 kind,.i .u32 (e:Nat),.i .u32 (s:Nat)] (.b (perm s))) :
 Returns zF 128 [usV net,.i .i64 kind,.i .u32 (e:Nat)] (.tp [usV (chP perm e),.i .i64 0]):=by
 refine Returns.of (ydqz _ _ ?_)
 by_cases D:e=0
 .subst D;rw[ybst];simp only[c128,yceo,ycbg,ydkc,usV,clash,zBL,go_sem,zA,zB];exact ybbg ⟨yboq,Sim.refl _,trivial⟩
 .have U : ((e:Int)==0)=false:=by rw[beq_eq_false_iff_ne];omega
  have Q:(kind==1)=false:=by rw[beq_eq_false_iff_ne];omega
  have R:(kind==4)=false:=by rw[beq_eq_false_iff_ne];omega
  have M:=ybfh (s:=e) (by omega)
  have P:popP e<=10:=(by decide +kernel:∀e,e<16->popP e<=10) e v
  have d1:decide (((popP e:Nat):Int)>10)=false:=by simp;omega
  have K:=u32_neg (a:=e) (by omega) (by omega)
  have q:=u32_and (a:=2^32-e) (b:=e) (by omega) (by omega)
  simp only[IntKind.bits]at q;obtain⟨x,H,I,J⟩:=ybja e v D
  change ((4294967296-e)&&&e)≠0 at x
  obtain⟨l,F⟩:∃l,(4294967296-e)&&&e=l:=⟨_,rfl⟩;have w:(2^32-e)&&&e=l:=F;rw[F]at x H I J;rw[w]at q;simp only[c128,yceo,ycbg,ydal,ydcm,ycuw,ycfo,ychk,usV,U,Q,R,clash,go_sem,zA,zB,zC];refine M.use ?_;simp only[ybj,ycbk,d1,K,q,IntKind.signed,clash,go_sem,zA,zB]
  refine ybe (σ:=Nat×List Nat) (fun y=>⟨[(10,.i .u32 (y.1:Nat)),(8,.pt (8,0) 0 0),(0,usV net),(1,.i .i64 kind),(2,.i .u32 (e:Nat))],[(8,.one (some ⟨38,true,1,1,fun _=>[.os (70,0) 0 y.2.length true]⟩)),usO 70 y.2]⟩)
   (fun y=>(y.1=0/\y.2=chP perm e)\/(y.1≠0/\y.1<16/\y.1&&&e=y.1/\y.2=chTo perm e y.1)) (fun y=>if y.1=0 then 0 else 16-y.1) (l,[]) (.inr ⟨x,H,I,(ybtr fun t V h=>by have:=J t (by omega) h.1 h.2;omega).symm⟩) ?_ ?_
  .refine yca [] [70] [] ?_;simp only[usV,usO,wk,go_sem,zA,zC,zQ];exact fun i _=>⟨(70,0),rfl,rfl,rfl⟩
  .rintro⟨s,L⟩ f;simp only at f;rcases f with⟨rfl,rfl⟩|⟨g,k,o,rfl⟩
   .simp only[ybmm,ycac,usV,usO,zBL,zY,clash,go_sem,zA,zB];exact Sim.refl _
   .simp only at g k o ⊢;have d2:((s:Int)!=0)=true:=by rw[bne_iff_ne];omega
    have C:=ydrd (a:=s) (b:=e) (by omega) (by omega)
    have m:=u32_and (a:=(s+4294967296-e)%4294967296) (b:=e) (by omega) (by omega)
    change _=((nxB e s:Nat):Int)at m
    simp only[IntKind.bits]at m;have E:=j s g k o;have c:=ycfp (perm:=perm) ⟨g,o⟩;have u:=ybdo perm e s
    have d:∀L,L=chTo perm e (s+1)->((nxB e s=0/\L=chP perm e)\/(nxB e s≠0/\nxB e s<16/\nxB e s&&&e=nxB e s/\L=chTo perm e (nxB e s)))/\(if nxB e s=0 then 0 else 16-nxB e s)<(if s=0 then 0 else 16-s):=fun L p=>by
     subst p;rw[if_neg g];rcases ybwo e v s k g o with⟨z,A⟩|⟨z,A,S,T⟩
     .refine⟨.inl ⟨z,?_⟩,by rw[if_pos z];omega⟩
      have:=ynh (perm:=perm) (e:=e) (n:=s+1) (16-(s+1)) fun t g k h=>by have:=A t (by omega) h.2;omega
      rw[show s+1+(16-(s+1))=16 by omega]at this
      exact this.symm
     .refine⟨.inr ⟨by omega,A,S,?_⟩,by rw[if_neg (by omega)];omega⟩
      have:=ynh (perm:=perm) (e:=e) (n:=s+1) (nxB e s-(s+1)) fun t g k h=>by have:=T t (by omega) h.2 (by omega);omega
      rw[show s+1+(nxB e s-(s+1))=nxB e s by omega]at this
      exact this.symm
    obtain⟨L,p⟩:∃L,chTo perm e s=L:=⟨_,rfl⟩;obtain⟨B,r⟩:∃L,chTo perm e (s+1)=L:=⟨_,rfl⟩;rw[p]at u c;rw[r]at c d;simp only[usV]at E;simp only[ybmm,yclb,usV,usO,d2,p,clash,go_sem,zA,zB];refine E.use ?_;cases G:perm s with
    | true =>
      rw[G,if_pos rfl]at c;simp only[ybj,ybpg,ycfu,C,m,clash,go_sem,zA,zB,zD,zC]
      repeat refine ybd ?_
      refine yu (nxB e s,B) (d _ rfl).1 (d _ rfl).2 ?_;refine yca [(70,fun i=>(51,i))] [] [] ?_;simp only[c,zI,wk,go_sem,zA,zC];exact fun i N=>yga (ydlp L s N)
    | false =>
      rw[G,if_neg (by decide),zAN]at c
      simp only[ybj,ybpg,C,m,clash,go_sem,zA,zB]
      repeat refine ybd ?_
      refine yu (nxB e s,B) (d _ rfl).1 (d _ rfl).2 ?_;refine yj ?_;simp only[c,wk,go_sem,zA,zC]
def indB(net:List Nat)(s:Nat):Bool:=(ybx s).all fun v=>net.getD v 0&&&s==0
theorem ybdw{net:List Nat}{s:Nat}(b:s<2^32):indB net s=true↔∀v,s.testBit v=true->net.getD v 0&&&s=0:=by
 unfold indB;rw[List.all_eq_true];refine⟨fun h v a=>?_,fun h v a=>beq_iff_eq.2 (h v (yzo.1 a).2)⟩
 have:v<32:=by
  refine zM fun q=>?_;rw[zBR (zCF b (zBU (by omega) (by omega)))]at a
  cases a
 exact beq_iff_eq.1 (h v (yzo.2 ⟨this,a⟩))
set_option maxHeartbeats 1000000 in
theorem ybyg{net:List Nat}{s:Nat}(y:s<2^24)(x:∀v,s.testBit v=true->v<net.length)(t:∀v,net.getD v 0<2^32) :
 Returns zF 206 [usV net,.i .u32 s] (.b (indB net s)):=by
 refine Returns.of (ycss [129] _ _ ?_);simp only[c206,ycxs,ydfq,usV,clash,go_sem,zA,zB,zC];refine yek (ybsb (s:=s)) [(1,60)] 0 [2,3,4] [2,3,4] ?_ ?_
 .simp only[to1,okN,ycl,yfk,yee,ydu,wk,go_sem,zA,zQ]
 rintro r B ⟨rfl,rfl⟩;simp only[setO,yoy,ymh,nuF,nu,difN,yee,ydu,Fam.ren,OB.ren,dim,yid,ycmu,ycmq,go_sem,zA,zQ]
 refine ylx (ybjc (b:=60) (s:=s) (by omega)) [(60,0),(2,0),(3,0),(4,0)] (fun i (_:Unit)=>⟨[(7,.fn 172 [] [.pt (60,0) 0 0]),(2,.pt (2,0) 0 0),(3,.pt (3,0) 0 0),(4,.pt (4,0) 0 0)],
  [(60,.one (some (setO (ydz s i)))),(2,.one (some ⟨83,true,1,1,fun _=>[usV net]⟩)),(3,.one (some ⟨77,true,1,1,fun _=>[.i .u32 s]⟩)),(4,.one (some ⟨4,true,1,1,fun _=>[.b false]⟩))]⟩)
  (fun i _=>i<=(ybx s).length/\∀j,j<i->net.getD ((ybx s).getD j 0) 0&&&s=0) () ⟨zH _,fun _ h=>absurd h (zBP _)⟩ ⟨fun _ h=>absurd h zAK,fun C h=>by rw[List.mem_singleton.1 h];exact zG⟩ ?_ (fun _=>rfl) ?_ ?_ ?_
 .refine yj ?_;simp only[setO,usV,ydz,wk,go_sem,zA,zC]
 .intro i _ w _;refine⟨rfl,?_⟩;simp only[go_sem,wk,go_sem,zA]
 .rintro i _ ⟨w,k⟩ d;have d:i<(ybx s).length:=d;obtain⟨m,c⟩:=ybqj y (getD_mem d);obtain⟨v,g⟩:∃v,(ybx s).getD i 0=v:=⟨_,rfl⟩;rw[g]at m c;have A:=x v c;have l:=u32_and (a:=net.getD v 0) (b:=s) (t v) (by omega)
  obtain⟨a,n⟩:∃a,net.getD v 0&&&s=a:=⟨_,rfl⟩;rw[n]at l;simp only[IntKind.bits]at l;refine⟨_,rfl,?_⟩;simp only[ybgp]
  by_cases q:a=0
  .have o:((a:Int)!=0)=false:=by rw[q];rfl
   simp only[ycls,ycic,usV,setO,g,l,o,clash,go_sem,zA,zB]
   repeat refine ybd ?_
   refine zBG ⟨d,fun j f=>?_⟩ ?_
   .by_cases e:j=i
    .rw[e,g,n,q]
    .exact k j (by omega)
   refine ybl [] [] [] ?_;simp only[wk,go_sem,zA,zC]
  .have o:((a:Int)!=0)=true:=by rw[bne_iff_ne];omega
   have u:indB net s=false:=by
    cases p:indB net s with
    |false=>rfl
    |true=>exact absurd (((ybdw (by omega)).1 p v c).symm.trans n) (fun r=>q r.symm)
   rw[u];simp only[ycls,ycic,ydku,usV,setO,g,l,o,splice,clash,go_sem,zA,zB]
   repeat refine ybd ?_
   exact Sim.refl _
 .rintro _ ⟨_,k⟩;have k:∀j,j<(ybx s).length->net.getD ((ybx s).getD j 0) 0&&&s=0:=k
  have z:indB net s=true:=List.all_eq_true.2 fun v g=>by
   obtain⟨j,f,rfl⟩:=zAT g;have:=k j f;rw[getD_at f]at this;exact beq_iff_eq.2 this
  rw[z];simp only[ydaz,ybgp,splice,go_sem,zA];exact Sim.refl _
theorem ybfc{net:List Nat}{e s:Nat}(m:e<2^24)(l:s≠0)(j:s<2^24)(c:difB s e=0)(h:∀v,s.testBit v=true->v<net.length)(g:∀v,net.getD v 0<2^32) :
 Returns zF 171 [usV net,.i .i64 2,.i .u32 e,.i .u32 s] (.b (indB net s)):=by
 refine Returns.of (ydqu _ _ ?_);have k:((s:Int)==0)=false:=by simp;omega
 have d:=u32_andNot (a:=s) (b:=e) (by omega) (by omega)
 have f:=ybyg j h g;rw[c]at d;simp only[usV]at f;simp only[zBL,IntKind.bits]at d;simp only[c171,ydda,yder,usV,k,d,zY,go_sem,zA,zB];simp only[ydgf,yddm,ydka,ydby,Int.reduceBEq,go_sem,zA,zB];refine f.use ?_;simp only[ybj,ybat,go_sem,zA,zB]
theorem ybrv{s e:Nat}(h:s&&&e=s):difB s e=0:=by
 unfold difB;rw[h,Nat.xor_self]
end Sh
end
section
namespace Ev
open Go Go.RowKit
noncomputable def ybgx(m:Mem)(A:Addr):Option Value:=match A.spot,m.b.get A.block with
 |none,some (.cells c n _ _)=>bif zCH A.off n then c.get A.off else none
 |_,_=>none
section
variable {φ φ':Phi}{M:AM}{w:World}{m:Mem}
theorem ybej{A:Addr}{v box:Value}(h:ybgx m A=some v)(r:VR φ (.pointer (some A)) box)(i:Rel φ M w)(p:Sub m M) :
 ∃b o s,box = .pointer (some ⟨b,o,none⟩)/\w.cell? ⟨b,o,none⟩=some s/\VR φ v s:=by
 unfold ybgx at h;split at h
 .rename_i c n e z q j
  rw[Bool.cond_eq_ite]at h;split at h
  .rename_i a
   have a:A.off<n:=zAB a;obtain⟨F,x,y,B,d,C,D,_,f,E,g⟩:=i.cellsAt (p _ _ j);obtain⟨s,t,u⟩:=g _ _ a h;cases r with
   |simple l=>cases l
   | ptr k =>
     rw[k]at d;cases d
     exact⟨_,_,s,rfl,cell_of f t,u⟩
  .cases h
 .cases h
end
abbrev ydti(x:Int×Int):Value:=.agg #[.int .i64 x.1,.int .i64 x.2]
set_option maxRecDepth 100000 in
set_option maxHeartbeats 1000000 in
theorem ycns{A:Addr}{v:Value}{us:List Value}:ItOk zF 133 [.pointer (some A)]
 ⟨us.length,fun k=>[.int .i64 ((us.length-1-k:Nat):Int),us.getD (us.length-1-k) undef],fun _ m=>ybgx m A=some v/\∃ft,rowOf m 1 v=some (us,ft),fun _ m=>m,fun _ _ M w R w'=>R=M/\w'=w⟩:=by
 refine⟨fun E w=>ybz ytb zDG rfl E w,fun k m hk hw _=>Grow.refl hw,?_,?_⟩
 .rintro k φ M w m R w' hk hw G K hp ⟨rfl,rfl⟩;exact Good.refl G K
 .intro l St a2 φ M w a3 a C d U H;obtain⟨box,rfl,f⟩:=yge H;obtain⟨m,G,K,N,ft,O⟩:=(a 0 φ M w U).2;obtain⟨b,o,s,rfl,V,L⟩:=ybej N f G K;obtain⟨As,cs,rfl,b0,b1⟩:=ycf (ybrw O L G K);have Hread:=zU a;have Hyield:=zU d;have Hbox:=zU f;have H0:=zU U
  clear a C d L U f G K N O
  refine callsIn_of_wp zDG rfl trivial ?_
  simp only[Tryz.ntmps133,zCK,zCO,zCT,zB,zDB,zBV,
   zBW,zCL,zBZ,zCU,zCP]
  gi_wp2
  gi_loopg [3] us.length (fun q t wr=>∃k:Nat,q+k=us.length/\t = .int .i64 ((us.length:Int)-1-k)/\Hid (∃φ' R,φ.le φ'/\St k φ' R wr))
  case atStart=>exact⟨0,by omega,by simp,zU ⟨φ,M,φ.le_refl,H0.out⟩⟩
  case round =>
   obtain⟨k,hq,rfl,D⟩:=hrel
   by_cases X:k<us.length
   .obtain⟨Q,M1,g,c⟩:=D.out;obtain⟨m1,z,h,N,a7,O⟩:=(Hread.out _ _ _ _ c).2;obtain⟨b',o',s',e1,S,y⟩:=ybej N (Hbox.out.mono g) z h;cases e1
    obtain⟨a5,a6,rfl,e2,e3,e4⟩:=ybrw O y z h;obtain⟨rb,ro,rfl,a9,e5⟩:=e4 (by omega)
    obtain⟨j,hj⟩:∃j,us.length-1-k=j:=⟨_,rfl⟩;have W:(us.length:Int)-1-k=(j:Int):=by omega
    have I:j<us.length:=by omega
    rw[W];obtain⟨r,Y,J⟩:=e5 j _ (zX I);rw[zBF]at Y;have a8:(decide ((j:Int)>=0))=true:=by simp
    obtain⟨fn,P,n,F,T,B⟩:=Hyield.out k Q M1 wr [.int .i64 (j:Int),r] X c (by
     show VRL Q [.int .i64 ((us.length-1-k:Nat):Int),us.getD (us.length-1-k) undef] _;rw[hj,Sh.getD_at I];exact .cons (.simple rfl) (.cons J .nil))
    have T:(Instr.yield l #[.int .i64 (j:Int),r]).run zF wr = .ok (.round l fn P n F) wr:=T;have a1:=zU c;have Hle1:=zU g
    clear D c g N O z h y e5 e4 J
    gi_wp2
    refine B.mono ?_;rintro e W3 (⟨rfl,a0,M3,p,_,x⟩|⟨rfl,i⟩)
    .have Hst3:=zU (x _ _ ⟨rfl,rfl⟩);have Hle3:=zU p
     clear x p B T
     gi_wp2
     gi_roundg (gk-1)
     case measure=>omega
     case rel =>
      refine⟨k+1,by omega,?_,zU ⟨a0,M3,Phi.le_trans Hle1.out Hle3.out,Hst3.out⟩⟩
      congr 1;omega
    .have Hstop:=zU i
     clear i B T
     gi_wp2
     refine bodyPost_ret (results_none rfl _ _ _) rfl ?_;exact⟨⟨_,rfl⟩,.inr Hstop.out⟩
   .gi_wp2
    obtain⟨Z,M2,a4,u⟩:=D.out
    go_end0
    have hk:k=us.length:=by omega
    rw[hk]at u;exact⟨⟨_,rfl⟩,.inl ⟨Z,M2,u⟩⟩
set_option maxRecDepth 100000 in
set_option maxHeartbeats 1000000 in
theorem ycpt{A:Addr}{v:Value}{ls:List (Int×Int)}:ItOk zF 134 [.pointer (some A)]
 ⟨ls.length,fun k=>[.int .i64 ((ls.length-1-k:Nat):Int),ydti (ls.getD (ls.length-1-k) (0,0))],fun _ m=>ybgx m A=some v/\yla m v=some ls,fun _ m=>m,fun _ _ M w P w'=>P=M/\w'=w⟩:=by
 refine⟨fun E w=>ybz ytb zDH rfl E w,fun k m hk hw _=>Grow.refl hw,?_,?_⟩
 .rintro k φ M w m P w' hk hw G I hp ⟨rfl,rfl⟩;exact Good.refl G I
 .intro l St a1 φ M w a2 a C d S H;obtain⟨box,rfl,f⟩:=yge H;obtain⟨m,G,I,K,L⟩:=(a 0 φ M w S).2;obtain⟨b,o,s,rfl,T,J⟩:=ybej K f G I;obtain⟨As,cs,rfl,b0,b1⟩:=ycf (ykl L J G I);have Hread:=zU a;have Hyield:=zU d;have Hbox:=zU f;have H0:=zU S
  clear a C d J S f G I K L
  refine callsIn_of_wp zDH rfl trivial ?_
  simp only[Tryz.ntmps134,zCK,zCO,zCT,zB,zDB,zBV,
   zBW,zCL,zBZ,zCU,zCP]
  gi_wp2
  gi_loopg [3] ls.length (fun q t wr=>∃k:Nat,q+k=ls.length/\t = .int .i64 ((ls.length:Int)-1-k)/\Hid (∃φ' P,φ.le φ'/\St k φ' P wr))
  case atStart=>exact⟨0,by omega,by simp,zU ⟨φ,M,φ.le_refl,H0.out⟩⟩
  case round =>
   obtain⟨k,hq,rfl,D⟩:=hrel
   by_cases W:k<ls.length
   .obtain⟨O,M1,g,c⟩:=D.out;obtain⟨m1,z,h,K,L⟩:=(Hread.out _ _ _ _ c).2;obtain⟨b',o',s',e1,Q,y⟩:=ybej K (Hbox.out.mono g) z h;cases e1
    obtain⟨a4,a5,rfl,e2,e3,e4⟩:=ykl L y z h;obtain⟨rb,ro,rfl,a9,e5⟩:=e4 (by omega)
    obtain⟨j,hj⟩:∃j,ls.length-1-k=j:=⟨_,rfl⟩;have U:(ls.length:Int)-1-k=(j:Int):=by omega
    have V:j<ls.length:=by omega
    rw[U];obtain⟨x,hx⟩:∃x,ls[j]?=some x:=⟨_,zX V⟩;obtain⟨a6,a7,_,_⟩:=e5 j x hx;have X:ls.getD j (0,0)=x:=by simp[zK,hx]
    have a8:(decide ((j:Int)>=0))=true:=by simp
    obtain⟨fn,N,n,F,R,B⟩:=Hyield.out k O M1 wr [.int .i64 (j:Int),.agg #[.int .i64 x.1,.int .i64 x.2]] W c (by
     show VRL O [.int .i64 ((ls.length-1-k:Nat):Int),ydti (ls.getD (ls.length-1-k) (0,0))] _;rw[hj,X];exact .cons (.simple rfl) (.cons (VR.ydg (v:=ydti x) rfl) .nil))
    have R:(Instr.yield l #[.int .i64 (j:Int),.agg #[.int .i64 x.1,.int .i64 x.2]]).run zF wr = .ok (.round l fn N n F) wr:=R;have a0:=zU c;have Hle1:=zU g
    clear D c g K L z h y e5 e4
    gi_wp2
    refine B.mono ?_;rintro e W3 (⟨rfl,Z,M3,p,_,u⟩|⟨rfl,i⟩)
    .have Hst3:=zU (u _ _ ⟨rfl,rfl⟩);have Hle3:=zU p
     clear u p B R
     gi_wp2
     gi_roundg (gk-1)
     case measure=>omega
     case rel =>
      refine⟨k+1,by omega,?_,zU ⟨Z,M3,Phi.le_trans Hle1.out Hle3.out,Hst3.out⟩⟩
      congr 1;omega
    .have Hstop:=zU i
     clear i B R
     gi_wp2
     refine bodyPost_ret (results_none rfl _ _ _) rfl ?_;exact⟨⟨_,rfl⟩,.inr Hstop.out⟩
   .gi_wp2
    obtain⟨Y,M2,a3,r⟩:=D.out
    go_end0
    have hk:k=ls.length:=by omega
    rw[hk]at r;exact⟨⟨_,rfl⟩,.inl ⟨Y,M2,r⟩⟩
end Ev
namespace Sh
open Ev
def bwdS(n:Nat)(e:Nat->SV):ItS:=⟨n,fun k=>[.i .i64 ((n-1-k:Nat):Int),e (n-1-k)],[],fun _ _=>True,fun _ o=>o⟩
theorem ybho{ls:List (Int×Int)}(t:∀l∈ls,I64 l.1/\I64 l.2):ItC zF 134 [.rf [yx ls]] (bwdS ls.length fun k=>.ag [.i .i64 (ls.getD k (0,0)).1,.i .i64 (ls.getD k (0,0)).2]):=by
 intro H F O s f m J G x _;obtain⟨u,rfl,y⟩:=rvl1 x;obtain⟨j,p,T,N,e,K,L,rfl,n,o,q,r,E⟩:=y.rf_inv;obtain⟨v,rfl,z⟩:=rvl1 r;have h:RV F om0 (yx ls) v:=z
 have c:∀d:Mem,Le F d.b.get->ybgx d ⟨j,p,none⟩=some v:=fun d g=>by
  unfold ybgx;simp only;rw[g _ _ n];simp only;rw[show zCH p N=true from zBT (show p+1<=N by simp at o;omega)]
  simp only[cond_true];exact q 0 (by simp)
 exact⟨_,ycpt (A:=⟨j,p,none⟩) (v:=v) (ls:=ls),rfl,fun C B I D d k g _ a hk _=>⟨⟨c d (g.trans a.sub),ybbs (g.trans a.sub) h t⟩,fun hk=>⟨.cons .i (.cons (.ag (.cons .i (.cons .i .nil))) .nil),a⟩⟩⟩
theorem ybgu{n:Nat}{e:Nat->SV}:ItC zF 133 [.rf [.sl 1 n fun k=>[e k]]] (bwdS n e):=by
 intro O F ω s f m us hc hr _;obtain⟨u,rfl,hu⟩:=rvl1 hr;obtain⟨C,p,T,N,ee,zz,L,rfl,X,Y,Z,h4,h5⟩:=hu.rf_inv;obtain⟨v,rfl,J⟩:=rvl1 h4
 have r:∀c:Mem,Le F c.b.get->ybgx c ⟨C,p,none⟩=some v:=fun c g=>by
  unfold ybgx;simp only;rw[g _ _ X];simp only;rw[show zCH p N=true from zBT (show p+1<=N by simp at Y;omega)]
  simp only[cond_true];exact Z 0 (by simp)
 have d:∀(us:List Value) (G:List Nat),(∀m:Mem,Le F m.b.get->rowOf m 1 v=some (us,G))->us.length=n->(∀(k:Nat) x,us[k]?=some x->RV F om0 (e k) x) ->
  ∃ T : It,ItOk zF 133 [.pointer (some ⟨C,p,none⟩)] T/\T.n=n /\
    ∀ (l:AM) (a:Om) (y:SS) (E:Fr) (c:Mem) (k:Nat),Le F l->(∀P∈(bwdS n e).pr,∀x,ω P=some x->a P=some x)->Conc O l a y E c->k<=n->(bwdS n e).own k y.o ->
      T.pre k c/\(k<n->RVL l a ((bwdS n e).el k) (T.el k)/\Conc O l a ⟨y.f,(bwdS n e).adv k y.o⟩ E (T.adv k c)):=fun us G t hl I=>by
  subst hl;refine⟨_,ycns (A:=⟨C,p,none⟩) (v:=v) (us:=us),rfl,fun l a y E c k g _ j hk _=>⟨⟨r c (g.trans j.sub),G,t c (g.trans j.sub)⟩,fun hk=>⟨.cons .i (.cons ?_ .nil),j⟩⟩⟩;have K:us.length-1-k<us.length:=by omega
  have h:=I (us.length-1-k) _ (zX K);rw[getD_at K];exact h.mono g (yui _)
 rcases J.sl_inv with⟨k0,hz⟩|⟨D,p',cp,T',N',e',a0,Q,rfl,S,g2,U,z,V,W,g7⟩
 .subst k0;exact d [] [] (fun m _=>row_zero hz 1) rfl (fun k x q=>by simp at q)
 .rcases Nat.eq_zero_or_pos n with H|H
  .subst H;exact d [] [] (fun m _=>rfl) rfl (fun k x q=>by simp at q)
  .refine d (yct Q n) [D] (fun m g=>row_of (g _ _ S) H U z V) (by rw[ycu z,zBF]) fun k x B=>?_
   have hk:k<n:=by
    have:=(List.getElem?_eq_some_iff.1 B).1;rw[ycu z,zBF]at this;exact this
   rw[ybkb z hk]at B;obtain⟨v,R,J⟩:=rvl1 (W k hk);rw[R]at B;cases B
   exact J
theorem ybjl{n:Nat}{e:Nat->SV}:Returns zF 67 [.sl 1 n fun k=>[e k]] (.fn 133 [] [.rf [.sl 1 n fun k=>[e k]]]):=by
 refine Returns.of (yeaj _ _ ?_);simp only[c67,yejc,ydxb,go_sem,zA,zB,zD,zC];exact Sim.refl _
theorem yblc{ls:List (Int×Int)}:Returns zF 68 [yx ls] (.fn 134 [] [.rf [yx ls]]):=by
 refine Returns.of (ydxt _ _ ?_);simp only[c68,yect,ydxs,go_sem,zA,zB,zD,zC];exact Sim.refl _
end Sh
end
section
def ypt(S:Spc)(p s t:Nat):Nat:=difB p s&&&S.en t
def ygm(S:Spc)(p s t:Nat):Nat:=if ypt S p s t=0 then S.en t else ypt S p s t
namespace Sh
open Ev Go.RowKit
theorem yzp{S:Spc}(h:S.ok){k p s t:Nat}(e:p<2^32)(j:s<2^32)(l:t<S.N) :
 Returns zF 76 [.ag (spcC S),.ag [.i .i64 (k:Nat),.i .u32 (p:Nat)],.ag [.i .u32 (s:Nat),.i .i64 (t:Nat)]] (.tp [.ag [.i .i64 (t:Nat),.i .u32 (ygm S p s t:Nat)],.b (decide (ypt S p s t=0))]):=by
 refine Returns.of (yebn _ _ ?_);have g:=h.le;have n:=h.lt t l;have d:=u32_andNot (a:=p) (b:=s) e j;have f:difB p s<2^32:=yty e;have c:=u32_and (a:=difB p s) (b:=S.en t) f (by omega)
 change _=((ypt S p s t:Nat):Int)at c
 simp only[IntKind.bits]at d c;obtain⟨x,m⟩:∃x,ypt S p s t=x:=⟨_,rfl⟩;unfold ygm;rw[m]at c ⊢
 by_cases q:x=0
 .have d1:((x:Int)==0)=true:=by rw[q];rfl
  rw[if_pos q,decide_eq_true q];simp only[c76,ydnr,ydtl,ydpl,yeba,spcC,ybm,d,c,d1,splice,clash,go_sem,zA,zB,zD,zC]
  repeat refine ybd ?_
  exact Sim.refl _
 .have d1:((x:Int)==0)=false:=by rw[beq_eq_false_iff_ne];omega
  rw[if_neg q,decide_eq_false q];simp only[c76,ydnr,ydtl,ydpl,yeej,spcC,ybm,d,c,d1,splice,clash,go_sem,zA,zB,zD,zC]
  repeat refine ybd ?_
  exact Sim.refl _
def ygq(Q:List (Nat×Nat)):Fam:=.one (some ⟨109,false,2,Q.length,fun i=>[.i .i64 ((Q.getD i (0,0)).1:Nat),.i .u32 ((Q.getD i (0,0)).2:Nat)]⟩)
def yfu(N:Nat)(lg:Nat->Bool)(seen:Nat->Bool)(Q:List (Nat×Nat)):Own :=
 [(301,.one (some ⟨45,true,1,1,fun _=>[ybc N lg]⟩)),(302,.one (some ⟨166,true,1,1,fun _=>[.mr (303,0)]⟩)),(303,.one (some ⟨CU,true,0,0,fun c=>[.b (seen c)]⟩)),
  (304,.one (some ⟨167,true,1,1,fun _=>[.os (305,0) 0 Q.length true]⟩)),(305,ygq Q)]
def addS(seen:Nat->Bool)(c:Nat):Nat->Bool:=fun d=>if d=c then true else seen d
theorem ycnl(Q:List (Nat×Nat))(x:Nat×Nat){i:Nat}(a:i<Q.length+1):(if i<Q.length then[SV.i .i64 ((Q.getD i (0,0)).1:Nat),SV.i .u32 ((Q.getD i (0,0)).2:Nat)]else zCD 2 (zCE ((i-Q.length)*2) [SV.i .i64 (x.1:Int),SV.i .u32 (x.2:Int)]))=[SV.i .i64 (((Q++[x]).getD i (0,0)).1:Nat),SV.i .u32 (((Q++[x]).getD i (0,0)).2:Nat)]:=by
 by_cases q:i<Q.length
 .rw[if_pos q];simp[zK,zW q]
 .obtain rfl:i=Q.length:=by omega
  rw[if_neg q,zAD];simp[zK]
theorem yrr{h:Nm->Nm}{a:List Nat}{c O:Own}{X:List SV}{k b:IntKind}{x y:Int}(e:X=[.i k x,.i b y]):telL h a [] c O X [.i k x,.i b y]:=by
 subst e;exact⟨.inl ⟨(yhn _ _ _).2 trivial,by rw[yec];exact Sim.refl _,rfl⟩,rfl,.inl ⟨(yhn _ _ _).2 trivial,by rw[yec];exact Sim.refl _,rfl⟩,rfl,trivial⟩
theorem yels(x:Bool):mval 0 (.b x)=true:=rfl
theorem yelg(n:Int):mval 1 (.i .i64 n)=true:=rfl
set_option maxHeartbeats 1000000 in
theorem yeiw{N:Nat}{lg:Nat->Bool}{seen:Nat->Bool}{Q:List (Nat×Nat)}(f:Q.length<=300000){k s:Nat}(hk:k<N)(d:N<=32768)(g:s<2^32) :
 Cm zF 137 [(301,0),(302,0),(304,0)] (yfu N lg seen Q) [.ag [.i .i64 (k:Nat),.i .u32 (s:Nat)],.pt (301,0) 0 0,.pt (302,0) 0 0,.pt (304,0) 0 0]
  fun r o=>r = .tp []/\o=if lg k=false/\seen (mkey k s)=false then yfu N lg (addS seen (mkey k s)) (Q++[(k,s)])else yfu N lg seen Q:=by
 refine yctu [(301,0),(302,0),(304,0)] [] _ _ _ ?_;cases c:lg k with
 | true =>
   rw[if_neg (fun q=>by cases q.1)]
   simp only[c137,ybqy,ybts,yfu,ygq,ybc,c,clash,yhq,go_sem,zA,zB,zD,zC]
   repeat refine ybd ?_
   refine⟨.tp [],yfu N lg seen Q,?_,?_,rfl,rfl⟩
   .refine ybl [] [] [] ?_;simp only[yfu,ygq,ybc,wk,go_sem,zA,zC]
   .simp only[yfu,ygq,ybc,ycl,yfk,wk,go_sem,zA]
 | false =>
   cases a:seen (mkey k s)with
   | true =>
     rw[if_neg (fun q=>by cases q.2)]
     simp only[c137,ybqy,ybts,yfu,ygq,ybc,c,a,clash,zCV,yhq,go_sem,zA,zB,zD,zC]
     repeat refine ybd ?_
     refine⟨.tp [],yfu N lg seen Q,?_,?_,rfl,rfl⟩
     .refine ybl [] [] [] ?_;simp only[yfu,ygq,ybc,wk,go_sem,zA,zC]
     .simp only[yfu,ygq,ybc,ycl,yfk,wk,go_sem,zA]
   | false =>
     rw[if_pos ⟨rfl,rfl⟩];simp only[c137,ybqy,ybts,ydij,ycxc,yfu,ygq,ybc,c,a,splice,clash,zCV,yels,yhq,go_sem,zA,zB,zD,zC]
     repeat refine ybd ?_
     refine⟨.tp [],yfu N lg (addS seen (mkey k s)) (Q++[(k,s)]),?_,?_,rfl,rfl⟩
     .refine ybl [(305,fun i=>(22,i))] [] [] ?_;simp only[yfu,ygq,ybc,zI,wk,go_sem,zA,zC];refine⟨⟨fun i=>?_,fun i b=>absurd b (by omega)⟩,fun i b=>yrr (ycnl Q (k,s) b)⟩
      unfold addS
      by_cases e:i=mkey k s
      .rw[if_pos e,if_pos e]
      .rw[if_neg e,if_neg e]
     .simp only[yfu,ygq,ybc,ycl,yfk,wk,go_sem,zA]
def ybag(lg:Nat->Bool)(x:(Nat->Bool)×List (Nat×Nat))(k s:Nat):(Nat->Bool)×List (Nat×Nat):=if lg k=false/\x.1 (mkey k s)=false then(addS x.1 (mkey k s),x.2++[(k,s)])else x
theorem ybgb{N:Nat}{lg:Nat->Bool}{x:(Nat->Bool)×List (Nat×Nat)}(d:x.2.length<=300000){k s:Nat}(hk:k<N)(c:N<=32768)(e:s<2^32) :
 Cm zF 137 [(301,0),(302,0),(304,0)] (yfu N lg x.1 x.2) [.ag [.i .i64 (k:Nat),.i .u32 (s:Nat)],.pt (301,0) 0 0,.pt (302,0) 0 0,.pt (304,0) 0 0]
  fun r o=>r = .tp []/\o=yfu N lg (ybag lg x k s).1 (ybag lg x k s).2:=by
 refine(yeiw d hk c e).mono fun r o ⟨a,b⟩=>⟨a,b.trans ?_⟩;unfold ybag
 by_cases q:lg k=false/\x.1 (mkey k s)=false
 .rw[if_pos q,if_pos q]
 .rw[if_neg q,if_neg q]
structure QI(N n:Nat)(lg:Nat->Bool)(x:(Nat->Bool)×List (Nat×Nat)):Prop where
 nd:x.2.Nodup
 lt:∀p∈x.2,p.1<N/\p.2<2^n/\lg p.1=false
 seen:∀p∈x.2,x.1 (mkey (p.1:Nat) (p.2:Nat))=true
theorem QI.start(N n:Nat)(lg:Nat->Bool):QI N n lg (fun _=>false,[]):=⟨List.nodup_nil,fun _ h=>(nomatch h),fun _ h=>(nomatch h)⟩
theorem QI.step{N n:Nat}{lg:Nat->Bool}{x:(Nat->Bool)×List (Nat×Nat)}(h:QI N n lg x){k s:Nat}(hk:k<N)(g:s<2^n):QI N n lg (ybag lg x k s):=by
 unfold ybag
 by_cases q:lg k=false/\x.1 (mkey k s)=false
 .rw[if_pos q];refine⟨List.nodup_append.2 ⟨h.nd,zBN _ _,fun a d b f=>?_⟩,fun p c=>?_,fun p c=>?_⟩
  .rw[List.mem_singleton.1 f];rintro rfl;have:=h.seen _ d;rw[q.2]at this;cases this
  .rcases List.mem_append.1 c with r|r
   .exact h.lt p r
   .rw[List.mem_singleton.1 r];exact⟨hk,g,q.1⟩
  .show(if _ then true else _)=true
   split
   .rfl
   .rcases List.mem_append.1 c with r|r
    .exact h.seen p r
    .rename_i e
     rw[List.mem_singleton.1 r]at e;exact absurd rfl e
 .rw[if_neg q];exact h
theorem ybrx{lg:Nat->Bool}{x:(Nat->Bool)×List (Nat×Nat)}{k s:Nat}:x.2.length<=(ybag lg x k s).2.length:=by
 unfold ybag;split
 .show _<=(x.2++[(k,s)]).length;rw[zI];omega
 .exact zAP _
theorem QI.len{N n:Nat}{lg:Nat->Bool}{x:(Nat->Bool)×List (Nat×Nat)}(h:QI N n lg x):x.2.length<=N*2^n:=by
 have g:∀p∈x.2,∀q∈x.2,p.1*2^n+p.2=q.1*2^n+q.2->p=q:=fun p f q t e=>by
  have c:=(h.lt p f).2.1;have j:=(h.lt q t).2.1;have k:(p.1*2^n+p.2)/2^n=p.1:=by rw[zZ,zCW (zCX n),zBI c];omega
  have l:(q.1*2^n+q.2)/2^n=q.1:=by rw[zZ,zCW (zCX n),zBI j];omega
  have i:p.1=q.1:=by rw[<-k,e,l]
  refine Prod.ext i ?_;rw[i]at e;omega
 have s:(x.2.map fun p=>p.1*2^n+p.2).Nodup:=by
  unfold List.Nodup;rw[zCI];exact h.nd.imp_of_mem fun {a b} o r d e=>d (g a o b r e)
 have:=ykh (l2:=zO (N*2^n)) s fun y u=>by
  obtain⟨p,f,rfl⟩:=List.mem_map.1 u;obtain⟨c,j,-⟩:=h.lt p f;refine List.mem_range.2 ?_;have m:(p.1+1)*2^n<=N*2^n:=zBA _ c;rw[zCM]at m;omega
 simpa using this
end Sh
end
section
def tabT(n:Nat)(a:List VarR)(b:Nat->VarR->Int×Int):List (List (Int×Int)):=(zO n).map fun v=>a.map (b v)
theorem yhz(n:Nat)(a:List VarR)(b:Nat->VarR->Int×Int):(tabT n a b).length=n:=by simp[tabT]
theorem ybmg{n:Nat}{a:List VarR}{b:Nat->VarR->Int×Int}{v:Nat}(c:v<n):(tabT n a b).getD v []=a.map (b v):=by simp[tabT,zK,c]
structure TabOk(T:List (List (Int×Int))):Prop where
 bd:bdT T
 sm:∀r∈T,∀b∈r,-1000000<=b.1/\b.2<=1000000
 len:T.length<=24
 row:∀r∈T,0<r.length/\r.length<=6
 tot:ybn T<=32768
theorem yjm:∀(a b:List (Int×Int)),ybs (a++b)=ybs a*ybs b
 |[],b=>by simp[ybs]
 | x::a,b=>by
   show szP x*ybs (a++b)=szP x*ybs a*ybs b;rw[yjm a b,zAI]
theorem yhg:∀(a b:List (List (Int×Int))),ybn (a++b)=ybn a*ybn b
 |[],b=>by simp[ybn]
 | x::a,b=>by
   show ybs x*ybn (a++b)=ybs x*ybn a*ybn b;rw[yhg a b,zAI]
def pTo(T:List (List (Int×Int)))(v i:Nat):Nat:=ybn (T.take v)*ybs ((T.getD v []).take i)
section
variable {T:List (List (Int×Int))}{v i:Nat}
theorem yiz{a:Type}{l:List a}{k:Nat}{d:a}(h:k<l.length):l.getD k d=l[k]:=by simp[zK,h]
theorem ycsc:pTo T 0 0=1:=by simp[pTo,ybn,ybs]
theorem ycof(a:i<(T.getD v []).length):pTo T v (i+1)=pTo T v i*szP ((T.getD v []).getD i (0,0)):=by
 unfold pTo;rw[zS a,yjm,yiz a,zAI];simp[ybs]
theorem ycro(a:v<T.length):pTo T v (T.getD v []).length=pTo T (v+1) 0:=by
 unfold pTo;rw[zAA,zS a,yhg,yiz a];simp[ybn,ybs]
theorem ydnh:pTo T T.length 0=ybn T:=by simp[pTo,ybs]
theorem ycli(h:bdT T):bdR (T.getD v []):=by
 by_cases a:v<T.length
 .rw[yiz a];exact h _ (zT _)
 .rw[zK,List.getElem?_eq_none (by omega)];exact fun _ h=>nomatch h
theorem ybvw(h:bdR (T.getD v []))(i:Nat):ybs ((T.getD v []).take i)<=ybs (T.getD v []):=by
 conv=>rhs;rw[<-zAH i (T.getD v []),yjm]
 exact zAW _ (ynd fun b a=>h b (zBX a))
theorem yefv(h:bdT T)(a:v<T.length)(i:Nat):pTo T v i<=ybn T:=by
 have c:pTo T v i<=ybn (T.take (v+1)):=by
  rw[zS a,yhg];unfold pTo;have:=ybvw (T:=T) (v:=v) (ycli h) i;rw[yiz a]at this ⊢;have e:ybn [T[v]]=ybs T[v]:=by simp[ybn]
  rw[e];exact zAL _ this
 refine zAF c ?_
 conv=>rhs;rw[<-zAH (v+1) T,yhg]
 exact zAW _ (ysj fun b d=>h b (zBX d))
theorem TabOk.at_(h:TabOk T)(f:v<T.length):(0<(T.getD v []).length/\(T.getD v []).length<=6)/\∀i,i<(T.getD v []).length->((T.getD v []).getD i (0,0)).1<=((T.getD v []).getD i (0,0)).2 /\ -1000000<=((T.getD v []).getD i (0,0)).1/\((T.getD v []).getD i (0,0)).2<=1000000:=by
 have e:=yiz (d:=[]) f;have a:T.getD v []∈T:=by rw[e];exact zT _
 refine⟨h.row _ a,fun i c=>?_⟩;have b:(T.getD v []).getD i (0,0)∈T.getD v []:=by rw[yiz c];exact zT _
 exact⟨h.bd _ a _ b,h.sm _ a _ b⟩
end
theorem yph:∀{bs:List (Int×Int)}{xs:List Int},inR bs xs↔xs.length=bs.length/\∀i,i<bs.length->(bs.getD i (0,0)).1<=xs.getD i 0/\xs.getD i 0<=(bs.getD i (0,0)).2
 |[],[]=>⟨fun _=>⟨rfl,fun i h=>by simp at h⟩,fun _=>trivial⟩
 |[],_::_=>⟨fun h=>h.elim,fun h=>by simp at h⟩
 |_::_,[]=>⟨fun h=>h.elim,fun h=>by simp at h⟩
 | b :: bs,x::xs=>by
   show(_/\inR bs xs)↔_;rw[yph];constructor
   .rintro⟨c,a,e⟩;refine⟨by simp[a],fun i d=>?_⟩
    cases i with
    |zero=>exact c
    |succ i=>exact e i (by simpa using d)
   .rintro⟨c,a⟩;exact⟨a 0 (by simp),by simpa using c,fun i d=>a (i+1) (by simpa using d)⟩
theorem ymm:∀{rs:List (List (Int×Int))}{c:Conf},inT rs c↔c.length=rs.length/\∀v,v<rs.length->inR (rs.getD v []) (c.getD v [])
 |[],[]=>⟨fun _=>⟨rfl,fun i h=>by simp at h⟩,fun _=>trivial⟩
 |[],_::_=>⟨fun h=>h.elim,fun h=>by simp at h⟩
 |_::_,[]=>⟨fun h=>h.elim,fun h=>by simp at h⟩
 | b :: f,x::j=>by
   show(_/\inT f j)↔_;rw[ymm];constructor
   .rintro⟨d,a,g⟩;refine⟨by simp[a],fun i e=>?_⟩
    cases i with
    |zero=>exact d
    |succ i=>exact g i (by simpa using e)
   .rintro⟨d,a⟩;exact⟨a 0 (by simp),by simpa using d,fun i e=>a (i+1) (by simpa using e)⟩
def tabP(p:ProgT)(g:Gr):List (List (Int×Int)):=tabT g.ids.length p.vars (ybk g)
theorem yjd{p:ProgT}{g:Gr}{c:Conf}:yfe p g c=true↔inT (tabP p g) c:=by
 unfold yfe;rw[ygh,ymm];unfold tabP;rw[yhz];refine and_congr_right fun r=>⟨fun h v j=>?_,fun h v n e=>?_⟩
 .rw[ybmg j];obtain⟨a,k⟩:=h v (c.getD v []) (by rw[yiz (by omega)];exact zX (by omega))
  refine yph.2 ⟨a,fun i f=>?_⟩;have a:(c.getD v []).length=(p.vars.map (ybk g v)).length:=a;have d:i<(c.getD v []).length:=by omega
  exact k i _ _ (by rw[yiz f];exact zX f) (by rw[yiz d];exact zX d)
 .have j:v<g.ids.length:=by have:=(List.getElem?_eq_some_iff.1 e).1;omega
  have a:=h v j;rw[ybmg j,show c.getD v []=n by simp[zK,e]]at a
  obtain⟨k,o⟩:=yph.1 a;refine⟨k,fun i b x m q=>?_⟩;have f:=(List.getElem?_eq_some_iff.1 m).1;have l:=o i f;rw[show(p.vars.map (ybk g v)).getD i (0,0)=b by simp only[zK,m,zCQ],show n.getD i 0=x by simp only[zK,q,zCQ]]at l
  exact l
end
section
theorem ybmq:∀(bs:List (Int×Int)) (k:Nat),(unR bs k).1.length=bs.length
 |[],_=>rfl
 |b::bs,k=>by show(unR bs k).1.length+1=_;rw[ybmq bs k];rfl
theorem ycaa:∀(rs:List (List (Int×Int))) (k:Nat),(unT rs k).1.length=rs.length
 |[],_=>rfl
 |r::rs,k=>by show(unT rs k).1.length+1=_;rw[ycaa rs k];rfl
theorem ycch:∀(rs:List (List (Int×Int))) (k v:Nat),v<rs.length->((unT rs k).1.getD v []).length=(rs.getD v []).length
 |[],_,_,h=>by simp at h
 |r::rs,k,0,_=>ybmq r _
 |r::rs,k,v+1,h=>ycch rs k v (by simpa using h)
def rowU(bs:List (Int×Int))(k x t:Nat):Int:=if t<bs.length-x then(bs.getD t (0,0)).1 else(unR (bs.drop (bs.length-x)) k).1.getD (t-(bs.length-x)) 0
def kU(bs:List (Int×Int))(k x:Nat):Nat:=(unR (bs.drop (bs.length-x)) k).2
theorem ydva(bs:List (Int×Int))(k:Nat):kU bs k 0=k:=by unfold kU;rw[zBM,zAY];rfl
theorem yefk(bs:List (Int×Int))(k:Nat):kU bs k bs.length=(unR bs k).2:=by unfold kU;rw[zAD];rfl
theorem ycly(bs:List (Int×Int))(k:Nat){t:Nat}(a:t<bs.length):rowU bs k 0 t=(bs.getD t (0,0)).1:=by unfold rowU;rw[if_pos (by omega)]
theorem ycui(bs:List (Int×Int))(k t:Nat):rowU bs k bs.length t=(unR bs k).1.getD t 0:=by unfold rowU;rw[if_neg (by omega),zAD];rfl
section
variable {bs:List (Int×Int)}{k x i:Nat}
theorem drop_at{b:Type}{l:List b}{i:Nat}(d:b)(a:i<l.length):l.drop i=l.getD i d::l.drop (i+1):=by rw[List.drop_eq_getElem_cons a,yiz a]
theorem ycef(d:x<bs.length)(c:i=bs.length-1-x):unR (bs.drop (bs.length-(x+1))) k=(((bs.getD i (0,0)).1+((kU bs k x%szP (bs.getD i (0,0)):Nat):Int))::(unR (bs.drop (bs.length-x)) k).1,kU bs k x/szP (bs.getD i (0,0))):=by
 have a:bs.length-(x+1)=i:=by omega
 have b:bs.length-x=i+1:=by omega
 unfold kU;rw[a,b,drop_at (0,0) (show i<bs.length by omega)]
 rfl
theorem ydsb(b:x<bs.length)(a:i=bs.length-1-x):kU bs k (x+1)=kU bs k x/szP (bs.getD i (0,0)):=by
 show(unR _ k).2=_;rw[ycef b a]
theorem ycft(b:x<bs.length)(a:i=bs.length-1-x)(t:Nat):rowU bs k (x+1) t=if t=i then(bs.getD i (0,0)).1+((kU bs k x%szP (bs.getD i (0,0)):Nat):Int)else rowU bs k x t:=by
 unfold rowU
 by_cases e:t=i
 .rw[if_pos e,if_neg (by omega),ycef b a,show t-(bs.length-(x+1))=0 by omega]
  rfl
 .rw[if_neg e]
  by_cases q:t<i
  .rw[if_pos (by omega),if_pos (by omega)]
  .rw[if_neg (by omega),if_neg (by omega),ycef b a,show t-(bs.length-(x+1))=(t-(bs.length-x))+1 by omega]
   rfl
theorem yctg(b:x<bs.length)(a:i=bs.length-1-x):rowU bs k x i=(bs.getD i (0,0)).1:=by unfold rowU;rw[if_pos (by omega)]
end
def lowT(T:List (List (Int×Int)))(v:Nat):List Int:=(T.getD v []).map (·.1)
theorem ybeb(T:List (List (Int×Int)))(v:Nat):(lowT T v).length=(T.getD v []).length:=by simp[lowT]
theorem ydnp{T:List (List (Int×Int))}{v t:Nat}(a:t<(T.getD v []).length):(lowT T v).getD t 0=((T.getD v []).getD t (0,0)).1:=by
 unfold lowT;rw[yiz (by simpa using a),yiz a];simp
theorem yyy{T:List (List (Int×Int))}{v:Nat}(a:v<T.length):(yry T).getD v []=lowT T v:=by
 unfold yry lowT;rw[yiz (by simpa using a),yiz a];simp
def cU(T:List (List (Int×Int)))(k q j:Nat):List Int:=if j<T.length-q then lowT T j else(unT (T.drop (T.length-q)) k).1.getD (j-(T.length-q)) []
def kT(T:List (List (Int×Int)))(k q:Nat):Nat:=(unT (T.drop (T.length-q)) k).2
theorem ydpg(T:List (List (Int×Int)))(k:Nat):kT T k 0=k:=by unfold kT;rw[zBM,zAY];rfl
theorem ycma(T:List (List (Int×Int)))(k:Nat){j:Nat}(a:j<T.length):cU T k 0 j=lowT T j:=by unfold cU;rw[if_pos (by omega)]
theorem yeie(T:List (List (Int×Int)))(k j:Nat):cU T k T.length j=(unT T k).1.getD j []:=by unfold cU;rw[if_neg (by omega),zAD];rfl
section
variable {T:List (List (Int×Int))}{k q v:Nat}
theorem ycgb(c:q<T.length)(d:v=T.length-1-q):unT (T.drop (T.length-(q+1))) k=((unR (T.getD v []) (kT T k q)).1::(unT (T.drop (T.length-q)) k).1,(unR (T.getD v []) (kT T k q)).2):=by
 have a:T.length-(q+1)=v:=by omega
 have b:T.length-q=v+1:=by omega
 unfold kT;rw[a,b,drop_at [] (show v<T.length by omega)]
 rfl
theorem ydqw(a:q<T.length)(b:v=T.length-1-q):kT T k (q+1)=(unR (T.getD v []) (kT T k q)).2:=by
 show(unT _ k).2=_;rw[ycgb a b]
theorem ydox(a:q<T.length)(b:v=T.length-1-q)(j:Nat):cU T k (q+1) j=if j=v then(unR (T.getD v []) (kT T k q)).1 else cU T k q j:=by
 unfold cU
 by_cases e:j=v
 .rw[if_pos e,if_neg (by omega),ycgb a b,show j-(T.length-(q+1))=0 by omega]
  rfl
 .rw[if_neg e]
  by_cases w:j<v
  .rw[if_pos (by omega),if_pos (by omega)]
  .rw[if_neg (by omega),if_neg (by omega),ycgb a b,show j-(T.length-(q+1))=(j-(T.length-q))+1 by omega]
   rfl
theorem ydzr(a:q<T.length)(b:v=T.length-1-q):cU T k q v=lowT T v:=by unfold cU;rw[if_pos (by omega)]
theorem yefm(c:q<=T.length){j:Nat}(b:j<T.length):(cU T k q j).length=(T.getD j []).length:=by
 unfold cU;split
 .exact ybeb T j
 .rename_i w
  have a:=ycch (T.drop (T.length-q)) k (j-(T.length-q)) (by rw[List.length_drop];omega)
  rw[a];congr 1;simp only[zK,List.getElem?_drop];rw[show T.length-q+(j-(T.length-q))=j by omega]
theorem ydta:∀(bs:List (Int×Int)) (k:Nat),(unR bs k).2<=k
 |[],_=>zAP _
 |b::bs,k=>zAF (zCY _ _) (ydta bs k)
theorem ydvm:∀(rs:List (List (Int×Int))) (k:Nat),(unT rs k).2<=k
 |[],_=>zAP _
 |r::rs,k=>zAF (ydta r _) (ydvm rs k)
end
def ybwf(bs:List (Int×Int))(xs:List Int)(i:Nat):Prop:=∀t,i<=t->t<bs.length->¬xs.getD t 0<(bs.getD t (0,0)).2
def ycbm(T:List (List (Int×Int)))(c:Conf)(v:Nat):Prop:=∀j,v<=j->j<T.length->ybwf (T.getD j []) (c.getD j []) 0
theorem yzb:∀{bs:List (Int×Int)}{xs:List Int},xs.length=bs.length->ybwf bs xs 0->advR bs xs=(bs.map (·.1),false)
 |[],[],_,_=>rfl
 |[],_::_,h,_=>by simp at h
 |_::_,[],h,_=>by simp at h
 | b::bs,x::xs,h,a=>by
   have e:=yzb (bs:=bs) (xs:=xs) (by simpa using h) fun t _ d=>a (t+1) (by omega) (by simpa using d)
   have c:¬x<b.2:=a 0 (by omega) (by simp)
   unfold advR;rw[e];simp[c]
theorem ybcm:∀{bs:List (Int×Int)}{xs:List Int}{i:Nat},xs.length=bs.length->i<bs.length->ybwf bs xs (i+1)->xs.getD i 0<(bs.getD i (0,0)).2 ->
 (advR bs xs).2=true/\(advR bs xs).1.length=bs.length/\∀t,t<bs.length->(advR bs xs).1.getD t 0=if t<i then xs.getD t 0 else if t=i then xs.getD i 0+1 else(bs.getD t (0,0)).1
 |[],_,i,_,h,_,_=>by simp at h
 |_::_,[],_,h,_,_,_=>by simp at h
 | b :: bs,x::xs,0,h,_,c,e=>by
   have d:xs.length=bs.length:=by simpa using h
   have p:=yzb d fun t _ a=>c (t+1) (by omega) (by simpa using a)
   have j:x<b.2:=e;unfold advR;rw[p];simp only[zAM,if_false,if_pos j];refine⟨trivial,by simp,fun t a=>?_⟩
   cases t with
   |zero=>rfl
   | succ t =>
     rw[if_neg (by omega),if_neg (by omega)]
     show(bs.map (·.1)).getD t 0=(bs.getD t (0,0)).1;rw[yiz (by simpa using a),yiz (by simpa using a)];simp
 | b :: bs,x::xs,i+1,h,o,c,e=>by
   have d:xs.length=bs.length:=by simpa using h
   obtain⟨f,l,m⟩:=ybcm (i:=i) d (by simpa using o) (fun t f a=>c (t+1) (by omega) (by simpa using a)) e
   unfold advR;rw[f];simp only[if_true];refine⟨trivial,by simp[l],fun t a=>?_⟩
   cases t with
   |zero=>rw[if_pos (by omega)];rfl
   | succ t =>
     have n:=m t (by simpa using a)
     show(advR bs xs).1.getD t 0=_;rw[n]
     by_cases q:t<i
     .rw[if_pos q,if_pos (by omega)];rfl
     .by_cases g:t=i
      .rw[if_neg q,if_pos g,if_neg (by omega),if_pos (by omega)];rfl
      .rw[if_neg q,if_neg g,if_neg (by omega),if_neg (by omega)];rfl
theorem yxx:∀{T:List (List (Int×Int))}{c:Conf},c.length=T.length->(∀j,j<T.length->(c.getD j []).length=(T.getD j []).length)->ycbm T c 0->advT T c=(yry T,false)
 |[],[],_,_,_=>rfl
 |[],_::_,h,_,_=>by simp at h
 |_::_,[],h,_,_=>by simp at h
 | b::bs,x::xs,h,d,a=>by
   have l:=yxx (T:=bs) (c:=xs) (by simpa using h) (fun j f=>d (j+1) (by simpa using f)) fun t _ g=>a (t+1) (by omega) (by simpa using g)
   have e:=yzb (bs:=b) (xs:=x) (d 0 (by simp)) (a 0 (by omega) (by simp))
   unfold advT;rw[l,e];simp[yry]
theorem ybdh:∀{T:List (List (Int×Int))}{c:Conf}{v:Nat},c.length=T.length->(∀j,j<T.length->(c.getD j []).length=(T.getD j []).length)->v<T.length->ycbm T c (v+1)->(advR (T.getD v []) (c.getD v [])).2=true ->
 (advT T c).2=true/\(advT T c).1.length=T.length/\∀j,j<T.length->(advT T c).1.getD j []=if j<v then c.getD j []else if j=v then(advR (T.getD v []) (c.getD v [])).1 else lowT T j
 |[],_,i,_,_,h,_,_=>by simp at h
 |_::_,[],_,h,_,_,_,_=>by simp at h
 | b :: bs,x::d,0,h,l,_,e,m=>by
   have g:d.length=bs.length:=by simpa using h
   have y:=yxx g (fun j f=>l (j+1) (by simpa using f)) fun t _ a=>e (t+1) (by omega) (by simpa using a)
   have p:(advR b x).2=true:=m;unfold advT;rw[y];simp only[zAM,if_false];refine⟨p,by simp[yry],fun t a=>?_⟩
   cases t with
   |zero=>rfl
   | succ t =>
     rw[if_neg (by omega),if_neg (by omega)]
     exact yyy (T:=bs) (by simpa using a)
 | b :: bs,x::d,i+1,h,l,w,e,m=>by
   have g:d.length=bs.length:=by simpa using h
   obtain⟨n,r,s⟩:=ybdh (v:=i) g (fun j f=>l (j+1) (by simpa using f)) (by simpa using w) (fun t n a=>e (t+1) (by omega) (by simpa using a)) m
   unfold advT;rw[n];simp only[if_true];refine⟨trivial,by simp[r],fun t a=>?_⟩
   cases t with
   |zero=>rw[if_pos (by omega)];rfl
   | succ t =>
     have u:=s t (by simpa using a)
     show(advT bs d).1.getD t []=_;rw[u]
     by_cases q:t<i
     .rw[if_pos q,if_pos (by omega)];rfl
     .by_cases o:t=i
      .rw[if_neg q,if_pos o,if_neg (by omega),if_pos (by omega)];rfl
      .rw[if_neg q,if_neg o,if_neg (by omega),if_neg (by omega)];rfl
end
section
namespace Sh
open Ev Go.RowKit
theorem ybwc(n:Nat)(a:List VarR)(b:Nat->VarR->Int×Int):Sim (ybby n a b) (yg (tabT n a b)):=by
 unfold ybby yg;rw[yhz];refine yej fun v d=>⟨⟨?_,trivial⟩,rfl⟩;rw[ybmg d];unfold yx;rw[zBC];refine ybln fun i c=>?_
 have e:(a.map (b v)).getD i (0,0)=b v (a.getD i default):=by
  rw[yiz (by simpa using c),yiz c];simp
 rw[e]
theorem yof{b c:(Nat->Option ABlk)->Value->Prop}{p:ProgT}{g:Gr}(h:Checked b c p g):Returns zF 63 [.ag (yfz b c p.raw),grV g] (yg (tabP p g)):=by
 have a:=h.hp;unfold ProgT.ok at a;simp only[zN,decide_eq_true_eq]at a;have d:=ybgy p.raw h.hg a.1.1.2 a.1.1.1.2;exact Returns.of ((d.use (ybwc _ _ _)).simL ⟨ybkx _ _ _,Sim.refl _,trivial⟩)
theorem ybbr{T:List (List (Int×Int))}(h:TabOk T):Returns zF 64 [yg T] (.tp [.i .i64 (ybn T:Nat),.i .i64 0]):=by
 refine Returns.of (yedf _ _ ?_);have q:=h.len;have t:=h.tot;simp only[c64,ydzh,ydyw,yeak,yg,clash,go_sem,zB,↓reduceIte,reduceCtorEq];refine ybe (σ:=Nat) (fun v=>⟨[(11,.i .i64 v),(10,.i .i64 (T.length:Nat)),(9,yg T),(4,.i .i64 (pTo T v 0:Nat))],[]⟩) (fun v=>v<=T.length) (fun v=>T.length-v) 0 (zH _) ?_ ?_
 .refine yj ?_;simp only[yg,ycsc,wk,go_sem,zA,↓reduceIte,reduceCtorEq];rfl
 .intro v B
  by_cases c:v<T.length
  .have d1:=dec_lt c;obtain⟨y,p⟩:=h.at_ c;have g:=fun i=>yefv h.bd c i;have k:=fun i=>ycof (T:=T) (v:=v) (i:=i);have j:=ycro c;obtain⟨row,d⟩:∃r,T.getD v []=r:=⟨_,rfl⟩;rw[d]at y p k j;simp only[ydsu,ydvf,ydvp,yg,yx,d1,d,clash,go_sem,zA,zB,↓reduceIte,reduceCtorEq]
   repeat refine ybd ?_
   refine ybe (σ:=Nat) (fun i=>⟨[(17,.i .i64 i),(16,.i .i64 (row.length:Nat)),(15,yx row),(11,.i .i64 v),(10,.i .i64 (T.length:Nat)),(9,yg T),(4,.i .i64 (pTo T v i:Nat))],[]⟩) (fun i=>i<=row.length) (fun i=>row.length-i) 0 (zH _) ?_ ?_
   .refine yj ?_;simp only[yg,yx,wk,go_sem,zA,↓reduceIte,reduceCtorEq]
   .intro i z
    by_cases a:i<row.length
    .have d2:=dec_lt a;obtain⟨m,n,o⟩:=p i a;have A:=g (i+1);have x:=g i;have s:=k i a;obtain⟨⟨u,f⟩,e⟩:∃b,row.getD i (0,0)=b:=⟨_,rfl⟩;rw[e]at m n o s;simp only at m n o;have l:=(yqn (b:=(u,f)) m).2;simp only at l;have w:((pTo T v i:Nat):Int)*(f-u+1)=((pTo T v (i+1):Nat):Int):=by rw[s,zV,l]
     have d3:decide (((pTo T v (i+1):Nat):Int)>32768)=false:=by simp;omega
     simp only[ydmm,yeic,yeco,yefo,ydjd,yg,yx,d2,e,w,d3,splice,clash,go_sem,zAC,zA,zB,zD,zC,zAJ,↓reduceIte,reduceCtorEq]
     repeat refine ybd ?_
     refine yu (i+1) a (by omega) ?_
     refine yj ?_;simp only[wk,go_sem,zA,↓reduceIte,reduceCtorEq];omega
    .obtain rfl:i=row.length:=by omega
     simp only[ydmm,ydil,yg,yx,zJ,clash,go_sem,zA,zB,↓reduceIte,reduceCtorEq]
     repeat refine ybd ?_
     refine yu (v+1) c (by omega) ?_
     refine yj ?_;simp only[j,wk,go_sem,zA,↓reduceIte,reduceCtorEq];omega
  .obtain rfl:v=T.length:=by omega
   simp only[ydsu,yddg,zJ,ydnh,go_sem,zA,zB,↓reduceIte,reduceCtorEq];exact Sim.refl _
theorem ycep{b c:(Nat->Option ABlk)->Value->Prop}{p:ProgT}{g:Gr}(h:Checked b c p g)(f:TabOk (tabP p g)):Returns zF 56 [.ag (yfz b c p.raw),grV g] (.tp [.i .i64 (ybn (tabP p g):Nat),.i .i64 0]):=by
 refine Returns.of (yehu _ _ ?_);have d:=ybdj p h.hg h.hp h.hf h.hV h.gv;have a:=yof h;have e:=ybbr f;simp only[yfz,grV]at d a;simp only[c56,yehv,yegs,yfz,grV,clash,go_sem,zA,zB,zC];refine d.use ?_;simp only[ybj,yeeq,yebe,clash,zY,go_sem,zA,zB];refine a.use ?_;simp only[go_sem];refine e.use ?_;simp only[go_sem];exact Sim.refl _
theorem ygr{ρ:List (Nat×(Nat->Nm))}{b O:Own}{a:Nm}{p n:Nat}{ap:Bool}{X:List SV}(d:live O a=true)(c:X=[.os (rid ρ a) p n ap]):telL (rid ρ) [] [] b O X [.os a p n ap]:=by
 subst c;refine⟨.inl ⟨(yhn _ _ _).2 trivial,by rw[yec];exact Sim.refl _,?_⟩,rfl,trivial⟩
 show(live O a && !(zDO a.1 []))=true;rw[d];rfl
theorem yje{h:Nm->Nm}{b O:Own}{X:List SV}(c:X=[.a (.slice none 0 0)]):telL h [] [] b O X [.a (.slice none 0 0)]:=by
 subst c;exact⟨.inl ⟨(yhn _ _ _).2 trivial,by rw[yec];exact Sim.refl _,rfl⟩,rfl,trivial⟩
def intO(l:List Int):OB:=⟨3,false,1,l.length,fun i=>[.i .i64 (l.getD i 0)]⟩
theorem yco{l:List Int}{c:OB}{h:Nm->Nm}{b d:Own}(a:(c.e=3/\c.bx=false/\c.z=1/\c.n=l.length)/\∀i,i<l.length->c.g i=[.i .i64 (l.getD i 0)]) :
 (c.e=(intO l).e/\c.bx=(intO l).bx/\c.z=(intO l).z/\c.n=(intO l).n)/\(mapE (intO l).e=true->∀i,c.g i=(intO l).g i)/\∀i,i<(intO l).n->telL h [] [] b d (c.g i) ((intO l).g i) :=
 ⟨a.1,fun q=>absurd (show false=true from q) zCG,fun i f=>yga (a.2 i f)⟩
theorem ycr(l:List Int):((intO l).e=3/\(intO l).bx=false/\(intO l).z=1/\(intO l).n=l.length)/\∀i,i<l.length->(intO l).g i=[.i .i64 (l.getD i 0)]:=⟨⟨rfl,rfl,rfl,rfl⟩,fun _ _=>rfl⟩
theorem yda{i n:Nat}{x b:OB}(h:(if i<n then some x else none)=some b):i<n/\b=x:=by
 split at h
 .cases h;exact⟨by assumption,rfl⟩
 .cases h
def ycw(n:Nat)(w:Nat->List Int):Fam:=.many fun v=>if v<n then some (intO (w v))else none
def ybt(F G n:Nat)(w:Nat->List Int):Own:=[(F,.one (some ⟨22,false,1,n,fun v=>[.os (G,v) 0 (w v).length true]⟩)),(G,ycw n w)]
theorem ycqw{ρ:List (Nat×(Nat->Nm))}{G n v:Nat}{w:Nat->List Int}{a O:Own}{X:List SV}(d:v<n)(b:lookO O (G,v)=if v<n then some (intO (w v))else none)(c:X=[.os (rid ρ (G,v)) 0 (w v).length true]):telL (rid ρ) [] [] a O X [.os (G,v) 0 (w v).length true] :=
 ygr (by unfold live;rw[b,if_pos d];rfl) c
theorem ylw{l:List Int}{p:Nm->Bool}:∀i,i<(intO l).n->((intO l).g i).all (cln p 5)=true:=fun _ _=>rfl
theorem ydy{h:Nm->Nm}{a d:Own}{n i:Nat}{w:Nat->List Int}{b:OB}(f:(if i<n then some (intO (w i))else none)=some b):∃c,(if i<n then some (intO (w i))else none)=some c/\(c.e=b.e/\c.bx=b.bx/\c.z=b.z/\c.n=b.n)/\(mapE b.e=true->∀i,c.g i=b.g i)/\∀i,i<b.n->telL h [] [] a d (c.g i) (b.g i):=by
 obtain⟨j,rfl⟩:=yda f;exact⟨_,if_pos j,yco (ycr _)⟩
theorem ykm{h h':Nm->Nm}{a d:Own}{n i:Nat}{w:Nat->List Int}{b:OB}(f:(if i<n then some (intO (w i))else none)=some b):∃c,(match (if i<n then some (intO (w i))else none)with|some b=>some (OB.ren h' b)|none=>none)=some c/\(c.e=b.e/\c.bx=b.bx/\c.z=b.z/\c.n=b.n)/\(mapE b.e=true->∀i,c.g i=b.g i)/\∀i,i<b.n->telL h [] [] a d (c.g i) (b.g i):=by
 obtain⟨j,rfl⟩:=yda f;exact⟨OB.ren h' (intO (w i)),by rw[if_pos j],yco ⟨⟨rfl,rfl,rfl,rfl⟩,fun _ _=>rfl⟩⟩
def boxT(F:Nat)(T:List (List (Int×Int))):Nat×Fam:=(F,.one (some ⟨84,true,1,1,fun _=>[yg T]⟩))
set_option maxHeartbeats 1000000 in
theorem ybqi{T:List (List (Int×Int))}(h:TabOk T){f:FuncId}(z:∀v,v<T.length->∀i,i<(T.getD v []).length->Returns zF f [.i .i64 (v:Nat),.i .i64 (i:Nat),.rf [yg T]] (.i .i64 ((T.getD v []).getD i (0,0)).1)) :
 Cm zF 65 [(301,0)] [boxT 301 T] [yg T,.fn f [] [.pt (301,0) 0 0]] fun r o=>r = .os (302,0) 0 T.length true/\o=boxT 301 T::ybt 302 303 T.length (lowT T):=by
 refine ydrl [(301,0)] [] _ _ _ ?_;have y:=h.len;have s:∀v,(lowT T v).length=(T.getD v []).length:=ybeb T;simp only[c65,yefe,yegp,yehf,yg,boxT,clash,go_sem,zA,zB,zC,↓reduceIte,reduceCtorEq]
 repeat refine ybd ?_
 let p:Nat->Nat×Fam:=fun k=>(303,.many fun v=>if v<k then some (intO (lowT T v))else none)
 refine ybe (σ:=Nat) (fun k=>⟨[(13,.i .i64 k),(12,.i .i64 (T.length:Nat)),(0,yg T),(1,.fn f [] [.pt (301,0) 0 0]),(5,.os (10,0) 0 T.length true),(11,yg T)],
  [boxT 301 T,(10,.one (some ⟨22,false,1,T.length,fun v=>if v<k then[.os (303,v) 0 (T.getD v []).length true]else[.a (.slice none 0 0)]⟩)),p k]⟩) (fun k=>k<=T.length) (fun k=>T.length-k) 0 (zH _) ?_ ?_
 .refine ybl [] [] [] ?_;simp only[p,boxT,yg,zBP,wk,go_sem,zA,zC,↓reduceIte,reduceCtorEq]
 .intro k hk
  by_cases n:k<T.length
  .have d1 := dec_lt n;obtain⟨B,g⟩:=h.at_ n;obtain⟨row,d⟩:∃r,T.getD k []=r:=⟨_,rfl⟩;rw[d]at B g;have A:lowT T k=row.map (·.1):=by unfold lowT;rw[d]
   simp only[ydpu,yeel,ydyi,yecb,p,boxT,yg,yx,d1,d,clash,go_sem,zA,zB,zC,↓reduceIte,reduceCtorEq]
   repeat refine ybd ?_
   refine ybe (σ:=Nat) (fun i=>⟨[(30,.i .i64 i),(29,.i .i64 (row.length:Nat)),(6,.i .i64 k),(13,.i .i64 k),(12,.i .i64 (T.length:Nat)),(0,yg T),(1,.fn f [] [.pt (301,0) 0 0]),(5,.os (10,0) 0 T.length true),(11,yg T)],
    [boxT 301 T,(10,.one (some ⟨22,false,1,T.length,fun v=>if v=k then[.os (23,0) 0 row.length true]else if v<k then[.os (303,v) 0 (T.getD v []).length true]else[.a (.slice none 0 0)]⟩)),(23,.one (some ⟨3,false,1,row.length,fun j=>[.i .i64 (if j<i then(row.getD j (0,0)).1 else 0)]⟩)),p k]⟩) (fun i=>i<=row.length) (fun i=>row.length-i) 0 (zH _) ?_ ?_
   .refine ybl [] [] [] ?_;simp only[p,boxT,yg,yx,zBP,wk,go_sem,zA,zC,↓reduceIte,reduceCtorEq];refine⟨fun _ _ _ _ e=>e,fun v u=>?_,fun v b g=>⟨b,g,?_⟩⟩
    .by_cases q:v=k
     .simp only[if_pos q];exact ygr rfl rfl
     .by_cases m:v<k
      .simp only[if_neg q,if_pos m];exact ygr (by show(if v<k then some (intO (lowT T v))else none).isSome=true;rw[if_pos m];rfl) rfl
      .simp only[if_neg q,if_neg m];exact yje rfl
    .obtain⟨q,rfl⟩:=yda g;exact yco (ycr _)
   .intro i t
    by_cases l:i<row.length
    .have d2:=dec_lt l;have w:=z k n i (by rw[d];exact l)
     rw[d]at w;simp only[yg,yx]at w;simp only[ydou,ydzs,yedp,ycut,p,boxT,yg,yx,d2,clash,go_sem,zA,zB,zD,↓reduceIte,reduceCtorEq]
     repeat refine ybd ?_
     refine .inl (w.use ?_);simp only[ybj,splice,clash,go_sem,zA,zB,↓reduceIte,reduceCtorEq]
     repeat refine ybd ?_
     refine yu (i+1) l (by omega) ?_
     refine ybl [] [] [] ?_;simp only[wk,go_sem,zA,zC,↓reduceIte,reduceCtorEq];refine⟨fun _ _ _ _ e=>e,by omega,fun v u=>?_,fun j C=>yga ?_,fun v b g=>⟨b,g,?_⟩⟩
     .by_cases q:v=k
      .simp only[if_pos q];exact ygr rfl rfl
      .by_cases m:v<k
       .simp only[if_neg q,if_pos m];exact ygr (by show(if v<k then some (intO (lowT T v))else none).isSome=true;rw[if_pos m];rfl) rfl
       .simp only[if_neg q,if_neg m];exact yje rfl
     .by_cases e:j=i
      .subst e;rw[if_pos rfl,if_pos (by omega)]
      .rw[if_neg e]
       by_cases x:j<i
       .rw[if_pos x,if_pos (by omega)]
       .rw[if_neg x,if_neg (by omega)]
     .obtain⟨q,rfl⟩:=yda g;exact yco (ycr _)
    .obtain rfl:i=row.length:=by omega
     simp only[ydou,ydib,p,boxT,yg,yx,zJ,clash,go_sem,zA,zB,↓reduceIte,reduceCtorEq]
     repeat refine ybd ?_
     refine yu (k+1) n (by omega) ?_
     refine ybl [(303,fun v=>if v=k then(23,0)else(303,v))] [] [] ?_
     simp only[wk,go_sem,zA,zC,↓reduceIte,reduceCtorEq];refine⟨?_,by omega,fun v u=>?_,fun v b g=>?_⟩
     .repeat' apply zBG
      all_goals first|exact fun i _=>ybgi (by decide) (by decide)|exact fun i _=>yuj (by decide) (by decide)|exact fun i _ j _=>ybco (by decide)
     .by_cases q:v=k
      .subst q;simp only[↓reduceIte,if_pos (Nat.lt_succ_self v),d];exact ygr (by show(if v<v+1 then some (intO (lowT T v))else none).isSome=true;rw[if_pos (by omega)];rfl) (by simp only[go_sem,↓reduceIte])
      .by_cases m:v<k
       .simp only[if_neg q,if_pos m,if_pos (show v<k+1 by omega)]
        exact ygr (by show(if v<k+1 then some (intO (lowT T v))else none).isSome=true;rw[if_pos (by omega)];rfl) (by simp only[q,go_sem,↓reduceIte])
       .simp only[if_neg q,if_neg m,if_neg (show ¬v<k+1 by omega)];exact yje rfl
     .obtain⟨u,rfl⟩:=yda g
      by_cases q:v=k
      .subst q;simp only[go_sem,zA,↓reduceIte];refine yco (c:=⟨3,false,1,row.length,fun j=>[.i .i64 (if j<row.length then(row.getD j (0,0)).1 else 0)]⟩) ⟨⟨rfl,rfl,rfl,by rw[s,d]⟩,fun i t=>?_⟩
       have t:i<row.length:=by rw[s,d]at t;exact t
       rw[ydnp (by rw[d];exact t),d]
       simp only[if_pos t]
      .simp only[q,go_sem,zA,↓reduceIte];exact⟨_,if_pos (by omega),yco (ycr _)⟩
  .obtain rfl:k=T.length:=by omega
   simp only[ydpu,ydjf,p,boxT,yg,zJ,yhq,go_sem,zA,zB,↓reduceIte,reduceCtorEq];refine⟨.os (302,0) 0 T.length true,boxT 301 T::ybt 302 303 T.length (lowT T),?_,?_,rfl,rfl⟩
   .refine ybl [(302,fun i=>(10,i))] [] [] ?_;simp only[ybt,ycw,boxT,yg,wk,go_sem,zA,zC,↓reduceIte,reduceCtorEq];refine⟨fun _ _ _ _ e=>e,fun v u=>?_,fun v b g=>ydy g⟩;rw[if_pos u,<-ybeb];exact ycqw u rfl rfl
   .simp only[ybt,boxT,yg,ycw,ycl,yfk,wk,go_sem,zA,↓reduceIte];exact⟨fun k hk=>by rw[if_pos hk],fun i b g=>(yda g).2▸ylw⟩
theorem ybxp{T:List (List (Int×Int))}{v i:Nat}(b:v<T.length)(a:i<(T.getD v []).length):Returns zF 125 [.i .i64 (v:Nat),.i .i64 (i:Nat),.rf [yg T]] (.i .i64 ((T.getD v []).getD i (0,0)).1):=by
 refine Returns.of (ydno _ _ ?_);simp only[c125,ydbb,ydbe,yg,yx,clash,go_sem,zAC,zA,zB,zD,zAJ]
 repeat refine ybd ?_
 exact Sim.refl _
theorem ybnk{T:List (List (Int×Int))}{v i:Nat}(b:v<T.length)(a:i<(T.getD v []).length):Returns zF 66 [.i .i64 (v:Nat),.i .i64 (i:Nat),.rf [yg T]] (.i .i64 ((T.getD v []).getD i (0,0)).1):=by
 refine Returns.of (ydwv _ _ ?_);simp only[c66,yebi,yefa,yg,yx,clash,go_sem,zAC,zA,zB,zD,zAJ]
 repeat refine ybd ?_
 exact Sim.refl _
set_option maxHeartbeats 1000000 in
theorem ycos{j l:(Nat->Option ABlk)->Value->Prop}{p:ProgT}{g:Gr}(h:Checked j l p g)(q:TabOk (tabP p g)) :
 Cm zF 59 [] [] [.ag (yfz j l p.raw),grV g] fun r o=>r = .tp [.os (302,0) 0 (tabP p g).length true,.i .i64 0]/\o=ybt 302 303 (tabP p g).length (lowT (tabP p g)):=by
 refine ydml [] [65] _ _ _ ?_;have n:=ybdj p h.hg h.hp h.hf h.hV h.gv;have a:=yof h;have m:=ybqi q (f:=125) fun v d i s=>ybxp d s
 generalize tabP p g=T at a m q
 simp only[yfz,grV]at n a;simp only[c59,yede,ydww,yfz,grV,clash,go_sem,zA,zB,zC,zQ,↓reduceIte,reduceCtorEq];refine n.use ?_;simp only[ybj,ydwx,yeck,ydvl,clash,zY,go_sem,zA,zB,zC,zQ,↓reduceIte,reduceCtorEq];refine a.use ?_;simp only[go_sem,↓reduceIte]
 repeat refine ybd ?_
 refine yek m [(301,7),(302,72),(303,73)] 400 [] [] ?_ ?_
 .simp only[boxT,to1,okN,ycl,yfk,yee,ydu,wk,go_sem,zB,zC,↓reduceIte,reduceCtorEq]
 rintro r t ⟨rfl,rfl⟩;simp only[boxT,ybt,yoy,ymh,nuF,nu,difN,yee,ydu,Fam.ren,OB.ren,dim,ykv,go_sem,zA,zB,zQ,↓reduceIte,reduceCtorEq];simp only[yhq,go_sem];refine⟨.tp [.os (302,0) 0 T.length true,.i .i64 0],ybt 302 303 T.length (lowT T),?_,?_,rfl,rfl⟩
 .refine ybl [(302,fun i=>(72,i)),(303,fun i=>(73,i))] [] [] ?_;simp only[ybt,ycw,wk,go_sem,zA,zC,↓reduceIte,reduceCtorEq];exact⟨fun _ _ _ _ e=>e,fun v d=>by rw[if_pos d],fun i b c=>ykm (h':=nu [(301,7),(302,72),(303,73)] 400) c⟩
 .simp only[ybt,ycw,ycl,yfk,wk,go_sem,zA,↓reduceIte];exact⟨fun k hk=>by rw[if_pos hk],fun i b c=>(yda c).2▸ylw⟩
end Sh
end
section
def rowL(bs:List (Int×Int))(k x:Nat):List Int:=(zO bs.length).map (rowU bs k x)
theorem ybeq(bs:List (Int×Int))(k x:Nat):(rowL bs k x).length=bs.length:=by simp[rowL]
theorem yzd{bs:List (Int×Int)}{k x t:Nat}(a:t<bs.length):(rowL bs k x).getD t 0=rowU bs k x t:=by simp[rowL,zK,a]
theorem ywm{l l':List Int}(h:l.length=l'.length)(c:∀t,t<l.length->l.getD t 0=l'.getD t 0):l=l':=by
 refine List.ext_getElem h fun t a b=>?_;have:=c t a
 rwa [yiz a,yiz b]at this
theorem ybzy(bs:List (Int×Int))(k:Nat):rowL bs k 0=bs.map (·.1):=ywm (by simp[rowL]) fun t a=>by
 have a:t<bs.length:=by simpa[rowL]using a
 rw[yzd a,ycly bs k a];simp[zK,a]
theorem ycts(bs:List (Int×Int))(k:Nat):rowL bs k bs.length=(unR bs k).1:=ywm (by rw[ybeq,ybmq]) fun t a=>by
 rw[yzd (by simpa[rowL]using a),ycui]
namespace Sh
open Ev Go.RowKit
section
variable {Q1 Q2:(Nat->Option ABlk)->Value->Prop}{p:ProgT}{g:Gr}
set_option maxHeartbeats 4000000 in
theorem ybxv(h:Checked Q1 Q2 p g)(O:TabOk (tabP p g)){k0:Nat}(hk:k0<ybn (tabP p g)):Returns zF 15 [.ag (yfz Q1 Q2 p.raw),grV g,.i .i64 (k0:Nat)] (.tp [ydi (unT (tabP p g) k0).1,.i .i64 0]):=by
 refine Returns.of (ydqb [65] _ _ ?_);have hF:=ybdj p h.hg h.hp h.hf h.hV h.gv;have I:=yof h;have hB:=ybqi O (f:=66) fun v z i F=>ybnk z F;have hC:=ybbr O;have H:=O.tot;have X:=O.len
 generalize tabP p g=T at I hB O hC hk H X ⊢
 obtain⟨N,hN⟩:∃N,ybn T=N:=⟨_,rfl⟩;rw[hN]at hC hk H;simp only[yfz,grV]at hF I;have d1:decide ((k0:Int)<0)=false:=by simp
 have d2:decide ((k0:Int)>=(N:Int))=false:=by simp;omega
 simp only[c15,ydzw,ydyg,yfz,grV,clash,go_sem,zA,zB,zC,zQ];refine hF.use ?_;simp only[ybj,yebf,yebd,ydyj,clash,zY,go_sem,zA,zB,zC,zQ];refine I.use ?_;simp only[go_sem]
 repeat refine ybd ?_
 refine hC.use ?_;simp only[yejj,ydvu,ycvp,clash,zY,d1,d2,go_sem,zA,zB]
 repeat refine ybd ?_
 refine yek hB [(301,9),(302,72),(303,73)] 400 [9,5] [5] ?_ ?_
 .simp only[boxT,to1,okN,ycl,yfk,yee,ydu,wk,go_sem,zA,zB,zC,zQ]
 rintro r o' ⟨rfl,rfl⟩;simp only[boxT,ybt,yoy,ymh,nuF,nu,difN,yee,ydu,Fam.ren,OB.ren,dim,ykv,go_sem,zA,zB,zC,zQ];simp only[ydft,yg,go_sem,zA,zB,zQ]
 repeat refine ybd ?_
 refine(ybjl (n:=T.length) (e:=fun v=>yx (T.getD v []))).use ?_;simp only[ybj,clash,go_sem]
 let d:(Nat->List Int)->Nat->Own:=fun w k=>(5,.one (some ⟨3,true,1,1,fun _=>[.i .i64 (k:Nat)]⟩))::(12,.one (some ⟨46,true,1,1,fun _=>[.os (72,0) 0 T.length true]⟩))::ybt 72 73 T.length w
 refine ylx (ybgu (n:=T.length) (e:=fun v=>yx (T.getD v []))) [(12,0),(5,0)] (fun q (_:Unit)=>⟨[(46,.fn 133 [] [.rf [yg T]]),(12,.pt (12,0) 0 0),(5,.pt (5,0) 0 0)],d (cU T k0 q) (kT T k0 q)⟩)
  (fun q _=>q<=T.length) () (zH _) ⟨fun _ h=>absurd h zAK,fun β h=>absurd h zAK⟩ ?_ (fun _=>rfl) ?_ ?_ ?_
 .refine yj ?_;simp only[d,ybt,ycw,yg,ydpg,wk,go_sem,zA,zC];refine⟨fun _ _ _ _ e=>e,fun v z=>?_,fun v b B=>?_⟩
  .rw[ycma T k0 z];exact⟨Sim.refl _,by rw[if_pos z]⟩
  .obtain⟨z,rfl⟩:=yda B;rw[ycma T k0 z];exact ykm (w:=lowT T) (h':=nu [(301,9),(302,72),(303,73)] 400) (if_pos z)
 .intro i _ F _;refine⟨trivial,?_⟩;simp only[yg,wk,go_sem,zA]
 .intro q _ hq C;have C:q<T.length:=C;obtain⟨v,z⟩:∃v,T.length-1-q=v:=⟨_,rfl⟩;have a3:v<T.length:=by omega
  refine⟨_,rfl,?_⟩;simp only[bwdS,z];simp only[ydcb,ycuv,ydko,d,ybt,yg,splice,clash,go_sem,zA,zB,zC,zQ];refine(yblc (ls:=T.getD v [])).use ?_;obtain⟨hr,B⟩:=O.at_ a3
  have hI:∀l∈T.getD v [],I64 l.1/\I64 l.2:=fun l hl=>by
   obtain⟨i,F,rfl⟩:=zAT hl;have:=B i F;rw[yiz F]at this;unfold I64;omega
  have J:=ydox (k:=k0) C z.symm;have a4:=ydzr (k:=k0) C z.symm;have L:=ydqw (k:=k0) C z.symm;have Y:lowT T v=(T.getD v []).map (·.1):=rfl;have S:=fun {j}=>yefm (k:=k0) (q:=q) hq (j:=j);have a6:kT T k0 q<=k0:=ydvm _ _;obtain⟨m,W⟩:∃m,kT T k0 q=m:=⟨_,rfl⟩;rw[W]at J L a6;obtain⟨a,R⟩:∃a,T.getD v []=a:=⟨_,rfl⟩;rw[R]at hr B hI J L Y;simp only[ybj,clash,R,go_sem]
  refine ylx (ybho (ls:=a) hI) [(12,0),(5,0),(13,0)] (fun x (_:Unit)=>⟨[(50,.fn 134 [] [.rf [yx a]]),(12,.pt (12,0) 0 0),(5,.pt (5,0) 0 0),(13,.pt (13,0) 0 0)],(13,.one (some ⟨3,true,1,1,fun _=>[.i .i64 (v:Nat)]⟩))::d (fun j=>if j=v then rowL a m x else cU T k0 q j) (kU a m x)⟩)
   (fun x _=>x<=a.length) () (zH _) ⟨fun β h=>(by rcases List.mem_cons.1 h with r|r;rw[r];exact zG;rw[List.mem_singleton.1 r];exact zL _ zG),fun β h=>absurd h zAK⟩ ?_ (fun _=>rfl) ?_ ?_ ?_
  .refine ybl [] [] [] ?_
   have e0:∀j,(if j=v then rowL a m 0 else cU T k0 q j)=cU T k0 q j:=fun j=>by
    by_cases e:j=v
    .rw[if_pos e,ybzy,e,a4,Y]
    .rw[if_neg e]
   simp only[d,ybt,ycw,ydva,e0,W,wk,go_sem,zA,zC];exact⟨fun _ _ _ _ e=>e,fun j u=>by rw[if_pos u],fun j b B=>ydy B⟩
  .intro x _ hx _;refine⟨trivial,?_⟩;simp only[yx,wk,go_sem,zA]
  .intro x _ hx o;have o:x<a.length:=o;obtain⟨i,F⟩:∃i,a.length-1-x=i:=⟨_,rfl⟩;have V:i<a.length:=by omega
   refine⟨_,rfl,?_⟩;simp only[bwdS,F];obtain⟨b1,b2,b3⟩:=B i V;have D:=ycft (k:=m) o F.symm;have M:=yctg (k:=m) o F.symm;have s:=ydsb (k:=m) o F.symm;obtain⟨⟨P,K⟩,Q⟩:∃b,a.getD i (0,0)=b:=⟨_,rfl⟩;rw[Q]at b1 b2 b3 D M s;simp only at b1 b2 b3 M;have G:=yqn (b:=(P,K)) b1;obtain⟨A,a2⟩:∃A,szP (P,K)=A:=⟨_,rfl⟩;rw[a2]at G D s;simp only at G D;have a1:K-P+1=(A:Int):=G.2.symm;have a5:kU a m x<=m:=ydta _ _;obtain⟨y,hy⟩:∃y,kU a m x=y:=⟨_,rfl⟩
   rw[hy]at D s a5;have Z:(y:Int).tmod (A:Int)=((y%A:Nat):Int):=rfl;have U:(y:Int).tdiv (A:Int)=((y/A:Nat):Int):=rfl;have a7:(rowL a m x).getD i 0=P:=by rw[yzd V,M]
   have a0:=ybeq a m x;have b0:y%A<A:=zCR _ G.1;have a9:y/A<=y:=zCY _ _;simp only[ycvm,ycxg,ycur,ydbj,ydhw,d,ybt,ycw,intO,if_pos a3,a0,hy,a7,Q,a1,Z,U,splice,clash,go_sem,zAC,zA,zB,zD,zC,zAJ]
   repeat refine ybd ?_
   refine zBG ⟨by omega,ikw (by omega) (by omega)⟩ ?_
   repeat refine ybd ?_
   refine ybl [] [] [] ?_
   have hw:∀t,t<a.length->(if t=i then[SV.i .i64 (P+((y%A:Nat):Int))]else[SV.i .i64 ((rowL a m x).getD t 0)])=[SV.i .i64 ((rowL a m (x+1)).getD t 0)]:=fun t ht=>by
    rw[yzd ht,yzd ht,D]
    by_cases e:t=i
    .rw[if_pos e,if_pos e]
    .rw[if_neg e,if_neg e]
   have E:=ybeq a m (x+1);simp only[s,wk,go_sem,zA,zC];refine⟨fun _ _ _ _ e=>e,fun j u=>?_,fun j b B=>?_⟩
   .by_cases e:j=v
    .subst e;simp only[a0,E,if_pos u,wk,go_sem]
    .simp only[e,if_pos u,wk,go_sem]
   .obtain⟨u,rfl⟩:=yda (x:=intO (if j=v then rowL a m (x+1)else cU T k0 q j)) B
    by_cases e:j=v
    .subst e;simp only[go_sem];exact yco (l:=rowL a m (x+1)) (c:=⟨3,false,1,a.length,fun t=>if t=i then[SV.i .i64 (P+((y%A:Nat):Int))]else[SV.i .i64 ((rowL a m x).getD t 0)]⟩) ⟨⟨rfl,rfl,rfl,E.symm⟩,fun t ht=>hw t (by rw[E]at ht;exact ht)⟩
    .simp only[e,go_sem];exact⟨_,if_pos u,yco (l:=cU T k0 q j) (ycr _)⟩
  .intro _ _
   have e0:∀j,(if j=v then rowL a m a.length else cU T k0 q j)=cU T k0 (q+1) j:=fun j=>by
    rw[J]
    by_cases e:j=v
    .rw[if_pos e,if_pos e,ycts]
    .rw[if_neg e,if_neg e]
   simp only[bwdS,go_sem]
   repeat refine ybd ?_
   refine ybl [] [] [] ?_;simp only[d,ybt,ycw,yefk,e0,L,wk,go_sem,zA,zC];exact⟨fun _ _ _ _ e=>e,fun j u=>by rw[if_pos u],fun j b B=>ydy B⟩
 .intro _ _;simp only[ycwn,bwdS,d,ybt,clash,go_sem,zA,zB];have S:∀j,j<T.length->(unT T k0).1.getD j []=cU T k0 T.length j:=fun j _=>(yeie T k0 j).symm;have a8:=ycaa T k0;refine⟨fun j u=>?_,ybbg ⟨?_,Sim.refl _,trivial⟩⟩
  .simp only[ycw,intO,if_pos u,go_sem]
  .unfold ydi ybb;rw[a8];refine yej fun j u=>?_;simp only[ycw,intO,if_pos u,SimL,S j u,go_sem];exact Sim.refl _
end
end Sh
end
section
def rowD(bs:List (Int×Int))(xs:List Int)(x:Nat):List Int:=(zO bs.length).map fun t=>if t<bs.length-x then xs.getD t 0 else(bs.getD t (0,0)).1
theorem yqm(bs:List (Int×Int))(xs:List Int)(x:Nat):(rowD bs xs x).length=bs.length:=by simp[rowD]
theorem ysw{bs:List (Int×Int)}{xs:List Int}{x t:Nat}(a:t<bs.length):(rowD bs xs x).getD t 0=if t<bs.length-x then xs.getD t 0 else(bs.getD t (0,0)).1:=by simp[rowD,zK,a]
theorem ycbu{bs:List (Int×Int)}{xs:List Int}(h:xs.length=bs.length):rowD bs xs 0=xs:=ywm (by rw[yqm,h]) fun t a=>by
 have a:t<bs.length:=by rwa [yqm]at a
 rw[ysw a,if_pos (by omega)]
theorem ycpn(bs:List (Int×Int))(xs:List Int):rowD bs xs bs.length=bs.map (·.1):=ywm (by simp[rowD]) fun t a=>by
 have a:t<bs.length:=by rwa [yqm]at a
 rw[ysw a,if_neg (by omega)]
 simp[zK,a]
def cD(T:List (List (Int×Int)))(c:Conf)(q j:Nat):List Int:=if j<T.length-q then c.getD j []else lowT T j
namespace Sh
open Ev Go.RowKit
set_option maxHeartbeats 4000000 in
theorem ybxy{T:List (List (Int×Int))}(hT:TabOk T){c:Conf}(hc:inT T c) :
 Cm zF 61 [(302,0)] (ybt 302 303 T.length fun j=>c.getD j []) [yg T,.os (302,0) 0 T.length true] fun r o=>r = .tp []/\o=ybt 302 303 T.length fun j=>(advT T c).1.getD j []:=by
 refine ydst [(302,0)] [] _ _ _ ?_;have a8:=hT.len;obtain⟨Y,Z⟩:=ymm.1 hc;have N:∀j,j<T.length->(c.getD j []).length=(T.getD j []).length:=fun j a=>(yph.1 (Z j a)).1;simp only[c61,ydzn,yeiv,yg,ybt,go_sem,zA,zB,zC];refine(ybjl (n:=T.length) (e:=fun v=>yx (T.getD v []))).use ?_;simp only[ybj,clash,go_sem]
 let f:(Nat->List Int)->Own:=fun w=>(3,.one (some ⟨46,true,1,1,fun _=>[.os (302,0) 0 T.length true]⟩))::ybt 302 303 T.length w
 refine ylx (ybgu (n:=T.length) (e:=fun v=>yx (T.getD v []))) [(302,0),(3,0)] (fun q (_:Unit)=>⟨[(9,.fn 133 [] [.rf [yg T]]),(3,.pt (3,0) 0 0)],f (cD T c q)⟩)
  (fun q _=>q<=T.length/\ycbm T c (T.length-q)) () ⟨zH _,fun j O J=>absurd O (by omega)⟩ ⟨fun β h=>by rw[List.mem_singleton.1 h];exact zG,fun β h=>absurd h zAK⟩ ?_ (fun _=>rfl) ?_ ?_ ?_
 .refine ybl [] [] [] ?_;have I:∀j,j<T.length->cD T c 0 j=c.getD j []:=fun j a=>by unfold cD;rw[if_pos (by omega)]
  simp only[f,ybt,ycw,yg,wk,go_sem,zA,zC];refine⟨fun _ _ _ _ e=>e,fun j a=>?_,fun j b m=>?_⟩
  .rw[I j a];exact⟨Sim.refl _,by rw[if_pos a]⟩
  .obtain⟨a,rfl⟩:=yda (x:=intO (cD T c 0 j)) m;rw[I j a];exact⟨_,if_pos a,yco (ycr _)⟩
 .intro i _ hi _;refine⟨trivial,?_⟩;simp only[yg,wk,go_sem,zA]
 .rintro q _ ⟨hq,B⟩ U;have U:q<T.length:=U;obtain⟨v,hv⟩:∃v,T.length-1-q=v:=⟨_,rfl⟩;have F:v<T.length:=by omega
  refine⟨_,rfl,?_⟩;simp only[bwdS,hv];simp only[ydxe,ydvx,yejn,f,ybt,yg,splice,clash,go_sem,zA,zB,zC];refine(yblc (ls:=T.getD v [])).use ?_;obtain⟨hr,m⟩:=hT.at_ F
  have hI:∀l∈T.getD v [],I64 l.1/\I64 l.2:=fun l hl=>by
   obtain⟨i,hi,rfl⟩:=zAT hl;have:=m i hi;rw[yiz hi]at this;unfold I64;omega
  have a1:ycbm T c (v+1):=fun j O J=>B j (by omega) J
  have a0:cD T c q v=c.getD v []:=by unfold cD;rw[if_pos (by omega)]
  have a5:∀j,cD T c (q+1) j=if j=v then lowT T v else cD T c q j:=fun j=>by
   unfold cD
   by_cases e:j=v
   .rw[if_pos e,if_neg (by omega),e]
   .rw[if_neg e]
    by_cases w:j<v
    .rw[if_pos (by omega),if_pos (by omega)]
    .rw[if_neg (by omega),if_neg (by omega)]
  have R:∀j,j<T.length->cD T c q j=if j<v then c.getD j []else if j=v then c.getD v []else lowT T j:=fun j a=>by
   unfold cD
   by_cases w:j<v
   .rw[if_pos (by omega),if_pos w]
   .by_cases e:j=v
    .rw[if_pos (by omega),if_neg w,if_pos e,e]
    .rw[if_neg (by omega),if_neg w,if_neg e]
  have p:=ybdh Y N F a1;have a2:lowT T v=(T.getD v []).map (·.1):=rfl;have C:=yph.1 (Z v F);obtain⟨d,P⟩:∃d,T.getD v []=d:=⟨_,rfl⟩;obtain⟨g,a4⟩:∃g,c.getD v []=g:=⟨_,rfl⟩;rw[P]at hr m hI a2 p C;rw[a4]at p C a0 R;obtain⟨a3,a7⟩:=C;simp only[ybj,clash,P,go_sem]
  refine ylx (ybho (ls:=d) hI) [(302,0),(3,0),(4,0)] (fun x (_:Unit)=>⟨[(13,.fn 134 [] [.rf [yx d]]),(3,.pt (3,0) 0 0),(4,.pt (4,0) 0 0)],(4,.one (some ⟨3,true,1,1,fun _=>[.i .i64 (v:Nat)]⟩))::f (fun j=>if j=v then rowD d g x else cD T c q j)⟩)
   (fun x _=>x<=d.length/\ybwf d g (d.length-x)) () ⟨zH _,fun j O J=>absurd O (by omega)⟩ ⟨fun β h=>(by rcases List.mem_cons.1 h with r|r;rw[r];exact zG;rw[List.mem_singleton.1 r];exact zL _ zG),fun β h=>absurd h zAK⟩ ?_ (fun _=>rfl) ?_ ?_ ?_
  .refine ybl [] [] [] ?_
   have I:∀j,(if j=v then rowD d g 0 else cD T c q j)=cD T c q j:=fun j=>by
    by_cases e:j=v
    .rw[if_pos e,ycbu a3,e,a0]
    .rw[if_neg e]
   simp only[f,ybt,ycw,I,wk,go_sem,zA,zC];exact⟨fun _ _ _ _ e=>e,fun j a=>by rw[if_pos a],fun j b m=>ydy m⟩
  .rintro x _ hx _;refine⟨trivial,?_⟩;simp only[yx,wk,go_sem,zA]
  .rintro x _ ⟨hx,u⟩ D;have D:x<d.length:=D;obtain⟨i,hi⟩:∃i,d.length-1-x=i:=⟨_,rfl⟩;have K:i<d.length:=by omega
   refine⟨_,rfl,?_⟩;simp only[bwdS,hi];obtain⟨b1,b2,b3⟩:=m i K;have W:=a7 i K;have a6:ybwf d g (i+1):=fun t O J=>u t (by omega) J
   have M:=ybcm a3 K a6;have V:(rowD d g x).getD i 0=g.getD i 0:=by rw[ysw K,if_pos (by omega)]
   have L:=yqm d g x;have E:=yqm d g (x+1);obtain⟨⟨lo,S⟩,A⟩:∃b,d.getD i (0,0)=b:=⟨_,rfl⟩;rw[A]at b1 b2 b3 W M;simp only at b1 b2 b3 W M;obtain⟨y,hy⟩:∃y,g.getD i 0=y:=⟨_,rfl⟩;rw[hy]at W M V
   by_cases s:y<S
   .have d1:decide (y<S)=true:=decide_eq_true s;simp only[ydnt,ydsf,ydok,ydyp,f,ybt,ycw,intO,if_pos F,L,V,A,d1,splice,clash,yhq,go_sem,zAC,zA,zB,zC,zAJ]
    repeat refine ybd ?_
    obtain⟨w1,w2,w3⟩:=M s;obtain⟨_,_,H⟩:=p w1
    have Q:∀t,t<d.length->(if t=i then[SV.i .i64 (y+1)]else[SV.i .i64 ((rowD d g x).getD t 0)])=[SV.i .i64 ((advR d g).1.getD t 0)]:=fun t z=>by
     rw[w3 t z]
     by_cases e:t=i
     .rw[if_pos e,if_neg (by omega),if_pos e]
     .rw[if_neg e,if_neg e,ysw z]
      by_cases w:t<i
      .rw[if_pos (by omega),if_pos w]
      .rw[if_neg (by omega),if_neg w]
    refine⟨.tp [],ybt 302 303 T.length (fun j=>(advT T c).1.getD j []),?_,?_,rfl,rfl⟩
    .refine ybl [] [] [] ?_;simp only[ybt,ycw,wk,go_sem,zA,zC];refine⟨fun _ _ _ _ e=>e,fun j a=>?_,fun j b m=>?_⟩
     .have G:=H j a
      by_cases e:j=v
      .subst e;rw[if_neg (by omega),if_pos rfl]at G
       simp only[L,G,w2,if_pos a,wk,go_sem]
      .rw[if_neg e]at G;have:=R j a;rw[if_neg e,<-G]at this;simp only[e,this,if_pos a,wk,go_sem]
     .obtain⟨a,rfl⟩:=yda (x:=intO ((advT T c).1.getD j [])) m;have G:=H j a
      by_cases e:j=v
      .subst e;rw[if_neg (by omega),if_pos rfl]at G
       rw[G];simp only[go_sem];exact yco (l:=(advR d g).1) (c:=⟨3,false,1,d.length,fun t=>if t=i then[SV.i .i64 (y+1)]else[SV.i .i64 ((rowD d g x).getD t 0)]⟩) ⟨⟨rfl,rfl,rfl,w2.symm⟩,fun t z=>Q t (by rw[w2]at z;exact z)⟩
      .rw[if_neg e]at G;have:=R j a;rw[if_neg e,<-G]at this;rw[<-this];simp only[e,go_sem];exact⟨_,if_pos a,yco (l:=cD T c q j) (ycr _)⟩
    .simp only[ybt,ycw,ycl,yfk,wk,go_sem,zA];exact⟨fun k hk=>by rw[if_pos hk],fun i b m=>(yda m).2▸ylw⟩
   .have d1:decide (y<S)=false:=decide_eq_false s;simp only[ydnt,ydsf,ydok,yeif,f,ybt,ycw,intO,if_pos F,L,V,A,d1,splice,clash,go_sem,zAC,zA,zB,zD,zC,zAJ]
    repeat refine ybd ?_
    refine zBG ⟨D,fun t O J=>?_⟩ ?_
    .by_cases e:t=i
     .rw[e,hy,A];exact s
     .exact u t (by omega) J
    refine ybl [] [] [] ?_
    have hw:∀t,t<d.length->(if t=i then[SV.i .i64 lo]else[SV.i .i64 ((rowD d g x).getD t 0)])=[SV.i .i64 ((rowD d g (x+1)).getD t 0)]:=fun t z=>by
     rw[ysw z,ysw z]
     by_cases e:t=i
     .rw[if_pos e,if_neg (by omega),e,A]
     .rw[if_neg e]
      by_cases w:t<i
      .rw[if_pos (by omega),if_pos (by omega)]
      .rw[if_neg (by omega),if_neg (by omega)]
    simp only[wk,go_sem,zA,zC];refine⟨fun _ _ _ _ e=>e,fun j a=>?_,fun j b m=>?_⟩
    .by_cases e:j=v
     .subst e;simp only[L,E,if_pos a,wk,go_sem]
     .simp only[e,if_pos a,wk,go_sem]
    .obtain⟨a,rfl⟩:=yda (x:=intO (if j=v then rowD d g (x+1)else cD T c q j)) m
     by_cases e:j=v
     .subst e;simp only[go_sem];exact yco (l:=rowD d g (x+1)) (c:=⟨3,false,1,d.length,fun t=>if t=i then[SV.i .i64 lo]else[SV.i .i64 ((rowD d g x).getD t 0)]⟩) ⟨⟨rfl,rfl,rfl,E.symm⟩,fun t z=>hw t (by rw[E]at z;exact z)⟩
     .simp only[e,go_sem];exact⟨_,if_pos a,yco (l:=cD T c q j) (ycr _)⟩
  .rintro _ ⟨_,u⟩
   have I:∀j,(if j=v then rowD d g d.length else cD T c q j)=cD T c (q+1) j:=fun j=>by
    rw[a5]
    by_cases e:j=v
    .rw[if_pos e,if_pos e,ycpn,a2]
    .rw[if_neg e,if_neg e]
   have u:ybwf d g (d.length-d.length):=u;simp only[bwdS,go_sem];refine zBG ⟨U,fun j O J=>?_⟩ ?_
   .by_cases e:j=v
    .subst e;rw[P,a4];exact fun t _ z=>u t (by omega) z
    .exact a1 j (by omega) J
   refine ybl [] [] [] ?_;simp only[f,ybt,ycw,I,wk,go_sem,zA,zC];exact⟨fun _ _ _ _ e=>e,fun j a=>by rw[if_pos a],fun j b m=>ydy m⟩
 .rintro _ ⟨_,B⟩;simp only[bwdS,f,ybt,yhq,go_sem];have B:ycbm T c (T.length-T.length):=B;have X:=yxx Y N fun j _ a=>B j (by omega) a
  have I:∀j,j<T.length->cD T c T.length j=(advT T c).1.getD j []:=fun j a=>by
   rw[X,yyy a];unfold cD;rw[if_neg (by omega)]
  refine⟨.tp [],ybt 302 303 T.length (fun j=>(advT T c).1.getD j []),?_,?_,rfl,rfl⟩
  .refine ybl [] [] [] ?_;simp only[ybt,ycw,wk,go_sem,zA,zC];refine⟨fun _ _ _ _ e=>e,fun j a=>?_,fun j b m=>?_⟩
   .rw[I j a];exact⟨Sim.refl _,by rw[if_pos a]⟩
   .obtain⟨a,rfl⟩:=yda (x:=intO ((advT T c).1.getD j [])) m;rw[<-I j a];exact⟨_,if_pos a,yco (ycr _)⟩
  .simp only[ybt,ycw,ycl,yfk,wk,go_sem,zA];exact⟨fun k hk=>by rw[if_pos hk],fun i b m=>(yda m).2▸ylw⟩
end Sh
end
section
def rowP(bs:List (Int×Int))(p x t:Nat):Int:=if t<bs.length-x then 0 else(plR (bs.drop (bs.length-x)) p).1.getD (t-(bs.length-x)) 0
def pP(bs:List (Int×Int))(p x:Nat):Nat:=(plR (bs.drop (bs.length-x)) p).2
theorem ydny(bs:List (Int×Int))(p:Nat):pP bs p 0=p:=by unfold pP;rw[zBM,zAY];rfl
theorem ydyr(bs:List (Int×Int))(p:Nat):pP bs p bs.length=(plR bs p).2:=by unfold pP;rw[zAD];rfl
theorem ycjq(bs:List (Int×Int))(p:Nat){t:Nat}(a:t<bs.length):rowP bs p 0 t=0:=by unfold rowP;rw[if_pos (by omega)]
theorem ycpg(bs:List (Int×Int))(p t:Nat):rowP bs p bs.length t=(plR bs p).1.getD t 0:=by unfold rowP;rw[if_neg (by omega),zAD];rfl
section
variable {bs:List (Int×Int)}{p x i:Nat}
theorem ycjl(d:x<bs.length)(c:i=bs.length-1-x):plR (bs.drop (bs.length-(x+1))) p=(((pP bs p x:Nat):Int)::(plR (bs.drop (bs.length-x)) p).1,pP bs p x*szP (bs.getD i (0,0))):=by
 have a:bs.length-(x+1)=i:=by omega
 have b:bs.length-x=i+1:=by omega
 unfold pP;rw[a,b,drop_at (0,0) (show i<bs.length by omega)]
 rfl
theorem ydsp(b:x<bs.length)(a:i=bs.length-1-x):pP bs p (x+1)=pP bs p x*szP (bs.getD i (0,0)):=by
 show(plR _ p).2=_;rw[ycjl b a]
theorem rowP_step(b:x<bs.length)(a:i=bs.length-1-x)(t:Nat):rowP bs p (x+1) t=if t=i then((pP bs p x:Nat):Int)else rowP bs p x t:=by
 unfold rowP
 by_cases e:t=i
 .rw[if_pos e,if_neg (by omega),ycjl b a,show t-(bs.length-(x+1))=0 by omega]
  rfl
 .rw[if_neg e]
  by_cases q:t<i
  .rw[if_pos (by omega),if_pos (by omega)]
  .rw[if_neg (by omega),if_neg (by omega),ycjl b a,show t-(bs.length-(x+1))=(t-(bs.length-x))+1 by omega]
   rfl
theorem yelp:pP bs p x=p*ybs (bs.drop (bs.length-x)):=ytu _ _
theorem yelc(h:bdR bs):pP bs p x<=p*ybs bs:=by
 rw[yelp];refine zAL _ ?_
 conv=>rhs;rw[<-zAH (bs.length-x) bs,yjm]
 exact zAE _ (ynd fun b a=>h b (zBY a))
end
def cP(T:List (List (Int×Int)))(q j:Nat):List Int:=if j<T.length-q then[]else(plT (T.drop (T.length-q)) 1).1.getD (j-(T.length-q)) []
def ppT(T:List (List (Int×Int)))(q:Nat):Nat:=(plT (T.drop (T.length-q)) 1).2
theorem ycog(T:List (List (Int×Int))):ppT T 0=1:=by unfold ppT;rw[zBM,zAY];rfl
theorem yeen(T:List (List (Int×Int)))(j:Nat):cP T T.length j=(plT T 1).1.getD j []:=by unfold cP;rw[if_neg (by omega),zAD];rfl
section
variable {T:List (List (Int×Int))}{q v:Nat}
theorem ycnc(c:q<T.length)(d:v=T.length-1-q):plT (T.drop (T.length-(q+1))) 1=((plR (T.getD v []) (ppT T q)).1::(plT (T.drop (T.length-q)) 1).1,(plR (T.getD v []) (ppT T q)).2):=by
 have a:T.length-(q+1)=v:=by omega
 have b:T.length-q=v+1:=by omega
 unfold ppT;rw[a,b,drop_at [] (show v<T.length by omega)]
 rfl
theorem ybre(a:q<T.length)(b:v=T.length-1-q):ppT T (q+1)=(plR (T.getD v []) (ppT T q)).2:=by
 show(plT _ 1).2=_;rw[ycnc a b]
theorem ydqn(a:q<T.length)(b:v=T.length-1-q)(j:Nat):cP T (q+1) j=if j=v then(plR (T.getD v []) (ppT T q)).1 else cP T q j:=by
 unfold cP
 by_cases e:j=v
 .rw[if_pos e,if_neg (by omega),ycnc a b,show j-(T.length-(q+1))=0 by omega]
  rfl
 .rw[if_neg e]
  by_cases w:j<v
  .rw[if_pos (by omega),if_pos (by omega)]
  .rw[if_neg (by omega),if_neg (by omega),ycnc a b,show j-(T.length-(q+1))=(j-(T.length-q))+1 by omega]
   rfl
theorem yein:ppT T q=ybn (T.drop (T.length-q)):=by unfold ppT;rw[ybgj,Nat.one_mul]
theorem yecx(h:bdT T):ppT T q<=ybn T:=by
 rw[yein]
 conv=>rhs;rw[<-zAH (T.length-q) T,yhg]
 exact zAE _ (ysj fun b a=>h b (zBY a))
theorem yeis(h:bdT T)(a:q<T.length)(b:v=T.length-1-q)(x:Nat):pP (T.getD v []) (ppT T q) x<=ybn T:=by
 refine zAF (yelc (ycli h)) ?_;have:ppT T q*ybs (T.getD v [])=ppT T (q+1):=by rw[ybre a b,ytu]
 rw[this];exact yecx h
end
end
section
namespace Sh
open Ev Go.RowKit
def yfc(T:List (List (Int×Int))):List (List Int):=(plT T 1).1
theorem ycgv:∀(rs:List (List (Int×Int))) (p v:Nat),v<rs.length->((plT rs p).1.getD v []).length=(rs.getD v []).length
 |[],_,_,h=>by simp at h
 |r::rs,p,0,_=>ybmf r _
 |r::rs,p,v+1,h=>ycgv rs p v (by simpa using h)
theorem yxq{T:List (List (Int×Int))}{j:Nat}(a:j<T.length):((yfc T).getD j []).length=(T.getD j []).length:=ycgv T 1 j a
def ydq(p:ProgT)(g:Gr)(net:List Nat)(kind:Int)(T:List (List (Int×Int))):List SV:=[yfw p g,usV net,.i .i64 kind,yg T,ydi (yfc T)]
theorem ybwj{Q1 Q2:(Nat->Option ABlk)->Value->Prop}{p:ProgT}{g:Gr}(h:Checked Q1 Q2 p g):Returns zF 123 [.ag (yfz Q1 Q2 p.raw),grV g] (yfw p g):=by
 have a:=h.hp;unfold ProgT.ok at a;simp only[zN,decide_eq_true_eq]at a;have c:Returns zF 123 [.ag (ypj p.raw),grV g] (yfw p g):=(ybgz p.raw h.hg a.1.1.2 a.1.1.1.2).exT
 have b:Ct zF 123 [.ag (yfz Q1 Q2 p.raw),grV g] fun r=>Sim r (yfw p g):=by
  refine(c.use (Q:=fun r=>Sim r (yfw p g)) (Sim.refl _)).simL ?_;exact⟨ybkx _ _ _,Sim.refl _,trivial⟩
 exact Returns.of b
section
variable {Q1 Q2:(Nat->Option ABlk)->Value->Prop}{p:ProgT}{g:Gr}
set_option maxHeartbeats 4000000 in
theorem ybox(h:Checked Q1 Q2 p g)(I:TabOk (tabP p g))(kind:Int):Returns zF 58 [.ag (yfz Q1 Q2 p.raw),grV g,.i .i64 kind] (.rf (ydq p g (g.ports.map netP) kind (tabP p g))):=by
 refine Returns.of (yega _ _ ?_);have hM:=ybwj h;have W:=ybvj h.hg;have D:=yof h;have V:=I.tot;have M:=I.len;obtain⟨T,Y⟩:∃T,tabP p g=T:=⟨_,rfl⟩;rw[Y]at D I V M ⊢
 generalize g.ports.map netP=net at W ⊢
 simp only[yfz,grV]at hM W D;simp only[c58,yeho,yejh,yfz,grV,clash,go_sem,zA,zB,zC];refine hM.use ?_;simp only[usV,yfw]at W ⊢;simp only[ybj,clash,go_sem,zA,zB,zD,zC];refine W.use ?_;simp only[go_sem,zB,zD]
 repeat refine ybd ?_
 refine D.use ?_;simp only[yeca,yecl,yegx,yg,splice,clash,go_sem,zA,zB,zD,zC]
 repeat refine ybd ?_
 let B:Nat×Fam:=(21,.one (some ⟨86,true,5,1,fun _=>[yfw p g,usV net,.i .i64 kind,yg T,.os (28,0) 0 T.length true]⟩))
 let y:Nat->Nat×Fam:=fun q=>(303,.many fun j=>if T.length-q<=j/\j<T.length then some (intO (cP T q j))else none)
 let f:Nat->Nat->List SV:=fun q j=>if T.length-q<=j then[.os (303,j) 0 (T.getD j []).length true]else[.a (.slice none 0 0)]
 have G:∀(O:Own) (q j:Nat),T.length-q<=j/\j<T.length->look O 303=some (y q).2->live O (303,j)=true:=fun O q j m ho=>by
  show(lookO O (303,j)).isSome=true;unfold lookO;rw[ho];show(if T.length-q<=j/\j<T.length then some (intO (cP T q j))else none).isSome=true
  rw[if_pos m];rfl
 refine ybe (σ:=Nat) (fun q=>⟨[(9,.i .i64 ((T.length:Int)-1-(q:Nat))),(8,.i .i64 (ppT T q:Nat)),(7,.pt (21,0) 0 0)],[B,(28,.one (some ⟨22,false,1,T.length,f q⟩)),y q]⟩) (fun q=>q<=T.length) (fun q=>T.length-q) 0 (zH _) ?_ ?_
 .refine yj ?_;simp only[B,y,f,usV,yfw,yg,ycog,wk,go_sem,zA,zC];refine⟨fun _ _ _ _ e=>e,⟨by omega,rfl⟩,fun j m=>?_,fun j b k=>?_⟩
  .rw[if_neg (by omega)];exact yje rfl
  .rw[if_neg (by omega)]at k;cases k
 .intro q hq
  by_cases z:q<T.length
  .obtain⟨v,hv⟩:∃v,T.length-1-q=v:=⟨_,rfl⟩;have a2:v<T.length:=by omega
   have H:(T.length:Int)-1-(q:Nat)=(v:Int):=by omega
   have d1:decide ((v:Int)>=0)=true:=by simp
   obtain⟨hr,k⟩:=I.at_ a2;have P:=ybre z hv.symm;have E:=ydqn z hv.symm;have u:=yeis I.bd z hv.symm;obtain⟨n,Q⟩:∃n,ppT T q=n:=⟨_,rfl⟩;obtain⟨d,o⟩:∃d,T.getD v []=d:=⟨_,rfl⟩;rw[o,Q]at P E u;rw[o]at hr k;have a0:¬T.length-q<=v:=by omega
   simp only[ydng,yecy,ydza,if_neg a0,B,y,f,usV,yfw,yg,yx,H,d1,o,Q,splice,clash,go_sem,zA,zB,zD,zC]
   repeat refine ybd ?_
   have N:∀(O:Own) (j:Nat),T.length-q<=j/\j<T.length->look O 303=some (y q).2->Sh.live O (303,j)=true:=fun O j=>G O q j;refine ybe (σ:=Nat) (fun x=>⟨[(10,.i .i64 ((d.length:Int)-1-(x:Nat))),(9,.i .i64 (v:Nat)),(8,.i .i64 (pP d n x:Nat)),(7,.pt (21,0) 0 0)],[B,(28,.one (some ⟨22,false,1,T.length,fun j=>if j=v then[.os (54,0) 0 d.length true]else f q j⟩)),(54,.one (some ⟨3,false,1,d.length,fun t=>[.i .i64 (rowP d n x t)]⟩)),y q]⟩) (fun x=>x<=d.length) (fun x=>d.length-x) 0 (zH _) ?_ ?_
   .refine yj ?_;simp only[B,y,f,usV,yfw,yg,yx,ydny,wk,go_sem,zA,zC];refine⟨fun _ _ _ _ e=>e,by omega,fun j m=>?_,fun t ht=>by rw[ycjq d n ht],fun j b k=>?_⟩
    .by_cases e:j=v
     .simp only[if_pos e];exact ygr rfl rfl
     .by_cases w:T.length-q<=j
      .simp only[if_neg e,if_pos w];exact ygr (N _ j ⟨w,m⟩ rfl) rfl
      .simp only[if_neg e,if_neg w];exact yje rfl
    .by_cases w:T.length-q<=j/\j<T.length
     .rw[if_pos w]at k;cases k
      exact⟨_,if_pos w,yco (ycr _)⟩
     .rw[if_neg w]at k;cases k
   .intro x hx
    by_cases s:x<d.length
    .obtain⟨i,hi⟩:∃i,d.length-1-x=i:=⟨_,rfl⟩;have Z:i<d.length:=by omega
     have F:(d.length:Int)-1-(x:Nat)=(i:Int):=by omega
     have d2:decide ((i:Int)>=0)=true:=by simp
     have S:=ydsp (p:=n) s hi.symm;have a1:=rowP_step (p:=n) s hi.symm;have a3:=u x;have a4:=u (x+1);obtain⟨X,b2,b3⟩:=k i Z;obtain⟨⟨lo,L⟩,J⟩:∃b,d.getD i (0,0)=b:=⟨_,rfl⟩;rw[J]at X b2 b3 S;simp only at X b2 b3;have U:=(yqn (b:=(lo,L)) X).2;simp only at U;have hm:((pP d n x:Nat):Int)*(L-lo+1)=((pP d n (x+1):Nat):Int):=by rw[S,zV,U]
     simp only[ydrg,ydct,ycuq,ydex,B,y,f,usV,yfw,yg,yx,F,d2,o,J,hm,splice,clash,go_sem,zAC,zA,zB,zD,zAJ]
     repeat refine ybd ?_
     refine yu (x+1) s (by omega) ?_
     refine yj ?_;simp only[wk,go_sem,zA,zC];refine⟨fun _ _ _ _ e=>e,by omega,fun j m=>?_,fun t ht=>yga ?_,fun j b k=>?_⟩
     .by_cases e:j=v
      .simp only[if_pos e];exact ygr rfl rfl
      .by_cases w:T.length-q<=j
       .simp only[if_neg e,if_pos w];exact ygr (N _ j ⟨w,m⟩ rfl) rfl
       .simp only[if_neg e,if_neg w];exact yje rfl
     .rw[a1]
      by_cases e:t=i
      .rw[if_pos e,if_pos e]
      .rw[if_neg e,if_neg e]
     .by_cases w:T.length-q<=j/\j<T.length
      .rw[if_pos w]at k;cases k
       exact⟨_,if_pos w,yco (ycr _)⟩
      .rw[if_neg w]at k;cases k
    .obtain rfl:x=d.length:=by omega
     have F:(d.length:Int)-1-(d.length:Nat) = -1:=by omega
     simp only[ydrg,ydvn,B,y,f,usV,yfw,yg,yx,F,clash,zDC,zDI,go_sem,zA,zB]
     repeat refine ybd ?_
     refine yu (q+1) z (by omega) ?_
     refine yca [(303,fun j=>if j=v then(54,0)else(303,j))] [] [] ?_
     simp only[ydyr,P,wk,go_sem,zA,zC];refine⟨?_,by omega,fun j m=>?_,fun j b k=>?_⟩
     .repeat' apply zBG
      all_goals first|exact fun i _=>ybgi (by decide) (by decide)|exact fun i _=>yuj (by decide) (by decide)|exact fun i _ j _=>ybco (by decide)
     .by_cases e:j=v
      .have C:T.length-(q+1)<=j:=by omega
       simp only[if_pos e,if_pos C];exact ygr (G _ (q+1) j ⟨C,m⟩ rfl) (by subst e;simp only[o,go_sem])
      .by_cases w:T.length-q<=j
       .have C:T.length-(q+1)<=j:=by omega
        simp only[if_neg e,if_pos w,if_pos C];exact ygr (G _ (q+1) j ⟨C,m⟩ rfl) (by simp only[e,go_sem])
       .have C:¬T.length-(q+1)<=j:=by omega
        simp only[if_neg e,if_neg w,if_neg C];exact yje rfl
     .by_cases w:T.length-(q+1)<=j/\j<T.length
      .rw[if_pos w]at k;cases k
       by_cases e:j=v
       .subst e;simp only[go_sem,zA];have r:=E j;rw[if_pos rfl]at r;rw[r];refine yco (l:=(plR d n).1) (c:=⟨3,false,1,d.length,fun t=>[SV.i .i64 (rowP d n d.length t)]⟩) ⟨⟨rfl,rfl,rfl,(ybmf d n).symm⟩,fun t ht=>?_⟩;show[SV.i .i64 (rowP d n d.length t)]=_;rw[ycpg]
       .have r:=E j;rw[if_neg e]at r;rw[r];have w2:T.length-q<=j/\j<T.length:=⟨by omega,w.2⟩
        simp only[e,go_sem,zA];exact⟨_,if_pos w2,yco (ycr _)⟩
      .rw[if_neg w]at k;cases k
  .obtain rfl:q=T.length:=by omega
   have H:(T.length:Int)-1-(T.length:Nat) = -1:=by omega
   simp only[ydng,ydcq,B,y,f,usV,yfw,yg,yx,H,clash,zDC,zDI,go_sem,zA,zB,zD];have A:∀j,T.length-T.length<=j:=fun j=>by omega
   have K:∀j,cP T T.length j=(yfc T).getD j []:=fun j=>yeen T j;have u:(yfc T).length=T.length:=ybfe T 1;have R:∀j,j<T.length->((yfc T).getD j []).length=(T.getD j []).length:=fun j m=>yxq m;refine⟨fun j m=>?_,ydbl ⟨Sim.refl _,Sim.refl _,Sim.refl _,Sim.refl _,?_,trivial⟩ rfl⟩
   .simp only[if_pos (A j)];have w:T.length-T.length<=j/\j<T.length:=⟨A j,m⟩;simp only[if_pos w,intO,K,R j m,go_sem,zA]
   .unfold ydi ybb;rw[u];refine yej fun j m=>?_;simp only[if_pos (A j)];have w:T.length-T.length<=j/\j<T.length:=⟨A j,m⟩;simp only[if_pos w,intO,K,R j m,SimL,go_sem,zA];exact Sim.refl _
end
end Sh
end
section
namespace Sh
open Ev Go.RowKit
theorem yegy{h:Nm->Nm}{a:List Nat}{c:List Nm}{b O:Own}{X:List SV}{k:IntKind}{x:Int}(e:X=[.i k x]):telL h a c b O X [.i k x]:=by
 subst e;exact⟨.inl ⟨trivial,by rw[ycbz];exact Sim.refl _,rfl⟩,rfl,trivial⟩
theorem ybiv{l:List Int}{c:OB}{h:Nm->Nm}{f:List Nm}{b d:Own}(a:(c.e=3/\c.bx=false/\c.z=1/\c.n=l.length)/\∀i,i<l.length->c.g i=[.i .i64 (l.getD i 0)]) :
 (c.e=(intO l).e/\c.bx=(intO l).bx/\c.z=(intO l).z/\c.n=(intO l).n)/\(mapE (intO l).e=true->∀i,c.g i=(intO l).g i)/\∀i,i<(intO l).n->telL h [] f b d (c.g i) ((intO l).g i) :=
 ⟨a.1,fun q=>absurd (show false=true from q) zCG,fun i j=>yegy (a.2 i j)⟩
set_option maxHeartbeats 8000000 in
theorem ycrv(p:ProgT){g:Gr}(M:ybi g)(V:p.ok=true){c:Conf}(C:ConfIn g.ports.length p.vars.length c){v:Nat}(P:v<g.ports.length){r:Nat}(O:r<p.rules.length) :
 Cm zF 127 [(302,0)] (ybt 302 303 c.length fun j=>c.getD j []) [.rf (yki p.raw g),.os (302,0) 0 c.length true,.i .i64 v,.i .i64 r] fun W o=>W=ybb (ykq p g c v r)/\o=ybt 302 303 c.length fun j=>c.getD j []:=by
 refine ycpa [(302,0)] [] _ _ _ ?_;obtain⟨R,D⟩:∃R,p.rules.getD r default=R:=⟨_,rfl⟩;have f:=V;unfold ProgT.ok at f;simp only[zN,decide_eq_true_eq]at f
 have d:R.ok p.vars.length=true:=by
  rw[<-D,getD_at O];exact List.all_eq_true.1 f.2 _ (zT _)
 unfold RuleT.ok at d;simp only[zN,decide_eq_true_eq]at d
 have z:p.raw.rules.getD r default=R.raw:=by
  rw[<-D];simp[ProgT.raw,zK,O]
 have h:p.raw.rules.length=p.rules.length:=by simp[ProgT.raw]
 have u:R.raw.sets.length=R.sets.length:=by simp[RuleT.raw]
 have hid:=M.2.2.1;have U:=C.len;have A:=C.at_ P;have I:¬(c.getD v []).length=0:=by omega
 have K:v<c.length:=by omega
 let w:Nat->List Int:=fun j=>c.getD j []
 simp only[c127,ydle,ydfi,ydcd,I,yki,ydo,yka,z,h,u,ybt,ycw,intO,if_pos K,clash,go_sem,zA,zB,zD,zC];obtain⟨L,s⟩:∃k,p.vars.length=k:=⟨_,rfl⟩;have t:=A.1;rw[s]at t d C;rw[s]at f;have H:ykq p g c v r=yvu p g c v (c.getD v []) R.sets:=by unfold ykq;rw[D]
 have y:∀k,(yvu p g c v (c.getD v []) (R.sets.take k)).length=L:=fun k=>(yuk p g c v _ _).trans t
 repeat refine ybd ?_
 refine ybe (σ:=Nat) (fun k=>⟨[(28,.i .i64 k),(27,.i .i64 R.sets.length),(26,yka R.raw.sets),(0,.rf (yki p.raw g)),(1,.os (302,0) 0 c.length true),(2,.i .i64 v),(9,.os (17,0) 0 L true)],
  (17,.one (some ⟨3,false,1,L,fun i=>[.i .i64 ((yvu p g c v (c.getD v []) (R.sets.take k)).getD i 0)]⟩))::ybt 302 303 c.length w⟩) (fun k=>k<=R.sets.length) (fun k=>R.sets.length-k) 0 (zH _) ?_ ?_
 .refine ybl [] [] [] ?_;simp only[yki,ydo,yka,h,u,t,ybt,ycw,wk,go_sem,zA,zC];refine⟨fun _ _ _ _ e=>e,fun i m=>rfl,fun i m=>⟨Sim.refl _,by rw[if_pos m]⟩,fun i b l=>?_⟩
  obtain⟨q,rfl⟩:=yda l;exact⟨_,if_pos q,yco (ycr _)⟩
 .intro k hk;simp only[ycvi,ydcj,ydgv,yki,yka,u,ybt,splice,clash,go_sem,zA,zB,zD,zC];refine⟨fun G=>?_,fun G=>?_⟩
  .have n:k<R.sets.length:=by omega
   obtain⟨S,E⟩:∃S,R.sets.getD k default=S:=⟨_,rfl⟩
   have B:R.raw.sets.getD k default=⟨S.1,S.2.ser⟩:=by
    rw[<-E];simp[RuleT.raw,zK,n]
   have a:=List.all_eq_true.1 d.2 S (by rw[<-E,getD_at n];exact zT _)
   simp only[zN,decide_eq_true_eq]at a;have T:=ybie p.raw M C P S.2 a.1.2 a.2;refine⟨by omega,?_⟩
   rw[B];refine .inl ⟨fun q J=>?_,T.useS ⟨Sim.refl _,?_,Sim.refl _,Sim.refl _,trivial⟩ ?_⟩
   .simp only[ycw,if_pos J];exact⟨zAP _,fun _ _=>⟨trivial,trivial⟩⟩
   .unfold ydi;refine yej fun q J=>?_;simp only[ycw,if_pos J];exact⟨⟨Sim.refl _,trivial⟩,rfl⟩
   have Q:=ycfz (p.vars.getD S.1.toNat default).kind (ybk g v (p.vars.getD S.1.toNat default)) (ydp g c v S.2 (-1));have x:p.raw.vars=p.vars:=rfl;simp only[ydew,ybj,ybby,yfq,varC,splice,x,s,clash,go_sem,zA,zB,zD];refine⟨by omega,by omega,by omega,Q.use ?_⟩
   simp only[go_sem,zA];have F:Nat.testBit 134217727 25=true:=by decide
   simp only[ycym,F,clash,go_sem,zA,zB];refine⟨by omega,by omega,ikw (by omega) (by omega),?_⟩
   refine ybv (k+1) ?_;refine ybl [] [] [] ?_;simp only[ybwt p g c v _ _ k n,E,ycw,wk,go_sem,zA,zC];refine⟨fun _ _ _ _ e=>e,by omega,fun i m=>yga ?_,fun i m=>by rw[if_pos m],fun i b l=>?_⟩
   .rw[ybfs (by rw[y];omega)]
    by_cases q:i=S.1.toNat
    .simp only[if_pos q]
    .simp only[if_neg q]
   .obtain⟨q,rfl⟩:=yda l;exact⟨_,if_pos q,yco (ycr _)⟩
  .obtain rfl:k=R.sets.length:=by omega
   simp only[yczi,yhq,clash,go_sem,zA,zB];have N:=y R.sets.length;rw[zAA,<-H]at N ⊢;refine⟨ybb (ykq p g c v r),ybt 302 303 c.length w,?_,?_,rfl,rfl⟩
   .refine ybl [] [] [(17,0)] ?_;simp only[ybt,ycw,ybb,wk,go_sem,zA,zC];refine⟨fun _ _ _ _ e=>e,by rw[N];exact Sim.refl _,fun i m=>by rw[if_pos m],fun i b l=>?_⟩
    obtain⟨q,rfl⟩:=yda l;exact⟨_,if_pos q,ybiv (ycr _)⟩
   .simp only[ybt,ycw,ycl,yfk,ybb,wk,go_sem,zA];exact⟨fun k hk=>by rw[if_pos hk],fun i b l=>(yda l).2▸ylw⟩
end Sh
end
section
theorem ybhy(f:Nat->Int):∀(l:List Nat),sumI (fun j=>f (l.getD j 0)) l.length=(l.map f).sum
 |[]=>rfl
 | x::l=>by
   show sumI _ (l.length+1)=_;rw[yoj,List.map_cons,List.sum_cons,<-ybhy f l];rfl
theorem ybub(f:Nat->Int)(p:Nat->Bool):∀m,(((zO m).filter p).map f).sum=sumI (fun v=>if p v=true then f v else 0) m
 |0=>rfl
 | m+1=>by
   rw[zAV,zAG,zBB,List.sum_append,ybub f p m];show _=sumI _ m+_;congr 1;cases h:p m<;>simp[h]
theorem ybse{g:Nat->Int}{n:Nat}:∀d,(∀v,n<=v->g v=0)->sumI g (n+d)=sumI g n
 |0,_=>rfl
 | d+1,h=>by
   show sumI g (n+d)+g (n+d)=_;rw[ybse d h,h (n+d) (by omega)];omega
theorem yccz{f:Nat->Int}{s n:Nat}(d:n<=32)(a:s<2^n):sumI (fun j=>f ((ybx s).getD j 0)) (ybx s).length=sumI (fun v=>if s.testBit v=true then f v else 0) n:=by
 rw[ybhy];unfold ybx;rw[ybub]
 have:=ybse (g:=fun v=>if s.testBit v=true then f v else 0) (n:=n) (32-n) fun v b=>by
  show(if s.testBit v=true then f v else 0)=0
  rw[zBR (zCF a (zBU (by omega) b))];rfl
 rw[show n+(32-n)=32 by omega]at this
 exact this
theorem ybrf:∀(xs a:List Int),grR xs xs a=0
 |[],_=>rfl
 |_::_,[]=>rfl
 | x::xs,q::a=>by
   show(x-x)*q+grR xs xs a=0;rw[ybrf xs a,zCB,Int.zero_mul];rfl
theorem yblq{f:Nat->Int}{B:Int}:∀n:Nat,(∀i,i<n -> -B<=f i/\f i<=B) -> -(n*B)<=sumI f n/\sumI f n<=n*B
 |0,_=>by simp[sumI]
 | n+1,h=>by
   have d:=yblq n fun i b=>h i (by omega)
   have a:=h n (by omega)
   show -(((n+1:Nat):Int)*B)<=sumI f n+f n/\sumI f n+f n<=((n+1:Nat):Int)*B;have:((n+1:Nat):Int)*B=n*B+B:=by rw[zAU,zAS];simp
   omega
theorem yddd{a b:Int}(d:-2000000<=a/\a<=2000000)(e:0<=b/\b<=32768):-65536000000<=a*b/\a*b<=65536000000:=by
 have f:a*b<=2000000*b:=zBD d.2 e.1;have h:-2000000*b<=a*b:=zBD d.1 e.1;omega
theorem ycda:∀{bs:List (Int×Int)}(p:Nat) {t:Nat},bdR bs->t<bs.length->∃m:Nat,(plR bs p).1.getD t 0=(m:Int)/\m<=p*ybs bs
 |[],_,_,_,h=>by simp at h
 | b::bs,p,0,a,_=>⟨(plR bs p).2,rfl,by
   rw[ytu];exact zAL _ (zAE _ (yqn (a b zG)).1)⟩
 | b::bs,p,t+1,a,h=>by
   obtain⟨m,d,e⟩:=ycda (bs:=bs) p (t:=t) (fun x f=>a x (zL _ f)) (by simpa using h)
   exact⟨m,d,zAF e (zAL _ (zAE _ (yqn (a b zG)).1))⟩
theorem ycel:∀{rs:List (List (Int×Int))}(p:Nat) {v t:Nat},bdT rs->v<rs.length->t<(rs.getD v []).length->∃m:Nat,((plT rs p).1.getD v []).getD t 0=(m:Int)/\m<=p*ybn rs
 |[],_,_,_,_,h,_=>by simp at h
 | r::rs,p,0,t,a,_,e=>by
   obtain⟨m,b,d⟩:=ycda (bs:=r) (plT rs p).2 (a r zG) e;refine⟨m,b,zAF d ?_⟩;rw[ybgj];show p*ybn rs*ybs r<=p*(ybs r*ybn rs);rw[zAI,zZ (ybn rs)];exact zAP _
 | r::rs,p,v+1,t,a,h,e=>by
   obtain⟨m,b,d⟩:=ycel (rs:=rs) p (v:=v) (t:=t) (fun x f=>a x (zL _ f)) (by simpa using h) e
   exact⟨m,b,zAF d (zAL _ (zAE _ (ynd (a r zG))))⟩
def yos(p:ProgT)(g:Gr)(c:Conf)(v:Nat):Int:=if yeu p g c v<0 then 0 else grR (ykq p g c v (yeu p g c v).toNat) (c.getD v []) ((plT (tabP p g) 1).1.getD v [])
section
variable {p:ProgT}{g:Gr}{c:Conf}
theorem yegh{v:Nat}:(ybq p g c).testBit v=(decide (v<g.ids.length)&&decide (yeu p g c v>=0)):=ymp _ _ _
theorem ydpa(r:ybi g)(t:p.ok=true)(o:∀c,yfe p g c=true->∀s,yfe p g (yds p g c s)=true)(h:bdT (tabP p g))(k:yfe p g c=true)(b:g.ids.length<=32){s:Nat}(q:subB s (ybq p g c))(e:s<2^g.ids.length) :
 rkT (tabP p g) c+sumI (fun j=>yos p g c ((ybx s).getD j 0)) (ybx s).length=rkT (tabP p g) (yds p g c s):=by
 have n:yfe p g (yds p g c s)=true:=o c k s;have a:=yjd.1 k;have d:=yjd.1 n;have l:c.length=g.ids.length:=(ymm.1 a).1.trans (yhz _ _ _);have f:=ydfw 1 a d;rw[ycku (by rw[Sh.ymn]) (by rw[ybfe];exact(yhz _ _ _).trans l.symm),l]at f
 rw[yccz b e]
 have m:sumI (fun v=>if s.testBit v=true then yos p g c v else 0) g.ids.length=sumI (fun i=>grR ((yds p g c s).getD i []) (c.getD i []) ((plT (tabP p g) 1).1.getD i [])) g.ids.length:=ybca fun v u=>by
  rw[Sh.yqh p g c s (by omega)]
  cases h:s.testBit v with
  | true =>
    have:=q v h;rw[yegh,zN,decide_eq_true_iff,decide_eq_true_iff]at this;show yos p g c v=grR (ykq p g c v _) _ _;unfold yos;rw[if_neg (by omega)]
  | false =>
    show(0:Int)=grR (c.getD v []) _ _;rw[ybrf]
 rw[m,f];omega
end
end
end Go.Proofs.YthclbjjgfcgbgaaGreatDoor
