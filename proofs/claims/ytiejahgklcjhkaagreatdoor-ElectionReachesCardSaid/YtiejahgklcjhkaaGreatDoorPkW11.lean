/- Joined. -/
import Derived.Test.YtiejahgklcjhkaaGreatDoorPkW10
import Derived.Lib.TrailingZeros
set_option linter.unusedSimpArgs false
set_option linter.unusedVariables false
set_option maxRecDepth 1000000
open Nat renaming reduceEqDiff->zA,reduceAdd->zD,beq->zK,eq_of_beq_eq_true->zL,beq_refl->zM,lt_of_lt_of_le->zN,testBit_lt_two_pow->zO,two_pow_pos->zU,testBit_and->zV,pow_le_pow_right->zX,testBit_two_pow->zY,testBit_two_pow_mul_add->zZ,reduceBEq->zAA,le_of_ble_eq_true->zAE,pow_lt_pow_right->zAH,reduceLT->zAK,one_shiftLeft->zAN,testBit_succ->zAO,add_zero->zAY,zero_and->zAZ,le_refl->zBD,zero_le->zBF,ble->zBG
open Bool renaming and_eq_true->zB
open Go.Proofs.Tryz renaming prog->zC,ntmps190->zAU,func190->zBA,func189->zBB
open Classical renaming byContradiction->zF
open Go.Lib renaming hid->zG,ctz->zQ,ctzFrom->zBE
open List renaming mem_cons_self->zH,getD_eq_getElem?_getD->zI,length_map->zJ,getElem?_eq_none->zS,mem_cons_of_mem->zT,foldl_cons->zW,range->zAB,nil_append->zAD,mem_of_mem_take->zAF,mem_of_mem_drop->zAG,map_congr_left->zAI,filter_append->zAJ,getElem?_map->zAL,pairwise_map->zAM,not_mem_nil->zAP,length_nil->zAQ,mem_filter->zAR,drop_drop->zAS,mem_range->zAT,map_map->zAX,getD->zBH
open Int renaming natCast_zero->zAC,reduceBNe->zAV,reduceBEq->zAW
open BitVec renaming ofInt->zBC
open Go
namespace Go.Proofs.YtiejahgklcjhkaaGreatDoor
section
namespace Sh
open Go Ev
def Lies(B:List BlkL)(v:Value)(F:AM)(u:Value):Prop :=
 ∃ρ:Nat->Nat,(∀b∈B,∀c∈B,ρ b.i=ρ c.i->b.i=c.i)/\(∀b∈B,F (ρ b.i)=some (b.ren ρ).blk)/\u=ren1 ρ v
theorem Lies.mono{B:List BlkL}{v:Value}(F G:AM)(u:Value)(h:Le F G)(k:Lies B v F u):Lies B v G u:=by
 obtain⟨ρ,h1,h2,h3⟩:=k;exact⟨ρ,h1,fun b hb=>h _ _ (h2 b hb),h3⟩
def ydtr(B:List BlkL)(j:Nat):Option BlkL:=B.find? fun b=>zK b.i j
def ycfy(p:Nat->Bool):Nat->Bool
 |0=>true
 |n+1=>p n&&ycfy p n
theorem ybmb{p:Nat->Bool}:∀{n:Nat},ycfy p n=true->∀k,k<n->p k=true
 |0,_,k,h=>absurd h (Nat.not_lt_zero k)
 | n+1,h,k,hk=>by
   have h:(p n&&ycfy p n)=true:=h;rw[zB]at h
   by_cases q:k=n
   .rw[q];exact h.1
   .exact ybmb h.2 k (by omega)
def ybhk(B:List BlkL)(z n:Nat)(row:Nat->List Value->Bool):Value->Bool
 | .slice (some a) m _=>a.spot.isNone&&zK m n&&(match ydtr B a.block with
   |some b=>zK b.z z&&zBG (a.off+n*z) b.l.length&&ycfy (fun k=>row k ((b.l.drop (a.off+k*z)).take z)) n
   |none=>false)
 |.slice none 0 0=>zK n 0
 |_=>false
theorem ysi {B:List BlkL}{F:AM}{ρ:Nat->Nat}{z n:Nat}{row:Nat->List Value->Bool}{v:Value}{g:Nat->List SV}(hF:∀b∈B,F (ρ b.i)=some (b.ren ρ).blk) (h:ybhk B z n row v=true)
 (hr:∀k L,k<n->row k L=true->L.length=z/\RVL F om0 (g k) (L.map (ren2 ρ))/\(g k).all one1=true):RV F om0 (.sl z n g) (ren1 ρ v):=by
 unfold ybhk at h;split at h
 .rename_i a m c
  simp only[zB]at h;obtain⟨⟨h1,h2⟩,h3⟩:=h;split at h3
  .rename_i b hb
   simp only[zB]at h3;obtain⟨⟨h3,h4⟩,h5⟩:=h3;have hm:m=n:=zL h2;have hz:=zL h3;have h4:=zAE h4;have hmem:=List.mem_of_find?_eq_some hb;have hi:b.i=a.block:=zL (List.find?_some (p:=fun b:BlkL=>zK b.i a.block) hb);have h6:=hF b hmem;rw[hi]at h6;show RV F om0 _ (.slice (some (renA ρ a)) m c);rw[ykh];subst hm;obtain⟨A,o,sp⟩:=a;have hsp:sp=none:=by simpa using h1
   subst hsp;have h6:F (ρ A)=some (.cells (tOf (b.l.map (ren2 ρ))) (b.l.map (ren2 ρ)).length b.e b.z):=h6;have hrow:∀k,k<m->_:=fun k hk=>hr k _ hk (ybmb h5 k hk);refine .sl (L:=fun k=>((b.l.drop (o+k*z)).take z).map (ren2 ρ)) h6 (.inl hz) (by rw[zJ];exact h4) ?_ ?_ (fun k hk=>(hrow k hk).2.1) (fun k hk=>(hrow k hk).2.2)
   .intro k hk;rw[zJ];exact(hrow k hk).1
   .intro k hk j hj;rw[ycq];simp only[zAL,List.getElem?_take,List.getElem?_drop,hj,if_true]
  .cases h3
 .have h:zK n 0=true:=h;have h0:=zL h;subst h0;exact .sl0 (.inl rfl)
 .cases h
def isI(v:Value)(n:Int):Bool:=match v with
 |.int .i64 m=>eqInt m n
 |_=>false
def isS(v:Value)(s:ByteArray):Bool:=match v with
 |.string t=>eqBytes t.data.toList s.data.toList
 |_=>false
theorem yrw{F:AM}{ρ:Nat->Nat}{v:Value}{n:Int}(h:isI v n=true):RV F om0 (.i .i64 n) (ren2 ρ v):=by
 unfold isI at h;split at h
 .rw[yst h];exact .i
 .cases h
theorem ycsc{F:AM}{ρ:Nat->Nat}{v:Value}{s:ByteArray}(h:isS v s=true):RV F om0 (.a (.string s)) (ren2 ρ v):=by
 unfold isS at h;split at h
 .rename_i t
  have e:=ypm h
  have:t=s:=by
   cases t;cases s
   congr 1;exact Array.toList_inj.1 e
  rw[this];exact .a rfl
 .cases h
def ydri(ls:List (Int×Int))(k:Nat):List Value->Bool
 |[x,y]=>isI x (ls.getD k (0,0)).1&&isI y (ls.getD k (0,0)).2
 |_=>false
def ycor(l:List VarR)(k:Nat):List Value->Bool
 |[s,a,b,c,d,e]=>isS s (l.getD k default).name&&isI a (l.getD k default).kind&&isI b (l.getD k default).lo&&isI c (l.getD k default).hi&&isI d (l.getD k default).perNode&&isI e (l.getD k default).perID
 |_=>false
def yyx(B:List BlkL)(ls:List (Int×Int))(v:Value):Bool:=ybhk B 2 ls.length (ydri ls) v
def isSl:Value->Bool
 |.slice _ _ _=>true
 |_=>false
def ybsr(B:List BlkL)(l:List SetR)(k:Nat):List Value->Bool
 |[a,v]=>isI a (l.getD k default).var&&isSl v&&yyx B (l.getD k default).val v
 |_=>false
def ybrl(B:List BlkL)(l:List RuleR)(k:Nat):List Value->Bool
 |[s,v,w]=>isS s (l.getD k default).name&&isSl v&&yyx B (l.getD k default).guard v&&isSl w&&ybhk B 2 (l.getD k default).sets.length (ybsr B (l.getD k default).sets) w
 |_=>false
def ybvv(B:List BlkL)(v:Value)(l:List VarR):Bool:=ybhk B 6 l.length (ycor l) v
def yblv(B:List BlkL)(v:Value)(l:List RuleR):Bool:=ybhk B 3 l.length (ybrl B l) v
section
variable {B:List BlkL}{F:AM}{ρ:Nat->Nat}
theorem ybjl{v:Value}(h:isSl v=true):ren2 ρ v=ren1 ρ v:=by
 unfold isSl at h;split at h
 .rfl
 .cases h
theorem ytm(hF:∀b∈B,F (ρ b.i)=some (b.ren ρ).blk){ls:List (Int×Int)}{v:Value}(h:yyx B ls v=true):RV F om0 (ybc ls) (ren1 ρ v):=by
 refine ysi hF h fun k L hk hq=>?_;unfold ydri at hq;split at hq
 .simp only[zB]at hq;exact⟨rfl,.cons (yrw hq.1) (.cons (yrw hq.2) .nil),rfl⟩
 .cases hq
theorem ybnj(hF:∀b∈B,F (ρ b.i)=some (b.ren ρ).blk){l:List VarR}{v:Value}(h:ybvv B v l=true):RV F om0 (ydm l) (ren1 ρ v):=by
 refine ysi hF h fun k L hk hq=>?_;unfold ycor at hq;split at hq
 .simp only[zB]at hq;obtain⟨⟨⟨⟨⟨h1,h2⟩,h3⟩,h4⟩,h5⟩,h6⟩:=hq;exact⟨rfl,.cons (ycsc h1) (.cons (yrw h2) (.cons (yrw h3) (.cons (yrw h4) (.cons (yrw h5) (.cons (yrw h6) .nil))))),rfl⟩
 .cases hq
theorem ybql(hF:∀b∈B,F (ρ b.i)=some (b.ren ρ).blk){l:List SetR}{v:Value}(h:ybhk B 2 l.length (ybsr B l) v=true):RV F om0 (yim l) (ren1 ρ v):=by
 refine ysi hF h fun k L hk hq=>?_;unfold ybsr at hq;split at hq
 .simp only[zB]at hq;obtain⟨⟨h1,h2⟩,h3⟩:=hq;refine⟨rfl,.cons (yrw h1) (.cons ?_ .nil),rfl⟩;rw[ybjl h2];exact ytm hF h3
 .cases hq
theorem ybje(hF:∀b∈B,F (ρ b.i)=some (b.ren ρ).blk){l:List RuleR}{v:Value}(h:yblv B v l=true):RV F om0 (ydg l) (ren1 ρ v):=by
 refine ysi hF h fun k L hk hq=>?_;unfold ybrl at hq;split at hq
 .simp only[zB]at hq;obtain⟨⟨⟨⟨h1,h2⟩,h3⟩,h4⟩,h5⟩:=hq;refine⟨rfl,.cons (ycsc h1) (.cons ?_ (.cons ?_ .nil)),rfl⟩
  .rw[ybjl h2];exact ytm hF h3
  .rw[ybjl h4];exact ybql hF h5
 .cases hq
end
structure LaidP(fp:Fact)(t:ByteArray)(p:ProgR)(vv vr:Value)(Bv Br:List BlkL):Prop where
 args:fp.args=[.string t]
 pre:fp.pre=[]
 v:fp.v = .agg #[.string p.name,vv,vr]
 still:fp.still=true
 bv:∀b∈Bv,b∈fp.post
 br:∀b∈Br,b∈fp.post
 vars:ybvv Bv vv p.vars=true
 rules:yblv Br vr p.rules=true
theorem ycii{P:Program}{fp:Fact}{t:ByteArray}{p:ProgR}{vv vr:Value}{Bv Br:List BlkL}(hok:ycy P fp)(h:LaidP fp t p vv vr Bv Br):Returns P fp.g [.a (.string t)] (.ag (yez (Lies Bv vv) (Lies Br vr) p)):=by
 intro G m us hwf hle hus
 have hu:us=[.string t]:=by
  cases hus with
  |cons a b=>cases a with|a _=>cases b with|nil=>rfl
 subst hu;obtain⟨s1,⟨s2,s3⟩,s4,s5,s6,s7,s8⟩:=ymb h.still;have hmv:=yxl (tgt:=[]) (n0:=m.next) hok h.still (by rw[h.pre];rfl) List.nodup_nil (fun t ht=>by cases ht)
 obtain⟨ρ,hρ⟩:∃ρ,fp.rho [] m.next=ρ:=⟨_,rfl⟩
 have hpost:(fp.move [] m.next).post=fp.post.map (BlkL.ren ρ):=by rw[<-hρ];rfl
 have hv:(fp.move [] m.next).v = .agg #[.string p.name,ren1 ρ vv,ren1 ρ vr]:=by
  show renV (fp.rho [] m.next) fp.v=_
  rw[hρ,h.v];rfl
 have hpre:(fp.move [] m.next).pre=[]:=by
  show fp.pre.map _=[];rw[h.pre];rfl
 have hfit:(fp.move [] m.next).fits fp.g [.string t] m=true:=by
  unfold Fact.fits;rw[hpre];show(zK fp.g fp.g&&zK m.next m.next&&eqL2 (fp.args.map (ren2 _)) [.string t]&&true)=true
  rw[zM,zM,h.args];show(true&&true&&(eqBytes t.data.toList t.data.toList&&true)&&true)=true;rw[yqv];rfl
 have hri:∀b∈fp.post,ρ b.i=b.i-fp.next0+m.next:=fun b hb=>by rw[<-hρ];exact ybls (s6 b hb).1 (s6 b hb).2.1
 have hnd:yhe ((fp.post.map (BlkL.ren ρ)).map (·.i))=true:=by
  refine ymy ?_
  have e:(fp.post.map (BlkL.ren ρ)).map (·.i)=(fp.post.map (·.i)).map (fun i=>i-fp.next0+m.next):=by
   rw[zAX,zAX];refine zAI fun b hb=>?_;show(b.ren ρ).i=_;rw[b.yhm,hri b hb];rfl
  rw[e];unfold List.Nodup at s7 ⊢;rw[zAM];refine List.Pairwise.imp_of_mem (fun {x y} hx hy h=>?_) s7;obtain⟨bx,hbx,rfl⟩:=List.mem_map.1 hx;obtain⟨by_,hby,rfl⟩:=List.mem_map.1 hy;have:=(s6 bx hbx).1;have:=(s6 by_ hby).1;omega
 have hs:=yzh hmv hfit;unfold Fact.out at hs;rw[hv,hpre,hpost]at hs;refine⟨_,_,_,hs,zBD _,?_,rfl,?_⟩
 .intro i b hb;show(blksT m.b (fp.post.map (BlkL.ren ρ))).get i=some b;rw[yub fun c hc=>?_]
  .exact hb
  .obtain⟨c,hc',rfl⟩:=List.mem_map.1 hc;have:=hwf i b hb;rw[c.yhm,hri c hc'];omega
 .have hF:∀b∈fp.post,frsh m.next ⟨(fp.move [] m.next).next1,blksT m.b (fp.post.map (BlkL.ren ρ)),(fp.move [] m.next).low⟩ G (ρ b.i)=some (b.ren ρ).blk:=fun b hb=>by
   unfold frsh;rw[if_pos (by rw[hri b hb];omega)]
   have:=ysq (t:=m.b) hnd _ (List.mem_map.2 ⟨b,hb,rfl⟩);rw[b.yhm]at this;exact this
  have hinj:∀b∈fp.post,∀c∈fp.post,ρ b.i=ρ c.i->b.i=c.i:=fun b hb c hc e=>by
   rw[hri b hb,hri c hc]at e;have:=(s6 b hb).1;have:=(s6 c hc).1;omega
  refine .ag (.cons (.a rfl) (.cons (.ex ?_ (fun A B w=>Lies.mono A B w) ?_) (.cons (.ex ?_ (fun A B w=>Lies.mono A B w) ?_) .nil)))
  .exact⟨ρ,fun b hb c hc=>hinj b (h.bv b hb) c (h.bv c hc),fun b hb=>hF b (h.bv b hb),rfl⟩
  .exact ybnj (fun b hb=>hF b (h.bv b hb)) h.vars
  .exact⟨ρ,fun b hb c hc=>hinj b (h.br b hb) c (h.br c hc),fun b hb=>hF b (h.br b hb),rfl⟩
  .exact ybje (fun b hb=>hF b (h.br b hb)) h.rules
def inB(B:List BlkL):Value->Bool
 |.slice (some a) _ _=>(B.map (·.i)).elem a.block
 |.pointer (some a)=>(B.map (·.i)).elem a.block
 |.agg _=>false
 |.func _ _ _=>false
 |_=>true
theorem yip{B:List BlkL}{ρ σ:Nat->Nat}(h:∀b∈B,ρ b.i=σ b.i){v:Value}(hv:inB B v=true):ren1 ρ v=ren1 σ v:=by
 have hk:∀j,(B.map (·.i)).elem j=true->ρ j=σ j:=fun j hj=>by
  have:j∈B.map (·.i):=by simpa using hj
  obtain⟨b,hb,rfl⟩:=List.mem_map.1 this;exact h b hb
 cases v with
 | slice p n c=>cases p with
   |none=>rfl
   | some a =>
     show Value.slice (some (renA ρ a)) n c = .slice (some (renA σ a)) n c;rw[ykh,ykh,hk _ hv]
 | pointer p=>cases p with
   |none=>rfl
   | some a =>
     show Value.pointer (some (renA ρ a)) = .pointer (some (renA σ a));rw[ykh,ykh,hk _ hv]
 |agg a=>cases hv
 |func f a c=>cases hv
 |_=>rfl
theorem ybjq{B:List BlkL}{τ:Nat->Nat}{v:Value}(hv:inB B v=true):ren2 τ v=ren1 τ v:=by
 cases v with
 |agg a=>cases hv
 |func f a c=>cases hv
 |_=>rfl
theorem yboj{B:List BlkL}{ρ σ:Nat->Nat}(h:∀b∈B,ρ b.i=σ b.i){v:Value}(hv:inB B v=true):ren2 ρ v=ren2 σ v:=by
 rw[ybjq hv,ybjq hv];exact yip h hv
def ybjo(B:List BlkL):Bool:=B.all fun b=>b.l.all (inB B)
theorem ybez{B:List BlkL}{ρ σ:Nat->Nat}(hc:ybjo B=true)(h:∀b∈B,ρ b.i=σ b.i){b:BlkL}(hb:b∈B):b.ren ρ=b.ren σ:=by
 have h1:=List.all_eq_true.1 (List.all_eq_true.1 hc b hb)
 have e:∀τ:Nat->Nat,b.ren τ=⟨τ b.i,b.e,b.z,b.l.map (ren2 τ)⟩:=fun τ=>by
  unfold BlkL.ren;rw[ybl]
 rw[e,e,h b hb];congr 1;exact zAI fun v hv=>yboj h (h1 v hv)
theorem ywx{low:Nat}:∀{l:List BlkL}{t:T ABlk},(∀b∈l,b.i<low)->dropT t low l=t
 |[],_,_=>rfl
 | b :: l,t,h=>by
   have hb:=h b zH;unfold dropT
   have e:zBG low b.i=false:=by
    cases q:zBG low b.i with
    |false=>rfl
    |true=>have:=zAE q;omega
   rw[e,ybh,if_neg (by simp)]
   exact ywx fun c hc=>h c (zT _ hc)
structure GoodV(fv:Fact)(p:ProgR)(vv vr:Value)(Bv Br:List BlkL):Prop where
 args:fv.args=[.agg #[.string p.name,vv,vr]]
 pre:∀b∈fv.pre,b∈Bv\/b∈Br
 bv:∀b∈Bv,b∈fv.pre
 br:∀b∈Br,b∈fv.pre
 v:fv.v = .bool true
 post:fv.post=[]
 still:fv.still=true
 apart:(Bv.all fun b=>Br.all fun c=>!(zK b.e c.e) && !(zK b.i c.i))=true
 cv:ybjo Bv=true
 cr:ybjo Br=true
 iv:inB Bv vv=true
 ir:inB Br vr=true
 refl:eq2 (.agg #[.string p.name,vv,vr]) (.agg #[.string p.name,vv,vr])=true
theorem ychl{P:Program}{fv:Fact}{p:ProgR}{vv vr:Value}{Bv Br:List BlkL}(hok:ycy P fv)(h:GoodV fv p vv vr Bv Br):Returns P fv.g [.ag (yez (Lies Bv vv) (Lies Br vr) p)] (.b true):=by
 intro G m us hwf hle hus
 obtain⟨ρ1,ρ2,hu,a1,a2,a3,a4⟩:∃ρ1 ρ2:Nat->Nat,us=[.agg #[.string p.name,ren1 ρ1 vv,ren1 ρ2 vr]]/\(∀b∈Bv,∀c∈Bv,ρ1 b.i=ρ1 c.i->b.i=c.i)/\(∀b∈Bv,G (ρ1 b.i)=some (b.ren ρ1).blk) /\
  (∀b∈Br,∀c∈Br,ρ2 b.i=ρ2 c.i->b.i=c.i)/\∀b∈Br,G (ρ2 b.i)=some (b.ren ρ2).blk:=by
  cases hus with
  | cons a b =>
    cases b
    cases a with
    | ag hl =>
      cases hl with
      | cons x1 hl =>
        cases x1
        cases hl with
        | cons x2 hl =>
          cases x2 with
          | ex q2 _ _ =>
            cases hl with
            | cons x3 hl =>
              cases x3 with
              | ex q3 _ _ =>
                cases hl
                obtain⟨ρ1,b1,b2,rfl⟩:=q2;obtain⟨ρ2,b3,b4,rfl⟩:=q3;exact⟨ρ1,ρ2,rfl,b1,b2,b3,b4⟩
 subst hu;obtain⟨s1,⟨s2,s3⟩,s4,s5,s6,s7,s8⟩:=ymb h.still
 have hap:∀b∈Bv,∀c∈Br,b.e≠c.e/\b.i≠c.i:=fun b hb c hc=>by
  have:=List.all_eq_true.1 (List.all_eq_true.1 h.apart b hb) c hc;simp only[zB,Bool.not_eq_true']at this;exact⟨fun e=>(by rw[e,zM]at this;exact absurd this.1 (by decide)),fun e=>(by rw[e,zM]at this;exact absurd this.2 (by decide))⟩
 let σ:Nat->Nat:=fun i=>if (Bv.map (·.i)).elem i then ρ1 i else ρ2 i
 have hcross:∀b∈Bv,∀c∈Br,ρ1 b.i≠ρ2 c.i:=fun b hb c hc e=>by
  have e1:=a2 b hb;have e2:=a4 c hc;rw[e,e2]at e1
  injection e1 with e1
  unfold BlkL.blk at e1
  injection e1 with _ _ e3 _
  exact(hap b hb c hc).1 e3.symm
 have hG:∀i b,G i=some b->i<m.next:=fun i b hb=>hwf i b (hle i b hb)
 have sv:∀b∈Bv,σ b.i=ρ1 b.i:=fun b hb=>if_pos (by simpa using⟨b,hb,rfl⟩)
 have sr:∀b∈Br,σ b.i=ρ2 b.i:=fun b hb=>by
  refine if_neg fun q=>?_;have:b.i∈Bv.map (·.i):=by simpa using q
  obtain⟨d,hd,hdi⟩:=List.mem_map.1 this;exact(hap d hd b hb).2 hdi
 have tgtLt:∀b∈fv.pre,σ b.i<m.next:=fun b hb=>by
  rcases h.pre b hb with q|q
  .rw[sv b q];exact hG _ _ (a2 b q)
  .rw[sr b q];exact hG _ _ (a4 b q)
 have sinj:∀b∈fv.pre,∀c∈fv.pre,σ b.i=σ c.i->b.i=c.i:=fun b hb c hc e=>by
  rcases h.pre b hb with q|q<;>rcases h.pre c hc with q'|q'
  .rw[sv b q,sv c q']at e;exact a1 b q c q' e
  .rw[sv b q,sr c q']at e;exact absurd e (hcross b q c q')
  .rw[sr b q,sv c q']at e;exact absurd e.symm (hcross c q' b q)
  .rw[sr b q,sr c q']at e;exact a3 b q c q' e
 obtain⟨tgt,htgt⟩:∃t,fv.pre.map (fun b=>σ b.i)=t:=⟨_,rfl⟩
 have tlt:∀t∈tgt,t<m.next:=fun t ht=>by
  rw[<-htgt]at ht;obtain⟨b,hb,rfl⟩:=List.mem_map.1 ht;exact tgtLt b hb
 have tnd:tgt.Nodup:=by
  rw[<-htgt];have s5:=s5;unfold List.Nodup at s5 ⊢;rw[zAM]at s5 ⊢;exact List.Pairwise.imp_of_mem (fun {x y} hx hy h e=>h (sinj x hx y hy e)) s5
 have tlen:fv.pre.length=tgt.length:=by rw[<-htgt,zJ]
 have hmv:=yxl (n0:=m.next) hok h.still tlen tnd tlt
 have hrho:=ycbs (n0:=m.next) s4 s5 tlen
 obtain⟨ρ,hρ⟩:∃ρ,fv.rho tgt m.next=ρ:=⟨_,rfl⟩
 rw[hρ,<-htgt]at hrho;have hri:∀b∈fv.pre,ρ b.i=σ b.i:=List.map_inj_left.1 hrho;have hv1:∀b∈Bv,ρ b.i=ρ1 b.i:=fun b hb=>by rw[hri b (h.bv b hb),sv b hb]
 have hr1:∀b∈Br,ρ b.i=ρ2 b.i:=fun b hb=>by rw[hri b (h.br b hb),sr b hb]
 have hargs:(fv.move tgt m.next).args=[.agg #[.string p.name,ren1 ρ1 vv,ren1 ρ2 vr]]:=by
  show fv.args.map (ren2 (fv.rho tgt m.next))=_
  rw[hρ,h.args,<-yip hv1 h.iv,<-yip hr1 h.ir];rfl
 have hself:eqL2 [.agg #[.string p.name,ren1 ρ1 vv,ren1 ρ2 vr]] [.agg #[.string p.name,ren1 ρ1 vv,ren1 ρ2 vr]]=true:=by
  have hf:ylo (.agg #[.string p.name,vv,vr])=true:=by
   have:=s2;rw[h.args]at this
   simpa using this
  have e:=ybsw (ρ:=ρ) hf h.refl;rw[show ren2 ρ (.agg #[.string p.name,vv,vr]) = .agg #[.string p.name,ren1 ρ vv,ren1 ρ vr]from rfl,yip hv1 h.iv,yip hr1 h.ir]at e
  show(eq2 _ _&&true)=true;rw[e];rfl
 have hpre:∀b∈fv.pre,m.b.get (ρ b.i)=some (b.ren ρ).blk:=fun b hb=>by
  rcases h.pre b hb with q|q
  .rw[ybez h.cv hv1 q,hv1 b q];exact hle _ _ (a2 b q)
  .rw[ybez h.cr hr1 q,hr1 b q];exact hle _ _ (a4 b q)
 have hp:(fv.move tgt m.next).pre=fv.pre.map (BlkL.ren ρ):=by rw[<-hρ];rfl
 have hfit:(fv.move tgt m.next).fits fv.g [.agg #[.string p.name,ren1 ρ1 vv,ren1 ρ2 vr]] m=true:=by
  unfold Fact.fits;rw[hargs,hself];show(zK fv.g fv.g&&zK m.next m.next&&true&&(fv.move tgt m.next).pre.all (blkIs m))=true
  rw[zM,zM,hp];show List.all _ _=true;refine List.all_eq_true.2 fun b' hb'=>?_;obtain⟨b,hb,rfl⟩:=List.mem_map.1 hb';have h2:=(s4 b hb).2;refine ypr ?_ (ytk h2) ?_
  .rw[b.yhm];exact hpre b hb
  .show Nat.blt (b.l.map _).length 1000000=true;rw[zJ];unfold reflB at h2;rw[zB]at h2;exact h2.2
 have hs:=yzh hmv hfit;unfold Fact.out at hs
 have hv:(fv.move tgt m.next).v = .bool true:=by
  show renV (fv.rho tgt m.next) fv.v=_
  rw[h.v];rfl
 have hpost:(fv.move tgt m.next).post=[]:=by
  show fv.post.map _=[];rw[h.post];rfl
 rw[hv,hpost]at hs;refine⟨_,_,_,hs,zBD _,?_,rfl,.b⟩;intro i b hb;show(dropT m.b m.next (fv.move tgt m.next).pre).get i=some b
 rw[ywx fun c hc=>?_]
 .exact hb
 .rw[hp]at hc;obtain⟨c,hc',rfl⟩:=List.mem_map.1 hc;rw[c.yhm,hri c hc'];exact tgtLt c hc'
end Sh
end
section
namespace Sh
open Go Ev
def NqP:ProgT:=ybo (by8 [101,108,101,99,116,105,111,110]) (by8 [104]) (by8 [108]) (by8 [102,105,120]) (by8 [100,114,111,112]) (by8 [116,97,107,101]) (by8 [116,105,101])
def Nqt:ByteArray:=yw
def Nqv:Value:=.slice (some ⟨1062,0,none⟩) 2 CU
def Nqr:Value:=.slice (some ⟨1775,0,none⟩) 4 CU
def NqB:List BlkL:=ymc.post.take 1
def NqC:List BlkL:=ymc.post.drop 1
theorem yxv:Returns zC 37 [.a (.string Nqt)] (.ag (yez (Lies NqB Nqv) (Lies NqC Nqr) NqP.raw)) :=
 ycii (fp:=ymc) (ybd.at_ ybcu 0 rfl) ⟨rfl,rfl,rfl,by kernel_rfl,fun _ h=>zAF h,fun _ h=>zAG h,by kernel_rfl,by kernel_rfl⟩
theorem ydmg:ybft.pre=ymc.post:=rfl
theorem ycfw:Returns zC 191 [.ag (yez (Lies NqB Nqv) (Lies NqC Nqr) NqP.raw)] (.b true) :=
 ychl (fv:=ybft) (ybd.at_ ycax 0 rfl) ⟨rfl,fun b h=>by
  rw[ydmg,<-List.take_append_drop 1 ymc.post]at h;exact List.mem_append.1 h,fun _ h=>zAF h,fun _ h=>zAG h,rfl,rfl,by kernel_rfl,by kernel_rfl,by kernel_rfl,by kernel_rfl,by kernel_rfl,by kernel_rfl,by kernel_rfl⟩
theorem ydeh:NqP.ok=true:=by kernel_rfl
end Sh
end
section
def ybv(s:Nat):List Nat:=(zAB 32).filter s.testBit
theorem ybdo{p q:Nat->Bool}{n t:Nat}(ht:t<n)(h1:p t=true)(h2:∀i,i<t->p i=false)(h3:∀i,q i=(p i && !decide (i=t))):(zAB n).filter p=t::(zAB n).filter q:=by
 obtain⟨d,rfl⟩:∃d,n=t+(d+1):=⟨n-t-1,by omega⟩
 rw[List.range_add,zAJ,zAJ,List.range_succ_eq_map];have a1:(zAB t).filter p=[]:=List.filter_eq_nil_iff.2 fun x hx=>by rw[h2 x (List.mem_range.1 hx)];simp
 have a2:(zAB t).filter q=[]:=List.filter_eq_nil_iff.2 fun x hx=>by rw[h3,h2 x (List.mem_range.1 hx)];simp
 rw[a1,a2,List.map_cons,zAD,zAD,zAY,List.filter_cons_of_pos h1,List.filter_cons_of_neg (by rw[h3];simp)]
 congr 1;refine List.filter_congr fun x hx=>?_;obtain⟨y,hy,rfl⟩:=List.mem_map.1 hx;obtain⟨z,_,rfl⟩:=List.mem_map.1 hy;rw[h3];have:decide (t+z.succ=t)=false:=decide_eq_false (by omega)
 rw[this];simp
theorem ycif{x:Nat}(h0:x≠0)(h:x<2^32):zQ 32 x<32/\x.testBit (zQ 32 x)=true/\(∀i,i<zQ 32 x->x.testBit i=false)/\∀i,(x&&&(x-1)).testBit i=(x.testBit i && !decide (i=zQ 32 x)):=by
 obtain⟨m,hm,hk⟩:=Lib.ctzFrom_spec 32 x (by omega) h
 have e:zQ 32 x=zBE 32 x:=by simp[zQ,h0]
 rw[e];obtain⟨k,hkk⟩:∃k,zBE 32 x=k:=⟨_,rfl⟩;rw[hkk]at hm hk ⊢;have hp:0<2^k:=zU k
 have b1:∀j,x.testBit j=if j<k then false else(2*m+1).testBit (j-k):=fun j=>by
  have:=zZ (2*m+1) hp j;rw[zAY,<-hm]at this;rw[this];simp
 have e2:x-1=2^k*(2*m)+(2^k-1):=by
  have:2^k*(2*m+1)=2^k*(2*m)+2^k:=by rw[Nat.mul_add,Nat.mul_one]
  omega
 have b2:∀j,(x-1).testBit j=if j<k then(2^k-1).testBit j else(2*m).testBit (j-k):=fun j=>by
  rw[e2];exact zZ (2*m) (show 2^k-1<2^k by omega) j
 refine⟨hk,by rw[b1,if_neg (by omega),Nat.sub_self];simp,fun i hi=>by rw[b1,if_pos hi],fun i=>?_⟩
 rw[zV,b1,b2]
 by_cases q:i<k
 .rw[if_pos q];simp
 .rw[if_neg q,if_neg q]
  by_cases q2:i=k
  .subst q2;simp
  .obtain⟨j,hj⟩:∃j,i-k=j+1:=⟨i-k-1,by omega⟩
   rw[hj,zAO,zAO,show(2*m+1)/2=m by omega,show 2*m/2=m by omega]
   simp[q2]
theorem ypd:ybv 0=[]:=List.filter_eq_nil_iff.2 fun x _=>by simp
theorem yqj{x:Nat}(h0:x≠0)(h:x<2^32):ybv x=zQ 32 x::ybv (x&&&(x-1)):=by
 obtain⟨h1,h2,h3,h4⟩:=ycif h0 h;exact ybdo h1 h2 h3 h4
def ydi(s:Nat):Nat->Nat
 |0=>s
 |k+1=>ydi s k&&&(ydi s k-1)
theorem yoq{s:Nat}(h:s<2^32):∀k,ydi s k<2^32
 |0=>h
 |k+1=>Nat.lt_of_le_of_lt Nat.and_le_left (yoq h k)
theorem ypv{s:Nat}(h:s<2^32):∀k,ybv (ydi s k)=(ybv s).drop k
 |0=>by simp[ydi]
 | k + 1=>by
   have ih:=ypv h k;show ybv (ydi s k&&&(ydi s k-1))=_
   by_cases h0:ydi s k=0
   .rw[h0,ypd]at ih;rw[h0,zAZ,ypd,<-zAS,<-ih];rfl
   .rw[yqj h0 (yoq h k)]at ih;rw[<-zAS,<-ih];rfl
theorem rest_end{s k:Nat}(h:s<2^32)(hk:k<=(ybv s).length):ydi s k=0↔k=(ybv s).length:=by
 have hd:=ypv h k;constructor
 .intro e;rw[e,ypd]at hd;have:=congrArg List.length hd;rw[List.length_drop,zAQ]at this;omega
 .intro e;rw[e,List.drop_length]at hd;refine zF fun q=>?_;rw[<-e]at hd;rw[yqj q (yoq h k)]at hd;cases hd
theorem ydey{s k:Nat}(h:s<2^32)(hk:k<(ybv s).length):ydi s k≠0/\zQ 32 (ydi s k)=(ybv s).getD k 0:=by
 have h0:ydi s k≠0:=fun e=>by have:=(rest_end h (Nat.le_of_lt hk)).1 e;omega
 refine⟨h0,?_⟩;have hd:=ypv h k;rw[yqj h0 (yoq h k),List.drop_eq_getElem_cons hk]at hd;have:=(List.cons.inj hd).1;rw[this,zI,List.getElem?_eq_getElem hk];rfl
theorem ybro{s v:Nat}:v∈ybv s↔v<32/\s.testBit v=true:=by
 unfold ybv;rw[zAR,zAT]
end
section
open Go.RowKit
theorem ydmi(x a:Nat)(hx:x<4294967296)(hx0:x≠0)(hlow:x&&&(4294967296-x)=a) :
 bits BinOp.and IntKind.u32 (x:Int) (-(x:Int)%4294967296)*125613361%4294967296/134217728=((a*125613361%4294967296/134217728:Nat):Int):=by
 have e1:-(x:Int)%4294967296=((4294967296-x:Nat):Int):=by omega
 have e2:bits BinOp.and IntKind.u32 (x:Int) ((4294967296-x:Nat):Int)=((x&&&(4294967296-x):Nat):Int):=u32_and (a:=x) (b:=4294967296-x) (by omega) (by omega)
 rw[e1,e2,hlow];omega
set_option maxHeartbeats 1000000 in
theorem ydcl (x k idx:Nat) (w:World) (hx0:((x:Int)==0)=false) (key:bits BinOp.and IntKind.u32 (x:Int) (-(x:Int)%4294967296)*125613361%4294967296/134217728=(idx:Int))
 (hi:idx<32) (hk:k<32) (hcell:w.cell? ⟨0,idx,none⟩=some (.int .u8 k)) :
 Calls zC 190 #[.int .u32 x] w fun e w'=>e = .returned (.int .i64 k)/\w'=w:=by
 go_enter zBA,zAU
 go_wp2_with (simp only[key])
 go_ret
 exact⟨rfl,rfl⟩
theorem ydcf(w:World):Calls zC 190 #[.int .u32 0] w fun e w'=>e = .returned (.int .i64 32)/\w'=w:=by
 go_enter zBA,zAU
 go_wp2
 go_ret
 exact⟨rfl,rfl⟩
theorem ydkh{w:World}{x:Nat}(hx:x<2^32)(hw:∃e fz,w.heap[0]?=some (.cells Ev.ybeq.toArray e fz)) :
 Calls zC 190 #[.int .u32 x] w fun e w'=>e = .returned (.int .i64 (zQ 32 x))/\w'=w:=by
 by_cases hx0:x=0
 .subst hx0;exact ydcf w
 .obtain⟨hlow,hk⟩:=Lib.lowest_bit 32 x hx0 hx;obtain⟨hi,htab⟩:=Lib.deBruijn32_at _ hk;obtain⟨e,fz,hw⟩:=hw;refine ydcl x _ _ w (by simp;omega) (ydmi x _ hx hx0 hlow) hi hk ?_
  have keyN:∀j,j<32->([0,1,28,2,29,14,24,3,30,22,20,15,25,17,4,8,31,27,13,23,21,19,16,7,26,12,18,6,11,5,10,9]:List Int)[j]?=some ((Lib.deBruijn32tab.getD j 0:Nat):Int):=by decide +kernel
  have key:∀j,j<32->Ev.ybeq[j]?=some (.int .u8 (Lib.deBruijn32tab.getD j 0:Nat)):=fun j hj=>by
   unfold Ev.ybeq;rw[zAL,keyN j hj];rfl
  rw[World.cell?,hw];have:=key _ hi;rw[htab]at this
  simpa using this
namespace Sh
open Ev
end Sh
end
section
namespace Ev
open Go Go.RowKit
theorem ybmh(v:Value):(T.sets .leaf 0 [v]).get 0=some v:=ybwd (l:=[v]) (j:=0) (by simp)
noncomputable def yxs(x:Nat):ABlk:=.cells (T.sets .leaf 0 [.int .u32 x]) 1 40 0
def setAt(b x:Nat)(m:Mem):Prop:=∃c,m.b.get b=some (.cells c 1 40 0)/\c.get 0=some (.int .u32 x)
section
variable {φ:Phi}{M:AM}{w:World}{m:Mem}{b x y:Nat}
theorem ybah(h:setAt b x m)(hR:Rel φ M w)(hs:Sub m M):∃l cs,φ b=some l/\l.sz=0/\l.base+1<=l.size/\l.ob=none/\w.heap[l.blk]?=some (.cells cs 40 (0,0))/\cs.size=l.size/\cs[l.base]?=some (.int .u32 x):=by
 obtain⟨c,h1,h2⟩:=h;obtain⟨l,cs,e',fz,g1,g2,g3,g4,g5,g6,g7⟩:=hR.cellsAt (hs _ _ h1);obtain⟨q1,q2,q3⟩:=g4 (by decide)
 subst q1 q2;obtain⟨v',k1,k2⟩:=g7 0 _ (by omega) h2
 have e:=k2.eq_simple rfl;subst e;exact⟨l,cs.toArray,g1,g2,g3,q3,g5,by simpa using g6,by simpa using k1⟩
theorem ydhk(h:setAt b x m)(hR:Rel φ M w)(hs:Sub m M){l:Loc}(hl:φ b=some l) :
 Rel φ (upd M b (some (yxs y))) (w.setCell ⟨l.blk,l.base,none⟩ (.int .u32 y))/\WG φ M w φ (upd M b (some (yxs y))) (w.setCell ⟨l.blk,l.base,none⟩ (.int .u32 y)):=by
 obtain⟨l',cs,g1,g2,g3,g4,g5,g6,g7⟩:=ybah h hR hs;rw[hl]at g1;cases g1
 obtain⟨c,h1,_⟩:=h;rw[setCell_eq_setRow w l.blk l.base cs _ _ _ g5];refine hR.setRow (hs _ _ h1) hl ⟨g2,g3,(cs.setIfInBounds l.base (.int .u32 y)).toList,40,(0,0),⟨fun _=>⟨rfl,rfl,g4⟩,fun o ho=>(by rw[g4]at ho;cases ho)⟩,?_,by simpa using g6,fun j v hj hv=>?_⟩
 .rw[Array.toArray_toList];exact setRow_heap w _ _ _ _ _ g5
 .obtain rfl:j=0:=by omega
  rw[ybmh]at hv;cases hv
  refine⟨.int .u32 y,?_,.simple rfl⟩;have hlt:l.base<cs.size:=by omega
  simp[hlt]
end
noncomputable def yrs(b y:Nat)(m:Mem):Mem:=m.app (.upd b (yxs y))
theorem yboh(b y:Nat)(m:Mem)(i:Nat):(yrs b y m).b.get i=if i=b then some (yxs y)else m.b.get i:=by
 unfold yrs;rw[Sh.ybhp];exact T.set_at _ _ _ _
noncomputable def ycuo(b s:Nat):It where
 n:=(ybv s).length
 el:=fun k=>[.int .i64 ((ybv s).getD k 0:Nat)]
 pre:=fun k m=>setAt b (ydi s k) m
 adv:=fun k m=>yrs b (ydi s (k+1)) m
 step:=fun k φ M w M' w'=>∃l,φ b=some l/\M'=upd M b (some (yxs (ydi s (k+1))))/\w'=w.setCell ⟨l.blk,l.base,none⟩ (.int .u32 (ydi s (k+1):Nat))
theorem ydat{a:Nat}(h0:a≠0)(h:a<2^32):bits BinOp.and IntKind.u32 (a:Int) (IntKind.wrap .u32 ((a:Int)-1))=((a&&&(a-1):Nat):Int):=by
 have e:IntKind.wrap .u32 ((a:Int)-1)=((a-1:Nat):Int):=by
  have e1:(a:Int)-1=((a-1:Nat):Int):=by omega
  rw[e1];exact yhv (by omega)
 rw[e];exact u32_and (a:=a) (b:=a-1) h (by omega)
set_option maxRecDepth 100000 in
set_option maxHeartbeats 2000000 in
theorem ycer{b s:Nat}(hs32:s<2^32):ItOk zC 189 [.pointer (some ⟨b,0,none⟩)] (ycuo b s):=by
 refine⟨fun args w=>yby ysb zBB rfl args w,fun k m hk hw hp=>?_,?_,?_⟩
 .obtain⟨c,h1,_⟩:=hp;have hb:=hw _ _ h1;show Grow m (yrs b _ m);unfold yrs
  exact⟨ybtj hw (fun i hi=>by
   have hi:i∈[b]:=hi;rw[List.mem_singleton.1 hi];exact⟨_,h1⟩),(ytu m _).1⟩
 .rintro k φ M w m M' w' hk hw hR hs hp ⟨l,hl,rfl,rfl⟩;obtain⟨r1,r2⟩:=ydhk (y:=ydi s (k+1)) hp hR hs hl;obtain⟨c,h1,_⟩:=hp;refine⟨φ.le_refl,fun _ _=>rfl,r1,fun i x hx=>?_,fun i hi hn=>?_,r2⟩
  .have hx:(yrs b (ydi s (k+1)) m).b.get i=some x:=hx;rw[yboh]at hx;show(if i=b then _ else _)=_
   split at hx
   .rename_i q;rw[if_pos q];exact hx
   .rename_i q;rw[if_neg q];exact hs _ _ hx
  .show(if i=b then _ else _)=_
   rw[if_neg fun q=>?_];subst q;rcases hn with hn|hn
   .rw[h1]at hn;cases hn
   .have hn:i<(yrs i (ydi s (k+1)) m).low:=hn;unfold yrs at hn;rw[Sh.ybhp]at hn;have hn:i<Nat.min m.low i:=hn;exact absurd hn (Nat.not_lt.2 (Nat.min_le_right m.low i))
 .intro l St Stop φ M w cap' hread hgrow hyield h0 hcap;obtain⟨box,rfl,hbox⟩:=yfa hcap;obtain⟨lc,hlc,_,rfl⟩:=hbox.ptr_inv;obtain⟨N,hN⟩:∃N,(ybv s).length=N:=⟨_,rfl⟩;have Hread:=zG hread;have Hgrow:=zG hgrow;have Hyield:=zG hyield;have H0:=zG h0;have Hlc:=zG hlc
  have cellOf:Hid (∀k φ' M' W,St k φ' M' W->φ.le φ'/\W.cell? ⟨lc.blk,lc.base,none⟩=some (.int .u32 (ydi s k:Nat))/\W.frozen? ⟨lc.blk,lc.base,none⟩=false/\(∃e fz,W.heap[0]?=some (.cells ybeq.toArray e fz))/\lc.blk<W.heap.size):=zG fun k φ' M' W hst=>by
   obtain⟨hle,m,hR,hsu,hpre⟩:=hread k φ' M' W hst;obtain⟨l',cs,g1,g2,g3,g4,g5,g6,g7⟩:=ybah hpre hR hsu;rw[hle _ _ hlc]at g1;cases g1
   exact⟨hle,by simp[World.cell?,g5,g7],by simp[World.frozen?,g5],(hR.gl _ rfl).1,(Array.getElem?_eq_some_iff.1 g5).1⟩
  clear hread hgrow hyield h0 hbox hlc hcap
  refine callsIn_of_wp zBB rfl trivial ?_
  simp only[Tryz.ntmps189,List.size_toArray,List.length_cons,zAQ,zD,Nat.reduceSub,Array.replicate_succ,
   Array.replicate_zero,List.push_toArray,List.append_toArray,zAD,List.cons_append]
  gi_wp2
  gi_loopg [] N (fun q wr=>∃k:Nat,q+k=N/\Hid (∃φ' M',φ.le φ'/\St k φ' M' wr))
  case atStart=>exact⟨0,by omega,zG ⟨φ,M,φ.le_refl,H0.out⟩⟩
  case round =>
   obtain⟨k,hq,hst⟩:=hrel;obtain⟨φ1,M1,hle1,hst1⟩:=hst.out;obtain⟨_,hc1,hf1,hg1,hb1⟩:=cellOf.out _ _ _ _ hst1
   by_cases hlt:k<N
   .obtain⟨h0,hz⟩:=ydey hs32 (k:=k) (by omega)
    have hx32:=yoq hs32 k;have key:=ydat h0 hx32;have hrs:ydi s (k+1)=ydi s k&&&(ydi s k-1):=rfl;obtain⟨x,hx⟩:∃x,ydi s k=x:=⟨_,rfl⟩;obtain⟨y,hy⟩:∃y,ydi s (k+1)=y:=⟨_,rfl⟩;rw[hx]at hc1 h0 hz hx32 key hrs;rw[hy]at hrs;rw[<-hrs]at key;have hne:((x:Int)!=0)=true:=by rw[bne_iff_ne];omega
    have htz:=ydkh (w:=wr) (x:=x) hx32 hg1;rw[hz]at htz;obtain⟨v,hv⟩:∃v,(ybv s).getD k 0=v:=⟨_,rfl⟩
    obtain⟨fn,tmps,assign,body,hy',hRd⟩:=Hyield.out k φ1 M1 wr [.int .i64 (v:Nat)] (by show k<(ybv s).length;omega) hst1 (by
     show VRL φ1 [.int .i64 ((ybv s).getD k 0:Nat)] _;rw[hv];exact .cons (.simple rfl) .nil)
    rw[hv]at htz;have hyl:(Instr.yield l #[.int .i64 (v:Int)]).run zC wr = .ok (.round l fn tmps assign body) wr:=hy';have Hst1:=zG hst1;have Hle1:=zG hle1;have Hy:=zG hy;have Hx:=zG hx
    clear hst hst1 hle1 hy' hg1 hz hrs hx hy
    gi_wp2
    refine⟨trivial,callsIn_wide.2 (htz.mono ?_)⟩;rintro e w' ⟨rfl,rfl⟩
    gi_wp2
    refine hRd.mono ?_;rintro e W3 (⟨rfl,φ3,M3,hle3,⟨m3,hR3,hS3,hp3⟩,hst3⟩|⟨rfl,hstop⟩)
    .obtain⟨l',cs,g1,g2,g3,g4,g5,g6,g7⟩:=ybah hp3 hR3 hS3;rw[hle3 _ _ (Hle1.out _ _ Hlc.out)]at g1;cases g1
     have hc3:W3.cell? ⟨lc.blk,lc.base,none⟩=some (.int .u32 (x:Nat)):=by
      have hxe:ydi s k=x:=Hx.out;simp[World.cell?,g5,g7,hxe]
     have hf3:W3.frozen? ⟨lc.blk,lc.base,none⟩=false:=by simp[World.frozen?,g5]
     have Hst3:=zG (hst3 _ _ ⟨lc,hle3 _ _ (Hle1.out _ _ Hlc.out),rfl,rfl⟩);have Hle3:=zG hle3
     clear hst3 hle3 hRd hyl hR3 hS3 hp3 g2 g3 g4 g5 g6 g7
     gi_wp2
     gi_roundg (gk-1)
     case measure=>omega
     case rel =>
      have hthis:=Hst3.out;rw[Hy.out]at hthis;refine⟨k+1,by omega,zG ⟨φ3,upd M3 b (some (yxs y)),Phi.le_trans Hle1.out Hle3.out,?_⟩⟩
      clear Hread Hgrow Hyield H0 cellOf Hst3
      have e1:IntKind.wrap .u32 ((x:Int)-1)=(x:Int)-1:=by
       have e:(x:Int)-1=((x-1:Nat):Int):=by omega
       rw[e];exact yhv (by omega)
      rw[e1]at key;rw[key];exact hthis
    .have Hstop:=zG hstop
     clear hstop hRd hyl
     gi_wp2
     refine bodyPost_ret (results_none rfl _ _ _) rfl ?_;exact⟨⟨_,rfl⟩,.inr Hstop.out⟩
   .have hk:k=N:=by omega
    have h0:ydi s k=0:=(rest_end hs32 (by omega)).2 (by omega)
    rw[h0]at hc1;have Hst1:=zG hst1;have Hle1:=zG hle1
    clear hst hst1 hle1 hg1
    gi_wp2
    go_end0
    exact⟨⟨_,rfl⟩,.inl ⟨φ1,M1,by
     have:=Hst1.out;rw[hk,<-hN]at this;exact this⟩⟩
end Ev
end
section
section
variable {nm nc nr:ByteArray}{g:Gr}{c:Conf}{u v s:Nat}
theorem ydix{i:Nat}:(1<<<v).testBit i=true↔i=v:=by
 rw[zAN,zY,decide_eq_true_iff];exact eq_comm
theorem ybyb(hg:ybe g):ynz g (1<<<v):=fun a b hab ha=>by
 cases q:(1<<<v).testBit b with
 |false=>rfl
 | true =>
   rw[ydix]at ha q;subst ha;subst q
   exact absurd hab fun h=>by
    obtain⟨hu,_⟩:=hg.adj_lt h;obtain⟨l,hl,e⟩:=yjg.1 h;have e3:g.ports[b]?=some (g.ports.getD b []):=by simp[zBH,hu]
    exact(hg.link e3 hl).2.2.1 e
end
end
section
def takeB(net:Nat->Nat)(t v:Nat):Nat:=if net v&&&t=0 then t|||2^v else t
def resL(net:Nat->Nat)(e w:Nat):Nat:=if e<2^24 then(ybv (resD e w)).foldl (takeB net) 0 else 2^e.log2
theorem yqx{t v i:Nat}:(t|||2^v).testBit i=true↔t.testBit i=true\/i=v:=by
 rw[Nat.testBit_or,Bool.or_eq_true,zY,decide_eq_true_iff];exact or_congr Iff.rfl eq_comm
theorem yop{g:Gr}(hg:ybe g){net:Nat->Nat}(hn:∀u v,adj g u v->(net u).testBit v=true):∀(l:List Nat) (t:Nat),ynz g t ->
 ynz g (l.foldl (takeB net) t)/\(∀i,(l.foldl (takeB net) t).testBit i=true->t.testBit i=true\/i∈l)/\(∀i,t.testBit i=true->(l.foldl (takeB net) t).testBit i=true)
 |[],t,h=>⟨h,fun _ h=>.inl h,fun _ h=>h⟩
 | v :: l,t,h=>by
   have h' : ynz g (takeB net t v):=by
    unfold takeB;split
    .rename_i q
     have no:∀w,adj g v w->t.testBit w=false:=fun w hw=>by
      cases r:t.testBit w with
      |false=>rfl
      | true =>
        have:(net v&&&t).testBit w=true:=by rw[zV,hn v w hw,r];rfl
        rw[q]at this;simp at this
     intro a b hab ha;cases r:(t|||2^v).testBit b with
     |false=>rfl
     | true =>
       exfalso
       rcases yqx.1 ha with a1|a1<;>rcases yqx.1 r with b1|b1
       .have:=h a b hab a1;rw[b1]at this;cases this
       .rw[b1]at hab;have:=no a (hg.adj_symm hab);rw[a1]at this;cases this
       .rw[a1]at hab;have:=no b hab;rw[b1]at this;cases this
       .rw[a1,b1]at hab;obtain⟨hu,_⟩:=hg.adj_lt hab;obtain⟨l,hl,e⟩:=yjg.1 hab;have e3:g.ports[v]?=some (g.ports.getD v []):=by simp[zBH,hu]
        exact(hg.link e3 hl).2.2.1 e
    .exact h
   obtain⟨a1,a2,a3⟩:=yop hg hn l _ h';rw[zW];refine⟨a1,fun i hi=>?_,fun i hi=>a3 i ?_⟩
   .rcases a2 i hi with q|q
    .unfold takeB at q;split at q
     .rcases yqx.1 q with q|q
      .exact .inl q
      .exact .inr (by rw[q];exact zH)
     .exact .inl q
    .exact .inr (zT _ q)
   .unfold takeB;split
    .exact yqx.2 (.inl hi)
    .exact hi
theorem yye(g:Gr):ynz g 0:=fun _ _ _ h=>by simp at h
theorem ydez{g:Gr}(hg:ybe g){net:Nat->Nat}(hn:∀u v,adj g u v->(net u).testBit v=true):ResD (ynz g) (resL net):=fun e w h0=>by
 unfold resL
 by_cases he:e<2^24
 .rw[if_pos he];obtain⟨r1,r2⟩:=Sh.ydby e w h0 he;obtain⟨a1,a2,a3⟩:=yop hg hn (ybv (resD e w)) 0 (yye g)
  have hmem:∀i,i∈ybv (resD e w)↔i<32/\(resD e w).testBit i=true:=fun i=>by
   unfold ybv;rw[zAR,zAT]
  refine⟨?_,fun i hi=>?_,a1⟩
  .obtain⟨i,hi⟩:∃i,(resD e w).testBit i=true:=by
    refine zF fun hq=>r1 ((ycb _).2 fun i=>?_);cases q:(resD e w).testBit i with
    |false=>rfl
    |true=>exact absurd ⟨i,q⟩ hq
   have hi32:i<32:=by
    refine zF fun hq=>?_;have:=r2 i hi;rw[zO (zN he (zX (by omega) (by omega)))]at this
    cases this
   have hm:=(hmem i).2 ⟨hi32,hi⟩
   obtain⟨x,l,e1⟩:∃x l,ybv (resD e w)=x::l:=by
    cases q:ybv (resD e w)with
    |nil=>rw[q]at hm;cases hm
    |cons x l=>exact⟨x,l,rfl⟩
   rw[e1,zW];have hx:ynz g (takeB net 0 x):=(yop hg hn [x] 0 (yye g)).1
   have:=(yop hg hn l _ hx).2.2 x (by
    unfold takeB;rw[if_pos (by simp)]
    exact yqx.2 (.inr rfl))
   intro hz;rw[hz]at this;simp at this
  .rcases a2 i hi with q|q
   .simp at q
   .exact r2 i ((hmem i).1 q).2
 .rw[if_neg he]
  have hb:∀i,(2^e.log2).testBit i=true↔i=e.log2:=fun i=>by
   rw[zY,decide_eq_true_iff];exact eq_comm
  refine⟨Nat.pos_iff_ne_zero.1 (zU _),fun i hi=>?_,?_⟩
  .rw[(hb i).1 hi];exact Nat.testBit_log2 h0
  .have:=ybyb (v:=e.log2) hg
   rwa [zAN]at this
theorem ycis{g:Gr}(hg:ybe g):∀u v,adj g u v->(netP (g.ports.getD u [])).testBit v=true:=fun u v h=>by
 obtain⟨l,hl,e⟩:=yie h
 have key:∀(ls:List (Int×Int)) (a:Nat),(a.testBit v=true\/∃l∈ls,l.1.toNat=v)->(ls.foldl (fun a l=>a|||2^l.1.toNat) a).testBit v=true:=by
  intro ls
  induction ls with
  |nil=>intro a ha;exact ha.resolve_right fun⟨_,h,_⟩=>nomatch h
  | cons x ls ih =>
    intro a ha;rw[zW];refine ih _ ?_;rcases ha with q|⟨l,hl,q⟩
    .exact .inl (yqx.2 (.inl q))
    .rcases List.mem_cons.1 hl with r|r
     .exact .inl (yqx.2 (.inr (by rw[<-q,r])))
     .exact .inr ⟨l,r,q⟩
 exact key _ 0 (.inr ⟨l,hl,e⟩)
end
section
namespace Sh
open Ev Go.RowKit
def setO(x:Nat):OB:=⟨40,true,1,1,fun _=>[.i .u32 x]⟩
def ybbz(b s:Nat):ItS:=⟨(ybv s).length,fun k=>[.i .i64 ((ybv s).getD k 0:Nat)],[(b,0)],fun k o=>lookO o (b,0)=some (setO (ydi s k)),fun k o=>(SS.own ⟨[],o⟩ (b,0) (some (setO (ydi s (k+1))))).o⟩
theorem ybed{b s:Nat}(hs:s<2^32):ItC zC 189 [.pt (b,0) 0 0] (ybbz b s):=by
 intro lo F ω st f m us hc hr hown;obtain⟨u,rfl,hu⟩:=rvl1 hr;obtain⟨k,z,hk,rfl⟩:=hu.pt_inv;have hown0:lookO st.o (b,0)=some (setO (ydi s 0)):=hown;obtain⟨hz,_⟩:=hc.ownAt hown0 hk;have hz:z=1:=hz;subst hz;refine⟨ycuo k s,ycer hs,rfl,fun F' ω' s' f' m' j hF hω hc' hj hown'=>?_⟩;have hk':=hω (b,0) zH _ hk;have hown':lookO s'.o (b,0)=some (setO (ydi s j)):=hown';obtain⟨_,Tb,L,g1,g2⟩:=hc'.ownAt hown' hk'
 obtain⟨g3,g4,_,g5⟩:=g2 0 (by show 0<1;omega)
 refine⟨?_,fun hlt=>⟨.cons .i .nil,?_⟩⟩
 .refine⟨Tb,g1,?_⟩;have h0:=g5 0 (by show 0<1;omega)
  have g4:RVL F' ω' [.i .u32 (ydi s j:Nat)] (L 0):=g4;obtain⟨v,e,hv⟩:=rvl1 g4;rw[e,hv.int_inv]at h0;exact h0
 .exact hc'.upd (b:=setO (ydi s (j+1))) ⟨_,hown'⟩ hk' (show 40≠CU by decide) (Tb:=T.sets .leaf 0 [.int .u32 (ydi s (j+1):Nat)]) (L:=fun _=>[.int .u32 (ydi s (j+1):Nat)]) fun i hi=>by
   have hi:i<1:=hi;obtain rfl:i=0:=by omega
   refine⟨rfl,.cons .i .nil,rfl,fun q hq=>?_⟩;have hq:q<1:=hq;obtain rfl:q=0:=by omega
   exact ybmh _
theorem ybme{s:Nat}:Cm zC 154 [] [] [.i .u32 s] fun r o=>r = .fn 189 [] [.pt (1,0) 0 0]/\o=[(1,.one (some (setO s)))]:=by
 refine ycfz [] [] _ _ _ ?_;simp only[c154,ydai,yctl,clash,yhn,go_sem,zA,zD,zAK,↓reduceIte,reduceCtorEq];refine⟨.fn 189 [] [.pt (1,0) 0 0],[(1,.one (some (setO s)))],?_,?_,rfl,rfl⟩
 .refine yh [] [] [] ?_;simp only[setO,allQ,live,yc,go_sem,↓reduceIte,reduceCtorEq]
 .simp only[setO,ycz,yge,allQ,live,go_sem,↓reduceIte]
theorem yzw{s v:Nat}(hs:s<2^24)(h:v∈ybv s):v<24/\s.testBit v=true:=by
 have hb:=(ybro.1 h).2;refine⟨zF fun q=>?_,hb⟩;rw[zO (zN hs (zX (by omega) (by omega)))]at hb
 cases hb
theorem getD_mem{l:List Nat}{k:Nat}(h:k<l.length):l.getD k 0∈l:=by rw[getD_at h];exact List.getElem_mem h
theorem ybue{net:List Nat}{s:Nat}(hs:s<2^24)(hn:∀v,s.testBit v=true->v<net.length)(hb:∀v,net.getD v 0<2^32)(hind:∀v,s.testBit v=true->net.getD v 0&&&s=0) :
 Returns zC 221 [usV net,.i .u32 s] (.b true):=by
 refine Returns.of (ycdl [154] _ _ ?_);simp only[c221,yczu,ycyi,usV,clash,go_sem,zA,zD,zAK,↓reduceIte,reduceCtorEq];refine yfr (ybme (s:=s)) [(1,60)] 0 [2,3,4] [2,3,4] ?_ ?_
 .simp only[okN,ycz,yge,yfj,yeh,allQ,live,yc,go_sem,zA,zAA,↓reduceIte,reduceCtorEq]
 rintro r o' ⟨rfl,rfl⟩;simp only[setO,yrx,yms,nuF,nu,difN,yfj,yeh,Fam.ren,OB.ren,dim,yhm,ybmc,yblu,go_sem,zA,zAA,↓reduceIte]
 refine ybad (ybed (b:=60) (s:=s) (by omega)) [(60,0),(2,0),(3,0),(4,0)] (fun i (_:Unit)=>⟨[(7,.fn 189 [] [.pt (60,0) 0 0]),(2,.pt (2,0) 0 0),(3,.pt (3,0) 0 0),(4,.pt (4,0) 0 0)],
  [(60,.one (some (setO (ydi s i)))),(2,.one (some ⟨110,true,1,1,fun _=>[usV net]⟩)),(3,.one (some ⟨40,true,1,1,fun _=>[.i .u32 s]⟩)),(4,.one (some ⟨4,true,1,1,fun _=>[.b false]⟩))]⟩)
  (fun i _=>i<=(ybv s).length) () (zBF _) ⟨fun _ h=>absurd h zAP,fun β h=>by rw[List.mem_singleton.1 h];exact zH⟩ ?_ (fun _=>rfl) ?_ ?_ ?_
 .refine yh [] [] [] ?_;simp only[setO,usV,ydi,allQ,live,yc,go_sem,zA,↓reduceIte,reduceCtorEq]
 .intro i _ hi _;refine⟨rfl,?_⟩;simp only[go_sem,allQ,go_sem,zA]
 .intro i _ hi hlt;have hlt:i<(ybv s).length:=hlt;obtain⟨h24,hbit⟩:=yzw hs (getD_mem hlt);obtain⟨v,hv⟩:∃v,(ybv s).getD i 0=v:=⟨_,rfl⟩;rw[hv]at h24 hbit;have hvn:=hn v hbit;have an:=u32_and (a:=net.getD v 0) (b:=s) (hb v) (by omega)
  rw[hind v hbit]at an;simp only[IntKind.bits]at an;refine⟨_,rfl,?_⟩;simp only[ybbz];simp only[ycmf,ycxx,usV,setO,hv,an,zAC,zAV,clash,go_sem,zA,zD,↓reduceIte,reduceCtorEq]
  repeat (first|refine⟨by omega,?_⟩|refine⟨by decide,?_⟩)
  refine ydd [] [] [] ?_;simp only[allQ,live,yc,go_sem,zA,↓reduceIte,reduceCtorEq]
 .intro _ _;simp only[ycma,ybbz,splice,go_sem,zA,↓reduceIte];exact Sim.refl _
end Sh
end
section
namespace Sh
open Go Ev
end Sh
end
section
structure LdC(g:Gr)(c:Conf):Prop where
 len:c.length=g.ids.length
 row:∀v,v<g.ids.length->(c.getD v []).length=3/\(0<=(c.getD v []).getD 0 0/\(c.getD v []).getD 0 0<=ybfv g)/\(0<=(c.getD v []).getD 1 0/\(c.getD v []).getD 1 0<g.ids.length)/\(-1<=(c.getD v []).getD 2 0/\(c.getD v []).getD 2 0<(g.ports.getD v []).length)
section
variable {nm nl nd np no nj:ByteArray}{g:Gr}{c:Conf}{v:Nat}
theorem LdC.link(h:LdC g c)(hg:ybe g)(hv:v<g.ids.length){l:Int×Int}(hl:l∈g.ports.getD v []):0<=l.1/\l.1.toNat<g.ids.length/\adj g v l.1.toNat/\(0<=endP c 0 l/\endP c 0 l<=ybfv g)/\(0<=endP c 1 l/\endP c 1 l<g.ids.length):=by
 have hpl:=hg.2.2.1;obtain⟨h1,h2,h3,_⟩:=ydp hg (by omega) hl
 have h4:=h.row l.1.toNat (by omega)
 exact⟨h1,by omega,h3,h4.2.1,h4.2.2.1⟩
end
end
section
section
variable {nm nl nd np no nj:ByteArray}{g:Gr}{c:Conf}{v:Nat}
end
end
section
section
variable {nm nl nd np no nj:ByteArray}{g:Gr}{c:Conf}{v:Nat}
end
end
section
namespace Sh
open Ev Go.RowKit
end Sh
end
section
namespace Sh
open Ev Go.RowKit
end Sh
end
section
theorem ycgk(ls:List (Int×Int))(u:Nat):(netP ls).testBit u=true↔∃l∈ls,l.1.toNat=u:=by
 have key:∀(ls:List (Int×Int)) (a:Nat),(ls.foldl (fun a l=>a|||2^l.1.toNat) a).testBit u=true↔a.testBit u=true\/∃l∈ls,l.1.toNat=u:=by
  intro ls
  induction ls with
  |nil=>exact fun a=>⟨.inl,fun h=>h.resolve_right fun⟨_,h,_⟩=>nomatch h⟩
  | cons x ls ih =>
    intro a;rw[zW,ih,yqx];constructor
    .rintro((h|h)|⟨l,hl,e⟩)
     .exact .inl h
     .exact .inr ⟨x,zH,h.symm⟩
     .exact .inr ⟨l,zT _ hl,e⟩
    .rintro(h|⟨l,hl,e⟩)
     .exact .inl (.inl h)
     .rcases List.mem_cons.1 hl with r|r
      .exact .inl (.inr (by rw[<-e,r]))
      .exact .inr ⟨l,r,e⟩
 unfold netP;rw[key];simp
def netG(g:Gr)(v:Nat):Nat:=netP (g.ports.getD v [])
theorem yblp{g:Gr}(hg:ybe g){u v:Nat}(h:(netG g v).testBit u=true):adj g v u:=by
 obtain⟨l,hl,e⟩:=(ycgk _ _).1 h
 by_cases hv:v<g.ports.length
 .rw[<-e];exact(ydp hg hv hl).2.2.1
 .rw[zI,zS (by omega)]at hl
  cases hl
theorem ydgz{g:Gr}(hg:ybe g)(v:Nat):netG g v<2^24:=by
 have:=hg.2.1;refine Nat.lt_pow_two_of_testBit _ fun i hi=>?_;cases h:(netG g v).testBit i with
 |false=>rfl
 |true=>have:=(hg.adj_lt (yblp hg h)).2;omega
theorem ybjh(g:Gr)(v:Nat):(g.ports.map netP).getD v 0=netG g v:=by
 unfold netG
 by_cases hv:v<g.ports.length
 .rw[Sh.getD_at (by rw[zJ];exact hv),List.getElem_map,Sh.getD_at hv]
 .rw[zI,zS (by rw[zJ];omega),zI,zS (by omega)]
  rfl
def resG(g:Gr):Nat->Nat->Nat:=resL (netG g)
theorem ytj{g:Gr}(hg:ybe g):ResD (ynz g) (resG g):=ydez hg (ycis hg)
theorem ybui{g:Gr}(hg:ybe g){s:Nat}(h:ynz g s){v:Nat}(hv:s.testBit v=true):netG g v&&&s=0:=by
 rw[ycb];intro i;rw[zV];cases q:(netG g v).testBit i with
 |false=>rfl
 |true=>rw[h v i (yblp hg q) hv];rfl
def ynw(f:Nat->Nat)(x i:Nat):Nat:=((ybv x).take i).foldl (takeB f) 0
theorem ytt{f:Nat->Nat}{x i:Nat}(hi:i<(ybv x).length):ynw f x (i+1)=takeB f (ynw f x i) ((ybv x).getD i 0):=by
 unfold ynw;rw[List.take_succ_eq_append_getElem hi,List.foldl_append,Sh.getD_at hi];rfl
theorem ybnr(f:Nat->Nat)(x:Nat):ynw f x (ybv x).length=(ybv x).foldl (takeB f) 0:=by unfold ynw;rw[List.take_length]
theorem ybeh{f:Nat->Nat}{x:Nat}(hx:x<2^24):∀i,i<=(ybv x).length->ynw f x i<2^24
 |0,_=>zU 24
 | i+1,hi=>by
   rw[ytt (by omega)]
   have h:=ybeh (f:=f) hx i (by omega)
   have h2:=(Sh.yzw hx (Sh.getD_mem (show i<(ybv x).length by omega))).1
   unfold takeB;split
   .exact Nat.or_lt_two_pow h (zAH (by omega) h2)
   .exact h
theorem ycij:lowB 0=0:=zAZ _
theorem ycgs(e w:Nat):subB (resD e w) e:=by
 unfold resD;split
 .exact yblj e
 .intro i hi;rw[zV,zB]at hi;exact hi.2
namespace Sh
open Ev Go.RowKit
set_option maxHeartbeats 2000000 in
theorem yrn{net:List Nat}{e w:Nat}(he:e<2^24)(hn:∀v,e.testBit v=true->v<net.length)(hb:∀v,net.getD v 0<2^24)(hw:w<2^32) :
 Returns zC 111 [usV net,.i .i64 2,.i .u32 e,.i .u32 w] (.i .u32 ((ybv (resD e w)).foldl (takeB fun v=>net.getD v 0) 0:Nat)):=by
 refine Returns.of (ycfb [154] _ _ ?_);have a0:=u32_and (a:=w) (b:=e) (by omega) (by omega)
 obtain⟨N,a1,a2⟩:∃N:Nat,IntKind.wrap .u32 (0-(e:Int))=(N:Int)/\IntKind.wrap .u32 (((zBC (IntKind.bits .u32) (e:Int))&&&zBC (IntKind.bits .u32) (N:Int)).toNat:Int)=((lowB e:Nat):Int):=by
  by_cases h0:e=0
  .subst h0;refine⟨0,by decide,?_⟩
   have:=u32_and (a:=0) (b:=0) (by omega) (by omega)
   rw[Nat.and_zero]at this;rw[ycij];exact this
  .exact⟨2^32-e,u32_neg (by omega) (by omega),u32_and (a:=e) (b:=2^32-e) (by omega) (by omega)⟩
 have hsub:=ycgs e w;obtain⟨W,hW⟩:∃W,w&&&e=W:=⟨_,rfl⟩;rw[hW]at a0;simp only[IntKind.bits]at a0 a2
 obtain⟨x,hx,hcase⟩:∃x,resD e w=x/\((((W:Int)==0)=true/\lowB e=x)\/(((W:Int)==0)=false/\W=x)):=by
  unfold resD;rw[hW]
  by_cases q:W=0
  .exact⟨lowB e,if_pos q,.inl ⟨by rw[q];rfl,rfl⟩⟩
  .exact⟨W,if_neg q,.inr ⟨by rw[beq_eq_false_iff_ne];omega,rfl⟩⟩
 rw[hx]at hsub ⊢;have hx24:x<2^24:=ybhu hsub he;obtain⟨f,hf⟩:∃f:Nat->Nat,(fun v=>net.getD v 0)=f:=⟨_,rfl⟩;have hf':∀v,net.getD v 0=f v:=fun v=>by rw[<-hf]
 simp only[hf']at hb;rw[hf,<-ybnr f x];have hlt24:=ybeh (f:=f) hx24;have hsu:=fun i=>ytt (f:=f) (x:=x) (i:=i);have ht0:ynw f x 0=0:=rfl;obtain⟨T,hT⟩:∃T:Nat->Nat,(fun i=>ynw f x i)=T:=⟨_,rfl⟩;have hT':∀i,ynw f x i=T i:=fun i=>by rw[<-hT]
 simp only[hT']at hlt24 hsu ht0 ⊢;rcases hcase with⟨z0,hz⟩|⟨z0,hz⟩
 all_goals
  first
   |rw[hz]at a2
   |rw[hz]at a0 z0
  simp only[c111,ycng,yckp,ycpx,ycyb,yckf,ycqp,ycnk,yczk,ycxw,usV,a0,a1,a2,z0,IntKind.signed,zAW,clash,go_sem,zA,zD,zAK,↓reduceIte,reduceCtorEq];refine yfr (ybme (s:=x)) [(1,60)] 0 [4,9] [4,9] ?_ ?_
  .simp only[okN,ycz,yge,yfj,yeh,allQ,live,yc,go_sem,zA,zAA,↓reduceIte,reduceCtorEq]
  rintro r o' ⟨rfl,rfl⟩;simp only[setO,yrx,yms,nuF,nu,difN,yfj,yeh,Fam.ren,OB.ren,dim,yhm,ybmc,yblu,go_sem,zA,zAA,↓reduceIte]
  refine ybad (ybed (b:=60) (s:=x) (by omega)) [(60,0),(4,0),(9,0)] (fun i (_:Unit)=>⟨[(30,.fn 189 [] [.pt (60,0) 0 0]),(4,.pt (4,0) 0 0),(9,.pt (9,0) 0 0)],
   [(60,.one (some (setO (ydi x i)))),(4,.one (some ⟨110,true,1,1,fun _=>[usV net]⟩)),(9,.one (some ⟨40,true,1,1,fun _=>[.i .u32 (T i)]⟩))]⟩)
   (fun i _=>i<=(ybv x).length) () (zBF _) ⟨fun _ h=>absurd h zAP,fun β h=>by rw[List.mem_singleton.1 h];exact zH⟩ ?_ (fun _=>rfl) ?_ ?_ ?_
  .refine yh [] [] [] ?_;simp only[setO,usV,ydi,ht0,allQ,live,yc,zAC,go_sem,zA,↓reduceIte,reduceCtorEq]
  .intro i _ hi _;refine⟨rfl,?_⟩;simp only[go_sem,allQ,go_sem,zA]
  .intro i _ hi hlt;have hlt:i<(ybv x).length:=hlt;obtain⟨h24,hbit⟩:=yzw hx24 (getD_mem hlt);have hs:=hsu i hlt;have hti:=hlt24 i (by omega)
   obtain⟨v,hv⟩:∃v,(ybv x).getD i 0=v:=⟨_,rfl⟩;rw[hv]at h24 hbit hs;have hvn:=hn v (hsub v hbit);have hbv:=hb v;have hfv:=hf' v;obtain⟨b,hbe⟩:∃b,f v=b:=⟨_,rfl⟩;obtain⟨t,hte⟩:∃t,T i=t:=⟨_,rfl⟩;unfold takeB at hs;rw[hbe]at hbv hfv hs;rw[hte]at hti hs;have an:=u32_and (a:=b) (b:=t) (by omega) (by omega)
   obtain⟨a,ha⟩:∃a,b&&&t=a:=⟨_,rfl⟩;rw[ha]at an hs;have sh:=yoo (v:=v) (by omega)
   have ov:=u32_or (a:=t) (b:=2^v) (by omega) (zAH (by omega) (by omega))
   simp only[IntKind.bits,Int.toNat_natCast]at an sh ov;refine⟨_,rfl,?_⟩;simp only[ybbz]
   by_cases q:a=0
   .have z1:((a:Int)==0)=true:=by rw[q];rfl
    rw[if_pos q]at hs;simp only[ybhf,ybhi,ybhe,usV,setO,hv,hfv,hte,an,sh,ov,z1,splice,clash,go_sem,zA,zD,↓reduceIte,reduceCtorEq]
    repeat (first|refine⟨by omega,?_⟩|refine⟨by decide,?_⟩)
    refine ydd [] [] [] ?_;simp only[hs,allQ,live,yc,go_sem,zA,↓reduceIte,reduceCtorEq]
   .have z1:((a:Int)==0)=false:=by rw[beq_eq_false_iff_ne];omega
    rw[if_neg q]at hs;simp only[ybhf,ybhi,ybhe,usV,setO,hv,hfv,hte,an,z1,clash,go_sem,zA,zD,↓reduceIte,reduceCtorEq]
    repeat (first|refine⟨by omega,?_⟩|refine⟨by decide,?_⟩)
    refine ydd [] [] [] ?_;simp only[hs,allQ,live,yc,go_sem,zA,↓reduceIte,reduceCtorEq]
  .intro _ _;simp only[ycbb,ybbz,clash,go_sem,zA,zD,↓reduceIte,reduceCtorEq];exact Sim.refl _
theorem ybfa{net:List Nat}{e s:Nat}(he:e<2^24)(h0:s≠0)(hs:s<2^24)(hsub:difB s e=0)(hn:∀v,s.testBit v=true->v<net.length)(hb:∀v,net.getD v 0<2^32)(hi:∀v,s.testBit v=true->net.getD v 0&&&s=0) :
 Returns zC 196 [usV net,.i .i64 2,.i .u32 e,.i .u32 s] (.b true):=by
 refine Returns.of (ydce _ _ ?_);have z0:((s:Int)==0)=false:=by simp;omega
 have a0:=u32_andNot (a:=s) (b:=e) (by omega) (by omega)
 have hI:=ybue hs hn hb hi;rw[hsub]at a0;simp only[usV]at hI;simp only[zAC,IntKind.bits]at a0;simp only[c196,ycjo,yclm,usV,z0,a0,zAV,go_sem,zA,zD,↓reduceIte,reduceCtorEq];simp only[ycwh,ycnw,ycsp,ycxy,zAW,go_sem,zA,zD,↓reduceIte,reduceCtorEq];refine hI.use ?_;simp only[ybg,yig,go_sem,zA,zD,↓reduceIte,reduceCtorEq]
theorem ydgr{g:Gr}(hg:ybe g):DaemonOk 2 (g.ports.map netP) (resG g):=by
 have hN:(fun v=>(g.ports.map netP).getD v 0)=netG g:=funext fun v=>ybjh g v;have hb:∀v,(g.ports.map netP).getD v 0<2^24:=fun v=>by rw[ybjh];exact ydgz hg v
 have hl:∀(e:Nat),e<2^(g.ports.map netP).length->∀v,e.testBit v=true->v<(g.ports.map netP).length:=fun e he v hv=>by
  refine zF fun q=>?_;rw[zO (zN he (zX (by omega) (by omega)))]at hv
  cases hv
 have hrs:∀(e w:Nat),e<2^24->resG g e w=(ybv (resD e w)).foldl (takeB (netG g)) 0:=fun e w he=>if_pos he;refine⟨fun e w he hn h0 hw=>?_,fun e w he hn h0 hw=>?_,fun w hw=>?_,fun e w h0 _=>⟨(ytj hg e w h0).1,(ytj hg e w h0).2.1⟩⟩
 .rw[hrs e w he,<-hN];exact yrn he (hl e hn) hb hw
 .obtain⟨h1,h2,h3⟩:=ytj hg e w h0;exact ybfa he h1 (ybhu h2 he) (ycez h2) (fun v hv=>hl e hn v (h2 v hv)) (fun v=>zN (hb v) (by omega)) fun v hv=>by rw[ybjh];exact ybui hg h3 hv
 .exact⟨_,yrn (zU 24) (fun v hv=>by simp at hv) hb hw⟩
end Sh
end
section
namespace Sh
open Ev Go.RowKit
theorem ybxw:Returns zC 42 [] (.a (.string Nqt)):=by
 refine Returns.of (ydlb _ _ ?_);simp only[c42,ydmf,ydsf,go_sem,↓reduceIte];exact Sim.refl _
theorem ybic{g:Gr}(hI:GrI g)(hit:ycd g=true):Returns zC 43 [grV g] (.ag (yha 2 false true (yif g/2+2) (-1))):=by
 have h:=ybop hI;unfold ypx at h;rw[if_pos hit]at h;exact h
theorem yzx{g:Gr}(hI:GrI g)(hit:ycd g=true):Returns zC 44 [grV g] (.ag (yha 2 false true (yif g/2+2) (-1))):=by
 have h:=ybdq hI;unfold ypx at h;rw[if_pos hit]at h;exact h
theorem ybnl:Returns zC 41 [] (ydm NqP.vars):=by
 have e:NqP.vars=[⟨⟨#[104]⟩,1,0,0,1,0⟩,⟨⟨#[108]⟩,2,0,0,0,0⟩]:=by kernel_rfl
 rw[e];exact ybse
end Sh
end
end Go.Proofs.YtiejahgklcjhkaaGreatDoor
