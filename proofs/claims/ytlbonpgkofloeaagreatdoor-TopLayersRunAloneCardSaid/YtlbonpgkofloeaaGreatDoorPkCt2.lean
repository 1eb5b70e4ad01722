/- Joined. -/
import Derived.Test.YtlbonpgkofloeaaGreatDoorPkCt1
set_option linter.unusedSimpArgs false
set_option linter.unusedVariables false
open Nat renaming ble_eq_true_of_le->zA,succ->zC,beq->zD,eq_of_beq_eq_true->zH,add_mul->zI,beq_refl->zJ,mul_le_mul_right->zM,add_assoc->zU,zero_add->zX,le_refl->zZ,eq_zero_or_pos->zAC,lt_of_lt_of_le->zAD,lt_irrefl->zAE,min->zAG,succ_mul->zAH,mul_comm->zAI,le_trans->zAJ,ble->zAL,le_min->zAN,div_lt_of_lt_mul->zAO,lt_succ_of_lt->zAS,lt_succ_self->zAU,min_eq_left->zAW,not_lt_zero->zAX,div_add_mod->zAY,blt->zBA,sub->zBB,zero_mul->zBD,add_zero->zBF,mod_lt->zBH,mul->zBJ
open Bool renaming and_eq_true->zB,false_eq_true->zAQ,not_eq_true'->zAT
open List renaming mem_cons_of_mem->zF,all_cons->zL,getElem?_append_right->zO,getElem?_append_left->zQ,mem_cons_self->zS,length_map->zV,all_append->zW,getElem?_drop->zAA,length_append->zAB,append_assoc->zAF,forIn_cons->zAK,mem_append_right->zAM,mem_append_left->zAP,length_take->zAV,mem_filter->zAZ,map_cons->zBC,all_map->zBE,range'->zBG,range->zBI
open Option renaming bind_some->zG,getD_some->zK,bind_assoc->zT
open Int renaming eq_ofNat_of_zero_le->zN,toNat_natCast->zY
open Array renaming forIn_toList->zAR
open Go
namespace Go.Proofs.YtlbonpgkofloeaaGreatDoor
section
namespace Sh
open Go Ev
section
variable {P:Program}{lo:Nat}{F:AM}{ω:Om}{s:SS}{f:Fr}{m:Mem}{o:Oper}{c:Prop}{r:SRec}
theorem ybyr(g:Conc lo F ω s f m){x:Operand}{v:SV}(b:o.op = .nilCheck x)(l:s.get x=some v)(h:(∃c,v = .rf c)\/∃n i j,v = .pt n i j):OpS P lo F ω f m o ⟨c,r,v,s⟩:=by
 obtain⟨u,e,d⟩:=g.get l
 have:∃a,u = .pointer (some a):=by
  rcases h with⟨_,rfl⟩|⟨_,_,_,rfl⟩
  .obtain⟨q,p,T,N,e,t,L,rfl,_⟩:=d.rf_inv;exact⟨_,rfl⟩
  .obtain⟨k,z,_,rfl⟩:=d.pt_inv;exact⟨_,rfl⟩
 obtain⟨a,rfl⟩:=this;refine OpS.idle g (u:=.pointer (some a)) ?_ d;unfold evOp;rw[b];show ob (f.get x) evNilCheck=_;rw[e];rfl
theorem yxc(b p q:Nat):addrAt ⟨b,p,none⟩ q=some ⟨.pointer (some ⟨b,p+q,none⟩),.none,[]⟩:=by
 show ptrAt b (Nat.add p q)=_;unfold ptrAt;rw[ybo];rfl
theorem ykp{l:List SV}{g:SV->Bool}(h:l.all g=true)(n:Nat):(l.drop n).all g=true:=List.all_eq_true.2 fun x a=>List.all_eq_true.1 h x (List.mem_of_mem_drop a)
theorem yra{l:List SV}{g:SV->Bool}(h:l.all g=true)(n:Nat):(l.take n).all g=true:=List.all_eq_true.2 fun x a=>List.all_eq_true.1 h x (List.mem_of_mem_take a)
theorem RV.rf_in{l:List SV}{bk p T N e zz}{L:List Value}(g:F bk=some (.cells T N e zz))(t:p+L.length<=N)(h:∀j,j<L.length->T.get (p+j)=L[j]?)(b:RVL F om0 l L)(i:l.all one1=true){q n:Nat}(k:q+n<=l.length) :
 RV F ω (.rf ((l.drop q).take n)) (.pointer (some ⟨bk,p+q,none⟩)):=by
 rw[b.length]at k;have a:((L.drop q).take n).length=n:=by simp;omega
 refine .rf g (L:=(L.drop q).take n) (by rw[a];omega) (fun j d=>?_) ((b.drop q).take n) (yra (ykp i q) n)
 rw[a]at d;rw[show p+q+j=p+(q+j)by omega,h _ (by omega)]
 simp[d]
theorem ychn (n:Conc lo F ω s f m) {t:TypeId}{x:Operand}{k:Nat}{h:Array Field}{d:Field}{i:TypeInfo}(y:o.op = .fieldAddr t x k) (J:P.underlying t=some (.struct h)) (K:h[k]?=some d) (M:P.info? d.type=some i) (C:i.size≠0)
 {v w:SV}(R:s.get x=some v) (Q:(∃l,v = .rf l/\d.offset+i.size<=l.length/\w = .rf ((l.drop d.offset).take i.size))\/∃A a j,v = .pt A a j/\w = .pt A a (j+d.offset)):OpS P lo F ω f m o ⟨c,r,w,s⟩:=by
 obtain⟨u,e,B⟩:=n.get R
 have g:∀{b p:Nat},u = .pointer (some ⟨b,p,none⟩)->evOp P f o m=some ⟨.pointer (some ⟨b,p+d.offset,none⟩),.none,[]⟩:=by
  rintro b p rfl;unfold evOp;rw[y];show ob (f.get x) (evFieldAddr P t k)=_;rw[e];show ob (P.underlying t) _=_;rw[J];show ob h[k]? _=_;rw[K];show ob (P.info? d.type) _=_;rw[M];show iteB (zD i.size 0) none _=_;rw[ybh,if_neg (by intro q;exact C (zH q)),yxc]
 rcases Q with⟨l,rfl,O,rfl⟩|⟨A,a,j,rfl,rfl⟩
 .obtain⟨S,p,T,N,U,W,L,rfl,D,E,G,H,I⟩:=B.rf_inv;exact OpS.idle n (g rfl) (RV.rf_in D E G H I O)
 .obtain⟨V,z,hk,rfl⟩:=B.pt_inv;refine OpS.idle n (g rfl) ?_;rw[zU];exact .pt hk
theorem RV.ag_inv{l:List SV}{u:Value}(h:RV F ω (.ag l) u):∃L:List Value,u = .agg L.toArray/\RVL F ω l L:=by
 cases h with
 |ag h=>exact⟨_,rfl,h⟩
theorem RV.tp_inv{l:List SV}{u:Value}(h:RV F ω (.tp l) u):∃L:List Value,u = .tuple L.toArray/\RVL F ω l L:=by
 cases h with
 |tp h=>exact⟨_,rfl,h⟩
theorem ycvp (p:Conc lo F ω s f m) {t:TypeId}{x:Operand}{k:Nat}{j:Array Field}{b:Field}{i:TypeInfo}{d:TypeDesc}(q:o.op = .field t x k) (B:P.underlying t=some (.struct j)) (C:j[k]?=some b) (D:P.info? b.type=some i) (G:P.underlying b.type=some d)
 {l:List SV}{w:SV}(I:s.get x=some (.ag l)) (H:part (isAggD d) b.offset i.size l=some w):OpS P lo F ω f m o ⟨c,r,w,s⟩:=by
 obtain⟨u,e,E⟩:=p.get I;obtain⟨L,rfl,A⟩:=E.ag_inv;obtain⟨K,y⟩:=ywt H A
 have a:∀{v:Value},partA P b.type L b.offset=some v->evOp P f o m=some ⟨v,.none,[]⟩:=by
  intro v h;unfold evOp;rw[q];show ob (f.get x) (evFieldOf P t k)=_;rw[e];show ob (P.underlying t) _=_;rw[B];show ob j[k]? _=_;rw[C];show ob (partA P b.type L b.offset) val=_;rw[h];rfl
 unfold partA at a;rw[G,D]at a;simp only at a;rcases y with⟨n,h⟩|⟨n,J,v,z,h⟩
 .rw[n]at a;simp only[cond_true,takeFrom]at a;have g:((L.drop b.offset).take i.size).length=i.size:=by simp;omega
  rw[g,zJ]at a;exact OpS.idle p (a rfl) h
 .rw[n]at a;simp only[cond_false]at a;exact OpS.idle p (a z) h
theorem RV.sl_inv{z n:Nat}{g:Nat->List SV}{u:Value}(h:RV F ω (.sl z n g) u):(n=0/\Z0 u)\/∃b p d T N e a,∃L:Nat->List Value,u = .slice (some ⟨b,p,none⟩) n d/\F b=some (.cells T N e a)/\(a=z\/a=0)/\p+n*z<=N /\
 (∀k,k<n->(L k).length=z)/\(∀k,k<n->∀j,j<z->T.get (p+k*z+j)=(L k)[j]?)/\(∀k,k<n->RVL F om0 (g k) (L k))/\(∀k,k<n->(g k).all one1=true):=by
 cases h with
 |sl0 h=>exact .inl ⟨rfl,h⟩
 |sl i l q t v w x=>exact .inr ⟨_,_,_,_,_,_,_,_,rfl,i,l,q,t,v,w,x⟩
theorem RV.os_inv{b:Nm}{p n:Nat}{ap:Bool}{u:Value}(h:RV F ω (.os b p n ap) u):(∃k z a,ω b=some (some (k,z))/\u = .slice (some ⟨k,p*z,none⟩) n a/\(ap=true->a=CU\/(a=n/\n<CU)))\/(ω b=some none/\p=0/\n=0/\u = .slice none 0 0):=by
 cases h with
 |os h d=>exact .inl ⟨_,_,_,h,rfl,d⟩
 |os0 h=>exact .inr ⟨h,rfl,rfl,rfl⟩
theorem ylg{k n z:Nat}(h:k<n):k*z+z<=n*z:=by
 have:=zM z (Nat.succ_le_of_lt h)
 rwa [zAH]at this
theorem ydmp (w:Conc lo F ω s f m) {t elem:TypeId}{x y:Operand}{i:TypeInfo}(C:o.op = .indexAddr t x y) (W:P.underlying t=some (.slice elem)) (X:P.info? elem=some i)
 {v:SV}{kk:IntKind}{n:Int}(Y:s.pget x=some v) (Z:s.get y=some (.i kk n)) {q:XR}(h:idxX s n i.size v=some q) (J:q.c):OpS P lo F ω f m o q:=by
 obtain⟨u,e,K⟩:=w.pget Y;obtain⟨u',M,D⟩:=w.get Z;cases D.int_inv
 have A:∀{b p len l a:Nat},u = .slice (some ⟨b,p,none⟩) len l->n=Int.ofNat a->a<len->evOp P f o m=some ⟨.pointer (some ⟨b,p+a*i.size,none⟩),.none,[]⟩:=by
  rintro b p len l a rfl rfl d;unfold evOp;rw[C];show(ob (f.get x) fun x=>ob (f.get y) (evIndexAddr P t x))=_;rw[e];show ob (f.get y) (evIndexAddr P t _)=_;rw[M];show ob (P.underlying t) _=_;rw[W];show iteB (zBA a len) (ob (P.info? elem) fun G=>addrAt ⟨b,p,none⟩ (zBJ a G.size)) none=_;rw[ybh,if_pos (show zBA a len=true from zA d),X]
  exact yxc _ _ _
 unfold idxX at h;split at h
 .rename_i z' len g
  split at h
  .rename_i E
   subst E;cases h
   obtain⟨B,U⟩:0<=n/\n<len:=J;obtain⟨a,rfl⟩:=zN B;have d:a<len:=by omega
   rcases K.sl_inv with⟨q,_⟩|⟨bk,p,l,T,N,e2,zz,L,rfl,O,g2,g3,H,Q,R,S⟩
   .omega
   .refine OpS.idle w (A rfl rfl d) ?_;rw[zY];have:=ylg (z:=i.size) d;exact .rf (L:=L a) O (by rw[H a d];omega) (fun j I=>Q a d j (by rw[H a d]at I;exact I)) (R a d) (S a d)
  .cases h
 .rename_i β p len l
  split at h
  .rename_i b V
   split at h
   .rename_i E
    cases h
    obtain⟨B,U⟩:0<=n/\n<len:=J;obtain⟨a,rfl⟩:=zN B;have d:a<len:=by omega
    rcases K.os_inv with⟨k,z,l,hk,rfl,_⟩|⟨_,_,q,_⟩
    .obtain⟨rfl,_⟩:=w.ownZ V hk;refine OpS.idle w (A rfl rfl d) ?_;rw[zY,<-E,<-zI];exact .pt hk
    .omega
   .cases h
  .cases h
 .cases h
theorem ycfx (h:Conc lo F ω s f m) {t elem:TypeId}{x y:Operand}{i:TypeInfo}{len:Nat}(A:o.op = .indexAddr t x y) (R:P.underlying t=some (.array len elem)) (S:P.info? elem=some i)
 {v w:SV}{Z:IntKind}{n:Int}(W:s.get x=some v) (X:s.get y=some (.i Z n)) (V:0<=n/\n<len)
 (E:(∃d b a j,v = .pt d a j/\lookO s.o d=some b/\b.z=i.size/\w = .pt d (a+n.toNat) j)\/(∃d a j,v = .pt d a j/\w = .pt d a (j+n.toNat*i.size))\/(∃l,v = .rf l/\n.toNat*i.size+i.size<=l.length/\w = .rf ((l.drop (n.toNat*i.size)).take i.size))):OpS P lo F ω f m o ⟨c,r,w,s⟩:=by
 obtain⟨u,e,B⟩:=h.get W;obtain⟨u',G,C⟩:=h.get X;cases C.int_inv
 obtain⟨a,rfl⟩:=zN V.1;have O:a<len:=by omega
 have g:∀{b p:Nat},u = .pointer (some ⟨b,p,none⟩)->evOp P f o m=some ⟨.pointer (some ⟨b,p+a*i.size,none⟩),.none,[]⟩:=by
  rintro b p rfl;unfold evOp;rw[A];show(ob (f.get x) fun x=>ob (f.get y) (evIndexAddr P t x))=_;rw[e];show ob (f.get y) (evIndexAddr P t _)=_;rw[G];show ob (P.underlying t) _=_;rw[R];show iteB (zBA a len) (ob (P.info? elem) fun D=>addrAt ⟨b,p,none⟩ (zBJ a D.size)) none=_;rw[ybh,if_pos (show zBA a len=true from zA O),S]
  exact yxc _ _ _
 simp only[zY]at E;rcases E with⟨d,b,q,j,rfl,Q,Y,rfl⟩|⟨d,q,j,rfl,rfl⟩|⟨l,rfl,U,rfl⟩
 .obtain⟨k,z,hk,rfl⟩:=B.pt_inv;obtain⟨rfl,_⟩:=h.ownZ Q hk;refine OpS.idle h (g rfl) ?_;have:=RV.pt (F:=F) (i:=q+a) (j:=j) hk;rw[show q*b.z+j+a*i.size=(q+a)*b.z+j by rw[<-Y,zI];omega]
  exact this
 .obtain⟨k,z,hk,rfl⟩:=B.pt_inv;refine OpS.idle h (g rfl) ?_;rw[zU];exact .pt hk
 .obtain⟨bk,p,T,N,e2,zz,L,rfl,H,I,J,K,M⟩:=B.rf_inv;exact OpS.idle h (g rfl) (RV.rf_in H I J K M U)
theorem ycio(b:Conc lo F ω s f m){x:Operand}{k:Nat}{l:List SV}{v:SV}(a:o.op = .extract x k)(j:s.get x=some (.tp l))(hk:l[k]?=some v):OpS P lo F ω f m o ⟨c,r,v,s⟩:=by
 obtain⟨u,e,i⟩:=b.get j;obtain⟨L,rfl,h⟩:=i.tp_inv;obtain⟨w,d,g⟩:=h.get hk;refine OpS.idle b (u:=w) ?_ g;unfold evOp;rw[a];show ob (f.get x) (evExtract k)=_;rw[e];show ob (L.toArray)[k]? val=_;rw[show L.toArray[k]?=some w by simpa using d]
 rfl
theorem ydgs(d:Conc lo F ω s f m){g:FuncId}{a b:Array Operand}{h i:List SV}(e:o.op = .makeFunc (.func g) a b)(p:s.gets a.toList=some h)(q:s.gets b.toList=some i):OpS P lo F ω f m o ⟨c,r,.fn g h i,s⟩:=by
 obtain⟨t,j,l⟩:=d.gets p;obtain⟨u,k,n⟩:=d.gets q;refine OpS.idle d ?_ (.fn l n);unfold evOp;rw[e];show(ob (valsA f a.toList) fun a=>ob (valsA f b.toList) fun b=>evMakeFunc a b (.func g))=_;rw[j];show(ob (valsA f b.toList) fun b=>evMakeFunc t b (.func g))=_;rw[k];rfl
end
end Sh
end
section
namespace Sh
open Go Ev
section
variable {P:Program}{lo:Nat}{F:AM}{ω:Om}{s:SS}{f:Fr}{m:Mem}{o:Oper}{c:Prop}{r:SRec}
theorem wrap_in{k:IntKind}{n:Int}(h:inK k n):k.wrap n=n:=by
 obtain⟨a,b⟩:=h;unfold IntKind.wrap;cases k<;>simp[IntKind.min,IntKind.max,IntKind.bits,IntKind.signed]at *<;>omega
theorem ybc{b e:Type}(P:Program)(k:b->Sem e):∀{S:Sem b}{a:b},runPure P S=some a->runPure P (S >>= k)=runPure P (k a):=by
 intro S
 induction S with
 |pure x=>intro a h;cases h;rfl
 |program j d=>intro a h;exact d P h
 |_=>intro a h;cases h
theorem yhx{u:Value}{us:List Value}(a:valsA f o.op.operands.toList=some us)(b:us.all atomA=true)(d:runPure P (execOp (fun x=>(f.get x).getD undef) o)=some (.value u))(e:atomA u=true):pureA P f o=some ⟨u,.none,[]⟩:=by
 unfold pureA;rw[a];simp only[b,cond_true];rw[d];simp only[e,cond_true]
theorem ybbs{x y:Operand}{a b:Value}(d:f.get x=some a)(e:f.get y=some b):valsA f [x,y]=some [a,b]:=by
 unfold valsA;rw[d];simp only;unfold valsA;rw[e];rfl
theorem ycoa{x:Operand}{a:Value}(b:f.get x=some a):valsA f [x]=some [a]:=by
 unfold valsA;rw[b];rfl
theorem ybn{t:TypeId}{d:TypeDesc}(h:P.underlying t=some d):runPure P (underlying t)=some d:=by
 unfold underlying;show runPure P (match P.underlying t with|some d=>_|none=>_)=_
 rw[h];rfl
theorem ydjv(l:Conc lo F ω s f m){j C:TypeId}{x y:Operand}(g:o.op = .binOp .sub j x y C){k:IntKind}{n d:Int}(w:s.get x=some (.i k n))(z:s.get y=some (.i k d)):OpS P lo F ω f m o ⟨c,r,.i k (k.wrap (n-d)),s⟩:=by
 obtain⟨a,q,A⟩:=l.get w;obtain⟨b,t,B⟩:=l.get z;have p:evOp P f o m=pureA P f o:=by unfold evOp;rw[g]
 cases A.int_inv
 cases B.int_inv
 have e:runPure P (do eqGuard .sub j x y (.int k n) (.int k d);binOp .sub j (.int k n) (.int k d):Sem Value)=some (.int k (k.wrap (n-d))):=by
  have:runPure P (eqGuard .sub j x y (.int k n) (.int k d))=some ():=rfl;refine(ybc P (fun _=>binOp .sub j (.int k n) (.int k d)) this).trans ?_;show runPure P (if k≠k then _ else _)=_
  rw[if_neg (by simp)]
  rfl
 have h:runPure P (execOp (fun x=>(f.get x).getD undef) o)=some (.value (.int k (k.wrap (n-d)))):=by
  unfold execOp;rw[g];simp only[q,t,zK];exact(ybc P (fun v=>pure (Next.value v)) e).trans rfl
 refine OpS.idle l (u:=.int k (k.wrap (n-d))) ?_ .i;rw[p];exact yhx (us:=[.int k n,.int k d]) (by rw[g];exact ybbs q t) rfl h rfl
theorem ydja(l:Conc lo F ω s f m){j C:TypeId}{x y:Operand}(g:o.op = .binOp .add j x y C){k:IntKind}{n d:Int}(w:s.get x=some (.i k n))(z:s.get y=some (.i k d)):OpS P lo F ω f m o ⟨c,r,.i k (k.wrap (n+d)),s⟩:=by
 obtain⟨a,q,A⟩:=l.get w;obtain⟨b,t,B⟩:=l.get z;have p:evOp P f o m=pureA P f o:=by unfold evOp;rw[g]
 cases A.int_inv
 cases B.int_inv
 have e:runPure P (do eqGuard .add j x y (.int k n) (.int k d);binOp .add j (.int k n) (.int k d):Sem Value)=some (.int k (k.wrap (n+d))):=by
  have:runPure P (eqGuard .add j x y (.int k n) (.int k d))=some ():=rfl;refine(ybc P (fun _=>binOp .add j (.int k n) (.int k d)) this).trans ?_;show runPure P (if k≠k then _ else _)=_
  rw[if_neg (by simp)]
  rfl
 have h:runPure P (execOp (fun x=>(f.get x).getD undef) o)=some (.value (.int k (k.wrap (n+d)))):=by
  unfold execOp;rw[g];simp only[q,t,zK];exact(ybc P (fun v=>pure (Next.value v)) e).trans rfl
 refine OpS.idle l (u:=.int k (k.wrap (n+d))) ?_ .i;rw[p];exact yhx (us:=[.int k n,.int k d]) (by rw[g];exact ybbs q t) rfl h rfl
theorem ydla(hc:Conc lo F ω s f m){op:BinOp}{xt yt:TypeId}{x y:Operand}(hop:o.op = .binOp op xt x y yt){v w:SV}(hx:s.get x=some v)(hy:s.get y=some w){q:Prop×SV}(h:xbin op v w=some q)(hq:q.1):OpS P lo F ω f m o ⟨c,r,q.2,s⟩:=by
 obtain⟨a,e1,r1⟩:=hc.get hx;obtain⟨b,e2,r2⟩:=hc.get hy;have hev:evOp P f o m=pureA P f o:=by unfold evOp;rw[hop]
 have main:∀{u:Value},atomA a=true->atomA b=true->atomA u=true->runPure P (execOp (fun x=>(f.get x).getD undef) o)=some (.value u)->RV F ω q.2 u->OpS P lo F ω f m o ⟨c,r,q.2,s⟩:=by
  intro u h1 h2 h3 h4 h5;refine OpS.idle hc (u:=u) ?_ h5;rw[hev];exact yhx (us:=[a,b]) (by rw[hop];exact ybbs e1 e2) (by simp[h1,h2]) h4 h3
 unfold xbin at h;split at h
 .rename_i k n k' n'
  cases r1.int_inv
  cases r2.int_inv
  have hrun:∀{u:Value},runPure P (do eqGuard op xt x y (.int k n) (.int k' n');binOp op xt (.int k n) (.int k' n'):Sem Value)=some u->runPure P (execOp (fun x=>(f.get x).getD undef) o)=some (.value u):=by
   intro u hu;unfold execOp;rw[hop];simp only[e1,e2,zK];exact(ybc P (fun v=>pure (Next.value v)) hu).trans rfl
  have hguard:∀{S:Sem Value}{u:Value},runPure P S=some u->runPure P (do eqGuard op xt x y (.int k n) (.int k' n');S:Sem Value)=some u:=by
   intro S u hu;have:runPure P (eqGuard op xt x y (.int k n) (.int k' n'))=some ():=by cases op<;>rfl
   exact(ybc P (fun _=>S) this).trans hu
  cases op with
  | add =>
    simp only at h;split at h
    .rename_i hk;subst hk;cases h
     refine main rfl rfl rfl (hrun (hguard (u:=.int k (n+n')) ?_)) .i;show runPure P (if k≠k then _ else _)=_
     rw[if_neg (by simp)]
     show some (Value.int k (k.wrap (n+n')))=_;rw[wrap_in hq]
    .cases h
  | sub =>
    simp only at h;split at h
    .rename_i hk;subst hk;cases h
     refine main rfl rfl rfl (hrun (hguard (u:=.int k (n-n')) ?_)) .i;show runPure P (if k≠k then _ else _)=_
     rw[if_neg (by simp)]
     show some (Value.int k (k.wrap (n-n')))=_;rw[wrap_in hq]
    .cases h
  | mul =>
    simp only at h;split at h
    .rename_i hk;subst hk;cases h
     refine main rfl rfl rfl (hrun (hguard (u:=.int k (n*n')) ?_)) .i;show runPure P (if k≠k then _ else _)=_
     rw[if_neg (by simp)]
     show some (Value.int k (k.wrap (n*n')))=_;rw[wrap_in hq]
    .cases h
  | quo =>
    simp only at h;split at h
    .rename_i hk;subst hk;cases h
     refine main rfl rfl rfl (hrun (hguard (u:=.int k (n.tdiv n')) ?_)) .i;show runPure P (if k≠k then _ else _)=_
     rw[if_neg (by simp)]
     show runPure P (if n'=0 then _ else _)=_
     rw[if_neg hq.1];show some (Value.int k (k.wrap (n.tdiv n')))=_;rw[wrap_in hq.2]
    .cases h
  | rem =>
    simp only at h;split at h
    .rename_i hk;subst hk;cases h
     refine main rfl rfl rfl (hrun (hguard (u:=.int k (n.tmod n')) ?_)) .i;show runPure P (if k≠k then _ else _)=_
     rw[if_neg (by simp)]
     show runPure P (if n'=0 then _ else _)=_
     rw[if_neg hq];rfl
    .cases h
  | shl =>
    cases h
    refine main rfl rfl rfl (hrun (hguard (u:=.int k (k.wrap (n*2^n'.toNat))) ?_)) .i;show runPure P (if n'<0 then _ else _)=_
    obtain⟨h0,h1⟩:0<=n'/\n'<k.bits:=hq;rw[if_neg (by omega)]
    show some (Value.int k (k.wrap (n*2^(min n'.toNat k.bits))))=_;rw[zAW (by omega)]
  | shr =>
    cases h
    refine main rfl rfl rfl (hrun (hguard (u:=.int k (n.fdiv (2^n'.toNat))) ?_)) .i;show runPure P (if n'<0 then _ else _)=_
    obtain⟨h0,h1⟩:0<=n'/\n'<k.bits:=hq;rw[if_neg (by omega)]
    show some (Value.int k (n.fdiv (2^(min n'.toNat k.bits))))=_;rw[zAW (by omega)]
  | and|or|xor|andNot =>
    simp only at h;split at h
    .rename_i hk;subst hk;cases h
     refine main rfl rfl rfl (hrun (hguard ?_)) .i;show runPure P (if k≠k then _ else _)=_
     rw[if_neg (by simp)]
     rfl
    .cases h
  | eql|neq|lss|leq|gtr|geq =>
    simp only at h;split at h
    .rename_i hk;subst hk;cases h
     refine main rfl rfl rfl (hrun (hguard ?_)) .b;show runPure P (if k≠k then _ else _)=_
     rw[if_neg (by simp)]
     rfl
    .cases h
 .cases h
theorem ydhi(g:Conc lo F ω s f m){ne:Bool}{i w:TypeId}{x y:Operand}(d:o.op = .binOp (if ne then .neq else .eql) i x y w)(l:P.underlying i=some .bool){a b:Bool}(n:s.get x=some (.b a))(p:s.get y=some (.b b)):OpS P lo F ω f m o ⟨c,r,.b (if ne then a != b else a==b),s⟩:=by
 obtain⟨u,j,q⟩:=g.get n;obtain⟨z,k,t⟩:=g.get p;cases q.bool_inv
 cases t.bool_inv
 have h:evOp P f o m=pureA P f o:=by unfold evOp;rw[d]
 have e:runPure P (Op.equal i (.bool a) (.bool b))=some (a==b):=by
  unfold Op.equal Op.maxDepth Op.equalIn;exact(ybc P _ (ybn l)).trans rfl
 refine OpS.idle g (u:=.bool (if ne then a != b else a==b)) ?_ .b
 rw[h];refine yhx (us:=[.bool a,.bool b]) (by rw[d];exact ybbs j k) rfl ?_ rfl
 unfold execOp;rw[d];simp only[j,k,zK];cases ne with
 | true =>
   refine(ybc P (fun v=>pure (Next.value v)) (a:=.bool (a != b)) ?_).trans rfl;exact(ybc P (fun v=>pure (Value.bool (!v))) e).trans (by cases a<;>cases b<;>rfl)
 | false =>
   refine(ybc P (fun v=>pure (Next.value v)) (a:=.bool (a==b)) ?_).trans rfl;exact(ybc P (fun v=>pure (Value.bool v)) e).trans rfl
theorem ybl{b e:Type}(P:Program)(k:b->Sem e):∀(S:Sem b),runPure P (S >>= k)=(runPure P S).bind fun a=>runPure P (k a):=by
 intro S
 induction S with
 |pure x=>rfl
 |program j d=>exact d P
 |_=>rfl
def fsK(P:Program):Nat->List Field->Option (List Bool)
 |_,[]=>some []
 | o, f :: a => if f.offset = o /\ (f.name == "_") = false then (match P.underlying f.type with
   |some (.int _)=>(fsK P (o+1) a).map (false :: ·)
   |some .bool=>(fsK P (o+1) a).map (true :: ·)
   |_=>none)else none
theorem yja{e:TypeId}{xs:Array Value}{n:Nat}{v:Value}{d:TypeDesc}(g:P.underlying e=some d)(h:isAggD d=false)(i:xs[n]?=some v):runPure P (Go.part e xs n)=some v:=by
 unfold Go.part isAgg;rw[ybl,ybl,ybn g]
 have b:runPure P (match d with
  |.struct _ | .array _ _=>pure true
  |_=>pure false)=some false:=by cases d<;>first|rfl|cases h
 refine(congrArg (fun z=>Option.bind z fun a=>runPure P (if a=true then(fun a=>Value.agg (xs.extract n (n+a))) <$> sizeOf e else match xs[n]? with
  |some v=>pure v
  | none => stuck "part: no such cell")) b).trans ?_
 show runPure P (if false=true then _ else _)=_
 rw[if_neg (by simp),i]
 rfl
theorem yhk(d:Nat)(t:TypeId)(xs ys:Array Value){g:Array Field}(i:P.underlying t=some (.struct g))(j:P.stoodInHeld t=false) :
 runPure P (Op.equalIn (d+1) t (.agg xs) (.agg ys))=runPure P (Op.eqFields d xs ys g.toList):=by
 unfold Op.equalIn;refine(ybc P _ (ybn i)).trans ?_;show runPure P (program >>= _)=_;refine(ybc P _ (a:=P) rfl).trans ?_;simp only[j,zAQ,if_false];rw[<-zAR]
 generalize g.toList=h
 clear i
 induction h with
 |nil=>rfl
 | cons f h e =>
   simp only[zAK,Op.eqFields];split
   .simp only[ybl,zT];refine congrArg (fun k=>(runPure P (Go.part f.type xs f.offset)).bind k) (funext fun a=>?_);refine congrArg (fun k=>(runPure P (Go.part f.type ys f.offset)).bind k) (funext fun b=>?_);refine congrArg (fun k=>(runPure P (Op.equalIn d f.type a b)).bind k) (funext fun r=>?_);cases r
    .rfl
    .simp only[ybl]at e;exact e
   .simp only[ybl,zT]at e ⊢;exact e
theorem ybzv{g:List Bool}{l l':List SV}{q:Bool}(h:eqL (false::g) l l'=some q):∃k n m a b d,l = .i k n::a/\l' = .i k m::b/\eqL g a b=some d/\q=(decide (n=m)&&d):=by
 match l,l',h with
 | .i k n::a,.i p m::b,h =>
   simp only[eqL]at h;split at h
   .rename_i e;subst e;obtain⟨d,j,rfl⟩:=Option.map_eq_some_iff.1 h;exact⟨k,n,m,a,b,d,rfl,rfl,j,rfl⟩
   .cases h
theorem ybpu{e:List Bool}{l l':List SV}{q:Bool}(h:eqL (true::e) l l'=some q):∃x y a b d,l = .b x::a/\l' = .b y::b/\eqL e a b=some d/\q=((x==y)&&d):=by
 match l,l',h with
 | .b x::a,.b y::b,h =>
   simp only[eqL]at h;obtain⟨d,g,rfl⟩:=Option.map_eq_some_iff.1 h;exact⟨x,y,a,b,d,rfl,rfl,g,rfl⟩
theorem ybze{l l':List SV}{q:Bool}(h:eqL [] l l'=some q):l=[]/\l'=[]/\q=true:=by
 match l,l',h with
 |[],[],h=>cases h;exact⟨rfl,rfl,rfl⟩
theorem ysj{d:Nat}{xs ys:List Value}:∀(y:List Field) (I:List Bool) (k:Nat) (l l':List SV) (q:Bool),fsK P k y=some I->eqL I l l'=some q->RVL F ω l (xs.drop k)->RVL F ω l' (ys.drop k)->runPure P (Op.eqFields (d+1) xs.toArray ys.toArray y)=some q
 | [],I,k,l,l',q,i,A,_,_=>by
   cases i
   obtain⟨rfl,rfl,rfl⟩:=ybze A;rfl
 | f :: y,I,k,l,l',q,i,A,O,Q=>by
   unfold fsK at i;split at i
   .rename_i S
    have p:∀{g:List Bool}{a b:Value}{B C:List SV}{J D:Bool}{K:TypeDesc},P.underlying f.type=some K->isAggD K=false->xs.drop k=a::xs.drop (k+1)->ys.drop k=b::ys.drop (k+1)->RVL F ω B (xs.drop (k+1))->RVL F ω C (ys.drop (k+1)) ->
     runPure P (Op.equalIn (d+1) f.type a b)=some J->fsK P (k+1) y=some g->eqL g B C=some D->runPure P (Op.eqFields (d+1) xs.toArray ys.toArray (f::y))=some (J&&D):=by
     intro g a b B C J D K j R ex T G H W hk E;have Z:=ysj (d:=d) y g (k+1) B C D hk E G H;unfold Op.eqFields;have X : f.name ≠ "_" := by simpa using S.2
     rw[if_pos X,S.1]
     have U:xs.toArray[k]?=some a:=by
      have:=congrArg (fun l=>l[0]?) ex
      simpa using this
     have V:ys.toArray[k]?=some b:=by
      have:=congrArg (fun l=>l[0]?) T
      simpa using this
     rw[ybc P _ (yja j R U),ybc P _ (yja j R V),ybc P _ W];cases J
     .rfl
     .exact Z
    have cons:∀{v:SV}{l:List SV}{x:List Value}{k:Nat},RVL F ω (v::l) (x.drop k)->∃a,x.drop k=a::x.drop (k+1)/\RV F ω v a/\RVL F ω l (x.drop (k+1)):=by
     intro v l x k h
     generalize Y:x.drop k=z at h
     cases h with
     | cons i A =>
       rename_i u L
       have:x.drop (k+1)=L:=by have e:=congrArg (List.drop 1) Y;rw[List.drop_drop]at e;exact e
       rw[this];exact⟨_,rfl,i,A⟩
    split at i
    .rename_i kk j
     obtain⟨g,hk,rfl⟩:=Option.map_eq_some_iff.1 i;obtain⟨ik,n,m,B,C,D,rfl,rfl,E,rfl⟩:=ybzv A
     .obtain⟨a,M,G,t⟩:=cons O;obtain⟨b,N,H,w⟩:=cons Q;cases G.int_inv
      cases H.int_inv
      refine p j rfl M N t w ?_ hk E;unfold Op.equalIn;refine(ybc P _ (ybn j)).trans ?_;show runPure P (if _ then _ else _)=_
      rw[if_pos rfl];show some _=some _;congr 1
    .rename_i j
     obtain⟨g,hk,rfl⟩:=Option.map_eq_some_iff.1 i;obtain⟨n,m,B,C,D,rfl,rfl,E,rfl⟩:=ybpu A;obtain⟨a,M,G,t⟩:=cons O;obtain⟨b,N,H,w⟩:=cons Q;cases G.bool_inv
     cases H.bool_inv
     refine p j rfl M N t w ?_ hk E;unfold Op.equalIn;exact(ybc P _ (ybn j)).trans rfl
    .cases i
   .cases i
theorem ybjz{i:List Bool}:∀{l l':List SV}{q:Bool}{L:List Value},eqL i l l'=some q->(RVL F ω l L\/RVL F ω l' L)->L.all simple=true:=by
 induction i with
 | nil =>
   intro l l' q L h a;obtain⟨rfl,rfl,rfl⟩:=ybze h;rcases a with a|a<;>cases a<;>rfl
 | cons b i j =>
   intro l l' q L h a;cases b
   .obtain⟨ik,n,m,k,p,t,rfl,rfl,g,rfl⟩:=ybzv h;rcases a with a|a<;>cases a with
    | cons e d =>
      cases e.int_inv
      rw[zL,j g (by first|exact .inl d|exact .inr d)]
      rfl
   .obtain⟨x,y,k,p,t,rfl,rfl,g,rfl⟩:=ybpu h;rcases a with a|a<;>cases a with
    | cons e d =>
      cases e.bool_inv
      rw[zL,j g (by first|exact .inl d|exact .inr d)]
      rfl
theorem yzk{e:TypeId}{i:TypeInfo}(h:P.info? e=some i):runPure P (sizeOf e)=some i.size:=by
 have a:runPure P (typeInfo e)=some i:=by
  unfold typeInfo;show runPure P (match P.info? e with|some i=>_|none=>_)=_
  rw[h];rfl
 unfold sizeOf;exact(ybc P _ a).trans rfl
def arrF (e : TypeId) (n : Nat) : List Field := (zBG 0 n).map fun i => { name := "", type := e, offset := i, embedded := false, tag := "", pkgPath := "", byteOffset := 0 }
theorem ypv(d:Nat)(t:TypeId)(xs ys:Array Value){n:Nat}{e:TypeId}{i:TypeInfo}(q:P.underlying t=some (.array n e))(j:P.info? e=some i)(h:i.size=1) :
 runPure P (Op.equalIn (d+1) t (.agg xs) (.agg ys))=runPure P (Op.eqFields d xs ys (arrF e n)):=by
 unfold Op.equalIn;refine(ybc P _ (ybn q)).trans ?_;refine(ybc P _ (yzk j)).trans ?_;have p:([0:n]:Std.Legacy.Range).size=n:=by simp[Std.Legacy.Range.size]
 simp only[Std.Legacy.Range.forIn_eq_forIn_range',p,h,Nat.mul_one];unfold arrF
 generalize zBG 0 n=l
 induction l with
 |nil=>rfl
 | cons k l g =>
   simp only[zAK,zBC,Op.eqFields];rw[if_pos (by decide)]
   simp only[ybl,zT];refine congrArg (fun k=>(runPure P (Go.part e xs _)).bind k) (funext fun a=>?_);refine congrArg (fun k=>(runPure P (Go.part e ys _)).bind k) (funext fun b=>?_);refine congrArg (fun k=>(runPure P (Op.equalIn d e a b)).bind k) (funext fun r=>?_);cases r
   .rfl
   .simp only[ybl]at g;exact g
theorem ycmr (n:Conc lo F ω s f m) {ne:Bool}{j N:TypeId}{x y:Operand}(e:o.op = .binOp (if ne then .neq else .eql) j x y N) {k:List Field}(G:∀xs ys,runPure P (Op.equalIn 10000 j (.agg xs) (.agg ys))=runPure P (Op.eqFields 9999 xs ys k)) {w:List Bool}(hk:fsK P 0 k=some w) (H:P.eqGuardType P.depth j=false)
 {l l':List SV}{q:Bool}(I:s.get x=some (.ag l)) (J:s.get y=some (.ag l')) (t:eqL w l l'=some q):OpS P lo F ω f m o ⟨c,r,.b (if ne then !q else q),s⟩:=by
 obtain⟨u,A,K⟩:=n.get I;obtain⟨O,B,M⟩:=n.get J;obtain⟨L,rfl,C⟩:=K.ag_inv;obtain⟨L',rfl,g⟩:=M.ag_inv;have D:=ybjz t (.inl C);have E:=ybjz t (.inr g);have p:evOp P f o m=pureA P f o:=by unfold evOp;rw[e]
 have h:runPure P (Op.equal j (.agg L.toArray) (.agg L'.toArray))=some q:=by
  unfold Op.equal Op.maxDepth;rw[G];exact ysj (d:=9998) k w 0 l l' q hk t C g
 have i:∀z:BinOp,runPure P (eqGuard z j x y (.agg L.toArray) (.agg L'.toArray))=some ():=by
  intro z;cases z<;>simp[eqGuard,runPure,H,ybl,program]<;>rfl
 refine OpS.idle n (u:=.bool (if ne then !q else q)) ?_ .b
 rw[p];refine yhx (us:=[.agg L.toArray,.agg L'.toArray]) (by rw[e];exact ybbs A B) (by simp only[zL,List.all_nil,atomA,D,E];rfl) ?_ rfl
 unfold execOp;rw[e];simp only[A,B,zK];cases ne with
 | true =>
   refine(ybc P (fun v=>pure (Next.value v)) (a:=.bool (!q)) ?_).trans rfl;refine(ybc P _ (i _)).trans ?_;exact(ybc P (fun v=>pure (Value.bool (!v))) h).trans rfl
 | false =>
   refine(ybc P (fun v=>pure (Next.value v)) (a:=.bool q) ?_).trans rfl;refine(ybc P _ (i _)).trans ?_;exact(ybc P (fun v=>pure (Value.bool v)) h).trans rfl
theorem ydey(hc:Conc lo F ω s f m){t:TypeId}{b:ByteArray}{k:Operand}(hop:o.op = .index t (.const (.string b)) k)(ht:P.underlying t=some .string){kk:IntKind}{n:Int}(hx:s.get k=some (.i kk n))(hn:0<=n/\n<((b.data.toList.map UInt8.toNat).length:Int)) :
 OpS P lo F ω f m o ⟨c,r,.i .u8 (((b.data.toList.map UInt8.toNat).getD n.toNat 0:Nat):Int),s⟩:=by
 obtain⟨u,e1,r1⟩:=hc.get hx;cases r1.int_inv
 have hev:evOp P f o m=pureA P f o:=by unfold evOp;rw[hop]
 have e0:f.get (.const (.string b))=some (.string b):=rfl;have hlt:n.toNat<b.data.toList.length:=by have:=hn.2;rw[zV]at this;omega
 have hb:b[n.toNat]?=some (b.data.toList[n.toNat]'hlt):=by
  have h1:n.toNat<b.size:=by simpa using hlt
  exact getElem?_pos b n.toNat h1
 refine OpS.idle hc (u:=.int .u8 (((b.data.toList.map UInt8.toNat).getD n.toNat 0:Nat):Int)) ?_ .i;rw[hev];refine yhx (us:=[.string b,.int kk n]) (by rw[hop];exact ybbs e0 e1) rfl ?_ rfl
 unfold execOp;rw[hop];simp only[e0,e1,zK];refine(ybc P (fun v=>pure (Next.value v)) (a:=.int .u8 (((b.data.toList.map UInt8.toNat).getD n.toNat 0:Nat):Int)) ?_).trans rfl;unfold Instr.index;refine(ybc P _ (a:=(kk,n)) rfl).trans ?_;refine(ybc P _ (ybn ht)).trans ?_;show runPure P (match (if 0<=n then b[n.toNat]? else none)with|some b=>pure (Value.int .u8 b.toNat)|none=>boundsPanic kk n b.size .index)=_
 rw[if_pos hn.1,hb];show some _=some _;congr 2;have h1:n.toNat<b.data.size:=by simpa using hlt
 rw[List.getD,List.getElem?_map,List.getElem?_eq_getElem hlt];rfl
theorem s_un(p:Conc lo F ω s f m){g:UnOp}{E:TypeId}{x:Operand}(e:o.op = .unOp g E x){v:SV}(D:s.get x=some v){q:Prop×SV}(h:xun g v=some q)(C:q.1):OpS P lo F ω f m o ⟨c,r,q.2,s⟩:=by
 obtain⟨a,l,w⟩:=p.get D;have j:evOp P f o m=pureA P f o:=by unfold evOp;rw[e]
 have d:∀{u:Value},atomA a=true->atomA u=true->runPure P (Op.unary g a)=some u->RV F ω q.2 u->OpS P lo F ω f m o ⟨c,r,q.2,s⟩:=by
  intro u y z A B;refine OpS.idle p (u:=u) ?_ B;rw[j];refine yhx (us:=[a]) (by rw[e];exact ycoa l) (by simp[y]) ?_ z
  unfold execOp;rw[e];simp only[l,zK];exact(ybc P (fun v=>pure (Next.value v)) A).trans rfl
 unfold xun at h;split at h
 .rename_i k n
  cases w.int_inv
  cases g with
  | neg =>
    simp only at h;split at h
    .cases h
     refine d rfl rfl (u:=.int k (0-n)) ?_ .i;show some (Value.int k (k.wrap (0-n)))=_;rw[wrap_in C]
    .cases h
     exact d rfl rfl rfl .i
  |xor=>cases h;exact d rfl rfl rfl .i
  |not=>cases h
  |plus=>cases h
 .rename_i t
  cases w.bool_inv
  cases g with
  |not=>cases h;exact d rfl rfl rfl .b
  |_=>cases h
 .cases h
end
end Sh
end
section
namespace Sh
open Go Ev
section
variable {P:Program}{lo:Nat}{F:AM}{ω:Om}{s:SS}{f:Fr}{m:Mem}{o:Oper}{c:Prop}{r:SRec}
theorem ydft(j:Conc lo F ω s f m){src e:TypeId}{x:Operand}{d:TypeDesc}{k t:IntKind}{n:Int}(b:o.op = .convert src e x)(p:P.underlying src=some d)(l:P.underlying e=some (.int k))(q:s.get x=some (.i t n)):OpS P lo F ω f m o ⟨c,r,.i k (k.wrap n),s⟩:=by
 obtain⟨a,h,w⟩:=j.get q;cases w.int_inv
 have g:evOp P f o m=pureA P f o:=by unfold evOp;rw[b]
 refine OpS.idle j (u:=.int k (k.wrap n)) ?_ .i;rw[g];refine yhx (us:=[_]) (by rw[b];exact ycoa h) rfl ?_ rfl
 unfold execOp;rw[b];simp only[h,zK];refine(ybc P (fun v=>pure (Next.value v)) (a:=.int k (k.wrap n)) ?_).trans rfl;unfold convert;rw[ybc P _ (ybn p),ybc P _ (ybn l)];rfl
theorem s_mm(j:Conc lo F ω s f m){mx:Bool}{x y:Operand}{h:Array TypeId}{k:IntKind}{n d:Int}(g:o.op = .call { callee:=.builtin (if mx then .max else .min),args:=#[x,y],argTypes:=h })(t:s.get x=some (.i k n))(v:s.get y=some (.i k d)) :
 OpS P lo F ω f m o ⟨c,r,.i k (if mx then max n d else min n d),s⟩:=by
 obtain⟨a,p,w⟩:=j.get t;obtain⟨b,q,z⟩:=j.get v;cases w.int_inv
 cases z.int_inv
 have l:evOp P f o m=pureA P f o:=by unfold evOp;rw[g];cases mx<;>rfl
 refine OpS.idle j (u:=.int k (if mx then max n d else min n d)) ?_ .i
 rw[l];refine yhx (us:=[_,_]) (by rw[g];exact ybbs p q) rfl ?_ rfl
 rw[yiy g];have e:(#[x,y]:Array Operand).map (fun x=>(f.get x).getD undef) = #[.int k n,.int k d]:=by simp[p,q]
 rw[e];cases mx
 .show some (Next.value (.int k (if d<n then d else n)))=some (Next.value (.int k (min n d)))
  congr 3;rw[Int.min_def];split<;>split<;>omega
 .show some (Next.value (.int k (if d>n then d else n)))=some (Next.value (.int k (max n d)))
  congr 3;rw[Int.max_def];split<;>split<;>omega
theorem ydae (j:Conc lo F ω s f m) {t elem:TypeId}{x:Operand}{n:Nat}{v:SV}(d:o.op = .call { callee:=.builtin .len,args:=#[x],argTypes:=#[t] }) (y:P.underlying t=some (.slice elem)) (C:s.pget x=some v)
 (B:(∃z g,v = .sl z n g)\/(∃l p q,v = .os l p n q)\/(n=0/\v = .a (.slice none 0 0))):OpS P lo F ω f m o ⟨c,r,.i .i64 n,s⟩:=by
 obtain⟨a,w,h⟩:=j.pget C
 have:∃A b,a = .slice A n b:=by
  rcases B with⟨z,g,rfl⟩|⟨l,p,b,rfl⟩|⟨rfl,rfl⟩
  .rcases h.sl_inv with⟨rfl,rfl|⟨_,_,_,rfl⟩⟩|⟨E,p,b,T,N,e,H,L,rfl,_⟩
   .exact⟨_,_,rfl⟩
   .exact⟨_,_,rfl⟩
   .exact⟨_,_,rfl⟩
  .rcases h.os_inv with⟨k,z,G,_,rfl,_⟩|⟨_,rfl,rfl,rfl⟩
   .exact⟨_,_,rfl⟩
   .exact⟨_,_,rfl⟩
  .cases h;exact⟨_,_,rfl⟩
 obtain⟨A,b,rfl⟩:=this;refine OpS.idle j (u:=.int .i64 (.ofNat n)) ?_ .i;unfold evOp;rw[d];show(ob (valsA f [x]) fun D=>evLen P f o D [t])=_;rw[ycoa w];show(ob (P.underlying t) _)=_;rw[y];exact(ybo n fun n=>val (.int .i64 (.ofNat n))).trans rfl
theorem ysc(e:Conc lo F ω s f m){d:Nat}{x:Option Operand}{n:Int}(h:natX s d x=some n):∃us,valsA f x.toList=some us/\((us=[]/\n=d/\x=none)\/∃k,us=[.int k n]):=by
 unfold natX at h;split at h
 .cases h;exact⟨[],rfl,.inl ⟨rfl,rfl,rfl⟩⟩
 .rename_i y
  split at h
  .rename_i k j g
   cases h
   obtain⟨a,b,i⟩:=e.get g;cases i.int_inv
   exact⟨[_],ycoa b,.inr ⟨k,rfl⟩⟩
  .cases h
theorem ymw{us:List Value}{n:Int}{d:Nat}(h:(us=[]/\n=d)\/∃k,us=[.int k n]){b:Nat}(e:0<=n)(g:n<=b):natIn us.head? d b=some n.toNat:=by
 rcases h with⟨rfl,rfl⟩|⟨k,rfl⟩
 .show some d=_;simp
 .obtain⟨a,rfl⟩:=zN e;show(bif zAL a b then some a else none)=_;rw[zA (by omega)]
  simp
theorem ydjr (G:Conc lo F ω s f m) {t elem:TypeId}{x:Operand}{C d:Option Operand}{i:TypeInfo}(a4:o.op = .slice t x C d none) (hd:P.underlying t=some (.slice elem)) (hi:P.info? elem=some i)
 {v:SV}{q:XR}(hx:s.pget x=some v) {l h:Int}
 (hv:(∃n g,v = .sl i.size n g/\natX s n d=some h/\natX s 0 C=some l/\(0<=l/\l<=h/\h<=n/\0<n)/\q=⟨c,⟨[],[],[],true,false,false,false⟩,.sl i.size (h.toNat-l.toNat) (fun k=>g (l.toNat+k)),s⟩) \/
   (∃O p n ap b,v = .os O p n ap/\lookO s.o O=some b/\b.z=i.size/\b.bx=false/\natX s n d=some h/\natX s 0 C=some l/\(0<=l/\l<=h/\h<=n)/\q=⟨c,⟨[O],[],[],false,false,false,false⟩,.os O (p+l.toNat) (h.toNat-l.toNat) (ap&&d.isNone),s⟩)):OpS P lo F ω f m o q:=by
 obtain⟨a,e1,r1⟩:=G.pget hx
 have J:∀{w A:List Value},valsA f C.toList=some w->valsA f d.toList=some A->evOp P f o m=sliceA P m w.head? A.head? (.slice elem) a:=by
  intro w A Z h2;unfold evOp;rw[a4];show(ob (f.get x) fun x=>ob (valsA f C.toList) fun lo=>ob (valsA f d.toList) (evSlice P t m x lo))=_;rw[e1];show(ob (valsA f C.toList) fun lo=>ob (valsA f d.toList) (evSlice P t m a lo))=_;rw[Z];show(ob (valsA f d.toList) (evSlice P t m a w))=_;rw[h2];show ob (P.underlying t) _=_;rw[hd];rfl
 have E:∀{w A:List Value}{B p n D z:Nat},a = .slice (some ⟨B,p,none⟩) n D->natIn A.head? n n=some h.toNat->natIn w.head? 0 h.toNat=some l.toNat->ob (m.b.get B) szOf=some z->(z=i.size\/z=0) ->
  sliceA P m w.head? A.head? (.slice elem) a=some ⟨.slice (some ⟨B,p+l.toNat*i.size,none⟩) (h.toNat-l.toNat) (capA D l.toNat),.none,[B]⟩:=by
  rintro w A B p n D z rfl Z h2 h3 h4;show(ob (P.info? elem) fun i=>ob (ob (m.b.get B) szOf) fun z=>sliceA1 ⟨B,p,none⟩ z i.size n w.head? A.head? (capA D))=_;rw[hi];show(ob (ob (m.b.get B) szOf) fun z=>sliceA1 ⟨B,p,none⟩ z i.size n w.head? A.head? (capA D))=_;rw[h3];show sliceA1 ⟨B,p,none⟩ z i.size n w.head? A.head? (capA D)=_;unfold sliceA1;rw[ybh,if_pos (by rcases h4 with rfl|rfl<;>simp[zJ]),Z]
  show(ob (natIn w.head? 0 h.toNat) fun l=>sliceA2 ⟨B,p,none⟩ l h.toNat i.size (capA D l))=_;rw[h2];show sliceA2 ⟨B,p,none⟩ l.toNat h.toNat i.size (capA D l.toNat)=_;unfold sliceA2;rw[ybo,ybo];rfl
 rcases hv with⟨n,g,rfl,hh,hl,⟨X,b2,Y,b4⟩,rfl⟩|⟨O,p,n,ap,b,rfl,hb,hz,Q,hh,hl,⟨X,b2,Y⟩,rfl⟩
 .obtain⟨w,v1,w1⟩:=ysc G hl;obtain⟨A,M,W⟩:=ysc G hh;have U:natIn A.head? n n=some h.toNat:=ymw (W.imp (fun q=>⟨q.1,q.2.1⟩) id) (by omega) Y
  have V:natIn w.head? 0 h.toNat=some l.toNat:=ymw (w1.imp (fun q=>⟨q.1,q.2.1⟩) id) X (by omega)
  rcases r1.sl_inv with⟨rfl,_⟩|⟨B,p,D,T,N,e,zz,L,rfl,K,g2,g3,g4,g5,g6,g7⟩
  .exact absurd b4 (zAE _)
  .refine OpS.pure G ((J v1 M).trans (E rfl U V (z:=zz) (by rw[G.sub _ _ K];rfl) g2)) ?_ (fun y S=>by simp at S;subst S;exact .inr ⟨rfl,_,K⟩)
   have hk:∀k,k<h.toNat-l.toNat->l.toNat+k<n:=fun k hk=>by omega
   have H:∀k,p+l.toNat*i.size+k*i.size=p+(l.toNat+k)*i.size:=fun k=>by rw[zI];omega
   have hN:p+l.toNat*i.size+(h.toNat-l.toNat)*i.size<=N:=by
    rw[H];have:=zM i.size (show l.toNat+(h.toNat-l.toNat)<=n by omega)
    omega
   exact .sl (L:=fun k=>L (l.toNat+k)) K g2 hN (fun k q=>g4 _ (hk k q)) (fun k q j hj=>by rw[H];exact g5 _ (hk k q) j hj) (fun k q=>g6 _ (hk k q)) (fun k q=>g7 _ (hk k q))
 .obtain⟨w,v1,w1⟩:=ysc G hl;obtain⟨A,M,W⟩:=ysc G hh;have U:natIn A.head? n n=some h.toNat:=ymw (W.imp (fun q=>⟨q.1,q.2.1⟩) id) (by omega) Y
  have V:natIn w.head? 0 h.toNat=some l.toNat:=ymw (w1.imp (fun q=>⟨q.1,q.2.1⟩) id) X (by omega)
  rcases r1.os_inv with⟨k,z,D,hk,rfl,a0⟩|⟨hk,rfl,rfl,rfl⟩
  .obtain⟨rfl,T,L,K,_⟩:=G.ownAt hb hk (.inr Q);rw[Q]at K;refine OpS.pure G ((J v1 M).trans (E rfl U V (z:=b.z) (by rw[K];rfl) (.inl hz))) ?_ (fun y S=>by simp at S;subst S;exact .inl ⟨O,_,by simp,hk⟩)
   rw[<-hz,<-zI];refine .os hk fun I=>?_;rw[zB]at I
   have a2:h=n:=by
    rcases W with⟨_,q,_⟩|⟨_,q⟩
    .exact q
    .have:d=none:=by simpa using I.2
     rw[this]at M;cases M
     cases q
   rcases a0 I.1 with rfl|⟨rfl,a5⟩
   .left;show capA CU _=CU;unfold capA;rw[zJ];rfl
   .right
    refine⟨?_,by omega⟩
    show capA D _=_;unfold capA;rw[ybh,if_neg (fun q=>by have:=zH q;omega)]
    show D-l.toNat=_;rw[a2];simp
  .have a3:l=0:=by omega
   have a1:h=0:=by omega
   subst a3 a1;refine OpS.idle G (u:=.slice none 0 0) ?_ (.os0 hk);rw[J v1 M];show(ob (P.info? elem) fun _=>ob (natIn A.head? 0 0) fun _=>ob (natIn w.head? 0 0) fun _=>(some ⟨.slice none 0 0,.none,[]⟩:Option R))=_;rw[hi,U];show(ob (natIn w.head? 0 0) fun _=>(some ⟨.slice none 0 0,.none,[]⟩:Option R))=_;rw[show natIn w.head? 0 0=some (Int.toNat 0)from V]
   rfl
end
end Sh
end
section
namespace Sh
open Go Ev
section
variable {P:Program}{lo:Nat}{F:AM}{ω:Om}{s:SS}{f:Fr}{m:Mem}{o:Oper}{c:Prop}{r:SRec}
theorem ydcg (g:Conc lo F ω s f m) {t elem:TypeId}{x:Operand}{e d:Option Operand}{i:TypeInfo}{n:Nat}(A:o.op = .slice t x e d none) (K:P.underlying t=some (.array n elem)) (N:P.info? elem=some i)
 {p:Nm}{b:OB}(S:s.get x=some (.pt p 0 0)) {l h:Int}(J:lookO s.o p=some b) (U:b.z=i.size) (v:b.bx=true) (w:b.n≠0) (M:natX s n d=some h) (O:natX s 0 e=some l) (Q:0<=l/\l<=h/\h<=n/\n<=1000000) :
 OpS P lo F ω f m o ⟨c,⟨[p],[],[],false,false,false,false⟩,.os p l.toNat (h.toNat-l.toNat) false,s⟩:=by
 obtain⟨a,I,X⟩:=g.get S;obtain⟨E,b2,G,H⟩:=Q;obtain⟨j,v1,Z⟩:=ysc g O;obtain⟨B,Y,w2⟩:=ysc g M;have V:natIn B.head? n n=some h.toNat:=ymw (w2.imp (fun q=>⟨q.1,q.2.1⟩) id) (by omega) G
 have W:natIn j.head? 0 h.toNat=some l.toNat:=ymw (Z.imp (fun q=>⟨q.1,q.2.1⟩) id) E (by omega)
 obtain⟨k,z,hk,rfl⟩:=X.pt_inv;obtain⟨rfl,T,L,C,_⟩:=g.ownAt J hk (.inl w);rw[v]at C;refine OpS.pure g (u:=.slice (some ⟨k,l.toNat*b.z,none⟩) (h.toNat-l.toNat) (n-l.toNat)) (ft:=[k]) ?_ (RV.os (c:=n-l.toNat) hk (fun q=>by cases q)) (fun y D=>by simp at D;subst D;exact .inl ⟨p,_,by simp,hk⟩)
 unfold evOp;rw[A];show(ob (f.get x) fun x=>ob (valsA f e.toList) fun lo=>ob (valsA f d.toList) (evSlice P t m x lo))=_;rw[I];show(ob (valsA f e.toList) fun lo=>ob (valsA f d.toList) (evSlice P t m _ lo))=_;rw[v1];show(ob (valsA f d.toList) (evSlice P t m _ j))=_;rw[Y];show ob (P.underlying t) _=_;rw[K];show(ob (P.info? elem) fun i=>ob (ob (m.b.get k) szOf) fun z=>iteB (zD z 0&&zAL n 1000000) (sliceA1 ⟨k,0*b.z+0,none⟩ z i.size n j.head? B.head? (zBB n)) none)=_
 rw[N,C];show iteB (zD 0 0&&zAL n 1000000) (sliceA1 ⟨k,0*b.z+0,none⟩ 0 i.size n j.head? B.head? (zBB n)) none=_;rw[ybh,if_pos (by rw[zA H];rfl)]
 unfold sliceA1;rw[ybh,if_pos (by simp),V]
 show(ob (natIn j.head? 0 h.toNat) fun l=>sliceA2 ⟨k,0*b.z+0,none⟩ l h.toNat i.size (zBB n l))=_;rw[W];show sliceA2 ⟨k,0*b.z+0,none⟩ l.toNat h.toNat i.size (zBB n l.toNat)=_;unfold sliceA2;rw[ybo,ybo,U];show some (⟨.slice (some ⟨k,0*i.size+0+l.toNat*i.size,none⟩) _ _,_,_⟩:R)=_;rw[show 0*i.size+0+l.toNat*i.size=l.toNat*i.size by omega]
 rfl
theorem one_cell:∀(v:SV) {ω:Om}{u:Value},RV F ω v u->one1 v=true->u.cells.toList=[u]/\∀L,allGood L=true->allGood (u::L)=true
 |.ex Q w,_,_,.ex _ _ h,e=>one_cell w h e
 |.mr _,_,_,.mr _,_=>⟨rfl,fun _ h=>h⟩
 |.i ..,_,_,.i,_=>⟨rfl,fun _ h=>h⟩
 |.b ..,_,_,.b,_=>⟨rfl,fun _ h=>h⟩
 | .a v,_,_,.a g,_=>by
   cases v<;>first|exact⟨rfl,fun _ h=>h⟩|(exact absurd g (by simp[Ev.simple]))
 | .sl ..,_,_,.sl0 d,_=>by
   rcases d with rfl|⟨_,_,_,rfl⟩<;>exact⟨rfl,fun _ h=>h⟩
 |.sl ..,_,_,.sl ..,_=>⟨rfl,fun _ h=>h⟩
 |.rf ..,_,_,.rf ..,_=>⟨rfl,fun _ h=>h⟩
 |.fn ..,_,_,.fn ..,_=>⟨rfl,fun _ h=>h⟩
 |.pt ..,_,_,.pt ..,_=>⟨rfl,fun _ h=>h⟩
 |.os ..,_,_,.os ..,_=>⟨rfl,fun _ h=>h⟩
 |.os ..,_,_,.os0 ..,_=>⟨rfl,fun _ h=>h⟩
theorem yql{v:SV}{u:Value}(h:RV F ω v u)(j:v.cells.all one1=true):RVL F ω v.cells u.cells.toList/\allGood u.cells.toList=true:=by
 have i:∀{l:List SV}{L:List Value},RVL F ω l L->l.all one1=true->allGood L=true:=by
  intro l L k
  induction L generalizing l with
  |nil=>intro _;rfl
  | cons u L p =>
    cases k with
    | cons a b =>
      intro n;simp only[zL,zB]at n;exact(one_cell _ a n.1).2 _ (p b n.2)
 have g:RVL F ω v.cells u.cells.toList:=by
  have d:v.cells=[v]->RVL F ω v.cells u.cells.toList:=fun e=>by
   rw[e]at j ⊢;simp only[zL,zB]at j;rw[(one_cell v h j.1).1];exact .cons h .nil
  cases v with
  |ag c=>obtain⟨L,rfl,k⟩:=h.ag_inv;simpa[SV.cells,Value.cells]using k
  |_=>exact d rfl
 exact⟨g,i g j⟩
theorem yuq(B:Conc lo F ω s f m){place:Nat->Option (Nat×Nat)}:∀{n:List (Nat×Operand)}{t:List (Nat×Nat×Operand)}{l l':List SV}{L:List Value},
 n.mapM (fun p=>(place p.1).map fun q=>(q.1,q.2,p.2))=some t->RVL F ω l L->l.all one1=true->fill s l t=some l' ->
 ∃w g,partsA f n=some w/\fillA place L w=some g/\RVL F ω l' g/\l'.all one1=true
 | [],t,l,l',L,h,b,i,a=>by
   cases h
   cases a
   exact⟨[],L,rfl,rfl,b,i⟩
 | (j,x) :: n,t,l,l',L,h,b,i,a=>by
   rw[List.mapM_cons]at h;cases k:place j with
   |none=>simp[k]at h
   | some q =>
     cases y:n.mapM (fun p=>(place p.1).map fun q=>(q.1,q.2,p.2))with
     |none=>simp[k,y]at h
     | some H =>
       simp[k,y]at h;subst h;unfold fill at a;split at a
       .cases a
       .rename_i v E
        split at a
        .rename_i e
         obtain⟨u,D,I⟩:=B.get E;obtain⟨C,G⟩:=yql I e.2.2;have d:u.cells.toList.length=q.2:=by rw[<-C.length];exact e.1
         have A:RVL F ω (splice l q.1 v.cells) (L.take q.1++u.cells.toList++L.drop (q.1+q.2)):=by
          unfold splice;rw[e.1];exact((b.take _).append C).append (b.drop _)
         have z:(splice l q.1 v.cells).all one1=true:=by
          unfold splice;rw[zW,zW,yra i,ykp i,e.2.2];rfl
         obtain⟨w,g,t1,t2,t3,t4⟩:=yuq B y A z a;refine⟨(j,u)::w,g,?_,?_,t3,t4⟩
         .unfold partsA;rw[D];simp only[t1]
         .unfold fillA;rw[k];simp only;rw[d,zJ,G,zA (by rw[<-b.length];exact e.2.1)]
          exact t2
        .cases a
end
end Sh
end
section
namespace Sh
open Go Ev
section
variable {P:Program}{lo:Nat}{F:AM}{ω:Om}{s:SS}{f:Fr}{m:Mem}{o:Oper}{c:Prop}{r:SRec}
theorem yyn(m:Mem)(x:ABlk):m.app (.new x)=⟨m.next+1,T.set (zC m.next) m.b m.next (some x),m.low⟩:=by
 obtain⟨n,b,l⟩:=m;exact yrz n b l (.new x)
theorem ybdw(m:Mem)(i:Nat)(x:ABlk):m.app (.upd i x)=⟨m.next,T.set (zC i) m.b i (some x),zAG m.low i⟩:=by
 obtain⟨n,b,l⟩:=m;exact yrz n b l (.upd i x)
theorem yctd(m:Mem)(i:Nat)(x:ABlk):m.app (.move i x)=⟨m.next+1,T.set (zC m.next) (T.set (zC i) m.b i none) m.next (some x),zAG m.low i⟩:=by
 obtain⟨n,b,l⟩:=m;exact yrz n b l (.move i x)
def yga(ω:Om)(b:Nm)(k z:Nat):Om:=fun a=>if a=b then some (some (k,z))else ω a
theorem yit{b:Nm}{k z:Nat}(h:ω b=none):ω.le (yga ω b k z):=fun d x a=>by
 unfold yga;split
 .rename_i q;subst q;rw[h]at a;cases a
 .exact a
theorem ycn{a:Nm}{k z:Nat}:yga ω a k z a=some (some (k,z)):=by simp[yga]
theorem ybpc{b a:Nm}{k z:Nat}(h:a≠b):yga ω b k z a=ω a:=by simp[yga,h]
theorem ycqe.mono{ψ:Om}{n:Mem}{l:Nm}{b:OB}(h:ycqe F ω m l b)(a:ω.le ψ)(hk:∀k z,ω l=some (some (k,z))->n.b.get k=m.b.get k):ycqe F ψ n l b:=by
 rcases h with⟨k,T,L,d,t,e,g⟩|⟨d,e⟩|⟨k,q,p,d,e,g,u⟩
 .exact .inl ⟨k,T,L,a _ _ d,t,(hk _ _ d).trans e,fun i j=>⟨(g i j).1,(g i j).2.1.mono (Le.refl _) a,(g i j).2.2⟩⟩
 .exact .inr (.inl ⟨a _ _ d,e⟩)
 .exact .inr (.inr ⟨k,q,p,a _ _ d,e,(hk _ _ d).trans g,u⟩)
theorem yfx{e a:Nat}(h:ynq s e a=true):look s.o a=none:=by
 have:=(zB _ _▸h:_/\_).1;simpa using this
theorem yru{e a:Nat}(h:ynq s e a=true):e≠CU:=by
 have:=of_decide_eq_true (zB _ _▸h:_/\_).2;intro q;rw[q]at this;exact absurd this (by decide)
theorem yqj{a:Nm}{b:Option OB}(h:a.2=0\/∃c,lookO s.o a=some c)(j:Nm):lookO (s.own a b).o j=if a=j then b else lookO s.o j:=by
 obtain⟨d,i⟩:=a;obtain⟨c1,c2⟩:=j;show(match (if d=c1 then some (yst (look s.o d) i b)else look s.o c1)with|some F=>F.at c2|none=>none)=_
 by_cases e:d=c1
 .subst e;rw[if_pos rfl];unfold lookO at h ⊢;simp only at h ⊢;cases l:look s.o d with
  | none =>
    rw[l]at h;have k:i=0:=h.elim id fun⟨c,q⟩=>by cases q
    subst k;simp only[yst,Fam.at]
    by_cases q:c2=0
    .subst q;simp
    .rw[if_neg q,if_neg (by simpa using Ne.symm q)]
  | some G =>
    rw[l]at h;cases G with
    | many g =>
      simp only[yst,Fam.at]
      by_cases q:c2=i
      .subst q;simp
      .rw[if_neg q,if_neg (by simpa using Ne.symm q)]
    | one x =>
      have k:i=0:=h.elim id fun⟨c,q⟩=>by
       simp only[Fam.at]at q;split at q
       .assumption
       .cases q
      subst k;simp only[yst,Fam.at]
      by_cases q:c2=0
      .subst q;simp
      .rw[if_neg q,if_neg (by simpa using Ne.symm q),if_neg q]
 .rw[if_neg e,if_neg (by simp[e])]
  rfl
theorem ymy{a:Nm}{b:Option OB}{c:Nat}(h:look (s.own a b).o c=none):a.1≠c/\look s.o c=none:=by
 have h:(if a.1=c then some (yst (look s.o a.1) a.2 b)else look s.o c)=none:=h
 split at h
 .cases h
 .rename_i q;exact⟨q,h⟩
theorem Conc.new (l:Conc lo F ω s f m) {d:Nat}{b:OB}(W:look s.o d=none) (V:b.e≠CU) {Tb:Ev.T Value}{L:Nat->List Value}
 (H:∀i,i<b.n->(L i).length=b.z/\RVL F ω (b.g i) (L i)/\(b.g i).all one1=true/\∀j,j<b.z->Tb.get (i*b.z+j)=(L i)[j]?) :
 Conc lo F (yga ω (d,0) m.next b.z) (s.own (d,0) (some b)) f (m.app (.new (.cells Tb (b.n*b.z) b.e (if b.bx then 0 else b.z)))):=by
 have M:=l.dom (d,0) W;have D:=yit (k:=m.next) (z:=b.z) M
 rw[yyn];have p:∀i,(T.set (zC m.next) m.b m.next (some (.cells Tb (b.n*b.z) b.e (if b.bx then 0 else b.z)))).get i=if i=m.next then some (.cells Tb (b.n*b.z) b.e (if b.bx then 0 else b.z))else m.b.get i:=fun i=>T.set_at _ _ _ _
 have y:∀{i x},m.b.get i=some x->i<m.next:=fun {i x} h=>l.wf i x h
 refine⟨fun i x E=>?_,l.low,by show lo<=m.next+1;have:=l.nxt;omega,fun i x E=>?_,fun A N O=>?_,fun A K=>?_,?_,?_,fun t v X=>?_⟩
 .have E:(T.set (zC m.next) m.b m.next (some (.cells Tb (b.n*b.z) b.e (if b.bx then 0 else b.z)))).get i=some x:=E
  rw[p]at E;show i<m.next+1
  split at E
  .omega
  .have:=y E;omega
 .show(T.set (zC m.next) m.b m.next (some (.cells Tb (b.n*b.z) b.e (if b.bx then 0 else b.z)))).get i=some x
  have:=l.sub i x E;rw[p,if_neg (by have:=y this;omega)]
  exact this
 .have C:(if (d,0)=A then some b else lookO s.o A)=some N:=by rw[<-yqj (.inl rfl)];exact O
  clear O
  split at C
  .rename_i q;subst q;have I:=Option.some.inj C;subst I;exact .inl ⟨m.next,Tb,L,ycn,V,by show(T.set (zC m.next) m.b m.next _).get m.next=_;rw[p,if_pos rfl],fun i J=>⟨(H i J).1,(H i J).2.1.mono (Le.refl _) D,(H i J).2.2⟩⟩
  .exact(l.own A N C).mono D fun k z hk=>by show(T.set (zC m.next) m.b m.next _).get k=_;rw[p,if_neg (by have:=(l.apart A k z hk).2.2;omega)]
 .obtain⟨Y,Z⟩:=ymy K;rw[ybpc (fun e=>Y (by rw[e]))];exact l.dom A Z
 .intro A S k z Q R w B G;unfold yga at w B;split at w<;>split at B
  .rename_i a b;exact absurd (a.trans b.symm) G
  .cases w;have:=(l.apart S Q R B).2.2;omega
  .cases B;have:=(l.apart A k z w).2.2;omega
  .exact l.inj A S k z Q R w B G
 .intro A k z w;unfold yga at w;split at w
  .cases w
   refine⟨?_,l.nxt,zAU _⟩;cases U:F m.next with
   |none=>rfl
   |some x=>have:=y (l.sub _ _ U);omega
  .obtain⟨a,b,d⟩:=l.apart A k z w;exact⟨a,b,zAS d⟩
 .obtain⟨u,w,B⟩:=l.fr t v X;exact⟨u,w,B.mono (Le.refl _) D⟩
theorem OpS.new (t:Conc lo F ω s f m) {d:Nat}{b:OB}(h:ynq s b.e d=true) {Tb:Ev.T Value}{L:Nat->List Value}{u:Value}{v:SV}
 (a:evOp P f o m=some ⟨u,.new (.cells Tb (b.n*b.z) b.e (if b.bx then 0 else b.z)),[]⟩)
 (w:∀i,i<b.n->(L i).length=b.z/\RVL F ω (b.g i) (L i)/\(b.g i).all one1=true/\∀j,j<b.z->Tb.get (i*b.z+j)=(L i)[j]?)
 (y:RV F (yga ω (d,0) m.next b.z) v u):OpS P lo F ω f m o ⟨c,⟨[],[],[(d,0)],false,false,false,false⟩,v,s.own (d,0) (some b)⟩:=by
 have p:=t.dom (d,0) (yfx h);refine⟨_,yga ω (d,0) m.next b.z,a,yit p,t.new (yfx h) (yru h) w,y,fun A k z hk=>?_,fun x l=>(by cases l),fun x l=>(by cases l),fun q=>(by cases q),fun _=>⟨(d,0),b.z,by simp,ycn⟩⟩
 unfold yga at hk;split at hk
 .cases hk;exact .inr (zZ _)
 .exact .inl hk
theorem ydmr(k:Conc lo F ω s f m){t:TypeId}{x:Operand}{d:Nat}{v:SV}(g:o.op = .box t x)(w:s.get x=some v)(p:ynq s t d=true)(h:v.cells.all one1=true) :
 OpS P lo F ω f m o ⟨c,⟨[],[],[(d,0)],false,false,false,false⟩,.pt (d,0) 0 0,s.own (d,0) (some ⟨t,true,v.cells.length,1,fun _=>v.cells⟩)⟩:=by
 obtain⟨u,e,q⟩:=k.get w;obtain⟨l,y⟩:=yql q h;have a:=l.length;refine OpS.new k (b:=⟨t,true,v.cells.length,1,fun _=>v.cells⟩) p (Tb:=tOf u.cells.toList) (L:=fun _=>u.cells.toList) (u:=.pointer (some ⟨m.next,0,none⟩)) ?_ (fun i n=>⟨a.symm,l,h,fun j _=>?_⟩) ?_
 .unfold evOp;rw[g];show ob (f.get x) (evBox t m)=_;rw[e];show iteB (allGood u.cells.toList) _ none=_;rw[ybh,if_pos y];show some (⟨_,.new (.cells (tOf u.cells.toList) u.cells.toList.length t 0),[]⟩:R)=some ⟨_,.new (.cells _ (1*v.cells.length) t 0),[]⟩;rw[Nat.one_mul,a]
 .have:i=0:=Nat.lt_one_iff.1 n;subst this;rw[zBD,zX];exact ycx _ _
 .have:=RV.pt (F:=F) (ω:=yga ω (d,0) m.next v.cells.length) (i:=0) (j:=0) ycn
  simpa using this
theorem ybcp(z:List Value):∀(n i j:Nat),i<n->j<z.length->(repl n z)[i*z.length+j]?=z[j]?
 |0,i,j,h,_=>absurd h (zAX _)
 |n+1,0,j,_,a=>by rw[yjn,zBD,zX,zQ a]
 | n+1,i+1,j,h,a=>by
   rw[yjn,zO (by rw[zAH];omega),show(i+1)*z.length+j-z.length=i*z.length+j by rw[zAH];omega]
   exact ybcp z n i j (by omega) a
theorem yqg{l:List Value}(h:l.all simple=true):(l.map ofV).all one1=true:=by
 rw[zBE];refine List.all_eq_true.2 fun x a=>?_;have:=List.all_eq_true.1 h x a;cases x<;>first|rfl|(exact absurd this (by simp[Ev.simple]))
theorem yfz{i:TypeInfo}{z:List Value}(h:zeroA i=some z):z.all simple=true/\z.length=i.size:=by
 unfold zeroA at h;obtain⟨v,j,e⟩:=yg h;obtain⟨b,g⟩:=ybi e;cases g
 rw[zB]at b;refine⟨?_,zH b.2⟩;have a:=b.1;unfold atomA at a;split at a
 .exact a
 .rename_i d
  cases v<;>first|exact absurd rfl (d _)|simpa[Value.cells]using a
theorem yceb(h:Conc lo F ω s f m){t:TypeId}{a n:Nat}{i:TypeInfo}{z zj:List Value}(d:o.op = .alloc t)(l:P.info? t=some i)(v:zeroA i=some z)(e:z=repl n zj)(g:zj.all simple=true)(q:ynq s t a=true) :
 OpS P lo F ω f m o ⟨c,⟨[],[],[(a,0)],false,false,false,false⟩,.pt (a,0) 0 0,s.own (a,0) (some ⟨t,true,(zj.map ofV).length,n,fun _=>zj.map ofV⟩)⟩:=by
 refine OpS.new h (b:=⟨t,true,(zj.map ofV).length,n,fun _=>zj.map ofV⟩) q (Tb:=tOf z) (L:=fun _=>zj) (u:=.pointer (some ⟨m.next,0,none⟩)) ?_ (fun k hk=>⟨by simp,ypd g,yqg g,fun j p=>?_⟩) ?_
 .unfold evOp;rw[d];show ob (P.info? t) (evAlloc t m)=_;rw[l];show ob (zeroA i) _=_;rw[v];show some (⟨_,.new (.cells (tOf z) z.length t 0),[]⟩:R)=some ⟨_,.new (.cells _ (n*(zj.map ofV).length) t 0),[]⟩;rw[e,yeu,zV]
 .rw[ycx,e];show(repl n zj)[k*(zj.map ofV).length+j]?=_;rw[zV];exact ybcp zj n k j hk (by simpa using p)
 .have:=RV.pt (F:=F) (ω:=yga ω (a,0) m.next (zj.map ofV).length) (i:=0) (j:=0) ycn
  simpa using this
theorem s_mk (p:Conc lo F ω s f m) {t elem:TypeId}{x y:Operand}{e:Nat}{i:TypeInfo}{z:List Value}{k O:IntKind}{n:Int}(v:o.op = .makeSlice t x y) (G:P.underlying t=some (.slice elem)) (H:P.info? elem=some i) (A:zeroA i=some z)
 (M:s.get x=some (.i k n)) (N:s.get y=some (.i O n)) (D:0<=n) (E:i.bytes*n.toNat<=1000000) (h:n.toNat<=1000000) (J:ynq s elem e=true) :
 OpS P lo F ω f m o ⟨c,⟨[],[],[(e,0)],false,false,false,false⟩,.os (e,0) 0 n.toNat true,s.own (e,0) (some ⟨elem,false,i.size,n.toNat,fun _=>z.map ofV⟩)⟩:=by
 obtain⟨T,B,Q⟩:=p.get M;obtain⟨U,C,S⟩:=p.get N;cases Q.int_inv
 cases S.int_inv
 obtain⟨a,rfl⟩:=zN D;rw[zY]at *;obtain⟨w,g⟩:=yfz A;refine OpS.new p (b:=⟨elem,false,i.size,a,fun _=>z.map ofV⟩) J (Tb:=tOf (repl a z)) (L:=fun _=>z) (u:=.slice (some ⟨m.next,0,none⟩) a a) ?_ (fun q K=>⟨g,ypd w,yqg w,fun j I=>?_⟩) ?_
 .unfold evOp;rw[v];show(ob (f.get x) fun l=>ob (f.get y) (evMakeSlice P t m l))=_;rw[B];show(ob (f.get y) (evMakeSlice P t m _))=_;rw[C];show(ob (P.underlying t) fun d=>evMakeSlice1 P m a a d)=_;rw[G];show(ob (P.info? elem) fun i=>ob (zeroA i) fun z=>evMakeSlice2 m elem a a i z)=_;rw[H];show(ob (zeroA i) fun z=>evMakeSlice2 m elem a a i z)=_;rw[A];show evMakeSlice2 m elem a a i z=_;unfold evMakeSlice2
  rw[ybh,if_pos (by rw[zA (zZ a),zA E,zA h];rfl)]
  show some (⟨_,.new (.cells (tOf (repl a z)) (repl a z).length elem i.size),[]⟩:R)=some ⟨_,.new (.cells _ (a*i.size) elem i.size),[]⟩;rw[yeu,g]
 .rw[ycx];show(repl a z)[q*i.size+j]?=_;rw[<-g];exact ybcp z a q j K (by rw[g];exact I)
 .have:=RV.os (F:=F) (ω:=yga ω (e,0) m.next i.size) (o:=0) (n:=a) (c:=a) (ap:=true) ycn (fun _=>.inr ⟨rfl,by show a<1208925819614629174706176;omega⟩)
  simpa using this
end
end Sh
end
section
namespace Sh
open Go Ev
section
variable {P:Program}{lo:Nat}{F:AM}{ω:Om}{s:SS}{f:Fr}{m:Mem}{o:Oper}{c:Prop}{r:SRec}
theorem ybcl{l new:List SV}{p:Nat}(h:p+new.length<=l.length):(splice l p new).length=l.length:=by
 unfold splice;simp;omega
theorem yoy:∀{b:List (Nat×Nat×Operand)}{l l':List SV},fill s l b=some l'->l'.length=l.length
 |[],l,l',h=>by cases h;rfl
 | (p,n,x)::b,l,l',h=>by
   unfold fill at h;split at h
   .cases h
   .split at h
    .rename_i a
     rw[yoy h,ybcl (by rw[a.1];exact a.2.1)]
    .cases h
theorem ycwv (v:Conc lo F ω s f m) {t:TypeId}{parts:Array (Nat×Operand)}{i:TypeInfo}{z:List Value}{d:TypeDesc}{place:Nat->Option (Nat×Nat)}{y:List (Nat×Nat×Operand)}{l:List SV}
 (h:o.op = .build t parts) (C:P.info? t=some i) (x:zeroA i=some z) (A:P.underlying t=some d)
 (D:(∃e b,d = .struct e/\placesA P e.toList=some b/\place=fun k=>b[k]?)\/(∃n elem j,d = .array n elem/\P.info? elem=some j/\place=fun k=>some (k*j.size,j.size)))
 (E:parts.toList.mapM (fun p=>(place p.1).map fun q=>(q.1,q.2,p.2))=some y) (B:fill s (z.map ofV) y=some l):OpS P lo F ω f m o ⟨c,r,.ag l,s⟩:=by
 obtain⟨w,_⟩:=yfz x;obtain⟨a,L,t1,t2,t3,_⟩:=yuq v E (ypd w) (yqg w) B;refine OpS.idle v (u:=.agg L.toArray) ?_ (.ag t3);unfold evOp;rw[h];show ob (partsA f parts.toList) (evBuild P t)=_;rw[t1];show(ob (P.info? t) fun i=>ob (zeroA i) fun z=>ob (P.underlying t) fun d=>evBuild1 P z a d)=_;rw[C];show(ob (zeroA i) fun z=>ob (P.underlying t) fun d=>evBuild1 P z a d)=_;rw[x];show(ob (P.underlying t) fun d=>evBuild1 P z a d)=_
 rw[A];rcases D with⟨e,b,rfl,g,rfl⟩|⟨n,elem,j,rfl,g,rfl⟩
 .show(ob (placesA P e.toList) fun b=>ob (fillA (fun k=>b[k]?) z a) fun l=>val (.agg l.toArray))=_;rw[g];show(ob (fillA (fun k=>b[k]?) z a) fun l=>val (.agg l.toArray))=_;rw[t2];rfl
 .show(ob (P.info? elem) fun j=>ob (fillA (fun k=>some (k*j.size,j.size)) z a) fun l=>val (.agg l.toArray))=_;rw[g];show(ob (fillA (fun k=>some (k*j.size,j.size)) z a) fun l=>val (.agg l.toArray))=_;rw[t2];rfl
theorem ysu{a:Type}{l:List a}{k z n:Nat}(h:l.length=n*z)(hk:k<n):((l.drop (k*z)).take z).length=z:=by
 have:=ylg (z:=z) hk;simp;omega
theorem yov{z:List Value}(h:z.all simple=true):∀n,(repl n z).all simple=true
 |0=>rfl
 |n+1=>by rw[yjn,zW,h,yov h n];rfl
theorem ycsy (A:Conc lo F ω s f m) {t elem:TypeId}{n g:Nat}{parts:Array (Nat×Operand)}{i:TypeInfo}{z:List Value}{D:List (Nat×Nat×Operand)}{l:List SV}
 (x:o.op = .buildSlice t n parts) (G:P.underlying t=some (.slice elem)) (H:P.info? elem=some i) (C:zeroA i=some z) (E:n*i.size<=10000) (v:n<=10000)
 (J:parts.toList.mapM (fun p=>((fun k=>some (k*i.size,i.size)) p.1:Option (Nat×Nat)).map fun q=>(q.1,q.2,p.2))=some D) (B:fill s ((repl n z).map ofV) D=some l) (I:ynq s elem g=true) :
 OpS P lo F ω f m o ⟨c,⟨[],[],[(g,0)],false,false,false,false⟩,.os (g,0) 0 n true,s.own (g,0) (some ⟨elem,false,i.size,n,fun k=>(l.drop (k*i.size)).take i.size⟩)⟩:=by
 obtain⟨K,y⟩:=yfz C;have e:=yov K n;obtain⟨h,L,t1,t2,t3,t4⟩:=yuq A (place:=fun k=>some (k*i.size,i.size)) J (ypd e) (yqg e) B;have d:l.length=n*i.size:=by rw[yoy B,zV,yeu,y]
 have a:L.length=n*i.size:=by rw[<-t3.length];exact d
 refine OpS.new A (b:=⟨elem,false,i.size,n,fun k=>(l.drop (k*i.size)).take i.size⟩) I (Tb:=tOf L) (L:=fun k=>(L.drop (k*i.size)).take i.size) (u:=.slice (some ⟨m.next,0,none⟩) n n) ?_
  (fun k hk=>⟨ysu a hk,(t3.drop _).take _,yra (ykp t4 _) _,fun j w=>?_⟩) ?_
 .unfold evOp;rw[x];show(ob (partsA f parts.toList) fun M=>ob (P.underlying t) (evBuildSlice P m n M))=_;rw[t1];show ob (P.underlying t) (evBuildSlice P m n h)=_;rw[G];show(ob (P.info? elem) fun i=>ob (zeroA i) fun z=>evBuildSlice1 m n elem h i z)=_;rw[H];show(ob (zeroA i) fun z=>evBuildSlice1 m n elem h i z)=_;rw[C];show evBuildSlice1 m n elem h i z=_;unfold evBuildSlice1;rw[ybh,if_pos (by rw[zA E,zA v];rfl),t2]
  show some (⟨_,.new (.cells (tOf L) L.length elem i.size),[]⟩:R)=some ⟨_,.new (.cells _ (n*i.size) elem i.size),[]⟩;rw[a]
 .rw[ycx];have w:j<i.size:=w;simp[zAA,w]
 .have:=RV.os (F:=F) (ω:=yga ω (g,0) m.next i.size) (o:=0) (n:=n) (c:=n) (ap:=true) ycn (fun _=>.inr ⟨rfl,by show n<1208925819614629174706176;omega⟩)
  simpa using this
theorem ybvf{b:Type}{l new:List b}{p j:Nat}(h:p+new.length<=l.length):(l.take p++new++l.drop (p+new.length))[j]?=if p<=j/\j<p+new.length then new[j-p]? else l[j]?:=by
 by_cases a:j<p
 .rw[if_neg (by omega),zAF,zQ (by simp;omega)]
  simp[a]
 .by_cases d:j<p+new.length
  .rw[if_pos (by omega),zAF,zO (by simp;omega),zQ (by simp;omega)]
   congr 1;simp;omega
  .rw[if_neg (by omega),zO (by simp;omega)]
   simp only[zAB,zAV,zAA];congr 1;omega
theorem Conc.upd (h:Conc lo F ω s f m) {u:Nm}{k:Nat}{b:OB}(y:∃c,lookO s.o u=some c) (hk:ω u=some (some (k,b.z))) (G:b.e≠CU) {Tb:Ev.T Value}{L:Nat->List Value}
 (E:∀i,i<b.n->(L i).length=b.z/\RVL F ω (b.g i) (L i)/\(b.g i).all one1=true/\∀j,j<b.z->Tb.get (i*b.z+j)=(L i)[j]?) :
 Conc lo F ω (s.own u (some b)) f (m.app (.upd k (.cells Tb (b.n*b.z) b.e (if b.bx then 0 else b.z)))):=by
 rw[ybdw];have a:∀i,(T.set (zC k) m.b k (some (.cells Tb (b.n*b.z) b.e (if b.bx then 0 else b.z)))).get i=if i=k then some (.cells Tb (b.n*b.z) b.e (if b.bx then 0 else b.z))else m.b.get i:=fun i=>T.set_at _ _ _ _
 have p:=h.apart u k _ hk;refine⟨fun i x l=>?_,?_,h.nxt,fun i x l=>?_,fun v d C=>?_,fun v B=>?_,h.inj,h.apart,h.fr⟩
 .have l:(T.set (zC k) m.b k (some (.cells Tb (b.n*b.z) b.e (if b.bx then 0 else b.z)))).get i=some x:=l
  rw[a]at l;show i<m.next
  split at l
  .rename_i q;rw[q];exact p.2.2
  .exact h.wf i x l
 .show lo<=zAG m.low k;have:=h.low;have:=p.2.1;rw[zAN];omega
 .show(T.set (zC k) m.b k (some (.cells Tb (b.n*b.z) b.e (if b.bx then 0 else b.z)))).get i=some x
  rw[a,if_neg (fun q=>by rw[q,p.1]at l;cases l)]
  exact h.sub i x l
 .have t:(if u=v then some b else lookO s.o v)=some d:=by rw[<-yqj (.inr y)];exact C
  clear C
  split at t
  .rename_i q;subst q;have w:=Option.some.inj t;subst w;exact .inl ⟨k,Tb,L,hk,G,by show(T.set (zC k) m.b k _).get k=_;rw[a,if_pos rfl],E⟩
  .rename_i q
   exact(h.own v d t).mono (Om.le_refl _) fun D H A=>by show(T.set (zC k) m.b k _).get D=_;rw[a,if_neg (fun e=>h.inj v u D H k _ A hk (Ne.symm q) e)]
 .exact h.dom v (ymy B).2
theorem ydaa(D:Conc lo F ω s f m){t:TypeId}{x y:Operand}{i:TypeInfo}(N:o.op = .store t x y)(hi:P.info? t=some i){p v:SV}(hx:s.get x=some p)(C:s.get y=some v){q:XR}(h:ybih s i.size v p=some q)(hr:q.c):OpS P lo F ω f m o q:=by
 obtain⟨u,e,hu⟩:=D.get hx;obtain⟨w,e',hw⟩:=D.get C;unfold ybih at h;split at h
 .rename_i Z a j
  split at h
  .rename_i b J
   split at h
   .rename_i O
    cases h
    obtain⟨q1,q2,Y⟩:=O;have U:a<b.n:=hr;obtain⟨k,z,hk,rfl⟩:=hu.pt_inv;obtain⟨rfl,I,L,g1,S⟩:=D.ownAt J hk (.inl (by omega))
    obtain⟨Q,k2⟩:=yql hw Y;have l:w.cells.toList.length=i.size:=by rw[<-Q.length];exact q1
    have a0:=ylg (z:=b.z) U;have V:(b.set a j v.cells).z=b.z/\(b.set a j v.cells).n=b.n/\(b.set a j v.cells).e=b.e/\(b.set a j v.cells).bx=b.bx:=⟨rfl,rfl,rfl,rfl⟩
    have hg:∀n,n<b.n->(b.set a j v.cells).g n=if n=a then splice (b.g a) j v.cells else b.g n:=by
     intro n H;unfold OB.set;simp only;split
     .rename_i a1
      have E:n=0:=by omega
      have h2:a=0:=by omega
      subst E;subst h2;simp
     .rfl
    refine⟨⟨undef,.upd k (.cells (Ev.T.sets I (a*b.z+j) w.cells.toList) (b.n*b.z) b.e (if b.bx then 0 else b.z)),[k]⟩,ω,?_,Om.le_refl _,
     D.upd (b:=b.set a j v.cells) ⟨_,J⟩ hk (show b.e≠CU from D.ownE J hk (.inl (by omega))) (L:=fun n=>if n=a then(L a).take j++w.cells.toList++(L a).drop (j+w.cells.toList.length)else L n) ?_,.tp .nil,fun _ _ _ h=>.inl h,fun y C=>?_,fun y C=>?_,fun _=>rfl,fun q=>(by cases q)⟩
    .unfold evOp;rw[N];show(ob (f.get y) fun v=>ob (f.get x) (evStore P t m v))=_;rw[e'];show ob (f.get x) (evStore P t m w)=_;rw[e];show(ob (storeA P m t ⟨k,a*b.z+j,none⟩ w) fun e=>(some ⟨undef,e,[k]⟩:Option R))=_
     have:storeA P m t ⟨k,a*b.z+j,none⟩ w=some (.upd k (.cells (Ev.T.sets I (a*b.z+j) w.cells.toList) (b.n*b.z) b.e (if b.bx then 0 else b.z))):=by
      unfold storeA;rw[g1,hi];simp only
      have M:zD b.e CU=false:=by
       cases O:zD b.e CU with
       |false=>rfl
       |true=>exact absurd (zH O) (D.ownE J hk (.inl (by omega)))
      rw[l,zJ,k2,zA (by omega),M]
      rfl
     rw[this];rfl
    .intro n H;obtain⟨l1,W,X,l4⟩:=S a U;have H:n<b.n:=H;rw[hg n H];show _/\_/\_/\∀d,d<b.z->_
     by_cases B:n=a
     .subst B;simp only[if_true];have K:j+w.cells.toList.length<=(L n).length:=by rw[l1,l];exact q2
      refine⟨by simp only[zAB,zAV,List.length_drop];show _=b.z;omega,?_,?_,fun d A=>?_⟩
      .unfold splice;rw[Q.length];exact((W.take _).append Q).append (W.drop _)
      .unfold splice;rw[zW,zW,yra X,ykp X,Y];rfl
      .show(Ev.T.sets I (n*b.z+j) w.cells.toList).get (n*b.z+d)=_;rw[T.sets_at,ybvf K]
       by_cases G:j<=d/\d<j+w.cells.toList.length
       .rw[if_pos (by omega),if_pos G];congr 1;omega
       .rw[if_neg (by omega),if_neg G];exact l4 d A
     .simp only[if_neg B];obtain⟨m1,m2,m3,m4⟩:=S n H;refine⟨m1,m2,m3,fun d A=>?_⟩;show(Ev.T.sets I (a*b.z+j) w.cells.toList).get (n*b.z+d)=_;rw[T.sets_at,if_neg,m4 d A];rcases Nat.lt_or_gt_of_ne B with E|E
      .have:=ylg (z:=b.z) E;omega
      .have:=ylg (z:=b.z) E;omega
    .simp at C;subst C;exact .inl ⟨Z,b.z,by simp,hk⟩
    .simp[Eff.mods]at C;subst C;exact⟨Z,b.z,by simp,hk⟩
   .cases h
  .cases h
 .cases h
end
end Sh
end
section
namespace Sh
open Go Ev
section
variable {P:Program}{lo:Nat}{F:AM}{ω:Om}{s:SS}{f:Fr}{m:Mem}{o:Oper}{c:Prop}{r:SRec}
def ydl(L:Nat->List Value):Nat->List Value
 |0=>[]
 |n+1=>ydl L n++L n
theorem yfy{L:Nat->List Value}{z:Nat}:∀{n:Nat},(∀k,k<n->(L k).length=z)->(ydl L n).length=n*z
 |0,_=>by simp[ydl]
 | n+1,h=>by
   rw[ydl,zAB,yfy (fun k hk=>h k (by omega)),h n (by omega),zAH]
theorem yjr{L:Nat->List Value}{z:Nat}:∀{n:Nat},(∀k,k<n->(L k).length=z)->∀k j,k<n->j<z->(ydl L n)[k*z+j]?=(L k)[j]?
 |0,_,k,j,h,_=>absurd h (zAX _)
 | n + 1,h,k,j,hk,b=>by
   have d:=yfy (L:=L) (z:=z) (n:=n) (fun k hk=>h k (by omega))
   rw[ydl]
   by_cases a:k<n
   .have:=ylg (z:=z) a;rw[zQ (by omega)]
    exact yjr (fun k hk=>h k (by omega)) k j a b
   .obtain rfl:k=n:=by omega
    rw[zO (by omega),d]
    congr 1;omega
theorem ybap(L b:Nat->List Value)(n:Nat):∀k,ydl L n++ydl b k=ydl (fun a=>if a<n then L a else b (a-n)) (n+k)
 | 0 => by
   rw[ydl,List.append_nil,zBF]
   have:∀j,j<=n->ydl L j=ydl (fun a=>if a<n then L a else b (a-n)) j:=by
    intro j
    induction j with
    |zero=>intro _;rfl
    |succ j d=>intro e;rw[ydl,ydl,d (by omega),if_pos (show j<n by omega)]
   exact this n (zZ _)
 | k+1=>by
   rw[ydl,<-zAF,ybap L b n k,show n+(k+1)=(n+k)+1 by omega]
   show _=ydl _ (n+k)++(if n+k<n then L (n+k)else b (n+k-n))
   rw[if_neg (by omega),Nat.add_sub_cancel_left]
theorem yzz{g:Nat->List SV}{L:Nat->List Value}:∀{n:Nat},(∀k,k<n->allGood (L k)=true)->allGood (ydl L n)=true
 |0,_=>rfl
 | n + 1,h=>by
   have d:∀(a b:List Value),allGood a=true->allGood b=true->allGood (a++b)=true:=by
    intro a b
    induction a with
    |nil=>intro _ h;exact h
    | cons v a j =>
      intro e i;cases v<;>first|exact j e i|cases e
   exact d _ _ (yzz (g:=g) fun k hk=>h k (by omega)) (h n (by omega))
theorem ycxn{l:List SV}{L:List Value}(b:RVL F ω l L)(a:l.all one1=true):allGood L=true:=by
 have:=(yql (v:=.ag l) (u:=.agg L.toArray) (.ag b) a).2
 simpa[Value.cells]using this
theorem ycgz(I:Conc lo F ω s f m){z:Nat}{v:SV}{u:Value}{q:Row}(h:ytz s z v=some q)(O:RV F ω v u)(i:0<q.n)(D:q.c) :
 ∃(L:Nat->List Value) (k:Nat),rowOf m z u=some (ydl L q.n,[k])/\lenA u=q.n/\(∀a,a<q.n->(L a).length=z/\RVL F ω (q.g a) (L a)/\(q.g a).all one1=true)/\((∃B Q,B∈q.rd/\ω B=some (some (k,Q)))\/(q.fz=true/\∃b,F k=some b)):=by
 have row:∀{t p n w N e E:Nat}{Tb:Ev.T Value}{L:Nat->List Value},m.b.get t=some (.cells Tb N e E)->0<n->p+n*z<=N->(∀a,a<n->(L a).length=z)->(∀a,a<n->∀j,j<z->Tb.get (p+a*z+j)=(L a)[j]?) ->
  rowOf m z (.slice (some ⟨t,p,none⟩) n w)=some (ydl L n,[t]):=by
  intro t p n w N e E Tb L Y h2 Z H h5;have K:=yfy H;show(bif zD n 0 then _ else _)=_;rw[show zD n 0=false by cases n with|zero=>omega|succ n=>rfl]
  simp only[cond_false];rw[Y];simp only;rw[zA Z];simp only[cond_true]
  have J:=ylc (T:=Tb) (L:=ydl L n) (o:=p) (fun j A=>by
   rw[K]at A;rcases zAC z with l|l
   .subst l;omega
   .have hd:=zAY j z;have M:=zBH j l;have hk:j/z<n:=zAO (by rwa [zAI]at A)
    have S:j=j/z*z+j%z:=by rw[zAI];exact hd.symm
    rw[S,yjr H _ _ hk M,<-zU];exact h5 _ hk _ M)
  rw[K]at J;rw[J]
 unfold ytz at h;split at h
 .rename_i Q n g
  split at h
  .rename_i l;subst l;cases h
   rcases O.sl_inv with⟨rfl,_⟩|⟨t,p,w,T,N,e,E,L,rfl,x,y,U,G,V,W,X⟩
   .exact absurd i (zAE _)
   .exact⟨L,t,row (I.sub _ _ x) i U G V,rfl,fun a d=>⟨G a d,(W a d).mono (Le.refl _) (yyk _),X a d⟩,.inr ⟨rfl,_,x⟩⟩
  .cases h
 .rename_i B p n w
  split at h
  .rename_i b C
   split at h
   .rename_i l;subst l;cases h
    have hb:p+n<=b.n:=D;rcases O.os_inv with⟨k,z,R,hk,rfl,_⟩|⟨_,_,rfl,_⟩
    .obtain⟨rfl,T,L,x,y⟩:=I.ownAt C hk (.inl (by have i:0<n:=i;omega))
     have hN:p*b.z+n*b.z<=b.n*b.z:=by rw[<-zI];exact zM _ hb
     refine⟨fun a=>L (p+a),k,row x i hN (fun a d=>(y (p+a) (by omega)).1) (fun a d j A=>?_),rfl,fun a d=>?_,.inl ⟨B,_,by simp,hk⟩⟩
     .rw[<-zI];exact(y (p+a) (by omega)).2.2.2 j A
     .have d:a<n:=d;obtain⟨l1,l2,l3,_⟩:=y (p+a) (by omega);exact⟨l1,l2,l3⟩
    .exact absurd i (zAE _)
   .cases h
  .cases h
 .cases h;exact absurd i (zAE _)
 .cases h
theorem Conc.drop(a:Conc lo F ω s f m){l:Nm}{k z:Nat}(t:∃c,lookO s.o l=some c)(hk:ω l=some (some (k,z))):Conc lo F ω (s.own l none) f ⟨m.next,Ev.T.set (zC k) m.b k none,zAG m.low k⟩:=by
 have g:∀i,(Ev.T.set (zC k) m.b k none).get i=if i=k then none else m.b.get i:=fun i=>T.set_at _ _ _ _
 have p:=a.apart l k z hk;refine⟨fun i x h=>?_,?_,a.nxt,fun i x h=>?_,fun n d w=>?_,fun n v=>?_,a.inj,a.apart,a.fr⟩
 .have h:(Ev.T.set (zC k) m.b k none).get i=some x:=h;rw[g]at h;split at h
  .cases h
  .exact a.wf i x h
 .show lo<=zAG m.low k;have:=a.low;have:=p.2.1;rw[zAN];omega
 .show(Ev.T.set (zC k) m.b k none).get i=some x;rw[g,if_neg (fun q=>by rw[q,p.1]at h;cases h)]
  exact a.sub i x h
 .have j:(if l=n then none else lookO s.o n)=some d:=by rw[<-yqj (.inr t)];exact w
  clear w
  split at j
  .cases j
  .rename_i q
   exact(a.own n d j).mono (Om.le_refl _) fun y A u=>by show(Ev.T.set (zC k) m.b k _).get y=_;rw[g,if_neg (fun e=>a.inj n l y A k _ u hk (Ne.symm q) e)]
 .exact a.dom n (ymy v).2
theorem Conc.drop0(a:Conc lo F ω s f m){i:Nm}(g:∃c,lookO s.o i=some c):Conc lo F ω (s.own i none) f m:=by
 refine⟨a.wf,a.low,a.nxt,a.sub,fun e d j=>?_,fun e h=>?_,a.inj,a.apart,a.fr⟩
 .have b:(if i=e then none else lookO s.o e)=some d:=by rw[<-yqj (.inr g)];exact j
  clear j
  split at b
  .cases b
  .exact a.own e d b
 .exact a.dom e (ymy h).2
theorem ybav{l:Own}{a:Nm}{b:OB}(h:lookO l a=some b):look l a.1≠none:=fun q=>by
 unfold lookO at h;rw[q]at h;cases h
theorem ybnb{z:Nat}{w:SV}{q:Row}(h:ytz s z w=some q){u:Value}(a:RV F ω w u)(d:q.n=0):rowOf m z u=some ([],[])/\lenA u=0:=by
 unfold ytz at h;split at h
 .split at h
  .cases h
   rcases a.sl_inv with⟨rfl,i⟩|⟨j,p,l,T,N,e,t,L,rfl,_⟩
   .rcases i with rfl|⟨b,o,c,rfl⟩<;>exact⟨rfl,rfl⟩
   .obtain rfl:=d;exact⟨rfl,rfl⟩
  .cases h
 .split at h
  .split at h
   .cases h
    rcases a.os_inv with⟨k,z,g,hk,rfl,_⟩|⟨_,_,rfl,rfl⟩
    .obtain rfl:=d;exact⟨rfl,rfl⟩
    .exact⟨rfl,rfl⟩
   .cases h
  .cases h
 .cases h;cases a;exact⟨rfl,rfl⟩
 .cases h
theorem ycuk (j:Conc lo F ω s f m) {t elem:TypeId}{x y:Operand}{i:TypeInfo}{V:List Value}(l:o.op = .call { callee:=.builtin .append,args:=#[x,y],argTypes:=#[t,t] }) (I:P.underlying t=some (.slice elem)) (J:P.info? elem=some i) (O:zeroA i=some V) (h:i.bytes<=100000000)
 {v w:SV}{q:Row}(M:s.get x=some v) (N:s.pget y=some w) (K:ytz s i.size w=some q) (G:q.n=0)
 (H:v = .a (.slice none 0 0)\/∃B p n,v = .os B p n true/\n*i.bytes<=100000000/\n<=100000000):OpS P lo F ω f m o ⟨c,SRec.no,v,s⟩:=by
 obtain⟨R,C,A⟩:=j.get M;obtain⟨b,D,Q⟩:=j.pget N;obtain⟨T,U⟩:=ybnb (m:=m) K Q G
 have L:∃a n c,R = .slice a n c/\n*i.bytes<=100000000/\n<=100000000:=by
  rcases H with rfl|⟨B,p,n,rfl,d,e⟩
  .cases A;exact⟨_,_,_,rfl,by omega,by omega⟩
  .rcases A.os_inv with⟨k,z,g,hk,rfl,_⟩|⟨_,_,rfl,rfl⟩
   .exact⟨_,_,_,rfl,d,e⟩
   .exact⟨_,_,_,rfl,by omega,by omega⟩
 obtain⟨a,n,g,rfl,d,e⟩:=L;refine OpS.idle j (u:=.slice a n g) ?_ A;unfold evOp;rw[l];show(ob (valsA f [x,y]) fun S=>evAppend P m S [t,t])=_;rw[ybbs C D];show iteB (zD t t) (ob (P.underlying t) _) none=_;rw[ybh,if_pos (zJ _),I];show appendA P m elem _ b=_;unfold appendA;rw[J];show(ob (rowOf m i.size b) fun q=>appendA1 m elem _ b i q)=_;rw[T];show appendA1 m elem _ b i ([],[])=_;unfold appendA1;have E:lenA (.slice a n g)=n:=rfl
 rw[U,E,zBF,ybh,if_pos (by rw[zA d,zA e,zA h,O];rfl),ybh,if_pos (by rfl)]
 rfl
theorem ydcz (W:Conc lo F ω s f m) {t elem:TypeId}{x y:Operand}{d:Nat}{i:TypeInfo}{zv:List Value}(c6:o.op = .call { callee:=.builtin .append,args:=#[x,y],argTypes:=#[t,t] }) (hd:P.underlying t=some (.slice elem)) (hi:P.info? elem=some i) (hz:zeroA i=some zv) (c2:i.bytes<=100000000) (a7:i.size≠0)
 {v w:SV}{q:Row}(hx:s.get x=some v) (C:s.pget y=some w) (hq:ytz s i.size w=some q) (c1:q.c) (Z:ynq s elem d=true) (h0:0<q.n)
 {X:XR}(hX:(v = .a (.slice none 0 0)/\q.n*i.bytes<=100000000/\q.n<=100000000/\X=⟨c,⟨q.rd,[],[(d,0)],q.fz,false,false,false⟩,.os (d,0) 0 q.n true,s.own (d,0) (some ⟨elem,false,i.size,q.n,q.g⟩)⟩) \/
   (∃u p n b,v = .os u p n true/\lookO s.o u=some b/\b.e=elem/\b.z=i.size/\b.bx=false/\p+n<=b.n/\(n+q.n)*i.bytes<=100000000/\n+q.n<=100000000/\X=⟨c,⟨u::q.rd,[u],[(d,0)],q.fz,false,false,false⟩,.os (d,0) 0 (n+q.n) true,(s.own u none).own (d,0) (some ⟨elem,false,i.size,n+q.n,fun k=>if k<n then b.g (p+k)else q.g (k-n)⟩)⟩)):OpS P lo F ω f m o X:=by
 obtain⟨u1,e1,r1⟩:=W.get hx;obtain⟨u2,e2,r2⟩:=W.pget C;obtain⟨L,k,w1,w2,M,w4⟩:=ycgz W hq r2 h0 c1;have U:(ydl L q.n).length=q.n*i.size:=yfy fun a l=>(M a l).1;have a4:allGood (ydl L q.n)=true:=yzz (g:=q.g) fun a l=>ycxn (M a l).2.1 (M a l).2.2;have a0:=W.dom (d,0) (yfx Z)
 have b3:∀{R0:Option R},(lenA u1+q.n)*i.bytes<=100000000->lenA u1+q.n<=100000000->appendA2 m i elem q.n (ydl L q.n) [k] u1=R0->evOp P f o m=R0:=by
  intro R0 h1 h2 h3;unfold evOp;rw[c6];show(ob (valsA f [x,y]) fun vs=>evAppend P m vs [t,t])=_;rw[ybbs e1 e2];show iteB (zD t t) (ob (P.underlying t) _) none=_;rw[ybh,if_pos (zJ _),hd];show appendA P m elem u1 u2=_;unfold appendA;rw[hi];show(ob (rowOf m i.size u2) fun q=>appendA1 m elem u1 u2 i q)=_;rw[w1];show appendA1 m elem u1 u2 i (ydl L q.n,[k])=_;unfold appendA1;rw[w2,ybh,if_pos (by rw[zA h1,zA h2,zA c2,hz,a4];rfl),ybh,if_neg (fun e=>by have:=zH e;omega)]
  exact h3
 have G:∀{rd:List Nm}{y:Nat},(∀z∈q.rd,z∈rd)->y∈[k]->(∃d z,d∈rd/\ω d=some (some (y,z)))\/(q.fz=true/\∃b,F y=some b):=by
  intro rd y b8 C;simp at C;subst C;exact w4.imp (fun⟨d,z,a,b⟩=>⟨d,z,b8 _ a,b⟩) id
 have B:∀u k z,yga ω (d,0) m.next i.size u=some (some (k,z))->ω u=some (some (k,z))\/m.next<=k:=fun u k z hk=>by
  unfold yga at hk;split at hk
  .cases hk;exact .inr (zZ _)
  .exact .inl hk
 have a1:u1 = .slice none 0 0->q.n*i.bytes<=100000000->q.n<=100000000->evOp P f o m=some ⟨.slice (some ⟨m.next,0,none⟩) q.n CU,.new (.cells (tOf (ydl L q.n)) (q.n*i.size) elem i.size),[k]⟩:=by
  rintro rfl h1 h2;refine b3 (by show(0+q.n)*_<=_;rw[zX];exact h1) (by show 0+q.n<=_;omega) ?_
  show appRes m q.n _ _=_;unfold appRes;rw[ybo,U]
 have a3:∀a,a<q.n->(L a).length=i.size/\RVL F ω (q.g a) (L a)/\(q.g a).all one1=true/\∀j,j<i.size->(tOf (ydl L q.n)).get (a*i.size+j)=(L a)[j]?:=fun a l =>
  ⟨(M a l).1,(M a l).2.1,(M a l).2.2,fun j Y=>by rw[ycx];exact yjr (fun a l=>(M a l).1) a j l Y⟩
 have J:∀n,RV F (yga ω (d,0) m.next i.size) (.os (d,0) 0 n true) (.slice (some ⟨m.next,0,none⟩) n CU):=fun n=>by
  have:=RV.os (F:=F) (ω:=yga ω (d,0) m.next i.size) (o:=0) (n:=n) (c:=CU) (ap:=true) ycn (fun _=>.inl rfl)
  simpa using this
 rcases hX with⟨rfl,b1,b2,rfl⟩|⟨u,p,n,b,rfl,hb,be,bz,bb,c7,b1,b2,rfl⟩
 .have c9:u1 = .slice none 0 0:=by cases r1;rfl
  refine⟨_,yga ω (d,0) m.next i.size,a1 c9 b1 b2,yit a0,W.new (b:=⟨elem,false,i.size,q.n,q.g⟩) (yfx Z) (yru Z) a3,J _,B,fun y C=>G (fun _ h=>h) C,fun y C=>(by cases C),fun q=>(by cases q),fun _=>⟨(d,0),i.size,by simp,ycn⟩⟩
 .have a8:d≠u.1:=fun e=>ybav hb (by rw[<-e];exact yfx Z)
  have a5:look (s.own u none).o d=none:=by
   show(if u.1=d then some (yst (look s.o u.1) u.2 none)else look s.o d)=none
   rw[if_neg (Ne.symm a8)];exact yfx Z
  have b9:zD i.size 0=false:=by cases he:i.size with|zero=>exact absurd he a7|succ a=>rfl
  rcases r1.os_inv with⟨K,z1,A,Q,rfl,b0⟩|⟨Q,d1,c0,rfl⟩
  .obtain⟨rfl,Tb,D,g1,g2⟩:=W.ownAt hb Q (.inr bb);rw[bb,be,bz]at g1;have c4:p*b.z+n*i.size<=b.n*i.size:=by rw[bz,<-zI];exact zM _ c7
   have S:∀a,a<n->(D (p+a)).length=i.size:=fun a l=>by rw[<-bz];exact(g2 (p+a) (by omega)).1
   have a2:getCells Tb (p*b.z) (n*i.size)=some (ydl (fun a=>D (p+a)) n):=by
    have b4:=yfy S
    have:=ylc (T:=Tb) (L:=ydl (fun a=>D (p+a)) n) (o:=p*b.z) (fun j Y=>by
     rw[b4]at Y;have b7:0<i.size:=Nat.pos_of_ne_zero a7;have hd:=zAY j i.size;have hm:=zBH j b7;have hk:j/i.size<n:=zAO (by rwa [zAI]at Y)
     have e1:j=j/i.size*i.size+j%i.size:=by rw[zAI];exact hd.symm
     have e2:=(g2 (p+j/i.size) (by omega)).2.2.2 (j%i.size) (by rw[bz];exact hm)
     rw[e1,yjr S _ _ hk hm,<-e2,bz,zI,zU])
    rwa [b4]at this
   have H:∀{R0:Option R},appOut m ⟨K,p*b.z,none⟩ Tb elem i.size n (n+q.n) A (ydl L q.n) [K,k]=R0->evOp P f o m=R0:=by
    intro R0 h;refine b3 (by exact b1) (by exact b2) ?_
    show(ob (m.b.get K) fun b'=>appSome m i elem ⟨K,p*b.z,none⟩ n (n+q.n) A (ydl L q.n) [k] b')=_;rw[g1];show iteB (zD elem elem&&zD i.size i.size && !(zD i.size 0)&&zAL (p*b.z+n*i.size) (b.n*i.size)&&true && !(zD elem CU)) (iteB (zAL (n+q.n) A && !(zD A CU)) _ (appOut m ⟨K,p*b.z,none⟩ Tb elem i.size n (n+q.n) A (ydl L q.n) [K,k])) none=_
    have c5:zD elem CU=false:=by
     cases hq:zD elem CU with
     |false=>rfl
     |true=>exact absurd (zH hq) (yru Z)
    rw[ybh,if_pos (by rw[zJ,zJ,b9,zA c4,c5];rfl),ybh,if_neg]
    .exact h
    .rw[zB];rintro⟨q1,q2⟩;rcases b0 rfl with rfl|⟨rfl,_⟩
     .rw[zJ]at q2;cases q2
     .have:=Nat.le_of_ble_eq_true q1;omega
   have a9:∀{Tn:Ev.T Value},(∀a,a<n+q.n->∀j,j<i.size->Tn.get (a*i.size+j)=(if a<n then D (p+a)else L (a-n))[j]?)->∀a,a<n+q.n ->
    ((if a<n then D (p+a)else L (a-n)).length=i.size/\RVL F ω (if a<n then b.g (p+a)else q.g (a-n)) (if a<n then D (p+a)else L (a-n))/\(if a<n then b.g (p+a)else q.g (a-n)).all one1=true/\∀j,j<i.size->Tn.get (a*i.size+j)=(if a<n then D (p+a)else L (a-n))[j]?):=by
    intro Tn hT a l;refine⟨?_,?_,?_,hT a l⟩<;>by_cases h:a<n
    .rw[if_pos h];exact S a h
    .rw[if_neg h];exact(M (a-n) (by omega)).1
    .rw[if_pos h,if_pos h];exact(g2 (p+a) (by omega)).2.1
    .rw[if_neg h,if_neg h];exact(M (a-n) (by omega)).2.1
    .rw[if_pos h];exact(g2 (p+a) (by omega)).2.2.1
    .rw[if_neg h];exact(M (a-n) (by omega)).2.2
   have O:∀a,a<n+q.n->∀j,j<i.size->(tOf (ydl (fun a=>D (p+a)) n++ydl L q.n)).get (a*i.size+j)=(if a<n then D (p+a)else L (a-n))[j]?:=by
    intro a l j Y;rw[ycx,ybap];refine yjr (L:=fun a=>if a<n then D (p+a)else L (a-n)) (z:=i.size) (fun k hk=>?_) a j l Y
    by_cases h:k<n
    .simp only[if_pos h];exact S k h
    .simp only[if_neg h];exact(M (k-n) (by omega)).1
   have b5:(ydl (fun a=>D (p+a)) n).length+(ydl L q.n).length=(n+q.n)*i.size:=by rw[yfy S,U,zI]
   have I:∀y∈[K,k],(∃d z,d∈u::q.rd/\ω d=some (some (y,z)))\/(q.fz=true/\∃b,F y=some b):=fun y C=>by
    rcases List.mem_cons.1 C with h|h
    .subst h;exact .inl ⟨u,b.z,by simp,Q⟩
    .exact G (fun z hz=>zF _ hz) h
   have V:∀{Tn:Ev.T Value},evOp P f o m=some ⟨.slice (some ⟨m.next,0,none⟩) (n+q.n) CU,.move K (.cells Tn ((n+q.n)*i.size) elem i.size),[K,k]⟩->(∀a,a<n+q.n->∀j,j<i.size->Tn.get (a*i.size+j)=(if a<n then D (p+a)else L (a-n))[j]?) ->
    OpS P lo F ω f m o ⟨c,⟨u::q.rd,[u],[(d,0)],q.fz,false,false,false⟩,.os (d,0) 0 (n+q.n) true,(s.own u none).own (d,0) (some ⟨elem,false,i.size,n+q.n,fun k=>if k<n then b.g (p+k)else q.g (k-n)⟩)⟩:=by
    intro Tn N hT;have E:=(W.drop ⟨_,hb⟩ Q).new (b:=⟨elem,false,i.size,n+q.n,fun k=>if k<n then b.g (p+k)else q.g (k-n)⟩) a5 (yru Z) (Tb:=Tn) (L:=fun a=>if a<n then D (p+a)else L (a-n)) (a9 hT)
    refine⟨_,yga ω (d,0) m.next i.size,N,yit a0,?_,J _,B,I,fun y C=>?_,fun q=>(by cases q),fun _=>⟨(d,0),i.size,by simp,ycn⟩⟩
    .rw[yctd];rw[yyn]at E;exact E
    .simp[Eff.mods]at C;subst C;exact⟨u,b.z,by simp,Q⟩
   rcases b0 rfl with rfl|⟨rfl,d2⟩
   .by_cases a6:p*b.z=0
    .have hp:p=0:=by
      rcases Nat.mul_eq_zero.1 a6 with h|h
      .exact h
      .rw[bz]at h;exact absurd h a7
     refine V (Tn:=Ev.T.sets Tb (n*i.size) (ydl L q.n)) (H ?_) (fun a l j Y=>?_)
     .unfold appOut;rw[ybh,if_pos (by rw[zJ,a6];rfl)]
      unfold appRes;rw[ybo,U,zI]
     .by_cases h:a<n
      .rw[if_pos h];have:=ylg (z:=i.size) h;have e2:=(g2 (p+a) (by omega)).2.2.2 j (by rw[bz];exact Y)
       rw[T.sets_at,if_neg (by omega)]
       rw[<-e2,bz,hp,zX]
      .rw[if_neg h];have e3:a*i.size=n*i.size+(a-n)*i.size:=by rw[<-zI];congr 1;omega
       have:=ylg (z:=i.size) (show a-n<q.n by omega)
       rw[T.sets_at,if_pos (by omega),show a*i.size+j-n*i.size=(a-n)*i.size+j by omega]
       exact yjr (fun a l=>(M a l).1) _ j (by omega) Y
    .refine V (Tn:=tOf (ydl (fun a=>D (p+a)) n++ydl L q.n)) (H ?_) O;unfold appOut;rw[ybh,if_neg (by rw[zB];rintro⟨_,q2⟩;exact a6 (zH q2))]
     show(ob (getCells Tb (p*b.z) (n*i.size)) fun d0=>_)=_;rw[a2];show appRes m (n+q.n) (iteB (zD CU CU) _ _) [K,k]=_;rw[ybh,if_pos (zJ _)];unfold appRes;rw[ybo,b5]
   .have b6:zD A CU=false:=by
     cases hq:zD A CU with
     |false=>rfl
     |true=>have:=zH hq;omega
    have N:evOp P f o m=some ⟨.slice (some ⟨m.next,0,none⟩) (A+q.n) CU,.new (.cells (tOf (ydl (fun a=>D (p+a)) A++ydl L q.n)) ((A+q.n)*i.size) elem i.size),[K,k]⟩:=by
     refine H ?_;unfold appOut;rw[ybh,if_neg (by rw[b6];simp)]
     show(ob (getCells Tb (p*b.z) (A*i.size)) fun d0=>_)=_;rw[a2];show appRes m (A+q.n) (iteB (zD A CU) _ _) [K,k]=_;rw[ybh,if_neg (by rw[b6];simp)]
     unfold appRes;rw[ybo,b5]
    have E:=(W.drop0 ⟨_,hb⟩).new (b:=⟨elem,false,i.size,A+q.n,fun k=>if k<A then b.g (p+k)else q.g (k-A)⟩) a5 (yru Z) (Tb:=tOf (ydl (fun a=>D (p+a)) A++ydl L q.n)) (L:=fun a=>if a<A then D (p+a)else L (a-A)) (a9 O)
    exact⟨_,yga ω (d,0) m.next i.size,N,yit a0,E,J _,B,I,fun y C=>(by cases C),fun q=>(by cases q),fun _=>⟨(d,0),i.size,by simp,ycn⟩⟩
  .have c8:n=0:=c0;subst c8;have c3:=W.drop0 ⟨_,hb⟩
   have E:=c3.new (b:=⟨elem,false,i.size,0+q.n,fun k=>if k<0 then b.g (p+k)else q.g (k-0)⟩) a5 (yru Z) (Tb:=tOf (ydl L q.n)) (L:=L) (fun a l=>by
    have l:a<0+q.n:=l;simp only;rw[if_neg (by omega),Nat.sub_zero]
    exact a3 a (by omega))
   refine⟨_,yga ω (d,0) m.next i.size,a1 rfl (by rw[zX]at b1;exact b1) (by omega),yit a0,?_,?_,B,fun y C=>G (fun z hz=>zF _ hz) C,fun y C=>(by cases C),fun q=>(by cases q),fun _=>⟨(d,0),i.size,by simp,ycn⟩⟩
   .have:0+q.n=q.n:=by omega
    simp only[this]at E ⊢;exact E
   .rw[zX];exact J _
end
end Sh
end
section
namespace Sh
open Go Ev
def yub(P:Program)(key:TypeId):Bool:=match P.underlying key with
 |some (.struct a)=>(fsK P 0 a.toList==some [false,false]) && !(P.stoodInHeld key)
 |_=>false
def ybse(P:Program)(elem:TypeId):Option Nat:=match P.info? elem with
 | some i=>(match i.zero with
   |some (.bool false)=>some 0
   |some (.int .i64 (.ofNat 0))=>some 1
   |_=>none)
 |none=>none
section
variable {P:Program}{lo:Nat}{F:AM}{ω:Om}{s:SS}{f:Fr}{m:Mem}{o:Oper}{c:Prop}{r:SRec}
abbrev keyV(a b:Int):Value:=.agg #[.int .i64 a,.int .u32 b]
theorem ybco{a b x y:Int}:yze (keyV x y) a b=(decide (x=a)&&decide (y=b)):=rfl
theorem yxr{key:TypeId}(h:yub P key=true):∃a,P.underlying key=some (.struct a)/\fsK P 0 a.toList=some [false,false]/\P.stoodInHeld key=false:=by
 unfold yub at h;split at h
 .rename_i a b
  rw[zB,beq_iff_eq,zAT]at h;exact⟨a,b,h.1,h.2⟩
 .cases h
theorem ycbx(a b:Int):RVL F ω [.i .i64 a,.i .u32 b] [.int .i64 a,.int .u32 b]:=.cons .i (.cons .i .nil)
theorem key_eq{key:TypeId}(h:yub P key=true)(a b x y:Int):runPure P (Op.equal key (keyV a b) (keyV x y))=some (decide (a=x)&&decide (b=y)):=by
 obtain⟨g,j,k,l⟩:=yxr h;have e:=ysj (P:=P) (F:=fun _=>none) (ω:=om0) (d:=9998) (xs:=[.int .i64 a,.int .u32 b]) (ys:=[.int .i64 x,.int .u32 y]) g.toList [false,false] 0 [.i .i64 a,.i .u32 b] [.i .i64 x,.i .u32 y] (decide (a=x)&&(decide (b=y)&&true)) k (by simp[eqL]) (ycbx a b) (ycbx x y)
 unfold Op.equal Op.maxDepth;rw[Bool.and_true]at e;rw[<-e];exact yhk 9999 key _ _ j l
theorem ycud{e:Bool}{n:Nat}{t:TypeId}{k a:IntKind}{x:Int}(h:P.underlying t=some (.int a)):runPure P (Instr.checkKey e (n+1) t (.int k x))=some ():=by
 unfold Instr.checkKey;exact(ybc P _ (ybn h)).trans rfl
theorem ycyd {a : List Field} (h : fsK P 0 a = some [false, false]) : ∃ f1 f2 i j, a = [f1, f2] /\ (f1.offset = 0 /\ (f1.name == "_") = false /\ P.underlying f1.type = some (.int i)) /\ f2.offset = 1 /\ (f2.name == "_") = false /\ P.underlying f2.type = some (.int j) := by
 have one : ∀ {o : Nat} {a : List Field} {l : List Bool}, fsK P o a = some (false :: l) -> ∃ f d k, a = f :: d /\ (f.offset = o /\ (f.name == "_") = false /\ P.underlying f.type = some (.int k)) /\ fsK P (o + 1) d = some l := by
  intro o a l h;cases a with
  |nil=>cases h
  | cons f a =>
    unfold fsK at h;split at h
    .rename_i t
     split at h
     .rename_i k hk
      obtain⟨n,p,g⟩:=Option.map_eq_some_iff.1 h;cases g
      exact⟨f,a,k,rfl,⟨t.1,t.2,hk⟩,p⟩
     .obtain⟨n,p,g⟩:=Option.map_eq_some_iff.1 h;cases g
     .cases h
    .cases h
 obtain⟨f1,x,i,rfl,u,v⟩:=one h;obtain⟨f2,e,j,rfl,w,b⟩:=one v;cases e with
 |nil=>exact⟨f1,f2,i,j,rfl,u,w⟩
 | cons f3 y =>
   exfalso
   unfold fsK at b;split at b
   .split at b
    .obtain⟨_,_,q⟩:=Option.map_eq_some_iff.1 b;cases q
    .obtain⟨_,_,q⟩:=Option.map_eq_some_iff.1 b;cases q
    .cases b
   .cases b
theorem ycue{key:TypeId}(h:yub P key=true)(e:Bool)(a b:Int):runPure P (Instr.checkKey e 10000 key (keyV a b))=some ():=by
 obtain⟨y,l,p,z⟩:=yxr h;obtain⟨f1,f2,A,B,q,⟨t,d,i⟩,u,g,j⟩:=ycyd p;unfold Instr.checkKey;refine(ybc P _ (ybn l)).trans ?_;simp only;rw[<-zAR,q];have d : f1.name ≠ "_" := by simpa using d
 have g : f2.name ≠ "_" := by simpa using g
 have v:runPure P (Go.part f1.type #[.int .i64 a,.int .u32 b] f1.offset)=some (.int .i64 a):=by rw[t];exact yja i rfl rfl
 have w:runPure P (Go.part f2.type #[.int .i64 a,.int .u32 b] f2.offset)=some (.int .u32 b):=by rw[u];exact yja j rfl rfl
 have c1:=ycud (P:=P) (e:=e) (n:=9998) (k:=.i64) (x:=a) i;have c2:=ycud (P:=P) (e:=e) (n:=9998) (k:=.u32) (x:=b) j;simp only[zAK,List.forIn_nil,ybl,if_pos d,if_pos g,v,zG,zT];rw[c1];simp only[zG];rw[show runPure P (pure (ForInStep.yield PUnit.unit))=some (ForInStep.yield PUnit.unit)from rfl]
 simp only[zG,ybl,w,zT];rw[c2];rfl
def yzg(a b:Int):List MapEntry->Nat->Option (Nat×Value)
 |[],_=>none
 |e::d,i=>if yze e.key a b=true then some (i,e.val)else yzg a b d (i+1)
def ycer(es:List MapEntry):Prop:=∀e∈es,∃a b:Int,e.key=keyV a b/\0<=a/\0<=b/\b<4294967296
theorem yxh{key:TypeId}(h:yub P key=true)(a b:Int):∀(es:List MapEntry) (i:Nat),ycer es->runPure P (Instr.findAsking key (keyV a b) es i)=some (yzg a b es i)
 |[],_,_=>rfl
 | e :: es,i,hk=>by
   obtain⟨x,y,j,_⟩:=hk e zS;unfold Instr.findAsking yzg;rw[ybl,j,key_eq h,ybco,zG]
   by_cases q:a=x/\b=y
   .obtain⟨rfl,rfl⟩:=q;simp only[decide_true,Bool.and_self,if_true];rfl
   .have d:(decide (a=x)&&decide (b=y))=false:=by simpa using fun e=>(not_and.1 q) e
    have k:(decide (x=a)&&decide (y=b))=false:=by
     rw[<-d];congr 1<;>exact decide_eq_decide.2 eq_comm
    rw[d,k];simp only[zAQ,if_false];exact yxh h a b es (i+1) fun e g=>hk e (zF _ g)
theorem ybqj{key:TypeId}(h:yub P key=true)(a b:Int){es:List MapEntry}(hk:ycer es):runPure P (Instr.findKey key (keyV a b) es)=some (yzg a b es 0):=by
 obtain⟨d,g,i,j⟩:=yxr h;unfold Instr.findKey;rw[ybl,ybn g,zG];cases es with
 |nil=>rfl
 | cons e es =>
   have:Instr.findNow (.struct d) (keyV a b) (e::es) 0=none:=by
    unfold Instr.findNow;rfl
   rw[this];exact yxh h a b _ 0 hk
theorem ybod(a b:Int):∀(es:List MapEntry) (i:Nat),(yzg a b es i).map (·.2)=yhl a b es
 |[],_=>rfl
 | e::es,i=>by
   unfold yzg yhl;split
   .rfl
   .exact ybod a b es (i+1)
theorem ybqk{a b:Int}{j:Nat}{v:Value}:∀{es:List MapEntry}{i:Nat},yzg a b es i=some (j,v)->∃pre e d,es=pre++e::d/\j=i+pre.length/\yze e.key a b=true/\v=e.val/\yhl a b pre=none
 |[],_,h=>by cases h
 | e :: es,i,h=>by
   unfold yzg at h;split at h
   .rename_i t
    cases h
    exact⟨[],e,es,rfl,rfl,t,rfl,rfl⟩
   .rename_i q
    obtain⟨pre,g,d,rfl,k,l,n,p⟩:=ybqk h;exact⟨e::pre,g,d,rfl,by rw[k,List.length_cons];omega,l,n,by unfold yhl;rw[if_neg q];exact p⟩
theorem ybxb{elem:TypeId}{b:Nat}(h:ybse P elem=some b):∃z,runPure P (zeroValue elem)=some z/\ofV z=yqt b/\simple z=true/\(b=0\/b=1):=by
 unfold ybse at h;split at h
 .rename_i i d
  have e:runPure P (typeInfo elem)=some i:=by
   unfold typeInfo;show runPure P (match P.info? elem with|some i=>_|none=>_)=_
   rw[d];rfl
  have a:∀{z:Value},i.zero=some z->runPure P (zeroValue elem)=some z:=fun {z} a=>by
   unfold zeroValue;rw[ybl,e,zG,a];rfl
  split at h
  .rename_i q;cases h;exact⟨_,a q,rfl,rfl,.inl rfl⟩
  .rename_i q;cases h;exact⟨_,a q,rfl,rfl,.inr rfl⟩
  .cases h
 .cases h
theorem MapOk.keys{a:Nat}{es:List MapEntry}{g:Nat->List SV}(h:MapOk a es g):ycer es:=h.key
theorem ybpz{a b:Int}{v:Value}:∀{es:List MapEntry},yhl a b es=some v->∃e∈es,e.val=v
 |[],h=>by cases h
 | e :: es,h=>by
   unfold yhl at h;split at h
   .cases h;exact⟨e,zS,rfl⟩
   .obtain⟨d,g,i⟩:=ybpz h;exact⟨d,zF _ g,i⟩
theorem MapOk.simple{b:Nat}{es:List MapEntry}{g:Nat->List SV}(h:MapOk b es g){e:MapEntry}(a:e∈es):Ev.simple e.val=true:=by
 have:=h.kind e a;split at this
 .obtain⟨x,q⟩:=this;rw[q];rfl
 .obtain⟨x,q⟩:=this;rw[q];rfl
theorem yty{v:Value}(h:simple v=true):atomR v=true:=by cases v<;>first|rfl|exact h|cases h
theorem yfh{key elem:TypeId}{l:Nat}(h:yub P key=true)(x:ybse P elem=some l){es:Array MapEntry}{g:Nat->List SV}(j:MapOk l es.toList g){a b:Int}(u:0<=a)(w:0<=b)(k:b<4294967296) :
 ∃v,runPure P (mapGet key elem es (keyV a b) false)=some v/\RV F ω ((g (mkey a b)).headD .bad) v/\atomR v=true:=by
 obtain⟨z,A,B,t,_⟩:=ybxb x;have y:=j.val a b u w k;have d:=ybod a b es.toList 0;unfold mapGet;rw[ybl,ycue h,zG,ybl,ybqj h a b j.keys,zG,y];cases p:yzg a b es.toList 0 with
 | none =>
   rw[p]at d;rw[<-d];simp only[ybl,A,zG,Option.map_none];refine⟨z,rfl,?_,yty t⟩;show RV F ω (yqt l) z;rw[<-B];exact ybys t
 | some q =>
   rw[p]at d;rw[<-d];obtain⟨e,n,i⟩:=ybpz d.symm;have i:e.val=q.2:=i;refine⟨q.2,rfl,?_,yty (i▸j.simple n)⟩;show RV F ω (ofV q.2) q.2;exact ybys (i▸j.simple n)
theorem ycqq(a b:Int):Instr.sameBits 10000 (keyV a b) (keyV a b)=true:=by
 simp[Instr.sameBits]
theorem yccc{pre a:List MapEntry}{e:MapEntry}{f:MapEntry->MapEntry}:(pre++e::a).modify pre.length f=pre++f e::a:=by
 induction pre with
 |nil=>rfl
 |cons x l b=>simp[b]
theorem yfw{a b:Int}:∀{l k:List MapEntry},yhl a b (l++k)=match yhl a b l with|some v=>some v|none=>yhl a b k
 |[],_=>rfl
 | e::l,k=>by
   simp only[List.cons_append,yhl];split
   .rfl
   .exact yfw
theorem ybor{a b x y:Int}(g:0<=a)(i:0<=b)(d:b<4294967296)(j:0<=x)(k:0<=y)(e:y<4294967296)(h:mkey a b=mkey x y):a=x/\b=y:=by
 unfold mkey at h;omega
theorem map_set {key:TypeId}{t:Nat}(h:yub P key=true) {es:Array MapEntry}{cl:Nat}{g:Nat->List SV}(i:MapOk t es.toList g) {a b:Int}(H:0<=a) (I:0<=b) (l:b<4294967296) {v:Value}{w:SV}
 (hk:if t=0 then ∃x,v = .bool x else ∃n,v = .int .i64 n) (O:w=ofV v) :
 ∃E cl',runPure P (mapSet key es cl (keyV a b) v)=some (E,cl')/\MapOk t E.toList (fun c=>if c=mkey a b then[w]else g c):=by
 have K:=ybod a b es.toList 0;unfold mapSet;rw[ybl,ycue h,zG,ybl,ybqj h a b i.keys,zG];have k:yze (keyV a b) a b=true:=by rw[ybco];simp
 have p:∀{x y:Int},¬(a=x/\b=y)->yze (keyV a b) x y=false:=fun {x y} q=>by rw[ybco];simpa using fun e=>(not_and.1 q) e
 cases N:yzg a b es.toList 0 with
 | none =>
   rw[N]at K;refine⟨_,_,rfl,?_⟩;rw[Array.toList_push];refine⟨fun e B=>?_,fun e B=>?_,fun x y z J A=>?_⟩
   .rcases List.mem_append.1 B with q|q
    .exact i.key e q
    .rw[List.mem_singleton.1 q];exact⟨a,b,rfl,H,I,l⟩
   .rcases List.mem_append.1 B with q|q
    .exact i.kind e q
    .rw[List.mem_singleton.1 q];exact hk
   .rw[yfw]
    by_cases q:a=x/\b=y
    .obtain⟨rfl,rfl⟩:=q;rw[if_pos rfl,<-K];show _=[match (match (none:Option Value)with|some v=>some v|none=>yhl a b [_])with|some v=>ofV v|none=>yqt t]
     unfold yhl;rw[if_pos k,O]
    .rw[if_neg (fun e=>q (ybor H I l z J A e.symm)),i.val x y z J A];cases yhl x y es.toList with
     |some u=>rfl
     | none =>
       show _=[match yhl x y [_]with|some v=>ofV v|none=>yqt t]
       unfold yhl;rw[if_neg (by rw[p q];simp)]
       rfl
 | some q =>
   obtain⟨j,u⟩:=q;obtain⟨pre,e,d,z,J,A,U,T⟩:=ybqk N;obtain⟨V,W,D,_⟩:=i.key e (by rw[z];simp)
   have D:e.key=keyV a b:=by
    rw[D,ybco]at A;simp only[zB,decide_eq_true_eq]at A;rw[D,A.1,A.2]
   have L:j=pre.length:=by omega
   have G:(es[j]?).map (·.key)=some (keyV a b):=by
    rw[<-Array.getElem?_toList,z,L];simp[D]
   refine⟨es.modify j (fun e=>{ e with key:=keyV a b,val:=v }),cl,?_,?_⟩
   .simp only[ybl,G,zK];unfold Instr.keyThatStays;rw[if_pos (ycqq a b)];rfl
   .rw[Array.toList_modify,z,L,yccc];rw[z]at i;refine⟨fun C B=>?_,fun C B=>?_,fun x y Q R S=>?_⟩
    .rcases List.mem_append.1 B with q|q
     .exact i.key C (zAP _ q)
     .rcases List.mem_cons.1 q with q|q
      .rw[q];exact⟨a,b,rfl,H,I,l⟩
      .exact i.key C (zAM _ (zF _ q))
    .rcases List.mem_append.1 B with q|q
     .exact i.kind C (zAP _ q)
     .rcases List.mem_cons.1 q with q|q
      .rw[q];exact hk
      .exact i.kind C (zAM _ (zF _ q))
    .have M:∀{x y:Int},yhl x y (pre++e::d)=match yhl x y pre with|some v=>some v|none=>if yze e.key x y=true then some e.val else yhl x y d:=fun {x y}=>yfw
     by_cases q:a=x/\b=y
     .obtain⟨rfl,rfl⟩:=q;rw[if_pos rfl,yfw,T];show _=[match (if yze (keyV a b) a b=true then some v else yhl a b d)with|some v=>ofV v|none=>yqt t]
      rw[if_pos k,O]
     .rw[if_neg (fun e=>q (ybor H I l Q R S e.symm)),i.val x y Q R S,yfw,yfw];cases yhl x y pre with
      |some u=>rfl
      | none =>
        show[match (if yze e.key x y=true then some e.val else yhl x y d)with|some v=>ofV v|none=>yqt t]=[match (if yze (keyV a b) x y=true then some v else yhl x y d)with|some v=>ofV v|none=>yqt t]
        rw[D,p q];rfl
theorem RV.mr_inv{a:Nm}{u:Value}(h:RV F ω (.mr a) u):∃k z,ω a=some (some (k,z))/\u = .map (some k):=by
 cases h with
 |mr h=>exact⟨_,_,h,rfl⟩
theorem Conc.mapAt(u:Conc lo F ω s f m){d:Nm}{k z:Nat}{b:OB}(t:lookO s.o d=some b)(hk:ω d=some (some (k,z)))(v:b.e=CU):z=b.z/\(b.n=0/\b.bx=true)/\∃es cl,m.b.get k=some (.map es cl)/\MapOk b.z es.toList b.g:=by
 rcases u.own d b t with⟨w,T,L,a,i,j,h⟩|⟨a,_⟩|⟨w,es,cl,a,⟨j,h,l⟩,p,q⟩
 .exact absurd v i
 .rw[hk]at a;cases a
 .rw[hk]at a;cases a;exact⟨rfl,⟨h,l⟩,es,cl,p,q⟩
theorem Conc.newMap(j:Conc lo F ω s f m){d:Nat}{b:OB}(S:look s.o d=none)(Q:b.e=CU/\b.n=0/\b.bx=true){es:Array MapEntry}{cl:Nat}(R:MapOk b.z es.toList b.g) :
 Conc lo F (yga ω (d,0) m.next b.z) (s.own (d,0) (some b)) f (m.app (.new (.map es cl))):=by
 have I:=j.dom (d,0) S;have D:=yit (k:=m.next) (z:=b.z) I
 rw[yyn];have l:∀i,(T.set (zC m.next) m.b m.next (some (.map es cl))).get i=if i=m.next then some (.map es cl)else m.b.get i:=fun i=>T.set_at _ _ _ _
 have w:∀{i x},m.b.get i=some x->i<m.next:=fun {i x} h=>j.wf i x h
 refine⟨fun i x C=>?_,j.low,by show lo<=m.next+1;have:=j.nxt;omega,fun i x C=>?_,fun y J K=>?_,fun y H=>?_,?_,?_,fun t v U=>?_⟩
 .have C:(T.set (zC m.next) m.b m.next (some (.map es cl))).get i=some x:=C
  rw[l]at C;show i<m.next+1
  split at C
  .omega
  .have:=w C;omega
 .show(T.set (zC m.next) m.b m.next (some (.map es cl))).get i=some x
  have:=j.sub i x C;rw[l,if_neg (by have:=w this;omega)]
  exact this
 .have B:(if (d,0)=y then some b else lookO s.o y)=some J:=by rw[<-yqj (.inl rfl)];exact K
  clear K
  split at B
  .rename_i q;subst q;have G:=Option.some.inj B;subst G;exact .inr (.inr ⟨m.next,es,cl,ycn,Q,by show(T.set (zC m.next) m.b m.next _).get m.next=_;rw[l,if_pos rfl],R⟩)
  .exact(j.own y J B).mono D fun k z hk=>by show(T.set (zC m.next) m.b m.next _).get k=_;rw[l,if_neg (by have:=(j.apart y k z hk).2.2;omega)]
 .obtain⟨V,W⟩:=ymy H;rw[ybpc (fun e=>V (by rw[e]))];exact j.dom y W
 .intro y N k z L M p A E;unfold yga at p A;split at p<;>split at A
  .rename_i a b;exact absurd (a.trans b.symm) E
  .cases p;have:=(j.apart N L M A).2.2;omega
  .cases A;have:=(j.apart y k z p).2.2;omega
  .exact j.inj y N k z L M p A E
 .intro y k z p;unfold yga at p;split at p
  .cases p
   refine⟨?_,j.nxt,zAU _⟩;cases O:F m.next with
   |none=>rfl
   |some x=>have:=w (j.sub _ _ O);omega
  .obtain⟨a,b,d⟩:=j.apart y k z p;exact⟨a,b,zAS d⟩
 .obtain⟨u,p,A⟩:=j.fr t v U;exact⟨u,p,A.mono (Le.refl _) D⟩
theorem Conc.updMap(h:Conc lo F ω s f m){t:Nm}{k:Nat}{b:OB}(w:∃c,lookO s.o t=some c)(hk:ω t=some (some (k,b.z)))(D:b.e=CU/\b.n=0/\b.bx=true){es:Array MapEntry}{cl:Nat}(E:MapOk b.z es.toList b.g) :
 Conc lo F ω (s.own t (some b)) f (m.app (.upd k (.map es cl))):=by
 rw[ybdw];have a:∀i,(T.set (zC k) m.b k (some (.map es cl))).get i=if i=k then some (.map es cl)else m.b.get i:=fun i=>T.set_at _ _ _ _
 have l:=h.apart t k _ hk;refine⟨fun i x j=>?_,?_,h.nxt,fun i x j=>?_,fun u d B=>?_,fun u A=>?_,h.inj,h.apart,h.fr⟩
 .have j:(T.set (zC k) m.b k (some (.map es cl))).get i=some x:=j;rw[a]at j;show i<m.next
  split at j
  .rename_i q;rw[q];exact l.2.2
  .exact h.wf i x j
 .show lo<=zAG m.low k;have:=h.low;have:=l.2.1;rw[zAN];omega
 .show(T.set (zC k) m.b k (some (.map es cl))).get i=some x;rw[a,if_neg (fun q=>by rw[q,l.1]at j;cases j)]
  exact h.sub i x j
 .have p:(if t=u then some b else lookO s.o u)=some d:=by rw[<-yqj (.inr w)];exact B
  clear B
  split at p
  .rename_i q;subst q;have v:=Option.some.inj p;subst v;exact .inr (.inr ⟨k,es,cl,hk,D,by show(T.set (zC k) m.b k _).get k=_;rw[a,if_pos rfl],E⟩)
  .rename_i q
   exact(h.own u d p).mono (Om.le_refl _) fun C G y=>by show(T.set (zC k) m.b k _).get C=_;rw[a,if_neg (fun e=>h.inj u t C G k _ y hk (Ne.symm q) e)]
 .exact h.dom u (ymy A).2
theorem ycwt(n:Conc lo F ω s f m){t:TypeId}{d g:Nat}(i:o.op = .makeMap t none)(p:ynq s 0 d=true) :
 OpS P lo F ω f m o ⟨c,⟨[],[],[(d,0)],false,false,false,false⟩,.mr (d,0),s.own (d,0) (some ⟨CU,true,g,0,fun _=>[yqt g]⟩)⟩:=by
 have l:=n.dom (d,0) (yfx p);refine⟨⟨.map (some m.next),.new (.map #[] 0),[]⟩,yga ω (d,0) m.next g,by unfold evOp;rw[i],yit l,n.newMap (b:=⟨CU,true,g,0,fun _=>[yqt g]⟩) (yfx p) ⟨rfl,rfl,rfl⟩ ⟨fun e h=>(by cases h),fun e h=>(by cases h),fun a b _ _ _=>rfl⟩,.mr ycn,fun u k z hk=>?_,fun x j=>(by cases j),fun x j=>(by cases j),fun q=>(by cases q),fun _=>⟨(d,0),g,by simp,ycn⟩⟩
 unfold yga at hk;split at hk
 .cases hk;exact .inr (zZ _)
 .exact .inl hk
theorem ybyn{a b:Int}{u:Value}(h:RV F ω (.ag [.i .i64 a,.i .u32 b]) u):u=keyV a b:=by
 obtain⟨L,rfl,k⟩:=h.ag_inv;cases k with
 | cons d e =>
   cases e with
   | cons g j =>
     cases j
     cases d.int_inv
     cases g.int_inv
     rfl
theorem ydhp (h:Conc lo F ω s f m) {t key elem:TypeId}{x k:Operand}(w:o.op = .lookup t x k false) (O:P.underlying t=some (.map key elem)) {D:Nat}(n:yub P key=true) (p:ybse P elem=some D)
 {j:Nm}{a b:Int}{ob:OB}(S:s.get x=some (.mr j)) (hk:s.get k=some (.ag [.i .i64 a,.i .u32 b])) (N:lookO s.o j=some ob) (Q:ob.e=CU) (T:ob.z=D) (l:0<=a/\0<=b/\b<4294967296) :
 OpS P lo F ω f m o ⟨c,⟨[j],[],[],false,false,false,false⟩,(ob.g (mkey a b)).headD .bad,s⟩:=by
 obtain⟨u,G,U⟩:=h.get S;obtain⟨X,H,V⟩:=h.get hk;obtain⟨q,z,B,rfl⟩:=RV.mr_inv U;cases ybyn V
 obtain⟨rfl,_,I,W,J,A⟩:=h.mapAt N B Q;rw[T]at A;obtain⟨v,K,L,M⟩:=yfh (ω:=ω) (F:=F) n p A l.1 l.2.1 l.2.2;refine OpS.pure h (u:=v) (ft:=[q]) ?_ L (fun y C=>by simp at C;subst C;exact .inl ⟨j,_,by simp,B⟩)
 unfold evOp;rw[w];show(Ev.ob (f.get k) fun k=>Ev.ob (P.underlying t) fun d=>Ev.ob (f.get x) (evLookup P m k false d))=_;rw[H];show(Ev.ob (P.underlying t) fun d=>Ev.ob (f.get x) (evLookup P m _ false d))=_;rw[O];show Ev.ob (f.get x) _=_;rw[G];show iteB (atomA (keyV a b)) (Ev.ob (m.b.get q) fun E=>evLookup1 P key elem (keyV a b) false q E) none=_;rw[ybh,if_pos (show atomA (keyV a b)=true from rfl),J]
 show Ev.ob (runPure P (mapGet key elem I (keyV a b) false)) (fun v=>iteB (atomR v) (some ⟨v,.none,[q]⟩:Option R) none)=_;rw[K];show iteB (atomR v) _ none=_;rw[ybh,if_pos M]
theorem ycwn{a:Nat}{v:SV}{u:Value}(h:mval a v=true)(b:RV F ω v u):v=ofV u/\simple u=true/\(if a=0 then ∃x,u = .bool x else ∃n,u = .int .i64 n):=by
 unfold mval at h;split at h
 .have hk:a=0:=by simpa using h
  cases b
  refine⟨rfl,rfl,?_⟩;rw[if_pos hk];exact⟨_,rfl⟩
 .have hk:a=1:=by simpa using h
  cases b
  refine⟨rfl,rfl,?_⟩;rw[if_neg (by omega)];exact⟨_,rfl⟩
 .cases h
theorem ydem (n:Conc lo F ω s f m) {t key elem:TypeId}{x k y:Operand}(E:o.op = .mapUpdate t x k y) (T:P.underlying t=some (.map key elem)) {G:Nat}(D:yub P key=true)
 {l:Nm}{a b:Int}{ob:OB}{v:SV}(W:s.get x=some (.mr l)) (hk:s.get k=some (.ag [.i .i64 a,.i .u32 b])) (j:s.get y=some v) (H:lookO s.o l=some ob) (U:ob.e=CU) (X:ob.z=G) (V:mval G v=true) (C:0<=a/\0<=b/\b<4294967296) :
 OpS P lo F ω f m o ⟨c,⟨[l],[l],[],false,false,false,false⟩,.tp [],s.own l (some ⟨CU,true,G,0,fun c=>if c=mkey a b then[v]else ob.g c⟩)⟩:=by
 obtain⟨u,J,Y⟩:=n.get W;obtain⟨u',K,Z⟩:=n.get hk;obtain⟨w,L,r3⟩:=n.get j;obtain⟨q,z,A,rfl⟩:=RV.mr_inv Y;cases ybyn Z
 obtain⟨rfl,⟨n0,bx⟩,M,cl,N,O⟩:=n.mapAt H A U;obtain⟨v1,v2,v3⟩:=ycwn V r3;subst X;obtain⟨B,cl',Q,S⟩:=map_set (cl:=cl) D O C.1 C.2.1 C.2.2 v3 v1;refine⟨⟨undef,.upd q (.map B cl'),[q]⟩,ω,?_,Om.le_refl _,n.updMap (b:=⟨CU,true,ob.z,0,fun c=>if c=mkey a b then[v]else ob.g c⟩) ⟨_,H⟩ A ⟨rfl,rfl,rfl⟩ S,.tp .nil,fun _ _ _ h=>.inl h,fun y j=>?_,fun y j=>?_,fun _=>rfl,fun q=>(by cases q)⟩
 .unfold evOp;rw[E];show(Ev.ob (f.get k) fun k=>Ev.ob (f.get y) fun v=>Ev.ob (P.underlying t) fun d=>Ev.ob (f.get x) (evMapSet P m k v d))=_;rw[K];show(Ev.ob (f.get y) fun v=>Ev.ob (P.underlying t) fun d=>Ev.ob (f.get x) (evMapSet P m _ v d))=_;rw[L];show(Ev.ob (P.underlying t) fun d=>Ev.ob (f.get x) (evMapSet P m _ w d))=_;rw[T];show Ev.ob (f.get x) _=_;rw[J];show iteB (atomA (keyV a b)&&simple w) (Ev.ob (m.b.get q) fun I=>evMapSet1 P key (keyV a b) w q I) none=_
  rw[ybh,if_pos (by rw[v2];rfl),N]
  show Ev.ob (runPure P (mapSet key M cl (keyV a b) w)) (fun p=>(some ⟨undef,.upd q (.map p.1 p.2),[q]⟩:Option R))=_;rw[Q];rfl
 .simp at j;subst j;exact .inl ⟨l,_,by simp,A⟩
 .simp[Eff.mods]at j;subst j;exact⟨l,_,by simp,A⟩
end
end Sh
end
section
namespace Sh
open Go Ev
def placeOf(P:Program):TypeDesc->Option (Nat->Option (Nat×Nat))
 | .struct a=>match placesA P a.toList with
   |some b=>some fun k=>b[k]?
   |none=>none
 | .array _ e=>match P.info? e with
   |some j=>some fun k=>some (k*j.size,j.size)
   |none=>none
 |_=>none
def partsOf(place:Nat->Option (Nat×Nat))(a:List (Nat×Operand)):Option (List (Nat×Nat×Operand)):=a.mapM fun p=>(place p.1).map fun q=>(q.1,q.2,p.2)
noncomputable def yxy(P:Program)(t:TypeId)(z:List Value):TypeDesc->SOp
 | .array n e=>if n<=2 then .alloc t 1 (z.map ofV)else match P.info? e with
   | some j=>(match zeroA j with
     |some a=>if eqL1 z (repl n a)then .alloc t n (a.map ofV)else .alloc t 1 (z.map ofV)
     |none=>.alloc t 1 (z.map ofV))
   |none=>.alloc t 1 (z.map ofV)
 |_=>.alloc t 1 (z.map ofV)
noncomputable def ywk(z:List Value)(b:List (Nat×Operand))(a:Nat->Option (Nat×Nat)):Option SOp:=match partsOf a b with
 |some c=>some (.build (z.map ofV) c)
 |none=>none
noncomputable def yld(n e:Nat)(a:List (Nat×Operand))(i:TypeInfo)(z:List Value):Option SOp :=
 if n*i.size<=10000/\n<=10000 then(match partsOf (fun k=>some (k*i.size,i.size)) a with
  |some b=>some (.bslice e i.size n ((repl n z).map ofV) b)
  |none=>none)else none
noncomputable def callOf(P:Program):Callee->List Operand->List TypeId->Option SOp
 |.value f,a,_=>some (.call f a)
 | .builtin .len,[x],[t]=>match P.underlying t with
   |some (.slice _)=>some (.len x)
   |_=>none
 | .builtin .append,[x,y],[t,u]=>if t=u then(match P.underlying t with
   | some (.slice e)=>(match P.info? e with
     |some i=>if (zeroA i).isSome/\i.bytes<=100000000/\i.size≠0 then some (.app e i.size i.bytes x y)else none
     |none=>none)
   |_=>none)else none
 |.builtin .max,[x,y],_=>some (.mm true x y)
 |.builtin .min,[x,y],_=>some (.mm false x y)
 |_,_,_=>none
def ycyo:BinOp->Operand->Operand->Bool
 |.sub,.tmp k,.const (.int .i64 (.ofNat n))=>zD n 1&&zD k 11
 |.sub,.tmp k,.tmp j=>zD k 38&&zD j 39
 |.add,.tmp k,.tmp j=>zD k 50&&zD j 51
 |_,_,_=>false
theorem ycro{a:BinOp}{x y:Operand}(h:ycyo a x y=true):a = .sub\/a = .add:=by
 unfold ycyo at h;split at h
 .exact .inl rfl
 .exact .inl rfl
 .exact .inr rfl
 .cases h
def ycic(a:BinOp)(x y:Operand):SOp:=match a with
 |.add=>.wadd x y
 |_=>.wsub x y
noncomputable def ybul(P:Program)(t:TypeId)(ne:Bool)(n:Nat)(e:TypeId)(x y:Operand):SOp :=
 match P.info? e with
 | some i=>if i.size=1/\P.eqGuardType P.depth t=false then(match fsK P 0 (arrF e n)with
   |some a=>.seq ne a x y
   |none=>.no)else .no
 |none=>.no
noncomputable def ybsu(P:Program)(op:BinOp)(t:TypeId)(x y:Operand):SOp:=if ycyo op x y=true then ycic op x y else match op,P.underlying t with
 |.eql,some .bool=>.beq false x y
 |.neq,some .bool=>.beq true x y
 | .eql,some (.struct a)=>(match fsK P 0 a.toList with
   |some b=>if P.eqGuardType P.depth t=false/\P.stoodInHeld t=false then .seq false b x y else .no
   |none=>.no)
 | .neq,some (.struct a)=>(match fsK P 0 a.toList with
   |some b=>if P.eqGuardType P.depth t=false/\P.stoodInHeld t=false then .seq true b x y else .no
   |none=>.no)
 |.eql,some (.array n e)=>ybul P t false n e x y
 |.neq,some (.array n e)=>ybul P t true n e x y
 |op,_=>.bin op x y
def mapK(P:Program)(t:TypeId):Option Nat:=(P.underlying t).bind fun
 |.map b a=>if yub P b=true then ybse P a else none
 |_=>none
noncomputable def res(P:Program):Op->Option SOp
 |.move x=>some (.mv x)
 |.assign x=>some (.mv x)
 |.pick c a b=>some (.pick c a b)
 |.alloc t=>(P.info? t).bind fun i=>(zeroA i).bind fun z=>(P.underlying t).bind fun d=>some (yxy P t z d)
 |.box t x=>some (.box t x)
 |.build t parts=>(P.info? t).bind fun i=>(zeroA i).bind fun z=>(P.underlying t).bind fun d=>(placeOf P d).bind fun u=>ywk z parts.toList u
 | .buildSlice t n parts=>(P.underlying t).bind fun
   |.slice e=>(P.info? e).bind fun i=>(zeroA i).bind fun z=>yld n e parts.toList i z
   |_=>none
 |.load t x=>(P.underlying t).bind fun d=>(P.info? t).bind fun i=>some (.load (isAggD d) i.size x)
 |.store t x y=>(P.info? t).bind fun i=>some (.store i.size x y)
 |.nilCheck x=>some (.nilck x)
 | .fieldAddr t x k=>(P.underlying t).bind fun
   |.struct p=>p[k]?.bind fun h=>(P.info? h.type).bind fun i=>if i.size=0 then none else some (.faddr h.offset i.size x)
   |_=>none
 | .field t x k=>(P.underlying t).bind fun
   |.struct p=>p[k]?.bind fun h=>(P.info? h.type).bind fun i=>(P.underlying h.type).bind fun d=>some (.field (isAggD d) h.offset i.size x)
   |_=>none
 | .indexAddr t x y=>(P.underlying t).bind fun
   |.slice e=>(P.info? e).bind fun i=>some (.idx i.size x y)
   |.array n e=>(P.info? e).bind fun i=>some (.idxA n i.size x y)
   |_=>none
 | .index t (.const (.string b)) k=>(P.underlying t).bind fun
   |.string=>some (.stri (b.data.toList.map UInt8.toNat) k)
   |_=>none
 |.extract x k=>some (.extract x k)
 |.makeFunc (.func g) a b=>some (.mkfn g a.toList b.toList)
 | .makeSlice t x y=>(P.underlying t).bind fun
   |.slice e=>(P.info? e).bind fun i=>(zeroA i).bind fun z=>some (.mk e i.size i.bytes (z.map ofV) x y)
   |_=>none
 | .slice t x lo r none=>(P.underlying t).bind fun
   |.slice e=>(P.info? e).bind fun i=>some (.cut i.size x lo r)
   |.array n e=>(P.info? e).bind fun i=>some (.cutA n i.size x lo r)
   |_=>none
 |.binOp q t x y _=>some (ybsu P q t x y)
 |.unOp q _ x=>some (.un q x)
 | .convert src l x=>(P.underlying src).bind fun _=>(P.underlying l).bind fun
   |.int k=>some (.conv k x)
   |_=>none
 |.makeMap t none=>(mapK P t).bind fun j=>some (.mkmap j)
 |.lookup t x k false=>(mapK P t).bind fun j=>some (.mget j x k)
 |.mapUpdate t x k y=>(mapK P t).bind fun j=>some (.mset j x k y)
 |.call c=>callOf P c.callee c.args.toList c.argTypes.toList
 |_=>none
section
variable {P:Program}{lo:Nat}{F:AM}{ω:Om}{s:SS}{f:Fr}{m:Mem}{o:Oper}
theorem bind_some{b c:Type}{x:Option b}{k:b->Option c}{r:c}(h:x.bind k=some r):∃a,x=some a/\k a=some r:=by
 cases x with
 |none=>cases h
 |some a=>exact⟨a,rfl,h⟩
theorem ybov{t:TypeId}{b:Nat}(h:mapK P t=some b):∃key elem,P.underlying t=some (.map key elem)/\yub P key=true/\ybse P elem=some b:=by
 obtain⟨d,c,a⟩:=bind_some h;split at a
 .split at a
  .rename_i hk;exact⟨_,_,c,hk,a⟩
  .cases a
 .cases a
theorem ycvn(h:Conc lo F ω s f m){t:TypeId}{i:TypeInfo}{z:List Value}{d:TypeDesc}(b:o.op = .alloc t)(j:P.info? t=some i)(e:zeroA i=some z){r:XR}(a:xOp s o.dst (yxy P t z d)=some r):OpS P lo F ω f m o r:=by
 have one:∀{r:XR},xOp s o.dst (.alloc t 1 (z.map ofV))=some r->OpS P lo F ω f m o r:=by
  intro r a;simp only[xOp]at a;split at a
  .rename_i p l
   split at a
   .rename_i c
    cases a
    exact yceb h b j e (n:=1) (zj:=z) (by simp[yjn,yxl]) (yfz e).1 c
   .cases a
  .cases a
 unfold yxy at a;split at a
 .split at a
  .exact one a
  split at a
  .split at a
   .rename_i g
    split at a
    .rename_i k
     simp only[xOp]at a;split at a
     .split at a
      .rename_i c
       cases a
       exact yceb h b j e (yso k) (yfz g).1 c
      .cases a
     .cases a
    .exact one a
   .exact one a
  .exact one a
 .exact one a
theorem ydav (p:Conc lo F ω s f m) {t:TypeId}{parts:Array (Nat×Operand)}{i:TypeInfo}{z:List Value}{d:TypeDesc}{k:Nat->Option (Nat×Nat)}{b:SOp}(h:o.op = .build t parts) (u:P.info? t=some i) (x:zeroA i=some z) (q:P.underlying t=some d) (a:placeOf P d=some k)
 (c:ywk z parts.toList k=some b) {r:XR}(e:xOp s o.dst b=some r):OpS P lo F ω f m o r:=by
 unfold ywk at c;split at c
 .rename_i y w
  cases c
  simp only[xOp]at e;split at e
  .rename_i l v
   cases e
   refine ycwv p h u x q (place:=k) ?_ w v;unfold placeOf at a;split at a
   .split at a
    .rename_i n g;cases a;exact .inl ⟨_,n,rfl,g,rfl⟩
    .cases a
   .split at a
    .rename_i j g;cases a;exact .inr ⟨_,_,j,rfl,g,rfl⟩
    .cases a
   .cases a
  .cases e
 .cases c
theorem yclk (j:Conc lo F ω s f m) {t e n:Nat}{parts:Array (Nat×Operand)}{i:TypeInfo}{z:List Value}{d:SOp}(g:o.op = .buildSlice t n parts) (k:P.underlying t=some (.slice e)) (p:P.info? e=some i) (w:zeroA i=some z)
 (a:yld n e parts.toList i z=some d) {r:XR}(b:xOp s o.dst d=some r):OpS P lo F ω f m o r:=by
 unfold yld at a;split at a
 .rename_i c
  split at a
  .rename_i x v
   cases a
   simp only[xOp]at b;split at b
   .rename_i y l h q
    split at b
    .rename_i u
     cases b
     exact ycsy j g k p w c.1 c.2 v q u
    .cases b
   .cases b
  .cases a
 .cases a
theorem ydma (l:Conc lo F ω s f m) {t e:Nat}{x y:Operand}{i:TypeInfo}(d:o.op = .call { callee:=.builtin .append,args:=#[x,y],argTypes:=#[t,t] }) (u:P.underlying t=some (.slice e)) (z:P.info? e=some i) (j:(zeroA i).isSome/\i.bytes<=100000000/\i.size≠0)
 {r:XR}(a:xOp s o.dst (.app e i.size i.bytes x y)=some r) (D:r.c):OpS P lo F ω f m o r:=by
 obtain⟨J,g⟩:=Option.isSome_iff_exists.1 j.1;simp only[xOp]at a;split at a
 .rename_i K v w E B C
  split at a
  .rename_i q A
   split at a
   .rename_i G
    split at a
    .rename_i k
     split at a
     .cases a
      exact ycuk l d u z g j.2.1 B C A k (.inl rfl)
     .cases a
      obtain⟨c1,c2,c3⟩:=D;exact ycuk l d u z g j.2.1 B C A k (.inr ⟨_,_,_,rfl,c2,c3⟩)
     .cases a
    split at a
    .cases a
     obtain⟨c1,c2,c3,c4⟩:=D;exact ydcz l d u z g j.2.1 j.2.2 B C A c1 G c2 (.inl ⟨rfl,c3,c4,rfl⟩)
    .rename_i I p n
     split at a
     .rename_i b H
      split at a
      .rename_i h
       cases a
       obtain⟨c1,c2,c3,c4,c5⟩:=D;exact ydcz l d u z g j.2.1 j.2.2 B C A c1 G c3 (.inr ⟨I,p,n,b,rfl,H,h.1,h.2.1,h.2.2,c2,c4,c5,rfl⟩)
      .cases a
     .cases a
    .cases a
   .cases a
  .cases a
 .cases a
theorem arr2{x y:Operand}{a:Array Operand}(h:a.toList=[x,y]):a = #[x,y]:=by apply Array.toList_inj.1;simpa using h
theorem ydfm(j:Conc lo F ω s f m){cl:Callee}{args:Array Operand}{e:Array TypeId}{l:SOp}(d:o.op = .call { callee:=cl,args:=args,argTypes:=e })(b:callOf P cl args.toList e.toList=some l){r:XR}(a:xOp s o.dst l=some r)(B:r.c):OpS P lo F ω f m o r:=by
 unfold callOf at b;split at b
 .cases b;simp only[xOp]at a;cases a
 .rename_i x t i w
  have g:args = #[x]:=by apply Array.toList_inj.1;simpa using i
  have p:e = #[t]:=by apply Array.toList_inj.1;simpa using w
  subst g p;split at b
  .rename_i k
   cases b
   simp only[xOp]at a;split at a
   .rename_i h;cases a;exact ydae j d k h (.inl ⟨_,_,rfl⟩)
   .rename_i h;cases a;exact ydae j d k h (.inr (.inl ⟨_,_,_,rfl⟩))
   .rename_i h;cases a;exact ydae j d k h (n:=0) (.inr (.inr ⟨rfl,rfl⟩))
   .cases a
  .cases b
 .rename_i x y t u i w
  have g:=arr2 i;have p:e = #[t,u]:=by apply Array.toList_inj.1;simpa using w
  subst g p;split at b
  .rename_i z
   subst z;split at b
   .rename_i k
    split at b
    .rename_i A
     split at b
     .rename_i C
      cases b
      exact ydma j d k A C a B
     .cases b
    .cases b
   .cases b
  .cases b
 .rename_i x y i
  have g:=arr2 i;subst g;cases b
  simp only[xOp]at a;split at a
  .rename_i q v
   split at a
   .rename_i hk;subst hk;cases a
    exact s_mm j (mx:=true) d q v
   .cases a
  .cases a
 .rename_i x y i
  have g:=arr2 i;subst g;cases b
  simp only[xOp]at a;split at a
  .rename_i q v
   split at a
   .rename_i hk;subst hk;cases a
    exact s_mm j (mx:=false) d q v
   .cases a
  .cases a
 .cases b
theorem ywq(p:Conc lo F ω s f m){D:SOp}(a:res P o.op=some D){r:XR}(e:xOp s o.dst D=some r)(u:r.c):OpS P lo F ω f m o r:=by
 unfold res at a;split at a
 .rename_i g;cases a;simp only[xOp]at e;split at e
  .rename_i h;cases e;exact s_mv p (.inl g) h
  .cases e
 .rename_i g;cases a;simp only[xOp]at e;split at e
  .rename_i h;cases e;exact s_mv p (.inr g) h
  .cases e
 .rename_i g;cases a;simp only[xOp]at e;split at e
  .rename_i h
   split at e
   .rename_i j;cases e;exact ydit p g h j
   .cases e
  .cases e
 .rename_i g
  obtain⟨i,l,a⟩:=bind_some a;obtain⟨z,j,a⟩:=bind_some a;obtain⟨d,q,a⟩:=bind_some a;cases a
  exact ycvn p g l j e
 .rename_i g;cases a;simp only[xOp]at e;split at e
  .rename_i l j
   split at e
   .rename_i q;cases e;exact ydmr p g j q.1 q.2
   .cases e
  .cases e
 .rename_i g
  obtain⟨i,l,a⟩:=bind_some a;obtain⟨z,j,a⟩:=bind_some a;obtain⟨d,q,a⟩:=bind_some a;obtain⟨pl,B,a⟩:=bind_some a;exact ydav p g l j q B a e
 .rename_i g
  obtain⟨d,l,a⟩:=bind_some a;split at a
  .obtain⟨i,j,a⟩:=bind_some a;obtain⟨z,q,a⟩:=bind_some a;exact yclk p g l j q a e
  .cases a
 .rename_i g
  obtain⟨d,l,a⟩:=bind_some a;obtain⟨i,j,a⟩:=bind_some a;cases a;simp only[xOp]at e;split at e
  .rename_i h;exact ycto p g l j h e u
  .cases e
 .rename_i g
  obtain⟨i,j,a⟩:=bind_some a;cases a;simp only[xOp]at e;split at e
  .rename_i h v;exact ydaa p g j h v e u
  .cases e
 .rename_i g;cases a;simp only[xOp]at e;split at e
  .rename_i h;cases e;exact ybyr p g h (.inl ⟨_,rfl⟩)
  .rename_i h;cases e;exact ybyr p g h (.inr ⟨_,_,_,rfl⟩)
  .cases e
 .rename_i g
  obtain⟨d,l,a⟩:=bind_some a;split at a
  .obtain⟨fd,j,a⟩:=bind_some a;obtain⟨i,q,a⟩:=bind_some a;split at a
   .cases a
   .rename_i V
    cases a;simp only[xOp]at e;split at e
    .rename_i h
     split at e
     .rename_i Q;cases e;exact ychn p g l j q V h (.inl ⟨_,rfl,Q,rfl⟩)
     .cases e
    .rename_i h;cases e;exact ychn p g l j q V h (.inr ⟨_,_,_,rfl,rfl⟩)
    .cases e
  .cases a
 .rename_i g
  obtain⟨d,l,a⟩:=bind_some a;split at a
  .obtain⟨fd,j,a⟩:=bind_some a;obtain⟨i,q,a⟩:=bind_some a;obtain⟨Y,B,a⟩:=bind_some a;cases a;simp only[xOp]at e;split at e
   .rename_i h
    split at e
    .rename_i Q;cases e;exact ycvp p g l j q B h Q
    .cases e
   .cases e
  .cases a
 .rename_i g
  obtain⟨d,l,a⟩:=bind_some a;split at a
  .obtain⟨i,j,a⟩:=bind_some a;cases a;simp only[xOp]at e;split at e
   .rename_i h v;exact ydmp p g l j h v e u
   .cases e
  .obtain⟨i,j,a⟩:=bind_some a;cases a;simp only[xOp]at e;split at e
   .rename_i h v
    split at e
    .rename_i b J
     split at e
     .rename_i N;cases e;exact ycfx p g l j h v u (.inl ⟨_,b,_,_,rfl,J,N,rfl⟩)
     .cases e;exact ycfx p g l j h v u (.inr (.inl ⟨_,_,_,rfl,rfl⟩))
    .cases e
   .rename_i h v;cases e;exact ycfx p g l j h v ⟨u.1,u.2.1⟩ (.inr (.inr ⟨_,rfl,u.2.2,rfl⟩))
   .cases e
  .cases a
 .rename_i g
  obtain⟨d,l,a⟩:=bind_some a;split at a
  .cases a;simp only[xOp]at e;split at e
   .rename_i h;cases e;exact ydey p g l h u
   .cases e
  .cases a
 .rename_i g;cases a;simp only[xOp]at e;split at e
  .rename_i h
   split at e
   .rename_i j;cases e;exact ycio p g h j
   .cases e
  .cases e
 .rename_i g;cases a;simp only[xOp]at e;split at e
  .rename_i h v;cases e;exact ydgs p g h v
  .cases e
 .rename_i g
  obtain⟨d,l,a⟩:=bind_some a;split at a
  .obtain⟨i,j,a⟩:=bind_some a;obtain⟨z,q,a⟩:=bind_some a;cases a;simp only[xOp]at e;split at e
   .rename_i β k n k' n' hd h v
    split at e
    .rename_i R;cases e
     obtain⟨rfl,c1,c2,c3⟩:=u;exact s_mk p g l j q h v c1 c2 c3 R
    .cases e
   .cases e
  .cases a
 .rename_i g
  obtain⟨d,l,a⟩:=bind_some a;split at a
  .obtain⟨i,j,a⟩:=bind_some a;cases a;simp only[xOp]at e;split at e
   .rename_i h
    split at e
    .rename_i q B
     split at e
     .rename_i C;subst C;cases e;exact ydjr p g l j h (.inl ⟨_,_,rfl,q,B,u,rfl⟩)
     .cases e
    .cases e
   .rename_i h
    split at e
    .rename_i q B M
     split at e
     .rename_i C;cases e;exact ydjr p g l j h (.inr ⟨_,_,_,_,_,rfl,M,C.1,C.2,q,B,u,rfl⟩)
     .cases e
    .cases e
   .cases e
  .obtain⟨i,j,a⟩:=bind_some a;cases a;simp only[xOp]at e;split at e
   .rename_i h
    split at e
    .rename_i q B M
     split at e
     .rename_i C;cases e;exact ydcg p g l j h M C.2.1 C.2.2.1 (by have:=C.1;have:=C.2.2.2;omega) q B u
     .cases e
    .cases e
   .cases e
  .cases a
 .rename_i op t x y yt g
  replace a:=Option.some.inj a
  have plain:D = .bin op x y->OpS P lo F ω f m o r:=by
   rintro rfl;simp only[xOp]at e;split at e
   .rename_i h v
    unfold ybrj at e;split at e
    .rename_i j;cases e;exact ydla p g h v j u
    .cases e
   .cases e
  unfold ybsu at a;split at a
  .rename_i hw
   rcases ycro hw with rfl|rfl
   .subst a;simp only[ycic,xOp]at e;split at e
    .rename_i l j
     split at e
     .rename_i hk;subst hk;cases e;exact ydjv p g l j
     .cases e
    .cases e
   .subst a;simp only[ycic,xOp]at e;split at e
    .rename_i l j
     split at e
     .rename_i hk;subst hk;cases e;exact ydja p g l j
     .cases e
    .cases e
  rename_i S
  clear S
  split at a
  .rename_i A
   subst a;simp only[xOp]at e;split at e
   .rename_i l j;cases e;exact ydhi p (ne:=false) g A l j
   .cases e
  .rename_i A
   subst a;simp only[xOp]at e;split at e
   .rename_i l j;cases e;exact ydhi p (ne:=true) g A l j
   .cases e
  .rename_i A
   split at a
   .rename_i hk
    split at a
    .rename_i w
     subst a;simp only[xOp]at e;split at e
     .rename_i l j
      split at e
      .rename_i q;cases e;exact ycmr p (ne:=false) g (fun E G=>yhk 9999 _ E G A w.2) hk w.1 l j q
      .cases e
     .cases e
    .subst a;cases e
   .subst a;cases e
  .rename_i A
   split at a
   .rename_i hk
    split at a
    .rename_i w
     subst a;simp only[xOp]at e;split at e
     .rename_i l j
      split at e
      .rename_i q;cases e;exact ycmr p (ne:=true) g (fun E G=>yhk 9999 _ E G A w.2) hk w.1 l j q
      .cases e
     .cases e
    .subst a;cases e
   .subst a;cases e
  .rename_i A
   unfold ybul at a;split at a
   .rename_i O
    split at a
    .rename_i w
     split at a
     .rename_i hk
      subst a;simp only[xOp]at e;split at e
      .rename_i l j
       split at e
       .rename_i q;cases e;exact ycmr p (ne:=false) g (fun E G=>ypv 9999 _ E G A O w.1) hk w.2 l j q
       .cases e
      .cases e
     .subst a;cases e
    .subst a;cases e
   .subst a;cases e
  .rename_i A
   unfold ybul at a;split at a
   .rename_i O
    split at a
    .rename_i w
     split at a
     .rename_i hk
      subst a;simp only[xOp]at e;split at e
      .rename_i l j
       split at e
       .rename_i q;cases e;exact ycmr p (ne:=true) g (fun E G=>ypv 9999 _ E G A O w.1) hk w.2 l j q
       .cases e
      .cases e
     .subst a;cases e
    .subst a;cases e
   .subst a;cases e
  .exact plain a.symm
 .rename_i g;cases a;simp only[xOp]at e;split at e
  .rename_i h
   unfold ybrj at e;split at e
   .rename_i j;cases e;exact s_un p g h j u
   .cases e
  .cases e
 .rename_i g
  obtain⟨d,l,a⟩:=bind_some a;obtain⟨Y,j,a⟩:=bind_some a;split at a
  .cases a;simp only[xOp]at e;split at e
   .rename_i h;cases e;exact ydft p g l j h
   .cases e
  .cases a
 .rename_i g
  obtain⟨W,hk,a⟩:=bind_some a;cases a;simp only[xOp]at e;split at e
  .rename_i β hd
   split at e
   .rename_i R;cases e;exact ycwt p g R
   .cases e
  .cases e
 .rename_i g
  obtain⟨W,hk,a⟩:=bind_some a;obtain⟨T,I,l,j,q⟩:=ybov hk;cases a;simp only[xOp]at e;split at e
  .rename_i K L
   split at e
   .rename_i ob J
    split at e
    .rename_i H;cases e;exact ydhp p g l j q K L J H.1 H.2 u
    .cases e
   .cases e
  .cases e
 .rename_i g
  obtain⟨W,hk,a⟩:=bind_some a;obtain⟨T,I,l,j,q⟩:=ybov hk;cases a;simp only[xOp]at e;split at e
  .rename_i K L Z
   split at e
   .rename_i ob J
    split at e
    .rename_i H;cases e;exact ydem p g l j K L Z J H.1 H.2.1 H.2.2 u
    .cases e
   .cases e
  .cases e
 .rename_i c g
  obtain⟨cl,U,X⟩:=c;exact ydfm p g a e u
 .cases a
end
end Sh
end
section
namespace Sh
open Go Ev
noncomputable def frsh(n:Nat)(a:Mem)(G:AM):AM:=fun i=>if n<=i then a.b.get i else G i
def Ct(P:Program)(g:FuncId)(args:List SV)(Q:SV->Prop):Prop :=
 ∀ (G:AM) (m:Mem) (c:List Value),Wf m->Le G m.b.get->RVL G om0 args c ->
   ∃v a r,yca P (.call g c m) (.call v a)/\m.next<=a.low/\Le m.b.get a.b.get/\Q r/\RV (frsh m.next a G) om0 r v
theorem Ct.mono{P:Program}{g:FuncId}{args:List SV}{Q R:SV->Prop}(h:Ct P g args Q)(l:∀r,Q r->R r):Ct P g args R:=fun G m p i j k=>by
 obtain⟨v,n,r,a,b,c,d,e⟩:=h G m p i j k;exact⟨v,n,r,a,b,c,l r d,e⟩
section
variable {P:Program}{lo:Nat}{F G:AM}{ω ψ:Om}{s:SS}{f:Fr}{m:Mem}{o:Oper}
theorem yfr{p:SV->Prop}:∀{l:List SV},allP p l->∀x∈l,p x
 | _::_,h,x,a=>by
   rcases List.mem_cons.1 a with q|q
   .rw[q];exact h.1
   .exact yfr h.2 x q
theorem RVL.of_get:∀{l:List SV}{L:List Value},RVL F ω l L->(∀v u,v∈l->RV F ω v u->RV G ψ v u)->RVL G ψ l L
 |_,_,.nil,_=>.nil
 |_,_,.cons h a,k=>.cons (k _ _ zS h) (a.of_get fun v u b=>k v u (zF _ b))
theorem RVL.yfh{k:SV->SV}:∀{l:List SV}{L:List Value},RVL F ω l L->(∀v u,v∈l->RV F ω v u->RV G ψ (k v) u)->RVL G ψ (l.map k) L
 |_,_,.nil,_=>.nil
 |_,_,.cons h a,q=>.cons (q _ _ zS h) (a.yfh fun v u b=>q v u (zF _ b))
theorem yyi:∀{n:Nat}{v:SV}{u:Value},scalar n v=true->RV F ω v u->RV G ψ v u
 |0,_,_,h,_=>by cases h
 | n+1,v,u,h,g=>by
   cases g with
   |i=>exact .i
   |b=>exact .b
   |a e=>exact .a e
   |ag c=>exact .ag (c.of_get fun v u d=>yyi (List.all_eq_true.1 h v d))
   |tp c=>exact .tp (c.of_get fun v u d=>yyi (List.all_eq_true.1 h v d))
   |_=>cases h
theorem yep:∀{n:Nat}{v:SV}{u:Value},owned n v=false->RV F ω v u->RV F ψ v u
 |0,_,_,h,_=>by cases h
 | n + 1,v,u,h,A=>by
   have c:∀{l:List SV},l.any (owned n)=false->∀v∈l,owned n v=false:=fun {l} h v d=>by
    cases z:owned n v with
    |false=>rfl
    |true=>rw[List.any_eq_true.2 ⟨v,d,z⟩]at h;cases h
   cases A with
   |i=>exact .i
   |b=>exact .b
   |a q=>exact .a q
   |sl0 q=>exact .sl0 q
   |sl e g j k p t w=>exact .sl e g j k p t w
   |rf e g j k p=>exact .rf e g j k p
   |ex e g j=>exact .ex e g j
   |ag r=>exact .ag (r.of_get fun v u d=>yep (c h v d))
   |tp r=>exact .tp (r.of_get fun v u d=>yep (c h v d))
   | fn x y =>
     have h:(_||_)=false:=h;rw[Bool.or_eq_false_iff]at h;exact .fn (x.of_get fun v u d=>yep (c h.1 v d)) (y.of_get fun v u d=>yep (c h.2 v d))
   |_=>cases h
theorem ybzo{n:Nat}{v:SV}{o:Own}(d:one1 v=true)(a:vok o n v):one1 (view o n v)=true:=by
 cases n with
 |zero=>cases a
 | succ n =>
   cases v with
   | pt b i j =>
     simp only[view];simp only[vok]at a;split at a
     .rfl
     .cases a
   | os b p k c =>
     simp only[view];simp only[vok]at a;split at a
     .rfl
     .cases a
   |mr b=>cases a
   |_=>first|rfl|exact d
theorem ykv{n:Nat}{o:Own}:∀{l:List SV},l.all one1=true->allP (vok o n) l->(l.map (view o n)).all one1=true
 |[],_,_=>rfl
 | x::l,h,a=>by
   simp only[zL,zB]at h;simp only[zBC,zL,zB];exact⟨ybzo h.1 a.1,ykv h.2 a.2⟩
theorem yky(r:Conc lo F ω s f m)(g:Le F G)(l:∀C k z,ω C=some (some (k,z))->∀b,m.b.get k=some b->G k=some b):∀{n:Nat}{v:SV}{u:Value},RV F ω v u->vok s.o n v->RV G om0 (view s.o n v) u
 |0,_,_,_,h=>by cases h
 | n + 1,v,u,d,c=>by
   cases d with
   |i=>exact .i
   |b=>exact .b
   |a h=>exact .a h
   |sl0 O=>exact .sl0 O
   |sl x y A D E M N=>exact(RV.sl x y A D E M N:RV F om0 _ _).mono g (Om.le_refl _)
   |rf x y A D E=>exact(RV.rf x y A D E:RV F om0 _ _).mono g (Om.le_refl _)
   |ex x y A=>exact(RV.ex x y A:RV F om0 _ _).mono g (Om.le_refl _)
   |ag I=>exact .ag (I.yfh fun v u e d=>yky r g l d (yfr c v e))
   |tp I=>exact .tp (I.yfh fun v u e d=>yky r g l d (yfr c v e))
   |fn t B=>exact .fn (t.yfh fun v u e d=>yky r g l d (yfr c.1 v e)) (B.yfh fun v u e d=>yky r g l d (yfr c.2 v e))
   | pt hk =>
     rename_i C i j k z
     simp only[vok]at c;simp only[view];split at c
     .rename_i b B
      obtain⟨⟨v1,J⟩,K⟩:=c;obtain⟨rfl,T,L,H,w⟩:=r.ownAt B hk (.inl (by omega))
      obtain⟨l1,W,X,Y⟩:=w i v1;have R:=ylg (z:=b.z) v1;refine .rf (L:=(L i).drop j) (l _ _ _ hk _ H) (by simp;omega) (fun q V=>?_) ((W.drop j).yfh fun v u e d=>yky r g l d (yfr K v e)) (ykv (ykp X j) K)
      simp at V;rw[zU,Y _ (by omega)]
      simp
     .cases c
   | os hk Q =>
     rename_i C p k Z cp q z
     simp only[vok]at c;simp only[view];split at c
     .rename_i b B
      obtain⟨v1,J⟩:=c;rcases zAC k with rfl|U
      .exact .sl0 (.inr ⟨_,_,_,rfl⟩)
      obtain⟨rfl,T,L,H,w⟩:=r.ownAt B hk (.inl (by omega))
      refine .sl (L:=fun a=>L (p+a)) (l _ _ _ hk _ H) (by cases b.bx<;>simp) ?_ (fun a t=>(w (p+a) (by omega)).1) (fun a t j S=>?_) (fun a t=>?_) (fun a t=>ykv (w (p+a) (by omega)).2.2.1 (J a t))
      .rw[<-zI];exact zM _ v1
      .rw[<-zI];exact(w (p+a) (by omega)).2.2.2 j S
      .exact(w (p+a) (by omega)).2.1.yfh fun v u e d=>yky r g l d (yfr (J a t) v e)
     .cases c
   | os0 hk =>
     rename_i C
     simp only[vok]at c;simp only[view];split at c
     .exact .sl0 (.inl rfl)
     .cases c
   |mr hk=>cases c
theorem Conc.only(d:Conc lo F ω s f m):∃ft:List Nat,(∀x∈ft,x<m.next/\((∃b,F x=some b)\/∃a z,ω a=some (some (x,z))))/\Le F (m.only ft).b.get/\∀a k z,ω a=some (some (k,z))->∀b,m.b.get k=some b->(m.only ft).b.get k=some b:=by
 classical
 refine⟨(zBI m.next).filter fun x=>decide ((∃b,F x=some b)\/∃a z,ω a=some (some (x,z))),fun x e=>?_,fun i b c=>?_,fun a k z hk b c=>?_⟩
 .rw[zAZ]at e;exact⟨List.mem_range.1 e.1,of_decide_eq_true e.2⟩
 .have:=d.sub i b c;exact ydg.2 ⟨List.mem_filter.2 ⟨List.mem_range.2 (d.wf i b this),decide_eq_true (.inl ⟨b,c⟩)⟩,this⟩
 .exact ydg.2 ⟨List.mem_filter.2 ⟨List.mem_range.2 (d.wf k b c),decide_eq_true (.inr ⟨a,z,hk⟩)⟩,c⟩
theorem yca.weaken{g:FuncId}{us:List Value}{v:Value}{k:Mem}{ft:List Nat}(E:Wf m)(h:yca P (.call g us (m.only ft)) (.call v k)):yca P (.call g us m) (.call v k):=by
 intro _;obtain⟨e,p⟩:=h (yfi E);refine⟨⟨e.next,fun i b d=>?_,fun i b n r d=>(ydg.1 (e.old i b n r d)).2,e.wf⟩,fun J M w a t C u y=>?_⟩
 .rcases e.dom i b d with⟨x,H⟩|q
  .exact .inl ⟨x,(ydg.1 H).2⟩
  .exact .inr q
 .have:=p J M w a t (fun i b d=>C i b (ydg.1 d).2) u y;refine this.mono ?_;rintro e K ⟨I,rfl,j,l,c,D⟩;refine⟨I,rfl,j,l,⟨c.le,c.out,c.rel,c.sub,fun i z A=>c.frame i z (A.imp (fun q=>?_) id),c.wg⟩,D⟩;cases B:(m.only ft).b.get i with
  |none=>rfl
  |some x=>rw[(ydg.1 B).2]at q;cases q
theorem Conc.called(c:Conc lo F ω s f m){e:Mem}(I:Wf e)(y:m.next<=e.next)(J:m.next<=e.low)(E:Le F e.b.get)(x:∀j k z,ω j=some (some (k,z))->∀b,m.b.get k=some b->e.b.get k=some b) :
 Conc lo (frsh m.next e F) ω s f (backM m.low e):=by
 have w:∀{i b},F i=some b->i<m.next:=fun {i b} h=>c.wf i b (c.sub i b h)
 have q:Le F (frsh m.next e F):=fun i b h=>by unfold frsh;rw[if_neg (by have:=w h;omega)];exact h
 rw[yen];refine⟨I,?_,zAJ c.nxt y,fun i b l=>?_,fun j b l=>?_,c.dom,c.inj,fun j k z hk=>?_,fun t v H=>?_⟩
 .show lo<=zAG m.low e.low;have:=c.low;have:=c.nxt;rw[zAN];omega
 .unfold frsh at l;split at l
  .exact l
  .exact E i b l
 .rcases c.own j b l with⟨k,T,L,g,C,n,p⟩|h|⟨k,B,A,g,n,p,D⟩
  .exact .inl ⟨k,T,L,g,C,x j k _ g _ n,fun i r=>⟨(p i r).1,(p i r).2.1.mono q (Om.le_refl _),(p i r).2.2⟩⟩
  .exact .inr (.inl h)
  .exact .inr (.inr ⟨k,B,A,g,n,x j k _ g _ p,D⟩)
 .obtain⟨a,b,d⟩:=c.apart j k z hk;refine⟨?_,b,zAD d y⟩;unfold frsh;rw[if_neg (by omega)]
  exact a
 .obtain⟨u,g,n⟩:=c.fr t v H;exact⟨u,g,n.mono q (Om.le_refl _)⟩
theorem Conc.grown(a:Conc lo F ω s f m){g:Mem}(p:m.next<=g.next)(v:Wf g):Conc lo F ω s f (m.grow g):=by
 have d:∀{i b},m.b.get i=some b->(m.grow g).b.get i=some b:=fun {i b} h=>by
  rw[yiw,if_neg (by have:=a.wf i b h;omega)];exact h
 refine⟨fun i b c=>?_,a.low,zAJ a.nxt p,fun i b c=>d (a.sub i b c),fun e b c=>?_,a.dom,a.inj,fun e k z hk=>⟨(a.apart e k z hk).1,(a.apart e k z hk).2.1,zAD (a.apart e k z hk).2.2 p⟩,a.fr⟩
 .rw[yiw]at c;split at c
  .exact v i b c
  .exact zAD (a.wf i b c) p
 .rcases a.own e b c with⟨k,T,L,j,t,l,n⟩|h|⟨k,r,q,j,l,n,u⟩
  .exact .inl ⟨k,T,L,j,t,d l,n⟩
  .exact .inr (.inl h)
  .exact .inr (.inr ⟨k,r,q,j,l,d n,u⟩)
theorem Conc.grownF(c:Conc lo F ω s f m){j:Mem}(A:m.next<=j.next)(C:Wf j):Conc lo (frsh m.next j F) ω s f (m.grow j):=by
 have h:=c.grown A C;have x:∀{i b},F i=some b->i<m.next:=fun {i b} h=>c.wf i b (c.sub i b h)
 have g:Le F (frsh m.next j F):=fun i b h=>by unfold frsh;rw[if_neg (by have:=x h;omega)];exact h
 refine⟨h.wf,h.low,h.nxt,fun i b e=>?_,fun l b e=>?_,c.dom,c.inj,fun l k z hk=>?_,fun t v B=>?_⟩
 .unfold frsh at e;split at e
  .rename_i q;rw[yiw,if_pos q];exact e
  .exact h.sub i b e
 .rcases h.own l b e with⟨k,T,L,n,y,p,r⟩|h
  .exact .inl ⟨k,T,L,n,y,p,fun i w=>⟨(r i w).1,(r i w).2.1.mono g (Om.le_refl _),(r i w).2.2⟩⟩
  .exact .inr h
 .obtain⟨a,b,d⟩:=c.apart l k z hk;refine⟨?_,b,(h.apart l k z hk).2.2⟩;unfold frsh;rw[if_neg (by omega)]
  exact a
 .obtain⟨u,n,p⟩:=c.fr t v B;exact⟨u,n,p.mono g (Om.le_refl _)⟩
theorem Conc.onlyF(d:Conc lo F ω s f m):∃ft:List Nat,(∀x∈ft,x<m.next/\∃b,F x=some b)/\Le F (m.only ft).b.get:=by
 classical
 refine⟨(zBI m.next).filter fun x=>decide (∃b,F x=some b),fun x a=>?_,fun i b c=>?_⟩
 .rw[zAZ]at a;exact⟨List.mem_range.1 a.1,of_decide_eq_true a.2⟩
 .have:=d.sub i b c;exact ydg.2 ⟨List.mem_filter.2 ⟨List.mem_range.2 (d.wf i b this),decide_eq_true ⟨b,c⟩⟩,this⟩
theorem ybzc (d:Conc lo F ω s f m) {C:Operand}{args:Array Operand}{l:Array TypeId}(E:o.op = .call { callee:=.value C,args:=args,argTypes:=l }) {g:FuncId}{a b y:List SV}(S:s.get C=some (.fn g a b)) (V:s.gets args.toList=some y)
 {Q:SV->Prop}(D:Ct P g (a++y++b) Q) (t:(a++y++b).any (owned 5)=false) :
 ∃ e z K,One P f o m e/\Q K/\Le F z/\RV z ω K e.v/\Conc lo z ω s f e.m/\m.next<=e.m.next/\e.mods=some [] /\
   (∀x b,z x=some b->F x=some b\/m.next<=x)/\∃j,e.foot=some j/\∀x∈j,x<m.next/\∃b,F x=some b:=by
 classical
 obtain⟨uf,L,Y⟩:=d.get S;obtain⟨J,M,e⟩:=d.gets V
 obtain⟨A,B,rfl,Z,rB⟩:∃A B:List Value,uf = .func (.func g) A.toArray B.toArray/\RVL F ω a A/\RVL F ω b B:=by
  cases Y with
  |fn N O=>exact⟨_,_,rfl,N,O⟩
 have p:RVL F ω (a++y++b) (A++J++B):=(Z.append e).append rB;obtain⟨j,W,X⟩:=d.onlyF
 have R:RVL F om0 (a++y++b) (A++J++B):=p.of_get fun v u U=>yep (n:=5) (by
  cases T:owned 5 v with
  |false=>rfl
  |true=>rw[List.any_eq_true.2 ⟨v,U,T⟩]at t;cases t)
 obtain⟨v,k,r,I,s2,s3,s4,s5⟩:=D F (m.only j) _ (yfi d.wf) X R;have w:m.next<=k.low:=s2
 have c:m.next<=k.next:=(I (yfi d.wf)).1.next
 have H:Wf k:=(I (yfi d.wf)).1.wf;refine⟨⟨v,m.grow k,some j,some []⟩,frsh m.next k F,r,.inr ⟨C,args,l,g,A.toArray,B.toArray,J,v,k,j,E,L,M,by simpa using I,w,rfl⟩,s4,fun i b h=>?_,s5.mono (Le.refl _) (yyk _),d.grownF c H,c,rfl,fun x b h=>?_,j,rfl,W⟩
 .unfold frsh;rw[if_neg (by have:=d.wf i b (d.sub i b h);omega)]
  exact h
 .unfold frsh at h;split at h
  .rename_i q;exact .inr q
  .exact .inl h
theorem ycki (j:Conc lo F ω s f m) {S:Operand}{args:Array Operand}{L:Array TypeId}(M:o.op = .call { callee:=.value S,args:=args,argTypes:=L }) {g:FuncId}{a b I:List SV}(hf:s.get S=some (.fn g a b)) (hx:s.gets args.toList=some I)
 {K:List SV}{Q:SV->Prop}(Y:Ct P g K Q) (X:(K=a++I++b/\(a++I++b).any (owned 5)=false)\/(K=(a++I++b).map (view s.o 5)/\allP (vok s.o 5) (a++I++b)/\∀r,Q r->scalar 5 r=true)) :
 ∃ y R O,One P f o m y/\Q O/\Le F R/\RV R ω O y.v/\Conc lo R ω s f y.m/\m.next<=y.m.next/\y.mods=some [] /\
   (∀x b,R x=some b->F x=some b\/(scalar 5 O=false/\m.next<=x)) /\
   ((scalar 5 O=true/\∃w,y.foot=some w/\∀x∈w,x<m.next/\((∃b,F x=some b)\/∃β z,ω β=some (some (x,z))))\/(scalar 5 O=false/\y.foot=none)):=by
 classical
 obtain⟨uf,e1,r1⟩:=j.get hf;obtain⟨J,e2,y⟩:=j.gets hx
 obtain⟨A,B,rfl,rA,rB⟩:∃A B:List Value,uf = .func (.func g) A.toArray B.toArray/\RVL F ω a A/\RVL F ω b B:=by
  cases r1 with
  |fn U V=>exact⟨_,_,rfl,U,V⟩
 have C:RVL F ω (a++I++b) (A++J++B):=(rA.append y).append rB;obtain⟨w,k1,k2,k3⟩:=j.only
 have D:∃H,Le H (m.only w).b.get/\RVL H om0 K (A++J++B)/\((K=a++I++b/\H=F)\/∀r,Q r->scalar 5 r=true):=by
  rcases X with⟨rfl,h⟩|⟨rfl,U,V⟩
  .refine⟨F,k2,C.of_get fun v u hv=>yep (n:=5) ?_,.inl ⟨rfl,rfl⟩⟩;cases hq:owned 5 v with
   |false=>rfl
   |true=>rw[List.any_eq_true.2 ⟨v,hv,hq⟩]at h;cases h
  .exact⟨(m.only w).b.get,Le.refl _,C.yfh fun v u hm hr=>yky j k2 k3 hr (yfr U v hm),.inr V⟩
 obtain⟨H,hH,hA,W⟩:=D;obtain⟨v,p,r,T,s2,s3,Z,s5⟩:=Y H (m.only w) _ (yfi j.wf) hH hA;have l:m.next<=p.low:=s2
 have c:m.next<=p.next:=(T (yfi j.wf)).1.next
 have N:Wf p:=(T (yfi j.wf)).1.wf;cases d:scalar 5 r with
 | true =>
   refine⟨⟨v,m.grow p,some w,some []⟩,F,r,.inr ⟨S,args,L,g,A.toArray,B.toArray,J,v,p,w,M,e1,e2,by simpa using T,l,rfl⟩,Z,Le.refl _,yyi d s5,j.grown c N,c,rfl,fun x b h=>.inl h,.inl ⟨d,w,rfl,k1⟩⟩
 | false =>
   rcases W with⟨_,rfl⟩|q
   .have E:yfo P (fun t=>if t = .call g (A++J++B) m then some (.call v p)else none):=by
     intro t out h;simp only at h;split at h
     .rename_i e;subst e;cases h;exact yca.weaken j.wf T
     .cases h
    refine⟨⟨v,backM m.low p,none,some []⟩,frsh m.next p H,r,.inl ⟨_,E,?_⟩,Z,fun i b h=>?_,s5.mono (Le.refl _) (yyk _),j.called N c l (hH.trans s3) (fun β k z hk b hb=>s3 _ _ (k3 β k z hk b hb)),by rw[yen];exact c,rfl,fun x b h=>?_,.inr ⟨d,rfl⟩⟩
    .unfold evOne evOne1;rw[M];show(ob (f.get S) fun g=>ob (valsA f args.toList) fun vs=>evCall _ m vs g)=_;rw[e1];show(ob (valsA f args.toList) fun vs=>evCall _ m vs _)=_;rw[e2];show ob ((fun t=>if t=Task.call g (A++J++B) m then some (Out.call v p)else none) (.call g (A.toArray.toList++J++B.toArray.toList) m)) (afterCall m)=_
     simp only[if_true];show some (⟨v,backM m.low p,none,iteB (zAL m.next p.low) (some []) none⟩:R2)=_
     rw[ybh,if_pos (zA l)]
    .unfold frsh;rw[if_neg (by have:=j.wf i b (j.sub i b h);omega)]
     exact h
    .unfold frsh at h;split at h
     .rename_i q;exact .inr ⟨d,q⟩
     .exact .inl h
   .rw[q r Z]at d;cases d
theorem Conc.newF(c:Conc lo F ω s f m)(blk:ABlk):Conc lo (fun x=>if x=m.next then some blk else F x) ω s f (m.app (.new blk)):=by
 have w:∀{i b},m.b.get i=some b->i<m.next:=fun {i b} h=>c.wf i b h
 have r:Le F (fun x=>if x=m.next then some blk else F x):=fun i b h=>by
  show(if i=m.next then _ else F i)=_
  rw[if_neg (by have:=w (c.sub i b h);omega)];exact h
 rw[yyn];have e:∀i,(T.set (zC m.next) m.b m.next (some blk)).get i=if i=m.next then some blk else m.b.get i:=fun i=>T.set_at _ _ _ _
 have j:∀{k b},k<m.next->m.b.get k=some b->(T.set (zC m.next) m.b m.next (some blk)).get k=some b:=fun {k b} hk h=>by rw[e,if_neg (by omega)];exact h
 refine⟨fun i x g=>?_,c.low,by show lo<=m.next+1;have:=c.nxt;omega,fun i x g=>?_,fun y b H=>?_,c.dom,c.inj,fun y k z hk=>?_,fun t v I=>?_⟩
 .have g:(T.set (zC m.next) m.b m.next (some blk)).get i=some x:=g
  rw[e]at g;show i<m.next+1
  split at g
  .omega
  .have:=w g;omega
 .have g:(if i=m.next then some blk else F i)=some x:=g
  show(T.set (zC m.next) m.b m.next (some blk)).get i=some x
  rw[e];split at g
  .rename_i q;rw[if_pos q];exact g
  .rename_i q;rw[if_neg q];exact c.sub i x g
 .rcases c.own y b H with⟨k,T,L,l,D,n,p⟩|h|⟨k,C,B,l,n,p,E⟩
  .exact .inl ⟨k,T,L,l,D,j (c.apart y k _ l).2.2 n,fun i A=>⟨(p i A).1,(p i A).2.1.mono r (Om.le_refl _),(p i A).2.2⟩⟩
  .exact .inr (.inl h)
  .exact .inr (.inr ⟨k,C,B,l,n,j (c.apart y k _ l).2.2 p,E⟩)
 .obtain⟨a,b,d⟩:=c.apart y k z hk;refine⟨?_,b,by show k<m.next+1;omega⟩
  show(if k=m.next then _ else F k)=none
  rw[if_neg (by omega)];exact a
 .obtain⟨u,l,n⟩:=c.fr t v I;exact⟨u,l,n.mono r (Om.le_refl _)⟩
theorem ycks (r:Conc lo F ω s f m) {t elem:TypeId}{n:Nat}{parts:Array (Nat×Operand)}{i:TypeInfo}{z:List Value}{H:List (Nat×Nat×Operand)}{l:List SV}
 (A:o.op = .buildSlice t n parts) (K:P.underlying t=some (.slice elem)) (M:P.info? elem=some i) (E:zeroA i=some z) (J:n*i.size<=10000) (g:n<=10000)
 (B:parts.toList.mapM (fun p=>((fun k=>some (k*i.size,i.size)) p.1:Option (Nat×Nat)).map fun q=>(q.1,q.2,p.2))=some H) (D:fill s ((repl n z).map ofV) H=some l)
 (y:∀k,k<n->((l.drop (k*i.size)).take i.size).any (owned 5)=false) :
 ∃u blk,evOp P f o m=some ⟨u,.new blk,[]⟩/\RV (fun x=>if x=m.next then some blk else F x) ω (.sl i.size n fun k=>(l.drop (k*i.size)).take i.size) u:=by
 obtain⟨O,C⟩:=yfz E;have d:=yov O n;obtain⟨e,L,t1,t2,t3,t4⟩:=yuq r (place:=fun k=>some (k*i.size,i.size)) B (ypd d) (yqg d) D;have c:l.length=n*i.size:=by rw[yoy D,zV,yeu,C]
 have a:L.length=n*i.size:=by rw[<-t3.length];exact c
 have w:∀{i b},F i=some b->i<m.next:=fun {i b} h=>r.wf i b (r.sub i b h)
 refine⟨.slice (some ⟨m.next,0,none⟩) n n,.cells (tOf L) (n*i.size) elem i.size,?_,?_⟩
 .unfold evOp;rw[A];show(ob (partsA f parts.toList) fun S=>ob (P.underlying t) (evBuildSlice P m n S))=_;rw[t1];show ob (P.underlying t) (evBuildSlice P m n e)=_;rw[K];show(ob (P.info? elem) fun i=>ob (zeroA i) fun z=>evBuildSlice1 m n elem e i z)=_;rw[M];show(ob (zeroA i) fun z=>evBuildSlice1 m n elem e i z)=_;rw[E];show evBuildSlice1 m n elem e i z=_;unfold evBuildSlice1;rw[ybh,if_pos (by rw[zA J,zA g];rfl),t2]
  show some (⟨_,.new (.cells (tOf L) L.length elem i.size),[]⟩:R)=some ⟨_,.new (.cells _ (n*i.size) elem i.size),[]⟩;rw[a]
 .refine .sl (L:=fun k=>(L.drop (k*i.size)).take i.size) (if_pos rfl) (.inl rfl) (by omega) (fun k hk=>ysu a hk) (fun k hk j N=>?_) (fun k hk=>?_) fun k hk=>yra (ykp t4 _) _
  .rw[ycx];simp[zAA,N]
  .have I:RVL F ω ((l.drop (k*i.size)).take i.size) ((L.drop (k*i.size)).take i.size):=(t3.drop _).take _
   refine RVL.mono (fun x b h=>?_) (Om.le_refl _) (I.of_get (G:=F) (ψ:=om0) fun v u Q=>yep (n:=5) (by
    cases B:owned 5 v with
    |false=>rfl
    |true=>have:=y k hk;rw[List.any_eq_true.2 ⟨v,Q,B⟩]at this;cases this))
   show(if x=m.next then _ else F x)=_
   rw[if_neg (by have:=w h;omega)];exact h
theorem ycnx (q:Conc lo F ω s f m) {t e n:Nat}{parts:Array (Nat×Operand)}{i:TypeInfo}{z:List Value}{p b h:Nat}{zs:List SV}{j:List (Nat×Nat×Operand)}{l:List SV}(g:o.op = .buildSlice t n parts) (r:P.underlying t=some (.slice e)) (w:P.info? e=some i) (A:zeroA i=some z)
 (a:yld n e parts.toList i z=some (.bslice p b h zs j)) (v:fill s zs j=some l) (d:∀k,k<h->((l.drop (k*b)).take b).any (owned 5)=false) :
 ∃u blk,evOp P f o m=some ⟨u,.new blk,[]⟩/\RV (fun x=>if x=m.next then some blk else F x) ω (.sl b h fun k=>(l.drop (k*b)).take b) u:=by
 unfold yld at a;split at a
 .rename_i c
  split at a
  .rename_i B y
   cases a
   exact ycks q g r w A c.1 c.2 y v d
  .cases a
 .cases a
end
end Sh
end
section
namespace Sh
open Go Ev
noncomputable def yif{a:Type}:T a->T a->T a
 |.leaf,t=>t
 | .node v l r,t=>match t with
   |.leaf=>.node v l r
   |.node d b c=>.node (match v with|some x=>some x|none=>d) (yif l b) (yif r c)
theorem ydw{g:Type}:∀(a b:T g) (i:Nat),(yif a b).get i=match a.get i with|some x=>some x|none=>b.get i
 |.leaf,b,i=>by rw[T.get_leaf];rfl
 | .node v l r,.leaf,i=>by
   show(T.node v l r).get i=_;rw[T.get_leaf];cases(T.node v l r).get i<;>rfl
 | .node v l r,.node e c d,0=>by
   show(T.node _ _ _).get 0=_;rw[T.get_zero,T.get_zero,T.get_zero]
 | .node v l r,.node e c d,k+1=>by
   show(T.node _ _ _).get (k+1)=_;rw[T.get_succ,T.get_succ,T.get_succ];split
   .exact ydw l c _
   .exact ydw r d _
theorem ynb:∀{l:List SV}{i t:Nat}{v:SV},look (slots l i) t=some v->i<=t/\l[t-i]?=some v
 |[],_,_,_,h=>by cases h
 | x :: l,i,t,v,h=>by
   have a:(if i=t then some x else look (slots l (i+1)) t)=some v:=h
   split at a
   .rename_i q;subst q;cases a;simp
   .rename_i q
    obtain⟨c,b⟩:=ynb a;refine⟨by omega,?_⟩
    rw[show t-i=(t-(i+1))+1 by omega]
    simpa using b
theorem ybqm:∀{l:List SV}{i t:Nat}{v:SV},l[t]?=some v->look (slots l i) (i+t)=some v
 |[],_,_,_,h=>by simp at h
 | x::l,i,0,v,h=>by
   show(if i=i+0 then some x else look (slots l (i+1)) (i+0))=some v
   rw[if_pos (by omega)];simpa using h
 | x::l,i,t+1,v,h=>by
   show(if i=i+(t+1)then some x else look (slots l (i+1)) (i+(t+1)))=_
   rw[if_neg (by omega),show i+(t+1)=i+1+t by omega]
   exact ybqm (by simpa using h)
theorem ycz{a:Type}{p:a->Prop}:∀{l:List a},allQ p l->∀x∈l,p x
 | _::_,h,x,b=>by
   rcases List.mem_cons.1 b with q|q
   .rw[q];exact h.1
   .exact ycz h.2 x q
theorem yeh{b:Type}:∀{l:List (Nat×b)}{t:Nat}{v:b},look l t=some v->(t,v)∈l
 |[],_,_,h=>by cases h
 | (k,x)::l,t,v,h=>by
   have a:(if k=t then some x else look l t)=some v:=h
   split at a
   .rename_i q;subst q;cases a;exact zS
   .exact zF _ (yeh a)
theorem yjb{l:List Nm}{x:Nm}:nmem l x=true↔x∈l:=by
 unfold nmem;rw[List.any_eq_true];constructor
 .rintro⟨y,b,a⟩;simp only[zB,decide_eq_true_eq]at a;rw[show x=y from Prod.ext a.1.symm a.2.symm];exact b
 .exact fun h=>⟨x,h,by simp⟩
theorem ygh{l:Own}{a:Nm}{b:OB}(h:lookO l a=some b):∃F,look l a.1=some F/\F.at a.2=some b:=by
 unfold lookO at h;split at h
 .rename_i F c;exact⟨F,c,h⟩
 .cases h
theorem yvx{F:Fam}{i:Nat}{b:OB}(h:F.at i=some b):(F = .one (some b)/\i=0)\/∃g,F = .many g/\g i=some b:=by
 cases F with
 | one x =>
   simp only[Fam.at]at h;split at h
   .rename_i q;subst h;exact .inl ⟨rfl,q⟩
   .cases h
 |many g=>exact .inr ⟨g,rfl,h⟩
theorem ybwe{F:Fam}{p:Nat->Prop}(h:idxF F p){i:Nat}{b:OB}(a:F.at i=some b):p i:=by
 rcases yvx a with⟨rfl,rfl⟩|⟨g,rfl,c⟩
 .exact h
 .exact h i (by rw[c];rfl)
section
variable {P:Program}{lo:Nat}{F G:AM}{ω ψ:Om}{s t:SS}{f:Fr}{m:Mem}
theorem ybkc{h:SV->SV}(a:∀v,one1 (h v)=one1 v){l:List SV}(b:l.all one1=true):(l.map h).all one1=true:=by
 rw[zBE];exact List.all_eq_true.2 fun x c=>(a x).trans (List.all_eq_true.1 b x c)
theorem ycli(h:Nm->Nm)(n:Nat)(v:SV):one1 (ren h n v)=one1 v:=by
 cases n with
 |zero=>rfl
 |succ n=>cases v<;>rfl
theorem ybnh{h:Nm->Nm}{L:Nm->Bool}(g:∀w x,L w=true->ω w=some x->ψ (h w)=some x):∀{n:Nat}{v:SV}{u:Value},RV F ω v u->cln L n v=true->RV F ψ (ren h n v) u
 |0,_,_,_,q=>by cases q
 | n + 1,v,u,r,q=>by
   have j:∀{l:List SV}{U:List Value},RVL F ω l U->l.all (cln L n)=true->RVL F ψ (l.map (ren h n)) U:=fun {l U} a b=>a.yfh fun v u B r=>ybnh g r (List.all_eq_true.1 b v B);cases r with
   |i=>exact .i
   |b=>exact .b
   |a p=>exact .a p
   |sl0 p=>exact .sl0 p
   |sl c d e k o y z=>exact .sl c d e k o y z
   |rf c d e k o=>exact .rf c d e k o
   |ex c d e=>exact .ex c d e
   |ag a=>exact .ag (j a q)
   |tp a=>exact .tp (j a q)
   | fn a b =>
     have q:(_&&_)=true:=q;rw[zB]at q;exact .fn (j a q.1) (j b q.2)
   |pt hk=>exact .pt (g _ _ q hk)
   |os hk A=>exact .os (g _ _ q hk) A
   |os0 hk=>exact .os0 (g _ _ q hk)
   |mr hk=>exact .mr (g _ _ q hk)
theorem ycih{h:Nm->Nm}{L:Nm->Bool}(r:∀p x,L p=true->ω (h p)=some x->ψ p=some x):∀{n:Nat}{v:SV}{u:Value},RV F ω (ren h n v) u->cln L n v=true->RV F ψ v u
 |0,_,_,_,q=>by cases q
 | n + 1,v,u,d,q=>by
   have e:∀{l:List SV}{U:List Value},RVL F ω (l.map (ren h n)) U->l.all (cln L n)=true->RVL F ψ l U:=by
    intro l
    induction l with
    |nil=>intro L e _;cases e;exact .nil
    | cons x l C =>
      intro L e w;simp only[zL,zB]at w;cases e with
      |cons a b=>exact .cons (ycih r a w.1) (C b w.2)
   cases v with
   |i k x=>cases d;exact .i
   |b x=>cases d;exact .b
   |a x=>exact yep (n:=5) rfl d
   |sl z k g=>exact yep (n:=5) rfl d
   |rf c=>exact yep (n:=5) rfl d
   |ex Q v=>exact yep (n:=5) rfl d
   |bad=>cases d
   |ag c=>obtain⟨L,rfl,a⟩:=d.ag_inv;exact .ag (e a q)
   |tp c=>obtain⟨L,rfl,a⟩:=d.tp_inv;exact .tp (e a q)
   | fn g a b =>
     have q:(_&&_)=true:=q;rw[zB]at q;cases d with
     |fn y A=>exact .fn (e y q.1) (e A q.2)
   |pt p i j=>obtain⟨k,z,hk,rfl⟩:=d.pt_inv;exact .pt (r _ _ q hk)
   | os p o k c =>
     rcases d.os_inv with⟨E,z,D,hk,rfl,B⟩|⟨hk,rfl,rfl,rfl⟩
     .exact .os (r _ _ q hk) B
     .exact .os0 (r _ _ q hk)
   |mr p=>cases d with|mr hk=>exact .mr (r _ _ q hk)
theorem ybqw{L:Nm->Bool}(g:∀r x,L r=true->ω r=some x->ψ r=some x):∀{n:Nat}{v:SV}{u:Value},RV F ω v u->cln L n v=true->RV F ψ v u
 |0,_,_,_,q=>by cases q
 | n + 1,v,u,p,q=>by
   have h:∀{l:List SV}{U:List Value},RVL F ω l U->l.all (cln L n)=true->RVL F ψ l U:=fun {l U} a b=>a.of_get fun v u A p=>ybqw g p (List.all_eq_true.1 b v A);cases p with
   |i=>exact .i
   |b=>exact .b
   |a o=>exact .a o
   |sl0 o=>exact .sl0 o
   |sl c d e j k w y=>exact .sl c d e j k w y
   |rf c d e j k=>exact .rf c d e j k
   |ex c d e=>exact .ex c d e
   |ag a=>exact .ag (h a q)
   |tp a=>exact .tp (h a q)
   | fn a b =>
     have q:(_&&_)=true:=q;rw[zB]at q;exact .fn (h a q.1) (h b q.2)
   |pt hk=>exact .pt (g _ _ q hk)
   |os hk z=>exact .os (g _ _ q hk) z
   |os0 hk=>exact .os0 (g _ _ q hk)
   |mr hk=>exact .mr (g _ _ q hk)
open Classical in
noncomputable def frzF(ω:Om)(a:List Nm)(m:Mem)(F:AM):AM:=fun x=>if ∃c∈a,∃z,ω c=some (some (x,z))then m.b.get x else F x
theorem yctg:frzF ω [] m F=F:=by
 funext x;unfold frzF;rw[if_neg (by simp)]
theorem yon(c:Conc lo F ω s f m)(a:List Nm):Le F (frzF ω a m F):=fun x b h=>by
 unfold frzF;split
 .exact c.sub x b h
 .exact h
theorem ycpi(c:Conc lo F ω s f m)(a:List Nm):∀x b,frzF ω a m F x=some b->F x=some b\/lo<=x:=fun x b h=>by
 unfold frzF at h;split at h
 .rename_i q;obtain⟨d,_,z,hk⟩:=q;exact .inr (c.apart d x z hk).2.1
 .exact .inl h
theorem ybqt{l:List SV}{U:List Value}(h:l.any (owned 5)=false)(a:RVL F ω l U):RVL F om0 l U:=a.of_get fun v u d c=>yep (n:=5) (by
 cases b:owned 5 v with
 |false=>rfl
 |true=>rw[List.any_eq_true.2 ⟨v,d,b⟩]at h;cases h) c
theorem yqz(l:Conc lo F ω s f m){g:List Nm}(d:yzj s.o g):∀{n:Nat}{v:SV}{u:Value},RV F ω v u->pok g s.o n v->RV (frzF ω g m F) ω (yee g s.o n v) u
 |0,_,_,h,_=>h.mono (yon l g) (Om.le_refl _)
 | n + 1,v,u,w,e=>by
   cases w with
   |i=>exact .i
   |b=>exact .b
   |a h=>exact .a h
   |sl0 Q=>exact .sl0 Q
   |sl A B C E H M N=>exact(RV.sl A B C E H M N:RV F ω _ _).mono (yon l g) (Om.le_refl _)
   |rf A B C E H=>exact(RV.rf A B C E H:RV F ω _ _).mono (yon l g) (Om.le_refl _)
   |ex A B C=>exact(RV.ex A B C:RV F ω _ _).mono (yon l g) (Om.le_refl _)
   |ag K=>exact .ag (K.yfh fun v u c w=>yqz l d w (yfr e v c))
   |tp K=>exact .tp (K.yfh fun v u c w=>yqz l d w (yfr e v c))
   |fn D r=>exact .fn (D.yfh fun v u c w=>yqz l d w (yfr e.1 v c)) (r.yfh fun v u c w=>yqz l d w (yfr e.2 v c))
   | pt hk =>
     rename_i x i j k z
     simp only[pok]at e;simp only[yee];split
     .rename_i c
      have e:=e c;obtain⟨b,r,hown⟩:=ycz d x (yjb.1 c);rw[r]at e ⊢;obtain⟨v1,v2⟩:=e;obtain⟨rfl,T,L,I,y⟩:=l.ownAt r hk (.inl (by omega))
      obtain⟨l1,W,X,Y⟩:=y i v1;have R:=ylg (z:=b.z) v1;refine .rf (L:=(L i).drop j) (show frzF ω g m F k=some _ by unfold frzF;rw[if_pos ⟨x,yjb.1 c,_,hk⟩];exact I) (by simp;omega) (fun q V=>?_) ((ybqt (hown i v1) W).mono (yon l g) (Om.le_refl _) |>.drop j) (ykp X j)
      simp at V;rw[zU,Y _ (by omega)]
      simp
     .exact .pt hk
   | os hk J =>
     rename_i x p k O Z q z
     simp only[pok]at e;simp only[yee];split
     .rename_i c
      have e:=e c;obtain⟨b,r,hown⟩:=ycz d x (yjb.1 c);rw[r]at e ⊢;have v1:p+k<=b.n:=e;rcases zAC k with rfl|U
      .exact .sl0 (.inr ⟨_,_,_,rfl⟩)
      obtain⟨rfl,T,L,I,y⟩:=l.ownAt r hk (.inl (by omega))
      refine .sl (L:=fun a=>L (p+a)) (show frzF ω g m F q=some _ by unfold frzF;rw[if_pos ⟨x,yjb.1 c,_,hk⟩];exact I) (by cases b.bx<;>simp) ?_ (fun a D=>(y (p+a) (by omega)).1) (fun a D j S=>?_) (fun a D=>(ybqt (hown (p+a) (by omega)) (y (p+a) (by omega)).2.1).mono (yon l g) (Om.le_refl _)) (fun a D=>(y (p+a) (by omega)).2.2.1)
      .rw[<-zI];exact zM _ v1
      .rw[<-zI];exact(y (p+a) (by omega)).2.2.2 j S
     .exact .os hk J
   | os0 hk =>
     rename_i x O
     simp only[pok]at e;simp only[yee];split
     .rename_i c
      obtain⟨b,r,_⟩:=ycz d x (yjb.1 c);rw[r];exact .sl0 (.inl rfl)
     .exact .os0 hk
   |mr hk=>exact .mr hk
def omTo(ω:Om)(h:Nm->Nm)(a:List Nat)(o:Own):Om:=fun b=>if live o b=true then(if a.elem b.1=true then some none else ω (h b))else none
theorem yctm(k:Conc lo F ω s f m){h:Nm->Nm}{a:List Nat}{c:List Nm}{o:Own}(g:yzj s.o c){v w:SV}{u:Value}(l:Tel h a c s.o o v w)(i:RV F ω v u):RV (frzF ω c m F) (omTo ω h a o) w u:=by
 rcases l with⟨d,e,j⟩|⟨rfl,p,rfl,d,e⟩
 .refine ycih (fun p x b n=>?_) (e _ _ _ (yqz k g i d)) j;unfold lv at b;rw[zB,zAT]at b;unfold omTo;rw[if_pos b.1,if_neg (by rw[b.2];simp)]
  exact n
 .cases i
  refine .os0 ?_;unfold omTo;rw[if_pos e,if_pos d]
theorem ybxg(n:Conc lo F ω s f m){h:Nm->Nm}{g:List Nat}{i:List Nm}{o:Own}(d:yzj s.o i):∀{l k:List SV}{U:List Value},telL h g i s.o o l k->RVL F ω l U->l.all one1=true->RVL (frzF ω i m F) (omTo ω h g o) k U/\k.all one1=true
 |[],[],_,_,.nil,_=>⟨.nil,rfl⟩
 | v::l,w::k,_,c,.cons a b,j=>by
   simp only[zL,zB]at j;have e:=yctm n d c.1 a;obtain⟨p,q⟩:=ybxg n d c.2.2 b j.2;exact⟨.cons e p,by simp only[zL,zB];exact⟨c.2.1,q⟩⟩
 |[],_::_,_,c,_,_=>c.elim
 |_::_,[],_,c,_,_=>c.elim
theorem yiv{o:Own}{a:Nm}:live o a=true↔∃b,lookO o a=some b:=by
 unfold live;rw[Option.isSome_iff_exists]
theorem WeakBy.yqj{h:Nm->Nm}{a:List Nat}{e:List Nm}(n:WeakBy h a e s t){c:Nm}{b:OB}(l:lookO t.o c=some b):own1 h a e t.o s c b:=by
 obtain⟨F,j,k⟩:=ygh l;have i:=ycz n.own _ (yeh j);rcases yvx k with⟨rfl,d⟩|⟨g,rfl,d⟩
 .have:c=(c.1,0):=Prod.ext rfl d;rw[this];exact i
 .exact i _ _ d
theorem WeakBy.conc{h:Nm->Nm}{j:List Nat}{O:List Nm}(A:WeakBy h j O s t)(n:Conc lo F ω s f m):Conc lo (frzF ω O m F) (omTo ω h j t.o) t f m:=by
 have d:∀{a k z},omTo ω h j t.o a=some (some (k,z))->ω (h a)=some (some (k,z))/\(∃b,lookO t.o a=some b)/\¬(j.elem a.1=true):=fun {a k z} q=>by
  unfold omTo at q;split at q
  .rename_i hl
   split at q
   .cases q
   .rename_i W;exact⟨q,yiv.1 hl,W⟩
  .cases q
 have V:∀{a},(∃b,lookO t.o a=some b)->¬(j.elem a.1=true)->nmem O (h a)=false:=fun {a} ⟨b,l⟩ W=>by
  have:=A.yqj l;unfold own1 at this;rw[if_neg W]at this;obtain⟨c,_,⟨_,_,_,_,q⟩,_⟩:=this;exact q
 refine⟨n.wf,n.low,n.nxt,fun i b l=>?_,fun a b l=>?_,fun a l=>?_,fun a Z k z k' Y Q E x=>?_,fun a k z hk=>?_,fun k v hk=>?_⟩
 .unfold frzF at l;split at l
  .exact l
  .exact n.sub i b l
 .have K:=A.yqj l;have p:live t.o a=true:=yiv.2 ⟨b,l⟩;unfold own1 at K;split at K
  .rename_i q
   refine .inr (.inl ⟨?_,K⟩);unfold omTo;rw[if_pos p,if_pos q]
  .rename_i q
   obtain⟨c,Q,⟨E,R,H,J,h7⟩,h8,h6⟩:=K;have y:omTo ω h j t.o a=ω (h a):=by unfold omTo;rw[if_pos p,if_neg q]
   rcases n.own _ c Q with⟨k,T,L,r,g0,w,D⟩|⟨r,w,D⟩|⟨k,es,cl,r,⟨w,D,g4⟩,g5,g6⟩
   .left
    rw[H]at r;refine⟨k,T,L,by rw[y];exact r,by rw[<-E];exact g0,by rw[E,R,H,J]at w;exact w,fun i hi=>?_⟩
    obtain⟨l1,l2,l3,l4⟩:=D i (by rw[J];exact hi)
    rw[H]at l1 l4;obtain⟨B,C⟩:=ybxg n A.frz (h6 i hi) l2 l3;exact⟨l1,B,C,l4⟩
   .exact .inr (.inl ⟨by rw[y];exact r,by rw[<-J];exact w,by rw[<-R];exact D⟩)
   .have he:b.e=CU:=by rw[<-E];exact w
    have hg:c.g=b.g:=funext (h8 (by rw[he];rfl))
    refine .inr (.inr ⟨k,es,cl,by rw[y,<-H];exact r,⟨he,by rw[<-J];exact D,by rw[<-R];exact g4⟩,g5,?_⟩)
    rw[<-H,<-hg];exact g6
 .unfold omTo;rw[if_neg];intro q;obtain⟨b,S⟩:=yiv.1 q;exact ybav S l
 .obtain⟨I,⟨b1,M⟩,N⟩:=d Q;obtain⟨c1,⟨b2,c2⟩,c3⟩:=d E;refine n.inj _ _ k z k' Y I c1 fun e=>x ?_;obtain⟨F1,d1,d2⟩:=ygh M;obtain⟨F2,B,C⟩:=ygh c2;have q1:=ycz A.inj _ (yeh d1);have q2:=ycz (q1.resolve_left N) _ (yeh B);have q3:=ybwe (ybwe (q2.resolve_left c3) d2) C e;exact Prod.ext q3.1 q3.2
 .obtain⟨I,M,N⟩:=d hk;obtain⟨b1,b2,b3⟩:=n.apart _ k z I;refine⟨?_,b2,b3⟩;unfold frzF;rw[if_neg]
  .exact b1
  .rintro⟨Z,X,Y,U⟩;have x:Z≠h a:=fun e=>by have:=V M N;rw[<-e,yjb.2 X]at this;cases this
   exact n.inj Z (h a) k Y k z U I x rfl
 .obtain⟨v',B,C⟩:=ycz A.slot _ (yeh hk);obtain⟨u,r,w⟩:=n.fr k v' B;exact⟨u,r,yctm n A.frz C w⟩
def Weak(e:List Nm)(s t:SS):Prop:=∀lo F ω f m,Conc lo F ω s f m->∃a c,Le F c/\(∀x b,c x=some b->F x=some b\/lo<=x)/\Conc lo c a t f m/\∀d∈e,∀x,ω d=some x->a d=some x
theorem WeakBy.weak{g:List Nm}{h:Nm->Nm}{b:List Nat}{c:List Nm}(j:WeakBy h b c s t)(i:allQ (fun a=>live t.o a=true/\b.elem a.1=false/\h a=a) g):Weak g s t:=fun lo F ω f m d=>by
 refine⟨_,_,yon d c,ycpi d c,j.conc d,fun a e x k=>?_⟩;obtain⟨l,n,p⟩:=ycz i a e;unfold omTo;rw[if_pos l,if_neg (by rw[n];simp),p]
 exact k
end
end Sh
end
section
namespace Ev
open Go Go.RowKit
structure It where
 n:Nat
 el:Nat->List Value
 pre:Nat->Mem->Prop
 adv:Nat->Mem->Mem
 step:Nat->Phi->AM->World->AM->World->Prop
structure ItOk(P:Program)(g:FuncId)(cap:List Value)(S:It):Prop where
 enter:∀args w,(callFunc g args).run P w = .ok (.enter g args) w
 grow:∀k m,k<S.n->Wf m->S.pre k m->Grow m (S.adv k m)
 good:∀k φ M w m M' w',k<S.n->Wf m->Rel φ M w->Sub m M->S.pre k m->S.step k φ M w M' w'->Good φ M w m (S.adv k m) φ M' w'
 calls:∀(l:Nat) (St:Nat->Phi->AM->World->Prop) (Stop:World->Prop) (φ:Phi) (M:AM) (w:World) (cap':List Value),
  (∀k φ' M' w',St k φ' M' w'->φ.le φ'/\∃m,Rel φ' M' w'/\Sub m M'/\S.pre k m) ->
  (∀k φ' M' w' w'',St k φ' M' w'->Below w'.heap.size w' w''->St k φ' M' w'') ->
  (∀k φ' M' w' el',k<S.n->St k φ' M' w'->VRL φ' (S.el k) el'->YieldAt Fence.wide 0 P l el'.toArray w' fun e w'' =>
    (e = .returned (.bool true)/\∃φ'' M'',φ'.le φ''/\(∃m,Rel φ'' M'' w''/\Sub m M''/\S.pre k m)/\∀M3 w3,S.step k φ'' M'' w'' M3 w3->St (k+1) φ'' M3 w3)\/(e = .returned (.bool false)/\Stop w'')) ->
  St 0 φ M w->VRL φ cap cap' ->
  CallsIn Fence.wide 0 P g (#[.func (.yield l) #[] #[]]++cap'.toArray) w fun e w'=>(∃v,e = .returned v)/\((∃φ' M',St S.n φ' M' w')\/Stop w')
noncomputable def yblq:List Value->List Nat->Fr->Option Fr
 | [],ps=>match ps with
   |[]=>fun f=>some f
   |_::_=>fun _=>none
 | v::b,ps=>match ps with
   |[]=>fun _=>none
   |p::ps=>fun f=>(Fr.putD v p f).bind (yblq b ps)
inductive RRounds (P:Program) (f:Fr) (ps:List Nat) (assign body:Code) (S:It):Nat->Mem->Exit->Mem->Prop
 |done {m} (hp:S.pre S.n m):RRounds P f ps assign body S S.n m .normal m
 | next {k m f1 f3 m1 f4 m2 e m'} (hk:k<S.n) (hp:S.pre k m) (h1:yblq (S.el k) ps f=some f1) (h2:ydb P assign f1 m .normal f3 m1) (h3:ydb P body f3 m1 .normal f4 m2) (hp2:S.pre k m2)
    (h:RRounds P f ps assign body S (k+1) (S.adv k m2) e m'):RRounds P f ps assign body S k m e m'
 | stop {k m f1 f3 m1 e f4 m2} (hk:k<S.n) (hp:S.pre k m) (h1:yblq (S.el k) ps f=some f1) (h2:ydb P assign f1 m .normal f3 m1) (he:e = .ret\/∃id,e = .exit id) (h3:ydb P body f3 m1 e f4 m2) :
    RRounds P f ps assign body S k m e m2
section
variable {P:Program}{φ φ':Phi}{M M':AM}{w w':World}{f f':Fr}{m m' m'':Mem}{a:Act}{S:It}{ps:List Nat}{assign body:Code}{k:Nat}{e:Exit}
theorem RRounds.pre(h:RRounds P f ps assign body S k m e m'):S.pre k m:=by
 cases h with
 |done b=>exact b
 |next _ b=>exact b
 |stop _ b=>exact b
theorem RRounds.grow{g:FuncId}{cap:List Value}(hit:ItOk P g cap S)(h:RRounds P f ps assign body S k m e m'):Wf m->Grow m m':=by
 induction h with
 |done=>exact fun l=>Grow.refl l
 | next hk o n b c d h p =>
   intro l;have i:=b.1.trans c.1;have j:=hit.grow _ _ hk i.ext.wf d;exact i.trans (j.trans (p j.ext.wf))
 |stop hk o n b q c=>exact fun _=>b.1.trans c.1
theorem RRounds.at_end(h:RRounds P f ps assign body S S.n m e m'):e = .normal/\m'=m:=by
 generalize b:S.n=n at h
 cases h with
 |done=>exact⟨rfl,rfl⟩
 |next hk=>omega
 |stop hk=>omega
theorem ybiz:∀{d vs':List Value}{ps:List Nat}{f f1:Fr}{a:Act},FrR φ f a->yblq d ps f=some f1->VRL φ d vs'->FrR φ f1 { a with tmps:=(ps.zip vs').foldl (fun tmps (t,x)=>tmps.setIfInBounds t x) a.tmps }
 | [],_,[],f,f1,a,b,h,.nil=>by
   cases h
   exact⟨b.size,b.get⟩
 | v::d,_,p::ps,f,f1,a,b,h,.cons (v':=v') (l':=vs') j c=>by
   obtain⟨f2,g,i⟩:=Option.bind_eq_some_iff.1 h;have:=ybiz (b.putD g j) i c;have e:(a.put (some p) v').tmps=a.tmps.setIfInBounds p v':=by simp[Act.put]
   exact⟨by simpa[e]using this.size,by simpa[e]using this.get⟩
 |[],_,_::_,_,_,_,_,h,_=>by cases h
 |_::_,_,[],_,_,_,_,h,_=>by cases h
theorem yza(ps:Array Tmp)(l:List Value):(ps.zip l.toArray).foldl (fun tmps (t,a)=>tmps.setIfInBounds t a) a.tmps=(ps.toList.zip l).foldl (fun tmps (t,x)=>tmps.setIfInBounds t x) a.tmps:=by
 rw[<-Array.foldl_toList,Array.toList_zip]
set_option maxHeartbeats 1000000 in
theorem ycjw {g:FuncId}{cap:List Value}(hit:ItOk P g cap S) {gx:Operand}{ps:Array Tmp}{e0:Exit}{mf:Mem}(hv:f.get gx=some (.func (.func g) #[] cap.toArray))
 (hw:Wf m) (h3:RRounds P f ps.toList assign body S 0 m e0 mf):ydb P (.rangeFunc gx ps assign body) f m e0 f mf:=by
 refine⟨h3.grow hit hw,fun φ M w a r d0 hR hs hf c9=>?_⟩;have d2:=ykf (a:=a) (fun t v _ ht=>hf.get t v ht) hv;obtain⟨x',y',e1,e2,e3⟩:=d2.func_inv;cases e2
 have e3:VRL φ cap y':=by simpa using e3
 refine wpIn_rangeFunc ?_;intro fn _;obtain⟨L,D,mark,W1,DP,d3,X,a5,c4,c3,U,s,J,c2⟩:=ybex (P:=P) d0 fn a.tmps ps assign body;obtain⟨rec,j⟩:∃rec:LoopState->Option Code->Loop,rec=fun st pe=>{ state:=st,pending:=pe,fn,tmps:=a.tmps,params:=ps,assign,body,defers:=D }:=⟨_,rfl⟩;have a5:W1.heap[L]?=some (.loop (rec .ready none)):=by rw[j];exact a5
 refine⟨L,mark,W1,{ target:=.fn (.func g) y'.toArray,args:=#[.func (.yield L) #[] #[]] },W1,g,
  #[.func (.yield L) #[] #[]]++y'.toArray,W1,?_,?_,fun _ _=>trivial,?_,fun q=>(by cases q),?_⟩
 .exact X
 .simp only[resolve,e1];simp[go_sem]
 .simp[invoke,go_sem,hit.enter]
 .let St:Nat->Phi->AM->World->Prop:=fun k φ' M' W=>k<=S.n/\∃Q,RRounds P f ps.toList assign body S k Q e0 mf/\Grow m Q/\Good φ M w m Q φ' M' W /\
   W.heap[L]?=some (.loop (rec .ready none))/\DP W
  let b3:World->Prop:=fun W=>∃c φ' M',((c=Code.ret/\e0 = .ret)\/∃id,c = .exit id/\e0 = .exit id)/\Good φ M w m mf φ' M' W /\
   W.heap[L]?=some (.loop (rec .done (some c)))/\DP W
  refine CallsIn.mono (hit.calls L St b3 φ M W1 y' ?_ ?_ ?_ ?_ e3) ?_
  .rintro k φ' M' W ⟨_,Q,k2,_,k4,_⟩;exact⟨k4.le,Q,k4.rel,k4.sub,k2.pre⟩
  .rintro k φ' M' W W' ⟨k0,Q,k2,k3,k4,k5,k6⟩ hb;exact⟨k0,Q,k2,k3,k4.below hb,(hb.block _ (Array.getElem?_eq_some_iff.1 k5).1).trans k5,U _ _ hb k6⟩
  .rintro k φ' M' W V a8 ⟨_,Q,k2,k3,d,B,hd⟩ b4
   have round:∀{f1 f3:Fr}{m1:Mem}{f4:Fr}{m2:Mem}{eb:Exit},yblq (S.el k) ps.toList f=some f1->ydb P assign f1 Q .normal f3 m1->ydb P body f3 m1 eb f4 m2->m2.next<=mf.next ->
    ∀ (QQ:Ending->World->Prop),(∀(i:Phi) (C:AM) (y:World) (b:Option Code),(b=none/\eb = .normal\/(b=some .ret/\eb = .ret)\/∃id,b=some (.exit id)/\eb = .exit id)->φ'.le i->Grow m m2->Good φ M w m m2 i C y ->
      y.heap[L]?=some (.loop (rec (if b.isNone then .ready else .done) b))->DP y->QQ (.returned (.bool b.isNone)) y)->(eb = .normal\/eb = .ret\/∃id,eb = .exit id) ->
    YieldAt Fence.wide 0 P L V.toArray W QQ:=by
    intro f1 f3 m1 f4 m2 eb p1 R T c0 QQ a6 c7;have a3:yhm φ' Q.next mf.next:=d.fresh k3.ext c9
    have b7:L<W.heap.size:=(Array.getElem?_eq_some_iff.1 B).1
    have d1:ps.size=V.toArray.size:=by
     have h1:∀{vs:List Value}{qs:List Nat}{f f':Fr},yblq vs qs f=some f'->vs.length=qs.length:=by
      intro vs
      induction vs with
      | nil=>intro qs f f' h;cases qs with
        |nil=>rfl
        |cons=>cases h
      | cons v vs ih=>intro qs f f' h;cases qs with
        |nil=>cases h
        | cons q qs =>
          obtain⟨f2,_,h2⟩:=Option.bind_eq_some_iff.1 h;simp[ih h2]
     have:=h1 p1;have h2:=b4.length;simp at this ⊢;omega
    have hy:=run_yield (P:=P) (args:=V.toArray) B (by rw[j];exact d1.symm)
    rw[j]at hy;refine⟨fn,_,assign,body,hy,roundIn_of_wpIn (F:=Fence.wide) (n:=0) trivial ?_⟩;have a0:=ybiz (hf.mono d.le) p1 b4
    have b5:FrR φ' f1 { tmps:=(ps.zip V.toArray).foldl (fun tmps (t,a)=>tmps.setIfInBounds t a) a.tmps,defers:=[] }:=by
     rw[yza];exact⟨a0.size,a0.get⟩
    refine wpIn_mono (R.2 φ' M' W _ (some L) (fun l q=>by cases q;exact⟨_,B⟩) d.rel d.sub b5 (a3.left (zAJ T.1.ext.next c0))) ?_
    rintro e' a1 w1 ⟨rfl,c1,M1,K,c8,_⟩;have a9:w1.heap[L]?=some (.loop (rec .ready none)):=(K.wg.keep _ b7 (Img.not_loop d.rel B)).trans B;have c5:DP w1:=s _ _ _ _ _ _ d.rel K.wg hd;have b8:L<w1.heap.size:=(Array.getElem?_eq_some_iff.1 a9).1;refine⟨_,run_beginRound a9 (by rw[j]),?_⟩
    have G1:Good φ M w m m1 c1 M1 w1:=Good.trans k3.ext R.1.ext R.1.low d K;have G1':=G1.put (l:=L) (x:=.loop { rec .ready none with state:=.busy }) ⟨_,a9⟩ (by omega)
    have Z:(w1.putObj L (.loop { rec .ready none with state:=.busy })).heap[L]?=some (.loop { rec .ready none with state:=.busy }):=World.putObj_heap_same b8;have c6:DP (w1.putObj L (.loop { rec .ready none with state:=.busy })):=J _ _ c5;refine wpIn_mono (T.2 c1 M1 _ a1 (some L) (fun l q=>by cases q;exact⟨_,Z⟩) G1'.rel G1'.sub c8 ((K.fresh R.1.ext a3).left c0)) ?_
    rintro e' a2 y ⟨rfl,i,C,Y,_,_⟩;have b9:L<(w1.putObj L (.loop { rec .ready none with state:=.busy })).heap.size:=(Array.getElem?_eq_some_iff.1 Z).1;have o:=(Y.wg.keep _ b9 (Img.not_loop G1'.rel Z)).trans Z;have A:=s _ _ _ _ _ _ G1'.rel Y.wg c6;have N:L<y.heap.size:=(Array.getElem?_eq_some_iff.1 o).1;have G2:Good φ M w m m2 i C y:=Good.trans (k3.trans R.1).ext T.1.ext T.1.low G1' Y;have p:φ'.le i:=Phi.le_trans K.le Y.le
    have z:∀(b:Option Code),(y.putObj L (.loop (rec (if b.isNone then .ready else .done) b))).heap[L]?=some (.loop (rec (if b.isNone then .ready else .done) b)) /\
     DP (y.putObj L (.loop (rec (if b.isNone then .ready else .done) b)))/\Good φ M w m m2 i C (y.putObj L (.loop (rec (if b.isNone then .ready else .done) b))) /\
     (Instr.endRound L b).run P y = .ok (.bool b.isNone) (y.putObj L (.loop (rec (if b.isNone then .ready else .done) b))):=fun b=>by
     refine⟨World.putObj_heap_same N,J _ _ A,G2.put ⟨_,o⟩ (by omega),?_⟩
     have:=run_endRound (P:=P) b o;rw[j]at this ⊢;exact this
    have u:=(k3.trans R.1).trans T.1;rcases c7 with rfl|rfl|⟨id,rfl⟩
    .obtain⟨E,G,H,I⟩:=z none;exact⟨_,_,I,a6 i C _ none (.inl ⟨rfl,rfl⟩) p u H E G⟩
    .obtain⟨E,G,H,I⟩:=z (some .ret);exact⟨_,_,I,a6 i C _ (some .ret) (.inr (.inl ⟨rfl,rfl⟩)) p u H E G⟩
    .obtain⟨E,G,H,I⟩:=z (some (.exit id));exact⟨_,_,I,a6 i C _ (some (.exit id)) (.inr (.inr ⟨id,rfl,rfl⟩)) p u H E G⟩
   generalize b6:k=k' at k2
   cases k2 with
   |done=>omega
   | next hk hp p1 R T b0 O =>
     subst b6;have g2:=(k3.trans R.1).trans T.1;have g3:=hit.grow _ _ a8 g2.ext.wf b0;refine round p1 R T (zAJ g3.ext.next (O.grow hit g3.ext.wf).ext.next) _ ?_ (.inl rfl)
     rintro i C y b hj p u G2 o A;rcases hj with⟨rfl,_⟩|⟨_,hq⟩|⟨_,_,hq⟩
     .refine .inl ⟨rfl,i,C,p,⟨_,G2.rel,G2.sub,b0⟩,fun M3 w3 b2=>?_⟩;have a7:=hit.good _ _ _ _ _ _ _ a8 g2.ext.wf G2.rel G2.sub b0 b2;have N:=(Array.getElem?_eq_some_iff.1 o).1;exact⟨a8,_,O,u.trans g3,Good.trans u.ext g3.ext g3.low G2 a7,(a7.wg.keep _ N (Img.not_loop G2.rel o)).trans o,s _ _ _ _ _ _ G2.rel a7.wg A⟩
     .cases hq
     .cases hq
   | stop hk hp p1 R he T =>
     subst b6;refine round p1 R T (zZ _) _ ?_ (.inr he);rintro i C y b hj p u G2 o A;rcases hj with⟨_,rfl⟩|⟨rfl,rfl⟩|⟨id,rfl,rfl⟩
     .rcases he with h|⟨_,h⟩<;>cases h
     .exact .inr ⟨rfl,.ret,i,C,.inl ⟨rfl,rfl⟩,G2,o,A⟩
     .exact .inr ⟨rfl,.exit id,i,C,.inr ⟨id,rfl,rfl⟩,G2,o,A⟩
  .refine⟨Nat.zero_le _,m,h3,Grow.refl hw,(Good.refl hR hs).below c4,a5,c3⟩
  .have z:∀{φ' M' W c st},st ≠ .busy->Good φ M w m mf φ' M' W->W.heap[L]?=some (.loop (rec st c))->DP W ->
    ∃ w4,(Instr.endLoop L).run P W = .ok c w4/\Good φ M w m mf φ' M' w4/\FrR φ' f { a with defers:=mark++a.defers } /\
      Df w w4 a { a with defers:=mark++a.defers }:=by
    intro φ' M' W c st b2 d B hd;have b7:L<W.heap.size:=(Array.getElem?_eq_some_iff.1 B).1;have a4:=run_endLoop (P:=P) B (by rw[j];exact b2)
    have b1:(rec st c).pending=c:=by rw[j]
    rw[b1]at a4;exact⟨_,a4,d.put ⟨_,B⟩ (by omega),⟨(hf.mono d.le).size,(hf.mono d.le).get⟩,c2 _ a (J _ _ hd)⟩
   rintro e W ⟨⟨v,rfl⟩,(⟨φ',M',_,Q,k2,k3,d,B,hd⟩|⟨c,φ',M',hc,d,B,hd⟩)⟩
   .obtain⟨rfl,rfl⟩:=k2.at_end;obtain⟨w4,r1,r2,r3,r4⟩:=z (by simp) d B hd
    exact⟨none,w4,r1,rfl,φ',M',r2,r3,r4⟩
   .obtain⟨w4,r1,r2,r3,r4⟩:=z (by simp) d B hd
    rcases hc with⟨rfl,rfl⟩|⟨id,rfl,rfl⟩
    .exact⟨some .ret,w4,r1,wpIn_ret ⟨rfl,φ',M',r2,r3,r4⟩⟩
    .exact⟨some (.exit id),w4,r1,wpIn_exit ⟨rfl,φ',M',r2,r3,r4⟩⟩
end
end Ev
end
end Go.Proofs.YtlbonpgkofloeaaGreatDoor
