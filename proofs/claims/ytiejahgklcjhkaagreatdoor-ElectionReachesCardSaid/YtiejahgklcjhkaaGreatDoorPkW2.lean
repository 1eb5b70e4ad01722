/- Joined. -/
import Derived.Test.YtiejahgklcjhkaaGreatDoorPkW1
set_option linter.unusedSimpArgs false
set_option linter.unusedVariables false
open Nat renaming ble_eq_true_of_le->zA,beq->zC,eq_of_beq_eq_true->zD,add_mul->zF,succ->zG,beq_refl->zH,mul_le_mul_right->zK,le_trans->zM,lt_of_lt_of_le->zN,le_refl->zT,zero_add->zU,add_assoc->zV,ble->zAB,min->zAC,lt_irrefl->zAE,succ_mul->zAH,mul_comm->zAI,le_min->zAM,div_lt_of_lt_mul->zAN,min_eq_left->zAQ,not_lt_zero->zAS,div_add_mod->zAT,blt->zAU,sub->zAV,zero_mul->zAX,add_zero->zAZ,mod_lt->zBB,mul->zBC
open Bool renaming and_eq_true->zB,not_eq_true'->zZ
open List renaming all_cons->zI,getElem?_append_right->zO,getElem?_append_left->zQ,mem_cons_of_mem->zS,all_append->zW,mem_cons_self->zX,length_map->zAA,length_append->zAD,append_assoc->zAG,elem->zAK,getElem?_drop->zAO,length_take->zAP,forIn_cons->zAR,map_cons->zAW,all_map->zAY,range'->zBA
open Option renaming getD_some->zJ,bind_assoc->zAF
open Int renaming eq_ofNat_of_zero_le->zL,toNat_natCast->zY
open Classical renaming choose->zAJ,choose_spec->zAL
open Go
namespace Go.Proofs.YtiejahgklcjhkaaGreatDoor
section
namespace Sh
open Go Ev
section
variable {P:Program}{lo:Nat}{F:AM}{ω:Om}{s:SS}{f:Fr}{m:Mem}{o:Oper}{c:Prop}{r:SRec}
theorem ybtx(hc:Conc lo F ω s f m){x:Operand}{v:SV}(hop:o.op = .nilCheck x)(hx:s.get x=some v)(hv:(∃c,v = .rf c)\/∃β i j,v = .pt β i j):OpS P lo F ω f m o ⟨c,r,v,s⟩:=by
 obtain⟨u,e,hr⟩:=hc.get hx
 have:∃a,u = .pointer (some a):=by
  rcases hv with⟨_,rfl⟩|⟨_,_,_,rfl⟩
  .obtain⟨bk,p,T,N,e,zz,L,rfl,_⟩:=hr.rf_inv;exact⟨_,rfl⟩
  .obtain⟨k,z,_,rfl⟩:=hr.pt_inv;exact⟨_,rfl⟩
 obtain⟨a,rfl⟩:=this;refine OpS.idle hc (u:=.pointer (some a)) ?_ hr;unfold evOp;rw[hop];show ob (f.get x) evNilCheck=_;rw[e];rfl
theorem yvh(b p q:Nat):addrAt ⟨b,p,none⟩ q=some ⟨.pointer (some ⟨b,p+q,none⟩),.none,[]⟩:=by
 show ptrAt b (Nat.add p q)=_;unfold ptrAt;rw[ybl];rfl
theorem ykt{l:List SV}{g:SV->Bool}(h:l.all g=true)(n:Nat):(l.drop n).all g=true:=List.all_eq_true.2 fun x hx=>List.all_eq_true.1 h x (List.mem_of_mem_drop hx)
theorem ysv{l:List SV}{g:SV->Bool}(h:l.all g=true)(n:Nat):(l.take n).all g=true:=List.all_eq_true.2 fun x hx=>List.all_eq_true.1 h x (List.mem_of_mem_take hx)
theorem RV.rf_in{l:List SV}{bk p T N e zz}{L:List Value}(h1:F bk=some (.cells T N e zz))(h2:p+L.length<=N)(h3:∀j,j<L.length->T.get (p+j)=L[j]?)(h4:RVL F om0 l L)(h5:l.all one1=true){q n:Nat}(hq:q+n<=l.length) :
 RV F ω (.rf ((l.drop q).take n)) (.pointer (some ⟨bk,p+q,none⟩)):=by
 rw[h4.length]at hq;have hlen:((L.drop q).take n).length=n:=by simp;omega
 refine .rf h1 (L:=(L.drop q).take n) (by rw[hlen];omega) (fun j hj=>?_) ((h4.drop q).take n) (ysv (ykt h5 q) n)
 rw[hlen]at hj;rw[show p+q+j=p+(q+j)by omega,h3 _ (by omega)]
 simp[hj]
theorem ybts (hc:Conc lo F ω s f m) {t:TypeId}{x:Operand}{k:Nat}{fs:Array Field}{fd:Field}{i:TypeInfo}(hop:o.op = .fieldAddr t x k) (hd:P.underlying t=some (.struct fs)) (hf:fs[k]?=some fd) (hi:P.info? fd.type=some i) (h0:i.size≠0)
 {v w:SV}(hx:s.get x=some v) (hw:(∃l,v = .rf l/\fd.offset+i.size<=l.length/\w = .rf ((l.drop fd.offset).take i.size))\/∃β a j,v = .pt β a j/\w = .pt β a (j+fd.offset)):OpS P lo F ω f m o ⟨c,r,w,s⟩:=by
 obtain⟨u,e,hr⟩:=hc.get hx
 have hev:∀{b p:Nat},u = .pointer (some ⟨b,p,none⟩)->evOp P f o m=some ⟨.pointer (some ⟨b,p+fd.offset,none⟩),.none,[]⟩:=by
  rintro b p rfl;unfold evOp;rw[hop];show ob (f.get x) (evFieldAddr P t k)=_;rw[e];show ob (P.underlying t) _=_;rw[hd];show ob fs[k]? _=_;rw[hf];show ob (P.info? fd.type) _=_;rw[hi];show iteB (zC i.size 0) none _=_;rw[ybh,if_neg (by intro q;exact h0 (zD q)),yvh]
 rcases hw with⟨l,rfl,hl,rfl⟩|⟨β,a,j,rfl,rfl⟩
 .obtain⟨bk,p,T,N,e',zz,L,rfl,h1,h2,h3,h4,h5⟩:=hr.rf_inv;exact OpS.idle hc (hev rfl) (RV.rf_in h1 h2 h3 h4 h5 hl)
 .obtain⟨k',z,hk,rfl⟩:=hr.pt_inv;refine OpS.idle hc (hev rfl) ?_;rw[zV];exact .pt hk
theorem RV.ag_inv{l:List SV}{u:Value}(h:RV F ω (.ag l) u):∃L:List Value,u = .agg L.toArray/\RVL F ω l L:=by
 cases h with
 |ag h=>exact⟨_,rfl,h⟩
theorem RV.tp_inv{l:List SV}{u:Value}(h:RV F ω (.tp l) u):∃L:List Value,u = .tuple L.toArray/\RVL F ω l L:=by
 cases h with
 |tp h=>exact⟨_,rfl,h⟩
theorem yddg (hc:Conc lo F ω s f m) {t:TypeId}{x:Operand}{k:Nat}{fs:Array Field}{fd:Field}{i:TypeInfo}{d:TypeDesc}(hop:o.op = .field t x k) (hd:P.underlying t=some (.struct fs)) (hf:fs[k]?=some fd) (hi:P.info? fd.type=some i) (hu:P.underlying fd.type=some d)
 {l:List SV}{w:SV}(hx:s.get x=some (.ag l)) (hw:part (isAggD d) fd.offset i.size l=some w):OpS P lo F ω f m o ⟨c,r,w,s⟩:=by
 obtain⟨u,e,hr⟩:=hc.get hx;obtain⟨L,rfl,hL⟩:=hr.ag_inv;obtain⟨hp,hpv⟩:=yul hw hL
 have hev:∀{v:Value},partA P fd.type L fd.offset=some v->evOp P f o m=some ⟨v,.none,[]⟩:=by
  intro v hv;unfold evOp;rw[hop];show ob (f.get x) (evFieldOf P t k)=_;rw[e];show ob (P.underlying t) _=_;rw[hd];show ob fs[k]? _=_;rw[hf];show ob (partA P fd.type L fd.offset) val=_;rw[hv];rfl
 unfold partA at hev;rw[hu,hi]at hev;simp only at hev;rcases hpv with⟨ha,hv⟩|⟨ha,hn,v,h1,hv⟩
 .rw[ha]at hev;simp only[cond_true,takeFrom]at hev;have hlen:((L.drop fd.offset).take i.size).length=i.size:=by simp;omega
  rw[hlen,zH]at hev;exact OpS.idle hc (hev rfl) hv
 .rw[ha]at hev;simp only[cond_false]at hev;exact OpS.idle hc (hev h1) hv
theorem RV.sl_inv{z n:Nat}{g:Nat->List SV}{u:Value}(h:RV F ω (.sl z n g) u):(n=0/\Z0 u)\/∃bk p cp T N e zz,∃L:Nat->List Value,u = .slice (some ⟨bk,p,none⟩) n cp/\F bk=some (.cells T N e zz)/\(zz=z\/zz=0)/\p+n*z<=N /\
 (∀k,k<n->(L k).length=z)/\(∀k,k<n->∀j,j<z->T.get (p+k*z+j)=(L k)[j]?)/\(∀k,k<n->RVL F om0 (g k) (L k))/\(∀k,k<n->(g k).all one1=true):=by
 cases h with
 |sl0 h=>exact .inl ⟨rfl,h⟩
 |sl h1 h2 h3 h4 h5 h6 h7=>exact .inr ⟨_,_,_,_,_,_,_,_,rfl,h1,h2,h3,h4,h5,h6,h7⟩
theorem RV.os_inv{β:Nm}{p n:Nat}{ap:Bool}{u:Value}(h:RV F ω (.os β p n ap) u):(∃k z cp,ω β=some (some (k,z))/\u = .slice (some ⟨k,p*z,none⟩) n cp/\(ap=true->cp=CU\/(cp=n/\n<CU)))\/(ω β=some none/\p=0/\n=0/\u = .slice none 0 0):=by
 cases h with
 |os h hb=>exact .inl ⟨_,_,_,h,rfl,hb⟩
 |os0 h=>exact .inr ⟨h,rfl,rfl,rfl⟩
theorem yjo{k n z:Nat}(h:k<n):k*z+z<=n*z:=by
 have:=zK z (Nat.succ_le_of_lt h)
 rwa [zAH]at this
theorem ydto (hc:Conc lo F ω s f m) {t elem:TypeId}{x y:Operand}{i:TypeInfo}(hop:o.op = .indexAddr t x y) (hd:P.underlying t=some (.slice elem)) (hi:P.info? elem=some i)
 {v:SV}{kk:IntKind}{n:Int}(hx:s.pget x=some v) (hy:s.get y=some (.i kk n)) {q:XR}(h:idxX s n i.size v=some q) (hr:q.c):OpS P lo F ω f m o q:=by
 obtain⟨u,e,hu⟩:=hc.pget hx;obtain⟨u',e',hu'⟩:=hc.get hy;cases hu'.int_inv
 have hev:∀{b p len cp a:Nat},u = .slice (some ⟨b,p,none⟩) len cp->n=Int.ofNat a->a<len->evOp P f o m=some ⟨.pointer (some ⟨b,p+a*i.size,none⟩),.none,[]⟩:=by
  rintro b p len cp a rfl rfl ha;unfold evOp;rw[hop];show(ob (f.get x) fun x=>ob (f.get y) (evIndexAddr P t x))=_;rw[e];show ob (f.get y) (evIndexAddr P t _)=_;rw[e'];show ob (P.underlying t) _=_;rw[hd];show iteB (zAU a len) (ob (P.info? elem) fun inf=>addrAt ⟨b,p,none⟩ (zBC a inf.size)) none=_;rw[ybh,if_pos (show zAU a len=true from zA ha),hi]
  exact yvh _ _ _
 unfold idxX at h;split at h
 .rename_i z' len g
  split at h
  .rename_i hz
   subst hz;cases h
   obtain⟨h0,h1⟩:0<=n/\n<len:=hr;obtain⟨a,rfl⟩:=zL h0;have ha:a<len:=by omega
   rcases hu.sl_inv with⟨q,_⟩|⟨bk,p,cp,T,N,e2,zz,L,rfl,g1,g2,g3,g4,g5,g6,g7⟩
   .omega
   .refine OpS.idle hc (hev rfl rfl ha) ?_;rw[zY];have:=yjo (z:=i.size) ha;exact .rf (L:=L a) g1 (by rw[g4 a ha];omega) (fun j hj=>g5 a ha j (by rw[g4 a ha]at hj;exact hj)) (g6 a ha) (g7 a ha)
  .cases h
 .rename_i β p len cp
  split at h
  .rename_i b hb
   split at h
   .rename_i hz
    cases h
    obtain⟨h0,h1⟩:0<=n/\n<len:=hr;obtain⟨a,rfl⟩:=zL h0;have ha:a<len:=by omega
    rcases hu.os_inv with⟨k,z,cp,hk,rfl,_⟩|⟨_,_,q,_⟩
    .obtain⟨rfl,_⟩:=hc.ownAt hb hk;refine OpS.idle hc (hev rfl rfl ha) ?_;rw[zY,<-hz,<-zF];exact .pt hk
    .omega
   .cases h
  .cases h
 .cases h
theorem yccg (hc:Conc lo F ω s f m) {t elem:TypeId}{x y:Operand}{i:TypeInfo}{len:Nat}(hop:o.op = .indexAddr t x y) (hd:P.underlying t=some (.array len elem)) (hi:P.info? elem=some i)
 {v w:SV}{kk:IntKind}{n:Int}(hx:s.get x=some v) (hy:s.get y=some (.i kk n)) (hn:0<=n/\n<len)
 (hw:(∃β b a j,v = .pt β a j/\lookO s.o β=some b/\b.z=i.size/\w = .pt β (a+n.toNat) j)\/(∃β a j,v = .pt β a j/\w = .pt β a (j+n.toNat*i.size))\/(∃l,v = .rf l/\n.toNat*i.size+i.size<=l.length/\w = .rf ((l.drop (n.toNat*i.size)).take i.size))):OpS P lo F ω f m o ⟨c,r,w,s⟩:=by
 obtain⟨u,e,hu⟩:=hc.get hx;obtain⟨u',e',hu'⟩:=hc.get hy;cases hu'.int_inv
 obtain⟨a,rfl⟩:=zL hn.1;have ha:a<len:=by omega
 have hev:∀{b p:Nat},u = .pointer (some ⟨b,p,none⟩)->evOp P f o m=some ⟨.pointer (some ⟨b,p+a*i.size,none⟩),.none,[]⟩:=by
  rintro b p rfl;unfold evOp;rw[hop];show(ob (f.get x) fun x=>ob (f.get y) (evIndexAddr P t x))=_;rw[e];show ob (f.get y) (evIndexAddr P t _)=_;rw[e'];show ob (P.underlying t) _=_;rw[hd];show iteB (zAU a len) (ob (P.info? elem) fun inf=>addrAt ⟨b,p,none⟩ (zBC a inf.size)) none=_;rw[ybh,if_pos (show zAU a len=true from zA ha),hi]
  exact yvh _ _ _
 simp only[zY]at hw;rcases hw with⟨β,b,a',j,rfl,hb,hz,rfl⟩|⟨β,a',j,rfl,rfl⟩|⟨l,rfl,hl,rfl⟩
 .obtain⟨k,z,hk,rfl⟩:=hu.pt_inv;obtain⟨rfl,_⟩:=hc.ownAt hb hk;refine OpS.idle hc (hev rfl) ?_;have:=RV.pt (F:=F) (i:=a'+a) (j:=j) hk;rw[show a'*b.z+j+a*i.size=(a'+a)*b.z+j by rw[<-hz,zF];omega]
  exact this
 .obtain⟨k,z,hk,rfl⟩:=hu.pt_inv;refine OpS.idle hc (hev rfl) ?_;rw[zV];exact .pt hk
 .obtain⟨bk,p,T,N,e2,zz,L,rfl,h1,h2,h3,h4,h5⟩:=hu.rf_inv;exact OpS.idle hc (hev rfl) (RV.rf_in h1 h2 h3 h4 h5 hl)
theorem ycaz(hc:Conc lo F ω s f m){x:Operand}{k:Nat}{l:List SV}{v:SV}(hop:o.op = .extract x k)(hx:s.get x=some (.tp l))(hk:l[k]?=some v):OpS P lo F ω f m o ⟨c,r,v,s⟩:=by
 obtain⟨u,e,hu⟩:=hc.get hx;obtain⟨L,rfl,hL⟩:=hu.tp_inv;obtain⟨w,h1,h2⟩:=hL.get hk;refine OpS.idle hc (u:=w) ?_ h2;unfold evOp;rw[hop];show ob (f.get x) (evExtract k)=_;rw[e];show ob (L.toArray)[k]? val=_;rw[show L.toArray[k]?=some w by simpa using h1]
 rfl
theorem ydpe(hc:Conc lo F ω s f m){g:FuncId}{a b:Array Operand}{va vb:List SV}(hop:o.op = .makeFunc (.func g) a b)(ha:s.gets a.toList=some va)(hb:s.gets b.toList=some vb):OpS P lo F ω f m o ⟨c,r,.fn g va vb,s⟩:=by
 obtain⟨ua,e1,h1⟩:=hc.gets ha;obtain⟨ub,e2,h2⟩:=hc.gets hb;refine OpS.idle hc ?_ (.fn h1 h2);unfold evOp;rw[hop];show(ob (valsA f a.toList) fun a=>ob (valsA f b.toList) fun b=>evMakeFunc a b (.func g))=_;rw[e1];show(ob (valsA f b.toList) fun b=>evMakeFunc ua b (.func g))=_;rw[e2];rfl
end
end Sh
end
section
namespace Sh
open Go Ev
section
variable {P:Program}{lo:Nat}{F:AM}{ω:Om}{s:SS}{f:Fr}{m:Mem}{o:Oper}{c:Prop}{r:SRec}
theorem wrap_in{k:IntKind}{n:Int}(h:inK k n):k.wrap n=n:=by
 obtain⟨h1,h2⟩:=h;unfold IntKind.wrap;cases k<;>simp[IntKind.min,IntKind.max,IntKind.bits,IntKind.signed]at *<;>omega
theorem yba{α β:Type}(P:Program)(k:α->Sem β):∀{S:Sem α}{a:α},runPure P S=some a->runPure P (S >>= k)=runPure P (k a):=by
 intro S
 induction S with
 |pure x=>intro a h;cases h;rfl
 |program j ih=>intro a h;exact ih P h
 |_=>intro a h;cases h
theorem ygo{u:Value}{us:List Value}(hus:valsA f o.op.operands.toList=some us)(ha:us.all atomA=true)(hr:runPure P (execOp (fun x=>(f.get x).getD undef) o)=some (.value u))(hu:atomA u=true):pureA P f o=some ⟨u,.none,[]⟩:=by
 unfold pureA;rw[hus];simp only[ha,cond_true];rw[hr];simp only[hu,cond_true]
theorem ybbc{x y:Operand}{a b:Value}(hx:f.get x=some a)(hy:f.get y=some b):valsA f [x,y]=some [a,b]:=by
 unfold valsA;rw[hx];simp only;unfold valsA;rw[hy];rfl
theorem yciq{x:Operand}{a:Value}(hx:f.get x=some a):valsA f [x]=some [a]:=by
 unfold valsA;rw[hx];rfl
theorem ybq{t:TypeId}{d:TypeDesc}(h:P.underlying t=some d):runPure P (underlying t)=some d:=by
 unfold underlying;show runPure P (match P.underlying t with|some d=>_|none=>_)=_
 rw[h];rfl
theorem ydpu(hc:Conc lo F ω s f m){xt yt:TypeId}{x y:Operand}(hop:o.op = .binOp .sub xt x y yt){k:IntKind}{n n':Int}(hx:s.get x=some (.i k n))(hy:s.get y=some (.i k n')):OpS P lo F ω f m o ⟨c,r,.i k (k.wrap (n-n')),s⟩:=by
 obtain⟨a,e1,r1⟩:=hc.get hx;obtain⟨b,e2,r2⟩:=hc.get hy;have hev:evOp P f o m=pureA P f o:=by unfold evOp;rw[hop]
 cases r1.int_inv
 cases r2.int_inv
 have hguard:runPure P (do eqGuard .sub xt x y (.int k n) (.int k n');binOp .sub xt (.int k n) (.int k n'):Sem Value)=some (.int k (k.wrap (n-n'))):=by
  have:runPure P (eqGuard .sub xt x y (.int k n) (.int k n'))=some ():=rfl;refine(yba P (fun _=>binOp .sub xt (.int k n) (.int k n')) this).trans ?_;show runPure P (if k≠k then _ else _)=_
  rw[if_neg (by simp)]
  rfl
 have hrun:runPure P (execOp (fun x=>(f.get x).getD undef) o)=some (.value (.int k (k.wrap (n-n')))):=by
  unfold execOp;rw[hop];simp only[e1,e2,zJ];exact(yba P (fun v=>pure (Next.value v)) hguard).trans rfl
 refine OpS.idle hc (u:=.int k (k.wrap (n-n'))) ?_ .i;rw[hev];exact ygo (us:=[.int k n,.int k n']) (by rw[hop];exact ybbc e1 e2) rfl hrun rfl
theorem ydqy(hc:Conc lo F ω s f m){xt yt:TypeId}{x y:Operand}(hop:o.op = .binOp .add xt x y yt){k:IntKind}{n n':Int}(hx:s.get x=some (.i k n))(hy:s.get y=some (.i k n')):OpS P lo F ω f m o ⟨c,r,.i k (k.wrap (n+n')),s⟩:=by
 obtain⟨a,e1,r1⟩:=hc.get hx;obtain⟨b,e2,r2⟩:=hc.get hy;have hev:evOp P f o m=pureA P f o:=by unfold evOp;rw[hop]
 cases r1.int_inv
 cases r2.int_inv
 have hguard:runPure P (do eqGuard .add xt x y (.int k n) (.int k n');binOp .add xt (.int k n) (.int k n'):Sem Value)=some (.int k (k.wrap (n+n'))):=by
  have:runPure P (eqGuard .add xt x y (.int k n) (.int k n'))=some ():=rfl;refine(yba P (fun _=>binOp .add xt (.int k n) (.int k n')) this).trans ?_;show runPure P (if k≠k then _ else _)=_
  rw[if_neg (by simp)]
  rfl
 have hrun:runPure P (execOp (fun x=>(f.get x).getD undef) o)=some (.value (.int k (k.wrap (n+n')))):=by
  unfold execOp;rw[hop];simp only[e1,e2,zJ];exact(yba P (fun v=>pure (Next.value v)) hguard).trans rfl
 refine OpS.idle hc (u:=.int k (k.wrap (n+n'))) ?_ .i;rw[hev];exact ygo (us:=[.int k n,.int k n']) (by rw[hop];exact ybbc e1 e2) rfl hrun rfl
theorem ydtn(hc:Conc lo F ω s f m){op:BinOp}{xt yt:TypeId}{x y:Operand}(hop:o.op = .binOp op xt x y yt){v w:SV}(hx:s.get x=some v)(hy:s.get y=some w){q:Prop×SV}(h:xbin op v w=some q)(hq:q.1):OpS P lo F ω f m o ⟨c,r,q.2,s⟩:=by
 obtain⟨a,e1,r1⟩:=hc.get hx;obtain⟨b,e2,r2⟩:=hc.get hy;have hev:evOp P f o m=pureA P f o:=by unfold evOp;rw[hop]
 have main:∀{u:Value},atomA a=true->atomA b=true->atomA u=true->runPure P (execOp (fun x=>(f.get x).getD undef) o)=some (.value u)->RV F ω q.2 u->OpS P lo F ω f m o ⟨c,r,q.2,s⟩:=by
  intro u h1 h2 h3 h4 h5;refine OpS.idle hc (u:=u) ?_ h5;rw[hev];exact ygo (us:=[a,b]) (by rw[hop];exact ybbc e1 e2) (by simp[h1,h2]) h4 h3
 unfold xbin at h;split at h
 .rename_i k n k' n'
  cases r1.int_inv
  cases r2.int_inv
  have hrun:∀{u:Value},runPure P (do eqGuard op xt x y (.int k n) (.int k' n');binOp op xt (.int k n) (.int k' n'):Sem Value)=some u->runPure P (execOp (fun x=>(f.get x).getD undef) o)=some (.value u):=by
   intro u hu;unfold execOp;rw[hop];simp only[e1,e2,zJ];exact(yba P (fun v=>pure (Next.value v)) hu).trans rfl
  have hguard:∀{S:Sem Value}{u:Value},runPure P S=some u->runPure P (do eqGuard op xt x y (.int k n) (.int k' n');S:Sem Value)=some u:=by
   intro S u hu;have:runPure P (eqGuard op xt x y (.int k n) (.int k' n'))=some ():=by cases op<;>rfl
   exact(yba P (fun _=>S) this).trans hu
  cases op with
  | add =>
    simp only at h;split at h
    .rename_i hk;subst hk;cases h
     refine main rfl rfl rfl (hrun (hguard (u:=.int k (n+n')) ?_)) .i;show runPure P (if k≠k then _ else _)=_
     rw[if_neg (by simp)]
     show some (Value.int k (k.wrap (n+n')))=_;rw[wrap_in hq]
    .cases h
  | sub =>
    simp only at h;split at h
    .rename_i hk;subst hk;cases h
     refine main rfl rfl rfl (hrun (hguard (u:=.int k (n-n')) ?_)) .i;show runPure P (if k≠k then _ else _)=_
     rw[if_neg (by simp)]
     show some (Value.int k (k.wrap (n-n')))=_;rw[wrap_in hq]
    .cases h
  | mul =>
    simp only at h;split at h
    .rename_i hk;subst hk;cases h
     refine main rfl rfl rfl (hrun (hguard (u:=.int k (n*n')) ?_)) .i;show runPure P (if k≠k then _ else _)=_
     rw[if_neg (by simp)]
     show some (Value.int k (k.wrap (n*n')))=_;rw[wrap_in hq]
    .cases h
  | quo =>
    simp only at h;split at h
    .rename_i hk;subst hk;cases h
     refine main rfl rfl rfl (hrun (hguard (u:=.int k (n.tdiv n')) ?_)) .i;show runPure P (if k≠k then _ else _)=_
     rw[if_neg (by simp)]
     show runPure P (if n'=0 then _ else _)=_
     rw[if_neg hq.1];show some (Value.int k (k.wrap (n.tdiv n')))=_;rw[wrap_in hq.2]
    .cases h
  | rem =>
    simp only at h;split at h
    .rename_i hk;subst hk;cases h
     refine main rfl rfl rfl (hrun (hguard (u:=.int k (n.tmod n')) ?_)) .i;show runPure P (if k≠k then _ else _)=_
     rw[if_neg (by simp)]
     show runPure P (if n'=0 then _ else _)=_
     rw[if_neg hq];rfl
    .cases h
  | shl =>
    cases h
    refine main rfl rfl rfl (hrun (hguard (u:=.int k (k.wrap (n*2^n'.toNat))) ?_)) .i;show runPure P (if n'<0 then _ else _)=_
    obtain⟨h0,h1⟩:0<=n'/\n'<k.bits:=hq;rw[if_neg (by omega)]
    show some (Value.int k (k.wrap (n*2^(min n'.toNat k.bits))))=_;rw[zAQ (by omega)]
  | shr =>
    cases h
    refine main rfl rfl rfl (hrun (hguard (u:=.int k (n.fdiv (2^n'.toNat))) ?_)) .i;show runPure P (if n'<0 then _ else _)=_
    obtain⟨h0,h1⟩:0<=n'/\n'<k.bits:=hq;rw[if_neg (by omega)]
    show some (Value.int k (n.fdiv (2^(min n'.toNat k.bits))))=_;rw[zAQ (by omega)]
  | and|or|xor|andNot =>
    simp only at h;split at h
    .rename_i hk;subst hk;cases h
     refine main rfl rfl rfl (hrun (hguard ?_)) .i;show runPure P (if k≠k then _ else _)=_
     rw[if_neg (by simp)]
     rfl
    .cases h
  | eql|neq|lss|leq|gtr|geq =>
    simp only at h;split at h
    .rename_i hk;subst hk;cases h
     refine main rfl rfl rfl (hrun (hguard ?_)) .b;show runPure P (if k≠k then _ else _)=_
     rw[if_neg (by simp)]
     rfl
    .cases h
 .cases h
theorem ydon(hc:Conc lo F ω s f m){ne:Bool}{xt yt:TypeId}{x y:Operand}(hop:o.op = .binOp (if ne then .neq else .eql) xt x y yt)(ht:P.underlying xt=some .bool){a b:Bool}(hx:s.get x=some (.b a))(hy:s.get y=some (.b b)):OpS P lo F ω f m o ⟨c,r,.b (if ne then a != b else a==b),s⟩:=by
 obtain⟨u,e1,r1⟩:=hc.get hx;obtain⟨u',e2,r2⟩:=hc.get hy;cases r1.bool_inv
 cases r2.bool_inv
 have hev:evOp P f o m=pureA P f o:=by unfold evOp;rw[hop]
 have heq:runPure P (Op.equal xt (.bool a) (.bool b))=some (a==b):=by
  unfold Op.equal Op.maxDepth Op.equalIn;exact(yba P _ (ybq ht)).trans rfl
 refine OpS.idle hc (u:=.bool (if ne then a != b else a==b)) ?_ .b
 rw[hev];refine ygo (us:=[.bool a,.bool b]) (by rw[hop];exact ybbc e1 e2) rfl ?_ rfl
 unfold execOp;rw[hop];simp only[e1,e2,zJ];cases ne with
 | true =>
   refine(yba P (fun v=>pure (Next.value v)) (a:=.bool (a != b)) ?_).trans rfl;exact(yba P (fun v=>pure (Value.bool (!v))) heq).trans (by cases a<;>cases b<;>rfl)
 | false =>
   refine(yba P (fun v=>pure (Next.value v)) (a:=.bool (a==b)) ?_).trans rfl;exact(yba P (fun v=>pure (Value.bool v)) heq).trans rfl
theorem ycu{α β:Type}(P:Program)(k:α->Sem β):∀(S:Sem α),runPure P (S >>= k)=(runPure P S).bind fun a=>runPure P (k a):=by
 intro S
 induction S with
 |pure x=>rfl
 |program j ih=>exact ih P
 |_=>rfl
def fsK(P:Program):Nat->List Field->Option (List Bool)
 |_,[]=>some []
 | o, f :: fs => if f.offset = o /\ (f.name == "_") = false then (match P.underlying f.type with
   |some (.int _)=>(fsK P (o+1) fs).map (false :: ·)
   |some .bool=>(fsK P (o+1) fs).map (true :: ·)
   |_=>none)else none
theorem yri{e:TypeId}{xs:Array Value}{n:Nat}{v:Value}{d:TypeDesc}(hd:P.underlying e=some d)(hs:isAggD d=false)(hv:xs[n]?=some v):runPure P (Go.part e xs n)=some v:=by
 unfold Go.part isAgg;rw[ycu,ycu,ybq hd]
 have h2:runPure P (match d with
  |.struct _ | .array _ _=>pure true
  |_=>pure false)=some false:=by cases d<;>first|rfl|cases hs
 refine(congrArg (fun z=>Option.bind z fun a=>runPure P (if a=true then(fun a=>Value.agg (xs.extract n (n+a))) <$> sizeOf e else match xs[n]? with
  |some v=>pure v
  | none => stuck "part: no such cell")) h2).trans ?_
 show runPure P (if false=true then _ else _)=_
 rw[if_neg (by simp),hv]
 rfl
theorem yjt(d:Nat)(t:TypeId)(xs ys:Array Value){fa:Array Field}(ht:P.underlying t=some (.struct fa))(hp:P.stoodInHeld t=false) :
 runPure P (Op.equalIn (d+1) t (.agg xs) (.agg ys))=runPure P (Op.eqFields d xs ys fa.toList):=by
 unfold Op.equalIn;refine(yba P _ (ybq ht)).trans ?_;show runPure P (program >>= _)=_;refine(yba P _ (a:=P) rfl).trans ?_;simp only[hp,Bool.false_eq_true,if_false];rw[<-Array.forIn_toList]
 generalize fa.toList=fs
 clear ht
 induction fs with
 |nil=>rfl
 | cons f fs ih =>
   simp only[zAR,Op.eqFields];split
   .simp only[ycu,zAF];refine congrArg (fun k=>(runPure P (Go.part f.type xs f.offset)).bind k) (funext fun a=>?_);refine congrArg (fun k=>(runPure P (Go.part f.type ys f.offset)).bind k) (funext fun b=>?_);refine congrArg (fun k=>(runPure P (Op.equalIn d f.type a b)).bind k) (funext fun r=>?_);cases r
    .rfl
    .simp only[ycu]at ih;exact ih
   .simp only[ycu,zAF]at ih ⊢;exact ih
theorem ybym{ks:List Bool}{l l':List SV}{q:Bool}(h:eqL (false::ks) l l'=some q):∃k n m a b q2,l = .i k n::a/\l' = .i k m::b/\eqL ks a b=some q2/\q=(decide (n=m)&&q2):=by
 match l,l',h with
 | .i k n::a,.i k' m::b,h =>
   simp only[eqL]at h;split at h
   .rename_i e;subst e;obtain⟨q2,hq,rfl⟩:=Option.map_eq_some_iff.1 h;exact⟨k,n,m,a,b,q2,rfl,rfl,hq,rfl⟩
   .cases h
theorem ybkq{ks:List Bool}{l l':List SV}{q:Bool}(h:eqL (true::ks) l l'=some q):∃x y a b q2,l = .b x::a/\l' = .b y::b/\eqL ks a b=some q2/\q=((x==y)&&q2):=by
 match l,l',h with
 | .b x::a,.b y::b,h =>
   simp only[eqL]at h;obtain⟨q2,hq,rfl⟩:=Option.map_eq_some_iff.1 h;exact⟨x,y,a,b,q2,rfl,rfl,hq,rfl⟩
theorem ybzp{l l':List SV}{q:Bool}(h:eqL [] l l'=some q):l=[]/\l'=[]/\q=true:=by
 match l,l',h with
 |[],[],h=>cases h;exact⟨rfl,rfl,rfl⟩
theorem yxu{d:Nat}{xs ys:List Value}:∀(fs:List Field) (ks:List Bool) (k:Nat) (l l':List SV) (q:Bool),fsK P k fs=some ks->eqL ks l l'=some q->RVL F ω l (xs.drop k)->RVL F ω l' (ys.drop k)->runPure P (Op.eqFields (d+1) xs.toArray ys.toArray fs)=some q
 | [],ks,k,l,l',q,h1,h2,_,_=>by
   cases h1
   obtain⟨rfl,rfl,rfl⟩:=ybzp h2;rfl
 | f :: fs,ks,k,l,l',q,h1,h2,h3,h4=>by
   unfold fsK at h1;split at h1
   .rename_i hf
    have main:∀{ks':List Bool}{a b:Value}{la lb:List SV}{q1 q2:Bool}{dd:TypeDesc},P.underlying f.type=some dd->isAggD dd=false->xs.drop k=a::xs.drop (k+1)->ys.drop k=b::ys.drop (k+1)->RVL F ω la (xs.drop (k+1))->RVL F ω lb (ys.drop (k+1)) ->
     runPure P (Op.equalIn (d+1) f.type a b)=some q1->fsK P (k+1) fs=some ks'->eqL ks' la lb=some q2->runPure P (Op.eqFields (d+1) xs.toArray ys.toArray (f::fs))=some (q1&&q2):=by
     intro ks' a b la lb q1 q2 dd hd ha ex ey ra rb he hk hq;have ih:=yxu (d:=d) fs ks' (k+1) la lb q2 hk hq ra rb;unfold Op.eqFields;have hn : f.name ≠ "_" := by simpa using hf.2
     rw[if_pos hn,hf.1]
     have gx:xs.toArray[k]?=some a:=by
      have:=congrArg (fun l=>l[0]?) ex
      simpa using this
     have gy:ys.toArray[k]?=some b:=by
      have:=congrArg (fun l=>l[0]?) ey
      simpa using this
     rw[yba P _ (yri hd ha gx),yba P _ (yri hd ha gy),yba P _ he];cases q1
     .rfl
     .exact ih
    have cons:∀{v:SV}{l:List SV}{zs:List Value}{k:Nat},RVL F ω (v::l) (zs.drop k)->∃a,zs.drop k=a::zs.drop (k+1)/\RV F ω v a/\RVL F ω l (zs.drop (k+1)):=by
     intro v l zs k h
     generalize hz:zs.drop k=z at h
     cases h with
     | cons h1 h2 =>
       rename_i u L
       have:zs.drop (k+1)=L:=by have e:=congrArg (List.drop 1) hz;rw[List.drop_drop]at e;exact e
       rw[this];exact⟨_,rfl,h1,h2⟩
    split at h1
    .rename_i kk hd
     obtain⟨ks',hk,rfl⟩:=Option.map_eq_some_iff.1 h1;obtain⟨ik,n,m,la,lb,q2,rfl,rfl,hq,rfl⟩:=ybym h2
     .obtain⟨a,ea,ra,rla⟩:=cons h3;obtain⟨b,eb,rb,rlb⟩:=cons h4;cases ra.int_inv
      cases rb.int_inv
      refine main hd rfl ea eb rla rlb ?_ hk hq;unfold Op.equalIn;refine(yba P _ (ybq hd)).trans ?_;show runPure P (if _ then _ else _)=_
      rw[if_pos rfl];show some _=some _;congr 1
    .rename_i hd
     obtain⟨ks',hk,rfl⟩:=Option.map_eq_some_iff.1 h1;obtain⟨n,m,la,lb,q2,rfl,rfl,hq,rfl⟩:=ybkq h2;obtain⟨a,ea,ra,rla⟩:=cons h3;obtain⟨b,eb,rb,rlb⟩:=cons h4;cases ra.bool_inv
     cases rb.bool_inv
     refine main hd rfl ea eb rla rlb ?_ hk hq;unfold Op.equalIn;exact(yba P _ (ybq hd)).trans rfl
    .cases h1
   .cases h1
theorem ybdc{ks:List Bool}:∀{l l':List SV}{q:Bool}{L:List Value},eqL ks l l'=some q->(RVL F ω l L\/RVL F ω l' L)->L.all simple=true:=by
 induction ks with
 | nil =>
   intro l l' q L h hr;obtain⟨rfl,rfl,rfl⟩:=ybzp h;rcases hr with hr|hr<;>cases hr<;>rfl
 | cons b ks ih =>
   intro l l' q L h hr;cases b
   .obtain⟨ik,n,m,la,lb,q2,rfl,rfl,hq,rfl⟩:=ybym h;rcases hr with hr|hr<;>cases hr with
    | cons h1 h2 =>
      cases h1.int_inv
      rw[zI,ih hq (by first|exact .inl h2|exact .inr h2)]
      rfl
   .obtain⟨x,y,la,lb,q2,rfl,rfl,hq,rfl⟩:=ybkq h;rcases hr with hr|hr<;>cases hr with
    | cons h1 h2 =>
      cases h1.bool_inv
      rw[zI,ih hq (by first|exact .inl h2|exact .inr h2)]
      rfl
theorem ywa{e:TypeId}{i:TypeInfo}(h:P.info? e=some i):runPure P (sizeOf e)=some i.size:=by
 have ht:runPure P (typeInfo e)=some i:=by
  unfold typeInfo;show runPure P (match P.info? e with|some i=>_|none=>_)=_
  rw[h];rfl
 unfold sizeOf;exact(yba P _ ht).trans rfl
def arrF (e : TypeId) (n : Nat) : List Field := (zBA 0 n).map fun i => { name := "", type := e, offset := i, embedded := false, tag := "", pkgPath := "", byteOffset := 0 }
theorem yoj(d:Nat)(t:TypeId)(xs ys:Array Value){n:Nat}{e:TypeId}{i:TypeInfo}(ht:P.underlying t=some (.array n e))(hi:P.info? e=some i)(h1:i.size=1) :
 runPure P (Op.equalIn (d+1) t (.agg xs) (.agg ys))=runPure P (Op.eqFields d xs ys (arrF e n)):=by
 unfold Op.equalIn;refine(yba P _ (ybq ht)).trans ?_;refine(yba P _ (ywa hi)).trans ?_;have hs:([0:n]:Std.Legacy.Range).size=n:=by simp[Std.Legacy.Range.size]
 simp only[Std.Legacy.Range.forIn_eq_forIn_range',hs,h1,Nat.mul_one];unfold arrF
 generalize zBA 0 n=l
 induction l with
 |nil=>rfl
 | cons k l ih =>
   simp only[zAR,zAW,Op.eqFields];rw[if_pos (by decide)]
   simp only[ycu,zAF];refine congrArg (fun k=>(runPure P (Go.part e xs _)).bind k) (funext fun a=>?_);refine congrArg (fun k=>(runPure P (Go.part e ys _)).bind k) (funext fun b=>?_);refine congrArg (fun k=>(runPure P (Op.equalIn d e a b)).bind k) (funext fun r=>?_);cases r
   .rfl
   .simp only[ycu]at ih;exact ih
theorem ycgb (hc:Conc lo F ω s f m) {ne:Bool}{xt yt:TypeId}{x y:Operand}(hop:o.op = .binOp (if ne then .neq else .eql) xt x y yt) {fs:List Field}(he:∀xs ys,runPure P (Op.equalIn 10000 xt (.agg xs) (.agg ys))=runPure P (Op.eqFields 9999 xs ys fs)) {ks:List Bool}(hk:fsK P 0 fs=some ks) (hg:P.eqGuardType P.depth xt=false)
 {l l':List SV}{q:Bool}(hx:s.get x=some (.ag l)) (hy:s.get y=some (.ag l')) (hq:eqL ks l l'=some q):OpS P lo F ω f m o ⟨c,r,.b (if ne then !q else q),s⟩:=by
 obtain⟨u,e1,r1⟩:=hc.get hx;obtain⟨u',e2,r2⟩:=hc.get hy;obtain⟨L,rfl,hL⟩:=r1.ag_inv;obtain⟨L',rfl,hL'⟩:=r2.ag_inv;have a1:=ybdc hq (.inl hL);have a2:=ybdc hq (.inr hL');have hev:evOp P f o m=pureA P f o:=by unfold evOp;rw[hop]
 have heq:runPure P (Op.equal xt (.agg L.toArray) (.agg L'.toArray))=some q:=by
  unfold Op.equal Op.maxDepth;rw[he];exact yxu (d:=9998) fs ks 0 l l' q hk hq hL hL'
 have hgd:∀op:BinOp,runPure P (eqGuard op xt x y (.agg L.toArray) (.agg L'.toArray))=some ():=by
  intro op;cases op<;>simp[eqGuard,runPure,hg,ycu,program]<;>rfl
 refine OpS.idle hc (u:=.bool (if ne then !q else q)) ?_ .b
 rw[hev];refine ygo (us:=[.agg L.toArray,.agg L'.toArray]) (by rw[hop];exact ybbc e1 e2) (by simp only[zI,List.all_nil,atomA,a1,a2];rfl) ?_ rfl
 unfold execOp;rw[hop];simp only[e1,e2,zJ];cases ne with
 | true =>
   refine(yba P (fun v=>pure (Next.value v)) (a:=.bool (!q)) ?_).trans rfl;refine(yba P _ (hgd _)).trans ?_;exact(yba P (fun v=>pure (Value.bool (!v))) heq).trans rfl
 | false =>
   refine(yba P (fun v=>pure (Next.value v)) (a:=.bool q) ?_).trans rfl;refine(yba P _ (hgd _)).trans ?_;exact(yba P (fun v=>pure (Value.bool v)) heq).trans rfl
theorem ydmd(hc:Conc lo F ω s f m){t:TypeId}{b:ByteArray}{k:Operand}(hop:o.op = .index t (.const (.string b)) k)(ht:P.underlying t=some .string){kk:IntKind}{n:Int}(hx:s.get k=some (.i kk n))(hn:0<=n/\n<((b.data.toList.map UInt8.toNat).length:Int)) :
 OpS P lo F ω f m o ⟨c,r,.i .u8 (((b.data.toList.map UInt8.toNat).getD n.toNat 0:Nat):Int),s⟩:=by
 obtain⟨u,e1,r1⟩:=hc.get hx;cases r1.int_inv
 have hev:evOp P f o m=pureA P f o:=by unfold evOp;rw[hop]
 have e0:f.get (.const (.string b))=some (.string b):=rfl;have hlt:n.toNat<b.data.toList.length:=by have:=hn.2;rw[zAA]at this;omega
 have hb:b[n.toNat]?=some (b.data.toList[n.toNat]'hlt):=by
  have h1:n.toNat<b.size:=by simpa using hlt
  exact getElem?_pos b n.toNat h1
 refine OpS.idle hc (u:=.int .u8 (((b.data.toList.map UInt8.toNat).getD n.toNat 0:Nat):Int)) ?_ .i;rw[hev];refine ygo (us:=[.string b,.int kk n]) (by rw[hop];exact ybbc e0 e1) rfl ?_ rfl
 unfold execOp;rw[hop];simp only[e0,e1,zJ];refine(yba P (fun v=>pure (Next.value v)) (a:=.int .u8 (((b.data.toList.map UInt8.toNat).getD n.toNat 0:Nat):Int)) ?_).trans rfl;unfold Instr.index;refine(yba P _ (a:=(kk,n)) rfl).trans ?_;refine(yba P _ (ybq ht)).trans ?_;show runPure P (match (if 0<=n then b[n.toNat]? else none)with|some b=>pure (Value.int .u8 b.toNat)|none=>boundsPanic kk n b.size .index)=_
 rw[if_pos hn.1,hb];show some _=some _;congr 2;have h1:n.toNat<b.data.size:=by simpa using hlt
 rw[List.getD,List.getElem?_map,List.getElem?_eq_getElem hlt];rfl
theorem s_un(hc:Conc lo F ω s f m){op:UnOp}{xt:TypeId}{x:Operand}(hop:o.op = .unOp op xt x){v:SV}(hx:s.get x=some v){q:Prop×SV}(h:xun op v=some q)(hq:q.1):OpS P lo F ω f m o ⟨c,r,q.2,s⟩:=by
 obtain⟨a,e1,r1⟩:=hc.get hx;have hev:evOp P f o m=pureA P f o:=by unfold evOp;rw[hop]
 have main:∀{u:Value},atomA a=true->atomA u=true->runPure P (Op.unary op a)=some u->RV F ω q.2 u->OpS P lo F ω f m o ⟨c,r,q.2,s⟩:=by
  intro u h1 h3 h4 h5;refine OpS.idle hc (u:=u) ?_ h5;rw[hev];refine ygo (us:=[a]) (by rw[hop];exact yciq e1) (by simp[h1]) ?_ h3
  unfold execOp;rw[hop];simp only[e1,zJ];exact(yba P (fun v=>pure (Next.value v)) h4).trans rfl
 unfold xun at h;split at h
 .rename_i k n
  cases r1.int_inv
  cases op with
  | neg =>
    simp only at h;split at h
    .cases h
     refine main rfl rfl (u:=.int k (0-n)) ?_ .i;show some (Value.int k (k.wrap (0-n)))=_;rw[wrap_in hq]
    .cases h
     exact main rfl rfl rfl .i
  |xor=>cases h;exact main rfl rfl rfl .i
  |not=>cases h
  |plus=>cases h
 .rename_i t
  cases r1.bool_inv
  cases op with
  |not=>cases h;exact main rfl rfl rfl .b
  |_=>cases h
 .cases h
end
end Sh
end
section
namespace Sh
open Go Ev
section
variable {P:Program}{lo:Nat}{F:AM}{ω:Om}{s:SS}{f:Fr}{m:Mem}{o:Oper}{c:Prop}{r:SRec}
theorem ydlc(hc:Conc lo F ω s f m){src dst:TypeId}{x:Operand}{d:TypeDesc}{k k':IntKind}{n:Int}(hop:o.op = .convert src dst x)(hs:P.underlying src=some d)(hd:P.underlying dst=some (.int k))(hx:s.get x=some (.i k' n)):OpS P lo F ω f m o ⟨c,r,.i k (k.wrap n),s⟩:=by
 obtain⟨a,e1,r1⟩:=hc.get hx;cases r1.int_inv
 have hev:evOp P f o m=pureA P f o:=by unfold evOp;rw[hop]
 refine OpS.idle hc (u:=.int k (k.wrap n)) ?_ .i;rw[hev];refine ygo (us:=[_]) (by rw[hop];exact yciq e1) rfl ?_ rfl
 unfold execOp;rw[hop];simp only[e1,zJ];refine(yba P (fun v=>pure (Next.value v)) (a:=.int k (k.wrap n)) ?_).trans rfl;unfold convert;rw[yba P _ (ybq hs),yba P _ (ybq hd)];rfl
theorem s_mm(hc:Conc lo F ω s f m){mx:Bool}{x y:Operand}{ats:Array TypeId}{k:IntKind}{n n':Int}(hop:o.op = .call { callee:=.builtin (if mx then .max else .min),args:=#[x,y],argTypes:=ats })(hx:s.get x=some (.i k n))(hy:s.get y=some (.i k n')) :
 OpS P lo F ω f m o ⟨c,r,.i k (if mx then max n n' else min n n'),s⟩:=by
 obtain⟨a,e1,r1⟩:=hc.get hx;obtain⟨b,e2,r2⟩:=hc.get hy;cases r1.int_inv
 cases r2.int_inv
 have hev:evOp P f o m=pureA P f o:=by unfold evOp;rw[hop];cases mx<;>rfl
 refine OpS.idle hc (u:=.int k (if mx then max n n' else min n n')) ?_ .i
 rw[hev];refine ygo (us:=[_,_]) (by rw[hop];exact ybbc e1 e2) rfl ?_ rfl
 rw[yia hop];have e:(#[x,y]:Array Operand).map (fun x=>(f.get x).getD undef) = #[.int k n,.int k n']:=by simp[e1,e2]
 rw[e];cases mx
 .show some (Next.value (.int k (if n'<n then n' else n)))=some (Next.value (.int k (min n n')))
  congr 3;rw[Int.min_def];split<;>split<;>omega
 .show some (Next.value (.int k (if n'>n then n' else n)))=some (Next.value (.int k (max n n')))
  congr 3;rw[Int.max_def];split<;>split<;>omega
theorem ydaq (hc:Conc lo F ω s f m) {t elem:TypeId}{x:Operand}{n:Nat}{v:SV}(hop:o.op = .call { callee:=.builtin .len,args:=#[x],argTypes:=#[t] }) (hd:P.underlying t=some (.slice elem)) (hx:s.pget x=some v)
 (hv:(∃z g,v = .sl z n g)\/(∃β p ap,v = .os β p n ap)\/(n=0/\v = .a (.slice none 0 0))):OpS P lo F ω f m o ⟨c,r,.i .i64 n,s⟩:=by
 obtain⟨a,e1,r1⟩:=hc.pget hx
 have:∃A cp,a = .slice A n cp:=by
  rcases hv with⟨z,g,rfl⟩|⟨β,p,cp,rfl⟩|⟨rfl,rfl⟩
  .rcases r1.sl_inv with⟨rfl,rfl|⟨_,_,_,rfl⟩⟩|⟨bk,p,cp,T,N,e,zz,L,rfl,_⟩
   .exact⟨_,_,rfl⟩
   .exact⟨_,_,rfl⟩
   .exact⟨_,_,rfl⟩
  .rcases r1.os_inv with⟨k,z,c',_,rfl,_⟩|⟨_,rfl,rfl,rfl⟩
   .exact⟨_,_,rfl⟩
   .exact⟨_,_,rfl⟩
  .cases r1;exact⟨_,_,rfl⟩
 obtain⟨A,cp,rfl⟩:=this;refine OpS.idle hc (u:=.int .i64 (.ofNat n)) ?_ .i;unfold evOp;rw[hop];show(ob (valsA f [x]) fun vs=>evLen P f o vs [t])=_;rw[yciq e1];show(ob (P.underlying t) _)=_;rw[hd];exact(ybl n fun n=>val (.int .i64 (.ofNat n))).trans rfl
theorem ypy(hc:Conc lo F ω s f m){d:Nat}{x:Option Operand}{n:Int}(h:natX s d x=some n):∃us,valsA f x.toList=some us/\((us=[]/\n=d/\x=none)\/∃k,us=[.int k n]):=by
 unfold natX at h;split at h
 .cases h;exact⟨[],rfl,.inl ⟨rfl,rfl,rfl⟩⟩
 .rename_i y
  split at h
  .rename_i k n' hy
   cases h
   obtain⟨a,e1,r1⟩:=hc.get hy;cases r1.int_inv
   exact⟨[_],yciq e1,.inr ⟨k,rfl⟩⟩
  .cases h
theorem ykq{us:List Value}{n:Int}{d:Nat}(h:(us=[]/\n=d)\/∃k,us=[.int k n]){hi:Nat}(h0:0<=n)(h1:n<=hi):natIn us.head? d hi=some n.toNat:=by
 rcases h with⟨rfl,rfl⟩|⟨k,rfl⟩
 .show some d=_;simp
 .obtain⟨a,rfl⟩:=zL h0;show(bif zAB a hi then some a else none)=_;rw[zA (by omega)]
  simp
theorem ydqu (hc:Conc lo F ω s f m) {t elem:TypeId}{x:Operand}{lo' hi':Option Operand}{i:TypeInfo}(hop:o.op = .slice t x lo' hi' none) (hd:P.underlying t=some (.slice elem)) (hi:P.info? elem=some i)
 {v:SV}{q:XR}(hx:s.pget x=some v) {l h:Int}
 (hv:(∃n g,v = .sl i.size n g/\natX s n hi'=some h/\natX s 0 lo'=some l/\(0<=l/\l<=h/\h<=n/\0<n)/\q=⟨c,⟨[],[],[],true,false,false,false⟩,.sl i.size (h.toNat-l.toNat) (fun k=>g (l.toNat+k)),s⟩) \/
   (∃β p n ap b,v = .os β p n ap/\lookO s.o β=some b/\b.z=i.size/\b.bx=false/\natX s n hi'=some h/\natX s 0 lo'=some l/\(0<=l/\l<=h/\h<=n)/\q=⟨c,⟨[β],[],[],false,false,false,false⟩,.os β (p+l.toNat) (h.toNat-l.toNat) (ap&&hi'.isNone),s⟩)):OpS P lo F ω f m o q:=by
 obtain⟨a,e1,r1⟩:=hc.pget hx
 have hev:∀{us ws:List Value},valsA f lo'.toList=some us->valsA f hi'.toList=some ws->evOp P f o m=sliceA P m us.head? ws.head? (.slice elem) a:=by
  intro us ws h1 h2;unfold evOp;rw[hop];show(ob (f.get x) fun x=>ob (valsA f lo'.toList) fun lo=>ob (valsA f hi'.toList) (evSlice P t m x lo))=_;rw[e1];show(ob (valsA f lo'.toList) fun lo=>ob (valsA f hi'.toList) (evSlice P t m a lo))=_;rw[h1];show(ob (valsA f hi'.toList) (evSlice P t m a us))=_;rw[h2];show ob (P.underlying t) _=_;rw[hd];rfl
 have some1:∀{us ws:List Value}{bk p n cp z:Nat},a = .slice (some ⟨bk,p,none⟩) n cp->natIn ws.head? n n=some h.toNat->natIn us.head? 0 h.toNat=some l.toNat->ob (m.b.get bk) szOf=some z->(z=i.size\/z=0) ->
  sliceA P m us.head? ws.head? (.slice elem) a=some ⟨.slice (some ⟨bk,p+l.toNat*i.size,none⟩) (h.toNat-l.toNat) (capA cp l.toNat),.none,[bk]⟩:=by
  rintro us ws bk p n cp z rfl h1 h2 h3 h4;show(ob (P.info? elem) fun i=>ob (ob (m.b.get bk) szOf) fun z=>sliceA1 ⟨bk,p,none⟩ z i.size n us.head? ws.head? (capA cp))=_;rw[hi];show(ob (ob (m.b.get bk) szOf) fun z=>sliceA1 ⟨bk,p,none⟩ z i.size n us.head? ws.head? (capA cp))=_;rw[h3];show sliceA1 ⟨bk,p,none⟩ z i.size n us.head? ws.head? (capA cp)=_;unfold sliceA1;rw[ybh,if_pos (by rcases h4 with rfl|rfl<;>simp[zH]),h1]
  show(ob (natIn us.head? 0 h.toNat) fun l=>sliceA2 ⟨bk,p,none⟩ l h.toNat i.size (capA cp l))=_;rw[h2];show sliceA2 ⟨bk,p,none⟩ l.toNat h.toNat i.size (capA cp l.toNat)=_;unfold sliceA2;rw[ybl,ybl];rfl
 rcases hv with⟨n,g,rfl,hh,hl,⟨b1,b2,b3,b4⟩,rfl⟩|⟨β,p,n,ap,b,rfl,hb,hz,hbx,hh,hl,⟨b1,b2,b3⟩,rfl⟩
 .obtain⟨us,v1,w1⟩:=ypy hc hl;obtain⟨ws,v2,w2⟩:=ypy hc hh;have n1:natIn ws.head? n n=some h.toNat:=ykq (w2.imp (fun q=>⟨q.1,q.2.1⟩) id) (by omega) b3
  have n2:natIn us.head? 0 h.toNat=some l.toNat:=ykq (w1.imp (fun q=>⟨q.1,q.2.1⟩) id) b1 (by omega)
  rcases r1.sl_inv with⟨rfl,_⟩|⟨bk,p,cp,T,N,e,zz,L,rfl,g1,g2,g3,g4,g5,g6,g7⟩
  .exact absurd b4 (zAE _)
  .refine OpS.pure hc ((hev v1 v2).trans (some1 rfl n1 n2 (z:=zz) (by rw[hc.sub _ _ g1];rfl) g2)) ?_ (fun y hy=>by simp at hy;subst hy;exact .inr ⟨rfl,_,g1⟩)
   have hk:∀k,k<h.toNat-l.toNat->l.toNat+k<n:=fun k hk=>by omega
   have hadd:∀k,p+l.toNat*i.size+k*i.size=p+(l.toNat+k)*i.size:=fun k=>by rw[zF];omega
   have hN:p+l.toNat*i.size+(h.toNat-l.toNat)*i.size<=N:=by
    rw[hadd];have:=zK i.size (show l.toNat+(h.toNat-l.toNat)<=n by omega)
    omega
   exact .sl (L:=fun k=>L (l.toNat+k)) g1 g2 hN (fun k q=>g4 _ (hk k q)) (fun k q j hj=>by rw[hadd];exact g5 _ (hk k q) j hj) (fun k q=>g6 _ (hk k q)) (fun k q=>g7 _ (hk k q))
 .obtain⟨us,v1,w1⟩:=ypy hc hl;obtain⟨ws,v2,w2⟩:=ypy hc hh;have n1:natIn ws.head? n n=some h.toNat:=ykq (w2.imp (fun q=>⟨q.1,q.2.1⟩) id) (by omega) b3
  have n2:natIn us.head? 0 h.toNat=some l.toNat:=ykq (w1.imp (fun q=>⟨q.1,q.2.1⟩) id) b1 (by omega)
  rcases r1.os_inv with⟨k,z,cp,hk,rfl,hcu⟩|⟨hk,rfl,rfl,rfl⟩
  .obtain⟨rfl,T,L,g1,_⟩:=hc.ownAt hb hk;rw[hbx]at g1;refine OpS.pure hc ((hev v1 v2).trans (some1 rfl n1 n2 (z:=b.z) (by rw[g1];rfl) (.inl hz))) ?_ (fun y hy=>by simp at hy;subst hy;exact .inl ⟨β,_,by simp,hk⟩)
   rw[<-hz,<-zF];refine .os hk fun hap=>?_;rw[zB]at hap
   have hhn:h=n:=by
    rcases w2 with⟨_,q,_⟩|⟨_,q⟩
    .exact q
    .have:hi'=none:=by simpa using hap.2
     rw[this]at v2;cases v2
     cases q
   rcases hcu hap.1 with rfl|⟨rfl,hlt⟩
   .left;show capA CU _=CU;unfold capA;rw[zH];rfl
   .right
    refine⟨?_,by omega⟩
    show capA cp _=_;unfold capA;rw[ybh,if_neg (fun q=>by have:=zD q;omega)]
    show cp-l.toNat=_;rw[hhn];simp
  .have hl0:l=0:=by omega
   have hh0:h=0:=by omega
   subst hl0 hh0;refine OpS.idle hc (u:=.slice none 0 0) ?_ (.os0 hk);rw[hev v1 v2];show(ob (P.info? elem) fun _=>ob (natIn ws.head? 0 0) fun _=>ob (natIn us.head? 0 0) fun _=>(some ⟨.slice none 0 0,.none,[]⟩:Option R))=_;rw[hi,n1];show(ob (natIn us.head? 0 0) fun _=>(some ⟨.slice none 0 0,.none,[]⟩:Option R))=_;rw[show natIn us.head? 0 0=some (Int.toNat 0)from n2]
   rfl
end
end Sh
end
section
namespace Sh
open Go Ev
section
variable {P:Program}{lo:Nat}{F:AM}{ω:Om}{s:SS}{f:Fr}{m:Mem}{o:Oper}{c:Prop}{r:SRec}
theorem ydjr (hc:Conc lo F ω s f m) {t elem:TypeId}{x:Operand}{lo' hi':Option Operand}{i:TypeInfo}{n:Nat}(hop:o.op = .slice t x lo' hi' none) (hd:P.underlying t=some (.array n elem)) (hi:P.info? elem=some i)
 {β:Nm}{b:OB}(hx:s.get x=some (.pt β 0 0)) {l h:Int}(hb:lookO s.o β=some b) (hz:b.z=i.size) (hbx:b.bx=true) (hh:natX s n hi'=some h) (hl:natX s 0 lo'=some l) (hq:0<=l/\l<=h/\h<=n/\n<=1000000) :
 OpS P lo F ω f m o ⟨c,⟨[β],[],[],false,false,false,false⟩,.os β l.toNat (h.toNat-l.toNat) false,s⟩:=by
 obtain⟨a,e1,r1⟩:=hc.get hx;obtain⟨b1,b2,b3,b4⟩:=hq;obtain⟨us,v1,w1⟩:=ypy hc hl;obtain⟨ws,v2,w2⟩:=ypy hc hh;have n1:natIn ws.head? n n=some h.toNat:=ykq (w2.imp (fun q=>⟨q.1,q.2.1⟩) id) (by omega) b3
 have n2:natIn us.head? 0 h.toNat=some l.toNat:=ykq (w1.imp (fun q=>⟨q.1,q.2.1⟩) id) b1 (by omega)
 obtain⟨k,z,hk,rfl⟩:=r1.pt_inv;obtain⟨rfl,T,L,g1,_⟩:=hc.ownAt hb hk;rw[hbx]at g1;refine OpS.pure hc (u:=.slice (some ⟨k,l.toNat*b.z,none⟩) (h.toNat-l.toNat) (n-l.toNat)) (ft:=[k]) ?_ (RV.os (c:=n-l.toNat) hk (fun q=>by cases q)) (fun y hy=>by simp at hy;subst hy;exact .inl ⟨β,_,by simp,hk⟩)
 unfold evOp;rw[hop];show(ob (f.get x) fun x=>ob (valsA f lo'.toList) fun lo=>ob (valsA f hi'.toList) (evSlice P t m x lo))=_;rw[e1];show(ob (valsA f lo'.toList) fun lo=>ob (valsA f hi'.toList) (evSlice P t m _ lo))=_;rw[v1];show(ob (valsA f hi'.toList) (evSlice P t m _ us))=_;rw[v2];show ob (P.underlying t) _=_;rw[hd];show(ob (P.info? elem) fun i=>ob (ob (m.b.get k) szOf) fun z=>iteB (zC z 0&&zAB n 1000000) (sliceA1 ⟨k,0*b.z+0,none⟩ z i.size n us.head? ws.head? (zAV n)) none)=_
 rw[hi,g1];show iteB (zC 0 0&&zAB n 1000000) (sliceA1 ⟨k,0*b.z+0,none⟩ 0 i.size n us.head? ws.head? (zAV n)) none=_;rw[ybh,if_pos (by rw[zA b4];rfl)]
 unfold sliceA1;rw[ybh,if_pos (by simp),n1]
 show(ob (natIn us.head? 0 h.toNat) fun l=>sliceA2 ⟨k,0*b.z+0,none⟩ l h.toNat i.size (zAV n l))=_;rw[n2];show sliceA2 ⟨k,0*b.z+0,none⟩ l.toNat h.toNat i.size (zAV n l.toNat)=_;unfold sliceA2;rw[ybl,ybl,hz];show some (⟨.slice (some ⟨k,0*i.size+0+l.toNat*i.size,none⟩) _ _,_,_⟩:R)=_;rw[show 0*i.size+0+l.toNat*i.size=l.toNat*i.size by omega]
 rfl
theorem one_cell:∀(v:SV) {ω:Om}{u:Value},RV F ω v u->one1 v=true->u.cells.toList=[u]/\∀L,allGood L=true->allGood (u::L)=true
 |.ex Q w,_,_,.ex _ _ h,h1=>one_cell w h h1
 |.i ..,_,_,.i,_=>⟨rfl,fun _ h=>h⟩
 |.b ..,_,_,.b,_=>⟨rfl,fun _ h=>h⟩
 | .a v,_,_,.a hs,_=>by
   cases v<;>first|exact⟨rfl,fun _ h=>h⟩|(exact absurd hs (by simp[Ev.simple]))
 | .sl ..,_,_,.sl0 h0,_=>by
   rcases h0 with rfl|⟨_,_,_,rfl⟩<;>exact⟨rfl,fun _ h=>h⟩
 |.sl ..,_,_,.sl ..,_=>⟨rfl,fun _ h=>h⟩
 |.rf ..,_,_,.rf ..,_=>⟨rfl,fun _ h=>h⟩
 |.fn ..,_,_,.fn ..,_=>⟨rfl,fun _ h=>h⟩
 |.pt ..,_,_,.pt ..,_=>⟨rfl,fun _ h=>h⟩
 |.os ..,_,_,.os ..,_=>⟨rfl,fun _ h=>h⟩
 |.os ..,_,_,.os0 ..,_=>⟨rfl,fun _ h=>h⟩
theorem yoa{v:SV}{u:Value}(h:RV F ω v u)(h1:v.cells.all one1=true):RVL F ω v.cells u.cells.toList/\allGood u.cells.toList=true:=by
 have good:∀{l:List SV}{L:List Value},RVL F ω l L->l.all one1=true->allGood L=true:=by
  intro l L hl
  induction L generalizing l with
  |nil=>intro _;rfl
  | cons u L ih =>
    cases hl with
    | cons a b =>
      intro hq;simp only[zI,zB]at hq;exact(one_cell _ a hq.1).2 _ (ih b hq.2)
 have main:RVL F ω v.cells u.cells.toList:=by
  have single:v.cells=[v]->RVL F ω v.cells u.cells.toList:=fun e=>by
   rw[e]at h1 ⊢;simp only[zI,zB]at h1;rw[(one_cell v h h1.1).1];exact .cons h .nil
  cases v with
  |ag c=>obtain⟨L,rfl,hl⟩:=h.ag_inv;simpa[SV.cells,Value.cells]using hl
  |_=>exact single rfl
 exact⟨main,good main h1⟩
theorem ybax(hc:Conc lo F ω s f m){place:Nat->Option (Nat×Nat)}:∀{ps:List (Nat×Operand)}{qs:List (Nat×Nat×Operand)}{l l':List SV}{L:List Value},
 ps.mapM (fun p=>(place p.1).map fun q=>(q.1,q.2,p.2))=some qs->RVL F ω l L->l.all one1=true->fill s l qs=some l' ->
 ∃vs L',partsA f ps=some vs/\fillA place L vs=some L'/\RVL F ω l' L'/\l'.all one1=true
 | [],qs,l,l',L,h,hl,h1,hf=>by
   cases h
   cases hf
   exact⟨[],L,rfl,rfl,hl,h1⟩
 | (j,x) :: ps,qs,l,l',L,h,hl,h1,hf=>by
   rw[List.mapM_cons]at h;cases hp:place j with
   |none=>simp[hp]at h
   | some q =>
     cases hm:ps.mapM (fun p=>(place p.1).map fun q=>(q.1,q.2,p.2))with
     |none=>simp[hp,hm]at h
     | some qs' =>
       simp[hp,hm]at h;subst h;unfold fill at hf;split at hf
       .cases hf
       .rename_i v hv
        split at hf
        .rename_i hq
         obtain⟨u,e1,r1⟩:=hc.get hv;obtain⟨k1,k2⟩:=yoa r1 hq.2.2;have hlen:u.cells.toList.length=q.2:=by rw[<-k1.length];exact hq.1
         have hsp:RVL F ω (splice l q.1 v.cells) (L.take q.1++u.cells.toList++L.drop (q.1+q.2)):=by
          unfold splice;rw[hq.1];exact((hl.take _).append k1).append (hl.drop _)
         have hsa:(splice l q.1 v.cells).all one1=true:=by
          unfold splice;rw[zW,zW,ysv h1,ykt h1,hq.2.2];rfl
         obtain⟨vs,L',t1,t2,t3,t4⟩:=ybax hc hm hsp hsa hf;refine⟨(j,u)::vs,L',?_,?_,t3,t4⟩
         .unfold partsA;rw[e1];simp only[t1]
         .unfold fillA;rw[hp];simp only;rw[hlen,zH,k2,zA (by rw[<-hl.length];exact hq.2.1)]
          exact t2
        .cases hf
end
end Sh
end
section
namespace Sh
open Go Ev
section
variable {P:Program}{lo:Nat}{F:AM}{ω:Om}{s:SS}{f:Fr}{m:Mem}{o:Oper}{c:Prop}{r:SRec}
theorem ybtk(m:Mem)(x:ABlk):m.app (.new x)=⟨m.next+1,T.set (zG m.next) m.b m.next (some x),m.low⟩:=by
 obtain⟨n,b,l⟩:=m;exact yqm n b l (.new x)
theorem ybhp(m:Mem)(i:Nat)(x:ABlk):m.app (.upd i x)=⟨m.next,T.set (zG i) m.b i (some x),zAC m.low i⟩:=by
 obtain⟨n,b,l⟩:=m;exact yqm n b l (.upd i x)
theorem ycej(m:Mem)(i:Nat)(x:ABlk):m.app (.move i x)=⟨m.next+1,T.set (zG m.next) (T.set (zG i) m.b i none) m.next (some x),zAC m.low i⟩:=by
 obtain⟨n,b,l⟩:=m;exact yqm n b l (.move i x)
def ygp(ω:Om)(β:Nm)(k z:Nat):Om:=fun γ=>if γ=β then some (some (k,z))else ω γ
theorem ylb{β:Nm}{k z:Nat}(h:ω β=none):ω.le (ygp ω β k z):=fun γ x hx=>by
 unfold ygp;split
 .rename_i q;subst q;rw[h]at hx;cases hx
 .exact hx
theorem ydc{β:Nm}{k z:Nat}:ygp ω β k z β=some (some (k,z)):=by simp[ygp]
theorem ycda{β γ:Nm}{k z:Nat}(h:γ≠β):ygp ω β k z γ=ω γ:=by simp[ygp,h]
theorem ycia.mono{ψ:Om}{m':Mem}{β:Nm}{b:OB}(h:ycia F ω m β b)(hle:ω.le ψ)(hk:∀k z,ω β=some (some (k,z))->m'.b.get k=m.b.get k):ycia F ψ m' β b:=by
 rcases h with⟨k,T,L,h1,h0,h2,h3⟩|⟨h1,h2⟩
 .exact .inl ⟨k,T,L,hle _ _ h1,h0,(hk _ _ h1).trans h2,fun i hi=>⟨(h3 i hi).1,(h3 i hi).2.1.mono (Le.refl _) hle,(h3 i hi).2.2⟩⟩
 .exact .inr ⟨hle _ _ h1,h2⟩
theorem ygr{e β:Nat}(h:ynu s e β=true):look s.o β=none:=by
 have:=(zB _ _▸h:_/\_).1;simpa using this
theorem ypo{e β:Nat}(h:ynu s e β=true):e≠CU:=by
 have:=of_decide_eq_true (zB _ _▸h:_/\_).2;intro q;rw[q]at this;exact absurd this (by decide)
theorem ytb{β:Nm}{b:Option OB}(h:β.2=0\/∃c,lookO s.o β=some c)(γ:Nm):lookO (s.own β b).o γ=if β=γ then b else lookO s.o γ:=by
 obtain⟨b1,b2⟩:=β;obtain⟨c1,c2⟩:=γ;show(match (if b1=c1 then some (yrj (look s.o b1) b2 b)else look s.o c1)with|some F=>F.at c2|none=>none)=_
 by_cases e:b1=c1
 .subst e;rw[if_pos rfl];unfold lookO at h ⊢;simp only at h ⊢;cases hl:look s.o b1 with
  | none =>
    rw[hl]at h;have hz:b2=0:=h.elim id fun⟨c,q⟩=>by cases q
    subst hz;simp only[yrj,Fam.at]
    by_cases q:c2=0
    .subst q;simp
    .rw[if_neg q,if_neg (by simpa using Ne.symm q)]
  | some G =>
    rw[hl]at h;cases G with
    | many g =>
      simp only[yrj,Fam.at]
      by_cases q:c2=b2
      .subst q;simp
      .rw[if_neg q,if_neg (by simpa using Ne.symm q)]
    | one x =>
      have hz:b2=0:=h.elim id fun⟨c,q⟩=>by
       simp only[Fam.at]at q;split at q
       .assumption
       .cases q
      subst hz;simp only[yrj,Fam.at]
      by_cases q:c2=0
      .subst q;simp
      .rw[if_neg q,if_neg (by simpa using Ne.symm q),if_neg q]
 .rw[if_neg e,if_neg (by simp[e])]
  rfl
theorem ysm{β:Nm}{b:Option OB}{c:Nat}(h:look (s.own β b).o c=none):β.1≠c/\look s.o c=none:=by
 have h:(if β.1=c then some (yrj (look s.o β.1) β.2 b)else look s.o c)=none:=h
 split at h
 .cases h
 .rename_i q;exact⟨q,h⟩
theorem Conc.new (hc:Conc lo F ω s f m) {d:Nat}{b:OB}(hn:look s.o d=none) (he:b.e≠CU) {Tb:Ev.T Value}{L:Nat->List Value}
 (hL:∀i,i<b.n->(L i).length=b.z/\RVL F ω (b.g i) (L i)/\(b.g i).all one1=true/\∀j,j<b.z->Tb.get (i*b.z+j)=(L i)[j]?) :
 Conc lo F (ygp ω (d,0) m.next b.z) (s.own (d,0) (some b)) f (m.app (.new (.cells Tb (b.n*b.z) b.e (if b.bx then 0 else b.z)))):=by
 have hω:=hc.dom (d,0) hn;have hle:=ylb (k:=m.next) (z:=b.z) hω
 rw[ybtk];have hget:∀i,(T.set (zG m.next) m.b m.next (some (.cells Tb (b.n*b.z) b.e (if b.bx then 0 else b.z)))).get i=if i=m.next then some (.cells Tb (b.n*b.z) b.e (if b.bx then 0 else b.z))else m.b.get i:=fun i=>T.set_at _ _ _ _
 have hold:∀{i x},m.b.get i=some x->i<m.next:=fun {i x} h=>hc.wf i x h
 refine⟨fun i x hx=>?_,hc.low,by show lo<=m.next+1;have:=hc.nxt;omega,fun i x hx=>?_,fun γ dd hd=>?_,fun γ hγ=>?_,?_,?_,fun t v hv=>?_⟩
 .have hx:(T.set (zG m.next) m.b m.next (some (.cells Tb (b.n*b.z) b.e (if b.bx then 0 else b.z)))).get i=some x:=hx
  rw[hget]at hx;show i<m.next+1
  split at hx
  .omega
  .have:=hold hx;omega
 .show(T.set (zG m.next) m.b m.next (some (.cells Tb (b.n*b.z) b.e (if b.bx then 0 else b.z)))).get i=some x
  have:=hc.sub i x hx;rw[hget,if_neg (by have:=hold this;omega)]
  exact this
 .have hd':(if (d,0)=γ then some b else lookO s.o γ)=some dd:=by rw[<-ytb (.inl rfl)];exact hd
  clear hd
  split at hd'
  .rename_i q;subst q;have hd2:=Option.some.inj hd';subst hd2;exact .inl ⟨m.next,Tb,L,ydc,he,by show(T.set (zG m.next) m.b m.next _).get m.next=_;rw[hget,if_pos rfl],fun i hi=>⟨(hL i hi).1,(hL i hi).2.1.mono (Le.refl _) hle,(hL i hi).2.2⟩⟩
  .exact(hc.own γ dd hd').mono hle fun k z hk=>by show(T.set (zG m.next) m.b m.next _).get k=_;rw[hget,if_neg (by have:=(hc.apart γ k z hk).2.2;omega)]
 .obtain⟨q1,q2⟩:=ysm hγ;rw[ycda (fun e=>q1 (by rw[e]))];exact hc.dom γ q2
 .intro γ δ k z k' z' h1 h2 hne;unfold ygp at h1 h2;split at h1<;>split at h2
  .rename_i a b;exact absurd (a.trans b.symm) hne
  .cases h1;have:=(hc.apart δ k' z' h2).2.2;omega
  .cases h2;have:=(hc.apart γ k z h1).2.2;omega
  .exact hc.inj γ δ k z k' z' h1 h2 hne
 .intro γ k z h1;unfold ygp at h1;split at h1
  .cases h1
   refine⟨?_,hc.nxt,Nat.lt_succ_self _⟩;cases hF:F m.next with
   |none=>rfl
   |some x=>have:=hold (hc.sub _ _ hF);omega
  .obtain⟨a,b,d⟩:=hc.apart γ k z h1;exact⟨a,b,Nat.lt_succ_of_lt d⟩
 .obtain⟨u,h1,h2⟩:=hc.fr t v hv;exact⟨u,h1,h2.mono (Le.refl _) hle⟩
theorem OpS.new (hc:Conc lo F ω s f m) {d:Nat}{b:OB}(hn:ynu s b.e d=true) {Tb:Ev.T Value}{L:Nat->List Value}{u:Value}{v:SV}
 (hev:evOp P f o m=some ⟨u,.new (.cells Tb (b.n*b.z) b.e (if b.bx then 0 else b.z)),[]⟩)
 (hL:∀i,i<b.n->(L i).length=b.z/\RVL F ω (b.g i) (L i)/\(b.g i).all one1=true/\∀j,j<b.z->Tb.get (i*b.z+j)=(L i)[j]?)
 (hv:RV F (ygp ω (d,0) m.next b.z) v u):OpS P lo F ω f m o ⟨c,⟨[],[],[(d,0)],false,false,false,false⟩,v,s.own (d,0) (some b)⟩:=by
 have hω:=hc.dom (d,0) (ygr hn);refine⟨_,ygp ω (d,0) m.next b.z,hev,ylb hω,hc.new (ygr hn) (ypo hn) hL,hv,fun γ k z hk=>?_,fun x hx=>(by cases hx),fun x hx=>(by cases hx),fun q=>(by cases q),fun _=>⟨(d,0),b.z,by simp,ydc⟩⟩
 unfold ygp at hk;split at hk
 .cases hk;exact .inr (zT _)
 .exact .inl hk
theorem yduf(hc:Conc lo F ω s f m){t:TypeId}{x:Operand}{β:Nat}{v:SV}(hop:o.op = .box t x)(hx:s.get x=some v)(hn:ynu s t β=true)(h1:v.cells.all one1=true) :
 OpS P lo F ω f m o ⟨c,⟨[],[],[(β,0)],false,false,false,false⟩,.pt (β,0) 0 0,s.own (β,0) (some ⟨t,true,v.cells.length,1,fun _=>v.cells⟩)⟩:=by
 obtain⟨u,e,hr⟩:=hc.get hx;obtain⟨k1,k2⟩:=yoa hr h1;have hlen:=k1.length;refine OpS.new hc (b:=⟨t,true,v.cells.length,1,fun _=>v.cells⟩) hn (Tb:=tOf u.cells.toList) (L:=fun _=>u.cells.toList) (u:=.pointer (some ⟨m.next,0,none⟩)) ?_ (fun i hi=>⟨hlen.symm,k1,h1,fun j _=>?_⟩) ?_
 .unfold evOp;rw[hop];show ob (f.get x) (evBox t m)=_;rw[e];show iteB (allGood u.cells.toList) _ none=_;rw[ybh,if_pos k2];show some (⟨_,.new (.cells (tOf u.cells.toList) u.cells.toList.length t 0),[]⟩:R)=some ⟨_,.new (.cells _ (1*v.cells.length) t 0),[]⟩;rw[Nat.one_mul,hlen]
 .have:i=0:=Nat.lt_one_iff.1 hi;subst this;rw[zAX,zU];exact ycq _ _
 .have:=RV.pt (F:=F) (ω:=ygp ω (β,0) m.next v.cells.length) (i:=0) (j:=0) ydc
  simpa using this
theorem yzt(z:List Value):∀(n i j:Nat),i<n->j<z.length->(repl n z)[i*z.length+j]?=z[j]?
 |0,i,j,h,_=>absurd h (zAS _)
 |n+1,0,j,_,hj=>by rw[yin,zAX,zU,zQ hj]
 | n+1,i+1,j,h,hj=>by
   rw[yin,zO (by rw[zAH];omega),show(i+1)*z.length+j-z.length=i*z.length+j by rw[zAH];omega]
   exact yzt z n i j (by omega) hj
theorem ysz{l:List Value}(h:l.all simple=true):(l.map ofV).all one1=true:=by
 rw[zAY];refine List.all_eq_true.2 fun x hx=>?_;have:=List.all_eq_true.1 h x hx;cases x<;>first|rfl|(exact absurd this (by simp[Ev.simple]))
theorem ygc{i:TypeInfo}{z:List Value}(h:zeroA i=some z):z.all simple=true/\z.length=i.size:=by
 unfold zeroA at h;obtain⟨v,h1,h2⟩:=yg h;obtain⟨h3,h4⟩:=ybf h2;cases h4
 rw[zB]at h3;refine⟨?_,zD h3.2⟩;have h5:=h3.1;unfold atomA at h5;split at h5
 .exact h5
 .rename_i hne
  cases v<;>first|exact absurd rfl (hne _)|simpa[Value.cells]using h5
theorem ybyl(hc:Conc lo F ω s f m){t:TypeId}{β n:Nat}{i:TypeInfo}{z zj:List Value}(hop:o.op = .alloc t)(hi:P.info? t=some i)(hz:zeroA i=some z)(hr:z=repl n zj)(hs:zj.all simple=true)(hn:ynu s t β=true) :
 OpS P lo F ω f m o ⟨c,⟨[],[],[(β,0)],false,false,false,false⟩,.pt (β,0) 0 0,s.own (β,0) (some ⟨t,true,(zj.map ofV).length,n,fun _=>zj.map ofV⟩)⟩:=by
 refine OpS.new hc (b:=⟨t,true,(zj.map ofV).length,n,fun _=>zj.map ofV⟩) hn (Tb:=tOf z) (L:=fun _=>zj) (u:=.pointer (some ⟨m.next,0,none⟩)) ?_ (fun k hk=>⟨by simp,yqb hs,ysz hs,fun j hj=>?_⟩) ?_
 .unfold evOp;rw[hop];show ob (P.info? t) (evAlloc t m)=_;rw[hi];show ob (zeroA i) _=_;rw[hz];show some (⟨_,.new (.cells (tOf z) z.length t 0),[]⟩:R)=some ⟨_,.new (.cells _ (n*(zj.map ofV).length) t 0),[]⟩;rw[hr,yer,zAA]
 .rw[ycq,hr];show(repl n zj)[k*(zj.map ofV).length+j]?=_;rw[zAA];exact yzt zj n k j hk (by simpa using hj)
 .have:=RV.pt (F:=F) (ω:=ygp ω (β,0) m.next (zj.map ofV).length) (i:=0) (j:=0) ydc
  simpa using this
theorem s_mk (hc:Conc lo F ω s f m) {t elem:TypeId}{x y:Operand}{β:Nat}{i:TypeInfo}{z:List Value}{k k':IntKind}{n:Int}(hop:o.op = .makeSlice t x y) (hd:P.underlying t=some (.slice elem)) (hi:P.info? elem=some i) (hz:zeroA i=some z)
 (hx:s.get x=some (.i k n)) (hy:s.get y=some (.i k' n)) (h0:0<=n) (hb:i.bytes*n.toNat<=1000000) (hb':n.toNat<=1000000) (hn:ynu s elem β=true) :
 OpS P lo F ω f m o ⟨c,⟨[],[],[(β,0)],false,false,false,false⟩,.os (β,0) 0 n.toNat true,s.own (β,0) (some ⟨elem,false,i.size,n.toNat,fun _=>z.map ofV⟩)⟩:=by
 obtain⟨u1,e1,r1⟩:=hc.get hx;obtain⟨u2,e2,r2⟩:=hc.get hy;cases r1.int_inv
 cases r2.int_inv
 obtain⟨a,rfl⟩:=zL h0;rw[zY]at *;obtain⟨hs,hl⟩:=ygc hz;refine OpS.new hc (b:=⟨elem,false,i.size,a,fun _=>z.map ofV⟩) hn (Tb:=tOf (repl a z)) (L:=fun _=>z) (u:=.slice (some ⟨m.next,0,none⟩) a a) ?_ (fun q hq=>⟨hl,yqb hs,ysz hs,fun j hj=>?_⟩) ?_
 .unfold evOp;rw[hop];show(ob (f.get x) fun l=>ob (f.get y) (evMakeSlice P t m l))=_;rw[e1];show(ob (f.get y) (evMakeSlice P t m _))=_;rw[e2];show(ob (P.underlying t) fun d=>evMakeSlice1 P m a a d)=_;rw[hd];show(ob (P.info? elem) fun i=>ob (zeroA i) fun z=>evMakeSlice2 m elem a a i z)=_;rw[hi];show(ob (zeroA i) fun z=>evMakeSlice2 m elem a a i z)=_;rw[hz];show evMakeSlice2 m elem a a i z=_;unfold evMakeSlice2
  rw[ybh,if_pos (by rw[zA (zT a),zA hb,zA hb'];rfl)]
  show some (⟨_,.new (.cells (tOf (repl a z)) (repl a z).length elem i.size),[]⟩:R)=some ⟨_,.new (.cells _ (a*i.size) elem i.size),[]⟩;rw[yer,hl]
 .rw[ycq];show(repl a z)[q*i.size+j]?=_;rw[<-hl];exact yzt z a q j hq (by rw[hl];exact hj)
 .have:=RV.os (F:=F) (ω:=ygp ω (β,0) m.next i.size) (o:=0) (n:=a) (c:=a) (ap:=true) ydc (fun _=>.inr ⟨rfl,by show a<1208925819614629174706176;omega⟩)
  simpa using this
end
end Sh
end
section
namespace Sh
open Go Ev
section
variable {P:Program}{lo:Nat}{F:AM}{ω:Om}{s:SS}{f:Fr}{m:Mem}{o:Oper}{c:Prop}{r:SRec}
theorem yzb{l new:List SV}{p:Nat}(h:p+new.length<=l.length):(splice l p new).length=l.length:=by
 unfold splice;simp;omega
theorem yuf:∀{qs:List (Nat×Nat×Operand)}{l l':List SV},fill s l qs=some l'->l'.length=l.length
 |[],l,l',h=>by cases h;rfl
 | (p,n,x)::qs,l,l',h=>by
   unfold fill at h;split at h
   .cases h
   .split at h
    .rename_i hq
     rw[yuf h,yzb (by rw[hq.1];exact hq.2.1)]
    .cases h
theorem ydfi (hc:Conc lo F ω s f m) {t:TypeId}{parts:Array (Nat×Operand)}{i:TypeInfo}{z:List Value}{d:TypeDesc}{place:Nat->Option (Nat×Nat)}{qs:List (Nat×Nat×Operand)}{l:List SV}
 (hop:o.op = .build t parts) (hi:P.info? t=some i) (hz:zeroA i=some z) (hd:P.underlying t=some d)
 (hp:(∃fs pl,d = .struct fs/\placesA P fs.toList=some pl/\place=fun k=>pl[k]?)\/(∃n elem j,d = .array n elem/\P.info? elem=some j/\place=fun k=>some (k*j.size,j.size)))
 (hq:parts.toList.mapM (fun p=>(place p.1).map fun q=>(q.1,q.2,p.2))=some qs) (hf:fill s (z.map ofV) qs=some l):OpS P lo F ω f m o ⟨c,r,.ag l,s⟩:=by
 obtain⟨hs,_⟩:=ygc hz;obtain⟨vs,L,t1,t2,t3,_⟩:=ybax hc hq (yqb hs) (ysz hs) hf;refine OpS.idle hc (u:=.agg L.toArray) ?_ (.ag t3);unfold evOp;rw[hop];show ob (partsA f parts.toList) (evBuild P t)=_;rw[t1];show(ob (P.info? t) fun i=>ob (zeroA i) fun z=>ob (P.underlying t) fun d=>evBuild1 P z vs d)=_;rw[hi];show(ob (zeroA i) fun z=>ob (P.underlying t) fun d=>evBuild1 P z vs d)=_;rw[hz];show(ob (P.underlying t) fun d=>evBuild1 P z vs d)=_
 rw[hd];rcases hp with⟨fs,pl,rfl,h1,rfl⟩|⟨n,elem,j,rfl,h1,rfl⟩
 .show(ob (placesA P fs.toList) fun pl=>ob (fillA (fun k=>pl[k]?) z vs) fun l=>val (.agg l.toArray))=_;rw[h1];show(ob (fillA (fun k=>pl[k]?) z vs) fun l=>val (.agg l.toArray))=_;rw[t2];rfl
 .show(ob (P.info? elem) fun j=>ob (fillA (fun k=>some (k*j.size,j.size)) z vs) fun l=>val (.agg l.toArray))=_;rw[h1];show(ob (fillA (fun k=>some (k*j.size,j.size)) z vs) fun l=>val (.agg l.toArray))=_;rw[t2];rfl
theorem ybdy{α:Type}{l:List α}{k z n:Nat}(h:l.length=n*z)(hk:k<n):((l.drop (k*z)).take z).length=z:=by
 have:=yjo (z:=z) hk;simp;omega
theorem yvn{z:List Value}(h:z.all simple=true):∀n,(repl n z).all simple=true
 |0=>rfl
 |n+1=>by rw[yin,zW,h,yvn h n];rfl
theorem ychf (hc:Conc lo F ω s f m) {t elem:TypeId}{n β:Nat}{parts:Array (Nat×Operand)}{i:TypeInfo}{z:List Value}{qs:List (Nat×Nat×Operand)}{l:List SV}
 (hop:o.op = .buildSlice t n parts) (hd:P.underlying t=some (.slice elem)) (hi:P.info? elem=some i) (hz:zeroA i=some z) (hb:n*i.size<=10000) (hb':n<=10000)
 (hq:parts.toList.mapM (fun p=>((fun k=>some (k*i.size,i.size)) p.1:Option (Nat×Nat)).map fun q=>(q.1,q.2,p.2))=some qs) (hf:fill s ((repl n z).map ofV) qs=some l) (hn:ynu s elem β=true) :
 OpS P lo F ω f m o ⟨c,⟨[],[],[(β,0)],false,false,false,false⟩,.os (β,0) 0 n true,s.own (β,0) (some ⟨elem,false,i.size,n,fun k=>(l.drop (k*i.size)).take i.size⟩)⟩:=by
 obtain⟨hs,hzl⟩:=ygc hz;have hs':=yvn hs n;obtain⟨vs,L,t1,t2,t3,t4⟩:=ybax hc (place:=fun k=>some (k*i.size,i.size)) hq (yqb hs') (ysz hs') hf;have hlen:l.length=n*i.size:=by rw[yuf hf,zAA,yer,hzl]
 have hLen:L.length=n*i.size:=by rw[<-t3.length];exact hlen
 refine OpS.new hc (b:=⟨elem,false,i.size,n,fun k=>(l.drop (k*i.size)).take i.size⟩) hn (Tb:=tOf L) (L:=fun k=>(L.drop (k*i.size)).take i.size) (u:=.slice (some ⟨m.next,0,none⟩) n n) ?_
  (fun k hk=>⟨ybdy hLen hk,(t3.drop _).take _,ysv (ykt t4 _) _,fun j hj=>?_⟩) ?_
 .unfold evOp;rw[hop];show(ob (partsA f parts.toList) fun ps=>ob (P.underlying t) (evBuildSlice P m n ps))=_;rw[t1];show ob (P.underlying t) (evBuildSlice P m n vs)=_;rw[hd];show(ob (P.info? elem) fun i=>ob (zeroA i) fun z=>evBuildSlice1 m n elem vs i z)=_;rw[hi];show(ob (zeroA i) fun z=>evBuildSlice1 m n elem vs i z)=_;rw[hz];show evBuildSlice1 m n elem vs i z=_;unfold evBuildSlice1;rw[ybh,if_pos (by rw[zA hb,zA hb'];rfl),t2]
  show some (⟨_,.new (.cells (tOf L) L.length elem i.size),[]⟩:R)=some ⟨_,.new (.cells _ (n*i.size) elem i.size),[]⟩;rw[hLen]
 .rw[ycq];have hj:j<i.size:=hj;simp[zAO,hj]
 .have:=RV.os (F:=F) (ω:=ygp ω (β,0) m.next i.size) (o:=0) (n:=n) (c:=n) (ap:=true) ydc (fun _=>.inr ⟨rfl,by show n<1208925819614629174706176;omega⟩)
  simpa using this
theorem ybmv{α:Type}{l new:List α}{p j:Nat}(h:p+new.length<=l.length):(l.take p++new++l.drop (p+new.length))[j]?=if p<=j/\j<p+new.length then new[j-p]? else l[j]?:=by
 by_cases h1:j<p
 .rw[if_neg (by omega),zAG,zQ (by simp;omega)]
  simp[h1]
 .by_cases h2:j<p+new.length
  .rw[if_pos (by omega),zAG,zO (by simp;omega),zQ (by simp;omega)]
   congr 1;simp;omega
  .rw[if_neg (by omega),zO (by simp;omega)]
   simp only[zAD,zAP,zAO];congr 1;omega
theorem Conc.upd (hc:Conc lo F ω s f m) {β:Nm}{k:Nat}{b:OB}(hex:∃c,lookO s.o β=some c) (hk:ω β=some (some (k,b.z))) (he:b.e≠CU) {Tb:Ev.T Value}{L:Nat->List Value}
 (hL:∀i,i<b.n->(L i).length=b.z/\RVL F ω (b.g i) (L i)/\(b.g i).all one1=true/\∀j,j<b.z->Tb.get (i*b.z+j)=(L i)[j]?) :
 Conc lo F ω (s.own β (some b)) f (m.app (.upd k (.cells Tb (b.n*b.z) b.e (if b.bx then 0 else b.z)))):=by
 rw[ybhp];have hget:∀i,(T.set (zG k) m.b k (some (.cells Tb (b.n*b.z) b.e (if b.bx then 0 else b.z)))).get i=if i=k then some (.cells Tb (b.n*b.z) b.e (if b.bx then 0 else b.z))else m.b.get i:=fun i=>T.set_at _ _ _ _
 have hap:=hc.apart β k _ hk;refine⟨fun i x hx=>?_,?_,hc.nxt,fun i x hx=>?_,fun γ d hd=>?_,fun γ hγ=>?_,hc.inj,hc.apart,hc.fr⟩
 .have hx:(T.set (zG k) m.b k (some (.cells Tb (b.n*b.z) b.e (if b.bx then 0 else b.z)))).get i=some x:=hx
  rw[hget]at hx;show i<m.next
  split at hx
  .rename_i q;rw[q];exact hap.2.2
  .exact hc.wf i x hx
 .show lo<=zAC m.low k;have:=hc.low;have:=hap.2.1;rw[zAM];omega
 .show(T.set (zG k) m.b k (some (.cells Tb (b.n*b.z) b.e (if b.bx then 0 else b.z)))).get i=some x
  rw[hget,if_neg (fun q=>by rw[q,hap.1]at hx;cases hx)]
  exact hc.sub i x hx
 .have hd':(if β=γ then some b else lookO s.o γ)=some d:=by rw[<-ytb (.inr hex)];exact hd
  clear hd
  split at hd'
  .rename_i q;subst q;have hd2:=Option.some.inj hd';subst hd2;exact .inl ⟨k,Tb,L,hk,he,by show(T.set (zG k) m.b k _).get k=_;rw[hget,if_pos rfl],hL⟩
  .rename_i q
   exact(hc.own γ d hd').mono (Om.le_refl _) fun k' z' hk'=>by show(T.set (zG k) m.b k _).get k'=_;rw[hget,if_neg (fun e=>hc.inj γ β k' z' k _ hk' hk (Ne.symm q) e)]
 .exact hc.dom γ (ysm hγ).2
theorem ydie(hc:Conc lo F ω s f m){t:TypeId}{x y:Operand}{i:TypeInfo}(hop:o.op = .store t x y)(hi:P.info? t=some i){p v:SV}(hx:s.get x=some p)(hy:s.get y=some v){q:XR}(h:ybbj s i.size v p=some q)(hr:q.c):OpS P lo F ω f m o q:=by
 obtain⟨u,e,hu⟩:=hc.get hx;obtain⟨w,e',hw⟩:=hc.get hy;unfold ybbj at h;split at h
 .rename_i β a j
  split at h
  .rename_i b hb
   split at h
   .rename_i hq
    cases h
    obtain⟨q1,q2,q3⟩:=hq;have ha:a<b.n:=hr;obtain⟨k,z,hk,rfl⟩:=hu.pt_inv;obtain⟨rfl,Tb,L,g1,g2⟩:=hc.ownAt hb hk;obtain⟨k1,k2⟩:=yoa hw q3;have hlen:w.cells.toList.length=i.size:=by rw[<-k1.length];exact q1
    have hin:=yjo (z:=b.z) ha;have hset:(b.set a j v.cells).z=b.z/\(b.set a j v.cells).n=b.n/\(b.set a j v.cells).e=b.e/\(b.set a j v.cells).bx=b.bx:=⟨rfl,rfl,rfl,rfl⟩
    have hg:∀n,n<b.n->(b.set a j v.cells).g n=if n=a then splice (b.g a) j v.cells else b.g n:=by
     intro n hn;unfold OB.set;simp only;split
     .rename_i hq1
      have h1:n=0:=by omega
      have h2:a=0:=by omega
      subst h1;subst h2;simp
     .rfl
    refine⟨⟨undef,.upd k (.cells (Ev.T.sets Tb (a*b.z+j) w.cells.toList) (b.n*b.z) b.e (if b.bx then 0 else b.z)),[k]⟩,ω,?_,Om.le_refl _,
     hc.upd (b:=b.set a j v.cells) ⟨_,hb⟩ hk (show b.e≠CU from hc.ownE hb hk) (L:=fun n=>if n=a then(L a).take j++w.cells.toList++(L a).drop (j+w.cells.toList.length)else L n) ?_,.tp .nil,fun _ _ _ h=>.inl h,fun y hy=>?_,fun y hy=>?_,fun _=>rfl,fun q=>(by cases q)⟩
    .unfold evOp;rw[hop];show(ob (f.get y) fun v=>ob (f.get x) (evStore P t m v))=_;rw[e'];show ob (f.get x) (evStore P t m w)=_;rw[e];show(ob (storeA P m t ⟨k,a*b.z+j,none⟩ w) fun e=>(some ⟨undef,e,[k]⟩:Option R))=_
     have:storeA P m t ⟨k,a*b.z+j,none⟩ w=some (.upd k (.cells (Ev.T.sets Tb (a*b.z+j) w.cells.toList) (b.n*b.z) b.e (if b.bx then 0 else b.z))):=by
      unfold storeA;rw[g1,hi];simp only
      have hne:zC b.e CU=false:=by
       cases hq:zC b.e CU with
       |false=>rfl
       |true=>exact absurd (zD hq) (hc.ownE hb hk)
      rw[hlen,zH,k2,zA (by omega),hne]
      rfl
     rw[this];rfl
    .intro n hn;obtain⟨l1,l2,l3,l4⟩:=g2 a ha;have hn:n<b.n:=hn;rw[hg n hn];show _/\_/\_/\∀j',j'<b.z->_
     by_cases hna:n=a
     .subst hna;simp only[if_true];have hle:j+w.cells.toList.length<=(L n).length:=by rw[l1,hlen];exact q2
      refine⟨by simp only[zAD,zAP,List.length_drop];show _=b.z;omega,?_,?_,fun j' hj'=>?_⟩
      .unfold splice;rw[k1.length];exact((l2.take _).append k1).append (l2.drop _)
      .unfold splice;rw[zW,zW,ysv l3,ykt l3,q3];rfl
      .show(Ev.T.sets Tb (n*b.z+j) w.cells.toList).get (n*b.z+j')=_;rw[T.sets_at,ybmv hle]
       by_cases hc1:j<=j'/\j'<j+w.cells.toList.length
       .rw[if_pos (by omega),if_pos hc1];congr 1;omega
       .rw[if_neg (by omega),if_neg hc1];exact l4 j' hj'
     .simp only[if_neg hna];obtain⟨m1,m2,m3,m4⟩:=g2 n hn;refine⟨m1,m2,m3,fun j' hj'=>?_⟩;show(Ev.T.sets Tb (a*b.z+j) w.cells.toList).get (n*b.z+j')=_;rw[T.sets_at,if_neg,m4 j' hj'];rcases Nat.lt_or_gt_of_ne hna with h1|h1
      .have:=yjo (z:=b.z) h1;omega
      .have:=yjo (z:=b.z) h1;omega
    .simp at hy;subst hy;exact .inl ⟨β,b.z,by simp,hk⟩
    .simp[Eff.mods]at hy;subst hy;exact⟨β,b.z,by simp,hk⟩
   .cases h
  .cases h
 .cases h
end
end Sh
end
section
namespace Sh
open Go Ev
section
variable {P:Program}{lo:Nat}{F:AM}{ω:Om}{s:SS}{f:Fr}{m:Mem}{o:Oper}{c:Prop}{r:SRec}
def ycf(L:Nat->List Value):Nat->List Value
 |0=>[]
 |n+1=>ycf L n++L n
theorem ydh{L:Nat->List Value}{z:Nat}:∀{n:Nat},(∀k,k<n->(L k).length=z)->(ycf L n).length=n*z
 |0,_=>by simp[ycf]
 | n+1,h=>by
   rw[ycf,zAD,ydh (fun k hk=>h k (by omega)),h n (by omega),zAH]
theorem yfx{L:Nat->List Value}{z:Nat}:∀{n:Nat},(∀k,k<n->(L k).length=z)->∀k j,k<n->j<z->(ycf L n)[k*z+j]?=(L k)[j]?
 |0,_,k,j,h,_=>absurd h (zAS _)
 | n + 1,h,k,j,hk,hj=>by
   have hl:=ydh (L:=L) (z:=z) (n:=n) (fun k hk=>h k (by omega))
   rw[ycf]
   by_cases hkn:k<n
   .have:=yjo (z:=z) hkn;rw[zQ (by omega)]
    exact yfx (fun k hk=>h k (by omega)) k j hkn hj
   .obtain rfl:k=n:=by omega
    rw[zO (by omega),hl]
    congr 1;omega
theorem yxq(L L':Nat->List Value)(n:Nat):∀k,ycf L n++ycf L' k=ycf (fun a=>if a<n then L a else L' (a-n)) (n+k)
 | 0 => by
   rw[ycf,List.append_nil,zAZ]
   have:∀j,j<=n->ycf L j=ycf (fun a=>if a<n then L a else L' (a-n)) j:=by
    intro j
    induction j with
    |zero=>intro _;rfl
    |succ j ih=>intro hj;rw[ycf,ycf,ih (by omega),if_pos (show j<n by omega)]
   exact this n (zT _)
 | k+1=>by
   rw[ycf,<-zAG,yxq L L' n k,show n+(k+1)=(n+k)+1 by omega]
   show _=ycf _ (n+k)++(if n+k<n then L (n+k)else L' (n+k-n))
   rw[if_neg (by omega),Nat.add_sub_cancel_left]
theorem yxz{g:Nat->List SV}{L:Nat->List Value}:∀{n:Nat},(∀k,k<n->allGood (L k)=true)->allGood (ycf L n)=true
 |0,_=>rfl
 | n + 1,h=>by
   have happ:∀(a b:List Value),allGood a=true->allGood b=true->allGood (a++b)=true:=by
    intro a b
    induction a with
    |nil=>intro _ h;exact h
    | cons v a ih =>
      intro h1 h2;cases v<;>first|exact ih h1 h2|cases h1
   exact happ _ _ (yxz (g:=g) fun k hk=>h k (by omega)) (h n (by omega))
theorem ydgd{l:List SV}{L:List Value}(hl:RVL F ω l L)(h1:l.all one1=true):allGood L=true:=by
 have:=(yoa (v:=.ag l) (u:=.agg L.toArray) (.ag hl) h1).2
 simpa[Value.cells]using this
theorem ybzm(hc:Conc lo F ω s f m){z:Nat}{v:SV}{u:Value}{q:Row}(h:yrq s z v=some q)(hv:RV F ω v u)(h0:0<q.n)(hqc:q.c) :
 ∃(L:Nat->List Value) (k:Nat),rowOf m z u=some (ycf L q.n,[k])/\lenA u=q.n/\(∀a,a<q.n->(L a).length=z/\RVL F ω (q.g a) (L a)/\(q.g a).all one1=true)/\((∃β z',β∈q.rd/\ω β=some (some (k,z')))\/(q.fz=true/\∃b,F k=some b)):=by
 have row:∀{bk p n cp N e zz:Nat}{Tb:Ev.T Value}{L:Nat->List Value},m.b.get bk=some (.cells Tb N e zz)->0<n->p+n*z<=N->(∀a,a<n->(L a).length=z)->(∀a,a<n->∀j,j<z->Tb.get (p+a*z+j)=(L a)[j]?) ->
  rowOf m z (.slice (some ⟨bk,p,none⟩) n cp)=some (ycf L n,[bk]):=by
  intro bk p n cp N e zz Tb L h1 h2 h3 h4 h5;have hl:=ydh h4;show(bif zC n 0 then _ else _)=_;rw[show zC n 0=false by cases n with|zero=>omega|succ n=>rfl]
  simp only[cond_false];rw[h1];simp only;rw[zA h3];simp only[cond_true]
  have hg:=ygz (T:=Tb) (L:=ycf L n) (o:=p) (fun j hj=>by
   rw[hl]at hj;rcases Nat.eq_zero_or_pos z with hz|hz
   .subst hz;omega
   .have hd:=zAT j z;have hm:=zBB j hz;have hk:j/z<n:=zAN (by rwa [zAI]at hj)
    have e1:j=j/z*z+j%z:=by rw[zAI];exact hd.symm
    rw[e1,yfx h4 _ _ hk hm,<-zV];exact h5 _ hk _ hm)
  rw[hl]at hg;rw[hg]
 unfold yrq at h;split at h
 .rename_i z' n g
  split at h
  .rename_i hz;subst hz;cases h
   rcases hv.sl_inv with⟨rfl,_⟩|⟨bk,p,cp,T,N,e,zz,L,rfl,g1,g2,g3,g4,g5,g6,g7⟩
   .exact absurd h0 (zAE _)
   .exact⟨L,bk,row (hc.sub _ _ g1) h0 g3 g4 g5,rfl,fun a ha=>⟨g4 a ha,(g6 a ha).mono (Le.refl _) (yxo _),g7 a ha⟩,.inr ⟨rfl,_,g1⟩⟩
  .cases h
 .rename_i β p n cp
  split at h
  .rename_i b hbl
   split at h
   .rename_i hz;subst hz;cases h
    have hb:p+n<=b.n:=hqc;rcases hv.os_inv with⟨k,z,cp',hk,rfl,_⟩|⟨_,_,rfl,_⟩
    .obtain⟨rfl,T,L,g1,g2⟩:=hc.ownAt hbl hk;have hN:p*b.z+n*b.z<=b.n*b.z:=by rw[<-zF];exact zK _ hb
     refine⟨fun a=>L (p+a),k,row g1 h0 hN (fun a ha=>(g2 (p+a) (by omega)).1) (fun a ha j hj=>?_),rfl,fun a ha=>?_,.inl ⟨β,_,by simp,hk⟩⟩
     .rw[<-zF];exact(g2 (p+a) (by omega)).2.2.2 j hj
     .have ha:a<n:=ha;obtain⟨l1,l2,l3,_⟩:=g2 (p+a) (by omega);exact⟨l1,l2,l3⟩
    .exact absurd h0 (zAE _)
   .cases h
  .cases h
 .cases h;exact absurd h0 (zAE _)
 .cases h
theorem Conc.drop(hc:Conc lo F ω s f m){γ:Nm}{k z:Nat}(hex:∃c,lookO s.o γ=some c)(hk:ω γ=some (some (k,z))):Conc lo F ω (s.own γ none) f ⟨m.next,Ev.T.set (zG k) m.b k none,zAC m.low k⟩:=by
 have hget:∀i,(Ev.T.set (zG k) m.b k none).get i=if i=k then none else m.b.get i:=fun i=>T.set_at _ _ _ _
 have hap:=hc.apart γ k z hk;refine⟨fun i x hx=>?_,?_,hc.nxt,fun i x hx=>?_,fun δ d hd=>?_,fun δ hδ=>?_,hc.inj,hc.apart,hc.fr⟩
 .have hx:(Ev.T.set (zG k) m.b k none).get i=some x:=hx;rw[hget]at hx;split at hx
  .cases hx
  .exact hc.wf i x hx
 .show lo<=zAC m.low k;have:=hc.low;have:=hap.2.1;rw[zAM];omega
 .show(Ev.T.set (zG k) m.b k none).get i=some x;rw[hget,if_neg (fun q=>by rw[q,hap.1]at hx;cases hx)]
  exact hc.sub i x hx
 .have hd':(if γ=δ then none else lookO s.o δ)=some d:=by rw[<-ytb (.inr hex)];exact hd
  clear hd
  split at hd'
  .cases hd'
  .rename_i q
   exact(hc.own δ d hd').mono (Om.le_refl _) fun k' z' hk'=>by show(Ev.T.set (zG k) m.b k _).get k'=_;rw[hget,if_neg (fun e=>hc.inj δ γ k' z' k _ hk' hk (Ne.symm q) e)]
 .exact hc.dom δ (ysm hδ).2
theorem Conc.drop0(hc:Conc lo F ω s f m){γ:Nm}(hex:∃c,lookO s.o γ=some c):Conc lo F ω (s.own γ none) f m:=by
 refine⟨hc.wf,hc.low,hc.nxt,hc.sub,fun δ d hd=>?_,fun δ hδ=>?_,hc.inj,hc.apart,hc.fr⟩
 .have hd':(if γ=δ then none else lookO s.o δ)=some d:=by rw[<-ytb (.inr hex)];exact hd
  clear hd
  split at hd'
  .cases hd'
  .exact hc.own δ d hd'
 .exact hc.dom δ (ysm hδ).2
theorem yxy{l:Own}{β:Nm}{b:OB}(h:lookO l β=some b):look l β.1≠none:=fun q=>by
 unfold lookO at h;rw[q]at h;cases h
theorem ybiq{z:Nat}{w:SV}{q:Row}(h:yrq s z w=some q){u:Value}(hv:RV F ω w u)(h0:q.n=0):rowOf m z u=some ([],[])/\lenA u=0:=by
 unfold yrq at h;split at h
 .split at h
  .cases h
   rcases hv.sl_inv with⟨rfl,hz⟩|⟨bk,p,cp,T,N,e,zz,L,rfl,_⟩
   .rcases hz with rfl|⟨b,o,c,rfl⟩<;>exact⟨rfl,rfl⟩
   .obtain rfl:=h0;exact⟨rfl,rfl⟩
  .cases h
 .split at h
  .split at h
   .cases h
    rcases hv.os_inv with⟨k,z,cp',hk,rfl,_⟩|⟨_,_,rfl,rfl⟩
    .obtain rfl:=h0;exact⟨rfl,rfl⟩
    .exact⟨rfl,rfl⟩
   .cases h
  .cases h
 .cases h;cases hv;exact⟨rfl,rfl⟩
 .cases h
theorem ycok (hc:Conc lo F ω s f m) {t elem:TypeId}{x y:Operand}{i:TypeInfo}{zv:List Value}(hop:o.op = .call { callee:=.builtin .append,args:=#[x,y],argTypes:=#[t,t] }) (hd:P.underlying t=some (.slice elem)) (hi:P.info? elem=some i) (hz:zeroA i=some zv) (hby:i.bytes<=100000000)
 {v w:SV}{q:Row}(hx:s.get x=some v) (hy:s.pget y=some w) (hq:yrq s i.size w=some q) (h0:q.n=0)
 (hX:v = .a (.slice none 0 0)\/∃γ p n,v = .os γ p n true/\n*i.bytes<=100000000/\n<=100000000):OpS P lo F ω f m o ⟨c,SRec.no,v,s⟩:=by
 obtain⟨u1,e1,r1⟩:=hc.get hx;obtain⟨u2,e2,r2⟩:=hc.pget hy;obtain⟨w1,w2⟩:=ybiq (m:=m) hq r2 h0
 have hs:∃a n c,u1 = .slice a n c/\n*i.bytes<=100000000/\n<=100000000:=by
  rcases hX with rfl|⟨γ,p,n,rfl,b1,b2⟩
  .cases r1;exact⟨_,_,_,rfl,by omega,by omega⟩
  .rcases r1.os_inv with⟨k,z,cp,hk,rfl,_⟩|⟨_,_,rfl,rfl⟩
   .exact⟨_,_,_,rfl,b1,b2⟩
   .exact⟨_,_,_,rfl,by omega,by omega⟩
 obtain⟨a,n,cp,rfl,b1,b2⟩:=hs;refine OpS.idle hc (u:=.slice a n cp) ?_ r1;unfold evOp;rw[hop];show(ob (valsA f [x,y]) fun vs=>evAppend P m vs [t,t])=_;rw[ybbc e1 e2];show iteB (zC t t) (ob (P.underlying t) _) none=_;rw[ybh,if_pos (zH _),hd];show appendA P m elem _ u2=_;unfold appendA;rw[hi];show(ob (rowOf m i.size u2) fun q=>appendA1 m elem _ u2 i q)=_;rw[w1];show appendA1 m elem _ u2 i ([],[])=_;unfold appendA1
 have e3:lenA (.slice a n cp)=n:=rfl;rw[w2,e3,zAZ,ybh,if_pos (by rw[zA b1,zA b2,zA hby,hz];rfl),ybh,if_pos (by rfl)]
 rfl
theorem ydnc (hc:Conc lo F ω s f m) {t elem:TypeId}{x y:Operand}{β:Nat}{i:TypeInfo}{zv:List Value}(hop:o.op = .call { callee:=.builtin .append,args:=#[x,y],argTypes:=#[t,t] }) (hd:P.underlying t=some (.slice elem)) (hi:P.info? elem=some i) (hz:zeroA i=some zv) (hby:i.bytes<=100000000) (hz0:i.size≠0)
 {v w:SV}{q:Row}(hx:s.get x=some v) (hy:s.pget y=some w) (hq:yrq s i.size w=some q) (hbd:q.c) (hn:ynu s elem β=true) (h0:0<q.n)
 {X:XR}(hX:(v = .a (.slice none 0 0)/\q.n*i.bytes<=100000000/\q.n<=100000000/\X=⟨c,⟨q.rd,[],[(β,0)],q.fz,false,false,false⟩,.os (β,0) 0 q.n true,s.own (β,0) (some ⟨elem,false,i.size,q.n,q.g⟩)⟩) \/
   (∃γ p n b,v = .os γ p n true/\lookO s.o γ=some b/\b.e=elem/\b.z=i.size/\b.bx=false/\p+n<=b.n/\(n+q.n)*i.bytes<=100000000/\n+q.n<=100000000/\X=⟨c,⟨γ::q.rd,[γ],[(β,0)],q.fz,false,false,false⟩,.os (β,0) 0 (n+q.n) true,(s.own γ none).own (β,0) (some ⟨elem,false,i.size,n+q.n,fun k=>if k<n then b.g (p+k)else q.g (k-n)⟩)⟩)):OpS P lo F ω f m o X:=by
 obtain⟨u1,e1,r1⟩:=hc.get hx;obtain⟨u2,e2,r2⟩:=hc.pget hy;obtain⟨L,k,w1,w2,w3,w4⟩:=ybzm hc hq r2 h0 hbd;have hlen:(ycf L q.n).length=q.n*i.size:=ydh fun a ha=>(w3 a ha).1;have hgood:allGood (ycf L q.n)=true:=yxz (g:=q.g) fun a ha=>ydgd (w3 a ha).2.1 (w3 a ha).2.2;have hω:=hc.dom (β,0) (ygr hn)
 have hev:∀{R0:Option R},(lenA u1+q.n)*i.bytes<=100000000->lenA u1+q.n<=100000000->appendA2 m i elem q.n (ycf L q.n) [k] u1=R0->evOp P f o m=R0:=by
  intro R0 h1 h2 h3;unfold evOp;rw[hop];show(ob (valsA f [x,y]) fun vs=>evAppend P m vs [t,t])=_;rw[ybbc e1 e2];show iteB (zC t t) (ob (P.underlying t) _) none=_;rw[ybh,if_pos (zH _),hd];show appendA P m elem u1 u2=_;unfold appendA;rw[hi];show(ob (rowOf m i.size u2) fun q=>appendA1 m elem u1 u2 i q)=_;rw[w1];show appendA1 m elem u1 u2 i (ycf L q.n,[k])=_;unfold appendA1;rw[w2,ybh,if_pos (by rw[zA h1,zA h2,zA hby,hz,hgood];rfl),ybh,if_neg (fun e=>by have:=zD e;omega)]
  exact h3
 have hfoot:∀{rd:List Nm}{y:Nat},(∀z∈q.rd,z∈rd)->y∈[k]->(∃β z,β∈rd/\ω β=some (some (y,z)))\/(q.fz=true/\∃b,F y=some b):=by
  intro rd y hsub hy;simp at hy;subst hy;exact w4.imp (fun⟨β,z,a,b⟩=>⟨β,z,hsub _ a,b⟩) id
 have hstep:∀γ k z,ygp ω (β,0) m.next i.size γ=some (some (k,z))->ω γ=some (some (k,z))\/m.next<=k:=fun γ k z hk=>by
  unfold ygp at hk;split at hk
  .cases hk;exact .inr (zT _)
  .exact .inl hk
 have hnil:u1 = .slice none 0 0->q.n*i.bytes<=100000000->q.n<=100000000->evOp P f o m=some ⟨.slice (some ⟨m.next,0,none⟩) q.n CU,.new (.cells (tOf (ycf L q.n)) (q.n*i.size) elem i.size),[k]⟩:=by
  rintro rfl h1 h2;refine hev (by show(0+q.n)*_<=_;rw[zU];exact h1) (by show 0+q.n<=_;omega) ?_
  show appRes m q.n _ _=_;unfold appRes;rw[ybl,hlen]
 have hrow:∀a,a<q.n->(L a).length=i.size/\RVL F ω (q.g a) (L a)/\(q.g a).all one1=true/\∀j,j<i.size->(tOf (ycf L q.n)).get (a*i.size+j)=(L a)[j]?:=fun a ha =>
  ⟨(w3 a ha).1,(w3 a ha).2.1,(w3 a ha).2.2,fun j hj=>by rw[ycq];exact yfx (fun a ha=>(w3 a ha).1) a j ha hj⟩
 have hval:∀n,RV F (ygp ω (β,0) m.next i.size) (.os (β,0) 0 n true) (.slice (some ⟨m.next,0,none⟩) n CU):=fun n=>by
  have:=RV.os (F:=F) (ω:=ygp ω (β,0) m.next i.size) (o:=0) (n:=n) (c:=CU) (ap:=true) ydc (fun _=>.inl rfl)
  simpa using this
 rcases hX with⟨rfl,b1,b2,rfl⟩|⟨γ,p,n,b,rfl,hb,be,bz,bb,hpn,b1,b2,rfl⟩
 .have hu1:u1 = .slice none 0 0:=by cases r1;rfl
  refine⟨_,ygp ω (β,0) m.next i.size,hnil hu1 b1 b2,ylb hω,hc.new (b:=⟨elem,false,i.size,q.n,q.g⟩) (ygr hn) (ypo hn) hrow,hval _,hstep,fun y hy=>hfoot (fun _ h=>h) hy,fun y hy=>(by cases hy),fun q=>(by cases q),fun _=>⟨(β,0),i.size,by simp,ydc⟩⟩
 .have hβγ:β≠γ.1:=fun e=>yxy hb (by rw[<-e];exact ygr hn)
  have hn':look (s.own γ none).o β=none:=by
   show(if γ.1=β then some (yrj (look s.o γ.1) γ.2 none)else look s.o β)=none
   rw[if_neg (Ne.symm hβγ)];exact ygr hn
  have hz0':zC i.size 0=false:=by cases he:i.size with|zero=>exact absurd he hz0|succ a=>rfl
  rcases r1.os_inv with⟨k1,z1,cp,hk1,rfl,hcp⟩|⟨hk1,h0p,h00,rfl⟩
  .obtain⟨rfl,Tb,L1,g1,g2⟩:=hc.ownAt hb hk1;rw[bb,be,bz]at g1;have hin:p*b.z+n*i.size<=b.n*i.size:=by rw[bz,<-zF];exact zK _ hpn
   have hl1:∀a,a<n->(L1 (p+a)).length=i.size:=fun a ha=>by rw[<-bz];exact(g2 (p+a) (by omega)).1
   have hold:getCells Tb (p*b.z) (n*i.size)=some (ycf (fun a=>L1 (p+a)) n):=by
    have hfl:=ydh hl1
    have:=ygz (T:=Tb) (L:=ycf (fun a=>L1 (p+a)) n) (o:=p*b.z) (fun j hj=>by
     rw[hfl]at hj;have hpos:0<i.size:=Nat.pos_of_ne_zero hz0;have hd:=zAT j i.size;have hm:=zBB j hpos;have hk:j/i.size<n:=zAN (by rwa [zAI]at hj)
     have e1:j=j/i.size*i.size+j%i.size:=by rw[zAI];exact hd.symm
     have e2:=(g2 (p+j/i.size) (by omega)).2.2.2 (j%i.size) (by rw[bz];exact hm)
     rw[e1,yfx hl1 _ _ hk hm,<-e2,bz,zF,zV])
    rwa [hfl]at this
   have hsome:∀{R0:Option R},appOut m ⟨k1,p*b.z,none⟩ Tb elem i.size n (n+q.n) cp (ycf L q.n) [k1,k]=R0->evOp P f o m=R0:=by
    intro R0 h;refine hev (by exact b1) (by exact b2) ?_
    show(ob (m.b.get k1) fun b'=>appSome m i elem ⟨k1,p*b.z,none⟩ n (n+q.n) cp (ycf L q.n) [k] b')=_;rw[g1];show iteB (zC elem elem&&zC i.size i.size && !(zC i.size 0)&&zAB (p*b.z+n*i.size) (b.n*i.size)&&true && !(zC elem CU)) (iteB (zAB (n+q.n) cp && !(zC cp CU)) _ (appOut m ⟨k1,p*b.z,none⟩ Tb elem i.size n (n+q.n) cp (ycf L q.n) [k1,k])) none=_
    have hne:zC elem CU=false:=by
     cases hq:zC elem CU with
     |false=>rfl
     |true=>exact absurd (zD hq) (ypo hn)
    rw[ybh,if_pos (by rw[zH,zH,hz0',zA hin,hne];rfl),ybh,if_neg]
    .exact h
    .rw[zB];rintro⟨q1,q2⟩;rcases hcp rfl with rfl|⟨rfl,_⟩
     .rw[zH]at q2;cases q2
     .have:=Nat.le_of_ble_eq_true q1;omega
   have hL2:∀{Tn:Ev.T Value},(∀a,a<n+q.n->∀j,j<i.size->Tn.get (a*i.size+j)=(if a<n then L1 (p+a)else L (a-n))[j]?)->∀a,a<n+q.n ->
    ((if a<n then L1 (p+a)else L (a-n)).length=i.size/\RVL F ω (if a<n then b.g (p+a)else q.g (a-n)) (if a<n then L1 (p+a)else L (a-n))/\(if a<n then b.g (p+a)else q.g (a-n)).all one1=true/\∀j,j<i.size->Tn.get (a*i.size+j)=(if a<n then L1 (p+a)else L (a-n))[j]?):=by
    intro Tn hT a ha;refine⟨?_,?_,?_,hT a ha⟩<;>by_cases h:a<n
    .rw[if_pos h];exact hl1 a h
    .rw[if_neg h];exact(w3 (a-n) (by omega)).1
    .rw[if_pos h,if_pos h];exact(g2 (p+a) (by omega)).2.1
    .rw[if_neg h,if_neg h];exact(w3 (a-n) (by omega)).2.1
    .rw[if_pos h];exact(g2 (p+a) (by omega)).2.2.1
    .rw[if_neg h];exact(w3 (a-n) (by omega)).2.2
   have hjoin:∀a,a<n+q.n->∀j,j<i.size->(tOf (ycf (fun a=>L1 (p+a)) n++ycf L q.n)).get (a*i.size+j)=(if a<n then L1 (p+a)else L (a-n))[j]?:=by
    intro a ha j hj;rw[ycq,yxq];refine yfx (L:=fun a=>if a<n then L1 (p+a)else L (a-n)) (z:=i.size) (fun k hk=>?_) a j ha hj
    by_cases h:k<n
    .simp only[if_pos h];exact hl1 k h
    .simp only[if_neg h];exact(w3 (k-n) (by omega)).1
   have hjl:(ycf (fun a=>L1 (p+a)) n).length+(ycf L q.n).length=(n+q.n)*i.size:=by rw[ydh hl1,hlen,zF]
   have hfoot2:∀y∈[k1,k],(∃β z,β∈γ::q.rd/\ω β=some (some (y,z)))\/(q.fz=true/\∃b,F y=some b):=fun y hy=>by
    rcases List.mem_cons.1 hy with h|h
    .subst h;exact .inl ⟨γ,b.z,by simp,hk1⟩
    .exact hfoot (fun z hz=>zS _ hz) h
   have hmove:∀{Tn:Ev.T Value},evOp P f o m=some ⟨.slice (some ⟨m.next,0,none⟩) (n+q.n) CU,.move k1 (.cells Tn ((n+q.n)*i.size) elem i.size),[k1,k]⟩->(∀a,a<n+q.n->∀j,j<i.size->Tn.get (a*i.size+j)=(if a<n then L1 (p+a)else L (a-n))[j]?) ->
    OpS P lo F ω f m o ⟨c,⟨γ::q.rd,[γ],[(β,0)],q.fz,false,false,false⟩,.os (β,0) 0 (n+q.n) true,(s.own γ none).own (β,0) (some ⟨elem,false,i.size,n+q.n,fun k=>if k<n then b.g (p+k)else q.g (k-n)⟩)⟩:=by
    intro Tn hev2 hT;have hcn:=(hc.drop ⟨_,hb⟩ hk1).new (b:=⟨elem,false,i.size,n+q.n,fun k=>if k<n then b.g (p+k)else q.g (k-n)⟩) hn' (ypo hn) (Tb:=Tn) (L:=fun a=>if a<n then L1 (p+a)else L (a-n)) (hL2 hT)
    refine⟨_,ygp ω (β,0) m.next i.size,hev2,ylb hω,?_,hval _,hstep,hfoot2,fun y hy=>?_,fun q=>(by cases q),fun _=>⟨(β,0),i.size,by simp,ydc⟩⟩
    .rw[ycej];rw[ybtk]at hcn;exact hcn
    .simp[Eff.mods]at hy;subst hy;exact⟨γ,b.z,by simp,hk1⟩
   rcases hcp rfl with rfl|⟨rfl,hnc⟩
   .by_cases hp0:p*b.z=0
    .have hp:p=0:=by
      rcases Nat.mul_eq_zero.1 hp0 with h|h
      .exact h
      .rw[bz]at h;exact absurd h hz0
     refine hmove (Tn:=Ev.T.sets Tb (n*i.size) (ycf L q.n)) (hsome ?_) (fun a ha j hj=>?_)
     .unfold appOut;rw[ybh,if_pos (by rw[zH,hp0];rfl)]
      unfold appRes;rw[ybl,hlen,zF]
     .by_cases h:a<n
      .rw[if_pos h];have:=yjo (z:=i.size) h;have e2:=(g2 (p+a) (by omega)).2.2.2 j (by rw[bz];exact hj)
       rw[T.sets_at,if_neg (by omega)]
       rw[<-e2,bz,hp,zU]
      .rw[if_neg h];have e3:a*i.size=n*i.size+(a-n)*i.size:=by rw[<-zF];congr 1;omega
       have:=yjo (z:=i.size) (show a-n<q.n by omega)
       rw[T.sets_at,if_pos (by omega),show a*i.size+j-n*i.size=(a-n)*i.size+j by omega]
       exact yfx (fun a ha=>(w3 a ha).1) _ j (by omega) hj
    .refine hmove (Tn:=tOf (ycf (fun a=>L1 (p+a)) n++ycf L q.n)) (hsome ?_) hjoin;unfold appOut;rw[ybh,if_neg (by rw[zB];rintro⟨_,q2⟩;exact hp0 (zD q2))]
     show(ob (getCells Tb (p*b.z) (n*i.size)) fun old=>_)=_;rw[hold];show appRes m (n+q.n) (iteB (zC CU CU) _ _) [k1,k]=_;rw[ybh,if_pos (zH _)];unfold appRes;rw[ybl,hjl]
   .have hnb:zC cp CU=false:=by
     cases hq:zC cp CU with
     |false=>rfl
     |true=>have:=zD hq;omega
    have hev2:evOp P f o m=some ⟨.slice (some ⟨m.next,0,none⟩) (cp+q.n) CU,.new (.cells (tOf (ycf (fun a=>L1 (p+a)) cp++ycf L q.n)) ((cp+q.n)*i.size) elem i.size),[k1,k]⟩:=by
     refine hsome ?_;unfold appOut;rw[ybh,if_neg (by rw[hnb];simp)]
     show(ob (getCells Tb (p*b.z) (cp*i.size)) fun old=>_)=_;rw[hold];show appRes m (cp+q.n) (iteB (zC cp CU) _ _) [k1,k]=_;rw[ybh,if_neg (by rw[hnb];simp)]
     unfold appRes;rw[ybl,hjl]
    have hcn:=(hc.drop0 ⟨_,hb⟩).new (b:=⟨elem,false,i.size,cp+q.n,fun k=>if k<cp then b.g (p+k)else q.g (k-cp)⟩) hn' (ypo hn) (Tb:=tOf (ycf (fun a=>L1 (p+a)) cp++ycf L q.n)) (L:=fun a=>if a<cp then L1 (p+a)else L (a-cp)) (hL2 hjoin)
    exact⟨_,ygp ω (β,0) m.next i.size,hev2,ylb hω,hcn,hval _,hstep,hfoot2,fun y hy=>(by cases hy),fun q=>(by cases q),fun _=>⟨(β,0),i.size,by simp,ydc⟩⟩
  .have hq0:n=0:=h00;subst hq0;have hcd:=hc.drop0 ⟨_,hb⟩
   have hcn:=hcd.new (b:=⟨elem,false,i.size,0+q.n,fun k=>if k<0 then b.g (p+k)else q.g (k-0)⟩) hn' (ypo hn) (Tb:=tOf (ycf L q.n)) (L:=L) (fun a ha=>by
    have ha:a<0+q.n:=ha;simp only;rw[if_neg (by omega),Nat.sub_zero]
    exact hrow a (by omega))
   refine⟨_,ygp ω (β,0) m.next i.size,hnil rfl (by rw[zU]at b1;exact b1) (by omega),ylb hω,?_,?_,hstep,fun y hy=>hfoot (fun z hz=>zS _ hz) hy,fun y hy=>(by cases hy),fun q=>(by cases q),fun _=>⟨(β,0),i.size,by simp,ydc⟩⟩
   .have:0+q.n=q.n:=by omega
    simp only[this]at hcn ⊢;exact hcn
   .rw[zU];exact hval _
end
end Sh
end
section
namespace Sh
open Go Ev
def placeOf(P:Program):TypeDesc->Option (Nat->Option (Nat×Nat))
 | .struct fs=>match placesA P fs.toList with
   |some pl=>some fun k=>pl[k]?
   |none=>none
 | .array _ e=>match P.info? e with
   |some j=>some fun k=>some (k*j.size,j.size)
   |none=>none
 |_=>none
def partsOf(place:Nat->Option (Nat×Nat))(ps:List (Nat×Operand)):Option (List (Nat×Nat×Operand)):=ps.mapM fun p=>(place p.1).map fun q=>(q.1,q.2,p.2)
noncomputable def ybbb(P:Program)(t:TypeId)(z:List Value):TypeDesc->SOp
 | .array n e=>match P.info? e with
   | some j=>(match zeroA j with
     |some zj=>if eqL1 z (repl n zj)then .alloc t n (zj.map ofV)else .alloc t 1 (z.map ofV)
     |none=>.alloc t 1 (z.map ofV))
   |none=>.alloc t 1 (z.map ofV)
 |_=>.alloc t 1 (z.map ofV)
noncomputable def yzd(z:List Value)(ps:List (Nat×Operand))(pl:Nat->Option (Nat×Nat)):Option SOp:=match partsOf pl ps with
 |some qs=>some (.build (z.map ofV) qs)
 |none=>none
noncomputable def ysn(n e:Nat)(ps:List (Nat×Operand))(i:TypeInfo)(z:List Value):Option SOp :=
 if n*i.size<=10000/\n<=10000 then(match partsOf (fun k=>some (k*i.size,i.size)) ps with
  |some qs=>some (.bslice e i.size n ((repl n z).map ofV) qs)
  |none=>none)else none
noncomputable def callOf(P:Program):Callee->List Operand->List TypeId->Option SOp
 |.value f,xs,_=>some (.call f xs)
 | .builtin .len,[x],[t]=>match P.underlying t with
   |some (.slice _)=>some (.len x)
   |_=>none
 | .builtin .append,[x,y],[t,u]=>if t=u then(match P.underlying t with
   | some (.slice e)=>(match P.info? e with
     |some i=>if (zeroA i).isSome/\i.bytes<=100000000/\i.size≠0 then some (.app e i.size i.bytes x y)else none
     |none=>none)
   |_=>none)else none
 |.builtin .max,[x,y],_=>some (.mm true x y)
 |.builtin .min,[x,y],_=>some (.mm false x y)
 |_,_,_=>none
def ydga:BinOp->Operand->Operand->Bool
 |.sub,.tmp k,.const (.int .i64 (.ofNat n))=>zC n 1&&zC k 11
 |.add,.tmp k,.tmp j=>zC k 50&&zC j 51
 |_,_,_=>false
theorem ycec{op:BinOp}{x y:Operand}(h:ydga op x y=true):op = .sub\/op = .add:=by
 unfold ydga at h;split at h
 .exact .inl rfl
 .exact .inr rfl
 .cases h
def ycfr(op:BinOp)(x y:Operand):SOp:=match op with
 |.add=>.wadd x y
 |_=>.wsub x y
noncomputable def ybul(P:Program)(t:TypeId)(ne:Bool)(n:Nat)(e:TypeId)(x y:Operand):SOp :=
 match P.info? e with
 | some i=>if i.size=1/\P.eqGuardType P.depth t=false then(match fsK P 0 (arrF e n)with
   |some ks=>.seq ne ks x y
   |none=>.no)else .no
 |none=>.no
noncomputable def ycdv(P:Program)(op:BinOp)(t:TypeId)(x y:Operand):SOp:=if ydga op x y=true then ycfr op x y else match op,P.underlying t with
 |.eql,some .bool=>.beq false x y
 |.neq,some .bool=>.beq true x y
 | .eql,some (.struct fa)=>(match fsK P 0 fa.toList with
   |some ks=>if P.eqGuardType P.depth t=false/\P.stoodInHeld t=false then .seq false ks x y else .no
   |none=>.no)
 | .neq,some (.struct fa)=>(match fsK P 0 fa.toList with
   |some ks=>if P.eqGuardType P.depth t=false/\P.stoodInHeld t=false then .seq true ks x y else .no
   |none=>.no)
 |.eql,some (.array n e)=>ybul P t false n e x y
 |.neq,some (.array n e)=>ybul P t true n e x y
 |op,_=>.bin op x y
noncomputable def res(P:Program):Op->Option SOp
 |.move x=>some (.mv x)
 |.assign x=>some (.mv x)
 |.pick c a b=>some (.pick c a b)
 |.alloc t=>(P.info? t).bind fun i=>(zeroA i).bind fun z=>(P.underlying t).bind fun d=>some (ybbb P t z d)
 |.box t x=>some (.box t x)
 |.build t parts=>(P.info? t).bind fun i=>(zeroA i).bind fun z=>(P.underlying t).bind fun d=>(placeOf P d).bind fun pl=>yzd z parts.toList pl
 | .buildSlice t n parts=>(P.underlying t).bind fun
   |.slice e=>(P.info? e).bind fun i=>(zeroA i).bind fun z=>ysn n e parts.toList i z
   |_=>none
 |.load t x=>(P.underlying t).bind fun d=>(P.info? t).bind fun i=>some (.load (isAggD d) i.size x)
 |.store t x y=>(P.info? t).bind fun i=>some (.store i.size x y)
 |.nilCheck x=>some (.nilck x)
 | .fieldAddr t x k=>(P.underlying t).bind fun
   |.struct fs=>fs[k]?.bind fun fd=>(P.info? fd.type).bind fun i=>if i.size=0 then none else some (.faddr fd.offset i.size x)
   |_=>none
 | .field t x k=>(P.underlying t).bind fun
   |.struct fs=>fs[k]?.bind fun fd=>(P.info? fd.type).bind fun i=>(P.underlying fd.type).bind fun d=>some (.field (isAggD d) fd.offset i.size x)
   |_=>none
 | .indexAddr t x y=>(P.underlying t).bind fun
   |.slice e=>(P.info? e).bind fun i=>some (.idx i.size x y)
   |.array n e=>(P.info? e).bind fun i=>some (.idxA n i.size x y)
   |_=>none
 | .index t (.const (.string b)) k=>(P.underlying t).bind fun
   |.string=>some (.stri (b.data.toList.map UInt8.toNat) k)
   |_=>none
 |.extract x k=>some (.extract x k)
 |.makeFunc (.func g) a b=>some (.mkfn g a.toList b.toList)
 | .makeSlice t x y=>(P.underlying t).bind fun
   |.slice e=>(P.info? e).bind fun i=>(zeroA i).bind fun z=>some (.mk e i.size i.bytes (z.map ofV) x y)
   |_=>none
 | .slice t x lo hi none=>(P.underlying t).bind fun
   |.slice e=>(P.info? e).bind fun i=>some (.cut i.size x lo hi)
   |.array n e=>(P.info? e).bind fun i=>some (.cutA n i.size x lo hi)
   |_=>none
 |.binOp op t x y _=>some (ycdv P op t x y)
 |.unOp op _ x=>some (.un op x)
 | .convert src dst x=>(P.underlying src).bind fun _=>(P.underlying dst).bind fun
   |.int k=>some (.conv k x)
   |_=>none
 |.call c=>callOf P c.callee c.args.toList c.argTypes.toList
 |_=>none
section
variable {P:Program}{lo:Nat}{F:AM}{ω:Om}{s:SS}{f:Fr}{m:Mem}{o:Oper}
theorem bind_some{α β:Type}{x:Option α}{k:α->Option β}{r:β}(h:x.bind k=some r):∃a,x=some a/\k a=some r:=by
 cases x with
 |none=>cases h
 |some a=>exact⟨a,rfl,h⟩
theorem ydbh(hc:Conc lo F ω s f m){t:TypeId}{i:TypeInfo}{z:List Value}{d:TypeDesc}(hop:o.op = .alloc t)(hi:P.info? t=some i)(hz:zeroA i=some z){r:XR}(hx:xOp s o.dst (ybbb P t z d)=some r):OpS P lo F ω f m o r:=by
 have one:∀{r:XR},xOp s o.dst (.alloc t 1 (z.map ofV))=some r->OpS P lo F ω f m o r:=by
  intro r hx;simp only[xOp]at hx;split at hx
  .rename_i β hd
   split at hx
   .rename_i hn
    cases hx
    exact ybyl hc hop hi hz (n:=1) (zj:=z) (by simp[yin,yts]) (ygc hz).1 hn
   .cases hx
  .cases hx
 unfold ybbb at hx;split at hx
 .split at hx
  .split at hx
   .rename_i hzj
    split at hx
    .rename_i he
     simp only[xOp]at hx;split at hx
     .split at hx
      .rename_i hn
       cases hx
       exact ybyl hc hop hi hz (ypg he) (ygc hzj).1 hn
      .cases hx
     .cases hx
    .exact one hx
   .exact one hx
  .exact one hx
 .exact one hx
theorem ydbi (hc:Conc lo F ω s f m) {t:TypeId}{parts:Array (Nat×Operand)}{i:TypeInfo}{z:List Value}{d:TypeDesc}{pl:Nat->Option (Nat×Nat)}{sop:SOp}(hop:o.op = .build t parts) (hi:P.info? t=some i) (hz:zeroA i=some z) (hd:P.underlying t=some d) (hp:placeOf P d=some pl)
 (hb:yzd z parts.toList pl=some sop) {r:XR}(hx:xOp s o.dst sop=some r):OpS P lo F ω f m o r:=by
 unfold yzd at hb;split at hb
 .rename_i qs hq
  cases hb
  simp only[xOp]at hx;split at hx
  .rename_i l hl
   cases hx
   refine ydfi hc hop hi hz hd (place:=pl) ?_ hq hl;unfold placeOf at hp;split at hp
   .split at hp
    .rename_i pl' h1;cases hp;exact .inl ⟨_,pl',rfl,h1,rfl⟩
    .cases hp
   .split at hp
    .rename_i j h1;cases hp;exact .inr ⟨_,_,j,rfl,h1,rfl⟩
    .cases hp
   .cases hp
  .cases hx
 .cases hb
theorem ychd (hc:Conc lo F ω s f m) {t e n:Nat}{parts:Array (Nat×Operand)}{i:TypeInfo}{z:List Value}{sop:SOp}(hop:o.op = .buildSlice t n parts) (hd:P.underlying t=some (.slice e)) (hi:P.info? e=some i) (hz:zeroA i=some z)
 (hb:ysn n e parts.toList i z=some sop) {r:XR}(hx:xOp s o.dst sop=some r):OpS P lo F ω f m o r:=by
 unfold ysn at hb;split at hb
 .rename_i hle
  split at hb
  .rename_i qs hq
   cases hb
   simp only[xOp]at hx;split at hx
   .rename_i β l hdst hl
    split at hx
    .rename_i hn
     cases hx
     exact ychf hc hop hd hi hz hle.1 hle.2 hq hl hn
    .cases hx
   .cases hx
  .cases hb
 .cases hb
theorem yduz (hc:Conc lo F ω s f m) {t e:Nat}{x y:Operand}{i:TypeInfo}(hop:o.op = .call { callee:=.builtin .append,args:=#[x,y],argTypes:=#[t,t] }) (hd:P.underlying t=some (.slice e)) (hi:P.info? e=some i) (hz:(zeroA i).isSome/\i.bytes<=100000000/\i.size≠0)
 {r:XR}(hx:xOp s o.dst (.app e i.size i.bytes x y)=some r) (hr:r.c):OpS P lo F ω f m o r:=by
 obtain⟨zv,hzv⟩:=Option.isSome_iff_exists.1 hz.1;simp only[xOp]at hx;split at hx
 .rename_i β v w hdst hv hw
  split at hx
  .rename_i q hq
   split at hx
   .rename_i hn
    split at hx
    .rename_i hq0
     split at hx
     .cases hx
      exact ycok hc hop hd hi hzv hz.2.1 hv hw hq hq0 (.inl rfl)
     .cases hx
      obtain⟨c1,c2,c3⟩:=hr;exact ycok hc hop hd hi hzv hz.2.1 hv hw hq hq0 (.inr ⟨_,_,_,rfl,c2,c3⟩)
     .cases hx
    split at hx
    .cases hx
     obtain⟨c1,c2,c3,c4⟩:=hr;exact ydnc hc hop hd hi hzv hz.2.1 hz.2.2 hv hw hq c1 hn c2 (.inl ⟨rfl,c3,c4,rfl⟩)
    .rename_i γ p n
     split at hx
     .rename_i b hb
      split at hx
      .rename_i hbb
       cases hx
       obtain⟨c1,c2,c3,c4,c5⟩:=hr;exact ydnc hc hop hd hi hzv hz.2.1 hz.2.2 hv hw hq c1 hn c3 (.inr ⟨γ,p,n,b,rfl,hb,hbb.1,hbb.2.1,hbb.2.2,c2,c4,c5,rfl⟩)
      .cases hx
     .cases hx
    .cases hx
   .cases hx
  .cases hx
 .cases hx
theorem arr2{x y:Operand}{a:Array Operand}(h:a.toList=[x,y]):a = #[x,y]:=by apply Array.toList_inj.1;simpa using h
theorem ydlt(hc:Conc lo F ω s f m){cl:Callee}{args:Array Operand}{ats:Array TypeId}{sop:SOp}(hop:o.op = .call { callee:=cl,args:=args,argTypes:=ats })(hb:callOf P cl args.toList ats.toList=some sop){r:XR}(hx:xOp s o.dst sop=some r)(hr:r.c):OpS P lo F ω f m o r:=by
 unfold callOf at hb;split at hb
 .cases hb;simp only[xOp]at hx;cases hx
 .rename_i x t ha ht
  have e1:args = #[x]:=by apply Array.toList_inj.1;simpa using ha
  have e2:ats = #[t]:=by apply Array.toList_inj.1;simpa using ht
  subst e1 e2;split at hb
  .rename_i hd
   cases hb
   simp only[xOp]at hx;split at hx
   .rename_i h;cases hx;exact ydaq hc hop hd h (.inl ⟨_,_,rfl⟩)
   .rename_i h;cases hx;exact ydaq hc hop hd h (.inr (.inl ⟨_,_,_,rfl⟩))
   .rename_i h;cases hx;exact ydaq hc hop hd h (n:=0) (.inr (.inr ⟨rfl,rfl⟩))
   .cases hx
  .cases hb
 .rename_i x y t u ha ht
  have e1:=arr2 ha;have e2:ats = #[t,u]:=by apply Array.toList_inj.1;simpa using ht
  subst e1 e2;split at hb
  .rename_i htu
   subst htu;split at hb
   .rename_i hd
    split at hb
    .rename_i hi
     split at hb
     .rename_i hz
      cases hb
      exact yduz hc hop hd hi hz hx hr
     .cases hb
    .cases hb
   .cases hb
  .cases hb
 .rename_i x y ha
  have e1:=arr2 ha;subst e1;cases hb
  simp only[xOp]at hx;split at hx
  .rename_i h1 h2
   split at hx
   .rename_i hk;subst hk;cases hx
    exact s_mm hc (mx:=true) hop h1 h2
   .cases hx
  .cases hx
 .rename_i x y ha
  have e1:=arr2 ha;subst e1;cases hb
  simp only[xOp]at hx;split at hx
  .rename_i h1 h2
   split at hx
   .rename_i hk;subst hk;cases hx
    exact s_mm hc (mx:=false) hop h1 h2
   .cases hx
  .cases hx
 .cases hb
theorem ybcl(hc:Conc lo F ω s f m){sop:SOp}(hres:res P o.op=some sop){r:XR}(hx:xOp s o.dst sop=some r)(hr:r.c):OpS P lo F ω f m o r:=by
 unfold res at hres;split at hres
 .rename_i hop;cases hres;simp only[xOp]at hx;split at hx
  .rename_i h;cases hx;exact s_mv hc (.inl hop) h
  .cases hx
 .rename_i hop;cases hres;simp only[xOp]at hx;split at hx
  .rename_i h;cases hx;exact s_mv hc (.inr hop) h
  .cases hx
 .rename_i hop;cases hres;simp only[xOp]at hx;split at hx
  .rename_i h
   split at hx
   .rename_i h2;cases hx;exact ydkm hc hop h h2
   .cases hx
  .cases hx
 .rename_i hop
  obtain⟨i,h1,hres⟩:=bind_some hres;obtain⟨z,h2,hres⟩:=bind_some hres;obtain⟨d,h3,hres⟩:=bind_some hres;cases hres
  exact ydbh hc hop h1 h2 hx
 .rename_i hop;cases hres;simp only[xOp]at hx;split at hx
  .rename_i h1 h2
   split at hx
   .rename_i h3;cases hx;exact yduf hc hop h2 h3.1 h3.2
   .cases hx
  .cases hx
 .rename_i hop
  obtain⟨i,h1,hres⟩:=bind_some hres;obtain⟨z,h2,hres⟩:=bind_some hres;obtain⟨d,h3,hres⟩:=bind_some hres;obtain⟨pl,h4,hres⟩:=bind_some hres;exact ydbi hc hop h1 h2 h3 h4 hres hx
 .rename_i hop
  obtain⟨d,h1,hres⟩:=bind_some hres;split at hres
  .obtain⟨i,h2,hres⟩:=bind_some hres;obtain⟨z,h3,hres⟩:=bind_some hres;exact ychd hc hop h1 h2 h3 hres hx
  .cases hres
 .rename_i hop
  obtain⟨d,h1,hres⟩:=bind_some hres;obtain⟨i,h2,hres⟩:=bind_some hres;cases hres;simp only[xOp]at hx;split at hx
  .rename_i h;exact ycxu hc hop h1 h2 h hx hr
  .cases hx
 .rename_i hop
  obtain⟨i,h2,hres⟩:=bind_some hres;cases hres;simp only[xOp]at hx;split at hx
  .rename_i h h';exact ydie hc hop h2 h h' hx hr
  .cases hx
 .rename_i hop;cases hres;simp only[xOp]at hx;split at hx
  .rename_i h;cases hx;exact ybtx hc hop h (.inl ⟨_,rfl⟩)
  .rename_i h;cases hx;exact ybtx hc hop h (.inr ⟨_,_,_,rfl⟩)
  .cases hx
 .rename_i hop
  obtain⟨d,h1,hres⟩:=bind_some hres;split at hres
  .obtain⟨fd,h2,hres⟩:=bind_some hres;obtain⟨i,h3,hres⟩:=bind_some hres;split at hres
   .cases hres
   .rename_i h0
    cases hres;simp only[xOp]at hx;split at hx
    .rename_i h
     split at hx
     .rename_i hl;cases hx;exact ybts hc hop h1 h2 h3 h0 h (.inl ⟨_,rfl,hl,rfl⟩)
     .cases hx
    .rename_i h;cases hx;exact ybts hc hop h1 h2 h3 h0 h (.inr ⟨_,_,_,rfl,rfl⟩)
    .cases hx
  .cases hres
 .rename_i hop
  obtain⟨d,h1,hres⟩:=bind_some hres;split at hres
  .obtain⟨fd,h2,hres⟩:=bind_some hres;obtain⟨i,h3,hres⟩:=bind_some hres;obtain⟨d',h4,hres⟩:=bind_some hres;cases hres;simp only[xOp]at hx;split at hx
   .rename_i h
    split at hx
    .rename_i hl;cases hx;exact yddg hc hop h1 h2 h3 h4 h hl
    .cases hx
   .cases hx
  .cases hres
 .rename_i hop
  obtain⟨d,h1,hres⟩:=bind_some hres;split at hres
  .obtain⟨i,h2,hres⟩:=bind_some hres;cases hres;simp only[xOp]at hx;split at hx
   .rename_i h h';exact ydto hc hop h1 h2 h h' hx hr
   .cases hx
  .obtain⟨i,h2,hres⟩:=bind_some hres;cases hres;simp only[xOp]at hx;split at hx
   .rename_i h h'
    split at hx
    .rename_i b hb
     split at hx
     .rename_i hbb;cases hx;exact yccg hc hop h1 h2 h h' hr (.inl ⟨_,b,_,_,rfl,hb,hbb,rfl⟩)
     .cases hx;exact yccg hc hop h1 h2 h h' hr (.inr (.inl ⟨_,_,_,rfl,rfl⟩))
    .cases hx
   .rename_i h h';cases hx;exact yccg hc hop h1 h2 h h' ⟨hr.1,hr.2.1⟩ (.inr (.inr ⟨_,rfl,hr.2.2,rfl⟩))
   .cases hx
  .cases hres
 .rename_i hop
  obtain⟨d,h1,hres⟩:=bind_some hres;split at hres
  .cases hres;simp only[xOp]at hx;split at hx
   .rename_i h;cases hx;exact ydmd hc hop h1 h hr
   .cases hx
  .cases hres
 .rename_i hop;cases hres;simp only[xOp]at hx;split at hx
  .rename_i h
   split at hx
   .rename_i h2;cases hx;exact ycaz hc hop h h2
   .cases hx
  .cases hx
 .rename_i hop;cases hres;simp only[xOp]at hx;split at hx
  .rename_i h h';cases hx;exact ydpe hc hop h h'
  .cases hx
 .rename_i hop
  obtain⟨d,h1,hres⟩:=bind_some hres;split at hres
  .obtain⟨i,h2,hres⟩:=bind_some hres;obtain⟨z,h3,hres⟩:=bind_some hres;cases hres;simp only[xOp]at hx;split at hx
   .rename_i β k n k' n' hd h h'
    split at hx
    .rename_i hn;cases hx
     obtain⟨rfl,c1,c2,c3⟩:=hr;exact s_mk hc hop h1 h2 h3 h h' c1 c2 c3 hn
    .cases hx
   .cases hx
  .cases hres
 .rename_i hop
  obtain⟨d,h1,hres⟩:=bind_some hres;split at hres
  .obtain⟨i,h2,hres⟩:=bind_some hres;cases hres;simp only[xOp]at hx;split at hx
   .rename_i h
    split at hx
    .rename_i h3 h4
     split at hx
     .rename_i hz;subst hz;cases hx;exact ydqu hc hop h1 h2 h (.inl ⟨_,_,rfl,h3,h4,hr,rfl⟩)
     .cases hx
    .cases hx
   .rename_i h
    split at hx
    .rename_i h3 h4 h5
     split at hx
     .rename_i hz;cases hx;exact ydqu hc hop h1 h2 h (.inr ⟨_,_,_,_,_,rfl,h5,hz.1,hz.2,h3,h4,hr,rfl⟩)
     .cases hx
    .cases hx
   .cases hx
  .obtain⟨i,h2,hres⟩:=bind_some hres;cases hres;simp only[xOp]at hx;split at hx
   .rename_i h
    split at hx
    .rename_i h3 h4 h5
     split at hx
     .rename_i hz;cases hx;exact ydjr hc hop h1 h2 h h5 hz.2.1 hz.2.2 h3 h4 hr
     .cases hx
    .cases hx
   .cases hx
  .cases hres
 .rename_i op t x y yt hop
  replace hres:=Option.some.inj hres
  have plain:sop = .bin op x y->OpS P lo F ω f m o r:=by
   rintro rfl;simp only[xOp]at hx;split at hx
   .rename_i h h'
    unfold ybnz at hx;split at hx
    .rename_i h2;cases hx;exact ydtn hc hop h h' h2 hr
    .cases hx
   .cases hx
  unfold ycdv at hres;split at hres
  .rename_i hw
   rcases ycec hw with rfl|rfl
   .subst hres;simp only[ycfr,xOp]at hx;split at hx
    .rename_i h1 h2
     split at hx
     .rename_i hk;subst hk;cases hx;exact ydpu hc hop h1 h2
     .cases hx
    .cases hx
   .subst hres;simp only[ycfr,xOp]at hx;split at hx
    .rename_i h1 h2
     split at hx
     .rename_i hk;subst hk;cases hx;exact ydqy hc hop h1 h2
     .cases hx
    .cases hx
  rename_i hnw
  clear hnw
  split at hres
  .rename_i ht
   subst hres;simp only[xOp]at hx;split at hx
   .rename_i h1 h2;cases hx;exact ydon hc (ne:=false) hop ht h1 h2
   .cases hx
  .rename_i ht
   subst hres;simp only[xOp]at hx;split at hx
   .rename_i h1 h2;cases hx;exact ydon hc (ne:=true) hop ht h1 h2
   .cases hx
  .rename_i ht
   split at hres
   .rename_i hk
    split at hres
    .rename_i hg
     subst hres;simp only[xOp]at hx;split at hx
     .rename_i h1 h2
      split at hx
      .rename_i h3;cases hx;exact ycgb hc (ne:=false) hop (fun xs ys=>yjt 9999 _ xs ys ht hg.2) hk hg.1 h1 h2 h3
      .cases hx
     .cases hx
    .subst hres;cases hx
   .subst hres;cases hx
  .rename_i ht
   split at hres
   .rename_i hk
    split at hres
    .rename_i hg
     subst hres;simp only[xOp]at hx;split at hx
     .rename_i h1 h2
      split at hx
      .rename_i h3;cases hx;exact ycgb hc (ne:=true) hop (fun xs ys=>yjt 9999 _ xs ys ht hg.2) hk hg.1 h1 h2 h3
      .cases hx
     .cases hx
    .subst hres;cases hx
   .subst hres;cases hx
  .rename_i ht
   unfold ybul at hres;split at hres
   .rename_i hi
    split at hres
    .rename_i hg
     split at hres
     .rename_i hk
      subst hres;simp only[xOp]at hx;split at hx
      .rename_i h1 h2
       split at hx
       .rename_i h3;cases hx;exact ycgb hc (ne:=false) hop (fun xs ys=>yoj 9999 _ xs ys ht hi hg.1) hk hg.2 h1 h2 h3
       .cases hx
      .cases hx
     .subst hres;cases hx
    .subst hres;cases hx
   .subst hres;cases hx
  .rename_i ht
   unfold ybul at hres;split at hres
   .rename_i hi
    split at hres
    .rename_i hg
     split at hres
     .rename_i hk
      subst hres;simp only[xOp]at hx;split at hx
      .rename_i h1 h2
       split at hx
       .rename_i h3;cases hx;exact ycgb hc (ne:=true) hop (fun xs ys=>yoj 9999 _ xs ys ht hi hg.1) hk hg.2 h1 h2 h3
       .cases hx
      .cases hx
     .subst hres;cases hx
    .subst hres;cases hx
   .subst hres;cases hx
  .exact plain hres.symm
 .rename_i hop;cases hres;simp only[xOp]at hx;split at hx
  .rename_i h
   unfold ybnz at hx;split at hx
   .rename_i h2;cases hx;exact s_un hc hop h h2 hr
   .cases hx
  .cases hx
 .rename_i hop
  obtain⟨d,h1,hres⟩:=bind_some hres;obtain⟨d',h2,hres⟩:=bind_some hres;split at hres
  .cases hres;simp only[xOp]at hx;split at hx
   .rename_i h;cases hx;exact ydlc hc hop h1 h2 h
   .cases hx
  .cases hres
 .rename_i c hop
  obtain⟨cl,args,ats⟩:=c;exact ydlt hc hop hres hx hr
 .cases hres
end
end Sh
end
section
namespace Sh
open Go Ev
noncomputable def frsh(n:Nat)(m':Mem)(G:AM):AM:=fun i=>if n<=i then m'.b.get i else G i
def Ct(P:Program)(g:FuncId)(args:List SV)(Q:SV->Prop):Prop :=
 ∀ (G:AM) (m:Mem) (us:List Value),Wf m->Le G m.b.get->RVL G om0 args us ->
   ∃v m' r,ybw P (.call g us m) (.call v m')/\m.next<=m'.low/\Le m.b.get m'.b.get/\Q r/\RV (frsh m.next m' G) om0 r v
theorem Ct.mono{P:Program}{g:FuncId}{args:List SV}{Q R:SV->Prop}(h:Ct P g args Q)(hq:∀r,Q r->R r):Ct P g args R:=fun G m us h1 h2 h3=>by
 obtain⟨v,m',r,a,b,c,d,e⟩:=h G m us h1 h2 h3;exact⟨v,m',r,a,b,c,hq r d,e⟩
section
variable {P:Program}{lo:Nat}{F G:AM}{ω ψ:Om}{s:SS}{f:Fr}{m:Mem}{o:Oper}
theorem yeo{p:SV->Prop}:∀{l:List SV},allP p l->∀x∈l,p x
 | _::_,h,x,hx=>by
   rcases List.mem_cons.1 hx with q|q
   .rw[q];exact h.1
   .exact yeo h.2 x q
theorem RVL.of_get:∀{l:List SV}{L:List Value},RVL F ω l L->(∀v u,v∈l->RV F ω v u->RV G ψ v u)->RVL G ψ l L
 |_,_,.nil,_=>.nil
 |_,_,.cons h hl,k=>.cons (k _ _ zX h) (hl.of_get fun v u hv=>k v u (zS _ hv))
theorem RVL.map_get{k:SV->SV}:∀{l:List SV}{L:List Value},RVL F ω l L->(∀v u,v∈l->RV F ω v u->RV G ψ (k v) u)->RVL G ψ (l.map k) L
 |_,_,.nil,_=>.nil
 |_,_,.cons h hl,q=>.cons (q _ _ zX h) (hl.map_get fun v u hv=>q v u (zS _ hv))
theorem yuv:∀{n:Nat}{v:SV}{u:Value},scalar n v=true->RV F ω v u->RV G ψ v u
 |0,_,_,h,_=>by cases h
 | n+1,v,u,h,hr=>by
   cases hr with
   |i=>exact .i
   |b=>exact .b
   |a h'=>exact .a h'
   |ag hl=>exact .ag (hl.of_get fun v u hv=>yuv (List.all_eq_true.1 h v hv))
   |tp hl=>exact .tp (hl.of_get fun v u hv=>yuv (List.all_eq_true.1 h v hv))
   |_=>cases h
theorem yep:∀{n:Nat}{v:SV}{u:Value},owned n v=false->RV F ω v u->RV F ψ v u
 |0,_,_,h,_=>by cases h
 | n + 1,v,u,h,hr=>by
   have any:∀{l:List SV},l.any (owned n)=false->∀v∈l,owned n v=false:=fun {l} h v hv=>by
    cases hq:owned n v with
    |false=>rfl
    |true=>rw[List.any_eq_true.2 ⟨v,hv,hq⟩]at h;cases h
   cases hr with
   |i=>exact .i
   |b=>exact .b
   |a h'=>exact .a h'
   |sl0 h'=>exact .sl0 h'
   |sl a1 a2 a3 a4 a5 a6 a7=>exact .sl a1 a2 a3 a4 a5 a6 a7
   |rf a1 a2 a3 a4 a5=>exact .rf a1 a2 a3 a4 a5
   |ex a1 a2 a3=>exact .ex a1 a2 a3
   |ag hl=>exact .ag (hl.of_get fun v u hv=>yep (any h v hv))
   |tp hl=>exact .tp (hl.of_get fun v u hv=>yep (any h v hv))
   | fn ha hb =>
     have h:(_||_)=false:=h;rw[Bool.or_eq_false_iff]at h;exact .fn (ha.of_get fun v u hv=>yep (any h.1 v hv)) (hb.of_get fun v u hv=>yep (any h.2 v hv))
   |_=>cases h
theorem ybta{n:Nat}{v:SV}{o:Own}(h1:one1 v=true)(hv:vok o n v):one1 (view o n v)=true:=by
 cases n with
 |zero=>cases hv
 | succ n =>
   cases v with
   | pt β i j =>
     simp only[view];simp only[vok]at hv;split at hv
     .rfl
     .cases hv
   | os β p k c =>
     simp only[view];simp only[vok]at hv;split at hv
     .rfl
     .cases hv
   |_=>first|rfl|exact h1
theorem yiz{n:Nat}{o:Own}:∀{l:List SV},l.all one1=true->allP (vok o n) l->(l.map (view o n)).all one1=true
 |[],_,_=>rfl
 | x::l,h,hp=>by
   simp only[zI,zB]at h;simp only[zAW,zI,zB];exact⟨ybta h.1 hp.1,yiz h.2 hp.2⟩
theorem yiy(hc:Conc lo F ω s f m)(hF:Le F G)(hG:∀β k z,ω β=some (some (k,z))->∀b,m.b.get k=some b->G k=some b):∀{n:Nat}{v:SV}{u:Value},RV F ω v u->vok s.o n v->RV G om0 (view s.o n v) u
 |0,_,_,_,h=>by cases h
 | n + 1,v,u,hr,hv=>by
   cases hr with
   |i=>exact .i
   |b=>exact .b
   |a h=>exact .a h
   |sl0 h'=>exact .sl0 h'
   |sl a1 a2 a3 a4 a5 a6 a7=>exact(RV.sl a1 a2 a3 a4 a5 a6 a7:RV F om0 _ _).mono hF (Om.le_refl _)
   |rf a1 a2 a3 a4 a5=>exact(RV.rf a1 a2 a3 a4 a5:RV F om0 _ _).mono hF (Om.le_refl _)
   |ex a1 a2 a3=>exact(RV.ex a1 a2 a3:RV F om0 _ _).mono hF (Om.le_refl _)
   |ag hl=>exact .ag (hl.map_get fun v u hm hr=>yiy hc hF hG hr (yeo hv v hm))
   |tp hl=>exact .tp (hl.map_get fun v u hm hr=>yiy hc hF hG hr (yeo hv v hm))
   |fn ha hb=>exact .fn (ha.map_get fun v u hm hr=>yiy hc hF hG hr (yeo hv.1 v hm)) (hb.map_get fun v u hm hr=>yiy hc hF hG hr (yeo hv.2 v hm))
   | pt hk =>
     rename_i β i j k z
     simp only[vok]at hv;simp only[view];split at hv
     .rename_i b hb
      obtain⟨⟨v1,v2⟩,v3⟩:=hv;obtain⟨rfl,T,L,g1,g2⟩:=hc.ownAt hb hk;obtain⟨l1,l2,l3,l4⟩:=g2 i v1;have hin:=yjo (z:=b.z) v1;refine .rf (L:=(L i).drop j) (hG _ _ _ hk _ g1) (by simp;omega) (fun q hq=>?_) ((l2.drop j).map_get fun v u hm hr=>yiy hc hF hG hr (yeo v3 v hm)) (yiz (ykt l3 j) v3)
      simp at hq;rw[zV,l4 _ (by omega)]
      simp
     .cases hv
   | os hk hcu =>
     rename_i β p k ap cp q z
     simp only[vok]at hv;simp only[view];split at hv
     .rename_i b hb
      obtain⟨v1,v2⟩:=hv;obtain⟨rfl,T,L,g1,g2⟩:=hc.ownAt hb hk;refine .sl (L:=fun a=>L (p+a)) (hG _ _ _ hk _ g1) (by cases b.bx<;>simp) ?_ (fun a ha=>(g2 (p+a) (by omega)).1) (fun a ha j hj=>?_) (fun a ha=>?_) (fun a ha=>yiz (g2 (p+a) (by omega)).2.2.1 (v2 a ha))
      .rw[<-zF];exact zK _ v1
      .rw[<-zF];exact(g2 (p+a) (by omega)).2.2.2 j hj
      .exact(g2 (p+a) (by omega)).2.1.map_get fun v u hm hr=>yiy hc hF hG hr (yeo (v2 a ha) v hm)
     .cases hv
   | os0 hk =>
     rename_i β
     simp only[vok]at hv;simp only[view];split at hv
     .exact .sl0 (.inl rfl)
     .cases hv
theorem Conc.only(hc:Conc lo F ω s f m):∃ft:List Nat,(∀x∈ft,x<m.next/\((∃b,F x=some b)\/∃β z,ω β=some (some (x,z))))/\Le F (m.only ft).b.get/\∀β k z,ω β=some (some (k,z))->∀b,m.b.get k=some b->(m.only ft).b.get k=some b:=by
 classical
 refine⟨(List.range m.next).filter fun x=>decide ((∃b,F x=some b)\/∃β z,ω β=some (some (x,z))),fun x hx=>?_,fun i b hb=>?_,fun β k z hk b hb=>?_⟩
 .rw[List.mem_filter]at hx;exact⟨List.mem_range.1 hx.1,of_decide_eq_true hx.2⟩
 .have:=hc.sub i b hb;exact ydb.2 ⟨List.mem_filter.2 ⟨List.mem_range.2 (hc.wf i b this),decide_eq_true (.inl ⟨b,hb⟩)⟩,this⟩
 .exact ydb.2 ⟨List.mem_filter.2 ⟨List.mem_range.2 (hc.wf k b hb),decide_eq_true (.inr ⟨β,z,hk⟩)⟩,hb⟩
theorem ybw.weaken{g:FuncId}{us:List Value}{v:Value}{m':Mem}{ft:List Nat}(hw:Wf m)(h:ybw P (.call g us (m.only ft)) (.call v m')):ybw P (.call g us m) (.call v m'):=by
 intro _;obtain⟨e,h2⟩:=h (ygg hw);refine⟨⟨e.next,fun i b hb=>?_,fun i b h1 h3 hb=>(ydb.1 (e.old i b h1 h3 hb)).2,e.wf⟩,fun φ M w args' hR hs ha hf=>?_⟩
 .rcases e.dom i b hb with⟨x,hx⟩|q
  .exact .inl ⟨x,(ydb.1 hx).2⟩
  .exact .inr q
 .have:=h2 φ M w args' hR (fun i b hb=>hs i b (ydb.1 hb).2) ha hf;refine this.mono ?_;rintro e w' ⟨v',rfl,φ',M',hg,hv⟩;refine⟨v',rfl,φ',M',⟨hg.le,hg.out,hg.rel,hg.sub,fun i hi hn=>hg.frame i hi (hn.imp (fun q=>?_) id),hg.wg⟩,hv⟩;cases hq:(m.only ft).b.get i with
  |none=>rfl
  |some x=>rw[(ydb.1 hq).2]at q;cases q
theorem Conc.called(hc:Conc lo F ω s f m){m':Mem}(hw:Wf m')(hn:m.next<=m'.next)(hl:m.next<=m'.low)(hF:Le F m'.b.get)(hO:∀β k z,ω β=some (some (k,z))->∀b,m.b.get k=some b->m'.b.get k=some b) :
 Conc lo (frsh m.next m' F) ω s f (backM m.low m'):=by
 have hlt:∀{i b},F i=some b->i<m.next:=fun {i b} h=>hc.wf i b (hc.sub i b h)
 have hle:Le F (frsh m.next m' F):=fun i b h=>by unfold frsh;rw[if_neg (by have:=hlt h;omega)];exact h
 rw[yds];refine⟨hw,?_,zM hc.nxt hn,fun i b hb=>?_,fun β b hb=>?_,hc.dom,hc.inj,fun β k z hk=>?_,fun t v hv=>?_⟩
 .show lo<=zAC m.low m'.low;have:=hc.low;have:=hc.nxt;rw[zAM];omega
 .unfold frsh at hb;split at hb
  .exact hb
  .exact hF i b hb
 .rcases hc.own β b hb with⟨k,T,L,h1,h0,h2,h3⟩|h
  .exact .inl ⟨k,T,L,h1,h0,hO β k _ h1 _ h2,fun i hi=>⟨(h3 i hi).1,(h3 i hi).2.1.mono hle (Om.le_refl _),(h3 i hi).2.2⟩⟩
  .exact .inr h
 .obtain⟨a,b,d⟩:=hc.apart β k z hk;refine⟨?_,b,zN d hn⟩;unfold frsh;rw[if_neg (by omega)]
  exact a
 .obtain⟨u,h1,h2⟩:=hc.fr t v hv;exact⟨u,h1,h2.mono hle (Om.le_refl _)⟩
theorem Conc.grown(hc:Conc lo F ω s f m){n:Nat}(hn:m.next<=n):Conc lo F ω s f ⟨n,m.b,m.low⟩ :=
 ⟨fun i b hb=>zN (hc.wf i b hb) hn,hc.low,zM hc.nxt hn,hc.sub,hc.own,hc.dom,hc.inj,fun β k z hk=>⟨(hc.apart β k z hk).1,(hc.apart β k z hk).2.1,zN (hc.apart β k z hk).2.2 hn⟩,hc.fr⟩
theorem ycee (hc:Conc lo F ω s f m) {fx:Operand}{args:Array Operand}{ats:Array TypeId}(hop:o.op = .call { callee:=.value fx,args:=args,argTypes:=ats }) {g:FuncId}{a b xs:List SV}(hf:s.get fx=some (.fn g a b)) (hx:s.gets args.toList=some xs)
 {as:List SV}{Q:SV->Prop}(hct:Ct P g as Q) (has:(as=a++xs++b/\(a++xs++b).any (owned 5)=false)\/(as=(a++xs++b).map (view s.o 5)/\allP (vok s.o 5) (a++xs++b)/\∀r,Q r->scalar 5 r=true)) :
 ∃ r2 F' rv,One P f o m r2/\Q rv/\Le F F'/\RV F' ω rv r2.v/\Conc lo F' ω s f r2.m/\m.next<=r2.m.next/\r2.mods=some [] /\
   (∀x b,F' x=some b->F x=some b\/(scalar 5 rv=false/\m.next<=x)) /\
   ((scalar 5 rv=true/\∃ft,r2.foot=some ft/\∀x∈ft,x<m.next/\((∃b,F x=some b)\/∃β z,ω β=some (some (x,z))))\/(scalar 5 rv=false/\r2.foot=none)):=by
 classical
 obtain⟨uf,e1,r1⟩:=hc.get hf;obtain⟨us,e2,r2⟩:=hc.gets hx
 obtain⟨A,B,rfl,rA,rB⟩:∃A B:List Value,uf = .func (.func g) A.toArray B.toArray/\RVL F ω a A/\RVL F ω b B:=by
  cases r1 with
  |fn h1 h2=>exact⟨_,_,rfl,h1,h2⟩
 have hall:RVL F ω (a++xs++b) (A++us++B):=(rA.append r2).append rB;obtain⟨ft,k1,k2,k3⟩:=hc.only
 have hargs:∃H,Le H (m.only ft).b.get/\RVL H om0 as (A++us++B)/\((as=a++xs++b/\H=F)\/∀r,Q r->scalar 5 r=true):=by
  rcases has with⟨rfl,h⟩|⟨rfl,h1,h2⟩
  .refine⟨F,k2,hall.of_get fun v u hv=>yep (n:=5) ?_,.inl ⟨rfl,rfl⟩⟩;cases hq:owned 5 v with
   |false=>rfl
   |true=>rw[List.any_eq_true.2 ⟨v,hv,hq⟩]at h;cases h
  .exact⟨(m.only ft).b.get,Le.refl _,hall.map_get fun v u hm hr=>yiy hc k2 k3 hr (yeo h1 v hm),.inr h2⟩
 obtain⟨H,hH,hA,hHF⟩:=hargs;obtain⟨v,m',r,s1,s2,s3,s4,s5⟩:=hct H (m.only ft) _ (ygg hc.wf) hH hA;have hlow:m.next<=m'.low:=s2
 have hnext:m.next<=m'.next:=(s1 (ygg hc.wf)).1.next
 have hwf:Wf m':=(s1 (ygg hc.wf)).1.wf;cases hsc:scalar 5 r with
 | true =>
   refine⟨⟨v,⟨m'.next,m.b,m.low⟩,some ft,some []⟩,F,r,.inr ⟨fx,args,ats,g,A.toArray,B.toArray,us,v,m',ft,hop,e1,e2,by simpa using s1,hlow,rfl⟩,s4,Le.refl _,yuv hsc s5,hc.grown hnext,hnext,rfl,fun x b h=>.inl h,.inl ⟨hsc,ft,rfl,k1⟩⟩
 | false =>
   rcases hHF with⟨_,rfl⟩|q
   .have hself:yem P (fun t=>if t = .call g (A++us++B) m then some (.call v m')else none):=by
     intro t out h;simp only at h;split at h
     .rename_i e;subst e;cases h;exact ybw.weaken hc.wf s1
     .cases h
    refine⟨⟨v,backM m.low m',none,some []⟩,frsh m.next m' H,r,.inl ⟨_,hself,?_⟩,s4,fun i b h=>?_,s5.mono (Le.refl _) (yxo _),hc.called hwf hnext hlow (hH.trans s3) (fun β k z hk b hb=>s3 _ _ (k3 β k z hk b hb)),by rw[yds];exact hnext,rfl,fun x b h=>?_,.inr ⟨hsc,rfl⟩⟩
    .unfold evOne evOne1;rw[hop];show(ob (f.get fx) fun g=>ob (valsA f args.toList) fun vs=>evCall _ m vs g)=_;rw[e1];show(ob (valsA f args.toList) fun vs=>evCall _ m vs _)=_;rw[e2];show ob ((fun t=>if t=Task.call g (A++us++B) m then some (Out.call v m')else none) (.call g (A.toArray.toList++us++B.toArray.toList) m)) (afterCall m)=_
     simp only[if_true];show some (⟨v,backM m.low m',none,iteB (zAB m.next m'.low) (some []) none⟩:R2)=_
     rw[ybh,if_pos (zA hlow)]
    .unfold frsh;rw[if_neg (by have:=hc.wf i b (hc.sub i b h);omega)]
     exact h
    .unfold frsh at h;split at h
     .rename_i q;exact .inr ⟨hsc,q⟩
     .exact .inl h
   .rw[q r s4]at hsc;cases hsc
end
end Sh
end
section
namespace Sh
open Go Ev
noncomputable def yhc{α:Type}:T α->T α->T α
 |.leaf,t=>t
 | .node v l r,t=>match t with
   |.leaf=>.node v l r
   |.node v' l' r'=>.node (match v with|some x=>some x|none=>v') (yhc l l') (yhc r r')
theorem ydf{α:Type}:∀(a b:T α) (i:Nat),(yhc a b).get i=match a.get i with|some x=>some x|none=>b.get i
 |.leaf,b,i=>by rw[T.get_leaf];rfl
 | .node v l r,.leaf,i=>by
   show(T.node v l r).get i=_;rw[T.get_leaf];cases(T.node v l r).get i<;>rfl
 | .node v l r,.node v' l' r',0=>by
   show(T.node _ _ _).get 0=_;rw[T.get_zero,T.get_zero,T.get_zero]
 | .node v l r,.node v' l' r',k+1=>by
   show(T.node _ _ _).get (k+1)=_;rw[T.get_succ,T.get_succ,T.get_succ];split
   .exact ydf l l' _
   .exact ydf r r' _
theorem ykr:∀{l:List SV}{i t:Nat}{v:SV},look (slots l i) t=some v->i<=t/\l[t-i]?=some v
 |[],_,_,_,h=>by cases h
 | x :: l,i,t,v,h=>by
   have h':(if i=t then some x else look (slots l (i+1)) t)=some v:=h
   split at h'
   .rename_i q;subst q;cases h';simp
   .rename_i q
    obtain⟨h1,h2⟩:=ykr h';refine⟨by omega,?_⟩
    rw[show t-i=(t-(i+1))+1 by omega]
    simpa using h2
theorem ybjz:∀{l:List SV}{i t:Nat}{v:SV},l[t]?=some v->look (slots l i) (i+t)=some v
 |[],_,_,_,h=>by simp at h
 | x::l,i,0,v,h=>by
   show(if i=i+0 then some x else look (slots l (i+1)) (i+0))=some v
   rw[if_pos (by omega)];simpa using h
 | x::l,i,t+1,v,h=>by
   show(if i=i+(t+1)then some x else look (slots l (i+1)) (i+(t+1)))=_
   rw[if_neg (by omega),show i+(t+1)=i+1+t by omega]
   exact ybjz (by simpa using h)
theorem ycj{α:Type}{p:α->Prop}:∀{l:List α},allQ p l->∀x∈l,p x
 | _::_,h,x,hx=>by
   rcases List.mem_cons.1 hx with q|q
   .rw[q];exact h.1
   .exact ycj h.2 x q
theorem ydl{α:Type}:∀{l:List (Nat×α)}{t:Nat}{v:α},look l t=some v->(t,v)∈l
 |[],_,_,h=>by cases h
 | (k,x)::l,t,v,h=>by
   have h':(if k=t then some x else look l t)=some v:=h
   split at h'
   .rename_i q;subst q;cases h';exact zX
   .exact zS _ (ydl h')
theorem yhp{l:List Nm}{x:Nm}:nmem l x=true↔x∈l:=by
 unfold nmem;rw[List.any_eq_true];constructor
 .rintro⟨y,h1,h2⟩;simp only[zB,decide_eq_true_eq]at h2;rw[show x=y from Prod.ext h2.1.symm h2.2.symm];exact h1
 .exact fun h=>⟨x,h,by simp⟩
theorem yfe{l:Own}{β:Nm}{b:OB}(h:lookO l β=some b):∃F,look l β.1=some F/\F.at β.2=some b:=by
 unfold lookO at h;split at h
 .rename_i F hF;exact⟨F,hF,h⟩
 .cases h
theorem yuy{F:Fam}{i:Nat}{b:OB}(h:F.at i=some b):(F = .one (some b)/\i=0)\/∃g,F = .many g/\g i=some b:=by
 cases F with
 | one x =>
   simp only[Fam.at]at h;split at h
   .rename_i q;subst h;exact .inl ⟨rfl,q⟩
   .cases h
 |many g=>exact .inr ⟨g,rfl,h⟩
theorem ybsi{F:Fam}{p:Nat->Prop}(h:idxF F p){i:Nat}{b:OB}(hb:F.at i=some b):p i:=by
 rcases yuy hb with⟨rfl,rfl⟩|⟨g,rfl,hg⟩
 .exact h
 .exact h i (by rw[hg];rfl)
section
variable {P:Program}{lo:Nat}{F G:AM}{ω ψ:Om}{s t:SS}{f:Fr}{m:Mem}
theorem ybit{h:SV->SV}(hh:∀v,one1 (h v)=one1 v){l:List SV}(hl:l.all one1=true):(l.map h).all one1=true:=by
 rw[zAY];exact List.all_eq_true.2 fun x hx=>(hh x).trans (List.all_eq_true.1 hl x hx)
theorem ycid(h:Nm->Nm)(n:Nat)(v:SV):one1 (ren h n v)=one1 v:=by
 cases n with
 |zero=>rfl
 |succ n=>cases v<;>rfl
theorem ybgm{h:Nm->Nm}{L:Nm->Bool}(hL:∀β x,L β=true->ω β=some x->ψ (h β)=some x):∀{n:Nat}{v:SV}{u:Value},RV F ω v u->cln L n v=true->RV F ψ (ren h n v) u
 |0,_,_,_,q=>by cases q
 | n + 1,v,u,hr,q=>by
   have hl:∀{l:List SV}{U:List Value},RVL F ω l U->l.all (cln L n)=true->RVL F ψ (l.map (ren h n)) U:=fun {l U} a b=>a.map_get fun v u hv hr=>ybgm hL hr (List.all_eq_true.1 b v hv);cases hr with
   |i=>exact .i
   |b=>exact .b
   |a h'=>exact .a h'
   |sl0 h'=>exact .sl0 h'
   |sl a1 a2 a3 a4 a5 a6 a7=>exact .sl a1 a2 a3 a4 a5 a6 a7
   |rf a1 a2 a3 a4 a5=>exact .rf a1 a2 a3 a4 a5
   |ex a1 a2 a3=>exact .ex a1 a2 a3
   |ag a=>exact .ag (hl a q)
   |tp a=>exact .tp (hl a q)
   | fn a b =>
     have q:(_&&_)=true:=q;rw[zB]at q;exact .fn (hl a q.1) (hl b q.2)
   |pt hk=>exact .pt (hL _ _ q hk)
   |os hk hb=>exact .os (hL _ _ q hk) hb
   |os0 hk=>exact .os0 (hL _ _ q hk)
theorem ybyg{h:Nm->Nm}{L:Nm->Bool}(hL:∀β x,L β=true->ω (h β)=some x->ψ β=some x):∀{n:Nat}{v:SV}{u:Value},RV F ω (ren h n v) u->cln L n v=true->RV F ψ v u
 |0,_,_,_,q=>by cases q
 | n + 1,v,u,hr,q=>by
   have hl:∀{l:List SV}{U:List Value},RVL F ω (l.map (ren h n)) U->l.all (cln L n)=true->RVL F ψ l U:=by
    intro l
    induction l with
    |nil=>intro L hl _;cases hl;exact .nil
    | cons x l ih =>
      intro L hl hc;simp only[zI,zB]at hc;cases hl with
      |cons a b=>exact .cons (ybyg hL a hc.1) (ih b hc.2)
   cases v with
   |i k x=>cases hr;exact .i
   |b x=>cases hr;exact .b
   |a x=>exact yep (n:=5) rfl hr
   |sl z k g=>exact yep (n:=5) rfl hr
   |rf c=>exact yep (n:=5) rfl hr
   |ex Q v=>exact yep (n:=5) rfl hr
   |bad=>cases hr
   |ag c=>obtain⟨L,rfl,a⟩:=hr.ag_inv;exact .ag (hl a q)
   |tp c=>obtain⟨L,rfl,a⟩:=hr.tp_inv;exact .tp (hl a q)
   | fn g a b =>
     have q:(_&&_)=true:=q;rw[zB]at q;cases hr with
     |fn a1 b1=>exact .fn (hl a1 q.1) (hl b1 q.2)
   |pt β i j=>obtain⟨k,z,hk,rfl⟩:=hr.pt_inv;exact .pt (hL _ _ q hk)
   | os β o k c =>
     rcases hr.os_inv with⟨k',z,cp,hk,rfl,hb⟩|⟨hk,rfl,rfl,rfl⟩
     .exact .os (hL _ _ q hk) hb
     .exact .os0 (hL _ _ q hk)
theorem ybjp{L:Nm->Bool}(hL:∀β x,L β=true->ω β=some x->ψ β=some x):∀{n:Nat}{v:SV}{u:Value},RV F ω v u->cln L n v=true->RV F ψ v u
 |0,_,_,_,q=>by cases q
 | n + 1,v,u,hr,q=>by
   have hl:∀{l:List SV}{U:List Value},RVL F ω l U->l.all (cln L n)=true->RVL F ψ l U:=fun {l U} a b=>a.of_get fun v u hv hr=>ybjp hL hr (List.all_eq_true.1 b v hv);cases hr with
   |i=>exact .i
   |b=>exact .b
   |a h'=>exact .a h'
   |sl0 h'=>exact .sl0 h'
   |sl a1 a2 a3 a4 a5 a6 a7=>exact .sl a1 a2 a3 a4 a5 a6 a7
   |rf a1 a2 a3 a4 a5=>exact .rf a1 a2 a3 a4 a5
   |ex a1 a2 a3=>exact .ex a1 a2 a3
   |ag a=>exact .ag (hl a q)
   |tp a=>exact .tp (hl a q)
   | fn a b =>
     have q:(_&&_)=true:=q;rw[zB]at q;exact .fn (hl a q.1) (hl b q.2)
   |pt hk=>exact .pt (hL _ _ q hk)
   |os hk hb=>exact .os (hL _ _ q hk) hb
   |os0 hk=>exact .os0 (hL _ _ q hk)
open Classical in
noncomputable def frzF(ω:Om)(fr:List Nm)(m:Mem)(F:AM):AM:=fun x=>if ∃β∈fr,∃z,ω β=some (some (x,z))then m.b.get x else F x
theorem ychh:frzF ω [] m F=F:=by
 funext x;unfold frzF;rw[if_neg (by simp)]
theorem ymj(hc:Conc lo F ω s f m)(fr:List Nm):Le F (frzF ω fr m F):=fun x b h=>by
 unfold frzF;split
 .exact hc.sub x b h
 .exact h
theorem ycfh(hc:Conc lo F ω s f m)(fr:List Nm):∀x b,frzF ω fr m F x=some b->F x=some b\/lo<=x:=fun x b h=>by
 unfold frzF at h;split at h
 .rename_i q;obtain⟨β,_,z,hk⟩:=q;exact .inr (hc.apart β x z hk).2.1
 .exact .inl h
theorem yble{l:List SV}{U:List Value}(h:l.any (owned 5)=false)(hl:RVL F ω l U):RVL F om0 l U:=hl.of_get fun v u hv hr=>yep (n:=5) (by
 cases hq:owned 5 v with
 |false=>rfl
 |true=>rw[List.any_eq_true.2 ⟨v,hv,hq⟩]at h;cases h) hr
theorem ynk(hc:Conc lo F ω s f m){fr:List Nm}(hfr:yze s.o fr):∀{n:Nat}{v:SV}{u:Value},RV F ω v u->pok fr s.o n v->RV (frzF ω fr m F) ω (ydk fr s.o n v) u
 |0,_,_,h,_=>h.mono (ymj hc fr) (Om.le_refl _)
 | n + 1,v,u,hr,hv=>by
   cases hr with
   |i=>exact .i
   |b=>exact .b
   |a h=>exact .a h
   |sl0 h'=>exact .sl0 h'
   |sl a1 a2 a3 a4 a5 a6 a7=>exact(RV.sl a1 a2 a3 a4 a5 a6 a7:RV F ω _ _).mono (ymj hc fr) (Om.le_refl _)
   |rf a1 a2 a3 a4 a5=>exact(RV.rf a1 a2 a3 a4 a5:RV F ω _ _).mono (ymj hc fr) (Om.le_refl _)
   |ex a1 a2 a3=>exact(RV.ex a1 a2 a3:RV F ω _ _).mono (ymj hc fr) (Om.le_refl _)
   |ag hl=>exact .ag (hl.map_get fun v u hm hr=>ynk hc hfr hr (yeo hv v hm))
   |tp hl=>exact .tp (hl.map_get fun v u hm hr=>ynk hc hfr hr (yeo hv v hm))
   |fn ha hb=>exact .fn (ha.map_get fun v u hm hr=>ynk hc hfr hr (yeo hv.1 v hm)) (hb.map_get fun v u hm hr=>ynk hc hfr hr (yeo hv.2 v hm))
   | pt hk =>
     rename_i β i j k z
     simp only[pok]at hv;simp only[ydk];split
     .rename_i hm
      have hv:=hv hm;obtain⟨b,hb,hown⟩:=ycj hfr β (yhp.1 hm);rw[hb]at hv ⊢;obtain⟨v1,v2⟩:=hv;obtain⟨rfl,T,L,g1,g2⟩:=hc.ownAt hb hk;obtain⟨l1,l2,l3,l4⟩:=g2 i v1;have hin:=yjo (z:=b.z) v1;refine .rf (L:=(L i).drop j) (show frzF ω fr m F k=some _ by unfold frzF;rw[if_pos ⟨β,yhp.1 hm,_,hk⟩];exact g1) (by simp;omega) (fun q hq=>?_) ((yble (hown i v1) l2).mono (ymj hc fr) (Om.le_refl _) |>.drop j) (ykt l3 j)
      simp at hq;rw[zV,l4 _ (by omega)]
      simp
     .exact .pt hk
   | os hk hcu =>
     rename_i β p k ap cp q z
     simp only[pok]at hv;simp only[ydk];split
     .rename_i hm
      have hv:=hv hm;obtain⟨b,hb,hown⟩:=ycj hfr β (yhp.1 hm);rw[hb]at hv ⊢;have v1:p+k<=b.n:=hv;obtain⟨rfl,T,L,g1,g2⟩:=hc.ownAt hb hk;refine .sl (L:=fun a=>L (p+a)) (show frzF ω fr m F q=some _ by unfold frzF;rw[if_pos ⟨β,yhp.1 hm,_,hk⟩];exact g1) (by cases b.bx<;>simp) ?_ (fun a ha=>(g2 (p+a) (by omega)).1) (fun a ha j hj=>?_) (fun a ha=>(yble (hown (p+a) (by omega)) (g2 (p+a) (by omega)).2.1).mono (ymj hc fr) (Om.le_refl _)) (fun a ha=>(g2 (p+a) (by omega)).2.2.1)
      .rw[<-zF];exact zK _ v1
      .rw[<-zF];exact(g2 (p+a) (by omega)).2.2.2 j hj
     .exact .os hk hcu
   | os0 hk =>
     rename_i β ap
     simp only[pok]at hv;simp only[ydk];split
     .rename_i hm
      obtain⟨b,hb,_⟩:=ycj hfr β (yhp.1 hm);rw[hb];exact .sl0 (.inl rfl)
     .exact .os0 hk
def omTo(ω:Om)(h:Nm->Nm)(vir:List Nat)(o:Own):Om:=fun β=>if live o β=true then(if vir.elem β.1=true then some none else ω (h β))else none
theorem yctq(hc:Conc lo F ω s f m){h:Nm->Nm}{vir:List Nat}{fr:List Nm}{o:Own}(hfr:yze s.o fr){v w:SV}{u:Value}(ht:Tel h vir fr s.o o v w)(hv:RV F ω v u):RV (frzF ω fr m F) (omTo ω h vir o) w u:=by
 rcases ht with⟨h1,h2,h3⟩|⟨rfl,β,rfl,h1,h2⟩
 .refine ybyg (fun β x hl hx=>?_) (h2 _ _ _ (ynk hc hfr hv h1)) h3;unfold lv at hl;rw[zB,zZ]at hl;unfold omTo;rw[if_pos hl.1,if_neg (by rw[hl.2];simp)]
  exact hx
 .cases hv
  refine .os0 ?_;unfold omTo;rw[if_pos h2,if_pos h1]
theorem ybyn(hc:Conc lo F ω s f m){h:Nm->Nm}{vir:List Nat}{fr:List Nm}{o:Own}(hfr:yze s.o fr):∀{l k:List SV}{U:List Value},telL h vir fr s.o o l k->RVL F ω l U->l.all one1=true->RVL (frzF ω fr m F) (omTo ω h vir o) k U/\k.all one1=true
 |[],[],_,_,.nil,_=>⟨.nil,rfl⟩
 | v::l,w::k,_,ht,.cons a b,h1=>by
   simp only[zI,zB]at h1;have e:=yctq hc hfr ht.1 a;obtain⟨q1,q2⟩:=ybyn hc hfr ht.2.2 b h1.2;exact⟨.cons e q1,by simp only[zI,zB];exact⟨ht.2.1,q2⟩⟩
 |[],_::_,_,ht,_,_=>ht.elim
 |_::_,[],_,ht,_,_=>ht.elim
theorem yhw{o:Own}{β:Nm}:live o β=true↔∃b,lookO o β=some b:=by
 unfold live;rw[Option.isSome_iff_exists]
theorem WeakBy.ytb{h:Nm->Nm}{vir:List Nat}{fr:List Nm}(hw:WeakBy h vir fr s t){β:Nm}{b:OB}(hb:lookO t.o β=some b):own1 h vir fr t.o s β b:=by
 obtain⟨F,h1,h2⟩:=yfe hb;have hm:=ycj hw.own _ (ydl h1);rcases yuy h2 with⟨rfl,h3⟩|⟨g,rfl,h3⟩
 .have:β=(β.1,0):=Prod.ext rfl h3;rw[this];exact hm
 .exact hm _ _ h3
theorem WeakBy.conc{h:Nm->Nm}{vir:List Nat}{fr:List Nm}(hw:WeakBy h vir fr s t)(hc:Conc lo F ω s f m):Conc lo (frzF ω fr m F) (omTo ω h vir t.o) t f m:=by
 have hreal:∀{β k z},omTo ω h vir t.o β=some (some (k,z))->ω (h β)=some (some (k,z))/\(∃b,lookO t.o β=some b)/\¬(vir.elem β.1=true):=fun {β k z} q=>by
  unfold omTo at q;split at q
  .rename_i hl
   split at q
   .cases q
   .rename_i hv;exact⟨q,yhw.1 hl,hv⟩
  .cases q
 have hnf:∀{β},(∃b,lookO t.o β=some b)->¬(vir.elem β.1=true)->nmem fr (h β)=false:=fun {β} ⟨b,hb⟩ hv=>by
  have:=hw.ytb hb;unfold own1 at this;rw[if_neg hv]at this;obtain⟨c,_,⟨_,_,_,_,q⟩,_⟩:=this;exact q
 refine⟨hc.wf,hc.low,hc.nxt,fun i b hb=>?_,fun β b hb=>?_,fun β hb=>?_,fun β γ k z k' z' h1 h2 hne=>?_,fun β k z hk=>?_,fun k v hk=>?_⟩
 .unfold frzF at hb;split at hb
  .exact hb
  .exact hc.sub i b hb
 .have hm:=hw.ytb hb;have hlive:live t.o β=true:=yhw.2 ⟨b,hb⟩;unfold own1 at hm;split at hm
  .rename_i q
   refine .inr ⟨?_,hm⟩;unfold omTo;rw[if_pos hlive,if_pos q]
  .rename_i q
   obtain⟨c,h1,⟨h2,h3,h4,h5,h7⟩,h6⟩:=hm;have hom:omTo ω h vir t.o β=ω (h β):=by unfold omTo;rw[if_pos hlive,if_neg q]
   rcases hc.own _ c h1 with⟨k,T,L,g1,g0,g2,g3⟩|⟨g1,g2,g3⟩
   .left
    rw[h4]at g1;refine⟨k,T,L,by rw[hom];exact g1,by rw[<-h2];exact g0,by rw[h2,h3,h4,h5]at g2;exact g2,fun i hi=>?_⟩
    obtain⟨l1,l2,l3,l4⟩:=g3 i (by rw[h5];exact hi)
    rw[h4]at l1 l4;obtain⟨e1,e2⟩:=ybyn hc hw.frz (h6 i hi) l2 l3;exact⟨l1,e1,e2,l4⟩
   .exact .inr ⟨by rw[hom];exact g1,by rw[<-h5];exact g2,by rw[<-h3];exact g3⟩
 .unfold omTo;rw[if_neg];intro q;obtain⟨b,hb'⟩:=yhw.1 q;exact yxy hb' hb
 .obtain⟨a1,⟨b1,a2⟩,a3⟩:=hreal h1;obtain⟨c1,⟨b2,c2⟩,c3⟩:=hreal h2;refine hc.inj _ _ k z k' z' a1 c1 fun e=>hne ?_;obtain⟨F1,d1,d2⟩:=yfe a2;obtain⟨F2,e1,e2⟩:=yfe c2;have q1:=ycj hw.inj _ (ydl d1);have q2:=ycj (q1.resolve_left a3) _ (ydl e1);have q3:=ybsi (ybsi (q2.resolve_left c3) d2) e2 e;exact Prod.ext q3.1 q3.2
 .obtain⟨a1,a2,a3⟩:=hreal hk;obtain⟨b1,b2,b3⟩:=hc.apart _ k z a1;refine⟨?_,b2,b3⟩;unfold frzF;rw[if_neg]
  .exact b1
  .rintro⟨γ,hγ,z',hk'⟩;have hne:γ≠h β:=fun e=>by have:=hnf a2 a3;rw[<-e,yhp.2 hγ]at this;cases this
   exact hc.inj γ (h β) k z' k z hk' a1 hne rfl
 .obtain⟨v',e1,e2⟩:=ycj hw.slot _ (ydl hk);obtain⟨u,g1,g2⟩:=hc.fr k v' e1;exact⟨u,g1,yctq hc hw.frz e2 g2⟩
def Weak(pr:List Nm)(s t:SS):Prop:=∀lo F ω f m,Conc lo F ω s f m->∃ω' F',Le F F'/\(∀x b,F' x=some b->F x=some b\/lo<=x)/\Conc lo F' ω' t f m/\∀β∈pr,∀x,ω β=some x->ω' β=some x
theorem Weak.trans{pr:List Nm}{s t u:SS}(a:Weak pr s t)(b:Weak pr t u):Weak pr s u:=fun lo F ω f m hc=>by
 obtain⟨ω1,F1,h1,h2,h3,h4⟩:=a lo F ω f m hc;obtain⟨ω2,F2,k1,k2,k3,k4⟩:=b lo F1 ω1 f m h3;exact⟨ω2,F2,h1.trans k1,fun x b h=>(k2 x b h).elim (h2 x b) .inr,k3,fun β hβ x hx=>k4 β hβ x (h4 β hβ x hx)⟩
theorem WeakBy.weak{pr:List Nm}{h:Nm->Nm}{vir:List Nat}{fr:List Nm}(hw:WeakBy h vir fr s t)(hp:allQ (fun β=>live t.o β=true/\vir.elem β.1=false/\h β=β) pr):Weak pr s t:=fun lo F ω f m hc=>by
 refine⟨_,_,ymj hc fr,ycfh hc fr,hw.conc hc,fun β hβ x hx=>?_⟩;obtain⟨p1,p2,p3⟩:=ycj hp β hβ;unfold omTo;rw[if_pos p1,if_neg (by rw[p2];simp),p3]
 exact hx
end
end Sh
end
section
namespace Ev
open Go Go.RowKit
structure It where
 n:Nat
 el:Nat->List Value
 pre:Nat->Mem->Prop
 adv:Nat->Mem->Mem
 step:Nat->Phi->AM->World->AM->World->Prop
structure ItOk(P:Program)(g:FuncId)(cap:List Value)(S:It):Prop where
 enter:∀args w,(callFunc g args).run P w = .ok (.enter g args) w
 grow:∀k m,k<S.n->Wf m->S.pre k m->Grow m (S.adv k m)
 good:∀k φ M w m M' w',k<S.n->Wf m->Rel φ M w->Sub m M->S.pre k m->S.step k φ M w M' w'->Good φ M w m (S.adv k m) φ M' w'
 calls:∀(l:Nat) (St:Nat->Phi->AM->World->Prop) (Stop:World->Prop) (φ:Phi) (M:AM) (w:World) (cap':List Value),
  (∀k φ' M' w',St k φ' M' w'->φ.le φ'/\∃m,Rel φ' M' w'/\Sub m M'/\S.pre k m) ->
  (∀k φ' M' w' w'',St k φ' M' w'->Below w'.heap.size w' w''->St k φ' M' w'') ->
  (∀k φ' M' w' el',k<S.n->St k φ' M' w'->VRL φ' (S.el k) el'->YieldAt Fence.wide 0 P l el'.toArray w' fun e w'' =>
    (e = .returned (.bool true)/\∃φ'' M'',φ'.le φ''/\(∃m,Rel φ'' M'' w''/\Sub m M''/\S.pre k m)/\∀M3 w3,S.step k φ'' M'' w'' M3 w3->St (k+1) φ'' M3 w3)\/(e = .returned (.bool false)/\Stop w'')) ->
  St 0 φ M w->VRL φ cap cap' ->
  CallsIn Fence.wide 0 P g (#[.func (.yield l) #[] #[]]++cap'.toArray) w fun e w'=>(∃v,e = .returned v)/\((∃φ' M',St S.n φ' M' w')\/Stop w')
noncomputable def ybhr:List Value->List Nat->Fr->Option Fr
 | [],ps=>match ps with
   |[]=>fun f=>some f
   |_::_=>fun _=>none
 | v::vs,ps=>match ps with
   |[]=>fun _=>none
   |p::ps=>fun f=>(Fr.putD v p f).bind (ybhr vs ps)
inductive RRounds (P:Program) (f:Fr) (ps:List Nat) (assign body:Code) (S:It):Nat->Mem->Exit->Mem->Prop
 |done {m} (hp:S.pre S.n m):RRounds P f ps assign body S S.n m .normal m
 | next {k m f1 f3 m1 f4 m2 e m'} (hk:k<S.n) (hp:S.pre k m) (h1:ybhr (S.el k) ps f=some f1) (h2:ycn P assign f1 m .normal f3 m1) (h3:ycn P body f3 m1 .normal f4 m2) (hp2:S.pre k m2)
    (h:RRounds P f ps assign body S (k+1) (S.adv k m2) e m'):RRounds P f ps assign body S k m e m'
 | stop {k m f1 f3 m1 e f4 m2} (hk:k<S.n) (hp:S.pre k m) (h1:ybhr (S.el k) ps f=some f1) (h2:ycn P assign f1 m .normal f3 m1) (he:e = .ret\/∃id,e = .exit id) (h3:ycn P body f3 m1 e f4 m2) :
    RRounds P f ps assign body S k m e m2
section
variable {P:Program}{φ φ':Phi}{M M':AM}{w w':World}{f f':Fr}{m m' m'':Mem}{a:Act}{S:It}{ps:List Nat}{assign body:Code}{k:Nat}{e:Exit}
theorem RRounds.pre(h:RRounds P f ps assign body S k m e m'):S.pre k m:=by
 cases h with
 |done hp=>exact hp
 |next _ hp=>exact hp
 |stop _ hp=>exact hp
theorem RRounds.grow{g:FuncId}{cap:List Value}(hit:ItOk P g cap S)(h:RRounds P f ps assign body S k m e m'):Wf m->Grow m m':=by
 induction h with
 |done=>exact fun hw=>Grow.refl hw
 | next hk hp h1 h2 h3 hp2 h ih =>
   intro hw;have g1:=h2.1.trans h3.1;have g2:=hit.grow _ _ hk g1.ext.wf hp2;exact g1.trans (g2.trans (ih g2.ext.wf))
 |stop hk hp h1 h2 he h3=>exact fun _=>h2.1.trans h3.1
theorem RRounds.at_end(h:RRounds P f ps assign body S S.n m e m'):e = .normal/\m'=m:=by
 generalize hn:S.n=n at h
 cases h with
 |done=>exact⟨rfl,rfl⟩
 |next hk=>omega
 |stop hk=>omega
theorem ybcz:∀{vs vs':List Value}{ps:List Nat}{f f1:Fr}{a:Act},FrR φ f a->ybhr vs ps f=some f1->VRL φ vs vs'->FrR φ f1 { a with tmps:=(ps.zip vs').foldl (fun tmps (t,x)=>tmps.setIfInBounds t x) a.tmps }
 | [],_,[],f,f1,a,hf,h,.nil=>by
   cases h
   exact⟨hf.size,hf.get⟩
 | v::vs,_,p::ps,f,f1,a,hf,h,.cons (v':=v') (l':=vs') hv hvs=>by
   obtain⟨f2,h1,h2⟩:=Option.bind_eq_some_iff.1 h;have:=ybcz (hf.putD h1 hv) h2 hvs;have e:(a.put (some p) v').tmps=a.tmps.setIfInBounds p v':=by simp[Act.put]
   exact⟨by simpa[e]using this.size,by simpa[e]using this.get⟩
 |[],_,_::_,_,_,_,_,h,_=>by cases h
 |_::_,_,[],_,_,_,_,h,_=>by cases h
theorem yvx(ps:Array Tmp)(l:List Value):(ps.zip l.toArray).foldl (fun tmps (t,a)=>tmps.setIfInBounds t a) a.tmps=(ps.toList.zip l).foldl (fun tmps (t,x)=>tmps.setIfInBounds t x) a.tmps:=by
 rw[<-Array.foldl_toList,Array.toList_zip]
set_option maxHeartbeats 1000000 in
theorem ycdj {g:FuncId}{cap:List Value}(hit:ItOk P g cap S) {gx:Operand}{ps:Array Tmp}{e0:Exit}{mf:Mem}(hv:f.get gx=some (.func (.func g) #[] cap.toArray)) (hna:noRF assign=true) (hnb:noRF body=true)
 (hw:Wf m) (h3:RRounds P f ps.toList assign body S 0 m e0 mf):ycn P (.rangeFunc gx ps assign body) f m e0 f mf:=by
 refine⟨h3.grow hit hw,fun φ M w a r hnr hR hs hf hfr=>?_⟩
 obtain rfl:r=none:=by
  cases r with
  |none=>rfl
  |some l=>exact absurd (hnr rfl) (by simp[noRF])
 have hvr:=yii (a:=a) (fun t v _ ht=>hf.get t v ht) hv;obtain⟨x',y',e1,e2,e3⟩:=hvr.func_inv;cases e2
 have e3:VRL φ cap y':=by simpa using e3
 refine wpIn_rangeFunc ?_;intro fn _;obtain⟨rec,hrec⟩:∃rec:LoopState->Option Code->Loop,rec=fun st pe=>{ state:=st,pending:=pe,fn,tmps:=a.tmps,params:=ps,assign,body,defers:=w.heap.size }:=⟨_,rfl⟩;obtain⟨W1,hW1⟩:∃W1,(w.alloc (.deferred (some []))).alloc (.loop (rec .ready none))=W1:=⟨_,rfl⟩
 have hL1:W1.heap[w.heap.size+1]?=some (.loop (rec .ready none)):=by
  rw[<-hW1];have:=World.alloc_heap_new (w.alloc (.deferred (some []))) (.loop (rec .ready none));rwa [World.size_alloc]at this
 have hK1:W1.heap[w.heap.size]?=some (.deferred (some [])):=by
  rw[<-hW1];exact(Below.heap_alloc _ _ _ (by simp)).trans (World.alloc_heap_new w _)
 have hb1:Below w.heap.size w W1:=by
  rw[<-hW1];exact((Below.refl _ w).alloc (zT _) _).alloc (by simp) _
 refine⟨w.heap.size+1,[{ target:=.collected w.heap.size,args:=#[] }],W1,{ target:=.fn (.func g) y'.toArray,args:=#[.func (.yield (w.heap.size+1)) #[] #[]] },W1,g,
  #[.func (.yield (w.heap.size+1)) #[] #[]]++y'.toArray,W1,?_,?_,fun _ _=>trivial,?_,fun q=>(by cases q),?_⟩
 .rw[<-hW1,hrec];exact run_enterLoop_outer _ _ _ _ _
 .simp only[resolve,e1];simp[go_sem]
 .simp[invoke,go_sem,hit.enter]
 .let St:Nat->Phi->AM->World->Prop:=fun k φ' M' W=>k<=S.n/\∃mi,RRounds P f ps.toList assign body S k mi e0 mf/\Grow m mi/\Good φ M w m mi φ' M' W /\
   W.heap[w.heap.size+1]?=some (.loop (rec .ready none))/\W.heap[w.heap.size]?=some (.deferred (some []))
  let Stop:World->Prop:=fun W=>∃c φ' M',((c=Code.ret/\e0 = .ret)\/∃id,c = .exit id/\e0 = .exit id)/\Good φ M w m mf φ' M' W /\
   W.heap[w.heap.size+1]?=some (.loop (rec .done (some c)))/\W.heap[w.heap.size]?=some (.deferred (some []))
  refine CallsIn.mono (hit.calls (w.heap.size+1) St Stop φ M W1 y' ?_ ?_ ?_ ?_ e3) ?_
  .rintro k φ' M' W ⟨_,mi,k2,_,k4,_⟩;exact⟨k4.le,mi,k4.rel,k4.sub,k2.pre⟩
  .rintro k φ' M' W W' ⟨k0,mi,k2,k3,k4,k5,k6⟩ hb;exact⟨k0,mi,k2,k3,k4.below hb,(hb.block _ (Array.getElem?_eq_some_iff.1 k5).1).trans k5,(hb.block _ (Array.getElem?_eq_some_iff.1 k6).1).trans k6⟩
  .rintro k φ' M' W el' hkn ⟨_,mi,k2,k3,hgd,hl,hd⟩ hel
   have round:∀{f1 f3:Fr}{m1:Mem}{f4:Fr}{m2:Mem}{eb:Exit},ybhr (S.el k) ps.toList f=some f1->ycn P assign f1 mi .normal f3 m1->ycn P body f3 m1 eb f4 m2->m2.next<=mf.next ->
    ∀ (QQ:Ending->World->Prop),(∀(φ2:Phi) (M2:AM) (w2:World) (jump:Option Code),(jump=none/\eb = .normal\/(jump=some .ret/\eb = .ret)\/∃id,jump=some (.exit id)/\eb = .exit id)->φ'.le φ2->Grow m m2->Good φ M w m m2 φ2 M2 w2 ->
      w2.heap[w.heap.size+1]?=some (.loop (rec (if jump.isNone then .ready else .done) jump))->w2.heap[w.heap.size]?=some (.deferred (some []))->QQ (.returned (.bool jump.isNone)) w2)->(eb = .normal\/eb = .ret\/∃id,eb = .exit id) ->
    YieldAt Fence.wide 0 P (w.heap.size+1) el'.toArray W QQ:=by
    intro f1 f3 m1 f4 m2 eb p1 s1 s2 hm2 QQ hQQ hex;have hfr1:ygh φ' mi.next mf.next:=hgd.fresh k3.ext hfr
    have hlt:w.heap.size+1<W.heap.size:=(Array.getElem?_eq_some_iff.1 hl).1
    have hsz:ps.size=el'.toArray.size:=by
     have h1:∀{vs:List Value}{qs:List Nat}{f f':Fr},ybhr vs qs f=some f'->vs.length=qs.length:=by
      intro vs
      induction vs with
      | nil=>intro qs f f' h;cases qs with
        |nil=>rfl
        |cons=>cases h
      | cons v vs ih=>intro qs f f' h;cases qs with
        |nil=>cases h
        | cons q qs =>
          obtain⟨f2,_,h2⟩:=Option.bind_eq_some_iff.1 h;simp[ih h2]
     have:=h1 p1;have h2:=hel.length;simp at this ⊢;omega
    have hy:=run_yield (P:=P) (args:=el'.toArray) hl (by rw[hrec];exact hsz.symm)
    rw[hrec]at hy;refine⟨fn,_,assign,body,hy,roundIn_of_wpIn (F:=Fence.wide) (n:=0) trivial ?_⟩;have hfr0:=ybcz (hf.mono hgd.le) p1 hel
    have hfr2:FrR φ' f1 { tmps:=(ps.zip el'.toArray).foldl (fun tmps (t,a)=>tmps.setIfInBounds t a) a.tmps,defers:=[] }:=by
     rw[yvx];exact⟨hfr0.size,hfr0.get⟩
    refine wpIn_mono (s1.2 φ' M' W _ (some (w.heap.size+1)) (fun _=>hna) hgd.rel hgd.sub hfr2 (hfr1.left (zM s2.1.ext.next hm2))) ?_
    rintro e' a1 w1 ⟨rfl,φ1,M1,hg1,hf1,_⟩;have hl1:w1.heap[w.heap.size+1]?=some (.loop (rec .ready none)):=(hg1.wg.keep _ hlt (Img.not_loop hgd.rel hl)).trans hl;have hd1:w1.heap[w.heap.size]?=some (.deferred (some [])):=(hg1.wg.keep _ (by omega) (Img.not_deferred hgd.rel hd)).trans hd
    have hlt1:w.heap.size+1<w1.heap.size:=(Array.getElem?_eq_some_iff.1 hl1).1;refine⟨_,run_beginRound hl1 (by rw[hrec]),?_⟩
    have G1:Good φ M w m m1 φ1 M1 w1:=Good.trans k3.ext s1.1.ext s1.1.low hgd hg1;have G1':=G1.put (l:=w.heap.size+1) (x:=.loop { rec .ready none with state:=.busy }) ⟨_,hl1⟩ (by omega)
    have hlb:(w1.putObj (w.heap.size+1) (.loop { rec .ready none with state:=.busy })).heap[w.heap.size+1]?=some (.loop { rec .ready none with state:=.busy }):=World.putObj_heap_same hlt1;have hdb:(w1.putObj (w.heap.size+1) (.loop { rec .ready none with state:=.busy })).heap[w.heap.size]?=some (.deferred (some [])):=(World.putObj_heap_other (by omega)).trans hd1
    refine wpIn_mono (s2.2 φ1 M1 _ a1 (some (w.heap.size+1)) (fun _=>hnb) G1'.rel G1'.sub hf1 ((hg1.fresh s1.1.ext hfr1).left hm2)) ?_;rintro e' a2 w2 ⟨rfl,φ2,M2,hg2,_,_⟩;have hltb:w.heap.size+1<(w1.putObj (w.heap.size+1) (.loop { rec .ready none with state:=.busy })).heap.size:=(Array.getElem?_eq_some_iff.1 hlb).1;have hl2:=(hg2.wg.keep _ hltb (Img.not_loop G1'.rel hlb)).trans hlb;have hd2:=(hg2.wg.keep _ (Array.getElem?_eq_some_iff.1 hdb).1 (Img.not_deferred G1'.rel hdb)).trans hdb
    have hlt2:w.heap.size+1<w2.heap.size:=(Array.getElem?_eq_some_iff.1 hl2).1;have G2:Good φ M w m m2 φ2 M2 w2:=Good.trans (k3.trans s1.1).ext s2.1.ext s2.1.low G1' hg2;have hle2:φ'.le φ2:=Phi.le_trans hg1.le hg2.le
    have fin:∀(jump:Option Code),(w2.putObj (w.heap.size+1) (.loop (rec (if jump.isNone then .ready else .done) jump))).heap[w.heap.size+1]?=some (.loop (rec (if jump.isNone then .ready else .done) jump)) /\
     (w2.putObj (w.heap.size+1) (.loop (rec (if jump.isNone then .ready else .done) jump))).heap[w.heap.size]?=some (.deferred (some []))/\Good φ M w m m2 φ2 M2 (w2.putObj (w.heap.size+1) (.loop (rec (if jump.isNone then .ready else .done) jump))) /\
     (Instr.endRound (w.heap.size+1) jump).run P w2 = .ok (.bool jump.isNone) (w2.putObj (w.heap.size+1) (.loop (rec (if jump.isNone then .ready else .done) jump))):=fun jump=>by
     refine⟨World.putObj_heap_same hlt2,(World.putObj_heap_other (by omega)).trans hd2,G2.put ⟨_,hl2⟩ (by omega),?_⟩
     have:=run_endRound (P:=P) jump hl2;rw[hrec]at this ⊢;exact this
    have hgm:=(k3.trans s1.1).trans s2.1;rcases hex with rfl|rfl|⟨id,rfl⟩
    .obtain⟨a1',a2',a3',a4'⟩:=fin none;exact⟨_,_,a4',hQQ φ2 M2 _ none (.inl ⟨rfl,rfl⟩) hle2 hgm a3' a1' a2'⟩
    .obtain⟨a1',a2',a3',a4'⟩:=fin (some .ret);exact⟨_,_,a4',hQQ φ2 M2 _ (some .ret) (.inr (.inl ⟨rfl,rfl⟩)) hle2 hgm a3' a1' a2'⟩
    .obtain⟨a1',a2',a3',a4'⟩:=fin (some (.exit id));exact⟨_,_,a4',hQQ φ2 M2 _ (some (.exit id)) (.inr (.inr ⟨id,rfl,rfl⟩)) hle2 hgm a3' a1' a2'⟩
   generalize hk':k=k' at k2
   cases k2 with
   |done=>omega
   | next hk hp p1 s1 s2 hp2 hrest =>
     subst hk';have g2:=(k3.trans s1.1).trans s2.1;have g3:=hit.grow _ _ hkn g2.ext.wf hp2;refine round p1 s1 s2 (zM g3.ext.next (hrest.grow hit g3.ext.wf).ext.next) _ ?_ (.inl rfl)
     rintro φ2 M2 w2 jump hj hle2 hgm G2 hl2 hd2;rcases hj with⟨rfl,_⟩|⟨_,hq⟩|⟨_,_,hq⟩
     .refine .inl ⟨rfl,φ2,M2,hle2,⟨_,G2.rel,G2.sub,hp2⟩,fun M3 w3 hst=>?_⟩;have hg3:=hit.good _ _ _ _ _ _ _ hkn g2.ext.wf G2.rel G2.sub hp2 hst;have hlt2:=(Array.getElem?_eq_some_iff.1 hl2).1;exact⟨hkn,_,hrest,hgm.trans g3,Good.trans hgm.ext g3.ext g3.low G2 hg3,(hg3.wg.keep _ hlt2 (Img.not_loop G2.rel hl2)).trans hl2,(hg3.wg.keep _ (by omega) (Img.not_deferred G2.rel hd2)).trans hd2⟩
     .cases hq
     .cases hq
   | stop hk hp p1 s1 he s2 =>
     subst hk';refine round p1 s1 s2 (zT _) _ ?_ (.inr he);rintro φ2 M2 w2 jump hj hle2 hgm G2 hl2 hd2;rcases hj with⟨_,rfl⟩|⟨rfl,rfl⟩|⟨id,rfl,rfl⟩
     .rcases he with h|⟨_,h⟩<;>cases h
     .exact .inr ⟨rfl,.ret,φ2,M2,.inl ⟨rfl,rfl⟩,G2,hl2,hd2⟩
     .exact .inr ⟨rfl,.exit id,φ2,M2,.inr ⟨id,rfl,rfl⟩,G2,hl2,hd2⟩
  .refine⟨Nat.zero_le _,m,h3,Grow.refl hw,(Good.refl hR hs).below hb1,hL1,hK1⟩
  .have fin:∀{φ' M' W c st},st ≠ .busy->Good φ M w m mf φ' M' W->W.heap[w.heap.size+1]?=some (.loop (rec st c))->W.heap[w.heap.size]?=some (.deferred (some [])) ->
    ∃ w4,(Instr.endLoop (w.heap.size+1)).run P W = .ok c w4/\Good φ M w m mf φ' M' w4/\FrR φ' f { a with defers:=[{ target:=.collected w.heap.size,args:=#[] }]++a.defers } /\
      Df w w4 a { a with defers:=[{ target:=.collected w.heap.size,args:=#[] }]++a.defers }:=by
    intro φ' M' W c st hst hgd hl hd;have hlt:w.heap.size+1<W.heap.size:=(Array.getElem?_eq_some_iff.1 hl).1;have hrun:=run_endLoop (P:=P) hl (by rw[hrec];exact hst)
    have hpend:(rec st c).pending=c:=by rw[hrec]
    rw[hpend]at hrun;refine⟨_,hrun,hgd.put ⟨_,hl⟩ (by omega),⟨(hf.mono hgd.le).size,(hf.mono hgd.le).get⟩,[{ target:=.collected w.heap.size,args:=#[] }],rfl,?_,fun d hd'=>?_⟩
    .exact List.pairwise_singleton _ _
    .rw[List.mem_singleton]at hd';subst hd';exact⟨w.heap.size,zT _,rfl,(World.putObj_heap_other (by omega)).trans hd⟩
   rintro e W ⟨⟨v,rfl⟩,(⟨φ',M',_,mi,k2,k3,hgd,hl,hd⟩|⟨c,φ',M',hc,hgd,hl,hd⟩)⟩
   .obtain⟨rfl,rfl⟩:=k2.at_end;obtain⟨w4,r1,r2,r3,r4⟩:=fin (by simp) hgd hl hd
    exact⟨none,w4,r1,rfl,φ',M',r2,r3,r4⟩
   .obtain⟨w4,r1,r2,r3,r4⟩:=fin (by simp) hgd hl hd
    rcases hc with⟨rfl,rfl⟩|⟨id,rfl,rfl⟩
    .exact⟨some .ret,w4,r1,wpIn_ret ⟨rfl,φ',M',r2,r3,r4⟩⟩
    .exact⟨some (.exit id),w4,r1,wpIn_exit ⟨rfl,φ',M',r2,r3,r4⟩⟩
end
end Ev
end
section
namespace Sh
open Go Ev
def Cm(P:Program)(g:FuncId)(pr:List Nm)(o:Own)(args:List SV)(Q:SV->Own->Prop):Prop :=
 ∀ lo (G:AM) (ω:Om) (f:Fr) (m:Mem) (us:List Value),Conc lo G ω ⟨[],o⟩ f m->RVL G ω args us ->
   ∃ v m' r o' G' ω',ybw P (.call g us m) (.call v m')/\Conc lo G' ω' ⟨[],o'⟩ f m'/\RV G' ω' r v/\Le G G'/\(∀x b,G' x=some b->G x=some b\/lo<=x)/\(∀β∈pr,∀x,ω β=some x->ω' β=some x) /\
     (cln (live o') 5 r=true/\allQ (fun p=>ycz (live o') p.2) o'/\allQ (fun β=>live o' β=true) pr)/\Q r o'
theorem Cm.mono{P:Program}{g:FuncId}{pr:List Nm}{o:Own}{args:List SV}{Q R:SV->Own->Prop}(h:Cm P g pr o args Q)(hq:∀r o',Q r o'->R r o'):Cm P g pr o args R:=fun lo G ω f m us h1 h2=>by
 obtain⟨v,m',r,o',G',ω',a1,a2,a3,a4,a5,a6,a7,a8⟩:=h lo G ω f m us h1 h2;exact⟨v,m',r,o',G',ω',a1,a2,a3,a4,a5,a6,a7,hq r o' a8⟩
def ItC(P:Program)(g:FuncId)(caps:List SV)(S:ItS):Prop :=
 ∀ lo (F:AM) (ω:Om) (s:SS) (f:Fr) (m:Mem) (us:List Value),Conc lo F ω s f m->RVL F ω caps us->S.own 0 s.o->∃T:It,ItOk P g us T/\T.n=S.n /\
   ∀ (F':AM) (ω':Om) (s':SS) (f':Fr) (m':Mem) (k:Nat),Le F F'->(∀β∈S.pr,∀x,ω β=some x->ω' β=some x)->Conc lo F' ω' s' f' m'->k<=S.n->S.own k s'.o ->
     T.pre k m'/\(k<S.n->RVL F' ω' (S.el k) (T.el k)/\Conc lo F' ω' ⟨s'.f,S.adv k s'.o⟩ f' (T.adv k m'))
noncomputable def Mem.rest(m' m:Mem)(ft:List Nat):Mem:=⟨m'.next,yhc m'.b (T.filt m.b fun i=>!(ft.elem i)),m'.low⟩
section
variable {P:Program}{lo:Nat}{F G:AM}{ω ψ:Om}{s t:SS}{f:Fr}{m:Mem}{o:Oper}
theorem yib{m' m:Mem}{ft:List Nat}{i:Nat}{b:ABlk}:(Mem.rest m' m ft).b.get i=some b↔m'.b.get i=some b\/(m'.b.get i=none/\i∉ft/\m.b.get i=some b):=by
 show(yhc m'.b (T.filt m.b fun i=>!(ft.elem i))).get i=some b↔_;rw[ydf];cases h:m'.b.get i with
 |some x=>simp
 |none=>simp only[T.filt_get];simp
theorem ybw.relow{g:FuncId}{us:List Value}{v:Value}{m':Mem}{n l l':Nat}{b:Ev.T ABlk}(h:ybw P (.call g us ⟨n,b,l⟩) (.call v m')):ybw P (.call g us ⟨n,b,l'⟩) (.call v m'):=by
 intro hw;obtain⟨e,h2⟩:=h hw;refine⟨⟨e.next,e.dom,e.old,e.wf⟩,fun φ M w args' hR hs ha hf=>(h2 φ M w args' hR hs ha hf).mono ?_⟩
 rintro e' w' ⟨v',rfl,φ',M',hg,hv⟩;exact⟨v',rfl,φ',M',⟨hg.le,hg.out,hg.rel,hg.sub,hg.frame,hg.wg⟩,hv⟩
theorem ybw.rest{g:FuncId}{us:List Value}{v:Value}{m':Mem}{ft:List Nat}(hw:Wf m)(h:ybw P (.call g us (m.only ft)) (.call v m')):ybw P (.call g us m) (.call v (Mem.rest m' m ft)):=by
 intro _;obtain⟨e,h2⟩:=h (ygg hw);have hnx:m.next<=m'.next:=e.next
 refine⟨⟨e.next,fun i b hb=>?_,fun i b h1 h3 hb=>?_,fun i b hb=>?_⟩,fun φ M w args' hR hs ha hf=>?_⟩
 .rcases yib.1 hb with hb|⟨_,_,hb⟩
  .rcases e.dom i b hb with⟨x,hx⟩|q
   .exact .inl ⟨x,(ydb.1 hx).2⟩
   .exact .inr q
  .exact .inl ⟨b,hb⟩
 .rcases yib.1 hb with hb|⟨_,_,hb⟩
  .exact(ydb.1 (e.old i b h1 h3 hb)).2
  .exact hb
 .rcases yib.1 hb with hb|⟨_,_,hb⟩
  .exact e.wf i b hb
  .exact zN (hw i b hb) hnx
 .refine(h2 φ M w args' hR (fun i b hb=>hs i b (ydb.1 hb).2) ha hf).mono ?_;rintro e' w' ⟨v',rfl,φ',M',hg,hv⟩
  have hfr:∀i,¬(m.next<=i/\i<m'.next)->(i∉ft\/m.b.get i=none\/i<m'.low)->M' i=M i:=fun i hi hn=>hg.frame i hi (by
   rcases hn with q|q|q
   .left
    cases hq:(m.only ft).b.get i with
    |none=>rfl
    |some x=>exact absurd (ydb.1 hq).1 q
   .left
    cases hq:(m.only ft).b.get i with
    |none=>rfl
    |some x=>rw[(ydb.1 hq).2]at q;cases q
   .exact .inr q)
  refine⟨v',rfl,φ',M',⟨hg.le,hg.out,hg.rel,fun i b hb=>?_,fun i hi hn=>hfr i hi (.inr hn),hg.wg⟩,hv⟩;rcases yib.1 hb with hb|⟨_,q,hb⟩
  .exact hg.sub i b hb
  .rw[hfr i (fun z=>by have:=hw i b hb;omega) (.inl q)]
   exact hs i b hb
theorem RVL.of_slots:∀{as:List SV}{us:List Value},as.length=us.length->(∀(k:Nat) v,as[k]?=some v->∃u,us[k]?=some u/\RV F ω v u)->RVL F ω as us
 |[],[],_,_=>.nil
 | v::as,u::us,h,k=>by
   obtain⟨u',h1,h2⟩:=k 0 v rfl;cases h1
   exact .cons h2 (RVL.of_slots (by simpa using h) fun j w hj=>k (j+1) w (by simpa using hj))
 |[],_::_,h,_=>by simp at h
 |_::_,[],h,_=>by simp at h
theorem yww{l:List (Nat×SV)}{ks:List Nat}{t:Nat}{v:SV}(h:look (yfj l ks) t=some v):look l t=some v:=by
 induction ks with
 |nil=>cases h
 | cons k ks ih =>
   unfold yfj at h;split at h
   .rename_i x hx
    have h':(if k=t then some x else look (yfj l ks) t)=some v:=h
    clear h
    split at h'
    .rename_i q;subst q;rw[hx];exact h'
    .exact ih h'
   .exact ih h
theorem ypc{l:Own}{ks:List Nat}{t:Nat}:look (yeh l ks) t=if t∈ks then look l t else none:=by
 induction ks with
 |nil=>simp[yeh,look]
 | cons k ks ih =>
   unfold yeh;split
   .rename_i x hx
    show(if k=t then some x else look (yeh l ks) t)=_
    by_cases q:k=t
    .subst q;rw[if_pos rfl,if_pos zX,hx]
    .rw[if_neg q,ih];simp[Ne.symm q]
   .rename_i hx
    rw[ih]
    by_cases q:t=k
    .subst q;simp[hx]
    .simp[q]
theorem yty{α:Type}{a b:List (Nat×α)}{t:Nat}:look (a++b) t=match look a t with|some v=>some v|none=>look b t:=by
 induction a with
 |nil=>rfl
 | cons x a ih =>
   show(if x.1=t then some x.2 else look (a++b) t)=match (if x.1=t then some x.2 else look a t)with|some v=>some v|none=>look b t
   split
   .rfl
   .exact ih
theorem ybkh{α:Type}{k:Nat->Nat}{r:Nat->α->α}:∀{o:List (Nat×α)},difN (o.map fun p=>k p.1)=true->∀{c:Nat}{G:α},look (o.map fun p=>(k p.1,r p.1 p.2)) c=some G->∃b F,look o b=some F/\k b=c/\G=r b F
 |[],_,_,_,h=>by cases h
 | (b,F)::o,hd,c,G,h=>by
   have h:(if k b=c then some (r b F)else look (o.map fun p=>(k p.1,r p.1 p.2)) c)=some G:=h
   have hd:(!(zAK (k b) (o.map fun p=>k p.1))&&difN (o.map fun p=>k p.1))=true:=hd;rw[zB,zZ]at hd;split at h
   .rename_i q;cases h;exact⟨b,F,by show(if b=b then some F else _)=_;rw[if_pos rfl],q,rfl⟩
   .obtain⟨b',F',h1,h2,h3⟩:=ybkh hd.2 h;refine⟨b',F',?_,h2,h3⟩;show(if b=b' then some F else look o b')=_
    rw[if_neg]
    .exact h1
    .rintro rfl;exact elem_false' hd.1 (List.mem_map.2 ⟨(b,F'),ydl h1,rfl⟩)
where elem_false' {l:List Nat}{x:Nat}(h:l.elem x=false):x∉l:=by simpa using h
theorem ybmm{k:Nat->Nat}{α:Type}:∀{o:List (Nat×α)},difN (o.map fun p=>k p.1)=true->∀{b c:Nat}{F G:α},look o b=some F->look o c=some G->k b=k c->b=c
 |[],_,_,_,_,_,h,_,_=>by cases h
 | (a,A)::o,hd,b,c,F,G,h1,h2,he=>by
   have hd:(!(zAK (k a) (o.map fun p=>k p.1))&&difN (o.map fun p=>k p.1))=true:=hd;rw[zB,zZ]at hd
   have no:∀{x:Nat}{X:α},look o x=some X->k a≠k x:=fun {x X} hx e=>by
    have:k a∉o.map fun p=>k p.1:=by simpa using hd.1
    exact this (List.mem_map.2 ⟨(x,X),ydl hx,e.symm⟩)
   have h1:(if a=b then some A else look o b)=some F:=h1
   have h2:(if a=c then some A else look o c)=some G:=h2
   split at h1<;>split at h2
   .rename_i p q;rw[<-p,<-q]
   .rename_i p q;rw[<-p]at he;exact absurd he (no h2)
   .rename_i p q;rw[<-q]at he;exact absurd he.symm (no h1)
   .exact ybmm hd.2 h1 h2 he
theorem yblx{α:Type}{k:Nat->Nat}{r:Nat->α->α}:∀{o:List (Nat×α)},difN (o.map fun p=>k p.1)=true->∀{b:Nat}{F:α},look o b=some F->look (o.map fun p=>(k p.1,r p.1 p.2)) (k b)=some (r b F)
 |[],_,_,_,h=>by cases h
 | (a,A)::o,hd,b,F,h=>by
   have hd':(!(zAK (k a) (o.map fun p=>k p.1))&&difN (o.map fun p=>k p.1))=true:=hd;rw[zB,zZ]at hd';have h':(if a=b then some A else look o b)=some F:=h
   clear h
   show(if k a=k b then some (r a A)else look (o.map fun p=>(k p.1,r p.1 p.2)) (k b))=some (r b F)
   split at h'
   .rename_i q;subst q;cases h';rw[if_pos rfl]
   .rename_i q
    rw[if_neg]
    .exact yblx hd'.2 h'
    .intro e;have:k a∉o.map fun p=>k p.1:=by simpa using hd'.1
     exact this (List.mem_map.2 ⟨(b,F),ydl h',e.symm⟩)
open Classical in
noncomputable def yvo(ω ω':Om)(ρ:List (Nat×Nat))(base:Nat)(kb:List Nat)(o:Own):Om:=fun γ=>if kb.elem γ.1=true then ω γ else
 if h:∃b,(∃F,look o b=some F)/\nuF ρ base b=γ.1/\live o (b,γ.2)=true then ω' (zAJ h,γ.2)else none
theorem ykv{ω':Om}{ρ:List (Nat×Nat)}{base:Nat}{kb:List Nat}{o':Own}(hd:difN (o'.map fun p=>nuF ρ base p.1)=true)(hk:(o'.all fun p=>!(kb.elem (nuF ρ base p.1)))=true){β:Nm}(hl:live o' β=true):yvo ω ω' ρ base kb o' (nu ρ base β)=ω' β:=by
 obtain⟨b,hb⟩:=yhw.1 hl;obtain⟨F,h1,h2⟩:=yfe hb
 have hkb:kb.elem (nuF ρ base β.1)=false:=by
  have:=List.all_eq_true.1 hk _ (ydl h1)
  simpa using this
 unfold yvo;rw[if_neg (by show ¬kb.elem (nuF ρ base β.1)=true;rw[hkb];simp)]
 have hex:∃b,(∃F,look o' b=some F)/\nuF ρ base b=(nu ρ base β).1/\live o' (b,(nu ρ base β).2)=true:=⟨β.1,⟨F,h1⟩,rfl,hl⟩;rw[dif_pos hex];obtain⟨⟨F',q1⟩,q2,q3⟩:=zAL hex;have:zAJ hex=β.1:=ybmm hd q1 h1 q2;rw[this];rfl
theorem yxw{ω':Om}{ρ:List (Nat×Nat)}{base:Nat}{kb:List Nat}{o':Own}{γ:Nm}(h:kb.elem γ.1=true):yvo ω ω' ρ base kb o' γ=ω γ:=by
 unfold yvo;rw[if_pos h]
theorem yks{ω':Om}{ρ:List (Nat×Nat)}{base:Nat}{kb:List Nat}{o':Own}{γ:Nm}{x:Option (Nat×Nat)}(h:yvo ω ω' ρ base kb o' γ=some x):(kb.elem γ.1=true/\ω γ=some x)\/(kb.elem γ.1=false/\∃β,live o' β=true/\nu ρ base β=γ/\ω' β=some x):=by
 unfold yvo at h;split at h
 .rename_i q;exact .inl ⟨q,h⟩
 .rename_i q
  split at h
  .rename_i hex
   obtain⟨_,q2,q3⟩:=zAL hex;exact .inr ⟨by simpa using q,(zAJ hex,γ.2),q3,Prod.ext q2 rfl,h⟩
  .cases h
theorem ycaw (hc:Conc lo F ω s f m) {fx:Operand}{args:Array Operand}{ats:Array TypeId}(hop:o.op = .call { callee:=.value fx,args:=args,argTypes:=ats }) {g:FuncId}{a b xs:List SV}(hf:s.get fx=some (.fn g a b)) (hx:s.gets args.toList=some xs)
 {pc:List Nm}{ρ:List (Nat×Nat)}{base:Nat}{keep kb:List Nat}{pr:List Nm}{o0:Own}{as:List SV}{Q:SV->Own->Prop}(hlen:(a++xs++b).length=as.length) (hw:WeakBy (to1 ρ) [] [] ⟨slots (a++xs++b) 0,s.o⟩ ⟨slots as 0,o0⟩)
 (hdom:∀p∈o0,(look ρ p.1).isSome=true) (hk:Kept pc s ρ pr o0 keep kb) (hct:Cm P g pr o0 as Q) :
 ∃ r2 F' ω'' rv o',One P f o m r2/\Q rv o'/\((difN (o'.map fun p=>nuF ρ base p.1)=true/\(o'.all fun p=>!(kb.elem (nuF ρ base p.1)))=true)->Conc lo F' ω'' (yms s ρ base keep kb o') f r2.m/\RV F' ω'' (ren (nu ρ base) 5 rv) r2.v) /\
   m.next<=r2.m.next/\Le F F'/\(∀x b,F' x=some b->F x=some b\/lo<=x)/\((difN (o'.map fun p=>nuF ρ base p.1)=true/\(o'.all fun p=>!(kb.elem (nuF ρ base p.1)))=true)->∀β∈pc,∀x,ω β=some x->ω'' β=some x)/\r2.foot=none/\(o0=[]->r2.mods=some []):=by
 classical
 obtain⟨uf,e1,r1⟩:=hc.get hf;obtain⟨us,e2,r2⟩:=hc.gets hx
 obtain⟨A,B,rfl,rA,rB⟩:∃A B:List Value,uf = .func (.func g) A.toArray B.toArray/\RVL F ω a A/\RVL F ω b B:=by
  cases r1 with
  |fn h1 h2=>exact⟨_,_,rfl,h1,h2⟩
 have hall:RVL F ω (a++xs++b) (A++us++B):=(rA.append r2).append rB
 let f0:Fr:=⟨0,tOf (A++us++B)⟩
 have hc1:Conc lo F ω ⟨slots (a++xs++b) 0,s.o⟩ f0 m:=⟨hc.wf,hc.low,hc.nxt,hc.sub,hc.own,hc.dom,hc.inj,hc.apart,fun t v hv=>by
  obtain⟨_,h2⟩:=ykr hv;obtain⟨u,h3,h4⟩:=hall.get h2;exact⟨u,by show(tOf (A++us++B)).get t=some u;rw[ycq];simpa using h3,h4⟩⟩
 have hc2:=hw.conc hc1;rw[ychh]at hc2
 let ω0:Om:=omTo ω (to1 ρ) [] o0
 have hargs:RVL F ω0 as (A++us++B):=RVL.of_slots (hlen.symm.trans hall.length) fun k v hv=>by
  obtain⟨u,h1,h2⟩:=hc2.fr (0+k) v (ybjz hv);rw[zU]at h1;have h1:(tOf (A++us++B)).get k=some u:=h1;rw[ycq]at h1;exact⟨u,h1,h2⟩
 have hc3:Conc lo F ω0 ⟨[],o0⟩ f m:=⟨hc2.wf,hc2.low,hc2.nxt,hc2.sub,hc2.own,hc2.dom,hc2.inj,hc2.apart,fun t v hv=>by cases hv⟩
 obtain⟨ft,k1,k2,k3⟩:=hc3.only
 have hc4:Conc lo F ω0 ⟨[],o0⟩ f (m.only ft):=⟨ygg hc.wf,hc.low,hc.nxt,k2,fun β b hb=>by
  rcases hc3.own β b hb with⟨k,T,L,h1,h0,h2,h3⟩|h
  .exact .inl ⟨k,T,L,h1,h0,k3 β k _ h1 _ h2,h3⟩
  .exact .inr h,hc3.dom,hc3.inj,hc3.apart,fun t v hv=>by cases hv⟩
 have hct2:∃v m' r o' G' ω',ybw P (.call g (A++us++B) (m.only ft)) (.call v m')/\Conc lo G' ω' ⟨[],o'⟩ f m'/\RV G' ω' r v/\Le F G'/\(∀x b,G' x=some b->F x=some b\/lo<=x)/\(∀β∈pr,∀x,ω0 β=some x->ω' β=some x) /\
  (cln (live o') 5 r=true/\allQ (fun p=>ycz (live o') p.2) o'/\allQ (fun β=>live o' β=true) pr)/\Q r o'/\(o0=[]->m.next<=m'.low):=by
  by_cases h0:o0=[]
  .subst h0
   have hω00:∀β,ω0 β=none:=fun β=>by
    show(if live [] β=true then _ else none)=none
    rw[if_neg (by intro q;cases q)]
   have hc5:Conc m.next F ω0 ⟨[],[]⟩ f ⟨m.next,(m.only ft).b,m.next⟩:=⟨ygg hc.wf,zT _,zT _,k2,fun β b hb=>(by cases hb),fun β _=>hω00 β,fun β γ k z k' z' h1=>(by rw[hω00 β]at h1;cases h1),fun β k z h1=>(by rw[hω00 β]at h1;cases h1),fun t v hv=>(by cases hv)⟩
   obtain⟨v,m',r,o',G',ω',s1,c',rv,hle,hnew,hpr,hcl,hq⟩:=hct m.next F ω0 f _ _ hc5 hargs
   have hlo:lo<=m.next:=hc.nxt
   exact⟨v,m',r,o',G',ω',ybw.relow (b:=(m.only ft).b) s1,⟨c'.wf,zM hlo c'.low,zM hlo c'.nxt,c'.sub,c'.own,c'.dom,c'.inj,fun β k z h=>⟨(c'.apart β k z h).1,zM hlo (c'.apart β k z h).2.1,(c'.apart β k z h).2.2⟩,c'.fr⟩,rv,hle,fun x b h=>(hnew x b h).imp id (zM hlo),hpr,hcl,hq,fun _=>c'.low⟩
  .obtain⟨v,m',r,o',G',ω',s1,c',rv,hle,hnew,hpr,hcl,hq⟩:=hct lo F ω0 f (m.only ft) _ hc4 hargs;exact⟨v,m',r,o',G',ω',s1,c',rv,hle,hnew,hpr,hcl,hq,fun e=>absurd e h0⟩
 obtain⟨v,m',r,o',G',ω',s1,c',rv,hle,hnew,hpr,⟨cl1,cl2,cl3⟩,hq,hlow0⟩:=hct2;have hs:=ybw.rest hc.wf s1;have hext:=(s1 (ygg hc.wf)).1;have hnext:m.next<=m'.next:=hext.next
 have hft:∀{i x},m'.b.get i=some x->i<m.next->i∈ft:=fun {i x} q h=>by
  rcases hext.dom i x q with⟨y,hy⟩|q2
  .exact(ydb.1 hy).1
  .exact absurd q2.1 (Nat.not_le.2 h)
 have hω0:∀{β x},ω0 β=some x->live o0 β=true/\ω (to1 ρ β)=some x:=fun {β x} q=>by
  have q:(if live o0 β=true then(if zAK β.1 []=true then some none else ω (to1 ρ β))else none)=some x:=q
  split at q
  .rename_i hl;rw[if_neg (by simp)]at q;exact⟨hl,q⟩
  .cases q
 have hto:∀{β},live o0 β=true->∃c,look ρ β.1=some c/\to1 ρ β=(c,β.2):=fun {β} hl=>by
  obtain⟨b,hb⟩:=yhw.1 hl;obtain⟨F1,h1,_⟩:=yfe hb;obtain⟨c,hcc⟩:=Option.isSome_iff_exists.1 (hdom _ (ydl h1));have hcc:look ρ β.1=some c:=hcc;exact⟨c,hcc,by unfold to1;rw[hcc]⟩
 have hkeep:∀{γ k z},ω γ=some (some (k,z))->kb.elem γ.1=true->k∉ft:=fun {γ k z} hk1 hkb hm=>by
  rcases(k1 k hm).2 with⟨x,hx⟩|⟨β,z',hb⟩
  .rw[(hc.apart γ k z hk1).1]at hx;cases hx
  .obtain⟨q1,q2⟩:=hω0 hb;obtain⟨c,q3,q4⟩:=hto q1
   have hne:γ≠to1 ρ β:=fun e=>by
    have:=hk.apart _ (ydl q3);rw[e,q4]at hkb;rw[this]at hkb;cases hkb
   exact hc.inj γ _ k z k z' hk1 q2 hne rfl
 have hback:backM m.low (Mem.rest m' m ft)=⟨m'.next,(Mem.rest m' m ft).b,zAC m.low m'.low⟩:=yds _ _
 let ω'':=yvo ω ω' ρ base kb o'
 have hmean:((difN (o'.map fun p=>nuF ρ base p.1)=true/\(o'.all fun p=>!(kb.elem (nuF ρ base p.1)))=true)->∀β x,okN ρ pr kb β=true->ω β=some x->ω'' β=some x):=fun hd β x hok hx=>by
  unfold okN at hok;rw[Bool.or_eq_true]at hok;rcases hok with h|h
  .exact(yxw h).trans hx
  .obtain⟨q,hq1,hq2⟩:=List.any_eq_true.1 h;rw[zB]at hq2;have hlo0:=ycj hk.prl q hq1;obtain⟨c,q3,q4⟩:=hto hlo0;rw[q3]at hq2
   have e:β=nu ρ base q:=by
    have h1:=of_decide_eq_true hq2.1;have h2:=of_decide_eq_true hq2.2;refine Prod.ext ?_ h2.symm;show β.1=nuF ρ base q.1;unfold nuF;rw[q3];exact h1.symm
   have e':β=to1 ρ q:=by
    rw[q4];exact Prod.ext (of_decide_eq_true hq2.1).symm (of_decide_eq_true hq2.2).symm
   have h0:ω0 q=some x:=by
    show(if live o0 q=true then(if zAK q.1 []=true then some none else ω (to1 ρ q))else none)=some x
    rw[if_pos hlo0,if_neg (by simp),<-e'];exact hx
   have hl':=ycj cl3 q hq1;rw[e];exact(ykv hd.1 hd.2 hl').trans (hpr q hq1 x h0)
 have hself:yem P (fun t=>if t = .call g (A++us++B) m then some (.call v (Mem.rest m' m ft))else none):=by
  intro t out h;simp only at h;split at h
  .rename_i e;subst e;cases h;exact hs
  .cases h
 refine⟨⟨v,backM m.low (Mem.rest m' m ft),none,iteB (zAB m.next (Mem.rest m' m ft).low) (some []) none⟩,G',ω'',r,o',.inl ⟨_,hself,?_⟩,hq,fun hd=>⟨?_,?_⟩,by rw[hback];exact hnext,hle,hnew,fun hd β hβ x hx=>hmean hd β x (ycj hk.pin β hβ) hx,rfl,fun e=>?_⟩
 .unfold evOne evOne1;rw[hop];show(ob (f.get fx) fun g=>ob (valsA f args.toList) fun vs=>evCall _ m vs g)=_;rw[e1];show(ob (valsA f args.toList) fun vs=>evCall _ m vs _)=_;rw[e2];show ob ((fun t=>if t=Task.call g (A++us++B) m then some (Out.call v (Mem.rest m' m ft))else none) (.call g (A.toArray.toList++us++B.toArray.toList) m)) (afterCall m)=_
  simp only[if_true];rfl
 ·-- the state behind
  show Conc lo G' ω'' _ f (backM m.low (Mem.rest m' m ft));rw[hback]
  have hnewAt:∀{γ ob},lookO (o'.map (fun p=>(nuF ρ base p.1,p.2.ren (nu ρ base)))) γ=some ob->∃β ob0,nu ρ base β=γ/\lookO o' β=some ob0/\ob=ob0.ren (nu ρ base):=fun {γ ob} h=>by
   obtain⟨Fm,h1,h2⟩:=yfe h;obtain⟨b',F',q1,q2,q3⟩:=ybkh (r:=fun _ F=>F.ren (nu ρ base)) hd.1 h1;subst q3;refine⟨(b',γ.2),?_⟩;rcases yuy h2 with⟨e,hz⟩|⟨gg,e,hg⟩
   .cases F' with
    | one x =>
      cases x with
      |none=>cases e
      | some ob0 =>
        simp only[Fam.ren]at e;cases e
        refine⟨ob0,Prod.ext q2 rfl,?_,rfl⟩;unfold lookO;simp only[q1,Fam.at,hz,if_true]
    |many _=>cases e
   .cases F' with
    |one x=>cases x<;>cases e
    | many g0 =>
      simp only[Fam.ren]at e;cases e
      simp only at hg;split at hg
      .rename_i ob0 hg0
       cases hg
       refine⟨ob0,Prod.ext q2 rfl,?_,rfl⟩;unfold lookO;simp only[q1,Fam.at];exact hg0
      .cases hg
  have hbk:∀{γ ob},lookO (yms s ρ base keep kb o').o γ=some ob->(∃β ob0,nu ρ base β=γ/\lookO o' β=some ob0/\ob=ob0.ren (nu ρ base))\/(kb.elem γ.1=true/\lookO s.o γ=some ob):=fun {γ ob} h=>by
   have h:(match look (o'.map (fun p=>(nuF ρ base p.1,p.2.ren (nu ρ base)))++yeh s.o kb) γ.1 with|some F=>F.at γ.2|none=>none)=some ob:=h
   rw[yty]at h;cases hl:look (o'.map (fun p=>(nuF ρ base p.1,p.2.ren (nu ρ base)))) γ.1 with
   | some Fm =>
     rw[hl]at h;exact .inl (hnewAt (by unfold lookO;rw[hl];exact h))
   | none =>
     rw[hl]at h;simp only[ypc]at h
     by_cases hm:γ.1∈kb
     .rw[if_pos hm]at h;exact .inr ⟨by simpa using hm,h⟩
     .rw[if_neg hm]at h;cases h
  refine⟨fun i x hx=>?_,?_,zM hc.nxt hnext,fun i x hx=>yib.2 (.inl (c'.sub i x hx)),fun γ ob hob=>?_,fun γ hγ=>?_,fun γ δ k z k' z' h1 h2 hne=>?_,fun γ k z h1=>?_,fun t w hw'=>?_⟩
  .rcases yib.1 hx with q|⟨_,_,q⟩
   .exact c'.wf i x q
   .exact zN (hc.wf i x q) hnext
  .show lo<=zAC m.low m'.low;have:=hc.low;have:=c'.low;rw[zAM];omega
  .rcases hbk hob with⟨β,ob0,rfl,h2,rfl⟩|⟨h1,h2⟩
   .have hlive:live o' β=true:=yhw.2 ⟨_,h2⟩
    have hcln:yge (live o') ob0:=by
     obtain⟨Fm,q1,q2⟩:=yfe h2;have:=ycj cl2 _ (ydl q1);rcases yuy q2 with⟨rfl,_⟩|⟨gg,rfl,hg⟩
     .exact this
     .exact this _ _ hg
    have hom:ω'' (nu ρ base β)=ω' β:=ykv hd.1 hd.2 hlive;rcases c'.own β ob0 h2 with⟨k,T,L,g1,g0,g2,g3⟩|⟨g1,g2,g3⟩
    .refine .inl ⟨k,T,L,hom.trans g1,g0,yib.2 (.inl g2),fun i hi=>?_⟩;obtain⟨l1,l2,l3,l4⟩:=g3 i hi;exact⟨l1,l2.map_get fun v u hv hr=>ybgm (fun β x hl hx=>(ykv hd.1 hd.2 hl).trans hx) hr (List.all_eq_true.1 (hcln i hi) v hv),ybit (ycid _ _) l3,l4⟩
    .exact .inr ⟨hom.trans g1,g2,g3⟩
   .have hom:ω'' γ=ω γ:=yxw h1
    have hcln:yge (okN ρ pr kb) ob:=by
     obtain⟨Fm,q1,q2⟩:=yfe h2;have hmem:look (yeh s.o kb) γ.1=some Fm:=by rw[ypc,if_pos (by simpa using h1)];exact q1
     have:=ycj hk.own _ (ydl hmem);rcases yuy q2 with⟨rfl,_⟩|⟨gg,rfl,hg⟩
     .exact this
     .exact this _ _ hg
    rcases hc.own γ ob h2 with⟨k,T,L,g1,g0,g2,g3⟩|⟨g1,g2,g3⟩
    .have hkft:=hkeep g1 h1;have hlt:=(hc.apart γ k _ g1).2.2;refine .inl ⟨k,T,L,hom.trans g1,g0,yib.2 (.inr ⟨?_,hkft,g2⟩),fun i hi=>?_⟩
     .cases hq':m'.b.get k with
      |none=>rfl
      |some y=>exact absurd (hft hq' hlt) hkft
     .obtain⟨l1,l2,l3,l4⟩:=g3 i hi;exact⟨l1,(l2.of_get fun v u hv hr=>ybjp (hmean hd) hr (List.all_eq_true.1 (hcln i hi) v hv)).mono hle (Om.le_refl _),l3,l4⟩
    .exact .inr ⟨hom.trans g1,g2,g3⟩
  .have hγ:look (o'.map (fun p=>(nuF ρ base p.1,p.2.ren (nu ρ base)))++yeh s.o kb) γ.1=none:=hγ;rw[yty]at hγ;cases hw2:ω'' γ with
   |none=>rfl
   | some x =>
     exfalso
     rcases yks hw2 with⟨h1,h2⟩|⟨_,β,h1,rfl,_⟩
     .cases hl:look (o'.map (fun p=>(nuF ρ base p.1,p.2.ren (nu ρ base)))) γ.1 with
      |some Fm=>rw[hl]at hγ;cases hγ
      | none =>
        rw[hl,ypc,if_pos (by simpa using h1)]at hγ
        rw[hc.dom γ hγ]at h2;cases h2
     .obtain⟨b,hb⟩:=yhw.1 h1;obtain⟨Fm,q1,_⟩:=yfe hb;have:=yblx (r:=fun _ F=>F.ren (nu ρ base)) hd.1 q1;have e:(nu ρ base β).1=nuF ρ base β.1:=rfl;rw[e,this]at hγ;cases hγ
  .have key:∀{γ k z},ω γ=some (some (k,z))->kb.elem γ.1=true->∀{β z'},live o' β=true->ω' β=some (some (k,z'))->False:=fun {γ k z} hk1 hkb {β z'} hl hk2=>by
    obtain⟨ob,hb⟩:=yhw.1 hl;obtain⟨rfl,T,L,g1,_⟩:=c'.ownAt hb hk2;exact hkeep hk1 hkb (hft g1 (hc.apart γ k z hk1).2.2)
   intro e;subst e;rcases yks h1 with⟨a1,a2⟩|⟨a1,β,a2,a3,a4⟩<;>rcases yks h2 with⟨b1,b2⟩|⟨b1,β',b2,b3,b4⟩
   .exact hc.inj γ δ k z k z' a2 b2 hne rfl
   .exact key a2 a1 b2 b4
   .exact key b2 b1 a2 a4
   .exact c'.inj β β' k z k z' a4 b4 (fun e=>hne (by rw[<-a3,<-b3,e])) rfl
  .rcases yks h1 with⟨a1,a2⟩|⟨a1,β,a2,a3,a4⟩
   .obtain⟨q1,q2,q3⟩:=hc.apart γ k z a2;refine⟨?_,q2,zN q3 hnext⟩;cases hG:G' k with
    |none=>rfl
    |some y=>exact absurd (hft (c'.sub _ _ hG) q3) (hkeep a2 a1)
   .exact c'.apart β k z a4
  .have hw':look (yfj s.f keep) t=some w:=hw';obtain⟨u,g1,g2⟩:=hc.fr t w (yww hw');exact⟨u,g1,(ybjp (hmean hd) g2 (ycj hk.slot _ (ydl hw'))).mono hle (Om.le_refl _)⟩
 .exact ybgm (fun β x hl hx=>(ykv hd.1 hd.2 hl).trans hx) rv cl1
 .show iteB (zAB m.next m'.low) (some []) none=some []
  rw[ybh,if_pos (zA (hlow0 e))]
end
end Sh
end
end Go.Proofs.YtiejahgklcjhkaaGreatDoor
