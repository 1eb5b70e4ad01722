/- Joined. -/
import Derived.Test.YthclbjjgfcgbgaaGreatDoorPkCn7
import Derived.Test.YthclbjjgfcgbgaaGreatDoorPkCn5
set_option linter.unusedSimpArgs false
set_option linter.unusedVariables false
set_option maxRecDepth 8000
open Nat renaming reduceEqDiff->zA,reduceAdd->zB,reduceLT->zC,reduceLeDiff->zD,le_refl->zM,zero_le->zT,lt_of_lt_of_le->zAA,pow_le_pow_right->zAB,testBit_lt_two_pow->zAF,pow_lt_pow_right->zAH,ble_eq_true_of_le->zAJ,lt_pow_two_of_testBit->zAL,shiftRight_eq_div_pow->zAM,mod_eq_of_lt->zAQ,not_lt_zero->zAV,lt_of_le_of_lt->zBA,testBit_two_pow_sub_one->zBB,eq_zero_or_pos->zBD,lt_irrefl->zBE,lt_succ_self->zBG,testBit_and->zBJ,eq_of_testBit_eq->zBP,testBit_two_pow->zBR,lt_of_lt_of_eq->zBT,or_lt_two_pow->zBV,and_le_left->zCD,reduceMul->zCI,lt_or_ge->zCK,mul_comm->zCM,le_succ->zCN,beq->zCQ
open Bool renaming and_eq_true->zF,eq_iff_iff->zBN,false_eq_true->zBS,not_eq_true'->zBY,true_and->zCJ
open Go.Proofs.Tryz renaming prog->zG
open List renaming getElem_mem->zH,take_succ_eq_append_getElem->zI,mem_cons_of_mem->zJ,getD->zK,getElem?_eq_getElem->zL,mem_cons_self->zN,range->zS,foldl_append->zV,eq_nil_of_length_eq_zero->zX,take_length->zY,getElem_of_mem->zAD,not_mem_nil->zAE,length_map->zAG,foldl_cons->zAI,map_cons->zAK,length_erase_of_mem->zAO,getElem?_set_self->zAP,getElem_map->zAR,length_cons->zAS,filter_cons->zAT,getElem?_eq_none->zAU,getElem?_set_ne->zAW,mem_erase_of_ne->zAX,length->zAZ,append_assoc->zBF,map_append->zBM,length_pos_of_mem->zBO,length_append->zBU,nodup_append->zBW,pairwise_map->zBX,ext_getElem->zBZ,countP_cons->zCA,all_eq_true->zCB,any_eq_true->zCC,countP_nil->zCE,range_succ->zCG,replicate->zCH,flatMap->zCL
open BitVec renaming ofInt->zO,ofInt_natCast->zAC,toNat_ofNat->zAN,getLsbD_ofNat->zBQ
open Int renaming toNat_natCast->zQ,le_refl->zU,lt_or_le->zZ,toNat_of_nonneg->zAY,emod_lt_of_pos->zBC,natCast_zero->zBH,le_trans->zBI,reduceToNat->zBK,emod_nonneg->zBL,le_antisymm->zCF
open Classical renaming byContradiction->zW,choose_spec->zCO,choose->zCP
open Go
namespace Go.Proofs.YthclbjjgfcgbgaaGreatDoor
section
def ypu(f:Nat->Bool):Nat->Nat
 |0=>0
 |n+1=>if f n then ypu f n|||2^n else ypu f n
theorem ymp(f:Nat->Bool):∀(n i:Nat),(ypu f n).testBit i=(decide (i<n)&&f i)
 |0,i=>by simp[ypu]
 | n + 1,i=>by
   unfold ypu;have a:=ymp f n i
   by_cases h:f n=true
   .rw[if_pos h,Nat.testBit_or,a,zBR]
    by_cases e:n=i
    .subst e;simp[h]
    .have:(i<n+1)=(i<n):=propext (by omega)
     simp[e,this]
   .rw[if_neg h,a]
    by_cases e:n=i
    .subst e;simp[h]
    .have:(i<n+1)=(i<n):=propext (by omega)
     simp[this]
theorem ybro(f:Nat->Bool)(n:Nat):ypu f n<2^n:=by
 refine zAL _ fun i a=>?_;rw[ymp];simp;omega
def difB(a b:Nat):Nat:=a ^^^ (a&&&b)
theorem ynv(a b i:Nat):(difB a b).testBit i=(a.testBit i && !(b.testBit i)):=by
 unfold difB;rw[Nat.testBit_xor,zBJ];cases a.testBit i<;>cases b.testBit i<;>rfl
theorem yfl(a:Nat):a=0↔∀i,a.testBit i=false:=by
 constructor
 .rintro rfl i;simp
 .intro h;exact zBP fun i=>by rw[h i];simp
theorem ybzn{a b n:Nat}(h:a<2^n):a&&&b<2^n:=by
 have:=zCD (n:=a) (m:=b);omega
theorem yty{a b n:Nat}(h:a<2^n):difB a b<2^n:=by
 refine zAL _ fun i c=>?_;rw[ynv,zAF (zAA h (zAB (by omega) c))]
 rfl
structure Cnt where
 steps:Nat
 moves:Nat
 rounds:Nat
 begun:Nat
 pend:Nat
def yhs(s:Nat):Nat->Nat
 |0=>0
 |n+1=>yhs s n+(s.testBit n).toNat
def popP(s:Nat):Nat:=yhs s 32
def ybkm(e:Nat):Cnt:=⟨0,0,0,0,e⟩
def addP(k:Cnt)(a after:Nat):Cnt :=
 let p:=difB k.pend a&&&after
 ⟨k.steps+1,k.moves+popP a,if p=0 then k.rounds+1 else k.rounds,k.rounds+1,if p=0 then after else p⟩
def Cnt.ok(k:Cnt):Prop:=k.rounds<=k.begun/\k.begun<=k.rounds+1/\k.begun<=k.steps/\k.steps<=k.moves/\k.moves<=24*k.steps/\k.pend<2^24
theorem yoc(s:Nat):∀n,yhs s n<=n
 |0=>zM _
 | n+1=>by
   have:=yoc s n;unfold yhs;cases s.testBit n<;>simp[Bool.toNat]<;>omega
theorem ybbx(s:Nat)(h:s<2^24):∀k,yhs s (24+k)=yhs s 24
 |0=>rfl
 | k+1=>by
   have e:s.testBit (24+k)=false:=zAF (zAA h (zAB (by omega) (by omega)))
   show yhs s (24+k)+(s.testBit (24+k)).toNat=_;rw[ybbx s h k,e];rfl
theorem ydnf(s:Nat)(h:s<2^24):popP s<=24:=by
 have:=ybbx s h 8;unfold popP;rw[this];exact yoc s 24
structure Sys where
 n:Nat
 en:Conf->Nat
 mv:Conf->Nat->Conf
def Sys.run(S:Sys)(res:Nat->Nat->Nat):List Nat->Conf->Cnt->List (Conf×Cnt)
 |[],_,_=>[]
 | w::a,c,k=>if S.en c=0 then[]else(let s:=res (S.en c) w
   let d:=S.mv c s
   (d,addP k s (S.en d))::S.run res a d (addP k s (S.en d)))
def Sys.runs(S:Sys)(res:Nat->Nat->Nat)(ws:List Nat)(c:Conf):List (Conf×Cnt):=(c,ybkm (S.en c))::S.run res ws c (ybkm (S.en c))
def subB(a b:Nat):Prop:=∀i,a.testBit i=true->b.testBit i=true
structure ByRounds(S:Sys)(V:Conf->Prop)(P:Nat->Nat->List Int->Prop):Prop where
 valid:∀c s,V c->s≠0->subB s (S.en c)->V (S.mv c s)
 stay:∀c s v,V c->v<S.n->s.testBit v=false->(S.mv c s).getD v []=c.getD v []
 move:∀c s v r,V c->v<S.n->s.testBit v=true->subB s (S.en c)->(∀u,u<S.n->P r u (c.getD u []))->P (r+1) v ((S.mv c s).getD v [])
 rest:∀c v r,V c->v<S.n->(S.en c).testBit v=false->(∀u,u<S.n->P r u (c.getD u []))->P (r+1) v (c.getD v [])
 less:∀r v s,P (r+1) v s->P r v s
structure RInv(S:Sys)(V:Conf->Prop)(P:Nat->Nat->List Int->Prop)(c:Conf)(k:Cnt):Prop where
 valid:V c
 all:∀v,v<S.n->P k.rounds v (c.getD v [])
 done:∀v,v<S.n->k.pend.testBit v=false->P (k.rounds+1) v (c.getD v [])
 begun:k.begun<=k.rounds+1
end
section
structure RuleT where
 name:ByteArray
 guard:Ex
 sets:List (Int×Ex)
structure ProgT where
 name:ByteArray
 vars:List VarR
 rules:List RuleT
instance:Inhabited Ex:=⟨.leaf 0 0⟩
instance:Inhabited RuleT:=⟨⟨.empty,default,[]⟩⟩
def RuleT.raw(r:RuleT):RuleR:=⟨r.name,r.guard.ser,r.sets.map fun s=>⟨s.1,s.2.ser⟩⟩
def ProgT.raw(p:ProgT):ProgR:=⟨p.name,p.vars,p.rules.map RuleT.raw⟩
def RuleT.ok(a:Nat)(r:RuleT):Bool:=r.guard.ok a false&&decide (r.guard.ser.length<=1000)&&decide (r.sets.length<=100)&&r.sets.all fun s=>decide (0<=s.1/\s.1<a)&&s.2.ok a false&&decide (s.2.ser.length<=1000)
def VarR.ok(x:VarR):Bool:=decide (x.kind=1\/x.kind=2\/x.kind=3)&&decide (0<=x.lo/\x.lo<=4096)&&decide (-4096<=x.hi/\x.hi<=4096)&&decide (0<=x.perNode/\x.perNode<=255)&&decide (0<=x.perID/\x.perID<=255)
def ProgT.ok(p:ProgT):Bool:=decide (1<=p.vars.length/\p.vars.length<=6)&&p.vars.all VarR.ok&&decide (p.rules.length<=12)&&p.rules.all (RuleT.ok p.vars.length)
def yly(g:Gr)(c:Conf)(v:Nat)(r:RuleT):Bool:=ydp g c v r.guard (-1)!=0
def yeu(p:ProgT)(g:Gr)(c:Conf)(v:Nat):Int:=match p.rules.findIdx? (yly g c v)with|some i=>i|none=>-1
def ybk(g:Gr)(v:Nat)(x:VarR):Int×Int :=
 if x.kind=1 then(x.lo,x.hi+x.perNode*(g.ids.length:Int)+x.perID*maxI g.ids)else if x.kind=2 then(0,1)else if x.kind=3 then(-1,((g.ports.getD v []).length:Int)-1)else(0,-1)
def yhd(kind:Int)(b:Int×Int)(x:Int):Int:=if x>=b.1/\x<=b.2 then x else if kind=3 then -1 else if x<b.1 then b.1 else b.2
def yvu(p:ProgT)(g:Gr)(c:Conf)(v:Nat)(b:List Int)(sets:List (Int×Ex)):List Int :=
 sets.foldl (fun s a=>s.set a.1.toNat (yhd (p.vars.getD a.1.toNat default).kind (ybk g v (p.vars.getD a.1.toNat default)) (ydp g c v a.2 (-1)))) b
def ykq(p:ProgT)(g:Gr)(c:Conf)(v:Nat)(r:Nat):List Int:=yvu p g c v (c.getD v []) (p.rules.getD r default).sets
def ybq(p:ProgT)(g:Gr)(c:Conf):Nat:=ypu (fun v=>decide (yeu p g c v>=0)) g.ids.length
def yds(p:ProgT)(g:Gr)(c:Conf)(s:Nat):Conf:=c.zipIdx.map fun q=>if s.testBit q.2 then ykq p g c q.2 (yeu p g c q.2).toNat else q.1
def yud(p:ProgT)(g:Gr):Sys:=⟨g.ids.length,ybq p g,yds p g⟩
def yfe(p:ProgT)(g:Gr)(c:Conf):Bool:=yxr g.ids.length (fun v=>p.vars.map (ybk g v)) c
end
section
namespace Sh
open Go Ev
theorem ydnm{g:Gr}(a:ybi g):0<=maxI g.ids/\maxI g.ids<=255:=by
 have c:=a.1;have d:=a.2.2.1;rw[ycnq (by omega) fun x b=>(a.2.2.2.1 x b).1]
 exact yxt a
theorem ybuz{x:VarR}(h:x.ok=true):(x.kind=1\/x.kind=2\/x.kind=3)/\(0<=x.lo/\x.lo<=4096)/\(-4096<=x.hi/\x.hi<=4096)/\(0<=x.perNode/\x.perNode<=255)/\(0<=x.perID/\x.perID<=255):=by
 unfold VarR.ok at h;simp only[zF,decide_eq_true_eq]at h;obtain⟨⟨⟨⟨a,b⟩,c⟩,d⟩,e⟩:=h;exact⟨a,b,c,d,e⟩
theorem mulN{a b A B:Int}(d:0<=a)(e:a<=A)(c:0<=b)(f:b<=B):0<=a*b/\a*b<=A*B:=⟨Int.mul_nonneg d c,Int.mul_le_mul e f c (by omega)⟩
theorem yzy{g:Gr}(a:ybi g){x:VarR}(e:x.ok=true):(0<=x.perNode*(g.ids.length:Int)/\x.perNode*(g.ids.length:Int)<=255*24)/\(0<=x.perID*maxI g.ids/\x.perID*maxI g.ids<=255*255):=by
 obtain⟨_,_,_,b,c⟩:=ybuz e;have d:=ydnm a;have f:=a.2.1;have h:=a.2.2.1;exact⟨mulN b.1 b.2 (by omega) (by omega),mulN c.1 c.2 d.1 d.2⟩
theorem ybpr{g:Gr}(a:ybi g){x:VarR}(c:x.ok=true)(v:Int):Returns zG 176 [.ag (varC x),grV g,.i .i64 v] (.tp [.i .i64 x.lo,.i .i64 (x.hi+x.perNode*(g.ids.length:Int)+x.perID*maxI g.ids)]):=by
 refine Returns.of (ydob _ _ ?_);have h:=a.1;have j:=a.2.1;have k:=a.2.2.1;have b:=ydls g.ids (by omega) (by omega)
 obtain⟨d,e⟩:=yzy a c;obtain⟨_,_,f,_,_⟩:=ybuz c;simp only[ybb]at b;simp only[c176,yczj,yddr,grV,varC,ybb,go_sem,zA,zB,zD,zC];refine⟨ikw (by omega) (by omega),ikw (by omega) (by omega),b.use ?_⟩
 simp only[ybj,go_sem,zA,zB];refine⟨ikw (by omega) (by omega),ikw (by omega) (by omega),?_⟩
 exact Sim.refl _
theorem ybpv(g:Gr)(x:VarR)(v:Int):Returns zG 177 [.ag (varC x),grV g,.i .i64 v] (.tp [.i .i64 0,.i .i64 1]):=by
 refine Returns.of (ydqe _ _ ?_);simp only[c177,ydac,ydli,grV,varC,go_sem,zA,zB,zC];exact Sim.refl _
theorem yboy{g:Gr}(a:ybi g)(x:VarR){v:Nat}(c:v<g.ports.length):Returns zG 178 [.ag (varC x),grV g,.i .i64 v] (.tp [.i .i64 (-1),.i .i64 (((g.ports.getD v []).length:Int)-1)]):=by
 refine Returns.of (ydtk _ _ ?_);have b:=a.deg_lt (v:=v);simp only[c178,ydhy,yddk,grV,yg,yx,varC,go_sem,zA,zB,zC];refine⟨by omega,ikw (by omega) (by omega),?_⟩
 exact Sim.refl _
theorem ycfz(kind:Int)(b:Int×Int)(x:Int):Returns zG 170 [.i .i64 kind,.ag [.i .i64 b.1,.i .i64 b.2],.i .i64 x] (.i .i64 (yhd kind b x)):=by
 refine Returns.of (ydmh _ _ ?_);simp only[c170,ycyh,ydhp,ydcz,ydgk,yddy,ydjx,ydav,ydbv,ycj,yhd,go_sem,zBK,zA,zB,zD,zC,zCI];refine⟨by omega,fun d=>⟨by omega,fun e=>by rw[if_pos ⟨d,e⟩],fun e=>⟨fun a=>by rw[if_neg (fun q=>e q.2),if_pos a],fun a=>⟨by omega,fun c=>⟨by omega,by rw[if_neg (fun q=>e q.2),if_neg a,if_pos c]⟩,fun c=>⟨by omega,by rw[if_neg (fun q=>e q.2),if_neg a,if_neg c]⟩⟩⟩⟩,fun d=>⟨fun a=>by rw[if_neg (fun q=>d q.1),if_pos a],fun a=>⟨by omega,fun c=>⟨by omega,by rw[if_neg (fun q=>d q.1),if_neg a,if_pos c]⟩,fun c=>⟨by omega,by rw[if_neg (fun q=>d q.1),if_neg a,if_neg c]⟩⟩⟩⟩
theorem ybbj{g:Gr}(f:ybi g){x:VarR}(l:x.ok=true){v:Nat}(p:v<g.ports.length):Returns zG 132 [.ag (varC x),grV g,.i .i64 v] (.tp [.i .i64 (ybk g v x).1,.i .i64 (ybk g v x).2]):=by
 refine Returns.of (ydsg _ _ ?_);have b:=ybpr f l v;have c:=ybpv g x v;have d:=yboy f x p;obtain⟨hk,_⟩:=ybuz l;simp only[varC,grV]at b c d;simp only[c132,ycxw,ydha,ydlh,varC,grV,splice,go_sem,zA,zB,zD,zC]
 refine ybe (σ:=Nat) (fun k=>⟨[(17,.i .i64 k),(15,.os (14,0) 0 3 true),(16,.i .i64 3),(2,.i .i64 v),(3,.pt (3,0) 0 0),(4,.pt (4,0) 0 0)],
  [(3,.one (some ⟨160,true,6,1,fun _=>varC x⟩)),(4,.one (some ⟨27,true,2,1,fun _=>[ybb g.ids,yg g.ports]⟩)),
   (14,.one (some ⟨210,false,2,3,fun k=>if k=0 then[.i .i64 1,.fn 176 [] []]else if k=1 then[.i .i64 2,.fn 177 [] []]else[.i .i64 3,.fn 178 [] []]⟩))]⟩)
  (fun k=>k<=2/\(1<=k->x.kind≠1)/\(2<=k->x.kind≠2)) (fun k=>3-k) 0 ⟨by omega,by omega,by omega⟩ ?_ ?_
 .refine yj ?_;simp only[varC,wk,go_sem,zA,zC];refine⟨rfl,fun i j=>?_⟩;rcases(show i=0\/i=1\/i=2 by omega)with rfl|rfl|rfl
  .simp only[wk,go_sem]
  .simp only[if_neg (show ¬(1:Nat)=0 by omega),wk,go_sem]
  .simp only[if_neg (show ¬(2:Nat)=0 by omega),if_neg (show ¬(2:Nat)=1 by omega),wk,go_sem,zA]
 .rintro k ⟨m,n,o⟩;rcases(show k=0\/k=1\/k=2 by omega)with rfl|rfl|rfl
  .simp only[ybqq,ybrt,ybqu,ybsh,ybrq,ybrk,varC,splice,go_sem,zA,zB,zD,zC];refine⟨fun _=>⟨by omega,fun a=>b.use ?_,fun a=>⟨ikw (by omega) (by omega),?_⟩⟩,fun h=>by omega⟩
   .simp only[ybj,go_sem,zA,zB];have e:ybk g v x=(x.lo,x.hi+x.perNode*(g.ids.length:Int)+x.perID*maxI g.ids):=by unfold ybk;rw[if_pos a.symm]
    rw[e];exact Sim.refl _
   .refine yu 1 ⟨by omega,fun _ q=>a q.symm,by omega⟩ (by omega) ?_
    refine yj ?_;simp only[wk,go_sem,zA,zC];refine⟨by omega,fun i j=>?_⟩
    rcases(show i=0\/i=1\/i=2 by omega)with rfl|rfl|rfl
    .simp only[wk,go_sem]
    .simp only[if_neg (show ¬(1:Nat)=0 by omega),wk,go_sem]
    .simp only[if_neg (show ¬(2:Nat)=0 by omega),if_neg (show ¬(2:Nat)=1 by omega),wk,go_sem,zA]
  .simp only[ybqq,ybrt,ybqu,ybsh,ybrq,ybrk,varC,splice,go_sem,zA,zB,zD,zC];refine⟨fun _=>⟨by omega,fun a=>c.use ?_,fun a=>⟨ikw (by omega) (by omega),?_⟩⟩,fun h=>by omega⟩
   .simp only[ybj,go_sem,zA,zB];have e:ybk g v x=(0,1):=by unfold ybk;rw[if_neg (by omega),if_pos a.symm]
    rw[e];exact Sim.refl _
   .refine yu 2 ⟨by omega,fun _=>by omega,fun _ q=>a q.symm⟩ (by omega) ?_
    refine yj ?_;simp only[wk,go_sem,zA,zC];refine⟨by omega,fun i j=>?_⟩
    rcases(show i=0\/i=1\/i=2 by omega)with rfl|rfl|rfl
    .simp only[wk,go_sem]
    .simp only[if_neg (show ¬(1:Nat)=0 by omega),wk,go_sem]
    .simp only[if_neg (show ¬(2:Nat)=0 by omega),if_neg (show ¬(2:Nat)=1 by omega),wk,go_sem,zA]
  .simp only[ybqq,ybrt,ybqu,ybsh,ybrq,ybrk,varC,splice,go_sem,zA,zB,zD,zC];refine⟨fun _=>⟨by omega,fun a=>d.use ?_,fun a=>by omega⟩,fun h=>by omega⟩
   simp only[ybj,go_sem,zA,zB];have e:ybk g v x=(-1,((g.ports.getD v []).length:Int)-1):=by unfold ybk;rw[if_neg (by omega),if_neg (by omega),if_pos a.symm]
   rw[e];exact Sim.refl _
def ybby(n:Nat)(a:List VarR)(b:Nat->VarR->Int×Int):SV:=.sl 1 n (fun v=>[.sl 2 a.length (fun i=>[.i .i64 (b v (a.getD i default)).1,.i .i64 (b v (a.getD i default)).2])])
def rowT(a:List VarR)(b:VarR->Int×Int):SV:=.sl 2 a.length (fun i=>[.i .i64 (b (a.getD i default)).1,.i .i64 (b (a.getD i default)).2])
theorem ybgy(p:ProgR){g:Gr}(o:ybi g)(z:p.vars.all VarR.ok=true)(y:p.vars.length<=6):Returns zG 63 [.ag (ypj p),grV g] (ybby g.ids.length p.vars (ybk g)):=by
 refine Returns.of (yehl _ _ ?_);have t:=o.2.1;have hid:=o.2.2.1;obtain⟨n,r⟩:∃n,g.ids.length=n:=⟨_,rfl⟩;obtain⟨h,c⟩:∃k,p.vars.length=k:=⟨_,rfl⟩;rw[r];rw[c]at y;simp only[c63,yedn,ydye,yedk,grV,ybb,ypj,r,go_sem,zA,zB,zD,zC];refine⟨by omega,?_⟩
 refine ybe (σ:=Nat) (fun k=>⟨[(15,.i .i64 k),(14,.i .i64 n),(5,.os (12,0) 0 n true),(2,.pt (2,0) 0 0),(3,.pt (3,0) 0 0)],
  [(2,.one (some ⟨32,true,3,1,fun _=>ypj p⟩)),(3,.one (some ⟨27,true,2,1,fun _=>[ybb g.ids,yg g.ports]⟩)),
   (12,.one (some ⟨92,false,1,n,fun i=>[if i<k then rowT p.vars (ybk g i)else .a (.slice none 0 0)]⟩))]⟩) (fun k=>k<=n) (fun k=>n-k) 0 (zT _) ?_ ?_
 .refine yj ?_;simp only[ypj,ybb,r,wk,go_sem,zA,zC];intro i _;rw[if_neg (by omega)]
  simp only[wk,go_sem]
 .intro k hk;simp only[yegu,yefc,yehp,yedr,ypj,yfq,splice,c,go_sem,zA,zB,zD,zC];refine⟨fun f=>⟨by omega,by omega,by omega,?_⟩,fun f=>?_⟩
  .have w:k<n:=by omega
   let b:Nat->Int×Int:=fun i=>ybk g k (p.vars.getD i default)
   refine ybe (σ:=Nat) (fun j=>⟨[(28,.i .i64 j),(26,yfq p.vars),(27,.i .i64 h),(6,.i .i64 k),(15,.i .i64 k),(14,.i .i64 n),(5,.os (12,0) 0 n true),(2,.pt (2,0) 0 0),(3,.pt (3,0) 0 0)],
    [(2,.one (some ⟨32,true,3,1,fun _=>ypj p⟩)),(3,.one (some ⟨27,true,2,1,fun _=>[ybb g.ids,yg g.ports]⟩)),
     (12,.one (some ⟨92,false,1,n,fun i=>[if i<k then rowT p.vars (ybk g i)else if i=k then .os (23,0) 0 h true else .a (.slice none 0 0)]⟩)),
     (23,.one (some ⟨91,false,2,h,fun i=>[.i .i64 (if i<j then(b i).1 else 0),.i .i64 (if i<j then(b i).2 else 0)]⟩))]⟩) (fun j=>j<=h) (fun j=>h-j) 0 (zT _) ?_ ?_
   .refine yj ?_;simp only[ypj,yfq,c,wk,go_sem,zA,zC];refine⟨fun i m=>?_,fun i m=>?_⟩
    .by_cases e:i=k
     .simp only[if_pos e,if_neg (show ¬i<k by omega)]
      simp only[wk,go_sem,zA]
     .simp only[if_neg e]
      by_cases d:i<k
      .simp only[if_pos d];simp only[rowT,wk,go_sem]
      .simp only[if_neg d];simp only[wk,go_sem]
    .simp only[if_neg (zAV i),and_self]
   .intro j A;simp only[yeih,yecj,ydzm,ydce,ydga,ypj,yfq,varC,splice,c,go_sem,zA,zB,zC];refine⟨fun f=>?_,fun f=>?_⟩
    .have u:j<h:=by omega
     have s:=ybbj o (x:=p.vars.getD j default) (by
      rw[getD_at (by omega)]
      exact List.all_eq_true.1 z _ (zH _)) (v:=k) (by omega)
     simp only[varC,grV]at s;refine⟨by omega,by omega,by omega,by omega,by omega,s.use ?_⟩
     simp only[ybj,splice,go_sem,zBK,zA,zB,zD,zCI];refine⟨by omega,by omega,by omega,by decide,by omega,by omega,by omega,by decide,ikw (by omega) (by omega),?_⟩
     refine ybv (j+1) ?_;refine yj ?_;simp only[wk,go_sem,zA,zC];refine⟨by omega,fun i m=>?_,fun i m=>?_⟩
     .by_cases d:i<k
      .simp only[if_pos d];simp only[rowT,wk,go_sem]
      .simp only[if_neg d]
       by_cases e:i=k
       .simp only[if_pos e];simp only[wk,go_sem,zA]
       .simp only[if_neg e];simp only[wk,go_sem]
     .by_cases e:i=j
      .subst e;simp only[if_pos (zBG i)];simp only[wk,go_sem];exact⟨rfl,rfl⟩
      .simp only[if_neg e]
       by_cases d:i<j
       .simp only[if_pos d,if_pos (show i<j+1 by omega)]
        simp only[wk,go_sem]
       .simp only[if_neg d,if_neg (show ¬i<j+1 by omega)]
        simp only[wk,go_sem]
    .obtain rfl:j=h:=by omega
     refine⟨ikw (by omega) (by omega),?_⟩
     refine ybv (k+1) ?_;refine yca [] [] [(23,0)] ?_;simp only[wk,go_sem,zA,zD,zC];refine⟨by omega,fun i m=>?_⟩
     by_cases d:i<k
     .simp only[if_pos d,if_pos (show i<k+1 by omega)]
      simp only[rowT,wk,go_sem]
     .by_cases e:i=k
      .simp only[if_neg d,if_pos e,if_pos (show i<k+1 by omega)]
       subst e;simp only[rowT,c,go_sem,zA];refine yej fun q l=>?_;simp only[if_pos l];simp only[SimL,go_sem];exact⟨Sim.refl _,Sim.refl _⟩
      .simp only[if_neg d,if_neg e,if_neg (show ¬i<k+1 by omega)]
       simp only[wk,go_sem]
  .obtain rfl:k=n:=by omega
   simp only[ycvt,go_sem,zA,zB];refine⟨fun q l=>by simp only[if_pos l];simp only[rowT,go_sem],?_⟩
   refine yej fun q l=>?_;simp only[if_pos l];simp only[SimL,ywn,rowT,c,go_sem]
end Sh
end
section
namespace Sh
open Go Ev
end Sh
end
section
namespace Sh
open Go Ev
theorem yjo(p:ProgR){g:Gr}(o:ybi g){D:Nat}{c:Conf}(n:ConfIn g.ports.length D c){v:Nat}(q:v<g.ports.length)(e:List Tm)(w:e.length<=1000):∀x:Ex,yceg p g D c v e x
 | .leaf r arg=>by
   intro j d at_ rest u m f t;obtain⟨d1,d2,d3⟩:=ygc (show e.drop at_=(r,arg)::rest from t)
   have F:=ycpi p o n q e u d m;have k:=u;simp only[Ex.ok,zF,decide_eq_true_eq]at k;simp only[ykx,yx]at F;refine Returns.of (yzj _ _ ?_);simp only[c205,ybcn,ybbz,ybcx,ybdf,ybck,ybbk,ybbq,ybci,ybcu,ybdi,ysn,ysk,ysm,ytm,ysz,ysu,ytz,yso,ysl,ykx,yx,d2,splice,go_sem,zA,zB,zD,zC,↓reduceIte,reduceCtorEq];refine⟨by omega,fun h=>F.use ?_,fun h=>by omega⟩
   simp only[ybj,go_sem,zA,zB,↓reduceIte,reduceCtorEq];refine⟨ikw (by omega) (by omega),?_⟩
   exact Sim.refl _
 | .un r a=>by
   intro j d at_ rest u m f t;obtain⟨d1,d2,d3⟩:=ygc (show e.drop at_=(r,0)::(a.ser++rest)from t)
   have k:=u;simp only[Ex.ok,zF,decide_eq_true_eq]at k;have B:=yjo p o n q e w a j d (at_+1) rest k.2 m f d3;rw[show((at_+1:Nat):Int)=(at_:Int)+1 by omega]at B
   have H:=ycec r (ydp g c v a d) (yjt o rfl n q a k.2 m f);simp only[ykx,yx]at B;refine Returns.of (yzj _ _ ?_);simp only[c205,ybcn,ybbz,ybcx,ybdf,ybck,ybbk,ybbq,ybci,ybcu,ybdi,ysn,ysk,ysm,ytm,ysz,ysu,ytz,yso,ysl,ykx,yx,d2,splice,go_sem,zA,zB,zD,zC,↓reduceIte,reduceCtorEq];refine⟨by omega,fun h=>by omega,fun h=>⟨fun h=>⟨ikw (by omega) (by omega),B.use ?_⟩,fun h=>by omega⟩⟩
   simp only[ybj,go_sem,zA,zB,zD,↓reduceIte,reduceCtorEq];refine H.use ?_;simp only[go_sem];rw[show at_+(Ex.un r a).ser.length=at_+1+a.ser.length by simp[Ex.ser];omega]
   exact Sim.refl _
 | .agg r a=>by
   intro j d at_ rest u m f t;obtain⟨d1,d2,d3⟩:=ygc (show e.drop at_=(r,0)::(a.ser++rest)from t)
   have k:=u;simp only[Ex.ok,zF,decide_eq_true_eq]at k;have C:(Ex.agg r a).ok D true=true:=by simp only[Ex.ok,zF,decide_eq_true_eq];exact k
   have E:=ybek p o n q e w C (yjo p o n q e w a) at_ rest t;simp only[ykx,yx]at E;refine Returns.of (yzj _ _ ?_);simp only[c205,ybcn,ybbz,ybcx,ybdf,ybck,ybbk,ybbq,ybci,ybcu,ybdi,ysn,ysk,ysm,ytm,ysz,ysu,ytz,yso,ysl,ykx,yx,d2,splice,go_sem,zA,zB,zD,zC,↓reduceIte,reduceCtorEq];refine⟨by omega,fun h=>by omega,fun h=>⟨fun h=>by omega,fun h=>⟨fun h=>E.use ?_,fun h=>by omega⟩⟩⟩
   simp only[ybj,go_sem,zA,zB,↓reduceIte,reduceCtorEq];exact Sim.refl _
 | .bin r a b=>by
   intro j d at_ rest u m f t;obtain⟨d1,d2,d3⟩:=ygc (show e.drop at_=(r,0)::((a.ser++b.ser)++rest)from t)
   have k:=u;simp only[Ex.ok,zF,decide_eq_true_eq]at k;rw[zBF]at d3
   have z:at_+1+a.ser.length<=e.length:=by
    have:=congrArg zAZ d3;simp at this;omega
   have l:=yjo p o n q e w a j d (at_+1) _ k.1.2 m f d3;have s:=yjo p o n q e w b j d (at_+1+a.ser.length) _ k.2 m f (ywd d3);rw[show((at_+1:Nat):Int)=(at_:Int)+1 by omega]at l
   have G:=ybyh r (ydp g c v a d) (ydp g c v b d) (yjt o rfl n q a k.1.2 m f) (yjt o rfl n q b k.2 m f);simp only[ykx,yx]at l s;refine Returns.of (yzj _ _ ?_);simp only[c205,ybcn,ybbz,ybcx,ybdf,ybck,ybbk,ybbq,ybci,ybcu,ybdi,ysn,ysk,ysm,ytm,ysz,ysu,ytz,yso,ysl,ykx,yx,d2,splice,go_sem,zA,zB,zD,zC,↓reduceIte,reduceCtorEq];refine⟨by omega,fun h=>by omega,fun h=>⟨fun h=>by omega,fun h=>⟨fun h=>by omega,fun h=>⟨fun h=>⟨ikw (by omega) (by omega),l.use ?_⟩,fun h=>by omega⟩⟩⟩⟩
   simp only[ybj,go_sem,zA,zB,↓reduceIte,reduceCtorEq];refine s.use ?_;simp only[go_sem,zA,zB,zD,↓reduceIte];refine G.use ?_;simp only[go_sem];rw[show at_+(Ex.bin r a b).ser.length=at_+1+a.ser.length+b.ser.length by simp[Ex.ser];omega]
   exact Sim.refl _
 | .ite x a b=>by
   intro j d at_ rest u m f t;obtain⟨d1,d2,d3⟩:=ygc (show e.drop at_=(43,0)::((x.ser++(a.ser++b.ser))++rest)from t)
   have k:=u;simp only[Ex.ok,zF]at k;rw[zBF,zBF]at d3
   have z:at_+1+x.ser.length+a.ser.length<=e.length:=by
    have:=congrArg zAZ d3;simp at this;omega
   have l:=yjo p o n q e w x j d (at_+1) _ k.1.1 m f d3;have s:=yjo p o n q e w a j d (at_+1+x.ser.length) _ k.1.2 m f (ywd d3);have y:=yjo p o n q e w b j d (at_+1+x.ser.length+a.ser.length) _ k.2 m f (ywd (ywd d3));rw[show((at_+1:Nat):Int)=(at_:Int)+1 by omega]at l
   simp only[ykx,yx]at l s y;refine Returns.of (yzj _ _ ?_);simp only[c205,ybcn,ybbz,ybcx,ybdf,ybck,ybbk,ybbq,ybci,ybcu,ybdi,ysn,ysk,ysm,ytm,ysz,ysu,ytz,yso,ysl,ykx,yx,d2,splice,go_sem,zA,zB,zD,zC,↓reduceIte,reduceCtorEq];refine⟨by omega,fun h=>by omega,fun h=>⟨fun h=>by omega,fun h=>⟨fun h=>by omega,fun h=>⟨fun h=>by omega,fun h=>⟨ikw (by omega) (by omega),l.use ?_⟩⟩⟩⟩⟩
   simp only[ybj,go_sem,zA,zB,↓reduceIte,reduceCtorEq];refine s.use ?_;simp only[go_sem,zA,↓reduceIte,reduceCtorEq];refine y.use ?_;simp only[go_sem,zA,zB,↓reduceIte,reduceCtorEq];rw[show at_+(Ex.ite x a b).ser.length=at_+1+x.ser.length+a.ser.length+b.ser.length by simp[Ex.ser];omega]
   refine⟨fun A=>?_,fun A=>?_⟩
   .show Sim _ (.tp [.i .i64 (if _ then _ else _),_])
    rw[if_pos A];exact Sim.refl _
   .show Sim _ (.tp [.i .i64 (if _ then _ else _),_])
    rw[if_neg (not_not_intro A)];exact Sim.refl _
theorem ybie(p:ProgR){g:Gr}(e:ybi g){b:Nat}{c:Conf}(d:ConfIn g.ports.length b c){v:Nat}(h:v<g.ports.length)(x:Ex)(j:x.ok b false=true)(f:x.ser.length<=1000) :
 Returns zG 169 [.rf (yhj p g),ydi c,.i .i64 v,yx x.ser] (.i .i64 (ydp g c v x (-1))):=by
 have a:=yjo p e d h x.ser f x false (-1) 0 [] j (fun q=>by cases q) (by unfold InB;omega) (by simp)
 refine Returns.of (yduh _ _ ?_);simp only[ykx,yhj,ydi,ybb,yx,yg,yeq,zBH]at a;simp only[c169,yded,ydes,ydfm,ycvf,yhj,ydi,ybb,yx,yg,yeq,splice,go_sem,zA,zB,zD,zC,↓reduceIte,reduceCtorEq];refine .inl (a.use ?_);simp only[ybj,ycj,go_sem,zA,zB,↓reduceIte,reduceCtorEq]
end Sh
end
section
theorem yjl{a:Nat}(h:a<2^32):IntKind.wrap .u32 (a:Int)=a:=by
 unfold IntKind.wrap;simp[IntKind.bits,IntKind.signed];omega
theorem u32_and{a b:Nat}(c:a<2^32)(d:b<2^32):IntKind.wrap .u32 (((zO (IntKind.bits .u32) (a:Int))&&&zO (IntKind.bits .u32) (b:Int)).toNat:Int)=((a&&&b:Nat):Int):=by
 show IntKind.wrap .u32 (((zO 32 (a:Int))&&&zO 32 (b:Int)).toNat:Int)=_;rw[zAC,zAC,BitVec.toNat_and,zAN,zAN,zAQ c,zAQ d];exact yjl (zBA zCD c)
theorem u32_or{a b:Nat}(c:a<2^32)(d:b<2^32):IntKind.wrap .u32 (((zO (IntKind.bits .u32) (a:Int))|||zO (IntKind.bits .u32) (b:Int)).toNat:Int)=((a|||b:Nat):Int):=by
 show IntKind.wrap .u32 (((zO 32 (a:Int))|||zO 32 (b:Int)).toNat:Int)=_;rw[zAC,zAC,BitVec.toNat_or,zAN,zAN,zAQ c,zAQ d];exact yjl (zBV c d)
theorem u32_andNot{a b:Nat}(c:a<2^32)(f:b<2^32):IntKind.wrap .u32 (((zO (IntKind.bits .u32) (a:Int)) &&& ~~~zO (IntKind.bits .u32) (b:Int)).toNat:Int)=((difB a b:Nat):Int):=by
 show IntKind.wrap .u32 (((zO 32 (a:Int)) &&& ~~~zO 32 (b:Int)).toNat:Int)=_
 have e:((zO 32 (a:Int)) &&& ~~~zO 32 (b:Int)).toNat=difB a b:=by
  rw[zAC,zAC];refine zBP fun i=>?_;rw[ynv,BitVec.testBit_toNat,BitVec.getLsbD_and,BitVec.getLsbD_not,zBQ,zBQ]
  by_cases d:i<32
  .simp[d]
  .rw[zAF (zAA c (zAB (by omega) (by omega)))]
   simp
 rw[e];exact yjl (yty c)
theorem u32_neg{a:Nat}(b:0<a)(c:a<2^32):IntKind.wrap .u32 (0-(a:Int))=((2^32-a:Nat):Int):=by
 unfold IntKind.wrap;simp[IntKind.bits,IntKind.signed];omega
theorem yww{v:Nat}(a:v<32):IntKind.wrap .u32 (1*2^(v:Int).toNat)=((2^v:Nat):Int):=by
 have h:2^v<2^32:=zAH (by omega) a
 have:=yjl h;rw[zQ,Int.one_mul];rw[<-this]
 norm_cast
theorem ydua{a v:Nat}:(a:Int).fdiv (2^(v:Int).toNat)=((a>>>v:Nat):Int):=by
 rw[zQ,zAM];rw[Int.fdiv_eq_ediv_of_nonneg _ (Int.pow_nonneg (by omega))]
 simp
end
section
namespace Sh
open Go Ev
def yki(p:ProgR)(g:Gr):List SV:=[.a (.string p.name),yfq p.vars,ydo p.rules,.rf (yhj p g),ybby g.ids.length p.vars (ybk g)]
theorem ybgz(p:ProgR){g:Gr}(c:ybi g)(e:p.vars.all VarR.ok=true)(d:p.vars.length<=6):Returns zG 123 [.ag (ypj p),grV g] (.rf (yki p g)):=by
 refine Returns.of (ydmn _ _ ?_);have a:=ybio p c;have b:=ybgy p c e d;simp only[ypj,grV]at a b;simp only[c123,yddo,ycvq,ypj,grV,go_sem,zA,zB,zC];refine a.use ?_;simp only[ybj,go_sem,zA,zB,zD,zC];refine b.use ?_;simp only[ybby,yki,go_sem,zA,zB,zD];refine⟨by decide,by decide,Sim.refl _⟩
theorem ycna(p:ProgT){g:Gr}(m:ybi g)(h:p.ok=true){c:Conf}(l:ConfIn g.ports.length p.vars.length c){v:Nat}(n:v<g.ports.length){r:Nat}(k:r<p.rules.length) :
 Returns zG 168 [.rf (yhj p.raw g),ydi c,.i .i64 v,.i .i64 r] (.b (yly g c v (p.rules.getD r default))):=by
 refine Returns.of (ydsj _ _ ?_);obtain⟨R,f⟩:∃R,p.rules.getD r default=R:=⟨_,rfl⟩
 have a:R.ok p.vars.length=true:=by
  unfold ProgT.ok at h;simp only[zF]at h;rw[<-f,getD_at k];exact List.all_eq_true.1 h.2 _ (zH _)
 unfold RuleT.ok at a;simp only[zF,decide_eq_true_eq]at a;have j:=ybie p.raw m l n R.guard a.1.1.1 a.1.1.2
 have e:p.raw.rules.getD r default=R.raw:=by
  rw[<-f];simp[ProgT.raw,zK,k]
 have d:p.raw.rules.length=p.rules.length:=by simp[ProgT.raw]
 simp only[yhj,ydo,d]at j;rw[f];simp only[c168,ydbq,ycwk,yhj,ydo,e,d,go_sem,zA,zB,zD];refine⟨by omega,j.use ?_⟩
 simp only[ybj,ybat,yly,go_sem,zA,zB]
theorem ydys{p:ProgT}{g:Gr}{c:Conf}{v k:Nat}(hk:k<p.rules.length)(a:(p.rules.take k).findIdx? (yly g c v)=none)(h:yly g c v (p.rules.getD k default)=true):yeu p g c v=k:=by
 unfold yeu
 have:p.rules.findIdx? (yly g c v)=some k:=by
  rw[List.findIdx?_eq_some_iff_getElem];refine⟨hk,by rwa [getD_at hk]at h,fun j b=>?_⟩
  rw[List.findIdx?_eq_none_iff]at a;have:=a p.rules[j] (List.mem_take_iff_getElem.2 ⟨j,by omega,rfl⟩)
  simpa using this
 rw[this]
theorem ybva{p:ProgT}{g:Gr}{c:Conf}{v:Nat}(a:(p.rules.take p.rules.length).findIdx? (yly g c v)=none):yeu p g c v = -1:=by
 unfold yeu;rw[zY]at a;rw[a]
theorem ycpm(p:ProgT)(g:Gr)(c:Conf)(v:Nat):-1<=yeu p g c v/\yeu p g c v<p.rules.length:=by
 unfold yeu;split
 .rename_i i a
  obtain⟨h,_⟩:=List.findIdx?_eq_some_iff_getElem.1 a;omega
 .omega
theorem ycpp(p:ProgT){g:Gr}(l:ybi g)(d:p.ok=true){c:Conf}(j:ConfIn g.ports.length p.vars.length c){v:Nat}(m:v<g.ports.length) :
 Returns zG 126 [.rf (yki p.raw g),ydi c,.i .i64 v] (.i .i64 (yeu p g c v)):=by
 refine Returns.of (ydmy _ _ ?_);have b:p.raw.rules.length=p.rules.length:=by simp[ProgT.raw]
 have f:p.rules.length<=12:=by
  unfold ProgT.ok at d;simp only[zF,decide_eq_true_eq]at d;exact d.1.2
 simp only[c126,ycyy,ydee,yki,ydo,b,go_sem,zA,zB,zD];refine ybe (σ:=Nat) (fun k=>⟨[(14,.i .i64 k),(13,.i .i64 p.rules.length),(0,.rf (yki p.raw g)),(1,ydi c),(2,.i .i64 v)],[]⟩) (fun k=>k<=p.rules.length/\(p.rules.take k).findIdx? (yly g c v)=none) (fun k=>p.rules.length-k) 0 ⟨zT _,by simp⟩ ?_ ?_
 .refine yj ?_;simp only[yki,ydo,b,wk,go_sem,zA]
 .intro k ⟨hk,hno⟩;simp only[ydao,ydje,ydfo,ydhk,ydci,ydgg,yki,ycj,go_sem,zA,zB,zD];refine⟨fun e=>?_,fun e=>?_⟩
  .have a:k<p.rules.length:=by omega
   refine(ycna p l d j m a).use ?_;simp only[ybj,ycj,go_sem,zA,zB];refine⟨fun h=>by rw[ydys a hno h],fun h=>⟨ikw (by omega) (by omega),?_⟩⟩
   refine yu (k+1) ⟨by omega,?_⟩ (by omega) ?_
   .rw[zI a,List.findIdx?_append,hno];rw[getD_at a]at h;simp[h]
   .refine yj ?_;simp only[wk,go_sem,zA];simp
  .obtain rfl:k=p.rules.length:=by omega
   rw[ybva hno]
theorem yuk(p:ProgT)(g:Gr)(c:Conf)(v:Nat):∀(sets:List (Int×Ex)) (b:List Int),(yvu p g c v b sets).length=b.length
 |[],_=>rfl
 | a::sets,b=>by
   show(yvu p g c v (b.set _ _) sets).length=_;rw[yuk p g c v sets];simp
theorem ybwt(p:ProgT)(g:Gr)(c:Conf)(v:Nat)(a:List Int)(sets:List (Int×Ex))(k:Nat)(h:k<sets.length) :
 yvu p g c v a (sets.take (k+1))=(yvu p g c v a (sets.take k)).set (sets.getD k default).1.toNat (yhd (p.vars.getD (sets.getD k default).1.toNat default).kind (ybk g v (p.vars.getD (sets.getD k default).1.toNat default)) (ydp g c v (sets.getD k default).2 (-1))):=by
 unfold yvu;rw[zI h,zV,getD_at h];rfl
theorem yqh(p:ProgT)(g:Gr)(c:Conf)(s:Nat){v:Nat}(a:v<c.length):(yds p g c s).getD v []=if s.testBit v then ykq p g c v (yeu p g c v).toNat else c.getD v []:=by
 unfold yds;simp[zK,a]
theorem ymn(p:ProgT)(g:Gr)(c:Conf)(s:Nat):(yds p g c s).length=c.length:=by simp[yds]
end Sh
end
section
namespace Sh
open Go Ev
def ybjt(p:ProgT)(g:Gr):Bool:=p.vars.all fun x=>decide (x.kind=1)==false||(decide ((ybk g 0 x).1<=(ybk g 0 x).2)&&decide ((ybk g 0 x).2-(ybk g 0 x).1+1<=4096))
def yfz(b c:(Nat->Option ABlk)->Value->Prop)(p:ProgR):List SV:=[.a (.string p.name),.ex b (yfq p.vars),.ex c (ydo p.rules)]
theorem ybkx(a b:(Nat->Option ABlk)->Value->Prop)(p:ProgR):Sim (.ag (yfz a b p)) (.ag (ypj p)):=ybsc ⟨Sim.refl _,ybhr _ _,ybhr _ _,trivial⟩
theorem ybdj{q t:(Nat->Option ABlk)->Value->Prop}(p:ProgT){g:Gr}(r:ybi g)(G:p.ok=true)(D:ybjt p g=true)(y:Returns zG 130 [.ag (yfz q t p.raw)] (.b true))(w:Returns zG 131 [grV g] (.b true)) :
 Returns zG 62 [.ag (yfz q t p.raw),grV g] (.i .i64 0):=by
 refine Returns.of (yejo _ _ ?_);have j:=G;unfold ProgT.ok at j;simp only[zF,decide_eq_true_eq]at j;have l:p.raw.vars=p.vars:=rfl;simp only[yfz,grV]at y w;simp only[c62,yeev,yegd,yedh,yegk,yegj,yeby,yfz,grV,go_sem,zA,zB,zC];refine y.use ?_;simp only[ybj,go_sem,zA,zB];refine w.use ?_;simp only[yfq,l,go_sem,zA,zB,zD]
 have n:∀k,k<p.vars.length->(p.vars.getD k default).ok=true/\((p.vars.getD k default).kind=1->(ybk g 0 (p.vars.getD k default)).1<=(ybk g 0 (p.vars.getD k default)).2/\(ybk g 0 (p.vars.getD k default)).2-(ybk g 0 (p.vars.getD k default)).1+1<=4096):=fun k hk=>by
  rw[getD_at hk];refine⟨List.all_eq_true.1 j.1.1.2 _ (zH _),fun m=>?_⟩;have:=List.all_eq_true.1 D _ (zH hk)
  simpa[m]using this
 refine ybe (σ:=Nat) (fun k=>⟨[(18,.i .i64 k),(17,.i .i64 p.vars.length),(16,.ex q (yfq p.vars)),(3,.pt (3,0) 0 0)],[(3,.one (some ⟨27,true,2,1,fun _=>[ybb g.ids,yg g.ports]⟩))]⟩) (fun k=>k<=p.vars.length) (fun k=>p.vars.length-k) 0 (zT _) ?_ ?_
 .refine yj ?_;simp only[yfq,wk,go_sem,zA,zC]
 .intro k hk;obtain⟨x,A⟩:∃x,p.vars.getD k default=x:=⟨_,rfl⟩;simp only[yeam,yeef,yejk,yeci,ydcv,ydhe,ydap,ydel,yfq,varC,splice,ycj,A,go_sem,zA,zB,zD,zC];intro F;have s:k<p.vars.length:=by omega
  obtain⟨d,o⟩:=n k s;rw[A]at d o;have u:=ybbj r d (v:=0) (by have:=r.1;omega)
  simp only[varC,grV,zBH]at u;obtain⟨B,C⟩:=yzy r d;have H:=ybuz d;refine⟨by omega,fun m=>⟨ikw (by omega) (by omega),?_⟩,fun m=>u.use ?_⟩
  .refine ybv (k+1) ?_;refine yj ?_;simp only[wk,go_sem,zA,zC];omega
  .obtain⟨f,h⟩:=o m;obtain⟨I,a⟩:∃b,(ybk g 0 x).1=b:=⟨_,rfl⟩;obtain⟨J,c⟩:∃b,(ybk g 0 x).2=b:=⟨_,rfl⟩;have e:ybk g 0 x=(x.lo,x.hi+x.perNode*(g.ids.length:Int)+x.perID*maxI g.ids):=by unfold ybk;rw[if_pos m]
   rw[e]at a c;simp only[]at a c;simp only[e]at f h;rw[e];simp only[ybj,ycj,go_sem,zA,zB];simp only[a,c]at f h ⊢;refine⟨fun _=>⟨ikw (by omega) (by omega),ikw (by omega) (by omega),fun E=>absurd h (by omega),fun _=>⟨ikw (by omega) (by omega),?_⟩⟩,fun z=>absurd f (by omega)⟩
   refine ybv (k+1) ?_;refine yj ?_;simp only[wk,go_sem,zA,zC];omega
end Sh
end
section
namespace Sh
open Go Ev Go.RowKit
theorem ycfs{g:Gr}(a:ybi g){x:VarR}(b:x.ok=true)(v:Nat):-4096<=(ybk g v x).1/\(ybk g v x).2<=100000:=by
 obtain⟨c,d,e,f,h⟩:=ybuz b;obtain⟨i,j⟩:=yzy a b;have k:=a.deg_lt (v:=v);unfold ybk;split
 .exact⟨by simp only[];omega,by simp only[];omega⟩
 .split
  .exact⟨by simp only[];omega,by simp only[];omega⟩
  .split
   .exact⟨by simp only[];omega,by simp only[];omega⟩
   .exact⟨by simp only[];omega,by simp only[];omega⟩
theorem ybue{p:ProgT}{g:Gr}(e:ybi g)(l:p.ok=true){c:Conf}(f:yfe p g c=true):ConfIn g.ports.length p.vars.length c:=by
 have h:=(ygh _ _ _).1 f;have a:=l;unfold ProgT.ok at a;simp only[zF,decide_eq_true_eq]at a;refine⟨h.1.trans e.2.2.1,fun s m=>?_⟩;obtain⟨v,n,rfl⟩:=zAD m;have d:=h.2 v _ (zL n);have k:(c[v]).length=p.vars.length:=by have:=d.1;simpa using this
 refine⟨k,fun x o=>?_⟩;obtain⟨i,j,rfl⟩:=zAD o;have b:i<p.vars.length:=by omega
 have q:=d.2 i (ybk g v p.vars[i]) _ (by simp[b]) (zL j)
 have r:=ycfs e (List.all_eq_true.1 a.1.1.2 _ (zH b)) v;unfold InB;omega
structure Checked(Q1 Q2:(Nat->Option ABlk)->Value->Prop)(p:ProgT)(g:Gr):Prop where
 hg:ybi g
 hp:p.ok=true
 hf:ybjt p g=true
 hV:Returns zG 130 [.ag (yfz Q1 Q2 p.raw)] (.b true)
theorem Checked.gv{Q1 Q2:(Nat->Option ABlk)->Value->Prop}{p:ProgT}{g:Gr}(h:Checked Q1 Q2 p g):Returns zG 131 [grV g] (.b true):=by
 have e:=ybcf (ydqk h.hg);rw[(ygu g).2 h.hg]at e;exact e
section
variable {Q1 Q2:(Nat->Option ABlk)->Value->Prop}{p:ProgT}{g:Gr}
theorem ybxo(k:Int):Returns zG 57 [.i .i64 k] (.b (decide (1<=k)&&decide (k<=4))):=by
 refine Returns.of (yeeb _ _ ?_);simp only[c57,yefw,yefp,ybat,go_sem,zA,zB]
 by_cases h:k>=1<;>simp[h]
end
end Sh
end
section
theorem ysc(s a:Nat):∀b,yhs s (a+b)=yhs s a+yhs (s>>>a) b
 |0=>rfl
 | b+1=>by
   show yhs s (a+b)+(s.testBit (a+b)).toNat=_;rw[ysc s a b];show _=yhs s a+(yhs (s>>>a) b+((s>>>a).testBit b).toNat);rw[Nat.testBit_shiftRight];omega
theorem ytl(s:Nat):∀b,b<=8->yhs (s&&&255) b=yhs s b
 |0,_=>rfl
 | b+1,h=>by
   show yhs _ b+_=yhs s b+_;rw[ytl s b (by omega),zBJ,show(255:Nat)=2^8-1 from rfl,zBB]
   simp[show b<8 by omega]
theorem ybyd(s:Nat):popP s=yhs (s>>>24&&&255) 8+yhs (s>>>16&&&255) 8+yhs (s>>>8&&&255) 8+yhs (s&&&255) 8:=by
 simp only[ytl _ 8 (zM _)];have a:=ysc s 8 24;have b:=ysc (s>>>8) 8 16;have c:=ysc (s>>>8>>>8) 8 8;simp only[<-Nat.shiftRight_add,zB]at a b c;unfold popP;omega
namespace Sh
open Ev Go.RowKit
theorem ybec:∀k,k<256->ybbt.getD k 0=yhs k 8:=by decide
theorem ydsw:ybbt.length=256:=by decide
theorem yceq(a v:Nat):(a:Int).fdiv (2^v)=((a>>>v:Nat):Int):=by
 have h:=ydua (a:=a) (v:=v)
 rwa [zQ]at h
theorem ydbp{a:Nat}(c:a<2^32):IntKind.wrap .u32 (((zO (IntKind.bits .u32) (a:Int))&&&zO (IntKind.bits .u32) 255).toNat:Int)=((a&&&255:Nat):Int):=u32_and (b:=255) c (by decide)
theorem ydxl{a n:Nat}(h:a<2^32):a>>>n<2^32:=by rw[zAM];exact zBA (Nat.div_le_self _ _) h
theorem ybfh{s:Nat}(d:s<2^32):Returns zG 113 [.i .u32 s] (.i .i64 (popP s)):=by
 refine Returns.of (ydui _ _ ?_);simp only[c113,ycyt,ydks,clash,go_sem,zBK,zA,zB];have f1:=ydbp d;have f2:=fun n=>ydbp (ydxl (n:=n) d);simp only[IntKind.bits]at f1 f2;simp only[yceq,f1,f2,zQ,ydsw];have c:=ybyd s;have g:s>>>24<256:=by rw[zAM];omega
 have b:∀x:Nat,x&&&255<256:=fun x=>zBA Nat.and_le_right (by omega)
 rw[ytl (s>>>24) 8 (zM _)]at c;rw[ybec _ g,ybec _ (b (s>>>16)),ybec _ (b (s>>>8)),ybec _ (b s)];have h:=yoc (s>>>24) 8;have j:=yoc (s>>>16&&&255) 8;have k:=yoc (s>>>8&&&255) 8;have l:=yoc (s&&&255) 8;have m:=b (s>>>16);have o:=b (s>>>8);have p:=b s;have a:∀x:Int,0<=x->x<=255->inK .u8 x:=fun x e f=>⟨by simpa[IntKind.min,IntKind.signed]using e,by simpa[IntKind.max,IntKind.bits,IntKind.signed]using f⟩
 refine⟨⟨by omega,by decide⟩,⟨by omega,by omega⟩,⟨by omega,by decide⟩,by omega,a _ (by omega) (by omega),⟨by omega,by decide⟩,by omega,a _ (by omega) (by omega),by omega,a _ (by omega) (by omega),?_⟩
 rw[wrap_in (ikw (by omega) (by omega)),c]
 exact Sim.refl _
def cntV(k:Cnt):List SV:=[.i .i64 k.steps,.i .i64 k.moves,.i .i64 k.rounds,.i .i64 k.begun,.i .u32 k.pend]
def usV(l:List Nat):SV:=.sl 1 l.length (fun k=>[.i .u32 ((l.getD k 0:Nat):Int)])
end Sh
end
section
def netP(ls:List (Int×Int)):Nat:=ls.foldl (fun a l=>a|||2^l.1.toNat) 0
theorem ycdy(ls:List (Int×Int))(k:Nat)(h:k<ls.length):netP (ls.take (k+1))=netP (ls.take k)|||2^(ls.getD k (0,0)).1.toNat:=by
 unfold netP;rw[zI h,zV,Sh.getD_at h];rfl
theorem ydut(ls:List (Int×Int))(h:∀l∈ls,l.1<24):netP ls<2^24:=by
 unfold netP
 have:∀(ls:List (Int×Int)) (a:Nat),(∀l∈ls,l.1<24)->a<2^24->ls.foldl (fun a l=>a|||2^l.1.toNat) a<2^24:=by
  intro ls
  induction ls with
  |nil=>intro a _ h;exact h
  | cons l ls e =>
    intro a b c;refine e _ (fun x d=>b x (zJ _ d)) (zBV c ?_);have:=b l zN;exact zAH (by omega) (by omega)
 exact this ls 0 h (by decide)
namespace Sh
open Ev Go.RowKit
theorem u32k{a:Nat}(h:a<2^32):inK .u32 (a:Int):=⟨by simp[IntKind.min,IntKind.signed],by simp[IntKind.max,IntKind.bits,IntKind.signed];omega⟩
theorem ydpw{g:Gr}(b:ybi g):Returns zG 149 [grV g] (.i .u32 (2^g.ids.length-1:Nat)):=by
 refine Returns.of (ydpf _ _ ?_);have d:=b.2.2.1;have e:=b.2.1;simp only[c149,ycxr,ydkn,grV,ybb,go_sem,zA,zB,zD,zC];have a:=yww (v:=g.ids.length) (by omega)
 rw[zQ]at a;have f:2^g.ids.length<2^32:=zAH (by omega) (by omega)
 have h:1<=2^g.ids.length:=Nat.one_le_two_pow;have c:(((2^g.ids.length:Nat):Int))-1=((2^g.ids.length-1:Nat):Int):=by omega
 rw[a,c];refine⟨⟨by omega,by show _<((32:Nat):Int);omega⟩,u32k (by omega),Sim.refl _⟩
theorem ybvj{g:Gr}(z:ybi g):Returns zG 124 [grV g] (usV (g.ports.map netP)):=by
 refine Returns.of (yduk _ _ ?_);have M:=z.2.2.1;have N:=z.2.1;simp only[c124,ydii,ydaa,ycwb,grV,ybb,yg,go_sem,zA,zB,zC];refine⟨by omega,?_⟩
 obtain⟨n,s⟩:∃n,g.ports.length=n:=⟨_,rfl⟩
 let val:Nat->Nat->Nat:=fun k i=>if i<k then netP (g.ports.getD i [])else 0
 refine ybe (σ:=Nat) (fun k=>⟨[(15,.i .i64 k),(14,.i .i64 n),(13,yg g.ports),(3,.os (11,0) 0 n true)],
  [(11,.one (some ⟨77,false,1,n,fun i=>[.i .u32 (val k i:Nat)]⟩))]⟩) (fun k=>k<=n) (fun k=>n-k) 0 (zT _) ?_ ?_
 .refine yj ?_;simp only[yg,s,wk,go_sem,zA,zC];simp[val]
 .intro k hk;obtain⟨L,y⟩:∃L,g.ports.getD k []=L:=⟨_,rfl⟩;simp only[ycwl,ydki,ycwx,yg,yx,s,y,go_sem,zA,zB];refine⟨fun E=>?_,fun E=>?_⟩
  .have I:k<n:=by omega
   have p:k<g.ports.length:=by omega
   have r:∀l∈L,0<=l.1/\l.1<24:=fun l d=>by
    rw[<-y,getD_at p]at d;obtain⟨H,K,_⟩:=(z.2.2.2.2.2.1 ⟨k,p⟩).1 l d;exact⟨H,by omega⟩
   have h:=z.deg_lt (v:=k);rw[y]at h;refine⟨by omega,?_⟩
   obtain⟨m,B⟩:∃m,L.length=m:=⟨_,rfl⟩;rw[B]
   let c:Nat->Nat->Nat:=fun j i=>if i<k then netP (g.ports.getD i [])else if i=k then netP (L.take j)else 0
   refine ybe (σ:=Nat) (fun j=>⟨[(22,.i .i64 j),(21,.i .i64 m),(20,yx L),(4,.i .i64 k),(15,.i .i64 k),(14,.i .i64 n),(13,yg g.ports),(3,.os (11,0) 0 n true)],
    [(11,.one (some ⟨77,false,1,n,fun i=>[.i .u32 (c j i:Nat)]⟩))]⟩) (fun j=>j<=m) (fun j=>m-j) 0 (zT _) ?_ ?_
   .refine yj ?_;simp only[yg,yx,s,B,wk,go_sem,zA,zC];intro i A;simp only[val,c]
    by_cases q:i<k
    .rw[if_pos q,if_pos q]
    .rw[if_neg q,if_neg q]
     by_cases e:i=k
     .rw[if_pos e];rfl
     .rw[if_neg e]
   .intro j O;obtain⟨l,d⟩:∃l,L.getD j (0,0)=l:=⟨_,rfl⟩;simp only[ydde,ycyi,yg,yx,s,B,d,go_sem,zA,zB,zC];refine⟨fun D=>⟨by omega,?_⟩,fun D=>?_⟩
    .have o:j<L.length:=by omega
     have J:=r l (by rw[<-d,getD_at o];exact zH _)
     obtain⟨t,F⟩:∃t:Nat,l.1=t:=⟨l.1.toNat,by omega⟩
     have f:t<24:=by omega
     have G:c j k<2^24:=by
      simp only[c,if_neg (zBE k),if_true];exact ydut _ fun l d=>(r l (List.mem_of_mem_take d)).2
     have P:2^t<2^24:=zAH (by omega) f
     have w:=yww (v:=t) (by omega)
     have u:=u32_or (a:=c j k) (b:=2^t) (by omega) (by omega)
     rw[zQ]at w;simp only[IntKind.bits]at u;simp only[ydbz,F,clash,w,u,go_sem,zA,zB,zD];refine⟨by omega,by omega,⟨by omega,by show _<((32:Nat):Int);omega⟩,by omega,by omega,by decide,?_⟩
     simp only[ycxu,go_sem,zA,zB];refine⟨ikw (by omega) (by omega),?_⟩
     refine ybv (j+1) ?_;refine yj ?_;simp only[wk,go_sem,zA,zC];refine⟨by omega,fun i A=>?_⟩
     have x:=ycdy L j o;rw[d,F,zQ]at x
     by_cases q:i=k
     .simp only[if_pos q];subst q;simp only[go_sem,wk,go_sem];simp only[c,if_neg (zBE i),if_true,x]
     .simp only[if_neg q];simp only[go_sem,wk,go_sem];simp only[c,if_neg q]
    .obtain rfl:j=m:=by omega
     simp only[yclv,go_sem,zA,zB];refine⟨ikw (by omega) (by omega),?_⟩
     refine ybv (k+1) ?_;refine yj ?_;simp only[wk,go_sem,zA,zC];refine⟨by omega,fun i A=>?_⟩
     simp only[val,c]
     by_cases q:i<k
     .rw[if_pos q,if_pos (by omega)]
     .rw[if_neg q]
      by_cases e:i=k
      .rw[if_pos e,if_pos (by omega),e,y,<-B,zY]
      .rw[if_neg e,if_neg (by omega)]
  .obtain rfl:k=n:=by omega
   simp only[ycgz,go_sem,zA,zB];unfold usV;rw[zAG,s];refine ybln fun i A=>?_;have C:i<g.ports.length:=by omega
   simp only[val,if_pos A];simp[zK,C]
end Sh
end
section
namespace Sh
open Go Ev
def yeim:LO:=[mc 0 4 0]
def ydxz:LO:=[mv' 1 5 0,bc .lss 5 1 6 1]
def ydyz:LO:=[mc 0 4 0]
def ydzg:LO:=[mv' 0 7 0,mv' 1 8 0,bn' .rem 7 8 9 3,mv' 9 0 7]
def yebg:LO:=[mv' 0 10 0,bc .lss 10 0 11 1]
def ydwi:LO:=[mv' 0 12 0,mv' 1 13 0,bn' .add 12 13 14 3,mv' 14 0 7]
def ydzf:LO:=[mv' 0 15 0,mv' 15 4 1]
def c49:SC:=(sr yeim <| .seq (sr ydxz <| cn 6 (sr ydyz <| .ret) .skip) (sr ydzg <| .seq (sr yebg <| cn 11 (.reg false ydwi) .skip) (sr ydzf <| .ret)))
theorem ydwj:Fn 49 c49 [.t 4]:=fn_0 Tryz.func49
def ydvg:LO:=[mc 0 4 0]
def ydws:LO:=[mv' 1 5 0,mv' 0 6 0,ln' 6 7 2,bn' .lss 5 7 8 7]
def yegr:LO:=[mv' 0 9 0,mv' 1 10 0,ix' 1 9 10 11 3,ld' 1 11 12 7,mv' 12 4 15]
def yeit:LO:=[mc 0 4 0]
def c50:SC:=(sr ydvg <| .seq (sr ydws <| cn 8 (sr yegr <| .ret) .skip) (sr yeit <| .ret))
theorem ydyt:Fn 50 c50 [.t 4]:=fn_0 Tryz.func50
def ydkz:LO:=[bx' 27 0 3 0,mb false 6 0]
def ydkv:LO:=[mc 0 7 0]
def ycxm:LO:=[mv' 7 8 0,fa' 1 1 3 9 0,ld' 1 9 10 2,mv' 1 11 0,ix' 1 10 11 12 14,ld' 1 12 13 30,ln' 13 14 62,bn' .lss 8 14 15 127]
def ycwp:LO:=[fa' 1 1 3 18 0,ld' 1 18 19 1,mv' 1 20 0,ix' 1 19 20 21 7,ld' 1 21 22 15,mv' 7 23 0,ix' 2 22 23 24 63,fa' 0 1 24 25 127,ld' 1 25 26 255,mv' 2 27 0,bn' .eql 26 27 28 1023]
def ydbc:LO:=[mb true 6 0]
def yczl:LO:=[mv' 7 16 0,bc .add 16 1 17 1,mv' 17 7 3]
def ydjz:LO:=[mb false 6 0]
def c116:SC:=(sr ydkz <| .seq (sr ydkv <| .block 0 (.loop (.seq (sr ycxm <| cn 15 .skip (.exit 0)) (.seq (.block 1 (sr ycwp <| cn 28 (sr ydbc <| .ret) .skip)) (.reg false yczl))))) (sr ydjz <| .ret))
theorem ydma:Fn 116 c116 [.t 6]:=fn_0 Tryz.func116
def ydon:LO:=[bx' 24 0 5 0,bx' 27 1 6 0]
def ydni:LO:=[mv' 2 12 0,mv' 3 13 0,bn' .eql 12 13 14 3,mv' 14 15 7,gf (.load true 2 (.tmp 6)) 16 15 15,gf (.mv (.tmp 2)) 17 15 15,gf (.mv (.tmp 3)) 18 15 15,gf (.call (.func 116) [(.tmp 16),(.tmp 17),(.tmp 18)]) 19 15 127,pk' 15 19 20 255]
def ybxi:LO:=[mv' 3 21 0,mv' 4 22 0,o3 (.build [.i .i64 0,.i .i64 0] [(0,1,(.tmp 21)),(1,1,(.tmp 22))]) 23 3,mv' 2 24 0,mv' 4 25 0,o3 (.build [.i .i64 0,.i .i64 0] [(0,1,(.tmp 24)),(1,1,(.tmp 25))]) 26 24,o3 (.alloc 68 1 [.i .i64 0,.i .i64 0]) 10 0,o3 (.alloc 68 1 [.i .i64 0,.i .i64 0]) 11 0,sto 2 10 23 199,sto 2 11 26 511]
def ybyl:LO:=[fa' 5 1 5 27 0,ld' 1 27 28 1]
def ybzl:LO:=[fa' 1 1 6 29 0,ld' 1 29 30 1,mv' 2 31 0,la' 2 10 32 0,o3 (.bslice 68 2 1 [.i .i64 0,.i .i64 0] [(0,2,(.tmp 32))]) 33 8,fa' 1 1 6 34 0,ld' 1 34 35 32,mv' 2 36 0,ix' 1 35 36 37 224,ld' 1 37 38 480,o3 (.app 68 2 16 (.tmp 33) (.tmp 38)) 39 1016,ix' 1 30 31 40 2047,sto 1 40 39 4095]
def ycdr:LO:=[fa' 1 1 6 41 0,ld' 1 41 42 1,mv' 3 43 0,la' 2 11 44 0,o3 (.bslice 68 2 1 [.i .i64 0,.i .i64 0] [(0,2,(.tmp 44))]) 45 8,fa' 1 1 6 46 0,ld' 1 46 47 32,mv' 3 48 0,ix' 1 47 48 49 224,ld' 1 49 50 480,o3 (.app 68 2 16 (.tmp 45) (.tmp 50)) 51 1016,ix' 1 42 43 52 2047,sto 1 52 51 4095]
def yedj:LO:=[fa' 1 1 6 53 0,ld' 1 53 54 1,mv' 2 55 0,fa' 1 1 6 56 0,ld' 1 56 57 8,mv' 3 58 0,fa' 1 1 6 59 0,ld' 1 59 60 64,mv' 2 61 0,ix' 1 60 61 62 448,ld' 1 62 63 960,la' 2 10 64 0,o3 (.bslice 68 2 1 [.i .i64 0,.i .i64 0] [(0,2,(.tmp 64))]) 65 2048,o3 (.app 68 2 16 (.tmp 63) (.tmp 65)) 66 8128,fa' 1 1 6 67 0,ld' 1 67 68 16384,mv' 3 69 0,ix' 1 68 69 70 114688,ld' 1 70 71 245760,la' 2 11 72 0,o3 (.bslice 68 2 1 [.i .i64 0,.i .i64 0] [(0,2,(.tmp 72))]) 73 524288,o3 (.app 68 2 16 (.tmp 71) (.tmp 73)) 74 2097088,ix' 1 54 55 75 4194247,sto 1 75 66 8388551,ix' 1 57 58 76 16777215,sto 1 76 74 33554431]
def c48:SC:=(sr ydon <| .seq (sr ydni <| cn 20 .ret .skip) (sr ybxi <| .seq (sr ybyl <| cn 28 (.seq (.reg true ybzl) (.seq (.reg true ycdr) .ret)) .skip) (.reg true yedj)))
theorem ydnu:FnM 48 c48 []:=fn_m Tryz.func48
def yeda:LO:=[bx' 24 0 2 0,o3 (.alloc 27 1 [.a (.slice none 0 0),.a (.slice none 0 0)]) 4 0]
def yegb:LO:=[fa' 0 1 2 10 0,ld' 1 10 11 1,o3 (.wsub (.tmp 11) (ci' 1)) 12 3,mv' 1 13 0,cl' 49 [12,13] 14 15,o3 (.bin .add (ci' 1) (.tmp 14)) 15 31,mv' 15 5 63]
def ydvy:LO:=[mv' 5 16 0,o3 (.mk 135 1 24 [.a (.slice none 0 0)] (.tmp 16) (.tmp 16)) 17 1,o3 (.build [.a (.slice none 0 0),.a (.slice none 0 0)] [(1,1,(.tmp 17))]) 18 3,o3 (.alloc 27 1 [.a (.slice none 0 0),.a (.slice none 0 0)]) 6 0,sto 2 6 18 15]
def ydyd:LO:=[mc 0 7 0]
def yebo:LO:=[mv' 7 19 0,mv' 5 20 0,bn' .lss 19 20 21 3]
def yegw:LO:=[fa' 3 1 2 24 0,ld' 1 24 25 1,mv' 7 26 0,cl' 50 [25,26] 27 7,o3 (.call (.func 49) [(.tmp 27),(ci' 256)]) 28 15,mv' 28 8 31]
def ydwq:LO:=[mc 0 9 0]
def yeds:LO:=[mv' 9 29 0,mv' 7 30 0,bn' .lss 29 30 31 3]
def ydfj:LO:=[fa' 0 1 6 34 0,ld' 1 34 35 1,mv' 9 36 0,ix' 1 35 36 37 7,ld' 1 37 38 15,mv' 8 39 0,bn' .eql 38 39 40 63]
def ydec:LO:=[mv' 8 41 0,bc .add 41 1 42 1,bc .rem 42 256 43 3,mv' 43 8 7,mc (-1) 9 15]
def ydxh:LO:=[mv' 9 32 0,bc .add 32 1 33 1,mv' 33 9 3]
def ydjb:LO:=[fa' 0 1 6 44 0,ld' 1 44 45 1,mv' 8 46 0,o3 (.bslice 3 1 1 [.i .i64 0] [(0,1,(.tmp 46))]) 47 4,o3 (.app 3 1 8 (.tmp 45) (.tmp 47)) 48 15,fa' 0 1 6 49 31,sto 1 49 48 63]
def yegi:LO:=[mv' 7 22 0,bc .add 22 1 23 1,mv' 23 7 3]
def ydiy:LO:=[la' 2 6 50 0,sto 2 4 50 1]
def c47:SC:=(sr yeda <| sr yegb <| sr ydvy <| .seq (sr ydyd <| .block 0 (.loop (.seq (sr yebo <| cn 21 .skip (.exit 0)) (.seq (.block 1 (sr yegw <| .seq (sr ydwq <| .block 2 (.loop (.seq (sr yeds <| cn 31 .skip (.exit 2)) (.seq (.block 3 (sr ydfj <| cn 40 (.reg false ydec) .skip)) (.reg false ydxh))))) (.reg false ydjb))) (.reg false yegi))))) (sr ydiy <| .ret))
theorem yduf:FnM 47 c47 [.c 4 true 2]:=fn_m Tryz.func47
def yedw:LO:=[bx' 24 0 2 0,o3 (.alloc 27 1 [.a (.slice none 0 0),.a (.slice none 0 0)]) 4 0]
def yeje:LO:=[la' 6 2 7 0,mv' 1 8 0,cl' 47 [7,8] 9 3,o3 (.alloc 27 1 [.a (.slice none 0 0),.a (.slice none 0 0)]) 5 0,sto 2 5 9 15]
def yegf:LO:=[mc 1 6 0]
def ydte:LO:=[mv' 6 10 0,fa' 1 1 5 11 0,ld' 1 11 12 2,ln' 12 13 6,bn' .lss 10 13 14 15]
def ydzj:LO:=[la' 6 2 17 0,la' 2 5 18 0,fa' 1 1 2 19 0,ld' 1 19 20 4,mv' 6 21 0,bc .sub 21 1 22 16,cl' 50 [20,22] 23 60,mv' 6 24 0,cl' 49 [23,24] 25 252,mv' 6 26 0,fa' 2 1 2 27 0,ld' 1 27 28 1024,mv' 6 29 0,bc .sub 29 1 30 4096,cl' 50 [28,30] 31 15868,o3 (.call (.func 49) [(.tmp 31),(ci' 15)]) 32 32252,o3 (.bin .add (ci' 1) (.tmp 32)) 33 65020,cl' 48 [17,18,25,26,33] 34 131071]
def yeao:LO:=[mv' 6 15 0,bc .add 15 1 16 1,mv' 16 6 3]
def yeey:LO:=[la' 2 5 35 0,sto 2 4 35 1]
def c10:SC:=(sr yedw <| sr yeje <| .seq (sr yegf <| .block 0 (.loop (.seq (sr ydte <| cn 14 .skip (.exit 0)) (.seq (.block 1 (.reg true ydzj)) (.reg false yeao))))) (sr yeey <| .ret))
theorem ydog:FnM 10 c10 [.c 4 true 2]:=fn_m Tryz.func10
end Sh
end
section
namespace Sh
open Ev Go.RowKit
instance:Inhabited Cnt:=⟨⟨0,0,0,0,0⟩⟩
structure DaemonOk(kind:Int)(net:List Nat)(res:Nat->Nat->Nat):Prop where
 resolve:∀(e w:Nat),e<2^24->e<2^net.length->e≠0->w<2^32->Returns zG 0 [usV net,.i .i64 kind,.i .u32 e,.i .u32 w] (.i .u32 (res e w))
 permits:∀(e w:Nat),e<2^24->e<2^net.length->e≠0->w<2^32->Returns zG 171 [usV net,.i .i64 kind,.i .u32 e,.i .u32 (res e w)] (.b true)
 zero:∀(w:Nat),w<2^32->∃x:Nat,Returns zG 0 [usV net,.i .i64 kind,.i .u32 0,.i .u32 w] (.i .u32 x)
 sub:∀(e w:Nat),e≠0->e<2^24->res e w≠0/\subB (res e w) e
theorem ybdy{s e n:Nat}(h:subB s e)(b:e<2^n):s<2^n:=by
 refine zAL _ fun i c=>?_;cases a:s.testBit i with
 |false=>rfl
 | true =>
   have:=h i a;rw[zAF (zAA b (zAB (by omega) c))]at this
   cases this
end Sh
end
section
theorem ycpx{kind:Int}{b:Int×Int}(c:b.1<=b.2)(a:kind=3->b.1 <= -1 /\ -1<=b.2)(x:Int):b.1<=yhd kind b x/\yhd kind b x<=b.2:=by
 unfold yhd;split
 .assumption
 .split
  .exact a (by assumption)
  .split<;>omega
namespace Sh
theorem ycre{p:ProgT}{g:Gr}(j:ybi g)(i:p.ok=true)(f:ybjt p g=true){x:VarR}(d:x∈p.vars)(v:Nat):(ybk g v x).1<=(ybk g v x).2/\(x.kind=3->(ybk g v x).1 <= -1 /\ -1<=(ybk g v x).2):=by
 have c:=List.all_eq_true.1 f x d;have a:=i;unfold ProgT.ok at a;simp only[zF,decide_eq_true_eq]at a;have b:=ybuz (List.all_eq_true.1 a.1.1.2 _ d);rcases b.1 with h|h|h
 .have e:ybk g v x=ybk g 0 x:=by unfold ybk;rw[if_pos h,if_pos h]
  rw[e];simp[h]at c;exact⟨c.1,fun q=>by omega⟩
 .unfold ybk;rw[if_neg (by omega),if_pos h]
  exact⟨by decide,fun q=>by omega⟩
 .unfold ybk;rw[if_neg (by omega),if_neg (by omega),if_pos h]
  exact⟨by simp only[];omega,fun _=>⟨by simp only[];omega,by simp only[];omega⟩⟩
theorem yclg{p:ProgT}{g:Gr}(l:ybi g)(n:p.ok=true)(k:ybjt p g=true){v:Nat}{s:List Int}(f:yjy (p.vars.map (ybk g v)) s){a:Int}(o:0<=a/\a<p.vars.length)(y:Int) :
 yjy (p.vars.map (ybk g v)) (s.set a.toNat (yhd (p.vars.getD a.toNat default).kind (ybk g v (p.vars.getD a.toNat default)) y)):=by
 refine⟨by rw[List.length_set];exact f.1,fun i b x e d=>?_⟩
 by_cases q:a.toNat=i
 .subst q;have c:a.toNat<p.vars.length:=by omega
  rw[List.getElem?_map,zL c]at e;cases e
  have m:a.toNat<s.length:=by rw[f.1,zAG];exact c
  rw[zAP m]at d;cases d
  rw[getD_at c];obtain⟨h,j⟩:=ycre l n k (zH c) v;exact ycpx h j y
 .rw[zAW q]at d;exact f.2 i b x e d
theorem ybbw{p:ProgT}{g:Gr}(f:ybi g)(h:p.ok=true)(e:ybjt p g=true)(c:Conf)(v:Nat):∀(sets:List (Int×Ex)) (s:List Int),(∀a∈sets,0<=a.1/\a.1<p.vars.length)->yjy (p.vars.map (ybk g v)) s->yjy (p.vars.map (ybk g v)) (yvu p g c v s sets)
 |[],s,_,b=>b
 | a::sets,s,d,b=>by
   show yjy _ (yvu p g c v (s.set _ _) sets);exact ybbw f h e c v sets _ (fun x i=>d x (zJ _ i)) (yclg f h e b (d a zN) _)
theorem ykt{p:ProgT}{g:Gr}(q:ybi g)(m:p.ok=true)(o:ybjt p g=true){c:Conf}(n:yfe p g c=true)(s:Nat):yfe p g (yds p g c s)=true:=by
 have h:=(ygh _ _ _).1 n;refine(ygh _ _ _).2 ⟨by rw[ymn];exact h.1,fun v r i=>?_⟩
 have l:v<c.length:=by
  have:=(List.getElem?_eq_some_iff.1 i).1
  rwa [ymn]at this
 have e:r=(yds p g c s).getD v []:=by simp[zK,i]
 rw[yqh p g c s l]at e;have b:=h.2 v (c.getD v []) (by rw[getD_at l];exact zL l)
 rw[e];split
 .unfold ykq;refine ybbw q m o c v _ _ (fun a j=>?_) b;have f:=m;unfold ProgT.ok at f;simp only[zF,decide_eq_true_eq]at f
  by_cases k:(yeu p g c v).toNat<p.rules.length
  .rw[getD_at k]at j;have d:=List.all_eq_true.1 f.2 _ (zH k);unfold RuleT.ok at d;simp only[zF,decide_eq_true_eq]at d;have:=List.all_eq_true.1 d.2 a j;simp only[zF,decide_eq_true_eq]at this;exact this.1.1
  .have:p.rules.getD (yeu p g c v).toNat default=default:=by simp[zK,zAU (Nat.le_of_not_lt k)]
   rw[this]at j;cases j
 .exact b
theorem ybaa(p:ProgT)(g:Gr)(c:Conf):ybq p g c<2^g.ids.length:=ybro _ _
end Sh
end
section
namespace Sh
open Ev Go.RowKit
def TT:(Nat->Option ABlk)->Value->Prop:=fun _ _=>True
def yfw(p:ProgT)(g:Gr):SV:=.ex TT (.rf (yki p.raw g))
theorem gmr{a:Type}(f:Nat->a)(n k:Nat)(d:a)(h:k<n):((zS n).map f).getD k d=f k:=by simp[zK,h]
def mapR{a:Type}(n:Nat)(f:Nat->a):List a:=(zS n).map f
theorem gmR{a:Type}(f:Nat->a)(n k:Nat)(d:a)(h:k<n):(mapR n f).getD k d=f k:=gmr f n k d h
theorem ywq{a:Type}(n:Nat)(f:Nat->a):(mapR n f).length=n:=by simp[mapR]
section
variable {Q1 Q2:(Nat->Option ABlk)->Value->Prop}{p:ProgT}{g:Gr}
end
end Sh
end
section
namespace Sh
open Ev Go.RowKit
theorem Returns.exT{P:Program}{g:FuncId}{args:List SV}{r:SV}(h:Returns P g args r):Returns P g args (.ex TT r):=fun G m l f i j=>by
 obtain⟨v,k,x,a,b,c,d,e⟩:=h G m l f i j;exact⟨v,k,.ex TT r,a,b,c,rfl,.ex trivial (fun _ _ _ _ _=>trivial) (d▸e)⟩
section
variable {Q1 Q2:(Nat->Option ABlk)->Value->Prop}{p:ProgT}{g:Gr}
def yjj(l:List Conf):SV:=.sl 1 l.length (fun i=>[ydi (l.getD i [])])
def ysf(l:List Cnt):SV:=.sl 5 l.length (fun i=>cntV (l.getD i default))
end
end Sh
end
section
def yei(v m:Int):Int:=if m<1 then 0 else v%m
def atP(l:List Int)(i:Nat):Int:=l.getD i 0
theorem yon{v m:Int}(h:1<=m):0<=yei v m/\yei v m<m:=by
 unfold yei;rw[if_neg (by omega)]
 exact⟨zBL _ (by omega),zBC _ (by omega)⟩
namespace Sh
open Ev Go.RowKit
theorem ybui{v m:Int}(h:1<=m):(if v.tmod m<0 then v.tmod m+m else v.tmod m)=v%m:=by
 have e:=Int.emod_add_mul_ediv v m;have f:=zBL v (show m≠0 by omega)
 have g:=zBC v (show 0<m by omega)
 have c:=Int.tmod_eq_emod (a:=v) (b:=m);have d:(m.natAbs:Int)=m:=by omega
 rw[c]
 by_cases q:0<=v\/m ∣ v
 .simp only[if_pos q,zBH,Int.sub_zero];rw[if_neg (by omega)]
 .simp only[if_neg q,d];rw[if_pos (by omega)]
  omega
theorem yol(v m:Int)(e:m<=4611686018427387904)(f:inK .i64 v):Returns zG 49 [.i .i64 v,.i .i64 m] (.i .i64 (yei v m)):=by
 refine Returns.of (ydwj _ _ ?_);simp only[c49,yeim,ydxz,ydyz,ydzg,yebg,ydwi,ydzf,ycj,go_sem,zA,zB];unfold yei;refine⟨fun h=>by rw[if_pos h],fun h=>⟨by omega,fun b=>?_,fun b=>?_⟩⟩
 .have a:=ybui (v:=v) (show 1<=m by omega)
  rw[if_pos b]at a;rw[if_neg h,a];have c:=zBL v (show m≠0 by omega)
  have d:=zBC v (show 0<m by omega)
  exact⟨ikw (by omega) (by omega),rfl⟩
 .have a:=ybui (v:=v) (show 1<=m by omega)
  rw[if_neg b]at a;rw[if_neg h,a]
theorem at_ret(l:List Int)(i:Nat):Returns zG 50 [ybb l,.i .i64 i] (.i .i64 (atP l i)):=by
 refine Returns.of (ydyt _ _ ?_);simp only[c50,ydvg,ydws,yegr,yeit,ybb,ycj,go_sem,zA,zB];exact⟨fun h=>⟨by omega,rfl⟩,fun h=>by unfold atP;rw[zK,zAU (by omega)];rfl⟩
theorem yegm{a:Type}(l:List a)(x d:a)(i:Nat):(l++[x]).getD i d=if i<l.length then l.getD i d else if i=l.length then x else d:=by
 by_cases h:i<l.length
 .simp[zK,List.getElem?_append_left h,h]
 .by_cases e:i=l.length
  .subst e;simp[zK]
  .rw[if_neg h,if_neg e,zK,zAU (by simp;omega)]
   rfl
end Sh
end
section
namespace Sh
open Ev Go.RowKit
section
variable {p:ProgT}{g:Gr}
end
end Sh
end
section
namespace Sh
open Ev Go.RowKit
def blV(l:List Bool):SV:=.sl 1 l.length (fun k=>[.b (l.getD k false)])
def ycry(l:List Bool)(k:Nat):Bool:=(l.take k).any id
structure HeldOk(legit:List Bool)(ks:List Cnt)(rounds moves:Int)(ended:Bool):Prop where
 len:legit.length=ks.length
 pos:0<legit.length
 stays:∀i,i<legit.length->ycry legit i=true->legit.getD i false=true
 rounds:∀i,i<legit.length->ycry legit (i+1)=false->((ks.getD i default).begun:Int)<=rounds
 moves:∀i,i<legit.length->ycry legit (i+1)=false->0<=moves->((ks.getD i default).moves:Int)<=moves
 ends:ycry legit legit.length=true\/ended=false
def ycwg(kind:Int)(a silent:Bool)(rounds moves:Int):List SV:=[.i .i64 kind,.b a,.b silent,.i .i64 rounds,.i .i64 moves]
end Sh
end
section
namespace Sh
open Ev Go.RowKit
theorem yctz{n d:Nat}{c:Conf}(h:ConfIn n d c):ycsh c:=fun s a x b=>by
 have:=(h.row s a).2 x b;unfold InB at this;exact yhk (by omega)
end Sh
end
section
namespace Sh
open Go Ev
end Sh
end
section
namespace Sh
open Ev Go.RowKit
end Sh
end
section
structure Tgt(S:Sys)(V:Conf->Prop)(T:Conf->Nat->List Int):Prop where
 valid:∀c s,V c->s≠0->subB s (S.en c)->V (S.mv c s)
 stay:∀c s v,V c->v<S.n->s.testBit v=false->(S.mv c s).getD v []=c.getD v []
 move:∀c s v,V c->v<S.n->s.testBit v=true->subB s (S.en c)->(S.mv c s).getD v []=T c v
 en:∀c v,V c->v<S.n->((S.en c).testBit v=false↔c.getD v []=T c v)
end
section
open Go.RowKit
end
section
def yit(g:Gr):Nat:=(g.ports.map zAZ).sum
def addL(back:Bool)(l:List (Int×Int))(x:Int×Int):List (Int×Int):=if back then x::l else l++[x]
theorem yfm{back:Bool}{l:List (Int×Int)}{x y:Int×Int}:y∈addL back l x↔y=x\/y∈l:=by
 unfold addL;cases back<;>simp[or_comm]
def ycz(back:Bool)(g:Gr)(a b:Nat)(w:Int):Gr:=⟨g.ids,(g.ports.set a (addL back (g.ports.getD a []) (b,w))).set b (addL back (g.ports.getD b []) (a,w))⟩
theorem yez(back:Bool)(g:Gr){a b:Nat}(w:Int)(e:a<g.ports.length)(f:b<g.ports.length)(v:Nat) :
 (ycz back g a b w).ports.getD v []=if v=b then addL back (g.ports.getD b []) (a,w)else if v=a then addL back (g.ports.getD a []) (b,w)else g.ports.getD v []:=by
 unfold ycz;simp only[zK]
 by_cases c:v=b
 .subst c;rw[if_pos rfl,zAP (by simpa using f)]
  rfl
 .rw[if_neg c,zAW (fun q=>c q.symm)]
  by_cases d:v=a
  .subst d;rw[if_pos rfl,zAP e];rfl
  .rw[if_neg d,zAW (fun q=>d q.symm)]
theorem yvb{back:Bool}{l:List (Int×Int)}{v n:Int}{x:Int×Int}(h:ydt l v n)(i:yrn v n x)(b:∀y∈l,y.1≠x.1):ydt (addL back l x) v n:=by
 refine⟨fun y a=>?_,?_⟩
 .rcases yfm.1 a with rfl|a
  .exact i
  .exact h.1 y a
 .have c:x.1∉l.map (·.1):=fun f=>by
   obtain⟨y,a,e⟩:=List.mem_map.1 f;exact b y a e
  unfold addL;cases back
  .simp only[zBS,if_false,zBM,zAK,List.map_nil];rw[zBW];refine⟨h.2,by simp,fun p g q d=>?_⟩
   rw[List.mem_singleton]at d;subst d;intro e;exact c (e▸g)
  .simp only[if_true,zAK];exact List.nodup_cons.2 ⟨c,h.2⟩
theorem ybis{back:Bool}{g:Gr}(H:ybi g){a b:Nat}{w:Int}(i:a<g.ports.length)(h:b<g.ports.length)(r:a≠b)(p:1<=w/\w<=15)(n:∀y∈g.ports.getD a [],y.1≠(b:Int)):ybi (ycz back g a b w):=by
 obtain⟨C,D,E,F,G,q,A⟩:=H;have c:(ycz back g a b w).ports.length=g.ports.length:=by simp[ycz]
 have m:∀(v:Nat) (d:v<g.ports.length),g.ports.getD v []=g.ports[v]:=fun v d=>by simp[zK,d]
 have o:∀y∈g.ports.getD b [],y.1≠(a:Int):=fun y B e=>by
  rw[m b h]at B;have:=A ⟨b,h⟩ y B;rw[e,zQ]at this;exact n _ this rfl
 have at_:∀(v:Nat) (d:v<g.ports.length),(ycz back g a b w).ports[v]'(by rw[c];exact d)=if v=b then addL back (g.ports.getD b []) (a,w)else if v=a then addL back (g.ports.getD a []) (b,w)else g.ports.getD v []:=fun v d=>by
  rw[<-yez back g w i h v];simp[zK,c,d]
 refine⟨by rw[c];exact C,by rw[c];exact D,by rw[c];exact E,F,G,fun v=>?_,fun v l f=>?_⟩
 .have d:v.1<g.ports.length:=zBT v.isLt c;have s:(((ycz back g a b w).ports.length:Nat):Int)=(g.ports.length:Int):=by rw[c]
  rw[s];show ydt ((ycz back g a b w).ports[v.1]) _ _;rw[at_ v.1 d];split
  .rename_i e
   rw[e];refine yvb ?_ ⟨by simp only[];omega,by simp only[];omega,by simp only[];omega,p.1,p.2⟩ o
   rw[m b h];exact q ⟨b,h⟩
  .split
   .rename_i e
    rw[e];refine yvb ?_ ⟨by simp only[];omega,by simp only[];omega,by simp only[];omega,p.1,p.2⟩ n
    rw[m a i];exact q ⟨a,i⟩
   .rw[m v.1 d];exact q ⟨v.1,d⟩
 .have d:v.1<g.ports.length:=zBT v.isLt c
  change l∈(ycz back g a b w).ports[v.1]at f
  rw[at_ v.1 d]at f
  have z:∀u x,x∈g.ports.getD u []->x∈(ycz back g a b w).ports.getD u []:=fun u x k=>by
   rw[yez back g w i h u];split
   .rename_i e;subst e;exact yfm.2 (.inr k)
   .split
    .rename_i e;subst e;exact yfm.2 (.inr k)
    .exact k
  have j:∀(u:Nat) (t:u<g.ports.length),l∈g.ports.getD u []->((u:Int),l.2)∈(ycz back g a b w).ports.getD l.1.toNat []:=fun u t k=>by
   rw[m u t]at k;exact z _ _ (A ⟨u,t⟩ l k)
  split at f
  .rename_i e
   rcases yfm.1 f with rfl|f
   .rw[yez back g w i h,e];simp only[zQ];simp only[if_neg r,if_true];exact yfm.2 (.inl rfl)
   .rw[e];exact j b h f
  .split at f
   .rename_i e
    rcases yfm.1 f with rfl|f
    .rw[yez back g w i h,e];simp only[zQ];simp only[if_true];exact yfm.2 (.inl rfl)
    .rw[e];exact j a i f
   .exact j v.1 d f
end
section
def Tre(g:Gr)(m:Nat):Prop:=∀v,0<v->v<m->∃u,u<v/\adj g u v
theorem Tre.walk{g:Gr}{m:Nat}(h:Tre g m):∀v,v<m->∃k,Walk g 0 k v:=by
 intro v
 induction v using Nat.strongRecOn with
 | _ v e =>
   intro d
   by_cases a:v=0
   .subst a;exact⟨0,rfl⟩
   .obtain⟨u,c,b⟩:=h v (by omega) d
    obtain⟨k,hk⟩:=e u c (by omega)
    exact⟨k+1,u,hk,b⟩
theorem Tre.conn{g:Gr}(b:ybi g)(h:Tre g g.ports.length):yht g=true:=by
 unfold yht;rw[(ygu g).2 b,zCJ,ybmc b (a:=0) (by have:=b.1;omega)]
 exact h.walk
theorem ypk{g:Gr}{u v:Nat}:adj g u v↔∃l,l∈g.ports.getD u []/\l.1=(v:Int):=by
 constructor
 .rintro⟨b,h,l,a,e⟩;exact⟨l,by simpa[zK,h]using a,e⟩
 .rintro⟨l,a,e⟩;cases h:g.ports[u]? with
  |none=>simp[zK,h]at a
  |some b=>exact⟨b,h,l,by simpa[zK,h]using a,e⟩
theorem ybpo{back:Bool}{g:Gr}{a b:Nat}{w:Int}(d:a<g.ports.length)(f:b<g.ports.length){u v:Nat}(h:adj g u v):adj (ycz back g a b w) u v:=by
 obtain⟨l,c,e⟩:=ypk.1 h;refine ypk.2 ⟨l,?_,e⟩;rw[yez back g w d f u];split
 .rename_i q;subst q;exact yfm.2 (.inr c)
 .split
  .rename_i q;subst q;exact yfm.2 (.inr c)
  .exact c
theorem yblv{back:Bool}{g:Gr}{a b:Nat}{w:Int}(d:a<g.ports.length)(e:b<g.ports.length)(c:a≠b):adj (ycz back g a b w) a b:=by
 refine ypk.2 ⟨((b:Int),w),?_,rfl⟩;rw[yez back g w d e a,if_neg c,if_pos rfl];exact yfm.2 (.inl rfl)
theorem Tre.add{back:Bool}{g:Gr}{a b:Nat}{w:Int}(e:a<g.ports.length)(f:b<g.ports.length){m:Nat}(h:Tre g m):Tre (ycz back g a b w) m:=fun v d j=>by
 obtain⟨u,i,c⟩:=h v d j;exact⟨u,i,ybpo e f c⟩
def bare(ids:List Int):Gr:=⟨ids,zCH ids.length []⟩
theorem ybzg{ids:List Int}(b:1<=ids.length)(c:ids.length<=24)(d:∀x∈ids,0<=x/\x<=255)(f:ids.Nodup):ybi (bare ids):=by
 have e:∀v:Fin (bare ids).ports.length,(bare ids).ports[v]=[]:=fun v=>by
  have g:v.1<ids.length:=by have:=v.isLt;simpa[bare]using this
  show(zCH ids.length ([]:List (Int×Int)))[v.1]'(by simpa using g)=[]
  exact List.getElem_replicate ..
 refine⟨by simpa[bare]using b,by simpa[bare]using c,by simp[bare],d,f,fun v=>?_,fun v l a=>?_⟩
 .rw[e v];exact⟨fun l a=>(nomatch a),List.nodup_nil⟩
 .rw[e v]at a;cases a
end
section
abbrev eNum(k:Int):Ex:=.leaf 1 k
abbrev ychv:Ex:=.leaf 4 0
abbrev eVar(k:Int):Ex:=.leaf 5 k
abbrev eN:Ex:=.leaf 6 0
abbrev eQ(k:Int):Ex:=.leaf 12 k
theorem yzu{b:Type}(g:Gr)(v:Nat)(f:Int×Int->b)(h:Nat->b)(e:∀q,q<(g.ports.getD v []).length->h q=f ((g.ports.getD v []).getD q (0,0))):(zS (g.ports.getD v []).length).map h=(g.ports.getD v []).map f:=by
 refine zBZ (by simp) fun i d j=>?_
 have a:i<(g.ports.getD v []).length:=by simpa using d
 rw[zAR,List.getElem_range,zAR,e i a];congr 1;rw[List.getD_eq_getElem?_getD,zL a];rfl
def endP(c:Conf)(k:Nat)(l:Int×Int):Int:=(c.getD l.1.toNat []).getD k 0
theorem yql(b:Bool):(ycc b != 0)=b:=by cases b<;>rfl
section
variable {nm nd np nt nl:ByteArray}{g:Gr}{c:Conf}{v:Nat}
theorem bT1{x:ByteArray}:ybk g v ⟨x,1,0,0,1,0⟩=(0,0+1*(g.ids.length:Int)+0*maxI g.ids):=by
 show(if (1:Int)=1 then _ else _)=_
 rw[if_pos rfl]
end
end
section
section
variable {g:Gr}{a v:Nat}
theorem yil(f:ybi g)(p:yht g=true)(d:a<g.ports.length)(r:v<g.ports.length):∃k:Nat,(yck g a).getD v 0=k/\Walk g a k v/\(∀j,j<k->¬Walk g a j v)/\k<g.ports.length:=by
 have n:0<g.ports.length:=by omega
 have c:(yck g a).all (fun x=>decide (0<=x))=true:=ycql f n d ((zF _ _▸p).2);have q:=yjs f d;have b:v<(yck g a).length:=by rw[q];exact r
 have e:(yck g a).getD v 0=(yck g a)[v]:=by simp[zK,b]
 have m:0<=(yck g a)[v]:=by simpa using List.all_eq_true.1 c _ (zH b)
 rcases(yfx f d).2 v _ (zL b)with⟨h,_⟩|⟨k,o,i,l⟩
 .omega
 .exact⟨k,by rw[e,o],i,l,yye f d i l⟩
theorem ydpq{k:Nat}(m:ybi g)(l:yht g=true)(i:a<g.ports.length)(n:v<g.ports.length)(b:Walk g a k v)(c:∀j,j<k->¬Walk g a j v):(yck g a).getD v 0=k:=by
 obtain⟨j,e,d,f,_⟩:=yil m l i n;rcases Nat.lt_trichotomy j k with h|h|h
 .exact absurd d (c j h)
 .rw[e,h]
 .exact absurd b (f k h)
theorem ycbv(d:ybi g)(c:yht g=true)(b:a<g.ports.length):(yck g a).getD a 0=0:=ydpq d c b b (k:=0) rfl fun j e=>by omega
theorem yciw(d:ybi g)(c:yht g=true)(b:a<g.ports.length)(f:v<g.ports.length):0<=(yck g a).getD v 0/\(yck g a).getD v 0<g.ports.length:=by
 obtain⟨k,e,_,_,h⟩:=yil d c b f;omega
theorem ycso(h:ybi g)(f:yht g=true)(d:a<g.ports.length)(i:v<g.ports.length)(b:v≠a):1<=(yck g a).getD v 0:=by
 obtain⟨k,e,c,_,_⟩:=yil h f d i;cases k with
 |zero=>exact absurd c b
 |succ k=>omega
theorem ycti(b:ybi g)(d:yht g=true)(c:a<g.ports.length){u:Nat}(h:adj g u v):(yck g a).getD v 0<=(yck g a).getD u 0+1:=by
 obtain⟨m,n⟩:=b.adj_lt h;obtain⟨k,e,i,_,_⟩:=yil b d c m;obtain⟨j,f,_,l,_⟩:=yil b d c n;rw[e,f];rcases zCK (k+1) j with q|q
 .exact absurd ⟨u,i,h⟩ (l (k+1) q)
 .omega
theorem ybjm(b:ybi g)(f:yht g=true)(d:a<g.ports.length)(r:v<g.ports.length)(h:v≠a):∃u,adj g v u/\(yck g a).getD u 0=(yck g a).getD v 0-1:=by
 obtain⟨k,e,l,s,_⟩:=yil b f d r;cases k with
 |zero=>exact absurd l h
 | succ k =>
   obtain⟨u,m,c⟩:=l;refine⟨u,b.adj_symm c,?_⟩;have n:=ycti b f d c;obtain⟨p,_⟩:=b.adj_lt c;obtain⟨j,i,_,o,_⟩:=yil b f d p;rw[e,i]at n;rcases zCK k j with q|q
   .exact absurd m (o k q)
   .rw[e,i];omega
theorem yef{l:Int×Int}(c:ybi g)(d:v<g.ports.length)(b:l∈g.ports.getD v []):0<=l.1/\l.1.toNat<g.ports.length/\adj g v l.1.toNat/\1<=l.2/\l.2<=15:=by
 have e:g.ports[v]?=some (g.ports.getD v []):=by simp[zK,d]
 have h:=c.link e b;exact⟨h.1,by omega,⟨_,e,l,b,by omega⟩,h.2.2.2.1,h.2.2.2.2⟩
theorem yli{u:Nat}(h:adj g v u):∃l∈g.ports.getD v [],l.1.toNat=u:=by
 obtain⟨l,b,e⟩:=ypk.1 h;exact⟨l,b,by rw[e];simp⟩
end
section
variable {nm nd np nt nl:ByteArray}{g:Gr}
end
end
section
def yeb(g:Gr):Bool:=yht g&&decide (yit g/2+1=g.ports.length)
theorem ycla{g:Type}[DecidableEq g]:∀{l1 l2:List g},l1.Nodup->(∀x∈l1,x∈l2)->l2.length<=l1.length->∀x∈l2,x∈l1
 | [],l2,_,_,h,x,c=>by
   have:l2=[]:=zX (by simpa using h)
   rw[this]at c;exact absurd c zAE
 | a :: t,l2,b,d,h,x,c=>by
   have b:=List.nodup_cons.1 b
   by_cases q:x=a
   .rw[q];exact zN
   .refine zJ _ (ycla (l2:=l2.erase a) b.2 (fun y f=>?_) ?_ x ((zAX q).2 c))
    .refine(zAX fun e=>b.1 (by rw[<-e];exact f)).2 (d y (zJ _ f))
    .rw[zAO (d a zN)];simp only[zAS]at h;omega
structure TreeM(g:Gr):Prop where
 up:∀a v u,a<g.ports.length->adj g v u->(yck g a).getD u 0=(yck g a).getD v 0-1\/(yck g a).getD u 0=(yck g a).getD v 0+1
 one:∀a v u w,a<g.ports.length->adj g v u->adj g v w->(yck g a).getD u 0=(yck g a).getD v 0-1->(yck g a).getD w 0=(yck g a).getD v 0-1->u=w
theorem yehk{g:Gr}(r:ybi g)(H:yht g=true)(R:yit g<=2*(g.ports.length-1)):TreeM g:=by
 have s:∀a,a<g.ports.length->∃up:Nat->Nat,∀v u,adj g v u->(v≠a/\u=up v/\(yck g a).getD u 0=(yck g a).getD v 0-1)\/(yck g a).getD u 0=(yck g a).getD v 0+1:=fun a m=>by
  have ex:∀v,v<g.ports.length->v≠a->∃u,adj g v u/\(yck g a).getD u 0=(yck g a).getD v 0-1:=fun v j k=>ybjm r H m j k
  obtain⟨up,d⟩:∃up:Nat->Nat,∀v,v<g.ports.length->v≠a->adj g v (up v)/\(yck g a).getD (up v) 0=(yck g a).getD v 0-1:=by
   refine⟨fun v=>if h:v<g.ports.length/\v≠a then zCP (ex v h.1 h.2)else 0,fun v j k=>?_⟩
   simp only[dif_pos (show v<g.ports.length/\v≠a from⟨j,k⟩)]
   exact zCO (ex v j k)
  let U:List (Nat×Nat):=((zS g.ports.length).erase a).map fun v=>(v,up v)
  let P:List (Nat×Nat):=(zS g.ports.length).flatMap fun v=>(g.ports.getD v []).map fun l=>(v,l.1.toNat)
  have B:((zS g.ports.length).erase a).Nodup:=List.nodup_range.erase a
  have z:∀x y,(x,y)∈U↔x<g.ports.length/\x≠a/\y=up x:=fun x y=>by
   show(x,y)∈((zS g.ports.length).erase a).map (fun v=>(v,up v))↔_;rw[List.mem_map];constructor
   .rintro⟨v,j,e⟩;cases e
    have j:=(List.nodup_range.mem_erase_iff).1 j;exact⟨List.mem_range.1 j.2,j.1,rfl⟩
   .rintro⟨b,c,rfl⟩;exact⟨x,(List.nodup_range.mem_erase_iff).2 ⟨c,List.mem_range.2 b⟩,rfl⟩
  have C:∀x y,(x,y)∈P↔x<g.ports.length/\adj g x y:=fun x y=>by
   show(x,y)∈zCL _ _↔_;rw[List.mem_flatMap];constructor
   .rintro⟨v,j,h⟩;obtain⟨l,A,e⟩:=List.mem_map.1 h;cases e
    have j:=List.mem_range.1 j;exact⟨j,(yef r j A).2.2.1⟩
   .rintro⟨b,c⟩;obtain⟨l,A,e⟩:=yli c;exact⟨x,List.mem_range.2 b,List.mem_map.2 ⟨l,A,by rw[e]⟩⟩
  have t:∀x y,(x,y)∈U->(yck g a).getD y 0=(yck g a).getD x 0-1:=fun x y h=>by
   obtain⟨b,c,rfl⟩:=(z x y).1 h;exact(d x b c).2
  have E:U.Nodup:=by
   show(((zS g.ports.length).erase a).map (fun v=>(v,up v))).Nodup;rw[List.Nodup,zBX];exact B.imp fun h e=>h (congrArg Prod.fst e)
  have N:(U.map fun p=>(p.2,p.1)).Nodup:=by
   rw[List.Nodup,zBX];exact E.imp fun h e=>h (by simp only[Prod.mk.injEq]at e;exact Prod.ext e.2 e.1)
  have D:(U++U.map fun p=>(p.2,p.1)).Nodup:=by
   rw[zBW];refine⟨E,N,?_⟩;rintro⟨x,y⟩ b ⟨S,T⟩ c e;cases e
   obtain⟨⟨p,q⟩,f,e⟩:=List.mem_map.1 c;cases e
   have F:=t _ _ b;have G:=t _ _ f;simp only at F G;omega
  have M:U.length=g.ports.length-1:=by
   show(List.map _ _).length=_;rw[zAG,zAO (List.mem_range.2 m),List.length_range]
  have L:P.length=yit g:=by
   show(zCL _ _).length=_;rw[List.length_flatMap];unfold yit;congr 1;refine zBZ (by simp) fun i b c=>?_
   have I:i<g.ports.length:=by simpa using c
   simp[zK,I]
  have o:=ycla D (l2:=P) (fun p J=>by
   obtain⟨x,y⟩:=p;rcases List.mem_append.1 J with h|h
   .obtain⟨b,c,rfl⟩:=(z x y).1 h;exact(C _ _).2 ⟨b,(d x b c).1⟩
   .obtain⟨⟨p,q⟩,f,e⟩:=List.mem_map.1 h;cases e
    obtain⟨b,c,e⟩:=(z _ _).1 f;simp only at e ⊢;subst e;have n:=(d p b c).1;exact(C _ _).2 ⟨(r.adj_lt n).2,r.adj_symm n⟩) (by have K:(U.map fun p=>(p.2,p.1)).length=U.length:=zAG _;rw[zBU,K,M,L];omega)
  refine⟨up,fun v u h=>?_⟩;have b:=o (v,u) ((C v u).2 ⟨(r.adj_lt h).1,h⟩);rcases List.mem_append.1 b with h|h
  .left
   obtain⟨_,c,f⟩:=(z v u).1 h;exact⟨c,f,t _ _ h⟩
  .right
   obtain⟨⟨p,q⟩,f,e⟩:=List.mem_map.1 h;cases e
   have:=t _ _ f;simp only at this ⊢;omega
 constructor
 .intro a v u m h;obtain⟨up,d⟩:=s a m;rcases d v u h with⟨_,_,f⟩|f
  .exact .inl f
  .exact .inr f
 .intro a v u w m b c O Q;obtain⟨up,d⟩:=s a m;rcases d v u b with⟨_,f,_⟩|f
  .rcases d v w c with⟨_,n,_⟩|n
   .rw[f,n]
   .omega
  .omega
end
section
def dP(g:Gr)(a v:Nat):Int:=(yck g a).getD v 0
structure Tr(g:Gr):Prop where
 good:ybi g
 conn:yht g=true
 m:TreeM g
section
variable {g:Gr}{a b u v w x:Nat}
theorem Tr.self(h:Tr g)(c:a<g.ports.length):dP g a a=0:=ycbv h.good h.conn c
theorem Tr.nonneg(h:Tr g)(c:a<g.ports.length)(d:v<g.ports.length):0<=dP g a v:=(yciw h.good h.conn c d).1
theorem Tr.lt_n(h:Tr g)(c:a<g.ports.length)(d:v<g.ports.length):dP g a v<g.ports.length:=(yciw h.good h.conn c d).2
theorem Tr.pos(h:Tr g)(d:a<g.ports.length)(e:v<g.ports.length)(c:v≠a):1<=dP g a v:=ycso h.good h.conn d e c
theorem Tr.up(h:Tr g)(c:a<g.ports.length)(d:adj g v u):dP g a u=dP g a v-1\/dP g a u=dP g a v+1:=h.m.up a v u c d
theorem Tr.one(h:Tr g)(e:a<g.ports.length)(f:adj g v u)(i:adj g v x)(c:dP g a u=dP g a v-1)(d:dP g a x=dP g a v-1):u=x:=h.m.one a v u x e f i c d
theorem Tr.back(h:Tr g)(d:a<g.ports.length)(e:v<g.ports.length)(c:v≠a):∃u,adj g v u/\dP g a u=dP g a v-1:=ybjm h.good h.conn d e c
theorem Tr.adj1(h:Tr g)(e:adj g v u):dP g v u=1:=by
 obtain⟨d,c⟩:=h.good.adj_lt e;have f:=h.up d e;have i:=h.self d;have j:=h.nonneg d c;omega
theorem Tr.ne(h:Tr g)(c:adj g v u):v≠u:=fun e=>by
 subst e;have:=h.adj1 c;have:=h.self (h.good.adj_lt c).1;omega
def rchP(g:Gr)(v u:Nat):Int:=(zS g.ports.length).foldl (fun m w=>if dP g w u<dP g w v then max m (dP g w v)else m) 0
theorem ywk(f:Nat->Int)(p:Nat->Prop)[DecidablePred p]:∀(l:List Nat) (m:Int),m<=l.foldl (fun m w=>if p w then max m (f w)else m) m/\(∀w∈l,p w->f w<=l.foldl (fun m w=>if p w then max m (f w)else m) m)/\(l.foldl (fun m w=>if p w then max m (f w)else m) m=m\/∃w∈l,p w/\f w=l.foldl (fun m w=>if p w then max m (f w)else m) m)
 |[],m=>⟨zU _,fun w h=>absurd h zAE,.inl rfl⟩
 | x :: l,m=>by
   obtain⟨j,i,c⟩:=ywk f p l (if p x then max m (f x)else m)
   simp only[zAI];refine⟨?_,fun w h d=>?_,?_⟩
   .clear i c
    have:m<=if p x then max m (f x)else m:=by split<;>omega
    omega
   .rcases List.mem_cons.1 h with rfl|h
    .rw[if_pos d]at j ⊢;omega
    .exact i w h d
   .clear i
    rcases c with c|⟨w,h,d,e⟩
    .by_cases d:p x
     .rw[if_pos d]at c ⊢;rcases Int.le_total (f x) m with q|q
      .left;rw[c];omega
      .right;exact⟨x,zN,d,by rw[c];omega⟩
     .rw[if_neg d]at c ⊢;exact .inl c
    .exact .inr ⟨w,zJ _ h,d,e⟩
theorem ybiw(c:w<g.ports.length)(h:dP g w u<dP g w v):dP g w v<=rchP g v u :=
 (ywk (fun w=>dP g w v) (fun w=>dP g w u<dP g w v) (zS g.ports.length) 0).2.1 w (List.mem_range.2 c) h
theorem Tr.rch_pos(h:Tr g)(d:adj g v u):1<=rchP g v u:=by
 obtain⟨i,c⟩:=h.good.adj_lt d;have e:=h.adj1 (h.good.adj_symm d);have f:=h.self c;have:=ybiw (g:=g) (w:=u) (u:=u) (v:=v) c (by omega)
 omega
theorem Tr.rch_ex(h:Tr g)(d:adj g v u):∃w,w<g.ports.length/\dP g w u<dP g w v/\dP g w v=rchP g v u:=by
 rcases(ywk (fun w=>dP g w v) (fun w=>dP g w u<dP g w v) (zS g.ports.length) 0).2.2 with e|⟨w,f,c,e⟩
 .have:=h.rch_pos d;have e:rchP g v u=0:=e;omega
 .exact⟨w,List.mem_range.1 f,c,e⟩
theorem Tr.into(h:Tr g)(f:adj g v u)(i:adj g u x)(d:x≠v)(e:w<g.ports.length)(k:dP g w x<dP g w u):dP g w u<dP g w v/\dP g w v=dP g w u+1:=by
 have j:=h.up e i;have c:=h.up e (h.good.adj_symm f);rcases c with c|c
 .exact absurd (h.one e i (h.good.adj_symm f) (by omega) c) d
 .omega
theorem Tr.rch_step(h:Tr g)(j:adj g v u)(e:adj g u x)(c:x≠v):1+rchP g u x<=rchP g v u:=by
 obtain⟨w,d,f,k⟩:=h.rch_ex e;obtain⟨i,l⟩:=h.into j e c d f;have:=ybiw d i;omega
theorem Tr.rch_from(h:Tr g)(d:adj g v u)(l:2<=rchP g v u):∃x,adj g u x/\x≠v/\rchP g v u=1+rchP g u x:=by
 obtain⟨q,j⟩:=h.good.adj_lt d;obtain⟨w,f,m,n⟩:=h.rch_ex d;have o:=h.up f (h.good.adj_symm d)
 have i:w≠u:=fun e=>by
  subst e;have:=h.self f;omega
 obtain⟨x,k,p⟩:=h.back f j (fun e=>i e.symm);have c:x≠v:=fun e=>by subst e;omega
 refine⟨x,k,c,?_⟩;have a:=h.rch_step d k c;have b:=ybiw (g:=g) (u:=x) (v:=u) f (by omega)
 omega
def step2(p:Int×Int)(a:Int):Int×Int:=if a>p.1 then(a,p.1)else(p.1,max p.2 a)
def top2(b:Int)(l:List Int):Int×Int:=l.foldl step2 (b,b)
theorem ycdc(b:Int)(l:List Int)(a:Int):top2 b (l++[a])=step2 (top2 b l) a:=by unfold top2;rw[zV];rfl
theorem ybhl(b:Int)(l:List Int):∀k,k<=l.length->b<=(top2 b (l.take k)).2/\(top2 b (l.take k)).2<=(top2 b (l.take k)).1/\∀m,b<m->(m<=(top2 b (l.take k)).1↔1<=(l.take k).countP fun x=>decide (m<=x))/\(m<=(top2 b (l.take k)).2↔2<=(l.take k).countP fun x=>decide (m<=x))
 | 0,_=>by
   refine⟨zU _,zU _,fun m c=>?_⟩;have e:(top2 b (l.take 0))=(b,b):=rfl;rw[e];simp only[List.take_zero,zCE];omega
 | k + 1,hk=>by
   obtain⟨j,n,d⟩:=ybhl b l k (by omega)
   rw[zI (show k<l.length by omega),ycdc]
   generalize l[k]=a
   have f:∀m,(l.take k++[a]).countP (fun x=>decide (m<=x))=(l.take k).countP (fun x=>decide (m<=x))+if m<=a then 1 else 0:=fun m=>by
    rw[List.countP_append,zCA,zCE];simp
   generalize top2 b (l.take k)=P at *
   unfold step2;split
   .refine⟨by simp only;omega,by simp only;omega,fun m c=>?_⟩
    obtain⟨h,i⟩:=d m c;rw[f];simp only;constructor
    .split<;>omega
    .split<;>omega
   .refine⟨by simp only;omega,by simp only;omega,fun m c=>?_⟩
    obtain⟨h,i⟩:=d m c;rw[f];simp only;constructor
    .split<;>omega
    .split<;>omega
theorem yjp(b:Int)(l:List Int):b<=(top2 b l).2/\(top2 b l).2<=(top2 b l).1/\∀m,b<m->(m<=(top2 b l).1↔1<=l.countP fun x=>decide (m<=x))/\(m<=(top2 b l).2↔2<=l.countP fun x=>decide (m<=x)):=by
 have h:=ybhl b l l.length (zM _)
 rwa [zY]at h
theorem ybhn{p:Int×Int->Bool}:∀{ls:List (Int×Int)},(ls.map (·.1)).Nodup->(2<=ls.countP p↔∃a∈ls,∃b∈ls,a.1≠b.1/\p a=true/\p b=true)
 |[],_=>by simp
 | l :: ls,k=>by
   have k:=List.nodup_cons.1 k;have s:=ybhn (p:=p) k.2
   have one:1<=ls.countP p↔∃a∈ls,p a=true:=by
    rw[Nat.one_le_iff_ne_zero,Nat.ne_zero_iff_zero_lt,List.countP_pos_iff]
   have n:∀a∈ls,l.1≠a.1:=fun a c e=>k.1 (List.mem_map.2 ⟨a,c,e.symm⟩);rw[zCA];constructor
   .intro h
    by_cases o:p l=true
    .rw[if_pos o]at h;obtain⟨a,c,d⟩:=one.1 (by omega)
     exact⟨l,zN,a,zJ _ c,n a c,o,d⟩
    .rw[if_neg o]at h;obtain⟨a,c,b,f,q⟩:=s.1 (by omega)
     exact⟨a,zJ _ c,b,zJ _ f,q⟩
   .rintro⟨a,c,b,f,j,d,i⟩;rcases List.mem_cons.1 c with r|c
    .rcases List.mem_cons.1 f with m|f
     .exact absurd (by rw[r,m]) j
     .have:=one.2 ⟨b,f,i⟩;rw[<-r,if_pos d];omega
    .rcases List.mem_cons.1 f with m|f
     .have:=one.2 ⟨a,c,d⟩;rw[<-m,if_pos i];omega
     .have:=s.2 ⟨a,c,b,f,j,d,i⟩;omega
theorem yzm(e:ybi g)(c:v<g.ports.length):((g.ports.getD v []).map (·.1)).Nodup:=by
 have h:=(e.2.2.2.2.2.1 ⟨v,c⟩).2;have d:g.ports[v]=g.ports.getD v []:=by rw[Sh.getD_at c]
 have h:((g.ports[v]).map (·.1)).Nodup:=h
 rwa [d]at h
theorem ybsz(k:ybi g)(p:v<g.ports.length){f:Nat->Int}{m:Int}:2<=((g.ports.getD v []).map fun l=>f l.1.toNat).countP (fun x=>decide (m<=x))↔∃a b,adj g v a/\adj g v b/\a≠b/\m<=f a/\m<=f b:=by
 rw[List.countP_map,ybhn (yzm k p)];constructor
 .rintro⟨a,i,b,j,h,c,d⟩;obtain⟨A,_,y,_⟩:=yef k p i;obtain⟨B,_,z,_⟩:=yef k p j;exact⟨_,_,y,z,by omega,of_decide_eq_true c,of_decide_eq_true d⟩
 .rintro⟨a,b,i,j,h,c,d⟩;obtain⟨s,n,q⟩:=yli i;obtain⟨t,o,r⟩:=yli j;exact⟨s,n,t,o,fun e=>h (by rw[<-q,<-r,e]),decide_eq_true (by show m<=f s.1.toNat;rw[q];exact c),decide_eq_true (by show m<=f t.1.toNat;rw[r];exact d)⟩
def htP(g:Gr)(v:Nat):Int:=(top2 0 ((g.ports.getD v []).map fun l=>rchP g v l.1.toNat)).2
theorem yhl(g:Gr)(v:Nat):0<=htP g v:=(yjp 0 _).1
theorem yrz(c:ybi g)(d:v<g.ports.length){m:Int}(e:1<=m):m<=htP g v↔∃a b,adj g v a/\adj g v b/\a≠b/\m<=rchP g v a/\m<=rchP g v b:=by
 rw[<-ybsz c d (f:=fun u=>rchP g v u)];exact((yjp 0 _).2.2 m (by omega)).2
theorem Tr.ht_step(h:Tr g)(A:v<g.ports.length){m:Int}(z:1<=m)(t:∃a b,adj g v a/\adj g v b/\a≠b):m<=htP g v↔∃a b,adj g v a/\adj g v b/\a≠b/\m-1<=htP g a/\m-1<=htP g b:=by
 rw[yrz h.good A z]
 by_cases r:m=1
 .subst r;obtain⟨a,b,d,f,c⟩:=t;exact⟨fun _=>⟨a,b,d,f,c,by have:=yhl g a;omega,by have:=yhl g b;omega⟩,fun _=>⟨a,b,d,f,c,h.rch_pos d,h.rch_pos f⟩⟩
 have j:∀a b,adj g v a->adj g v b->a≠b->m<=rchP g v a->m<=rchP g v b->m-1<=htP g a:=fun a b d f c k l=>by
  rw[yrz h.good (h.good.adj_lt d).2 (by omega)]
  obtain⟨x,n,o,e⟩:=h.rch_from d (by omega)
  have s:=h.rch_step (h.good.adj_symm d) f (fun e=>c e.symm);exact⟨v,x,h.good.adj_symm d,n,fun e=>o e.symm,by omega,by omega⟩
 have i:∀a,adj g v a->m-1<=htP g a->m<=rchP g v a:=fun a d p=>by
  rw[yrz h.good (h.good.adj_lt d).2 (by omega)]at p
  obtain⟨x,y,n,B,c,C,D⟩:=p
  by_cases q:x=v
  .have s:=h.rch_step d B (fun e=>c (by rw[q,e]))
   omega
  .have s:=h.rch_step d n q;omega
 constructor
 .rintro⟨a,b,d,f,c,k,l⟩;exact⟨a,b,d,f,c,j a b d f c k l,j b a f d (fun e=>c e.symm) l k⟩
 .rintro⟨a,b,d,f,c,k,l⟩;exact⟨a,b,d,f,c,i a d k,i b f l⟩
theorem Tr.thru(h:Tr g)(j:w<g.ports.length):∀(k:Nat) (v u x:Nat),adj g v u->dP g w u=dP g w v+1->x<g.ports.length->dP g x u<dP g x v->(dP g x u).toNat<k->dP g w x=dP g w u+dP g x u
 |0,v,u,x,_,_,_,_,hk=>by omega
 | k + 1,v,u,x,n,o,d,r,hk=>by
   obtain⟨s,i⟩:=h.good.adj_lt n
   by_cases e:x=u
   .subst e;rw[h.self d];omega
   .obtain⟨y,f,p⟩:=h.back d i (fun q=>e q.symm);have m:y≠v:=fun q=>by subst q;omega
    have c:=h.up j f
    have l:dP g w y=dP g w u+1:=by
     rcases c with c|c
     .exact absurd (h.one j f (h.good.adj_symm n) c (by omega)) m
     .exact c
    have:=h.nonneg d (h.good.adj_lt f).2;have t:=Tr.thru h j k u y x f l d (by omega) (by omega)
    omega
theorem Tr.apart(h:Tr g)(i:adj g v a)(c:adj g v b)(e:a≠b)(d:w<g.ports.length)(j:x<g.ports.length)(o:dP g w a<dP g w v)(l:dP g x b<dP g x v):dP g w x=dP g w v+dP g x v:=by
 have m:=h.up d i;have k:=h.up d c;have n:=h.up j c
 have f:dP g w b=dP g w v+1:=by
  rcases k with q|q
  .exact absurd (h.one d i c (by omega) q) e
  .exact q
 have:=h.thru d _ v b x c f j l (zBG _);omega
end
end
section
def ycie:Ex:=.agg 28 (eQ 0)
def ybok:Ex:=.ite (.bin 37 (.leaf 9 0) (eNum 2)) (eNum 0) (.ite (.bin 37 ycie eN) (.bin 33 ycie (eNum 1)) eN)
def cnS(g:Gr)(c:Conf)(v:Nat):Int:=(top2 (-1073741824) ((g.ports.getD v []).map (endP c 0))).2
def cnV(g:Gr)(c:Conf)(v:Nat):Int:=if ((g.ports.getD v []).length:Int)<2 then 0 else if cnS g c v<(g.ids.length:Int)then cnS g c v+1 else(g.ids.length:Int)
section
variable {nm nh nr:ByteArray}{g:Gr}{c:Conf}{v:Nat}
theorem ycyg(g:Gr)(c:Conf)(v:Nat):-1073741824<=cnS g c v:=(yjp (-1073741824) _).1
theorem ycsv(g:Gr)(c:Conf)(v:Nat)(p:Int):ydp g c v ycie p=cnS g c v:=by
 show yiw 28 _=_;unfold yiw;rw[if_neg (by decide),if_neg (by decide),if_neg (by decide),if_neg (by decide),if_neg (by decide),if_neg (by decide),if_neg (by decide),if_neg (by decide),if_pos rfl]
 show(yeh _).2=_;unfold cnS;have e:∀l,yeh l=top2 (-1073741824) l:=fun l=>rfl;rw[e];congr 2;exact yzu g v _ _ fun q a=>rfl
theorem ybqr(f:ybi g)(p:Int):ydp g c v ybok p=cnV g c v:=by
 have j:=f.2.1;have k:=f.2.2.1;have l:=ycyg g c v;show(if binP 37 ((g.ports.getD v []).length:Int) 2≠0 then 0 else if binP 37 (ydp g c v ycie p) (g.ids.length:Int)≠0 then satP (ydp g c v ycie p+1)else(g.ids.length:Int))=_
 rw[ycsv];have e:∀a b:Int,binP 37 a b=ycc (decide (a<b)):=fun a b=>rfl;rw[e,e];unfold cnV;have i:ycc true≠0:=by decide
 have h:¬ycc false≠0:=by decide
 by_cases q:((g.ports.getD v []).length:Int)<2
 .rw[if_pos q,decide_eq_true q,if_pos i]
 .rw[if_neg q,decide_eq_false q,if_neg h]
  by_cases d:cnS g c v<(g.ids.length:Int)
  .rw[if_pos d,decide_eq_true d,if_pos i];unfold satP;omega
  .rw[if_neg d,decide_eq_false d,if_neg h]
theorem Tr.ht_lt(h:Tr g)(d:v<g.ports.length):htP g v<g.ports.length:=by
 rcases zZ (htP g v) 1 with q|q
 .omega
 .obtain⟨a,b,f,_,_,j,_⟩:=(yrz h.good d q).1 (zU _);obtain⟨w,i,_,e⟩:=h.rch_ex f;have:=h.lt_n i d;omega
theorem ync(k:ybi g)(o:v<g.ports.length):2<=(g.ports.getD v []).length↔∃a b,adj g v a/\adj g v b/\a≠b:=by
 constructor
 .intro h;have z:(g.ports.getD v [])[0]∈g.ports.getD v []:=zH _;have A:(g.ports.getD v [])[1]∈g.ports.getD v []:=zH _;obtain⟨B,_,q,_⟩:=yef k o z;obtain⟨C,_,r,_⟩:=yef k o A;refine⟨_,_,q,r,fun e=>?_⟩;have y:=yzm k o;have d:0<((g.ports.getD v []).map (·.1)).length:=by rw[zAG];omega
  have f:1<((g.ports.getD v []).map (·.1)).length:=by rw[zAG];omega
  have:=(List.getElem_inj (h₀:=d) (h₁:=f) y).1 (by rw[zAR,zAR];omega)
  omega
 .rintro⟨a,b,w,x,n⟩;obtain⟨F,l,t⟩:=yli w;obtain⟨G,m,u⟩:=yli x;obtain⟨i,D,s⟩:=zAD l;obtain⟨j,E,p⟩:=zAD m
  have:i≠j:=fun e=>by
   subst e;rw[s]at p;exact n (by rw[<-t,<-u,p])
  omega
theorem Tr.cn_next(h:Tr g)(K:v<g.ids.length)(r:Nat)(s:∀u,u<g.ids.length->if htP g u<(r:Int)then(c.getD u []).getD 0 0=htP g u else(r:Int)<=(c.getD u []).getD 0 0) :
 if htP g v<((r+1:Nat):Int)then cnV g c v=htP g v else((r+1:Nat):Int)<=cnV g c v:=by
 have E:=h.good.2.2.1;have k:v<g.ports.length:=by omega
 have D:=h.ht_lt k;have H:=yhl g v
 by_cases z:2<=(g.ports.getD v []).length
 .have t:cnV g c v=if cnS g c v<(g.ids.length:Int)then cnS g c v+1 else(g.ids.length:Int):=by unfold cnV;rw[if_neg (by omega)]
  rw[t];have o:=(ync h.good k).1 z
  have d:∀u (j:Int),u<g.ids.length->j<=r->(j<=(c.getD u []).getD 0 0↔j<=htP g u):=fun u j F J=>by
   have:=s u F;split at this
   .rw[this]
   .omega
  have p:∀m:Int,1<=m->m<=r+1->(m<=cnS g c v+1↔m<=htP g v):=fun m w I=>by
   rw[h.ht_step k w o];have e:=((yjp (-1073741824) ((g.ports.getD v []).map (endP c 0))).2.2 (m-1) (by omega)).2
   have B:=ybsz h.good k (f:=fun u=>(c.getD u []).getD 0 0) (m:=m-1);have C:m<=cnS g c v+1↔m-1<=cnS g c v:=by omega
   rw[C];refine e.trans (B.trans ?_);constructor
   .rintro⟨a,b,l,n,i,x,y⟩;exact⟨a,b,l,n,i,(d a _ (by have:=(h.good.adj_lt l).2;omega) (by omega)).1 x,(d b _ (by have:=(h.good.adj_lt n).2;omega) (by omega)).1 y⟩
   .rintro⟨a,b,l,n,i,x,y⟩;exact⟨a,b,l,n,i,(d a _ (by have:=(h.good.adj_lt l).2;omega) (by omega)).2 x,(d b _ (by have:=(h.good.adj_lt n).2;omega) (by omega)).2 y⟩
  have w:1<=htP g v:=by
   rw[h.ht_step k (zU 1) o];obtain⟨a,b,l,n,i⟩:=o;exact⟨a,b,l,n,i,by have:=yhl g a;omega,by have:=yhl g b;omega⟩
  by_cases A:htP g v<((r+1:Nat):Int)
  .rw[if_pos A];have G:=(p (htP g v) w (by omega)).2 (zU _)
   have L:¬htP g v+1<=cnS g c v+1:=fun q=>by
    have:=(p (htP g v+1) (by omega) (by omega)).1 q
    omega
   rw[if_pos (by omega)]
   omega
  .rw[if_neg A];have G:=(p (r+1) (by omega) (by omega)).2 (by omega)
   split<;>omega
 .have t:cnV g c v=0:=by unfold cnV;rw[if_pos (by omega)]
  rw[t]
  have:htP g v=0:=by
   rcases zZ (htP g v) 1 with q|q
   .omega
   .obtain⟨a,b,l,n,i,_⟩:=(yrz h.good k q).1 (zU _);exact absurd ((ync h.good k).2 ⟨a,b,l,n,i⟩) z
  rw[this,if_pos (by omega)]
theorem Tr.ht_diam(h:Tr g)(e:v<g.ports.length){d:Int}(k:∀a b,a<g.ports.length->b<g.ports.length->dP g a b<=d):2*htP g v<=d:=by
 rcases zZ (htP g v) 1 with q|q
 .have:=k v v e e;have:=h.self e;have:=yhl g v;omega
 .obtain⟨a,b,i,j,f,p,r⟩:=(yrz h.good e q).1 (zU _);obtain⟨w,l,n,s⟩:=h.rch_ex i;obtain⟨x,m,o,t⟩:=h.rch_ex j;have:=h.apart i j f l m n o;have:=k w x l m;omega
structure CnC(g:Gr)(c:Conf):Prop where
 len:c.length=g.ids.length
 row:∀v,v<g.ids.length->(c.getD v []).length=1/\(0<=(c.getD v []).getD 0 0/\(c.getD v []).getD 0 0<=g.ids.length)
theorem yecg(d:ybi g)(n:v<g.ids.length)(i:∀u,u<g.ids.length->0<=(c.getD u []).getD 0 0):0<=cnV g c v/\cnV g c v<=g.ids.length:=by
 have l:=d.2.2.1;unfold cnV;split
 .omega
 .rename_i q
  have:0<=cnS g c v:=by
   have e:=((yjp (-1073741824) ((g.ports.getD v []).map (endP c 0))).2.2 0 (by omega)).2
   refine e.2 ((ybsz d (by omega) (f:=fun u=>(c.getD u []).getD 0 0) (m:=0)).2 ?_)
   obtain⟨a,b,j,k,h⟩:=(ync d (v:=v) (by omega)).1 (by omega)
   exact⟨a,b,j,k,h,i a (by have:=(d.adj_lt j).2;omega),i b (by have:=(d.adj_lt k).2;omega)⟩
  split<;>omega
end
end
section
section
variable {g:Gr}{a b u v w x:Nat}
def ybas(g:Gr)(v:Nat)(e:Int):Prop:=(∀w,w<g.ports.length->dP g w v<=e)/\∃w,w<g.ports.length/\dP g w v=e
theorem ybcz(h:v<g.ports.length):∃e,ybas g v e:=by
 rcases(ywk (fun w=>dP g w v) (fun _=>True) (zS g.ports.length) (dP g v v))with⟨i,f,c⟩;refine⟨_,fun w d=>f w (List.mem_range.2 d) trivial,?_⟩;rcases c with c|⟨w,d,_,e⟩
 .exact⟨v,h,c.symm⟩
 .exact⟨w,List.mem_range.1 d,e⟩
theorem Tr.side(h:Tr g)(c:adj g v u)(d:w<g.ports.length):(dP g w u<dP g w v/\dP g w v=dP g w u+1)\/(dP g w v<dP g w u/\dP g w u=dP g w v+1):=by
 rcases h.up d c with q|q<;>omega
theorem Tr.link(h:Tr g)(c:adj g v u){ev l:Int}(e:ybas g v ev)(f:ybas g u l) :
 ev=max (rchP g u v-1) (rchP g v u)/\l=max (rchP g v u-1) (rchP g u v):=by
 have d:∀{v u:Nat}{ev:Int},adj g v u->ybas g v ev->ev=max (rchP g u v-1) (rchP g v u):=fun {v u ev} c e=>by
  obtain⟨z,o⟩:=h.good.adj_lt c;obtain⟨k,w,i,t⟩:=e
  have n:ev<=max (rchP g u v-1) (rchP g v u):=by
   rcases h.side c i with⟨q,j⟩|⟨q,j⟩
   .have:=ybiw i q;omega
   .have:=ybiw (u:=v) (v:=u) i q;omega
  obtain⟨x,p,A,B⟩:=h.rch_ex c;obtain⟨y,m,C,D⟩:=h.rch_ex (h.good.adj_symm c);have r:=k x p;have s:=k y m;rcases h.side c m with⟨q,j⟩|⟨q,j⟩<;>omega
 exact⟨d c e,d (h.good.adj_symm c) f⟩
theorem Tr.ht_link(h:Tr g)(f:adj g v u):(rchP g u v-1<=rchP g v u->htP g v=rchP g u v-1)/\(rchP g v u<=rchP g u v-1->rchP g v u<=htP g v):=by
 obtain⟨i,o⟩:=h.good.adj_lt f;have p:=h.rch_pos f;have r:=h.rch_pos (h.good.adj_symm f);have c:2<=rchP g u v->∃x,adj g v x/\x≠u/\rchP g u v=1+rchP g v x:=fun q=>h.rch_from (h.good.adj_symm f) q;constructor
 .intro n;refine zCF ?_ ?_
  .rcases zZ (htP g v) 1 with q|q
   .omega
   .obtain⟨a,b,l,m,d,s,t⟩:=(yrz h.good i q).1 (zU _)
    by_cases e:a=u
    .have:=h.rch_step (h.good.adj_symm f) m (fun k=>d (by rw[e,k]))
     omega
    .have:=h.rch_step (h.good.adj_symm f) l e;omega
  .rcases zZ (rchP g u v) 2 with q|q
   .have:=yhl g v;omega
   .obtain⟨x,j,d,e⟩:=c q;exact(yrz h.good i (by omega)).2 ⟨x,u,j,f,d,by omega,by omega⟩
 .intro n;obtain⟨x,j,d,e⟩:=c (by omega)
  exact(yrz h.good i p).2 ⟨x,u,j,f,d,by omega,by omega⟩
theorem Tr.higher(h:Tr g)(e:adj g v u){ev c:Int}(l:ybas g v ev)(d:ybas g u c):(htP g v<htP g u↔c<ev)/\(htP g v=htP g u↔c=ev):=by
 obtain⟨m,n⟩:=h.link e l d;obtain⟨f,j⟩:=h.ht_link e;obtain⟨i,k⟩:=h.ht_link (h.good.adj_symm e);rcases Int.lt_trichotomy (rchP g v u) (rchP g u v)with q|q|q
 .have:=i (by omega)
  have:=j (by omega)
  omega
 .have:=f (by omega)
  have:=i (by omega)
  omega
 .have:=f (by omega)
  have:=k (by omega)
  omega
def Peak(g:Gr)(v:Nat):Prop:=∀u,adj g v u->htP g u<=htP g v
theorem Tr.peak_least(h:Tr g)(s:Peak g v)(n:v<g.ports.length)(j:x<g.ports.length){ev ex:Int}(k:ybas g v ev)(d:ybas g x ex):ev<=ex/\(ex=ev->x≠v->dP g x v=1):=by
 by_cases e:x=v
 .subst e;obtain⟨B,w,t,H⟩:=k;obtain⟨A,y,i,G⟩:=d;have:=B y i;have:=A w t;exact⟨by omega,fun _ l=>absurd rfl l⟩
 .obtain⟨u,c,D⟩:=h.back j n (fun q=>e q.symm);obtain⟨C,f⟩:=ybcz (g:=g) (h.good.adj_lt c).2;obtain⟨E,F⟩:=h.link c k f;have p:=(h.higher c k f).1;have r:=s u c;have m:=h.pos j n (fun q=>e q.symm)
  have o:rchP g v u<=rchP g u v:=by
   rcases zZ (rchP g u v) (rchP g v u)with q|q
   .have:=p.2 (by omega);omega
   .exact q
  obtain⟨y,i,I,J⟩:=h.rch_ex (h.good.adj_symm c);have far:dP g y x=dP g y u+dP g x u:=h.thru i _ v u x c (by rcases h.side c i with⟨q,_⟩|⟨_,q⟩<;>omega) j (by omega) (zBG _)
  have:=d.1 y i;have z:=h.nonneg j (h.good.adj_lt c).2;exact⟨by omega,fun q _=>by omega⟩
theorem Tr.least_peak(h:Tr g)(l:v<g.ports.length){ev:Int}(i:ybas g v ev)(j:∀x ex,x<g.ports.length->ybas g x ex->ev<=ex):Peak g v:=fun u d=>by
 obtain⟨e,c⟩:=ybcz (g:=g) (h.good.adj_lt d).2;have f:=(h.higher d i c).1;have k:=j u e (h.good.adj_lt d).2 c;rcases zZ (htP g v) (htP g u)with q|q
 .have:=f.1 q;omega
 .exact q
theorem Tr.peaks_adj(h:Tr g)(j:Peak g v)(k:Peak g x)(e:v<g.ports.length)(f:x<g.ports.length)(d:x≠v):dP g x v=1:=by
 obtain⟨ev,i⟩:=ybcz (g:=g) e;obtain⟨ex,c⟩:=ybcz (g:=g) f;have a:=(h.peak_least j e f i c);have b:=(h.peak_least k f e c i);exact a.2 (by omega) d
theorem Tr.adj_of(h:Tr g)(i:v<g.ports.length)(j:x<g.ports.length)(l:dP g x v=1):adj g v x:=by
 have c:v≠x:=fun e=>by subst e;have:=h.self i;omega
 obtain⟨u,f,k⟩:=h.back j i c;have d:=(h.good.adj_lt f).2
 by_cases e:u=x
 .rw[<-e];exact f
 .have:=h.pos j d e;omega
theorem Tr.no_three(h:Tr g)(l:Peak g a)(m:Peak g b)(n:Peak g x)(i:a<g.ports.length)(j:b<g.ports.length)(k:x<g.ports.length)(c:a≠b)(d:a≠x)(f:b≠x):False:=by
 have o:=h.adj_of i j (h.peaks_adj l m i j (fun e=>c e.symm));have p:=h.peaks_adj l n i k (fun e=>d e.symm);have r:=h.peaks_adj m n j k (fun e=>f e.symm);rcases h.up k o with q|q<;>omega
theorem Tr.peak_eq(h:Tr g)(l:Peak g v)(i:adj g v u)(k:htP g u=htP g v):Peak g u:=by
 obtain⟨j,e⟩:=h.good.adj_lt i;obtain⟨ev,d⟩:=ybcz (g:=g) j;obtain⟨n,c⟩:=ybcz (g:=g) e;have o:=(h.higher i d c).2.1 k.symm
 exact h.least_peak e c fun x ex m f=>by
  have:=(h.peak_least l j m d f).1;omega
theorem Tr.peak_ex(h:Tr g):∃v,v<g.ports.length/\Peak g v:=by
 have j:0<g.ports.length:=by have:=h.good.1;omega
 have:∀n,n<=g.ports.length->0<n->∃v,v < n/\∀u,u<n->htP g u<=htP g v:=by
  intro n
  induction n with
  |zero=>intro _ h;omega
  | succ n k =>
    intro l _
    by_cases q:n=0
    .subst q;exact⟨0,by omega,fun u d=>by have:u=0:=by omega
                                          subst this;exact zU _⟩
    .obtain⟨v,f,c⟩:=k (by omega) (by omega)
     rcases zZ (htP g v) (htP g n)with i|i
     .refine⟨n,by omega,fun u d=>?_⟩
      by_cases e:u=n
      .subst e;exact zU _
      .have:=c u (by omega);omega
     .refine⟨v,by omega,fun u d=>?_⟩
      by_cases e:u=n
      .subst e;exact i
      .exact c u (by omega)
 obtain⟨v,f,c⟩:=this g.ports.length (zM _) j;exact⟨v,f,fun u d=>c u (h.good.adj_lt d).2⟩
end
end
section
namespace Sh
section
variable {nm nd np nt nl:ByteArray}{g:Gr}
end
end Sh
end
section
def ybwn(g:Gr)(s:Nat):Prop:=∀u v,adj g u v->s.testBit u=true->s.testBit v=false
structure ByRoundsC(S:Sys)(V:Conf->Prop)(D:Nat->Prop)(P:Nat->Nat->Conf->Prop):Prop where
 valid:∀c s,V c->s≠0->subB s (S.en c)->D s->V (S.mv c s)
 stay:∀c s v r r',r<=r'->r'<=r+1->V c->v<S.n->s.testBit v=false->subB s (S.en c)->D s->(∀u,u<S.n->P r u c)->P r' v c->P r' v (S.mv c s)
 move:∀c s v r,V c->v<S.n->s.testBit v=true->subB s (S.en c)->D s->(∀u,u<S.n->P r u c)->P (r+1) v (S.mv c s)
 rest:∀c v r,V c->v<S.n->(S.en c).testBit v=false->(∀u,u<S.n->P r u c)->P (r+1) v c
 less:∀r v c,P (r+1) v c->P r v c
structure RInvC(S:Sys)(V:Conf->Prop)(P:Nat->Nat->Conf->Prop)(c:Conf)(k:Cnt):Prop where
 valid:V c
 all:∀v,v<S.n->P k.rounds v c
 done:∀v,v<S.n->k.pend.testBit v=false->P (k.rounds+1) v c
 begun:k.begun<=k.rounds+1
section
variable {S:Sys}{V:Conf->Prop}{D:Nat->Prop}{P:Nat->Nat->Conf->Prop}
theorem ByRoundsC.start(h:ByRoundsC S V D P){c:Conf}(b:V c)(a:∀v,v<S.n->P 0 v c):RInvC S V P c (ybkm (S.en c)) :=
 ⟨b,a,fun v e d=>h.rest c v 0 b e d a,by simp[ybkm]⟩
theorem ByRoundsC.step(h:ByRoundsC S V D P)(c:Conf)(k:Cnt)(s:Nat)(t:RInvC S V P c k)(r:s≠0)(l:subB s (S.en c))(i:D s):RInvC S V P (S.mv c s) (addP k s (S.en (S.mv c s))):=by
 obtain⟨m,o,u,w⟩:=t;have p:=h.valid c s m r l i
 have e:∀v,v<S.n->P k.rounds v (S.mv c s):=fun v a=>by
  cases f:s.testBit v with
  |true=>exact h.less _ _ _ (h.move c s v _ m a f l i o)
  |false=>exact h.stay c s v _ _ (zM _) (zCN _) m a f l i o (o v a)
 have d:∀v,v<S.n->(difB k.pend s&&&S.en (S.mv c s)).testBit v=false->P (k.rounds+1) v (S.mv c s):=fun v a f=>by
  rw[zBJ,ynv]at f;cases g:s.testBit v with
  |true=>exact h.move c s v _ m a g l i o
  | false =>
    cases j:k.pend.testBit v with
    |false=>exact h.stay c s v _ _ (zCN _) (zM _) m a g l i o (u v a j)
    | true =>
      rw[g,j]at f;exact h.rest _ v _ p a (by simpa using f) e
 unfold addP;simp only
 by_cases q:difB k.pend s&&&S.en (S.mv c s)=0
 .simp only[if_pos q];have b:∀v,v<S.n->P (k.rounds+1) v (S.mv c s):=fun v a=>d v a (by rw[q];simp)
  exact⟨p,b,fun v a f=>h.rest _ v _ p a f b,by show k.rounds+1<=_;simp⟩
 .simp only[if_neg q];exact⟨p,e,d,zM _⟩
theorem ByRoundsC.silent(h:ByRoundsC S V D P){c:Conf}(e:V c)(b:∀v,v<S.n->P 0 v c)(d:S.en c=0):∀r v,v<S.n->P r v c
 |0,v,a=>b v a
 |r+1,v,a=>h.rest c v r e a (by rw[d];simp) (ByRoundsC.silent h e b d r)
end
end
section
def ydbo:Ex:=.bin 41 (eVar 1) (.un 19 (.agg 20 (.bin 38 (eQ 0) (eVar 0))))
def ycwy:Ex:=.bin 41 (.un 19 (eVar 1)) (.agg 20 (.bin 37 (eQ 0) (eVar 0)))
def ydyk:Ex:=.bin 41 (.bin 41 (.bin 37 (eVar 0) eN) (.agg 20 (.bin 38 (eQ 0) (eVar 0)))) (.agg 21 (.bin 41 (.bin 35 (eQ 0) (eVar 0)) (.bin 35 (eQ 1) (eVar 1))))
def yby(nm h l f d t i:ByteArray):ProgT:=⟨nm,[⟨h,1,0,0,1,0⟩,⟨l,2,0,0,0,0⟩],[⟨f,.bin 36 (eVar 0) ybok,[(0,ybok)]⟩,⟨d,ydbo,[(1,.leaf 3 0)]⟩,⟨t,ycwy,[(1,.leaf 2 0)]⟩,⟨i,ydyk,[(1,.un 19 (eVar 1))]⟩]⟩
theorem count_filter(f:Int×Int->Bool)(ls:List (Int×Int)):countP (ls.map fun l=>ycc (f l))=((ls.filter f).length:Int):=by
 unfold countP
 induction ls with
 |nil=>rfl
 | cons l ls a =>
   cases h:f l with
   | false =>
     rw[zAK,zAT,zAT,h];have e:((ycc false != 0)=true)=False:=by simp[ycc]
     simp only[e,if_false,zBS];exact a
   | true =>
     rw[zAK,zAT,zAT,h];have e:((ycc true != 0)=true)=True:=by simp[ycc]
     simp only[e,if_true,zAS];omega
theorem ycon(f:Int×Int->Bool)(ls:List (Int×Int)):yiw 20 (ls.map fun l=>ycc (f l))=ycc (ls.all f):=by
 show ycc (countP _==((zAZ (ls.map _):Nat):Int))=_;rw[count_filter,zAG];congr 1;rw[zBN,beq_iff_eq,zCB];constructor
 .intro h l a;have h:(ls.filter f).length=ls.length:=by omega
  exact List.length_filter_eq_length_iff.1 h l a
 .intro h;have:(ls.filter f).length=ls.length:=List.length_filter_eq_length_iff.2 h;omega
theorem ybyw(f:Int×Int->Bool)(ls:List (Int×Int)):yiw 21 (ls.map fun l=>ycc (f l))=ycc (ls.any f):=by
 show ycc (decide (countP _>0))=_;rw[count_filter];congr 1;rw[zBN,decide_eq_true_iff,zCC];constructor
 .intro h;have h:0<(ls.filter f).length:=by omega
  obtain⟨l,a⟩:=List.exists_mem_of_length_pos h;exact⟨l,(List.mem_filter.1 a).1,(List.mem_filter.1 a).2⟩
 .rintro⟨l,a,b⟩;have:=zBO (List.mem_filter.2 ⟨a,b⟩);omega
def hAt(c:Conf)(v:Nat):Int:=(c.getD v []).getD 0 0
def lAt(c:Conf)(v:Nat):Int:=(c.getD v []).getD 1 0
section
variable {nm nh nl nf nd nt ni:ByteArray}{g:Gr}{c:Conf}{u v w:Nat}
def ypz(g:Gr)(c:Conf)(v:Nat):Prop:=lAt c v=1/\∃u,adj g v u/\hAt c v<hAt c u
def ypp(g:Gr)(c:Conf)(v:Nat):Prop:=lAt c v=0/\∀u,adj g v u->hAt c u<hAt c v
def gTie(g:Gr)(c:Conf)(v:Nat):Prop:=hAt c v<(g.ids.length:Int)/\(∀u,adj g v u->hAt c u<=hAt c v)/\∃u,adj g v u/\hAt c u=hAt c v/\lAt c u=lAt c v
structure ElC(g:Gr)(c:Conf):Prop where
 len:c.length=g.ids.length
 row:∀v,v<g.ids.length->(c.getD v []).length=2/\(0<=hAt c v/\hAt c v<=g.ids.length)/\(lAt c v=0\/lAt c v=1)
theorem bTB{x:ByteArray}:ybk g v ⟨x,2,0,0,0,0⟩=(0,1):=by
 show(if (2:Int)=1 then _ else if (2:Int)=2 then _ else _)=_
 rw[if_neg (by decide),if_pos rfl]
theorem ymx(l:yfe (yby nm nh nl nf nd nt ni) g c=true):ElC g c:=by
 have h:=(ygh _ _ _).1 l;refine⟨h.1,fun v m=>?_⟩;have a:v<c.length:=by rw[h.1];exact m
 have e:c.getD v []=c[v]:=by simp[zK,a]
 have b:=h.2 v _ (zL a);unfold hAt lAt;rw[e];have d:c[v].length=2:=b.1;have f:(ybk g v ⟨nh,1,0,0,1,0⟩).1<=c[v][0]/\c[v][0]<=(ybk g v ⟨nh,1,0,0,1,0⟩).2:=b.2 0 _ _ rfl (zL (by omega))
 have i:(ybk g v ⟨nl,2,0,0,0,0⟩).1<=c[v][1]/\c[v][1]<=(ybk g v ⟨nl,2,0,0,0,0⟩).2:=b.2 1 _ _ rfl (zL (by omega))
 have j:c[v].getD 0 0=c[v][0]:=by simp[zK,d]
 have k:c[v].getD 1 0=c[v][1]:=by simp[zK,d]
 rw[j,k];rw[bT1]at f;rw[bTB]at i;simp only at f i;exact⟨d,⟨by omega,by omega⟩,by omega⟩
theorem yccp(b:ybi g)(i:v<g.ports.length){f:Nat->Bool}:(g.ports.getD v []).all (fun l=>f l.1.toNat)=true↔∀u,adj g v u->f u=true:=by
 rw[zCB];constructor
 .intro h u d;obtain⟨l,a,e⟩:=yli d;rw[<-e];exact h l a
 .intro h l a;exact h _ (yef b i a).2.2.1
theorem yedq(d:ybi g)(i:v<g.ports.length){f:Nat->Bool}:(g.ports.getD v []).any (fun l=>f l.1.toNat)=true↔∃u,adj g v u/\f u=true:=by
 rw[zCC];constructor
 .rintro⟨l,b,a⟩;exact⟨_,(yef d i b).2.2.1,a⟩
 .rintro⟨u,h,a⟩;obtain⟨l,b,e⟩:=yli h;exact⟨l,b,by rw[e];exact a⟩
theorem ybzp(k:ybi g)(h:ElC g c)(F:v<g.ids.length) :
 (yly g c v ⟨nf,.bin 36 (eVar 0) ybok,[(0,ybok)]⟩=true↔hAt c v≠cnV g c v) /\
 (yly g c v ⟨nd,ydbo,[(1,.leaf 3 0)]⟩=true↔ypz g c v) /\
 (yly g c v ⟨nt,ycwy,[(1,.leaf 2 0)]⟩=true↔ypp g c v) /\
 (yly g c v ⟨ni,ydyk,[(1,.un 19 (eVar 1))]⟩=true↔gTie g c v):=by
 have i:v<g.ports.length:=by have:=k.2.2.1;omega
 have A:=(h.row v F).2.2;have r:∀a b:Int,binP 36 a b=ycc (a != b):=fun a b=>rfl;have s:∀a b:Int,binP 37 a b=ycc (decide (a<b)):=fun a b=>rfl;have D:∀a b:Int,binP 38 a b=ycc (decide (a<=b)):=fun a b=>rfl;have n:∀a b:Int,binP 35 a b=ycc (a==b):=fun a b=>rfl;have d:∀a b:Bool,binP 41 (ycc a) (ycc b)=ycc (a&&b):=fun a b=>by cases a<;>cases b<;>rfl
 have p:∀a:Bool,unP 19 (ycc a)=ycc (!a):=fun a=>by cases a<;>rfl
 have z:ydp g c v (eVar 1) (-1)=ycc (lAt c v==1):=by
  show lAt c v=_;rcases A with q|q<;>rw[q]<;>rfl
 have j:∀(f:Nat->Bool) (x:Ex),(∀q:Nat,q<(g.ports.getD v []).length->ydp g c v x q=ycc (f (ydd g v q).1.toNat))->ydp g c v (.agg 20 x) (-1)=ycc ((g.ports.getD v []).all fun l=>f l.1.toNat):=fun f x t=>by
  rw[<-ycon];show yiw 20 _=_;congr 1;exact yzu g v _ _ fun q e=>t q e
 have m:∀(f:Nat->Bool) (x:Ex),(∀q:Nat,q<(g.ports.getD v []).length->ydp g c v x q=ycc (f (ydd g v q).1.toNat))->ydp g c v (.agg 21 x) (-1)=ycc ((g.ports.getD v []).any fun l=>f l.1.toNat):=fun f x t=>by
  rw[<-ybyw];show yiw 21 _=_;congr 1;exact yzu g v _ _ fun q e=>t q e
 have y:=j (fun u=>decide (hAt c u<=hAt c v)) (.bin 38 (eQ 0) (eVar 0)) fun q e=>rfl;have B:=j (fun u=>decide (hAt c u<hAt c v)) (.bin 37 (eQ 0) (eVar 0)) fun q e=>rfl
 have C:=m (fun u=>(hAt c u==hAt c v)&&(lAt c u==lAt c v)) (.bin 41 (.bin 35 (eQ 0) (eVar 0)) (.bin 35 (eQ 1) (eVar 1))) fun q e=>by
  show binP 41 (binP 35 _ _) (binP 35 _ _)=_;rw[n,n,d];rfl
 refine⟨?_,?_,?_,?_⟩
 .show(binP 36 (hAt c v) (ydp g c v ybok (-1))!=0)=true↔_;rw[ybqr k,r,yql,bne_iff_ne]
 .show(binP 41 (ydp g c v (eVar 1) (-1)) (unP 19 (ydp g c v (.agg 20 (.bin 38 (eQ 0) (eVar 0))) (-1)))!=0)=true↔_;rw[z,y,p,d,yql,zF,beq_iff_eq,zBY];unfold ypz;refine and_congr_right fun _=>?_;rw[Bool.eq_false_iff,Ne,yccp k i (f:=fun u=>decide (hAt c u<=hAt c v))];constructor
  .intro e;refine zW fun E=>e fun u o=>decide_eq_true ?_;rcases zZ (hAt c v) (hAt c u)with q|q
   .exact absurd ⟨u,o,q⟩ E
   .exact q
  .rintro⟨u,o,q⟩ e;have:=of_decide_eq_true (e u o);omega
 .show(binP 41 (unP 19 (ydp g c v (eVar 1) (-1))) (ydp g c v (.agg 20 (.bin 37 (eQ 0) (eVar 0))) (-1))!=0)=true↔_;rw[z,B,p,d,yql,zF,yccp k i (f:=fun u=>decide (hAt c u<hAt c v))];unfold ypp;refine and_congr ?_ ?_
  .rcases A with q|q<;>rw[q]<;>decide
  .exact forall_congr' fun u=>forall_congr' fun o=>decide_eq_true_iff
 .show(binP 41 (binP 41 (binP 37 (hAt c v) (g.ids.length:Int)) (ydp g c v (.agg 20 (.bin 38 (eQ 0) (eVar 0))) (-1))) (ydp g c v (.agg 21 (.bin 41 (.bin 35 (eQ 0) (eVar 0)) (.bin 35 (eQ 1) (eVar 1)))) (-1))!=0)=true↔_;rw[y,C,s,d,d,yql,zF,zF,yccp k i (f:=fun u=>decide (hAt c u<=hAt c v)),yedq k i (f:=fun u=>(hAt c u==hAt c v)&&(lAt c u==lAt c v)),decide_eq_true_iff];unfold gTie;rw[and_assoc];refine and_congr_right fun _=>and_congr ?_ ?_
  .exact forall_congr' fun u=>forall_congr' fun o=>decide_eq_true_iff
  .refine exists_congr fun u=>and_congr_right fun _=>?_;rw[zF,beq_iff_eq,beq_iff_eq]
open Classical in
noncomputable def ypb(g:Gr)(c:Conf)(v:Nat):Int:=if hAt c v≠cnV g c v then 0 else if ypz g c v then 1 else if ypp g c v then 2 else if gTie g c v then 3 else -1
theorem ycem(m:ybi g)(h:ElC g c)(n:v<g.ids.length):yeu (yby nm nh nl nf nd nt ni) g c v=ypb g c v:=by
 obtain⟨i,j,k,l⟩:=ybzp (nf:=nf) (nd:=nd) (nt:=nt) (ni:=ni) m h n;unfold yeu yby ypb;simp only[List.findIdx?_cons,List.findIdx?_nil]
 by_cases a:hAt c v≠cnV g c v
 .rw[if_pos a,i.2 a];rfl
 .rw[if_neg a,Bool.eq_false_iff.2 fun e=>a (i.1 e)]
  by_cases b:ypz g c v
  .rw[if_pos b,j.2 b];rfl
  .rw[if_neg b,Bool.eq_false_iff.2 fun e=>b (j.1 e)]
   by_cases d:ypp g c v
   .rw[if_pos d,k.2 d];rfl
   .rw[if_neg d,Bool.eq_false_iff.2 fun e=>d (k.1 e)]
    by_cases f:gTie g c v
    .rw[if_pos f,l.2 f];rfl
    .rw[if_neg f,Bool.eq_false_iff.2 fun e=>f (l.1 e)];rfl
theorem ydum(j:ybi g)(h:ElC g c)(k:v<g.ids.length)(a:ypb g c v ≠ -1) :
 ∃ s,ykq (yby nm nh nl nf nd nt ni) g c v (yeu (yby nm nh nl nf nd nt ni) g c v).toNat=s/\s.getD 0 0=cnV g c v /\
   ((hAt c v≠cnV g c v/\s.getD 1 0=lAt c v)\/(hAt c v=cnV g c v/\((ypz g c v/\s.getD 1 0=0)\/(ypp g c v/\s.getD 1 0=1)\/(gTie g c v/\s.getD 1 0=1-lAt c v)))):=by
 rw[ycem j h k];obtain⟨r,E,t⟩:=h.row v k
 obtain⟨x,y,d⟩:∃x y,c.getD v []=[x,y]:=by
  match hq:c.getD v [],r with
  |[x,y],_=>exact⟨x,y,rfl⟩
 have l:hAt c v=x:=by unfold hAt;rw[d];rfl
 have B:lAt c v=y:=by unfold lAt;rw[d];rfl
 obtain⟨C,D⟩:=yecg j k fun u A=>(h.row u A).2.1.1;refine⟨_,rfl,?_⟩;unfold ykq yvu;rw[d]
 have i:∀z:Int,0<=z/\z<=1->yhd 2 (ybk g v ⟨nl,2,0,0,0,0⟩) z=z:=fun z p=>by
  unfold yhd;rw[bTB,if_pos ⟨p.1,p.2⟩]
 unfold ypb at a ⊢
 by_cases f:hAt c v≠cnV g c v
 .rw[if_pos f];show([yhd 1 (ybk g v ⟨nh,1,0,0,1,0⟩) (ydp g c v ybok (-1)),y]:List Int).getD 0 0=_/\_;rw[ybqr j];refine⟨?_,.inl ⟨f,B.symm⟩⟩;show yhd 1 (ybk g v ⟨nh,1,0,0,1,0⟩) (cnV g c v)=_;unfold yhd;rw[bT1,if_pos (by simp only;omega)]
 .have b:hAt c v=cnV g c v:=Classical.not_not.1 f;rw[if_neg f]at a ⊢
  by_cases m:ypz g c v
  .rw[if_pos m];show([x,yhd 2 (ybk g v ⟨nl,2,0,0,0,0⟩) 0]:List Int).getD 0 0=_/\_;refine⟨by rw[<-b,l];rfl,.inr ⟨b,.inl ⟨m,?_⟩⟩⟩
   exact i 0 (by omega)
  .rw[if_neg m]at a ⊢
   by_cases n:ypp g c v
   .rw[if_pos n];show([x,yhd 2 (ybk g v ⟨nl,2,0,0,0,0⟩) 1]:List Int).getD 0 0=_/\_;refine⟨by rw[<-b,l];rfl,.inr ⟨b,.inr (.inl ⟨n,?_⟩)⟩⟩
    exact i 1 (by omega)
   .rw[if_neg n]at a ⊢
    by_cases o:gTie g c v
    .rw[if_pos o];show([x,yhd 2 (ybk g v ⟨nl,2,0,0,0,0⟩) (unP 19 (ydp g c v (eVar 1) (-1)))]:List Int).getD 0 0=_/\_;refine⟨by rw[<-b,l];rfl,.inr ⟨b,.inr (.inr ⟨o,?_⟩)⟩⟩
     have e:unP 19 (ydp g c v (eVar 1) (-1))=1-lAt c v:=by
      show ycc (lAt c v==0)=_;rcases t with q|q<;>rw[q]<;>rfl
     show yhd 2 _ (unP 19 (ydp g c v (eVar 1) (-1)))=_;rw[e];exact i _ (by omega)
    .rw[if_neg o]at a;exact absurd rfl a
end
end
section
structure Stab(g:Gr)(c:Conf)(v:Nat):Prop where
 low:¬Peak g v->lAt c v=0
 one:Peak g v->(∀u,adj g v u->htP g u<htP g v)->lAt c v=1
 two:Peak g v->∀u,adj g v u->htP g u=htP g v->lAt c u≠lAt c v
def yhv(g:Gr)(c:Conf):Prop:=∀v,v<g.ids.length->hAt c v=htP g v
section
variable {nm nh nl nf nd nt ni:ByteArray}{g:Gr}{c:Conf}{u v w s:Nat}
theorem ybne(a:ybi g):Sh.ybjt (yby nm nh nl nf nd nt ni) g=true:=by
 have b:=a.1;have d:=a.2.1;have e:=a.2.2.1;simp[Sh.ybjt,yby,ybk];omega
theorem yehi:(yby nm nh nl nf nd nt ni).ok=true:=by kernel_rfl
theorem ycqh(b:ybi g)(h:ElC g c)(a:v<g.ids.length):(ybq (yby nm nh nl nf nd nt ni) g c).testBit v=false↔ypb g c v = -1:=by
 unfold ybq;rw[ymp,ycem b h a,decide_eq_true a,zCJ,decide_eq_false_iff_not];unfold ypb;split
 .omega
 .split
  .omega
  .split
   .omega
   .split<;>omega
theorem yys(h:ElC g c)(b:v<g.ids.length)(a:s.testBit v=false):(yds (yby nm nh nl nf nd nt ni) g c s).getD v []=c.getD v []:=by
 rw[Sh.yqh _ g c s (by rw[h.len];exact b),a]
 rfl
theorem ybgg(f:ybi g)(h:ElC g c)(b:v<g.ids.length)(d:s.testBit v=true)(l:subB s (ybq (yby nm nh nl nf nd nt ni) g c)) :
 hAt (yds (yby nm nh nl nf nd nt ni) g c s) v=cnV g c v /\
  ((hAt c v≠cnV g c v/\lAt (yds (yby nm nh nl nf nd nt ni) g c s) v=lAt c v)\/(hAt c v=cnV g c v/\((ypz g c v/\lAt (yds (yby nm nh nl nf nd nt ni) g c s) v=0)\/(ypp g c v/\lAt (yds (yby nm nh nl nf nd nt ni) g c s) v=1)\/(gTie g c v/\lAt (yds (yby nm nh nl nf nd nt ni) g c s) v=1-lAt c v)))):=by
 have a:ypb g c v ≠ -1:=fun e=>by
  have:=(ycqh (nm:=nm) (nh:=nh) (nl:=nl) (nf:=nf) (nd:=nd) (nt:=nt) (ni:=ni) f h b).2 e;rw[l v d]at this;cases this
 obtain⟨t,i,j,k⟩:=ydum (nm:=nm) (nh:=nh) (nl:=nl) (nf:=nf) (nd:=nd) (nt:=nt) (ni:=ni) f h b a
 have e:(yds (yby nm nh nl nf nd nt ni) g c s).getD v []=t:=by
  rw[Sh.yqh _ g c s (by rw[h.len];exact b),d,if_pos rfl]
  exact i
 unfold hAt at *;unfold lAt at *;rw[e];exact⟨j,k⟩
theorem ydrq(j:ybi g)(h:ElC g c)(k:v<g.ids.length)(i:(ybq (yby nm nh nl nf nd nt ni) g c).testBit v=false):hAt c v=cnV g c v/\¬ypz g c v/\¬ypp g c v/\¬gTie g c v:=by
 have e:=(ycqh j h k).1 i;unfold ypb at e
 by_cases a:hAt c v≠cnV g c v
 .rw[if_pos a]at e;omega
 .rw[if_neg a]at e
  by_cases b:ypz g c v
  .rw[if_pos b]at e;omega
  .rw[if_neg b]at e
   by_cases d:ypp g c v
   .rw[if_pos d]at e;omega
   .rw[if_neg d]at e
    by_cases f:gTie g c v
    .rw[if_pos f]at e;omega
    .exact⟨Classical.not_not.1 a,b,d,f⟩
theorem yum(h:Tr g)(a:yhv g c)(d:v<g.ids.length):cnV g c v=htP g v:=by
 have:=h.cn_next (c:=c) d 100 fun u b=>by
  have:=h.ht_lt (v:=u) (by have:=h.good.2.2.1;omega)
  have:=h.good.2.1;rw[if_pos (by omega)]
  exact a u b
 have e:=h.ht_lt (v:=v) (by have:=h.good.2.2.1;omega)
 have f:=h.good.2.1;rw[if_pos (by omega)]at this
 exact this
theorem ysx(d:ybi g)(b:yhv g c)(f:v<g.ids.length):ypz g c v↔lAt c v=1/\¬Peak g v:=by
 have i:=d.2.2.1;unfold ypz Peak;refine and_congr_right fun _=>?_;constructor
 .rintro⟨u,a,q⟩ e;rw[b v f,b u (by have:=(d.adj_lt a).2;omega)]at q
  have:=e u a;omega
 .intro e;refine zW fun h=>e fun u a=>?_;rcases zZ (htP g v) (htP g u)with q|q
  .exact absurd ⟨u,a,by rw[b v f,b u (by have:=(d.adj_lt a).2;omega)];exact q⟩ h
  .exact q
theorem ytt(b:ybi g)(a:yhv g c)(f:v<g.ids.length):ypp g c v↔lAt c v=0/\∀u,adj g v u->htP g u<htP g v:=by
 have d:=b.2.2.1;unfold ypp;refine and_congr_right fun _=>forall_congr' fun u=>forall_congr' fun e=>?_;rw[a v f,a u (by have:=(b.adj_lt e).2;omega)]
theorem yyg(h:Tr g)(a:yhv g c)(m:v<g.ids.length):gTie g c v↔Peak g v/\∃u,adj g v u/\htP g u=htP g v/\lAt c u=lAt c v:=by
 have b:=h.good;have l:=b.2.2.1;have k:=h.ht_lt (v:=v) (by omega)
 unfold gTie Peak;rw[a v m];constructor
 .rintro⟨_,f,u,d,i,j⟩;exact⟨fun x e=>by have:=f x e;rwa [a x (by have:=(b.adj_lt e).2;omega)]at this,u,d,by rwa [a u (by have:=(b.adj_lt d).2;omega)]at i,j⟩
 .rintro⟨f,u,d,i,j⟩;exact⟨by omega,fun x e=>by rw[a x (by have:=(b.adj_lt e).2;omega)];exact f x e,u,d,by rw[a u (by have:=(b.adj_lt d).2;omega)];exact i,j⟩
theorem Tr.twin(h:Tr g)(b:Peak g v)(d:adj g v u)(e:adj g v w)(f:htP g u=htP g v)(i:htP g w=htP g v):u=w:=by
 refine zW fun a=>?_;obtain⟨lv,j⟩:=h.good.adj_lt d;exact h.no_three b (h.peak_eq b d f) (h.peak_eq b e i) lv j (h.good.adj_lt e).2 (h.ne d) (h.ne e) a
theorem yxm(h:Tr g)(l:ElC g c)(b:yhv g c)(d:v<g.ids.length)(i:Stab g c v):ypb g c v = -1:=by
 have e:=yum h b d;unfold ypb;rw[if_neg (fun q=>q (by rw[b v d,e])),if_neg,if_neg,if_neg]
 .rw[yyg h b d];rintro⟨k,u,j,f,a⟩;exact i.two k u j f a
 .rw[ytt h.good b d];rintro⟨f,a⟩;have:=i.one (fun u j=>by have:=a u j;omega) a
  omega
 .rw[ysx h.good b d];rintro⟨f,a⟩;have:=i.low a;omega
theorem yckt(h:Tr g)(m:ElC g c)(d:yhv g c)(b:v<g.ids.length)(e:¬ypz g c v)(f:¬ypp g c v)(i:¬gTie g c v):Stab g c v:=by
 rw[ysx h.good d b]at e;rw[ytt h.good d b]at f;rw[yyg h d b]at i;have j:=(m.row v b).2.2;refine⟨fun a=>?_,fun a n=>?_,fun a u o k l=>i ⟨a,u,o,k,l⟩⟩
 .rcases j with q|q
  .exact q
  .exact absurd ⟨q,a⟩ e
 .rcases j with q|q
  .exact absurd ⟨q,n⟩ f
  .exact q
theorem ycjy(h:Tr g)(k:ElC g c)(j:yhv g c)(d:v<g.ids.length)(n:s.testBit v=true)(z:subB s (ybq (yby nm nh nl nf nd nt ni) g c))(r:ybwn g s):Stab g (yds (yby nm nh nl nf nd nt ni) g c s) v:=by
 have x:=h.good.2.2.1;have B:=(k.row v d).2.2;have e:=yum h j d;obtain⟨_,t⟩:=ybgg h.good k d n z
 have f:∀u,adj g v u->lAt (yds (yby nm nh nl nf nd nt ni) g c s) u=lAt c u:=fun u a=>by
  unfold lAt;rw[yys k (by have:=(h.good.adj_lt a).2;omega) (r v u a n)]
 rcases t with⟨q,_⟩|⟨_,⟨q,i⟩|⟨q,i⟩|⟨q,i⟩⟩
 .exact absurd (by rw[j v d,e]) q
 .rw[ysx h.good j d]at q;exact⟨fun _=>i,fun b=>absurd b q.2,fun b=>absurd b q.2⟩
 .rw[ytt h.good j d]at q;have b:Peak g v:=fun u a=>by have:=q.2 u a;omega
  exact⟨fun l=>absurd b l,fun _ _=>i,fun _ u a m=>by have:=q.2 u a;omega⟩
 .rw[yyg h j d]at q;obtain⟨b,u,a,m,o⟩:=q;refine⟨fun l=>absurd b l,fun _ y=>by have:=y u a;omega,fun _ w A p=>?_⟩
  have:=h.twin b a A m p;subst this;rw[f u a,i,o];omega
theorem ybzs(h:Tr g)(j:ElC g c)(t:yhv g c)(A:v<g.ids.length)(x:s.testBit v=false)(z:subB s (ybq (yby nm nh nl nf nd nt ni) g c))(i:Stab g c v):Stab g (yds (yby nm nh nl nf nd nt ni) g c s) v:=by
 have y:=h.good.2.2.1
 have k:lAt (yds (yby nm nh nl nf nd nt ni) g c s) v=lAt c v:=by
  unfold lAt;rw[yys j A x]
 refine⟨fun o=>by rw[k];exact i.low o,fun b r=>by rw[k];exact i.one b r,fun b u e f=>?_⟩
 have a:u<g.ids.length:=by have:=(h.good.adj_lt e).2;omega
 have p:s.testBit u=false:=by
  cases n:s.testBit u with
  |false=>rfl
  | true =>
    exfalso
    have d:=h.peak_eq b e f;have back:=h.good.adj_symm e
    have m:Stab g c u:=⟨fun o=>absurd d o,fun _ r=>by have:=r v back;omega,fun _ w B l=>by
     have:=h.twin d back B f.symm l;subst this;exact fun q=>i.two b u e f q.symm⟩
    have:=(ycqh (nm:=nm) (nh:=nh) (nl:=nl) (nf:=nf) (nd:=nd) (nt:=nt) (ni:=ni) h.good j a).2 (yxm h j t a m);rw[z u n]at this;cases this
 have l:lAt (yds (yby nm nh nl nf nd nt ni) g c s) u=lAt c u:=by
  unfold lAt;rw[yys j a p]
 rw[k,l];exact i.two b u e f
def elR(g:Gr)(R r v:Nat)(c:Conf):Prop:=(if htP g v<(r:Int)then hAt c v=htP g v else(r:Int)<=hAt c v)/\(R+1<=r->Stab g c v)
theorem yms{R r:Nat}(d:∀v,v<g.ids.length->htP g v<(R:Int))(e:R<=r)(a:∀u,u<g.ids.length->elR g R r u c):yhv g c:=fun v b=>by
 have:=(a v b).1;have:=d v b;rw[if_pos (by omega)]at *
 assumption
theorem ydcs(h:Tr g){R r:Nat}(a:∀u,u<g.ids.length->elR g R r u c)(d:v<g.ids.length):if htP g v<((r+1:Nat):Int)then cnV g c v=htP g v else((r+1:Nat):Int)<=cnV g c v :=
 h.cn_next d r fun u b=>(a u b).1
theorem yejf(h:Tr g){R:Nat}(hR:∀v,v<g.ids.length->htP g v<(R:Int)):ByRoundsC (yud (yby nm nh nl nf nd nt ni) g) (fun c=>yfe (yby nm nh nl nf nd nt ni) g c=true) (ybwn g) (elR g R) where
 valid:=fun c s hc _ _ _=>Sh.ykt h.good yehi (ybne h.good) hc s
 stay:=fun c s v r r' hr1 hr2 hV hv hb hs hD hall hP=>by
  have hc:=ymx hV;have hv:v<g.ids.length:=hv
  have e:hAt (yds (yby nm nh nl nf nd nt ni) g c s) v=hAt c v:=by
   unfold hAt;rw[yys hc hv hb]
  refine⟨?_,fun hq=>?_⟩
  .have:=hP.1;show if htP g v<(r':Int)then hAt (yds _ g c s) v=htP g v else(r':Int)<=hAt (yds _ g c s) v
   rw[e];exact this
  .exact ybzs h hc (yms hR (r:=r) (by omega) hall) hv hb hs (hP.2 hq)
 move:=fun c s v r hV hv hb hs hD hall=>by
  have hc:=ymx hV;have hv:v<g.ids.length:=hv;have e:=(ybgg h.good hc hv hb hs).1;refine⟨?_,fun hq=>?_⟩
  .show if htP g v<((r+1:Nat):Int)then hAt (yds _ g c s) v=htP g v else((r+1:Nat):Int)<=hAt (yds _ g c s) v
   rw[e];exact ydcs h hall hv
  .exact ycjy h hc (yms hR (r:=r) (by omega) hall) hv hb hs hD
 rest:=fun c v r hV hv hb hall=>by
  have hc:=ymx hV;have hv:v<g.ids.length:=hv;obtain⟨e,h2,h3,h4⟩:=ydrq h.good hc hv hb;refine⟨?_,fun hq=>?_⟩
  .rw[e];exact ydcs h hall hv
  .exact yckt h hc (yms hR (r:=r) (by omega) hall) hv h2 h3 h4
 less:=fun r v c hP=>by
  refine⟨?_,fun hq=>hP.2 (by omega)⟩
  have:=hP.1;split at this
  .split
   .exact this
   .rw[this];omega
  .rw[if_neg (by omega)];omega
theorem ybsi(a:ElC g c)(b:v<g.ids.length){R:Nat}:elR g R 0 v c:=by
 have:=yhl g v;refine⟨?_,fun q=>by omega⟩
 rw[if_neg (by omega)]
 exact(a.row v b).2.1.1
def yua(g:Gr)(c:Conf):Prop:=yhv g c/\∃v,v<g.ids.length/\Peak g v/\lAt c v=1/\∀u,u<g.ids.length->lAt c u=1->u=v
theorem ymw(h:Tr g)(D:ElC g c)(P:yhv g c):yua g c↔∀v,v<g.ids.length->Stab g c v:=by
 have R:=h.good.2.2.1;constructor
 .rintro⟨_,p,I,a,B,C⟩ v M
  have t:∀x,x<g.ids.length->Peak g x->x≠p->adj g p x/\htP g x=htP g p:=fun x A d b=>by
   have l:=h.adj_of (by omega) (by omega) (h.peaks_adj a d (by omega) (by omega) b)
   have:=a x l;have:=d p (h.good.adj_symm l);exact⟨l,by omega⟩
  have zero:∀x,x<g.ids.length->x≠p->lAt c x=0:=fun x A b=>by
   rcases(D.row x A).2.2 with q|q
   .exact q
   .exact absurd (C x A q) b
  refine⟨fun Q=>zero v M fun e=>Q (e▸a),fun n J=>?_,fun n u i N=>?_⟩
  .by_cases e:v=p
   .rw[e];exact B
   .obtain⟨l,T⟩:=t v M n e;have:=J p (h.good.adj_symm l);omega
  .have L:u<g.ids.length:=by have:=(h.good.adj_lt i).2;omega
   have m:=h.peak_eq n i N
   by_cases e:v=p
   .subst e;rw[B,zero u L (fun f=>h.ne i f.symm)];omega
   .by_cases f:u=p
    .subst f;rw[B,zero v M e];omega
    .exact(h.no_three n m a (by omega) (by omega) (by omega) (h.ne i) e f).elim
 .intro H;refine⟨P,?_⟩;obtain⟨p,I,a⟩:=h.peak_ex
  have r:∀q,q<g.ids.length->Peak g q->lAt c q=1->(∀x,x<g.ids.length->Peak g x->x≠q->lAt c x=0)->∃v,v<g.ids.length/\Peak g v/\lAt c v=1/\∀u,u<g.ids.length->lAt c u=1->u=v:=fun q J K G O=>by
   refine⟨q,J,K,G,fun u i e=>zW fun b=>?_⟩
   by_cases m:Peak g u
   .have:=O u i m b;omega
   .have:=(H u i).low m;omega
  by_cases A:∃x,x<g.ids.length/\Peak g x/\x≠p
  .obtain⟨x,o,d,b⟩:=A;have l:=h.adj_of (by omega) (by omega) (h.peaks_adj a d (by omega) (by omega) b)
   have G:=a x l;have S:=d p (h.good.adj_symm l);have E:=(H p (by omega)).two a x l (by omega)
   rcases(D.row p (by omega)).2.2 with q|q
   .have B:lAt c x=1:=by
     rcases(D.row x o).2.2 with z|z
     .rw[q,z]at E;exact absurd rfl E
     .exact z
    refine r x o d B fun y F k j=>?_
    by_cases e:y=p
    .rw[e];exact q
    .exact(h.no_three a d k I (by omega) (by omega) (fun f=>b f.symm) (fun f=>e f.symm) (fun f=>j f.symm)).elim
   .refine r p (by omega) a q fun y F k j=>?_
    by_cases e:y=x
    .subst e;rcases(D.row y F).2.2 with z|z
     .exact z
     .rw[q,z]at E;exact absurd rfl E
    .exact(h.no_three a d k I (by omega) (by omega) (fun f=>b f.symm) (fun f=>j f.symm) (fun f=>e f.symm)).elim
  .have only:∀x,x<g.ids.length->Peak g x->x=p:=fun x o d=>zW fun b=>A ⟨x,o,d,b⟩;refine r p (by omega) a ((H p (by omega)).one a fun u i=>?_) fun y F k j=>absurd (only y F k) j
   have G:=a u i;rcases zZ (htP g u) (htP g p)with q|q
   .exact q
   .have:=only u (by have:=(h.good.adj_lt i).2;omega) (h.peak_eq a i (by omega))
    exact absurd this.symm (h.ne i)
theorem ybsa(h:Tr g)(f:yfe (yby nm nh nl nf nd nt ni) g c=true):ybq (yby nm nh nl nf nd nt ni) g c=0↔yua g c:=by
 have o:=h.good.2.2.1;have a:=ymx f
 have j:∀v,v<g.ids.length->htP g v<((24:Nat):Int):=fun v f=>by
  have:=h.ht_lt (v:=v) (by omega)
  have:=h.good.2.1;omega
 constructor
 .intro n;have l:=(yejf (nm:=nm) (nh:=nh) (nl:=nl) (nf:=nf) (nd:=nd) (nt:=nt) (ni:=ni) h j).silent f (fun v e=>ybsi a e) n;have b:yhv g c:=yms j (zM _) (l 24);exact(ymw h a b).2 fun v e=>(l 25 v e).2 (zM _)
 .intro k;have b:=k.1;have m:=(ymw h a b).1 k;rw[yfl];intro i
  by_cases d:i<g.ids.length
  .exact(ycqh h.good a d).2 (yxm h a b d (m i d))
  .exact zAF (zAA (Sh.ybaa _ g c) (zAB (by omega) (by omega)))
theorem ycoq(h:Tr g){R:Nat}(d:∀v,v<g.ids.length->htP g v<(R:Int)){c:Conf}{k:Cnt}(a:RInvC (yud (yby nm nh nl nf nd nt ni) g) (fun c=>yfe (yby nm nh nl nf nd nt ni) g c=true) (elR g R) c k)(e:¬yua g c):k.begun<=R+1:=by
 have i:=a.begun;refine zW fun j=>e ?_;have b:yhv g c:=yms d (r:=k.rounds) (by omega) a.all
 exact(ymw h (ymx a.valid) b).2 fun v f=>(a.all v f).2 (by omega)
end
end
section
theorem ybjo{c:Type}(f:c->Int)(p:c->Bool):∀(l:List c) (m:Int),m<=l.foldl (fun m w=>if p w then max m (f w)else m) m/\(∀w∈l,p w=true->f w<=l.foldl (fun m w=>if p w then max m (f w)else m) m)/\∀t,m<=t->(∀w∈l,p w=true->f w<=t)->l.foldl (fun m w=>if p w then max m (f w)else m) m<=t
 |[],m=>⟨zU _,fun w a=>absurd a zAE,fun t b _=>b⟩
 | x :: l,m=>by
   obtain⟨d,j,k⟩:=ybjo f p l (if p x then max m (f x)else m)
   rw[zAI];refine⟨?_,fun w a i=>?_,fun t b h=>k t ?_ fun w a=>h w (zJ _ a)⟩
   .refine zBI ?_ d;split<;>omega
   .rcases List.mem_cons.1 a with e|a
    .subst e;refine zBI ?_ d;rw[if_pos i];omega
    .exact j w a i
   .by_cases q:p x=true
    .rw[if_pos q];have:=h x zN q;omega
    .rw[if_neg q];exact b
section
variable {g:Gr}{u v:Nat}
def ytc(g:Gr)(v u:Nat)(m:Int)(l:Int×Int):Int:=if (l.1 != (v:Int))=true then max m (1+rchP g u l.1.toNat)else m
theorem Tr.rch_loop(h:Tr g)(c:adj g v u):(g.ports.getD u []).foldl (ytc g v u) 1=rchP g v u:=by
 obtain⟨r,a⟩:=h.good.adj_lt c;obtain⟨m,n,o⟩:=ybjo (fun l:Int×Int=>1+rchP g u l.1.toNat) (fun l:Int×Int=>l.1 != (v:Int)) (g.ports.getD u []) 1;refine zCF (o _ (h.rch_pos c) fun l b f=>?_) ?_
 .obtain⟨i,_,j,_⟩:=yef h.good a b;rw[bne_iff_ne]at f;exact h.rch_step c j (fun e=>f (by omega))
 .rcases zZ (rchP g v u) 2 with q|q
  .exact zBI (by omega) m
  .obtain⟨x,p,d,e⟩:=h.rch_from c q;obtain⟨l,b,k⟩:=yli p;obtain⟨i,_⟩:=yef h.good a b;have:=n l b (by rw[bne_iff_ne];intro e;exact d (by omega))
   rw[k]at this;rw[e];exact this
theorem Tr.rch_less(h:Tr g)(c:adj g v u){l:Int×Int}(f:l∈g.ports.getD u [])(a:l.1≠(v:Int)):rchP g u l.1.toNat<rchP g v u:=by
 obtain⟨j,b⟩:=h.good.adj_lt c;obtain⟨i,_,d,_⟩:=yef h.good b f;have:=h.rch_step c d (fun e=>a (by omega))
 omega
def yvc(s:Int×Int)(x:Int):Int×Int:=(max s.1 x,max s.2 (min x s.1))
theorem ycpo{s:Int×Int}{x:Int}(h:s.2<=s.1):yvc s x=step2 s x:=by
 unfold yvc step2;split<;>(try split)<;>(refine Prod.ext ?_ ?_<;>simp only<;>omega)
theorem ybqk:∀(l:List Int) (s:Int×Int),s.2<=s.1->l.foldl yvc s=l.foldl step2 s
 |[],_,_=>rfl
 | x::l,s,h=>by
   rw[zAI,zAI,<-ycpo h];exact ybqk l _ (by unfold yvc;simp only;omega)
theorem ydmw(g:Gr)(v:Nat):(((g.ports.getD v []).map fun l=>rchP g v l.1.toNat).foldl yvc (0,0)).2=htP g v:=by
 rw[ybqk _ _ (zU _)];rfl
end
end
section
def ysi(g:Gr)(k:Nat):Int:=(zS k).foldl (fun m v=>max m (ycy (yck g v))) 0
abbrev ymj(g:Gr):Int:=ysi g g.ports.length
section
variable {g:Gr}{a b v:Nat}
theorem ylu(k:Nat):ysi g (k+1)=max (ysi g k) (ycy (yck g k)):=by
 unfold ysi;rw[zCG,zV];rfl
theorem ycha:∀k v,v<k->ycy (yck g v)<=ysi g k
 |0,v,h=>absurd h (zAV _)
 | k + 1,v,h=>by
   rw[ylu]
   by_cases q:v=k
   .rw[q];omega
   .have:=ycha k v (by omega)
    omega
theorem yio:∀k,0<=ysi g k
 |0=>zU _
 | k+1=>by
   rw[ylu];have:=yio k;omega
theorem ybwx(i:ybi g)(c:a<g.ports.length)(h:b<g.ports.length):dP g a b<=ymj g:=by
 have e:=ycha (g:=g) g.ports.length a c;have d:b<(yck g a).length:=by rw[yjs i c];exact h
 have f:dP g a b<=ycy (yck g a):=by
  refine ybij _ _ ?_;unfold dP;rw[Sh.getD_at d];exact zH d
 exact zBI f e
theorem Tr.ht_le_diam(h:Tr g)(e:v<g.ports.length):2*htP g v<=ymj g:=h.ht_diam e fun _ _ c d=>ybwx h.good c d
end
end
section
namespace Sh
open Go Ev
def ychn:LO:=[bx' 27 0 1 0,mc 0 2 0,mc 0 3 2]
def ycjo:LO:=[la' 2 1 6 0,cl' 131 [6] 7 1,o3 (.un .not (.tmp 7)) 8 3]
def ydgj:LO:=[mc 0 2 0,mc 0 3 1]
def ydhc:LO:=[fa' 1 1 1 9 0,ld' 1 9 10 1,ln' 10 11 3,mc 0 12 0]
def ycni:LO:=[bn' .lss 12 11 13 0]
def ydiz:LO:=[ix' 1 10 12 14 0,ld' 1 14 15 1,mv' 15 5 3]
def ydkw:LO:=[mv' 3 16 0,mv' 5 17 0,ln' 17 18 2,bn' .add 16 18 19 7,mv' 19 3 15]
def ydfg:LO:=[bc .add 12 1 20 0,mv' 20 12 1]
def ycvd:LO:=[fa' 0 1 1 21 0,ld' 1 21 22 1,ln' 22 23 3,mv' 3 24 0,bc .quo 24 2 25 8,mv' 23 2 7,mv' 25 3 63]
def c105:SC:=(sr ychn <| .seq (sr ycjo <| cn 8 (sr ydgj <| .ret) .skip) (.seq (sr ydhc <| .block 0 (.loop (sr ycni <| .seq (cn 13 .skip (.exit 0)) (.seq (.block 1 (sr ydiz <| .reg false ydkw)) (.reg false ydfg))))) (sr ycvd <| .ret)))
theorem ydux:Fn 105 c105 [.t 2,.t 3]:=fn_0 Tryz.func105
def ychs:LO:=[bx' 27 0 1 0,mb false 2 0]
def ybzf:LO:=[la' 2 1 5 0,cl' 121 [5] 6 1,o3 (.un .not (.tmp 6)) 7 3]
def ycxd:LO:=[mb false 2 0]
def ydhd:LO:=[la' 2 1 9 0,cl' 105 [9] 10 1,mv' 10 8 3,xt' 8 0 11 7,xt' 8 1 12 7,mv' 11 3 15,mv' 12 4 63]
def ydkh:LO:=[mv' 4 13 0,mv' 3 14 0,bc .sub 14 1 15 2,bn' .eql 13 15 16 7,mv' 16 2 15]
def c146:SC:=(sr ychs <| .seq (sr ybzf <| cn 7 (sr ycxd <| .ret) .skip) (sr ydhd <| sr ydkh <| .ret))
theorem ydpm:Fn 146 c146 [.t 2]:=fn_0 Tryz.func146
def ycbx:LO:=[bx' 27 0 1 0,mc 0 2 0]
def ycbj:LO:=[la' 2 1 5 0,cl' 121 [5] 6 1,o3 (.un .not (.tmp 6)) 7 3]
def yddb:LO:=[mc (-1) 2 0]
def yddq:LO:=[mc 0 3 0]
def ydhn:LO:=[fa' 1 1 1 8 0,ld' 1 8 9 1,ln' 9 10 3,mc 0 11 0]
def ycix:LO:=[bn' .lss 11 10 12 0]
def ydio:LO:=[mv' 11 13 0,mv' 13 4 1]
def ycyj:LO:=[mv' 3 14 0,la' 2 1 15 0,mv' 4 16 0,cl' 142 [15,16] 17 6,cl' 141 [17] 18 14,o3 (.mm true (.tmp 14) (.tmp 18)) 19 31,mv' 19 3 63]
def yczw:LO:=[bc .add 11 1 20 0,mv' 20 11 1]
def ydjw:LO:=[mv' 3 21 0,mv' 21 2 1]
def c100:SC:=(sr ycbx <| .seq (sr ycbj <| cn 7 (sr yddb <| .ret) .skip) (sr yddq <| .seq (sr ydhn <| .block 0 (.loop (sr ycix <| .seq (cn 12 .skip (.exit 0)) (.seq (.block 1 (sr ydio <| .reg false ycyj)) (.reg false yczw))))) (sr ydjw <| .ret)))
theorem ydqm:Fn 100 c100 [.t 2]:=fn_0 Tryz.func100
def ydhq:LO:=[bx' 27 0 3 0,mc 0 6 0]
def ycus:LO:=[mc 1 7 0]
def ycyd:LO:=[fa' 1 1 3 10 0,ld' 1 10 11 1,mv' 2 12 0,ix' 1 11 12 13 7,ld' 1 13 14 15,ln' 14 15 31,mc 0 16 0]
def ybtn:LO:=[bn' .lss 16 15 17 0]
def ycfk:LO:=[ix' 2 14 16 18 0,la' 2 18 19 1,o3 (.alloc 68 1 [.i .i64 0,.i .i64 0]) 9 0,sto 2 9 19 7]
def yccn:LO:=[fa' 0 1 9 20 0,ld' 1 20 21 1,mv' 1 22 0,bn' .neq 21 22 23 7]
def ycvo:LO:=[mv' 7 24 0,la' 2 3 25 0,mv' 2 26 0,fa' 0 1 9 27 0,ld' 1 27 28 8,cl' 147 [25,26,28] 29 30,o3 (.bin .add (ci' 1) (.tmp 29)) 30 62,o3 (.mm true (.tmp 24) (.tmp 30)) 31 127,mv' 31 7 255]
def ycfv:LO:=[bc .add 16 1 32 0,mv' 32 16 1]
def ydjs:LO:=[mv' 7 33 0,mv' 33 6 1]
def c147:SC:=(sr ydhq <| sr ycus <| .seq (sr ycyd <| .block 0 (.loop (sr ybtn <| .seq (cn 17 .skip (.exit 0)) (.seq (.block 1 (sr ycfk <| sr yccn <| cn 23 (.reg false ycvo) .skip)) (.reg false ycfv))))) (sr ydjs <| .ret))
theorem ydnz:Fn 147 c147 [.t 6]:=fn_0 Tryz.func147
def ydkj:LO:=[bx' 27 0 1 0,nl' 2 0]
def ydbh:LO:=[fa' 0 1 1 10 0,ld' 1 10 11 1,ln' 11 12 3,o3 (.mk 3 1 8 [.i .i64 0] (.tmp 12) (.tmp 12)) 13 7,mv' 13 3 15]
def ydjq:LO:=[fa' 1 1 1 14 0,ld' 1 14 15 1,ln' 15 16 3,mc 0 17 0]
def ycgw:LO:=[bn' .lss 17 16 18 0]
def ycxj:LO:=[mv' 17 19 0,ix' 1 15 17 20 0,ld' 1 20 21 2,mv' 19 4 7,mv' 21 5 15]
def ydbm:LO:=[mc 0 6 0]
def ycxf:LO:=[mv' 5 22 0,ln' 22 23 1,mc 0 24 0]
def ycdz:LO:=[bn' .lss 24 23 25 0]
def ydhj:LO:=[ix' 2 22 24 26 0,la' 2 26 27 1,o3 (.alloc 68 1 [.i .i64 0,.i .i64 0]) 8 0,sto 2 8 27 7]
def ycvh:LO:=[la' 2 1 28 0,mv' 4 29 0,fa' 0 1 8 30 0,ld' 1 30 31 4,cl' 147 [28,29,31] 32 15,mv' 32 9 31]
def ycfa:LO:=[mv' 3 33 0,mv' 4 34 0,mv' 3 35 0,mv' 4 36 0,ix' 1 35 36 37 12,ld' 1 37 38 28,mv' 9 39 0,mv' 6 40 0,o3 (.mm false (.tmp 39) (.tmp 40)) 41 192,o3 (.mm true (.tmp 38) (.tmp 41)) 42 508,ix' 1 33 34 43 1023,sto 1 43 42 2047]
def ybze:LO:=[mv' 6 44 0,mv' 9 45 0,o3 (.mm true (.tmp 44) (.tmp 45)) 46 3,mv' 46 6 7]
def yclu:LO:=[bc .add 24 1 47 0,mv' 47 24 1]
def ycaz:LO:=[bc .add 17 1 48 0,mv' 48 17 1]
def ycji:LO:=[mv' 3 49 0,mv' 49 2 1]
def c102:SC:=(sr ydkj <| sr ydbh <| .seq (sr ydjq <| .block 0 (.loop (sr ycgw <| .seq (cn 18 .skip (.exit 0)) (.seq (.block 1 (sr ycxj <| sr ydbm <| sr ycxf <| .block 2 (.loop (sr ycdz <| .seq (cn 25 .skip (.exit 2)) (.seq (.block 3 (sr ydhj <| sr ycvh <| sr ycfa <| .reg false ybze)) (.reg false yclu)))))) (.reg false ycaz))))) (sr ycji <| .ret))
theorem ydnb:Fn 102 c102 [.t 2]:=fn_0 Tryz.func102
def ydkq:LO:=[bx' 27 0 2 0,bx' 131 1 3 0,o3 (.mv (.const (.int .u32 0))) 4 0]
def yczf:LO:=[la' 2 2 8 0,cl' 149 [8] 9 1,o3 (.alloc 77 1 [.i .u32 0]) 5 0,sto 1 5 9 7]
def ydgc:LO:=[la' 2 2 10 0,cl' 53 [10] 11 1]
def ycyv:LO:=[mv' 12 6 0]
def ydco:LO:=[o3 (.alloc 68 1 [.i .i64 0,.i .i64 0]) 7 0,sto 2 7 13 1]
def ycvn:LO:=[ld' 1 3 14 0,mv' 6 15 0,o3 (.call (.tmp 14) [(.tmp 15)]) 16 3,ld' 1 3 17 0,fa' 0 1 7 18 0,ld' 1 18 19 16,o3 (.call (.tmp 17) [(.tmp 19)]) 20 63,bn' .lss 16 20 21 127]
def ydgu:LO:=[ld' 1 5 22 0,mv' 6 23 0,o3 (.bin .shl (.const (.int .u32 1)) (.tmp 23)) 24 2,bn' .andNot 22 24 25 7,sto 1 5 25 15]
def ydbi:LO:=[ld' 1 5 26 0,mv' 26 4 1]
def c111:SC:=(sr ydkq <| sr yczf <| .seq (sr ydgc <| .block 0 (.range (.tmp 11) [12,13] (sr ycyv <| .reg false ydco) (.block 1 (.seq (.reg true ycvn) (cn 21 (.reg true ydgu) .skip))))) (sr ydbi <| .ret))
theorem yduy:Fn 111 c111 [.t 4]:=fn_0 Tryz.func111
end Sh
end
section
def yiv(g:Gr)(k:Nat):Nat:=((g.ports.take k).map zAZ).sum
theorem yvj{g:Gr}{k:Nat}(h:k<g.ports.length):yiv g (k+1)=yiv g k+(g.ports.getD k []).length:=by
 unfold yiv;rw[zI h,zBM,List.sum_append,Sh.getD_at h];simp
theorem ytr{g:Gr}(a:ybi g):∀k,k<=g.ports.length->yiv g k<=24*k
 |0,_=>by simp[yiv]
 | k+1,h=>by
   rw[yvj (by omega)]
   have:=ytr a k (by omega)
   have:=a.deg_lt (v:=k);omega
theorem yboi(g:Gr):yiv g g.ports.length=yit g:=by unfold yiv yit;rw[zY]
def ybql(g:Gr):Nat:=yit g/2
namespace Sh
open Ev Go.RowKit
def ydub(g:Gr):List SV:=if yii g=true then[.i .i64 g.ports.length,.i .i64 (ybql g)]else[.i .i64 0,.i .i64 0]
theorem ycsq(n:Nat):((n:Nat):Int).tdiv 2=((n/2:Nat):Int):=by
 rw[Int.tdiv_eq_ediv_of_nonneg (by omega)]
 omega
theorem ycis{g:Gr}(p:GrI g):Returns zG 105 [grV g] (.tp (ydub g)):=by
 refine Returns.of (ydux _ _ ?_);have a:=ybcf p;unfold ydub;cases l:yii g with
 | false =>
   rw[l]at a;simp only[grV]at a;simp only[c105,ychn,ycjo,ydgj,grV,clash,go_sem,zA,zB,zC];refine a.use ?_;simp only[ybj,clash,go_sem,zA,zB];exact Sim.refl _
 | true =>
   have f:=(ygu g).1 l;have j:=f.2.1;have h:=f.2.2.1;obtain⟨n,b⟩:∃n,g.ports.length=n:=⟨_,rfl⟩;rw[l]at a;simp only[grV]at a;rw[b]at j h;simp only[c105,ychn,ycjo,ydhc,grV,clash,go_sem,zA,zB,zC];refine a.use ?_;simp only[ybj,yg,b,clash,go_sem,zA,zB];refine ybe (σ:=Nat) (fun k=>⟨[(12,.i .i64 k),(11,.i .i64 n),(10,yg g.ports),(3,.i .i64 (yiv g k:Nat)),(1,.pt (1,0) 0 0)],[(1,.one (some ⟨27,true,2,1,fun _=>[ybb g.ids,yg g.ports]⟩))]⟩) (fun k=>k<=n) (fun k=>n-k) 0 (zT _) ?_ ?_
   .refine yj ?_;simp only[yg,b,wk,go_sem,zA,zC];rfl
   intro k hk
   by_cases s:k<n
   .have t1:decide ((k:Int)<(n:Int))=true:=decide_eq_true (by omega)
    have m:=yvj (g:=g) (k:=k) (by omega)
    have q:=ytr f k (by omega)
    have r:=f.deg_lt (v:=k);obtain⟨d,c⟩:∃d,(g.ports.getD k []).length=d:=⟨_,rfl⟩;rw[c]at m r;have e:(yiv g k:Int)+(d:Int)=((yiv g (k+1):Nat):Int):=by rw[m];omega
    simp only[ycni,ydiz,ydkw,ydfg,yg,yx,b,t1,c,e,clash,go_sem,zA,zB];refine⟨by omega,ikw (by omega) (by omega),ikw (by omega) (by omega),?_⟩
    refine ybv (k+1) ?_;refine yj ?_;simp only[wk,go_sem,zA,zC];omega
   .obtain rfl:k=n:=by omega
    have t1:decide ((k:Int)<(k:Int))=false:=decide_eq_false (by omega)
    have q:=ytr f k (by omega)
    have e:=yboi g;rw[b]at e;have o:=ycsq (yiv g k);simp only[ycni,ycvd,yg,ybb,b,h,t1,o,clash,go_sem,zA,zB,zD];unfold ybql;rw[<-e];exact⟨⟨by decide,ikw (by omega) (by omega)⟩,Sim.refl _⟩
theorem ycms{g:Gr}(f:GrI g):Returns zG 146 [grV g] (.b (yeb g)):=by
 refine Returns.of (ydpm _ _ ?_);have c:=ybjh f;have d:=ycis f;unfold yeb;cases a:yht g with
 | false =>
   rw[a]at c;simp only[grV]at c;simp only[c146,ychs,ybzf,ycxd,grV,clash,go_sem,zA,zB,zC];refine c.use ?_;simp only[ybj,clash,go_sem,zB];exact Sim.refl _
 | true =>
   have h:=ypw a;have j:=(ygu g).1 h;have i:=j.2.1;rw[a]at c;unfold ydub at d;rw[if_pos h]at d;simp only[grV]at c d;simp only[c146,ychs,ybzf,ydhd,ydkh,grV,clash,go_sem,zA,zB,zC];refine c.use ?_;simp only[ybj,clash,go_sem,zA,zB];refine d.use ?_;simp only[go_sem,zA];refine⟨ikw (by omega) (by omega),?_⟩
   have e:(((ybql g:Nat):Int)==(g.ports.length:Int)-1)=decide (yit g/2+1=g.ports.length):=by
    rw[zBN,beq_iff_eq,decide_eq_true_iff];unfold ybql;omega
   rw[<-e];exact Sim.refl _
theorem ybop{g:Gr}(b:ybi g):∀k,k<=g.ports.length->ysi g k<=24
 |0,_=>by show(0:Int)<=24;decide
 | k+1,h=>by
   rw[ylu];have d:=ybop b k (by omega)
   have e:ycy (yck g k)<=24:=ybgo _ _ (by omega) fun x c=>((yfx b (a:=k) (by omega)).bound b (by omega) x c).2
   omega
theorem ycbt{g:Gr}(q:GrI g):Returns zG 100 [grV g] (.i .i64 (if yht g=true then ymj g else -1)):=by
 refine Returns.of (ydqm _ _ ?_);have c:=ybjh q;cases b:yht g with
 | false =>
   rw[b]at c;simp only[grV]at c;simp only[c100,ycbx,ycbj,yddb,grV,clash,go_sem,zA,zB,zC];refine c.use ?_;simp only[ybj,clash,go_sem,zB];exact Sim.refl _
 | true =>
   have l:=(ygu g).1 (ypw b);have f:=l.2.1;have j:ysi g 0=0:=rfl;obtain⟨n,e⟩:∃n,g.ports.length=n:=⟨_,rfl⟩;rw[b]at c;simp only[grV]at c;rw[e]at f;simp only[c100,ycbx,ycbj,yddq,ydhn,grV,clash,go_sem,zA,zB,zC];refine c.use ?_;simp only[ybj,yg,e,clash,go_sem,zA,zB];refine ybe (σ:=Nat) (fun k=>⟨[(11,.i .i64 k),(10,.i .i64 n),(3,.i .i64 (ysi g k)),(1,.pt (1,0) 0 0)],[(1,.one (some ⟨27,true,2,1,fun _=>[ybb g.ids,yg g.ports]⟩))]⟩) (fun k=>k<=n) (fun k=>n-k) 0 (zT _) ?_ ?_
   .refine yj ?_;simp only[yg,e,j,wk,go_sem,zA,zC]
   intro k hk
   by_cases r:k<n
   .have t1:decide ((k:Int)<(n:Int))=true:=decide_eq_true (by omega)
    have d:=ybwh l (a:=k) (by omega)
    have m:=yjs l (a:=k) (by omega)
    have h:=ybht (yck g k) (by omega)
    have o:=ylu (g:=g) k;obtain⟨D,p⟩:∃D,yck g k=D:=⟨_,rfl⟩;rw[p]at d h o m;simp only[grV]at d;simp only[ybb,m]at h d;simp only[ycix,ydio,ycyj,yczw,yg,t1,clash,go_sem,zA,zB];refine d.use ?_;simp only[ybj,clash,go_sem,zA,zB];refine h.use ?_;simp only[<-o,go_sem,zA];refine⟨ikw (by omega) (by omega),?_⟩
    refine ybv (k+1) ?_;refine yj ?_;simp only[go_sem,wk,go_sem,zA,zC];omega
   .obtain rfl:k=n:=by omega
    have t1:decide ((k:Int)<(k:Int))=false:=decide_eq_false (by omega)
    simp only[ycix,ydjw,t1,clash,go_sem,zA,zB];unfold ymj;rw[e];exact Sim.refl _
end Sh
end
section
theorem Tr.rch_le{g:Gr}(h:Tr g){v u:Nat}(a:adj g v u):1<=rchP g v u/\rchP g v u<=24:=by
 obtain⟨w,b,_,e⟩:=h.rch_ex a;have:=h.lt_n b (h.good.adj_lt a).1;have:=h.good.2.1;have:=h.rch_pos a;omega
def htS(g:Gr)(v i:Nat):Int×Int:=(((g.ports.getD v []).take i).map fun l=>rchP g v l.1.toNat).foldl yvc (0,0)
theorem ybsx{g:Gr}{v i:Nat}(a:i<(g.ports.getD v []).length):htS g v (i+1)=yvc (htS g v i) (rchP g v ((g.ports.getD v []).getD i (0,0)).1.toNat):=by
 unfold htS;rw[zI a,zBM,zV,Sh.getD_at a];rfl
theorem ybzb(g:Gr)(v:Nat):(htS g v (g.ports.getD v []).length).2=htP g v:=by
 unfold htS;rw[zY];exact ydmw g v
theorem ycal{g:Gr}(h:Tr g){v:Nat}(a:v<g.ports.length):∀i,i<=(g.ports.getD v []).length->(0<=(htS g v i).2/\(htS g v i).2<=(htS g v i).1)/\(htS g v i).1<=24
 |0,_=>by simp[htS]
 | i+1,c=>by
   have e:=ycal h a i (by omega)
   have b:(g.ports.getD v []).getD i (0,0)∈g.ports.getD v []:=by rw[Sh.getD_at (show i<_ by omega)];exact zH _
   have d:=h.rch_le (yef h.good a b).2.2.1;rw[ybsx (by omega)]
   unfold yvc;simp only;omega
theorem Tr.ht_le{g:Gr}(h:Tr g){v:Nat}(a:v<g.ports.length):0<=htP g v/\htP g v<=24:=by
 have:=ycal h a _ (zM _);rw[<-ybzb g v];omega
def rchS(g:Gr)(v u i:Nat):Int:=((g.ports.getD u []).take i).foldl (ytc g v u) 1
theorem ycmy{g:Gr}{v u i:Nat}(a:i<(g.ports.getD u []).length):rchS g v u (i+1)=ytc g v u (rchS g v u i) ((g.ports.getD u []).getD i (0,0)):=by
 unfold rchS;rw[zI a,zV,Sh.getD_at a];rfl
namespace Sh
open Ev Go.RowKit
theorem ybjq{g:Gr}(h:Tr g):∀(k v u:Nat),adj g v u->(rchP g v u).toNat<=k->Returns zG 147 [grV g,.i .i64 v,.i .i64 u] (.i .i64 (rchP g v u))
 |0,v,u,t,hk=>by have:=h.rch_pos t;omega
 | k + 1,v,u,t,hk=>by
   refine Returns.of (ydnz _ _ ?_);have J:=ybjq h k;obtain⟨T,H⟩:=h.good.adj_lt t;have M:=h.good.2.1;have z:=h.rch_loop t;have j:∀i,rchS g v u i=((g.ports.getD u []).take i).foldl (ytc g v u) 1:=fun _=>rfl;have m:=fun i=>ycmy (g:=g) (v:=v) (u:=u) (i:=i);have E:=h.rch_le t;obtain⟨L,w⟩:∃L,g.ports.getD u []=L:=⟨_,rfl⟩;have n:=h.good.deg_lt (v:=u)
   have y:∀l∈L,0<=l.1/\l.1.toNat<g.ports.length/\adj g u l.1.toNat:=fun l o=>by
    obtain⟨a,b,c,_⟩:=yef h.good H (by rw[w];exact o)
    exact⟨a,b,c⟩
   have f:∀l∈L,l.1≠(v:Int)->rchP g u l.1.toNat<rchP g v u:=fun l o=>h.rch_less t (by rw[w];exact o)
   rw[w]at z n j;simp only[w]at m;obtain⟨d,s⟩:∃d,L.length=d:=⟨_,rfl⟩;obtain⟨S,N⟩:∃S:Nat->Int,(fun i=>rchS g v u i)=S:=⟨_,rfl⟩;have B:∀i,rchS g v u i=S i:=fun i=>by rw[<-N]
   simp only[B]at m j;rw[s]at n m;have C:S 0=1:=by rw[j];rfl
   have x:S d=rchP g v u:=by rw[j,<-s,zY,z]
   rw[<-x]at f E ⊢;simp only[grV]at J;simp only[c147,ydhq,ycus,ycyd,grV,yg,yx,w,s,clash,go_sem,zA,zB,zC];refine⟨⟨by omega,by omega⟩,?_⟩
   refine ybe (σ:=Nat) (fun i=>⟨[(16,.i .i64 i),(15,.i .i64 d),(14,yx L),(7,.i .i64 (S i)),(1,.i .i64 v),(2,.i .i64 u),(3,.pt (3,0) 0 0)],[(3,.one (some ⟨27,true,2,1,fun _=>[ybb g.ids,yg g.ports]⟩))]⟩) (fun i=>i<=d) (fun i=>d-i) 0 (zT _) ?_ ?_
   .refine yj ?_;simp only[yg,yx,s,C,wk,go_sem,zA,zC]
   intro i R
   by_cases F:i<d
   .have t1:decide ((i:Int)<(d:Int))=true:=decide_eq_true (by omega)
    have G:L.getD i (0,0)∈L:=by rw[getD_at (show i<L.length by omega)];exact zH _
    have q:=m i F;obtain⟨l,o⟩:∃l,L.getD i (0,0)=l:=⟨_,rfl⟩;rw[o]at G q;obtain⟨K,Q,I⟩:=y l G
    by_cases p:l.1=(v:Int)
    .have t2:(l.1 != (v:Int))=false:=by rw[p];simp
     have e:S (i+1)=S i:=by
      rw[q];unfold ytc;rw[if_neg (by rw[t2];decide)]
     simp only[ybtn,ycfk,yccn,ycfv,yx,s,o,t1,t2,splice,clash,go_sem,zA,zB,zD,zC];refine⟨by omega,ikw (by omega) (by omega),?_⟩
     refine ybv (i+1) ?_;refine yj ?_;simp only[e,wk,go_sem,zA,zC];omega
    .have t2:(l.1 != (v:Int))=true:=by rw[bne_iff_ne];exact p
     have O:=f l G p;have D:=h.rch_le I;have A:=J u l.1.toNat I (by rw[<-x]at hk;omega)
     rw[zAY K]at A
     have e:S (i+1)=max (S i) (1+rchP g u l.1.toNat):=by
      rw[q];unfold ytc;rw[if_pos t2]
     obtain⟨r,P⟩:∃r,rchP g u l.1.toNat=r:=⟨_,rfl⟩;rw[P]at A e D;simp only[ybtn,ycfk,yccn,ycvo,ycfv,yx,s,o,t1,t2,splice,clash,go_sem,zA,zB,zD,zC];refine⟨by omega,A.use ?_⟩
     simp only[ybj,clash,go_sem,zA,zB];refine⟨ikw (by omega) (by omega),ikw (by omega) (by omega),?_⟩
     refine ybv (i+1) ?_;refine yj ?_;simp only[e,wk,go_sem,zA,zC];omega
   .obtain rfl:i=d:=by omega
    have t1:decide ((i:Int)<(i:Int))=false:=decide_eq_false (by omega)
    simp only[ybtn,ydjs,t1,clash,go_sem,zA,zB];exact Sim.refl _
set_option maxHeartbeats 1000000 in
theorem ybob{g:Gr}(h:Tr g):Returns zG 102 [grV g] (ybb (mapR g.ports.length (htP g))):=by
 refine Returns.of (ydnb _ _ ?_);have x:=h.good;have z:=x.2.1;have e:=x.2.2.1;obtain⟨n,c⟩:∃n,g.ports.length=n:=⟨_,rfl⟩;rw[c]at z e ⊢;simp only[c102,ydkj,ydbh,ydjq,grV,ybb,yg,e,c,clash,go_sem,zA,zB,zD,zC];refine⟨⟨by omega,by omega,by omega⟩,?_⟩
 refine ybe (σ:=Nat) (fun v=>⟨[(17,.i .i64 v),(16,.i .i64 n),(15,yg g.ports),(3,.os (13,0) 0 n true),(1,.pt (1,0) 0 0)],[(13,.one (some ⟨3,false,1,n,fun j=>[.i .i64 (if j<v then htP g j else 0)]⟩)),(1,.one (some ⟨27,true,2,1,fun _=>[ybb g.ids,yg g.ports]⟩))]⟩) (fun v=>v<=n) (fun v=>n-v) 0 (zT _) ?_ ?_
 .refine yj ?_;simp only[ybb,yg,e,c,zAV,wk,go_sem,zA,zC]
 intro v P
 by_cases K:v<n
 .have t1:decide ((v:Int)<(n:Int))=true:=decide_eq_true (by omega)
  have hend:=ybzb g v;have k:=fun i=>ybsx (g:=g) (v:=v) (i:=i);have f:=ycal h (v:=v) (by omega)
  have p:=x.deg_lt (v:=v);have b:=fun(l:Int×Int) (y:l∈g.ports.getD v [])=>yef x (by omega) y
  obtain⟨L,u⟩:∃L,g.ports.getD v []=L:=⟨_,rfl⟩;obtain⟨d,o⟩:∃d,L.length=d:=⟨_,rfl⟩;rw[u,o]at hend p f;rw[u]at b;simp only[u,o]at k;obtain⟨S,I⟩:∃S:Nat->Int×Int,(fun i=>htS g v i)=S:=⟨_,rfl⟩;have m:∀i,htS g v i=S i:=fun i=>by rw[<-I]
  have A:S 0=(0,0):=by rw[<-m];rfl
  simp only[m]at k f hend;simp only[ycgw,ycxj,ydbm,ycxf,yg,yx,c,u,o,t1,clash,go_sem,zA,zB];refine⟨by omega,?_⟩
  refine ybe (σ:=Nat) (fun i=>⟨[(24,.i .i64 i),(23,.i .i64 d),(22,yx L),(6,.i .i64 (S i).1),(4,.i .i64 v),(17,.i .i64 v),(16,.i .i64 n),(15,yg g.ports),(3,.os (13,0) 0 n true),(1,.pt (1,0) 0 0)],[(13,.one (some ⟨3,false,1,n,fun j=>[.i .i64 (if j<v then htP g j else if j=v then(S i).2 else 0)]⟩)),(1,.one (some ⟨27,true,2,1,fun _=>[ybb g.ids,yg g.ports]⟩))]⟩) (fun i=>i<=d) (fun i=>d-i) 0 (zT _) ?_ ?_
  .refine yj ?_;simp only[ybb,yg,yx,c,o,A,wk,go_sem,zA,zC];intro j s;split
   .rfl
   .split<;>rfl
  intro i J
  by_cases t:i<d
  .have t2:decide ((i:Int)<(d:Int))=true:=decide_eq_true (by omega)
   have E:L.getD i (0,0)∈L:=by rw[getD_at (show i<L.length by omega)];exact zH _
   have a:=k i t;have O:=f i J;obtain⟨l,y⟩:∃l,L.getD i (0,0)=l:=⟨_,rfl⟩;rw[y]at E a;obtain⟨F,N,D,_⟩:=b l E;have w:=ybjq h _ v l.1.toNat D (zM _);have B:=h.rch_le D;rw[zAY F]at w;obtain⟨r,M⟩:∃r,rchP g v l.1.toNat=r:=⟨_,rfl⟩;rw[M]at w a B;have G:(S (i+1)).1=max (S i).1 r:=by rw[a];rfl
   have H:(S (i+1)).2=max (S i).2 (min r (S i).1):=by rw[a];rfl
   simp only[grV]at w;have Q:(if v<v then htP g v else if v=v then(S i).2 else 0)=(S i).2:=by rw[if_neg (zBE v),if_pos rfl]
   have R:(if v=v then(S i).2 else 0)=(S i).2:=if_pos rfl
   simp only[ycdz,ydhj,ycvh,yx,o,y,t2,splice,clash,go_sem,zA,zB,zD,zC];refine⟨by omega,w.use ?_⟩
   simp only[ybj,ycfa,ybze,yclu,splice,clash,<-G,<-H,go_sem,zA,zB];refine⟨⟨by omega,by omega⟩,by omega,⟨by omega,by omega⟩,by omega,ikw (by omega) (by omega),?_⟩
   refine ybv (i+1) ?_;refine yj ?_;simp only[ybb,yg,yx,c,wk,go_sem,zA,zC];refine⟨by omega,fun j s=>?_⟩
   by_cases q:j=v
   .subst q;simp only[if_pos,if_neg (zBE j)];simp only[go_sem,wk,go_sem]
   .simp only[if_neg q];simp only[go_sem,wk,go_sem]
  .obtain rfl:i=d:=by omega
   have t2:decide ((i:Int)<(i:Int))=false:=decide_eq_false (by omega)
   simp only[ycdz,ycaz,t2,clash,go_sem,zA,zB];refine⟨ikw (by omega) (by omega),?_⟩
   refine ybv (v+1) ?_;refine yj ?_;simp only[ybb,yg,yx,c,wk,go_sem,zA,zC];refine⟨by omega,fun j s=>?_⟩
   by_cases q:j<v
   .rw[if_pos q,if_pos (by omega)]
   .rw[if_neg q]
    by_cases C:j=v
    .rw[if_pos C,if_pos (by omega),C,hend]
    .rw[if_neg C,if_neg (by omega)]
 .obtain rfl:v=n:=by omega
  have t1:decide ((v:Int)<(v:Int))=false:=decide_eq_false (by omega)
  simp only[ycgw,ycji,t1,clash,go_sem,zA,zB];rw[ywq];refine ybln fun j s=>?_;rw[gmR _ _ _ _ s,if_pos s]
end Sh
end
section
section
variable {g:Gr}{t u v:Nat}
end
end
section
section
variable {g:Gr}{t u v a:Nat}
end
end
section
def pkL(f:Nat->Int)(v:Nat)(s:Nat)(l:Int×Int):Nat:=if f v<f l.1.toNat then difB s (2^v)else s
def pkV(f:Nat->Int)(g:Gr)(s v:Nat):Nat:=(g.ports.getD v []).foldl (pkL f v) s
def ykr(f:Nat->Int)(g:Gr):Nat:=(zS g.ports.length).foldl (pkV f g) (2^g.ports.length-1)
section
variable {g:Gr}{f:Nat->Int}
theorem ybtf{v i:Nat}:∀(ls:List (Int×Int)) (s:Nat),(ls.foldl (pkL f v) s).testBit i=true↔s.testBit i=true/\(i=v->∀l∈ls,f l.1.toNat<=f v)
 |[],s=>⟨fun h=>⟨h,fun _ _ k=>nomatch k⟩,fun h=>h.1⟩
 | l :: ls,s=>by
   rw[zAI,ybtf ls]
   have j:(pkL f v s l).testBit i=true↔s.testBit i=true/\(i=v->f l.1.toNat<=f v):=by
    unfold pkL
    by_cases q:f v<f l.1.toNat
    .rw[if_pos q,ynv,zF,zBY,zBR,decide_eq_false_iff_not];exact and_congr Iff.rfl ⟨fun h e=>absurd e.symm h,fun h e=>by have:=h e.symm;omega⟩
    .rw[if_neg q];exact⟨fun h=>⟨h,fun _=>by omega⟩,fun h=>h.1⟩
   rw[j];constructor
   .rintro⟨⟨b,a⟩,d⟩;refine⟨b,fun e x c=>?_⟩;rcases List.mem_cons.1 c with r|r
    .rw[r];exact a e
    .exact d e x r
   .rintro⟨b,a⟩;exact⟨⟨b,fun e=>a e l zN⟩,fun e x c=>a e x (zJ _ c)⟩
theorem ybsg{i:Nat}:∀(b:List Nat) (s:Nat),(b.foldl (pkV f g) s).testBit i=true↔s.testBit i=true/\(i∈b->∀l∈g.ports.getD i [],f l.1.toNat<=f i)
 |[],s=>⟨fun h=>⟨h,fun m=>nomatch m⟩,fun h=>h.1⟩
 | v :: b,s=>by
   rw[zAI,ybsg b];have k:(pkV f g s v).testBit i=true↔s.testBit i=true/\(i=v->∀l∈g.ports.getD v [],f l.1.toNat<=f v):=ybtf _ _;rw[k];constructor
   .rintro⟨⟨c,a⟩,j⟩;refine⟨c,fun d=>?_⟩;rcases List.mem_cons.1 d with r|r
    .subst r;exact a rfl
    .exact j r
   .rintro⟨c,a⟩;exact⟨⟨c,fun e=>by subst e;exact a zN⟩,fun d=>a (zJ _ d)⟩
theorem yym(d:ybi g){v:Nat}:(ykr f g).testBit v=true↔v<g.ports.length/\∀u,adj g v u->f u<=f v:=by
 unfold ykr;rw[ybsg,zBB,decide_eq_true_iff,List.mem_range];constructor
 .rintro⟨a,b⟩;refine⟨a,fun u h=>?_⟩;obtain⟨l,c,e⟩:=yli h;rw[<-e];exact b a l c
 .rintro⟨a,b⟩;exact⟨a,fun _ l c=>b _ (yef d a c).2.2.1⟩
end
end
section
namespace Sh
open Go Ev Go.RowKit
section
variable {m:Mem}{F:AM}
theorem row_of{z c p n cp N e u:Nat}{Tb:Ev.T Value}{L:Nat->List Value}(q:m.b.get c=some (.cells Tb N e u))(v:0<n)(r:p+n*z<=N)(f:∀a,a<n->(L a).length=z)(s:∀a,a<n->∀j,j<z->Tb.get (p+a*z+j)=(L a)[j]?) :
 rowOf m z (.slice (some ⟨c,p,none⟩) n cp)=some (yct L n,[c]):=by
 have i:=ycu f;show(bif zCQ n 0 then _ else _)=_;rw[show zCQ n 0=false by cases n with|zero=>omega|succ n=>rfl]
 simp only[cond_false];rw[q];simp only;rw[zAJ r];simp only[cond_true]
 have g:=yin (T:=Tb) (L:=yct L n) (o:=p) (fun j h=>by
  rw[i]at h;rcases zBD z with d|d
  .subst d;omega
  .have t:=Nat.div_add_mod j z;have k:=Nat.mod_lt j d;have hk:j/z<n:=Nat.div_lt_of_lt_mul (by rwa [zCM]at h)
   have l:j=j/z*z+j%z:=by rw[zCM];exact t.symm
   rw[l,yha f _ _ hk k,<-Nat.add_assoc];exact s _ hk _ k)
 rw[i]at g;rw[g]
theorem row_zero{u:Value}(h:Z0 u)(z:Nat):rowOf m z u=some ([],[]):=by
 rcases h with rfl|⟨b,o,c,rfl⟩
 .rfl
 .rfl
theorem in64{n:Int}(h:I64 n):ybaw n=true:=by
 unfold I64 at h;unfold ybaw;split
 .rename_i k;exact zAJ (by simp only[Int.ofNat_eq_natCast]at h;omega)
 .rename_i k;exact zAJ (by omega)
theorem yvk{a b:Int}(c:I64 a)(d:I64 b):∀{l:List Value}{r:List (Int×Int)},yjw l=some r->yjw (l++[.int .i64 a,.int .i64 b])=some (r++[(a,b)])
 | [],r,h=>by
   cases h
   show(bif ybaw a&&ybaw b then _ else _)=_;rw[in64 c,in64 d];rfl
 | .int .i64 x :: .int .i64 y::l,r,h=>by
   unfold yjw at h;split at h
   .rename_i g f
    rw[Bool.cond_eq_ite]at h;split at h
    .rename_i e
     cases h
     show(match yjw (l++[.int .i64 a,.int .i64 b])with|some r=>bif ybaw x&&ybaw y then some ((x,y)::r)else none|none=>none)=_
     rw[yvk c d f];simp only[e,cond_true];rfl
    .cases h
   .cases h
theorem ybbs(s:Le F m.b.get){ls:List (Int×Int)}{u:Value}(h:RV F om0 (yx ls) u)(t:∀l∈ls,I64 l.1/\I64 l.2):yla m u=some ls:=by
 unfold yla;rcases h.sl_inv with⟨c,z⟩|⟨B,p,C,T,N,e,H,L,rfl,j,D,k,o,q,r,E⟩
 .rw[row_zero z];have:ls=[]:=zX c;subst this;rfl
 .rcases zBD ls.length with c|c
  .have:ls=[]:=zX c;subst this;rfl
  .rw[row_of (s _ _ j) c k o q]
   have:∀n,n<=ls.length->yjw (yct L n)=some (ls.take n):=by
    intro n
    induction n with
    |zero=>intro _;rfl
    | succ n A =>
      intro G;have a:n<ls.length:=by omega
      have d:=r n a
      have g:L n=[.int .i64 ls[n].1,.int .i64 ls[n].2]:=by
       have f:ls.getD n (0,0)=ls[n]:=by simp[zK,a]
       rw[f]at d;obtain⟨x,y,i,v,w⟩:=rvl2 d;rw[i,v.int_inv,w.int_inv]
      show yjw (yct L n++L n)=_;rw[g,zI a];have:=t ls[n] (zH a);exact yvk this.1 this.2 (A (by omega))
   simp only;rw[this _ (zM _),zY]
theorem ycgp{d e:Type}{f:d->Option e}:∀{l:List d}{r:List e},l.length=r.length->(∀(k:Nat) x y,l[k]?=some x->r[k]?=some y->f x=some y)->mapO f l=some r
 |[],[],_,_=>rfl
 | x::l,y::r,c,h=>by
   unfold mapO;rw[h 0 x y rfl rfl];simp only;rw[ycgp (by simpa using c) fun k a b g i=>h (k+1) a b (by simpa using g) (by simpa using i)]
 |[],_::_,c,_=>by simp at c
 |_::_,[],c,_=>by simp at c
theorem ybkb{L:Nat->List Value}{n:Nat}(h:∀a,a<n->(L a).length=1){k:Nat}(hk:k<n):(yct L n)[k]?=(L k)[0]?:=by
 have:=yha h k 0 hk (by omega)
 simpa using this
theorem ybyk{ids:SV}{P:List (List (Int×Int))}{u:Value}(h:RV F om0 (.rf [ids,yg P]) u)(R:∀ls∈P,∀l∈ls,I64 l.1/\I64 l.2) :
 ∃A v us,u = .pointer (some A)/\∀m:Mem,Le F m.b.get->yjx m A=some ⟨v,us,P⟩:=by
 obtain⟨s,p,T,N,e,zz,L,rfl,K,M,O,Q,_⟩:=h.rf_inv;cases Q with
 | cons a0 B =>
   cases B with
   | cons z C =>
     rename_i u0 _ j _
     cases C
     have d:∀m:Mem,Le F m.b.get->ynr m ⟨s,p,none⟩=some j:=fun m c=>by
      unfold ynr;simp only;rw[c _ _ K];simp only;rw[show Nat.blt (p+1) N=true from zAJ (show p+1+1<=N by simp at M;omega)]
      simp only[cond_true];exact O 1 (by simp)
     have a:∀(us:List Value) (t:List Nat),(∀m:Mem,Le F m.b.get->rowOf m 1 j=some (us,t))->us.length=P.length->(∀(k:Nat) x y,us[k]?=some x->P[k]?=some y->RV F om0 (yx y) x) ->
      ∃A v us,Value.pointer (some ⟨s,p,none⟩) = .pointer (some A)/\∀m:Mem,Le F m.b.get->yjx m A=some ⟨v,us,P⟩:=fun us t S i V=>by
      refine⟨_,j,us,rfl,fun m c=>?_⟩;unfold yjx;rw[d m c];show ob (rowOf m 1 j) _=_;rw[S m c];show ob (mapO (yla m) us) _=_;rw[ycgp i fun k x y f g=>ybbs c (V k x y f g) (R y (List.mem_of_getElem? g))];rfl
     rcases z.sl_inv with⟨X,W⟩|⟨n,p',cp,T',Z,e',Y,w,rfl,G,g2,H,o,I,J,g7⟩
     .have:P=[]:=zX X;subst this;exact a [] [] (fun m _=>row_zero W 1) rfl (fun k x y q _=>by simp at q)
     .rcases zBD P.length with r|r
      .have:P=[]:=zX r;subst this;exact a [] [] (fun m _=>rfl) rfl (fun k x y q _=>by simp at q)
      .refine a (yct w P.length) [n] (fun m c=>row_of (c _ _ G) r H o I) (by rw[ycu o,Nat.mul_one]) fun k x y f g=>?_
       have hk:k<P.length:=(List.getElem?_eq_some_iff.1 g).1;rw[ybkb o hk]at f;have i:=J k hk;have D:P.getD k []=y:=by simp[zK,g]
       rw[D]at i;obtain⟨v,E,U⟩:=rvl1 i;rw[E]at f;cases f
       exact U
end
def yfs(P:List (List (Int×Int)))(k:Nat):El:=(ybu 0 P).getD k ⟨0,0,0⟩
def ycev(P:List (List (Int×Int))):ItS:=⟨(ybu 0 P).length,fun k=>[.i .i64 (yfs P k).v,.ag [.i .i64 (yfs P k).a,.i .i64 (yfs P k).b]],[],fun _ _=>True,fun _ o=>o⟩
theorem ycsu{ids:SV}{P:List (List (Int×Int))}(hI:∀ls∈P,∀l∈ls,I64 l.1/\I64 l.2):ItC zG 122 [.rf [ids,yg P]] (ycev P):=by
 intro lo F ω s f m us hc hr _;obtain⟨u,rfl,hu⟩:=rvl1 hr
 have R:RV F om0 (.rf [ids,yg P]) u:=by
  obtain⟨bk,p,T,N,e,zz,L,rfl,o,O,H,Q,h5⟩:=hu.rf_inv;exact .rf o O H Q h5
 obtain⟨A,v,X,rfl,hg⟩:=ybyk R hI;have K:∀k,k<(ybu 0 P).length->(ybu 0 P)[k]?=some (yfs P k):=fun k hk=>by simp[yfs,zK,hk]
 refine⟨⟨(ybu 0 P).length,fun k=>[(yfs P k).v0,(yfs P k).v1],fun _ m=>yjx m A=some ⟨v,X,P⟩,fun _ m=>m,fun _ _ M w g n=>g=M/\n=w⟩,⟨ybeu.1,fun k m hk W _=>Grow.refl W,?_,?_⟩,rfl,fun F' a0 s' f' m' k hF _ B hk _=>⟨hg m' (hF.trans B.sub),fun hk=>⟨.cons .i (.cons (.ag (.cons .i (.cons .i .nil))) .nil),B⟩⟩⟩
 .rintro k I M w m g n hk W hR hs hp ⟨rfl,rfl⟩;exact Good.refl hR hs
 .intro l Y y I M w V r q j h0 C;obtain⟨box,rfl,z⟩:=yge C;refine CallsIn.mono (ybeu.2 l A ⟨v,X,P⟩ (fun pre a g n=>I.le a/\(∃c,ybu 0 P=pre++c)/\Y pre.length a g n) y I M w box ?_ ?_ ?_ ⟨I.le_refl,⟨_,rfl⟩,h0⟩ z) ?_
  .rintro pre a g n ⟨_,_,b⟩;exact(r _ _ _ _ b).2
  .rintro pre a g n E ⟨o,O,b⟩ hb;exact⟨o,O,q _ _ _ _ _ b hb⟩
  .rintro pre x c a g n ⟨o,_,b⟩ d;have d:ybu 0 P=pre++x::c:=d;have hk:pre.length<(ybu 0 P).length:=by rw[d];simp
   have ex:yfs P pre.length=x:=by
    have:=K _ hk;rw[d,List.getElem?_append_right (zM _)]at this
    simpa using this.symm
   obtain⟨fn,D,J,Z,S,U⟩:=j pre.length a g n [x.v0,x.v1] hk b (by
    show VRL a [(yfs P pre.length).v0,(yfs P pre.length).v1] _;rw[ex];exact .cons (.simple rfl) (.cons (VR.ydg (v:=x.v1) rfl) .nil))
   refine⟨fn,D,J,Z,S,U.mono ?_⟩
   .rintro e E (⟨he,G,t,H,_,Q⟩|h)
    .refine .inl ⟨he,G,t,H,Phi.le_trans o H,⟨c,by rw[d];simp⟩,?_⟩
     rw[zBU];exact Q t E ⟨rfl,rfl⟩
    .exact .inr h
  .rintro e n ⟨o,(⟨a,g,_,_,b⟩|h)⟩
   .exact⟨o,.inl ⟨a,g,b⟩⟩
   .exact⟨o,.inr h⟩
end Sh
end
section
namespace Sh
open Go Ev
def ydvd:LO:=[bx' 27 0 1 0,o3 (.mv (.const (.nilFunc))) 2 0]
def yedi:LO:=[o3 (.mkfn 122 [] [(.tmp 1)]) 3 0,mv' 3 2 1]
def c53:SC:=(sr ydvd <| sr yedi <| .ret)
theorem yefs:Fn 53 c53 [.t 2]:=fn_0 Tryz.func53
end Sh
end
section
open Ev
theorem yble:∀(ps:List (List (Int×Int))) (v:Nat) (x:El),x∈ybu v ps->v<=x.v/\x.v<v+ps.length/\(x.a,x.b)∈ps.getD (x.v-v) []
 |[],_,_,h=>absurd h zAE
 | ls::l,v,x,h=>by
   rcases List.mem_append.1 h with h|h
   .obtain⟨y,d,rfl⟩:=List.mem_map.1 h;refine⟨zM _,by simp,?_⟩
    simp only[Nat.sub_self,List.getD_cons_zero];exact d
   .obtain⟨f,g,c⟩:=yble l (v+1) x h;refine⟨by omega,by simp only[zAS];omega,?_⟩
    have e:x.v-v=(x.v-(v+1))+1:=by omega
    rw[e,List.getD_cons_succ];exact c
theorem yccu{g:Gr}{k:Nat}(hk:k<g.ports.length):ybu 0 (g.ports.take (k+1))=ybu 0 (g.ports.take k)++(g.ports.getD k []).map fun x=>(⟨k,x.1,x.2⟩:El):=by
 have h:=yqe (ps:=g.ports) (k:=k) (ls:=g.ports.getD k []) (by simp[zK,hk])
 rw[<-h];unfold yhw;rw[zY]
theorem ybkp{b:Type}{g:Gr}(f:b->El->b)(a:b):∀k,k<=g.ports.length->(ybu 0 (g.ports.take k)).foldl f a=(zS k).foldl (fun a v=>(g.ports.getD v []).foldl (fun a l=>f a ⟨v,l.1,l.2⟩) a) a
 |0,_=>by simp[ybu]
 | k+1,hk=>by
   rw[yccu (by omega),zV,ybkp f a k (by omega),zCG,zV,List.foldl_map]
   rfl
theorem ycps{b:Type}{g:Gr}(f:b->El->b)(a:b):(ybu 0 g.ports).foldl f a=(zS g.ports.length).foldl (fun a v=>(g.ports.getD v []).foldl (fun a l=>f a ⟨v,l.1,l.2⟩) a) a:=by
 have:=ybkp (g:=g) f a g.ports.length (zM _)
 rwa [zY]at this
theorem ycdj{g:Gr}(f:ybi g){k:Nat}(hk:k<(ybu 0 g.ports).length):(Sh.yfs g.ports k).v<g.ports.length/\((Sh.yfs g.ports k).a,(Sh.yfs g.ports k).b)∈g.ports.getD (Sh.yfs g.ports k).v []:=by
 have d:Sh.yfs g.ports k∈ybu 0 g.ports:=by unfold Sh.yfs;rw[Sh.getD_at hk];exact zH hk
 obtain⟨_,e,c⟩:=yble _ _ _ d;exact⟨by omega,by simpa using c⟩
theorem ycdw{b:Type}{g:Gr}(f:b->El->b)(a:b){k:Nat}(hk:k<(ybu 0 g.ports).length):((ybu 0 g.ports).take (k+1)).foldl f a=f (((ybu 0 g.ports).take k).foldl f a) (Sh.yfs g.ports k):=by
 rw[zI hk,zV];unfold Sh.yfs;rw[Sh.getD_at hk];rfl
theorem ycig{g:Gr}(b:ybi g):∀ls∈g.ports,∀l∈ls,I64 l.1/\I64 l.2:=fun ls a l f=>by
 obtain⟨v,c,e⟩:=zAD a;have d:=b.2.1;have:g.ports.getD v []=ls:=by simp[zK,c,e]
 obtain⟨h,i,_,j,k⟩:=yef b c (by rw[this];exact f)
 exact⟨Sh.yhk (by omega),Sh.yhk (by omega)⟩
end
section
namespace Sh
open Ev Go.RowKit
theorem ybzv{g:Gr}:Returns zG 53 [grV g] (.fn 122 [] [.rf [ybb g.ids,yg g.ports]]):=by
 refine Returns.of (yefs _ _ ?_);simp only[c53,ydvd,yedi,grV,clash,go_sem,zA,zB,zD,zC];exact Sim.refl _
end Sh
end
section
def pkEl(f:Nat->Int)(s:Nat)(e:Ev.El):Nat:=if f e.v<f e.a.toNat then difB s (2^e.v)else s
theorem ybyn(f:Nat->Int)(g:Gr):(Ev.ybu 0 g.ports).foldl (pkEl f) (2^g.ports.length-1)=ykr f g:=by
 rw[ycps];rfl
theorem yzh{g:Gr}(h:yeb g=true):yht g=true:=by
 unfold yeb at h;rw[zF]at h;exact h.1
theorem ybod{g:Gr}(h:yeb g=true):ybi g:=(ygu g).1 (ypw (yzh h))
namespace Sh
open Ev Go.RowKit
theorem ywj(o:Own)(n:Nat):∀l:List SV,allP (pok [] o n) l
 |[]=>trivial
 |v::l=>⟨by rw[yhn];trivial,ywj o n l⟩
theorem yjh(o:Own)(n:Nat):∀l:List SV,l.map (ydw [] o n)=l
 |[]=>rfl
 |v::l=>by rw[zAK,yec,yjh o n l]
set_option maxHeartbeats 1000000 in
theorem yckw{g:Gr}(l:ybi g){f:Nat->Int}{h:FuncId}{cp:List SV}(c:cp.any (owned 4)=false)(H:∀v,v<g.ports.length->Returns zG h (.i .i64 v::cp) (.i .i64 (f v))) :
 Returns zG 111 [grV g,.fn h [] cp] (.i .u32 (ykr f g)):=by
 refine Returns.of (yduy _ _ ?_);have u:=ybab c;have o:=ydpw l;have r:=ybzv (g:=g);have m:=l.2.1;have w:=l.2.2.1;have j:=ybyn f g;rw[w]at o;obtain⟨n,W⟩:∃n,g.ports.length=n:=⟨_,rfl⟩;rw[W]at o m w H j;obtain⟨A,p⟩:∃A,2^n-1=A:=⟨_,rfl⟩;have C:A<2^24:=by rw[<-p];have:2^n<=2^24:=zAB (by omega) m;have:=Nat.two_pow_pos n;omega
 rw[p]at o j;obtain⟨S,D⟩:∃S:Nat->Nat,(fun k=>((ybu 0 g.ports).take k).foldl (pkEl f) A)=S:=⟨_,rfl⟩;have s:S 0=A:=by rw[<-D];rfl
 have G:S (ybu 0 g.ports).length=ykr f g:=by rw[<-D,<-j];simp
 have t:∀k,k<(ybu 0 g.ports).length->S (k+1)=pkEl f (S k) (yfs g.ports k):=fun k hk=>by rw[<-D];exact ycdw (pkEl f) A hk
 have F:∀k,k<=(ybu 0 g.ports).length->S k<2^24:=fun k=>by
  induction k with
  |zero=>intro _;rw[s];exact C
  | succ k T =>
    intro hk;rw[t k hk];unfold pkEl;split
    .exact yty (T (by omega))
    .exact T (by omega)
 rw[<-G];simp only[grV]at o r;simp only[c111,ydkq,yczf,ydgc,grV,clash,go_sem,zA,zB,zC];refine o.use ?_;simp only[ybj,splice,clash,go_sem,zA,zB,zC];refine r.use ?_
 refine ylx (ycsu (ycig l)) [(2,0),(3,0),(5,0)] (fun i (_:Unit)=>⟨[(11,.fn 122 [] [.rf [ybb g.ids,yg g.ports]]),(2,.pt (2,0) 0 0),(3,.pt (3,0) 0 0),(5,.pt (5,0) 0 0)],
  [(2,.one (some ⟨27,true,2,1,fun _=>[ybb g.ids,yg g.ports]⟩)),(3,.one (some ⟨131,true,1,1,fun _=>[.fn h [] cp]⟩)),(5,.one (some ⟨77,true,1,1,fun _=>[.i .u32 (S i)]⟩))]⟩) (fun i _=>i<=(ybu 0 g.ports).length) () (zT _) ⟨fun _ h=>absurd h zAE,fun _ h=>absurd h zAE⟩ ?_ (fun _=>rfl) ?_ ?_ ?_
 .refine yj ?_;simp only[s,ylk _ c,ykz _ c,wk,go_sem,zA,zC];intro _ _;refine⟨ywj _ _ cp,?_⟩;rw[yjh];exact Sim.refl _
 .intro i _ R _;refine⟨trivial,?_⟩;simp only[go_sem,wk,go_sem,zA]
 .intro i _ R d;have d:i<(ybu 0 g.ports).length:=d;obtain⟨N,O⟩:=ycdj l d;have z:=t i d;have V:=F i R;obtain⟨E,P⟩:∃E,yfs g.ports i=E:=⟨_,rfl⟩;rw[P]at z N O;obtain⟨B,L,_⟩:=yef l N O;have B:0<=E.a:=B;have L:E.a.toNat<g.ports.length:=L;have f1:=H E.v (by omega)
  have f2:=H E.a.toNat (by omega)
  rw[zAY B]at f2;obtain⟨a,Q⟩:∃a,S i=a:=⟨_,rfl⟩;rw[Q]at z V;refine⟨_,rfl,?_⟩;simp only[ycev];obtain⟨x,I⟩:∃x,f E.v=x:=⟨_,rfl⟩;obtain⟨y,J⟩:∃y,f E.a.toNat=y:=⟨_,rfl⟩;rw[I]at f1;rw[J]at f2;simp only[ycyv,ydco,ycvn,Q,P,splice,u,clash,go_sem,zA,zB,zC];refine f1.use ?_;simp only[ybj,u,clash,go_sem,zA,zB,zD];refine f2.use ?_
  by_cases q:x<y
  .have K:decide (x<y)=true:=decide_eq_true q;have e:S (i+1)=difB a (2^E.v):=by rw[z];unfold pkEl;rw[I,J,if_pos q]
   have U:=yww (v:=E.v) (by omega)
   have M:=u32_andNot (a:=a) (b:=2^E.v) (by omega) (zAH (by omega) (by omega))
   simp only[IntKind.bits,zQ]at U M;simp only[ydgu,splice,K,U,M,clash,go_sem,zA,zB]
   repeat (first|refine⟨by omega,?_⟩|refine⟨by decide,?_⟩)
   refine ybl [] [] [] ?_;simp only[e,ylk _ c,ykz _ c,wk,go_sem,zA,zC];intro _ _;refine⟨ywj _ _ cp,?_⟩;rw[yjh];exact Sim.refl _
  .have K:decide (x<y)=false:=decide_eq_false q;have e:S (i+1)=a:=by rw[z];unfold pkEl;rw[I,J,if_neg q]
   simp only[K,go_sem]
   repeat (first|refine⟨by omega,?_⟩|refine⟨by decide,?_⟩)
   refine ybl [] [] [] ?_;simp only[e,ylk _ c,ykz _ c,wk,go_sem,zA,zC];intro _ _;refine⟨ywj _ _ cp,?_⟩;rw[yjh];exact Sim.refl _
 .intro _ _;simp only[ydbi,ycev,clash,go_sem,zA,zB];exact Sim.refl _
end Sh
end
section
abbrev Ptr:=Nat->Option Nat
def Mt(p:Ptr)(x:Nat):Prop:=∃y,p x=some y/\p y=some x
inductive Mv (g:Gr) (p:Ptr) (v:Nat):Option Nat->Prop
 |accept (u:Nat):p v=none->adj g v u->p u=some v->Mv g p v (some u)
 |propose (u:Nat):p v=none->adj g v u->p u=none->(∀x,adj g v x->p x≠some v)->Mv g p v (some u)
 |withdraw (u w:Nat):p v=some u->p u=some w->w≠v->Mv g p v none
structure PtI(g:Gr)(p:Ptr)(I:Nat->Prop):Prop where
 nb:∀v u,p v=some u->adj g v u
 fresh:∀v u,p v=some u->¬I v->p u=none\/p u=some v\/Mt p u
open Classical in
noncomputable def lv(A B C:Prop):Nat:=if A then 0 else if B then 1 else if C then 0 else 2
noncomputable def lft(p:Ptr)(I:Nat->Prop)(u v:Nat):Nat:=lv (p u=some v/\p v=some u) ((p u=some v/\¬I u)\/(p v=some u/\¬I v)) (Mt p u\/Mt p v)
section
variable {g:Gr}{p:Ptr}{I:Nat->Prop}{v:Nat}{t:Option Nat}
end
end
section
section
variable {g:Gr}{p:Ptr}{I:Nat->Prop}{v:Nat}{t:Option Nat}
end
theorem ybuc{b:Type}(f h:b->Nat):∀(l:List b),(∀x∈l,f x<=h x)->(l.map f).sum<=(l.map h).sum
 |[],_=>zM _
 | x::l,a=>by
   have d:=a x zN;have e:=ybuc f h l fun y c=>a y (zJ _ c);simp only[zAK,List.sum_cons];omega
open Classical in
noncomputable def oldN(g:Gr)(p:Ptr)(I:Nat->Prop):Nat:=((zS g.ports.length).map fun x=>if I x/\p x≠none then 1 else 0).sum
open Classical in
noncomputable def lftN(g:Gr)(p:Ptr)(I:Nat->Prop):Nat:=((zS g.ports.length).map fun x=>((g.ports.getD x []).map fun l=>lft p I x l.1.toNat).sum).sum
open Classical in
end
section
section
variable {g:Gr}{p:Ptr}{I:Nat->Prop}{v w:Nat}{t t':Option Nat}
noncomputable def potN(g:Gr)(p:Ptr)(I:Nat->Prop):Nat:=2*oldN g p I+lftN g p I
open Classical in
end
end
section
def ydis:Ex:=.bin 35 (eQ 0) (.leaf 17 0)
def ycuy:Ex:=.bin 35 (eQ 0) ychv
def yeht:Ex:=.bin 41 (.bin 41 (.bin 35 (.leaf 11 0) (eVar 0)) (.bin 36 (eQ 0) ychv)) (.bin 36 (eQ 0) (.leaf 17 0))
def yeaz(nm p a b w:ByteArray):ProgT:=⟨nm,[⟨p,3,0,0,0,0⟩],[⟨a,.bin 41 (.bin 35 (eVar 0) ychv) (.agg 21 ydis),[(0,.agg 23 ydis)]⟩,⟨b,.bin 41 (.bin 35 (eVar 0) ychv) (.agg 21 ycuy),[(0,.agg 23 ycuy)]⟩,⟨w,.agg 21 yeht,[(0,ychv)]⟩]⟩
def pAt(c:Conf)(v:Nat):Int:=(c.getD v []).getD 0 0
def toP(g:Gr)(c:Conf):Ptr:=fun v=>if v<g.ports.length/\0<=pAt c v then some ((g.ports.getD v []).getD (pAt c v).toNat (0,0)).1.toNat else none
structure MtC(g:Gr)(c:Conf):Prop where
 len:c.length=g.ids.length
 row:∀v,v<g.ids.length->(c.getD v []).length=1/\(-1<=pAt c v/\pAt c v<(g.ports.getD v []).length)
section
variable {nm np na nb nw:ByteArray}{g:Gr}{c:Conf}{u v s:Nat}
end
end
section
theorem ykh{i:Type}[DecidableEq i]:∀{l1 l2:List i},l1.Nodup->(∀x∈l1,x∈l2)->l1.length<=l2.length
 |[],_,_,_=>zT _
 | a::t,l2,b,f=>by
   have b:=List.nodup_cons.1 b;have d:=f a zN;have:=ykh (l1:=t) (l2:=l2.erase a) b.2 fun y h=>(zAX fun e=>b.1 (by rw[<-e];exact h)).2 (f y (zJ _ h))
   rw[zAO d]at this;have:=zBO d;simp only[zAS];omega
def kcEx:Ex:=.agg 21 (.bin 35 (eQ 0) (eVar 0))
def ycad(nm c r:ByteArray):ProgT:=⟨nm,[⟨c,1,0,0,1,0⟩],[⟨r,kcEx,[(0,.agg 27 (eQ 0))]⟩]⟩
def ycqy(c:Conf)(v:Nat):Int:=(c.getD v []).getD 0 0
def yekt(g:Gr)(c:Conf)(v:Nat):Prop:=∃u,adj g v u/\ycqy c u=ycqy c v
structure KcC(g:Gr)(c:Conf):Prop where
 len:c.length=g.ids.length
 row:∀v,v<g.ids.length->(c.getD v []).length=1/\(0<=ycqy c v/\ycqy c v<=g.ids.length)
section
variable {nm nc nr:ByteArray}{g:Gr}{c:Conf}{u v s:Nat}
def kcR(g:Gr)(r v:Nat)(c:Conf):Prop:=1<=r->¬yekt g c v
structure KcJ(nm nc nr:ByteArray)(g:Gr)(c:Conf)(k:Cnt):Prop where
 inv:RInvC (yud (ycad nm nc nr) g) (fun c=>yfe (ycad nm nc nr) g c=true) (kcR g) c k
 moves:k.moves+popP (ybq (ycad nm nc nr) g c)<=g.ids.length
end
end
section
def yqd(ls:List (Int×Int))(b:Int):Bool:=ls.any fun l=>decide (l.1=b)
namespace Sh
open Ev Go.RowKit
theorem ybuj{ids:List Int}{ports:List (List (Int×Int))}{a b:Nat}(u:a<ports.length)(g:(ports.getD a []).length<=100000) :
 Returns zG 116 [.ag [ybb ids,yg ports],.i .i64 a,.i .i64 b] (.b (yqd (ports.getD a []) b)):=by
 refine Returns.of (ydma _ _ ?_);obtain⟨n,t⟩:∃n,ports.length=n:=⟨_,rfl⟩;obtain⟨L,o⟩:∃L,ports.getD a []=L:=⟨_,rfl⟩;rw[o]at g ⊢;obtain⟨m,s⟩:∃m,L.length=m:=⟨_,rfl⟩;simp only[c116,ydkz,ydkv,go_sem,zB,zC];refine ybe (σ:=Nat) (fun k=>⟨[(7,.i .i64 k),(3,.pt (3,0) 0 0),(1,.i .i64 a),(2,.i .i64 b)],[(3,.one (some ⟨27,true,2,1,fun _=>[ybb ids,yg ports]⟩))]⟩) (fun k=>k<=m/\∀j,j<k->(L.getD j (0,0)).1≠b) (fun k=>m-k) 0 ⟨zT _,fun j e=>absurd e (zAV j)⟩ ?_ ?_
 .refine yj ?_;simp only[go_sem,wk,go_sem,zA,zC]
 .rintro k ⟨hk,c⟩;simp only[ycxm,yczl,ycwp,ydbc,ydjz,yg,yx,t,o,s,go_sem,zA,zB,zD];refine⟨⟨by omega,by omega⟩,fun r=>⟨⟨by omega,by omega⟩,⟨by omega,by omega⟩,fun d=>?_,fun h=>⟨ikw (by omega) (by omega),?_⟩⟩,fun p=>?_⟩
  .have f:k<L.length:=by omega
   have:yqd L b=true:=List.any_eq_true.2 ⟨L[k],zH _,by rw[getD_at f]at d;exact decide_eq_true d⟩
   rw[this];exact Sim.refl _
  .refine yu (k+1) ⟨by omega,fun j e=>?_⟩ (by omega) ?_
   .by_cases q:j=k
    .rw[q];exact h
    .exact c j (by omega)
   refine yj ?_;simp only[wk,go_sem,zA,zC];omega
  .have:yqd L b=false:=List.any_eq_false.2 fun l g d=>by
    obtain⟨j,e,rfl⟩:=zAD g;have:=c j (by omega)
    rw[getD_at e]at this;exact this (of_decide_eq_true d)
   rw[this];exact Sim.refl _
end Sh
end
section
namespace Sh
open Go Ev
theorem Cm.ct{P:Program}{g:FuncId}{args:List SV}{Q:SV->Own->Prop}{R:SV->Prop}(h:Cm P g [] [] args Q)(a:∀r A,Q r A->vok A 5 r/\R (view A 5 r)):Ct P g args R:=by
 intro G m S W C p
 have I:Conc m.next G om0 ⟨[],[]⟩ ⟨0,.leaf⟩ (ygn m) :=
  ⟨W,zM _,zM _,C,fun B b h=>(by cases h),fun B _=>rfl,fun B γ k z k' z' h=>(by cases h),fun B k z h=>(by cases h),fun t v N=>(by cases N)⟩
 obtain⟨v,j,r,A,X,U,s0,t2,J,l1,l2,_,_,Z⟩:=h m.next G om0 ⟨0,.leaf⟩ (ygn m) S I p
 obtain⟨r3,r4⟩:=a r A Z
 have K:ycb P (.call g S m) (.call v j):=by
  obtain⟨n,b,l⟩:=m;exact ycb.relow s0
 have D:m.next<=j.low:=t2.low
 have e:∀{i x},m.b.get i=some x->i<m.next:=fun {i x} q=>W i x q
 have u:∀H:AM,Le X H->(∀B k z,U B=some (some (k,z))->∀b,j.b.get k=some b->H k=some b)->RV H om0 (view A 5 r) v:=fun H E F=>ylc t2 E F J r3
 have L:ycb P (.call g S m) (.call v ⟨j.next,yir m.b j.b,j.low⟩):=by
  intro O;obtain⟨ext,s⟩:=K O
  have d:∀{i x},(yir m.b j.b).get i=some x->m.b.get i=some x\/j.b.get i=some x:=fun {i x} q=>by
   rw[ydr]at q;split at q
   .rename_i y hy;cases q;exact .inl hy
   .exact .inr q
  refine⟨⟨ext.next,fun i b a=>?_,fun i b E F a=>?_,fun i b a=>?_⟩,fun φ M w o hR V ha hf=>?_⟩
  .rcases d a with q|q
   .exact .inl ⟨b,q⟩
   .exact ext.dom i b q
  .rcases d a with q|q
   .exact q
   .exact ext.old i b E F q
  .rcases d a with q|q
   .exact zAA (e q) ext.next
   .exact ext.wf i b q
  .refine(s φ M w o hR V ha hf).mono ?_;rintro e' w' ⟨v',rfl,T,Y,c,N⟩;refine⟨v',rfl,T,Y,⟨c.le,c.out,c.rel,fun i b a=>?_,c.frame,c.wg⟩,N⟩;rcases d a with q|q
   .have hi:=e q;rw[c.frame i (fun z=>by omega) (.inr (zAA hi D))]
    exact V i b q
   .exact c.sub i b q
 have f:∀{i},m.next<=i->m.b.get i=none:=fun {i} q=>by
  cases hh:m.b.get i with
  |none=>rfl
  |some x=>have:=e hh;omega
 refine⟨_,_,view A 5 r,L,D,fun i b a=>?_,r4,u _ (fun i b a=>?_) (fun B k z hk b a=>?_)⟩
 .show(yir m.b j.b).get i=some b;rw[ydr,a]
 .unfold frsh;rcases l2 i b a with q|q
  .rw[if_neg (by have:=e (C i b q);omega)];exact q
  .rw[if_pos q];show(yir m.b j.b).get i=some b;rw[ydr,f q];exact t2.sub i b a
 .unfold frsh;have:=(t2.apart B k z hk).2.1;rw[if_pos this];show(yir m.b j.b).get k=some b;rw[ydr,f this];exact a
theorem Cm.weak {P:Program}{g:FuncId}{o:Own}{args:List SV}{Q R:SV->Own->Prop}(h:Cm P g [] o args Q)
 (I:∀r l,Q r l->∃j i,Weak [] ⟨[(0,r)],l⟩ ⟨[(0,j)],i⟩/\(cln (live i) 5 j=true/\allQ (fun p=>ycl (live i) p.2) i)/\R j i):Cm P g [] o args R:=by
 intro w G U f m T H d;obtain⟨v,y,r,l,B,n,S,t2,q,M,N,_,_,E⟩:=h w G U f m T H d;obtain⟨j,i,J,k,F⟩:=I r l E
 have t3:Conc w B n ⟨[(0,r)],l⟩ ⟨1,tOf [v]⟩ y:=⟨t2.wf,t2.low,t2.nxt,t2.sub,t2.own,t2.dom,t2.inj,t2.apart,fun t x a=>by
  unfold look at a;split at a
  .rename_i e
   cases a
   exact⟨v,by rw[ydm];simp[<-e],q⟩
  .cases a⟩
 obtain⟨A,D,K,L,c,_⟩:=J w B n _ y t3;obtain⟨u,C,O⟩:=c.fr 0 j rfl
 have e:u=v:=by
  rw[ydm]at C
  simpa using C.symm
 subst e
 exact⟨u,y,j,i,D,A,S,⟨c.wf,c.low,c.nxt,c.sub,c.own,c.dom,c.inj,c.apart,fun t x a=>(by cases a)⟩,O,fun x b a=>K x b (M x b a),fun x b a=>by
  rcases L x b a with z|z
  .exact N x b z
  .exact .inr z,fun V s=>absurd s zAE,⟨k.1,k.2,trivial⟩,F⟩
end Sh
end
end Go.Proofs.YthclbjjgfcgbgaaGreatDoor
