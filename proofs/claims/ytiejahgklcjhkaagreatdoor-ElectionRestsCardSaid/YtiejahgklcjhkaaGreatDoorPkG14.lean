/- Joined. -/
import Derived.Test.YtiejahgklcjhkaaGreatDoorPkG13
set_option linter.unusedSimpArgs false
set_option linter.unusedVariables false
set_option maxRecDepth 8000
open Nat renaming reduceEqDiff→zA,reduceAdd→zB,reduceLeDiff→zC,reduceLT→zD,zero_le→zJ,pow_le_pow_right→zM,testBit_lt_two_pow→zO,lt_of_lt_of_le→zQ,pow_lt_pow_right→zS,shiftRight_eq_div_pow→zT,le_refl→zV,testBit_and→zW,lt_of_le_of_lt→zY,lt_succ_self→zZ,mod_eq_of_lt→zAA,testBit_eq_decide_div_mod_eq→zAB,not_lt_zero→zAE,testBit_two_pow_sub_one→zAF,lt_pow_two_of_testBit→zAH,mul_div_cancel_left→zAK,eq_of_testBit_eq→zAL,reduceMul→zAN,pow_succ→zAP,or_lt_two_pow→zAQ,and_le_left→zAS,div_le_self→zAU,two_pow_pos→zAV,reduceBEq→zAW,lt_irrefl→zAX,testBit→zAZ
open Bool renaming and_eq_true→zF
open Int renaming natCast_zero→zG,toNat_natCast→zK,reduceToNat→zAD
open BitVec renaming ofInt→zH,ofInt_natCast→zN,toNat_ofNat→zX,getLsbD_ofNat→zAM
open List renaming getElem_mem→zI,getElem?_eq_getElem→zL,take_succ_eq_append_getElem→zU,getD→zAC,append_assoc→zAG,take_length→zAJ,getElem_of_mem→zAO,foldl_append→zAR,length_map→zAT,length→zAY
open Classical renaming byContradiction→zAI
open Go
namespace Go.Proofs.YtiejahgklcjhkaaGreatDoor
section
def ylg(f:Nat->Bool):Nat->Nat
 |0=>0
 |n+1=>if f n then ylg f n|||2^n else ylg f n
theorem yng(f:Nat->Bool):∀(n i:Nat),(ylg f n).testBit i=(decide (i<n)&&f i)
 |0,i=>by simp[ylg]
 | n + 1,i=>by
   unfold ylg;have ih:=yng f n i
   by_cases h:f n=true
   ·rw[if_pos h,Nat.testBit_or,ih,Nat.testBit_two_pow]
    by_cases e:n=i
    ·subst e;simp[h]
    ·have:(i<n+1)=(i<n):=propext (by omega)
     simp[e,this]
   ·rw[if_neg h,ih]
    by_cases e:n=i
    ·subst e;simp[h]
    ·have:(i<n+1)=(i<n):=propext (by omega)
     simp[this]
theorem ybig(f:Nat->Bool)(n:Nat):ylg f n<2^n:=by
 refine zAH _ fun i hi=>?_;rw[yng];simp;omega
def difB(a b:Nat):Nat:=a ^^^ (a&&&b)
theorem ygf(a b i:Nat):(difB a b).testBit i=(a.testBit i && !(b.testBit i)):=by
 unfold difB;rw[Nat.testBit_xor,zW];cases a.testBit i<;>cases b.testBit i<;>rfl
theorem yby(a:Nat):a=0↔∀i,a.testBit i=false:=by
 constructor
 ·rintro rfl i;simp
 ·intro h;exact zAL fun i=>by rw[h i];simp
theorem ydko{a b n:Nat}(h:a<2^n):a&&&b<2^n:=by
 have:=zAS (n:=a) (m:=b);omega
theorem yzd{a b n:Nat}(h:a<2^n):difB a b<2^n:=by
 refine zAH _ fun i hi=>?_;rw[ygf,zO (zQ h (zM (by omega) hi))]
 rfl
structure Cnt where
 steps:Nat
 moves:Nat
 rounds:Nat
 begun:Nat
 pend:Nat
def yfe(s:Nat):Nat->Nat
 |0=>0
 |n+1=>yfe s n+(s.testBit n).toNat
def popP(s:Nat):Nat:=yfe s 32
def ydp(e:Nat):Cnt:=⟨0,0,0,0,e⟩
def addP(k:Cnt)(chosen after:Nat):Cnt :=
 let p:=difB k.pend chosen&&&after
 ⟨k.steps+1,k.moves+popP chosen,if p=0 then k.rounds+1 else k.rounds,k.rounds+1,if p=0 then after else p⟩
def Cnt.ok(k:Cnt):Prop:=k.rounds<=k.begun/\k.begun<=k.rounds+1/\k.begun<=k.steps/\k.steps<=k.moves/\k.moves<=24*k.steps/\k.pend<2^24
theorem ykd(s:Nat):∀n,yfe s n<=n
 |0=>zV _
 | n+1=>by
   have:=ykd s n;unfold yfe;cases s.testBit n<;>simp[Bool.toNat]<;>omega
theorem yvy(s:Nat)(h:s<2^24):∀k,yfe s (24+k)=yfe s 24
 |0=>rfl
 | k+1=>by
   have e:s.testBit (24+k)=false:=zO (zQ h (zM (by omega) (by omega)))
   show yfe s (24+k)+(s.testBit (24+k)).toNat=_;rw[yvy s h k,e];rfl
theorem ybvx(s:Nat)(h:s<2^24):popP s<=24:=by
 have:=yvy s h 8;unfold popP;rw[this];exact ykd s 24
theorem ybdb{s i:Nat}(hs:s.testBit i=true):∀n,i<n->1<=yfe s n
 |0,h=>by omega
 | n+1,h=>by
   unfold yfe
   by_cases e:i=n
   ·subst e;rw[hs];simp
   ·have:=ybdb hs n (by omega);omega
theorem ycfl(s:Nat)(h:s<2^32)(h0:s≠0):1<=popP s:=by
 refine zAI fun hc=>h0 ?_;rw[yby];intro i;cases hb:s.testBit i with
 |false=>rfl
 | true =>
   exfalso
   have hi:i<32:=by
    refine zAI fun hi=>?_;rw[zO (zQ h (zM (by omega) (by omega)))]at hb
    cases hb
   exact hc (ybdb hb 32 hi)
theorem ybvb{e:Nat}(h:e<2^24):(ydp e).ok:=⟨zV _,by simp[ydp],zV _,zV _,by simp[ydp],h⟩
theorem yday{k:Cnt}{s e:Nat}(hk:k.ok)(hs:s<2^24)(h0:s≠0)(he:e<2^24):(addP k s e).ok:=by
 obtain⟨h1,h2,h3,h4,h5,h6⟩:=hk;have p1:=ybvx s hs;have p2:=ycfl s (by omega) h0
 have hp:difB k.pend s&&&e<2^24:=ydko (yzd h6);unfold addP Cnt.ok;simp only;refine⟨by split<;>omega,by split<;>omega,by omega,by omega,by omega,by split<;>omega⟩
structure Sys where
 n:Nat
 en:Conf->Nat
 mv:Conf->Nat->Conf
def Sys.run(S:Sys)(res:Nat->Nat->Nat):List Nat->Conf->Cnt->List (Conf×Cnt)
 |[],_,_=>[]
 | w::ws,c,k=>if S.en c=0 then[]else(let s:=res (S.en c) w
   let d:=S.mv c s
   (d,addP k s (S.en d))::S.run res ws d (addP k s (S.en d)))
def Sys.runs(S:Sys)(res:Nat->Nat->Nat)(ws:List Nat)(c:Conf):List (Conf×Cnt):=(c,ydp (S.en c))::S.run res ws c (ydp (S.en c))
def subB(a b:Nat):Prop:=∀i,a.testBit i=true->b.testBit i=true
def ycev(res:Nat->Nat->Nat):Prop:=∀e w,e≠0->res e w≠0/\subB (res e w) e
theorem Sys.run_all{S:Sys}{res:Nat->Nat->Nat}(hr:ycev res){J:Conf->Cnt->Prop}(hstep:∀c k s,J c k->s≠0->subB s (S.en c)->J (S.mv c s) (addP k s (S.en (S.mv c s)))) :
 ∀(ws:List Nat) (c:Conf) (k:Cnt),J c k->∀p∈S.run res ws c k,J p.1 p.2
 |[],_,_,_,p,hp=>by cases hp
 | w :: ws,c,k,hJ,p,hp=>by
   unfold Sys.run at hp;split at hp
   ·cases hp
   ·rename_i h0
    obtain⟨r1,r2⟩:=hr _ w h0;have hJ':=hstep c k _ hJ r1 r2;rcases List.mem_cons.1 hp with e|e
    ·rw[e];exact hJ'
    ·exact Sys.run_all hr hstep ws _ _ hJ' p e
theorem Sys.runs_all{S:Sys}{res:Nat->Nat->Nat}(hr:ycev res){J:Conf->Cnt->Prop}(hstep:∀c k s,J c k->s≠0->subB s (S.en c)->J (S.mv c s) (addP k s (S.en (S.mv c s)))){ws:List Nat}{c:Conf}(h:J c (ydp (S.en c))):∀p∈S.runs res ws c,J p.1 p.2:=fun p hp=>by
 rcases List.mem_cons.1 hp with e|e
 ·rw[e];exact h
 ·exact Sys.run_all hr hstep ws _ _ h p e
structure ByRounds(S:Sys)(V:Conf->Prop)(P:Nat->Nat->List Int->Prop):Prop where
 valid:∀c s,V c->s≠0->subB s (S.en c)->V (S.mv c s)
 stay:∀c s v,V c->v<S.n->s.testBit v=false->(S.mv c s).getD v []=c.getD v []
 move:∀c s v r,V c->v<S.n->s.testBit v=true->subB s (S.en c)->(∀u,u<S.n->P r u (c.getD u []))->P (r+1) v ((S.mv c s).getD v [])
 rest:∀c v r,V c->v<S.n->(S.en c).testBit v=false->(∀u,u<S.n->P r u (c.getD u []))->P (r+1) v (c.getD v [])
 less:∀r v s,P (r+1) v s->P r v s
structure RInv(S:Sys)(V:Conf->Prop)(P:Nat->Nat->List Int->Prop)(c:Conf)(k:Cnt):Prop where
 valid:V c
 all:∀v,v<S.n->P k.rounds v (c.getD v [])
 done:∀v,v<S.n->k.pend.testBit v=false->P (k.rounds+1) v (c.getD v [])
 begun:k.begun<=k.rounds+1
theorem ByRounds.start{S:Sys}{V:Conf->Prop}{P:Nat->Nat->List Int->Prop}(h:ByRounds S V P){c:Conf}(hv:V c)(h0:∀v,v<S.n->P 0 v (c.getD v [])):RInv S V P c (ydp (S.en c)) :=
 ⟨hv,h0,fun v hn hb=>h.rest c v 0 hv hn hb h0,by simp[ydp]⟩
theorem ByRounds.step{S:Sys}{V:Conf->Prop}{P:Nat->Nat->List Int->Prop}(h:ByRounds S V P)(c:Conf)(k:Cnt)(s:Nat)(hi:RInv S V P c k)(h0:s≠0)(hs:subB s (S.en c)):RInv S V P (S.mv c s) (addP k s (S.en (S.mv c s))):=by
 obtain⟨i1,i2,i3,i4⟩:=hi;have hv:=h.valid c s i1 h0 hs
 have hall:∀v,v<S.n->P k.rounds v ((S.mv c s).getD v []):=fun v hn=>by
  cases hb:s.testBit v with
  |true=>exact h.less _ _ _ (h.move c s v _ i1 hn hb hs i2)
  |false=>rw[h.stay c s v i1 hn hb];exact i2 v hn
 have hnext:∀v,v<S.n->(difB k.pend s&&&S.en (S.mv c s)).testBit v=false->P (k.rounds+1) v ((S.mv c s).getD v []):=fun v hn hb=>by
  rw[zW,ygf]at hb;cases hb1:s.testBit v with
  |true=>exact h.move c s v _ i1 hn hb1 hs i2
  | false =>
    cases hb2:k.pend.testBit v with
    |false=>rw[h.stay c s v i1 hn hb1];exact i3 v hn hb2
    | true =>
      rw[hb1,hb2]at hb;exact h.rest _ v _ hv hn (by simpa using hb) hall
 unfold addP;simp only
 by_cases hp:difB k.pend s&&&S.en (S.mv c s)=0
 ·simp only[if_pos hp];have hall':∀v,v<S.n->P (k.rounds+1) v ((S.mv c s).getD v []):=fun v hn=>hnext v hn (by rw[hp];simp)
  exact⟨hv,hall',fun v hn hb=>h.rest _ v _ hv hn hb hall',by show k.rounds+1<=_;simp⟩
 ·simp only[if_neg hp];exact⟨hv,hall,hnext,zV _⟩
theorem ByRounds.runs{S:Sys}{V:Conf->Prop}{P:Nat->Nat->List Int->Prop}(h:ByRounds S V P){res:Nat->Nat->Nat}(hr:ycev res){ws:List Nat}{c:Conf}(hv:V c)(h0:∀v,v<S.n->P 0 v (c.getD v [])):∀p∈S.runs res ws c,RInv S V P p.1 p.2 :=
 Sys.runs_all hr h.step (h.start hv h0)
end
section
structure RuleT where
 name:ByteArray
 guard:Ex
 sets:List (Int×Ex)
structure ProgT where
 name:ByteArray
 vars:List VarR
 rules:List RuleT
instance:Inhabited Ex:=⟨.leaf 0 0⟩
instance:Inhabited RuleT:=⟨⟨.empty,default,[]⟩⟩
def RuleT.raw(r:RuleT):RuleR:=⟨r.name,r.guard.ser,r.sets.map fun s=>⟨s.1,s.2.ser⟩⟩
def ProgT.raw(p:ProgT):ProgR:=⟨p.name,p.vars,p.rules.map RuleT.raw⟩
def RuleT.ok(nv:Nat)(r:RuleT):Bool:=r.guard.ok nv false&&decide (r.guard.ser.length<=1000)&&decide (r.sets.length<=100)&&r.sets.all fun s=>decide (0<=s.1/\s.1<nv)&&s.2.ok nv false&&decide (s.2.ser.length<=1000)
def VarR.ok(x:VarR):Bool:=decide (x.kind=1\/x.kind=2\/x.kind=3)&&decide (0<=x.lo/\x.lo<=4096)&&decide (-4096<=x.hi/\x.hi<=4096)&&decide (0<=x.perNode/\x.perNode<=255)&&decide (0<=x.perID/\x.perID<=255)
def ProgT.ok(p:ProgT):Bool:=decide (1<=p.vars.length/\p.vars.length<=6)&&p.vars.all VarR.ok&&decide (p.rules.length<=12)&&p.rules.all (RuleT.ok p.vars.length)
def yiz(g:Gr)(c:Conf)(v:Nat)(r:RuleT):Bool:=yct g c v r.guard (-1)!=0
def yhb(p:ProgT)(g:Gr)(c:Conf)(v:Nat):Int:=match p.rules.findIdx? (yiz g c v)with|some i=>i|none=>-1
def ybi(g:Gr)(v:Nat)(x:VarR):Int×Int :=
 if x.kind=1 then(x.lo,x.hi+x.perNode*(g.ids.length:Int)+x.perID*maxI g.ids)else if x.kind=2 then(0,1)else if x.kind=3 then(-1,((g.ports.getD v []).length:Int)-1)else(0,-1)
def yfp(kind:Int)(b:Int×Int)(x:Int):Int:=if x>=b.1/\x<=b.2 then x else if kind=3 then -1 else if x<b.1 then b.1 else b.2
def yoa(p:ProgT)(g:Gr)(c:Conf)(v:Nat)(s0:List Int)(sets:List (Int×Ex)):List Int :=
 sets.foldl (fun s a=>s.set a.1.toNat (yfp (p.vars.getD a.1.toNat default).kind (ybi g v (p.vars.getD a.1.toNat default)) (yct g c v a.2 (-1)))) s0
def ybaf(p:ProgT)(g:Gr)(c:Conf)(v:Nat)(r:Nat):List Int:=yoa p g c v (c.getD v []) (p.rules.getD r default).sets
def ybm(p:ProgT)(g:Gr)(c:Conf):Nat:=ylg (fun v=>decide (yhb p g c v>=0)) g.ids.length
def yfa(p:ProgT)(g:Gr)(c:Conf)(s:Nat):Conf:=c.zipIdx.map fun q=>if s.testBit q.2 then ybaf p g c q.2 (yhb p g c q.2).toNat else q.1
def ybu(p:ProgT)(g:Gr):Sys:=⟨g.ids.length,ybm p g,yfa p g⟩
def yeq(p:ProgT)(g:Gr)(c:Conf):Bool:=yoy g.ids.length (fun v=>p.vars.map (ybi g v)) c
end
section
namespace Sh
open Go Ev
theorem ydfr{g:Gr}(hg:ybe g):0<=maxI g.ids/\maxI g.ids<=255:=by
 have h1:=hg.1;have h2:=hg.2.2.1;rw[ybit (by omega) fun x hx=>(hg.2.2.2.1 x hx).1]
 exact yst hg
theorem ybff{x:VarR}(h:x.ok=true):(x.kind=1\/x.kind=2\/x.kind=3)/\(0<=x.lo/\x.lo<=4096)/\(-4096<=x.hi/\x.hi<=4096)/\(0<=x.perNode/\x.perNode<=255)/\(0<=x.perID/\x.perID<=255):=by
 unfold VarR.ok at h;simp only[zF,decide_eq_true_eq]at h;obtain⟨⟨⟨⟨a,b⟩,c⟩,d⟩,e⟩:=h;exact⟨a,b,c,d,e⟩
theorem mulN{a b A B:Int}(h1:0<=a)(h2:a<=A)(h3:0<=b)(h4:b<=B):0<=a*b/\a*b<=A*B:=⟨Int.mul_nonneg h1 h3,Int.mul_le_mul h2 h4 h3 (by omega)⟩
theorem yma{g:Gr}(hg:ybe g){x:VarR}(hx:x.ok=true):(0<=x.perNode*(g.ids.length:Int)/\x.perNode*(g.ids.length:Int)<=255*24)/\(0<=x.perID*maxI g.ids/\x.perID*maxI g.ids<=255*255):=by
 obtain⟨_,_,_,h4,h5⟩:=ybff hx;have h6:=ydfr hg;have h7:=hg.2.1;have h8:=hg.2.2.1;exact⟨mulN h4.1 h4.2 (by omega) (by omega),mulN h5.1 h5.2 h6.1 h6.2⟩
theorem ybes{g:Gr}(hg:ybe g){x:VarR}(hx:x.ok=true)(v:Int):Returns Tryz.prog 198 [.ag (varC x),grV g,.i .i64 v] (.tp [.i .i64 x.lo,.i .i64 (x.hi+x.perNode*(g.ids.length:Int)+x.perID*maxI g.ids)]):=by
 refine Returns.of (ydbf _ _ ?_);have h1:=hg.1;have h7:=hg.2.1;have h8:=hg.2.2.1;have hM:=yddc g.ids (by omega) (by omega)
 obtain⟨hb1,hb2⟩:=yma hg hx;obtain⟨_,_,hv3,_,_⟩:=ybff hx;simp only[yw]at hM;simp only[c198,ycvr,ycsd,grV,varC,yw,go_sem,zA,zB,zC,zD,↓reduceIte,reduceCtorEq];refine⟨ikw (by omega) (by omega),ikw (by omega) (by omega),hM.use ?_⟩
 simp only[ybh,go_sem,zA,zB,↓reduceIte,reduceCtorEq];refine⟨ikw (by omega) (by omega),ikw (by omega) (by omega),?_⟩
 exact Sim.refl _
theorem ybdy(g:Gr)(x:VarR)(v:Int):Returns Tryz.prog 199 [.ag (varC x),grV g,.i .i64 v] (.tp [.i .i64 0,.i .i64 1]):=by
 refine Returns.of (ydej _ _ ?_);simp only[c199,ycro,ychr,grV,varC,go_sem,zA,zB,zD,↓reduceIte,reduceCtorEq];exact Sim.refl _
theorem ybdx{g:Gr}(hg:ybe g)(x:VarR){v:Nat}(hv:v<g.ports.length):Returns Tryz.prog 200 [.ag (varC x),grV g,.i .i64 v] (.tp [.i .i64 (-1),.i .i64 (((g.ports.getD v []).length:Int)-1)]):=by
 refine Returns.of (ydfp _ _ ?_);have hd:=hg.deg_lt (v:=v);simp only[c200,ychs,ycwa,grV,yx,yba,varC,go_sem,zA,zB,zD,↓reduceIte,reduceCtorEq];refine⟨by omega,ikw (by omega) (by omega),?_⟩
 exact Sim.refl _
theorem ybzw(kind:Int)(b:Int×Int)(x:Int):Returns Tryz.prog 194 [.i .i64 kind,.ag [.i .i64 b.1,.i .i64 b.2],.i .i64 x] (.i .i64 (yfp kind b x)):=by
 refine Returns.of (yded _ _ ?_);simp only[c194,ycwg,ycxi,ycsv,yckj,ycnh,ycql,ycos,ychm,ybb,yfp,go_sem,zAD,zA,zB,zC,zD,zAN,↓reduceIte,reduceCtorEq];refine⟨by omega,fun h1=>⟨by omega,fun h2=>by rw[if_pos ⟨h1,h2⟩],fun h2=>⟨fun h3=>by rw[if_neg (fun q=>h2 q.2),if_pos h3],fun h3=>⟨by omega,fun h4=>⟨by omega,by rw[if_neg (fun q=>h2 q.2),if_neg h3,if_pos h4]⟩,fun h4=>⟨by omega,by rw[if_neg (fun q=>h2 q.2),if_neg h3,if_neg h4]⟩⟩⟩⟩,fun h1=>⟨fun h3=>by rw[if_neg (fun q=>h1 q.1),if_pos h3],fun h3=>⟨by omega,fun h4=>⟨by omega,by rw[if_neg (fun q=>h1 q.1),if_neg h3,if_pos h4]⟩,fun h4=>⟨by omega,by rw[if_neg (fun q=>h1 q.1),if_neg h3,if_neg h4]⟩⟩⟩⟩
theorem yvg{g:Gr}(hg:ybe g){x:VarR}(hx:x.ok=true){v:Nat}(hv:v<g.ports.length):Returns Tryz.prog 171 [.ag (varC x),grV g,.i .i64 v] (.tp [.i .i64 (ybi g v x).1,.i .i64 (ybi g v x).2]):=by
 refine Returns.of (yddp _ _ ?_);have h1:=ybes hg hx v;have h2:=ybdy g x v;have h3:=ybdx hg x hv;obtain⟨hk,_⟩:=ybff hx;simp only[varC,grV]at h1 h2 h3;simp only[c171,yckp,yciv,ycjz,varC,grV,splice,go_sem,zA,zB,zC,zD,↓reduceIte,reduceCtorEq]
 refine ybj (σ:=Nat) (fun k=>⟨[(17,.i .i64 k),(15,.os (14,0) 0 3 true),(16,.i .i64 3),(2,.i .i64 v),(3,.pt (3,0) 0 0),(4,.pt (4,0) 0 0)],
  [(3,.one (some ⟨87,true,6,1,fun _=>varC x⟩)),(4,.one (some ⟨27,true,2,1,fun _=>[yw g.ids,yx g.ports]⟩)),
   (14,.one (some ⟨209,false,2,3,fun k=>if k=0 then[.i .i64 1,.fn 198 [] []]else if k=1 then[.i .i64 2,.fn 199 [] []]else[.i .i64 3,.fn 200 [] []]⟩))]⟩)
  (fun k=>k<=2/\(1<=k->x.kind≠1)/\(2<=k->x.kind≠2)) (fun k=>3-k) 0 ⟨by omega,by omega,by omega⟩ ?_ ?_
 ·refine yh [] [] [] ?_;simp only[varC,allQ,live,yc,ybb,zG,go_sem,zA,↓reduceIte,reduceCtorEq];refine⟨rfl,fun i hi=>?_⟩;rcases(show i=0\/i=1\/i=2 by omega)with rfl|rfl|rfl
  ·simp only[live,yc,go_sem,↓reduceIte,reduceCtorEq]
  ·simp only[if_neg (show ¬(1:Nat)=0 by omega),live,yc,go_sem,↓reduceIte,reduceCtorEq]
  ·simp only[if_neg (show ¬(2:Nat)=0 by omega),if_neg (show ¬(2:Nat)=1 by omega),live,yc,go_sem,zA,↓reduceIte,reduceCtorEq]
 ·rintro k ⟨hk2,hk3,hk4⟩;rcases(show k=0\/k=1\/k=2 by omega)with rfl|rfl|rfl
  ·simp only[ybjf,ybjc,ybiy,ybhv,ybin,ybil,varC,splice,go_sem,zA,zB,zC,zD,↓reduceIte,reduceCtorEq];refine⟨fun _=>⟨by omega,fun he=>h1.use ?_,fun he=>⟨ikw (by omega) (by omega),?_⟩⟩,fun h=>by omega⟩
   ·simp only[ybh,go_sem,zA,zB,↓reduceIte,reduceCtorEq];have e:ybi g v x=(x.lo,x.hi+x.perNode*(g.ids.length:Int)+x.perID*maxI g.ids):=by unfold ybi;rw[if_pos he.symm]
    rw[e];exact Sim.refl _
   ·refine yj 1 ⟨by omega,fun _ q=>he q.symm,by omega⟩ (by omega) ?_
    refine yh [] [] [] ?_;simp only[allQ,live,yc,ybb,zG,go_sem,zA,↓reduceIte,reduceCtorEq];refine⟨by omega,fun i hi=>?_⟩
    rcases(show i=0\/i=1\/i=2 by omega)with rfl|rfl|rfl
    ·simp only[live,yc,go_sem,↓reduceIte,reduceCtorEq]
    ·simp only[if_neg (show ¬(1:Nat)=0 by omega),live,yc,go_sem,↓reduceIte,reduceCtorEq]
    ·simp only[if_neg (show ¬(2:Nat)=0 by omega),if_neg (show ¬(2:Nat)=1 by omega),live,yc,go_sem,zA,↓reduceIte,reduceCtorEq]
  ·simp only[ybjf,ybjc,ybiy,ybhv,ybin,ybil,varC,splice,go_sem,zA,zB,zC,zD,↓reduceIte,reduceCtorEq];refine⟨fun _=>⟨by omega,fun he=>h2.use ?_,fun he=>⟨ikw (by omega) (by omega),?_⟩⟩,fun h=>by omega⟩
   ·simp only[ybh,go_sem,zA,zB,↓reduceIte,reduceCtorEq];have e:ybi g v x=(0,1):=by unfold ybi;rw[if_neg (by omega),if_pos he.symm]
    rw[e];exact Sim.refl _
   ·refine yj 2 ⟨by omega,fun _=>by omega,fun _ q=>he q.symm⟩ (by omega) ?_
    refine yh [] [] [] ?_;simp only[allQ,live,yc,ybb,go_sem,zA,↓reduceIte,reduceCtorEq];refine⟨by omega,fun i hi=>?_⟩
    rcases(show i=0\/i=1\/i=2 by omega)with rfl|rfl|rfl
    ·simp only[live,yc,go_sem,↓reduceIte,reduceCtorEq]
    ·simp only[if_neg (show ¬(1:Nat)=0 by omega),live,yc,go_sem,↓reduceIte,reduceCtorEq]
    ·simp only[if_neg (show ¬(2:Nat)=0 by omega),if_neg (show ¬(2:Nat)=1 by omega),live,yc,go_sem,zA,↓reduceIte,reduceCtorEq]
  ·simp only[ybjf,ybjc,ybiy,ybhv,ybin,ybil,varC,splice,go_sem,zA,zB,zC,zD,↓reduceIte,reduceCtorEq];refine⟨fun _=>⟨by omega,fun he=>h3.use ?_,fun he=>by omega⟩,fun h=>by omega⟩
   simp only[ybh,go_sem,zA,zB,↓reduceIte,reduceCtorEq];have e:ybi g v x=(-1,((g.ports.getD v []).length:Int)-1):=by unfold ybi;rw[if_neg (by omega),if_neg (by omega),if_pos he.symm]
   rw[e];exact Sim.refl _
def yiy(n:Nat)(vars:List VarR)(b:Nat->VarR->Int×Int):SV:=.sl 1 n (fun v=>[.sl 2 vars.length (fun i=>[.i .i64 (b v (vars.getD i default)).1,.i .i64 (b v (vars.getD i default)).2])])
def rowT(vars:List VarR)(b:VarR->Int×Int):SV:=.sl 2 vars.length (fun i=>[.i .i64 (b (vars.getD i default)).1,.i .i64 (b (vars.getD i default)).2])
theorem ybdm(p:ProgR){g:Gr}(hg:ybe g)(hp:p.vars.all VarR.ok=true)(hl:p.vars.length<=6):Returns Tryz.prog 144 [.ag (ynh p),grV g] (yiy g.ids.length p.vars (ybi g)):=by
 refine Returns.of (ydcj _ _ ?_);have h24:=hg.2.1;have hid:=hg.2.2.1;obtain⟨n,hn⟩:∃n,g.ids.length=n:=⟨_,rfl⟩;obtain⟨nv,hnv⟩:∃k,p.vars.length=k:=⟨_,rfl⟩;rw[hn];rw[hnv]at hl;simp only[c144,ycvg,ycxn,ycmw,grV,yw,ynh,hn,go_sem,zA,zB,zC,zD,↓reduceIte,reduceCtorEq];refine⟨by omega,?_⟩
 refine ybj (σ:=Nat) (fun k=>⟨[(15,.i .i64 k),(14,.i .i64 n),(5,.os (12,0) 0 n true),(2,.pt (2,0) 0 0),(3,.pt (3,0) 0 0)],
  [(2,.one (some ⟨58,true,3,1,fun _=>ynh p⟩)),(3,.one (some ⟨27,true,2,1,fun _=>[yw g.ids,yx g.ports]⟩)),
   (12,.one (some ⟨73,false,1,n,fun i=>[if i<k then rowT p.vars (ybi g i)else .a (.slice none 0 0)]⟩))]⟩) (fun k=>k<=n) (fun k=>n-k) 0 (zJ _) ?_ ?_
 ·refine yh [] [] [] ?_;simp only[ynh,yw,hn,allQ,live,yc,zG,go_sem,zA,↓reduceIte,reduceCtorEq];intro i _;rw[if_neg (by omega)]
  simp only[yc,go_sem]
 ·intro k hk;simp only[yckr,yctp,ycpi,ycvi,ynh,ydh,splice,hnv,go_sem,zA,zB,zC,zD,↓reduceIte,reduceCtorEq];refine⟨fun hlt=>⟨by omega,by omega,by omega,?_⟩,fun hlt=>?_⟩
  ·have hk':k<n:=by omega
   let b:Nat->Int×Int:=fun i=>ybi g k (p.vars.getD i default)
   refine ybj (σ:=Nat) (fun j=>⟨[(28,.i .i64 j),(26,ydh p.vars),(27,.i .i64 nv),(6,.i .i64 k),(15,.i .i64 k),(14,.i .i64 n),(5,.os (12,0) 0 n true),(2,.pt (2,0) 0 0),(3,.pt (3,0) 0 0)],
    [(2,.one (some ⟨58,true,3,1,fun _=>ynh p⟩)),(3,.one (some ⟨27,true,2,1,fun _=>[yw g.ids,yx g.ports]⟩)),
     (12,.one (some ⟨73,false,1,n,fun i=>[if i<k then rowT p.vars (ybi g i)else if i=k then .os (23,0) 0 nv true else .a (.slice none 0 0)]⟩)),
     (23,.one (some ⟨75,false,2,nv,fun i=>[.i .i64 (if i<j then(b i).1 else 0),.i .i64 (if i<j then(b i).2 else 0)]⟩))]⟩) (fun j=>j<=nv) (fun j=>nv-j) 0 (zJ _) ?_ ?_
   ·refine yh [] [] [] ?_;simp only[ynh,ydh,hnv,allQ,live,yc,ybb,zG,go_sem,zA,↓reduceIte,reduceCtorEq];refine⟨fun i hi=>?_,fun i hi=>?_⟩
    ·by_cases q2:i=k
     ·simp only[if_pos q2,if_neg (show ¬i<k by omega)]
      simp only[live,yc,go_sem,zA,↓reduceIte,reduceCtorEq]
     ·simp only[if_neg q2]
      by_cases q1:i<k
      ·simp only[if_pos q1];simp only[rowT,live,yc,go_sem,reduceCtorEq]
      ·simp only[if_neg q1];simp only[live,yc,go_sem,reduceCtorEq]
    ·simp only[if_neg (zAE i),and_self]
   ·intro j hj;simp only[yctz,ycul,ycut,ybur,ybqs,ynh,ydh,varC,splice,hnv,go_sem,zA,zB,zD,↓reduceIte,reduceCtorEq];refine⟨fun hlt=>?_,fun hlt=>?_⟩
    ·have hj':j<nv:=by omega
     have hB:=yvg hg (x:=p.vars.getD j default) (by
      rw[getD_at (by omega)]
      exact List.all_eq_true.1 hp _ (zI _)) (v:=k) (by omega)
     simp only[varC,grV]at hB;refine⟨by omega,by omega,by omega,by omega,by omega,hB.use ?_⟩
     simp only[ybh,splice,go_sem,zAD,zA,zB,zC,zAN,↓reduceIte,reduceCtorEq];refine⟨by omega,by omega,by omega,by decide,by omega,by omega,by omega,by decide,ikw (by omega) (by omega),?_⟩
     refine yj (j+1) (by omega) (by omega) ?_
     refine yh [] [] [] ?_;simp only[allQ,live,yc,ybb,go_sem,zA,↓reduceIte,reduceCtorEq];refine⟨by omega,fun i hi=>?_,fun i hi=>?_⟩
     ·by_cases q1:i<k
      ·simp only[if_pos q1];simp only[rowT,yc,go_sem]
      ·simp only[if_neg q1]
       by_cases q2:i=k
       ·simp only[if_pos q2];simp only[live,yc,go_sem,zA,↓reduceIte]
       ·simp only[if_neg q2];simp only[yc,go_sem]
     ·by_cases q2:i=j
      ·subst q2;simp only[if_pos (zZ i),↓reduceIte];simp only[live,ybb,go_sem,reduceCtorEq];exact⟨rfl,rfl⟩
      ·simp only[if_neg q2]
       by_cases q1:i<j
       ·simp only[if_pos q1,if_pos (show i<j+1 by omega)]
        simp only[live,yc,go_sem,reduceCtorEq]
       ·simp only[if_neg q1,if_neg (show ¬i<j+1 by omega)]
        simp only[live,yc,go_sem,reduceCtorEq]
    ·obtain rfl:j=nv:=by omega
     refine⟨ikw (by omega) (by omega),?_⟩
     refine yj (k+1) (by omega) (by omega) ?_
     refine yh [] [] [(23,0)] ?_;simp only[allQ,live,yc,ybb,go_sem,zA,zC,↓reduceIte,reduceCtorEq];refine⟨by omega,fun i hi=>?_⟩
     by_cases q1:i<k
     ·simp only[if_pos q1,if_pos (show i<k+1 by omega)]
      simp only[rowT,yc,go_sem]
     ·by_cases q2:i=k
      ·simp only[if_neg q1,if_pos q2,if_pos (show i<k+1 by omega)]
       subst q2;simp only[rowT,hnv,go_sem,zA,↓reduceIte];refine yiv fun q hq=>?_;simp only[if_pos hq];simp only[SimL,go_sem];exact⟨Sim.refl _,Sim.refl _⟩
      ·simp only[if_neg q1,if_neg q2,if_neg (show ¬i<k+1 by omega)]
       simp only[yc,go_sem]
  ·obtain rfl:k=n:=by omega
   simp only[ybyq,go_sem,zA,zB,↓reduceIte,reduceCtorEq];refine⟨fun q hq=>by simp only[if_pos hq];simp only[rowT,go_sem],?_⟩
   refine yiv fun q hq=>?_;simp only[if_pos hq];simp only[SimL,yc,rowT,hnv,go_sem]
end Sh
end
section
namespace Sh
open Go Ev
theorem ybpd(bs:Bounds)(s:List Int)(hl:bs.length<=1000):Returns Tryz.prog 192 [yba bs,yw s] (.b (ysx bs s)):=by
 refine Returns.of (ydci _ _ ?_);simp only[c192,yctl,ycps,ycxe,yckf,yba,yw,ykh,go_sem,zA,zB,↓reduceIte,reduceCtorEq];refine⟨fun h=>?_,fun h=>?_⟩
 ·have:¬ysx bs s=true:=fun q=>h (by rw[((yfc bs s).1 q).1])
  simpa using this
 have hlen:s.length=bs.length:=by omega
 refine ybj (σ:=Nat) (fun k=>⟨[(14,.i .i64 k),(13,.i .i64 s.length),(12,yw s),(0,yba bs)],[]⟩) (fun k=>k<=s.length/\∀i,i<k->(bs.getD i (0,0)).1<=s.getD i 0/\s.getD i 0<=(bs.getD i (0,0)).2) (fun k=>s.length-k) 0 ⟨zJ _,fun i h=>absurd h (zAE _)⟩ ?_ ?_
 ·refine yh [] [] [] ?_;simp only[yba,yw,allQ,live,yc,zG,go_sem,zA,↓reduceIte,reduceCtorEq]
 ·intro k ⟨hk,hall⟩;simp only[ycho,ycni,ycwm,yctt,ycrt,ycta,yba,yw,ykh,go_sem,zAD,zA,zB,zC,zAN,↓reduceIte,reduceCtorEq]
  have hno:k<s.length->¬((bs.getD k (0,0)).1<=s.getD k 0/\s.getD k 0<=(bs.getD k (0,0)).2)->ysx bs s=false:=fun hlt hn=>by
   have:¬ysx bs s=true:=fun q=>hn (by
    have hb:k<bs.length:=by omega
    have:=((yfc bs s).1 q).2 k bs[k] s[k] (zL hb) (zL hlt);rw[getD_at hlt,getD_at hb];exact this)
   simpa using this
  refine⟨fun hlt=>⟨by omega,by omega,by omega,fun h1=>⟨by omega,by omega,fun h2=>?_,fun h2=>⟨ikw (by omega) (by omega),?_⟩⟩,fun h1=>?_⟩,fun hlt=>?_⟩
  ·rw[hno (by omega) (by omega)]
  ·refine yj (k+1) ⟨by omega,fun i hi=>?_⟩ (by omega) ?_
   ·by_cases q:i<k
    ·exact hall i q
    ·obtain rfl:i=k:=by omega
     omega
   ·refine yh [] [] [] ?_;simp only[allQ,live,yc,ybb,go_sem,zA,↓reduceIte,reduceCtorEq];simp
  ·rw[hno (by omega) (by omega)]
  ·obtain rfl:k=s.length:=by omega
   rw[(yfc bs s).2 ⟨hlen,fun i b x hb hx=>by
    have h1:=(List.getElem?_eq_some_iff.1 hx).1;have:=hall i h1;simp only[zAC,hb,hx,Option.getD_some]at this;exact this⟩]
theorem ybmw{n:Nat}(vars:List VarR)(hv:vars.length<=1000)(b:Nat->VarR->Int×Int)(c:Conf)(hn:n<=1000):Returns Tryz.prog 156 [yiy n vars b,ybl c] (.b (yoy n (fun v=>vars.map (b v)) c)):=by
 refine Returns.of (ycyv _ _ ?_);simp only[c156,yclm,yctm,ycly,ycma,yiy,ybl,ykh,go_sem,zA,zB,↓reduceIte,reduceCtorEq];refine⟨fun h=>?_,fun h=>?_⟩
 ·rw[yin fun q=>h (by rw[q.1])]
 have hlen:c.length=n:=by omega
 refine ybj (σ:=Nat) (fun k=>⟨[(14,.i .i64 k),(13,.i .i64 n),(12,yiy n vars b),(1,ybl c)],[]⟩) (fun k=>k<=n/\∀(i:Nat) s,i<k->c[i]?=some s->yej (vars.map (b i)) s) (fun k=>n-k) 0 ⟨zJ _,fun i s h=>absurd h (zAE _)⟩ ?_ ?_
 ·refine yh [] [] [] ?_;simp only[yiy,ybl,allQ,live,yc,zG,go_sem,zA,↓reduceIte,reduceCtorEq]
 ·intro k ⟨hk,hall⟩;simp only[ycwf,ycom,ycqc,yctn,yclo,ycjl,yiy,ybl,yw,ykh,go_sem,zA,zB,↓reduceIte,reduceCtorEq];refine⟨fun hlt=>⟨by omega,by omega,?_⟩,fun hlt=>?_⟩
  ·have hS := ybpd (vars.map (b k)) (c.getD k []) (by simpa using hv)
   refine hS.useS ⟨?_,Sim.refl _,trivial⟩ ?_
   ·show Sim (.sl 2 vars.length _) (yba (vars.map (b k)));unfold yba;rw[zAT];refine yks fun i hi=>?_;simp[zAC,hi]
   ·simp only[ybh,ykh,go_sem,zA,zB,↓reduceIte,reduceCtorEq];have hk':k<c.length:=by omega
    rw[getD_at hk'];refine⟨fun h1=>?_,fun h1=>⟨ikw (by omega) (by omega),?_⟩⟩
    ·rw[yin fun q=>by
      have:=(yfc _ _).2 (q.2 k c[k] (zL hk'));rw[this]at h1;cases h1]
    ·refine yj (k+1) ⟨by omega,fun i s hi hs=>?_⟩ (by omega) ?_
     ·by_cases q:i<k
      ·exact hall i s q hs
      ·obtain rfl:i=k:=by omega
       rw[zL hk']at hs;cases hs
       exact(yfc _ _).1 h1
     ·refine yh [] [] [] ?_;simp only[allQ,live,yc,ybb,go_sem,zA,↓reduceIte,reduceCtorEq];simp
  ·obtain rfl:k=n:=by omega
   rw[ywm ⟨hlen,fun v s hs=>hall v s (by have:=(List.getElem?_eq_some_iff.1 hs).1;omega) hs⟩]
theorem yzh(c:Conf)(hc:∀s∈c,0<s.length/\s.length<=1000)(hl:c.length<=1000):Returns Tryz.prog 132 [ybl c] (ybl c):=by
 refine Returns.of (ydbp _ _ ?_);obtain⟨n,hn⟩:∃n,c.length=n:=⟨_,rfl⟩;rw[hn]at hl;simp only[c132,ybzl,ybvd,ybwe,ybl,hn,go_sem,zA,zB,zD,↓reduceIte,reduceCtorEq];refine⟨by omega,?_⟩
 refine ybj (σ:=Nat) (fun k=>⟨[(11,.i .i64 k),(10,.i .i64 n),(9,ybl c),(3,.os (8,0) 0 n true)],[(8,.one (some ⟨22,false,1,n,fun i=>[if i<k then yw (c.getD i [])else .a (.slice none 0 0)]⟩))]⟩) (fun k=>k<=n) (fun k=>n-k) 0 (zJ _) ?_ ?_
 ·refine yh [] [] [] ?_;simp only[ybl,hn,allQ,live,yc,zG,go_sem,zA,↓reduceIte,reduceCtorEq];intro i _;rw[if_neg (by omega)]
  simp only[yc,go_sem]
 ·intro k hk
  have hrow:k<n->0<(c.getD k []).length/\(c.getD k []).length<=1000:=fun h=>by
   have:=hc (c.getD k []) (by rw[getD_at (show k<c.length by omega)];exact zI _)
   exact this
  by_cases hlt:k<n
  ·have hr:=hrow (by omega)
   have hr0:¬(c.getD k []).length=0:=by omega
   have ht:decide ((k:Int)<(n:Int))=true:=decide_eq_true (by omega)
   simp only[ybbu,ybcm,yzy,ybdp,ybds,ybl,yw,splice,hn,hr0,ht,go_sem,zA,zB,zD,↓reduceIte,reduceCtorEq];refine⟨by omega,by omega,by omega,by omega,ikw (by omega) (by omega),?_⟩
   refine yj (k+1) (by omega) (by omega) ?_
   refine yh [] [] [(19,0)] ?_;simp only[allQ,live,yc,ybb,go_sem,zA,↓reduceIte,reduceCtorEq];refine⟨by omega,fun i hi=>?_⟩
   by_cases q2:i=k
   ·subst q2;simp only[if_pos (zZ i),↓reduceIte];simp only[live,yc,go_sem,zA,↓reduceIte,reduceCtorEq]
   ·simp only[if_neg q2]
    by_cases q1:i<k
    ·simp only[if_pos q1,if_pos (show i<k+1 by omega)]
     simp only[live,yc,go_sem,reduceCtorEq]
    ·simp only[if_neg q1,if_neg (show ¬i<k+1 by omega)]
     simp only[live,yc,go_sem,reduceCtorEq]
  ·obtain rfl:k=n:=by omega
   have ht:decide ((k:Int)<(k:Int))=false:=decide_eq_false (by omega)
   simp only[ybbu,ybcm,yzy,ybdp,ybds,ybl,yw,hn,ht,go_sem,zA,zB,↓reduceIte,reduceCtorEq];refine⟨fun q hq=>by simp only[if_pos hq];simp only[go_sem],?_⟩
   refine yiv fun q hq=>?_;simp only[if_pos hq];simp only[SimL,yc,go_sem]
theorem ycce(c:Conf)(hc:∀s∈c,0<s.length/\s.length<=1000)(hl:c.length<=1000):Cm Tryz.prog 132 [] [] [ybl c] fun r o=>r = .os (8,0) 0 c.length true/\o=[(8,.one (some ⟨22,false,1,c.length,fun i=>[yw (c.getD i [])]⟩))]:=by
 refine ycem [] [] _ _ _ ?_;obtain⟨n,hn⟩:∃n,c.length=n:=⟨_,rfl⟩;rw[hn]at hl ⊢;simp only[c132,ybzl,ybvd,ybwe,ybl,hn,go_sem,zA,zB,zD,↓reduceIte,reduceCtorEq];refine⟨by omega,?_⟩
 refine ybj (σ:=Nat) (fun k=>⟨[(11,.i .i64 k),(10,.i .i64 n),(9,ybl c),(3,.os (8,0) 0 n true)],[(8,.one (some ⟨22,false,1,n,fun i=>[if i<k then yw (c.getD i [])else .a (.slice none 0 0)]⟩))]⟩) (fun k=>k<=n) (fun k=>n-k) 0 (zJ _) ?_ ?_
 ·refine yh [] [] [] ?_;simp only[ybl,hn,allQ,live,yc,zG,go_sem,zA,↓reduceIte,reduceCtorEq];intro i _;rw[if_neg (by omega)]
  simp only[yc,go_sem]
 ·intro k hk
  have hrow:k<n->0<(c.getD k []).length/\(c.getD k []).length<=1000:=fun h=>by
   have:=hc (c.getD k []) (by rw[getD_at (show k<c.length by omega)];exact zI _)
   exact this
  by_cases hlt:k<n
  ·have hr:=hrow (by omega)
   have hr0:¬(c.getD k []).length=0:=by omega
   have ht:decide ((k:Int)<(n:Int))=true:=decide_eq_true (by omega)
   simp only[ybbu,ybcm,yzy,ybdp,ybds,ybl,yw,splice,hn,hr0,ht,go_sem,zA,zB,zD,↓reduceIte,reduceCtorEq];refine⟨by omega,by omega,by omega,by omega,ikw (by omega) (by omega),?_⟩
   refine yj (k+1) (by omega) (by omega) ?_
   refine yh [] [] [(19,0)] ?_;simp only[allQ,live,yc,ybb,go_sem,zA,↓reduceIte,reduceCtorEq];refine⟨by omega,fun i hi=>?_⟩
   by_cases q2:i=k
   ·subst q2;simp only[if_pos (zZ i),↓reduceIte];simp only[live,yc,go_sem,zA,↓reduceIte,reduceCtorEq]
   ·simp only[if_neg q2]
    by_cases q1:i<k
    ·simp only[if_pos q1,if_pos (show i<k+1 by omega)]
     simp only[live,yc,go_sem,reduceCtorEq]
    ·simp only[if_neg q1,if_neg (show ¬i<k+1 by omega)]
     simp only[live,yc,go_sem,reduceCtorEq]
  ·obtain rfl:k=n:=by omega
   have ht:decide ((k:Int)<(k:Int))=false:=decide_eq_false (by omega)
   simp only[ybbu,ybcm,yzy,ybdp,ybds,ybl,yw,hn,ht,yha,go_sem,zA,zB,↓reduceIte,reduceCtorEq];refine⟨.os (8,0) 0 k true,[(8,.one (some ⟨22,false,1,k,fun i=>[yw (c.getD i [])]⟩))],?_,?_,rfl,rfl⟩
   ·refine yh [] [] [] ?_;simp only[yw,allQ,live,yc,go_sem,↓reduceIte,reduceCtorEq];intro i hi;simp only[if_pos hi];simp only[yc,go_sem]
   ·simp only[ycz,ygc,allQ,live,go_sem,↓reduceIte]
end Sh
end
section
namespace Sh
open Go Ev
theorem yhj(p:ProgR){g:Gr}(hg:ybe g){nv:Nat}{c:Conf}(hc:ConfIn g.ports.length nv c){v:Nat}(hv:v<g.ports.length)(e:List Tm)(hl:e.length<=1000):∀x:Ex,ybpy p g nv c v e x
 | .leaf op arg=>by
   intro bnd port at_ rest ho hp hpi he;obtain⟨d1,d2,d3⟩:=yey (show e.drop at_=(op,arg)::rest from he)
   have hL:=ycbc p hg hc hv e ho port hp;have hr:=ho;simp only[Ex.ok,zF,decide_eq_true_eq]at hr;simp only[yip,yba]at hL;refine Returns.of (yue _ _ ?_);simp only[c220,yvn,yvd,yvw,yvl,yvb,ywt,yvx,ywc,yvk,yvr,yog,ynq,yny,ynt,yoi,yov,yom,yns,yob,yip,yba,d2,splice,go_sem,zA,zB,zC,zD,↓reduceIte,reduceCtorEq];refine⟨by omega,fun h=>hL.use ?_,fun h=>by omega⟩
   simp only[ybh,go_sem,zA,zB,↓reduceIte,reduceCtorEq];refine⟨ikw (by omega) (by omega),?_⟩
   exact Sim.refl _
 | .un op a=>by
   intro bnd port at_ rest ho hp hpi he;obtain⟨d1,d2,d3⟩:=yey (show e.drop at_=(op,0)::(a.ser++rest)from he)
   have hr:=ho;simp only[Ex.ok,zF,decide_eq_true_eq]at hr;have hV:=yhj p hg hc hv e hl a bnd port (at_+1) rest hr.2 hp hpi d3;rw[show((at_+1:Nat):Int)=(at_:Int)+1 by omega]at hV
   have hU:=ybpu op (yct g c v a port) (yhd hg rfl hc hv a hr.2 hp hpi);simp only[yip,yba]at hV;refine Returns.of (yue _ _ ?_);simp only[c220,yvn,yvd,yvw,yvl,yvb,ywt,yvx,ywc,yvk,yvr,yog,ynq,yny,ynt,yoi,yov,yom,yns,yob,yip,yba,d2,splice,go_sem,zA,zB,zC,zD,↓reduceIte,reduceCtorEq];refine⟨by omega,fun h=>by omega,fun h=>⟨fun h=>⟨ikw (by omega) (by omega),hV.use ?_⟩,fun h=>by omega⟩⟩
   simp only[ybh,go_sem,zA,zB,zC,↓reduceIte,reduceCtorEq];refine hU.use ?_;simp only[go_sem];rw[show at_+(Ex.un op a).ser.length=at_+1+a.ser.length by simp[Ex.ser];omega]
   exact Sim.refl _
 | .agg op a=>by
   intro bnd port at_ rest ho hp hpi he;obtain⟨d1,d2,d3⟩:=yey (show e.drop at_=(op,0)::(a.ser++rest)from he)
   have hr:=ho;simp only[Ex.ok,zF,decide_eq_true_eq]at hr;have ho2:(Ex.agg op a).ok nv true=true:=by simp only[Ex.ok,zF,decide_eq_true_eq];exact hr
   have hA:=yyh p hg hc hv e hl ho2 (yhj p hg hc hv e hl a) at_ rest he;simp only[yip,yba]at hA;refine Returns.of (yue _ _ ?_);simp only[c220,yvn,yvd,yvw,yvl,yvb,ywt,yvx,ywc,yvk,yvr,yog,ynq,yny,ynt,yoi,yov,yom,yns,yob,yip,yba,d2,splice,go_sem,zA,zB,zC,zD,↓reduceIte,reduceCtorEq];refine⟨by omega,fun h=>by omega,fun h=>⟨fun h=>by omega,fun h=>⟨fun h=>hA.use ?_,fun h=>by omega⟩⟩⟩
   simp only[ybh,go_sem,zA,zB,↓reduceIte,reduceCtorEq];exact Sim.refl _
 | .bin op a b=>by
   intro bnd port at_ rest ho hp hpi he;obtain⟨d1,d2,d3⟩:=yey (show e.drop at_=(op,0)::((a.ser++b.ser)++rest)from he)
   have hr:=ho;simp only[Ex.ok,zF,decide_eq_true_eq]at hr;rw[zAG]at d3
   have hfit:at_+1+a.ser.length<=e.length:=by
    have:=congrArg zAY d3;simp at this;omega
   have hV1:=yhj p hg hc hv e hl a bnd port (at_+1) _ hr.1.2 hp hpi d3;have hV2:=yhj p hg hc hv e hl b bnd port (at_+1+a.ser.length) _ hr.2 hp hpi (yrs d3);rw[show((at_+1:Nat):Int)=(at_:Int)+1 by omega]at hV1
   have hB:=ybmi op (yct g c v a port) (yct g c v b port) (yhd hg rfl hc hv a hr.1.2 hp hpi) (yhd hg rfl hc hv b hr.2 hp hpi);simp only[yip,yba]at hV1 hV2;refine Returns.of (yue _ _ ?_);simp only[c220,yvn,yvd,yvw,yvl,yvb,ywt,yvx,ywc,yvk,yvr,yog,ynq,yny,ynt,yoi,yov,yom,yns,yob,yip,yba,d2,splice,go_sem,zA,zB,zC,zD,↓reduceIte,reduceCtorEq];refine⟨by omega,fun h=>by omega,fun h=>⟨fun h=>by omega,fun h=>⟨fun h=>by omega,fun h=>⟨fun h=>⟨ikw (by omega) (by omega),hV1.use ?_⟩,fun h=>by omega⟩⟩⟩⟩
   simp only[ybh,go_sem,zA,zB,↓reduceIte,reduceCtorEq];refine hV2.use ?_;simp only[go_sem,zA,zB,zC,↓reduceIte];refine hB.use ?_;simp only[go_sem];rw[show at_+(Ex.bin op a b).ser.length=at_+1+a.ser.length+b.ser.length by simp[Ex.ser];omega]
   exact Sim.refl _
 | .ite x a b=>by
   intro bnd port at_ rest ho hp hpi he;obtain⟨d1,d2,d3⟩:=yey (show e.drop at_=(43,0)::((x.ser++(a.ser++b.ser))++rest)from he)
   have hr:=ho;simp only[Ex.ok,zF]at hr;rw[zAG,zAG]at d3
   have hfit:at_+1+x.ser.length+a.ser.length<=e.length:=by
    have:=congrArg zAY d3;simp at this;omega
   have hV1:=yhj p hg hc hv e hl x bnd port (at_+1) _ hr.1.1 hp hpi d3;have hV2:=yhj p hg hc hv e hl a bnd port (at_+1+x.ser.length) _ hr.1.2 hp hpi (yrs d3);have hV3:=yhj p hg hc hv e hl b bnd port (at_+1+x.ser.length+a.ser.length) _ hr.2 hp hpi (yrs (yrs d3));rw[show((at_+1:Nat):Int)=(at_:Int)+1 by omega]at hV1
   simp only[yip,yba]at hV1 hV2 hV3;refine Returns.of (yue _ _ ?_);simp only[c220,yvn,yvd,yvw,yvl,yvb,ywt,yvx,ywc,yvk,yvr,yog,ynq,yny,ynt,yoi,yov,yom,yns,yob,yip,yba,d2,splice,go_sem,zA,zB,zC,zD,↓reduceIte,reduceCtorEq];refine⟨by omega,fun h=>by omega,fun h=>⟨fun h=>by omega,fun h=>⟨fun h=>by omega,fun h=>⟨fun h=>by omega,fun h=>⟨ikw (by omega) (by omega),hV1.use ?_⟩⟩⟩⟩⟩
   simp only[ybh,go_sem,zA,zB,↓reduceIte,reduceCtorEq];refine hV2.use ?_;simp only[go_sem,zA,↓reduceIte,reduceCtorEq];refine hV3.use ?_;simp only[go_sem,zA,zB,↓reduceIte,reduceCtorEq];rw[show at_+(Ex.ite x a b).ser.length=at_+1+x.ser.length+a.ser.length+b.ser.length by simp[Ex.ser];omega]
   refine⟨fun h0=>?_,fun h0=>?_⟩
   ·show Sim _ (.tp [.i .i64 (if _ then _ else _),_])
    rw[if_pos h0];exact Sim.refl _
   ·show Sim _ (.tp [.i .i64 (if _ then _ else _),_])
    rw[if_neg (not_not_intro h0)];exact Sim.refl _
theorem yzp(p:ProgR){g:Gr}(hg:ybe g){nv:Nat}{c:Conf}(hc:ConfIn g.ports.length nv c){v:Nat}(hv:v<g.ports.length)(x:Ex)(hx:x.ok nv false=true)(hl:x.ser.length<=1000) :
 Returns Tryz.prog 193 [.rf (yfq p g),ybl c,.i .i64 v,yba x.ser] (.i .i64 (yct g c v x (-1))):=by
 have hV:=yhj p hg hc hv x.ser hl x false (-1) 0 [] hx (fun q=>by cases q) (by unfold InB;omega) (by simp)
 refine Returns.of (ydcg _ _ ?_);simp only[yip,yfq,ybl,yw,yba,yx,ydr,zG]at hV;simp only[c193,ycwv,ycuc,ycpe,ycgy,yfq,ybl,yw,yba,yx,ydr,splice,go_sem,zA,zB,zC,zD,↓reduceIte,reduceCtorEq];refine .inl (hV.use ?_);simp only[ybh,ybb,go_sem,zA,zB,↓reduceIte,reduceCtorEq]
end Sh
end
section
theorem yhh{a:Nat}(h:a<2^32):IntKind.wrap .u32 (a:Int)=a:=by
 unfold IntKind.wrap;simp[IntKind.bits,IntKind.signed];omega
theorem u32_and{a b:Nat}(ha:a<2^32)(hb:b<2^32):IntKind.wrap .u32 (((zH (IntKind.bits .u32) (a:Int))&&&zH (IntKind.bits .u32) (b:Int)).toNat:Int)=((a&&&b:Nat):Int):=by
 show IntKind.wrap .u32 (((zH 32 (a:Int))&&&zH 32 (b:Int)).toNat:Int)=_;rw[zN,zN,BitVec.toNat_and,zX,zX,zAA ha,zAA hb];exact yhh (zY zAS ha)
theorem u32_or{a b:Nat}(ha:a<2^32)(hb:b<2^32):IntKind.wrap .u32 (((zH (IntKind.bits .u32) (a:Int))|||zH (IntKind.bits .u32) (b:Int)).toNat:Int)=((a|||b:Nat):Int):=by
 show IntKind.wrap .u32 (((zH 32 (a:Int))|||zH 32 (b:Int)).toNat:Int)=_;rw[zN,zN,BitVec.toNat_or,zX,zX,zAA ha,zAA hb];exact yhh (zAQ ha hb)
theorem u32_andNot{a b:Nat}(ha:a<2^32)(hb:b<2^32):IntKind.wrap .u32 (((zH (IntKind.bits .u32) (a:Int)) &&& ~~~zH (IntKind.bits .u32) (b:Int)).toNat:Int)=((difB a b:Nat):Int):=by
 show IntKind.wrap .u32 (((zH 32 (a:Int)) &&& ~~~zH 32 (b:Int)).toNat:Int)=_
 have e:((zH 32 (a:Int)) &&& ~~~zH 32 (b:Int)).toNat=difB a b:=by
  rw[zN,zN];refine zAL fun i=>?_;rw[ygf,BitVec.testBit_toNat,BitVec.getLsbD_and,BitVec.getLsbD_not,zAM,zAM]
  by_cases hi:i<32
  ·simp[hi]
  ·rw[zO (zQ ha (zM (by omega) (by omega)))]
   simp
 rw[e];exact yhh (yzd ha)
theorem u32_neg{a:Nat}(h0:0<a)(ha:a<2^32):IntKind.wrap .u32 (0-(a:Int))=((2^32-a:Nat):Int):=by
 unfold IntKind.wrap;simp[IntKind.bits,IntKind.signed];omega
theorem yni{v:Nat}(hv:v<32):IntKind.wrap .u32 (1*2^(v:Int).toNat)=((2^v:Nat):Int):=by
 have h:2^v<2^32:=zS (by omega) hv
 have:=yhh h;rw[zK,Int.one_mul];rw[<-this]
 norm_cast
theorem ybqb{a v:Nat}:(a:Int).fdiv (2^(v:Int).toNat)=((a>>>v:Nat):Int):=by
 rw[zK,zT];rw[Int.fdiv_eq_ediv_of_nonneg _ (Int.pow_nonneg (by omega))]
 simp
theorem ydcx(a v:Nat):((a>>>v)&&&1=1)↔a.testBit v=true:=by
 rw[zAZ,bne_iff_ne];rw[Nat.and_comm 1 (a>>>v)];rw[Nat.and_one_is_mod];omega
theorem ycfk{s v:Nat}(hs:s<2^32):IntKind.wrap .u32 (((zH (IntKind.bits .u32) ((s:Int).fdiv (2^v)))&&&zH (IntKind.bits .u32) 1).toNat:Int)=(((s>>>v)&&&1:Nat):Int):=by
 have h:=ybqb (a:=s) (v:=v);rw[zK]at h;rw[h];have h2:s>>>v<2^32:=by rw[zT];exact zY (zAU _ _) hs
 exact u32_and (a:=s>>>v) (b:=1) h2 (by decide)
theorem yzr{s v:Nat}:((((s>>>v)&&&1:Nat):Int)=1)↔s.testBit v=true:=by
 rw[<-ydcx s v];omega
def lowB(e:Nat):Nat:=e&&&(2^32-e)
theorem ybiq(e:Nat):subB (lowB e) e:=fun i h=>by
 unfold lowB at h;rw[zW,zF]at h;exact h.1
theorem ybbl:∀(n e:Nat),0<e->e<2^n->∃i q,i<n/\e=2^i*(2*q+1)
 |0,e,h,h2=>by simp at h2;omega
 | n + 1,e,h,h2=>by
   by_cases hp:e%2=1
   ·exact⟨0,e/2,by omega,by omega⟩
   ·obtain⟨i,q,h3,h4⟩:=ybbl n (e/2) (by omega) (by rw[zAP]at h2;omega)
    exact⟨i+1,q,by omega,by rw[zAP,Nat.mul_assoc,Nat.mul_left_comm,<-h4];omega⟩
theorem ycyh{e:Nat}(h0:e≠0)(he:e<2^32):lowB e≠0:=by
 obtain⟨i,q,hi,hq⟩:=ybbl 32 e (by omega) he
 have h1:e.testBit i=true:=by
  rw[hq,zAB,zAK _ (zAV i)];simp
 have h2:(2^32-e).testBit i=true:=by
  obtain⟨j,hj⟩:∃j,32=i+(j+1):=⟨31-i,by omega⟩
  have e1:2^32=2^i*(2*2^j):=by
   have:(2:Nat)^32=2^(i+(j+1)):=by rw[<-hj]
   rw[this,Nat.pow_add,zAP,Nat.mul_comm (2^j) 2]
  have hlt:2*q+1<2*2^j:=by
   rw[e1,hq]at he;exact Nat.lt_of_mul_lt_mul_left he
  have e2:2^32-e=2^i*(2*2^j-(2*q+1)):=by rw[e1,hq,Nat.mul_sub]
  rw[e2,zAB,zAK _ (zAV i)];simp;try omega
 intro hz;have:(lowB e).testBit i=true:=by unfold lowB;rw[zW,h1,h2];rfl
 rw[hz]at this;simp at this
def resD(e w:Nat):Nat:=if w&&&e=0 then lowB e else w&&&e
end
section
namespace Sh
open Go Ev
def yeb(p:ProgR)(g:Gr):List SV:=[.a (.string p.name),ydh p.vars,yda p.rules,.rf (yfq p g),yiy g.ids.length p.vars (ybi g)]
theorem yqb(p:ProgR){g:Gr}(hg:ybe g)(hp:p.vars.all VarR.ok=true)(hl:p.vars.length<=6):Returns Tryz.prog 93 [.ag (ynh p),grV g] (.rf (yeb p g)):=by
 refine Returns.of (ydfy _ _ ?_);have hS:=ybcw p hg;have hT:=ybdm p hg hp hl;simp only[ynh,grV]at hS hT;simp only[c93,ydic,ydjo,ynh,grV,go_sem,zA,zB,zD,↓reduceIte,reduceCtorEq];refine hS.use ?_;simp only[ybh,go_sem,zA,zB,zC,zD,↓reduceIte,reduceCtorEq];refine hT.use ?_;simp only[yiy,yeb,go_sem,zA,zB,zC,↓reduceIte];refine⟨by decide,by decide,Sim.refl _⟩
theorem ybyj(p:ProgT){g:Gr}(hg:ybe g)(hp:p.ok=true){c:Conf}(hc:ConfIn g.ports.length p.vars.length c){v:Nat}(hv:v<g.ports.length){r:Nat}(hr:r<p.rules.length) :
 Returns Tryz.prog 172 [.rf (yfq p.raw g),ybl c,.i .i64 v,.i .i64 r] (.b (yiz g c v (p.rules.getD r default))):=by
 refine Returns.of (ycxy _ _ ?_);obtain⟨R,hR⟩:∃R,p.rules.getD r default=R:=⟨_,rfl⟩
 have hok:R.ok p.vars.length=true:=by
  unfold ProgT.ok at hp;simp only[zF]at hp;rw[<-hR,getD_at hr];exact List.all_eq_true.1 hp.2 _ (zI _)
 unfold RuleT.ok at hok;simp only[zF,decide_eq_true_eq]at hok;have hV:=yzp p.raw hg hc hv R.guard hok.1.1.1 hok.1.1.2
 have hraw:p.raw.rules.getD r default=R.raw:=by
  rw[<-hR];simp[ProgT.raw,zAC,hr]
 have hlen:p.raw.rules.length=p.rules.length:=by simp[ProgT.raw]
 simp only[yfq,yda,hlen]at hV;rw[hR];simp only[c172,ycky,ycow,yfq,yda,hraw,hlen,go_sem,zA,zB,zC,↓reduceIte,reduceCtorEq];refine⟨by omega,hV.use ?_⟩
 simp only[ybh,ykh,yiz,go_sem,zA,zB,↓reduceIte,reduceCtorEq]
theorem ydfx{p:ProgT}{g:Gr}{c:Conf}{v k:Nat}(hk:k<p.rules.length)(hn:(p.rules.take k).findIdx? (yiz g c v)=none)(h:yiz g c v (p.rules.getD k default)=true):yhb p g c v=k:=by
 unfold yhb
 have:p.rules.findIdx? (yiz g c v)=some k:=by
  rw[List.findIdx?_eq_some_iff_getElem];refine⟨hk,by rwa [getD_at hk]at h,fun j hj=>?_⟩
  rw[List.findIdx?_eq_none_iff]at hn;have:=hn p.rules[j] (List.mem_take_iff_getElem.2 ⟨j,by omega,rfl⟩)
  simpa using this
 rw[this]
theorem yblt{p:ProgT}{g:Gr}{c:Conf}{v:Nat}(hn:(p.rules.take p.rules.length).findIdx? (yiz g c v)=none):yhb p g c v = -1:=by
 unfold yhb;rw[zAJ]at hn;rw[hn]
theorem ycdf(p:ProgT)(g:Gr)(c:Conf)(v:Nat):-1<=yhb p g c v/\yhb p g c v<p.rules.length:=by
 unfold yhb;split
 ·rename_i i hi
  obtain⟨h,_⟩:=List.findIdx?_eq_some_iff_getElem.1 hi;omega
 ·omega
theorem ybiv(p:ProgT){g:Gr}(hg:ybe g)(hp:p.ok=true){c:Conf}(hc:ConfIn g.ports.length p.vars.length c){v:Nat}(hv:v<g.ports.length) :
 Returns Tryz.prog 147 [.rf (yeb p.raw g),ybl c,.i .i64 v] (.i .i64 (yhb p g c v)):=by
 refine Returns.of (ydal _ _ ?_);have hlen:p.raw.rules.length=p.rules.length:=by simp[ProgT.raw]
 have h12:p.rules.length<=12:=by
  unfold ProgT.ok at hp;simp only[zF,decide_eq_true_eq]at hp;exact hp.1.2
 simp only[c147,ycur,ycwb,yeb,yda,hlen,go_sem,zA,zB,zC,↓reduceIte,reduceCtorEq];refine ybj (σ:=Nat) (fun k=>⟨[(14,.i .i64 k),(13,.i .i64 p.rules.length),(0,.rf (yeb p.raw g)),(1,ybl c),(2,.i .i64 v)],[]⟩) (fun k=>k<=p.rules.length/\(p.rules.take k).findIdx? (yiz g c v)=none) (fun k=>p.rules.length-k) 0 ⟨zJ _,by simp⟩ ?_ ?_
 ·refine yh [] [] [] ?_;simp only[yeb,yda,hlen,allQ,live,yc,zG,go_sem,zA,↓reduceIte,reduceCtorEq]
 ·intro k ⟨hk,hno⟩;simp only[ycov,ycpc,ycsy,yckg,ycxg,yckc,yeb,ybb,go_sem,zA,zB,zC,↓reduceIte,reduceCtorEq];refine⟨fun hlt=>?_,fun hlt=>?_⟩
  ·have hk':k<p.rules.length:=by omega
   refine(ybyj p hg hp hc hv hk').use ?_;simp only[ybh,ybb,go_sem,zA,zB,↓reduceIte,reduceCtorEq];refine⟨fun h=>by rw[ydfx hk' hno h],fun h=>⟨ikw (by omega) (by omega),?_⟩⟩
   refine yj (k+1) ⟨by omega,?_⟩ (by omega) ?_
   ·rw[zU hk',List.findIdx?_append,hno];rw[getD_at hk']at h;simp[h]
   ·refine yh [] [] [] ?_;simp only[allQ,live,yc,ybb,go_sem,zA,↓reduceIte,reduceCtorEq];simp
  ·obtain rfl:k=p.rules.length:=by omega
   rw[yblt hno]
theorem ybvc(n:Nat)(hn:n<=32)(h:FuncId)(cp:List SV)(f:Nat->Bool)(hcp4:cp.any (owned 4)=false)(hf:∀v,v<n->Returns Tryz.prog h (.i .i64 v::cp) (.b (f v))):Returns Tryz.prog 145 [.i .i64 n,.fn h [] cp] (.i .u32 (ylg f n)):=by
 refine Returns.of (ydby _ _ ?_);have hcp:=ykr hcp4;simp only[c145,ycxj,yckv,ycoa,go_sem,zB,↓reduceIte,reduceCtorEq];refine ybj (σ:=Nat) (fun k=>⟨[(8,.i .i64 k),(7,.i .i64 n),(1,.fn h [] cp),(5,.i .u32 (ylg f k))],[]⟩) (fun k=>k<=n) (fun k=>n-k) 0 (zJ _) ?_ ?_
 ·refine yh [] [] [] ?_;simp only[ydw _ hcp4,ydy _ hcp4,ylg,allQ,live,yc,zG,go_sem,zA,↓reduceIte,reduceCtorEq]
 ·intro k hk;simp only[ycwk,yctc,ycwd,yctq,yckx,ycmt,ybb,hcp,List.any_cons,go_sem,zA,zB,↓reduceIte,reduceCtorEq];refine⟨fun hlt=>(hf k (by omega)).use ?_,fun hlt=>?_⟩
  ·have hk':k<n:=by omega
   have hb1:ylg f k<2^32:=zQ (ybig f k) (zM (by omega) (by omega))
   have hb2:2^k<2^32:=zS (by omega) (by omega)
   simp only[ybh,IntKind.bits,go_sem,zA,zB,↓reduceIte,reduceCtorEq];refine⟨fun h1=>⟨by omega,ikw (by omega) (by omega),?_⟩,fun h1=>⟨ikw (by omega) (by omega),?_⟩⟩
   ·refine yj (k+1) (by omega) (by omega) ?_
    refine yh [] [] [] ?_;have e1:=yni (v:=k) (by omega)
    have e2:=u32_or hb1 hb2;rw[zK]at e1;simp only[ydw _ hcp4,ydy _ hcp4,e1,allQ,live,yc,ybb,go_sem,zA,↓reduceIte,reduceCtorEq];refine⟨by omega,?_⟩
    rw[show ylg f (k+1)=ylg f k|||2^k by show(if f k then _ else _)=_;rw[if_pos h1]]
    exact e2
   ·refine yj (k+1) (by omega) (by omega) ?_
    refine yh [] [] [] ?_;simp only[ydw _ hcp4,ydy _ hcp4,allQ,live,yc,ybb,go_sem,zA,↓reduceIte,reduceCtorEq];rw[show ylg f (k+1)=ylg f k by show(if f k then _ else _)=_;rw[if_neg (by rw[h1];simp)]]
    simp
  ·obtain rfl:k=n:=by omega
   rfl
theorem ybbx(p:ProgT){g:Gr}(hg:ybe g)(hp:p.ok=true){c:Conf}(hc:ConfIn g.ports.length p.vars.length c){v:Nat}(hv:v<g.ports.length) :
 Returns Tryz.prog 146 [.i .i64 v,.rf [.rf (yeb p.raw g)],.rf [ybl c]] (.b (decide (yhb p g c v>=0))):=by
 refine Returns.of (yddx _ _ ?_);have hR:=ybiv p hg hp hc hv;simp only[c146,ycug,ycnq,go_sem,zA,zB,↓reduceIte,reduceCtorEq];refine hR.use ?_;simp only[ybh,ykh,go_sem,zA,zB,↓reduceIte,reduceCtorEq]
theorem yjj(p:ProgT){g:Gr}(hg:ybe g)(hp:p.ok=true){c:Conf}(hc:ConfIn g.ports.length p.vars.length c) :
 Returns Tryz.prog 94 [.rf (yeb p.raw g),ybl c] (.i .u32 (ybm p g c)):=by
 refine Returns.of (ydjy _ _ ?_);have hid:=hg.2.2.1;have h24:=hg.2.1;have hN:=ybvc g.ids.length (by omega) 146 [.rf [.rf (yeb p.raw g)],.rf [ybl c]] (fun v=>decide (yhb p g c v>=0)) rfl (fun v hv=>ybbx p hg hp hc (by omega))
 simp only[yeb]at hN;simp only[c94,ydlq,ydgf,yeb,yiy,go_sem,zA,zB,zC,zD,↓reduceIte,reduceCtorEq];simp only[yiy]at hN;refine .inl (hN.use ?_);simp only[ybh,ybb,go_sem,zA,zB,↓reduceIte,reduceCtorEq];rfl
theorem yqg(p:ProgT)(g:Gr)(c:Conf)(v:Nat):∀(sets:List (Int×Ex)) (s0:List Int),(yoa p g c v s0 sets).length=s0.length
 |[],_=>rfl
 | a::sets,s0=>by
   show(yoa p g c v (s0.set _ _) sets).length=_;rw[yqg p g c v sets];simp
theorem ybmd(p:ProgT)(g:Gr)(c:Conf)(v:Nat)(s0:List Int)(sets:List (Int×Ex))(k:Nat)(h:k<sets.length) :
 yoa p g c v s0 (sets.take (k+1))=(yoa p g c v s0 (sets.take k)).set (sets.getD k default).1.toNat (yfp (p.vars.getD (sets.getD k default).1.toNat default).kind (ybi g v (p.vars.getD (sets.getD k default).1.toNat default)) (yct g c v (sets.getD k default).2 (-1))):=by
 unfold yoa;rw[zU h,zAR,getD_at h];rfl
theorem ycdz(p:ProgT){g:Gr}(hg:ybe g)(hp:p.ok=true){c:Conf}(hc:ConfIn g.ports.length p.vars.length c){v:Nat}(hv:v<g.ports.length){r:Nat}(hr:r<p.rules.length) :
 Returns Tryz.prog 157 [.rf (yeb p.raw g),ybl c,.i .i64 v,.i .i64 r] (yw (ybaf p g c v r)):=by
 refine Returns.of (ydfc _ _ ?_);obtain⟨R,hR⟩:∃R,p.rules.getD r default=R:=⟨_,rfl⟩;have hp':=hp;unfold ProgT.ok at hp';simp only[zF,decide_eq_true_eq]at hp'
 have hok:R.ok p.vars.length=true:=by
  rw[<-hR,getD_at hr];exact List.all_eq_true.1 hp'.2 _ (zI _)
 unfold RuleT.ok at hok;simp only[zF,decide_eq_true_eq]at hok
 have hraw:p.raw.rules.getD r default=R.raw:=by
  rw[<-hR];simp[ProgT.raw,zAC,hr]
 have hlen:p.raw.rules.length=p.rules.length:=by simp[ProgT.raw]
 have hsl:R.raw.sets.length=R.sets.length:=by simp[RuleT.raw]
 have hid:=hg.2.2.1;have hcl:=hc.len;have hrow:=hc.at_ hv;have hne:¬(c.getD v []).length=0:=by omega
 simp only[c157,ycuq,yclu,ycpj,hne,yeb,yda,yhv,hraw,hlen,hsl,ybl,yw,go_sem,zA,zB,zC,zD,↓reduceIte,reduceCtorEq];obtain⟨nv,hnv⟩:∃k,p.vars.length=k:=⟨_,rfl⟩;have hrl:=hrow.1;rw[hnv]at hrl hok hc;rw[hnv]at hp';have hmv:ybaf p g c v r=yoa p g c v (c.getD v []) R.sets:=by unfold ybaf;rw[hR]
 have hml:∀k,(yoa p g c v (c.getD v []) (R.sets.take k)).length=nv:=fun k=>(yqg p g c v _ _).trans hrl;refine⟨by omega,by omega,by omega,?_⟩
 refine ybj (σ:=Nat) (fun k=>⟨[(28,.i .i64 k),(27,.i .i64 R.sets.length),(26,yhv R.raw.sets),(0,.rf (yeb p.raw g)),(1,ybl c),(2,.i .i64 v),(9,.os (17,0) 0 nv true)],
  [(17,.one (some ⟨3,false,1,nv,fun i=>[.i .i64 ((yoa p g c v (c.getD v []) (R.sets.take k)).getD i 0)]⟩))]⟩) (fun k=>k<=R.sets.length) (fun k=>R.sets.length-k) 0 (zJ _) ?_ ?_
 ·refine yh [] [] [] ?_;simp only[yeb,yda,yhv,hlen,hsl,hrl,ybl,yw,allQ,live,yc,ybb,zG,go_sem,zA,↓reduceIte,reduceCtorEq];simp[yoa]
 ·intro k hk;simp only[ycwh,ycmu,ycip,yeb,yhv,hsl,splice,go_sem,zA,zB,zC,zD,↓reduceIte,reduceCtorEq];refine⟨fun hlt=>?_,fun hlt=>?_⟩
  ·have hk':k<R.sets.length:=by omega
   obtain⟨S,hS⟩:∃S,R.sets.getD k default=S:=⟨_,rfl⟩
   have hset:R.raw.sets.getD k default=⟨S.1,S.2.ser⟩:=by
    rw[<-hS];simp[RuleT.raw,zAC,hk']
   have hSok:=List.all_eq_true.1 hok.2 S (by rw[<-hS,getD_at hk'];exact zI _)
   simp only[zF,decide_eq_true_eq]at hSok;have hV:=yzp p.raw hg hc hv S.2 hSok.1.2 hSok.2;refine⟨by omega,?_⟩
   rw[hset];refine hV.use ?_;have hB:=ybzw (p.vars.getD S.1.toNat default).kind (ybi g v (p.vars.getD S.1.toNat default)) (yct g c v S.2 (-1));have hvars:p.raw.vars=p.vars:=rfl;simp only[ycnz,ybh,yiy,ydh,varC,splice,hvars,hnv,go_sem,zA,zB,zC,↓reduceIte,reduceCtorEq];refine⟨by omega,by omega,by omega,hB.use ?_⟩
   simp only[go_sem,zA,↓reduceIte];have hb2:zAZ 134217727 25=true:=by decide
   simp only[ycjm,hb2,go_sem,zA,zB,↓reduceIte,reduceCtorEq];refine⟨by omega,by omega,ikw (by omega) (by omega),?_⟩
   refine yj (k+1) (by omega) (by omega) ?_
   refine yh [] [] [] ?_;simp only[ybmd p g c v _ _ k hk',hS,allQ,live,yc,ybb,go_sem,zA,↓reduceIte,reduceCtorEq];refine⟨by omega,fun i hi=>?_⟩
   rw[yxx (by rw[hml];omega)]
   by_cases q:i=S.1.toNat
   ·simp only[if_pos q];simp only[live,yc,go_sem,reduceCtorEq]
   ·simp only[if_neg q];simp only[live,yc,go_sem,reduceCtorEq]
  ·obtain rfl:k=R.sets.length:=by omega
   simp only[ycok,go_sem,zA,zB,↓reduceIte,reduceCtorEq];have hl:=hml R.sets.length;rw[zAJ]at hl ⊢;rw[hmv,hl];exact Sim.refl _
theorem ymf(p:ProgT)(g:Gr)(c:Conf)(s:Nat){v:Nat}(hv:v<c.length):(yfa p g c s).getD v []=if s.testBit v then ybaf p g c v (yhb p g c v).toNat else c.getD v []:=by
 unfold yfa;simp[zAC,hv]
theorem yjp(p:ProgT)(g:Gr)(c:Conf)(s:Nat):(yfa p g c s).length=c.length:=by simp[yfa]
theorem ycdu(p:ProgT){g:Gr}(hg:ybe g)(hp:p.ok=true){c:Conf}(hc:ConfIn g.ports.length p.vars.length c){s:Nat}(hs:s<2^32)(hen:subB s (ybm p g c)) :
 Returns Tryz.prog 113 [.rf (yeb p.raw g),ybl c,.i .u32 s] (ybl (yfa p g c s)):=by
 refine Returns.of (ycan [132] _ _ ?_);have h24:=hg.2.1;have hcl:=hc.len;have hp':=hp;unfold ProgT.ok at hp';simp only[zF,decide_eq_true_eq]at hp';have hC:=ycce c (fun x hx=>by have:=(hc.row x hx).1;omega) (by omega)
 simp only[c113,ycko,ycil,go_sem,zA,zB,↓reduceIte,reduceCtorEq];refine yfi hC [] 100 [0,1,2] [] ?_ ?_
 ·simp only[go_sem,ycz,ygc,yev,yef,allQ,live,yc,go_sem,zA,↓reduceIte,reduceCtorEq]
 ·rintro r o' ⟨rfl,rfl⟩;simp only[ycio,ybl,yw,yrd,ymq,nuF,nu,difN,yev,yef,Fam.ren,OB.ren,dim,ybdn,ypr,go_sem,zA,zB,↓reduceIte,reduceCtorEq];obtain⟨n,hn⟩:∃n,c.length=n:=⟨_,rfl⟩
  let row:Nat->Nat->List Int:=fun k i=>if i<k then(yfa p g c s).getD i []else c.getD i []
  refine ybj (σ:=Nat) (fun k=>⟨[(13,.i .i64 k),(12,.i .i64 n),(7,.os (108,0) 0 n true),(0,.rf (yeb p.raw g)),(1,ybl c),(2,.i .u32 s)],
   [(108,.one (some ⟨22,false,1,n,fun i=>[yw (row k i)]⟩))]⟩) (fun k=>k<=n) (fun k=>n-k) 0 (zJ _) ?_ ?_
  ·refine yh [] [] [] ?_;simp only[ybl,hn,allQ,live,yc,zG,go_sem,zA,↓reduceIte,reduceCtorEq];refine⟨Sim.refl _,fun i hi=>?_⟩;simp only[row,if_neg (zAE i)];exact Sim.refl _
  ·intro k hk;have ht:=ycfk (s:=s) (v:=k) hs;simp only[IntKind.bits]at ht;simp only[ychc,ycnj,ycxm,ycpf,ycjs,yclt,IntKind.bits,ht,yzr,go_sem,zA,zB,zAW,↓reduceIte,reduceCtorEq];refine⟨fun hlt=>⟨by omega,fun h1=>?_,fun h1=>?_⟩,fun hlt=>?_⟩
   ·have hk':k<c.length:=by omega
    have hkg:k<g.ports.length:=by omega
    have hr0:0<=yhb p g c k:=by
     have:=hen k h1;unfold ybm at this;rw[yng]at this;simp only[zF,decide_eq_true_eq]at this;exact this.2
    have hrl:=(ycdf p g c k).2;have hr1:yhb p g c k=((yhb p g c k).toNat:Int):=by omega
    refine(ybiv p hg hp hc hkg).use ?_;simp only[ybh,splice,go_sem,zA,zB,zAW,↓reduceIte,reduceCtorEq];have hM:=ycdz p hg hp hc hkg (r:=(yhb p g c k).toNat) (by omega)
    rw[<-hr1]at hM;refine hM.use ?_;simp only[go_sem,zA,↓reduceIte];refine⟨by omega,by omega,ikw (by omega) (by omega),?_⟩
    refine yj (k+1) (by omega) (by omega) ?_
    refine yh [] [] [] ?_;simp only[allQ,live,yc,ybb,go_sem,zA,↓reduceIte,reduceCtorEq];refine⟨by omega,fun i hi=>?_⟩
    by_cases q:i=k
    ·simp only[if_pos q];subst q;simp only[go_sem,live,go_sem];simp only[row,if_pos (zZ i),ymf p g c s hk',h1,↓reduceIte];exact Sim.refl _
    ·simp only[if_neg q];simp only[go_sem,live,go_sem]
     have:row (k+1) i=row k i:=by
      simp only[row]
      by_cases q1:i<k
      ·rw[if_pos q1,if_pos (by omega)]
      ·rw[if_neg q1,if_neg (by omega)]
     rw[this];exact Sim.refl _
   ·have hk':k<c.length:=by omega
    refine⟨ikw (by omega) (by omega),?_⟩
    refine yj (k+1) (by omega) (by omega) ?_
    refine yh [] [] [] ?_;simp only[allQ,live,yc,ybb,go_sem,zA,↓reduceIte,reduceCtorEq];refine⟨by omega,fun i hi=>?_⟩
    have:row (k+1) i=row k i:=by
     simp only[row]
     by_cases q1:i<k
     ·rw[if_pos q1,if_pos (by omega)]
     ·by_cases q:i=k
      ·subst q;rw[if_neg q1,if_pos (by omega),ymf p g c s hk',if_neg (fun q=>h1 (yzr.2 q))]
      ·rw[if_neg q1,if_neg (by omega)]
    rw[this];exact Sim.refl _
   ·obtain rfl:k=n:=by omega
    rw[yjp,hn];refine yiv fun q hq=>⟨⟨?_,trivial⟩,rfl⟩;simp only[row,if_pos hq];exact Sim.refl _
end Sh
end
section
namespace Sh
open Go Ev
def yxd(p:ProgT)(g:Gr):Bool:=p.vars.all fun x=>decide (x.kind=1)==false||(decide ((ybi g 0 x).1<=(ybi g 0 x).2)&&decide ((ybi g 0 x).2-(ybi g 0 x).1+1<=4096))
def yds(Q1 Q2:(Nat->Option ABlk)->Value->Prop)(p:ProgR):List SV:=[.a (.string p.name),.ex Q1 (ydh p.vars),.ex Q2 (yda p.rules)]
theorem ycgn{Q1 Q2:(Nat->Option ABlk)->Value->Prop}(p:ProgT){g:Gr}(hg:ybe g)(hp:p.ok=true)(hf:yxd p g=true)(hV:Returns Tryz.prog 191 [.ag (yds Q1 Q2 p.raw)] (.b true))(hG:Returns Tryz.prog 96 [grV g] (.b true)) :
 Returns Tryz.prog 155 [.ag (yds Q1 Q2 p.raw),grV g] (.i .i64 0):=by
 refine Returns.of (ydfi _ _ ?_);have hp':=hp;unfold ProgT.ok at hp';simp only[zF,decide_eq_true_eq]at hp';have hvars:p.raw.vars=p.vars:=rfl;simp only[yds,grV]at hV hG;simp only[c155,ycig,yctu,ycme,ycqx,ycqt,ycop,yds,grV,go_sem,zA,zB,zD,↓reduceIte,reduceCtorEq];refine hV.use ?_;simp only[ybh,go_sem,zA,zB,↓reduceIte];refine hG.use ?_;simp only[ydh,hvars,go_sem,zA,zB,zC,↓reduceIte,reduceCtorEq]
 have hall:∀k,k<p.vars.length->(p.vars.getD k default).ok=true/\((p.vars.getD k default).kind=1->(ybi g 0 (p.vars.getD k default)).1<=(ybi g 0 (p.vars.getD k default)).2/\(ybi g 0 (p.vars.getD k default)).2-(ybi g 0 (p.vars.getD k default)).1+1<=4096):=fun k hk=>by
  rw[getD_at hk];refine⟨List.all_eq_true.1 hp'.1.1.2 _ (zI _),fun h1=>?_⟩;have:=List.all_eq_true.1 hf _ (zI hk)
  simpa[h1]using this
 refine ybj (σ:=Nat) (fun k=>⟨[(18,.i .i64 k),(17,.i .i64 p.vars.length),(16,.ex Q1 (ydh p.vars)),(3,.pt (3,0) 0 0)],[(3,.one (some ⟨27,true,2,1,fun _=>[yw g.ids,yx g.ports]⟩))]⟩) (fun k=>k<=p.vars.length) (fun k=>p.vars.length-k) 0 (zJ _) ?_ ?_
 ·refine yh [] [] [] ?_;simp only[ydh,allQ,live,yc,zG,go_sem,zA,↓reduceIte,reduceCtorEq]
 ·intro k hk;obtain⟨x,hx⟩:∃x,p.vars.getD k default=x:=⟨_,rfl⟩;simp only[ycqy,ycgp,yclz,ycun,ybpq,ybtv,ybyr,ybxq,ydh,varC,splice,ybb,hx,go_sem,zA,zB,zC,zD,↓reduceIte,reduceCtorEq];intro hlt;have hk':k<p.vars.length:=by omega
  obtain⟨hxo,hxb⟩:=hall k hk';rw[hx]at hxo hxb;have hB:=yvg hg hxo (v:=0) (by have:=hg.1;omega)
  simp only[varC,grV,zG]at hB;obtain⟨hb1,hb2⟩:=yma hg hxo;have hvo:=ybff hxo;refine⟨by omega,fun h1=>⟨ikw (by omega) (by omega),?_⟩,fun h1=>hB.use ?_⟩
  ·refine yj (k+1) (by omega) (by omega) ?_
   refine yh [] [] [] ?_;simp only[allQ,live,yc,ybb,go_sem,zA,↓reduceIte,reduceCtorEq];omega
  ·obtain⟨hb3,hb4⟩:=hxb h1;obtain⟨b1,hb1'⟩:∃b,(ybi g 0 x).1=b:=⟨_,rfl⟩;obtain⟨b2,hb2'⟩:∃b,(ybi g 0 x).2=b:=⟨_,rfl⟩;have e:ybi g 0 x=(x.lo,x.hi+x.perNode*(g.ids.length:Int)+x.perID*maxI g.ids):=by unfold ybi;rw[if_pos h1]
   rw[e]at hb1' hb2';simp only[]at hb1' hb2';simp only[e]at hb3 hb4;rw[e];simp only[ybh,ybb,go_sem,zA,zB,↓reduceIte,reduceCtorEq];simp only[hb1',hb2']at hb3 hb4 ⊢;refine⟨fun _=>⟨ikw (by omega) (by omega),ikw (by omega) (by omega),fun hgt=>absurd hb4 (by omega),fun _=>⟨ikw (by omega) (by omega),?_⟩⟩,fun hlt2=>absurd hb3 (by omega)⟩
   refine yj (k+1) (by omega) (by omega) ?_
   refine yh [] [] [] ?_;simp only[allQ,live,yc,ybb,go_sem,zA,↓reduceIte,reduceCtorEq];omega
end Sh
end
section
namespace Sh
open Go Ev Go.RowKit
theorem ybpi{g:Gr}(hg:ybe g){x:VarR}(hx:x.ok=true)(v:Nat):-4096<=(ybi g v x).1/\(ybi g v x).2<=100000:=by
 obtain⟨h1,h2,h3,h4,h5⟩:=ybff hx;obtain⟨h6,h7⟩:=yma hg hx;have h8:=hg.deg_lt (v:=v);unfold ybi;split
 ·exact⟨by simp only[];omega,by simp only[];omega⟩
 ·split
  ·exact⟨by simp only[];omega,by simp only[];omega⟩
  ·split
   ·exact⟨by simp only[];omega,by simp only[];omega⟩
   ·exact⟨by simp only[];omega,by simp only[];omega⟩
theorem yjs{p:ProgT}{g:Gr}(hg:ybe g)(hp:p.ok=true){c:Conf}(hc:yeq p g c=true):ConfIn g.ports.length p.vars.length c:=by
 have h:=(yew _ _ _).1 hc;have hp':=hp;unfold ProgT.ok at hp';simp only[zF,decide_eq_true_eq]at hp';refine⟨h.1.trans hg.2.2.1,fun s hs=>?_⟩;obtain⟨v,hv,rfl⟩:=zAO hs;have h2:=h.2 v _ (zL hv);have hl:(c[v]).length=p.vars.length:=by have:=h2.1;simpa using this
 refine⟨hl,fun x hx=>?_⟩;obtain⟨i,hi,rfl⟩:=zAO hx;have hi':i<p.vars.length:=by omega
 have h3:=h2.2 i (ybi g v p.vars[i]) _ (by simp[hi']) (zL hi)
 have h4:=ybpi hg (List.all_eq_true.1 hp'.1.1.2 _ (zI hi')) v;unfold InB;omega
structure Checked(Q1 Q2:(Nat->Option ABlk)->Value->Prop)(p:ProgT)(g:Gr):Prop where
 hg:ybe g
 hp:p.ok=true
 hf:yxd p g=true
 hV:Returns Tryz.prog 191 [.ag (yds Q1 Q2 p.raw)] (.b true)
theorem Checked.gv{Q1 Q2:(Nat->Option ABlk)->Value->Prop}{p:ProgT}{g:Gr}(h:Checked Q1 Q2 p g):Returns Tryz.prog 96 [grV g] (.b true):=by
 have e:=ywi (ydfg h.hg);rw[(yfh g).2 h.hg]at e;exact e
section
variable {Q1 Q2:(Nat->Option ABlk)->Value->Prop}{p:ProgT}{g:Gr}
theorem yzl(h:Checked Q1 Q2 p g)(c:Conf):Returns Tryz.prog 112 [.ag (yds Q1 Q2 p.raw),grV g,ybl c] (.i .i64 (if yeq p g c then 0 else 10)):=by
 refine Returns.of (yddd _ _ ?_);have hp':=h.hp;unfold ProgT.ok at hp';simp only[zF,decide_eq_true_eq]at hp';have hid:=h.hg.2.2.1;have h24:=h.hg.2.1;have hF:=ycgn p h.hg h.hp h.hf h.hV h.gv;have hT:=ybdm p.raw h.hg hp'.1.1.2 hp'.1.1.1.2;have hW:=ybmw (n:=g.ids.length) p.vars (by omega) (ybi g) c (by omega)
 simp only[yds,grV]at hF hT;simp only[c112,ycuu,yclf,yds,grV,go_sem,zA,zB,zD,↓reduceIte,reduceCtorEq];refine hF.use ?_;simp only[ybh,ycnx,ycrs,ycno,go_sem,zA,zB,↓reduceIte,reduceCtorEq];refine⟨fun h=>absurd rfl h,hT.useS ?_ ?_⟩
 ·exact⟨yub ⟨Sim.refl _,ylr _ _,ylr _ _,trivial⟩,Sim.refl _,trivial⟩
 simp only[yiy]at hW ⊢;simp only[go_sem,↓reduceIte];refine hW.use ?_;simp only[go_sem];have hcf:∀b,yoy g.ids.length (fun v=>p.vars.map (ybi g v)) c=b->yeq p g c=b:=fun b h=>h;refine⟨fun h1=>?_,fun h1=>?_⟩
 ·simp only[yckz,hcf _ h1,ybb,go_sem,↓reduceIte]
 ·simp only[ychl,hcf _ h1,ybb,go_sem,↓reduceIte]
theorem yblp(h:Checked Q1 Q2 p g)(c:Conf):Returns Tryz.prog 92 [.ag (yds Q1 Q2 p.raw),grV g,ybl c] (.b (yeq p g c)):=by
 refine Returns.of (ydmz _ _ ?_);have hC:=yzl h c;simp only[yds,grV]at hC;simp only[c92,ydnz,ydkn,yds,grV,go_sem,zA,zB,zD,↓reduceIte,reduceCtorEq];refine hC.use ?_;simp only[ybh,ykh,go_sem,zA,zB,↓reduceIte,reduceCtorEq];cases yeq p g c<;>rfl
theorem ysk(h:Checked Q1 Q2 p g){c:Conf}(hc:yeq p g c=true):Returns Tryz.prog 36 [.ag (yds Q1 Q2 p.raw),grV g,ybl c] (.i .u32 (ybm p g c)):=by
 refine Returns.of (ydht _ _ ?_);have hp':=h.hp;unfold ProgT.ok at hp';simp only[zF,decide_eq_true_eq]at hp';have hM:=yblp h c;rw[hc]at hM;have hN:=yqb p.raw h.hg hp'.1.1.2 hp'.1.1.1.2;have hE:=yjj p h.hg h.hp (yjs h.hg h.hp hc);simp only[yds,grV]at hM hN;simp only[c36,ydih,ydmh,yds,grV,go_sem,zA,zB,zD,↓reduceIte,reduceCtorEq];refine hM.use ?_;simp only[ybh,ydjx,ydft,go_sem,zA,zB,↓reduceIte,reduceCtorEq]
 refine hN.useS ?_ ?_
 ·exact⟨yub ⟨Sim.refl _,ylr _ _,ylr _ _,trivial⟩,Sim.refl _,trivial⟩
 simp only[go_sem,↓reduceIte];refine hE.use ?_;simp only[go_sem];exact Sim.refl _
theorem yblq(k:Int):Returns Tryz.prog 108 [.i .i64 k] (.b (decide (1<=k)&&decide (k<=4))):=by
 refine Returns.of (yczw _ _ ?_);simp only[c108,ycrc,ycty,ykh,go_sem,zA,zB,↓reduceIte,reduceCtorEq]
 by_cases h:k>=1<;>simp[h]
end
end Sh
end
section
theorem ynl(s a:Nat):∀b,yfe s (a+b)=yfe s a+yfe (s>>>a) b
 |0=>rfl
 | b+1=>by
   show yfe s (a+b)+(s.testBit (a+b)).toNat=_;rw[ynl s a b];show _=yfe s a+(yfe (s>>>a) b+((s>>>a).testBit b).toNat);rw[Nat.testBit_shiftRight];omega
theorem yon(s:Nat):∀b,b<=8->yfe (s&&&255) b=yfe s b
 |0,_=>rfl
 | b+1,h=>by
   show yfe _ b+_=yfe s b+_;rw[yon s b (by omega),zW,show(255:Nat)=2^8-1 from rfl,zAF]
   simp[show b<8 by omega]
theorem ybmc(s:Nat):popP s=yfe (s>>>24&&&255) 8+yfe (s>>>16&&&255) 8+yfe (s>>>8&&&255) 8+yfe (s&&&255) 8:=by
 simp only[yon _ 8 (zV _)];have h1:=ynl s 8 24;have h2:=ynl (s>>>8) 8 16;have h3:=ynl (s>>>8>>>8) 8 8;simp only[<-Nat.shiftRight_add,zB]at h1 h2 h3;unfold popP;omega
namespace Sh
open Ev Go.RowKit
theorem yym:∀k,k<256->ywg.getD k 0=yfe k 8:=by decide
theorem yczy:ywg.length=256:=by decide
theorem ydca(a v:Nat):(a:Int).fdiv (2^v)=((a>>>v:Nat):Int):=by
 have h:=ybqb (a:=a) (v:=v)
 rwa [zK]at h
theorem ychh{a:Nat}(ha:a<2^32):IntKind.wrap .u32 (((zH (IntKind.bits .u32) (a:Int))&&&zH (IntKind.bits .u32) 255).toNat:Int)=((a&&&255:Nat):Int):=u32_and (b:=255) ha (by decide)
theorem ydnl{a n:Nat}(h:a<2^32):a>>>n<2^32:=by rw[zT];exact zY (zAU _ _) h
theorem ybhw{s:Nat}(hs:s<2^32):Returns Tryz.prog 104 [.i .u32 s] (.i .i64 (popP s)):=by
 refine Returns.of (ycxp _ _ ?_);simp only[c104,ycoq,ycih,clash,go_sem,zAD,zA,zB,↓reduceIte,reduceCtorEq];have f1:=ychh hs;have f2:=fun n=>ychh (ydnl (n:=n) hs);simp only[IntKind.bits]at f1 f2;simp only[ydca,f1,f2,zK,yczy];have hp:=ybmc s;have l1:s>>>24<256:=by rw[zT];omega
 have b1:∀x:Nat,x&&&255<256:=fun x=>zY Nat.and_le_right (by omega)
 rw[yon (s>>>24) 8 (zV _)]at hp;rw[yym _ l1,yym _ (b1 (s>>>16)),yym _ (b1 (s>>>8)),yym _ (b1 s)];have q1:=ykd (s>>>24) 8;have q2:=ykd (s>>>16&&&255) 8;have q3:=ykd (s>>>8&&&255) 8;have q4:=ykd (s&&&255) 8;have w1:=b1 (s>>>16);have w2:=b1 (s>>>8);have w3:=b1 s;have u8k:∀x:Int,0<=x->x<=255->inK .u8 x:=fun x h1 h2=>⟨by simpa[IntKind.min,IntKind.signed]using h1,by simpa[IntKind.max,IntKind.bits,IntKind.signed]using h2⟩
 refine⟨⟨by omega,by decide⟩,⟨by omega,by omega⟩,⟨by omega,by decide⟩,by omega,u8k _ (by omega) (by omega),⟨by omega,by decide⟩,by omega,u8k _ (by omega) (by omega),by omega,u8k _ (by omega) (by omega),?_⟩
 rw[wrap_in (ikw (by omega) (by omega)),hp]
 exact Sim.refl _
def cntV(k:Cnt):List SV:=[.i .i64 k.steps,.i .i64 k.moves,.i .i64 k.rounds,.i .i64 k.begun,.i .u32 k.pend]
theorem ybps{e:Nat}(he:e<2^24):Returns Tryz.prog 195 [.i .u32 e] (.ag (cntV (ydp e))):=by
 refine Returns.of (ycyr _ _ ?_);simp only[c195,ycor,ycre,go_sem,zA,zB,zD,↓reduceIte,reduceCtorEq];have e1:e&&&16777215=e:=by rw[show(16777215:Nat)=2^24-1 from rfl,Nat.and_two_pow_sub_one_of_lt_two_pow he]
 have e2:IntKind.wrap .u32 (((zH (IntKind.bits .u32) (e:Int))&&&zH (IntKind.bits .u32) 16777215).toNat:Int)=((e&&&16777215:Nat):Int):=u32_and (b:=16777215) (by omega) (by decide)
 simp only[IntKind.bits]at e2;rw[e2,e1];exact Sim.refl _
def usV(l:List Nat):SV:=.sl 1 l.length (fun k=>[.i .u32 ((l.getD k 0:Nat):Int)])
theorem ydpv{a:Nat}(ha:a<2^24):IntKind.wrap .u32 (((zH (IntKind.bits .u32) (a:Int)) &&& ~~~zH (IntKind.bits .u32) 16777215).toNat:Int)=0:=by
 have h:=u32_andNot (a:=a) (b:=16777215) (by omega) (by decide)
 have e:difB a 16777215=0:=by
  rw[yby];intro i;rw[ygf,show(16777215:Nat)=2^24-1 from rfl,zAF]
  by_cases hi:i<24
  ·simp[hi]
  ·rw[zO (zQ ha (zM (by omega) (by omega)))]
   rfl
 rw[e]at h;exact h
theorem yqi(l:List Nat)(hl:l.length<=10)(h:∀k,k<l.length->l.getD k 0<2^24):Returns Tryz.prog 223 [usV l] (.b true):=by
 refine Returns.of (ydbt _ _ ?_);simp only[c223,ycnf,ychv,usV,go_sem,zB,↓reduceIte,reduceCtorEq];refine ybj (σ:=Nat) (fun k=>⟨[(7,.i .i64 k),(6,.i .i64 l.length),(5,usV l)],[]⟩) (fun k=>k<=l.length) (fun k=>l.length-k) 0 (zJ _) ?_ ?_
 ·refine yh [] [] [] ?_;simp only[usV,allQ,live,yc,zG,go_sem,zA,↓reduceIte,reduceCtorEq]
 ·intro k hk;simp only[ychn,yciw,ycrm,ycjg,usV,go_sem,zA,zB,↓reduceIte,reduceCtorEq];refine⟨fun hlt=>?_,fun hlt=>?_⟩
  ·have hk':k<l.length:=by omega
   have e0:=ydpv (h k hk');simp only[IntKind.bits]at e0;rw[e0];refine⟨⟨by omega,by omega⟩,fun h=>absurd rfl h,fun _=>?_⟩
   simp only[ycuk,go_sem,zA,zB,↓reduceIte,reduceCtorEq];refine⟨ikw (by omega) (by omega),?_⟩
   refine yj (k+1) (by omega) (by omega) ?_
   refine yh [] [] [] ?_;simp only[allQ,live,yc,ybb,go_sem,zA,↓reduceIte,reduceCtorEq];omega
  ·simp only[ycrx,ykh,go_sem,↓reduceIte]
theorem ybnq{k:Cnt}(hk : k.ok)(hs:k.steps<=4096):Returns Tryz.prog 222 [.ag (cntV k)] (.b true):=by
 refine Returns.of (yczq _ _ ?_);obtain⟨h1,h2,h3,h4,h5,h6⟩:=hk
 have hP:=yqi [k.pend] (by simp) (fun i hi=>by have:i=0:=by simp at hi;omega
                                               subst this;exact h6)
 have f1:decide ((k.steps:Int)<0)=false:=by simp
 have f2:decide ((k.steps:Int)>4096)=false:=by simp;omega
 have f3:decide ((k.rounds:Int)<0)=false:=by simp
 have f4:decide ((k.rounds:Int)>k.begun)=false:=by simp;omega
 have f5:decide ((k.begun:Int)>k.steps)=false:=by simp;omega
 have f6:decide ((k.begun:Int)>k.rounds+1)=false:=by simp;omega
 have f7:decide ((k.steps:Int)<=k.moves)=true:=by simp;omega
 have f8:decide ((k.moves:Int)<=24*k.steps)=true:=by simp;omega
 simp(maxSteps:=5000000) only [c222,ycxd,ycpu,cntV,f1,f2,f3,f4,f5,go_sem,zA,zB,zC,zD,↓reduceIte,reduceCtorEq];simp only[ycke,f6,go_sem,zA,zB,zC,↓reduceIte,reduceCtorEq];refine⟨ikw (by omega) (by omega),?_⟩
 simp(maxSteps:=5000000) only [ycqj,f7,f8,go_sem,zA,zB,zC,zD,↓reduceIte,reduceCtorEq];refine⟨ikw (by omega) (by omega),?_⟩
 refine .inl ⟨fun q hq=>?_,hP.useS ?_ ?_⟩
 ·obtain rfl:q=0:=by omega
  simp only[go_sem]
 ·exact⟨yks fun q hq=>by obtain rfl:q=0:=by omega
                         rfl,trivial⟩
 simp only[ybh,ykh,go_sem,zA,zB,↓reduceIte,reduceCtorEq]
theorem ycyd{k:Cnt}(hk:k.ok)(hs:k.steps<4096){s e:Nat}(h0:s≠0)(hs24:s<2^24)(he:e<2^24):Returns Tryz.prog 197 [.ag (cntV k),.i .u32 s,.i .u32 e] (.tp [.ag (cntV (addP k s e)),.i .i64 0]):=by
 refine Returns.of (yczm _ _ ?_);have hV:=ybnq hk (by omega)
 have hO:=ybhw (s:=s) (by omega)
 have hP:=yqi [s,e] (by simp) (fun i hi=>by
  have:i=0\/i=1:=by simp at hi;omega
  rcases this with rfl|rfl
  ·exact hs24
  ·exact he)
 obtain⟨h1,h2,h3,h4,h5,h6⟩:=hk;simp only[cntV]at hV;simp only[c197,ycti,ycif,cntV,go_sem,zA,zB,zD,↓reduceIte];refine hV.use ?_;have z0:((s:Int)==0)=false:=by simp;omega
 simp only[ybh,ycvo,z0,go_sem,zA,zB,zC,zD,↓reduceIte,reduceCtorEq];refine .inl ⟨fun q hq=>?_,hP.useS ?_ ?_⟩
 ·have:q=0\/q=1:=by omega
  rcases this with rfl|rfl
  ·simp only[go_sem]
  ·simp only[go_sem]
 ·exact⟨yks fun q hq=>by
   have:q=0\/q=1:=by omega
   rcases this with rfl|rfl<;>rfl,trivial⟩
 have z1:((k.steps:Int)==4096)=false:=by simp;omega
 simp only[ychk,ychu,z1,go_sem,zA,zB,zC,↓reduceIte,reduceCtorEq];refine⟨ikw (by omega) (by omega),?_⟩
 simp only[ycsa,clash,go_sem,zA,zB,zC,↓reduceIte,reduceCtorEq];refine hO.use ?_;have hpop:=ybvx s hs24;have a1:=u32_andNot (a:=k.pend) (b:=s) (by omega) (by omega)
 have hd:difB k.pend s<2^24:=yzd h6;have a2:=u32_and (a:=difB k.pend s) (b:=e) (by omega) (by omega)
 obtain⟨P,hPe⟩:∃P,difB k.pend s&&&e=P:=⟨_,rfl⟩;rw[hPe]at a2;simp only[IntKind.bits]at a1 a2;simp only[ybh,go_sem,zA,zB,zC,↓reduceIte,reduceCtorEq];refine⟨ikw (by omega) (by omega),?_⟩
 simp only[yclg,ybvl,ybto,a1,a2,go_sem,zA,zB,zC,↓reduceIte,reduceCtorEq];refine⟨by decide,ikw (by omega) (by omega),fun hP0=>?_,fun hP0=>?_⟩
 ·have hP1:P=0:=by omega
  have ea:addP k s e=⟨k.steps+1,k.moves+popP s,k.rounds+1,k.rounds+1,e⟩:=by unfold addP;simp only[hPe,hP1,if_true]
  rw[ea];simp only[ybzm,ybvw,ybgk,go_sem,zA,zB,zC,↓reduceIte,reduceCtorEq];exact Sim.refl _
 ·have hP1:¬P=0:=by omega
  have ea:addP k s e=⟨k.steps+1,k.moves+popP s,k.rounds,k.rounds+1,P⟩:=by unfold addP;simp only[hPe,if_neg hP1]
  rw[ea];simp only[ybgk,go_sem,zA,zB,↓reduceIte];exact Sim.refl _
end Sh
end
section
def netP(ls:List (Int×Int)):Nat:=ls.foldl (fun a l=>a|||2^l.1.toNat) 0
theorem ybxl(ls:List (Int×Int))(k:Nat)(h:k<ls.length):netP (ls.take (k+1))=netP (ls.take k)|||2^(ls.getD k (0,0)).1.toNat:=by
 unfold netP;rw[zU h,zAR,Sh.getD_at h];rfl
theorem ydaw(ls:List (Int×Int))(h:∀l∈ls,l.1<24):netP ls<2^24:=by
 unfold netP
 have:∀(ls:List (Int×Int)) (a:Nat),(∀l∈ls,l.1<24)->a<2^24->ls.foldl (fun a l=>a|||2^l.1.toNat) a<2^24:=by
  intro ls
  induction ls with
  |nil=>intro a _ h;exact h
  | cons l ls ih =>
    intro a hl ha;refine ih _ (fun x hx=>hl x (List.mem_cons_of_mem _ hx)) (zAQ ha ?_);have:=hl l List.mem_cons_self;exact zS (by omega) (by omega)
 exact this ls 0 h (by decide)
namespace Sh
open Ev Go.RowKit
theorem u32k{a:Nat}(h:a<2^32):inK .u32 (a:Int):=⟨by simp[IntKind.min,IntKind.signed],by simp[IntKind.max,IntKind.bits,IntKind.signed];omega⟩
theorem ybph{g:Gr}(hg:ybe g):Returns Tryz.prog 109 [grV g] (.i .u32 (2^g.ids.length-1:Nat)):=by
 refine Returns.of (yczu _ _ ?_);have h3:=hg.2.2.1;have h4:=hg.2.1;simp only[c109,ycqb,ycqo,grV,yw,go_sem,zA,zB,zC,zD,↓reduceIte,reduceCtorEq];have h5:=yni (v:=g.ids.length) (by omega)
 rw[zK]at h5;have h6:2^g.ids.length<2^32:=zS (by omega) (by omega)
 have h7:1<=2^g.ids.length:=Nat.one_le_two_pow;have h8:(((2^g.ids.length:Nat):Int))-1=((2^g.ids.length-1:Nat):Int):=by omega
 rw[h5,h8];refine⟨⟨by omega,by show _<((32:Nat):Int);omega⟩,u32k (by omega),Sim.refl _⟩
theorem ybkv{g:Gr}(hg:ybe g):Returns Tryz.prog 110 [grV g] (usV (g.ports.map netP)):=by
 refine Returns.of (ydcq _ _ ?_);have h3:=hg.2.2.1;have h4:=hg.2.1;simp only[c110,ycis,ycvm,ycuy,grV,yw,yx,go_sem,zA,zB,zD,↓reduceIte,reduceCtorEq];refine⟨by omega,?_⟩
 obtain⟨n,hn⟩:∃n,g.ports.length=n:=⟨_,rfl⟩
 let val:Nat->Nat->Nat:=fun k i=>if i<k then netP (g.ports.getD i [])else 0
 refine ybj (σ:=Nat) (fun k=>⟨[(15,.i .i64 k),(14,.i .i64 n),(13,yx g.ports),(3,.os (11,0) 0 n true)],
  [(11,.one (some ⟨40,false,1,n,fun i=>[.i .u32 (val k i:Nat)]⟩))]⟩) (fun k=>k<=n) (fun k=>n-k) 0 (zJ _) ?_ ?_
 ·refine yh [] [] [] ?_;simp only[yx,hn,allQ,live,yc,ybb,zG,go_sem,zA,↓reduceIte,reduceCtorEq];simp[val]
 ·intro k hk;obtain⟨L,hL⟩:∃L,g.ports.getD k []=L:=⟨_,rfl⟩;simp only[ycrg,ycrh,ycmy,yx,yba,hn,hL,go_sem,zA,zB,↓reduceIte,reduceCtorEq];refine⟨fun hlt=>?_,fun hlt=>?_⟩
  ·have hk':k<n:=by omega
   have hkp:k<g.ports.length:=by omega
   have hlk:∀l∈L,0<=l.1/\l.1<24:=fun l hl=>by
    rw[<-hL,getD_at hkp]at hl;obtain⟨a1,a2,_⟩:=(hg.2.2.2.2.2.1 ⟨k,hkp⟩).1 l hl;exact⟨a1,by omega⟩
   have hdeg:=hg.deg_lt (v:=k);rw[hL]at hdeg;refine⟨by omega,?_⟩
   obtain⟨m,hm⟩:∃m,L.length=m:=⟨_,rfl⟩;rw[hm]
   let val2:Nat->Nat->Nat:=fun j i=>if i<k then netP (g.ports.getD i [])else if i=k then netP (L.take j)else 0
   refine ybj (σ:=Nat) (fun j=>⟨[(22,.i .i64 j),(21,.i .i64 m),(20,yba L),(4,.i .i64 k),(15,.i .i64 k),(14,.i .i64 n),(13,yx g.ports),(3,.os (11,0) 0 n true)],
    [(11,.one (some ⟨40,false,1,n,fun i=>[.i .u32 (val2 j i:Nat)]⟩))]⟩) (fun j=>j<=m) (fun j=>m-j) 0 (zJ _) ?_ ?_
   ·refine yh [] [] [] ?_;simp only[yx,yba,hn,hm,allQ,live,yc,ybb,zG,go_sem,zA,↓reduceIte,reduceCtorEq];intro i hi;simp only[val,val2]
    by_cases q:i<k
    ·rw[if_pos q,if_pos q]
    ·rw[if_neg q,if_neg q]
     by_cases q2:i=k
     ·rw[if_pos q2];rfl
     ·rw[if_neg q2]
   ·intro j hj;obtain⟨l,hl⟩:∃l,L.getD j (0,0)=l:=⟨_,rfl⟩;simp only[ycte,ychy,yx,yba,hn,hm,hl,go_sem,zA,zB,zD,↓reduceIte,reduceCtorEq];refine⟨fun hlj=>⟨by omega,?_⟩,fun hlj=>?_⟩
    ·have hj':j<L.length:=by omega
     have hl2:=hlk l (by rw[<-hl,getD_at hj'];exact zI _)
     obtain⟨t,ht⟩:∃t:Nat,l.1=t:=⟨l.1.toNat,by omega⟩
     have h24t:t<24:=by omega
     have hval:val2 j k<2^24:=by
      simp only[val2,if_neg (zAX k),if_true];exact ydaw _ fun l hl=>(hlk l (List.mem_of_mem_take hl)).2
     have hp:2^t<2^24:=zS (by omega) h24t
     have hsh:=yni (v:=t) (by omega)
     have hor:=u32_or (a:=val2 j k) (b:=2^t) (by omega) (by omega)
     rw[zK]at hsh;simp only[IntKind.bits]at hor;simp only[ycwp,ht,clash,hsh,hor,go_sem,zA,zB,zC,↓reduceIte,reduceCtorEq];refine⟨by omega,by omega,⟨by omega,by show _<((32:Nat):Int);omega⟩,by omega,by omega,by decide,?_⟩
     simp only[ycjn,go_sem,zA,zB,↓reduceIte,reduceCtorEq];refine⟨ikw (by omega) (by omega),?_⟩
     refine yj (j+1) (by omega) (by omega) ?_
     refine yh [] [] [] ?_;simp only[allQ,live,yc,ybb,go_sem,zA,↓reduceIte,reduceCtorEq];refine⟨by omega,fun i hi=>?_⟩
     have hsn:=ybxl L j hj';rw[hl,ht,zK]at hsn
     by_cases q:i=k
     ·simp only[if_pos q];subst q;simp only[go_sem,live,ybb,go_sem,reduceCtorEq];simp only[val2,if_neg (zAX i),if_true,hsn]
     ·simp only[if_neg q];simp only[go_sem,live,ybb,go_sem,reduceCtorEq];simp only[val2,if_neg q]
    ·obtain rfl:j=m:=by omega
     simp only[ybrc,go_sem,zA,zB,↓reduceIte,reduceCtorEq];refine⟨ikw (by omega) (by omega),?_⟩
     refine yj (k+1) (by omega) (by omega) ?_
     refine yh [] [] [] ?_;simp only[allQ,live,yc,ybb,go_sem,zA,↓reduceIte,reduceCtorEq];refine⟨by omega,fun i hi=>?_⟩
     simp only[val,val2]
     by_cases q:i<k
     ·rw[if_pos q,if_pos (by omega)]
     ·rw[if_neg q]
      by_cases q2:i=k
      ·rw[if_pos q2,if_pos (by omega),q2,hL,<-hm,zAJ]
      ·rw[if_neg q2,if_neg (by omega)]
  ·obtain rfl:k=n:=by omega
   simp only[ybse,go_sem,zA,zB,↓reduceIte,reduceCtorEq];unfold usV;rw[zAT,hn];refine yks fun i hi=>?_;have hi':i<g.ports.length:=by omega
   simp only[val,if_pos hi];simp[zAC,hi']
end Sh
end
end Go.Proofs.YtiejahgklcjhkaaGreatDoor
