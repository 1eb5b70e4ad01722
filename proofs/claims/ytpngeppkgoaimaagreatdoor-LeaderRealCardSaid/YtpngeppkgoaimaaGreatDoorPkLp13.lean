/- Lemmas, joined: SgT SgU SgV SgX SgY SgZ SiA ScBf GraphD BfsA BfsB BfsC. -/
import Derived.Test.YtpngeppkgoaimaaGreatDoorPkLp12
import Derived.Test.YtpngeppkgoaimaaGreatDoorPkLp8
import Derived.Test.YtpngeppkgoaimaaGreatDoorPkLp10
set_option linter.unusedSimpArgs false
set_option linter.unusedVariables false
namespace Go.Proofs.YtpngeppkgoaimaaGreatDoor
open Go
namespace Sh
open Ev Go.RowKit
set_option maxRecDepth 8000
instance:Inhabited Cnt:=⟨⟨0,0,0,0,0⟩⟩
def seeO(cs:List Conf)(ks:List Cnt):Own:=[(1,.one (some ⟨30,true,1,1,fun _=>[.os (2,0) 0 cs.length true]⟩)),(2,.one (some ⟨35,false,1,cs.length,fun i=>[ybg (cs.getD i [])]⟩)),
 (3,.one (some ⟨31,true,1,1,fun _=>[.os (4,0) 0 ks.length true]⟩)),(4,.one (some ⟨46,false,5,ks.length,fun i=>cntV (ks.getD i default)⟩))]
def yddd:Own:=[(1,.one (some ⟨30,true,1,1,fun _=>[.a (.slice none 0 0)]⟩)),(3,.one (some ⟨31,true,1,1,fun _=>[.a (.slice none 0 0)]⟩))]
theorem ycdq(cs:List Conf)(ks:List Cnt)(h1:0<cs.length/\cs.length<=5000)(h2:0<ks.length/\ks.length<=5000){c:Conf}(hc:∀ s ∈ c,0<s.length/\s.length<=1000)(hl:c.length<=1000)(e:Nat)(k:Cnt) :
  Cm Tryz.prog 91 [(1,0),(3,0)] (seeO cs ks) [ybg c,.i .u32 e,.ag (cntV k),.pt (1,0) 0 0,.pt (3,0) 0 0] fun r o=>r = .tp []/\o=seeO (cs ++ [c]) (ks ++ [k]):=by
 refine ybqs [(1,0),(3,0)] [] _ _ _ ?_;obtain⟨n,hn⟩:∃ n,cs.length=n:=⟨_,rfl⟩;obtain⟨m,hm⟩:∃ m,ks.length=m:=⟨_,rfl⟩;have hC:=yxe c hc hl;obtain⟨O2,hO2⟩:∃ O,seeO (cs ++ [c]) (ks ++ [k])=O:=⟨_,rfl⟩;rw[hO2];simp only[c91,yddx,ydfd,yczr,seeO,cntV,hn,hm,go_sem,Nat.reduceEqDiff,Nat.reduceAdd,Nat.reduceLT,↓reduceIte,reduceCtorEq];refine hC.use ?_;simp only[thenO,clash,ygt,go_sem,Nat.reduceEqDiff,Nat.reduceAdd,Nat.reduceLeDiff,Nat.reduceLT,↓reduceIte,reduceCtorEq]
 refine⟨by decide,⟨by omega,by omega⟩,by decide,by decide,⟨by omega,by omega⟩,.tp [],O2,?_,?_,rfl,rfl⟩
 ·subst hO2;refine ydi [(2,fun i=>(12,i)),(4,fun i=>(16,i))] [] [] ?_;simp only[seeO,cntV,List.length_append,hn,hm,allQ,live,yg,go_sem,Nat.reduceEqDiff,↓reduceIte,reduceCtorEq];have gl:∀ {α:Type} (l:List α) (x d:α) (i:Nat),i<l.length->(l ++ [x]).getD i d=l.getD i d:=fun l x d i h=>by simp[List.getD,List.getElem?_append_left h]
  have gr:∀ {α:Type} (l:List α) (x d:α),(l ++ [x]).getD l.length d=x:=fun l x d=>by simp[List.getD]
  refine⟨fun i hi=>?_,fun i hi=>?_⟩
  ·by_cases q:i<n
   ·simp only[if_pos q,gl cs c [] i (by omega)]
    simp only[go_sem,live,yg,go_sem]
   ·obtain rfl:i=n:=by omega
    simp only[if_neg q,Nat.sub_self,Nat.zero_mul];have e:=gr cs c [];rw[hn]at e;simp only[e,live,yg,go_sem]
  ·by_cases q:i<m
   ·simp only[if_pos q,gl ks k default i (by omega)]
    simp only[go_sem,live,yg,go_sem,reduceCtorEq]
   ·obtain rfl:i=m:=by omega
    simp only[if_neg q,Nat.sub_self,Nat.zero_mul];have e:=gr ks k default;rw[hm]at e;simp only[e,live,yg,go_sem,reduceCtorEq]
 ·subst hO2;simp only[seeO,cntV,famCln,yga,allQ,live,go_sem,Nat.reduceEqDiff,↓reduceIte]
theorem ybpm{c:Conf}(hc:∀ s ∈ c,0<s.length/\s.length<=1000)(hl:c.length<=1000)(e:Nat)(k:Cnt) :
  Cm Tryz.prog 91 [(1,0),(3,0)] yddd [ybg c,.i .u32 e,.ag (cntV k),.pt (1,0) 0 0,.pt (3,0) 0 0] fun r o=>r = .tp []/\o=seeO [c] [k]:=by
 refine ybqs [(1,0),(3,0)] [] _ _ _ ?_;have hC:=yxe c hc hl;obtain⟨O2,hO2⟩:∃ O,seeO [c] [k]=O:=⟨_,rfl⟩;rw[hO2];simp only[c91,yddx,ydfd,yczr,yddd,cntV,go_sem,Nat.reduceEqDiff,Nat.reduceAdd,Nat.reduceLT,↓reduceIte,reduceCtorEq];refine hC.use ?_;simp only[thenO,clash,ygt,go_sem,Nat.reduceEqDiff,Nat.reduceAdd,Nat.reduceLeDiff,Nat.reduceLT,Nat.reduceMul,↓reduceIte,reduceCtorEq];refine⟨by decide,by decide,by decide,.tp [],O2,?_,?_,rfl,rfl⟩
 ·subst hO2;refine ydi [(2,fun i=>(12,i)),(4,fun i=>(16,i))] [] [] ?_;simp only[seeO,cntV,allQ,live,yg,go_sem,Nat.reduceEqDiff,↓reduceIte,reduceCtorEq];refine⟨fun i hi=>?_,fun i hi=>?_⟩
  ·obtain rfl:i=0:=by omega
   simp only[Nat.zero_mul];simp only[List.getD_cons_zero,live,yg,go_sem]
  ·obtain rfl:i=0:=by omega
   simp only[Nat.zero_mul];simp only[List.getD_cons_zero,live,yg,go_sem,reduceCtorEq]
 ·subst hO2;simp only[seeO,cntV,famCln,yga,allQ,live,go_sem,Nat.reduceEqDiff,↓reduceIte]
structure DaemonOk(kind:Int)(net:List Nat)(res:Nat->Nat->Nat):Prop where
 resolve:∀ (e w:Nat),e<2 ^ 24->e ≠ 0->w<2 ^ 32->Returns Tryz.prog 123 [usV net,.i .i64 kind,.i .u32 e,.i .u32 w] (.i .u32 (res e w))
 permits:∀ (e w:Nat),e<2 ^ 24->e ≠ 0->w<2 ^ 32->Returns Tryz.prog 146 [usV net,.i .i64 kind,.i .u32 e,.i .u32 (res e w)] (.b true)
 zero:∀ (w:Nat),w<2 ^ 32 -> ∃ x:Nat,Returns Tryz.prog 123 [usV net,.i .i64 kind,.i .u32 0,.i .u32 w] (.i .u32 x)
 sub:∀ (e w:Nat),e ≠ 0->e<2 ^ 24->res e w ≠ 0/\subB (res e w) e
theorem ybgq{kind:Int}{net:List Nat}{res:Nat->Nat->Nat}(hd:DaemonOk kind net res)(rest:SV)(liv:SV)(mv:SV){ws:List Nat}(hw:∀ k,ws.getD k 0<2 ^ 32){e:Nat}(he:e<2 ^ 24)(h0:e ≠ 0){k:Nat}(hk:k<ws.length) :
  Returns Tryz.prog 122 [.i .i64 k,.i .u32 e,.rf [mv,usV net,.i .i64 kind,liv,rest],.rf [usV ws]] (.tp [.i .u32 (res e (ws.getD k 0)),.b true]):=by
 refine Returns.of (ybyd _ _ ?_);have hR:=hd.resolve e (ws.getD k 0) he h0 (hw k);have z0:((e:Int) != 0)=true:=by simp;omega
 simp only[usV]at hR;simp only[c122,ybwa,ybus,usV,clash,go_sem,Nat.reduceEqDiff,Nat.reduceAdd,Nat.reduceLeDiff,↓reduceIte,reduceCtorEq];refine⟨by omega,hR.use ?_⟩
 simp only[thenO,clash,z0,go_sem,Nat.reduceEqDiff,Nat.reduceAdd,↓reduceIte,reduceCtorEq];exact Sim.refl _
theorem ybgx{kind:Int}{net:List Nat}{res:Nat->Nat->Nat}(hd:DaemonOk kind net res)(rest:SV)(liv:SV)(mv:SV){ws:List Nat}(hw:∀ k,ws.getD k 0<2 ^ 32){k:Nat}(hk:k<ws.length) :
  ∃ x:Nat,Returns Tryz.prog 122 [.i .i64 k,.i .u32 0,.rf [mv,usV net,.i .i64 kind,liv,rest],.rf [usV ws]] (.tp [.i .u32 x,.b false]):=by
 obtain⟨x,hR⟩:=hd.zero (ws.getD k 0) (hw k);refine⟨x,Returns.of (ybyd _ _ ?_)⟩;simp only[usV]at hR;simp only[c122,ybwa,ybus,usV,clash,go_sem,Nat.reduceEqDiff,Nat.reduceAdd,Nat.reduceLeDiff,↓reduceIte,reduceCtorEq];refine⟨by omega,hR.use ?_⟩
 simp only[thenO,clash,Int.reduceBNe,go_sem,Nat.reduceEqDiff,Nat.reduceAdd,↓reduceIte,reduceCtorEq];exact Sim.refl _
theorem ybvr{s e n:Nat}(h:subB s e)(he:e<2 ^ n):s<2 ^ n:=by
 refine Nat.lt_pow_two_of_testBit _ fun i hi=>?_;cases hb:s.testBit i with
 | false=>rfl
 | true =>
  have:=h i hb;rw[Nat.testBit_lt_two_pow (Nat.lt_of_lt_of_le he (Nat.pow_le_pow_right (by omega) hi))]at this
  cases this
theorem ycgj{s e:Nat}(h:subB s e):difB s e=0:=by
 rw[ydd];intro i;rw[ykz];cases hb:s.testBit i with
 | false=>rfl
 | true=>rw[h i hb];rfl
theorem ybhc(e w:Nat)(h0:e ≠ 0)(he:e<2 ^ 24):resD e w ≠ 0/\subB (resD e w) e:=by
 unfold resD;split
 ·exact⟨ydft h0 (by omega),ycfo e⟩
 ·rename_i h
  refine⟨h,fun i hi=>?_⟩;rw[Nat.testBit_and,Bool.and_eq_true]at hi;exact hi.2
theorem ybgi(net:List Nat):DaemonOk 3 net resD where
 resolve:=fun e w he h0 hw=>ybbj (usV net) (by simp[usV,yzj,ybgm]) he h0 hw
 permits:=fun e w he h0 hw=>by
  obtain⟨h1,h2⟩:=ybhc e w h0 he;exact ybai (usV net) he h1 (ybvr h2 he) (ycgj h2)
 zero:=fun w hw=>⟨0,by
  refine Returns.of (yyv _ _ ?_);have a0:=u32_and (a:=w) (b:=0) (by omega) (by omega)
  rw[Nat.and_zero]at a0;have a1:IntKind.wrap .u32 (0 - 0)=0:=by decide
  have a2:=u32_and (a:=0) (b:=0) (by omega) (by omega)
  rw[Nat.and_zero]at a2;simp only[Int.natCast_zero,IntKind.bits]at a0 a2;simp only[usV,c123,ybeh,ybbk,ybcc,ybca,yrx,ytb,ytg,ylu,yxr,IntKind.signed,a0,a1,a2,Int.reduceBEq,ybb,go_sem,Nat.reduceEqDiff,Nat.reduceAdd,Nat.reduceLT,↓reduceIte,reduceCtorEq];rfl⟩
 sub:=fun e w h0 he=>ybhc e w h0 he
theorem yczt(net:List Nat):DaemonOk 4 net resS where
 resolve:=fun e w he h0 hw=>ybej (usV net) (by simp[usV,yzj,ybgm]) he h0 hw
 permits:=fun e w he h0 hw=>yzu (usV net) he h0
 zero:=fun w hw=>⟨0,by
  refine Returns.of (yyv _ _ ?_);have a0:=u32_and (a:=w) (b:=0) (by omega) (by omega)
  rw[Nat.and_zero]at a0;have a1:IntKind.wrap .u32 (0 - 0)=0:=by decide
  have a2:=u32_and (a:=0) (b:=0) (by omega) (by omega)
  rw[Nat.and_zero]at a2;simp only[Int.natCast_zero,IntKind.bits]at a0 a2;simp only[usV,c123,ybeh,ybbk,ybcc,ybca,yrx,ytb,ytg,ylu,yyi,IntKind.signed,a0,a1,a2,Int.reduceBEq,ybb,go_sem,Nat.reduceEqDiff,Nat.reduceAdd,Nat.reduceLT,↓reduceIte,reduceCtorEq];rfl⟩
 sub:=fun e w h0 _=>⟨h0,fun _ h=>h⟩
end Sh
end Go.Proofs.YtpngeppkgoaimaaGreatDoor

namespace Go.Proofs.YtpngeppkgoaimaaGreatDoor
open Go
def stAt(S:Sys)(res:Nat->Nat->Nat):List Nat->Conf->Cnt->Nat->Conf × Cnt
 | _,c,k,0=>(c,k)
 | ws,c,k,i+1=>stAt S res ws.tail (S.mv c (res (S.en c) (ws.getD 0 0))) (addP k (res (S.en c) (ws.getD 0 0)) (S.en (S.mv c (res (S.en c) (ws.getD 0 0))))) i
theorem ybdf(S:Sys)(res:Nat->Nat->Nat):∀ (i:Nat) (ws:List Nat) (c:Conf) (k:Cnt),
  stAt S res ws c k (i+1)=(S.mv (stAt S res ws c k i).1 (res (S.en (stAt S res ws c k i).1) (ws.getD i 0)),addP (stAt S res ws c k i).2 (res (S.en (stAt S res ws c k i).1) (ws.getD i 0)) (S.en (S.mv (stAt S res ws c k i).1 (res (S.en (stAt S res ws c k i).1) (ws.getD i 0)))))
 | 0,ws,c,k=>rfl
 | i+1,ws,c,k=>by
  show stAt S res ws.tail _ _ (i+1)=_;rw[ybdf S res i ws.tail];have e:ws.tail.getD i 0=ws.getD (i+1) 0:=by cases ws<;>rfl
  rw[e];rfl
theorem ybee(S:Sys)(res:Nat->Nat->Nat):∀ (ws:List Nat) (c:Conf) (k:Cnt) (i:Nat),(∀ j,j<i->S.en (stAt S res ws c k j).1 ≠ 0)->i<=ws.length->(i=ws.length\/S.en (stAt S res ws c k i).1=0) ->
  S.run res ws c k=(List.range i).map fun j=>stAt S res ws c k (j+1)
 | [],c,k,i,_,hi,_=>by
  have:i=0:=by simpa using hi
  subst this;rfl
 | w :: ws,c,k,0,_,_,h=>by
  have h0:S.en c=0:=by
   rcases h with h | h
   ·simp at h
   ·exact h
  unfold Sys.run;rw[if_pos h0];rfl
 | w :: ws,c,k,i+1,hj,hi,h=>by
  have h0:S.en c ≠ 0:=hj 0 (by omega)
  unfold Sys.run;rw[if_neg h0];simp only
  have e:=ybee S res ws (S.mv c (res (S.en c) w)) (addP k (res (S.en c) w) (S.en (S.mv c (res (S.en c) w)))) i (fun j hj'=>hj (j+1) (by omega)) (by simpa using hi) (by
   rcases h with h | h
   ·exact .inl (by simpa using h)
   ·exact .inr h)
  rw[e,List.range_succ_eq_map,List.map_cons,List.map_map];rfl
theorem ybpc(S:Sys)(res:Nat->Nat->Nat)(ws:List Nat)(c:Conf)(i:Nat)(hj:∀ j,j<i->S.en (stAt S res ws c (ydu (S.en c)) j).1 ≠ 0)(hi:i<=ws.length)(h:i=ws.length\/S.en (stAt S res ws c (ydu (S.en c)) i).1=0) :
  S.runs res ws c=(List.range (i+1)).map fun j=>stAt S res ws c (ydu (S.en c)) j:=by
 unfold Sys.runs;rw[ybee S res ws c _ i hj hi h,List.range_succ_eq_map,List.map_cons,List.map_map];rfl
theorem ycfp{kind:Int}{b:Int × Int}(hb:b.1<=b.2)(h3:kind=3->b.1 <= -1 /\ -1<=b.2)(x:Int):b.1<=ydz kind b x/\ydz kind b x<=b.2:=by
 unfold ydz;split
 ·assumption
 ·split
  ·exact h3 (by assumption)
  ·split<;>omega
namespace Sh
theorem ybkc{p:ProgT}{g:Gr}(hg:yba g)(hp:p.ok=true)(hf:ysz p g=true){x:VarR}(hx:x ∈ p.vars)(v:Nat):(ybf g v x).1<=(ybf g v x).2/\(x.kind=3->(ybf g v x).1 <= -1 /\ -1<=(ybf g v x).2):=by
 have h1:=List.all_eq_true.1 hf x hx;have hp':=hp;unfold ProgT.ok at hp';simp only[Bool.and_eq_true,decide_eq_true_eq]at hp';have hxo:=ybff (List.all_eq_true.1 hp'.1.1.2 _ hx);rcases hxo.1 with h | h | h
 ·have e:ybf g v x=ybf g 0 x:=by unfold ybf;rw[if_pos h,if_pos h]
  rw[e];simp[h]at h1;exact⟨h1.1,fun q=>by omega⟩
 ·unfold ybf;rw[if_neg (by omega),if_pos h]
  exact⟨by decide,fun q=>by omega⟩
 ·unfold ybf;rw[if_neg (by omega),if_neg (by omega),if_pos h]
  exact⟨by simp only[];omega,fun _=>⟨by simp only[];omega,by simp only[];omega⟩⟩
theorem ybto{p:ProgT}{g:Gr}(hg:yba g)(hp:p.ok=true)(hf:ysz p g=true){v:Nat}{s:List Int}(hs:yex (p.vars.map (ybf g v)) s){a:Int}(ha:0<=a/\a<p.vars.length)(y:Int) :
  yex (p.vars.map (ybf g v)) (s.set a.toNat (ydz (p.vars.getD a.toNat default).kind (ybf g v (p.vars.getD a.toNat default)) y)):=by
 refine⟨by rw[List.length_set];exact hs.1,fun i b x hb hx=>?_⟩
 by_cases q:a.toNat=i
 ·subst q;have hlt:a.toNat<p.vars.length:=by omega
  rw[List.getElem?_map,List.getElem?_eq_getElem hlt]at hb;cases hb
  have hl:a.toNat<s.length:=by rw[hs.1,List.length_map];exact hlt
  rw[List.getElem?_set_self hl]at hx;cases hx
  rw[getD_at hlt];obtain⟨h1,h2⟩:=ybkc hg hp hf (List.getElem_mem hlt) v;exact ycfp h1 h2 y
 ·rw[List.getElem?_set_ne q]at hx;exact hs.2 i b x hb hx
theorem yvg{p:ProgT}{g:Gr}(hg:yba g)(hp:p.ok=true)(hf:ysz p g=true)(c:Conf)(v:Nat):∀ (sets:List (Int × Ex)) (s:List Int),(∀ a ∈ sets,0<=a.1/\a.1<p.vars.length)->yex (p.vars.map (ybf g v)) s->yex (p.vars.map (ybf g v)) (ymd p g c v s sets)
 | [],s,_,hs=>hs
 | a :: sets,s,ha,hs=>by
  show yex _ (ymd p g c v (s.set _ _) sets);exact yvg hg hp hf c v sets _ (fun x hx=>ha x (List.mem_cons_of_mem _ hx)) (ybto hg hp hf hs (ha a List.mem_cons_self) _)
theorem yod{p:ProgT}{g:Gr}(hg:yba g)(hp:p.ok=true)(hf:ysz p g=true){c:Conf}(hc:ych p g c=true)(s:Nat):ych p g (ylb p g c s)=true:=by
 have h:=(yep _ _ _).1 hc;refine(yep _ _ _).2 ⟨by rw[yjs];exact h.1,fun v st hst=>?_⟩
 have hv:v<c.length:=by
  have:=(List.getElem?_eq_some_iff.1 hst).1
  rwa [yjs]at this
 have e:st=(ylb p g c s).getD v []:=by simp[List.getD,hst]
 rw[yja p g c s hv]at e;have hold:=h.2 v (c.getD v []) (by rw[getD_at hv];exact List.getElem?_eq_getElem hv)
 rw[e];split
 ·unfold yuz;refine yvg hg hp hf c v _ _ (fun a ha=>?_) hold;have hp':=hp;unfold ProgT.ok at hp';simp only[Bool.and_eq_true,decide_eq_true_eq]at hp'
  by_cases hr:(ygf p g c v).toNat<p.rules.length
  ·rw[getD_at hr]at ha;have hok:=List.all_eq_true.1 hp'.2 _ (List.getElem_mem hr);unfold RuleT.ok at hok;simp only[Bool.and_eq_true,decide_eq_true_eq]at hok;have:=List.all_eq_true.1 hok.2 a ha;simp only[Bool.and_eq_true,decide_eq_true_eq]at this;exact this.1.1
  ·have:p.rules.getD (ygf p g c v).toNat default=default:=by simp[List.getD,List.getElem?_eq_none (Nat.le_of_not_lt hr)]
   rw[this]at ha;cases ha
 ·exact hold
theorem yob{p:ProgT}{g:Gr}(hg:yba g)(hp:p.ok=true){c:Conf}(hc:ych p g c=true):(∀ s ∈ c,0<s.length/\s.length<=1000)/\c.length<=1000:=by
 have h:=yhp hg hp hc;have hp':=hp;unfold ProgT.ok at hp';simp only[Bool.and_eq_true,decide_eq_true_eq]at hp';have:=hg.2.1;exact⟨fun s hs=>by have:=(h.row s hs).1;omega,by rw[h.len];omega⟩
theorem ybth(p:ProgT)(g:Gr)(c:Conf):ybn p g c<2 ^ g.ids.length:=yru _ _
end Sh
end Go.Proofs.YtpngeppkgoaimaaGreatDoor

namespace Go.Proofs.YtpngeppkgoaimaaGreatDoor
open Go
namespace Sh
open Ev Go.RowKit
set_option maxRecDepth 8000
def seeC:SV:=.fn 91 [] [.pt (201,0) 0 0,.pt (203,0) 0 0]
def seeX(cs:List Conf)(ks:List Cnt):Own:=[(201,.one (some ⟨30,true,1,1,fun _=>[.os (202,0) 0 cs.length true]⟩)),(202,.one (some ⟨35,false,1,cs.length,fun i=>[ybg (cs.getD i [])]⟩)),
 (203,.one (some ⟨31,true,1,1,fun _=>[.os (204,0) 0 ks.length true]⟩)),(204,.one (some ⟨46,false,5,ks.length,fun i=>cntV (ks.getD i default)⟩))]
def ymm:Own:=[(201,.one (some ⟨30,true,1,1,fun _=>[.a (.slice none 0 0)]⟩)),(203,.one (some ⟨31,true,1,1,fun _=>[.a (.slice none 0 0)]⟩))]
def TT:(Nat->Option ABlk)->Value->Prop:=fun _ _=>True
def yft(p:ProgT)(g:Gr):SV:=.ex TT (.rf (yeg p.raw g))
def yec(p:ProgT)(g:Gr)(net:List Nat)(kind:Int):List SV:=[yft p g,usV net,.i .i64 kind,.i .u32 (2 ^ g.ids.length - 1:Nat),seeC]
def ybug(p:ProgT)(g:Gr)(net:List Nat)(kind:Int)(ws:List Nat):Own:=[(205,.one (some ⟨106,true,5,1,fun _=>yec p g net kind⟩)),(206,.one (some ⟨25,true,1,1,fun _=>[usV ws]⟩))]
theorem gmr{α:Type}(f:Nat->α)(n k:Nat)(d:α)(h:k<n):((List.range n).map f).getD k d=f k:=by simp[List.getD,h]
def mapR{α:Type}(n:Nat)(f:Nat->α):List α:=(List.range n).map f
theorem gmR{α:Type}(f:Nat->α)(n k:Nat)(d:α)(h:k<n):(mapR n f).getD k d=f k:=gmr f n k d h
theorem yzq{α:Type}(n:Nat)(f:Nat->α):(mapR n f).length=n:=by simp[mapR]
theorem yblb{α β:Type}(n:Nat)(f:Nat->α)(h:α->β):(mapR n f).map h=mapR n fun k=>h (f k):=by simp[mapR,Function.comp_def]
theorem ybtb{α:Type}(f:Nat->α)(n:Nat)(x d:α)(hx:f n=x)(k:Nat)(h:k<n+1):(((List.range n).map f) ++ [x]).getD k d=f k:=by
 rw[<- hx,show[f n] = [n].map f from rfl,<- List.map_append,<- List.range_succ]
 exact gmr f (n+1) k d h
section
variable {Q1 Q2:(Nat->Option ABlk)->Value->Prop} {p:ProgT} {g:Gr}
theorem yblz(h:Checked Q1 Q2 p g){kind:Int}{net:List Nat}{res:Nat->Nat->Nat}(hd:DaemonOk kind net res){c:Conf}(hc:ych p g c=true){ws:List Nat}(hw:∀ k,ws.getD k 0<2 ^ 32)(hwl:ws.length<=4000) :
  Cm Tryz.prog 121 [(201,0),(203,0)] (ymm ++ ybug p g net kind ws) [.ag (yec p g net kind),ybg c,.i .i64 ws.length,.fn 122 [] [.pt (205,0) 0 0,.pt (206,0) 0 0]]
   fun r o=>(∃ l1 l2 c' k',r = .tp [.ag (usV l1 :: usV l2 :: ybg c' :: cntV k'),.i .i64 0])/\o=seeX ((ybk p g).runs res ws c |>.map (·.1)) ((ybk p g).runs res ws c |>.map (·.2)):=by
 refine ycgo [(201,0),(203,0)] [91] _ _ _ ?_;obtain⟨O2,hO2⟩:∃ O,seeX ((ybk p g).runs res ws c |>.map (·.1)) ((ybk p g).runs res ws c |>.map (·.2))=O:=⟨_,rfl⟩;rw[hO2];obtain⟨hr1,hr2⟩:=yob h.hg h.hp hc;have hcin:=yhp h.hg h.hp hc;have hC:=yxe c hr1 hr2;have hE:=ykd p h.hg h.hp hcin;have hX:SimL [yft p g,ybg c] [.rf (yeg p.raw g),ybg c]:=⟨ynf _ _,Sim.refl _,trivial⟩
 have hen:=ybth p g c;have hid:=h.hg.2.2.1;have h24:=h.hg.2.1;have h2n:2 ^ g.ids.length<=2 ^ 24:=Nat.pow_le_pow_right (by omega) (by omega)
 simp only[c121,yclw,ycwj,ycsu,ymm,ybug,yec,seeC,usV,yft,go_sem,Nat.reduceEqDiff,Nat.reduceAdd,Nat.reduceLT,Nat.reduceBEq,↓reduceIte,reduceCtorEq];refine hC.use ?_;simp only[thenO,ycup,clash,go_sem,Nat.reduceEqDiff,Nat.reduceAdd,Nat.reduceLeDiff,Nat.reduceBEq,↓reduceIte,reduceCtorEq];refine hE.useS ?_ ?_
 ·exact hX
 have ha:IntKind.wrap .u32 (((BitVec.ofInt (IntKind.bits .u32) (ybn p g c:Int)) &&& BitVec.ofInt (IntKind.bits .u32) ((2 ^ g.ids.length - 1:Nat):Int)).toNat:Int)=(ybn p g c:Int):=by
  have e:=u32_and (a:=ybn p g c) (b:=2 ^ g.ids.length - 1) (by omega) (by omega)
  rw[Nat.and_two_pow_sub_one_of_lt_two_pow hen]at e;exact e
 simp only[IntKind.bits]at ha;simp only[thenO,ycwl,clash,ha,go_sem,Nat.reduceEqDiff,Nat.reduceAdd,Nat.reduceLT,Nat.reduceBEq,↓reduceIte];have hB:=ybrp (e:=ybn p g c) (by omega)
 obtain⟨K0,hK0⟩:∃ K,ydu (ybn p g c)=K:=⟨_,rfl⟩;rw[hK0]at hB;refine hB.use ?_;simp only[ycop,cntV,go_sem,Nat.reduceEqDiff,Nat.reduceAdd,↓reduceIte,reduceCtorEq];have hS:=ybpm hr1 hr2 (ybn p g c) K0;simp only[cntV]at hS;refine callM_of hS [(1,201),(3,203)] 200 [1,2,3,4,8,9,10,11,12] [4,8,10,12,205,206] ?_ ?_
 ·simp only[yddd,to1,okN,famCln,yga,keepF,keepO,allQ,live,yg,go_sem,Nat.reduceEqDiff,Nat.reduceAdd,Nat.reduceBEq,↓reduceIte,reduceCtorEq]
 ·rintro r o' ⟨rfl,rfl⟩;simp only[seeO,thenM,ylw,nuF,nu,difN,keepF,keepO,Fam.ren,OB.ren,dim,yth,ykc,go_sem,Nat.reduceEqDiff,Nat.reduceAdd,Nat.reduceBEq,↓reduceIte,reduceCtorEq];simp only[ycob,ycnz,splice,go_sem,Nat.reduceEqDiff,Nat.reduceAdd,Nat.reduceLeDiff,Nat.reduceLT,Nat.reduceMul,↓reduceIte,reduceCtorEq]
  let st:Nat->Conf × Cnt:=stAt (ybk p g) res ws c K0
  let en:Nat->Nat:=fun i=>ybn p g (st i).1
  let ch:Nat->Nat:=fun i=>res (en i) (ws.getD i 0)
  refine ybd (σ:=Nat) (fun i=>⟨[(40,.i .i64 i),(39,.i .i64 ws.length),(1,ybg (st i).1),(3,.fn 122 [] [.pt (205,0) 0 0,.pt (206,0) 0 0]),(4,.pt (4,0) 0 0),(8,.pt (8,0) 0 0),(9,.i .i64 0),(10,.pt (10,0) 0 0),(11,.i .u32 (en i)),(12,.pt (12,0) 0 0)],
   [(4,.one (some ⟨106,true,5,1,fun _=>yec p g net kind⟩)),
    (8,.one (some ⟨110,true,8,1,fun _=>[.a (.slice none 0 0),.a (.slice none 0 0),.a (.slice none 0 0),.i .i64 0,.i .i64 0,.i .i64 0,.i .i64 0,.i .u32 0]⟩)),
    (10,.one (some ⟨110,true,8,1,fun _=>[.os (301,0) 0 i true,.os (302,0) 0 (i+1) true,.a (.slice none 0 0),.i .i64 0,.i .i64 0,.i .i64 0,.i .i64 0,.i .u32 0]⟩)),
    (301,.one (some ⟨44,false,1,i,fun j=>[.i .u32 (ch j)]⟩)),(302,.one (some ⟨44,false,1,i+1,fun j=>[.i .u32 (en j)]⟩)),
    (12,.one (some ⟨46,true,5,1,fun _=>cntV (st i).2⟩)),
    (201,.one (some ⟨30,true,1,1,fun _=>[.os (202,0) 0 (i+1) true]⟩)),(202,.one (some ⟨35,false,1,i+1,fun j=>[ybg (st j).1]⟩)),
    (203,.one (some ⟨31,true,1,1,fun _=>[.os (204,0) 0 (i+1) true]⟩)),(204,.one (some ⟨46,false,5,i+1,fun j=>cntV (st j).2⟩)),
    (205,.one (some ⟨106,true,5,1,fun _=>yec p g net kind⟩)),(206,.one (some ⟨25,true,1,1,fun _=>[usV ws]⟩))]⟩)
   (fun i=>i<=ws.length/\(∀ j,j<i->en j ≠ 0)/\ych p g (st i).1=true/\(st i).2.ok/\(st i).2.steps=i) (fun i=>ws.length - i) 0 ⟨Nat.zero_le _,fun j hj=>absurd hj (Nat.not_lt_zero j),hc,by show K0.ok;rw[<- hK0];exact ybsr (by omega),by show K0.steps=0;rw[<- hK0];rfl⟩ ?_ ?_
  ·refine ydi [(302,fun i=>(37,i))] [301] [] ?_;have st0:st 0=(c,K0):=rfl;have en0:en 0=ybn p g c:=rfl;simp only[yec,yft,seeC,usV,cntV,st0,en0,allQ,live,yg,ybb,Int.natCast_zero,go_sem,Nat.reduceEqDiff,Nat.reduceLeDiff,Nat.reduceBEq,↓reduceIte,reduceCtorEq];refine⟨fun i _=>⟨(301,0),rfl,?_⟩,?_⟩
   ·simp only[go_sem,go_sem,Nat.reduceEqDiff,↓reduceIte]
   refine⟨fun i hi=>?_,fun i hi=>?_,fun i hi=>?_⟩
   ·obtain rfl:i=0:=by omega
    simp only[Nat.zero_mul];simp only[en0,live,yg,go_sem,reduceCtorEq]
   ·obtain rfl:i=0:=by omega
    simp only[st0,List.getD_cons_zero,yg,go_sem]
   ·obtain rfl:i=0:=by omega
    simp only[st0,List.getD_cons_zero,go_sem]
  ·rintro i ⟨hi,hj,hci,hko,hks⟩;obtain⟨cr1,cr2⟩:=yob h.hg h.hp hci;have cin:=yhp h.hg h.hp hci;have eni:=ybth p g (st i).1
   have fin:(i=ws.length\/en i=0)->(ybk p g).runs res ws c=mapR (i+1) st:=fun hq=>by
    have e:=ybpc (ybk p g) res ws c i;rw[show(ybk p g).en c=ybn p g c from rfl,hK0]at e
    exact e hj hi hq
   simp only[ycrg,yclb,ybpr,yec,yft,seeC,usV,cntV,go_sem,Nat.reduceEqDiff,Nat.reduceAdd,Nat.reduceLeDiff,Nat.reduceBEq,↓reduceIte,reduceCtorEq];refine⟨fun hlt=>.inl ?_,fun hlt=>?_⟩
   ·have hi':i<ws.length:=by omega
    by_cases h0:en i=0
    ·obtain⟨x,hF⟩:=ybgx hd (.fn 91 [] [.rf [.sl 1 (i+1) fun j=>[ybg (st j).1]],.rf [.sl 5 (i+1) fun j=>cntV (st j).2]]) (.i .u32 (2 ^ g.ids.length - 1:Nat)) (yft p g) hw hi';simp only[yft,usV,cntV]at hF;simp only[h0,Int.natCast_zero];refine hF.use ?_;simp only[thenO,ybfy,ybhg,ybfc,go_sem,Nat.reduceEqDiff,Nat.reduceAdd,Nat.reduceLeDiff,↓reduceIte,reduceCtorEq];refine⟨by decide,?_⟩
     simp only[ygt,go_sem];refine⟨.tp [.ag (usV (mapR i ch) :: usV (mapR (i+1) en) :: ybg (st i).1 :: cntV (st i).2),.i .i64 0],O2,?_,?_,⟨_,_,_,_,rfl⟩,rfl⟩
     ·subst hO2;rw[fin (.inr h0)];refine ydi [] [] [(301,0),(302,0)] ?_;simp only[seeX,usV,cntV,yblb,yzq,allQ,live,yg,ybb,go_sem,Nat.reduceEqDiff,↓reduceIte,reduceCtorEq];refine⟨ycrd ⟨ytx ⟨sim_sl fun q hq=>by rw[gmR _ _ _ _ hq],sim_sl fun q hq=>by rw[gmR _ _ _ _ hq],Sim.refl _,Sim.refl _,Sim.refl _,Sim.refl _,Sim.refl _,Sim.refl _,trivial⟩,Sim.refl _,trivial⟩,fun q hq=>?_,fun q hq=>?_⟩
      ·rw[gmR _ _ _ _ hq];exact Sim.refl _
      ·rw[gmR _ _ _ _ hq];exact⟨rfl,rfl,rfl,rfl,rfl⟩
     ·subst hO2;simp only[seeX,usV,cntV,famCln,yga,allQ,live,go_sem,Nat.reduceEqDiff,↓reduceIte]
    ·have hen24:en i<2 ^ 24:=by show ybn p g (st i).1<_;omega
     have hF:=ybgq hd (.fn 91 [] [.rf [.sl 1 (i+1) fun j=>[ybg (st j).1]],.rf [.sl 5 (i+1) fun j=>cntV (st j).2]]) (.i .u32 (2 ^ g.ids.length - 1:Nat)) (yft p g) hw hen24 h0 hi';obtain⟨hch0,hchs⟩:=hd.sub (en i) (ws.getD i 0) h0 hen24;have hP:=hd.permits (en i) (ws.getD i 0) hen24 h0 (hw i);have hch24:ch i<2 ^ 24:=ybvr hchs hen24;have hSt:=ycel p h.hg h.hp cin (s:=ch i) (by omega) hchs
     obtain⟨d,hdd⟩:∃ d,ylb p g (st i).1 (ch i)=d:=⟨_,rfl⟩;rw[hdd]at hSt;have hcd:ych p g d=true:=by rw[<- hdd];exact yod h.hg h.hp h.hf hci (ch i)
     simp only[yft,usV,cntV]at hF hP;refine hF.use ?_;simp only[thenO,ybfy,ybwz,go_sem,Nat.reduceEqDiff,Nat.reduceAdd,Nat.reduceLeDiff,Nat.reduceBEq,↓reduceIte,reduceCtorEq];refine hP.use ?_;simp only[thenO,ybuh,go_sem,Nat.reduceEqDiff,Nat.reduceAdd,Nat.reduceLeDiff,Nat.reduceBEq,↓reduceIte,reduceCtorEq];refine hSt.useS ?_ ?_
     ·exact⟨ynf _ _,Sim.refl _,Sim.refl _,trivial⟩
     obtain⟨dr1,dr2⟩:=yob h.hg h.hp hcd;have dcin:=yhp h.hg h.hp hcd;have hE2:=ykd p h.hg h.hp dcin;have hen2:=ybth p g d;obtain⟨e2,he2⟩:∃ e,ybn p g d=e:=⟨_,rfl⟩;rw[he2]at hE2 hen2
     have ha2:IntKind.wrap .u32 (((BitVec.ofInt (IntKind.bits .u32) (e2:Int)) &&& BitVec.ofInt (IntKind.bits .u32) ((2 ^ g.ids.length - 1:Nat):Int)).toNat:Int)=(e2:Int):=by
      have e:=u32_and (a:=e2) (b:=2 ^ g.ids.length - 1) (by omega) (by omega)
      rw[Nat.and_two_pow_sub_one_of_lt_two_pow hen2]at e;exact e
     simp only[IntKind.bits]at ha2;simp only[thenO,ybyr,clash,go_sem,Nat.reduceEqDiff,Nat.reduceAdd,Nat.reduceLeDiff,Nat.reduceBEq,↓reduceIte,reduceCtorEq];refine hE2.useS ?_ ?_
     ·exact⟨ynf _ _,Sim.refl _,trivial⟩
     have hA:=ydat hko (by omega) hch0 hch24 (e:=e2) (by omega)
     obtain⟨K2,hK2⟩:∃ K,addP (st i).2 (ch i) e2=K:=⟨_,rfl⟩;rw[hK2]at hA;simp only[cntV]at hA;simp only[thenO,ybwo,clash,ha2,go_sem,Nat.reduceEqDiff,Nat.reduceAdd,Nat.reduceBEq,↓reduceIte,reduceCtorEq];refine hA.use ?_;simp only[ybvw,go_sem,Nat.reduceEqDiff,Nat.reduceAdd,↓reduceIte,reduceCtorEq]
     let cs:List Conf:=(List.range (i+1)).map fun j=>(st j).1
     let ks:List Cnt:=(List.range (i+1)).map fun j=>(st j).2
     have lc:cs.length=i+1:=by simp[cs]
     have lk:ks.length=i+1:=by simp[ks]
     have hS2:=ycdq cs ks (by omega) (by omega) dr1 dr2 e2 K2
     simp only[cntV]at hS2;refine callM_of hS2 [(1,201),(2,202),(3,203),(4,204)] 400 [40,39,1,3,4,8,9,10,11,12,14] [4,8,10,301,302,12,205,206] ?_ ?_
     ·simp only[seeO,lc,lk,cntV,to1,okN,famCln,yga,keepF,keepO,allQ,live,yg,ybb,go_sem,Nat.reduceEqDiff,Nat.reduceAdd,Nat.reduceBEq,↓reduceIte,reduceCtorEq];refine⟨fun q hq=>?_,fun q hq=>?_⟩
      ·simp only[cs,gmr _ _ _ _ hq];exact Sim.refl _
      ·simp only[ks,gmr _ _ _ _ hq];exact⟨trivial,trivial,trivial,trivial,trivial⟩
     ·rintro r o' ⟨rfl,rfl⟩;simp only[seeO,cntV,List.length_append,lc,lk,thenM,ylw,nuF,nu,difN,keepF,keepO,Fam.ren,OB.ren,dim,yhy,yth,ykc,go_sem,Nat.reduceEqDiff,Nat.reduceBEq,↓reduceIte];simp only[ybwm,ybpz,ybqt,splice,go_sem,Nat.reduceEqDiff,Nat.reduceAdd,Nat.reduceLeDiff,Nat.reduceLT,↓reduceIte,reduceCtorEq]
      have hst:st (i+1)=(d,K2):=by
       show stAt (ybk p g) res ws c K0 (i+1)=_;rw[ybdf];show(ylb p g (st i).1 (ch i),addP (st i).2 (ch i) (ybn p g (ylb p g (st i).1 (ch i))))=_;rw[hdd,he2,hK2]
      have hen':en (i+1)=e2:=by
       show ybn p g (st (i+1)).1=_;rw[hst];exact he2
      refine⟨⟨by omega,by omega⟩,⟨by omega,by omega⟩,ikw (by omega) (by omega),?_⟩
      refine yj (i+1) ⟨by omega,fun j hj'=>?_,by rw[hst];exact hcd,by rw[hst,<- hK2];exact yddz hko hch24 hch0 (by omega),by rw[hst,<- hK2];show(st i).2.steps+1=i+1;omega⟩ (by omega) ?_
      ·by_cases q:j=i
       ·rw[q];exact h0
       ·exact hj j (by omega)
      refine ydi [(301,fun i=>(90,i)),(302,fun i=>(96,i))] [] [] ?_;simp only[hst,hen',allQ,live,yg,ybb,go_sem,Nat.reduceEqDiff,Nat.reduceLeDiff,↓reduceIte,reduceCtorEq];have hcs:∀ k,k<i+1+1->(cs ++ [d]).getD k []=(st k).1:=ybtb (fun j=>(st j).1) (i+1) d [] (by rw[hst])
      have hksx:∀ k,k<i+1+1->(ks ++ [K2]).getD k default=(st k).2:=ybtb (fun j=>(st j).2) (i+1) K2 default (by rw[hst])
      refine⟨by omega,fun q hq=>?_,fun q hq=>?_,fun q hq=>?_,fun q hq=>?_⟩
      ·by_cases q1:q<i
       ·simp only[if_pos q1];simp only[go_sem,live,yg,go_sem,reduceCtorEq]
       ·obtain rfl:q=i:=by omega
        simp only[if_neg q1,Nat.sub_self,Nat.zero_mul];simp only[ch,live,yg,go_sem,reduceCtorEq]
      ·by_cases q1:q<i+1
       ·simp only[if_pos q1];simp only[go_sem,live,yg,go_sem,reduceCtorEq]
       ·obtain rfl:q=i+1:=by omega
        simp only[if_neg q1,Nat.sub_self,Nat.zero_mul];simp only[hen',live,yg,go_sem,reduceCtorEq]
      ·rw[hcs q hq];exact Sim.refl _
      ·rw[hksx q hq];exact⟨rfl,rfl,rfl,rfl,rfl⟩
   ·obtain rfl:i=ws.length:=by omega
    simp only[ybhg,ybfc,go_sem,Nat.reduceEqDiff,Nat.reduceAdd,Nat.reduceLeDiff,↓reduceIte,reduceCtorEq];refine⟨by decide,?_⟩
    simp only[ygt,go_sem];refine⟨.tp [.ag (usV (mapR ws.length ch) :: usV (mapR (ws.length+1) en) :: ybg (st ws.length).1 :: cntV (st ws.length).2),.i .i64 0],O2,?_,?_,⟨_,_,_,_,rfl⟩,rfl⟩
    ·subst hO2;rw[fin (.inl rfl)];refine ydi [] [] [(301,0),(302,0)] ?_;simp only[seeX,usV,cntV,yblb,yzq,allQ,live,yg,ybb,go_sem,Nat.reduceEqDiff,↓reduceIte,reduceCtorEq];refine⟨ycrd ⟨ytx ⟨sim_sl fun q hq=>by rw[gmR _ _ _ _ hq],sim_sl fun q hq=>by rw[gmR _ _ _ _ hq],Sim.refl _,Sim.refl _,Sim.refl _,Sim.refl _,Sim.refl _,Sim.refl _,trivial⟩,Sim.refl _,trivial⟩,fun q hq=>?_,fun q hq=>?_⟩
     ·rw[gmR _ _ _ _ hq];exact Sim.refl _
     ·rw[gmR _ _ _ _ hq];exact⟨rfl,rfl,rfl,rfl,rfl⟩
    ·subst hO2;simp only[seeX,usV,cntV,famCln,yga,allQ,live,go_sem,Nat.reduceEqDiff,↓reduceIte]
end
end Sh
end Go.Proofs.YtpngeppkgoaimaaGreatDoor

namespace Go.Proofs.YtpngeppkgoaimaaGreatDoor
open Go
namespace Sh
open Ev Go.RowKit
set_option maxRecDepth 8000
theorem Returns.exT{P:Program}{g:FuncId}{args:List SV}{r:SV}(h:Returns P g args r):Returns P g args (.ex TT r):=fun G m us h1 h2 h3=>by
 obtain⟨v,m',x,a,b,c,d,e⟩:=h G m us h1 h2 h3;exact⟨v,m',.ex TT r,a,b,c,rfl,.ex trivial (fun _ _ _ _ _=>trivial) (d ▸ e)⟩
section
variable {Q1 Q2:(Nat->Option ABlk)->Value->Prop} {p:ProgT} {g:Gr}
theorem ybyj(h:Checked Q1 Q2 p g){kind:Int}(hk:1<=kind/\kind<=4){c:Conf}(hc:ych p g c=true){len:Nat}(hl:len<=4096):Returns Tryz.prog 89 [.ag (ycn Q1 Q2 p.raw),grV g,.i .i64 kind,ybg c,.i .i64 len] (.i .i64 0):=by
 refine Returns.of (ydib _ _ ?_);have hC:=ybdj h c;rw[if_pos hc]at hC;have hD:=ybos kind;rw[decide_eq_true hk.1,decide_eq_true hk.2]at hD;have f1:decide ((len:Int) > 4096)=false:=by simp;omega
 simp only[ycn,grV]at hC;simp only[c89,ydhc,ydvp,ycn,grV,go_sem,Nat.reduceEqDiff,Nat.reduceAdd,Nat.reduceLT,↓reduceIte,reduceCtorEq];refine hC.use ?_;simp only[thenO,ydmh,ydtt,Int.reduceBNe,go_sem,Nat.reduceEqDiff,Nat.reduceAdd,↓reduceIte,reduceCtorEq];refine hD.use ?_;simp only[ydmq,ydjh,f1,ybb,Bool.and_self,go_sem,Nat.reduceEqDiff,Nat.reduceAdd,↓reduceIte,reduceCtorEq]
theorem yboq(h:Checked Q1 Q2 p g):Returns Tryz.prog 64 [.ag (ymx p.raw),grV g] (yft p g):=by
 have hp':=h.hp;unfold ProgT.ok at hp';simp only[Bool.and_eq_true,decide_eq_true_eq]at hp';exact(yqk p.raw h.hg hp'.1.1.2 hp'.1.1.1.2).exT
theorem ybcd(h:Checked Q1 Q2 p g)(kind:Int):Cm Tryz.prog 90 [(201,0),(203,0)] ymm [.ag (ycn Q1 Q2 p.raw),grV g,.i .i64 kind,seeC] fun r o=>r = .ag (yec p g (g.ports.map netP) kind)/\o=ymm:=by
 refine ycyo [(201,0),(203,0)] [] _ _ _ ?_;have hM:=yboq h;have hN:=yblv h.hg;have hA:=yday h.hg;simp only[grV]at hM hN hA;simp only[c90,ydub,ydlw,ycn,grV,seeC,ymm,clash,go_sem,Nat.reduceEqDiff,Nat.reduceAdd,Nat.reduceLT,↓reduceIte,reduceCtorEq];refine hM.useS ?_ ?_
 ·exact⟨ytx ⟨Sim.refl _,ynf _ _,ynf _ _,trivial⟩,Sim.refl _,trivial⟩
 simp only[usV,yft]at hN ⊢;simp only[thenO,clash,go_sem,Nat.reduceEqDiff,Nat.reduceAdd,Nat.reduceLeDiff,↓reduceIte,reduceCtorEq];refine hN.use ?_;simp only[go_sem,Nat.reduceAdd,Nat.reduceLeDiff,↓reduceIte];refine⟨by decide,hA.use ?_⟩
 simp only[ygt,go_sem,Nat.reduceEqDiff,Nat.reduceAdd,↓reduceIte];refine⟨by decide,by decide,.ag (yec p g (g.ports.map netP) kind),ymm,?_,?_,rfl,rfl⟩
 ·refine ydi [] [] [] ?_;simp only[yec,yft,usV,seeC,ymm,allQ,live,yg,go_sem,Nat.reduceEqDiff,↓reduceIte,reduceCtorEq]
 ·simp only[yec,yft,usV,seeC,ymm,famCln,yga,allQ,live,go_sem,Nat.reduceEqDiff,↓reduceIte]
theorem ybrg(h:Checked Q1 Q2 p g){kind:Int}{net:List Nat}{res:Nat->Nat->Nat}(hd:DaemonOk kind net res){c:Conf}(hc:ych p g c=true){ws:List Nat}(hw:∀ k,ws.getD k 0<2 ^ 32)(hwl:ws.length<=4000) :
  Cm Tryz.prog 93 [(201,0),(203,0)] ymm [.ag (yec p g net kind),ybg c,usV ws]
   fun r o=>(∃ l1 l2 c' k',r = .tp [.ag (usV l1 :: usV l2 :: ybg c' :: cntV k'),.i .i64 0])/\o=seeX ((ybk p g).runs res ws c |>.map (·.1)) ((ybk p g).runs res ws c |>.map (·.2)):=by
 refine ydbi [(201,0),(203,0)] [121] _ _ _ ?_;have hX:=yblz h hd hc hw hwl
 generalize ((ybk p g).runs res ws c).map (·.1)=CS at hX ⊢
 generalize ((ybk p g).runs res ws c).map (·.2)=KS at hX ⊢
 simp only[c93,ydkf,ydts,ymm,yec,yft,usV,seeC,go_sem,Nat.reduceEqDiff,Nat.reduceAdd,Nat.reduceLT,↓reduceIte,reduceCtorEq];refine callM_of hX [(201,201),(203,203),(205,3),(206,5)] 0 [6,7] [6] ?_ ?_
 ·simp only[ymm,ybug,yec,yft,usV,seeC,List.cons_append,List.nil_append,to1,okN,famCln,yga,keepF,keepO,allQ,live,yg,go_sem,Nat.reduceEqDiff,Nat.reduceAdd,Nat.reduceLeDiff,Nat.reduceBEq,↓reduceIte,reduceCtorEq]
 ·rintro r o' ⟨⟨l1,l2,c',k',rfl⟩,rfl⟩;simp only[seeX,usV,cntV,thenM,ylw,nuF,nu,difN,keepF,keepO,Fam.ren,OB.ren,dim,yhy,ybdt,yto,yth,ykc,go_sem,Nat.reduceEqDiff,Nat.reduceAdd,Nat.reduceBEq,↓reduceIte,reduceCtorEq];simp only[ygt,go_sem];refine⟨.tp [.ag (usV l1 :: usV l2 :: ybg c' :: cntV k'),.i .i64 0],seeX CS KS,?_,?_,⟨l1,l2,c',k',rfl⟩,rfl⟩
  ·refine ydi [] [] [] ?_;simp only[seeX,usV,cntV,allQ,live,yg,go_sem,Nat.reduceEqDiff,↓reduceIte,reduceCtorEq]
  ·simp only[seeX,usV,cntV,famCln,yga,allQ,live,go_sem,Nat.reduceEqDiff,↓reduceIte]
def ydg(l:List Conf):SV:=.sl 1 l.length (fun i=>[ybg (l.getD i [])])
def ydq(l:List Cnt):SV:=.sl 5 l.length (fun i=>cntV (l.getD i default))
theorem ybxb(h:Checked Q1 Q2 p g){kind:Int}(hk:1<=kind/\kind<=4){res:Nat->Nat->Nat}(hd:DaemonOk kind (g.ports.map netP) res){c:Conf}(hc:ych p g c=true){ws:List Nat}(hw:∀ k,ws.getD k 0<2 ^ 32)(hwl:ws.length<=4000) :
  Returns Tryz.prog 49 [.ag (ycn Q1 Q2 p.raw),grV g,.i .i64 kind,ybg c,usV ws] (.tp [ydg (((ybk p g).runs res ws c).map (·.1)),ydq (((ybk p g).runs res ws c).map (·.2)),.i .i64 0]):=by
 refine Returns.of (ydbe [90,93] _ _ ?_);have hC:=ybyj h hk hc (len:=ws.length) (by omega)
 have hN:=ybcd h kind;have hX:=ybrg h hd hc hw hwl
 generalize ((ybk p g).runs res ws c).map (·.1)=CS at hX ⊢
 generalize ((ybk p g).runs res ws c).map (·.2)=KS at hX ⊢
 simp only[ycn,grV]at hC;simp only[c49,ydhw,ydmz,ycn,grV,usV,go_sem,Nat.reduceEqDiff,Nat.reduceAdd,Nat.reduceLT,Nat.reduceBEq,↓reduceIte,reduceCtorEq];refine hC.use ?_;simp only[thenO,ydge,ydql,ydga,ydgn,Int.reduceBNe,go_sem,Nat.reduceEqDiff,Nat.reduceAdd,Nat.reduceLT,↓reduceIte,reduceCtorEq];refine callM_of hN [(201,14),(203,15)] 0 [3,4,14,15] [] ?_ ?_
 ·simp only[ymm,seeC,ycn,grV,to1,okN,famCln,yga,keepF,keepO,allQ,live,yg,go_sem,Nat.reduceEqDiff,Nat.reduceAdd,↓reduceIte,reduceCtorEq]
 rintro r o' ⟨rfl,rfl⟩;simp only[ymm,yec,yft,usV,seeC,thenM,ylw,nuF,nu,difN,keepF,keepO,Fam.ren,OB.ren,dim,yhy,ydeo,ybdt,ycpk,yto,ycjb,ycmb,go_sem,Nat.reduceEqDiff,Nat.reduceAdd,Nat.reduceLT,Nat.reduceBEq,↓reduceIte,reduceCtorEq];simp only[ydkj,go_sem,Nat.reduceEqDiff,Nat.reduceAdd,Nat.reduceBEq,↓reduceIte,reduceCtorEq];simp only[yec,yft,usV,seeC]at hX;refine callM_of hX [(201,14),(203,15)] 0 [14,15] [] ?_ ?_
 ·simp only[ymm,to1,okN,famCln,yga,keepF,keepO,allQ,live,yg,go_sem,Nat.reduceEqDiff,Nat.reduceAdd,↓reduceIte,reduceCtorEq]
 rintro r o' ⟨⟨l1,l2,c',k',rfl⟩,rfl⟩;simp only[seeX,cntV,thenM,ylw,nuF,nu,difN,keepF,keepO,Fam.ren,OB.ren,dim,yhy,ybdt,yto,yth,ykc,go_sem,Nat.reduceEqDiff,Nat.reduceAdd,Nat.reduceLT,Nat.reduceBEq,↓reduceIte,reduceCtorEq];simp only[ydux,ycqw,clash,Int.reduceBNe,ydg,ydq,go_sem,Nat.reduceEqDiff,Nat.reduceAdd,↓reduceIte,reduceCtorEq];exact Sim.refl _
end
end Sh
end Go.Proofs.YtpngeppkgoaimaaGreatDoor

namespace Go.Proofs.YtpngeppkgoaimaaGreatDoor
open Go
def yeu(v m:Int):Int:=if m<1 then 0 else v % m
def atP(l:List Int)(i:Nat):Int:=l.getD i 0
theorem ydk{v m:Int}(h:1<=m):0<=yeu v m/\yeu v m<m:=by
 unfold yeu;rw[if_neg (by omega)]
 exact⟨Int.emod_nonneg _ (by omega),Int.emod_lt_of_pos _ (by omega)⟩
namespace Sh
open Ev Go.RowKit
set_option maxRecDepth 8000
theorem yblj{v m:Int}(h:1<=m):(if v.tmod m<0 then v.tmod m+m else v.tmod m)=v % m:=by
 have h1:=Int.emod_add_mul_ediv v m;have h2:=Int.emod_nonneg v (show m ≠ 0 by omega)
 have h3:=Int.emod_lt_of_pos v (show 0<m by omega)
 have h4:=Int.tmod_eq_emod (a:=v) (b:=m);have h5:(m.natAbs:Int)=m:=by omega
 rw[h4]
 by_cases q:0<=v\/m ∣ v
 ·simp only[if_pos q,Int.natCast_zero,Int.sub_zero];rw[if_neg (by omega)]
 ·simp only[if_neg q,h5];rw[if_pos (by omega)]
  omega
theorem ydj(v m:Int)(hm:m<=4611686018427387904)(hv:inK .i64 v):Returns Tryz.prog 44 [.i .i64 v,.i .i64 m] (.i .i64 (yeu v m)):=by
 refine Returns.of (ydmm _ _ ?_);simp only[c44,ydqh,ydry,ydjf,ydic,ydsp,ydsq,ydnh,ybb,go_sem,Nat.reduceEqDiff,Nat.reduceAdd,↓reduceIte,reduceCtorEq];unfold yeu;refine⟨fun h=>by rw[if_pos h],fun h=>⟨by omega,fun h2=>?_,fun h2=>?_⟩⟩
 ·have h3:=yblj (v:=v) (show 1<=m by omega)
  rw[if_pos h2]at h3;rw[if_neg h,h3];have h4:=Int.emod_nonneg v (show m ≠ 0 by omega)
  have h5:=Int.emod_lt_of_pos v (show 0<m by omega)
  exact⟨ikw (by omega) (by omega),rfl⟩
 ·have h3:=yblj (v:=v) (show 1<=m by omega)
  rw[if_neg h2]at h3;rw[if_neg h,h3]
theorem at_ret(l:List Int)(i:Nat):Returns Tryz.prog 50 [yu l,.i .i64 i] (.i .i64 (atP l i)):=by
 refine Returns.of (ydvv _ _ ?_);simp only[c50,ydsv,ydoj,ydvw,ydrl,yu,ybb,go_sem,Nat.reduceEqDiff,Nat.reduceAdd,↓reduceIte,reduceCtorEq];exact⟨fun h=>⟨by omega,rfl⟩,fun h=>by unfold atP;rw[List.getD,List.getElem?_eq_none (by omega)];rfl⟩
theorem wrap32(z:Int):0<=IntKind.wrap .u32 z/\IntKind.wrap .u32 z<2 ^ 32:=by
 unfold IntKind.wrap;simp only[IntKind.signed,IntKind.bits];exact⟨Int.emod_nonneg _ (by decide),Int.emod_lt_of_pos _ (by decide)⟩
theorem yta{α:Type}(l:List α)(x d:α)(i:Nat):(l ++ [x]).getD i d=if i<l.length then l.getD i d else if i=l.length then x else d:=by
 by_cases h:i<l.length
 ·simp[List.getD,List.getElem?_append_left h,h]
 ·by_cases e:i=l.length
  ·subst e;simp[List.getD]
  ·rw[if_neg h,if_neg e,List.getD,List.getElem?_eq_none (by simp;omega)]
   rfl
theorem ygo(l:List Nat)(hb:∀ k,l.getD k 0<2 ^ 32)(n:Nat)(hn:n<=1000):Ct Tryz.prog 20 [usV l,.i .i64 n] fun r=>∃ ws:List Nat,ws.length=n/\(∀ k,ws.getD k 0<2 ^ 32)/\Sim r (usV ws):=by
 refine ydvj _ _ ?_;simp only[c20,ydhl,ydqv,ydox,usV,go_sem,↓reduceIte];refine ybd (σ:=List Nat) (fun ws=>⟨[(6,.i .i64 ws.length),(1,.i .i64 n),(0,usV l),(5,.os (100,0) 0 ws.length true)],[(100,.one (some ⟨44,false,1,ws.length,fun k=>[.i .u32 (ws.getD k 0:Nat)]⟩))]⟩) (fun ws=>ws.length<=n /\ ∀ k,ws.getD k 0<2 ^ 32) (fun ws=>n - ws.length) [] ⟨Nat.zero_le _,fun k=>by simp⟩ ?_ ?_
 ·refine yh [] [100] [] ?_;simp only[usV,allQ,live,yg,Int.natCast_zero,go_sem,Nat.reduceEqDiff,↓reduceIte,reduceCtorEq];exact⟨(100,0),rfl,rfl,rfl⟩
 ·rintro ws ⟨h1,h2⟩;simp only[ydpd,ydiz,usV,go_sem,Nat.reduceEqDiff,Nat.reduceAdd,↓reduceIte,reduceCtorEq];refine⟨fun hlt=>⟨fun h0=>?_,fun h0=>?_⟩,fun hlt=>?_⟩
  ·simp only[ydco,ydpa,splice,go_sem,Nat.reduceEqDiff,Nat.reduceAdd,Nat.reduceLeDiff,Nat.reduceLT,↓reduceIte,reduceCtorEq];refine⟨⟨by omega,by omega⟩,ikw (by omega) (by omega),?_⟩
   refine yj (ws ++ [4294967295]) ⟨by simp;omega,fun k=>?_⟩ (by simp;omega) ?_
   ·rw[yta];split
    ·exact h2 k
    ·split<;>decide
   refine yh [(100,fun i=>(19,i))] [] [] ?_;simp only[List.length_append,allQ,live,yg,ybb,go_sem,Nat.reduceEqDiff,↓reduceIte,reduceCtorEq];refine⟨by omega,fun i hi=>?_⟩
   rw[yta]
   by_cases q:i<ws.length
   ·simp only[if_pos q];simp only[live,yg,go_sem,reduceCtorEq]
   ·obtain rfl:i=ws.length:=by omega
    simp only[if_neg q,Nat.sub_self,Nat.zero_mul];simp only[live,ybb,go_sem,↓reduceIte,reduceCtorEq];rfl
  ·simp only[ydrd,ydiq,clash,go_sem,Nat.reduceEqDiff,Nat.reduceAdd,↓reduceIte,reduceCtorEq];have hl0:0<l.length:=by omega
   have t1:(ws.length:Int).tmod (l.length:Int)=((ws.length % l.length:Nat):Int):=(Int.ofNat_tmod _ _).symm;have t2:(ws.length:Int).tdiv (l.length:Int)=((ws.length / l.length:Nat):Int):=(Int.ofNat_tdiv _ _).symm;have t3:((ws.length / l.length:Nat):Int).tmod 24=((ws.length / l.length % 24:Nat):Int):=(Int.ofNat_tmod _ 24).symm;have hlt1:=Nat.mod_lt ws.length hl0;have hle1:=Nat.div_le_self ws.length l.length
   obtain⟨D,hD⟩:∃ D,ws.length / l.length=D:=⟨_,rfl⟩;rw[hD]at t2 t3 hle1;obtain⟨K,hK⟩:∃ K,D % 24=K:=⟨_,rfl⟩;have hK24:K<24:=by rw[<- hK];exact Nat.mod_lt _ (by decide)
   have t4:IntKind.wrap .u64 (K:Int)=K:=by unfold IntKind.wrap;simp[IntKind.bits,IntKind.signed];omega
   simp only[t1,t2,t3,hK,t4]
   generalize IntKind.wrap .u32 _=A
   refine⟨by omega,⟨by omega,by omega⟩,⟨by omega,ikw (by omega) (by omega)⟩,by decide,?_⟩
   simp only[ydco,ydvy,splice,go_sem,Nat.reduceEqDiff,Nat.reduceAdd,Nat.reduceLeDiff,Nat.reduceLT,↓reduceIte,reduceCtorEq]
   generalize hZ:IntKind.wrap .u32 ((BitVec.toNat _:Nat):Int)=Z
   have hz:0<=Z/\Z<2 ^ 32:=by rw[<- hZ];exact wrap32 _
   obtain⟨z,rfl⟩:∃ z:Nat,Z=z:=⟨Z.toNat,by omega⟩
   refine⟨⟨by omega,by show _<((32:Nat):Int);omega⟩,⟨by simp[IntKind.min,IntKind.signed];omega,by simp[IntKind.max,IntKind.bits,IntKind.signed];omega⟩,⟨by omega,by show _<((32:Nat):Int);omega⟩,⟨by omega,by omega⟩,ikw (by omega) (by omega),?_⟩
   refine yj (ws ++ [z]) ⟨by simp;omega,fun k=>?_⟩ (by simp;omega) ?_
   ·rw[yta];split
    ·exact h2 k
    ·split<;>omega
   refine yh [(100,fun i=>(46,i))] [] [] ?_;simp only[List.length_append,allQ,live,yg,ybb,go_sem,Nat.reduceEqDiff,↓reduceIte,reduceCtorEq];refine⟨by omega,fun i hi=>?_⟩
   rw[yta]
   by_cases q:i<ws.length
   ·simp only[if_pos q];simp only[live,yg,go_sem,reduceCtorEq]
   ·obtain rfl:i=ws.length:=by omega
    simp only[if_neg q,Nat.sub_self,Nat.zero_mul];simp only[live,yg,go_sem,↓reduceIte,reduceCtorEq]
  ·simp only[ycxe,go_sem,Nat.reduceEqDiff,Nat.reduceAdd,↓reduceIte,reduceCtorEq];exact⟨ws,by omega,h2,Sim.refl _⟩
end Sh
end Go.Proofs.YtpngeppkgoaimaaGreatDoor

namespace Go.Proofs.YtpngeppkgoaimaaGreatDoor
open Go
namespace Sh
open Ev Go.RowKit
set_option maxRecDepth 8000
def yqz(l:List Int)(k:Nat):Int:=(l.take k).foldl max 0
theorem ycek{l:List Int}(h:∀ x ∈ l,0<=x/\x<=255):∀ k,0<=yqz l k/\yqz l k<=255:=by
 intro k;unfold yqz
 have:∀ (l:List Int) (a:Int),(∀ x ∈ l,0<=x/\x<=255)->0<=a/\a<=255->0<=l.foldl max a/\l.foldl max a<=255:=by
  intro l
  induction l with
  | nil=>intro a _ h;exact h
  | cons x l ih=>intro a hl ha;exact ih _ (fun y hy=>hl y (List.mem_cons_of_mem _ hy)) (by have:=hl x List.mem_cons_self;omega)
 exact this _ 0 (fun x hx=>h x (List.mem_of_mem_take hx)) (by omega)
theorem ybom{l:List Int}{k:Nat}(hk:k<l.length):yqz l (k+1)=max (yqz l k) (l.getD k 0):=by
 unfold yqz;rw[List.take_succ_eq_append_getElem hk,List.foldl_append,getD_at hk];rfl
theorem yty{l:List Int}(h:∀ x ∈ l,0<=x/\x<=255)(hl:0<l.length):yqz l l.length=maxI l:=by
 unfold yqz;rw[List.take_length];exact(yro hl fun x hx=>(h x hx).1).symm
theorem yot{vars:List VarR}{b:VarR->Int × Int}{L:List Int}(h:yex ((vars.take L.length).map b) L)(hl:L.length<vars.length){y:Int}(hy:(b (vars.getD L.length default)).1<=y/\y<=(b (vars.getD L.length default)).2):yex ((vars.take (L ++ [y]).length).map b) (L ++ [y]):=by
 refine⟨by simp;omega,fun i c x hb hx=>?_⟩
 rw[List.length_append,List.length_singleton,List.getElem?_map]at hb;have hi:i<L.length+1:=by have:=(List.getElem?_eq_some_iff.1 hx).1;simpa using this
 rw[List.getElem?_take_of_lt hi]at hb
 by_cases q:i<L.length
 ·rw[List.getElem?_append_left q]at hx;refine h.2 i c x ?_ hx;rw[List.getElem?_map,List.getElem?_take_of_lt q];exact hb
 ·obtain rfl:i=L.length:=by omega
  rw[List.getElem?_append_right (Nat.le_refl _),Nat.sub_self]at hx;cases hx
  rw[List.getElem?_eq_getElem hl]at hb;cases hb
  rw[getD_at hl]at hy;exact hy
section
variable {p:ProgT} {g:Gr}
theorem ygs(hg:yba g)(hp:p.ok=true)(hf:ysz p g=true){raw:List Int}(hr:∀ k,inK .i64 (raw.getD k 0)) :
  Ct Tryz.prog 18 [grV g,ydf p.vars,yu raw] fun r=>∃ c,ych p g c=true/\Sim r (ybg c):=by
 refine ydqx _ _ ?_;have hid:=hg.2.2.1;have h24:=hg.2.1;have h1:=hg.1;have hids:=hg.2.2.2.1;simp only[c18,ydrq,ydni,ydnl,grV,yx,go_sem,Nat.reduceEqDiff,Nat.reduceAdd,Nat.reduceLT,↓reduceIte,reduceCtorEq];obtain⟨n,hn⟩:∃ n,g.ports.length=n:=⟨_,rfl⟩;refine ybd (σ:=Nat) (fun k=>⟨[(9,.i .i64 k),(8,.i .i64 (yqz g.ids k)),(7,.i .i64 n),(3,.pt (3,0) 0 0),(1,ydf p.vars),(2,yu raw)],[(3,.one (some ⟨28,true,2,1,fun _=>[yu g.ids,yx g.ports]⟩))]⟩) (fun k=>k<=n) (fun k=>n - k) 0 (Nat.zero_le _) ?_ ?_
 ·refine yh [] [] [] ?_;simp only[yx,hn,allQ,live,yg,ybb,Int.natCast_zero,go_sem,Nat.reduceEqDiff,↓reduceIte,reduceCtorEq];rfl
 ·intro k hk;have htop:=ycek hids k;simp only[ydsa,ydsf,ydgp,ydqr,ydtm,yu,go_sem,Nat.reduceEqDiff,Nat.reduceAdd,Nat.reduceLeDiff,↓reduceIte,reduceCtorEq];refine⟨fun hlt=>?_,fun hlt=>?_⟩
  ·have hs:=ybom (l:=g.ids) (k:=k) (by omega)
   refine⟨by omega,ikw (by omega) (by omega),?_⟩
   refine yj (k+1) (by omega) (by omega) ?_
   refine yh [] [] [] ?_;simp only[allQ,live,yg,ybb,go_sem,Nat.reduceEqDiff,↓reduceIte,reduceCtorEq];exact⟨by omega,hs.symm⟩
  ·obtain rfl:k=n:=by omega
   have htm:yqz g.ids k=maxI g.ids:=by rw[<- hn,<- hid];exact yty hids (by omega)
   rw[htm]at htop ⊢;obtain⟨top,htp⟩:∃ t,maxI g.ids=t:=⟨_,rfl⟩;rw[htp]at htop ⊢;obtain⟨nv,hnv⟩:∃ k,p.vars.length=k:=⟨_,rfl⟩;have hp':=hp;unfold ProgT.ok at hp';simp only[Bool.and_eq_true,decide_eq_true_eq]at hp'
   refine ybd (σ:=Conf) (fun C=>⟨[(11,.i .i64 C.length),(10,.os (300,0) 0 C.length true),(8,.i .i64 top),(7,.i .i64 k),(3,.pt (3,0) 0 0),(1,ydf p.vars),(2,yu raw)],
    [(3,.one (some ⟨28,true,2,1,fun _=>[yu g.ids,yx g.ports]⟩)),(300,.one (some ⟨22,false,1,C.length,fun j=>[yu (C.getD j [])]⟩))]⟩)
    (fun C=>C.length<=k /\ ∀ v,v<C.length->yex (p.vars.map (ybf g v)) (C.getD v [])) (fun C=>k - C.length) [] ⟨Nat.zero_le _,fun v hv=>absurd hv (Nat.not_lt_zero v)⟩ ?_ ?_
   ·refine yh [] [300] [] ?_;simp only[yu,yx,allQ,live,yg,Int.natCast_zero,go_sem,Nat.reduceEqDiff,Nat.reduceBEq,↓reduceIte,reduceCtorEq];exact⟨(300,0),rfl,rfl,rfl⟩
   ·rintro C ⟨hC1,hC2⟩;simp only[ydll,ycqr,ycwm,yu,go_sem,Nat.reduceEqDiff,Nat.reduceAdd,↓reduceIte,reduceCtorEq];refine⟨fun hlt=>?_,fun hlt=>?_⟩
    ·refine ybd (σ:=List Int) (fun L=>⟨[(13,.i .i64 L.length),(12,.os (301,0) 0 L.length true),(11,.i .i64 C.length),(10,.os (300,0) 0 C.length true),(8,.i .i64 top),(7,.i .i64 k),(3,.pt (3,0) 0 0),(1,ydf p.vars),(2,yu raw)],
      [(301,.one (some ⟨3,false,1,L.length,fun j=>[.i .i64 (L.getD j 0)]⟩)),(3,.one (some ⟨28,true,2,1,fun _=>[yu g.ids,yx g.ports]⟩)),(300,.one (some ⟨22,false,1,C.length,fun j=>[yu (C.getD j [])]⟩))]⟩)
      (fun L=>L.length<=nv/\yex ((p.vars.take L.length).map (ybf g C.length)) L) (fun L=>nv - L.length) [] ⟨Nat.zero_le _,rfl,fun i b x hb=>by simp at hb⟩ ?_ ?_
     ·refine yh [] [301] [] ?_;simp only[yu,yx,allQ,live,yg,Int.natCast_zero,go_sem,Nat.reduceEqDiff,Nat.reduceBEq,↓reduceIte,reduceCtorEq];exact⟨(301,0),rfl,rfl,rfl⟩
     ·rintro L ⟨hL1,hL2⟩;obtain⟨x,hx⟩:∃ x,p.vars.getD L.length default=x:=⟨_,rfl⟩;simp only[yckt,ycrf,ycly,yu,ydf,hnv,hx,varC,clash,go_sem,Nat.reduceEqDiff,Nat.reduceAdd,Nat.reduceLeDiff,↓reduceIte,reduceCtorEq];refine⟨fun hlt2=>?_,fun hlt2=>?_⟩
      ·have hLn:L.length<p.vars.length:=by omega
       have hxm:x ∈ p.vars:=by rw[<- hx,getD_at hLn];exact List.getElem_mem _
       have hxo:=List.all_eq_true.1 hp'.1.1.2 x hxm;have hvo:=ybff hxo;obtain⟨hb1,hb2⟩:=ynm hg hxo;rw[hid,hn]at hb1;rw[htp]at hb2;have hbn:=ybkc hg hp hf hxm C.length;have hidx:(C.length:Int) * (nv:Int)+(L.length:Int)=((C.length * nv+L.length:Nat):Int):=by push_cast;rfl
       have hdeg:=hg.deg_lt (v:=C.length);have hmi:(C.length:Int) * (nv:Int)=((C.length * nv:Nat):Int):=by push_cast;rfl
       have hmul:C.length * nv<=24 * 6:=Nat.mul_le_mul (by omega) (by omega)
       have hAt:=at_ret raw (C.length * nv+L.length);have hav:inK .i64 (atP raw (C.length * nv+L.length)):=hr _;simp only[yu]at hAt;refine⟨by omega,by omega,by omega,ikw (by omega) (by omega),ikw (by omega) (by omega),by omega,ikw (by omega) (by omega),ikw (by omega) (by omega),by omega,?_⟩
       rcases hvo.1 with hkk | hkk | hkk
       ·have hbt:ybf g C.length x=(x.lo,x.hi+x.perNode * (k:Int)+x.perID * top):=by
         unfold ybf;rw[if_pos hkk,hid,hn,htp]
        rw[hbt]at hbn;simp only[]at hbn;simp only[hkk];simp only[ybkk,ybjm,ybkz,ybja,ybit,clash,Int.reduceBEq,hidx,go_sem,Nat.reduceEqDiff,Nat.reduceAdd,↓reduceIte,reduceCtorEq];refine⟨by rw[hmi];exact ikw (by omega) (by omega),ikw (by omega) (by omega),hAt.use ?_⟩
        simp only[thenO,go_sem,Nat.reduceEqDiff,Nat.reduceAdd,Nat.reduceLT,↓reduceIte,reduceCtorEq];have hW:=ydj (atP raw (C.length * nv+L.length)) (x.hi+x.perNode * (k:Int)+x.perID * top - (x.lo)+1) (by omega) hav
        obtain⟨w1,w2⟩:=ydk (v:=atP raw (C.length * nv+L.length)) (m:=x.hi+x.perNode * (k:Int)+x.perID * top - (x.lo)+1) (by omega)
        generalize yeu (atP raw (C.length * nv+L.length)) (x.hi+x.perNode * (k:Int)+x.perID * top - (x.lo)+1)=W at hW w1 w2
        refine⟨ikw (by omega) (by omega),ikw (by omega) (by omega),hW.use ?_⟩
        simp only[ybjy,go_sem,Nat.reduceEqDiff,Nat.reduceAdd,Nat.reduceLeDiff,↓reduceIte,reduceCtorEq];refine⟨ikw (by omega) (by omega),⟨by omega,by omega⟩,ikw (by omega) (by omega),?_⟩
        refine yj (L ++ [x.lo+W]) ⟨by simp;omega,yot hL2 hLn (by rw[hx,hbt];exact⟨by simp only[];omega,by simp only[];omega⟩)⟩ (by simp;omega) ?_
        refine yh [(301,fun i=>(101,i))] [] [] ?_;simp only[yx,ybc,hn,List.length_append,allQ,live,yg,ybb,go_sem,Nat.reduceEqDiff,↓reduceIte,reduceCtorEq];refine⟨by omega,fun i hi=>?_⟩
        rw[yta]
        by_cases q:i<L.length
        ·simp only[if_pos q];simp only[live,yg,go_sem,reduceCtorEq]
        ·obtain rfl:i=L.length:=by omega
         simp only[if_neg q,Nat.sub_self,Nat.zero_mul];simp only[live,yg,go_sem,↓reduceIte,reduceCtorEq]
       ·have hbt:ybf g C.length x=(0,1):=by
         unfold ybf;rw[if_neg (by omega),if_pos hkk]
        rw[hbt]at hbn;simp only[]at hbn;simp only[hkk];simp only[ybkk,ybjm,ybkz,ybja,ybit,clash,hidx,go_sem,Nat.reduceEqDiff,Nat.reduceAdd,↓reduceIte,reduceCtorEq];refine⟨by rw[hmi];exact ikw (by omega) (by omega),ikw (by omega) (by omega),hAt.use ?_⟩
        simp only[thenO,go_sem,Nat.reduceEqDiff,Nat.reduceAdd,Nat.reduceLT,↓reduceIte,reduceCtorEq];have hW:=ydj (atP raw (C.length * nv+L.length)) (1 - (0)+1) (by omega) hav
        obtain⟨w1,w2⟩:=ydk (v:=atP raw (C.length * nv+L.length)) (m:=1 - (0)+1) (by omega)
        generalize yeu (atP raw (C.length * nv+L.length)) (1 - (0)+1)=W at hW w1 w2
        refine⟨ikw (by omega) (by omega),ikw (by omega) (by omega),hW.use ?_⟩
        simp only[ybjy,go_sem,Nat.reduceEqDiff,Nat.reduceAdd,Nat.reduceLeDiff,↓reduceIte,reduceCtorEq];refine⟨ikw (by omega) (by omega),⟨by omega,by omega⟩,ikw (by omega) (by omega),?_⟩
        refine yj (L ++ [0+W]) ⟨by simp;omega,yot hL2 hLn (by rw[hx,hbt];exact⟨by simp only[];omega,by simp only[];omega⟩)⟩ (by simp;omega) ?_
        refine yh [(301,fun i=>(101,i))] [] [] ?_;simp only[yx,ybc,hn,List.length_append,allQ,live,yg,ybb,go_sem,Nat.reduceEqDiff,↓reduceIte,reduceCtorEq];refine⟨by omega,fun i hi=>?_⟩
        rw[yta]
        by_cases q:i<L.length
        ·simp only[if_pos q];simp only[live,yg,go_sem,reduceCtorEq]
        ·obtain rfl:i=L.length:=by omega
         simp only[if_neg q,Nat.sub_self,Nat.zero_mul];simp only[live,yg,go_sem,↓reduceIte,reduceCtorEq]
       ·have hbt:ybf g C.length x=(-1,((g.ports.getD C.length []).length:Int) - 1):=by
         unfold ybf;rw[if_neg (by omega),if_neg (by omega),if_pos hkk]
        rw[hbt]at hbn;simp only[]at hbn;simp only[hkk];simp only[ybkk,ybjm,ybkz,ybja,ybit,clash,Int.reduceBEq,hidx,yx,ybc,hn,go_sem,Nat.reduceEqDiff,Nat.reduceAdd,↓reduceIte,reduceCtorEq];refine⟨by omega,ikw (by omega) (by omega),by rw[hmi];exact ikw (by omega) (by omega),ikw (by omega) (by omega),hAt.use ?_⟩
        simp only[thenO,go_sem,Nat.reduceEqDiff,Nat.reduceAdd,Nat.reduceLT,↓reduceIte,reduceCtorEq];have hW:=ydj (atP raw (C.length * nv+L.length)) (((g.ports.getD C.length []).length:Int) - 1 - (-1)+1) (by omega) hav
        obtain⟨w1,w2⟩:=ydk (v:=atP raw (C.length * nv+L.length)) (m:=((g.ports.getD C.length []).length:Int) - 1 - (-1)+1) (by omega)
        generalize yeu (atP raw (C.length * nv+L.length)) (((g.ports.getD C.length []).length:Int) - 1 - (-1)+1)=W at hW w1 w2
        refine⟨ikw (by omega) (by omega),ikw (by omega) (by omega),hW.use ?_⟩
        simp only[ybjy,go_sem,Nat.reduceEqDiff,Nat.reduceAdd,Nat.reduceLeDiff,↓reduceIte,reduceCtorEq];refine⟨ikw (by omega) (by omega),⟨by omega,by omega⟩,ikw (by omega) (by omega),?_⟩
        refine yj (L ++ [-1+W]) ⟨by simp;omega,yot hL2 hLn (by rw[hx,hbt];exact⟨by simp only[];omega,by simp only[];omega⟩)⟩ (by simp;omega) ?_
        refine yh [(301,fun i=>(101,i))] [] [] ?_;simp only[List.length_append,allQ,live,yg,ybb,go_sem,Nat.reduceEqDiff,↓reduceIte,reduceCtorEq];refine⟨by omega,fun i hi=>?_⟩
        rw[yta]
        by_cases q:i<L.length
        ·simp only[if_pos q];simp only[live,yg,go_sem,reduceCtorEq]
        ·obtain rfl:i=L.length:=by omega
         simp only[if_neg q,Nat.sub_self,Nat.zero_mul];simp only[live,yg,go_sem,↓reduceIte,reduceCtorEq]
      ·have hLe:L.length=nv:=by omega
       rw[hLe,<- hnv,List.take_length]at hL2;simp only[ydov,yciu,splice,go_sem,Nat.reduceEqDiff,Nat.reduceAdd,Nat.reduceLeDiff,Nat.reduceLT,↓reduceIte,reduceCtorEq];refine⟨⟨by omega,by omega⟩,ikw (by omega) (by omega),?_⟩
       refine yj (C ++ [L]) ⟨by simp;omega,fun v hv=>?_⟩ (by simp;omega) ?_
       ·rw[yta];split
        ·exact hC2 v (by assumption)
        ·have:v=C.length:=by simp at hv;omega
         subst this;rw[if_pos rfl];exact hL2
       refine yh [(300,fun i=>(105,i))] [] [(301,0)] ?_;simp only[yx,ybc,hn,List.length_append,allQ,live,yg,ybb,go_sem,Nat.reduceEqDiff,Nat.reduceLeDiff,↓reduceIte,reduceCtorEq];refine⟨by omega,fun i hi=>?_⟩
       have e:=yta C L [] i;rw[e]
       by_cases q:i<C.length
       ·simp only[if_pos q];simp only[go_sem,live,yg,go_sem,reduceCtorEq]
       ·obtain rfl:i=C.length:=by omega
        simp only[if_neg q,Nat.sub_self,Nat.zero_mul,if_true];simp only[go_sem,live,yg,go_sem,Nat.reduceEqDiff,↓reduceIte,reduceCtorEq]
    ·simp only[ycmj,go_sem,Nat.reduceEqDiff,Nat.reduceAdd,↓reduceIte,reduceCtorEq];refine⟨C,(yep _ _ _).2 ⟨by omega,fun v st hst=>?_⟩,Sim.refl _⟩
     have hv:=(List.getElem?_eq_some_iff.1 hst).1;have:=hC2 v hv
     rwa [List.getD,hst]at this
end
end Sh
end Go.Proofs.YtpngeppkgoaimaaGreatDoor

namespace Go.Proofs.YtpngeppkgoaimaaGreatDoor
open Go
namespace Sh
open Ev Go.RowKit
set_option maxRecDepth 8000
def blV(l:List Bool):SV:=.sl 1 l.length (fun k=>[.b (l.getD k false)])
def yok(l:List Bool)(k:Nat):Bool:=(l.take k).any id
theorem ybnc{l:List Bool}{k:Nat}(hk:k<l.length):yok l (k+1)=(yok l k || l.getD k false):=by
 unfold yok;rw[List.take_succ_eq_append_getElem hk,List.any_append,getD_at hk];simp
structure HeldOk(legit:List Bool)(ks:List Cnt)(rounds moves:Int)(ended:Bool):Prop where
 len:legit.length=ks.length
 pos:0<legit.length
 stays:∀ i,i<legit.length->yok legit i=true->legit.getD i false=true
 rounds:∀ i,i<legit.length->yok legit (i+1)=false->((ks.getD i default).begun:Int)<=rounds
 moves:∀ i,i<legit.length->yok legit (i+1)=false->0<=moves->((ks.getD i default).moves:Int)<=moves
 ends:yok legit legit.length=true\/ended=false
def ydo(kind:Int)(fair silent:Bool)(rounds moves:Int):List SV:=[.i .i64 kind,.b fair,.b silent,.i .i64 rounds,.i .i64 moves]
theorem ychp{legit:List Bool}{ks:List Cnt}{kind rounds moves:Int}{fair silent ended:Bool}(h:HeldOk legit ks rounds moves ended)(hl:legit.length<=100000) :
  Returns Tryz.prog 41 [blV legit,ydq ks,.ag (ydo kind fair silent rounds moves),.b ended] (.b true):=by
 refine Returns.of (ydth _ _ ?_);obtain⟨n,hn⟩:∃ n,legit.length=n:=⟨_,rfl⟩;have hkn:ks.length=n:=by rw[<- h.len];exact hn
 have hpos:=h.pos;rw[hn]at hpos hl;have f1:((n:Int) != (n:Int))=false:=by simp
 have f2:((n:Int) == 0)=false:=by simp;omega
 simp only[c41,ydjj,ydha,ydpb,ydlh,ydvb,blV,ydq,ydo,hn,hkn,f1,f2,go_sem,Nat.reduceEqDiff,Nat.reduceAdd,Nat.reduceLT,↓reduceIte,reduceCtorEq];refine ybd (σ:=Nat) (fun k=>⟨[(10,.i .i64 k),(9,.b (yok legit k)),(6,.pt (6,0) 0 0),(0,blV legit),(1,ydq ks),(3,.b ended)],[(6,.one (some ⟨56,true,5,1,fun _=>ydo kind fair silent rounds moves⟩))]⟩) (fun k=>k<=n) (fun k=>n - k) 0 (Nat.zero_le _) ?_ ?_
 ·refine yh [] [] [] ?_;simp only[blV,ydq,ydo,hn,hkn,allQ,live,yg,sim_b,Int.natCast_zero,go_sem,Nat.reduceEqDiff,↓reduceIte,reduceCtorEq];rfl
 ·intro k hk;obtain⟨a0,ha0⟩:∃ b,yok legit k=b:=⟨_,rfl⟩;obtain⟨lk,hlk⟩:∃ b,legit.getD k false=b:=⟨_,rfl⟩;rw[ha0]
  by_cases hlt:k<n
  ·have hs:=h.stays k (by omega)
   have hr:=h.rounds k (by omega)
   have hm:=h.moves k (by omega)
   have hsucc:=ybnc (l:=legit) (k:=k) (by omega)
   rw[ha0,hlk]at hsucc hs;have c1:decide ((k:Int)<(n:Int))=true:=by simp;omega
   cases a0<;>cases lk
   ·have g1:decide ((((ks.getD k default).begun:Nat):Int) > rounds)=false:=by simp;exact hr hsucc
    by_cases hmv:moves >= 0
    ·have g2:decide (moves >= 0)=true:=by simp;omega
     have g3:decide ((((ks.getD k default).moves:Nat):Int) > moves)=false:=by simp;exact hm hsucc hmv
     simp(maxSteps:=5000000) only [yboy,yxx,ybqb,ybqd,ybbf,yxx,blV,ydq,cntV,ydo,hn,hkn,c1,hlk,clash,g1,g2,g3,go_sem,Nat.reduceEqDiff,Nat.reduceAdd,Nat.reduceLeDiff,↓reduceIte,reduceCtorEq];refine⟨by omega,by omega,by omega,ikw (by omega) (by omega),?_⟩
     refine yj (k+1) (by omega) (by omega) ?_
     refine yh [] [] [] ?_;simp only[hsucc,Bool.or_self,allQ,live,yg,ybb,go_sem,Nat.reduceEqDiff,↓reduceIte,reduceCtorEq];omega
    ·have g2:decide (moves >= 0)=false:=by simp;omega
     simp(maxSteps:=5000000) only [yboy,yxx,ybqb,ybqd,ybbf,yxx,blV,ydq,cntV,ydo,hn,hkn,c1,hlk,clash,g1,g2,go_sem,Nat.reduceEqDiff,Nat.reduceAdd,Nat.reduceLeDiff,↓reduceIte,reduceCtorEq];refine⟨by omega,by omega,ikw (by omega) (by omega),?_⟩
     refine yj (k+1) (by omega) (by omega) ?_
     refine yh [] [] [] ?_;simp only[hsucc,Bool.or_self,allQ,live,yg,ybb,go_sem,Nat.reduceEqDiff,↓reduceIte,reduceCtorEq];omega
   ·simp(maxSteps:=5000000) only [yboy,yxx,ybqb,ybqd,ybbf,yxx,blV,ydq,cntV,ydo,hn,hkn,c1,hlk,clash,go_sem,Nat.reduceEqDiff,Nat.reduceAdd,↓reduceIte,reduceCtorEq];refine⟨by omega,ikw (by omega) (by omega),?_⟩
    refine yj (k+1) (by omega) (by omega) ?_
    refine yh [] [] [] ?_;simp only[hsucc,Bool.or_true,allQ,live,yg,ybb,go_sem,Nat.reduceEqDiff,↓reduceIte,reduceCtorEq];omega
   ·exact absurd (hs rfl) (by simp)
   ·simp(maxSteps:=5000000) only [yboy,yxx,ybqb,ybqd,ybbf,yxx,blV,ydq,cntV,ydo,hn,hkn,c1,hlk,clash,go_sem,Nat.reduceEqDiff,Nat.reduceAdd,↓reduceIte,reduceCtorEq];refine⟨by omega,ikw (by omega) (by omega),?_⟩
    refine yj (k+1) (by omega) (by omega) ?_
    refine yh [] [] [] ?_;simp only[hsucc,Bool.or_self,allQ,live,yg,ybb,go_sem,Nat.reduceEqDiff,↓reduceIte,reduceCtorEq];omega
  ·obtain rfl:k=n:=by omega
   have c1:decide ((k:Int)<(k:Int))=false:=by simp
   have he:=h.ends;rw[hn,ha0]at he;simp(maxSteps:=5000000) only [yboy,ycpd,blV,ydq,ydo,hn,hkn,c1,go_sem,Nat.reduceEqDiff,Nat.reduceAdd,↓reduceIte,reduceCtorEq];cases a0
   ·rcases he with he | he
    ·cases he
    ·subst he;simp only[sim_b,go_sem]
   ·simp only[sim_b,go_sem]
theorem yop{Q1 Q2:(Nat->Option ABlk)->Value->Prop}{p:ProgT}{g:Gr}{t:ByteArray}(hpr:Returns Tryz.prog 25 [.a (.string t)] (.ag (ycn Q1 Q2 p.raw)))(h:Checked Q1 Q2 p g){kind:Int}(hk:1<=kind/\kind<=4){res:Nat->Nat->Nat}(hd:DaemonOk kind (g.ports.map netP) res){c:Conf}(hc:ych p g c=true){ws:List Nat}(hw:∀ k,ws.getD k 0<2 ^ 32)(hwl:ws.length<=4000) :
  Returns Tryz.prog 16 [.a (.string t),grV g,.i .i64 kind,ybg c,usV ws] (.tp [ydg (((ybk p g).runs res ws c).map (·.1)),ydq (((ybk p g).runs res ws c).map (·.2)),.b true]):=by
 refine Returns.of (ydtu _ _ ?_);have hX:=ybxb h hk hd hc hw hwl;obtain⟨R,hR⟩:∃ R,(ybk p g).runs res ws c=R:=⟨_,rfl⟩;rw[hR]at hX ⊢;have hRl:0<R.length:=by rw[<- hR];simp[Sys.runs]
 obtain⟨m,hm⟩:∃ m,R.length=m:=⟨_,rfl⟩;rw[hm]at hRl;have f1:((m:Int) == (m:Int))=true:=by simp
 have f2:decide ((m:Int) > 0)=true:=by simp;omega
 simp only[ycn]at hpr hX;simp only[grV,usV,ydg,ydq,List.length_map,hm]at hX;simp only[c16,ydiu,ydpw,grV,usV,clash,go_sem,Nat.reduceAdd,Nat.reduceLT,↓reduceIte,reduceCtorEq];refine hpr.use ?_;simp only[thenO,clash,go_sem,Nat.reduceEqDiff,Nat.reduceAdd,↓reduceIte,reduceCtorEq];refine hX.use ?_;simp(maxSteps:=5000000) only [ydvx,clash,f1,f2,go_sem,Nat.reduceEqDiff,Nat.reduceAdd,↓reduceIte,reduceCtorEq]
 refine⟨by decide,?_⟩
 unfold ydg ydq;rw[List.length_map,List.length_map,hm];exact Sim.refl _
end Sh
end Go.Proofs.YtpngeppkgoaimaaGreatDoor

namespace Go.Proofs.YtpngeppkgoaimaaGreatDoor
namespace Sh
open Go Ev
def ydvt:LO:=[o3 (.box 28 (.tmp 0)) 3 0,o3 (.mv (.const (.slice none 0 0))) 6 0]
def ydlt:LO:=[mv' 1 10 0,ln' 10 11 1,o3 (.mk 3 1 8 [.i .i64 0] (.tmp 11) (.tmp 11)) 12 3,mv' 12 7 7]
def ydjn:LO:=[mv' 1 13 0,ln' 13 14 1,o3 (.mv (ci' 0)) 15 0]
def yceu:LO:=[bn' .lss 15 14 16 0]
def yczs:LO:=[mv' 15 17 0,ix' 1 13 15 18 0,ld' false 1 18 19 2,mv' 17 8 7,mv' 19 9 15]
def ydad:LO:=[mv' 7 20 0,mv' 8 21 0,ix' 1 20 21 22 3,o0 (.store 1 (.tmp 22) (.const (.int .i64 (-1)))) 7]
def ydam:LO:=[mv' 9 23 0,mv' 2 24 0,ix' 1 23 24 25 3,ld' false 1 25 26 7,o3 (.bin .geq (.tmp 26) (ci' 0)) 27 15]
def ydlg:LO:=[mv' 7 28 0,mv' 8 29 0,fa' 1 1 3 30 0,ld' false 1 30 31 4,mv' 8 32 0,ix' 1 31 32 33 28,ld' false 1 33 34 60,mv' 9 35 0,mv' 2 36 0,ix' 1 35 36 37 384,ld' false 1 37 38 896,ix' 2 34 38 39 2044,fa' 0 1 39 40 4092,ld' false 1 40 41 8188,ix' 1 28 29 42 16383,o0 (.store 1 (.tmp 42) (.tmp 41)) 32767]
def ydca:LO:=[o3 (.bin .add (.tmp 15) (ci' 1)) 43 0,mv' 43 15 1]
def ydno:LO:=[mv' 7 44 0,mv' 44 6 1]
def c70:SC:=(.seq (.reg false ydvt) (.seq (.reg false ydlt) (.seq (.seq (.reg false ydjn) (.block 0 (.loop (.seq (.reg false yceu) (.seq (.cond (.tmp 16) .skip (.exit 0)) (.seq (.block 1 (.seq (.reg false yczs) (.seq (.reg false ydad) (.seq (.reg false ydam) (.cond (.tmp 27) (.reg true ydlg) .skip))))) (.reg false ydca))))))) (.seq (.reg false ydno) .ret))))
theorem ydkd:Fn 70 c70 [.t 6]:=fn_0 Tryz.func70 (by kernel_rfl) (by kernel_rfl)
def c7_0:LO:=[o3 (.box 24 (.tmp 0)) 3 0,o3 (.mv (.const (.bool false))) 6 0]
def c7_1:LO:=[ld' true 6 3 16 0,o3 (.call (.func 15) [(.tmp 16),(ci' 8)]) 17 1,o3 (.alloc 28 1 [.a (.slice none 0 0),.a (.slice none 0 0)]) 7 0,o0 (.store 2 (.tmp 7) (.tmp 17)) 7]
def c7_2:LO:=[cl' 32 [] 19 0,ld' true 2 7 20 0,ld' true 2 7 21 0,cl' 33 [] 22 1,mv' 1 23 0,cl' 18 [21,22,23] 24 29,mv' 2 25 0,o3 (.call (.func 20) [(.tmp 25),(ci' 120)]) 26 125,o3 (.call (.func 16) [(.tmp 19),(.tmp 20),(ci' 3),(.tmp 24),(.tmp 26)]) 27 255,mv' 27 18 511,xt' 18 0 28 1023,xt' 18 1 29 1023,xt' 18 2 30 1023,mv' 28 8 2047,mv' 29 9 12287,mv' 30 10 32767]
def c7_3:LO:=[ld' true 2 7 31 0,o3 (.call (.func 23) [(.tmp 31),(ci' 0)]) 32 1,mv' 32 11 3]
def c7_4:LO:=[mv' 10 33 0,o3 (.un .not (.tmp 33)) 34 1]
def c7_5:LO:=[o3 (.mv (.const (.bool false))) 6 0]
def c7_6:LO:=[o3 (.mv (ci' 0)) 12 0]
def c7_7:LO:=[mv' 12 35 0,mv' 8 36 0,ln' 36 37 2,bn' .lss 35 37 38 7]
def c7_9:LO:=[o3 (.mv (ci' 0)) 13 0]
def ydwi:LO:=[mv' 13 41 0,mv' 11 42 0,ln' 42 43 2,bn' .lss 41 43 44 7,mv' 44 45 15,⟨.mv (.tmp 9),some 46,some (45,true),31⟩,⟨.mv (.tmp 12),some 47,some (45,true),31⟩,⟨.idx 5 (.tmp 46) (.tmp 47),some 48,some (45,true),127⟩,⟨.faddr 2 1 (.tmp 48),some 49,some (45,true),255⟩,⟨.load false 1 (.tmp 49),some 50,some (45,true),511⟩,⟨.bin .gtr (.tmp 50) (ci' 0),some 51,some (45,true),1023⟩,o3 (.pick (.tmp 45) (.tmp 51) (.const (.bool false))) 52 2047]
def ydyj:LO:=[mv' 8 55 0,mv' 12 56 0,ix' 1 55 56 57 3,ld' false 1 57 58 7,ln' 58 59 15,mv' 11 60 0,ln' 60 61 32,bn' .neq 59 61 62 127,mv' 62 63 255,⟨.mv (.tmp 8),some 64,some (63,false),511⟩,⟨.mv (.tmp 12),some 65,some (63,false),511⟩,⟨.idx 1 (.tmp 64) (.tmp 65),some 66,some (63,false),2047⟩,⟨.load false 1 (.tmp 66),some 67,some (63,false),4095⟩,⟨.mv (.tmp 13),some 68,some (63,false),511⟩,⟨.idx 1 (.tmp 67) (.tmp 68),some 69,some (63,false),16383⟩,⟨.load false 1 (.tmp 69),some 70,some (63,false),32767⟩,⟨.len (.tmp 70),some 71,some (63,false),65535⟩,⟨.bin .neq (.tmp 71) (ci' 2),some 72,some (63,false),131071⟩,o3 (.pick (.tmp 63) (.const (.bool true)) (.tmp 72)) 73 262143]
def ydyi:LO:=[o3 (.mv (.const (.bool false))) 6 0]
def ydzk:LO:=[mv' 8 74 0,mv' 12 75 0,ix' 1 74 75 76 3,ld' false 1 76 77 7,mv' 13 78 0,ix' 1 77 78 79 31,ld' false 1 79 80 63,o3 (.idx 1 (.tmp 80) (ci' 0)) 81 127,ld' false 1 81 82 255,mv' 9 83 0,mv' 12 84 0,ix' 5 83 84 85 1536,fa' 2 1 85 86 3584,ld' false 1 86 87 7680,mv' 82 14 511,mv' 87 15 32767]
def ydzd:LO:=[mv' 11 88 0,mv' 13 89 0,ix' 1 88 89 90 3,ld' false 1 90 91 7,mv' 15 92 0,bn' .lss 91 92 93 31,mv' 93 94 63,⟨.mv (.tmp 14),some 95,some (94,true),127⟩,⟨.mv (.tmp 11),some 96,some (94,true),127⟩,⟨.mv (.tmp 13),some 97,some (94,true),127⟩,⟨.idx 1 (.tmp 96) (.tmp 97),some 98,some (94,true),895⟩,⟨.load false 1 (.tmp 98),some 99,some (94,true),1919⟩,⟨.bin .neq (.tmp 95) (.tmp 99),some 100,some (94,true),4095⟩,o3 (.pick (.tmp 94) (.tmp 100) (.const (.bool false))) 101 8191,mv' 101 102 16383,⟨.mv (.tmp 11),some 103,some (102,false),32767⟩,⟨.mv (.tmp 13),some 104,some (102,false),32767⟩,⟨.idx 1 (.tmp 103) (.tmp 104),some 105,some (102,false),131071⟩,⟨.load false 1 (.tmp 105),some 106,some (102,false),262143⟩,⟨.mv (.tmp 15),some 107,some (102,false),32767⟩,⟨.bin .geq (.tmp 106) (.tmp 107),some 108,some (102,false),1048575⟩,⟨.mv (.tmp 108),some 109,some (102,false),2097151⟩,⟨.mv (.tmp 14),some 110,some (109,true),4194303⟩,⟨.mv (.tmp 15),some 111,some (109,true),4194303⟩,⟨.bin .lss (.tmp 110) (.tmp 111),some 112,some (109,true),16777215⟩,⟨.pick (.tmp 109) (.tmp 112) (.const (.bool false)),some 113,some (102,false),33554431⟩,o3 (.pick (.tmp 102) (.const (.bool true)) (.tmp 113)) 114 67108863]
def ydxj:LO:=[o3 (.mv (.const (.bool false))) 6 0]
def ydws:LO:=[mv' 13 53 0,o3 (.bin .add (.tmp 53) (ci' 1)) 54 1,mv' 54 13 3]
def c7_8:LO:=[mv' 12 39 0,o3 (.bin .add (.tmp 39) (ci' 1)) 40 1,mv' 40 12 3]
def ydxy:LO:=[cl' 34 [] 115 0,mv' 115 6 1]
def c7:SC:=(.seq (.reg false c7_0) (.seq (.reg false c7_1) (.seq (.reg true c7_2) (.seq (.reg false c7_3) (.seq (.seq (.reg false c7_4) (.cond (.tmp 34) (.seq (.reg false c7_5) .ret) .skip)) (.seq (.seq (.reg false c7_6) (.block 0 (.loop (.seq (.seq (.reg false c7_7) (.cond (.tmp 38) .skip (.exit 0))) (.seq (.block 1 (.seq (.reg false c7_9) (.block 2 (.loop (.seq (.seq (.reg false ydwi) (.cond (.tmp 52) .skip (.exit 2))) (.seq (.block 3 (.seq (.seq (.reg false ydyj) (.cond (.tmp 73) (.seq (.reg false ydyi) .ret) .skip)) (.seq (.reg true ydzk) (.seq (.reg false ydzd) (.cond (.tmp 114) (.seq (.reg false ydxj) .ret) .skip))))) (.reg false ydws))))))) (.reg false c7_8)))))) (.seq (.reg false ydxy) .ret)))))))
def c8_0:LO:=[o3 (.box 24 (.tmp 0)) 3 0,o3 (.mv (.const (.bool false))) 6 0]
def c8_1:LO:=[ld' true 6 3 16 0,o3 (.call (.func 15) [(.tmp 16),(ci' 8)]) 17 1,o3 (.alloc 28 1 [.a (.slice none 0 0),.a (.slice none 0 0)]) 7 0,o0 (.store 2 (.tmp 7) (.tmp 17)) 7]
def c8_2:LO:=[cl' 32 [] 19 0,ld' true 2 7 20 0,ld' true 2 7 21 0,cl' 33 [] 22 1,mv' 1 23 0,cl' 18 [21,22,23] 24 29,mv' 2 25 0,o3 (.call (.func 20) [(.tmp 25),(ci' 20)]) 26 125,o3 (.call (.func 16) [(.tmp 19),(.tmp 20),(ci' 4),(.tmp 24),(.tmp 26)]) 27 255,mv' 27 18 511,xt' 18 0 28 1023,xt' 18 1 29 1023,xt' 18 2 30 1023,mv' 28 8 2047,mv' 29 9 12287,mv' 30 10 32767]
def c8_3:LO:=[mv' 10 31 0,o3 (.un .not (.tmp 31)) 32 1]
def c8_4:LO:=[o3 (.mv (.const (.bool false))) 6 0]
def c8_5:LO:=[mv' 8 33 0,mv' 8 34 0,ln' 34 35 2,o3 (.bin .sub (.tmp 35) (ci' 1)) 36 6,ix' 1 33 36 37 15,ld' false 1 37 38 31,mv' 38 11 63]
def c8_6:LO:=[ld' true 2 7 39 0,mv' 11 40 0,cl' 35 [39,40] 41 3,mv' 41 12 7]
def c8_7:LO:=[ld' true 2 7 42 0,mv' 11 43 0,cl' 36 [42,43] 44 3,o3 (.un .not (.tmp 44)) 45 7,mv' 45 46 15,⟨.mv (.tmp 12),some 47,some (46,false),31⟩,⟨.len (.tmp 47),some 48,some (46,false),63⟩,⟨.faddr 1 1 (.tmp 7),some 49,some (46,false),31⟩,⟨.load false 1 (.tmp 49),some 50,some (46,false),159⟩,⟨.len (.tmp 50),some 51,some (46,false),415⟩,⟨.bin .neq (.tmp 48) (.tmp 51),some 52,some (46,false),1023⟩,o3 (.pick (.tmp 46) (.const (.bool true)) (.tmp 52)) 53 2047]
def c8_8:LO:=[o3 (.mv (.const (.bool false))) 6 0]
def c8_9:LO:=[o3 (.mv (ci' 0)) 13 0]
def ydxm:LO:=[mv' 13 54 0,mv' 12 55 0,ln' 55 56 2,bn' .lss 54 56 57 7]
def ydwy:LO:=[mv' 13 60 0,mv' 60 14 1,o3 (.mv (ci' 0)) 15 3]
def ydyx:LO:=[mv' 15 61 0,mv' 12 62 0,ln' 62 63 2,bn' .leq 61 63 64 7,mv' 64 65 15,⟨.mv (.tmp 14),some 66,some (65,true),31⟩,⟨.bin .geq (.tmp 66) (ci' 0),some 67,some (65,true),63⟩,o3 (.pick (.tmp 65) (.tmp 67) (.const (.bool false))) 68 127,mv' 68 69 255,⟨.mv (.tmp 14),some 70,some (69,true),511⟩,⟨.mv (.tmp 12),some 71,some (69,true),511⟩,⟨.len (.tmp 71),some 72,some (69,true),1535⟩,⟨.bin .lss (.tmp 70) (.tmp 72),some 73,some (69,true),4095⟩,o3 (.pick (.tmp 69) (.tmp 73) (.const (.bool false))) 74 8191,mv' 74 75 16383,⟨.mv (.tmp 12),some 76,some (75,true),32767⟩,⟨.mv (.tmp 14),some 77,some (75,true),32767⟩,⟨.idx 1 (.tmp 76) (.tmp 77),some 78,some (75,true),131071⟩,⟨.load false 1 (.tmp 78),some 79,some (75,true),262143⟩,⟨.bin .geq (.tmp 79) (ci' 0),some 80,some (75,true),524287⟩,o3 (.pick (.tmp 75) (.tmp 80) (.const (.bool false))) 81 1048575]
def ydyc:LO:=[mv' 12 82 0,mv' 14 83 0,ix' 1 82 83 84 3,ld' false 1 84 85 7,mv' 15 86 0,o3 (.bin .add (.tmp 86) (ci' 1)) 87 16,mv' 85 14 15,mv' 87 15 127]
def ydye:LO:=[mv' 14 88 0,o3 (.bin .neq (.tmp 88) (ci' 0)) 89 1,mv' 89 90 3,⟨.mv (.tmp 15),some 91,some (90,false),7⟩,⟨.mv (.tmp 11),some 92,some (90,false),7⟩,⟨.mv (.tmp 13),some 93,some (90,false),7⟩,⟨.idx 1 (.tmp 92) (.tmp 93),some 94,some (90,false),55⟩,⟨.load false 1 (.tmp 94),some 95,some (90,false),119⟩,⟨.idx 1 (.tmp 95) (ci' 0),some 96,some (90,false),247⟩,⟨.load false 1 (.tmp 96),some 97,some (90,false),503⟩,⟨.bin .neq (.tmp 91) (.tmp 97),some 98,some (90,false),1023⟩,o3 (.pick (.tmp 90) (.const (.bool true)) (.tmp 98)) 99 2047,mv' 99 100 4095,⟨.mv (.tmp 15),some 101,some (100,false),8191⟩,⟨.load true 2 (.tmp 7),some 102,some (100,false),8191⟩,⟨.call (.func 23) [(.tmp 102),(ci' 0)],some 103,some (100,false),24575⟩,⟨.mv (.tmp 13),some 104,some (100,false),8191⟩,⟨.idx 1 (.tmp 103) (.tmp 104),some 105,some (100,false),122879⟩,⟨.load false 1 (.tmp 105),some 106,some (100,false),253951⟩,⟨.bin .neq (.tmp 101) (.tmp 106),some 107,some (100,false),524287⟩,o3 (.pick (.tmp 100) (.const (.bool true)) (.tmp 107)) 108 1048575]
def ydzj:LO:=[o3 (.mv (.const (.bool false))) 6 0]
def ydwl:LO:=[mv' 13 58 0,o3 (.bin .add (.tmp 58) (ci' 1)) 59 1,mv' 59 13 3]
def ydyg:LO:=[cl' 34 [] 109 0,mv' 109 6 1]
def c8:SC:=(.seq (.reg false c8_0) (.seq (.reg false c8_1) (.seq (.reg true c8_2) (.seq (.seq (.reg false c8_3) (.cond (.tmp 32) (.seq (.reg false c8_4) .ret) .skip)) (.seq (.reg false c8_5) (.seq (.reg false c8_6) (.seq (.seq (.reg false c8_7) (.cond (.tmp 53) (.seq (.reg false c8_8) .ret) .skip)) (.seq (.seq (.reg false c8_9) (.block 0 (.loop (.seq (.seq (.reg false ydxm) (.cond (.tmp 57) .skip (.exit 0))) (.seq (.block 1 (.seq (.reg false ydwy) (.seq (.block 2 (.loop (.seq (.seq (.reg false ydyx) (.cond (.tmp 81) .skip (.exit 2))) (.block 3 (.reg false ydyc))))) (.seq (.reg false ydye) (.cond (.tmp 108) (.seq (.reg false ydzj) .ret) .skip))))) (.reg false ydwl)))))) (.seq (.reg false ydyg) .ret)))))))))
end Sh
end Go.Proofs.YtpngeppkgoaimaaGreatDoor

namespace Go.Proofs.YtpngeppkgoaimaaGreatDoor
open Go.RowKit

theorem yzs(dv:Value)(D:List Int)(w:World)(hd:yjg w dv D) :
  Calls Tryz.prog 110 #[dv] w fun e w'=>e = .returned (.int .i64 (ybs D))/\w=w':=by
 obtain⟨A,c,rfl,hA1,hA2⟩:=ybl hd;have Hd:=Lib.hid hd
 clear hd
 go_enter Tryz.func110,Tryz.ntmps110
 go_wp2
 go_loopg [3,8] D.length (fun q m t wr=>∃ k:Nat,q+k=D.length/\t = .int .i64 k/\wr=w/\m = .int .i64 (ybs (D.take k)))
 case atStart=>exact⟨0,by omega,rfl,rfl,by simp[ybs]⟩
 case round =>
  obtain⟨k,hq,rfl,rfl,rfl⟩:=hrel
  by_cases hlt:k<D.length
  ·obtain⟨b,off,rfl,hb,hc,hr⟩:=yfj Hd.out hlt;have Hs:=Lib.hid (yll D k hlt)
   go_wp2
   all_goals
    go_roundg (gk - 1)
    case measure=>omega
    case rel=>exact⟨k+1,by omega,by go_num,rfl,by rw[Hs.out];try (congr 1;omega)⟩
  ·obtain rfl:k=D.length:=by omega
   go_wp2
   go_ret
   exact⟨yhz (by rw[List.take_length]),rfl⟩

theorem yfd(gv:Value)(g:Gr)(w:World)(hg:GrAt w gv g) :
  Calls Tryz.prog 100 #[gv] w fun e w'=>e = .returned (.bool (yby g))/\Below w.heap.size w w':=by
 have hg0:=Lib.hid hg;obtain⟨i,p,rfl,hi,hp⟩:=hg
 clear hi hp
 cases hv:ycs g with
 | false =>
  have Hf:=Lib.hid (show yby g=false by unfold yby;rw[hv];rfl)
  go_enter Tryz.func100,Tryz.ntmps100
  go_wp2_with fail
  refine(ytv _ g _ (hg0.out.below ((Below.refl _ _).alloc (Nat.le_refl _) _))).mono ?_;rintro e w1 ⟨rfl,hb1⟩
  go_wp2_with fail
  go_ret
  exact⟨ybi Hf.out.symm,yhl hb1⟩
 | true =>
  have hgood:=(ycg g).1 hv;have hn1:=hgood.1;have hn24:=hgood.2.1;have Hgood:=Lib.hid hgood;have Hd:=Lib.hid (yfv hgood (a:=0) (by omega))
  have Hc:=Lib.hid (show yby g=(ybu g 0).all (fun x=>decide (0<=x))by unfold yby;rw[hv];rfl)
  clear hgood
  go_enter Tryz.func100,Tryz.ntmps100
  go_wp2_with fail
  refine(ytv _ g _ (hg0.out.below ((Below.refl _ _).alloc (Nat.le_refl _) _))).mono ?_;rintro e w1 ⟨rfl,hb1⟩;obtain⟨q0,q1⟩:=yyt hb1;have Hb1:=Lib.hid (yhl hb1)
  clear hb1
  go_wp2_with fail
  refine(ywa _ g 0 _ (hg0.out.below Hb1.out) Hgood.out (by omega)).mono ?_
  rintro e w2 ⟨v,rfl,hv2,hb2⟩;have Hb2:=Lib.hid (Hb1.out.trans (hb2.mono Hb1.out.size));obtain⟨A,c,rfl,hA1,hA2⟩:=ybl hv2;have Hv2:=Lib.hid hv2
  clear hb2 hv2
  obtain⟨D,hD⟩:∃ D,ybu g 0=D:=⟨_,rfl⟩;rw[hD]at Hv2 Hd hA1 Hc ⊢
  clear hD
  go_wp2
  go_loopg [11] D.length (fun q t wr=>∃ k:Nat,q+k=D.length/\t = .int .i64 k/\wr=w2/\Hid (∀ j (hj:j<D.length),j<k->0<=D[j]))
  case atStart=>exact⟨0,by omega,rfl,rfl,Lib.hid (fun j _ hj=>absurd hj (by omega))⟩
  case round =>
   obtain⟨k,hq,rfl,rfl,hall⟩:=hrel
   by_cases hlt:k<D.length
   ·obtain⟨b,off,rfl,hb,hc,hr⟩:=yfj Hv2.out hlt
    by_cases c1:D[k]<0
    ·have Hf:=Lib.hid (show yby g=false by
      rw[Hc.out,List.all_eq_false];exact⟨D[k],List.getElem_mem hlt,by simp;omega⟩)
     go_wp2
     go_ret
     exact⟨ybi Hf.out.symm,Hb2.out⟩
    ·go_wp2
     go_roundg (gk - 1)
     case measure=>omega
     case rel =>
      refine⟨k+1,by omega,by go_num,rfl,Lib.hid (fun j hj hjk=>?_)⟩
      by_cases e:j=k
      ·subst e;omega
      ·exact hall.out j hj (by omega)
   ·obtain rfl:k=D.length:=by omega
    have Ht:=Lib.hid (show yby g=true by
     rw[Hc.out,List.all_eq_true];intro x hx;obtain⟨j,hj,rfl⟩:=List.mem_iff_getElem.1 hx;exact decide_eq_true (hall.out j hj hj))
    go_wp2
    go_ret
    exact⟨ybi Ht.out.symm,Hb2.out⟩

theorem ygu{g:Gr}(h:yby g=true):ycs g=true:=(Bool.and_eq_true _ _ ▸ h).1

theorem yqy(gv:Value)(g:Gr)(v:Int)(w:World)(hg:GrAt w gv g) :
  Calls Tryz.prog 74 #[gv,.int .i64 v] w fun e w'=>e = .returned (.int .i64 (eccP g v))/\Below w.heap.size w w':=by
 have hg0:=Lib.hid hg;obtain⟨i,p,rfl,hi,hp⟩:=hg;obtain⟨A2,c2,rfl,hB1,hB2⟩:=ybl hp
 clear hi hp
 cases hc:yby g with
 | false =>
  have Hf:=Lib.hid (show eccP g v = -1 by unfold eccP;rw[hc];simp)
  go_enter Tryz.func74,Tryz.ntmps74
  go_wp2_with fail
  refine(yfd _ g _ (hg0.out.below ((Below.refl _ _).alloc (Nat.le_refl _) _))).mono ?_;rintro e w1 ⟨rfl,hb1⟩
  go_wp2_with fail
  go_ret
  exact⟨yhz Hf.out.symm,yhl hb1⟩
 | true =>
  have Hgood:=Lib.hid ((ycg g).1 (ygu hc))
  by_cases c1:v<0
  ·have Hf:=Lib.hid (show eccP g v = -1 by unfold eccP;rw[if_neg];omega)
   go_enter Tryz.func74,Tryz.ntmps74
   go_wp2_with fail
   refine(yfd _ g _ (hg0.out.below ((Below.refl _ _).alloc (Nat.le_refl _) _))).mono ?_;rintro e w1 ⟨rfl,hb1⟩
   go_wp2_with fail
   go_ret
   exact⟨yhz Hf.out.symm,yhl hb1⟩
  ·by_cases c2:v<g.ports.length
   ·obtain⟨u,rfl⟩:=Int.eq_ofNat_of_zero_le (show 0<=v by omega)
    have Hf:=Lib.hid (show eccP g u=ybs (ybu g u)by unfold eccP;rw[if_pos ⟨hc,by omega,c2⟩];rfl)
    have c3:u<g.ports.length:=by omega
    have c4:decide ((g.ports.length:Int)<=(u:Int))=false:=by simp;omega
    have c5:decide (g.ports.length<=u)=false:=by simp;omega
    go_enter Tryz.func74,Tryz.ntmps74
    go_wp2_with fail
    refine(yfd _ g _ (hg0.out.below ((Below.refl _ _).alloc (Nat.le_refl _) _))).mono ?_;rintro e w1 ⟨rfl,hb1⟩;obtain⟨q0,q1⟩:=yyt hb1;have Hb1:=Lib.hid (yhl hb1)
    clear hb1
    go_wp2_with fail
    refine(ywa _ g u _ (hg0.out.below Hb1.out) Hgood.out c3).mono ?_;rintro e w2 ⟨x,rfl,hv2,hb2⟩;have Hb2:=Lib.hid (Hb1.out.trans (hb2.mono Hb1.out.size));have Hv2:=Lib.hid hv2
    clear hb2 hv2
    go_wp2_with fail
    refine(yzs _ _ _ Hv2.out).mono ?_;rintro e w3 ⟨rfl,rfl⟩
    go_wp2_with fail
    go_ret
    exact⟨yhz Hf.out.symm,Hb2.out⟩
   ·have Hf:=Lib.hid (show eccP g v = -1 by unfold eccP;rw[if_neg];omega)
    have c4:decide ((g.ports.length:Int)<=v)=true:=by simp;omega
    go_enter Tryz.func74,Tryz.ntmps74
    go_wp2_with fail
    refine(yfd _ g _ (hg0.out.below ((Below.refl _ _).alloc (Nat.le_refl _) _))).mono ?_;rintro e w1 ⟨rfl,hb1⟩;obtain⟨q0,q1⟩:=yyt hb1
    go_wp2_with fail
    go_ret
    exact⟨yhz Hf.out.symm,yhl hb1⟩

end Go.Proofs.YtpngeppkgoaimaaGreatDoor

namespace Go.Proofs.YtpngeppkgoaimaaGreatDoor
open Go.RowKit

theorem ylg(g:Gr)(G:List Int)(v:Nat):(ydm g G v).length=G.length:=by simp[ydm]

set_option maxHeartbeats 2000000 in
theorem yoo(gv cv Gv:Value)(g:Gr)(c:Conf)(G:List Int)(w:World)(hg:GrAt w gv g)(hc:ycnt w cv c)(hG:yjg w Gv G)(hgood:yba g) :
  Calls Tryz.prog 79 #[gv,cv,Gv] w fun e w'=>e = .returned (.bool (ynx g.ports.length (ydm g G) c))/\Below w.heap.size w w':=by
 have hn24:=hgood.2.1;have hid:=hgood.2.2.1;have Hid':=Lib.hid hid
 clear hgood
 obtain⟨i,p,rfl,hi,hp⟩:=hg;obtain⟨A,c0,rfl,hA1,hA2⟩:=ybl hi;obtain⟨A2,c2,rfl,hB1,hB2⟩:=ybl hp;obtain⟨A3,c3,rfl,hC1,hC2⟩:=ybl hc;obtain⟨A4,c4,rfl,hD1,hD2⟩:=ybl hG;have Hp:=Lib.hid hp;have Hc:=Lib.hid hc;have HG:=Lib.hid hG
 clear hi hp hc hG
 by_cases n1:c.length=g.ids.length
 ·have n1':((c.length:Int) != (g.ids.length:Int))=false:=by simp[n1]
  have Hn:=Lib.hid (n1.trans hid);have hcn:c.length<=24:=by omega
  clear n1 hid
  go_enter Tryz.func79,Tryz.ntmps79
  go_wp2
  obtain⟨W1,hW1⟩:∃ W,W=w.alloc (.cells #[.slice A g.ids.length c0,.slice A2 g.ports.length c2] 28):=⟨_,rfl⟩;have hbox:W1.cell? ⟨w.heap.size,1,none⟩=some (.slice A2 g.ports.length c2):=by subst hW1;simp
  have HbW:=Lib.hid (show Below w.heap.size w W1 by subst hW1;exact(Below.refl _ _).alloc (Nat.le_refl _) _)
  rw[<- hW1]
  clear hW1
  go_loopg [21] c.length (fun q t wr=>∃ v n:Nat,q+v=c.length/\t = .int .i64 v/\wr=W1.drewN n/\Hid (∀ (u:Nat) s,u<v->c[u]? = some s->yex (ydm g G u) s))
  case atStart=>exact⟨0,0,by omega,rfl,rfl,Lib.hid (fun u s hu=>absurd hu (by omega))⟩
  case round =>
   obtain⟨v,n,hq,rfl,rfl,hok⟩:=hrel
   by_cases hlt:v<c.length
   ·obtain⟨b3,off3,sv,rfl,hb3,hcs,hs⟩:=yfw (Hc.out.below (Stable.sl Stable.int) HbW.out) (List.getElem?_eq_getElem hlt);obtain⟨A5,c5,rfl,hE1,hE2⟩:=ybl hs;obtain⟨s,hse⟩:∃ s,c[v]=s:=⟨_,rfl⟩;have Hs?:=Lib.hid (show c[v]? = some s by rw[List.getElem?_eq_getElem hlt,hse])
    rw[hse]at hs hcs hE1;have Hbad:=Lib.hid (show ¬ yex (ydm g G v) s->ynx g.ports.length (ydm g G) c=false from fun h=>yjb (fun hc=>h (hc.2 v s Hs?.out)))
    have Hs:=Lib.hid hs
    clear hs hse
    by_cases c1:s.length=G.length
    ·have c1':((s.length:Int) != (G.length:Int))=false:=by simp[c1]
     have Hsl:=Lib.hid c1
     clear c1
     have hvp:v<g.ports.length:=by rw[<- Hn.out];exact hlt
     go_wp2
     obtain⟨go,rfl⟩:∃ go,go=gk:=⟨_,rfl⟩
     go_loopg [33] s.length (fun q t wr=>∃ x n:Nat,q+x=s.length/\t = .int .i64 x/\wr=W1.drewN n/\Hid (∀ (j:Nat) b z,j<x->(ydm g G v)[j]? = some b->s[j]? = some z->b.1<=z/\z<=b.2))
     case atStart=>exact⟨0,n,by omega,rfl,rfl,Lib.hid (fun j b z hj=>absurd hj (by omega))⟩
     case round =>
      obtain⟨x,n,hqx,rfl,rfl,hst⟩:=hrel
      by_cases hxl:x<s.length
      ·have hxG:x<G.length:=by rw[<- Hsl.out];exact hxl
       obtain⟨b5,o5,rfl,hb5,hc5,hr5⟩:=yfj (Hs.out) hxl;obtain⟨b6,o6,rfl,hb6,hc6,hr6⟩:=yfj (HG.out.below Stable.int HbW.out) hxG;obtain⟨b7,o7,lv,rfl,hb7,hc7,hl7⟩:=yfw (Hp.out.below (Stable.sl Stable.link) HbW.out) (List.getElem?_eq_getElem hvp);obtain⟨A8,c8,rfl,hF1,hF2⟩:=ybl hl7;obtain⟨ds,hds⟩:∃ ds,g.ports[v]=ds:=⟨_,rfl⟩;have hdeg:ybsm g v=ds.length:=by simp[ybsm,List.getD,List.getElem?_eq_getElem hvp,hds]
       rw[hds]at hc7 hF1;obtain⟨y,hy⟩:∃ y,s[x]=y:=⟨_,rfl⟩;obtain⟨h,hh⟩:∃ h,G[x]=h:=⟨_,rfl⟩;have Hy?:=Lib.hid (show s[x]? = some y by rw[List.getElem?_eq_getElem hxl,hy])
       have hb?:(ydm g G v)[x]? = some (if h = -1 then(-1,(ds.length:Int) - 1)else(0,h)):=by
        simp[ydm,hxG,hh,hdeg]
       rw[hy]at hc5 hr5;rw[hh]at hc6 hr6;obtain⟨hr5a,hr5b⟩:=hr5;obtain⟨hr6a,hr6b⟩:=hr6
       clear hl7 hds hdeg hy hh
       by_cases c2:h = -1
       ·have c2':(h == -1)=true:=by simp[c2]
        rw[if_pos c2]at hb?;have Hb?:=Lib.hid hb?
        clear hb? c2
        by_cases c3:y < -1
        ·have Hf:=Lib.hid (Hbad.out (fun h=>by have:=h.2 x _ y Hb?.out Hy?.out;simp only at this;omega))
         go_wp2
         go_quiet (fail)
         go_wp2
         go_quiet (fail)
         go_wp2
         go_ret
         exact⟨ybi Hf.out.symm,below_drewN HbW.out _⟩
        ·by_cases c4:(ds.length:Int) - 1<y
         ·have Hf:=Lib.hid (Hbad.out (fun h=>by have:=h.2 x _ y Hb?.out Hy?.out;simp only at this;omega))
          go_wp2
          go_quiet (fail)
          go_wp2
          go_quiet (fail)
          go_wp2
          go_ret
          exact⟨ybi Hf.out.symm,below_drewN HbW.out _⟩
         ·have c4d:decide ((ds.length:Int) - 1<y)=false:=by simp;omega
          go_wp2
          go_quiet (fail)
          go_wp2
          go_quiet (fail)
          go_wp2
          go_roundg (gk - 1)
          case measure=>omega
          case rel =>
           refine⟨x+1,_,by omega,by go_num,rfl,Lib.hid (fun j b z hj hb hz=>?_)⟩
           by_cases hjx:j<x
           ·exact hst.out j b z hjx hb hz
           ·obtain rfl:j=x:=by omega
            rw[Hb?.out]at hb;rw[Hy?.out]at hz;cases hb
            cases hz
            simp only;omega
       ·have c2':(h == -1)=false:=by simp[c2]
        rw[if_neg c2]at hb?;have Hb?:=Lib.hid hb?
        clear hb? c2
        by_cases c3:y<0
        ·have Hf:=Lib.hid (Hbad.out (fun h=>by have:=h.2 x _ y Hb?.out Hy?.out;simp only at this;omega))
         go_wp2
         go_quiet (fail)
         go_wp2
         go_ret
         exact⟨ybi Hf.out.symm,below_drewN HbW.out _⟩
        ·by_cases c4:h<y
         ·have Hf:=Lib.hid (Hbad.out (fun h=>by have:=h.2 x _ y Hb?.out Hy?.out;simp only at this;omega))
          go_wp2
          go_quiet (fail)
          go_wp2
          go_ret
          exact⟨ybi Hf.out.symm,below_drewN HbW.out _⟩
         ·have c4d:decide (h<y)=false:=by simp;omega
          go_wp2
          go_quiet (fail)
          go_wp2
          go_roundg (gk - 1)
          case measure=>omega
          case rel =>
           refine⟨x+1,_,by omega,by go_num,rfl,Lib.hid (fun j b z hj hb hz=>?_)⟩
           by_cases hjx:j<x
           ·exact hst.out j b z hjx hb hz
           ·obtain rfl:j=x:=by omega
            rw[Hb?.out]at hb;rw[Hy?.out]at hz;cases hb
            cases hz
            simp only;omega
      ·obtain rfl:x=s.length:=by omega
       go_wp2
       go_roundg (go - 1)
       case measure=>omega
       case rel =>
        refine⟨v+1,_,by omega,by go_num,rfl,Lib.hid (fun u s' hu hs'=>?_)⟩
        by_cases huv:u<v
        ·exact hok.out u s' huv hs'
        ·obtain rfl:u=v:=by omega
         rw[Hs?.out]at hs';cases hs'
         refine⟨by rw[ylg,Hsl.out],fun j b z hb hz=>hst.out j b z (List.getElem?_eq_some_iff.1 hz).1 hb hz⟩
    ·have c1':((s.length:Int) != (G.length:Int))=true:=by simp;omega
     have Hf:=Lib.hid (Hbad.out (fun h=>c1 (by rw[h.1,ylg])))
     clear c1
     go_wp2
     go_ret
     exact⟨ybi Hf.out.symm,below_drewN HbW.out _⟩
   ·obtain rfl:v=c.length:=by omega
    have Ht:=Lib.hid (ywz (n:=g.ports.length) (bs:=ydm g G) (c:=c) ⟨Hn.out,fun v s hs=>hok.out v s (List.getElem?_eq_some_iff.1 hs).1 hs⟩)
    go_wp2
    go_ret
    exact⟨ybi Ht.out.symm,below_drewN HbW.out _⟩
 ·have n1':((c.length:Int) != (g.ids.length:Int))=true:=by simp;omega
  have Hf:=Lib.hid (yjb (n:=g.ports.length) (bs:=ydm g G) (c:=c) (fun h=>n1 (h.1.trans hid.symm)))
  clear n1 hid
  go_enter Tryz.func79,Tryz.ntmps79
  go_wp2
  go_ret
  exact⟨ybi Hf.out.symm,(Below.refl _ _).alloc (Nat.le_refl _) _⟩
end Go.Proofs.YtpngeppkgoaimaaGreatDoor

namespace Go.Proofs.YtpngeppkgoaimaaGreatDoor
open Go.RowKit

end Go.Proofs.YtpngeppkgoaimaaGreatDoor

namespace Go.Proofs.YtpngeppkgoaimaaGreatDoor
open Go.RowKit

theorem ybub(g:Gr)(v:Int):-1<=eccP g v/\eccP g v<=1000:=by
 unfold eccP;split
 ·rename_i h
  have hgood:=(ycg g).1 (ygu h.1);refine⟨yit _,yjq _ _ (by omega) (fun x hx=>?_)⟩
  have:=(ycd hgood (a:=v.toNat) (by omega)).bound hgood (by omega) x hx
  omega
 ·omega

end Go.Proofs.YtpngeppkgoaimaaGreatDoor

