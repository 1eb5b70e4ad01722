/- For every input, PathsAdd returns true, and its arguments read as before; the listed table is tied to the program's text. -/
import Derived.Test.YtpngeppkgoaimaaGreatDoorPkPp16
import Derived.Test.YtpngeppkgoaimaaGreatDoorPkPpx0
import Derived.Test.YtpngeppkgoaimaaGreatDoorPkPp15
import Derived.Test.YtpngeppkgoaimaaGreatDoorPkPpx1
import Derived.Test.YtpngeppkgoaimaaGreatDoorTie
import Derived.Test.YtpngeppkgoaimaaGreatDoorCards
import Derived.LaidMore
import Derived.Stop.Joined
import Derived.SevenTiedAt
set_option linter.unusedSimpArgs false
set_option linter.unusedVariables false
namespace Go.Proofs.YtpngeppkgoaimaaGreatDoor
namespace Sh
theorem ybnl(a:Nat):difB a a=0:=(ycl _).2 fun i=>by rw[yjf];cases a.testBit i<;>rfl
theorem ybge(S:Sys):∀ (ws:List Nat) (c:Conf) (k:Cnt),k.pend=S.en c -> ∀ (i:Nat) p,(S.run resS ws c k)[i]? = some p->p.2.rounds=k.rounds+i+1/\p.2.pend=S.en p.1
 | [],c,k,_,i,p,h=>by simp[Sys.run]at h
 | w :: ws,c,k,hk,i,p,h=>by
  unfold Sys.run at h;split at h
  ·simp at h
  ·have e:resS (S.en c) w=S.en c:=rfl;rw[e]at h
   have hr:(addP k (S.en c) (S.en (S.mv c (S.en c)))).rounds=k.rounds+1/\(addP k (S.en c) (S.en (S.mv c (S.en c)))).pend=S.en (S.mv c (S.en c)):=by
    unfold addP;rw[hk,ybnl];simp
   cases i with
   | zero =>
    simp only[List.getElem?_cons_zero]at h;cases h
    exact⟨hr.1,hr.2⟩
   | succ i =>
    have:=ybge S ws _ _ hr.2 i p (by simpa using h)
    rw[hr.1]at this;exact⟨by omega,this.2⟩
theorem yblc{S:Sys}{ws:List Nat}{c:Conf}{i:Nat}{p:Conf × Cnt}(h:(S.runs resS ws c)[i]? = some p):p.2.rounds=i:=by
 cases i with
 | zero =>
  simp only[Sys.runs,List.getElem?_cons_zero]at h;cases h
  rfl
 | succ i =>
  have:=(ybge S ws c (ycz (S.en c)) rfl i p (by simpa [Sys.runs]using h)).1
  have e:(ycz (S.en c)).rounds=0:=rfl;omega
theorem ybfz(S:Sys)(res:Nat->Nat->Nat):∀ (ws:List Nat) (c:Conf) (k:Cnt),(S.run res ws c k).length<ws.length->S.en (((c,k) :: S.run res ws c k).getD (S.run res ws c k).length default).1=0
 | [],c,k,h=>by simp at h
 | w :: ws,c,k,h=>by
  unfold Sys.run at h ⊢
  by_cases h0:S.en c=0
  ·simp only[if_pos h0];exact h0
  ·simp only[if_neg h0,List.length_cons]at h ⊢;exact ybfz S res ws _ _ (by omega)
theorem RunD.over{S:Sys}{res:Nat->Nat->Nat}{ws:List Nat}{c:Conf}{n:Nat}{Cs:List Conf}{Ks:List Cnt}(h:RunD S res ws c n Cs Ks):S.en (Cs.getD (n - 1) [])=0\/n=ws.length+1:=by
 by_cases q:n=ws.length+1
 ·exact .inr q
 ·left
  have hl:=h.len;have h1:=h.le
  have h2:=ybfz S res ws c (ycz (S.en c)) (by
   simp only[Sys.runs,List.length_cons]at hl;omega)
  have e:(S.run res ws c (ycz (S.en c))).length=n - 1:=by simp only[Sys.runs,List.length_cons]at hl;omega
  rw[e]at h2;have h3:=(h.at_ (show n - 1<n by have:=h.pos;omega)).2
  have e2:((c,ycz (S.en c)) :: S.run res ws c (ycz (S.en c))).getD (n - 1) default=(Cs.getD (n - 1) [],Ks.getD (n - 1) default):=by
   rw[List.getD_eq_getElem?_getD];have h3:((c,ycz (S.en c)) :: S.run res ws c (ycz (S.en c)))[n - 1]? = some (Cs.getD (n - 1) [],Ks.getD (n - 1) default):=h3;rw[h3];rfl
  rw[e2]at h2;exact h2
theorem ybds{f:Int × Int->Bool}{ls:List (Int × Int)}(h:∃ l ∈ ls,f l=true):∃ i:Nat,ygb f ls=i/\i<ls.length/\f (ls.getD i (0,0))=true:=by
 unfold ygb;cases hq:ls.findIdx? f with
 | none =>
  obtain⟨l,h1,h2⟩:=h;have:=List.findIdx?_eq_none_iff.1 hq l h1;rw[h2]at this;cases this
 | some i =>
  obtain⟨h1,h2,_⟩:=List.findIdx?_eq_some_iff_getElem.1 hq;exact⟨i,rfl,h1,by rw[getD_at h1];exact h2⟩
section
variable {nm nd np nt nl:ByteArray} {g:Gr}
end
end Sh
end Go.Proofs.YtpngeppkgoaimaaGreatDoor

namespace Go.Proofs.YtpngeppkgoaimaaGreatDoor
open Go
namespace Sh
open Ev Go.RowKit
set_option maxRecDepth 8000
theorem ybke{g:Gr}(hI:GrI g):Returns Tryz.prog 53 [grV g] (.b (yeb g)):=by
 refine yzu ⟨_,_,Tryz.func53,rfl⟩ (fun _=>.b) (fun _=>.simple rfl) fun G m us hG hr φ M w us' hRl hs hv=>?_;obtain⟨u,rfl,h1⟩:=rvl1 hr;obtain⟨u',rfl,h2⟩:=yez hv;exact ybah u' g w (ycao hG h1 h2 hRl hs hI)
theorem ycrn(x lo hi:Int):Returns Tryz.prog 54 [.i .i64 x,.i .i64 lo,.i .i64 hi] (.b (decide (x >= lo) && decide (x<=hi))):=by
 refine Returns.of (ydat _ _ ?_);simp only[c54,ydex,ydbq,sim_b,go_sem,Nat.reduceEqDiff,Nat.reduceAdd,↓reduceIte,reduceCtorEq]
 by_cases h:x >= lo<;>simp[h]
theorem ytf{R:List Int}{x:Int}{ls:List (Int × Int)}{i:Nat}(hi:i<ls.length):yia R x (ls.take (i+1))=(yia R x (ls.take i) || decide (R[(ls.getD i (0,0)).1.toNat]? = some x)):=by
 unfold yia;rw[List.take_succ_eq_append_getElem hi,List.any_append,getD_at hi];simp
def yhy(d:Int)(R:List Int)(v:Nat)(ls:List (Int × Int)):List Int:=if decide (R.getD v 0<0) && yia R (d - 1) ls then R.set v d else R
theorem ybji{R:List Int}{x:Int}{ls:List (Int × Int)}{i:Nat}(h:yia R x (ls.take i)=true):yia R x ls=true:=by
 unfold yia at *;obtain⟨l,h1,h2⟩:=List.any_eq_true.1 h;exact List.any_eq_true.2 ⟨l,List.mem_of_mem_take h1,h2⟩
theorem ybua{d:Int}(hd:1<=d){R:List Int}{v:Nat}(hv:v<R.length){ls:List (Int × Int)}(h:(yhy d R v ls).getD v 0<0):yhy d R v ls=R/\R.getD v 0<0/\yia R (d - 1) ls=false:=by
 unfold yhy at h ⊢;split at h
 ·rename_i hc
  rw[List.getD_eq_getElem?_getD,List.getElem?_set_self hv]at h;simp at h;omega
 ·rename_i hc
  rw[if_neg hc];refine⟨rfl,h,?_⟩;cases hq:yia R (d - 1) ls with
  | false=>rfl
  | true=>exact absurd (by rw[decide_eq_true h,hq];rfl) hc
theorem ybma{d:Int}{R:List Int}{v:Nat}{ls:List (Int × Int)}{i:Nat}(h:¬ (yhy d R v (ls.take i)).getD v 0<0)(hd:1<=d):yhy d R v (ls.take i)=yhy d R v ls:=by
 unfold yhy at h ⊢
 by_cases h0:R.getD v 0<0
 ·by_cases h1:yia R (d - 1) (ls.take i)=true
  ·rw[decide_eq_true h0,h1,ybji h1]
  ·rw[if_neg (by simp[h1])]at h
   exact absurd h0 h
 ·rw[decide_eq_false h0,Bool.false_and,Bool.false_and]
theorem ybnh(g:Gr)(d:Int)(R:List Int)(v:Nat):(ynd g d R v).length=R.length:=by unfold ynd;split<;>simp
theorem ypm(g:Gr)(d:Int):∀ (l:List Nat) (R:List Int),(l.foldl (ynd g d) R).length=R.length
 | [],_=>rfl
 | v :: l,R=>by rw[List.foldl_cons,ypm g d l,ybnh]
def yhu(g:Gr)(a d:Nat):List Int:=(List.range d).foldl (fun R d=>stepD g R (d+1)) (start g a)
theorem ytl(g:Gr)(a:Nat):∀ d,(yhu g a d).length=g.ports.length
 | 0=>by simp[yhu,start]
 | d+1=>by
  have:=ytl g a d;unfold yhu at *;rw[List.range_succ,List.foldl_append];show(stepD g _ _).length=_;rw[show ∀ R e,stepD g R e=(List.range g.ports.length).foldl (ynd g e) R from fun _ _=>rfl,ypm]
  exact this
set_option maxHeartbeats 2000000 in
theorem ybqi{g:Gr}(hg:yx g){a:Nat}(ha:a<g.ports.length):Returns Tryz.prog 23 [grV g,.i .i64 a] (yj (yeg g a)):=by
 refine Returns.of (ydbh _ _ ?_);have hV:=ybke (ywo hg);rw[(yje g).2 hg]at hV;have h24:=hg.2.1;obtain⟨n,hn⟩:∃ n,g.ports.length=n:=⟨_,rfl⟩;rw[hn]at ha h24;have hIn:=ycrn (a:Int) 0 ((n:Int) - 1);have e1:(decide ((a:Int) >= 0) && decide ((a:Int)<=(n:Int) - 1))=true:=by simp;omega
 rw[e1]at hIn;simp only[grV,yu,hn]at hV;simp only[c23,ydgp,yddt,grV,yu,hn,go_sem,Nat.reduceEqDiff,Nat.reduceAdd,Nat.reduceLT,↓reduceIte];refine hV.use ?_;simp only[thenO,go_sem,Nat.reduceEqDiff,Nat.reduceAdd,↓reduceIte,reduceCtorEq];refine⟨ikw (by omega) (by omega),hIn.use ?_⟩
 simp only[ycza,ydbi,ydbs,go_sem,Nat.reduceEqDiff,Nat.reduceAdd,↓reduceIte,reduceCtorEq]
 let B:Nat × Fam:=(2,.one (some ⟨28,true,2,1,fun _=>[yj g.ids,yu g.ports]⟩))
 refine ybc (σ:=Nat) (fun k=>⟨[(7,.i .i64 k),(5,.i .i64 n),(2,.pt (2,0) 0 0),(1,.i .i64 a),(6,.os (100,0) 0 k true)],[(100,.one (some ⟨3,false,1,k,fun _=>[.i .i64 (-1)]⟩)),B]⟩) (fun k=>k<=n) (fun k=>n - k) 0 (Nat.zero_le _) ?_ ?_
 ·refine yg [] [100] [] ?_;simp only[B,yu,hn,allQ,live,yc,Int.natCast_zero,go_sem,Nat.reduceEqDiff,Nat.reduceBEq,↓reduceIte,reduceCtorEq];exact⟨(100,0),rfl,rfl,rfl⟩
 intro k hk
 by_cases hlt:k<n
 ·have t1:decide ((k:Int)<(n:Int))=true:=decide_eq_true (by omega)
  simp only[ycuy,ydhe,ydcu,t1,B,splice,go_sem,Nat.reduceEqDiff,Nat.reduceAdd,Nat.reduceLeDiff,Nat.reduceLT,↓reduceIte,reduceCtorEq];refine⟨⟨by omega,by omega⟩,ikw (by omega) (by omega),?_⟩
  refine yh (k+1) (by omega) (by omega) ?_
  refine yg [(100,fun i=>(33,i))] [] [] ?_;simp only[yu,hn,allQ,live,yc,yw,go_sem,Nat.reduceEqDiff,↓reduceIte,reduceCtorEq];refine⟨by omega,fun i hi=>?_⟩
  by_cases q:i<k
  ·simp only[if_pos q];simp only[go_sem,live,yc,go_sem,reduceCtorEq]
  ·obtain rfl:i=k:=by omega
   simp only[if_neg q,Nat.sub_self,Nat.zero_mul];simp only[go_sem,live,yc,go_sem,reduceCtorEq]
 obtain rfl:k=n:=by omega
 have t1:decide ((k:Int)<(k:Int))=false:=decide_eq_false (by omega)
 simp only[ycuy,ycwp,ycdw,t1,B,splice,go_sem,Nat.reduceEqDiff,Nat.reduceAdd,↓reduceIte,reduceCtorEq];refine⟨⟨by omega,by omega⟩,by omega,?_⟩
 refine ybc (σ:=Nat) (fun d=>⟨[(8,.i .i64 ((d:Int)+1)),(5,.i .i64 k),(2,.pt (2,0) 0 0),(6,.os (100,0) 0 k true)],[(100,.one (some ⟨3,false,1,k,fun i=>[.i .i64 ((yhu g a d).getD i 0)]⟩)),B]⟩) (fun d=>d<=k - 1) (fun d=>k - d) 0 (Nat.zero_le _) ?_ ?_
 ·refine yg [] [] [] ?_;simp only[B,yu,hn,allQ,live,yc,yw,Int.natCast_zero,go_sem,Nat.reduceEqDiff,↓reduceIte,reduceCtorEq];refine⟨by omega,fun i hi=>?_⟩
  have e:(yhu g a 0).getD i 0=if i=a then 0 else -1:=by
   show((List.replicate g.ports.length (-1:Int)).set a 0).getD i 0=_;rw[List.getD_eq_getElem?_getD,List.getElem?_set,hn]
   by_cases q:a=i
   ·subst q;simp[hi]
   ·rw[if_neg q,if_neg (fun e=>q e.symm),List.getElem?_replicate,if_pos (by omega)]
    rfl
  rw[e]
  by_cases q:i=a
  ·simp only[if_pos q];simp only[go_sem,live,yc,go_sem,reduceCtorEq]
  ·simp only[if_neg q];simp only[go_sem,live,yc,go_sem,reduceCtorEq]
 intro d hd;have hld:=ytl g a d;rw[hn]at hld
 by_cases hlt:d<k - 1
 ·have t1:decide ((d:Int)+1<(k:Int))=true:=decide_eq_true (by omega)
  simp only[ybll,ycjv,t1,B,go_sem,Nat.reduceEqDiff,Nat.reduceAdd,↓reduceIte,reduceCtorEq];refine ybc (σ:=Nat) (fun v=>⟨[(9,.i .i64 v),(8,.i .i64 ((d:Int)+1)),(5,.i .i64 k),(2,.pt (2,0) 0 0),(6,.os (100,0) 0 k true)],[(100,.one (some ⟨3,false,1,k,fun i=>[.i .i64 (((List.range v).foldl (ynd g ((d+1:Nat):Int)) (yhu g a d)).getD i 0)]⟩)),B]⟩) (fun v=>v<=k) (fun v=>k - v) 0 (Nat.zero_le _) ?_ ?_
  ·refine yg [] [] [] ?_;simp only[B,yu,hn,allQ,live,yc,yw,Int.natCast_zero,go_sem,Nat.reduceEqDiff,↓reduceIte,reduceCtorEq];exact fun i hi=>rfl
  intro v hv;obtain⟨R,hR⟩:∃ R,(List.range v).foldl (ynd g ((d+1:Nat):Int)) (yhu g a d)=R:=⟨_,rfl⟩;have hlR:R.length=k:=by rw[<- hR,ypm,hld]
  rw[hR]
  by_cases hlt2:v<k
  ·have t2:decide ((v:Int)<(k:Int))=true:=decide_eq_true (by omega)
   obtain⟨ls,hls⟩:∃ ls,g.ports.getD v []=ls:=⟨_,rfl⟩;have hdl:=hg.deg_lt (v:=v);rw[hls]at hdl
   have hnxt:(List.range (v+1)).foldl (ynd g ((d+1:Nat):Int)) (yhu g a d)=yhy ((d+1:Nat):Int) R v ls:=by
    rw[List.range_succ,List.foldl_append,hR];show ynd g _ R v=_;unfold ynd yhy;rw[hls]
   simp only[ybou,ycdg,t2,B,go_sem,Nat.reduceEqDiff,Nat.reduceAdd,↓reduceIte,reduceCtorEq];refine ybc (σ:=Nat) (fun i=>⟨[(10,.i .i64 i),(9,.i .i64 v),(8,.i .i64 ((d:Int)+1)),(5,.i .i64 k),(2,.pt (2,0) 0 0),(6,.os (100,0) 0 k true)],[(100,.one (some ⟨3,false,1,k,fun j=>[.i .i64 ((yhy ((d+1:Nat):Int) R v (ls.take i)).getD j 0)]⟩)),B]⟩) (fun i=>i<=ls.length) (fun i=>ls.length - i) 0 (Nat.zero_le _) ?_ ?_
   ·refine yg [] [] [] ?_;simp only[B,allQ,live,yc,yw,Int.natCast_zero,go_sem,Nat.reduceEqDiff,↓reduceIte,reduceCtorEq];simp[yhy,yia]
   intro i hi
   by_cases hlt3:i<ls.length
   ·have t3:decide ((i:Int)<(ls.length:Int))=true:=decide_eq_true (by omega)
    by_cases hneg:(yhy ((d+1:Nat):Int) R v (ls.take i)).getD v 0<0
    ·have t4:decide ((yhy ((d+1:Nat):Int) R v (ls.take i)).getD v 0<0)=true:=decide_eq_true hneg;obtain⟨p1,p2,p3⟩:=ybua (d:=((d+1:Nat):Int)) (by omega) (by omega) hneg
     rw[p1]at t4 ⊢;simp only[ybgc,ycib,t3,t4,B,yu,yba,hls,go_sem,Nat.reduceEqDiff,Nat.reduceAdd,Nat.reduceLeDiff,↓reduceIte,reduceCtorEq];have hlk:=hg.ybo (v:=v) (p:=i) (by omega) (by rw[hls];exact hlt3)
     unfold ybo at hlk;rw[hls,hn]at hlk;obtain⟨to,hto⟩:∃ t:Nat,(ls.getD i (0,0)).1=t:=⟨(ls.getD i (0,0)).1.toNat,by omega⟩
     have hsn:=ytf (R:=R) (x:=((d+1:Nat):Int) - 1) hlt3;rw[hto,Int.toNat_natCast]at hsn ⊢;rw[hto]at hlk
     have hRt:R[to]? = some (R.getD to 0):=by
      have:to<R.length:=by omega
      simp[List.getD,this]
     refine⟨⟨by omega,by omega⟩,⟨by omega,by omega⟩,by omega,⟨by omega,by omega⟩,⟨by omega,by omega⟩,⟨by omega,by omega⟩,by omega,ikw (by omega) (by omega),fun hm=>?_,fun hm=>?_⟩
     ·have e2:yhy ((d+1:Nat):Int) R v (ls.take (i+1))=R.set v ((d+1:Nat):Int):=by
       unfold yhy;rw[hsn,hRt,decide_eq_true (congrArg some (show R.getD to 0=((d+1:Nat):Int) - 1 by omega)),Bool.or_true,decide_eq_true p2]
       rfl
      simp only[ybqu,yckg,splice,go_sem,Nat.reduceEqDiff,Nat.reduceAdd,↓reduceIte,reduceCtorEq];refine⟨⟨by omega,by omega⟩,by omega,ikw (by omega) (by omega),?_⟩
      refine yh (i+1) (by omega) (by omega) ?_
      refine yg [] [] [] ?_;simp only[e2,allQ,live,yc,yw,go_sem,Nat.reduceEqDiff,↓reduceIte,reduceCtorEq];refine⟨by omega,fun j hj=>?_⟩
      have e5:(R.set v ((d+1:Nat):Int)).getD j 0=if j=v then(d:Int)+1 else R.getD j 0:=by
       rw[List.getD_eq_getElem?_getD,List.getElem?_set]
       by_cases q:v=j
       ·subst q;simp[hlR,hlt2]
       ·rw[if_neg q,if_neg (fun e=>q e.symm),<- List.getD_eq_getElem?_getD]
      rw[e5]
      by_cases q:j=v
      ·simp only[if_pos q];simp only[go_sem,live,yc,go_sem,reduceCtorEq]
      ·simp only[if_neg q];simp only[go_sem,live,yc,go_sem,reduceCtorEq]
     ·have e2:yhy ((d+1:Nat):Int) R v (ls.take (i+1))=R:=by
       unfold yhy;have hne:decide (some (R.getD to 0)=some (((d+1:Nat):Int) - 1))=false:=decide_eq_false (fun q=>hm (by have:=Option.some.inj q;omega))
       rw[hsn,hRt,hne,Bool.or_false,p3,Bool.and_false];rfl
      simp only[ybqu,go_sem,Nat.reduceEqDiff,Nat.reduceAdd,↓reduceIte,reduceCtorEq];refine⟨ikw (by omega) (by omega),?_⟩
      refine yh (i+1) (by omega) (by omega) ?_
      refine yg [] [] [] ?_;simp only[e2,allQ,live,yc,yw,go_sem,Nat.reduceEqDiff,↓reduceIte,reduceCtorEq];omega
    ·have t4:decide ((yhy ((d+1:Nat):Int) R v (ls.take i)).getD v 0<0)=false:=decide_eq_false hneg;have e2:=ybma hneg (by omega)
     rw[e2]at t4 ⊢;simp only[ybne,ybgc,t3,t4,B,yu,yba,hls,go_sem,Nat.reduceEqDiff,Nat.reduceAdd,↓reduceIte,reduceCtorEq];refine⟨⟨by omega,by omega⟩,⟨by omega,by omega⟩,by omega,ikw (by omega) (by omega),?_⟩
     refine yh (v+1) (by omega) (by omega) ?_
     refine yg [] [] [] ?_;simp only[allQ,live,yc,yw,go_sem,Nat.reduceEqDiff,↓reduceIte,reduceCtorEq];exact⟨by omega,fun i hi=>by rw[<- List.range_succ,hnxt]⟩
   ·obtain rfl:i=ls.length:=by omega
    have t3:decide ((ls.length:Int)<(ls.length:Int))=false:=decide_eq_false (by omega)
    rw[List.take_length];simp only[ybne,ybgc,t3,B,yu,yba,hls,go_sem,Nat.reduceEqDiff,Nat.reduceAdd,↓reduceIte,reduceCtorEq];refine⟨⟨by omega,by omega⟩,ikw (by omega) (by omega),?_⟩
    refine yh (v+1) (by omega) (by omega) ?_
    refine yg [] [] [] ?_;simp only[allQ,live,yc,yw,go_sem,Nat.reduceEqDiff,↓reduceIte,reduceCtorEq];exact⟨by omega,fun i hi=>by rw[<- List.range_succ,hnxt]⟩
  ·obtain rfl:v=k:=by omega
   have t2:decide ((v:Int)<(v:Int))=false:=decide_eq_false (by omega)
   simp only[ycim,ybou,t2,B,go_sem,Nat.reduceEqDiff,Nat.reduceAdd,↓reduceIte,reduceCtorEq];refine⟨ikw (by omega) (by omega),?_⟩
   refine yh (d+1) (by omega) (by omega) ?_
   refine yg [] [] [] ?_
   have e3:yhu g a (d+1)=R:=by
    rw[<- hR];unfold yhu;rw[List.range_succ,List.foldl_append];show stepD g _ _=_;unfold stepD;rw[hn]
   simp only[e3,allQ,live,yc,yw,go_sem,Nat.reduceEqDiff,↓reduceIte,reduceCtorEq];omega
 ·have t1:decide ((d:Int)+1<(k:Int))=false:=decide_eq_false (by omega)
  obtain rfl:d=k - 1:=by omega
  have e4:yhu g a (k - 1)=yeg g a:=by unfold yhu yeg;rw[hn]
  rw[e4]at hld ⊢;simp only[ybll,ycjk,t1,B,go_sem,Nat.reduceEqDiff,Nat.reduceAdd,↓reduceIte,reduceCtorEq];unfold yj;rw[hld];exact Sim.refl _
end Sh
end Go.Proofs.YtpngeppkgoaimaaGreatDoor

namespace Go.Proofs.YtpngeppkgoaimaaGreatDoor
open Go
theorem yni{nm nd np nt nl:ByteArray}{g:Gr}{W:List Int}(hW:IsW g W)(hg:yx g){ws:List Nat}{c:Conf}{n:Nat}{Cs:List Conf}{Ks:List Cnt}(hv:ydk (ycy nm nd np nt nl) g c=true)(hD:Sh.RunD (ybk (ycy nm nd np nt nl) g) resS ws c n Cs Ks)(hw:(∀ v,v<g.ids.length->W.getD v 0<(ws.length:Int) * yei g)) :
  ydk (ycy nm nd np nt nl) g (Cs.getD (n - 1) [])=true/\ylw g W (Cs.getD (n - 1) []):=by
 have hpos:=hD.pos;have h1:=yqo hW hg Sh.ycwe hv _ (hD.at_ (show n - 1<n by omega)).1
 refine⟨h1.valid,?_⟩;rcases hD.over with h2 | h2
 ·exact(ybeq hW hg h1.valid).1 h2
 ·have h3:=Sh.yblc (hD.at_ (show n - 1<n by omega)).2
  intro v hn;have h4:=h1.all v hn;unfold ptR at h4;have h5:=hw v hn
  have e:(Ks.getD (n - 1) default).rounds=ws.length:=by
   have:(Ks.getD (n - 1) default).rounds=n - 1:=h3;omega
  rw[show((Cs.getD (n - 1) [],Ks.getD (n - 1) default):Conf × Cnt).2.rounds=ws.length from e,if_pos h5]at h4
  exact h4
namespace Sh
open Ev Go.RowKit
set_option maxRecDepth 8000
theorem ybpl{g:Gr}{W:List Int}{C:Conf}(hg:yx g)(hW:IsW g W)(hR:ylw g W C)(hl:C.length=g.ids.length){v:Nat}(hv:v<g.ids.length) :
  (v=0/\(towP g C 1).getD v 0 = -1)\/(v ≠ 0 /\ ∃ p,p<(g.ports.getD v []).length/\(towP g C 1).getD v 0=((g.ports.getD v []).getD p (0,0)).1/\W.getD ((g.ports.getD v []).getD p (0,0)).1.toNat 0+((g.ports.getD v []).getD p (0,0)).2=W.getD v 0):=by
 have hpl:=hg.2.2.1;rw[ybso (by omega),hR v hv]
 by_cases h0:v=0
 ·left
  refine⟨h0,?_⟩;show(if ygq g W v >= 0 then _ else _)=_
  unfold ygq;rw[if_pos h0,if_neg (by omega)]
 ·right
  refine⟨h0,?_⟩;show ∃ p,_/\(if ygq g W v >= 0 then((g.ports.getD v []).getD (ygq g W v).toNat (0,0)).1 else _)=_/\_
  obtain⟨l,hl,e⟩:=hW.from_ v (by omega) h0
  obtain⟨p,hp,hpl,he⟩:=ybds (f:=fun l=>W.getD l.1.toNat 0+l.2 == W.getD v 0) (ls:=g.ports.getD v []) ⟨l,hl,by simpa using e⟩
  refine⟨p,hpl,?_,by simpa using he⟩
  unfold ygq;rw[if_neg h0,hp,if_pos (by omega),Int.toNat_natCast]
theorem ybws{g:Gr}(hg:yx g){v i p:Nat}(hv:v<g.ports.length)(hi:i<(g.ports.getD v []).length)(hp:p<(g.ports.getD v []).length)(e:((g.ports.getD v []).getD i (0,0)).1=((g.ports.getD v []).getD p (0,0)).1):i=p:=by
 have h:=(hg.2.2.2.2.2.1 ⟨v,hv⟩).2;have e0:g.ports[v]=g.ports.getD v []:=by rw[getD_at hv]
 have h:((g.ports[v]).map (·.1)).Nodup:=h;rw[e0]at h;rw[getD_at hi,getD_at hp]at e;have hi':i<((g.ports.getD v []).map (·.1)).length:=by rw[List.length_map];exact hi
 have hp':p<((g.ports.getD v []).map (·.1)).length:=by rw[List.length_map];exact hp
 exact(List.getElem_inj (h₀:=hi') (h₁:=hp') h).1 (by rw[List.getElem_map,List.getElem_map];exact e)
set_option maxHeartbeats 4000000 in
theorem ycae{x:NetR}(hx:x.ok){raw:List Int}(hr:∀ k,inK .i64 (raw.getD k 0)){l:List Nat}(hb:∀ k,l.getD k 0<2 ^ 32):Returns Tryz.prog 9 [.ag (netC x),yj raw,usV l] (.b true):=by
 refine Returns.of (ydjh _ _ ?_);have hC:=yhi hx (most:=7) (by omega)
 simp only[netC]at hC;simp only[c9,c9_0,c9_1,netC,clash,go_sem,Nat.reduceEqDiff,Nat.reduceAdd,Nat.reduceLT,↓reduceIte];refine hC.found (V:=grV) (fun r g h=>h.2.2.2) fun r g h=>?_;obtain⟨hg,hcn,hn8,-⟩:=h;have hI:=ywo hg;obtain⟨W,hW⟩:=exW hg hcn;have hCh:Checked (Lies PqB Pqv) (Lies PqC Pqr) PqP g:=⟨hg,yvt,ypz hg,yov⟩;have hTx:=ykq;have hVs:=ykh;have hCf:=yjj hg yvt hCh.hf hr
 have hpl:=hg.2.2.1;have h24:=hg.2.1;simp only[grV]at hCf;simp(maxSteps:=5000000) only [thenO,c9_2,grV,clash,go_sem,Nat.reduceEqDiff,Nat.reduceAdd,Nat.reduceLT,↓reduceIte,reduceCtorEq];refine hTx.use ?_;simp(maxSteps:=5000000) only [go_sem];refine hVs.use ?_;simp(maxSteps:=5000000) only [go_sem,↓reduceIte];refine⟨by decide,hCf.found (V:=ybe) (fun r c h=>h.2) fun r c h=>?_⟩
 obtain⟨hcv,-⟩:=h;simp(maxSteps:=5000000) only [go_sem];refine⟨by decide,(yiw l hb 130 (by omega)).found (V:=usV) (fun r ws h=>h.2.2) fun r ws h=>?_⟩
 obtain⟨hwl,hw,-⟩:=h;have hRun:=yvq ygs hCh (kind:=4) (by omega) (ybsr _) hcv hw (by omega)
 obtain⟨n,Cs,Ks,hD⟩:=runD (ybk PqP g) resS ws c;have hlen:=hD.le;have hpos:=hD.pos
 obtain⟨hCv,hR⟩:=yni hW hg hcv hD (fun v hv=>by
  have h1:=hW.small v (by omega)
  obtain⟨w1,_,_⟩:=yhk hg;have:(ws.length:Int) * 1<=(ws.length:Int) * yei g:=Int.mul_le_mul_of_nonneg_left w1 (by omega)
  omega)
 obtain⟨C,hCe⟩:∃ C,Cs.getD (n - 1) []=C:=⟨_,rfl⟩;rw[hCe]at hCv hR;have hcf:=ycu hCv;have hLb:yds g W C=true:=(yjv hCv).2 hR;have hLg:=ymj hg hcn hW hCv;rw[hLb]at hLg;have hPa:=yys hg hcn hCv;simp only[grV]at hLg hPa;rw[hD.cs,hD.ks]at hRun;simp only[grV,yda,yfu,hD.lC,hD.lK]at hRun;have e1:((n:Int) - 1).toNat=n - 1:=by omega
 simp(maxSteps:=5000000) only [go_sem,↓reduceIte];refine⟨by decide,hRun.use ?_⟩
 simp(maxSteps:=5000000) only [thenO,c9_3,c9_5,c9_6,e1,hCe,clash,go_sem,Nat.reduceEqDiff,Nat.reduceAdd,↓reduceIte,reduceCtorEq];refine⟨by decide,ikw (by omega) (by omega),⟨by omega,by omega⟩,hPa.use ?_⟩
 obtain⟨T,hT⟩:∃ T,towP g C 1=T:=⟨_,rfl⟩;have hTl:T.length=C.length:=by rw[<- hT,ybes]
 obtain⟨nn,hnn⟩:∃ m,g.ports.length=m:=⟨_,rfl⟩;have hCl:C.length=nn:=by rw[hcf.len];omega
 rw[hCl]at hTl;have hpar:=fun v hv=>ybpl hg hW hR hcf.len (v:=v) hv;rw[hT]at hpar ⊢;have f1:((nn:Int) != (nn:Int))=false:=by simp
 simp(maxSteps:=5000000) only [thenO,c9_7,clash,go_sem,Nat.reduceEqDiff,Nat.reduceAdd,↓reduceIte,reduceCtorEq];refine hLg.use ?_;simp(maxSteps:=5000000) only [c9_9,yj,yu,hTl,hnn,f1,clash,go_sem,Nat.reduceEqDiff,Nat.reduceAdd,↓reduceIte,reduceCtorEq];have hWl:=hW.len;rw[hnn]at h24 hWl
 have hC2:∀ v,v<nn->(C.getD v []).length=2/\(C.getD v []).getD 0 0=W.getD v 0:=fun v hv=>by
  rw[hR v (by omega)]
  exact⟨rfl,rfl⟩
 refine ybc (σ:=Nat) (fun v=>⟨[(13,.i .i64 v),(12,yj T),(11,ybe C),(7,.pt (7,0) 0 0)],[(7,.one (some ⟨28,true,2,1,fun _=>[yj g.ids,yu g.ports]⟩))]⟩) (fun v=>v<=nn) (fun v=>nn - v) 0 (Nat.zero_le _) ?_ ?_
 ·refine yg [] [] [] ?_;simp only[yj,yu,hnn,hTl,allQ,live,yc,Int.natCast_zero,go_sem,Nat.reduceEqDiff,↓reduceIte,reduceCtorEq]
 intro v hv
 by_cases hlt:v<nn
 ·have t1:decide ((v:Int)<(nn:Int))=true:=decide_eq_true (by omega)
  obtain⟨L,hL⟩:∃ L,g.ports.getD v []=L:=⟨_,rfl⟩;obtain⟨d,hd⟩:∃ d,L.length=d:=⟨_,rfl⟩;have hdeg:=hg.deg_lt (v:=v);rw[hL,hd]at hdeg;have hpv:=hpar v (by omega)
  rw[hL,hd]at hpv;have hWv:=hW.pos v (by omega)
  have hWs:=hW.small v (by omega)
  obtain⟨hv2,hv3⟩:=hC2 v hlt;simp only[ycvv,ydej,t1,yj,hTl,clash,go_sem,Nat.reduceEqDiff,Nat.reduceAdd,↓reduceIte,reduceCtorEq];refine ybc (σ:=Nat) (fun i=>⟨[(14,.i .i64 i),(13,.i .i64 v),(12,yj T),(11,ybe C),(7,.pt (7,0) 0 0)],[(7,.one (some ⟨28,true,2,1,fun _=>[yj g.ids,yu g.ports]⟩))]⟩) (fun i=>i<=d) (fun i=>d - i) 0 (Nat.zero_le _) ?_ ?_
  ·refine yg [] [] [] ?_;simp only[yj,yu,hnn,hTl,allQ,live,yc,Int.natCast_zero,go_sem,Nat.reduceEqDiff,↓reduceIte,reduceCtorEq]
  intro i hi
  by_cases hlti:i<d
  ·have t2:decide ((i:Int)<(d:Int))=true:=decide_eq_true (by omega)
   have hm:L.getD i (0,0) ∈ g.ports.getD v []:=by rw[hL,getD_at (show i<L.length by omega)];exact List.getElem_mem _
   obtain⟨m1,m2,_,m4,m5⟩:=ybz hg (by omega) hm
   have hle:=hW.le v (by omega) _ hm
   have hWu:=hW.pos _ m2;have hWt:=hW.small _ m2;obtain⟨lk,hlk⟩:∃ lk,L.getD i (0,0)=lk:=⟨_,rfl⟩;rw[hlk]at m1 m2 m4 m5 hle hWu hWt;obtain⟨hu2,hu3⟩:=hC2 lk.1.toNat (by omega)
   have f2:decide (W.getD lk.1.toNat 0+lk.2<W.getD v 0)=false:=decide_eq_false (by omega)
   have f3:(T.getD v 0 == lk.1)=true->(W.getD lk.1.toNat 0+lk.2 != W.getD v 0)=false:=fun q=>by
    have q:=beq_iff_eq.1 q;rw[bne_eq_false_iff_eq];rcases hpv with⟨_,h⟩ | ⟨_,p,hp,hq,hs⟩
    ·omega
    ·have:i=p:=by
      refine ybws hg (v:=v) (by omega) (by rw[hL];omega) (by rw[hL];omega) ?_
      rw[hL,hlk,<- q,hq]
     subst this;rw[hlk]at hs;exact hs
   cases hb2:(T.getD v 0 == lk.1)with
   | true =>
    have f4:=f3 hb2;simp(maxSteps:=5000000) only [ybuu,ycqa,ycto,ycuj,yj,ybe,yu,yba,hnn,hL,hd,hlk,t2,hTl,hCl,hv2,hv3,hu2,hu3,f2,hb2,f4,clash,go_sem,Int.reduceToNat,Nat.reduceEqDiff,Nat.reduceAdd,Nat.reduceLeDiff,↓reduceIte,reduceCtorEq]
    repeat (first | refine⟨⟨by omega,by omega⟩,?_⟩ | refine⟨ikw (by omega) (by omega),?_⟩)
    refine yh (i+1) (by omega) (by omega) ?_
    refine yg [] [] [] ?_;simp only[allQ,live,yc,yw,go_sem,Nat.reduceEqDiff,↓reduceIte,reduceCtorEq];omega
   | false =>
    simp(maxSteps:=5000000) only [ybuu,ycqa,ycto,ycuj,yj,ybe,yu,yba,hnn,hL,hd,hlk,t2,hTl,hCl,hv2,hv3,hu2,hu3,f2,hb2,clash,go_sem,Int.reduceToNat,Nat.reduceEqDiff,Nat.reduceAdd,Nat.reduceLeDiff,↓reduceIte,reduceCtorEq]
    repeat (first | refine⟨⟨by omega,by omega⟩,?_⟩ | refine⟨ikw (by omega) (by omega),?_⟩)
    refine yh (i+1) (by omega) (by omega) ?_
    refine yg [] [] [] ?_;simp only[allQ,live,yc,yw,go_sem,Nat.reduceEqDiff,↓reduceIte,reduceCtorEq];omega
  ·obtain rfl:i=d:=by omega
   have t2:decide ((i:Int)<(i:Int))=false:=decide_eq_false (by omega)
   rcases hpv with⟨h0,h⟩ | ⟨h0,p,hp,hq,hs⟩
   ·have g1:decide (T.getD v 0<0)=true:=decide_eq_true (by omega)
    have g2:((v:Int) == 0)=true:=by rw[beq_iff_eq];omega
    simp only[ybuu,ycus,yctp,yj,yu,yba,hnn,hL,hd,t2,hTl,g1,g2,clash,go_sem,Nat.reduceEqDiff,Nat.reduceAdd,↓reduceIte,reduceCtorEq]
    repeat (first | refine⟨⟨by omega,by omega⟩,?_⟩ | refine⟨ikw (by omega) (by omega),?_⟩)
    refine yh (v+1) (by omega) (by omega) ?_
    refine yg [] [] [] ?_;simp only[yj,ybe,hCl,allQ,live,yc,yw,go_sem,Nat.reduceEqDiff,↓reduceIte,reduceCtorEq];omega
   ·have hm:L.getD p (0,0) ∈ g.ports.getD v []:=by rw[hL,getD_at (show p<L.length by omega)];exact List.getElem_mem _
    obtain⟨m1,_⟩:=ybz hg (by omega) hm
    have g1:decide (T.getD v 0<0)=false:=decide_eq_false (by omega)
    have g2:((v:Int) == 0)=false:=by rw[beq_eq_false_iff_ne];omega
    simp only[ybuu,ycus,yctp,yj,yu,yba,hnn,hL,hd,t2,hTl,g1,g2,clash,go_sem,Nat.reduceEqDiff,Nat.reduceAdd,↓reduceIte,reduceCtorEq]
    repeat (first | refine⟨⟨by omega,by omega⟩,?_⟩ | refine⟨ikw (by omega) (by omega),?_⟩)
    refine yh (v+1) (by omega) (by omega) ?_
    refine yg [] [] [] ?_;simp only[yj,ybe,hCl,allQ,live,yc,yw,go_sem,Nat.reduceEqDiff,↓reduceIte,reduceCtorEq];omega
 ·obtain rfl:v=nn:=by omega
  have t1:decide ((v:Int)<(v:Int))=false:=decide_eq_false (by omega)
  have hK:=yhg;have hp1:=hg.1;obtain⟨hv2,hv3⟩:=hC2 0 (by omega)
  rw[hW.root]at hv3;simp only[ycvv,yczb,t1,yj,hTl,clash,go_sem,Nat.reduceEqDiff,Nat.reduceAdd,↓reduceIte,reduceCtorEq];refine hK.use ?_;simp only[thenO,ybe,yj,hCl,hv2,hv3,clash,go_sem,Int.reduceToNat,Nat.reduceEqDiff,Nat.reduceAdd,↓reduceIte,reduceCtorEq]
  repeat (refine⟨⟨by omega,by omega⟩,?_⟩)
  exact Sim.refl _
end Sh
end Go.Proofs.YtpngeppkgoaimaaGreatDoor

namespace Go.Proofs.YtpngeppkgoaimaaGreatDoor
open Go.ChangeShapes Go.WideShapes Go.ChangeAt Go.RowKit Go.Joins Go.WideMaps Go.WideElems
set_option linter.unusedVariables false

set_option maxRecDepth 100000 in
theorem pathsAdd_door(os:Os)(args:Array Value):laidMetH Tryz.prog Rows.pathsAddRow.laid ((World.doorLaid Tryz.prog 14 os).forCall (fun _ _=>0) ⟨#[],args,[]⟩).memory :=
 laidMetH_of_parts3 (fuel:=8) (laidMet_of_run' 8 (by kernel_rfl) (by kernel_rfl)) (by kernel_rfl) (by kernel_rfl)

set_option maxRecDepth 100000 in
theorem pathsAdd_lifted(os:Os)(started:os.Started)(H:Type)(enc:TypeId × Value->H) :
  ReturnsInHanded {} Tryz.checked os 9 .any (fun w args=>(Rows.pathsAddSpec.pre enc Tryz.prog Tryz.f9 [] false w args/\laidMetH Tryz.prog Rows.pathsAddRow.laid w)/\sizedMet enc Tryz.prog Tryz.f9 (OpenSpec.ofChange Rows.pathsAddSpec) false w args)
   (Rows.pathsAddSpec.post enc Tryz.prog Tryz.f9 false true false false):=by
 refine returnsInHanded_of_change_and (C:=Tryz.checked) (X:=fun w _=>laidMetH Tryz.prog Rows.pathsAddRow.laid w) (fun _ _ _ hh h=>h.of_heap hh) own started (by kernel_rfl) Tryz.func9
  (ChangeSpec.witness_shaped (enc:=enc) (C:=Tryz.checked) (os:=os) (X:=fun w _=>laidMetH Tryz.prog Rows.pathsAddRow.laid w) false (World.doorLaid Tryz.prog 14 os) #[.agg #[.int .i64 0,.slice .none 0 0,.slice .none 0 0,.slice .none 0 0,.bool false,.bool false],.slice .none 0 0,.slice .none 0 0] 8 rfl (World.shaped_of_RefB (by kernel_rfl) (by kernel_rfl)) (by kernel_rfl) (by kernel_rfl) (by kernel_rfl) (pathsAdd_door os _)) ?_
 intro W base args ds gs before hval0 hW _ _ hL _;have hval:∀ (j:Nat) t v,Tryz.f9.params[j]? = some t->args[j]? = some v->Value.okWide Tryz.prog W .any base t v:=hval0;have hW':=hW;obtain⟨p,q,hA0,hV,rfl,hfz,hnd⟩:=hW;have hA:DataW.TrodAll enc Tryz.prog W 0 (fun _=>true) true Tryz.f9.params.toList args.toList ds p:=hA0;rw[Tryz.params9]at hA hval;obtain⟨v0,vs0,d0,ds0,p0,q0,hargs,rfl,rfl,h0,r0⟩:=trodAll_cons hA
 obtain⟨v1,vs1,d1,ds1,p1,q1,rfl,rfl,rfl,h1,r1⟩:=trodAll_cons r0;obtain⟨v2,vs2,d2,ds2,p2,q2,rfl,rfl,rfl,h2,r2⟩:=trodAll_cons r1;obtain⟨rfl,rfl,rfl⟩:=trodAll_nil r2;obtain rfl:args = #[v0,v1,v2]:=by cases args;simp_all
 obtain⟨rfl,rfl⟩:=trodVars_none hV;have k0:=h0;have k1:=h1;have k2:=h2;have lt0:∀ x ∈ p0,x.block<W.heap.size:=by obtain⟨m,hm⟩:=k0;exact DataW.trod_lt m _ _ _ hm
 have lt1:∀ x ∈ p1,x.block<W.heap.size:=by obtain⟨m,hm⟩:=k1;exact DataW.trod_lt m _ _ _ hm
 have lt2:∀ x ∈ p2,x.block<W.heap.size:=by obtain⟨m,hm⟩:=k2;exact DataW.trod_lt m _ _ _ hm
 obtain⟨x0,u0,hx0,rr0,a0⟩:=Sh.ykk (hval 0 24 v0 rfl rfl) h0;obtain⟨m1,hm1⟩:=h1;obtain⟨A1,len1,cap1,rfl⟩:=okWide_slice Tryz.underlying22 (hval 1 22 v1 rfl rfl);obtain⟨x1,hx1,u1,a1,rr1⟩:=Sh.yfl (v:=.slice A1 len1 cap1) hm1;obtain⟨m2,hm2⟩:=h2;obtain⟨A2,len2,cap2,rfl⟩:=okWide_slice Tryz.underlying25 (hval 2 25 v2 rfl rfl);obtain⟨x2,hx2,u2,a2,rr2⟩:=Sh.yos (v:=.slice A2 len2 cap2) hm2
 clear hA0 hval0
 have ha:Sh.RVL (Sh.memW W).b.get Sh.om0 [.ag (Sh.netC x0),Sh.yj x1,Sh.usV x2] [u0,u1,u2]:=.cons rr0 (.cons rr1 (.cons rr2 .nil));have hv:Ev.VRL (Sh.phiW W) [u0,u1,u2] [v0,.slice A1 len1 cap1,.slice A2 len2 cap2]:=.cons a0 (.cons (Sh.ydu a1) (.cons (Sh.ydu a2) .nil));refine(Sh.yiz (Sh.ycae hx0 (Sh.yqe hx1) hx2) ⟨_,_,Tryz.func9,rfl⟩ Ev.yli ha hv).mono fun e W' ⟨he,bel⟩=>?_
 subst he;exact⟨_,rfl,_,_,_,[],_,[],hW',trodAll_mk1 (shut_bool Tryz.underlying4 _),(trodAll_cons_mk (Below.trod laidOut (by kernel_rfl) (of_decide_eq_true (by kernel_rfl)) k0 bel lt0) (trodAll_cons_mk (Below.trod laidOut (by kernel_rfl) (of_decide_eq_true (by kernel_rfl)) k1 bel lt1) (trodAll_cons_mk (Below.trod laidOut (by kernel_rfl) (of_decide_eq_true (by kernel_rfl)) k2 bel lt2) trodAll_mk0))),rfl,bel.frame _,fun h=>by cases h⟩

theorem pathsAdd_over:Rows.PathsAddSaid :=
 OpenClaim.holds_of_wide 9 Tryz.f9 rfl rfl rfl rfl rfl rfl rfl ⟨rfl,rfl,rfl,rfl,rfl⟩ rfl rfl rfl rfl rfl (by kernel_rfl) Tryz.func9 (by kernel_rfl)
  (of_decide_eq_true (by kernel_rfl)) (by unfold Func.isWrapper;first | (rw[if_pos (by decide +kernel)];kernel_rfl) | (rw[if_neg (by decide +kernel)];exact⟨rfl,rfl⟩))
  (fun os started H enc _=>pathsAdd_lifted os started H enc)

theorem pathsAdd_holds:Rows.PathsAddCardSaid :=
 Claim7.holds_tied_plain_at .later [] [.data] true Rows.pathsAddCard.stood.harness true
  pathsAdd_over (fun _ h=>by cases h) (by kernel_rfl) (fun _ h=>by cases h) pathsAdd_row_tie rfl ⟨rfl,rfl⟩ (by kernel_rfl) rfl
  (fun f fn hf hfn=>by
   obtain rfl:f=9:=Option.some.inj ((show Tryz.prog.funcNamed Rows.pathsAddRow.func=some 9 by kernel_rfl).symm.trans hf) |>.symm
   obtain rfl:fn=Tryz.f9:=(Option.some.inj (Tryz.func9.symm.trans hfn)).symm
   exact⟨by kernel_rfl,fun j t ht=>by
    rw[Tryz.params9]at ht;have hm:t ∈ [24,22,25]:=by simpa using Array.mem_of_getElem? ht
    have hall:([24,22,25].all fun u=>!Tryz.prog.wantsStandIn u)=true:=by kernel_rfl
    exact(show Tryz.prog.wantsStandIn t=false by simpa using List.all_eq_true.1 hall t (by simpa using hm))⟩)
  (by kernel_rfl)
#print axioms pathsAdd_holds
end Go.Proofs.YtpngeppkgoaimaaGreatDoor

