/- Joined. -/
import Derived.Test.YtiejahgklcjhkaaGreatPkX13
import Derived.Lib.TrailingZeros
import Derived.Deep.RegionHeld3
set_option linter.unusedSimpArgs false
set_option linter.unusedVariables false
set_option maxRecDepth 8000
open Nat renaming reduceEqDiff→zA,reduceAdd→zB,reduceLT→zF,reduceLeDiff→zI,le_refl→zJ,pow_lt_pow_right→zT,zero_le→zV,testBit_two_pow_sub_one→zW,testBit_two_pow→zAD,not_lt_zero→zAN,testBit_or→zAP
open List renaming getElem?_eq_getElem→zC,range→zG,mem_of_getElem?→zL,range_succ→zM,length_cons→zQ,getD_eq_getElem?_getD→zX,getD→zAA,getD_cons_zero→zAE,getD_cons_succ→zAF,filter_append→zAG,length_append→zAH,mem_cons_self→zAI,foldl_append→zAK,all_eq_true→zAL,take_length→zAM
open Go.Lib renaming hid→zD
open Go.Proofs.Tryz renaming prog→zH,func48→zAC,ntmps48→zAJ
open Int renaming natCast_zero→zK,toNat_natCast→zN,reduceToNat→zU,tdiv_eq_ediv_of_nonneg→zY,mul_nonneg→zAR,mul_le_mul→zAS
open Bool renaming true_and→zO,and_eq_true→zS,not_eq_true'→zZ,eq_iff_iff→zAB,or_eq_true→zAO,false_and→zAQ
open Go
namespace Go.Proofs.YtiejahgklcjhkaaGreat
section
namespace Sh
open Ev Go.RowKit
theorem ybnx(l:List Nat):one1 (usV l)=true:=rfl
theorem ybgj{n:Nat}(l:List Nat):owned (n+1) (usV l)=false:=rfl
theorem ybdb{n:Nat}(l:List Nat):scalar (n+1) (usV l)=false:=rfl
theorem ybnz{n:Nat}(o:Own)(l:List Nat):view o (n+1) (usV l)=usV l:=rfl
theorem ybsm{n:Nat}(o:Own)(l:List Nat):vok o (n+1) (usV l)=True:=rfl
theorem ybul{n:Nat}(h:Nm->Nm)(l:List Nat):ren h (n+1) (usV l)=usV l:=rfl
theorem ybrv{n:Nat}(D:Nm->Bool)(l:List Nat):cln D (n+1) (usV l)=true:=rfl
theorem ybjr{n:Nat}(fr:List Nm)(o:Own)(l:List Nat):ycr fr o (n+1) (usV l)=usV l:=rfl
theorem ybwb{n:Nat}(fr:List Nm)(o:Own)(l:List Nat):pok fr o (n+1) (usV l)=True:=rfl
theorem ybkz(l:List Nat):SV.cells (usV l)=[usV l]:=rfl
theorem yzl(l:List Conf):one1 (yfs l)=true:=rfl
theorem ywt{n:Nat}(l:List Conf):owned (n+1) (yfs l)=false:=rfl
theorem yrl{n:Nat}(l:List Conf):scalar (n+1) (yfs l)=false:=rfl
theorem ybac{n:Nat}(o:Own)(l:List Conf):view o (n+1) (yfs l)=yfs l:=rfl
theorem ybda{n:Nat}(o:Own)(l:List Conf):vok o (n+1) (yfs l)=True:=rfl
theorem ybcs{n:Nat}(h:Nm->Nm)(l:List Conf):ren h (n+1) (yfs l)=yfs l:=rfl
theorem ybed{n:Nat}(D:Nm->Bool)(l:List Conf):cln D (n+1) (yfs l)=true:=rfl
theorem ywl{n:Nat}(fr:List Nm)(o:Own)(l:List Conf):ycr fr o (n+1) (yfs l)=yfs l:=rfl
theorem ybcy{n:Nat}(fr:List Nm)(o:Own)(l:List Conf):pok fr o (n+1) (yfs l)=True:=rfl
theorem ywp(l:List Conf):SV.cells (yfs l)=[yfs l]:=rfl
theorem ybea(l:List Cnt):one1 (ykc l)=true:=rfl
theorem yzr{n:Nat}(l:List Cnt):owned (n+1) (ykc l)=false:=rfl
theorem yvz{n:Nat}(l:List Cnt):scalar (n+1) (ykc l)=false:=rfl
theorem ybew{n:Nat}(o:Own)(l:List Cnt):view o (n+1) (ykc l)=ykc l:=rfl
theorem ybji{n:Nat}(o:Own)(l:List Cnt):vok o (n+1) (ykc l)=True:=rfl
theorem ybgs{n:Nat}(h:Nm->Nm)(l:List Cnt):ren h (n+1) (ykc l)=ykc l:=rfl
theorem ybge{n:Nat}(D:Nm->Bool)(l:List Cnt):cln D (n+1) (ykc l)=true:=rfl
theorem yxr{n:Nat}(fr:List Nm)(o:Own)(l:List Cnt):ycr fr o (n+1) (ykc l)=ykc l:=rfl
theorem yblh{n:Nat}(fr:List Nm)(o:Own)(l:List Cnt):pok fr o (n+1) (ykc l)=True:=rfl
theorem yyz(l:List Cnt):SV.cells (ykc l)=[ykc l]:=rfl
theorem ybpy(l:List Bool):one1 (blV l)=true:=rfl
theorem ybjj{n:Nat}(l:List Bool):owned (n+1) (blV l)=false:=rfl
theorem ybdo{n:Nat}(l:List Bool):scalar (n+1) (blV l)=false:=rfl
theorem ybly{n:Nat}(o:Own)(l:List Bool):view o (n+1) (blV l)=blV l:=rfl
theorem ybrw{n:Nat}(o:Own)(l:List Bool):vok o (n+1) (blV l)=True:=rfl
theorem ybuo{n:Nat}(h:Nm->Nm)(l:List Bool):ren h (n+1) (blV l)=blV l:=rfl
theorem ybsj{n:Nat}(D:Nm->Bool)(l:List Bool):cln D (n+1) (blV l)=true:=rfl
theorem ybiv{n:Nat}(fr:List Nm)(o:Own)(l:List Bool):ycr fr o (n+1) (blV l)=blV l:=rfl
theorem ybwa{n:Nat}(fr:List Nm)(o:Own)(l:List Bool):pok fr o (n+1) (blV l)=True:=rfl
theorem ybiw(l:List Bool):SV.cells (blV l)=[blV l]:=rfl
attribute [go_sem] ybnx ybgj ybdb ybnz ybsm ybul ybrv ybjr ybwb ybkz yzl ywt yrl ybac ybda ybcs ybed ywl ybcy ywp ybea yzr yvz ybew ybji ybgs ybge yxr yblh yyz ybpy ybjj ybdo ybly ybrw ybuo ybsj ybiv ybwa ybiw
theorem Ct.found{P:Program}{g:FuncId}{args:List SV}{α:Type}{R:SV->α->Prop}{V:α->SV}{Q:SV->Prop}(h:Ct P g args fun r=>∃x,R r x)(hs:∀r x,R r x->Sim r (V x))(hq:∀r x,R r x->Q (V x)):Ct P g args Q:=fun G m us h1 h2 h3=>by
 obtain⟨v,m',r,a,b,c,⟨x,hx⟩,e⟩:=h G m us h1 h2 h3;exact⟨v,m',V x,a,b,c,hq r x hx,hs r x hx _ _ _ e⟩
structure RunD(S:Sys)(res:Nat->Nat->Nat)(ws:List Nat)(c:Conf)(n:Nat)(Cs:List Conf)(Ks:List Cnt):Prop where
 cs:(S.runs res ws c).map (·.1)=Cs
 ks:(S.runs res ws c).map (·.2)=Ks
 len:(S.runs res ws c).length=n
 pos:0<n
 le:n<=ws.length+1
theorem RunD.at_{S:Sys}{res:Nat->Nat->Nat}{ws:List Nat}{c:Conf}{n:Nat}{Cs:List Conf}{Ks:List Cnt}(h:RunD S res ws c n Cs Ks){k:Nat}(hk:k<n):(Cs.getD k [],Ks.getD k default)∈S.runs res ws c/\(S.runs res ws c)[k]?=some (Cs.getD k [],Ks.getD k default):=by
 have hk':k<(S.runs res ws c).length:=by rw[h.len];exact hk
 have e:(S.runs res ws c)[k]=(Cs.getD k [],Ks.getD k default):=by
  rw[<-h.cs,<-h.ks];simp[zAA,hk']
 exact⟨by rw[<-e];exact List.getElem_mem hk',by rw[<-e];exact zC hk'⟩
theorem RunD.last{S:Sys}{res:Nat->Nat->Nat}{ws:List Nat}{c:Conf}{n:Nat}{Cs:List Conf}{Ks:List Cnt}(h:RunD S res ws c n Cs Ks){k:Nat}(hk:k+1<n):S.en (Cs.getD k [])≠0:=by
 have h1:=(h.at_ (show k<n by omega)).2
 exact Sys.runs_last (by rw[h.len];exact hk) h1
end Sh
end
section
namespace Sh
theorem ybcf(S:Sys)(res:Nat->Nat->Nat):∀(ws:List Nat) (c:Conf) (k:Cnt),(S.run res ws c k).length<ws.length->S.en (((c,k)::S.run res ws c k).getD (S.run res ws c k).length default).1=0
 |[],c,k,h=>by simp at h
 | w :: ws,c,k,h=>by
   unfold Sys.run at h ⊢
   by_cases h0:S.en c=0
   ·simp only[if_pos h0];exact h0
   ·simp only[if_neg h0,zQ]at h ⊢;exact ybcf S res ws _ _ (by omega)
theorem RunD.over{S:Sys}{res:Nat->Nat->Nat}{ws:List Nat}{c:Conf}{n:Nat}{Cs:List Conf}{Ks:List Cnt}(h:RunD S res ws c n Cs Ks):S.en (Cs.getD (n-1) [])=0\/n=ws.length+1:=by
 by_cases q:n=ws.length+1
 ·exact .inr q
 ·left
  have hl:=h.len;have h1:=h.le
  have h2:=ybcf S res ws c (yft (S.en c)) (by
   simp only[Sys.runs,zQ]at hl;omega)
  have e:(S.run res ws c (yft (S.en c))).length=n-1:=by simp only[Sys.runs,zQ]at hl;omega
  rw[e]at h2;have h3:=(h.at_ (show n-1<n by have:=h.pos;omega)).2
  have e2:((c,yft (S.en c))::S.run res ws c (yft (S.en c))).getD (n-1) default=(Cs.getD (n-1) [],Ks.getD (n-1) default):=by
   rw[zX];have h3:((c,yft (S.en c))::S.run res ws c (yft (S.en c)))[n-1]?=some (Cs.getD (n-1) [],Ks.getD (n-1) default):=h3;rw[h3];rfl
  rw[e2]at h2;exact h2
end Sh
end
section
section
variable {nm np na nb nw:ByteArray}{g:Gr}{c:Conf}{u v s:Nat}
end
end
section
section
variable {nm np na nb nw:ByteArray}{g:Gr}{c:Conf}{u v s:Nat}
theorem ybpe(hg:ybj g):∀u,¬adj g u u:=fun u h=>by
 obtain⟨hu,_⟩:=hg.adj_lt h;obtain⟨l,hl,e⟩:=ygo.1 h;have e3:g.ports[u]?=some (g.ports.getD u []):=by simp[zAA,hu]
 exact(hg.link e3 hl).2.2.1 e
def ycjm(g:Gr)(s:Nat):List Nat:=(zG g.ids.length).filter s.testBit
theorem yzn{α:Type}(f:α->Bool)(l:List α)(x:α):((l++[x]).filter f).length=(l.filter f).length+(f x).toNat:=by
 rw[zAG,zAH];cases h:f x<;>simp[h]
theorem ylu(s:Nat):∀n,yfl s n=((zG n).filter s.testBit).length
 |0=>rfl
 | n+1=>by
   rw[zM,yzn,<-ylu s n];rfl
structure MtJ(nm np na nb nw:ByteArray)(g:Gr)(c:Conf)(k:Cnt):Prop where
 valid:ybzo (ycch nm np na nb nw) g c=true
 moves:∃I,PtI g (toP g c) I/\2*k.moves+potN g (toP g c) I<=2*g.ports.length+2*ydg g
end
end
section
theorem ybvb{s n:Nat}:yfl s n=1↔∃v,v<n/\∀i,i<n->(s.testBit i=true↔i=v):=by
 rw[ylu];have mem:∀i,i∈(zG n).filter s.testBit↔i<n/\s.testBit i=true:=fun i=>by rw[List.mem_filter,List.mem_range]
 constructor
 ·intro h;obtain⟨a,ha⟩:=List.length_eq_one_iff.1 h;rw[ha]at mem;have h0:=(mem a).1 zAI;refine⟨a,h0.1,fun i hi=>⟨fun hb=>?_,fun e=>by rw[e];exact h0.2⟩⟩
  have:=(mem i).2 ⟨hi,hb⟩
  simpa using this
 ·rintro⟨v,hv,h⟩
  have h1:=yjm (l1:=(zG n).filter s.testBit) (l2:=[v]) (List.nodup_range.filter _) fun x hx=>by
   have:=(mem x).1 hx;rw[(h x this.1).1 this.2];exact zAI
  have h2:=List.length_pos_of_mem ((mem v).2 ⟨hv,(h v hv).2 rfl⟩);simp only[zQ,List.length_nil]at h1;omega
def ledB(c:Conf)(k:Nat):Nat:=(zG k).foldl (fun s v=>s|||(lAt c v).toNat*2^v) 0
theorem ybkh{c:Conf}(n:Nat)(hl:∀v,v<n->lAt c v=0\/lAt c v=1):∀k,k<=n->∀i,(ledB c k).testBit i=true↔i<k/\lAt c i=1
 |0,_,i=>⟨fun h=>by simp[ledB]at h,fun h=>absurd h.1 (zAN _)⟩
 | k + 1,hk,i=>by
   have e:ledB c (k+1)=ledB c k|||(lAt c k).toNat*2^k:=by unfold ledB;rw[zM,zAK];rfl
   rw[e,zAP,zAO,ybkh n hl k (by omega) i]
   rcases hl k (by omega)with q|q
   ·rw[q];simp only[Int.toNat_zero,Nat.zero_mul,Nat.zero_testBit,Bool.false_eq_true,or_false];constructor
    ·rintro⟨a,b⟩;exact⟨by omega,b⟩
    ·rintro⟨a,b⟩;refine⟨?_,b⟩
     by_cases r:i=k
     ·subst r;omega
     ·omega
   ·rw[q];have:(1:Int).toNat*2^k=2^k:=by rw[show(1:Int).toNat=1 from rfl,Nat.one_mul]
    rw[this,zAD,decide_eq_true_iff];constructor
    ·rintro(⟨a,b⟩|a)
     ·exact⟨by omega,b⟩
     ·subst a;exact⟨by omega,q⟩
    ·rintro⟨a,b⟩
     by_cases r:k=i
     ·exact .inr r
     ·exact .inl ⟨by omega,b⟩
theorem yboo{g:Gr}(h:Tr g){c:Conf}(hc:ElC g c)(hH:ybch g c):(yfl (ledB c g.ids.length) 32=1/\∀i,(ledB c g.ids.length).testBit i=true->i<g.ports.length/\Peak g i)↔yzb g c:=by
 have hpl:=h.good.2.2.1;have h24:=h.good.2.1;have bit:=ybkh g.ids.length (c:=c) (fun v hv=>(hc.row v hv).2.2) g.ids.length (zJ _);rw[ybvb];constructor
 ·rintro⟨⟨v,hv,h1⟩,h2⟩;have hb:=(h1 v hv).2 rfl;have hb':=(bit v).1 hb;exact⟨hH,v,hb'.1,(h2 v hb).2,hb'.2,fun u hu e=>(h1 u (by omega)).1 ((bit u).2 ⟨hu,e⟩)⟩
 ·rintro⟨_,v,hv,hp,h1,h2⟩;refine⟨⟨v,by omega,fun i hi=>⟨fun hb=>?_,fun e=>?_⟩⟩,fun i hb=>?_⟩
  ·have:=(bit i).1 hb;exact h2 i this.1 this.2
  ·rw[e];exact(bit v).2 ⟨hv,h1⟩
  ·have:=(bit i).1 hb;rw[h2 i this.1 this.2];exact⟨by omega,hp⟩
end
section
def ydq(g:Gr)(c:Conf):Bool:=ybs g&&ylo g.ports.length (ycu g [(g.ids.length:Int),1]) c
def ymr(g:Gr)(c:Conf):Bool:=(zG c.length).all fun v=>!(hAt c v != htP g v)
def ybkq(g:Gr)(c:Conf):Bool:=((popP (ledB c c.length):Int)==1)&&((difB (ledB c c.length) (yed (htP g) g):Int)==0)
def ybl(g:Gr)(c:Conf):Bool:=ydq g c&&(ymr g c&&ybkq g c)
theorem ydx{g:Gr}{c:Conf}(h:ydq g c=true):ybs g=true/\c.length=g.ports.length/\∀v,v<c.length->(c.getD v []).length=2/\(0<=hAt c v/\hAt c v<=g.ids.length)/\(lAt c v=0\/lAt c v=1):=by
 unfold ydq at h;rw[zS]at h;have hck:=(ypb _ _ _).1 h.2;refine⟨h.1,hck.1,fun v hv=>?_⟩;have h2:=hck.2 v _ (zC hv);have e:c[v]=c.getD v []:=by rw[Sh.getD_at hv]
 rw[e]at h2;have hne:¬(g.ids.length:Int) = -1:=by omega
 have eb:ycu g [(g.ids.length:Int),1] v=[(0,(g.ids.length:Int)),(0,1)]:=by simp[ycu,hne]
 rw[eb]at h2;have hl:(c.getD v []).length=2:=h2.1;have h3:=h2.2 0 (0,(g.ids.length:Int)) (hAt c v) rfl (by unfold hAt;rw[Sh.getD_at (show 0<(c.getD v []).length by omega)];exact zC _)
 have h4:=h2.2 1 (0,1) (lAt c v) rfl (by unfold lAt;rw[Sh.getD_at (show 1<(c.getD v []).length by omega)];exact zC _)
 simp only at h3 h4;exact⟨hl,h3,by omega⟩
theorem ycer{g:Gr}{c:Conf}(hg:ybj g)(h:ydq g c=true):ElC g c:=by
 obtain⟨_,h1,h2⟩:=ydx h;have hpl:=hg.2.2.1;exact⟨by omega,fun v hv=>h2 v (by omega)⟩
section
variable {nm nh nl nf nd nt ni:ByteArray}{g:Gr}
theorem yti(h:Tr g){c:Conf}(hq:ydq g c=true):ybl g c=true↔yzb g c:=by
 obtain⟨_,hl,_⟩:=ydx hq;have hC:=ycer h.good hq;have hpl:=h.good.2.2.1;have h24:=h.good.2.1;have hcl:c.length=g.ids.length:=by omega
 unfold ybl ymr ybkq;rw[hq,zO,zS,zS,zAL,beq_iff_eq,beq_iff_eq,hcl]
 have hHt:(∀x∈zG g.ids.length,(!(hAt c x != htP g x))=true)↔ybch g c:=by
  constructor
  ·intro q v hv;have:=q v (List.mem_range.2 hv);rw[zZ,bne_eq_false_iff_eq]at this;exact this
  ·intro q v hv;rw[zZ,bne_eq_false_iff_eq];exact q v (List.mem_range.1 hv)
 rw[hHt]
 have hz:∀H:ybch g c,(((popP (ledB c g.ids.length):Int))=1/\((difB (ledB c g.ids.length) (yed (htP g) g):Nat):Int)=0)↔yzb g c:=fun H=>by
  rw[<-yboo h hC H];refine and_congr ?_ ?_
  ·unfold popP;omega
  ·have e:((difB (ledB c g.ids.length) (yed (htP g) g):Nat):Int)=0↔difB (ledB c g.ids.length) (yed (htP g) g)=0:=by omega
   rw[e,ymt];constructor
   ·intro q i hb;have:=q i;rw[ygp,hb,zO,Bool.not_eq_false']at this;exact(yju h.good).1 this
   ·intro q i;rw[ygp];cases hb:(ledB c g.ids.length).testBit i with
    |false=>rfl
    |true=>rw[(yju h.good).2 (q i hb)];rfl
 exact⟨fun⟨a,b⟩=>(hz a).1 b,fun r=>⟨r.1,(hz r.1).2 r⟩⟩
end
end
section
namespace Sh
open Go Ev
def c8_0:LO:=[o3 (.box 25 (.tmp 0)) 1 0,o3 (.mv (.const (.bool false))) 2 0]
def c8_1:LO:=[ld' true 2 1 3 0,cl' 39 [3] 4 1,mv' 4 2 3]
def c8:SC:=(.seq (.reg false c8_0) (.seq (.reg false c8_1) .ret))
theorem ychj:Fn 8 c8 [.t 2]:=fn_0 Tryz.func8 (by kernel_rfl) (by kernel_rfl)
def ybse:LO:=[o3 (.box 25 (.tmp 0)) 2 0,o3 (.mv (.const (.bool false))) 4 0]
def ybxa:LO:=[ld' true 2 2 10 0,cl' 8 [10] 11 1,o3 (.un .not (.tmp 11)) 12 3,mv' 12 13 7,⟨.load true 2 (.tmp 2),some 14,some (13,false),15⟩,⟨.mv (.tmp 1),some 15,some (13,false),15⟩,⟨.faddr 0 1 (.tmp 2),some 16,some (13,false),15⟩,⟨.load false 1 (.tmp 16),some 17,some (13,false),79⟩,⟨.len (.tmp 17),some 18,some (13,false),207⟩,⟨.bslice 3 1 2 [.i .i64 0,.i .i64 0] [(0,1,(.tmp 18)),(1,1,(ci' 1))],some 19,some (13,false),463⟩,⟨.call (.func 41) [(.tmp 14),(.tmp 15),(.tmp 19)],some 20,some (13,false),1023⟩,⟨.un .not (.tmp 20),some 21,some (13,false),2047⟩,o3 (.pick (.tmp 13) (.const (.bool true)) (.tmp 21)) 22 4095]
def ybxb:LO:=[o3 (.mv (.const (.bool false))) 4 0]
def ycbx:LO:=[ld' true 2 2 23 0,cl' 42 [23] 24 1,o3 (.alloc 22 1 [.a (.slice none 0 0)]) 5 0,o0 (.store 1 (.tmp 5) (.tmp 24)) 7]
def ybyv:LO:=[o3 (.mv (.const (.int .u32 0))) 6 0]
def ycby:LO:=[mv' 1 25 0,ln' 25 26 1,o3 (.mv (ci' 0)) 27 0]
def yboe:LO:=[bn' .lss 27 26 28 0]
def ybuq:LO:=[mv' 27 29 0,ix' 1 25 27 30 0,ld' false 1 30 31 2,mv' 29 7 7,mv' 31 8 15]
def ybsc:LO:=[mv' 8 32 0,o3 (.idx 1 (.tmp 32) (ci' 0)) 33 1,ld' false 1 33 34 3,ld' false 1 5 35 0,mv' 7 36 0,ix' 1 35 36 37 24,ld' false 1 37 38 56,bn' .neq 34 38 39 127]
def ycci:LO:=[o3 (.mv (.const (.bool false))) 4 0]
def ybqn:LO:=[mv' 6 40 0,mv' 8 41 0,o3 (.idx 1 (.tmp 41) (ci' 1)) 42 2,ld' false 1 42 43 6,o3 (.conv .u32 (.tmp 43)) 44 14,mv' 7 45 0,bn' .shl 44 45 46 62,bn' .or 40 46 47 127,mv' 47 6 255]
def ybqw:LO:=[o3 (.bin .add (.tmp 27) (ci' 1)) 48 0,mv' 48 27 1]
def ybrl:LO:=[ld' true 2 2 49 0,o3 (.mkfn 44 [] [(.tmp 5)]) 50 0,cl' 43 [49,50] 51 3,mv' 51 9 7]
def ybrj:LO:=[mv' 6 52 0,cl' 45 [52] 53 1,o3 (.bin .eql (.tmp 53) (ci' 1)) 54 3,mv' 54 55 7,⟨.mv (.tmp 6),some 56,some (55,true),15⟩,⟨.mv (.tmp 9),some 57,some (55,true),15⟩,⟨.bin .andNot (.tmp 56) (.tmp 57),some 58,some (55,true),63⟩,⟨.bin .eql (.tmp 58) (.const (.int .u32 0)),some 59,some (55,true),127⟩,o3 (.pick (.tmp 55) (.tmp 59) (.const (.bool false))) 60 255,mv' 60 4 511]
def c10:SC:=(.seq (.reg false ybse) (.seq (.seq (.reg false ybxa) (.cond (.tmp 22) (.seq (.reg false ybxb) .ret) .skip)) (.seq (.reg false ycbx) (.seq (.reg false ybyv) (.seq (.seq (.reg false ycby) (.block 0 (.loop (.seq (.reg false yboe) (.seq (.cond (.tmp 28) .skip (.exit 0)) (.seq (.block 1 (.seq (.reg false ybuq) (.seq (.seq (.reg true ybsc) (.cond (.tmp 39) (.seq (.reg false ycci) .ret) .skip)) (.reg false ybqn)))) (.reg false ybqw))))))) (.seq (.reg false ybrl) (.seq (.reg false ybrj) .ret)))))))
theorem ycen:Fn 10 c10 [.t 4]:=fn_0 Tryz.func10 (by kernel_rfl) (by kernel_rfl)
def ycef:LO:=[o3 (.mv (ci' 0)) 3 0]
def ybyg:LO:=[ld' false 1 1 4 0,mv' 0 5 0,ix' 1 4 5 6 3,ld' false 1 6 7 7,mv' 7 3 15]
def c44:SC:=(.seq (.reg false ycef) (.seq (.reg false ybyg) .ret))
theorem ybyw:Fn 44 c44 [.t 3]:=fn_0 Tryz.func44 (by kernel_rfl) (by kernel_rfl)
def ybta:LO:=[o3 (.box 25 (.tmp 0)) 1 0,o3 (.alloc 31 1 [.i .i64 0,.b false,.b false,.i .i64 0,.i .i64 0]) 2 0]
def ybvk:LO:=[ld' true 2 1 3 0,cl' 8 [3] 4 1,o3 (.un .not (.tmp 4)) 5 3]
def ybzz:LO:=[o3 (.build [.i .i64 0,.b false,.b false,.i .i64 0,.i .i64 0] []) 6 0,o0 (.store 5 (.tmp 2) (.tmp 6)) 1]
def ycfv:LO:=[ld' true 2 1 7 0,cl' 46 [7] 8 1,o3 (.bin .quo (.tmp 8) (ci' 2)) 9 3,o3 (.bin .add (.tmp 9) (ci' 2)) 10 7,o3 (.build [.i .i64 0,.b false,.b false,.i .i64 0,.i .i64 0] [(0,1,(ci' 2)),(2,1,(.const (.bool true))),(3,1,(.tmp 10)),(4,1,(.const (.int .i64 (-1))))]) 11 15,o0 (.store 5 (.tmp 2) (.tmp 11)) 31]
def c12:SC:=(.seq (.reg false ybta) (.seq (.seq (.reg false ybvk) (.cond (.tmp 5) (.seq (.reg false ybzz) .ret) .skip)) (.seq (.reg false ycfv) .ret)))
theorem ycbk:Fn 12 c12 [.c 2 true 5]:=fn_0 Tryz.func12 (by kernel_rfl) (by kernel_rfl)
def ybwc:LO:=[o3 (.box 25 (.tmp 0)) 2 0,o3 (.mv (ci' 0)) 4 0]
def ybvr:LO:=[ld' true 2 2 7 0,mv' 1 8 0,cl' 10 [7,8] 9 3,o3 (.un .not (.tmp 9)) 10 7]
def yccw:LO:=[o3 (.mv (.const (.int .i64 (-1)))) 4 0]
def ybzm:LO:=[mv' 1 11 0,ln' 11 12 1,o3 (.mv (ci' 0)) 13 0]
def ybwx:LO:=[bn' .lss 13 12 14 0]
def ybvm:LO:=[mv' 13 15 0,ix' 1 11 13 16 0,ld' false 1 16 17 2,mv' 15 5 7,mv' 17 6 15]
def ybvw:LO:=[mv' 6 18 0,o3 (.idx 1 (.tmp 18) (ci' 1)) 19 1,ld' false 1 19 20 3,o3 (.bin .eql (.tmp 20) (ci' 1)) 21 7]
def ycfo:LO:=[mv' 5 22 0,mv' 22 4 1]
def ycdo:LO:=[o3 (.bin .add (.tmp 13) (ci' 1)) 23 0,mv' 23 13 1]
def ycjj:LO:=[o3 (.mv (.const (.int .i64 (-1)))) 4 0]
def c14:SC:=(.seq (.reg false ybwc) (.seq (.seq (.reg false ybvr) (.cond (.tmp 10) (.seq (.reg false yccw) .ret) .skip)) (.seq (.seq (.reg false ybzm) (.block 0 (.loop (.seq (.reg false ybwx) (.seq (.cond (.tmp 14) .skip (.exit 0)) (.seq (.block 1 (.seq (.reg false ybvm) (.seq (.reg false ybvw) (.cond (.tmp 21) (.seq (.reg false ycfo) .ret) .skip)))) (.reg false ycdo))))))) (.seq (.reg false ycjj) .ret))))
theorem ybrp:Fn 14 c14 [.t 4]:=fn_0 Tryz.func14 (by kernel_rfl) (by kernel_rfl)
def ycbe:LO:=[o3 (.mv (.const (.slice none 0 0))) 0 0]
def ycaf:LO:=[o3 (.call (.func 85) [(.const (.string (ByteArray.mk #[104]))),(ci' 0),(ci' 1),(ci' 0)]) 1 0,o3 (.call (.func 86) [(.const (.string (ByteArray.mk #[108])))]) 2 1,o3 (.bslice 93 6 2 [.a (.string (ByteArray.mk #[])),.i .i64 0,.i .i64 0,.i .i64 0,.i .i64 0,.i .i64 0,.a (.string (ByteArray.mk #[])),.i .i64 0,.i .i64 0,.i .i64 0,.i .i64 0,.i .i64 0] [(0,6,(.tmp 1)),(6,6,(.tmp 2))]) 3 3,mv' 3 0 7]
def c49:SC:=(.seq (.reg false ycbe) (.seq (.reg false ycaf) .ret))
theorem yccu:Fn 49 c49 [.t 0]:=fn_0 Tryz.func49 (by kernel_rfl) (by kernel_rfl)
def c9_0:LO:=[o3 (.box 25 (.tmp 0)) 1 0,o3 (.mv (.const (.bool false))) 2 0]
def c9_1:LO:=[ld' true 2 1 3 0,cl' 40 [3] 4 1,mv' 4 2 3]
def c9:SC:=(.seq (.reg false c9_0) (.seq (.reg false c9_1) .ret))
theorem ycha:Fn 9 c9 [.t 2]:=fn_0 Tryz.func9 (by kernel_rfl) (by kernel_rfl)
def ybvv:LO:=[o3 (.box 25 (.tmp 0)) 1 0,o3 (.alloc 31 1 [.i .i64 0,.b false,.b false,.i .i64 0,.i .i64 0]) 2 0]
def ybuz:LO:=[ld' true 2 1 3 0,cl' 9 [3] 4 1,o3 (.un .not (.tmp 4)) 5 3]
def ybyk:LO:=[o3 (.build [.i .i64 0,.b false,.b false,.i .i64 0,.i .i64 0] []) 6 0,o0 (.store 5 (.tmp 2) (.tmp 6)) 1]
def ybyf:LO:=[ld' true 2 1 7 0,cl' 47 [7] 8 1,o3 (.bin .quo (.tmp 8) (ci' 2)) 9 3,o3 (.bin .add (.tmp 9) (ci' 2)) 10 7,o3 (.build [.i .i64 0,.b false,.b false,.i .i64 0,.i .i64 0] [(0,1,(ci' 2)),(2,1,(.const (.bool true))),(3,1,(.tmp 10)),(4,1,(.const (.int .i64 (-1))))]) 11 15,o0 (.store 5 (.tmp 2) (.tmp 11)) 31]
def c13:SC:=(.seq (.reg false ybvv) (.seq (.seq (.reg false ybuz) (.cond (.tmp 5) (.seq (.reg false ybyk) .ret) .skip)) (.seq (.reg false ybyf) .ret)))
theorem ycdn:Fn 13 c13 [.c 2 true 5]:=fn_0 Tryz.func13 (by kernel_rfl) (by kernel_rfl)
end Sh
end
section
namespace Sh
open Go Ev
def yceo:LO:=[o3 (.mv (.const (.int .u32 0))) 2 0]
def yccq:LO:=[o3 (.mv (.const (.int .u32 0))) 3 0]
def ycaq:LO:=[o3 (.mv (ci' 0)) 4 0]
def ybwf:LO:=[mv' 4 5 0,mv' 0 6 0,bn' .lss 5 6 7 3,mv' 7 8 7,⟨.mv (.tmp 4),some 9,some (8,true),15⟩,⟨.bin .lss (.tmp 9) (ci' 32),some 10,some (8,true),31⟩,o3 (.pick (.tmp 8) (.tmp 10) (.const (.bool false))) 11 63]
def ycej:LO:=[mv' 3 14 0,mv' 4 15 0,o3 (.conv .u64 (.tmp 15)) 16 2,o3 (.bin .shl (.const (.int .u32 1)) (.tmp 16)) 17 6,bn' .or 14 17 18 15,mv' 18 3 31]
def ybys:LO:=[mv' 4 12 0,o3 (.bin .add (.tmp 12) (ci' 1)) 13 1,mv' 13 4 3]
def ycgd:LO:=[mv' 3 19 0,mv' 19 2 1]
def c88:SC:=(.seq (.reg false yceo) (.seq (.reg false yccq) (.seq (.seq (.reg false ycaq) (.block 0 (.loop (.seq (.seq (.reg false ybwf) (.cond (.tmp 11) .skip (.exit 0))) (.seq (.block 1 (.reg false ycej)) (.reg false ybys)))))) (.seq (.reg false ycgd) .ret))))
theorem ycao:Fn 88 c88 [.t 2]:=fn_0 Tryz.func88 (by kernel_rfl) (by kernel_rfl)
def yces:LO:=[o3 (.alloc 93 1 [.a (.string (ByteArray.mk #[])),.i .i64 0,.i .i64 0,.i .i64 0,.i .i64 0,.i .i64 0]) 2 0]
def ybxj:LO:=[mv' 0 3 0,o3 (.build [.a (.string (ByteArray.mk #[])),.i .i64 0,.i .i64 0,.i .i64 0,.i .i64 0,.i .i64 0] [(0,1,(.tmp 3)),(1,1,(ci' 2))]) 4 1,o0 (.store 6 (.tmp 2) (.tmp 4)) 3]
def c86:SC:=(.seq (.reg false yces) (.seq (.reg false ybxj) .ret))
theorem ycfr:Fn 86 c86 [.c 2 true 6]:=fn_0 Tryz.func86 (by kernel_rfl) (by kernel_rfl)
end Sh
end
section
def yhc(g:Gr):Sh.SV:=if ybs g=true then .ag (Sh.clmV 2 false true (yld g/2+2) (-1))else .ag (Sh.clmV 0 false false 0 0)
theorem yuj(c:Conf)(k:Nat):ledB c (k+1)=ledB c k|||(lAt c k).toNat*2^k:=by
 unfold ledB;rw[zM,zAK];rfl
theorem yblk{c:Conf}(hl:∀v,v<c.length->lAt c v=0\/lAt c v=1)(h24:c.length<=24):∀k,k<=c.length->ledB c k<2^24
 |0,_=>Nat.two_pow_pos 24
 | k+1,hk=>by
   rw[yuj];refine Nat.or_lt_two_pow (yblk hl h24 k (by omega)) ?_
   have h1:2^k<2^24:=zT (by omega) (by omega)
   rcases hl k (by omega)with e|e
   ·rw[e];simp
   ·rw[e];show 1*2^k<_;omega
theorem ybpa{b v:Nat}(h:b*2^v<2^32):IntKind.wrap .u32 ((b:Int)*2^(v:Int).toNat)=((b*2^v:Nat):Int):=by
 have e:((b:Int)*2^(v:Int).toNat)=((b*2^v:Nat):Int):=by
  rw[zN]
  push_cast
  rfl
 rw[e];exact yig h
theorem ybbf{g:Gr}(hg:ybj g)(f:Nat->Int):yed f g<2^24:=by
 have h24:=hg.2.1;refine Nat.lt_pow_two_of_testBit _ fun i hi=>?_;cases h:(yed f g).testBit i with
 |false=>rfl
 |true=>have:=((yju hg).1 h).1;omega
namespace Sh
open Ev Go.RowKit
theorem yrw{g:Gr}(hI:GrI g):Returns zH 8 [grV g] (.b (ybs g)):=by
 refine Returns.of (ychj _ _ ?_);have hC:=ybig hI;simp only[grV]at hC;simp only[c8,c8_0,c8_1,grV,go_sem,zA,zB,zF,↓reduceIte];refine hC.use ?_;simp only[ybk,yjz,go_sem,zA,zB,↓reduceIte,reduceCtorEq]
theorem ylp{g:Gr}(hI:GrI g):Returns zH 9 [grV g] (.b (ybs g)):=by
 refine Returns.of (ycha _ _ ?_);have hC:=ybad hI;simp only[grV]at hC;simp only[c9,c9_0,c9_1,grV,go_sem,zA,zB,zF,↓reduceIte];refine hC.use ?_;simp only[ybk,yjz,go_sem,zA,zB,↓reduceIte,reduceCtorEq]
theorem yud{H:List Int}{v:Nat}(hv:v<H.length)(hl:H.length<=1000):Returns zH 44 [.i .i64 v,.rf [ybg H]] (.i .i64 (H.getD v 0)):=by
 refine Returns.of (ybyw _ _ ?_);simp only[c44,ycef,ybyg,ybg,clash,go_sem,zA,zB,↓reduceIte,reduceCtorEq];exact⟨⟨by omega,by omega⟩,Sim.refl _⟩
set_option maxHeartbeats 2000000 in
theorem ylm{g:Gr}(hI:GrI g){c:Conf}(hR:ypp c)(he:ybs g=true->Tr g):Returns zH 10 [grV g,ycn c] (.b (ybl g c)):=by
 refine Returns.of (ycen _ _ ?_);have hF:=yrw hI;unfold ybl;cases ht:ybs g with
 | false =>
   have e:ydq g c=false:=by unfold ydq;rw[ht];rfl
   rw[e,zAQ];rw[ht]at hF;simp only[grV]at hF;simp only[c10,ybse,ybxa,ybxb,grV,clash,go_sem,zA,zB,zF,↓reduceIte];refine hF.use ?_;simp only[ybk,clash,go_sem,zA,zB,↓reduceIte,reduceCtorEq];exact Sim.refl _
 | true =>
   have hT:=he ht;have hg:=hT.good;have h24:=hg.2.1;have hpl:=hg.2.2.1
   have hC:=ybpp hg hR (G:=[(g.ids.length:Int),1]) (fun x hx=>by
    simp at hx;rcases hx with rfl|rfl<;>exact yfk (by omega))
   rw[ht]at hF;simp only[grV]at hF;simp only[c10,ybse,ybxa,grV,ybg,clash,go_sem,zA,zB,zF,↓reduceIte];refine hF.use ?_;simp only[ybk,splice,clash,go_sem,zA,zB,zI,zF,↓reduceIte,reduceCtorEq];have two:∀{q:Nat},q<2->q=0\/q=1:=fun {q} h=>by omega
   refine .inl ⟨fun q hq=>by rcases two hq with rfl|rfl<;>simp only[go_sem],hC.useS ?_ ?_⟩
   ·refine⟨Sim.refl (grV g),Sim.refl _,?_,trivial⟩;refine ybfu fun q hq=>?_;rcases two hq with rfl|rfl<;>(simp only[zAE,zAF,go_sem];exact⟨Sim.refl _,trivial⟩)
   have eC:ydq g c=ylo g.ports.length (ycu g [(g.ids.length:Int),1]) c:=by unfold ydq;rw[ht,zO]
   rw[<-eC];cases hcf:ydq g c with
   | false =>
     simp only[ybxb,go_sem,↓reduceIte];exact Sim.refl _
   | true =>
     obtain⟨_,hcl,hc1⟩:=ydx hcf;have hH:=yxe hT;have hhb:=fun v hv=>hT.ht_le (v:=v) hv;have hLl:=yblk (c:=c) (fun v hv=>(hc1 v hv).2.2) (by omega)
     have hLs:=yuj c;have hL0:ledB c 0=0:=rfl;have hPl:=ybbf hg (htP g);obtain⟨n,hn⟩:∃n,g.ports.length=n:=⟨_,rfl⟩
     have hP:=ybjb hg (f:=htP g) (h:=44) (cp:=[.rf [ybg (mapR n (htP g))]]) (by rfl) (fun v hv=>by
      have:=yud (H:=mapR n (htP g)) (v:=v) (by rw[ynf];omega) (by rw[ynf];omega)
      rw[gmR _ _ _ _ (show v<n by omega)]at this
      exact this)
     have hHe:ymr g c=(zG c.length).all fun v=>!(hAt c v != htP g v):=rfl;have hOe:ybkq g c=(((popP (ledB c c.length):Int)==1)&&((difB (ledB c c.length) (yed (htP g) g):Int)==0)):=rfl;rw[hn]at h24 hH hcl;rw[hcl]at hHe hOe hLl;have hml:=ynf n (htP g);have hmg:∀v,v<n->(mapR n (htP g)).getD v 0=htP g v:=fun v hv=>gmR _ _ _ _ hv;obtain⟨H,hHH⟩:∃H,mapR n (htP g)=H:=⟨_,rfl⟩;rw[hHH]at hH hml hmg hP;obtain⟨Pk,hPk⟩:∃x,yed (htP g) g=x:=⟨_,rfl⟩
     rw[hPk]at hP hOe hPl;obtain⟨L,hLL⟩:∃L:Nat->Nat,(fun k=>ledB c k)=L:=⟨_,rfl⟩;have hL':∀k,ledB c k=L k:=fun k=>by rw[<-hLL]
     simp only[hL']at hLl hLs hL0 hOe;simp only[grV]at hH hP;simp only[ybg,hml]at hH hP;rw[zO];simp only[ybk,ycbx,clash,go_sem,zA,zB,zF,↓reduceIte];refine hH.use ?_;simp only[ybyv,ycby,ycn,hcl,clash,go_sem,zA,zB,↓reduceIte,reduceCtorEq]
     refine ycm (σ:=Nat) (fun k=>⟨[(27,.i .i64 k),(26,.i .i64 n),(25,.sl 1 n fun v=>[ybg (c.getD v [])]),(6,.i .u32 (L k)),(2,.pt (2,0) 0 0),(5,.pt (5,0) 0 0)],
      [(2,.one (some ⟨25,true,2,1,fun _=>[ybg g.ids,yw g.ports]⟩)),(5,.one (some ⟨22,true,1,1,fun _=>[.sl 1 n fun v=>[.i .i64 (H.getD v 0)]]⟩))]⟩)
        (fun k=>k<=n/\∀j,j<k->hAt c j=htP g j) (fun k=>n-k) 0 ⟨zV _,fun j hj=>absurd hj (zAN j)⟩ ?_ ?_
     ·refine ybc [] [] [] ?_;simp only[hL0,allQ,live,yj,zK,go_sem,zA,↓reduceIte,reduceCtorEq];exact fun _ _=>Sim.refl _
     rintro k ⟨hk,hall⟩
     by_cases hlt:k<n
     ·have t1:decide ((k:Int)<(n:Int))=true:=decide_eq_true (by omega)
      obtain⟨hs1,hs2,hs3⟩:=hc1 k (by omega)
      have hgk:=hmg k hlt;have hLk:=hLl k (by omega)
      have hLn:=hLs k;have hke:hAt c k=(c.getD k []).getD 0 0:=rfl;have hle:lAt c k=(c.getD k []).getD 1 0:=rfl
      obtain⟨b,hb,hb1⟩:∃b:Nat,lAt c k=(b:Int)/\b<=1:=by
       rcases hs3 with e|e
       ·exact⟨0,e,by omega⟩
       ·exact⟨1,e,by omega⟩
      obtain⟨s,hs⟩:∃s,c.getD k []=s:=⟨_,rfl⟩;rw[hs]at hs1 hke hle;obtain⟨x,hx⟩:∃x,s.getD 0 0=x:=⟨_,rfl⟩;rw[hx]at hke;rw[hb]at hle hLn
      by_cases heq:x=htP g k
      ·have t2:(x != htP g k)=false:=by rw[heq];simp
       have cv:=yig (a:=b) (by omega)
       have hbl:b*2^k<2^24:=by
        have h1:2^k<2^24:=zT (by omega) (by omega)
        rcases(show b=0\/b=1 by omega)with e|e
        ·rw[e];simp
        ·rw[e];omega
       have sh:=ybpa (b:=b) (v:=k) (by omega)
       have ov:=u32_or (a:=L k) (b:=b*2^k) (by omega) (by omega)
       rw[zN]at hLn;rw[<-hLn]at ov;simp only[IntKind.bits,zN]at sh ov;simp only[yboe,ybuq,ybsc,ybqn,ybqw,ybg,hs,hs1,<-hle,hgk,hx,t1,t2,cv,sh,ov,clash,go_sem,zU,zA,zB,↓reduceIte,reduceCtorEq]
       repeat (refine⟨by omega,?_⟩)
       refine⟨ikw (by omega) (by omega),?_⟩
       refine ybd (k+1) ⟨by omega,fun j hj=>?_⟩ (by omega) ?_
       ·by_cases q:j=k
        ·rw[q,hke];exact heq
        ·exact hall j (by omega)
       ·refine ybc [] [] [] ?_;simp only[go_sem,allQ,live,yj,ydb,go_sem,zA,↓reduceIte,reduceCtorEq];omega
      ·have t2:(x != htP g k)=true:=by rw[bne_iff_ne];exact heq
       have e:(zG n).all (fun v=>!(hAt c v != htP g v))=false:=by
        rw[List.all_eq_false];exact⟨k,List.mem_range.2 hlt,by rw[hke,t2];decide⟩
       rw[hHe,e,zAQ];simp only[yboe,ybuq,ybsc,ycci,ybg,hs,hs1,hgk,hx,t1,t2,clash,go_sem,zU,zA,zB,↓reduceIte,reduceCtorEq]
       repeat (refine⟨by omega,?_⟩)
       exact Sim.refl _
     ·obtain rfl:k=n:=by omega
      have t1:decide ((k:Int)<(k:Int))=false:=decide_eq_false (by omega)
      have e:(zG k).all (fun v=>!(hAt c v != htP g v))=true:=by
       rw[zAL];intro v hv;rw[zZ,bne_eq_false_iff_eq];exact hall v (List.mem_range.1 hv)
      have hLk:=hLl k (by omega)
      have hO:=ybno (s:=L k) (by omega)
      have an:=u32_andNot (a:=L k) (b:=Pk) (by omega) (by omega)
      simp only[IntKind.bits]at an;rw[hHe,e,zO,hOe];simp only[yboe,ybrl,t1,clash,go_sem,zA,zB,zI,↓reduceIte];refine .inl (hP.use ?_);simp only[ybk,ybrj,clash,go_sem,zA,zB,↓reduceIte,reduceCtorEq];refine hO.use ?_;cases o1:((popP (L k):Int)==1)with
      | false =>
        simp only[o1,clash,go_sem,zA,zB,↓reduceIte,reduceCtorEq];exact Sim.refl _
      | true =>
        simp only[o1,an,clash,go_sem,zA,zB,↓reduceIte,reduceCtorEq];exact Sim.refl _
theorem ybej{g:Gr}(hI:GrI g):Returns zH 12 [grV g] (yhc g):=by
 refine Returns.of (ycbk _ _ ?_);have hF:=yrw hI;unfold yhc;cases ht:ybs g with
 | false =>
   rw[ht]at hF;simp only[grV]at hF;simp only[c12,ybta,ybvk,ybzz,grV,clmV,clash,go_sem,zA,zB,zF,↓reduceIte];refine hF.use ?_;simp only[ybk,splice,clash,go_sem,zA,zB,↓reduceIte];exact Sim.refl _
 | true =>
   have hD:=ybio hI;rw[if_pos (yjg ht)]at hD;have hg:=ygz ht;have h24:=hg.2.1;have d1:=yjf (g:=g) g.ports.length;have d2:=yzw hg g.ports.length (zJ _);have d3:(yld g).tdiv 2=yld g/2:=zY d1;have d1:0<=yld g:=d1;have d2:yld g<=24:=d2;rw[ht]at hF;simp only[grV]at hF hD;simp only[c12,ybta,ybvk,ycfv,grV,clmV,clash,go_sem,zA,zB,zF,↓reduceIte];refine hF.use ?_;simp only[ybk,splice,clash,go_sem,zA,zB,zI,↓reduceIte]
   refine hD.use ?_;simp only[d3,go_sem,zA,zB,↓reduceIte];exact⟨⟨by decide,ikw (by omega) (by omega)⟩,ikw (by omega) (by omega),Sim.refl _⟩
theorem ytu{g:Gr}(hI:GrI g):Returns zH 13 [grV g] (yhc g):=by
 refine Returns.of (ycdn _ _ ?_);have hF:=ylp hI;unfold yhc;cases ht:ybs g with
 | false =>
   rw[ht]at hF;simp only[grV]at hF;simp only[c13,ybvv,ybuz,ybyk,grV,clmV,clash,go_sem,zA,zB,zF,↓reduceIte];refine hF.use ?_;simp only[ybk,splice,clash,go_sem,zA,zB,↓reduceIte];exact Sim.refl _
 | true =>
   have hD:=ybjm hI;rw[if_pos (yjg ht)]at hD;have hg:=ygz ht;have h24:=hg.2.1;have d1:=yjf (g:=g) g.ports.length;have d2:=yzw hg g.ports.length (zJ _);have d3:(yld g).tdiv 2=yld g/2:=zY d1;have d1:0<=yld g:=d1;have d2:yld g<=24:=d2;rw[ht]at hF;simp only[grV]at hF hD;simp only[c13,ybvv,ybuz,ybyf,grV,clmV,clash,go_sem,zA,zB,zF,↓reduceIte];refine hF.use ?_;simp only[ybk,splice,clash,go_sem,zA,zB,zI,↓reduceIte]
   refine hD.use ?_;simp only[d3,go_sem,zA,zB,↓reduceIte];exact⟨⟨by decide,ikw (by omega) (by omega)⟩,ikw (by omega) (by omega),Sim.refl _⟩
theorem ybki(nm:ByteArray):Returns zH 86 [.a (.string nm)] (.ag (varC ⟨nm,2,0,0,0,0⟩)):=by
 refine Returns.of (ycfr _ _ ?_);simp only[c86,yces,ybxj,varC,go_sem,zA,zB,zI,zF,↓reduceIte,reduceCtorEq];exact Sim.refl _
theorem ybhn:Returns zH 49 [] (ygk [⟨⟨#[104]⟩,1,0,0,1,0⟩,⟨⟨#[108]⟩,2,0,0,0,0⟩]):=by
 refine Returns.of (yccu _ _ ?_);have h1:=ybem ⟨#[104]⟩ 0 1 0;have h2:=ybki ⟨#[108]⟩;simp only[varC]at h1 h2;simp only[c49,ycbe,ycaf,go_sem,↓reduceIte];refine h1.use ?_;simp only[ybk,clash,go_sem,zA,zB,zI,zF,↓reduceIte,reduceCtorEq];refine h2.use ?_;simp only[go_sem,zB,↓reduceIte];have two:∀{q:Nat},q<2->q=0\/q=1:=fun {q} h=>by omega
 refine⟨fun q hq=>by rcases two hq with rfl|rfl<;>simp only[go_sem],?_⟩
 refine ybfu fun q hq=>?_;rcases two hq with rfl|rfl<;>(simp only[varC,zAE,zAF,go_sem];exact⟨Sim.refl _,Sim.refl _,Sim.refl _,Sim.refl _,Sim.refl _,Sim.refl _,trivial⟩)
theorem yzf{g:Gr}(hI:GrI g){c:Conf}(hR:ypp c)(hT:Tr g)(hL:ybl g c=true){u:Nat}(hu:u<c.length)(h1:lAt c u=1)(h2:∀v,v<u->lAt c v≠1):Returns zH 14 [grV g,ycn c] (.i .i64 u):=by
 refine Returns.of (ybrp _ _ ?_);have hE:=ylm hI hR (fun _=>hT);have hcf:ydq g c=true:=by unfold ybl at hL;rw[zS]at hL;exact hL.1
 obtain⟨_,hcl,hc1⟩:=ydx hcf;have h24:=hT.good.2.1;rw[hL]at hE;obtain⟨n,hn⟩:∃n,c.length=n:=⟨_,rfl⟩;rw[hn]at hcl hu;simp only[grV]at hE;simp only[c14,ybwc,ybvr,ybzm,grV,clash,go_sem,zA,zB,zF,↓reduceIte,reduceCtorEq];refine hE.use ?_;simp only[ybk,ycn,hn,clash,go_sem,zA,zB,↓reduceIte,reduceCtorEq];refine ycm (σ:=Nat) (fun k=>⟨[(13,.i .i64 k),(12,.i .i64 n),(11,.sl 1 n fun v=>[ybg (c.getD v [])])],[]⟩) (fun k=>k<=u) (fun k=>n-k) 0 (zV _) ?_ ?_
 ·refine ybc [] [] [] ?_;simp only[go_sem,allQ,live,yj,zK,go_sem,zA,↓reduceIte,reduceCtorEq]
 intro k hk;have t1:decide ((k:Int)<(n:Int))=true:=decide_eq_true (by omega)
 have hs1:=(hc1 k (by omega)).1
 have hle:lAt c k=(c.getD k []).getD 1 0:=rfl;obtain⟨s,hs⟩:∃s,c.getD k []=s:=⟨_,rfl⟩;rw[hs]at hs1 hle
 by_cases q:k=u
 ·have t2:(lAt c k==1)=true:=by rw[q,h1];rfl
  simp only[ybwx,ybvm,ybvw,ycfo,ybg,hs,hs1,<-hle,t1,t2,clash,go_sem,zU,zA,zB,↓reduceIte,reduceCtorEq]
  repeat (refine⟨by omega,?_⟩)
  rw[q];exact Sim.refl _
 ·have t2:(lAt c k==1)=false:=by rw[beq_eq_false_iff_ne];exact h2 k (by omega)
  simp only[ybwx,ybvm,ybvw,ycdo,ybg,hs,hs1,<-hle,t1,t2,clash,go_sem,zU,zA,zB,↓reduceIte,reduceCtorEq]
  repeat (refine⟨by omega,?_⟩)
  refine⟨ikw (by omega) (by omega),?_⟩
  refine ybd (k+1) (by omega) (by omega) ?_
  refine ybc [] [] [] ?_;simp only[go_sem,allQ,live,yj,ydb,go_sem,zA,↓reduceIte,reduceCtorEq];omega
end Sh
end
section
namespace Sh
open Ev Go.RowKit
theorem yqv{g:Gr}(h:Tr g):∀(k v p:Nat) (l:Int×Int),v<g.ports.length->(g.ports.getD v [])[p]?=some l->(rchP g v l.1.toNat).toNat<=k->Returns zH 113 [grV g,.i .i64 v,.i .i64 p] (.i .i64 (rchP g v l.1.toNat))
 | 0,v,p,l,hv,hl,hk=>by
   have hm:=zL hl;have:=h.rch_pos (ycp h.good hv hm).2.2.1;omega
 | k + 1,v,p,lp,hv,hlp,hk=>by
   refine Returns.of (ybwv _ _ ?_);have ih:=yqv h k;have hmp:=zL hlp;obtain⟨b1,b2,hu,_⟩:=ycp h.good hv hmp;obtain⟨u,hue⟩:∃u,lp.1.toNat=u:=⟨_,rfl⟩;have hlu:lp.1=(u:Int):=by omega
   rw[hue]at hu b2 hk ⊢;have h24:=h.good.2.1;have hlo:=h.rch_loop hu;have hrs:∀i,rchS g v u i=((g.ports.getD u []).take i).foldl (ygs g v u) 1:=fun _=>rfl;have hsu:=fun i=>yvu (g:=g) (v:=v) (u:=u) (i:=i);have hle:=h.rch_le hu;have hdv:=h.good.deg_lt (v:=v);obtain⟨Lv,hLv⟩:∃L,g.ports.getD v []=L:=⟨_,rfl⟩;have hpl:p<Lv.length:=by rw[<-hLv];exact(List.getElem?_eq_some_iff.1 hlp).1
   have hpe:Lv.getD p (0,0)=lp:=by rw[<-hLv,zX,hlp];rfl
   rw[hLv]at hdv;obtain⟨L,hL⟩:∃L,g.ports.getD u []=L:=⟨_,rfl⟩;have hdeg:=h.good.deg_lt (v:=u)
   have hadj:∀l∈L,0<=l.1/\l.1.toNat<g.ports.length/\adj g u l.1.toNat:=fun l hl=>by
    obtain⟨a,b,c,_⟩:=ycp h.good b2 (by rw[hL];exact hl)
    exact⟨a,b,c⟩
   have hless:∀l∈L,l.1≠(v:Int)->rchP g u l.1.toNat<rchP g v u:=fun l hl=>h.rch_less hu (by rw[hL];exact hl)
   rw[hL]at hlo hdeg hrs;simp only[hL]at hsu;obtain⟨d,hd⟩:∃d,L.length=d:=⟨_,rfl⟩;obtain⟨S,hS⟩:∃S:Nat->Int,(fun i=>rchS g v u i)=S:=⟨_,rfl⟩;have hS':∀i,rchS g v u i=S i:=fun i=>by rw[<-hS]
   simp only[hS']at hsu hrs;rw[hd]at hdeg hsu;have hS0:S 0=1:=by rw[hrs];rfl
   have hSd:S d=rchP g v u:=by rw[hrs,<-hd,zAM,hlo]
   rw[<-hSd]at hless hle hk ⊢;simp only[grV]at ih;simp only[c113,ybqk,ybqp,ybqx,grV,yw,ybh,hLv,hpe,hlu,clash,go_sem,zA,zB,zI,zF,↓reduceIte,reduceCtorEq];refine⟨⟨by omega,by omega⟩,⟨by omega,by omega⟩,?_⟩
   refine ycm (σ:=Nat) (fun i=>⟨[(9,.i .i64 i),(8,.i .i64 (S i)),(7,.i .i64 u),(1,.i .i64 v),(3,.pt (3,0) 0 0)],[(3,.one (some ⟨25,true,2,1,fun _=>[ybg g.ids,yw g.ports]⟩))]⟩) (fun i=>i<=d) (fun i=>d-i) 0 (zV _) ?_ ?_
   ·refine ybc [] [] [] ?_;simp only[yw,ybh,hS0,allQ,live,yj,zK,go_sem,zA,↓reduceIte,reduceCtorEq]
   intro i hi
   by_cases hlt:i<d
   ·have t1:decide ((i:Int)<(d:Int))=true:=decide_eq_true (by omega)
    have hle?:L[i]?=some (L.getD i (0,0)):=by rw[getD_at (show i<L.length by omega)];exact zC _
    have hss:=hsu i hlt;obtain⟨l,hl⟩:∃l,L.getD i (0,0)=l:=⟨_,rfl⟩;rw[hl]at hle? hss;have hm:=zL hle?;obtain⟨a1,a2,a3⟩:=hadj l hm
    by_cases hlv:l.1=(v:Int)
    ·have t2:(l.1 != (v:Int))=false:=by rw[hlv];simp
     have e:S (i+1)=S i:=by
      rw[hss];unfold ygs;rw[if_neg (by rw[t2];decide)]
     simp only[ybbl,ybic,ybkc,yw,ybh,hL,hd,hl,t1,t2,clash,go_sem,zA,zB,zI,↓reduceIte,reduceCtorEq];refine⟨⟨by omega,by omega⟩,⟨by omega,by omega⟩,by omega,ikw (by omega) (by omega),?_⟩
     refine ybd (i+1) (by omega) (by omega) ?_
     refine ybc [] [] [] ?_;simp only[e,allQ,live,yj,ydb,go_sem,zA,↓reduceIte,reduceCtorEq];omega
    ·have t2:(l.1 != (v:Int))=true:=by rw[bne_iff_ne];exact hlv
     have hlr:=hless l hm hlv;have hlb:=h.rch_le a3;have hR:=ih u i l (by omega) (by rw[hL];exact hle?) (by omega)
     have e:S (i+1)=max (S i) (1+rchP g u l.1.toNat):=by
      rw[hss];unfold ygs;rw[if_pos t2]
     obtain⟨r,hr⟩:∃r,rchP g u l.1.toNat=r:=⟨_,rfl⟩;rw[hr]at hR e hlb;simp only[ybbl,ybic,ybkc,ybrc,yw,ybh,hL,hd,hl,t1,t2,clash,go_sem,zA,zB,zI,↓reduceIte,reduceCtorEq];refine⟨⟨by omega,by omega⟩,⟨by omega,by omega⟩,by omega,hR.use ?_⟩
     simp only[ybk,clash,go_sem,zA,zB,↓reduceIte,reduceCtorEq];refine⟨ikw (by omega) (by omega),ikw (by omega) (by omega),?_⟩
     refine ybd (i+1) (by omega) (by omega) ?_
     refine ybc [] [] [] ?_;simp only[e,allQ,live,yj,ydb,go_sem,zA,↓reduceIte,reduceCtorEq];omega
   ·obtain rfl:i=d:=by omega
    have t1:decide ((i:Int)<(i:Int))=false:=decide_eq_false (by omega)
    simp only[ybbl,ybqt,yw,ybh,hL,hd,t1,clash,go_sem,zA,zB,↓reduceIte,reduceCtorEq];exact⟨⟨by omega,by omega⟩,Sim.refl _⟩
theorem yxs{g:Gr}(h:Tr g){v:Nat}(hv:v<g.ports.length):Returns zH 87 [grV g,.i .i64 v] (.i .i64 (htP g v)):=by
 refine Returns.of (ycdd _ _ ?_);have h24:=h.good.2.1;have hend:=ybak g v;have hsu:=fun i=>ysm (g:=g) (v:=v) (i:=i);have hsl:=ybbh h hv;have hdeg:=h.good.deg_lt (v:=v);have hadj:=fun(l:Int×Int) (hl:l∈g.ports.getD v [])=>ycp h.good hv hl;have hRR:=fun(i:Nat) (l:Int×Int) (hl:(g.ports.getD v [])[i]?=some l)=>yqv h _ v i l hv hl (zJ _);obtain⟨L,hL⟩:∃L,g.ports.getD v []=L:=⟨_,rfl⟩;obtain⟨d,hd⟩:∃d,L.length=d:=⟨_,rfl⟩
 rw[hL,hd]at hend hdeg hsl;rw[hL]at hadj;simp only[hL,hd]at hsu hRR;obtain⟨S,hS⟩:∃S:Nat->Int×Int,(fun i=>htS g v i)=S:=⟨_,rfl⟩;have hS':∀i,htS g v i=S i:=fun i=>by rw[<-hS]
 have hS0:S 0=(0,0):=by rw[<-hS'];rfl
 simp only[hS']at hsu hsl hend;rw[<-hend];simp only[grV]at hRR;simp only[c87,ybxu,yccm,ybzf,grV,clash,go_sem,zB,zF,↓reduceIte];refine ycm (σ:=Nat) (fun i=>⟨[(7,.i .i64 i),(5,.i .i64 (S i).1),(6,.i .i64 (S i).2),(1,.i .i64 v),(2,.pt (2,0) 0 0)],[(2,.one (some ⟨25,true,2,1,fun _=>[ybg g.ids,yw g.ports]⟩))]⟩) (fun i=>i<=d) (fun i=>d-i) 0 (zV _) ?_ ?_
 ·refine ybc [] [] [] ?_;simp only[hS0,allQ,live,yj,zK,go_sem,zA,↓reduceIte,reduceCtorEq]
 intro i hi
 by_cases hlt:i<d
 ·have t1:decide ((i:Int)<(d:Int))=true:=decide_eq_true (by omega)
  have hle?:L[i]?=some (L.getD i (0,0)):=by rw[getD_at (show i<L.length by omega)];exact zC _
  have hss:=hsu i hlt;have hb:=hsl i hi;obtain⟨l,hl⟩:∃l,L.getD i (0,0)=l:=⟨_,rfl⟩;rw[hl]at hle? hss;have hR:=hRR i l hle?;obtain⟨r,hr⟩:∃r,rchP g v l.1.toNat=r:=⟨_,rfl⟩;rw[hr]at hR hss;rw[ybaw hb.1.2]at hss;unfold step2 at hss
  by_cases q:r>(S i).1
  ·have t2:decide (r>(S i).1)=true:=decide_eq_true q;rw[if_pos q]at hss;have e1:(S (i+1)).1=r:=by rw[hss]
   have e2:(S (i+1)).2=(S i).1:=by rw[hss]
   simp only[ybnh,ybsw,ybth,yw,ybh,hL,hd,t1,clash,go_sem,zA,zB,↓reduceIte,reduceCtorEq];refine⟨⟨by omega,by omega⟩,hR.use ?_⟩
   simp only[ybk,ybtv,ycbv,t2,clash,go_sem,zA,zB,↓reduceIte,reduceCtorEq];refine⟨ikw (by omega) (by omega),?_⟩
   refine ybd (i+1) (by omega) (by omega) ?_
   refine ybc [] [] [] ?_;simp only[e1,e2,allQ,live,yj,ydb,go_sem,zA,↓reduceIte,reduceCtorEq];omega
  ·have t2:decide (r>(S i).1)=false:=decide_eq_false q;rw[if_neg q]at hss;have e1:(S (i+1)).1=(S i).1:=by rw[hss]
   have e2:(S (i+1)).2=max (S i).2 r:=by rw[hss]
   simp only[ybnh,ybsw,ybth,yw,ybh,hL,hd,t1,clash,go_sem,zA,zB,↓reduceIte,reduceCtorEq];refine⟨⟨by omega,by omega⟩,hR.use ?_⟩
   simp only[ybk,ybtv,ycaj,t2,clash,go_sem,zA,zB,↓reduceIte,reduceCtorEq];refine⟨ikw (by omega) (by omega),?_⟩
   refine ybd (i+1) (by omega) (by omega) ?_
   refine ybc [] [] [] ?_;simp only[e1,e2,allQ,live,yj,ydb,go_sem,zA,↓reduceIte,reduceCtorEq];omega
 ·obtain rfl:i=d:=by omega
  have t1:decide ((i:Int)<(i:Int))=false:=decide_eq_false (by omega)
  simp only[ybnh,ybzn,yw,ybh,hL,hd,t1,clash,go_sem,zA,zB,↓reduceIte,reduceCtorEq];exact⟨⟨by omega,by omega⟩,Sim.refl _⟩
end Sh
end
section
section
variable {g:Gr}{c:Conf}{u v:Nat}
end
end
section
section
variable {g:Gr}{t:Nat}
theorem yyq(g:Gr):ydg g=((zG g.ports.length).map fun v=>(g.ports.getD v []).length).sum:=by
 unfold ydg;congr 1;refine List.ext_getElem (by simp) fun i h1 h2=>?_
 simp at h1;simp[zAA,h1]
end
end
section
def sumTo(f:Nat->Nat):Nat->Nat
 |0=>0
 |n+1=>sumTo f n+f n
theorem ywg(f h:Nat->Nat):∀n,sumTo (fun v=>f v+h v) n=sumTo f n+sumTo h n
 |0=>rfl
 | n+1=>by
   have:=ywg f h n;show sumTo (fun v=>f v+h v) n+(f n+h n)=(sumTo f n+f n)+(sumTo h n+h n);omega
theorem sumTo_congr{f h:Nat->Nat}:∀n,(∀v,v<n->f v=h v)->sumTo f n=sumTo h n
 |0,_=>rfl
 | n+1,e=>by
   show sumTo f n+f n=sumTo h n+h n;rw[sumTo_congr n fun v hv=>e v (by omega),e n (by omega)]
theorem ybbp(a:Nat->Nat->Nat):∀n,(∀u v,u<n->v<n->a u v=a v u)->(∀v,v<n->a v v=0)->sumTo (fun v=>sumTo (a v) n) n%2=0
 |0,_,_=>rfl
 | n+1,hs,h0=>by
   have ih:=ybbp a n (fun u v hu hv=>hs u v (by omega) (by omega)) fun v hv=>h0 v (by omega)
   have e1:sumTo (fun v=>sumTo (a v) (n+1)) n=sumTo (fun v=>sumTo (a v) n) n+sumTo (fun v=>a v n) n:=ywg (fun v=>sumTo (a v) n) (fun v=>a v n) n;have e2:sumTo (fun v=>a v n) n=sumTo (a n) n:=sumTo_congr n fun v hv=>hs v n (by omega) (by omega)
   have e3:=h0 n (by omega)
   show(sumTo (fun v=>sumTo (a v) (n+1)) n+(sumTo (a n) n+a n n))%2=0;omega
theorem yly(p:Nat->Bool):∀n,sumTo (fun v=>(p v).toNat) n=((zG n).filter p).length
 |0=>rfl
 | n+1=>by
   rw[zM,zAG,zAH,<-yly p n];show _+(p n).toNat=_;cases h:p n<;>simp[List.filter,h]
theorem ypf(f:Nat->Nat):∀n,((zG n).map f).sum=sumTo f n
 |0=>rfl
 |n+1=>by rw[zM,List.map_append,List.sum_append,ypf f n];simp[sumTo]
def adjB(g:Gr)(v u:Nat):Bool:=(g.ports.getD v []).any fun l=>l.1==(u:Int)
theorem yjl{g:Gr}{u v:Nat}:adjB g v u=true↔adj g v u:=by
 unfold adjB;rw[List.any_eq_true,ygo];exact⟨fun⟨l,h,e⟩=>⟨l,h,beq_iff_eq.1 e⟩,fun⟨l,h,e⟩=>⟨l,h,beq_iff_eq.2 e⟩⟩
theorem ybik{g:Gr}(hg:ybj g){v:Nat}(hv:v<g.ports.length):(g.ports.getD v []).length=sumTo (fun u=>(adjB g v u).toNat) g.ports.length:=by
 rw[yly]
 have hn:((g.ports.getD v []).map (·.1)).Nodup:=by
  have h:=(hg.2.2.2.2.2.1 ⟨v,hv⟩).2;have e0:g.ports[v]=g.ports.getD v []:=by rw[Sh.getD_at hv]
  have h:((g.ports[v]).map (·.1)).Nodup:=h
  rwa [e0]at h
 refine Nat.le_antisymm ?_ ?_
 ·have:=yjm hn (l2:=((zG g.ports.length).filter (adjB g v)).map fun j:Nat=>(j:Int)) fun x hx=>by
   obtain⟨l,hl,rfl⟩:=List.mem_map.1 hx;obtain⟨h1,h2,h3,_⟩:=ycp hg hv hl;exact List.mem_map.2 ⟨l.1.toNat,List.mem_filter.2 ⟨List.mem_range.2 h2,yjl.2 h3⟩,by omega⟩
  simpa using this
 ·have:=yjm (l1:=(zG g.ports.length).filter (adjB g v)) (l2:=(g.ports.getD v []).map fun l=>l.1.toNat) (List.nodup_range.filter _) fun u hu=>by
   obtain⟨l,hl,e⟩:=ylj (yjl.1 (List.mem_filter.1 hu).2);exact List.mem_map.2 ⟨l,hl,e⟩
  simpa using this
theorem ybct{g:Gr}(hg:ybj g):ydg g%2=0:=by
 have e:ydg g=sumTo (fun v=>sumTo (fun u=>(adjB g v u).toNat) g.ports.length) g.ports.length:=by
  rw[yyq,ypf];exact sumTo_congr _ fun v hv=>ybik hg hv
 rw[e];refine ybbp _ _ (fun u v _ _=>?_) fun v _=>?_
 ·have:adjB g u v=adjB g v u:=by
   rw[zAB,yjl,yjl];exact⟨hg.adj_symm,hg.adj_symm⟩
  rw[this]
 ·have:adjB g v v=false:=by
   rw[Bool.eq_false_iff];intro h;exact ybpe hg v (yjl.1 h)
  rw[this];rfl
end
section
namespace Sh
open Ev Go.RowKit
end Sh
end
section
section
variable {nm nc nr:ByteArray}{g:Gr}{c:Conf}{u v s:Nat}
end
end
section
namespace Sh
open Go Ev
def c4_0:LO:=[o3 (.box 35 (.tmp 0)) 3 0,o3 (.mv (.const (.bool false))) 6 0]
def c4_1:LO:=[ld' true 6 3 18 0,o3 (.call (.func 16) [(.tmp 18),(ci' 9)]) 19 1,o3 (.alloc 25 1 [.a (.slice none 0 0),.a (.slice none 0 0)]) 7 0,o0 (.store 2 (.tmp 7) (.tmp 19)) 7]
def c4_2:LO:=[fa' 1 1 7 20 0,ld' false 1 20 21 1,ln' 21 22 3,mv' 22 8 7]
def c4_3:LO:=[mv' 1 23 0,mv' 8 24 0,o3 (.bin .add (.tmp 24) (ci' 1)) 25 2,cl' 17 [23,25] 26 7,mv' 26 1 15]
def c4_4:LO:=[o3 (.bslice 22 1 0 [] []) 27 0,o3 (.mv (ci' 0)) 9 0,mv' 27 10 3]
def c4_5:LO:=[o3 (.mv (ci' 0)) 11 0]
def c4_6:LO:=[mv' 11 28 0,mv' 8 29 0,bn' .lss 28 29 30 3]
def c4_8:LO:=[mv' 9 33 0,fa' 1 1 7 34 0,ld' false 1 34 35 2,mv' 11 36 0,ix' 1 35 36 37 14,ld' false 1 37 38 30,ln' 38 39 62,o3 (.mm true (.tmp 33) (.tmp 39)) 40 127,mv' 40 9 255]
def c4_9:LO:=[mv' 10 41 0,mv' 1 42 0,o3 (.bslice 3 1 1 [.i .i64 0] [(0,1,(.tmp 42))]) 43 2,o3 (.bslice 22 1 1 [.a (.slice none 0 0)] [(0,1,(.tmp 43))]) 44 6,o3 (.app 22 1 24 (.tmp 41) (.tmp 44)) 45 15,mv' 45 10 31]
def c4_7:LO:=[mv' 11 31 0,o3 (.bin .add (.tmp 31) (ci' 1)) 32 1,mv' 32 11 3]
def ychd:LO:=[cl' 19 [] 46 0,cl' 18 [46] 47 1,o3 (.alloc 42 1 [.a (.string (ByteArray.mk #[])),.a (.slice none 0 0),.a (.slice none 0 0)]) 12 0,o0 (.store 3 (.tmp 12) (.tmp 47)) 7]
def ycgy:LO:=[o3 (.mv (ci' 0)) 13 0]
def ychz:LO:=[mv' 13 48 0,mv' 2 49 0,ln' 49 50 2,mv' 8 51 0,o3 (.wadd (.tmp 50) (.tmp 51)) 52 14,bn' .lss 48 52 53 31,mv' 53 54 63,⟨.mv (.tmp 13),some 55,some (54,true),127⟩,⟨.bin .lss (.tmp 55) (ci' 40),some 56,some (54,true),255⟩,o3 (.pick (.tmp 54) (.tmp 56) (.const (.bool false))) 57 511]
def ycgz:LO:=[mv' 13 60 0,mv' 2 61 0,ln' 61 62 2,bn' .sub 60 62 63 7,mv' 8 64 0,cl' 17 [63,64] 65 31,mv' 65 14 63]
def ycji:LO:=[mv' 13 66 0,mv' 2 67 0,ln' 67 68 2,bn' .lss 66 68 69 7]
def ycgx:LO:=[mv' 2 70 0,mv' 13 71 0,ix' 1 70 71 72 3,ld' false 1 72 73 7,mv' 8 74 0,cl' 17 [73,74] 75 31,mv' 75 14 63]
def ychk:LO:=[ld' true 2 7 76 0,mv' 10 77 0,cl' 21 [76,77] 78 3,mv' 14 79 0,cl' 20 [78,79] 80 15]
def ycho:LO:=[ld' true 3 12 82 0,ld' true 2 7 83 0,mv' 10 84 0,mv' 14 85 0,o3 (.conv .u64 (.tmp 85)) 86 8,o3 (.bin .shl (.const (.int .u32 1)) (.tmp 86)) 87 24,cl' 22 [82,83,84,87] 88 63,mv' 88 81 127,xt' 81 0 89 255,xt' 81 1 90 255,mv' 89 15 511,mv' 90 16 2047]
def ychi:LO:=[mv' 16 91 0,o3 (.bin .neq (.tmp 91) (ci' 0)) 92 1,mv' 92 93 3,⟨.mv (.tmp 15),some 94,some (93,false),7⟩,⟨.len (.tmp 94),some 95,some (93,false),15⟩,⟨.mv (.tmp 8),some 96,some (93,false),7⟩,⟨.bin .neq (.tmp 95) (.tmp 96),some 97,some (93,false),63⟩,o3 (.pick (.tmp 93) (.const (.bool true)) (.tmp 97)) 98 127]
def ycja:LO:=[o3 (.mv (.const (.bool false))) 6 0]
def ycij:LO:=[mv' 15 99 0,mv' 99 10 1]
def ycjh:LO:=[mv' 13 58 0,o3 (.bin .add (.tmp 58) (ci' 1)) 59 1,mv' 59 13 3]
def ycjb:LO:=[o3 (.mv (ci' 0)) 17 0]
def ychu:LO:=[mv' 17 100 0,mv' 8 101 0,bn' .lss 100 101 102 3]
def ycgt:LO:=[mv' 10 105 0,mv' 17 106 0,ix' 1 105 106 107 3,ld' false 1 107 108 7,ln' 108 109 15,o3 (.bin .neq (.tmp 109) (ci' 1)) 110 31,mv' 110 111 63,⟨.mv (.tmp 10),some 112,some (111,false),127⟩,⟨.mv (.tmp 17),some 113,some (111,false),127⟩,⟨.idx 1 (.tmp 112) (.tmp 113),some 114,some (111,false),511⟩,⟨.load false 1 (.tmp 114),some 115,some (111,false),1023⟩,⟨.idx 1 (.tmp 115) (ci' 0),some 116,some (111,false),2047⟩,⟨.load false 1 (.tmp 116),some 117,some (111,false),4095⟩,⟨.mv (.tmp 1),some 118,some (111,false),127⟩,⟨.bin .neq (.tmp 117) (.tmp 118),some 119,some (111,false),16383⟩,⟨.mv (.tmp 119),some 120,some (111,false),32767⟩,⟨.mv (.tmp 10),some 121,some (120,true),65535⟩,⟨.mv (.tmp 17),some 122,some (120,true),65535⟩,⟨.idx 1 (.tmp 121) (.tmp 122),some 123,some (120,true),262143⟩,⟨.load false 1 (.tmp 123),some 124,some (120,true),524287⟩,⟨.idx 1 (.tmp 124) (ci' 0),some 125,some (120,true),1048575⟩,⟨.load false 1 (.tmp 125),some 126,some (120,true),2097151⟩,⟨.mv (.tmp 9),some 127,some (120,true),65535⟩,⟨.bin .gtr (.tmp 126) (.tmp 127),some 128,some (120,true),8388607⟩,⟨.pick (.tmp 120) (.tmp 128) (.const (.bool false)),some 129,some (111,false),16777215⟩,o3 (.pick (.tmp 111) (.const (.bool true)) (.tmp 129)) 130 33554431]
def ychb:LO:=[o3 (.mv (.const (.bool false))) 6 0]
def ychn:LO:=[mv' 17 103 0,o3 (.bin .add (.tmp 103) (ci' 1)) 104 1,mv' 104 17 3]
def yciw:LO:=[cl' 23 [] 131 0,mv' 131 132 1,⟨.mv (.tmp 2),some 133,some (132,true),3⟩,⟨.len (.tmp 133),some 134,some (132,true),7⟩,⟨.bin .gtr (.tmp 134) (ci' 30),some 135,some (132,true),15⟩,⟨.mv (.tmp 135),some 136,some (132,true),31⟩,⟨.load true 2 (.tmp 7),some 137,some (136,false),63⟩,⟨.mv (.tmp 10),some 138,some (136,false),63⟩,⟨.call (.func 24) [(.tmp 137),(.tmp 138)],some 139,some (136,false),255⟩,⟨.pick (.tmp 136) (.const (.bool true)) (.tmp 139),some 140,some (132,true),511⟩,o3 (.pick (.tmp 132) (.tmp 140) (.const (.bool false))) 141 1023,mv' 141 6 2047]
def c4:SC:=(.seq (.reg false c4_0) (.seq (.reg false c4_1) (.seq (.reg false c4_2) (.seq (.reg false c4_3) (.seq (.reg false c4_4) (.seq (.seq (.reg false c4_5) (.block 0 (.loop (.seq (.seq (.reg false c4_6) (.cond (.tmp 30) .skip (.exit 0))) (.seq (.block 1 (.seq (.reg false c4_8) (.reg false c4_9))) (.reg false c4_7)))))) (.seq (.reg false ychd) (.seq (.seq (.reg false ycgy) (.block 2 (.loop (.seq (.seq (.reg false ychz) (.cond (.tmp 57) .skip (.exit 2))) (.seq (.block 3 (.seq (.reg false ycgz) (.seq (.seq (.reg false ycji) (.cond (.tmp 69) (.reg false ycgx) .skip)) (.seq (.reg false ychk) (.cond (.tmp 80) (.seq (.reg false ycho) (.seq (.seq (.reg false ychi) (.cond (.tmp 98) (.seq (.reg false ycja) .ret) .skip)) (.reg false ycij))) .skip))))) (.reg false ycjh)))))) (.seq (.seq (.reg false ycjb) (.block 4 (.loop (.seq (.seq (.reg false ychu) (.cond (.tmp 102) .skip (.exit 4))) (.seq (.block 5 (.seq (.reg false ycgt) (.cond (.tmp 130) (.seq (.reg false ychb) .ret) .skip))) (.reg false ychn)))))) (.seq (.reg false yciw) .ret))))))))))
end Sh
end
section
namespace Sh
open Ev Go.RowKit
end Sh
end
section
section
variable {nm np na nb nw:ByteArray}{g:Gr}
theorem ybfy(hg:ybj g):2*yjs g=ydg g:=by
 have:=ybct hg;unfold yjs;omega
end
end
section
namespace Sh
open Go Ev
end Sh
end
section
namespace Sh
open Ev Go.RowKit
end Sh
end
section
end
section
end
section
section
variable {g:Gr}{c:Conf}{u v k i:Nat}
end
end
section
theorem Sys.run_next(S:Sys)(res:Nat->Nat->Nat):∀(ws:List Nat) (c:Conf) (k:Cnt) (i:Nat) (p q:Conf×Cnt),((c,k)::S.run res ws c k)[i]?=some p->((c,k)::S.run res ws c k)[i+1]?=some q ->
 S.en p.1≠0/\∃w,q.1=S.mv p.1 (res (S.en p.1) w)
 | [],c,k,i,p,q,_,h2=>by
   have h2:(S.run res [] c k)[i]?=some q:=h2;unfold Sys.run at h2;simp at h2
 | w :: ws,c,k,i,p,q,h1,h2=>by
   by_cases h0:S.en c=0
   ·have h2:(S.run res (w::ws) c k)[i]?=some q:=h2;unfold Sys.run at h2;rw[if_pos h0]at h2;simp at h2
   ·have e:S.run res (w::ws) c k=(S.mv c (res (S.en c) w),addP k (res (S.en c) w) (S.en (S.mv c (res (S.en c) w))))::S.run res ws (S.mv c (res (S.en c) w)) (addP k (res (S.en c) w) (S.en (S.mv c (res (S.en c) w)))):=by
     conv=>lhs;unfold Sys.run
     exact if_neg h0
    rw[e]at h1 h2;cases i with
    | zero =>
      have h1:some (c,k)=some p:=h1;have h2:some (S.mv c (res (S.en c) w),_)=some q:=h2;cases h1
      cases h2
      exact⟨h0,w,rfl⟩
    |succ i=>exact Sys.run_next S res ws _ _ i p q h1 h2
theorem Sh.RunD.next{S:Sys}{res:Nat->Nat->Nat}{ws:List Nat}{c:Conf}{n:Nat}{Cs:List Conf}{Ks:List Cnt}(h:Sh.RunD S res ws c n Cs Ks){k:Nat}(hk:k+1<n) :
 S.en (Cs.getD k [])≠0/\∃w,Cs.getD (k+1) []=S.mv (Cs.getD k []) (res (S.en (Cs.getD k [])) w) :=
 Sys.run_next S res ws c _ k _ _ (h.at_ (show k<n by omega)).2 (h.at_ hk).2
section
variable {nm np na nb nw:ByteArray}{g:Gr}{c:Conf}{v s:Nat}
end
end
section
namespace Sh
open Go Ev
def ybyp:LO:=[o3 (.mv (.const (.bool false))) 4 0]
def ycdt:LO:=[mv' 1 5 0,o3 (.bin .geq (.tmp 5) (ci' 0)) 6 1,mv' 6 7 3,⟨.mv (.tmp 1),some 8,some (7,true),7⟩,⟨.bin .lss (.tmp 8) (ci' 32),some 9,some (7,true),15⟩,o3 (.pick (.tmp 7) (.tmp 9) (.const (.bool false))) 10 31,mv' 10 11 63,⟨.mv (.tmp 0),some 12,some (11,true),127⟩,⟨.mv (.tmp 1),some 13,some (11,true),127⟩,⟨.conv .u64 (.tmp 13),some 14,some (11,true),383⟩,⟨.bin .shr (.tmp 12) (.tmp 14),some 15,some (11,true),1023⟩,⟨.bin .and (.tmp 15) (.const (.int .u32 1)),some 16,some (11,true),2047⟩,⟨.bin .eql (.tmp 16) (.const (.int .u32 1)),some 17,some (11,true),4095⟩,o3 (.pick (.tmp 11) (.tmp 17) (.const (.bool false))) 18 8191,mv' 18 4 16383]
def c51:SC:=(.seq (.reg false ybyp) (.seq (.reg false ycdt) .ret))
theorem ybyb:Fn 51 c51 [.t 4]:=fn_0 Tryz.func51 (by kernel_rfl) (by kernel_rfl)
end Sh
end
section
structure LdC(g:Gr)(c:Conf):Prop where
 len:c.length=g.ids.length
 row:∀v,v<g.ids.length->(c.getD v []).length=3/\(0<=(c.getD v []).getD 0 0/\(c.getD v []).getD 0 0<=yhy g)/\(0<=(c.getD v []).getD 1 0/\(c.getD v []).getD 1 0<g.ids.length)/\(-1<=(c.getD v []).getD 2 0/\(c.getD v []).getD 2 0<(g.ports.getD v []).length)
section
variable {nm nl nd np no nj:ByteArray}{g:Gr}{c:Conf}{v:Nat}
theorem LdC.link(h:LdC g c)(hg:ybj g)(hv:v<g.ids.length){l:Int×Int}(hl:l∈g.ports.getD v []):0<=l.1/\l.1.toNat<g.ids.length/\adj g v l.1.toNat/\(0<=endP c 0 l/\endP c 0 l<=yhy g)/\(0<=endP c 1 l/\endP c 1 l<g.ids.length):=by
 have hpl:=hg.2.2.1;obtain⟨h1,h2,h3,_⟩:=ycp hg (by omega) hl
 have h4:=h.row l.1.toNat (by omega)
 exact⟨h1,by omega,h3,h4.2.1,h4.2.2.1⟩
end
end
section
section
variable {nm nl nd np no nj:ByteArray}{g:Gr}{c:Conf}{v:Nat}
end
end
section
section
variable {nm nl nd np no nj:ByteArray}{g:Gr}{c:Conf}{v:Nat}
end
end
section
namespace Sh
open Ev Go.RowKit
theorem ysi{v:Nat}(h:v<2^32):IntKind.wrap .u64 (v:Int)=v:=by
 unfold IntKind.wrap;simp[IntKind.bits,IntKind.signed];omega
theorem ybwz{s v:Nat}(hs:s<2^32)(hv:v<32):Returns zH 51 [.i .u32 s,.i .i64 v] (.b (s.testBit v)):=by
 refine Returns.of (ybyb _ _ ?_);have t1:decide ((v:Int)>=0)=true:=decide_eq_true (by omega)
 have t2:decide ((v:Int)<32)=true:=decide_eq_true (by omega)
 have ht:=yboy (s:=s) (v:=v) hs;simp only[IntKind.bits]at ht;have e:((((s>>>v&&&1:Nat):Int))==1)=s.testBit v:=by rw[zAB,beq_iff_eq];exact ybke
 simp only[c51,ybyp,ycdt,t1,t2,clash,ysi (show v<2^32 by omega),ht,e,go_sem,zA,zB,↓reduceIte,reduceCtorEq]
 exact⟨⟨by omega,by show(v:Int)<((32:Nat):Int);omega⟩,Sim.refl _⟩
end Sh
end
section
theorem ybux(i:Nat):(2^i-1)|||2^i=2^(i+1)-1:=by
 refine Nat.eq_of_testBit_eq fun j=>?_;rw[zAP,zW,zAD,zW];rw[zAB,zAO,decide_eq_true_iff,decide_eq_true_iff,decide_eq_true_iff];omega
namespace Sh
open Ev Go.RowKit
theorem yblc{n:Nat}(hn:n<=24):Returns zH 88 [.i .i64 n] (.i .u32 (2^n-1:Nat)):=by
 refine Returns.of (ycao _ _ ?_)
 have hlt:∀i,i<=n->2^i-1<2^32:=fun i hi=>by
  have:2^i<=2^24:=Nat.pow_le_pow_right (by omega) (by omega)
  omega
 obtain⟨A,hA⟩:∃A:Nat->Nat,(fun i=>2^i-1)=A:=⟨_,rfl⟩;have hA':∀i,2^i-1=A i:=fun i=>by rw[<-hA]
 have hor:=ybux;have h0:A 0=0:=by rw[<-hA']
 simp only[hA']at hlt hor;rw[hA'];simp only[c88,yceo,yccq,ycaq,go_sem];refine ycm (σ:=Nat) (fun i=>⟨[(4,.i .i64 i),(3,.i .u32 (A i)),(0,.i .i64 n)],[]⟩) (fun i=>i<=n) (fun i=>n-i) 0 (zV _) ?_ ?_
 ·refine ybc [] [] [] ?_;simp only[h0,allQ,live,yj,zK,go_sem,zA,↓reduceIte,reduceCtorEq]
 intro i hi;have t2:decide ((i:Int)<32)=true:=decide_eq_true (by omega)
 by_cases hlt2:i<n
 ·have t1:decide ((i:Int)<(n:Int))=true:=decide_eq_true (by omega)
  have sh:=ynq (v:=i) (by omega)
  have ov:=u32_or (a:=A i) (b:=2^i) (hlt i hi) (zT (by omega) (by omega))
  rw[hor]at ov;simp only[IntKind.bits,zN]at sh ov;simp only[ybwf,ycej,ybys,t1,t2,ysi (show i<2^32 by omega),sh,ov,clash,go_sem,zA,zB,↓reduceIte,reduceCtorEq]
  repeat (first|refine⟨(⟨by omega,by omega⟩:_/\_),?_⟩|refine⟨(by omega:_<_),?_⟩)
  refine⟨ikw (by omega) (by omega),?_⟩
  refine ybd (i+1) (by omega) (by omega) ?_
  refine ybc [] [] [] ?_;simp only[go_sem,allQ,live,yj,ydb,go_sem,zA,↓reduceIte,reduceCtorEq];omega
 ·obtain rfl:i=n:=by omega
  have t1:decide ((i:Int)<(i:Int))=false:=decide_eq_false (by omega)
  simp only[ybwf,ycgd,t1,clash,go_sem,zA,zB,↓reduceIte,reduceCtorEq];exact Sim.refl _
end Sh
end
section
open Go.RowKit
theorem ybsv(gv:Value)(g:Gr)(w:World)(hg:GrAt w gv g) :
 Calls zH 83 #[gv] w fun e w'=>e = .returned (.int .i64 (yhy g))/\Below w.heap.size w w':=by
 obtain⟨i,p,rfl,hi,hp⟩:=hg;obtain⟨A,c,rfl,hA1,hA2⟩:=ybe hi;have Hi:=zD hi
 clear hi hp
 go_enter Tryz.func83,Tryz.ntmps83
 go_wp2
 obtain⟨W1,hW1⟩:∃W,W=w.alloc (.cells #[.slice A g.ids.length c,p] 25):=⟨_,rfl⟩;have hbox:W1.cell? ⟨w.heap.size,0,none⟩=some (.slice A g.ids.length c):=by subst hW1;simp
 have HbW:=zD (show Below w.heap.size w W1 by subst hW1;exact(Below.refl _ _).alloc (zJ _) _)
 rw[<-hW1]
 clear hW1
 go_loopg [3,4] g.ids.length (fun q m t wr=>∃k:Nat,q+k=g.ids.length/\t = .int .i64 k/\wr=W1/\m = .int .i64 ((g.ids.take k).foldl max 0))
 case atStart=>exact⟨0,by omega,rfl,rfl,by simp⟩
 case round =>
  obtain⟨k,hq,rfl,rfl,rfl⟩:=hrel
  by_cases hlt:k<g.ids.length
  ·obtain⟨b,off,rfl,hb,hc,hr⟩:=ydj (Hi.out.below Stable.int HbW.out) hlt;have Hs:=zD (ybec g.ids k hlt)
   go_wp2
   all_goals
    go_roundg (gk-1)
    case measure=>omega
    case rel=>exact⟨k+1,by omega,by go_num,rfl,by rw[Hs.out];try (congr 1;omega)⟩
  ·obtain rfl:k=g.ids.length:=by omega
   go_wp2
   go_ret
   exact⟨ykt (by rw[zAM];rfl),HbW.out⟩
theorem yiw(g:Gr)(vars:List VarR)(v:Nat):(yfh g vars v).length=vars.length:=by simp[yfh]
set_option maxHeartbeats 4000000 in
set_option maxRecDepth 100000 in
theorem ybfj(gv cv vv:Value)(g:Gr)(c:Conf)(vars:List VarR)(w:World)(hg:GrAt w gv g)(hc:ybid w cv c)(hv:ybqr w vv vars)(hfit:∀x∈vars,ybjy x) :
 Calls zH 48 #[gv,cv,vv] w fun e w'=>e = .returned (.bool (ydw g c vars))/\Below w.heap.size w w':=by
 have hg0:=zD hg;obtain⟨i,p,rfl,hi,hp⟩:=hg;obtain⟨A2,c2,rfl,hB1,hB2⟩:=ybe hp;obtain⟨A3,c3,rfl,hC1,hC2⟩:=ybe hc;obtain⟨A4,c4,rfl,hD1,hD2⟩:=ybe hv;have Hp:=zD hp;have Hc:=zD hc;have Hv:=zD hv;have Hfit:=zD hfit
 clear hi hp hc hv hfit
 cases hvd:ybw g with
 | false =>
   have Hf:=zD (show ydw g c vars=false by unfold ydw;rw[hvd];rfl)
   go_enter zAC,zAJ
   go_wp2_with fail
   refine(ycz _ g _ (hg0.out.below ((Below.refl _ _).alloc (zJ _) _))).mono ?_;rintro e w1 ⟨rfl,hb1⟩
   go_wp2_with fail
   go_ret
   exact⟨yx Hf.out.symm,ygh hb1⟩
 | true =>
   have hgood:=(ybr g).1 hvd;have hn24:=hgood.2.1;have htop:=yxl hgood;obtain⟨htop1,htop2⟩:=htop;have Hrc:=zD (show ydw g c vars=ylo g.ports.length (yfh g vars) c by unfold ydw;rw[hvd];rfl)
   clear hgood
   by_cases n1:c.length=g.ports.length
   ·have n1':((c.length:Int)!=(g.ports.length:Int))=false:=by simp[n1]
    have Hn:=zD n1;have hcn:c.length<=24:=by omega
    clear n1
    go_enter zAC,zAJ
    go_wp2_with fail
    refine(ycz _ g _ (hg0.out.below ((Below.refl _ _).alloc (zJ _) _))).mono ?_;rintro e w1 ⟨rfl,hb1⟩;obtain⟨q0,q1⟩:=ywf hb1;have Hb1:=zD (ygh hb1);have hsz1:w.heap.size<w1.heap.size:=World.block_lt_of_cell? _ _ q0
    clear hb1
    go_wp2
    go_loopg [8] g.ports.length (fun q t wr=>∃v:Nat,q+v=g.ports.length/\t = .int .i64 v/\Hid (Below w1.heap.size w1 wr)/\Hid (∀(u:Nat) s,u<v->c[u]?=some s->yja (yfh g vars u) s))
    case atStart=>exact⟨0,by omega,rfl,zD (Below.refl _ _),zD (fun u s hu=>absurd hu (by omega))⟩
    case round =>
     obtain⟨v,hq,rfl,hbel,hok⟩:=hrel;have Hbw:=zD (Hb1.out.trans (hbel.out.mono Hb1.out.size))
     by_cases hlt:v<g.ports.length
     ·have hvc:v<c.length:=by rw[Hn.out];exact hlt
      obtain⟨b3,off3,sv,rfl,hb3,hcs0,hs⟩:=ydi Hc.out (zC hvc);obtain⟨A5,c5,rfl,hE1,hE2⟩:=ybe hs;have hcs:=ybm Hbw.out _ _ hcs0;obtain⟨s,hse⟩:∃s,c[v]=s:=⟨_,rfl⟩;have Hs?:=zD (show c[v]?=some s by rw[zC hvc,hse])
      rw[hse]at hs hcs hcs0 hE1;have Hbad:=zD (show ¬yja (yfh g vars v) s->ydw g c vars=false from fun h=>by rw[Hrc.out];exact ygq (fun hc=>h (hc.2 v s Hs?.out)))
      have Hs:=zD hs
      clear hs hse
      by_cases k1:s.length=vars.length
      ·have k1':((s.length:Int)!=(vars.length:Int))=false:=by simp[k1]
       have Hsl:=zD k1
       clear k1
       go_wp2
       obtain⟨go,rfl⟩:∃go,go=gk:=⟨_,rfl⟩
       go_loopg [9] vars.length (fun q t wr=>∃x:Nat,q+x=vars.length/\t = .int .i64 x/\Hid (Below w1.heap.size w1 wr)/\Hid (∀(j:Nat) b z,j<x->(yfh g vars v)[j]?=some b->s[j]?=some z->b.1<=z/\z<=b.2))
       case atStart=>exact⟨0,by omega,rfl,hbel,zD (fun j b z hj=>absurd hj (by omega))⟩
       case round =>
        clear hbel Hbw hcs
        obtain⟨x,hqx,rfl,hbel,hst⟩:=hrel;have Hbw:=zD (Hb1.out.trans (hbel.out.mono Hb1.out.size));have p0:=ybm hbel.out _ _ q0;have p1:=ybm hbel.out _ _ q1;have hszr:w.heap.size<wr.heap.size:=World.block_lt_of_cell? _ _ p0
        by_cases hxl:x<vars.length
        ·obtain⟨b4,o4,rfl,hb4,hE⟩:=(show ∃b off,A4=some ⟨b,off,none⟩/\b<w.heap.size/\∀j y,vars[j]?=some y->varE w b (off+j*6) y by
          obtain⟨_,_,e,_,_,hh⟩:=Hv.out;cases e
          exact hh (by omega))
         obtain⟨⟨nm,kd,lo,hi',pn,pid⟩,hy⟩:∃y,vars[x]=y:=⟨_,rfl⟩;have hy?:vars[x]?=some ⟨nm,kd,lo,hi',pn,pid⟩:=by rw[zC hxl,hy]
         obtain⟨_,e1,e2,e3,e4,e5⟩:=hE x _ hy?;simp only at e1 e2 e3 e4 e5;obtain⟨f1,f2,f3,f4⟩:=Hfit.out _ (zL hy?);simp only at f1 f2 f3 f4;have g1:=ybm Hbw.out _ _ e1;have g2:=ybm Hbw.out _ _ e2;have g3:=ybm Hbw.out _ _ e3;have g4:=ybm Hbw.out _ _ e4;have g5:=ybm Hbw.out _ _ e5
         clear hE hy e1 e2 e3 e4 e5
         obtain⟨f1a,f1b⟩:=f1;obtain⟨f2a,f2b⟩:=f2;obtain⟨f3a,f3b⟩:=f3;obtain⟨f4a,f4b⟩:=f4;have m1:0<=pn*(g.ports.length:Int):=zAR f3a (by omega)
         have m2:pn*(g.ports.length:Int)<=1000*24:=zAS f3b (by omega) (by omega) (by omega)
         have m3:0<=pid*yhy g:=zAR f4a htop1;have m4:pid*yhy g<=1000*255:=zAS f4b htop2 htop1 (by omega)
         have hbb?:(yfh g vars v)[x]?=some (yul g v ⟨nm,kd,lo,hi',pn,pid⟩):=by simp[yfh,hy?]
         obtain⟨b7,o7,lv,rfl,hb7,hc70,hl7⟩:=ydi Hp.out (zC hlt);obtain⟨A8,c8,rfl,hF1,hF2⟩:=ybe hl7;obtain⟨ds,hds⟩:∃ds,g.ports[v]=ds:=⟨_,rfl⟩;have hdeg:yber g v=ds.length:=by simp[yber,zAA,zC hlt,hds]
         rw[hds]at hc70 hF1;have hxs:x<s.length:=by rw[Hsl.out];exact hxl
         obtain⟨b5,o5,rfl,hb5,hc50,hr5⟩:=ydj Hs.out hxs;obtain⟨z,hz⟩:∃z,s[x]=z:=⟨_,rfl⟩;have Hz?:=zD (show s[x]?=some z by rw[zC hxs,hz])
         rw[hz]at hc50 hr5;obtain⟨hr5a,hr5b⟩:=hr5;have Hbv:=zD (show yul g v ⟨nm,kd,lo,hi',pn,pid⟩=if kd=2 then(0,1)else if kd=3 then(-1,(ds.length:Int)-1)else(lo,hi'+pn*(g.ports.length:Int)+pid*yhy g)by unfold yul;rw[hdeg])
         have Hb?:=zD hbb?;have HX:=zD (show _/\_/\_ from⟨hc70,hc50,hcs0⟩)
         clear hbb? hl7 hds hdeg hz hy? hc70 hc50
         have s1:IntKind.i64.wrap (pn*(g.ports.length:Int))=pn*(g.ports.length:Int):=IntWalk.i64_in _ (by omega)
         have s2:IntKind.i64.wrap (pid*yhy g)=pid*yhy g:=IntWalk.i64_in _ (by omega)
         have s3:IntKind.i64.wrap (hi'+pn*(g.ports.length:Int))=hi'+pn*(g.ports.length:Int):=IntWalk.i64_in _ (by omega)
         have s4:IntKind.i64.wrap (hi'+pn*(g.ports.length:Int)+pid*yhy g)=hi'+pn*(g.ports.length:Int)+pid*yhy g:=IntWalk.i64_in _ (by omega)
         go_wp2
         go_region_held3 (fun w'=>w'.cell? ⟨b4,o4+x*6+2,none⟩=some (.int .i64 lo)/\w'.cell? ⟨b4,o4+x*6+3,none⟩=some (.int .i64 hi')/\w'.cell? ⟨b4,o4+x*6+4,none⟩=some (.int .i64 pn)/\w'.cell? ⟨b4,o4+x*6+5,none⟩=some (.int .i64 pid)/\w'.cell? ⟨w.heap.size,0,none⟩=some i/\w'.cell? ⟨w.heap.size,1,none⟩=some (.slice (some ⟨b7,o7,none⟩) g.ports.length c2)) (first|go_keep|(refine⟨?_,?_,?_,?_,?_,?_⟩<;>exact ybm hbt _ _ (by assumption)))
          (first|(go_at_call 83;refine(ybsv _ g _ (hg0.out.below (by exact Hbw.out.drew))).mono ?_;rintro e wt ⟨rfl,hbt⟩))
         clear s1 s2 s3 s4 g2 g3 g4 g5 p0
         have HbT:=zD (show Below w1.heap.size w1 wt from hbel.out.drew.trans (hbt.mono hbel.out.size))
         have HbU:=zD (Hb1.out.trans (HbT.out.mono Hb1.out.size));have u1:=ybm hbt _ _ g1;have u2:=ybm HbT.out _ _ q1;have u3:=ybm HbU.out _ _ HX.out.1;have u4:=ybm HbU.out _ _ HX.out.2.1;have u5:=ybm HbU.out _ _ HX.out.2.2;have hH1:-100000<=hi'+pn*(g.ports.length:Int)+pid*yhy g:=by omega
         have hH2:hi'+pn*(g.ports.length:Int)+pid*yhy g<=1000000:=by omega
         clear hbt g1 p1 m1 m2 m3 m4
         obtain⟨H,hH⟩:∃H,hi'+pn*(g.ports.length:Int)+pid*yhy g=H:=⟨_,rfl⟩;rw[hH]at Hbv hH1 hH2 ⊢
         clear hH
         by_cases d1:kd=2
         ·have d1':(kd==2)=true:=by simp[d1]
          rw[if_pos d1]at Hbv
          clear d1
          by_cases t1:0<=z/\z<=1
          ·obtain⟨t1a,t1b⟩:=t1
           go_wp2_with fail
           refine(In_t _ _ _ _ (by omega) (by omega)).mono ?_
           rintro e w' ⟨rfl,rfl⟩
           go_wp2
           go_roundg (gk-1)
           case measure=>omega
           case rel =>
            refine⟨x+1,by omega,by go_num,zD (by first|exact HbT.out|exact HbT.out.drew|exact below_drewN HbT.out _|exact below_drewN HbT.out.drew _),zD (fun j b z' hj hb hz'=>?_)⟩
            by_cases hjx:j<x
            ·exact hst.out j b z' hjx hb hz'
            ·obtain rfl:j=x:=by omega
             rw[Hb?.out,Hbv.out]at hb;rw[Hz?.out]at hz';cases hb
             cases hz'
             exact⟨t1a,t1b⟩
          ·have Hf:=zD (Hbad.out (fun h=>t1 (by have:=h.2 x _ z Hb?.out Hz?.out;rw[Hbv.out]at this;exact this)))
           have t2:z<0\/1<z:=by omega
           clear t1
           go_wp2_with fail
           refine(In_f _ _ _ _ (by omega)).mono ?_
           rintro e w' ⟨rfl,rfl⟩
           go_wp2
           go_ret
           exact⟨yx Hf.out.symm,by first|exact HbU.out|exact HbU.out.drew|exact below_drewN HbU.out _|exact below_drewN HbU.out.drew _⟩
         ·have d1':(kd==2)=false:=by simp[d1]
          rw[if_neg d1]at Hbv
          clear d1
          by_cases d2:kd=3
          ·have d2':(kd==3)=true:=by simp[d2]
           rw[if_pos d2]at Hbv
           clear d2
           by_cases t1:-1<=z/\z<=(ds.length:Int)-1
           ·obtain⟨t1a,t1b⟩:=t1
            go_wp2
            go_quiet (fail)
            go_wp2_with fail
            refine(In_t _ _ _ _ (by omega) (by omega)).mono ?_
            rintro e w' ⟨rfl,rfl⟩
            go_wp2
            go_roundg (gk-1)
            case measure=>omega
            case rel =>
             refine⟨x+1,by omega,by go_num,zD (by first|exact HbT.out|exact HbT.out.drew|exact below_drewN HbT.out _|exact below_drewN HbT.out.drew _),zD (fun j b z' hj hb hz'=>?_)⟩
             by_cases hjx:j<x
             ·exact hst.out j b z' hjx hb hz'
             ·obtain rfl:j=x:=by omega
              rw[Hb?.out,Hbv.out]at hb;rw[Hz?.out]at hz';cases hb
              cases hz'
              exact⟨t1a,t1b⟩
           ·have Hf:=zD (Hbad.out (fun h=>t1 (by have:=h.2 x _ z Hb?.out Hz?.out;rw[Hbv.out]at this;exact this)))
            have t2:z < -1\/(ds.length:Int)-1<z:=by omega
            clear t1
            go_wp2
            go_quiet (fail)
            go_wp2_with fail
            refine(In_f _ _ _ _ (by omega)).mono ?_
            rintro e w' ⟨rfl,rfl⟩
            go_wp2
            go_ret
            exact⟨yx Hf.out.symm,by first|exact HbU.out|exact HbU.out.drew|exact below_drewN HbU.out _|exact below_drewN HbU.out.drew _⟩
          ·have d2':(kd==3)=false:=by simp[d2]
           rw[if_neg d2]at Hbv
           clear d2
           by_cases t1:lo<=z/\z<=H
           ·obtain⟨t1a,t1b⟩:=t1
            go_wp2_with fail
            refine(In_t _ _ _ _ (by omega) (by omega)).mono ?_
            rintro e w' ⟨rfl,rfl⟩
            go_wp2
            go_roundg (gk-1)
            case measure=>omega
            case rel =>
             refine⟨x+1,by omega,by go_num,zD (by first|exact HbT.out|exact HbT.out.drew|exact below_drewN HbT.out _|exact below_drewN HbT.out.drew _),zD (fun j b z' hj hb hz'=>?_)⟩
             by_cases hjx:j<x
             ·exact hst.out j b z' hjx hb hz'
             ·obtain rfl:j=x:=by omega
              rw[Hb?.out,Hbv.out]at hb;rw[Hz?.out]at hz';cases hb
              cases hz'
              exact⟨t1a,t1b⟩
           ·have Hf:=zD (Hbad.out (fun h=>t1 (by have:=h.2 x _ z Hb?.out Hz?.out;rw[Hbv.out]at this;exact this)))
            have t2:z<lo\/H<z:=by omega
            clear t1
            go_wp2_with fail
            refine(In_f _ _ _ _ (by omega)).mono ?_
            rintro e w' ⟨rfl,rfl⟩
            go_wp2
            go_ret
            exact⟨yx Hf.out.symm,by first|exact HbU.out|exact HbU.out.drew|exact below_drewN HbU.out _|exact below_drewN HbU.out.drew _⟩
        ·obtain rfl:x=vars.length:=by omega
         go_wp2
         go_roundg (go-1)
         case measure=>omega
         case rel =>
          refine⟨v+1,by omega,by go_num,hbel,zD (fun u s' hu hs'=>?_)⟩
          by_cases huv:u<v
          ·exact hok.out u s' huv hs'
          ·obtain rfl:u=v:=by omega
           rw[Hs?.out]at hs';cases hs'
           refine⟨by rw[yiw,Hsl.out],fun j b z hb hz=>hst.out j b z ?_ hb hz⟩
           rw[<-Hsl.out];exact(List.getElem?_eq_some_iff.1 hz).1
      ·have k1':((s.length:Int)!=(vars.length:Int))=true:=by simp;omega
       have Hf:=zD (Hbad.out (fun h=>k1 (by rw[h.1,yiw])))
       clear k1
       go_wp2
       go_ret
       exact⟨yx Hf.out.symm,Hbw.out⟩
     ·obtain rfl:v=g.ports.length:=by omega
      have Ht:=zD (show ydw g c vars=true by rw[Hrc.out];exact yqn ⟨Hn.out,fun v s hs=>hok.out v s (by rw[<-Hn.out];exact(List.getElem?_eq_some_iff.1 hs).1) hs⟩)
      go_wp2
      go_ret
      exact⟨yx Ht.out.symm,Hbw.out⟩
   ·have n1':((c.length:Int)!=(g.ports.length:Int))=true:=by simp;omega
    have Hf:=zD (show ydw g c vars=false by rw[Hrc.out];exact ygq (fun h=>n1 h.1))
    clear n1
    go_enter zAC,zAJ
    go_wp2_with fail
    refine(ycz _ g _ (hg0.out.below ((Below.refl _ _).alloc (zJ _) _))).mono ?_;rintro e w1 ⟨rfl,hb1⟩
    go_wp2_with fail
    go_ret
    exact⟨yx Hf.out.symm,ygh hb1⟩
end
section
open Go.RowKit
def ybrf(g:Gr)(D:List Int)(c:Conf)(d p v:Nat):Prop:=(c.getD v []).getD d 0=D.getD v 0/\(c.getD v []).getD p 0=wayP g D v
instance(g:Gr)(D:List Int)(c:Conf)(d p v:Nat):Decidable (ybrf g D c d p v):=by unfold ybrf;infer_instance
end
section
namespace Sh
open Ev Go.RowKit
end Sh
end
section
namespace Sh
open Ev Go.RowKit
theorem ybst {G:AM}{m:Mem}{φ:Phi}{M:AM}{w:World}{u u':Value}{l:List VarR}(hG:Le G m.b.get)(hr:RV G om0 (ygk l) u)(hv:VR φ u u')(hR:Rel φ M w)(hs:Sub m M):ybqr w u' l:=by
 refine ybky hG hr hv hR hs rfl fun k x b o L L' hx hL hL' hc=>?_;have hxe:l.getD k default=x:=by simp[zAA,hx]
 rw[hxe]at hL;obtain⟨L2,rfl,h1⟩:∃L2,L=L2/\RVL G om0 (varC x) L2:=⟨L,rfl,hL⟩;cases h1 with
 | cons a b=>cases b with
   | cons a2 b2=>cases b2 with
     | cons a3 b3=>cases b3 with
       | cons a4 b4=>cases b4 with
         | cons a5 b5=>cases b5 with
           | cons a6 b6 =>
             cases b6
             cases a2.int_inv
             cases a3.int_inv
             cases a4.int_inv
             cases a5.int_inv
             cases a6.int_inv
             cases a
             cases hL' with
             | cons p1 q1=>cases q1 with
               | cons p2 q2=>cases q2 with
                 | cons p3 q3=>cases q3 with
                   | cons p4 q4=>cases q4 with
                     | cons p5 q5=>cases q5 with
                       | cons p6 q6 =>
                         cases q6
                         have e1:=p1.eq_simple rfl;have e2:=p2.eq_simple rfl;have e3:=p3.eq_simple rfl;have e4:=p4.eq_simple rfl;have e5:=p5.eq_simple rfl;have e6:=p6.eq_simple rfl;subst e1 e2 e3 e4 e5 e6;exact⟨hc 0 _ rfl,hc 1 _ rfl,hc 2 _ rfl,hc 3 _ rfl,hc 4 _ rfl,hc 5 _ rfl⟩
theorem yxd{g:Gr}(hI:GrI g){c:Conf}(hR:ypp c){vars:List VarR}(hf:∀x∈vars,ybjy x):Returns zH 48 [grV g,ycn c,ygk vars] (.b (ydw g c vars)):=by
 refine ymf ⟨_,_,zAC,rfl⟩ (fun _=>.b) (fun _=>.simple rfl) fun H m us hH hr φ M w us' hRl hs hv=>?_
 obtain⟨u,us2,rfl,h1,h2⟩:∃u us2,us=u::us2/\RV H om0 (grV g) u/\RVL H om0 [ycn c,ygk vars] us2:=by
  cases hr with|cons x y=>exact⟨_,_,rfl,x,y⟩
 obtain⟨u2,u3,rfl,h3,h4⟩:=rvl2 h2
 obtain⟨u',us3,rfl,h5,h6⟩:∃u' us3,us'=u'::us3/\VR φ u u'/\VRL φ [u2,u3] us3:=by
  cases hv with|cons x y=>exact⟨_,_,rfl,x,y⟩
 obtain⟨u2',u3',rfl,h7,h8⟩:=ykz h6;exact ybfj u' u2' u3' g c vars w (yyk hH h1 h5 hRl hs hI) (ybhq hH h3 h7 hRl hs hR) (ybst hH h4 h8 hRl hs) hf
end Sh
end
section
namespace Sh
open Go Ev
def c5_0:LO:=[o3 (.box 25 (.tmp 0)) 2 0,o3 (.mv (.const (.bool false))) 4 0]
def c5_1:LO:=[ld' true 2 2 5 0,mv' 1 6 0,cl' 25 [5,6] 7 3]
def c5_2:LO:=[cl' 26 [] 8 0,mv' 8 4 1]
def c5_3:LO:=[cl' 26 [] 9 0,mv' 9 10 1,⟨.load true 2 (.tmp 2),some 11,some (10,true),3⟩,⟨.call (.func 27) [(.tmp 11)],some 12,some (10,true),7⟩,⟨.load true 2 (.tmp 2),some 13,some (10,true),3⟩,⟨.call (.func 28) [(.tmp 13)],some 14,some (10,true),31⟩,⟨.beq false (.tmp 12) (.tmp 14),some 15,some (10,true),63⟩,o3 (.pick (.tmp 10) (.tmp 15) (.const (.bool false))) 16 127,mv' 16 17 255,⟨.load true 2 (.tmp 2),some 18,some (17,true),511⟩,⟨.mv (.tmp 1),some 19,some (17,true),511⟩,⟨.call (.func 29) [(.tmp 18),(.tmp 19)],some 20,some (17,true),2047⟩,⟨.load true 2 (.tmp 2),some 21,some (17,true),511⟩,⟨.mv (.tmp 1),some 22,some (17,true),511⟩,⟨.call (.func 30) [(.tmp 21),(.tmp 22)],some 23,some (17,true),16383⟩,⟨.beq false (.tmp 20) (.tmp 23),some 24,some (17,true),32767⟩,o3 (.pick (.tmp 17) (.tmp 24) (.const (.bool false))) 25 65535,mv' 25 26 131071,⟨.load true 2 (.tmp 2),some 27,some (26,true),262143⟩,⟨.call (.func 31) [(.tmp 27)],some 28,some (26,true),524287⟩,⟨.load true 2 (.tmp 2),some 29,some (26,true),262143⟩,⟨.call (.func 32) [(.tmp 29)],some 30,some (26,true),2097151⟩,⟨.seq false [false,true,true,false,false] (.tmp 28) (.tmp 30),some 31,some (26,true),4194303⟩,o3 (.pick (.tmp 26) (.tmp 31) (.const (.bool false))) 32 8388607,mv' 32 33 16777215,⟨.load true 2 (.tmp 2),some 34,some (33,true),33554431⟩,⟨.mv (.tmp 1),some 35,some (33,true),33554431⟩,⟨.call (.func 34) [(.tmp 34),(.tmp 35)],some 36,some (33,true),134217727⟩,⟨.load true 2 (.tmp 2),some 37,some (33,true),33554431⟩,⟨.mv (.tmp 1),some 38,some (33,true),33554431⟩,⟨.call (.func 35) [(.tmp 37),(.tmp 38)],some 39,some (33,true),1073741823⟩,⟨.call (.func 33) [(.tmp 36),(.tmp 39)],some 40,some (33,true),2147483647⟩,o3 (.pick (.tmp 33) (.tmp 40) (.const (.bool false))) 41 4294967295,mv' 41 4 8589934591]
def c5:SC:=(.seq (.reg false c5_0) (.seq (.seq (.reg false c5_1) (.cond (.tmp 7) (.seq (.reg false c5_2) .ret) .skip)) (.seq (.reg true c5_3) .ret)))
def c3_0:LO:=[o3 (.box 25 (.tmp 0)) 2 0,o3 (.mv (.const (.bool false))) 4 0]
def c3_1:LO:=[ld' true 2 2 5 0,mv' 1 6 0,cl' 6 [5,6] 7 3]
def c3_2:LO:=[cl' 7 [] 8 0,mv' 8 4 1]
def c3_3:LO:=[cl' 7 [] 9 0,mv' 9 10 1,⟨.load true 2 (.tmp 2),some 11,some (10,true),3⟩,⟨.call (.func 8) [(.tmp 11)],some 12,some (10,true),7⟩,⟨.load true 2 (.tmp 2),some 13,some (10,true),3⟩,⟨.call (.func 9) [(.tmp 13)],some 14,some (10,true),31⟩,⟨.beq false (.tmp 12) (.tmp 14),some 15,some (10,true),63⟩,o3 (.pick (.tmp 10) (.tmp 15) (.const (.bool false))) 16 127,mv' 16 17 255,⟨.load true 2 (.tmp 2),some 18,some (17,true),511⟩,⟨.mv (.tmp 1),some 19,some (17,true),511⟩,⟨.call (.func 10) [(.tmp 18),(.tmp 19)],some 20,some (17,true),2047⟩,⟨.load true 2 (.tmp 2),some 21,some (17,true),511⟩,⟨.mv (.tmp 1),some 22,some (17,true),511⟩,⟨.call (.func 11) [(.tmp 21),(.tmp 22)],some 23,some (17,true),16383⟩,⟨.beq false (.tmp 20) (.tmp 23),some 24,some (17,true),32767⟩,o3 (.pick (.tmp 17) (.tmp 24) (.const (.bool false))) 25 65535,mv' 25 26 131071,⟨.load true 2 (.tmp 2),some 27,some (26,true),262143⟩,⟨.call (.func 12) [(.tmp 27)],some 28,some (26,true),524287⟩,⟨.load true 2 (.tmp 2),some 29,some (26,true),262143⟩,⟨.call (.func 13) [(.tmp 29)],some 30,some (26,true),2097151⟩,⟨.seq false [false,true,true,false,false] (.tmp 28) (.tmp 30),some 31,some (26,true),4194303⟩,o3 (.pick (.tmp 26) (.tmp 31) (.const (.bool false))) 32 8388607,mv' 32 33 16777215,⟨.load true 2 (.tmp 2),some 34,some (33,true),33554431⟩,⟨.mv (.tmp 1),some 35,some (33,true),33554431⟩,⟨.call (.func 14) [(.tmp 34),(.tmp 35)],some 36,some (33,true),134217727⟩,⟨.load true 2 (.tmp 2),some 37,some (33,true),33554431⟩,⟨.mv (.tmp 1),some 38,some (33,true),33554431⟩,⟨.call (.func 15) [(.tmp 37),(.tmp 38)],some 39,some (33,true),1073741823⟩,⟨.bin .eql (.tmp 36) (.tmp 39),some 40,some (33,true),2147483647⟩,o3 (.pick (.tmp 33) (.tmp 40) (.const (.bool false))) 41 4294967295,mv' 41 4 8589934591]
def c3:SC:=(.seq (.reg false c3_0) (.seq (.seq (.reg false c3_1) (.cond (.tmp 7) (.seq (.reg false c3_2) .ret) .skip)) (.seq (.reg true c3_3) .ret)))
theorem ycjf:Fn 3 c3 [.t 4]:=fn_0 Tryz.func3 (by kernel_rfl) (by kernel_rfl)
def c6_0:LO:=[o3 (.box 25 (.tmp 0)) 2 0,o3 (.mv (.const (.bool false))) 4 0]
def c6_1:LO:=[fa' 1 1 2 5 0,ld' false 1 5 6 1,ln' 6 7 3,o3 (.bin .gtr (.tmp 7) (ci' 60)) 8 7,mv' 8 9 15,⟨.faddr 0 1 (.tmp 2),some 10,some (9,false),31⟩,⟨.load false 1 (.tmp 10),some 11,some (9,false),63⟩,⟨.len (.tmp 11),some 12,some (9,false),127⟩,⟨.bin .gtr (.tmp 12) (ci' 60),some 13,some (9,false),255⟩,o3 (.pick (.tmp 9) (.const (.bool true)) (.tmp 13)) 14 511,mv' 14 15 1023,⟨.mv (.tmp 1),some 16,some (15,false),2047⟩,⟨.len (.tmp 16),some 17,some (15,false),4095⟩,⟨.bin .gtr (.tmp 17) (ci' 60),some 18,some (15,false),8191⟩,o3 (.pick (.tmp 15) (.const (.bool true)) (.tmp 18)) 19 16383,mv' 19 4 32767]
def c6:SC:=(.seq (.reg false c6_0) (.seq (.reg false c6_1) .ret))
theorem ycie:Fn 6 c6 [.t 4]:=fn_0 Tryz.func6 (by kernel_rfl) (by kernel_rfl)
def ybkd:LO:=[o3 (.box 25 (.tmp 0)) 2 0,o3 (.mv (ci' 0)) 4 0]
def ybgq:LO:=[ld' true 2 2 8 0,cl' 9 [8] 9 1,o3 (.un .not (.tmp 9)) 10 3,mv' 10 11 7,⟨.load true 2 (.tmp 2),some 12,some (11,false),15⟩,⟨.mv (.tmp 1),some 13,some (11,false),15⟩,⟨.call (.func 49) [],some 14,some (11,false),15⟩,⟨.call (.func 48) [(.tmp 12),(.tmp 13),(.tmp 14)],some 15,some (11,false),127⟩,⟨.un .not (.tmp 15),some 16,some (11,false),255⟩,o3 (.pick (.tmp 11) (.const (.bool true)) (.tmp 16)) 17 511,mv' 17 18 1023,⟨.load true 2 (.tmp 2),some 19,some (18,false),2047⟩,⟨.mv (.tmp 1),some 20,some (18,false),2047⟩,⟨.call (.func 50) [(.tmp 19),(.tmp 20),(ci' 0)],some 21,some (18,false),8191⟩,⟨.un .not (.tmp 21),some 22,some (18,false),16383⟩,o3 (.pick (.tmp 18) (.const (.bool true)) (.tmp 22)) 23 32767]
def ybnt:LO:=[o3 (.mv (.const (.int .i64 (-1)))) 4 0]
def ycca:LO:=[o3 (.mv (.const (.int .i64 (-1)))) 5 0,o3 (.mv (ci' 0)) 6 1]
def ybzu:LO:=[o3 (.mv (ci' 0)) 7 0]
def ybfd:LO:=[mv' 7 24 0,mv' 1 25 0,ln' 25 26 2,bn' .lss 24 26 27 7]
def ybwn:LO:=[mv' 1 30 0,mv' 7 31 0,ix' 1 30 31 32 3,ld' false 1 32 33 7,o3 (.idx 1 (.tmp 33) (ci' 1)) 34 15,ld' false 1 34 35 31,o3 (.bin .eql (.tmp 35) (ci' 1)) 36 63]
def ybyn:LO:=[mv' 7 37 0,mv' 37 5 1]
def ybxk:LO:=[mv' 6 38 0,o3 (.bin .add (.tmp 38) (ci' 1)) 39 1,mv' 39 6 3]
def ybvh:LO:=[mv' 7 28 0,o3 (.bin .add (.tmp 28) (ci' 1)) 29 1,mv' 29 7 3]
def ybcm:LO:=[mv' 6 40 0,o3 (.bin .neq (.tmp 40) (ci' 1)) 41 1,mv' 41 42 3,⟨.load true 2 (.tmp 2),some 43,some (42,false),7⟩,⟨.mv (.tmp 1),some 44,some (42,false),7⟩,⟨.call (.func 52) [(.tmp 43),(.tmp 44),(ci' 0)],some 45,some (42,false),31⟩,⟨.mv (.tmp 5),some 46,some (42,false),7⟩,⟨.call (.func 51) [(.tmp 45),(.tmp 46)],some 47,some (42,false),127⟩,⟨.un .not (.tmp 47),some 48,some (42,false),255⟩,o3 (.pick (.tmp 42) (.const (.bool true)) (.tmp 48)) 49 511]
def ybgo:LO:=[o3 (.mv (.const (.int .i64 (-1)))) 4 0]
def ybqo:LO:=[mv' 5 50 0,mv' 50 4 1]
def c15:SC:=(.seq (.reg false ybkd) (.seq (.seq (.reg true ybgq) (.cond (.tmp 23) (.seq (.reg false ybnt) .ret) .skip)) (.seq (.reg false ycca) (.seq (.seq (.reg false ybzu) (.block 0 (.loop (.seq (.seq (.reg false ybfd) (.cond (.tmp 27) .skip (.exit 0))) (.seq (.block 1 (.seq (.reg false ybwn) (.cond (.tmp 36) (.seq (.reg false ybyn) (.reg false ybxk)) .skip))) (.reg false ybvh)))))) (.seq (.seq (.reg false ybcm) (.cond (.tmp 49) (.seq (.reg false ybgo) .ret) .skip)) (.seq (.reg false ybqo) .ret))))))
theorem ycau:Fn 15 c15 [.t 4]:=fn_0 Tryz.func15 (by kernel_rfl) (by kernel_rfl)
def ycco:LO:=[o3 (.box 25 (.tmp 0)) 2 0,o3 (.mv (.const (.bool false))) 4 0]
def ycbf:LO:=[ld' true 2 2 5 0,mv' 1 6 0,cl' 15 [5,6] 7 3,o3 (.bin .geq (.tmp 7) (ci' 0)) 8 7,mv' 8 4 15]
def c11:SC:=(.seq (.reg false ycco) (.seq (.reg false ycbf) .ret))
theorem ycbu:Fn 11 c11 [.t 4]:=fn_0 Tryz.func11 (by kernel_rfl) (by kernel_rfl)
def yccd:LO:=[o3 (.box 25 (.tmp 0)) 3 0,o3 (.mv (.const (.bool false))) 6 0]
def ycdy:LO:=[o3 (.mv (ci' 0)) 7 0]
def ybmf:LO:=[mv' 7 8 0,mv' 1 9 0,ln' 9 10 2,bn' .lss 8 10 11 7]
def ybwq:LO:=[mv' 1 14 0,mv' 7 15 0,ix' 1 14 15 16 3,ld' false 1 16 17 7,mv' 2 18 0,ix' 1 17 18 19 31,ld' false 1 19 20 63,ld' true 2 3 21 0,mv' 7 22 0,cl' 87 [21,22] 23 384,bn' .neq 20 23 24 1023]
def ybzg:LO:=[o3 (.mv (.const (.bool false))) 6 0]
def ybzw:LO:=[mv' 7 12 0,o3 (.bin .add (.tmp 12) (ci' 1)) 13 1,mv' 13 7 3]
def ycbt:LO:=[o3 (.mv (.const (.bool true))) 6 0]
def c50:SC:=(.seq (.reg false yccd) (.seq (.seq (.reg false ycdy) (.block 0 (.loop (.seq (.seq (.reg false ybmf) (.cond (.tmp 11) .skip (.exit 0))) (.seq (.block 1 (.seq (.reg true ybwq) (.cond (.tmp 24) (.seq (.reg false ybzg) .ret) .skip))) (.reg false ybzw)))))) (.seq (.reg false ycbt) .ret)))
theorem ybyd:Fn 50 c50 [.t 6]:=fn_0 Tryz.func50 (by kernel_rfl) (by kernel_rfl)
def yccn:LO:=[o3 (.box 25 (.tmp 0)) 3 0,o3 (.mv (.const (.int .u32 0))) 6 0]
def ycar:LO:=[mv' 1 10 0,ln' 10 11 1,cl' 88 [11] 12 3,mv' 12 7 7]
def ycfg:LO:=[o3 (.mv (ci' 0)) 8 0]
def ybwu:LO:=[mv' 8 13 0,mv' 1 14 0,ln' 14 15 2,bn' .lss 13 15 16 7]
def ycat:LO:=[o3 (.mv (ci' 0)) 9 0]
def ybqi:LO:=[mv' 9 19 0,fa' 1 1 3 20 0,ld' false 1 20 21 2,mv' 8 22 0,ix' 1 21 22 23 14,ld' false 1 23 24 30,ln' 24 25 62,bn' .lss 19 25 26 127]
def ybuu:LO:=[mv' 1 29 0,fa' 1 1 3 30 0,ld' false 1 30 31 2,mv' 8 32 0,ix' 1 31 32 33 14,ld' false 1 33 34 30,mv' 9 35 0,ix' 2 34 35 36 126,fa' 0 1 36 37 254,ld' false 1 37 38 510,ix' 1 29 38 39 1023,ld' false 1 39 40 2047,mv' 2 41 0,ix' 1 40 41 42 8191,ld' false 1 42 43 16383,mv' 1 44 0,mv' 8 45 0,ix' 1 44 45 46 98304,ld' false 1 46 47 229376,mv' 2 48 0,ix' 1 47 48 49 1015808,ld' false 1 49 50 2064384,bn' .gtr 43 50 51 4194303]
def ycdp:LO:=[mv' 7 52 0,mv' 8 53 0,o3 (.conv .u64 (.tmp 53)) 54 2,o3 (.bin .shl (.const (.int .u32 1)) (.tmp 54)) 55 6,bn' .andNot 52 55 56 15,mv' 56 7 31]
def ybun:LO:=[mv' 9 27 0,o3 (.bin .add (.tmp 27) (ci' 1)) 28 1,mv' 28 9 3]
def yceg:LO:=[mv' 8 17 0,o3 (.bin .add (.tmp 17) (ci' 1)) 18 1,mv' 18 8 3]
def ybrq:LO:=[mv' 7 57 0,mv' 57 6 1]
def c52:SC:=(.seq (.reg false yccn) (.seq (.reg false ycar) (.seq (.seq (.reg false ycfg) (.block 0 (.loop (.seq (.seq (.reg false ybwu) (.cond (.tmp 16) .skip (.exit 0))) (.seq (.block 1 (.seq (.reg false ycat) (.block 2 (.loop (.seq (.seq (.reg false ybqi) (.cond (.tmp 26) .skip (.exit 2))) (.seq (.block 3 (.seq (.reg true ybuu) (.cond (.tmp 51) (.reg false ycdp) .skip))) (.reg false ybun))))))) (.reg false yceg)))))) (.seq (.reg false ybrq) .ret))))
theorem ybzp:Fn 52 c52 [.t 6]:=fn_0 Tryz.func52 (by kernel_rfl) (by kernel_rfl)
end Sh
end
end Go.Proofs.YtiejahgklcjhkaaGreat
