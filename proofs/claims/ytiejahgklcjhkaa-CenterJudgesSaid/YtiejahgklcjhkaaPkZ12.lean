/- Joined. -/
import Derived.Test.YtiejahgklcjhkaaPkZ11
import Derived.Test.YtiejahgklcjhkaaPkZ9
set_option linter.unusedSimpArgs false
set_option linter.unusedVariables false
set_option maxRecDepth 8000
open Nat renaming reduceEqDiff→zA,reduceAdd→zB,reduceLT→zC,reduceLeDiff→zD,le_refl→zH,zero_le→zI,ble_eq_true_of_le→zN,eq_zero_or_pos→zY,not_lt_zero→zAL,lt_irrefl→zAM,mul_comm→zAN,le_succ→zAO,beq→zAP
open List renaming take_succ_eq_append_getElem→zF,eq_nil_of_length_eq_zero→zJ,take_length→zK,foldl_append→zL,range→zM,getElem_mem→zO,mem_of_getElem?→zQ,getElem?_eq_getElem→zT,not_mem_nil→zU,getD_cons_zero→zX,foldl_cons→zZ,getD→zAA,mem_cons_of_mem→zAC,mem_cons_self→zAE,length_cons→zAH,range_succ→zAI,map_append→zAJ
open Int renaming natCast_zero→zG,tdiv_eq_ediv_of_nonneg→zS,toNat_of_nonneg→zW,reduceToNat→zAB,le_trans→zAD,toNat_natCast→zAF,le_refl→zAG
open Bool renaming and_eq_true→zV,eq_iff_iff→zAK
open Go
namespace Go.Proofs.Ytiejahgklcjhkaa
section
def ResD(D:Nat->Prop)(res:Nat->Nat->Nat):Prop:=∀e w,e≠0->res e w≠0/\subB (res e w) e/\D (res e w)
theorem Sys.run_allD{S:Sys}{D:Nat->Prop}{res:Nat->Nat->Nat}(hr:ResD D res){J:Conf->Cnt->Prop}(hstep:∀c k s,J c k->s≠0->subB s (S.en c)->D s->J (S.mv c s) (addP k s (S.en (S.mv c s)))) :
 ∀(ws:List Nat) (c:Conf) (k:Cnt),J c k->∀p∈S.run res ws c k,J p.1 p.2
 |[],c,k,_,p,hp=>by cases hp
 | w :: ws,c,k,hJ,p,hp=>by
   unfold Sys.run at hp;split at hp
   ·cases hp
   ·rename_i h0
    obtain⟨r1,r2,r3⟩:=hr _ w h0;have hJ':=hstep c k _ hJ r1 r2 r3;rcases List.mem_cons.1 hp with e|e
    ·rw[e];exact hJ'
    ·exact Sys.run_allD hr hstep ws _ _ hJ' p e
theorem Sys.runs_allD{S:Sys}{D:Nat->Prop}{res:Nat->Nat->Nat}(hr:ResD D res){J:Conf->Cnt->Prop}(hstep:∀c k s,J c k->s≠0->subB s (S.en c)->D s->J (S.mv c s) (addP k s (S.en (S.mv c s)))){ws:List Nat}{c:Conf}(h:J c (yfg (S.en c))):∀p∈S.runs res ws c,J p.1 p.2:=fun p hp=>by
 rcases List.mem_cons.1 hp with e|e
 ·rw[e];exact h
 ·exact Sys.run_allD hr hstep ws _ _ h p e
theorem ResD.ok{D:Nat->Prop}{res:Nat->Nat->Nat}(h:ResD D res):ybkg res:=fun e w h0=>⟨(h e w h0).1,(h e w h0).2.1⟩
structure ByRoundsC(S:Sys)(V:Conf->Prop)(D:Nat->Prop)(P:Nat->Nat->Conf->Prop):Prop where
 valid:∀c s,V c->s≠0->subB s (S.en c)->D s->V (S.mv c s)
 stay:∀c s v r r',r<=r'->r'<=r+1->V c->v<S.n->s.testBit v=false->subB s (S.en c)->D s->(∀u,u<S.n->P r u c)->P r' v c->P r' v (S.mv c s)
 move:∀c s v r,V c->v<S.n->s.testBit v=true->subB s (S.en c)->D s->(∀u,u<S.n->P r u c)->P (r+1) v (S.mv c s)
 rest:∀c v r,V c->v<S.n->(S.en c).testBit v=false->(∀u,u<S.n->P r u c)->P (r+1) v c
 less:∀r v c,P (r+1) v c->P r v c
structure RInvC(S:Sys)(V:Conf->Prop)(P:Nat->Nat->Conf->Prop)(c:Conf)(k:Cnt):Prop where
 valid:V c
 all:∀v,v<S.n->P k.rounds v c
 done:∀v,v<S.n->k.pend.testBit v=false->P (k.rounds+1) v c
 begun:k.begun<=k.rounds+1
section
variable {S:Sys}{V:Conf->Prop}{D:Nat->Prop}{P:Nat->Nat->Conf->Prop}
theorem ByRoundsC.start(h:ByRoundsC S V D P){c:Conf}(hv:V c)(h0:∀v,v<S.n->P 0 v c):RInvC S V P c (yfg (S.en c)) :=
 ⟨hv,h0,fun v hn hb=>h.rest c v 0 hv hn hb h0,by simp[yfg]⟩
theorem ByRoundsC.step(h:ByRoundsC S V D P)(c:Conf)(k:Cnt)(s:Nat)(hi:RInvC S V P c k)(h0:s≠0)(hs:subB s (S.en c))(hD:D s):RInvC S V P (S.mv c s) (addP k s (S.en (S.mv c s))):=by
 obtain⟨i1,i2,i3,i4⟩:=hi;have hv:=h.valid c s i1 h0 hs hD
 have hall:∀v,v<S.n->P k.rounds v (S.mv c s):=fun v hn=>by
  cases hb:s.testBit v with
  |true=>exact h.less _ _ _ (h.move c s v _ i1 hn hb hs hD i2)
  |false=>exact h.stay c s v _ _ (zH _) (zAO _) i1 hn hb hs hD i2 (i2 v hn)
 have hnext:∀v,v<S.n->(difB k.pend s&&&S.en (S.mv c s)).testBit v=false->P (k.rounds+1) v (S.mv c s):=fun v hn hb=>by
  rw[Nat.testBit_and,ylu]at hb;cases hb1:s.testBit v with
  |true=>exact h.move c s v _ i1 hn hb1 hs hD i2
  | false =>
    cases hb2:k.pend.testBit v with
    |false=>exact h.stay c s v _ _ (zAO _) (zH _) i1 hn hb1 hs hD i2 (i3 v hn hb2)
    | true =>
      rw[hb1,hb2]at hb;exact h.rest _ v _ hv hn (by simpa using hb) hall
 unfold addP;simp only
 by_cases hp:difB k.pend s&&&S.en (S.mv c s)=0
 ·simp only[if_pos hp];have hall':∀v,v<S.n->P (k.rounds+1) v (S.mv c s):=fun v hn=>hnext v hn (by rw[hp];simp)
  exact⟨hv,hall',fun v hn hb=>h.rest _ v _ hv hn hb hall',by show k.rounds+1<=_;simp⟩
 ·simp only[if_neg hp];exact⟨hv,hall,hnext,zH _⟩
theorem ByRoundsC.runs(h:ByRoundsC S V D P){res:Nat->Nat->Nat}(hr:ResD D res){ws:List Nat}{c:Conf}(hv:V c)(h0:∀v,v<S.n->P 0 v c):∀p∈S.runs res ws c,RInvC S V P p.1 p.2 :=
 Sys.runs_allD hr (fun c k s=>h.step c k s) (h.start hv h0)
theorem ByRoundsC.silent(h:ByRoundsC S V D P){c:Conf}(hv:V c)(h0:∀v,v<S.n->P 0 v c)(he:S.en c=0):∀r v,v<S.n->P r v c
 |0,v,hn=>h0 v hn
 |r+1,v,hn=>h.rest c v r hv hn (by rw[he];simp) (ByRoundsC.silent h hv h0 he r)
end
end
section
def hAt(c:Conf)(v:Nat):Int:=(c.getD v []).getD 0 0
def lAt(c:Conf)(v:Nat):Int:=(c.getD v []).getD 1 0
section
variable {nm nh nl nf nd nt ni:ByteArray}{g:Gr}{c:Conf}{u v w:Nat}
structure ElC(g:Gr)(c:Conf):Prop where
 len:c.length=g.ids.length
 row:∀v,v<g.ids.length->(c.getD v []).length=2/\(0<=hAt c v/\hAt c v<=g.ids.length)/\(lAt c v=0\/lAt c v=1)
open Classical in
end
end
section
structure Stab(g:Gr)(c:Conf)(v:Nat):Prop where
 low:¬Peak g v->lAt c v=0
 one:Peak g v->(∀u,adj g v u->htP g u<htP g v)->lAt c v=1
 two:Peak g v->∀u,adj g v u->htP g u=htP g v->lAt c u≠lAt c v
section
variable {nm nh nl nf nd nt ni:ByteArray}{g:Gr}{c:Conf}{u v w s:Nat}
end
end
section
theorem yvg{α:Type}(f:α->Int)(p:α->Bool):∀(l:List α) (m:Int),m<=l.foldl (fun m w=>if p w then max m (f w)else m) m/\(∀w∈l,p w=true->f w<=l.foldl (fun m w=>if p w then max m (f w)else m) m)/\∀t,m<=t->(∀w∈l,p w=true->f w<=t)->l.foldl (fun m w=>if p w then max m (f w)else m) m<=t
 |[],m=>⟨zAG _,fun w hw=>absurd hw zU,fun t ht _=>ht⟩
 | x :: l,m=>by
   obtain⟨h1,h2,h3⟩:=yvg f p l (if p x then max m (f x)else m)
   rw[zZ];refine⟨?_,fun w hw hp=>?_,fun t ht hl=>h3 t ?_ fun w hw=>hl w (zAC _ hw)⟩
   ·refine zAD ?_ h1;split<;>omega
   ·rcases List.mem_cons.1 hw with e|hw
    ·subst e;refine zAD ?_ h1;rw[if_pos hp];omega
    ·exact h2 w hw hp
   ·by_cases q:p x=true
    ·rw[if_pos q];have:=hl x zAE q;omega
    ·rw[if_neg q];exact ht
section
variable {g:Gr}{u v:Nat}
def ygo(g:Gr)(v u:Nat)(m:Int)(l:Int×Int):Int:=if (l.1 != (v:Int))=true then max m (1+rchP g u l.1.toNat)else m
theorem Tr.rch_loop(h:Tr g)(hu:adj g v u):(g.ports.getD u []).foldl (ygo g v u) 1=rchP g v u:=by
 obtain⟨hv,hul⟩:=h.good.adj_lt hu;obtain⟨h1,h2,h3⟩:=yvg (fun l:Int×Int=>1+rchP g u l.1.toNat) (fun l:Int×Int=>l.1 != (v:Int)) (g.ports.getD u []) 1;refine Int.le_antisymm (h3 _ (h.rch_pos hu) fun l hl hp=>?_) ?_
 ·obtain⟨a1,_,a2,_⟩:=yco h.good hul hl;rw[bne_iff_ne]at hp;exact h.rch_step hu a2 (fun e=>hp (by omega))
 ·rcases Int.lt_or_le (rchP g v u) 2 with q|q
  ·exact zAD (by omega) h1
  ·obtain⟨x,hx,hne,e⟩:=h.rch_from hu q;obtain⟨l,hl,el⟩:=yob hx;obtain⟨a1,_⟩:=yco h.good hul hl;have:=h2 l hl (by rw[bne_iff_ne];intro e;exact hne (by omega))
   rw[el]at this;rw[e];exact this
theorem Tr.rch_less(h:Tr g)(hu:adj g v u){l:Int×Int}(hl:l∈g.ports.getD u [])(hne:l.1≠(v:Int)):rchP g u l.1.toNat<rchP g v u:=by
 obtain⟨hv,hul⟩:=h.good.adj_lt hu;obtain⟨a1,_,a2,_⟩:=yco h.good hul hl;have:=h.rch_step hu a2 (fun e=>hne (by omega))
 omega
def yli(s:Int×Int)(x:Int):Int×Int:=(max s.1 x,max s.2 (min x s.1))
theorem ybaf{s:Int×Int}{x:Int}(h:s.2<=s.1):yli s x=step2 s x:=by
 unfold yli step2;split<;>(try split)<;>(refine Prod.ext ?_ ?_<;>simp only<;>omega)
theorem ybae:∀(l:List Int) (s:Int×Int),s.2<=s.1->l.foldl yli s=l.foldl step2 s
 |[],_,_=>rfl
 | x::l,s,h=>by
   rw[zZ,zZ,<-ybaf h];exact ybae l _ (by unfold yli;simp only;omega)
theorem ybox(g:Gr)(v:Nat):(((g.ports.getD v []).map fun l=>rchP g v l.1.toNat).foldl yli (0,0)).2=htP g v:=by
 rw[ybae _ _ (zAG _)];rfl
end
end
section
def yie(g:Gr)(k:Nat):Int:=(zM k).foldl (fun m v=>max m (ybk (ybj g v))) 0
abbrev ykb(g:Gr):Int:=yie g g.ports.length
section
variable {g:Gr}{a b v:Nat}
theorem ygq(k:Nat):yie g (k+1)=max (yie g k) (ybk (ybj g k)):=by
 unfold yie;rw[zAI,zL];rfl
theorem yin:∀k,0<=yie g k
 |0=>zAG _
 | k+1=>by
   rw[ygq];have:=yin k;omega
end
end
section
namespace Sh
open Go Ev
def ybrd:LO:=[o3 (.box 25 (.tmp 0)) 1 0,o3 (.mv (ci' 0)) 2 0,o3 (.mv (ci' 0)) 3 2]
def ybph:LO:=[ld' true 2 1 6 0,cl' 49 [6] 7 1,o3 (.un .not (.tmp 7)) 8 3]
def ybyd:LO:=[o3 (.mv (ci' 0)) 2 0,o3 (.mv (ci' 0)) 3 1]
def ybvf:LO:=[fa' 1 1 1 9 0,ld' false 1 9 10 1,ln' 10 11 3,o3 (.mv (ci' 0)) 12 0]
def ybrm:LO:=[bn' .lss 12 11 13 0]
def ybts:LO:=[ix' 1 10 12 14 0,ld' false 1 14 15 1,mv' 15 5 3]
def ybuo:LO:=[mv' 3 16 0,mv' 5 17 0,ln' 17 18 2,bn' .add 16 18 19 7,mv' 19 3 15]
def ybsn:LO:=[o3 (.bin .add (.tmp 12) (ci' 1)) 20 0,mv' 20 12 1]
def ybzi:LO:=[fa' 0 1 1 21 0,ld' false 1 21 22 1,ln' 22 23 3,mv' 3 24 0,o3 (.bin .quo (.tmp 24) (ci' 2)) 25 8,mv' 23 2 7,mv' 25 3 63]
def c32:SC:=(.seq (.reg false ybrd) (.seq (.seq (.reg false ybph) (.cond (.tmp 8) (.seq (.reg false ybyd) .ret) .skip)) (.seq (.seq (.reg false ybvf) (.block 0 (.loop (.seq (.reg false ybrm) (.seq (.cond (.tmp 13) .skip (.exit 0)) (.seq (.block 1 (.seq (.reg false ybts) (.reg false ybuo))) (.reg false ybsn))))))) (.seq (.reg false ybzi) .ret))))
theorem ybvp:Fn 32 c32 [.t 2,.t 3]:=fn_0 Try.func32 (by kernel_rfl) (by kernel_rfl)
def ybql:LO:=[o3 (.box 25 (.tmp 0)) 1 0,o3 (.mv (.const (.bool false))) 2 0]
def ybom:LO:=[ld' true 2 1 5 0,cl' 31 [5] 6 1,o3 (.un .not (.tmp 6)) 7 3]
def ybvg:LO:=[o3 (.mv (.const (.bool false))) 2 0]
def ybsp:LO:=[ld' true 2 1 9 0,cl' 32 [9] 10 1,mv' 10 8 3,xt' 8 0 11 7,xt' 8 1 12 7,mv' 11 3 15,mv' 12 4 63]
def ybxy:LO:=[mv' 4 13 0,mv' 3 14 0,o3 (.bin .sub (.tmp 14) (ci' 1)) 15 2,bn' .eql 13 15 16 7,mv' 16 2 15]
def c15:SC:=(.seq (.reg false ybql) (.seq (.seq (.reg false ybom) (.cond (.tmp 7) (.seq (.reg false ybvg) .ret) .skip)) (.seq (.reg false ybsp) (.seq (.reg false ybxy) .ret))))
theorem ybso:Fn 15 c15 [.t 2]:=fn_0 Try.func15 (by kernel_rfl) (by kernel_rfl)
def ybra:LO:=[o3 (.box 25 (.tmp 0)) 1 0,o3 (.mv (ci' 0)) 2 0]
def ybsa:LO:=[ld' true 2 1 5 0,cl' 31 [5] 6 1,o3 (.un .not (.tmp 6)) 7 3]
def ybxk:LO:=[o3 (.mv (.const (.int .i64 (-1)))) 2 0]
def ybtv:LO:=[o3 (.mv (ci' 0)) 3 0]
def ybvo:LO:=[fa' 1 1 1 8 0,ld' false 1 8 9 1,ln' 9 10 3,o3 (.mv (ci' 0)) 11 0]
def ybps:LO:=[bn' .lss 11 10 12 0]
def ybxl:LO:=[mv' 11 13 0,mv' 13 4 1]
def ybsu:LO:=[mv' 3 14 0,ld' true 2 1 15 0,mv' 4 16 0,cl' 43 [15,16] 17 6,cl' 42 [17] 18 14,o3 (.mm true (.tmp 14) (.tmp 18)) 19 31,mv' 19 3 63]
def ybun:LO:=[o3 (.bin .add (.tmp 11) (ci' 1)) 20 0,mv' 20 11 1]
def ybte:LO:=[mv' 3 21 0,mv' 21 2 1]
def c22:SC:=(.seq (.reg false ybra) (.seq (.seq (.reg false ybsa) (.cond (.tmp 7) (.seq (.reg false ybxk) .ret) .skip)) (.seq (.reg false ybtv) (.seq (.seq (.reg false ybvo) (.block 0 (.loop (.seq (.reg false ybps) (.seq (.cond (.tmp 12) .skip (.exit 0)) (.seq (.block 1 (.seq (.reg false ybxl) (.reg false ybsu))) (.reg false ybun))))))) (.seq (.reg false ybte) .ret)))))
theorem ycae:Fn 22 c22 [.t 2]:=fn_0 Try.func22 (by kernel_rfl) (by kernel_rfl)
def c6_0:LO:=[o3 (.box 25 (.tmp 0)) 1 0,o3 (.mv (.const (.bool false))) 2 0]
def c6_1:LO:=[ld' true 2 1 3 0,cl' 15 [3] 4 1,mv' 4 2 3]
def c6:SC:=(.seq (.reg false c6_0) (.seq (.reg false c6_1) .ret))
theorem ycbb:Fn 6 c6 [.t 2]:=fn_0 Try.func6 (by kernel_rfl) (by kernel_rfl)
def ybnn:LO:=[o3 (.box 25 (.tmp 0)) 2 0,o3 (.mv (.const (.bool false))) 4 0]
def ybqg:LO:=[ld' true 2 2 5 0,cl' 6 [5] 6 1,mv' 6 7 3,⟨.load true 2 (.tmp 2),some 8,some (7,true),7⟩,⟨.mv (.tmp 1),some 9,some (7,true),7⟩,⟨.faddr 0 1 (.tmp 2),some 10,some (7,true),7⟩,⟨.load false 1 (.tmp 10),some 11,some (7,true),39⟩,⟨.len (.tmp 11),some 12,some (7,true),103⟩,⟨.bslice 3 1 1 [.i .i64 0] [(0,1,(.tmp 12))],some 13,some (7,true),231⟩,⟨.call (.func 35) [(.tmp 8),(.tmp 9),(.tmp 13)],some 14,some (7,true),511⟩,o3 (.pick (.tmp 7) (.tmp 14) (.const (.bool false))) 15 1023,mv' 15 4 2047]
def c17:SC:=(.seq (.reg false ybnn) (.seq (.reg false ybqg) .ret))
theorem ybxx:Fn 17 c17 [.t 4]:=fn_0 Try.func17 (by kernel_rfl) (by kernel_rfl)
def ybwa:LO:=[o3 (.box 25 (.tmp 0)) 3 0,o3 (.mv (ci' 0)) 6 0]
def ybwe:LO:=[o3 (.mv (ci' 1)) 7 0]
def ybsb:LO:=[fa' 1 1 3 10 0,ld' false 1 10 11 1,mv' 2 12 0,ix' 1 11 12 13 7,ld' false 1 13 14 15,ln' 14 15 31,o3 (.mv (ci' 0)) 16 0]
def ybkh:LO:=[bn' .lss 16 15 17 0]
def ybnr:LO:=[ix' 2 14 16 18 0,ld' true 2 18 19 1,o3 (.alloc 55 1 [.i .i64 0,.i .i64 0]) 9 0,o0 (.store 2 (.tmp 9) (.tmp 19)) 7]
def yboo:LO:=[fa' 0 1 9 20 0,ld' false 1 20 21 1,mv' 1 22 0,bn' .neq 21 22 23 7]
def ycaf:LO:=[mv' 7 24 0,ld' true 2 3 25 0,mv' 2 26 0,fa' 0 1 9 27 0,ld' false 1 27 28 8,cl' 36 [25,26,28] 29 30,o3 (.bin .add (ci' 1) (.tmp 29)) 30 62,o3 (.mm true (.tmp 24) (.tmp 30)) 31 127,mv' 31 7 255]
def ybpk:LO:=[o3 (.bin .add (.tmp 16) (ci' 1)) 32 0,mv' 32 16 1]
def ybue:LO:=[mv' 7 33 0,mv' 33 6 1]
def c36:SC:=(.seq (.reg false ybwa) (.seq (.reg false ybwe) (.seq (.seq (.reg false ybsb) (.block 0 (.loop (.seq (.reg false ybkh) (.seq (.cond (.tmp 17) .skip (.exit 0)) (.seq (.block 1 (.seq (.reg false ybnr) (.seq (.reg false yboo) (.cond (.tmp 23) (.reg false ycaf) .skip)))) (.reg false ybpk))))))) (.seq (.reg false ybue) .ret))))
theorem ybxh:Fn 36 c36 [.t 6]:=fn_0 Try.func36 (by kernel_rfl) (by kernel_rfl)
def ybus:LO:=[o3 (.box 25 (.tmp 0)) 1 0,o3 (.mv (.const (.slice none 0 0))) 2 0]
def ybym:LO:=[fa' 0 1 1 10 0,ld' false 1 10 11 1,ln' 11 12 3,o3 (.mk 3 1 8 [.i .i64 0] (.tmp 12) (.tmp 12)) 13 7,mv' 13 3 15]
def ybuc:LO:=[fa' 1 1 1 14 0,ld' false 1 14 15 1,ln' 15 16 3,o3 (.mv (ci' 0)) 17 0]
def ybqv:LO:=[bn' .lss 17 16 18 0]
def ybyz:LO:=[mv' 17 19 0,ix' 1 15 17 20 0,ld' false 1 20 21 2,mv' 19 4 7,mv' 21 5 15]
def ybtk:LO:=[o3 (.mv (ci' 0)) 6 0]
def ybsq:LO:=[mv' 5 22 0,ln' 22 23 1,o3 (.mv (ci' 0)) 24 0]
def ybro:LO:=[bn' .lss 24 23 25 0]
def ybta:LO:=[ix' 2 22 24 26 0,ld' true 2 26 27 1,o3 (.alloc 55 1 [.i .i64 0,.i .i64 0]) 8 0,o0 (.store 2 (.tmp 8) (.tmp 27)) 7]
def ybtt:LO:=[ld' true 2 1 28 0,mv' 4 29 0,fa' 0 1 8 30 0,ld' false 1 30 31 4,cl' 36 [28,29,31] 32 15,mv' 32 9 31]
def ybmp:LO:=[mv' 3 33 0,mv' 4 34 0,mv' 3 35 0,mv' 4 36 0,ix' 1 35 36 37 12,ld' false 1 37 38 28,mv' 9 39 0,mv' 6 40 0,o3 (.mm false (.tmp 39) (.tmp 40)) 41 192,o3 (.mm true (.tmp 38) (.tmp 41)) 42 508,ix' 1 33 34 43 1023,o0 (.store 1 (.tmp 43) (.tmp 42)) 2047]
def ybng:LO:=[mv' 6 44 0,mv' 9 45 0,o3 (.mm true (.tmp 44) (.tmp 45)) 46 3,mv' 46 6 7]
def ybmr:LO:=[o3 (.bin .add (.tmp 24) (ci' 1)) 47 0,mv' 47 24 1]
def ybmv:LO:=[o3 (.bin .add (.tmp 17) (ci' 1)) 48 0,mv' 48 17 1]
def ybnf:LO:=[mv' 3 49 0,mv' 49 2 1]
def c18:SC:=(.seq (.reg false ybus) (.seq (.reg false ybym) (.seq (.seq (.reg false ybuc) (.block 0 (.loop (.seq (.reg false ybqv) (.seq (.cond (.tmp 18) .skip (.exit 0)) (.seq (.block 1 (.seq (.reg false ybyz) (.seq (.reg false ybtk) (.seq (.reg false ybsq) (.block 2 (.loop (.seq (.reg false ybro) (.seq (.cond (.tmp 25) .skip (.exit 2)) (.seq (.block 3 (.seq (.reg false ybta) (.seq (.reg false ybtt) (.seq (.reg false ybmp) (.reg false ybng))))) (.reg false ybmr)))))))))) (.reg false ybmv))))))) (.seq (.reg false ybnf) .ret))))
theorem ybub:Fn 18 c18 [.t 2]:=fn_0 Try.func18 (by kernel_rfl) (by kernel_rfl)
def ybzl:LO:=[o3 (.box 25 (.tmp 0)) 2 0,o3 (.box 45 (.tmp 1)) 3 0,o3 (.mv (.const (.int .u32 0))) 4 0]
def ybzu:LO:=[ld' true 2 2 8 0,cl' 45 [8] 9 1,o3 (.alloc 33 1 [.i .u32 0]) 5 0,o0 (.store 1 (.tmp 5) (.tmp 9)) 7]
def ybzq:LO:=[ld' true 2 2 10 0,cl' 46 [10] 11 1]
def ybsh:LO:=[mv' 12 6 0]
def ybsw:LO:=[o3 (.alloc 55 1 [.i .i64 0,.i .i64 0]) 7 0,o0 (.store 2 (.tmp 7) (.tmp 13)) 1]
def ybtj:LO:=[ld' false 1 3 14 0,mv' 6 15 0,o3 (.call (.tmp 14) [(.tmp 15)]) 16 3,ld' false 1 3 17 0,fa' 0 1 7 18 0,ld' false 1 18 19 16,o3 (.call (.tmp 17) [(.tmp 19)]) 20 63,bn' .lss 16 20 21 127]
def ybxz:LO:=[ld' false 1 5 22 0,mv' 6 23 0,o3 (.bin .shl (.const (.int .u32 1)) (.tmp 23)) 24 2,bn' .andNot 22 24 25 7,o0 (.store 1 (.tmp 5) (.tmp 25)) 15]
def ybwb:LO:=[ld' false 1 5 26 0,mv' 26 4 1]
def c24:SC:=(.seq (.reg false ybzl) (.seq (.reg false ybzu) (.seq (.seq (.reg false ybzq) (.block 0 (.range (.tmp 11) [12,13] (.seq (.reg false ybsh) (.reg false ybsw)) (.block 1 (.seq (.reg true ybtj) (.cond (.tmp 21) (.reg true ybxz) .skip)))))) (.seq (.reg false ybwb) .ret))))
theorem ybvr:Fn 24 c24 [.t 4]:=fn_0 Try.func24 (by kernel_rfl) (by kernel_rfl)
def c8_0:LO:=[o3 (.box 25 (.tmp 0)) 2 0,o3 (.mv (.const (.bool false))) 4 0]
def c8_1:LO:=[ld' true 2 2 7 0,mv' 1 8 0,cl' 17 [7,8] 9 3,o3 (.un .not (.tmp 9)) 10 7]
def c8_2:LO:=[o3 (.mv (.const (.bool false))) 4 0]
def c8_3:LO:=[ld' true 2 2 11 0,cl' 18 [11] 12 1,ln' 12 13 3,o3 (.mv (ci' 0)) 14 0]
def c8_4:LO:=[bn' .lss 14 13 15 0]
def c8_5:LO:=[mv' 14 16 0,ix' 1 12 14 17 0,ld' false 1 17 18 2,mv' 16 5 7,mv' 18 6 15]
def c8_6:LO:=[mv' 1 19 0,mv' 5 20 0,ix' 1 19 20 21 3,ld' false 1 21 22 7,o3 (.idx 1 (.tmp 22) (ci' 0)) 23 15,ld' false 1 23 24 31,mv' 6 25 0,bn' .neq 24 25 26 127]
def c8_7:LO:=[o3 (.mv (.const (.bool false))) 4 0]
def c8_8:LO:=[o3 (.bin .add (.tmp 14) (ci' 1)) 27 0,mv' 27 14 1]
def c8_9:LO:=[o3 (.mv (.const (.bool true))) 4 0]
def c8:SC:=(.seq (.reg false c8_0) (.seq (.seq (.reg false c8_1) (.cond (.tmp 10) (.seq (.reg false c8_2) .ret) .skip)) (.seq (.seq (.reg false c8_3) (.block 0 (.loop (.seq (.reg false c8_4) (.seq (.cond (.tmp 15) .skip (.exit 0)) (.seq (.block 1 (.seq (.reg false c8_5) (.seq (.reg false c8_6) (.cond (.tmp 26) (.seq (.reg false c8_7) .ret) .skip)))) (.reg false c8_8))))))) (.seq (.reg false c8_9) .ret))))
theorem ycay:Fn 8 c8 [.t 4]:=fn_0 Try.func8 (by kernel_rfl) (by kernel_rfl)
def ybov:LO:=[o3 (.box 25 (.tmp 0)) 1 0,o3 (.alloc 31 1 [.i .i64 0,.b false,.b false,.i .i64 0,.i .i64 0]) 2 0]
def ybot:LO:=[ld' true 2 1 3 0,cl' 6 [3] 4 1,o3 (.un .not (.tmp 4)) 5 3]
def ybvz:LO:=[o3 (.build [.i .i64 0,.b false,.b false,.i .i64 0,.i .i64 0] []) 6 0,o0 (.store 5 (.tmp 2) (.tmp 6)) 1]
def ybyw:LO:=[ld' true 2 1 7 0,cl' 22 [7] 8 1,o3 (.bin .quo (.tmp 8) (ci' 2)) 9 3,o3 (.bin .add (.tmp 9) (ci' 1)) 10 7,o3 (.build [.i .i64 0,.b false,.b false,.i .i64 0,.i .i64 0] [(0,1,(ci' 3)),(2,1,(.const (.bool true))),(3,1,(.tmp 10)),(4,1,(.const (.int .i64 (-1))))]) 11 15,o0 (.store 5 (.tmp 2) (.tmp 11)) 31]
def c10:SC:=(.seq (.reg false ybov) (.seq (.seq (.reg false ybot) (.cond (.tmp 5) (.seq (.reg false ybvz) .ret) .skip)) (.seq (.reg false ybyw) .ret)))
theorem ybzw:Fn 10 c10 [.c 2 true 5]:=fn_0 Try.func10 (by kernel_rfl) (by kernel_rfl)
def yboi:LO:=[o3 (.box 25 (.tmp 0)) 2 0,o3 (.box 26 (.tmp 1)) 3 0,o3 (.mv (.const (.int .u32 0))) 4 0]
def ybpi:LO:=[ld' true 2 2 5 0,ld' false 1 3 6 0,cl' 17 [5,6] 7 3,o3 (.un .not (.tmp 7)) 8 7]
def ybva:LO:=[o3 (.mv (.const (.int .u32 0))) 4 0]
def ybzt:LO:=[ld' true 2 2 9 0,o3 (.mkfn 25 [] [(.tmp 3)]) 10 0,cl' 24 [9,10] 11 3,mv' 11 4 7]
def c12:SC:=(.seq (.reg false yboi) (.seq (.seq (.reg false ybpi) (.cond (.tmp 8) (.seq (.reg false ybva) .ret) .skip)) (.seq (.reg false ybzt) .ret)))
theorem ybxc:Fn 12 c12 [.t 4]:=fn_0 Try.func12 (by kernel_rfl) (by kernel_rfl)
def ybvs:LO:=[o3 (.mv (ci' 0)) 3 0]
def ybtn:LO:=[ld' false 1 1 4 0,mv' 0 5 0,ix' 1 4 5 6 3,ld' false 1 6 7 7,o3 (.idx 1 (.tmp 7) (ci' 0)) 8 15,ld' false 1 8 9 31,mv' 9 3 63]
def c25:SC:=(.seq (.reg false ybvs) (.seq (.reg false ybtn) .ret))
theorem ybsz:Fn 25 c25 [.t 3]:=fn_0 Try.func25 (by kernel_rfl) (by kernel_rfl)
def ybqf:LO:=[o3 (.box 25 (.tmp 0)) 1 0,o3 (.mv (ci' 0)) 2 0,o3 (.mv (ci' 0)) 3 2]
def ybqd:LO:=[ld' true 2 1 6 0,cl' 37 [6] 7 1,o3 (.un .not (.tmp 7)) 8 3]
def ybzn:LO:=[o3 (.mv (ci' 0)) 2 0,o3 (.mv (ci' 0)) 3 1]
def ybse:LO:=[o3 (.mv (ci' 0)) 4 0]
def ybyr:LO:=[o3 (.mv (ci' 0)) 5 0]
def ybqq:LO:=[mv' 5 9 0,fa' 1 1 1 10 0,ld' false 1 10 11 2,ln' 11 12 6,bn' .lss 9 12 13 15]
def ybwj:LO:=[mv' 4 16 0,fa' 1 1 1 17 0,ld' false 1 17 18 2,mv' 5 19 0,ix' 1 18 19 20 14,ld' false 1 20 21 30,ln' 21 22 62,bn' .add 16 22 23 127,mv' 23 4 255]
def ybvq:LO:=[mv' 5 14 0,o3 (.bin .add (.tmp 14) (ci' 1)) 15 1,mv' 15 5 3]
def ybwi:LO:=[fa' 1 1 1 24 0,ld' false 1 24 25 1,ln' 25 26 3,mv' 4 27 0,o3 (.bin .quo (.tmp 27) (ci' 2)) 28 8,mv' 26 2 7,mv' 28 3 63]
def c33:SC:=(.seq (.reg false ybqf) (.seq (.seq (.reg false ybqd) (.cond (.tmp 8) (.seq (.reg false ybzn) .ret) .skip)) (.seq (.reg false ybse) (.seq (.seq (.reg false ybyr) (.block 0 (.loop (.seq (.seq (.reg false ybqq) (.cond (.tmp 13) .skip (.exit 0))) (.seq (.block 1 (.reg false ybwj)) (.reg false ybvq)))))) (.seq (.reg false ybwi) .ret)))))
theorem ybyk:Fn 33 c33 [.t 2,.t 3]:=fn_0 Try.func33 (by kernel_rfl) (by kernel_rfl)
def ybky:LO:=[o3 (.box 25 (.tmp 0)) 1 0,o3 (.mv (.const (.bool false))) 2 0]
def ybjr:LO:=[ld' true 2 1 6 0,cl' 33 [6] 7 1,mv' 7 5 3,xt' 5 0 8 7,xt' 5 1 9 7,mv' 8 3 15,mv' 9 4 63]
def ybkw:LO:=[ld' true 2 1 10 0,cl' 34 [10] 11 1,mv' 11 12 3,⟨.mv (.tmp 4),some 13,some (12,true),7⟩,⟨.mv (.tmp 3),some 14,some (12,true),7⟩,⟨.bin .sub (.tmp 14) (ci' 1),some 15,some (12,true),23⟩,⟨.bin .eql (.tmp 13) (.tmp 15),some 16,some (12,true),63⟩,o3 (.pick (.tmp 12) (.tmp 16) (.const (.bool false))) 17 127,mv' 17 2 255]
def c16:SC:=(.seq (.reg false ybky) (.seq (.reg false ybjr) (.seq (.reg false ybkw) .ret)))
theorem ybwu:Fn 16 c16 [.t 2]:=fn_0 Try.func16 (by kernel_rfl) (by kernel_rfl)
def ybqo:LO:=[o3 (.box 25 (.tmp 0)) 1 0,o3 (.mv (ci' 0)) 2 0]
def ybpj:LO:=[ld' true 2 1 5 0,cl' 34 [5] 6 1,o3 (.un .not (.tmp 6)) 7 3]
def ybwg:LO:=[o3 (.mv (.const (.int .i64 (-1)))) 2 0]
def ybwn:LO:=[o3 (.mv (ci' 0)) 3 0]
def ybsi:LO:=[o3 (.mv (ci' 0)) 4 0]
def ybou:LO:=[mv' 4 8 0,fa' 1 1 1 9 0,ld' false 1 9 10 2,ln' 10 11 6,bn' .lss 8 11 12 15]
def ybvd:LO:=[mv' 3 15 0,ld' true 2 1 16 0,mv' 4 17 0,cl' 44 [16,17] 18 6,o3 (.mm true (.tmp 15) (.tmp 18)) 19 15,mv' 19 3 31]
def ybxj:LO:=[mv' 4 13 0,o3 (.bin .add (.tmp 13) (ci' 1)) 14 1,mv' 14 4 3]
def ybty:LO:=[mv' 3 20 0,mv' 20 2 1]
def c23:SC:=(.seq (.reg false ybqo) (.seq (.seq (.reg false ybpj) (.cond (.tmp 7) (.seq (.reg false ybwg) .ret) .skip)) (.seq (.reg false ybwn) (.seq (.seq (.reg false ybsi) (.block 0 (.loop (.seq (.seq (.reg false ybou) (.cond (.tmp 12) .skip (.exit 0))) (.seq (.block 1 (.reg false ybvd)) (.reg false ybxj)))))) (.seq (.reg false ybty) .ret)))))
theorem ybve:Fn 23 c23 [.t 2]:=fn_0 Try.func23 (by kernel_rfl) (by kernel_rfl)
def ycad:LO:=[o3 (.mv (.const (.slice none 0 0))) 0 0]
def ybxu:LO:=[o3 (.call (.func 40) [(.const (.string (ByteArray.mk #[104]))),(ci' 0),(ci' 1),(ci' 0)]) 1 0,o3 (.bslice 58 6 1 [.a (.string (ByteArray.mk #[])),.i .i64 0,.i .i64 0,.i .i64 0,.i .i64 0,.i .i64 0] [(0,6,(.tmp 1))]) 2 1,mv' 2 0 3]
def c20:SC:=(.seq (.reg false ycad) (.seq (.reg false ybxu) .ret))
theorem ybud:Fn 20 c20 [.t 0]:=fn_0 Try.func20 (by kernel_rfl) (by kernel_rfl)
def c7_0:LO:=[o3 (.box 25 (.tmp 0)) 1 0,o3 (.mv (.const (.bool false))) 2 0]
def c7_1:LO:=[ld' true 2 1 3 0,cl' 16 [3] 4 1,mv' 4 2 3]
def c7:SC:=(.seq (.reg false c7_0) (.seq (.reg false c7_1) .ret))
theorem yccc:Fn 7 c7 [.t 2]:=fn_0 Try.func7 (by kernel_rfl) (by kernel_rfl)
def ybtf:LO:=[o3 (.box 25 (.tmp 0)) 2 0,o3 (.mv (ci' 0)) 4 0]
def ybsr:LO:=[o3 (.mv (ci' 0)) 5 0,o3 (.mv (ci' 0)) 6 1]
def ybsg:LO:=[o3 (.mv (ci' 0)) 7 0]
def ybje:LO:=[mv' 7 9 0,fa' 1 1 2 10 0,ld' false 1 10 11 2,mv' 1 12 0,ix' 1 11 12 13 14,ld' false 1 13 14 30,ln' 14 15 62,bn' .lss 9 15 16 127]
def ybrc:LO:=[ld' true 2 2 19 0,mv' 1 20 0,mv' 7 21 0,cl' 54 [19,20,21] 22 7,mv' 22 8 15]
def ybqk:LO:=[mv' 8 23 0,mv' 5 24 0,bn' .gtr 23 24 25 3]
def ybsc:LO:=[mv' 8 26 0,mv' 5 27 0,mv' 26 5 3,mv' 27 6 7]
def ybsy:LO:=[mv' 6 28 0,mv' 8 29 0,o3 (.mm true (.tmp 28) (.tmp 29)) 30 3,mv' 30 6 7]
def ybpr:LO:=[mv' 7 17 0,o3 (.bin .add (.tmp 17) (ci' 1)) 18 1,mv' 18 7 3]
def ybuj:LO:=[mv' 6 31 0,mv' 31 4 1]
def c41:SC:=(.seq (.reg false ybtf) (.seq (.reg false ybsr) (.seq (.seq (.reg false ybsg) (.block 0 (.loop (.seq (.seq (.reg false ybje) (.cond (.tmp 16) .skip (.exit 0))) (.seq (.block 1 (.seq (.reg false ybrc) (.seq (.reg false ybqk) (.cond (.tmp 25) (.reg false ybsc) (.reg false ybsy))))) (.reg false ybpr)))))) (.seq (.reg false ybuj) .ret))))
theorem ybwc:Fn 41 c41 [.t 4]:=fn_0 Try.func41 (by kernel_rfl) (by kernel_rfl)
def ybuw:LO:=[o3 (.box 25 (.tmp 0)) 3 0,o3 (.mv (ci' 0)) 6 0]
def ybua:LO:=[fa' 1 1 3 10 0,ld' false 1 10 11 1,mv' 1 12 0,ix' 1 11 12 13 7,ld' false 1 13 14 15,mv' 2 15 0,ix' 2 14 15 16 63,fa' 0 1 16 17 127,ld' false 1 17 18 255,mv' 18 7 511,o3 (.mv (ci' 1)) 8 1023]
def ycac:LO:=[o3 (.mv (ci' 0)) 9 0]
def yblf:LO:=[mv' 9 19 0,fa' 1 1 3 20 0,ld' false 1 20 21 2,mv' 7 22 0,ix' 1 21 22 23 14,ld' false 1 23 24 30,ln' 24 25 62,bn' .lss 19 25 26 127]
def ybrb:LO:=[fa' 1 1 3 29 0,ld' false 1 29 30 1,mv' 7 31 0,ix' 1 30 31 32 7,ld' false 1 32 33 15,mv' 9 34 0,ix' 2 33 34 35 63,fa' 0 1 35 36 127,ld' false 1 36 37 255,mv' 1 38 0,bn' .neq 37 38 39 1023]
def ybtw:LO:=[mv' 8 40 0,ld' true 2 3 41 0,mv' 7 42 0,mv' 9 43 0,cl' 54 [41,42,43] 44 14,o3 (.bin .add (ci' 1) (.tmp 44)) 45 30,o3 (.mm true (.tmp 40) (.tmp 45)) 46 63,mv' 46 8 127]
def ybqa:LO:=[mv' 9 27 0,o3 (.bin .add (.tmp 27) (ci' 1)) 28 1,mv' 28 9 3]
def ybzb:LO:=[mv' 8 47 0,mv' 47 6 1]
def c54:SC:=(.seq (.reg false ybuw) (.seq (.reg false ybua) (.seq (.seq (.reg false ycac) (.block 0 (.loop (.seq (.seq (.reg false yblf) (.cond (.tmp 26) .skip (.exit 0))) (.seq (.block 1 (.seq (.reg false ybrb) (.cond (.tmp 39) (.reg false ybtw) .skip))) (.reg false ybqa)))))) (.seq (.reg false ybzb) .ret))))
theorem ybwd:Fn 54 c54 [.t 6]:=fn_0 Try.func54 (by kernel_rfl) (by kernel_rfl)
def ybnm:LO:=[o3 (.box 25 (.tmp 0)) 1 0,o3 (.alloc 31 1 [.i .i64 0,.b false,.b false,.i .i64 0,.i .i64 0]) 2 0]
def ybpy:LO:=[ld' true 2 1 3 0,cl' 7 [3] 4 1,o3 (.un .not (.tmp 4)) 5 3]
def ybul:LO:=[o3 (.build [.i .i64 0,.b false,.b false,.i .i64 0,.i .i64 0] []) 6 0,o0 (.store 5 (.tmp 2) (.tmp 6)) 1]
def ybsf:LO:=[ld' true 2 1 7 0,cl' 23 [7] 8 1,o3 (.bin .quo (.tmp 8) (ci' 2)) 9 3,o3 (.bin .add (.tmp 9) (ci' 1)) 10 7,o3 (.build [.i .i64 0,.b false,.b false,.i .i64 0,.i .i64 0] [(0,1,(ci' 3)),(2,1,(.const (.bool true))),(3,1,(.tmp 10)),(4,1,(.const (.int .i64 (-1))))]) 11 15,o0 (.store 5 (.tmp 2) (.tmp 11)) 31]
def c11:SC:=(.seq (.reg false ybnm) (.seq (.seq (.reg false ybpy) (.cond (.tmp 5) (.seq (.reg false ybul) .ret) .skip)) (.seq (.reg false ybsf) .ret)))
theorem ybyq:Fn 11 c11 [.c 2 true 5]:=fn_0 Try.func11 (by kernel_rfl) (by kernel_rfl)
end Sh
end
section
def ydk(g:Gr)(k:Nat):Nat:=((g.ports.take k).map List.length).sum
theorem yhf{g:Gr}{k:Nat}(h:k<g.ports.length):ydk g (k+1)=ydk g k+(g.ports.getD k []).length:=by
 unfold ydk;rw[zF h,zAJ,List.sum_append,Sh.getD_at h];simp
theorem yfs{g:Gr}(hg:ybh g):∀k,k<=g.ports.length->ydk g k<=24*k
 |0,_=>by simp[ydk]
 | k+1,h=>by
   rw[yhf (by omega)]
   have:=yfs hg k (by omega)
   have:=hg.deg_lt (v:=k);omega
theorem ymm(g:Gr):ydk g g.ports.length=ycz g:=by unfold ydk ycz;rw[zK]
def yjo(g:Gr):Nat:=ycz g/2
namespace Sh
open Ev Go.RowKit
def ybdg(g:Gr):List SV:=if ybt g=true then[.i .i64 g.ports.length,.i .i64 (yjo g)]else[.i .i64 0,.i .i64 0]
theorem ybab(n:Nat):((n:Nat):Int).tdiv 2=((n/2:Nat):Int):=by
 rw[zS (by omega)]
 omega
theorem ybew{g:Gr}(hI:GrI g):Returns Try.prog 32 [grV g] (.tp (ybdg g)):=by
 refine Returns.of (ybvp _ _ ?_);have hV:=ypi hI;unfold ybdg;cases hv:ybt g with
 | false =>
   rw[hv]at hV;simp only[grV]at hV;simp only[c32,ybrd,ybph,ybyd,grV,clash,go_sem,zA,zB,zC,↓reduceIte];refine hV.use ?_;simp only[ybo,clash,go_sem,zA,zB,↓reduceIte];exact Sim.refl _
 | true =>
   have hg:=(ybn g).1 hv;have h24:=hg.2.1;have hpl:=hg.2.2.1;obtain⟨n,hn⟩:∃n,g.ports.length=n:=⟨_,rfl⟩;rw[hv]at hV;simp only[grV]at hV;rw[hn]at h24 hpl;simp only[c32,ybrd,ybph,ybvf,grV,clash,go_sem,zA,zB,zC,↓reduceIte];refine hV.use ?_;simp only[ybo,yu,hn,clash,go_sem,zA,zB,↓reduceIte,reduceCtorEq];refine ycp (σ:=Nat) (fun k=>⟨[(12,.i .i64 k),(11,.i .i64 n),(10,yu g.ports),(3,.i .i64 (ydk g k:Nat)),(1,.pt (1,0) 0 0)],[(1,.one (some ⟨25,true,2,1,fun _=>[ybf g.ids,yu g.ports]⟩))]⟩) (fun k=>k<=n) (fun k=>n-k) 0 (zI _) ?_ ?_
   ·refine yba [] [] [] ?_;simp only[yu,hn,allQ,live,yh,ydt,zG,go_sem,zA,↓reduceIte,reduceCtorEq];rfl
   intro k hk
   by_cases hlt:k<n
   ·have t1:decide ((k:Int)<(n:Int))=true:=decide_eq_true (by omega)
    have hs:=yhf (g:=g) (k:=k) (by omega)
    have hb:=yfs hg k (by omega)
    have hd:=hg.deg_lt (v:=k);obtain⟨d,hdd⟩:∃d,(g.ports.getD k []).length=d:=⟨_,rfl⟩;rw[hdd]at hs hd;have e:(ydk g k:Int)+(d:Int)=((ydk g (k+1):Nat):Int):=by rw[hs];omega
    simp only[ybrm,ybts,ybuo,ybsn,yu,ybc,hn,t1,hdd,e,clash,go_sem,zA,zB,↓reduceIte,reduceCtorEq];refine⟨by omega,ikw (by omega) (by omega),ikw (by omega) (by omega),?_⟩
    refine ybd (k+1) (by omega) (by omega) ?_
    refine yba [] [] [] ?_;simp only[allQ,live,yh,ydt,go_sem,zA,↓reduceIte,reduceCtorEq];omega
   ·obtain rfl:k=n:=by omega
    have t1:decide ((k:Int)<(k:Int))=false:=decide_eq_false (by omega)
    have hb:=yfs hg k (by omega)
    have e:=ymm g;rw[hn]at e;have e2:=ybab (ydk g k);simp only[ybrm,ybzi,yu,ybf,hn,hpl,t1,e2,clash,go_sem,zA,zB,zD,↓reduceIte,reduceCtorEq];unfold yjo;rw[<-e];exact⟨⟨by decide,ikw (by omega) (by omega)⟩,Sim.refl _⟩
theorem ybem{g:Gr}(hI:GrI g):Returns Try.prog 15 [grV g] (.b (ybs g)):=by
 refine Returns.of (ybso _ _ ?_);have hC:=ytt hI;have hS:=ybew hI;unfold ybs;cases hcn:ycu g with
 | false =>
   rw[hcn]at hC;simp only[grV]at hC;simp only[c15,ybql,ybom,ybvg,grV,clash,go_sem,zA,zB,zC,↓reduceIte];refine hC.use ?_;simp only[ybo,clash,go_sem,zB,↓reduceIte];exact Sim.refl _
 | true =>
   have hv:=ydw hcn;have hg:=(ybn g).1 hv;have h24:=hg.2.1;rw[hcn]at hC;unfold ybdg at hS;rw[if_pos hv]at hS;simp only[grV]at hC hS;simp only[c15,ybql,ybom,ybsp,ybxy,grV,clash,go_sem,zA,zB,zC,↓reduceIte];refine hC.use ?_;simp only[ybo,clash,go_sem,zA,zB,↓reduceIte,reduceCtorEq];refine hS.use ?_;simp only[go_sem,zA,↓reduceIte];refine⟨ikw (by omega) (by omega),?_⟩
   have e:(((yjo g:Nat):Int)==(g.ports.length:Int)-1)=decide (ycz g/2+1=g.ports.length):=by
    rw[zAK,beq_iff_eq,decide_eq_true_iff];unfold yjo;omega
   rw[<-e];exact Sim.refl _
theorem yvw{g:Gr}(hg:ybh g):∀k,k<=g.ports.length->yie g k<=24
 |0,_=>by show(0:Int)<=24;decide
 | k+1,h=>by
   rw[ygq];have h1:=yvw hg k (by omega)
   have h2:ybk (ybj g k)<=24:=yse _ _ (by omega) fun x hx=>((ycs hg (a:=k) (by omega)).bound hg (by omega) x hx).2
   omega
theorem ybex{g:Gr}(hI:GrI g):Returns Try.prog 22 [grV g] (.i .i64 (if ycu g=true then ykb g else -1)):=by
 refine Returns.of (ycae _ _ ?_);have hC:=ytt hI;cases hcn:ycu g with
 | false =>
   rw[hcn]at hC;simp only[grV]at hC;simp only[c22,ybra,ybsa,ybxk,grV,clash,go_sem,zA,zB,zC,↓reduceIte];refine hC.use ?_;simp only[ybo,clash,go_sem,zB,↓reduceIte];exact Sim.refl _
 | true =>
   have hg:=(ybn g).1 (ydw hcn);have h24:=hg.2.1;have hd0:yie g 0=0:=rfl;obtain⟨n,hn⟩:∃n,g.ports.length=n:=⟨_,rfl⟩;rw[hcn]at hC;simp only[grV]at hC;rw[hn]at h24;simp only[c22,ybra,ybsa,ybtv,ybvo,grV,clash,go_sem,zA,zB,zC,↓reduceIte];refine hC.use ?_;simp only[ybo,yu,hn,clash,go_sem,zA,zB,↓reduceIte,reduceCtorEq];refine ycp (σ:=Nat) (fun k=>⟨[(11,.i .i64 k),(10,.i .i64 n),(3,.i .i64 (yie g k)),(1,.pt (1,0) 0 0)],[(1,.one (some ⟨25,true,2,1,fun _=>[ybf g.ids,yu g.ports]⟩))]⟩) (fun k=>k<=n) (fun k=>n-k) 0 (zI _) ?_ ?_
   ·refine yba [] [] [] ?_;simp only[yu,hn,hd0,allQ,live,yh,zG,go_sem,zA,↓reduceIte,reduceCtorEq]
   intro k hk
   by_cases hlt:k<n
   ·have t1:decide ((k:Int)<(n:Int))=true:=decide_eq_true (by omega)
    have hS:=ybas hg (a:=k) (by omega)
    have hl:=yfk hg (a:=k) (by omega)
    have hG:=ytx (ybj g k) (by omega)
    have hs:=ygq (g:=g) k;obtain⟨D,hD⟩:∃D,ybj g k=D:=⟨_,rfl⟩;rw[hD]at hS hG hs hl;simp only[grV]at hS;simp only[ybf,hl]at hG hS;simp only[ybps,ybxl,ybsu,ybun,yu,t1,clash,go_sem,zA,zB,↓reduceIte,reduceCtorEq];refine hS.use ?_;simp only[ybo,clash,go_sem,zA,zB,↓reduceIte,reduceCtorEq];refine hG.use ?_;simp only[<-hs,go_sem,zA,↓reduceIte];refine⟨ikw (by omega) (by omega),?_⟩
    refine ybd (k+1) (by omega) (by omega) ?_
    refine yba [] [] [] ?_;simp only[go_sem,allQ,live,yh,ydt,go_sem,zA,↓reduceIte,reduceCtorEq];omega
   ·obtain rfl:k=n:=by omega
    have t1:decide ((k:Int)<(k:Int))=false:=decide_eq_false (by omega)
    simp only[ybps,ybte,t1,clash,go_sem,zA,zB,↓reduceIte,reduceCtorEq];unfold ykb;rw[hn];exact Sim.refl _
theorem ybhl{g:Gr}(hI:GrI g):Returns Try.prog 33 [grV g] (.tp (ybdg g)):=by
 refine Returns.of (ybyk _ _ ?_);have hV:=ybcg hI;unfold ybdg;cases hv:ybt g with
 | false =>
   rw[hv]at hV;simp only[grV]at hV;simp only[c33,ybqf,ybqd,ybzn,grV,clash,go_sem,zA,zB,zC,↓reduceIte];refine hV.use ?_;simp only[ybo,clash,go_sem,zA,zB,↓reduceIte];exact Sim.refl _
 | true =>
   have hg:=(ybn g).1 hv;have h24:=hg.2.1;obtain⟨n,hn⟩:∃n,g.ports.length=n:=⟨_,rfl⟩;rw[hv]at hV;simp only[grV]at hV;rw[hn]at h24;simp only[c33,ybqf,ybqd,ybse,ybyr,grV,clash,go_sem,zA,zB,zC,↓reduceIte];refine hV.use ?_;simp only[ybo,clash,go_sem,zB,↓reduceIte];refine ycp (σ:=Nat) (fun k=>⟨[(5,.i .i64 k),(4,.i .i64 (ydk g k:Nat)),(1,.pt (1,0) 0 0)],[(1,.one (some ⟨25,true,2,1,fun _=>[ybf g.ids,yu g.ports]⟩))]⟩) (fun k=>k<=n) (fun k=>n-k) 0 (zI _) ?_ ?_
   ·refine yba [] [] [] ?_;simp only[go_sem,allQ,live,yh,ydt,zG,go_sem,zA,↓reduceIte,reduceCtorEq];rfl
   intro k hk
   by_cases hlt:k<n
   ·have t1:decide ((k:Int)<(n:Int))=true:=decide_eq_true (by omega)
    have hs:=yhf (g:=g) (k:=k) (by omega)
    have hb:=yfs hg k (by omega)
    have hd:=hg.deg_lt (v:=k);obtain⟨d,hdd⟩:∃d,(g.ports.getD k []).length=d:=⟨_,rfl⟩;rw[hdd]at hs hd;have e:(ydk g k:Int)+(d:Int)=((ydk g (k+1):Nat):Int):=by rw[hs];omega
    simp only[ybqq,ybvq,ybwj,yu,ybc,hn,t1,hdd,e,clash,go_sem,zA,zB,↓reduceIte,reduceCtorEq];refine⟨⟨by omega,by omega⟩,ikw (by omega) (by omega),ikw (by omega) (by omega),?_⟩
    refine ybd (k+1) (by omega) (by omega) ?_
    refine yba [] [] [] ?_;simp only[allQ,live,yh,ydt,go_sem,zA,↓reduceIte,reduceCtorEq];omega
   ·obtain rfl:k=n:=by omega
    have t1:decide ((k:Int)<(k:Int))=false:=decide_eq_false (by omega)
    have e:=ymm g;rw[hn]at e;have e2:=ybab (ydk g k);have hb:=yfs hg k (by omega)
    simp only[ybqq,ybwi,yu,hn,t1,e2,clash,go_sem,zA,zB,↓reduceIte,reduceCtorEq];unfold yjo;rw[<-e];exact⟨⟨by decide,ikw (by omega) (by omega)⟩,Sim.refl _⟩
theorem yvx{g:Gr}(hI:GrI g):Returns Try.prog 16 [grV g] (.b (ybs g)):=by
 refine Returns.of (ybwu _ _ ?_);have hC:=yum hI;have hS:=ybhl hI;unfold ybs;unfold ybdg at hS;cases hcn:ycu g with
 | false =>
   rw[hcn]at hC;simp only[grV]at hC hS;cases hv:ybt g with
   | false =>
     rw[hv,if_neg (by decide)]at hS
     simp only[c16,ybky,ybjr,ybkw,grV,clash,go_sem,zA,zB,zC,↓reduceIte];refine hS.use ?_;simp only[ybo,clash,go_sem,zA,zB,↓reduceIte,reduceCtorEq];refine hC.use ?_;simp only[clash,go_sem,zA,zB,↓reduceIte,reduceCtorEq];exact Sim.refl _
   | true =>
     rw[hv,if_pos rfl]at hS;simp only[c16,ybky,ybjr,ybkw,grV,clash,go_sem,zA,zB,zC,↓reduceIte];refine hS.use ?_;simp only[ybo,clash,go_sem,zA,zB,↓reduceIte,reduceCtorEq];refine hC.use ?_;simp only[clash,go_sem,zA,zB,↓reduceIte,reduceCtorEq];exact Sim.refl _
 | true =>
   have hv:=ydw hcn;have hg:=(ybn g).1 hv;have h24:=hg.2.1;rw[hcn]at hC;rw[if_pos hv]at hS;simp only[grV]at hC hS;simp only[c16,ybky,ybjr,ybkw,grV,clash,go_sem,zA,zB,zC,↓reduceIte];refine hS.use ?_;simp only[ybo,clash,go_sem,zA,zB,↓reduceIte,reduceCtorEq];refine hC.use ?_;simp only[clash,go_sem,zA,zB,↓reduceIte,reduceCtorEq]
   have e:(((yjo g:Nat):Int)==(g.ports.length:Int)-1)=decide (ycz g/2+1=g.ports.length):=by
    rw[zAK,beq_iff_eq,decide_eq_true_iff];unfold yjo;omega
   rw[<-e];exact⟨ikw (by omega) (by omega),Sim.refl _⟩
theorem ybgv{g:Gr}(hI:GrI g):Returns Try.prog 23 [grV g] (.i .i64 (if ycu g=true then ykb g else -1)):=by
 refine Returns.of (ybve _ _ ?_);have hC:=yum hI;cases hcn:ycu g with
 | false =>
   rw[hcn]at hC;simp only[grV]at hC;simp only[c23,ybqo,ybpj,ybwg,grV,clash,go_sem,zA,zB,zC,↓reduceIte];refine hC.use ?_;simp only[ybo,clash,go_sem,zB,↓reduceIte];exact Sim.refl _
 | true =>
   have hg:=(ybn g).1 (ydw hcn);have h24:=hg.2.1;have hd0:yie g 0=0:=rfl;obtain⟨n,hn⟩:∃n,g.ports.length=n:=⟨_,rfl⟩;rw[hcn]at hC;simp only[grV]at hC;rw[hn]at h24;simp only[c23,ybqo,ybpj,ybwn,ybsi,grV,clash,go_sem,zA,zB,zC,↓reduceIte];refine hC.use ?_;simp only[ybo,clash,go_sem,zB,↓reduceIte];refine ycp (σ:=Nat) (fun k=>⟨[(4,.i .i64 k),(3,.i .i64 (yie g k)),(1,.pt (1,0) 0 0)],[(1,.one (some ⟨25,true,2,1,fun _=>[ybf g.ids,yu g.ports]⟩))]⟩) (fun k=>k<=n) (fun k=>n-k) 0 (zI _) ?_ ?_
   ·refine yba [] [] [] ?_;simp only[hd0,allQ,live,yh,zG,go_sem,zA,↓reduceIte,reduceCtorEq]
   intro k hk
   by_cases hlt:k<n
   ·have t1:decide ((k:Int)<(n:Int))=true:=decide_eq_true (by omega)
    have hE:=yblt hI (v:=(k:Int)) (yen (by omega))
    have hec:eccP g (k:Int)=ybk (ybj g k):=by
     unfold eccP;rw[if_pos ⟨hcn,by omega,by omega⟩,zAF]
    rw[hec]at hE;have hs:=ygq (g:=g) k;simp only[grV,yu,hn]at hE;simp only[ybou,ybxj,ybvd,yu,hn,t1,clash,go_sem,zA,zB,↓reduceIte,reduceCtorEq];refine hE.use ?_;simp only[ybo,clash,<-hs,go_sem,zA,zB,↓reduceIte,reduceCtorEq];refine⟨ikw (by omega) (by omega),?_⟩
    refine ybd (k+1) (by omega) (by omega) ?_
    refine yba [] [] [] ?_;simp only[go_sem,allQ,live,yh,ydt,go_sem,zA,↓reduceIte,reduceCtorEq];omega
   ·obtain rfl:k=n:=by omega
    have t1:decide ((k:Int)<(k:Int))=false:=decide_eq_false (by omega)
    simp only[ybou,ybty,yu,hn,t1,clash,go_sem,zA,zB,↓reduceIte,reduceCtorEq];unfold ykb;rw[hn];exact Sim.refl _
end Sh
end
section
theorem ybod{g:Gr}(hg:ybh g)(ht:ybs g=true)(he:ycz g%2=0):Tr g:=by
 unfold ybs at ht;rw[zV,decide_eq_true_iff]at ht;exact⟨hg,ht.1,ybzs hg ht.1 (by omega)⟩
theorem Tr.rch_le{g:Gr}(h:Tr g){v u:Nat}(hu:adj g v u):1<=rchP g v u/\rchP g v u<=24:=by
 obtain⟨w,hw,_,e⟩:=h.rch_ex hu;have:=h.lt_n hw (h.good.adj_lt hu).1;have:=h.good.2.1;have:=h.rch_pos hu;omega
def yda(g:Gr)(c:Conf):Bool:=ybs g&&ylp g.ports.length (ydb g [(g.ids.length:Int)]) c
def yfo(g:Gr)(c:Conf):Bool:=yda g c&&(zM g.ports.length).all fun v=>decide ((c.getD v []).getD 0 0=htP g v)
def htS(g:Gr)(v i:Nat):Int×Int:=(((g.ports.getD v []).take i).map fun l=>rchP g v l.1.toNat).foldl yli (0,0)
theorem yqs{g:Gr}{v i:Nat}(hi:i<(g.ports.getD v []).length):htS g v (i+1)=yli (htS g v i) (rchP g v ((g.ports.getD v []).getD i (0,0)).1.toNat):=by
 unfold htS;rw[zF hi,zAJ,zL,Sh.getD_at hi];rfl
theorem yyt(g:Gr)(v:Nat):(htS g v (g.ports.getD v []).length).2=htP g v:=by
 unfold htS;rw[zK];exact ybox g v
theorem ybak{g:Gr}(h:Tr g){v:Nat}(hv:v<g.ports.length):∀i,i<=(g.ports.getD v []).length->(0<=(htS g v i).2/\(htS g v i).2<=(htS g v i).1)/\(htS g v i).1<=24
 |0,_=>by simp[htS]
 | i+1,hi=>by
   have ih:=ybak h hv i (by omega)
   have hm:(g.ports.getD v []).getD i (0,0)∈g.ports.getD v []:=by rw[Sh.getD_at (show i<_ by omega)];exact zO _
   have hr:=h.rch_le (yco h.good hv hm).2.2.1;rw[yqs (by omega)]
   unfold yli;simp only;omega
theorem Tr.ht_le{g:Gr}(h:Tr g){v:Nat}(hv:v<g.ports.length):0<=htP g v/\htP g v<=24:=by
 have:=ybak h hv _ (zH _);rw[<-yyt g v];omega
def rchS(g:Gr)(v u i:Nat):Int:=((g.ports.getD u []).take i).foldl (ygo g v u) 1
theorem yuo{g:Gr}{v u i:Nat}(hi:i<(g.ports.getD u []).length):rchS g v u (i+1)=ygo g v u (rchS g v u i) ((g.ports.getD u []).getD i (0,0)):=by
 unfold rchS;rw[zF hi,zL,Sh.getD_at hi];rfl
namespace Sh
open Ev Go.RowKit
theorem yre{g:Gr}(hI:GrI g):Returns Try.prog 6 [grV g] (.b (ybs g)):=by
 refine Returns.of (ycbb _ _ ?_);have hC:=ybem hI;simp only[grV]at hC;simp only[c6,c6_0,c6_1,grV,go_sem,zA,zB,zC,↓reduceIte];refine hC.use ?_;simp only[ybo,ybyb,go_sem,zA,zB,↓reduceIte,reduceCtorEq]
theorem yhs{g:Gr}(hI:GrI g):Returns Try.prog 7 [grV g] (.b (ybs g)):=by
 refine Returns.of (yccc _ _ ?_);have hC:=yvx hI;simp only[grV]at hC;simp only[c7,c7_0,c7_1,grV,go_sem,zA,zB,zC,↓reduceIte];refine hC.use ?_;simp only[ybo,ybyb,go_sem,zA,zB,↓reduceIte,reduceCtorEq]
theorem ytl{g:Gr}(h:Tr g):∀(k v u:Nat),adj g v u->(rchP g v u).toNat<=k->Returns Try.prog 36 [grV g,.i .i64 v,.i .i64 u] (.i .i64 (rchP g v u))
 |0,v,u,hu,hk=>by have:=h.rch_pos hu;omega
 | k + 1,v,u,hu,hk=>by
   refine Returns.of (ybxh _ _ ?_);have ih:=ytl h k;obtain⟨hv,hul⟩:=h.good.adj_lt hu;have h24:=h.good.2.1;have hlo:=h.rch_loop hu;have hrs:∀i,rchS g v u i=((g.ports.getD u []).take i).foldl (ygo g v u) 1:=fun _=>rfl;have hsu:=fun i=>yuo (g:=g) (v:=v) (u:=u) (i:=i);have hle:=h.rch_le hu;obtain⟨L,hL⟩:∃L,g.ports.getD u []=L:=⟨_,rfl⟩;have hdeg:=h.good.deg_lt (v:=u)
   have hadj:∀l∈L,0<=l.1/\l.1.toNat<g.ports.length/\adj g u l.1.toNat:=fun l hl=>by
    obtain⟨a,b,c,_⟩:=yco h.good hul (by rw[hL];exact hl)
    exact⟨a,b,c⟩
   have hless:∀l∈L,l.1≠(v:Int)->rchP g u l.1.toNat<rchP g v u:=fun l hl=>h.rch_less hu (by rw[hL];exact hl)
   rw[hL]at hlo hdeg hrs;simp only[hL]at hsu;obtain⟨d,hd⟩:∃d,L.length=d:=⟨_,rfl⟩;obtain⟨S,hS⟩:∃S:Nat->Int,(fun i=>rchS g v u i)=S:=⟨_,rfl⟩;have hS':∀i,rchS g v u i=S i:=fun i=>by rw[<-hS]
   simp only[hS']at hsu hrs;rw[hd]at hdeg hsu;have hS0:S 0=1:=by rw[hrs];rfl
   have hSd:S d=rchP g v u:=by rw[hrs,<-hd,zK,hlo]
   rw[<-hSd]at hless hle ⊢;simp only[grV]at ih;simp only[c36,ybwa,ybwe,ybsb,grV,yu,ybc,hL,hd,clash,go_sem,zA,zB,zC,↓reduceIte,reduceCtorEq];refine⟨⟨by omega,by omega⟩,?_⟩
   refine ycp (σ:=Nat) (fun i=>⟨[(16,.i .i64 i),(15,.i .i64 d),(14,ybc L),(7,.i .i64 (S i)),(1,.i .i64 v),(2,.i .i64 u),(3,.pt (3,0) 0 0)],[(3,.one (some ⟨25,true,2,1,fun _=>[ybf g.ids,yu g.ports]⟩))]⟩) (fun i=>i<=d) (fun i=>d-i) 0 (zI _) ?_ ?_
   ·refine yba [] [] [] ?_;simp only[yu,ybc,hd,hS0,allQ,live,yh,zG,go_sem,zA,↓reduceIte,reduceCtorEq]
   intro i hi
   by_cases hlt:i<d
   ·have t1:decide ((i:Int)<(d:Int))=true:=decide_eq_true (by omega)
    have hm:L.getD i (0,0)∈L:=by rw[getD_at (show i<L.length by omega)];exact zO _
    have hss:=hsu i hlt;obtain⟨l,hl⟩:∃l,L.getD i (0,0)=l:=⟨_,rfl⟩;rw[hl]at hm hss;obtain⟨a1,a2,a3⟩:=hadj l hm
    by_cases hlv:l.1=(v:Int)
    ·have t2:(l.1 != (v:Int))=false:=by rw[hlv];simp
     have e:S (i+1)=S i:=by
      rw[hss];unfold ygo;rw[if_neg (by rw[t2];decide)]
     simp only[ybkh,ybnr,yboo,ybpk,ybc,hd,hl,t1,t2,splice,clash,go_sem,zA,zB,zD,zC,↓reduceIte,reduceCtorEq];refine⟨by omega,ikw (by omega) (by omega),?_⟩
     refine ybd (i+1) (by omega) (by omega) ?_
     refine yba [] [] [] ?_;simp only[e,allQ,live,yh,ydt,go_sem,zA,↓reduceIte,reduceCtorEq];omega
    ·have t2:(l.1 != (v:Int))=true:=by rw[bne_iff_ne];exact hlv
     have hlr:=hless l hm hlv;have hlb:=h.rch_le a3;have hR:=ih u l.1.toNat a3 (by rw[<-hSd]at hk;omega)
     rw[zW a1]at hR
     have e:S (i+1)=max (S i) (1+rchP g u l.1.toNat):=by
      rw[hss];unfold ygo;rw[if_pos t2]
     obtain⟨r,hr⟩:∃r,rchP g u l.1.toNat=r:=⟨_,rfl⟩;rw[hr]at hR e hlb;simp only[ybkh,ybnr,yboo,ycaf,ybpk,ybc,hd,hl,t1,t2,splice,clash,go_sem,zA,zB,zD,zC,↓reduceIte,reduceCtorEq];refine⟨by omega,hR.use ?_⟩
     simp only[ybo,clash,go_sem,zA,zB,↓reduceIte,reduceCtorEq];refine⟨ikw (by omega) (by omega),ikw (by omega) (by omega),?_⟩
     refine ybd (i+1) (by omega) (by omega) ?_
     refine yba [] [] [] ?_;simp only[e,allQ,live,yh,ydt,go_sem,zA,↓reduceIte,reduceCtorEq];omega
   ·obtain rfl:i=d:=by omega
    have t1:decide ((i:Int)<(i:Int))=false:=decide_eq_false (by omega)
    simp only[ybkh,ybue,t1,clash,go_sem,zA,zB,↓reduceIte,reduceCtorEq];exact Sim.refl _
set_option maxHeartbeats 1000000 in
theorem yvz{g:Gr}(h:Tr g):Returns Try.prog 18 [grV g] (ybf (mapR g.ports.length (htP g))):=by
 refine Returns.of (ybub _ _ ?_);have hg:=h.good;have h24:=hg.2.1;have hpl:=hg.2.2.1;obtain⟨n,hn⟩:∃n,g.ports.length=n:=⟨_,rfl⟩;rw[hn]at h24 hpl ⊢;simp only[c18,ybus,ybym,ybuc,grV,ybf,yu,hpl,hn,clash,go_sem,zA,zB,zD,zC,↓reduceIte,reduceCtorEq];refine⟨⟨by omega,by omega,by omega⟩,?_⟩
 refine ycp (σ:=Nat) (fun v=>⟨[(17,.i .i64 v),(16,.i .i64 n),(15,yu g.ports),(3,.os (13,0) 0 n true),(1,.pt (1,0) 0 0)],[(13,.one (some ⟨3,false,1,n,fun j=>[.i .i64 (if j<v then htP g j else 0)]⟩)),(1,.one (some ⟨25,true,2,1,fun _=>[ybf g.ids,yu g.ports]⟩))]⟩) (fun v=>v<=n) (fun v=>n-v) 0 (zI _) ?_ ?_
 ·refine yba [] [] [] ?_;simp only[ybf,yu,hpl,hn,zAL,allQ,live,yh,zG,go_sem,zA,↓reduceIte,reduceCtorEq]
 intro v hv
 by_cases hlt:v<n
 ·have t1:decide ((v:Int)<(n:Int))=true:=decide_eq_true (by omega)
  have hend:=yyt g v;have hsu:=fun i=>yqs (g:=g) (v:=v) (i:=i);have hsl:=ybak h (v:=v) (by omega)
  have hdeg:=hg.deg_lt (v:=v);have hadj:=fun(l:Int×Int) (hl:l∈g.ports.getD v [])=>yco hg (by omega) hl
  obtain⟨L,hL⟩:∃L,g.ports.getD v []=L:=⟨_,rfl⟩;obtain⟨d,hd⟩:∃d,L.length=d:=⟨_,rfl⟩;rw[hL,hd]at hend hdeg hsl;rw[hL]at hadj;simp only[hL,hd]at hsu;obtain⟨S,hS⟩:∃S:Nat->Int×Int,(fun i=>htS g v i)=S:=⟨_,rfl⟩;have hS':∀i,htS g v i=S i:=fun i=>by rw[<-hS]
  have hS0:S 0=(0,0):=by rw[<-hS'];rfl
  simp only[hS']at hsu hsl hend;simp only[ybqv,ybyz,ybtk,ybsq,yu,ybc,hn,hL,hd,t1,clash,go_sem,zA,zB,↓reduceIte,reduceCtorEq];refine⟨by omega,?_⟩
  refine ycp (σ:=Nat) (fun i=>⟨[(24,.i .i64 i),(23,.i .i64 d),(22,ybc L),(6,.i .i64 (S i).1),(4,.i .i64 v),(17,.i .i64 v),(16,.i .i64 n),(15,yu g.ports),(3,.os (13,0) 0 n true),(1,.pt (1,0) 0 0)],[(13,.one (some ⟨3,false,1,n,fun j=>[.i .i64 (if j<v then htP g j else if j=v then(S i).2 else 0)]⟩)),(1,.one (some ⟨25,true,2,1,fun _=>[ybf g.ids,yu g.ports]⟩))]⟩) (fun i=>i<=d) (fun i=>d-i) 0 (zI _) ?_ ?_
  ·refine yba [] [] [] ?_;simp only[ybf,yu,ybc,hn,hd,hS0,allQ,live,yh,ydt,zG,go_sem,zA,↓reduceIte,reduceCtorEq];intro j hj;split
   ·rfl
   ·split<;>rfl
  intro i hi
  by_cases hlti:i<d
  ·have t2:decide ((i:Int)<(d:Int))=true:=decide_eq_true (by omega)
   have hm:L.getD i (0,0)∈L:=by rw[getD_at (show i<L.length by omega)];exact zO _
   have hss:=hsu i hlti;have hb:=hsl i hi;obtain⟨l,hl⟩:∃l,L.getD i (0,0)=l:=⟨_,rfl⟩;rw[hl]at hm hss;obtain⟨a1,a2,a3,_⟩:=hadj l hm;have hR:=ytl h _ v l.1.toNat a3 (zH _);have hrb:=h.rch_le a3;rw[zW a1]at hR;obtain⟨r,hr⟩:∃r,rchP g v l.1.toNat=r:=⟨_,rfl⟩;rw[hr]at hR hss hrb;have e1:(S (i+1)).1=max (S i).1 r:=by rw[hss];rfl
   have e2:(S (i+1)).2=max (S i).2 (min r (S i).1):=by rw[hss];rfl
   simp only[grV]at hR;have i0:(if v<v then htP g v else if v=v then(S i).2 else 0)=(S i).2:=by rw[if_neg (zAM v),if_pos rfl]
   have i1:(if v=v then(S i).2 else 0)=(S i).2:=if_pos rfl
   simp only[ybro,ybta,ybtt,ybc,hd,hl,t2,splice,clash,go_sem,zA,zB,zD,zC,↓reduceIte,reduceCtorEq];refine⟨by omega,hR.use ?_⟩
   simp only[ybo,ybmp,ybng,ybmr,splice,clash,<-e1,<-e2,go_sem,zA,zB,↓reduceIte,reduceCtorEq];refine⟨⟨by omega,by omega⟩,by omega,⟨by omega,by omega⟩,by omega,ikw (by omega) (by omega),?_⟩
   refine ybd (i+1) (by omega) (by omega) ?_
   refine yba [] [] [] ?_;simp only[ybf,yu,ybc,hn,allQ,live,yh,ydt,go_sem,zA,↓reduceIte,reduceCtorEq];refine⟨by omega,fun j hj=>?_⟩
   by_cases q:j=v
   ·subst q;simp only[if_pos,if_neg (zAM j)];simp only[go_sem,live,yh,go_sem,reduceCtorEq]
   ·simp only[if_neg q];simp only[go_sem,live,yh,go_sem,reduceCtorEq]
  ·obtain rfl:i=d:=by omega
   have t2:decide ((i:Int)<(i:Int))=false:=decide_eq_false (by omega)
   simp only[ybro,ybmv,t2,clash,go_sem,zA,zB,↓reduceIte,reduceCtorEq];refine⟨ikw (by omega) (by omega),?_⟩
   refine ybd (v+1) (by omega) (by omega) ?_
   refine yba [] [] [] ?_;simp only[ybf,yu,ybc,hn,allQ,live,yh,ydt,go_sem,zA,↓reduceIte,reduceCtorEq];refine⟨by omega,fun j hj=>?_⟩
   by_cases q:j<v
   ·rw[if_pos q,if_pos (by omega)]
   ·rw[if_neg q]
    by_cases q2:j=v
    ·rw[if_pos q2,if_pos (by omega),q2,hend]
    ·rw[if_neg q2,if_neg (by omega)]
 ·obtain rfl:v=n:=by omega
  have t1:decide ((v:Int)<(v:Int))=false:=decide_eq_false (by omega)
  simp only[ybqv,ybnf,t1,clash,go_sem,zA,zB,↓reduceIte,reduceCtorEq];rw[ybai];refine ybxq fun j hj=>?_;rw[gmR _ _ _ _ hj,if_pos hj]
theorem ysz{g:Gr}(hI:GrI g){c:Conf}(hR:yox c):Returns Try.prog 17 [grV g,ycb c] (.b (yda g c)):=by
 refine Returns.of (ybxx _ _ ?_);have hF:=yre hI;unfold yda;cases ht:ybs g with
 | false =>
   rw[ht]at hF;simp only[grV]at hF;simp only[c17,ybnn,ybqg,grV,clash,go_sem,zA,zB,zC,↓reduceIte];refine hF.use ?_;simp only[ybo,clash,go_sem,zA,zB,↓reduceIte,reduceCtorEq];exact Sim.refl _
 | true =>
   have hcn:ycu g=true:=by
    unfold ybs at ht;rw[zV]at ht;exact ht.1
   have hg:=(ybn g).1 (ydw hcn);have h24:=hg.2.1;have hpl:=hg.2.2.1
   have hC:=ybjn hg hR (G:=[(g.ids.length:Int)]) (fun x hx=>by
    simp at hx;subst hx;exact yen (by omega))
   rw[ht]at hF;simp only[grV]at hF;simp only[c17,ybnn,ybqg,grV,clash,go_sem,zA,zB,zC,↓reduceIte];refine hF.use ?_;simp only[ybo,ybf,splice,clash,go_sem,zA,zB,zD,zC,↓reduceIte,reduceCtorEq];have one:∀{q:Nat},q<1->q=0:=fun {q} h=>by omega
   refine .inl ⟨fun q hq=>by obtain rfl:=one hq;simp only[go_sem],hC.useS ?_ ?_⟩
   ·refine⟨Sim.refl (grV g),Sim.refl _,?_,trivial⟩;refine ybhr fun q hq=>?_;obtain rfl:=one hq;simp only[zX,go_sem];exact⟨Sim.refl _,trivial⟩
   simp only[go_sem];exact Sim.refl _
end Sh
end
section
section
variable {g:Gr}{t u v:Nat}
end
end
section
section
variable {g:Gr}{t u v a:Nat}
end
end
section
def pkL(f:Nat->Int)(v:Nat)(s:Nat)(l:Int×Int):Nat:=if f v<f l.1.toNat then difB s (2^v)else s
def pkV(f:Nat->Int)(g:Gr)(s v:Nat):Nat:=(g.ports.getD v []).foldl (pkL f v) s
def ylc(f:Nat->Int)(g:Gr):Nat:=(zM g.ports.length).foldl (pkV f g) (2^g.ports.length-1)
section
variable {g:Gr}{f:Nat->Int}
end
end
section
namespace Sh
open Go Ev Go.RowKit
section
variable {m:Mem}{F:AM}
theorem row_of{z bk p n cp N e zz:Nat}{Tb:Ev.T Value}{L:Nat->List Value}(h1:m.b.get bk=some (.cells Tb N e zz))(h2:0<n)(h3:p+n*z<=N)(h4:∀a,a<n->(L a).length=z)(h5:∀a,a<n->∀j,j<z->Tb.get (p+a*z+j)=(L a)[j]?) :
 rowOf m z (.slice (some ⟨bk,p,none⟩) n cp)=some (ybr L n,[bk]):=by
 have hl:=ycj h4;show(bif zAP n 0 then _ else _)=_;rw[show zAP n 0=false by cases n with|zero=>omega|succ n=>rfl]
 simp only[cond_false];rw[h1];simp only;rw[zN h3];simp only[cond_true]
 have hg:=yez (T:=Tb) (L:=ybr L n) (o:=p) (fun j hj=>by
  rw[hl]at hj;rcases zY z with hz|hz
  ·subst hz;omega
  ·have hd:=Nat.div_add_mod j z;have hm:=Nat.mod_lt j hz;have hk:j/z<n:=Nat.div_lt_of_lt_mul (by rwa [zAN]at hj)
   have e1:j=j/z*z+j%z:=by rw[zAN];exact hd.symm
   rw[e1,ydz h4 _ _ hk hm,<-Nat.add_assoc];exact h5 _ hk _ hm)
 rw[hl]at hg;rw[hg]
theorem row_zero{u:Value}(h:Z0 u)(z:Nat):rowOf m z u=some ([],[]):=by
 rcases h with rfl|⟨b,o,c,rfl⟩
 ·rfl
 ·rfl
theorem in64{n:Int}(h:I64 n):inI64 n=true:=by
 unfold I64 at h;unfold inI64;split
 ·rename_i k;exact zN (by simp only[Int.ofNat_eq_natCast]at h;omega)
 ·rename_i k;exact zN (by omega)
theorem ylg{a b:Int}(ha:I64 a)(hb:I64 b):∀{l:List Value}{r:List (Int×Int)},pairsOf l=some r->pairsOf (l++[.int .i64 a,.int .i64 b])=some (r++[(a,b)])
 | [],r,h=>by
   cases h
   show(bif inI64 a&&inI64 b then _ else _)=_;rw[in64 ha,in64 hb];rfl
 | .int .i64 x :: .int .i64 y::l,r,h=>by
   unfold pairsOf at h;split at h
   ·rename_i r' hr
    rw[Bool.cond_eq_ite]at h;split at h
    ·rename_i hc
     cases h
     show(match pairsOf (l++[.int .i64 a,.int .i64 b])with|some r=>bif inI64 x&&inI64 y then some ((x,y)::r)else none|none=>none)=_
     rw[ylg ha hb hr];simp only[hc,cond_true];rfl
    ·cases h
   ·cases h
theorem ybbw(hF:Le F m.b.get){ls:List (Int×Int)}{u:Value}(h:RV F om0 (ybc ls) u)(hI:∀l∈ls,I64 l.1/\I64 l.2):linksOf m u=some ls:=by
 unfold linksOf;rcases h.sl_inv with⟨h0,hz⟩|⟨bk,p,cp,T,N,e,zz,L,rfl,g1,g2,g3,g4,g5,g6,g7⟩
 ·rw[row_zero hz];have:ls=[]:=zJ h0;subst this;rfl
 ·rcases zY ls.length with h0|h0
  ·have:ls=[]:=zJ h0;subst this;rfl
  ·rw[row_of (hF _ _ g1) h0 g3 g4 g5]
   have:∀n,n<=ls.length->pairsOf (ybr L n)=some (ls.take n):=by
    intro n
    induction n with
    |zero=>intro _;rfl
    | succ n ih =>
      intro hn;have hn':n<ls.length:=by omega
      have hl:=g6 n hn'
      have e1:L n=[.int .i64 ls[n].1,.int .i64 ls[n].2]:=by
       have e0:ls.getD n (0,0)=ls[n]:=by simp[zAA,hn']
       rw[e0]at hl;obtain⟨x,y,e2,hx,hy⟩:=rvl2 hl;rw[e2,hx.int_inv,hy.int_inv]
      show pairsOf (ybr L n++L n)=_;rw[e1,zF hn'];have:=hI ls[n] (zO hn');exact ylg this.1 this.2 (ih (by omega))
   simp only;rw[this _ (zH _),zK]
theorem ybfj{α β:Type}{f:α->Option β}:∀{l:List α}{r:List β},l.length=r.length->(∀(k:Nat) x y,l[k]?=some x->r[k]?=some y->f x=some y)->mapO f l=some r
 |[],[],_,_=>rfl
 | x::l,y::r,hl,h=>by
   unfold mapO;rw[h 0 x y rfl rfl];simp only;rw[ybfj (by simpa using hl) fun k a b h1 h2=>h (k+1) a b (by simpa using h1) (by simpa using h2)]
 |[],_::_,hl,_=>by simp at hl
 |_::_,[],hl,_=>by simp at hl
theorem ybef{L:Nat->List Value}{n:Nat}(h:∀a,a<n->(L a).length=1){k:Nat}(hk:k<n):(ybr L n)[k]?=(L k)[0]?:=by
 have:=ydz h k 0 hk (by omega)
 simpa using this
theorem ybay{ids:SV}{P:List (List (Int×Int))}{u:Value}(h:RV F om0 (.rf [ids,yu P]) u)(hI:∀ls∈P,∀l∈ls,I64 l.1/\I64 l.2) :
 ∃A v us,u = .pointer (some A)/\∀m:Mem,Le F m.b.get->graphOf m A=some ⟨v,us,P⟩:=by
 obtain⟨bk,p,T,N,e,zz,L,rfl,h1,h2,h3,h4,_⟩:=h.rf_inv;cases h4 with
 | cons a0 b0 =>
   cases b0 with
   | cons a1 b1 =>
     rename_i u0 _ u1 _
     cases b1
     have hbox:∀m:Mem,Le F m.b.get->boxPorts m ⟨bk,p,none⟩=some u1:=fun m hF=>by
      unfold boxPorts;simp only;rw[hF _ _ h1];simp only;rw[show Nat.blt (p+1) N=true from zN (show p+1+1<=N by simp at h2;omega)]
      simp only[cond_true];exact h3 1 (by simp)
     have fin:∀(us:List Value) (ft:List Nat),(∀m:Mem,Le F m.b.get->rowOf m 1 u1=some (us,ft))->us.length=P.length->(∀(k:Nat) x y,us[k]?=some x->P[k]?=some y->RV F om0 (ybc y) x) ->
      ∃A v us,Value.pointer (some ⟨bk,p,none⟩) = .pointer (some A)/\∀m:Mem,Le F m.b.get->graphOf m A=some ⟨v,us,P⟩:=fun us ft hr hl hx=>by
      refine⟨_,u1,us,rfl,fun m hF=>?_⟩;unfold graphOf;rw[hbox m hF];show ob (rowOf m 1 u1) _=_;rw[hr m hF];show ob (mapO (linksOf m) us) _=_;rw[ybfj hl fun k x y q1 q2=>ybbw hF (hx k x y q1 q2) (hI y (zQ q2))];rfl
     rcases a1.sl_inv with⟨k0,hz⟩|⟨bk',p',cp,T',N',e',zz',L',rfl,g1,g2,g3,g4,g5,g6,g7⟩
     ·have:P=[]:=zJ k0;subst this;exact fin [] [] (fun m _=>row_zero hz 1) rfl (fun k x y q _=>by simp at q)
     ·rcases zY P.length with h0|h0
      ·have:P=[]:=zJ h0;subst this;exact fin [] [] (fun m _=>rfl) rfl (fun k x y q _=>by simp at q)
      ·refine fin (ybr L' P.length) [bk'] (fun m hF=>row_of (hF _ _ g1) h0 g3 g4 g5) (by rw[ycj g4,Nat.mul_one]) fun k x y q1 q2=>?_
       have hk:k<P.length:=(List.getElem?_eq_some_iff.1 q2).1;rw[ybef g4 hk]at q1;have hl:=g6 k hk;have e0:P.getD k []=y:=by simp[zAA,q2]
       rw[e0]at hl;obtain⟨v,e1,hv⟩:=rvl1 hl;rw[e1]at q1;cases q1
       exact hv
end
def ydm(P:List (List (Int×Int)))(k:Nat):El:=(flatAt 0 P).getD k ⟨0,0,0⟩
def ybdt(P:List (List (Int×Int))):ItS:=⟨(flatAt 0 P).length,fun k=>[.i .i64 (ydm P k).v,.ag [.i .i64 (ydm P k).a,.i .i64 (ydm P k).b]],[],fun _ _=>True,fun _ o=>o⟩
theorem ybkd{ids:SV}{P:List (List (Int×Int))}(hI:∀ls∈P,∀l∈ls,I64 l.1/\I64 l.2):ItC Try.prog 55 [.rf [ids,yu P]] (ybdt P):=by
 intro lo F ω s f m us hc hr _;obtain⟨u,rfl,hu⟩:=rvl1 hr
 have hu0:RV F om0 (.rf [ids,yu P]) u:=by
  obtain⟨bk,p,T,N,e,zz,L,rfl,h1,h2,h3,h4,h5⟩:=hu.rf_inv;exact .rf h1 h2 h3 h4 h5
 obtain⟨A,v,vs,rfl,hg⟩:=ybay hu0 hI;have el0:∀k,k<(flatAt 0 P).length->(flatAt 0 P)[k]?=some (ydm P k):=fun k hk=>by simp[ydm,zAA,hk]
 refine⟨⟨(flatAt 0 P).length,fun k=>[(ydm P k).v0,(ydm P k).v1],fun _ m=>graphOf m A=some ⟨v,vs,P⟩,fun _ m=>m,fun _ _ M w M' w'=>M'=M/\w'=w⟩,⟨yqu.1,fun k m hk hw _=>Grow.refl hw,?_,?_⟩,rfl,fun F' ω' s' f' m' k hF _ hc' hk _=>⟨hg m' (hF.trans hc'.sub),fun hk=>⟨.cons .i (.cons (.ag (.cons .i (.cons .i .nil))) .nil),hc'⟩⟩⟩
 ·rintro k φ M w m M' w' hk hw hR hs hp ⟨rfl,rfl⟩;exact Good.refl hR hs
 ·intro l St Stop φ M w cap' hread hgrow hyield h0 hcap;obtain⟨box,rfl,hbox⟩:=yed hcap;refine CallsIn.mono (yqu.2 l A ⟨v,vs,P⟩ (fun pre φ' M' w'=>φ.le φ'/\(∃post,flatAt 0 P=pre++post)/\St pre.length φ' M' w') Stop φ M w box ?_ ?_ ?_ ⟨φ.le_refl,⟨_,rfl⟩,h0⟩ hbox) ?_
  ·rintro pre φ' M' w' ⟨_,_,hst⟩;exact(hread _ _ _ _ hst).2
  ·rintro pre φ' M' w' w'' ⟨h1,h2,hst⟩ hb;exact⟨h1,h2,hgrow _ _ _ _ _ hst hb⟩
  ·rintro pre x post φ' M' w' ⟨h1,_,hst⟩ hfl;have hfl:flatAt 0 P=pre++x::post:=hfl;have hk:pre.length<(flatAt 0 P).length:=by rw[hfl];simp
   have ex:ydm P pre.length=x:=by
    have:=el0 _ hk;rw[hfl,List.getElem?_append_right (zH _)]at this
    simpa using this.symm
   obtain⟨fn,tmps,asg,bd,hy1,hy2⟩:=hyield pre.length φ' M' w' [x.v0,x.v1] hk hst (by
    show VRL φ' [(ydm P pre.length).v0,(ydm P pre.length).v1] _;rw[ex];exact .cons (.simple rfl) (.cons (VR.atomA (v:=x.v1) rfl) .nil))
   refine⟨fn,tmps,asg,bd,hy1,hy2.mono ?_⟩
   ·rintro e w'' (⟨he,φ'',M'',h3,_,h4⟩|h)
    ·refine .inl ⟨he,φ'',M'',h3,Phi.le_trans h1 h3,⟨post,by rw[hfl];simp⟩,?_⟩
     rw[List.length_append];exact h4 M'' w'' ⟨rfl,rfl⟩
    ·exact .inr h
  ·rintro e w' ⟨h1,(⟨φ',M',_,_,hst⟩|h)⟩
   ·exact⟨h1,.inl ⟨φ',M',hst⟩⟩
   ·exact⟨h1,.inr h⟩
end Sh
end
section
namespace Sh
open Go Ev
def ybvm:LO:=[o3 (.box 25 (.tmp 0)) 1 0,o3 (.mv (.const (.nilFunc))) 2 0]
def ybvb:LO:=[o3 (.mkfn 55 [] [(.tmp 1)]) 3 0,mv' 3 2 1]
def c46:SC:=(.seq (.reg false ybvm) (.seq (.reg false ybvb) .ret))
theorem ybtb:Fn 46 c46 [.t 2]:=fn_0 Try.func46 (by kernel_rfl) (by kernel_rfl)
end Sh
end
section
open Ev
theorem yts:∀(ps:List (List (Int×Int))) (v:Nat) (x:El),x∈flatAt v ps->v<=x.v/\x.v<v+ps.length/\(x.a,x.b)∈ps.getD (x.v-v) []
 |[],_,_,h=>absurd h zU
 | ls::l,v,x,h=>by
   rcases List.mem_append.1 h with h|h
   ·obtain⟨y,hy,rfl⟩:=List.mem_map.1 h;refine⟨zH _,by simp,?_⟩
    simp only[Nat.sub_self,zX];exact hy
   ·obtain⟨h1,h2,h3⟩:=yts l (v+1) x h;refine⟨by omega,by simp only[zAH];omega,?_⟩
    have e:x.v-v=(x.v-(v+1))+1:=by omega
    rw[e,List.getD_cons_succ];exact h3
theorem ybii{g:Gr}{k:Nat}(hk:k<g.ports.length):flatAt 0 (g.ports.take (k+1))=flatAt 0 (g.ports.take k)++(g.ports.getD k []).map fun x=>(⟨k,x.1,x.2⟩:El):=by
 have h:=yik (ps:=g.ports) (k:=k) (ls:=g.ports.getD k []) (by simp[zAA,hk])
 rw[<-h];unfold yef;rw[zK]
theorem ysb{α:Type}{g:Gr}(f:α->El->α)(a:α):∀k,k<=g.ports.length->(flatAt 0 (g.ports.take k)).foldl f a=(zM k).foldl (fun a v=>(g.ports.getD v []).foldl (fun a l=>f a ⟨v,l.1,l.2⟩) a) a
 |0,_=>by simp[flatAt]
 | k+1,hk=>by
   rw[ybii (by omega),zL,ysb f a k (by omega),zAI,zL,List.foldl_map]
   rfl
theorem ybmi{α:Type}{g:Gr}(f:α->El->α)(a:α):(flatAt 0 g.ports).foldl f a=(zM g.ports.length).foldl (fun a v=>(g.ports.getD v []).foldl (fun a l=>f a ⟨v,l.1,l.2⟩) a) a:=by
 have:=ysb (g:=g) f a g.ports.length (zH _)
 rwa [zK]at this
theorem ybeg{g:Gr}(hg:ybh g){k:Nat}(hk:k<(flatAt 0 g.ports).length):(Sh.ydm g.ports k).v<g.ports.length/\((Sh.ydm g.ports k).a,(Sh.ydm g.ports k).b)∈g.ports.getD (Sh.ydm g.ports k).v []:=by
 have hm:Sh.ydm g.ports k∈flatAt 0 g.ports:=by unfold Sh.ydm;rw[Sh.getD_at hk];exact zO hk
 obtain⟨_,h2,h3⟩:=yts _ _ _ hm;exact⟨by omega,by simpa using h3⟩
theorem ybgo{α:Type}{g:Gr}(f:α->El->α)(a:α){k:Nat}(hk:k<(flatAt 0 g.ports).length):((flatAt 0 g.ports).take (k+1)).foldl f a=f (((flatAt 0 g.ports).take k).foldl f a) (Sh.ydm g.ports k):=by
 rw[zF hk,zL];unfold Sh.ydm;rw[Sh.getD_at hk];rfl
theorem ybfu{g:Gr}(hg:ybh g):∀ls∈g.ports,∀l∈ls,I64 l.1/\I64 l.2:=fun ls hls l hl=>by
 obtain⟨v,hv,e⟩:=List.getElem_of_mem hls;have h24:=hg.2.1;have:g.ports.getD v []=ls:=by simp[zAA,hv,e]
 obtain⟨h1,h2,_,h4,h5⟩:=yco hg hv (by rw[this];exact hl)
 exact⟨Sh.yen (by omega),Sh.yen (by omega)⟩
end
section
namespace Sh
open Ev Go.RowKit
theorem ybie{g:Gr}:Returns Try.prog 46 [grV g] (.fn 55 [] [.rf [ybf g.ids,yu g.ports]]):=by
 refine Returns.of (ybtb _ _ ?_);simp only[c46,ybvm,ybvb,grV,clash,go_sem,zA,zB,zD,zC,↓reduceIte,reduceCtorEq];exact Sim.refl _
end Sh
end
section
def ygr(g:Gr):Sh.SV:=if ybs g=true then .ag (Sh.clmV 3 false true (ykb g/2+1) (-1))else .ag (Sh.clmV 0 false false 0 0)
def pkEl(f:Nat->Int)(s:Nat)(e:Ev.El):Nat:=if f e.v<f e.a.toNat then difB s (2^e.v)else s
theorem ybck(f:Nat->Int)(g:Gr):(Ev.flatAt 0 g.ports).foldl (pkEl f) (2^g.ports.length-1)=ylc f g:=by
 rw[ybmi];rfl
theorem yim{g:Gr}(h:ybs g=true):ycu g=true:=by
 unfold ybs at h;rw[zV]at h;exact h.1
theorem yeo{g:Gr}(h:ybs g=true):ybh g:=(ybn g).1 (ydw (yim h))
theorem yit{g:Gr}{c:Conf}(h:yda g c=true):ybs g=true/\c.length=g.ports.length/\∀v,v<c.length->(c.getD v []).length=1:=by
 unfold yda at h;rw[zV]at h;have hck:=(ymr _ _ _).1 h.2;refine⟨h.1,hck.1,fun v hv=>?_⟩;rw[Sh.getD_at hv];have:=(hck.2 v _ (zT hv)).1
 simpa[ydb]using this
namespace Sh
open Ev Go.RowKit
theorem ybbt{g:Gr}(hI:GrI g){c:Conf}(hR:yox c)(he:ybs g=true->Tr g):Returns Try.prog 8 [grV g,ycb c] (.b (yfo g c)):=by
 refine Returns.of (ycay _ _ ?_);have hC:=ysz hI hR;cases hcf:yda g c with
 | false =>
   have e:yfo g c=false:=by unfold yfo;rw[hcf];rfl
   rw[hcf]at hC;rw[e];simp only[grV]at hC;simp only[c8,c8_0,c8_1,c8_2,grV,clash,go_sem,zA,zB,zC,↓reduceIte,reduceCtorEq];refine hC.use ?_;simp only[ybo,clash,go_sem,zB,↓reduceIte];exact Sim.refl _
 | true =>
   obtain⟨ht,hcl,hc1⟩:=yit hcf;have hT:=he ht;have h24:=hT.good.2.1;have hH:=yvz hT;have hhb:=fun v hv=>hT.ht_le (v:=v) hv;obtain⟨n,hn⟩:∃n,g.ports.length=n:=⟨_,rfl⟩;have hLe:yfo g c=(zM n).all fun v=>decide ((c.getD v []).getD 0 0=htP g v):=by unfold yfo;rw[hcf,hn];rfl
   rw[hLe];rw[hcf]at hC;rw[hn]at h24 hH hcl;have hml:=ybai n (htP g);have hmg:∀v,v<n->(mapR n (htP g)).getD v 0=htP g v:=fun v hv=>gmR _ _ _ _ hv;obtain⟨H,hHe⟩:∃H,mapR n (htP g)=H:=⟨_,rfl⟩;rw[hHe]at hH hml hmg;simp only[grV]at hC hH;simp only[ybf,hml]at hH;simp only[c8,c8_0,c8_1,c8_3,grV,ybf,clash,go_sem,zA,zB,zC,↓reduceIte,reduceCtorEq];refine hC.use ?_;simp only[ybo,clash,go_sem,zA,zB,↓reduceIte]
   refine hH.use ?_;simp only[go_sem]
   refine ycp (σ:=Nat) (fun k=>⟨[(14,.i .i64 k),(13,.i .i64 n),(12,ybf H),(1,ycb c)],[]⟩)
    (fun k=>k<=n/\∀j,j<k->(c.getD j []).getD 0 0=htP g j) (fun k=>n-k) 0 ⟨zI _,fun j hj=>absurd hj (zAL j)⟩ ?_ ?_
   ·refine yba [] [] [] ?_;simp only[ybf,ycb,hml,allQ,live,yh,zG,go_sem,zA,↓reduceIte,reduceCtorEq]
   rintro k ⟨hk,hall⟩
   by_cases hlt:k<n
   ·have t1:decide ((k:Int)<(n:Int))=true:=decide_eq_true (by omega)
    have hs1:=hc1 k (by omega)
    have hgk:=hmg k hlt;obtain⟨s,hs⟩:∃s,c.getD k []=s:=⟨_,rfl⟩;rw[hs]at hs1;obtain⟨x,hx⟩:∃x,s.getD 0 0=x:=⟨_,rfl⟩
    by_cases heq:x=htP g k
    ·have t2:(x != htP g k)=false:=by rw[heq];simp
     simp only[c8_4,c8_5,c8_6,c8_8,ybf,ycb,hml,hcl,hs,hs1,hgk,hx,t1,t2,clash,go_sem,zAB,zA,zB,↓reduceIte,reduceCtorEq];refine⟨by omega,⟨by omega,by omega⟩,by omega,ikw (by omega) (by omega),ybd (k+1) ⟨by omega,fun j hj=>?_⟩ (by omega) ?_⟩
     ·by_cases q:j=k
      ·rw[q,hs,hx];exact heq
      ·exact hall j (by omega)
     ·refine yba [] [] [] ?_;simp only[allQ,live,yh,ydt,go_sem,zA,↓reduceIte,reduceCtorEq];omega
    ·have t2:(x != htP g k)=true:=by rw[bne_iff_ne];exact heq
     have e:(zM n).all (fun v=>decide ((c.getD v []).getD 0 0=htP g v))=false:=by
      rw[List.all_eq_false];exact⟨k,List.mem_range.2 hlt,by rw[hs,hx];simpa using heq⟩
     rw[e];simp only[c8_4,c8_5,c8_6,c8_7,ybf,ycb,hml,hcl,hs,hs1,hgk,hx,t1,t2,clash,go_sem,zAB,zA,zB,↓reduceIte,reduceCtorEq];exact⟨by omega,⟨by omega,by omega⟩,by omega,Sim.refl _⟩
   ·obtain rfl:k=n:=by omega
    have t1:decide ((k:Int)<(k:Int))=false:=decide_eq_false (by omega)
    have e:(zM k).all (fun v=>decide ((c.getD v []).getD 0 0=htP g v))=true:=by
     rw[List.all_eq_true];exact fun v hv=>decide_eq_true (hall v (List.mem_range.1 hv))
    rw[e];simp only[c8_4,c8_9,t1,go_sem,zA,↓reduceIte];exact Sim.refl _
theorem ybdk{g:Gr}(hI:GrI g):Returns Try.prog 10 [grV g] (ygr g):=by
 refine Returns.of (ybzw _ _ ?_);have hF:=yre hI;unfold ygr;cases ht:ybs g with
 | false =>
   rw[ht]at hF;simp only[grV]at hF;simp only[c10,ybov,ybot,ybvz,grV,clmV,clash,go_sem,zA,zB,zC,↓reduceIte];refine hF.use ?_;simp only[ybo,splice,clash,go_sem,zA,zB,↓reduceIte];exact Sim.refl _
 | true =>
   have hD:=ybex hI;rw[if_pos (yim ht)]at hD;have hg:=yeo ht;have h24:=hg.2.1;have d1:=yin (g:=g) g.ports.length;have d2:=yvw hg g.ports.length (zH _);have d3:(ykb g).tdiv 2=ykb g/2:=zS d1;have d1:0<=ykb g:=d1;have d2:ykb g<=24:=d2;rw[ht]at hF;simp only[grV]at hF hD;simp only[c10,ybov,ybot,ybyw,grV,clmV,clash,go_sem,zA,zB,zC,↓reduceIte];refine hF.use ?_;simp only[ybo,splice,clash,go_sem,zA,zB,zD,↓reduceIte]
   refine hD.use ?_;simp only[d3,go_sem,zA,zB,↓reduceIte];exact⟨⟨by decide,ikw (by omega) (by omega)⟩,ikw (by omega) (by omega),Sim.refl _⟩
theorem yti{g:Gr}(hI:GrI g):Returns Try.prog 11 [grV g] (ygr g):=by
 refine Returns.of (ybyq _ _ ?_);have hF:=yhs hI;unfold ygr;cases ht:ybs g with
 | false =>
   rw[ht]at hF;simp only[grV]at hF;simp only[c11,ybnm,ybpy,ybul,grV,clmV,clash,go_sem,zA,zB,zC,↓reduceIte];refine hF.use ?_;simp only[ybo,splice,clash,go_sem,zA,zB,↓reduceIte];exact Sim.refl _
 | true =>
   have hD:=ybgv hI;rw[if_pos (yim ht)]at hD;have hg:=yeo ht;have h24:=hg.2.1;have d1:=yin (g:=g) g.ports.length;have d2:=yvw hg g.ports.length (zH _);have d3:(ykb g).tdiv 2=ykb g/2:=zS d1;have d1:0<=ykb g:=d1;have d2:ykb g<=24:=d2;rw[ht]at hF;simp only[grV]at hF hD;simp only[c11,ybnm,ybpy,ybsf,grV,clmV,clash,go_sem,zA,zB,zC,↓reduceIte];refine hF.use ?_;simp only[ybo,splice,clash,go_sem,zA,zB,zD,↓reduceIte]
   refine hD.use ?_;simp only[d3,go_sem,zA,zB,↓reduceIte];exact⟨⟨by decide,ikw (by omega) (by omega)⟩,ikw (by omega) (by omega),Sim.refl _⟩
theorem ysi:Returns Try.prog 20 [] (yfq [⟨⟨#[104]⟩,1,0,0,1,0⟩]):=by
 refine Returns.of (ybud _ _ ?_);have h1:=ybaq ⟨#[104]⟩ 0 1 0;simp only[varC]at h1;simp only[c20,ycad,ybxu,go_sem,↓reduceIte];refine h1.use ?_;simp only[ybo,splice,clash,go_sem,zA,zB,zC,↓reduceIte,reduceCtorEq];have one:∀{q:Nat},q<1->q=0:=fun {q} h=>by omega
 refine⟨fun q hq=>by obtain rfl:=one hq;simp only[go_sem],?_⟩
 refine ybhr fun q hq=>?_;obtain rfl:=one hq;simp only[varC,zX,go_sem];exact⟨Sim.refl _,Sim.refl _,Sim.refl _,Sim.refl _,Sim.refl _,Sim.refl _,trivial⟩
theorem ylr(o:Own)(n:Nat):∀l:List SV,allP (pok [] o n) l
 |[]=>trivial
 |v::l=>⟨by rw[yvy];trivial,ylr o n l⟩
theorem yfe(o:Own)(n:Nat):∀l:List SV,l.map (ycl [] o n)=l
 |[]=>rfl
 |v::l=>by rw[List.map_cons,ymn,yfe o n l]
set_option maxHeartbeats 1000000 in
theorem ybho{g:Gr}(hg:ybh g){f:Nat->Int}{h:FuncId}{cp:List SV}(hcp4:cp.any (owned 4)=false)(hf:∀v,v<g.ports.length->Returns Try.prog h (.i .i64 v::cp) (.i .i64 (f v))) :
 Returns Try.prog 24 [grV g,.fn h [] cp] (.i .u32 (ylc f g)):=by
 refine Returns.of (ybvr _ _ ?_);have hcp:=yor hcp4;have hA:=ybrx hg;have hLk:=ybie (g:=g);have h24:=hg.2.1;have hpl:=hg.2.2.1;have hpk:=ybck f g;rw[hpl]at hA;obtain⟨n,hn⟩:∃n,g.ports.length=n:=⟨_,rfl⟩;rw[hn]at hA h24 hpl hf hpk;obtain⟨A,hAe⟩:∃A,2^n-1=A:=⟨_,rfl⟩;have hAl:A<2^24:=by rw[<-hAe];have:2^n<=2^24:=Nat.pow_le_pow_right (by omega) h24;have:=Nat.two_pow_pos n;omega
 rw[hAe]at hA hpk;obtain⟨S,hS⟩:∃S:Nat->Nat,(fun k=>((flatAt 0 g.ports).take k).foldl (pkEl f) A)=S:=⟨_,rfl⟩;have hS0:S 0=A:=by rw[<-hS];rfl
 have hSn:S (flatAt 0 g.ports).length=ylc f g:=by rw[<-hS,<-hpk];simp
 have hSs:∀k,k<(flatAt 0 g.ports).length->S (k+1)=pkEl f (S k) (ydm g.ports k):=fun k hk=>by rw[<-hS];exact ybgo (pkEl f) A hk
 have hSl:∀k,k<=(flatAt 0 g.ports).length->S k<2^24:=fun k=>by
  induction k with
  |zero=>intro _;rw[hS0];exact hAl
  | succ k ih =>
    intro hk;rw[hSs k hk];unfold pkEl;split
    ·exact yxm (ih (by omega))
    ·exact ih (by omega)
 rw[<-hSn];simp only[grV]at hA hLk;simp only[c24,ybzl,ybzu,ybzq,grV,clash,go_sem,zA,zB,zC,↓reduceIte,reduceCtorEq];refine hA.use ?_;simp only[ybo,splice,clash,go_sem,zA,zB,zC,↓reduceIte];refine hLk.use ?_
 refine yblm (ybkd (ybfu hg)) [(2,0),(3,0),(5,0)] (fun i (_:Unit)=>⟨[(11,.fn 55 [] [.rf [ybf g.ids,yu g.ports]]),(2,.pt (2,0) 0 0),(3,.pt (3,0) 0 0),(5,.pt (5,0) 0 0)],
  [(2,.one (some ⟨25,true,2,1,fun _=>[ybf g.ids,yu g.ports]⟩)),(3,.one (some ⟨45,true,1,1,fun _=>[.fn h [] cp]⟩)),(5,.one (some ⟨33,true,1,1,fun _=>[.i .u32 (S i)]⟩))]⟩) (fun i _=>i<=(flatAt 0 g.ports).length) () (zI _) ⟨fun _ h=>absurd h zU,fun _ h=>absurd h zU⟩ ?_ (fun _=>rfl) ?_ ?_ ?_
 ·refine yba [] [] [] ?_;simp only[hS0,ygh _ hcp4,ygd _ hcp4,allQ,live,yh,go_sem,zA,↓reduceIte,reduceCtorEq];intro _ _;refine⟨ylr _ _ cp,?_⟩;rw[yfe];exact Sim.refl _
 ·intro i _ hi _;refine⟨trivial,?_⟩;simp only[go_sem,allQ,go_sem,zA]
 ·intro i _ hi hlti;have hlti:i<(flatAt 0 g.ports).length:=hlti;obtain⟨e1,e2⟩:=ybeg hg hlti;have hs:=hSs i hlti;have hb:=hSl i hi;obtain⟨E,hE⟩:∃E,ydm g.ports i=E:=⟨_,rfl⟩;rw[hE]at hs e1 e2;obtain⟨a1,a2,_⟩:=yco hg e1 e2;have a1:0<=E.a:=a1;have a2:E.a.toNat<g.ports.length:=a2;have f1:=hf E.v (by omega)
  have f2:=hf E.a.toNat (by omega)
  rw[zW a1]at f2;obtain⟨a,ha⟩:∃a,S i=a:=⟨_,rfl⟩;rw[ha]at hs hb;refine⟨_,rfl,?_⟩;simp only[ybdt];obtain⟨x,hx⟩:∃x,f E.v=x:=⟨_,rfl⟩;obtain⟨y,hy⟩:∃y,f E.a.toNat=y:=⟨_,rfl⟩;rw[hx]at f1;rw[hy]at f2;simp only[ybsh,ybsw,ybtj,ha,hE,splice,hcp,clash,go_sem,zA,zB,zC,↓reduceIte,reduceCtorEq];refine f1.use ?_;simp only[ybo,hcp,clash,go_sem,zA,zB,zD,↓reduceIte,reduceCtorEq];refine f2.use ?_
  by_cases q:x<y
  ·have z1:decide (x<y)=true:=decide_eq_true q;have e:S (i+1)=difB a (2^E.v):=by rw[hs];unfold pkEl;rw[hx,hy,if_pos q]
   have sh:=ymh (v:=E.v) (by omega)
   have an:=u32_andNot (a:=a) (b:=2^E.v) (by omega) (Nat.pow_lt_pow_right (by omega) (by omega))
   simp only[IntKind.bits,zAF]at sh an;simp only[ybxz,splice,z1,sh,an,clash,go_sem,zA,zB,↓reduceIte,reduceCtorEq]
   repeat (first|refine⟨by omega,?_⟩|refine⟨by decide,?_⟩)
   refine ysq [] [] [] ?_;simp only[e,ygh _ hcp4,ygd _ hcp4,allQ,live,yh,go_sem,zA,↓reduceIte,reduceCtorEq];intro _ _;refine⟨ylr _ _ cp,?_⟩;rw[yfe];exact Sim.refl _
  ·have z1:decide (x<y)=false:=decide_eq_false q;have e:S (i+1)=a:=by rw[hs];unfold pkEl;rw[hx,hy,if_neg q]
   simp only[z1,go_sem,↓reduceIte]
   repeat (first|refine⟨by omega,?_⟩|refine⟨by decide,?_⟩)
   refine ysq [] [] [] ?_;simp only[e,ygh _ hcp4,ygd _ hcp4,allQ,live,yh,go_sem,zA,↓reduceIte,reduceCtorEq];intro _ _;refine⟨ylr _ _ cp,?_⟩;rw[yfe];exact Sim.refl _
 ·intro _ _;simp only[ybwb,ybdt,clash,go_sem,zA,zB,↓reduceIte,reduceCtorEq];exact Sim.refl _
end Sh
end
section
namespace Sh
open Ev Go.RowKit
theorem ype{g:Gr}(h:Tr g):∀(k v p:Nat) (l:Int×Int),v<g.ports.length->(g.ports.getD v [])[p]?=some l->(rchP g v l.1.toNat).toNat<=k->Returns Try.prog 54 [grV g,.i .i64 v,.i .i64 p] (.i .i64 (rchP g v l.1.toNat))
 | 0,v,p,l,hv,hl,hk=>by
   have hm:=zQ hl;have:=h.rch_pos (yco h.good hv hm).2.2.1;omega
 | k + 1,v,p,lp,hv,hlp,hk=>by
   refine Returns.of (ybwd _ _ ?_);have ih:=ype h k;have hmp:=zQ hlp;obtain⟨b1,b2,hu,_⟩:=yco h.good hv hmp;obtain⟨u,hue⟩:∃u,lp.1.toNat=u:=⟨_,rfl⟩;have hlu:lp.1=(u:Int):=by omega
   rw[hue]at hu b2 hk ⊢;have h24:=h.good.2.1;have hlo:=h.rch_loop hu;have hrs:∀i,rchS g v u i=((g.ports.getD u []).take i).foldl (ygo g v u) 1:=fun _=>rfl;have hsu:=fun i=>yuo (g:=g) (v:=v) (u:=u) (i:=i);have hle:=h.rch_le hu;have hdv:=h.good.deg_lt (v:=v);obtain⟨Lv,hLv⟩:∃L,g.ports.getD v []=L:=⟨_,rfl⟩;have hpl:p<Lv.length:=by rw[<-hLv];exact(List.getElem?_eq_some_iff.1 hlp).1
   have hpe:Lv.getD p (0,0)=lp:=by rw[<-hLv,List.getD_eq_getElem?_getD,hlp];rfl
   rw[hLv]at hdv;obtain⟨L,hL⟩:∃L,g.ports.getD u []=L:=⟨_,rfl⟩;have hdeg:=h.good.deg_lt (v:=u)
   have hadj:∀l∈L,0<=l.1/\l.1.toNat<g.ports.length/\adj g u l.1.toNat:=fun l hl=>by
    obtain⟨a,b,c,_⟩:=yco h.good b2 (by rw[hL];exact hl)
    exact⟨a,b,c⟩
   have hless:∀l∈L,l.1≠(v:Int)->rchP g u l.1.toNat<rchP g v u:=fun l hl=>h.rch_less hu (by rw[hL];exact hl)
   rw[hL]at hlo hdeg hrs;simp only[hL]at hsu;obtain⟨d,hd⟩:∃d,L.length=d:=⟨_,rfl⟩;obtain⟨S,hS⟩:∃S:Nat->Int,(fun i=>rchS g v u i)=S:=⟨_,rfl⟩;have hS':∀i,rchS g v u i=S i:=fun i=>by rw[<-hS]
   simp only[hS']at hsu hrs;rw[hd]at hdeg hsu;have hS0:S 0=1:=by rw[hrs];rfl
   have hSd:S d=rchP g v u:=by rw[hrs,<-hd,zK,hlo]
   rw[<-hSd]at hless hle hk ⊢;simp only[grV]at ih;simp only[c54,ybuw,ybua,ycac,grV,yu,ybc,hLv,hpe,hlu,clash,go_sem,zA,zB,zD,zC,↓reduceIte,reduceCtorEq];refine⟨⟨by omega,by omega⟩,⟨by omega,by omega⟩,?_⟩
   refine ycp (σ:=Nat) (fun i=>⟨[(9,.i .i64 i),(8,.i .i64 (S i)),(7,.i .i64 u),(1,.i .i64 v),(3,.pt (3,0) 0 0)],[(3,.one (some ⟨25,true,2,1,fun _=>[ybf g.ids,yu g.ports]⟩))]⟩) (fun i=>i<=d) (fun i=>d-i) 0 (zI _) ?_ ?_
   ·refine yba [] [] [] ?_;simp only[yu,ybc,hS0,allQ,live,yh,zG,go_sem,zA,↓reduceIte,reduceCtorEq]
   intro i hi
   by_cases hlt:i<d
   ·have t1:decide ((i:Int)<(d:Int))=true:=decide_eq_true (by omega)
    have hle?:L[i]?=some (L.getD i (0,0)):=by rw[getD_at (show i<L.length by omega)];exact zT _
    have hss:=hsu i hlt;obtain⟨l,hl⟩:∃l,L.getD i (0,0)=l:=⟨_,rfl⟩;rw[hl]at hle? hss;have hm:=zQ hle?;obtain⟨a1,a2,a3⟩:=hadj l hm
    by_cases hlv:l.1=(v:Int)
    ·have t2:(l.1 != (v:Int))=false:=by rw[hlv];simp
     have e:S (i+1)=S i:=by
      rw[hss];unfold ygo;rw[if_neg (by rw[t2];decide)]
     simp only[yblf,ybqa,ybrb,yu,ybc,hL,hd,hl,t1,t2,clash,go_sem,zA,zB,zD,↓reduceIte,reduceCtorEq];refine⟨⟨by omega,by omega⟩,⟨by omega,by omega⟩,by omega,ikw (by omega) (by omega),?_⟩
     refine ybd (i+1) (by omega) (by omega) ?_
     refine yba [] [] [] ?_;simp only[e,allQ,live,yh,ydt,go_sem,zA,↓reduceIte,reduceCtorEq];omega
    ·have t2:(l.1 != (v:Int))=true:=by rw[bne_iff_ne];exact hlv
     have hlr:=hless l hm hlv;have hlb:=h.rch_le a3;have hR:=ih u i l (by omega) (by rw[hL];exact hle?) (by omega)
     have e:S (i+1)=max (S i) (1+rchP g u l.1.toNat):=by
      rw[hss];unfold ygo;rw[if_pos t2]
     obtain⟨r,hr⟩:∃r,rchP g u l.1.toNat=r:=⟨_,rfl⟩;rw[hr]at hR e hlb;simp only[yblf,ybqa,ybrb,ybtw,yu,ybc,hL,hd,hl,t1,t2,clash,go_sem,zA,zB,zD,↓reduceIte,reduceCtorEq];refine⟨⟨by omega,by omega⟩,⟨by omega,by omega⟩,by omega,hR.use ?_⟩
     simp only[ybo,clash,go_sem,zA,zB,↓reduceIte,reduceCtorEq];refine⟨ikw (by omega) (by omega),ikw (by omega) (by omega),?_⟩
     refine ybd (i+1) (by omega) (by omega) ?_
     refine yba [] [] [] ?_;simp only[e,allQ,live,yh,ydt,go_sem,zA,↓reduceIte,reduceCtorEq];omega
   ·obtain rfl:i=d:=by omega
    have t1:decide ((i:Int)<(i:Int))=false:=decide_eq_false (by omega)
    simp only[yblf,ybzb,yu,ybc,hL,hd,t1,clash,go_sem,zA,zB,↓reduceIte,reduceCtorEq];exact⟨⟨by omega,by omega⟩,Sim.refl _⟩
theorem yxt{g:Gr}(h:Tr g){v:Nat}(hv:v<g.ports.length):Returns Try.prog 41 [grV g,.i .i64 v] (.i .i64 (htP g v)):=by
 refine Returns.of (ybwc _ _ ?_);have h24:=h.good.2.1;have hend:=yyt g v;have hsu:=fun i=>yqs (g:=g) (v:=v) (i:=i);have hsl:=ybak h hv;have hdeg:=h.good.deg_lt (v:=v);have hadj:=fun(l:Int×Int) (hl:l∈g.ports.getD v [])=>yco h.good hv hl;have hRR:=fun(i:Nat) (l:Int×Int) (hl:(g.ports.getD v [])[i]?=some l)=>ype h _ v i l hv hl (zH _);obtain⟨L,hL⟩:∃L,g.ports.getD v []=L:=⟨_,rfl⟩;obtain⟨d,hd⟩:∃d,L.length=d:=⟨_,rfl⟩
 rw[hL,hd]at hend hdeg hsl;rw[hL]at hadj;simp only[hL,hd]at hsu hRR;obtain⟨S,hS⟩:∃S:Nat->Int×Int,(fun i=>htS g v i)=S:=⟨_,rfl⟩;have hS':∀i,htS g v i=S i:=fun i=>by rw[<-hS]
 have hS0:S 0=(0,0):=by rw[<-hS'];rfl
 simp only[hS']at hsu hsl hend;rw[<-hend];simp only[grV]at hRR;simp only[c41,ybtf,ybsr,ybsg,grV,clash,go_sem,zB,zC,↓reduceIte];refine ycp (σ:=Nat) (fun i=>⟨[(7,.i .i64 i),(5,.i .i64 (S i).1),(6,.i .i64 (S i).2),(1,.i .i64 v),(2,.pt (2,0) 0 0)],[(2,.one (some ⟨25,true,2,1,fun _=>[ybf g.ids,yu g.ports]⟩))]⟩) (fun i=>i<=d) (fun i=>d-i) 0 (zI _) ?_ ?_
 ·refine yba [] [] [] ?_;simp only[hS0,allQ,live,yh,zG,go_sem,zA,↓reduceIte,reduceCtorEq]
 intro i hi
 by_cases hlt:i<d
 ·have t1:decide ((i:Int)<(d:Int))=true:=decide_eq_true (by omega)
  have hle?:L[i]?=some (L.getD i (0,0)):=by rw[getD_at (show i<L.length by omega)];exact zT _
  have hss:=hsu i hlt;have hb:=hsl i hi;obtain⟨l,hl⟩:∃l,L.getD i (0,0)=l:=⟨_,rfl⟩;rw[hl]at hle? hss;have hR:=hRR i l hle?;obtain⟨r,hr⟩:∃r,rchP g v l.1.toNat=r:=⟨_,rfl⟩;rw[hr]at hR hss;rw[ybaf hb.1.2]at hss;unfold step2 at hss
  by_cases q:r>(S i).1
  ·have t2:decide (r>(S i).1)=true:=decide_eq_true q;rw[if_pos q]at hss;have e1:(S (i+1)).1=r:=by rw[hss]
   have e2:(S (i+1)).2=(S i).1:=by rw[hss]
   simp only[ybje,ybpr,ybrc,yu,ybc,hL,hd,t1,clash,go_sem,zA,zB,↓reduceIte,reduceCtorEq];refine⟨⟨by omega,by omega⟩,hR.use ?_⟩
   simp only[ybo,ybqk,ybsc,t2,clash,go_sem,zA,zB,↓reduceIte,reduceCtorEq];refine⟨ikw (by omega) (by omega),?_⟩
   refine ybd (i+1) (by omega) (by omega) ?_
   refine yba [] [] [] ?_;simp only[e1,e2,allQ,live,yh,ydt,go_sem,zA,↓reduceIte,reduceCtorEq];omega
  ·have t2:decide (r>(S i).1)=false:=decide_eq_false q;rw[if_neg q]at hss;have e1:(S (i+1)).1=(S i).1:=by rw[hss]
   have e2:(S (i+1)).2=max (S i).2 r:=by rw[hss]
   simp only[ybje,ybpr,ybrc,yu,ybc,hL,hd,t1,clash,go_sem,zA,zB,↓reduceIte,reduceCtorEq];refine⟨⟨by omega,by omega⟩,hR.use ?_⟩
   simp only[ybo,ybqk,ybsy,t2,clash,go_sem,zA,zB,↓reduceIte,reduceCtorEq];refine⟨ikw (by omega) (by omega),?_⟩
   refine ybd (i+1) (by omega) (by omega) ?_
   refine yba [] [] [] ?_;simp only[e1,e2,allQ,live,yh,ydt,go_sem,zA,↓reduceIte,reduceCtorEq];omega
 ·obtain rfl:i=d:=by omega
  have t1:decide ((i:Int)<(i:Int))=false:=decide_eq_false (by omega)
  simp only[ybje,ybuj,yu,ybc,hL,hd,t1,clash,go_sem,zA,zB,↓reduceIte,reduceCtorEq];exact⟨⟨by omega,by omega⟩,Sim.refl _⟩
theorem yvb{c:Conf}{v:Nat}(hv:v<c.length)(hl:c.length<=1000)(hs:0<(c.getD v []).length):Returns Try.prog 25 [.i .i64 v,.rf [ycb c]] (.i .i64 ((c.getD v []).getD 0 0)):=by
 refine Returns.of (ybsz _ _ ?_);simp only[c25,ybvs,ybtn,ycb,ybf,clash,go_sem,zAB,zA,zB,↓reduceIte,reduceCtorEq];exact⟨⟨by omega,by omega⟩,by omega,Sim.refl _⟩
def ybel(g:Gr)(c:Conf):Nat:=if yda g c=true then ylc (fun v=>(c.getD v []).getD 0 0) g else 0
theorem ywn{g:Gr}(hI:GrI g){c:Conf}(hR:yox c):Returns Try.prog 12 [grV g,ycb c] (.i .u32 (ybel g c)):=by
 refine Returns.of (ybxc _ _ ?_);have hC:=ysz hI hR;unfold ybel;cases hcf:yda g c with
 | false =>
   rw[hcf]at hC;simp only[grV]at hC;simp only[c12,yboi,ybpi,ybva,grV,clash,go_sem,zA,zB,zC,↓reduceIte,reduceCtorEq];refine hC.use ?_;simp only[ybo,clash,go_sem,zB,↓reduceIte];exact Sim.refl _
 | true =>
   obtain⟨ht,hcl,hc1⟩:=yit hcf;have hg:=yeo ht;have h24:=hg.2.1;have hP:=ybho hg (f:=fun v=>(c.getD v []).getD 0 0) (h:=25) (cp:=[.rf [ycb c]]) (by rfl) (fun v hv=>yvb (by omega) (by omega) (by rw[hc1 v (by omega)];decide))
   obtain⟨Z,hZ⟩:∃Z,ylc (fun v=>(c.getD v []).getD 0 0) g=Z:=⟨_,rfl⟩;rw[hcf]at hC;rw[hZ]at hP;rw[if_pos rfl,hZ];simp only[grV]at hC hP;simp only[c12,yboi,ybpi,ybzt,grV,clash,go_sem,zA,zB,zC,↓reduceIte,reduceCtorEq];refine hC.use ?_;simp only[ybo,clash,go_sem,zA,zB,zD,↓reduceIte,reduceCtorEq];refine .inl (hP.use ?_);simp only[go_sem];exact Sim.refl _
end Sh
end
section
abbrev Ptr:=Nat->Option Nat
def Mt(p:Ptr)(x:Nat):Prop:=∃y,p x=some y/\p y=some x
inductive Mv (g:Gr) (p:Ptr) (v:Nat):Option Nat->Prop
 |accept (u:Nat):p v=none->adj g v u->p u=some v->Mv g p v (some u)
 |propose (u:Nat):p v=none->adj g v u->p u=none->(∀x,adj g v x->p x≠some v)->Mv g p v (some u)
 |withdraw (u w:Nat):p v=some u->p u=some w->w≠v->Mv g p v none
structure PtI(g:Gr)(p:Ptr)(I:Nat->Prop):Prop where
 nb:∀v u,p v=some u->adj g v u
 fresh:∀v u,p v=some u->¬I v->p u=none\/p u=some v\/Mt p u
open Classical in
noncomputable def lv(A B C:Prop):Nat:=if A then 0 else if B then 1 else if C then 0 else 2
noncomputable def lft(p:Ptr)(I:Nat->Prop)(u v:Nat):Nat:=lv (p u=some v/\p v=some u) ((p u=some v/\¬I u)\/(p v=some u/\¬I v)) (Mt p u\/Mt p v)
section
variable {g:Gr}{p:Ptr}{I:Nat->Prop}{v:Nat}{t:Option Nat}
end
end
section
section
variable {g:Gr}{p:Ptr}{I:Nat->Prop}{v:Nat}{t:Option Nat}
end
open Classical in
noncomputable def oldN(g:Gr)(p:Ptr)(I:Nat->Prop):Nat:=((zM g.ports.length).map fun x=>if I x/\p x≠none then 1 else 0).sum
open Classical in
noncomputable def lftN(g:Gr)(p:Ptr)(I:Nat->Prop):Nat:=((zM g.ports.length).map fun x=>((g.ports.getD x []).map fun l=>lft p I x l.1.toNat).sum).sum
open Classical in
end
section
section
variable {g:Gr}{p:Ptr}{I:Nat->Prop}{v w:Nat}{t t':Option Nat}
noncomputable def potN(g:Gr)(p:Ptr)(I:Nat->Prop):Nat:=2*oldN g p I+lftN g p I
open Classical in
end
end
section
def ybna:Ex:=.bin 35 (eQ 0) (.leaf 17 0)
def ybnc:Ex:=.bin 35 (eQ 0) ybfm
def ycah:Ex:=.bin 41 (.bin 41 (.bin 35 (.leaf 11 0) (eVar 0)) (.bin 36 (eQ 0) ybfm)) (.bin 36 (eQ 0) (.leaf 17 0))
def ybzo(nm p a b w:ByteArray):ProgT:=⟨nm,[⟨p,3,0,0,0,0⟩],[⟨a,.bin 41 (.bin 35 (eVar 0) ybfm) (.agg 21 ybna),[(0,.agg 23 ybna)]⟩,⟨b,.bin 41 (.bin 35 (eVar 0) ybfm) (.agg 21 ybnc),[(0,.agg 23 ybnc)]⟩,⟨w,.agg 21 ycah,[(0,ybfm)]⟩]⟩
def pAt(c:Conf)(v:Nat):Int:=(c.getD v []).getD 0 0
def toP(g:Gr)(c:Conf):Ptr:=fun v=>if v<g.ports.length/\0<=pAt c v then some ((g.ports.getD v []).getD (pAt c v).toNat (0,0)).1.toNat else none
structure MtC(g:Gr)(c:Conf):Prop where
 len:c.length=g.ids.length
 row:∀v,v<g.ids.length->(c.getD v []).length=1/\(-1<=pAt c v/\pAt c v<(g.ports.getD v []).length)
section
variable {nm np na nb nw:ByteArray}{g:Gr}{c:Conf}{u v s:Nat}
end
end
section
theorem ynr{α:Type}[DecidableEq α]:∀{l1 l2:List α},l1.Nodup->(∀x∈l1,x∈l2)->l1.length<=l2.length
 |[],_,_,_=>zI _
 | a::t,l2,hn,hs=>by
   have hn:=List.nodup_cons.1 hn;have h1:=hs a zAE;have:=ynr (l1:=t) (l2:=l2.erase a) hn.2 fun y hy=>(List.mem_erase_of_ne fun e=>hn.1 (by rw[<-e];exact hy)).2 (hs y (zAC _ hy))
   rw[List.length_erase_of_mem h1]at this;have:=List.length_pos_of_mem h1;simp only[zAH];omega
def kcEx:Ex:=.agg 21 (.bin 35 (eQ 0) (eVar 0))
def ybed(nm c r:ByteArray):ProgT:=⟨nm,[⟨c,1,0,0,1,0⟩],[⟨r,kcEx,[(0,.agg 27 (eQ 0))]⟩]⟩
def ybjl(c:Conf)(v:Nat):Int:=(c.getD v []).getD 0 0
def ycba(g:Gr)(c:Conf)(v:Nat):Prop:=∃u,adj g v u/\ybjl c u=ybjl c v
structure KcC(g:Gr)(c:Conf):Prop where
 len:c.length=g.ids.length
 row:∀v,v<g.ids.length->(c.getD v []).length=1/\(0<=ybjl c v/\ybjl c v<=g.ids.length)
section
variable {nm nc nr:ByteArray}{g:Gr}{c:Conf}{u v s:Nat}
def kcR(g:Gr)(r v:Nat)(c:Conf):Prop:=1<=r->¬ycba g c v
structure KcJ(nm nc nr:ByteArray)(g:Gr)(c:Conf)(k:Cnt):Prop where
 inv:RInvC (ybqh (ybed nm nc nr) g) (fun c=>ybvc (ybed nm nc nr) g c=true) (kcR g) c k
 moves:k.moves+popP (yyz (ybed nm nc nr) g c)<=g.ids.length
end
end
section
def ybfw(ls:List (Int×Int))(b:Int):Bool:=ls.any fun l=>decide (l.1=b)
namespace Sh
open Ev Go.RowKit
end Sh
end
end Go.Proofs.Ytiejahgklcjhkaa
