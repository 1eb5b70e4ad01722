/- Lemmas, joined: Li. -/
import Derived.Test.YtpngeppkgoaimaaGreatDoorPkPp14
import Derived.Test.YtpngeppkgoaimaaGreatDoorPkPp16
set_option linter.unusedSimpArgs false
set_option linter.unusedVariables false
namespace Go.Proofs.YtpngeppkgoaimaaGreatDoor
namespace Sh
open Go Ev

def Lies(B:List BlkL)(v:Value)(F:AM)(u:Value):Prop :=
 ∃ ρ:Nat->Nat,(∀ b ∈ B,∀ c ∈ B,ρ b.i=ρ c.i->b.i=c.i)/\(∀ b ∈ B,F (ρ b.i)=some (b.ren ρ).blk)/\u=ren1 ρ v
theorem Lies.mono{B:List BlkL}{v:Value}(F G:AM)(u:Value)(h:Le F G)(k:Lies B v F u):Lies B v G u:=by
 obtain⟨ρ,h1,h2,h3⟩:=k;exact⟨ρ,h1,fun b hb=>h _ _ (h2 b hb),h3⟩

def ydje(B:List BlkL)(j:Nat):Option BlkL:=B.find? fun b=>Nat.beq b.i j
def ybyf(p:Nat->Bool):Nat->Bool
 | 0=>true
 | n+1=>p n && ybyf p n
theorem ybhc{p:Nat->Bool}:∀ {n:Nat},ybyf p n=true -> ∀ k,k<n->p k=true
 | 0,_,k,h=>absurd h (Nat.not_lt_zero k)
 | n+1,h,k,hk=>by
  have h:(p n && ybyf p n)=true:=h;rw[Bool.and_eq_true]at h
  by_cases q:k=n
  ·rw[q];exact h.1
  ·exact ybhc h.2 k (by omega)
def ybbw(B:List BlkL)(z n:Nat)(row:Nat->List Value->Bool):Value->Bool
 | .slice (some a) m _=>a.spot.isNone && Nat.beq m n && (match ydje B a.block with
  | some b=>Nat.beq b.z z && Nat.ble (a.off+n * z) b.l.length && ybyf (fun k=>row k ((b.l.drop (a.off+k * z)).take z)) n
  | none=>false)
 | .slice none 0 0=>Nat.beq n 0
 | _=>false
theorem yow {B:List BlkL} {F:AM} {ρ:Nat->Nat} {z n:Nat} {row:Nat->List Value->Bool} {v:Value} {g:Nat->List SV} (hF:∀ b ∈ B,F (ρ b.i)=some (b.ren ρ).blk) (h:ybbw B z n row v=true)
  (hr:∀ k L,k<n->row k L=true->L.length=z/\RVL F om0 (g k) (L.map (ren2 ρ))/\(g k).all one1=true):RV F om0 (.sl z n g) (ren1 ρ v):=by
 unfold ybbw at h;split at h
 ·rename_i a m c
  simp only[Bool.and_eq_true]at h;obtain⟨⟨h1,h2⟩,h3⟩:=h;split at h3
  ·rename_i b hb
   simp only[Bool.and_eq_true]at h3;obtain⟨⟨h3,h4⟩,h5⟩:=h3;have hm:m=n:=Nat.eq_of_beq_eq_true h2;have hz:=Nat.eq_of_beq_eq_true h3;have h4:=Nat.le_of_ble_eq_true h4;have hmem:=List.mem_of_find?_eq_some hb;have hi:b.i=a.block:=Nat.eq_of_beq_eq_true (List.find?_some (p:=fun b:BlkL=>Nat.beq b.i a.block) hb);have h6:=hF b hmem;rw[hi]at h6;show RV F om0 _ (.slice (some (renA ρ a)) m c);rw[yij];subst hm
   obtain⟨A,o,sp⟩:=a;have hsp:sp=none:=by simpa using h1
   subst hsp;have h6:F (ρ A)=some (.cells (tOf (b.l.map (ren2 ρ))) (b.l.map (ren2 ρ)).length b.e b.z):=h6;have hrow:∀ k,k<m->_:=fun k hk=>hr k _ hk (ybhc h5 k hk);refine .sl (L:=fun k=>((b.l.drop (o+k * z)).take z).map (ren2 ρ)) h6 (.inl hz) (by rw[List.length_map];exact h4) ?_ ?_ (fun k hk=>(hrow k hk).2.1) (fun k hk=>(hrow k hk).2.2)
   ·intro k hk;rw[List.length_map];exact(hrow k hk).1
   ·intro k hk j hj;rw[ycj];simp only[List.getElem?_map,List.getElem?_take,List.getElem?_drop,hj,if_true]
  ·cases h3
 ·have h:Nat.beq n 0=true:=h;have h0:=Nat.eq_of_beq_eq_true h;subst h0;exact .sl0 (.inl rfl)
 ·cases h
def isI(v:Value)(n:Int):Bool:=match v with
 | .int .i64 m=>eqInt m n
 | _=>false
def isS(v:Value)(s:ByteArray):Bool:=match v with
 | .string t=>eqBytes t.data.toList s.data.toList
 | _=>false
theorem ynm{F:AM}{ρ:Nat->Nat}{v:Value}{n:Int}(h:isI v n=true):RV F om0 (.i .i64 n) (ren2 ρ v):=by
 unfold isI at h;split at h
 ·rw[ypg h];exact .i
 ·cases h
theorem yckq{F:AM}{ρ:Nat->Nat}{v:Value}{s:ByteArray}(h:isS v s=true):RV F om0 (.a (.string s)) (ren2 ρ v):=by
 unfold isS at h;split at h
 ·rename_i t
  have e:=ymy h
  have:t=s:=by
   cases t;cases s
   congr 1;exact Array.toList_inj.1 e
  rw[this];exact .a rfl
 ·cases h
def ydfi(ls:List (Int × Int))(k:Nat):List Value->Bool
 | [x,y]=>isI x (ls.getD k (0,0)).1 && isI y (ls.getD k (0,0)).2
 | _=>false
def ycow(l:List VarR)(k:Nat):List Value->Bool
 | [s,a,b,c,d,e]=>isS s (l.getD k default).name && isI a (l.getD k default).kind && isI b (l.getD k default).lo && isI c (l.getD k default).hi && isI d (l.getD k default).perNode && isI e (l.getD k default).perID
 | _=>false
def ywn(B:List BlkL)(ls:List (Int × Int))(v:Value):Bool:=ybbw B 2 ls.length (ydfi ls) v
def isSl:Value->Bool
 | .slice _ _ _=>true
 | _=>false
def ybpw(B:List BlkL)(l:List SetR)(k:Nat):List Value->Bool
 | [a,v]=>isI a (l.getD k default).var && isSl v && ywn B (l.getD k default).val v
 | _=>false
def ybsb(B:List BlkL)(l:List RuleR)(k:Nat):List Value->Bool
 | [s,v,w]=>isS s (l.getD k default).name && isSl v && ywn B (l.getD k default).guard v && isSl w && ybbw B 2 (l.getD k default).sets.length (ybpw B (l.getD k default).sets) w
 | _=>false
def ybsd(B:List BlkL)(v:Value)(l:List VarR):Bool:=ybbw B 6 l.length (ycow l) v
def ybgf(B:List BlkL)(v:Value)(l:List RuleR):Bool:=ybbw B 3 l.length (ybsb B l) v
section
variable {B:List BlkL} {F:AM} {ρ:Nat->Nat}
theorem ybdh{v:Value}(h:isSl v=true):ren2 ρ v=ren1 ρ v:=by
 unfold isSl at h;split at h
 ·rfl
 ·cases h
theorem yqs(hF:∀ b ∈ B,F (ρ b.i)=some (b.ren ρ).blk){ls:List (Int × Int)}{v:Value}(h:ywn B ls v=true):RV F om0 (yba ls) (ren1 ρ v):=by
 refine yow hF h fun k L hk hq=>?_;unfold ydfi at hq;split at hq
 ·simp only[Bool.and_eq_true]at hq;exact⟨rfl,.cons (ynm hq.1) (.cons (ynm hq.2) .nil),rfl⟩
 ·cases hq
theorem ybin(hF:∀ b ∈ B,F (ρ b.i)=some (b.ren ρ).blk){l:List VarR}{v:Value}(h:ybsd B v l=true):RV F om0 (yct l) (ren1 ρ v):=by
 refine yow hF h fun k L hk hq=>?_;unfold ycow at hq;split at hq
 ·simp only[Bool.and_eq_true]at hq;obtain⟨⟨⟨⟨⟨h1,h2⟩,h3⟩,h4⟩,h5⟩,h6⟩:=hq;exact⟨rfl,.cons (yckq h1) (.cons (ynm h2) (.cons (ynm h3) (.cons (ynm h4) (.cons (ynm h5) (.cons (ynm h6) .nil))))),rfl⟩
 ·cases hq
theorem ybio(hF:∀ b ∈ B,F (ρ b.i)=some (b.ren ρ).blk){l:List SetR}{v:Value}(h:ybbw B 2 l.length (ybpw B l) v=true):RV F om0 (yha l) (ren1 ρ v):=by
 refine yow hF h fun k L hk hq=>?_;unfold ybpw at hq;split at hq
 ·simp only[Bool.and_eq_true]at hq;obtain⟨⟨h1,h2⟩,h3⟩:=hq;refine⟨rfl,.cons (ynm h1) (.cons ?_ .nil),rfl⟩;rw[ybdh h2];exact yqs hF h3
 ·cases hq
theorem ybdx(hF:∀ b ∈ B,F (ρ b.i)=some (b.ren ρ).blk){l:List RuleR}{v:Value}(h:ybgf B v l=true):RV F om0 (ycc l) (ren1 ρ v):=by
 refine yow hF h fun k L hk hq=>?_;unfold ybsb at hq;split at hq
 ·simp only[Bool.and_eq_true]at hq;obtain⟨⟨⟨⟨h1,h2⟩,h3⟩,h4⟩,h5⟩:=hq;refine⟨rfl,.cons (yckq h1) (.cons ?_ (.cons ?_ .nil)),rfl⟩
  ·rw[ybdh h2];exact yqs hF h3
  ·rw[ybdh h4];exact ybio hF h5
 ·cases hq
end
structure LaidP(fp:Fact)(t:ByteArray)(p:ProgR)(vv vr:Value)(Bv Br:List BlkL):Prop where
 args:fp.args = [.string t]
 pre:fp.pre = []
 v:fp.v = .agg #[.string p.name,vv,vr]
 still:fp.still=true
 bv:∀ b ∈ Bv,b ∈ fp.post
 br:∀ b ∈ Br,b ∈ fp.post
 vars:ybsd Bv vv p.vars=true
 rules:ybgf Br vr p.rules=true
theorem ycar{P:Program}{fp:Fact}{t:ByteArray}{p:ProgR}{vv vr:Value}{Bv Br:List BlkL}(hok:yew P fp)(h:LaidP fp t p vv vr Bv Br):Returns P fp.g [.a (.string t)] (.ag (ydb (Lies Bv vv) (Lies Br vr) p)):=by
 intro G m us hwf hle hus
 have hu:us = [.string t]:=by
  cases hus with
  | cons a b=>cases a with | a _=>cases b with | nil=>rfl
 subst hu;obtain⟨s1,⟨s2,s3⟩,s4,s5,s6,s7,s8⟩:=ykc h.still;have hmv:=ytc (tgt:=[]) (n0:=m.next) hok h.still (by rw[h.pre];rfl) List.nodup_nil (fun t ht=>by cases ht)
 obtain⟨ρ,hρ⟩:∃ ρ,fp.rho [] m.next=ρ:=⟨_,rfl⟩
 have hpost:(fp.move [] m.next).post=fp.post.map (BlkL.ren ρ):=by rw[<- hρ];rfl
 have hv:(fp.move [] m.next).v = .agg #[.string p.name,ren1 ρ vv,ren1 ρ vr]:=by
  show renV (fp.rho [] m.next) fp.v=_
  rw[hρ,h.v];rfl
 have hpre:(fp.move [] m.next).pre = []:=by
  show fp.pre.map _ = [];rw[h.pre];rfl
 have hfit:(fp.move [] m.next).fits fp.g [.string t] m=true:=by
  unfold Fact.fits;rw[hpre];show(Nat.beq fp.g fp.g && Nat.beq m.next m.next && eqL2 (fp.args.map (ren2 _)) [.string t] && true)=true
  rw[Nat.beq_refl,Nat.beq_refl,h.args];show(true && true && (eqBytes t.data.toList t.data.toList && true) && true)=true;rw[yoc];rfl
 have hri:∀ b ∈ fp.post,ρ b.i=b.i - fp.next0+m.next:=fun b hb=>by rw[<- hρ];exact ybgi (s6 b hb).1 (s6 b hb).2.1
 have hnd:yfk ((fp.post.map (BlkL.ren ρ)).map (·.i))=true:=by
  refine ylp ?_
  have e:(fp.post.map (BlkL.ren ρ)).map (·.i)=(fp.post.map (·.i)).map (fun i=>i - fp.next0+m.next):=by
   rw[List.map_map,List.map_map];refine List.map_congr_left fun b hb=>?_;show(b.ren ρ).i=_;rw[b.ygl,hri b hb];rfl
  rw[e];unfold List.Nodup at s7 ⊢;rw[List.pairwise_map];refine List.Pairwise.imp_of_mem (fun {x y} hx hy h=>?_) s7;obtain⟨bx,hbx,rfl⟩:=List.mem_map.1 hx;obtain⟨by_,hby,rfl⟩:=List.mem_map.1 hy;have:=(s6 bx hbx).1;have:=(s6 by_ hby).1;omega
 have hs:=yup hmv hfit;unfold Fact.out at hs;rw[hv,hpre,hpost]at hs;refine⟨_,_,_,hs,Nat.le_refl _,?_,rfl,?_⟩
 ·intro i b hb;show(blksT m.b (fp.post.map (BlkL.ren ρ))).get i=some b;rw[yrj fun c hc=>?_]
  ·exact hb
  ·obtain⟨c,hc',rfl⟩:=List.mem_map.1 hc;have:=hwf i b hb;rw[c.ygl,hri c hc'];omega
 ·have hF:∀ b ∈ fp.post,frsh m.next ⟨(fp.move [] m.next).next1,blksT m.b (fp.post.map (BlkL.ren ρ)),(fp.move [] m.next).low⟩ G (ρ b.i)=some (b.ren ρ).blk:=fun b hb=>by
   unfold frsh;rw[if_pos (by rw[hri b hb];omega)]
   have:=ypj (t:=m.b) hnd _ (List.mem_map.2 ⟨b,hb,rfl⟩);rw[b.ygl]at this;exact this
  have hinj:∀ b ∈ fp.post,∀ c ∈ fp.post,ρ b.i=ρ c.i->b.i=c.i:=fun b hb c hc e=>by
   rw[hri b hb,hri c hc]at e;have:=(s6 b hb).1;have:=(s6 c hc).1;omega
  refine .ag (.cons (.a rfl) (.cons (.ex ?_ (fun A B w=>Lies.mono A B w) ?_) (.cons (.ex ?_ (fun A B w=>Lies.mono A B w) ?_) .nil)))
  ·exact⟨ρ,fun b hb c hc=>hinj b (h.bv b hb) c (h.bv c hc),fun b hb=>hF b (h.bv b hb),rfl⟩
  ·exact ybin (fun b hb=>hF b (h.bv b hb)) h.vars
  ·exact⟨ρ,fun b hb c hc=>hinj b (h.br b hb) c (h.br c hc),fun b hb=>hF b (h.br b hb),rfl⟩
  ·exact ybdx (fun b hb=>hF b (h.br b hb)) h.rules

def inB(B:List BlkL):Value->Bool
 | .slice (some a) _ _=>(B.map (·.i)).elem a.block
 | .pointer (some a)=>(B.map (·.i)).elem a.block
 | .agg _=>false
 | .func _ _ _=>false
 | _=>true
theorem ygp{B:List BlkL}{ρ σ:Nat->Nat}(h:∀ b ∈ B,ρ b.i=σ b.i){v:Value}(hv:inB B v=true):ren1 ρ v=ren1 σ v:=by
 have hk:∀ j,(B.map (·.i)).elem j=true->ρ j=σ j:=fun j hj=>by
  have:j ∈ B.map (·.i):=by simpa using hj
  obtain⟨b,hb,rfl⟩:=List.mem_map.1 this;exact h b hb
 cases v with
 | slice p n c=>cases p with
  | none=>rfl
  | some a =>
   show Value.slice (some (renA ρ a)) n c = .slice (some (renA σ a)) n c;rw[yij,yij,hk _ hv]
 | pointer p=>cases p with
  | none=>rfl
  | some a =>
   show Value.pointer (some (renA ρ a)) = .pointer (some (renA σ a));rw[yij,yij,hk _ hv]
 | agg a=>cases hv
 | func f a c=>cases hv
 | _=>rfl
theorem ybgb{B:List BlkL}{τ:Nat->Nat}{v:Value}(hv:inB B v=true):ren2 τ v=ren1 τ v:=by
 cases v with
 | agg a=>cases hv
 | func f a c=>cases hv
 | _=>rfl
theorem ybkp{B:List BlkL}{ρ σ:Nat->Nat}(h:∀ b ∈ B,ρ b.i=σ b.i){v:Value}(hv:inB B v=true):ren2 ρ v=ren2 σ v:=by
 rw[ybgb hv,ybgb hv];exact ygp h hv
def ybcp(B:List BlkL):Bool:=B.all fun b=>b.l.all (inB B)
theorem yzh{B:List BlkL}{ρ σ:Nat->Nat}(hc:ybcp B=true)(h:∀ b ∈ B,ρ b.i=σ b.i){b:BlkL}(hb:b ∈ B):b.ren ρ=b.ren σ:=by
 have h1:=List.all_eq_true.1 (List.all_eq_true.1 hc b hb)
 have e:∀ τ:Nat->Nat,b.ren τ=⟨τ b.i,b.e,b.z,b.l.map (ren2 τ)⟩:=fun τ=>by
  unfold BlkL.ren;rw[forceN_eq]
 rw[e,e,h b hb];congr 1;exact List.map_congr_left fun v hv=>ybkp h (h1 v hv)
theorem ysi{low:Nat}:∀ {l:List BlkL} {t:T ABlk},(∀ b ∈ l,b.i<low)->dropT t low l=t
 | [],_,_=>rfl
 | b :: l,t,h=>by
  have hb:=h b List.mem_cons_self;unfold dropT
  have e:Nat.ble low b.i=false:=by
   cases q:Nat.ble low b.i with
   | false=>rfl
   | true=>have:=Nat.le_of_ble_eq_true q;omega
  rw[e,iteB_eq,if_neg (by simp)]
  exact ysi fun c hc=>h c (List.mem_cons_of_mem _ hc)
structure GoodV(fv:Fact)(p:ProgR)(vv vr:Value)(Bv Br:List BlkL):Prop where
 args:fv.args = [.agg #[.string p.name,vv,vr]]
 pre:∀ b ∈ fv.pre,b ∈ Bv\/b ∈ Br
 bv:∀ b ∈ Bv,b ∈ fv.pre
 br:∀ b ∈ Br,b ∈ fv.pre
 v:fv.v = .bool true
 post:fv.post = []
 still:fv.still=true
 apart:(Bv.all fun b=>Br.all fun c=>!(Nat.beq b.e c.e) && !(Nat.beq b.i c.i))=true
 cv:ybcp Bv=true
 cr:ybcp Br=true
 iv:inB Bv vv=true
 ir:inB Br vr=true
 refl:eq2 (.agg #[.string p.name,vv,vr]) (.agg #[.string p.name,vv,vr])=true
theorem ybzf{P:Program}{fv:Fact}{p:ProgR}{vv vr:Value}{Bv Br:List BlkL}(hok:yew P fv)(h:GoodV fv p vv vr Bv Br):Returns P fv.g [.ag (ydb (Lies Bv vv) (Lies Br vr) p)] (.b true):=by
 intro G m us hwf hle hus
 obtain⟨ρ1,ρ2,hu,a1,a2,a3,a4⟩:∃ ρ1 ρ2:Nat->Nat,us = [.agg #[.string p.name,ren1 ρ1 vv,ren1 ρ2 vr]]/\(∀ b ∈ Bv,∀ c ∈ Bv,ρ1 b.i=ρ1 c.i->b.i=c.i)/\(∀ b ∈ Bv,G (ρ1 b.i)=some (b.ren ρ1).blk) /\
   (∀ b ∈ Br,∀ c ∈ Br,ρ2 b.i=ρ2 c.i->b.i=c.i) /\ ∀ b ∈ Br,G (ρ2 b.i)=some (b.ren ρ2).blk:=by
  cases hus with
  | cons a b =>
   cases b
   cases a with
   | ag hl =>
    cases hl with
    | cons x1 hl =>
     cases x1
     cases hl with
     | cons x2 hl =>
      cases x2 with
      | ex q2 _ _ =>
       cases hl with
       | cons x3 hl =>
        cases x3 with
        | ex q3 _ _ =>
         cases hl
         obtain⟨ρ1,b1,b2,rfl⟩:=q2;obtain⟨ρ2,b3,b4,rfl⟩:=q3;exact⟨ρ1,ρ2,rfl,b1,b2,b3,b4⟩
 subst hu;obtain⟨s1,⟨s2,s3⟩,s4,s5,s6,s7,s8⟩:=ykc h.still
 have hap:∀ b ∈ Bv,∀ c ∈ Br,b.e ≠ c.e/\b.i ≠ c.i:=fun b hb c hc=>by
  have:=List.all_eq_true.1 (List.all_eq_true.1 h.apart b hb) c hc;simp only[Bool.and_eq_true,Bool.not_eq_true']at this;exact⟨fun e=>(by rw[e,Nat.beq_refl]at this;exact absurd this.1 (by decide)),fun e=>(by rw[e,Nat.beq_refl]at this;exact absurd this.2 (by decide))⟩
 let σ:Nat->Nat:=fun i=>if (Bv.map (·.i)).elem i then ρ1 i else ρ2 i
 have hcross:∀ b ∈ Bv,∀ c ∈ Br,ρ1 b.i ≠ ρ2 c.i:=fun b hb c hc e=>by
  have e1:=a2 b hb;have e2:=a4 c hc;rw[e,e2]at e1
  injection e1 with e1
  unfold BlkL.blk at e1
  injection e1 with _ _ e3 _
  exact(hap b hb c hc).1 e3.symm
 have hG:∀ i b,G i=some b->i<m.next:=fun i b hb=>hwf i b (hle i b hb)
 have sv:∀ b ∈ Bv,σ b.i=ρ1 b.i:=fun b hb=>if_pos (by simpa using⟨b,hb,rfl⟩)
 have sr:∀ b ∈ Br,σ b.i=ρ2 b.i:=fun b hb=>by
  refine if_neg fun q=>?_;have:b.i ∈ Bv.map (·.i):=by simpa using q
  obtain⟨d,hd,hdi⟩:=List.mem_map.1 this;exact(hap d hd b hb).2 hdi
 have tgtLt:∀ b ∈ fv.pre,σ b.i<m.next:=fun b hb=>by
  rcases h.pre b hb with q | q
  ·rw[sv b q];exact hG _ _ (a2 b q)
  ·rw[sr b q];exact hG _ _ (a4 b q)
 have sinj:∀ b ∈ fv.pre,∀ c ∈ fv.pre,σ b.i=σ c.i->b.i=c.i:=fun b hb c hc e=>by
  rcases h.pre b hb with q | q<;>rcases h.pre c hc with q' | q'
  ·rw[sv b q,sv c q']at e;exact a1 b q c q' e
  ·rw[sv b q,sr c q']at e;exact absurd e (hcross b q c q')
  ·rw[sr b q,sv c q']at e;exact absurd e.symm (hcross c q' b q)
  ·rw[sr b q,sr c q']at e;exact a3 b q c q' e
 obtain⟨tgt,htgt⟩:∃ t,fv.pre.map (fun b=>σ b.i)=t:=⟨_,rfl⟩
 have tlt:∀ t ∈ tgt,t<m.next:=fun t ht=>by
  rw[<- htgt]at ht;obtain⟨b,hb,rfl⟩:=List.mem_map.1 ht;exact tgtLt b hb
 have tnd:tgt.Nodup:=by
  rw[<- htgt];have s5:=s5;unfold List.Nodup at s5 ⊢;rw[List.pairwise_map]at s5 ⊢;exact List.Pairwise.imp_of_mem (fun {x y} hx hy h e=>h (sinj x hx y hy e)) s5
 have tlen:fv.pre.length=tgt.length:=by rw[<- htgt,List.length_map]
 have hmv:=ytc (n0:=m.next) hok h.still tlen tnd tlt
 have hrho:=ybtt (n0:=m.next) s4 s5 tlen
 obtain⟨ρ,hρ⟩:∃ ρ,fv.rho tgt m.next=ρ:=⟨_,rfl⟩
 rw[hρ,<- htgt]at hrho;have hri:∀ b ∈ fv.pre,ρ b.i=σ b.i:=List.map_inj_left.1 hrho;have hv1:∀ b ∈ Bv,ρ b.i=ρ1 b.i:=fun b hb=>by rw[hri b (h.bv b hb),sv b hb]
 have hr1:∀ b ∈ Br,ρ b.i=ρ2 b.i:=fun b hb=>by rw[hri b (h.br b hb),sr b hb]
 have hargs:(fv.move tgt m.next).args = [.agg #[.string p.name,ren1 ρ1 vv,ren1 ρ2 vr]]:=by
  show fv.args.map (ren2 (fv.rho tgt m.next))=_
  rw[hρ,h.args,<- ygp hv1 h.iv,<- ygp hr1 h.ir];rfl
 have hself:eqL2 [.agg #[.string p.name,ren1 ρ1 vv,ren1 ρ2 vr]] [.agg #[.string p.name,ren1 ρ1 vv,ren1 ρ2 vr]]=true:=by
  have hf:yjk (.agg #[.string p.name,vv,vr])=true:=by
   have:=s2;rw[h.args]at this
   simpa using this
  have e:=ybrt (ρ:=ρ) hf h.refl;rw[show ren2 ρ (.agg #[.string p.name,vv,vr]) = .agg #[.string p.name,ren1 ρ vv,ren1 ρ vr]from rfl,ygp hv1 h.iv,ygp hr1 h.ir]at e
  show(eq2 _ _ && true)=true;rw[e];rfl
 have hpre:∀ b ∈ fv.pre,m.b.get (ρ b.i)=some (b.ren ρ).blk:=fun b hb=>by
  rcases h.pre b hb with q | q
  ·rw[yzh h.cv hv1 q,hv1 b q];exact hle _ _ (a2 b q)
  ·rw[yzh h.cr hr1 q,hr1 b q];exact hle _ _ (a4 b q)
 have hp:(fv.move tgt m.next).pre=fv.pre.map (BlkL.ren ρ):=by rw[<- hρ];rfl
 have hfit:(fv.move tgt m.next).fits fv.g [.agg #[.string p.name,ren1 ρ1 vv,ren1 ρ2 vr]] m=true:=by
  unfold Fact.fits;rw[hargs,hself];show(Nat.beq fv.g fv.g && Nat.beq m.next m.next && true && (fv.move tgt m.next).pre.all (blkIs m))=true
  rw[Nat.beq_refl,Nat.beq_refl,hp];show List.all _ _=true;refine List.all_eq_true.2 fun b' hb'=>?_;obtain⟨b,hb,rfl⟩:=List.mem_map.1 hb';have h2:=(s4 b hb).2;refine ync ?_ (yrc h2) ?_
  ·rw[b.ygl];exact hpre b hb
  ·show Nat.blt (b.l.map _).length 1000000=true;rw[List.length_map];unfold reflB at h2;rw[Bool.and_eq_true]at h2;exact h2.2
 have hs:=yup hmv hfit;unfold Fact.out at hs
 have hv:(fv.move tgt m.next).v = .bool true:=by
  show renV (fv.rho tgt m.next) fv.v=_
  rw[h.v];rfl
 have hpost:(fv.move tgt m.next).post = []:=by
  show fv.post.map _ = [];rw[h.post];rfl
 rw[hv,hpost]at hs;refine⟨_,_,_,hs,Nat.le_refl _,?_,rfl,.b⟩;intro i b hb;show(dropT m.b m.next (fv.move tgt m.next).pre).get i=some b
 rw[ysi fun c hc=>?_]
 ·exact hb
 ·rw[hp]at hc;obtain⟨c,hc',rfl⟩:=List.mem_map.1 hc;rw[c.ygl,hri c hc'];exact tgtLt c hc'
end Sh
end Go.Proofs.YtpngeppkgoaimaaGreatDoor

