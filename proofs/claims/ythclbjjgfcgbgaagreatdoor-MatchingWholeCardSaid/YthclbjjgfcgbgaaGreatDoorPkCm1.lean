/- Joined. -/
import Derived.Test.YthclbjjgfcgbgaaGreatDoorPkCm0
import Derived.Below
import Derived.ChangeKeysEq
import Derived.IntWalk
set_option linter.unusedSimpArgs false
set_option linter.unusedVariables false
open Go.Result renaming andThen_ok->zA
open Nat renaming le_of_ble_eq_true->zB,eq_of_beq_eq_true->zD,lt_of_lt_of_le->zL,add_assoc->zN,le_refl->zO,zero_add->zX,lt_succ_self->zZ,add_mul->zAA,div->zAB,mul_le_mul_right->zAC,le_trans->zAE,add_zero->zAF,min_eq_left->zAL,beq->zAN,succ_mul->zAO,add_comm->zAP,beq_refl->zAQ
open Go.Sem renaming run_bind->zC,run_pure->zG,run->zQ
open Bool renaming and_eq_true->zF,cond_eq_ite->zH,not_eq_true'->zV,or_eq_true->zAM
open List renaming getElem?_append_left->zI,getElem?_append_right->zJ,length_append->zK,eq_nil_of_length_eq_zero->zM,getElem?_drop->zT,all_cons->zU,extract_eq_take_drop->zW,getElem?_take->zAG,ext_getElem?->zAH,length_take->zAJ,length_drop->zAK
open Array renaming getElem?_setIfInBounds->zS,toList_map->zY,getElem?_push->zAD,range->zAI,map->zAR
open Int renaming ofNat->zAS
open Go
namespace Go.Proofs.YthclbjjgfcgbgaaGreatDoor
section
namespace Ev
section tables
variable {α:Type}
theorem yg{β:Type}{x:Option α}{k:α->Option β}{r:β}(h:ob x k=some r):∃a,x=some a/\k a=some r:=by
 cases x with
 |none=>cases h
 |some a=>exact⟨a,rfl,h⟩
theorem ybe{b:Bool}{t e:α}:iteB b t e=if b then t else e:=by cases b<;>rfl
theorem ybd{b:Bool}{t:Option α}{r:α}(h:iteB b t none=some r):b=true/\t=some r:=by
 cases b with
 |true=>exact⟨rfl,h⟩
 |false=>cases h
theorem ybp(n:Nat)(k:Nat->α):forceN n k=k n:=by cases n<;>rfl
theorem T.strict_eq{β:Type}(t:T α)(k:T α->β):T.strict t k=k t:=by cases t<;>rfl
theorem force_eq(v:Value)(k:Value->α):force v k=k v:=by
 unfold force;split<;>first|rfl|rw[ybp]
theorem T.get_leaf(n:Nat):(T.leaf:T α).get n=none:=rfl
theorem T.get_zero(v:Option α)(l r:T α):(T.node v l r).get 0=v:=rfl
theorem T.get_succ(v:Option α)(l r:T α)(k:Nat):(T.node v l r).get (k+1)=if even k then l.get (k/2)else r.get (k/2):=by
 show @Bool.rec (fun _=>Option α) (r.get (zAB k 2)) (l.get (zAB k 2)) (even k)=_;cases even k<;>rfl
theorem T.set_zero(t:T α)(n:Nat)(x:Option α):T.set 0 t n x = .leaf:=rfl
theorem T.set_leaf0(f:Nat)(x:Option α):T.set (f+1) .leaf 0 x = .node x .leaf .leaf:=rfl
theorem T.set_node0(f:Nat)(v:Option α)(l r:T α)(x:Option α):T.set (f+1) (.node v l r) 0 x = .node x l r:=rfl
theorem T.set_leaf(f k:Nat)(x:Option α):T.set (f+1) .leaf (k+1) x=if even k then .node none (T.set f .leaf (k/2) x) .leaf else .node none .leaf (T.set f .leaf (k/2) x):=by
 show @Bool.rec (fun _=>T α) (T.strict (T.set f .leaf (zAB k 2) x) fun r=>.node none .leaf r) (T.strict (T.set f .leaf (zAB k 2) x) fun l=>.node none l .leaf) (even k)=_;rw[T.strict_eq,T.strict_eq];cases even k<;>rfl
theorem T.set_node(f k:Nat)(v:Option α)(l r:T α)(x:Option α):T.set (f+1) (.node v l r) (k+1) x=if even k then .node v (T.set f l (k/2) x) r else .node v l (T.set f r (k/2) x):=by
 show @Bool.rec (fun _=>T α) (T.strict (T.set f r (zAB k 2) x) fun r=>.node v l r) (T.strict (T.set f l (zAB k 2) x) fun l=>.node v l r) (even k)=_;rw[T.strict_eq,T.strict_eq];cases even k<;>rfl
theorem ycg(k:Nat):even k=true↔k%2=0:=by
 unfold even;constructor
 .intro h;exact zD h
 .intro h;show zAN (k%2) 0=true;rw[h];rfl
theorem T.get_set:∀(f : Nat) (t:T α) (n:Nat) (x:Option α) (j:Nat) (y:α),(T.set f t n x).get j=some y->if j=n then x=some y else t.get j=some y
 |0,t,n,x,j,y,h=>by rw[T.set_zero,T.get_leaf]at h;cases h
 | f+1,.leaf,0,x,j,y,h=>by
   rw[T.set_leaf0]at h;cases j with
   |zero=>simpa[T.get_zero]using h
   |succ j=>rw[T.get_succ]at h;simp[T.get_leaf]at h
 | f+1,.node v l r,0,x,j,y,h=>by
   rw[T.set_node0]at h;cases j with
   |zero=>simpa[T.get_zero]using h
   |succ j=>rw[T.get_succ]at h;rw[if_neg (by omega),T.get_succ];exact h
 | f + 1,.leaf,k+1,x,j,y,h=>by
   rw[T.set_leaf]at h;cases j with
   |zero=>by_cases e:even k=true<;>simp[e,T.get_zero]at h
   | succ j =>
     by_cases e:even k=true
     .rw[if_pos e,T.get_succ]at h
      by_cases e':even j=true
      .rw[if_pos e']at h;have:=T.get_set f .leaf (k/2) x (j/2) y h;rw[T.get_leaf]at this;have ek:=(ycg k).1 e;have ej:=(ycg j).1 e'
       by_cases q:j/2=k/2
       .rw[if_pos q]at this;rw[if_pos (by omega)];exact this
       .rw[if_neg q]at this;cases this
      .rw[if_neg e',T.get_leaf]at h;cases h
     .rw[if_neg e,T.get_succ]at h
      by_cases e':even j=true
      .rw[if_pos e',T.get_leaf]at h;cases h
      .rw[if_neg e']at h;have:=T.get_set f .leaf (k/2) x (j/2) y h;rw[T.get_leaf]at this;have ek:=mt (ycg k).2 e;have ej:=mt (ycg j).2 e'
       by_cases q:j/2=k/2
       .rw[if_pos q]at this;rw[if_pos (by omega)];exact this
       .rw[if_neg q]at this;cases this
 | f + 1,.node v l r,k+1,x,j,y,h=>by
   rw[T.set_node]at h;cases j with
   |zero=>by_cases e:even k=true<;>simp[e,T.get_zero]at h<;>(rw[if_neg (by omega),T.get_zero];exact h)
   | succ j =>
     rw[T.get_succ]
     by_cases e:even k=true
     .rw[if_pos e,T.get_succ]at h;have ek:=(ycg k).1 e
      by_cases e':even j=true
      .rw[if_pos e']at h ⊢;have:=T.get_set f l (k/2) x (j/2) y h;have ej:=(ycg j).1 e'
       by_cases q:j/2=k/2
       .rw[if_pos q]at this;rw[if_pos (by omega)];exact this
       .rw[if_neg q]at this;rw[if_neg (by omega)];exact this
      .rw[if_neg e'] at h ⊢
       rw[if_neg (by intro q;have:j=k:=by omega
                     subst this;exact e' e)]
       exact h
     .rw[if_neg e,T.get_succ]at h;have ek:=mt (ycg k).2 e
      by_cases e':even j=true
      .rw[if_pos e'] at h ⊢
       rw[if_neg (by intro q;have:j=k:=by omega
                     subst this;exact e e')]
       exact h
      .rw[if_neg e']at h ⊢;have:=T.get_set f r (k/2) x (j/2) y h;have ej:=mt (ycg j).2 e'
       by_cases q:j/2=k/2
       .rw[if_pos q]at this;rw[if_pos (by omega)];exact this
       .rw[if_neg q]at this;rw[if_neg (by omega)];exact this
theorem T.get_sets:∀(l:List Value) (t:T Value) (i j:Nat) (y:Value),(T.sets t i l).get j=some y->if i<=j/\j<i+l.length then l[j-i]?=some y else t.get j=some y
 |[],t,i,j,y,h=>by rw[if_neg (by simp)];exact h
 | v :: l,t,i,j,y,h=>by
   unfold T.sets at h;rw[T.strict_eq]at h;have:=T.get_sets l _ _ j y h
   by_cases c:i+1<=j/\j<i+1+l.length
   .rw[if_pos (by exact c)]at this
    rw[if_pos (by simp;omega)]
    rw[show j-i=(j-(i+1))+1 by omega]
    simpa using this
   .rw[if_neg (by exact c)]at this
    have:=T.get_set _ _ _ _ _ _ this
    by_cases q:j=i
    .subst q;rw[if_pos rfl]at this;rw[if_pos (by simp)]
     simpa using this
    .rw[if_neg q]at this;rw[if_neg (by simp;omega)]
     exact this
theorem yko{l:List Value}{j:Nat}{y:Value}(h:(tOf l).get j=some y):l[j]?=some y:=by
 have:=T.get_sets l .leaf 0 j y h
 by_cases c:0<=j/\j<0+l.length
 .rw[if_pos c]at this;simpa using this
 .rw[if_neg c]at this;cases this
end tables
structure Loc where
 blk:Nat
 base:Nat
 size:Nat
 sz:Nat
 /-- What it is,if it is only read. -/
 ob:Option Obj
abbrev Phi:=Nat->Option Loc
def Phi.le(φ ψ:Phi):Prop:=∀i l,φ i=some l->ψ i=some l
theorem Phi.le_refl(φ:Phi):φ.le φ:=fun _ _ h=>h
theorem Phi.le_trans{φ ψ χ:Phi}(a:φ.le ψ)(b:ψ.le χ):φ.le χ:=fun i l h=>b i l (a i l h)
mutual
inductive VR (φ:Phi):Value->Value->Prop
 |simple {v:Value}(h:simple v=true):VR φ v v
 |ptr {b o:Nat}{l:Loc}(h:φ b=some l):VR φ (.pointer (some ⟨b,o,none⟩)) (.pointer (some ⟨l.blk,l.base+o,none⟩))
 | slice {b o n c c':Nat}{l:Loc}{A:Addr}(h:φ b=some l) (hn:n<=c') (hc:c≠CU->c'=c) (hm:c'<=9223372036854775807)
    (ha:(A=⟨l.blk,l.base+o,none⟩/\(l.sz=0\/l.base+o+c'*l.sz<=l.size))\/c'=0):VR φ (.slice (some ⟨b,o,none⟩) n c) (.slice (some A) n c')
 |map {b:Nat}{l:Loc}(h:φ b=some l):VR φ (.map (some b)) (.map (some l.blk))
 |func {g:FuncId}{a a' c c':List Value}(ha:VRL φ a a') (hc:VRL φ c c'):VR φ (.func (.func g) a.toArray c.toArray) (.func (.func g) a'.toArray c'.toArray)
 |agg {a a':List Value}(ha:VRL φ a a'):VR φ (.agg a.toArray) (.agg a'.toArray)
 |tuple {a a':List Value}(ha:VRL φ a a'):VR φ (.tuple a.toArray) (.tuple a'.toArray)
inductive VRL (φ:Phi):List Value->List Value->Prop
 |nil:VRL φ [] []
 |cons {v v':Value}{l l':List Value}(h:VR φ v v') (hl:VRL φ l l'):VRL φ (v::l) (v'::l')
end
mutual
theorem VR.mono{φ ψ:Phi}(hle:φ.le ψ):∀{v v':Value},VR φ v v'->VR ψ v v'
 |_,_,.simple h=>.simple h
 |_,_,.ptr h=>.ptr (hle _ _ h)
 |_,_,.slice h a b c d=>.slice (hle _ _ h) a b c d
 |_,_,.map h=>.map (hle _ _ h)
 |_,_,.func a b=>.func (VRL.mono hle a) (VRL.mono hle b)
 |_,_,.agg a=>.agg (VRL.mono hle a)
 |_,_,.tuple a=>.tuple (VRL.mono hle a)
theorem VRL.mono{φ ψ:Phi}(hle:φ.le ψ):∀{v v':List Value},VRL φ v v'->VRL ψ v v'
 |_,_,.nil=>.nil
 |_,_,.cons a b=>.cons (VR.mono hle a) (VRL.mono hle b)
end
section vrl
variable {φ:Phi}
theorem VRL.length:∀{l l':List Value},VRL φ l l'->l.length=l'.length
 |_,_,.nil=>rfl
 |_,_,.cons _ b=>by simp[VRL.length b]
theorem VRL.get:∀{l l':List Value},VRL φ l l'->∀{i:Nat}{v:Value},l[i]?=some v->∃v',l'[i]?=some v'/\VR φ v v'
 |_,_,.nil,i,v,h=>by simp at h
 |_,_,.cons a b,0,v,h=>by simp at h;subst h;exact⟨_,rfl,a⟩
 |_,_,.cons a b,i+1,v,h=>by simpa using VRL.get b (by simpa using h)
theorem VRL.append:∀{l l' k k':List Value},VRL φ l l'->VRL φ k k'->VRL φ (l++k) (l'++k')
 |_,_,_,_,.nil,h=>h
 |_,_,_,_,.cons a b,h=>.cons a (b.append h)
theorem VRL.drop:∀{l l':List Value},VRL φ l l'->∀(n:Nat),VRL φ (l.drop n) (l'.drop n)
 |_,_,h,0=>by simpa using h
 |_,_,.nil,n+1=>by simpa using VRL.nil
 |_,_,.cons _ b,n+1=>by simpa using b.drop n
theorem VRL.take:∀{l l':List Value},VRL φ l l'->∀(n:Nat),VRL φ (l.take n) (l'.take n)
 |_,_,_,0=>by simpa using VRL.nil
 |_,_,.nil,n+1=>by simpa using VRL.nil
 |_,_,.cons a b,n+1=>by simpa using VRL.cons a (b.take n)
theorem VRL.simple:∀{l:List Value},l.all Ev.simple=true->VRL φ l l
 |[],_=>.nil
 | v::l,h=>by
   simp only[zU,zF]at h;exact .cons (.simple h.1) (VRL.simple h.2)
theorem VR.atomA{v:Value}(h:atomA v=true):VR φ v v:=by
 unfold Ev.atomA at h;split at h
 .rename_i cs
  have:=VR.agg (VRL.simple (φ:=φ) h)
  simpa using this
 .exact .simple h
theorem VR.eq_simple{v v':Value}(h:VR φ v v')(hs:Ev.simple v=true):v'=v:=by
 cases h<;>first|rfl|(simp[Ev.simple]at hs)
theorem VRL.eq_simple:∀{l l':List Value},VRL φ l l'->l.all Ev.simple=true->l'=l
 |_,_,.nil,_=>rfl
 | _,_,.cons a b,h=>by
   simp only[zU,zF]at h;rw[a.eq_simple h.1,b.eq_simple h.2]
theorem VR.eq_atomA{v v':Value}(h:VR φ v v')(hs:Ev.atomA v=true):v'=v:=by
 cases h with
 |agg ha=>simp[Ev.atomA]at hs;rw[ha.eq_simple (by simpa using hs)]
 |simple _=>rfl
 |_=>simp[Ev.atomA,Ev.simple]at hs
theorem VR.cells{v v':Value}(h:VR φ v v'):VRL φ v.cells.toList v'.cells.toList:=by
 cases h with
 |agg ha=>simpa[Value.cells]using ha
 | simple h =>
   have:v.cells = #[v]:=by
    cases v<;>first|rfl|(simp[Ev.simple]at h)
   rw[this];exact .cons (.simple h) .nil
 |ptr h=>exact .cons (.ptr h) .nil
 |slice a b c d e=>exact .cons (.slice a b c d e) .nil
 |map a=>exact .cons (.map a) .nil
 |func a b=>exact .cons (.func a b) .nil
 |tuple a=>exact .cons (.tuple a) .nil
end vrl
def BR(φ:Phi)(l:Loc)(w:World):ABlk->Prop
 | .cells c n elem sz=>l.sz=sz/\l.base+n<=l.size/\∃(cs:List Value) (e:Nat) (fz:Nat×Nat),((elem≠CU->e=elem/\fz=(0,0)/\l.ob=none)/\∀o,l.ob=some o->w.heap[l.blk]?=some o)/\w.heap[l.blk]?=some (.cells cs.toArray e fz)/\cs.length=l.size /\
    ∀j v,j<n->c.get j=some v->∃v',cs[l.base+j]?=some v'/\VR φ v v'
 |.map es cl=>w.heap[l.blk]?=some (.map es cl)
abbrev AM:=Nat->Option ABlk
def Img(φ:Phi)(M:AM)(k:Nat):Prop:=∃i b l,M i=some b/\φ i=some l/\l.blk=k
def ybef:List Value:=([0,1,28,2,29,14,24,3,30,22,20,15,25,17,4,8,31,27,13,23,21,19,16,7,26,12,18,6,11,5,10,9]:List Int).map fun n=>.int .u8 n
def ycks:Option (Nat×List Value):=some (0,ybef)
def Gl(φ:Phi)(M:AM)(w:World):Prop:=∀x,ycks=some x->(∃e fz,w.heap[x.1]?=some (.cells x.2.toArray e fz))/\¬Img φ M x.1
def GlW(w:World):Prop:=∀x,ycks=some x->∃e fz,w.heap[x.1]?=some (.cells x.2.toArray e fz)
structure Rel0(φ:Phi)(M:AM)(w:World):Prop where
 blk:∀i b,M i=some b->∃l,φ i=some l/\BR φ l w b
 inj:∀i j x y li lj,i≠j->M i=some x->M j=some y->φ i=some li->φ j=some lj->li.blk≠lj.blk
structure Rel(φ:Phi)(M:AM)(w:World):Prop extends Rel0 φ M w where
 gl:Gl φ M w
theorem BR.mono{φ ψ:Phi}(h:φ.le ψ){l:Loc}{w:World}{b:ABlk}(hb:BR φ l w b):BR ψ l w b:=by
 cases b with
 |map es cl=>exact hb
 | cells c n e s =>
   obtain⟨h1,h2,cs,e',fz,h0,h3,h4,h5⟩:=hb;refine⟨h1,h2,cs,e',fz,h0,h3,h4,fun j v hj hv=>?_⟩;obtain⟨v',a,b⟩:=h5 j v hj hv;exact⟨v',a,b.mono h⟩
theorem BR.lt{φ:Phi}{l:Loc}{w:World}{b:ABlk}(hb:BR φ l w b):l.blk<w.heap.size:=by
 cases b with
 |map es cl=>exact(Array.getElem?_eq_some_iff.1 hb).1
 | cells c n e s =>
   obtain⟨_,_,cs,_,_,_,h3,_⟩:=hb;exact(Array.getElem?_eq_some_iff.1 h3).1
theorem BR.keep{φ:Phi}{l:Loc}{w w':World}{b:ABlk}(hb:BR φ l w b)(h:w'.heap[l.blk]?=w.heap[l.blk]?):BR φ l w' b:=by
 cases b with
 |map es cl=>exact h.trans hb
 | cells c n e s =>
   obtain⟨h1,h2,cs,e',fz,h0,h3,h4,h5⟩:=hb;exact⟨h1,h2,cs,e',fz,⟨h0.1,fun o ho=>h.trans (h0.2 o ho)⟩,h.trans h3,h4,h5⟩
theorem Rel.sub{φ:Phi}{M N:AM}{w:World}(h:Rel φ M w)(hs:∀i b,N i=some b->M i=some b):Rel φ N w :=
 ⟨⟨fun i b hb=>h.blk i b (hs i b hb),fun i j x y li lj hne hx hy=>h.inj i j x y li lj hne (hs i x hx) (hs j y hy)⟩,
  fun x hx=>⟨(h.gl x hx).1,fun⟨i,b,l,h1,h2,h3⟩=>(h.gl x hx).2 ⟨i,b,l,hs i b h1,h2,h3⟩⟩⟩
theorem Rel.keep{φ:Phi}{M:AM}{w w':World}(h:Rel φ M w)(hk:∀k,k<w.heap.size->w'.heap[k]?=w.heap[k]?):Rel φ M w' :=
 ⟨⟨fun i b hb=>by obtain⟨l,h1,h2⟩:=h.blk i b hb;exact⟨l,h1,h2.keep (hk _ h2.lt)⟩,h.inj⟩,
  fun x hx=>by
   obtain⟨⟨e,fz,h1⟩,h2⟩:=h.gl x hx;exact⟨⟨e,fz,(hk _ (Array.getElem?_eq_some_iff.1 h1).1).trans h1⟩,h2⟩⟩
structure WG(φ:Phi)(M:AM)(w:World)(φ':Phi)(M':AM)(w':World):Prop where
 os:w'.os=w.os
 tape:w'.tape=w.tape
 output:w'.output=w.output
 size:w.heap.size<=w'.heap.size
 keep:∀k,k<w.heap.size->¬Img φ M k->w'.heap[k]?=w.heap[k]?
 img:∀k,k<w.heap.size->Img φ' M' k->Img φ M k
theorem Gl.step{φ φ':Phi}{M M':AM}{w w':World}(h:Gl φ M w)(g:WG φ M w φ' M' w'):Gl φ' M' w':=fun x hx=>by
 obtain⟨⟨e,fz,h1⟩,h2⟩:=h x hx;have hlt:=(Array.getElem?_eq_some_iff.1 h1).1;exact⟨⟨e,fz,(g.keep _ hlt h2).trans h1⟩,fun q=>h2 (g.img _ hlt q)⟩
theorem Rel0.step{φ φ':Phi}{M M':AM}{w w':World}(h:Rel φ M w)(g:Rel0 φ' M' w'/\WG φ M w φ' M' w'):Rel φ' M' w'/\WG φ M w φ' M' w':=⟨⟨g.1,h.gl.step g.2⟩,g.2⟩
theorem WG.refl(φ:Phi)(M:AM)(w:World):WG φ M w φ M w:=⟨rfl,rfl,rfl,zO _,fun _ _ _=>rfl,fun _ _ h=>h⟩
theorem WG.trans{φ₀ φ₁ φ₂:Phi}{M₀ M₁ M₂:AM}{w₀ w₁ w₂:World}(a:WG φ₀ M₀ w₀ φ₁ M₁ w₁)(b:WG φ₁ M₁ w₁ φ₂ M₂ w₂):WG φ₀ M₀ w₀ φ₂ M₂ w₂ :=
 ⟨b.os.trans a.os,b.tape.trans a.tape,b.output.trans a.output,zAE a.size b.size,
  fun k hk hn=>(b.keep k (zL hk a.size) (fun h=>hn (a.img k hk h))).trans (a.keep k hk hn),
  fun k hk h=>a.img k hk (b.img k (zL hk a.size) h)⟩
theorem WG.sub{φ φ':Phi}{M M' N:AM}{w w':World}(a:WG φ M w φ' M' w')(hs:∀i b,N i=some b->M' i=some b):WG φ M w φ' N w' :=
 ⟨a.os,a.tape,a.output,a.size,a.keep,fun k hk ⟨i,b,l,h1,h2,h3⟩=>a.img k hk ⟨i,b,l,hs i b h1,h2,h3⟩⟩
end Ev
end
section
namespace Ev
def upd(M:AM)(i:Nat)(x:Option ABlk):AM:=fun j=>if j=i then x else M j
def appM(M:AM)(next:Nat):Eff->AM
 |.none=>M
 |.new b=>upd M next (some b)
 |.upd i b=>upd M i (some b)
 |.move i b=>upd (upd M i none) next (some b)
def Eff.adds:Eff->Bool
 |.new _=>true
 |.move _ _=>true
 |_=>false
def NV(φ:Phi)(v:Value):Next->Prop
 |.value v'=>VR φ v v'
 |.skip=>v=undef
 |_=>False
def OpOk(P:Program)(s:Sem Next)(φ:Phi)(M:AM)(w:World)(next:Nat)(v:Value)(e:Eff):Prop :=
 ∃ φ' w' nx,s.run P w = .ok nx w'/\NV φ' v nx/\φ.le φ'/\(∀i,i≠next->φ' i=φ i)/\(e.adds=false->φ'=φ) /\
   Rel φ' (appM M next e) w'/\WG φ M w φ' (appM M next e) w'
section
variable {P:Program}{s:Sem Next}{φ:Phi}{M:AM}{w:World}{next:Nat}{v:Value}
theorem OpOk.value{v':Value}(hR:Rel φ M w)(hr:s.run P w = .ok (.value v') w)(hv:VR φ v v'):OpOk P s φ M w next v .none :=
 ⟨φ,w,.value v',hr,hv,φ.le_refl,fun _ _=>rfl,fun _=>rfl,hR,WG.refl _ _ _⟩
def ygz(φ:Phi)(i:Nat)(l:Loc):Phi:=fun j=>if j=i then some l else φ j
theorem yjh{i:Nat}{l:Loc}(h:φ i=none):φ.le (ygz φ i l):=fun j x hx=>by
 unfold ygz
 by_cases e:j=i
 .subst e;rw[h]at hx;cases hx
 .rw[if_neg e];exact hx
theorem ycj(i:Nat)(l:Loc):ygz φ i l i=some l:=by simp[ygz]
theorem ydd{i j:Nat}(l:Loc)(h:j≠i):ygz φ i l j=φ j:=by simp[ygz,h]
theorem ynh(w:World)(o:Obj){k:Nat}(h:k<w.heap.size):(w.alloc o).heap[k]?=w.heap[k]?:=by
 show(w.heap.push o)[k]?=_;rw[zAD,if_neg (Nat.ne_of_lt h)]
theorem yjx(w:World)(o:Obj):(w.alloc o).heap[w.heap.size]?=some o:=by
 show(w.heap.push o)[w.heap.size]?=_;rw[zAD,if_pos rfl]
theorem Rel.new(hR:Rel φ M w)(hf:φ next=none){o:Obj}{l:Loc}{b:ABlk}(hl:l.blk=w.heap.size)(hb:BR (ygz φ next l) l (w.alloc o) b) :
 Rel (ygz φ next l) (upd M next (some b)) (w.alloc o)/\WG φ M w (ygz φ next l) (upd M next (some b)) (w.alloc o):=by
 have hle:=yjh (l:=l) hf
 have old:∀i x,i≠next->M i=some x->∃li,φ i=some li/\li.blk<w.heap.size/\BR (ygz φ next l) li (w.alloc o) x:=fun i x hi hx=>by
  obtain⟨li,h1,h2⟩:=hR.blk i x hx;exact⟨li,h1,h2.lt,(h2.mono hle).keep (ynh w o h2.lt)⟩
 refine Rel0.step hR ⟨⟨fun i x hx=>?_,fun i j x y li lj hne hx hy hi hj=>?_⟩,⟨rfl,rfl,rfl,by simp,fun k hk _=>ynh w o hk,fun k hk h=>?_⟩⟩
 .unfold upd at hx
  by_cases e:i=next
  .subst e;rw[if_pos rfl]at hx;cases hx;exact⟨l,ycj _ _,hb⟩
  .rw[if_neg e]at hx;obtain⟨li,h1,_,h3⟩:=old i x e hx;exact⟨li,by rw[ydd l e];exact h1,h3⟩
 .unfold upd at hx hy
  by_cases e:i=next
  .subst e;rw[ycj]at hi;cases hi
   have e2:j≠i:=fun q=>hne q.symm;rw[if_neg e2]at hy;obtain⟨lj',h1,h2,_⟩:=old j y e2 hy;rw[ydd l e2,h1]at hj;cases hj
   omega
  .rw[if_neg e]at hx;obtain⟨li',h1,h2,_⟩:=old i x e hx;rw[ydd l e,h1]at hi;cases hi
   by_cases e2:j=next
   .subst e2;rw[ycj]at hj;cases hj;omega
   .rw[if_neg e2]at hy;rw[ydd l e2]at hj;exact hR.inj i j x y _ _ hne hx hy h1 hj
 .obtain⟨i,x,li,hx,hi,hk'⟩:=h;unfold upd at hx
  by_cases e:i=next
  .subst e;rw[ycj]at hi;cases hi;omega
  .rw[if_neg e]at hx;rw[ydd l e]at hi;exact⟨i,x,li,hx,hi,hk'⟩
theorem BR.row {φ:Phi}{l:Loc}{w:World}{elem sz:Nat}{cs cs':List Value}(hv:VRL φ cs cs') {rest:List Value}(hw:w.heap[l.blk]?=some (.cells (cs'++rest).toArray elem (0,0)))
 (h0:l.base=0) (hs:l.size=cs'.length+rest.length) (hz:l.sz=sz) (hob:l.ob=none):BR φ l w (.cells (tOf cs) cs.length elem sz):=by
 refine⟨hz,by rw[h0,hs,hv.length];omega,cs'++rest,elem,(0,0),⟨fun _=>⟨rfl,rfl,hob⟩,fun o ho=>(by rw[hob]at ho;cases ho)⟩,hw,by simp[hs],fun j v hj hg=>?_⟩
 obtain⟨v',h1,h2⟩:=hv.get (yko hg);refine⟨v',?_,h2⟩;rw[h0,zX,zI (by rw[<-hv.length];exact hj)]
 exact h1
theorem OpOk.row (hR:Rel φ M w) (hf:φ next=none) {elem sz:Nat}{cs cs':List Value}(hc:VRL φ cs cs') {v':Value}
 (hr:s.run P w = .ok (.value v') (w.alloc (.cells cs'.toArray elem)))
 (hv:VR (ygz φ next ⟨w.heap.size,0,cs.length,sz,none⟩) v v'):OpOk P s φ M w next v (.new (rowBlk elem sz cs)):=by
 have hle:=yjh (l:=⟨w.heap.size,0,cs.length,sz,none⟩) hf
 have:=hR.new (l:=⟨w.heap.size,0,cs.length,sz,none⟩) (b:=rowBlk elem sz cs) (o:=.cells cs'.toArray elem) hf rfl
  (BR.row (rest:=[]) (hc.mono hle) (by rw[List.append_nil];exact yjx w _) rfl (by simp[hc.length]) rfl rfl)
 exact⟨_,_,.value v',hr,hv,hle,fun i hi=>ydd _ hi,fun h=>(by cases h),this.1,this.2⟩
theorem T.sets_get{c:T Value}{i j:Nat}{l:List Value}{y:Value}(h:(T.sets c i l).get j=some y):(i<=j/\j<i+l.length/\l[j-i]?=some y)\/(¬(i<=j/\j<i+l.length)/\c.get j=some y):=by
 have:=T.get_sets l c i j y h
 by_cases q:i<=j/\j<i+l.length
 .rw[if_pos q]at this;exact .inl ⟨q.1,q.2,this⟩
 .rw[if_neg q]at this;exact .inr ⟨q,this⟩
theorem Rel.setRow(hR:Rel φ M w){i:Nat}{b b':ABlk}{l:Loc}{cs:Array Value}(hb:M i=some b)(hl:φ i=some l)(hb':BR φ l (w.setRow l.blk cs) b') :
 Rel φ (upd M i (some b')) (w.setRow l.blk cs)/\WG φ M w φ (upd M i (some b')) (w.setRow l.blk cs):=by
 refine Rel0.step hR ⟨⟨fun j x hx=>?_,fun j k x y lj lk hne hx hy hj hk=>?_⟩,⟨rfl,rfl,rfl,by simp,fun k hk hn=>setRow_other w _ _ _ (fun e=>hn ⟨i,b,l,hb,hl,e.symm⟩),fun k hk h=>?_⟩⟩
 .unfold upd at hx
  by_cases e:j=i
  .subst e;rw[if_pos rfl]at hx;cases hx;exact⟨l,hl,hb'⟩
  .rw[if_neg e]at hx;obtain⟨lj,h1,h2⟩:=hR.blk j x hx;exact⟨lj,h1,h2.keep (setRow_other w _ _ _ (hR.inj j i x b lj l e hx hb h1 hl))⟩
 .unfold upd at hx hy
  by_cases e:j=i
  .subst e;rw[if_neg (fun q=>hne q.symm)]at hy;exact hR.inj j k b y lj lk hne hb hy hj hk
  .rw[if_neg e]at hx
   by_cases e2:k=i
   .subst e2;exact hR.inj j k x b lj lk hne hx hb hj hk
   .rw[if_neg e2]at hy;exact hR.inj j k x y lj lk hne hx hy hj hk
 .obtain⟨j,x,lj,hx,hj,hk'⟩:=h;unfold upd at hx
  by_cases e:j=i
  .subst e;exact⟨j,b,lj,hb,hj,hk'⟩
  .rw[if_neg e]at hx;exact⟨j,x,lj,hx,hj,hk'⟩
theorem yfm{α:Type}(cur vs:List α)(p q:Nat)(h:p+vs.length<=cur.length) :
 (cur.take p++vs++cur.drop (p+vs.length))[q]?=if p<=q/\q<p+vs.length then vs[q-p]? else cur[q]?:=by
 by_cases c:q<p
 .rw[List.append_assoc,zI (by simp;omega),List.getElem?_take_of_lt c,if_neg (by omega)]
 .by_cases d:q<p+vs.length
  .rw[zI (by simp;omega),zJ (by simp;omega),if_pos (by omega)]
   simp[zAL (show p<=cur.length by omega)]
  .rw[zJ (by simp;omega),zT,if_neg (by omega)]
   congr 1;simp[zAL (show p<=cur.length by omega)]
   omega
theorem BR.write {l:Loc}(hob:l.ob=none) {c:T Value}{n o elem sz:Nat}{new new' cs:List Value}(hw:w.heap[l.blk]?=some (.cells cs.toArray elem (0,0))) (hsz:l.sz=sz) (hn:l.base+n<=l.size) (hlen:cs.length=l.size)
 (hc:∀j v,j<n->c.get j=some v->∃v',cs[l.base+j]?=some v'/\VR φ v v') (hv:VRL φ new new') (ho:o+new.length<=n) :
 BR φ l (w.setRow l.blk (cs.take (l.base+o)++new'++cs.drop (l.base+o+new'.length)).toArray) (.cells (T.sets c o new) n elem sz):=by
 have hl:=hv.length;refine⟨hsz,hn,_,elem,(0,0),⟨fun _=>⟨rfl,rfl,hob⟩,fun o ho=>(by rw[hob]at ho;cases ho)⟩,setRow_heap w _ _ _ elem _ hw,by simp;omega,fun j v hj hg=>?_⟩
 rw[yfm cs new' (l.base+o) (l.base+j) (by omega)]
 rcases T.sets_get hg with⟨h1,h2,h3⟩|⟨h1,h2⟩
 .rw[if_pos (by omega),show l.base+j-(l.base+o)=j-o by omega]
  exact hv.get h3
 .rw[if_neg (by omega)]
  exact hc j v hj h2
theorem yhg{φ:Phi}:∀{l l':List Value},VRL φ l l'->allGood l=true->∀v∈l',v.oneCell'=true
 |_,_,.nil,_=>by simp
 | _,_,.cons (v:=v) (v':=v') (l:=l₀) a b,h=>by
   have hv:v'.oneCell'=true/\allGood l₀=true:=by
    cases a with
    |agg _=>simp[allGood]at h
    |tuple _=>simp[allGood]at h
    |simple hs=>cases v<;>simp_all [allGood,Value.oneCell',Ev.simple]
    |ptr _=>exact⟨rfl,by simpa[allGood]using h⟩
    |slice _ _ _ _ _=>exact⟨rfl,by simpa[allGood]using h⟩
    |map _=>exact⟨rfl,by simpa[allGood]using h⟩
    |func _ _=>exact⟨rfl,by simpa[allGood]using h⟩
   intro u hu;rcases List.mem_cons.1 hu with rfl|hu
   .exact hv.1
   .exact yhg b hv.2 u hu
end
theorem Rel.cellsAt{φ:Phi}{M:AM}{w:World}(hR:Rel φ M w){i:Nat}{c:T Value}{n e z:Nat}(h:M i=some (.cells c n e z)) :
 ∃ (l:Loc) (cs:List Value) (e':Nat) (fz:Nat×Nat),φ i=some l/\l.sz=z/\l.base+n<=l.size/\(e≠CU->e'=e/\fz=(0,0)/\l.ob=none)/\w.heap[l.blk]?=some (.cells cs.toArray e' fz)/\cs.length=l.size /\
   ∀j v,j<n->c.get j=some v->∃v',cs[l.base+j]?=some v'/\VR φ v v':=by
 obtain⟨l,h1,h2,h3,cs,e',fz,h0,h4,h5,h6⟩:=hR.blk i _ h;exact⟨l,cs,e',fz,h1,h2,h3,h0.1,h4,h5,h6⟩
theorem addr_add(b o i:Nat):(⟨b,o,none⟩:Addr).add i=⟨b,o+i,none⟩:=by
 unfold Addr.add;split
 .subst_vars;rfl
 .rfl
theorem cell_of{w:World}{b e o:Nat}{fz:Nat×Nat}{cs:List Value}{v:Value}(h:w.heap[b]?=some (.cells cs.toArray e fz))(hv:cs[o]?=some v):w.cell? ⟨b,o,none⟩=some v:=by
 simp[World.cell?,h,hv]
theorem yeh{c:T Value}:∀{n o:Nat}{l:List Value},getCells c o n=some l->l.length=n/\∀j,j<n->∃v,c.get (o+j)=some v/\l[j]?=some v
 |0,o,l,h=>by simp[getCells]at h;subst h;exact⟨rfl,fun j hj=>absurd hj (Nat.not_lt_zero _)⟩
 | n + 1,o,l,h=>by
   unfold getCells at h;split at h
   .cases h
   .rename_i v hv
    split at h
    .cases h
    .rename_i r hr
     cases h
     obtain⟨h1,h2⟩:=yeh hr;refine⟨by simp[h1],fun j hj=>?_⟩
     cases j with
     |zero=>exact⟨v,hv,rfl⟩
     | succ j =>
       obtain⟨u,a,b⟩:=h2 j (by omega)
       exact⟨u,by rw[show o+(j+1)=o+1+j by omega];exact a,by simpa using b⟩
theorem cellsRead {φ:Phi}{c:T Value}{n o k base:Nat}{cs l:List Value}(hc:∀j v,j<n->c.get j=some v->∃v',cs[base+j]?=some v'/\VR φ v v')
 (hg:getCells c o k=some l) (hn:o+k<=n):∃l',VRL φ l l'/\∀j v,l'[j]?=some v->cs[base+o+j]?=some v:=by
 induction k generalizing o l with
 |zero=>simp[getCells]at hg;subst hg;exact⟨[],.nil,by simp⟩
 | succ k ih =>
   unfold getCells at hg;split at hg
   .cases hg
   .rename_i v hv
    split at hg
    .cases hg
    .rename_i r hr
     cases hg
     obtain⟨l',h1,h2⟩:=ih hr (by omega)
     obtain⟨v',h3,h4⟩:=hc o v (by omega) hv
     refine⟨v'::l',.cons h4 h1,fun j u hu=>?_⟩;cases j with
     |zero=>simp at hu;subst hu;exact h3
     |succ j=>rw[show base+o+(j+1)=base+(o+1)+j by omega];exact h2 j u (by simpa using hu)
end Ev
end
section
namespace Ev
def OV(φ:Phi)(f:Fr)(o:Oper)(ρ:Operand->Value):Prop:=∀x∈o.op.operands,∀v,f.get x=some v->VR φ v (ρ x)
section
variable {P:Program}{φ:Phi}{M:AM}{w:World}{f:Fr}{o:Oper}{m:Mem}{r:R}{ρ:Operand->Value}
theorem ydx:∀{l:List Operand}{vs:List Value},valsA f l=some vs->(∀x∈l,∀v,f.get x=some v->VR φ v (ρ x))->VRL φ vs (l.map ρ)
 |[],vs,h,_=>by simp[valsA]at h;subst h;exact .nil
 | x :: l,vs,h,hv=>by
   unfold valsA at h;split at h
   .cases h
   .rename_i v hx
    split at h
    .cases h
    .rename_i us hu
     cases h
     exact .cons (hv x (by simp) v hx) (ydx hu fun y hy=>hv y (by simp[hy]))
inductive PRL (φ:Phi):List (Nat×Value)->List (Nat×Value)->Prop
 |nil:PRL φ [] []
 |cons {i:Nat}{v v':Value}{l l':List (Nat×Value)}(h:VR φ v v') (hl:PRL φ l l'):PRL φ ((i,v)::l) ((i,v')::l')
theorem ymh:∀{l:List (Nat×Operand)}{vs:List (Nat×Value)},partsA f l=some vs->(∀x∈l.map (·.2),∀v,f.get x=some v->VR φ v (ρ x))->PRL φ vs (l.map fun p=>(p.1,ρ p.2))
 |[],vs,h,_=>by simp[partsA]at h;subst h;exact .nil
 | (i,x)::l,vs,h,hv=>by
   unfold partsA at h;split at h
   .cases h
   .rename_i v hx
    split at h
    .cases h
    .rename_i us hu
     cases h
     exact .cons (hv x (by simp) v hx) (ymh hu fun y hy=>hv y (by simp at hy ⊢;exact .inr hy))
theorem yxd:∀(l:List Value) (k off:Nat) (cells:Array Value),off+k+l.length<=cells.size ->
 ((l.zipIdx k).foldl (fun(cs:Array Value) (p:Value×Nat)=>cs.setIfInBounds (off+p.2) p.1) cells).toList=cells.toList.take (off+k)++l++cells.toList.drop (off+k+l.length)
 |[],k,off,cells,_=>by simp
 | v :: l,k,off,cells,h=>by
   have hlt:off+k<cells.size:=by simp at h;omega
   rw[List.zipIdx_cons,List.foldl_cons,yxd l (k+1) off _ (by simp at h ⊢;omega)]
   apply zAH;intro q;have e1:=yfm (cells.setIfInBounds (off+k) v).toList l (off+(k+1)) q (by simp at h ⊢;omega)
   have e2:=yfm cells.toList (v::l) (off+k) q (by simp at h ⊢;omega)
   rw[e1,e2];simp only[List.length_cons,Array.getElem?_toList]
   by_cases c:off+(k+1)<=q/\q<off+(k+1)+l.length
   .rw[if_pos c,if_pos (by omega),show q-(off+k)=(q-(off+(k+1)))+1 by omega,List.getElem?_cons_succ]
   .rw[if_neg c]
    by_cases d:q=off+k
    .subst d;rw[if_pos (by omega)]
     simp[hlt]
    .rw[if_neg (by omega),zS,if_neg (by omega)]
theorem ykt{place:Nat->Option (Nat×Nat)}:∀{ps ps':List (Nat×Value)},PRL φ ps ps'->∀{cells cells':List Value},VRL φ cells cells'->∀{l:List Value},fillA place cells ps=some l ->
 ∃l',Instr.fill place cells'.toArray ps'=some l'.toArray/\VRL φ l l'
 |_,_,.nil,cells,cells',hc,l,h=>by simp[fillA]at h;subst h;exact⟨cells',rfl,hc⟩
 | _,_,.cons (i:=i) (v:=v) (v':=v') hv hl,cells,cells',hc,l,h=>by
   unfold fillA at h;split at h
   .cases h
   .rename_i off size hp
    simp only at h;rw[zH]at h;split at h
    .rename_i hcond
     simp only[zF]at hcond;obtain⟨⟨h1,h2⟩,h3⟩:=hcond;have h1:=zD h1;have h2:=zB h2;have hvc:=hv.cells;have hlen:=hvc.length;have hcl:=hc.length;have hsz:v'.cells.size=size:=by rw[<-h1,hlen];simp
     have key:(v'.cells.zipIdx.foldl (fun(cs:Array Value) (p:Value×Nat)=>cs.setIfInBounds (off+p.2) p.1) cells'.toArray).toList=cells'.take off++v'.cells.toList++cells'.drop (off+size):=by
      rw[<-Array.foldl_toList,Array.toList_zipIdx,yxd v'.cells.toList 0 off _ (by simp;omega)]
      simp[hsz]
     obtain⟨l',e1,e2⟩:=ykt hl (((hc.take off).append hvc).append (hc.drop (off+size))) h;refine⟨l',?_,e2⟩;unfold Instr.fill;simp only[hp];rw[if_neg (by simp;omega)]
     rw[<-e1];congr 1;rw[<-key]
    .cases h
end
end Ev
end
section
namespace Ev
theorem yjt{α:Type}(P:Program):∀(s:Sem α) (a:α),runPure P s=some a->∀w,s.run P w = .ok a w
 |.pure _,a,h,w=>by simp[runPure]at h;subst h;rfl
 | .program k,a,h,w=>by
   unfold runPure at h;show(k P).run P w=_;exact yjt P (k P) a h w
 |.load ..,_,h,_=>by simp[runPure]at h
 |.store ..,_,h,_=>by simp[runPure]at h
 |.new ..,_,h,_=>by simp[runPure]at h
 |.shape ..,_,h,_=>by simp[runPure]at h
 |.freeze ..,_,h,_=>by simp[runPure]at h
 |.frozen ..,_,h,_=>by simp[runPure]at h
 |.getObj ..,_,h,_=>by simp[runPure]at h
 |.setObj ..,_,h,_=>by simp[runPure]at h
 |.choose ..,_,h,_=>by simp[runPure]at h
 |.sys ..,_,h,_=>by simp[runPure]at h
 |.mark ..,_,h,_=>by simp[runPure]at h
 |.halt ..,_,h,_=>by simp[runPure]at h
section
variable {P:Program}{φ:Phi}{M:AM}{w:World}{f:Fr}{o:Oper}{m:Mem}{r:R}{ρ:Operand->Value}{next:Nat}
theorem ybee:∀{l:List Operand}{vs:List Value},valsA f l=some vs->vs.all atomA=true->∀x∈l,∃v,f.get x=some v/\atomA v=true
 |[],_,_,_=>by simp
 | x :: l,vs,h,ha=>by
   unfold valsA at h;split at h
   .cases h
   .rename_i v hx
    split at h
    .cases h
    .rename_i us hu
     cases h
     simp only[zU,zF]at ha;intro y hy;rcases List.mem_cons.1 hy with rfl|hy
     .exact⟨v,hx,ha.1⟩
     .exact ybee hu ha.2 y hy
theorem ymv(hs:∀cs b,o.op ≠ .select cs b)(h:pureA P f o=some r)(hR:Rel φ M w)(hv:OV φ f o ρ):OpOk P (execOp ρ o) φ M w next r.v r.e:=by
 unfold pureA at h;split at h
 .cases h
 .rename_i vs hvs
  rw[zH]at h;split at h
  .rename_i hat
   split at h
   .rename_i v hrun
    rw[zH]at h;split at h
    .rename_i hav
     cases h
     have hcong:execOp ρ o=execOp (fun x=>(f.get x).getD undef) o:=execOp_congr o hs fun x hx=>by
      obtain⟨u,hu,ha⟩:=ybee hvs hat x (by simpa using hx)
      rw[hu];exact(hv x hx u hu).eq_atomA ha
     refine OpOk.value hR (v':=v) ?_ (VR.atomA hav);rw[hcong];exact yjt P _ _ hrun w
    .cases h
   .cases h
  .cases h
theorem yfl{v:Value}(h:val v=some r):r=⟨v,.none,[]⟩:=by simp[val]at h;exact h.symm
theorem ycdw{x:Operand}(hop:o.op = .move x\/o.op = .assign x)(h:ob (f.get x) val=some r)(hR:Rel φ M w)(hv:OV φ f o ρ):OpOk P (execOp ρ o) φ M w next r.v r.e:=by
 obtain⟨v,hx,h⟩:=yg h;rw[yfl h];have hr:=hv x (by rcases hop with e|e<;>rw[e]<;>simp[Op.operands]) v hx
 refine OpOk.value hR (v':=ρ x) ?_ hr;unfold execOp;rcases hop with e|e<;>rw[e]<;>rfl
theorem ydjf{c a b:Operand}(hop:o.op = .pick c a b)(h:ob (f.get c) (evPick f a b)=some r)(hR:Rel φ M w)(hv:OV φ f o ρ):OpOk P (execOp ρ o) φ M w next r.v r.e:=by
 obtain⟨u,hc,h⟩:=yg h;unfold evPick at h;split at h
 .rename_i t
  obtain⟨v,hx,h⟩:=yg h;rw[yfl h];rw[ybe]at hx;have h1:=hv c (by rw[hop];simp[Op.operands]) _ hc
  have e1:=h1.eq_simple rfl;have h2:=hv (if t then a else b) (by rw[hop];cases t<;>simp[Op.operands]) v hx
  refine OpOk.value hR (v':=ρ (if t then a else b)) ?_ h2
  unfold execOp;rw[hop];simp only[e1,asBool,zC,zG,zA];cases t<;>rfl
 .cases h
theorem yiv{i:TypeInfo}{z:List Value}(h:zeroA i=some z):∃v:Value,i.zero=some v/\v.cells.toList=z/\z.length=i.size/\VRL φ z z:=by
 obtain⟨v,h1,h2⟩:=yg h;obtain⟨h3,h4⟩:=ybd h2;cases h4
 simp only[zF]at h3;exact⟨v,h1,rfl,zD h3.2,(VR.atomA h3.1).cells⟩
theorem rTI{t:TypeId}{i:TypeInfo}(h:P.info? t=some i)(w:World):(typeInfo t).run P w = .ok i w:=run_typeInfo w h
theorem rSO{t:TypeId}{i:TypeInfo}(h:P.info? t=some i)(w:World):(sizeOf t).run P w = .ok i.size w:=by
 rw[run_sizeOf w h];simp[Program.cellsOf,h]
theorem yer{t:TypeId}{i:TypeInfo}{z:Value}(h:P.info? t=some i)(hz:i.zero=some z)(w:World):(zeroValue t).run P w = .ok z w:=by
 simp[zeroValue,rTI h,hz]
theorem ysn{w:World}{n z:Nat}:ygz φ next ⟨w.heap.size,0,n,z,none⟩ next=some ⟨w.heap.size,0,n,z,none⟩:=ycj _ _
theorem ycfu{t:TypeId}(hop:o.op = .alloc t)(h:ob (P.info? t) (evAlloc t m)=some r)(hR:Rel φ M w)(hf:φ m.next=none):OpOk P (execOp ρ o) φ M w m.next r.v r.e:=by
 obtain⟨i,hi,h⟩:=yg h;obtain⟨z,hz,h⟩:=yg h;cases h
 obtain⟨v,h1,h2,h3,h4⟩:=yiv (φ:=φ) hz;refine OpOk.row hR hf h4 (v':=.pointer (some ⟨w.heap.size,0,none⟩)) ?_ (VR.ptr (ysn));unfold execOp;rw[hop];simp[Instr.alloc,yer hi h1,newVar,newRow,newObj,zQ,<-h2]
theorem ydpm{t:TypeId}{x:Operand}(hop:o.op = .box t x)(h:ob (f.get x) (evBox t m)=some r)(hR:Rel φ M w)(hv:OV φ f o ρ)(hf:φ m.next=none):OpOk P (execOp ρ o) φ M w m.next r.v r.e:=by
 obtain⟨v,hx,h⟩:=yg h;obtain⟨_,h⟩:=ybd h;cases h
 have h1:=hv x (by rw[hop];simp[Op.operands]) v hx
 refine OpOk.row hR hf h1.cells (v':=.pointer (some ⟨w.heap.size,0,none⟩)) ?_ (VR.ptr (ysn));unfold execOp;rw[hop];simp[Instr.box,newVar,newRow,newObj,zQ]
theorem yqw:∀{l:List Field}{ps:List (Nat×Nat)},placesA P l=some ps->∀w,(l.mapM (fun(f:Field)=>do pure (f.offset,<-sizeOf f.type)):Sem (List (Nat×Nat))).run P w = .ok ps w
 |[],ps,h,w=>by simp[placesA]at h;subst h;rfl
 | fd::l,ps,h,w=>by
   unfold placesA at h;split at h
   .cases h
   .rename_i i hi
    split at h
    .cases h
    .rename_i us hu
     cases h
     have:=yqw hu w;simp only[List.mapM_cons,zC,rSO hi,zA,zG,this]
theorem ycfv{t:TypeId}{parts:Array (Nat×Operand)}(hop:o.op = .build t parts)(h:ob (partsA f parts.toList) (evBuild P t)=some r)(hR:Rel φ M w)(hv:OV φ f o ρ):OpOk P (execOp ρ o) φ M w next r.v r.e:=by
 obtain⟨ps,hps,h⟩:=yg h;obtain⟨i,hi,h⟩:=yg h;obtain⟨z,hz,h⟩:=yg h;obtain⟨d,hd,h⟩:=yg h;obtain⟨v,z1,z2,z3,z4⟩:=yiv (φ:=φ) hz;have hpr:=ymh (φ:=φ) (ρ:=ρ) hps (fun x hx=>hv x (by rw[hop];simpa[Op.operands]using hx))
 unfold evBuild1 at h;split at h
 .rename_i fields
  obtain⟨pl,hpl,h⟩:=yg h;obtain⟨l,hl,h⟩:=yg h;rw[yfl h];obtain⟨l',e1,e2⟩:=ykt hpr z4 hl;refine OpOk.value hR (v':=.agg l'.toArray) ?_ (VR.agg e2);have hm:=yqw hpl w;rw[<-z2]at e1;unfold execOp;rw[hop]
  have hmm:((fields.mapM (fun(f:Field)=>do pure (f.offset,<-sizeOf f.type)):Sem (Array (Nat×Nat)))).run P w = .ok pl.toArray w:=by
   rw[Array.mapM_eq_mapM_toList,Sem.run_map,hm];rfl
  have e1':Instr.fill (fun k=>pl[k]?) v.cells (parts.toList.map fun p=>(p.1,ρ p.2))=some l'.toArray:=by
   simpa using e1
  simp only[Instr.build,zC,yer hi z1,zA,run_underlying hd,hmm];simp only[zY,List.getElem?_toArray,e1',zG,zA]
 .rename_i n elem
  obtain⟨j,hj,h⟩:=yg h;obtain⟨l,hl,h⟩:=yg h;rw[yfl h];obtain⟨l',e1,e2⟩:=ykt hpr z4 hl;refine OpOk.value hR (v':=.agg l'.toArray) ?_ (VR.agg e2);rw[<-z2]at e1;unfold execOp;rw[hop];simp only[Instr.build,zC,yer hi z1,zA,run_underlying hd,rSO hj];simp at e1;simp[e1]
 .cases h
theorem ysw(z:List Value):repl 0 z=[]:=rfl
theorem yjd(n:Nat)(z:List Value):repl (n+1) z=z++repl n z:=rfl
theorem yfa(n:Nat)(z:List Value):(repl n z).length=n*z.length:=by
 induction n with
 |zero=>simp[ysw]
 |succ n ih=>rw[yjd,zK,ih,zAO,zAP]
theorem ybmx{z z':List Value}(h:VRL φ z z')(n:Nat):VRL φ (repl n z) (repl n z'):=by
 induction n with
 |zero=>exact .nil
 |succ n ih=>exact h.append ih
theorem ybug(z:List Value)(n:Nat):(List.range (n*z.length)).map (fun i=>z.toArray[i%z.length]!)=repl n z:=by
 induction n with
 |zero=>simp[ysw]
 | succ n ih =>
   rw[zAO,zAP,List.range_add,List.map_append,yjd,List.map_map];congr 1
   .apply zAH;intro q
    by_cases hq:q<z.length
    .simp[hq,Nat.mod_eq_of_lt hq]
    .simp[hq]
   .rw[<-ih];apply List.map_congr_left;intro i _;simp
theorem yuk(z:Value)(n:Nat):(zAI (n*z.cells.size)).map (fun i=>z.cells[i%z.cells.size]!)=(repl n z.cells.toList).toArray:=by
 have:=ybug z.cells.toList n;apply Array.toList_inj.1;simp at this ⊢;exact this
theorem yyx{t:TypeId}{len:Nat}{parts:Array (Nat×Operand)}(hop:o.op = .buildSlice t len parts)(h:(ob (partsA f parts.toList) fun ps=>ob (P.underlying t) (evBuildSlice P m len ps))=some r)(hR:Rel φ M w)(hv:OV φ f o ρ)(hf:φ m.next=none):OpOk P (execOp ρ o) φ M w m.next r.v r.e:=by
 obtain⟨ps,hps,h⟩:=yg h;obtain⟨d,hd,h⟩:=yg h;unfold evBuildSlice at h;split at h
 .rename_i elem
  obtain⟨i,hi,h⟩:=yg h;obtain⟨z,hz,h⟩:=yg h;obtain⟨hb,h⟩:=ybd h;obtain⟨l,hl,h⟩:=yg h;cases h
  simp only[zF]at hb;have hb1:=zB hb.1;have hb2:=zB hb.2;obtain⟨v,z1,z2,z3,z4⟩:=yiv (φ:=φ) hz;have hpr:=ymh (φ:=φ) (ρ:=ρ) hps (fun x hx=>hv x (by rw[hop];simpa[Op.operands]using hx))
  obtain⟨l',e1,e2⟩:=ykt hpr (ybmx z4 len) hl
  have hlen:l.length=len*i.size:=by
   have:∀{ps:List (Nat×Value)}{cells l:List Value},fillA (fun k=>some (k*i.size,i.size)) cells ps=some l->l.length=cells.length:=by
    intro ps
    induction ps with
    |nil=>intro cells l h;simp[fillA]at h;rw[h]
    | cons p ps ih =>
      intro cells l h;obtain⟨k,u⟩:=p;unfold fillA at h;simp only at h;rw[zH]at h;split at h
      .rename_i hc
       simp only[zF]at hc;have a1:=zD hc.1.1;have a2:=zB hc.1.2;rw[ih h];simp only[zK,zAJ,zAK,a1];omega
      .cases h
   rw[this hl,yfa,z3]
  refine OpOk.row hR hf e2 (v':=.slice (some ⟨w.heap.size,0,none⟩) len len) ?_ (VR.slice (l:=⟨w.heap.size,0,l.length,i.size,none⟩) ysn (zO _) (fun _=>rfl) (by omega) (.inl ⟨rfl,.inr (by simp[hlen])⟩))
  unfold execOp;rw[hop];have hzs:v.cells.size=i.size:=by rw[<-z3,<-z2];simp
  have hrep:(zAI (len*i.size)).map (fun k=>(if len*i.size=0 then #[]else v.cells)[k%(if len*i.size=0 then #[]else v.cells).size]!)=(repl len z).toArray:=by
   by_cases hc:len*i.size=0
   .have:repl len z=[]:=zM (by rw[yfa,z3];exact hc)
    simp[hc,this]
   .simp only[if_neg hc];have:=yuk v len;rw[z2]at this;rw[<-hzs];exact this
  have hfill:Instr.fill (fun k=>some (k*i.size,i.size)) (repl len z).toArray (parts.toList.map fun p=>(p.1,ρ p.2))=some l'.toArray:=e1;simp only[Instr.buildSlice,zC,run_underlying hd,zA,rSO hi];rw[if_neg (by omega)]
  by_cases hc:len*i.size=0
  .rw[if_pos hc];simp only[if_pos hc]at hrep;simp only[zC,zG,zA,hrep,zY,hfill,newRow,newObj,zQ,World.alloc_eq]
  .rw[if_neg hc];simp only[if_neg hc]at hrep;simp only[zC,yer hi z1,zG,zA,hrep,zY,hfill,newRow,newObj,zQ,World.alloc_eq]
 .cases h
end
end Ev
end
section
namespace Ev
section
variable {P:Program}{φ:Phi}{M:AM}{w:World}{f:Fr}{o:Oper}{m:Mem}{r:R}{ρ:Operand->Value}{next:Nat}
theorem yoc{t:TypeId}{d:TypeDesc}(h:P.underlying t=some d)(w:World):(isAgg t).run P w = .ok (isAggD d) w:=by
 simp only[isAgg,zC,run_underlying h,zA];cases d<;>rfl
theorem VR.ptr_inv{a:Addr}{v':Value}(h:VR φ (.pointer (some a)) v'):∃l,φ a.block=some l/\a.spot=none/\v' = .pointer (some ⟨l.blk,l.base+a.off,none⟩):=by
 cases h with
 |simple h=>simp[Ev.simple]at h
 |ptr h=>exact⟨_,h,rfl,rfl⟩
theorem ybfp{t:TypeId}{a:Addr}{v:Value}(h:loadA P m t a=some v)(hR:Rel φ M w)(hm:∀b,m.b.get a.block=some b->M a.block=some b){v':Value}(hp:VR φ (.pointer (some a)) v') :
 ∃a' u,v' = .pointer (some a')/\(loadVar t a').run P w = .ok u w/\VR φ v u:=by
 obtain⟨l,hl,hs,rfl⟩:=hp.ptr_inv;unfold loadA at h;split at h
 .rename_i c n e z d i h1 h2 h3 h4
  obtain⟨l',cs,e',fz,g1,g2,g3,_,g4,g5,g6⟩:=hR.cellsAt (hm _ h2);rw[hl]at g1;cases g1
  refine⟨⟨l.blk,l.base+a.off,none⟩,?_⟩;rw[zH]at h;split at h
  .rename_i hagg
   rw[zH]at h;split at h
   .rename_i hn
    have hn:=zB hn;split at h
    .rename_i lv hlv
     cases h
     obtain⟨lv',r1,r2⟩:=cellsRead g6 hlv hn;refine⟨.agg lv'.toArray,rfl,?_,VR.agg r1⟩;have hlen:lv'.length=i.size:=by rw[<-r1.length,(yeh hlv).1]
     have:=run_loadCells_list (P:=P) w ⟨l.blk,l.base+a.off,none⟩ lv' (fun j u hu=>by
      rw[addr_add];exact cell_of g4 (r2 j u hu))
     simp only[loadVar,zC,yoc h3,hagg,zA,if_true,rSO h4];rw[hlen]at this;simp[this]
    .cases h
   .cases h
  .rename_i hagg
   rw[zH]at h;split at h
   .rename_i hn
    have hn:=zL (zL (zZ _) (zB hn)) (zO _);obtain⟨u,r1,r2⟩:=g6 a.off v hn h;refine⟨u,rfl,?_,r2⟩;have hagg:isAggD d=false:=by simpa using hagg
    simp only[loadVar,zC,yoc h3,hagg,zA];simp[run_load,cell_of g4 r1]
   .cases h
 .cases h
theorem ydgh{t:TypeId}{x:Operand}(hop:o.op = .load t x)(h:ob (f.get x) (evLoad P t m)=some r)(hR:Rel φ M w)(hv:OV φ f o ρ)(hm:∀i∈r.foot,∀b,m.b.get i=some b->M i=some b):OpOk P (execOp ρ o) φ M w next r.v r.e:=by
 obtain⟨v,hx,h⟩:=yg h;have h1:=hv x (by rw[hop];simp[Op.operands]) v hx
 unfold evLoad at h;split at h
 .rename_i a
  obtain⟨u,hu,h⟩:=yg h;cases h
  obtain⟨a',u',e1,e2,e3⟩:=ybfp hu hR (hm a.block (by simp)) h1
  refine OpOk.value hR (v':=u') ?_ e3;unfold execOp;rw[hop];simp[Instr.loadAt,Instr.sureAddr,e1,e2]
 .cases h
theorem ycjh{t:TypeId}{x y:Operand}(hop:o.op = .store t x y)(h:(ob (f.get y) fun v=>ob (f.get x) (evStore P t m v))=some r)(hR:Rel φ M w)(hv:OV φ f o ρ)(hm:∀i∈r.foot,∀b,m.b.get i=some b->M i=some b):OpOk P (execOp ρ o) φ M w next r.v r.e:=by
 obtain⟨u,hy,h⟩:=yg h;obtain⟨v,hx,h⟩:=yg h;have h1:=hv x (by rw[hop];simp[Op.operands]) v hx
 have h2:=hv y (by rw[hop];simp[Op.operands]) u hy
 unfold evStore at h;split at h
 .rename_i a
  obtain⟨e,he,h⟩:=yg h;cases h
  obtain⟨l,hl,hs,hpv⟩:=h1.ptr_inv;unfold storeA at he;split at he
  .rename_i c n e' z i k1 k2 k3
   simp only at he;rw[zH]at he;split at he
   .rename_i hc
    cases he
    simp only[zF]at hc;obtain⟨⟨⟨c1,c2⟩,c3⟩,c4⟩:=hc;have c1:=zD c1;have c3:=zB c3;have c4:e'≠CU:=fun q=>by rw[q,zAQ]at c4;cases c4
    have hM:=hm a.block (by simp) _ k2
    obtain⟨l',cs,e2,fz,g1,g2,g3,g0,g4,g5,g6⟩:=hR.cellsAt hM;obtain⟨q1,q2,q3⟩:=g0 c4;subst q2;have q1:=q1.symm;subst q1;rw[hl]at g1;cases g1
    have hcell:=h2.cells;have hlen:=hcell.length;have hbr:=BR.write q3 g4 g2 g3 g5 g6 hcell c3;have hres:=hR.setRow hM hl hbr;have hle:l.base+a.off+0+(ρ y).cells.toList.length<=cs.toArray.size:=by simp only[List.size_toArray];omega
    have hrun:=run_storeCells_at (P:=P) l.blk (l.base+a.off) e' (ρ y).cells.toList 0 cs.toArray w g4 hle (yhg hcell c2);refine⟨φ,_,.skip,?_,rfl,φ.le_refl,fun _ _=>rfl,fun _=>rfl,hres.1,hres.2⟩;unfold execOp;rw[hop];simp only[zAF]at hrun;have hsz:(ρ y).cells.size=i.size:=by rw[<-c1,hlen];simp
    simp only[Instr.storeAt,Instr.sureAddr,hpv,zC,zG,zA,storeVar,rSO k3,hsz];simp[hrun]
   .cases he
  .cases he
 .cases h
theorem ybib{x:Operand}(hop:o.op = .nilCheck x)(h:ob (f.get x) evNilCheck=some r)(hR:Rel φ M w)(hv:OV φ f o ρ):OpOk P (execOp ρ o) φ M w next r.v r.e:=by
 obtain⟨v,hx,h⟩:=yg h;have h1:=hv x (by rw[hop];simp[Op.operands]) v hx
 unfold evNilCheck at h;split at h
 .rename_i a
  rw[yfl h];refine OpOk.value hR (v':=ρ x) ?_ h1;obtain⟨l,hl,hs,hpv⟩:=h1.ptr_inv;unfold execOp;rw[hop];simp[hpv]
 .cases h
theorem yjz{a:Addr}{k:Nat}(h:addrAt a k=some r):a.spot=none/\r=⟨.pointer (some ⟨a.block,a.off+k,none⟩),.none,[]⟩:=by
 unfold addrAt at h;split at h
 .unfold ptrAt at h;rw[ybp]at h;exact⟨rfl,yfl h⟩
 .cases h
theorem ybeo{s:TypeId}{x:Operand}{k:Nat}(hop:o.op = .fieldAddr s x k)(h:ob (f.get x) (evFieldAddr P s k)=some r)(hR:Rel φ M w)(hv:OV φ f o ρ):OpOk P (execOp ρ o) φ M w next r.v r.e:=by
 obtain⟨v,hx,h⟩:=yg h;have h1:=hv x (by rw[hop];simp[Op.operands]) v hx
 unfold evFieldAddr at h;split at h
 .rename_i a
  obtain⟨d,hd,h⟩:=yg h;unfold evFieldAddr1 at h;split at h
  .rename_i fields
   obtain⟨fd,hfd,h⟩:=yg h;unfold evField1 at h;obtain⟨i,hi,h⟩:=yg h;rw[ybe]at h;split at h
   .cases h
   .rename_i hz
    obtain⟨_,h⟩:=yjz h;subst h;obtain⟨l,hl,hs,hpv⟩:=h1.ptr_inv;refine OpOk.value hR (v':=.pointer (some ⟨l.blk,l.base+(a.off+fd.offset),none⟩)) ?_ (VR.ptr hl);unfold execOp;rw[hop];have hz:i.size≠0:=fun e=>hz (by rw[e];rfl)
    simp only[Instr.fieldAt,zC,run_underlying hd,zA,hfd,hpv,Instr.sureAddr,zG,fieldPlace,rSO hi];rw[if_neg hz];simp[addr_add,zN]
  .cases h
 .cases h
theorem ybaw{l r:List Value}{off n:Nat}(h:takeFrom l off n=some r):r=(l.drop off).take n/\r.length=n:=by
 unfold takeFrom at h;simp only at h;rw[zH]at h;split at h
 .rename_i hc;cases h;exact⟨rfl,zD hc⟩
 .cases h
theorem ycde{t:TypeId}{cs cs':List Value}{off:Nat}{v:Value}(h:partA P t cs off=some v)(hc:VRL φ cs cs')(w:World):∃v',(part t cs'.toArray off).run P w = .ok v' w/\VR φ v v':=by
 unfold partA at h;split at h
 .rename_i d i hd hi
  rw[zH]at h;split at h
  .rename_i hagg
   split at h
   .rename_i l hl
    cases h
    obtain⟨e1,e2⟩:=ybaw hl;subst e1;refine⟨.agg ((cs'.drop off).take i.size).toArray,?_,VR.agg ((hc.drop off).take i.size)⟩;simp only[part,zC,yoc hd,hagg,zA,if_true,rSO hi,zG];congr 2;apply Array.toList_inj.1;simp[zW]
   .cases h
  .rename_i hagg
   obtain⟨v',e1,e2⟩:=hc.get h;refine⟨v',?_,e2⟩;have hagg:isAggD d=false:=by simpa using hagg
   simp only[part,zC,yoc hd,hagg,zA];simp[e1]
 .cases h
theorem VR.agg_inv{cs:Array Value}{v':Value}(h:VR φ (.agg cs) v'):∃cs':List Value,v' = .agg cs'.toArray/\VRL φ cs.toList cs':=by
 generalize e:Value.agg cs=v at h
 cases h with
 |simple h=>subst e;simp[Ev.simple]at h
 |agg ha=>cases e;exact⟨_,rfl,by simpa using ha⟩
 |_=>cases e
theorem VR.tuple_inv{cs:Array Value}{v':Value}(h:VR φ (.tuple cs) v'):∃cs':List Value,v' = .tuple cs'.toArray/\VRL φ cs.toList cs':=by
 generalize e:Value.tuple cs=v at h
 cases h with
 |simple h=>subst e;simp[Ev.simple]at h
 |tuple ha=>cases e;exact⟨_,rfl,by simpa using ha⟩
 |_=>cases e
theorem yclz{t:TypeId}{x:Operand}{k:Nat}(hop:o.op = .field t x k)(h:ob (f.get x) (evFieldOf P t k)=some r)(hR:Rel φ M w)(hv:OV φ f o ρ):OpOk P (execOp ρ o) φ M w next r.v r.e:=by
 obtain⟨v,hx,h⟩:=yg h;have h1:=hv x (by rw[hop];simp[Op.operands]) v hx
 unfold evFieldOf at h;split at h
 .rename_i cs
  obtain⟨d,hd,h⟩:=yg h;unfold evFieldOf1 at h;split at h
  .rename_i fields
   obtain⟨fd,hfd,h⟩:=yg h;obtain⟨u,hu,h⟩:=yg h;rw[yfl h];obtain⟨cs',e1,e2⟩:=h1.agg_inv;obtain⟨v',e3,e4⟩:=ycde hu e2 w;refine OpOk.value hR (v':=v') ?_ e4;unfold execOp;rw[hop];simp only[Instr.field,zC,run_underlying hd,zA,hfd,e1,asAgg,zG,e3]
  .cases h
 .cases h
theorem ybqo{x:Operand}{k:Nat}(hop:o.op = .extract x k)(h:ob (f.get x) (evExtract k)=some r)(hR:Rel φ M w)(hv:OV φ f o ρ):OpOk P (execOp ρ o) φ M w next r.v r.e:=by
 obtain⟨v,hx,h⟩:=yg h;have h1:=hv x (by rw[hop];simp[Op.operands]) v hx
 unfold evExtract at h;split at h
 .rename_i vs
  obtain⟨u,hu,h⟩:=yg h;rw[yfl h];obtain⟨cs',e1,e2⟩:=h1.tuple_inv;obtain⟨v',e3,e4⟩:=e2.get (i:=k) (v:=u) (by simpa using hu)
  refine OpOk.value hR (v':=v') ?_ e4;unfold execOp;rw[hop];simp[Instr.extract,e1,e3]
 .cases h
theorem ybgq{fn:Fn}{first captured:Array Operand}(hop:o.op = .makeFunc fn first captured)(h:(ob (valsA f first.toList) fun a=>ob (valsA f captured.toList) fun b=>evMakeFunc a b fn)=some r)(hR:Rel φ M w)(hv:OV φ f o ρ):OpOk P (execOp ρ o) φ M w next r.v r.e:=by
 obtain⟨a,ha,h'⟩:=yg h
 clear h
 obtain⟨b,hb,h⟩:=yg h'
 clear h'
 unfold evMakeFunc at h;split at h
 .rename_i g
  rw[yfl h];have h1:=ydx (φ:=φ) (ρ:=ρ) ha (fun x hx=>hv x (by rw[hop];simp[Op.operands];exact .inl (by simpa using hx)))
  have h2:=ydx (φ:=φ) (ρ:=ρ) hb (fun x hx=>hv x (by rw[hop];simp[Op.operands];exact .inr (by simpa using hx)))
  refine OpOk.value hR (v':=.func (.func g) (first.toList.map ρ).toArray (captured.toList.map ρ).toArray) ?_ (VR.func h1 h2)
  unfold execOp;rw[hop];have e1:zAR ρ first=(first.toList.map ρ).toArray:=by apply Array.toList_inj.1;simp
  have e2:zAR ρ captured=(captured.toList.map ρ).toArray:=by apply Array.toList_inj.1;simp
  simp[Instr.makeFunc,e1,e2]
 .cases h
theorem VR.slice_inv{a:Addr}{n c:Nat}{v':Value}(h:VR φ (.slice (some a) n c) v'):∃l A c',φ a.block=some l/\a.spot=none/\v' = .slice (some A) n c'/\n<=c'/\(c≠CU->c'=c)/\c'<=9223372036854775807 /\
 ((A=⟨l.blk,l.base+a.off,none⟩/\(l.sz=0\/l.base+a.off+c'*l.sz<=l.size))\/c'=0):=by
 cases h with
 |simple h=>simp[Ev.simple]at h
 |slice h1 h2 h3 h4 h5=>exact⟨_,_,_,h1,rfl,rfl,h2,h3,h4,h5⟩
theorem ybdn{t:TypeId}{x k:Operand}(hop:o.op = .indexAddr t x k)(h:(ob (f.get x) fun x=>ob (f.get k) (evIndexAddr P t x))=some r)(hR:Rel φ M w)(hv:OV φ f o ρ):OpOk P (execOp ρ o) φ M w next r.v r.e:=by
 obtain⟨v,hx,h'⟩:=yg h
 clear h
 obtain⟨u,hk,h⟩:=yg h'
 clear h'
 have h1:=hv x (by rw[hop];simp[Op.operands]) v hx
 have h2:=hv k (by rw[hop];simp[Op.operands]) u hk
 unfold evIndexAddr at h;split at h
 .rename_i kd i
  have e2:=h2.eq_simple rfl;obtain⟨d,hd,h'⟩:=yg h
  clear h
  rename evIndex1 P v i d=some r=>h
  unfold evIndex1 at h;split at h
  .rename_i elem
   split at h
   .rename_i a len cap
    unfold evIndex2 at h;obtain⟨hlt,h3⟩:=ybd h;obtain⟨inf,hinf,h4⟩:=yg h3;obtain⟨_,h5⟩:=yjz h4
    clear h h3 h4
    subst h5;have hlt:i<len:=zL (zZ _) (zB hlt);obtain⟨l,A,c',g1,g2,g3,g4,g5,g6,g7⟩:=h1.slice_inv;rcases g7 with⟨g7,g8⟩|g7
    .refine OpOk.value hR (v':=.pointer (some ⟨l.blk,l.base+(a.off+i*inf.size),none⟩)) ?_ (VR.ptr g1);unfold execOp;rw[hop];simp only[Instr.indexAt,e2,asIntOf,zC,zG,zA,run_underlying hd,g3,g7];rw[if_pos (by simp;omega)]
     simp[rSO hinf,addr_add,zN]
    .omega
   .cases h
  .rename_i len elem
   split at h
   .rename_i a
    unfold evIndex2 at h;obtain⟨hlt,h3⟩:=ybd h;obtain⟨inf,hinf,h4⟩:=yg h3;obtain⟨_,h5⟩:=yjz h4
    clear h h3 h4
    subst h5;have hlt:i<len:=zL (zZ _) (zB hlt);obtain⟨l,g1,g2,g3⟩:=h1.ptr_inv;refine OpOk.value hR (v':=.pointer (some ⟨l.blk,l.base+(a.off+i*inf.size),none⟩)) ?_ (VR.ptr g1);unfold execOp;rw[hop];simp only[Instr.indexAt,e2,asIntOf,zC,zG,zA,run_underlying hd,g3,Instr.sureAddr];rw[if_pos (by simp;omega)]
    simp[rSO hinf,addr_add,zN]
   .cases h
  .cases h
 .cases h
end
end Ev
end
section
namespace Ev
section
variable {P:Program}{φ:Phi}{M:AM}{w:World}{f:Fr}{o:Oper}{m:Mem}{r:R}{ρ:Operand->Value}{next:Nat}
theorem ybcj{t:TypeId}{x y:Operand}(hop:o.op = .makeSlice t x y)(h:(ob (f.get x) fun l=>ob (f.get y) (evMakeSlice P t m l))=some r)(hR:Rel φ M w)(hv:OV φ f o ρ)(hf:φ m.next=none):OpOk P (execOp ρ o) φ M w m.next r.v r.e:=by
 obtain⟨v,hx,h'⟩:=yg h
 clear h
 obtain⟨u,hy,h⟩:=yg h'
 clear h'
 have h1:=hv x (by rw[hop];simp[Op.operands]) v hx
 have h2:=hv y (by rw[hop];simp[Op.operands]) u hy
 unfold evMakeSlice at h;split at h
 .rename_i k1 l k2 c
  have e1:=h1.eq_simple rfl;have e2:=h2.eq_simple rfl;obtain⟨d,hd,h'⟩:=yg h
  clear h
  unfold evMakeSlice1 at h';split at h'
  .rename_i elem
   obtain⟨i,hi,h3⟩:=yg h';obtain⟨z,hz,h4⟩:=yg h3;obtain⟨hb,h5⟩:=ybd h4;cases h5
   simp only[zF]at hb;have b1:=zB hb.1.1;have b2:=zB hb.1.2;have b3:=zB hb.2;obtain⟨zv,z1,z2,z3,z4⟩:=yiv (φ:=φ) hz;have hzs:zv.cells.size=i.size:=by rw[<-z3,<-z2];simp
   refine OpOk.row hR hf (ybmx z4 c) (v':=.slice (some ⟨w.heap.size,0,none⟩) l c) ?_ (VR.slice (l:=⟨w.heap.size,0,(repl c z).length,i.size,none⟩) ysn b1 (fun _=>rfl) (by omega) (.inl ⟨rfl,.inr (by simp[yfa,z3])⟩))
   unfold execOp;rw[hop];have wl:IntKind.i64.wrap (zAS l)=l:=IntWalk.i64_in _ (by simp;omega)
   have wc:IntKind.i64.wrap (zAS c)=c:=IntWalk.i64_in _ (by simp;omega)
   have hb4:((i.bytes:Int)*(c:Int))<=1000000:=by rw[<-Int.natCast_mul];exact Int.ofNat_le.2 b2
   simp only[Instr.makeSlice,e1,e2,zC,run_underlying hd,zA,asInt,asIntOf,zG,rTI hi,wl,wc];rw[if_neg (by rw[show((2:Int)^48)=281474976710656 from rfl];simp only[zAM,decide_eq_true_eq];omega)]
   have hroom:(askRoom (c*i.bytes)).run P w = .ok () w:=by
    unfold askRoom;rw[if_neg (by rw[Nat.mul_comm,show roomBytes=140737488355328 from rfl];omega)]
    rfl
   simp only[zC,Int.toNat_natCast,hroom,zA,rSO hi];have hrep:=yuk zv c;rw[z2,hzs]at hrep
   by_cases hc:c*i.size=0
   .have:repl c z=[]:=zM (by rw[yfa,z3];exact hc)
    rw[if_pos hc];have er:(zAI 0).map (fun(x:Nat)=>(#[]:Array Value)[x%(#[]:Array Value).size]!) = #[]:=by simp
    simp only[zC,zG,zA,hc,er,this,newRow,newObj,zQ,World.alloc_eq]
   .rw[if_neg hc];simp only[zC,yer hi z1,zG,zA,hzs,hrep,newRow,newObj,zQ,World.alloc_eq]
  .cases h'
 .cases h
theorem yiu{v:Option Value}{d hi n:Nat}(h:natIn v d hi=some n):(v=none/\n=d)\/(∃k,v=some (.int k (.ofNat n))/\n<=hi):=by
 unfold natIn at h;split at h
 .cases h;exact .inl ⟨rfl,rfl⟩
 .rename_i k n'
  rw[zH]at h;split at h
  .rename_i hc;cases h;exact .inr ⟨k,rfl,zB hc⟩
  .cases h
 .cases h
theorem yku{isS:Bool}{len cap:Nat}{lo hi:Option Value}{l h:Nat}(hc:len<=cap)(hh:natIn hi len len=some h)(hl:natIn lo 0 h=some l)(w:World) :
 (Instr.sliceBounds isS len cap lo hi none).run P w = .ok (l,h,cap) w/\l<=h/\h<=len:=by
 have hlen:h<=len:=by
  rcases yiu hh with⟨_,e⟩|⟨k,_,e⟩<;>omega
 have hlh:l<=h:=by
  rcases yiu hl with⟨_,e⟩|⟨k,_,e⟩<;>omega
 refine⟨?_,hlh,hlen⟩
 have h1:∀(k:IntKind) (n y:Nat) (c:BoundsCode),n<=y->(Instr.sliceBound (.int k (n:Int)) y c).run P w = .ok n w:=by
  intro k n y c hn;simp only[Instr.sliceBound,asIntOf,zC,zG,zA];rw[if_pos ⟨by simp,by simpa using hn⟩]
  rfl
 rcases yiu hh with⟨rfl,rfl⟩|⟨k,rfl,e⟩<;>rcases yiu hl with⟨rfl,rfl⟩|⟨k',rfl,e'⟩
 .simp[Instr.sliceBounds]
 .simp[Instr.sliceBounds,h1 _ _ _ _ e']
 .simp[Instr.sliceBounds,h1 _ _ _ _ (zAE e hc)]
 .simp[Instr.sliceBounds,h1 _ _ _ _ (zAE e hc),h1 _ _ _ _ e']
theorem ybkz{lo:Option Operand}{vs:List Value}(h:valsA f lo.toList=some vs)(hv:∀x∈lo.toList,∀v,f.get x=some v->VR φ v (ρ x))(d hi n:Nat)(hn:natIn vs.head? d hi=some n):natIn (lo.map ρ) d hi=some n:=by
 cases lo with
 |none=>simp[valsA]at h;subst h;exact hn
 | some x =>
   have:=ydx h hv;cases vs with
   |nil=>cases this
   | cons v vs =>
     cases this with
     | cons a b =>
       simp only[List.head?_cons]at hn;unfold natIn at hn ⊢;split at hn
       .rename_i e;cases e
       .rename_i k q e
        cases e
        have:=a.eq_simple rfl;simp only[Option.map_some,this];exact hn
       .cases hn
theorem yhz{a:Addr}{z size len:Nat}{lo hi:Option Value}{cap:Nat->Nat}(h:sliceA1 a z size len lo hi cap=some r) :
 (z=size\/z=0)/\∃hh ll,natIn hi len len=some hh/\natIn lo 0 hh=some ll/\r=⟨.slice (some ⟨a.block,a.off+ll*size,none⟩) (hh-ll) (cap ll),.none,[a.block]⟩:=by
 unfold sliceA1 at h;obtain⟨hc,h2⟩:=ybd h;obtain⟨hh,e1,h3⟩:=yg h2;obtain⟨ll,e2,h4⟩:=yg h3;unfold sliceA2 at h4;rw[ybp,ybp]at h4;simp only[zF,zAM]at hc;refine⟨hc.2.imp zD zD,hh,ll,e1,e2,?_⟩;cases h4
 rfl
theorem Rel.szAt(hR:Rel φ M w){i z:Nat}{l:Loc}(hm:∀b,m.b.get i=some b->M i=some b)(hl:φ i=some l)(h:ob (m.b.get i) szOf=some z):l.sz=z:=by
 obtain⟨b,h1,h2⟩:=yg h;cases b with
 |map es cl=>cases h2
 | cells c n e z' =>
   cases h2
   obtain⟨l',cs,e',fz,g1,g2,_⟩:=hR.cellsAt (hm _ h1);rw[hl]at g1;cases g1
   exact g2
theorem ok_slice{t:TypeId}{x:Operand}{lo hi:Option Operand}(hop:o.op = .slice t x lo hi none)(h:(ob (f.get x) fun x=>ob (valsA f lo.toList) fun lo=>ob (valsA f hi.toList) (evSlice P t m x lo))=some r)(hR:Rel φ M w)(hv:OV φ f o ρ)(hm:∀i∈r.foot,∀b,m.b.get i=some b->M i=some b):OpOk P (execOp ρ o) φ M w next r.v r.e:=by
 obtain⟨v,hx,h'⟩:=yg h
 clear h
 obtain⟨los,hlo,h⟩:=yg h'
 clear h'
 obtain⟨his,hhi,h'⟩:=yg h
 clear h
 obtain⟨d,hd,hu⟩:=yg h'
 clear h'
 have h1:=hv x (by rw[hop];simp[Op.operands]) v hx
 have l1:=ybkz (φ:=φ) (ρ:=ρ) hlo (fun y hy=>hv y (by rw[hop];simp[Op.operands]at hy ⊢;simp[hy]))
 have l2:=ybkz (φ:=φ) (ρ:=ρ) hhi (fun y hy=>hv y (by rw[hop];simp[Op.operands]at hy ⊢;simp[hy]))
 have hex:∀v',(Instr.sliceAt t (ρ x) (lo.map ρ) (hi.map ρ) none).run P w = .ok v' w->(execOp ρ o).run P w = .ok (.value v') w:=by
  intro v' hr;unfold execOp;rw[hop];simp[hr]
 unfold sliceA at hu;split at hu
 .rename_i s
  have e1:=h1.eq_simple rfl;obtain⟨hh,hh1,h2⟩:=yg hu;obtain⟨ll,hl1,h3⟩:=yg h2;cases h3
  obtain⟨b1,b2,b3⟩:=yku (P:=P) (isS:=false) (zO s.size) (l2 _ _ _ hh1) (l1 _ _ _ hl1) w;refine OpOk.value hR (v':=.string (s.extract ll hh)) (hex _ ?_) ?_
  .simp only[Instr.sliceAt,Instr.slice,e1,zC,run_underlying hd,zA];simp[b1]
  .have:s.extract ll hh=⟨((s.data.toList.drop ll).take (hh-ll)).toArray⟩:=by
    apply ByteArray.ext;rw[ByteArray.data_extract];apply Array.toList_inj.1;simp[zW]
   rw[this];exact .simple rfl
 .rename_i elem a len cap
  obtain⟨i,hi1,h2⟩:=yg hu;obtain⟨z,hzb,h3⟩:=yg h2;obtain⟨hz,hh,ll,hh1,hl1,rfl⟩:=yhz h3;obtain⟨l,A,c',g1,g2,g3,g4,g5,g6,g7⟩:=h1.slice_inv;obtain⟨b1,b2,b3⟩:=yku (P:=P) (isS:=true) g4 (l2 _ _ _ hh1) (l1 _ _ _ hl1) w;have hsz:l.sz=i.size\/l.sz=0:=by rw[hR.szAt (hm a.block (by simp)) g1 hzb];exact hz
  refine OpOk.value hR (v':=.slice (if c'=ll then some A else(some A).map (·.add (ll*i.size))) (hh-ll) (c'-ll)) (hex _ ?_) ?_
  .simp only[Instr.sliceAt,Instr.slice,g3,zC,run_underlying hd,zA,b1,rSO hi1,zG]
  .have hA : ∃A',(if c'=ll then some A else(some A).map (·.add (ll*i.size)))=some A'/\((A'=⟨l.blk,l.base+(a.off+ll*i.size),none⟩/\(l.sz=0\/l.base+(a.off+ll*i.size)+(c'-ll)*l.sz<=l.size))\/c'-ll=0):=by
    by_cases e:c'=ll
    .rw[if_pos e];exact⟨A,rfl,.inr (by omega)⟩
    .rw[if_neg e];rcases g7 with⟨rfl,g8⟩|g7
     .refine⟨_,rfl,.inl ⟨(addr_add _ _ _).trans (by simp[zN]),?_⟩⟩
      rcases hsz with e2|e2
      .refine g8.imp id fun g8=>?_;rw[e2]at g8 ⊢;rw[Nat.sub_mul];have:ll*i.size<=c'*i.size:=zAC _ (by omega)
       omega
      .exact .inl e2
     .omega
   obtain⟨A',q1,q2⟩:=hA;rw[q1];refine VR.slice g1 (by omega) (fun hne=>?_) (by omega) q2
   by_cases hcu:cap=CU
   .exact absurd (by unfold capA;rw[hcu];rfl) hne
   .rw[g5 hcu];unfold capA;rw[ybe,if_neg (fun e=>hcu (zD e))];rfl
 .obtain⟨i,hi1,h2'⟩:=yg hu;obtain⟨hh,hh1,h2⟩:=yg h2';obtain⟨ll,hl1,h3⟩:=yg h2;cases h3
  have e1:=h1.eq_simple rfl;have h0:hh=0:=by rcases yiu hh1 with⟨_,e⟩|⟨k,_,e⟩<;>omega
  subst h0;obtain⟨b1,b2,b3⟩:=yku (P:=P) (isS:=true) (zO 0) (l2 _ _ _ hh1) (l1 _ _ _ hl1) w;have h0:ll=0:=by omega
  subst h0;refine OpOk.value hR (v':=.slice none 0 0) (hex _ ?_) (.simple rfl);simp only[Instr.sliceAt,Instr.slice,e1,zC,run_underlying hd,zA,b1,rSO hi1,zG];rfl
 .rename_i len elem a
  obtain⟨i,hi1,h2⟩:=yg hu;obtain⟨z,hzb,h3⟩:=yg h2;obtain⟨hlen,h4⟩:=ybd h3;simp only[zF]at hlen;obtain⟨hz,hh,ll,hh1,hl1,rfl⟩:=yhz h4;have hz0:=zD hlen.1;have hlen:=zB hlen.2;obtain⟨l,g1,g2,g3⟩:=h1.ptr_inv;obtain⟨b1,b2,b3⟩:=yku (P:=P) (isS:=false) (zO len) (l2 _ _ _ hh1) (l1 _ _ _ hl1) w;have hsz:l.sz=0:=by rw[hR.szAt (hm a.block (by simp)) g1 hzb];exact hz0
  refine OpOk.value hR (v':=.slice (some (if len=ll then⟨l.blk,l.base+a.off,none⟩else(⟨l.blk,l.base+a.off,none⟩:Addr).add (ll*i.size))) (hh-ll) (len-ll)) (hex _ ?_) ?_
  .simp only[Instr.sliceAt,g3,Instr.sureAddr,zC,run_underlying hd,zA,b1,rSO hi1,zG]
  .refine VR.slice g1 (by omega) (fun _=>rfl) (by omega) ?_
   by_cases e:len=ll
   .exact .inr (by omega)
   .rw[if_neg e];exact .inl ⟨(addr_add _ _ _).trans (by simp[zN]),.inl hsz⟩
 .cases hu
end
end Ev
end
section
namespace Ev
section
variable {P:Program}{φ:Phi}{M:AM}{w:World}{f:Fr}{o:Oper}{m:Mem}{r:R}{ρ:Operand->Value}{next:Nat}
theorem Rel.heap{w':World}(hR:Rel φ M w)(h:w'.heap=w.heap):Rel φ M w':=hR.keep fun k _=>by rw[h]
theorem WG.drew_left{φ':Phi}{M':AM}{w':World}(h:WG φ M w.drew φ' M' w'):WG φ M w φ' M' w':=⟨h.os,h.tape,h.output,h.size,h.keep,h.img⟩
theorem ybop{size:Nat}{x x':Value}{q:List Value×List Nat}(h:rowOf m size x=some q)(hx:VR φ x x')(hR:Rel φ M w)(hm:∀i∈q.2,∀b,m.b.get i=some b->M i=some b)(h0:lenA x≠0) :
 ∃a c new',x' = .slice (some a) (lenA x) c/\VRL φ q.1 new'/\q.1.length=lenA x*size/\∀j v,new'[j]?=some v->w.cell? (a.add j)=some v:=by
 unfold rowOf at h;split at h
 .simp[lenA]at h0
 .rename_i a len cap
  split at h
  .cases h
  .rename_i hs
   rw[zH]at h;split at h
   .rename_i hc
    exact absurd (zD hc) h0
   .split at h
    .rename_i c n e z hb
     rw[zH]at h;split at h
     .rename_i hn
      have hn:=zB hn;split at h
      .rename_i l hl
       cases h
       have hM:=hm a.block (by simp) _ hb
       obtain⟨lc,cs,e',fz,g1,g2,g3,_,g4,g5,g6⟩:=hR.cellsAt hM;obtain⟨l',A,c',k1,k2,k3,k4,k5,k6,k7⟩:=hx.slice_inv;rw[g1]at k1;cases k1
       rcases k7 with⟨k7,_⟩|k7
       .obtain⟨new',r1,r2⟩:=cellsRead g6 hl hn;refine⟨A,c',new',k3,r1,(yeh hl).1,fun j v hv=>?_⟩;rw[k7,addr_add];exact cell_of g4 (r2 j v hv)
       .simp only[lenA]at h0;omega
      .cases h
     .cases h
    .cases h
 .cases h
theorem ycc{k:Nat}{e:Eff}{ft:List Nat}(h:appRes m k e ft=some r):r=⟨.slice (some ⟨m.next,0,none⟩) k CU,e,ft⟩:=by
 unfold appRes at h;rw[ybp]at h;cases h
 rfl
theorem ybby (hR:Rel φ M w) (hf:φ next=none) {s:Sem Next}{elem need cap sz:Nat}{all' rest:List Value}
 (hr:s.run P w = .ok (.value (.slice (some ⟨w.heap.size,0,none⟩) need cap)) (w.drew.alloc (.cells (all'++rest).toArray elem)))
 (h1:need<=cap) (h2:cap<=9223372036854775807) (h3:all'.length+rest.length=cap*sz) {c:T Value}{n:Nat}(hn:n=all'.length) (hc:∀j v,j<n->c.get j=some v->∃v',all'[j]?=some v'/\VR φ v v') :
 OpOk P s φ M w next (.slice (some ⟨next,0,none⟩) need CU) (.new (.cells c n elem sz)):=by
 have hle:=yjh (l:=⟨w.heap.size,0,cap*sz,sz,none⟩) hf;have hR':Rel φ M w.drew:=hR.heap rfl
 have hbr:BR (ygz φ next ⟨w.heap.size,0,cap*sz,sz,none⟩) ⟨w.heap.size,0,cap*sz,sz,none⟩ (w.drew.alloc (.cells (all'++rest).toArray elem)) (.cells c n elem sz):=by
  refine⟨rfl,by show 0+n<=cap*sz;omega,all'++rest,elem,(0,0),⟨fun _=>⟨rfl,rfl,rfl⟩,fun o ho=>(by cases ho)⟩,yjx w.drew _,by show _=cap*sz;simp;omega,fun j v hj hg=>?_⟩
  obtain⟨v',k1,k2⟩:=hc j v hj hg;refine⟨v',?_,k2.mono hle⟩;show(all'++rest)[0+j]?=_;rw[zX,zI (by omega)]
  exact k1
 have:=hR'.new (l:=⟨w.heap.size,0,cap*sz,sz,none⟩) (b:=.cells c n elem sz) (o:=.cells (all'++rest).toArray elem) hf rfl hbr;refine⟨_,_,_,hr,?_,hle,fun i hi=>ydd _ hi,fun h=>(by cases h),this.1,this.2.drew_left⟩
 exact VR.slice (ycj _ _) h1 (fun h=>absurd rfl h) h2 (.inl ⟨rfl,.inr (by simp)⟩)
theorem ychl (hR:Rel φ M w) (hf:φ next=none) {s:Sem Next}{elem need cap sz:Nat}{all all' rest:List Value}(hv:VRL φ all all')
 (hr:s.run P w = .ok (.value (.slice (some ⟨w.heap.size,0,none⟩) need cap)) (w.drew.alloc (.cells (all'++rest).toArray elem)))
 (h1:need<=cap) (h2:cap<=9223372036854775807) (h3:all.length+rest.length=cap*sz) {c:T Value}{n:Nat}(hn:n=all.length) (hc:∀j v,j<n->c.get j=some v->all[j]?=some v) :
 OpOk P s φ M w next (.slice (some ⟨next,0,none⟩) need CU) (.new (.cells c n elem sz)) :=
 ybby hR hf hr h1 h2 (by rw[<-hv.length];exact h3) (by rw[<-hv.length];exact hn) fun j v hj hg=>hv.get (hc j v hj hg)
theorem OpOk.move_of_new{s:Sem Next}{i:Nat}{b:ABlk}{v:Value}(h:OpOk P s φ M w next v (.new b)):OpOk P s φ M w next v (.move i b):=by
 obtain⟨φ',w',nx,h1,h2,h3,h4,h5,h6,h7⟩:=h
 have hs:∀j x,appM M next (.move i b) j=some x->appM M next (.new b) j=some x:=by
  intro j x hx;simp only[appM,upd]at hx ⊢;split at hx
  .rename_i e;rw[if_pos e];exact hx
  .rename_i e
   rw[if_neg e];split at hx
   .cases hx
   .exact hx
 exact⟨φ',w',nx,h1,h2,h3,h4,fun h=>(by cases h),h6.sub hs,h7.sub hs⟩
theorem yclr (hR:Rel φ M w) (hf:φ next=none) {s:Sem Next}{i:Nat}{b b':ABlk}{l l':Loc}{cs:Array Value}{v v':Value}(hb:M i=some b) (hl:φ i=some l) (hbl:l'.blk=l.blk)
 (hbr:BR (ygz φ next l') l' (w.setRow l.blk cs) b') (hv:VR (ygz φ next l') v v') (hr:s.run P w = .ok (.value v') (w.setRow l.blk cs)) :
 OpOk P s φ M w next v (.move i b'):=by
 have hle:=yjh (l:=l') hf;have hin:i≠next:=fun e=>by subst e;rw[hf]at hl;cases hl
 have old:∀j x,j≠i->j≠next->M j=some x->∃lj,φ j=some lj/\lj.blk≠l.blk/\BR (ygz φ next l') lj (w.setRow l.blk cs) x:=fun j x h1 h2 hx=>by
  obtain⟨lj,k1,k2⟩:=hR.blk j x hx;have:=hR.inj j i x b lj l h1 hx hb k1 hl;exact⟨lj,k1,this,(k2.mono hle).keep (setRow_other w _ _ _ this)⟩
 refine⟨_,_,_,hr,hv,hle,fun j hj=>ydd _ hj,fun h=>(by cases h),Rel0.step hR ⟨⟨fun j x hx=>?_,fun j k x y lj lk hne hx hy hj hk=>?_⟩,
  ⟨rfl,rfl,rfl,by simp,fun k hk hn=>setRow_other w _ _ _ (fun e=>hn ⟨i,b,l,hb,hl,e.symm⟩),fun k hk h=>?_⟩⟩⟩
 .simp only[appM,upd]at hx
  by_cases e:j=next
  .subst e;rw[if_pos rfl]at hx;cases hx;exact⟨l',ycj _ _,hbr⟩
  .rw[if_neg e]at hx
   by_cases e2:j=i
   .rw[if_pos e2]at hx;cases hx
   .rw[if_neg e2]at hx;obtain⟨lj,k1,k2,k3⟩:=old j x e2 e hx;exact⟨lj,by rw[ydd _ e];exact k1,k3⟩
 .simp only[appM,upd]at hx hy
  by_cases e:j=next
  .subst e;rw[ycj]at hj;cases hj
   have e':k≠j:=fun q=>hne q.symm;rw[if_neg e']at hy
   by_cases e2:k=i
   .rw[if_pos e2]at hy;cases hy
   .rw[if_neg e2]at hy;obtain⟨lk',k1,k2,_⟩:=old k y e2 e' hy;rw[ydd _ e',k1]at hk;cases hk
    rw[hbl];exact fun q=>k2 q.symm
  .rw[if_neg e]at hx
   by_cases e2:j=i
   .rw[if_pos e2]at hx;cases hx
   .rw[if_neg e2]at hx;obtain⟨lj',k1,k2,_⟩:=old j x e2 e hx;rw[ydd _ e,k1]at hj;cases hj
    by_cases e3:k=next
    .subst e3;rw[ycj]at hk;cases hk;rw[hbl];exact k2
    .rw[if_neg e3]at hy
     by_cases e4:k=i
     .rw[if_pos e4]at hy;cases hy
     .rw[if_neg e4]at hy;rw[ydd _ e3]at hk;exact hR.inj j k x y _ _ hne hx hy k1 hk
 .obtain⟨j,x,lj,hx,hj,hk'⟩:=h;simp only[appM,upd]at hx
  by_cases e:j=next
  .subst e;rw[ycj]at hj;cases hj;exact⟨i,b,l,hb,hl,by rw[<-hbl];exact hk'⟩
  .rw[if_neg e]at hx
   by_cases e2:j=i
   .rw[if_pos e2]at hx;cases hx
   .rw[if_neg e2]at hx;rw[ydd _ e]at hj;exact⟨j,x,lj,hx,hj,hk'⟩
theorem ynw {t ty e:TypeId}{i:TypeInfo}(ht:P.underlying t=some (.slice e)) (hi:P.info? e=some i) {blk off sLen sCap:Nat}{a:Addr}{n c:Nat}{new cs:List Value}(hl:new.length=n*i.size)
 (hnew:∀j v,new[j]?=some v->w.cell? (a.add j)=some v) (hone:∀v∈new,v.oneCell'=true) (hle:sLen+n<=sCap) (hh:w.heap[blk]?=some (.cells cs.toArray e (0,0))) (hfit:off+sLen*i.size+new.length<=cs.length) :
 (Builtin.append_ #[t,t] ty #[.slice (some ⟨blk,off,none⟩) sLen sCap,.slice (some a) n c]).run P w =
   .ok (.slice (some ⟨blk,off,none⟩) (sLen+n) sCap) (w.setRow blk (cs.take (off+sLen*i.size)++new++cs.drop (off+sLen*i.size+new.length)).toArray):=by
 have hf:=run_firstCells_some (P:=P) w i.size n a n c new hl hnew;have hst:=run_storeCells_at (P:=P) blk (off+sLen*i.size) e new 0 cs.toArray w hh (by simpa using hfit) hone
 simp only[zAF]at hst;simp[Builtin.append_,run_underlying ht,rSO hi,Builtin.lenOf,hle,hf,addr_add,hst]
end
end Ev
end
section
namespace Ev
section
variable {P:Program}{φ:Phi}{M:AM}{w:World}{f:Fr}{o:Oper}{m:Mem}{r:R}{ρ:Operand->Value}{next:Nat}
theorem ybzs{z:Value}{i:TypeInfo}(h:z.cells.size=i.size)(n:Nat):(Builtin.zeroCells z.cells n).toList.length=n*i.size:=by
 have:=size_zeroCells z.cells n;rw[h]at this
 simpa using this
theorem ybpn {t ty elem:TypeId}{i:TypeInfo}{zv:Value}(ht:P.underlying t=some (.slice elem)) (hi:P.info? elem=some i) (hz:i.zero=some zv) (hzs:zv.cells.size=i.size)
 {a:Addr}{sLen sCap xLen:Nat}{new new':List Value}{fx:List Nat}{b:ABlk}(h:appSome m i elem a sLen (sLen+xLen) sCap new fx b=some r)
 (hb:m.b.get a.block=some b) (hm:∀j∈r.foot,∀b,m.b.get j=some b->M j=some b) (hR:Rel φ M w) (hf:r.e.adds=true->φ m.next=none) {s':Value}(hs:VR φ (.slice (some a) sLen sCap) s')
 {xa:Addr}{xc:Nat}(hnl:new.length=xLen*i.size) (hnv:VRL φ new new') (hnc:∀j v,new'[j]?=some v->w.cell? (xa.add j)=some v) (hgood:allGood new=true)
 (h1:(sLen+xLen)*i.bytes<=100000000) (h2:sLen+xLen<=100000000) (h0:xLen≠0) {s:Sem Next}
 (hex:∀v' w',(Builtin.append_ #[t,t] ty #[s',.slice (some xa) xLen xc]).run P w = .ok v' w'->s.run P w = .ok (.value v') w') :
 OpOk P s φ M w m.next r.v r.e:=by
 obtain⟨l,A,c',k1,k2,k3,k4,k5,k6,k7⟩:=hs.slice_inv;subst k3;have hlen':new'.length=xLen*i.size:=by rw[<-hnv.length];exact hnl
 have hone:=yhg hnv hgood;unfold appSome at h;split at h
 .rename_i c n e z
  obtain⟨hc,h3⟩:=ybd h
  clear h
  simp only[zF,zV]at hc;obtain⟨⟨⟨⟨⟨c1,c2⟩,c3⟩,c4⟩,c5⟩,c6⟩:=hc;have c6:e≠CU:=fun q=>by rw[q,zAQ]at c6;cases c6
  have c1:=zD c1;have c2:=zD c2;have c3:z≠0:=fun q=>by rw[q]at c3;cases c3
  have c4:=zB c4;subst c1;subst c2;have hsp:a.spot=none:=k2
  have hMb:M a.block=some (.cells c n e i.size):=hm a.block (by
   rw[ybe]at h3;split at h3
   .unfold appIn at h3;obtain⟨_,h4⟩:=ybd h3;rw[ybp]at h4;cases h4
    simp
   .unfold appOut at h3;rw[ybe]at h3;split at h3
    .rw[ycc h3];simp
    .obtain⟨old,_,h4⟩:=yg h3;rw[ycc h4];simp) _ hb
  obtain⟨l',cs,e2,fz,g1,g2,g3,g0,g4,g5,g6⟩:=hR.cellsAt hMb;obtain⟨q1,q2,q3⟩:=g0 c6;subst q2;have q1:=q1.symm;subst q1;rw[k1]at g1;cases g1
  rw[ybe]at h3;split at h3
  ·-- room that is known
   rename_i hroom
   simp only[zF,zV]at hroom;have r1:=zB hroom.1;have r2:sCap≠CU:=fun q=>by rw[q]at hroom;exact absurd hroom.2 (by decide)
   unfold appIn at h3;obtain⟨hfit,h4⟩:=ybd h3;rw[ybp]at h4;cases h4
   simp only[zF]at hfit;have hfit':=zB hfit.1;have ec:=k5 r2;subst ec;rcases k7 with⟨rfl,k7⟩|k7
   .have hrun:=ynw (P:=P) (ty:=ty) ht hi (c:=xc) (blk:=l.blk) (off:=l.base+a.off) (sLen:=sLen) (sCap:=c') hlen' hnc hone r1 g4 (by rw[hlen',<-hnl];omega)
    have hbr:=BR.write q3 g4 g2 g3 g5 g6 hnv (o:=a.off+sLen*i.size) hfit';have hres:=hR.setRow hMb k1 hbr;rw[show l.base+(a.off+sLen*i.size)=l.base+a.off+sLen*i.size by omega]at hres
    refine⟨φ,_,.value (.slice (some ⟨l.blk,l.base+a.off,none⟩) (sLen+xLen) c'),hex _ _ hrun,?_,φ.le_refl,fun _ _=>rfl,fun _=>rfl,hres.1,hres.2⟩;have:a=⟨a.block,a.off,none⟩:=by cases a;simp at hsp;simp[hsp]
    show VR φ (.slice (some a) (sLen+xLen) c') _;rw[this];exact VR.slice k1 r1 (fun _=>rfl) k6 (.inl ⟨rfl,k7⟩)
   .omega
  .rename_i hroom
   have c4':l.base+a.off+sLen*i.size<=cs.length:=by omega
   obtain⟨old',hold'⟩:∃old',(cs.drop (l.base+a.off)).take (sLen*i.size)=old':=⟨_,rfl⟩;have holen':old'.length=sLen*i.size:=by rw[<-hold'];simp;omega
   have o2:∀j v,old'[j]?=some v->cs[l.base+a.off+j]?=some v:=fun j v hv=>by
    rw[<-hold',zAG]at hv;split at hv
    .rwa [zT]at hv
    .cases hv
   have o3:∀j v,j<sLen*i.size->cs[l.base+a.off+j]?=some v->old'[j]?=some v:=fun j v hj hv=>by
    rw[<-hold',zAG,if_pos hj,zT];exact hv
   have hf:φ m.next=none:=hf (by
    unfold appOut at h3;rw[ybe]at h3;split at h3
    .rw[ycc h3];rfl
    .obtain⟨old,hold,h4⟩:=yg h3;rw[ycc h4];simp only[ybe];split<;>rfl)
   have grow:c'<sLen+xLen->∀(c2:T Value) (n2:Nat),n2=(old'++new').length->(∀j v,j<n2->c2.get j=some v->∃v',(old'++new')[j]?=some v'/\VR φ v v') ->
    OpOk P s φ M w m.next (.slice (some ⟨m.next,0,none⟩) (sLen+xLen) CU) (.new (.cells c2 n2 e i.size)):=by
    intro hlt c2 n2 hn2 hc2;have hfit:Builtin.nextslicecap (sLen+xLen) c'*i.bytes<=281474976710656:=growslice_fits hlt (by omega)
    have hrun:=run_append_grow (P:=P) w t ty e i zv ht hi hz A sLen c' old' holen' (fun j v hv=>by
     rcases k7 with⟨rfl,_⟩|k7
     .rw[addr_add];exact cell_of g4 (o2 j v hv)
     .have h00:sLen=0:=by omega
      have:old'=[]:=zM (by rw[holen',h00,Nat.zero_mul])
      rw[this]at hv;simp at hv) xa xLen xc new' hlen' hnc hlt (by omega) hfit
    have hge:=grownCap_ge w (sLen+xLen) c' e;have hgl:=grownCap_le_maxLen w (sLen+xLen) c' e (by unfold maxLen;omega)
    refine ybby (P:=P) hR hf (s:=s) (elem:=e) (need:=sLen+xLen) (cap:=grownCap w (sLen+xLen) c' e) (sz:=i.size) (all':=old'++new') (rest:=(Builtin.zeroCells zv.cells (grownCap w (sLen+xLen) c' e-(sLen+xLen))).toList)
     (by
       refine hex _ _ ?_;rw[hrun];congr 3;apply Array.toList_inj.1;simp) hge (by unfold maxLen at hgl;exact hgl) (by
       rw[zK,holen',hlen',ybzs hzs,<-zAA,<-zAA];congr 1;omega) hn2 hc2
   have key:sCap=CU->∀(c2:T Value) (n2:Nat),n2=(old'++new').length->(∀j v,j<n2->c2.get j=some v->∃v',(old'++new')[j]?=some v'/\VR φ v v') ->
    OpOk P s φ M w m.next (.slice (some ⟨m.next,0,none⟩) (sLen+xLen) CU) (.move a.block (.cells c2 n2 e i.size)):=by
    intro hcu c2 n2 hn2 hc2
    by_cases hlt:c'<sLen+xLen
    .exact(grow hlt c2 n2 hn2 hc2).move_of_new
    ·-- in place
     have hle:sLen+xLen<=c':=by omega
     rcases k7 with⟨rfl,k7⟩|k7
     .rcases k7 with k7|k7
      .omega
      .have hsz:(sLen+xLen)*i.size<=c'*i.size:=zAC _ hle;rw[zAA]at hsz;rw[g2]at k7;have hfit:l.base+a.off+sLen*i.size+new'.length<=cs.length:=by rw[hlen'];omega
       have hrun:=ynw (P:=P) (ty:=ty) ht hi (c:=xc) (blk:=l.blk) (off:=l.base+a.off) (sLen:=sLen) (sCap:=c') hlen' hnc hone hle g4 hfit;have hle':=yjh (l:=⟨l.blk,l.base+a.off,l.size,l.sz,none⟩) hf;refine yclr hR hf hMb k1 (l':=⟨l.blk,l.base+a.off,l.size,l.sz,none⟩) rfl ?_ ?_ (hex _ _ hrun)
       .have hlen2:n2=sLen*i.size+xLen*i.size:=by rw[hn2,zK,holen',hlen']
        refine⟨g2,by show l.base+a.off+n2<=l.size;omega,_,e,(0,0),⟨fun _=>⟨rfl,rfl,rfl⟩,fun o ho=>(by cases ho)⟩,setRow_heap w _ _ _ e _ g4,?_,fun j v hj hg=>?_⟩
        .show _=l.size;simp only[zK,zAJ,zAK];omega
        .obtain⟨v',p1,p2⟩:=hc2 j v hj hg;refine⟨v',?_,p2.mono hle'⟩;show(_:List Value)[l.base+a.off+j]?=_;rw[yfm cs new' _ _ hfit]
         by_cases hjo:j<old'.length
         .rw[if_neg (by omega)]
          rw[zI hjo]at p1;exact o2 j v' p1
         .rw[zJ (by omega)]at p1
          rw[if_pos (by omega),<-p1]
          congr 1;omega
       .exact VR.slice (ycj _ _) hle (fun q=>absurd rfl q) k6 (.inl ⟨rfl,.inr (by show l.base+a.off+0+c'*l.sz<=l.size;rw[g2];omega)⟩)
     .omega
   unfold appOut at h3;rw[ybe]at h3;split at h3
   .rename_i hq
    simp only[zF]at hq;have hcu:=zD hq.1;have h0':=zD hq.2;rw[ycc h3];refine key hcu _ _ (by rw[zK,holen',hlen',hnl]) fun j v hj hg=>?_
    rcases T.sets_get hg with⟨p1,p2,p3⟩|⟨p1,p2⟩
    .obtain⟨v',q1,q2⟩:=hnv.get p3;exact⟨v',by rw[zJ (by omega),holen'];exact q1,q2⟩
    .have hjlt:j<sLen*i.size:=by omega
     obtain⟨v',q1,q2⟩:=g6 j v (by omega) p2
     refine⟨v',?_,q2⟩;rw[zI (by omega)]
     exact o3 j v' hjlt (by rw[h0',zAF];exact q1)
   .obtain⟨old,hold,h4⟩:=yg h3;have holen:old.length=sLen*i.size:=(yeh hold).1;rw[ycc h4]
    have tofget:∀j v,j<old.length+new.length->(tOf (old++new)).get j=some v->∃v',(old'++new')[j]?=some v'/\VR φ v v':=fun j v hj h=>by
     have h:=yko h
     by_cases hjo:j<old.length
     .rw[zI hjo]at h;obtain⟨u,q1,q2⟩:=(yeh hold).2 j (by omega)
      rw[h]at q2;cases q2
      obtain⟨v',r1,r2⟩:=g6 (a.off+j) v (by omega) q1
      refine⟨v',?_,r2⟩;rw[zI (by omega)]
      exact o3 j v' (by omega) (by rw[zN];exact r1)
     .rw[zJ (by omega)]at h
      obtain⟨v',r1,r2⟩:=hnv.get h;refine⟨v',?_,r2⟩;rw[zJ (by omega),holen',<-holen]
      exact r1
    have hlen2:old.length+new.length=(old'++new').length:=by rw[zK,holen',hlen',holen,hnl]
    by_cases hcu:sCap=CU
    .have hcb:zAN sCap CU=true:=by rw[hcu];decide
     rw[hcb];exact key hcu _ _ hlen2 tofget
    .have hcb:zAN sCap CU=false:=by
      cases hq:zAN sCap CU with
      |false=>rfl
      |true=>exact absurd (zD hq) hcu
     rw[hcb];have ec:=k5 hcu;subst ec;refine grow ?_ _ _ hlen2 tofget;rcases Nat.lt_or_ge c' (sLen+xLen)with q|q
     .exact q
     .exact absurd (by simp only[zF,zV];exact⟨Nat.ble_eq_true_of_le q,hcb⟩) hroom
 .cases h
end
end Ev
end
section
namespace Ev
section
variable {P:Program}{φ:Phi}{M:AM}{w:World}{f:Fr}{o:Oper}{m:Mem}{r:R}{ρ:Operand->Value}{next:Nat}
theorem VRL.atomA:∀{l:List Value},l.all Ev.atomA=true->VRL φ l l
 |[],_=>.nil
 | v::l,h=>by
   simp only[zU,zF]at h;exact .cons (VR.atomA h.1) (VRL.atomA h.2)
theorem VR.atomR{v:Value}(h:atomR v=true):VR φ v v:=by
 unfold Ev.atomR at h;split at h
 .rename_i vs
  have:=VR.tuple (VRL.atomA (φ:=φ) h)
  simpa using this
 .exact VR.atomA h
theorem yzp{a b:Value}{l':List Value}(h:VRL φ [a,b] l'):∃a' b',l'=[a',b']/\VR φ a a'/\VR φ b b':=by
 cases h with
 | cons h1 h2=>cases h2 with
   |cons h3 h4=>cases h4;exact⟨_,_,rfl,h1,h3⟩
theorem ygi{a:Value}{l':List Value}(h:VRL φ [a] l'):∃a',l'=[a']/\VR φ a a':=by
 cases h with
 |cons h1 h2=>cases h2;exact⟨_,rfl,h1⟩
theorem yhx{b:Builtin}{args:Array Operand}{ats:Array TypeId}(hop:o.op = .call { callee:=.builtin b,args:=args,argTypes:=ats }) :
 execOp ρ o=builtin b ats o.type (args.map fun | .const _=>true|_=>false) (args.map ρ):=by
 unfold execOp;rw[hop];rfl
theorem ybfc{sa:Option Addr}{n c:Nat}{s':Value}(h:VR φ (.slice sa n c) s'):∃A c',s' = .slice A n c'/\n<=c':=by
 cases h with
 | simple hs=>cases sa with
   | none=>cases n with
     |zero=>exact⟨_,_,rfl,Nat.zero_le _⟩
     |succ n=>simp[simple]at hs
   |some a=>simp[simple]at hs
 |slice h1 h2 h3 h4 h5=>exact⟨_,_,rfl,h2⟩
theorem ycej {args:Array Operand}{ats:Array TypeId}(hop:o.op = .call { callee:=.builtin .append,args:=args,argTypes:=ats }) (h:(ob (valsA f args.toList) fun vs=>evAppend P m vs ats.toList)=some r)
 (hR:Rel φ M w) (hv:OV φ f o ρ) (hm:∀i∈r.foot,∀b,m.b.get i=some b->M i=some b) (hf:r.e.adds=true->φ m.next=none):OpOk P (execOp ρ o) φ M w m.next r.v r.e:=by
 obtain⟨vs,hvs,h2⟩:=yg h
 clear h
 have hvl:=ydx (φ:=φ) (ρ:=ρ) hvs (fun x hx=>hv x (by rw[hop];simp[Op.operands,Call.operands];simpa using hx))
 unfold evAppend at h2;split at h2
 .rename_i s x t u hats
  obtain⟨htu,h3⟩:=ybd h2
  clear h2
  have htu:=zD htu;subst htu;obtain⟨d,hd,h4⟩:=yg h3
  clear h3
  obtain⟨s',x',hargs,vs1,vs2⟩:=yzp hvl;split at h4
  .rename_i elem
   unfold appendA at h4;obtain⟨i,hi,h5⟩:=yg h4;obtain⟨q,hq,h6⟩:=yg h5;unfold appendA1 at h6;obtain⟨hc,h7⟩:=ybd h6
   clear h4 h5 h6
   simp only[zF]at hc;obtain⟨⟨⟨⟨c1,c2⟩,c3⟩,c4⟩,c5⟩:=hc;have c1:=zB c1;have c2:=zB c2;rw[ybe]at h7;split at h7
   .rename_i hx0
    have hx0:lenA x=0:=zD hx0
    obtain⟨sa,n,c,rfl,h8⟩:∃a n c,s = .slice a n c/\r=⟨.slice a n c,.none,q.2⟩:=by
     unfold appNone at h7;split at h7
     .exact⟨_,_,_,rfl,(Option.some.inj h7).symm⟩
     .cases h7
    subst h8
    .obtain⟨A,c',rfl,hle⟩:=ybfc vs1
     obtain⟨xa,xn,xc,rfl⟩:∃a n c,x = .slice a n c:=by
      unfold rowOf at hq;split at hq
      .exact⟨_,_,_,rfl⟩
      .exact⟨_,_,_,rfl⟩
      .cases hq
     obtain rfl:xn=0:=hx0;obtain⟨X,xc',rfl,_⟩:=ybfc vs2;refine OpOk.value hR (v':=.slice A n c') ?_ vs1;rw[yhx hop];have e1:args.map ρ = #[.slice A n c',.slice X 0 xc']:=by apply Array.toList_inj.1;simp[<-hargs]
     have e2:ats = #[t,t]:=by apply Array.toList_inj.1;simp[hats]
     rw[e1,e2]
     have hfc:(Builtin.firstCells i.size 0 (.slice X 0 xc')).run P w = .ok #[] w:=by
      cases X with
      |none=>exact run_firstCells_none _ _ _ _ _
      |some a=>exact run_firstCells_some (P:=P) w i.size 0 a 0 xc' [] (by simp) (by simp)
     cases A with
     |none=>simp[builtin,Builtin.append_,run_underlying hd,rSO hi,Builtin.lenOf,hle,hfc]
     |some a=>simp[builtin,Builtin.append_,run_underlying hd,rSO hi,Builtin.lenOf,hle,hfc,storeCells]
   .rename_i hx0
    have hx0:lenA x≠0:=fun e=>hx0 (by rw[e];rfl)
    obtain⟨zl,hzl⟩:=Option.isSome_iff_exists.1 c4;obtain⟨zv,z1,z2,z3,z4⟩:=yiv (φ:=φ) hzl;have hzs:zv.cells.size=i.size:=by rw[<-z3,<-z2];simp
    have hex:∀v' w',(Builtin.append_ #[t,t] o.type #[s',x']).run P w = .ok v' w'->(execOp ρ o).run P w = .ok (.value v') w':=by
     intro v' w' hr;rw[yhx hop];have e1:args.map ρ = #[s',x']:=by apply Array.toList_inj.1;simp[<-hargs]
     have e2:ats = #[t,t]:=by apply Array.toList_inj.1;simp[hats]
     rw[e1,e2];simp[builtin,hr]
    have hfx:∀j∈q.2,j∈r.foot:=by
     intro j hj;unfold appendA2 at h7;split at h7
     .rw[ycc h7];exact hj
     .obtain⟨b,hb,h8⟩:=yg h7;unfold appSome at h8;split at h8
      .obtain⟨_,h9⟩:=ybd h8;rw[ybe]at h9;split at h9
       .unfold appIn at h9;obtain⟨_,h10⟩:=ybd h9;rw[ybp]at h10;cases h10
        simp[hj]
       .unfold appOut at h9;rw[ybe]at h9;split at h9
        .rw[ycc h9];simp[hj]
        .obtain⟨old,_,h10⟩:=yg h9;rw[ycc h10];simp[hj]
      .cases h8
     .cases h7
    obtain⟨xa,xc,new',k1,k2,k3,k4⟩:=ybop hq vs2 hR (fun j hj=>hm j (hfx j hj)) hx0;subst k1;unfold appendA2 at h7;split at h7
    .have hf:φ m.next=none:=hf (by rw[ycc h7];rfl)
     rw[ycc h7];have e1:=vs1.eq_simple rfl;subst e1;have hlen':new'.length=lenA x*i.size:=by rw[<-k2.length];exact k3
     have c1:lenA x*i.bytes<=100000000:=by have:=c1;rw[show lenA (Value.slice none 0 0)=0 from rfl,zX]at this;exact this
     have c2:lenA x<=100000000:=by have:=c2;rw[show lenA (Value.slice none 0 0)=0 from rfl,zX]at this;exact this
     have hrun:=run_append_nil (P:=P) w t o.type elem i zv hd hi z1 xa (lenA x) xc new' hlen' k4 (by omega) (by omega) (by omega)
     have hge:=grownCap_ge w (lenA x) 0 elem;have hxl:lenA x<=100000000:=c2;have hgl:=grownCap_le_maxLen w (lenA x) 0 elem (by unfold maxLen;omega)
     refine ychl (P:=P) hR hf (elem:=elem) (need:=lenA x) (cap:=grownCap w (lenA x) 0 elem) (sz:=i.size) (all:=q.1) (all':=new') (rest:=(Builtin.zeroCells zv.cells (grownCap w (lenA x) 0 elem-lenA x)).toList)
      k2 (by
       refine hex _ _ ?_;rw[hrun];congr 3;apply Array.toList_inj.1;simp) hge (by unfold maxLen at hgl;exact hgl) (by
       rw[k3,ybzs hzs,<-zAA];congr 1;omega) rfl (fun j v _ hg=>yko hg)
    .rename_i a sLen sCap
     obtain⟨b,hb,h8⟩:=yg h7;exact ybpn hd hi z1 hzs h8 hb hm hR hf vs1 k3 k2 k4 c5 c1 c2 hx0 hex
    .cases h7
  .cases h4
 .cases h2
theorem ydys {args:Array Operand}{ats:Array TypeId}(hop:o.op = .call { callee:=.builtin .len,args:=args,argTypes:=ats }) (h:(ob (valsA f args.toList) fun vs=>evLen P f o vs ats.toList)=some r)
 (hR:Rel φ M w) (hv:OV φ f o ρ):OpOk P (execOp ρ o) φ M w next r.v r.e:=by
 obtain⟨vs,hvs,h2⟩:=yg h
 clear h
 have hvl:=ydx (φ:=φ) (ρ:=ρ) hvs (fun x hx=>hv x (by rw[hop];simp[Op.operands,Call.operands];simpa using hx))
 unfold evLen at h2;split at h2
 .rename_i sa n c t hats
  obtain⟨d,hd,h3⟩:=yg h2;obtain⟨s',hargs,v1⟩:=ygi hvl;split at h3
  .rename_i elem
   rw[ybp]at h3;rw[yfl h3]
   have hs:∃A c',s' = .slice A n c':=by
    cases v1 with
    |simple hs=>exact⟨_,_,rfl⟩
    |slice _ _ _ _ _=>exact⟨_,_,rfl⟩
   obtain⟨A,c',rfl⟩:=hs;refine OpOk.value hR (v':=.int .i64 (.ofNat n)) ?_ (.simple rfl);rw[yhx hop];have e1:args.map ρ = #[.slice A n c']:=by apply Array.toList_inj.1;simp[<-hargs]
   have e2:ats = #[t]:=by apply Array.toList_inj.1;simp[hats]
   rw[e1,e2];simp[builtin,Builtin.len_,run_underlying hd,goInt]
  .cases h3
 .exact ymv (by rw[hop];simp) h2 hR hv
theorem yxo{k:Nat}{es:Array MapEntry}{cl:Nat}(h:w.heap[k]?=some (.map es cl)):(getObj k).run P w = .ok (.map es cl) w:=by
 simp[getObj,zQ,h]
theorem VR.map_inv{b:Nat}{v':Value}(h:VR φ (.map (some b)) v'):∃l,φ b=some l/\v' = .map (some l.blk):=by
 cases h with
 |simple h=>simp[Ev.simple]at h
 |map h=>exact⟨_,h,rfl⟩
theorem Rel.mapAt(hR:Rel φ M w){i:Nat}{es:Array MapEntry}{cl:Nat}{l:Loc}(h:M i=some (.map es cl))(hl:φ i=some l):w.heap[l.blk]?=some (.map es cl):=by
 obtain⟨l',h1,h2⟩:=hR.blk i _ h;rw[hl]at h1;cases h1
 exact h2
theorem ybwn {t:TypeId}{x k:Operand}{ok:Bool}(hop:o.op = .lookup t x k ok) (h:(ob (f.get k) fun k=>ob (P.underlying t) fun d=>ob (f.get x) (evLookup P m k ok d))=some r)
 (hR:Rel φ M w) (hv:OV φ f o ρ) (hm:∀i∈r.foot,∀b,m.b.get i=some b->M i=some b):OpOk P (execOp ρ o) φ M w next r.v r.e:=by
 obtain⟨kv,hk,h2⟩:=yg h;obtain⟨d,hd,h3⟩:=yg h2;obtain⟨xv,hx,h4⟩:=yg h3
 clear h h2 h3
 have v1:=hv k (by rw[hop];simp[Op.operands]) _ hk
 have v2:=hv x (by rw[hop];simp[Op.operands]) _ hx
 unfold evLookup at h4;split at h4
 .rename_i key elem q
  obtain⟨ha,h5⟩:=ybd h4;obtain⟨b,hb,h6⟩:=yg h5
  clear h4 h5
  unfold evLookup1 at h6;split at h6
  .rename_i es cl
   obtain⟨v,hrun,h7⟩:=yg h6;obtain⟨hat,h8⟩:=ybd h7;cases h8
   obtain⟨l,hl,e2⟩:=v2.map_inv;have e1:=v1.eq_atomA ha;have hobj:=hR.mapAt (hm q (by simp) _ hb) hl
   refine OpOk.value hR (v':=v) ?_ (VR.atomR hat);have hr:=yjt P _ _ hrun w
   have key:(Instr.lookup t (.map (some l.blk)) kv ok).run P w = .ok v w:=by
    simp only[Instr.lookup,zC,run_underlying hd,zA,yxo hobj,zG];unfold mapGet at hr;simp only[zC]at hr;exact hr
   unfold execOp;rw[hop];simp only[e1,e2,zC,key,zA,zG]
  .cases h6
 .cases h4
theorem Rel.setObj(hR:Rel φ M w){i:Nat}{b:ABlk}{l:Loc}{es:Array MapEntry}{cl:Nat}(hb:M i=some b)(hl:φ i=some l)(hlt:l.blk<w.heap.size) :
 Rel φ (upd M i (some (.map es cl))) { w with heap:=w.heap.setIfInBounds l.blk (.map es cl) }/\WG φ M w φ (upd M i (some (.map es cl))) { w with heap:=w.heap.setIfInBounds l.blk (.map es cl) }:=by
 have oth:∀k,k≠l.blk->(w.heap.setIfInBounds l.blk (.map es cl))[k]?=w.heap[k]?:=fun k hk=>by rw[zS,if_neg (fun e=>hk e.symm)]
 refine Rel0.step hR ⟨⟨fun j x hx=>?_,fun j k x y lj lk hne hx hy hj hk=>?_⟩,⟨rfl,rfl,rfl,by simp,fun k hk hn=>oth k (fun e=>hn ⟨i,b,l,hb,hl,e.symm⟩),fun k hk h=>?_⟩⟩
 .unfold upd at hx
  by_cases e:j=i
  .subst e;rw[if_pos rfl]at hx;cases hx
   exact⟨l,hl,by show(w.heap.setIfInBounds l.blk _)[l.blk]?=_;simp[hlt]⟩
  .rw[if_neg e]at hx;obtain⟨lj,h1,h2⟩:=hR.blk j x hx;exact⟨lj,h1,h2.keep (oth _ (hR.inj j i x b lj l e hx hb h1 hl))⟩
 .unfold upd at hx hy
  by_cases e:j=i
  .subst e;rw[if_neg (fun q=>hne q.symm)]at hy;exact hR.inj j k b y lj lk hne hb hy hj hk
  .rw[if_neg e]at hx
   by_cases e2:k=i
   .subst e2;exact hR.inj j k x b lj lk hne hx hb hj hk
   .rw[if_neg e2]at hy;exact hR.inj j k x y lj lk hne hx hy hj hk
 .obtain⟨j,x,lj,hx,hj,hk'⟩:=h;unfold upd at hx
  by_cases e:j=i
  .subst e;exact⟨j,b,lj,hb,hj,hk'⟩
  .rw[if_neg e]at hx;exact⟨j,x,lj,hx,hj,hk'⟩
theorem ybqz{k:Nat}{es es':Array MapEntry}{cl cl':Nat}(h:w.heap[k]?=some (.map es cl)):(setObj k (.map es' cl')).run P w = .ok () { w with heap:=w.heap.setIfInBounds k (.map es' cl') }:=by
 simp[setObj,zQ,h]
theorem ybcc {t:TypeId}{x k v:Operand}(hop:o.op = .mapUpdate t x k v) (h:(ob (f.get k) fun k=>ob (f.get v) fun v=>ob (P.underlying t) fun d=>ob (f.get x) (evMapSet P m k v d))=some r)
 (hR:Rel φ M w) (hv:OV φ f o ρ) (hm:∀i∈r.foot,∀b,m.b.get i=some b->M i=some b):OpOk P (execOp ρ o) φ M w next r.v r.e:=by
 obtain⟨kv,hk,h1⟩:=yg h;obtain⟨vv,hvv,h2⟩:=yg h1;obtain⟨d,hd,h3⟩:=yg h2;obtain⟨xv,hx,h4⟩:=yg h3
 clear h h1 h2 h3
 have v1:=hv k (by rw[hop];simp[Op.operands]) _ hk
 have v2:=hv x (by rw[hop];simp[Op.operands]) _ hx
 have v3:=hv v (by rw[hop];simp[Op.operands]) _ hvv
 unfold evMapSet at h4;split at h4
 .rename_i key elem q
  obtain⟨ha,h5⟩:=ybd h4;obtain⟨b,hb,h6⟩:=yg h5
  clear h4 h5
  simp only[zF]at ha;unfold evMapSet1 at h6;split at h6
  .rename_i es cl
   obtain⟨p,hrun,h7⟩:=yg h6;cases h7
   obtain⟨l,hl,e2⟩:=v2.map_inv;have e1:=v1.eq_atomA ha.1;have e3:=v3.eq_simple ha.2;have hM:=hm q (by simp) _ hb
   have hobj:=hR.mapAt hM hl;have hr:=yjt P _ _ hrun w;have hres:=hR.setObj (es:=p.1) (cl:=p.2) hM hl (Array.getElem?_eq_some_iff.1 hobj).1;refine⟨φ,_,.skip,?_,rfl,φ.le_refl,fun _ _=>rfl,fun _=>rfl,hres.1,hres.2⟩
   have key:(Instr.mapUpdate t (.map (some l.blk)) kv vv).run P w=((mapSet key es cl kv vv).run P w).andThen (fun p w'=>(setObj l.blk (.map p.1 p.2)).run P w'):=by
    simp only[Instr.mapUpdate,mapSet,zC,run_underlying hd,zA,yxo hobj];cases hck:(Instr.checkKey false 10000 key kv).run P w with
    |halt a b=>rfl
    | ok u w1 =>
      simp only[zA];cases hfk:(Instr.findKey key kv es.toList).run P w1 with
      |halt a b=>rfl
      | ok q w2 =>
        simp only[zA];cases q with
        |none=>rfl
        | some q =>
          obtain⟨i,q⟩:=q;simp only[zC];cases(Instr.keyThatStays (((es[i]?).map (·.key)).getD kv) kv).run P w2 with
          |halt a b=>rfl
          |ok k2 w3=>rfl
   rw[hr,zA,ybqz hobj]at key;unfold execOp;rw[hop];simp only[e1,e2,e3,zC,key,zA,zG]
  .cases h6
 .cases h4
theorem ybqs{t:TypeId}(hop:o.op = .makeMap t none)(hR:Rel φ M w)(hf:φ m.next=none):OpOk P (execOp ρ o) φ M w m.next (.map (some m.next)) (.new (.map #[] 0)):=by
 have:=hR.new (l:=⟨w.heap.size,0,0,0,none⟩) (b:=.map #[] 0) (o:=.map #[] 0) hf rfl (yjx w _);refine⟨_,_,.value (.map (some w.heap.size)),?_,VR.map (l:=⟨w.heap.size,0,0,0,none⟩) (ycj _ _),yjh hf,fun i hi=>ydd _ hi,fun h=>(by cases h),this.1,this.2⟩
 unfold execOp;rw[hop];simp[Instr.makeMap,newObj,zQ]
theorem yvb{t:TypeId}{len:Nat}{parts:Array (Nat×Operand)}(h:(ob (partsA f parts.toList) fun ps=>ob (P.underlying t) (evBuildSlice P m len ps))=some r):r.e.adds=true:=by
 obtain⟨_,_,h⟩:=yg h;obtain⟨_,_,h⟩:=yg h;unfold evBuildSlice at h;split at h
 .obtain⟨_,_,h⟩:=yg h;obtain⟨_,_,h⟩:=yg h;obtain⟨_,h⟩:=ybd h;obtain⟨_,_,h⟩:=yg h;cases h;rfl
 .cases h
theorem yvx{t:TypeId}{x y:Operand}(h:(ob (f.get x) fun l=>ob (f.get y) (evMakeSlice P t m l))=some r):r.e.adds=true:=by
 obtain⟨_,_,h⟩:=yg h;obtain⟨_,_,h⟩:=yg h;unfold evMakeSlice at h;split at h
 .obtain⟨_,_,h⟩:=yg h;unfold evMakeSlice1 at h;split at h
  .obtain⟨_,_,h⟩:=yg h;obtain⟨_,_,h⟩:=yg h;obtain⟨_,h⟩:=ybd h;cases h;rfl
  .cases h
 .cases h
theorem yye(h:evOp P f o m=some r)(hR:Rel φ M w)(hv:OV φ f o ρ)(hm:∀i∈r.foot,∀b,m.b.get i=some b->M i=some b)(hf:r.e.adds=true->φ m.next=none):OpOk P (execOp ρ o) φ M w m.next r.v r.e:=by
 unfold evOp at h;split at h
 .rename_i x hop;exact ycdw (.inl hop) h hR hv
 .rename_i x hop;exact ycdw (.inr hop) h hR hv
 .rename_i c a b hop;exact ydjf hop h hR hv
 .rename_i t hop;exact ycfu hop h hR (hf (by obtain⟨_,_,h⟩:=yg h;obtain⟨_,_,h⟩:=yg h;cases h;rfl))
 .rename_i t x hop;exact ydpm hop h hR hv (hf (by obtain⟨_,_,h⟩:=yg h;obtain⟨_,h⟩:=ybd h;cases h;rfl))
 .rename_i t ps hop;exact ycfv hop h hR hv
 .rename_i t len ps hop;exact yyx hop h hR hv (hf (yvb h))
 .rename_i t a hop;exact ydgh hop h hR hv hm
 .rename_i t a x hop;exact ycjh hop h hR hv hm
 .rename_i x hop;exact ybib hop h hR hv
 .rename_i s x k hop;exact ybeo hop h hR hv
 .rename_i t x k hop;exact yclz hop h hR hv
 .rename_i t x k hop;exact ybdn hop h hR hv
 .rename_i x k hop;exact ybqo hop h hR hv
 .rename_i fn a b hop;exact ybgq hop h hR hv
 .rename_i t l c hop;exact ybcj hop h hR hv (hf (yvx h))
 .rename_i t x lo hi hop;exact ok_slice hop h hR hv hm
 .rename_i t hop;cases h;exact ybqs hop hR (hf rfl)
 .rename_i t x k b hop;exact ybwn hop h hR hv hm
 .rename_i t x k v hop;exact ybcc hop h hR hv hm
 .rename_i c hop
  obtain⟨callee,args,ats⟩:=c;unfold evCallB at h;simp only at h;split at h
  .exact ydys hop h hR hv
  .exact ycej hop h hR hv hm hf
  .exact ymv (by rw[hop];simp) h hR hv
  .exact ymv (by rw[hop];simp) h hR hv
  .cases h
 .rename_i hop;exact ymv (by rw[hop];simp) h hR hv
 .rename_i hop;exact ymv (by rw[hop];simp) h hR hv
 .rename_i hop;exact ymv (by rw[hop];simp) h hR hv
 .rename_i hop;exact ymv (by rw[hop];simp) h hR hv
 .cases h
end
end Ev
end
end Go.Proofs.YthclbjjgfcgbgaaGreatDoor
