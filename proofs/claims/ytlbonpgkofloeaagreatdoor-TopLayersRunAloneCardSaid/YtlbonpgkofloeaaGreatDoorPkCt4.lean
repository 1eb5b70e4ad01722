/- Joined. -/
import Derived.Lib.Hide
import Derived.Test.YtlbonpgkofloeaaGreatDoorRows
import Derived.WalkSpells
import Derived.BigQuiet
import Derived.Deep.LoopGhost
import Derived.Deep.OwnRows
import Derived.Test.YtlbonpgkofloeaaGreatDoorPkCt1
set_option linter.unusedSimpArgs false
set_option linter.unusedVariables false
open Go.Proofs.Tryz renaming prog->zA,underlying194->zL,underlying236->zQ,underlying3->zAD,func243->zAN
open Go.Lib renaming hid->zB
open List renaming getElem?_eq_getElem->zC,eq_nil_of_length_eq_zero->zJ,getD->zN,nodup_append->zT,take_length->zU,mem_of_getElem?->zY,length_append->zZ,length_cons->zAC,mapIdx_cons->zAE,map_append->zAG,range->zAH,find?_cons->zAI,replicate->zAJ,map_cons->zAK,map_nil->zAL,range'->zAO
open Go.Result renaming andThen_ok->zD
open Array renaming getElem?_setIfInBounds->zF,getElem?_modify->zW,mem_of_getElem?->zX,getElem_mem->zAA,mem_filter->zAF
open Go.Sem renaming run_bind->zG,run_pure->zH,run->zM
open Nat renaming le_refl->zI,le_of_ble_eq_true->zK,mul_one->zO,add_assoc->zS,add_mul->zAB,le_trans->zAM
open Bool renaming cond_eq_ite->zV
open Int renaming toNat->zAP
open Go
namespace Go.Proofs.YtlbonpgkofloeaaGreatDoor
section
open Go.RowKit
def I64(n:Int):Prop:=-9223372036854775808<=n/\n<=9223372036854775807
abbrev Elem(α:Type):=World->Nat->Nat->α->Prop
def SlAt{α:Type}(size:Nat)(E:Elem α)(w:World)(v:Value)(xs:List α):Prop :=
 ∃ (A:Option Addr) (c:Nat),v = .slice A xs.length c/\xs.length<=c/\c<=9223372036854775807 /\
   (0<xs.length->∃b a,A=some ⟨b,a,none⟩/\b<w.heap.size/\∀j x,xs[j]?=some x->E w b (a+j*size) x)
def intE:Elem Int:=fun w b o x=>w.cell? ⟨b,o,none⟩=some (.int .i64 x)/\I64 x
def yczu:Elem (Int×Int):=fun w b o x=>w.cell? ⟨b,o,none⟩=some (.int .i64 x.1)/\w.cell? ⟨b,o+1,none⟩=some (.int .i64 x.2)/\I64 x.1/\I64 x.2
def slE{α:Type}(size:Nat)(E:Elem α):Elem (List α):=fun w b o xs=>∃v,w.cell? ⟨b,o,none⟩=some v/\SlAt size E w v xs
def Stable{α:Type}(E:Elem α):Prop:=∀w w' b o x,(∀a v,w.cell? a=some v->w'.cell? a=some v)->w.heap.size<=w'.heap.size->E w b o x->E w' b o x
abbrev ynw:=SlAt 1 intE
abbrev ybzy:=SlAt 2 yczu
abbrev ybcj:=SlAt 1 (slE 2 yczu)
abbrev ycty:=SlAt 1 (slE 1 intE)
structure Gr where
 ids:List Int
 ports:List (List (Int×Int))
def GrAt(w:World)(v:Value)(g:Gr):Prop:=∃i p,v = .agg #[i,p]/\ynw w i g.ids/\ybcj w p g.ports
section
variable {α:Type}{E:Elem α}{size:Nat}{w w':World}{v:Value}{xs:List α}
theorem Stable.int:Stable intE:=fun _ _ _ _ _ h _ a=>⟨h _ _ a.1,a.2⟩
theorem Stable.link:Stable yczu:=fun _ _ _ _ _ h _ a=>⟨h _ _ a.1,h _ _ a.2.1,a.2.2⟩
theorem SlAt.keep(m:Stable E)(h:SlAt size E w v xs)(hk:∀a u,w.cell? a=some u->w'.cell? a=some u)(e:w.heap.size<=w'.heap.size):SlAt size E w' v xs:=by
 obtain⟨A,c,f,g,i,k⟩:=h;refine⟨A,c,f,g,i,fun o=>?_⟩;obtain⟨b,d,rfl,n,l⟩:=k o;exact⟨b,d,rfl,Nat.lt_of_lt_of_le n e,fun j x p=>m _ _ _ _ _ hk e (l j x p)⟩
theorem Stable.sl(a:Stable E):Stable (slE size E):=by
 rintro w w' b o x h d ⟨v,c,e⟩;exact⟨v,h _ _ c,e.keep a h d⟩
theorem yml(b:Below w.heap.size w w'):∀a u,w.cell? a=some u->w'.cell? a=some u :=
 fun a _ h=>(b.cell (World.block_lt_of_cell? w a h)).trans h
theorem SlAt.below(b:Stable E)(h:SlAt size E w v xs)(a:Below w.heap.size w w'):SlAt size E w' v xs:=h.keep b (yml a) a.size
theorem SlAt.nil(w:World):SlAt size E w (.slice none 0 0) []:=⟨none,0,rfl,zI _,by omega,fun h=>absurd h (by simp)⟩
end
theorem GrAt.below{w w':World}{v:Value}{g:Gr}(h:GrAt w v g)(a:Below w.heap.size w w'):GrAt w' v g:=by
 obtain⟨i,p,rfl,b,c⟩:=h;exact⟨i,p,rfl,b.below Stable.int a,c.below (Stable.sl Stable.link) a⟩
end
section
open Go.RowKit
theorem yxe{k:IntKind}{a b:Int}(h:a=b):Ending.returned (.int k a) = .returned (.int k b):=by rw[h]
theorem ybt{a b:Bool}(h:a=b):Ending.returned (.bool a) = .returned (.bool b):=by rw[h]
theorem box2{w wr:World}{x y:Value}{t:TypeId}(h:Below (w.heap.size+1) (w.alloc (.cells #[x,y] t)) wr) :
 wr.cell? ⟨w.heap.size,0,none⟩=some x/\wr.cell? ⟨w.heap.size,1,none⟩=some y/\Below w.heap.size w wr/\w.heap.size<wr.heap.size:=by
 refine⟨(h.cell (by simp)).trans (by simp),(h.cell (by simp)).trans (by simp),?_,?_⟩
 .exact((Below.refl _ w).alloc (zI _) _).trans (h.mono (by omega))
 .have:=h.size;simp at this;omega
theorem below_drewN{B:Nat}{a w:World}(h:Below B a w)(n:Nat):Below B a (w.drewN n):=⟨h.os,h.tape,h.output,h.size,h.block⟩
theorem ywg{w a:World}{o:Obj}(b:Below (w.alloc o).heap.size (w.alloc o) a):Below w.heap.size w a:=((Below.refl _ w).alloc (zI _) o).trans (b.mono (by simp))
theorem ycth{w a:World}{x y:Value}{t:TypeId}(b:Below (w.alloc (.cells #[x,y] t)).heap.size (w.alloc (.cells #[x,y] t)) a):a.cell? ⟨w.heap.size,0,none⟩=some x/\a.cell? ⟨w.heap.size,1,none⟩=some y :=
 ⟨yml b _ _ (by simp),yml b _ _ (by simp)⟩
theorem ynw.at_{w:World}{v:Value}{xs:List Int}(h:ynw w v xs){k:Nat}(hk:k<xs.length) :
 ∃b off c,v = .slice (some ⟨b,off,none⟩) xs.length c/\b<w.heap.size/\xs.length<=c/\c<=9223372036854775807/\w.cell? ⟨b,off+k,none⟩=some (.int .i64 xs[k])/\I64 xs[k]:=by
 obtain⟨A,c,rfl,a,d,e⟩:=h;obtain⟨b,off,rfl,g,f⟩:=e (by omega)
 have:=f k xs[k] (zC hk);rw[zO]at this;exact⟨b,off,c,rfl,g,a,d,this.1,this.2⟩
theorem yct{b:Type}{a:Nat}{E:Elem b}{w:World}{v:Value}{xs:List b}(h:SlAt a E w v xs):∃A c,v = .slice A xs.length c/\xs.length<=c/\c<=9223372036854775807:=by
 obtain⟨A,c,rfl,d,e,_⟩:=h;exact⟨A,c,rfl,d,e⟩
end
section
def yoi(ls:List (Int×Int))(u:Int):Int:=match ls.findIdx? (fun l=>l.1==u)with|some i=>i|none=>-1
def ymo(v n:Int)(l:Int×Int):Prop:=0<=l.1/\l.1<=n-1/\l.1≠v/\1<=l.2/\l.2<=15
instance(v n:Int)(l:Int×Int):Decidable (ymo v n l):=by unfold ymo;infer_instance
def ydy(ls:List (Int×Int))(v n:Int):Prop:=(∀l∈ls,ymo v n l)/\(ls.map (·.1)).Nodup
instance(ls:List (Int×Int))(v n:Int):Decidable (ydy ls v n):=by unfold ydy;infer_instance
theorem take_snoc{a:Type}(l:List a)(k:Nat)(h:k<l.length):l.take (k+1)=l.take k++[l[k]]:=by
 rw[List.take_succ_eq_append_getElem h]
theorem ybgf(ls:List (Int×Int))(v n:Int)(k:Nat)(h:k<ls.length) :
 ydy (ls.take (k+1)) v n↔ydy (ls.take k) v n/\ymo v n ls[k]/\∀j (g:j<k),(ls[j]).1≠(ls[k]).1:=by
 unfold ydy;rw[take_snoc ls k h];simp only[List.mem_append,List.mem_singleton,zAG,zAK,zAL,zT];constructor
 .rintro⟨d,e,_,f⟩;refine⟨⟨fun l c=>d l (.inl c),e⟩,d _ (.inr rfl),fun j g=>?_⟩;refine f _ ?_ _ (by simp)
  exact List.mem_map.2 ⟨ls[j],List.mem_take_iff_getElem.2 ⟨j,by omega,rfl⟩,rfl⟩
 .rintro⟨⟨d,e⟩,f,i⟩;refine⟨?_,e,by simp,?_⟩
  .rintro l (c|rfl)
   .exact d l c
   .exact f
  .intro a m b o;obtain⟨l,c,rfl⟩:=List.mem_map.1 m;obtain⟨j,g,rfl⟩:=List.mem_take_iff_getElem.1 c;subst o;exact i j (by omega)
theorem ybff(ls:List (Int×Int))(v n:Int)(k:Nat)(h:ydy ls v n):ydy (ls.take k) v n:=by
 refine⟨fun l a=>h.1 l (List.mem_of_mem_take a),?_⟩;rw[List.map_take];exact h.2.sublist (List.take_sublist _ _)
theorem ybte(ls:List (Int×Int))(u:Int)(k:Nat)(hk:k<ls.length)(h:ls[k].1=u)(a:(ls.take k).findIdx? (fun l=>l.1==u)=none):yoi ls u=k:=by
 unfold yoi
 have:ls.findIdx? (fun l=>l.1==u)=some k:=by
  rw[List.findIdx?_eq_some_iff_getElem];refine⟨hk,by simp[h],fun j b=>?_⟩
  rw[List.findIdx?_eq_none_iff]at a;have:=a ls[j] (List.mem_take_iff_getElem.2 ⟨j,by omega,rfl⟩)
  simp[this]
 rw[this]
theorem yboe(ls:List (Int×Int))(u:Int)(a:(ls.take ls.length).findIdx? (fun l=>l.1==u)=none):yoi ls u = -1:=by
 rw[zU]at a;unfold yoi;rw[a]
theorem ybid(ls:List (Int×Int))(u:Int)(k:Nat)(hk:k<ls.length)(h:¬ls[k].1=u)(a:(ls.take k).findIdx? (fun l=>l.1==u)=none):(ls.take (k+1)).findIdx? (fun l=>l.1==u)=none:=by
 rw[take_snoc ls k hk,List.findIdx?_append,a];simp[h]
end
section
def ybe(g:Gr):Prop :=
 1 <= g.ports.length/\g.ports.length<=24/\g.ids.length=g.ports.length/\(∀x∈g.ids,0<=x/\x<=255)/\g.ids.Nodup /\
   (∀v:Fin g.ports.length,ydy g.ports[v] (v.1:Int) (g.ports.length:Int))/\(∀v:Fin g.ports.length,∀l∈g.ports[v],((v.1:Int),l.2)∈g.ports.getD l.1.toNat [])
instance(g:Gr):Decidable (ybe g):=by unfold ybe;infer_instance
def yhc(g:Gr):Bool:=decide (ybe g)
theorem ycm(g:Gr):yhc g=true↔ybe g:=by simp[yhc]
theorem ybmi(n:Nat)(l:List Int)(h:∀x∈l,0<=x/\x<n)(j:l.Nodup):l.length<=n:=by
 have d:(l.map zAP).Nodup:=by
  rw[List.Nodup,List.pairwise_map];refine(List.Pairwise.and_mem.1 j).imp ?_;rintro a b ⟨g,i,c⟩ e;have:=h a g;have:=h b i;exact c (by omega)
 have f:(l.map zAP) ⊆ zAH n:=by
  intro x k;obtain⟨y,m,rfl⟩:=List.mem_map.1 k;have:=h y m;simp;omega
 have:=List.Nodup.length_le_of_subset d f
 simpa using this
theorem ybne{ls:List (Int×Int)}{v n:Nat}(f:v<n)(h:ydy ls (v:Int) (n:Int)):ls.length<n:=by
 have c:((v:Int)::ls.map (·.1)).Nodup:=by
  rw[List.nodup_cons];refine⟨fun d=>?_,h.2⟩;obtain⟨l,a,e⟩:=List.mem_map.1 d;exact(h.1 l a).2.2.1 e
 have:=ybmi n ((v:Int)::ls.map (·.1)) (by
  intro x b;rcases List.mem_cons.1 b with rfl|b
  .omega
  .obtain⟨l,a,rfl⟩:=List.mem_map.1 b;have:=h.1 l a;unfold ymo at this;omega) c
 simp at this;omega
theorem ybbw{ls:List (Int×Int)}{u:Int}:yoi ls u = -1\/∃k:Nat,yoi ls u=k/\k<ls.length:=by
 unfold yoi;split
 .rename_i i b
  obtain⟨a,c,_⟩:=List.findIdx?_eq_some_iff_getElem.1 b;exact .inr ⟨i,rfl,a⟩
 .exact .inl rfl
theorem yjf{g:Gr}(h:¬(1<=g.ports.length/\g.ports.length<=24/\g.ids.length=g.ports.length)):yhc g=false:=by
 unfold yhc;rw[decide_eq_false_iff_not];exact fun a=>h ⟨a.1,a.2.1,a.2.2.1⟩
end
section
open Go.RowKit
theorem ypi{d:Type}{a:Nat}{E:Elem d}{w:World}{A:Option Addr}{c n:Nat}{xs:List (List d)}(h:SlAt 1 (slE a E) w (.slice A n c) xs){k:Nat}{ls:List d}(hk:xs[k]?=some ls) :
 ∃b off v,A=some ⟨b,off,none⟩/\b<w.heap.size/\w.cell? ⟨b,off+k,none⟩=some v/\SlAt a E w v ls:=by
 obtain⟨o,p,e,q,r,g⟩:=h;cases e
 have l:=(List.getElem?_eq_some_iff.1 hk).1;obtain⟨b,off,rfl,j,i⟩:=g (by omega)
 obtain⟨v,f,m⟩:=i k ls hk;rw[zO]at f;exact⟨b,off,v,rfl,j,f,m⟩
theorem ylv{w:World}{A:Option Addr}{c n:Nat}{xs:List Int}(h:ynw w (.slice A n c) xs){k:Nat}(hk:k<xs.length) :
 ∃b off,A=some ⟨b,off,none⟩/\b<w.heap.size/\w.cell? ⟨b,off+k,none⟩=some (.int .i64 xs[k])/\I64 xs[k]:=by
 obtain⟨b,off,g,e,a,_,_,d,f⟩:=h.at_ hk;cases e
 exact⟨b,off,rfl,a,d,f⟩
end
section
open Go.RowKit
def IBlk(w:World)(g:Nat)(R:List Int):Prop:=w.heap[g]?=some (.cells (R.map (Value.int .i64)).toArray 3 (0,0))
section
variable {w w':World}{g:Nat}{R:List Int}
theorem IBlk.lt(h:IBlk w g R):g<w.heap.size:=(Array.getElem?_eq_some_iff.1 h).1
theorem IBlk.cell(h:IBlk w g R){k:Nat}(hk:k<R.length):w.cell? ⟨g,k,none⟩=some (.int .i64 R[k]):=by
 simp[World.cell?,show w.heap[g]?=_ from h,hk]
theorem IBlk.frozen(h:IBlk w g R)(k:Nat):w.frozen? ⟨g,k,none⟩=false:=by simp[World.frozen?,show w.heap[g]?=_ from h]
theorem IBlk.set_(h:IBlk w g R)(k:Nat)(x:Int):IBlk (w.setCell ⟨g,k,none⟩ (.int .i64 x)) g (R.set k x):=by
 have a:w.heap[g]?=_:=h;unfold IBlk;simp[World.setCell,zW,a,List.map_set]
theorem IBlk.alloc(h:IBlk w g R)(o:Obj):IBlk (w.alloc o) g R:=(Below.heap_alloc w o g h.lt).trans h
theorem IBlk.drew(h:IBlk w g R):IBlk w.drew g R:=h
theorem IBlk.grown{row:Option Nat}(h:IBlk w g R)(a:w.grownBy w' row)(b:some g≠row):IBlk w' g R:=(a.block g h.lt b).trans h
theorem IBlk.ints(h:IBlk w g R)(b:∀x∈R,I64 x)(d:R.length<=1000000):ynw w (.slice (some ⟨g,0,none⟩) R.length R.length) R:=by
 refine⟨_,_,rfl,zI _,by omega,fun f=>⟨g,0,rfl,h.lt,fun j x a=>?_⟩⟩
 obtain⟨c,e⟩:=List.getElem?_eq_some_iff.1 a;refine⟨?_,b x (zY a)⟩;rw[zO,Nat.zero_add,h.cell c,e]
end
def Owns(w:World)(base:Nat)(e:TypeId)(size:Nat)(v:Value)(n:Nat)(xs:List Value):Prop :=
 xs.length=n*size/\((v = .slice none 0 0/\n=0)\/∃g c a b,v = .slice (some ⟨g,c,none⟩) n a/\base<=g/\w.heap[g]?=some (.cells b e (0,0))/\n<=a/\a<=maxLen /\
  c+a*size<=b.size/\∀j u,xs[j]?=some u->b[c+j]?=some u)
section
variable {w w':World}{base:Nat}{e:TypeId}{size:Nat}{v:Value}{n:Nat}{xs:List Value}
theorem Owns.of_row(h:w.ownsRow base e size v n xs):Owns w base e size v n xs:=by
 obtain⟨d,f⟩:=h;refine⟨d,f.imp id ?_⟩;rintro⟨g,b,c,p,i,l,m,k,q,o⟩;refine⟨g,0,b,c,p,i,l,m,k,by omega,fun j u a=>?_⟩
 rw[<-o,List.getElem?_take]at a;split at a
 .simpa using a
 .cases a
theorem Owns.keep(h:Owns w base e size v n xs)(hk:∀g,v.ownBlock=some g->w'.heap[g]?=w.heap[g]?):Owns w' base e size v n xs:=by
 obtain⟨d,f⟩:=h;refine⟨d,f.imp id ?_⟩;rintro⟨g,c,a,b,rfl,i,j,r⟩;exact⟨g,c,a,b,rfl,i,by rw[hk g rfl];exact j,r⟩
theorem Owns.lt(h:Owns w base e size v n xs){g:Nat}(a:v.ownBlock=some g):base<=g/\g<w.heap.size:=by
 rcases h.2 with⟨rfl,_⟩|⟨d,j,b,c,rfl,f,i,_⟩
 .simp[Value.ownBlock]at a
 .obtain rfl:d=g:=by simpa[Value.ownBlock]using a
  exact⟨f,(Array.getElem?_eq_some_iff.1 i).1⟩
theorem Owns.alloc(h:Owns w base e size v n xs)(o:Obj):Owns (w.alloc o) base e size v n xs:=h.keep fun g a=>Below.heap_alloc w o g (h.lt a).2
theorem Owns.far(h:Owns w base e size v n xs){p:Addr}(c:v.ownBlock≠some p.block)(u:Value):Owns (w.setCell p u) base e size v n xs :=
 h.keep fun g b=>Below.heap_setCell w p u g (fun a=>c (by rw[b,a]))
theorem Owns.low(h:Owns w base e size v n xs){p:Addr}(b:p.block<base)(u:Value):Owns (w.setCell p u) base e size v n xs :=
 h.far (fun a=>by have:=(h.lt a).1;omega) u
theorem Owns.drew(h:Owns w base e size v n xs):Owns w.drew base e size v n xs:=h
theorem Owns.form(h:Owns w base e size v n xs)(o:0<n):∃g off cap,v = .slice (some ⟨g,off,none⟩) n cap/\base<=g/\g<w.heap.size/\n<=cap/\cap<=maxLen/\∀j u,xs[j]?=some u->w.cell? ⟨g,off+j,none⟩=some u:=by
 rcases h.2 with⟨rfl,l⟩|⟨g,off,cap,b,rfl,i,a,c,d,m,f⟩
 .omega
 .exact⟨g,off,cap,rfl,i,(Array.getElem?_eq_some_iff.1 a).1,c,d,fun j u k=>by simp[World.cell?,a,f j u k]⟩
theorem Owns.val(h:Owns w base e size v n xs):∃A c,v = .slice A n c:=by
 rcases h.2 with⟨rfl,rfl⟩|⟨g,d,a,b,rfl,_⟩
 .exact⟨_,_,rfl⟩
 .exact⟨_,_,rfl⟩
theorem Owns.cut1{a:Addr}{c:Nat}(h:Owns w base e size (.slice (some a) n c) n xs)(z:0<n){k:Nat}(hk:k<=n) :
 Owns w base e size (.slice (some (if c=k then a else a.add (k*size))) (n-k) (c-k)) (n-k) (xs.drop (k*size)):=by
 obtain⟨q,r⟩:=h;refine⟨by rw[List.length_drop,q,Nat.sub_mul],.inr ?_⟩
 rcases r with⟨e,_⟩|⟨g,d,p,b,e,m,o,y,s,t,x⟩
 .cases e
 .injection e with e1 e2 e3
  injection e1 with e1
  subst e1 e3
  by_cases f:c=k
  .subst f;obtain rfl:n=c:=by omega
   refine⟨g,d,0,b,by simp,m,o,by omega,by omega,by omega,fun j u i=>?_⟩
   rw[List.drop_eq_nil_of_le (by omega)]at i
   simp at i
  .have l:d+k*size+(c-k)*size<=b.size:=by
    rw[zS,<-zAB,show k+(c-k)=c by omega]
    exact t
   refine⟨g,d+k*size,c-k,b,?_,m,o,by omega,by simp only[maxLen]at s ⊢;omega,l,fun j u i=>?_⟩
   .rw[if_neg f,Addr.add_lit]
   .rw[List.getElem?_drop]at i;rw[zS];exact x _ u i
theorem yckl{P:Program}{t:TypeId}(f:P.underlying t=some (.slice e)){i:TypeInfo}(d:P.info? e=some i)(a:i.size=size)(h:Owns w base e size v n xs){k:Nat}(hk:k<=n)(b:0<n) :
 ∃v',(∀W,(Instr.slice t v (some (.int .i64 (k:Int))) none none).run P W = .ok v' W)/\Owns w base e size v' (n-k) (xs.drop (k*size))/\v'.ownBlock=v.ownBlock:=by
 obtain⟨g,j,c,rfl,o,_,m,p,_⟩:=h.form b;refine⟨_,?_,h.cut1 b hk,by simp only[Value.ownBlock];split<;>simp[Addr.add_lit]⟩
 intro W;have l:¬((n:Int)<(k:Int)):=by omega
 simp[Instr.slice,Instr.sliceBounds,Instr.sliceBound,asIntOf,run_underlying f,sizeOf,typeInfo,d,a,hk,go_sem];split<;>simp
end
theorem ypj(b:Nat):∀(a:List Value) (o:Nat) (w:World) (k:Nat),k≠b->(w.setCells b o a).heap[k]?=w.heap[k]?
 |[],_,_,_,_=>rfl
 | v::a,o,w,k,h=>by
   show((w.setCell ⟨b,o,none⟩ v).setCells b (o+1) a).heap[k]?=_;rw[ypj b a (o+1) _ k h,Below.heap_setCell w ⟨b,o,none⟩ v k h]
theorem yli(b:Nat)(e:TypeId):∀(d:List Value) (o:Nat) (w:World) (c:Array Value),w.heap[b]?=some (.cells c e (0,0))->o+d.length<=c.size ->
 ∃a,(w.setCells b o d).heap[b]?=some (.cells a e (0,0))/\a.size=c.size/\(∀j,j<o->a[j]?=c[j]?)/\∀j u,d[j]?=some u->a[o+j]?=some u
 |[],o,w,c,h,_=>⟨c,h,rfl,fun _ _=>rfl,fun j u f=>by simp at f⟩
 | v :: d,o,w,c,h,q=>by
   simp only[zAC]at q;have p:(w.setCell ⟨b,o,none⟩ v).heap[b]?=some (.cells (c.setIfInBounds o v) e (0,0)):=by simp[World.setCell,zW,h]
   obtain⟨a,k,l,i,m⟩:=yli b e d (o+1) (w.setCell ⟨b,o,none⟩ v) (c.setIfInBounds o v) p (by simp;omega)
   refine⟨a,k,by rw[l];simp,fun j r=>?_,fun j u f=>?_⟩
   .rw[i j (by omega),zF,if_neg (by omega)]
   .cases j with
    | zero =>
      rw[i _ (by omega),Nat.add_zero,zF,if_pos rfl,if_pos (by omega)]
      simpa using f
    |succ j=>rw[show o+(j+1)=o+1+j by omega];exact m j u (by simpa using f)
theorem size_setCells(b:Nat):∀(a:List Value) (o:Nat) (w:World),(w.setCells b o a).heap.size=w.heap.size
 |[],_,_=>rfl
 |v::a,o,w=>by show((w.setCell ⟨b,o,none⟩ v).setCells b (o+1) a).heap.size=_;rw[size_setCells b a];simp
theorem ylk(b:Nat):∀(a:List Value) (o:Nat) (w:World),(w.setCells b o a).os=w.os/\(w.setCells b o a).tape=w.tape/\(w.setCells b o a).output=w.output
 |[],_,_=>⟨rfl,rfl,rfl⟩
 | v::a,o,w=>by
   have:=ylk b a (o+1) (w.setCell ⟨b,o,none⟩ v);exact⟨this.1,this.2.1,this.2.2⟩
section
variable {P:Program}(w:World)
theorem yym (base:Nat) (t ty e:TypeId) (i:TypeInfo) (z:Value) (size bytes:Nat) (O:P.underlying t=some (.slice e)) (M:P.info? e=some i) (T:i.zero=some z)
 (o:i.size=size) (A:i.bytes=bytes) (I:z.cells.size=size) (H:0<size)
 (v:Value) (n:Nat) (xs:List Value) (hown:Owns w base e size v n xs)
 (a:Addr) (m c:Nat) (b:List Value) (D:b.length=m*size) (l:∀j u,b[j]?=some u->w.cell? (a.add j)=some u) (U:∀u∈b,u.oneCell'=true)
 (y:n+m<=maxLen) (h:(n+m)*bytes<=140737488355328) (r:base<=w.heap.size) :
 ∃ v' w',(Builtin.append_ #[t,t] ty #[v,.slice (some a) m c]).run P w = .ok v' w'/\Owns w' base e size v' (n+m) (xs++b)/\w.grownBy w' v.ownBlock /\
   (v'.ownBlock=v.ownBlock\/v'.ownBlock=some w.heap.size):=by
 rcases hown.2 with⟨rfl,rfl⟩|⟨g,f,p,x,rfl,hb,L,hn,hc,V,W⟩
 .obtain rfl:xs=[]:=zJ (by simpa using hown.1)
  obtain⟨v',w',d,h2,h3,_,h5⟩:=run_append_own_at (P:=P) w base t ty e i z size bytes O M T o A I H (.slice none 0 0) 0 [] (World.ownsRow_nil w base e size) a m c b D l U y h r;exact⟨v',w',d,Owns.of_row h2,h3,h5⟩
 .by_cases Q:n+m<=p
  .subst o
   have G:f+n*i.size+b.length<=x.size:=by
    rw[D,zS,<-zAB];exact zAM (Nat.add_le_add_left (Nat.mul_le_mul_right _ Q) _) V
   have B:∀j,j<b.length->w.cell? ⟨g,f+n*i.size+j,none⟩=some (x[f+n*i.size+j]!):=fun j N=>by
    have:f+n*i.size+j<x.size:=by omega
    simp[World.cell?,L,this]
   have d:=run_append_room_cells (P:=P) w t ty e i O M g f n p a m c b D l U Q (fun j N=>by rw[B j N];rfl) (fun j _=>by simp[World.frozen?,L])
   obtain⟨q,g1,g2,g3,g4⟩:=yli g e b (f+n*i.size) w x L G;have C:=ylk g b (f+n*i.size) w;refine⟨_,_,d,⟨by rw[zZ,hown.1,D,zAB],.inr ⟨g,f,p,q,rfl,hb,g1,Q,hc,by rw[g2];exact V,fun j u E=>?_⟩⟩,⟨C.1,C.2.1,C.2.2,by rw[size_setCells];exact zI _,fun k _ hk=>?_⟩,.inl rfl⟩
   .by_cases N:j<xs.length
    .rw[List.getElem?_append_left N]at E;rw[g3 _ (by have:=hown.1;omega)]
     exact W j u E
    .rw[List.getElem?_append_right (by omega)]at E
     have:=g4 _ u E;rw[<-this];congr 1;have:=hown.1;omega
   .exact ypj g b _ w k (fun e'=>hk (by simp[Value.ownBlock,e']))
  .have s:∀j u,xs[j]?=some u->w.cell? ((⟨g,f,none⟩:Addr).add j)=some u:=fun j u E=>by
    rw[Addr.add_lit];simp[World.cell?,L,W j u E]
   obtain⟨v',w',d,r1,K⟩:=run_append_arg_grows (P:=P) w t ty e i z size bytes O M T o A I H ⟨g,f,none⟩ n p xs hown.1 s a m c b D l (by omega) y h
   refine⟨v',w',d,?_,⟨K.os,K.tape,K.output,K.size,fun k hk _=>K.block k hk (by simp)⟩,?_⟩
   .have:=Owns.of_row r1;obtain⟨q1,q2⟩:=this;refine⟨q1,q2.imp id ?_⟩;rintro⟨g',J,F,q,X,Y,Z⟩;exact⟨g',J,F,q,X,zAM r Y,Z⟩
   .subst o;subst A;have S:=run_append_grow (P:=P) w t ty e i z O M T ⟨g,f,none⟩ n p xs hown.1 s a m c b D l (by omega) (by simp only[maxLen]at y;omega) (growslice_fits (by omega) h)
    rw[S]at d
    injection d with e1 _
    subst e1;exact .inr rfl
theorem yyq {o:Oper}{a:Act}{K:Act->World->Prop}{Q:Exit->Act->World->Prop}(s x:Operand) (t:TypeId)
 (I:o.op = .call { callee:=.builtin .append,args:=#[s,x],argTypes:=#[t,t] })
 (base:Nat) (e:TypeId) (i:TypeInfo) (z:Value) (size bytes:Nat) (M:P.underlying t=some (.slice e)) (G:P.info? e=some i) (O:i.zero=some z)
 (l:i.size=size) (y:i.bytes=bytes) (B:z.cells.size=size) (A:0<size)
 (v:Value) (n:Nat) (xs:List Value) (L:a.eval s=v) (hown:Owns w base e size v n xs)
 (q:Addr) (m c:Nat) (b:List Value) (N:a.eval x = .slice (some q) m c) (H:b.length=m*size) (k:∀j u,b[j]?=some u->w.cell? (q.add j)=some u) (C:∀u∈b,u.oneCell'=true)
 (r:n+m<=maxLen) (d:(n+m)*bytes<=140737488355328) (f:base<=w.heap.size)
 (h:∀p w',Owns w' base e size p (n+m) (xs++b)->w.grownBy w' v.ownBlock->(p.ownBlock=v.ownBlock\/p.ownBlock=some w.heap.size)->K (a.put o.dst p) w'):o.wp P a w K Q:=by
 obtain⟨p,w',J,D,E,F⟩:=yym (P:=P) w base t o.type e i z size bytes M G O l y B A v n xs hown q m c b H k C r d f;unfold Oper.wp execOp;simp only[I,resolve,invoke,builtin,zG,zH,zD,List.map_toArray,zAK,zAL,L,N,J];exact h p w' D E F
theorem yqc {ops:Array Oper}{rest:List Oper}{o:Oper}{a:Act}{Q:Exit->Act->World->Prop}(A:o.guard=none) (s x:Operand) (t:TypeId)
 (K:o.op = .call { callee:=.builtin .append,args:=#[s,x],argTypes:=#[t,t] })
 (base:Nat) (e:TypeId) (i:TypeInfo) (z:Value) (size bytes:Nat) (M:P.underlying t=some (.slice e)) (I:P.info? e=some i) (O:i.zero=some z)
 (l:i.size=size) (y:i.bytes=bytes) (C:z.cells.size=size) (B:0<size)
 (v:Value) (n:Nat) (xs:List Value) (L:a.eval s=v) (hown:Owns w base e size v n xs)
 (q:Addr) (m c:Nat) (b:List Value) (N:a.eval x = .slice (some q) m c) (J:b.length=m*size) (k:∀j u,b[j]?=some u->w.cell? (q.add j)=some u) (D:∀u∈b,u.oneCell'=true)
 (r:n+m<=maxLen) (d:(n+m)*bytes<=140737488355328) (f:base<=w.heap.size)
 (h:∀p w',Owns w' base e size p (n+m) (xs++b)->w.grownBy w' v.ownBlock->(p.ownBlock=v.ownBlock\/p.ownBlock=some w.heap.size)->wpList P ops Q rest (a.put o.dst p) w'):wpList P ops Q (o::rest) a w :=
 wpList_plain A fun _ H=>yyq w s x t K base e i z size bytes M I O l y C B v n xs L hown q m c b N J k D r d f fun p w' E F G=>H _ _ (h p w' E F G)
end
theorem ybqy:(Tryz.prog.info? 3).map (fun i=>(i.zero,i.size,i.bytes))=some (some (.int .i64 0),1,8):=by kernel_rfl
theorem ybdz(n:Nat):madeCells #[Value.int .i64 0] n=((zAJ n (0:Int)).map (Value.int .i64)).toArray:=by
 apply Array.ext
 .simp[madeCells]
 .intro i a b;simp[madeCells,Nat.mod_one]
theorem ybjd(n:Nat)(a:n<=1000000)(w:World):(Instr.makeSlice 22 (.int .i64 (n:Int)) (.int .i64 (n:Int))).run zA w =
 .ok (.slice (some ⟨w.heap.size,0,none⟩) n n) (w.alloc (.cells ((zAJ n (0:Int)).map (Value.int .i64)).toArray 3)):=by
 rw[<-ybdz];exact run_make_row' 22 3 (.int .i64 0) 8 Tryz.underlying22 ybqy rfl .i64 .i64 n (by omega) (by omega) w
theorem IBlk.new(w:World)(R:List Int):IBlk (w.alloc (.cells (R.map (Value.int .i64)).toArray 3)) w.heap.size R:=heap_alloc_new w _
theorem ycqk{w:World}{v:Value}{t:TypeId}{g:Nat}(b:g=w.heap.size):∀j u,[v][j]?=some u->((w.alloc (.cells #[v] t)).cell? ((⟨g,0,none⟩:Addr).add j))=some u:=by
 intro j u a;subst b;cases j with
 |zero=>simp at a;subst a;rw[Addr.add_lit];simp
 |succ j=>simp at a
def ydba(D:List Int)(w:World)(e:Ending)(w':World):Prop:=∃v,e = .returned v/\ynw w' v D/\Below w.heap.size w w'
end
section
open Go.RowKit
theorem yup(w:World)(a:Array Value)(k:Nat)(v:Value)(h:a[k]?=some v):(part 3 a k).run zA w = .ok v w:=by
 simp[part,h]
theorem ybof(d:Nat)(a b:Int)(w:World):(Op.equalIn (d+1) 3 (.int .i64 a) (.int .i64 b)).run zA w = .ok (a==b) w:=by
 simp[Op.equalIn,run_underlying zAD]
theorem ybgd(n:Nat)(a b c d:Int)(w:World):(Op.equalIn (n+2) 194 (.agg #[.int .i64 a,.int .i64 b]) (.agg #[.int .i64 c,.int .i64 d])).run zA w = .ok (a==c&&b==d) w:=by
 have h:=ybof n;have g:∀x y w,(part 3 #[x,y] 0).run zA w = .ok x w:=fun x y w=>yup w _ 0 x rfl;have i:∀x y w,(part 3 #[x,y] 1).run zA w = .ok y w:=fun x y w=>yup w _ 1 y rfl;unfold Op.equalIn;simp[run_underlying zL,Std.Legacy.Range.forIn_eq_forIn_range',Std.Legacy.Range.size,zAO,g,i,h]
 by_cases e:a=c<;>by_cases f:b=d<;>simp[e,f]
theorem ybth(a b c d:Int)(w:World):(Op.equal 194 (.agg #[.int .i64 a,.int .i64 b]) (.agg #[.int .i64 c,.int .i64 d])).run zA w = .ok (a==c&&b==d) w :=
 ybgd 9998 a b c d w
abbrev Tri:=Int×Int×Int
def ent(i:Nat)(p:Tri):MapEntry:={ key:=.agg #[.int .i64 p.1,.int .i64 p.2.1],val:=.int .i64 p.2.2,born:=i }
def ents(L:List Tri):Array MapEntry:=(L.mapIdx ent).toArray
def hit(x y:Int)(p:Tri):Bool:=x==p.1&&y==p.2.1
def PMap(w:World)(b:Nat)(L:List Tri):Prop:=w.heap[b]?=some (.map (ents L) L.length)
theorem ynx(x y:Int)(w:World):∀(L:List Tri) (f:Nat->Tri->MapEntry) (_:∀i p,(f i p).key = .agg #[.int .i64 p.1,.int .i64 p.2.1]/\(f i p).val = .int .i64 p.2.2) (i:Nat),
 ∃r,(Instr.findAsking 194 (.agg #[.int .i64 x,.int .i64 y]) (L.mapIdx f) i).run zA w = .ok r w/\(∀p,L.find? (hit x y)=some p->∃j,r=some (j,.int .i64 p.2.2))/\(L.find? (hit x y)=none->r=none)
 |[],f,_,i=>⟨none,by simp[Instr.findAsking],by simp,fun _=>rfl⟩
 | p :: L,f,d,i=>by
   obtain⟨r,e,g,h⟩:=ynx x y w L (fun i=>f (i+1)) (fun i p=>d (i+1) p) (i+1);rw[zAE];simp only[Instr.findAsking,zG,(d 0 p).1,(d 0 p).2,ybth,zD]
   by_cases c:hit x y p=true
   .refine⟨some (i,.int .i64 p.2.2),?_,?_,?_⟩
    .have:(x==p.1&&y==p.2.1)=true:=c;rw[this];simp
    .intro q a;simp[c]at a;subst a;exact⟨i,rfl⟩
    .intro a;simp[c]at a
   .have b:hit x y p=false:=by simpa using c
    refine⟨r,?_,?_,?_⟩
    .have:(x==p.1&&y==p.2.1)=false:=b;rw[this]
     simpa using e
    .intro q a;simp only[zAI,b]at a;exact g q a
    .intro a;simp only[zAI,b]at a;exact h a
theorem run_findKey(x y:Int)(w:World)(L:List Tri) :
 ∃r,(Instr.findKey 194 (.agg #[.int .i64 x,.int .i64 y]) (ents L).toList).run zA w = .ok r w/\(∀p,L.find? (hit x y)=some p->∃j,r=some (j,.int .i64 p.2.2))/\(L.find? (hit x y)=none->r=none):=by
 obtain⟨r,a,b⟩:=ynx x y w L ent (fun i p=>⟨rfl,rfl⟩) 0;refine⟨r,?_,b⟩;unfold ents;cases L with
 | nil =>
   simp[Instr.findAsking]at a;subst a;simp[Instr.findKey,run_underlying zL,Instr.findNow]
 | cons p L =>
   rw[zAE]at a ⊢;simp only[Instr.findKey,zG,run_underlying zL,zD,Instr.findNow,ent,Instr.sameNow];exact a
theorem ybew(e:Bool)(n:Nat)(a:Int)(w:World):(Instr.checkKey e (n+1) 3 (.int .i64 a)).run zA w = .ok () w:=by
 unfold Instr.checkKey;simp[run_underlying zAD]
theorem run_checkKey(e:Bool)(x y:Int)(w:World):(Instr.checkKey e 10000 194 (.agg #[.int .i64 x,.int .i64 y])).run zA w = .ok () w:=by
 have h:∀a w,(Instr.checkKey e 9999 3 (.int .i64 a)).run zA w = .ok () w:=fun a w=>ybew e 9998 a w;have b:∀x y w,(part 3 #[x,y] 0).run zA w = .ok x w:=fun x y w=>yup w _ 0 x rfl;have c:∀x y w,(part 3 #[x,y] 1).run zA w = .ok y w:=fun x y w=>yup w _ 1 y rfl;unfold Instr.checkKey;simp[run_underlying zL,Std.Legacy.Range.forIn_eq_forIn_range',Std.Legacy.Range.size,zAO,b,c,h]
def yrr(L:List Tri)(x y:Int):Int:=((L.find? (hit x y)).map (·.2.2)).getD 0
def yin(L:List Tri)(x y:Int):Bool:=(L.find? (hit x y)).isSome
theorem ybnm{w:World}{b:Nat}{L:List Tri}(h:PMap w b L)(x y:Int)(c:Bool) :
 (Instr.lookup 236 (.map (some b)) (.agg #[.int .i64 x,.int .i64 y]) c).run zA w = .ok (if c then .tuple #[.int .i64 (yrr L x y),.bool (yin L x y)]else .int .i64 (yrr L x y)) w:=by
 obtain⟨r,d,e,f⟩:=run_findKey x y w L;have g:w.heap[b]?=_:=h;simp only[Instr.lookup,zG,run_underlying zQ,zD,getObj,zM,g,run_checkKey,d,zH];unfold yrr yin;cases a:L.find? (hit x y)with
 | none =>
   rw[f a];cases c<;>simp
 | some p =>
   obtain⟨j,rfl⟩:=e p a;cases c<;>simp
theorem ybzw(L:List Tri)(p:Tri):ents (L++[p])=(ents L).push (ent L.length p):=by
 unfold ents;rw[List.mapIdx_append];simp
theorem yyw{w:World}{b:Nat}{L:List Tri}(h:PMap w b L)(x y z:Int)(c:yin L x y=false) :
 (Instr.mapUpdate 236 (.map (some b)) (.agg #[.int .i64 x,.int .i64 y]) (.int .i64 z)).run zA w = .ok () { w with heap:=w.heap.setIfInBounds b (.map (ents (L++[(x,y,z)])) (L.length+1)) }:=by
 obtain⟨r,a,_,d⟩:=run_findKey x y w L;have e:w.heap[b]?=_:=h
 have f:L.find? (hit x y)=none:=by
  unfold yin at c
  simpa using c
 rw[d f]at a;simp only[Instr.mapUpdate,zG,run_underlying zQ,zD,getObj,zM,e,run_checkKey,a,setObj,ybzw,ent]
def World.setMap(w:World)(b:Nat)(L:List Tri):World:={ w with heap:=w.heap.setIfInBounds b (.map (ents L) L.length) }
theorem PMap.lt{w:World}{b:Nat}{L:List Tri}(h:PMap w b L):b<w.heap.size:=(Array.getElem?_eq_some_iff.1 h).1
theorem PMap.alloc{w:World}{b:Nat}{L:List Tri}(h:PMap w b L)(o:Obj):PMap (w.alloc o) b L:=(Below.heap_alloc w o b h.lt).trans h
theorem PMap.set{w:World}{b:Nat}{L:List Tri}(h:PMap w b L)(a:List Tri):PMap (World.setMap w b a) b a:=by
 unfold PMap World.setMap;rw[zF,if_pos rfl,if_pos h.lt]
theorem Below.setMap{B:Nat}{a w:World}(h:Below B a w){b:Nat}(c:B<=b)(L:List Tri):Below B a (World.setMap w b L) :=
 h.trans ⟨rfl,rfl,rfl,by simp[World.setMap],fun k hk=>by
  show(w.heap.setIfInBounds b _)[k]?=_;rw[zF,if_neg (by omega)]⟩
theorem yij {P:Program}{w d:World}{ops:Array Oper}{rest:List Oper}{o:Oper}{a:Act}{Q:Exit->Act->World->Prop}(c:o.guard=none) (v:Value)
 (b:(execOp a.eval o).run P w = .ok (.value v) d) (h:wpList P ops Q rest (a.put o.dst v) d):wpList P ops Q (o::rest) a w :=
 wpList_plain c fun K e=>by unfold Oper.wp;rw[b];exact e _ _ h
theorem ygz {w:World}{ops:Array Oper}{rest:List Oper}{o:Oper}{a:Act}{Q:Exit->Act->World->Prop}(d:o.guard=none) (m k:Operand) (c:Bool) (g:o.op = .lookup 236 m k c)
 (b:Nat) (x y:Int) (f:a.eval m = .map (some b)) (hk:a.eval k = .agg #[.int .i64 x,.int .i64 y]) (L:List Tri) (e:PMap w b L)
 (h:wpList zA ops Q rest (a.put o.dst (if c then .tuple #[.int .i64 (yrr L x y),.bool (yin L x y)]else .int .i64 (yrr L x y))) w):wpList zA ops Q (o::rest) a w:=by
 refine yij d _ ?_ h;unfold execOp;simp only[g,f,hk,zG,ybnm e,zD,zH]
theorem yrv {w:World}{ops:Array Oper}{rest:List Oper}{o:Oper}{a:Act}{Q:Exit->Act->World->Prop}(c:o.guard=none) (m k v:Operand) (j:o.op = .mapUpdate 236 m k v) (f:o.dst=none)
 (b:Nat) (x y z:Int) (g:a.eval m = .map (some b)) (hk:a.eval k = .agg #[.int .i64 x,.int .i64 y]) (l:a.eval v = .int .i64 z) (L:List Tri) (e:PMap w b L) (i:yin L x y=false)
 (h:wpList zA ops Q rest a (World.setMap w b (L++[(x,y,z)]))):wpList zA ops Q (o::rest) a w:=by
 refine wpList_plain c fun K d=>?_;unfold Oper.wp execOp;simp only[j,g,hk,l,zG,yyw e x y z i,zD,zH];have:=d a _ h
 simpa[Oper.upon,Act.put,f,World.setMap]using this
end
section
open Go.RowKit
def yop(w:World)(r b:Nat)(L:List Tri)(seen:List Nat):Prop:=w.heap[r]?=some (.mapIter (some b) L.length seen.toArray L.length)
theorem ybru{w:World}{b:Nat}{L:List Tri}(h:PMap w b L) :
 (Instr.range 236 (.map (some b))).run zA w = .ok (.pointer (some ⟨w.heap.size,0,none⟩)) (w.alloc (.mapIter (some b) L.length #[] L.length)):=by
 have a:w.heap[b]?=_:=h;simp only[Instr.range,zG,run_underlying zQ,zD,getObj,zM,a,zH,newObj];rfl
theorem ype(L:List Tri)(i:Nat):(ents L)[i]?=(L[i]?).map (ent i):=by simp[ents]
theorem ybqa{L:List Tri}{e:MapEntry}(h:e∈ents L):∃i p,L[i]?=some p/\e=ent i p:=by
 obtain⟨i,a⟩:=Array.mem_iff_getElem?.1 h;rw[ype]at a;obtain⟨p,c,rfl⟩:=Option.map_eq_some_iff.1 a;exact⟨i,p,c,rfl⟩
theorem ydar{L:List Tri}{i:Nat}{p:Tri}(h:L[i]?=some p):ent i p∈ents L:=by
 apply zX (i:=i);rw[ype,h];rfl
def World.stepIter(w:World)(m r b:Nat)(L:List Tri)(seen:List Nat):World:={ w.drewN m with heap:=w.heap.setIfInBounds r (.mapIter (some b) L.length seen.toArray L.length) }
theorem ybyg{w:World}{r b:Nat}{L:List Tri}{seen:List Nat}(h:PMap w b L)(u:yop w r b L seen)(ty:TypeId) :
 (∃m,(Instr.next (.pointer (some ⟨r,0,none⟩)) false ty).run zA w = .ok (.tuple #[.bool false]) (w.drewN m)/\∀i,i<L.length->i∈seen) \/
 ∃m i p,L[i]?=some p/\i∉seen/\(Instr.next (.pointer (some ⟨r,0,none⟩)) false ty).run zA w = .ok (.tuple #[.bool true,(ent i p).key,(ent i p).val]) (World.stepIter w m r b L (seen++[i])):=by
 have E:w.heap[b]?=_:=h;have A:w.heap[r]?=_:=u;have G:r<w.heap.size:=(Array.getElem?_eq_some_iff.1 A).1
 have n:(!seen.toArray.isEmpty && !(ents L).isEmpty&&(ents L).all (fun x=>decide (x.born>=L.length)))=false:=by
  cases L with
  |nil=>simp[ents]
  | cons p L =>
    have:(ents (p::L)).all (fun x=>decide (x.born>=(p::L).length))=false:=by
     rw[Array.all_eq_false];exact⟨0,by simp[ents],by simp[ents,ent]⟩
    rw[this];simp
 have q:∀left:Array MapEntry,(∀e∈left,e∈ents L)->left.filter (fun x=>decide (x.born<L.length))=left/\left.filter (fun x=>decide (x.born>=L.length)) = #[]:=by
  intro left F
  have d:∀e∈left,e.born<L.length:=by
   intro e c;obtain⟨i,p,z,rfl⟩:=ybqa (F e c);exact(List.getElem?_eq_some_iff.1 z).1
  constructor
  .rw[Array.filter_eq_self];exact fun e c=>decide_eq_true (d e c)
  .rw[Array.filter_eq_empty_iff];intro e c;have:=d e c;simp;omega
 obtain⟨left,a⟩:∃left,(ents L).filter (fun e=>!seen.toArray.contains e.born)=left:=⟨_,rfl⟩
 have f:∀e∈left,e∈ents L/\e.born∉seen:=by
  intro e c;rw[<-a,zAF]at c;exact⟨c.1,by simpa using c.2⟩
 obtain⟨I,J⟩:=q left (fun e c=>(f e c).1)
 have l:(Instr.next (.pointer (some ⟨r,0,none⟩)) false ty).run zA w =
  ((choose (.mapNext ((if left.isEmpty then #[none]else #[])++(left ++ #[]).map some).size)).run zA w).andThen fun j K =>
    (match ((if left.isEmpty then #[none]else #[])++(left ++ #[]).map some)[j]? with
      |some (some e)=>(do setObj r (.mapIter (some b) L.length (seen.toArray.push e.born) L.length);pure (.tuple #[.bool true,e.key,e.val]):Sem Value)
      |some none=>pure (.tuple #[.bool false])
      | none => stuck "Next: no such candidate").run zA K := by
  simp only[Instr.next,zG,getObj,zM,A,E,zD,n,a,I,J]
  rw[if_neg (by simp)]
  simp only[zG];rfl
 rw[l]
 by_cases k:left = #[]
 .subst k;refine .inl ⟨0,by simp[choose,zM,Question.forced,World.drewN],fun i u=>?_⟩
  by_cases D:i∈seen
  .exact D
  .have:ent i L[i]∈(#[]:Array MapEntry):=by
    rw[<-a,zAF];exact⟨ydar (zC u),by simpa[ent]using D⟩
   simp at this
 .right
  have y:left.isEmpty=false:=by simpa using k
  have g:0<left.size:=Array.size_pos_iff.2 k;have t:((if left.isEmpty then #[none]else #[])++(left ++ #[]).map some)=left.map some:=by simp[y]
  rw[t]
  obtain⟨j,m,v,s⟩:∃j m,j<left.size/\(choose (.mapNext (left.map some).size)).run zA w = .ok j (w.drewN m):=by
   by_cases C:left.size<=1
   .exact⟨0,0,g,by simp[choose,zM,Question.forced,C,World.drewN]⟩
   .exact⟨_,1,Nat.mod_lt _ g,by simp[choose,zM,Question.forced,C,World.drewN,Question.cut];rfl⟩
  rw[s];obtain⟨i,p,z,c⟩:=ybqa (f left[j] (zAA v)).1;have o:=(f left[j] (zAA v)).2;rw[c]at o;refine⟨m,i,p,z,o,?_⟩;have B:(w.drewN m).heap[r]?=_:=A;have H:(left.map some)[j]?=some (some (ent i p)):=by simp[v,c]
  simp only[zD,H,zG,setObj,zM,B,zH];simp[World.stepIter,ent,World.drewN]
theorem ybsi{w:World}{r b:Nat}{L:List Tri}{seen:List Nat}{i:Nat}{p:Tri}(h:PMap w b L)(g:yop w r b L (seen++[i]))(k:L[i]?=some p) :
 (Instr.entry (.pointer (some ⟨r,0,none⟩))).run zA w = .ok (.tuple #[(ent i p).key,(ent i p).val]) w:=by
 have f:w.heap[b]?=_:=h;have l:w.heap[r]?=_:=g;have a:(seen++[i]).toArray.back?=some i:=by simp
 have c:(ents L).find? (fun x=>x.born==i)=some (ent i p):=by
  rw[Array.find?_eq_some_iff_getElem];obtain⟨d,e⟩:=List.getElem?_eq_some_iff.1 k;refine⟨by simp[ent],i,by simpa[ents]using d,by simp[ents,e],fun j m=>?_⟩
  simp[ents,ent];omega
 simp only[Instr.entry,zG,getObj,zM,l,f,zD,a,c];simp
theorem ybeb {w:World}{ops:Array Oper}{rest:List Oper}{o:Oper}{a:Act}{Q:Exit->Act->World->Prop}(c:o.guard=none) (x:Operand) (e:o.op = .range 236 x)
 (b:Nat) (f:a.eval x = .map (some b)) (L:List Tri) (d:PMap w b L)
 (h:wpList zA ops Q rest (a.put o.dst (.pointer (some ⟨w.heap.size,0,none⟩))) (w.alloc (.mapIter (some b) L.length #[] L.length))):wpList zA ops Q (o::rest) a w:=by
 refine yij c _ ?_ h;unfold execOp;simp only[e,f,zG,ybru d,zD,zH]
theorem ybga {w:World}{ops:Array Oper}{rest:List Oper}{o:Oper}{a:Act}{Q:Exit->Act->World->Prop}(c:o.guard=none) (x:Operand) (f:o.op = .next x false)
 (r b:Nat) (g:a.eval x = .pointer (some ⟨r,0,none⟩)) (L:List Tri) (seen:List Nat) (k:PMap w b L) (j:yop w r b L seen)
 (hend:∀m,(∀i,i<L.length->i∈seen)->wpList zA ops Q rest (a.put o.dst (.tuple #[.bool false])) (w.drewN m))
 (hgo:∀m i p,L[i]?=some p->i∉seen->wpList zA ops Q rest (a.put o.dst (.tuple #[.bool true,.agg #[.int .i64 p.1,.int .i64 p.2.1],.int .i64 p.2.2])) (World.stepIter w m r b L (seen++[i]))):wpList zA ops Q (o::rest) a w:=by
 rcases ybyg k j o.type with⟨m,e,d⟩|⟨m,i,p,d,h,e⟩
 .refine yij c _ ?_ (hend m d);unfold execOp;simp only[f,g,zG,e,zD,zH]
 .refine yij c _ ?_ (hgo m i p d h);unfold execOp;simp only[f,g,zG,e,zD,zH,ent]
theorem yrk {w:World}{ops:Array Oper}{rest:List Oper}{o:Oper}{a:Act}{Q:Exit->Act->World->Prop}(c:o.guard=none) (x:Operand) (f:o.op = .entry x)
 (r b:Nat) (j:a.eval x = .pointer (some ⟨r,0,none⟩)) (L:List Tri) (seen:List Nat) (i:Nat) (p:Tri) (e:PMap w b L) (d:yop w r b L (seen++[i])) (g:L[i]?=some p)
 (h:wpList zA ops Q rest (a.put o.dst (.tuple #[.agg #[.int .i64 p.1,.int .i64 p.2.1],.int .i64 p.2.2])) w):wpList zA ops Q (o::rest) a w:=by
 refine yij c _ ?_ h;unfold execOp;simp only[f,j,zG,ybsi e d g,zD,zH,ent]
section
variable {w:World}{r b:Nat}{L:List Tri}{seen seen':List Nat}
theorem yop.lt(h:yop w r b L seen):r<w.heap.size:=(Array.getElem?_eq_some_iff.1 h).1
theorem yop.alloc(h:yop w r b L seen)(o:Obj):yop (w.alloc o) r b L seen:=(Below.heap_alloc w o r h.lt).trans h
theorem yop.step(h:yop w r b L seen)(m:Nat):yop (World.stepIter w m r b L seen') r b L seen':=by
 unfold yop World.stepIter;show(w.heap.setIfInBounds r _)[r]?=_;rw[zF,if_pos rfl,if_pos h.lt]
theorem PMap.step{a:Nat}{c:List Tri}(h:PMap w a c)(d:a≠r)(m:Nat):PMap (World.stepIter w m r b L seen') a c:=by
 unfold PMap World.stepIter;show(w.heap.setIfInBounds r _)[a]?=_;rw[zF,if_neg (by omega)]
 exact h
theorem Below.stepIter{B:Nat}{a:World}(h:Below B a w)(c:B<=r)(m:Nat):Below B a (World.stepIter w m r b L seen') :=
 h.trans ⟨rfl,rfl,rfl,by simp[World.stepIter],fun k hk=>by
  show(w.heap.setIfInBounds r _)[k]?=_;rw[zF,if_neg (by omega)]⟩
end
end
section
abbrev ylw:=List (List (Int×Int))
def ycjr(ports:ylw):Prop :=
 (∀v:Fin ports.length,ydy ports[v] (v.1:Int) (ports.length:Int))/\(∀v:Fin ports.length,∀l∈ports[v],((v.1:Int),l.2)∈ports.getD l.1.toNat [])
instance(ports:ylw):Decidable (ycjr ports):=by unfold ycjr;infer_instance
def symB(ports:ylw):Bool:=decide (ycjr ports)
def tri(v:Nat)(l:Int×Int):Tri:=((v:Int),l.1,l.2)
def yhh(ports:ylw)(v:Nat):List Tri:=((zAH v).map (fun u=>(ports.getD u []).map (tri u))).flatten
def yik(ports:ylw)(v i:Nat):List Tri:=yhh ports v++((ports.getD v []).take i).map (tri v)
theorem yblt(ports:ylw)(v:Nat):yhh ports (v+1)=yhh ports v++(ports.getD v []).map (tri v):=by
 simp[yhh,List.range_succ]
theorem yblk(ports:ylw)(v:Nat):yik ports v 0=yhh ports v:=by simp[yik]
theorem ybkz(ports:ylw)(v i:Nat)(ls:List (Int×Int))(a:ports[v]?=some ls)(b:i<ls.length):yik ports v (i+1)=yik ports v i++[((v:Int),ls[i].1,ls[i].2)]:=by
 have e:ports.getD v []=ls:=by simp[zN,a]
 unfold yik;rw[e,take_snoc ls i b,zAG,List.append_assoc];rfl
theorem ybny(ports:ylw)(v:Nat)(ls:List (Int×Int))(a:ports[v]?=some ls):yik ports v ls.length=yhh ports (v+1):=by
 have e:ports.getD v []=ls:=by simp[zN,a]
 rw[yblt];unfold yik;rw[e,zU]
theorem yka{ports:ylw}{v:Nat}{p:Tri}:p∈yhh ports v↔∃u,u<v/\∃l∈ports.getD u [],p=tri u l:=by
 unfold yhh;simp only[List.mem_flatten,List.mem_map,List.mem_range];constructor
 .rintro⟨q,⟨u,b,rfl⟩,c⟩;obtain⟨l,a,rfl⟩:=List.mem_map.1 c;exact⟨u,b,l,a,rfl⟩
 .rintro⟨u,b,l,a,rfl⟩;exact⟨_,⟨u,b,rfl⟩,List.mem_map.2 ⟨l,a,rfl⟩⟩
theorem yblx{L:List Tri}{x y:Int}:yin L x y=true↔∃p∈L,p.1=x/\p.2.1=y:=by
 unfold yin;rw[List.find?_isSome];constructor
 .rintro⟨p,a,h⟩;simp[hit]at h;exact⟨p,a,h.1.symm,h.2.symm⟩
 .rintro⟨p,a,rfl,rfl⟩;exact⟨p,a,by simp[hit]⟩
theorem yof{ports:ylw}{v i:Nat}{ls:List (Int×Int)}(c:ports[v]?=some ls){y:Int}:yin (yik ports v i) (v:Int) y=true↔∃l∈ls.take i,l.1=y:=by
 have e:ports.getD v []=ls:=by simp[zN,c]
 rw[yblx];unfold yik;rw[e];constructor
 .rintro⟨p,a,d,f⟩;rcases List.mem_append.1 a with a|a
  .obtain⟨u,g,l,b,rfl⟩:=yka.1 a;simp[tri]at d;omega
  .obtain⟨l,b,rfl⟩:=List.mem_map.1 a;exact⟨l,b,f⟩
 .rintro⟨l,b,rfl⟩;exact⟨tri v l,List.mem_append_right _ (List.mem_map.2 ⟨l,b,rfl⟩),rfl,rfl⟩
theorem yud{ports:ylw}{v k:Nat}{ls:List (Int×Int)}(a:ports[v]?=some ls)(h:¬ydy (ls.take k) (v:Int) (ports.length:Int)):symB ports=false:=by
 unfold symB;rw[decide_eq_false_iff_not];intro b;obtain⟨c,e⟩:=List.getElem?_eq_some_iff.1 a;have:=b.1 ⟨v,c⟩;simp only[Fin.getElem_fin,e]at this;exact h (ybff _ _ _ _ this)
def yuo(ports:ylw):Prop:=∀(v:Nat) a,ports[v]?=some a->ydy a (v:Int) (ports.length:Int)
theorem ybfi{ports:ylw}(z:yuo ports){v:Nat}{ls:List (Int×Int)}(w:ports[v]?=some ls){l:Int×Int}(D:l∈ls) :
 yrr (yhh ports ports.length) l.1 (v:Int)=l.2↔((v:Int),l.2)∈ports.getD l.1.toNat []:=by
 have t:=(z v ls w).1 l D;unfold ymo at t;have g:l.1.toNat<ports.length:=by omega
 have d:ports[l.1.toNat]?=some (ports.getD l.1.toNat []):=by simp[zN,zC g]
 unfold yrr;cases n:(yhh ports ports.length).find? (hit l.1 (v:Int))with
 | none =>
   simp only[Option.map_none,Option.getD_none];constructor
   .intro e;omega
   .intro x
    exfalso
    rw[List.find?_eq_none]at n;refine n (tri l.1.toNat ((v:Int),l.2)) (yka.2 ⟨_,g,_,x,rfl⟩) ?_;simp[hit,tri];omega
 | some q =>
   have E:=List.mem_of_find?_eq_some n;have r:=List.find?_some n;simp[hit]at r;obtain⟨u,G,C,c,rfl⟩:=yka.1 E;simp only[tri]at r ⊢;obtain⟨F,m⟩:=r;have y:u=l.1.toNat:=by omega
   subst y;simp only[Option.map_some,Option.getD_some]
   generalize ports.getD l.1.toNat []=ls' at d c ⊢
   constructor
   .intro e
    have:C=((v:Int),l.2):=by
     obtain⟨a,b⟩:=C;simp only at e m;rw[m,e]
    rw[<-this];exact c
   .intro x;have f:=(z _ _ d).2;obtain⟨i,A,o⟩:=List.mem_iff_getElem.1 c;obtain⟨j,B,k⟩:=List.mem_iff_getElem.1 x
    have s:i=j:=by
     rcases Nat.lt_trichotomy i j with h|h|h
     .have p:=(List.pairwise_iff_getElem.1 f) i j (by simpa using A) (by simpa using B) h
      simp[o,k,m]at p
     .exact h
     .have p:=(List.pairwise_iff_getElem.1 f) j i (by simpa using B) (by simpa using A) h
      simp[o,k,m]at p
    subst s;rw[o]at k;rw[k]
theorem yzf{ports:ylw}(d:yuo ports){p:Tri}(e:p∈yhh ports ports.length)(g:yrr (yhh ports ports.length) p.2.1 p.1≠p.2.2):symB ports=false:=by
 obtain⟨u,b,l,c,rfl⟩:=yka.1 e;have a:ports[u]?=some (ports.getD u []):=by simp[zN,zC b]
 unfold symB;rw[decide_eq_false_iff_not];intro f;refine g ((ybfi d a c).2 ?_);have:=f.2 ⟨u,b⟩ l (by simpa[zN,zC b]using c)
 exact this
theorem ybzg{ports:ylw}(c:yuo ports)(h:∀p∈yhh ports ports.length,yrr (yhh ports ports.length) p.2.1 p.1=p.2.2):symB ports=true:=by
 refine decide_eq_true ⟨?_,?_⟩
 .rintro⟨v,b⟩;exact c v _ (zC b)
 .rintro⟨v,b⟩ l d;have a:ports[v]?=some ports[v]:=zC b;refine(ybfi c a d).1 (h (tri v l) (yka.2 ⟨v,b,l,?_,rfl⟩))
  simpa[zN,a]using d
end
section
open Go.RowKit
theorem ybhj{ls:List (Int×Int)}{v n:Int}(h:ydy (ls.take ls.length) v n):ydy ls v n:=by rwa [zU]at h
set_option maxHeartbeats 2000000 in
theorem yre (pv:Value)(ports:ylw)(w:World)(B:ybcj w pv ports)(hn:ports.length<=1000) :
 Calls zA 243 #[pv] w fun e w'=>e = .returned (.bool (symB ports))/\Below w.heap.size w w':=by
 obtain⟨A2,c2,rfl,c7,c8⟩:=yct B;have Hp:=zB B
 clear B
 have a5:=@run_makeMap zA
 go_enter zAN,Tryz.ntmps243
 go_wp2
 clear a5
 go_loopg [16] ports.length (fun q t wr=>∃v:Nat,q+v=ports.length/\t = .int .i64 v/\Hid (Below w.heap.size w wr)/\Hid (PMap wr w.heap.size (yhh ports v))/\Hid (∀(u:Nat) g,u<v->ports[u]?=some g->ydy g u ports.length))
 case atStart=>exact⟨0,by omega,rfl,zB ((Below.refl _ _).alloc (zI _) _),zB (heap_alloc_new w _),zB (fun u g hu=>absurd hu (by omega))⟩
 case round =>
  obtain⟨v,hq,rfl,c,d,Q⟩:=hrel
  by_cases R:v<ports.length
  .obtain⟨b2,b8,lv,rfl,c9,O,s⟩:=ypi Hp.out (zC R);obtain⟨A3,c3,rfl,a4,d1⟩:=yct s;have F:=yml c.out _ _ O
   clear O
   obtain⟨g,n⟩:∃g,ports[v]=g:=⟨_,rfl⟩;have Hlp:=zB (show ports[v]?=some g by rw[zC R,n])
   rw[n]at s F a4;have Hls:=zB s
   clear s n
   go_wp2
   obtain⟨go,rfl⟩:∃go,go=gk:=⟨_,rfl⟩
   go_loopg [23] g.length (fun q t wr=>∃i:Nat,q+i=g.length/\t = .int .i64 i/\Hid (Below w.heap.size w wr)/\Hid (PMap wr w.heap.size (yik ports v i))/\Hid (ydy (g.take i) v ports.length))
   case atStart=>exact⟨0,by omega,rfl,c,zB (by rw[yblk];exact d.out),zB ⟨by simp,by simp⟩⟩
   case round =>
    clear c d F
    obtain⟨i,d2,rfl,c,d,T⟩:=hrel;have G:w.heap.size<wr.heap.size:=d.out.lt
    by_cases C:i<g.length
    .obtain⟨A4,c4,e4,_,_,M⟩:=Hls.out.below Stable.link c.out;cases e4
     obtain⟨b3,b9,rfl,d0,M⟩:=M (by omega)
     obtain⟨⟨A,J⟩,n⟩:∃l,g[i]=l:=⟨_,rfl⟩;have P:g[i]?=some (A,J):=by rw[zC C,n]
     obtain⟨b5,b6,⟨a7,a8⟩,⟨a9,b0⟩⟩:=M i _ P;simp only at b5 b6 a7 a8 a9 b0;have I:=ybgf g v ports.length i C;rw[n]at I;have Hsn:=zB I;have Hbad:=zB (fun h=>yud (ports:=ports) (v:=v) (k:=i+1) Hlp.out h);have Hsc:=zB (ybkz ports v i g Hlp.out C);rw[n]at Hsc;have HE:=zB M;have c0:=zB n
     clear M P n I
     by_cases c1:0<=A/\A<=ports.length-1
     .obtain⟨Y,Z⟩:=c1
      by_cases c2:A=v
      .have a0:(A==(v:Int))=true:=by simp[c2]
       have Hf:=zB (Hbad.out (fun h=>((Hsn.out.1 h).2.1).2.2.1 c2))
       clear c2
       go_wp2
       go_ret
       exact⟨ybt Hf.out.symm,(c.out.alloc (by omega) _)⟩
      .have a0:(A==(v:Int))=false:=by simp[c2]
       have Hc2:=zB c2
       clear c2
       by_cases c3:1<=J/\J<=15
       .obtain⟨a1,a2⟩:=c3
        by_cases c4:yin (yik ports v i) v A=true
        .have Hf:=zB (Hbad.out (fun h=>by
          obtain⟨l,hl,e⟩:=(yof Hlp.out).1 c4;obtain⟨j,o,rfl⟩:=List.mem_take_iff_getElem.1 hl;exact(Hsn.out.1 h).2.2 j (by omega) e))
         go_wp2_with (at_lookup;refine ygz rfl _ _ _ rfl w.heap.size (v:Int) A rfl (by rfl) (yik ports v i) ((d.out.alloc _).alloc _) ?_)
         go_ret
         exact⟨ybt Hf.out.symm,((c.out.alloc (by omega) _).alloc (by simp;omega) _)⟩
        .have a3:yin (yik ports v i) v A=false:=by simpa using c4
         have K:=zB (show ydy (g.take (i+1)) v ports.length from Hsn.out.2 ⟨T.out,⟨Y,by simpa using Z,Hc2.out,a1,a2⟩,fun j o e=>c4 ((yof Hlp.out).2 ⟨g[j],List.mem_take_iff_getElem.2 ⟨j,by omega,rfl⟩,e⟩)⟩)
         clear c4
         go_wp2_with (first
          |(at_lookup;refine ygz rfl _ _ _ rfl w.heap.size (v:Int) A rfl (by rfl) (yik ports v i) ((d.out.alloc _).alloc _) ?_)
          |(at_mapUpdate;refine yrv rfl _ _ _ rfl rfl w.heap.size (v:Int) A J rfl (by rfl) (by rfl) (yik ports v i) ((d.out.alloc _).alloc _) a3 ?_))
         go_roundg (gk-1)
         case measure=>omega
         case rel =>
          refine⟨i+1,by omega,by go_num,zB ?_,zB ?_,K⟩
          .exact Below.setMap ((c.out.alloc (by omega) _).alloc (by simp;omega) _) (zI _) _
          .rw[Hsc.out];exact PMap.set ((d.out.alloc _).alloc _) _
       .have Hf:=zB (Hbad.out (fun h=>c3 ⟨((Hsn.out.1 h).2.1).2.2.2.1,((Hsn.out.1 h).2.1).2.2.2.2⟩))
        by_cases c5:J<1
        .clear c3
         go_wp2
         go_ret
         exact⟨ybt Hf.out.symm,(c.out.alloc (by omega) _)⟩
        .have c6:15<J:=by omega
         clear c3
         go_wp2
         go_ret
         exact⟨ybt Hf.out.symm,(c.out.alloc (by omega) _)⟩
     .have Hf:=zB (Hbad.out (fun h=>c1 ⟨((Hsn.out.1 h).2.1).1,((Hsn.out.1 h).2.1).2.1⟩))
      by_cases c5:A<0
      .clear c1
       go_wp2
       go_ret
       exact⟨ybt Hf.out.symm,(c.out.alloc (by omega) _)⟩
      .have c6:(ports.length:Int)<=A:=by omega
       clear c1
       go_wp2
       go_ret
       exact⟨ybt Hf.out.symm,(c.out.alloc (by omega) _)⟩
    .obtain rfl:i=g.length:=by omega
     go_wp2
     go_roundg (go-1)
     case measure=>omega
     case rel =>
      refine⟨v+1,by omega,by go_num,c,zB (by rw[<-ybny ports v g Hlp.out];exact d.out),zB (fun u b7 hu D=>?_)⟩
      by_cases b1:u<v
      .exact Q.out u b7 b1 D
      .obtain rfl:u=v:=by omega
       rw[Hlp.out]at D;cases D
       exact ybhj T.out
  .obtain rfl:v=ports.length:=by omega
   have Hal:=zB (show yuo ports from fun v g s=>Q.out v g (List.getElem?_eq_some_iff.1 s).1 s)
   have G:w.heap.size<wr.heap.size:=d.out.lt
   go_wp2_with (at_range;refine ybeb rfl _ rfl w.heap.size rfl (yhh ports ports.length) d.out ?_)
   go_frame
   obtain⟨L,hL⟩:∃L,L=yhh ports ports.length:=⟨_,rfl⟩;rw[<-hL]at d ⊢;have HL:=zB hL
   clear hL
   obtain⟨r,hr⟩:∃r,r=wr.heap.size:=⟨_,rfl⟩;rw[<-hr]at G ⊢
   go_loopg [70] (L.length+1) (fun q t wr=>∃seen:List Nat,q+seen.length=L.length+1/\Hid (Below w.heap.size w wr)/\Hid (PMap wr w.heap.size L)/\Hid (yop wr r w.heap.size L seen)/\Hid (seen.Nodup/\∀i∈seen,∃p,L[i]?=some p/\yrr L p.2.1 p.1=p.2.2))
   case atStart =>
    refine⟨[],by simp,zB (c.out.alloc (by omega) _),zB (d.out.alloc _),zB ?_,zB ⟨by simp,by simp⟩⟩
    rw[hr];exact heap_alloc_new wr _
   case round =>
    clear c d hr
    obtain⟨seen,hq,c,d,hit,f⟩:=hrel
    go_wp2_with (at_next;refine ybga rfl _ rfl r w.heap.size rfl L seen d.out hit.out ?hend ?hgo)
    case hend =>
     intro m E
     have Ht:=zB (show symB ports=true from ybzg Hal.out (fun p B=>by
      rw[<-HL.out]at B ⊢;obtain⟨i,hi,rfl⟩:=List.mem_iff_getElem.1 B;obtain⟨p,U,H⟩:=f.out.2 i (E i hi);rw[zC hi]at U;cases U
      exact H))
     clear E
     go_wp2
     go_ret
     exact⟨ybt Ht.out.symm,below_drewN c.out _⟩
    case hgo =>
     intro m i x y z B S;have C:i<L.length:=(List.getElem?_eq_some_iff.1 B).1;have Hb1:=zB (Below.stepIter (L:=L) (b:=w.heap.size) (seen':=seen++[i]) c.out (r:=r) (by omega) m)
     have Hm1:=zB (PMap.step (b:=w.heap.size) (L:=L) (seen':=seen++[i]) d.out (r:=r) (by omega) m)
     have Hi1:=zB (yop.step (seen':=seen++[i]) hit.out m);have Hp:=zB B;have Hn:=zB S;obtain⟨w1,X⟩:∃w1,w1=World.stepIter wr m r w.heap.size L (seen++[i]):=⟨_,rfl⟩;rw[<-X]at Hb1 Hm1 Hi1 ⊢
     clear X c d hit B S
     have d3:r<w1.heap.size:=Hi1.out.lt
     by_cases H:yrr L y x=z
     .have b4:(yrr L y x != z)=false:=by simp[H]
      have Hv:=zB H
      clear H
      go_wp2_with (first
       |(at_lookup;refine ygz rfl _ _ _ rfl w.heap.size y x rfl (by rfl) L (Hm1.out.alloc _) ?_)
       |(with_reducible refine yrk rfl _ rfl r w.heap.size rfl L seen i (x,y,z) Hm1.out Hi1.out Hp.out ?_))
      have W:=zB (show(seen++[i]).length<=L.length by
       have a6:(seen++[i]).Nodup:=by
        rw[zT];exact⟨f.out.1,by simp,fun a ha b N e=>by simp at N;subst N e;exact Hn.out ha⟩
       have V:(seen++[i]) ⊆ zAH L.length:=by
        intro j o;rcases List.mem_append.1 o with o|o
        .obtain⟨p,B,_⟩:=f.out.2 j o;simp[(List.getElem?_eq_some_iff.1 B).1]
        .simp at o;subst o;simpa using C
       simpa using List.Nodup.length_le_of_subset a6 V)
      go_roundg (gk-1)
      case measure=>have:=W.out;simp at this;omega
      case rel =>
       have h0:=W.out;simp only[zZ,zAC,List.length_nil]at h0;refine⟨seen++[i],by simp;omega,zB (Hb1.out.alloc (by omega) _),zB (Hm1.out.alloc _),zB (Hi1.out.alloc _),zB ⟨?_,fun j o=>?_⟩⟩
       .rw[zT];exact⟨f.out.1,by simp,fun a ha b N e=>by simp at N;subst N e;exact Hn.out ha⟩
       .rcases List.mem_append.1 o with o|o
        .exact f.out.2 j o
        .simp at o;subst o;exact⟨_,Hp.out,Hv.out⟩
     .have b4:(yrr L y x != z)=true:=by simp[H]
      have Hf:=zB (show symB ports=false from yzf Hal.out (p:=(x,y,z)) (by rw[<-HL.out];exact zY Hp.out) (by rw[<-HL.out];exact H))
      clear H
      go_wp2_with (first
       |(at_lookup;refine ygz rfl _ _ _ rfl w.heap.size y x rfl (by rfl) L (Hm1.out.alloc _) ?_)
       |(with_reducible refine yrk rfl _ rfl r w.heap.size rfl L seen i (x,y,z) Hm1.out Hi1.out Hp.out ?_))
      go_ret
      exact⟨ybt Hf.out.symm,Hb1.out.alloc (by omega) _⟩
end
section
namespace Ev
open Go Go.RowKit
section
variable {φ:Phi}{M:AM}{w:World}{m:Mem}
theorem ybat{n:Int}(h:inI64 n=true):I64 n:=by
 unfold inI64 at h;split at h
 .have:=zK h;unfold I64;rename_i k;simp only[Int.ofNat_eq_natCast];omega
 .have:=zK h;unfold I64;omega
theorem ysw:∀{l:List Value}{xs:List (Int×Int)},pairsOf l=some xs->l.length=xs.length*2/\∀j x,xs[j]?=some x->l[j*2]?=some (.int .i64 x.1)/\l[j*2+1]?=some (.int .i64 x.2)/\I64 x.1/\I64 x.2
 |[],xs,h=>by cases h;exact⟨rfl,by simp⟩
 | .int .i64 a :: .int .i64 b::l,xs,h=>by
   unfold pairsOf at h;split at h
   .rename_i r g
    rw[zV]at h;split at h
    .rename_i c
     cases h
     simp only[Bool.and_eq_true]at c;obtain⟨e,f⟩:=ysw g;refine⟨by simp[e];omega,fun j x d=>?_⟩
     cases j with
     |zero=>simp at d;subst d;exact⟨rfl,rfl,ybat c.1,ybat c.2⟩
     | succ j =>
       have:=f j x (by simpa using d)
       rw[show(j+1)*2=j*2+1+1 by omega]
       simpa using this
    .cases h
   .cases h
theorem ybey{c b:Type}{f:c->Option b}:∀{l:List c}{r:List b},mapO f l=some r->l.length=r.length/\∀(j:Nat) (y:b),r[j]?=some y->∃x,l[j]?=some x/\f x=some y
 |[],r,h=>by cases h;exact⟨rfl,by simp⟩
 | x :: l,r,h=>by
   unfold mapO at h;split at h
   .cases h
   .rename_i y i
    split at h
    .cases h
    .rename_i k g
     cases h
     obtain⟨d,e⟩:=ybey g;refine⟨by simp[d],fun j z a=>?_⟩
     cases j with
     |zero=>simp at a;subst a;exact⟨x,rfl,i⟩
     |succ j=>simpa using e j z (by simpa using a)
theorem yban {H:Type}{d:Nat}{E:Elem H}{v v':Value}{l:List Value}{ft:List Nat}{xs:List H}(h:rowOf m d v=some (l,ft)) (C:VR φ v v') (L:Rel φ M w) (O:Sub m M) (f:l.length=xs.length*d) (y:d≠0)
 (K:∀(l':List Value) (b off:Nat),VRL φ l l'->(∀j u,l'[j]?=some u->w.cell? ⟨b,off+j,none⟩=some u)->∀j x,xs[j]?=some x->E w b (off+j*d) x):SlAt d E w v' xs:=by
 unfold rowOf at h;split at h
 .cases h
  have e:=C.eq_simple rfl;subst e
  have:xs=[]:=by
   rcases Nat.mul_eq_zero.1 (show xs.length*d=0 from f.symm)with h|h
   .exact zJ h
   .exact absurd h y
  subst this;exact SlAt.nil w
 .rename_i a len I
  obtain⟨G,A,r,Q,k2,R,S,k5,D,F⟩:=C.slice_inv;subst R;split at h
  .cases h
  .rw[zV]at h;split at h
   .rename_i g
    have g:=Nat.eq_of_beq_eq_true g;subst g;cases h
    have:xs=[]:=by
     rcases Nat.mul_eq_zero.1 (show xs.length*d=0 from f.symm)with h|h
     .exact zJ h
     .exact absurd h y
    subst this;exact⟨some A,r,rfl,Nat.zero_le _,D,fun q=>absurd q (by simp)⟩
   .rename_i g
    split at h
    .rename_i c n e z N
     rw[zV]at h;split at h
     .rename_i o
      have o:=zK o;split at h
      .rename_i l2 k
       cases h
       have i:=(yfb k).1
       have p:xs.length=len:=by
        rw[i]at f;exact(Nat.eq_of_mul_eq_mul_right (by omega) f).symm
       obtain⟨T,W,X,Y,s,Z,g3,_,t,g5,J⟩:=L.cellsAt (O _ _ N);rw[Q]at s;cases s
       obtain⟨l',U,V⟩:=cellsRead J k o;subst p;refine⟨some A,r,rfl,S,D,fun B=>?_⟩;rcases F with⟨rfl,_⟩|F
       .refine⟨G.blk,G.base+a.off,rfl,(Array.getElem?_eq_some_iff.1 t).1,K l' _ _ U fun j u P=>cell_of t (V j u P)⟩
       .omega
      .cases h
     .cases h
    .cases h
 .cases h
theorem ybty{v v':Value}{xs:List (Int×Int)}(h:linksOf m v=some xs)(o:VR φ v v')(i:Rel φ M w)(n:Sub m M):ybzy w v' xs:=by
 unfold linksOf at h;split at h
 .rename_i l C k
  obtain⟨f,g⟩:=ysw h;refine yban k o i n f (by decide) fun D b q a c j x p=>?_
  obtain⟨y,z,A,B⟩:=g j x p;obtain⟨E,r,s⟩:=a.get y;obtain⟨F,t,u⟩:=a.get z;have d:=s.eq_simple rfl;have e:=u.eq_simple rfl;subst d e;exact⟨c _ _ r,by rw[zS];exact c _ _ t,A,B⟩
 .cases h
theorem ybuy{v v':Value}{e:List (List (Int×Int))}(h:portsOf m v=some e)(n:VR φ v v')(c:Rel φ M w)(d:Sub m M):ybcj w v' e:=by
 unfold portsOf at h;split at h
 .rename_i l z k
  obtain⟨f,g⟩:=ybey h;refine yban k n c d (by rw[f,zO]) (by decide) fun A b p a i j x o=>?_
  obtain⟨u,s,t⟩:=g j x o;obtain⟨y,q,r⟩:=a.get s;exact⟨y,by rw[zO];exact i _ _ q,ybty t r c d⟩
 .cases h
theorem ynz {P:Program}{g:FuncId}{args:List Value}{v:Value}(r:yxq P) (q:∃fn c,P.funcs[g]?=some fn/\fn.body=some c)
 (h:∀φ M w a,Rel φ M w->Sub m M->VRL φ args a->Calls P g a.toArray w fun e n=>∃v',e = .returned v'/\VR φ v v'/\Below w.heap.size w n):yca P (.call g args m) (.call v (enterM m)):=by
 intro t;obtain⟨fn,c,o,p⟩:=q;refine⟨⟨zI _,fun i b d=>.inl ⟨b,d⟩,fun i b _ _ d=>d,t⟩,fun φ M w a j l s _=>.inl ⟨ydn r o p _ _,(h φ M w a j l s).mono ?_⟩⟩;rintro e n ⟨v',rfl,f,d⟩;exact⟨v',rfl,φ,M,⟨φ.le_refl,fun _ _=>rfl,j.keep fun k hk=>d.block k hk,l,fun _ _ _=>rfl,⟨d.os,d.tape,d.output,d.size,fun k hk _=>d.block k hk,fun _ _ h=>h⟩⟩,f⟩
theorem ybcu:yxq zA:=by
 have h : Tryz.prog.funcs.all (fun fn => !(fn.name == "runtime.NumGoroutine")) = true := by kernel_rfl
 intro g fn a _;have:=Array.all_eq_true_iff_forall_mem.1 h fn (zX a)
 simpa using this
theorem mix:Tryz.prog.follows .mixedOrders=true:=by kernel_rfl
theorem ycvw(args:List Value)(m:Mem)(out:Out)(h:evSymm symB m args=some out):yca zA (.call 243 args m) out:=by
 unfold evSymm at h;split at h
 .rename_i v
  obtain⟨n,c,f⟩:=yg h;obtain⟨b,g⟩:=ybi f;cases g
  refine ynz ybcu ⟨_,_,zAN,rfl⟩ fun φ M w a i k l=>?_;obtain⟨o,rfl,d⟩:=yiq l;refine(yre o n w (ybuy c d i k) (zK b)).mono ?_;rintro e p ⟨rfl,j⟩;exact⟨_,rfl,.simple rfl,j⟩
 .cases h
end
end Ev
end
end Go.Proofs.YtlbonpgkofloeaaGreatDoor
