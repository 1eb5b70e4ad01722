/- Joined. -/
import Derived.Lib.Hide
import Derived.Test.YthclbjjgfcgbgaaGreatDoorRows
import Derived.WalkSpells
import Derived.BigQuiet
import Derived.Deep.LoopGhost
import Derived.Deep.OwnRows
import Derived.Test.YthclbjjgfcgbgaaGreatDoorPkCh3
set_option linter.unusedSimpArgs false
set_option linter.unusedVariables false
open Go.Proofs.Tryz renaming prog->zA,underlying91->zL,underlying242->zQ,underlying3->zAD,func175->zAN
open Go.Lib renaming hid->zB
open List renaming getElem?_eq_getElem->zC,eq_nil_of_length_eq_zero->zJ,getD->zN,nodup_append->zT,take_length->zU,mem_of_getElem?->zY,length_append->zZ,length_cons->zAC,mapIdx_cons->zAE,map_append->zAG,range->zAH,find?_cons->zAI,replicate->zAJ,map_cons->zAK,map_nil->zAL,range'->zAO
open Go.Result renaming andThen_ok->zD
open Array renaming getElem?_setIfInBounds->zF,getElem?_modify->zW,mem_of_getElem?->zX,getElem_mem->zAA,mem_filter->zAF
open Go.Sem renaming run_bind->zG,run_pure->zH,run->zM
open Nat renaming le_refl->zI,le_of_ble_eq_true->zK,mul_one->zO,add_assoc->zS,add_mul->zAB,le_trans->zAM
open Bool renaming cond_eq_ite->zV
open Int renaming toNat->zAP
open Go
namespace Go.Proofs.YthclbjjgfcgbgaaGreatDoor
section
open Go.RowKit
def I64(n:Int):Prop:=-9223372036854775808<=n/\n<=9223372036854775807
abbrev Elem(α:Type):=World->Nat->Nat->α->Prop
def SlAt{α:Type}(size:Nat)(E:Elem α)(w:World)(v:Value)(xs:List α):Prop :=
 ∃ (A:Option Addr) (c:Nat),v = .slice A xs.length c/\xs.length<=c/\c<=9223372036854775807 /\
   (0<xs.length->∃b off,A=some ⟨b,off,none⟩/\b<w.heap.size/\∀j x,xs[j]?=some x->E w b (off+j*size) x)
def intE:Elem Int:=fun w b o x=>w.cell? ⟨b,o,none⟩=some (.int .i64 x)/\I64 x
def ydji:Elem (Int×Int):=fun w b o x=>w.cell? ⟨b,o,none⟩=some (.int .i64 x.1)/\w.cell? ⟨b,o+1,none⟩=some (.int .i64 x.2)/\I64 x.1/\I64 x.2
def slE{α:Type}(size:Nat)(E:Elem α):Elem (List α):=fun w b o xs=>∃v,w.cell? ⟨b,o,none⟩=some v/\SlAt size E w v xs
def Stable{α:Type}(E:Elem α):Prop:=∀w w' b o x,(∀a v,w.cell? a=some v->w'.cell? a=some v)->w.heap.size<=w'.heap.size->E w b o x->E w' b o x
abbrev ymz:=SlAt 1 intE
abbrev ybsx:=SlAt 2 ydji
abbrev yzc:=SlAt 1 (slE 2 ydji)
abbrev yczw:=SlAt 1 (slE 1 intE)
structure Gr where
 ids:List Int
 ports:List (List (Int×Int))
def GrAt(w:World)(v:Value)(g:Gr):Prop:=∃i p,v = .agg #[i,p]/\ymz w i g.ids/\yzc w p g.ports
section
variable {α:Type}{E:Elem α}{size:Nat}{w w':World}{v:Value}{xs:List α}
theorem Stable.int:Stable intE:=fun _ _ _ _ _ h _ hx=>⟨h _ _ hx.1,hx.2⟩
theorem Stable.link:Stable ydji:=fun _ _ _ _ _ h _ hx=>⟨h _ _ hx.1,h _ _ hx.2.1,hx.2.2⟩
theorem SlAt.keep(hE:Stable E)(h:SlAt size E w v xs)(hk:∀a u,w.cell? a=some u->w'.cell? a=some u)(hs:w.heap.size<=w'.heap.size):SlAt size E w' v xs:=by
 obtain⟨A,c,h1,h2,h3,h4⟩:=h;refine⟨A,c,h1,h2,h3,fun hp=>?_⟩;obtain⟨b,off,rfl,hb,h5⟩:=h4 hp;exact⟨b,off,rfl,Nat.lt_of_lt_of_le hb hs,fun j x hx=>hE _ _ _ _ _ hk hs (h5 j x hx)⟩
theorem Stable.sl(hE:Stable E):Stable (slE size E):=by
 rintro w w' b o x h hs ⟨v,hc,hv⟩;exact⟨v,h _ _ hc,hv.keep hE h hs⟩
theorem ykr(hb:Below w.heap.size w w'):∀a u,w.cell? a=some u->w'.cell? a=some u :=
 fun a _ h=>(hb.cell (World.block_lt_of_cell? w a h)).trans h
theorem SlAt.below(hE:Stable E)(h:SlAt size E w v xs)(hb:Below w.heap.size w w'):SlAt size E w' v xs:=h.keep hE (ykr hb) hb.size
theorem SlAt.nil(w:World):SlAt size E w (.slice none 0 0) []:=⟨none,0,rfl,zI _,by omega,fun h=>absurd h (by simp)⟩
end
theorem GrAt.below{w w':World}{v:Value}{g:Gr}(h:GrAt w v g)(hb:Below w.heap.size w w'):GrAt w' v g:=by
 obtain⟨i,p,rfl,h1,h2⟩:=h;exact⟨i,p,rfl,h1.below Stable.int hb,h2.below (Stable.sl Stable.link) hb⟩
end
section
open Go.RowKit
theorem ybs{a b:Bool}(h:a=b):Ending.returned (.bool a) = .returned (.bool b):=by rw[h]
theorem box2{w wr:World}{x y:Value}{t:TypeId}(h:Below (w.heap.size+1) (w.alloc (.cells #[x,y] t)) wr) :
 wr.cell? ⟨w.heap.size,0,none⟩=some x/\wr.cell? ⟨w.heap.size,1,none⟩=some y/\Below w.heap.size w wr/\w.heap.size<wr.heap.size:=by
 refine⟨(h.cell (by simp)).trans (by simp),(h.cell (by simp)).trans (by simp),?_,?_⟩
 .exact((Below.refl _ w).alloc (zI _) _).trans (h.mono (by omega))
 .have:=h.size;simp at this;omega
theorem below_drewN{B:Nat}{a w:World}(h:Below B a w)(n:Nat):Below B a (w.drewN n):=⟨h.os,h.tape,h.output,h.size,h.block⟩
theorem ybyx{w w3:World}{o:Obj}(hb:Below (w.alloc o).heap.size (w.alloc o) w3):Below w.heap.size w w3:=((Below.refl _ w).alloc (zI _) o).trans (hb.mono (by simp))
theorem ydla{w w3:World}{x y:Value}{t:TypeId}(hb:Below (w.alloc (.cells #[x,y] t)).heap.size (w.alloc (.cells #[x,y] t)) w3):w3.cell? ⟨w.heap.size,0,none⟩=some x/\w3.cell? ⟨w.heap.size,1,none⟩=some y :=
 ⟨ykr hb _ _ (by simp),ykr hb _ _ (by simp)⟩
theorem ymz.at_{w:World}{v:Value}{xs:List Int}(h:ymz w v xs){k:Nat}(hk:k<xs.length) :
 ∃b off c,v = .slice (some ⟨b,off,none⟩) xs.length c/\b<w.heap.size/\xs.length<=c/\c<=9223372036854775807/\w.cell? ⟨b,off+k,none⟩=some (.int .i64 xs[k])/\I64 xs[k]:=by
 obtain⟨A,c,rfl,h1,h2,h3⟩:=h;obtain⟨b,off,rfl,hb,h4⟩:=h3 (by omega)
 have:=h4 k xs[k] (zC hk);rw[zO]at this;exact⟨b,off,c,rfl,hb,h1,h2,this.1,this.2⟩
theorem ybx{α:Type}{size:Nat}{E:Elem α}{w:World}{v:Value}{xs:List α}(h:SlAt size E w v xs):∃A c,v = .slice A xs.length c/\xs.length<=c/\c<=9223372036854775807:=by
 obtain⟨A,c,rfl,h1,h2,_⟩:=h;exact⟨A,c,rfl,h1,h2⟩
end
section
def yly(ls:List (Int×Int))(u:Int):Int:=match ls.findIdx? (fun l=>l.1==u)with|some i=>i|none=>-1
def ync(v n:Int)(l:Int×Int):Prop:=0<=l.1/\l.1<=n-1/\l.1≠v/\1<=l.2/\l.2<=15
instance(v n:Int)(l:Int×Int):Decidable (ync v n l):=by unfold ync;infer_instance
def ydh(ls:List (Int×Int))(v n:Int):Prop:=(∀l∈ls,ync v n l)/\(ls.map (·.1)).Nodup
instance(ls:List (Int×Int))(v n:Int):Decidable (ydh ls v n):=by unfold ydh;infer_instance
theorem take_snoc{α:Type}(l:List α)(k:Nat)(h:k<l.length):l.take (k+1)=l.take k++[l[k]]:=by
 rw[List.take_succ_eq_append_getElem h]
theorem ybew(ls:List (Int×Int))(v n:Int)(k:Nat)(h:k<ls.length) :
 ydh (ls.take (k+1)) v n↔ydh (ls.take k) v n/\ync v n ls[k]/\∀j (hj:j<k),(ls[j]).1≠(ls[k]).1:=by
 unfold ydh;rw[take_snoc ls k h];simp only[List.mem_append,List.mem_singleton,zAG,zAK,zAL,zT];constructor
 .rintro⟨h1,h2,_,h3⟩;refine⟨⟨fun l hl=>h1 l (.inl hl),h2⟩,h1 _ (.inr rfl),fun j hj=>?_⟩;refine h3 _ ?_ _ (by simp)
  exact List.mem_map.2 ⟨ls[j],List.mem_take_iff_getElem.2 ⟨j,by omega,rfl⟩,rfl⟩
 .rintro⟨⟨h1,h2⟩,h3,h4⟩;refine⟨?_,h2,by simp,?_⟩
  .rintro l (hl|rfl)
   .exact h1 l hl
   .exact h3
  .intro a ha b hb;obtain⟨l,hl,rfl⟩:=List.mem_map.1 ha;obtain⟨j,hj,rfl⟩:=List.mem_take_iff_getElem.1 hl;subst hb;exact h4 j (by omega)
theorem ybdx(ls:List (Int×Int))(v n:Int)(k:Nat)(h:ydh ls v n):ydh (ls.take k) v n:=by
 refine⟨fun l hl=>h.1 l (List.mem_of_mem_take hl),?_⟩;rw[List.map_take];exact h.2.sublist (List.take_sublist _ _)
theorem ybny(ls:List (Int×Int))(u:Int)(k:Nat)(hk:k<ls.length)(h:ls[k].1=u)(hn:(ls.take k).findIdx? (fun l=>l.1==u)=none):yly ls u=k:=by
 unfold yly
 have:ls.findIdx? (fun l=>l.1==u)=some k:=by
  rw[List.findIdx?_eq_some_iff_getElem];refine⟨hk,by simp[h],fun j hj=>?_⟩
  rw[List.findIdx?_eq_none_iff]at hn;have:=hn ls[j] (List.mem_take_iff_getElem.2 ⟨j,by omega,rfl⟩)
  simp[this]
 rw[this]
theorem ybja(ls:List (Int×Int))(u:Int)(hn:(ls.take ls.length).findIdx? (fun l=>l.1==u)=none):yly ls u = -1:=by
 rw[zU]at hn;unfold yly;rw[hn]
theorem ybcv(ls:List (Int×Int))(u:Int)(k:Nat)(hk:k<ls.length)(h:¬ls[k].1=u)(hn:(ls.take k).findIdx? (fun l=>l.1==u)=none):(ls.take (k+1)).findIdx? (fun l=>l.1==u)=none:=by
 rw[take_snoc ls k hk,List.findIdx?_append,hn];simp[h]
end
section
def ybj(g:Gr):Prop :=
 1 <= g.ports.length/\g.ports.length<=24/\g.ids.length=g.ports.length/\(∀x∈g.ids,0<=x/\x<=255)/\g.ids.Nodup /\
   (∀v:Fin g.ports.length,ydh g.ports[v] (v.1:Int) (g.ports.length:Int))/\(∀v:Fin g.ports.length,∀l∈g.ports[v],((v.1:Int),l.2)∈g.ports.getD l.1.toNat [])
instance(g:Gr):Decidable (ybj g):=by unfold ybj;infer_instance
def yhc(g:Gr):Bool:=decide (ybj g)
theorem yfb(g:Gr):yhc g=true↔ybj g:=by simp[yhc]
theorem ybho(n:Nat)(l:List Int)(h:∀x∈l,0<=x/\x<n)(hn:l.Nodup):l.length<=n:=by
 have h1:(l.map zAP).Nodup:=by
  rw[List.Nodup,List.pairwise_map];refine(List.Pairwise.and_mem.1 hn).imp ?_;rintro a b ⟨ha,hb,hne⟩ e;have:=h a ha;have:=h b hb;exact hne (by omega)
 have h2:(l.map zAP) ⊆ zAH n:=by
  intro x hx;obtain⟨y,hy,rfl⟩:=List.mem_map.1 hx;have:=h y hy;simp;omega
 have:=List.Nodup.length_le_of_subset h1 h2
 simpa using this
theorem ybfi{ls:List (Int×Int)}{v n:Nat}(hv:v<n)(h:ydh ls (v:Int) (n:Int)):ls.length<n:=by
 have h1:((v:Int)::ls.map (·.1)).Nodup:=by
  rw[List.nodup_cons];refine⟨fun hm=>?_,h.2⟩;obtain⟨l,hl,e⟩:=List.mem_map.1 hm;exact(h.1 l hl).2.2.1 e
 have:=ybho n ((v:Int)::ls.map (·.1)) (by
  intro x hx;rcases List.mem_cons.1 hx with rfl|hx
  .omega
  .obtain⟨l,hl,rfl⟩:=List.mem_map.1 hx;have:=h.1 l hl;unfold ync at this;omega) h1
 simp at this;omega
theorem yyh{ls:List (Int×Int)}{u:Int}:yly ls u = -1\/∃k:Nat,yly ls u=k/\k<ls.length:=by
 unfold yly;split
 .rename_i i hi
  obtain⟨hlt,hx,_⟩:=List.findIdx?_eq_some_iff_getElem.1 hi;exact .inr ⟨i,rfl,hlt⟩
 .exact .inl rfl
theorem yih{g:Gr}(h:¬(1<=g.ports.length/\g.ports.length<=24/\g.ids.length=g.ports.length)):yhc g=false:=by
 unfold yhc;rw[decide_eq_false_iff_not];exact fun hg=>h ⟨hg.1,hg.2.1,hg.2.2.1⟩
end
section
open Go.RowKit
theorem ynd{α:Type}{size:Nat}{E:Elem α}{w:World}{A:Option Addr}{c n:Nat}{xs:List (List α)}(h:SlAt 1 (slE size E) w (.slice A n c) xs){k:Nat}{ls:List α}(hk:xs[k]?=some ls) :
 ∃b off v,A=some ⟨b,off,none⟩/\b<w.heap.size/\w.cell? ⟨b,off+k,none⟩=some v/\SlAt size E w v ls:=by
 obtain⟨A',c',e,h1,h2,h3⟩:=h;cases e
 have hlt:=(List.getElem?_eq_some_iff.1 hk).1;obtain⟨b,off,rfl,hb,h4⟩:=h3 (by omega)
 obtain⟨v,hc,hv⟩:=h4 k ls hk;rw[zO]at hc;exact⟨b,off,v,rfl,hb,hc,hv⟩
theorem yng{w:World}{A:Option Addr}{c n:Nat}{xs:List Int}(h:ymz w (.slice A n c) xs){k:Nat}(hk:k<xs.length) :
 ∃b off,A=some ⟨b,off,none⟩/\b<w.heap.size/\w.cell? ⟨b,off+k,none⟩=some (.int .i64 xs[k])/\I64 xs[k]:=by
 obtain⟨b,off,c',e,hb,_,_,hc,hi⟩:=h.at_ hk;cases e
 exact⟨b,off,rfl,hb,hc,hi⟩
end
section
open Go.RowKit
def IBlk(w:World)(g:Nat)(R:List Int):Prop:=w.heap[g]?=some (.cells (R.map (Value.int .i64)).toArray 3 (0,0))
section
variable {w w':World}{g:Nat}{R:List Int}
theorem IBlk.lt(h:IBlk w g R):g<w.heap.size:=(Array.getElem?_eq_some_iff.1 h).1
theorem IBlk.cell(h:IBlk w g R){k:Nat}(hk:k<R.length):w.cell? ⟨g,k,none⟩=some (.int .i64 R[k]):=by
 simp[World.cell?,show w.heap[g]?=_ from h,hk]
theorem IBlk.frozen(h:IBlk w g R)(k:Nat):w.frozen? ⟨g,k,none⟩=false:=by simp[World.frozen?,show w.heap[g]?=_ from h]
theorem IBlk.set_(h:IBlk w g R)(k:Nat)(x:Int):IBlk (w.setCell ⟨g,k,none⟩ (.int .i64 x)) g (R.set k x):=by
 have h':w.heap[g]?=_:=h;unfold IBlk;simp[World.setCell,zW,h',List.map_set]
theorem IBlk.alloc(h:IBlk w g R)(o:Obj):IBlk (w.alloc o) g R:=(Below.heap_alloc w o g h.lt).trans h
theorem IBlk.drew(h:IBlk w g R):IBlk w.drew g R:=h
theorem IBlk.grown{row:Option Nat}(h:IBlk w g R)(hb:w.grownBy w' row)(hg:some g≠row):IBlk w' g R:=(hb.block g h.lt hg).trans h
theorem IBlk.ints(h:IBlk w g R)(hR:∀x∈R,I64 x)(hl:R.length<=1000000):ymz w (.slice (some ⟨g,0,none⟩) R.length R.length) R:=by
 refine⟨_,_,rfl,zI _,by omega,fun hp=>⟨g,0,rfl,h.lt,fun j x hx=>?_⟩⟩
 obtain⟨hj,e⟩:=List.getElem?_eq_some_iff.1 hx;refine⟨?_,hR x (zY hx)⟩;rw[zO,Nat.zero_add,h.cell hj,e]
end
def Owns(w:World)(base:Nat)(e:TypeId)(size:Nat)(v:Value)(n:Nat)(xs:List Value):Prop :=
 xs.length=n*size/\((v = .slice none 0 0/\n=0)\/∃g off cap cur,v = .slice (some ⟨g,off,none⟩) n cap/\base<=g/\w.heap[g]?=some (.cells cur e (0,0))/\n<=cap/\cap<=maxLen /\
  off+cap*size<=cur.size/\∀j u,xs[j]?=some u->cur[off+j]?=some u)
section
variable {w w':World}{base:Nat}{e:TypeId}{size:Nat}{v:Value}{n:Nat}{xs:List Value}
theorem Owns.of_row(h:w.ownsRow base e size v n xs):Owns w base e size v n xs:=by
 obtain⟨h1,h2⟩:=h;refine⟨h1,h2.imp id ?_⟩;rintro⟨g,cap,cur,hv,hb,hh,hn,hc,hs,ht⟩;refine⟨g,0,cap,cur,hv,hb,hh,hn,hc,by omega,fun j u hu=>?_⟩
 rw[<-ht,List.getElem?_take]at hu;split at hu
 .simpa using hu
 .cases hu
theorem Owns.keep(h:Owns w base e size v n xs)(hk:∀g,v.ownBlock=some g->w'.heap[g]?=w.heap[g]?):Owns w' base e size v n xs:=by
 obtain⟨h1,h2⟩:=h;refine⟨h1,h2.imp id ?_⟩;rintro⟨g,off,cap,cur,rfl,hb,hh,r⟩;exact⟨g,off,cap,cur,rfl,hb,by rw[hk g rfl];exact hh,r⟩
theorem Owns.lt(h:Owns w base e size v n xs){g:Nat}(hg:v.ownBlock=some g):base<=g/\g<w.heap.size:=by
 rcases h.2 with⟨rfl,_⟩|⟨g',off,cap,cur,rfl,hb,hh,_⟩
 .simp[Value.ownBlock]at hg
 .obtain rfl:g'=g:=by simpa[Value.ownBlock]using hg
  exact⟨hb,(Array.getElem?_eq_some_iff.1 hh).1⟩
theorem Owns.alloc(h:Owns w base e size v n xs)(o:Obj):Owns (w.alloc o) base e size v n xs:=h.keep fun g hg=>Below.heap_alloc w o g (h.lt hg).2
theorem Owns.far(h:Owns w base e size v n xs){p:Addr}(hp:v.ownBlock≠some p.block)(u:Value):Owns (w.setCell p u) base e size v n xs :=
 h.keep fun g hg=>Below.heap_setCell w p u g (fun e'=>hp (by rw[hg,e']))
theorem Owns.low(h:Owns w base e size v n xs){p:Addr}(hp:p.block<base)(u:Value):Owns (w.setCell p u) base e size v n xs :=
 h.far (fun e'=>by have:=(h.lt e').1;omega) u
theorem Owns.drew(h:Owns w base e size v n xs):Owns w.drew base e size v n xs:=h
theorem Owns.form(h:Owns w base e size v n xs)(hn:0<n):∃g off cap,v = .slice (some ⟨g,off,none⟩) n cap/\base<=g/\g<w.heap.size/\n<=cap/\cap<=maxLen/\∀j u,xs[j]?=some u->w.cell? ⟨g,off+j,none⟩=some u:=by
 rcases h.2 with⟨rfl,h0⟩|⟨g,off,cap,cur,rfl,hb,hh,h1,h2,h3,h4⟩
 .omega
 .exact⟨g,off,cap,rfl,hb,(Array.getElem?_eq_some_iff.1 hh).1,h1,h2,fun j u hu=>by simp[World.cell?,hh,h4 j u hu]⟩
theorem Owns.val(h:Owns w base e size v n xs):∃A c,v = .slice A n c:=by
 rcases h.2 with⟨rfl,rfl⟩|⟨g,off,cap,cur,rfl,_⟩
 .exact⟨_,_,rfl⟩
 .exact⟨_,_,rfl⟩
theorem Owns.cut1{a:Addr}{c:Nat}(h:Owns w base e size (.slice (some a) n c) n xs)(hn:0<n){k:Nat}(hk:k<=n) :
 Owns w base e size (.slice (some (if c=k then a else a.add (k*size))) (n-k) (c-k)) (n-k) (xs.drop (k*size)):=by
 obtain⟨h1,h2⟩:=h;refine⟨by rw[List.length_drop,h1,Nat.sub_mul],.inr ?_⟩
 rcases h2 with⟨e,_⟩|⟨g,off,cap,cur,e,hb,hh,hc,hm,hs,hx⟩
 .cases e
 .injection e with e1 e2 e3
  injection e1 with e1
  subst e1 e3
  by_cases hck:c=k
  .subst hck;obtain rfl:n=c:=by omega
   refine⟨g,off,0,cur,by simp,hb,hh,by omega,by omega,by omega,fun j u hu=>?_⟩
   rw[List.drop_eq_nil_of_le (by omega)]at hu
   simp at hu
  .have hsz:off+k*size+(c-k)*size<=cur.size:=by
    rw[zS,<-zAB,show k+(c-k)=c by omega]
    exact hs
   refine⟨g,off+k*size,c-k,cur,?_,hb,hh,by omega,by simp only[maxLen]at hm ⊢;omega,hsz,fun j u hu=>?_⟩
   .rw[if_neg hck,Addr.add_lit]
   .rw[List.getElem?_drop]at hu;rw[zS];exact hx _ u hu
theorem ycin{P:Program}{t:TypeId}(ht:P.underlying t=some (.slice e)){i:TypeInfo}(hi:P.info? e=some i)(hsize:i.size=size)(h:Owns w base e size v n xs){k:Nat}(hk:k<=n)(hn:0<n) :
 ∃v',(∀W,(Instr.slice t v (some (.int .i64 (k:Int))) none none).run P W = .ok v' W)/\Owns w base e size v' (n-k) (xs.drop (k*size))/\v'.ownBlock=v.ownBlock:=by
 obtain⟨g,off,cap,rfl,hg,_,hc,hm,_⟩:=h.form hn;refine⟨_,?_,h.cut1 hn hk,by simp only[Value.ownBlock];split<;>simp[Addr.add_lit]⟩
 intro W;have h1:¬((n:Int)<(k:Int)):=by omega
 simp[Instr.slice,Instr.sliceBounds,Instr.sliceBound,asIntOf,run_underlying ht,sizeOf,typeInfo,hi,hsize,hk,go_sem];split<;>simp
end
theorem ynb(b:Nat):∀(vs:List Value) (o:Nat) (w:World) (k:Nat),k≠b->(w.setCells b o vs).heap[k]?=w.heap[k]?
 |[],_,_,_,_=>rfl
 | v::vs,o,w,k,h=>by
   show((w.setCell ⟨b,o,none⟩ v).setCells b (o+1) vs).heap[k]?=_;rw[ynb b vs (o+1) _ k h,Below.heap_setCell w ⟨b,o,none⟩ v k h]
theorem yjy(b:Nat)(e:TypeId):∀(vs:List Value) (o:Nat) (w:World) (cur:Array Value),w.heap[b]?=some (.cells cur e (0,0))->o+vs.length<=cur.size ->
 ∃cur',(w.setCells b o vs).heap[b]?=some (.cells cur' e (0,0))/\cur'.size=cur.size/\(∀j,j<o->cur'[j]?=cur[j]?)/\∀j u,vs[j]?=some u->cur'[o+j]?=some u
 |[],o,w,cur,h,_=>⟨cur,h,rfl,fun _ _=>rfl,fun j u hu=>by simp at hu⟩
 | v :: vs,o,w,cur,h,hl=>by
   simp only[zAC]at hl;have h1:(w.setCell ⟨b,o,none⟩ v).heap[b]?=some (.cells (cur.setIfInBounds o v) e (0,0)):=by simp[World.setCell,zW,h]
   obtain⟨cur',g1,g2,g3,g4⟩:=yjy b e vs (o+1) (w.setCell ⟨b,o,none⟩ v) (cur.setIfInBounds o v) h1 (by simp;omega)
   refine⟨cur',g1,by rw[g2];simp,fun j hj=>?_,fun j u hu=>?_⟩
   .rw[g3 j (by omega),zF,if_neg (by omega)]
   .cases j with
    | zero =>
      rw[g3 _ (by omega),Nat.add_zero,zF,if_pos rfl,if_pos (by omega)]
      simpa using hu
    |succ j=>rw[show o+(j+1)=o+1+j by omega];exact g4 j u (by simpa using hu)
theorem size_setCells(b:Nat):∀(vs:List Value) (o:Nat) (w:World),(w.setCells b o vs).heap.size=w.heap.size
 |[],_,_=>rfl
 |v::vs,o,w=>by show((w.setCell ⟨b,o,none⟩ v).setCells b (o+1) vs).heap.size=_;rw[size_setCells b vs];simp
theorem yka(b:Nat):∀(vs:List Value) (o:Nat) (w:World),(w.setCells b o vs).os=w.os/\(w.setCells b o vs).tape=w.tape/\(w.setCells b o vs).output=w.output
 |[],_,_=>⟨rfl,rfl,rfl⟩
 | v::vs,o,w=>by
   have:=yka b vs (o+1) (w.setCell ⟨b,o,none⟩ v);exact⟨this.1,this.2.1,this.2.2⟩
section
variable {P:Program}(w:World)
theorem yuv (base:Nat) (t ty e:TypeId) (i:TypeInfo) (z:Value) (size bytes:Nat) (ht:P.underlying t=some (.slice e)) (hi:P.info? e=some i) (hz:i.zero=some z)
 (hsize:i.size=size) (hby:i.bytes=bytes) (hzs:z.cells.size=size) (hsz:0<size)
 (v:Value) (n:Nat) (xs:List Value) (hown:Owns w base e size v n xs)
 (a:Addr) (m c:Nat) (news:List Value) (hl:news.length=m*size) (hnews:∀j u,news[j]?=some u->w.cell? (a.add j)=some u) (h1:∀u∈news,u.oneCell'=true)
 (h63:n+m<=maxLen) (hbytes:(n+m)*bytes<=140737488355328) (hbase:base<=w.heap.size) :
 ∃ v' w',(Builtin.append_ #[t,t] ty #[v,.slice (some a) m c]).run P w = .ok v' w'/\Owns w' base e size v' (n+m) (xs++news)/\w.grownBy w' v.ownBlock /\
   (v'.ownBlock=v.ownBlock\/v'.ownBlock=some w.heap.size):=by
 rcases hown.2 with⟨rfl,rfl⟩|⟨g,off,cap,cur,rfl,hb,hh,hn,hc,hs,hx⟩
 .obtain rfl:xs=[]:=zJ (by simpa using hown.1)
  obtain⟨v',w',hrun,h2,h3,_,h5⟩:=run_append_own_at (P:=P) w base t ty e i z size bytes ht hi hz hsize hby hzs hsz (.slice none 0 0) 0 [] (World.ownsRow_nil w base e size) a m c news hl hnews h1 h63 hbytes hbase;exact⟨v',w',hrun,Owns.of_row h2,h3,h5⟩
 .by_cases hr:n+m<=cap
  .subst hsize
   have hfit:off+n*i.size+news.length<=cur.size:=by
    rw[hl,zS,<-zAB];exact zAM (Nat.add_le_add_left (Nat.mul_le_mul_right _ hr) _) hs
   have hcell:∀j,j<news.length->w.cell? ⟨g,off+n*i.size+j,none⟩=some (cur[off+n*i.size+j]!):=fun j hj=>by
    have:off+n*i.size+j<cur.size:=by omega
    simp[World.cell?,hh,this]
   have hrun:=run_append_room_cells (P:=P) w t ty e i ht hi g off n cap a m c news hl hnews h1 hr (fun j hj=>by rw[hcell j hj];rfl) (fun j _=>by simp[World.frozen?,hh])
   obtain⟨cur',g1,g2,g3,g4⟩:=yjy g e news (off+n*i.size) w cur hh hfit;have hst:=yka g news (off+n*i.size) w;refine⟨_,_,hrun,⟨by rw[zZ,hown.1,hl,zAB],.inr ⟨g,off,cap,cur',rfl,hb,g1,hr,hc,by rw[g2];exact hs,fun j u hu=>?_⟩⟩,⟨hst.1,hst.2.1,hst.2.2,by rw[size_setCells];exact zI _,fun k _ hk=>?_⟩,.inl rfl⟩
   .by_cases hj:j<xs.length
    .rw[List.getElem?_append_left hj]at hu;rw[g3 _ (by have:=hown.1;omega)]
     exact hx j u hu
    .rw[List.getElem?_append_right (by omega)]at hu
     have:=g4 _ u hu;rw[<-this];congr 1;have:=hown.1;omega
   .exact ynb g news _ w k (fun e'=>hk (by simp[Value.ownBlock,e']))
  .have holds:∀j u,xs[j]?=some u->w.cell? ((⟨g,off,none⟩:Addr).add j)=some u:=fun j u hu=>by
    rw[Addr.add_lit];simp[World.cell?,hh,hx j u hu]
   obtain⟨v',w',hrun,r1,r2⟩:=run_append_arg_grows (P:=P) w t ty e i z size bytes ht hi hz hsize hby hzs hsz ⟨g,off,none⟩ n cap xs hown.1 holds a m c news hl hnews (by omega) h63 hbytes
   refine⟨v',w',hrun,?_,⟨r2.os,r2.tape,r2.output,r2.size,fun k hk _=>r2.block k hk (by simp)⟩,?_⟩
   .have:=Owns.of_row r1;obtain⟨q1,q2⟩:=this;refine⟨q1,q2.imp id ?_⟩;rintro⟨g',off',cap',cur',a1,a2,a3⟩;exact⟨g',off',cap',cur',a1,zAM hbase a2,a3⟩
   .subst hsize;subst hby;have hr2:=run_append_grow (P:=P) w t ty e i z ht hi hz ⟨g,off,none⟩ n cap xs hown.1 holds a m c news hl hnews (by omega) (by simp only[maxLen]at h63;omega) (growslice_fits (by omega) hbytes)
    rw[hr2]at hrun
    injection hrun with e1 _
    subst e1;exact .inr rfl
theorem yvp {o:Oper}{a:Act}{K:Act->World->Prop}{Q:Exit->Act->World->Prop}(s x:Operand) (t:TypeId)
 (ho:o.op = .call { callee:=.builtin .append,args:=#[s,x],argTypes:=#[t,t] })
 (base:Nat) (e:TypeId) (i:TypeInfo) (z:Value) (size bytes:Nat) (ht:P.underlying t=some (.slice e)) (hi:P.info? e=some i) (hz:i.zero=some z)
 (hsize:i.size=size) (hby:i.bytes=bytes) (hzs:z.cells.size=size) (hsz:0<size)
 (v:Value) (n:Nat) (xs:List Value) (hs:a.eval s=v) (hown:Owns w base e size v n xs)
 (ad:Addr) (m c:Nat) (news:List Value) (hx:a.eval x = .slice (some ad) m c) (hl:news.length=m*size) (hnews:∀j u,news[j]?=some u->w.cell? (ad.add j)=some u) (h1:∀u∈news,u.oneCell'=true)
 (h63:n+m<=maxLen) (hbytes:(n+m)*bytes<=140737488355328) (hbase:base<=w.heap.size)
 (h:∀v' w',Owns w' base e size v' (n+m) (xs++news)->w.grownBy w' v.ownBlock->(v'.ownBlock=v.ownBlock\/v'.ownBlock=some w.heap.size)->K (a.put o.dst v') w'):o.wp P a w K Q:=by
 obtain⟨v',w',hr,h2,h3,h4⟩:=yuv (P:=P) w base t o.type e i z size bytes ht hi hz hsize hby hzs hsz v n xs hown ad m c news hl hnews h1 h63 hbytes hbase;unfold Oper.wp execOp;simp only[ho,resolve,invoke,builtin,zG,zH,zD,List.map_toArray,zAK,zAL,hs,hx,hr];exact h v' w' h2 h3 h4
theorem ynm {ops:Array Oper}{rest:List Oper}{o:Oper}{a:Act}{Q:Exit->Act->World->Prop}(hgd:o.guard=none) (s x:Operand) (t:TypeId)
 (ho:o.op = .call { callee:=.builtin .append,args:=#[s,x],argTypes:=#[t,t] })
 (base:Nat) (e:TypeId) (i:TypeInfo) (z:Value) (size bytes:Nat) (ht:P.underlying t=some (.slice e)) (hi:P.info? e=some i) (hz:i.zero=some z)
 (hsize:i.size=size) (hby:i.bytes=bytes) (hzs:z.cells.size=size) (hsz:0<size)
 (v:Value) (n:Nat) (xs:List Value) (hs:a.eval s=v) (hown:Owns w base e size v n xs)
 (ad:Addr) (m c:Nat) (news:List Value) (hx:a.eval x = .slice (some ad) m c) (hl:news.length=m*size) (hnews:∀j u,news[j]?=some u->w.cell? (ad.add j)=some u) (h1:∀u∈news,u.oneCell'=true)
 (h63:n+m<=maxLen) (hbytes:(n+m)*bytes<=140737488355328) (hbase:base<=w.heap.size)
 (h:∀v' w',Owns w' base e size v' (n+m) (xs++news)->w.grownBy w' v.ownBlock->(v'.ownBlock=v.ownBlock\/v'.ownBlock=some w.heap.size)->wpList P ops Q rest (a.put o.dst v') w'):wpList P ops Q (o::rest) a w :=
 wpList_plain hgd fun _ hK=>yvp w s x t ho base e i z size bytes ht hi hz hsize hby hzs hsz v n xs hs hown ad m c news hx hl hnews h1 h63 hbytes hbase fun v' w' h2 h3 h4=>hK _ _ (h v' w' h2 h3 h4)
end
theorem yblh:(Tryz.prog.info? 3).map (fun i=>(i.zero,i.size,i.bytes))=some (some (.int .i64 0),1,8):=by kernel_rfl
theorem ybao(n:Nat):madeCells #[Value.int .i64 0] n=((zAJ n (0:Int)).map (Value.int .i64)).toArray:=by
 apply Array.ext
 .simp[madeCells]
 .intro i h1 h2;simp[madeCells,Nat.mod_one]
theorem ybee(n:Nat)(hn:n<=1000000)(w:World):(Instr.makeSlice 22 (.int .i64 (n:Int)) (.int .i64 (n:Int))).run zA w =
 .ok (.slice (some ⟨w.heap.size,0,none⟩) n n) (w.alloc (.cells ((zAJ n (0:Int)).map (Value.int .i64)).toArray 3)):=by
 rw[<-ybao];exact run_make_row' 22 3 (.int .i64 0) 8 Tryz.underlying22 yblh rfl .i64 .i64 n (by omega) (by omega) w
theorem IBlk.new(w:World)(R:List Int):IBlk (w.alloc (.cells (R.map (Value.int .i64)).toArray 3)) w.heap.size R:=heap_alloc_new w _
theorem ychp{w:World}{v:Value}{t:TypeId}{g:Nat}(hg:g=w.heap.size):∀j u,[v][j]?=some u->((w.alloc (.cells #[v] t)).cell? ((⟨g,0,none⟩:Addr).add j))=some u:=by
 intro j u hu;subst hg;cases j with
 |zero=>simp at hu;subst hu;rw[Addr.add_lit];simp
 |succ j=>simp at hu
def ydhr(D:List Int)(w:World)(e:Ending)(w':World):Prop:=∃v,e = .returned v/\ymz w' v D/\Below w.heap.size w w'
end
section
open Go.RowKit
theorem ysk(w:World)(cs:Array Value)(k:Nat)(v:Value)(h:cs[k]?=some v):(part 3 cs k).run zA w = .ok v w:=by
 simp[part,h]
theorem ybjn(d:Nat)(a b:Int)(w:World):(Op.equalIn (d+1) 3 (.int .i64 a) (.int .i64 b)).run zA w = .ok (a==b) w:=by
 simp[Op.equalIn,run_underlying zAD]
theorem ybdk(n:Nat)(a b c d:Int)(w:World):(Op.equalIn (n+2) 91 (.agg #[.int .i64 a,.int .i64 b]) (.agg #[.int .i64 c,.int .i64 d])).run zA w = .ok (a==c&&b==d) w:=by
 have h:=ybjn n;have p0:∀x y w,(part 3 #[x,y] 0).run zA w = .ok x w:=fun x y w=>ysk w _ 0 x rfl;have p1:∀x y w,(part 3 #[x,y] 1).run zA w = .ok y w:=fun x y w=>ysk w _ 1 y rfl;unfold Op.equalIn;simp[run_underlying zL,Std.Legacy.Range.forIn_eq_forIn_range',Std.Legacy.Range.size,zAO,p0,p1,h]
 by_cases h1:a=c<;>by_cases h2:b=d<;>simp[h1,h2]
theorem ybot(a b c d:Int)(w:World):(Op.equal 91 (.agg #[.int .i64 a,.int .i64 b]) (.agg #[.int .i64 c,.int .i64 d])).run zA w = .ok (a==c&&b==d) w :=
 ybdk 9998 a b c d w
abbrev Tri:=Int×Int×Int
def ent(i:Nat)(p:Tri):MapEntry:={ key:=.agg #[.int .i64 p.1,.int .i64 p.2.1],val:=.int .i64 p.2.2,born:=i }
def ents(L:List Tri):Array MapEntry:=(L.mapIdx ent).toArray
def hit(x y:Int)(p:Tri):Bool:=x==p.1&&y==p.2.1
def PMap(w:World)(b:Nat)(L:List Tri):Prop:=w.heap[b]?=some (.map (ents L) L.length)
theorem ymd(x y:Int)(w:World):∀(L:List Tri) (f:Nat->Tri->MapEntry) (_:∀i p,(f i p).key = .agg #[.int .i64 p.1,.int .i64 p.2.1]/\(f i p).val = .int .i64 p.2.2) (i:Nat),
 ∃r,(Instr.findAsking 91 (.agg #[.int .i64 x,.int .i64 y]) (L.mapIdx f) i).run zA w = .ok r w/\(∀p,L.find? (hit x y)=some p->∃j,r=some (j,.int .i64 p.2.2))/\(L.find? (hit x y)=none->r=none)
 |[],f,_,i=>⟨none,by simp[Instr.findAsking],by simp,fun _=>rfl⟩
 | p :: L,f,hf,i=>by
   obtain⟨r,h1,h2,h3⟩:=ymd x y w L (fun i=>f (i+1)) (fun i p=>hf (i+1) p) (i+1);rw[zAE];simp only[Instr.findAsking,zG,(hf 0 p).1,(hf 0 p).2,ybot,zD]
   by_cases hh:hit x y p=true
   .refine⟨some (i,.int .i64 p.2.2),?_,?_,?_⟩
    .have:(x==p.1&&y==p.2.1)=true:=hh;rw[this];simp
    .intro q hq;simp[hh]at hq;subst hq;exact⟨i,rfl⟩
    .intro hq;simp[hh]at hq
   .have hf':hit x y p=false:=by simpa using hh
    refine⟨r,?_,?_,?_⟩
    .have:(x==p.1&&y==p.2.1)=false:=hf';rw[this]
     simpa using h1
    .intro q hq;simp only[zAI,hf']at hq;exact h2 q hq
    .intro hq;simp only[zAI,hf']at hq;exact h3 hq
theorem run_findKey(x y:Int)(w:World)(L:List Tri) :
 ∃r,(Instr.findKey 91 (.agg #[.int .i64 x,.int .i64 y]) (ents L).toList).run zA w = .ok r w/\(∀p,L.find? (hit x y)=some p->∃j,r=some (j,.int .i64 p.2.2))/\(L.find? (hit x y)=none->r=none):=by
 obtain⟨r,h1,h2⟩:=ymd x y w L ent (fun i p=>⟨rfl,rfl⟩) 0;refine⟨r,?_,h2⟩;unfold ents;cases L with
 | nil =>
   simp[Instr.findAsking]at h1;subst h1;simp[Instr.findKey,run_underlying zL,Instr.findNow]
 | cons p L =>
   rw[zAE]at h1 ⊢;simp only[Instr.findKey,zG,run_underlying zL,zD,Instr.findNow,ent,Instr.sameNow];exact h1
theorem ybcs(e:Bool)(n:Nat)(a:Int)(w:World):(Instr.checkKey e (n+1) 3 (.int .i64 a)).run zA w = .ok () w:=by
 unfold Instr.checkKey;simp[run_underlying zAD]
theorem run_checkKey(e:Bool)(x y:Int)(w:World):(Instr.checkKey e 10000 91 (.agg #[.int .i64 x,.int .i64 y])).run zA w = .ok () w:=by
 have h:∀a w,(Instr.checkKey e 9999 3 (.int .i64 a)).run zA w = .ok () w:=fun a w=>ybcs e 9998 a w;have p0:∀x y w,(part 3 #[x,y] 0).run zA w = .ok x w:=fun x y w=>ysk w _ 0 x rfl;have p1:∀x y w,(part 3 #[x,y] 1).run zA w = .ok y w:=fun x y w=>ysk w _ 1 y rfl;unfold Instr.checkKey;simp[run_underlying zL,Std.Legacy.Range.forIn_eq_forIn_range',Std.Legacy.Range.size,zAO,p0,p1,h]
def ype(L:List Tri)(x y:Int):Int:=((L.find? (hit x y)).map (·.2.2)).getD 0
def yhi(L:List Tri)(x y:Int):Bool:=(L.find? (hit x y)).isSome
theorem ybhr{w:World}{b:Nat}{L:List Tri}(h:PMap w b L)(x y:Int)(c:Bool) :
 (Instr.lookup 242 (.map (some b)) (.agg #[.int .i64 x,.int .i64 y]) c).run zA w = .ok (if c then .tuple #[.int .i64 (ype L x y),.bool (yhi L x y)]else .int .i64 (ype L x y)) w:=by
 obtain⟨r,h1,h2,h3⟩:=run_findKey x y w L;have hb:w.heap[b]?=_:=h;simp only[Instr.lookup,zG,run_underlying zQ,zD,getObj,zM,hb,run_checkKey,h1,zH];unfold ype yhi;cases hf:L.find? (hit x y)with
 | none =>
   rw[h3 hf];cases c<;>simp
 | some p =>
   obtain⟨j,rfl⟩:=h2 p hf;cases c<;>simp
theorem ycah(L:List Tri)(p:Tri):ents (L++[p])=(ents L).push (ent L.length p):=by
 unfold ents;rw[List.mapIdx_append];simp
theorem yvn{w:World}{b:Nat}{L:List Tri}(h:PMap w b L)(x y z:Int)(hn:yhi L x y=false) :
 (Instr.mapUpdate 242 (.map (some b)) (.agg #[.int .i64 x,.int .i64 y]) (.int .i64 z)).run zA w = .ok () { w with heap:=w.heap.setIfInBounds b (.map (ents (L++[(x,y,z)])) (L.length+1)) }:=by
 obtain⟨r,h1,_,h3⟩:=run_findKey x y w L;have hb:w.heap[b]?=_:=h
 have hf:L.find? (hit x y)=none:=by
  unfold yhi at hn
  simpa using hn
 rw[h3 hf]at h1;simp only[Instr.mapUpdate,zG,run_underlying zQ,zD,getObj,zM,hb,run_checkKey,h1,setObj,ycah,ent]
def World.setMap(w:World)(b:Nat)(L:List Tri):World:={ w with heap:=w.heap.setIfInBounds b (.map (ents L) L.length) }
theorem PMap.lt{w:World}{b:Nat}{L:List Tri}(h:PMap w b L):b<w.heap.size:=(Array.getElem?_eq_some_iff.1 h).1
theorem PMap.alloc{w:World}{b:Nat}{L:List Tri}(h:PMap w b L)(o:Obj):PMap (w.alloc o) b L:=(Below.heap_alloc w o b h.lt).trans h
theorem PMap.set{w:World}{b:Nat}{L:List Tri}(h:PMap w b L)(L':List Tri):PMap (World.setMap w b L') b L':=by
 unfold PMap World.setMap;rw[zF,if_pos rfl,if_pos h.lt]
theorem Below.setMap{B:Nat}{a w:World}(h:Below B a w){b:Nat}(hb:B<=b)(L:List Tri):Below B a (World.setMap w b L) :=
 h.trans ⟨rfl,rfl,rfl,by simp[World.setMap],fun k hk=>by
  show(w.heap.setIfInBounds b _)[k]?=_;rw[zF,if_neg (by omega)]⟩
theorem yhb {P:Program}{w w':World}{ops:Array Oper}{rest:List Oper}{o:Oper}{a:Act}{Q:Exit->Act->World->Prop}(hgd:o.guard=none) (v:Value)
 (hrun:(execOp a.eval o).run P w = .ok (.value v) w') (h:wpList P ops Q rest (a.put o.dst v) w'):wpList P ops Q (o::rest) a w :=
 wpList_plain hgd fun K hK=>by unfold Oper.wp;rw[hrun];exact hK _ _ h
theorem yfz {w:World}{ops:Array Oper}{rest:List Oper}{o:Oper}{a:Act}{Q:Exit->Act->World->Prop}(hgd:o.guard=none) (m k:Operand) (c:Bool) (ho:o.op = .lookup 242 m k c)
 (b:Nat) (x y:Int) (hm:a.eval m = .map (some b)) (hk:a.eval k = .agg #[.int .i64 x,.int .i64 y]) (L:List Tri) (hL:PMap w b L)
 (h:wpList zA ops Q rest (a.put o.dst (if c then .tuple #[.int .i64 (ype L x y),.bool (yhi L x y)]else .int .i64 (ype L x y))) w):wpList zA ops Q (o::rest) a w:=by
 refine yhb hgd _ ?_ h;unfold execOp;simp only[ho,hm,hk,zG,ybhr hL,zD,zH]
theorem ypj {w:World}{ops:Array Oper}{rest:List Oper}{o:Oper}{a:Act}{Q:Exit->Act->World->Prop}(hgd:o.guard=none) (m k v:Operand) (ho:o.op = .mapUpdate 242 m k v) (hd:o.dst=none)
 (b:Nat) (x y z:Int) (hm:a.eval m = .map (some b)) (hk:a.eval k = .agg #[.int .i64 x,.int .i64 y]) (hv:a.eval v = .int .i64 z) (L:List Tri) (hL:PMap w b L) (hn:yhi L x y=false)
 (h:wpList zA ops Q rest a (World.setMap w b (L++[(x,y,z)]))):wpList zA ops Q (o::rest) a w:=by
 refine wpList_plain hgd fun K hK=>?_;unfold Oper.wp execOp;simp only[ho,hm,hk,hv,zG,yvn hL x y z hn,zD,zH];have:=hK a _ h
 simpa[Oper.upon,Act.put,hd,World.setMap]using this
end
section
open Go.RowKit
def ymw(w:World)(r b:Nat)(L:List Tri)(seen:List Nat):Prop:=w.heap[r]?=some (.mapIter (some b) L.length seen.toArray L.length)
theorem ybpi{w:World}{b:Nat}{L:List Tri}(h:PMap w b L) :
 (Instr.range 242 (.map (some b))).run zA w = .ok (.pointer (some ⟨w.heap.size,0,none⟩)) (w.alloc (.mapIter (some b) L.length #[] L.length)):=by
 have hb:w.heap[b]?=_:=h;simp only[Instr.range,zG,run_underlying zQ,zD,getObj,zM,hb,zH,newObj];rfl
theorem ynf(L:List Tri)(i:Nat):(ents L)[i]?=(L[i]?).map (ent i):=by simp[ents]
theorem ybkx{L:List Tri}{e:MapEntry}(h:e∈ents L):∃i p,L[i]?=some p/\e=ent i p:=by
 obtain⟨i,hi⟩:=Array.mem_iff_getElem?.1 h;rw[ynf]at hi;obtain⟨p,hp,rfl⟩:=Option.map_eq_some_iff.1 hi;exact⟨i,p,hp,rfl⟩
theorem ydci{L:List Tri}{i:Nat}{p:Tri}(h:L[i]?=some p):ent i p∈ents L:=by
 apply zX (i:=i);rw[ynf,h];rfl
def World.stepIter(w:World)(m r b:Nat)(L:List Tri)(seen:List Nat):World:={ w.drewN m with heap:=w.heap.setIfInBounds r (.mapIter (some b) L.length seen.toArray L.length) }
theorem ycbv{w:World}{r b:Nat}{L:List Tri}{seen:List Nat}(h:PMap w b L)(hi:ymw w r b L seen)(ty:TypeId) :
 (∃m,(Instr.next (.pointer (some ⟨r,0,none⟩)) false ty).run zA w = .ok (.tuple #[.bool false]) (w.drewN m)/\∀i,i<L.length->i∈seen) \/
 ∃m i p,L[i]?=some p/\i∉seen/\(Instr.next (.pointer (some ⟨r,0,none⟩)) false ty).run zA w = .ok (.tuple #[.bool true,(ent i p).key,(ent i p).val]) (World.stepIter w m r b L (seen++[i])):=by
 have hb:w.heap[b]?=_:=h;have hr:w.heap[r]?=_:=hi;have hlt:r<w.heap.size:=(Array.getElem?_eq_some_iff.1 hr).1
 have hall:(!seen.toArray.isEmpty && !(ents L).isEmpty&&(ents L).all (fun x=>decide (x.born>=L.length)))=false:=by
  cases L with
  |nil=>simp[ents]
  | cons p L =>
    have:(ents (p::L)).all (fun x=>decide (x.born>=(p::L).length))=false:=by
     rw[Array.all_eq_false];exact⟨0,by simp[ents],by simp[ents,ent]⟩
    rw[this];simp
 have hold:∀left:Array MapEntry,(∀e∈left,e∈ents L)->left.filter (fun x=>decide (x.born<L.length))=left/\left.filter (fun x=>decide (x.born>=L.length)) = #[]:=by
  intro left hl
  have hborn:∀e∈left,e.born<L.length:=by
   intro e he;obtain⟨i,p,hp,rfl⟩:=ybkx (hl e he);exact(List.getElem?_eq_some_iff.1 hp).1
  constructor
  .rw[Array.filter_eq_self];exact fun e he=>decide_eq_true (hborn e he)
  .rw[Array.filter_eq_empty_iff];intro e he;have:=hborn e he;simp;omega
 obtain⟨left,hleft⟩:∃left,(ents L).filter (fun e=>!seen.toArray.contains e.born)=left:=⟨_,rfl⟩
 have hsub:∀e∈left,e∈ents L/\e.born∉seen:=by
  intro e he;rw[<-hleft,zAF]at he;exact⟨he.1,by simpa using he.2⟩
 obtain⟨o1,o2⟩:=hold left (fun e he=>(hsub e he).1)
 have hnext:(Instr.next (.pointer (some ⟨r,0,none⟩)) false ty).run zA w =
  ((choose (.mapNext ((if left.isEmpty then #[none]else #[])++(left ++ #[]).map some).size)).run zA w).andThen fun j w' =>
    (match ((if left.isEmpty then #[none]else #[])++(left ++ #[]).map some)[j]? with
      |some (some e)=>(do setObj r (.mapIter (some b) L.length (seen.toArray.push e.born) L.length);pure (.tuple #[.bool true,e.key,e.val]):Sem Value)
      |some none=>pure (.tuple #[.bool false])
      | none => stuck "Next: no such candidate").run zA w' := by
  simp only[Instr.next,zG,getObj,zM,hr,hb,zD,hall,hleft,o1,o2]
  rw[if_neg (by simp)]
  simp only[zG];rfl
 rw[hnext]
 by_cases hem:left = #[]
 .subst hem;refine .inl ⟨0,by simp[choose,zM,Question.forced,World.drewN],fun i hi=>?_⟩
  by_cases hs:i∈seen
  .exact hs
  .have:ent i L[i]∈(#[]:Array MapEntry):=by
    rw[<-hleft,zAF];exact⟨ydci (zC hi),by simpa[ent]using hs⟩
   simp at this
 .right
  have hne:left.isEmpty=false:=by simpa using hem
  have hpos:0<left.size:=Array.size_pos_iff.2 hem;have hcs:((if left.isEmpty then #[none]else #[])++(left ++ #[]).map some)=left.map some:=by simp[hne]
  rw[hcs]
  obtain⟨j,m,hj,hch⟩:∃j m,j<left.size/\(choose (.mapNext (left.map some).size)).run zA w = .ok j (w.drewN m):=by
   by_cases h1:left.size<=1
   .exact⟨0,0,hpos,by simp[choose,zM,Question.forced,h1,World.drewN]⟩
   .exact⟨_,1,Nat.mod_lt _ hpos,by simp[choose,zM,Question.forced,h1,World.drewN,Question.cut];rfl⟩
  rw[hch];obtain⟨i,p,hp,he⟩:=ybkx (hsub left[j] (zAA hj)).1;have hns:=(hsub left[j] (zAA hj)).2;rw[he]at hns;refine⟨m,i,p,hp,hns,?_⟩;have hr':(w.drewN m).heap[r]?=_:=hr;have hm:(left.map some)[j]?=some (some (ent i p)):=by simp[hj,he]
  simp only[zD,hm,zG,setObj,zM,hr',zH];simp[World.stepIter,ent,World.drewN]
theorem ybob{w:World}{r b:Nat}{L:List Tri}{seen:List Nat}{i:Nat}{p:Tri}(h:PMap w b L)(hi:ymw w r b L (seen++[i]))(hp:L[i]?=some p) :
 (Instr.entry (.pointer (some ⟨r,0,none⟩))).run zA w = .ok (.tuple #[(ent i p).key,(ent i p).val]) w:=by
 have hb:w.heap[b]?=_:=h;have hr:w.heap[r]?=_:=hi;have hback:(seen++[i]).toArray.back?=some i:=by simp
 have hfind:(ents L).find? (fun x=>x.born==i)=some (ent i p):=by
  rw[Array.find?_eq_some_iff_getElem];obtain⟨hlt,e⟩:=List.getElem?_eq_some_iff.1 hp;refine⟨by simp[ent],i,by simpa[ents]using hlt,by simp[ents,e],fun j hj=>?_⟩
  simp[ents,ent];omega
 simp only[Instr.entry,zG,getObj,zM,hr,hb,zD,hback,hfind];simp
theorem yyq {w:World}{ops:Array Oper}{rest:List Oper}{o:Oper}{a:Act}{Q:Exit->Act->World->Prop}(hgd:o.guard=none) (x:Operand) (ho:o.op = .range 242 x)
 (b:Nat) (hx:a.eval x = .map (some b)) (L:List Tri) (hL:PMap w b L)
 (h:wpList zA ops Q rest (a.put o.dst (.pointer (some ⟨w.heap.size,0,none⟩))) (w.alloc (.mapIter (some b) L.length #[] L.length))):wpList zA ops Q (o::rest) a w:=by
 refine yhb hgd _ ?_ h;unfold execOp;simp only[ho,hx,zG,ybpi hL,zD,zH]
theorem ybcp {w:World}{ops:Array Oper}{rest:List Oper}{o:Oper}{a:Act}{Q:Exit->Act->World->Prop}(hgd:o.guard=none) (x:Operand) (ho:o.op = .next x false)
 (r b:Nat) (hx:a.eval x = .pointer (some ⟨r,0,none⟩)) (L:List Tri) (seen:List Nat) (hL:PMap w b L) (hI:ymw w r b L seen)
 (hend:∀m,(∀i,i<L.length->i∈seen)->wpList zA ops Q rest (a.put o.dst (.tuple #[.bool false])) (w.drewN m))
 (hgo:∀m i p,L[i]?=some p->i∉seen->wpList zA ops Q rest (a.put o.dst (.tuple #[.bool true,.agg #[.int .i64 p.1,.int .i64 p.2.1],.int .i64 p.2.2])) (World.stepIter w m r b L (seen++[i]))):wpList zA ops Q (o::rest) a w:=by
 rcases ycbv hL hI o.type with⟨m,hr,h1⟩|⟨m,i,p,h1,h2,hr⟩
 .refine yhb hgd _ ?_ (hend m h1);unfold execOp;simp only[ho,hx,zG,hr,zD,zH]
 .refine yhb hgd _ ?_ (hgo m i p h1 h2);unfold execOp;simp only[ho,hx,zG,hr,zD,zH,ent]
theorem yne {w:World}{ops:Array Oper}{rest:List Oper}{o:Oper}{a:Act}{Q:Exit->Act->World->Prop}(hgd:o.guard=none) (x:Operand) (ho:o.op = .entry x)
 (r b:Nat) (hx:a.eval x = .pointer (some ⟨r,0,none⟩)) (L:List Tri) (seen:List Nat) (i:Nat) (p:Tri) (hL:PMap w b L) (hI:ymw w r b L (seen++[i])) (hp:L[i]?=some p)
 (h:wpList zA ops Q rest (a.put o.dst (.tuple #[.agg #[.int .i64 p.1,.int .i64 p.2.1],.int .i64 p.2.2])) w):wpList zA ops Q (o::rest) a w:=by
 refine yhb hgd _ ?_ h;unfold execOp;simp only[ho,hx,zG,ybob hL hI hp,zD,zH,ent]
section
variable {w:World}{r b:Nat}{L:List Tri}{seen seen':List Nat}
theorem ymw.lt(h:ymw w r b L seen):r<w.heap.size:=(Array.getElem?_eq_some_iff.1 h).1
theorem ymw.alloc(h:ymw w r b L seen)(o:Obj):ymw (w.alloc o) r b L seen:=(Below.heap_alloc w o r h.lt).trans h
theorem ymw.step(h:ymw w r b L seen)(m:Nat):ymw (World.stepIter w m r b L seen') r b L seen':=by
 unfold ymw World.stepIter;show(w.heap.setIfInBounds r _)[r]?=_;rw[zF,if_pos rfl,if_pos h.lt]
theorem PMap.step{b':Nat}{L':List Tri}(h:PMap w b' L')(hne:b'≠r)(m:Nat):PMap (World.stepIter w m r b L seen') b' L':=by
 unfold PMap World.stepIter;show(w.heap.setIfInBounds r _)[b']?=_;rw[zF,if_neg (by omega)]
 exact h
theorem Below.stepIter{B:Nat}{a:World}(h:Below B a w)(hr:B<=r)(m:Nat):Below B a (World.stepIter w m r b L seen') :=
 h.trans ⟨rfl,rfl,rfl,by simp[World.stepIter],fun k hk=>by
  show(w.heap.setIfInBounds r _)[k]?=_;rw[zF,if_neg (by omega)]⟩
end
end
section
abbrev ykk:=List (List (Int×Int))
def ychu(ports:ykk):Prop :=
 (∀v:Fin ports.length,ydh ports[v] (v.1:Int) (ports.length:Int))/\(∀v:Fin ports.length,∀l∈ports[v],((v.1:Int),l.2)∈ports.getD l.1.toNat [])
instance(ports:ykk):Decidable (ychu ports):=by unfold ychu;infer_instance
def symB(ports:ykk):Bool:=decide (ychu ports)
def tri(v:Nat)(l:Int×Int):Tri:=((v:Int),l.1,l.2)
def ygb(ports:ykk)(v:Nat):List Tri:=((zAH v).map (fun u=>(ports.getD u []).map (tri u))).flatten
def yhd(ports:ykk)(v i:Nat):List Tri:=ygb ports v++((ports.getD v []).take i).map (tri v)
theorem ybjm(ports:ykk)(v:Nat):ygb ports (v+1)=ygb ports v++(ports.getD v []).map (tri v):=by
 simp[ygb,List.range_succ]
theorem ybiz(ports:ykk)(v:Nat):yhd ports v 0=ygb ports v:=by simp[yhd]
theorem ybgb(ports:ykk)(v i:Nat)(ls:List (Int×Int))(hls:ports[v]?=some ls)(hi:i<ls.length):yhd ports v (i+1)=yhd ports v i++[((v:Int),ls[i].1,ls[i].2)]:=by
 have e:ports.getD v []=ls:=by simp[zN,hls]
 unfold yhd;rw[e,take_snoc ls i hi,zAG,List.append_assoc];rfl
theorem ybgh(ports:ykk)(v:Nat)(ls:List (Int×Int))(hls:ports[v]?=some ls):yhd ports v ls.length=ygb ports (v+1):=by
 have e:ports.getD v []=ls:=by simp[zN,hls]
 rw[ybjm];unfold yhd;rw[e,zU]
theorem yis{ports:ykk}{v:Nat}{p:Tri}:p∈ygb ports v↔∃u,u<v/\∃l∈ports.getD u [],p=tri u l:=by
 unfold ygb;simp only[List.mem_flatten,List.mem_map,List.mem_range];constructor
 .rintro⟨q,⟨u,hu,rfl⟩,hp⟩;obtain⟨l,hl,rfl⟩:=List.mem_map.1 hp;exact⟨u,hu,l,hl,rfl⟩
 .rintro⟨u,hu,l,hl,rfl⟩;exact⟨_,⟨u,hu,rfl⟩,List.mem_map.2 ⟨l,hl,rfl⟩⟩
theorem ybhs{L:List Tri}{x y:Int}:yhi L x y=true↔∃p∈L,p.1=x/\p.2.1=y:=by
 unfold yhi;rw[List.find?_isSome];constructor
 .rintro⟨p,hp,h⟩;simp[hit]at h;exact⟨p,hp,h.1.symm,h.2.symm⟩
 .rintro⟨p,hp,rfl,rfl⟩;exact⟨p,hp,by simp[hit]⟩
theorem ylx{ports:ykk}{v i:Nat}{ls:List (Int×Int)}(hls:ports[v]?=some ls){y:Int}:yhi (yhd ports v i) (v:Int) y=true↔∃l∈ls.take i,l.1=y:=by
 have e:ports.getD v []=ls:=by simp[zN,hls]
 rw[ybhs];unfold yhd;rw[e];constructor
 .rintro⟨p,hp,h1,h2⟩;rcases List.mem_append.1 hp with hp|hp
  .obtain⟨u,hu,l,hl,rfl⟩:=yis.1 hp;simp[tri]at h1;omega
  .obtain⟨l,hl,rfl⟩:=List.mem_map.1 hp;exact⟨l,hl,h2⟩
 .rintro⟨l,hl,rfl⟩;exact⟨tri v l,List.mem_append_right _ (List.mem_map.2 ⟨l,hl,rfl⟩),rfl,rfl⟩
theorem yru{ports:ykk}{v k:Nat}{ls:List (Int×Int)}(hls:ports[v]?=some ls)(h:¬ydh (ls.take k) (v:Int) (ports.length:Int)):symB ports=false:=by
 unfold symB;rw[decide_eq_false_iff_not];intro hs;obtain⟨hv,e⟩:=List.getElem?_eq_some_iff.1 hls;have:=hs.1 ⟨v,hv⟩;simp only[Fin.getElem_fin,e]at this;exact h (ybdx _ _ _ _ this)
def yse(ports:ykk):Prop:=∀(v:Nat) ls,ports[v]?=some ls->ydh ls (v:Int) (ports.length:Int)
theorem ybdp{ports:ykk}(ha:yse ports){v:Nat}{ls:List (Int×Int)}(hls:ports[v]?=some ls){l:Int×Int}(hl:l∈ls) :
 ype (ygb ports ports.length) l.1 (v:Int)=l.2↔((v:Int),l.2)∈ports.getD l.1.toNat []:=by
 have hlk:=(ha v ls hls).1 l hl;unfold ync at hlk;have hto:l.1.toNat<ports.length:=by omega
 have hgd:ports[l.1.toNat]?=some (ports.getD l.1.toNat []):=by simp[zN,zC hto]
 unfold ype;cases hf:(ygb ports ports.length).find? (hit l.1 (v:Int))with
 | none =>
   simp only[Option.map_none,Option.getD_none];constructor
   .intro e;omega
   .intro hm
    exfalso
    rw[List.find?_eq_none]at hf;refine hf (tri l.1.toNat ((v:Int),l.2)) (yis.2 ⟨_,hto,_,hm,rfl⟩) ?_;simp[hit,tri];omega
 | some q =>
   have hq:=List.mem_of_find?_eq_some hf;have hh:=List.find?_some hf;simp[hit]at hh;obtain⟨u,hu,l',hl',rfl⟩:=yis.1 hq;simp only[tri]at hh ⊢;obtain⟨h1,h2⟩:=hh;have hul:u=l.1.toNat:=by omega
   subst hul;simp only[Option.map_some,Option.getD_some]
   generalize ports.getD l.1.toNat []=ls' at hgd hl' ⊢
   constructor
   .intro e
    have:l'=((v:Int),l.2):=by
     obtain⟨a,b⟩:=l';simp only at e h2;rw[h2,e]
    rw[<-this];exact hl'
   .intro hm;have hnd:=(ha _ _ hgd).2;obtain⟨i,hi,e1⟩:=List.mem_iff_getElem.1 hl';obtain⟨j,hj,e2⟩:=List.mem_iff_getElem.1 hm
    have hij:i=j:=by
     rcases Nat.lt_trichotomy i j with h|h|h
     .have h3:=(List.pairwise_iff_getElem.1 hnd) i j (by simpa using hi) (by simpa using hj) h
      simp[e1,e2,h2]at h3
     .exact h
     .have h3:=(List.pairwise_iff_getElem.1 hnd) j i (by simpa using hj) (by simpa using hi) h
      simp[e1,e2,h2]at h3
    subst hij;rw[e1]at e2;rw[e2]
theorem yux{ports:ykk}(ha:yse ports){p:Tri}(hp:p∈ygb ports ports.length)(hv:ype (ygb ports ports.length) p.2.1 p.1≠p.2.2):symB ports=false:=by
 obtain⟨u,hu,l,hl,rfl⟩:=yis.1 hp;have hls:ports[u]?=some (ports.getD u []):=by simp[zN,zC hu]
 unfold symB;rw[decide_eq_false_iff_not];intro hs;refine hv ((ybdp ha hls hl).2 ?_);have:=hs.2 ⟨u,hu⟩ l (by simpa[zN,zC hu]using hl)
 exact this
theorem ycbl{ports:ykk}(ha:yse ports)(h:∀p∈ygb ports ports.length,ype (ygb ports ports.length) p.2.1 p.1=p.2.2):symB ports=true:=by
 refine decide_eq_true ⟨?_,?_⟩
 .rintro⟨v,hv⟩;exact ha v _ (zC hv)
 .rintro⟨v,hv⟩ l hl;have hls:ports[v]?=some ports[v]:=zC hv;refine(ybdp ha hls hl).1 (h (tri v l) (yis.2 ⟨v,hv,l,?_,rfl⟩))
  simpa[zN,hls]using hl
end
section
open Go.RowKit
theorem ybbt{ls:List (Int×Int)}{v n:Int}(h:ydh (ls.take ls.length) v n):ydh ls v n:=by rwa [zU]at h
set_option maxHeartbeats 2000000 in
theorem ynv (pv:Value)(ports:ykk)(w:World)(hp:yzc w pv ports)(hn:ports.length<=1000) :
 Calls zA 175 #[pv] w fun e w'=>e = .returned (.bool (symB ports))/\Below w.heap.size w w':=by
 obtain⟨A2,c2,rfl,hB1,hB2⟩:=ybx hp;have Hp:=zB hp
 clear hp
 have hmm:=@run_makeMap zA
 go_enter zAN,Tryz.ntmps175
 go_wp2
 clear hmm
 go_loopg [16] ports.length (fun q t wr=>∃v:Nat,q+v=ports.length/\t = .int .i64 v/\Hid (Below w.heap.size w wr)/\Hid (PMap wr w.heap.size (ygb ports v))/\Hid (∀(u:Nat) ls,u<v->ports[u]?=some ls->ydh ls u ports.length))
 case atStart=>exact⟨0,by omega,rfl,zB ((Below.refl _ _).alloc (zI _) _),zB (heap_alloc_new w _),zB (fun u ls hu=>absurd hu (by omega))⟩
 case round =>
  obtain⟨v,hq,rfl,hbel,hmap,hlk⟩:=hrel
  by_cases hlt:v<ports.length
  .obtain⟨b2,off2,lv,rfl,hb2,hcl,hls⟩:=ynd Hp.out (zC hlt);obtain⟨A3,c3,rfl,hl1,hl2⟩:=ybx hls;have hcl':=ykr hbel.out _ _ hcl
   clear hcl
   obtain⟨ls,hle⟩:∃ls,ports[v]=ls:=⟨_,rfl⟩;have Hlp:=zB (show ports[v]?=some ls by rw[zC hlt,hle])
   rw[hle]at hls hcl' hl1;have Hls:=zB hls
   clear hls hle
   go_wp2
   obtain⟨go,rfl⟩:∃go,go=gk:=⟨_,rfl⟩
   go_loopg [23] ls.length (fun q t wr=>∃i:Nat,q+i=ls.length/\t = .int .i64 i/\Hid (Below w.heap.size w wr)/\Hid (PMap wr w.heap.size (yhd ports v i))/\Hid (ydh (ls.take i) v ports.length))
   case atStart=>exact⟨0,by omega,rfl,hbel,zB (by rw[ybiz];exact hmap.out),zB ⟨by simp,by simp⟩⟩
   case round =>
    clear hbel hmap hcl'
    obtain⟨i,hqi,rfl,hbel,hmap,hok⟩:=hrel;have hmlt:w.heap.size<wr.heap.size:=hmap.out.lt
    by_cases hil:i<ls.length
    .obtain⟨A4,c4,e4,_,_,hE⟩:=Hls.out.below Stable.link hbel.out;cases e4
     obtain⟨b3,off3,rfl,hb3,hE⟩:=hE (by omega)
     obtain⟨⟨l1,wt⟩,hle⟩:∃l,ls[i]=l:=⟨_,rfl⟩;have hl?:ls[i]?=some (l1,wt):=by rw[zC hil,hle]
     obtain⟨hx1,hx2,⟨hr1,hr2⟩,⟨hr3,hr4⟩⟩:=hE i _ hl?;simp only at hx1 hx2 hr1 hr2 hr3 hr4;have hsn:=ybew ls v ports.length i hil;rw[hle]at hsn;have Hsn:=zB hsn;have Hbad:=zB (fun h=>yru (ports:=ports) (v:=v) (k:=i+1) Hlp.out h);have Hsc:=zB (ybgb ports v i ls Hlp.out hil);rw[hle]at Hsc;have HE:=zB hE;have Hle:=zB hle
     clear hE hl? hle hsn
     by_cases c1:0<=l1/\l1<=ports.length-1
     .obtain⟨c1a,c1b⟩:=c1
      by_cases c2:l1=v
      .have c2':(l1==(v:Int))=true:=by simp[c2]
       have Hf:=zB (Hbad.out (fun h=>((Hsn.out.1 h).2.1).2.2.1 c2))
       clear c2
       go_wp2
       go_ret
       exact⟨ybs Hf.out.symm,(hbel.out.alloc (by omega) _)⟩
      .have c2':(l1==(v:Int))=false:=by simp[c2]
       have Hc2:=zB c2
       clear c2
       by_cases c3:1<=wt/\wt<=15
       .obtain⟨c3a,c3b⟩:=c3
        by_cases c4:yhi (yhd ports v i) v l1=true
        .have Hf:=zB (Hbad.out (fun h=>by
          obtain⟨l,hl,e⟩:=(ylx Hlp.out).1 c4;obtain⟨j,hj,rfl⟩:=List.mem_take_iff_getElem.1 hl;exact(Hsn.out.1 h).2.2 j (by omega) e))
         go_wp2_with (at_lookup;refine yfz rfl _ _ _ rfl w.heap.size (v:Int) l1 rfl (by rfl) (yhd ports v i) ((hmap.out.alloc _).alloc _) ?_)
         go_ret
         exact⟨ybs Hf.out.symm,((hbel.out.alloc (by omega) _).alloc (by simp;omega) _)⟩
        .have c4':yhi (yhd ports v i) v l1=false:=by simpa using c4
         have Hnew:=zB (show ydh (ls.take (i+1)) v ports.length from Hsn.out.2 ⟨hok.out,⟨c1a,by simpa using c1b,Hc2.out,c3a,c3b⟩,fun j hj e=>c4 ((ylx Hlp.out).2 ⟨ls[j],List.mem_take_iff_getElem.2 ⟨j,by omega,rfl⟩,e⟩)⟩)
         clear c4
         go_wp2_with (first
          |(at_lookup;refine yfz rfl _ _ _ rfl w.heap.size (v:Int) l1 rfl (by rfl) (yhd ports v i) ((hmap.out.alloc _).alloc _) ?_)
          |(at_mapUpdate;refine ypj rfl _ _ _ rfl rfl w.heap.size (v:Int) l1 wt rfl (by rfl) (by rfl) (yhd ports v i) ((hmap.out.alloc _).alloc _) c4' ?_))
         go_roundg (gk-1)
         case measure=>omega
         case rel =>
          refine⟨i+1,by omega,by go_num,zB ?_,zB ?_,Hnew⟩
          .exact Below.setMap ((hbel.out.alloc (by omega) _).alloc (by simp;omega) _) (zI _) _
          .rw[Hsc.out];exact PMap.set ((hmap.out.alloc _).alloc _) _
       .have Hf:=zB (Hbad.out (fun h=>c3 ⟨((Hsn.out.1 h).2.1).2.2.2.1,((Hsn.out.1 h).2.1).2.2.2.2⟩))
        by_cases c5:wt<1
        .clear c3
         go_wp2
         go_ret
         exact⟨ybs Hf.out.symm,(hbel.out.alloc (by omega) _)⟩
        .have c6:15<wt:=by omega
         clear c3
         go_wp2
         go_ret
         exact⟨ybs Hf.out.symm,(hbel.out.alloc (by omega) _)⟩
     .have Hf:=zB (Hbad.out (fun h=>c1 ⟨((Hsn.out.1 h).2.1).1,((Hsn.out.1 h).2.1).2.1⟩))
      by_cases c5:l1<0
      .clear c1
       go_wp2
       go_ret
       exact⟨ybs Hf.out.symm,(hbel.out.alloc (by omega) _)⟩
      .have c6:(ports.length:Int)<=l1:=by omega
       clear c1
       go_wp2
       go_ret
       exact⟨ybs Hf.out.symm,(hbel.out.alloc (by omega) _)⟩
    .obtain rfl:i=ls.length:=by omega
     go_wp2
     go_roundg (go-1)
     case measure=>omega
     case rel =>
      refine⟨v+1,by omega,by go_num,hbel,zB (by rw[<-ybgh ports v ls Hlp.out];exact hmap.out),zB (fun u ls' hu hls'=>?_)⟩
      by_cases huv:u<v
      .exact hlk.out u ls' huv hls'
      .obtain rfl:u=v:=by omega
       rw[Hlp.out]at hls';cases hls'
       exact ybbt hok.out
  .obtain rfl:v=ports.length:=by omega
   have Hal:=zB (show yse ports from fun v ls hls=>hlk.out v ls (List.getElem?_eq_some_iff.1 hls).1 hls)
   have hmlt:w.heap.size<wr.heap.size:=hmap.out.lt
   go_wp2_with (at_range;refine yyq rfl _ rfl w.heap.size rfl (ygb ports ports.length) hmap.out ?_)
   go_frame
   obtain⟨L,hL⟩:∃L,L=ygb ports ports.length:=⟨_,rfl⟩;rw[<-hL]at hmap ⊢;have HL:=zB hL
   clear hL
   obtain⟨r,hr⟩:∃r,r=wr.heap.size:=⟨_,rfl⟩;rw[<-hr]at hmlt ⊢
   go_loopg [70] (L.length+1) (fun q t wr=>∃seen:List Nat,q+seen.length=L.length+1/\Hid (Below w.heap.size w wr)/\Hid (PMap wr w.heap.size L)/\Hid (ymw wr r w.heap.size L seen)/\Hid (seen.Nodup/\∀i∈seen,∃p,L[i]?=some p/\ype L p.2.1 p.1=p.2.2))
   case atStart =>
    refine⟨[],by simp,zB (hbel.out.alloc (by omega) _),zB (hmap.out.alloc _),zB ?_,zB ⟨by simp,by simp⟩⟩
    rw[hr];exact heap_alloc_new wr _
   case round =>
    clear hbel hmap hr
    obtain⟨seen,hq,hbel,hmap,hit,hseen⟩:=hrel
    go_wp2_with (at_next;refine ybcp rfl _ rfl r w.heap.size rfl L seen hmap.out hit.out ?hend ?hgo)
    case hend =>
     intro m hall
     have Ht:=zB (show symB ports=true from ycbl Hal.out (fun p hp=>by
      rw[<-HL.out]at hp ⊢;obtain⟨i,hi,rfl⟩:=List.mem_iff_getElem.1 hp;obtain⟨p,hp',hv⟩:=hseen.out.2 i (hall i hi);rw[zC hi]at hp';cases hp'
      exact hv))
     clear hall
     go_wp2
     go_ret
     exact⟨ybs Ht.out.symm,below_drewN hbel.out _⟩
    case hgo =>
     intro m i x y z hp hns;have hil:i<L.length:=(List.getElem?_eq_some_iff.1 hp).1;have Hb1:=zB (Below.stepIter (L:=L) (b:=w.heap.size) (seen':=seen++[i]) hbel.out (r:=r) (by omega) m)
     have Hm1:=zB (PMap.step (b:=w.heap.size) (L:=L) (seen':=seen++[i]) hmap.out (r:=r) (by omega) m)
     have Hi1:=zB (ymw.step (seen':=seen++[i]) hit.out m);have Hp:=zB hp;have Hn:=zB hns;obtain⟨w1,hw1⟩:∃w1,w1=World.stepIter wr m r w.heap.size L (seen++[i]):=⟨_,rfl⟩;rw[<-hw1]at Hb1 Hm1 Hi1 ⊢
     clear hw1 hbel hmap hit hp hns
     have hz1:r<w1.heap.size:=Hi1.out.lt
     by_cases hv:ype L y x=z
     .have hv':(ype L y x != z)=false:=by simp[hv]
      have Hv:=zB hv
      clear hv
      go_wp2_with (first
       |(at_lookup;refine yfz rfl _ _ _ rfl w.heap.size y x rfl (by rfl) L (Hm1.out.alloc _) ?_)
       |(with_reducible refine yne rfl _ rfl r w.heap.size rfl L seen i (x,y,z) Hm1.out Hi1.out Hp.out ?_))
      have hsz:=zB (show(seen++[i]).length<=L.length by
       have hnd:(seen++[i]).Nodup:=by
        rw[zT];exact⟨hseen.out.1,by simp,fun a ha b hb e=>by simp at hb;subst hb e;exact Hn.out ha⟩
       have hsub:(seen++[i]) ⊆ zAH L.length:=by
        intro j hj;rcases List.mem_append.1 hj with hj|hj
        .obtain⟨p,hp,_⟩:=hseen.out.2 j hj;simp[(List.getElem?_eq_some_iff.1 hp).1]
        .simp at hj;subst hj;simpa using hil
       simpa using List.Nodup.length_le_of_subset hnd hsub)
      go_roundg (gk-1)
      case measure=>have:=hsz.out;simp at this;omega
      case rel =>
       have h0:=hsz.out;simp only[zZ,zAC,List.length_nil]at h0;refine⟨seen++[i],by simp;omega,zB (Hb1.out.alloc (by omega) _),zB (Hm1.out.alloc _),zB (Hi1.out.alloc _),zB ⟨?_,fun j hj=>?_⟩⟩
       .rw[zT];exact⟨hseen.out.1,by simp,fun a ha b hb e=>by simp at hb;subst hb e;exact Hn.out ha⟩
       .rcases List.mem_append.1 hj with hj|hj
        .exact hseen.out.2 j hj
        .simp at hj;subst hj;exact⟨_,Hp.out,Hv.out⟩
     .have hv':(ype L y x != z)=true:=by simp[hv]
      have Hf:=zB (show symB ports=false from yux Hal.out (p:=(x,y,z)) (by rw[<-HL.out];exact zY Hp.out) (by rw[<-HL.out];exact hv))
      clear hv
      go_wp2_with (first
       |(at_lookup;refine yfz rfl _ _ _ rfl w.heap.size y x rfl (by rfl) L (Hm1.out.alloc _) ?_)
       |(with_reducible refine yne rfl _ rfl r w.heap.size rfl L seen i (x,y,z) Hm1.out Hi1.out Hp.out ?_))
      go_ret
      exact⟨ybs Hf.out.symm,Hb1.out.alloc (by omega) _⟩
end
section
namespace Ev
open Go Go.RowKit
section
variable {φ:Phi}{M:AM}{w:World}{m:Mem}
theorem ywz{n:Int}(h:inI64 n=true):I64 n:=by
 unfold inI64 at h;split at h
 .have:=zK h;unfold I64;rename_i k;simp only[Int.ofNat_eq_natCast];omega
 .have:=zK h;unfold I64;omega
theorem yrh:∀{l:List Value}{xs:List (Int×Int)},pairsOf l=some xs->l.length=xs.length*2/\∀j x,xs[j]?=some x->l[j*2]?=some (.int .i64 x.1)/\l[j*2+1]?=some (.int .i64 x.2)/\I64 x.1/\I64 x.2
 |[],xs,h=>by cases h;exact⟨rfl,by simp⟩
 | .int .i64 a :: .int .i64 b::l,xs,h=>by
   unfold pairsOf at h;split at h
   .rename_i r hr
    rw[zV]at h;split at h
    .rename_i hc
     cases h
     simp only[Bool.and_eq_true]at hc;obtain⟨h1,h2⟩:=yrh hr;refine⟨by simp[h1];omega,fun j x hx=>?_⟩
     cases j with
     |zero=>simp at hx;subst hx;exact⟨rfl,rfl,ywz hc.1,ywz hc.2⟩
     | succ j =>
       have:=h2 j x (by simpa using hx)
       rw[show(j+1)*2=j*2+1+1 by omega]
       simpa using this
    .cases h
   .cases h
theorem ykj{α β:Type}{f:α->Option β}:∀{l:List α}{r:List β},mapO f l=some r->l.length=r.length/\∀(j:Nat) (y:β),r[j]?=some y->∃x,l[j]?=some x/\f x=some y
 |[],r,h=>by cases h;exact⟨rfl,by simp⟩
 | x :: l,r,h=>by
   unfold mapO at h;split at h
   .cases h
   .rename_i y hy
    split at h
    .cases h
    .rename_i r' hr
     cases h
     obtain⟨h1,h2⟩:=ykj hr;refine⟨by simp[h1],fun j z hz=>?_⟩
     cases j with
     |zero=>simp at hz;subst hz;exact⟨x,rfl,hy⟩
     |succ j=>simpa using h2 j z (by simpa using hz)
theorem yqi {α:Type}{size:Nat}{E:Elem α}{v v':Value}{l:List Value}{ft:List Nat}{xs:List α}(h:rowOf m size v=some (l,ft)) (hv:VR φ v v') (hR:Rel φ M w) (hs:Sub m M) (hlen:l.length=xs.length*size) (h0:size≠0)
 (hE:∀(l':List Value) (b off:Nat),VRL φ l l'->(∀j u,l'[j]?=some u->w.cell? ⟨b,off+j,none⟩=some u)->∀j x,xs[j]?=some x->E w b (off+j*size) x):SlAt size E w v' xs:=by
 unfold rowOf at h;split at h
 .cases h
  have e:=hv.eq_simple rfl;subst e
  have:xs=[]:=by
   rcases Nat.mul_eq_zero.1 (show xs.length*size=0 from hlen.symm)with h|h
   .exact zJ h
   .exact absurd h h0
  subst this;exact SlAt.nil w
 .rename_i a len cap
  obtain⟨lc,A,c',k1,k2,k3,k4,k5,k6,k7⟩:=hv.slice_inv;subst k3;split at h
  .cases h
  .rw[zV]at h;split at h
   .rename_i hl0
    have hl0:=Nat.eq_of_beq_eq_true hl0;subst hl0;cases h
    have:xs=[]:=by
     rcases Nat.mul_eq_zero.1 (show xs.length*size=0 from hlen.symm)with h|h
     .exact zJ h
     .exact absurd h h0
    subst this;exact⟨some A,c',rfl,Nat.zero_le _,k6,fun q=>absurd q (by simp)⟩
   .rename_i hl0
    split at h
    .rename_i c n e z hb
     rw[zV]at h;split at h
     .rename_i hn
      have hn:=zK hn;split at h
      .rename_i l2 hl2
       cases h
       have hlen2:=(yeb hl2).1
       have hxl:xs.length=len:=by
        rw[hlen2]at hlen;exact(Nat.eq_of_mul_eq_mul_right (by omega) hlen).symm
       obtain⟨lc',cs,e',fz,g1,g2,g3,_,g4,g5,g6⟩:=hR.cellsAt (hs _ _ hb);rw[k1]at g1;cases g1
       obtain⟨l',r1,r2⟩:=cellsRead g6 hl2 hn;subst hxl;refine⟨some A,c',rfl,k4,k6,fun hpos=>?_⟩;rcases k7 with⟨rfl,_⟩|k7
       .refine⟨lc.blk,lc.base+a.off,rfl,(Array.getElem?_eq_some_iff.1 g4).1,hE l' _ _ r1 fun j u hu=>cell_of g4 (r2 j u hu)⟩
       .omega
      .cases h
     .cases h
    .cases h
 .cases h
theorem yiq{v v':Value}{xs:List (Int×Int)}(h:linksOf m v=some xs)(hv:VR φ v v')(hR:Rel φ M w)(hs:Sub m M):ybsx w v' xs:=by
 unfold linksOf at h;split at h
 .rename_i l ft hl
  obtain⟨h1,h2⟩:=yrh h;refine yqi hl hv hR hs h1 (by decide) fun l' b off hl' hc j x hx=>?_
  obtain⟨q1,q2,q3,q4⟩:=h2 j x hx;obtain⟨u1,p1,p2⟩:=hl'.get q1;obtain⟨u2,p3,p4⟩:=hl'.get q2;have e1:=p2.eq_simple rfl;have e2:=p4.eq_simple rfl;subst e1 e2;exact⟨hc _ _ p1,by rw[zS];exact hc _ _ p3,q3,q4⟩
 .cases h
theorem ybqo{v v':Value}{ps:List (List (Int×Int))}(h:portsOf m v=some ps)(hv:VR φ v v')(hR:Rel φ M w)(hs:Sub m M):yzc w v' ps:=by
 unfold portsOf at h;split at h
 .rename_i l ft hl
  obtain⟨h1,h2⟩:=ykj h;refine yqi hl hv hR hs (by rw[h1,zO]) (by decide) fun l' b off hl' hc j x hx=>?_
  obtain⟨u,q1,q2⟩:=h2 j x hx;obtain⟨u',p1,p2⟩:=hl'.get q1;exact⟨u',by rw[zO];exact hc _ _ p1,yiq q2 p2 hR hs⟩
 .cases h
theorem ymc {P:Program}{g:FuncId}{args:List Value}{v:Value}(hn:ypr P) (hg:∃fn c,P.funcs[g]?=some fn/\fn.body=some c)
 (h:∀φ M w args',Rel φ M w->Sub m M->VRL φ args args'->Calls P g args'.toArray w fun e w'=>∃v',e = .returned v'/\VR φ v v'/\Below w.heap.size w w'):ybu P (.call g args m) (.call v (enterM m)):=by
 intro hw;obtain⟨fn,c,h1,h2⟩:=hg;refine⟨⟨zI _,fun i b hb=>.inl ⟨b,hb⟩,fun i b _ _ hb=>hb,hw⟩,fun φ M w args' hR hs hv _=>.inl ⟨ybt hn h1 h2 _ _,(h φ M w args' hR hs hv).mono ?_⟩⟩;rintro e w' ⟨v',rfl,hvr,hb⟩;exact⟨v',rfl,φ,M,⟨φ.le_refl,fun _ _=>rfl,hR.keep fun k hk=>hb.block k hk,hs,fun _ _ _=>rfl,⟨hb.os,hb.tape,hb.output,hb.size,fun k hk _=>hb.block k hk,fun _ _ h=>h⟩⟩,hvr⟩
theorem yrs:ypr zA:=by
 have h : Tryz.prog.funcs.all (fun fn => !(fn.name == "runtime.NumGoroutine")) = true := by kernel_rfl
 intro g fn hg _;have:=Array.all_eq_true_iff_forall_mem.1 h fn (zX hg)
 simpa using this
theorem mix:Tryz.prog.follows .mixedOrders=true:=by kernel_rfl
theorem ycaw(args:List Value)(m:Mem)(out:Out)(h:evSymm symB m args=some out):ybu zA (.call 175 args m) out:=by
 unfold evSymm at h;split at h
 .rename_i v
  obtain⟨ps,hps,h2⟩:=yg h;obtain⟨hle,h3⟩:=ybe h2;cases h3
  refine ymc yrs ⟨_,_,zAN,rfl⟩ fun φ M w args' hR hs hv=>?_;obtain⟨v',rfl,hvv⟩:=yfq hv;refine(ynv v' ps w (ybqo hps hvv hR hs) (zK hle)).mono ?_;rintro e w' ⟨rfl,hb⟩;exact⟨_,rfl,.simple rfl,hb⟩
 .cases h
end
end Ev
end
end Go.Proofs.YthclbjjgfcgbgaaGreatDoor
