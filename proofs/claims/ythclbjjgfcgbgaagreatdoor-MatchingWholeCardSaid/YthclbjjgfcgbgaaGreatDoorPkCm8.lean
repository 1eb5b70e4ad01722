/- Joined. -/
import Derived.Lib.Hide
import Derived.Test.YthclbjjgfcgbgaaGreatDoorRows
import Derived.WalkSpells
import Derived.BigQuiet
import Derived.Deep.LoopGhost
import Derived.Deep.OwnRows
import Derived.Test.YthclbjjgfcgbgaaGreatDoorPkCm3
set_option linter.unusedSimpArgs false
set_option linter.unusedVariables false
open Go.Proofs.Tryz renaming prog->zA,underlying91->zJ,underlying242->zO,underlying3->zY,func175->zAE
open Go.Lib renaming hid->zB
open List renaming getElem?_eq_getElem->zC,getD->zL,eq_nil_of_length_eq_zero->zM,nodup_append->zQ,findIdx?_eq_none_iff->zS,take_length->zT,mapIdx_cons->zZ,map_append->zAB,range->zAC,find?_cons->zAD,range'->zAF
open Go.Result renaming andThen_ok->zD
open Go.Sem renaming run_bind->zF,run_pure->zH,run->zK
open Array renaming getElem?_setIfInBounds->zG,mem_of_getElem?->zW,getElem_mem->zX,mem_filter->zAA
open Nat renaming le_of_ble_eq_true->zI,le_refl->zN,mul_one->zV
open Bool renaming cond_eq_ite->zU
open Int renaming toNat->zAG
open Go
namespace Go.Proofs.YthclbjjgfcgbgaaGreatDoor
section
open Go.RowKit
def I64(n:Int):Prop:=-9223372036854775808<=n/\n<=9223372036854775807
abbrev Elem(α:Type):=World->Nat->Nat->α->Prop
def SlAt{α:Type}(size:Nat)(E:Elem α)(w:World)(v:Value)(xs:List α):Prop :=
 ∃ (A:Option Addr) (c:Nat),v = .slice A xs.length c/\xs.length<=c/\c<=9223372036854775807 /\
   (0<xs.length->∃b off,A=some ⟨b,off,none⟩/\b<w.heap.size/\∀j x,xs[j]?=some x->E w b (off+j*size) x)
def intE:Elem Int:=fun w b o x=>w.cell? ⟨b,o,none⟩=some (.int .i64 x)/\I64 x
def ydcj:Elem (Int×Int):=fun w b o x=>w.cell? ⟨b,o,none⟩=some (.int .i64 x.1)/\w.cell? ⟨b,o+1,none⟩=some (.int .i64 x.2)/\I64 x.1/\I64 x.2
def slE{α:Type}(size:Nat)(E:Elem α):Elem (List α):=fun w b o xs=>∃v,w.cell? ⟨b,o,none⟩=some v/\SlAt size E w v xs
def Stable{α:Type}(E:Elem α):Prop:=∀w w' b o x,(∀a v,w.cell? a=some v->w'.cell? a=some v)->w.heap.size<=w'.heap.size->E w b o x->E w' b o x
abbrev yth:=SlAt 1 intE
abbrev ycdy:=SlAt 2 ydcj
abbrev ybbc:=SlAt 1 (slE 2 ydcj)
abbrev ycrk:=SlAt 1 (slE 1 intE)
structure Gr where
 ids:List Int
 ports:List (List (Int×Int))
def GrAt(w:World)(v:Value)(g:Gr):Prop:=∃i p,v = .agg #[i,p]/\yth w i g.ids/\ybbc w p g.ports
section
variable {α:Type}{E:Elem α}{size:Nat}{w w':World}{v:Value}{xs:List α}
theorem Stable.int:Stable intE:=fun _ _ _ _ _ h _ hx=>⟨h _ _ hx.1,hx.2⟩
theorem Stable.link:Stable ydcj:=fun _ _ _ _ _ h _ hx=>⟨h _ _ hx.1,h _ _ hx.2.1,hx.2.2⟩
theorem SlAt.keep(hE:Stable E)(h:SlAt size E w v xs)(hk:∀a u,w.cell? a=some u->w'.cell? a=some u)(hs:w.heap.size<=w'.heap.size):SlAt size E w' v xs:=by
 obtain⟨A,c,h1,h2,h3,h4⟩:=h;refine⟨A,c,h1,h2,h3,fun hp=>?_⟩;obtain⟨b,off,rfl,hb,h5⟩:=h4 hp;exact⟨b,off,rfl,Nat.lt_of_lt_of_le hb hs,fun j x hx=>hE _ _ _ _ _ hk hs (h5 j x hx)⟩
theorem Stable.sl(hE:Stable E):Stable (slE size E):=by
 rintro w w' b o x h hs ⟨v,hc,hv⟩;exact⟨v,h _ _ hc,hv.keep hE h hs⟩
theorem ync(hb:Below w.heap.size w w'):∀a u,w.cell? a=some u->w'.cell? a=some u :=
 fun a _ h=>(hb.cell (World.block_lt_of_cell? w a h)).trans h
theorem SlAt.below(hE:Stable E)(h:SlAt size E w v xs)(hb:Below w.heap.size w w'):SlAt size E w' v xs:=h.keep hE (ync hb) hb.size
theorem SlAt.nil(w:World):SlAt size E w (.slice none 0 0) []:=⟨none,0,rfl,zN _,by omega,fun h=>absurd h (by simp)⟩
end
end
section
open Go.RowKit
theorem yca{a b:Bool}(h:a=b):Ending.returned (.bool a) = .returned (.bool b):=by rw[h]
theorem below_drewN{B:Nat}{a w:World}(h:Below B a w)(n:Nat):Below B a (w.drewN n):=⟨h.os,h.tape,h.output,h.size,h.block⟩
theorem ydmj{w w3:World}{o:Obj}(hb:Below (w.alloc o).heap.size (w.alloc o) w3):Below w.heap.size w w3:=((Below.refl _ w).alloc (zN _) o).trans (hb.mono (by simp))
theorem yebi{w w3:World}{x y:Value}{t:TypeId}(hb:Below (w.alloc (.cells #[x,y] t)).heap.size (w.alloc (.cells #[x,y] t)) w3):w3.cell? ⟨w.heap.size,0,none⟩=some x/\w3.cell? ⟨w.heap.size,1,none⟩=some y :=
 ⟨ync hb _ _ (by simp),ync hb _ _ (by simp)⟩
theorem yth.at_{w:World}{v:Value}{xs:List Int}(h:yth w v xs){k:Nat}(hk:k<xs.length) :
 ∃b off c,v = .slice (some ⟨b,off,none⟩) xs.length c/\b<w.heap.size/\xs.length<=c/\c<=9223372036854775807/\w.cell? ⟨b,off+k,none⟩=some (.int .i64 xs[k])/\I64 xs[k]:=by
 obtain⟨A,c,rfl,h1,h2,h3⟩:=h;obtain⟨b,off,rfl,hb,h4⟩:=h3 (by omega)
 have:=h4 k xs[k] (zC hk);rw[zV]at this;exact⟨b,off,c,rfl,hb,h1,h2,this.1,this.2⟩
theorem ycw{α:Type}{size:Nat}{E:Elem α}{w:World}{v:Value}{xs:List α}(h:SlAt size E w v xs):∃A c,v = .slice A xs.length c/\xs.length<=c/\c<=9223372036854775807:=by
 obtain⟨A,c,rfl,h1,h2,_⟩:=h;exact⟨A,c,rfl,h1,h2⟩
end
section
def yig(ls:List (Int×Int))(u:Int):Int:=match ls.findIdx? (fun l=>l.1==u)with|some i=>i|none=>-1
def ynr(v n:Int)(l:Int×Int):Prop:=0<=l.1/\l.1<=n-1/\l.1≠v/\1<=l.2/\l.2<=15
instance(v n:Int)(l:Int×Int):Decidable (ynr v n l):=by unfold ynr;infer_instance
def ydk(ls:List (Int×Int))(v n:Int):Prop:=(∀l∈ls,ynr v n l)/\(ls.map (·.1)).Nodup
instance(ls:List (Int×Int))(v n:Int):Decidable (ydk ls v n):=by unfold ydk;infer_instance
theorem take_snoc{α:Type}(l:List α)(k:Nat)(h:k<l.length):l.take (k+1)=l.take k++[l[k]]:=by
 rw[List.take_succ_eq_append_getElem h]
theorem ybft(ls:List (Int×Int))(v n:Int)(k:Nat)(h:k<ls.length) :
 ydk (ls.take (k+1)) v n↔ydk (ls.take k) v n/\ynr v n ls[k]/\∀j (hj:j<k),(ls[j]).1≠(ls[k]).1:=by
 unfold ydk;rw[take_snoc ls k h];simp only[List.mem_append,List.mem_singleton,zAB,List.map_cons,List.map_nil,zQ];constructor
 .rintro⟨h1,h2,_,h3⟩;refine⟨⟨fun l hl=>h1 l (.inl hl),h2⟩,h1 _ (.inr rfl),fun j hj=>?_⟩;refine h3 _ ?_ _ (by simp)
  exact List.mem_map.2 ⟨ls[j],List.mem_take_iff_getElem.2 ⟨j,by omega,rfl⟩,rfl⟩
 .rintro⟨⟨h1,h2⟩,h3,h4⟩;refine⟨?_,h2,by simp,?_⟩
  .rintro l (hl|rfl)
   .exact h1 l hl
   .exact h3
  .intro a ha b hb;obtain⟨l,hl,rfl⟩:=List.mem_map.1 ha;obtain⟨j,hj,rfl⟩:=List.mem_take_iff_getElem.1 hl;subst hb;exact h4 j (by omega)
theorem ybci(ls:List (Int×Int))(v n:Int)(k:Nat)(h:ydk ls v n):ydk (ls.take k) v n:=by
 refine⟨fun l hl=>h.1 l (List.mem_of_mem_take hl),?_⟩;rw[List.map_take];exact h.2.sublist (List.take_sublist _ _)
theorem ywh(ls:List (Int×Int))(u:Int)(k:Nat)(hk:k<ls.length)(h:ls[k].1=u)(hn:(ls.take k).findIdx? (fun l=>l.1==u)=none):yig ls u=k:=by
 unfold yig
 have:ls.findIdx? (fun l=>l.1==u)=some k:=by
  rw[List.findIdx?_eq_some_iff_getElem];refine⟨hk,by simp[h],fun j hj=>?_⟩
  rw[zS]at hn;have:=hn ls[j] (List.mem_take_iff_getElem.2 ⟨j,by omega,rfl⟩)
  simp[this]
 rw[this]
theorem ybhz(ls:List (Int×Int))(u:Int)(hn:(ls.take ls.length).findIdx? (fun l=>l.1==u)=none):yig ls u = -1:=by
 rw[zT]at hn;unfold yig;rw[hn]
theorem ybem(ls:List (Int×Int))(u:Int)(k:Nat)(hk:k<ls.length)(h:¬ls[k].1=u)(hn:(ls.take k).findIdx? (fun l=>l.1==u)=none):(ls.take (k+1)).findIdx? (fun l=>l.1==u)=none:=by
 rw[take_snoc ls k hk,List.findIdx?_append,hn];simp[h]
end
section
def ybg(g:Gr):Prop :=
 1 <= g.ports.length/\g.ports.length<=24/\g.ids.length=g.ports.length/\(∀x∈g.ids,0<=x/\x<=255)/\g.ids.Nodup /\
   (∀v:Fin g.ports.length,ydk g.ports[v] (v.1:Int) (g.ports.length:Int))/\(∀v:Fin g.ports.length,∀l∈g.ports[v],((v.1:Int),l.2)∈g.ports.getD l.1.toNat [])
instance(g:Gr):Decidable (ybg g):=by unfold ybg;infer_instance
def yfv(g:Gr):Bool:=decide (ybg g)
theorem yff(g:Gr):yfv g=true↔ybg g:=by simp[yfv]
theorem ytt(n:Nat)(l:List Int)(h:∀x∈l,0<=x/\x<n)(hn:l.Nodup):l.length<=n:=by
 have h1:(l.map zAG).Nodup:=by
  rw[List.Nodup,List.pairwise_map];refine(List.Pairwise.and_mem.1 hn).imp ?_;rintro a b ⟨ha,hb,hne⟩ e;have:=h a ha;have:=h b hb;exact hne (by omega)
 have h2:(l.map zAG) ⊆ zAC n:=by
  intro x hx;obtain⟨y,hy,rfl⟩:=List.mem_map.1 hx;have:=h y hy;simp;omega
 have:=List.Nodup.length_le_of_subset h1 h2
 simpa using this
theorem ybht{ls:List (Int×Int)}{v n:Nat}(hv:v<n)(h:ydk ls (v:Int) (n:Int)):ls.length<n:=by
 have h1:((v:Int)::ls.map (·.1)).Nodup:=by
  rw[List.nodup_cons];refine⟨fun hm=>?_,h.2⟩;obtain⟨l,hl,e⟩:=List.mem_map.1 hm;exact(h.1 l hl).2.2.1 e
 have:=ytt n ((v:Int)::ls.map (·.1)) (by
  intro x hx;rcases List.mem_cons.1 hx with rfl|hx
  .omega
  .obtain⟨l,hl,rfl⟩:=List.mem_map.1 hx;have:=h.1 l hl;unfold ynr at this;omega) h1
 simp at this;omega
theorem ybax{ls:List (Int×Int)}{u x:Int}(hn:(ls.map (·.1)).Nodup)(h:(u,x)∈ls):∃k:Nat,yig ls u=k/\ls[k]?=some (u,x):=by
 obtain⟨k,hk,e⟩:=List.mem_iff_getElem.1 h;refine⟨k,?_,by rw[zC hk,e]⟩
 refine ywh ls u k hk (by rw[e]) ?_
 rw[zS];intro l hl;obtain⟨j,hj,rfl⟩:=List.mem_take_iff_getElem.1 hl;simp only[beq_eq_false_iff_ne];intro he;have hjk:j<k:=by omega
 have:=(List.pairwise_iff_getElem.1 hn) j k (by simp;omega) (by simpa using hk) hjk
 simp[he,e]at this
theorem ybbb{ls:List (Int×Int)}{u:Int}:yig ls u = -1\/∃k:Nat,yig ls u=k/\k<ls.length:=by
 unfold yig;split
 .rename_i i hi
  obtain⟨hlt,hx,_⟩:=List.findIdx?_eq_some_iff_getElem.1 hi;exact .inr ⟨i,rfl,hlt⟩
 .exact .inl rfl
theorem yir{g:Gr}(h:¬(1<=g.ports.length/\g.ports.length<=24/\g.ids.length=g.ports.length)):yfv g=false:=by
 unfold yfv;rw[decide_eq_false_iff_not];exact fun hg=>h ⟨hg.1,hg.2.1,hg.2.2.1⟩
end
section
open Go.RowKit
theorem ytq{α:Type}{size:Nat}{E:Elem α}{w:World}{A:Option Addr}{c n:Nat}{xs:List (List α)}(h:SlAt 1 (slE size E) w (.slice A n c) xs){k:Nat}{ls:List α}(hk:xs[k]?=some ls) :
 ∃b off v,A=some ⟨b,off,none⟩/\b<w.heap.size/\w.cell? ⟨b,off+k,none⟩=some v/\SlAt size E w v ls:=by
 obtain⟨A',c',e,h1,h2,h3⟩:=h;cases e
 have hlt:=(List.getElem?_eq_some_iff.1 hk).1;obtain⟨b,off,rfl,hb,h4⟩:=h3 (by omega)
 obtain⟨v,hc,hv⟩:=h4 k ls hk;rw[zV]at hc;exact⟨b,off,v,rfl,hb,hc,hv⟩
theorem yuu{w:World}{A:Option Addr}{c n:Nat}{xs:List Int}(h:yth w (.slice A n c) xs){k:Nat}(hk:k<xs.length) :
 ∃b off,A=some ⟨b,off,none⟩/\b<w.heap.size/\w.cell? ⟨b,off+k,none⟩=some (.int .i64 xs[k])/\I64 xs[k]:=by
 obtain⟨b,off,c',e,hb,_,_,hc,hi⟩:=h.at_ hk;cases e
 exact⟨b,off,rfl,hb,hc,hi⟩
end
section
open Go.RowKit
section
variable {w w':World}{g:Nat}{R:List Int}
end
section
variable {w w':World}{base:Nat}{e:TypeId}{size:Nat}{v:Value}{n:Nat}{xs:List Value}
end
section
variable {P:Program}(w:World)
end
end
section
open Go.RowKit
theorem ysh(w:World)(cs:Array Value)(k:Nat)(v:Value)(h:cs[k]?=some v):(part 3 cs k).run zA w = .ok v w:=by
 simp[part,h]
theorem ybgs(d:Nat)(a b:Int)(w:World):(Op.equalIn (d+1) 3 (.int .i64 a) (.int .i64 b)).run zA w = .ok (a==b) w:=by
 simp[Op.equalIn,run_underlying zY]
theorem ybct(n:Nat)(a b c d:Int)(w:World):(Op.equalIn (n+2) 91 (.agg #[.int .i64 a,.int .i64 b]) (.agg #[.int .i64 c,.int .i64 d])).run zA w = .ok (a==c&&b==d) w:=by
 have h:=ybgs n;have p0:∀x y w,(part 3 #[x,y] 0).run zA w = .ok x w:=fun x y w=>ysh w _ 0 x rfl;have p1:∀x y w,(part 3 #[x,y] 1).run zA w = .ok y w:=fun x y w=>ysh w _ 1 y rfl;unfold Op.equalIn;simp[run_underlying zJ,Std.Legacy.Range.forIn_eq_forIn_range',Std.Legacy.Range.size,zAF,p0,p1,h]
 by_cases h1:a=c<;>by_cases h2:b=d<;>simp[h1,h2]
theorem ybqi(a b c d:Int)(w:World):(Op.equal 91 (.agg #[.int .i64 a,.int .i64 b]) (.agg #[.int .i64 c,.int .i64 d])).run zA w = .ok (a==c&&b==d) w :=
 ybct 9998 a b c d w
abbrev Tri:=Int×Int×Int
def ent(i:Nat)(p:Tri):MapEntry:={ key:=.agg #[.int .i64 p.1,.int .i64 p.2.1],val:=.int .i64 p.2.2,born:=i }
def ents(L:List Tri):Array MapEntry:=(L.mapIdx ent).toArray
def hit(x y:Int)(p:Tri):Bool:=x==p.1&&y==p.2.1
def PMap(w:World)(b:Nat)(L:List Tri):Prop:=w.heap[b]?=some (.map (ents L) L.length)
theorem yly(x y:Int)(w:World):∀(L:List Tri) (f:Nat->Tri->MapEntry) (_:∀i p,(f i p).key = .agg #[.int .i64 p.1,.int .i64 p.2.1]/\(f i p).val = .int .i64 p.2.2) (i:Nat),
 ∃r,(Instr.findAsking 91 (.agg #[.int .i64 x,.int .i64 y]) (L.mapIdx f) i).run zA w = .ok r w/\(∀p,L.find? (hit x y)=some p->∃j,r=some (j,.int .i64 p.2.2))/\(L.find? (hit x y)=none->r=none)
 |[],f,_,i=>⟨none,by simp[Instr.findAsking],by simp,fun _=>rfl⟩
 | p :: L,f,hf,i=>by
   obtain⟨r,h1,h2,h3⟩:=yly x y w L (fun i=>f (i+1)) (fun i p=>hf (i+1) p) (i+1);rw[zZ];simp only[Instr.findAsking,zF,(hf 0 p).1,(hf 0 p).2,ybqi,zD]
   by_cases hh:hit x y p=true
   .refine⟨some (i,.int .i64 p.2.2),?_,?_,?_⟩
    .have:(x==p.1&&y==p.2.1)=true:=hh;rw[this];simp
    .intro q hq;simp[hh]at hq;subst hq;exact⟨i,rfl⟩
    .intro hq;simp[hh]at hq
   .have hf':hit x y p=false:=by simpa using hh
    refine⟨r,?_,?_,?_⟩
    .have:(x==p.1&&y==p.2.1)=false:=hf';rw[this]
     simpa using h1
    .intro q hq;simp only[zAD,hf']at hq;exact h2 q hq
    .intro hq;simp only[zAD,hf']at hq;exact h3 hq
theorem run_findKey(x y:Int)(w:World)(L:List Tri) :
 ∃r,(Instr.findKey 91 (.agg #[.int .i64 x,.int .i64 y]) (ents L).toList).run zA w = .ok r w/\(∀p,L.find? (hit x y)=some p->∃j,r=some (j,.int .i64 p.2.2))/\(L.find? (hit x y)=none->r=none):=by
 obtain⟨r,h1,h2⟩:=yly x y w L ent (fun i p=>⟨rfl,rfl⟩) 0;refine⟨r,?_,h2⟩;unfold ents;cases L with
 | nil =>
   simp[Instr.findAsking]at h1;subst h1;simp[Instr.findKey,run_underlying zJ,Instr.findNow]
 | cons p L =>
   rw[zZ]at h1 ⊢;simp only[Instr.findKey,zF,run_underlying zJ,zD,Instr.findNow,ent,Instr.sameNow];exact h1
theorem ybdi(e:Bool)(n:Nat)(a:Int)(w:World):(Instr.checkKey e (n+1) 3 (.int .i64 a)).run zA w = .ok () w:=by
 unfold Instr.checkKey;simp[run_underlying zY]
theorem run_checkKey(e:Bool)(x y:Int)(w:World):(Instr.checkKey e 10000 91 (.agg #[.int .i64 x,.int .i64 y])).run zA w = .ok () w:=by
 have h:∀a w,(Instr.checkKey e 9999 3 (.int .i64 a)).run zA w = .ok () w:=fun a w=>ybdi e 9998 a w;have p0:∀x y w,(part 3 #[x,y] 0).run zA w = .ok x w:=fun x y w=>ysh w _ 0 x rfl;have p1:∀x y w,(part 3 #[x,y] 1).run zA w = .ok y w:=fun x y w=>ysh w _ 1 y rfl;unfold Instr.checkKey;simp[run_underlying zJ,Std.Legacy.Range.forIn_eq_forIn_range',Std.Legacy.Range.size,zAF,p0,p1,h]
def ypf(L:List Tri)(x y:Int):Int:=((L.find? (hit x y)).map (·.2.2)).getD 0
def yhm(L:List Tri)(x y:Int):Bool:=(L.find? (hit x y)).isSome
theorem ybhh{w:World}{b:Nat}{L:List Tri}(h:PMap w b L)(x y:Int)(c:Bool) :
 (Instr.lookup 242 (.map (some b)) (.agg #[.int .i64 x,.int .i64 y]) c).run zA w = .ok (if c then .tuple #[.int .i64 (ypf L x y),.bool (yhm L x y)]else .int .i64 (ypf L x y)) w:=by
 obtain⟨r,h1,h2,h3⟩:=run_findKey x y w L;have hb:w.heap[b]?=_:=h;simp only[Instr.lookup,zF,run_underlying zO,zD,getObj,zK,hb,run_checkKey,h1,zH];unfold ypf yhm;cases hf:L.find? (hit x y)with
 | none =>
   rw[h3 hf];cases c<;>simp
 | some p =>
   obtain⟨j,rfl⟩:=h2 p hf;cases c<;>simp
theorem ybyf(L:List Tri)(p:Tri):ents (L++[p])=(ents L).push (ent L.length p):=by
 unfold ents;rw[List.mapIdx_append];simp
theorem yvs{w:World}{b:Nat}{L:List Tri}(h:PMap w b L)(x y z:Int)(hn:yhm L x y=false) :
 (Instr.mapUpdate 242 (.map (some b)) (.agg #[.int .i64 x,.int .i64 y]) (.int .i64 z)).run zA w = .ok () { w with heap:=w.heap.setIfInBounds b (.map (ents (L++[(x,y,z)])) (L.length+1)) }:=by
 obtain⟨r,h1,_,h3⟩:=run_findKey x y w L;have hb:w.heap[b]?=_:=h
 have hf:L.find? (hit x y)=none:=by
  unfold yhm at hn
  simpa using hn
 rw[h3 hf]at h1;simp only[Instr.mapUpdate,zF,run_underlying zO,zD,getObj,zK,hb,run_checkKey,h1,setObj,ybyf,ent]
def World.setMap(w:World)(b:Nat)(L:List Tri):World:={ w with heap:=w.heap.setIfInBounds b (.map (ents L) L.length) }
theorem PMap.lt{w:World}{b:Nat}{L:List Tri}(h:PMap w b L):b<w.heap.size:=(Array.getElem?_eq_some_iff.1 h).1
theorem PMap.alloc{w:World}{b:Nat}{L:List Tri}(h:PMap w b L)(o:Obj):PMap (w.alloc o) b L:=(Below.heap_alloc w o b h.lt).trans h
theorem PMap.set{w:World}{b:Nat}{L:List Tri}(h:PMap w b L)(L':List Tri):PMap (World.setMap w b L') b L':=by
 unfold PMap World.setMap;rw[zG,if_pos rfl,if_pos h.lt]
theorem Below.setMap{B:Nat}{a w:World}(h:Below B a w){b:Nat}(hb:B<=b)(L:List Tri):Below B a (World.setMap w b L) :=
 h.trans ⟨rfl,rfl,rfl,by simp[World.setMap],fun k hk=>by
  show(w.heap.setIfInBounds b _)[k]?=_;rw[zG,if_neg (by omega)]⟩
theorem yhq {P:Program}{w w':World}{ops:Array Oper}{rest:List Oper}{o:Oper}{a:Act}{Q:Exit->Act->World->Prop}(hgd:o.guard=none) (v:Value)
 (hrun:(execOp a.eval o).run P w = .ok (.value v) w') (h:wpList P ops Q rest (a.put o.dst v) w'):wpList P ops Q (o::rest) a w :=
 wpList_plain hgd fun K hK=>by unfold Oper.wp;rw[hrun];exact hK _ _ h
theorem ygl {w:World}{ops:Array Oper}{rest:List Oper}{o:Oper}{a:Act}{Q:Exit->Act->World->Prop}(hgd:o.guard=none) (m k:Operand) (c:Bool) (ho:o.op = .lookup 242 m k c)
 (b:Nat) (x y:Int) (hm:a.eval m = .map (some b)) (hk:a.eval k = .agg #[.int .i64 x,.int .i64 y]) (L:List Tri) (hL:PMap w b L)
 (h:wpList zA ops Q rest (a.put o.dst (if c then .tuple #[.int .i64 (ypf L x y),.bool (yhm L x y)]else .int .i64 (ypf L x y))) w):wpList zA ops Q (o::rest) a w:=by
 refine yhq hgd _ ?_ h;unfold execOp;simp only[ho,hm,hk,zF,ybhh hL,zD,zH]
theorem ypn {w:World}{ops:Array Oper}{rest:List Oper}{o:Oper}{a:Act}{Q:Exit->Act->World->Prop}(hgd:o.guard=none) (m k v:Operand) (ho:o.op = .mapUpdate 242 m k v) (hd:o.dst=none)
 (b:Nat) (x y z:Int) (hm:a.eval m = .map (some b)) (hk:a.eval k = .agg #[.int .i64 x,.int .i64 y]) (hv:a.eval v = .int .i64 z) (L:List Tri) (hL:PMap w b L) (hn:yhm L x y=false)
 (h:wpList zA ops Q rest a (World.setMap w b (L++[(x,y,z)]))):wpList zA ops Q (o::rest) a w:=by
 refine wpList_plain hgd fun K hK=>?_;unfold Oper.wp execOp;simp only[ho,hm,hk,hv,zF,yvs hL x y z hn,zD,zH];have:=hK a _ h
 simpa[Oper.upon,Act.put,hd,World.setMap]using this
end
section
open Go.RowKit
def ymx(w:World)(r b:Nat)(L:List Tri)(seen:List Nat):Prop:=w.heap[r]?=some (.mapIter (some b) L.length seen.toArray L.length)
theorem ybpt{w:World}{b:Nat}{L:List Tri}(h:PMap w b L) :
 (Instr.range 242 (.map (some b))).run zA w = .ok (.pointer (some ⟨w.heap.size,0,none⟩)) (w.alloc (.mapIter (some b) L.length #[] L.length)):=by
 have hb:w.heap[b]?=_:=h;simp only[Instr.range,zF,run_underlying zO,zD,getObj,zK,hb,zH,newObj];rfl
theorem yng(L:List Tri)(i:Nat):(ents L)[i]?=(L[i]?).map (ent i):=by simp[ents]
theorem ybmb{L:List Tri}{e:MapEntry}(h:e∈ents L):∃i p,L[i]?=some p/\e=ent i p:=by
 obtain⟨i,hi⟩:=Array.mem_iff_getElem?.1 h;rw[yng]at hi;obtain⟨p,hp,rfl⟩:=Option.map_eq_some_iff.1 hi;exact⟨i,p,hp,rfl⟩
theorem ydix{L:List Tri}{i:Nat}{p:Tri}(h:L[i]?=some p):ent i p∈ents L:=by
 apply zW (i:=i);rw[yng,h];rfl
def World.stepIter(w:World)(m r b:Nat)(L:List Tri)(seen:List Nat):World:={ w.drewN m with heap:=w.heap.setIfInBounds r (.mapIter (some b) L.length seen.toArray L.length) }
theorem ybtm{w:World}{r b:Nat}{L:List Tri}{seen:List Nat}(h:PMap w b L)(hi:ymx w r b L seen)(ty:TypeId) :
 (∃m,(Instr.next (.pointer (some ⟨r,0,none⟩)) false ty).run zA w = .ok (.tuple #[.bool false]) (w.drewN m)/\∀i,i<L.length->i∈seen) \/
 ∃m i p,L[i]?=some p/\i∉seen/\(Instr.next (.pointer (some ⟨r,0,none⟩)) false ty).run zA w = .ok (.tuple #[.bool true,(ent i p).key,(ent i p).val]) (World.stepIter w m r b L (seen++[i])):=by
 have hb:w.heap[b]?=_:=h;have hr:w.heap[r]?=_:=hi;have hlt:r<w.heap.size:=(Array.getElem?_eq_some_iff.1 hr).1
 have hall:(!seen.toArray.isEmpty && !(ents L).isEmpty&&(ents L).all (fun x=>decide (x.born>=L.length)))=false:=by
  cases L with
  |nil=>simp[ents]
  | cons p L =>
    have:(ents (p::L)).all (fun x=>decide (x.born>=(p::L).length))=false:=by
     rw[Array.all_eq_false];exact⟨0,by simp[ents],by simp[ents,ent]⟩
    rw[this];simp
 have hold:∀left:Array MapEntry,(∀e∈left,e∈ents L)->left.filter (fun x=>decide (x.born<L.length))=left/\left.filter (fun x=>decide (x.born>=L.length)) = #[]:=by
  intro left hl
  have hborn:∀e∈left,e.born<L.length:=by
   intro e he;obtain⟨i,p,hp,rfl⟩:=ybmb (hl e he);exact(List.getElem?_eq_some_iff.1 hp).1
  constructor
  .rw[Array.filter_eq_self];exact fun e he=>decide_eq_true (hborn e he)
  .rw[Array.filter_eq_empty_iff];intro e he;have:=hborn e he;simp;omega
 obtain⟨left,hleft⟩:∃left,(ents L).filter (fun e=>!seen.toArray.contains e.born)=left:=⟨_,rfl⟩
 have hsub:∀e∈left,e∈ents L/\e.born∉seen:=by
  intro e he;rw[<-hleft,zAA]at he;exact⟨he.1,by simpa using he.2⟩
 obtain⟨o1,o2⟩:=hold left (fun e he=>(hsub e he).1)
 have hnext:(Instr.next (.pointer (some ⟨r,0,none⟩)) false ty).run zA w =
  ((choose (.mapNext ((if left.isEmpty then #[none]else #[])++(left ++ #[]).map some).size)).run zA w).andThen fun j w' =>
    (match ((if left.isEmpty then #[none]else #[])++(left ++ #[]).map some)[j]? with
      |some (some e)=>(do setObj r (.mapIter (some b) L.length (seen.toArray.push e.born) L.length);pure (.tuple #[.bool true,e.key,e.val]):Sem Value)
      |some none=>pure (.tuple #[.bool false])
      | none => stuck "Next: no such candidate").run zA w' := by
  simp only[Instr.next,zF,getObj,zK,hr,hb,zD,hall,hleft,o1,o2]
  rw[if_neg (by simp)]
  simp only[zF];rfl
 rw[hnext]
 by_cases hem:left = #[]
 .subst hem;refine .inl ⟨0,by simp[choose,zK,Question.forced,World.drewN],fun i hi=>?_⟩
  by_cases hs:i∈seen
  .exact hs
  .have:ent i L[i]∈(#[]:Array MapEntry):=by
    rw[<-hleft,zAA];exact⟨ydix (zC hi),by simpa[ent]using hs⟩
   simp at this
 .right
  have hne:left.isEmpty=false:=by simpa using hem
  have hpos:0<left.size:=Array.size_pos_iff.2 hem;have hcs:((if left.isEmpty then #[none]else #[])++(left ++ #[]).map some)=left.map some:=by simp[hne]
  rw[hcs]
  obtain⟨j,m,hj,hch⟩:∃j m,j<left.size/\(choose (.mapNext (left.map some).size)).run zA w = .ok j (w.drewN m):=by
   by_cases h1:left.size<=1
   .exact⟨0,0,hpos,by simp[choose,zK,Question.forced,h1,World.drewN]⟩
   .exact⟨_,1,Nat.mod_lt _ hpos,by simp[choose,zK,Question.forced,h1,World.drewN,Question.cut];rfl⟩
  rw[hch];obtain⟨i,p,hp,he⟩:=ybmb (hsub left[j] (zX hj)).1;have hns:=(hsub left[j] (zX hj)).2;rw[he]at hns;refine⟨m,i,p,hp,hns,?_⟩;have hr':(w.drewN m).heap[r]?=_:=hr;have hm:(left.map some)[j]?=some (some (ent i p)):=by simp[hj,he]
  simp only[zD,hm,zF,setObj,zK,hr',zH];simp[World.stepIter,ent,World.drewN]
theorem ybpp{w:World}{r b:Nat}{L:List Tri}{seen:List Nat}{i:Nat}{p:Tri}(h:PMap w b L)(hi:ymx w r b L (seen++[i]))(hp:L[i]?=some p) :
 (Instr.entry (.pointer (some ⟨r,0,none⟩))).run zA w = .ok (.tuple #[(ent i p).key,(ent i p).val]) w:=by
 have hb:w.heap[b]?=_:=h;have hr:w.heap[r]?=_:=hi;have hback:(seen++[i]).toArray.back?=some i:=by simp
 have hfind:(ents L).find? (fun x=>x.born==i)=some (ent i p):=by
  rw[Array.find?_eq_some_iff_getElem];obtain⟨hlt,e⟩:=List.getElem?_eq_some_iff.1 hp;refine⟨by simp[ent],i,by simpa[ents]using hlt,by simp[ents,e],fun j hj=>?_⟩
  simp[ents,ent];omega
 simp only[Instr.entry,zF,getObj,zK,hr,hb,zD,hback,hfind];simp
theorem ybay {w:World}{ops:Array Oper}{rest:List Oper}{o:Oper}{a:Act}{Q:Exit->Act->World->Prop}(hgd:o.guard=none) (x:Operand) (ho:o.op = .range 242 x)
 (b:Nat) (hx:a.eval x = .map (some b)) (L:List Tri) (hL:PMap w b L)
 (h:wpList zA ops Q rest (a.put o.dst (.pointer (some ⟨w.heap.size,0,none⟩))) (w.alloc (.mapIter (some b) L.length #[] L.length))):wpList zA ops Q (o::rest) a w:=by
 refine yhq hgd _ ?_ h;unfold execOp;simp only[ho,hx,zF,ybpt hL,zD,zH]
theorem ybej {w:World}{ops:Array Oper}{rest:List Oper}{o:Oper}{a:Act}{Q:Exit->Act->World->Prop}(hgd:o.guard=none) (x:Operand) (ho:o.op = .next x false)
 (r b:Nat) (hx:a.eval x = .pointer (some ⟨r,0,none⟩)) (L:List Tri) (seen:List Nat) (hL:PMap w b L) (hI:ymx w r b L seen)
 (hend:∀m,(∀i,i<L.length->i∈seen)->wpList zA ops Q rest (a.put o.dst (.tuple #[.bool false])) (w.drewN m))
 (hgo:∀m i p,L[i]?=some p->i∉seen->wpList zA ops Q rest (a.put o.dst (.tuple #[.bool true,.agg #[.int .i64 p.1,.int .i64 p.2.1],.int .i64 p.2.2])) (World.stepIter w m r b L (seen++[i]))):wpList zA ops Q (o::rest) a w:=by
 rcases ybtm hL hI o.type with⟨m,hr,h1⟩|⟨m,i,p,h1,h2,hr⟩
 .refine yhq hgd _ ?_ (hend m h1);unfold execOp;simp only[ho,hx,zF,hr,zD,zH]
 .refine yhq hgd _ ?_ (hgo m i p h1 h2);unfold execOp;simp only[ho,hx,zF,hr,zD,zH,ent]
theorem ynn {w:World}{ops:Array Oper}{rest:List Oper}{o:Oper}{a:Act}{Q:Exit->Act->World->Prop}(hgd:o.guard=none) (x:Operand) (ho:o.op = .entry x)
 (r b:Nat) (hx:a.eval x = .pointer (some ⟨r,0,none⟩)) (L:List Tri) (seen:List Nat) (i:Nat) (p:Tri) (hL:PMap w b L) (hI:ymx w r b L (seen++[i])) (hp:L[i]?=some p)
 (h:wpList zA ops Q rest (a.put o.dst (.tuple #[.agg #[.int .i64 p.1,.int .i64 p.2.1],.int .i64 p.2.2])) w):wpList zA ops Q (o::rest) a w:=by
 refine yhq hgd _ ?_ h;unfold execOp;simp only[ho,hx,zF,ybpp hL hI hp,zD,zH,ent]
section
variable {w:World}{r b:Nat}{L:List Tri}{seen seen':List Nat}
theorem ymx.lt(h:ymx w r b L seen):r<w.heap.size:=(Array.getElem?_eq_some_iff.1 h).1
theorem ymx.alloc(h:ymx w r b L seen)(o:Obj):ymx (w.alloc o) r b L seen:=(Below.heap_alloc w o r h.lt).trans h
theorem ymx.step(h:ymx w r b L seen)(m:Nat):ymx (World.stepIter w m r b L seen') r b L seen':=by
 unfold ymx World.stepIter;show(w.heap.setIfInBounds r _)[r]?=_;rw[zG,if_pos rfl,if_pos h.lt]
theorem PMap.step{b':Nat}{L':List Tri}(h:PMap w b' L')(hne:b'≠r)(m:Nat):PMap (World.stepIter w m r b L seen') b' L':=by
 unfold PMap World.stepIter;show(w.heap.setIfInBounds r _)[b']?=_;rw[zG,if_neg (by omega)]
 exact h
theorem Below.stepIter{B:Nat}{a:World}(h:Below B a w)(hr:B<=r)(m:Nat):Below B a (World.stepIter w m r b L seen') :=
 h.trans ⟨rfl,rfl,rfl,by simp[World.stepIter],fun k hk=>by
  show(w.heap.setIfInBounds r _)[k]?=_;rw[zG,if_neg (by omega)]⟩
end
end
section
abbrev ykm:=List (List (Int×Int))
def ycko(ports:ykm):Prop :=
 (∀v:Fin ports.length,ydk ports[v] (v.1:Int) (ports.length:Int))/\(∀v:Fin ports.length,∀l∈ports[v],((v.1:Int),l.2)∈ports.getD l.1.toNat [])
instance(ports:ykm):Decidable (ycko ports):=by unfold ycko;infer_instance
def symB(ports:ykm):Bool:=decide (ycko ports)
def tri(v:Nat)(l:Int×Int):Tri:=((v:Int),l.1,l.2)
def ygu(ports:ykm)(v:Nat):List Tri:=((zAC v).map (fun u=>(ports.getD u []).map (tri u))).flatten
def yht(ports:ykm)(v i:Nat):List Tri:=ygu ports v++((ports.getD v []).take i).map (tri v)
theorem ybja(ports:ykm)(v:Nat):ygu ports (v+1)=ygu ports v++(ports.getD v []).map (tri v):=by
 simp[ygu,List.range_succ]
theorem ybjy(ports:ykm)(v:Nat):yht ports v 0=ygu ports v:=by simp[yht]
theorem ybiq(ports:ykm)(v i:Nat)(ls:List (Int×Int))(hls:ports[v]?=some ls)(hi:i<ls.length):yht ports v (i+1)=yht ports v i++[((v:Int),ls[i].1,ls[i].2)]:=by
 have e:ports.getD v []=ls:=by simp[zL,hls]
 unfold yht;rw[e,take_snoc ls i hi,zAB,List.append_assoc];rfl
theorem ybiu(ports:ykm)(v:Nat)(ls:List (Int×Int))(hls:ports[v]?=some ls):yht ports v ls.length=ygu ports (v+1):=by
 have e:ports.getD v []=ls:=by simp[zL,hls]
 rw[ybja];unfold yht;rw[e,zT]
theorem yiy{ports:ykm}{v:Nat}{p:Tri}:p∈ygu ports v↔∃u,u<v/\∃l∈ports.getD u [],p=tri u l:=by
 unfold ygu;simp only[List.mem_flatten,List.mem_map,List.mem_range];constructor
 .rintro⟨q,⟨u,hu,rfl⟩,hp⟩;obtain⟨l,hl,rfl⟩:=List.mem_map.1 hp;exact⟨u,hu,l,hl,rfl⟩
 .rintro⟨u,hu,l,hl,rfl⟩;exact⟨_,⟨u,hu,rfl⟩,List.mem_map.2 ⟨l,hl,rfl⟩⟩
theorem ybhn{L:List Tri}{x y:Int}:yhm L x y=true↔∃p∈L,p.1=x/\p.2.1=y:=by
 unfold yhm;rw[List.find?_isSome];constructor
 .rintro⟨p,hp,h⟩;simp[hit]at h;exact⟨p,hp,h.1.symm,h.2.symm⟩
 .rintro⟨p,hp,rfl,rfl⟩;exact⟨p,hp,by simp[hit]⟩
theorem ymb{ports:ykm}{v i:Nat}{ls:List (Int×Int)}(hls:ports[v]?=some ls){y:Int}:yhm (yht ports v i) (v:Int) y=true↔∃l∈ls.take i,l.1=y:=by
 have e:ports.getD v []=ls:=by simp[zL,hls]
 rw[ybhn];unfold yht;rw[e];constructor
 .rintro⟨p,hp,h1,h2⟩;rcases List.mem_append.1 hp with hp|hp
  .obtain⟨u,hu,l,hl,rfl⟩:=yiy.1 hp;simp[tri]at h1;omega
  .obtain⟨l,hl,rfl⟩:=List.mem_map.1 hp;exact⟨l,hl,h2⟩
 .rintro⟨l,hl,rfl⟩;exact⟨tri v l,List.mem_append_right _ (List.mem_map.2 ⟨l,hl,rfl⟩),rfl,rfl⟩
theorem yrj{ports:ykm}{v k:Nat}{ls:List (Int×Int)}(hls:ports[v]?=some ls)(h:¬ydk (ls.take k) (v:Int) (ports.length:Int)):symB ports=false:=by
 unfold symB;rw[decide_eq_false_iff_not];intro hs;obtain⟨hv,e⟩:=List.getElem?_eq_some_iff.1 hls;have:=hs.1 ⟨v,hv⟩;simp only[Fin.getElem_fin,e]at this;exact h (ybci _ _ _ _ this)
def ysm(ports:ykm):Prop:=∀(v:Nat) ls,ports[v]?=some ls->ydk ls (v:Int) (ports.length:Int)
theorem ybco{ports:ykm}(ha:ysm ports){v:Nat}{ls:List (Int×Int)}(hls:ports[v]?=some ls){l:Int×Int}(hl:l∈ls) :
 ypf (ygu ports ports.length) l.1 (v:Int)=l.2↔((v:Int),l.2)∈ports.getD l.1.toNat []:=by
 have hlk:=(ha v ls hls).1 l hl;unfold ynr at hlk;have hto:l.1.toNat<ports.length:=by omega
 have hgd:ports[l.1.toNat]?=some (ports.getD l.1.toNat []):=by simp[zL,zC hto]
 unfold ypf;cases hf:(ygu ports ports.length).find? (hit l.1 (v:Int))with
 | none =>
   simp only[Option.map_none,Option.getD_none];constructor
   .intro e;omega
   .intro hm
    exfalso
    rw[List.find?_eq_none]at hf;refine hf (tri l.1.toNat ((v:Int),l.2)) (yiy.2 ⟨_,hto,_,hm,rfl⟩) ?_;simp[hit,tri];omega
 | some q =>
   have hq:=List.mem_of_find?_eq_some hf;have hh:=List.find?_some hf;simp[hit]at hh;obtain⟨u,hu,l',hl',rfl⟩:=yiy.1 hq;simp only[tri]at hh ⊢;obtain⟨h1,h2⟩:=hh;have hul:u=l.1.toNat:=by omega
   subst hul;simp only[Option.map_some,Option.getD_some]
   generalize ports.getD l.1.toNat []=ls' at hgd hl' ⊢
   constructor
   .intro e
    have:l'=((v:Int),l.2):=by
     obtain⟨a,b⟩:=l';simp only at e h2;rw[h2,e]
    rw[<-this];exact hl'
   .intro hm;have hnd:=(ha _ _ hgd).2;obtain⟨i,hi,e1⟩:=List.mem_iff_getElem.1 hl';obtain⟨j,hj,e2⟩:=List.mem_iff_getElem.1 hm
    have hij:i=j:=by
     rcases Nat.lt_trichotomy i j with h|h|h
     .have h3:=(List.pairwise_iff_getElem.1 hnd) i j (by simpa using hi) (by simpa using hj) h
      simp[e1,e2,h2]at h3
     .exact h
     .have h3:=(List.pairwise_iff_getElem.1 hnd) j i (by simpa using hj) (by simpa using hi) h
      simp[e1,e2,h2]at h3
    subst hij;rw[e1]at e2;rw[e2]
theorem yvo{ports:ykm}(ha:ysm ports){p:Tri}(hp:p∈ygu ports ports.length)(hv:ypf (ygu ports ports.length) p.2.1 p.1≠p.2.2):symB ports=false:=by
 obtain⟨u,hu,l,hl,rfl⟩:=yiy.1 hp;have hls:ports[u]?=some (ports.getD u []):=by simp[zL,zC hu]
 unfold symB;rw[decide_eq_false_iff_not];intro hs;refine hv ((ybco ha hls hl).2 ?_);have:=hs.2 ⟨u,hu⟩ l (by simpa[zL,zC hu]using hl)
 exact this
theorem ybyr{ports:ykm}(ha:ysm ports)(h:∀p∈ygu ports ports.length,ypf (ygu ports ports.length) p.2.1 p.1=p.2.2):symB ports=true:=by
 refine decide_eq_true ⟨?_,?_⟩
 .rintro⟨v,hv⟩;exact ha v _ (zC hv)
 .rintro⟨v,hv⟩ l hl;have hls:ports[v]?=some ports[v]:=zC hv;refine(ybco ha hls hl).1 (h (tri v l) (yiy.2 ⟨v,hv,l,?_,rfl⟩))
  simpa[zL,hls]using hl
end
section
open Go.RowKit
theorem ybeq{ls:List (Int×Int)}{v n:Int}(h:ydk (ls.take ls.length) v n):ydk ls v n:=by rwa [zT]at h
set_option maxHeartbeats 2000000 in
theorem yon (pv:Value)(ports:ykm)(w:World)(hp:ybbc w pv ports)(hn:ports.length<=1000) :
 Calls zA 175 #[pv] w fun e w'=>e = .returned (.bool (symB ports))/\Below w.heap.size w w':=by
 obtain⟨A2,c2,rfl,hB1,hB2⟩:=ycw hp;have Hp:=zB hp
 clear hp
 have hmm:=@run_makeMap zA
 go_enter zAE,Tryz.ntmps175
 go_wp2
 clear hmm
 go_loopg [16] ports.length (fun q t wr=>∃v:Nat,q+v=ports.length/\t = .int .i64 v/\Hid (Below w.heap.size w wr)/\Hid (PMap wr w.heap.size (ygu ports v))/\Hid (∀(u:Nat) ls,u<v->ports[u]?=some ls->ydk ls u ports.length))
 case atStart=>exact⟨0,by omega,rfl,zB ((Below.refl _ _).alloc (zN _) _),zB (heap_alloc_new w _),zB (fun u ls hu=>absurd hu (by omega))⟩
 case round =>
  obtain⟨v,hq,rfl,hbel,hmap,hlk⟩:=hrel
  by_cases hlt:v<ports.length
  .obtain⟨b2,off2,lv,rfl,hb2,hcl,hls⟩:=ytq Hp.out (zC hlt);obtain⟨A3,c3,rfl,hl1,hl2⟩:=ycw hls;have hcl':=ync hbel.out _ _ hcl
   clear hcl
   obtain⟨ls,hle⟩:∃ls,ports[v]=ls:=⟨_,rfl⟩;have Hlp:=zB (show ports[v]?=some ls by rw[zC hlt,hle])
   rw[hle]at hls hcl' hl1;have Hls:=zB hls
   clear hls hle
   go_wp2
   obtain⟨go,rfl⟩:∃go,go=gk:=⟨_,rfl⟩
   go_loopg [23] ls.length (fun q t wr=>∃i:Nat,q+i=ls.length/\t = .int .i64 i/\Hid (Below w.heap.size w wr)/\Hid (PMap wr w.heap.size (yht ports v i))/\Hid (ydk (ls.take i) v ports.length))
   case atStart=>exact⟨0,by omega,rfl,hbel,zB (by rw[ybjy];exact hmap.out),zB ⟨by simp,by simp⟩⟩
   case round =>
    clear hbel hmap hcl'
    obtain⟨i,hqi,rfl,hbel,hmap,hok⟩:=hrel;have hmlt:w.heap.size<wr.heap.size:=hmap.out.lt
    by_cases hil:i<ls.length
    .obtain⟨A4,c4,e4,_,_,hE⟩:=Hls.out.below Stable.link hbel.out;cases e4
     obtain⟨b3,off3,rfl,hb3,hE⟩:=hE (by omega)
     obtain⟨⟨l1,wt⟩,hle⟩:∃l,ls[i]=l:=⟨_,rfl⟩;have hl?:ls[i]?=some (l1,wt):=by rw[zC hil,hle]
     obtain⟨hx1,hx2,⟨hr1,hr2⟩,⟨hr3,hr4⟩⟩:=hE i _ hl?;simp only at hx1 hx2 hr1 hr2 hr3 hr4;have hsn:=ybft ls v ports.length i hil;rw[hle]at hsn;have Hsn:=zB hsn;have Hbad:=zB (fun h=>yrj (ports:=ports) (v:=v) (k:=i+1) Hlp.out h);have Hsc:=zB (ybiq ports v i ls Hlp.out hil);rw[hle]at Hsc;have HE:=zB hE;have Hle:=zB hle
     clear hE hl? hle hsn
     by_cases c1:0<=l1/\l1<=ports.length-1
     .obtain⟨c1a,c1b⟩:=c1
      by_cases c2:l1=v
      .have c2':(l1==(v:Int))=true:=by simp[c2]
       have Hf:=zB (Hbad.out (fun h=>((Hsn.out.1 h).2.1).2.2.1 c2))
       clear c2
       go_wp2
       go_ret
       exact⟨yca Hf.out.symm,(hbel.out.alloc (by omega) _)⟩
      .have c2':(l1==(v:Int))=false:=by simp[c2]
       have Hc2:=zB c2
       clear c2
       by_cases c3:1<=wt/\wt<=15
       .obtain⟨c3a,c3b⟩:=c3
        by_cases c4:yhm (yht ports v i) v l1=true
        .have Hf:=zB (Hbad.out (fun h=>by
          obtain⟨l,hl,e⟩:=(ymb Hlp.out).1 c4;obtain⟨j,hj,rfl⟩:=List.mem_take_iff_getElem.1 hl;exact(Hsn.out.1 h).2.2 j (by omega) e))
         go_wp2_with (at_lookup;refine ygl rfl _ _ _ rfl w.heap.size (v:Int) l1 rfl (by rfl) (yht ports v i) ((hmap.out.alloc _).alloc _) ?_)
         go_ret
         exact⟨yca Hf.out.symm,((hbel.out.alloc (by omega) _).alloc (by simp;omega) _)⟩
        .have c4':yhm (yht ports v i) v l1=false:=by simpa using c4
         have Hnew:=zB (show ydk (ls.take (i+1)) v ports.length from Hsn.out.2 ⟨hok.out,⟨c1a,by simpa using c1b,Hc2.out,c3a,c3b⟩,fun j hj e=>c4 ((ymb Hlp.out).2 ⟨ls[j],List.mem_take_iff_getElem.2 ⟨j,by omega,rfl⟩,e⟩)⟩)
         clear c4
         go_wp2_with (first
          |(at_lookup;refine ygl rfl _ _ _ rfl w.heap.size (v:Int) l1 rfl (by rfl) (yht ports v i) ((hmap.out.alloc _).alloc _) ?_)
          |(at_mapUpdate;refine ypn rfl _ _ _ rfl rfl w.heap.size (v:Int) l1 wt rfl (by rfl) (by rfl) (yht ports v i) ((hmap.out.alloc _).alloc _) c4' ?_))
         go_roundg (gk-1)
         case measure=>omega
         case rel =>
          refine⟨i+1,by omega,by go_num,zB ?_,zB ?_,Hnew⟩
          .exact Below.setMap ((hbel.out.alloc (by omega) _).alloc (by simp;omega) _) (zN _) _
          .rw[Hsc.out];exact PMap.set ((hmap.out.alloc _).alloc _) _
       .have Hf:=zB (Hbad.out (fun h=>c3 ⟨((Hsn.out.1 h).2.1).2.2.2.1,((Hsn.out.1 h).2.1).2.2.2.2⟩))
        by_cases c5:wt<1
        .clear c3
         go_wp2
         go_ret
         exact⟨yca Hf.out.symm,(hbel.out.alloc (by omega) _)⟩
        .have c6:15<wt:=by omega
         clear c3
         go_wp2
         go_ret
         exact⟨yca Hf.out.symm,(hbel.out.alloc (by omega) _)⟩
     .have Hf:=zB (Hbad.out (fun h=>c1 ⟨((Hsn.out.1 h).2.1).1,((Hsn.out.1 h).2.1).2.1⟩))
      by_cases c5:l1<0
      .clear c1
       go_wp2
       go_ret
       exact⟨yca Hf.out.symm,(hbel.out.alloc (by omega) _)⟩
      .have c6:(ports.length:Int)<=l1:=by omega
       clear c1
       go_wp2
       go_ret
       exact⟨yca Hf.out.symm,(hbel.out.alloc (by omega) _)⟩
    .obtain rfl:i=ls.length:=by omega
     go_wp2
     go_roundg (go-1)
     case measure=>omega
     case rel =>
      refine⟨v+1,by omega,by go_num,hbel,zB (by rw[<-ybiu ports v ls Hlp.out];exact hmap.out),zB (fun u ls' hu hls'=>?_)⟩
      by_cases huv:u<v
      .exact hlk.out u ls' huv hls'
      .obtain rfl:u=v:=by omega
       rw[Hlp.out]at hls';cases hls'
       exact ybeq hok.out
  .obtain rfl:v=ports.length:=by omega
   have Hal:=zB (show ysm ports from fun v ls hls=>hlk.out v ls (List.getElem?_eq_some_iff.1 hls).1 hls)
   have hmlt:w.heap.size<wr.heap.size:=hmap.out.lt
   go_wp2_with (at_range;refine ybay rfl _ rfl w.heap.size rfl (ygu ports ports.length) hmap.out ?_)
   go_frame
   obtain⟨L,hL⟩:∃L,L=ygu ports ports.length:=⟨_,rfl⟩;rw[<-hL]at hmap ⊢;have HL:=zB hL
   clear hL
   obtain⟨r,hr⟩:∃r,r=wr.heap.size:=⟨_,rfl⟩;rw[<-hr]at hmlt ⊢
   go_loopg [70] (L.length+1) (fun q t wr=>∃seen:List Nat,q+seen.length=L.length+1/\Hid (Below w.heap.size w wr)/\Hid (PMap wr w.heap.size L)/\Hid (ymx wr r w.heap.size L seen)/\Hid (seen.Nodup/\∀i∈seen,∃p,L[i]?=some p/\ypf L p.2.1 p.1=p.2.2))
   case atStart =>
    refine⟨[],by simp,zB (hbel.out.alloc (by omega) _),zB (hmap.out.alloc _),zB ?_,zB ⟨by simp,by simp⟩⟩
    rw[hr];exact heap_alloc_new wr _
   case round =>
    clear hbel hmap hr
    obtain⟨seen,hq,hbel,hmap,hit,hseen⟩:=hrel
    go_wp2_with (at_next;refine ybej rfl _ rfl r w.heap.size rfl L seen hmap.out hit.out ?hend ?hgo)
    case hend =>
     intro m hall
     have Ht:=zB (show symB ports=true from ybyr Hal.out (fun p hp=>by
      rw[<-HL.out]at hp ⊢;obtain⟨i,hi,rfl⟩:=List.mem_iff_getElem.1 hp;obtain⟨p,hp',hv⟩:=hseen.out.2 i (hall i hi);rw[zC hi]at hp';cases hp'
      exact hv))
     clear hall
     go_wp2
     go_ret
     exact⟨yca Ht.out.symm,below_drewN hbel.out _⟩
    case hgo =>
     intro m i x y z hp hns;have hil:i<L.length:=(List.getElem?_eq_some_iff.1 hp).1;have Hb1:=zB (Below.stepIter (L:=L) (b:=w.heap.size) (seen':=seen++[i]) hbel.out (r:=r) (by omega) m)
     have Hm1:=zB (PMap.step (b:=w.heap.size) (L:=L) (seen':=seen++[i]) hmap.out (r:=r) (by omega) m)
     have Hi1:=zB (ymx.step (seen':=seen++[i]) hit.out m);have Hp:=zB hp;have Hn:=zB hns;obtain⟨w1,hw1⟩:∃w1,w1=World.stepIter wr m r w.heap.size L (seen++[i]):=⟨_,rfl⟩;rw[<-hw1]at Hb1 Hm1 Hi1 ⊢
     clear hw1 hbel hmap hit hp hns
     have hz1:r<w1.heap.size:=Hi1.out.lt
     by_cases hv:ypf L y x=z
     .have hv':(ypf L y x != z)=false:=by simp[hv]
      have Hv:=zB hv
      clear hv
      go_wp2_with (first
       |(at_lookup;refine ygl rfl _ _ _ rfl w.heap.size y x rfl (by rfl) L (Hm1.out.alloc _) ?_)
       |(with_reducible refine ynn rfl _ rfl r w.heap.size rfl L seen i (x,y,z) Hm1.out Hi1.out Hp.out ?_))
      have hsz:=zB (show(seen++[i]).length<=L.length by
       have hnd:(seen++[i]).Nodup:=by
        rw[zQ];exact⟨hseen.out.1,by simp,fun a ha b hb e=>by simp at hb;subst hb e;exact Hn.out ha⟩
       have hsub:(seen++[i]) ⊆ zAC L.length:=by
        intro j hj;rcases List.mem_append.1 hj with hj|hj
        .obtain⟨p,hp,_⟩:=hseen.out.2 j hj;simp[(List.getElem?_eq_some_iff.1 hp).1]
        .simp at hj;subst hj;simpa using hil
       simpa using List.Nodup.length_le_of_subset hnd hsub)
      go_roundg (gk-1)
      case measure=>have:=hsz.out;simp at this;omega
      case rel =>
       have h0:=hsz.out;simp only[List.length_append,List.length_cons,List.length_nil]at h0;refine⟨seen++[i],by simp;omega,zB (Hb1.out.alloc (by omega) _),zB (Hm1.out.alloc _),zB (Hi1.out.alloc _),zB ⟨?_,fun j hj=>?_⟩⟩
       .rw[zQ];exact⟨hseen.out.1,by simp,fun a ha b hb e=>by simp at hb;subst hb e;exact Hn.out ha⟩
       .rcases List.mem_append.1 hj with hj|hj
        .exact hseen.out.2 j hj
        .simp at hj;subst hj;exact⟨_,Hp.out,Hv.out⟩
     .have hv':(ypf L y x != z)=true:=by simp[hv]
      have Hf:=zB (show symB ports=false from yvo Hal.out (p:=(x,y,z)) (by rw[<-HL.out];exact List.mem_of_getElem? Hp.out) (by rw[<-HL.out];exact hv))
      clear hv
      go_wp2_with (first
       |(at_lookup;refine ygl rfl _ _ _ rfl w.heap.size y x rfl (by rfl) L (Hm1.out.alloc _) ?_)
       |(with_reducible refine ynn rfl _ rfl r w.heap.size rfl L seen i (x,y,z) Hm1.out Hi1.out Hp.out ?_))
      go_ret
      exact⟨yca Hf.out.symm,Hb1.out.alloc (by omega) _⟩
end
section
namespace Ev
open Go Go.RowKit
section
variable {φ:Phi}{M:AM}{w:World}{m:Mem}
theorem yyd{n:Int}(h:inI64 n=true):I64 n:=by
 unfold inI64 at h;split at h
 .have:=zI h;unfold I64;rename_i k;simp only[Int.ofNat_eq_natCast];omega
 .have:=zI h;unfold I64;omega
theorem yqh:∀{l:List Value}{xs:List (Int×Int)},pairsOf l=some xs->l.length=xs.length*2/\∀j x,xs[j]?=some x->l[j*2]?=some (.int .i64 x.1)/\l[j*2+1]?=some (.int .i64 x.2)/\I64 x.1/\I64 x.2
 |[],xs,h=>by cases h;exact⟨rfl,by simp⟩
 | .int .i64 a :: .int .i64 b::l,xs,h=>by
   unfold pairsOf at h;split at h
   .rename_i r hr
    rw[zU]at h;split at h
    .rename_i hc
     cases h
     simp only[Bool.and_eq_true]at hc;obtain⟨h1,h2⟩:=yqh hr;refine⟨by simp[h1];omega,fun j x hx=>?_⟩
     cases j with
     |zero=>simp at hx;subst hx;exact⟨rfl,rfl,yyd hc.1,yyd hc.2⟩
     | succ j =>
       have:=h2 j x (by simpa using hx)
       rw[show(j+1)*2=j*2+1+1 by omega]
       simpa using this
    .cases h
   .cases h
theorem yks{α β:Type}{f:α->Option β}:∀{l:List α}{r:List β},mapO f l=some r->l.length=r.length/\∀(j:Nat) (y:β),r[j]?=some y->∃x,l[j]?=some x/\f x=some y
 |[],r,h=>by cases h;exact⟨rfl,by simp⟩
 | x :: l,r,h=>by
   unfold mapO at h;split at h
   .cases h
   .rename_i y hy
    split at h
    .cases h
    .rename_i r' hr
     cases h
     obtain⟨h1,h2⟩:=yks hr;refine⟨by simp[h1],fun j z hz=>?_⟩
     cases j with
     |zero=>simp at hz;subst hz;exact⟨x,rfl,hy⟩
     |succ j=>simpa using h2 j z (by simpa using hz)
theorem ypt {α:Type}{size:Nat}{E:Elem α}{v v':Value}{l:List Value}{ft:List Nat}{xs:List α}(h:rowOf m size v=some (l,ft)) (hv:VR φ v v') (hR:Rel φ M w) (hs:Sub m M) (hlen:l.length=xs.length*size) (h0:size≠0)
 (hE:∀(l':List Value) (b off:Nat),VRL φ l l'->(∀j u,l'[j]?=some u->w.cell? ⟨b,off+j,none⟩=some u)->∀j x,xs[j]?=some x->E w b (off+j*size) x):SlAt size E w v' xs:=by
 unfold rowOf at h;split at h
 .cases h
  have e:=hv.eq_simple rfl;subst e
  have:xs=[]:=by
   rcases Nat.mul_eq_zero.1 (show xs.length*size=0 from hlen.symm)with h|h
   .exact zM h
   .exact absurd h h0
  subst this;exact SlAt.nil w
 .rename_i a len cap
  obtain⟨lc,A,c',k1,k2,k3,k4,k5,k6,k7⟩:=hv.slice_inv;subst k3;split at h
  .cases h
  .rw[zU]at h;split at h
   .rename_i hl0
    have hl0:=Nat.eq_of_beq_eq_true hl0;subst hl0;cases h
    have:xs=[]:=by
     rcases Nat.mul_eq_zero.1 (show xs.length*size=0 from hlen.symm)with h|h
     .exact zM h
     .exact absurd h h0
    subst this;exact⟨some A,c',rfl,Nat.zero_le _,k6,fun q=>absurd q (by simp)⟩
   .rename_i hl0
    split at h
    .rename_i c n e z hb
     rw[zU]at h;split at h
     .rename_i hn
      have hn:=zI hn;split at h
      .rename_i l2 hl2
       cases h
       have hlen2:=(yeh hl2).1
       have hxl:xs.length=len:=by
        rw[hlen2]at hlen;exact(Nat.eq_of_mul_eq_mul_right (by omega) hlen).symm
       obtain⟨lc',cs,e',fz,g1,g2,g3,_,g4,g5,g6⟩:=hR.cellsAt (hs _ _ hb);rw[k1]at g1;cases g1
       obtain⟨l',r1,r2⟩:=cellsRead g6 hl2 hn;subst hxl;refine⟨some A,c',rfl,k4,k6,fun hpos=>?_⟩;rcases k7 with⟨rfl,_⟩|k7
       .refine⟨lc.blk,lc.base+a.off,rfl,(Array.getElem?_eq_some_iff.1 g4).1,hE l' _ _ r1 fun j u hu=>cell_of g4 (r2 j u hu)⟩
       .omega
      .cases h
     .cases h
    .cases h
 .cases h
theorem yiw{v v':Value}{xs:List (Int×Int)}(h:linksOf m v=some xs)(hv:VR φ v v')(hR:Rel φ M w)(hs:Sub m M):ycdy w v' xs:=by
 unfold linksOf at h;split at h
 .rename_i l ft hl
  obtain⟨h1,h2⟩:=yqh h;refine ypt hl hv hR hs h1 (by decide) fun l' b off hl' hc j x hx=>?_
  obtain⟨q1,q2,q3,q4⟩:=h2 j x hx;obtain⟨u1,p1,p2⟩:=hl'.get q1;obtain⟨u2,p3,p4⟩:=hl'.get q2;have e1:=p2.eq_simple rfl;have e2:=p4.eq_simple rfl;subst e1 e2;exact⟨hc _ _ p1,by rw[Nat.add_assoc];exact hc _ _ p3,q3,q4⟩
 .cases h
theorem ybor{v v':Value}{ps:List (List (Int×Int))}(h:portsOf m v=some ps)(hv:VR φ v v')(hR:Rel φ M w)(hs:Sub m M):ybbc w v' ps:=by
 unfold portsOf at h;split at h
 .rename_i l ft hl
  obtain⟨h1,h2⟩:=yks h;refine ypt hl hv hR hs (by rw[h1,zV]) (by decide) fun l' b off hl' hc j x hx=>?_
  obtain⟨u,q1,q2⟩:=h2 j x hx;obtain⟨u',p1,p2⟩:=hl'.get q1;exact⟨u',by rw[zV];exact hc _ _ p1,yiw q2 p2 hR hs⟩
 .cases h
theorem ylx {P:Program}{g:FuncId}{args:List Value}{v:Value}(hn:ypr P) (hg:∃fn c,P.funcs[g]?=some fn/\fn.body=some c)
 (h:∀φ M w args',Rel φ M w->Sub m M->VRL φ args args'->Calls P g args'.toArray w fun e w'=>∃v',e = .returned v'/\VR φ v v'/\Below w.heap.size w w'):ycb P (.call g args m) (.call v (enterM m)):=by
 intro hw;obtain⟨fn,c,h1,h2⟩:=hg;refine⟨⟨zN _,fun i b hb=>.inl ⟨b,hb⟩,fun i b _ _ hb=>hb,hw⟩,fun φ M w args' hR hs hv _=>.inl ⟨ybx hn h1 h2 _ _,(h φ M w args' hR hs hv).mono ?_⟩⟩;rintro e w' ⟨v',rfl,hvr,hb⟩;exact⟨v',rfl,φ,M,⟨φ.le_refl,fun _ _=>rfl,hR.keep fun k hk=>hb.block k hk,hs,fun _ _ _=>rfl,⟨hb.os,hb.tape,hb.output,hb.size,fun k hk _=>hb.block k hk,fun _ _ h=>h⟩⟩,hvr⟩
theorem yri:ypr zA:=by
 have h : Tryz.prog.funcs.all (fun fn => !(fn.name == "runtime.NumGoroutine")) = true := by kernel_rfl
 intro g fn hg _;have:=Array.all_eq_true_iff_forall_mem.1 h fn (zW hg)
 simpa using this
theorem mix:Tryz.prog.follows .mixedOrders=true:=by kernel_rfl
theorem ybut(args:List Value)(m:Mem)(out:Out)(h:evSymm symB m args=some out):ycb zA (.call 175 args m) out:=by
 unfold evSymm at h;split at h
 .rename_i v
  obtain⟨ps,hps,h2⟩:=yg h;obtain⟨hle,h3⟩:=ybd h2;cases h3
  refine ylx yri ⟨_,_,zAE,rfl⟩ fun φ M w args' hR hs hv=>?_;obtain⟨v',rfl,hvv⟩:=ygi hv;refine(yon v' ps w (ybor hps hvv hR hs) (zI hle)).mono ?_;rintro e w' ⟨rfl,hb⟩;exact⟨_,rfl,.simple rfl,hb⟩
 .cases h
end
end Ev
end
end Go.Proofs.YthclbjjgfcgbgaaGreatDoor
