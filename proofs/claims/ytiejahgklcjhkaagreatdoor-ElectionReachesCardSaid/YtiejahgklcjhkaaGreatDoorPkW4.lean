/- Joined. -/
import Derived.Lib.Hide
import Derived.Test.YtiejahgklcjhkaaGreatDoorRows
import Derived.WalkSpells
import Derived.BigQuiet
import Derived.Deep.LoopGhost
import Derived.Deep.OwnRows
import Derived.Test.YtiejahgklcjhkaaGreatDoorPkW1
set_option linter.unusedSimpArgs false
set_option linter.unusedVariables false
open List renaming getElem?_eq_getElem->zA,mem_of_getElem?->zH,eq_nil_of_length_eq_zero->zJ,getD->zM,take_length->zO,nodup_append->zW,findIdx?_eq_none_iff->zX,length_append->zAB,length_cons->zAE,mapIdx_cons->zAG,map_append->zAI,range->zAJ,find?_cons->zAK,replicate->zAL,map_cons->zAM,map_nil->zAN,range'->zAQ
open Go.Proofs.Tryz renaming prog->zB,underlying75->zN,underlying196->zU,underlying3->zAF,func153->zAP
open Go.Lib renaming hid->zC
open Go.Result renaming andThen_ok->zD
open Array renaming getElem?_setIfInBounds->zF,getElem?_modify->zQ,mem_of_getElem?->zAA,getElem_mem->zAC,mem_filter->zAH
open Go.Sem renaming run_bind->zG,run_pure->zI,run->zS
open Nat renaming le_refl->zK,le_of_ble_eq_true->zL,mul_one->zT,add_assoc->zV,add_mul->zAD,le_trans->zAO
open Option renaming getD_some->zY
open Bool renaming cond_eq_ite->zZ
open Int renaming toNat->zAR
open Go
namespace Go.Proofs.YtiejahgklcjhkaaGreatDoor
section
open Go.RowKit
def I64(n:Int):Prop:=-9223372036854775808<=n/\n<=9223372036854775807
abbrev Elem(α:Type):=World->Nat->Nat->α->Prop
def SlAt{α:Type}(size:Nat)(E:Elem α)(w:World)(v:Value)(xs:List α):Prop :=
 ∃ (A:Option Addr) (c:Nat),v = .slice A xs.length c/\xs.length<=c/\c<=9223372036854775807 /\
   (0<xs.length->∃b off,A=some ⟨b,off,none⟩/\b<w.heap.size/\∀j x,xs[j]?=some x->E w b (off+j*size) x)
def intE:Elem Int:=fun w b o x=>w.cell? ⟨b,o,none⟩=some (.int .i64 x)/\I64 x
def ydhg:Elem (Int×Int):=fun w b o x=>w.cell? ⟨b,o,none⟩=some (.int .i64 x.1)/\w.cell? ⟨b,o+1,none⟩=some (.int .i64 x.2)/\I64 x.1/\I64 x.2
def slE{α:Type}(size:Nat)(E:Elem α):Elem (List α):=fun w b o xs=>∃v,w.cell? ⟨b,o,none⟩=some v/\SlAt size E w v xs
def Stable{α:Type}(E:Elem α):Prop:=∀w w' b o x,(∀a v,w.cell? a=some v->w'.cell? a=some v)->w.heap.size<=w'.heap.size->E w b o x->E w' b o x
abbrev yki:=SlAt 1 intE
abbrev ybgg:=SlAt 2 ydhg
abbrev ybaq:=SlAt 1 (slE 2 ydhg)
abbrev ycjl:=SlAt 1 (slE 1 intE)
structure Gr where
 ids:List Int
 ports:List (List (Int×Int))
def GrAt(w:World)(v:Value)(g:Gr):Prop:=∃i p,v = .agg #[i,p]/\yki w i g.ids/\ybaq w p g.ports
section
variable {α:Type}{E:Elem α}{size:Nat}{w w':World}{v:Value}{xs:List α}
theorem Stable.int:Stable intE:=fun _ _ _ _ _ h _ hx=>⟨h _ _ hx.1,hx.2⟩
theorem Stable.link:Stable ydhg:=fun _ _ _ _ _ h _ hx=>⟨h _ _ hx.1,h _ _ hx.2.1,hx.2.2⟩
theorem SlAt.keep(hE:Stable E)(h:SlAt size E w v xs)(hk:∀a u,w.cell? a=some u->w'.cell? a=some u)(hs:w.heap.size<=w'.heap.size):SlAt size E w' v xs:=by
 obtain⟨A,c,h1,h2,h3,h4⟩:=h;refine⟨A,c,h1,h2,h3,fun hp=>?_⟩;obtain⟨b,off,rfl,hb,h5⟩:=h4 hp;exact⟨b,off,rfl,Nat.lt_of_lt_of_le hb hs,fun j x hx=>hE _ _ _ _ _ hk hs (h5 j x hx)⟩
theorem Stable.sl(hE:Stable E):Stable (slE size E):=by
 rintro w w' b o x h hs ⟨v,hc,hv⟩;exact⟨v,h _ _ hc,hv.keep hE h hs⟩
theorem yhk(hb:Below w.heap.size w w'):∀a u,w.cell? a=some u->w'.cell? a=some u :=
 fun a _ h=>(hb.cell (World.block_lt_of_cell? w a h)).trans h
theorem SlAt.below(hE:Stable E)(h:SlAt size E w v xs)(hb:Below w.heap.size w w'):SlAt size E w' v xs:=h.keep hE (yhk hb) hb.size
theorem SlAt.nil(w:World):SlAt size E w (.slice none 0 0) []:=⟨none,0,rfl,zK _,by omega,fun h=>absurd h (by simp)⟩
end
theorem GrAt.below{w w':World}{v:Value}{g:Gr}(h:GrAt w v g)(hb:Below w.heap.size w w'):GrAt w' v g:=by
 obtain⟨i,p,rfl,h1,h2⟩:=h;exact⟨i,p,rfl,h1.below Stable.int hb,h2.below (Stable.sl Stable.link) hb⟩
end
section
open Go.RowKit
theorem yur{k:IntKind}{a b:Int}(h:a=b):Ending.returned (.int k a) = .returned (.int k b):=by rw[h]
theorem ybj{a b:Bool}(h:a=b):Ending.returned (.bool a) = .returned (.bool b):=by rw[h]
theorem box2{w wr:World}{x y:Value}{t:TypeId}(h:Below (w.heap.size+1) (w.alloc (.cells #[x,y] t)) wr) :
 wr.cell? ⟨w.heap.size,0,none⟩=some x/\wr.cell? ⟨w.heap.size,1,none⟩=some y/\Below w.heap.size w wr/\w.heap.size<wr.heap.size:=by
 refine⟨(h.cell (by simp)).trans (by simp),(h.cell (by simp)).trans (by simp),?_,?_⟩
 .exact((Below.refl _ w).alloc (zK _) _).trans (h.mono (by omega))
 .have:=h.size;simp at this;omega
theorem below_drewN{B:Nat}{a w:World}(h:Below B a w)(n:Nat):Below B a (w.drewN n):=⟨h.os,h.tape,h.output,h.size,h.block⟩
theorem ywo{B:Nat}{a w:World}(h:Below B a w){n:Nat}{w':World}(e:w'=w.drewN n):Below B a w':=by subst e;exact below_drewN h n
theorem ydsu{w:World}{o:Obj}{a:Addr}{u:Value}(h:w.cell? a=some u):(w.alloc o).cell? a=some u:=(World.cell?_alloc_lt w o a (World.block_lt_of_cell? w a h)).trans h
theorem keepA{w w3:World}{o:Obj}(hb:Below (w.alloc o).heap.size (w.alloc o) w3):∀a u,w.cell? a=some u->w3.cell? a=some u:=fun a u h=>yhk hb a u (ydsu h)
theorem ylp{w w3:World}{o:Obj}(hb:Below (w.alloc o).heap.size (w.alloc o) w3):Below w.heap.size w w3:=((Below.refl _ w).alloc (zK _) o).trans (hb.mono (by simp))
theorem ybgc{w w3:World}{x y:Value}{t:TypeId}(hb:Below (w.alloc (.cells #[x,y] t)).heap.size (w.alloc (.cells #[x,y] t)) w3):w3.cell? ⟨w.heap.size,0,none⟩=some x/\w3.cell? ⟨w.heap.size,1,none⟩=some y :=
 ⟨yhk hb _ _ (by simp),yhk hb _ _ (by simp)⟩
theorem yki.at_{w:World}{v:Value}{xs:List Int}(h:yki w v xs){k:Nat}(hk:k<xs.length) :
 ∃b off c,v = .slice (some ⟨b,off,none⟩) xs.length c/\b<w.heap.size/\xs.length<=c/\c<=9223372036854775807/\w.cell? ⟨b,off+k,none⟩=some (.int .i64 xs[k])/\I64 xs[k]:=by
 obtain⟨A,c,rfl,h1,h2,h3⟩:=h;obtain⟨b,off,rfl,hb,h4⟩:=h3 (by omega)
 have:=h4 k xs[k] (zA hk);rw[zT]at this;exact⟨b,off,c,rfl,hb,h1,h2,this.1,this.2⟩
theorem ybp{α:Type}{size:Nat}{E:Elem α}{w:World}{v:Value}{xs:List α}(h:SlAt size E w v xs):∃A c,v = .slice A xs.length c/\xs.length<=c/\c<=9223372036854775807:=by
 obtain⟨A,c,rfl,h1,h2,_⟩:=h;exact⟨A,c,rfl,h1,h2⟩
end
section
def yhh(ls:List (Int×Int))(u:Int):Int:=match ls.findIdx? (fun l=>l.1==u)with|some i=>i|none=>-1
def yiu(v n:Int)(l:Int×Int):Prop:=0<=l.1/\l.1<=n-1/\l.1≠v/\1<=l.2/\l.2<=15
instance(v n:Int)(l:Int×Int):Decidable (yiu v n l):=by unfold yiu;infer_instance
def ycg(ls:List (Int×Int))(v n:Int):Prop:=(∀l∈ls,yiu v n l)/\(ls.map (·.1)).Nodup
instance(ls:List (Int×Int))(v n:Int):Decidable (ycg ls v n):=by unfold ycg;infer_instance
def ynm(ls:List (Int×Int))(v n:Int):Bool:=decide (ycg ls v n)
theorem take_snoc{α:Type}(l:List α)(k:Nat)(h:k<l.length):l.take (k+1)=l.take k++[l[k]]:=by
 rw[List.take_succ_eq_append_getElem h]
theorem yqs(ls:List (Int×Int))(v n:Int)(k:Nat)(h:k<ls.length) :
 ycg (ls.take (k+1)) v n↔ycg (ls.take k) v n/\yiu v n ls[k]/\∀j (hj:j<k),(ls[j]).1≠(ls[k]).1:=by
 unfold ycg;rw[take_snoc ls k h];simp only[List.mem_append,List.mem_singleton,zAI,zAM,zAN,zW];constructor
 .rintro⟨h1,h2,_,h3⟩;refine⟨⟨fun l hl=>h1 l (.inl hl),h2⟩,h1 _ (.inr rfl),fun j hj=>?_⟩;refine h3 _ ?_ _ (by simp)
  exact List.mem_map.2 ⟨ls[j],List.mem_take_iff_getElem.2 ⟨j,by omega,rfl⟩,rfl⟩
 .rintro⟨⟨h1,h2⟩,h3,h4⟩;refine⟨?_,h2,by simp,?_⟩
  .rintro l (hl|rfl)
   .exact h1 l hl
   .exact h3
  .intro a ha b hb;obtain⟨l,hl,rfl⟩:=List.mem_map.1 ha;obtain⟨j,hj,rfl⟩:=List.mem_take_iff_getElem.1 hl;subst hb;exact h4 j (by omega)
theorem yrv(ls:List (Int×Int))(v n:Int)(k:Nat)(h:ycg ls v n):ycg (ls.take k) v n:=by
 refine⟨fun l hl=>h.1 l (List.mem_of_mem_take hl),?_⟩;rw[List.map_take];exact h.2.sublist (List.take_sublist _ _)
theorem yvv(ls:List (Int×Int))(v n:Int)(k:Nat)(h:¬ycg (ls.take k) v n):ynm ls v n=false:=by
 unfold ynm;rw[decide_eq_false_iff_not];exact fun h'=>h (yrv ls v n k h')
theorem ywc(ls:List (Int×Int))(v n:Int)(h:ycg (ls.take ls.length) v n):ynm ls v n=true:=by
 unfold ynm;rw[zO]at h;exact decide_eq_true h
theorem ypk(ls:List (Int×Int))(u:Int)(k:Nat)(hk:k<ls.length)(h:ls[k].1=u)(hn:(ls.take k).findIdx? (fun l=>l.1==u)=none):yhh ls u=k:=by
 unfold yhh
 have:ls.findIdx? (fun l=>l.1==u)=some k:=by
  rw[List.findIdx?_eq_some_iff_getElem];refine⟨hk,by simp[h],fun j hj=>?_⟩
  rw[zX]at hn;have:=hn ls[j] (List.mem_take_iff_getElem.2 ⟨j,by omega,rfl⟩)
  simp[this]
 rw[this]
theorem yus(ls:List (Int×Int))(u:Int)(hn:(ls.take ls.length).findIdx? (fun l=>l.1==u)=none):yhh ls u = -1:=by
 rw[zO]at hn;unfold yhh;rw[hn]
theorem yrp(ls:List (Int×Int))(u:Int)(k:Nat)(hk:k<ls.length)(h:¬ls[k].1=u)(hn:(ls.take k).findIdx? (fun l=>l.1==u)=none):(ls.take (k+1)).findIdx? (fun l=>l.1==u)=none:=by
 rw[take_snoc ls k hk,List.findIdx?_append,hn];simp[h]
end
section
def ybe(g:Gr):Prop :=
 1 <= g.ports.length/\g.ports.length<=24/\g.ids.length=g.ports.length/\(∀x∈g.ids,0<=x/\x<=255)/\g.ids.Nodup /\
   (∀v:Fin g.ports.length,ycg g.ports[v] (v.1:Int) (g.ports.length:Int))/\(∀v:Fin g.ports.length,∀l∈g.ports[v],((v.1:Int),l.2)∈g.ports.getD l.1.toNat [])
instance(g:Gr):Decidable (ybe g):=by unfold ybe;infer_instance
def yco(g:Gr):Bool:=decide (ybe g)
theorem ych(g:Gr):yco g=true↔ybe g:=by simp[yco]
theorem ybgs(n:Nat)(l:List Int)(h:∀x∈l,0<=x/\x<n)(hn:l.Nodup):l.length<=n:=by
 have h1:(l.map zAR).Nodup:=by
  rw[List.Nodup,List.pairwise_map];refine(List.Pairwise.and_mem.1 hn).imp ?_;rintro a b ⟨ha,hb,hne⟩ e;have:=h a ha;have:=h b hb;exact hne (by omega)
 have h2:(l.map zAR) ⊆ zAJ n:=by
  intro x hx;obtain⟨y,hy,rfl⟩:=List.mem_map.1 hx;have:=h y hy;simp;omega
 have:=List.Nodup.length_le_of_subset h1 h2
 simpa using this
theorem ytp{ls:List (Int×Int)}{v n:Nat}(hv:v<n)(h:ycg ls (v:Int) (n:Int)):ls.length<n:=by
 have h1:((v:Int)::ls.map (·.1)).Nodup:=by
  rw[List.nodup_cons];refine⟨fun hm=>?_,h.2⟩;obtain⟨l,hl,e⟩:=List.mem_map.1 hm;exact(h.1 l hl).2.2.1 e
 have:=ybgs n ((v:Int)::ls.map (·.1)) (by
  intro x hx;rcases List.mem_cons.1 hx with rfl|hx
  .omega
  .obtain⟨l,hl,rfl⟩:=List.mem_map.1 hx;have:=h.1 l hl;unfold yiu at this;omega) h1
 simp at this;omega
def V2(g:Gr)(v:Nat):Prop:=∀x ls,g.ids[v]?=some x->g.ports[v]?=some ls ->
 (0<=x/\x<=255)/\ls.length<g.ports.length/\ynm ls (v:Int) (g.ports.length:Int)=true/\∀u y,u<v->g.ids[u]?=some y->y≠x
def V3(g:Gr)(v i:Nat):Prop:=∀ls l,g.ports[v]?=some ls->ls[i]?=some l ->
 ∃ls':List (Int×Int),∃k:Nat,∃l':Int×Int,g.ports[l.1.toNat]?=some ls'/\yhh ls' (v:Int)=k/\ls'[k]?=some l'/\l'.2=l.2
theorem ybaz{ls:List (Int×Int)}{u x:Int}(hn:(ls.map (·.1)).Nodup)(h:(u,x)∈ls):∃k:Nat,yhh ls u=k/\ls[k]?=some (u,x):=by
 obtain⟨k,hk,e⟩:=List.mem_iff_getElem.1 h;refine⟨k,?_,by rw[zA hk,e]⟩
 refine ypk ls u k hk (by rw[e]) ?_
 rw[zX];intro l hl;obtain⟨j,hj,rfl⟩:=List.mem_take_iff_getElem.1 hl;simp only[beq_eq_false_iff_ne];intro he;have hjk:j<k:=by omega
 have:=(List.pairwise_iff_getElem.1 hn) j k (by simp;omega) (by simpa using hk) hjk
 simp[he,e]at this
theorem ybia{ls:List (Int×Int)}{u:Int}{k:Nat}(h:yhh ls u=k):∃l,ls[k]?=some l/\l.1=u:=by
 unfold yhh at h;split at h
 .rename_i i hi
  obtain rfl:i=k:=by omega
  obtain⟨hlt,hx,_⟩:=List.findIdx?_eq_some_iff_getElem.1 hi;exact⟨_,zA hlt,by simpa using hx⟩
 .omega
theorem ynh{ls:List (Int×Int)}{u:Int}:yhh ls u = -1\/∃k:Nat,yhh ls u=k/\k<ls.length:=by
 unfold yhh;split
 .rename_i i hi
  obtain⟨hlt,hx,_⟩:=List.findIdx?_eq_some_iff_getElem.1 hi;exact .inr ⟨i,rfl,hlt⟩
 .exact .inl rfl
theorem ybe.v2{g:Gr}(h:ybe g){v:Nat}(hv:v<g.ports.length):V2 g v:=by
 obtain⟨h1,h2,h3,h4,h5,h6,h7⟩:=h;intro x ls hx hls;have hl:=h6 ⟨v,hv⟩;obtain⟨hv',e⟩:=List.getElem?_eq_some_iff.1 hls;simp only[Fin.getElem_fin,e]at hl;refine⟨h4 x (zH hx),ytp hv hl,decide_eq_true hl,fun u y hu hy he=>?_⟩;subst he;obtain⟨a1,a2⟩:=List.getElem?_eq_some_iff.1 hx;obtain⟨b1,b2⟩:=List.getElem?_eq_some_iff.1 hy;exact(List.pairwise_iff_getElem.1 h5) u v b1 a1 hu (by rw[a2,b2])
theorem ybe.v3{g:Gr}(h:ybe g){v i:Nat}(hv:v<g.ports.length):V3 g v i:=by
 obtain⟨h1,h2,h3,h4,h5,h6,h7⟩:=h;intro ls l hls hl;obtain⟨hv',e⟩:=List.getElem?_eq_some_iff.1 hls;have hm:=h7 ⟨v,hv⟩ l (by simp only[Fin.getElem_fin,e];exact zH hl)
 have hlk:=(h6 ⟨v,hv⟩).1 l (by simp only[Fin.getElem_fin,e];exact zH hl)
 unfold yiu at hlk;have hto:l.1.toNat<g.ports.length:=by omega
 have hls':g.ports[l.1.toNat]?=some g.ports[l.1.toNat]:=zA hto;have hl':=h6 ⟨l.1.toNat,hto⟩;simp only[zM,hls',zY]at hm;obtain⟨k,hk1,hk2⟩:=ybaz (ls:=g.ports[l.1.toNat]) hl'.2 hm;exact⟨_,k,_,hls',hk1,hk2,rfl⟩
theorem ybe.of{g:Gr}(h1:1<=g.ports.length)(h2:g.ports.length<=24)(h3:g.ids.length=g.ports.length)(hv2:∀v,v<g.ports.length->V2 g v)(hv3:∀v i,v<g.ports.length->V3 g v i):ybe g:=by
 refine⟨h1,h2,h3,?_,?_,?_,?_⟩
 .intro x hx;obtain⟨k,hk,rfl⟩:=List.mem_iff_getElem.1 hx;exact(hv2 k (by omega) _ _ (zA hk) (zA (by omega))).1
 .rw[List.Nodup,List.pairwise_iff_getElem];intro i j hi hj hij;exact(hv2 j (by omega) _ _ (zA hj) (zA (by omega))).2.2.2 i _ hij (zA hi)
 .rintro⟨v,hv⟩;have:=(hv2 v hv _ _ (zA (by omega)) (zA hv)).2.2.1
  simpa[ynm]using this
 .rintro⟨v,hv⟩ l hl;obtain⟨i,hi,rfl⟩:=List.mem_iff_getElem.1 hl;obtain⟨ls',k,l',e1,e2,e3,e4⟩:=hv3 v i hv _ _ (zA hv) (zA hi);obtain⟨l2,f1,f2⟩:=ybia e2;rw[e3]at f1;cases f1
  simp only[zM,e1,zY];obtain⟨a,b⟩:=l';simp only at f2 e4;rw[<-e4,<-f2];exact zH e3
theorem yuu{g:Gr}{v:Nat}(hv:v<g.ports.length)(h:¬V2 g v):yco g=false:=by
 unfold yco;rw[decide_eq_false_iff_not];exact fun hg=>h (hg.v2 hv)
theorem ytv{g:Gr}{v i:Nat}(hv:v<g.ports.length)(h:¬V3 g v i):yco g=false:=by
 unfold yco;rw[decide_eq_false_iff_not];exact fun hg=>h (hg.v3 hv)
theorem yej{g:Gr}(h:¬(1<=g.ports.length/\g.ports.length<=24/\g.ids.length=g.ports.length)):yco g=false:=by
 unfold yco;rw[decide_eq_false_iff_not];exact fun hg=>h ⟨hg.1,hg.2.1,hg.2.2.1⟩
end
section
open Go.RowKit
theorem yfv{α:Type}{size:Nat}{E:Elem α}{w:World}{A:Option Addr}{c n:Nat}{xs:List (List α)}(h:SlAt 1 (slE size E) w (.slice A n c) xs){k:Nat}{ls:List α}(hk:xs[k]?=some ls) :
 ∃b off v,A=some ⟨b,off,none⟩/\b<w.heap.size/\w.cell? ⟨b,off+k,none⟩=some v/\SlAt size E w v ls:=by
 obtain⟨A',c',e,h1,h2,h3⟩:=h;cases e
 have hlt:=(List.getElem?_eq_some_iff.1 hk).1;obtain⟨b,off,rfl,hb,h4⟩:=h3 (by omega)
 obtain⟨v,hc,hv⟩:=h4 k ls hk;rw[zT]at hc;exact⟨b,off,v,rfl,hb,hc,hv⟩
theorem yft{w:World}{A:Option Addr}{c n:Nat}{xs:List Int}(h:yki w (.slice A n c) xs){k:Nat}(hk:k<xs.length) :
 ∃b off,A=some ⟨b,off,none⟩/\b<w.heap.size/\w.cell? ⟨b,off+k,none⟩=some (.int .i64 xs[k])/\I64 xs[k]:=by
 obtain⟨b,off,c',e,hb,_,_,hc,hi⟩:=h.at_ hk;cases e
 exact⟨b,off,rfl,hb,hc,hi⟩
end
section
open Go.RowKit
def IBlk(w:World)(g:Nat)(R:List Int):Prop:=w.heap[g]?=some (.cells (R.map (Value.int .i64)).toArray 3 (0,0))
section
variable {w w':World}{g:Nat}{R:List Int}
theorem IBlk.lt(h:IBlk w g R):g<w.heap.size:=(Array.getElem?_eq_some_iff.1 h).1
theorem IBlk.cell(h:IBlk w g R){k:Nat}(hk:k<R.length):w.cell? ⟨g,k,none⟩=some (.int .i64 R[k]):=by
 simp[World.cell?,show w.heap[g]?=_ from h,hk]
theorem IBlk.frozen(h:IBlk w g R)(k:Nat):w.frozen? ⟨g,k,none⟩=false:=by simp[World.frozen?,show w.heap[g]?=_ from h]
theorem IBlk.set_(h:IBlk w g R)(k:Nat)(x:Int):IBlk (w.setCell ⟨g,k,none⟩ (.int .i64 x)) g (R.set k x):=by
 have h':w.heap[g]?=_:=h;unfold IBlk;simp[World.setCell,zQ,h',List.map_set]
theorem IBlk.far(h:IBlk w g R){p:Addr}(hp:g≠p.block)(u:Value):IBlk (w.setCell p u) g R:=(Below.heap_setCell w p u g hp).trans h
theorem IBlk.alloc(h:IBlk w g R)(o:Obj):IBlk (w.alloc o) g R:=(Below.heap_alloc w o g h.lt).trans h
theorem IBlk.drewN(h:IBlk w g R)(n:Nat):IBlk (w.drewN n) g R:=h
theorem IBlk.drew(h:IBlk w g R):IBlk w.drew g R:=h
theorem IBlk.below{B:Nat}(h:IBlk w g R)(hb:Below B w w')(hg:g<B):IBlk w' g R:=(hb.block g hg).trans h
theorem IBlk.grown{row:Option Nat}(h:IBlk w g R)(hb:w.grownBy w' row)(hg:some g≠row):IBlk w' g R:=(hb.block g h.lt hg).trans h
theorem IBlk.ints(h:IBlk w g R)(hR:∀x∈R,I64 x)(hl:R.length<=1000000):yki w (.slice (some ⟨g,0,none⟩) R.length R.length) R:=by
 refine⟨_,_,rfl,zK _,by omega,fun hp=>⟨g,0,rfl,h.lt,fun j x hx=>?_⟩⟩
 obtain⟨hj,e⟩:=List.getElem?_eq_some_iff.1 hx;refine⟨?_,hR x (zH hx)⟩;rw[zT,Nat.zero_add,h.cell hj,e]
end
def Owns(w:World)(base:Nat)(e:TypeId)(size:Nat)(v:Value)(n:Nat)(xs:List Value):Prop :=
 xs.length=n*size/\((v = .slice none 0 0/\n=0)\/∃g off cap cur,v = .slice (some ⟨g,off,none⟩) n cap/\base<=g/\w.heap[g]?=some (.cells cur e (0,0))/\n<=cap/\cap<=maxLen /\
  off+cap*size<=cur.size/\∀j u,xs[j]?=some u->cur[off+j]?=some u)
section
variable {w w':World}{base:Nat}{e:TypeId}{size:Nat}{v:Value}{n:Nat}{xs:List Value}
theorem Owns.of_row(h:w.ownsRow base e size v n xs):Owns w base e size v n xs:=by
 obtain⟨h1,h2⟩:=h;refine⟨h1,h2.imp id ?_⟩;rintro⟨g,cap,cur,hv,hb,hh,hn,hc,hs,ht⟩;refine⟨g,0,cap,cur,hv,hb,hh,hn,hc,by omega,fun j u hu=>?_⟩
 rw[<-ht,List.getElem?_take]at hu;split at hu
 .simpa using hu
 .cases hu
theorem Owns.nil(w:World)(base:Nat)(e:TypeId)(size:Nat):Owns w base e size (.slice none 0 0) 0 []:=⟨by simp,.inl ⟨rfl,rfl⟩⟩
theorem Owns.keep(h:Owns w base e size v n xs)(hk:∀g,v.ownBlock=some g->w'.heap[g]?=w.heap[g]?):Owns w' base e size v n xs:=by
 obtain⟨h1,h2⟩:=h;refine⟨h1,h2.imp id ?_⟩;rintro⟨g,off,cap,cur,rfl,hb,hh,r⟩;exact⟨g,off,cap,cur,rfl,hb,by rw[hk g rfl];exact hh,r⟩
theorem Owns.lt(h:Owns w base e size v n xs){g:Nat}(hg:v.ownBlock=some g):base<=g/\g<w.heap.size:=by
 rcases h.2 with⟨rfl,_⟩|⟨g',off,cap,cur,rfl,hb,hh,_⟩
 .simp[Value.ownBlock]at hg
 .obtain rfl:g'=g:=by simpa[Value.ownBlock]using hg
  exact⟨hb,(Array.getElem?_eq_some_iff.1 hh).1⟩
theorem Owns.alloc(h:Owns w base e size v n xs)(o:Obj):Owns (w.alloc o) base e size v n xs:=h.keep fun g hg=>Below.heap_alloc w o g (h.lt hg).2
theorem Owns.drewN(h:Owns w base e size v n xs)(k:Nat):Owns (w.drewN k) base e size v n xs:=h
theorem Owns.far(h:Owns w base e size v n xs){p:Addr}(hp:v.ownBlock≠some p.block)(u:Value):Owns (w.setCell p u) base e size v n xs :=
 h.keep fun g hg=>Below.heap_setCell w p u g (fun e'=>hp (by rw[hg,e']))
theorem Owns.low(h:Owns w base e size v n xs){p:Addr}(hp:p.block<base)(u:Value):Owns (w.setCell p u) base e size v n xs :=
 h.far (fun e'=>by have:=(h.lt e').1;omega) u
theorem Owns.drew(h:Owns w base e size v n xs):Owns w.drew base e size v n xs:=h
theorem Owns.form(h:Owns w base e size v n xs)(hn:0<n):∃g off cap,v = .slice (some ⟨g,off,none⟩) n cap/\base<=g/\g<w.heap.size/\n<=cap/\cap<=maxLen/\∀j u,xs[j]?=some u->w.cell? ⟨g,off+j,none⟩=some u:=by
 rcases h.2 with⟨rfl,h0⟩|⟨g,off,cap,cur,rfl,hb,hh,h1,h2,h3,h4⟩
 .omega
 .exact⟨g,off,cap,rfl,hb,(Array.getElem?_eq_some_iff.1 hh).1,h1,h2,fun j u hu=>by simp[World.cell?,hh,h4 j u hu]⟩
theorem Owns.val(h:Owns w base e size v n xs):∃A c,v = .slice A n c:=by
 rcases h.2 with⟨rfl,rfl⟩|⟨g,off,cap,cur,rfl,_⟩
 .exact⟨_,_,rfl⟩
 .exact⟨_,_,rfl⟩
theorem Owns.cut1{a:Addr}{c:Nat}(h:Owns w base e size (.slice (some a) n c) n xs)(hn:0<n){k:Nat}(hk:k<=n) :
 Owns w base e size (.slice (some (if c=k then a else a.add (k*size))) (n-k) (c-k)) (n-k) (xs.drop (k*size)):=by
 obtain⟨h1,h2⟩:=h;refine⟨by rw[List.length_drop,h1,Nat.sub_mul],.inr ?_⟩
 rcases h2 with⟨e,_⟩|⟨g,off,cap,cur,e,hb,hh,hc,hm,hs,hx⟩
 .cases e
 .injection e with e1 e2 e3
  injection e1 with e1
  subst e1 e3
  by_cases hck:c=k
  .subst hck;obtain rfl:n=c:=by omega
   refine⟨g,off,0,cur,by simp,hb,hh,by omega,by omega,by omega,fun j u hu=>?_⟩
   rw[List.drop_eq_nil_of_le (by omega)]at hu
   simp at hu
  .have hsz:off+k*size+(c-k)*size<=cur.size:=by
    rw[zV,<-zAD,show k+(c-k)=c by omega]
    exact hs
   refine⟨g,off+k*size,c-k,cur,?_,hb,hh,by omega,by simp only[maxLen]at hm ⊢;omega,hsz,fun j u hu=>?_⟩
   .rw[if_neg hck,Addr.add_lit]
   .rw[List.getElem?_drop]at hu;rw[zV];exact hx _ u hu
theorem Owns.store1{g off cap:Nat}(h:Owns w base e 1 (.slice (some ⟨g,off,none⟩) n cap) n xs){k:Nat}(hk:k<n)(u:Value):Owns (w.setCell ⟨g,off+k,none⟩ u) base e 1 (.slice (some ⟨g,off,none⟩) n cap) n (xs.set k u):=by
 obtain⟨h1,h2⟩:=h;refine⟨by simpa using h1,.inr ?_⟩
 rcases h2 with⟨e',_⟩|⟨g',off',cap',cur,e',hb,hh,hc,hm,hs,hx⟩
 .cases e'
 .injection e' with e1 e2 e3
  injection e1 with e1
  injection e1 with e4 e5
  subst e3 e4 e5;refine⟨g,off,cap,cur.setIfInBounds (off+k) u,rfl,hb,by simp[World.setCell,zQ,hh],hc,hm,by simpa using hs,fun j v hj=>?_⟩
  rw[zF];rw[List.getElem?_set]at hj
  by_cases hjk:k=j
  .subst hjk;rw[if_pos rfl]at hj ⊢;rw[if_pos (by omega)]
   rw[if_pos (by omega)]at hj
   exact hj
  .rw[if_neg (by omega)]
   rw[if_neg hjk]at hj;exact hx j v hj
theorem Owns.frozen{g off cap:Nat}(h:Owns w base e size (.slice (some ⟨g,off,none⟩) n cap) n xs)(k:Nat):w.frozen? ⟨g,k,none⟩=false:=by
 rcases h.2 with⟨e',_⟩|⟨g',off',cap',cur,e',hb,hh,_⟩
 .cases e'
 .injection e' with e1 e2 e3
  injection e1 with e1
  injection e1 with e4 e5
  subst e4;simp[World.frozen?,hh]
theorem Owns.ints{R:List Int}(h:Owns w base e 1 v n (R.map (Value.int .i64)))(hR:∀x∈R,I64 x):yki w v R:=by
 have hl:R.length=n:=by have:=h.1;simpa using this
 rcases h.2 with⟨rfl,hn⟩|⟨g,off,cap,cur,rfl,hb,hh,hc,hm,hs,hx⟩
 .subst hn;obtain rfl:R=[]:=zJ hl;exact SlAt.nil _
 .refine⟨_,cap,by rw[hl],by omega,by simp only[maxLen]at hm;omega,fun _=>⟨g,off,rfl,(Array.getElem?_eq_some_iff.1 hh).1,fun j x hj=>⟨?_,hR x (zH hj)⟩⟩⟩
  have:=hx j (.int .i64 x) (by simp[hj])
  simp[World.cell?,hh,this]
theorem ychw{P:Program}{t:TypeId}(ht:P.underlying t=some (.slice e)){i:TypeInfo}(hi:P.info? e=some i)(hsize:i.size=size)(h:Owns w base e size v n xs){k:Nat}(hk:k<=n)(hn:0<n) :
 ∃v',(∀W,(Instr.slice t v (some (.int .i64 (k:Int))) none none).run P W = .ok v' W)/\Owns w base e size v' (n-k) (xs.drop (k*size))/\v'.ownBlock=v.ownBlock:=by
 obtain⟨g,off,cap,rfl,hg,_,hc,hm,_⟩:=h.form hn;refine⟨_,?_,h.cut1 hn hk,by simp only[Value.ownBlock];split<;>simp[Addr.add_lit]⟩
 intro W;have h1:¬((n:Int)<(k:Int)):=by omega
 simp[Instr.slice,Instr.sliceBounds,Instr.sliceBound,asIntOf,run_underlying ht,sizeOf,typeInfo,hi,hsize,hk,go_sem];split<;>simp
end
theorem yni(b:Nat):∀(vs:List Value) (o:Nat) (w:World) (k:Nat),k≠b->(w.setCells b o vs).heap[k]?=w.heap[k]?
 |[],_,_,_,_=>rfl
 | v::vs,o,w,k,h=>by
   show((w.setCell ⟨b,o,none⟩ v).setCells b (o+1) vs).heap[k]?=_;rw[yni b vs (o+1) _ k h,Below.heap_setCell w ⟨b,o,none⟩ v k h]
theorem yjr(b:Nat)(e:TypeId):∀(vs:List Value) (o:Nat) (w:World) (cur:Array Value),w.heap[b]?=some (.cells cur e (0,0))->o+vs.length<=cur.size ->
 ∃cur',(w.setCells b o vs).heap[b]?=some (.cells cur' e (0,0))/\cur'.size=cur.size/\(∀j,j<o->cur'[j]?=cur[j]?)/\∀j u,vs[j]?=some u->cur'[o+j]?=some u
 |[],o,w,cur,h,_=>⟨cur,h,rfl,fun _ _=>rfl,fun j u hu=>by simp at hu⟩
 | v :: vs,o,w,cur,h,hl=>by
   simp only[zAE]at hl;have h1:(w.setCell ⟨b,o,none⟩ v).heap[b]?=some (.cells (cur.setIfInBounds o v) e (0,0)):=by simp[World.setCell,zQ,h]
   obtain⟨cur',g1,g2,g3,g4⟩:=yjr b e vs (o+1) (w.setCell ⟨b,o,none⟩ v) (cur.setIfInBounds o v) h1 (by simp;omega)
   refine⟨cur',g1,by rw[g2];simp,fun j hj=>?_,fun j u hu=>?_⟩
   .rw[g3 j (by omega),zF,if_neg (by omega)]
   .cases j with
    | zero =>
      rw[g3 _ (by omega),Nat.add_zero,zF,if_pos rfl,if_pos (by omega)]
      simpa using hu
    |succ j=>rw[show o+(j+1)=o+1+j by omega];exact g4 j u (by simpa using hu)
theorem size_setCells(b:Nat):∀(vs:List Value) (o:Nat) (w:World),(w.setCells b o vs).heap.size=w.heap.size
 |[],_,_=>rfl
 |v::vs,o,w=>by show((w.setCell ⟨b,o,none⟩ v).setCells b (o+1) vs).heap.size=_;rw[size_setCells b vs];simp
theorem yjn(b:Nat):∀(vs:List Value) (o:Nat) (w:World),(w.setCells b o vs).os=w.os/\(w.setCells b o vs).tape=w.tape/\(w.setCells b o vs).output=w.output
 |[],_,_=>⟨rfl,rfl,rfl⟩
 | v::vs,o,w=>by
   have:=yjn b vs (o+1) (w.setCell ⟨b,o,none⟩ v);exact⟨this.1,this.2.1,this.2.2⟩
section
variable {P:Program}(w:World)
theorem yug (base:Nat) (t ty e:TypeId) (i:TypeInfo) (z:Value) (size bytes:Nat) (ht:P.underlying t=some (.slice e)) (hi:P.info? e=some i) (hz:i.zero=some z)
 (hsize:i.size=size) (hby:i.bytes=bytes) (hzs:z.cells.size=size) (hsz:0<size)
 (v:Value) (n:Nat) (xs:List Value) (hown:Owns w base e size v n xs)
 (a:Addr) (m c:Nat) (news:List Value) (hl:news.length=m*size) (hnews:∀j u,news[j]?=some u->w.cell? (a.add j)=some u) (h1:∀u∈news,u.oneCell'=true)
 (h63:n+m<=maxLen) (hbytes:(n+m)*bytes<=140737488355328) (hbase:base<=w.heap.size) :
 ∃ v' w',(Builtin.append_ #[t,t] ty #[v,.slice (some a) m c]).run P w = .ok v' w'/\Owns w' base e size v' (n+m) (xs++news)/\w.grownBy w' v.ownBlock /\
   (v'.ownBlock=v.ownBlock\/v'.ownBlock=some w.heap.size):=by
 rcases hown.2 with⟨rfl,rfl⟩|⟨g,off,cap,cur,rfl,hb,hh,hn,hc,hs,hx⟩
 .obtain rfl:xs=[]:=zJ (by simpa using hown.1)
  obtain⟨v',w',hrun,h2,h3,_,h5⟩:=run_append_own_at (P:=P) w base t ty e i z size bytes ht hi hz hsize hby hzs hsz (.slice none 0 0) 0 [] (World.ownsRow_nil w base e size) a m c news hl hnews h1 h63 hbytes hbase;exact⟨v',w',hrun,Owns.of_row h2,h3,h5⟩
 .by_cases hr:n+m<=cap
  .subst hsize
   have hfit:off+n*i.size+news.length<=cur.size:=by
    rw[hl,zV,<-zAD];exact zAO (Nat.add_le_add_left (Nat.mul_le_mul_right _ hr) _) hs
   have hcell:∀j,j<news.length->w.cell? ⟨g,off+n*i.size+j,none⟩=some (cur[off+n*i.size+j]!):=fun j hj=>by
    have:off+n*i.size+j<cur.size:=by omega
    simp[World.cell?,hh,this]
   have hrun:=run_append_room_cells (P:=P) w t ty e i ht hi g off n cap a m c news hl hnews h1 hr (fun j hj=>by rw[hcell j hj];rfl) (fun j _=>by simp[World.frozen?,hh])
   obtain⟨cur',g1,g2,g3,g4⟩:=yjr g e news (off+n*i.size) w cur hh hfit;have hst:=yjn g news (off+n*i.size) w;refine⟨_,_,hrun,⟨by rw[zAB,hown.1,hl,zAD],.inr ⟨g,off,cap,cur',rfl,hb,g1,hr,hc,by rw[g2];exact hs,fun j u hu=>?_⟩⟩,⟨hst.1,hst.2.1,hst.2.2,by rw[size_setCells];exact zK _,fun k _ hk=>?_⟩,.inl rfl⟩
   .by_cases hj:j<xs.length
    .rw[List.getElem?_append_left hj]at hu;rw[g3 _ (by have:=hown.1;omega)]
     exact hx j u hu
    .rw[List.getElem?_append_right (by omega)]at hu
     have:=g4 _ u hu;rw[<-this];congr 1;have:=hown.1;omega
   .exact yni g news _ w k (fun e'=>hk (by simp[Value.ownBlock,e']))
  .have holds:∀j u,xs[j]?=some u->w.cell? ((⟨g,off,none⟩:Addr).add j)=some u:=fun j u hu=>by
    rw[Addr.add_lit];simp[World.cell?,hh,hx j u hu]
   obtain⟨v',w',hrun,r1,r2⟩:=run_append_arg_grows (P:=P) w t ty e i z size bytes ht hi hz hsize hby hzs hsz ⟨g,off,none⟩ n cap xs hown.1 holds a m c news hl hnews (by omega) h63 hbytes
   refine⟨v',w',hrun,?_,⟨r2.os,r2.tape,r2.output,r2.size,fun k hk _=>r2.block k hk (by simp)⟩,?_⟩
   .have:=Owns.of_row r1;obtain⟨q1,q2⟩:=this;refine⟨q1,q2.imp id ?_⟩;rintro⟨g',off',cap',cur',a1,a2,a3⟩;exact⟨g',off',cap',cur',a1,zAO hbase a2,a3⟩
   .subst hsize;subst hby;have hr2:=run_append_grow (P:=P) w t ty e i z ht hi hz ⟨g,off,none⟩ n cap xs hown.1 holds a m c news hl hnews (by omega) (by simp only[maxLen]at h63;omega) (growslice_fits (by omega) hbytes)
    rw[hr2]at hrun
    injection hrun with e1 _
    subst e1;exact .inr rfl
theorem ywl {o:Oper}{a:Act}{K:Act->World->Prop}{Q:Exit->Act->World->Prop}(s x:Operand) (t:TypeId)
 (ho:o.op = .call { callee:=.builtin .append,args:=#[s,x],argTypes:=#[t,t] })
 (base:Nat) (e:TypeId) (i:TypeInfo) (z:Value) (size bytes:Nat) (ht:P.underlying t=some (.slice e)) (hi:P.info? e=some i) (hz:i.zero=some z)
 (hsize:i.size=size) (hby:i.bytes=bytes) (hzs:z.cells.size=size) (hsz:0<size)
 (v:Value) (n:Nat) (xs:List Value) (hs:a.eval s=v) (hown:Owns w base e size v n xs)
 (ad:Addr) (m c:Nat) (news:List Value) (hx:a.eval x = .slice (some ad) m c) (hl:news.length=m*size) (hnews:∀j u,news[j]?=some u->w.cell? (ad.add j)=some u) (h1:∀u∈news,u.oneCell'=true)
 (h63:n+m<=maxLen) (hbytes:(n+m)*bytes<=140737488355328) (hbase:base<=w.heap.size)
 (h:∀v' w',Owns w' base e size v' (n+m) (xs++news)->w.grownBy w' v.ownBlock->(v'.ownBlock=v.ownBlock\/v'.ownBlock=some w.heap.size)->K (a.put o.dst v') w'):o.wp P a w K Q:=by
 obtain⟨v',w',hr,h2,h3,h4⟩:=yug (P:=P) w base t o.type e i z size bytes ht hi hz hsize hby hzs hsz v n xs hown ad m c news hl hnews h1 h63 hbytes hbase;unfold Oper.wp execOp;simp only[ho,resolve,invoke,builtin,zG,zI,zD,List.map_toArray,zAM,zAN,hs,hx,hr];exact h v' w' h2 h3 h4
theorem yhs {ops:Array Oper}{rest:List Oper}{o:Oper}{a:Act}{Q:Exit->Act->World->Prop}(hgd:o.guard=none) (s x:Operand) (t:TypeId)
 (ho:o.op = .call { callee:=.builtin .append,args:=#[s,x],argTypes:=#[t,t] })
 (base:Nat) (e:TypeId) (i:TypeInfo) (z:Value) (size bytes:Nat) (ht:P.underlying t=some (.slice e)) (hi:P.info? e=some i) (hz:i.zero=some z)
 (hsize:i.size=size) (hby:i.bytes=bytes) (hzs:z.cells.size=size) (hsz:0<size)
 (v:Value) (n:Nat) (xs:List Value) (hs:a.eval s=v) (hown:Owns w base e size v n xs)
 (ad:Addr) (m c:Nat) (news:List Value) (hx:a.eval x = .slice (some ad) m c) (hl:news.length=m*size) (hnews:∀j u,news[j]?=some u->w.cell? (ad.add j)=some u) (h1:∀u∈news,u.oneCell'=true)
 (h63:n+m<=maxLen) (hbytes:(n+m)*bytes<=140737488355328) (hbase:base<=w.heap.size)
 (h:∀v' w',Owns w' base e size v' (n+m) (xs++news)->w.grownBy w' v.ownBlock->(v'.ownBlock=v.ownBlock\/v'.ownBlock=some w.heap.size)->wpList P ops Q rest (a.put o.dst v') w'):wpList P ops Q (o::rest) a w :=
 wpList_plain hgd fun _ hK=>ywl w s x t ho base e i z size bytes ht hi hz hsize hby hzs hsz v n xs hs hown ad m c news hx hl hnews h1 h63 hbytes hbase fun v' w' h2 h3 h4=>hK _ _ (h v' w' h2 h3 h4)
end
theorem yzj:(Tryz.prog.info? 3).map (fun i=>(i.zero,i.size,i.bytes))=some (some (.int .i64 0),1,8):=by kernel_rfl
theorem ybba(n:Nat):madeCells #[Value.int .i64 0] n=((zAL n (0:Int)).map (Value.int .i64)).toArray:=by
 apply Array.ext
 .simp[madeCells]
 .intro i h1 h2;simp[madeCells,Nat.mod_one]
theorem ybbq(n:Nat)(hn:n<=1000000)(w:World):(Instr.makeSlice 22 (.int .i64 (n:Int)) (.int .i64 (n:Int))).run zB w =
 .ok (.slice (some ⟨w.heap.size,0,none⟩) n n) (w.alloc (.cells ((zAL n (0:Int)).map (Value.int .i64)).toArray 3)):=by
 rw[<-ybba];exact run_make_row' 22 3 (.int .i64 0) 8 Tryz.underlying22 yzj rfl .i64 .i64 n (by omega) (by omega) w
theorem IBlk.new(w:World)(R:List Int):IBlk (w.alloc (.cells (R.map (Value.int .i64)).toArray 3)) w.heap.size R:=heap_alloc_new w _
theorem ybml{w:World}{v:Value}{t:TypeId}{g:Nat}(hg:g=w.heap.size):∀j u,[v][j]?=some u->((w.alloc (.cells #[v] t)).cell? ((⟨g,0,none⟩:Addr).add j))=some u:=by
 intro j u hu;subst hg;cases j with
 |zero=>simp at hu;subst hu;rw[Addr.add_lit];simp
 |succ j=>simp at hu
def ybtl(D:List Int)(w:World)(e:Ending)(w':World):Prop:=∃v,e = .returned v/\yki w' v D/\Below w.heap.size w w'
end
section
open Go.RowKit
theorem yta(w:World)(cs:Array Value)(k:Nat)(v:Value)(h:cs[k]?=some v):(part 3 cs k).run zB w = .ok v w:=by
 simp[part,h]
theorem ybfs(d:Nat)(a b:Int)(w:World):(Op.equalIn (d+1) 3 (.int .i64 a) (.int .i64 b)).run zB w = .ok (a==b) w:=by
 simp[Op.equalIn,run_underlying zAF]
theorem ybdg(n:Nat)(a b c d:Int)(w:World):(Op.equalIn (n+2) 75 (.agg #[.int .i64 a,.int .i64 b]) (.agg #[.int .i64 c,.int .i64 d])).run zB w = .ok (a==c&&b==d) w:=by
 have h:=ybfs n;have p0:∀x y w,(part 3 #[x,y] 0).run zB w = .ok x w:=fun x y w=>yta w _ 0 x rfl;have p1:∀x y w,(part 3 #[x,y] 1).run zB w = .ok y w:=fun x y w=>yta w _ 1 y rfl;unfold Op.equalIn;simp[run_underlying zN,Std.Legacy.Range.forIn_eq_forIn_range',Std.Legacy.Range.size,zAQ,p0,p1,h]
 by_cases h1:a=c<;>by_cases h2:b=d<;>simp[h1,h2]
theorem ybnb(a b c d:Int)(w:World):(Op.equal 75 (.agg #[.int .i64 a,.int .i64 b]) (.agg #[.int .i64 c,.int .i64 d])).run zB w = .ok (a==c&&b==d) w :=
 ybdg 9998 a b c d w
abbrev Tri:=Int×Int×Int
def ent(i:Nat)(p:Tri):MapEntry:={ key:=.agg #[.int .i64 p.1,.int .i64 p.2.1],val:=.int .i64 p.2.2,born:=i }
def ents(L:List Tri):Array MapEntry:=(L.mapIdx ent).toArray
def hit(x y:Int)(p:Tri):Bool:=x==p.1&&y==p.2.1
def PMap(w:World)(b:Nat)(L:List Tri):Prop:=w.heap[b]?=some (.map (ents L) L.length)
theorem ylx(x y:Int)(w:World):∀(L:List Tri) (f:Nat->Tri->MapEntry) (_:∀i p,(f i p).key = .agg #[.int .i64 p.1,.int .i64 p.2.1]/\(f i p).val = .int .i64 p.2.2) (i:Nat),
 ∃r,(Instr.findAsking 75 (.agg #[.int .i64 x,.int .i64 y]) (L.mapIdx f) i).run zB w = .ok r w/\(∀p,L.find? (hit x y)=some p->∃j,r=some (j,.int .i64 p.2.2))/\(L.find? (hit x y)=none->r=none)
 |[],f,_,i=>⟨none,by simp[Instr.findAsking],by simp,fun _=>rfl⟩
 | p :: L,f,hf,i=>by
   obtain⟨r,h1,h2,h3⟩:=ylx x y w L (fun i=>f (i+1)) (fun i p=>hf (i+1) p) (i+1);rw[zAG];simp only[Instr.findAsking,zG,(hf 0 p).1,(hf 0 p).2,ybnb,zD]
   by_cases hh:hit x y p=true
   .refine⟨some (i,.int .i64 p.2.2),?_,?_,?_⟩
    .have:(x==p.1&&y==p.2.1)=true:=hh;rw[this];simp
    .intro q hq;simp[hh]at hq;subst hq;exact⟨i,rfl⟩
    .intro hq;simp[hh]at hq
   .have hf':hit x y p=false:=by simpa using hh
    refine⟨r,?_,?_,?_⟩
    .have:(x==p.1&&y==p.2.1)=false:=hf';rw[this]
     simpa using h1
    .intro q hq;simp only[zAK,hf']at hq;exact h2 q hq
    .intro hq;simp only[zAK,hf']at hq;exact h3 hq
theorem run_findKey(x y:Int)(w:World)(L:List Tri) :
 ∃r,(Instr.findKey 75 (.agg #[.int .i64 x,.int .i64 y]) (ents L).toList).run zB w = .ok r w/\(∀p,L.find? (hit x y)=some p->∃j,r=some (j,.int .i64 p.2.2))/\(L.find? (hit x y)=none->r=none):=by
 obtain⟨r,h1,h2⟩:=ylx x y w L ent (fun i p=>⟨rfl,rfl⟩) 0;refine⟨r,?_,h2⟩;unfold ents;cases L with
 | nil =>
   simp[Instr.findAsking]at h1;subst h1;simp[Instr.findKey,run_underlying zN,Instr.findNow]
 | cons p L =>
   rw[zAG]at h1 ⊢;simp only[Instr.findKey,zG,run_underlying zN,zD,Instr.findNow,ent,Instr.sameNow];exact h1
theorem ybfi(e:Bool)(n:Nat)(a:Int)(w:World):(Instr.checkKey e (n+1) 3 (.int .i64 a)).run zB w = .ok () w:=by
 unfold Instr.checkKey;simp[run_underlying zAF]
theorem run_checkKey(e:Bool)(x y:Int)(w:World):(Instr.checkKey e 10000 75 (.agg #[.int .i64 x,.int .i64 y])).run zB w = .ok () w:=by
 have h:∀a w,(Instr.checkKey e 9999 3 (.int .i64 a)).run zB w = .ok () w:=fun a w=>ybfi e 9998 a w;have p0:∀x y w,(part 3 #[x,y] 0).run zB w = .ok x w:=fun x y w=>yta w _ 0 x rfl;have p1:∀x y w,(part 3 #[x,y] 1).run zB w = .ok y w:=fun x y w=>yta w _ 1 y rfl;unfold Instr.checkKey;simp[run_underlying zN,Std.Legacy.Range.forIn_eq_forIn_range',Std.Legacy.Range.size,zAQ,p0,p1,h]
def yox(L:List Tri)(x y:Int):Int:=((L.find? (hit x y)).map (·.2.2)).getD 0
def ygy(L:List Tri)(x y:Int):Bool:=(L.find? (hit x y)).isSome
theorem ybhs{w:World}{b:Nat}{L:List Tri}(h:PMap w b L)(x y:Int)(c:Bool) :
 (Instr.lookup 196 (.map (some b)) (.agg #[.int .i64 x,.int .i64 y]) c).run zB w = .ok (if c then .tuple #[.int .i64 (yox L x y),.bool (ygy L x y)]else .int .i64 (yox L x y)) w:=by
 obtain⟨r,h1,h2,h3⟩:=run_findKey x y w L;have hb:w.heap[b]?=_:=h;simp only[Instr.lookup,zG,run_underlying zU,zD,getObj,zS,hb,run_checkKey,h1,zI];unfold yox ygy;cases hf:L.find? (hit x y)with
 | none =>
   rw[h3 hf];cases c<;>simp
 | some p =>
   obtain⟨j,rfl⟩:=h2 p hf;cases c<;>simp
theorem ybuq(L:List Tri)(p:Tri):ents (L++[p])=(ents L).push (ent L.length p):=by
 unfold ents;rw[List.mapIdx_append];simp
theorem ywn{w:World}{b:Nat}{L:List Tri}(h:PMap w b L)(x y z:Int)(hn:ygy L x y=false) :
 (Instr.mapUpdate 196 (.map (some b)) (.agg #[.int .i64 x,.int .i64 y]) (.int .i64 z)).run zB w = .ok () { w with heap:=w.heap.setIfInBounds b (.map (ents (L++[(x,y,z)])) (L.length+1)) }:=by
 obtain⟨r,h1,_,h3⟩:=run_findKey x y w L;have hb:w.heap[b]?=_:=h
 have hf:L.find? (hit x y)=none:=by
  unfold ygy at hn
  simpa using hn
 rw[h3 hf]at h1;simp only[Instr.mapUpdate,zG,run_underlying zU,zD,getObj,zS,hb,run_checkKey,h1,setObj,ybuq,ent]
def World.setMap(w:World)(b:Nat)(L:List Tri):World:={ w with heap:=w.heap.setIfInBounds b (.map (ents L) L.length) }
theorem PMap.lt{w:World}{b:Nat}{L:List Tri}(h:PMap w b L):b<w.heap.size:=(Array.getElem?_eq_some_iff.1 h).1
theorem PMap.alloc{w:World}{b:Nat}{L:List Tri}(h:PMap w b L)(o:Obj):PMap (w.alloc o) b L:=(Below.heap_alloc w o b h.lt).trans h
theorem PMap.below{w w':World}{B b:Nat}{L:List Tri}(h:PMap w b L)(hb:Below B w w')(hB:b<B):PMap w' b L:=(hb.block b hB).trans h
theorem PMap.drewN{w:World}{b:Nat}{L:List Tri}(h:PMap w b L)(n:Nat):PMap (w.drewN n) b L:=h
theorem PMap.set{w:World}{b:Nat}{L:List Tri}(h:PMap w b L)(L':List Tri):PMap (World.setMap w b L') b L':=by
 unfold PMap World.setMap;rw[zF,if_pos rfl,if_pos h.lt]
theorem Below.setMap{B:Nat}{a w:World}(h:Below B a w){b:Nat}(hb:B<=b)(L:List Tri):Below B a (World.setMap w b L) :=
 h.trans ⟨rfl,rfl,rfl,by simp[World.setMap],fun k hk=>by
  show(w.heap.setIfInBounds b _)[k]?=_;rw[zF,if_neg (by omega)]⟩
theorem ygv {P:Program}{w w':World}{ops:Array Oper}{rest:List Oper}{o:Oper}{a:Act}{Q:Exit->Act->World->Prop}(hgd:o.guard=none) (v:Value)
 (hrun:(execOp a.eval o).run P w = .ok (.value v) w') (h:wpList P ops Q rest (a.put o.dst v) w'):wpList P ops Q (o::rest) a w :=
 wpList_plain hgd fun K hK=>by unfold Oper.wp;rw[hrun];exact hK _ _ h
theorem yfq {w:World}{ops:Array Oper}{rest:List Oper}{o:Oper}{a:Act}{Q:Exit->Act->World->Prop}(hgd:o.guard=none) (m k:Operand) (c:Bool) (ho:o.op = .lookup 196 m k c)
 (b:Nat) (x y:Int) (hm:a.eval m = .map (some b)) (hk:a.eval k = .agg #[.int .i64 x,.int .i64 y]) (L:List Tri) (hL:PMap w b L)
 (h:wpList zB ops Q rest (a.put o.dst (if c then .tuple #[.int .i64 (yox L x y),.bool (ygy L x y)]else .int .i64 (yox L x y))) w):wpList zB ops Q (o::rest) a w:=by
 refine ygv hgd _ ?_ h;unfold execOp;simp only[ho,hm,hk,zG,ybhs hL,zD,zI]
theorem ypw {w:World}{ops:Array Oper}{rest:List Oper}{o:Oper}{a:Act}{Q:Exit->Act->World->Prop}(hgd:o.guard=none) (m k v:Operand) (ho:o.op = .mapUpdate 196 m k v) (hd:o.dst=none)
 (b:Nat) (x y z:Int) (hm:a.eval m = .map (some b)) (hk:a.eval k = .agg #[.int .i64 x,.int .i64 y]) (hv:a.eval v = .int .i64 z) (L:List Tri) (hL:PMap w b L) (hn:ygy L x y=false)
 (h:wpList zB ops Q rest a (World.setMap w b (L++[(x,y,z)]))):wpList zB ops Q (o::rest) a w:=by
 refine wpList_plain hgd fun K hK=>?_;unfold Oper.wp execOp;simp only[ho,hm,hk,hv,zG,ywn hL x y z hn,zD,zI];have:=hK a _ h
 simpa[Oper.upon,Act.put,hd,World.setMap]using this
end
section
open Go.RowKit
def ymm(w:World)(r b:Nat)(L:List Tri)(seen:List Nat):Prop:=w.heap[r]?=some (.mapIter (some b) L.length seen.toArray L.length)
theorem ybol{w:World}{b:Nat}{L:List Tri}(h:PMap w b L) :
 (Instr.range 196 (.map (some b))).run zB w = .ok (.pointer (some ⟨w.heap.size,0,none⟩)) (w.alloc (.mapIter (some b) L.length #[] L.length)):=by
 have hb:w.heap[b]?=_:=h;simp only[Instr.range,zG,run_underlying zU,zD,getObj,zS,hb,zI,newObj];rfl
theorem yol(L:List Tri)(i:Nat):(ents L)[i]?=(L[i]?).map (ent i):=by simp[ents]
theorem ybjy{L:List Tri}{e:MapEntry}(h:e∈ents L):∃i p,L[i]?=some p/\e=ent i p:=by
 obtain⟨i,hi⟩:=Array.mem_iff_getElem?.1 h;rw[yol]at hi;obtain⟨p,hp,rfl⟩:=Option.map_eq_some_iff.1 hi;exact⟨i,p,hp,rfl⟩
theorem ydgl{L:List Tri}{i:Nat}{p:Tri}(h:L[i]?=some p):ent i p∈ents L:=by
 apply zAA (i:=i);rw[yol,h];rfl
def World.stepIter(w:World)(m r b:Nat)(L:List Tri)(seen:List Nat):World:={ w.drewN m with heap:=w.heap.setIfInBounds r (.mapIter (some b) L.length seen.toArray L.length) }
theorem ybvn{w:World}{r b:Nat}{L:List Tri}{seen:List Nat}(h:PMap w b L)(hi:ymm w r b L seen)(ty:TypeId) :
 (∃m,(Instr.next (.pointer (some ⟨r,0,none⟩)) false ty).run zB w = .ok (.tuple #[.bool false]) (w.drewN m)/\∀i,i<L.length->i∈seen) \/
 ∃m i p,L[i]?=some p/\i∉seen/\(Instr.next (.pointer (some ⟨r,0,none⟩)) false ty).run zB w = .ok (.tuple #[.bool true,(ent i p).key,(ent i p).val]) (World.stepIter w m r b L (seen++[i])):=by
 have hb:w.heap[b]?=_:=h;have hr:w.heap[r]?=_:=hi;have hlt:r<w.heap.size:=(Array.getElem?_eq_some_iff.1 hr).1
 have hall:(!seen.toArray.isEmpty && !(ents L).isEmpty&&(ents L).all (fun x=>decide (x.born>=L.length)))=false:=by
  cases L with
  |nil=>simp[ents]
  | cons p L =>
    have:(ents (p::L)).all (fun x=>decide (x.born>=(p::L).length))=false:=by
     rw[Array.all_eq_false];exact⟨0,by simp[ents],by simp[ents,ent]⟩
    rw[this];simp
 have hold:∀left:Array MapEntry,(∀e∈left,e∈ents L)->left.filter (fun x=>decide (x.born<L.length))=left/\left.filter (fun x=>decide (x.born>=L.length)) = #[]:=by
  intro left hl
  have hborn:∀e∈left,e.born<L.length:=by
   intro e he;obtain⟨i,p,hp,rfl⟩:=ybjy (hl e he);exact(List.getElem?_eq_some_iff.1 hp).1
  constructor
  .rw[Array.filter_eq_self];exact fun e he=>decide_eq_true (hborn e he)
  .rw[Array.filter_eq_empty_iff];intro e he;have:=hborn e he;simp;omega
 obtain⟨left,hleft⟩:∃left,(ents L).filter (fun e=>!seen.toArray.contains e.born)=left:=⟨_,rfl⟩
 have hsub:∀e∈left,e∈ents L/\e.born∉seen:=by
  intro e he;rw[<-hleft,zAH]at he;exact⟨he.1,by simpa using he.2⟩
 obtain⟨o1,o2⟩:=hold left (fun e he=>(hsub e he).1)
 have hnext:(Instr.next (.pointer (some ⟨r,0,none⟩)) false ty).run zB w =
  ((choose (.mapNext ((if left.isEmpty then #[none]else #[])++(left ++ #[]).map some).size)).run zB w).andThen fun j w' =>
    (match ((if left.isEmpty then #[none]else #[])++(left ++ #[]).map some)[j]? with
      |some (some e)=>(do setObj r (.mapIter (some b) L.length (seen.toArray.push e.born) L.length);pure (.tuple #[.bool true,e.key,e.val]):Sem Value)
      |some none=>pure (.tuple #[.bool false])
      | none => stuck "Next: no such candidate").run zB w' := by
  simp only[Instr.next,zG,getObj,zS,hr,hb,zD,hall,hleft,o1,o2]
  rw[if_neg (by simp)]
  simp only[zG];rfl
 rw[hnext]
 by_cases hem:left = #[]
 .subst hem;refine .inl ⟨0,by simp[choose,zS,Question.forced,World.drewN],fun i hi=>?_⟩
  by_cases hs:i∈seen
  .exact hs
  .have:ent i L[i]∈(#[]:Array MapEntry):=by
    rw[<-hleft,zAH];exact⟨ydgl (zA hi),by simpa[ent]using hs⟩
   simp at this
 .right
  have hne:left.isEmpty=false:=by simpa using hem
  have hpos:0<left.size:=Array.size_pos_iff.2 hem;have hcs:((if left.isEmpty then #[none]else #[])++(left ++ #[]).map some)=left.map some:=by simp[hne]
  rw[hcs]
  obtain⟨j,m,hj,hch⟩:∃j m,j<left.size/\(choose (.mapNext (left.map some).size)).run zB w = .ok j (w.drewN m):=by
   by_cases h1:left.size<=1
   .exact⟨0,0,hpos,by simp[choose,zS,Question.forced,h1,World.drewN]⟩
   .exact⟨_,1,Nat.mod_lt _ hpos,by simp[choose,zS,Question.forced,h1,World.drewN,Question.cut];rfl⟩
  rw[hch];obtain⟨i,p,hp,he⟩:=ybjy (hsub left[j] (zAC hj)).1;have hns:=(hsub left[j] (zAC hj)).2;rw[he]at hns;refine⟨m,i,p,hp,hns,?_⟩;have hr':(w.drewN m).heap[r]?=_:=hr;have hm:(left.map some)[j]?=some (some (ent i p)):=by simp[hj,he]
  simp only[zD,hm,zG,setObj,zS,hr',zI];simp[World.stepIter,ent,World.drewN]
theorem ybmr{w:World}{r b:Nat}{L:List Tri}{seen:List Nat}{i:Nat}{p:Tri}(h:PMap w b L)(hi:ymm w r b L (seen++[i]))(hp:L[i]?=some p) :
 (Instr.entry (.pointer (some ⟨r,0,none⟩))).run zB w = .ok (.tuple #[(ent i p).key,(ent i p).val]) w:=by
 have hb:w.heap[b]?=_:=h;have hr:w.heap[r]?=_:=hi;have hback:(seen++[i]).toArray.back?=some i:=by simp
 have hfind:(ents L).find? (fun x=>x.born==i)=some (ent i p):=by
  rw[Array.find?_eq_some_iff_getElem];obtain⟨hlt,e⟩:=List.getElem?_eq_some_iff.1 hp;refine⟨by simp[ent],i,by simpa[ents]using hlt,by simp[ents,e],fun j hj=>?_⟩
  simp[ents,ent];omega
 simp only[Instr.entry,zG,getObj,zS,hr,hb,zD,hback,hfind];simp
theorem yyt {w:World}{ops:Array Oper}{rest:List Oper}{o:Oper}{a:Act}{Q:Exit->Act->World->Prop}(hgd:o.guard=none) (x:Operand) (ho:o.op = .range 196 x)
 (b:Nat) (hx:a.eval x = .map (some b)) (L:List Tri) (hL:PMap w b L)
 (h:wpList zB ops Q rest (a.put o.dst (.pointer (some ⟨w.heap.size,0,none⟩))) (w.alloc (.mapIter (some b) L.length #[] L.length))):wpList zB ops Q (o::rest) a w:=by
 refine ygv hgd _ ?_ h;unfold execOp;simp only[ho,hx,zG,ybol hL,zD,zI]
theorem ybfc {w:World}{ops:Array Oper}{rest:List Oper}{o:Oper}{a:Act}{Q:Exit->Act->World->Prop}(hgd:o.guard=none) (x:Operand) (ho:o.op = .next x false)
 (r b:Nat) (hx:a.eval x = .pointer (some ⟨r,0,none⟩)) (L:List Tri) (seen:List Nat) (hL:PMap w b L) (hI:ymm w r b L seen)
 (hend:∀m,(∀i,i<L.length->i∈seen)->wpList zB ops Q rest (a.put o.dst (.tuple #[.bool false])) (w.drewN m))
 (hgo:∀m i p,L[i]?=some p->i∉seen->wpList zB ops Q rest (a.put o.dst (.tuple #[.bool true,.agg #[.int .i64 p.1,.int .i64 p.2.1],.int .i64 p.2.2])) (World.stepIter w m r b L (seen++[i]))):wpList zB ops Q (o::rest) a w:=by
 rcases ybvn hL hI o.type with⟨m,hr,h1⟩|⟨m,i,p,h1,h2,hr⟩
 .refine ygv hgd _ ?_ (hend m h1);unfold execOp;simp only[ho,hx,zG,hr,zD,zI]
 .refine ygv hgd _ ?_ (hgo m i p h1 h2);unfold execOp;simp only[ho,hx,zG,hr,zD,zI,ent]
theorem yor {w:World}{ops:Array Oper}{rest:List Oper}{o:Oper}{a:Act}{Q:Exit->Act->World->Prop}(hgd:o.guard=none) (x:Operand) (ho:o.op = .entry x)
 (r b:Nat) (hx:a.eval x = .pointer (some ⟨r,0,none⟩)) (L:List Tri) (seen:List Nat) (i:Nat) (p:Tri) (hL:PMap w b L) (hI:ymm w r b L (seen++[i])) (hp:L[i]?=some p)
 (h:wpList zB ops Q rest (a.put o.dst (.tuple #[.agg #[.int .i64 p.1,.int .i64 p.2.1],.int .i64 p.2.2])) w):wpList zB ops Q (o::rest) a w:=by
 refine ygv hgd _ ?_ h;unfold execOp;simp only[ho,hx,zG,ybmr hL hI hp,zD,zI,ent]
section
variable {w:World}{r b:Nat}{L:List Tri}{seen seen':List Nat}
theorem ymm.lt(h:ymm w r b L seen):r<w.heap.size:=(Array.getElem?_eq_some_iff.1 h).1
theorem ymm.alloc(h:ymm w r b L seen)(o:Obj):ymm (w.alloc o) r b L seen:=(Below.heap_alloc w o r h.lt).trans h
theorem ymm.step(h:ymm w r b L seen)(m:Nat):ymm (World.stepIter w m r b L seen') r b L seen':=by
 unfold ymm World.stepIter;show(w.heap.setIfInBounds r _)[r]?=_;rw[zF,if_pos rfl,if_pos h.lt]
theorem PMap.step{b':Nat}{L':List Tri}(h:PMap w b' L')(hne:b'≠r)(m:Nat):PMap (World.stepIter w m r b L seen') b' L':=by
 unfold PMap World.stepIter;show(w.heap.setIfInBounds r _)[b']?=_;rw[zF,if_neg (by omega)]
 exact h
theorem Below.stepIter{B:Nat}{a:World}(h:Below B a w)(hr:B<=r)(m:Nat):Below B a (World.stepIter w m r b L seen') :=
 h.trans ⟨rfl,rfl,rfl,by simp[World.stepIter],fun k hk=>by
  show(w.heap.setIfInBounds r _)[k]?=_;rw[zF,if_neg (by omega)]⟩
end
end
section
abbrev yjz:=List (List (Int×Int))
def ycdw(ports:yjz):Prop :=
 (∀v:Fin ports.length,ycg ports[v] (v.1:Int) (ports.length:Int))/\(∀v:Fin ports.length,∀l∈ports[v],((v.1:Int),l.2)∈ports.getD l.1.toNat [])
instance(ports:yjz):Decidable (ycdw ports):=by unfold ycdw;infer_instance
def symB(ports:yjz):Bool:=decide (ycdw ports)
def tri(v:Nat)(l:Int×Int):Tri:=((v:Int),l.1,l.2)
def ygd(ports:yjz)(v:Nat):List Tri:=((zAJ v).map (fun u=>(ports.getD u []).map (tri u))).flatten
def yhd(ports:yjz)(v i:Nat):List Tri:=ygd ports v++((ports.getD v []).take i).map (tri v)
theorem ybgt(ports:yjz)(v:Nat):ygd ports (v+1)=ygd ports v++(ports.getD v []).map (tri v):=by
 simp[ygd,List.range_succ]
theorem ybge(ports:yjz)(v:Nat):yhd ports v 0=ygd ports v:=by simp[yhd]
theorem ybig(ports:yjz)(v i:Nat)(ls:List (Int×Int))(hls:ports[v]?=some ls)(hi:i<ls.length):yhd ports v (i+1)=yhd ports v i++[((v:Int),ls[i].1,ls[i].2)]:=by
 have e:ports.getD v []=ls:=by simp[zM,hls]
 unfold yhd;rw[e,take_snoc ls i hi,zAI,List.append_assoc];rfl
theorem ybji(ports:yjz)(v:Nat)(ls:List (Int×Int))(hls:ports[v]?=some ls):yhd ports v ls.length=ygd ports (v+1):=by
 have e:ports.getD v []=ls:=by simp[zM,hls]
 rw[ybgt];unfold yhd;rw[e,zO]
theorem yij{ports:yjz}{v:Nat}{p:Tri}:p∈ygd ports v↔∃u,u<v/\∃l∈ports.getD u [],p=tri u l:=by
 unfold ygd;simp only[List.mem_flatten,List.mem_map,List.mem_range];constructor
 .rintro⟨q,⟨u,hu,rfl⟩,hp⟩;obtain⟨l,hl,rfl⟩:=List.mem_map.1 hp;exact⟨u,hu,l,hl,rfl⟩
 .rintro⟨u,hu,l,hl,rfl⟩;exact⟨_,⟨u,hu,rfl⟩,List.mem_map.2 ⟨l,hl,rfl⟩⟩
theorem ybgo{L:List Tri}{x y:Int}:ygy L x y=true↔∃p∈L,p.1=x/\p.2.1=y:=by
 unfold ygy;rw[List.find?_isSome];constructor
 .rintro⟨p,hp,h⟩;simp[hit]at h;exact⟨p,hp,h.1.symm,h.2.symm⟩
 .rintro⟨p,hp,rfl,rfl⟩;exact⟨p,hp,by simp[hit]⟩
theorem ylw{ports:yjz}{v i:Nat}{ls:List (Int×Int)}(hls:ports[v]?=some ls){y:Int}:ygy (yhd ports v i) (v:Int) y=true↔∃l∈ls.take i,l.1=y:=by
 have e:ports.getD v []=ls:=by simp[zM,hls]
 rw[ybgo];unfold yhd;rw[e];constructor
 .rintro⟨p,hp,h1,h2⟩;rcases List.mem_append.1 hp with hp|hp
  .obtain⟨u,hu,l,hl,rfl⟩:=yij.1 hp;simp[tri]at h1;omega
  .obtain⟨l,hl,rfl⟩:=List.mem_map.1 hp;exact⟨l,hl,h2⟩
 .rintro⟨l,hl,rfl⟩;exact⟨tri v l,List.mem_append_right _ (List.mem_map.2 ⟨l,hl,rfl⟩),rfl,rfl⟩
theorem yse{ports:yjz}{v k:Nat}{ls:List (Int×Int)}(hls:ports[v]?=some ls)(h:¬ycg (ls.take k) (v:Int) (ports.length:Int)):symB ports=false:=by
 unfold symB;rw[decide_eq_false_iff_not];intro hs;obtain⟨hv,e⟩:=List.getElem?_eq_some_iff.1 hls;have:=hs.1 ⟨v,hv⟩;simp only[Fin.getElem_fin,e]at this;exact h (yrv _ _ _ _ this)
def ysj(ports:yjz):Prop:=∀(v:Nat) ls,ports[v]?=some ls->ycg ls (v:Int) (ports.length:Int)
theorem ybdd{ports:yjz}(ha:ysj ports){v:Nat}{ls:List (Int×Int)}(hls:ports[v]?=some ls){l:Int×Int}(hl:l∈ls) :
 yox (ygd ports ports.length) l.1 (v:Int)=l.2↔((v:Int),l.2)∈ports.getD l.1.toNat []:=by
 have hlk:=(ha v ls hls).1 l hl;unfold yiu at hlk;have hto:l.1.toNat<ports.length:=by omega
 have hgd:ports[l.1.toNat]?=some (ports.getD l.1.toNat []):=by simp[zM,zA hto]
 unfold yox;cases hf:(ygd ports ports.length).find? (hit l.1 (v:Int))with
 | none =>
   simp only[Option.map_none,Option.getD_none];constructor
   .intro e;omega
   .intro hm
    exfalso
    rw[List.find?_eq_none]at hf;refine hf (tri l.1.toNat ((v:Int),l.2)) (yij.2 ⟨_,hto,_,hm,rfl⟩) ?_;simp[hit,tri];omega
 | some q =>
   have hq:=List.mem_of_find?_eq_some hf;have hh:=List.find?_some hf;simp[hit]at hh;obtain⟨u,hu,l',hl',rfl⟩:=yij.1 hq;simp only[tri]at hh ⊢;obtain⟨h1,h2⟩:=hh;have hul:u=l.1.toNat:=by omega
   subst hul;simp only[Option.map_some,zY]
   generalize ports.getD l.1.toNat []=ls' at hgd hl' ⊢
   constructor
   .intro e
    have:l'=((v:Int),l.2):=by
     obtain⟨a,b⟩:=l';simp only at e h2;rw[h2,e]
    rw[<-this];exact hl'
   .intro hm;have hnd:=(ha _ _ hgd).2;obtain⟨i,hi,e1⟩:=List.mem_iff_getElem.1 hl';obtain⟨j,hj,e2⟩:=List.mem_iff_getElem.1 hm
    have hij:i=j:=by
     rcases Nat.lt_trichotomy i j with h|h|h
     .have h3:=(List.pairwise_iff_getElem.1 hnd) i j (by simpa using hi) (by simpa using hj) h
      simp[e1,e2,h2]at h3
     .exact h
     .have h3:=(List.pairwise_iff_getElem.1 hnd) j i (by simpa using hj) (by simpa using hi) h
      simp[e1,e2,h2]at h3
    subst hij;rw[e1]at e2;rw[e2]
theorem ywg{ports:yjz}(ha:ysj ports){p:Tri}(hp:p∈ygd ports ports.length)(hv:yox (ygd ports ports.length) p.2.1 p.1≠p.2.2):symB ports=false:=by
 obtain⟨u,hu,l,hl,rfl⟩:=yij.1 hp;have hls:ports[u]?=some (ports.getD u []):=by simp[zM,zA hu]
 unfold symB;rw[decide_eq_false_iff_not];intro hs;refine hv ((ybdd ha hls hl).2 ?_);have:=hs.2 ⟨u,hu⟩ l (by simpa[zM,zA hu]using hl)
 exact this
theorem ybsm{ports:yjz}(ha:ysj ports)(h:∀p∈ygd ports ports.length,yox (ygd ports ports.length) p.2.1 p.1=p.2.2):symB ports=true:=by
 refine decide_eq_true ⟨?_,?_⟩
 .rintro⟨v,hv⟩;exact ha v _ (zA hv)
 .rintro⟨v,hv⟩ l hl;have hls:ports[v]?=some ports[v]:=zA hv;refine(ybdd ha hls hl).1 (h (tri v l) (yij.2 ⟨v,hv,l,?_,rfl⟩))
  simpa[zM,hls]using hl
end
section
open Go.RowKit
theorem ybcr{ls:List (Int×Int)}{v n:Int}(h:ycg (ls.take ls.length) v n):ycg ls v n:=by rwa [zO]at h
set_option maxHeartbeats 2000000 in
theorem ymq (pv:Value)(ports:yjz)(w:World)(hp:ybaq w pv ports)(hn:ports.length<=1000) :
 Calls zB 153 #[pv] w fun e w'=>e = .returned (.bool (symB ports))/\Below w.heap.size w w':=by
 obtain⟨A2,c2,rfl,hB1,hB2⟩:=ybp hp;have Hp:=zC hp
 clear hp
 have hmm:=@run_makeMap zB
 go_enter zAP,Tryz.ntmps153
 go_wp2
 clear hmm
 go_loopg [16] ports.length (fun q t wr=>∃v:Nat,q+v=ports.length/\t = .int .i64 v/\Hid (Below w.heap.size w wr)/\Hid (PMap wr w.heap.size (ygd ports v))/\Hid (∀(u:Nat) ls,u<v->ports[u]?=some ls->ycg ls u ports.length))
 case atStart=>exact⟨0,by omega,rfl,zC ((Below.refl _ _).alloc (zK _) _),zC (heap_alloc_new w _),zC (fun u ls hu=>absurd hu (by omega))⟩
 case round =>
  obtain⟨v,hq,rfl,hbel,hmap,hlk⟩:=hrel
  by_cases hlt:v<ports.length
  .obtain⟨b2,off2,lv,rfl,hb2,hcl,hls⟩:=yfv Hp.out (zA hlt);obtain⟨A3,c3,rfl,hl1,hl2⟩:=ybp hls;have hcl':=yhk hbel.out _ _ hcl
   clear hcl
   obtain⟨ls,hle⟩:∃ls,ports[v]=ls:=⟨_,rfl⟩;have Hlp:=zC (show ports[v]?=some ls by rw[zA hlt,hle])
   rw[hle]at hls hcl' hl1;have Hls:=zC hls
   clear hls hle
   go_wp2
   obtain⟨go,rfl⟩:∃go,go=gk:=⟨_,rfl⟩
   go_loopg [23] ls.length (fun q t wr=>∃i:Nat,q+i=ls.length/\t = .int .i64 i/\Hid (Below w.heap.size w wr)/\Hid (PMap wr w.heap.size (yhd ports v i))/\Hid (ycg (ls.take i) v ports.length))
   case atStart=>exact⟨0,by omega,rfl,hbel,zC (by rw[ybge];exact hmap.out),zC ⟨by simp,by simp⟩⟩
   case round =>
    clear hbel hmap hcl'
    obtain⟨i,hqi,rfl,hbel,hmap,hok⟩:=hrel;have hmlt:w.heap.size<wr.heap.size:=hmap.out.lt
    by_cases hil:i<ls.length
    .obtain⟨A4,c4,e4,_,_,hE⟩:=Hls.out.below Stable.link hbel.out;cases e4
     obtain⟨b3,off3,rfl,hb3,hE⟩:=hE (by omega)
     obtain⟨⟨l1,wt⟩,hle⟩:∃l,ls[i]=l:=⟨_,rfl⟩;have hl?:ls[i]?=some (l1,wt):=by rw[zA hil,hle]
     obtain⟨hx1,hx2,⟨hr1,hr2⟩,⟨hr3,hr4⟩⟩:=hE i _ hl?;simp only at hx1 hx2 hr1 hr2 hr3 hr4;have hsn:=yqs ls v ports.length i hil;rw[hle]at hsn;have Hsn:=zC hsn;have Hbad:=zC (fun h=>yse (ports:=ports) (v:=v) (k:=i+1) Hlp.out h);have Hsc:=zC (ybig ports v i ls Hlp.out hil);rw[hle]at Hsc;have HE:=zC hE;have Hle:=zC hle
     clear hE hl? hle hsn
     by_cases c1:0<=l1/\l1<=ports.length-1
     .obtain⟨c1a,c1b⟩:=c1
      by_cases c2:l1=v
      .have c2':(l1==(v:Int))=true:=by simp[c2]
       have Hf:=zC (Hbad.out (fun h=>((Hsn.out.1 h).2.1).2.2.1 c2))
       clear c2
       go_wp2
       go_ret
       exact⟨ybj Hf.out.symm,(hbel.out.alloc (by omega) _)⟩
      .have c2':(l1==(v:Int))=false:=by simp[c2]
       have Hc2:=zC c2
       clear c2
       by_cases c3:1<=wt/\wt<=15
       .obtain⟨c3a,c3b⟩:=c3
        by_cases c4:ygy (yhd ports v i) v l1=true
        .have Hf:=zC (Hbad.out (fun h=>by
          obtain⟨l,hl,e⟩:=(ylw Hlp.out).1 c4;obtain⟨j,hj,rfl⟩:=List.mem_take_iff_getElem.1 hl;exact(Hsn.out.1 h).2.2 j (by omega) e))
         go_wp2_with (at_lookup;refine yfq rfl _ _ _ rfl w.heap.size (v:Int) l1 rfl (by rfl) (yhd ports v i) ((hmap.out.alloc _).alloc _) ?_)
         go_ret
         exact⟨ybj Hf.out.symm,((hbel.out.alloc (by omega) _).alloc (by simp;omega) _)⟩
        .have c4':ygy (yhd ports v i) v l1=false:=by simpa using c4
         have Hnew:=zC (show ycg (ls.take (i+1)) v ports.length from Hsn.out.2 ⟨hok.out,⟨c1a,by simpa using c1b,Hc2.out,c3a,c3b⟩,fun j hj e=>c4 ((ylw Hlp.out).2 ⟨ls[j],List.mem_take_iff_getElem.2 ⟨j,by omega,rfl⟩,e⟩)⟩)
         clear c4
         go_wp2_with (first
          |(at_lookup;refine yfq rfl _ _ _ rfl w.heap.size (v:Int) l1 rfl (by rfl) (yhd ports v i) ((hmap.out.alloc _).alloc _) ?_)
          |(at_mapUpdate;refine ypw rfl _ _ _ rfl rfl w.heap.size (v:Int) l1 wt rfl (by rfl) (by rfl) (yhd ports v i) ((hmap.out.alloc _).alloc _) c4' ?_))
         go_roundg (gk-1)
         case measure=>omega
         case rel =>
          refine⟨i+1,by omega,by go_num,zC ?_,zC ?_,Hnew⟩
          .exact Below.setMap ((hbel.out.alloc (by omega) _).alloc (by simp;omega) _) (zK _) _
          .rw[Hsc.out];exact PMap.set ((hmap.out.alloc _).alloc _) _
       .have Hf:=zC (Hbad.out (fun h=>c3 ⟨((Hsn.out.1 h).2.1).2.2.2.1,((Hsn.out.1 h).2.1).2.2.2.2⟩))
        by_cases c5:wt<1
        .clear c3
         go_wp2
         go_ret
         exact⟨ybj Hf.out.symm,(hbel.out.alloc (by omega) _)⟩
        .have c6:15<wt:=by omega
         clear c3
         go_wp2
         go_ret
         exact⟨ybj Hf.out.symm,(hbel.out.alloc (by omega) _)⟩
     .have Hf:=zC (Hbad.out (fun h=>c1 ⟨((Hsn.out.1 h).2.1).1,((Hsn.out.1 h).2.1).2.1⟩))
      by_cases c5:l1<0
      .clear c1
       go_wp2
       go_ret
       exact⟨ybj Hf.out.symm,(hbel.out.alloc (by omega) _)⟩
      .have c6:(ports.length:Int)<=l1:=by omega
       clear c1
       go_wp2
       go_ret
       exact⟨ybj Hf.out.symm,(hbel.out.alloc (by omega) _)⟩
    .obtain rfl:i=ls.length:=by omega
     go_wp2
     go_roundg (go-1)
     case measure=>omega
     case rel =>
      refine⟨v+1,by omega,by go_num,hbel,zC (by rw[<-ybji ports v ls Hlp.out];exact hmap.out),zC (fun u ls' hu hls'=>?_)⟩
      by_cases huv:u<v
      .exact hlk.out u ls' huv hls'
      .obtain rfl:u=v:=by omega
       rw[Hlp.out]at hls';cases hls'
       exact ybcr hok.out
  .obtain rfl:v=ports.length:=by omega
   have Hal:=zC (show ysj ports from fun v ls hls=>hlk.out v ls (List.getElem?_eq_some_iff.1 hls).1 hls)
   have hmlt:w.heap.size<wr.heap.size:=hmap.out.lt
   go_wp2_with (at_range;refine yyt rfl _ rfl w.heap.size rfl (ygd ports ports.length) hmap.out ?_)
   go_frame
   obtain⟨L,hL⟩:∃L,L=ygd ports ports.length:=⟨_,rfl⟩;rw[<-hL]at hmap ⊢;have HL:=zC hL
   clear hL
   obtain⟨r,hr⟩:∃r,r=wr.heap.size:=⟨_,rfl⟩;rw[<-hr]at hmlt ⊢
   go_loopg [70] (L.length+1) (fun q t wr=>∃seen:List Nat,q+seen.length=L.length+1/\Hid (Below w.heap.size w wr)/\Hid (PMap wr w.heap.size L)/\Hid (ymm wr r w.heap.size L seen)/\Hid (seen.Nodup/\∀i∈seen,∃p,L[i]?=some p/\yox L p.2.1 p.1=p.2.2))
   case atStart =>
    refine⟨[],by simp,zC (hbel.out.alloc (by omega) _),zC (hmap.out.alloc _),zC ?_,zC ⟨by simp,by simp⟩⟩
    rw[hr];exact heap_alloc_new wr _
   case round =>
    clear hbel hmap hr
    obtain⟨seen,hq,hbel,hmap,hit,hseen⟩:=hrel
    go_wp2_with (at_next;refine ybfc rfl _ rfl r w.heap.size rfl L seen hmap.out hit.out ?hend ?hgo)
    case hend =>
     intro m hall
     have Ht:=zC (show symB ports=true from ybsm Hal.out (fun p hp=>by
      rw[<-HL.out]at hp ⊢;obtain⟨i,hi,rfl⟩:=List.mem_iff_getElem.1 hp;obtain⟨p,hp',hv⟩:=hseen.out.2 i (hall i hi);rw[zA hi]at hp';cases hp'
      exact hv))
     clear hall
     go_wp2
     go_ret
     exact⟨ybj Ht.out.symm,below_drewN hbel.out _⟩
    case hgo =>
     intro m i x y z hp hns;have hil:i<L.length:=(List.getElem?_eq_some_iff.1 hp).1;have Hb1:=zC (Below.stepIter (L:=L) (b:=w.heap.size) (seen':=seen++[i]) hbel.out (r:=r) (by omega) m)
     have Hm1:=zC (PMap.step (b:=w.heap.size) (L:=L) (seen':=seen++[i]) hmap.out (r:=r) (by omega) m)
     have Hi1:=zC (ymm.step (seen':=seen++[i]) hit.out m);have Hp:=zC hp;have Hn:=zC hns;obtain⟨w1,hw1⟩:∃w1,w1=World.stepIter wr m r w.heap.size L (seen++[i]):=⟨_,rfl⟩;rw[<-hw1]at Hb1 Hm1 Hi1 ⊢
     clear hw1 hbel hmap hit hp hns
     have hz1:r<w1.heap.size:=Hi1.out.lt
     by_cases hv:yox L y x=z
     .have hv':(yox L y x != z)=false:=by simp[hv]
      have Hv:=zC hv
      clear hv
      go_wp2_with (first
       |(at_lookup;refine yfq rfl _ _ _ rfl w.heap.size y x rfl (by rfl) L (Hm1.out.alloc _) ?_)
       |(with_reducible refine yor rfl _ rfl r w.heap.size rfl L seen i (x,y,z) Hm1.out Hi1.out Hp.out ?_))
      have hsz:=zC (show(seen++[i]).length<=L.length by
       have hnd:(seen++[i]).Nodup:=by
        rw[zW];exact⟨hseen.out.1,by simp,fun a ha b hb e=>by simp at hb;subst hb e;exact Hn.out ha⟩
       have hsub:(seen++[i]) ⊆ zAJ L.length:=by
        intro j hj;rcases List.mem_append.1 hj with hj|hj
        .obtain⟨p,hp,_⟩:=hseen.out.2 j hj;simp[(List.getElem?_eq_some_iff.1 hp).1]
        .simp at hj;subst hj;simpa using hil
       simpa using List.Nodup.length_le_of_subset hnd hsub)
      go_roundg (gk-1)
      case measure=>have:=hsz.out;simp at this;omega
      case rel =>
       have h0:=hsz.out;simp only[zAB,zAE,List.length_nil]at h0;refine⟨seen++[i],by simp;omega,zC (Hb1.out.alloc (by omega) _),zC (Hm1.out.alloc _),zC (Hi1.out.alloc _),zC ⟨?_,fun j hj=>?_⟩⟩
       .rw[zW];exact⟨hseen.out.1,by simp,fun a ha b hb e=>by simp at hb;subst hb e;exact Hn.out ha⟩
       .rcases List.mem_append.1 hj with hj|hj
        .exact hseen.out.2 j hj
        .simp at hj;subst hj;exact⟨_,Hp.out,Hv.out⟩
     .have hv':(yox L y x != z)=true:=by simp[hv]
      have Hf:=zC (show symB ports=false from ywg Hal.out (p:=(x,y,z)) (by rw[<-HL.out];exact zH Hp.out) (by rw[<-HL.out];exact hv))
      clear hv
      go_wp2_with (first
       |(at_lookup;refine yfq rfl _ _ _ rfl w.heap.size y x rfl (by rfl) L (Hm1.out.alloc _) ?_)
       |(with_reducible refine yor rfl _ rfl r w.heap.size rfl L seen i (x,y,z) Hm1.out Hi1.out Hp.out ?_))
      go_ret
      exact⟨ybj Hf.out.symm,Hb1.out.alloc (by omega) _⟩
end
section
namespace Ev
open Go Go.RowKit
section
variable {φ:Phi}{M:AM}{w:World}{m:Mem}
theorem yxr{n:Int}(h:inI64 n=true):I64 n:=by
 unfold inI64 at h;split at h
 .have:=zL h;unfold I64;rename_i k;simp only[Int.ofNat_eq_natCast];omega
 .have:=zL h;unfold I64;omega
theorem yra:∀{l:List Value}{xs:List (Int×Int)},pairsOf l=some xs->l.length=xs.length*2/\∀j x,xs[j]?=some x->l[j*2]?=some (.int .i64 x.1)/\l[j*2+1]?=some (.int .i64 x.2)/\I64 x.1/\I64 x.2
 |[],xs,h=>by cases h;exact⟨rfl,by simp⟩
 | .int .i64 a :: .int .i64 b::l,xs,h=>by
   unfold pairsOf at h;split at h
   .rename_i r hr
    rw[zZ]at h;split at h
    .rename_i hc
     cases h
     simp only[Bool.and_eq_true]at hc;obtain⟨h1,h2⟩:=yra hr;refine⟨by simp[h1];omega,fun j x hx=>?_⟩
     cases j with
     |zero=>simp at hx;subst hx;exact⟨rfl,rfl,yxr hc.1,yxr hc.2⟩
     | succ j =>
       have:=h2 j x (by simpa using hx)
       rw[show(j+1)*2=j*2+1+1 by omega]
       simpa using this
    .cases h
   .cases h
theorem yke{α β:Type}{f:α->Option β}:∀{l:List α}{r:List β},mapO f l=some r->l.length=r.length/\∀(j:Nat) (y:β),r[j]?=some y->∃x,l[j]?=some x/\f x=some y
 |[],r,h=>by cases h;exact⟨rfl,by simp⟩
 | x :: l,r,h=>by
   unfold mapO at h;split at h
   .cases h
   .rename_i y hy
    split at h
    .cases h
    .rename_i r' hr
     cases h
     obtain⟨h1,h2⟩:=yke hr;refine⟨by simp[h1],fun j z hz=>?_⟩
     cases j with
     |zero=>simp at hz;subst hz;exact⟨x,rfl,hy⟩
     |succ j=>simpa using h2 j z (by simpa using hz)
theorem yqn {α:Type}{size:Nat}{E:Elem α}{v v':Value}{l:List Value}{ft:List Nat}{xs:List α}(h:rowOf m size v=some (l,ft)) (hv:VR φ v v') (hR:Rel φ M w) (hs:Sub m M) (hlen:l.length=xs.length*size) (h0:size≠0)
 (hE:∀(l':List Value) (b off:Nat),VRL φ l l'->(∀j u,l'[j]?=some u->w.cell? ⟨b,off+j,none⟩=some u)->∀j x,xs[j]?=some x->E w b (off+j*size) x):SlAt size E w v' xs:=by
 unfold rowOf at h;split at h
 .cases h
  have e:=hv.eq_simple rfl;subst e
  have:xs=[]:=by
   rcases Nat.mul_eq_zero.1 (show xs.length*size=0 from hlen.symm)with h|h
   .exact zJ h
   .exact absurd h h0
  subst this;exact SlAt.nil w
 .rename_i a len cap
  obtain⟨lc,A,c',k1,k2,k3,k4,k5,k6,k7⟩:=hv.slice_inv;subst k3;split at h
  .cases h
  .rw[zZ]at h;split at h
   .rename_i hl0
    have hl0:=Nat.eq_of_beq_eq_true hl0;subst hl0;cases h
    have:xs=[]:=by
     rcases Nat.mul_eq_zero.1 (show xs.length*size=0 from hlen.symm)with h|h
     .exact zJ h
     .exact absurd h h0
    subst this;exact⟨some A,c',rfl,Nat.zero_le _,k6,fun q=>absurd q (by simp)⟩
   .rename_i hl0
    split at h
    .rename_i c n e z hb
     rw[zZ]at h;split at h
     .rename_i hn
      have hn:=zL hn;split at h
      .rename_i l2 hl2
       cases h
       have hlen2:=(yeb hl2).1
       have hxl:xs.length=len:=by
        rw[hlen2]at hlen;exact(Nat.eq_of_mul_eq_mul_right (by omega) hlen).symm
       obtain⟨lc',cs,e',fz,g1,g2,g3,_,g4,g5,g6⟩:=hR.cellsAt (hs _ _ hb);rw[k1]at g1;cases g1
       obtain⟨l',r1,r2⟩:=cellsRead g6 hl2 hn;subst hxl;refine⟨some A,c',rfl,k4,k6,fun hpos=>?_⟩;rcases k7 with⟨rfl,_⟩|k7
       .refine⟨lc.blk,lc.base+a.off,rfl,(Array.getElem?_eq_some_iff.1 g4).1,hE l' _ _ r1 fun j u hu=>cell_of g4 (r2 j u hu)⟩
       .omega
      .cases h
     .cases h
    .cases h
 .cases h
theorem ypq{v v':Value}{xs:List (Int×Int)}(h:linksOf m v=some xs)(hv:VR φ v v')(hR:Rel φ M w)(hs:Sub m M):ybgg w v' xs:=by
 unfold linksOf at h;split at h
 .rename_i l ft hl
  obtain⟨h1,h2⟩:=yra h;refine yqn hl hv hR hs h1 (by decide) fun l' b off hl' hc j x hx=>?_
  obtain⟨q1,q2,q3,q4⟩:=h2 j x hx;obtain⟨u1,p1,p2⟩:=hl'.get q1;obtain⟨u2,p3,p4⟩:=hl'.get q2;have e1:=p2.eq_simple rfl;have e2:=p4.eq_simple rfl;subst e1 e2;exact⟨hc _ _ p1,by rw[zV];exact hc _ _ p3,q3,q4⟩
 .cases h
theorem ybnd{v v':Value}{ps:List (List (Int×Int))}(h:portsOf m v=some ps)(hv:VR φ v v')(hR:Rel φ M w)(hs:Sub m M):ybaq w v' ps:=by
 unfold portsOf at h;split at h
 .rename_i l ft hl
  obtain⟨h1,h2⟩:=yke h;refine yqn hl hv hR hs (by rw[h1,zT]) (by decide) fun l' b off hl' hc j x hx=>?_
  obtain⟨u,q1,q2⟩:=h2 j x hx;obtain⟨u',p1,p2⟩:=hl'.get q1;exact⟨u',by rw[zT];exact hc _ _ p1,ypq q2 p2 hR hs⟩
 .cases h
theorem ylq {P:Program}{g:FuncId}{args:List Value}{v:Value}(hn:yoz P) (hg:∃fn c,P.funcs[g]?=some fn/\fn.body=some c)
 (h:∀φ M w args',Rel φ M w->Sub m M->VRL φ args args'->Calls P g args'.toArray w fun e w'=>∃v',e = .returned v'/\VR φ v v'/\Below w.heap.size w w'):ybw P (.call g args m) (.call v (enterM m)):=by
 intro hw;obtain⟨fn,c,h1,h2⟩:=hg;refine⟨⟨zK _,fun i b hb=>.inl ⟨b,hb⟩,fun i b _ _ hb=>hb,hw⟩,fun φ M w args' hR hs hv _=>.inl ⟨yby hn h1 h2 _ _,(h φ M w args' hR hs hv).mono ?_⟩⟩;rintro e w' ⟨v',rfl,hvr,hb⟩;exact⟨v',rfl,φ,M,⟨φ.le_refl,fun _ _=>rfl,hR.keep fun k hk=>hb.block k hk,hs,fun _ _ _=>rfl,⟨hb.os,hb.tape,hb.output,hb.size,fun k hk _=>hb.block k hk,fun _ _ h=>h⟩⟩,hvr⟩
theorem ysb:yoz zB:=by
 have h : Tryz.prog.funcs.all (fun fn => !(fn.name == "runtime.NumGoroutine")) = true := by kernel_rfl
 intro g fn hg _;have:=Array.all_eq_true_iff_forall_mem.1 h fn (zAA hg)
 simpa using this
theorem mix:Tryz.prog.follows .mixedOrders=true:=by kernel_rfl
theorem ybxh(args:List Value)(m:Mem)(out:Out)(h:evSymm symB m args=some out):ybw zB (.call 153 args m) out:=by
 unfold evSymm at h;split at h
 .rename_i v
  obtain⟨ps,hps,h2⟩:=yg h;obtain⟨hle,h3⟩:=ybf h2;cases h3
  refine ylq ysb ⟨_,_,zAP,rfl⟩ fun φ M w args' hR hs hv=>?_;obtain⟨v',rfl,hvv⟩:=yfa hv;refine(ymq v' ps w (ybnd hps hvv hR hs) (zL hle)).mono ?_;rintro e w' ⟨rfl,hb⟩;exact⟨_,rfl,.simple rfl,hb⟩
 .cases h
end
end Ev
end
end Go.Proofs.YtiejahgklcjhkaaGreatDoor
