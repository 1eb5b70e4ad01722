/- Joined. -/
import Derived.Test.YtlbonpgkofloeaaGreatDoorPkCt16
set_option linter.unusedSimpArgs false
set_option linter.unusedVariables false
set_option maxRecDepth 8000
open Nat renaming reduceEqDiff->zA,reduceAdd->zB,reduceLT->zC,reduceLeDiff->zD,reduceBEq->zJ,lt_of_lt_of_le->zL,le_refl->zN,zero_mul->zT,and_two_pow_sub_one_of_lt_two_pow->zU,pow_le_pow_right->zV,sub_self->zW,zero_le->zAF,testBit_and->zAP,testBit_lt_two_pow->zAS,lt_irrefl->zAU,pow_lt_pow_right->zBA,testBit_two_pow_sub_one->zBG,reduceMul->zBI,shiftRight_eq_div_pow->zBM,not_lt_zero->zBV,lt_of_le_of_lt->zCC,lt_of_lt_of_eq->zCE,and_zero->zCT,zero_min->zCV,lt_or_ge->zCY
open List renaming getElem?_eq_getElem->zF,getD->zK,mem_cons_of_mem->zM,range->zO,mem_cons_self->zQ,length_append->zS,getElem_mem->zY,length_map->zAA,findIdx?_cons->zAB,getElem?_append_left->zAC,getElem?_map->zAD,take_length->zAE,getD_eq_getElem?_getD->zAG,take_succ_eq_append_getElem->zAH,getElem?_take->zAJ,length_singleton->zAK,length_take->zAL,getD_cons_zero->zAO,foldl_append->zAR,getElem?_set_self->zAT,map_cons->zAV,getElem?_eq_none->zAX,mem_of_mem_take->zAY,getElem?_set_ne->zBB,take_append_of_le_length->zBD,eq_nil_of_length_eq_zero->zBE,getElem_of_mem->zBF,getElem?_append_right->zBJ,nodup_append->zBL,ext_getElem->zBO,not_mem_nil->zBQ,length_erase_of_mem->zBR,getElem?_take_of_lt->zBS,map_append->zBU,foldl_cons->zBW,range_succ_eq_map->zBX,take_of_length_le->zBY,take_zero->zCA,mem_erase_of_ne->zCB,all_eq_false->zCG,pairwise_map->zCH,length->zCI,all_eq_true->zCJ,getElem_map->zCK,countP_cons->zCL,range_succ->zCM,countP_nil->zCO,replicate->zCP,take_set->zCQ,map_map->zCU,flatMap->zCZ
open Go.Proofs.Tryz renaming prog->zG,func209->zAZ,ntmps209->zBH,ntmps108->zBK,func108->zBP,zeroCells235->zCF,ntmps202->zCR,ntmps158->zCS,func202->zCW,func158->zCX
open Go.Lib renaming hid->zH
open Bool renaming and_eq_true->zI,true_and->zAN,false_eq_true->zCD,eq_iff_iff->zCN
open BitVec renaming ofInt->zX
open Int renaming toNat_natCast->zZ,reduceBNe->zAI,reduceBEq->zAM,emod_lt_of_pos->zAQ,natCast_zero->zAW,emod_nonneg->zBC,eq_ofNat_of_zero_le->zBT,le_refl->zBZ
open Option renaming getD_some->zBN
open Classical renaming choose_spec->zDA,choose->zDC
open And renaming intro->zDB
open Go
namespace Go.Proofs.YtlbonpgkofloeaaGreatDoor
section
open Go.RowKit
theorem ybhh:zCF=Array.replicate 256 (.bool false):=by kernel_rfl
def Seen(w:World)(g:Nat)(S:List Int):Prop:=∃a,w.heap[g]?=some (.cells a 235 (0,0))/\a.size=256/\∀i:Nat,i<256->a[i]?=some (.bool (decide ((i:Int)∈S)))
theorem Seen.cell{w:World}{g:Nat}{S:List Int}(h:Seen w g S){i:Nat}(d:i<256):w.cell? ⟨g,i,none⟩=some (.bool (decide ((i:Int)∈S))):=by
 obtain⟨a,b,e,c⟩:=h;simp[World.cell?,b,c i d]
theorem Seen.frozen{w:World}{g:Nat}{S:List Int}(h:Seen w g S)(i:Nat):w.frozen? ⟨g,i,none⟩=false:=by
 obtain⟨a,b,c,d⟩:=h;simp[World.frozen?,b]
theorem Seen.set_{w:World}{g:Nat}{S:List Int}(h:Seen w g S){i:Nat}:Seen (w.setCell ⟨g,i,none⟩ (.bool true)) g (S++[(i:Int)]):=by
 obtain⟨a,b,c,d⟩:=h;refine⟨a.setIfInBounds i (.bool true),by simp[World.setCell,Array.getElem?_modify,b],by simp[c],fun j e=>?_⟩
 rw[Array.getElem?_setIfInBounds];split
 .subst_vars
  rw[if_pos (by omega)]
  simp
 .rw[d j e];congr 3;simp;omega
theorem Seen.start(w:World):Seen (w.alloc (.cells zCF 235)) w.heap.size []:=by
 refine⟨_,heap_alloc_new w _,by rw[ybhh];simp,fun i a=>?_⟩
 rw[ybhh];simp[a]
def ybky(ids:List Int):Bool:=decide ((∀x∈ids,0<=x/\x<=255)/\ids.Nodup)
def yvd(ids:List Int)(k:Nat):Prop:=(∀x∈ids.take k,0<=x/\x<=255)/\(ids.take k).Nodup
theorem ybzn{ids:List Int}{k:Nat}(hk:k<ids.length):yvd ids (k+1)↔yvd ids k/\(0<=ids[k]/\ids[k]<=255)/\ids[k]∉ids.take k:=by
 unfold yvd;rw[take_snoc ids k hk,zBL];constructor
 .rintro⟨d,f,_,g⟩;exact⟨⟨fun x c=>d x (List.mem_append_left _ c),f⟩,d _ (List.mem_append_right _ (by simp)),fun l=>g _ l _ (by simp) rfl⟩
 .rintro⟨⟨d,f⟩,g,i⟩;refine⟨fun x c=>?_,f,by simp,fun a j b h e=>?_⟩
  .rcases List.mem_append.1 c with c|c
   .exact d x c
   .simp at c;subst c;exact g
  .simp at h;subst h e;exact i j
theorem ybol{ids:List Int}{k:Nat}(h:¬yvd ids k):ybky ids=false:=by
 unfold ybky;rw[decide_eq_false_iff_not];exact fun a=>h ⟨fun x b=>a.1 x (zAY b),a.2.sublist (List.take_sublist _ _)⟩
theorem ybsf{ids:List Int}(h:yvd ids ids.length):ybky ids=true:=by
 unfold yvd at h;rw[zAE]at h;exact decide_eq_true h
set_option maxRecDepth 100000 in
set_option maxHeartbeats 1000000 in
theorem yue(s:Value)(ids:List Int)(w:World)(o:ynw w s ids) :
 Calls zG 242 #[s] w fun e F=>e = .returned (.bool (ybky ids))/\Below w.heap.size w F:=by
 obtain⟨A,c,rfl,y,z⟩:=yct o;have Hi:=zH o
 clear o
 go_enter Tryz.func242,Tryz.ntmps242
 go_wp2
 go_loopg [8] ids.length (fun q t wr=>∃k:Nat,q+k=ids.length/\t = .int .i64 k/\Hid (Below w.heap.size w wr)/\Hid (Seen wr w.heap.size (ids.take k))/\Hid (yvd ids k))
 case atStart=>exact⟨0,by omega,rfl,zH ((Below.refl _ _).alloc (zN _) _),zH (Seen.start w),zH ⟨by simp,by simp⟩⟩
 case round =>
  obtain⟨k,H,rfl,a,d,l⟩:=hrel
  by_cases f:k<ids.length
  .obtain⟨b,E,rfl,G,g,r⟩:=ylv (Hi.out.below Stable.int a.out) f;obtain⟨x,p⟩:∃x,ids[k]=x:=⟨_,rfl⟩;have Hsn:=zH (ybzn f);rw[p]at g r Hsn;obtain⟨C,D⟩:=r;have Hbad:=zH (fun h=>ybol (ids:=ids) (k:=k+1) h);have Hts:=zH (take_snoc ids k f);rw[p]at Hts
   clear p
   by_cases c1:0<=x/\x<=255
   .obtain⟨m,v⟩:=c1;obtain⟨n,rfl⟩:=zBT m;have j:=d.out.cell (i:=n) (by omega)
    have B:=d.out.frozen n
    by_cases c2:(n:Int)∈ids.take k
    .rw[decide_eq_true c2]at j;have Hf:=zH (Hbad.out (fun h=>(Hsn.out.1 h).2.2 c2))
     clear c2
     go_wp2
     go_ret
     exact⟨ybt Hf.out.symm,a.out⟩
    .rw[decide_eq_false c2]at j;have u:=zH (Hsn.out.2 ⟨l.out,⟨by omega,by omega⟩,c2⟩)
     clear c2
     go_wp2
     go_roundg (gk-1)
     case measure=>omega
     case rel =>
      refine⟨k+1,by omega,by go_num,zH (a.out.setCell (zN _) _),zH ?_,u⟩
      rw[Hts.out];exact d.out.set_
   .have Hf:=zH (Hbad.out (fun h=>c1 (Hsn.out.1 h).2.1))
    by_cases c3:x<0
    .clear c1
     go_wp2
     go_ret
     exact⟨ybt Hf.out.symm,a.out⟩
    .have c4:255<x:=by omega
     clear c1
     go_wp2
     go_ret
     exact⟨ybt Hf.out.symm,a.out⟩
  .obtain rfl:k=ids.length:=by omega
   have Ht:=zH (ybsf l.out)
   go_wp2
   go_ret
   exact⟨ybt Ht.out.symm,a.out⟩
theorem ybxu(g:Gr)(e:1<=g.ids.length)(f:g.ids.length<=24)(h:g.ports.length=g.ids.length):yhc g=(ybky g.ids&&symB g.ports):=by
 unfold yhc ybky symB;rw[<-Bool.decide_and];congr 1;apply propext;unfold ybe ycjr;constructor
 .rintro⟨_,_,_,a,b,c,d⟩;exact⟨⟨a,b⟩,c,d⟩
 .rintro⟨⟨a,b⟩,c,d⟩;exact⟨by omega,by omega,by omega,a,b,c,d⟩
set_option maxHeartbeats 1000000 in
theorem ywf(gv:Value)(g:Gr)(w:World)(t:GrAt w gv g) :
 Calls zG 209 #[gv] w fun e v=>e = .returned (.bool (yhc g))/\Below w.heap.size w v:=by
 obtain⟨i,p,rfl,f,j⟩:=t;obtain⟨A,c,rfl,o,q⟩:=yct f;obtain⟨x,c2,rfl,r,s⟩:=yct j;have Hi:=zH f;have Hp:=zH j
 clear f j
 by_cases m:1<=g.ids.length
 .by_cases n:g.ids.length<=24
  .by_cases b:g.ports.length=g.ids.length
   .have k:((g.ports.length:Int)!=(g.ids.length:Int))=false:=by simp[b]
    have He:=zH (ybxu g m n b);have u:g.ports.length<=24:=by omega
    clear b
    go_enter zAZ,zBH
    go_wp2_with fail
    refine(yue _ g.ids _ (Hi.out.below Stable.int ((Below.refl _ _).alloc (zN _) _))).mono ?_;rintro e B ⟨rfl,a⟩;have Hb1:=zH (ywg a);obtain⟨y,z⟩:=ycth a
    clear a
    cases l:ybky g.ids with
    | false =>
      have Hv:=zH (show yhc g=false by rw[He.out,l];rfl)
      go_wp2_with fail
      go_ret
      exact⟨ybt Hv.out.symm,Hb1.out⟩
    | true =>
      have Hv:=zH (show yhc g=symB g.ports by rw[He.out,l];rfl)
      go_wp2_with fail
      refine(yre _ g.ports _ (Hp.out.below (Stable.sl Stable.link) Hb1.out) (by omega)).mono ?_
      rintro e C ⟨rfl,d⟩
      go_wp2_with fail
      go_ret
      exact⟨ybt Hv.out.symm,Hb1.out.trans (d.mono Hb1.out.size)⟩
   .have k:((g.ports.length:Int)!=(g.ids.length:Int))=true:=by simp;omega
    have Hf:=zH (yjf (g:=g) (fun h=>b h.2.2.symm))
    clear b
    go_enter zAZ,zBH
    go_wp2
    go_ret
    exact⟨ybt Hf.out.symm,(Below.refl _ _).alloc (zN _) _⟩
  .have Hf:=zH (yjf (g:=g) (fun h=>n (by omega)))
   go_enter zAZ,zBH
   go_wp2
   go_ret
   exact⟨ybt Hf.out.symm,(Below.refl _ _).alloc (zN _) _⟩
 .have Hf:=zH (yjf (g:=g) (fun h=>m (by omega)))
  go_enter zAZ,zBH
  go_wp2
  go_ret
  exact⟨ybt Hf.out.symm,(Below.refl _ _).alloc (zN _) _⟩
end
section
namespace Sh
open Go Ev Go.RowKit
theorem yhd{x:Int}(h:-4611686018427387904<=x/\x<=4611686018427387904):I64 x:=by
 unfold I64;omega
theorem yro{g:Gr}(d:ybe g):GrI g:=by
 obtain⟨o,p,q,b,r,c,s⟩:=d;refine⟨fun x h=>yhd (by have:=b x h;omega),fun t a l e=>?_⟩
 obtain⟨v,f,rfl⟩:=zBF a;obtain⟨i,j,k,m,n⟩:=(c ⟨v,f⟩).1 l e;exact⟨yhd (by omega),yhd (by omega)⟩
theorem yhy{g:Gr}(e:GrI g):Returns zG 209 [grV g] (.b (yhc g)):=by
 refine ybqn ⟨_,_,zAZ,rfl⟩ (fun _=>.b) (fun _=>.simple rfl) fun G m n d h o M w l f i j=>?_;obtain⟨u,rfl,a⟩:=rvl1 h;obtain⟨k,rfl,c⟩:=yiq j;exact ywf k g w (ycmd d a c f i e)
end Sh
end
section
namespace Sh
open Go Ev Go.RowKit
theorem ychk{g:Gr}(a:ybe g){x:VarR}(b:x.ok=true)(v:Nat):-4096<=(ybj g v x).1/\(ybj g v x).2<=100000:=by
 obtain⟨c,d,e,f,h⟩:=ybnq b;obtain⟨i,j⟩:=yph a b;have k:=a.deg_lt (v:=v);unfold ybj;split
 .exact⟨by simp only[];omega,by simp only[];omega⟩
 .split
  .exact⟨by simp only[];omega,by simp only[];omega⟩
  .split
   .exact⟨by simp only[];omega,by simp only[];omega⟩
   .exact⟨by simp only[];omega,by simp only[];omega⟩
theorem ydf{p:ProgT}{g:Gr}(e:ybe g)(l:p.ok=true){c:Conf}(f:ycb p g c=true):ConfIn g.ports.length p.vars.length c:=by
 have h:=(ydi _ _ _).1 f;have a:=l;unfold ProgT.ok at a;simp only[zI,decide_eq_true_eq]at a;refine⟨h.1.trans e.2.2.1,fun s m=>?_⟩;obtain⟨v,n,rfl⟩:=zBF m;have d:=h.2 v _ (zF n);have k:(c[v]).length=p.vars.length:=by have:=d.1;simpa using this
 refine⟨k,fun x o=>?_⟩;obtain⟨i,j,rfl⟩:=zBF o;have b:i<p.vars.length:=by omega
 have q:=d.2 i (ybj g v p.vars[i]) _ (by simp[b]) (zF j)
 have r:=ychk e (List.all_eq_true.1 a.1.1.2 _ (zY b)) v;unfold InB;omega
structure Checked(Q1 Q2:(Nat->Option ABlk)->Value->Prop)(p:ProgT)(g:Gr):Prop where
 hg:ybe g
 hp:p.ok=true
 hf:yhj p g=true
 hV:Returns zG 77 [.ag (ybs Q1 Q2 p.raw)] (.b true)
theorem Checked.gv{Q1 Q2:(Nat->Option ABlk)->Value->Prop}{p:ProgT}{g:Gr}(h:Checked Q1 Q2 p g):Returns zG 209 [grV g] (.b true):=by
 have e:=yhy (yro h.hg);rw[(ycm g).2 h.hg]at e;exact e
section
variable {Q1 Q2:(Nat->Option ABlk)->Value->Prop}{p:ProgT}{g:Gr}
theorem ybio(h:Checked Q1 Q2 p g)(c:Conf):Returns zG 133 [.ag (ybs Q1 Q2 p.raw),grV g,ybf c] (.i .i64 (if ycb p g c then 0 else 10)):=by
 refine Returns.of ((okG 133) _ _ ?_);have a:=h.hp;unfold ProgT.ok at a;simp only[zI,decide_eq_true_eq]at a;have hid:=h.hg.2.2.1;have l:=h.hg.2.1;have f:=ycsa p h.hg h.hp h.hf h.hV h.gv;have j:=ybjy p.raw h.hg a.1.1.2 a.1.1.1.2;have k:=ybun (n:=g.ids.length) p.vars (by omega) (ybj g) c (by omega)
 simp only[ybs,grV]at f j;simp only[cdE 133,rgE 133 0,rgE 133 1,ybs,grV,go_sem,zA,zB,zC,↓reduceIte,reduceCtorEq];refine f.use ?_;simp only[yw,rgE 133 2,rgE 133 3,rgE 133 4,go_sem,zA,zB,↓reduceIte,reduceCtorEq];refine⟨fun h=>absurd rfl h,j.useS ?_ ?_⟩
 .exact⟨yie ⟨Sim.refl _,yhb _ _,yhb _ _,trivial⟩,Sim.refl _,trivial⟩
 simp only[ylh]at k ⊢;simp only[go_sem,↓reduceIte];refine k.use ?_;simp only[go_sem];have d:∀b,yol g.ids.length (fun v=>p.vars.map (ybj g v)) c=b->ycb p g c=b:=fun b h=>h;refine⟨fun e=>?_,fun e=>?_⟩
 .simp only[rgE 133 5,d _ e,ycc,go_sem,↓reduceIte]
 .simp only[rgE 133 6,d _ e,ycc,go_sem,↓reduceIte]
theorem ybtg(h:Checked Q1 Q2 p g)(c:Conf):Returns zG 80 [.ag (ybs Q1 Q2 p.raw),grV g,ybf c] (.b (ycb p g c)):=by
 refine Returns.of ((okG 80) _ _ ?_);have a:=ybio h c;simp only[ybs,grV]at a;simp only[cdE 80,rgE 80 0,rgE 80 1,ybs,grV,go_sem,zA,zB,zC,↓reduceIte,reduceCtorEq];refine a.use ?_;simp only[yw,ygd,go_sem,zA,zB,↓reduceIte,reduceCtorEq];cases ycb p g c<;>rfl
theorem yvv(h:Checked Q1 Q2 p g){c:Conf}(e:ycb p g c=true):Returns zG 15 [.ag (ybs Q1 Q2 p.raw),grV g,ybf c] (.i .u32 (yh p g c)):=by
 refine Returns.of ((okG 15) _ _ ?_);have a:=h.hp;unfold ProgT.ok at a;simp only[zI,decide_eq_true_eq]at a;have b:=ybtg h c;rw[e]at b;have d:=ytr p.raw h.hg a.1.1.2 a.1.1.1.2;have f:=yew p h.hg h.hp (ydf h.hg h.hp e);simp only[ybs,grV]at b d;simp only[cdE 15,rgE 15 0,rgE 15 1,ybs,grV,go_sem,zA,zB,zC,↓reduceIte,reduceCtorEq];refine b.use ?_;simp only[yw,rgE 15 2,rgE 15 3,go_sem,zA,zB,↓reduceIte,reduceCtorEq]
 refine d.useS ?_ ?_
 .exact⟨yie ⟨Sim.refl _,yhb _ _,yhb _ _,trivial⟩,Sim.refl _,trivial⟩
 simp only[go_sem,↓reduceIte];refine f.use ?_;simp only[go_sem];exact Sim.refl _
theorem ybtu(k:Int):Returns zG 134 [.i .i64 k] (.b (decide (1<=k)&&decide (k<=4))):=by
 refine Returns.of ((okG 134) _ _ ?_);simp only[cdE 134,rgE 134 0,rgE 134 1,ygd,go_sem,zA,zB,↓reduceIte,reduceCtorEq]
 by_cases h:k>=1<;>simp[h]
end
end Sh
end
section
theorem ypo(s a:Nat):∀b,yhv s (a+b)=yhv s a+yhv (s>>>a) b
 |0=>rfl
 | b+1=>by
   show yhv s (a+b)+(s.testBit (a+b)).toNat=_;rw[ypo s a b];show _=yhv s a+(yhv (s>>>a) b+((s>>>a).testBit b).toNat);rw[Nat.testBit_shiftRight];omega
theorem ysh(s:Nat):∀b,b<=8->yhv (s&&&255) b=yhv s b
 |0,_=>rfl
 | b+1,h=>by
   show yhv _ b+_=yhv s b+_;rw[ysh s b (by omega),zAP,show(255:Nat)=2^8-1 from rfl,zBG]
   simp[show b<8 by omega]
theorem ybrt(s:Nat):popP s=yhv (s>>>24&&&255) 8+yhv (s>>>16&&&255) 8+yhv (s>>>8&&&255) 8+yhv (s&&&255) 8:=by
 simp only[ysh _ 8 (zN _)];have a:=ypo s 8 24;have b:=ypo (s>>>8) 8 16;have c:=ypo (s>>>8>>>8) 8 8;simp only[<-Nat.shiftRight_add,zB]at a b c;unfold popP;omega
namespace Sh
open Ev Go.RowKit
theorem ybbp:∀k,k<256->yzw.getD k 0=yhv k 8:=by decide
theorem ycya:yzw.length=256:=by decide
theorem ycwa(a v:Nat):(a:Int).fdiv (2^v)=((a>>>v:Nat):Int):=by
 have h:=ycax (a:=a) (v:=v)
 rwa [zZ]at h
theorem yctn{a:Nat}(c:a<2^32):IntKind.wrap .u32 (((zX (IntKind.bits .u32) (a:Int))&&&zX (IntKind.bits .u32) 255).toNat:Int)=((a&&&255:Nat):Int):=u32_and (b:=255) c (by decide)
theorem ydhh{a n:Nat}(h:a<2^32):a>>>n<2^32:=by rw[zBM];exact zCC (Nat.div_le_self _ _) h
theorem ycly{s:Nat}(d:s<2^32):Returns zG 165 [.i .u32 s] (.i .i64 (popP s)):=by
 refine Returns.of (ycwq _ _ ?_);simp only[c165,ycug,yctr,clash,go_sem,Int.reduceToNat,zA,zB];have f1:=yctn d;have f2:=fun n=>yctn (ydhh (n:=n) d);simp only[IntKind.bits]at f1 f2;simp only[ycwa,f1,f2,zZ,ycya];have c:=ybrt s;have g:s>>>24<256:=by rw[zBM];omega
 have b:∀x:Nat,x&&&255<256:=fun x=>zCC Nat.and_le_right (by omega)
 rw[ysh (s>>>24) 8 (zN _)]at c;rw[ybbp _ g,ybbp _ (b (s>>>16)),ybbp _ (b (s>>>8)),ybbp _ (b s)];have h:=ymx (s>>>24) 8;have j:=ymx (s>>>16&&&255) 8;have k:=ymx (s>>>8&&&255) 8;have l:=ymx (s&&&255) 8;have m:=b (s>>>16);have o:=b (s>>>8);have p:=b s;have a:∀x:Int,0<=x->x<=255->inK .u8 x:=fun x e f=>⟨by simpa[IntKind.min,IntKind.signed]using e,by simpa[IntKind.max,IntKind.bits,IntKind.signed]using f⟩
 refine⟨⟨by omega,by decide⟩,⟨by omega,by omega⟩,⟨by omega,by decide⟩,by omega,a _ (by omega) (by omega),⟨by omega,by decide⟩,by omega,a _ (by omega) (by omega),by omega,a _ (by omega) (by omega),?_⟩
 rw[wrap_in (ikw (by omega) (by omega)),c]
 exact Sim.refl _
def cntV(k:Cnt):List SV:=[.i .i64 k.steps,.i .i64 k.moves,.i .i64 k.rounds,.i .i64 k.begun,.i .u32 k.pend]
theorem yxu{e:Nat}(d:e<2^24):Returns zG 212 [.i .u32 e] (.ag (cntV (yeo e))):=by
 refine Returns.of ((okG 212) _ _ ?_);simp only[cdE 212,rgE 212 0,rgE 212 1,go_sem,zA,zB,zC,↓reduceIte,reduceCtorEq];have c:e&&&16777215=e:=by rw[show(16777215:Nat)=2^24-1 from rfl,zU d]
 have a:IntKind.wrap .u32 (((zX (IntKind.bits .u32) (e:Int))&&&zX (IntKind.bits .u32) 16777215).toNat:Int)=((e&&&16777215:Nat):Int):=u32_and (b:=16777215) (by omega) (by decide)
 simp only[IntKind.bits]at a;rw[a,c];exact Sim.refl _
def usV(l:List Nat):SV:=.sl 1 l.length (fun k=>[.i .u32 ((l.getD k 0:Nat):Int)])
theorem ydns{a:Nat}(c:a<2^24):IntKind.wrap .u32 (((zX (IntKind.bits .u32) (a:Int)) &&& ~~~zX (IntKind.bits .u32) 16777215).toNat:Int)=0:=by
 have h:=u32_andNot (a:=a) (b:=16777215) (by omega) (by decide)
 have e:difB a 16777215=0:=by
  rw[ych];intro i;rw[yqy,show(16777215:Nat)=2^24-1 from rfl,zBG]
  by_cases d:i<24
  .simp[d]
  .rw[zAS (zL c (zV (by omega) (by omega)))]
   rfl
 rw[e]at h;exact h
theorem ysz(l:List Nat)(e:l.length<=10)(h:∀k,k<l.length->l.getD k 0<2^24):Returns zG 248 [usV l] (.b true):=by
 refine Returns.of ((okG 248) _ _ ?_);simp only[cdE 248,rgE 248 0,rgE 248 1,usV,go_sem,zB,↓reduceIte,reduceCtorEq];refine ybk (σ:=Nat) (fun k=>⟨[(7,.i .i64 k),(6,.i .i64 l.length),(5,usV l)],[]⟩) (fun k=>k<=l.length) (fun k=>l.length-k) 0 (zAF _) ?_ ?_
 .refine yx ?_;simp only[usV,wk,go_sem,zA,↓reduceIte,reduceCtorEq]
 .intro k hk;simp only[rgE 248 2,rgE 248 3,rgE 248 4,rgE 248 5,usV,go_sem,zA,zB,↓reduceIte,reduceCtorEq];refine⟨fun c=>?_,fun c=>?_⟩
  .have a:k<l.length:=by omega
   have d:=ydns (h k a);simp only[IntKind.bits]at d;rw[d];refine⟨⟨by omega,by omega⟩,fun h=>absurd rfl h,fun _=>?_⟩
   simp only[rgE 248 6,go_sem,zA,zB,↓reduceIte,reduceCtorEq];refine⟨ikw (by omega) (by omega),?_⟩
   refine ybw (k+1) ?_;refine yx ?_;simp only[wk,go_sem,zA,↓reduceIte,reduceCtorEq];omega
  .simp only[rgE 248 7,ygd,go_sem,↓reduceIte]
theorem ybtz{k:Cnt}(hk : k.ok)(m:k.steps<=4096):Returns zG 247 [.ag (cntV k)] (.b true):=by
 refine Returns.of ((okG 247) _ _ ?_);obtain⟨f,g,h,j,l,a⟩:=hk
 have c:=ysz [k.pend] (by simp) (fun i d=>by have:i=0:=by simp at d;omega
                                             subst this;exact a)
 have f1:decide ((k.steps:Int)<0)=false:=by simp
 have f2:decide ((k.steps:Int)>4096)=false:=by simp;omega
 have f3:decide ((k.rounds:Int)<0)=false:=by simp
 have f4:decide ((k.rounds:Int)>k.begun)=false:=by simp;omega
 have f5:decide ((k.begun:Int)>k.steps)=false:=by simp;omega
 have f6:decide ((k.begun:Int)>k.rounds+1)=false:=by simp;omega
 have f7:decide ((k.steps:Int)<=k.moves)=true:=by simp;omega
 have f8:decide ((k.moves:Int)<=24*k.steps)=true:=by simp;omega
 simp(maxSteps:=5000000) only [cdE 247,rgE 247 0,rgE 247 1,cntV,f1,f2,f3,f4,f5,go_sem,zA,zB,zD,zC,↓reduceIte,reduceCtorEq];simp only[rgE 247 3,f6,go_sem,zA,zB,zD,↓reduceIte,reduceCtorEq];refine⟨ikw (by omega) (by omega),?_⟩
 simp(maxSteps:=5000000) only [rgE 247 5,f7,f8,go_sem,zA,zB,zD,zC,↓reduceIte,reduceCtorEq];refine⟨ikw (by omega) (by omega),?_⟩
 refine .inl ⟨fun q e=>?_,c.useS ?_ ?_⟩
 .obtain rfl:q=0:=by omega
  simp only[go_sem]
 .exact⟨ygf fun q e=>by obtain rfl:q=0:=by omega
                        rfl,trivial⟩
 simp only[yw,ygd,go_sem,zA,zB,↓reduceIte,reduceCtorEq]
theorem ybkh{k:Cnt}(hk:k.ok)(F:k.steps<4096){s e:Nat}(y:s≠0)(c:s<2^24)(t:e<2^24):Returns zG 215 [.ag (cntV k),.i .u32 s,.i .u32 e] (.tp [.ag (cntV (addP k s e)),.i .i64 0]):=by
 refine Returns.of ((okG 215) _ _ ?_);have m:=ybtz hk (by omega)
 have p:=ycly (s:=s) (by omega)
 have r:=ysz [s,e] (by simp) (fun i u=>by
  have:i=0\/i=1:=by simp at u;omega
  rcases this with rfl|rfl
  .exact c
  .exact t)
 obtain⟨z,A,B,C,D,o⟩:=hk;simp only[cntV]at m;simp only[cdE 215,rgE 215 0,rgE 215 1,cntV,go_sem,zA,zB,zC,↓reduceIte];refine m.use ?_;have w:((s:Int)==0)=false:=by simp;omega
 simp only[yw,rgE 215 3,w,go_sem,zA,zB,zD,zC,↓reduceIte,reduceCtorEq];refine .inl ⟨fun q v=>?_,r.useS ?_ ?_⟩
 .have:q=0\/q=1:=by omega
  rcases this with rfl|rfl
  .simp only[go_sem]
  .simp only[go_sem]
 .exact⟨ygf fun q v=>by
   have:q=0\/q=1:=by omega
   rcases this with rfl|rfl<;>rfl,trivial⟩
 have x:((k.steps:Int)==4096)=false:=by simp;omega
 simp only[rgE 215 5,rgE 215 7,x,go_sem,zA,zB,zD,↓reduceIte,reduceCtorEq];refine⟨ikw (by omega) (by omega),?_⟩
 simp only[rgE 215 8,clash,go_sem,zA,zB,zD,↓reduceIte,reduceCtorEq];refine p.use ?_;have n:=ycgc s c;have l:=u32_andNot (a:=k.pend) (b:=s) (by omega) (by omega)
 have E:difB k.pend s<2^24:=ybmm o;have g:=u32_and (a:=difB k.pend s) (b:=e) (by omega) (by omega)
 obtain⟨P,f⟩:∃P,difB k.pend s&&&e=P:=⟨_,rfl⟩;rw[f]at g;simp only[IntKind.bits]at l g;simp only[yw,go_sem,zA,zB,zD,↓reduceIte,reduceCtorEq];refine⟨ikw (by omega) (by omega),?_⟩
 simp only[rgE 215 9,rgE 215 10,rgE 215 11,l,g,go_sem,zA,zB,zD,↓reduceIte,reduceCtorEq];refine⟨by decide,ikw (by omega) (by omega),fun j=>?_,fun j=>?_⟩
 .have d:P=0:=by omega
  have h:addP k s e=⟨k.steps+1,k.moves+popP s,k.rounds+1,k.rounds+1,e⟩:=by unfold addP;simp only[f,d,if_true]
  rw[h];simp only[rgE 215 12,rgE 215 13,rgE 215 14,go_sem,zA,zB,zD,↓reduceIte,reduceCtorEq];exact Sim.refl _
 .have d:¬P=0:=by omega
  have h:addP k s e=⟨k.steps+1,k.moves+popP s,k.rounds,k.rounds+1,P⟩:=by unfold addP;simp only[f,if_neg d]
  rw[h];simp only[rgE 215 14,go_sem,zA,zB,↓reduceIte];exact Sim.refl _
end Sh
end
section
def netP(ls:List (Int×Int)):Nat:=ls.foldl (fun a l=>a|||2^l.1.toNat) 0
theorem ycaj(ls:List (Int×Int))(k:Nat)(h:k<ls.length):netP (ls.take (k+1))=netP (ls.take k)|||2^(ls.getD k (0,0)).1.toNat:=by
 unfold netP;rw[zAH h,zAR,Sh.getD_at h];rfl
theorem ycxq(ls:List (Int×Int))(h:∀l∈ls,l.1<24):netP ls<2^24:=by
 unfold netP
 have:∀(ls:List (Int×Int)) (a:Nat),(∀l∈ls,l.1<24)->a<2^24->ls.foldl (fun a l=>a|||2^l.1.toNat) a<2^24:=by
  intro ls
  induction ls with
  |nil=>intro a _ h;exact h
  | cons l ls e =>
    intro a b c;refine e _ (fun x d=>b x (zM _ d)) (Nat.or_lt_two_pow c ?_);have:=b l zQ;exact zBA (by omega) (by omega)
 exact this ls 0 h (by decide)
namespace Sh
open Ev Go.RowKit
theorem u32k{a:Nat}(h:a<2^32):inK .u32 (a:Int):=⟨by simp[IntKind.min,IntKind.signed],by simp[IntKind.max,IntKind.bits,IntKind.signed];omega⟩
theorem ybmv{g:Gr}(b:ybe g):Returns zG 136 [grV g] (.i .u32 (2^g.ids.length-1:Nat)):=by
 refine Returns.of ((okG 136) _ _ ?_);have d:=b.2.2.1;have e:=b.2.1;simp only[cdE 136,rgE 136 0,rgE 136 1,grV,yj,go_sem,zA,zB,zD,zC,↓reduceIte,reduceCtorEq];have a:=yms (v:=g.ids.length) (by omega)
 rw[zZ]at a;have f:2^g.ids.length<2^32:=zBA (by omega) (by omega)
 have h:1<=2^g.ids.length:=Nat.one_le_two_pow;have c:(((2^g.ids.length:Nat):Int))-1=((2^g.ids.length-1:Nat):Int):=by omega
 rw[a,c];refine⟨⟨by omega,by show _<((32:Nat):Int);omega⟩,u32k (by omega),Sim.refl _⟩
theorem ybax{g:Gr}(z:ybe g):Returns zG 135 [grV g] (usV (g.ports.map netP)):=by
 refine Returns.of ((okG 135) _ _ ?_);have M:=z.2.2.1;have N:=z.2.1;simp only[cdE 135,rgE 135 0,rgE 135 1,rgE 135 2,grV,yj,yba,go_sem,zA,zB,zC,↓reduceIte,reduceCtorEq];refine⟨by omega,?_⟩
 obtain⟨n,s⟩:∃n,g.ports.length=n:=⟨_,rfl⟩
 let val:Nat->Nat->Nat:=fun k i=>if i<k then netP (g.ports.getD i [])else 0
 refine ybk (σ:=Nat) (fun k=>⟨[(15,.i .i64 k),(14,.i .i64 n),(13,yba g.ports),(3,.os (11,0) 0 n true)],
  [(11,.one (some ⟨27,false,1,n,fun i=>[.i .u32 (val k i:Nat)]⟩))]⟩) (fun k=>k<=n) (fun k=>n-k) 0 (zAF _) ?_ ?_
 .refine yx ?_;simp only[yba,s,wk,go_sem,zA,zC,↓reduceIte,reduceCtorEq];simp[val]
 .intro k hk;obtain⟨L,y⟩:∃L,g.ports.getD k []=L:=⟨_,rfl⟩;simp only[rgE 135 3,rgE 135 4,rgE 135 5,yba,ybd,s,y,go_sem,zA,zB,↓reduceIte,reduceCtorEq];refine⟨fun E=>?_,fun E=>?_⟩
  .have I:k<n:=by omega
   have p:k<g.ports.length:=by omega
   have r:∀l∈L,0<=l.1/\l.1<24:=fun l d=>by
    rw[<-y,getD_at p]at d;obtain⟨H,K,_⟩:=(z.2.2.2.2.2.1 ⟨k,p⟩).1 l d;exact⟨H,by omega⟩
   have h:=z.deg_lt (v:=k);rw[y]at h;refine⟨by omega,?_⟩
   obtain⟨m,B⟩:∃m,L.length=m:=⟨_,rfl⟩;rw[B]
   let c:Nat->Nat->Nat:=fun j i=>if i<k then netP (g.ports.getD i [])else if i=k then netP (L.take j)else 0
   refine ybk (σ:=Nat) (fun j=>⟨[(22,.i .i64 j),(21,.i .i64 m),(20,ybd L),(4,.i .i64 k),(15,.i .i64 k),(14,.i .i64 n),(13,yba g.ports),(3,.os (11,0) 0 n true)],
    [(11,.one (some ⟨27,false,1,n,fun i=>[.i .u32 (c j i:Nat)]⟩))]⟩) (fun j=>j<=m) (fun j=>m-j) 0 (zAF _) ?_ ?_
   .refine yx ?_;simp only[yba,ybd,s,B,wk,go_sem,zA,zC,↓reduceIte,reduceCtorEq];intro i A;simp only[val,c]
    by_cases q:i<k
    .rw[if_pos q,if_pos q]
    .rw[if_neg q,if_neg q]
     by_cases e:i=k
     .rw[if_pos e];rfl
     .rw[if_neg e]
   .intro j O;obtain⟨l,d⟩:∃l,L.getD j (0,0)=l:=⟨_,rfl⟩;simp only[rgE 135 6,rgE 135 7,yba,ybd,s,B,d,go_sem,zA,zB,zC,↓reduceIte,reduceCtorEq];refine⟨fun D=>⟨by omega,?_⟩,fun D=>?_⟩
    .have o:j<L.length:=by omega
     have J:=r l (by rw[<-d,getD_at o];exact zY _)
     obtain⟨t,F⟩:∃t:Nat,l.1=t:=⟨l.1.toNat,by omega⟩
     have f:t<24:=by omega
     have G:c j k<2^24:=by
      simp only[c,if_neg (zAU k),if_true];exact ycxq _ fun l d=>(r l (zAY d)).2
     have P:2^t<2^24:=zBA (by omega) f
     have w:=yms (v:=t) (by omega)
     have u:=u32_or (a:=c j k) (b:=2^t) (by omega) (by omega)
     rw[zZ]at w;simp only[IntKind.bits]at u;simp only[rgE 135 8,F,clash,w,u,go_sem,zA,zB,zD,↓reduceIte,reduceCtorEq];refine⟨by omega,by omega,⟨by omega,by show _<((32:Nat):Int);omega⟩,by omega,by omega,by decide,?_⟩
     simp only[rgE 135 9,go_sem,zA,zB,↓reduceIte,reduceCtorEq];refine⟨ikw (by omega) (by omega),?_⟩
     refine ybw (j+1) ?_;refine yx ?_;simp only[wk,go_sem,zA,zC,↓reduceIte,reduceCtorEq];refine⟨by omega,fun i A=>?_⟩
     have x:=ycaj L j o;rw[d,F,zZ]at x
     by_cases q:i=k
     .simp only[if_pos q];subst q;simp only[go_sem,wk,go_sem,reduceCtorEq];simp only[c,if_neg (zAU i),if_true,x]
     .simp only[if_neg q];simp only[go_sem,wk,go_sem,reduceCtorEq];simp only[c,if_neg q]
    .obtain rfl:j=m:=by omega
     simp only[rgE 135 10,go_sem,zA,zB,↓reduceIte,reduceCtorEq];refine⟨ikw (by omega) (by omega),?_⟩
     refine ybw (k+1) ?_;refine yx ?_;simp only[wk,go_sem,zA,zC,↓reduceIte,reduceCtorEq];refine⟨by omega,fun i A=>?_⟩
     simp only[val,c]
     by_cases q:i<k
     .rw[if_pos q,if_pos (by omega)]
     .rw[if_neg q]
      by_cases e:i=k
      .rw[if_pos e,if_pos (by omega),e,y,<-B,zAE]
      .rw[if_neg e,if_neg (by omega)]
  .obtain rfl:k=n:=by omega
   simp only[rgE 135 11,go_sem,zA,zB,↓reduceIte,reduceCtorEq];unfold usV;rw[zAA,s];refine ygf fun i A=>?_;have C:i<g.ports.length:=by omega
   simp only[val,if_pos A];simp[zK,C]
theorem yto(net:SV){e s:Nat}(h:e<2^24)(g:s≠0)(j:s<2^24)(c:difB s e=0):Returns zG 213 [net,.i .i64 3,.i .u32 e,.i .u32 s] (.b true):=by
 refine Returns.of ((okG 213) _ _ ?_);have f:((s:Int)==0)=false:=by simp;omega
 have d:=u32_andNot (a:=s) (b:=e) (by omega) (by omega)
 rw[c]at d;simp only[zAW,IntKind.bits]at d;simp only[cdE 213,rgE 213 0,rgE 213 1,f,d,zAI,go_sem,zA,zB,↓reduceIte,reduceCtorEq];simp only[rgE 213 3,rgE 213 4,rgE 213 6,rgE 213 8,rgE 213 10,zAM,ygd,go_sem,zA,zB,↓reduceIte,reduceCtorEq]
theorem ybkb(net:SV)(m:net.cells.all one1=true){e w:Nat}(l:e<2^24)(n:e≠0)(o:w<2^32):Returns zG 139 [net,.i .i64 3,.i .u32 e,.i .u32 w] (.i .u32 (resD e w)):=by
 refine Returns.of ((okG 139) _ _ ?_);have d:=u32_and (a:=w) (b:=e) (by omega) (by omega)
 have j:=u32_neg (a:=e) (by omega) (by omega)
 have h:=u32_and (a:=e) (b:=2^32-e) (by omega) (by omega)
 obtain⟨W,c⟩:∃W,w&&&e=W:=⟨_,rfl⟩;rw[c]at d;simp only[IntKind.bits]at d h;simp only[cdE 139,rgE 139 0,rgE 139 1,rgE 139 2,d,m,go_sem,zA,zB,zC,↓reduceIte,reduceCtorEq];have k:W<2^24:=by rw[<-c,Nat.and_comm];exact ybxk l
 refine⟨fun q=>?_,fun q=>?_⟩
 .have g:W=0:=by omega
  have f:resD e w=e&&&(2^32-e):=by unfold resD;rw[if_pos (by rw[c];exact g)];rfl
  rw[f];simp only[rgE 139 3,rgE 139 4,rgE 139 5,rgE 139 7,rgE 139 14,rgE 139 16,IntKind.signed,j,h,zAM,go_sem,zA,zB,↓reduceIte,reduceCtorEq];exact Sim.refl _
 .have g:¬W=0:=by omega
  have f:resD e w=W:=by unfold resD;rw[if_neg (by rw[c];exact g),c]
  rw[f];simp only[rgE 139 4,rgE 139 5,rgE 139 7,rgE 139 14,rgE 139 16,zAM,go_sem,zA,zB,↓reduceIte,reduceCtorEq];exact Sim.refl _
end Sh
end
section
namespace Sh
open Ev Go.RowKit
instance:Inhabited Cnt:=⟨⟨0,0,0,0,0⟩⟩
def seeO(a:List Conf)(b:List Cnt):Own:=[(1,.one (some ⟨52,true,1,1,fun _=>[.os (2,0) 0 a.length true]⟩)),(2,.one (some ⟨41,false,1,a.length,fun i=>[ybf (a.getD i [])]⟩)),
 (3,.one (some ⟨53,true,1,1,fun _=>[.os (4,0) 0 b.length true]⟩)),(4,.one (some ⟨45,false,5,b.length,fun i=>cntV (b.getD i default)⟩))]
def ycxw:Own:=[(1,.one (some ⟨52,true,1,1,fun _=>[.a (.slice none 0 0)]⟩)),(3,.one (some ⟨53,true,1,1,fun _=>[.a (.slice none 0 0)]⟩))]
theorem yckg(a:List Conf)(b:List Cnt)(B:0<a.length/\a.length<=5000)(C:0<b.length/\b.length<=5000){c:Conf}(y:∀s∈c,0<s.length/\s.length<=1000)(A:c.length<=1000)(e:Nat)(k:Cnt) :
 Cm zG 140 [(1,0),(3,0)] (seeO a b) [ybf c,.i .u32 e,.ag (cntV k),.pt (1,0) 0 0,.pt (3,0) 0 0] fun r o=>r = .tp []/\o=seeO (a++[c]) (b++[k]):=by
 refine(okGM 140) [(1,0),(3,0)] [] _ _ _ ?_;obtain⟨n,p⟩:∃n,a.length=n:=⟨_,rfl⟩;obtain⟨m,j⟩:∃m,b.length=m:=⟨_,rfl⟩;have w:=ypw c y A;obtain⟨v,f⟩:∃O,seeO (a++[c]) (b++[k])=O:=⟨_,rfl⟩;rw[f];simp only[cdE 140,rgE 140 0,rgE 140 1,rgE 140 2,seeO,cntV,p,j,go_sem,zA,zB,zC,↓reduceIte,reduceCtorEq];refine w.use ?_;simp only[yw,clash,ygo,go_sem,zA,zB,zD,zC,↓reduceIte,reduceCtorEq];refine⟨by decide,⟨by omega,by omega⟩,by decide,by decide,⟨by omega,by omega⟩,.tp [],v,?_,?_,rfl,rfl⟩
 .subst f;refine yev [(2,fun i=>(12,i)),(4,fun i=>(16,i))] [] [] ?_;simp only[seeO,cntV,zS,p,j,wk,go_sem,zA,zC,↓reduceIte,reduceCtorEq];have t:∀{g:Type}(l:List g) (x d:g) (i:Nat),i<l.length->(l++[x]).getD i d=l.getD i d:=fun l x d i h=>by simp[zK,zAC h]
  have u:∀{g:Type}(l:List g) (x d:g),(l++[x]).getD l.length d=x:=fun l x d=>by simp[zK]
  refine⟨fun i z=>?_,fun i z=>?_⟩
  .by_cases q:i<n
   .simp only[if_pos q,t a c [] i (by omega)]
    simp only[go_sem,wk,go_sem]
   .obtain rfl:i=n:=by omega
    simp only[if_neg q,zW,zT];have e:=u a c [];rw[p]at e;simp only[e,wk,go_sem]
  .by_cases q:i<m
   .simp only[if_pos q,t b k default i (by omega)]
    simp only[go_sem,wk,go_sem,reduceCtorEq]
   .obtain rfl:i=m:=by omega
    simp only[if_neg q,zW,zT];have e:=u b k default;rw[j]at e;simp only[e,wk,go_sem,reduceCtorEq]
 .subst f;simp only[seeO,cntV,ybz,yeg,wk,go_sem,zA,↓reduceIte]
theorem ybwc{c:Conf}(f:∀s∈c,0<s.length/\s.length<=1000)(h:c.length<=1000)(e:Nat)(k:Cnt) :
 Cm zG 140 [(1,0),(3,0)] ycxw [ybf c,.i .u32 e,.ag (cntV k),.pt (1,0) 0 0,.pt (3,0) 0 0] fun r o=>r = .tp []/\o=seeO [c] [k]:=by
 refine(okGM 140) [(1,0),(3,0)] [] _ _ _ ?_;have d:=ypw c f h;obtain⟨b,a⟩:∃O,seeO [c] [k]=O:=⟨_,rfl⟩;rw[a];simp only[cdE 140,rgE 140 0,rgE 140 1,rgE 140 2,ycxw,cntV,go_sem,zA,zB,zC,↓reduceIte,reduceCtorEq];refine d.use ?_;simp only[yw,clash,ygo,go_sem,zA,zB,zD,zC,zBI,↓reduceIte,reduceCtorEq];refine⟨by decide,by decide,by decide,.tp [],b,?_,?_,rfl,rfl⟩
 .subst a;refine yev [(2,fun i=>(12,i)),(4,fun i=>(16,i))] [] [] ?_;simp only[seeO,cntV,wk,go_sem,zA,zC,↓reduceIte,reduceCtorEq];refine⟨fun i g=>?_,fun i g=>?_⟩
  .obtain rfl:i=0:=by omega
   simp only[zT];simp only[zAO,wk,go_sem]
  .obtain rfl:i=0:=by omega
   simp only[zT];simp only[zAO,wk,go_sem,reduceCtorEq]
 .subst a;simp only[seeO,cntV,ybz,yeg,wk,go_sem,zA,↓reduceIte]
structure DaemonOk(kind:Int)(net:List Nat)(res:Nat->Nat->Nat):Prop where
 resolve:∀(e w:Nat),e<2^24->e<2^net.length->e≠0->w<2^32->Returns zG 139 [usV net,.i .i64 kind,.i .u32 e,.i .u32 w] (.i .u32 (res e w))
 permits:∀(e w:Nat),e<2^24->e<2^net.length->e≠0->w<2^32->Returns zG 213 [usV net,.i .i64 kind,.i .u32 e,.i .u32 (res e w)] (.b true)
 zero:∀(w:Nat),w<2^32->∃x:Nat,Returns zG 139 [usV net,.i .i64 kind,.i .u32 0,.i .u32 w] (.i .u32 x)
 sub:∀(e w:Nat),e≠0->e<2^24->res e w≠0/\subB (res e w) e
theorem yxt{kind:Int}{net:List Nat}{res:Nat->Nat->Nat}(g:DaemonOk kind net res)(rest:SV)(c:SV)(mv:SV){ws:List Nat}(j:∀k,ws.getD k 0<2^32){e:Nat}(h:e<2^24)(a:e<2^net.length)(f:e≠0){k:Nat}(hk:k<ws.length) :
 Returns zG 138 [.i .i64 k,.i .u32 e,.rf [mv,usV net,.i .i64 kind,c,rest],.rf [usV ws]] (.tp [.i .u32 (res e (ws.getD k 0)),.b true]):=by
 refine Returns.of ((okG 138) _ _ ?_);have d:=g.resolve e (ws.getD k 0) h a f (j k);have l:((e:Int)!=0)=true:=by simp;omega
 simp only[usV]at d;simp only[cdE 138,rgE 138 0,rgE 138 1,usV,clash,go_sem,zA,zB,zD,↓reduceIte,reduceCtorEq];refine⟨by omega,d.use ?_⟩
 simp only[yw,clash,l,go_sem,zA,zB,↓reduceIte,reduceCtorEq];exact Sim.refl _
theorem yxv{kind:Int}{net:List Nat}{res:Nat->Nat->Nat}(d:DaemonOk kind net res)(rest:SV)(a:SV)(mv:SV){ws:List Nat}(e:∀k,ws.getD k 0<2^32){k:Nat}(hk:k<ws.length) :
 ∃x:Nat,Returns zG 138 [.i .i64 k,.i .u32 0,.rf [mv,usV net,.i .i64 kind,a,rest],.rf [usV ws]] (.tp [.i .u32 x,.b false]):=by
 obtain⟨x,c⟩:=d.zero (ws.getD k 0) (e k);refine⟨x,Returns.of ((okG 138) _ _ ?_)⟩;simp only[usV]at c;simp only[cdE 138,rgE 138 0,rgE 138 1,usV,clash,go_sem,zA,zB,zD,↓reduceIte,reduceCtorEq];refine⟨by omega,c.use ?_⟩
 simp only[yw,clash,zAI,go_sem,zA,zB,↓reduceIte,reduceCtorEq];exact Sim.refl _
theorem ygj{s e n:Nat}(h:subB s e)(b:e<2^n):s<2^n:=by
 refine Nat.lt_pow_two_of_testBit _ fun i c=>?_;cases a:s.testBit i with
 |false=>rfl
 | true =>
   have:=h i a;rw[zAS (zL b (zV (by omega) c))]at this
   cases this
theorem yqp{s e:Nat}(h:subB s e):difB s e=0:=by
 rw[ych];intro i;rw[yqy];cases a:s.testBit i with
 |false=>rfl
 |true=>rw[h i a];rfl
theorem yoo(e w:Nat)(b:e≠0)(c:e<2^24):resD e w≠0/\subB (resD e w) e:=by
 unfold resD;split
 .exact⟨ybmp b (by omega),yur e⟩
 .rename_i h
  refine⟨h,fun i a=>?_⟩;rw[zAP,zI]at a;exact a.2
theorem ybkx(net:List Nat):DaemonOk 3 net resD where
 resolve:=fun e w he _ h0 hw=>ybkb (usV net) (by simp[usV,ybdg,ybmo]) he h0 hw
 permits:=fun e w he _ h0 hw=>by
  obtain⟨h1,h2⟩:=yoo e w h0 he;exact yto (usV net) he h1 (ygj h2 he) (yqp h2)
 zero:=fun w hw=>⟨0,by
  refine Returns.of ((okG 139) _ _ ?_);have a0:=u32_and (a:=w) (b:=0) (by omega) (by omega)
  rw[zCT]at a0;have a1:IntKind.wrap .u32 (0-0)=0:=by decide
  have a2:=u32_and (a:=0) (b:=0) (by omega) (by omega)
  rw[zCT]at a2;simp only[zAW,IntKind.bits]at a0 a2;simp only[usV,cdE 139,rgE 139 0,rgE 139 1,rgE 139 2,rgE 139 3,rgE 139 4,rgE 139 5,rgE 139 7,rgE 139 14,rgE 139 16,IntKind.signed,a0,a1,a2,zAM,ycc,go_sem,zA,zB,zC,↓reduceIte,reduceCtorEq];rfl⟩
 sub:=fun e w h0 he=>yoo e w h0 he
end Sh
end
section
def stAt(S:Sys)(res:Nat->Nat->Nat):List Nat->Conf->Cnt->Nat->Conf×Cnt
 |_,c,k,0=>(c,k)
 |ws,c,k,i+1=>stAt S res ws.tail (S.mv c (res (S.en c) (ws.getD 0 0))) (addP k (res (S.en c) (ws.getD 0 0)) (S.en (S.mv c (res (S.en c) (ws.getD 0 0))))) i
theorem yqa(S:Sys)(res:Nat->Nat->Nat):∀(i:Nat) (ws:List Nat) (c:Conf) (k:Cnt),
 stAt S res ws c k (i+1)=(S.mv (stAt S res ws c k i).1 (res (S.en (stAt S res ws c k i).1) (ws.getD i 0)),addP (stAt S res ws c k i).2 (res (S.en (stAt S res ws c k i).1) (ws.getD i 0)) (S.en (S.mv (stAt S res ws c k i).1 (res (S.en (stAt S res ws c k i).1) (ws.getD i 0)))))
 |0,ws,c,k=>rfl
 | i+1,ws,c,k=>by
   show stAt S res ws.tail _ _ (i+1)=_;rw[yqa S res i ws.tail];have e:ws.tail.getD i 0=ws.getD (i+1) 0:=by cases ws<;>rfl
   rw[e];rfl
theorem ybjj(S:Sys)(res:Nat->Nat->Nat):∀(ws:List Nat) (c:Conf) (k:Cnt) (i:Nat),(∀j,j<i->S.en (stAt S res ws c k j).1≠0)->i<=ws.length->(i=ws.length\/S.en (stAt S res ws c k i).1=0) ->
 S.run res ws c k=(zO i).map fun j=>stAt S res ws c k (j+1)
 | [],c,k,i,_,b,_=>by
   have:i=0:=by simpa using b
   subst this;rfl
 | w :: ws,c,k,0,_,_,h=>by
   have a:S.en c=0:=by
    rcases h with h|h
    .simp at h
    .exact h
   unfold Sys.run;rw[if_pos a];rfl
 | w :: ws,c,k,i+1,d,b,h=>by
   have a:S.en c≠0:=d 0 (by omega)
   unfold Sys.run;rw[if_neg a];simp only
   have e:=ybjj S res ws (S.mv c (res (S.en c) w)) (addP k (res (S.en c) w) (S.en (S.mv c (res (S.en c) w)))) i (fun j f=>d (j+1) (by omega)) (by simpa using b) (by
    rcases h with h|h
    .exact .inl (by simpa using h)
    .exact .inr h)
   rw[e,zBX,zAV,zCU];rfl
theorem ybab(S:Sys)(res:Nat->Nat->Nat)(ws:List Nat)(c:Conf)(i:Nat)(b:∀j,j<i->S.en (stAt S res ws c (yeo (S.en c)) j).1≠0)(a:i<=ws.length)(h:i=ws.length\/S.en (stAt S res ws c (yeo (S.en c)) i).1=0) :
 S.runs res ws c=(zO (i+1)).map fun j=>stAt S res ws c (yeo (S.en c)) j:=by
 unfold Sys.runs;rw[ybjj S res ws c _ i b a h,zBX,zAV,zCU];rfl
theorem ycsn{kind:Int}{b:Int×Int}(c:b.1<=b.2)(a:kind=3->b.1 <= -1 /\ -1<=b.2)(x:Int):b.1<=ygt kind b x/\ygt kind b x<=b.2:=by
 unfold ygt;split
 .assumption
 .split
  .exact a (by assumption)
  .split<;>omega
namespace Sh
theorem ybpe{p:ProgT}{g:Gr}(j:ybe g)(i:p.ok=true)(f:yhj p g=true){x:VarR}(d:x∈p.vars)(v:Nat):(ybj g v x).1<=(ybj g v x).2/\(x.kind=3->(ybj g v x).1 <= -1 /\ -1<=(ybj g v x).2):=by
 have c:=List.all_eq_true.1 f x d;have a:=i;unfold ProgT.ok at a;simp only[zI,decide_eq_true_eq]at a;have b:=ybnq (List.all_eq_true.1 a.1.1.2 _ d);rcases b.1 with h|h|h
 .have e:ybj g v x=ybj g 0 x:=by unfold ybj;rw[if_pos h,if_pos h]
  rw[e];simp[h]at c;exact⟨c.1,fun q=>by omega⟩
 .unfold ybj;rw[if_neg (by omega),if_pos h]
  exact⟨by decide,fun q=>by omega⟩
 .unfold ybj;rw[if_neg (by omega),if_neg (by omega),if_pos h]
  exact⟨by simp only[];omega,fun _=>⟨by simp only[];omega,by simp only[];omega⟩⟩
theorem ycdb{p:ProgT}{g:Gr}(l:ybe g)(n:p.ok=true)(k:yhj p g=true){v:Nat}{s:List Int}(f:yfu (p.vars.map (ybj g v)) s){a:Int}(o:0<=a/\a<p.vars.length)(y:Int) :
 yfu (p.vars.map (ybj g v)) (s.set a.toNat (ygt (p.vars.getD a.toNat default).kind (ybj g v (p.vars.getD a.toNat default)) y)):=by
 refine⟨by rw[List.length_set];exact f.1,fun i b x e d=>?_⟩
 by_cases q:a.toNat=i
 .subst q;have c:a.toNat<p.vars.length:=by omega
  rw[zAD,zF c]at e;cases e
  have m:a.toNat<s.length:=by rw[f.1,zAA];exact c
  rw[zAT m]at d;cases d
  rw[getD_at c];obtain⟨h,j⟩:=ybpe l n k (zY c) v;exact ycsn h j y
 .rw[zBB q]at d;exact f.2 i b x e d
theorem yzr{p:ProgT}{g:Gr}(f:ybe g)(h:p.ok=true)(e:yhj p g=true)(c:Conf)(v:Nat):∀(sets:List (Int×Ex)) (s:List Int),(∀a∈sets,0<=a.1/\a.1<p.vars.length)->yfu (p.vars.map (ybj g v)) s->yfu (p.vars.map (ybj g v)) (yjl p g c v s sets)
 |[],s,_,b=>b
 | a::sets,s,d,b=>by
   show yfu _ (yjl p g c v (s.set _ _) sets);exact yzr f h e c v sets _ (fun x i=>d x (zM _ i)) (ycdb f h e b (d a zQ) _)
theorem yhz{p:ProgT}{g:Gr}(q:ybe g)(m:p.ok=true)(o:yhj p g=true){c:Conf}(n:ycb p g c=true)(s:Nat):ycb p g (yez p g c s)=true:=by
 have h:=(ydi _ _ _).1 n;refine(ydi _ _ _).2 ⟨by rw[yeb];exact h.1,fun v r i=>?_⟩
 have l:v<c.length:=by
  have:=(List.getElem?_eq_some_iff.1 i).1
  rwa [yeb]at this
 have e:r=(yez p g c s).getD v []:=by simp[zK,i]
 rw[ygy p g c s l]at e;have b:=h.2 v (c.getD v []) (by rw[getD_at l];exact zF l)
 rw[e];split
 .unfold ysg;refine yzr q m o c v _ _ (fun a j=>?_) b;have f:=m;unfold ProgT.ok at f;simp only[zI,decide_eq_true_eq]at f
  by_cases k:(yea p g c v).toNat<p.rules.length
  .rw[getD_at k]at j;have d:=List.all_eq_true.1 f.2 _ (zY k);unfold RuleT.ok at d;simp only[zI,decide_eq_true_eq]at d;have:=List.all_eq_true.1 d.2 a j;simp only[zI,decide_eq_true_eq]at this;exact this.1.1
  .have:p.rules.getD (yea p g c v).toNat default=default:=by simp[zK,zAX (Nat.le_of_not_lt k)]
   rw[this]at j;cases j
 .exact b
theorem yfc{p:ProgT}{g:Gr}(b:ybe g)(d:p.ok=true){c:Conf}(e:ycb p g c=true):(∀s∈c,0<s.length/\s.length<=1000)/\c.length<=1000:=by
 have h:=ydf b d e;have a:=d;unfold ProgT.ok at a;simp only[zI,decide_eq_true_eq]at a;have:=b.2.1;exact⟨fun s f=>by have:=(h.row s f).1;omega,by rw[h.len];omega⟩
theorem yrx(p:ProgT)(g:Gr)(c:Conf):yh p g c<2^g.ids.length:=yrh _ _
end Sh
end
section
namespace Sh
open Ev Go.RowKit
def seeC:SV:=.fn 140 [] [.pt (201,0) 0 0,.pt (203,0) 0 0]
def seeX(a:List Conf)(b:List Cnt):Own:=[(201,.one (some ⟨52,true,1,1,fun _=>[.os (202,0) 0 a.length true]⟩)),(202,.one (some ⟨41,false,1,a.length,fun i=>[ybf (a.getD i [])]⟩)),
 (203,.one (some ⟨53,true,1,1,fun _=>[.os (204,0) 0 b.length true]⟩)),(204,.one (some ⟨45,false,5,b.length,fun i=>cntV (b.getD i default)⟩))]
def yqm:Own:=[(201,.one (some ⟨52,true,1,1,fun _=>[.a (.slice none 0 0)]⟩)),(203,.one (some ⟨53,true,1,1,fun _=>[.a (.slice none 0 0)]⟩))]
def TT:(Nat->Option ABlk)->Value->Prop:=fun _ _=>True
def yci(p:ProgT)(g:Gr):SV:=.ex TT (.rf (yfp p.raw g))
def yfj(p:ProgT)(g:Gr)(net:List Nat)(kind:Int):List SV:=[yci p g,usV net,.i .i64 kind,.i .u32 (2^g.ids.length-1:Nat),seeC]
def ycib(p:ProgT)(g:Gr)(net:List Nat)(kind:Int)(ws:List Nat):Own:=[(205,.one (some ⟨78,true,5,1,fun _=>yfj p g net kind⟩)),(206,.one (some ⟨25,true,1,1,fun _=>[usV ws]⟩))]
theorem gmr{a:Type}(f:Nat->a)(n k:Nat)(d:a)(h:k<n):((zO n).map f).getD k d=f k:=by simp[zK,h]
def mapR{a:Type}(n:Nat)(f:Nat->a):List a:=(zO n).map f
theorem gmR{a:Type}(f:Nat->a)(n k:Nat)(d:a)(h:k<n):(mapR n f).getD k d=f k:=gmr f n k d h
theorem yfe{a:Type}(n:Nat)(f:Nat->a):(mapR n f).length=n:=by simp[mapR]
theorem yun{a b:Type}(n:Nat)(f:Nat->a)(h:a->b):(mapR n f).map h=mapR n fun k=>h (f k):=by simp[mapR,Function.comp_def]
theorem yccp{a:Type}(f:Nat->a)(n:Nat)(x d:a)(b:f n=x)(k:Nat)(h:k<n+1):(((zO n).map f)++[x]).getD k d=f k:=by
 rw[<-b,show[f n]=[n].map f from rfl,<-zBU,<-zCM]
 exact gmr f (n+1) k d h
section
variable {Q1 Q2:(Nat->Option ABlk)->Value->Prop}{p:ProgT}{g:Gr}
theorem ybsj(h:Checked Q1 Q2 p g){kind:Int}{net:List Nat}(b0:g.ids.length<=net.length){res:Nat->Nat->Nat}(hd:DaemonOk kind net res){c:Conf}(hc:ycb p g c=true){ws:List Nat}(hw:∀k,ws.getD k 0<2^32)(b7:ws.length<=4000) :
 Cm zG 137 [(201,0),(203,0)] (yqm++ycib p g net kind ws) [.ag (yfj p g net kind),ybf c,.i .i64 ws.length,.fn 138 [] [.pt (205,0) 0 0,.pt (206,0) 0 0]]
  fun r o=>(∃l1 l2 c' k',r = .tp [.ag (usV l1::usV l2::ybf c'::cntV k'),.i .i64 0])/\o=seeX ((ybq p g).runs res ws c |>.map (·.1)) ((ybq p g).runs res ws c |>.map (·.2)):=by
 refine(okGM 137) [(201,0),(203,0)] [140] _ _ _ ?_;obtain⟨O2,v⟩:∃O,seeX ((ybq p g).runs res ws c |>.map (·.1)) ((ybq p g).runs res ws c |>.map (·.2))=O:=⟨_,rfl⟩;rw[v];obtain⟨a1,a2⟩:=yfc h.hg h.hp hc;have X:=ydf h.hg h.hp hc;have hC:=ypw c a1 a2;have hE:=yew p h.hg h.hp X;have hX:SimL [yci p g,ybf c] [.rf (yfp p.raw g),ybf c]:=⟨yhb _ _,Sim.refl _,trivial⟩;have a8:=yrx p g c;have hid:=h.hg.2.2.1;have b3:=h.hg.2.1
 have b4:2^g.ids.length<=2^24:=zV (by omega) (by omega)
 simp only[cdE 137,rgE 137 0,rgE 137 1,rgE 137 2,yqm,ycib,yfj,seeC,usV,yci,go_sem,zA,zB,zC,zJ,↓reduceIte,reduceCtorEq];refine hC.use ?_;simp only[yw,rgE 137 3,clash,go_sem,zA,zB,zD,zJ,↓reduceIte,reduceCtorEq];refine hE.useS ?_ ?_
 .exact hX
 have ha:IntKind.wrap .u32 (((zX (IntKind.bits .u32) (yh p g c:Int))&&&zX (IntKind.bits .u32) ((2^g.ids.length-1:Nat):Int)).toNat:Int)=(yh p g c:Int):=by
  have e:=u32_and (a:=yh p g c) (b:=2^g.ids.length-1) (by omega) (by omega)
  rw[zU a8]at e;exact e
 simp only[IntKind.bits]at ha;simp only[yw,rgE 137 4,clash,ha,go_sem,zA,zB,zC,zJ,↓reduceIte];have hB:=yxu (e:=yh p g c) (by omega)
 obtain⟨K0,y⟩:∃K,yeo (yh p g c)=K:=⟨_,rfl⟩;rw[y]at hB;refine hB.use ?_;simp only[rgE 137 5,cntV,go_sem,zA,zB,↓reduceIte,reduceCtorEq];have hS:=ybwc a1 a2 (yh p g c) K0;simp only[cntV]at hS;refine ydk hS [(1,201),(3,203)] 200 [1,2,3,4,8,9,10,11,12] [4,8,10,12,205,206] ?_ ?_
 .simp only[ycxw,to1,okN,ybz,yeg,ydp,yda,wk,go_sem,zA,zB,zC,zJ,↓reduceIte,reduceCtorEq]
 .rintro r o' ⟨rfl,rfl⟩;simp only[seeO,ykz,yjk,nuF,nu,difN,ydp,yda,Fam.ren,OB.ren,dim,yqu,ykc,go_sem,zA,zB,zJ,↓reduceIte,reduceCtorEq];simp only[rgE 137 6,rgE 137 7,splice,go_sem,zA,zB,zD,zC,zJ,zBI,↓reduceIte,reduceCtorEq]
  let f:Nat->Conf×Cnt:=stAt (ybq p g) res ws c K0
  let t:Nat->Nat:=fun i=>yh p g (f i).1
  let u:Nat->Nat:=fun i=>res (t i) (ws.getD i 0)
  refine ybk (σ:=Nat) (fun i=>⟨[(40,.i .i64 i),(39,.i .i64 ws.length),(1,ybf (f i).1),(3,.fn 138 [] [.pt (205,0) 0 0,.pt (206,0) 0 0]),(4,.pt (4,0) 0 0),(8,.pt (8,0) 0 0),(9,.i .i64 0),(10,.pt (10,0) 0 0),(11,.i .u32 (t i)),(12,.pt (12,0) 0 0)],
   [(4,.one (some ⟨78,true,5,1,fun _=>yfj p g net kind⟩)),
    (8,.one (some ⟨47,true,8,1,fun _=>[.a (.slice none 0 0),.a (.slice none 0 0),.a (.slice none 0 0),.i .i64 0,.i .i64 0,.i .i64 0,.i .i64 0,.i .u32 0]⟩)),
    (10,.one (some ⟨47,true,8,1,fun _=>[.os (301,0) 0 i true,.os (302,0) 0 (i+1) true,.a (.slice none 0 0),.i .i64 0,.i .i64 0,.i .i64 0,.i .i64 0,.i .u32 0]⟩)),
    (301,.one (some ⟨27,false,1,i,fun j=>[.i .u32 (u j)]⟩)),(302,.one (some ⟨27,false,1,i+1,fun j=>[.i .u32 (t j)]⟩)),
    (12,.one (some ⟨45,true,5,1,fun _=>cntV (f i).2⟩)),
    (201,.one (some ⟨52,true,1,1,fun _=>[.os (202,0) 0 (i+1) true]⟩)),(202,.one (some ⟨41,false,1,i+1,fun j=>[ybf (f j).1]⟩)),
    (203,.one (some ⟨53,true,1,1,fun _=>[.os (204,0) 0 (i+1) true]⟩)),(204,.one (some ⟨45,false,5,i+1,fun j=>cntV (f j).2⟩)),
    (205,.one (some ⟨78,true,5,1,fun _=>yfj p g net kind⟩)),(206,.one (some ⟨25,true,1,1,fun _=>[usV ws]⟩))]⟩)
   (fun i=>i<=ws.length/\(∀j,j<i->t j≠0)/\ycb p g (f i).1=true/\(f i).2.ok/\(f i).2.steps=i) (fun i=>ws.length-i) 0 ⟨zAF _,fun j hj=>absurd hj (zBV j),hc,by show K0.ok;rw[<-y];exact yvi (by omega),by show K0.steps=0;rw[<-y];rfl⟩ ?_ ?_
  .refine yev [(302,fun i=>(37,i))] [301] [] ?_;have L:f 0=(c,K0):=rfl;have Q:t 0=yh p g c:=rfl;simp only[yfj,yci,seeC,usV,cntV,L,Q,wk,go_sem,zA,zD,zC,zJ,↓reduceIte,reduceCtorEq];refine⟨fun i _=>⟨(301,0),rfl,?_⟩,?_⟩
   .simp only[go_sem,go_sem,zA,↓reduceIte]
   refine⟨fun i hi=>?_,fun i hi=>?_,fun i hi=>?_⟩
   .obtain rfl:i=0:=by omega
    simp only[zT];simp only[Q,wk,go_sem,reduceCtorEq]
   .obtain rfl:i=0:=by omega
    simp only[L,zAO,wk,go_sem]
   .obtain rfl:i=0:=by omega
    simp only[L,zAO,go_sem]
  .rintro i ⟨hi,hj,H,Z,b6⟩;obtain⟨b1,b2⟩:=yfc h.hg h.hp H;have a3:=ydf h.hg h.hp H;have a6:=yrx p g (f i).1
   have R:(i=ws.length\/t i=0)->(ybq p g).runs res ws c=mapR (i+1) f:=fun l=>by
    have e:=ybab (ybq p g) res ws c i;rw[show(ybq p g).en c=yh p g c from rfl,y]at e
    exact e hj hi l
   simp only[rgE 137 8,rgE 137 9,rgE 137 10,yfj,yci,seeC,usV,cntV,go_sem,zA,zB,zD,zJ,↓reduceIte,reduceCtorEq];refine⟨fun a9=>.inl ?_,fun a9=>?_⟩
   .have Y:i<ws.length:=by omega
    by_cases M:t i=0
    .obtain⟨x,T⟩:=yxv hd (.fn 140 [] [.rf [.sl 1 (i+1) fun j=>[ybf (f j).1]],.rf [.sl 5 (i+1) fun j=>cntV (f j).2]]) (.i .u32 (2^g.ids.length-1:Nat)) (yci p g) hw Y;simp only[yci,usV,cntV]at T;simp only[M,zAW];refine T.use ?_;simp only[yw,rgE 137 11,rgE 137 21,rgE 137 22,go_sem,zA,zB,zD,↓reduceIte,reduceCtorEq];refine⟨by decide,?_⟩
     simp only[ygo,go_sem];refine⟨.tp [.ag (usV (mapR i u)::usV (mapR (i+1) t)::ybf (f i).1::cntV (f i).2),.i .i64 0],O2,?_,?_,⟨_,_,_,_,rfl⟩,rfl⟩
     .subst v;rw[R (.inr M)];refine yev [] [] [(301,0),(302,0)] ?_;simp only[seeX,usV,cntV,yun,yfe,wk,go_sem,zA,zC,↓reduceIte,reduceCtorEq];refine⟨ybac ⟨yie ⟨ygf fun q l=>by rw[gmR _ _ _ _ l],ygf fun q l=>by rw[gmR _ _ _ _ l],Sim.refl _,Sim.refl _,Sim.refl _,Sim.refl _,Sim.refl _,Sim.refl _,trivial⟩,Sim.refl _,trivial⟩,fun q l=>?_,fun q l=>?_⟩
      .rw[gmR _ _ _ _ l];exact Sim.refl _
      .rw[gmR _ _ _ _ l];exact⟨rfl,rfl,rfl,rfl,rfl⟩
     .subst v;simp only[seeX,usV,cntV,ybz,yeg,wk,go_sem,zA,↓reduceIte]
    .have m:t i<2^24:=by show yh p g (f i).1<_;omega
     have E:t i<2^net.length:=zL a6 (zV (by omega) b0)
     have T:=yxt hd (.fn 140 [] [.rf [.sl 1 (i+1) fun j=>[ybf (f j).1]],.rf [.sl 5 (i+1) fun j=>cntV (f j).2]]) (.i .u32 (2^g.ids.length-1:Nat)) (yci p g) hw m E M Y;obtain⟨A,B⟩:=hd.sub (t i) (ws.getD i 0) M m;have hP:=hd.permits (t i) (ws.getD i 0) m E M (hw i);have w:u i<2^24:=ygj B m;have V:=ybcx p h.hg h.hp a3 (s:=u i) (by omega) B
     obtain⟨d,I⟩:∃d,yez p g (f i).1 (u i)=d:=⟨_,rfl⟩;rw[I]at V;have G:ycb p g d=true:=by rw[<-I];exact yhz h.hg h.hp h.hf H (u i)
     simp only[yci,usV,cntV]at T hP;refine T.use ?_;simp only[yw,rgE 137 11,rgE 137 12,go_sem,zA,zB,zD,zJ,↓reduceIte,reduceCtorEq];refine hP.use ?_;simp only[yw,rgE 137 14,go_sem,zA,zB,zD,zJ,↓reduceIte,reduceCtorEq];refine V.useS ?_ ?_
     .exact⟨yhb _ _,Sim.refl _,Sim.refl _,trivial⟩
     obtain⟨a4,a5⟩:=yfc h.hg h.hp G;have P:=ydf h.hg h.hp G;have S:=yew p h.hg h.hp P;have D:=yrx p g d;obtain⟨F,J⟩:∃e,yh p g d=e:=⟨_,rfl⟩;rw[J]at S D
     have W:IntKind.wrap .u32 (((zX (IntKind.bits .u32) (F:Int))&&&zX (IntKind.bits .u32) ((2^g.ids.length-1:Nat):Int)).toNat:Int)=(F:Int):=by
      have e:=u32_and (a:=F) (b:=2^g.ids.length-1) (by omega) (by omega)
      rw[zU D]at e;exact e
     simp only[IntKind.bits]at W;simp only[yw,rgE 137 15,clash,go_sem,zA,zB,zD,zJ,↓reduceIte,reduceCtorEq];refine S.useS ?_ ?_
     .exact⟨yhb _ _,Sim.refl _,trivial⟩
     have hA:=ybkh Z (by omega) A w (e:=F) (by omega)
     obtain⟨K2,z⟩:∃K,addP (f i).2 (u i) F=K:=⟨_,rfl⟩;rw[z]at hA;simp only[cntV]at hA;simp only[yw,rgE 137 16,clash,W,go_sem,zA,zB,zJ,↓reduceIte,reduceCtorEq];refine hA.use ?_;simp only[rgE 137 17,go_sem,zA,zB,↓reduceIte,reduceCtorEq]
     let N:List Conf:=(zO (i+1)).map fun j=>(f j).1
     let ks:List Cnt:=(zO (i+1)).map fun j=>(f j).2
     have lc:N.length=i+1:=by simp[N]
     have lk:ks.length=i+1:=by simp[ks]
     have U:=yckg N ks (by omega) (by omega) a4 a5 F K2
     simp only[cntV]at U;refine ydk U [(1,201),(2,202),(3,203),(4,204)] 400 [40,39,1,3,4,8,9,10,11,12,14] [4,8,10,301,302,12,205,206] ?_ ?_
     .simp only[seeO,lc,lk,cntV,to1,okN,ybz,yeg,ydp,yda,wk,go_sem,zA,zB,zC,zJ,↓reduceIte,reduceCtorEq];refine⟨fun q l=>?_,fun q l=>?_⟩
      .simp only[N,gmr _ _ _ _ l];exact Sim.refl _
      .simp only[ks,gmr _ _ _ _ l];exact⟨trivial,trivial,trivial,trivial,trivial⟩
     .rintro r o' ⟨rfl,rfl⟩;simp only[seeO,cntV,zS,lc,lk,ykz,yjk,nuF,nu,difN,ydp,yda,Fam.ren,OB.ren,dim,ygb,yqu,ykc,go_sem,zA,zJ,↓reduceIte];simp only[rgE 137 18,rgE 137 19,rgE 137 20,splice,go_sem,zA,zB,zD,zC,zJ,↓reduceIte,reduceCtorEq]
      have n:f (i+1)=(d,K2):=by
       show stAt (ybq p g) res ws c K0 (i+1)=_;rw[yqa];show(yez p g (f i).1 (u i),addP (f i).2 (u i) (yh p g (yez p g (f i).1 (u i))))=_;rw[I,J,z]
      have C:t (i+1)=F:=by
       show yh p g (f (i+1)).1=_;rw[n];exact J
      refine⟨⟨by omega,by omega⟩,⟨by omega,by omega⟩,ikw (by omega) (by omega),?_⟩
      refine ybb (i+1) ⟨by omega,fun j b5=>?_,by rw[n];exact G,by rw[n,<-z];exact yblp Z w A (by omega),by rw[n,<-z];show(f i).2.steps+1=i+1;omega⟩ (by omega) ?_
      .by_cases q:j=i
       .rw[q];exact M
       .exact hj j (by omega)
      refine yev [(301,fun i=>(90,i)),(302,fun i=>(96,i))] [] [] ?_;simp only[n,C,wk,go_sem,zA,zD,zC,↓reduceIte,reduceCtorEq];have a7:∀k,k<i+1+1->(N++[d]).getD k []=(f k).1:=yccp (fun j=>(f j).1) (i+1) d [] (by rw[n])
      have a0:∀k,k<i+1+1->(ks++[K2]).getD k default=(f k).2:=yccp (fun j=>(f j).2) (i+1) K2 default (by rw[n])
      refine⟨by omega,fun q l=>?_,fun q l=>?_,fun q l=>?_,fun q l=>?_⟩
      .by_cases q1:q<i
       .simp only[if_pos q1];simp only[go_sem,wk,go_sem,reduceCtorEq]
       .obtain rfl:q=i:=by omega
        simp only[if_neg q1,zW,zT];simp only[u,wk,go_sem,reduceCtorEq]
      .by_cases q1:q<i+1
       .simp only[if_pos q1];simp only[go_sem,wk,go_sem,reduceCtorEq]
       .obtain rfl:q=i+1:=by omega
        simp only[if_neg q1,zW,zT];simp only[C,wk,go_sem,reduceCtorEq]
      .rw[a7 q l];exact Sim.refl _
      .rw[a0 q l];exact⟨rfl,rfl,rfl,rfl,rfl⟩
   .obtain rfl:i=ws.length:=by omega
    simp only[rgE 137 21,rgE 137 22,go_sem,zA,zB,zD,↓reduceIte,reduceCtorEq];refine⟨by decide,?_⟩
    simp only[ygo,go_sem];refine⟨.tp [.ag (usV (mapR ws.length u)::usV (mapR (ws.length+1) t)::ybf (f ws.length).1::cntV (f ws.length).2),.i .i64 0],O2,?_,?_,⟨_,_,_,_,rfl⟩,rfl⟩
    .subst v;rw[R (.inl rfl)];refine yev [] [] [(301,0),(302,0)] ?_;simp only[seeX,usV,cntV,yun,yfe,wk,go_sem,zA,zC,↓reduceIte,reduceCtorEq];refine⟨ybac ⟨yie ⟨ygf fun q l=>by rw[gmR _ _ _ _ l],ygf fun q l=>by rw[gmR _ _ _ _ l],Sim.refl _,Sim.refl _,Sim.refl _,Sim.refl _,Sim.refl _,Sim.refl _,trivial⟩,Sim.refl _,trivial⟩,fun q l=>?_,fun q l=>?_⟩
     .rw[gmR _ _ _ _ l];exact Sim.refl _
     .rw[gmR _ _ _ _ l];exact⟨rfl,rfl,rfl,rfl,rfl⟩
    .subst v;simp only[seeX,usV,cntV,ybz,yeg,wk,go_sem,zA,↓reduceIte]
end
end Sh
end
section
namespace Sh
open Ev Go.RowKit
theorem Returns.exT{P:Program}{g:FuncId}{args:List SV}{r:SV}(h:Returns P g args r):Returns P g args (.ex TT r):=fun G m l f i j=>by
 obtain⟨v,k,x,a,b,c,d,e⟩:=h G m l f i j;exact⟨v,k,.ex TT r,a,b,c,rfl,.ex trivial (fun _ _ _ _ _=>trivial) (d▸e)⟩
section
variable {Q1 Q2:(Nat->Option ABlk)->Value->Prop}{p:ProgT}{g:Gr}
theorem ywj(h:Checked Q1 Q2 p g){kind:Int}(hk:1<=kind/\kind<=4){c:Conf}(d:ycb p g c=true){len:Nat}(e:len<=4096):Returns zG 72 [.ag (ybs Q1 Q2 p.raw),grV g,.i .i64 kind,ybf c,.i .i64 len] (.i .i64 0):=by
 refine Returns.of ((okG 72) _ _ ?_);have a:=ybio h c;rw[if_pos d]at a;have b:=ybtu kind;rw[decide_eq_true hk.1,decide_eq_true hk.2]at b;have f1:decide ((len:Int)>4096)=false:=by simp;omega
 simp only[ybs,grV]at a;simp only[cdE 72,rgE 72 0,rgE 72 1,ybs,grV,go_sem,zA,zB,zC,↓reduceIte,reduceCtorEq];refine a.use ?_;simp only[yw,rgE 72 2,rgE 72 4,zAI,go_sem,zA,zB,↓reduceIte,reduceCtorEq];refine b.use ?_;simp only[rgE 72 6,rgE 72 8,f1,ycc,Bool.and_self,go_sem,zA,zB,↓reduceIte,reduceCtorEq]
theorem ybaj(h:Checked Q1 Q2 p g):Returns zG 81 [.ag (yrg p.raw),grV g] (yci p g):=by
 have a:=h.hp;unfold ProgT.ok at a;simp only[zI,decide_eq_true_eq]at a;exact(ytr p.raw h.hg a.1.1.2 a.1.1.1.2).exT
theorem ybgw(h:Checked Q1 Q2 p g)(kind:Int):Cm zG 73 [(201,0),(203,0)] yqm [.ag (ybs Q1 Q2 p.raw),grV g,.i .i64 kind,seeC] fun r o=>r = .ag (yfj p g (g.ports.map netP) kind)/\o=yqm:=by
 refine(okGM 73) [(201,0),(203,0)] [] _ _ _ ?_;have c:=ybaj h;have a:=ybax h.hg;have b:=ybmv h.hg;simp only[grV]at c a b;simp only[cdE 73,rgE 73 0,rgE 73 1,ybs,grV,seeC,yqm,clash,go_sem,zA,zB,zC,↓reduceIte,reduceCtorEq];refine c.useS ?_ ?_
 .exact⟨yie ⟨Sim.refl _,yhb _ _,yhb _ _,trivial⟩,Sim.refl _,trivial⟩
 simp only[usV,yci]at a ⊢;simp only[yw,clash,go_sem,zA,zB,zD,↓reduceIte,reduceCtorEq];refine a.use ?_;simp only[go_sem,zB,zD,↓reduceIte];refine⟨by decide,b.use ?_⟩
 simp only[ygo,go_sem,zA,zB,↓reduceIte];refine⟨by decide,by decide,.ag (yfj p g (g.ports.map netP) kind),yqm,?_,?_,rfl,rfl⟩
 .refine yev [] [] [] ?_;simp only[yfj,yci,usV,seeC,yqm,wk,go_sem,zA,zC,↓reduceIte,reduceCtorEq]
 .simp only[yfj,yci,usV,seeC,yqm,ybz,yeg,wk,go_sem,zA,↓reduceIte]
theorem ycab(h:Checked Q1 Q2 p g){kind:Int}{net:List Nat}(f:g.ids.length<=net.length){res:Nat->Nat->Nat}(m:DaemonOk kind net res){c:Conf}(l:ycb p g c=true){ws:List Nat}(n:∀k,ws.getD k 0<2^32)(j:ws.length<=4000) :
 Cm zG 75 [(201,0),(203,0)] yqm [.ag (yfj p g net kind),ybf c,usV ws]
  fun r o=>(∃d l2 a b,r = .tp [.ag (usV d::usV l2::ybf a::cntV b),.i .i64 0])/\o=seeX ((ybq p g).runs res ws c |>.map (·.1)) ((ybq p g).runs res ws c |>.map (·.2)):=by
 refine(okGM 75) [(201,0),(203,0)] [137] _ _ _ ?_;have e:=ybsj h f m l n j
 generalize ((ybq p g).runs res ws c).map (·.1)=CS at e ⊢
 generalize ((ybq p g).runs res ws c).map (·.2)=KS at e ⊢
 simp only[cdE 75,rgE 75 0,rgE 75 1,yqm,yfj,yci,usV,seeC,go_sem,zA,zB,zC,↓reduceIte,reduceCtorEq];refine ydk e [(201,201),(203,203),(205,3),(206,5)] 0 [6,7] [6] ?_ ?_
 .simp only[yqm,ycib,yfj,yci,usV,seeC,List.cons_append,List.nil_append,to1,okN,ybz,yeg,ydp,yda,wk,go_sem,zA,zB,zD,zC,zJ,↓reduceIte,reduceCtorEq]
 .rintro r q ⟨⟨d,l2,a,b,rfl⟩,rfl⟩;simp only[seeX,usV,cntV,ykz,yjk,nuF,nu,difN,ydp,yda,Fam.ren,OB.ren,dim,ygb,ywi,yly,yqu,ykc,go_sem,zA,zB,zJ,↓reduceIte,reduceCtorEq];simp only[ygo,go_sem];refine⟨.tp [.ag (usV d::usV l2::ybf a::cntV b),.i .i64 0],seeX CS KS,?_,?_,⟨d,l2,a,b,rfl⟩,rfl⟩
  .refine yev [] [] [] ?_;simp only[seeX,usV,cntV,wk,go_sem,zA,zC,↓reduceIte,reduceCtorEq]
  .simp only[seeX,usV,cntV,ybz,yeg,wk,go_sem,zA,↓reduceIte]
def yfv(l:List Conf):SV:=.sl 1 l.length (fun i=>[ybf (l.getD i [])])
def yjx(l:List Cnt):SV:=.sl 5 l.length (fun i=>cntV (l.getD i default))
theorem ycgy(h:Checked Q1 Q2 p g){kind:Int}(hk:1<=kind/\kind<=4){res:Nat->Nat->Nat}(j:DaemonOk kind (g.ports.map netP) res){c:Conf}(e:ycb p g c=true){ws:List Nat}(l:∀k,ws.getD k 0<2^32)(b:ws.length<=4000) :
 Returns zG 76 [.ag (ybs Q1 Q2 p.raw),grV g,.i .i64 kind,ybf c,usV ws] (.tp [yfv (((ybq p g).runs res ws c).map (·.1)),yjx (((ybq p g).runs res ws c).map (·.2)),.i .i64 0]):=by
 refine Returns.of ((okGU 76) [73,75] _ _ ?_);have d:=ywj h hk e (len:=ws.length) (by omega)
 have f:=ybgw h kind;have a:=ycab h (by have:=h.hg.2.2.1;rw[zAA];omega) j e l b
 generalize ((ybq p g).runs res ws c).map (·.1)=CS at a ⊢
 generalize ((ybq p g).runs res ws c).map (·.2)=KS at a ⊢
 simp only[ybs,grV]at d;simp only[cdE 76,rgE 76 0,rgE 76 1,ybs,grV,usV,go_sem,zA,zB,zC,zJ,↓reduceIte,reduceCtorEq];refine d.use ?_;simp only[yw,rgE 76 2,rgE 76 4,rgE 76 5,rgE 76 6,zAI,go_sem,zA,zB,zC,↓reduceIte,reduceCtorEq];refine ydk f [(201,14),(203,15)] 0 [3,4,14,15] [] ?_ ?_
 .simp only[yqm,seeC,ybs,grV,to1,okN,ybz,yeg,ydp,yda,wk,go_sem,zA,zB,zC,↓reduceIte,reduceCtorEq]
 rintro r m ⟨rfl,rfl⟩;simp only[yqm,yfj,yci,usV,seeC,ykz,yjk,nuF,nu,difN,ydp,yda,Fam.ren,OB.ren,dim,ygb,ydau,ywi,yctz,yly,ybqc,ybow,go_sem,zA,zB,zC,zJ,↓reduceIte,reduceCtorEq];simp only[rgE 76 7,go_sem,zA,zB,zJ,↓reduceIte,reduceCtorEq];simp only[yfj,yci,usV,seeC]at a;refine ydk a [(201,14),(203,15)] 0 [14,15] [] ?_ ?_
 .simp only[yqm,to1,okN,ybz,yeg,ydp,yda,wk,go_sem,zA,zB,zC,↓reduceIte,reduceCtorEq]
 rintro r m ⟨⟨q,s,n,o,rfl⟩,rfl⟩;simp only[seeX,cntV,ykz,yjk,nuF,nu,difN,ydp,yda,Fam.ren,OB.ren,dim,ygb,ywi,yly,yqu,ykc,go_sem,zA,zB,zC,zJ,↓reduceIte,reduceCtorEq];simp only[rgE 76 8,rgE 76 10,clash,zAI,yfv,yjx,go_sem,zA,zB,↓reduceIte,reduceCtorEq];exact Sim.refl _
end
end Sh
end
section
namespace Sh
open Ev Go.RowKit
def ignC:SV:=.fn 74 [] []
def runI(p:ProgT)(g:Gr)(net:List Nat)(kind:Int):List SV:=[yci p g,usV net,.i .i64 kind,.i .u32 (2^g.ids.length-1:Nat),ignC]
theorem ybbc(c:Conf)(e:Nat)(k:Cnt):Returns zG 74 [ybf c,.i .u32 e,.ag (cntV k)] (.tp []):=by
 refine Returns.of ((okG 74) _ _ ?_);simp only[cdE 74,rgE 74 0,cntV,go_sem,zA,zB,zC,↓reduceIte,reduceCtorEq];exact Sim.refl _
end Sh
end
section
namespace Sh
open Ev Go.RowKit
section
variable {Q1 Q2:(Nat->Option ABlk)->Value->Prop}{p:ProgT}{g:Gr}
def ownF(p:ProgT)(g:Gr)(net:List Nat)(kind:Int)(ws:List Nat):Own:=[(205,.one (some ⟨78,true,5,1,fun _=>runI p g net kind⟩)),(206,.one (some ⟨25,true,1,1,fun _=>[usV ws]⟩))]
set_option maxHeartbeats 1000000 in
theorem yclt (h:Checked Q1 Q2 p g) {kind:Int}{net:List Nat}{c:Conf}(W:ycb p g c=true) {ws:List Nat}(a8:ws.length<=4000) {N:Nat}(hN:N<=ws.length) {st:Nat->Conf×Cnt}{ch:Nat->Nat}(G:st 0=(c,yeo (yh p g c)))
 (a0:∀i,i<N->st (i+1)=(yez p g (st i).1 (ch i),addP (st i).2 (ch i) (yh p g (yez p g (st i).1 (ch i))))) (hs:∀i,i<N->ch i≠0/\subB (ch i) (yh p g (st i).1))
 (hP:∀i,i<N->Returns zG 213 [usV net,.i .i64 kind,.i .u32 (yh p g (st i).1:Nat),.i .u32 (ch i:Nat)] (.b true))
 (hF:∀i,i<N->Returns zG 138 [.i .i64 i,.i .u32 (yh p g (st i).1:Nat),.rf (runI p g net kind),.rf [usV ws]] (.tp [.i .u32 (ch i:Nat),.b true]))
 (hE:N<ws.length->∃x:Nat,Returns zG 138 [.i .i64 N,.i .u32 (yh p g (st N).1:Nat),.rf (runI p g net kind),.rf [usV ws]] (.tp [.i .u32 x,.b false])) :
 Cm zG 137 [] (ownF p g net kind ws) [.ag (runI p g net kind),ybf c,.i .i64 ws.length,.fn 138 [] [.pt (205,0) 0 0,.pt (206,0) 0 0]]
  fun r o'=>r = .tp [.ag (usV (mapR N ch)::usV (mapR (N+1) fun i=>yh p g (st i).1)::ybf (st N).1::cntV (st N).2),.i .i64 0]/\o'=[]:=by
 refine(okGM 137) [] [] _ _ _ ?_;obtain⟨k,o⟩:∃k:Nat->Nat,∀i,yh p g (st i).1=k i:=⟨_,fun _=>rfl⟩;simp only[o]at hs hP hF hE ⊢;obtain⟨Y,Z⟩:=yfc h.hg h.hp W;have Q:=ydf h.hg h.hp W;have hC:=ypw c Y Z;have J:=yew p h.hg h.hp Q;have I:yh p g c=k 0:=by rw[<-o 0,G]
 have l:∀i,k i<2^g.ids.length:=fun i=>by rw[<-o i];exact yrx p g _
 have hid:=h.hg.2.2.1;have a6:=h.hg.2.1;have B:2^g.ids.length<=2^24:=zV (by omega) (by omega)
 have w:∀e:Nat,e<2^g.ids.length->IntKind.wrap .u32 (((zX (IntKind.bits .u32) (e:Int))&&&zX (IntKind.bits .u32) ((2^g.ids.length-1:Nat):Int)).toNat:Int)=(e:Int):=fun e he=>by
  have q:=u32_and (a:=e) (b:=2^g.ids.length-1) (by omega) (by omega)
  rw[zU he]at q;exact q
 have hI:=ybbc;rw[I]at J;simp only[cdE 137,rgE 137 0,rgE 137 1,rgE 137 2,ownF,runI,ignC,usV,yci,go_sem,zA,zB,zC,↓reduceIte,reduceCtorEq];refine hC.use ?_;simp only[yw,rgE 137 3,clash,go_sem,zA,zB,zD,↓reduceIte,reduceCtorEq];refine J.useS ⟨yhb _ _,Sim.refl _,trivial⟩ ?_;have ha:=w (k 0) (l 0);simp only[IntKind.bits]at ha;simp only[yw,rgE 137 4,clash,ha,go_sem,zA,zB,zC,↓reduceIte];have hB:=yxu (e:=k 0) (zL (l 0) (by omega))
 obtain⟨K0,t⟩:∃K,yeo (k 0)=K:=⟨_,rfl⟩;rw[t]at hB;rw[I,t]at G;refine hB.use ?_;simp only[yw,rgE 137 5,cntV,go_sem,zA,zB,↓reduceIte,reduceCtorEq];refine(hI _ _ _).use ?_;simp only[rgE 137 6,rgE 137 7,splice,clash,go_sem,zA,zB,zD,zC,zBI,↓reduceIte,reduceCtorEq]
 refine ybk (σ:=Nat) (fun i=>⟨[(40,.i .i64 i),(39,.i .i64 ws.length),(1,ybf (st i).1),(3,.fn 138 [] [.pt (205,0) 0 0,.pt (206,0) 0 0]),(4,.pt (4,0) 0 0),(8,.pt (8,0) 0 0),(9,.i .i64 0),(10,.pt (10,0) 0 0),(11,.i .u32 (k i)),(12,.pt (12,0) 0 0)],
  [(4,.one (some ⟨78,true,5,1,fun _=>runI p g net kind⟩)),
   (8,.one (some ⟨47,true,8,1,fun _=>[.a (.slice none 0 0),.a (.slice none 0 0),.a (.slice none 0 0),.i .i64 0,.i .i64 0,.i .i64 0,.i .i64 0,.i .u32 0]⟩)),
   (10,.one (some ⟨47,true,8,1,fun _=>[.os (301,0) 0 i true,.os (302,0) 0 (i+1) true,.a (.slice none 0 0),.i .i64 0,.i .i64 0,.i .i64 0,.i .i64 0,.i .u32 0]⟩)),
   (301,.one (some ⟨27,false,1,i,fun j=>[.i .u32 (ch j)]⟩)),(302,.one (some ⟨27,false,1,i+1,fun j=>[.i .u32 (k j)]⟩)),
   (12,.one (some ⟨45,true,5,1,fun _=>cntV (st i).2⟩)),(205,.one (some ⟨78,true,5,1,fun _=>runI p g net kind⟩)),(206,.one (some ⟨25,true,1,1,fun _=>[usV ws]⟩))]⟩)
  (fun i=>i<=N/\ycb p g (st i).1=true/\(st i).2.ok/\(st i).2.steps=i) (fun i=>ws.length-i) 0 ⟨zAF _,by rw[G];exact W,by rw[G,<-t];exact yvi (zL (l 0) B),by rw[G,<-t];rfl⟩ ?_ ?_
 .refine ybm [(302,fun i=>(37,i))] [301] [] ?_;simp only[runI,yci,ignC,usV,cntV,G,wk,go_sem,zA,zC,zJ,↓reduceIte,reduceCtorEq];refine⟨fun i _=>⟨(301,0),rfl,?_⟩,fun i hi=>?_⟩
  .simp only[go_sem,go_sem,zA,↓reduceIte]
  .obtain rfl:i=0:=by omega
   simp only[zT];simp only[go_sem,wk,go_sem,reduceCtorEq]
 .rintro i ⟨hi,E,S,a7⟩;obtain⟨a1,a2⟩:=yfc h.hg h.hp E;have U:=ydf h.hg h.hp E;have a5:i=N->Weak [] ⟨[(0,.tp [.ag (.os (301,0) 0 i true :: .os (302,0) 0 (i+1) true::ybf (st i).1::cntV (st i).2),.i .i64 0])],[]⟩ ⟨[],[]⟩->True:=fun _ _=>trivial
  by_cases X:i<ws.length
  .have t1:decide ((i:Int)<(ws.length:Int))=true:=decide_eq_true (by omega)
   simp only[rgE 137 8,rgE 137 9,rgE 137 10,runI,yci,ignC,usV,cntV,t1,go_sem,zA,zB,zD,↓reduceIte,reduceCtorEq]
   by_cases u:i<N
   .have m:=hF i u;have M:=hP i u;obtain⟨y,z⟩:=hs i u;have F:k i<2^24:=zL (l i) B;have n:ch i<2^24:=ygj z F;have O:=ybcx p h.hg h.hp U (s:=ch i) (by omega) (by rw[o i];exact z)
    obtain⟨d,R⟩:∃d,yez p g (st i).1 (ch i)=d:=⟨_,rfl⟩;have f:=a0 i u;rw[R]at O f;have D:ycb p g d=true:=by rw[<-R];exact yhz h.hg h.hp h.hf E (ch i)
    have A:yh p g d=k (i+1):=by rw[<-o (i+1),f]
    rw[A]at f;simp only[runI,yci,ignC,usV]at m M;refine .inl (m.use ?_);simp only[yw,rgE 137 11,rgE 137 12,clash,go_sem,zA,zB,zD,↓reduceIte,reduceCtorEq];refine M.use ?_;simp only[yw,rgE 137 14,clash,go_sem,zA,zB,zD,↓reduceIte,reduceCtorEq];refine O.useS ⟨yhb _ _,Sim.refl _,Sim.refl _,trivial⟩ ?_;obtain⟨a3,a4⟩:=yfc h.hg h.hp D;have H:=ydf h.hg h.hp D;have L:=yew p h.hg h.hp H;rw[A]at L;have P:=w (k (i+1)) (l (i+1))
    simp only[IntKind.bits]at P;simp only[yw,rgE 137 15,clash,go_sem,zA,zB,zD,↓reduceIte,reduceCtorEq];refine L.useS ⟨yhb _ _,Sim.refl _,trivial⟩ ?_;have V:=ybkh S (by omega) y n (e:=k (i+1)) (zL (l (i+1)) (by omega))
    obtain⟨K2,C⟩:∃K,addP (st i).2 (ch i) (k (i+1))=K:=⟨_,rfl⟩;rw[C]at V f;simp only[cntV]at V;simp only[yw,rgE 137 16,clash,P,go_sem,zA,zB,↓reduceIte,reduceCtorEq];refine V.use ?_;simp only[yw,rgE 137 17,clash,go_sem,zA,zB,↓reduceIte,reduceCtorEq];refine(hI _ _ _).use ?_;simp only[rgE 137 18,rgE 137 19,rgE 137 20,splice,clash,go_sem,zA,zB,zD,zC,↓reduceIte,reduceCtorEq]
    repeat refine zDB (by omega) ?_
    refine⟨ikw (by omega) (by omega),?_⟩
    refine ybb (i+1) ⟨by omega,by rw[f];exact D,by rw[f,<-C];exact yblp S n y (zL (l (i+1)) B),by rw[f,<-C];show(st i).2.steps+1=i+1;omega⟩ (by omega) ?_
    refine ybm [(301,fun i=>(90,i)),(302,fun i=>(96,i))] [] [] ?_;simp only[f,wk,go_sem,zA,zC,↓reduceIte,reduceCtorEq];refine⟨by omega,fun q v=>?_,fun q v=>?_⟩
    .by_cases T:q<i
     .simp only[if_pos T];simp only[go_sem,wk,go_sem,reduceCtorEq]
     .obtain rfl:q=i:=by omega
      simp only[if_neg T,zW,zT];simp only[go_sem,wk,go_sem,reduceCtorEq]
    .by_cases T:q<i+1
     .simp only[if_pos T];simp only[go_sem,wk,go_sem,reduceCtorEq]
     .obtain rfl:q=i+1:=by omega
      simp only[if_neg T,zW,zT];simp only[go_sem,wk,go_sem,reduceCtorEq]
   .obtain rfl:i=N:=by omega
    obtain⟨x,m⟩:=hE X;simp only[runI,yci,ignC,usV]at m;refine .inl (m.use ?_);simp only[yw,rgE 137 11,rgE 137 21,rgE 137 22,clash,go_sem,zA,zB,zD,↓reduceIte,reduceCtorEq];simp only[ygo,go_sem];refine⟨by decide,.tp [.ag (usV (mapR i ch)::usV (mapR (i+1) k)::ybf (st i).1::cntV (st i).2),.i .i64 0],[],?_,?_,rfl,rfl⟩
    .refine ybm [] [] [(301,0),(302,0)] ?_;simp only[usV,cntV,yfe,wk,go_sem,zA,↓reduceIte,reduceCtorEq];exact ybac ⟨yie ⟨ygf fun q v=>by rw[gmR _ _ _ _ v],ygf fun q v=>by rw[gmR _ _ _ _ v],Sim.refl _,Sim.refl _,Sim.refl _,Sim.refl _,Sim.refl _,Sim.refl _,trivial⟩,Sim.refl _,trivial⟩
    .simp only[usV,cntV,ybz,yeg,wk,go_sem]
  .obtain rfl:i=N:=by omega
   have t1:decide ((i:Int)<(ws.length:Int))=false:=decide_eq_false (by omega)
   simp only[rgE 137 8,rgE 137 21,rgE 137 22,runI,yci,ignC,usV,cntV,t1,clash,go_sem,zA,zB,zD,↓reduceIte,reduceCtorEq];simp only[ygo,go_sem];refine⟨by decide,.tp [.ag (usV (mapR i ch)::usV (mapR (i+1) k)::ybf (st i).1::cntV (st i).2),.i .i64 0],[],?_,?_,rfl,rfl⟩
   .refine ybm [] [] [(301,0),(302,0)] ?_;simp only[usV,cntV,yfe,wk,go_sem,zA,↓reduceIte,reduceCtorEq];exact ybac ⟨yie ⟨ygf fun q v=>by rw[gmR _ _ _ _ v],ygf fun q v=>by rw[gmR _ _ _ _ v],Sim.refl _,Sim.refl _,Sim.refl _,Sim.refl _,Sim.refl _,Sim.refl _,trivial⟩,Sim.refl _,trivial⟩
   .simp only[usV,cntV,ybz,yeg,wk,go_sem]
end
end Sh
end
section
namespace Sh
open Ev Go.RowKit
section
variable {Q1 Q2:(Nat->Option ABlk)->Value->Prop}{p:ProgT}{g:Gr}
def ownP(p:ProgT)(g:Gr)(net:List Nat)(kind:Int)(ws:List Nat):Own:=[(206,.one (some ⟨25,true,1,1,fun _=>[usV ws]⟩))]
set_option maxHeartbeats 1000000 in
theorem ycjx (h:Checked Q1 Q2 p g) {kind:Int}{net:List Nat}{c:Conf}(W:ycb p g c=true) {ws:List Nat}(a8:ws.length<=4000) {N:Nat}(hN:N<=ws.length) {st:Nat->Conf×Cnt}{ch:Nat->Nat}(G:st 0=(c,yeo (yh p g c)))
 (a0:∀i,i<N->st (i+1)=(yez p g (st i).1 (ch i),addP (st i).2 (ch i) (yh p g (yez p g (st i).1 (ch i))))) (hs:∀i,i<N->ch i≠0/\subB (ch i) (yh p g (st i).1))
 (hP:∀i,i<N->Returns zG 213 [usV net,.i .i64 kind,.i .u32 (yh p g (st i).1:Nat),.i .u32 (ch i:Nat)] (.b true))
 (hF:∀i,i<N->Returns zG 148 [.i .i64 i,.i .u32 (yh p g (st i).1:Nat),.rf [usV ws]] (.tp [.i .u32 (ch i:Nat),.b true]))
 (hE:N<ws.length->∃x:Nat,Returns zG 148 [.i .i64 N,.i .u32 (yh p g (st N).1:Nat),.rf [usV ws]] (.tp [.i .u32 x,.b false])) :
 Cm zG 137 [] (ownP p g net kind ws) [.ag (runI p g net kind),ybf c,.i .i64 ws.length,.fn 148 [] [.pt (206,0) 0 0]]
  fun r o'=>r = .tp [.ag (usV (mapR N ch)::usV (mapR (N+1) fun i=>yh p g (st i).1)::ybf (st N).1::cntV (st N).2),.i .i64 0]/\o'=[]:=by
 refine(okGM 137) [] [] _ _ _ ?_;obtain⟨k,o⟩:∃k:Nat->Nat,∀i,yh p g (st i).1=k i:=⟨_,fun _=>rfl⟩;simp only[o]at hs hP hF hE ⊢;obtain⟨Y,Z⟩:=yfc h.hg h.hp W;have Q:=ydf h.hg h.hp W;have hC:=ypw c Y Z;have J:=yew p h.hg h.hp Q;have I:yh p g c=k 0:=by rw[<-o 0,G]
 have l:∀i,k i<2^g.ids.length:=fun i=>by rw[<-o i];exact yrx p g _
 have hid:=h.hg.2.2.1;have a6:=h.hg.2.1;have B:2^g.ids.length<=2^24:=zV (by omega) (by omega)
 have w:∀e:Nat,e<2^g.ids.length->IntKind.wrap .u32 (((zX (IntKind.bits .u32) (e:Int))&&&zX (IntKind.bits .u32) ((2^g.ids.length-1:Nat):Int)).toNat:Int)=(e:Int):=fun e he=>by
  have q:=u32_and (a:=e) (b:=2^g.ids.length-1) (by omega) (by omega)
  rw[zU he]at q;exact q
 have hI:=ybbc;rw[I]at J;simp only[cdE 137,rgE 137 0,rgE 137 1,rgE 137 2,ownP,runI,ignC,usV,yci,go_sem,zA,zB,zC,↓reduceIte,reduceCtorEq];refine hC.use ?_;simp only[yw,rgE 137 3,clash,go_sem,zA,zB,zD,↓reduceIte,reduceCtorEq];refine J.useS ⟨yhb _ _,Sim.refl _,trivial⟩ ?_;have ha:=w (k 0) (l 0);simp only[IntKind.bits]at ha;simp only[yw,rgE 137 4,clash,ha,go_sem,zA,zB,zC,↓reduceIte];have hB:=yxu (e:=k 0) (zL (l 0) (by omega))
 obtain⟨K0,t⟩:∃K,yeo (k 0)=K:=⟨_,rfl⟩;rw[t]at hB;rw[I,t]at G;refine hB.use ?_;simp only[yw,rgE 137 5,cntV,go_sem,zA,zB,↓reduceIte,reduceCtorEq];refine(hI _ _ _).use ?_;simp only[rgE 137 6,rgE 137 7,splice,clash,go_sem,zA,zB,zD,zC,zBI,↓reduceIte,reduceCtorEq]
 refine ybk (σ:=Nat) (fun i=>⟨[(40,.i .i64 i),(39,.i .i64 ws.length),(1,ybf (st i).1),(3,.fn 148 [] [.pt (206,0) 0 0]),(4,.pt (4,0) 0 0),(8,.pt (8,0) 0 0),(9,.i .i64 0),(10,.pt (10,0) 0 0),(11,.i .u32 (k i)),(12,.pt (12,0) 0 0)],
  [(4,.one (some ⟨78,true,5,1,fun _=>runI p g net kind⟩)),
   (8,.one (some ⟨47,true,8,1,fun _=>[.a (.slice none 0 0),.a (.slice none 0 0),.a (.slice none 0 0),.i .i64 0,.i .i64 0,.i .i64 0,.i .i64 0,.i .u32 0]⟩)),
   (10,.one (some ⟨47,true,8,1,fun _=>[.os (301,0) 0 i true,.os (302,0) 0 (i+1) true,.a (.slice none 0 0),.i .i64 0,.i .i64 0,.i .i64 0,.i .i64 0,.i .u32 0]⟩)),
   (301,.one (some ⟨27,false,1,i,fun j=>[.i .u32 (ch j)]⟩)),(302,.one (some ⟨27,false,1,i+1,fun j=>[.i .u32 (k j)]⟩)),
   (12,.one (some ⟨45,true,5,1,fun _=>cntV (st i).2⟩)),(206,.one (some ⟨25,true,1,1,fun _=>[usV ws]⟩))]⟩)
  (fun i=>i<=N/\ycb p g (st i).1=true/\(st i).2.ok/\(st i).2.steps=i) (fun i=>ws.length-i) 0 ⟨zAF _,by rw[G];exact W,by rw[G,<-t];exact yvi (zL (l 0) B),by rw[G,<-t];rfl⟩ ?_ ?_
 .refine ybm [(302,fun i=>(37,i))] [301] [] ?_;simp only[runI,yci,ignC,usV,cntV,G,wk,go_sem,zA,zC,zJ,↓reduceIte,reduceCtorEq];refine⟨fun i _=>⟨(301,0),rfl,?_⟩,fun i hi=>?_⟩
  .simp only[go_sem,go_sem,zA,↓reduceIte]
  .obtain rfl:i=0:=by omega
   simp only[zT];simp only[go_sem,wk,go_sem,reduceCtorEq]
 .rintro i ⟨hi,E,S,a7⟩;obtain⟨a1,a2⟩:=yfc h.hg h.hp E;have U:=ydf h.hg h.hp E;have a5:i=N->Weak [] ⟨[(0,.tp [.ag (.os (301,0) 0 i true :: .os (302,0) 0 (i+1) true::ybf (st i).1::cntV (st i).2),.i .i64 0])],[]⟩ ⟨[],[]⟩->True:=fun _ _=>trivial
  by_cases X:i<ws.length
  .have t1:decide ((i:Int)<(ws.length:Int))=true:=decide_eq_true (by omega)
   simp only[rgE 137 8,rgE 137 9,rgE 137 10,runI,yci,ignC,usV,cntV,t1,go_sem,zA,zB,zD,↓reduceIte,reduceCtorEq]
   by_cases u:i<N
   .have m:=hF i u;have M:=hP i u;obtain⟨y,z⟩:=hs i u;have F:k i<2^24:=zL (l i) B;have n:ch i<2^24:=ygj z F;have O:=ybcx p h.hg h.hp U (s:=ch i) (by omega) (by rw[o i];exact z)
    obtain⟨d,R⟩:∃d,yez p g (st i).1 (ch i)=d:=⟨_,rfl⟩;have f:=a0 i u;rw[R]at O f;have D:ycb p g d=true:=by rw[<-R];exact yhz h.hg h.hp h.hf E (ch i)
    have A:yh p g d=k (i+1):=by rw[<-o (i+1),f]
    rw[A]at f;simp only[usV]at m M;refine .inl (m.use ?_);simp only[yw,rgE 137 11,rgE 137 12,clash,go_sem,zA,zB,zD,↓reduceIte,reduceCtorEq];refine M.use ?_;simp only[yw,rgE 137 14,clash,go_sem,zA,zB,zD,↓reduceIte,reduceCtorEq];refine O.useS ⟨yhb _ _,Sim.refl _,Sim.refl _,trivial⟩ ?_;obtain⟨a3,a4⟩:=yfc h.hg h.hp D;have H:=ydf h.hg h.hp D;have L:=yew p h.hg h.hp H;rw[A]at L;have P:=w (k (i+1)) (l (i+1))
    simp only[IntKind.bits]at P;simp only[yw,rgE 137 15,clash,go_sem,zA,zB,zD,↓reduceIte,reduceCtorEq];refine L.useS ⟨yhb _ _,Sim.refl _,trivial⟩ ?_;have V:=ybkh S (by omega) y n (e:=k (i+1)) (zL (l (i+1)) (by omega))
    obtain⟨K2,C⟩:∃K,addP (st i).2 (ch i) (k (i+1))=K:=⟨_,rfl⟩;rw[C]at V f;simp only[cntV]at V;simp only[yw,rgE 137 16,clash,P,go_sem,zA,zB,↓reduceIte,reduceCtorEq];refine V.use ?_;simp only[yw,rgE 137 17,clash,go_sem,zA,zB,↓reduceIte,reduceCtorEq];refine(hI _ _ _).use ?_;simp only[rgE 137 18,rgE 137 19,rgE 137 20,splice,clash,go_sem,zA,zB,zD,zC,↓reduceIte,reduceCtorEq]
    repeat refine zDB (by omega) ?_
    refine⟨ikw (by omega) (by omega),?_⟩
    refine ybb (i+1) ⟨by omega,by rw[f];exact D,by rw[f,<-C];exact yblp S n y (zL (l (i+1)) B),by rw[f,<-C];show(st i).2.steps+1=i+1;omega⟩ (by omega) ?_
    refine ybm [(301,fun i=>(90,i)),(302,fun i=>(96,i))] [] [] ?_;simp only[f,wk,go_sem,zA,zC,↓reduceIte,reduceCtorEq];refine⟨by omega,fun q v=>?_,fun q v=>?_⟩
    .by_cases T:q<i
     .simp only[if_pos T];simp only[go_sem,wk,go_sem,reduceCtorEq]
     .obtain rfl:q=i:=by omega
      simp only[if_neg T,zW,zT];simp only[go_sem,wk,go_sem,reduceCtorEq]
    .by_cases T:q<i+1
     .simp only[if_pos T];simp only[go_sem,wk,go_sem,reduceCtorEq]
     .obtain rfl:q=i+1:=by omega
      simp only[if_neg T,zW,zT];simp only[go_sem,wk,go_sem,reduceCtorEq]
   .obtain rfl:i=N:=by omega
    obtain⟨x,m⟩:=hE X;simp only[usV]at m;refine .inl (m.use ?_);simp only[yw,rgE 137 11,rgE 137 21,rgE 137 22,clash,go_sem,zA,zB,zD,↓reduceIte,reduceCtorEq];simp only[ygo,go_sem];refine⟨by decide,.tp [.ag (usV (mapR i ch)::usV (mapR (i+1) k)::ybf (st i).1::cntV (st i).2),.i .i64 0],[],?_,?_,rfl,rfl⟩
    .refine ybm [] [] [(301,0),(302,0)] ?_;simp only[usV,cntV,yfe,wk,go_sem,zA,↓reduceIte,reduceCtorEq];exact ybac ⟨yie ⟨ygf fun q v=>by rw[gmR _ _ _ _ v],ygf fun q v=>by rw[gmR _ _ _ _ v],Sim.refl _,Sim.refl _,Sim.refl _,Sim.refl _,Sim.refl _,Sim.refl _,trivial⟩,Sim.refl _,trivial⟩
    .simp only[usV,cntV,ybz,yeg,wk,go_sem]
  .obtain rfl:i=N:=by omega
   have t1:decide ((i:Int)<(ws.length:Int))=false:=decide_eq_false (by omega)
   simp only[rgE 137 8,rgE 137 21,rgE 137 22,runI,yci,ignC,usV,cntV,t1,clash,go_sem,zA,zB,zD,↓reduceIte,reduceCtorEq];simp only[ygo,go_sem];refine⟨by decide,.tp [.ag (usV (mapR i ch)::usV (mapR (i+1) k)::ybf (st i).1::cntV (st i).2),.i .i64 0],[],?_,?_,rfl,rfl⟩
   .refine ybm [] [] [(301,0),(302,0)] ?_;simp only[usV,cntV,yfe,wk,go_sem,zA,↓reduceIte,reduceCtorEq];exact ybac ⟨yie ⟨ygf fun q v=>by rw[gmR _ _ _ _ v],ygf fun q v=>by rw[gmR _ _ _ _ v],Sim.refl _,Sim.refl _,Sim.refl _,Sim.refl _,Sim.refl _,Sim.refl _,trivial⟩,Sim.refl _,trivial⟩
   .simp only[usV,cntV,ybz,yeg,wk,go_sem]
end
end Sh
end
section
namespace Sh
open Ev Go.RowKit
section
variable {Q1 Q2:(Nat->Option ABlk)->Value->Prop}{p:ProgT}{g:Gr}
theorem yny(h:Checked Q1 Q2 p g)(kind:Int):Returns zG 73 [.ag (ybs Q1 Q2 p.raw),grV g,.i .i64 kind,ignC] (.ag (runI p g (g.ports.map netP) kind)):=by
 refine Returns.of ((okG 73) _ _ ?_);have c:=ybaj h;have a:=ybax h.hg;have b:=ybmv h.hg;simp only[grV]at c a b;simp only[cdE 73,rgE 73 0,rgE 73 1,ybs,grV,ignC,clash,go_sem,zA,zB,zC,↓reduceIte,reduceCtorEq];refine c.useS ⟨yie ⟨Sim.refl _,yhb _ _,yhb _ _,trivial⟩,Sim.refl _,trivial⟩ ?_;simp only[usV,yci]at a ⊢;simp only[yw,clash,go_sem,zA,zB,zD,↓reduceIte,reduceCtorEq];refine a.use ?_;simp only[go_sem,zB,zD,↓reduceIte]
 refine⟨by decide,b.use ?_⟩
 simp only[runI,yci,usV,ignC,go_sem,zA,zB,↓reduceIte]
 repeat refine ydc ?_
 exact Sim.refl _
theorem ycgk{ws:List Nat}{k:Nat}(hk:k<ws.length)(e:Nat):Returns zG 148 [.i .i64 k,.i .u32 e,.rf [usV ws]] (.tp [.i .u32 (ws.getD k 0:Nat),.b true]):=by
 refine Returns.of ((okG 148) _ _ ?_);simp only[cdE 148,rgE 148 0,rgE 148 1,usV,clash,go_sem,zA,zB,↓reduceIte,reduceCtorEq];exact⟨by omega,Sim.refl _⟩
theorem ycqh (h:Checked Q1 Q2 p g) {kind:Int}{net:List Nat}{c:Conf}(k:ycb p g c=true) {ws:List Nat}(e:ws.length<=4000) {st:Nat->Conf×Cnt}(f:st 0=(c,yeo (yh p g c)))
 (d:∀i,i<ws.length->st (i+1)=(yez p g (st i).1 (ws.getD i 0),addP (st i).2 (ws.getD i 0) (yh p g (yez p g (st i).1 (ws.getD i 0))))) (m:∀i,i<ws.length->ws.getD i 0≠0/\subB (ws.getD i 0) (yh p g (st i).1))
 (j:∀i,i<ws.length->Returns zG 213 [usV net,.i .i64 kind,.i .u32 (yh p g (st i).1:Nat),.i .u32 (ws.getD i 0:Nat)] (.b true)) :
 Returns zG 83 [.ag (runI p g net kind),ybf c,usV ws] (.tp [.ag (usV (mapR ws.length fun i=>ws.getD i 0)::usV (mapR (ws.length+1) fun i=>yh p g (st i).1)::ybf (st ws.length).1::cntV (st ws.length).2),.i .i64 0]):=by
 refine Returns.of ((okGU 83) [137] _ _ ?_);have a:=ycjx h k e (N:=ws.length) (zN _) f d m j (fun i l=>ycgk l _) (fun q=>absurd q (zAU _))
 generalize (mapR ws.length fun i=>ws.getD i 0)=A1 at a ⊢
 generalize (mapR (ws.length+1) fun i=>yh p g (st i).1)=A2 at a ⊢
 simp only[cdE 83,rgE 83 0,rgE 83 1,runI,yci,usV,ignC,go_sem,zA,zB,zC,↓reduceIte,reduceCtorEq];refine ydk a [(206,5)] 0 [6,7] [6] ?_ ?_
 .simp only[ownP,runI,yci,usV,ignC,to1,okN,ybz,yeg,ydp,yda,wk,go_sem,zA,zB,zC,zJ,↓reduceIte,reduceCtorEq]
 .rintro r n ⟨rfl,rfl⟩;simp only[usV,cntV,ykz,yjk,difN,ydp,yda,dim,ygb,ywi,yly,yqu,go_sem,zA,zB,↓reduceIte,reduceCtorEq];exact Sim.refl _
theorem ycri (h:Checked Q1 Q2 p g) {kind:Int}(hk:1<=kind/\kind<=4) {c:Conf}(k:ycb p g c=true) {ws:List Nat}(f:ws.length<=4000) {st:Nat->Conf×Cnt}(l:st 0=(c,yeo (yh p g c)))
 (e:∀i,i<ws.length->st (i+1)=(yez p g (st i).1 (ws.getD i 0),addP (st i).2 (ws.getD i 0) (yh p g (yez p g (st i).1 (ws.getD i 0))))) (n:∀i,i<ws.length->ws.getD i 0≠0/\subB (ws.getD i 0) (yh p g (st i).1))
 (m:∀i,i<ws.length->Returns zG 213 [usV (g.ports.map netP),.i .i64 kind,.i .u32 (yh p g (st i).1:Nat),.i .u32 (ws.getD i 0:Nat)] (.b true)) :
 Returns zG 17 [.ag (ybs Q1 Q2 p.raw),grV g,.i .i64 kind,ybf c,usV ws] (.tp [.ag (usV (mapR ws.length fun i=>ws.getD i 0)::usV (mapR (ws.length+1) fun i=>yh p g (st i).1)::ybf (st ws.length).1::cntV (st ws.length).2),.i .i64 0]):=by
 refine Returns.of ((okG 17) _ _ ?_);have j:=ywj h hk k (len:=ws.length) (by omega)
 have d:=yny h kind;have a:=ycqh h k f l e n m
 generalize (mapR ws.length fun i=>ws.getD i 0)=A1 at a ⊢
 generalize (mapR (ws.length+1) fun i=>yh p g (st i).1)=A2 at a ⊢
 simp only[ybs,grV]at j d;simp only[runI,yci,ignC,usV]at d a;simp only[cdE 17,rgE 17 0,rgE 17 1,ybs,grV,usV,clash,go_sem,zA,zB,zC,↓reduceIte,reduceCtorEq];refine j.use ?_;simp only[yw,rgE 17 2,rgE 17 4,clash,zAI,go_sem,zA,zB,↓reduceIte,reduceCtorEq];refine d.use ?_;simp only[go_sem,↓reduceIte];refine a.use ?_;simp only[cntV,go_sem,zA,zB,↓reduceIte];exact Sim.refl _
theorem yctv(f:Nat->Nat):∀L,∃N,N<=L/\(∀j,j<N->f j≠0)/\(N=L\/f N=0)
 |0=>⟨0,zN _,fun j c=>absurd c (zBV j),.inl rfl⟩
 | L + 1=>by
   obtain⟨N,d,b,a⟩:=yctv f L
   by_cases q:f N=0
   .exact⟨N,by omega,b,.inr q⟩
   .rcases a with a|a
    .refine⟨N+1,by omega,fun j c=>?_,.inl (by omega)⟩
     by_cases e:j=N
     .rw[e];exact q
     .exact b j (by omega)
    .exact absurd a q
theorem ybvh (h:Checked Q1 Q2 p g) {kind:Int}{net:List Nat}(s:g.ids.length<=net.length) {res:Nat->Nat->Nat}(f:DaemonOk kind net res) {c:Conf}(y:ycb p g c=true) {ws:List Nat}(t:∀k,ws.getD k 0<2^32) (u:ws.length<=4000)
 {st:Nat->Conf×Cnt}(d:st=stAt (ybq p g) res ws c (yeo (yh p g c))) {N:Nat}(x:N<=ws.length) (l:∀j,j<N->yh p g (st j).1≠0) (v:N=ws.length\/yh p g (st N).1=0) :
 Returns zG 75 [.ag (runI p g net kind),ybf c,usV ws] (.tp [.ag (usV (mapR N fun i=>res (yh p g (st i).1) (ws.getD i 0))::usV (mapR (N+1) fun i=>yh p g (st i).1)::ybf (st N).1::cntV (st N).2),.i .i64 0]):=by
 refine Returns.of ((okGU 75) [137] _ _ ?_);have hid:=h.hg.2.2.1;have w:=h.hg.2.1;have m:2^g.ids.length<=2^24:=zV (by omega) (by omega)
 have a:∀i,yh p g (st i).1<2^24/\yh p g (st i).1<2^net.length:=fun i=>⟨zL (yrx p g _) m,zL (yrx p g _) (zV (by omega) s)⟩
 have n:=yclt h y u x (st:=st) (ch:=fun i=>res (yh p g (st i).1) (ws.getD i 0)) (by rw[d];rfl) (fun i b=>by rw[d];exact yqa (ybq p g) res i ws c _)
  (fun i b=>f.sub _ _ (l i b) (a i).1) (fun i b=>f.permits _ _ (a i).1 (a i).2 (l i b) (t i)) (fun i b=>yxt f ignC (.i .u32 (2^g.ids.length-1:Nat)) (yci p g) t (a i).1 (a i).2 (l i b) (by omega))
  (fun o=>by
    have e:yh p g (st N).1=0:=by
     rcases v with q|q
     .omega
     .exact q
    rw[e];exact yxv f ignC (.i .u32 (2^g.ids.length-1:Nat)) (yci p g) t o)
 generalize (mapR N fun i=>res (yh p g (st i).1) (ws.getD i 0))=A1 at n ⊢
 generalize (mapR (N+1) fun i=>yh p g (st i).1)=A2 at n ⊢
 simp only[cdE 75,rgE 75 0,rgE 75 1,runI,yci,usV,ignC,go_sem,zA,zB,zC,↓reduceIte,reduceCtorEq];refine ydk n [(205,3),(206,5)] 0 [6,7] [6] ?_ ?_
 .simp only[ownF,runI,yci,usV,ignC,to1,okN,ybz,yeg,ydp,yda,wk,go_sem,zA,zB,zC,zJ,↓reduceIte,reduceCtorEq]
 .rintro r z ⟨rfl,rfl⟩;simp only[usV,cntV,ykz,yjk,difN,ydp,yda,dim,ygb,ywi,yly,yqu,go_sem,zA,zB,↓reduceIte,reduceCtorEq];exact Sim.refl _
theorem yzy (h:Checked Q1 Q2 p g) {kind:Int}(hk:1<=kind/\kind<=4) {res:Nat->Nat->Nat}(q:DaemonOk kind (g.ports.map netP) res) {c:Conf}(l:ycb p g c=true) {ws:List Nat}(r:∀k,ws.getD k 0<2^32) (e:ws.length<=4000)
 {st:Nat->Conf×Cnt}(d:st=stAt (ybq p g) res ws c (yeo (yh p g c))) {N:Nat}(o:N<=ws.length) (m:∀j,j<N->yh p g (st j).1≠0) (n:N=ws.length\/yh p g (st N).1=0) :
 Returns zG 11 [.ag (ybs Q1 Q2 p.raw),grV g,.i .i64 kind,ybf c,usV ws] (.tp [.ag (usV (mapR N fun i=>res (yh p g (st i).1) (ws.getD i 0))::usV (mapR (N+1) fun i=>yh p g (st i).1)::ybf (st N).1::cntV (st N).2),.i .i64 0]):=by
 refine Returns.of ((okG 11) _ _ ?_);have f:=ywj h hk l (len:=ws.length) (by omega)
 have b:=yny h kind;have a:=ybvh h (net:=g.ports.map netP) (by have:=h.hg.2.2.1;rw[zAA];omega) q l r e d o m n
 generalize (mapR N fun i=>res (yh p g (st i).1) (ws.getD i 0))=A1 at a ⊢
 generalize (mapR (N+1) fun i=>yh p g (st i).1)=A2 at a ⊢
 simp only[ybs,grV]at f b;simp only[runI,yci,ignC,usV]at b a;simp only[cdE 11,rgE 11 0,rgE 11 1,ybs,grV,usV,clash,go_sem,zA,zB,zC,↓reduceIte,reduceCtorEq];refine f.use ?_;simp only[yw,rgE 11 2,rgE 11 4,clash,zAI,go_sem,zA,zB,↓reduceIte,reduceCtorEq];refine b.use ?_;simp only[go_sem,↓reduceIte];refine a.use ?_;simp only[cntV,go_sem,zA,zB,↓reduceIte];exact Sim.refl _
end
end Sh
end
section
def prjC(k:Nat)(c:Conf):Conf:=c.map (·.take k)
theorem ysv(k:Nat)(c:Conf)(v:Nat):(prjC k c).getD v []=(c.getD v []).take k:=by
 unfold prjC;simp only[zK,zAD];cases c[v]?<;>simp
theorem ybjv{s:List Int}{k j:Nat}(h:j<k):(s.take k).getD j 0=s.getD j 0:=by
 simp only[zK,zAJ,if_pos h]
theorem yhs{g:Gr}{c:Conf}{v k:Nat}:∀(x:Ex) {d:Bool}(p:Int),x.ok k d=true->ybv g (prjC k c) v x p=ybv g c v x p
 | .leaf e arg,d,p,h=>by
   simp only[Ex.ok,zI]at h;obtain⟨⟨_,j⟩,_⟩:=h;show yqw g (prjC k c) e arg v p=yqw g c e arg v p;unfold yqw
   by_cases i:e=5
   .subst i;have:arg.toNat<k:=by simp at j;omega
    simp only[ysv,ybjv this]
   by_cases f:e=12
   .subst f;have:arg.toNat<k:=by simp at j;omega
    simp only[ysv,ybjv this]
   .simp only[i,f,if_false]
 | .un e a,d,p,h=>by
   simp only[Ex.ok,zI]at h;show unP e _=unP e _;rw[yhs a p h.2]
 | .agg e a,d,p,h=>by
   simp only[Ex.ok,zI]at h;show yhf e _=yhf e _;congr 1;exact List.map_congr_left fun q _=>yhs a q h.2
 | .bin e a b,d,p,h=>by
   simp only[Ex.ok,zI]at h;show binP e _ _=binP e _ _;rw[yhs a p h.1.2,yhs b p h.2]
 | .ite x a b,d,p,h=>by
   simp only[Ex.ok,zI]at h;show(if _≠0 then _ else _)=if _≠0 then _ else _
   rw[yhs x p h.1.1,yhs a p h.1.2,yhs b p h.2]
def RuleT.act(r:RuleT):Ex×List (Int×Ex):=(r.guard,r.sets)
structure LowT(q p:ProgT):Prop where
 vars:p.vars.take q.vars.length=q.vars
 rules:(p.rules.take q.rules.length).map RuleT.act=q.rules.map RuleT.act
 up:∀r∈p.rules.drop q.rules.length,∀s∈r.sets,(q.vars.length:Int)<=s.1
 ok:q.ok=true
section
variable {q p:ProgT}{g:Gr}{c:Conf}{v:Nat}
theorem yxw{a b:Type}(f:a->b)(P:b->Bool)(l:List a):l.findIdx? (fun x=>P (f x))=(l.map f).findIdx? P:=by
 induction l with
 |nil=>rfl
 |cons x l d=>rw[zAV,zAB,zAB,d]
theorem ybck{a:Type}{P Q:a->Bool}{l:List a}(h:∀x∈l,P x=Q x):l.findIdx? P=l.findIdx? Q:=by
 induction l with
 |nil=>rfl
 |cons x l d=>rw[zAB,zAB,h x zQ,d fun y b=>h y (zM _ b)]
theorem LowT.rule(h:LowT q p):(0<=yea q g (prjC q.vars.length c) v/\yea p g c v=yea q g (prjC q.vars.length c) v) \/
 (yea q g (prjC q.vars.length c) v = -1/\(yea p g c v = -1\/(q.rules.length:Int)<=yea p g c v)):=by
 have a:=h.ok;unfold ProgT.ok at a;simp only[zI]at a
 have f:q.rules.findIdx? (yei g (prjC q.vars.length c) v)=q.rules.findIdx? (yei g c v):=ybck fun r l=>by
  have:=List.all_eq_true.1 a.2 r l;unfold RuleT.ok at this;simp only[zI]at this;unfold yei;rw[yhs r.guard (-1) this.1.1.1]
 have j:(p.rules.take q.rules.length).findIdx? (yei g c v)=q.rules.findIdx? (yei g c v):=by
  have d:=yxw RuleT.act (fun x=>ybv g c v x.1 (-1)!=0) (p.rules.take q.rules.length);have e:=yxw RuleT.act (fun x=>ybv g c v x.1 (-1)!=0) q.rules;rw[h.rules,<-e]at d;exact d
 have b:(p.rules.take q.rules.length).length=q.rules.length:=by
  have:=congrArg zCI h.rules
  simpa using this
 have k:p.rules.findIdx? (yei g c v)=((p.rules.take q.rules.length).findIdx? (yei g c v)).or (((p.rules.drop q.rules.length).findIdx? (yei g c v)).map fun i=>i+q.rules.length):=by
  conv=>lhs;rw[<-List.take_append_drop q.rules.length p.rules]
  rw[List.findIdx?_append,b]
 unfold yea;rw[f,k,j];cases n:q.rules.findIdx? (yei g c v)with
 |some i=>left;exact⟨by simp,rfl⟩
 | none =>
   right
   refine⟨rfl,?_⟩;cases m:(p.rules.drop q.rules.length).findIdx? (yei g c v)with
   |none=>left;rfl
   |some i=>right;simp;omega
theorem LowT.sets(h:LowT q p):∀(sets:List (Int×Ex)) (a:List Int),(∀s∈sets,0<=s.1/\s.1<(q.vars.length:Int)/\s.2.ok q.vars.length false=true) ->
 (yjl p g c v a sets).take q.vars.length=yjl q g (prjC q.vars.length c) v (a.take q.vars.length) sets
 |[],a,_=>rfl
 | s :: l,a,b=>by
   obtain⟨i,j,d⟩:=b s zQ
   have e:p.vars.getD s.1.toNat default=q.vars.getD s.1.toNat default:=by
    conv=>rhs;rw[<-h.vars]
    simp only[zK,zAJ,if_pos (show s.1.toNat<q.vars.length by omega)]
   show(yjl p g c v (a.set _ _) l).take _=yjl q g _ v ((a.take _).set _ _) l;rw[LowT.sets h l _ fun x f=>b x (zM _ f),zCQ,e,yhs s.2 (-1) d]
theorem ybxx{k:Nat}:∀(sets:List (Int×Ex)) (a:List Int),(∀s∈sets,(k:Int)<=s.1)->(yjl p g c v a sets).take k=a.take k
 |[],a,_=>rfl
 | s::l,a,b=>by
   have e:=b s zQ;show(yjl p g c v (a.set _ _) l).take _=_;rw[ybxx l _ fun x d=>b x (zM _ d),zCQ,List.set_eq_of_length_le (by rw[zAL];omega)]
theorem LowT.move(h:LowT q p)(y:0<=yea p g c v):(ysg p g c v (yea p g c v).toNat).take q.vars.length =
 if 0<=yea q g (prjC q.vars.length c) v then ysg q g (prjC q.vars.length c) v (yea q g (prjC q.vars.length c) v).toNat else(prjC q.vars.length c).getD v []:=by
 have r:=Sh.ybce p g c v;rcases h.rule (g:=g) (c:=c) (v:=v)with⟨m,n⟩|⟨m,n⟩
 .rw[if_pos m,n];have u:=Sh.ybce q g (prjC q.vars.length c) v;obtain⟨i,k⟩:∃i,(yea q g (prjC q.vars.length c) v).toNat=i:=⟨_,rfl⟩;rw[k];have d:i<q.rules.length:=by omega
  have w:=h.rules
  have e:(p.rules.getD i default).sets=(q.rules.getD i default).sets:=by
   have a:=congrArg (fun l=>l[i]?) h.rules;simp only[zAD,zAJ,if_pos d]at a;have o:i<p.rules.length:=by omega
   rw[zF o,zF d]at a;simp only[Option.map_some,Option.some.injEq]at a;simp only[zK,zF o,zF d,zBN];exact congrArg Prod.snd a
  unfold ysg;rw[e,ysv];refine h.sets _ _ fun s j=>?_;have f:=h.ok;unfold ProgT.ok at f;simp only[zI]at f
  have t:q.rules.getD i default∈q.rules:=by
   simp only[zK,zF d,zBN];exact zY _
  have a:=List.all_eq_true.1 f.2 _ t;unfold RuleT.ok at a;simp only[zI]at a;have b:=List.all_eq_true.1 a.2 s j;simp only[zI,decide_eq_true_eq]at b;exact⟨b.1.1.1,b.1.1.2,b.1.2⟩
 .rw[if_neg (by omega),ysv]
  unfold ysg;refine ybxx _ _ fun s j=>?_;have x:(q.rules.length:Int)<=yea p g c v:=by omega
  obtain⟨i,k⟩:∃i,(yea p g c v).toNat=i:=⟨_,rfl⟩;rw[k]at j;have d:i<p.rules.length:=by omega
  refine h.up _ ?_ s j;simp only[zK,zF d,zBN];rw[List.mem_iff_getElem?];refine⟨i-q.rules.length,?_⟩;rw[List.getElem?_drop,show q.rules.length+(i-q.rules.length)=i by omega,zF d]
theorem ycsb{w:Nat}:(yh p g c).testBit w=(decide (w<g.ids.length)&&decide (yea p g c w>=0)):=yfm _ _ _
theorem LowT.rest(h:LowT q p)(b:yh p g c=0):yh q g (prjC q.vars.length c)=0:=by
 rw[ych]at b ⊢;intro i;have a:=b i;rw[ycsb]at a ⊢
 by_cases d:i<g.ids.length
 .simp only[d,decide_true,zAN,decide_eq_false_iff_not]at a ⊢;rcases h.rule (g:=g) (c:=c) (v:=i)with⟨e,f⟩|⟨e,f⟩<;>omega
 .simp[d]
theorem yboq{a b:Conf}(f:a.length=b.length)(h:∀v,v<a.length->a.getD v []=b.getD v []):a=b:=by
 refine zBO f fun i d e=>?_;have:=h i d
 simpa[zK,d,e]using this
theorem LowT.step(h:LowT q p)(j:c.length=g.ids.length){s:Nat}(i:subB s (yh p g c)) :
 prjC q.vars.length (yez p g c s)=yez q g (prjC q.vars.length c) (s&&&yh q g (prjC q.vars.length c)):=by
 have d:(prjC q.vars.length c).length=c.length:=by simp[prjC]
 refine yboq (by rw[Sh.yeb,d];simp[prjC,Sh.yeb]) fun v a=>?_
 have a:v<c.length:=by simpa[prjC,Sh.yeb]using a
 rw[ysv,Sh.ygy p g c s a,Sh.ygy q g _ _ (by rw[d];exact a),zAP,ycsb]
 cases f:s.testBit v with
 |false=>simp only[Bool.false_and,zCD,if_false,ysv]
 | true =>
   have b:=i v f;rw[ycsb,zI,decide_eq_true_eq,decide_eq_true_eq]at b;have e:=h.move b.2;simp only[if_true,zAN,decide_eq_true b.1,decide_eq_true_eq,ge_iff_le];exact e
theorem step_none(b:c.length=g.ids.length):yez q g c 0=c:=by
 refine yboq (Sh.yeb _ _ _ _) fun v a=>?_;rw[Sh.yeb]at a;rw[Sh.ygy q g c 0 a];simp
theorem LowT.conf(h:LowT q p)(j:ycb p g c=true):ycb q g (prjC q.vars.length c)=true:=by
 unfold ycb at j ⊢;obtain⟨l,m⟩:=(ydi _ _ _).1 j
 have o:q.vars.length<=p.vars.length:=by
  have:=congrArg zCI h.vars;rw[zAL]at this;omega
 refine(ydi _ _ _).2 ⟨by simpa[prjC]using l,fun v s f=>?_⟩
 unfold prjC at f;rw[zAD]at f;obtain⟨t,r,rfl⟩:=Option.map_eq_some_iff.1 f;obtain⟨a,b⟩:=m v t r;rw[zAA]at a;refine⟨by rw[zAL,zAA];omega,fun i k x d e=>?_⟩
 rw[zAJ]at e;split at e
 .refine b i k x ?_ e;rw[zAD]at d ⊢;rw[<-h.vars,zAJ]at d
  rename_i n
  rw[if_pos (by simpa using n)]at d
  exact d
 .cases e
def schP(f:Nat->Nat):Nat->List Nat
 |0=>[]
 |n+1=>if f n=0 then schP f n else schP f n++[f n]
theorem ybdk(f:Nat->Nat):∀n,(schP f n).length<=n
 |0=>zN _
 | n+1=>by
   unfold schP;have:=ybdk f n;split
   .omega
   .rw[zS,zAK];omega
def plS(S:Sys)(x:Conf×Cnt)(l:List Nat):Conf×Cnt:=l.foldl (fun x s=>(S.mv x.1 s,addP x.2 s (S.en (S.mv x.1 s)))) x
theorem ybot(S:Sys)(x:Conf×Cnt)(l:List Nat)(s:Nat):plS S x (l++[s])=(S.mv (plS S x l).1 s,addP (plS S x l).2 s (S.en (S.mv (plS S x l).1 s))):=by
 unfold plS;rw[zAR];rfl
theorem LowT.play(h:LowT q p){st:Nat->Conf}{ch:Nat->Nat}{N:Nat}(a:∀i,i<N->st (i+1)=yez p g (st i) (ch i))(b:∀i,i<N->subB (ch i) (yh p g (st i)))(f:∀i,i<=N->(st i).length=g.ids.length)(K:Cnt) :
 ∀n,n<=N->(plS (ybq q g) (prjC q.vars.length (st 0),K) (schP (fun i=>ch i&&&yh q g (prjC q.vars.length (st i))) n)).1=prjC q.vars.length (st n)
 |0,_=>rfl
 | n + 1,k=>by
   have j:=LowT.play h a b f K n (by omega)
   have e:=h.step (g:=g) (c:=st n) (f n (by omega)) (b n (by omega))
   rw[a n (by omega),e]
   unfold schP
   by_cases d:ch n&&&yh q g (prjC q.vars.length (st n))=0
   .rw[if_pos d,j,d];exact(step_none (by simp only[prjC,zAA];exact f n (by omega))).symm
   .rw[if_neg d,ybot,j];rfl
theorem LowT.sched (h:LowT q p) {st:Nat->Conf}{ch:Nat->Nat}{N:Nat}(b:∀i,i<N->st (i+1)=yez p g (st i) (ch i)) (d:∀i,i<N->subB (ch i) (yh p g (st i))) (t:∀i,i<=N->(st i).length=g.ids.length) (K:Cnt)
 {R:Nat->Prop}(r:∀i,i<N->∀s,subB s (ch i)->R s) :
 ∀ n,n<=N->∀j s,(schP (fun i=>ch i&&&yh q g (prjC q.vars.length (st i))) n)[j]?=some s ->
   s≠0/\subB s (yh q g (plS (ybq q g) (prjC q.vars.length (st 0),K) ((schP (fun i=>ch i&&&yh q g (prjC q.vars.length (st i))) n).take j)).1)/\R s
 |0,_,j,s,a=>by simp[schP]at a
 | n + 1,y,j,s,a=>by
   have o:=LowT.sched h b d t K r n (by omega)
   have u:=h.play b d t K n (by omega)
   unfold schP at a ⊢;obtain⟨L,w⟩:∃L,schP (fun i=>ch i&&&yh q g (prjC q.vars.length (st i))) n=L:=⟨_,rfl⟩;rw[w]at a o u ⊢;obtain⟨x,m⟩:∃x,ch n&&&yh q g (prjC q.vars.length (st n))=x:=⟨_,rfl⟩;simp only[m]at a ⊢
   by_cases f:x=0
   .rw[if_pos f]at a ⊢;exact o j s a
   .rw[if_neg f]at a ⊢
    by_cases l:j<L.length
    .rw[zAC l]at a;rw[zBD (by omega)]
     exact o j s a
    .have k:j=L.length:=by
      have:=(List.getElem?_eq_some_iff.1 a).1;rw[zS,zAK]at this;omega
     subst k;rw[zBJ (zN _),zW]at a;cases a
     rw[zBD (zN _),zAE,u];refine⟨f,fun i e=>?_,r n (by omega) _ fun i e=>?_⟩
     .rw[<-m,zAP,zI]at e;exact e.2
     .rw[<-m,zAP,zI]at e;exact e.1
end
end
section
def prTo(m:Nat)(c:Conf)(k i:Nat)(j:Nat):List Int:=if j<k then(c.getD j []).take m else if j=k then(c.getD j []).take (min i m)else[]
theorem ycin(m:Nat)(c:Conf)(j:Nat):prTo m c 0 0 j=[]:=by
 unfold prTo;rw[if_neg (by omega)]
 split
 .rw[zCV,zCA]
 .rfl
theorem ycmc(m:Nat)(c:Conf)(k i j:Nat):(prTo m c k i j).length<=m:=by
 unfold prTo;split
 .rw[zAL];omega
 .split
  .rw[zAL];omega
  .exact zAF _
theorem ychc{m:Nat}{c:Conf}{k i:Nat}(b:i<m)(a:i<(c.getD k []).length):prTo m c k (i+1) k=prTo m c k i k++[(c.getD k []).getD i 0]:=by
 unfold prTo;rw[if_neg (zAU _),if_pos rfl,if_neg (zAU _),if_pos rfl,show min (i+1) m=i+1 by omega,show min i m=i by omega]
 generalize c.getD k []=s at a ⊢
 rw[List.take_add_one,zF a];simp[zK,a]
theorem ybsl{m:Nat}{c:Conf}{k i j:Nat}(h:j≠k)(a:Nat):prTo m c k i j=prTo m c k a j:=by
 unfold prTo;rw[if_neg h,if_neg h]
theorem ybwf{m:Nat}{c:Conf}{k i:Nat}(a:m<=i)(j:Nat):prTo m c k (i+1) j=prTo m c k i j:=by
 unfold prTo;rw[show min (i+1) m=min i m by omega]
theorem ycdc{m:Nat}{c:Conf}{k i:Nat}(d:(c.getD k []).length<=i)(j:Nat):prTo m c k i j=prTo m c (k+1) 0 j:=by
 unfold prTo
 by_cases a:j<k
 .rw[if_pos a,if_pos (by omega)]
 .rw[if_neg a]
  by_cases b:j=k
  .subst b;rw[if_pos rfl,if_pos (by omega)]
   rcases Nat.le_total i m with q|q
   .rw[Nat.min_eq_left q,zBY d,zBY (by omega)]
   .rw[Nat.min_eq_right q]
  .rw[if_neg b,if_neg (by omega)]
   split
   .rw[zCV,zCA]
   .rfl
namespace Sh
open Ev Go.RowKit
def irC(F:Nat)(f:Nat->List Int)(j:Nat):SV:=if (f j).length=0 then .a (.slice none 0 0)else .os (F,j) 0 (f j).length true
def irB(e:Nat)(l:List Int):Option OB:=if l.length=0 then none else some ⟨e,false,1,l.length,fun i=>[.i .i64 (l.getD i 0)]⟩
def irM(e:Nat)(f:Nat->List Int):Fam:=.many fun j=>irB e (f j)
theorem ybdp{F e j:Nat}{f:Nat->List Int}{O:Own}(ρ:List (Nat×(Nat->Nm))){X:SV}(c:X=if (f j).length=0 then .a (.slice none 0 0)else .os (rid ρ (F,j)) 0 (f j).length true)(b:lookO O (F,j)=irB e (f j)) :
 (Sim X (ren (rid ρ) 5 (irC F f j))/\cln (lv [] O) 5 (irC F f j)=true)/\one1 (irC F f j)=true:=by
 subst c;unfold irC
 by_cases q:(f j).length=0
 .simp only[if_pos q];exact⟨⟨Sim.refl _,rfl⟩,rfl⟩
 .simp only[if_neg q];refine⟨⟨Sim.refl _,?_⟩,rfl⟩;show(live O (F,j) && !(List.elem F []))=true;unfold live;rw[b];unfold irB;rw[if_neg q];rfl
theorem ybpx{F e j:Nat}{f:Nat->List Int}{b O:Own}(ρ:List (Nat×(Nat->Nm))){X:List SV}(i:X=[if (f j).length=0 then .a (.slice none 0 0)else .os (rid ρ (F,j)) 0 (f j).length true])(h:lookO O (F,j)=irB e (f j)):telL (rid ρ) [] [] b O X [irC F f j]:=by
 subst i;obtain⟨⟨c,d⟩,g⟩:=ybdp (X:=if (f j).length=0 then .a (.slice none 0 0)else .os (rid ρ (F,j)) 0 (f j).length true) ρ rfl h
 exact⟨.inl ⟨(ybct _ _ _).2 trivial,by rw[yqn];exact c,d⟩,g,trivial⟩
theorem yot{e:Nat}{l:List Int}{b:OB}{h:Nm->Nm}{f j:Own}(k:mapE e=false)(a:irB e l=some b){c:OB}(d:(c.e=e/\c.bx=false/\c.z=1/\c.n=l.length)/\∀i,i<l.length->c.g i=[.i .i64 (l.getD i 0)]) :
 (c.e=b.e/\c.bx=b.bx/\c.z=b.z/\c.n=b.n)/\(mapE b.e=true->∀i,c.g i=b.g i)/\∀i,i<b.n->telL h [] [] f j (c.g i) (b.g i):=by
 unfold irB at a;split at a
 .cases a
 .cases a
  refine⟨d.1,fun q=>?_,fun i m=>?_⟩
  .have q:mapE e=true:=q;rw[k]at q;cases q
  .rw[d.2 i m];exact⟨.inl ⟨(ybct _ _ _).2 trivial,by rw[yqn];exact Sim.refl _,rfl⟩,rfl,trivial⟩
theorem yqe{e:Nat}{l:List Int}{b:OB}(a:irB e l=some b):(b.e=e/\b.bx=false/\b.z=1/\b.n=l.length)/\∀i,i<l.length->b.g i=[.i .i64 (l.getD i 0)]:=by
 unfold irB at a;split at a
 .cases a
 .cases a;exact⟨⟨rfl,rfl,rfl,rfl⟩,fun _ _=>rfl⟩
theorem ycul{e:Nat}{l:List Int}{x:Int}(h:l.length=0){g:Nat->List SV}(a:g 0=[.i .i64 x]):((⟨e,false,1,1,g⟩:OB).e=e/\(⟨e,false,1,1,g⟩:OB).bx=false/\(⟨e,false,1,1,g⟩:OB).z=1/\(⟨e,false,1,1,g⟩:OB).n=(l++[x]).length)/\∀i,i<(l++[x]).length->(⟨e,false,1,1,g⟩:OB).g i=[.i .i64 ((l++[x]).getD i 0)]:=by
 obtain rfl:l=[]:=zBE h;refine⟨⟨rfl,rfl,rfl,rfl⟩,fun i b=>?_⟩;obtain rfl:i=0:=by simp at b;omega
 exact a
theorem yclp{e n:Nat}{l:List Int}{x:Int}{g g':Nat->List SV}(d:n=l.length)(b:∀i,i<l.length->g i=[.i .i64 (l.getD i 0)])(a:g' 0=[.i .i64 x]) :
 ((⟨e,false,1,n+1,fun i=>if i<n then g i else g' (i-n)⟩:OB).e=e/\(⟨e,false,1,n+1,fun i=>if i<n then g i else g' (i-n)⟩:OB).bx=false/\(⟨e,false,1,n+1,fun i=>if i<n then g i else g' (i-n)⟩:OB).z=1/\(⟨e,false,1,n+1,fun i=>if i<n then g i else g' (i-n)⟩:OB).n=(l++[x]).length) /\
   ∀i,i<(l++[x]).length->(⟨e,false,1,n+1,fun i=>if i<n then g i else g' (i-n)⟩:OB).g i=[.i .i64 ((l++[x]).getD i 0)]:=by
 subst d;refine⟨⟨rfl,rfl,rfl,by rw[zS];rfl⟩,fun i c=>?_⟩
 show(if i<l.length then g i else g' (i-l.length))=_
 by_cases q:i<l.length
 .rw[if_pos q,b i q];simp[zK,zAC q]
 .have:i=l.length:=by simp at c;omega
  subst this;rw[if_neg q,zW,a];simp[zK]
end Sh
end
section
structure Tgt(S:Sys)(V:Conf->Prop)(T:Conf->Nat->List Int):Prop where
 valid:∀c s,V c->s≠0->subB s (S.en c)->V (S.mv c s)
 stay:∀c s v,V c->v<S.n->s.testBit v=false->(S.mv c s).getD v []=c.getD v []
 move:∀c s v,V c->v<S.n->s.testBit v=true->subB s (S.en c)->(S.mv c s).getD v []=T c v
 en:∀c v,V c->v<S.n->((S.en c).testBit v=false↔c.getD v []=T c v)
theorem Tgt.silent{S:Sys}{V:Conf->Prop}{T:Conf->Nat->List Int}(h:Tgt S V T){P:Nat->Nat->List Int->Prop}(e:∀c v r,V c->v<S.n->(∀u,u<S.n->P r u (c.getD u []))->P (r+1) v (T c v)){c:Conf}(b:V c)(d:∀v,v<S.n->P 0 v (c.getD v []))(f:S.en c=0):∀r v,v<S.n->P r v (c.getD v [])
 |0,v,a=>d v a
 | r+1,v,a=>by
   rw[(h.en c v b a).1 (by rw[f];simp)]
   exact e c v r b a (Tgt.silent h e b d f r)
theorem Tgt.en_zero{S:Sys}{V:Conf->Prop}{T:Conf->Nat->List Int}(h:Tgt S V T){c:Conf}(e:V c)(a:S.en c<2^S.n)(d:∀v,v<S.n->c.getD v []=T c v):S.en c=0:=by
 rw[ych];intro i
 by_cases b:i<S.n
 .exact(h.en c i e b).2 (d i b)
 .exact zAS (zL a (zV (by omega) (by omega)))
end
section
open Go.RowKit
theorem ybiu(f:Value)(D:List Int)(w:World)(d:ynw w f D) :
 Calls zG 203 #[f] w fun e j=>e = .returned (.int .i64 (ybu D))/\w=j:=by
 obtain⟨A,c,rfl,g,h⟩:=yct d;have Hd:=zH d
 clear d
 go_enter Tryz.func203,Tryz.ntmps203
 go_wp2
 go_loopg [3,8] D.length (fun q m t wr=>∃k:Nat,q+k=D.length/\t = .int .i64 k/\wr=w/\m = .int .i64 (ybu (D.take k)))
 case atStart=>exact⟨0,by omega,rfl,rfl,by simp[ybu]⟩
 case round =>
  obtain⟨k,o,rfl,rfl,rfl⟩:=hrel
  by_cases a:k<D.length
  .obtain⟨b,i,rfl,l,n,p⟩:=ylv Hd.out a;have Hs:=zH (yoh D k a)
   go_wp2
   all_goals
    go_roundg (gk-1)
    case measure=>omega
    case rel=>exact⟨k+1,by omega,by go_num,rfl,by rw[Hs.out];try (congr 1;omega)⟩
  .obtain rfl:k=D.length:=by omega
   go_wp2
   go_ret
   exact⟨yxe (by rw[zAE]),rfl⟩
theorem ygl(gv:Value)(g:Gr)(w:World)(z:GrAt w gv g) :
 Calls zG 202 #[gv] w fun e L=>e = .returned (.bool (ycj g))/\Below w.heap.size w L:=by
 have l:=zH z;obtain⟨i,p,rfl,F,I⟩:=z
 clear F I
 cases u:yhc g with
 | false =>
   have Hf:=zH (show ycj g=false by unfold ycj;rw[u];rfl)
   go_enter zCW,zCR
   go_wp2_with fail
   refine(ywf _ g _ (l.out.below ((Below.refl _ _).alloc (zN _) _))).mono ?_;rintro e M ⟨rfl,f⟩
   go_wp2_with fail
   go_ret
   exact⟨ybt Hf.out.symm,ywg f⟩
 | true =>
   have d:=(ycm g).1 u;have H:=d.1;have B:=d.2.1;have Hgood:=zH d;have C:=zH (yhg d (a:=0) (by omega))
   have Hc:=zH (show ycj g=(ybr g 0).all (fun x=>decide (0<=x))by unfold ycj;rw[u];rfl)
   clear d
   go_enter zCW,zCR
   go_wp2_with fail
   refine(ywf _ g _ (l.out.below ((Below.refl _ _).alloc (zN _) _))).mono ?_;rintro e M ⟨rfl,f⟩;obtain⟨S,T⟩:=ycth f;have Hb1:=zH (ywg f)
   clear f
   go_wp2_with fail
   refine(ybad _ g 0 _ (l.out.below Hb1.out) Hgood.out (by omega)).mono ?_
   rintro e N ⟨v,rfl,n,o⟩;have Hb2:=zH (Hb1.out.trans (o.mono Hb1.out.size));obtain⟨A,c,rfl,s,E⟩:=yct n;have Hv2:=zH n
   clear o n
   obtain⟨D,y⟩:∃D,ybr g 0=D:=⟨_,rfl⟩;rw[y]at Hv2 C s Hc ⊢
   clear y
   go_wp2
   go_loopg [11] D.length (fun q t wr=>∃k:Nat,q+k=D.length/\t = .int .i64 k/\wr=N/\Hid (∀j (m:j<D.length),j<k->0<=D[j]))
   case atStart=>exact⟨0,by omega,rfl,rfl,zH (fun j _ m=>absurd m (by omega))⟩
   case round =>
    obtain⟨k,Q,rfl,rfl,h⟩:=hrel
    by_cases r:k<D.length
    .obtain⟨b,K,rfl,O,P,R⟩:=ylv Hv2.out r
     by_cases c1:D[k]<0
     .have Hf:=zH (show ycj g=false by
       rw[Hc.out,zCG];exact⟨D[k],zY r,by simp;omega⟩)
      go_wp2
      go_ret
      exact⟨ybt Hf.out.symm,Hb2.out⟩
     .go_wp2
      go_roundg (gk-1)
      case measure=>omega
      case rel =>
       refine⟨k+1,by omega,by go_num,rfl,zH (fun j m G=>?_)⟩
       by_cases e:j=k
       .subst e;omega
       .exact h.out j m (by omega)
    .obtain rfl:k=D.length:=by omega
     have Ht:=zH (show ycj g=true by
      rw[Hc.out,zCJ];intro x J;obtain⟨j,m,rfl⟩:=List.mem_iff_getElem.1 J;exact decide_eq_true (h.out j m m))
     go_wp2
     go_ret
     exact⟨ybt Ht.out.symm,Hb2.out⟩
theorem ygv{g:Gr}(h:ycj g=true):yhc g=true:=(zI _ _▸h).1
theorem yuf(gv:Value)(g:Gr)(v:Int)(w:World)(j:GrAt w gv g) :
 Calls zG 108 #[gv,.int .i64 v] w fun e r=>e = .returned (.int .i64 (eccP g v))/\Below w.heap.size w r:=by
 have b:=zH j;obtain⟨i,p,rfl,n,k⟩:=j;obtain⟨s,c2,rfl,l,m⟩:=yct k
 clear n k
 cases f:ycj g with
 | false =>
   have Hf:=zH (show eccP g v = -1 by unfold eccP;rw[f];simp)
   go_enter zBP,zBK
   go_wp2_with fail
   refine(ygl _ g _ (b.out.below ((Below.refl _ _).alloc (zN _) _))).mono ?_;rintro e h ⟨rfl,a⟩
   go_wp2_with fail
   go_ret
   exact⟨yxe Hf.out.symm,ywg a⟩
 | true =>
   have Hgood:=zH ((ycm g).1 (ygv f))
   by_cases c1:v<0
   .have Hf:=zH (show eccP g v = -1 by unfold eccP;rw[if_neg];omega)
    go_enter zBP,zBK
    go_wp2_with fail
    refine(ygl _ g _ (b.out.below ((Below.refl _ _).alloc (zN _) _))).mono ?_;rintro e h ⟨rfl,a⟩
    go_wp2_with fail
    go_ret
    exact⟨yxe Hf.out.symm,ywg a⟩
   .by_cases c2:v<g.ports.length
    .obtain⟨u,rfl⟩:=zBT (show 0<=v by omega)
     have Hf:=zH (show eccP g u=ybu (ybr g u)by unfold eccP;rw[if_pos ⟨f,by omega,c2⟩];rfl)
     have c3:u<g.ports.length:=by omega
     have c4:decide ((g.ports.length:Int)<=(u:Int))=false:=by simp;omega
     have c5:decide (g.ports.length<=u)=false:=by simp;omega
     go_enter zBP,zBK
     go_wp2_with fail
     refine(ygl _ g _ (b.out.below ((Below.refl _ _).alloc (zN _) _))).mono ?_;rintro e h ⟨rfl,a⟩;obtain⟨o,q⟩:=ycth a;have Hb1:=zH (ywg a)
     clear a
     go_wp2_with fail
     refine(ybad _ g u _ (b.out.below Hb1.out) Hgood.out c3).mono ?_;rintro e t ⟨x,rfl,d,c⟩;have Hb2:=zH (Hb1.out.trans (c.mono Hb1.out.size));have Hv2:=zH d
     clear c d
     go_wp2_with fail
     refine(ybiu _ _ _ Hv2.out).mono ?_;rintro e y ⟨rfl,rfl⟩
     go_wp2_with fail
     go_ret
     exact⟨yxe Hf.out.symm,Hb2.out⟩
    .have Hf:=zH (show eccP g v = -1 by unfold eccP;rw[if_neg];omega)
     have c4:decide ((g.ports.length:Int)<=v)=true:=by simp;omega
     go_enter zBP,zBK
     go_wp2_with fail
     refine(ygl _ g _ (b.out.below ((Below.refl _ _).alloc (zN _) _))).mono ?_;rintro e h ⟨rfl,a⟩;obtain⟨o,q⟩:=ycth a
     go_wp2_with fail
     go_ret
     exact⟨yxe Hf.out.symm,ywg a⟩
end
section
open Go.RowKit
theorem yog(g:Gr)(G:List Int)(v:Nat):(ydm g G v).length=G.length:=by simp[ydm]
set_option maxHeartbeats 2000000 in
theorem ysd(gv cv Gv:Value)(g:Gr)(c:Conf)(G:List Int)(w:World)(hg:GrAt w gv g)(J:ycty w cv c)(Y:ynw w Gv G)(a:ybe g) :
 Calls zG 158 #[gv,cv,Gv] w fun e w'=>e = .returned (.bool (yol g.ports.length (ydm g G) c))/\Below w.heap.size w w':=by
 have a7:=a.2.1;have hid:=a.2.2.1;have a5:=zH hid
 clear a
 obtain⟨i,p,rfl,hi,hp⟩:=hg;obtain⟨A,c0,rfl,b4,b8⟩:=yct hi;obtain⟨A2,c2,rfl,b9,c6⟩:=yct hp;obtain⟨A3,c3,rfl,c7,c9⟩:=yct J;obtain⟨A4,c4,rfl,d0,d1⟩:=yct Y;have Hp:=zH hp;have Hc:=zH J;have HG:=zH Y
 clear hi hp J Y
 by_cases Q:c.length=g.ids.length
 .have a4:((c.length:Int)!=(g.ids.length:Int))=false:=by simp[Q]
  have Hn:=zH (Q.trans hid);have d8:c.length<=24:=by omega
  clear Q hid
  go_enter zCX,zCS
  go_wp2
  obtain⟨W1,k⟩:∃W,W=w.alloc (.cells #[.slice A g.ids.length c0,.slice A2 g.ports.length c2] 30):=⟨_,rfl⟩;have a6:W1.cell? ⟨w.heap.size,1,none⟩=some (.slice A2 g.ports.length c2):=by subst k;simp
  have HbW:=zH (show Below w.heap.size w W1 by subst k;exact(Below.refl _ _).alloc (zN _) _)
  rw[<-k]
  clear k
  go_loopg [21] c.length (fun q t wr=>∃v n:Nat,q+v=c.length/\t = .int .i64 v/\wr=W1.drewN n/\Hid (∀(u:Nat) s,u<v->c[u]?=some s->yfu (ydm g G u) s))
  case atStart=>exact⟨0,0,by omega,rfl,rfl,zH (fun u s hu=>absurd hu (by omega))⟩
  case round =>
   obtain⟨v,n,hq,rfl,rfl,L⟩:=hrel
   by_cases B:v<c.length
   .obtain⟨b3,b2,sv,rfl,d4,a2,C⟩:=ypi (Hc.out.below (Stable.sl Stable.int) HbW.out) (zF B);obtain⟨A5,c5,rfl,V,d2⟩:=yct C;obtain⟨s,E⟩:∃s,c[v]=s:=⟨_,rfl⟩;have Hs?:=zH (show c[v]?=some s by rw[zF B,E])
    rw[E]at C a2 V;have Hbad:=zH (show ¬yfu (ydm g G v) s->yol g.ports.length (ydm g G) c=false from fun h=>ykx (fun J=>h (J.2 v s Hs?.out)))
    have Hs:=zH C
    clear C E
    by_cases c1:s.length=G.length
    .have R:((s.length:Int)!=(G.length:Int))=false:=by simp[c1]
     have Hsl:=zH c1
     clear c1
     have O:v<g.ports.length:=by rw[<-Hn.out];exact B
     go_wp2
     obtain⟨U,rfl⟩:∃U,U=gk:=⟨_,rfl⟩
     go_loopg [33] s.length (fun q t wr=>∃x n:Nat,q+x=s.length/\t = .int .i64 x/\wr=W1.drewN n/\Hid (∀(j:Nat) b z,j<x->(ydm g G v)[j]?=some b->s[j]?=some z->b.1<=z/\z<=b.2))
     case atStart=>exact⟨0,n,by omega,rfl,rfl,zH (fun j b z hj=>absurd hj (by omega))⟩
     case round =>
      obtain⟨x,n,d9,rfl,rfl,F⟩:=hrel
      by_cases H:x<s.length
      .have P:x<G.length:=by rw[<-Hsl.out];exact H
       obtain⟨b5,o5,rfl,d5,Z,M⟩:=ylv (Hs.out) H;obtain⟨b6,o6,rfl,d6,a0,N⟩:=ylv (HG.out.below Stable.int HbW.out) P;obtain⟨b7,o7,lv,rfl,d7,a1,K⟩:=ypi (Hp.out.below (Stable.sl Stable.link) HbW.out) (zF O);obtain⟨A8,c8,rfl,X,d3⟩:=yct K;obtain⟨I,o⟩:∃I,g.ports[v]=I:=⟨_,rfl⟩;have m:ycjp g v=I.length:=by simp[ycjp,zK,zF O,o]
       rw[o]at a1 X;obtain⟨y,hy⟩:∃y,s[x]=y:=⟨_,rfl⟩;obtain⟨h,hh⟩:∃h,G[x]=h:=⟨_,rfl⟩;have Hy?:=zH (show s[x]?=some y by rw[zF H,hy])
       have d:(ydm g G v)[x]?=some (if h = -1 then(-1,(I.length:Int)-1)else(0,h)):=by
        simp[ydm,P,hh,m]
       rw[hy]at Z M;rw[hh]at a0 N;obtain⟨a8,a9⟩:=M;obtain⟨b0,b1⟩:=N
       clear K o m hy hh
       by_cases c2:h = -1
       .have S:(h == -1)=true:=by simp[c2]
        rw[if_pos c2]at d;have Hb?:=zH d
        clear d c2
        by_cases c3:y < -1
        .have Hf:=zH (Hbad.out (fun h=>by have:=h.2 x _ y Hb?.out Hy?.out;simp only at this;omega))
         go_wp2
         go_quiet (fail)
         go_wp2
         go_quiet (fail)
         go_wp2
         go_ret
         exact⟨ybt Hf.out.symm,below_drewN HbW.out _⟩
        .by_cases c4:(I.length:Int)-1<y
         .have Hf:=zH (Hbad.out (fun h=>by have:=h.2 x _ y Hb?.out Hy?.out;simp only at this;omega))
          go_wp2
          go_quiet (fail)
          go_wp2
          go_quiet (fail)
          go_wp2
          go_ret
          exact⟨ybt Hf.out.symm,below_drewN HbW.out _⟩
         .have T:decide ((I.length:Int)-1<y)=false:=by simp;omega
          go_wp2
          go_quiet (fail)
          go_wp2
          go_quiet (fail)
          go_wp2
          go_roundg (gk-1)
          case measure=>omega
          case rel =>
           refine⟨x+1,_,by omega,by go_num,rfl,zH (fun j b z hj l f=>?_)⟩
           by_cases r:j<x
           .exact F.out j b z r l f
           .obtain rfl:j=x:=by omega
            rw[Hb?.out]at l;rw[Hy?.out]at f;cases l
            cases f
            simp only;omega
       .have S:(h == -1)=false:=by simp[c2]
        rw[if_neg c2]at d;have Hb?:=zH d
        clear d c2
        by_cases c3:y<0
        .have Hf:=zH (Hbad.out (fun h=>by have:=h.2 x _ y Hb?.out Hy?.out;simp only at this;omega))
         go_wp2
         go_quiet (fail)
         go_wp2
         go_ret
         exact⟨ybt Hf.out.symm,below_drewN HbW.out _⟩
        .by_cases c4:h<y
         .have Hf:=zH (Hbad.out (fun h=>by have:=h.2 x _ y Hb?.out Hy?.out;simp only at this;omega))
          go_wp2
          go_quiet (fail)
          go_wp2
          go_ret
          exact⟨ybt Hf.out.symm,below_drewN HbW.out _⟩
         .have T:decide (h<y)=false:=by simp;omega
          go_wp2
          go_quiet (fail)
          go_wp2
          go_roundg (gk-1)
          case measure=>omega
          case rel =>
           refine⟨x+1,_,by omega,by go_num,rfl,zH (fun j b z hj l f=>?_)⟩
           by_cases r:j<x
           .exact F.out j b z r l f
           .obtain rfl:j=x:=by omega
            rw[Hb?.out]at l;rw[Hy?.out]at f;cases l
            cases f
            simp only;omega
      .obtain rfl:x=s.length:=by omega
       go_wp2
       go_roundg (U-1)
       case measure=>omega
       case rel =>
        refine⟨v+1,_,by omega,by go_num,rfl,zH (fun u s' hu D=>?_)⟩
        by_cases a3:u<v
        .exact L.out u s' a3 D
        .obtain rfl:u=v:=by omega
         rw[Hs?.out]at D;cases D
         refine⟨by rw[yog,Hsl.out],fun j b z l f=>F.out j b z (List.getElem?_eq_some_iff.1 f).1 l f⟩
    .have R:((s.length:Int)!=(G.length:Int))=true:=by simp;omega
     have Hf:=zH (Hbad.out (fun h=>c1 (by rw[h.1,yog])))
     clear c1
     go_wp2
     go_ret
     exact⟨ybt Hf.out.symm,below_drewN HbW.out _⟩
   .obtain rfl:v=c.length:=by omega
    have Ht:=zH (yzs (n:=g.ports.length) (bs:=ydm g G) (c:=c) ⟨Hn.out,fun v s C=>L.out v s (List.getElem?_eq_some_iff.1 C).1 C⟩)
    go_wp2
    go_ret
    exact⟨ybt Ht.out.symm,below_drewN HbW.out _⟩
 .have a4:((c.length:Int)!=(g.ids.length:Int))=true:=by simp;omega
  have Hf:=zH (ykx (n:=g.ports.length) (bs:=ydm g G) (c:=c) (fun h=>Q (h.1.trans hid.symm)))
  clear Q hid
  go_enter zCX,zCS
  go_wp2
  go_ret
  exact⟨ybt Hf.out.symm,(Below.refl _ _).alloc (zN _) _⟩
end
section
open Go.RowKit
def yne(g:Gr)(c:Conf):Bool:=ycj g&&yol g.ports.length (ydm g [(g.ports.length:Int),-1]) c
def ykj(g:Gr)(c:Conf):Bool:=yne g c&&c.zipIdx.all (fun p=>ysx g (ybr g 0) p.2 p.1)
theorem ybhi{c:Conf}{f:List Int->Nat->Bool}{v:Nat}{s:List Int}(a:c[v]?=some s)(h:f s v=false):c.zipIdx.all (fun p=>f p.1 p.2)=false:=by
 rw[zCG];exact⟨(s,v),List.mem_zipIdx_iff_getElem?.2 a,by simp[h]⟩
theorem ybki{c:Conf}{f:List Int->Nat->Bool}(h:∀(v:Nat) s,c[v]?=some s->f s v=true):c.zipIdx.all (fun p=>f p.1 p.2)=true:=by
 rw[zCJ];rintro⟨s,v⟩ a;exact h v s (List.mem_zipIdx_iff_getElem?.1 a)
theorem yjo(g:Gr)(v:Int):-1<=eccP g v/\eccP g v<=1000:=by
 unfold eccP;split
 .rename_i h
  have b:=(ycm g).1 (ygv h.1);refine⟨ybdd _,ytu _ _ (by omega) (fun x c=>?_)⟩
  have:=(yec b (a:=v.toNat) (by omega)).bound b (by omega) x c
  omega
 .omega
end
section
def yhq(g:Gr):Nat:=(g.ports.map zCI).sum
def addL(back:Bool)(l:List (Int×Int))(x:Int×Int):List (Int×Int):=if back then x::l else l++[x]
theorem yfq{back:Bool}{l:List (Int×Int)}{x y:Int×Int}:y∈addL back l x↔y=x\/y∈l:=by
 unfold addL;cases back<;>simp[or_comm]
def ycw(back:Bool)(g:Gr)(a b:Nat)(w:Int):Gr:=⟨g.ids,(g.ports.set a (addL back (g.ports.getD a []) (b,w))).set b (addL back (g.ports.getD b []) (a,w))⟩
theorem yfa(back:Bool)(g:Gr){a b:Nat}(w:Int)(e:a<g.ports.length)(f:b<g.ports.length)(v:Nat) :
 (ycw back g a b w).ports.getD v []=if v=b then addL back (g.ports.getD b []) (a,w)else if v=a then addL back (g.ports.getD a []) (b,w)else g.ports.getD v []:=by
 unfold ycw;simp only[zK]
 by_cases c:v=b
 .subst c;rw[if_pos rfl,zAT (by simpa using f)]
  rfl
 .rw[if_neg c,zBB (fun q=>c q.symm)]
  by_cases d:v=a
  .subst d;rw[if_pos rfl,zAT e];rfl
  .rw[if_neg d,zBB (fun q=>d q.symm)]
theorem ysq{back:Bool}{l:List (Int×Int)}{v n:Int}{x:Int×Int}(h:ydy l v n)(i:ymo v n x)(b:∀y∈l,y.1≠x.1):ydy (addL back l x) v n:=by
 refine⟨fun y a=>?_,?_⟩
 .rcases yfq.1 a with rfl|a
  .exact i
  .exact h.1 y a
 .have c:x.1∉l.map (·.1):=fun f=>by
   obtain⟨y,a,e⟩:=List.mem_map.1 f;exact b y a e
  unfold addL;cases back
  .simp only[zCD,if_false,zBU,zAV,List.map_nil];rw[zBL];refine⟨h.2,by simp,fun p g q d=>?_⟩
   rw[List.mem_singleton]at d;subst d;intro e;exact c (e▸g)
  .simp only[if_true,zAV];exact List.nodup_cons.2 ⟨c,h.2⟩
theorem ybfv{back:Bool}{g:Gr}(H:ybe g){a b:Nat}{w:Int}(i:a<g.ports.length)(h:b<g.ports.length)(r:a≠b)(p:1<=w/\w<=15)(n:∀y∈g.ports.getD a [],y.1≠(b:Int)):ybe (ycw back g a b w):=by
 obtain⟨C,D,E,F,G,q,A⟩:=H;have c:(ycw back g a b w).ports.length=g.ports.length:=by simp[ycw]
 have m:∀(v:Nat) (d:v<g.ports.length),g.ports.getD v []=g.ports[v]:=fun v d=>by simp[zK,d]
 have o:∀y∈g.ports.getD b [],y.1≠(a:Int):=fun y B e=>by
  rw[m b h]at B;have:=A ⟨b,h⟩ y B;rw[e,zZ]at this;exact n _ this rfl
 have at_:∀(v:Nat) (d:v<g.ports.length),(ycw back g a b w).ports[v]'(by rw[c];exact d)=if v=b then addL back (g.ports.getD b []) (a,w)else if v=a then addL back (g.ports.getD a []) (b,w)else g.ports.getD v []:=fun v d=>by
  rw[<-yfa back g w i h v];simp[zK,c,d]
 refine⟨by rw[c];exact C,by rw[c];exact D,by rw[c];exact E,F,G,fun v=>?_,fun v l f=>?_⟩
 .have d:v.1<g.ports.length:=zCE v.isLt c;have s:(((ycw back g a b w).ports.length:Nat):Int)=(g.ports.length:Int):=by rw[c]
  rw[s];show ydy ((ycw back g a b w).ports[v.1]) _ _;rw[at_ v.1 d];split
  .rename_i e
   rw[e];refine ysq ?_ ⟨by simp only[];omega,by simp only[];omega,by simp only[];omega,p.1,p.2⟩ o
   rw[m b h];exact q ⟨b,h⟩
  .split
   .rename_i e
    rw[e];refine ysq ?_ ⟨by simp only[];omega,by simp only[];omega,by simp only[];omega,p.1,p.2⟩ n
    rw[m a i];exact q ⟨a,i⟩
   .rw[m v.1 d];exact q ⟨v.1,d⟩
 .have d:v.1<g.ports.length:=zCE v.isLt c
  change l∈(ycw back g a b w).ports[v.1]at f
  rw[at_ v.1 d]at f
  have z:∀u x,x∈g.ports.getD u []->x∈(ycw back g a b w).ports.getD u []:=fun u x k=>by
   rw[yfa back g w i h u];split
   .rename_i e;subst e;exact yfq.2 (.inr k)
   .split
    .rename_i e;subst e;exact yfq.2 (.inr k)
    .exact k
  have j:∀(u:Nat) (t:u<g.ports.length),l∈g.ports.getD u []->((u:Int),l.2)∈(ycw back g a b w).ports.getD l.1.toNat []:=fun u t k=>by
   rw[m u t]at k;exact z _ _ (A ⟨u,t⟩ l k)
  split at f
  .rename_i e
   rcases yfq.1 f with rfl|f
   .rw[yfa back g w i h,e];simp only[zZ];simp only[if_neg r,if_true];exact yfq.2 (.inl rfl)
   .rw[e];exact j b h f
  .split at f
   .rename_i e
    rcases yfq.1 f with rfl|f
    .rw[yfa back g w i h,e];simp only[zZ];simp only[if_true];exact yfq.2 (.inl rfl)
    .rw[e];exact j a i f
   .exact j v.1 d f
end
section
def Tre(g:Gr)(m:Nat):Prop:=∀v,0<v->v<m->∃u,u<v/\adj g u v
theorem Tre.walk{g:Gr}{m:Nat}(h:Tre g m):∀v,v<m->∃k,Walk g 0 k v:=by
 intro v
 induction v using Nat.strongRecOn with
 | _ v e =>
   intro d
   by_cases a:v=0
   .subst a;exact⟨0,rfl⟩
   .obtain⟨u,c,b⟩:=h v (by omega) d
    obtain⟨k,hk⟩:=e u c (by omega)
    exact⟨k+1,u,hk,b⟩
theorem Tre.conn{g:Gr}(b:ybe g)(h:Tre g g.ports.length):ycj g=true:=by
 unfold ycj;rw[(ycm g).2 b,zAN,ybmd b (a:=0) (by have:=b.1;omega)]
 exact h.walk
theorem ykn{g:Gr}{u v:Nat}:adj g u v↔∃l,l∈g.ports.getD u []/\l.1=(v:Int):=by
 constructor
 .rintro⟨b,h,l,a,e⟩;exact⟨l,by simpa[zK,h]using a,e⟩
 .rintro⟨l,a,e⟩;cases h:g.ports[u]? with
  |none=>simp[zK,h]at a
  |some b=>exact⟨b,h,l,by simpa[zK,h]using a,e⟩
theorem yblo{back:Bool}{g:Gr}{a b:Nat}{w:Int}(d:a<g.ports.length)(f:b<g.ports.length){u v:Nat}(h:adj g u v):adj (ycw back g a b w) u v:=by
 obtain⟨l,c,e⟩:=ykn.1 h;refine ykn.2 ⟨l,?_,e⟩;rw[yfa back g w d f u];split
 .rename_i q;subst q;exact yfq.2 (.inr c)
 .split
  .rename_i q;subst q;exact yfq.2 (.inr c)
  .exact c
theorem ybkt{back:Bool}{g:Gr}{a b:Nat}{w:Int}(d:a<g.ports.length)(e:b<g.ports.length)(c:a≠b):adj (ycw back g a b w) a b:=by
 refine ykn.2 ⟨((b:Int),w),?_,rfl⟩;rw[yfa back g w d e a,if_neg c,if_pos rfl];exact yfq.2 (.inl rfl)
theorem Tre.add{back:Bool}{g:Gr}{a b:Nat}{w:Int}(e:a<g.ports.length)(f:b<g.ports.length){m:Nat}(h:Tre g m):Tre (ycw back g a b w) m:=fun v d j=>by
 obtain⟨u,i,c⟩:=h v d j;exact⟨u,i,yblo e f c⟩
def bare(ids:List Int):Gr:=⟨ids,zCP ids.length []⟩
theorem ybhd{ids:List Int}(b:1<=ids.length)(c:ids.length<=24)(d:∀x∈ids,0<=x/\x<=255)(f:ids.Nodup):ybe (bare ids):=by
 have e:∀v:Fin (bare ids).ports.length,(bare ids).ports[v]=[]:=fun v=>by
  have g:v.1<ids.length:=by have:=v.isLt;simpa[bare]using this
  show(zCP ids.length ([]:List (Int×Int)))[v.1]'(by simpa using g)=[]
  exact List.getElem_replicate ..
 refine⟨by simpa[bare]using b,by simpa[bare]using c,by simp[bare],d,f,fun v=>?_,fun v l a=>?_⟩
 .rw[e v];exact⟨fun l a=>(nomatch a),List.nodup_nil⟩
 .rw[e v]at a;cases a
end
section
abbrev eNum(k:Int):Ex:=.leaf 1 k
abbrev yug:Ex:=.leaf 4 0
abbrev eVar(k:Int):Ex:=.leaf 5 k
abbrev eN:Ex:=.leaf 6 0
abbrev ybbn:Ex:=.leaf 10 0
abbrev eQ(k:Int):Ex:=.leaf 12 k
def yyp:Ex:=.agg 24 (eQ 0)
def yvm:Ex:=.ite (.bin 37 yyp eN) (.bin 33 yyp (eNum 1)) eN
def yyg:Ex:=.agg 23 (.bin 35 (eQ 0) yyp)
def ycge:Ex:=.bin 41 ybbn (.bin 42 (.bin 36 (eVar 0) (eNum 0)) (.bin 36 (eVar 1) yug))
def ycea:Ex:=.bin 41 (.un 19 ybbn) (.bin 42 (.bin 36 (eVar 0) yvm) (.bin 36 (eVar 1) yyg))
def ycu(nm d p t l:ByteArray):ProgT:=⟨nm,[⟨d,1,0,0,1,0⟩,⟨p,3,0,0,0,0⟩],[⟨t,ycge,[(0,eNum 0),(1,yug)]⟩,⟨l,ycea,[(0,yvm),(1,yyg)]⟩]⟩
theorem ysp(l:List Int):∀a:Int,l.foldl min a<=a/\(∀x∈l,l.foldl min a<=x)/\∀b:Int,b<=a->(∀x∈l,b<=x)->b<=l.foldl min a:=by
 induction l with
 |nil=>intro a;exact⟨zBZ _,fun x d=>(zBQ d).elim,fun b f _=>f⟩
 | cons y l j =>
   intro a;obtain⟨k,h,i⟩:=j (min a y);refine⟨by simp only[zBW];omega,fun x d=>?_,fun b f d=>?_⟩
   .rcases List.mem_cons.1 d with rfl|d
    .simp only[zBW];omega
    .exact h x d
   .have:=d y zQ;exact i b (by omega) fun x e=>d x (zM _ e)
theorem ycdk{l:List Int}{x:Int}(h:x∈l):ymf l<=x:=(ysp l 1073741824).2.1 x h
theorem yxn{l:List Int}{b:Int}(a:b<=1073741824)(h:∀x∈l,b<=x):b<=ymf l:=(ysp l 1073741824).2.2 b a h
theorem yrb{b:Type}(g:Gr)(v:Nat)(f:Int×Int->b)(h:Nat->b)(e:∀q,q<(g.ports.getD v []).length->h q=f ((g.ports.getD v []).getD q (0,0))):(zO (g.ports.getD v []).length).map h=(g.ports.getD v []).map f:=by
 refine zBO (by simp) fun i d j=>?_
 have a:i<(g.ports.getD v []).length:=by simpa using d
 rw[zCK,List.getElem_range,zCK,e i a];congr 1;rw[zAG,zF a];rfl
theorem ybdr(f:Int×Int->Bool)(ls:List (Int×Int)):yfl (ls.map fun l=>ycd (f l))=yjt f ls:=by
 unfold yfl yjt
 have:((fun x:Int=>x != 0) ∘ fun l=>ycd (f l))=f:=by
  funext l
  show(ycd (f l)!=0)=f l;unfold ycd;cases f l<;>rfl
 rw[List.findIdx?_map,this]
 all_goals (cases List.findIdx? f ls<;>rfl)
def endP(c:Conf)(k:Nat)(l:Int×Int):Int:=(c.getD l.1.toNat []).getD k 0
def bfsM(g:Gr)(c:Conf)(v:Nat):Int:=ymf ((g.ports.getD v []).map (endP c 0))
def bfsD(g:Gr)(c:Conf)(v:Nat):Int:=if bfsM g c v<(g.ids.length:Int)then bfsM g c v+1 else(g.ids.length:Int)
def bfsF(g:Gr)(c:Conf)(v:Nat):Int:=yjt (fun l=>endP c 0 l==bfsM g c v) (g.ports.getD v [])
def bfsT(g:Gr)(c:Conf)(v:Nat):List Int:=if v=0 then[0,-1]else[bfsD g c v,bfsF g c v]
theorem ybgg(g:Gr)(c:Conf)(v:Nat)(p:Int):ybv g c v yyp p=bfsM g c v:=by
 show yhf 24 _=_;unfold bfsM yhf;rw[if_neg (by decide),if_neg (by decide),if_neg (by decide),if_neg (by decide),if_pos rfl]
 congr 1;exact yrb g v _ _ fun q a=>rfl
theorem ybgq{g:Gr}{c:Conf}{v:Nat}(f:0<=bfsM g c v)(i:(g.ids.length:Int)<=24)(p:Int):ybv g c v yvm p=bfsD g c v:=by
 show(if binP 37 (ybv g c v yyp p) (ybv g c v eN p)≠0 then binP 33 (ybv g c v yyp p) (ybv g c v (eNum 1) p)else ybv g c v eN p)=_
 rw[ybgg];have a:ybv g c v eN p=(g.ids.length:Int):=rfl;have b:ybv g c v (eNum 1) p=1:=rfl;rw[a,b];have d:binP 37 (bfsM g c v) (g.ids.length:Int)=ycd (decide (bfsM g c v<(g.ids.length:Int))):=rfl;have e:binP 33 (bfsM g c v) 1=satP (bfsM g c v+1):=rfl;rw[d,e];unfold bfsD
 by_cases h:bfsM g c v<(g.ids.length:Int)
 .rw[if_pos h,if_pos (by simp[ycd,h])]
  unfold satP;omega
 .rw[if_neg h,if_neg (by simp[ycd,h])]
theorem ybho(g:Gr)(c:Conf)(v:Nat)(p:Int):ybv g c v yyg p=bfsF g c v:=by
 show yhf 23 _=_;unfold bfsF yhf;rw[if_neg (by decide),if_neg (by decide),if_neg (by decide),if_pos rfl,<-ybdr]
 congr 1;refine yrb g v _ _ fun q a=>?_;show binP 35 (ybv g c v (eQ 0) q) (ybv g c v yyp q)=_;rw[ybgg];rfl
theorem yvw(b:Bool):(ycd b != 0)=b:=by cases b<;>rfl
theorem ydif{s:List Int}(h:s.length=2)(x y:Int):s=[x,y]↔s.getD 0 0=x/\s.getD 1 0=y:=by
 match s,h with
 |[a,b],_=>simp
section
variable {nm nd np nt nl:ByteArray}{g:Gr}{c:Conf}{v:Nat}
theorem bT1{x:ByteArray}:ybj g v ⟨x,1,0,0,1,0⟩=(0,0+1*(g.ids.length:Int)+0*maxI g.ids):=by
 show(if (1:Int)=1 then _ else _)=_
 rw[if_pos rfl]
theorem bT3{x:ByteArray}:ybj g v ⟨x,3,0,0,0,0⟩=(-1,((g.ports.getD v []).length:Int)-1):=by
 show(if (3:Int)=1 then _ else if (3:Int)=2 then _ else if (3:Int)=3 then _ else _)=_
 rw[if_neg (by decide),if_neg (by decide),if_pos rfl]
theorem yla(n:ybe g)(l:ycb (ycu nm nd np nt nl) g c=true):c.length=g.ids.length/\∀v,v<g.ids.length->(c.getD v []).length=2/\(0<=(c.getD v []).getD 0 0/\(c.getD v []).getD 0 0<=g.ids.length)/\(-1<=(c.getD v []).getD 1 0/\(c.getD v []).getD 1 0<(g.ports.getD v []).length):=by
 have h:=(ydi _ _ _).1 l;refine⟨h.1,fun v m=>?_⟩;have a:v<c.length:=by rw[h.1];exact m
 have e:c.getD v []=c[v]:=by simp[zK,a]
 have b:=h.2 v _ (zF a);rw[e];have d:c[v].length=2:=b.1;have f:(ybj g v ⟨nd,1,0,0,1,0⟩).1<=c[v][0]/\c[v][0]<=(ybj g v ⟨nd,1,0,0,1,0⟩).2:=b.2 0 _ _ rfl (zF (by omega))
 have i:(ybj g v ⟨np,3,0,0,0,0⟩).1<=c[v][1]/\c[v][1]<=(ybj g v ⟨np,3,0,0,0,0⟩).2:=b.2 1 _ _ rfl (zF (by omega))
 have j:c[v].getD 0 0=c[v][0]:=by simp[zK,d]
 have k:c[v].getD 1 0=c[v][1]:=by simp[zK,d]
 rw[j,k];rw[bT1]at f;rw[bT3]at i;simp only at f i;exact⟨d,⟨by omega,by omega⟩,⟨by omega,by omega⟩⟩
theorem yox(b:ybe g)(d:ycb (ycu nm nd np nt nl) g c=true)(h:v<g.ids.length):0<=bfsM g c v:=by
 refine yxn (by omega) fun x i=>?_
 obtain⟨l,e,rfl⟩:=List.mem_map.1 i;have a:v<g.ports.length:=by rw[<-b.2.2.1];exact h
 have f:=b.link (v:=v) (zF a) (l:=l) (by simpa[zK,a]using e)
 have:=(yla b d).2 l.1.toNat (by have:=b.2.2.1;omega)
 exact this.2.1.1
theorem ydai:-1<=bfsF g c v/\(bfsF g c v<(g.ports.getD v []).length):=by
 unfold bfsF yjt;split
 .rename_i i a
  obtain⟨h,_⟩:=List.findIdx?_eq_some_iff_getElem.1 a;omega
 .omega
theorem ycym(b:ybe g)(a:ycb (ycu nm nd np nt nl) g c=true)(d:v<g.ids.length):0<=bfsD g c v/\bfsD g c v<=g.ids.length:=by
 have:=yox b a d;unfold bfsD;split<;>omega
theorem ybrs(i:ybe g)(r:ycb (ycu nm nd np nt nl) g c=true)(s:v<g.ids.length) :
 yei g c v ⟨nt,ycge,[(0,eNum 0),(1,yug)]⟩=(decide (v=0) && !decide (c.getD v []=[0,-1])) /\
 yei g c v ⟨nl,ycea,[(0,yvm),(1,yyg)]⟩=(!decide (v=0) && !decide (c.getD v []=[bfsD g c v,bfsF g c v])):=by
 have u:=((yla i r).2 v s).1;have z:(g.ids.length:Int)<=24:=by have:=i.2.1;have:=i.2.2.1;omega
 have w:=yox i r s;have o:∀p,ybv g c v ybbn p=ycd ((v:Int)==0):=fun p=>rfl
 have q:((v:Int)==0)=decide (v=0):=by
  cases v with
  |zero=>rfl
  |succ k=>simp;omega
 have m:∀p,ybv g c v (eVar 0) p=(c.getD v []).getD 0 0:=fun p=>rfl;have n:∀p,ybv g c v (eVar 1) p=(c.getD v []).getD 1 0:=fun p=>rfl
 have l:∀x y:Int,(decide (c.getD v []=[x,y]))=(((c.getD v []).getD 0 0==x)&&((c.getD v []).getD 1 0==y)):=fun x y=>by
  rw[zCN];simp only[decide_eq_true_eq,zI,beq_iff_eq];exact ydif u x y
 have e:∀a b:Bool,binP 41 (ycd a) (ycd b)=ycd (a&&b):=fun a b=>by cases a<;>cases b<;>rfl
 have f:∀a b:Bool,binP 42 (ycd a) (ycd b)=ycd (a||b):=fun a b=>by cases a<;>cases b<;>rfl
 have d:∀a b:Int,binP 36 a b=ycd (a != b):=fun a b=>rfl;have j:∀a:Bool,unP 19 (ycd a)=ycd (!a):=fun a=>by cases a<;>rfl
 have h:∀t a b:Bool,(t&&(!a || !b))=(t && !(a&&b)):=by decide
 constructor
 .show(binP 41 (ybv g c v ybbn (-1)) (binP 42 (binP 36 (ybv g c v (eVar 0) (-1)) 0) (binP 36 (ybv g c v (eVar 1) (-1)) (-1)))!=0)=_;rw[o,m,n,d,d,f,e,yvw,q,l];exact h _ _ _
 .show(binP 41 (unP 19 (ybv g c v ybbn (-1))) (binP 42 (binP 36 (ybv g c v (eVar 0) (-1)) (ybv g c v yvm (-1))) (binP 36 (ybv g c v (eVar 1) (-1)) (ybv g c v yyg (-1))))!=0)=_;rw[o,m,n,ybgq w z,ybho,d,d,f,j,e,yvw,q,l];exact h _ _ _
theorem ybbk(h:ybe g)(f:ycb (ycu nm nd np nt nl) g c=true)(i:v<g.ids.length):yea (ycu nm nd np nt nl) g c v=if c.getD v []=bfsT g c v then -1 else if v=0 then 0 else 1:=by
 obtain⟨d,e⟩:=ybrs (nt:=nt) (nl:=nl) h f i;unfold yea ycu;simp only[zAB,d,e,List.findIdx?_nil];unfold bfsT
 generalize c.getD v []=s
 by_cases b:v=0
 .by_cases a:s=[0,-1]<;>simp[b,a]
 .by_cases a:s=[bfsD g c v,bfsF g c v]<;>simp[b,a]
theorem ycrt(d:ybe g)(i:ycb (ycu nm nd np nt nl) g c=true)(j:v<g.ids.length)(m:c.getD v []≠bfsT g c v):ysg (ycu nm nd np nt nl) g c v (yea (ycu nm nd np nt nl) g c v).toNat=bfsT g c v:=by
 rw[ybbk d i j,if_neg m];have k:=((yla d i).2 v j).1;have p:(g.ids.length:Int)<=24:=by have:=d.2.1;have:=d.2.2.1;omega
 have o:=yox d i j;obtain⟨d1,d2⟩:=ycym d i j;obtain⟨f1,f2⟩:=ydai (g:=g) (c:=c) (v:=v)
 obtain⟨a,b,l⟩:∃a b,c.getD v []=[a,b]:=by
  match hq:c.getD v [],k with
  |[a,b],_=>exact⟨a,b,rfl⟩
 have e:∀x:Int,0<=x->x<=g.ids.length->ygt 1 (ybj g v ⟨nd,1,0,0,1,0⟩) x=x:=fun x n k=>by
  unfold ygt;rw[bT1];simp only;rw[if_pos ⟨by omega,by omega⟩]
 have f:∀x:Int,-1<=x->x<(g.ports.getD v []).length->ygt 3 (ybj g v ⟨np,3,0,0,0,0⟩) x=x:=fun x n k=>by
  unfold ygt;rw[bT3];simp only;rw[if_pos ⟨by omega,by omega⟩]
 unfold ysg yjl bfsT;rw[l]
 by_cases h:v=0
 .rw[if_pos h,if_pos h];show[ygt 1 (ybj g v ⟨nd,1,0,0,1,0⟩) (ybv g c v (eNum 0) (-1)),ygt 3 (ybj g v ⟨np,3,0,0,0,0⟩) (ybv g c v yug (-1))]=_;rw[show ybv g c v (eNum 0) (-1)=0 from rfl,show ybv g c v yug (-1) = -1 from rfl,e 0 (by omega) (by omega),f (-1) (by omega) (by omega)]
 .rw[if_neg h,if_neg h];show[ygt 1 (ybj g v ⟨nd,1,0,0,1,0⟩) (ybv g c v yvm (-1)),ygt 3 (ybj g v ⟨np,3,0,0,0,0⟩) (ybv g c v yyg (-1))]=_;rw[ybgq o p,ybho,e _ d1 d2,f _ f1 f2]
theorem yni(a:ybe g):Sh.yhj (ycu nm nd np nt nl) g=true:=by
 have:=a.1;have:=a.2.1;have:=a.2.2.1;simp[Sh.yhj,ycu,ybj];omega
theorem ydjd:(ycu nm nd np nt nl).ok=true:=by kernel_rfl
end
end
section
section
variable {g:Gr}{a v:Nat}
theorem yip(f:ybe g)(p:ycj g=true)(d:a<g.ports.length)(r:v<g.ports.length):∃k:Nat,(ybr g a).getD v 0=k/\Walk g a k v/\(∀j,j<k->¬Walk g a j v)/\k<g.ports.length:=by
 have n:0<g.ports.length:=by omega
 have c:(ybr g a).all (fun x=>decide (0<=x))=true:=ycrp f n d ((zI _ _▸p).2);have q:=yhg f d;have b:v<(ybr g a).length:=by rw[q];exact r
 have e:(ybr g a).getD v 0=(ybr g a)[v]:=by simp[zK,b]
 have m:0<=(ybr g a)[v]:=by simpa using List.all_eq_true.1 c _ (zY b)
 rcases(yec f d).2 v _ (zF b)with⟨h,_⟩|⟨k,o,i,l⟩
 .omega
 .exact⟨k,by rw[e,o],i,l,yxd f d i l⟩
theorem ycxk{k:Nat}(m:ybe g)(l:ycj g=true)(i:a<g.ports.length)(n:v<g.ports.length)(b:Walk g a k v)(c:∀j,j<k->¬Walk g a j v):(ybr g a).getD v 0=k:=by
 obtain⟨j,e,d,f,_⟩:=yip m l i n;rcases Nat.lt_trichotomy j k with h|h|h
 .exact absurd d (c j h)
 .rw[e,h]
 .exact absurd b (f k h)
theorem ywn(d:ybe g)(c:ycj g=true)(b:a<g.ports.length):(ybr g a).getD a 0=0:=ycxk d c b b (k:=0) rfl fun j e=>by omega
theorem yoz(d:ybe g)(c:ycj g=true)(b:a<g.ports.length)(f:v<g.ports.length):0<=(ybr g a).getD v 0/\(ybr g a).getD v 0<g.ports.length:=by
 obtain⟨k,e,_,_,h⟩:=yip d c b f;omega
theorem ycmg(h:ybe g)(f:ycj g=true)(d:a<g.ports.length)(i:v<g.ports.length)(b:v≠a):1<=(ybr g a).getD v 0:=by
 obtain⟨k,e,c,_,_⟩:=yip h f d i;cases k with
 |zero=>exact absurd c b
 |succ k=>omega
theorem ybps(b:ybe g)(d:ycj g=true)(c:a<g.ports.length){u:Nat}(h:adj g u v):(ybr g a).getD v 0<=(ybr g a).getD u 0+1:=by
 obtain⟨m,n⟩:=b.adj_lt h;obtain⟨k,e,i,_,_⟩:=yip b d c m;obtain⟨j,f,_,l,_⟩:=yip b d c n;rw[e,f];rcases zCY (k+1) j with q|q
 .exact absurd ⟨u,i,h⟩ (l (k+1) q)
 .omega
theorem yvp(b:ybe g)(f:ycj g=true)(d:a<g.ports.length)(r:v<g.ports.length)(h:v≠a):∃u,adj g v u/\(ybr g a).getD u 0=(ybr g a).getD v 0-1:=by
 obtain⟨k,e,l,s,_⟩:=yip b f d r;cases k with
 |zero=>exact absurd l h
 | succ k =>
   obtain⟨u,m,c⟩:=l;refine⟨u,b.adj_symm c,?_⟩;have n:=ybps b f d c;obtain⟨p,_⟩:=b.adj_lt c;obtain⟨j,i,_,o,_⟩:=yip b f d p;rw[e,i]at n;rcases zCY k j with q|q
   .exact absurd m (o k q)
   .rw[e,i];omega
theorem yfg{l:Int×Int}(c:ybe g)(d:v<g.ports.length)(b:l∈g.ports.getD v []):0<=l.1/\l.1.toNat<g.ports.length/\adj g v l.1.toNat/\1<=l.2/\l.2<=15:=by
 have e:g.ports[v]?=some (g.ports.getD v []):=by simp[zK,d]
 have h:=c.link e b;exact⟨h.1,by omega,⟨_,e,l,b,by omega⟩,h.2.2.2.1,h.2.2.2.2⟩
theorem ymk{u:Nat}(h:adj g v u):∃l∈g.ports.getD v [],l.1.toNat=u:=by
 obtain⟨l,b,e⟩:=ykn.1 h;exact⟨l,b,by rw[e];simp⟩
theorem ybfy{f h:Int×Int->Bool}{ls:List (Int×Int)}(e:∀l∈ls,f l=h l):yjt f ls=yjt h ls:=by
 have:ls.findIdx? f=ls.findIdx? h:=by
  induction ls with
  |nil=>rfl
  | cons x l c =>
    rw[zAB,zAB,e x zQ,c fun y b=>e y (zM _ b)]
 unfold yjt;rw[this]
theorem ychw{f:Int×Int->Bool}{ls:List (Int×Int)}(h:∀l∈ls,f l=false):yjt f ls = -1:=by
 unfold yjt;rw[List.findIdx?_eq_none_iff.2 (fun x b=>by simp[h x b])]
theorem ycta(c:ybe g)(d:ycj g=true)(b:a<g.ports.length):wayP g (ybr g a) a = -1:=by
 refine ychw fun l h=>?_;obtain⟨_,e,i,_⟩:=yfg c b h;have j:=yoz c d b e;have f:=ywn c d b;unfold yxs;rw[f,beq_eq_false_iff_ne];omega
end
section
variable {nm nd np nt nl:ByteArray}{g:Gr}
def bfsR(g:Gr)(r v:Nat)(s:List Int):Prop:=if (ybr g 0).getD v 0<(r:Int)then s=[(ybr g 0).getD v 0,wayP g (ybr g 0) v]else(r:Int)<=s.getD 0 0
theorem ybxc(hg:ybe g):Tgt (ybq (ycu nm nd np nt nl) g) (fun c=>ycb (ycu nm nd np nt nl) g c=true) (bfsT g) where
 valid:=fun c s hc _ _=>Sh.yhz hg ydjd (yni hg) hc s
 stay:=fun c s v hc hv hb=>by
  have hl:=(yla hg hc).1;show(yez _ g c s).getD v []=_;rw[Sh.ygy _ g c s (by rw[hl];exact hv),hb]
  rfl
 move:=fun c s v hc hv hb hs=>by
  have hl:=(yla hg hc).1;have hv:v<g.ids.length:=hv;show(yez _ g c s).getD v []=_;rw[Sh.ygy _ g c s (by rw[hl];exact hv),hb,if_pos rfl]
  refine ycrt hg hc hv fun he=>?_;have h1:=hs v hb;have h1:(ygp _ g.ids.length).testBit v=true:=h1;rw[yfm]at h1;simp only[zI,decide_eq_true_eq]at h1;rw[ybbk hg hc hv,if_pos he]at h1;omega
 en:=fun c v hc hv=>by
  have hv:v<g.ids.length:=hv;show(ygp _ g.ids.length).testBit v=false↔_;rw[yfm,ybbk hg hc hv,decide_eq_true hv,zAN,decide_eq_false_iff_not]
  by_cases he:c.getD v []=bfsT g c v
  .rw[if_pos he];exact⟨fun _=>he,fun _=>by omega⟩
  .rw[if_neg he];exact⟨fun h=>(h (by split<;>omega)).elim,fun h=>absurd h he⟩
theorem ybql(d:ybe g)(k:ycj g=true)(c:Conf)(v r:Nat)(N:v<g.ids.length)(o:∀u,u<g.ids.length->bfsR g r u (c.getD u [])):bfsR g (r+1) v (bfsT g c v):=by
 have I:=d.2.2.1;have D:=d.2.1;have j:0<g.ports.length:=by omega
 have f:v<g.ports.length:=by omega
 have M:=yoz d k j f;unfold bfsR bfsT
 by_cases e:v=0
 .subst e;rw[if_pos rfl,ywn d k j,ycta d k j,if_pos (by omega)]
 .rw[if_neg e];have z:=ycmg d k j f e
  have b:∀l∈g.ports.getD v [],(ybr g 0).getD v 0-1<=(ybr g 0).getD l.1.toNat 0/\(((ybr g 0).getD l.1.toNat 0<(r:Int)/\endP c 0 l=(ybr g 0).getD l.1.toNat 0)\/((r:Int)<=(ybr g 0).getD l.1.toNat 0/\(r:Int)<=endP c 0 l)):=fun l m=>by
   obtain⟨_,K,C,_⟩:=yfg d f m;have L:=ybps d k j (d.adj_symm C);refine⟨by omega,?_⟩
   have p:=o l.1.toNat (by omega)
   unfold bfsR at p;split at p
   .rename_i s
    refine .inl ⟨s,?_⟩;unfold endP;rw[p];rfl
   .exact .inr ⟨by omega,p⟩
  by_cases hk:(ybr g 0).getD v 0<((r+1:Nat):Int)
  .rw[if_pos hk]
   have q:bfsM g c v=(ybr g 0).getD v 0-1:=by
    obtain⟨u,J,H⟩:=yvp d k j f e;obtain⟨l,m,t⟩:=ymk J;subst t;have E:=b l m
    have F:endP c 0 l=(ybr g 0).getD v 0-1:=by
     rcases E.2 with⟨_,h⟩|⟨h,_⟩
     .rw[h,H]
     .omega
    refine Int.le_antisymm ?_ (yxn (by omega) fun x w=>?_)
    .rw[<-F];exact ycdk (List.mem_map.2 ⟨l,m,rfl⟩)
    .obtain⟨y,i,rfl⟩:=List.mem_map.1 w;have n:=b y i;rcases n.2 with⟨_,h⟩|⟨_,h⟩<;>omega
   have A:bfsD g c v=(ybr g 0).getD v 0:=by
    unfold bfsD;rw[q,if_pos (by omega)]
    omega
   have B:bfsF g c v=wayP g (ybr g 0) v:=by
    unfold bfsF wayP;refine ybfy fun l m=>?_;have n:=b l m;unfold yxs;rw[q,zCN];simp only[beq_iff_eq];rcases n.2 with⟨G,h⟩|⟨G,h⟩<;>omega
   rw[A,B]
  .rw[if_neg hk]
   have q:(r:Int)<=bfsM g c v:=yxn (by omega) fun x w=>by
    obtain⟨y,i,rfl⟩:=List.mem_map.1 w;have n:=b y i;rcases n.2 with⟨_,h⟩|⟨_,h⟩<;>omega
   show((r+1:Nat):Int)<=bfsD g c v;unfold bfsD;split<;>omega
theorem ycgn(b:ybe g)(d:ycj g=true){c:Conf}(e:ycb (ycu nm nd np nt nl) g c=true)(v:Nat)(h:v<g.ids.length):bfsR g 0 v (c.getD v []):=by
 have:=yoz b d (a:=0) (v:=v) (by have:=b.1;omega) (by have:=b.2.2.1;omega)
 unfold bfsR;rw[if_neg (by omega)]
 have:=((yla b e).2 v h).2.1.1;omega
def ybqd(g:Gr)(c:Conf):Prop:=∀v,v<g.ids.length->c.getD v []=[(ybr g 0).getD v 0,wayP g (ybr g 0) v]
theorem yve(e:ybe g)(d:ycj g=true){c:Conf}(f:ycb (ycu nm nd np nt nl) g c=true):yne g c=true:=by
 have b:=e.2.2.1;unfold yne;rw[d,zAN,<-f];unfold ycb;rw[b];congr 1
 funext v
 simp[ydm,ycu,ybj,ycjp,b]
theorem ycil(e:ybe g)(k:ycj g=true){c:Conf}(i:ycb (ycu nm nd np nt nl) g c=true):ykj g c=true↔ybqd g c:=by
 have l:=e.2.2.1;have m:=(yla e i).1;have j:=yve e k i;unfold ykj;rw[j,zAN];constructor
 .intro h v f;have b:v<c.length:=by omega
  have:=List.all_eq_true.1 h (c[v],v) (List.mem_zipIdx_iff_getElem?.2 (by simp[b]))
  have:=of_decide_eq_true this;rw[zAG,zF b];exact this
 .intro h;refine List.all_eq_true.2 fun p d=>?_;have d:=List.mem_zipIdx_iff_getElem?.1 d;have f:=(List.getElem?_eq_some_iff.1 d).1;have:=h p.2 (by omega)
  rw[zAG,d]at this;exact decide_eq_true this
theorem ybtv(f:ybe g)(k:ycj g=true){c:Conf}{r:Nat}(n:eccP g 0<(r:Int))(h:∀v,v<g.ids.length->bfsR g r v (c.getD v [])):ybqd g c:=fun v m=>by
 have d:=h v m;have j:0<g.ports.length:=by have:=f.1;omega
 have i:v<g.ports.length:=by have:=f.2.2.1;omega
 have e:eccP g 0=ybu (ybr g 0):=by
  unfold eccP;rw[if_pos ⟨k,by omega,by omega⟩]
  rfl
 have l:(ybr g 0).getD v 0<=ybu (ybr g 0):=by
  have b:v<(ybr g 0).length:=by rw[yhg f j];exact i
  refine ybfo _ _ ?_;rw[zAG,zF b];exact zY b
 unfold bfsR at d;rw[if_pos (by omega)]at d
 exact d
theorem ybiq(b:ybe g)(f:ycj g=true){c:Conf}(i:ycb (ycu nm nd np nt nl) g c=true):yh (ycu nm nd np nt nl) g c=0↔ykj g c=true:=by
 rw[ycil b f i];constructor
 .intro k;have:=(ybxc (nm:=nm) (nd:=nd) (np:=np) (nt:=nt) (nl:=nl) b).silent (P:=bfsR g) (fun c v r _ e d=>ybql b f c v r e d) i (fun v h=>ycgn b f i v h) k;refine ybtv b f (r:=1001) (by have:=(yjo g 0).2;omega) fun v e=>this 1001 v e
 .intro h;refine(ybxc (nm:=nm) (nd:=nd) (np:=np) (nt:=nt) (nl:=nl) b).en_zero i (Sh.yrx _ g c) fun v e=>?_;have e:v<g.ids.length:=e
  have d:∀u,u<g.ids.length->bfsR g 1001 u (c.getD u []):=fun u l=>by
   have:=yoz b f (a:=0) (v:=u) (by have:=b.1;omega) (by have:=b.2.2.1;omega)
   have:=b.2.1;unfold bfsR;rw[if_pos (by omega)]
   exact h u l
  have j:=ybql b f c v 1001 e d;have:=yoz b f (a:=0) (v:=v) (by have:=b.1;omega) (by have:=b.2.2.1;omega)
  have:=b.2.1;unfold bfsR at j;rw[if_pos (by omega)]at j
  rw[j];exact h v e
end
end
section
def yck(g:Gr):Bool:=ycj g&&decide (yhq g/2+1=g.ports.length)
theorem ychj{i:Type}[DecidableEq i]:∀{d l2:List i},d.Nodup->(∀x∈d,x∈l2)->l2.length<=d.length->∀x∈l2,x∈d
 | [],l2,_,_,h,x,c=>by
   have:l2=[]:=zBE (by simpa using h)
   rw[this]at c;exact absurd c zBQ
 | a :: t,l2,b,f,h,x,c=>by
   have b:=List.nodup_cons.1 b
   by_cases q:x=a
   .rw[q];exact zQ
   .refine zM _ (ychj (l2:=l2.erase a) b.2 (fun y g=>?_) ?_ x ((zCB q).2 c))
    .refine(zCB fun e=>b.1 (by rw[<-e];exact g)).2 (f y (zM _ g))
    .rw[zBR (f a zQ)];simp only[List.length_cons]at h;omega
structure TreeM(g:Gr):Prop where
 up:∀a v u,a<g.ports.length->adj g v u->(ybr g a).getD u 0=(ybr g a).getD v 0-1\/(ybr g a).getD u 0=(ybr g a).getD v 0+1
 one:∀a v u w,a<g.ports.length->adj g v u->adj g v w->(ybr g a).getD u 0=(ybr g a).getD v 0-1->(ybr g a).getD w 0=(ybr g a).getD v 0-1->u=w
theorem ydco{g:Gr}(r:ybe g)(H:ycj g=true)(R:yhq g<=2*(g.ports.length-1)):TreeM g:=by
 have s:∀a,a<g.ports.length->∃up:Nat->Nat,∀v u,adj g v u->(v≠a/\u=up v/\(ybr g a).getD u 0=(ybr g a).getD v 0-1)\/(ybr g a).getD u 0=(ybr g a).getD v 0+1:=fun a m=>by
  have ex:∀v,v<g.ports.length->v≠a->∃u,adj g v u/\(ybr g a).getD u 0=(ybr g a).getD v 0-1:=fun v j k=>yvp r H m j k
  obtain⟨up,d⟩:∃up:Nat->Nat,∀v,v<g.ports.length->v≠a->adj g v (up v)/\(ybr g a).getD (up v) 0=(ybr g a).getD v 0-1:=by
   refine⟨fun v=>if h:v<g.ports.length/\v≠a then zDC (ex v h.1 h.2)else 0,fun v j k=>?_⟩
   simp only[dif_pos (show v<g.ports.length/\v≠a from⟨j,k⟩)]
   exact zDA (ex v j k)
  let U:List (Nat×Nat):=((zO g.ports.length).erase a).map fun v=>(v,up v)
  let P:List (Nat×Nat):=(zO g.ports.length).flatMap fun v=>(g.ports.getD v []).map fun l=>(v,l.1.toNat)
  have B:((zO g.ports.length).erase a).Nodup:=List.nodup_range.erase a
  have z:∀x y,(x,y)∈U↔x<g.ports.length/\x≠a/\y=up x:=fun x y=>by
   show(x,y)∈((zO g.ports.length).erase a).map (fun v=>(v,up v))↔_;rw[List.mem_map];constructor
   .rintro⟨v,j,e⟩;cases e
    have j:=(List.nodup_range.mem_erase_iff).1 j;exact⟨List.mem_range.1 j.2,j.1,rfl⟩
   .rintro⟨b,c,rfl⟩;exact⟨x,(List.nodup_range.mem_erase_iff).2 ⟨c,List.mem_range.2 b⟩,rfl⟩
  have C:∀x y,(x,y)∈P↔x<g.ports.length/\adj g x y:=fun x y=>by
   show(x,y)∈zCZ _ _↔_;rw[List.mem_flatMap];constructor
   .rintro⟨v,j,h⟩;obtain⟨l,A,e⟩:=List.mem_map.1 h;cases e
    have j:=List.mem_range.1 j;exact⟨j,(yfg r j A).2.2.1⟩
   .rintro⟨b,c⟩;obtain⟨l,A,e⟩:=ymk c;exact⟨x,List.mem_range.2 b,List.mem_map.2 ⟨l,A,by rw[e]⟩⟩
  have t:∀x y,(x,y)∈U->(ybr g a).getD y 0=(ybr g a).getD x 0-1:=fun x y h=>by
   obtain⟨b,c,rfl⟩:=(z x y).1 h;exact(d x b c).2
  have E:U.Nodup:=by
   show(((zO g.ports.length).erase a).map (fun v=>(v,up v))).Nodup;rw[List.Nodup,zCH];exact B.imp fun h e=>h (congrArg Prod.fst e)
  have N:(U.map fun p=>(p.2,p.1)).Nodup:=by
   rw[List.Nodup,zCH];exact E.imp fun h e=>h (by simp only[Prod.mk.injEq]at e;exact Prod.ext e.2 e.1)
  have D:(U++U.map fun p=>(p.2,p.1)).Nodup:=by
   rw[zBL];refine⟨E,N,?_⟩;rintro⟨x,y⟩ b ⟨S,T⟩ c e;cases e
   obtain⟨⟨p,q⟩,f,e⟩:=List.mem_map.1 c;cases e
   have F:=t _ _ b;have G:=t _ _ f;simp only at F G;omega
  have M:U.length=g.ports.length-1:=by
   show(List.map _ _).length=_;rw[zAA,zBR (List.mem_range.2 m),List.length_range]
  have L:P.length=yhq g:=by
   show(zCZ _ _).length=_;rw[List.length_flatMap];unfold yhq;congr 1;refine zBO (by simp) fun i b c=>?_
   have I:i<g.ports.length:=by simpa using c
   simp[zK,I]
  have o:=ychj D (l2:=P) (fun p J=>by
   obtain⟨x,y⟩:=p;rcases List.mem_append.1 J with h|h
   .obtain⟨b,c,rfl⟩:=(z x y).1 h;exact(C _ _).2 ⟨b,(d x b c).1⟩
   .obtain⟨⟨p,q⟩,f,e⟩:=List.mem_map.1 h;cases e
    obtain⟨b,c,e⟩:=(z _ _).1 f;simp only at e ⊢;subst e;have n:=(d p b c).1;exact(C _ _).2 ⟨(r.adj_lt n).2,r.adj_symm n⟩) (by have K:(U.map fun p=>(p.2,p.1)).length=U.length:=zAA _;rw[zS,K,M,L];omega)
  refine⟨up,fun v u h=>?_⟩;have b:=o (v,u) ((C v u).2 ⟨(r.adj_lt h).1,h⟩);rcases List.mem_append.1 b with h|h
  .left
   obtain⟨_,c,f⟩:=(z v u).1 h;exact⟨c,f,t _ _ h⟩
  .right
   obtain⟨⟨p,q⟩,f,e⟩:=List.mem_map.1 h;cases e
   have:=t _ _ f;simp only at this ⊢;omega
 constructor
 .intro a v u m h;obtain⟨up,d⟩:=s a m;rcases d v u h with⟨_,_,f⟩|f
  .exact .inl f
  .exact .inr f
 .intro a v u w m b c O Q;obtain⟨up,d⟩:=s a m;rcases d v u b with⟨_,f,_⟩|f
  .rcases d v w c with⟨_,n,_⟩|n
   .rw[f,n]
   .omega
  .omega
end
section
def dP(g:Gr)(a v:Nat):Int:=(ybr g a).getD v 0
structure Tr(g:Gr):Prop where
 good:ybe g
 conn:ycj g=true
 m:TreeM g
section
variable {g:Gr}{a b u v w x:Nat}
theorem Tr.self(h:Tr g)(c:a<g.ports.length):dP g a a=0:=ywn h.good h.conn c
theorem Tr.nonneg(h:Tr g)(c:a<g.ports.length)(d:v<g.ports.length):0<=dP g a v:=(yoz h.good h.conn c d).1
theorem Tr.lt_n(h:Tr g)(c:a<g.ports.length)(d:v<g.ports.length):dP g a v<g.ports.length:=(yoz h.good h.conn c d).2
theorem Tr.up(h:Tr g)(c:a<g.ports.length)(d:adj g v u):dP g a u=dP g a v-1\/dP g a u=dP g a v+1:=h.m.up a v u c d
theorem Tr.one(h:Tr g)(e:a<g.ports.length)(f:adj g v u)(i:adj g v x)(c:dP g a u=dP g a v-1)(d:dP g a x=dP g a v-1):u=x:=h.m.one a v u x e f i c d
theorem Tr.back(h:Tr g)(d:a<g.ports.length)(e:v<g.ports.length)(c:v≠a):∃u,adj g v u/\dP g a u=dP g a v-1:=yvp h.good h.conn d e c
theorem Tr.adj1(h:Tr g)(e:adj g v u):dP g v u=1:=by
 obtain⟨d,c⟩:=h.good.adj_lt e;have f:=h.up d e;have i:=h.self d;have j:=h.nonneg d c;omega
def rchP(g:Gr)(v u:Nat):Int:=(zO g.ports.length).foldl (fun m w=>if dP g w u<dP g w v then max m (dP g w v)else m) 0
theorem ybci(f:Nat->Int)(p:Nat->Prop)[DecidablePred p]:∀(l:List Nat) (m:Int),m<=l.foldl (fun m w=>if p w then max m (f w)else m) m/\(∀w∈l,p w->f w<=l.foldl (fun m w=>if p w then max m (f w)else m) m)/\(l.foldl (fun m w=>if p w then max m (f w)else m) m=m\/∃w∈l,p w/\f w=l.foldl (fun m w=>if p w then max m (f w)else m) m)
 |[],m=>⟨zBZ _,fun w h=>absurd h zBQ,.inl rfl⟩
 | x :: l,m=>by
   obtain⟨j,i,c⟩:=ybci f p l (if p x then max m (f x)else m)
   simp only[zBW];refine⟨?_,fun w h d=>?_,?_⟩
   .clear i c
    have:m<=if p x then max m (f x)else m:=by split<;>omega
    omega
   .rcases List.mem_cons.1 h with rfl|h
    .rw[if_pos d]at j ⊢;omega
    .exact i w h d
   .clear i
    rcases c with c|⟨w,h,d,e⟩
    .by_cases d:p x
     .rw[if_pos d]at c ⊢;rcases Int.le_total (f x) m with q|q
      .left;rw[c];omega
      .right;exact⟨x,zQ,d,by rw[c];omega⟩
     .rw[if_neg d]at c ⊢;exact .inl c
    .exact .inr ⟨w,zM _ h,d,e⟩
theorem ycet(c:w<g.ports.length)(h:dP g w u<dP g w v):dP g w v<=rchP g v u :=
 (ybci (fun w=>dP g w v) (fun w=>dP g w u<dP g w v) (zO g.ports.length) 0).2.1 w (List.mem_range.2 c) h
theorem Tr.rch_pos(h:Tr g)(d:adj g v u):1<=rchP g v u:=by
 obtain⟨i,c⟩:=h.good.adj_lt d;have e:=h.adj1 (h.good.adj_symm d);have f:=h.self c;have:=ycet (g:=g) (w:=u) (u:=u) (v:=v) c (by omega)
 omega
theorem Tr.rch_ex(h:Tr g)(d:adj g v u):∃w,w<g.ports.length/\dP g w u<dP g w v/\dP g w v=rchP g v u:=by
 rcases(ybci (fun w=>dP g w v) (fun w=>dP g w u<dP g w v) (zO g.ports.length) 0).2.2 with e|⟨w,f,c,e⟩
 .have:=h.rch_pos d;have e:rchP g v u=0:=e;omega
 .exact⟨w,List.mem_range.1 f,c,e⟩
theorem Tr.into(h:Tr g)(f:adj g v u)(i:adj g u x)(d:x≠v)(e:w<g.ports.length)(k:dP g w x<dP g w u):dP g w u<dP g w v/\dP g w v=dP g w u+1:=by
 have j:=h.up e i;have c:=h.up e (h.good.adj_symm f);rcases c with c|c
 .exact absurd (h.one e i (h.good.adj_symm f) (by omega) c) d
 .omega
theorem Tr.rch_step(h:Tr g)(j:adj g v u)(e:adj g u x)(c:x≠v):1+rchP g u x<=rchP g v u:=by
 obtain⟨w,d,f,k⟩:=h.rch_ex e;obtain⟨i,l⟩:=h.into j e c d f;have:=ycet d i;omega
theorem Tr.rch_from(h:Tr g)(d:adj g v u)(l:2<=rchP g v u):∃x,adj g u x/\x≠v/\rchP g v u=1+rchP g u x:=by
 obtain⟨q,j⟩:=h.good.adj_lt d;obtain⟨w,f,m,n⟩:=h.rch_ex d;have o:=h.up f (h.good.adj_symm d)
 have i:w≠u:=fun e=>by
  subst e;have:=h.self f;omega
 obtain⟨x,k,p⟩:=h.back f j (fun e=>i e.symm);have c:x≠v:=fun e=>by subst e;omega
 refine⟨x,k,c,?_⟩;have a:=h.rch_step d k c;have b:=ycet (g:=g) (u:=x) (v:=u) f (by omega)
 omega
def step2(p:Int×Int)(a:Int):Int×Int:=if a>p.1 then(a,p.1)else(p.1,max p.2 a)
def top2(b:Int)(l:List Int):Int×Int:=l.foldl step2 (b,b)
theorem ychx(b:Int)(l:List Int)(a:Int):top2 b (l++[a])=step2 (top2 b l) a:=by unfold top2;rw[zAR];rfl
theorem ybhk(b:Int)(l:List Int):∀k,k<=l.length->b<=(top2 b (l.take k)).2/\(top2 b (l.take k)).2<=(top2 b (l.take k)).1/\∀m,b<m->(m<=(top2 b (l.take k)).1↔1<=(l.take k).countP fun x=>decide (m<=x))/\(m<=(top2 b (l.take k)).2↔2<=(l.take k).countP fun x=>decide (m<=x))
 | 0,_=>by
   refine⟨zBZ _,zBZ _,fun m c=>?_⟩;have e:(top2 b (l.take 0))=(b,b):=rfl;rw[e];simp only[zCA,zCO];omega
 | k + 1,hk=>by
   obtain⟨j,n,d⟩:=ybhk b l k (by omega)
   rw[zAH (show k<l.length by omega),ychx]
   generalize l[k]=a
   have f:∀m,(l.take k++[a]).countP (fun x=>decide (m<=x))=(l.take k).countP (fun x=>decide (m<=x))+if m<=a then 1 else 0:=fun m=>by
    rw[List.countP_append,zCL,zCO];simp
   generalize top2 b (l.take k)=P at *
   unfold step2;split
   .refine⟨by simp only;omega,by simp only;omega,fun m c=>?_⟩
    obtain⟨h,i⟩:=d m c;rw[f];simp only;constructor
    .split<;>omega
    .split<;>omega
   .refine⟨by simp only;omega,by simp only;omega,fun m c=>?_⟩
    obtain⟨h,i⟩:=d m c;rw[f];simp only;constructor
    .split<;>omega
    .split<;>omega
theorem yqf(b:Int)(l:List Int):b<=(top2 b l).2/\(top2 b l).2<=(top2 b l).1/\∀m,b<m->(m<=(top2 b l).1↔1<=l.countP fun x=>decide (m<=x))/\(m<=(top2 b l).2↔2<=l.countP fun x=>decide (m<=x)):=by
 have h:=ybhk b l l.length (zN _)
 rwa [zAE]at h
theorem ybgs{p:Int×Int->Bool}:∀{ls:List (Int×Int)},(ls.map (·.1)).Nodup->(2<=ls.countP p↔∃a∈ls,∃b∈ls,a.1≠b.1/\p a=true/\p b=true)
 |[],_=>by simp
 | l :: ls,k=>by
   have k:=List.nodup_cons.1 k;have s:=ybgs (p:=p) k.2
   have one:1<=ls.countP p↔∃a∈ls,p a=true:=by
    rw[Nat.one_le_iff_ne_zero,Nat.ne_zero_iff_zero_lt,List.countP_pos_iff]
   have n:∀a∈ls,l.1≠a.1:=fun a c e=>k.1 (List.mem_map.2 ⟨a,c,e.symm⟩);rw[zCL];constructor
   .intro h
    by_cases o:p l=true
    .rw[if_pos o]at h;obtain⟨a,c,d⟩:=one.1 (by omega)
     exact⟨l,zQ,a,zM _ c,n a c,o,d⟩
    .rw[if_neg o]at h;obtain⟨a,c,b,f,q⟩:=s.1 (by omega)
     exact⟨a,zM _ c,b,zM _ f,q⟩
   .rintro⟨a,c,b,f,j,d,i⟩;rcases List.mem_cons.1 c with r|c
    .rcases List.mem_cons.1 f with m|f
     .exact absurd (by rw[r,m]) j
     .have:=one.2 ⟨b,f,i⟩;rw[<-r,if_pos d];omega
    .rcases List.mem_cons.1 f with m|f
     .have:=one.2 ⟨a,c,d⟩;rw[<-m,if_pos i];omega
     .have:=s.2 ⟨a,c,b,f,j,d,i⟩;omega
theorem yvk(e:ybe g)(c:v<g.ports.length):((g.ports.getD v []).map (·.1)).Nodup:=by
 have h:=(e.2.2.2.2.2.1 ⟨v,c⟩).2;have d:g.ports[v]=g.ports.getD v []:=by rw[Sh.getD_at c]
 have h:((g.ports[v]).map (·.1)).Nodup:=h
 rwa [d]at h
theorem ycdt(k:ybe g)(p:v<g.ports.length){f:Nat->Int}{m:Int}:2<=((g.ports.getD v []).map fun l=>f l.1.toNat).countP (fun x=>decide (m<=x))↔∃a b,adj g v a/\adj g v b/\a≠b/\m<=f a/\m<=f b:=by
 rw[List.countP_map,ybgs (yvk k p)];constructor
 .rintro⟨a,i,b,j,h,c,d⟩;obtain⟨A,_,y,_⟩:=yfg k p i;obtain⟨B,_,z,_⟩:=yfg k p j;exact⟨_,_,y,z,by omega,of_decide_eq_true c,of_decide_eq_true d⟩
 .rintro⟨a,b,i,j,h,c,d⟩;obtain⟨s,n,q⟩:=ymk i;obtain⟨t,o,r⟩:=ymk j;exact⟨s,n,t,o,fun e=>h (by rw[<-q,<-r,e]),decide_eq_true (by show m<=f s.1.toNat;rw[q];exact c),decide_eq_true (by show m<=f t.1.toNat;rw[r];exact d)⟩
def htP(g:Gr)(v:Nat):Int:=(top2 0 ((g.ports.getD v []).map fun l=>rchP g v l.1.toNat)).2
theorem ykl(g:Gr)(v:Nat):0<=htP g v:=(yqf 0 _).1
theorem ybfm(c:ybe g)(d:v<g.ports.length){m:Int}(e:1<=m):m<=htP g v↔∃a b,adj g v a/\adj g v b/\a≠b/\m<=rchP g v a/\m<=rchP g v b:=by
 rw[<-ycdt c d (f:=fun u=>rchP g v u)];exact((yqf 0 _).2.2 m (by omega)).2
theorem Tr.ht_step(h:Tr g)(A:v<g.ports.length){m:Int}(z:1<=m)(t:∃a b,adj g v a/\adj g v b/\a≠b):m<=htP g v↔∃a b,adj g v a/\adj g v b/\a≠b/\m-1<=htP g a/\m-1<=htP g b:=by
 rw[ybfm h.good A z]
 by_cases r:m=1
 .subst r;obtain⟨a,b,d,f,c⟩:=t;exact⟨fun _=>⟨a,b,d,f,c,by have:=ykl g a;omega,by have:=ykl g b;omega⟩,fun _=>⟨a,b,d,f,c,h.rch_pos d,h.rch_pos f⟩⟩
 have j:∀a b,adj g v a->adj g v b->a≠b->m<=rchP g v a->m<=rchP g v b->m-1<=htP g a:=fun a b d f c k l=>by
  rw[ybfm h.good (h.good.adj_lt d).2 (by omega)]
  obtain⟨x,n,o,e⟩:=h.rch_from d (by omega)
  have s:=h.rch_step (h.good.adj_symm d) f (fun e=>c e.symm);exact⟨v,x,h.good.adj_symm d,n,fun e=>o e.symm,by omega,by omega⟩
 have i:∀a,adj g v a->m-1<=htP g a->m<=rchP g v a:=fun a d p=>by
  rw[ybfm h.good (h.good.adj_lt d).2 (by omega)]at p
  obtain⟨x,y,n,B,c,C,D⟩:=p
  by_cases q:x=v
  .have s:=h.rch_step d B (fun e=>c (by rw[q,e]))
   omega
  .have s:=h.rch_step d n q;omega
 constructor
 .rintro⟨a,b,d,f,c,k,l⟩;exact⟨a,b,d,f,c,j a b d f c k l,j b a f d (fun e=>c e.symm) l k⟩
 .rintro⟨a,b,d,f,c,k,l⟩;exact⟨a,b,d,f,c,i a d k,i b f l⟩
end
end
section
section
variable {g:Gr}{a b u v w x:Nat}
def Peak(g:Gr)(v:Nat):Prop:=∀u,adj g v u->htP g u<=htP g v
end
end
section
def ycf(v m:Int):Int:=if m<1 then 0 else v%m
def atP(l:List Int)(i:Nat):Int:=l.getD i 0
theorem ydx{v m:Int}(h:1<=m):0<=ycf v m/\ycf v m<m:=by
 unfold ycf;rw[if_neg (by omega)]
 exact⟨zBC _ (by omega),zAQ _ (by omega)⟩
namespace Sh
open Ev Go.RowKit
theorem ybqq{v m:Int}(h:1<=m):(if v.tmod m<0 then v.tmod m+m else v.tmod m)=v%m:=by
 have e:=Int.emod_add_mul_ediv v m;have f:=zBC v (show m≠0 by omega)
 have g:=zAQ v (show 0<m by omega)
 have c:=Int.tmod_eq_emod (a:=v) (b:=m);have d:(m.natAbs:Int)=m:=by omega
 rw[c]
 by_cases q:0<=v\/m ∣ v
 .simp only[if_pos q,zAW,Int.sub_zero];rw[if_neg (by omega)]
 .simp only[if_neg q,d];rw[if_pos (by omega)]
  omega
theorem ydz(v m:Int)(e:m<=4611686018427387904)(f:inK .i64 v):Returns zG 4 [.i .i64 v,.i .i64 m] (.i .i64 (ycf v m)):=by
 refine Returns.of ((okG 4) _ _ ?_);simp only[cdE 4,rgE 4 0,rgE 4 1,rgE 4 2,rgE 4 3,rgE 4 4,rgE 4 5,rgE 4 6,ycc,go_sem,zA,zB,↓reduceIte,reduceCtorEq];unfold ycf;refine⟨fun h=>by rw[if_pos h],fun h=>⟨by omega,fun b=>?_,fun b=>?_⟩⟩
 .have a:=ybqq (v:=v) (show 1<=m by omega)
  rw[if_pos b]at a;rw[if_neg h,a];have c:=zBC v (show m≠0 by omega)
  have d:=zAQ v (show 0<m by omega)
  exact⟨ikw (by omega) (by omega),rfl⟩
 .have a:=ybqq (v:=v) (show 1<=m by omega)
  rw[if_neg b]at a;rw[if_neg h,a]
theorem at_ret(l:List Int)(i:Nat):Returns zG 56 [yj l,.i .i64 i] (.i .i64 (atP l i)):=by
 refine Returns.of ((okG 56) _ _ ?_);simp only[cdE 56,rgE 56 0,rgE 56 1,rgE 56 2,rgE 56 3,yj,ycc,go_sem,zA,zB,↓reduceIte,reduceCtorEq];exact⟨fun h=>⟨by omega,rfl⟩,fun h=>by unfold atP;rw[zK,zAX (by omega)];rfl⟩
theorem wrap32(z:Int):0<=IntKind.wrap .u32 z/\IntKind.wrap .u32 z<2^32:=by
 unfold IntKind.wrap;simp only[IntKind.signed,IntKind.bits];exact⟨zBC _ (by decide),zAQ _ (by decide)⟩
theorem yqd{a:Type}(l:List a)(x d:a)(i:Nat):(l++[x]).getD i d=if i<l.length then l.getD i d else if i=l.length then x else d:=by
 by_cases h:i<l.length
 .simp[zK,zAC h,h]
 .by_cases e:i=l.length
  .subst e;simp[zK]
  .rw[if_neg h,if_neg e,zK,zAX (by simp;omega)]
   rfl
end Sh
end
section
namespace Sh
open Ev Go.RowKit
def yyt(l:List Int)(k:Nat):Int:=(l.take k).foldl max 0
theorem ycnm{l:List Int}(h:∀x∈l,0<=x/\x<=255):∀k,0<=yyt l k/\yyt l k<=255:=by
 intro k;unfold yyt
 have:∀(l:List Int) (a:Int),(∀x∈l,0<=x/\x<=255)->0<=a/\a<=255->0<=l.foldl max a/\l.foldl max a<=255:=by
  intro l
  induction l with
  |nil=>intro a _ h;exact h
  |cons x l e=>intro a b f;exact e _ (fun y d=>b y (zM _ d)) (by have:=b x zQ;omega)
 exact this _ 0 (fun x c=>h x (zAY c)) (by omega)
theorem ybrm{l:List Int}{k:Nat}(hk:k<l.length):yyt l (k+1)=max (yyt l k) (l.getD k 0):=by
 unfold yyt;rw[zAH hk,zAR,getD_at hk];rfl
theorem ybxt{l:List Int}(h:∀x∈l,0<=x/\x<=255)(a:0<l.length):yyt l l.length=maxI l:=by
 unfold yyt;rw[zAE];exact(ybqg a fun x b=>(h x b).1).symm
theorem yrq{a:List VarR}{b:VarR->Int×Int}{L:List Int}(h:yfu ((a.take L.length).map b) L)(f:L.length<a.length){y:Int}(j:(b (a.getD L.length default)).1<=y/\y<=(b (a.getD L.length default)).2):yfu ((a.take (L++[y]).length).map b) (L++[y]):=by
 refine⟨by simp;omega,fun i c x d e=>?_⟩
 rw[zS,zAK,zAD]at d;have k:i<L.length+1:=by have:=(List.getElem?_eq_some_iff.1 e).1;simpa using this
 rw[zBS k]at d
 by_cases q:i<L.length
 .rw[zAC q]at e;refine h.2 i c x ?_ e;rw[zAD,zBS q];exact d
 .obtain rfl:i=L.length:=by omega
  rw[zBJ (zN _),zW]at e;cases e
  rw[zF f]at d;cases d
  rw[getD_at f]at j;exact j
section
variable {p:ProgT}{g:Gr}
def cfgV(p:ProgT)(g:Gr)(raw:List Int)(v i:Nat):Int:=(ybj g v (p.vars.getD i default)).1+ycf (atP raw (v*p.vars.length+i)) ((ybj g v (p.vars.getD i default)).2-(ybj g v (p.vars.getD i default)).1+1)
def yccq(p:ProgT)(g:Gr)(raw:List Int)(v:Nat):List Int:=(zO p.vars.length).map (cfgV p g raw v)
theorem yuv{a:Type}{f:Nat->a}{L:List a}{y:a}(h:L=(zO L.length).map f)(b:y=f L.length):L++[y]=(zO (L++[y]).length).map f:=by
 rw[zS,zAK,zCM,zBU,<-h,b];rfl
theorem ybna(H:ybe g)(hp:p.ok=true)(hf:yhj p g=true){raw:List Int}(hr:∀k,inK .i64 (raw.getD k 0)) :
 Ct zG 9 [grV g,ybx p.vars,yj raw] fun r=>∃c,(ycb p g c=true/\c=(zO g.ports.length).map (yccq p g raw))/\Sim r (ybf c):=by
 refine(okG 9) _ _ ?_;have hid:=H.2.2.1;have a4:=H.2.1;have h1:=H.1;have B:=H.2.2.2.1;simp only[cdE 9,rgE 9 0,rgE 9 1,rgE 9 2,grV,yba,go_sem,zA,zB,zC,↓reduceIte,reduceCtorEq];obtain⟨n,D⟩:∃n,g.ports.length=n:=⟨_,rfl⟩;refine ybk (σ:=Nat) (fun k=>⟨[(9,.i .i64 k),(8,.i .i64 (yyt g.ids k)),(7,.i .i64 n),(3,.pt (3,0) 0 0),(1,ybx p.vars),(2,yj raw)],[(3,.one (some ⟨30,true,2,1,fun _=>[yj g.ids,yba g.ports]⟩))]⟩) (fun k=>k<=n) (fun k=>n-k) 0 (zAF _) ?_ ?_
 .refine yx ?_;simp only[yba,D,wk,go_sem,zA,zC,↓reduceIte,reduceCtorEq];rfl
 .intro k hk;have E:=ycnm B k;simp only[rgE 9 3,rgE 9 4,rgE 9 5,rgE 9 6,rgE 9 7,yj,go_sem,zA,zB,zD,↓reduceIte,reduceCtorEq];refine⟨fun I=>?_,fun I=>?_⟩
  .have hs:=ybrm (l:=g.ids) (k:=k) (by omega)
   refine⟨by omega,ikw (by omega) (by omega),?_⟩
   refine ybw (k+1) ?_;refine yx ?_;simp only[wk,go_sem,zA,zC,↓reduceIte,reduceCtorEq];exact⟨by omega,hs.symm⟩
  .obtain rfl:k=n:=by omega
   have a0:yyt g.ids k=maxI g.ids:=by rw[<-D,<-hid];exact ybxt B (by omega)
   rw[a0]at E ⊢;obtain⟨top,M⟩:∃t,maxI g.ids=t:=⟨_,rfl⟩;rw[M]at E ⊢;obtain⟨d,o⟩:∃k,p.vars.length=k:=⟨_,rfl⟩;have K:=hp;unfold ProgT.ok at K;simp only[zI,decide_eq_true_eq]at K
   refine ybk (σ:=Conf) (fun C=>⟨[(11,.i .i64 C.length),(10,.os (300,0) 0 C.length true),(8,.i .i64 top),(7,.i .i64 k),(3,.pt (3,0) 0 0),(1,ybx p.vars),(2,yj raw)],
    [(3,.one (some ⟨30,true,2,1,fun _=>[yj g.ids,yba g.ports]⟩)),(300,.one (some ⟨22,false,1,C.length,fun j=>[yj (C.getD j [])]⟩))]⟩)
    (fun C=>(C.length<=k/\∀v,v<C.length->yfu (p.vars.map (ybj g v)) (C.getD v []))/\C=(zO C.length).map (yccq p g raw)) (fun C=>k-C.length) [] ⟨⟨zAF _,fun v S=>absurd S (zBV v)⟩,rfl⟩ ?_ ?_
   .refine ybm [] [300] [] ?_;simp only[yj,yba,wk,go_sem,zA,zC,zJ,↓reduceIte,reduceCtorEq];exact⟨(300,0),rfl,rfl,rfl⟩
   .rintro C ⟨⟨a5,N⟩,O⟩;simp only[rgE 9 8,rgE 9 10,rgE 9 11,yj,go_sem,zA,zB,↓reduceIte,reduceCtorEq];refine⟨fun I=>?_,fun I=>?_⟩
    .refine ybk (σ:=List Int) (fun L=>⟨[(13,.i .i64 L.length),(12,.os (301,0) 0 L.length true),(11,.i .i64 C.length),(10,.os (300,0) 0 C.length true),(8,.i .i64 top),(7,.i .i64 k),(3,.pt (3,0) 0 0),(1,ybx p.vars),(2,yj raw)],
      [(301,.one (some ⟨3,false,1,L.length,fun j=>[.i .i64 (L.getD j 0)]⟩)),(3,.one (some ⟨30,true,2,1,fun _=>[yj g.ids,yba g.ports]⟩)),(300,.one (some ⟨22,false,1,C.length,fun j=>[yj (C.getD j [])]⟩))]⟩)
      (fun L=>(L.length<=d/\yfu ((p.vars.take L.length).map (ybj g C.length)) L)/\L=(zO L.length).map (cfgV p g raw C.length)) (fun L=>d-L.length) [] ⟨⟨zAF _,rfl,fun i b x hb=>by simp at hb⟩,rfl⟩ ?_ ?_
     .refine ybm [] [301] [] ?_;simp only[yj,yba,wk,go_sem,zA,zC,zJ,↓reduceIte,reduceCtorEq];exact⟨(301,0),rfl,rfl,rfl⟩
     .rintro L ⟨⟨a6,s⟩,y⟩;obtain⟨x,F⟩:∃x,p.vars.getD L.length default=x:=⟨_,rfl⟩;simp only[rgE 9 12,rgE 9 14,rgE 9 15,yj,ybx,o,F,varC,clash,go_sem,zA,zB,zD,↓reduceIte,reduceCtorEq];refine⟨fun Q=>?_,fun Q=>?_⟩
      .have z:L.length<p.vars.length:=by omega
       have T:x∈p.vars:=by rw[<-F,getD_at z];exact zY _
       have U:=List.all_eq_true.1 K.1.1.2 x T;have a1:=ybnq U;obtain⟨Y,Z⟩:=yph H U;rw[hid,D]at Y;rw[M]at Z;have h:=ybpe H hp hf T C.length;have w:(C.length:Int)*(d:Int)+(L.length:Int)=((C.length*d+L.length:Nat):Int):=by push_cast;rfl
       have a2:=H.deg_lt (v:=C.length);have J:(C.length:Int)*(d:Int)=((C.length*d:Nat):Int):=by push_cast;rfl
       have a3:C.length*d<=24*6:=Nat.mul_le_mul (by omega) (by omega)
       have hAt:=at_ret raw (C.length*d+L.length);have G:inK .i64 (atP raw (C.length*d+L.length)):=hr _;simp only[yj]at hAt;refine⟨by omega,by omega,by omega,ikw (by omega) (by omega),ikw (by omega) (by omega),by omega,ikw (by omega) (by omega),ikw (by omega) (by omega),by omega,?_⟩
       rcases a1.1 with f|f|f
       .have a:ybj g C.length x=(x.lo,x.hi+x.perNode*(k:Int)+x.perID*top):=by
         unfold ybj;rw[if_pos f,hid,D,M]
        rw[a]at h;simp only[]at h;simp only[f];simp only[rgE 9 16,rgE 9 17,rgE 9 18,rgE 9 19,rgE 9 20,clash,zAM,w,go_sem,zA,zB,↓reduceIte,reduceCtorEq];refine⟨by rw[J];exact ikw (by omega) (by omega),ikw (by omega) (by omega),hAt.use ?_⟩
        simp only[yw,go_sem,zA,zB,zC,↓reduceIte,reduceCtorEq];have A:=ydz (atP raw (C.length*d+L.length)) (x.hi+x.perNode*(k:Int)+x.perID*top-(x.lo)+1) (by omega) G
        obtain⟨V,X⟩:=ydx (v:=atP raw (C.length*d+L.length)) (m:=x.hi+x.perNode*(k:Int)+x.perID*top-(x.lo)+1) (by omega)
        generalize u:ycf (atP raw (C.length*d+L.length)) (x.hi+x.perNode*(k:Int)+x.perID*top-(x.lo)+1)=W at A V X
        refine⟨ikw (by omega) (by omega),ikw (by omega) (by omega),A.use ?_⟩
        simp only[rgE 9 13,go_sem,zA,zB,zD,↓reduceIte,reduceCtorEq];refine⟨ikw (by omega) (by omega),⟨by omega,by omega⟩,ikw (by omega) (by omega),?_⟩
        refine ybb (L++[x.lo+W]) ⟨⟨by simp;omega,yrq s z (by rw[F,a];exact⟨by simp only[];omega,by simp only[];omega⟩)⟩,yuv y (by unfold cfgV;rw[F,a,o];simp only[];rw[u])⟩ (by simp;omega) ?_
        refine ybm [(301,fun i=>(101,i))] [] [] ?_;simp only[yba,ybd,D,zS,wk,go_sem,zA,zC,↓reduceIte,reduceCtorEq];refine⟨by omega,fun i hi=>?_⟩
        rw[yqd]
        by_cases q:i<L.length
        .simp only[if_pos q];simp only[wk,go_sem,reduceCtorEq]
        .obtain rfl:i=L.length:=by omega
         simp only[if_neg q,zW,zT];simp only[wk,go_sem,↓reduceIte,reduceCtorEq]
       .have a:ybj g C.length x=(0,1):=by
         unfold ybj;rw[if_neg (by omega),if_pos f]
        rw[a]at h;simp only[]at h;simp only[f];simp only[rgE 9 16,rgE 9 17,rgE 9 18,rgE 9 19,rgE 9 20,clash,w,go_sem,zA,zB,↓reduceIte,reduceCtorEq];refine⟨by rw[J];exact ikw (by omega) (by omega),ikw (by omega) (by omega),hAt.use ?_⟩
        simp only[yw,go_sem,zA,zB,zC,↓reduceIte,reduceCtorEq];have A:=ydz (atP raw (C.length*d+L.length)) (1-(0)+1) (by omega) G
        obtain⟨V,X⟩:=ydx (v:=atP raw (C.length*d+L.length)) (m:=1-(0)+1) (by omega)
        generalize u:ycf (atP raw (C.length*d+L.length)) (1-(0)+1)=W at A V X
        refine⟨ikw (by omega) (by omega),ikw (by omega) (by omega),A.use ?_⟩
        simp only[rgE 9 13,go_sem,zA,zB,zD,↓reduceIte,reduceCtorEq];refine⟨ikw (by omega) (by omega),⟨by omega,by omega⟩,ikw (by omega) (by omega),?_⟩
        refine ybb (L++[0+W]) ⟨⟨by simp;omega,yrq s z (by rw[F,a];exact⟨by simp only[];omega,by simp only[];omega⟩)⟩,yuv y (by unfold cfgV;rw[F,a,o];simp only[];rw[u])⟩ (by simp;omega) ?_
        refine ybm [(301,fun i=>(101,i))] [] [] ?_;simp only[yba,ybd,D,zS,wk,go_sem,zA,zC,↓reduceIte,reduceCtorEq];refine⟨by omega,fun i hi=>?_⟩
        rw[yqd]
        by_cases q:i<L.length
        .simp only[if_pos q];simp only[wk,go_sem,reduceCtorEq]
        .obtain rfl:i=L.length:=by omega
         simp only[if_neg q,zW,zT];simp only[wk,go_sem,↓reduceIte,reduceCtorEq]
       .have a:ybj g C.length x=(-1,((g.ports.getD C.length []).length:Int)-1):=by
         unfold ybj;rw[if_neg (by omega),if_neg (by omega),if_pos f]
        rw[a]at h;simp only[]at h;simp only[f];simp only[rgE 9 16,rgE 9 17,rgE 9 18,rgE 9 19,rgE 9 20,clash,zAM,w,yba,ybd,D,go_sem,zA,zB,↓reduceIte,reduceCtorEq];refine⟨by omega,ikw (by omega) (by omega),by rw[J];exact ikw (by omega) (by omega),ikw (by omega) (by omega),hAt.use ?_⟩
        simp only[yw,go_sem,zA,zB,zC,↓reduceIte,reduceCtorEq];have A:=ydz (atP raw (C.length*d+L.length)) (((g.ports.getD C.length []).length:Int)-1-(-1)+1) (by omega) G
        obtain⟨V,X⟩:=ydx (v:=atP raw (C.length*d+L.length)) (m:=((g.ports.getD C.length []).length:Int)-1-(-1)+1) (by omega)
        generalize u:ycf (atP raw (C.length*d+L.length)) (((g.ports.getD C.length []).length:Int)-1-(-1)+1)=W at A V X
        refine⟨ikw (by omega) (by omega),ikw (by omega) (by omega),A.use ?_⟩
        simp only[rgE 9 13,go_sem,zA,zB,zD,↓reduceIte,reduceCtorEq];refine⟨ikw (by omega) (by omega),⟨by omega,by omega⟩,ikw (by omega) (by omega),?_⟩
        refine ybb (L++[-1+W]) ⟨⟨by simp;omega,yrq s z (by rw[F,a];exact⟨by simp only[];omega,by simp only[];omega⟩)⟩,yuv y (by unfold cfgV;rw[F,a,o];simp only[];rw[u])⟩ (by simp;omega) ?_
        refine ybm [(301,fun i=>(101,i))] [] [] ?_;simp only[zS,wk,go_sem,zA,zC,↓reduceIte,reduceCtorEq];refine⟨by omega,fun i hi=>?_⟩
        rw[yqd]
        by_cases q:i<L.length
        .simp only[if_pos q];simp only[wk,go_sem,reduceCtorEq]
        .obtain rfl:i=L.length:=by omega
         simp only[if_neg q,zW,zT];simp only[wk,go_sem,↓reduceIte,reduceCtorEq]
      .have P:L.length=d:=by omega
       rw[P,<-o,zAE]at s;simp only[rgE 9 9,rgE 9 21,splice,go_sem,zA,zB,zD,zC,↓reduceIte,reduceCtorEq];refine⟨⟨by omega,by omega⟩,ikw (by omega) (by omega),?_⟩
       refine ybb (C++[L]) ⟨⟨by simp;omega,fun v S=>?_⟩,yuv O (by unfold yccq;rw[o,<-P];exact y)⟩ (by simp;omega) ?_
       .rw[yqd];split
        .exact N v (by assumption)
        .have:v=C.length:=by simp at S;omega
         subst this;rw[if_pos rfl];exact s
       refine ybm [(300,fun i=>(105,i))] [] [(301,0)] ?_;simp only[yba,ybd,D,zS,wk,go_sem,zA,zD,zC,↓reduceIte,reduceCtorEq];refine⟨by omega,fun i hi=>?_⟩
       have e:=yqd C L [] i;rw[e]
       by_cases q:i<C.length
       .simp only[if_pos q];simp only[go_sem,wk,go_sem,reduceCtorEq]
       .obtain rfl:i=C.length:=by omega
        simp only[if_neg q,zW,zT,if_true];simp only[go_sem,wk,go_sem,zA,↓reduceIte,reduceCtorEq]
    .simp only[rgE 9 22,go_sem,zA,zB,↓reduceIte,reduceCtorEq];refine⟨C,⟨(ydi _ _ _).2 ⟨by omega,fun v st R=>?_⟩,?_⟩,Sim.refl _⟩
     rotate_left
     .have e:=O;rw[show C.length=g.ports.length by omega]at e
      exact e
     have S:=(List.getElem?_eq_some_iff.1 R).1;have:=N v S
     rwa [zK,R]at this
theorem ybuu(e:ybe g)(f:p.ok=true)(d:yhj p g=true){raw:List Int}(h:∀k,inK .i64 (raw.getD k 0)) :
 Ct zG 9 [grV g,ybx p.vars,yj raw] fun r=>∃c,ycb p g c=true/\Sim r (ybf c) :=
 (ybna e f d h).mono fun _ ⟨c,a,b⟩=>⟨c,a.1,b⟩
end
end Sh
end
end Go.Proofs.YtlbonpgkofloeaaGreatDoor
