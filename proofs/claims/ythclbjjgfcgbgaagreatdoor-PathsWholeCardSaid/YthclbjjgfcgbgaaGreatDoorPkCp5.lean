/- Joined. -/
import Derived.Test.YthclbjjgfcgbgaaGreatDoorPkCp4
import Derived.Sort.LoopGhostIn
set_option linter.unusedSimpArgs false
set_option linter.unusedVariables false
open List renaming getElem?_eq_getElem->zA,getD_eq_getElem?_getD->zC,take_append_drop->zD,take_add_one->zF,take_length->zH
open Go.Lib renaming hid->zB
open Nat renaming mul_one->zG,min_eq_left->zI,add_assoc->zJ
open Go.Proofs.Tryz renaming func122->zK,prog->zL
open Go
namespace Go.Proofs.YthclbjjgfcgbgaaGreatDoor
section
namespace Ev
open Go Go.RowKit
section
variable {φ φ':Phi}{M:AM}{w:World}{m:Mem}
theorem ymp{A:Addr}{gv:GV}(h:yjn m A=some gv):ynh m A=some gv.v/\(∃ft,rowOf m 1 gv.v=some (gv.us,ft))/\mapO (ykz m) gv.us=some gv.ps:=by
 unfold yjn at h;obtain⟨v,a,b⟩:=yc h;obtain⟨q,c,d⟩:=yc b;obtain⟨g,e,f⟩:=yc d;cases f
 exact⟨a,⟨q.2,c⟩,e⟩
theorem yebn{A:Addr}{v box:Value}(h:ynh m A=some v)(r:VR φ (.pointer (some A)) box)(i:Rel φ M w)(p:Sub m M) :
 ∃b o s,box = .pointer (some ⟨b,o,none⟩)/\w.cell? ⟨b,o+1,none⟩=some s/\VR φ v s:=by
 unfold ynh at h;split at h
 .rename_i c n e z q j
  rw[Bool.cond_eq_ite]at h;split at h
  .rename_i a
   have a:A.off+1<n:=Nat.le_of_ble_eq_true a;obtain⟨F,x,y,B,d,C,D,_,f,E,g⟩:=i.cellsAt (p _ _ j);obtain⟨s,t,u⟩:=g _ _ a h;cases r with
   |simple l=>cases l
   | ptr k =>
     rw[k]at d;cases d
     exact⟨_,_,s,rfl,cell_of f (by rw[zJ];exact t),u⟩
  .cases h
 .cases h
theorem ybqd{v s:Value}{us:List Value}{ft:List Nat}(h:rowOf m 1 v=some (us,ft))(f:VR φ v s)(c:Rel φ M w)(e:Sub m M):SlAt 1 (fun w b o u=>∃r,w.cell? ⟨b,o,none⟩=some r/\VR φ u r) w s us :=
 ysa h f c e (by rw[zG]) (by decide) fun n b i a d j x g=>by
  obtain⟨r,k,l⟩:=a.get g;exact⟨r,by rw[zG];exact d _ _ k,l⟩
end
theorem ykl:∀(ps a:List (List (Int×Int))) (v:Nat),ybp v (ps++a)=ybp v ps++ybp (v+ps.length) a
 |[],a,v=>by simp[ybp]
 | x::ps,a,v=>by
   show(x.map _)++ybp (v+1) (ps++a)=_;rw[ykl ps a (v+1)];simp[ybp,zJ,Nat.add_comm 1]
def yhm(ps:List (List (Int×Int)))(k i:Nat):List El:=ybp 0 (ps.take k)++((ps.getD k []).take i).map fun x=>⟨k,x.1,x.2⟩
theorem ybnq(ps:List (List (Int×Int)))(k:Nat):yhm ps k 0=ybp 0 (ps.take k):=by simp[yhm]
theorem ypc{ps:List (List (Int×Int))}{k:Nat}{ls:List (Int×Int)}(h:ps[k]?=some ls):yhm ps k ls.length=ybp 0 (ps.take (k+1)):=by
 have hk:k<ps.length:=(List.getElem?_eq_some_iff.1 h).1;rw[zF,h,ykl];simp[yhm,zC,h,ybp,zI (Nat.le_of_lt hk)]
theorem ybnu{ps:List (List (Int×Int))}{k i:Nat}{ls:List (Int×Int)}{x:Int×Int}(h:ps[k]?=some ls)(b:ls[i]?=some x) :
 yhm ps k (i+1)=yhm ps k i++[⟨k,x.1,x.2⟩]/\∃a,ybp 0 ps=yhm ps k i++⟨k,x.1,x.2⟩::a:=by
 have hk:k<ps.length:=(List.getElem?_eq_some_iff.1 h).1;have g:i<ls.length:=(List.getElem?_eq_some_iff.1 b).1
 have c:yhm ps k (i+1)=yhm ps k i++[⟨k,x.1,x.2⟩]:=by
  simp[yhm,zC,h,zF,b]
 refine⟨c,(ls.drop (i+1)).map (fun x=>⟨k,x.1,x.2⟩)++ybp (k+1) (ps.drop (k+1)),?_⟩
 have d:ybp 0 ps=ybp 0 (ps.take (k+1))++ybp (k+1) (ps.drop (k+1)):=by
  have:=ykl (ps.take (k+1)) (ps.drop (k+1)) 0;rw[zD]at this;rw[this];simp[zI hk]
 rw[d,<-ypc h]
 have f:yhm ps k ls.length=yhm ps k i++⟨k,x.1,x.2⟩::(ls.drop (i+1)).map (fun x=>⟨k,x.1,x.2⟩):=by
  have e:ls=ls.take i++x::ls.drop (i+1):=by
   have:=zD i ls;rw[List.drop_eq_getElem_cons g]at this;rw[(List.getElem?_eq_some_iff.1 b).2]at this;exact this.symm
  have j:∀l:List (Int×Int),l=ls.take i++x::ls.drop (i+1)->l.take l.length=l:=fun l _=>zH;simp only[yhm,zC,h,Option.getD_some,zH,List.append_assoc];congr 1
  conv=>lhs;rw[e]
  simp
 rw[f];simp
set_option maxRecDepth 100000 in
set_option maxHeartbeats 1000000 in
theorem ybel:ybrx zL 122:=by
 refine⟨fun W w=>ybw ytd zK rfl W w,?_⟩;intro l A gv St b1 φ M w box d j g h0 F;obtain⟨m,hR,hs,a1⟩:=d _ _ _ _ h0;obtain⟨q1,⟨ft,T⟩,L⟩:=ymp a1;obtain⟨b,o,s,rfl,a7,S⟩:=yebn q1 F hR hs;obtain⟨As,cs,rfl,c9,d0⟩:=ycc (ybqd T S hR hs);have b0:=(yna L).1;have Hread:=zB d;have Hgrow:=zB j;have Hyield:=zB g;have Hvs:=zB S;have H0:=zB h0
 clear d j g S h0 F hR hs a1 q1 T L
 refine callsIn_of_wp zK rfl trivial ?_
 simp only[Tryz.ntmps122,List.size_toArray,List.length_cons,List.length_nil,Nat.reduceAdd,Nat.reduceSub,Array.replicate_succ,
  Array.replicate_zero,List.push_toArray,List.append_toArray,List.nil_append,List.cons_append]
 gi_wp2
 gi_loopg [10] gv.us.length (fun q t wr=>∃k:Nat,q+k=gv.us.length/\t = .int .i64 k/\Hid (∃φ' M',φ.le φ'/\St (ybp 0 (gv.ps.take k)) φ' M' wr))
 case atStart=>exact⟨0,by omega,rfl,zB ⟨φ,M,φ.le_refl,H0.out⟩⟩
 case round =>
  obtain⟨k,hq,rfl,f⟩:=hrel;obtain⟨a6,b2⟩:∃x,x=gk:=⟨_,rfl⟩
  by_cases Q:k<gv.us.length
  .obtain⟨U,M1,n,y⟩:=f.out;obtain⟨m1,N,v,G⟩:=Hread.out _ _ _ _ y;obtain⟨_,⟨b8,T⟩,L⟩:=ymp G;obtain⟨b4,b5,e1,e2,e3,Y⟩:=ybqd T (Hvs.out.mono n) N v;cases e1
   obtain⟨rb,ro,rfl,c8,Z⟩:=Y (by omega)
   obtain⟨r,a8,R⟩:=Z k _ (zA Q);rw[zG]at a8;obtain⟨u,hu,h⟩:=(yna L).2 k (gv.ps[k]'(by omega)) (zA (by omega))
   obtain⟨D,P⟩:∃D,gv.ps[k]'(by omega)=D:=⟨_,rfl⟩
   rw[P]at h;have a3:gv.ps[k]?=some D:=by rw[<-P];exact zA (by omega)
   rw[zA Q]at hu;cases hu
   obtain⟨Al,cl,rfl,c4,c5⟩:=ycc (ykb h R N v);have Hr2:=zB R;have Hst1:=zB y;have Hle1:=zB n;have Hpk:=zB a3;have c2:(decide ((k:Int)<(gv.us.length:Int)))=true:=by simp;omega
   clear f y R n a3 P T L h N v G Z Y
   gi_wp2
   gi_loopg [17] D.length (fun q t wr=>∃i:Nat,q+i=D.length/\t = .int .i64 i/\Hid (∃φ' M',U.le φ'/\St (yhm gv.ps k i) φ' M' wr))
   case atStart=>exact⟨0,by omega,rfl,zB ⟨U,M1,U.le_refl,by rw[ybnq];exact Hst1.out⟩⟩
   case round =>
    obtain⟨i,c7,rfl,f⟩:=hrel
    by_cases a2:i<D.length
    .obtain⟨C,V,c,a⟩:=f.out;obtain⟨m2,a0,J,H⟩:=Hread.out _ _ _ _ a;obtain⟨_,⟨b9,T⟩,L⟩:=ymp H;obtain⟨u,hu,h⟩:=(yna L).2 k D Hpk.out;rw[zA Q]at hu;cases hu
     obtain⟨b3,cl',e1,b6,b7,Y⟩:=ykb h (Hr2.out.mono c) a0 J;cases e1
     obtain⟨lb,lo,rfl,c6,Z⟩:=Y (by omega)
     obtain⟨x,hx⟩:∃x,D[i]?=some x:=⟨_,zA a2⟩;obtain⟨c0,c1,_,_⟩:=Z i x hx;obtain⟨z,a4,p⟩:=ybnu Hpk.out hx;have Hstep:=zB z;have Hpost:=zB p;have Hst2:=zB a;have Hle2:=zB c;have c3:(decide ((i:Int)<(D.length:Int)))=true:=by simp;omega
     clear f a c T L h a0 J H Z Y z p hx
     obtain⟨fn,a5,E,X,hy,O⟩:=Hyield.out (yhm gv.ps k i) ⟨k,x.1,x.2⟩ a4 C V (wr.alloc (.cells #[.int .i64 x.1,.int .i64 x.2] 68)) (Hgrow.out _ _ _ _ _ Hst2.out ((Below.refl _ _).alloc (Nat.le_refl _) _)) Hpost.out;have hy:(Instr.yield l #[.int .i64 (k:Int),.agg #[.int .i64 x.1,.int .i64 x.2]]).run zL (wr.alloc (.cells #[.int .i64 x.1,.int .i64 x.2] 68)) = .ok (.round l fn a5 E X) (wr.alloc (.cells #[.int .i64 x.1,.int .i64 x.2] 68)):=hy
     gi_wp2
     refine⟨rfl,O.mono ?_⟩;rintro e W3 (⟨rfl,a9,M3,I,K⟩|⟨rfl,B⟩)
     .have Hst3:=zB K;have Hle3:=zB I
      clear K I O hy
      gi_wp2
      gi_roundg (gk-1)
      case measure=>omega
      case rel=>exact⟨i+1,by omega,by simp,zB ⟨a9,M3,Phi.le_trans Hle2.out Hle3.out,by rw[Hstep.out];exact Hst3.out⟩⟩
     .have Hstop:=zB B
      clear B O hy
      gi_wp2
      refine bodyPost_ret (results_none rfl _ _ _) rfl ?_;exact⟨⟨_,rfl⟩,.inr Hstop.out⟩
    .gi_wp2
     obtain⟨C,V,c,a⟩:=f.out;have hi:i=D.length:=by omega
     gi_roundg (a6-1)
     case measure=>omega
     case rel=>exact⟨k+1,by omega,by simp,zB ⟨C,V,Phi.le_trans Hle1.out c,by rw[<-ypc Hpk.out,<-hi];exact a⟩⟩
  .gi_wp2
   obtain⟨C,V,c,a⟩:=f.out
   go_end0
   have hk:gv.ps.take k=gv.ps:=List.take_of_length_le (by omega)
   rw[hk]at a;exact⟨⟨_,rfl⟩,.inl ⟨C,V,a⟩⟩
end Ev
end
end Go.Proofs.YthclbjjgfcgbgaaGreatDoor
