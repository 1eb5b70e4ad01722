/- Joined. -/
import Derived.Test.YthclbjjgfcgbgaaGreatDoorPkCm8
import Derived.Sort.LoopGhostIn
set_option linter.unusedSimpArgs false
set_option linter.unusedVariables false
open List renaming getElem?_eq_getElem->zA,getD_eq_getElem?_getD->zC,take_append_drop->zD,take_add_one->zF,take_length->zH
open Go.Lib renaming hid->zB
open Nat renaming mul_one->zG,min_eq_left->zI,add_assoc->zJ
open Go.Proofs.Tryz renaming func122->zK,prog->zL
open Go
namespace Go.Proofs.YthclbjjgfcgbgaaGreatDoor
section
namespace Ev
open Go Go.RowKit
section
variable {φ φ':Phi}{M:AM}{w:World}{m:Mem}
theorem ykh{A:Addr}{gv:GV}(h:graphOf m A=some gv):boxPorts m A=some gv.v/\(∃ft,rowOf m 1 gv.v=some (gv.us,ft))/\mapO (linksOf m) gv.us=some gv.ps:=by
 unfold graphOf at h;obtain⟨v,h1,h2⟩:=yg h;obtain⟨q,h3,h4⟩:=yg h2;obtain⟨ps,h5,h6⟩:=yg h4;cases h6
 exact⟨h1,⟨q.2,h3⟩,h5⟩
theorem ydyt{A:Addr}{v box:Value}(h:boxPorts m A=some v)(hv:VR φ (.pointer (some A)) box)(hR:Rel φ M w)(hs:Sub m M) :
 ∃b o s,box = .pointer (some ⟨b,o,none⟩)/\w.cell? ⟨b,o+1,none⟩=some s/\VR φ v s:=by
 unfold boxPorts at h;split at h
 .rename_i c n e z hsp hb
  rw[Bool.cond_eq_ite]at h;split at h
  .rename_i hlt
   have hlt:A.off+1<n:=Nat.le_of_ble_eq_true hlt;obtain⟨lc,cs,e',fz,g1,g2,g3,_,g4,g5,g6⟩:=hR.cellsAt (hs _ _ hb);obtain⟨s,k1,k2⟩:=g6 _ _ hlt h;cases hv with
   |simple hq=>cases hq
   | ptr hp =>
     rw[hp]at g1;cases g1
     exact⟨_,_,s,rfl,cell_of g4 (by rw[zJ];exact k1),k2⟩
  .cases h
 .cases h
theorem ybkj{v s:Value}{us:List Value}{ft:List Nat}(h:rowOf m 1 v=some (us,ft))(hv:VR φ v s)(hR:Rel φ M w)(hs:Sub m M):SlAt 1 (fun w b o u=>∃r,w.cell? ⟨b,o,none⟩=some r/\VR φ u r) w s us :=
 ypt h hv hR hs (by rw[zG]) (by decide) fun l' b off hl' hc j x hx=>by
  obtain⟨r,p1,p2⟩:=hl'.get hx;exact⟨r,by rw[zG];exact hc _ _ p1,p2⟩
end
theorem yjq:∀(ps qs:List (List (Int×Int))) (v:Nat),flatAt v (ps++qs)=flatAt v ps++flatAt (v+ps.length) qs
 |[],qs,v=>by simp[flatAt]
 | x::ps,qs,v=>by
   show(x.map _)++flatAt (v+1) (ps++qs)=_;rw[yjq ps qs (v+1)];simp[flatAt,zJ,Nat.add_comm 1]
def yhf(ps:List (List (Int×Int)))(k i:Nat):List El:=flatAt 0 (ps.take k)++((ps.getD k []).take i).map fun x=>⟨k,x.1,x.2⟩
theorem ybhd(ps:List (List (Int×Int)))(k:Nat):yhf ps k 0=flatAt 0 (ps.take k):=by simp[yhf]
theorem ytz{ps:List (List (Int×Int))}{k:Nat}{ls:List (Int×Int)}(h:ps[k]?=some ls):yhf ps k ls.length=flatAt 0 (ps.take (k+1)):=by
 have hk:k<ps.length:=(List.getElem?_eq_some_iff.1 h).1;rw[zF,h,yjq];simp[yhf,zC,h,flatAt,zI (Nat.le_of_lt hk)]
theorem ybgo{ps:List (List (Int×Int))}{k i:Nat}{ls:List (Int×Int)}{x:Int×Int}(h:ps[k]?=some ls)(hx:ls[i]?=some x) :
 yhf ps k (i+1)=yhf ps k i++[⟨k,x.1,x.2⟩]/\∃post,flatAt 0 ps=yhf ps k i++⟨k,x.1,x.2⟩::post:=by
 have hk:k<ps.length:=(List.getElem?_eq_some_iff.1 h).1;have hi:i<ls.length:=(List.getElem?_eq_some_iff.1 hx).1
 have h1:yhf ps k (i+1)=yhf ps k i++[⟨k,x.1,x.2⟩]:=by
  simp[yhf,zC,h,zF,hx]
 refine⟨h1,(ls.drop (i+1)).map (fun x=>⟨k,x.1,x.2⟩)++flatAt (k+1) (ps.drop (k+1)),?_⟩
 have h2:flatAt 0 ps=flatAt 0 (ps.take (k+1))++flatAt (k+1) (ps.drop (k+1)):=by
  have:=yjq (ps.take (k+1)) (ps.drop (k+1)) 0;rw[zD]at this;rw[this];simp[zI hk]
 rw[h2,<-ytz h]
 have h3:yhf ps k ls.length=yhf ps k i++⟨k,x.1,x.2⟩::(ls.drop (i+1)).map (fun x=>⟨k,x.1,x.2⟩):=by
  have e:ls=ls.take i++x::ls.drop (i+1):=by
   have:=zD i ls;rw[List.drop_eq_getElem_cons hi]at this;rw[(List.getElem?_eq_some_iff.1 hx).2]at this;exact this.symm
  have hl:∀l:List (Int×Int),l=ls.take i++x::ls.drop (i+1)->l.take l.length=l:=fun l _=>zH;simp only[yhf,zC,h,Option.getD_some,zH,List.append_assoc];congr 1
  conv=>lhs;rw[e]
  simp
 rw[h3];simp
set_option maxRecDepth 100000 in
set_option maxHeartbeats 1000000 in
theorem ybbh:ybki zL 122:=by
 refine⟨fun args w=>ybx yri zK rfl args w,?_⟩;intro l A gv St Stop φ M w box hread hgrow hyield h0 hbox;obtain⟨m,hR,hs,hgv⟩:=hread _ _ _ _ h0;obtain⟨q1,⟨ft,q2⟩,q3⟩:=ykh hgv;obtain⟨b,o,s,rfl,hcell,hvs⟩:=ydyt q1 hbox hR hs;obtain⟨As,cs,rfl,hs1,hs2⟩:=ycw (ybkj q2 hvs hR hs);have Hlen:=(yks q3).1;have Hread:=zB hread;have Hgrow:=zB hgrow;have Hyield:=zB hyield;have Hvs:=zB hvs;have H0:=zB h0
 clear hread hgrow hyield hvs h0 hbox hR hs hgv q1 q2 q3
 refine callsIn_of_wp zK rfl trivial ?_
 simp only[Tryz.ntmps122,List.size_toArray,List.length_cons,List.length_nil,Nat.reduceAdd,Nat.reduceSub,Array.replicate_succ,
  Array.replicate_zero,List.push_toArray,List.append_toArray,List.nil_append,List.cons_append]
 gi_wp2
 gi_loopg [10] gv.us.length (fun q t wr=>∃k:Nat,q+k=gv.us.length/\t = .int .i64 k/\Hid (∃φ' M',φ.le φ'/\St (flatAt 0 (gv.ps.take k)) φ' M' wr))
 case atStart=>exact⟨0,by omega,rfl,zB ⟨φ,M,φ.le_refl,H0.out⟩⟩
 case round =>
  obtain⟨k,hq,rfl,hst⟩:=hrel;obtain⟨gk',hgk'⟩:∃x,x=gk:=⟨_,rfl⟩
  by_cases hlt:k<gv.us.length
  .obtain⟨φ1,M1,hle1,hst1⟩:=hst.out;obtain⟨m1,hR1,hs1',hgv1⟩:=Hread.out _ _ _ _ hst1;obtain⟨_,⟨ft1,q2⟩,q3⟩:=ykh hgv1;obtain⟨As',cs',e1,e2,e3,e4⟩:=ybkj q2 (Hvs.out.mono hle1) hR1 hs1';cases e1
   obtain⟨rb,ro,rfl,hrb,e5⟩:=e4 (by omega)
   obtain⟨r,hr1,hr2⟩:=e5 k _ (zA hlt);rw[zG]at hr1;obtain⟨u,hu,hlu⟩:=(yks q3).2 k (gv.ps[k]'(by omega)) (zA (by omega))
   obtain⟨ls,hls⟩:∃ls,gv.ps[k]'(by omega)=ls:=⟨_,rfl⟩
   rw[hls]at hlu;have hpk:gv.ps[k]?=some ls:=by rw[<-hls];exact zA (by omega)
   rw[zA hlt]at hu;cases hu
   obtain⟨Al,cl,rfl,hl1,hl2⟩:=ycw (yiw hlu hr2 hR1 hs1');have Hr2:=zB hr2;have Hst1:=zB hst1;have Hle1:=zB hle1;have Hpk:=zB hpk;have hk1:(decide ((k:Int)<(gv.us.length:Int)))=true:=by simp;omega
   clear hst hst1 hr2 hle1 hpk hls q2 q3 hlu hR1 hs1' hgv1 e5 e4
   gi_wp2
   gi_loopg [17] ls.length (fun q t wr=>∃i:Nat,q+i=ls.length/\t = .int .i64 i/\Hid (∃φ' M',φ1.le φ'/\St (yhf gv.ps k i) φ' M' wr))
   case atStart=>exact⟨0,by omega,rfl,zB ⟨φ1,M1,φ1.le_refl,by rw[ybhd];exact Hst1.out⟩⟩
   case round =>
    obtain⟨i,hqi,rfl,hst⟩:=hrel
    by_cases hlt2:i<ls.length
    .obtain⟨φ2,M2,hle2,hst2⟩:=hst.out;obtain⟨m2,hR2,hs2',hgv2⟩:=Hread.out _ _ _ _ hst2;obtain⟨_,⟨ft2,q2⟩,q3⟩:=ykh hgv2;obtain⟨u,hu,hlu⟩:=(yks q3).2 k ls Hpk.out;rw[zA hlt]at hu;cases hu
     obtain⟨Al',cl',e1,e2',e3',e4⟩:=yiw hlu (Hr2.out.mono hle2) hR2 hs2';cases e1
     obtain⟨lb,lo,rfl,hlb,e5⟩:=e4 (by omega)
     obtain⟨x,hx⟩:∃x,ls[i]?=some x:=⟨_,zA hlt2⟩;obtain⟨hc1,hc2,_,_⟩:=e5 i x hx;obtain⟨hstep,post,hpost⟩:=ybgo Hpk.out hx;have Hstep:=zB hstep;have Hpost:=zB hpost;have Hst2:=zB hst2;have Hle2:=zB hle2;have hk2:(decide ((i:Int)<(ls.length:Int)))=true:=by simp;omega
     clear hst hst2 hle2 q2 q3 hlu hR2 hs2' hgv2 e5 e4 hstep hpost hx
     obtain⟨fn,tmps,assign,body,hy,hRd⟩:=Hyield.out (yhf gv.ps k i) ⟨k,x.1,x.2⟩ post φ2 M2 (wr.alloc (.cells #[.int .i64 x.1,.int .i64 x.2] 68)) (Hgrow.out _ _ _ _ _ Hst2.out ((Below.refl _ _).alloc (Nat.le_refl _) _)) Hpost.out;have hy:(Instr.yield l #[.int .i64 (k:Int),.agg #[.int .i64 x.1,.int .i64 x.2]]).run zL (wr.alloc (.cells #[.int .i64 x.1,.int .i64 x.2] 68)) = .ok (.round l fn tmps assign body) (wr.alloc (.cells #[.int .i64 x.1,.int .i64 x.2] 68)):=hy
     gi_wp2
     refine⟨rfl,hRd.mono ?_⟩;rintro e W3 (⟨rfl,φ3,M3,hle3,hst3⟩|⟨rfl,hstop⟩)
     .have Hst3:=zB hst3;have Hle3:=zB hle3
      clear hst3 hle3 hRd hy
      gi_wp2
      gi_roundg (gk-1)
      case measure=>omega
      case rel=>exact⟨i+1,by omega,by simp,zB ⟨φ3,M3,Phi.le_trans Hle2.out Hle3.out,by rw[Hstep.out];exact Hst3.out⟩⟩
     .have Hstop:=zB hstop
      clear hstop hRd hy
      gi_wp2
      refine bodyPost_ret (results_none rfl _ _ _) rfl ?_;exact⟨⟨_,rfl⟩,.inr Hstop.out⟩
    .gi_wp2
     obtain⟨φ2,M2,hle2,hst2⟩:=hst.out;have hi:i=ls.length:=by omega
     gi_roundg (gk'-1)
     case measure=>omega
     case rel=>exact⟨k+1,by omega,by simp,zB ⟨φ2,M2,Phi.le_trans Hle1.out hle2,by rw[<-ytz Hpk.out,<-hi];exact hst2⟩⟩
  .gi_wp2
   obtain⟨φ2,M2,hle2,hst2⟩:=hst.out
   go_end0
   have hk:gv.ps.take k=gv.ps:=List.take_of_length_le (by omega)
   rw[hk]at hst2;exact⟨⟨_,rfl⟩,.inl ⟨φ2,M2,hst2⟩⟩
end Ev
end
end Go.Proofs.YthclbjjgfcgbgaaGreatDoor
