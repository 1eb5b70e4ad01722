/- Joined. -/
import Derived.Test.YthclbjjgfcgbgaaGreatDoorPkCm11
set_option linter.unusedSimpArgs false
set_option linter.unusedVariables false
set_option maxRecDepth 8000
open Nat renaming reduceEqDiff->zA,reduceAdd->zB,reduceLeDiff->zC,reduceLT->zD,zero_le->zK,testBit_lt_two_pow->zO,pow_le_pow_right->zS,lt_of_lt_of_le->zV,mod_eq_of_lt->zY,lt_pow_two_of_testBit->zAE,eq_of_testBit_eq->zAJ,not_lt_zero->zAO,and_le_left->zAQ,mul_le_mul->zAS,reduceMul->zAT
open Bool renaming and_eq_true->zF
open Go.Proofs.Tryz renaming prog->zG
open Int renaming natCast_zero->zH,reduceToNat->zAF,toNat_natCast->zAL,natAbs_mul->zAR
open List renaming take_succ_eq_append_getElem->zI,getElem_mem->zM,take_of_length_le->zN,eq_nil_of_length_eq_zero->zQ,findIdx?_eq_none_iff->zT,findIdx?_eq_some_iff_getElem->zX,length_append->zZ,foldl_append->zAA,append_assoc->zAB,range->zAC,drop_eq_getElem_cons->zAD,getD->zAG,length->zAH,findIdx?_append->zAI,elem_eq_mem->zAM,take_length->zAN,length_map->zAP
open BitVec renaming ofInt->zJ,ofInt_natCast->zL,toNat_ofNat->zW,getLsbD_ofNat->zAK
open Classical renaming byContradiction->zU
open Go
namespace Go.Proofs.YthclbjjgfcgbgaaGreatDoor
section
namespace Sh
open Go Ev
theorem mulB{a b:Int}(ha:InB a)(hb:InB b):-1152921504606846976<=a*b/\a*b<=1152921504606846976:=by
 unfold InB at *
 have h:(a*b).natAbs<=1073741824*1073741824:=by
  rw[zAR];exact zAS (by omega) (by omega)
 omega
theorem yew(b:Bool):Returns zG 240 [.b b] (.i .i64 (ybz b)):=by
 refine Returns.of (ydbp _ _ ?_);simp only[c240,ycyk,ycml,ycqs,ycts,yx,ybz,go_sem,↓reduceIte,reduceCtorEq];cases b<;>simp
theorem yej(a:Int):Returns zG 242 [.i .i64 a] (.i .i64 (satP a)):=by
 refine Returns.of (ydcp _ _ ?_);simp only[c242,ycuk,yczx,yx,satP,go_sem,zA,zB,↓reduceIte,reduceCtorEq]
theorem ydrg{a b:Int}(ha:InB a):-1073741824<=a.tdiv b/\a.tdiv b<=1073741824:=by
 have h1:(a.tdiv b).natAbs=a.natAbs/b.natAbs:=Int.natAbs_tdiv a b;have h2:a.natAbs/b.natAbs<=a.natAbs:=Nat.div_le_self _ _;rw[<-h1]at h2;unfold InB at ha;omega
theorem ycha{a b:Int}(ha:InB a):-1073741825<=ywa a b/\ywa a b<=1073741824:=by
 have:=ydrg (b:=b) ha;unfold ywa;split
 .omega
 .split<;>omega
theorem ycdk{a b:Int}(ha:InB a)(hb:InB b):-1152921505680588800<=b*ywa a b/\b*ywa a b<=1152921505680588800:=by
 have h1:=ycha (b:=b) ha
 have h:(b*ywa a b).natAbs<=1073741824*1073741825:=by
  unfold InB at *;rw[zAR];exact zAS (by omega) (by omega)
 omega
theorem ybys(op a:Int)(ha:InB a):Returns zG 221 [.i .i64 op,.i .i64 a] (.i .i64 (unP op a)):=by
 refine Returns.of (ydeo _ _ ?_);simp only[c221,ycsp,yczp,ydac,ycmx,yx,unP,IntKind.signed,go_sem,zA,zB,↓reduceIte,reduceCtorEq];unfold InB at ha;refine⟨fun h=>⟨ikw (by omega) (by omega),by rw[if_pos h];omega⟩,fun h=>(yew _).use ?_⟩
 simp only[ybh,yx,go_sem,zA,zB,↓reduceIte,reduceCtorEq];rw[if_neg h]
theorem yrg(a b:Int)(ha:InB a):Returns zG 243 [.i .i64 a,.i .i64 b] (.i .i64 (ywa a b)):=by
 refine Returns.of (ydgt _ _ ?_);simp only[c243,ydag,ycpl,ycrc,ycwz,ycto,ycye,ycoc,yx,ywa,go_sem,zA,zB,↓reduceIte,reduceCtorEq];have:=ydrg (b:=b) ha;refine⟨fun h=>by rw[if_pos h],fun h=>⟨⟨h,ikw (by omega) (by omega)⟩,h,fun h1=>⟨fun h2=>⟨ikw (by omega) (by omega),?_⟩,fun h2=>?_⟩,fun h1=>?_⟩⟩
 .rw[if_neg h,if_pos ⟨h1,h2⟩]
 .rw[if_neg h,if_neg (fun q=>q.2 h2)]
 .rw[if_neg h,if_neg (fun q=>q.1 h1)]
theorem ybbk(op a b:Int):Returns zG 244 [.i .i64 op,.i .i64 a,.i .i64 b] (.b (cmpP op a b)):=by
 refine Returns.of (ydhs _ _ ?_);simp only[c244,ycyg,yctu,ycod,ycta,ycni,ycvv,ycoi,ycuf,ydaj,ycmy,yceo,ybxj,ybwr,yvd,cmpP,go_sem,zA,zB,↓reduceIte,reduceCtorEq];refine⟨fun h=>by rw[if_pos h],fun h35=>⟨fun h=>by rw[if_neg h35,if_pos h],fun h36=>⟨fun h=>by rw[if_neg h35,if_neg h36,if_pos h],fun h37=>⟨fun h=>by rw[if_neg h35,if_neg h36,if_neg h37,if_pos h],fun h38=>⟨fun h=>by rw[if_neg h35,if_neg h36,if_neg h37,if_neg h38,if_pos h],fun h39=>by rw[if_neg h35,if_neg h36,if_neg h37,if_neg h38,if_neg h39]⟩⟩⟩⟩⟩
theorem ybpa(op a b:Int)(ha:InB a)(hb:InB b):Returns zG 223 [.i .i64 op,.i .i64 a,.i .i64 b] (.i .i64 (binP op a b)):=by
 refine Returns.of (ydhy _ _ ?_);simp only[c223,ycus,ycwo,ycop,ydav,ycva,ycyf,ycsw,ycpx,ycom,ycvj,ybzy,ycav,ybxk,yccu,ycbt,ycbu,ybtu,ybta,ycei,yx,go_sem,zA,zB,↓reduceIte,reduceCtorEq];have hm:=mulB ha hb;have hq:=ycdk ha hb;have hA:=ha;have hB:=hb;unfold InB at hA hB;refine⟨fun h=>⟨ikw (by omega) (by omega),(yej _).use ?_⟩,fun h30=>⟨fun h=>(yrg a b ha).use ?_,fun h31=>⟨fun h=>⟨fun h0=>?_,fun h0=>(yrg a b ha).use ?_⟩,fun h32=>⟨fun h=>⟨ikw (by omega) (by omega),(yej _).use ?_⟩,fun h33=>⟨fun h=>⟨ikw (by omega) (by omega),(yej _).use ?_⟩,fun h34=>?_⟩⟩⟩⟩⟩
 .simp only[ybh,yx,go_sem,zA,zB,↓reduceIte,reduceCtorEq];simp[binP,h]
 .simp only[ybh,go_sem,zA,zB,↓reduceIte,reduceCtorEq];refine(yej _).use ?_;simp only[yx,go_sem];simp[binP,h]
 .simp[binP,h,h0]
 .simp only[ybh,go_sem,zA,zB,↓reduceIte,reduceCtorEq];refine⟨ikw (by omega) (by omega),ikw (by omega) (by omega),(yej _).use ?_⟩
  simp only[yx,go_sem];simp[binP,h,h0]
 .simp only[ybh,yx,go_sem,zA,zB,↓reduceIte,reduceCtorEq];simp[binP,h]
 .simp only[ybh,yx,go_sem,zA,zB,↓reduceIte,reduceCtorEq];simp[binP,h]
 .refine⟨fun h=>?_,fun h41=>⟨fun h=>?_,fun h42=>?_⟩⟩
  .refine⟨fun h1=>(yew _).use ?_,fun h1=>(yew _).use ?_⟩
   .simp only[ybh,yx,go_sem,zA,zB,↓reduceIte,reduceCtorEq];simp[binP,h];rw[show(a != 0)=true by simpa using h1];simp
   .simp only[ybh,yx,go_sem,zA,zB,↓reduceIte,reduceCtorEq];simp[binP,h,h1]
  .refine⟨fun h1=>(yew _).use ?_,fun h1=>(yew _).use ?_⟩
   .simp only[ybh,yx,go_sem,zA,zB,↓reduceIte,reduceCtorEq];simp[binP,h,h1]
   .simp only[ybh,yx,go_sem,zA,zB,↓reduceIte,reduceCtorEq];simp[binP,h];rw[show(a != 0)=true by simpa using h1];simp
  .refine(ybbk op a b).use ?_;simp only[ybh,go_sem,zA,zB,↓reduceIte,reduceCtorEq];refine(yew _).use ?_;simp only[yx,go_sem];simp[binP,h30,h31,h32,h33,h34,h41,h42]
end Sh
end
section
namespace Sh
open Go Ev
theorem yuz{l:List Int}{k:Nat}(h:k<l.length):countP (l.take (k+1))=countP (l.take k)+(if l.getD k 0≠0 then 1 else 0):=by
 unfold countP;rw[zI h,List.filter_append,zZ,getD_at h]
 by_cases q:l[k]=0
 .simp[q]
 .simp[q]
theorem ybho{l:List Int}(k:Nat):0<=countP (l.take k)/\countP (l.take k)<=k:=by
 have:=countP_le (l.take k);simp only[List.length_take]at this;omega
theorem ycaj(l:List Int)(hl:l.length<=1000):Returns zG 250 [ybc l] (.i .i64 (countP l)):=by
 refine Returns.of (ydcn _ _ ?_);simp only[c250,ycup,ycoz,ydbd,ybc,go_sem,zB,↓reduceIte,reduceCtorEq];refine ybf (σ:=Nat) (fun k=>⟨[(8,.i .i64 k),(3,.i .i64 (countP (l.take k))),(6,ybc l),(7,.i .i64 l.length)],[]⟩) (fun k=>k<=l.length) (fun k=>l.length-k) 0 (zK _) ?_ ?_
 .refine yh [] [] [] ?_;simp only[ybc,allQ,live,yc,yx,zH,go_sem,zA,↓reduceIte,reduceCtorEq];simp[countP]
 .intro k hk;simp only[ycqe,ydaz,ycvm,ycui,ycxo,ycrv,ybc,yx,go_sem,zA,zB,↓reduceIte,reduceCtorEq];have hb:=ybho (l:=l) k;refine⟨fun hlt=>⟨by omega,fun h0=>⟨ikw (by omega) (by omega),ikw (by omega) (by omega),?_⟩,fun h0=>⟨ikw (by omega) (by omega),?_⟩⟩,fun hlt=>?_⟩
  .have hk':k<l.length:=by omega
   refine yj (k+1) (by omega) (by omega) ?_
   refine yh [] [] [] ?_;simp only[yuz hk',if_pos h0,allQ,live,yc,yx,go_sem,zA,↓reduceIte,reduceCtorEq];simp
  .have hk':k<l.length:=by omega
   refine yj (k+1) (by omega) (by omega) ?_
   refine yh [] [] [] ?_;simp only[yuz hk',if_neg (not_not_intro h0),allQ,live,yc,yx,go_sem,zA,↓reduceIte,reduceCtorEq];simp
  .rw[zN (by omega)]
theorem yqx{l:List Int}{k:Nat}(h:k<l.length):yem (l.take (k+1))=(if l.getD k 0>(yem (l.take k)).1 then(l.getD k 0,(yem (l.take k)).1)else((yem (l.take k)).1,max (yem (l.take k)).2 (l.getD k 0))):=by
 unfold yem;rw[zI h,zAA,getD_at h];rfl
theorem yuq(l:List Int)(hl:l.length<=1000):Returns zG 253 [ybc l] (.tp [.i .i64 (yem l).1,.i .i64 (yem l).2]):=by
 refine Returns.of (ydke _ _ ?_);simp only[c253,ydaw,ycvl,yczr,ybc,go_sem,zB,↓reduceIte,reduceCtorEq];refine ybf (σ:=Nat) (fun k=>⟨[(8,.i .i64 k),(2,.i .i64 (yem (l.take k)).1),(3,.i .i64 (yem (l.take k)).2),(6,ybc l),(7,.i .i64 l.length)],[]⟩) (fun k=>k<=l.length) (fun k=>l.length-k) 0 (zK _) ?_ ?_
 .refine yh [] [] [] ?_;simp only[ybc,allQ,live,yc,yx,zH,go_sem,zA,↓reduceIte,reduceCtorEq];simp[yem]
 .intro k hk;simp only[ydbb,ycqz,ycwf,ydad,ycmz,ycsd,ydap,ybc,go_sem,zA,zB,↓reduceIte,reduceCtorEq];refine⟨fun hlt=>⟨by omega,fun h0=>⟨ikw (by omega) (by omega),?_⟩,fun h0=>⟨ikw (by omega) (by omega),?_⟩⟩,fun hlt=>?_⟩
  .have hk':k<l.length:=by omega
   refine yj (k+1) (by omega) (by omega) ?_
   refine yh [] [] [] ?_;simp only[yqx hk',if_pos h0,allQ,live,yc,yx,go_sem,zA,↓reduceIte,reduceCtorEq];simp
  .have hk':k<l.length:=by omega
   refine yj (k+1) (by omega) (by omega) ?_
   refine yh [] [] [] ?_;simp only[yqx hk',if_neg h0,allQ,live,yc,yx,go_sem,zA,↓reduceIte,reduceCtorEq];simp
  .rw[zN (by omega)]
   exact Sim.refl _
theorem ybfo(l:List Int)(x:Int)(hl:l.length<=100000):Returns zG 258 [ybc l,.i .i64 x] (.b (l.elem x)):=by
 refine Returns.of (ydkh _ _ ?_);simp only[c258,ycnr,ycth,ybc,go_sem,zA,zB,↓reduceIte,reduceCtorEq];refine(ybxo l x hl).use ?_;simp only[ybh,yvd,go_sem,zA,zB,↓reduceIte,reduceCtorEq];unfold idxP;cases h:l.findIdx? (fun y=>x==y)with
 | none =>
   rw[zT]at h
   have:l.elem x=false:=by
    rw[zAM,decide_eq_false_iff_not];intro hm;have:=h x hm;simp at this
   rw[this];simp
 | some i =>
   obtain⟨h1,h2,_⟩:=List.findIdx?_eq_some_iff_getElem.1 h
   have:l.elem x=true:=by
    rw[zAM,decide_eq_true_eq];have:x=l[i]:=by simpa using h2
    rw[this];exact zM h1
   rw[this];simp
theorem ybqk{l:List Int}{n:Nat}{r:Int}(h:l.elem r=true):yvl l (n+1) r=yvl l n (r+1):=by
 show(if l.elem r then _ else _)=_;rw[if_pos h]
theorem ybqe{l:List Int}{n:Nat}{r:Int}(h:l.elem r=false):yvl l n r=r:=by
 cases n with
 |zero=>rfl
 |succ n=>show(if l.elem r then _ else _)=_;rw[if_neg (by rw[h];simp)]
theorem ybdy{l:List Int}{k:Nat}(h:∀j:Nat,j<k->l.elem (j:Int)=true):k<=l.length:=by
 have h1:((zAC k).map fun(j:Nat)=>(j:Int)).Nodup:=by
  rw[List.Nodup,List.pairwise_map];exact List.nodup_range.imp fun {a b} hab e=>hab (by omega)
 have h2:((zAC k).map fun(j:Nat)=>(j:Int)) ⊆ l:=fun x hx=>by
  obtain⟨j,hj,rfl⟩:=List.mem_map.1 hx;have:=h j (List.mem_range.1 hj)
  simpa using this
 have:=List.Nodup.length_le_of_subset h1 h2
 simpa using this
theorem ydcf(l:List Int)(hl:l.length<=1000):Returns zG 254 [ybc l] (.i .i64 (mexP l)):=by
 refine Returns.of (ydcy _ _ ?_);simp only[c254,yctv,ycws,ybc,go_sem];refine ybf (σ:=Nat) (fun k=>⟨[(3,.i .i64 k),(0,ybc l)],[]⟩) (fun k=>(∀j:Nat,j<k->l.elem (j:Int)=true)/\mexP l=yvl l (l.length+1-k) k) (fun k=>l.length+1-k) 0 ⟨fun j h=>absurd h (zAO _),rfl⟩ ?_ ?_
 .refine yh [] [] [] ?_;simp only[ybc,allQ,live,yc,zH,go_sem,↓reduceIte,reduceCtorEq]
 .intro k ⟨hk,he⟩;have hb:=ybdy hk;simp only[ydal,ycnk,ycyo,ybc,go_sem,zA,zB,↓reduceIte,reduceCtorEq];refine(ybfo l k (by omega)).use ?_
  simp only[ybh,yx,go_sem,zA,zB,↓reduceIte,reduceCtorEq];refine⟨fun h=>⟨ikw (by omega) (by omega),?_⟩,fun h=>?_⟩
  .have hk2:∀j:Nat,j<k+1->l.elem (j:Int)=true:=fun j hj=>by
    by_cases q:j<k
    .exact hk j q
    .obtain rfl:j=k:=by omega
     exact h
   have hb2:=ybdy hk2;refine yj (k+1) ⟨hk2,?_⟩ (by omega) ?_
   .rw[he,show l.length+1-k=(l.length+1-(k+1))+1 by omega,ybqk h];simp
   .refine yh [] [] [] ?_;simp only[allQ,live,yc,yx,go_sem,↓reduceIte,reduceCtorEq];simp
  .rw[he,ybqe h]
theorem ybth(x:Int):Returns zG 252 [.i .i64 x] (.b (x != 0)):=by
 refine Returns.of (ydki _ _ ?_);simp only[c252,ycwv,ycmn,yvd,go_sem,zA,zB,↓reduceIte,reduceCtorEq]
theorem yzo(l:List Int)(hl:l.length<=1000):Returns zG 251 [ybc l,.fn 252 [] []] (.i .i64 (yev l)):=by
 refine Returns.of (ydbv _ _ ?_);simp only[c251,ycrg,ycnb,ybc,go_sem,zB,↓reduceIte,reduceCtorEq];refine ybf (σ:=Nat) (fun k=>⟨[(8,.i .i64 k),(0,ybc l),(1,.fn 252 [] []),(7,.i .i64 l.length)],[]⟩) (fun k=>k<=l.length/\(l.take k).findIdx? (· != 0)=none) (fun k=>l.length-k) 0 ⟨zK _,by simp⟩ ?_ ?_
 .refine yh [] [] [] ?_;simp only[ybc,allQ,live,yc,zH,go_sem,zA,↓reduceIte,reduceCtorEq]
 .intro k ⟨hk,hno⟩;simp only[ycpn,ycon,ycrf,ycoy,ycsh,ycxk,ybc,yx,go_sem,zA,zB,↓reduceIte,reduceCtorEq];refine⟨fun hlt=>⟨by omega,(ybth _).use ?_⟩,fun hlt=>?_⟩
  .have hlt:k<l.length:=by omega
   simp only[ybh,yx,go_sem,zA,zB,↓reduceIte,reduceCtorEq];rw[getD_at hlt];refine⟨fun ha=>?_,fun ha=>⟨ikw (by omega) (by omega),?_⟩⟩
   .have:l.findIdx? (· != 0)=some k:=by
     rw[zX];refine⟨hlt,by simpa using ha,fun j hj=>?_⟩
     rw[zT]at hno;have:=hno l[j] (List.mem_take_iff_getElem.2 ⟨j,by omega,rfl⟩)
     simpa using this
    unfold yev;rw[this]
   .refine yj (k+1) ⟨by omega,?_⟩ (by omega) ?_
    .rw[zI hlt,zAI,hno];simp[ha]
    .refine yh [] [] [] ?_;simp only[allQ,live,yc,yx,go_sem,zA,↓reduceIte,reduceCtorEq];simp
  .obtain rfl:k=l.length:=by omega
   rw[zAN]at hno;unfold yev;rw[hno]
end Sh
end
section
namespace Sh
open Go Ev
theorem ybhe{l:List Int}{k:Nat}(h:k<l.length):yqk (l.take (k+1))=min (yqk (l.take k)) (l.getD k 0):=by
 unfold yqk;rw[zI h,zAA,getD_at h];rfl
theorem ybap{l:List Int}{k:Nat}(h:k<l.length):(l.take (k+1)).sum=(l.take k).sum+l.getD k 0:=by
 rw[zI h,List.sum_append,getD_at h];simp
theorem ycfc{l:List Int}(h:∀x∈l,InB x):∀k,k<=l.length -> -1073741824*(k:Int)<=(l.take k).sum/\(l.take k).sum<=1073741824*(k:Int)
 |0,_=>by simp
 | k+1,hk=>by
   have ih:=ycfc h k (by omega)
   rw[ybap (by omega)]
   have:=h l[k] (zM (by omega))
   rw[<-getD_at (d:=0) (show k<l.length by omega)]at this
   unfold InB at this;omega
theorem yckv(op:Int)(l:List Int)(hl:l.length<=24)(hb:∀x∈l,InB x):Returns zG 241 [.i .i64 op,ybc l] (.i .i64 (yhv op l)):=by
 refine Returns.of (ydkd _ _ ?_);have hin:∀k,k<l.length->InB (l.getD k 0):=fun k hk=>by rw[getD_at hk];exact hb _ (zM hk)
 obtain⟨L,hL⟩:∃L,ybc l=L:=⟨_,rfl⟩;have hLs:L = .sl 1 l.length (fun k=>[.i .i64 (l.getD k 0)]):=hL.symm;simp only[c241,yctt,ycsb,ycrq,ycwk,yczd,ycpp,ycps,ydak,ycyp,ydas,ycan,ybwk,ycbw,ybvk,ybva,ycdc,ybyk,ycez,ycbj,ybux,ycbk,ybxg,ybzl,ybsw,ybzn,ycdl,ybxq,ybxx,ybun,ybvg,ybvt,ycat,ycdf,ybui,ybwg,ybxc,ybvy,ybc,go_sem,zAF,zA,zB,↓reduceIte,reduceCtorEq];have hcount:=ycaj l (by omega)
 have htwo:=yuq l (by omega)
 simp only[ybc]at hcount htwo;refine⟨fun h20=>hcount.use ?_,fun h20=>⟨fun h21=>hcount.use ?_,fun h21=>⟨fun h22=>hcount.use ?_,fun h22=>⟨fun h23=>?_,fun h23=>⟨fun h24=>?_,fun h24=>⟨fun h25=>htwo.use ?_,fun h25=>⟨fun h26=>?_,fun h26=>⟨fun h27=>?_,fun h27=>⟨fun h28=>htwo.use ?_,fun h28=>?_⟩⟩⟩⟩⟩⟩⟩⟩⟩
 .simp only[ybh,go_sem,zA,zB,↓reduceIte,reduceCtorEq];refine(yew _).use ?_;simp only[yx,go_sem];simp[yhv,h20]
 .simp only[ybh,go_sem,zA,zB,↓reduceIte,reduceCtorEq];refine(yew _).use ?_;simp only[yx,go_sem];simp[yhv,h21]
 .simp only[ybh,yx,go_sem,zA,zB,↓reduceIte,reduceCtorEq];simp[yhv,h22]
 .have:=yzo l (by omega)
  simp only[ybc]at this;refine this.use ?_;simp only[ybh,yx,go_sem,zA,zB,↓reduceIte,reduceCtorEq];simp[yhv,h23]
 .refine ybf (σ:=Nat) (fun k=>⟨[(42,.i .i64 k),(5,.i .i64 (yqk (l.take k))),(40,ybc l),(41,.i .i64 l.length)],[]⟩) (fun k=>k<=l.length) (fun k=>l.length-k) 0 (zK _) ?_ ?_
  .refine yh [] [] [] ?_;simp only[ybc,allQ,live,yc,yx,zH,go_sem,zA,↓reduceIte,reduceCtorEq];simp[yqk]
  .intro k hk;simp only[ybc,yx,go_sem,zA,zB,↓reduceIte,reduceCtorEq];refine⟨fun hlt=>⟨by omega,ikw (by omega) (by omega),?_⟩,fun hlt=>?_⟩
   .have hk':k<l.length:=by omega
    refine yj (k+1) (by omega) (by omega) ?_
    refine yh [] [] [] ?_;simp only[ybhe hk',allQ,live,yc,yx,go_sem,zA,↓reduceIte,reduceCtorEq];simp
   .rw[zN (by omega)]
    simp[yhv,h24]
 .simp only[ybh,yx,go_sem,zA,zB,↓reduceIte,reduceCtorEq];simp[yhv,h25]
 .refine ybf (σ:=Nat) (fun k=>⟨[(63,.i .i64 k),(10,.i .i64 (l.take k).sum),(61,ybc l),(62,.i .i64 l.length)],[]⟩) (fun k=>k<=l.length) (fun k=>l.length-k) 0 (zK _) ?_ ?_
  .refine yh [] [] [] ?_;simp only[ybc,allQ,live,yc,yx,zH,go_sem,zA,↓reduceIte,reduceCtorEq];simp
  .intro k hk;simp only[ybc,go_sem,zA,zB,↓reduceIte,reduceCtorEq];have hs:=ycfc hb k hk;refine⟨fun hlt=>?_,fun hlt=>(yej _).use ?_⟩
   .have hk':k<l.length:=by omega
    have hs2:=ycfc hb (k+1) hk';rw[ybap hk']at hs2;refine⟨by omega,ikw (by omega) (by omega),ikw (by omega) (by omega),?_⟩
    refine yj (k+1) (by omega) (by omega) ?_
    refine yh [] [] [] ?_;simp only[ybap hk',allQ,live,yc,yx,go_sem,zA,↓reduceIte,reduceCtorEq];simp
   .simp only[ybh,yx,go_sem,zA,zB,↓reduceIte,reduceCtorEq];rw[zN (by omega)]
    simp[yhv,h26]
 .have:=ydcf l (by omega)
  simp only[ybc]at this;refine this.use ?_;simp only[ybh,yx,go_sem,zA,zB,↓reduceIte,reduceCtorEq];simp[yhv,h27]
 .simp only[ybh,yx,go_sem,zA,zB,↓reduceIte,reduceCtorEq];simp[yhv,h28]
 .refine⟨fun h0=>?_,fun h0=>⟨by omega,?_⟩⟩
  .simp only[yx,go_sem];have:l=[]:=zQ (by omega)
   simp[yhv,h20,h21,h22,h23,h24,h25,h26,h27,h28,this]
  .cases l with
   |nil=>simp at h0
   | cons x l=>
     simp only[yx,go_sem];simp[yhv,h20,h21,h22,h23,h24,h25,h26,h27,h28]
end Sh
end
section
def Ex.shp:Ex->Bool
 |.leaf op _=>decide (1<=op/\op<=17)
 |.un op a=>decide (18<=op/\op<=29)&&a.shp
 |.agg op a=>decide (18<=op/\op<=29)&&a.shp
 |.bin op a b=>decide (30<=op/\op<=42)&&a.shp&&b.shp
 |.ite x a b=>x.shp&&a.shp&&b.shp
theorem Ex.ok_shp{nv:Int}:∀(x:Ex) {bnd:Bool},x.ok nv bnd=true->x.shp=true
 | .leaf op arg,bnd,h=>by
   simp only[Ex.ok,zF]at h;exact h.1.1
 | .un op a,bnd,h=>by
   simp only[Ex.ok,zF,decide_eq_true_eq]at h;simp only[Ex.shp,zF,decide_eq_true_eq];exact⟨by omega,Ex.ok_shp a h.2⟩
 | .agg op a,bnd,h=>by
   simp only[Ex.ok,zF,decide_eq_true_eq]at h;simp only[Ex.shp,zF,decide_eq_true_eq];exact⟨by omega,Ex.ok_shp a h.2⟩
 | .bin op a b,bnd,h=>by
   simp only[Ex.ok,zF,decide_eq_true_eq]at h;simp only[Ex.shp,zF,decide_eq_true_eq];exact⟨⟨h.1.1,Ex.ok_shp a h.1.2⟩,Ex.ok_shp b h.2⟩
 | .ite x a b,bnd,h=>by
   simp only[Ex.ok,zF]at h;simp only[Ex.shp,zF];exact⟨⟨Ex.ok_shp x h.1.1,Ex.ok_shp a h.1.2⟩,Ex.ok_shp b h.2⟩
def ylu(op:Int):Int:=if op<1\/op>43 then -1 else if op<=17 then 0 else if op<=29 then 1 else if op<=42 then 2 else 3
def serL(ts:List Ex):List Tm:=(ts.map Ex.ser).flatten
def Ex.head:Ex->Tm
 |.leaf op arg=>(op,arg)
 |.un op _=>(op,0)
 |.agg op _=>(op,0)
 |.bin op _ _=>(op,0)
 |.ite _ _ _=>(43,0)
def Ex.subs:Ex->List Ex
 |.leaf _ _=>[]
 |.un _ a=>[a]
 |.agg _ a=>[a]
 |.bin _ a b=>[a,b]
 |.ite x a b=>[x,a,b]
theorem Ex.ser_eq(x:Ex):x.ser=x.head::serL x.subs:=by
 cases x<;>simp[Ex.ser,Ex.head,Ex.subs,serL]
theorem yckt{op:Int}(h:1<=op/\op<=17):ylu op=0:=by
 unfold ylu;rw[if_neg (by omega),if_pos (by omega)]
theorem ybmo{op:Int}(h:18<=op/\op<=29):ylu op=1:=by
 unfold ylu;rw[if_neg (by omega),if_neg (by omega),if_pos (by omega)]
theorem ycjc{op:Int}(h:30<=op/\op<=42):ylu op=2:=by
 unfold ylu;rw[if_neg (by omega),if_neg (by omega),if_neg (by omega),if_pos (by omega)]
theorem Ex.arity(x:Ex)(h:x.shp=true):ylu x.head.1=x.subs.length:=by
 cases x with
 |leaf op arg=>simp only[Ex.shp,decide_eq_true_eq]at h;exact yckt h
 |un op a=>simp only[Ex.shp,zF,decide_eq_true_eq]at h;exact ybmo h.1
 |agg op a=>simp only[Ex.shp,zF,decide_eq_true_eq]at h;exact ybmo h.1
 |bin op a b=>simp only[Ex.shp,zF,decide_eq_true_eq]at h;exact ycjc h.1.1
 |ite x a b=>simp[Ex.head,Ex.subs,ylu]
theorem Ex.subs_shp(x:Ex)(h:x.shp=true):∀y∈x.subs,y.shp=true:=by
 cases x with
 |leaf op arg=>intro y hy;cases hy
 |un op a=>simp only[Ex.shp,zF]at h;intro y hy;simp[Ex.subs]at hy;subst hy;exact h.2
 |agg op a=>simp only[Ex.shp,zF]at h;intro y hy;simp[Ex.subs]at hy;subst hy;exact h.2
 |bin op a b=>simp only[Ex.shp,zF]at h;intro y hy;simp[Ex.subs]at hy;rcases hy with rfl|rfl<;>first|exact h.1.2|exact h.2
 |ite x a b=>simp only[Ex.shp,zF]at h;intro y hy;simp[Ex.subs]at hy;rcases hy with rfl|rfl|rfl<;>first|exact h.1.1|exact h.1.2|exact h.2
theorem yfq{e:List Tm}{at_:Nat}{t:Tm}{r:List Tm}(h:e.drop at_=t::r):at_<e.length/\e.getD at_ (0,0)=t/\e.drop (at_+1)=r:=by
 have hlt:at_<e.length:=by
  refine zU fun hc=>?_;rw[List.drop_of_length_le (by omega)]at h;cases h
 refine⟨hlt,?_,?_⟩
 .rw[zAD hlt]at h;simp only[List.cons.injEq]at h;simp[zAG,hlt,h.1]
 .rw[zAD hlt]at h;simp only[List.cons.injEq]at h;exact h.2
namespace Sh
open Go Ev
theorem ycas(op:Int):Returns zG 231 [.i .i64 op] (.i .i64 (ylu op)):=by
 refine Returns.of (ydjb _ _ ?_);simp only[c231,yczq,ycmv,ycwd,ycwl,ycmu,ydbc,ycrh,ycty,yctd,ycpe,yx,ylu,go_sem,zA,zB,↓reduceIte,reduceCtorEq];refine⟨fun h1=>⟨fun h=>by rw[if_pos (.inr h)],fun h2=>⟨fun h=>by rw[if_neg (by omega),if_pos h],fun h3=>⟨fun h=>by rw[if_neg (by omega),if_neg h3,if_pos h],fun h4=>⟨fun h=>by rw[if_neg (by omega),if_neg h3,if_neg h4,if_pos h],fun h5=>by rw[if_neg (by omega),if_neg h3,if_neg h4,if_neg h5]⟩⟩⟩⟩,fun h=>by rw[if_pos (.inl h)]⟩
theorem ydit(e:List Tm)(x:Ex)(at_:Nat)(rest:List Tm)(hx:x.shp=true)(he:e.drop at_=x.ser++rest)(hl:e.length<=1000):Returns zG 215 [ybb e,.i .i64 at_] (.i .i64 ((at_+x.ser.length:Nat):Int)):=by
 refine Returns.of (ydiy _ _ ?_)
 have h0:at_<e.length:=by
  rw[x.ser_eq]at he;exact(yfq he).1
 simp only[c215,ycpv,ycpk,ycxs,ycnh,ybb,yx,go_sem,zA,zB,↓reduceIte,reduceCtorEq];refine⟨fun _=>⟨fun h=>by omega,fun _=>?_⟩,fun h=>by omega⟩
 refine ybf (σ:=Nat×List Ex) (fun p=>⟨[(1,.i .i64 p.1),(5,.i .i64 p.2.length),(0,ybb e)],[]⟩)
  (fun p=>e.drop p.1=serL p.2++rest/\p.2≠[]/\(∀y∈p.2,y.shp=true)/\p.1+(serL p.2).length=at_+x.ser.length/\p.2.length<=3*p.1+1) (fun p=>e.length-p.1) (at_,[x]) ⟨by simpa[serL]using he,by simp,by simpa using hx,by simp[serL],by simp⟩ ?_ ?_
 .refine yh [] [] [] ?_;simp only[ybb,allQ,live,yc,yx,go_sem,zA,↓reduceIte,reduceCtorEq];simp
 .rintro⟨k,ts⟩ ⟨hk,hne,hsh,hlen,hb⟩;cases ts with
  |nil=>exact absurd rfl hne
  | cons y ts =>
    dsimp only at hk hlen hb ⊢
    have hser:serL (y::ts)=y.head::(serL y.subs++serL ts):=by
     show(y.ser++serL ts)=_;rw[y.ser_eq];rfl
    rw[hser]at hk hlen;obtain⟨d1,d2,d3⟩:=yfq hk;have hy:=hsh y List.mem_cons_self;have har:=y.arity hy;have hsub:y.subs.length<=3:=by cases y<;>simp[Ex.subs]
    simp only[List.length_cons]at hb hlen;simp only[ycsi,ydan,ycmw,ycqm,ycsj,ycry,ybtw,ybye,ybzf,ybb,yx,go_sem,zA,zB,zC,↓reduceIte,reduceCtorEq];refine⟨fun hlt=>⟨by omega,(ycas _).use ?_⟩,fun hlt=>by omega⟩
    rw[d2,har];simp only[ybh,yx,go_sem,zA,zB,↓reduceIte,reduceCtorEq];refine⟨fun h=>by omega,fun _=>⟨ikw (by omega) (by omega),ikw (by simp;omega) (by simp;omega),fun h=>⟨ikw (by omega) (by omega),?_⟩,fun h=>⟨ikw (by omega) (by omega),?_⟩⟩⟩
    .have h1:ts=[]:=zQ (by omega)
     have h2:y.subs=[]:=zQ (by omega)
     subst h1;rw[h2]at hlen;simp[serL]at hlen;omega
    .have hpos:y.subs++ts≠[]:=fun q=>by
      have q1:=congrArg zAH q;simp only[zZ,List.length_nil]at q1;omega
     refine yj (k+1,y.subs++ts) ⟨?_,hpos,?_,?_,?_⟩ (by dsimp only;omega) ?_
     .dsimp only
      rw[d3];simp[serL]
     .intro z hz;rcases List.mem_append.1 hz with q|q
      .exact y.subs_shp hy z q
      .exact hsh z (List.mem_cons_of_mem _ q)
     .dsimp only
      have:(serL (y.subs++ts)).length=(serL y.subs++serL ts).length:=by simp[serL]
      rw[this];omega
     .dsimp only
      simp only[zZ];omega
     .refine yh [] [] [] ?_;simp only[allQ,live,yc,yx,go_sem,zA,↓reduceIte,reduceCtorEq];simp;omega
end Sh
end
section
namespace Sh
open Go Ev
def varC(x:VarR):List SV:=[.a (.string x.name),.i .i64 x.kind,.i .i64 x.lo,.i .i64 x.hi,.i .i64 x.perNode,.i .i64 x.perID]
def yfc(l:List VarR):SV:=.sl 6 l.length (fun k=>varC (l.getD k default))
def yjc(l:List SetR):SV:=.sl 2 l.length (fun k=>[.i .i64 (l.getD k default).var,ybb (l.getD k default).val])
def ydh(l:List RuleR):SV:=.sl 3 l.length (fun k=>[.a (.string (l.getD k default).name),ybb (l.getD k default).guard,yjc (l.getD k default).sets])
def ymw(p:ProgR):List SV:=[.a (.string p.name),yfc p.vars,ydh p.rules]
def yed(g:Gr):SV:=.sl 1 g.ports.length (fun v=>[ybc (yit g v)])
def ygs(p:ProgR)(g:Gr):List SV:=[.a (.string p.name),yfc p.vars,ydh p.rules,ybc g.ids,yu g.ports,.i .i64 (ybte g),yed g]
def yjv(p:ProgR)(g:Gr)(c:Conf)(v:Nat)(e:List Tm):List SV:=[.rf (ygs p g),ycz c,.i .i64 v,ybb e]
theorem ybrb(l:List Int):one1 (ybc l)=true:=rfl
theorem ybgx{n:Nat}(l:List Int):owned (n+1) (ybc l)=false:=rfl
theorem ybfi{n:Nat}(l:List Int):scalar (n+1) (ybc l)=false:=rfl
theorem ybrp{n:Nat}(o:Own)(l:List Int):view o (n+1) (ybc l)=ybc l:=rfl
theorem yccd{n:Nat}(o:Own)(l:List Int):vok o (n+1) (ybc l)=True:=rfl
theorem ybsy{n:Nat}(h:Nm->Nm)(l:List Int):ren h (n+1) (ybc l)=ybc l:=rfl
theorem ycci{n:Nat}(L:Nm->Bool)(l:List Int):cln L (n+1) (ybc l)=true:=rfl
theorem ybhx(l:List (Int×Int)):one1 (ybb l)=true:=rfl
theorem ybey{n:Nat}(l:List (Int×Int)):owned (n+1) (ybb l)=false:=rfl
theorem yza{n:Nat}(l:List (Int×Int)):scalar (n+1) (ybb l)=false:=rfl
theorem ybhy{n:Nat}(o:Own)(l:List (Int×Int)):view o (n+1) (ybb l)=ybb l:=rfl
theorem ybre{n:Nat}(o:Own)(l:List (Int×Int)):vok o (n+1) (ybb l)=True:=rfl
theorem ybsl{n:Nat}(h:Nm->Nm)(l:List (Int×Int)):ren h (n+1) (ybb l)=ybb l:=rfl
theorem ybqf{n:Nat}(L:Nm->Bool)(l:List (Int×Int)):cln L (n+1) (ybb l)=true:=rfl
theorem ybgr(l:List (List (Int×Int))):one1 (yu l)=true:=rfl
theorem ybfl{n:Nat}(l:List (List (Int×Int))):owned (n+1) (yu l)=false:=rfl
theorem ybah{n:Nat}(l:List (List (Int×Int))):scalar (n+1) (yu l)=false:=rfl
theorem ybik{n:Nat}(o:Own)(l:List (List (Int×Int))):view o (n+1) (yu l)=yu l:=rfl
theorem ybrd{n:Nat}(o:Own)(l:List (List (Int×Int))):vok o (n+1) (yu l)=True:=rfl
theorem ybou{n:Nat}(h:Nm->Nm)(l:List (List (Int×Int))):ren h (n+1) (yu l)=yu l:=rfl
theorem ybrm{n:Nat}(L:Nm->Bool)(l:List (List (Int×Int))):cln L (n+1) (yu l)=true:=rfl
theorem ybsh(l:List (List Int)):one1 (ycz l)=true:=rfl
theorem ybhs{n:Nat}(l:List (List Int)):owned (n+1) (ycz l)=false:=rfl
theorem ybeu{n:Nat}(l:List (List Int)):scalar (n+1) (ycz l)=false:=rfl
theorem ybon{n:Nat}(o:Own)(l:List (List Int)):view o (n+1) (ycz l)=ycz l:=rfl
theorem ybtc{n:Nat}(o:Own)(l:List (List Int)):vok o (n+1) (ycz l)=True:=rfl
theorem ycdg{n:Nat}(h:Nm->Nm)(l:List (List Int)):ren h (n+1) (ycz l)=ycz l:=rfl
theorem ycbb{n:Nat}(L:Nm->Bool)(l:List (List Int)):cln L (n+1) (ycz l)=true:=rfl
theorem ybot(l:List VarR):one1 (yfc l)=true:=rfl
theorem ybgk{n:Nat}(l:List VarR):owned (n+1) (yfc l)=false:=rfl
theorem ybcv{n:Nat}(l:List VarR):scalar (n+1) (yfc l)=false:=rfl
theorem ybqn{n:Nat}(o:Own)(l:List VarR):view o (n+1) (yfc l)=yfc l:=rfl
theorem ybuz{n:Nat}(o:Own)(l:List VarR):vok o (n+1) (yfc l)=True:=rfl
theorem ybzz{n:Nat}(h:Nm->Nm)(l:List VarR):ren h (n+1) (yfc l)=yfc l:=rfl
theorem ycdu{n:Nat}(L:Nm->Bool)(l:List VarR):cln L (n+1) (yfc l)=true:=rfl
theorem ybpx(l:List SetR):one1 (yjc l)=true:=rfl
theorem ybjc{n:Nat}(l:List SetR):owned (n+1) (yjc l)=false:=rfl
theorem ybfd{n:Nat}(l:List SetR):scalar (n+1) (yjc l)=false:=rfl
theorem ybrw{n:Nat}(o:Own)(l:List SetR):view o (n+1) (yjc l)=yjc l:=rfl
theorem ycdr{n:Nat}(o:Own)(l:List SetR):vok o (n+1) (yjc l)=True:=rfl
theorem yccq{n:Nat}(h:Nm->Nm)(l:List SetR):ren h (n+1) (yjc l)=yjc l:=rfl
theorem ycfi{n:Nat}(L:Nm->Bool)(l:List SetR):cln L (n+1) (yjc l)=true:=rfl
theorem ybje(l:List RuleR):one1 (ydh l)=true:=rfl
theorem ybdz{n:Nat}(l:List RuleR):owned (n+1) (ydh l)=false:=rfl
theorem ybbf{n:Nat}(l:List RuleR):scalar (n+1) (ydh l)=false:=rfl
theorem ybjs{n:Nat}(o:Own)(l:List RuleR):view o (n+1) (ydh l)=ydh l:=rfl
theorem ybpb{n:Nat}(o:Own)(l:List RuleR):vok o (n+1) (ydh l)=True:=rfl
theorem ybrn{n:Nat}(h:Nm->Nm)(l:List RuleR):ren h (n+1) (ydh l)=ydh l:=rfl
theorem ybpu{n:Nat}(L:Nm->Bool)(l:List RuleR):cln L (n+1) (ydh l)=true:=rfl
theorem ybix(l:Gr):one1 (yed l)=true:=rfl
theorem ybdc{n:Nat}(l:Gr):owned (n+1) (yed l)=false:=rfl
theorem yzq{n:Nat}(l:Gr):scalar (n+1) (yed l)=false:=rfl
theorem ybhi{n:Nat}(o:Own)(l:Gr):view o (n+1) (yed l)=yed l:=rfl
theorem ybsg{n:Nat}(o:Own)(l:Gr):vok o (n+1) (yed l)=True:=rfl
theorem ybsi{n:Nat}(h:Nm->Nm)(l:Gr):ren h (n+1) (yed l)=yed l:=rfl
theorem ybow{n:Nat}(L:Nm->Bool)(l:Gr):cln L (n+1) (yed l)=true:=rfl
theorem ybip{n:Nat}(fr:List Nm)(o:Own)(l:List Int):ydu fr o (n+1) (ybc l)=ybc l:=rfl
theorem ybxi{n:Nat}(fr:List Nm)(o:Own)(l:List Int):pok fr o (n+1) (ybc l)=True:=rfl
theorem ybdu{n:Nat}(fr:List Nm)(o:Own)(l:List (Int×Int)):ydu fr o (n+1) (ybb l)=ybb l:=rfl
theorem ybqg{n:Nat}(fr:List Nm)(o:Own)(l:List (Int×Int)):pok fr o (n+1) (ybb l)=True:=rfl
theorem ybcx{n:Nat}(fr:List Nm)(o:Own)(l:List (List (Int×Int))):ydu fr o (n+1) (yu l)=yu l:=rfl
theorem ybrv{n:Nat}(fr:List Nm)(o:Own)(l:List (List (Int×Int))):pok fr o (n+1) (yu l)=True:=rfl
theorem ybjj{n:Nat}(fr:List Nm)(o:Own)(l:List (List Int)):ydu fr o (n+1) (ycz l)=ycz l:=rfl
theorem ycdx{n:Nat}(fr:List Nm)(o:Own)(l:List (List Int)):pok fr o (n+1) (ycz l)=True:=rfl
theorem ybjg{n:Nat}(fr:List Nm)(o:Own)(l:List VarR):ydu fr o (n+1) (yfc l)=yfc l:=rfl
theorem ybzb{n:Nat}(fr:List Nm)(o:Own)(l:List VarR):pok fr o (n+1) (yfc l)=True:=rfl
theorem ybic{n:Nat}(fr:List Nm)(o:Own)(l:List SetR):ydu fr o (n+1) (yjc l)=yjc l:=rfl
theorem ybuw{n:Nat}(fr:List Nm)(o:Own)(l:List SetR):pok fr o (n+1) (yjc l)=True:=rfl
theorem ybei{n:Nat}(fr:List Nm)(o:Own)(l:List RuleR):ydu fr o (n+1) (ydh l)=ydh l:=rfl
theorem ybrs{n:Nat}(fr:List Nm)(o:Own)(l:List RuleR):pok fr o (n+1) (ydh l)=True:=rfl
theorem ybez{n:Nat}(fr:List Nm)(o:Own)(l:Gr):ydu fr o (n+1) (yed l)=yed l:=rfl
theorem ybrc{n:Nat}(fr:List Nm)(o:Own)(l:Gr):pok fr o (n+1) (yed l)=True:=rfl
theorem ybjf(l:List Int):SV.cells (ybc l)=[ybc l]:=rfl
theorem ybcp(l:List (Int×Int)):SV.cells (ybb l)=[ybb l]:=rfl
theorem ybdo(l:List (List (Int×Int))):SV.cells (yu l)=[yu l]:=rfl
theorem ybio(l:List (List Int)):SV.cells (ycz l)=[ycz l]:=rfl
theorem ybgh(l:List VarR):SV.cells (yfc l)=[yfc l]:=rfl
theorem ybgj(l:List SetR):SV.cells (yjc l)=[yjc l]:=rfl
theorem ybcw(l:List RuleR):SV.cells (ydh l)=[ydh l]:=rfl
theorem ybcn(l:Gr):SV.cells (yed l)=[yed l]:=rfl
attribute [go_sem] ybrb ybgx ybfi ybrp yccd ybsy ycci ybhx ybey yza ybhy ybre ybsl ybqf
attribute [go_sem] ybgr ybfl ybah ybik ybrd ybou ybrm ybsh ybhs ybeu ybon ybtc ycdg
attribute [go_sem] ycbb ybot ybgk ybcv ybqn ybuz ybzz ycdu ybpx ybjc ybfd ybrw ycdr yccq
attribute [go_sem] ycfi ybje ybdz ybbf ybjs ybpb ybrn ybpu ybix ybdc yzq ybhi ybsg
attribute [go_sem] ybsi ybow ybip ybxi ybdu ybqg ybcx ybrv ybjj ycdx ybjg ybzb ybic ybuw
attribute [go_sem] ybei ybrs ybez ybrc ybjf ybcp ybdo ybio ybgh ybgj ybcw ybcn
end Sh
end
section
namespace Sh
open Go Ev
theorem ychd(p:ProgR){g:Gr}(hg:ybg g)(op:Int){v:Nat}(hv:v<g.ports.length)(port:Int)(hp:op=6\/op=7\/op=8\/op=9\/op=10\/op=11\/(0<=port/\port<(g.ports.getD v []).length)) :
 Returns zG 239 [.rf (ygs p g),.i .i64 op,.i .i64 v,.i .i64 port] (.i .i64 (yoq g op v port)):=by
 refine Returns.of (yddi _ _ ?_);have hlen:=hg.2.2.1;simp only[c239,yctm,yczu,ycuj,yctk,ycmg,ycvw,ycwp,ycsm,ycnq,ycze,ycba,ybtt,yccw,ybuj,ybwz,ycdi,ybtr,ybyc,ybvx,ycfg,ybyb,ybts,ybxy,yccb,ybws,ygs,ybc,yu,ybb,yed,yx,go_sem,zA,zB,zC,zD,↓reduceIte,reduceCtorEq];refine⟨fun h6=>?_,fun h6=>⟨fun h7=>?_,fun h7=>⟨fun h8=>⟨by omega,?_⟩,fun h8=>⟨fun h9=>⟨by omega,?_⟩,fun h9=>⟨fun h10=>(yew _).use ?_,fun h10=>⟨fun h11=>?_,fun h11=>?_⟩⟩⟩⟩⟩⟩
 .simp[yoq,h6]
 .simp[yoq,h7]
 .simp[yoq,h8]
 .simp[yoq,h9]
 .simp only[ybh,yx,go_sem,zA,zB,↓reduceIte,reduceCtorEq];simp[yoq,h10]
 .simp[yoq,h11]
 .have hp:0<=port/\port<(g.ports.getD v []).length:=by omega
  have hpn:port.toNat<(g.ports.getD v []).length:=by omega
  have hl:=hg.ybt hv hpn;unfold ybt at hl;refine⟨by omega,by omega,fun h13=>⟨by omega,?_⟩,fun h13=>⟨fun h14=>⟨by omega,?_⟩,fun h14=>⟨fun h15=>(yew _).use ?_,fun h15=>⟨fun h16=>?_,fun h16=>⟨by omega,?_⟩⟩⟩⟩⟩
  .simp[yoq,h13,ybt]
  .simp[yoq,h14,ybt]
  .simp only[ybh,yx,go_sem,zA,zB,↓reduceIte,reduceCtorEq];simp[yoq,h15,ybt]
  .simp[yoq,h16,ybt]
  .refine⟨by rw[show(yit g v).length=(g.ports.getD v []).length from zAP _];omega,?_⟩
   simp[yoq,h6,h7,h8,h9,h10,h11,h13,h14,h15,h16]
theorem yckh(p:ProgR){g:Gr}(hg:ybg g){nv:Nat}{c:Conf}(hc:ConfIn g.ports.length nv c){v:Nat}(hv:v<g.ports.length)(e:List Tm){op arg:Int}{bnd:Bool}(ho:(Ex.leaf op arg).ok nv bnd=true)(port:Int)(hp:bnd=true->0<=port/\port<(g.ports.getD v []).length) :
 Returns zG 220 [.rf (yjv p g c v e),.ag [.i .i64 op,.i .i64 arg],.i .i64 port] (.i .i64 (ytv g c op arg v port)):=by
 refine Returns.of (ydhk _ _ ?_);simp only[Ex.ok,zF,decide_eq_true_eq]at ho;obtain⟨⟨ho1,ho2⟩,ho3⟩:=ho;have hlen:=hc.len;have hrow:=hc.at_ hv;have hF:=ychd p hg op hv port;simp only[ygs,ybc,yu,ybb,yed]at hF;simp only[c220,ycpt,ycum,ycsu,ycqv,ydah,ycyw,ycqt,ycmo,ycqc,yczw,yccn,ycdv,ybty,ybyp,ybwh,yjv,ycz,ygs,ybc,yu,ybb,yed,yx,go_sem,zA,zB,zC,zD,↓reduceIte,reduceCtorEq];refine⟨fun h1=>?_,fun h1=>⟨fun h2=>?_,fun h2=>⟨fun h3=>?_,fun h3=>⟨fun h4=>?_,fun h4=>⟨fun h5=>?_,fun h5=>⟨fun h12=>?_,fun h12=>(hF ?_).use ?_⟩⟩⟩⟩⟩⟩
 .simp[ytv,h1]
 .simp[ytv,h2]
 .simp[ytv,h3]
 .simp[ytv,h4]
 .rw[if_neg (by omega),if_pos (by omega)]at ho2
  have ho2:=of_decide_eq_true ho2;refine⟨by omega,by omega,?_⟩
  simp[ytv,h5]
 .rw[if_neg (by omega),if_pos (by omega)]at ho2
  have ho2:=of_decide_eq_true ho2;rw[if_pos (by omega)]at ho3
  have hp:=hp ho3;have hpn:port.toNat<(g.ports.getD v []).length:=by omega
  have hl:=hg.ybt hv hpn;have hr2:=hc.at_ (v:=(ybt g v port.toNat).1.toNat) (by omega)
  unfold ybt at hl hr2;refine⟨by omega,by omega,by omega,by omega,?_⟩
  simp[ytv,h12,ybt]
 .by_cases q:11<=op
  .rw[if_pos q]at ho3;have:=hp ho3;omega
  .omega
 .simp only[ybh,yx,go_sem,zA,zB,↓reduceIte,reduceCtorEq];simp[ytv,h1,h2,h3,h4,h5,h12]
theorem ysd{e:List Tm}{at_:Nat}{a b:List Tm}(h:e.drop at_=a++b):e.drop (at_+a.length)=b:=by
 rw[<-List.drop_drop,h,List.drop_left]
theorem ycku{n:Nat}{gg:Nat->List SV}{l:List Int}(hn:n=l.length)(h:∀k,k<n->gg k=[.i .i64 (l.getD k 0)]):Sim (.sl 1 n gg) (ybc l):=by
 subst hn;exact ybce h
def ycbd(p:ProgR)(g:Gr)(nv:Nat)(c:Conf)(v:Nat)(e:List Tm)(x:Ex):Prop :=
 ∀ (bnd:Bool) (port:Int) (at_:Nat) (rest:List Tm),x.ok nv bnd=true->(bnd=true->0<=port/\port<(g.ports.getD v []).length)->InB port->e.drop at_=x.ser++rest ->
   Returns zG 205 [.rf (yjv p g c v e),.i .i64 at_,.i .i64 port] (.tp [.i .i64 (ydr g c v x port),.i .i64 ((at_+x.ser.length:Nat):Int)])
theorem yzx(p:ProgR){g:Gr}(hg:ybg g){nv:Nat}{c:Conf}(hc:ConfIn g.ports.length nv c){v:Nat}(hv:v<g.ports.length)(e:List Tm)(hl:e.length<=1000){op:Int}{a:Ex}(ho:(Ex.agg op a).ok nv true=true)(ih:ycbd p g nv c v e a)(at_:Nat)(rest:List Tm)(he:e.drop at_=(Ex.agg op a).ser++rest) :
 Returns zG 222 [.rf (yjv p g c v e),.i .i64 op,.i .i64 at_] (.tp [.i .i64 (ydr g c v (.agg op a) 0),.i .i64 ((at_+(Ex.agg op a).ser.length:Nat):Int)]):=by
 have ho':=ho;simp only[Ex.ok,zF,decide_eq_true_eq]at ho;have hd:=hg.deg_lt (v:=v);obtain⟨deg,hdeg⟩:∃d,(g.ports.getD v []).length=d:=⟨_,rfl⟩;rw[hdeg]at hd;have hin:∀q:Nat,q<deg->InB (ydr g c v a q):=fun q hq=>yic hg rfl hc hv a ho.2 (fun _=>by omega) (by unfold InB;omega)
 have hsh:=Ex.ok_shp _ ho';have hdrop:e.drop (at_+1)=a.ser++rest:=(yfq (show e.drop at_=(op,0)::(a.ser++rest)from he)).2.2
 have hat:=(yfq (show e.drop at_=(op,0)::(a.ser++rest)from he)).1
 have hfit:at_+1+a.ser.length<=e.length:=by
  have:=congrArg zAH hdrop;simp at this;omega
 refine Returns.of (ydes _ _ ?_);simp only[c222,yczf,ycuv,ycpi,yday,yjv,ycz,ygs,ybc,yu,ybb,yed,hdeg,go_sem,zA,zB,zC,zD,↓reduceIte,reduceCtorEq];refine⟨by omega,?_⟩
 let val:Nat->Int:=fun q=>ydr g c v a q
 refine ybf (σ:=Nat) (fun k=>⟨[(27,.i .i64 k),(26,.i .i64 deg),(9,.i .i64 deg),(0,.rf (yjv p g c v e)),(1,.i .i64 op),(2,.i .i64 at_),(8,.pt (8,0) 0 0),(7,.i .i64 (if k=0 then 0 else((at_+1+a.ser.length:Nat):Int)))],
  [(8,.one (some ⟨150,true,1,24,fun i=>[.i .i64 (if i<k then val i else 0)]⟩))]⟩) (fun k=>k<=deg) (fun k=>deg-k) 0 (zK _) ?_ ?_
 .refine yh [] [] [] ?_;simp only[yjv,ycz,ygs,ybc,yu,ybb,yed,allQ,live,yc,yx,zH,go_sem,zA,zD,↓reduceIte,reduceCtorEq];intro i _;rw[if_neg (by omega)]
 .intro k hk;simp only[ycwr,ycuu,ycut,yctg,ycvt,ycrw,ybxu,go_sem,zA,zB,zC,zD,↓reduceIte,reduceCtorEq];refine⟨fun hlt=>⟨ikw (by omega) (by omega),?_⟩,fun hlt=>?_⟩
  .have hk':k<deg:=by omega
   have hv1:=ih true (k:Int) (at_+1) rest ho.2 (fun _=>by rw[hdeg];omega) (by unfold InB;omega) hdrop
   rw[show((at_+1:Nat):Int)=(at_:Int)+1 by omega]at hv1
   refine hv1.use ?_;simp only[ybh,splice,go_sem,zA,zB,↓reduceIte,reduceCtorEq];refine⟨by omega,by omega,ikw (by omega) (by omega),?_⟩
   refine yj (k+1) (by omega) (by omega) ?_
   refine yh [] [] [] ?_;simp only[allQ,live,yc,yx,go_sem,zA,zD,↓reduceIte,reduceCtorEq];refine⟨by omega,?_⟩
   intro i hi
   by_cases q:i=k
   .rw[if_pos q,if_pos (by omega)]
    subst q;simp only[val,live,yc,go_sem,reduceCtorEq]
   .rw[if_neg q]
    by_cases q2:i<k
    .rw[if_pos q2,if_pos (by omega)]
     simp only[live,yc,go_sem,reduceCtorEq]
    .rw[if_neg q2,if_neg (by omega)]
     simp only[live,yc,go_sem,reduceCtorEq]
  .obtain rfl:k=deg:=by omega
   have hE:=ydit e _ at_ rest hsh he hl
   have hF:=yckv op ((zAC k).map val) (by simp;omega) (fun x hx=>by
    obtain⟨q,hq,rfl⟩:=List.mem_map.1 hx;exact hin q (List.mem_range.1 hq))
   have hres:ydr g c v (.agg op a) 0=yhv op ((zAC k).map val):=by
    show yhv op _=_;rw[hdeg]
   rw[hres];simp only[yjv,ybb,go_sem,zA,zB,↓reduceIte,reduceCtorEq];simp only[ybb]at hE
   have hsim:SimL [.i .i64 op,.sl 1 (k-0) fun i=>[.i .i64 (if i<k then val i else 0)]] [.i .i64 op,ybc ((zAC k).map val)]:=by
    refine⟨Sim.refl _,ycku (by simp) fun i hi=>?_,trivial⟩
    rw[if_pos (by omega)]
    simp[zAG,show i<k by omega]
   refine⟨fun h0=>hE.use ?_,fun h0=>?_⟩
   .simp only[ybh,go_sem,zA,zB,zC,zD,↓reduceIte,reduceCtorEq];refine⟨by simp;omega,.inl ⟨by omega,hF.useS hsim ?_⟩⟩
    simp only[go_sem];exact Sim.refl _
   .refine⟨by simp;omega,.inl ⟨by omega,hF.useS hsim ?_⟩⟩
    simp only[ybh,if_neg (show ¬k=0 by omega),go_sem,zA,zB,↓reduceIte,reduceCtorEq]
    rw[show at_+(Ex.agg op a).ser.length=at_+1+a.ser.length by simp[Ex.ser];omega]
    exact Sim.refl _
end Sh
end
section
namespace Sh
open Go Ev
theorem ybsd(g:Gr)(v:Nat)(hv:v<g.ports.length)(u:Int)(hl:(g.ports.getD v []).length<=100000):Returns zG 204 [grV g,.i .i64 v,.i .i64 u] (.i .i64 (yig (g.ports.getD v []) u)):=by
 refine Returns.of (ydgy _ _ ?_);simp only[c204,ydao,ycyb,grV,yu,ybb,ybc,go_sem,zA,zB,zD,↓reduceIte,reduceCtorEq];refine⟨by omega,?_⟩
 obtain⟨ls,hls⟩:∃ls,g.ports.getD v []=ls:=⟨_,rfl⟩;rw[hls]at hl ⊢;refine ybf (σ:=Nat) (fun k=>⟨[(15,.i .i64 k),(13,ybb ls),(14,.i .i64 ls.length),(2,.i .i64 u)],[]⟩) (fun k=>k<=ls.length/\(ls.take k).findIdx? (fun l=>l.1==u)=none) (fun k=>ls.length-k) 0 ⟨zK _,by simp⟩ ?_ ?_
 .refine yh [] [] [] ?_;simp only[ybb,allQ,live,yc,zH,go_sem,zA,↓reduceIte,reduceCtorEq]
 .intro k ⟨hk,hno⟩;simp only[ycvi,ycnd,ycss,ydat,ycxw,ycnf,ybb,yx,splice,go_sem,zA,zB,zC,zD,↓reduceIte,reduceCtorEq];refine⟨fun hlt=>⟨by omega,fun he=>?_,fun he=>⟨ikw (by omega) (by omega),?_⟩⟩,fun hlt=>?_⟩
  .have hlt:k<ls.length:=by omega
   rw[getD_at hlt]at he;rw[ywh ls u k hlt he hno]
  .have hlt:k<ls.length:=by omega
   rw[getD_at hlt]at he;refine yj (k+1) ⟨by omega,ybem ls u k hlt he hno⟩ (by omega) ?_
   refine yh [] [] [] ?_;simp only[allQ,live,yc,yx,go_sem,zA,↓reduceIte,reduceCtorEq];simp
  .obtain rfl:k=ls.length:=by omega
   rw[ybhz ls u hno]
theorem ybqy{ids:List Int}{k:Nat}(h:k<ids.length):(ids.take (k+1)).foldl max 0=max ((ids.take k).foldl max 0) (ids.getD k 0):=by
 rw[ybse ids k h,getD_at h]
theorem ybeg(p:ProgR){g:Gr}(hg:ybg g):Returns zG 167 [.ag (ymw p),grV g] (.rf (ygs p g)):=by
 refine Returns.of (ydgv _ _ ?_);have h24:=hg.2.1;have hid:=hg.2.2.1;obtain⟨n,hn⟩:∃n,g.ports.length=n:=⟨_,rfl⟩;rw[hn]at h24 hid;simp only[c167,ycyz,ycti,ycvq,grV,yu,ybb,ybc,ymw,splice,hn,go_sem,zA,zB,zC,zD,↓reduceIte,reduceCtorEq];refine⟨by omega,?_⟩
 refine ybf (σ:=Nat) (fun k=>⟨[(21,.i .i64 k),(19,yu g.ports),(20,.i .i64 n),(3,.pt (3,0) 0 0),(5,.pt (17,0) 0 0)],
  [(3,.one (some ⟨27,true,2,1,fun _=>[ybc g.ids,yu g.ports]⟩)),(17,.one (some ⟨235,true,7,1,fun _=>[.a (.string p.name),yfc p.vars,ydh p.rules,ybc g.ids,yu g.ports,.i .i64 ((g.ids.take k).foldl max 0),.os (15,0) 0 n true]⟩)),
   (15,.one (some ⟨22,false,1,n,fun i=>[if i<k then ybc (yit g i)else .a (.slice none 0 0)]⟩))]⟩) (fun k=>k<=n) (fun k=>n-k) 0 (zK _) ?_ ?_
 .refine yh [] [] [] ?_;simp only[yu,ybb,ybc,hn,allQ,live,yc,yx,zH,go_sem,zA,zD,↓reduceIte,reduceCtorEq];refine⟨fun i _=>by simp,fun i _=>?_⟩
  rw[if_neg (by omega)]
  simp only[yc,go_sem]
 .intro k hk;simp only[ycqu,ycmm,ycoj,ycsr,yu,ybb,ybc,splice,hn,go_sem,zA,zB,zC,↓reduceIte,reduceCtorEq];refine⟨fun hlt=>⟨by omega,by omega,by decide,?_⟩,fun hlt=>?_⟩
  .have hk':k<n:=by omega
   obtain⟨ls,hls⟩:∃ls,g.ports.getD k []=ls:=⟨_,rfl⟩;have hdeg:=hg.deg_lt (v:=k);rw[hls]at hdeg;rw[hls]
   have hback:∀j,j<ls.length->(yit g k).getD j 0=yig (g.ports.getD (ls.getD j (0,0)).1.toNat []) k:=fun j hj=>by
    unfold yit;rw[hls];simp[zAG,hj]
   have hbl:(yit g k).length=ls.length:=by unfold yit;rw[hls,zAP]
   refine ybf (σ:=Nat) (fun j=>⟨[(41,.i .i64 j),(39,ybb ls),(40,.i .i64 ls.length),(6,.i .i64 k),(21,.i .i64 k),(19,yu g.ports),(20,.i .i64 n),(3,.pt (3,0) 0 0),(5,.pt (17,0) 0 0)],
    [(3,.one (some ⟨27,true,2,1,fun _=>[ybc g.ids,yu g.ports]⟩)),(17,.one (some ⟨235,true,7,1,fun _=>[.a (.string p.name),yfc p.vars,ydh p.rules,ybc g.ids,yu g.ports,.i .i64 ((g.ids.take (k+1)).foldl max 0),.os (15,0) 0 n true]⟩)),
     (15,.one (some ⟨22,false,1,n,fun i=>[if i<k then ybc (yit g i)else if i=k then .os (100,0) 0 j true else .a (.slice none 0 0)]⟩)),
     (100,.one (some ⟨3,false,1,j,fun q=>[.i .i64 ((yit g k).getD q 0)]⟩))]⟩) (fun j=>j<=ls.length) (fun j=>ls.length-j) 0 (zK _) ?_ ?_
   .refine yh [] [100] [] ?_;simp only[yu,ybb,ybc,hn,ybqy (show k<g.ids.length by omega),allQ,live,yc,zH,go_sem,zA,zD,Nat.reduceBEq,↓reduceIte,reduceCtorEq]
    intro i hi
    by_cases q1:i<k
    .simp only[if_pos q1];simp only[yc,go_sem,reduceCtorEq]
    .by_cases q2:i=k
     .simp only[if_neg q1,if_pos q2];simp only[live,go_sem,zA,↓reduceIte];simp
     .simp only[if_neg q1,if_neg q2];simp only[yc,go_sem,reduceCtorEq]
   .intro j hj;simp only[ycsa,yczz,ycuw,ycee,ybzx,yu,ybb,ybc,splice,hn,go_sem,zA,zB,zC,zD,↓reduceIte,reduceCtorEq]
    have hP:=fun hlt:j<ls.length=>ybsd g (ls.getD j (0,0)).1.toNat (by
     have:=hg.ybt (v:=k) (p:=j) (by omega) (by rw[hls];omega)
     unfold ybt at this;rw[hls]at this;omega) (k:Int) (by have:=hg.deg_lt (v:=(ls.getD j (0,0)).1.toNat);omega)
    have hto:j<ls.length->((ls.getD j (0,0)).1.toNat:Int)=(ls.getD j (0,0)).1:=fun hlt=>by
     have:=hg.ybt (v:=k) (p:=j) (by omega) (by rw[hls];omega)
     unfold ybt at this;rw[hls]at this;omega
    refine⟨fun hlt=>⟨by omega,by omega,by omega,?_⟩,fun hlt=>?_⟩
    .have hj':j<ls.length:=by omega
     have hP:=hP hj';rw[hto hj']at hP;simp only[grV,yu,ybb,ybc,hn]at hP;refine hP.use ?_;simp only[ybh,splice,go_sem,zA,zB,zC,zD,↓reduceIte,reduceCtorEq];refine⟨by decide,by omega,by decide,by omega,by omega,by decide,ikw (by omega) (by omega),?_⟩
     refine yj (j+1) (by omega) (by omega) ?_
     refine yh [(100,fun _=>(63,0))] [] [] ?_;simp only[allQ,live,yc,yx,go_sem,zA,zD,↓reduceIte,reduceCtorEq];refine⟨by omega,fun i hi=>?_,fun i hi=>?_⟩
     .by_cases q2:i=k
      .simp only[if_pos q2,if_neg (show ¬i<k by omega)]
       simp only[live,yc,go_sem,zA,↓reduceIte,reduceCtorEq]
      .simp only[if_neg q2]
       by_cases q1:i<k
       .simp only[if_pos q1];simp only[live,yc,go_sem,reduceCtorEq]
       .simp only[if_neg q1];simp only[live,yc,go_sem,reduceCtorEq]
     .by_cases q2:i<j
      .simp only[if_pos q2];simp only[live,yc,go_sem,reduceCtorEq]
      .obtain rfl:i=j:=by omega
       simp only[if_neg q2,Nat.sub_self,Nat.zero_mul];simp only[live,yx,go_sem,reduceCtorEq];rw[hback i hj']
    .obtain rfl:j=ls.length:=by omega
     refine⟨ikw (by omega) (by omega),?_⟩
     refine yj (k+1) (by omega) (by omega) ?_
     refine yh [] [] [(100,0)] ?_;simp only[allQ,live,yc,yx,go_sem,zA,zC,zD,↓reduceIte,reduceCtorEq];refine⟨by omega,fun i hi=>?_⟩
     by_cases q1:i<k
     .simp only[if_pos q1,if_pos (show i<k+1 by omega)]
      simp only[yc,go_sem]
     .by_cases q2:i=k
      .simp only[if_neg q1,if_pos q2,if_pos (show i<k+1 by omega)]
       subst q2;simp only[hbl,yc,go_sem,zA,↓reduceIte]
      .simp only[if_neg q1,if_neg q2,if_neg (show ¬i<k+1 by omega)]
       simp only[yc,go_sem]
  .obtain rfl:k=n:=by omega
   simp only[ybzt,go_sem,zA,zB,zC,↓reduceIte,reduceCtorEq];refine⟨fun q hq=>by simp only[if_pos hq];simp only[go_sem],?_⟩
   refine ycxx ?_ (by simp only[ygs,go_sem])
   simp only[SimL,ygs,ybc,yu,ybb,yed,hn,yc,true_and,and_true];refine⟨?_,?_⟩
   .rw[yx];refine⟨rfl,?_⟩;unfold ybte;rw[zN (by omega)]
   .refine ydp fun q hq=>?_;simp only[if_pos hq];simp only[SimL,yc,go_sem]
end Sh
end
section
def ymn(f:Nat->Bool):Nat->Nat
 |0=>0
 |n+1=>if f n then ymn f n|||2^n else ymn f n
theorem yod(f:Nat->Bool):∀(n i:Nat),(ymn f n).testBit i=(decide (i<n)&&f i)
 |0,i=>by simp[ymn]
 | n + 1,i=>by
   unfold ymn;have ih:=yod f n i
   by_cases h:f n=true
   .rw[if_pos h,Nat.testBit_or,ih,Nat.testBit_two_pow]
    by_cases e:n=i
    .subst e;simp[h]
    .have:(i<n+1)=(i<n):=propext (by omega)
     simp[e,this]
   .rw[if_neg h,ih]
    by_cases e:n=i
    .subst e;simp[h]
    .have:(i<n+1)=(i<n):=propext (by omega)
     simp[this]
theorem ybmu(f:Nat->Bool)(n:Nat):ymn f n<2^n:=by
 refine zAE _ fun i hi=>?_;rw[yod];simp;omega
def difB(a b:Nat):Nat:=a ^^^ (a&&&b)
theorem yblm(a b i:Nat):(difB a b).testBit i=(a.testBit i && !(b.testBit i)):=by
 unfold difB;rw[Nat.testBit_xor,Nat.testBit_and];cases a.testBit i<;>cases b.testBit i<;>rfl
theorem ygx(a:Nat):a=0↔∀i,a.testBit i=false:=by
 constructor
 .rintro rfl i;simp
 .intro h;exact zAJ fun i=>by rw[h i];simp
theorem ybuu{a b n:Nat}(h:a<2^n):a&&&b<2^n:=by
 have:=zAQ (n:=a) (m:=b);omega
theorem yuh{a b n:Nat}(h:a<2^n):difB a b<2^n:=by
 refine zAE _ fun i hi=>?_;rw[yblm,zO (zV h (zS (by omega) hi))]
 rfl
structure Cnt where
 steps:Nat
 moves:Nat
 rounds:Nat
 begun:Nat
 pend:Nat
def yfk(s:Nat):Nat->Nat
 |0=>0
 |n+1=>yfk s n+(s.testBit n).toNat
def popP(s:Nat):Nat:=yfk s 32
def ybdq(e:Nat):Cnt:=⟨0,0,0,0,e⟩
def addP(k:Cnt)(chosen after:Nat):Cnt :=
 let p:=difB k.pend chosen&&&after
 ⟨k.steps+1,k.moves+popP chosen,if p=0 then k.rounds+1 else k.rounds,k.rounds+1,if p=0 then after else p⟩
def Cnt.ok(k:Cnt):Prop:=k.rounds<=k.begun/\k.begun<=k.rounds+1/\k.begun<=k.steps/\k.steps<=k.moves/\k.moves<=24*k.steps/\k.pend<2^24
theorem ylk(s:Nat):∀n,yfk s n<=n
 |0=>Nat.le_refl _
 | n+1=>by
   have:=ylk s n;unfold yfk;cases s.testBit n<;>simp[Bool.toNat]<;>omega
theorem yya(s:Nat)(h:s<2^24):∀k,yfk s (24+k)=yfk s 24
 |0=>rfl
 | k+1=>by
   have e:s.testBit (24+k)=false:=zO (zV h (zS (by omega) (by omega)))
   show yfk s (24+k)+(s.testBit (24+k)).toNat=_;rw[yya s h k,e];rfl
theorem ydfd(s:Nat)(h:s<2^24):popP s<=24:=by
 have:=yya s h 8;unfold popP;rw[this];exact ylk s 24
theorem ybbo{s i:Nat}(hs:s.testBit i=true):∀n,i<n->1<=yfk s n
 |0,h=>by omega
 | n+1,h=>by
   unfold yfk
   by_cases e:i=n
   .subst e;rw[hs];simp
   .have:=ybbo hs n (by omega);omega
theorem ybkm(s:Nat)(h:s<2^32)(h0:s≠0):1<=popP s:=by
 refine zU fun hc=>h0 ?_;rw[ygx];intro i;cases hb:s.testBit i with
 |false=>rfl
 | true =>
   exfalso
   have hi:i<32:=by
    refine zU fun hi=>?_;rw[zO (zV h (zS (by omega) (by omega)))]at hb
    cases hb
   exact hc (ybbo hb 32 hi)
structure Sys where
 n:Nat
 en:Conf->Nat
 mv:Conf->Nat->Conf
def Sys.run(S:Sys)(res:Nat->Nat->Nat):List Nat->Conf->Cnt->List (Conf×Cnt)
 |[],_,_=>[]
 | w::ws,c,k=>if S.en c=0 then[]else(let s:=res (S.en c) w
   let d:=S.mv c s
   (d,addP k s (S.en d))::S.run res ws d (addP k s (S.en d)))
def Sys.runs(S:Sys)(res:Nat->Nat->Nat)(ws:List Nat)(c:Conf):List (Conf×Cnt):=(c,ybdq (S.en c))::S.run res ws c (ybdq (S.en c))
def subB(a b:Nat):Prop:=∀i,a.testBit i=true->b.testBit i=true
end
section
structure RuleT where
 name:ByteArray
 guard:Ex
 sets:List (Int×Ex)
structure ProgT where
 name:ByteArray
 vars:List VarR
 rules:List RuleT
instance:Inhabited Ex:=⟨.leaf 0 0⟩
instance:Inhabited RuleT:=⟨⟨.empty,default,[]⟩⟩
def RuleT.raw(r:RuleT):RuleR:=⟨r.name,r.guard.ser,r.sets.map fun s=>⟨s.1,s.2.ser⟩⟩
def ProgT.raw(p:ProgT):ProgR:=⟨p.name,p.vars,p.rules.map RuleT.raw⟩
def RuleT.ok(nv:Nat)(r:RuleT):Bool:=r.guard.ok nv false&&decide (r.guard.ser.length<=1000)&&decide (r.sets.length<=100)&&r.sets.all fun s=>decide (0<=s.1/\s.1<nv)&&s.2.ok nv false&&decide (s.2.ser.length<=1000)
def VarR.ok(x:VarR):Bool:=decide (x.kind=1\/x.kind=2\/x.kind=3)&&decide (0<=x.lo/\x.lo<=4096)&&decide (-4096<=x.hi/\x.hi<=4096)&&decide (0<=x.perNode/\x.perNode<=255)&&decide (0<=x.perID/\x.perID<=255)
def ProgT.ok(p:ProgT):Bool:=decide (1<=p.vars.length/\p.vars.length<=6)&&p.vars.all VarR.ok&&decide (p.rules.length<=12)&&p.rules.all (RuleT.ok p.vars.length)
def yka(g:Gr)(c:Conf)(v:Nat)(r:RuleT):Bool:=ydr g c v r.guard (-1)!=0
def ydy(p:ProgT)(g:Gr)(c:Conf)(v:Nat):Int:=match p.rules.findIdx? (yka g c v)with|some i=>i|none=>-1
def ybm(g:Gr)(v:Nat)(x:VarR):Int×Int :=
 if x.kind=1 then(x.lo,x.hi+x.perNode*(g.ids.length:Int)+x.perID*maxI g.ids)else if x.kind=2 then(0,1)else if x.kind=3 then(-1,((g.ports.getD v []).length:Int)-1)else(0,-1)
def yiz(kind:Int)(b:Int×Int)(x:Int):Int:=if x>=b.1/\x<=b.2 then x else if kind=3 then -1 else if x<b.1 then b.1 else b.2
def yop(p:ProgT)(g:Gr)(c:Conf)(v:Nat)(s0:List Int)(sets:List (Int×Ex)):List Int :=
 sets.foldl (fun s a=>s.set a.1.toNat (yiz (p.vars.getD a.1.toNat default).kind (ybm g v (p.vars.getD a.1.toNat default)) (ydr g c v a.2 (-1)))) s0
def yis(p:ProgT)(g:Gr)(c:Conf)(v:Nat)(r:Nat):List Int:=yop p g c v (c.getD v []) (p.rules.getD r default).sets
def ybj(p:ProgT)(g:Gr)(c:Conf):Nat:=ymn (fun v=>decide (ydy p g c v>=0)) g.ids.length
def ydm(p:ProgT)(g:Gr)(c:Conf)(s:Nat):Conf:=c.zipIdx.map fun q=>if s.testBit q.2 then yis p g c q.2 (ydy p g c q.2).toNat else q.1
def yms(p:ProgT)(g:Gr):Sys:=⟨g.ids.length,ybj p g,ydm p g⟩
def yfs(p:ProgT)(g:Gr)(c:Conf):Bool:=yvy g.ids.length (fun v=>p.vars.map (ybm g v)) c
end
section
namespace Sh
open Go Ev
theorem ydje{g:Gr}(hg:ybg g):0<=maxI g.ids/\maxI g.ids<=255:=by
 have h1:=hg.1;have h2:=hg.2.2.1;rw[ychr (by omega) fun x hx=>(hg.2.2.2.1 x hx).1]
 exact yva hg
theorem ybrl{x:VarR}(h:x.ok=true):(x.kind=1\/x.kind=2\/x.kind=3)/\(0<=x.lo/\x.lo<=4096)/\(-4096<=x.hi/\x.hi<=4096)/\(0<=x.perNode/\x.perNode<=255)/\(0<=x.perID/\x.perID<=255):=by
 unfold VarR.ok at h;simp only[zF,decide_eq_true_eq]at h;obtain⟨⟨⟨⟨a,b⟩,c⟩,d⟩,e⟩:=h;exact⟨a,b,c,d,e⟩
theorem mulN{a b A B:Int}(h1:0<=a)(h2:a<=A)(h3:0<=b)(h4:b<=B):0<=a*b/\a*b<=A*B:=⟨Int.mul_nonneg h1 h3,Int.mul_le_mul h2 h4 h3 (by omega)⟩
theorem ytb{g:Gr}(hg:ybg g){x:VarR}(hx:x.ok=true):(0<=x.perNode*(g.ids.length:Int)/\x.perNode*(g.ids.length:Int)<=255*24)/\(0<=x.perID*maxI g.ids/\x.perID*maxI g.ids<=255*255):=by
 obtain⟨_,_,_,h4,h5⟩:=ybrl hx;have h6:=ydje hg;have h7:=hg.2.1;have h8:=hg.2.2.1;exact⟨mulN h4.1 h4.2 (by omega) (by omega),mulN h5.1 h5.2 h6.1 h6.2⟩
theorem ybke{g:Gr}(hg:ybg g){x:VarR}(hx:x.ok=true)(v:Int):Returns zG 176 [.ag (varC x),grV g,.i .i64 v] (.tp [.i .i64 x.lo,.i .i64 (x.hi+x.perNode*(g.ids.length:Int)+x.perID*maxI g.ids)]):=by
 refine Returns.of (ydjn _ _ ?_);have h1:=hg.1;have h7:=hg.2.1;have h8:=hg.2.2.1;have hM:=ydbr g.ids (by omega) (by omega)
 obtain⟨hb1,hb2⟩:=ytb hg hx;obtain⟨_,_,hv3,_,_⟩:=ybrl hx;simp only[ybc]at hM;simp only[c176,yctb,ycvd,grV,varC,ybc,go_sem,zA,zB,zC,zD,↓reduceIte,reduceCtorEq];refine⟨ikw (by omega) (by omega),ikw (by omega) (by omega),hM.use ?_⟩
 simp only[ybh,go_sem,zA,zB,↓reduceIte,reduceCtorEq];refine⟨ikw (by omega) (by omega),ikw (by omega) (by omega),?_⟩
 exact Sim.refl _
theorem ybjl(g:Gr)(x:VarR)(v:Int):Returns zG 177 [.ag (varC x),grV g,.i .i64 v] (.tp [.i .i64 0,.i .i64 1]):=by
 refine Returns.of (ydjp _ _ ?_);simp only[c177,ycrj,ycpr,grV,varC,go_sem,zA,zB,zD,↓reduceIte,reduceCtorEq];exact Sim.refl _
theorem ybiy{g:Gr}(hg:ybg g)(x:VarR){v:Nat}(hv:v<g.ports.length):Returns zG 178 [.ag (varC x),grV g,.i .i64 v] (.tp [.i .i64 (-1),.i .i64 (((g.ports.getD v []).length:Int)-1)]):=by
 refine Returns.of (ydjl _ _ ?_);have hd:=hg.deg_lt (v:=v);simp only[c178,ycqp,ydba,grV,yu,ybb,varC,go_sem,zA,zB,zD,↓reduceIte,reduceCtorEq];refine⟨by omega,ikw (by omega) (by omega),?_⟩
 exact Sim.refl _
theorem ybyo(kind:Int)(b:Int×Int)(x:Int):Returns zG 170 [.i .i64 kind,.ag [.i .i64 b.1,.i .i64 b.2],.i .i64 x] (.i .i64 (yiz kind b x)):=by
 refine Returns.of (ydiq _ _ ?_);simp only[c170,ycov,ycqn,ycnt,ycmf,ycur,ycpq,ycxz,yczj,yx,yiz,go_sem,zAF,zA,zB,zC,zD,zAT,↓reduceIte,reduceCtorEq];refine⟨by omega,fun h1=>⟨by omega,fun h2=>by rw[if_pos ⟨h1,h2⟩],fun h2=>⟨fun h3=>by rw[if_neg (fun q=>h2 q.2),if_pos h3],fun h3=>⟨by omega,fun h4=>⟨by omega,by rw[if_neg (fun q=>h2 q.2),if_neg h3,if_pos h4]⟩,fun h4=>⟨by omega,by rw[if_neg (fun q=>h2 q.2),if_neg h3,if_neg h4]⟩⟩⟩⟩,fun h1=>⟨fun h3=>by rw[if_neg (fun q=>h1 q.1),if_pos h3],fun h3=>⟨by omega,fun h4=>⟨by omega,by rw[if_neg (fun q=>h1 q.1),if_neg h3,if_pos h4]⟩,fun h4=>⟨by omega,by rw[if_neg (fun q=>h1 q.1),if_neg h3,if_neg h4]⟩⟩⟩⟩
theorem yxr{g:Gr}(hg:ybg g){x:VarR}(hx:x.ok=true){v:Nat}(hv:v<g.ports.length):Returns zG 132 [.ag (varC x),grV g,.i .i64 v] (.tp [.i .i64 (ybm g v x).1,.i .i64 (ybm g v x).2]):=by
 refine Returns.of (ydiv _ _ ?_);have h1:=ybke hg hx v;have h2:=ybjl g x v;have h3:=ybiy hg x hv;obtain⟨hk,_⟩:=ybrl hx;simp only[varC,grV]at h1 h2 h3;simp only[c132,ycxd,ycoo,ycnm,varC,grV,splice,go_sem,zA,zB,zC,zD,↓reduceIte,reduceCtorEq]
 refine ybf (σ:=Nat) (fun k=>⟨[(17,.i .i64 k),(15,.os (14,0) 0 3 true),(16,.i .i64 3),(2,.i .i64 v),(3,.pt (3,0) 0 0),(4,.pt (4,0) 0 0)],
  [(3,.one (some ⟨160,true,6,1,fun _=>varC x⟩)),(4,.one (some ⟨27,true,2,1,fun _=>[ybc g.ids,yu g.ports]⟩)),
   (14,.one (some ⟨210,false,2,3,fun k=>if k=0 then[.i .i64 1,.fn 176 [] []]else if k=1 then[.i .i64 2,.fn 177 [] []]else[.i .i64 3,.fn 178 [] []]⟩))]⟩)
  (fun k=>k<=2/\(1<=k->x.kind≠1)/\(2<=k->x.kind≠2)) (fun k=>3-k) 0 ⟨by omega,by omega,by omega⟩ ?_ ?_
 .refine yh [] [] [] ?_;simp only[varC,allQ,live,yc,yx,zH,go_sem,zA,zD,↓reduceIte,reduceCtorEq];refine⟨rfl,fun i hi=>?_⟩;rcases(show i=0\/i=1\/i=2 by omega)with rfl|rfl|rfl
  .simp only[live,yc,go_sem,↓reduceIte,reduceCtorEq]
  .simp only[if_neg (show ¬(1:Nat)=0 by omega),live,yc,go_sem,↓reduceIte,reduceCtorEq]
  .simp only[if_neg (show ¬(2:Nat)=0 by omega),if_neg (show ¬(2:Nat)=1 by omega),live,yc,go_sem,zA,↓reduceIte,reduceCtorEq]
 .rintro k ⟨hk2,hk3,hk4⟩;rcases(show k=0\/k=1\/k=2 by omega)with rfl|rfl|rfl
  .simp only[ybnj,ybna,ybod,ybmw,ybkh,ybnc,varC,splice,go_sem,zA,zB,zC,zD,↓reduceIte,reduceCtorEq];refine⟨fun _=>⟨by omega,fun he=>h1.use ?_,fun he=>⟨ikw (by omega) (by omega),?_⟩⟩,fun h=>by omega⟩
   .simp only[ybh,go_sem,zA,zB,↓reduceIte,reduceCtorEq];have e:ybm g v x=(x.lo,x.hi+x.perNode*(g.ids.length:Int)+x.perID*maxI g.ids):=by unfold ybm;rw[if_pos he.symm]
    rw[e];exact Sim.refl _
   .refine yj 1 ⟨by omega,fun _ q=>he q.symm,by omega⟩ (by omega) ?_
    refine yh [] [] [] ?_;simp only[allQ,live,yc,yx,zH,go_sem,zA,zD,↓reduceIte,reduceCtorEq];refine⟨by omega,fun i hi=>?_⟩
    rcases(show i=0\/i=1\/i=2 by omega)with rfl|rfl|rfl
    .simp only[live,yc,go_sem,↓reduceIte,reduceCtorEq]
    .simp only[if_neg (show ¬(1:Nat)=0 by omega),live,yc,go_sem,↓reduceIte,reduceCtorEq]
    .simp only[if_neg (show ¬(2:Nat)=0 by omega),if_neg (show ¬(2:Nat)=1 by omega),live,yc,go_sem,zA,↓reduceIte,reduceCtorEq]
  .simp only[ybnj,ybna,ybod,ybmw,ybkh,ybnc,varC,splice,go_sem,zA,zB,zC,zD,↓reduceIte,reduceCtorEq];refine⟨fun _=>⟨by omega,fun he=>h2.use ?_,fun he=>⟨ikw (by omega) (by omega),?_⟩⟩,fun h=>by omega⟩
   .simp only[ybh,go_sem,zA,zB,↓reduceIte,reduceCtorEq];have e:ybm g v x=(0,1):=by unfold ybm;rw[if_neg (by omega),if_pos he.symm]
    rw[e];exact Sim.refl _
   .refine yj 2 ⟨by omega,fun _=>by omega,fun _ q=>he q.symm⟩ (by omega) ?_
    refine yh [] [] [] ?_;simp only[allQ,live,yc,yx,go_sem,zA,zD,↓reduceIte,reduceCtorEq];refine⟨by omega,fun i hi=>?_⟩
    rcases(show i=0\/i=1\/i=2 by omega)with rfl|rfl|rfl
    .simp only[live,yc,go_sem,↓reduceIte,reduceCtorEq]
    .simp only[if_neg (show ¬(1:Nat)=0 by omega),live,yc,go_sem,↓reduceIte,reduceCtorEq]
    .simp only[if_neg (show ¬(2:Nat)=0 by omega),if_neg (show ¬(2:Nat)=1 by omega),live,yc,go_sem,zA,↓reduceIte,reduceCtorEq]
  .simp only[ybnj,ybna,ybod,ybmw,ybkh,ybnc,varC,splice,go_sem,zA,zB,zC,zD,↓reduceIte,reduceCtorEq];refine⟨fun _=>⟨by omega,fun he=>h3.use ?_,fun he=>by omega⟩,fun h=>by omega⟩
   simp only[ybh,go_sem,zA,zB,↓reduceIte,reduceCtorEq];have e:ybm g v x=(-1,((g.ports.getD v []).length:Int)-1):=by unfold ybm;rw[if_neg (by omega),if_neg (by omega),if_pos he.symm]
   rw[e];exact Sim.refl _
def ywk(n:Nat)(vars:List VarR)(b:Nat->VarR->Int×Int):SV:=.sl 1 n (fun v=>[.sl 2 vars.length (fun i=>[.i .i64 (b v (vars.getD i default)).1,.i .i64 (b v (vars.getD i default)).2])])
def rowT(vars:List VarR)(b:VarR->Int×Int):SV:=.sl 2 vars.length (fun i=>[.i .i64 (b (vars.getD i default)).1,.i .i64 (b (vars.getD i default)).2])
theorem ybbl(p:ProgR){g:Gr}(hg:ybg g)(hp:p.vars.all VarR.ok=true)(hl:p.vars.length<=6):Returns zG 63 [.ag (ymw p),grV g] (ywk g.ids.length p.vars (ybm g)):=by
 refine Returns.of (yduc _ _ ?_);have h24:=hg.2.1;have hid:=hg.2.2.1;obtain⟨n,hn⟩:∃n,g.ids.length=n:=⟨_,rfl⟩;obtain⟨nv,hnv⟩:∃k,p.vars.length=k:=⟨_,rfl⟩;rw[hn];rw[hnv]at hl;simp only[c63,ydya,yduk,ydnq,grV,ybc,ymw,hn,go_sem,zA,zB,zC,zD,↓reduceIte,reduceCtorEq];refine⟨by omega,?_⟩
 refine ybf (σ:=Nat) (fun k=>⟨[(15,.i .i64 k),(14,.i .i64 n),(5,.os (12,0) 0 n true),(2,.pt (2,0) 0 0),(3,.pt (3,0) 0 0)],
  [(2,.one (some ⟨32,true,3,1,fun _=>ymw p⟩)),(3,.one (some ⟨27,true,2,1,fun _=>[ybc g.ids,yu g.ports]⟩)),
   (12,.one (some ⟨92,false,1,n,fun i=>[if i<k then rowT p.vars (ybm g i)else .a (.slice none 0 0)]⟩))]⟩) (fun k=>k<=n) (fun k=>n-k) 0 (zK _) ?_ ?_
 .refine yh [] [] [] ?_;simp only[ymw,ybc,hn,allQ,live,yc,zH,go_sem,zA,zD,↓reduceIte,reduceCtorEq];intro i _;rw[if_neg (by omega)]
  simp only[yc,go_sem]
 .intro k hk;simp only[ydoa,ydym,ydwq,ydkt,ymw,yfc,splice,hnv,go_sem,zA,zB,zC,zD,↓reduceIte,reduceCtorEq];refine⟨fun hlt=>⟨by omega,by omega,by omega,?_⟩,fun hlt=>?_⟩
  .have hk':k<n:=by omega
   let b:Nat->Int×Int:=fun i=>ybm g k (p.vars.getD i default)
   refine ybf (σ:=Nat) (fun j=>⟨[(28,.i .i64 j),(26,yfc p.vars),(27,.i .i64 nv),(6,.i .i64 k),(15,.i .i64 k),(14,.i .i64 n),(5,.os (12,0) 0 n true),(2,.pt (2,0) 0 0),(3,.pt (3,0) 0 0)],
    [(2,.one (some ⟨32,true,3,1,fun _=>ymw p⟩)),(3,.one (some ⟨27,true,2,1,fun _=>[ybc g.ids,yu g.ports]⟩)),
     (12,.one (some ⟨92,false,1,n,fun i=>[if i<k then rowT p.vars (ybm g i)else if i=k then .os (23,0) 0 nv true else .a (.slice none 0 0)]⟩)),
     (23,.one (some ⟨91,false,2,nv,fun i=>[.i .i64 (if i<j then(b i).1 else 0),.i .i64 (if i<j then(b i).2 else 0)]⟩))]⟩) (fun j=>j<=nv) (fun j=>nv-j) 0 (zK _) ?_ ?_
   .refine yh [] [] [] ?_;simp only[ymw,yfc,hnv,allQ,live,yc,yx,zH,go_sem,zA,zD,↓reduceIte,reduceCtorEq];refine⟨fun i hi=>?_,fun i hi=>?_⟩
    .by_cases q2:i=k
     .simp only[if_pos q2,if_neg (show ¬i<k by omega)]
      simp only[live,yc,go_sem,zA,↓reduceIte,reduceCtorEq]
     .simp only[if_neg q2]
      by_cases q1:i<k
      .simp only[if_pos q1];simp only[rowT,live,yc,go_sem,reduceCtorEq]
      .simp only[if_neg q1];simp only[live,yc,go_sem,reduceCtorEq]
    .simp only[if_neg (zAO i),and_self]
   .intro j hj;simp only[ydol,ydrs,ydxg,ycot,ycxg,ymw,yfc,varC,splice,hnv,go_sem,zA,zB,zD,↓reduceIte,reduceCtorEq];refine⟨fun hlt=>?_,fun hlt=>?_⟩
    .have hj':j<nv:=by omega
     have hB:=yxr hg (x:=p.vars.getD j default) (by
      rw[getD_at (by omega)]
      exact List.all_eq_true.1 hp _ (zM _)) (v:=k) (by omega)
     simp only[varC,grV]at hB;refine⟨by omega,by omega,by omega,by omega,by omega,hB.use ?_⟩
     simp only[ybh,splice,go_sem,zAF,zA,zB,zC,zAT,↓reduceIte,reduceCtorEq];refine⟨by omega,by omega,by omega,by decide,by omega,by omega,by omega,by decide,ikw (by omega) (by omega),?_⟩
     refine yj (j+1) (by omega) (by omega) ?_
     refine yh [] [] [] ?_;simp only[allQ,live,yc,yx,go_sem,zA,zD,↓reduceIte,reduceCtorEq];refine⟨by omega,fun i hi=>?_,fun i hi=>?_⟩
     .by_cases q1:i<k
      .simp only[if_pos q1];simp only[rowT,yc,go_sem]
      .simp only[if_neg q1]
       by_cases q2:i=k
       .simp only[if_pos q2];simp only[live,yc,go_sem,zA,↓reduceIte]
       .simp only[if_neg q2];simp only[yc,go_sem]
     .by_cases q2:i=j
      .subst q2;simp only[if_pos (Nat.lt_succ_self i),↓reduceIte];simp only[live,yx,go_sem,reduceCtorEq];exact⟨rfl,rfl⟩
      .simp only[if_neg q2]
       by_cases q1:i<j
       .simp only[if_pos q1,if_pos (show i<j+1 by omega)]
        simp only[live,yc,go_sem,reduceCtorEq]
       .simp only[if_neg q1,if_neg (show ¬i<j+1 by omega)]
        simp only[live,yc,go_sem,reduceCtorEq]
    .obtain rfl:j=nv:=by omega
     refine⟨ikw (by omega) (by omega),?_⟩
     refine yj (k+1) (by omega) (by omega) ?_
     refine yh [] [] [(23,0)] ?_;simp only[allQ,live,yc,yx,go_sem,zA,zC,zD,↓reduceIte,reduceCtorEq];refine⟨by omega,fun i hi=>?_⟩
     by_cases q1:i<k
     .simp only[if_pos q1,if_pos (show i<k+1 by omega)]
      simp only[rowT,yc,go_sem]
     .by_cases q2:i=k
      .simp only[if_neg q1,if_pos q2,if_pos (show i<k+1 by omega)]
       subst q2;simp only[rowT,hnv,go_sem,zA,↓reduceIte];refine ydp fun q hq=>?_;simp only[if_pos hq];simp only[SimL,go_sem];exact⟨Sim.refl _,Sim.refl _⟩
      .simp only[if_neg q1,if_neg q2,if_neg (show ¬i<k+1 by omega)]
       simp only[yc,go_sem]
  .obtain rfl:k=n:=by omega
   simp only[ycqy,go_sem,zA,zB,↓reduceIte,reduceCtorEq];refine⟨fun q hq=>by simp only[if_pos hq];simp only[rowT,go_sem],?_⟩
   refine ydp fun q hq=>?_;simp only[if_pos hq];simp only[SimL,yc,rowT,hnv,go_sem]
end Sh
end
section
namespace Sh
open Go Ev
end Sh
end
section
namespace Sh
open Go Ev
theorem yil(p:ProgR){g:Gr}(hg:ybg g){nv:Nat}{c:Conf}(hc:ConfIn g.ports.length nv c){v:Nat}(hv:v<g.ports.length)(e:List Tm)(hl:e.length<=1000):∀x:Ex,ycbd p g nv c v e x
 | .leaf op arg=>by
   intro bnd port at_ rest ho hp hpi he;obtain⟨d1,d2,d3⟩:=yfq (show e.drop at_=(op,arg)::rest from he)
   have hL:=yckh p hg hc hv e ho port hp;have hr:=ho;simp only[Ex.ok,zF,decide_eq_true_eq]at hr;simp only[yjv,ybb]at hL;refine Returns.of (yun _ _ ?_);simp only[c205,yxn,ywy,yws,ywt,ywl,ywp,yxw,yxi,ywg,yyc,ypu,ypm,ypx,ypk,ypq,yqc,yot,ypv,ypw,yjv,ybb,d2,splice,go_sem,zA,zB,zC,zD,↓reduceIte,reduceCtorEq];refine⟨by omega,fun h=>hL.use ?_,fun h=>by omega⟩
   simp only[ybh,go_sem,zA,zB,↓reduceIte,reduceCtorEq];refine⟨ikw (by omega) (by omega),?_⟩
   exact Sim.refl _
 | .un op a=>by
   intro bnd port at_ rest ho hp hpi he;obtain⟨d1,d2,d3⟩:=yfq (show e.drop at_=(op,0)::(a.ser++rest)from he)
   have hr:=ho;simp only[Ex.ok,zF,decide_eq_true_eq]at hr;have hV:=yil p hg hc hv e hl a bnd port (at_+1) rest hr.2 hp hpi d3;rw[show((at_+1:Nat):Int)=(at_:Int)+1 by omega]at hV
   have hU:=ybys op (ydr g c v a port) (yic hg rfl hc hv a hr.2 hp hpi);simp only[yjv,ybb]at hV;refine Returns.of (yun _ _ ?_);simp only[c205,yxn,ywy,yws,ywt,ywl,ywp,yxw,yxi,ywg,yyc,ypu,ypm,ypx,ypk,ypq,yqc,yot,ypv,ypw,yjv,ybb,d2,splice,go_sem,zA,zB,zC,zD,↓reduceIte,reduceCtorEq];refine⟨by omega,fun h=>by omega,fun h=>⟨fun h=>⟨ikw (by omega) (by omega),hV.use ?_⟩,fun h=>by omega⟩⟩
   simp only[ybh,go_sem,zA,zB,zC,↓reduceIte,reduceCtorEq];refine hU.use ?_;simp only[go_sem];rw[show at_+(Ex.un op a).ser.length=at_+1+a.ser.length by simp[Ex.ser];omega]
   exact Sim.refl _
 | .agg op a=>by
   intro bnd port at_ rest ho hp hpi he;obtain⟨d1,d2,d3⟩:=yfq (show e.drop at_=(op,0)::(a.ser++rest)from he)
   have hr:=ho;simp only[Ex.ok,zF,decide_eq_true_eq]at hr;have ho2:(Ex.agg op a).ok nv true=true:=by simp only[Ex.ok,zF,decide_eq_true_eq];exact hr
   have hA:=yzx p hg hc hv e hl ho2 (yil p hg hc hv e hl a) at_ rest he;simp only[yjv,ybb]at hA;refine Returns.of (yun _ _ ?_);simp only[c205,yxn,ywy,yws,ywt,ywl,ywp,yxw,yxi,ywg,yyc,ypu,ypm,ypx,ypk,ypq,yqc,yot,ypv,ypw,yjv,ybb,d2,splice,go_sem,zA,zB,zC,zD,↓reduceIte,reduceCtorEq];refine⟨by omega,fun h=>by omega,fun h=>⟨fun h=>by omega,fun h=>⟨fun h=>hA.use ?_,fun h=>by omega⟩⟩⟩
   simp only[ybh,go_sem,zA,zB,↓reduceIte,reduceCtorEq];exact Sim.refl _
 | .bin op a b=>by
   intro bnd port at_ rest ho hp hpi he;obtain⟨d1,d2,d3⟩:=yfq (show e.drop at_=(op,0)::((a.ser++b.ser)++rest)from he)
   have hr:=ho;simp only[Ex.ok,zF,decide_eq_true_eq]at hr;rw[zAB]at d3
   have hfit:at_+1+a.ser.length<=e.length:=by
    have:=congrArg zAH d3;simp at this;omega
   have hV1:=yil p hg hc hv e hl a bnd port (at_+1) _ hr.1.2 hp hpi d3;have hV2:=yil p hg hc hv e hl b bnd port (at_+1+a.ser.length) _ hr.2 hp hpi (ysd d3);rw[show((at_+1:Nat):Int)=(at_:Int)+1 by omega]at hV1
   have hB:=ybpa op (ydr g c v a port) (ydr g c v b port) (yic hg rfl hc hv a hr.1.2 hp hpi) (yic hg rfl hc hv b hr.2 hp hpi);simp only[yjv,ybb]at hV1 hV2;refine Returns.of (yun _ _ ?_);simp only[c205,yxn,ywy,yws,ywt,ywl,ywp,yxw,yxi,ywg,yyc,ypu,ypm,ypx,ypk,ypq,yqc,yot,ypv,ypw,yjv,ybb,d2,splice,go_sem,zA,zB,zC,zD,↓reduceIte,reduceCtorEq];refine⟨by omega,fun h=>by omega,fun h=>⟨fun h=>by omega,fun h=>⟨fun h=>by omega,fun h=>⟨fun h=>⟨ikw (by omega) (by omega),hV1.use ?_⟩,fun h=>by omega⟩⟩⟩⟩
   simp only[ybh,go_sem,zA,zB,↓reduceIte,reduceCtorEq];refine hV2.use ?_;simp only[go_sem,zA,zB,zC,↓reduceIte];refine hB.use ?_;simp only[go_sem];rw[show at_+(Ex.bin op a b).ser.length=at_+1+a.ser.length+b.ser.length by simp[Ex.ser];omega]
   exact Sim.refl _
 | .ite x a b=>by
   intro bnd port at_ rest ho hp hpi he;obtain⟨d1,d2,d3⟩:=yfq (show e.drop at_=(43,0)::((x.ser++(a.ser++b.ser))++rest)from he)
   have hr:=ho;simp only[Ex.ok,zF]at hr;rw[zAB,zAB]at d3
   have hfit:at_+1+x.ser.length+a.ser.length<=e.length:=by
    have:=congrArg zAH d3;simp at this;omega
   have hV1:=yil p hg hc hv e hl x bnd port (at_+1) _ hr.1.1 hp hpi d3;have hV2:=yil p hg hc hv e hl a bnd port (at_+1+x.ser.length) _ hr.1.2 hp hpi (ysd d3);have hV3:=yil p hg hc hv e hl b bnd port (at_+1+x.ser.length+a.ser.length) _ hr.2 hp hpi (ysd (ysd d3));rw[show((at_+1:Nat):Int)=(at_:Int)+1 by omega]at hV1
   simp only[yjv,ybb]at hV1 hV2 hV3;refine Returns.of (yun _ _ ?_);simp only[c205,yxn,ywy,yws,ywt,ywl,ywp,yxw,yxi,ywg,yyc,ypu,ypm,ypx,ypk,ypq,yqc,yot,ypv,ypw,yjv,ybb,d2,splice,go_sem,zA,zB,zC,zD,↓reduceIte,reduceCtorEq];refine⟨by omega,fun h=>by omega,fun h=>⟨fun h=>by omega,fun h=>⟨fun h=>by omega,fun h=>⟨fun h=>by omega,fun h=>⟨ikw (by omega) (by omega),hV1.use ?_⟩⟩⟩⟩⟩
   simp only[ybh,go_sem,zA,zB,↓reduceIte,reduceCtorEq];refine hV2.use ?_;simp only[go_sem,zA,↓reduceIte,reduceCtorEq];refine hV3.use ?_;simp only[go_sem,zA,zB,↓reduceIte,reduceCtorEq];rw[show at_+(Ex.ite x a b).ser.length=at_+1+x.ser.length+a.ser.length+b.ser.length by simp[Ex.ser];omega]
   refine⟨fun h0=>?_,fun h0=>?_⟩
   .show Sim _ (.tp [.i .i64 (if _ then _ else _),_])
    rw[if_pos h0];exact Sim.refl _
   .show Sim _ (.tp [.i .i64 (if _ then _ else _),_])
    rw[if_neg (not_not_intro h0)];exact Sim.refl _
theorem ybfr(p:ProgR){g:Gr}(hg:ybg g){nv:Nat}{c:Conf}(hc:ConfIn g.ports.length nv c){v:Nat}(hv:v<g.ports.length)(x:Ex)(hx:x.ok nv false=true)(hl:x.ser.length<=1000) :
 Returns zG 169 [.rf (ygs p g),ycz c,.i .i64 v,ybb x.ser] (.i .i64 (ydr g c v x (-1))):=by
 have hV:=yil p hg hc hv x.ser hl x false (-1) 0 [] hx (fun q=>by cases q) (by unfold InB;omega) (by simp)
 refine Returns.of (ydjj _ _ ?_);simp only[yjv,ygs,ycz,ybc,ybb,yu,yed,zH]at hV;simp only[c169,yctp,ycrm,ycun,ycxv,ygs,ycz,ybc,ybb,yu,yed,splice,go_sem,zA,zB,zC,zD,↓reduceIte,reduceCtorEq];refine .inl (hV.use ?_);simp only[ybh,yx,go_sem,zA,zB,↓reduceIte,reduceCtorEq]
end Sh
end
section
theorem ykz{a:Nat}(h:a<2^32):IntKind.wrap .u32 (a:Int)=a:=by
 unfold IntKind.wrap;simp[IntKind.bits,IntKind.signed];omega
theorem u32_and{a b:Nat}(ha:a<2^32)(hb:b<2^32):IntKind.wrap .u32 (((zJ (IntKind.bits .u32) (a:Int))&&&zJ (IntKind.bits .u32) (b:Int)).toNat:Int)=((a&&&b:Nat):Int):=by
 show IntKind.wrap .u32 (((zJ 32 (a:Int))&&&zJ 32 (b:Int)).toNat:Int)=_;rw[zL,zL,BitVec.toNat_and,zW,zW,zY ha,zY hb];exact ykz (Nat.lt_of_le_of_lt zAQ ha)
theorem u32_or{a b:Nat}(ha:a<2^32)(hb:b<2^32):IntKind.wrap .u32 (((zJ (IntKind.bits .u32) (a:Int))|||zJ (IntKind.bits .u32) (b:Int)).toNat:Int)=((a|||b:Nat):Int):=by
 show IntKind.wrap .u32 (((zJ 32 (a:Int))|||zJ 32 (b:Int)).toNat:Int)=_;rw[zL,zL,BitVec.toNat_or,zW,zW,zY ha,zY hb];exact ykz (Nat.or_lt_two_pow ha hb)
theorem u32_andNot{a b:Nat}(ha:a<2^32)(hb:b<2^32):IntKind.wrap .u32 (((zJ (IntKind.bits .u32) (a:Int)) &&& ~~~zJ (IntKind.bits .u32) (b:Int)).toNat:Int)=((difB a b:Nat):Int):=by
 show IntKind.wrap .u32 (((zJ 32 (a:Int)) &&& ~~~zJ 32 (b:Int)).toNat:Int)=_
 have e:((zJ 32 (a:Int)) &&& ~~~zJ 32 (b:Int)).toNat=difB a b:=by
  rw[zL,zL];refine zAJ fun i=>?_;rw[yblm,BitVec.testBit_toNat,BitVec.getLsbD_and,BitVec.getLsbD_not,zAK,zAK]
  by_cases hi:i<32
  .simp[hi]
  .rw[zO (zV ha (zS (by omega) (by omega)))]
   simp
 rw[e];exact ykz (yuh ha)
theorem u32_neg{a:Nat}(h0:0<a)(ha:a<2^32):IntKind.wrap .u32 (0-(a:Int))=((2^32-a:Nat):Int):=by
 unfold IntKind.wrap;simp[IntKind.bits,IntKind.signed];omega
theorem ybnd{v:Nat}(hv:v<32):IntKind.wrap .u32 (1*2^(v:Int).toNat)=((2^v:Nat):Int):=by
 have h:2^v<2^32:=Nat.pow_lt_pow_right (by omega) hv
 have:=ykz h;rw[zAL,Int.one_mul];rw[<-this]
 norm_cast
theorem ydbq{a v:Nat}:(a:Int).fdiv (2^(v:Int).toNat)=((a>>>v:Nat):Int):=by
 rw[zAL,Nat.shiftRight_eq_div_pow];rw[Int.fdiv_eq_ediv_of_nonneg _ (Int.pow_nonneg (by omega))]
 simp
end
section
namespace Sh
open Go Ev
def yje(p:ProgR)(g:Gr):List SV:=[.a (.string p.name),yfc p.vars,ydh p.rules,.rf (ygs p g),ywk g.ids.length p.vars (ybm g)]
theorem ybfg(p:ProgR){g:Gr}(hg:ybg g)(hp:p.vars.all VarR.ok=true)(hl:p.vars.length<=6):Returns zG 123 [.ag (ymw p),grV g] (.rf (yje p g)):=by
 refine Returns.of (ydgd _ _ ?_);have hS:=ybeg p hg;have hT:=ybbl p hg hp hl;simp only[ymw,grV]at hS hT;simp only[c123,ycxp,ycsx,ymw,grV,go_sem,zA,zB,zD,↓reduceIte,reduceCtorEq];refine hS.use ?_;simp only[ybh,go_sem,zA,zB,zC,zD,↓reduceIte,reduceCtorEq];refine hT.use ?_;simp only[ywk,yje,go_sem,zA,zB,zC,↓reduceIte];refine⟨by decide,by decide,Sim.refl _⟩
theorem ybvf(p:ProgT){g:Gr}(hg:ybg g)(hp:p.ok=true){c:Conf}(hc:ConfIn g.ports.length p.vars.length c){v:Nat}(hv:v<g.ports.length){r:Nat}(hr:r<p.rules.length) :
 Returns zG 168 [.rf (ygs p.raw g),ycz c,.i .i64 v,.i .i64 r] (.b (yka g c v (p.rules.getD r default))):=by
 refine Returns.of (ydik _ _ ?_);obtain⟨R,hR⟩:∃R,p.rules.getD r default=R:=⟨_,rfl⟩
 have hok:R.ok p.vars.length=true:=by
  unfold ProgT.ok at hp;simp only[zF]at hp;rw[<-hR,getD_at hr];exact List.all_eq_true.1 hp.2 _ (zM _)
 unfold RuleT.ok at hok;simp only[zF,decide_eq_true_eq]at hok;have hV:=ybfr p.raw hg hc hv R.guard hok.1.1.1 hok.1.1.2
 have hraw:p.raw.rules.getD r default=R.raw:=by
  rw[<-hR];simp[ProgT.raw,zAG,hr]
 have hlen:p.raw.rules.length=p.rules.length:=by simp[ProgT.raw]
 simp only[ygs,ydh,hlen]at hV;rw[hR];simp only[c168,ycql,ycyq,ygs,ydh,hraw,hlen,go_sem,zA,zB,zC,↓reduceIte,reduceCtorEq];refine⟨by omega,hV.use ?_⟩
 simp only[ybh,yvd,yka,go_sem,zA,zB,↓reduceIte,reduceCtorEq]
theorem ydvv{p:ProgT}{g:Gr}{c:Conf}{v k:Nat}(hk:k<p.rules.length)(hn:(p.rules.take k).findIdx? (yka g c v)=none)(h:yka g c v (p.rules.getD k default)=true):ydy p g c v=k:=by
 unfold ydy
 have:p.rules.findIdx? (yka g c v)=some k:=by
  rw[zX];refine⟨hk,by rwa [getD_at hk]at h,fun j hj=>?_⟩
  rw[zT]at hn;have:=hn p.rules[j] (List.mem_take_iff_getElem.2 ⟨j,by omega,rfl⟩)
  simpa using this
 rw[this]
theorem ybpi{p:ProgT}{g:Gr}{c:Conf}{v:Nat}(hn:(p.rules.take p.rules.length).findIdx? (yka g c v)=none):ydy p g c v = -1:=by
 unfold ydy;rw[zAN]at hn;rw[hn]
theorem ycgo(p:ProgT)(g:Gr)(c:Conf)(v:Nat):-1<=ydy p g c v/\ydy p g c v<p.rules.length:=by
 unfold ydy;split
 .rename_i i hi
  obtain⟨h,_⟩:=List.findIdx?_eq_some_iff_getElem.1 hi;omega
 .omega
theorem ychn(p:ProgT){g:Gr}(hg:ybg g)(hp:p.ok=true){c:Conf}(hc:ConfIn g.ports.length p.vars.length c){v:Nat}(hv:v<g.ports.length) :
 Returns zG 126 [.rf (yje p.raw g),ycz c,.i .i64 v] (.i .i64 (ydy p g c v)):=by
 refine Returns.of (ydjz _ _ ?_);have hlen:p.raw.rules.length=p.rules.length:=by simp[ProgT.raw]
 have h12:p.rules.length<=12:=by
  unfold ProgT.ok at hp;simp only[zF,decide_eq_true_eq]at hp;exact hp.1.2
 simp only[c126,ycrb,ycrp,yje,ydh,hlen,go_sem,zA,zB,zC,↓reduceIte,reduceCtorEq];refine ybf (σ:=Nat) (fun k=>⟨[(14,.i .i64 k),(13,.i .i64 p.rules.length),(0,.rf (yje p.raw g)),(1,ycz c),(2,.i .i64 v)],[]⟩) (fun k=>k<=p.rules.length/\(p.rules.take k).findIdx? (yka g c v)=none) (fun k=>p.rules.length-k) 0 ⟨zK _,by simp⟩ ?_ ?_
 .refine yh [] [] [] ?_;simp only[yje,ydh,hlen,allQ,live,yc,zH,go_sem,zA,↓reduceIte,reduceCtorEq]
 .intro k ⟨hk,hno⟩;simp only[ycrt,ycpm,ycvn,ycwq,ycwa,ycmk,yje,yx,go_sem,zA,zB,zC,↓reduceIte,reduceCtorEq];refine⟨fun hlt=>?_,fun hlt=>?_⟩
  .have hk':k<p.rules.length:=by omega
   refine(ybvf p hg hp hc hv hk').use ?_;simp only[ybh,yx,go_sem,zA,zB,↓reduceIte,reduceCtorEq];refine⟨fun h=>by rw[ydvv hk' hno h],fun h=>⟨ikw (by omega) (by omega),?_⟩⟩
   refine yj (k+1) ⟨by omega,?_⟩ (by omega) ?_
   .rw[zI hk',zAI,hno];rw[getD_at hk']at h;simp[h]
   .refine yh [] [] [] ?_;simp only[allQ,live,yc,yx,go_sem,zA,↓reduceIte,reduceCtorEq];simp
  .obtain rfl:k=p.rules.length:=by omega
   rw[ybpi hno]
theorem yqr(p:ProgT)(g:Gr)(c:Conf)(v:Nat):∀(sets:List (Int×Ex)) (s0:List Int),(yop p g c v s0 sets).length=s0.length
 |[],_=>rfl
 | a::sets,s0=>by
   show(yop p g c v (s0.set _ _) sets).length=_;rw[yqr p g c v sets];simp
theorem ybqq(p:ProgT)(g:Gr)(c:Conf)(v:Nat)(s0:List Int)(sets:List (Int×Ex))(k:Nat)(h:k<sets.length) :
 yop p g c v s0 (sets.take (k+1))=(yop p g c v s0 (sets.take k)).set (sets.getD k default).1.toNat (yiz (p.vars.getD (sets.getD k default).1.toNat default).kind (ybm g v (p.vars.getD (sets.getD k default).1.toNat default)) (ydr g c v (sets.getD k default).2 (-1))):=by
 unfold yop;rw[zI h,zAA,getD_at h];rfl
theorem ynf(p:ProgT)(g:Gr)(c:Conf)(s:Nat){v:Nat}(hv:v<c.length):(ydm p g c s).getD v []=if s.testBit v then yis p g c v (ydy p g c v).toNat else c.getD v []:=by
 unfold ydm;simp[zAG,hv]
theorem ykn(p:ProgT)(g:Gr)(c:Conf)(s:Nat):(ydm p g c s).length=c.length:=by simp[ydm]
end Sh
end
section
namespace Sh
open Go Ev
def ybgc(p:ProgT)(g:Gr):Bool:=p.vars.all fun x=>decide (x.kind=1)==false||(decide ((ybm g 0 x).1<=(ybm g 0 x).2)&&decide ((ybm g 0 x).2-(ybm g 0 x).1+1<=4096))
def yfj(Q1 Q2:(Nat->Option ABlk)->Value->Prop)(p:ProgR):List SV:=[.a (.string p.name),.ex Q1 (yfc p.vars),.ex Q2 (ydh p.rules)]
theorem ybeh(Q1 Q2:(Nat->Option ABlk)->Value->Prop)(p:ProgR):Sim (.ag (yfj Q1 Q2 p)) (.ag (ymw p)):=ybca ⟨Sim.refl _,ybbq _ _,ybbq _ _,trivial⟩
theorem ybbe{Q1 Q2:(Nat->Option ABlk)->Value->Prop}(p:ProgT){g:Gr}(hg:ybg g)(hp:p.ok=true)(hf:ybgc p g=true)(hV:Returns zG 130 [.ag (yfj Q1 Q2 p.raw)] (.b true))(hG:Returns zG 131 [grV g] (.b true)) :
 Returns zG 62 [.ag (yfj Q1 Q2 p.raw),grV g] (.i .i64 0):=by
 refine Returns.of (ydow _ _ ?_);have hp':=hp;unfold ProgT.ok at hp';simp only[zF,decide_eq_true_eq]at hp';have hvars:p.raw.vars=p.vars:=rfl;simp only[yfj,grV]at hV hG;simp only[c62,ydrd,ydlc,ydum,ydna,ydkx,ydnp,yfj,grV,go_sem,zA,zB,zD,↓reduceIte,reduceCtorEq];refine hV.use ?_;simp only[ybh,go_sem,zA,zB,↓reduceIte];refine hG.use ?_;simp only[yfc,hvars,go_sem,zA,zB,zC,↓reduceIte,reduceCtorEq]
 have hall:∀k,k<p.vars.length->(p.vars.getD k default).ok=true/\((p.vars.getD k default).kind=1->(ybm g 0 (p.vars.getD k default)).1<=(ybm g 0 (p.vars.getD k default)).2/\(ybm g 0 (p.vars.getD k default)).2-(ybm g 0 (p.vars.getD k default)).1+1<=4096):=fun k hk=>by
  rw[getD_at hk];refine⟨List.all_eq_true.1 hp'.1.1.2 _ (zM _),fun h1=>?_⟩;have:=List.all_eq_true.1 hf _ (zM hk)
  simpa[h1]using this
 refine ybf (σ:=Nat) (fun k=>⟨[(18,.i .i64 k),(17,.i .i64 p.vars.length),(16,.ex Q1 (yfc p.vars)),(3,.pt (3,0) 0 0)],[(3,.one (some ⟨27,true,2,1,fun _=>[ybc g.ids,yu g.ports]⟩))]⟩) (fun k=>k<=p.vars.length) (fun k=>p.vars.length-k) 0 (zK _) ?_ ?_
 .refine yh [] [] [] ?_;simp only[yfc,allQ,live,yc,zH,go_sem,zA,zD,↓reduceIte,reduceCtorEq]
 .intro k hk;obtain⟨x,hx⟩:∃x,p.vars.getD k default=x:=⟨_,rfl⟩;simp only[ydni,ydzg,ydmn,ydlt,yctz,ycxb,ycxc,yczt,yfc,varC,splice,yx,hx,go_sem,zA,zB,zC,zD,↓reduceIte,reduceCtorEq];intro hlt;have hk':k<p.vars.length:=by omega
  obtain⟨hxo,hxb⟩:=hall k hk';rw[hx]at hxo hxb;have hB:=yxr hg hxo (v:=0) (by have:=hg.1;omega)
  simp only[varC,grV,zH]at hB;obtain⟨hb1,hb2⟩:=ytb hg hxo;have hvo:=ybrl hxo;refine⟨by omega,fun h1=>⟨ikw (by omega) (by omega),?_⟩,fun h1=>hB.use ?_⟩
  .refine yj (k+1) (by omega) (by omega) ?_
   refine yh [] [] [] ?_;simp only[allQ,live,yc,yx,go_sem,zA,zD,↓reduceIte,reduceCtorEq];omega
  .obtain⟨hb3,hb4⟩:=hxb h1;obtain⟨b1,hb1'⟩:∃b,(ybm g 0 x).1=b:=⟨_,rfl⟩;obtain⟨b2,hb2'⟩:∃b,(ybm g 0 x).2=b:=⟨_,rfl⟩;have e:ybm g 0 x=(x.lo,x.hi+x.perNode*(g.ids.length:Int)+x.perID*maxI g.ids):=by unfold ybm;rw[if_pos h1]
   rw[e]at hb1' hb2';simp only[]at hb1' hb2';simp only[e]at hb3 hb4;rw[e];simp only[ybh,yx,go_sem,zA,zB,↓reduceIte,reduceCtorEq];simp only[hb1',hb2']at hb3 hb4 ⊢;refine⟨fun _=>⟨ikw (by omega) (by omega),ikw (by omega) (by omega),fun hgt=>absurd hb4 (by omega),fun _=>⟨ikw (by omega) (by omega),?_⟩⟩,fun hlt2=>absurd hb3 (by omega)⟩
   refine yj (k+1) (by omega) (by omega) ?_
   refine yh [] [] [] ?_;simp only[allQ,live,yc,yx,go_sem,zA,zD,↓reduceIte,reduceCtorEq];omega
end Sh
end
end Go.Proofs.YthclbjjgfcgbgaaGreatDoor
