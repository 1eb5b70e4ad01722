/- Lemmas, joined: LdP SgA SgB RowB ScSt PlainI Pm SgE. -/
import Derived.Test.YtpngeppkgoaimaaGreatDoorPkBa8
import Derived.Test.YtpngeppkgoaimaaGreatDoorPkBa9
set_option linter.unusedSimpArgs false
set_option linter.unusedVariables false
namespace Go.Proofs.YtpngeppkgoaimaaGreatDoor

def ybap (ids:List Int) (k:Nat):Int:=(ids.take k).tail.foldl max (ids.headD 0)
abbrev maxI (ids:List Int):Int:=ybap ids ids.length
theorem yblz {ids:List Int} {k:Nat} (h1:1 <= k) (hk:k < ids.length):(ids.take (k + 1)).tail = (ids.take k).tail ++ [ids[k]]:=by
 rw [List.take_succ_eq_append_getElem hk,List.tail_append_of_ne_nil]
 intro h
 have:=congrArg List.length h
 rw [List.length_take,List.length_nil] at this
 omega
theorem ybst (ids:List Int):ybap ids 1 = ids.headD 0:=by cases ids <;> simp [ybap]
theorem ybit {ids:List Int} {k:Nat} (h1:1 <= k) (hk:k < ids.length):ybap ids (k + 1) = max (ybap ids k) ids[k]:=by
 unfold ybap
 rw [yblz h1 hk,List.foldl_append]
 rfl
theorem ybgm {ids:List Int} (h0:0 < ids.length) (h:∀ x ∈ ids,0 <= x):maxI ids = ids.foldl max 0:=by
 cases ids with
 | nil=>simp at h0
 | cons x l =>
  have hx:max 0 x = x:=Int.max_eq_right (h x (by simp))
  simp [maxI,ybap,hx]

def idxP (ids:List Int) (x:Int):Int:=match ids.findIdx? (fun y=>x == y) with
 | some i=>i
 | none=>-1
theorem ybvj {ids:List Int} {x:Int} {k:Nat} (hk:k < ids.length) (h:x = ids[k]) (hn:(ids.take k).findIdx? (fun y=>x == y) = none):idxP ids x = k:=by
 unfold idxP
 have:ids.findIdx? (fun y=>x == y) = some k:=by
  rw [List.findIdx?_eq_some_iff_getElem]
  refine ⟨hk,by simp [h],fun j hj=>?_⟩
  rw [List.findIdx?_eq_none_iff] at hn
  simp [hn ids[j] (List.mem_take_iff_getElem.2 ⟨j,by omega,rfl⟩)]
 rw [this]
theorem ybsv {ids:List Int} {x:Int} (hn:(ids.take ids.length).findIdx? (fun y=>x == y) = none):idxP ids x = -1:=by
 rw [List.take_length] at hn
 unfold idxP
 rw [hn]
theorem ybzm {ids:List Int} {x:Int} {k:Nat} (hk:k < ids.length) (h:x ≠ ids[k]) (hn:(ids.take k).findIdx? (fun y=>x == y) = none):(ids.take (k + 1)).findIdx? (fun y=>x == y) = none:=by
 rw [List.take_succ_eq_append_getElem hk,List.findIdx?_append,hn]
 simp [h]
end Go.Proofs.YtpngeppkgoaimaaGreatDoor

namespace Go.Proofs.YtpngeppkgoaimaaGreatDoor
namespace Sh
open Go Ev

def yj (l:List Int):SV:=.sl 1 l.length (fun k=>[.i .i64 (l.getD k 0)])
def ybb (ls:List (Int × Int)):SV:=.sl 2 ls.length (fun j=>[.i .i64 (ls.getD j (0,0)).1,.i .i64 (ls.getD j (0,0)).2])
def yba (ps:List (List (Int × Int))):SV:=.sl 1 ps.length (fun v=>[ybb (ps.getD v [])])
def ybg (c:List (List Int)):SV:=.sl 1 c.length (fun v=>[yj (c.getD v [])])
def grV (g:Gr):SV:=.ag [yj g.ids,yba g.ports]
theorem ik {n:Int} (h1:-1000000000000 <= n) (h2:n <= 1000000000000):inK .i64 n:=by
 unfold inK; simp [IntKind.min,IntKind.max,IntKind.bits,IntKind.signed]; omega
theorem ikw {n:Int} (h1:-4611686018427387904 <= n) (h2:n <= 4611686018427387904):inK .i64 n:=by
 unfold inK; simp [IntKind.min,IntKind.max,IntKind.bits,IntKind.signed]; omega
theorem getD_at {α:Type} {l:List α} {k:Nat} {d:α} (h:k < l.length):l.getD k d = l[k]:=by simp [List.getD,h]
theorem ybxt {l:List Int} {i k:Nat} {x:Int} (h:i < l.length):(l.set i x).getD k 0 = if k = i then x else l.getD k 0:=by
 simp only [List.getD,List.getElem?_set]
 by_cases q:i = k
 ·subst q; simp [h]
 ·rw [if_neg q,if_neg (Ne.symm q)]

set_option maxRecDepth 8000

theorem ybuq (l:List Int) (x:Int) (hl:l.length <= 100000):Returns Tryz.prog 111 [yj l,.i .i64 x] (.i .i64 (idxP l x)):=by
 refine Returns.of (yctg _ _ ?_)
 simp only [c111,ycfm,yciz,yj,go_sem,Nat.reduceAdd,↓reduceIte,reduceCtorEq]
 refine ybe (σ:=Nat) (fun k=>⟨[(8,.i .i64 k),(0,yj l),(1,.i .i64 x),(7,.i .i64 l.length)],[]⟩) (fun k=>k <= l.length /\ (l.take k).findIdx? (fun y=>x == y) = none) (fun k=>l.length - k) 0 ⟨Nat.zero_le _,by simp⟩ ?_ ?_
 ·refine yg [] [] [] ?_
  simp only [yj,allQ,live,yc,Int.natCast_zero,go_sem,Nat.reduceEqDiff,↓reduceIte,reduceCtorEq]
 ·intro k ⟨hk,hno⟩
  simp only [ycgq,ycnb,ycjw,ycbv,yckz,ychi,yj,yu,go_sem,Nat.reduceEqDiff,Nat.reduceAdd,↓reduceIte,reduceCtorEq]
  refine ⟨fun h=>⟨by omega,fun he=>?_,fun he=>⟨ik (by omega) (by omega),?_⟩⟩,fun h=>?_⟩
  ·have hlt:k < l.length:=by omega
   rw [ybvj hlt (by rw [he,getD_at hlt]) hno]
  ·have hlt:k < l.length:=by omega
   refine yh (k + 1) ⟨by omega,ybzm hlt (by rw [<- getD_at (d:=0) hlt]; exact he) hno⟩ (by omega) ?_
   refine yg [] [] [] ?_
   simp only [allQ,live,yc,yu,go_sem,Nat.reduceEqDiff,↓reduceIte,reduceCtorEq]
   simp
  ·obtain rfl:k = l.length:=by omega
   rw [ybsv hno]
theorem ycrx (l:List Int) (h0:0 < l.length) (hl:l.length <= 100000):Returns Tryz.prog 62 [yj l] (.i .i64 (maxI l)):=by
 refine Returns.of (ydbt _ _ ?_)
 simp only [c62,yczs,ycwx,ydag,ycul,yczk,yj,go_sem,Int.reduceToNat,Nat.reduceEqDiff,Nat.reduceAdd,↓reduceIte,reduceCtorEq]
 refine ⟨fun h=>by omega,fun _=>⟨by omega,?_⟩⟩
 refine ybe (σ:=Nat) (fun k=>⟨[(4,.i .i64 k),(3,.i .i64 (ybap l k)),(0,yj l)],[]⟩) (fun k=>1 <= k /\ k <= l.length) (fun k=>l.length - k) 1 ⟨by omega,by omega⟩ ?_ ?_
 ·refine yg [] [] [] ?_
  simp only [yj,ybst,allQ,live,yc,yu,go_sem,Nat.reduceEqDiff,↓reduceIte,reduceCtorEq]
  cases l <;> simp at h0 ⊢
 ·intro k ⟨hk1,hk⟩
  simp only [ycwk,ycwu,ydad,ycws,yj,yu,go_sem,Nat.reduceEqDiff,Nat.reduceAdd,↓reduceIte,reduceCtorEq]
  refine ⟨fun h=>⟨by omega,ik (by omega) (by omega),?_⟩,fun h=>?_⟩
  ·refine yh (k + 1) ⟨by omega,by omega⟩ (by omega) ?_
   refine yg [] [] [] ?_
   have hlt:k < l.length:=by omega
   simp only [ybit hk1 hlt,getD_at hlt,allQ,live,yc,yu,go_sem,Nat.reduceEqDiff,↓reduceIte,reduceCtorEq]
   simp
  ·obtain rfl:k = l.length:=by omega
   rfl
end Sh
end Go.Proofs.YtpngeppkgoaimaaGreatDoor

namespace Go.Proofs.YtpngeppkgoaimaaGreatDoor
namespace Sh
open Go Ev Go.RowKit

def GrI (g:Gr):Prop:=(∀ x ∈ g.ids,I64 x) /\ ∀ ls ∈ g.ports,∀ l ∈ ls,I64 l.1 /\ I64 l.2
def yblx (c:List (List Int)):Prop:=∀ s ∈ c,∀ x ∈ s,I64 x

section
variable {G:AM} {m:Mem} {φ:Phi} {M:AM} {w:World} {u u':Value}

theorem ybya {α:Type} {z n:Nat} {gg:Nat -> List SV} {xs:List α} {E:Elem α} (hG:Le G m.b.get) (hr:RV G om0 (.sl z n gg) u) (hv:VR φ u u') (hR:Rel φ M w) (hs:Sub m M) (hn:xs.length = n)
  (hE:∀ k x b o L L',xs[k]? = some x -> RVL G om0 (gg k) L -> VRL φ L L' -> (∀ j v,L'[j]? = some v -> w.cell? ⟨b,o + j,none⟩ = some v) -> E w b o x):SlAt z E w u' xs:=by
 rcases hr.sl_inv with ⟨rfl,h0⟩ | ⟨bk,p,cp,T,N,e,zz,L,rfl,g1,g2,g3,g4,g5,g6,g7⟩
 ·have:xs = []:=List.eq_nil_of_length_eq_zero hn
  subst this
  rcases h0 with rfl | ⟨b,o,c,rfl⟩
  ·have e:=hv.eq_simple rfl
   subst e
   exact SlAt.nil w
  ·obtain ⟨lc,A,c',k1,k2,k3,k4,k5,k6,k7⟩:=hv.slice_inv
   subst k3
   exact ⟨some A,c',rfl,Nat.zero_le _,k6,fun q=>absurd q (by simp)⟩
 ·obtain ⟨lc,A,c',k1,k2,k3,k4,k5,k6,k7⟩:=hv.slice_inv
  subst k3
  subst hn
  refine ⟨some A,c',rfl,k4,k6,fun hpos=>?_⟩
  rcases k7 with ⟨rfl,_⟩ | k7
  ·obtain ⟨lc',h1,h2⟩:=hR.blk _ _ (hs _ _ (hG _ _ g1))
   have k1':φ bk = some lc:=k1
   rw [k1'] at h1
   cases h1
   obtain ⟨h3,h4,cs,e2,fz2,h0,h5,h6,h7⟩:=h2
   refine ⟨lc.blk,lc.base + p,rfl,(Array.getElem?_eq_some_iff.1 h5).1,fun k x hx=>?_⟩
   have hk:k < xs.length:=(List.getElem?_eq_some_iff.1 hx).1
   have hin:=yid (z:=z) hk
   have hcells:∀ j v,j < z -> (L k)[j]? = some v -> ∃ v',cs[lc.base + (p + k * z + j)]? = some v' /\ VR φ v v':=fun j v hj hv=>h7 _ v (by omega) (by rw [g5 k hk j hj]; exact hv)
   have hex:∀ (l:List Value) (q:Nat),(∀ j v,l[j]? = some v -> ∃ v',cs[q + j]? = some v' /\ VR φ v v') -> ∃ l',VRL φ l l' /\ ∀ j v,l'[j]? = some v -> cs[q + j]? = some v:=by
    intro l
    induction l with
    | nil=>intro q _; exact ⟨[],.nil,fun j v h=>by simp at h⟩
    | cons a l ih =>
     intro q h
     obtain ⟨v',e1,e2⟩:=h 0 a rfl
     obtain ⟨l',e3,e4⟩:=ih (q + 1) (fun j v hv=>by have:=h (j + 1) v (by simpa using hv); rw [show q + 1 + j = q + (j + 1) by omega]; exact this)
     refine ⟨v' :: l',.cons e2 e3,fun j v hv=>?_⟩
     cases j with
     | zero=>simp at hv; subst hv; exact e1
     | succ j=>have:=e4 j v (by simpa using hv); rw [show q + (j + 1) = q + 1 + j by omega]; exact this
   obtain ⟨L',r1,r2⟩:=hex (L k) (lc.base + p + k * z) (fun j v hv=>by
    have hj:j < z:=by rw [<- g4 k hk]; exact (List.getElem?_eq_some_iff.1 hv).1
    have:=hcells j v hj hv
    rw [show lc.base + p + k * z + j = lc.base + (p + k * z + j) by omega]
    exact this)
   exact hE k x _ _ (L k) L' hx (g6 k hk) r1 fun j v hv=>cell_of h5 (by have:=r2 j v hv; exact this)
  ·omega
theorem ints_at {l:List Int} (hG:Le G m.b.get) (hr:RV G om0 (yj l) u) (hv:VR φ u u') (hR:Rel φ M w) (hs:Sub m M) (hI:∀ x ∈ l,I64 x):yen w u' l:=by
 refine ybya hG hr hv hR hs rfl fun k x b o L L' hx hL hL' hc=>?_
 have hk:k < l.length:=(List.getElem?_eq_some_iff.1 hx).1
 have hxe:l.getD k 0 = x:=by simp [List.getD,hx]
 rw [hxe] at hL
 cases hL with
 | cons a b =>
  cases b
  cases a.int_inv
  obtain ⟨v',rfl,hvv⟩:=yfi hL'
  have:=hvv.eq_simple rfl
  subst this
  exact ⟨hc 0 _ rfl,hI x (List.mem_of_getElem? hx)⟩
theorem ybze {ls:List (Int × Int)} (hG:Le G m.b.get) (hr:RV G om0 (ybb ls) u) (hv:VR φ u u') (hR:Rel φ M w) (hs:Sub m M) (hI:∀ l ∈ ls,I64 l.1 /\ I64 l.2):ybed w u' ls:=by
 refine ybya hG hr hv hR hs rfl fun k x b o L L' hx hL hL' hc=>?_
 have hxe:ls.getD k (0,0) = x:=by simp [List.getD,hx]
 rw [hxe] at hL
 cases hL with
 | cons a b =>
  cases b with
  | cons a2 b2 =>
   cases b2
   cases a.int_inv
   cases a2.int_inv
   obtain ⟨v1,v2,rfl,h1,h2⟩:=ymt hL'
   have:=h1.eq_simple rfl
   subst this
   have:=h2.eq_simple rfl
   subst this
   exact ⟨hc 0 _ rfl,hc 1 _ rfl,hI x (List.mem_of_getElem? hx)⟩
theorem ybzg {ps:List (List (Int × Int))} (hG:Le G m.b.get) (hr:RV G om0 (yba ps) u) (hv:VR φ u u') (hR:Rel φ M w) (hs:Sub m M) (hI:∀ ls ∈ ps,∀ l ∈ ls,I64 l.1 /\ I64 l.2):yvs w u' ps:=by
 refine ybya hG hr hv hR hs rfl fun k x b o L L' hx hL hL' hc=>?_
 have hxe:ps.getD k [] = x:=by simp [List.getD,hx]
 rw [hxe] at hL
 cases hL with
 | cons a b =>
  cases b
  obtain ⟨v',rfl,hvv⟩:=yfi hL'
  exact ⟨v',hc 0 _ rfl,ybze hG a hvv hR hs (hI x (List.mem_of_getElem? hx))⟩
theorem ybud {c:List (List Int)} (hG:Le G m.b.get) (hr:RV G om0 (ybg c) u) (hv:VR φ u u') (hR:Rel φ M w) (hs:Sub m M) (hI:yblx c):ybhc w u' c:=by
 refine ybya hG hr hv hR hs rfl fun k x b o L L' hx hL hL' hc=>?_
 have hxe:c.getD k [] = x:=by simp [List.getD,hx]
 rw [hxe] at hL
 cases hL with
 | cons a b =>
  cases b
  obtain ⟨v',rfl,hvv⟩:=yfi hL'
  exact ⟨v',hc 0 _ rfl,ints_at hG a hvv hR hs (hI x (List.mem_of_getElem? hx))⟩
theorem ybbw {g:Gr} (hG:Le G m.b.get) (hr:RV G om0 (grV g) u) (hv:VR φ u u') (hR:Rel φ M w) (hs:Sub m M) (hI:GrI g):GrAt w u' g:=by
 obtain ⟨L,rfl,hL⟩:=hr.ag_inv
 cases hL with
 | cons a b =>
  cases b with
  | cons a2 b2 =>
   cases b2
   obtain ⟨L',rfl,hL'⟩:=hv.agg_inv
   obtain ⟨v1,v2,rfl,h1,h2⟩:=ymt hL'
   exact ⟨v1,v2,rfl,ints_at hG a h1 hR hs hI.1,ybzg hG a2 h2 hR hs hI.2⟩
end
theorem yom {g:FuncId} {args:List SV} {r:SV} {v:Value} (hg:∃ fn c,Tryz.prog.funcs[g]? = some fn /\ fn.body = some c) (hrv:∀ F,RV F om0 r v) (hvr:∀ φ,VR φ v v)
  (h:∀ (G:AM) (m:Mem) (us:List Value),Le G m.b.get -> RVL G om0 args us -> ∀ φ M w us',Rel φ M w -> Sub m M -> VRL φ us us' -> Calls Tryz.prog g us'.toArray w fun e w'=>e = .returned v /\ Below w.heap.size w w'):Returns Tryz.prog g args r:=by
 intro G m us hw hle hr
 refine ⟨v,enterM m,r,ykb yms hg fun φ M w us' hR hs hv=>(h G m us hle hr φ M w us' hR hs hv).mono ?_,Nat.le_refl _,Le.refl _,rfl,hrv _⟩
 rintro e w' ⟨rfl,hb⟩
 exact ⟨v,rfl,hvr φ,hb⟩
theorem rvl1 {F:AM} {ω:Om} {a:SV} {us:List Value} (h:RVL F ω [a] us):∃ u,us = [u] /\ RV F ω a u:=by
 cases h with | cons x y=>cases y; exact ⟨_,rfl,x⟩
theorem rvl2 {F:AM} {ω:Om} {a b:SV} {us:List Value} (h:RVL F ω [a,b] us):∃ u v,us = [u,v] /\ RV F ω a u /\ RV F ω b v:=by
 cases h with | cons x y=>obtain ⟨v,rfl,q⟩:=rvl1 y; exact ⟨_,v,rfl,x,q⟩
end Sh
end Go.Proofs.YtpngeppkgoaimaaGreatDoor

namespace Go.Proofs.YtpngeppkgoaimaaGreatDoor
namespace Sh
open Go Ev Go.RowKit Go.ChangeShapes Go.WideShapes Go.ChangeAt
def ysj (w:World) (g:SV) (v:Value):Prop:=∃ u,absV w.heap.size v = some u /\ RV (memW w).b.get om0 g u
def ybdh (w:World) (g:List SV) (cs:List Value):Prop:=∃ L,cs.map (absV w.heap.size) = L.map some /\ RVL (memW w).b.get om0 g L
theorem ybdh.nil (w:World):ybdh w [] []:=⟨[],rfl,.nil⟩
theorem ysj.cons {w:World} {g:SV} {v:Value} {gs:List SV} {cs:List Value} (h:ysj w g v) (t:ybdh w gs cs):ybdh w (g :: gs) (v :: cs):=by
 obtain ⟨u,h1,h2⟩:=h
 obtain ⟨L,h3,h4⟩:=t
 exact ⟨u :: L,by rw [List.map_cons,List.map_cons,h1,h3],.cons h2 h4⟩
theorem yuq (w:World) (k:IntKind) (n:Int):ysj w (.i k n) (.int k n):=⟨.int k n,rfl,.i⟩
theorem ybgk {w:World} {a:Addr} {v:Value} (h:w.cell? a = some v):a.spot = none /\ a.block < w.heap.size /\ ∃ c e fz,w.heap[a.block]? = some (.cells c e fz) /\ c[a.off]? = some v:=by
 unfold World.cell? at h
 split at h
 ·rename_i c e fz hc
  split at h
  ·cases h
  ·rename_i hs
   refine ⟨?_,(Array.getElem?_eq_some_iff.1 hc).1,c,e,fz,hc,h⟩
   cases hq:a.spot with
   | none=>rfl
   | some x=>rw [hq] at hs; simp at hs
 ·cases h
section
variable {H:Type} {enc:TypeId × Value -> H} {P:Program} {w:World} {base:Nat} {held:Bool}
theorem yuh {α:Type} {z:Nat} {f:α -> List SV} {p:α -> Prop} (d:α) {t e:TypeId} {fuel:Nat} {v:Value} {x:DataW H × List MemPlace} (ht:P.underlying t = some (.slice e)) (hC:P.cellsOf e = z) (h0:0 < z)
  (hE:∀ (n:Nat) (cs':List Value) (y:DataW H × List MemPlace),DataW.trod enc P w base (fun _=>true) held n e cs' = some y -> cs'.length = z -> ∃ x,p x /\ ybdh w (f x) cs' /\ (f x).all one1 = true)
  (h:DataW.trod enc P w base (fun _=>true) held fuel t [v] = some x):∃ xs:List α,(∀ x ∈ xs,p x) /\ ysj w (.sl z xs.length (fun k=>f (xs.getD k d))) v:=by
 rcases Go.Deep.open_slice ht h with ⟨h1,_⟩ | ⟨a,len,cap,m,n,D,Pl,hcs,hb,hl,hm,hmm,hx,hi⟩
 ·simp at h1
  subst h1
  exact ⟨[],fun x hx=>(by cases hx),.slice none 0 0,rfl,.sl0 (.inl rfl)⟩
 ·simp at hcs
  subst hcs
  simp only [if_true] at hmm
  subst hmm
  unfold maxLen at hm
  rw [hC] at hi
  obtain ⟨b,off,spot⟩:=a
  rcases Nat.eq_zero_or_pos m with rfl | hcap
  ·obtain rfl:len = 0:=by omega
   refine ⟨[],fun x hx=>(by cases hx),.slice (some ⟨w.heap.size,0,none⟩) 0 CU,?_,.sl0 (.inr ⟨_,_,_,rfl⟩)⟩
   cases spot <;> rfl
  ·have h00:∃ v0,w.cell? ⟨b,off,spot⟩ = some v0:=by
    obtain ⟨cs',h2,_⟩:=hi 0 hcap
    obtain ⟨_,h3,h4⟩:=World.cells?_some h2
    have h5:=h4 0 h0
    have h6:cs'[0]? = some (cs'[0]'(by omega)):=List.getElem?_eq_getElem (by omega)
    rw [h6] at h5
    have e:(((⟨b,off,spot⟩:Addr).add (0 * z)).add 0) = ⟨b,off,spot⟩:=by
     unfold Addr.add
     simp
    rw [e] at h5
    exact ⟨_,h5⟩
   obtain ⟨v0,hv0⟩:=h00
   obtain ⟨hsp,hblk,c,e',fz,hc,_⟩:=ybgk hv0
   have hsp:spot = none:=hsp
   subst hsp
   have hblk:b < w.heap.size:=hblk
   have hc:w.heap[b]? = some (.cells c e' fz):=hc
   have habs:absV w.heap.size (.slice (some ⟨b,off,none⟩) len m) = some (.slice (some ⟨b,off,none⟩) len CU):=by
    unfold absV
    rw [if_neg (by simp [simple])]
    simp only
    rw [if_pos ⟨hl,hm⟩,if_neg (by omega),if_pos (by omega)]
   obtain ⟨xs,x1,x2⟩:=ybnl (p:=fun i x=>p x /\ (f x).all one1 = true /\ ∃ L:List Value,L.length = z /\ RVL (memW w).b.get om0 (f x) L /\ ∀ j,j < z -> ∃ cv,w.cell? ⟨b,off + i * z + j,none⟩ = some cv /\ absV w.heap.size cv = L[j]?) len fun i hil=>by
    obtain ⟨cs',h2,h3⟩:=hi i (by omega)
    obtain ⟨_,h4,h5⟩:=World.cells?_some h2
    obtain ⟨x,q1,⟨L,q2,q3⟩,q4⟩:=hE n cs' _ h3 h4
    have hLz:L.length = z:=by
     have:=congrArg List.length q2
     simpa [h4] using this.symm
    refine ⟨x,q1,q4,L,hLz,q3,fun j hj=>?_⟩
    have hj':j < cs'.length:=by omega
    refine ⟨cs'[j],?_,?_⟩
    ·have:=h5 j hj
     rw [List.getElem?_eq_getElem hj'] at this
     rw [<- this]
     congr 1
     unfold Addr.add
     split <;> split <;> simp_all <;> omega
    ·have:=congrArg (fun l=>l[j]?) q2
     simp only [List.getElem?_map,List.getElem?_eq_getElem hj'] at this
     rw [List.getElem?_eq_getElem (show j < L.length by omega)] at this ⊢
     simpa using this
   refine ⟨xs,fun x hx=>?_,_,habs,?_⟩
   ·obtain ⟨i,hi',rfl⟩:=List.getElem_of_mem hx
    exact (x2 i _ (List.getElem?_eq_getElem hi')).1
   ·rw [x1]
    rcases Nat.eq_zero_or_pos len with rfl | hlen
    ·exact .sl0 (.inr ⟨_,_,_,rfl⟩)
    ·have hat:∀ k,k < len -> ∃ L:List Value,L.length = z /\ RVL (memW w).b.get om0 (f (xs.getD k d)) L /\ (f (xs.getD k d)).all one1 = true /\ ∀ j,j < z -> ∃ cv,w.cell? ⟨b,off + k * z + j,none⟩ = some cv /\ absV w.heap.size cv = L[j]?:=fun k hk=>by
      have hk':k < xs.length:=by omega
      obtain ⟨_,q2,L,q3,q4,q5⟩:=x2 k _ (List.getElem?_eq_getElem hk')
      rw [List.getD_eq_getElem?_getD,List.getElem?_eq_getElem hk']
      exact ⟨L,q3,q4,q2,q5⟩
     classical
     let L:Nat -> List Value:=fun k=>if hk:k < len then Classical.choose (hat k hk) else []
     have hL:∀ k (hk:k < len),(L k).length = z /\ RVL (memW w).b.get om0 (f (xs.getD k d)) (L k) /\ (f (xs.getD k d)).all one1 = true /\ ∀ j,j < z -> ∃ cv,w.cell? ⟨b,off + k * z + j,none⟩ = some cv /\ absV w.heap.size cv = (L k)[j]?:=fun k hk=>by
      have e:L k = Classical.choose (hat k hk):=by show (if hk:k < len then _ else _) = _; rw [dif_pos hk]
      rw [e]
      exact Classical.choose_spec (hat k hk)
     have hmem:(memW w).b.get b = some (.cells (ybaq .leaf 0 (c.toList.map (absV w.heap.size))) c.size CU 0):=by
      rw [yks]
      unfold absB
      rw [hc]
     have hget:∀ j cv,w.cell? ⟨b,j,none⟩ = some cv -> j < c.size /\ (ybaq .leaf 0 (c.toList.map (absV w.heap.size))).get j = absV w.heap.size cv:=fun j cv hcv=>by
      obtain ⟨_,_,c2,e2,fz2,h1,h2⟩:=ybgk hcv
      have h1:w.heap[b]? = some (.cells c2 e2 fz2):=h1
      rw [hc] at h1
      cases h1
      have h2:c[j]? = some cv:=h2
      have hj:j < c.size:=(Array.getElem?_eq_some_iff.1 h2).1
      refine ⟨hj,?_⟩
      rw [ylu,if_pos ⟨Nat.zero_le _,by simpa using hj⟩,Nat.sub_zero,List.getElem?_map]
      have:c.toList[j]? = some cv:=by simpa using h2
      rw [this]
      simp
     refine .sl (L:=L) hmem (.inr rfl) ?_ (fun k hk=>(hL k hk).1) (fun k hk j hj=>?_) (fun k hk=>(hL k hk).2.1) (fun k hk=>(hL k hk).2.2.1)
     ·obtain ⟨_,_,_,q⟩:=hL (len - 1) (by omega)
      obtain ⟨cv,h1,_⟩:=q (z - 1) (by omega)
      have:=(hget _ _ h1).1
      have e:len * z = (len - 1) * z + z:=by
       obtain ⟨y,rfl⟩:∃ y,len = y + 1:=⟨len - 1,by omega⟩
       rw [Nat.succ_mul]; simp
      omega
     ·obtain ⟨_,_,_,q⟩:=hL k hk
      obtain ⟨cv,h1,h2⟩:=q j hj
      rw [(hget _ _ h1).2,h2]
theorem ybte {t e:TypeId} {fuel:Nat} {v:Value} {x:DataW H × List MemPlace} (ht:P.underlying t = some (.slice e)) (he:P.underlying e = some (.int .i64)) (hC:P.cellsOf e = 1)
  (h:DataW.trod enc P w base (fun _=>true) held fuel t [v] = some x):∃ xs,(∀ x ∈ xs,I64 x) /\ ysj w (yj xs) v:=by
 refine yuh (f:=fun x=>[.i .i64 x]) (p:=I64) 0 ht hC (by decide) (fun n cs' y h1 h2=>?_) h
 obtain ⟨k,rfl,_,hw⟩:=DataW.trod_int he h1
 exact ⟨k,wf_i64 hw,(yuq w .i64 k).cons (ybdh.nil w),rfl⟩
end
section
variable {H:Type} {enc:TypeId × Value -> H} {w:World} {base:Nat} {held:Bool} {n:Nat} {v:Value} {x:DataW H × List MemPlace}
theorem yge (h:DataW.trod enc Tryz.prog w base (fun _=>true) held n 22 [v] = some x):∃ xs,(∀ x ∈ xs,I64 x) /\ ysj w (yj xs) v :=
 ybte Tryz.underlying22 Tryz.underlying3 (by kernel_rfl) h
end
theorem yjs {P:Program} {g:FuncId} {args:List SV} {x:Bool} {us':List Value} {w:World} (h:Returns P g args (.b x)) (hg:∃ fn c,P.funcs[g]? = some fn /\ fn.body = some c) (hn:yna P)
  {us:List Value} (ha:RVL (memW w).b.get om0 args us) (hv:VRL (phiW w) us us'):Calls P g us'.toArray w fun e w'=>e = .returned (.bool x) /\ Below w.heap.size w w' :=
 ybvl h hg hn ha hv (fun F u hu=>by cases hu; rfl) (fun φ v' hv'=>hv'.eq_simple rfl)
end Sh
end Go.Proofs.YtpngeppkgoaimaaGreatDoor

namespace Go.Proofs.YtpngeppkgoaimaaGreatDoor
namespace Sh
open Go Ev
def ytj:List Nat:=[0,1,1,2,1,2,2,3,1,2,2,3,2,3,3,4,1,2,2,3,2,3,3,4,2,3,3,4,3,4,4,5,1,2,2,3,2,3,3,4,2,3,3,4,3,4,4,5,2,3,3,4,3,4,4,5,3,4,4,5,4,5,5,6,1,2,2,3,2,3,3,4,2,3,3,4,3,4,4,5,2,3,3,4,3,4,4,5,3,4,4,5,4,5,5,6,2,3,3,4,3,4,4,5,3,4,4,5,4,5,5,6,3,4,4,5,4,5,5,6,4,5,5,6,5,6,6,7,1,2,2,3,2,3,3,4,2,3,3,4,3,4,4,5,2,3,3,4,3,4,4,5,3,4,4,5,4,5,5,6,2,3,3,4,3,4,4,5,3,4,4,5,4,5,5,6,3,4,4,5,4,5,5,6,4,5,5,6,5,6,6,7,2,3,3,4,3,4,4,5,3,4,4,5,4,5,5,6,3,4,4,5,4,5,5,6,4,5,5,6,5,6,6,7,3,4,4,5,4,5,5,6,4,5,5,6,5,6,6,7,4,5,5,6,5,6,6,7,5,6,6,7,6,7,7,8]
def ycjr:LO:=[o3 (.box 73 (.tmp 0)) 3 0,o3 (.box 28 (.tmp 1)) 4 0,o3 (.mv (ci' 0)) 6 0,o3 (.mv (ci' 0)) 7 4]
def yckj:LO:=[o3 (.build [.i .i64 0,.a (.nilFunc)] [(0,1,(ci' 1)),(1,1,(.func 171))]) 11 0,o3 (.build [.i .i64 0,.a (.nilFunc)] [(0,1,(ci' 2)),(1,1,(.func 172))]) 12 0,o3 (.build [.i .i64 0,.a (.nilFunc)] [(0,1,(ci' 3)),(1,1,(.func 173))]) 13 0,o3 (.bslice 208 2 3 [.i .i64 0,.a (.nilFunc),.i .i64 0,.a (.nilFunc),.i .i64 0,.a (.nilFunc)] [(0,2,(.tmp 11)),(2,2,(.tmp 12)),(4,2,(.tmp 13))]) 14 7,mv' 14 8 15]
def yclq:LO:=[mv' 8 15 0,ln' 15 16 1,o3 (.mv (ci' 0)) 17 0]
def ybfh:LO:=[bn' .lss 17 16 18 0]
def ybgq:LO:=[ix' 2 15 17 19 0,ld' true 2 19 20 1,o3 (.alloc 208 1 [.i .i64 0,.a (.nilFunc)]) 10 0,o0 (.store 2 (.tmp 10) (.tmp 20)) 7]
def ybga:LO:=[fa' 0 1 10 21 0,ld' false 1 21 22 1,fa' 1 1 3 23 0,ld' false 1 23 24 4,bn' .eql 22 24 25 15]
def ybgb:LO:=[fa' 1 1 10 26 0,ld' false 1 26 27 1,ld' true 6 3 28 0,ld' true 2 4 29 0,mv' 2 30 0,o3 (.call (.tmp 27) [(.tmp 28),(.tmp 29),(.tmp 30)]) 31 31,xt' 31 0 32 63,xt' 31 1 33 63,mv' 32 6 255,mv' 33 7 511]
def ybfm:LO:=[o3 (.bin .add (.tmp 17) (ci' 1)) 34 0,mv' 34 17 1]
def ybfa:LO:=[o3 (.mv (ci' 0)) 6 0,o3 (.mv (.const (.int .i64 (-1)))) 7 1]
def c143:SC:=(.seq (.reg false ycjr) (.seq (.reg false yckj) (.seq (.seq (.reg false yclq) (.block 0 (.loop (.seq (.reg false ybfh) (.seq (.cond (.tmp 18) .skip (.exit 0)) (.seq (.block 1 (.seq (.reg false ybgq) (.seq (.reg false ybga) (.cond (.tmp 25) (.seq (.reg false ybgb) .ret) .skip)))) (.reg false ybfm))))))) (.seq (.reg false ybfa) .ret))))
theorem ycsa:Fn 143 c143 [.t 6,.t 7]:=fn_0 Tryz.func143 (by kernel_rfl) (by kernel_rfl)
def ychw:LO:=[o3 (.box 73 (.tmp 0)) 3 0,o3 (.box 28 (.tmp 1)) 4 0,o3 (.mv (ci' 0)) 6 0,o3 (.mv (ci' 0)) 7 4]
def ycix:LO:=[fa' 2 1 3 8 0,ld' false 1 8 9 1,fa' 3 1 3 10 0,ld' false 1 10 11 4,fa' 4 1 3 12 0,ld' false 1 12 13 16,fa' 0 1 4 14 0,ld' false 1 14 15 64,ln' 15 16 192,bn' .mul 13 16 17 496,bn' .add 11 17 18 1020,fa' 5 1 3 19 0,ld' false 1 19 20 2048,fa' 0 1 4 21 0,ld' false 1 21 22 8192,cl' 62 [22] 23 24576,bn' .mul 20 23 24 63488,bn' .add 18 24 25 131068,mv' 9 6 57347,mv' 25 7 524287]
def c171:SC:=(.seq (.reg false ychw) (.seq (.reg true ycix) .ret))
theorem ycrr:Fn 171 c171 [.t 6,.t 7]:=fn_0 Tryz.func171 (by kernel_rfl) (by kernel_rfl)
def ycdn:LO:=[o3 (.box 73 (.tmp 0)) 3 0,o3 (.box 28 (.tmp 1)) 4 0,o3 (.mv (ci' 0)) 6 0,o3 (.mv (ci' 0)) 7 4]
def yciv:LO:=[o3 (.mv (ci' 0)) 6 0,o3 (.mv (ci' 1)) 7 1]
def c172:SC:=(.seq (.reg false ycdn) (.seq (.reg false yciv) .ret))
theorem ycrp:Fn 172 c172 [.t 6,.t 7]:=fn_0 Tryz.func172 (by kernel_rfl) (by kernel_rfl)
def yche:LO:=[o3 (.box 73 (.tmp 0)) 3 0,o3 (.box 28 (.tmp 1)) 4 0,o3 (.mv (ci' 0)) 6 0,o3 (.mv (ci' 0)) 7 4]
def ychr:LO:=[fa' 1 1 4 8 0,ld' false 1 8 9 1,mv' 2 10 0,ix' 1 9 10 11 7,ld' false 1 11 12 15,ln' 12 13 31,o3 (.bin .sub (.tmp 13) (ci' 1)) 14 63,o3 (.mv (.const (.int .i64 (-1)))) 6 0,mv' 14 7 255]
def c173:SC:=(.seq (.reg false yche) (.seq (.reg true ychr) .ret))
theorem ycok:Fn 173 c173 [.t 6,.t 7]:=fn_0 Tryz.func173 (by kernel_rfl) (by kernel_rfl)
def ycew:LO:=[o3 (.box 53 (.tmp 0)) 2 0,o3 (.box 28 (.tmp 1)) 3 0,o3 (.mv (.const (.slice none 0 0))) 4 0]
def ycdk:LO:=[fa' 0 1 3 9 0,ld' false 1 9 10 1,ln' 10 11 3,o3 (.mk 172 1 24 [.a (.slice none 0 0)] (.tmp 11) (.tmp 11)) 12 7,mv' 12 5 15]
def yceu:LO:=[mv' 5 13 0,ln' 13 14 1,o3 (.mv (ci' 0)) 15 0]
def ycgd:LO:=[bn' .lss 15 14 16 0]
def ycec:LO:=[mv' 15 17 0,mv' 17 6 1]
def ycje:LO:=[mv' 5 18 0,mv' 6 19 0,fa' 1 1 2 20 0,ld' false 1 20 21 4,ln' 21 22 12,o3 (.mk 175 2 16 [.i .i64 0,.i .i64 0] (.tmp 22) (.tmp 22)) 23 28,ix' 1 18 19 24 63,o0 (.store 1 (.tmp 24) (.tmp 23)) 127]
def ycam:LO:=[fa' 1 1 2 25 0,ld' false 1 25 26 1,ln' 26 27 3,o3 (.mv (ci' 0)) 28 0]
def ycbk:LO:=[bn' .lss 28 27 29 0]
def ycev:LO:=[mv' 28 30 0,ix' 6 26 28 31 0,ld' true 6 31 32 2,o3 (.alloc 73 1 [.a (.string (ByteArray.mk #[])),.i .i64 0,.i .i64 0,.i .i64 0,.i .i64 0,.i .i64 0]) 8 0,mv' 30 7 15,o0 (.store 6 (.tmp 8) (.tmp 32)) 31]
def ycgs:LO:=[mv' 5 34 0,mv' 6 35 0,ix' 1 34 35 36 3,ld' false 1 36 37 7,mv' 7 38 0,mv' 5 39 0,mv' 6 40 0,ix' 1 39 40 41 96,ld' false 1 41 42 224,mv' 7 43 0,ld' true 6 8 44 0,ld' true 2 3 45 0,mv' 6 46 0,cl' 143 [44,45,46] 47 7168,mv' 47 33 15360,xt' 33 0 48 31744,xt' 33 1 49 31744,ix' 2 37 38 50 31,o3 (.idxA 2 1 (.tmp 50) (ci' 0)) 51 196095,o0 (.store 1 (.tmp 51) (.tmp 48)) 458239,ix' 2 42 43 52 992,o3 (.idxA 2 1 (.tmp 52) (ci' 1)) 53 2097151,o0 (.store 1 (.tmp 53) (.tmp 49)) 4194303]
def ybqw:LO:=[o3 (.bin .add (.tmp 28) (ci' 1)) 54 0,mv' 54 28 1]
def yblu:LO:=[o3 (.bin .add (.tmp 15) (ci' 1)) 55 0,mv' 55 15 1]
def ybnw:LO:=[mv' 5 56 0,mv' 56 4 1]
def c104:SC:=(.seq (.reg false ycew) (.seq (.reg false ycdk) (.seq (.seq (.reg false yceu) (.block 0 (.loop (.seq (.reg false ycgd) (.seq (.cond (.tmp 16) .skip (.exit 0)) (.seq (.block 1 (.seq (.reg false ycec) (.seq (.reg false ycje) (.seq (.reg false ycam) (.block 2 (.loop (.seq (.reg false ycbk) (.seq (.cond (.tmp 29) .skip (.exit 2)) (.seq (.block 3 (.seq (.reg false ycev) (.reg true ycgs))) (.reg false ybqw)))))))))) (.reg false yblu))))))) (.seq (.reg false ybnw) .ret))))
theorem yctd:Fn 104 c104 [.t 4]:=fn_0 Tryz.func104 (by kernel_rfl) (by kernel_rfl)
def ycdy:LO:=[o3 (.box 175 (.tmp 1)) 4 0,o3 (.mv (ci' 0)) 6 0]
def ycio:LO:=[mv' 2 8 0,o3 (.idxA 2 1 (.tmp 4) (ci' 0)) 9 0,ld' false 1 9 10 2,bn' .geq 8 10 11 7,mv' 11 12 15,⟨.mv (.tmp 2),some 13,some (12,true),31⟩,⟨.idxA 2 1 (.tmp 4) (ci' 1),some 14,some (12,true),31⟩,⟨.load false 1 (.tmp 14),some 15,some (12,true),95⟩,⟨.bin .leq (.tmp 13) (.tmp 15),some 16,some (12,true),255⟩,o3 (.pick (.tmp 12) (.tmp 16) (.const (.bool false))) 17 511,mv' 17 7 1023]
def ybzz:LO:=[mv' 2 18 0,mv' 18 6 1]
def ycee:LO:=[mv' 0 20 0,o3 (.bin .eql (.tmp 20) (ci' 3)) 21 1,mv' 21 19 3]
def ycks:LO:=[o3 (.mv (.const (.int .i64 (-1)))) 6 0]
def ycku:LO:=[mv' 2 23 0,o3 (.idxA 2 1 (.tmp 4) (ci' 0)) 24 0,ld' false 1 24 25 2,bn' .lss 23 25 26 7,mv' 26 22 15]
def ycis:LO:=[o3 (.idxA 2 1 (.tmp 4) (ci' 0)) 27 0,ld' false 1 27 28 1,mv' 28 6 3]
def ycky:LO:=[o3 (.idxA 2 1 (.tmp 4) (ci' 1)) 29 0,ld' false 1 29 30 1,mv' 30 6 3]
def c195:SC:=(.seq (.reg false ycdy) (.seq (.block 0 (.seq (.reg false ycio) (.cond (.tmp 7) (.seq (.reg false ybzz) .ret) (.seq (.reg false ycee) (.cond (.tmp 19) (.seq (.reg false ycks) .ret) (.seq (.reg false ycku) (.cond (.tmp 22) (.seq (.reg false ycis) .ret) .skip))))))) (.seq (.reg false ycky) .ret)))
theorem yctx:Fn 195 c195 [.t 6]:=fn_0 Tryz.func195 (by kernel_rfl) (by kernel_rfl)
def ybzt:LO:=[o3 (.box 53 (.tmp 0)) 2 0,o3 (.box 28 (.tmp 1)) 3 0,o3 (.mv (ci' 0)) 4 0]
def yccu:LO:=[ld' true 3 2 9 0,cl' 169 [9] 10 1,o3 (.un .not (.tmp 10)) 11 3]
def yckb:LO:=[o3 (.mv (ci' 8)) 4 0]
def yccr:LO:=[ld' true 2 3 12 0,cl' 84 [12] 13 1,o3 (.un .not (.tmp 13)) 14 3]
def ycgg:LO:=[o3 (.mv (ci' 1)) 4 0]
def ycfw:LO:=[fa' 1 1 2 15 0,ld' false 1 15 16 1,ln' 16 17 3,o3 (.mv (ci' 0)) 18 0]
def yckg:LO:=[bn' .lss 18 17 19 0]
def ychd:LO:=[ix' 6 16 18 20 0,ld' true 6 20 21 1,o3 (.alloc 73 1 [.a (.string (ByteArray.mk #[])),.i .i64 0,.i .i64 0,.i .i64 0,.i .i64 0,.i .i64 0]) 6 0,o0 (.store 6 (.tmp 6) (.tmp 21)) 7]
def ycdr:LO:=[fa' 1 1 6 22 0,ld' false 1 22 23 1,o3 (.bin .neq (.tmp 23) (ci' 1)) 24 3]
def ycbn:LO:=[ld' true 6 6 26 0,ld' true 2 3 27 0,o3 (.call (.func 143) [(.tmp 26),(.tmp 27),(ci' 0)]) 28 3,mv' 28 25 7,xt' 25 0 29 15,xt' 25 1 30 15,mv' 29 7 31,mv' 30 8 127]
def ybml:LO:=[mv' 8 31 0,mv' 7 32 0,bn' .lss 31 32 33 3,mv' 33 34 7,⟨.mv (.tmp 8),some 35,some (34,false),15⟩,⟨.mv (.tmp 7),some 36,some (34,false),15⟩,⟨.bin .sub (.tmp 35) (.tmp 36),some 37,some (34,false),63⟩,⟨.bin .add (.tmp 37) (ci' 1),some 38,some (34,false),127⟩,⟨.bin .gtr (.tmp 38) (ci' 4096),some 39,some (34,false),255⟩,o3 (.pick (.tmp 34) (.const (.bool true)) (.tmp 39)) 40 511]
def ybus:LO:=[o3 (.mv (ci' 9)) 4 0]
def yblj:LO:=[o3 (.bin .add (.tmp 18) (ci' 1)) 41 0,mv' 41 18 1]
def ybqu:LO:=[o3 (.mv (ci' 0)) 4 0]
def c140:SC:=(.seq (.reg false ybzt) (.seq (.seq (.reg false yccu) (.cond (.tmp 11) (.seq (.reg false yckb) .ret) .skip)) (.seq (.seq (.reg false yccr) (.cond (.tmp 14) (.seq (.reg false ycgg) .ret) .skip)) (.seq (.seq (.reg false ycfw) (.block 0 (.loop (.seq (.reg false yckg) (.seq (.cond (.tmp 19) .skip (.exit 0)) (.seq (.block 1 (.seq (.reg false ychd) (.seq (.seq (.reg false ycdr) (.cond (.tmp 24) (.exit 1) .skip)) (.seq (.reg false ycbn) (.seq (.reg false ybml) (.cond (.tmp 40) (.seq (.reg false ybus) .ret) .skip)))))) (.reg false yblj))))))) (.seq (.reg false ybqu) .ret)))))
theorem ycqp:Fn 140 c140 [.t 4]:=fn_0 Tryz.func140 (by kernel_rfl) (by kernel_rfl)
def ycvo:LO:=[o3 (.box 53 (.tmp 0)) 3 0,o3 (.box 28 (.tmp 1)) 4 0,o3 (.mv (.const (.bool false))) 6 0]
def yczh:LO:=[ld' true 3 3 7 0,ld' true 2 4 8 0,mv' 2 9 0,cl' 102 [7,8,9] 10 7,o3 (.bin .eql (.tmp 10) (ci' 0)) 11 15,mv' 11 6 31]
def c63:SC:=(.seq (.reg false ycvo) (.seq (.reg false yczh) .ret))
theorem ycuy:Fn 63 c63 [.t 6]:=fn_0 Tryz.func63 (by kernel_rfl) (by kernel_rfl)
def ycfn:LO:=[o3 (.box 53 (.tmp 0)) 3 0,o3 (.box 28 (.tmp 1)) 4 0,o3 (.mv (ci' 0)) 6 0]
def ycij:LO:=[ld' true 3 3 8 0,ld' true 2 4 9 0,cl' 140 [8,9] 10 3,mv' 10 7 7]
def ycms:LO:=[mv' 7 11 0,o3 (.bin .neq (.tmp 11) (ci' 0)) 12 1]
def ycan:LO:=[mv' 7 13 0,mv' 13 6 1]
def ycgj:LO:=[ld' true 3 3 14 0,ld' true 2 4 15 0,cl' 104 [14,15] 16 3,mv' 2 17 0,cl' 141 [16,17] 18 15,o3 (.un .not (.tmp 18)) 19 31]
def ycik:LO:=[o3 (.mv (ci' 10)) 6 0]
def ycgk:LO:=[o3 (.mv (ci' 0)) 6 0]
def c102:SC:=(.seq (.reg false ycfn) (.seq (.seq (.reg false ycij) (.seq (.reg false ycms) (.cond (.tmp 12) (.seq (.reg false ycan) .ret) .skip))) (.seq (.seq (.reg false ycgj) (.cond (.tmp 19) (.seq (.reg false ycik) .ret) .skip)) (.seq (.reg false ycgk) .ret))))
theorem ycnx:Fn 102 c102 [.t 6]:=fn_0 Tryz.func102 (by kernel_rfl) (by kernel_rfl)
def yccd:LO:=[o3 (.mv (.const (.bool false))) 4 0]
def ycfp:LO:=[mv' 1 7 0,ln' 7 8 1,mv' 0 9 0,ln' 9 10 4,bn' .neq 8 10 11 15]
def ycgz:LO:=[o3 (.mv (.const (.bool false))) 4 0]
def ycin:LO:=[mv' 0 12 0,ln' 12 13 1,o3 (.mv (ci' 0)) 14 0]
def ycfu:LO:=[bn' .lss 14 13 15 0]
def ycgc:LO:=[mv' 14 16 0,ix' 1 12 14 17 0,ld' false 1 17 18 2,mv' 16 5 7,mv' 18 6 15]
def ycgr:LO:=[mv' 6 19 0,mv' 1 20 0,mv' 5 21 0,ix' 1 20 21 22 6,ld' false 1 22 23 14,cl' 170 [19,23] 24 31,o3 (.un .not (.tmp 24)) 25 63]
def yckv:LO:=[o3 (.mv (.const (.bool false))) 4 0]
def yckn:LO:=[o3 (.bin .add (.tmp 14) (ci' 1)) 26 0,mv' 26 14 1]
def ycco:LO:=[o3 (.mv (.const (.bool true))) 4 0]
def c141:SC:=(.seq (.reg false yccd) (.seq (.seq (.reg false ycfp) (.cond (.tmp 11) (.seq (.reg false ycgz) .ret) .skip)) (.seq (.seq (.reg false ycin) (.block 0 (.loop (.seq (.reg false ycfu) (.seq (.cond (.tmp 15) .skip (.exit 0)) (.seq (.block 1 (.seq (.reg false ycgc) (.seq (.reg false ycgr) (.cond (.tmp 25) (.seq (.reg false yckv) .ret) .skip)))) (.reg false yckn))))))) (.seq (.reg false ycco) .ret))))
theorem ycog:Fn 141 c141 [.t 4]:=fn_0 Tryz.func141 (by kernel_rfl) (by kernel_rfl)
def ycdm:LO:=[o3 (.mv (.const (.bool false))) 4 0]
def ychl:LO:=[mv' 1 7 0,ln' 7 8 1,mv' 0 9 0,ln' 9 10 4,bn' .neq 8 10 11 15]
def yclx:LO:=[o3 (.mv (.const (.bool false))) 4 0]
def ycei:LO:=[mv' 1 12 0,ln' 12 13 1,o3 (.mv (ci' 0)) 14 0]
def ycau:LO:=[bn' .lss 14 13 15 0]
def ycex:LO:=[mv' 14 16 0,ix' 1 12 14 17 0,ld' false 1 17 18 2,mv' 16 5 7,mv' 18 6 15]
def yclp:LO:=[mv' 6 19 0,mv' 0 20 0,mv' 5 21 0,ix' 2 20 21 22 6,o3 (.idxA 2 1 (.tmp 22) (ci' 0)) 23 14,ld' false 1 23 24 30,bn' .lss 19 24 25 63,mv' 25 26 127,⟨.mv (.tmp 6),some 27,some (26,false),255⟩,⟨.mv (.tmp 0),some 28,some (26,false),255⟩,⟨.mv (.tmp 5),some 29,some (26,false),255⟩,⟨.idx 2 (.tmp 28) (.tmp 29),some 30,some (26,false),1791⟩,⟨.idxA 2 1 (.tmp 30) (ci' 1),some 31,some (26,false),3839⟩,⟨.load false 1 (.tmp 31),some 32,some (26,false),7935⟩,⟨.bin .gtr (.tmp 27) (.tmp 32),some 33,some (26,false),16383⟩,o3 (.pick (.tmp 26) (.const (.bool true)) (.tmp 33)) 34 32767]
def ycgf:LO:=[o3 (.mv (.const (.bool false))) 4 0]
def ycki:LO:=[o3 (.bin .add (.tmp 14) (ci' 1)) 35 0,mv' 35 14 1]
def ycgi:LO:=[o3 (.mv (.const (.bool true))) 4 0]
def c170:SC:=(.seq (.reg false ycdm) (.seq (.seq (.reg false ychl) (.cond (.tmp 11) (.seq (.reg false yclx) .ret) .skip)) (.seq (.seq (.reg false ycei) (.block 0 (.loop (.seq (.reg false ycau) (.seq (.cond (.tmp 15) .skip (.exit 0)) (.seq (.block 1 (.seq (.reg false ycex) (.seq (.reg false yclp) (.cond (.tmp 34) (.seq (.reg false ycgf) .ret) .skip)))) (.reg false ycki))))))) (.seq (.reg false ycgi) .ret))))
theorem yctz:Fn 170 c170 [.t 4]:=fn_0 Tryz.func170 (by kernel_rfl) (by kernel_rfl)
def ycqq:LO:=[o3 (.mv (.const (.slice none 0 0))) 2 0]
def ycox:LO:=[mv' 0 6 0,ln' 6 7 1,o3 (.mk 22 1 24 [.a (.slice none 0 0)] (.tmp 7) (.tmp 7)) 8 3,mv' 8 3 7]
def ycrz:LO:=[mv' 0 9 0,ln' 9 10 1,o3 (.mv (ci' 0)) 11 0]
def ybpo:LO:=[bn' .lss 11 10 12 0]
def ybsz:LO:=[mv' 11 13 0,ix' 1 9 11 14 0,ld' false 1 14 15 2,mv' 13 4 7,mv' 15 5 15]
def ybqz:LO:=[mv' 3 16 0,mv' 4 17 0,mv' 5 18 0,o3 (.app 3 1 8 (.const (.slice none 0 0)) (.tmp 18)) 19 4,ix' 1 16 17 20 15,o0 (.store 1 (.tmp 20) (.tmp 19)) 31]
def ybnb:LO:=[o3 (.bin .add (.tmp 11) (ci' 1)) 21 0,mv' 21 11 1]
def ybtb:LO:=[mv' 3 22 0,mv' 22 2 1]
def c92:SC:=(.seq (.reg false ycqq) (.seq (.reg false ycox) (.seq (.seq (.reg false ycrz) (.block 0 (.loop (.seq (.reg false ybpo) (.seq (.cond (.tmp 12) .skip (.exit 0)) (.seq (.block 1 (.seq (.reg false ybsz) (.reg false ybqz))) (.reg false ybnb))))))) (.seq (.reg false ybtb) .ret))))
theorem ycur:Fn 92 c92 [.t 2]:=fn_0 Tryz.func92 (by kernel_rfl) (by kernel_rfl)
theorem yctn:FnM 92 c92 [.t 2]:=fn_m Tryz.func92 (by kernel_rfl) (by kernel_rfl)
def ycxf:LO:=[o3 (.box 53 (.tmp 0)) 2 0,o3 (.box 28 (.tmp 1)) 3 0,o3 (.mv (.const (.pointer none))) 4 0]
def ydaa:LO:=[ld' true 3 2 5 0,ld' true 3 2 6 0,ld' true 2 3 7 0,cl' 103 [6,7] 8 6,ld' true 3 2 9 0,ld' true 2 3 10 0,cl' 104 [9,10] 11 62,o3 (.build [.a (.string (ByteArray.mk #[])),.a (.slice none 0 0),.a (.slice none 0 0),.a (.pointer none),.a (.slice none 0 0)] [(0,3,(.tmp 5)),(3,1,(.tmp 8)),(4,1,(.tmp 11))]) 12 127,o3 (.box 134 (.tmp 12)) 13 255,mv' 13 4 511]
def c64:SC:=(.seq (.reg false ycxf) (.seq (.reg true ydaa) .ret))
theorem ycym:Fn 64 c64 [.t 4]:=fn_0 Tryz.func64 (by kernel_rfl) (by kernel_rfl)
def ycdi:LO:=[o3 (.mv (ci' 0)) 6 0]
def ycjj:LO:=[mv' 0 8 0,o3 (.nilck (.tmp 8)) 9 1,fa' 0 3 9 10 3,fa' 2 1 10 11 7,ld' false 1 11 12 15,ln' 12 13 31,o3 (.mv (ci' 0)) 14 0]
def yclv:LO:=[bn' .lss 14 13 15 0]
def ycih:LO:=[mv' 14 16 0,mv' 16 7 1]
def ycnk:LO:=[mv' 0 17 0,o3 (.nilck (.tmp 17)) 18 1,fa' 3 1 18 19 3,ld' false 1 19 20 7,mv' 1 21 0,mv' 2 22 0,mv' 7 23 0,cl' 144 [20,21,22,23] 24 127]
def yccj:LO:=[mv' 7 25 0,mv' 25 6 1]
def ycjd:LO:=[o3 (.bin .add (.tmp 14) (ci' 1)) 26 0,mv' 26 14 1]
def ycmb:LO:=[o3 (.mv (.const (.int .i64 (-1)))) 6 0]
def c107:SC:=(.seq (.reg false ycdi) (.seq (.seq (.reg false ycjj) (.block 0 (.loop (.seq (.reg false yclv) (.seq (.cond (.tmp 15) .skip (.exit 0)) (.seq (.block 1 (.seq (.reg false ycih) (.seq (.reg false ycnk) (.cond (.tmp 24) (.seq (.reg false yccj) .ret) .skip)))) (.reg false ycjd))))))) (.seq (.reg false ycmb) .ret)))
theorem ycsd:Fn 107 c107 [.t 6]:=fn_0 Tryz.func107 (by kernel_rfl) (by kernel_rfl)
def ycvw:LO:=[o3 (.box 89 (.tmp 0)) 2 0,o3 (.box 35 (.tmp 1)) 3 0,o3 (.mv (.const (.int .u32 0))) 4 0]
def yczv:LO:=[ld' false 1 2 5 0,o3 (.nilck (.tmp 5)) 6 1,fa' 4 1 6 7 3,ld' false 1 7 8 7,ln' 8 9 15,o3 (.mkfn 106 [] [(.tmp 2),(.tmp 3)]) 10 0,cl' 105 [9,10] 11 63,mv' 11 4 127]
def c65:SC:=(.seq (.reg false ycvw) (.seq (.reg false yczv) .ret))
theorem yddo:Fn 65 c65 [.t 4]:=fn_0 Tryz.func65 (by kernel_rfl) (by kernel_rfl)
def ycfo:LO:=[o3 (.mv (.const (.bool false))) 4 0]
def yclb:LO:=[ld' false 1 1 5 0,ld' false 1 2 6 0,mv' 0 7 0,cl' 107 [5,6,7] 8 7,o3 (.bin .geq (.tmp 8) (ci' 0)) 9 15,mv' 9 4 31]
def c106:SC:=(.seq (.reg false ycfo) (.seq (.reg false yclb) .ret))
theorem ycuc:Fn 106 c106 [.t 4]:=fn_0 Tryz.func106 (by kernel_rfl) (by kernel_rfl)
def ycmq:LO:=[o3 (.mv (.const (.slice none 0 0))) 8 0]
def ycch:LO:=[mv' 1 13 0,mv' 2 14 0,ix' 1 13 14 15 3,ld' false 1 15 16 7,o3 (.app 3 1 8 (.const (.slice none 0 0)) (.tmp 16)) 17 15,mv' 17 9 31]
def ybzs:LO:=[mv' 0 18 0,o3 (.nilck (.tmp 18)) 19 1,fa' 0 3 19 20 3,fa' 2 1 20 21 7,ld' false 1 21 22 15,mv' 3 23 0,ix' 3 22 23 24 63,fa' 2 1 24 25 127,ld' false 1 25 26 255,ln' 26 27 511,o3 (.mv (ci' 0)) 28 0]
def yceo:LO:=[bn' .lss 28 27 29 0]
def yccf:LO:=[ix' 2 26 28 30 0,ld' true 2 30 31 1,o3 (.alloc 201 1 [.i .i64 0,.a (.slice none 0 0)]) 11 0,o0 (.store 2 (.tmp 11) (.tmp 31)) 7]
def ycng:LO:=[mv' 0 32 0,o3 (.nilck (.tmp 32)) 33 1,fa' 3 1 33 34 3,ld' false 1 34 35 7,mv' 1 36 0,mv' 2 37 0,fa' 1 1 11 38 0,ld' false 1 38 39 64,cl' 174 [35,36,37,39] 40 255,mv' 40 12 511]
def ycap:LO:=[mv' 9 41 0,fa' 0 1 11 42 0,ld' false 1 42 43 2,mv' 0 44 0,o3 (.nilck (.tmp 44)) 45 8,fa' 0 3 45 46 24,fa' 1 1 46 47 56,ld' false 1 47 48 120,fa' 0 1 11 49 0,ld' false 1 49 50 256,ix' 6 48 50 51 1016,fa' 1 1 51 52 2040,ld' false 1 52 53 4088,mv' 0 54 0,o3 (.nilck (.tmp 54)) 55 8192,fa' 4 1 55 56 24576,ld' false 1 56 57 57344,mv' 2 58 0,ix' 1 57 58 59 253952,ld' false 1 59 60 516096,fa' 0 1 11 61 0,ld' false 1 61 62 1048576,ix' 2 60 62 63 4186112,ld' true 2 63 64 8380416,mv' 12 65 0,cl' 195 [53,64,65] 66 33554424,ix' 1 41 43 67 67108863,o0 (.store 1 (.tmp 67) (.tmp 66)) 134217727]
def ycao:LO:=[o3 (.bin .add (.tmp 28) (ci' 1)) 68 0,mv' 68 28 1]
def ycde:LO:=[mv' 9 69 0,mv' 69 8 1]
def c176:SC:=(.seq (.reg false ycmq) (.seq (.reg false ycch) (.seq (.seq (.reg false ybzs) (.block 0 (.loop (.seq (.reg false yceo) (.seq (.cond (.tmp 29) .skip (.exit 0)) (.seq (.block 1 (.seq (.reg false yccf) (.seq (.reg true ycng) (.reg true ycap)))) (.reg false ycao))))))) (.seq (.reg false ycde) .ret))))
theorem ycrc:Fn 176 c176 [.t 8]:=fn_0 Tryz.func176 (by kernel_rfl) (by kernel_rfl)
def ychm:LO:=[o3 (.mv (.const (.slice none 0 0))) 6 0]
def ycge:LO:=[mv' 1 9 0,cl' 92 [9] 10 1,mv' 10 7 3]
def ycim:LO:=[mv' 1 11 0,ln' 11 12 1,o3 (.mv (ci' 0)) 13 0]
def ycmg:LO:=[bn' .lss 13 12 14 0]
def ycar:LO:=[mv' 13 15 0,mv' 15 8 1]
def yccs:LO:=[mv' 2 16 0,mv' 8 17 0,bn' .shr 16 17 18 3,o3 (.bin .and (.tmp 18) (.const (.int .u32 1))) 19 7,o3 (.bin .eql (.tmp 19) (.const (.int .u32 1))) 20 15]
def ycmp:LO:=[mv' 7 21 0,mv' 8 22 0,mv' 0 23 0,mv' 1 24 0,mv' 8 25 0,mv' 0 26 0,mv' 1 27 0,mv' 8 28 0,cl' 107 [26,27,28] 29 224,cl' 176 [23,24,25,29] 30 508,ix' 1 21 22 31 1023,o0 (.store 1 (.tmp 31) (.tmp 30)) 2047]
def ychn:LO:=[o3 (.bin .add (.tmp 13) (ci' 1)) 32 0,mv' 32 13 1]
def ycga:LO:=[mv' 7 33 0,mv' 33 6 1]
def c147:SC:=(.seq (.reg false ychm) (.seq (.reg false ycge) (.seq (.seq (.reg false ycim) (.block 0 (.loop (.seq (.reg false ycmg) (.seq (.cond (.tmp 14) .skip (.exit 0)) (.seq (.block 1 (.seq (.reg false ycar) (.seq (.reg false yccs) (.cond (.tmp 20) (.reg false ycmp) .skip)))) (.reg false ychn))))))) (.seq (.reg false ycga) .ret))))
theorem ybve:FnU 147 c147 [.t 6]:=fn_u Tryz.func147 (by kernel_rfl) (by kernel_rfl)
def ycjm:LO:=[o3 (.mv (.const (.int .u32 0))) 4 0]
def ycip:LO:=[o3 (.mv (.const (.int .u32 0))) 5 0]
def ycju:LO:=[mv' 0 7 0,o3 (.mv (ci' 0)) 8 0]
def ycel:LO:=[bn' .lss 8 7 9 0]
def ycdl:LO:=[mv' 8 10 0,mv' 10 6 1]
def ycjv:LO:=[mv' 1 11 0,mv' 6 12 0,o3 (.call (.tmp 11) [(.tmp 12)]) 13 3]
def ycay:LO:=[mv' 5 14 0,mv' 6 15 0,o3 (.bin .shl (.const (.int .u32 1)) (.tmp 15)) 16 2,bn' .or 14 16 17 7,mv' 17 5 15]
def yccg:LO:=[o3 (.bin .add (.tmp 8) (ci' 1)) 18 0,mv' 18 8 1]
def ycmr:LO:=[mv' 5 19 0,mv' 19 4 1]
def c105:SC:=(.seq (.reg false ycjm) (.seq (.reg false ycip) (.seq (.seq (.reg false ycju) (.block 0 (.loop (.seq (.reg false ycel) (.seq (.cond (.tmp 9) .skip (.exit 0)) (.seq (.block 1 (.seq (.reg false ycdl) (.seq (.reg false ycjv) (.cond (.tmp 13) (.reg false ycay) .skip)))) (.reg false yccg))))))) (.seq (.reg false ycmr) .ret))))
theorem yctr:Fn 105 c105 [.t 4]:=fn_0 Tryz.func105 (by kernel_rfl) (by kernel_rfl)
def ydda:LO:=[o3 (.box 53 (.tmp 0)) 3 0,o3 (.box 28 (.tmp 1)) 4 0,o3 (.mv (.const (.int .u32 0))) 6 0]
def ydcq:LO:=[ld' true 3 3 7 0,ld' true 2 4 8 0,mv' 2 9 0,cl' 63 [7,8,9] 10 7,o3 (.un .not (.tmp 10)) 11 15]
def ydee:LO:=[o3 (.mv (.const (.int .u32 0))) 6 0]
def ydch:LO:=[ld' true 3 3 12 0,ld' true 2 4 13 0,cl' 64 [12,13] 14 3,mv' 2 15 0,cl' 65 [14,15] 16 15,mv' 16 6 31]
def c27:SC:=(.seq (.reg false ydda) (.seq (.seq (.reg false ydcq) (.cond (.tmp 11) (.seq (.reg false ydee) .ret) .skip)) (.seq (.reg false ydch) .ret)))
theorem ycvm:Fn 27 c27 [.t 6]:=fn_0 Tryz.func27 (by kernel_rfl) (by kernel_rfl)
def ycef:LO:=[o3 (.mv (.const (.bool false))) 2 0]
def ycjf:LO:=[mv' 0 5 0,ln' 5 6 1,o3 (.mv (ci' 0)) 7 0]
def ycfg:LO:=[bn' .lss 7 6 8 0]
def ycai:LO:=[ix' 1 5 7 9 0,ld' false 1 9 10 1,mv' 10 4 3]
def ycld:LO:=[mv' 4 11 0,o3 (.bin .andNot (.tmp 11) (.const (.int .u32 16777215))) 12 1,o3 (.bin .neq (.tmp 12) (.const (.int .u32 0))) 13 3]
def ycml:LO:=[o3 (.mv (.const (.bool false))) 2 0]
def ycgt:LO:=[o3 (.bin .add (.tmp 7) (ci' 1)) 14 0,mv' 14 7 1]
def yclm:LO:=[o3 (.mv (.const (.bool true))) 2 0]
def c178:SC:=(.seq (.reg false ycef) (.seq (.seq (.reg false ycjf) (.block 0 (.loop (.seq (.reg false ycfg) (.seq (.cond (.tmp 8) .skip (.exit 0)) (.seq (.block 1 (.seq (.reg false ycai) (.seq (.reg false ycld) (.cond (.tmp 13) (.seq (.reg false ycml) .ret) .skip)))) (.reg false ycgt))))))) (.seq (.reg false yclm) .ret)))
theorem ycpi:Fn 178 c178 [.t 2]:=fn_0 Tryz.func178 (by kernel_rfl) (by kernel_rfl)
def c177_0:LO:=[o3 (.box 46 (.tmp 0)) 1 0,o3 (.mv (.const (.bool false))) 2 0]
def c177_1:LO:=[fa' 0 1 1 3 0,ld' false 1 3 4 1,o3 (.bin .lss (.tmp 4) (ci' 0)) 5 3,mv' 5 6 7,⟨.faddr 0 1 (.tmp 1),some 7,some (6,false),15⟩,⟨.load false 1 (.tmp 7),some 8,some (6,false),31⟩,⟨.bin .gtr (.tmp 8) (ci' 4096),some 9,some (6,false),63⟩,o3 (.pick (.tmp 6) (.const (.bool true)) (.tmp 9)) 10 127,mv' 10 11 255,⟨.faddr 2 1 (.tmp 1),some 12,some (11,false),511⟩,⟨.load false 1 (.tmp 12),some 13,some (11,false),1023⟩,⟨.bin .lss (.tmp 13) (ci' 0),some 14,some (11,false),2047⟩,o3 (.pick (.tmp 11) (.const (.bool true)) (.tmp 14)) 15 4095,mv' 15 16 8191,⟨.faddr 2 1 (.tmp 1),some 17,some (16,false),16383⟩,⟨.load false 1 (.tmp 17),some 18,some (16,false),32767⟩,⟨.faddr 3 1 (.tmp 1),some 19,some (16,false),16383⟩,⟨.load false 1 (.tmp 19),some 20,some (16,false),81919⟩,⟨.bin .gtr (.tmp 18) (.tmp 20),some 21,some (16,false),262143⟩,o3 (.pick (.tmp 16) (.const (.bool true)) (.tmp 21)) 22 524287,mv' 22 23 1048575,⟨.faddr 3 1 (.tmp 1),some 24,some (23,false),2097151⟩,⟨.load false 1 (.tmp 24),some 25,some (23,false),4194303⟩,⟨.faddr 0 1 (.tmp 1),some 26,some (23,false),2097151⟩,⟨.load false 1 (.tmp 26),some 27,some (23,false),10485759⟩,⟨.bin .gtr (.tmp 25) (.tmp 27),some 28,some (23,false),33554431⟩,o3 (.pick (.tmp 23) (.const (.bool true)) (.tmp 28)) 29 67108863]
def ycxe:LO:=[o3 (.mv (.const (.bool false))) 2 0]
def c177_3:LO:=[fa' 3 1 1 30 0,ld' false 1 30 31 1,fa' 2 1 1 32 0,ld' false 1 32 33 4,o3 (.bin .add (.tmp 33) (ci' 1)) 34 12,bn' .gtr 31 34 35 31]
def ydab:LO:=[o3 (.mv (.const (.bool false))) 2 0]
def c177_5:LO:=[fa' 0 1 1 36 0,ld' false 1 36 37 1,fa' 1 1 1 38 0,ld' false 1 38 39 4,bn' .leq 37 39 40 15,mv' 40 41 31,⟨.faddr 1 1 (.tmp 1),some 42,some (41,true),63⟩,⟨.load false 1 (.tmp 42),some 43,some (41,true),127⟩,⟨.faddr 0 1 (.tmp 1),some 44,some (41,true),63⟩,⟨.load false 1 (.tmp 44),some 45,some (41,true),319⟩,⟨.bin .mul (ci' 24) (.tmp 45),some 46,some (41,true),831⟩,⟨.bin .leq (.tmp 43) (.tmp 46),some 47,some (41,true),2047⟩,o3 (.pick (.tmp 41) (.tmp 47) (.const (.bool false))) 48 4095,mv' 48 49 8191,⟨.faddr 4 1 (.tmp 1),some 50,some (49,true),16383⟩,⟨.load false 1 (.tmp 50),some 51,some (49,true),32767⟩,⟨.bslice 44 1 1 [.i .u32 0] [(0,1,(.tmp 51))],some 52,some (49,true),65535⟩,⟨.call (.func 178) [(.tmp 52)],some 53,some (49,true),131071⟩,o3 (.pick (.tmp 49) (.tmp 53) (.const (.bool false))) 54 262143,mv' 54 2 524287]
def c177:SC:=(.seq (.reg false c177_0) (.seq (.seq (.reg false c177_1) (.cond (.tmp 29) (.seq (.reg false ycxe) .ret) .skip)) (.seq (.seq (.reg false c177_3) (.cond (.tmp 35) (.seq (.reg false ydab) .ret) .skip)) (.seq (.reg false c177_5) .ret))))
theorem c177_ok:Fn 177 c177 [.t 2]:=fn_0 Tryz.func177 (by kernel_rfl) (by kernel_rfl)
def ycad:LO:=[o3 (.alloc 46 1 [.i .i64 0,.i .i64 0,.i .i64 0,.i .i64 0,.i .u32 0]) 2 0]
def yckh:LO:=[mv' 0 3 0,o3 (.bin .and (.tmp 3) (.const (.int .u32 16777215))) 4 1,o3 (.build [.i .i64 0,.i .i64 0,.i .i64 0,.i .i64 0,.i .u32 0] [(4,1,(.tmp 4))]) 5 3,o0 (.store 5 (.tmp 2) (.tmp 5)) 7]
def c145:SC:=(.seq (.reg false ycad) (.seq (.reg false yckh) .ret))
theorem ycry:Fn 145 c145 [.c 2 true 5]:=fn_0 Tryz.func145 (by kernel_rfl) (by kernel_rfl)
def ycmj:LO:=[o3 (.box 46 (.tmp 0)) 3 0,o3 (.alloc 46 1 [.i .i64 0,.i .i64 0,.i .i64 0,.i .i64 0,.i .u32 0]) 6 0,o3 (.mv (ci' 0)) 7 0]
def ycfs:LO:=[ld' true 5 3 8 0,cl' 177 [8] 9 1,o3 (.un .not (.tmp 9)) 10 3]
def ycuv:LO:=[o3 (.build [.i .i64 0,.i .i64 0,.i .i64 0,.i .i64 0,.i .u32 0] []) 11 0,o0 (.store 5 (.tmp 6) (.tmp 11)) 1,o3 (.mv (ci' 7)) 7 3]
def ycht:LO:=[mv' 1 12 0,o3 (.bin .eql (.tmp 12) (.const (.int .u32 0))) 13 1,mv' 13 14 3,⟨.mv (.tmp 1),some 15,some (14,false),7⟩,⟨.mv (.tmp 2),some 16,some (14,false),7⟩,⟨.bslice 44 1 2 [.i .u32 0,.i .u32 0] [(0,1,(.tmp 15)),(1,1,(.tmp 16))],some 17,some (14,false),31⟩,⟨.call (.func 178) [(.tmp 17)],some 18,some (14,false),63⟩,⟨.un .not (.tmp 18),some 19,some (14,false),127⟩,o3 (.pick (.tmp 14) (.const (.bool true)) (.tmp 19)) 20 255]
def ydcp:LO:=[o3 (.build [.i .i64 0,.i .i64 0,.i .i64 0,.i .i64 0,.i .u32 0] []) 21 0,o0 (.store 5 (.tmp 6) (.tmp 21)) 1,o3 (.mv (ci' 11)) 7 3]
def ycaa:LO:=[fa' 0 1 3 22 0,ld' false 1 22 23 1,o3 (.bin .eql (.tmp 23) (ci' 4096)) 24 3]
def ycwa:LO:=[o3 (.build [.i .i64 0,.i .i64 0,.i .i64 0,.i .i64 0,.i .u32 0] []) 25 0,o0 (.store 5 (.tmp 6) (.tmp 25)) 1,o3 (.mv (ci' 3)) 7 3]
def ycnm:LO:=[fa' 0 1 3 26 0,ld' false 1 26 27 1,o3 (.bin .add (.tmp 27) (ci' 1)) 28 3,fa' 0 1 3 29 7,o0 (.store 1 (.tmp 29) (.tmp 28)) 15]
def yccp:LO:=[fa' 1 1 3 30 0,ld' false 1 30 31 1,mv' 1 32 0,cl' 179 [32] 33 4,bn' .add 31 33 34 15,fa' 1 1 3 35 31,o0 (.store 1 (.tmp 35) (.tmp 34)) 63]
def ycdc:LO:=[fa' 2 1 3 36 0,ld' false 1 36 37 1,o3 (.bin .add (.tmp 37) (ci' 1)) 38 3,fa' 3 1 3 39 7,o0 (.store 1 (.tmp 39) (.tmp 38)) 15]
def ybpj:LO:=[fa' 4 1 3 40 0,ld' false 1 40 41 1,mv' 1 42 0,bn' .andNot 41 42 43 7,mv' 2 44 0,bn' .and 43 44 45 31,fa' 4 1 3 46 63,o0 (.store 1 (.tmp 46) (.tmp 45)) 127]
def yboj:LO:=[fa' 4 1 3 47 0,ld' false 1 47 48 1,o3 (.bin .eql (.tmp 48) (.const (.int .u32 0))) 49 3]
def ybto:LO:=[fa' 3 1 3 50 0,ld' false 1 50 51 1,fa' 2 1 3 52 3,o0 (.store 1 (.tmp 52) (.tmp 51)) 7]
def ybpi:LO:=[mv' 2 53 0,fa' 4 1 3 54 1,o0 (.store 1 (.tmp 54) (.tmp 53)) 3]
def ybbh:LO:=[ld' true 5 3 55 0,o0 (.store 5 (.tmp 6) (.tmp 55)) 1,o3 (.mv (ci' 0)) 7 3]
def c148:SC:=(.seq (.reg false ycmj) (.seq (.seq (.reg false ycfs) (.cond (.tmp 10) (.seq (.reg false ycuv) .ret) .skip)) (.seq (.seq (.reg false ycht) (.cond (.tmp 20) (.seq (.reg false ydcp) .ret) .skip)) (.seq (.seq (.reg false ycaa) (.cond (.tmp 24) (.seq (.reg false ycwa) .ret) .skip)) (.seq (.reg false ycnm) (.seq (.reg true yccp) (.seq (.reg false ycdc) (.seq (.reg false ybpj) (.seq (.seq (.reg false yboj) (.cond (.tmp 49) (.seq (.reg false ybto) (.reg false ybpi)) .skip)) (.seq (.reg false ybbh) .ret))))))))))
theorem ycpl:Fn 148 c148 [.c 6 true 5,.t 7]:=fn_0 Tryz.func148 (by kernel_rfl) (by kernel_rfl)
def ycly:LO:=[o3 (.mv (ci' 0)) 2 0]
def ybzu:LO:=[mv' 0 3 0,o3 (.bin .shr (.tmp 3) (.const (.int .u64 24))) 4 1,o3 (.stri ytj (.tmp 4)) 5 3,mv' 0 6 0,o3 (.bin .shr (.tmp 6) (.const (.int .u64 16))) 7 8,o3 (.bin .and (.tmp 7) (.const (.int .u32 255))) 8 24,o3 (.stri ytj (.tmp 8)) 9 56,bn' .add 5 9 10 127,mv' 0 11 0,o3 (.bin .shr (.tmp 11) (.const (.int .u64 8))) 12 256,o3 (.bin .and (.tmp 12) (.const (.int .u32 255))) 13 768,o3 (.stri ytj (.tmp 13)) 14 1792,bn' .add 10 14 15 4095,mv' 0 16 0,o3 (.bin .and (.tmp 16) (.const (.int .u32 255))) 17 8192,o3 (.stri ytj (.tmp 17)) 18 24576,bn' .add 15 18 19 65535,o3 (.conv .i64 (.tmp 19)) 20 131071,mv' 20 2 262143]
def c179:SC:=(.seq (.reg false ycly) (.seq (.reg true ybzu) .ret))
theorem ycqj:Fn 179 c179 [.t 2]:=fn_0 Tryz.func179 (by kernel_rfl) (by kernel_rfl)
def ycne:LO:=[o3 (.box 28 (.tmp 0)) 1 0,o3 (.mv (.const (.slice none 0 0))) 2 0]
def ycbf:LO:=[fa' 1 1 1 8 0,ld' false 1 8 9 1,ln' 9 10 3,o3 (.mk 44 1 4 [.i .u32 0] (.tmp 10) (.tmp 10)) 11 7,mv' 11 3 15]
def ychk:LO:=[fa' 1 1 1 12 0,ld' false 1 12 13 1,ln' 13 14 3,o3 (.mv (ci' 0)) 15 0]
def ychv:LO:=[bn' .lss 15 14 16 0]
def ycho:LO:=[mv' 15 17 0,ix' 1 13 15 18 0,ld' false 1 18 19 2,mv' 17 4 7,mv' 19 5 15]
def ycea:LO:=[mv' 5 20 0,ln' 20 21 1,o3 (.mv (ci' 0)) 22 0]
def ycja:LO:=[bn' .lss 22 21 23 0]
def ycfv:LO:=[ix' 2 20 22 24 0,ld' true 2 24 25 1,o3 (.alloc 43 1 [.i .i64 0,.i .i64 0]) 7 0,o0 (.store 2 (.tmp 7) (.tmp 25)) 7]
def ycdv:LO:=[mv' 3 26 0,mv' 4 27 0,ix' 1 26 27 28 3,ld' false 1 28 29 7,fa' 0 1 7 30 0,ld' false 1 30 31 16,o3 (.bin .shl (.const (.int .u32 1)) (.tmp 31)) 32 48,bn' .or 29 32 33 127,ix' 1 26 27 34 255,o0 (.store 1 (.tmp 34) (.tmp 33)) 511]
def ycno:LO:=[o3 (.bin .add (.tmp 22) (ci' 1)) 35 0,mv' 35 22 1]
def ybph:LO:=[o3 (.bin .add (.tmp 15) (ci' 1)) 36 0,mv' 36 15 1]
def ybol:LO:=[mv' 3 37 0,mv' 37 2 1]
def c119:SC:=(.seq (.reg false ycne) (.seq (.reg false ycbf) (.seq (.seq (.reg false ychk) (.block 0 (.loop (.seq (.reg false ychv) (.seq (.cond (.tmp 16) .skip (.exit 0)) (.seq (.block 1 (.seq (.reg false ycho) (.seq (.reg false ycea) (.block 2 (.loop (.seq (.reg false ycja) (.seq (.cond (.tmp 23) .skip (.exit 2)) (.seq (.block 3 (.seq (.reg false ycfv) (.reg true ycdv))) (.reg false ycno))))))))) (.reg false ybph))))))) (.seq (.reg false ybol) .ret))))
theorem ycos:Fn 119 c119 [.t 2]:=fn_0 Tryz.func119 (by kernel_rfl) (by kernel_rfl)
def ybsm:LO:=[o3 (.mv (.const (.bool false))) 8 0]
def ybni:LO:=[mv' 3 9 0,o3 (.bin .eql (.tmp 9) (.const (.int .u32 0))) 10 1,mv' 10 11 3,⟨.mv (.tmp 3),some 12,some (11,false),7⟩,⟨.mv (.tmp 2),some 13,some (11,false),7⟩,⟨.bin .andNot (.tmp 12) (.tmp 13),some 14,some (11,false),31⟩,⟨.bin .neq (.tmp 14) (.const (.int .u32 0)),some 15,some (11,false),63⟩,o3 (.pick (.tmp 11) (.const (.bool true)) (.tmp 15)) 16 127]
def ydbo:LO:=[o3 (.mv (.const (.bool false))) 8 0]
def ybrr:LO:=[mv' 1 17 0]
def yblr:LO:=[o3 (.bin .eql (.tmp 17) (ci' 1)) 19 0,mv' 19 18 1]
def yczz:LO:=[mv' 3 20 0,mv' 3 21 0,o3 (.bin .sub (.tmp 21) (.const (.int .u32 1))) 22 2,bn' .and 20 22 23 7,o3 (.bin .eql (.tmp 23) (.const (.int .u32 0))) 24 15,mv' 24 8 31]
def ybtq:LO:=[o3 (.bin .eql (.tmp 17) (ci' 2)) 26 0,mv' 26 25 1]
def ycum:LO:=[mv' 0 27 0,mv' 3 28 0,cl' 175 [27,28] 29 3,mv' 29 8 7]
def ybli:LO:=[o3 (.bin .eql (.tmp 17) (ci' 4)) 31 0,mv' 31 30 1]
def ycdz:LO:=[mv' 3 32 0,mv' 2 33 0,bn' .eql 32 33 34 3,mv' 34 8 7]
def ybcf:LO:=[o3 (.mv (.const (.bool true))) 8 0]
def c146:SC:=(.seq (.reg false ybsm) (.seq (.seq (.reg false ybni) (.cond (.tmp 16) (.seq (.reg false ydbo) .ret) .skip)) (.seq (.seq (.reg false ybrr) (.block 0 (.seq (.reg false yblr) (.cond (.tmp 18) (.seq (.reg false yczz) .ret) (.seq (.reg false ybtq) (.cond (.tmp 25) (.seq (.reg false ycum) .ret) (.seq (.reg false ybli) (.cond (.tmp 30) (.seq (.reg false ycdz) .ret) .skip)))))))) (.seq (.reg false ybcf) .ret))))
theorem ybsp:Fn 146 c146 [.t 8]:=fn_0 Tryz.func146 (by kernel_rfl) (by kernel_rfl)
def yzo:LO:=[o3 (.box 103 (.tmp 0)) 4 0,o3 (.mv (.const (.int .u32 0))) 8 0]
def yyu:LO:=[mv' 3 11 0,mv' 2 12 0,bn' .and 11 12 13 3,mv' 13 3 7]
def yxx:LO:=[mv' 3 14 0,o3 (.bin .eql (.tmp 14) (.const (.int .u32 0))) 15 1]
def yzf:LO:=[mv' 2 16 0,mv' 2 17 0,o3 (.un .neg (.tmp 17)) 18 2,bn' .and 16 18 19 7,mv' 19 3 15]
def yri:LO:=[mv' 1 20 0]
def yqj:LO:=[o3 (.bin .eql (.tmp 20) (ci' 1)) 22 0,mv' 22 21 1]
def ycyq:LO:=[mv' 3 23 0,mv' 3 24 0,o3 (.un .neg (.tmp 24)) 25 2,bn' .and 23 25 26 7,mv' 26 8 15]
def yqe:LO:=[o3 (.bin .eql (.tmp 20) (ci' 2)) 28 0,mv' 28 27 1]
def ydbx:LO:=[o3 (.alloc 44 1 [.i .u32 0]) 9 0,o0 (.store 1 (.tmp 9) (.const (.int .u32 0))) 1]
def ycvu:LO:=[mv' 3 29 0,cl' 149 [29] 30 1]
def ycsc:LO:=[mv' 31 10 0]
def yctk:LO:=[ld' false 1 4 32 0,mv' 10 33 0,ix' 1 32 33 34 3,ld' false 1 34 35 7,ld' false 1 9 36 0,bn' .and 35 36 37 31,o3 (.bin .eql (.tmp 37) (.const (.int .u32 0))) 38 63]
def ycoj:LO:=[ld' false 1 9 39 0,mv' 10 40 0,o3 (.bin .shl (.const (.int .u32 1)) (.tmp 40)) 41 2,bn' .or 39 41 42 7,o0 (.store 1 (.tmp 9) (.tmp 42)) 15]
def ycsu:LO:=[ld' false 1 9 43 0,mv' 43 8 1]
def ykk:LO:=[o3 (.bin .eql (.tmp 20) (ci' 4)) 45 0,mv' 45 44 1]
def yvd:LO:=[mv' 2 46 0,mv' 46 8 1]
def ywq:LO:=[mv' 3 47 0,mv' 47 8 1]
def c123:SC:=(.seq (.reg false yzo) (.seq (.reg false yyu) (.seq (.seq (.reg false yxx) (.cond (.tmp 15) (.reg false yzf) .skip)) (.seq (.seq (.reg false yri) (.block 0 (.seq (.reg false yqj) (.cond (.tmp 21) (.seq (.reg false ycyq) .ret) (.seq (.reg false yqe) (.cond (.tmp 27) (.seq (.reg false ydbx) (.seq (.seq (.reg false ycvu) (.block 1 (.range (.tmp 30) [31] (.reg false ycsc) (.block 2 (.seq (.reg true yctk) (.cond (.tmp 38) (.reg true ycoj) .skip)))))) (.seq (.reg false ycsu) .ret))) (.seq (.reg false ykk) (.cond (.tmp 44) (.seq (.reg false yvd) .ret) .skip)))))))) (.seq (.reg false ywq) .ret)))))
theorem yvp:Fn 123 c123 [.t 8]:=fn_0 Tryz.func123 (by kernel_rfl) (by kernel_rfl)
def ycgv:LO:=[o3 (.mv (.const (.bool false))) 2 0]
def yclk:LO:=[mv' 0 3 0,o3 (.bin .geq (.tmp 3) (ci' 1)) 4 1,mv' 4 5 3,⟨.mv (.tmp 0),some 6,some (5,true),7⟩,⟨.bin .leq (.tmp 6) (ci' 4),some 7,some (5,true),15⟩,o3 (.pick (.tmp 5) (.tmp 7) (.const (.bool false))) 8 31,mv' 8 2 63]
def c118:SC:=(.seq (.reg false ycgv) (.seq (.reg false yclk) .ret))
theorem ycsg:Fn 118 c118 [.t 2]:=fn_0 Tryz.func118 (by kernel_rfl) (by kernel_rfl)
def ycuz:LO:=[o3 (.box 53 (.tmp 0)) 5 0,o3 (.box 28 (.tmp 1)) 6 0,o3 (.mv (ci' 0)) 10 0]
def yddp:LO:=[ld' true 3 5 12 0,ld' true 2 6 13 0,mv' 3 14 0,cl' 102 [12,13,14] 15 7,mv' 15 11 15]
def ycyd:LO:=[mv' 11 16 0,o3 (.bin .neq (.tmp 16) (ci' 0)) 17 1]
def ydfd:LO:=[mv' 11 18 0,mv' 18 10 1]
def ydbd:LO:=[mv' 2 19 0,cl' 118 [19] 20 1,o3 (.un .not (.tmp 20)) 21 3]
def ydfw:LO:=[o3 (.mv (ci' 12)) 10 0]
def ydbj:LO:=[mv' 4 22 0,o3 (.bin .gtr (.tmp 22) (ci' 4096)) 23 1]
def ydgc:LO:=[o3 (.mv (ci' 3)) 10 0]
def ycyw:LO:=[o3 (.mv (ci' 0)) 10 0]
def c89:SC:=(.seq (.reg false ycuz) (.seq (.seq (.reg false yddp) (.seq (.reg false ycyd) (.cond (.tmp 17) (.seq (.reg false ydfd) .ret) .skip))) (.seq (.seq (.reg false ydbd) (.cond (.tmp 21) (.seq (.reg false ydfw) .ret) .skip)) (.seq (.seq (.reg false ydbj) (.cond (.tmp 23) (.seq (.reg false ydgc) .ret) .skip)) (.seq (.reg false ycyw) .ret)))))
theorem ycwt:Fn 89 c89 [.t 10]:=fn_0 Tryz.func89 (by kernel_rfl) (by kernel_rfl)
def ycyy:LO:=[o3 (.box 53 (.tmp 0)) 4 0,o3 (.box 28 (.tmp 1)) 5 0,o3 (.alloc 106 1 [.a (.pointer none),.a (.slice none 0 0),.i .i64 0,.i .u32 0,.a (.nilFunc)]) 8 0]
def ydbb:LO:=[ld' true 3 4 9 0,ld' true 2 5 10 0,cl' 64 [9,10] 11 3,ld' true 2 5 12 0,cl' 119 [12] 13 15,mv' 2 14 0,ld' true 2 5 15 0,cl' 120 [15] 16 95,mv' 3 17 0,o3 (.build [.a (.pointer none),.a (.slice none 0 0),.i .i64 0,.i .u32 0,.a (.nilFunc)] [(0,1,(.tmp 11)),(1,1,(.tmp 13)),(2,1,(.tmp 14)),(3,1,(.tmp 16)),(4,1,(.tmp 17))]) 18 511,o0 (.store 5 (.tmp 8) (.tmp 18)) 1023]
def c90:SC:=(.seq (.reg false ycyy) (.seq (.reg true ydbb) .ret))
theorem ycpb:FnM 90 c90 [.c 8 true 5]:=fn_m Tryz.func90 (by kernel_rfl) (by kernel_rfl)
def ycez:LO:=[o3 (.box 106 (.tmp 0)) 4 0,o3 (.alloc 110 1 [.a (.slice none 0 0),.a (.slice none 0 0),.a (.slice none 0 0),.i .i64 0,.i .i64 0,.i .i64 0,.i .i64 0,.i .u32 0]) 8 0,o3 (.mv (ci' 0)) 9 0]
def ycfa:LO:=[o3 (.alloc 110 1 [.a (.slice none 0 0),.a (.slice none 0 0),.a (.slice none 0 0),.i .i64 0,.i .i64 0,.i .i64 0,.i .i64 0,.i .u32 0]) 10 0]
def ycmo:LO:=[mv' 1 16 0,cl' 92 [16] 17 1,mv' 17 1 3]
def ycil:LO:=[fa' 0 1 4 18 0,ld' false 1 18 19 1,mv' 1 20 0,cl' 65 [19,20] 21 7,fa' 3 1 4 22 0,ld' false 1 22 23 16,bn' .and 21 23 24 63,mv' 24 11 127]
def ycaz:LO:=[mv' 11 25 0,cl' 145 [25] 26 1,o3 (.alloc 46 1 [.i .i64 0,.i .i64 0,.i .i64 0,.i .i64 0,.i .u32 0]) 12 0,o0 (.store 5 (.tmp 12) (.tmp 26)) 7]
def ycce:LO:=[fa' 4 1 4 27 0,ld' false 1 27 28 1,mv' 1 29 0,mv' 11 30 0,ld' true 5 12 31 0,o3 (.call (.tmp 28) [(.tmp 29),(.tmp 30),(.tmp 31)]) 32 31]
def yclw:LO:=[fa' 1 1 10 33 0,ld' false 1 33 34 1,mv' 11 35 0,o3 (.bslice 44 1 1 [.i .u32 0] [(0,1,(.tmp 35))]) 36 4,o3 (.app 44 1 4 (.tmp 34) (.tmp 36)) 37 15,fa' 1 1 10 38 31,o0 (.store 1 (.tmp 38) (.tmp 37)) 63]
def yclf:LO:=[mv' 2 39 0,o3 (.mv (ci' 0)) 40 0]
def ycla:LO:=[bn' .lss 40 39 41 0]
def yciw:LO:=[mv' 40 42 0,mv' 42 13 1]
def ybos:LO:=[mv' 3 44 0,mv' 13 45 0,mv' 11 46 0,o3 (.call (.tmp 44) [(.tmp 45),(.tmp 46)]) 47 7,mv' 47 43 15,xt' 43 0 48 31,xt' 43 1 49 31,mv' 48 14 63,mv' 49 15 255]
def ybeg:LO:=[mv' 15 50 0,o3 (.un .not (.tmp 50)) 51 1]
def ybtk:LO:=[fa' 1 1 4 52 0,ld' false 1 52 53 1,fa' 2 1 4 54 0,ld' false 1 54 55 4,mv' 11 56 0,mv' 14 57 0,cl' 146 [53,55,56,57] 58 63,o3 (.un .not (.tmp 58)) 59 127]
def ycse:LO:=[o3 (.build [.a (.slice none 0 0),.a (.slice none 0 0),.a (.slice none 0 0),.i .i64 0,.i .i64 0,.i .i64 0,.i .i64 0,.i .u32 0] []) 60 0,o0 (.store 8 (.tmp 8) (.tmp 60)) 1,o3 (.mv (ci' 11)) 9 3]
def ybuk:LO:=[fa' 0 1 4 61 0,ld' false 1 61 62 1,mv' 1 63 0,mv' 14 64 0,cl' 147 [62,63,64] 65 15,mv' 65 1 31]
def ybne:LO:=[fa' 0 1 4 66 0,ld' false 1 66 67 1,mv' 1 68 0,cl' 65 [67,68] 69 7,fa' 3 1 4 70 0,ld' false 1 70 71 16,bn' .and 69 71 72 63,mv' 72 11 127]
def yblk:LO:=[ld' true 5 12 74 0,mv' 14 75 0,mv' 11 76 0,cl' 148 [74,75,76] 77 7,mv' 77 73 15,xt' 73 0 78 31,xt' 73 1 79 31,o0 (.store 5 (.tmp 12) (.tmp 78)) 63]
def ybob:LO:=[fa' 4 1 4 80 0,ld' false 1 80 81 1,mv' 1 82 0,mv' 11 83 0,ld' true 5 12 84 0,o3 (.call (.tmp 81) [(.tmp 82),(.tmp 83),(.tmp 84)]) 85 31]
def ybog:LO:=[fa' 0 1 10 86 0,ld' false 1 86 87 1,mv' 14 88 0,o3 (.bslice 44 1 1 [.i .u32 0] [(0,1,(.tmp 88))]) 89 4,o3 (.app 44 1 4 (.tmp 87) (.tmp 89)) 90 15,fa' 0 1 10 91 31,o0 (.store 1 (.tmp 91) (.tmp 90)) 63]
def ybtg:LO:=[fa' 1 1 10 92 0,ld' false 1 92 93 1,mv' 11 94 0,o3 (.bslice 44 1 1 [.i .u32 0] [(0,1,(.tmp 94))]) 95 4,o3 (.app 44 1 4 (.tmp 93) (.tmp 95)) 96 15,fa' 1 1 10 97 31,o0 (.store 1 (.tmp 97) (.tmp 96)) 63]
def ybpc:LO:=[o3 (.bin .add (.tmp 40) (ci' 1)) 98 0,mv' 98 40 1]
def ybce:LO:=[mv' 1 99 0,ld' true 5 12 100 0,fa' 2 1 10 101 1,o0 (.store 1 (.tmp 101) (.tmp 99)) 5,fa' 3 5 10 102 15,o0 (.store 5 (.tmp 102) (.tmp 100)) 31]
def ybdr:LO:=[ld' true 8 10 103 0,o0 (.store 8 (.tmp 8) (.tmp 103)) 1,o3 (.mv (ci' 0)) 9 3]
def c121:SC:=(.seq (.reg false ycez) (.seq (.reg false ycfa) (.seq (.reg false ycmo) (.seq (.reg true ycil) (.seq (.reg false ycaz) (.seq (.reg false ycce) (.seq (.reg false yclw) (.seq (.seq (.reg false yclf) (.block 0 (.loop (.seq (.reg false ycla) (.seq (.cond (.tmp 41) .skip (.exit 0)) (.seq (.block 1 (.seq (.reg false yciw) (.seq (.reg false ybos) (.seq (.seq (.reg false ybeg) (.cond (.tmp 51) (.exit 0) .skip)) (.seq (.seq (.reg false ybtk) (.cond (.tmp 59) (.seq (.reg false ycse) .ret) .skip)) (.seq (.reg false ybuk) (.seq (.reg true ybne) (.seq (.reg false yblk) (.seq (.reg false ybob) (.seq (.reg false ybog) (.reg false ybtg))))))))))) (.reg false ybpc))))))) (.seq (.reg true ybce) (.seq (.reg false ybdr) .ret))))))))))
theorem ybxe:FnM 121 c121 [.c 8 true 8,.t 9]:=fn_m Tryz.func121 (by kernel_rfl) (by kernel_rfl)
def yday:LO:=[o3 (.box 106 (.tmp 0)) 3 0,o3 (.box 25 (.tmp 2)) 5 0,o3 (.alloc 110 1 [.a (.slice none 0 0),.a (.slice none 0 0),.a (.slice none 0 0),.i .i64 0,.i .i64 0,.i .i64 0,.i .i64 0,.i .u32 0]) 6 0,o3 (.mv (ci' 0)) 7 0]
def ycxg:LO:=[ld' true 5 3 8 0,mv' 1 9 0,ld' false 1 5 10 0,ln' 10 11 4,o3 (.mkfn 122 [] [(.tmp 3),(.tmp 5)]) 12 0,cl' 121 [8,9,11,12] 13 31,xt' 13 0 14 63,xt' 13 1 15 63,o0 (.store 8 (.tmp 6) (.tmp 14)) 255,mv' 15 7 511]
def c93:SC:=(.seq (.reg false yday) (.seq (.reg false ycxg) .ret))
theorem ycpo:FnM 93 c93 [.c 6 true 8,.t 7]:=fn_m Tryz.func93 (by kernel_rfl) (by kernel_rfl)
def ybow:LO:=[o3 (.mv (.const (.int .u32 0))) 6 0,o3 (.mv (.const (.bool false))) 7 1]
def ybtw:LO:=[fa' 1 1 2 8 0,ld' false 1 8 9 1,fa' 2 1 2 10 0,ld' false 1 10 11 4,mv' 1 12 0,ld' false 1 3 13 0,mv' 0 14 0,ix' 1 13 14 15 96,ld' false 1 15 16 224,cl' 123 [9,11,12,16] 17 511,mv' 1 18 0,o3 (.bin .neq (.tmp 18) (.const (.int .u32 0))) 19 1024,mv' 17 6 1023,mv' 19 7 8191]
def c122:SC:=(.seq (.reg false ybow) (.seq (.reg true ybtw) .ret))
theorem ybln:Fn 122 c122 [.t 6,.t 7]:=fn_0 Tryz.func122 (by kernel_rfl) (by kernel_rfl)
def ycxv:LO:=[o3 (.box 53 (.tmp 0)) 5 0,o3 (.box 28 (.tmp 1)) 6 0,o3 (.mv (.const (.slice none 0 0))) 10 0,o3 (.mv (.const (.slice none 0 0))) 11 4,o3 (.mv (ci' 0)) 12 12]
def ycus:LO:=[ld' true 3 5 19 0,ld' true 2 6 20 0,mv' 2 21 0,mv' 3 22 0,mv' 4 23 0,ln' 23 24 16,cl' 89 [19,20,21,22,24] 25 63,mv' 25 13 127]
def ydcx:LO:=[mv' 13 26 0,o3 (.bin .neq (.tmp 26) (ci' 0)) 27 1]
def ydfo:LO:=[mv' 13 28 0,o3 (.mv (.const (.slice none 0 0))) 10 0,o3 (.mv (.const (.slice none 0 0))) 11 2,mv' 28 12 7]
def ydal:LO:=[o3 (.alloc 30 1 [.a (.slice none 0 0)]) 14 0]
def ycwd:LO:=[o3 (.alloc 31 1 [.a (.slice none 0 0)]) 15 0]
def yddq:LO:=[ld' true 3 5 29 0,ld' true 2 6 30 0,mv' 2 31 0,o3 (.mkfn 91 [] [(.tmp 14),(.tmp 15)]) 32 0,cl' 90 [29,30,31,32] 33 15,o3 (.alloc 106 1 [.a (.pointer none),.a (.slice none 0 0),.i .i64 0,.i .u32 0,.a (.nilFunc)]) 16 0,o0 (.store 5 (.tmp 16) (.tmp 33)) 63]
def ycxz:LO:=[ld' true 5 16 35 0,mv' 3 36 0,mv' 4 37 0,cl' 93 [35,36,37] 38 7,mv' 38 34 15,xt' 34 0 39 31,xt' 34 1 40 31,o3 (.alloc 110 1 [.a (.slice none 0 0),.a (.slice none 0 0),.a (.slice none 0 0),.i .i64 0,.i .i64 0,.i .i64 0,.i .i64 0,.i .u32 0]) 17 0,o0 (.store 8 (.tmp 17) (.tmp 39)) 191,mv' 40 18 511]
def ycwf:LO:=[mv' 18 41 0,o3 (.bin .neq (.tmp 41) (ci' 0)) 42 1]
def ydfb:LO:=[mv' 18 43 0,o3 (.mv (.const (.slice none 0 0))) 10 0,o3 (.mv (.const (.slice none 0 0))) 11 2,mv' 43 12 7]
def ycbj:LO:=[ld' false 1 14 44 0,ld' false 1 15 45 0,mv' 44 10 1,mv' 45 11 7,o3 (.mv (ci' 0)) 12 15]
def c49:SC:=(.seq (.reg false ycxv) (.seq (.seq (.reg false ycus) (.seq (.reg false ydcx) (.cond (.tmp 27) (.seq (.reg false ydfo) .ret) .skip))) (.seq (.reg false ydal) (.seq (.reg false ycwd) (.seq (.reg false yddq) (.seq (.seq (.reg false ycxz) (.seq (.reg false ycwf) (.cond (.tmp 42) (.seq (.reg false ydfb) .ret) .skip))) (.seq (.reg true ycbj) .ret)))))))
theorem ycte:FnU 49 c49 [.t 10,.t 11,.t 12]:=fn_u Tryz.func49 (by kernel_rfl) (by kernel_rfl)
def ycsb:LO:=[o3 (.box 46 (.tmp 2)) 7 0]
def ycua:LO:=[ld' false 1 3 8 0,mv' 0 9 0,cl' 92 [9] 10 2,o3 (.bslice 35 1 1 [.a (.slice none 0 0)] [(0,1,(.tmp 10))]) 11 6,o3 (.app 35 1 24 (.tmp 8) (.tmp 11)) 12 15,o0 (.store 1 (.tmp 3) (.tmp 12)) 31]
def yctl:LO:=[ld' false 1 4 13 0,ld' true 5 7 14 0,o3 (.bslice 46 5 1 [.i .i64 0,.i .i64 0,.i .i64 0,.i .i64 0,.i .u32 0] [(0,5,(.tmp 14))]) 15 2,o3 (.app 46 5 40 (.tmp 13) (.tmp 15)) 16 7,o0 (.store 1 (.tmp 4) (.tmp 16)) 15]
def c91:SC:=(.seq (.reg false ycsb) (.seq (.reg true ycua) (.reg false yctl)))
theorem yboe:FnM 91 c91 []:=fn_m Tryz.func91 (by kernel_rfl) (by kernel_rfl)
end Sh
end Go.Proofs.YtpngeppkgoaimaaGreatDoor

namespace Go.Proofs.YtpngeppkgoaimaaGreatDoor

structure VarR where
 name:ByteArray
 kind:Int
 lo:Int
 hi:Int
 perNode:Int
 perID:Int

def varE:Elem VarR:=fun w b o x=>w.cell? ⟨b,o,none⟩ = some (.string x.name) /\ w.cell? ⟨b,o + 1,none⟩ = some (.int .i64 x.kind) /\ w.cell? ⟨b,o + 2,none⟩ = some (.int .i64 x.lo) /\ w.cell? ⟨b,o + 3,none⟩ = some (.int .i64 x.hi) /\
 w.cell? ⟨b,o + 4,none⟩ = some (.int .i64 x.perNode) /\ w.cell? ⟨b,o + 5,none⟩ = some (.int .i64 x.perID)
theorem Stable.var:Stable varE:=fun _ _ _ _ _ h _ hx=>⟨h _ _ hx.1,h _ _ hx.2.1,h _ _ hx.2.2.1,h _ _ hx.2.2.2.1,h _ _ hx.2.2.2.2.1,h _ _ hx.2.2.2.2.2⟩
theorem ybjm (ids:List Int) (k:Nat) (hk:k < ids.length):(ids.take (k + 1)).foldl max 0 = max ((ids.take k).foldl max 0) ids[k]:=by
 rw [take_snoc ids k hk,List.foldl_append]
 rfl
theorem yzq (D:List Int) (m:Int) (h:∀ x ∈ D,x <= m):∀ a:Int,a <= m -> D.foldl max a <= m:=by
 induction D with
 | nil=>intro a ha; exact ha
 | cons x D ih=>intro a ha; exact ih (fun y hy=>h y (by simp [hy])) _ (Int.max_le.2 ⟨ha,h x (by simp)⟩)
theorem yqg {g:Gr} (hg:ybc g):0 <= ybue g /\ ybue g <= 255:=⟨yiy _ _,yzq _ _ (fun x hx=>(hg.2.2.2.1 x hx).2) _ (by omega)⟩
end Go.Proofs.YtpngeppkgoaimaaGreatDoor

namespace Go.Proofs.YtpngeppkgoaimaaGreatDoor

abbrev Tm:=Int × Int
structure SetR where
 var:Int
 val:List Tm
structure RuleR where
 name:ByteArray
 guard:List Tm
 sets:List SetR
structure ProgR where
 name:ByteArray
 vars:List VarR
 rules:List RuleR
instance:Inhabited VarR:=⟨⟨.empty,0,0,0,0,0⟩⟩
instance:Inhabited SetR:=⟨⟨0,[]⟩⟩
instance:Inhabited RuleR:=⟨⟨.empty,[],[]⟩⟩

inductive Ex where
 | leaf (op arg:Int)
 | un (op:Int) (a:Ex)
 | agg (op:Int) (a:Ex)
 | bin (op:Int) (a b:Ex)
 | ite (c a b:Ex)
def Ex.ser:Ex -> List Tm
 | .leaf op arg=>[(op,arg)]
 | .un op a=>(op,0) :: a.ser
 | .agg op a=>(op,0) :: a.ser
 | .bin op a b=>(op,0) :: (a.ser ++ b.ser)
 | .ite c a b=>(43,0) :: (c.ser ++ (a.ser ++ b.ser))

def satP (a:Int):Int:=max (-1073741824) (min a 1073741824)
def ybx (b:Bool):Int:=if b then 1 else 0
def ysk (a b:Int):Int:=if b = 0 then 0 else if a.tmod b ≠ 0 /\ (decide (a < 0) ≠ decide (b < 0)) then a.tdiv b - 1 else a.tdiv b
def unP (op a:Int):Int:=if op = 18 then -a else ybx (a == 0)
def cmpP (op a b:Int):Bool:=if op = 35 then a == b else if op = 36 then a != b else if op = 37 then decide (a < b) else if op = 38 then decide (a <= b) else if op = 39 then decide (a > b) else decide (a >= b)
def binP (op a b:Int):Int :=
 if op = 30 then satP (a * b) else if op = 31 then satP (ysk a b) else if op = 32 then (if b = 0 then 0 else satP (a - b * ysk a b)) else if op = 33 then satP (a + b) else if op = 34 then satP (a - b)
 else if op = 41 then ybx (a != 0 && b != 0) else if op = 42 then ybx (a != 0 || b != 0) else ybx (cmpP op a b)
def countP (l:List Int):Int:=((l.filter (· != 0)).length:Int)
def yiu (l:List Int):Int:=l.foldl min 1073741824
def ydp (l:List Int):Int × Int:=l.foldl (fun p a=>if a > p.1 then (a,p.1) else (p.1,max p.2 a)) (-1073741824,-1073741824)
def ysm (l:List Int):Nat -> Int -> Int
 | 0,r=>r
 | n + 1,r=>if l.elem r then ysm l n (r + 1) else r
def mexP (l:List Int):Int:=ysm l (l.length + 1) 0
def ydt (l:List Int):Int:=match l.findIdx? (· != 0) with | some i=>i | none=>-1
def ygx (op:Int) (l:List Int):Int :=
 if op = 20 then ybx (countP l == l.length) else if op = 21 then ybx (decide (countP l > 0)) else if op = 22 then countP l else if op = 23 then ydt l else if op = 24 then yiu l else if op = 25 then (ydp l).1
 else if op = 26 then satP l.sum else if op = 27 then mexP l else if op = 28 then (ydp l).2 else l.headD 0

structure Sc where
 g:Gr
 c:Conf
def ybw (g:Gr) (v port:Nat):Int × Int:=(g.ports.getD v []).getD port (0,0)
def yjf (g:Gr) (v:Nat):List Int:=(g.ports.getD v []).map fun l=>ygg (g.ports.getD l.1.toNat []) v
def ylm (g:Gr) (op:Int) (v:Nat) (port:Int):Int :=
 if op = 6 then g.ids.length else if op = 7 then ybue g else if op = 8 then g.ids.getD v 0 else if op = 9 then ((g.ports.getD v []).length:Int) else if op = 10 then ybx ((v:Int) == 0) else if op = 11 then port
 else (let l:=ybw g v port.toNat
  if op = 13 then g.ids.getD l.1.toNat 0 else if op = 14 then ((g.ports.getD l.1.toNat []).length:Int) else if op = 15 then ybx (l.1 == 0) else if op = 16 then l.2 else (yjf g v).getD port.toNat 0)
def ypz (g:Gr) (c:Conf) (op arg:Int) (v:Nat) (port:Int):Int :=
 if op = 1 then arg else if op = 2 then 1 else if op = 3 then 0 else if op = 4 then -1 else if op = 5 then (c.getD v []).getD arg.toNat 0 else if op = 12 then (c.getD (ybw g v port.toNat).1.toNat []).getD arg.toNat 0
 else ylm g op v port
def ybt (g:Gr) (c:Conf) (v:Nat):Ex -> Int -> Int
 | .leaf op arg,p=>ypz g c op arg v p
 | .un op a,p=>unP op (ybt g c v a p)
 | .agg op a,_=>ygx op ((List.range (g.ports.getD v []).length).map fun (q:Nat)=>ybt g c v a (q:Int))
 | .bin op a b,p=>binP op (ybt g c v a p) (ybt g c v b p)
 | .ite x a b,p=>if ybt g c v x p ≠ 0 then ybt g c v a p else ybt g c v b p

def Ex.ok (nv:Int) (bnd:Bool):Ex -> Bool
 | .leaf op arg=>decide (1 <= op /\ op <= 17) && (if op = 1 then decide (0 <= arg /\ arg <= 1073741824) else if op = 5 \/ op = 12 then decide (0 <= arg /\ arg < nv) else true) && (if 11 <= op then bnd else true)
 | .un op a=>decide (op = 18 \/ op = 19) && a.ok nv bnd
 | .agg op a=>decide (20 <= op /\ op <= 29) && a.ok nv true
 | .bin op a b=>decide (30 <= op /\ op <= 42) && a.ok nv bnd && b.ok nv bnd
 | .ite x a b=>x.ok nv bnd && a.ok nv bnd && b.ok nv bnd

def InB (x:Int):Prop:=-1073741824 <= x /\ x <= 1073741824
theorem ynl (a:Int):InB (satP a):=by unfold InB satP; omega
theorem yfa (b:Bool):InB (ybx b):=by unfold InB ybx; cases b <;> simp
theorem yczj {op a:Int} (h:InB a):InB (unP op a):=by
 unfold unP
 split
 ·unfold InB at *; omega
 ·exact yfa _
theorem ycoe (op a b:Int):InB (binP op a b):=by
 unfold binP
 split; · exact ynl _
 split; · exact ynl _
 split
 ·split
  ·unfold InB; omega
  ·exact ynl _
 split; · exact ynl _
 split; · exact ynl _
 split; · exact yfa _
 split; · exact yfa _
 exact yfa _
theorem countP_le (l:List Int):0 <= countP l /\ countP l <= l.length:=by
 unfold countP
 have:=List.length_filter_le (· != 0) l
 omega
theorem ybrk (l:List Int) (h:∀ x ∈ l,InB x):InB (yiu l):=by
 unfold yiu
 have:∀ (l:List Int) (a:Int),InB a -> (∀ x ∈ l,InB x) -> InB (l.foldl min a):=by
  intro l
  induction l with
  | nil=>intro a ha _; exact ha
  | cons x l ih =>
   intro a ha hl
   refine ih _ ?_ fun y hy=>hl y (List.mem_cons_of_mem _ hy)
   have:=hl x List.mem_cons_self
   unfold InB at *; omega
 exact this l _ (by unfold InB; omega) h
theorem ytl (l:List Int) (h:∀ x ∈ l,InB x):InB (ydp l).1 /\ InB (ydp l).2:=by
 unfold ydp
 have:∀ (l:List Int) (p:Int × Int),InB p.1 /\ InB p.2 -> (∀ x ∈ l,InB x) -> InB (l.foldl (fun p a=>if a > p.1 then (a,p.1) else (p.1,max p.2 a)) p).1 /\ InB (l.foldl (fun p a=>if a > p.1 then (a,p.1) else (p.1,max p.2 a)) p).2:=by
  intro l
  induction l with
  | nil=>intro p hp _; exact hp
  | cons x l ih =>
   intro p hp hl
   refine ih _ ?_ fun y hy=>hl y (List.mem_cons_of_mem _ hy)
   have:=hl x List.mem_cons_self
   unfold InB at *
   dsimp only
   split <;> dsimp only <;> omega
 exact this l _ (by unfold InB; simp) h
theorem ybfg (l:List Int):∀ (n:Nat) (r:Int),r <= ysm l n r /\ ysm l n r <= r + n
 | 0,r=>by unfold ysm; omega
 | n + 1,r=>by
  unfold ysm
  have:=ybfg l n (r + 1)
  split <;> omega
theorem yyb (l:List Int):-1 <= ydt l /\ ydt l < l.length \/ ydt l = -1:=by
 unfold ydt
 split
 ·rename_i i hi
  obtain ⟨h,_⟩:=List.findIdx?_eq_some_iff_getElem.1 hi
  left; omega
 ·exact .inr rfl
theorem ybwe {op:Int} {l:List Int} (hl:l.length <= 1000) (h:∀ x ∈ l,InB x):InB (ygx op l):=by
 have hc:=countP_le l
 unfold ygx
 split; · exact yfa _
 split; · exact yfa _
 split; · unfold InB; omega
 split; · have:=yyb l; unfold InB; omega
 split; · exact ybrk l h
 split; · exact (ytl l h).1
 split; · exact ynl _
 split; · have:=ybfg l (l.length + 1) 0; unfold mexP InB; omega
 split; · exact (ytl l h).2
 cases l with
 | nil=>unfold InB; simp
 | cons x l=>exact h x List.mem_cons_self

structure ConfIn (n nv:Nat) (c:Conf):Prop where
 len:c.length = n
 row:∀ s ∈ c,s.length = nv /\ ∀ x ∈ s,InB x

theorem ConfIn.at_ {n nv:Nat} {c:Conf} (h:ConfIn n nv c) {v:Nat} (hv:v < n):(c.getD v []).length = nv /\ ∀ k,InB ((c.getD v []).getD k 0):=by
 have hlt:v < c.length:=by rw [h.len]; exact hv
 have e:c.getD v [] = c[v]:=by simp [List.getD,hlt]
 obtain ⟨h1,h2⟩:=h.row c[v] (List.getElem_mem hlt)
 rw [e]
 refine ⟨h1,fun k=>?_⟩
 rw [List.getD_eq_getElem?_getD]
 cases hk:c[v][k]? with
 | none=>simp; unfold InB; omega
 | some x=>simp; exact h2 x (List.mem_of_getElem? hk)
theorem ybc.ybw {g:Gr} (hg:ybc g) {v p:Nat} (hv:v < g.ports.length) (hp:p < (g.ports.getD v []).length):0 <= (ybw g v p).1 /\ (ybw g v p).1 < g.ports.length /\ 1 <= (ybw g v p).2 /\ (ybw g v p).2 <= 15:=by
 have e:g.ports.getD v [] = g.ports[v]:=by simp [List.getD,hv]
 have h1:=hg.2.2.2.2.2.1 ⟨v,hv⟩
 rw [e] at hp
 have hm:(g.ports[v])[p] ∈ g.ports[v]:=List.getElem_mem hp
 have h2:=h1.1 _ hm
 unfold yhg at h2
 have e2:Go.Proofs.YtpngeppkgoaimaaGreatDoor.ybw g v p = (g.ports[v])[p]:=by unfold Go.Proofs.YtpngeppkgoaimaaGreatDoor.ybw; rw [e]; simp [List.getD,hp]
 rw [e2]
 omega
theorem ybc.deg_lt {g:Gr} (hg:ybc g) {v:Nat}:(g.ports.getD v []).length < 24:=by
 by_cases hv:v < g.ports.length
 ·have h1:=hg.2.2.2.2.2.1 ⟨v,hv⟩
  have:=yrs hv h1
  have e:g.ports.getD v [] = g.ports[v]:=by simp [List.getD,hv]
  rw [e]
  have:=hg.2.1
  have h3:g.ports[(⟨v,hv⟩:Fin g.ports.length)].length = g.ports[v].length:=rfl
  omega
 ·rw [List.getD_eq_getElem?_getD,List.getElem?_eq_none (by omega)]
  simp
theorem ybc.id_in {g:Gr} (hg:ybc g) (v:Nat):0 <= g.ids.getD v 0 /\ g.ids.getD v 0 <= 255:=by
 rw [List.getD_eq_getElem?_getD]
 cases h:g.ids[v]? with
 | none=>simp
 | some x=>exact hg.2.2.2.1 x (List.mem_of_getElem? h)
theorem ybvy {g:Gr} {c:Conf} {n nv:Nat} (hg:ybc g) (hn:g.ports.length = n) (hc:ConfIn n nv c) {op arg:Int} {bnd:Bool} (ho:(Ex.leaf op arg).ok nv bnd = true) {v:Nat} (hv:v < n) {p:Int} (hp:bnd = true -> 0 <= p /\ p < (g.ports.getD v []).length) (hpi:InB p):InB (ypz g c op arg v p):=by
 subst hn
 have h24:=hg.2.1
 have hd:=hg.deg_lt (v:=v)
 unfold ypz
 simp only [Ex.ok,Bool.and_eq_true,decide_eq_true_eq] at ho
 obtain ⟨⟨ho1,ho2⟩,ho3⟩:=ho
 split
 ·rename_i h; rw [if_pos h] at ho2; simp at ho2; unfold InB; omega
 split; · unfold InB; omega
 split; · unfold InB; omega
 split; · unfold InB; omega
 split; · exact (hc.at_ hv).2 _
 split
 ·rename_i h
  rw [if_pos (by omega)] at ho3
  obtain ⟨q1,q2⟩:=hp ho3
  have hl:=hg.ybw hv (p:=p.toNat) (by omega)
  exact (hc.at_ (v:=(ybw g v p.toNat).1.toNat) (by omega)).2 _
 ·unfold ylm
  split; · rw [hg.2.2.1]; unfold InB; omega
  split; · have:=yqg hg; unfold InB; omega
  split; · have:=hg.id_in v; unfold InB; omega
  split; · unfold InB; omega
  split; · exact yfa _
  split; · exact hpi
  rename_i h6 h7 h8 h9 h10 h11
  rw [if_pos (by omega)] at ho3
  obtain ⟨q1,q2⟩:=hp ho3
  have hl:=hg.ybw hv (p:=p.toNat) (by omega)
  simp only
  split; · have:=hg.id_in (ybw g v p.toNat).1.toNat; unfold InB; omega
  split; · have:=hg.deg_lt (v:=(ybw g v p.toNat).1.toNat); unfold InB; omega
  split; · exact yfa _
  split; · unfold InB; omega
  ·unfold yjf
   rw [List.getD_eq_getElem?_getD,List.getElem?_map]
   cases hk:(g.ports.getD v [])[p.toNat]? with
   | none=>simp; unfold InB; omega
   | some l =>
    simp
    have hd2:=hg.deg_lt (v:=l.1.toNat)
    rcases yma (ls:=g.ports.getD l.1.toNat []) (u:=(v:Int)) with e | ⟨k,e,hk⟩
    ·simp at e; rw [e]; unfold InB; omega
    ·simp at e hk hd2; rw [e]; unfold InB; omega
theorem ygl {g:Gr} {c:Conf} {n nv:Nat} (hg:ybc g) (hn:g.ports.length = n) (hc:ConfIn n nv c) {v:Nat} (hv:v < n):∀ (x:Ex) {bnd:Bool} {p:Int},x.ok nv bnd = true -> (bnd = true -> 0 <= p /\ p < (g.ports.getD v []).length) -> InB p -> InB (ybt g c v x p)
 | .leaf op arg,bnd,p,h,hp,hpi=>ybvy hg hn hc h hv hp hpi
 | .un op a,bnd,p,h,hp,hpi=>by
  simp only [Ex.ok,Bool.and_eq_true] at h
  exact yczj (ygl hg hn hc hv a h.2 hp hpi)
 | .agg op a,bnd,p,h,hp,hpi=>by
  simp only [Ex.ok,Bool.and_eq_true] at h
  have:=hg.deg_lt (v:=v)
  refine ybwe (by simp; simp at this; omega) fun x hx=>?_
  obtain ⟨q,hq,rfl⟩:=List.mem_map.1 hx
  have hq:=List.mem_range.1 hq
  exact ygl hg hn hc hv a h.2 (fun _=>by omega) (by unfold InB; omega)
 | .bin op a b,bnd,p,h,hp,hpi=>ycoe _ _ _
 | .ite x a b,bnd,p,h,hp,hpi=>by
  simp only [Ex.ok,Bool.and_eq_true] at h
  unfold ybt
  split
  ·exact ygl hg hn hc hv a h.1.2 hp hpi
  ·exact ygl hg hn hc hv b h.2 hp hpi
end Go.Proofs.YtpngeppkgoaimaaGreatDoor

namespace Go.Proofs.YtpngeppkgoaimaaGreatDoor
namespace Sh
open Go Ev
theorem mulB {a b:Int} (ha:InB a) (hb:InB b):-1152921504606846976 <= a * b /\ a * b <= 1152921504606846976:=by
 unfold InB at *
 have h:(a * b).natAbs <= 1073741824 * 1073741824:=by
  rw [Int.natAbs_mul]; exact Nat.mul_le_mul (by omega) (by omega)
 omega
set_option maxRecDepth 8000

theorem ydu (b:Bool):Returns Tryz.prog 221 [.b b] (.i .i64 (ybx b)):=by
 refine Returns.of (ycro _ _ ?_)
 simp only [c221,ychb,ycnh,ycag,ycka,yu,ybx,go_sem,↓reduceIte,reduceCtorEq]
 cases b <;> simp
theorem ydm (a:Int):Returns Tryz.prog 223 [.i .i64 a] (.i .i64 (satP a)):=by
 refine Returns.of (ycrd _ _ ?_)
 simp only [c223,yclr,ybzw,yu,satP,go_sem,Nat.reduceEqDiff,Nat.reduceAdd,↓reduceIte,reduceCtorEq]
theorem ydaq {a b:Int} (ha:InB a):-1073741824 <= a.tdiv b /\ a.tdiv b <= 1073741824:=by
 have h1:(a.tdiv b).natAbs = a.natAbs / b.natAbs:=Int.natAbs_tdiv a b
 have h2:a.natAbs / b.natAbs <= a.natAbs:=Nat.div_le_self _ _
 rw [<- h1] at h2
 unfold InB at ha
 omega
theorem ybxy {a b:Int} (ha:InB a):-1073741825 <= ysk a b /\ ysk a b <= 1073741824:=by
 have:=ydaq (b:=b) ha
 unfold ysk
 split
 ·omega
 ·split <;> omega
theorem ybsk {a b:Int} (ha:InB a) (hb:InB b):-1152921505680588800 <= b * ysk a b /\ b * ysk a b <= 1152921505680588800:=by
 have h1:=ybxy (b:=b) ha
 have h:(b * ysk a b).natAbs <= 1073741824 * 1073741825:=by
  unfold InB at *
  rw [Int.natAbs_mul]; exact Nat.mul_le_mul (by omega) (by omega)
 omega
theorem yboy (op a:Int) (ha:InB a):Returns Tryz.prog 212 [.i .i64 op,.i .i64 a] (.i .i64 (unP op a)):=by
 refine Returns.of (ycqa _ _ ?_)
 simp only [c212,ycmm,ycjq,ycfe,ycma,yu,unP,IntKind.signed,go_sem,Nat.reduceEqDiff,Nat.reduceAdd,↓reduceIte,reduceCtorEq]
 unfold InB at ha
 refine ⟨fun h=>⟨ikw (by omega) (by omega),by rw [if_pos h]; omega⟩,fun h=>(ydu _).use ?_⟩
 simp only [thenO,yu,go_sem,Nat.reduceEqDiff,Nat.reduceAdd,↓reduceIte,reduceCtorEq]
 rw [if_neg h]
theorem yoi (a b:Int) (ha:InB a):Returns Tryz.prog 224 [.i .i64 a,.i .i64 b] (.i .i64 (ysk a b)):=by
 refine Returns.of (ycsl _ _ ?_)
 simp only [c224,yckx,ycaw,ycha,ycjc,yces,ycfd,ychz,yu,ysk,go_sem,Nat.reduceEqDiff,Nat.reduceAdd,↓reduceIte,reduceCtorEq]
 have:=ydaq (b:=b) ha
 refine ⟨fun h=>by rw [if_pos h],fun h=>⟨⟨h,ikw (by omega) (by omega)⟩,h,fun h1=>⟨fun h2=>⟨ikw (by omega) (by omega),?_⟩,fun h2=>?_⟩,fun h1=>?_⟩⟩
 ·rw [if_neg h,if_pos ⟨h1,h2⟩]
 ·rw [if_neg h,if_neg (fun q=>q.2 h2)]
 ·rw [if_neg h,if_neg (fun q=>q.1 h1)]
theorem yzh (op a b:Int):Returns Tryz.prog 225 [.i .i64 op,.i .i64 a,.i .i64 b] (.b (cmpP op a b)):=by
 refine Returns.of (ycnw _ _ ?_)
 simp only [c225,ycaf,ycgw,ycak,ychp,ycgn,ycah,yclz,ycax,ycnl,ycbe,ybqy,ybmg,ybqo,sim_b,cmpP,go_sem,Nat.reduceEqDiff,Nat.reduceAdd,↓reduceIte,reduceCtorEq]
 refine ⟨fun h=>by rw [if_pos h],fun h35=>⟨fun h=>by rw [if_neg h35,if_pos h],fun h36=>⟨fun h=>by rw [if_neg h35,if_neg h36,if_pos h],fun h37=>⟨fun h=>by rw [if_neg h35,if_neg h36,if_neg h37,if_pos h],fun h38=>⟨fun h=>by rw [if_neg h35,if_neg h36,if_neg h37,if_neg h38,if_pos h],fun h39=>by rw [if_neg h35,if_neg h36,if_neg h37,if_neg h38,if_neg h39]⟩⟩⟩⟩⟩
theorem ybkn (op a b:Int) (ha:InB a) (hb:InB b):Returns Tryz.prog 214 [.i .i64 op,.i .i64 a,.i .i64 b] (.i .i64 (binP op a b)):=by
 refine Returns.of (ycsj _ _ ?_)
 simp only [c214,ycfj,yckt,yciu,ycjh,ycbm,ycln,yciy,yclo,ycfx,ycmd,yblp,yblq,ybnv,ybkw,ybsw,ybls,ybmy,ybtc,ybse,yu,go_sem,Nat.reduceEqDiff,Nat.reduceAdd,↓reduceIte,reduceCtorEq]
 have hm:=mulB ha hb
 have hq:=ybsk ha hb
 have hA:=ha
 have hB:=hb
 unfold InB at hA hB
 refine ⟨fun h=>⟨ikw (by omega) (by omega),(ydm _).use ?_⟩,fun h30=>⟨fun h=>(yoi a b ha).use ?_,fun h31=>⟨fun h=>⟨fun h0=>?_,fun h0=>(yoi a b ha).use ?_⟩,fun h32=>⟨fun h=>⟨ikw (by omega) (by omega),(ydm _).use ?_⟩,fun h33=>⟨fun h=>⟨ikw (by omega) (by omega),(ydm _).use ?_⟩,fun h34=>?_⟩⟩⟩⟩⟩
 ·simp only [thenO,yu,go_sem,Nat.reduceEqDiff,Nat.reduceAdd,↓reduceIte,reduceCtorEq]
  simp [binP,h]
 ·simp only [thenO,go_sem,Nat.reduceEqDiff,Nat.reduceAdd,↓reduceIte,reduceCtorEq]
  refine (ydm _).use ?_
  simp only [yu,go_sem]
  simp [binP,h]
 ·simp [binP,h,h0]
 ·simp only [thenO,go_sem,Nat.reduceEqDiff,Nat.reduceAdd,↓reduceIte,reduceCtorEq]
  refine ⟨ikw (by omega) (by omega),ikw (by omega) (by omega),(ydm _).use ?_⟩
  simp only [yu,go_sem]
  simp [binP,h,h0]
 ·simp only [thenO,yu,go_sem,Nat.reduceEqDiff,Nat.reduceAdd,↓reduceIte,reduceCtorEq]
  simp [binP,h]
 ·simp only [thenO,yu,go_sem,Nat.reduceEqDiff,Nat.reduceAdd,↓reduceIte,reduceCtorEq]
  simp [binP,h]
 ·refine ⟨fun h=>?_,fun h41=>⟨fun h=>?_,fun h42=>?_⟩⟩
  ·refine ⟨fun h1=>(ydu _).use ?_,fun h1=>(ydu _).use ?_⟩
   ·simp only [thenO,yu,go_sem,Nat.reduceEqDiff,Nat.reduceAdd,↓reduceIte,reduceCtorEq]
    simp [binP,h]
    rw [show (a != 0) = true by simpa using h1]; simp
   ·simp only [thenO,yu,go_sem,Nat.reduceEqDiff,Nat.reduceAdd,↓reduceIte,reduceCtorEq]
    simp [binP,h,h1]
  ·refine ⟨fun h1=>(ydu _).use ?_,fun h1=>(ydu _).use ?_⟩
   ·simp only [thenO,yu,go_sem,Nat.reduceEqDiff,Nat.reduceAdd,↓reduceIte,reduceCtorEq]
    simp [binP,h,h1]
   ·simp only [thenO,yu,go_sem,Nat.reduceEqDiff,Nat.reduceAdd,↓reduceIte,reduceCtorEq]
    simp [binP,h]
    rw [show (a != 0) = true by simpa using h1]; simp
  ·refine (yzh op a b).use ?_
   simp only [thenO,go_sem,Nat.reduceEqDiff,Nat.reduceAdd,↓reduceIte,reduceCtorEq]
   refine (ydu _).use ?_
   simp only [yu,go_sem]
   simp [binP,h30,h31,h32,h33,h34,h41,h42]
end Sh
end Go.Proofs.YtpngeppkgoaimaaGreatDoor

