/- Lemmas, joined: SgT SgU SgV SgX SgY SgZ SiA ScBf. -/
import Derived.Test.YtpngeppkgoaimaaGreatDoorPkBa12
import Derived.Test.YtpngeppkgoaimaaGreatDoorPkBa8
set_option linter.unusedSimpArgs false
set_option linter.unusedVariables false
namespace Go.Proofs.YtpngeppkgoaimaaGreatDoor
open Go
namespace Sh
open Ev Go.RowKit
set_option maxRecDepth 8000
instance:Inhabited Cnt:=⟨⟨0,0,0,0,0⟩⟩
def seeO (cs:List Conf) (ks:List Cnt):Own:=[(1,.one (some ⟨30,true,1,1,fun _=>[.os (2,0) 0 cs.length true]⟩)),(2,.one (some ⟨35,false,1,cs.length,fun i=>[ybg (cs.getD i [])]⟩)),
 (3,.one (some ⟨31,true,1,1,fun _=>[.os (4,0) 0 ks.length true]⟩)),(4,.one (some ⟨46,false,5,ks.length,fun i=>cntV (ks.getD i default)⟩))]
def ycop:Own:=[(1,.one (some ⟨30,true,1,1,fun _=>[.a (.slice none 0 0)]⟩)),(3,.one (some ⟨31,true,1,1,fun _=>[.a (.slice none 0 0)]⟩))]
theorem ybxm (cs:List Conf) (ks:List Cnt) (h1:0 < cs.length /\ cs.length <= 5000) (h2:0 < ks.length /\ ks.length <= 5000) {c:Conf} (hc:∀ s ∈ c,0 < s.length /\ s.length <= 1000) (hl:c.length <= 1000) (e:Nat) (k:Cnt) :
  Cm Tryz.prog 91 [(1,0),(3,0)] (seeO cs ks) [ybg c,.i .u32 e,.ag (cntV k),.pt (1,0) 0 0,.pt (3,0) 0 0] fun r o=>r = .tp [] /\ o = seeO (cs ++ [c]) (ks ++ [k]):=by
 refine yboe [(1,0),(3,0)] [] _ _ _ ?_
 obtain ⟨n,hn⟩:∃ n,cs.length = n:=⟨_,rfl⟩
 obtain ⟨m,hm⟩:∃ m,ks.length = m:=⟨_,rfl⟩
 have hC:=yww c hc hl
 obtain ⟨O2,hO2⟩:∃ O,seeO (cs ++ [c]) (ks ++ [k]) = O:=⟨_,rfl⟩
 rw [hO2]
 simp only [c91,ycsb,ycua,yctl,seeO,cntV,hn,hm,go_sem,Nat.reduceEqDiff,Nat.reduceAdd,Nat.reduceLT,↓reduceIte,reduceCtorEq]
 refine hC.use ?_
 simp only [thenO,clash,ygf,go_sem,Nat.reduceEqDiff,Nat.reduceAdd,Nat.reduceLeDiff,Nat.reduceLT,↓reduceIte,reduceCtorEq]
 refine ⟨by decide,⟨by omega,by omega⟩,by decide,by decide,⟨by omega,by omega⟩,.tp [],O2,?_,?_,rfl,rfl⟩
 ·subst hO2
  refine yey [(2,fun i=>(12,i)),(4,fun i=>(16,i))] [] [] ?_
  simp only [seeO,cntV,List.length_append,hn,hm,allQ,live,yc,go_sem,Nat.reduceEqDiff,↓reduceIte,reduceCtorEq]
  have gl:∀ {α:Type} (l:List α) (x d:α) (i:Nat),i < l.length -> (l ++ [x]).getD i d = l.getD i d:=fun l x d i h=>by simp [List.getD,List.getElem?_append_left h]
  have gr:∀ {α:Type} (l:List α) (x d:α),(l ++ [x]).getD l.length d = x:=fun l x d=>by simp [List.getD]
  refine ⟨fun i hi=>?_,fun i hi=>?_⟩
  ·by_cases q:i < n
   ·simp only [if_pos q,gl cs c [] i (by omega)]
    simp only [go_sem,live,yc,go_sem]
   ·obtain rfl:i = n:=by omega
    simp only [if_neg q,Nat.sub_self,Nat.zero_mul]
    have e:=gr cs c []
    rw [hn] at e
    simp only [e,live,yc,go_sem]
  ·by_cases q:i < m
   ·simp only [if_pos q,gl ks k default i (by omega)]
    simp only [go_sem,live,yc,go_sem,reduceCtorEq]
   ·obtain rfl:i = m:=by omega
    simp only [if_neg q,Nat.sub_self,Nat.zero_mul]
    have e:=gr ks k default
    rw [hm] at e
    simp only [e,live,yc,go_sem,reduceCtorEq]
 ·subst hO2
  simp only [seeO,cntV,famCln,yfd,allQ,live,go_sem,Nat.reduceEqDiff,↓reduceIte]
theorem ybpb {c:Conf} (hc:∀ s ∈ c,0 < s.length /\ s.length <= 1000) (hl:c.length <= 1000) (e:Nat) (k:Cnt) :
  Cm Tryz.prog 91 [(1,0),(3,0)] ycop [ybg c,.i .u32 e,.ag (cntV k),.pt (1,0) 0 0,.pt (3,0) 0 0] fun r o=>r = .tp [] /\ o = seeO [c] [k]:=by
 refine yboe [(1,0),(3,0)] [] _ _ _ ?_
 have hC:=yww c hc hl
 obtain ⟨O2,hO2⟩:∃ O,seeO [c] [k] = O:=⟨_,rfl⟩
 rw [hO2]
 simp only [c91,ycsb,ycua,yctl,ycop,cntV,go_sem,Nat.reduceEqDiff,Nat.reduceAdd,Nat.reduceLT,↓reduceIte,reduceCtorEq]
 refine hC.use ?_
 simp only [thenO,clash,ygf,go_sem,Nat.reduceEqDiff,Nat.reduceAdd,Nat.reduceLeDiff,Nat.reduceLT,Nat.reduceMul,↓reduceIte,reduceCtorEq]
 refine ⟨by decide,by decide,by decide,.tp [],O2,?_,?_,rfl,rfl⟩
 ·subst hO2
  refine yey [(2,fun i=>(12,i)),(4,fun i=>(16,i))] [] [] ?_
  simp only [seeO,cntV,allQ,live,yc,go_sem,Nat.reduceEqDiff,↓reduceIte,reduceCtorEq]
  refine ⟨fun i hi=>?_,fun i hi=>?_⟩
  ·obtain rfl:i = 0:=by omega
   simp only [Nat.zero_mul]
   simp only [List.getD_cons_zero,live,yc,go_sem]
  ·obtain rfl:i = 0:=by omega
   simp only [Nat.zero_mul]
   simp only [List.getD_cons_zero,live,yc,go_sem,reduceCtorEq]
 ·subst hO2
  simp only [seeO,cntV,famCln,yfd,allQ,live,go_sem,Nat.reduceEqDiff,↓reduceIte]
structure DaemonOk (kind:Int) (net:List Nat) (res:Nat -> Nat -> Nat):Prop where
 resolve:∀ (e w:Nat),e < 2 ^ 24 -> e ≠ 0 -> w < 2 ^ 32 -> Returns Tryz.prog 123 [usV net,.i .i64 kind,.i .u32 e,.i .u32 w] (.i .u32 (res e w))
 permits:∀ (e w:Nat),e < 2 ^ 24 -> e ≠ 0 -> w < 2 ^ 32 -> Returns Tryz.prog 146 [usV net,.i .i64 kind,.i .u32 e,.i .u32 (res e w)] (.b true)
 zero:∀ (w:Nat),w < 2 ^ 32 -> ∃ x:Nat,Returns Tryz.prog 123 [usV net,.i .i64 kind,.i .u32 0,.i .u32 w] (.i .u32 x)
 sub:∀ (e w:Nat),e ≠ 0 -> e < 2 ^ 24 -> res e w ≠ 0 /\ subB (res e w) e
theorem ybeu {kind:Int} {net:List Nat} {res:Nat -> Nat -> Nat} (hd:DaemonOk kind net res) (rest:SV) (liv:SV) (mv:SV) {ws:List Nat} (hw:∀ k,ws.getD k 0 < 2 ^ 32) {e:Nat} (he:e < 2 ^ 24) (h0:e ≠ 0) {k:Nat} (hk:k < ws.length) :
  Returns Tryz.prog 122 [.i .i64 k,.i .u32 e,.rf [mv,usV net,.i .i64 kind,liv,rest],.rf [usV ws]] (.tp [.i .u32 (res e (ws.getD k 0)),.b true]):=by
 refine Returns.of (ybln _ _ ?_)
 have hR:=hd.resolve e (ws.getD k 0) he h0 (hw k)
 have z0:((e:Int) != 0) = true:=by simp; omega
 simp only [usV] at hR
 simp only [c122,ybow,ybtw,usV,clash,go_sem,Nat.reduceEqDiff,Nat.reduceAdd,Nat.reduceLeDiff,↓reduceIte,reduceCtorEq]
 refine ⟨by omega,hR.use ?_⟩
 simp only [thenO,clash,z0,go_sem,Nat.reduceEqDiff,Nat.reduceAdd,↓reduceIte,reduceCtorEq]
 exact Sim.refl _
theorem ybes {kind:Int} {net:List Nat} {res:Nat -> Nat -> Nat} (hd:DaemonOk kind net res) (rest:SV) (liv:SV) (mv:SV) {ws:List Nat} (hw:∀ k,ws.getD k 0 < 2 ^ 32) {k:Nat} (hk:k < ws.length) :
  ∃ x:Nat,Returns Tryz.prog 122 [.i .i64 k,.i .u32 0,.rf [mv,usV net,.i .i64 kind,liv,rest],.rf [usV ws]] (.tp [.i .u32 x,.b false]):=by
 obtain ⟨x,hR⟩:=hd.zero (ws.getD k 0) (hw k)
 refine ⟨x,Returns.of (ybln _ _ ?_)⟩
 simp only [usV] at hR
 simp only [c122,ybow,ybtw,usV,clash,go_sem,Nat.reduceEqDiff,Nat.reduceAdd,Nat.reduceLeDiff,↓reduceIte,reduceCtorEq]
 refine ⟨by omega,hR.use ?_⟩
 simp only [thenO,clash,Int.reduceBNe,go_sem,Nat.reduceEqDiff,Nat.reduceAdd,↓reduceIte,reduceCtorEq]
 exact Sim.refl _
theorem ybmp {s e n:Nat} (h:subB s e) (he:e < 2 ^ n):s < 2 ^ n:=by
 refine Nat.lt_pow_two_of_testBit _ fun i hi=>?_
 cases hb:s.testBit i with
 | false=>rfl
 | true =>
  have:=h i hb
  rw [Nat.testBit_lt_two_pow (Nat.lt_of_lt_of_le he (Nat.pow_le_pow_right (by omega) hi))] at this
  cases this
theorem ybyc {s e:Nat} (h:subB s e):difB s e = 0:=by
 rw [ycu]
 intro i
 rw [yjk]
 cases hb:s.testBit i with
 | false=>rfl
 | true=>rw [h i hb]; rfl
theorem ybdx (e w:Nat) (h0:e ≠ 0) (he:e < 2 ^ 24):resD e w ≠ 0 /\ subB (resD e w) e:=by
 unfold resD
 split
 ·exact ⟨ycpv h0 (by omega),ybvz e⟩
 ·rename_i h
  refine ⟨h,fun i hi=>?_⟩
  rw [Nat.testBit_and,Bool.and_eq_true] at hi
  exact hi.2
theorem ybeq (net:List Nat):DaemonOk 3 net resD where
 resolve:=fun e w he h0 hw=>yyx (usV net) (by simp [usV,yxb,ybdg]) he h0 hw
 permits:=fun e w he h0 hw=>by
  obtain ⟨h1,h2⟩:=ybdx e w h0 he
  exact yyp (usV net) he h1 (ybmp h2 he) (ybyc h2)
 zero:=fun w hw=>⟨0,by
  refine Returns.of (yvp _ _ ?_)
  have a0:=u32_and (a:=w) (b:=0) (by omega) (by omega)
  rw [Nat.and_zero] at a0
  have a1:IntKind.wrap .u32 (0 - 0) = 0:=by decide
  have a2:=u32_and (a:=0) (b:=0) (by omega) (by omega)
  rw [Nat.and_zero] at a2
  simp only [Int.natCast_zero,IntKind.bits] at a0 a2
  simp only [usV,c123,yzo,yyu,yxx,yzf,yri,yqj,yqe,ykk,ywq,IntKind.signed,a0,a1,a2,Int.reduceBEq,yu,go_sem,Nat.reduceEqDiff,Nat.reduceAdd,Nat.reduceLT,↓reduceIte,reduceCtorEq]
  rfl⟩
 sub:=fun e w h0 he=>ybdx e w h0 he
theorem ycrt (net:List Nat):DaemonOk 4 net resS where
 resolve:=fun e w he h0 hw=>ybbg (usV net) (by simp [usV,yxb,ybdg]) he h0 hw
 permits:=fun e w he h0 hw=>yxt (usV net) he h0
 zero:=fun w hw=>⟨0,by
  refine Returns.of (yvp _ _ ?_)
  have a0:=u32_and (a:=w) (b:=0) (by omega) (by omega)
  rw [Nat.and_zero] at a0
  have a1:IntKind.wrap .u32 (0 - 0) = 0:=by decide
  have a2:=u32_and (a:=0) (b:=0) (by omega) (by omega)
  rw [Nat.and_zero] at a2
  simp only [Int.natCast_zero,IntKind.bits] at a0 a2
  simp only [usV,c123,yzo,yyu,yxx,yzf,yri,yqj,yqe,ykk,yvd,IntKind.signed,a0,a1,a2,Int.reduceBEq,yu,go_sem,Nat.reduceEqDiff,Nat.reduceAdd,Nat.reduceLT,↓reduceIte,reduceCtorEq]
  rfl⟩
 sub:=fun e w h0 _=>⟨h0,fun _ h=>h⟩
end Sh
end Go.Proofs.YtpngeppkgoaimaaGreatDoor

namespace Go.Proofs.YtpngeppkgoaimaaGreatDoor
open Go
def stAt (S:Sys) (res:Nat -> Nat -> Nat):List Nat -> Conf -> Cnt -> Nat -> Conf × Cnt
 | _,c,k,0=>(c,k)
 | ws,c,k,i + 1=>stAt S res ws.tail (S.mv c (res (S.en c) (ws.getD 0 0))) (addP k (res (S.en c) (ws.getD 0 0)) (S.en (S.mv c (res (S.en c) (ws.getD 0 0))))) i
theorem ybah (S:Sys) (res:Nat -> Nat -> Nat):∀ (i:Nat) (ws:List Nat) (c:Conf) (k:Cnt),
  stAt S res ws c k (i + 1) = (S.mv (stAt S res ws c k i).1 (res (S.en (stAt S res ws c k i).1) (ws.getD i 0)),addP (stAt S res ws c k i).2 (res (S.en (stAt S res ws c k i).1) (ws.getD i 0)) (S.en (S.mv (stAt S res ws c k i).1 (res (S.en (stAt S res ws c k i).1) (ws.getD i 0)))))
 | 0,ws,c,k=>rfl
 | i + 1,ws,c,k=>by
  show stAt S res ws.tail _ _ (i + 1) = _
  rw [ybah S res i ws.tail]
  have e:ws.tail.getD i 0 = ws.getD (i + 1) 0:=by cases ws <;> rfl
  rw [e]
  rfl
theorem ybbf (S:Sys) (res:Nat -> Nat -> Nat):∀ (ws:List Nat) (c:Conf) (k:Cnt) (i:Nat),(∀ j,j < i -> S.en (stAt S res ws c k j).1 ≠ 0) -> i <= ws.length -> (i = ws.length \/ S.en (stAt S res ws c k i).1 = 0) ->
  S.run res ws c k = (List.range i).map fun j=>stAt S res ws c k (j + 1)
 | [],c,k,i,_,hi,_=>by
  have:i = 0:=by simpa using hi
  subst this
  rfl
 | w :: ws,c,k,0,_,_,h=>by
  have h0:S.en c = 0:=by
   rcases h with h | h
   ·simp at h
   ·exact h
  unfold Sys.run
  rw [if_pos h0]
  rfl
 | w :: ws,c,k,i + 1,hj,hi,h=>by
  have h0:S.en c ≠ 0:=hj 0 (by omega)
  unfold Sys.run
  rw [if_neg h0]
  simp only
  have e:=ybbf S res ws (S.mv c (res (S.en c) w)) (addP k (res (S.en c) w) (S.en (S.mv c (res (S.en c) w)))) i (fun j hj'=>hj (j + 1) (by omega)) (by simpa using hi) (by
   rcases h with h | h
   ·exact .inl (by simpa using h)
   ·exact .inr h)
  rw [e,List.range_succ_eq_map,List.map_cons,List.map_map]
  rfl
theorem ybjj (S:Sys) (res:Nat -> Nat -> Nat) (ws:List Nat) (c:Conf) (i:Nat) (hj:∀ j,j < i -> S.en (stAt S res ws c (ydd (S.en c)) j).1 ≠ 0) (hi:i <= ws.length) (h:i = ws.length \/ S.en (stAt S res ws c (ydd (S.en c)) i).1 = 0) :
  S.runs res ws c = (List.range (i + 1)).map fun j=>stAt S res ws c (ydd (S.en c)) j:=by
 unfold Sys.runs
 rw [ybbf S res ws c _ i hj hi h,List.range_succ_eq_map,List.map_cons,List.map_map]
 rfl
theorem ybvk {kind:Int} {b:Int × Int} (hb:b.1 <= b.2) (h3:kind = 3 -> b.1 <= -1 /\ -1 <= b.2) (x:Int):b.1 <= yfk kind b x /\ yfk kind b x <= b.2:=by
 unfold yfk
 split
 ·assumption
 ·split
  ·exact h3 (by assumption)
  ·split <;> omega
namespace Sh
theorem ybgy {p:ProgT} {g:Gr} (hg:ybc g) (hp:p.ok = true) (hf:yut p g = true) {x:VarR} (hx:x ∈ p.vars) (v:Nat):(ybd g v x).1 <= (ybd g v x).2 /\ (x.kind = 3 -> (ybd g v x).1 <= -1 /\ -1 <= (ybd g v x).2):=by
 have h1:=List.all_eq_true.1 hf x hx
 have hp':=hp
 unfold ProgT.ok at hp'
 simp only [Bool.and_eq_true,decide_eq_true_eq] at hp'
 have hxo:=ybbl (List.all_eq_true.1 hp'.1.1.2 _ hx)
 rcases hxo.1 with h | h | h
 ·have e:ybd g v x = ybd g 0 x:=by unfold ybd; rw [if_pos h,if_pos h]
  rw [e]
  simp [h] at h1
  exact ⟨h1.1,fun q=>by omega⟩
 ·unfold ybd
  rw [if_neg (by omega),if_pos h]
  exact ⟨by decide,fun q=>by omega⟩
 ·unfold ybd
  rw [if_neg (by omega),if_neg (by omega),if_pos h]
  exact ⟨by simp only []; omega,fun _=>⟨by simp only []; omega,by simp only []; omega⟩⟩
theorem ybnf {p:ProgT} {g:Gr} (hg:ybc g) (hp:p.ok = true) (hf:yut p g = true) {v:Nat} {s:List Int} (hs:yed (p.vars.map (ybd g v)) s) {a:Int} (ha:0 <= a /\ a < p.vars.length) (y:Int) :
  yed (p.vars.map (ybd g v)) (s.set a.toNat (yfk (p.vars.getD a.toNat default).kind (ybd g v (p.vars.getD a.toNat default)) y)):=by
 refine ⟨by rw [List.length_set]; exact hs.1,fun i b x hb hx=>?_⟩
 by_cases q:a.toNat = i
 ·subst q
  have hlt:a.toNat < p.vars.length:=by omega
  rw [List.getElem?_map,List.getElem?_eq_getElem hlt] at hb
  cases hb
  have hl:a.toNat < s.length:=by rw [hs.1,List.length_map]; exact hlt
  rw [List.getElem?_set_self hl] at hx
  cases hx
  rw [getD_at hlt]
  obtain ⟨h1,h2⟩:=ybgy hg hp hf (List.getElem_mem hlt) v
  exact ybvk h1 h2 y
 ·rw [List.getElem?_set_ne q] at hx
  exact hs.2 i b x hb hx
theorem ytt {p:ProgT} {g:Gr} (hg:ybc g) (hp:p.ok = true) (hf:yut p g = true) (c:Conf) (v:Nat):∀ (sets:List (Int × Ex)) (s:List Int),(∀ a ∈ sets,0 <= a.1 /\ a.1 < p.vars.length) -> yed (p.vars.map (ybd g v)) s -> yed (p.vars.map (ybd g v)) (ymk p g c v s sets)
 | [],s,_,hs=>hs
 | a :: sets,s,ha,hs=>by
  show yed _ (ymk p g c v (s.set _ _) sets)
  exact ytt hg hp hf c v sets _ (fun x hx=>ha x (List.mem_cons_of_mem _ hx)) (ybnf hg hp hf hs (ha a List.mem_cons_self) _)
theorem ytw {p:ProgT} {g:Gr} (hg:ybc g) (hp:p.ok = true) (hf:yut p g = true) {c:Conf} (hc:ycs p g c = true) (s:Nat):ycs p g (ykr p g c s) = true:=by
 have h:=(yfb _ _ _).1 hc
 refine (yfb _ _ _).2 ⟨by rw [yje]; exact h.1,fun v st hst=>?_⟩
 have hv:v < c.length:=by
  have:=(List.getElem?_eq_some_iff.1 hst).1
  rwa [yje] at this
 have e:st = (ykr p g c s).getD v []:=by simp [List.getD,hst]
 rw [yly p g c s hv] at e
 have hold:=h.2 v (c.getD v []) (by rw [getD_at hv]; exact List.getElem?_eq_getElem hv)
 rw [e]
 split
 ·unfold yyr
  refine ytt hg hp hf c v _ _ (fun a ha=>?_) hold
  have hp':=hp
  unfold ProgT.ok at hp'
  simp only [Bool.and_eq_true,decide_eq_true_eq] at hp'
  by_cases hr:(ygj p g c v).toNat < p.rules.length
  ·rw [getD_at hr] at ha
   have hok:=List.all_eq_true.1 hp'.2 _ (List.getElem_mem hr)
   unfold RuleT.ok at hok
   simp only [Bool.and_eq_true,decide_eq_true_eq] at hok
   have:=List.all_eq_true.1 hok.2 a ha
   simp only [Bool.and_eq_true,decide_eq_true_eq] at this
   exact this.1.1
  ·have:p.rules.getD (ygj p g c v).toNat default = default:=by simp [List.getD,List.getElem?_eq_none (Nat.le_of_not_lt hr)]
   rw [this] at ha
   cases ha
 ·exact hold
theorem ymw {p:ProgT} {g:Gr} (hg:ybc g) (hp:p.ok = true) {c:Conf} (hc:ycs p g c = true):(∀ s ∈ c,0 < s.length /\ s.length <= 1000) /\ c.length <= 1000:=by
 have h:=ygn hg hp hc
 have hp':=hp
 unfold ProgT.ok at hp'
 simp only [Bool.and_eq_true,decide_eq_true_eq] at hp'
 have:=hg.2.1
 exact ⟨fun s hs=>by have:=(h.row s hs).1; omega,by rw [h.len]; omega⟩
theorem ybxd (p:ProgT) (g:Gr) (c:Conf):ybk p g c < 2 ^ g.ids.length:=ybgp _ _
end Sh
end Go.Proofs.YtpngeppkgoaimaaGreatDoor

namespace Go.Proofs.YtpngeppkgoaimaaGreatDoor
open Go
namespace Sh
open Ev Go.RowKit
set_option maxRecDepth 8000
def seeC:SV:=.fn 91 [] [.pt (201,0) 0 0,.pt (203,0) 0 0]
def seeX (cs:List Conf) (ks:List Cnt):Own:=[(201,.one (some ⟨30,true,1,1,fun _=>[.os (202,0) 0 cs.length true]⟩)),(202,.one (some ⟨35,false,1,cs.length,fun i=>[ybg (cs.getD i [])]⟩)),
 (203,.one (some ⟨31,true,1,1,fun _=>[.os (204,0) 0 ks.length true]⟩)),(204,.one (some ⟨46,false,5,ks.length,fun i=>cntV (ks.getD i default)⟩))]
def ylr:Own:=[(201,.one (some ⟨30,true,1,1,fun _=>[.a (.slice none 0 0)]⟩)),(203,.one (some ⟨31,true,1,1,fun _=>[.a (.slice none 0 0)]⟩))]
def TT:(Nat -> Option ABlk) -> Value -> Prop:=fun _ _=>True
def yff (p:ProgT) (g:Gr):SV:=.ex TT (.rf (yds p.raw g))
def ydo (p:ProgT) (g:Gr) (net:List Nat) (kind:Int):List SV:=[yff p g,usV net,.i .i64 kind,.i .u32 (2 ^ g.ids.length - 1:Nat),seeC]
def ybqt (p:ProgT) (g:Gr) (net:List Nat) (kind:Int) (ws:List Nat):Own:=[(205,.one (some ⟨106,true,5,1,fun _=>ydo p g net kind⟩)),(206,.one (some ⟨25,true,1,1,fun _=>[usV ws]⟩))]
theorem gmr {α:Type} (f:Nat -> α) (n k:Nat) (d:α) (h:k < n):((List.range n).map f).getD k d = f k:=by simp [List.getD,h]
def mapR {α:Type} (n:Nat) (f:Nat -> α):List α:=(List.range n).map f
theorem gmR {α:Type} (f:Nat -> α) (n k:Nat) (d:α) (h:k < n):(mapR n f).getD k d = f k:=gmr f n k d h
theorem ywk {α:Type} (n:Nat) (f:Nat -> α):(mapR n f).length = n:=by simp [mapR]
theorem ybfs {α β:Type} (n:Nat) (f:Nat -> α) (h:α -> β):(mapR n f).map h = mapR n fun k=>h (f k):=by simp [mapR,Function.comp_def]
theorem ybop {α:Type} (f:Nat -> α) (n:Nat) (x d:α) (hx:f n = x) (k:Nat) (h:k < n + 1):(((List.range n).map f) ++ [x]).getD k d = f k:=by
 rw [<- hx,show [f n] = [n].map f from rfl,<- List.map_append,<- List.range_succ]
 exact gmr f (n + 1) k d h
section
variable {Q1 Q2:(Nat -> Option ABlk) -> Value -> Prop} {p:ProgT} {g:Gr}
theorem ybkb (h:Checked Q1 Q2 p g) {kind:Int} {net:List Nat} {res:Nat -> Nat -> Nat} (hd:DaemonOk kind net res) {c:Conf} (hc:ycs p g c = true) {ws:List Nat} (hw:∀ k,ws.getD k 0 < 2 ^ 32) (hwl:ws.length <= 4000) :
  Cm Tryz.prog 121 [(201,0),(203,0)] (ylr ++ ybqt p g net kind ws) [.ag (ydo p g net kind),ybg c,.i .i64 ws.length,.fn 122 [] [.pt (205,0) 0 0,.pt (206,0) 0 0]]
   fun r o=>(∃ l1 l2 c' k',r = .tp [.ag (usV l1 :: usV l2 :: ybg c' :: cntV k'),.i .i64 0]) /\ o = seeX ((ybh p g).runs res ws c |>.map (·.1)) ((ybh p g).runs res ws c |>.map (·.2)):=by
 refine ybxe [(201,0),(203,0)] [91] _ _ _ ?_
 obtain ⟨O2,hO2⟩:∃ O,seeX ((ybh p g).runs res ws c |>.map (·.1)) ((ybh p g).runs res ws c |>.map (·.2)) = O:=⟨_,rfl⟩
 rw [hO2]
 obtain ⟨hr1,hr2⟩:=ymw h.hg h.hp hc
 have hcin:=ygn h.hg h.hp hc
 have hC:=yww c hr1 hr2
 have hE:=yiz p h.hg h.hp hcin
 have hX:SimL [yff p g,ybg c] [.rf (yds p.raw g),ybg c]:=⟨ylq _ _,Sim.refl _,trivial⟩
 have hen:=ybxd p g c
 have hid:=h.hg.2.2.1
 have h24:=h.hg.2.1
 have h2n:2 ^ g.ids.length <= 2 ^ 24:=Nat.pow_le_pow_right (by omega) (by omega)
 simp only [c121,ycez,ycfa,ycmo,ylr,ybqt,ydo,seeC,usV,yff,go_sem,Nat.reduceEqDiff,Nat.reduceAdd,Nat.reduceLT,Nat.reduceBEq,↓reduceIte,reduceCtorEq]
 refine hC.use ?_
 simp only [thenO,ycil,clash,go_sem,Nat.reduceEqDiff,Nat.reduceAdd,Nat.reduceLeDiff,Nat.reduceBEq,↓reduceIte,reduceCtorEq]
 refine hE.useS ?_ ?_
 ·exact hX
 have ha:IntKind.wrap .u32 (((BitVec.ofInt (IntKind.bits .u32) (ybk p g c:Int)) &&& BitVec.ofInt (IntKind.bits .u32) ((2 ^ g.ids.length - 1:Nat):Int)).toNat:Int) = (ybk p g c:Int):=by
  have e:=u32_and (a:=ybk p g c) (b:=2 ^ g.ids.length - 1) (by omega) (by omega)
  rw [Nat.and_two_pow_sub_one_of_lt_two_pow hen] at e
  exact e
 simp only [IntKind.bits] at ha
 simp only [thenO,ycaz,clash,ha,go_sem,Nat.reduceEqDiff,Nat.reduceAdd,Nat.reduceLT,Nat.reduceBEq,↓reduceIte]
 have hB:=ybsi (e:=ybk p g c) (by omega)
 obtain ⟨K0,hK0⟩:∃ K,ydd (ybk p g c) = K:=⟨_,rfl⟩
 rw [hK0] at hB
 refine hB.use ?_
 simp only [ycce,cntV,go_sem,Nat.reduceEqDiff,Nat.reduceAdd,↓reduceIte,reduceCtorEq]
 have hS:=ybpb hr1 hr2 (ybk p g c) K0
 simp only [cntV] at hS
 refine callM_of hS [(1,201),(3,203)] 200 [1,2,3,4,8,9,10,11,12] [4,8,10,12,205,206] ?_ ?_
 ·simp only [ycop,to1,okN,famCln,yfd,keepF,keepO,allQ,live,yc,go_sem,Nat.reduceEqDiff,Nat.reduceAdd,Nat.reduceBEq,↓reduceIte,reduceCtorEq]
 ·rintro r o' ⟨rfl,rfl⟩
  simp only [seeO,thenM,yko,nuF,nu,difN,keepF,keepO,Fam.ren,OB.ren,dim,yqz,yip,go_sem,Nat.reduceEqDiff,Nat.reduceAdd,Nat.reduceBEq,↓reduceIte,reduceCtorEq]
  simp only [yclw,yclf,splice,go_sem,Nat.reduceEqDiff,Nat.reduceAdd,Nat.reduceLeDiff,Nat.reduceLT,Nat.reduceMul,↓reduceIte,reduceCtorEq]
  let st:Nat -> Conf × Cnt:=stAt (ybh p g) res ws c K0
  let en:Nat -> Nat:=fun i=>ybk p g (st i).1
  let ch:Nat -> Nat:=fun i=>res (en i) (ws.getD i 0)
  refine ybe (σ:=Nat) (fun i=>⟨[(40,.i .i64 i),(39,.i .i64 ws.length),(1,ybg (st i).1),(3,.fn 122 [] [.pt (205,0) 0 0,.pt (206,0) 0 0]),(4,.pt (4,0) 0 0),(8,.pt (8,0) 0 0),(9,.i .i64 0),(10,.pt (10,0) 0 0),(11,.i .u32 (en i)),(12,.pt (12,0) 0 0)],
   [(4,.one (some ⟨106,true,5,1,fun _=>ydo p g net kind⟩)),
    (8,.one (some ⟨110,true,8,1,fun _=>[.a (.slice none 0 0),.a (.slice none 0 0),.a (.slice none 0 0),.i .i64 0,.i .i64 0,.i .i64 0,.i .i64 0,.i .u32 0]⟩)),
    (10,.one (some ⟨110,true,8,1,fun _=>[.os (301,0) 0 i true,.os (302,0) 0 (i + 1) true,.a (.slice none 0 0),.i .i64 0,.i .i64 0,.i .i64 0,.i .i64 0,.i .u32 0]⟩)),
    (301,.one (some ⟨44,false,1,i,fun j=>[.i .u32 (ch j)]⟩)),(302,.one (some ⟨44,false,1,i + 1,fun j=>[.i .u32 (en j)]⟩)),
    (12,.one (some ⟨46,true,5,1,fun _=>cntV (st i).2⟩)),
    (201,.one (some ⟨30,true,1,1,fun _=>[.os (202,0) 0 (i + 1) true]⟩)),(202,.one (some ⟨35,false,1,i + 1,fun j=>[ybg (st j).1]⟩)),
    (203,.one (some ⟨31,true,1,1,fun _=>[.os (204,0) 0 (i + 1) true]⟩)),(204,.one (some ⟨46,false,5,i + 1,fun j=>cntV (st j).2⟩)),
    (205,.one (some ⟨106,true,5,1,fun _=>ydo p g net kind⟩)),(206,.one (some ⟨25,true,1,1,fun _=>[usV ws]⟩))]⟩)
   (fun i=>i <= ws.length /\ (∀ j,j < i -> en j ≠ 0) /\ ycs p g (st i).1 = true /\ (st i).2.ok /\ (st i).2.steps = i) (fun i=>ws.length - i) 0 ⟨Nat.zero_le _,fun j hj=>absurd hj (Nat.not_lt_zero j),hc,by show K0.ok; rw [<- hK0]; exact ybty (by omega),by show K0.steps = 0; rw [<- hK0]; rfl⟩ ?_ ?_
  ·refine yey [(302,fun i=>(37,i))] [301] [] ?_
   have st0:st 0 = (c,K0):=rfl
   have en0:en 0 = ybk p g c:=rfl
   simp only [ydo,yff,seeC,usV,cntV,st0,en0,allQ,live,yc,yu,Int.natCast_zero,go_sem,Nat.reduceEqDiff,Nat.reduceLeDiff,Nat.reduceBEq,↓reduceIte,reduceCtorEq]
   refine ⟨fun i _=>⟨(301,0),rfl,?_⟩,?_⟩
   ·simp only [go_sem,go_sem,Nat.reduceEqDiff,↓reduceIte]
   refine ⟨fun i hi=>?_,fun i hi=>?_,fun i hi=>?_⟩
   ·obtain rfl:i = 0:=by omega
    simp only [Nat.zero_mul]
    simp only [en0,live,yc,go_sem,reduceCtorEq]
   ·obtain rfl:i = 0:=by omega
    simp only [st0,List.getD_cons_zero,yc,go_sem]
   ·obtain rfl:i = 0:=by omega
    simp only [st0,List.getD_cons_zero,go_sem]
  ·rintro i ⟨hi,hj,hci,hko,hks⟩
   obtain ⟨cr1,cr2⟩:=ymw h.hg h.hp hci
   have cin:=ygn h.hg h.hp hci
   have eni:=ybxd p g (st i).1
   have fin:(i = ws.length \/ en i = 0) -> (ybh p g).runs res ws c = mapR (i + 1) st:=fun hq=>by
    have e:=ybjj (ybh p g) res ws c i
    rw [show (ybh p g).en c = ybk p g c from rfl,hK0] at e
    exact e hj hi hq
   simp only [ycla,yciw,ybos,ydo,yff,seeC,usV,cntV,go_sem,Nat.reduceEqDiff,Nat.reduceAdd,Nat.reduceLeDiff,Nat.reduceBEq,↓reduceIte,reduceCtorEq]
   refine ⟨fun hlt=>.inl ?_,fun hlt=>?_⟩
   ·have hi':i < ws.length:=by omega
    by_cases h0:en i = 0
    ·obtain ⟨x,hF⟩:=ybes hd (.fn 91 [] [.rf [.sl 1 (i + 1) fun j=>[ybg (st j).1]],.rf [.sl 5 (i + 1) fun j=>cntV (st j).2]]) (.i .u32 (2 ^ g.ids.length - 1:Nat)) (yff p g) hw hi'
     simp only [yff,usV,cntV] at hF
     simp only [h0,Int.natCast_zero]
     refine hF.use ?_
     simp only [thenO,ybeg,ybce,ybdr,go_sem,Nat.reduceEqDiff,Nat.reduceAdd,Nat.reduceLeDiff,↓reduceIte,reduceCtorEq]
     refine ⟨by decide,?_⟩
     simp only [ygf,go_sem]
     refine ⟨.tp [.ag (usV (mapR i ch) :: usV (mapR (i + 1) en) :: ybg (st i).1 :: cntV (st i).2),.i .i64 0],O2,?_,?_,⟨_,_,_,_,rfl⟩,rfl⟩
     ·subst hO2
      rw [fin (.inr h0)]
      refine yey [] [] [(301,0),(302,0)] ?_
      simp only [seeX,usV,cntV,ybfs,ywk,allQ,live,yc,yu,go_sem,Nat.reduceEqDiff,↓reduceIte,reduceCtorEq]
      refine ⟨ycbo ⟨yqw ⟨sim_sl fun q hq=>by rw [gmR _ _ _ _ hq],sim_sl fun q hq=>by rw [gmR _ _ _ _ hq],Sim.refl _,Sim.refl _,Sim.refl _,Sim.refl _,Sim.refl _,Sim.refl _,trivial⟩,Sim.refl _,trivial⟩,fun q hq=>?_,fun q hq=>?_⟩
      ·rw [gmR _ _ _ _ hq]
       exact Sim.refl _
      ·rw [gmR _ _ _ _ hq]
       exact ⟨rfl,rfl,rfl,rfl,rfl⟩
     ·subst hO2
      simp only [seeX,usV,cntV,famCln,yfd,allQ,live,go_sem,Nat.reduceEqDiff,↓reduceIte]
    ·have hen24:en i < 2 ^ 24:=by show ybk p g (st i).1 < _; omega
     have hF:=ybeu hd (.fn 91 [] [.rf [.sl 1 (i + 1) fun j=>[ybg (st j).1]],.rf [.sl 5 (i + 1) fun j=>cntV (st j).2]]) (.i .u32 (2 ^ g.ids.length - 1:Nat)) (yff p g) hw hen24 h0 hi'
     obtain ⟨hch0,hchs⟩:=hd.sub (en i) (ws.getD i 0) h0 hen24
     have hP:=hd.permits (en i) (ws.getD i 0) hen24 h0 (hw i)
     have hch24:ch i < 2 ^ 24:=ybmp hchs hen24
     have hSt:=ybxg p h.hg h.hp cin (s:=ch i) (by omega) hchs
     obtain ⟨d,hdd⟩:∃ d,ykr p g (st i).1 (ch i) = d:=⟨_,rfl⟩
     rw [hdd] at hSt
     have hcd:ycs p g d = true:=by rw [<- hdd]; exact ytw h.hg h.hp h.hf hci (ch i)
     simp only [yff,usV,cntV] at hF hP
     refine hF.use ?_
     simp only [thenO,ybeg,ybtk,go_sem,Nat.reduceEqDiff,Nat.reduceAdd,Nat.reduceLeDiff,Nat.reduceBEq,↓reduceIte,reduceCtorEq]
     refine hP.use ?_
     simp only [thenO,ybuk,go_sem,Nat.reduceEqDiff,Nat.reduceAdd,Nat.reduceLeDiff,Nat.reduceBEq,↓reduceIte,reduceCtorEq]
     refine hSt.useS ?_ ?_
     ·exact ⟨ylq _ _,Sim.refl _,Sim.refl _,trivial⟩
     obtain ⟨dr1,dr2⟩:=ymw h.hg h.hp hcd
     have dcin:=ygn h.hg h.hp hcd
     have hE2:=yiz p h.hg h.hp dcin
     have hen2:=ybxd p g d
     obtain ⟨e2,he2⟩:∃ e,ybk p g d = e:=⟨_,rfl⟩
     rw [he2] at hE2 hen2
     have ha2:IntKind.wrap .u32 (((BitVec.ofInt (IntKind.bits .u32) (e2:Int)) &&& BitVec.ofInt (IntKind.bits .u32) ((2 ^ g.ids.length - 1:Nat):Int)).toNat:Int) = (e2:Int):=by
      have e:=u32_and (a:=e2) (b:=2 ^ g.ids.length - 1) (by omega) (by omega)
      rw [Nat.and_two_pow_sub_one_of_lt_two_pow hen2] at e
      exact e
     simp only [IntKind.bits] at ha2
     simp only [thenO,ybne,clash,go_sem,Nat.reduceEqDiff,Nat.reduceAdd,Nat.reduceLeDiff,Nat.reduceBEq,↓reduceIte,reduceCtorEq]
     refine hE2.useS ?_ ?_
     ·exact ⟨ylq _ _,Sim.refl _,trivial⟩
     have hA:=ycqz hko (by omega) hch0 hch24 (e:=e2) (by omega)
     obtain ⟨K2,hK2⟩:∃ K,addP (st i).2 (ch i) e2 = K:=⟨_,rfl⟩
     rw [hK2] at hA
     simp only [cntV] at hA
     simp only [thenO,yblk,clash,ha2,go_sem,Nat.reduceEqDiff,Nat.reduceAdd,Nat.reduceBEq,↓reduceIte,reduceCtorEq]
     refine hA.use ?_
     simp only [ybob,go_sem,Nat.reduceEqDiff,Nat.reduceAdd,↓reduceIte,reduceCtorEq]
     let cs:List Conf:=(List.range (i + 1)).map fun j=>(st j).1
     let ks:List Cnt:=(List.range (i + 1)).map fun j=>(st j).2
     have lc:cs.length = i + 1:=by simp [cs]
     have lk:ks.length = i + 1:=by simp [ks]
     have hS2:=ybxm cs ks (by omega) (by omega) dr1 dr2 e2 K2
     simp only [cntV] at hS2
     refine callM_of hS2 [(1,201),(2,202),(3,203),(4,204)] 400 [40,39,1,3,4,8,9,10,11,12,14] [4,8,10,301,302,12,205,206] ?_ ?_
     ·simp only [seeO,lc,lk,cntV,to1,okN,famCln,yfd,keepF,keepO,allQ,live,yc,yu,go_sem,Nat.reduceEqDiff,Nat.reduceAdd,Nat.reduceBEq,↓reduceIte,reduceCtorEq]
      refine ⟨fun q hq=>?_,fun q hq=>?_⟩
      ·simp only [cs,gmr _ _ _ _ hq]
       exact Sim.refl _
      ·simp only [ks,gmr _ _ _ _ hq]
       exact ⟨trivial,trivial,trivial,trivial,trivial⟩
     ·rintro r o' ⟨rfl,rfl⟩
      simp only [seeO,cntV,List.length_append,lc,lk,thenM,yko,nuF,nu,difN,keepF,keepO,Fam.ren,OB.ren,dim,yhb,yqz,yip,go_sem,Nat.reduceEqDiff,Nat.reduceBEq,↓reduceIte]
      simp only [ybog,ybtg,ybpc,splice,go_sem,Nat.reduceEqDiff,Nat.reduceAdd,Nat.reduceLeDiff,Nat.reduceLT,↓reduceIte,reduceCtorEq]
      have hst:st (i + 1) = (d,K2):=by
       show stAt (ybh p g) res ws c K0 (i + 1) = _
       rw [ybah]
       show (ykr p g (st i).1 (ch i),addP (st i).2 (ch i) (ybk p g (ykr p g (st i).1 (ch i)))) = _
       rw [hdd,he2,hK2]
      have hen':en (i + 1) = e2:=by
       show ybk p g (st (i + 1)).1 = _
       rw [hst]
       exact he2
      refine ⟨⟨by omega,by omega⟩,⟨by omega,by omega⟩,ikw (by omega) (by omega),?_⟩
      refine yh (i + 1) ⟨by omega,fun j hj'=>?_,by rw [hst]; exact hcd,by rw [hst,<- hK2]; exact ycrk hko hch24 hch0 (by omega),by rw [hst,<- hK2]; show (st i).2.steps + 1 = i + 1; omega⟩ (by omega) ?_
      ·by_cases q:j = i
       ·rw [q]; exact h0
       ·exact hj j (by omega)
      refine yey [(301,fun i=>(90,i)),(302,fun i=>(96,i))] [] [] ?_
      simp only [hst,hen',allQ,live,yc,yu,go_sem,Nat.reduceEqDiff,Nat.reduceLeDiff,↓reduceIte,reduceCtorEq]
      have hcs:∀ k,k < i + 1 + 1 -> (cs ++ [d]).getD k [] = (st k).1:=ybop (fun j=>(st j).1) (i + 1) d [] (by rw [hst])
      have hksx:∀ k,k < i + 1 + 1 -> (ks ++ [K2]).getD k default = (st k).2:=ybop (fun j=>(st j).2) (i + 1) K2 default (by rw [hst])
      refine ⟨by omega,fun q hq=>?_,fun q hq=>?_,fun q hq=>?_,fun q hq=>?_⟩
      ·by_cases q1:q < i
       ·simp only [if_pos q1]
        simp only [go_sem,live,yc,go_sem,reduceCtorEq]
       ·obtain rfl:q = i:=by omega
        simp only [if_neg q1,Nat.sub_self,Nat.zero_mul]
        simp only [ch,live,yc,go_sem,reduceCtorEq]
      ·by_cases q1:q < i + 1
       ·simp only [if_pos q1]
        simp only [go_sem,live,yc,go_sem,reduceCtorEq]
       ·obtain rfl:q = i + 1:=by omega
        simp only [if_neg q1,Nat.sub_self,Nat.zero_mul]
        simp only [hen',live,yc,go_sem,reduceCtorEq]
      ·rw [hcs q hq]
       exact Sim.refl _
      ·rw [hksx q hq]
       exact ⟨rfl,rfl,rfl,rfl,rfl⟩
   ·obtain rfl:i = ws.length:=by omega
    simp only [ybce,ybdr,go_sem,Nat.reduceEqDiff,Nat.reduceAdd,Nat.reduceLeDiff,↓reduceIte,reduceCtorEq]
    refine ⟨by decide,?_⟩
    simp only [ygf,go_sem]
    refine ⟨.tp [.ag (usV (mapR ws.length ch) :: usV (mapR (ws.length + 1) en) :: ybg (st ws.length).1 :: cntV (st ws.length).2),.i .i64 0],O2,?_,?_,⟨_,_,_,_,rfl⟩,rfl⟩
    ·subst hO2
     rw [fin (.inl rfl)]
     refine yey [] [] [(301,0),(302,0)] ?_
     simp only [seeX,usV,cntV,ybfs,ywk,allQ,live,yc,yu,go_sem,Nat.reduceEqDiff,↓reduceIte,reduceCtorEq]
     refine ⟨ycbo ⟨yqw ⟨sim_sl fun q hq=>by rw [gmR _ _ _ _ hq],sim_sl fun q hq=>by rw [gmR _ _ _ _ hq],Sim.refl _,Sim.refl _,Sim.refl _,Sim.refl _,Sim.refl _,Sim.refl _,trivial⟩,Sim.refl _,trivial⟩,fun q hq=>?_,fun q hq=>?_⟩
     ·rw [gmR _ _ _ _ hq]
      exact Sim.refl _
     ·rw [gmR _ _ _ _ hq]
      exact ⟨rfl,rfl,rfl,rfl,rfl⟩
    ·subst hO2
     simp only [seeX,usV,cntV,famCln,yfd,allQ,live,go_sem,Nat.reduceEqDiff,↓reduceIte]
end
end Sh
end Go.Proofs.YtpngeppkgoaimaaGreatDoor

namespace Go.Proofs.YtpngeppkgoaimaaGreatDoor
open Go
namespace Sh
open Ev Go.RowKit
set_option maxRecDepth 8000
theorem Returns.exT {P:Program} {g:FuncId} {args:List SV} {r:SV} (h:Returns P g args r):Returns P g args (.ex TT r):=fun G m us h1 h2 h3=>by
 obtain ⟨v,m',x,a,b,c,d,e⟩:=h G m us h1 h2 h3
 exact ⟨v,m',.ex TT r,a,b,c,rfl,.ex trivial (fun _ _ _ _ _=>trivial) (d ▸ e)⟩
section
variable {Q1 Q2:(Nat -> Option ABlk) -> Value -> Prop} {p:ProgT} {g:Gr}
theorem yboa (h:Checked Q1 Q2 p g) {kind:Int} (hk:1 <= kind /\ kind <= 4) {c:Conf} (hc:ycs p g c = true) {len:Nat} (hl:len <= 4096):Returns Tryz.prog 89 [.ag (ydh Q1 Q2 p.raw),grV g,.i .i64 kind,ybg c,.i .i64 len] (.i .i64 0):=by
 refine Returns.of (ycwt _ _ ?_)
 have hC:=ybac h c
 rw [if_pos hc] at hC
 have hD:=ybie kind
 rw [decide_eq_true hk.1,decide_eq_true hk.2] at hD
 have f1:decide ((len:Int) > 4096) = false:=by simp; omega
 simp only [ydh,grV] at hC
 simp only [c89,ycuz,yddp,ydh,grV,go_sem,Nat.reduceEqDiff,Nat.reduceAdd,Nat.reduceLT,↓reduceIte,reduceCtorEq]
 refine hC.use ?_
 simp only [thenO,ycyd,ydbd,Int.reduceBNe,go_sem,Nat.reduceEqDiff,Nat.reduceAdd,↓reduceIte,reduceCtorEq]
 refine hD.use ?_
 simp only [ydbj,ycyw,f1,yu,Bool.and_self,go_sem,Nat.reduceEqDiff,Nat.reduceAdd,↓reduceIte,reduceCtorEq]
theorem ybjz (h:Checked Q1 Q2 p g):Returns Tryz.prog 64 [.ag (ymc p.raw),grV g] (yff p g):=by
 have hp':=h.hp
 unfold ProgT.ok at hp'
 simp only [Bool.and_eq_true,decide_eq_true_eq] at hp'
 exact (yog p.raw h.hg hp'.1.1.2 hp'.1.1.1.2).exT
theorem yzm (h:Checked Q1 Q2 p g) (kind:Int):Cm Tryz.prog 90 [(201,0),(203,0)] ylr [.ag (ydh Q1 Q2 p.raw),grV g,.i .i64 kind,seeC] fun r o=>r = .ag (ydo p g (g.ports.map netP) kind) /\ o = ylr:=by
 refine ycpb [(201,0),(203,0)] [] _ _ _ ?_
 have hM:=ybjz h
 have hN:=ybju h.hg
 have hA:=ycqi h.hg
 simp only [grV] at hM hN hA
 simp only [c90,ycyy,ydbb,ydh,grV,seeC,ylr,clash,go_sem,Nat.reduceEqDiff,Nat.reduceAdd,Nat.reduceLT,↓reduceIte,reduceCtorEq]
 refine hM.useS ?_ ?_
 ·exact ⟨yqw ⟨Sim.refl _,ylq _ _,ylq _ _,trivial⟩,Sim.refl _,trivial⟩
 simp only [usV,yff] at hN ⊢
 simp only [thenO,clash,go_sem,Nat.reduceEqDiff,Nat.reduceAdd,Nat.reduceLeDiff,↓reduceIte,reduceCtorEq]
 refine hN.use ?_
 simp only [go_sem,Nat.reduceAdd,Nat.reduceLeDiff,↓reduceIte]
 refine ⟨by decide,hA.use ?_⟩
 simp only [ygf,go_sem,Nat.reduceEqDiff,Nat.reduceAdd,↓reduceIte]
 refine ⟨by decide,by decide,.ag (ydo p g (g.ports.map netP) kind),ylr,?_,?_,rfl,rfl⟩
 ·refine yey [] [] [] ?_
  simp only [ydo,yff,usV,seeC,ylr,allQ,live,yc,go_sem,Nat.reduceEqDiff,↓reduceIte,reduceCtorEq]
 ·simp only [ydo,yff,usV,seeC,ylr,famCln,yfd,allQ,live,go_sem,Nat.reduceEqDiff,↓reduceIte]
theorem yblm (h:Checked Q1 Q2 p g) {kind:Int} {net:List Nat} {res:Nat -> Nat -> Nat} (hd:DaemonOk kind net res) {c:Conf} (hc:ycs p g c = true) {ws:List Nat} (hw:∀ k,ws.getD k 0 < 2 ^ 32) (hwl:ws.length <= 4000) :
  Cm Tryz.prog 93 [(201,0),(203,0)] ylr [.ag (ydo p g net kind),ybg c,usV ws]
   fun r o=>(∃ l1 l2 c' k',r = .tp [.ag (usV l1 :: usV l2 :: ybg c' :: cntV k'),.i .i64 0]) /\ o = seeX ((ybh p g).runs res ws c |>.map (·.1)) ((ybh p g).runs res ws c |>.map (·.2)):=by
 refine ycpo [(201,0),(203,0)] [121] _ _ _ ?_
 have hX:=ybkb h hd hc hw hwl
 generalize ((ybh p g).runs res ws c).map (·.1) = CS at hX ⊢
 generalize ((ybh p g).runs res ws c).map (·.2) = KS at hX ⊢
 simp only [c93,yday,ycxg,ylr,ydo,yff,usV,seeC,go_sem,Nat.reduceEqDiff,Nat.reduceAdd,Nat.reduceLT,↓reduceIte,reduceCtorEq]
 refine callM_of hX [(201,201),(203,203),(205,3),(206,5)] 0 [6,7] [6] ?_ ?_
 ·simp only [ylr,ybqt,ydo,yff,usV,seeC,List.cons_append,List.nil_append,to1,okN,famCln,yfd,keepF,keepO,allQ,live,yc,go_sem,Nat.reduceEqDiff,Nat.reduceAdd,Nat.reduceLeDiff,Nat.reduceBEq,↓reduceIte,reduceCtorEq]
 ·rintro r o' ⟨⟨l1,l2,c',k',rfl⟩,rfl⟩
  simp only [seeX,usV,cntV,thenM,yko,nuF,nu,difN,keepF,keepO,Fam.ren,OB.ren,dim,yhb,yzv,yre,yqz,yip,go_sem,Nat.reduceEqDiff,Nat.reduceAdd,Nat.reduceBEq,↓reduceIte,reduceCtorEq]
  simp only [ygf,go_sem]
  refine ⟨.tp [.ag (usV l1 :: usV l2 :: ybg c' :: cntV k'),.i .i64 0],seeX CS KS,?_,?_,⟨l1,l2,c',k',rfl⟩,rfl⟩
  ·refine yey [] [] [] ?_
   simp only [seeX,usV,cntV,allQ,live,yc,go_sem,Nat.reduceEqDiff,↓reduceIte,reduceCtorEq]
  ·simp only [seeX,usV,cntV,famCln,yfd,allQ,live,go_sem,Nat.reduceEqDiff,↓reduceIte]
def ydi (l:List Conf):SV:=.sl 1 l.length (fun i=>[ybg (l.getD i [])])
def ydn (l:List Cnt):SV:=.sl 5 l.length (fun i=>cntV (l.getD i default))
theorem ybuv (h:Checked Q1 Q2 p g) {kind:Int} (hk:1 <= kind /\ kind <= 4) {res:Nat -> Nat -> Nat} (hd:DaemonOk kind (g.ports.map netP) res) {c:Conf} (hc:ycs p g c = true) {ws:List Nat} (hw:∀ k,ws.getD k 0 < 2 ^ 32) (hwl:ws.length <= 4000) :
  Returns Tryz.prog 49 [.ag (ydh Q1 Q2 p.raw),grV g,.i .i64 kind,ybg c,usV ws] (.tp [ydi (((ybh p g).runs res ws c).map (·.1)),ydn (((ybh p g).runs res ws c).map (·.2)),.i .i64 0]):=by
 refine Returns.of (ycte [90,93] _ _ ?_)
 have hC:=yboa h hk hc (len:=ws.length) (by omega)
 have hN:=yzm h kind
 have hX:=yblm h hd hc hw hwl
 generalize ((ybh p g).runs res ws c).map (·.1) = CS at hX ⊢
 generalize ((ybh p g).runs res ws c).map (·.2) = KS at hX ⊢
 simp only [ydh,grV] at hC
 simp only [c49,ycxv,ycus,ydh,grV,usV,go_sem,Nat.reduceEqDiff,Nat.reduceAdd,Nat.reduceLT,Nat.reduceBEq,↓reduceIte,reduceCtorEq]
 refine hC.use ?_
 simp only [thenO,ydcx,ydal,ycwd,yddq,Int.reduceBNe,go_sem,Nat.reduceEqDiff,Nat.reduceAdd,Nat.reduceLT,↓reduceIte,reduceCtorEq]
 refine callM_of hN [(201,14),(203,15)] 0 [3,4,14,15] [] ?_ ?_
 ·simp only [ylr,seeC,ydh,grV,to1,okN,famCln,yfd,keepF,keepO,allQ,live,yc,go_sem,Nat.reduceEqDiff,Nat.reduceAdd,↓reduceIte,reduceCtorEq]
 rintro r o' ⟨rfl,rfl⟩
 simp only [ylr,ydo,yff,usV,seeC,thenM,yko,nuF,nu,difN,keepF,keepO,Fam.ren,OB.ren,dim,yhb,ycps,yzv,yceb,yre,ycgp,ycbd,go_sem,Nat.reduceEqDiff,Nat.reduceAdd,Nat.reduceLT,Nat.reduceBEq,↓reduceIte,reduceCtorEq]
 simp only [ycxz,go_sem,Nat.reduceEqDiff,Nat.reduceAdd,Nat.reduceBEq,↓reduceIte,reduceCtorEq]
 simp only [ydo,yff,usV,seeC] at hX
 refine callM_of hX [(201,14),(203,15)] 0 [14,15] [] ?_ ?_
 ·simp only [ylr,to1,okN,famCln,yfd,keepF,keepO,allQ,live,yc,go_sem,Nat.reduceEqDiff,Nat.reduceAdd,↓reduceIte,reduceCtorEq]
 rintro r o' ⟨⟨l1,l2,c',k',rfl⟩,rfl⟩
 simp only [seeX,cntV,thenM,yko,nuF,nu,difN,keepF,keepO,Fam.ren,OB.ren,dim,yhb,yzv,yre,yqz,yip,go_sem,Nat.reduceEqDiff,Nat.reduceAdd,Nat.reduceLT,Nat.reduceBEq,↓reduceIte,reduceCtorEq]
 simp only [ycwf,ycbj,clash,Int.reduceBNe,ydi,ydn,go_sem,Nat.reduceEqDiff,Nat.reduceAdd,↓reduceIte,reduceCtorEq]
 exact Sim.refl _
end
end Sh
end Go.Proofs.YtpngeppkgoaimaaGreatDoor

namespace Go.Proofs.YtpngeppkgoaimaaGreatDoor
open Go
def yee (v m:Int):Int:=if m < 1 then 0 else v % m
def atP (l:List Int) (i:Nat):Int:=l.getD i 0
theorem ycw {v m:Int} (h:1 <= m):0 <= yee v m /\ yee v m < m:=by
 unfold yee
 rw [if_neg (by omega)]
 exact ⟨Int.emod_nonneg _ (by omega),Int.emod_lt_of_pos _ (by omega)⟩
namespace Sh
open Ev Go.RowKit
set_option maxRecDepth 8000
theorem ybfu {v m:Int} (h:1 <= m):(if v.tmod m < 0 then v.tmod m + m else v.tmod m) = v % m:=by
 have h1:=Int.emod_add_mul_ediv v m
 have h2:=Int.emod_nonneg v (show m ≠ 0 by omega)
 have h3:=Int.emod_lt_of_pos v (show 0 < m by omega)
 have h4:=Int.tmod_eq_emod (a:=v) (b:=m)
 have h5:(m.natAbs:Int) = m:=by omega
 rw [h4]
 by_cases q:0 <= v \/ m ∣ v
 ·simp only [if_pos q,Int.natCast_zero,Int.sub_zero]
  rw [if_neg (by omega)]
 ·simp only [if_neg q,h5]
  rw [if_pos (by omega)]
  omega
theorem ycy (v m:Int) (hm:m <= 4611686018427387904) (hv:inK .i64 v):Returns Tryz.prog 44 [.i .i64 v,.i .i64 m] (.i .i64 (yee v m)):=by
 refine Returns.of (ydcy _ _ ?_)
 simp only [c44,ycvl,yddu,ycvx,ydcc,ydaw,ycwv,ycxs,yu,go_sem,Nat.reduceEqDiff,Nat.reduceAdd,↓reduceIte,reduceCtorEq]
 unfold yee
 refine ⟨fun h=>by rw [if_pos h],fun h=>⟨by omega,fun h2=>?_,fun h2=>?_⟩⟩
 ·have h3:=ybfu (v:=v) (show 1 <= m by omega)
  rw [if_pos h2] at h3
  rw [if_neg h,h3]
  have h4:=Int.emod_nonneg v (show m ≠ 0 by omega)
  have h5:=Int.emod_lt_of_pos v (show 0 < m by omega)
  exact ⟨ikw (by omega) (by omega),rfl⟩
 ·have h3:=ybfu (v:=v) (show 1 <= m by omega)
  rw [if_neg h2] at h3
  rw [if_neg h,h3]
theorem at_ret (l:List Int) (i:Nat):Returns Tryz.prog 50 [yj l,.i .i64 i] (.i .i64 (atP l i)):=by
 refine Returns.of (ycyh _ _ ?_)
 simp only [c50,ydcl,yczy,yddc,ycvd,yj,yu,go_sem,Nat.reduceEqDiff,Nat.reduceAdd,↓reduceIte,reduceCtorEq]
 exact ⟨fun h=>⟨by omega,rfl⟩,fun h=>by unfold atP; rw [List.getD,List.getElem?_eq_none (by omega)]; rfl⟩
theorem wrap32 (z:Int):0 <= IntKind.wrap .u32 z /\ IntKind.wrap .u32 z < 2 ^ 32:=by
 unfold IntKind.wrap
 simp only [IntKind.signed,IntKind.bits]
 exact ⟨Int.emod_nonneg _ (by decide),Int.emod_lt_of_pos _ (by decide)⟩
theorem yqf {α:Type} (l:List α) (x d:α) (i:Nat):(l ++ [x]).getD i d = if i < l.length then l.getD i d else if i = l.length then x else d:=by
 by_cases h:i < l.length
 ·simp [List.getD,List.getElem?_append_left h,h]
 ·by_cases e:i = l.length
  ·subst e; simp [List.getD]
  ·rw [if_neg h,if_neg e,List.getD,List.getElem?_eq_none (by simp; omega)]
   rfl
theorem yjl (l:List Nat) (hb:∀ k,l.getD k 0 < 2 ^ 32) (n:Nat) (hn:n <= 1000):Ct Tryz.prog 20 [usV l,.i .i64 n] fun r=>∃ ws:List Nat,ws.length = n /\ (∀ k,ws.getD k 0 < 2 ^ 32) /\ Sim r (usV ws):=by
 refine ycyu _ _ ?_
 simp only [c20,ycxy,ycvr,ydaf,usV,go_sem,↓reduceIte]
 refine ybe (σ:=List Nat) (fun ws=>⟨[(6,.i .i64 ws.length),(1,.i .i64 n),(0,usV l),(5,.os (100,0) 0 ws.length true)],[(100,.one (some ⟨44,false,1,ws.length,fun k=>[.i .u32 (ws.getD k 0:Nat)]⟩))]⟩) (fun ws=>ws.length <= n /\ ∀ k,ws.getD k 0 < 2 ^ 32) (fun ws=>n - ws.length) [] ⟨Nat.zero_le _,fun k=>by simp⟩ ?_ ?_
 ·refine yg [] [100] [] ?_
  simp only [usV,allQ,live,yc,Int.natCast_zero,go_sem,Nat.reduceEqDiff,↓reduceIte,reduceCtorEq]
  exact ⟨(100,0),rfl,rfl,rfl⟩
 ·rintro ws ⟨h1,h2⟩
  simp only [ycvk,ydbq,usV,go_sem,Nat.reduceEqDiff,Nat.reduceAdd,↓reduceIte,reduceCtorEq]
  refine ⟨fun hlt=>⟨fun h0=>?_,fun h0=>?_⟩,fun hlt=>?_⟩
  ·simp only [ycpx,ycxa,splice,go_sem,Nat.reduceEqDiff,Nat.reduceAdd,Nat.reduceLeDiff,Nat.reduceLT,↓reduceIte,reduceCtorEq]
   refine ⟨⟨by omega,by omega⟩,ikw (by omega) (by omega),?_⟩
   refine yh (ws ++ [4294967295]) ⟨by simp; omega,fun k=>?_⟩ (by simp; omega) ?_
   ·rw [yqf]
    split
    ·exact h2 k
    ·split <;> decide
   refine yg [(100,fun i=>(19,i))] [] [] ?_
   simp only [List.length_append,allQ,live,yc,yu,go_sem,Nat.reduceEqDiff,↓reduceIte,reduceCtorEq]
   refine ⟨by omega,fun i hi=>?_⟩
   rw [yqf]
   by_cases q:i < ws.length
   ·simp only [if_pos q]
    simp only [live,yc,go_sem,reduceCtorEq]
   ·obtain rfl:i = ws.length:=by omega
    simp only [if_neg q,Nat.sub_self,Nat.zero_mul]
    simp only [live,yu,go_sem,↓reduceIte,reduceCtorEq]
    rfl
  ·simp only [ycxd,ydau,clash,go_sem,Nat.reduceEqDiff,Nat.reduceAdd,↓reduceIte,reduceCtorEq]
   have hl0:0 < l.length:=by omega
   have t1:(ws.length:Int).tmod (l.length:Int) = ((ws.length % l.length:Nat):Int):=(Int.ofNat_tmod _ _).symm
   have t2:(ws.length:Int).tdiv (l.length:Int) = ((ws.length / l.length:Nat):Int):=(Int.ofNat_tdiv _ _).symm
   have t3:((ws.length / l.length:Nat):Int).tmod 24 = ((ws.length / l.length % 24:Nat):Int):=(Int.ofNat_tmod _ 24).symm
   have hlt1:=Nat.mod_lt ws.length hl0
   have hle1:=Nat.div_le_self ws.length l.length
   obtain ⟨D,hD⟩:∃ D,ws.length / l.length = D:=⟨_,rfl⟩
   rw [hD] at t2 t3 hle1
   obtain ⟨K,hK⟩:∃ K,D % 24 = K:=⟨_,rfl⟩
   have hK24:K < 24:=by rw [<- hK]; exact Nat.mod_lt _ (by decide)
   have t4:IntKind.wrap .u64 (K:Int) = K:=by unfold IntKind.wrap; simp [IntKind.bits,IntKind.signed]; omega
   simp only [t1,t2,t3,hK,t4]
   generalize IntKind.wrap .u32 _ = A
   refine ⟨by omega,⟨by omega,by omega⟩,⟨by omega,ikw (by omega) (by omega)⟩,by decide,?_⟩
   simp only [ycpx,yddr,splice,go_sem,Nat.reduceEqDiff,Nat.reduceAdd,Nat.reduceLeDiff,Nat.reduceLT,↓reduceIte,reduceCtorEq]
   generalize hZ:IntKind.wrap .u32 ((BitVec.toNat _:Nat):Int) = Z
   have hz:0 <= Z /\ Z < 2 ^ 32:=by rw [<- hZ]; exact wrap32 _
   obtain ⟨z,rfl⟩:∃ z:Nat,Z = z:=⟨Z.toNat,by omega⟩
   refine ⟨⟨by omega,by show _ < ((32:Nat):Int); omega⟩,⟨by simp [IntKind.min,IntKind.signed]; omega,by simp [IntKind.max,IntKind.bits,IntKind.signed]; omega⟩,⟨by omega,by show _ < ((32:Nat):Int); omega⟩,⟨by omega,by omega⟩,ikw (by omega) (by omega),?_⟩
   refine yh (ws ++ [z]) ⟨by simp; omega,fun k=>?_⟩ (by simp; omega) ?_
   ·rw [yqf]
    split
    ·exact h2 k
    ·split <;> omega
   refine yg [(100,fun i=>(46,i))] [] [] ?_
   simp only [List.length_append,allQ,live,yc,yu,go_sem,Nat.reduceEqDiff,↓reduceIte,reduceCtorEq]
   refine ⟨by omega,fun i hi=>?_⟩
   rw [yqf]
   by_cases q:i < ws.length
   ·simp only [if_pos q]
    simp only [live,yc,go_sem,reduceCtorEq]
   ·obtain rfl:i = ws.length:=by omega
    simp only [if_neg q,Nat.sub_self,Nat.zero_mul]
    simp only [live,yc,go_sem,↓reduceIte,reduceCtorEq]
  ·simp only [ychf,go_sem,Nat.reduceEqDiff,Nat.reduceAdd,↓reduceIte,reduceCtorEq]
   exact ⟨ws,by omega,h2,Sim.refl _⟩
end Sh
end Go.Proofs.YtpngeppkgoaimaaGreatDoor

namespace Go.Proofs.YtpngeppkgoaimaaGreatDoor
open Go
namespace Sh
open Ev Go.RowKit
set_option maxRecDepth 8000
def ysl (l:List Int) (k:Nat):Int:=(l.take k).foldl max 0
theorem ybzd {l:List Int} (h:∀ x ∈ l,0 <= x /\ x <= 255):∀ k,0 <= ysl l k /\ ysl l k <= 255:=by
 intro k
 unfold ysl
 have:∀ (l:List Int) (a:Int),(∀ x ∈ l,0 <= x /\ x <= 255) -> 0 <= a /\ a <= 255 -> 0 <= l.foldl max a /\ l.foldl max a <= 255:=by
  intro l
  induction l with
  | nil=>intro a _ h; exact h
  | cons x l ih=>intro a hl ha; exact ih _ (fun y hy=>hl y (List.mem_cons_of_mem _ hy)) (by have:=hl x List.mem_cons_self; omega)
 exact this _ 0 (fun x hx=>h x (List.mem_of_mem_take hx)) (by omega)
theorem ybin {l:List Int} {k:Nat} (hk:k < l.length):ysl l (k + 1) = max (ysl l k) (l.getD k 0):=by
 unfold ysl
 rw [List.take_succ_eq_append_getElem hk,List.foldl_append,getD_at hk]
 rfl
theorem ybmt {l:List Int} (h:∀ x ∈ l,0 <= x /\ x <= 255) (hl:0 < l.length):ysl l l.length = maxI l:=by
 unfold ysl
 rw [List.take_length]
 exact (ybgm hl fun x hx=>(h x hx).1).symm
theorem ynf {vars:List VarR} {b:VarR -> Int × Int} {L:List Int} (h:yed ((vars.take L.length).map b) L) (hl:L.length < vars.length) {y:Int} (hy:(b (vars.getD L.length default)).1 <= y /\ y <= (b (vars.getD L.length default)).2):yed ((vars.take (L ++ [y]).length).map b) (L ++ [y]):=by
 refine ⟨by simp; omega,fun i c x hb hx=>?_⟩
 rw [List.length_append,List.length_singleton,List.getElem?_map] at hb
 have hi:i < L.length + 1:=by have:=(List.getElem?_eq_some_iff.1 hx).1; simpa using this
 rw [List.getElem?_take_of_lt hi] at hb
 by_cases q:i < L.length
 ·rw [List.getElem?_append_left q] at hx
  refine h.2 i c x ?_ hx
  rw [List.getElem?_map,List.getElem?_take_of_lt q]
  exact hb
 ·obtain rfl:i = L.length:=by omega
  rw [List.getElem?_append_right (Nat.le_refl _),Nat.sub_self] at hx
  cases hx
  rw [List.getElem?_eq_getElem hl] at hb
  cases hb
  rw [getD_at hl] at hy
  exact hy
section
variable {p:ProgT} {g:Gr}
theorem yju (hg:ybc g) (hp:p.ok = true) (hf:yut p g = true) {raw:List Int} (hr:∀ k,inK .i64 (raw.getD k 0)) :
  Ct Tryz.prog 18 [grV g,ydb p.vars,yj raw] fun r=>∃ c,ycs p g c = true /\ Sim r (ybg c):=by
 refine ycxo _ _ ?_
 have hid:=hg.2.2.1
 have h24:=hg.2.1
 have h1:=hg.1
 have hids:=hg.2.2.2.1
 simp only [c18,yczx,ycwe,ydao,grV,yba,go_sem,Nat.reduceEqDiff,Nat.reduceAdd,Nat.reduceLT,↓reduceIte,reduceCtorEq]
 obtain ⟨n,hn⟩:∃ n,g.ports.length = n:=⟨_,rfl⟩
 refine ybe (σ:=Nat) (fun k=>⟨[(9,.i .i64 k),(8,.i .i64 (ysl g.ids k)),(7,.i .i64 n),(3,.pt (3,0) 0 0),(1,ydb p.vars),(2,yj raw)],[(3,.one (some ⟨28,true,2,1,fun _=>[yj g.ids,yba g.ports]⟩))]⟩) (fun k=>k <= n) (fun k=>n - k) 0 (Nat.zero_le _) ?_ ?_
 ·refine yg [] [] [] ?_
  simp only [yba,hn,allQ,live,yc,yu,Int.natCast_zero,go_sem,Nat.reduceEqDiff,↓reduceIte,reduceCtorEq]
  rfl
 ·intro k hk
  have htop:=ybzd hids k
  simp only [ycvs,yczw,ydbp,ycze,ydbf,yj,go_sem,Nat.reduceEqDiff,Nat.reduceAdd,Nat.reduceLeDiff,↓reduceIte,reduceCtorEq]
  refine ⟨fun hlt=>?_,fun hlt=>?_⟩
  ·have hs:=ybin (l:=g.ids) (k:=k) (by omega)
   refine ⟨by omega,ikw (by omega) (by omega),?_⟩
   refine yh (k + 1) (by omega) (by omega) ?_
   refine yg [] [] [] ?_
   simp only [allQ,live,yc,yu,go_sem,Nat.reduceEqDiff,↓reduceIte,reduceCtorEq]
   exact ⟨by omega,hs.symm⟩
  ·obtain rfl:k = n:=by omega
   have htm:ysl g.ids k = maxI g.ids:=by rw [<- hn,<- hid]; exact ybmt hids (by omega)
   rw [htm] at htop ⊢
   obtain ⟨top,htp⟩:∃ t,maxI g.ids = t:=⟨_,rfl⟩
   rw [htp] at htop ⊢
   obtain ⟨nv,hnv⟩:∃ k,p.vars.length = k:=⟨_,rfl⟩
   have hp':=hp
   unfold ProgT.ok at hp'
   simp only [Bool.and_eq_true,decide_eq_true_eq] at hp'
   refine ybe (σ:=Conf) (fun C=>⟨[(11,.i .i64 C.length),(10,.os (300,0) 0 C.length true),(8,.i .i64 top),(7,.i .i64 k),(3,.pt (3,0) 0 0),(1,ydb p.vars),(2,yj raw)],
    [(3,.one (some ⟨28,true,2,1,fun _=>[yj g.ids,yba g.ports]⟩)),(300,.one (some ⟨22,false,1,C.length,fun j=>[yj (C.getD j [])]⟩))]⟩)
    (fun C=>C.length <= k /\ ∀ v,v < C.length -> yed (p.vars.map (ybd g v)) (C.getD v [])) (fun C=>k - C.length) [] ⟨Nat.zero_le _,fun v hv=>absurd hv (Nat.not_lt_zero v)⟩ ?_ ?_
   ·refine yg [] [300] [] ?_
    simp only [yj,yba,allQ,live,yc,Int.natCast_zero,go_sem,Nat.reduceEqDiff,Nat.reduceBEq,↓reduceIte,reduceCtorEq]
    exact ⟨(300,0),rfl,rfl,rfl⟩
   ·rintro C ⟨hC1,hC2⟩
    simp only [ycyr,ycit,yclu,yj,go_sem,Nat.reduceEqDiff,Nat.reduceAdd,↓reduceIte,reduceCtorEq]
    refine ⟨fun hlt=>?_,fun hlt=>?_⟩
    ·refine ybe (σ:=List Int) (fun L=>⟨[(13,.i .i64 L.length),(12,.os (301,0) 0 L.length true),(11,.i .i64 C.length),(10,.os (300,0) 0 C.length true),(8,.i .i64 top),(7,.i .i64 k),(3,.pt (3,0) 0 0),(1,ydb p.vars),(2,yj raw)],
      [(301,.one (some ⟨3,false,1,L.length,fun j=>[.i .i64 (L.getD j 0)]⟩)),(3,.one (some ⟨28,true,2,1,fun _=>[yj g.ids,yba g.ports]⟩)),(300,.one (some ⟨22,false,1,C.length,fun j=>[yj (C.getD j [])]⟩))]⟩)
      (fun L=>L.length <= nv /\ yed ((p.vars.take L.length).map (ybd g C.length)) L) (fun L=>nv - L.length) [] ⟨Nat.zero_le _,rfl,fun i b x hb=>by simp at hb⟩ ?_ ?_
     ·refine yg [] [301] [] ?_
      simp only [yj,yba,allQ,live,yc,Int.natCast_zero,go_sem,Nat.reduceEqDiff,Nat.reduceBEq,↓reduceIte,reduceCtorEq]
      exact ⟨(301,0),rfl,rfl,rfl⟩
     ·rintro L ⟨hL1,hL2⟩
      obtain ⟨x,hx⟩:∃ x,p.vars.getD L.length default = x:=⟨_,rfl⟩
      simp only [yckw,ycer,yckc,yj,ydb,hnv,hx,varC,clash,go_sem,Nat.reduceEqDiff,Nat.reduceAdd,Nat.reduceLeDiff,↓reduceIte,reduceCtorEq]
      refine ⟨fun hlt2=>?_,fun hlt2=>?_⟩
      ·have hLn:L.length < p.vars.length:=by omega
       have hxm:x ∈ p.vars:=by rw [<- hx,getD_at hLn]; exact List.getElem_mem _
       have hxo:=List.all_eq_true.1 hp'.1.1.2 x hxm
       have hvo:=ybbl hxo
       obtain ⟨hb1,hb2⟩:=yll hg hxo
       rw [hid,hn] at hb1
       rw [htp] at hb2
       have hbn:=ybgy hg hp hf hxm C.length
       have hidx:(C.length:Int) * (nv:Int) + (L.length:Int) = ((C.length * nv + L.length:Nat):Int):=by push_cast; rfl
       have hdeg:=hg.deg_lt (v:=C.length)
       have hmi:(C.length:Int) * (nv:Int) = ((C.length * nv:Nat):Int):=by push_cast; rfl
       have hmul:C.length * nv <= 24 * 6:=Nat.mul_le_mul (by omega) (by omega)
       have hAt:=at_ret raw (C.length * nv + L.length)
       have hav:inK .i64 (atP raw (C.length * nv + L.length)):=hr _
       simp only [yj] at hAt
       refine ⟨by omega,by omega,by omega,ikw (by omega) (by omega),ikw (by omega) (by omega),by omega,ikw (by omega) (by omega),ikw (by omega) (by omega),by omega,?_⟩
       rcases hvo.1 with hkk | hkk | hkk
       ·have hbt:ybd g C.length x = (x.lo,x.hi + x.perNode * (k:Int) + x.perID * top):=by
         unfold ybd
         rw [if_pos hkk,hid,hn,htp]
        rw [hbt] at hbn
        simp only [] at hbn
        simp only [hkk]
        simp only [ybfq,ybgr,ybgx,ybha,ybhe,clash,Int.reduceBEq,hidx,go_sem,Nat.reduceEqDiff,Nat.reduceAdd,↓reduceIte,reduceCtorEq]
        refine ⟨by rw [hmi]; exact ikw (by omega) (by omega),ikw (by omega) (by omega),hAt.use ?_⟩
        simp only [thenO,go_sem,Nat.reduceEqDiff,Nat.reduceAdd,Nat.reduceLT,↓reduceIte,reduceCtorEq]
        have hW:=ycy (atP raw (C.length * nv + L.length)) (x.hi + x.perNode * (k:Int) + x.perID * top - (x.lo) + 1) (by omega) hav
        obtain ⟨w1,w2⟩:=ycw (v:=atP raw (C.length * nv + L.length)) (m:=x.hi + x.perNode * (k:Int) + x.perID * top - (x.lo) + 1) (by omega)
        generalize yee (atP raw (C.length * nv + L.length)) (x.hi + x.perNode * (k:Int) + x.perID * top - (x.lo) + 1) = W at hW w1 w2
        refine ⟨ikw (by omega) (by omega),ikw (by omega) (by omega),hW.use ?_⟩
        simp only [ybhd,go_sem,Nat.reduceEqDiff,Nat.reduceAdd,Nat.reduceLeDiff,↓reduceIte,reduceCtorEq]
        refine ⟨ikw (by omega) (by omega),⟨by omega,by omega⟩,ikw (by omega) (by omega),?_⟩
        refine yh (L ++ [x.lo + W]) ⟨by simp; omega,ynf hL2 hLn (by rw [hx,hbt]; exact ⟨by simp only []; omega,by simp only []; omega⟩)⟩ (by simp; omega) ?_
        refine yg [(301,fun i=>(101,i))] [] [] ?_
        simp only [yba,ybb,hn,List.length_append,allQ,live,yc,yu,go_sem,Nat.reduceEqDiff,↓reduceIte,reduceCtorEq]
        refine ⟨by omega,fun i hi=>?_⟩
        rw [yqf]
        by_cases q:i < L.length
        ·simp only [if_pos q]
         simp only [live,yc,go_sem,reduceCtorEq]
        ·obtain rfl:i = L.length:=by omega
         simp only [if_neg q,Nat.sub_self,Nat.zero_mul]
         simp only [live,yc,go_sem,↓reduceIte,reduceCtorEq]
       ·have hbt:ybd g C.length x = (0,1):=by
         unfold ybd
         rw [if_neg (by omega),if_pos hkk]
        rw [hbt] at hbn
        simp only [] at hbn
        simp only [hkk]
        simp only [ybfq,ybgr,ybgx,ybha,ybhe,clash,hidx,go_sem,Nat.reduceEqDiff,Nat.reduceAdd,↓reduceIte,reduceCtorEq]
        refine ⟨by rw [hmi]; exact ikw (by omega) (by omega),ikw (by omega) (by omega),hAt.use ?_⟩
        simp only [thenO,go_sem,Nat.reduceEqDiff,Nat.reduceAdd,Nat.reduceLT,↓reduceIte,reduceCtorEq]
        have hW:=ycy (atP raw (C.length * nv + L.length)) (1 - (0) + 1) (by omega) hav
        obtain ⟨w1,w2⟩:=ycw (v:=atP raw (C.length * nv + L.length)) (m:=1 - (0) + 1) (by omega)
        generalize yee (atP raw (C.length * nv + L.length)) (1 - (0) + 1) = W at hW w1 w2
        refine ⟨ikw (by omega) (by omega),ikw (by omega) (by omega),hW.use ?_⟩
        simp only [ybhd,go_sem,Nat.reduceEqDiff,Nat.reduceAdd,Nat.reduceLeDiff,↓reduceIte,reduceCtorEq]
        refine ⟨ikw (by omega) (by omega),⟨by omega,by omega⟩,ikw (by omega) (by omega),?_⟩
        refine yh (L ++ [0 + W]) ⟨by simp; omega,ynf hL2 hLn (by rw [hx,hbt]; exact ⟨by simp only []; omega,by simp only []; omega⟩)⟩ (by simp; omega) ?_
        refine yg [(301,fun i=>(101,i))] [] [] ?_
        simp only [yba,ybb,hn,List.length_append,allQ,live,yc,yu,go_sem,Nat.reduceEqDiff,↓reduceIte,reduceCtorEq]
        refine ⟨by omega,fun i hi=>?_⟩
        rw [yqf]
        by_cases q:i < L.length
        ·simp only [if_pos q]
         simp only [live,yc,go_sem,reduceCtorEq]
        ·obtain rfl:i = L.length:=by omega
         simp only [if_neg q,Nat.sub_self,Nat.zero_mul]
         simp only [live,yc,go_sem,↓reduceIte,reduceCtorEq]
       ·have hbt:ybd g C.length x = (-1,((g.ports.getD C.length []).length:Int) - 1):=by
         unfold ybd
         rw [if_neg (by omega),if_neg (by omega),if_pos hkk]
        rw [hbt] at hbn
        simp only [] at hbn
        simp only [hkk]
        simp only [ybfq,ybgr,ybgx,ybha,ybhe,clash,Int.reduceBEq,hidx,yba,ybb,hn,go_sem,Nat.reduceEqDiff,Nat.reduceAdd,↓reduceIte,reduceCtorEq]
        refine ⟨by omega,ikw (by omega) (by omega),by rw [hmi]; exact ikw (by omega) (by omega),ikw (by omega) (by omega),hAt.use ?_⟩
        simp only [thenO,go_sem,Nat.reduceEqDiff,Nat.reduceAdd,Nat.reduceLT,↓reduceIte,reduceCtorEq]
        have hW:=ycy (atP raw (C.length * nv + L.length)) (((g.ports.getD C.length []).length:Int) - 1 - (-1) + 1) (by omega) hav
        obtain ⟨w1,w2⟩:=ycw (v:=atP raw (C.length * nv + L.length)) (m:=((g.ports.getD C.length []).length:Int) - 1 - (-1) + 1) (by omega)
        generalize yee (atP raw (C.length * nv + L.length)) (((g.ports.getD C.length []).length:Int) - 1 - (-1) + 1) = W at hW w1 w2
        refine ⟨ikw (by omega) (by omega),ikw (by omega) (by omega),hW.use ?_⟩
        simp only [ybhd,go_sem,Nat.reduceEqDiff,Nat.reduceAdd,Nat.reduceLeDiff,↓reduceIte,reduceCtorEq]
        refine ⟨ikw (by omega) (by omega),⟨by omega,by omega⟩,ikw (by omega) (by omega),?_⟩
        refine yh (L ++ [-1 + W]) ⟨by simp; omega,ynf hL2 hLn (by rw [hx,hbt]; exact ⟨by simp only []; omega,by simp only []; omega⟩)⟩ (by simp; omega) ?_
        refine yg [(301,fun i=>(101,i))] [] [] ?_
        simp only [List.length_append,allQ,live,yc,yu,go_sem,Nat.reduceEqDiff,↓reduceIte,reduceCtorEq]
        refine ⟨by omega,fun i hi=>?_⟩
        rw [yqf]
        by_cases q:i < L.length
        ·simp only [if_pos q]
         simp only [live,yc,go_sem,reduceCtorEq]
        ·obtain rfl:i = L.length:=by omega
         simp only [if_neg q,Nat.sub_self,Nat.zero_mul]
         simp only [live,yc,go_sem,↓reduceIte,reduceCtorEq]
      ·have hLe:L.length = nv:=by omega
       rw [hLe,<- hnv,List.take_length] at hL2
       simp only [ydbm,ycgu,splice,go_sem,Nat.reduceEqDiff,Nat.reduceAdd,Nat.reduceLeDiff,Nat.reduceLT,↓reduceIte,reduceCtorEq]
       refine ⟨⟨by omega,by omega⟩,ikw (by omega) (by omega),?_⟩
       refine yh (C ++ [L]) ⟨by simp; omega,fun v hv=>?_⟩ (by simp; omega) ?_
       ·rw [yqf]
        split
        ·exact hC2 v (by assumption)
        ·have:v = C.length:=by simp at hv; omega
         subst this
         rw [if_pos rfl]
         exact hL2
       refine yg [(300,fun i=>(105,i))] [] [(301,0)] ?_
       simp only [yba,ybb,hn,List.length_append,allQ,live,yc,yu,go_sem,Nat.reduceEqDiff,Nat.reduceLeDiff,↓reduceIte,reduceCtorEq]
       refine ⟨by omega,fun i hi=>?_⟩
       have e:=yqf C L [] i
       rw [e]
       by_cases q:i < C.length
       ·simp only [if_pos q]
        simp only [go_sem,live,yc,go_sem,reduceCtorEq]
       ·obtain rfl:i = C.length:=by omega
        simp only [if_neg q,Nat.sub_self,Nat.zero_mul,if_true]
        simp only [go_sem,live,yc,go_sem,Nat.reduceEqDiff,↓reduceIte,reduceCtorEq]
    ·simp only [ycjs,go_sem,Nat.reduceEqDiff,Nat.reduceAdd,↓reduceIte,reduceCtorEq]
     refine ⟨C,(yfb _ _ _).2 ⟨by omega,fun v st hst=>?_⟩,Sim.refl _⟩
     have hv:=(List.getElem?_eq_some_iff.1 hst).1
     have:=hC2 v hv
     rwa [List.getD,hst] at this
end
end Sh
end Go.Proofs.YtpngeppkgoaimaaGreatDoor

namespace Go.Proofs.YtpngeppkgoaimaaGreatDoor
open Go
namespace Sh
open Ev Go.RowKit
set_option maxRecDepth 8000
def blV (l:List Bool):SV:=.sl 1 l.length (fun k=>[.b (l.getD k false)])
def ynh (l:List Bool) (k:Nat):Bool:=(l.take k).any id
theorem ybif {l:List Bool} {k:Nat} (hk:k < l.length):ynh l (k + 1) = (ynh l k || l.getD k false):=by
 unfold ynh
 rw [List.take_succ_eq_append_getElem hk,List.any_append,getD_at hk]
 simp
structure HeldOk (legit:List Bool) (ks:List Cnt) (rounds moves:Int) (ended:Bool):Prop where
 len:legit.length = ks.length
 pos:0 < legit.length
 stays:∀ i,i < legit.length -> ynh legit i = true -> legit.getD i false = true
 rounds:∀ i,i < legit.length -> ynh legit (i + 1) = false -> ((ks.getD i default).begun:Int) <= rounds
 moves:∀ i,i < legit.length -> ynh legit (i + 1) = false -> 0 <= moves -> ((ks.getD i default).moves:Int) <= moves
 ends:ynh legit legit.length = true \/ ended = false
def yfj (kind:Int) (fair silent:Bool) (rounds moves:Int):List SV:=[.i .i64 kind,.b fair,.b silent,.i .i64 rounds,.i .i64 moves]
theorem ybyh {legit:List Bool} {ks:List Cnt} {kind rounds moves:Int} {fair silent ended:Bool} (h:HeldOk legit ks rounds moves ended) (hl:legit.length <= 100000) :
  Returns Tryz.prog 41 [blV legit,ydn ks,.ag (yfj kind fair silent rounds moves),.b ended] (.b true):=by
 refine Returns.of (ydcs _ _ ?_)
 obtain ⟨n,hn⟩:∃ n,legit.length = n:=⟨_,rfl⟩
 have hkn:ks.length = n:=by rw [<- h.len]; exact hn
 have hpos:=h.pos
 rw [hn] at hpos hl
 have f1:((n:Int) != (n:Int)) = false:=by simp
 have f2:((n:Int) == 0) = false:=by simp; omega
 simp only [c41,ycyo,ycyj,ycxk,ydck,ycwc,blV,ydn,yfj,hn,hkn,f1,f2,go_sem,Nat.reduceEqDiff,Nat.reduceAdd,Nat.reduceLT,↓reduceIte,reduceCtorEq]
 refine ybe (σ:=Nat) (fun k=>⟨[(10,.i .i64 k),(9,.b (ynh legit k)),(6,.pt (6,0) 0 0),(0,blV legit),(1,ydn ks),(3,.b ended)],[(6,.one (some ⟨56,true,5,1,fun _=>yfj kind fair silent rounds moves⟩))]⟩) (fun k=>k <= n) (fun k=>n - k) 0 (Nat.zero_le _) ?_ ?_
 ·refine yg [] [] [] ?_
  simp only [blV,ydn,yfj,hn,hkn,allQ,live,yc,sim_b,Int.natCast_zero,go_sem,Nat.reduceEqDiff,↓reduceIte,reduceCtorEq]
  rfl
 ·intro k hk
  obtain ⟨a0,ha0⟩:∃ b,ynh legit k = b:=⟨_,rfl⟩
  obtain ⟨lk,hlk⟩:∃ b,legit.getD k false = b:=⟨_,rfl⟩
  rw [ha0]
  by_cases hlt:k < n
  ·have hs:=h.stays k (by omega)
   have hr:=h.rounds k (by omega)
   have hm:=h.moves k (by omega)
   have hsucc:=ybif (l:=legit) (k:=k) (by omega)
   rw [ha0,hlk] at hsucc hs
   have c1:decide ((k:Int) < (n:Int)) = true:=by simp; omega
   cases a0 <;> cases lk
   ·have g1:decide ((((ks.getD k default).begun:Nat):Int) > rounds) = false:=by simp; exact hr hsucc
    by_cases hmv:moves >= 0
    ·have g2:decide (moves >= 0) = true:=by simp; omega
     have g3:decide ((((ks.getD k default).moves:Nat):Int) > moves) = false:=by simp; exact hm hsucc hmv
     simp (maxSteps:=5000000) only [ybja,yus,ybnu,ybnx,ybao,yus,blV,ydn,cntV,yfj,hn,hkn,c1,hlk,clash,g1,g2,g3,go_sem,Nat.reduceEqDiff,Nat.reduceAdd,Nat.reduceLeDiff,↓reduceIte,reduceCtorEq]
     refine ⟨by omega,by omega,by omega,ikw (by omega) (by omega),?_⟩
     refine yh (k + 1) (by omega) (by omega) ?_
     refine yg [] [] [] ?_
     simp only [hsucc,Bool.or_self,allQ,live,yc,yu,go_sem,Nat.reduceEqDiff,↓reduceIte,reduceCtorEq]
     omega
    ·have g2:decide (moves >= 0) = false:=by simp; omega
     simp (maxSteps:=5000000) only [ybja,yus,ybnu,ybnx,ybao,yus,blV,ydn,cntV,yfj,hn,hkn,c1,hlk,clash,g1,g2,go_sem,Nat.reduceEqDiff,Nat.reduceAdd,Nat.reduceLeDiff,↓reduceIte,reduceCtorEq]
     refine ⟨by omega,by omega,ikw (by omega) (by omega),?_⟩
     refine yh (k + 1) (by omega) (by omega) ?_
     refine yg [] [] [] ?_
     simp only [hsucc,Bool.or_self,allQ,live,yc,yu,go_sem,Nat.reduceEqDiff,↓reduceIte,reduceCtorEq]
     omega
   ·simp (maxSteps:=5000000) only [ybja,yus,ybnu,ybnx,ybao,yus,blV,ydn,cntV,yfj,hn,hkn,c1,hlk,clash,go_sem,Nat.reduceEqDiff,Nat.reduceAdd,↓reduceIte,reduceCtorEq]
    refine ⟨by omega,ikw (by omega) (by omega),?_⟩
    refine yh (k + 1) (by omega) (by omega) ?_
    refine yg [] [] [] ?_
    simp only [hsucc,Bool.or_true,allQ,live,yc,yu,go_sem,Nat.reduceEqDiff,↓reduceIte,reduceCtorEq]
    omega
   ·exact absurd (hs rfl) (by simp)
   ·simp (maxSteps:=5000000) only [ybja,yus,ybnu,ybnx,ybao,yus,blV,ydn,cntV,yfj,hn,hkn,c1,hlk,clash,go_sem,Nat.reduceEqDiff,Nat.reduceAdd,↓reduceIte,reduceCtorEq]
    refine ⟨by omega,ikw (by omega) (by omega),?_⟩
    refine yh (k + 1) (by omega) (by omega) ?_
    refine yg [] [] [] ?_
    simp only [hsucc,Bool.or_self,allQ,live,yc,yu,go_sem,Nat.reduceEqDiff,↓reduceIte,reduceCtorEq]
    omega
  ·obtain rfl:k = n:=by omega
   have c1:decide ((k:Int) < (k:Int)) = false:=by simp
   have he:=h.ends
   rw [hn,ha0] at he
   simp (maxSteps:=5000000) only [ybja,ycif,blV,ydn,yfj,hn,hkn,c1,go_sem,Nat.reduceEqDiff,Nat.reduceAdd,↓reduceIte,reduceCtorEq]
   cases a0
   ·rcases he with he | he
    ·cases he
    ·subst he
     simp only [sim_b,go_sem]
   ·simp only [sim_b,go_sem]
theorem yuu {Q1 Q2:(Nat -> Option ABlk) -> Value -> Prop} {p:ProgT} {g:Gr} {t:ByteArray} (hpr:Returns Tryz.prog 25 [.a (.string t)] (.ag (ydh Q1 Q2 p.raw))) (h:Checked Q1 Q2 p g) {kind:Int} (hk:1 <= kind /\ kind <= 4) {res:Nat -> Nat -> Nat} (hd:DaemonOk kind (g.ports.map netP) res) {c:Conf} (hc:ycs p g c = true) {ws:List Nat} (hw:∀ k,ws.getD k 0 < 2 ^ 32) (hwl:ws.length <= 4000) :
  Returns Tryz.prog 16 [.a (.string t),grV g,.i .i64 kind,ybg c,usV ws] (.tp [ydi (((ybh p g).runs res ws c).map (·.1)),ydn (((ybh p g).runs res ws c).map (·.2)),.b true]):=by
 refine Returns.of (ydea _ _ ?_)
 have hX:=ybuv h hk hd hc hw hwl
 obtain ⟨R,hR⟩:∃ R,(ybh p g).runs res ws c = R:=⟨_,rfl⟩
 rw [hR] at hX ⊢
 have hRl:0 < R.length:=by rw [<- hR]; simp [Sys.runs]
 obtain ⟨m,hm⟩:∃ m,R.length = m:=⟨_,rfl⟩
 rw [hm] at hRl
 have f1:((m:Int) == (m:Int)) = true:=by simp
 have f2:decide ((m:Int) > 0) = true:=by simp; omega
 simp only [ydh] at hpr hX
 simp only [grV,usV,ydi,ydn,List.length_map,hm] at hX
 simp only [c16,ycui,ydbz,grV,usV,clash,go_sem,Nat.reduceAdd,Nat.reduceLT,↓reduceIte,reduceCtorEq]
 refine hpr.use ?_
 simp only [thenO,clash,go_sem,Nat.reduceEqDiff,Nat.reduceAdd,↓reduceIte,reduceCtorEq]
 refine hX.use ?_
 simp (maxSteps:=5000000) only [yddk,clash,f1,f2,go_sem,Nat.reduceEqDiff,Nat.reduceAdd,↓reduceIte,reduceCtorEq]
 refine ⟨by decide,?_⟩
 unfold ydi ydn
 rw [List.length_map,List.length_map,hm]
 exact Sim.refl _
end Sh
end Go.Proofs.YtpngeppkgoaimaaGreatDoor

namespace Go.Proofs.YtpngeppkgoaimaaGreatDoor
namespace Sh
open Go Ev
def ydct:LO:=[o3 (.mv (.const (.string (ByteArray.mk #[])))) 0 0]
def ycyp:LO:=[o3 (.mv (.const (.string (ByteArray.mk #[112,114,111,103,114,97,109,32,98,102,115,59,10,118,97,114,32,100,32,58,32,48,32,46,46,32,110,59,10,118,97,114,32,112,32,58,32,112,111,114,116,59,10,114,117,108,101,32,116,111,112,58,32,114,111,111,116,32,38,38,32,40,100,32,33,61,32,48,32,124,124,32,112,32,33,61,32,110,111,110,101,41,32,45,62,32,100,32,58,61,32,48,44,32,112,32,58,61,32,110,111,110,101,59,10,114,117,108,101,32,108,111,119,58,32,33,114,111,111,116,32,38,38,32,40,100,32,33,61,32,40,109,105,110,40,113,46,100,41,32,60,32,110,32,63,32,109,105,110,40,113,46,100,41,32,43,32,49,32,58,32,110,41,32,124,124,32,112,32,33,61,32,102,105,114,115,116,40,113,46,100,32,61,61,32,109,105,110,40,113,46,100,41,41,41,10,32,32,45,62,32,100,32,58,61,32,40,109,105,110,40,113,46,100,41,32,60,32,110,32,63,32,109,105,110,40,113,46,100,41,32,43,32,49,32,58,32,110,41,44,32,112,32,58,61,32,102,105,114,115,116,40,113,46,100,32,61,61,32,109,105,110,40,113,46,100,41,41,59,10])))) 0 0]
def c32:SC:=(.seq (.reg false ydct) (.seq (.reg false ycyp) .ret))
theorem ydbc:Fn 32 c32 [.t 0]:=fn_0 Tryz.func32 (by kernel_rfl) (by kernel_rfl)
def ycxw:LO:=[o3 (.box 28 (.tmp 0)) 3 0,o3 (.mv (.const (.slice none 0 0))) 6 0]
def ydcb:LO:=[mv' 1 10 0,ln' 10 11 1,o3 (.mk 3 1 8 [.i .i64 0] (.tmp 11) (.tmp 11)) 12 3,mv' 12 7 7]
def yczt:LO:=[mv' 1 13 0,ln' 13 14 1,o3 (.mv (ci' 0)) 15 0]
def ybxf:LO:=[bn' .lss 15 14 16 0]
def ycoh:LO:=[mv' 15 17 0,ix' 1 13 15 18 0,ld' false 1 18 19 2,mv' 17 8 7,mv' 19 9 15]
def ycpa:LO:=[mv' 7 20 0,mv' 8 21 0,ix' 1 20 21 22 3,o0 (.store 1 (.tmp 22) (.const (.int .i64 (-1)))) 7]
def ycra:LO:=[mv' 9 23 0,mv' 2 24 0,ix' 1 23 24 25 3,ld' false 1 25 26 7,o3 (.bin .geq (.tmp 26) (ci' 0)) 27 15]
def ydaz:LO:=[mv' 7 28 0,mv' 8 29 0,fa' 1 1 3 30 0,ld' false 1 30 31 4,mv' 8 32 0,ix' 1 31 32 33 28,ld' false 1 33 34 60,mv' 9 35 0,mv' 2 36 0,ix' 1 35 36 37 384,ld' false 1 37 38 896,ix' 2 34 38 39 2044,fa' 0 1 39 40 4092,ld' false 1 40 41 8188,ix' 1 28 29 42 16383,o0 (.store 1 (.tmp 42) (.tmp 41)) 32767]
def yctm:LO:=[o3 (.bin .add (.tmp 15) (ci' 1)) 43 0,mv' 43 15 1]
def ydak:LO:=[mv' 7 44 0,mv' 44 6 1]
def c70:SC:=(.seq (.reg false ycxw) (.seq (.reg false ydcb) (.seq (.seq (.reg false yczt) (.block 0 (.loop (.seq (.reg false ybxf) (.seq (.cond (.tmp 16) .skip (.exit 0)) (.seq (.block 1 (.seq (.reg false ycoh) (.seq (.reg false ycpa) (.seq (.reg false ycra) (.cond (.tmp 27) (.reg true ydaz) .skip))))) (.reg false yctm))))))) (.seq (.reg false ydak) .ret))))
theorem ydds:Fn 70 c70 [.t 6]:=fn_0 Tryz.func70 (by kernel_rfl) (by kernel_rfl)
def yddi:LO:=[o3 (.box 28 (.tmp 0)) 2 0,o3 (.mv (.const (.slice none 0 0))) 4 0]
def yczd:LO:=[ld' true 2 2 5 0,mv' 1 6 0,cl' 69 [5,6] 7 3,o3 (.un .not (.tmp 7)) 8 7]
def ydfz:LO:=[o3 (.mv (.const (.slice none 0 0))) 4 0]
def ycxh:LO:=[ld' true 2 2 9 0,mv' 1 10 0,o3 (.call (.func 70) [(.tmp 9),(.tmp 10),(ci' 1)]) 11 3,mv' 11 4 7]
def c35:SC:=(.seq (.reg false yddi) (.seq (.seq (.reg false yczd) (.cond (.tmp 8) (.seq (.reg false ydfz) .ret) .skip)) (.seq (.reg false ycxh) .ret)))
theorem ydbg:Fn 35 c35 [.t 4]:=fn_0 Tryz.func35 (by kernel_rfl) (by kernel_rfl)
def ycvi:LO:=[o3 (.mv (.const (.slice none 0 0))) 0 0]
def ydbl:LO:=[o3 (.call (.func 51) [(.const (.string (ByteArray.mk #[100]))),(ci' 0),(ci' 1),(ci' 0)]) 1 0,o3 (.call (.func 52) [(.const (.string (ByteArray.mk #[112])))]) 2 1,o3 (.bslice 73 6 2 [.a (.string (ByteArray.mk #[])),.i .i64 0,.i .i64 0,.i .i64 0,.i .i64 0,.i .i64 0,.a (.string (ByteArray.mk #[])),.i .i64 0,.i .i64 0,.i .i64 0,.i .i64 0,.i .i64 0] [(0,6,(.tmp 1)),(6,6,(.tmp 2))]) 3 3,mv' 3 0 7]
def c33:SC:=(.seq (.reg false ycvi) (.seq (.reg false ydbl) .ret))
theorem ycwo:Fn 33 c33 [.t 0]:=fn_0 Tryz.func33 (by kernel_rfl) (by kernel_rfl)
def ycxq:LO:=[o3 (.box 28 (.tmp 0)) 1 0,o3 (.mv (.const (.bool false))) 2 0]
def ydbe:LO:=[ld' true 2 1 3 0,cl' 113 [3] 4 1,mv' 4 2 3]
def c83:SC:=(.seq (.reg false ycxq) (.seq (.reg false ydbe) .ret))
theorem ydba:Fn 83 c83 [.t 2]:=fn_0 Tryz.func83 (by kernel_rfl) (by kernel_rfl)
def ycxm:LO:=[o3 (.box 28 (.tmp 0)) 1 0,o3 (.alloc 56 1 [.i .i64 0,.b false,.b false,.i .i64 0,.i .i64 0]) 2 0]
def yczl:LO:=[ld' true 2 1 3 0,cl' 83 [3] 4 1,o3 (.un .not (.tmp 4)) 5 3]
def ydfv:LO:=[o3 (.build [.i .i64 0,.b false,.b false,.i .i64 0,.i .i64 0] []) 6 0,o0 (.store 5 (.tmp 2) (.tmp 6)) 1]
def yddg:LO:=[ld' true 2 1 7 0,o3 (.call (.func 77) [(.tmp 7),(ci' 0)]) 8 1,o3 (.bin .add (.tmp 8) (ci' 1)) 9 3,o3 (.build [.i .i64 0,.b false,.b false,.i .i64 0,.i .i64 0] [(0,1,(ci' 3)),(2,1,(.const (.bool true))),(3,1,(.tmp 9)),(4,1,(.const (.int .i64 (-1))))]) 10 7,o0 (.store 5 (.tmp 2) (.tmp 10)) 15]
def c43:SC:=(.seq (.reg false ycxm) (.seq (.seq (.reg false yczl) (.cond (.tmp 5) (.seq (.reg false ydfv) .ret) .skip)) (.seq (.reg false yddg) .ret)))
theorem yczp:Fn 43 c43 [.c 2 true 5]:=fn_0 Tryz.func43 (by kernel_rfl) (by kernel_rfl)
def ycvp:LO:=[o3 (.box 28 (.tmp 0)) 2 0,o3 (.mv (.const (.slice none 0 0))) 4 0]
def ycwq:LO:=[ld' true 2 2 11 0,cl' 53 [11] 12 1,o3 (.un .not (.tmp 12)) 13 3,mv' 13 14 7,⟨.mv (.tmp 1),some 15,some (14,false),15⟩,⟨.faddr 1 1 (.tmp 2),some 16,some (14,false),15⟩,⟨.load false 1 (.tmp 16),some 17,some (14,false),47⟩,⟨.len (.tmp 17),some 18,some (14,false),111⟩,⟨.bin .sub (.tmp 18) (ci' 1),some 19,some (14,false),239⟩,⟨.call (.func 54) [(.tmp 15),(ci' 0),(.tmp 19)],some 20,some (14,false),511⟩,⟨.un .not (.tmp 20),some 21,some (14,false),1023⟩,o3 (.pick (.tmp 14) (.const (.bool true)) (.tmp 21)) 22 2047]
def ydef:LO:=[o3 (.mv (.const (.slice none 0 0))) 4 0]
def ycwj:LO:=[fa' 1 1 2 23 0,ld' false 1 23 24 1,ln' 24 25 3,mv' 25 5 7]
def ycvh:LO:=[o3 (.mv (.const (.slice none 0 0))) 6 0]
def ydbk:LO:=[o3 (.mv (ci' 0)) 7 0]
def ycpy:LO:=[mv' 7 26 0,mv' 5 27 0,bn' .lss 26 27 28 3]
def ycvz:LO:=[mv' 6 31 0,o3 (.bslice 3 1 1 [.i .i64 0] [(0,1,(.const (.int .i64 (-1))))]) 32 0,o3 (.app 3 1 8 (.tmp 31) (.tmp 32)) 33 3,mv' 33 6 7]
def ycyv:LO:=[mv' 7 29 0,o3 (.bin .add (.tmp 29) (ci' 1)) 30 1,mv' 30 7 3]
def ycyc:LO:=[mv' 6 34 0,mv' 1 35 0,ix' 1 34 35 36 3,o0 (.store 1 (.tmp 36) (ci' 0)) 7]
def ycbs:LO:=[o3 (.mv (ci' 1)) 8 0]
def ybqv:LO:=[mv' 8 37 0,mv' 5 38 0,bn' .lss 37 38 39 3]
def ycdq:LO:=[o3 (.mv (ci' 0)) 9 0]
def ybrh:LO:=[mv' 9 42 0,mv' 5 43 0,bn' .lss 42 43 44 3]
def ychy:LO:=[o3 (.mv (ci' 0)) 10 0]
def ybgt:LO:=[mv' 10 47 0,fa' 1 1 2 48 0,ld' false 1 48 49 2,mv' 9 50 0,ix' 1 49 50 51 14,ld' false 1 51 52 30,ln' 52 53 62,bn' .lss 47 53 54 127,mv' 54 55 255,⟨.mv (.tmp 6),some 56,some (55,true),511⟩,⟨.mv (.tmp 9),some 57,some (55,true),511⟩,⟨.idx 1 (.tmp 56) (.tmp 57),some 58,some (55,true),2047⟩,⟨.load false 1 (.tmp 58),some 59,some (55,true),4095⟩,⟨.bin .lss (.tmp 59) (ci' 0),some 60,some (55,true),8191⟩,o3 (.pick (.tmp 55) (.tmp 60) (.const (.bool false))) 61 16383]
def yckp:LO:=[mv' 6 64 0,fa' 1 1 2 65 0,ld' false 1 65 66 2,mv' 9 67 0,ix' 1 66 67 68 14,ld' false 1 68 69 30,mv' 10 70 0,ix' 2 69 70 71 126,fa' 0 1 71 72 254,ld' false 1 72 73 510,ix' 1 64 73 74 1023,ld' false 1 74 75 2047,mv' 8 76 0,o3 (.bin .sub (.tmp 76) (ci' 1)) 77 4096,bn' .eql 75 77 78 16383]
def ycfc:LO:=[mv' 6 79 0,mv' 9 80 0,mv' 8 81 0,ix' 1 79 80 82 7,o0 (.store 1 (.tmp 82) (.tmp 81)) 15]
def ybro:LO:=[mv' 10 62 0,o3 (.bin .add (.tmp 62) (ci' 1)) 63 1,mv' 63 10 3]
def ybry:LO:=[mv' 9 45 0,o3 (.bin .add (.tmp 45) (ci' 1)) 46 1,mv' 46 9 3]
def ycjp:LO:=[mv' 8 40 0,o3 (.bin .add (.tmp 40) (ci' 1)) 41 1,mv' 41 8 3]
def ycca:LO:=[mv' 6 83 0,mv' 83 4 1]
def c23:SC:=(.seq (.reg false ycvp) (.seq (.seq (.reg false ycwq) (.cond (.tmp 22) (.seq (.reg false ydef) .ret) .skip)) (.seq (.reg false ycwj) (.seq (.reg false ycvh) (.seq (.seq (.reg false ydbk) (.block 0 (.loop (.seq (.seq (.reg false ycpy) (.cond (.tmp 28) .skip (.exit 0))) (.seq (.block 1 (.reg false ycvz)) (.reg false ycyv)))))) (.seq (.reg false ycyc) (.seq (.seq (.reg false ycbs) (.block 2 (.loop (.seq (.seq (.reg false ybqv) (.cond (.tmp 39) .skip (.exit 2))) (.seq (.block 3 (.seq (.reg false ycdq) (.block 4 (.loop (.seq (.seq (.reg false ybrh) (.cond (.tmp 44) .skip (.exit 4))) (.seq (.block 5 (.seq (.reg false ychy) (.block 6 (.loop (.seq (.seq (.reg false ybgt) (.cond (.tmp 61) .skip (.exit 6))) (.seq (.block 7 (.seq (.reg false yckp) (.cond (.tmp 78) (.reg false ycfc) .skip))) (.reg false ybro))))))) (.reg false ybry))))))) (.reg false ycjp)))))) (.seq (.reg false ycca) .ret))))))))
theorem yczo:Fn 23 c23 [.t 4]:=fn_0 Tryz.func23 (by kernel_rfl) (by kernel_rfl)
def ydah:LO:=[o3 (.box 24 (.tmp 0)) 3 0,o3 (.mv (.const (.bool false))) 6 0]
def yddv:LO:=[ld' true 6 3 15 0,o3 (.call (.func 15) [(.tmp 15),(ci' 8)]) 16 1,o3 (.alloc 28 1 [.a (.slice none 0 0),.a (.slice none 0 0)]) 7 0,o0 (.store 2 (.tmp 7) (.tmp 16)) 7]
def ycuj:LO:=[ld' true 2 7 17 0,cl' 33 [] 18 0,mv' 1 19 0,cl' 18 [17,18,19] 20 7,mv' 20 8 15]
def ycwh:LO:=[cl' 32 [] 22 0,ld' true 2 7 23 0,ld' true 2 7 24 0,cl' 42 [24] 25 5,o3 (.field false 0 1 (.tmp 25)) 26 13,mv' 8 27 0,mv' 2 28 0,o3 (.call (.func 20) [(.tmp 28),(ci' 120)]) 29 77,cl' 16 [22,23,26,27,29] 30 255,mv' 30 21 511,xt' 21 0 31 1023,xt' 21 1 32 1023,xt' 21 2 33 1023,mv' 31 9 2047,mv' 32 10 12287,mv' 33 11 32767]
def yddf:LO:=[mv' 11 34 0,o3 (.un .not (.tmp 34)) 35 1,mv' 35 36 3,⟨.load true 2 (.tmp 7),some 37,some (36,false),7⟩,⟨.call (.func 42) [(.tmp 37)],some 38,some (36,false),15⟩,⟨.load true 2 (.tmp 7),some 39,some (36,false),7⟩,⟨.call (.func 43) [(.tmp 39)],some 40,some (36,false),63⟩,⟨.seq true [false,true,true,false,false] (.tmp 38) (.tmp 40),some 41,some (36,false),127⟩,o3 (.pick (.tmp 36) (.const (.bool true)) (.tmp 41)) 42 255]
def ydfg:LO:=[o3 (.mv (.const (.bool false))) 6 0]
def ycys:LO:=[o3 (.mv (.const (.slice none 0 0))) 12 0]
def ycup:LO:=[o3 (.mv (ci' 0)) 13 0]
def ycnr:LO:=[mv' 13 43 0,mv' 9 44 0,ln' 44 45 2,bn' .lss 43 45 46 7]
def ycda:LO:=[mv' 12 49 0,ld' true 2 7 50 0,mv' 9 51 0,mv' 13 52 0,ix' 1 51 52 53 12,ld' false 1 53 54 28,cl' 36 [50,54] 55 62,o3 (.bslice 4 1 1 [.b false] [(0,1,(.tmp 55))]) 56 126,o3 (.app 4 1 1 (.tmp 49) (.tmp 56)) 57 255,mv' 57 12 511]
def ydbv:LO:=[mv' 13 47 0,o3 (.bin .add (.tmp 47) (ci' 1)) 48 1,mv' 48 13 3]
def ycmz:LO:=[cl' 32 [] 58 0,cl' 25 [58] 59 1,ld' true 2 7 60 0,mv' 9 61 0,mv' 9 62 0,ln' 62 63 16,o3 (.bin .sub (.tmp 63) (ci' 1)) 64 48,ix' 1 61 64 65 120,ld' false 1 65 66 248,cl' 27 [59,60,66] 67 511,o3 (.bin .eql (.tmp 67) (.const (.int .u32 0))) 68 1023,mv' 68 14 2047]
def yccx:LO:=[cl' 34 [] 69 0,mv' 69 70 1,⟨.mv (.tmp 12),some 71,some (70,true),3⟩,⟨.mv (.tmp 10),some 72,some (70,true),3⟩,⟨.load true 2 (.tmp 7),some 73,some (70,true),3⟩,⟨.call (.func 42) [(.tmp 73)],some 74,some (70,true),19⟩,⟨.mv (.tmp 14),some 75,some (70,true),3⟩,⟨.call (.func 41) [(.tmp 71),(.tmp 72),(.tmp 74),(.tmp 75)],some 76,some (70,true),127⟩,o3 (.pick (.tmp 70) (.tmp 76) (.const (.bool false))) 77 255,mv' 77 6 511]
def c12:SC:=(.seq (.reg false ydah) (.seq (.reg false yddv) (.seq (.reg true ycuj) (.seq (.reg true ycwh) (.seq (.seq (.reg true yddf) (.cond (.tmp 42) (.seq (.reg false ydfg) .ret) .skip)) (.seq (.reg false ycys) (.seq (.seq (.reg false ycup) (.block 0 (.loop (.seq (.seq (.reg false ycnr) (.cond (.tmp 46) .skip (.exit 0))) (.seq (.block 1 (.reg true ycda)) (.reg false ydbv)))))) (.seq (.reg true ycmz) (.seq (.reg false yccx) .ret)))))))))
theorem ycux:Fn 12 c12 [.t 6]:=fn_0 Tryz.func12 (by kernel_rfl) (by kernel_rfl)
def ycxu:LO:=[o3 (.box 24 (.tmp 0)) 3 0,o3 (.mv (.const (.bool false))) 6 0]
def ycxt:LO:=[ld' true 6 3 13 0,o3 (.call (.func 15) [(.tmp 13),(ci' 8)]) 14 1,o3 (.alloc 28 1 [.a (.slice none 0 0),.a (.slice none 0 0)]) 7 0,o0 (.store 2 (.tmp 7) (.tmp 14)) 7]
def ycyn:LO:=[cl' 32 [] 15 0,cl' 25 [15] 16 1,o3 (.alloc 53 1 [.a (.string (ByteArray.mk #[])),.a (.slice none 0 0),.a (.slice none 0 0)]) 8 0,o0 (.store 3 (.tmp 8) (.tmp 16)) 7]
def ydcz:LO:=[cl' 32 [] 18 0,ld' true 2 7 19 0,ld' true 2 7 20 0,cl' 42 [20] 21 5,o3 (.field false 0 1 (.tmp 21)) 22 13,ld' true 2 7 23 0,cl' 33 [] 24 13,mv' 1 25 0,cl' 18 [23,24,25] 26 237,mv' 2 27 0,o3 (.call (.func 20) [(.tmp 27),(ci' 60)]) 28 1005,cl' 16 [18,19,22,26,28] 29 2047,mv' 29 17 4095,xt' 17 0 30 8191,xt' 17 1 31 8191,xt' 17 2 32 8191,mv' 30 9 16383,mv' 31 10 98303,mv' 32 11 262143]
def ycwy:LO:=[o3 (.mv (ci' 0)) 12 0]
def ycnv:LO:=[mv' 12 33 0,mv' 9 34 0,ln' 34 35 2,bn' .lss 33 35 36 7]
def ydav:LO:=[ld' true 3 8 39 0,ld' true 2 7 40 0,mv' 9 41 0,mv' 12 42 0,ix' 1 41 42 43 12,ld' false 1 43 44 28,cl' 27 [39,40,44] 45 63,o3 (.bin .eql (.tmp 45) (.const (.int .u32 0))) 46 127,ld' true 2 7 47 0,mv' 9 48 0,mv' 12 49 0,ix' 1 48 49 50 1536,ld' false 1 50 51 3584,cl' 36 [47,51] 52 8063,o3 (.beq true (.tmp 46) (.tmp 52)) 53 16383]
def ydfh:LO:=[o3 (.mv (.const (.bool false))) 6 0]
def yddt:LO:=[mv' 12 37 0,o3 (.bin .add (.tmp 37) (ci' 1)) 38 1,mv' 38 12 3]
def ycuo:LO:=[cl' 34 [] 54 0,mv' 54 55 1,⟨.mv (.tmp 11),some 56,some (55,true),3⟩,o3 (.pick (.tmp 55) (.tmp 56) (.const (.bool false))) 57 7,mv' 57 6 15]
def c13:SC:=(.seq (.reg false ycxu) (.seq (.reg false ycxt) (.seq (.reg false ycyn) (.seq (.reg true ydcz) (.seq (.seq (.reg false ycwy) (.block 0 (.loop (.seq (.seq (.reg false ycnv) (.cond (.tmp 36) .skip (.exit 0))) (.seq (.block 1 (.seq (.reg true ydav) (.cond (.tmp 53) (.seq (.reg false ydfh) .ret) .skip))) (.reg false yddt)))))) (.seq (.reg false ycuo) .ret))))))
theorem ycuu:Fn 13 c13 [.t 6]:=fn_0 Tryz.func13 (by kernel_rfl) (by kernel_rfl)
def c7_0:LO:=[o3 (.box 24 (.tmp 0)) 3 0,o3 (.mv (.const (.bool false))) 6 0]
def c7_1:LO:=[ld' true 6 3 16 0,o3 (.call (.func 15) [(.tmp 16),(ci' 8)]) 17 1,o3 (.alloc 28 1 [.a (.slice none 0 0),.a (.slice none 0 0)]) 7 0,o0 (.store 2 (.tmp 7) (.tmp 17)) 7]
def c7_2:LO:=[cl' 32 [] 19 0,ld' true 2 7 20 0,ld' true 2 7 21 0,cl' 33 [] 22 1,mv' 1 23 0,cl' 18 [21,22,23] 24 29,mv' 2 25 0,o3 (.call (.func 20) [(.tmp 25),(ci' 120)]) 26 125,o3 (.call (.func 16) [(.tmp 19),(.tmp 20),(ci' 3),(.tmp 24),(.tmp 26)]) 27 255,mv' 27 18 511,xt' 18 0 28 1023,xt' 18 1 29 1023,xt' 18 2 30 1023,mv' 28 8 2047,mv' 29 9 12287,mv' 30 10 32767]
def c7_3:LO:=[ld' true 2 7 31 0,o3 (.call (.func 23) [(.tmp 31),(ci' 0)]) 32 1,mv' 32 11 3]
def c7_4:LO:=[mv' 10 33 0,o3 (.un .not (.tmp 33)) 34 1]
def c7_5:LO:=[o3 (.mv (.const (.bool false))) 6 0]
def c7_6:LO:=[o3 (.mv (ci' 0)) 12 0]
def c7_7:LO:=[mv' 12 35 0,mv' 8 36 0,ln' 36 37 2,bn' .lss 35 37 38 7]
def c7_9:LO:=[o3 (.mv (ci' 0)) 13 0]
def ybkx:LO:=[mv' 13 41 0,mv' 11 42 0,ln' 42 43 2,bn' .lss 41 43 44 7,mv' 44 45 15,⟨.mv (.tmp 9),some 46,some (45,true),31⟩,⟨.mv (.tmp 12),some 47,some (45,true),31⟩,⟨.idx 5 (.tmp 46) (.tmp 47),some 48,some (45,true),127⟩,⟨.faddr 2 1 (.tmp 48),some 49,some (45,true),255⟩,⟨.load false 1 (.tmp 49),some 50,some (45,true),511⟩,⟨.bin .gtr (.tmp 50) (ci' 0),some 51,some (45,true),1023⟩,o3 (.pick (.tmp 45) (.tmp 51) (.const (.bool false))) 52 2047]
def ycqx:LO:=[mv' 8 55 0,mv' 12 56 0,ix' 1 55 56 57 3,ld' false 1 57 58 7,ln' 58 59 15,mv' 11 60 0,ln' 60 61 32,bn' .neq 59 61 62 127,mv' 62 63 255,⟨.mv (.tmp 8),some 64,some (63,false),511⟩,⟨.mv (.tmp 12),some 65,some (63,false),511⟩,⟨.idx 1 (.tmp 64) (.tmp 65),some 66,some (63,false),2047⟩,⟨.load false 1 (.tmp 66),some 67,some (63,false),4095⟩,⟨.mv (.tmp 13),some 68,some (63,false),511⟩,⟨.idx 1 (.tmp 67) (.tmp 68),some 69,some (63,false),16383⟩,⟨.load false 1 (.tmp 69),some 70,some (63,false),32767⟩,⟨.len (.tmp 70),some 71,some (63,false),65535⟩,⟨.bin .neq (.tmp 71) (ci' 2),some 72,some (63,false),131071⟩,o3 (.pick (.tmp 63) (.const (.bool true)) (.tmp 72)) 73 262143]
def ydes:LO:=[o3 (.mv (.const (.bool false))) 6 0]
def yctu:LO:=[mv' 8 74 0,mv' 12 75 0,ix' 1 74 75 76 3,ld' false 1 76 77 7,mv' 13 78 0,ix' 1 77 78 79 31,ld' false 1 79 80 63,o3 (.idx 1 (.tmp 80) (ci' 0)) 81 127,ld' false 1 81 82 255,mv' 9 83 0,mv' 12 84 0,ix' 5 83 84 85 1536,fa' 2 1 85 86 3584,ld' false 1 86 87 7680,mv' 82 14 511,mv' 87 15 32767]
def ycpn:LO:=[mv' 11 88 0,mv' 13 89 0,ix' 1 88 89 90 3,ld' false 1 90 91 7,mv' 15 92 0,bn' .lss 91 92 93 31,mv' 93 94 63,⟨.mv (.tmp 14),some 95,some (94,true),127⟩,⟨.mv (.tmp 11),some 96,some (94,true),127⟩,⟨.mv (.tmp 13),some 97,some (94,true),127⟩,⟨.idx 1 (.tmp 96) (.tmp 97),some 98,some (94,true),895⟩,⟨.load false 1 (.tmp 98),some 99,some (94,true),1919⟩,⟨.bin .neq (.tmp 95) (.tmp 99),some 100,some (94,true),4095⟩,o3 (.pick (.tmp 94) (.tmp 100) (.const (.bool false))) 101 8191,mv' 101 102 16383,⟨.mv (.tmp 11),some 103,some (102,false),32767⟩,⟨.mv (.tmp 13),some 104,some (102,false),32767⟩,⟨.idx 1 (.tmp 103) (.tmp 104),some 105,some (102,false),131071⟩,⟨.load false 1 (.tmp 105),some 106,some (102,false),262143⟩,⟨.mv (.tmp 15),some 107,some (102,false),32767⟩,⟨.bin .geq (.tmp 106) (.tmp 107),some 108,some (102,false),1048575⟩,⟨.mv (.tmp 108),some 109,some (102,false),2097151⟩,⟨.mv (.tmp 14),some 110,some (109,true),4194303⟩,⟨.mv (.tmp 15),some 111,some (109,true),4194303⟩,⟨.bin .lss (.tmp 110) (.tmp 111),some 112,some (109,true),16777215⟩,⟨.pick (.tmp 109) (.tmp 112) (.const (.bool false)),some 113,some (102,false),33554431⟩,o3 (.pick (.tmp 102) (.const (.bool true)) (.tmp 113)) 114 67108863]
def ydev:LO:=[o3 (.mv (.const (.bool false))) 6 0]
def ycpc:LO:=[mv' 13 53 0,o3 (.bin .add (.tmp 53) (ci' 1)) 54 1,mv' 54 13 3]
def c7_8:LO:=[mv' 12 39 0,o3 (.bin .add (.tmp 39) (ci' 1)) 40 1,mv' 40 12 3]
def ydeb:LO:=[cl' 34 [] 115 0,mv' 115 6 1]
def c7:SC:=(.seq (.reg false c7_0) (.seq (.reg false c7_1) (.seq (.reg true c7_2) (.seq (.reg false c7_3) (.seq (.seq (.reg false c7_4) (.cond (.tmp 34) (.seq (.reg false c7_5) .ret) .skip)) (.seq (.seq (.reg false c7_6) (.block 0 (.loop (.seq (.seq (.reg false c7_7) (.cond (.tmp 38) .skip (.exit 0))) (.seq (.block 1 (.seq (.reg false c7_9) (.block 2 (.loop (.seq (.seq (.reg false ybkx) (.cond (.tmp 52) .skip (.exit 2))) (.seq (.block 3 (.seq (.seq (.reg false ycqx) (.cond (.tmp 73) (.seq (.reg false ydes) .ret) .skip)) (.seq (.reg true yctu) (.seq (.reg false ycpn) (.cond (.tmp 114) (.seq (.reg false ydev) .ret) .skip))))) (.reg false ycpc))))))) (.reg false c7_8)))))) (.seq (.reg false ydeb) .ret)))))))
theorem ydfu:Fn 7 c7 [.t 6]:=fn_0 Tryz.func7 (by kernel_rfl) (by kernel_rfl)
def c8_0:LO:=[o3 (.box 24 (.tmp 0)) 3 0,o3 (.mv (.const (.bool false))) 6 0]
def c8_1:LO:=[ld' true 6 3 16 0,o3 (.call (.func 15) [(.tmp 16),(ci' 8)]) 17 1,o3 (.alloc 28 1 [.a (.slice none 0 0),.a (.slice none 0 0)]) 7 0,o0 (.store 2 (.tmp 7) (.tmp 17)) 7]
def c8_2:LO:=[cl' 32 [] 19 0,ld' true 2 7 20 0,ld' true 2 7 21 0,cl' 33 [] 22 1,mv' 1 23 0,cl' 18 [21,22,23] 24 29,mv' 2 25 0,o3 (.call (.func 20) [(.tmp 25),(ci' 20)]) 26 125,o3 (.call (.func 16) [(.tmp 19),(.tmp 20),(ci' 4),(.tmp 24),(.tmp 26)]) 27 255,mv' 27 18 511,xt' 18 0 28 1023,xt' 18 1 29 1023,xt' 18 2 30 1023,mv' 28 8 2047,mv' 29 9 12287,mv' 30 10 32767]
def c8_3:LO:=[mv' 10 31 0,o3 (.un .not (.tmp 31)) 32 1]
def c8_4:LO:=[o3 (.mv (.const (.bool false))) 6 0]
def c8_5:LO:=[mv' 8 33 0,mv' 8 34 0,ln' 34 35 2,o3 (.bin .sub (.tmp 35) (ci' 1)) 36 6,ix' 1 33 36 37 15,ld' false 1 37 38 31,mv' 38 11 63]
def c8_6:LO:=[ld' true 2 7 39 0,mv' 11 40 0,cl' 35 [39,40] 41 3,mv' 41 12 7]
def c8_7:LO:=[ld' true 2 7 42 0,mv' 11 43 0,cl' 36 [42,43] 44 3,o3 (.un .not (.tmp 44)) 45 7,mv' 45 46 15,⟨.mv (.tmp 12),some 47,some (46,false),31⟩,⟨.len (.tmp 47),some 48,some (46,false),63⟩,⟨.faddr 1 1 (.tmp 7),some 49,some (46,false),31⟩,⟨.load false 1 (.tmp 49),some 50,some (46,false),159⟩,⟨.len (.tmp 50),some 51,some (46,false),415⟩,⟨.bin .neq (.tmp 48) (.tmp 51),some 52,some (46,false),1023⟩,o3 (.pick (.tmp 46) (.const (.bool true)) (.tmp 52)) 53 2047]
def c8_8:LO:=[o3 (.mv (.const (.bool false))) 6 0]
def c8_9:LO:=[o3 (.mv (ci' 0)) 13 0]
def ycnq:LO:=[mv' 13 54 0,mv' 12 55 0,ln' 55 56 2,bn' .lss 54 56 57 7]
def ycxr:LO:=[mv' 13 60 0,mv' 60 14 1,o3 (.mv (ci' 0)) 15 3]
def ycsq:LO:=[mv' 15 61 0,mv' 12 62 0,ln' 62 63 2,bn' .leq 61 63 64 7,mv' 64 65 15,⟨.mv (.tmp 14),some 66,some (65,true),31⟩,⟨.bin .geq (.tmp 66) (ci' 0),some 67,some (65,true),63⟩,o3 (.pick (.tmp 65) (.tmp 67) (.const (.bool false))) 68 127,mv' 68 69 255,⟨.mv (.tmp 14),some 70,some (69,true),511⟩,⟨.mv (.tmp 12),some 71,some (69,true),511⟩,⟨.len (.tmp 71),some 72,some (69,true),1535⟩,⟨.bin .lss (.tmp 70) (.tmp 72),some 73,some (69,true),4095⟩,o3 (.pick (.tmp 69) (.tmp 73) (.const (.bool false))) 74 8191,mv' 74 75 16383,⟨.mv (.tmp 12),some 76,some (75,true),32767⟩,⟨.mv (.tmp 14),some 77,some (75,true),32767⟩,⟨.idx 1 (.tmp 76) (.tmp 77),some 78,some (75,true),131071⟩,⟨.load false 1 (.tmp 78),some 79,some (75,true),262143⟩,⟨.bin .geq (.tmp 79) (ci' 0),some 80,some (75,true),524287⟩,o3 (.pick (.tmp 75) (.tmp 80) (.const (.bool false))) 81 1048575]
def ycwr:LO:=[mv' 12 82 0,mv' 14 83 0,ix' 1 82 83 84 3,ld' false 1 84 85 7,mv' 15 86 0,o3 (.bin .add (.tmp 86) (ci' 1)) 87 16,mv' 85 14 15,mv' 87 15 127]
def ycwm:LO:=[mv' 14 88 0,o3 (.bin .neq (.tmp 88) (ci' 0)) 89 1,mv' 89 90 3,⟨.mv (.tmp 15),some 91,some (90,false),7⟩,⟨.mv (.tmp 11),some 92,some (90,false),7⟩,⟨.mv (.tmp 13),some 93,some (90,false),7⟩,⟨.idx 1 (.tmp 92) (.tmp 93),some 94,some (90,false),55⟩,⟨.load false 1 (.tmp 94),some 95,some (90,false),119⟩,⟨.idx 1 (.tmp 95) (ci' 0),some 96,some (90,false),247⟩,⟨.load false 1 (.tmp 96),some 97,some (90,false),503⟩,⟨.bin .neq (.tmp 91) (.tmp 97),some 98,some (90,false),1023⟩,o3 (.pick (.tmp 90) (.const (.bool true)) (.tmp 98)) 99 2047,mv' 99 100 4095,⟨.mv (.tmp 15),some 101,some (100,false),8191⟩,⟨.load true 2 (.tmp 7),some 102,some (100,false),8191⟩,⟨.call (.func 23) [(.tmp 102),(ci' 0)],some 103,some (100,false),24575⟩,⟨.mv (.tmp 13),some 104,some (100,false),8191⟩,⟨.idx 1 (.tmp 103) (.tmp 104),some 105,some (100,false),122879⟩,⟨.load false 1 (.tmp 105),some 106,some (100,false),253951⟩,⟨.bin .neq (.tmp 101) (.tmp 106),some 107,some (100,false),524287⟩,o3 (.pick (.tmp 100) (.const (.bool true)) (.tmp 107)) 108 1048575]
def ydfx:LO:=[o3 (.mv (.const (.bool false))) 6 0]
def ydcw:LO:=[mv' 13 58 0,o3 (.bin .add (.tmp 58) (ci' 1)) 59 1,mv' 59 13 3]
def ycvv:LO:=[cl' 34 [] 109 0,mv' 109 6 1]
def c8:SC:=(.seq (.reg false c8_0) (.seq (.reg false c8_1) (.seq (.reg true c8_2) (.seq (.seq (.reg false c8_3) (.cond (.tmp 32) (.seq (.reg false c8_4) .ret) .skip)) (.seq (.reg false c8_5) (.seq (.reg false c8_6) (.seq (.seq (.reg false c8_7) (.cond (.tmp 53) (.seq (.reg false c8_8) .ret) .skip)) (.seq (.seq (.reg false c8_9) (.block 0 (.loop (.seq (.seq (.reg false ycnq) (.cond (.tmp 57) .skip (.exit 0))) (.seq (.block 1 (.seq (.reg false ycxr) (.seq (.block 2 (.loop (.seq (.seq (.reg false ycsq) (.cond (.tmp 81) .skip (.exit 2))) (.block 3 (.reg false ycwr))))) (.seq (.reg false ycwm) (.cond (.tmp 108) (.seq (.reg false ydfx) .ret) .skip))))) (.reg false ydcw)))))) (.seq (.reg false ycvv) .ret)))))))))
theorem yden:Fn 8 c8 [.t 6]:=fn_0 Tryz.func8 (by kernel_rfl) (by kernel_rfl)
end Sh
end Go.Proofs.YtpngeppkgoaimaaGreatDoor

