/- Lemmas, joined: U32 SgO SgP GraphA GraphC SgD SgQ SgR SgS ScWo. -/
import Derived.Test.YtpngeppkgoaimaaGreatDoorPkBa3
import Derived.Test.YtpngeppkgoaimaaGreatDoorPkBa11
import Derived.Test.YtpngeppkgoaimaaGreatDoorPkBa9
import Derived.Test.YtpngeppkgoaimaaGreatDoorPkBa8
import Derived.Test.YtpngeppkgoaimaaGreatDoorPkBa10
set_option linter.unusedSimpArgs false
set_option linter.unusedVariables false
namespace Go.Proofs.YtpngeppkgoaimaaGreatDoor
open Go

theorem yph {a:Nat} (h:a < 2 ^ 32):IntKind.wrap .u32 (a:Int) = a:=by
 unfold IntKind.wrap
 simp [IntKind.bits,IntKind.signed]
 omega
theorem u32_and {a b:Nat} (ha:a < 2 ^ 32) (hb:b < 2 ^ 32):IntKind.wrap .u32 (((BitVec.ofInt (IntKind.bits .u32) (a:Int)) &&& BitVec.ofInt (IntKind.bits .u32) (b:Int)).toNat:Int) = ((a &&& b:Nat):Int):=by
 show IntKind.wrap .u32 (((BitVec.ofInt 32 (a:Int)) &&& BitVec.ofInt 32 (b:Int)).toNat:Int) = _
 rw [BitVec.ofInt_natCast,BitVec.ofInt_natCast,BitVec.toNat_and,BitVec.toNat_ofNat,BitVec.toNat_ofNat,Nat.mod_eq_of_lt ha,Nat.mod_eq_of_lt hb]
 exact yph (Nat.lt_of_le_of_lt Nat.and_le_left ha)
theorem u32_or {a b:Nat} (ha:a < 2 ^ 32) (hb:b < 2 ^ 32):IntKind.wrap .u32 (((BitVec.ofInt (IntKind.bits .u32) (a:Int)) ||| BitVec.ofInt (IntKind.bits .u32) (b:Int)).toNat:Int) = ((a ||| b:Nat):Int):=by
 show IntKind.wrap .u32 (((BitVec.ofInt 32 (a:Int)) ||| BitVec.ofInt 32 (b:Int)).toNat:Int) = _
 rw [BitVec.ofInt_natCast,BitVec.ofInt_natCast,BitVec.toNat_or,BitVec.toNat_ofNat,BitVec.toNat_ofNat,Nat.mod_eq_of_lt ha,Nat.mod_eq_of_lt hb]
 exact yph (Nat.or_lt_two_pow ha hb)
theorem u32_andNot {a b:Nat} (ha:a < 2 ^ 32) (hb:b < 2 ^ 32):IntKind.wrap .u32 (((BitVec.ofInt (IntKind.bits .u32) (a:Int)) &&& ~~~BitVec.ofInt (IntKind.bits .u32) (b:Int)).toNat:Int) = ((difB a b:Nat):Int):=by
 show IntKind.wrap .u32 (((BitVec.ofInt 32 (a:Int)) &&& ~~~BitVec.ofInt 32 (b:Int)).toNat:Int) = _
 have e:((BitVec.ofInt 32 (a:Int)) &&& ~~~BitVec.ofInt 32 (b:Int)).toNat = difB a b:=by
  rw [BitVec.ofInt_natCast,BitVec.ofInt_natCast]
  refine Nat.eq_of_testBit_eq fun i=>?_
  rw [yjk,BitVec.testBit_toNat,BitVec.getLsbD_and,BitVec.getLsbD_not,BitVec.getLsbD_ofNat,BitVec.getLsbD_ofNat]
  by_cases hi:i < 32
  ·simp [hi]
  ·rw [Nat.testBit_lt_two_pow (Nat.lt_of_lt_of_le ha (Nat.pow_le_pow_right (by omega) (by omega)))]
   simp
 rw [e]
 exact yph (ybdm ha)
theorem u32_neg {a:Nat} (h0:0 < a) (ha:a < 2 ^ 32):IntKind.wrap .u32 (0 - (a:Int)) = ((2 ^ 32 - a:Nat):Int):=by
 unfold IntKind.wrap
 simp [IntKind.bits,IntKind.signed]
 omega
theorem yvx {v:Nat} (hv:v < 32):IntKind.wrap .u32 (1 * 2 ^ (v:Int).toNat) = ((2 ^ v:Nat):Int):=by
 have h:2 ^ v < 2 ^ 32:=Nat.pow_lt_pow_right (by omega) hv
 have:=yph h
 rw [Int.toNat_natCast,Int.one_mul]
 rw [<- this]
 norm_cast
theorem yboo {a v:Nat}:(a:Int).fdiv (2 ^ (v:Int).toNat) = ((a >>> v:Nat):Int):=by
 rw [Int.toNat_natCast,Nat.shiftRight_eq_div_pow]
 rw [Int.fdiv_eq_ediv_of_nonneg _ (Int.pow_nonneg (by omega))]
 simp
theorem ycpk (a v:Nat):((a >>> v) &&& 1 = 1) ↔ a.testBit v = true:=by
 rw [Nat.testBit,bne_iff_ne]
 rw [Nat.and_comm 1 (a >>> v)]
 rw [Nat.and_one_is_mod]
 omega
theorem ybxp {s v:Nat} (hs:s < 2 ^ 32):IntKind.wrap .u32 (((BitVec.ofInt (IntKind.bits .u32) ((s:Int).fdiv (2 ^ v))) &&& BitVec.ofInt (IntKind.bits .u32) 1).toNat:Int) = (((s >>> v) &&& 1:Nat):Int):=by
 have h:=yboo (a:=s) (v:=v)
 rw [Int.toNat_natCast] at h
 rw [h]
 have h2:s >>> v < 2 ^ 32:=by rw [Nat.shiftRight_eq_div_pow]; exact Nat.lt_of_le_of_lt (Nat.div_le_self _ _) hs
 exact u32_and (a:=s >>> v) (b:=1) h2 (by decide)
theorem yzj {s v:Nat}:((((s >>> v) &&& 1:Nat):Int) = 1) ↔ s.testBit v = true:=by
 rw [<- ycpk s v]; omega
def lowB (e:Nat):Nat:=e &&& (2 ^ 32 - e)
theorem ybvz (e:Nat):subB (lowB e) e:=fun i h=>by
 unfold lowB at h
 rw [Nat.testBit_and,Bool.and_eq_true] at h
 exact h.1
theorem ybat:∀ (n e:Nat),0 < e -> e < 2 ^ n -> ∃ i q,i < n /\ e = 2 ^ i * (2 * q + 1)
 | 0,e,h,h2=>by simp at h2; omega
 | n + 1,e,h,h2=>by
  by_cases hp:e % 2 = 1
  ·exact ⟨0,e / 2,by omega,by omega⟩
  ·obtain ⟨i,q,h3,h4⟩:=ybat n (e / 2) (by omega) (by rw [Nat.pow_succ] at h2; omega)
   exact ⟨i + 1,q,by omega,by rw [Nat.pow_succ,Nat.mul_assoc,Nat.mul_left_comm,<- h4]; omega⟩
theorem ycpv {e:Nat} (h0:e ≠ 0) (he:e < 2 ^ 32):lowB e ≠ 0:=by
 obtain ⟨i,q,hi,hq⟩:=ybat 32 e (by omega) he
 have h1:e.testBit i = true:=by
  rw [hq,Nat.testBit_eq_decide_div_mod_eq,Nat.mul_div_cancel_left _ (Nat.two_pow_pos i)]
  simp
 have h2:(2 ^ 32 - e).testBit i = true:=by
  obtain ⟨j,hj⟩:∃ j,32 = i + (j + 1):=⟨31 - i,by omega⟩
  have e1:2 ^ 32 = 2 ^ i * (2 * 2 ^ j):=by
   have:(2:Nat) ^ 32 = 2 ^ (i + (j + 1)):=by rw [<- hj]
   rw [this,Nat.pow_add,Nat.pow_succ,Nat.mul_comm (2 ^ j) 2]
  have hlt:2 * q + 1 < 2 * 2 ^ j:=by
   rw [e1,hq] at he
   exact Nat.lt_of_mul_lt_mul_left he
  have e2:2 ^ 32 - e = 2 ^ i * (2 * 2 ^ j - (2 * q + 1)):=by rw [e1,hq,Nat.mul_sub]
  rw [e2,Nat.testBit_eq_decide_div_mod_eq,Nat.mul_div_cancel_left _ (Nat.two_pow_pos i)]
  simp; try omega
 intro hz
 have:(lowB e).testBit i = true:=by unfold lowB; rw [Nat.testBit_and,h1,h2]; rfl
 rw [hz] at this; simp at this
def resD (e w:Nat):Nat:=if w &&& e = 0 then lowB e else w &&& e
def resS (e _w:Nat):Nat:=e
end Go.Proofs.YtpngeppkgoaimaaGreatDoor

namespace Go.Proofs.YtpngeppkgoaimaaGreatDoor
namespace Sh
open Go Ev
set_option maxRecDepth 8000

def yds (p:ProgR) (g:Gr):List SV:=[.a (.string p.name),ydb p.vars,ycj p.rules,.rf (yex p g),yih g.ids.length p.vars (ybd g)]
theorem yog (p:ProgR) {g:Gr} (hg:ybc g) (hp:p.vars.all VarR.ok = true) (hl:p.vars.length <= 6):Returns Tryz.prog 64 [.ag (ymc p),grV g] (.rf (yds p g)):=by
 refine Returns.of (ycym _ _ ?_)
 have hS:=yyd p hg
 have hT:=ybbd p hg hp hl
 simp only [ymc,grV] at hS hT
 simp only [c64,ycxf,ydaa,ymc,grV,go_sem,Nat.reduceEqDiff,Nat.reduceAdd,Nat.reduceLT,↓reduceIte,reduceCtorEq]
 refine hS.use ?_
 simp only [thenO,go_sem,Nat.reduceEqDiff,Nat.reduceAdd,Nat.reduceLeDiff,Nat.reduceLT,↓reduceIte,reduceCtorEq]
 refine hT.use ?_
 simp only [yih,yds,go_sem,Nat.reduceEqDiff,Nat.reduceAdd,Nat.reduceLeDiff,↓reduceIte]
 refine ⟨by decide,by decide,Sim.refl _⟩
theorem yboh (p:ProgT) {g:Gr} (hg:ybc g) (hp:p.ok = true) {c:Conf} (hc:ConfIn g.ports.length p.vars.length c) {v:Nat} (hv:v < g.ports.length) {r:Nat} (hr:r < p.rules.length) :
  Returns Tryz.prog 144 [.rf (yex p.raw g),ybg c,.i .i64 v,.i .i64 r] (.b (yjx g c v (p.rules.getD r default))):=by
 refine Returns.of (ycsm _ _ ?_)
 obtain ⟨R,hR⟩:∃ R,p.rules.getD r default = R:=⟨_,rfl⟩
 have hok:R.ok p.vars.length = true:=by
  unfold ProgT.ok at hp
  simp only [Bool.and_eq_true] at hp
  rw [<- hR,getD_at hr]
  exact List.all_eq_true.1 hp.2 _ (List.getElem_mem _)
 unfold RuleT.ok at hok
 simp only [Bool.and_eq_true,decide_eq_true_eq] at hok
 have hV:=yxw p.raw hg hc hv R.guard hok.1.1.1 hok.1.1.2
 have hraw:p.raw.rules.getD r default = R.raw:=by
  rw [<- hR]
  simp [ProgT.raw,List.getD,hr]
 have hlen:p.raw.rules.length = p.rules.length:=by simp [ProgT.raw]
 simp only [yex,ycj,hlen] at hV
 rw [hR]
 simp only [c144,ycdu,yccl,yex,ycj,hraw,hlen,go_sem,Nat.reduceEqDiff,Nat.reduceAdd,Nat.reduceLeDiff,↓reduceIte,reduceCtorEq]
 refine ⟨by omega,hV.use ?_⟩
 simp only [thenO,sim_b,yjx,go_sem,Nat.reduceEqDiff,Nat.reduceAdd,↓reduceIte,reduceCtorEq]
theorem ycva {p:ProgT} {g:Gr} {c:Conf} {v k:Nat} (hk:k < p.rules.length) (hn:(p.rules.take k).findIdx? (yjx g c v) = none) (h:yjx g c v (p.rules.getD k default) = true):ygj p g c v = k:=by
 unfold ygj
 have:p.rules.findIdx? (yjx g c v) = some k:=by
  rw [List.findIdx?_eq_some_iff_getElem]
  refine ⟨hk,by rwa [getD_at hk] at h,fun j hj=>?_⟩
  rw [List.findIdx?_eq_none_iff] at hn
  have:=hn p.rules[j] (List.mem_take_iff_getElem.2 ⟨j,by omega,rfl⟩)
  simpa using this
 rw [this]
theorem ybiu {p:ProgT} {g:Gr} {c:Conf} {v:Nat} (hn:(p.rules.take p.rules.length).findIdx? (yjx g c v) = none):ygj p g c v = -1:=by
 unfold ygj
 rw [List.take_length] at hn
 rw [hn]
theorem ybzb (p:ProgT) (g:Gr) (c:Conf) (v:Nat):-1 <= ygj p g c v /\ ygj p g c v < p.rules.length:=by
 unfold ygj
 split
 ·rename_i i hi
  obtain ⟨h,_⟩:=List.findIdx?_eq_some_iff_getElem.1 hi
  omega
 ·omega
theorem ybfv (p:ProgT) {g:Gr} (hg:ybc g) (hp:p.ok = true) {c:Conf} (hc:ConfIn g.ports.length p.vars.length c) {v:Nat} (hv:v < g.ports.length) :
  Returns Tryz.prog 107 [.rf (yds p.raw g),ybg c,.i .i64 v] (.i .i64 (ygj p g c v)):=by
 refine Returns.of (ycsd _ _ ?_)
 have hlen:p.raw.rules.length = p.rules.length:=by simp [ProgT.raw]
 have h12:p.rules.length <= 12:=by
  unfold ProgT.ok at hp
  simp only [Bool.and_eq_true,decide_eq_true_eq] at hp
  exact hp.1.2
 simp only [c107,ycdi,ycjj,yds,ycj,hlen,go_sem,Nat.reduceEqDiff,Nat.reduceAdd,Nat.reduceLeDiff,↓reduceIte,reduceCtorEq]
 refine ybe (σ:=Nat) (fun k=>⟨[(14,.i .i64 k),(13,.i .i64 p.rules.length),(0,.rf (yds p.raw g)),(1,ybg c),(2,.i .i64 v)],[]⟩) (fun k=>k <= p.rules.length /\ (p.rules.take k).findIdx? (yjx g c v) = none) (fun k=>p.rules.length - k) 0 ⟨Nat.zero_le _,by simp⟩ ?_ ?_
 ·refine yg [] [] [] ?_
  simp only [yds,ycj,hlen,allQ,live,yc,Int.natCast_zero,go_sem,Nat.reduceEqDiff,↓reduceIte,reduceCtorEq]
 ·intro k ⟨hk,hno⟩
  simp only [yclv,ycih,ycnk,yccj,ycjd,ycmb,yds,yu,go_sem,Nat.reduceEqDiff,Nat.reduceAdd,Nat.reduceLeDiff,↓reduceIte,reduceCtorEq]
  refine ⟨fun hlt=>?_,fun hlt=>?_⟩
  ·have hk':k < p.rules.length:=by omega
   refine (yboh p hg hp hc hv hk').use ?_
   simp only [thenO,yu,go_sem,Nat.reduceEqDiff,Nat.reduceAdd,↓reduceIte,reduceCtorEq]
   refine ⟨fun h=>by rw [ycva hk' hno h],fun h=>⟨ikw (by omega) (by omega),?_⟩⟩
   refine yh (k + 1) ⟨by omega,?_⟩ (by omega) ?_
   ·rw [List.take_succ_eq_append_getElem hk',List.findIdx?_append,hno]
    rw [getD_at hk'] at h
    simp [h]
   ·refine yg [] [] [] ?_
    simp only [allQ,live,yc,yu,go_sem,Nat.reduceEqDiff,↓reduceIte,reduceCtorEq]
    simp
  ·obtain rfl:k = p.rules.length:=by omega
   rw [ybiu hno]
theorem ybss (n:Nat) (hn:n <= 32) (h:FuncId) (cp:List SV) (f:Nat -> Bool) (hcp4:cp.any (owned 4) = false) (hf:∀ v,v < n -> Returns Tryz.prog h (.i .i64 v :: cp) (.b (f v))):Returns Tryz.prog 105 [.i .i64 n,.fn h [] cp] (.i .u32 (yiw f n)):=by
 refine Returns.of (yctr _ _ ?_)
 have hcp:=ysc hcp4
 simp only [c105,ycjm,ycip,ycju,go_sem,Nat.reduceAdd,↓reduceIte,reduceCtorEq]
 refine ybe (σ:=Nat) (fun k=>⟨[(8,.i .i64 k),(7,.i .i64 n),(1,.fn h [] cp),(5,.i .u32 (yiw f k))],[]⟩) (fun k=>k <= n) (fun k=>n - k) 0 (Nat.zero_le _) ?_ ?_
 ·refine yg [] [] [] ?_
  simp only [yht _ hcp4,yhx _ hcp4,yiw,allQ,live,yc,Int.natCast_zero,go_sem,Nat.reduceEqDiff,↓reduceIte,reduceCtorEq]
 ·intro k hk
  simp only [ycel,ycdl,ycjv,ycay,yccg,ycmr,yu,hcp,List.any_cons,go_sem,Nat.reduceEqDiff,Nat.reduceAdd,↓reduceIte,reduceCtorEq]
  refine ⟨fun hlt=>(hf k (by omega)).use ?_,fun hlt=>?_⟩
  ·have hk':k < n:=by omega
   have hb1:yiw f k < 2 ^ 32:=Nat.lt_of_lt_of_le (ybgp f k) (Nat.pow_le_pow_right (by omega) (by omega))
   have hb2:2 ^ k < 2 ^ 32:=Nat.pow_lt_pow_right (by omega) (by omega)
   simp only [thenO,IntKind.bits,go_sem,Nat.reduceEqDiff,Nat.reduceAdd,↓reduceIte,reduceCtorEq]
   refine ⟨fun h1=>⟨by omega,ikw (by omega) (by omega),?_⟩,fun h1=>⟨ikw (by omega) (by omega),?_⟩⟩
   ·refine yh (k + 1) (by omega) (by omega) ?_
    refine yg [] [] [] ?_
    have e1:=yvx (v:=k) (by omega)
    have e2:=u32_or hb1 hb2
    rw [Int.toNat_natCast] at e1
    simp only [yht _ hcp4,yhx _ hcp4,e1,allQ,live,yc,yu,go_sem,Nat.reduceEqDiff,↓reduceIte,reduceCtorEq]
    refine ⟨by omega,?_⟩
    rw [show yiw f (k + 1) = yiw f k ||| 2 ^ k by show (if f k then _ else _) = _; rw [if_pos h1]]
    exact e2
   ·refine yh (k + 1) (by omega) (by omega) ?_
    refine yg [] [] [] ?_
    simp only [yht _ hcp4,yhx _ hcp4,allQ,live,yc,yu,go_sem,Nat.reduceEqDiff,↓reduceIte,reduceCtorEq]
    rw [show yiw f (k + 1) = yiw f k by show (if f k then _ else _) = _; rw [if_neg (by rw [h1]; simp)]]
    simp
  ·obtain rfl:k = n:=by omega
   rfl
theorem ybav (p:ProgT) {g:Gr} (hg:ybc g) (hp:p.ok = true) {c:Conf} (hc:ConfIn g.ports.length p.vars.length c) {v:Nat} (hv:v < g.ports.length) :
  Returns Tryz.prog 106 [.i .i64 v,.rf [.rf (yds p.raw g)],.rf [ybg c]] (.b (decide (ygj p g c v >= 0))):=by
 refine Returns.of (ycuc _ _ ?_)
 have hR:=ybfv p hg hp hc hv
 simp only [c106,ycfo,yclb,go_sem,Nat.reduceEqDiff,Nat.reduceAdd,↓reduceIte,reduceCtorEq]
 refine hR.use ?_
 simp only [thenO,sim_b,go_sem,Nat.reduceEqDiff,Nat.reduceAdd,↓reduceIte,reduceCtorEq]
theorem yiz (p:ProgT) {g:Gr} (hg:ybc g) (hp:p.ok = true) {c:Conf} (hc:ConfIn g.ports.length p.vars.length c) :
  Returns Tryz.prog 65 [.rf (yds p.raw g),ybg c] (.i .u32 (ybk p g c)):=by
 refine Returns.of (yddo _ _ ?_)
 have hid:=hg.2.2.1
 have h24:=hg.2.1
 have hN:=ybss g.ids.length (by omega) 106 [.rf [.rf (yds p.raw g)],.rf [ybg c]] (fun v=>decide (ygj p g c v >= 0)) rfl (fun v hv=>ybav p hg hp hc (by omega))
 simp only [yds] at hN
 simp only [c65,ycvw,yczv,yds,yih,go_sem,Nat.reduceEqDiff,Nat.reduceAdd,Nat.reduceLeDiff,Nat.reduceLT,↓reduceIte,reduceCtorEq]
 simp only [yih] at hN
 refine .inl (hN.use ?_)
 simp only [thenO,yu,go_sem,Nat.reduceEqDiff,Nat.reduceAdd,↓reduceIte,reduceCtorEq]
 rfl
theorem yon (p:ProgT) (g:Gr) (c:Conf) (v:Nat):∀ (sets:List (Int × Ex)) (s0:List Int),(ymk p g c v s0 sets).length = s0.length
 | [],_=>rfl
 | a :: sets,s0=>by
  show (ymk p g c v (s0.set _ _) sets).length = _
  rw [yon p g c v sets]
  simp
theorem ybjs (p:ProgT) (g:Gr) (c:Conf) (v:Nat) (s0:List Int) (sets:List (Int × Ex)) (k:Nat) (h:k < sets.length) :
  ymk p g c v s0 (sets.take (k + 1)) = (ymk p g c v s0 (sets.take k)).set (sets.getD k default).1.toNat (yfk (p.vars.getD (sets.getD k default).1.toNat default).kind (ybd g v (p.vars.getD (sets.getD k default).1.toNat default)) (ybt g c v (sets.getD k default).2 (-1))):=by
 unfold ymk
 rw [List.take_succ_eq_append_getElem h,List.foldl_append,getD_at h]
 rfl
theorem ybyl (p:ProgT) {g:Gr} (hg:ybc g) (hp:p.ok = true) {c:Conf} (hc:ConfIn g.ports.length p.vars.length c) {v:Nat} (hv:v < g.ports.length) {r:Nat} (hr:r < p.rules.length) :
  Returns Tryz.prog 176 [.rf (yds p.raw g),ybg c,.i .i64 v,.i .i64 r] (yj (yyr p g c v r)):=by
 refine Returns.of (ycrc _ _ ?_)
 obtain ⟨R,hR⟩:∃ R,p.rules.getD r default = R:=⟨_,rfl⟩
 have hp':=hp
 unfold ProgT.ok at hp'
 simp only [Bool.and_eq_true,decide_eq_true_eq] at hp'
 have hok:R.ok p.vars.length = true:=by
  rw [<- hR,getD_at hr]
  exact List.all_eq_true.1 hp'.2 _ (List.getElem_mem _)
 unfold RuleT.ok at hok
 simp only [Bool.and_eq_true,decide_eq_true_eq] at hok
 have hraw:p.raw.rules.getD r default = R.raw:=by
  rw [<- hR]
  simp [ProgT.raw,List.getD,hr]
 have hlen:p.raw.rules.length = p.rules.length:=by simp [ProgT.raw]
 have hsl:R.raw.sets.length = R.sets.length:=by simp [RuleT.raw]
 have hid:=hg.2.2.1
 have hcl:=hc.len
 have hrow:=hc.at_ hv
 have hne:¬ (c.getD v []).length = 0:=by omega
 simp only [c176,ycmq,ycch,ybzs,hne,yds,ycj,yhk,hraw,hlen,hsl,ybg,yj,go_sem,Nat.reduceEqDiff,Nat.reduceAdd,Nat.reduceLeDiff,Nat.reduceLT,↓reduceIte,reduceCtorEq]
 obtain ⟨nv,hnv⟩:∃ k,p.vars.length = k:=⟨_,rfl⟩
 have hrl:=hrow.1
 rw [hnv] at hrl hok hc
 rw [hnv] at hp'
 have hmv:yyr p g c v r = ymk p g c v (c.getD v []) R.sets:=by unfold yyr; rw [hR]
 have hml:∀ k,(ymk p g c v (c.getD v []) (R.sets.take k)).length = nv:=fun k=>(yon p g c v _ _).trans hrl
 refine ⟨by omega,by omega,by omega,?_⟩
 refine ybe (σ:=Nat) (fun k=>⟨[(28,.i .i64 k),(27,.i .i64 R.sets.length),(26,yhk R.raw.sets),(0,.rf (yds p.raw g)),(1,ybg c),(2,.i .i64 v),(9,.os (17,0) 0 nv true)],
   [(17,.one (some ⟨3,false,1,nv,fun i=>[.i .i64 ((ymk p g c v (c.getD v []) (R.sets.take k)).getD i 0)]⟩))]⟩) (fun k=>k <= R.sets.length) (fun k=>R.sets.length - k) 0 (Nat.zero_le _) ?_ ?_
 ·refine yg [] [] [] ?_
  simp only [yds,ycj,yhk,hlen,hsl,hrl,ybg,yj,allQ,live,yc,yu,Int.natCast_zero,go_sem,Nat.reduceEqDiff,↓reduceIte,reduceCtorEq]
  simp [ymk]
 ·intro k hk
  simp only [yceo,yccf,ycng,yds,yhk,hsl,splice,go_sem,Nat.reduceEqDiff,Nat.reduceAdd,Nat.reduceLeDiff,Nat.reduceLT,↓reduceIte,reduceCtorEq]
  refine ⟨fun hlt=>?_,fun hlt=>?_⟩
  ·have hk':k < R.sets.length:=by omega
   obtain ⟨S,hS⟩:∃ S,R.sets.getD k default = S:=⟨_,rfl⟩
   have hset:R.raw.sets.getD k default = ⟨S.1,S.2.ser⟩:=by
    rw [<- hS]
    simp [RuleT.raw,List.getD,hk']
   have hSok:=List.all_eq_true.1 hok.2 S (by rw [<- hS,getD_at hk']; exact List.getElem_mem _)
   simp only [Bool.and_eq_true,decide_eq_true_eq] at hSok
   have hV:=yxw p.raw hg hc hv S.2 hSok.1.2 hSok.2
   refine ⟨by omega,?_⟩
   rw [hset]
   refine hV.use ?_
   have hB:=ybnm (p.vars.getD S.1.toNat default).kind (ybd g v (p.vars.getD S.1.toNat default)) (ybt g c v S.2 (-1))
   have hvars:p.raw.vars = p.vars:=rfl
   simp only [ycap,thenO,yih,ydb,varC,splice,hvars,hnv,go_sem,Nat.reduceEqDiff,Nat.reduceAdd,Nat.reduceLeDiff,↓reduceIte,reduceCtorEq]
   refine ⟨by omega,by omega,by omega,hB.use ?_⟩
   simp only [go_sem,Nat.reduceEqDiff,↓reduceIte]
   have hb2:Nat.testBit 134217727 25 = true:=by decide
   simp only [ycao,hb2,go_sem,Nat.reduceEqDiff,Nat.reduceAdd,↓reduceIte,reduceCtorEq]
   refine ⟨by omega,by omega,ikw (by omega) (by omega),?_⟩
   refine yh (k + 1) (by omega) (by omega) ?_
   refine yg [] [] [] ?_
   simp only [ybjs p g c v _ _ k hk',hS,allQ,live,yc,yu,go_sem,Nat.reduceEqDiff,↓reduceIte,reduceCtorEq]
   refine ⟨by omega,fun i hi=>?_⟩
   rw [ybxt (by rw [hml]; omega)]
   by_cases q:i = S.1.toNat
   ·simp only [if_pos q]
    simp only [live,yc,go_sem,reduceCtorEq]
   ·simp only [if_neg q]
    simp only [live,yc,go_sem,reduceCtorEq]
  ·obtain rfl:k = R.sets.length:=by omega
   simp only [ycde,go_sem,Nat.reduceEqDiff,Nat.reduceAdd,↓reduceIte,reduceCtorEq]
   have hl:=hml R.sets.length
   rw [List.take_length] at hl ⊢
   rw [hmv,hl]
   exact Sim.refl _
theorem yly (p:ProgT) (g:Gr) (c:Conf) (s:Nat) {v:Nat} (hv:v < c.length):(ykr p g c s).getD v [] = if s.testBit v then yyr p g c v (ygj p g c v).toNat else c.getD v []:=by
 unfold ykr
 simp [List.getD,hv]
theorem yje (p:ProgT) (g:Gr) (c:Conf) (s:Nat):(ykr p g c s).length = c.length:=by simp [ykr]
theorem ybxg (p:ProgT) {g:Gr} (hg:ybc g) (hp:p.ok = true) {c:Conf} (hc:ConfIn g.ports.length p.vars.length c) {s:Nat} (hs:s < 2 ^ 32) (hen:subB s (ybk p g c)) :
  Returns Tryz.prog 147 [.rf (yds p.raw g),ybg c,.i .u32 s] (ybg (ykr p g c s)):=by
 refine Returns.of (ybve [92] _ _ ?_)
 have h24:=hg.2.1
 have hcl:=hc.len
 have hp':=hp
 unfold ProgT.ok at hp'
 simp only [Bool.and_eq_true,decide_eq_true_eq] at hp'
 have hC:=ybvr c (fun x hx=>by have:=(hc.row x hx).1; omega) (by omega)
 simp only [c147,ychm,ycge,go_sem,Nat.reduceEqDiff,Nat.reduceAdd,↓reduceIte,reduceCtorEq]
 refine callM_of hC [] 100 [0,1,2] [] ?_ ?_
 ·simp only [go_sem,famCln,yfd,keepF,keepO,allQ,live,yc,go_sem,Nat.reduceEqDiff,↓reduceIte,reduceCtorEq]
 ·rintro r o' ⟨rfl,rfl⟩
  simp only [ycim,ybg,yj,thenM,yko,nuF,nu,difN,keepF,keepO,Fam.ren,OB.ren,dim,yzv,yip,go_sem,Nat.reduceEqDiff,Nat.reduceAdd,↓reduceIte,reduceCtorEq]
  obtain ⟨n,hn⟩:∃ n,c.length = n:=⟨_,rfl⟩
  let row:Nat -> Nat -> List Int:=fun k i=>if i < k then (ykr p g c s).getD i [] else c.getD i []
  refine ybe (σ:=Nat) (fun k=>⟨[(13,.i .i64 k),(12,.i .i64 n),(7,.os (108,0) 0 n true),(0,.rf (yds p.raw g)),(1,ybg c),(2,.i .u32 s)],
   [(108,.one (some ⟨22,false,1,n,fun i=>[yj (row k i)]⟩))]⟩) (fun k=>k <= n) (fun k=>n - k) 0 (Nat.zero_le _) ?_ ?_
  ·refine yg [] [] [] ?_
   simp only [ybg,hn,allQ,live,yc,Int.natCast_zero,go_sem,Nat.reduceEqDiff,↓reduceIte,reduceCtorEq]
   refine ⟨Sim.refl _,fun i hi=>?_⟩
   simp only [row,if_neg (Nat.not_lt_zero i)]
   exact Sim.refl _
  ·intro k hk
   have ht:=ybxp (s:=s) (v:=k) hs
   simp only [IntKind.bits] at ht
   simp only [ycmg,ycar,yccs,ycmp,ychn,ycga,IntKind.bits,ht,yzj,go_sem,Nat.reduceEqDiff,Nat.reduceAdd,Nat.reduceBEq,↓reduceIte,reduceCtorEq]
   refine ⟨fun hlt=>⟨by omega,fun h1=>?_,fun h1=>?_⟩,fun hlt=>?_⟩
   ·have hk':k < c.length:=by omega
    have hkg:k < g.ports.length:=by omega
    have hr0:0 <= ygj p g c k:=by
     have:=hen k h1
     unfold ybk at this
     rw [yja] at this
     simp only [Bool.and_eq_true,decide_eq_true_eq] at this
     exact this.2
    have hrl:=(ybzb p g c k).2
    have hr1:ygj p g c k = ((ygj p g c k).toNat:Int):=by omega
    refine (ybfv p hg hp hc hkg).use ?_
    simp only [thenO,splice,go_sem,Nat.reduceEqDiff,Nat.reduceAdd,Nat.reduceBEq,↓reduceIte,reduceCtorEq]
    have hM:=ybyl p hg hp hc hkg (r:=(ygj p g c k).toNat) (by omega)
    rw [<- hr1] at hM
    refine hM.use ?_
    simp only [go_sem,Nat.reduceEqDiff,↓reduceIte]
    refine ⟨by omega,by omega,ikw (by omega) (by omega),?_⟩
    refine yh (k + 1) (by omega) (by omega) ?_
    refine yg [] [] [] ?_
    simp only [allQ,live,yc,yu,go_sem,Nat.reduceEqDiff,↓reduceIte,reduceCtorEq]
    refine ⟨by omega,fun i hi=>?_⟩
    by_cases q:i = k
    ·simp only [if_pos q]
     subst q
     simp only [go_sem,live,go_sem]
     simp only [row,if_pos (Nat.lt_succ_self i),yly p g c s hk',h1,↓reduceIte]
     exact Sim.refl _
    ·simp only [if_neg q]
     simp only [go_sem,live,go_sem]
     have:row (k + 1) i = row k i:=by
      simp only [row]
      by_cases q1:i < k
      ·rw [if_pos q1,if_pos (by omega)]
      ·rw [if_neg q1,if_neg (by omega)]
     rw [this]
     exact Sim.refl _
   ·have hk':k < c.length:=by omega
    refine ⟨ikw (by omega) (by omega),?_⟩
    refine yh (k + 1) (by omega) (by omega) ?_
    refine yg [] [] [] ?_
    simp only [allQ,live,yc,yu,go_sem,Nat.reduceEqDiff,↓reduceIte,reduceCtorEq]
    refine ⟨by omega,fun i hi=>?_⟩
    have:row (k + 1) i = row k i:=by
     simp only [row]
     by_cases q1:i < k
     ·rw [if_pos q1,if_pos (by omega)]
     ·by_cases q:i = k
      ·subst q
       rw [if_neg q1,if_pos (by omega),yly p g c s hk',if_neg (fun q=>h1 (yzj.2 q))]
      ·rw [if_neg q1,if_neg (by omega)]
    rw [this]
    exact Sim.refl _
   ·obtain rfl:k = n:=by omega
    rw [yje,hn]
    refine yio fun q hq=>⟨⟨?_,trivial⟩,rfl⟩
    simp only [row,if_pos hq]
    exact Sim.refl _
end Sh
end Go.Proofs.YtpngeppkgoaimaaGreatDoor

namespace Go.Proofs.YtpngeppkgoaimaaGreatDoor
namespace Sh
open Go Ev
set_option maxRecDepth 8000

def yut (p:ProgT) (g:Gr):Bool:=p.vars.all fun x=>decide (x.kind = 1) == false || (decide ((ybd g 0 x).1 <= (ybd g 0 x).2) && decide ((ybd g 0 x).2 - (ybd g 0 x).1 + 1 <= 4096))
def ydh (Q1 Q2:(Nat -> Option ABlk) -> Value -> Prop) (p:ProgR):List SV:=[.a (.string p.name),.ex Q1 (ydb p.vars),.ex Q2 (ycj p.rules)]
theorem ybuy {Q1 Q2:(Nat -> Option ABlk) -> Value -> Prop} (p:ProgT) {g:Gr} (hg:ybc g) (hp:p.ok = true) (hf:yut p g = true) (hV:Returns Tryz.prog 169 [.ag (ydh Q1 Q2 p.raw)] (.b true)) (hG:Returns Tryz.prog 84 [grV g] (.b true)) :
  Returns Tryz.prog 140 [.ag (ydh Q1 Q2 p.raw),grV g] (.i .i64 0):=by
 refine Returns.of (ycqp _ _ ?_)
 have hp':=hp
 unfold ProgT.ok at hp'
 simp only [Bool.and_eq_true,decide_eq_true_eq] at hp'
 have hvars:p.raw.vars = p.vars:=rfl
 simp only [ydh,grV] at hV hG
 simp only [c140,ybzt,yccu,yckb,yccr,ycgg,ycfw,ydh,grV,go_sem,Nat.reduceEqDiff,Nat.reduceAdd,Nat.reduceLT,↓reduceIte,reduceCtorEq]
 refine hV.use ?_
 simp only [thenO,go_sem,Nat.reduceEqDiff,Nat.reduceAdd,↓reduceIte]
 refine hG.use ?_
 simp only [ydb,hvars,go_sem,Nat.reduceEqDiff,Nat.reduceAdd,Nat.reduceLeDiff,↓reduceIte,reduceCtorEq]
 have hall:∀ k,k < p.vars.length -> (p.vars.getD k default).ok = true /\ ((p.vars.getD k default).kind = 1 -> (ybd g 0 (p.vars.getD k default)).1 <= (ybd g 0 (p.vars.getD k default)).2 /\ (ybd g 0 (p.vars.getD k default)).2 - (ybd g 0 (p.vars.getD k default)).1 + 1 <= 4096):=fun k hk=>by
  rw [getD_at hk]
  refine ⟨List.all_eq_true.1 hp'.1.1.2 _ (List.getElem_mem _),fun h1=>?_⟩
  have:=List.all_eq_true.1 hf _ (List.getElem_mem hk)
  simpa [h1] using this
 refine ybe (σ:=Nat) (fun k=>⟨[(18,.i .i64 k),(17,.i .i64 p.vars.length),(16,.ex Q1 (ydb p.vars)),(3,.pt (3,0) 0 0)],[(3,.one (some ⟨28,true,2,1,fun _=>[yj g.ids,yba g.ports]⟩))]⟩) (fun k=>k <= p.vars.length) (fun k=>p.vars.length - k) 0 (Nat.zero_le _) ?_ ?_
 ·refine yg [] [] [] ?_
  simp only [ydb,allQ,live,yc,Int.natCast_zero,go_sem,Nat.reduceEqDiff,↓reduceIte,reduceCtorEq]
 ·intro k hk
  obtain ⟨x,hx⟩:∃ x,p.vars.getD k default = x:=⟨_,rfl⟩
  simp only [yckg,ychd,ycdr,ycbn,ybml,ybus,yblj,ybqu,ydb,varC,splice,yu,hx,go_sem,Nat.reduceEqDiff,Nat.reduceAdd,Nat.reduceLeDiff,Nat.reduceLT,↓reduceIte,reduceCtorEq]
  intro hlt
  have hk':k < p.vars.length:=by omega
  obtain ⟨hxo,hxb⟩:=hall k hk'
  rw [hx] at hxo hxb
  have hB:=ytb hg hxo (v:=0) (by have:=hg.1; omega)
  simp only [varC,grV,Int.natCast_zero] at hB
  obtain ⟨hb1,hb2⟩:=yll hg hxo
  have hvo:=ybbl hxo
  refine ⟨by omega,fun h1=>⟨ikw (by omega) (by omega),?_⟩,fun h1=>hB.use ?_⟩
  ·refine yh (k + 1) (by omega) (by omega) ?_
   refine yg [] [] [] ?_
   simp only [allQ,live,yc,yu,go_sem,Nat.reduceEqDiff,↓reduceIte,reduceCtorEq]
   omega
  ·obtain ⟨hb3,hb4⟩:=hxb h1
   obtain ⟨b1,hb1'⟩:∃ b,(ybd g 0 x).1 = b:=⟨_,rfl⟩
   obtain ⟨b2,hb2'⟩:∃ b,(ybd g 0 x).2 = b:=⟨_,rfl⟩
   have e:ybd g 0 x = (x.lo,x.hi + x.perNode * (g.ids.length:Int) + x.perID * maxI g.ids):=by unfold ybd; rw [if_pos h1]
   rw [e] at hb1' hb2'
   simp only [] at hb1' hb2'
   simp only [e] at hb3 hb4
   rw [e]
   simp only [thenO,yu,go_sem,Nat.reduceEqDiff,Nat.reduceAdd,↓reduceIte,reduceCtorEq]
   simp only [hb1',hb2'] at hb3 hb4 ⊢
   refine ⟨fun _=>⟨ikw (by omega) (by omega),ikw (by omega) (by omega),fun hgt=>absurd hb4 (by omega),fun _=>⟨ikw (by omega) (by omega),?_⟩⟩,fun hlt2=>absurd hb3 (by omega)⟩
   refine yh (k + 1) (by omega) (by omega) ?_
   refine yg [] [] [] ?_
   simp only [allQ,live,yc,yu,go_sem,Nat.reduceEqDiff,↓reduceIte,reduceCtorEq]
   omega
end Sh
end Go.Proofs.YtpngeppkgoaimaaGreatDoor

namespace Go.Proofs.YtpngeppkgoaimaaGreatDoor
open Go.RowKit

theorem ybtn (n k:Nat) (hk:k < n):(List.replicate k (-1:Int) ++ List.replicate (n - k) 0).set k (-1) = List.replicate (k + 1) (-1) ++ List.replicate (n - (k + 1)) 0:=by
 apply List.ext_getElem
 ·simp; omega
 ·intro i h1 h2
  rw [List.getElem_set]
  split
  ·subst_vars
   rw [List.getElem_append_left (by simp)]
   simp
  ·by_cases hi:i < k
   ·rw [List.getElem_append_left (by simpa using hi),List.getElem_append_left (by simp; omega)]; simp
   ·rw [List.getElem_append_right (by simp; omega),List.getElem_append_right (by simp; omega)]; simp

theorem ywp (g:Gr) (a:Nat) (h:g.ports.length <= 24):1 + yhu (start g a) <= 30:=by
 have h1:=List.countP_le_length (p:=fun x:Int=>decide (x < 0)) (l:=start g a)
 have h2:(start g a).length = g.ports.length:=by simp [start]
 unfold yhu
 omega

set_option maxHeartbeats 2000000 in
theorem ynk (gv:Value) (g:Gr) (a:Nat) (w:World) (hg:GrAt w gv g) (hgood:ybc g) (ha:a < g.ports.length) :
  Calls Tryz.prog 108 #[gv,.int .i64 a] w (ybdo (ybi g a) w):=by
 have hn24:=hgood.2.1
 have Hgood:=Lib.hid hgood
 clear hgood
 obtain ⟨i,p,rfl,hi,hp⟩:=hg
 obtain ⟨A2,c2,rfl,hB1,hB2⟩:=ybf hp
 have Hp:=Lib.hid hp
 clear hi hp
 have hmk:=yzi g.ports.length (by omega)
 go_enter Tryz.func108,Tryz.ntmps108
 go_wp2
 go_loopg [17] g.ports.length (fun q t wr=>∃ k:Nat,q + k = g.ports.length /\ t = .int .i64 k /\ Hid (Below (w.heap.size + 1) (w.alloc (.cells #[i,.slice A2 g.ports.length c2] 28)) wr) /\ Hid (IBlk wr (w.heap.size + 1) (List.replicate k (-1) ++ List.replicate (g.ports.length - k) 0)))
 case atStart =>
  refine ⟨0,by omega,rfl,Lib.hid ((Below.refl _ _).alloc (by simp) _),Lib.hid ?_⟩
  have:=IBlk.new (w.alloc (.cells #[i,.slice A2 g.ports.length c2] 28)) (List.replicate g.ports.length (0:Int))
  simpa using this
 case round =>
  obtain ⟨k,hq,rfl,hbel,hblk⟩:=hrel
  by_cases hlt:k < g.ports.length
  ·obtain ⟨x,hx⟩:∃ x,wr.cell? ⟨w.heap.size + 1,k,none⟩ = some (.int .i64 x):=⟨_,hblk.out.cell (by simp; omega)⟩
   have hf:=hblk.out.frozen k
   go_wp2
   go_roundg (gk - 1)
   case measure=>omega
   case rel =>
    refine ⟨k + 1,by omega,by go_num,Lib.hid (hbel.out.setCell (by simp) _),Lib.hid ?_⟩
    have:=hblk.out.set_ k (-1)
    rwa [ybtn _ _ hlt] at this
  ·obtain rfl:k = g.ports.length:=by omega
   have hblk0:IBlk wr (w.heap.size + 1) (List.replicate g.ports.length (-1)):=by simpa using hblk.out
   obtain ⟨x,hx⟩:∃ x,wr.cell? ⟨w.heap.size + 1,a,none⟩ = some (.int .i64 x):=⟨_,hblk0.cell (by simpa using ha)⟩
   have hf:=hblk0.frozen a
   have Hb0:=Lib.hid hblk0
   clear hblk0 hblk hmk
   go_wp2
   go_loopg [7] (1 + yhu (start g a)) (fun q t wr=>∃ R Q,q = Q.length + yhu R /\ q <= 30 /\ Hid (Below (w.heap.size + 1) (w.alloc (.cells #[i,.slice A2 g.ports.length c2] 28)) wr) /\ Hid (IBlk wr (w.heap.size + 1) R) /\ Hid (BfsInv g a R Q) /\ Hid (Owns wr (w.heap.size + 2) 3 1 t Q.length (Q.map (fun q:Nat=>Value.int .i64 (q:Int)))))
   case atStart =>
    refine ⟨start g a,[a],rfl,ywp g a hn24,Lib.hid ((hbel.out.setCell (by simp) _).alloc (by have:=hbel.out.size; simp at this ⊢; omega) _),Lib.hid ((Hb0.out.set_ a 0).alloc _),Lib.hid (BfsInv.start ha),Lib.hid ?_⟩
    refine ⟨rfl,.inr ⟨_,0,1,#[.int .i64 (a:Int)],rfl,?_,?_,Nat.le_refl _,by simp [maxLen],by simp,?_⟩⟩
    ·have:=Hb0.out.lt; simp; omega
    ·have:=heap_alloc_new (wr.setCell ⟨w.heap.size + 1,a,none⟩ (.int .i64 0)) (.cells #[.int .i64 (a:Int)] 3); simpa using this
    ·intro j u hu
     simpa using hu
   case round =>
    clear hbel Hb0 hx hf
    obtain ⟨R,Q,hq,hq30,hbel,hblk,hinv,hown⟩:=hrel
    obtain ⟨AQ,cQ,rfl⟩:=hown.out.val
    cases Q with
    | nil =>
     have Hd:=Lib.hid (hinv.out.isDist.unique (ydc Hgood.out ha))
     go_wp2
     go_ret
     have h:=hblk.out.ints (fun x hx=>by have:=hinv.out.isDist.bound Hgood.out ha x hx; unfold I64; omega) (by rw [hinv.out.len]; omega)
     rw [hinv.out.len,Hd.out] at h
     exact ⟨_,rfl,h,(box2 hbel.out).2.2.1⟩
    | cons v Q =>
     obtain ⟨gQ,oQ,cap,hv,hg1,hg2,hg3,hg4,hcell⟩:=hown.out.form (by simp)
     cases hv
     have hc0:=hcell 0 (.int .i64 (v:Int)) rfl
     simp only [Nat.add_zero] at hc0
     have Hcell:=Lib.hid hcell
     obtain ⟨d,hd⟩:=hinv.out.qin v (by simp)
     have hvl:v < g.ports.length:=by rw [<- hinv.out.len]; exact (List.getElem?_eq_some_iff.1 hd).1
     obtain ⟨q0,q1,hbw,hsz⟩:=box2 hbel.out
     obtain ⟨b2,off2,lv,rfl,hb2,hclw,hls⟩:=yei Hp.out (List.getElem?_eq_getElem hvl)
     have hcl:=ybr hbw _ _ hclw
     clear hclw
     obtain ⟨A3,c3,rfl,hl1,hl2⟩:=ybf hls
     obtain ⟨ls,hle⟩:∃ ls,g.ports[v] = ls:=⟨_,rfl⟩
     have Hlp:=Lib.hid (show g.ports[v]? = some ls by rw [List.getElem?_eq_getElem hvl,hle])
     rw [hle] at hls hcl hl1
     have Hls:=Lib.hid hls
     have Hin:=Lib.hid (hinv.out.pop hd ls)
     have Hbw:=Lib.hid hbw
     clear hle hls hbw hcell hinv hd
     simp only [List.length_cons] at hq hg3 hown hc0
     obtain ⟨i0,hi0,hz0,hz1,hz2⟩:=info_parts ywb
     obtain ⟨vQ,hsl,hoQ,hobQ⟩:=ybww (P:=Tryz.prog) Tryz.underlying22 hi0 hz1 hown.out (k:=1) (by simp) (by simp)
     simp only [Nat.add_sub_cancel,Nat.mul_one,List.map_cons,List.drop_succ_cons,List.drop_zero] at hoQ
     have hsl':∀ W,(Instr.slice 22 (.slice (some ⟨gQ,oQ,none⟩) (Q.length + 1) cQ) (some (.int .i64 1)) none none).run Tryz.prog W = .ok vQ W:=fun W=>by simpa using hsl W
     have HoQ:=Lib.hid hoQ
     have Hi0:=Lib.hid (show _ /\ _ /\ _ /\ _ from ⟨hi0,hz0,hz1,hz2⟩)
     clear hoQ hown hsl hobQ hi0 hz0 hz1 hz2
     unfold maxLen at hg4
     go_wp2
     clear hsl'
     obtain ⟨go,rfl⟩:∃ go,go = gk:=⟨_,rfl⟩
     go_loopg [43,7] ls.length (fun q t tq wr=>∃ (k:Nat) (R:List Int) (Q:List Nat),q + k = ls.length /\ t = .int .i64 k /\ Hid (go = Q.length + 1 + yhu R) /\ Hid (Below (w.heap.size + 1) (w.alloc (.cells #[i,.slice (some ⟨b2,off2,none⟩) g.ports.length c2] 28)) wr) /\ Hid (IBlk wr (w.heap.size + 1) R) /\ Hid (BfsIn g a v d ls k R Q) /\ Hid (Owns wr (w.heap.size + 2) 3 1 tq Q.length (Q.map (fun q:Nat=>Value.int .i64 (q:Int)))))
     case atStart=>exact ⟨0,R,Q,by omega,rfl,Lib.hid (by omega),hbel,hblk,Hin,HoQ⟩
     case round =>
      clear hbel hblk Hin HoQ hq hcl q0 q1 Hbw hsz
      obtain ⟨k,R,Q,hq,rfl,Hgk,hbel,hblk,Hin,HoQ⟩:=hrel
      by_cases hlt:k < ls.length
      ·obtain ⟨q0,q1,hbw,hsz⟩:=box2 hbel.out
       have Hbw:=Lib.hid hbw
       obtain ⟨A4,c4,e4,_,_,hE⟩:=Hls.out.below Stable.link hbw
       cases e4
       obtain ⟨b3,off3,rfl,hb3,hE⟩:=hE (by omega)
       obtain ⟨⟨l1,wt⟩,hle⟩:∃ l,ls[k] = l:=⟨_,rfl⟩
       have hl?:ls[k]? = some (l1,wt):=by rw [List.getElem?_eq_getElem hlt,hle]
       obtain ⟨hx1,hx2,⟨hr1,hr2⟩,⟨hr3,hr4⟩⟩:=hE k _ hl?
       obtain ⟨k1,k2,k3,k4,k5⟩:=Hgood.out.link Hlp.out (List.mem_of_getElem? hl?)
       simp only at k1 k2 k3 k4 k5 hx1 hx2 hr1 hr2 hr3 hr4
       obtain ⟨u,rfl⟩:=Int.eq_ofNat_of_zero_le k1
       have hul:u < R.length:=by rw [Hin.out.len]; omega
       have hvR:v < R.length:=by rw [Hin.out.len]; omega
       have hRv:R[v]? = some (d:Int):=Hin.out.rv
       have hcv:=hblk.out.cell hvR
       rw [show R[v] = (d:Int) by have:=List.getElem?_eq_getElem hvR; rw [hRv] at this; exact (Option.some.inj this).symm] at hcv
       have hcu:=hblk.out.cell hul
       have hfu:=hblk.out.frozen u
       have hd24:d < g.ports.length:=by
        rcases Hin.out.val v _ hRv with e | ⟨k',e,h1,h2⟩
        ·omega
        ·obtain rfl:d = k':=by omega
         exact yve Hgood.out ha h1 h2
       have hle1:ls[k].1 = (u:Int):=by rw [hle]
       have hRu:R[u]? = some R[u]:=List.getElem?_eq_getElem hul
       have hB:w.heap.size + 1 < wr.heap.size:=hblk.out.lt
       clear hE hl? hle hbw k1 k3 hRv
       by_cases hneg:R[u] < 0
       ·have hRm:R[u]? = some (-1):=by
         rcases Hin.out.val u _ hRu with e | ⟨k',e,_⟩
         ·exact hRu.trans (congrArg some e)
         ·exact absurd e (by omega)
        have Hd:=Lib.hid (Hin.out.discover Hlp.out hlt hle1 hRm)
        have Hun:=Lib.hid (ybca (R:=R) (u:=u) (x:=(d:Int) + 1) hRm (by omega))
        clear hRu hRm hle1
        go_wp2
        go_region
        go_wp2_with (at_builtin; refine ygu _ rfl _ _ 22 rfl (w.heap.size + 2) 3 i0 (.int .i64 0) 1 8 Tryz.underlying22 Hi0.out.1 Hi0.out.2.1 Hi0.out.2.2.1 Hi0.out.2.2.2 rfl (by decide) u7 Q.length (Q.map (fun q:Nat=>Value.int .i64 (q:Int))) (by rfl) ?hown _ 1 1 [.int .i64 (u:Int)] (by rfl) rfl ?c1 ?c2 ?c3 ?c4 ?c5 ?_)
        case hown=>exact (((HoQ.out.low (p:=⟨w.heap.size + 1,u,none⟩) (by simp) _).alloc _).alloc _).drew
        case c1=>exact ybgl (by simp)
        case c2=>simp [Value.oneCell']
        case c3=>have:=Hgk.out; simp only [maxLen]; omega
        case c4=>have:=Hgk.out; omega
        case c5=>simp; omega
        intro vQ' w' hown' hgr hob
        have hgo:=Hgk.out
        have Hown:=Lib.hid hown'
        have Hgr:=Lib.hid hgr
        clear hown' hgr hob
        go_wp2
        go_roundg (gk - 1)
        case measure=>omega
        case rel =>
         have hb1:=(((hbel.out.setCell (p:=⟨w.heap.size + 1,u,none⟩) (by simp) (.int .i64 ((d:Int) + 1))).alloc (by simp; omega) (.cells #[.int .i64 (u:Int),.int .i64 wt] 43)).alloc (by simp; omega) (.cells #[.int .i64 (u:Int)] 3)).drew
         have hk1:=((((hblk.out.set_ u ((d:Int) + 1)).alloc (.cells #[.int .i64 (u:Int),.int .i64 wt] 43)).alloc (.cells #[.int .i64 (u:Int)] 3)).drew)
         refine ⟨k + 1,R.set u ((d:Int) + 1),Q ++ [u],by omega,by go_num,Lib.hid ?_,Lib.hid (hb1.grown Hgr.out (by simp; omega) (fun x hx=>?_)),Lib.hid (hk1.grown Hgr.out (fun e=>?_)),Hd,Lib.hid ?_⟩
         ·have:=Hun.out; simp; omega
         ·have:=(HoQ.out.lt hx).1; omega
         ·have:=(HoQ.out.lt e.symm).1; omega
         ·have:=Hown.out
          simpa using this
       ·have hpos:0 <= R[u]:=by omega
        obtain ⟨j,hj⟩:=Int.eq_ofNat_of_zero_le hpos
        have Hsk:=Lib.hid (Hin.out.skip hlt (j:=j) (by rw [hle1,Int.toNat_natCast,hRu,hj]))
        clear hRu hle1 hj
        go_wp2
        have hgo:=Hgk.out
        go_roundg (gk - 1)
        case measure=>omega
        case rel=>exact ⟨k + 1,R,Q,by omega,by go_num,Hgk,Lib.hid (hbel.out.alloc (by omega) _),Lib.hid (hblk.out.alloc _),Hsk,Lib.hid (HoQ.out.alloc _)⟩
      ·obtain rfl:k = ls.length:=by omega
       go_wp2
       have hgo:=Hgk.out
       go_roundg (Q.length + yhu R)
       case measure=>omega
       case rel=>exact ⟨R,Q,rfl,by omega,hbel,hblk,Lib.hid (Hin.out.finish Hlp.out),HoQ⟩
end Go.Proofs.YtpngeppkgoaimaaGreatDoor

namespace Go.Proofs.YtpngeppkgoaimaaGreatDoor
open Go.RowKit

theorem yxl:Tryz.zeroCells177 = Array.replicate 256 (.bool false):=by kernel_rfl

def Seen (w:World) (g:Nat) (S:List Int):Prop:=∃ cur,w.heap[g]? = some (.cells cur 177 (0,0)) /\ cur.size = 256 /\ ∀ i:Nat,i < 256 -> cur[i]? = some (.bool (decide ((i:Int) ∈ S)))

theorem Seen.cell {w:World} {g:Nat} {S:List Int} (h:Seen w g S) {i:Nat} (hi:i < 256):w.cell? ⟨g,i,none⟩ = some (.bool (decide ((i:Int) ∈ S))):=by
 obtain ⟨cur,h1,h2,h3⟩:=h
 simp [World.cell?,h1,h3 i hi]
theorem Seen.frozen {w:World} {g:Nat} {S:List Int} (h:Seen w g S) (i:Nat):w.frozen? ⟨g,i,none⟩ = false:=by
 obtain ⟨cur,h1,h2,h3⟩:=h
 simp [World.frozen?,h1]
theorem Seen.set_ {w:World} {g:Nat} {S:List Int} (h:Seen w g S) {i:Nat}:Seen (w.setCell ⟨g,i,none⟩ (.bool true)) g (S ++ [(i:Int)]):=by
 obtain ⟨cur,h1,h2,h3⟩:=h
 refine ⟨cur.setIfInBounds i (.bool true),by simp [World.setCell,Array.getElem?_modify,h1],by simp [h2],fun j hj=>?_⟩
 rw [Array.getElem?_setIfInBounds]
 split
 ·subst_vars
  rw [if_pos (by omega)]
  simp
 ·rw [h3 j hj]
  congr 3
  simp
  omega

theorem Seen.start (w:World):Seen (w.alloc (.cells Tryz.zeroCells177 177)) w.heap.size []:=by
 refine ⟨_,heap_alloc_new w _,by rw [yxl]; simp,fun i hi=>?_⟩
 rw [yxl]
 simp [hi]

def ybew (ids:List Int):Bool:=decide ((∀ x ∈ ids,0 <= x /\ x <= 255) /\ ids.Nodup)
def yrw (ids:List Int) (k:Nat):Prop:=(∀ x ∈ ids.take k,0 <= x /\ x <= 255) /\ (ids.take k).Nodup
theorem ybqc {ids:List Int} {k:Nat} (hk:k < ids.length):yrw ids (k + 1) ↔ yrw ids k /\ (0 <= ids[k] /\ ids[k] <= 255) /\ ids[k] ∉ ids.take k:=by
 unfold yrw
 rw [take_snoc ids k hk,List.nodup_append]
 constructor
 ·rintro ⟨h1,h2,_,h3⟩
  exact ⟨⟨fun x hx=>h1 x (List.mem_append_left _ hx),h2⟩,h1 _ (List.mem_append_right _ (by simp)),fun hm=>h3 _ hm _ (by simp) rfl⟩
 ·rintro ⟨⟨h1,h2⟩,h3,h4⟩
  refine ⟨fun x hx=>?_,h2,by simp,fun a ha b hb e=>?_⟩
  ·rcases List.mem_append.1 hx with hx | hx
   ·exact h1 x hx
   ·simp at hx; subst hx; exact h3
  ·simp at hb; subst hb e; exact h4 ha
theorem ybev {ids:List Int} {k:Nat} (h:¬ yrw ids k):ybew ids = false:=by
 unfold ybew
 rw [decide_eq_false_iff_not]
 exact fun hd=>h ⟨fun x hx=>hd.1 x (List.mem_of_mem_take hx),hd.2.sublist (List.take_sublist _ _)⟩
theorem ybjk {ids:List Int} (h:yrw ids ids.length):ybew ids = true:=by
 unfold yrw at h
 rw [List.take_length] at h
 exact decide_eq_true h

set_option maxRecDepth 100000 in
set_option maxHeartbeats 1000000 in
theorem yov (iv:Value) (ids:List Int) (w:World) (hi:yen w iv ids) :
  Calls Tryz.prog 115 #[iv] w fun e w'=>e = .returned (.bool (ybew ids)) /\ Below w.heap.size w w':=by
 obtain ⟨A,c,rfl,hA1,hA2⟩:=ybf hi
 have Hi:=Lib.hid hi
 clear hi
 go_enter Tryz.func115,Tryz.ntmps115
 go_wp2
 go_loopg [8] ids.length (fun q t wr=>∃ k:Nat,q + k = ids.length /\ t = .int .i64 k /\ Hid (Below w.heap.size w wr) /\ Hid (Seen wr w.heap.size (ids.take k)) /\ Hid (yrw ids k))
 case atStart=>exact ⟨0,by omega,rfl,Lib.hid ((Below.refl _ _).alloc (Nat.le_refl _) _),Lib.hid (Seen.start w),Lib.hid ⟨by simp,by simp⟩⟩
 case round =>
  obtain ⟨k,hq,rfl,hbel,hseen,hok⟩:=hrel
  by_cases hlt:k < ids.length
  ·obtain ⟨b,off,rfl,hb,hcid,hr⟩:=ydf (Hi.out.below Stable.int hbel.out) hlt
   obtain ⟨x,hx⟩:∃ x,ids[k] = x:=⟨_,rfl⟩
   have Hsn:=Lib.hid (ybqc hlt)
   rw [hx] at hcid hr Hsn
   obtain ⟨hr1,hr2⟩:=hr
   have Hbad:=Lib.hid (fun h=>ybev (ids:=ids) (k:=k + 1) h)
   have Hts:=Lib.hid (take_snoc ids k hlt)
   rw [hx] at Hts
   clear hx
   by_cases c1:0 <= x /\ x <= 255
   ·obtain ⟨c1a,c1b⟩:=c1
    obtain ⟨n,rfl⟩:=Int.eq_ofNat_of_zero_le c1a
    have hcs:=hseen.out.cell (i:=n) (by omega)
    have hfs:=hseen.out.frozen n
    by_cases c2:(n:Int) ∈ ids.take k
    ·rw [decide_eq_true c2] at hcs
     have Hf:=Lib.hid (Hbad.out (fun h=>(Hsn.out.1 h).2.2 c2))
     clear c2
     go_wp2
     go_ret
     exact ⟨yx Hf.out.symm,hbel.out⟩
    ·rw [decide_eq_false c2] at hcs
     have Hn:=Lib.hid (Hsn.out.2 ⟨hok.out,⟨by omega,by omega⟩,c2⟩)
     clear c2
     go_wp2
     go_roundg (gk - 1)
     case measure=>omega
     case rel =>
      refine ⟨k + 1,by omega,by go_num,Lib.hid (hbel.out.setCell (Nat.le_refl _) _),Lib.hid ?_,Hn⟩
      rw [Hts.out]
      exact hseen.out.set_
   ·have Hf:=Lib.hid (Hbad.out (fun h=>c1 (Hsn.out.1 h).2.1))
    by_cases c3:x < 0
    ·clear c1
     go_wp2
     go_ret
     exact ⟨yx Hf.out.symm,hbel.out⟩
    ·have c4:255 < x:=by omega
     clear c1
     go_wp2
     go_ret
     exact ⟨yx Hf.out.symm,hbel.out⟩
  ·obtain rfl:k = ids.length:=by omega
   have Ht:=Lib.hid (ybjk hok.out)
   go_wp2
   go_ret
   exact ⟨yx Ht.out.symm,hbel.out⟩

theorem ybky (g:Gr) (h1:1 <= g.ids.length) (h2:g.ids.length <= 24) (h3:g.ports.length = g.ids.length):ych g = (ybew g.ids && symB g.ports):=by
 unfold ych ybew symB
 rw [<- Bool.decide_and]
 congr 1
 apply propext
 unfold ybc ybys
 constructor
 ·rintro ⟨_,_,_,h4,h5,h6,h7⟩
  exact ⟨⟨h4,h5⟩,h6,h7⟩
 ·rintro ⟨⟨h4,h5⟩,h6,h7⟩
  exact ⟨by omega,by omega,by omega,h4,h5,h6,h7⟩

set_option maxHeartbeats 1000000 in
theorem ygb (gv:Value) (g:Gr) (w:World) (hg:GrAt w gv g) :
  Calls Tryz.prog 84 #[gv] w fun e w'=>e = .returned (.bool (ych g)) /\ Below w.heap.size w w':=by
 obtain ⟨i,p,rfl,hi,hp⟩:=hg
 obtain ⟨A,c,rfl,hA1,hA2⟩:=ybf hi
 obtain ⟨A2,c2,rfl,hB1,hB2⟩:=ybf hp
 have Hi:=Lib.hid hi
 have Hp:=Lib.hid hp
 clear hi hp
 by_cases n1:1 <= g.ids.length
 ·by_cases n2:g.ids.length <= 24
  ·by_cases n3:g.ports.length = g.ids.length
   ·have n3':((g.ports.length:Int) != (g.ids.length:Int)) = false:=by simp [n3]
    have He:=Lib.hid (ybky g n1 n2 n3)
    have n3a:g.ports.length <= 24:=by omega
    clear n3
    go_enter Tryz.func84,Tryz.ntmps84
    go_wp2_with fail
    refine (yov _ g.ids _ (Hi.out.below Stable.int ((Below.refl _ _).alloc (Nat.le_refl _) _))).mono ?_
    rintro e w1 ⟨rfl,hb1⟩
    have Hb1:=Lib.hid (ycr hb1)
    obtain ⟨q0,q1⟩:=ymj hb1
    clear hb1
    cases hd:ybew g.ids with
    | false =>
     have Hv:=Lib.hid (show ych g = false by rw [He.out,hd]; rfl)
     go_wp2_with fail
     go_ret
     exact ⟨yx Hv.out.symm,Hb1.out⟩
    | true =>
     have Hv:=Lib.hid (show ych g = symB g.ports by rw [He.out,hd]; rfl)
     go_wp2_with fail
     refine (ylc _ g.ports _ (Hp.out.below (Stable.sl Stable.link) Hb1.out) (by omega)).mono ?_
     rintro e w2 ⟨rfl,hb2⟩
     go_wp2_with fail
     go_ret
     exact ⟨yx Hv.out.symm,Hb1.out.trans (hb2.mono Hb1.out.size)⟩
   ·have n3':((g.ports.length:Int) != (g.ids.length:Int)) = true:=by simp; omega
    have Hf:=Lib.hid (ydq (g:=g) (fun h=>n3 h.2.2.symm))
    clear n3
    go_enter Tryz.func84,Tryz.ntmps84
    go_wp2
    go_ret
    exact ⟨yx Hf.out.symm,(Below.refl _ _).alloc (Nat.le_refl _) _⟩
  ·have Hf:=Lib.hid (ydq (g:=g) (fun h=>n2 (by omega)))
   go_enter Tryz.func84,Tryz.ntmps84
   go_wp2
   go_ret
   exact ⟨yx Hf.out.symm,(Below.refl _ _).alloc (Nat.le_refl _) _⟩
 ·have Hf:=Lib.hid (ydq (g:=g) (fun h=>n1 (by omega)))
  go_enter Tryz.func84,Tryz.ntmps84
  go_wp2
  go_ret
  exact ⟨yx Hf.out.symm,(Below.refl _ _).alloc (Nat.le_refl _) _⟩
end Go.Proofs.YtpngeppkgoaimaaGreatDoor

namespace Go.Proofs.YtpngeppkgoaimaaGreatDoor
namespace Sh
open Go Ev Go.RowKit
set_option maxRecDepth 8000
theorem yhm {x:Int} (h:-4611686018427387904 <= x /\ x <= 4611686018427387904):I64 x:=by
 unfold I64; omega
theorem ybdj {g:Gr} (hg:ybc g):GrI g:=by
 obtain ⟨h1,h2,h3,h4,h5,h6,h7⟩:=hg
 refine ⟨fun x hx=>yhm (by have:=h4 x hx; omega),fun ls hls l hl=>?_⟩
 obtain ⟨v,hv,rfl⟩:=List.getElem_of_mem hls
 obtain ⟨a1,a2,a3,a4,a5⟩:=(h6 ⟨v,hv⟩).1 l hl
 exact ⟨yhm (by omega),yhm (by omega)⟩
theorem ybkh {g:Gr} (hI:GrI g):Returns Tryz.prog 84 [grV g] (.b (ych g)):=by
 refine yom ⟨_,_,Tryz.func84,rfl⟩ (fun _=>.b) (fun _=>.simple rfl) fun G m us hG hr φ M w us' hR hs hv=>?_
 obtain ⟨u,rfl,h1⟩:=rvl1 hr
 obtain ⟨u',rfl,h2⟩:=yfi hv
 exact ygb u' g w (ybbw hG h1 h2 hR hs hI)
end Sh
end Go.Proofs.YtpngeppkgoaimaaGreatDoor

namespace Go.Proofs.YtpngeppkgoaimaaGreatDoor
namespace Sh
open Go Ev Go.RowKit
set_option maxRecDepth 8000

theorem ybnt {g:Gr} (hg:ybc g) {x:VarR} (hx:x.ok = true) (v:Nat):-4096 <= (ybd g v x).1 /\ (ybd g v x).2 <= 100000:=by
 obtain ⟨h1,h2,h3,h4,h5⟩:=ybbl hx
 obtain ⟨h6,h7⟩:=yll hg hx
 have h8:=hg.deg_lt (v:=v)
 unfold ybd
 split
 ·exact ⟨by simp only []; omega,by simp only []; omega⟩
 ·split
  ·exact ⟨by simp only []; omega,by simp only []; omega⟩
  ·split
   ·exact ⟨by simp only []; omega,by simp only []; omega⟩
   ·exact ⟨by simp only []; omega,by simp only []; omega⟩
theorem ygn {p:ProgT} {g:Gr} (hg:ybc g) (hp:p.ok = true) {c:Conf} (hc:ycs p g c = true):ConfIn g.ports.length p.vars.length c:=by
 have h:=(yfb _ _ _).1 hc
 have hp':=hp
 unfold ProgT.ok at hp'
 simp only [Bool.and_eq_true,decide_eq_true_eq] at hp'
 refine ⟨h.1.trans hg.2.2.1,fun s hs=>?_⟩
 obtain ⟨v,hv,rfl⟩:=List.getElem_of_mem hs
 have h2:=h.2 v _ (List.getElem?_eq_getElem hv)
 have hl:(c[v]).length = p.vars.length:=by have:=h2.1; simpa using this
 refine ⟨hl,fun x hx=>?_⟩
 obtain ⟨i,hi,rfl⟩:=List.getElem_of_mem hx
 have hi':i < p.vars.length:=by omega
 have h3:=h2.2 i (ybd g v p.vars[i]) _ (by simp [hi']) (List.getElem?_eq_getElem hi)
 have h4:=ybnt hg (List.all_eq_true.1 hp'.1.1.2 _ (List.getElem_mem hi')) v
 unfold InB
 omega
structure Checked (Q1 Q2:(Nat -> Option ABlk) -> Value -> Prop) (p:ProgT) (g:Gr):Prop where
 hg:ybc g
 hp:p.ok = true
 hf:yut p g = true
 hV:Returns Tryz.prog 169 [.ag (ydh Q1 Q2 p.raw)] (.b true)
theorem Checked.gv {Q1 Q2:(Nat -> Option ABlk) -> Value -> Prop} {p:ProgT} {g:Gr} (h:Checked Q1 Q2 p g):Returns Tryz.prog 84 [grV g] (.b true):=by
 have e:=ybkh (ybdj h.hg)
 rw [(ybz g).2 h.hg] at e
 exact e
section
variable {Q1 Q2:(Nat -> Option ABlk) -> Value -> Prop} {p:ProgT} {g:Gr}
theorem ybac (h:Checked Q1 Q2 p g) (c:Conf):Returns Tryz.prog 102 [.ag (ydh Q1 Q2 p.raw),grV g,ybg c] (.i .i64 (if ycs p g c then 0 else 10)):=by
 refine Returns.of (ycnx _ _ ?_)
 have hp':=h.hp
 unfold ProgT.ok at hp'
 simp only [Bool.and_eq_true,decide_eq_true_eq] at hp'
 have hid:=h.hg.2.2.1
 have h24:=h.hg.2.1
 have hF:=ybuy p h.hg h.hp h.hf h.hV h.gv
 have hT:=ybbd p.raw h.hg hp'.1.1.2 hp'.1.1.1.2
 have hW:=ybis (n:=g.ids.length) p.vars (by omega) (ybd g) c (by omega)
 simp only [ydh,grV] at hF hT
 simp only [c102,ycfn,ycij,ydh,grV,go_sem,Nat.reduceEqDiff,Nat.reduceAdd,Nat.reduceLT,↓reduceIte,reduceCtorEq]
 refine hF.use ?_
 simp only [thenO,ycms,ycan,ycgj,go_sem,Nat.reduceEqDiff,Nat.reduceAdd,↓reduceIte,reduceCtorEq]
 refine ⟨fun h=>absurd rfl h,hT.useS ?_ ?_⟩
 ·exact ⟨yqw ⟨Sim.refl _,ylq _ _,ylq _ _,trivial⟩,Sim.refl _,trivial⟩
 simp only [yih] at hW ⊢
 simp only [go_sem,↓reduceIte]
 refine hW.use ?_
 simp only [go_sem]
 have hcf:∀ b,yor g.ids.length (fun v=>p.vars.map (ybd g v)) c = b -> ycs p g c = b:=fun b h=>h
 refine ⟨fun h1=>?_,fun h1=>?_⟩
 ·simp only [ycik,hcf _ h1,yu,go_sem,↓reduceIte]
 ·simp only [ycgk,hcf _ h1,yu,go_sem,↓reduceIte]
theorem ybig (h:Checked Q1 Q2 p g) (c:Conf):Returns Tryz.prog 63 [.ag (ydh Q1 Q2 p.raw),grV g,ybg c] (.b (ycs p g c)):=by
 refine Returns.of (ycuy _ _ ?_)
 have hC:=ybac h c
 simp only [ydh,grV] at hC
 simp only [c63,ycvo,yczh,ydh,grV,go_sem,Nat.reduceEqDiff,Nat.reduceAdd,Nat.reduceLT,↓reduceIte,reduceCtorEq]
 refine hC.use ?_
 simp only [thenO,sim_b,go_sem,Nat.reduceEqDiff,Nat.reduceAdd,↓reduceIte,reduceCtorEq]
 cases ycs p g c <;> rfl
theorem yiv (h:Checked Q1 Q2 p g) {c:Conf} (hc:ycs p g c = true):Returns Tryz.prog 27 [.ag (ydh Q1 Q2 p.raw),grV g,ybg c] (.i .u32 (ybk p g c)):=by
 refine Returns.of (ycvm _ _ ?_)
 have hp':=h.hp
 unfold ProgT.ok at hp'
 simp only [Bool.and_eq_true,decide_eq_true_eq] at hp'
 have hM:=ybig h c
 rw [hc] at hM
 have hN:=yog p.raw h.hg hp'.1.1.2 hp'.1.1.1.2
 have hE:=yiz p h.hg h.hp (ygn h.hg h.hp hc)
 simp only [ydh,grV] at hM hN
 simp only [c27,ydda,ydcq,ydh,grV,go_sem,Nat.reduceEqDiff,Nat.reduceAdd,Nat.reduceLT,↓reduceIte,reduceCtorEq]
 refine hM.use ?_
 simp only [thenO,ydee,ydch,go_sem,Nat.reduceEqDiff,Nat.reduceAdd,↓reduceIte,reduceCtorEq]
 refine hN.useS ?_ ?_
 ·exact ⟨yqw ⟨Sim.refl _,ylq _ _,ylq _ _,trivial⟩,Sim.refl _,trivial⟩
 simp only [go_sem,↓reduceIte]
 refine hE.use ?_
 simp only [go_sem]
 exact Sim.refl _
theorem ybie (k:Int):Returns Tryz.prog 118 [.i .i64 k] (.b (decide (1 <= k) && decide (k <= 4))):=by
 refine Returns.of (ycsg _ _ ?_)
 simp only [c118,ycgv,yclk,sim_b,go_sem,Nat.reduceEqDiff,Nat.reduceAdd,↓reduceIte,reduceCtorEq]
 by_cases h:k >= 1 <;> simp [h]

end
end Sh
end Go.Proofs.YtpngeppkgoaimaaGreatDoor

namespace Go.Proofs.YtpngeppkgoaimaaGreatDoor
open Go

theorem yld (s a:Nat):∀ b,yfo s (a + b) = yfo s a + yfo (s >>> a) b
 | 0=>rfl
 | b + 1=>by
  show yfo s (a + b) + (s.testBit (a + b)).toNat = _
  rw [yld s a b]
  show _ = yfo s a + (yfo (s >>> a) b + ((s >>> a).testBit b).toNat)
  rw [Nat.testBit_shiftRight]
  omega
theorem yne (s:Nat):∀ b,b <= 8 -> yfo (s &&& 255) b = yfo s b
 | 0,_=>rfl
 | b + 1,h=>by
  show yfo _ b + _ = yfo s b + _
  rw [yne s b (by omega),Nat.testBit_and,show (255:Nat) = 2 ^ 8 - 1 from rfl,Nat.testBit_two_pow_sub_one]
  simp [show b < 8 by omega]
theorem ybhy (s:Nat):popP s = yfo (s >>> 24 &&& 255) 8 + yfo (s >>> 16 &&& 255) 8 + yfo (s >>> 8 &&& 255) 8 + yfo (s &&& 255) 8:=by
 simp only [yne _ 8 (Nat.le_refl _)]
 have h1:=yld s 8 24
 have h2:=yld (s >>> 8) 8 16
 have h3:=yld (s >>> 8 >>> 8) 8 8
 simp only [<- Nat.shiftRight_add,Nat.reduceAdd] at h1 h2 h3
 unfold popP
 omega
namespace Sh
open Ev Go.RowKit
set_option maxRecDepth 8000
theorem ywd:∀ k,k < 256 -> ytj.getD k 0 = yfo k 8:=by decide
theorem ycov:ytj.length = 256:=by decide
theorem ycqu (a v:Nat):(a:Int).fdiv (2 ^ v) = ((a >>> v:Nat):Int):=by
 have h:=yboo (a:=a) (v:=v)
 rwa [Int.toNat_natCast] at h
theorem ycdp {a:Nat} (ha:a < 2 ^ 32):IntKind.wrap .u32 (((BitVec.ofInt (IntKind.bits .u32) (a:Int)) &&& BitVec.ofInt (IntKind.bits .u32) 255).toNat:Int) = ((a &&& 255:Nat):Int):=u32_and (b:=255) ha (by decide)
theorem ydcj {a n:Nat} (h:a < 2 ^ 32):a >>> n < 2 ^ 32:=by rw [Nat.shiftRight_eq_div_pow]; exact Nat.lt_of_le_of_lt (Nat.div_le_self _ _) h
theorem ybza {s:Nat} (hs:s < 2 ^ 32):Returns Tryz.prog 179 [.i .u32 s] (.i .i64 (popP s)):=by
 refine Returns.of (ycqj _ _ ?_)
 simp only [c179,ycly,ybzu,clash,go_sem,Int.reduceToNat,Nat.reduceEqDiff,Nat.reduceAdd,↓reduceIte,reduceCtorEq]
 have f1:=ycdp hs
 have f2:=fun n=>ycdp (ydcj (n:=n) hs)
 simp only [IntKind.bits] at f1 f2
 simp only [ycqu,f1,f2,Int.toNat_natCast,ycov]
 have hp:=ybhy s
 have l1:s >>> 24 < 256:=by rw [Nat.shiftRight_eq_div_pow]; omega
 have b1:∀ x:Nat,x &&& 255 < 256:=fun x=>Nat.lt_of_le_of_lt Nat.and_le_right (by omega)
 rw [yne (s >>> 24) 8 (Nat.le_refl _)] at hp
 rw [ywd _ l1,ywd _ (b1 (s >>> 16)),ywd _ (b1 (s >>> 8)),ywd _ (b1 s)]
 have q1:=yji (s >>> 24) 8
 have q2:=yji (s >>> 16 &&& 255) 8
 have q3:=yji (s >>> 8 &&& 255) 8
 have q4:=yji (s &&& 255) 8
 have w1:=b1 (s >>> 16)
 have w2:=b1 (s >>> 8)
 have w3:=b1 s
 have u8k:∀ x:Int,0 <= x -> x <= 255 -> inK .u8 x:=fun x h1 h2=>⟨by simpa [IntKind.min,IntKind.signed] using h1,by simpa [IntKind.max,IntKind.bits,IntKind.signed] using h2⟩
 refine ⟨⟨by omega,by decide⟩,⟨by omega,by omega⟩,⟨by omega,by decide⟩,by omega,u8k _ (by omega) (by omega),⟨by omega,by decide⟩,by omega,u8k _ (by omega) (by omega),by omega,u8k _ (by omega) (by omega),?_⟩
 rw [wrap_in (ikw (by omega) (by omega)),hp]
 exact Sim.refl _
def cntV (k:Cnt):List SV:=[.i .i64 k.steps,.i .i64 k.moves,.i .i64 k.rounds,.i .i64 k.begun,.i .u32 k.pend]
theorem ybsi {e:Nat} (he:e < 2 ^ 24):Returns Tryz.prog 145 [.i .u32 e] (.ag (cntV (ydd e))):=by
 refine Returns.of (ycry _ _ ?_)
 simp only [c145,ycad,yckh,go_sem,Nat.reduceEqDiff,Nat.reduceAdd,Nat.reduceLT,↓reduceIte,reduceCtorEq]
 have e1:e &&& 16777215 = e:=by rw [show (16777215:Nat) = 2 ^ 24 - 1 from rfl,Nat.and_two_pow_sub_one_of_lt_two_pow he]
 have e2:IntKind.wrap .u32 (((BitVec.ofInt (IntKind.bits .u32) (e:Int)) &&& BitVec.ofInt (IntKind.bits .u32) 16777215).toNat:Int) = ((e &&& 16777215:Nat):Int):=u32_and (b:=16777215) (by omega) (by decide)
 simp only [IntKind.bits] at e2
 rw [e2,e1]
 exact Sim.refl _
def usV (l:List Nat):SV:=.sl 1 l.length (fun k=>[.i .u32 ((l.getD k 0:Nat):Int)])
theorem ydeq {a:Nat} (ha:a < 2 ^ 24):IntKind.wrap .u32 (((BitVec.ofInt (IntKind.bits .u32) (a:Int)) &&& ~~~BitVec.ofInt (IntKind.bits .u32) 16777215).toNat:Int) = 0:=by
 have h:=u32_andNot (a:=a) (b:=16777215) (by omega) (by decide)
 have e:difB a 16777215 = 0:=by
  rw [ycu]
  intro i
  rw [yjk,show (16777215:Nat) = 2 ^ 24 - 1 from rfl,Nat.testBit_two_pow_sub_one]
  by_cases hi:i < 24
  ·simp [hi]
  ·rw [Nat.testBit_lt_two_pow (Nat.lt_of_lt_of_le ha (Nat.pow_le_pow_right (by omega) (by omega)))]
   rfl
 rw [e] at h
 exact h
theorem possible_ret (l:List Nat) (hl:l.length <= 10) (h:∀ k,k < l.length -> l.getD k 0 < 2 ^ 24):Returns Tryz.prog 178 [usV l] (.b true):=by
 refine Returns.of (ycpi _ _ ?_)
 simp only [c178,ycef,ycjf,usV,go_sem,Nat.reduceAdd,↓reduceIte,reduceCtorEq]
 refine ybe (σ:=Nat) (fun k=>⟨[(7,.i .i64 k),(6,.i .i64 l.length),(5,usV l)],[]⟩) (fun k=>k <= l.length) (fun k=>l.length - k) 0 (Nat.zero_le _) ?_ ?_
 ·refine yg [] [] [] ?_
  simp only [usV,allQ,live,yc,Int.natCast_zero,go_sem,Nat.reduceEqDiff,↓reduceIte,reduceCtorEq]
 ·intro k hk
  simp only [ycfg,ycai,ycld,ycml,usV,go_sem,Nat.reduceEqDiff,Nat.reduceAdd,↓reduceIte,reduceCtorEq]
  refine ⟨fun hlt=>?_,fun hlt=>?_⟩
  ·have hk':k < l.length:=by omega
   have e0:=ydeq (h k hk')
   simp only [IntKind.bits] at e0
   rw [e0]
   refine ⟨⟨by omega,by omega⟩,fun h=>absurd rfl h,fun _=>?_⟩
   simp only [ycgt,go_sem,Nat.reduceEqDiff,Nat.reduceAdd,↓reduceIte,reduceCtorEq]
   refine ⟨ikw (by omega) (by omega),?_⟩
   refine yh (k + 1) (by omega) (by omega) ?_
   refine yg [] [] [] ?_
   simp only [allQ,live,yc,yu,go_sem,Nat.reduceEqDiff,↓reduceIte,reduceCtorEq]
   omega
  ·simp only [yclm,sim_b,go_sem,↓reduceIte]
theorem CValid_ret {k : Cnt} (hk : k.ok) (hs : k.steps <= 4096) : Returns Tryz.prog 177 [.ag (cntV k)] (.b true) := by
  refine Returns.of (c177_ok _ _ ?_)
  obtain ⟨h1, h2, h3, h4, h5, h6⟩ := hk
  have hP := possible_ret [k.pend] (by simp) (fun i hi => by have : i = 0 := by simp at hi; omega
                                                             subst this; exact h6)
  have f1 : decide ((k.steps : Int) < 0) = false := by simp
  have f2 : decide ((k.steps : Int) > 4096) = false := by simp; omega
  have f3 : decide ((k.rounds : Int) < 0) = false := by simp
  have f4 : decide ((k.rounds : Int) > k.begun) = false := by simp; omega
  have f5 : decide ((k.begun : Int) > k.steps) = false := by simp; omega
  have f6 : decide ((k.begun : Int) > k.rounds + 1) = false := by simp; omega
  have f7 : decide ((k.steps : Int) <= k.moves) = true := by simp; omega
  have f8 : decide ((k.moves : Int) <= 24 * k.steps) = true := by simp; omega
  simp (maxSteps := 5000000) only [c177, c177_0, c177_1, cntV, f1, f2, f3, f4, f5, go_sem, Nat.reduceEqDiff, Nat.reduceAdd, Nat.reduceLeDiff, Nat.reduceLT, ↓reduceIte, reduceCtorEq]
  simp only [c177_3, f6, go_sem, Nat.reduceEqDiff, Nat.reduceAdd, Nat.reduceLeDiff, ↓reduceIte, reduceCtorEq]
  refine ⟨ikw (by omega) (by omega), ?_⟩
  simp (maxSteps := 5000000) only [c177_5, f7, f8, go_sem, Nat.reduceEqDiff, Nat.reduceAdd, Nat.reduceLeDiff, Nat.reduceLT, ↓reduceIte, reduceCtorEq]
  refine ⟨ikw (by omega) (by omega), ?_⟩
  refine .inl ⟨fun q hq => ?_, hP.useS ?_ ?_⟩
  · obtain rfl : q = 0 := by omega
    simp only [go_sem]
  · exact ⟨sim_sl fun q hq => by obtain rfl : q = 0 := by omega
                                 rfl, trivial⟩
  simp only [thenO, sim_b, go_sem, Nat.reduceEqDiff, Nat.reduceAdd, ↓reduceIte, reduceCtorEq]
theorem ycqz {k:Cnt} (hk:k.ok) (hs:k.steps < 4096) {s e:Nat} (h0:s ≠ 0) (hs24:s < 2 ^ 24) (he:e < 2 ^ 24):Returns Tryz.prog 148 [.ag (cntV k),.i .u32 s,.i .u32 e] (.tp [.ag (cntV (addP k s e)),.i .i64 0]):=by
 refine Returns.of (ycpl _ _ ?_)
 have hV:=CValid_ret hk (by omega)
 have hO:=ybza (s:=s) (by omega)
 have hP:=possible_ret [s,e] (by simp) (fun i hi=>by
  have:i = 0 \/ i = 1:=by simp at hi; omega
  rcases this with rfl | rfl
  ·exact hs24
  ·exact he)
 obtain ⟨h1,h2,h3,h4,h5,h6⟩:=hk
 simp only [cntV] at hV
 simp only [c148,ycmj,ycfs,cntV,go_sem,Nat.reduceEqDiff,Nat.reduceAdd,Nat.reduceLT,↓reduceIte]
 refine hV.use ?_
 have z0:((s:Int) == 0) = false:=by simp; omega
 simp only [thenO,ycht,z0,go_sem,Nat.reduceEqDiff,Nat.reduceAdd,Nat.reduceLeDiff,Nat.reduceLT,↓reduceIte,reduceCtorEq]
 refine .inl ⟨fun q hq=>?_,hP.useS ?_ ?_⟩
 ·have:q = 0 \/ q = 1:=by omega
  rcases this with rfl | rfl
  ·simp only [go_sem]
  ·simp only [go_sem]
 ·exact ⟨sim_sl fun q hq=>by
   have:q = 0 \/ q = 1:=by omega
   rcases this with rfl | rfl <;> rfl,trivial⟩
 have z1:((k.steps:Int) == 4096) = false:=by simp; omega
 simp only [ycaa,ycnm,z1,go_sem,Nat.reduceEqDiff,Nat.reduceAdd,Nat.reduceLeDiff,↓reduceIte,reduceCtorEq]
 refine ⟨ikw (by omega) (by omega),?_⟩
 simp only [yccp,clash,go_sem,Nat.reduceEqDiff,Nat.reduceAdd,Nat.reduceLeDiff,↓reduceIte,reduceCtorEq]
 refine hO.use ?_
 have hpop:=ybqh s hs24
 have a1:=u32_andNot (a:=k.pend) (b:=s) (by omega) (by omega)
 have hd:difB k.pend s < 2 ^ 24:=ybdm h6
 have a2:=u32_and (a:=difB k.pend s) (b:=e) (by omega) (by omega)
 obtain ⟨P,hPe⟩:∃ P,difB k.pend s &&& e = P:=⟨_,rfl⟩
 rw [hPe] at a2
 simp only [IntKind.bits] at a1 a2
 simp only [thenO,go_sem,Nat.reduceEqDiff,Nat.reduceAdd,Nat.reduceLeDiff,↓reduceIte,reduceCtorEq]
 refine ⟨ikw (by omega) (by omega),?_⟩
 simp only [ycdc,ybpj,yboj,a1,a2,go_sem,Nat.reduceEqDiff,Nat.reduceAdd,Nat.reduceLeDiff,↓reduceIte,reduceCtorEq]
 refine ⟨by decide,ikw (by omega) (by omega),fun hP0=>?_,fun hP0=>?_⟩
 ·have hP1:P = 0:=by omega
  have ea:addP k s e = ⟨k.steps + 1,k.moves + popP s,k.rounds + 1,k.rounds + 1,e⟩:=by unfold addP; simp only [hPe,hP1,if_true]
  rw [ea]
  simp only [ybto,ybpi,ybbh,go_sem,Nat.reduceEqDiff,Nat.reduceAdd,Nat.reduceLeDiff,↓reduceIte,reduceCtorEq]
  exact Sim.refl _
 ·have hP1:¬ P = 0:=by omega
  have ea:addP k s e = ⟨k.steps + 1,k.moves + popP s,k.rounds,k.rounds + 1,P⟩:=by unfold addP; simp only [hPe,if_neg hP1]
  rw [ea]
  simp only [ybbh,go_sem,Nat.reduceEqDiff,Nat.reduceAdd,↓reduceIte]
  exact Sim.refl _
end Sh
end Go.Proofs.YtpngeppkgoaimaaGreatDoor

namespace Go.Proofs.YtpngeppkgoaimaaGreatDoor
open Go
def netP (ls:List (Int × Int)):Nat:=ls.foldl (fun a l=>a ||| 2 ^ l.1.toNat) 0
theorem ybmz (ls:List (Int × Int)) (k:Nat) (h:k < ls.length):netP (ls.take (k + 1)) = netP (ls.take k) ||| 2 ^ (ls.getD k (0,0)).1.toNat:=by
 unfold netP
 rw [List.take_succ_eq_append_getElem h,List.foldl_append,Sh.getD_at h]
 rfl
theorem yctf (ls:List (Int × Int)) (h:∀ l ∈ ls,l.1 < 24):netP ls < 2 ^ 24:=by
 unfold netP
 have:∀ (ls:List (Int × Int)) (a:Nat),(∀ l ∈ ls,l.1 < 24) -> a < 2 ^ 24 -> ls.foldl (fun a l=>a ||| 2 ^ l.1.toNat) a < 2 ^ 24:=by
  intro ls
  induction ls with
  | nil=>intro a _ h; exact h
  | cons l ls ih =>
   intro a hl ha
   refine ih _ (fun x hx=>hl x (List.mem_cons_of_mem _ hx)) (Nat.or_lt_two_pow ha ?_)
   have:=hl l List.mem_cons_self
   exact Nat.pow_lt_pow_right (by omega) (by omega)
 exact this ls 0 h (by decide)
namespace Sh
open Ev Go.RowKit
set_option maxRecDepth 8000
theorem u32k {a:Nat} (h:a < 2 ^ 32):inK .u32 (a:Int):=⟨by simp [IntKind.min,IntKind.signed],by simp [IntKind.max,IntKind.bits,IntKind.signed]; omega⟩
theorem ycqi {g:Gr} (hg:ybc g):Returns Tryz.prog 120 [grV g] (.i .u32 (2 ^ g.ids.length - 1:Nat)):=by
 refine Returns.of (ycsz _ _ ?_)
 have h3:=hg.2.2.1
 have h4:=hg.2.1
 simp only [c120,ycjl,ycdx,grV,yj,go_sem,Nat.reduceEqDiff,Nat.reduceAdd,Nat.reduceLeDiff,Nat.reduceLT,↓reduceIte,reduceCtorEq]
 have h5:=yvx (v:=g.ids.length) (by omega)
 rw [Int.toNat_natCast] at h5
 have h6:2 ^ g.ids.length < 2 ^ 32:=Nat.pow_lt_pow_right (by omega) (by omega)
 have h7:1 <= 2 ^ g.ids.length:=Nat.one_le_two_pow
 have h8:(((2 ^ g.ids.length:Nat):Int)) - 1 = ((2 ^ g.ids.length - 1:Nat):Int):=by omega
 rw [h5,h8]
 refine ⟨⟨by omega,by show _ < ((32:Nat):Int); omega⟩,u32k (by omega),Sim.refl _⟩
theorem ybju {g:Gr} (hg:ybc g):Returns Tryz.prog 119 [grV g] (usV (g.ports.map netP)):=by
 refine Returns.of (ycos _ _ ?_)
 have h3:=hg.2.2.1
 have h4:=hg.2.1
 simp only [c119,ycne,ycbf,ychk,grV,yj,yba,go_sem,Nat.reduceEqDiff,Nat.reduceAdd,Nat.reduceLT,↓reduceIte,reduceCtorEq]
 refine ⟨by omega,?_⟩
 obtain ⟨n,hn⟩:∃ n,g.ports.length = n:=⟨_,rfl⟩
 let val:Nat -> Nat -> Nat:=fun k i=>if i < k then netP (g.ports.getD i []) else 0
 refine ybe (σ:=Nat) (fun k=>⟨[(15,.i .i64 k),(14,.i .i64 n),(13,yba g.ports),(3,.os (11,0) 0 n true)],
  [(11,.one (some ⟨44,false,1,n,fun i=>[.i .u32 (val k i:Nat)]⟩))]⟩) (fun k=>k <= n) (fun k=>n - k) 0 (Nat.zero_le _) ?_ ?_
 ·refine yg [] [] [] ?_
  simp only [yba,hn,allQ,live,yc,yu,Int.natCast_zero,go_sem,Nat.reduceEqDiff,↓reduceIte,reduceCtorEq]
  simp [val]
 ·intro k hk
  obtain ⟨L,hL⟩:∃ L,g.ports.getD k [] = L:=⟨_,rfl⟩
  simp only [ychv,ycho,ycea,yba,ybb,hn,hL,go_sem,Nat.reduceEqDiff,Nat.reduceAdd,↓reduceIte,reduceCtorEq]
  refine ⟨fun hlt=>?_,fun hlt=>?_⟩
  ·have hk':k < n:=by omega
   have hkp:k < g.ports.length:=by omega
   have hlk:∀ l ∈ L,0 <= l.1 /\ l.1 < 24:=fun l hl=>by
    rw [<- hL,getD_at hkp] at hl
    obtain ⟨a1,a2,_⟩:=(hg.2.2.2.2.2.1 ⟨k,hkp⟩).1 l hl
    exact ⟨a1,by omega⟩
   have hdeg:=hg.deg_lt (v:=k)
   rw [hL] at hdeg
   refine ⟨by omega,?_⟩
   obtain ⟨m,hm⟩:∃ m,L.length = m:=⟨_,rfl⟩
   rw [hm]
   let val2:Nat -> Nat -> Nat:=fun j i=>if i < k then netP (g.ports.getD i []) else if i = k then netP (L.take j) else 0
   refine ybe (σ:=Nat) (fun j=>⟨[(22,.i .i64 j),(21,.i .i64 m),(20,ybb L),(4,.i .i64 k),(15,.i .i64 k),(14,.i .i64 n),(13,yba g.ports),(3,.os (11,0) 0 n true)],
    [(11,.one (some ⟨44,false,1,n,fun i=>[.i .u32 (val2 j i:Nat)]⟩))]⟩) (fun j=>j <= m) (fun j=>m - j) 0 (Nat.zero_le _) ?_ ?_
   ·refine yg [] [] [] ?_
    simp only [yba,ybb,hn,hm,allQ,live,yc,yu,Int.natCast_zero,go_sem,Nat.reduceEqDiff,↓reduceIte,reduceCtorEq]
    intro i hi
    simp only [val,val2]
    by_cases q:i < k
    ·rw [if_pos q,if_pos q]
    ·rw [if_neg q,if_neg q]
     by_cases q2:i = k
     ·rw [if_pos q2]; rfl
     ·rw [if_neg q2]
   ·intro j hj
    obtain ⟨l,hl⟩:∃ l,L.getD j (0,0) = l:=⟨_,rfl⟩
    simp only [ycja,ycfv,yba,ybb,hn,hm,hl,go_sem,Nat.reduceEqDiff,Nat.reduceAdd,Nat.reduceLT,↓reduceIte,reduceCtorEq]
    refine ⟨fun hlj=>⟨by omega,?_⟩,fun hlj=>?_⟩
    ·have hj':j < L.length:=by omega
     have hl2:=hlk l (by rw [<- hl,getD_at hj']; exact List.getElem_mem _)
     obtain ⟨t,ht⟩:∃ t:Nat,l.1 = t:=⟨l.1.toNat,by omega⟩
     have h24t:t < 24:=by omega
     have hval:val2 j k < 2 ^ 24:=by
      simp only [val2,if_neg (Nat.lt_irrefl k),if_true]
      exact yctf _ fun l hl=>(hlk l (List.mem_of_mem_take hl)).2
     have hp:2 ^ t < 2 ^ 24:=Nat.pow_lt_pow_right (by omega) h24t
     have hsh:=yvx (v:=t) (by omega)
     have hor:=u32_or (a:=val2 j k) (b:=2 ^ t) (by omega) (by omega)
     rw [Int.toNat_natCast] at hsh
     simp only [IntKind.bits] at hor
     simp only [ycdv,ht,clash,hsh,hor,go_sem,Nat.reduceEqDiff,Nat.reduceAdd,Nat.reduceLeDiff,↓reduceIte,reduceCtorEq]
     refine ⟨by omega,by omega,⟨by omega,by show _ < ((32:Nat):Int); omega⟩,by omega,by omega,by decide,?_⟩
     simp only [ycno,go_sem,Nat.reduceEqDiff,Nat.reduceAdd,↓reduceIte,reduceCtorEq]
     refine ⟨ikw (by omega) (by omega),?_⟩
     refine yh (j + 1) (by omega) (by omega) ?_
     refine yg [] [] [] ?_
     simp only [allQ,live,yc,yu,go_sem,Nat.reduceEqDiff,↓reduceIte,reduceCtorEq]
     refine ⟨by omega,fun i hi=>?_⟩
     have hsn:=ybmz L j hj'
     rw [hl,ht,Int.toNat_natCast] at hsn
     by_cases q:i = k
     ·simp only [if_pos q]
      subst q
      simp only [go_sem,live,yu,go_sem,reduceCtorEq]
      simp only [val2,if_neg (Nat.lt_irrefl i),if_true,hsn]
     ·simp only [if_neg q]
      simp only [go_sem,live,yu,go_sem,reduceCtorEq]
      simp only [val2,if_neg q]
    ·obtain rfl:j = m:=by omega
     simp only [ybph,go_sem,Nat.reduceEqDiff,Nat.reduceAdd,↓reduceIte,reduceCtorEq]
     refine ⟨ikw (by omega) (by omega),?_⟩
     refine yh (k + 1) (by omega) (by omega) ?_
     refine yg [] [] [] ?_
     simp only [allQ,live,yc,yu,go_sem,Nat.reduceEqDiff,↓reduceIte,reduceCtorEq]
     refine ⟨by omega,fun i hi=>?_⟩
     simp only [val,val2]
     by_cases q:i < k
     ·rw [if_pos q,if_pos (by omega)]
     ·rw [if_neg q]
      by_cases q2:i = k
      ·rw [if_pos q2,if_pos (by omega),q2,hL,<- hm,List.take_length]
      ·rw [if_neg q2,if_neg (by omega)]
  ·obtain rfl:k = n:=by omega
   simp only [ybol,go_sem,Nat.reduceEqDiff,Nat.reduceAdd,↓reduceIte,reduceCtorEq]
   unfold usV
   rw [List.length_map,hn]
   refine sim_sl fun i hi=>?_
   have hi':i < g.ports.length:=by omega
   simp only [val,if_pos hi]
   simp [List.getD,hi']
theorem yyp (net:SV) {e s:Nat} (he:e < 2 ^ 24) (h0:s ≠ 0) (hs:s < 2 ^ 24) (hsub:difB s e = 0):Returns Tryz.prog 146 [net,.i .i64 3,.i .u32 e,.i .u32 s] (.b true):=by
 refine Returns.of (ybsp _ _ ?_)
 have z0:((s:Int) == 0) = false:=by simp; omega
 have a0:=u32_andNot (a:=s) (b:=e) (by omega) (by omega)
 rw [hsub] at a0
 simp only [Int.natCast_zero,IntKind.bits] at a0
 simp only [c146,ybsm,ybni,z0,a0,Int.reduceBNe,go_sem,Nat.reduceEqDiff,Nat.reduceAdd,↓reduceIte,reduceCtorEq]
 simp only [ybrr,yblr,ybtq,ybli,ybcf,Int.reduceBEq,sim_b,go_sem,Nat.reduceEqDiff,Nat.reduceAdd,↓reduceIte,reduceCtorEq]
theorem yxt (net:SV) {e:Nat} (he:e < 2 ^ 24) (h0:e ≠ 0):Returns Tryz.prog 146 [net,.i .i64 4,.i .u32 e,.i .u32 e] (.b true):=by
 refine Returns.of (ybsp _ _ ?_)
 have z0:((e:Int) == 0) = false:=by simp; omega
 have hd:difB e e = 0:=by unfold difB; simp
 have a0:=u32_andNot (a:=e) (b:=e) (by omega) (by omega)
 rw [hd] at a0
 simp only [Int.natCast_zero,IntKind.bits] at a0
 simp only [c146,ybsm,ybni,z0,a0,Int.reduceBNe,go_sem,Nat.reduceEqDiff,Nat.reduceAdd,↓reduceIte,reduceCtorEq]
 simp only [ybrr,yblr,ybtq,ybli,ycdz,ybcf,Int.reduceBEq,sim_b,go_sem,Nat.reduceEqDiff,Nat.reduceAdd,↓reduceIte,reduceCtorEq]
theorem yyx (net:SV) (hn:net.cells.all one1 = true) {e w:Nat} (he:e < 2 ^ 24) (h0:e ≠ 0) (hw:w < 2 ^ 32):Returns Tryz.prog 123 [net,.i .i64 3,.i .u32 e,.i .u32 w] (.i .u32 (resD e w)):=by
 refine Returns.of (yvp _ _ ?_)
 have a0:=u32_and (a:=w) (b:=e) (by omega) (by omega)
 have a1:=u32_neg (a:=e) (by omega) (by omega)
 have a2:=u32_and (a:=e) (b:=2 ^ 32 - e) (by omega) (by omega)
 obtain ⟨W,hW⟩:∃ W,w &&& e = W:=⟨_,rfl⟩
 rw [hW] at a0
 simp only [IntKind.bits] at a0 a2
 simp only [c123,yzo,yyu,yxx,a0,hn,go_sem,Nat.reduceEqDiff,Nat.reduceAdd,Nat.reduceLT,↓reduceIte,reduceCtorEq]
 have hWl:W < 2 ^ 24:=by rw [<- hW,Nat.and_comm]; exact yccy he
 refine ⟨fun q=>?_,fun q=>?_⟩
 ·have q0:W = 0:=by omega
  have er:resD e w = e &&& (2 ^ 32 - e):=by unfold resD; rw [if_pos (by rw [hW]; exact q0)]; rfl
  rw [er]
  simp only [yzf,yri,yqj,yqe,ykk,ywq,IntKind.signed,a1,a2,Int.reduceBEq,go_sem,Nat.reduceEqDiff,Nat.reduceAdd,↓reduceIte,reduceCtorEq]
  exact Sim.refl _
 ·have q0:¬ W = 0:=by omega
  have er:resD e w = W:=by unfold resD; rw [if_neg (by rw [hW]; exact q0),hW]
  rw [er]
  simp only [yri,yqj,yqe,ykk,ywq,Int.reduceBEq,go_sem,Nat.reduceEqDiff,Nat.reduceAdd,↓reduceIte,reduceCtorEq]
  exact Sim.refl _
theorem ybbg (net:SV) (hn:net.cells.all one1 = true) {e w:Nat} (he:e < 2 ^ 24) (h0:e ≠ 0) (hw:w < 2 ^ 32):Returns Tryz.prog 123 [net,.i .i64 4,.i .u32 e,.i .u32 w] (.i .u32 e):=by
 refine Returns.of (yvp _ _ ?_)
 have a0:=u32_and (a:=w) (b:=e) (by omega) (by omega)
 have a1:=u32_neg (a:=e) (by omega) (by omega)
 have a2:=u32_and (a:=e) (b:=2 ^ 32 - e) (by omega) (by omega)
 obtain ⟨W,hW⟩:∃ W,w &&& e = W:=⟨_,rfl⟩
 rw [hW] at a0
 simp only [IntKind.bits] at a0 a2
 simp only [c123,yzo,yyu,yxx,a0,hn,go_sem,Nat.reduceEqDiff,Nat.reduceAdd,Nat.reduceLT,↓reduceIte,reduceCtorEq]
 refine ⟨fun q=>?_,fun q=>?_⟩
 ·simp only [yzf,yri,yqj,yqe,ykk,yvd,IntKind.signed,a1,a2,Int.reduceBEq,go_sem,Nat.reduceEqDiff,Nat.reduceAdd,↓reduceIte,reduceCtorEq]
  exact Sim.refl _
 ·simp only [yri,yqj,yqe,ykk,yvd,Int.reduceBEq,go_sem,Nat.reduceEqDiff,Nat.reduceAdd,↓reduceIte,reduceCtorEq]
  exact Sim.refl _
end Sh
end Go.Proofs.YtpngeppkgoaimaaGreatDoor

namespace Go.Proofs.YtpngeppkgoaimaaGreatDoor
namespace Sh
open Go Ev
def ycvl:LO:=[o3 (.mv (ci' 0)) 4 0]
def yddu:LO:=[mv' 1 5 0,o3 (.bin .lss (.tmp 5) (ci' 1)) 6 1]
def ycvx:LO:=[o3 (.mv (ci' 0)) 4 0]
def ydcc:LO:=[mv' 0 7 0,mv' 1 8 0,bn' .rem 7 8 9 3,mv' 9 0 7]
def ydaw:LO:=[mv' 0 10 0,o3 (.bin .lss (.tmp 10) (ci' 0)) 11 1]
def ycwv:LO:=[mv' 0 12 0,mv' 1 13 0,bn' .add 12 13 14 3,mv' 14 0 7]
def ycxs:LO:=[mv' 0 15 0,mv' 15 4 1]
def c44:SC:=(.seq (.reg false ycvl) (.seq (.seq (.reg false yddu) (.cond (.tmp 6) (.seq (.reg false ycvx) .ret) .skip)) (.seq (.reg false ydcc) (.seq (.seq (.reg false ydaw) (.cond (.tmp 11) (.reg false ycwv) .skip)) (.seq (.reg false ycxs) .ret)))))
theorem ydcy:Fn 44 c44 [.t 4]:=fn_0 Tryz.func44 (by kernel_rfl) (by kernel_rfl)
def ydcl:LO:=[o3 (.mv (ci' 0)) 4 0]
def yczy:LO:=[mv' 1 5 0,mv' 0 6 0,ln' 6 7 2,bn' .lss 5 7 8 7]
def yddc:LO:=[mv' 0 9 0,mv' 1 10 0,ix' 1 9 10 11 3,ld' false 1 11 12 7,mv' 12 4 15]
def ycvd:LO:=[o3 (.mv (ci' 0)) 4 0]
def c50:SC:=(.seq (.reg false ydcl) (.seq (.seq (.reg false yczy) (.cond (.tmp 8) (.seq (.reg false yddc) .ret) .skip)) (.seq (.reg false ycvd) .ret)))
theorem ycyh:Fn 50 c50 [.t 4]:=fn_0 Tryz.func50 (by kernel_rfl) (by kernel_rfl)
def yccw:LO:=[o3 (.box 28 (.tmp 0)) 3 0,o3 (.mv (.const (.bool false))) 6 0]
def ycnj:LO:=[o3 (.mv (ci' 0)) 7 0]
def ychq:LO:=[mv' 7 8 0,fa' 1 1 3 9 0,ld' false 1 9 10 2,mv' 1 11 0,ix' 1 10 11 12 14,ld' false 1 12 13 30,ln' 13 14 62,bn' .lss 8 14 15 127]
def ycey:LO:=[fa' 1 1 3 18 0,ld' false 1 18 19 1,mv' 1 20 0,ix' 1 19 20 21 7,ld' false 1 21 22 15,mv' 7 23 0,ix' 2 22 23 24 63,fa' 0 1 24 25 127,ld' false 1 25 26 255,mv' 2 27 0,bn' .eql 26 27 28 1023]
def ycal:LO:=[o3 (.mv (.const (.bool true))) 6 0]
def ycdf:LO:=[mv' 7 16 0,o3 (.bin .add (.tmp 16) (ci' 1)) 17 1,mv' 17 7 3]
def ycfb:LO:=[o3 (.mv (.const (.bool false))) 6 0]
def c117:SC:=(.seq (.reg false yccw) (.seq (.seq (.reg false ycnj) (.block 0 (.loop (.seq (.seq (.reg false ychq) (.cond (.tmp 15) .skip (.exit 0))) (.seq (.block 1 (.seq (.reg false ycey) (.cond (.tmp 28) (.seq (.reg false ycal) .ret) .skip))) (.reg false ycdf)))))) (.seq (.reg false ycfb) .ret)))
theorem ycsf:Fn 117 c117 [.t 6]:=fn_0 Tryz.func117 (by kernel_rfl) (by kernel_rfl)
def ycth:LO:=[o3 (.box 24 (.tmp 0)) 5 0,o3 (.box 28 (.tmp 1)) 6 0]
def yctp:LO:=[mv' 2 12 0,mv' 3 13 0,bn' .eql 12 13 14 3,mv' 14 15 7,⟨.load true 2 (.tmp 6),some 16,some (15,false),15⟩,⟨.mv (.tmp 2),some 17,some (15,false),15⟩,⟨.mv (.tmp 3),some 18,some (15,false),15⟩,⟨.call (.func 117) [(.tmp 16),(.tmp 17),(.tmp 18)],some 19,some (15,false),127⟩,o3 (.pick (.tmp 15) (.const (.bool true)) (.tmp 19)) 20 255]
def ybhu:LO:=[mv' 3 21 0,mv' 4 22 0,o3 (.build [.i .i64 0,.i .i64 0] [(0,1,(.tmp 21)),(1,1,(.tmp 22))]) 23 3,mv' 2 24 0,mv' 4 25 0,o3 (.build [.i .i64 0,.i .i64 0] [(0,1,(.tmp 24)),(1,1,(.tmp 25))]) 26 24,o3 (.alloc 43 1 [.i .i64 0,.i .i64 0]) 10 0,o3 (.alloc 43 1 [.i .i64 0,.i .i64 0]) 11 0,o0 (.store 2 (.tmp 10) (.tmp 23)) 199,o0 (.store 2 (.tmp 11) (.tmp 26)) 511]
def ybhq:LO:=[fa' 5 1 5 27 0,ld' false 1 27 28 1]
def ybra:LO:=[fa' 1 1 6 29 0,ld' false 1 29 30 1,mv' 2 31 0,ld' true 2 10 32 0,o3 (.bslice 43 2 1 [.i .i64 0,.i .i64 0] [(0,2,(.tmp 32))]) 33 8,fa' 1 1 6 34 0,ld' false 1 34 35 32,mv' 2 36 0,ix' 1 35 36 37 224,ld' false 1 37 38 480,o3 (.app 43 2 16 (.tmp 33) (.tmp 38)) 39 1016,ix' 1 30 31 40 2047,o0 (.store 1 (.tmp 40) (.tmp 39)) 4095]
def ybly:LO:=[fa' 1 1 6 41 0,ld' false 1 41 42 1,mv' 3 43 0,ld' true 2 11 44 0,o3 (.bslice 43 2 1 [.i .i64 0,.i .i64 0] [(0,2,(.tmp 44))]) 45 8,fa' 1 1 6 46 0,ld' false 1 46 47 32,mv' 3 48 0,ix' 1 47 48 49 224,ld' false 1 49 50 480,o3 (.app 43 2 16 (.tmp 45) (.tmp 50)) 51 1016,ix' 1 42 43 52 2047,o0 (.store 1 (.tmp 52) (.tmp 51)) 4095]
def yczf:LO:=[fa' 1 1 6 53 0,ld' false 1 53 54 1,mv' 2 55 0,fa' 1 1 6 56 0,ld' false 1 56 57 8,mv' 3 58 0,fa' 1 1 6 59 0,ld' false 1 59 60 64,mv' 2 61 0,ix' 1 60 61 62 448,ld' false 1 62 63 960,ld' true 2 10 64 0,o3 (.bslice 43 2 1 [.i .i64 0,.i .i64 0] [(0,2,(.tmp 64))]) 65 2048,o3 (.app 43 2 16 (.tmp 63) (.tmp 65)) 66 8128,fa' 1 1 6 67 0,ld' false 1 67 68 16384,mv' 3 69 0,ix' 1 68 69 70 114688,ld' false 1 70 71 245760,ld' true 2 11 72 0,o3 (.bslice 43 2 1 [.i .i64 0,.i .i64 0] [(0,2,(.tmp 72))]) 73 524288,o3 (.app 43 2 16 (.tmp 71) (.tmp 73)) 74 2097088,ix' 1 54 55 75 4194247,o0 (.store 1 (.tmp 75) (.tmp 66)) 8388551,ix' 1 57 58 76 16777215,o0 (.store 1 (.tmp 76) (.tmp 74)) 33554431]
def c87:SC:=(.seq (.reg false ycth) (.seq (.seq (.reg false yctp) (.cond (.tmp 20) .ret .skip)) (.seq (.reg false ybhu) (.seq (.seq (.reg false ybhq) (.cond (.tmp 28) (.seq (.reg true ybra) (.seq (.reg true ybly) .ret)) .skip)) (.reg true yczf)))))
theorem ycsx:FnM 87 c87 []:=fn_m Tryz.func87 (by kernel_rfl) (by kernel_rfl)
def ycwz:LO:=[o3 (.box 24 (.tmp 0)) 2 0,o3 (.alloc 28 1 [.a (.slice none 0 0),.a (.slice none 0 0)]) 4 0]
def ydca:LO:=[fa' 0 1 2 10 0,ld' false 1 10 11 1,o3 (.wsub (.tmp 11) (ci' 1)) 12 3,mv' 1 13 0,cl' 44 [12,13] 14 15,o3 (.bin .add (ci' 1) (.tmp 14)) 15 31,mv' 15 5 63]
def ycvn:LO:=[mv' 5 16 0,o3 (.mk 41 1 24 [.a (.slice none 0 0)] (.tmp 16) (.tmp 16)) 17 1,o3 (.build [.a (.slice none 0 0),.a (.slice none 0 0)] [(1,1,(.tmp 17))]) 18 3,o3 (.alloc 28 1 [.a (.slice none 0 0),.a (.slice none 0 0)]) 6 0,o0 (.store 2 (.tmp 6) (.tmp 18)) 15]
def ydbu:LO:=[o3 (.mv (ci' 0)) 7 0]
def ydbh:LO:=[mv' 7 19 0,mv' 5 20 0,bn' .lss 19 20 21 3]
def yczq:LO:=[fa' 3 1 2 24 0,ld' false 1 24 25 1,mv' 7 26 0,cl' 50 [25,26] 27 7,o3 (.call (.func 44) [(.tmp 27),(ci' 256)]) 28 15,mv' 28 8 31]
def ycyz:LO:=[o3 (.mv (ci' 0)) 9 0]
def ycyg:LO:=[mv' 9 29 0,mv' 7 30 0,bn' .lss 29 30 31 3]
def ycir:LO:=[fa' 0 1 6 34 0,ld' false 1 34 35 1,mv' 9 36 0,ix' 1 35 36 37 7,ld' false 1 37 38 15,mv' 8 39 0,bn' .eql 38 39 40 63]
def ycjk:LO:=[mv' 8 41 0,o3 (.bin .add (.tmp 41) (ci' 1)) 42 1,o3 (.bin .rem (.tmp 42) (ci' 256)) 43 3,mv' 43 8 7,o3 (.mv (.const (.int .i64 (-1)))) 9 15]
def ycwp:LO:=[mv' 9 32 0,o3 (.bin .add (.tmp 32) (ci' 1)) 33 1,mv' 33 9 3]
def ycjt:LO:=[fa' 0 1 6 44 0,ld' false 1 44 45 1,mv' 8 46 0,o3 (.bslice 3 1 1 [.i .i64 0] [(0,1,(.tmp 46))]) 47 4,o3 (.app 3 1 8 (.tmp 45) (.tmp 47)) 48 15,fa' 0 1 6 49 31,o0 (.store 1 (.tmp 49) (.tmp 48)) 63]
def ycut:LO:=[mv' 7 22 0,o3 (.bin .add (.tmp 22) (ci' 1)) 23 1,mv' 23 7 3]
def ycaq:LO:=[ld' true 2 6 50 0,o0 (.store 2 (.tmp 4) (.tmp 50)) 1]
def c88:SC:=(.seq (.reg false ycwz) (.seq (.reg false ydca) (.seq (.reg false ycvn) (.seq (.seq (.reg false ydbu) (.block 0 (.loop (.seq (.seq (.reg false ydbh) (.cond (.tmp 21) .skip (.exit 0))) (.seq (.block 1 (.seq (.reg false yczq) (.seq (.seq (.reg false ycyz) (.block 2 (.loop (.seq (.seq (.reg false ycyg) (.cond (.tmp 31) .skip (.exit 2))) (.seq (.block 3 (.seq (.reg false ycir) (.cond (.tmp 40) (.reg false ycjk) .skip))) (.reg false ycwp)))))) (.reg false ycjt)))) (.reg false ycut)))))) (.seq (.reg false ycaq) .ret)))))
theorem ycrg:FnM 88 c88 [.c 4 true 2]:=fn_m Tryz.func88 (by kernel_rfl) (by kernel_rfl)
def ycyx:LO:=[o3 (.box 24 (.tmp 0)) 2 0,o3 (.alloc 28 1 [.a (.slice none 0 0),.a (.slice none 0 0)]) 4 0]
def ycxn:LO:=[ld' true 6 2 7 0,mv' 1 8 0,cl' 88 [7,8] 9 3,o3 (.alloc 28 1 [.a (.slice none 0 0),.a (.slice none 0 0)]) 5 0,o0 (.store 2 (.tmp 5) (.tmp 9)) 15]
def ycxl:LO:=[o3 (.mv (ci' 1)) 6 0]
def ycuf:LO:=[mv' 6 10 0,fa' 1 1 5 11 0,ld' false 1 11 12 2,ln' 12 13 6,bn' .lss 10 13 14 15]
def ydam:LO:=[ld' true 6 2 17 0,ld' true 2 5 18 0,fa' 1 1 2 19 0,ld' false 1 19 20 4,mv' 6 21 0,o3 (.bin .sub (.tmp 21) (ci' 1)) 22 16,cl' 50 [20,22] 23 60,mv' 6 24 0,cl' 44 [23,24] 25 252,mv' 6 26 0,fa' 2 1 2 27 0,ld' false 1 27 28 1024,mv' 6 29 0,o3 (.bin .sub (.tmp 29) (ci' 1)) 30 4096,cl' 50 [28,30] 31 15868,o3 (.call (.func 44) [(.tmp 31),(ci' 15)]) 32 32252,o3 (.bin .add (ci' 1) (.tmp 32)) 33 65020,cl' 87 [17,18,25,26,33] 34 131071]
def ydas:LO:=[mv' 6 15 0,o3 (.bin .add (.tmp 15) (ci' 1)) 16 1,mv' 16 6 3]
def ydcr:LO:=[ld' true 2 5 35 0,o0 (.store 2 (.tmp 4) (.tmp 35)) 1]
def c48:SC:=(.seq (.reg false ycyx) (.seq (.reg false ycxn) (.seq (.seq (.reg false ycxl) (.block 0 (.loop (.seq (.seq (.reg false ycuf) (.cond (.tmp 14) .skip (.exit 0))) (.seq (.block 1 (.reg true ydam)) (.reg false ydas)))))) (.seq (.reg false ydcr) .ret))))
theorem ycou:FnM 48 c48 [.c 4 true 2]:=fn_m Tryz.func48 (by kernel_rfl) (by kernel_rfl)
def ycvb:LO:=[o3 (.box 24 (.tmp 0)) 2 0,o3 (.box 28 (.tmp 1)) 3 0,o3 (.alloc 28 1 [.a (.slice none 0 0),.a (.slice none 0 0)]) 4 0]
def ydbn:LO:=[fa' 1 1 3 7 0,ld' false 1 7 8 1,ln' 8 9 3,mv' 9 5 7]
def yddx:LO:=[mv' 5 10 0,mv' 10 6 1]
def ybwr:LO:=[mv' 6 11 0,o3 (.bin .add (.tmp 11) (ci' 1)) 12 1,fa' 1 1 2 13 0,ld' false 1 13 14 4,ln' 14 15 12,bn' .lss 12 15 16 31,mv' 16 17 63,⟨.mv (.tmp 6),some 18,some (17,true),127⟩,⟨.bin .lss (.tmp 18) (ci' 60),some 19,some (17,true),255⟩,o3 (.pick (.tmp 17) (.tmp 19) (.const (.bool false))) 20 511]
def yddm:LO:=[ld' true 6 2 23 0,ld' true 2 3 24 0,fa' 1 1 2 25 0,ld' false 1 25 26 4,mv' 6 27 0,ix' 1 26 27 28 28,ld' false 1 28 29 60,mv' 5 30 0,cl' 44 [29,30] 31 252,fa' 1 1 2 32 0,ld' false 1 32 33 512,mv' 6 34 0,o3 (.bin .add (.tmp 34) (ci' 1)) 35 2048,ix' 1 33 35 36 7680,ld' false 1 36 37 15872,mv' 5 38 0,cl' 44 [37,38] 39 65532,fa' 2 1 2 40 0,ld' false 1 40 41 131072,mv' 6 42 0,cl' 50 [41,42] 43 1048572,o3 (.call (.func 44) [(.tmp 43),(ci' 15)]) 44 2097148,o3 (.bin .add (ci' 1) (.tmp 44)) 45 4194300,cl' 87 [23,24,31,39,45] 46 8388607]
def ydcn:LO:=[mv' 6 21 0,o3 (.bin .add (.tmp 21) (ci' 2)) 22 1,mv' 22 6 3]
def ycrb:LO:=[ld' true 2 3 47 0,o0 (.store 2 (.tmp 4) (.tmp 47)) 1]
def c47:SC:=(.seq (.reg false ycvb) (.seq (.reg false ydbn) (.seq (.seq (.reg false yddx) (.block 0 (.loop (.seq (.seq (.reg false ybwr) (.cond (.tmp 20) .skip (.exit 0))) (.seq (.block 1 (.reg true yddm)) (.reg false ydcn)))))) (.seq (.reg false ycrb) .ret))))
theorem ycub:FnM 47 c47 [.c 4 true 2]:=fn_m Tryz.func47 (by kernel_rfl) (by kernel_rfl)
def ydby:LO:=[o3 (.box 24 (.tmp 0)) 2 0,o3 (.alloc 28 1 [.a (.slice none 0 0),.a (.slice none 0 0)]) 4 0]
def yddz:LO:=[ld' true 6 2 5 0,ld' true 6 2 6 0,mv' 1 7 0,cl' 48 [6,7] 8 6,cl' 47 [5,8] 9 15,o0 (.store 2 (.tmp 4) (.tmp 9)) 31]
def c15:SC:=(.seq (.reg false ydby) (.seq (.reg true yddz) .ret))
theorem ycot:FnU 15 c15 [.c 4 true 2]:=fn_u Tryz.func15 (by kernel_rfl) (by kernel_rfl)
def yczx:LO:=[o3 (.box 28 (.tmp 0)) 3 0,o3 (.mv (.const (.slice none 0 0))) 6 0]
def ycwe:LO:=[fa' 1 1 3 16 0,ld' false 1 16 17 1,ln' 17 18 3,mv' 18 7 7,o3 (.mv (ci' 0)) 8 15]
def ydao:LO:=[o3 (.mv (ci' 0)) 9 0]
def ycvs:LO:=[mv' 9 19 0,mv' 7 20 0,bn' .lss 19 20 21 3]
def ydbp:LO:=[mv' 8 24 0,fa' 0 1 3 25 0,ld' false 1 25 26 2,mv' 9 27 0,ix' 1 26 27 28 14,ld' false 1 28 29 30,o3 (.mm true (.tmp 24) (.tmp 29)) 30 63,mv' 30 8 127]
def yczw:LO:=[mv' 9 22 0,o3 (.bin .add (.tmp 22) (ci' 1)) 23 1,mv' 23 9 3]
def ycze:LO:=[o3 (.mv (.const (.slice none 0 0))) 10 0]
def ydbf:LO:=[o3 (.mv (ci' 0)) 11 0]
def ycyr:LO:=[mv' 11 31 0,mv' 7 32 0,bn' .lss 31 32 33 3]
def ycit:LO:=[o3 (.mv (.const (.slice none 0 0))) 12 0]
def yclu:LO:=[o3 (.mv (ci' 0)) 13 0]
def yckw:LO:=[mv' 13 36 0,mv' 1 37 0,ln' 37 38 2,bn' .lss 36 38 39 7]
def ycer:LO:=[mv' 1 42 0,mv' 13 43 0,ix' 6 42 43 44 3,fa' 2 1 44 45 7,ld' false 1 45 46 15,mv' 1 47 0,mv' 13 48 0,ix' 6 47 48 49 96,fa' 3 1 49 50 224,ld' false 1 50 51 480,mv' 1 52 0,mv' 13 53 0,ix' 6 52 53 54 3072,fa' 4 1 54 55 7168,ld' false 1 55 56 15360,mv' 7 57 0,bn' .mul 56 57 58 64512,bn' .add 51 58 59 131040,mv' 1 60 0,mv' 13 61 0,ix' 6 60 61 62 786432,fa' 5 1 62 63 1835008,ld' false 1 63 64 3932160,mv' 8 65 0,bn' .mul 64 65 66 16515072,bn' .add 59 66 67 33554400,mv' 46 14 31,mv' 67 15 134217727]
def yckc:LO:=[mv' 1 68 0,mv' 13 69 0,ix' 6 68 69 70 3,fa' 1 1 70 71 7,ld' false 1 71 72 15]
def ybfq:LO:=[o3 (.bin .eql (.tmp 72) (ci' 2)) 74 0,mv' 74 73 1]
def ybgr:LO:=[o3 (.mv (ci' 0)) 14 0,o3 (.mv (ci' 1)) 15 1]
def ybgx:LO:=[o3 (.bin .eql (.tmp 72) (ci' 3)) 76 0,mv' 76 75 1]
def ybha:LO:=[fa' 1 1 3 77 0,ld' false 1 77 78 1,mv' 11 79 0,ix' 1 78 79 80 7,ld' false 1 80 81 15,ln' 81 82 31,o3 (.bin .sub (.tmp 82) (ci' 1)) 83 63,o3 (.mv (.const (.int .i64 (-1)))) 14 0,mv' 83 15 255]
def ybhe:LO:=[mv' 12 84 0,mv' 14 85 0,mv' 2 86 0,mv' 11 87 0,mv' 1 88 0,ln' 88 89 16,bn' .mul 87 89 90 56,mv' 13 91 0,bn' .add 90 91 92 248,cl' 50 [86,92] 93 508,mv' 15 94 0,mv' 14 95 0,bn' .sub 94 95 96 3072,o3 (.bin .add (.tmp 96) (ci' 1)) 97 7168,cl' 44 [93,97] 98 16380,bn' .add 85 98 99 32766,o3 (.bslice 3 1 1 [.i .i64 0] [(0,1,(.tmp 99))]) 100 65534,o3 (.app 3 1 8 (.tmp 84) (.tmp 100)) 101 131071,mv' 101 12 262143]
def ybhd:LO:=[mv' 13 40 0,o3 (.bin .add (.tmp 40) (ci' 1)) 41 1,mv' 41 13 3]
def ycgu:LO:=[mv' 10 102 0,mv' 12 103 0,o3 (.bslice 22 1 1 [.a (.slice none 0 0)] [(0,1,(.tmp 103))]) 104 2,o3 (.app 22 1 24 (.tmp 102) (.tmp 104)) 105 7,mv' 105 10 15]
def ydbm:LO:=[mv' 11 34 0,o3 (.bin .add (.tmp 34) (ci' 1)) 35 1,mv' 35 11 3]
def ycjs:LO:=[mv' 10 106 0,mv' 106 6 1]
def c18:SC:=(.seq (.reg false yczx) (.seq (.reg false ycwe) (.seq (.seq (.reg false ydao) (.block 0 (.loop (.seq (.seq (.reg false ycvs) (.cond (.tmp 21) .skip (.exit 0))) (.seq (.block 1 (.reg false ydbp)) (.reg false yczw)))))) (.seq (.reg false ycze) (.seq (.seq (.reg false ydbf) (.block 2 (.loop (.seq (.seq (.reg false ycyr) (.cond (.tmp 33) .skip (.exit 2))) (.seq (.block 3 (.seq (.reg false ycit) (.seq (.seq (.reg false yclu) (.block 4 (.loop (.seq (.seq (.reg false yckw) (.cond (.tmp 39) .skip (.exit 4))) (.seq (.block 5 (.seq (.reg true ycer) (.seq (.seq (.reg false yckc) (.block 6 (.seq (.reg false ybfq) (.cond (.tmp 73) (.reg false ybgr) (.seq (.reg false ybgx) (.cond (.tmp 75) (.reg true ybha) .skip)))))) (.reg false ybhe)))) (.reg false ybhd)))))) (.reg false ycgu)))) (.reg false ydbm)))))) (.seq (.reg false ycjs) .ret))))))
theorem ycxo:Fn 18 c18 [.t 6]:=fn_0 Tryz.func18 (by kernel_rfl) (by kernel_rfl)
def ycxy:LO:=[o3 (.mv (.const (.slice none 0 0))) 4 0]
def ycvr:LO:=[o3 (.mv (.const (.slice none 0 0))) 5 0]
def ydaf:LO:=[o3 (.mv (ci' 0)) 6 0]
def ycvk:LO:=[mv' 6 9 0,mv' 1 10 0,bn' .lss 9 10 11 3]
def ydbq:LO:=[mv' 0 14 0,ln' 14 15 1,o3 (.bin .eql (.tmp 15) (ci' 0)) 16 3]
def ycxa:LO:=[mv' 5 17 0,o3 (.bslice 44 1 1 [.i .u32 0] [(0,1,(.const (.int .u32 4294967295)))]) 18 0,o3 (.app 44 1 4 (.tmp 17) (.tmp 18)) 19 3,mv' 19 5 7]
def ycxd:LO:=[mv' 0 20 0,mv' 6 21 0,mv' 0 22 0,ln' 22 23 4,bn' .rem 21 23 24 14,ix' 1 20 24 25 31,ld' false 1 25 26 63,mv' 6 27 0,mv' 0 28 0,ln' 28 29 256,bn' .quo 27 29 30 896,o3 (.bin .rem (.tmp 30) (ci' 24)) 31 1920,o3 (.conv .u64 (.tmp 31)) 32 3968,mv' 26 7 127,mv' 32 8 16383]
def ydau:LO:=[mv' 7 33 0,o3 (.bin .and (.tmp 33) (.const (.int .u32 16777215))) 34 1,mv' 34 7 3]
def yddr:LO:=[mv' 5 35 0,mv' 7 36 0,mv' 8 37 0,bn' .shl 36 37 38 6,mv' 7 39 0,mv' 8 40 0,o3 (.bin .sub (.const (.int .u64 24)) (.tmp 40)) 41 32,bn' .shr 39 41 42 112,bn' .or 38 42 43 254,o3 (.bin .and (.tmp 43) (.const (.int .u32 16777215))) 44 510,o3 (.bslice 44 1 1 [.i .u32 0] [(0,1,(.tmp 44))]) 45 1022,o3 (.app 44 1 4 (.tmp 35) (.tmp 45)) 46 2047,mv' 46 5 4095]
def ycpx:LO:=[mv' 6 12 0,o3 (.bin .add (.tmp 12) (ci' 1)) 13 1,mv' 13 6 3]
def ychf:LO:=[mv' 5 47 0,mv' 47 4 1]
def c20:SC:=(.seq (.reg false ycxy) (.seq (.reg false ycvr) (.seq (.seq (.reg false ydaf) (.block 0 (.loop (.seq (.seq (.reg false ycvk) (.cond (.tmp 11) .skip (.exit 0))) (.seq (.block 1 (.seq (.seq (.reg false ydbq) (.cond (.tmp 16) (.seq (.reg false ycxa) (.exit 1)) .skip)) (.seq (.reg true ycxd) (.seq (.reg false ydau) (.reg false yddr))))) (.reg false ycpx)))))) (.seq (.reg false ychf) .ret))))
theorem ycyu:Fn 20 c20 [.t 4]:=fn_0 Tryz.func20 (by kernel_rfl) (by kernel_rfl)
def ycui:LO:=[o3 (.box 28 (.tmp 1)) 6 0,o3 (.mv (.const (.slice none 0 0))) 10 0,o3 (.mv (.const (.slice none 0 0))) 11 2,o3 (.mv (.const (.bool false))) 12 6]
def ydbz:LO:=[mv' 0 17 0,cl' 25 [17] 18 1,ld' true 2 6 19 0,mv' 2 20 0,mv' 3 21 0,mv' 4 22 0,cl' 49 [18,19,20,21,22] 23 63,mv' 23 16 127,xt' 16 0 24 255,xt' 16 1 25 255,xt' 16 2 26 255,mv' 24 13 511,mv' 25 14 3071,mv' 26 15 8191]
def yddk:LO:=[mv' 13 27 0,mv' 14 28 0,mv' 15 29 0,o3 (.bin .eql (.tmp 29) (ci' 0)) 30 4,mv' 30 31 12,⟨.mv (.tmp 13),some 32,some (31,true),28⟩,⟨.len (.tmp 32),some 33,some (31,true),60⟩,⟨.mv (.tmp 14),some 34,some (31,true),28⟩,⟨.len (.tmp 34),some 35,some (31,true),156⟩,⟨.bin .eql (.tmp 33) (.tmp 35),some 36,some (31,true),508⟩,o3 (.pick (.tmp 31) (.tmp 36) (.const (.bool false))) 37 1020,mv' 37 38 2044,⟨.mv (.tmp 13),some 39,some (38,true),4092⟩,⟨.len (.tmp 39),some 40,some (38,true),8188⟩,⟨.bin .gtr (.tmp 40) (ci' 0),some 41,some (38,true),16380⟩,o3 (.pick (.tmp 38) (.tmp 41) (.const (.bool false))) 42 32764,mv' 27 10 4093,mv' 28 11 69631,mv' 42 12 262143]
def c16:SC:=(.seq (.reg false ycui) (.seq (.reg true ydbz) (.seq (.reg false yddk) .ret)))
theorem ydea:Fn 16 c16 [.t 10,.t 11,.t 12]:=fn_0 Tryz.func16 (by kernel_rfl) (by kernel_rfl)
def ycyo:LO:=[o3 (.box 56 (.tmp 2)) 6 0,o3 (.mv (.const (.bool false))) 8 0]
def ycyj:LO:=[mv' 0 11 0,ln' 11 12 1,mv' 1 13 0,ln' 13 14 4,bn' .neq 12 14 15 15,mv' 15 16 31,⟨.mv (.tmp 0),some 17,some (16,false),63⟩,⟨.len (.tmp 17),some 18,some (16,false),127⟩,⟨.bin .eql (.tmp 18) (ci' 0),some 19,some (16,false),255⟩,o3 (.pick (.tmp 16) (.const (.bool true)) (.tmp 19)) 20 511]
def ycxk:LO:=[o3 (.mv (.const (.bool false))) 8 0]
def ydck:LO:=[o3 (.mv (.const (.bool false))) 9 0]
def ycwc:LO:=[o3 (.mv (ci' 0)) 10 0]
def ybja:LO:=[mv' 10 21 0,mv' 0 22 0,ln' 22 23 2,bn' .lss 21 23 24 7]
def ybnu:LO:=[mv' 9 27 0,mv' 27 28 1,⟨.mv (.tmp 0),some 29,some (28,true),3⟩,⟨.mv (.tmp 10),some 30,some (28,true),3⟩,⟨.idx 1 (.tmp 29) (.tmp 30),some 31,some (28,true),15⟩,⟨.load false 1 (.tmp 31),some 32,some (28,true),31⟩,⟨.un .not (.tmp 32),some 33,some (28,true),63⟩,o3 (.pick (.tmp 28) (.tmp 33) (.const (.bool false))) 34 127]
def ydga:LO:=[o3 (.mv (.const (.bool false))) 8 0]
def ybnx:LO:=[mv' 9 35 0,mv' 35 36 1,⟨.mv (.tmp 0),some 37,some (36,false),3⟩,⟨.mv (.tmp 10),some 38,some (36,false),3⟩,⟨.idx 1 (.tmp 37) (.tmp 38),some 39,some (36,false),15⟩,⟨.load false 1 (.tmp 39),some 40,some (36,false),31⟩,o3 (.pick (.tmp 36) (.const (.bool true)) (.tmp 40)) 41 63,mv' 41 9 127]
def ybao:LO:=[mv' 9 42 0,o3 (.un .not (.tmp 42)) 43 1,mv' 43 44 3,⟨.mv (.tmp 1),some 45,some (44,true),7⟩,⟨.mv (.tmp 10),some 46,some (44,true),7⟩,⟨.idx 5 (.tmp 45) (.tmp 46),some 47,some (44,true),31⟩,⟨.faddr 3 1 (.tmp 47),some 48,some (44,true),63⟩,⟨.load false 1 (.tmp 48),some 49,some (44,true),127⟩,⟨.faddr 3 1 (.tmp 6),some 50,some (44,true),7⟩,⟨.load false 1 (.tmp 50),some 51,some (44,true),263⟩,⟨.bin .gtr (.tmp 49) (.tmp 51),some 52,some (44,true),1023⟩,⟨.mv (.tmp 52),some 53,some (44,true),2047⟩,⟨.faddr 4 1 (.tmp 6),some 54,some (53,false),4095⟩,⟨.load false 1 (.tmp 54),some 55,some (53,false),8191⟩,⟨.bin .geq (.tmp 55) (ci' 0),some 56,some (53,false),16383⟩,⟨.mv (.tmp 56),some 57,some (53,false),32767⟩,⟨.mv (.tmp 1),some 58,some (57,true),65535⟩,⟨.mv (.tmp 10),some 59,some (57,true),65535⟩,⟨.idx 5 (.tmp 58) (.tmp 59),some 60,some (57,true),262143⟩,⟨.faddr 1 1 (.tmp 60),some 61,some (57,true),524287⟩,⟨.load false 1 (.tmp 61),some 62,some (57,true),1048575⟩,⟨.faddr 4 1 (.tmp 6),some 63,some (57,true),65535⟩,⟨.load false 1 (.tmp 63),some 64,some (57,true),2162687⟩,⟨.bin .gtr (.tmp 62) (.tmp 64),some 65,some (57,true),8388607⟩,⟨.pick (.tmp 57) (.tmp 65) (.const (.bool false)),some 66,some (53,false),16777215⟩,⟨.pick (.tmp 53) (.const (.bool true)) (.tmp 66),some 67,some (44,true),33554431⟩,o3 (.pick (.tmp 44) (.tmp 67) (.const (.bool false))) 68 67108863]
def ycye:LO:=[o3 (.mv (.const (.bool false))) 8 0]
def yus:LO:=[mv' 10 25 0,o3 (.bin .add (.tmp 25) (ci' 1)) 26 1,mv' 26 10 3]
def ycif:LO:=[mv' 9 69 0,mv' 69 70 1,⟨.mv (.tmp 3),some 71,some (70,false),3⟩,⟨.un .not (.tmp 71),some 72,some (70,false),7⟩,o3 (.pick (.tmp 70) (.const (.bool true)) (.tmp 72)) 73 15,mv' 73 8 31]
def c41:SC:=(.seq (.reg false ycyo) (.seq (.seq (.reg false ycyj) (.cond (.tmp 20) (.seq (.reg false ycxk) .ret) .skip)) (.seq (.reg false ydck) (.seq (.seq (.reg false ycwc) (.block 0 (.loop (.seq (.seq (.reg false ybja) (.cond (.tmp 24) .skip (.exit 0))) (.seq (.block 1 (.seq (.seq (.reg false ybnu) (.cond (.tmp 34) (.seq (.reg false ydga) .ret) .skip)) (.seq (.reg false ybnx) (.seq (.reg true ybao) (.cond (.tmp 68) (.seq (.reg false ycye) .ret) .skip))))) (.reg false yus)))))) (.seq (.reg false ycif) .ret)))))
theorem ydcs:Fn 41 c41 [.t 8]:=fn_0 Tryz.func41 (by kernel_rfl) (by kernel_rfl)
end Sh
end Go.Proofs.YtpngeppkgoaimaaGreatDoor

