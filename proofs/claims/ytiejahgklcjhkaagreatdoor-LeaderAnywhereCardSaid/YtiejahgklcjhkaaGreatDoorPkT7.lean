/- Joined. -/
import Derived.Test.YtiejahgklcjhkaaGreatDoorPkT6
set_option linter.unusedSimpArgs false
set_option linter.unusedVariables false
open Bool renaming or_eq_false_iff→zA
open List renaming mem_cons_of_mem→zB,map_cons→zC,mem_cons_self→zD
open Iff renaming rfl→zF
open Go
namespace Go.Proofs.YtiejahgklcjhkaaGreatDoor
section
namespace Sh
open Go Ev
theorem Sim.refl(v:SV):Sim v v:=fun _ _ _ h=>h
theorem yg(v:SV):Sim v v↔True:=⟨fun _=>trivial,fun _=>Sim.refl v⟩
theorem ybb{k k':IntKind}{a b:Int}:Sim (.i k a) (.i k' b)↔k=k'/\a=b :=
 ⟨fun h=>by have:=h (fun _=>none) om0 _ .i;cases this;exact⟨rfl,rfl⟩,fun h=>by rw[h.1,h.2];exact Sim.refl _⟩
theorem yjn{a b:Bool}:Sim (.b a) (.b b)↔a=b :=
 ⟨fun h=>by have:=h (fun _=>none) om0 _ .b;cases this;rfl,fun h=>by rw[h];exact Sim.refl _⟩
theorem yjk{z n:Nat}{g g':Nat->List SV}(h:∀k,k<n->g k=g' k):Sim (.sl z n g) (.sl z n g'):=by
 intro F ω u hr;rcases hr.sl_inv with⟨rfl,h0⟩|⟨bk,p,cp,T,N,e,zz,L,rfl,g1,g2,g3,g4,g5,g6,g7⟩
 ·exact .sl0 h0
 ·exact .sl g1 g2 g3 g4 g5 (fun k hk=>h k hk▸g6 k hk) (fun k hk=>h k hk▸g7 k hk)
theorem ybdc {pr:List Nm}(ρ:List (Nat×(Nat->Nm))) (vir:List Nat) (fr:List Nm) {s t:SS}(h1:yxz s.o fr) (h2:ybed (rid ρ) vir t.o) (h3:allQ (ysh (rid ρ) vir fr t.o s) t.f) (h4:allQ (ylk (rid ρ) vir fr t.o s) t.o)
 (hp:allQ (fun β=>live t.o β=true/\vir.elem β.1=false/\rid ρ β=β) pr):Weak pr s t:=WeakBy.weak ⟨h1,h2,h3,h4⟩ hp
theorem yddb(ρ:List (Nat×(Nat->Nm)))(vir:List Nat)(fr:List Nm){s t:SS}(h1:yxz s.o fr)(h2:ybed (rid ρ) vir t.o)(h3:allQ (ysh (rid ρ) vir fr t.o s) t.f)(h4:allQ (ylk (rid ρ) vir fr t.o s) t.o):Weak [] s t:=ybdc ρ vir fr h1 h2 h3 h4 trivial
theorem yj(ρ:List (Nat×(Nat->Nm)))(vir:List Nat)(fr:List Nm){s t:SS}(h:yxz s.o fr/\ybed (rid ρ) vir t.o/\allQ (ysh (rid ρ) vir fr t.o s) t.f/\allQ (ylk (rid ρ) vir fr t.o s) t.o):Weak [] s t:=yddb ρ vir fr h.1 h.2.1 h.2.2.1 h.2.2.2
theorem yfs{pr:List Nm}(ρ:List (Nat×(Nat->Nm)))(vir:List Nat)(fr:List Nm){s t:SS}(h:(yxz s.o fr/\ybed (rid ρ) vir t.o/\allQ (ysh (rid ρ) vir fr t.o s) t.f/\allQ (ylk (rid ρ) vir fr t.o s) t.o)/\allQ (fun β=>live t.o β=true/\vir.elem β.1=false/\rid ρ β=β) pr):Weak pr s t:=ybdc ρ vir fr h.1.1 h.1.2.1 h.1.2.2.1 h.1.2.2.2 h.2
theorem yzd(o:Own):∀(n:Nat) (v:SV),ydi [] o n v=v
 |0,_=>rfl
 | n + 1,v=>by
   have ml:∀l:List SV,l.map (ydi [] o n)=l:=fun l=>by
    induction l with
    |nil=>rfl
    |cons x l ih=>rw[zC,yzd o n x,ih]
   cases v with
   |ag c=>show SV.ag _=_;rw[ml]
   |tp c=>show SV.tp _=_;rw[ml]
   |fn g a b=>show SV.fn g _ _=_;rw[ml,ml]
   |_=>rfl
theorem ybym(o:Own):∀(n:Nat) (v:SV),pok [] o n v↔True
 |0,_=>zF
 | n + 1,v=>by
   have ml:∀l:List SV,allP (pok [] o n) l:=fun l=>by
    induction l with
    |nil=>trivial
    |cons x l ih=>exact⟨(ybym o n x).2 trivial,ih⟩
   cases v with
   |ag c=>exact⟨fun _=>trivial,fun _=>ml _⟩
   |tp c=>exact⟨fun _=>trivial,fun _=>ml _⟩
   |fn g a b=>exact⟨fun _=>trivial,fun _=>⟨ml _,ml _⟩⟩
   |pt β i j=>exact⟨fun _=>trivial,fun _ h=>by cases h⟩
   |os β p k c=>exact⟨fun _=>trivial,fun _ h=>by cases h⟩
   |_=>exact zF
theorem ycxm{n:Nat}(fr:List Nm)(o:Own)(k:IntKind)(x:Int):ydi fr o (n+1) (.i k x)=(.i k x):=rfl
theorem ydok{n:Nat}(fr:List Nm)(o:Own)(k:IntKind)(x:Int):pok fr o (n+1) (.i k x)=True:=rfl
theorem yczj{n:Nat}(fr:List Nm)(o:Own)(x:Bool):ydi fr o (n+1) (.b x)=(.b x):=rfl
theorem ydot{n:Nat}(fr:List Nm)(o:Own)(x:Bool):pok fr o (n+1) (.b x)=True:=rfl
theorem yczb{n:Nat}(fr:List Nm)(o:Own)(x:Value):ydi fr o (n+1) (.a x)=(.a x):=rfl
theorem ydpj{n:Nat}(fr:List Nm)(o:Own)(x:Value):pok fr o (n+1) (.a x)=True:=rfl
theorem ycal{n:Nat}(fr:List Nm)(o:Own)(z k:Nat)(g:Nat->List SV):ydi fr o (n+1) (.sl z k g)=(.sl z k g):=rfl
theorem ydmz{n:Nat}(fr:List Nm)(o:Own)(z k:Nat)(g:Nat->List SV):pok fr o (n+1) (.sl z k g)=True:=rfl
theorem ycer{n:Nat}(fr:List Nm)(o:Own)(c:List SV):ydi fr o (n+1) (.rf c)=(.rf c):=rfl
theorem ydhf{n:Nat}(fr:List Nm)(o:Own)(c:List SV):pok fr o (n+1) (.rf c)=True:=rfl
theorem ycdy{n:Nat}(fr:List Nm)(o:Own)(Q:(Nat->Option ABlk)->Value->Prop)(v:SV):ydi fr o (n+1) (.ex Q v)=(.ex Q v):=rfl
theorem ydgl{n:Nat}(fr:List Nm)(o:Own)(Q:(Nat->Option ABlk)->Value->Prop)(v:SV):pok fr o (n+1) (.ex Q v)=True:=rfl
theorem ycbb{n:Nat}(fr:List Nm)(o:Own)(c:List SV):ydi fr o (n+1) (.ag c) = .ag (c.map (ydi fr o n)):=rfl
theorem ydkf{n:Nat}(fr:List Nm)(o:Own)(c:List SV):pok fr o (n+1) (.ag c)=allP (pok fr o n) c:=rfl
theorem ycar{n:Nat}(fr:List Nm)(o:Own)(c:List SV):ydi fr o (n+1) (.tp c) = .tp (c.map (ydi fr o n)):=rfl
theorem ydjb{n:Nat}(fr:List Nm)(o:Own)(c:List SV):pok fr o (n+1) (.tp c)=allP (pok fr o n) c:=rfl
theorem ycda{n:Nat}(fr:List Nm)(o:Own)(g:FuncId)(a b:List SV):ydi fr o (n+1) (.fn g a b) = .fn g (a.map (ydi fr o n)) (b.map (ydi fr o n)):=rfl
theorem ydlh{n:Nat}(fr:List Nm)(o:Own)(g:FuncId)(a b:List SV):pok fr o (n+1) (.fn g a b)=(allP (pok fr o n) a/\allP (pok fr o n) b):=rfl
theorem ycez{n:Nat}(fr:List Nm)(o:Own)(β:Nm)(i j:Nat):ydi fr o (n+1) (.pt β i j)=(if nmem fr β=true then(match lookO o β with|some b=>.rf ((b.g i).drop j)|none=>.bad)else .pt β i j):=rfl
theorem ydkh{n:Nat}(fr:List Nm)(o:Own)(β:Nm)(i j:Nat):pok fr o (n+1) (.pt β i j)=(nmem fr β=true->(match lookO o β with|some b=>i<b.n/\j<=b.z|none=>False)):=rfl
theorem yccl{n:Nat}(fr:List Nm)(o:Own)(β:Nm)(p k:Nat)(ap:Bool):ydi fr o (n+1) (.os β p k ap)=(if nmem fr β=true then(match lookO o β with|some b=>.sl b.z k (fun q=>b.g (p+q))|none=>.bad)else .os β p k ap):=rfl
theorem ydhy{n:Nat}(fr:List Nm)(o:Own)(β:Nm)(p k:Nat)(ap:Bool):pok fr o (n+1) (.os β p k ap)=(nmem fr β=true->(match lookO o β with|some b=>p+k<=b.n|none=>False)):=rfl
theorem ydbj(k:IntKind)(x:Int):SV.cells (.i k x)=[(.i k x)]:=rfl
theorem ydak(x:Bool):SV.cells (.b x)=[(.b x)]:=rfl
theorem ycyb(x:Value):SV.cells (.a x)=[(.a x)]:=rfl
theorem ybjk(z k:Nat)(g:Nat->List SV):SV.cells (.sl z k g)=[(.sl z k g)]:=rfl
theorem ycbr(c:List SV):SV.cells (.rf c)=[(.rf c)]:=rfl
theorem ycbm(Q:(Nat->Option ABlk)->Value->Prop)(v:SV):SV.cells (.ex Q v)=[(.ex Q v)]:=rfl
theorem ycfr(c:List SV):SV.cells (.tp c)=[(.tp c)]:=rfl
theorem yccd(g:FuncId)(a b:List SV):SV.cells (.fn g a b)=[(.fn g a b)]:=rfl
theorem ycco(β:Nm)(i j:Nat):SV.cells (.pt β i j)=[(.pt β i j)]:=rfl
theorem ycfa(β:Nm)(p k:Nat)(ap:Bool):SV.cells (.os β p k ap)=[(.os β p k ap)]:=rfl
theorem yccg(c:List SV):SV.cells (.ag c)=c:=rfl
theorem ybj {pr:List Nm}{body:(Exit->SS->Prop)->SS->Prop}{K:Exit->SS->Prop}{s:SS}{σ:Type}(st:σ->SS) (inv:σ->Prop) (μ:σ->Nat) (x0:σ) (h0:inv x0) (hs:Weak pr s (st x0))
 (hstep:∀x,inv x->body (ybpj pr (fun n t=>∃y,inv y/\μ y=n/\t=st y) (μ x) K) (st x)):ycyl pr body K s :=
 ⟨fun n t=>∃y,inv y/\μ y=n/\t=st y,⟨μ x0,st x0,⟨x0,h0,rfl,rfl⟩,hs⟩,fun n t ⟨y,h1,h2,h3⟩=>by subst h2 h3;exact hstep y h1⟩
theorem yw{pr:List Nm}{σ:Type}{st:σ->SS}{inv:σ->Prop}{μ:σ->Nat}{n:Nat}{K:Exit->SS->Prop}{t:SS}(y:σ)(h1:inv y)(h2:μ y<n)(h3:Weak pr t (st y)):ybpj pr (fun n t=>∃y,inv y/\μ y=n/\t=st y) n K .normal t :=
 ⟨μ y,st y,h2,⟨y,h1,rfl,rfl⟩,h3⟩
def Returns(P:Program)(g:FuncId)(args:List SV)(r:SV):Prop:=Ct P g args (· = r)
theorem Returns.of{P:Program}{g:FuncId}{args:List SV}{r:SV}(h:Ct P g args fun x=>Sim x r):Returns P g args r:=fun G m us h1 h2 h3=>by
 obtain⟨v,m',x,a,b,c,d,e⟩:=h G m us h1 h2 h3;exact⟨v,m',r,a,b,c,rfl,d _ _ _ e⟩
theorem ybwf{z:Nat}{g:Nat->List SV}:Sim (.a (.slice none 0 0)) (.sl z 0 g):=fun F ω u h=>by cases h;exact .sl0 (.inl rfl)
theorem Returns.use{P:Program}{g:FuncId}{args:List SV}{r:SV}{Q:SV->Prop}(h:Returns P g args r)(hq:Q r):Ct P g args Q:=h.mono fun _ e=>e▸hq
def SimL:List SV->List SV->Prop
 |[],[]=>True
 |v::l,w::k=>Sim v w/\SimL l k
 |_,_=>False
theorem SimL.rvl{F:AM}{ω:Om}:∀{l k:List SV}{L:List Value},SimL l k->RVL F ω l L->RVL F ω k L
 |[],[],_,_,.nil=>.nil
 |_::_,_::_,_,h,.cons a b=>.cons (h.1 _ _ _ a) (h.2.rvl b)
 |[],_::_,_,h,_=>h.elim
 |_::_,[],_,h,_=>h.elim
theorem ydms{a b:List SV}(h:SimL a b)(h1:b.all one1=true):Sim (.rf a) (.rf b):=fun F ω u hr=>by
 obtain⟨bk,p,T,N,e,zz,L,rfl,g1,g2,g3,g4,_⟩:=hr.rf_inv;exact .rf g1 g2 g3 (h.rvl g4) h1
theorem yqy{a b:List SV}(h:SimL a b):Sim (.ag a) (.ag b):=fun F ω u hr=>by
 obtain⟨L,rfl,hl⟩:=hr.ag_inv;exact .ag (h.rvl hl)
theorem ybuy{a b:List SV}(h:SimL a b):Sim (.tp a) (.tp b):=fun F ω u hr=>by
 obtain⟨L,rfl,hl⟩:=hr.tp_inv;exact .tp (h.rvl hl)
theorem ygn{z n:Nat}{g g':Nat->List SV}(h:∀k,k<n->SimL (g k) (g' k)/\(g' k).all one1=true):Sim (.sl z n g) (.sl z n g'):=by
 intro F ω u hr;rcases hr.sl_inv with⟨rfl,h0⟩|⟨bk,p,cp,T,N,e,zz,L,rfl,g1,g2,g3,g4,g5,g6,g7⟩
 ·exact .sl0 h0
 ·exact .sl g1 g2 g3 g4 g5 (fun k hk=>(h k hk).1.rvl (g6 k hk)) (fun k hk=>(h k hk).2)
theorem Ct.simL{P:Program}{g:FuncId}{as bs:List SV}{Q:SV->Prop}(h:Ct P g bs Q)(hs:SimL as bs):Ct P g as Q:=fun G m us h1 h2 h3=>h G m us h1 h2 (hs.rvl h3)
theorem Returns.useS{P:Program}{g:FuncId}{as bs:List SV}{r:SV}{Q:SV->Prop}(h:Returns P g bs r)(hs:SimL as bs)(hq:Q r):Ct P g as Q:=(h.use hq).simL hs
theorem yem {P:Program}{pc:List Nm}{mu:List FuncId}{d:Bool}{rs:List (Nat×SRec)}{s:SS}{i an:Nat}{dst:Option Nat}{nx:List (Nat×SRec)->SS->Prop}{g:FuncId}{xs:List SV}{pr:List Nm}{o:Own}{as:List SV}{Q:SV->Own->Prop}
 (hcm:Cm P g pr o as Q) (ρ:List (Nat×Nat)) (base:Nat) (keep kb:List Nat)
 (h:(xs.length=as.length/\ybed (to1 ρ) [] o/\allQ (ysh (to1 ρ) [] [] o ⟨slots xs 0,s.o⟩) (slots as 0)/\allQ (ylk (to1 ρ) [] [] o ⟨slots xs 0,s.o⟩) o/\allQ (fun p=>(look ρ p.1).isSome=true) o)/\ydax d an o rs=true /\
   (allQ (fun β=>live o β=true) pr/\allQ (fun p=>kb.elem p.2=false) ρ/\allQ (fun p=>cln (okN ρ pr kb) 5 p.2=true) (ydy s.f keep)/\allQ (fun p=>ycf (okN ρ pr kb) p.2) (ydm s.o kb)/\allQ (fun β=>okN ρ pr kb β=true) pc))
 (hq:∀r o',Q r o'->ymj d rs s i dst nx ρ base keep kb r o'):ycfn ⟨Ct P,Cm P,ItC P,pc,mu⟩ d rs s i an dst nx g xs:=by
 obtain⟨⟨h1,h2,h3,h4,h5⟩,h6,k1,k2,k3,k4,k5⟩:=h;exact⟨ρ,base,keep,kb,pr,o,as,h1,⟨trivial,h2,h3,h4⟩,ych h5,h6,⟨k1,ych k2,k3,k4,k5⟩,hcm.mono hq⟩
section
variable (C:CC) (K:Exit->SS->Prop) (s:SS)
def vN(b:SC):SS->Prop:=vc C b K
theorem ydpf(b:SC):vN C K b s=vc C b K s:=rfl
theorem ydcb:vc C .skip K s=K .normal s:=rfl
theorem ydml(a b:SC):vc C (.seq a b) K s=vc C a (ybqy (vN C K b) K) s:=rfl
theorem ydce(c:Operand)(a b:SC):vc C (.cond c a b) K s=ybtv (s.get c) c s (vN C K a) (vN C K b):=rfl
theorem ycbi(id:Nat)(b:SC):vc C (.block id b) K s=vc C b (ybcl id K) s:=rfl
theorem ydbp(b:SC):vc C (.loop b) K s=ycyl C.pr (vc C b) K s:=rfl
theorem ycap(g:Operand)(ps:List Nat)(a b:SC):vc C (.range g ps a b) K s=ycne C g ps (vcR a) (vcR b) K s:=rfl
theorem ycxp(id:Nat):vc C (.exit id) K s=K (.exit id) s:=rfl
theorem ydpp:vc C .no K s=False:=rfl
theorem ydli:vc C .ret K s=K .ret s:=rfl
theorem ydgz(d:Bool)(ops:List SOper):vc C (.reg d ops) K s=ymy C d (K .normal) ops 0 [] s:=rfl
theorem yzx(n:SS->Prop):ybqy n K .normal s=n s:=rfl
theorem ybki(n:SS->Prop)(i:Nat):ybqy n K (.exit i) s=K (.exit i) s:=rfl
theorem ybtn(n:SS->Prop):ybqy n K .ret s=K .ret s:=rfl
theorem ybab(n:SS->Prop):ydeq n .normal s=n s:=rfl
theorem yvz(t:SS)(fin:Own->Prop):ybjh K t fin .normal s=fin s.o:=rfl
theorem ybmv(t:SS)(fin:Own->Prop):ybjh K t fin .ret s=K .ret ⟨t.f,s.o⟩:=rfl
theorem ybdt(t:SS)(fin:Own->Prop)(id:Nat):ybjh K t fin (.exit id) s=K (.exit id) ⟨t.f,s.o⟩:=rfl
theorem yxk(id:Nat):ybcl id K .normal s=K .normal s:=rfl
theorem ybfi(id i:Nat):ybcl id K (.exit i) s=if i=id then K .normal s else K (.exit i) s:=rfl
theorem ybkz(id:Nat):ybcl id K .ret s=K .ret s:=rfl
theorem yblz(pr:List Nm)(I:Nat->SS->Prop)(n i:Nat):ybpj pr I n K (.exit i) s=K (.exit i) s:=rfl
theorem ybnu(pr:List Nm)(I:Nat->SS->Prop)(n:Nat):ybpj pr I n K .ret s=K .ret s:=rfl
theorem ybfy(rs:List SR)(Q:SV->Prop):retK rs Q .normal s=resX s rs fun vs=>vok s.o 5 (yhr vs)/\Q (view s.o 5 (yhr vs)):=rfl
theorem ybey(rs:List SR)(pr:List Nm)(Q:SV->Own->Prop):retM rs pr Q .normal s=resX s rs fun vs=>ygg pr s Q (yhr vs):=rfl
theorem ycbn(rs:List SR)(pr:List Nm)(Q:SV->Own->Prop):retM rs pr Q .ret s=resX s rs fun vs=>ygg pr s Q (yhr vs):=rfl
theorem ycfh(rs:List SR)(Q:SV->Prop):retK rs Q .ret s=resX s rs fun vs=>vok s.o 5 (yhr vs)/\Q (view s.o 5 (yhr vs)):=rfl
end
section
variable (C:CC) (d:Bool) (K:SS->Prop)
def vO(l:List SOper)(i:Nat):List (Nat×SRec)->SS->Prop:=ymy C d K l i
theorem ydpc(l:List SOper)(i:Nat)(rs:List (Nat×SRec))(s:SS):vO C d K l i rs s=ymy C d K l i rs s:=rfl
theorem yczg(i:Nat)(rs:List (Nat×SRec))(s:SS):ymy C d K [] i rs s=K s:=rfl
theorem yccz(op:SOp)(dst:Option Nat)(an:Nat)(l:List SOper)(i:Nat)(rs:List (Nat×SRec))(s:SS):ymy C d K (⟨op,dst,none,an⟩::l) i rs s=runO C d rs s i an dst (vO C d K l (i+1)) op:=rfl
theorem ybwb(op:SOp)(dst:Option Nat)(t:Nat)(w:Bool)(an:Nat)(l:List SOper)(i:Nat)(rs:List (Nat×SRec))(s:SS):ymy C d K (⟨op,dst,some (t,w),an⟩::l) i rs s=yry C d rs s i an dst (vO C d K l (i+1)) op t w (look s.f t):=rfl
def gb(c:Bool)(A B:Prop):Prop:=(c=true->A)/\(c=false->B)
def gb2(c:Bool)(A B:Prop):Prop:=(c=false->A)/\(c=true->B)
theorem gb_t(A B:Prop):gb true A B=A:=propext ⟨fun h=>h.1 rfl,fun h=>⟨fun _=>h,fun q=>by cases q⟩⟩
theorem gb_f(A B:Prop):gb false A B=B:=propext ⟨fun h=>h.2 rfl,fun h=>⟨fun q=>(nomatch q),fun _=>h⟩⟩
theorem ydpw(A B:Prop):gb2 true A B=B:=propext ⟨fun h=>h.2 rfl,fun h=>⟨fun q=>(nomatch q),fun _=>h⟩⟩
theorem ydpr(A B:Prop):gb2 false A B=A:=propext ⟨fun h=>h.1 rfl,fun h=>⟨fun _=>h,fun q=>by cases q⟩⟩
theorem gb_x(c:Bool)(A B:Prop):gb c A B=((c=true->A)/\(c=false->B)):=rfl
theorem ydpe(c:Bool)(A B:Prop):gb2 c A B=((c=false->A)/\(c=true->B)):=rfl
theorem ydda(x:Bool)(c:Operand)(s:SS)(a b:SS->Prop):ybtv (some (.b x)) c s a b=gb x (a (s.lit c true)) (b (s.lit c false)):=rfl
theorem ycei(rs:List (Nat×SRec))(s:SS)(i an:Nat)(dst:Option Nat)(nx:List (Nat×SRec)->SS->Prop)(op:SOp)(t:Nat)(c:Bool):yry C d rs s i an dst nx op t true (some (.b c))=gb c (runO C d rs (s.put (some t) (.b true)) i an dst nx op) (nx rs ((s.put (some t) (.b false)).put dst (.tp []))):=rfl
theorem ycca(rs:List (Nat×SRec))(s:SS)(i an:Nat)(dst:Option Nat)(nx:List (Nat×SRec)->SS->Prop)(op:SOp)(t:Nat)(c:Bool):yry C d rs s i an dst nx op t false (some (.b c))=gb2 c (runO C d rs (s.put (some t) (.b false)) i an dst nx op) (nx rs ((s.put (some t) (.b true)).put dst (.tp []))):=rfl
theorem ybro(rs:List (Nat×SRec))(s:SS)(i an:Nat)(dst:Option Nat)(nx:List (Nat×SRec)->SS->Prop)(op:SOp)(t:Nat)(w:Bool):yry C d rs s i an dst nx op t w (some (.tp []))=nx rs (s.put dst (.tp [])):=rfl
end
theorem ycyh(dst:Option Nat)(old:Bool)(rs:List (Nat×SRec)):yjg false dst old rs=rs:=by unfold yjg;rfl
theorem yddg(d:Bool)(dst:Option Nat)(rs:List (Nat×SRec)):yjg d dst true rs=rs:=by unfold yjg;cases d<;>cases dst<;>rfl
theorem ydbz(d old:Bool)(rs:List (Nat×SRec)):yjg d none old rs=rs:=by unfold yjg;cases d<;>rfl
theorem yczh(t:Nat)(rs:List (Nat×SRec)):yjg true (some t) false rs=(1000+t,SRec.no)::rs:=rfl
theorem ydco(d:Bool)(an:Nat)(r:SRec)(rs:List (Nat×SRec)):ycdv d an false r rs=fits d an r rs:=rfl
theorem ycyu(d:Bool)(an:Nat)(r:SRec)(rs:List (Nat×SRec)):ycdv d an true r rs=(!d||rs.all fun q=>Nat.testBit an q.1 || !(yls r q.2)):=rfl
theorem ydde{α:Type}{a:α}{p:α->Prop}:(∃v,some a=some v/\p v)↔p a:=⟨fun⟨_,h,q⟩=>by cases h;exact q,fun h=>⟨a,rfl,h⟩⟩
theorem yddp{n:Nat}(k:IntKind)(x:Int):owned (n+1) (.i k x)=false:=rfl
theorem ycfg{n:Nat}(k:IntKind)(x:Int):scalar (n+1) (.i k x)=true:=rfl
theorem ydnz{n:Nat}(o:Own)(k:IntKind)(x:Int):view o (n+1) (.i k x)=(.i k x):=rfl
theorem ydon{n:Nat}(o:Own)(k:IntKind)(x:Int):vok o (n+1) (.i k x)=True:=rfl
theorem ygz{n:Nat}(ρ:Nm->Nm)(k:IntKind)(x:Int):ren ρ (n+1) (.i k x)=(.i k x):=rfl
theorem ydoi{n:Nat}(D:Nm->Bool)(k:IntKind)(x:Int):cln D (n+1) (.i k x)=true:=rfl
theorem ydnd(k:IntKind)(x:Int):one1 (.i k x)=true:=rfl
theorem ydaj{n:Nat}(x:Bool):owned (n+1) (.b x)=false:=rfl
theorem ycao{n:Nat}(x:Bool):scalar (n+1) (.b x)=true:=rfl
theorem ydnx{n:Nat}(o:Own)(x:Bool):view o (n+1) (.b x)=(.b x):=rfl
theorem ydpx{n:Nat}(o:Own)(x:Bool):vok o (n+1) (.b x)=True:=rfl
theorem ydpb{n:Nat}(ρ:Nm->Nm)(x:Bool):ren ρ (n+1) (.b x)=(.b x):=rfl
theorem ydpv{n:Nat}(D:Nm->Bool)(x:Bool):cln D (n+1) (.b x)=true:=rfl
theorem ydic(x:Bool):one1 (.b x)=true:=rfl
theorem yddx{n:Nat}(x:Value):owned (n+1) (.a x)=false:=rfl
theorem yccx{n:Nat}(x:Value):scalar (n+1) (.a x)=true:=rfl
theorem ydfk{n:Nat}(o:Own)(x:Value):view o (n+1) (.a x)=(.a x):=rfl
theorem ydpy{n:Nat}(o:Own)(x:Value):vok o (n+1) (.a x)=True:=rfl
theorem ycbc{n:Nat}(ρ:Nm->Nm)(x:Value):ren ρ (n+1) (.a x)=(.a x):=rfl
theorem ydom{n:Nat}(D:Nm->Bool)(x:Value):cln D (n+1) (.a x)=true:=rfl
theorem ydgm(x:Value):one1 (.a x)=true:=rfl
theorem ycbx{n:Nat}(z k:Nat)(g:Nat->List SV):owned (n+1) (.sl z k g)=false:=rfl
theorem ybyt{n:Nat}(z k:Nat)(g:Nat->List SV):scalar (n+1) (.sl z k g)=false:=rfl
theorem yddi{n:Nat}(o:Own)(z k:Nat)(g:Nat->List SV):view o (n+1) (.sl z k g)=(.sl z k g):=rfl
theorem ydjp{n:Nat}(o:Own)(z k:Nat)(g:Nat->List SV):vok o (n+1) (.sl z k g)=True:=rfl
theorem yzy{n:Nat}(ρ:Nm->Nm)(z k:Nat)(g:Nat->List SV):ren ρ (n+1) (.sl z k g)=(.sl z k g):=rfl
theorem ydkn{n:Nat}(D:Nm->Bool)(z k:Nat)(g:Nat->List SV):cln D (n+1) (.sl z k g)=true:=rfl
theorem ybnw(z k:Nat)(g:Nat->List SV):one1 (.sl z k g)=true:=rfl
theorem ycat{n:Nat}(c:List SV):owned (n+1) (.rf c)=false:=rfl
theorem ybwv{n:Nat}(c:List SV):scalar (n+1) (.rf c)=false:=rfl
theorem ydal{n:Nat}(o:Own)(c:List SV):view o (n+1) (.rf c)=(.rf c):=rfl
theorem ydfe{n:Nat}(o:Own)(c:List SV):vok o (n+1) (.rf c)=True:=rfl
theorem ydfi{n:Nat}(ρ:Nm->Nm)(c:List SV):ren ρ (n+1) (.rf c)=(.rf c):=rfl
theorem ydis{n:Nat}(D:Nm->Bool)(c:List SV):cln D (n+1) (.rf c)=true:=rfl
theorem ycyj(c:List SV):one1 (.rf c)=true:=rfl
theorem ycet{n:Nat}(Q:(Nat->Option ABlk)->Value->Prop)(v:SV):owned (n+1) (.ex Q v)=false:=rfl
theorem ybrm{n:Nat}(Q:(Nat->Option ABlk)->Value->Prop)(v:SV):scalar (n+1) (.ex Q v)=false:=rfl
theorem ydcv{n:Nat}(o:Own)(Q:(Nat->Option ABlk)->Value->Prop)(v:SV):view o (n+1) (.ex Q v) = .ex Q v:=rfl
theorem ydhh{n:Nat}(o:Own)(Q:(Nat->Option ABlk)->Value->Prop)(v:SV):vok o (n+1) (.ex Q v)=True:=rfl
theorem ycvv{n:Nat}(ρ:Nm->Nm)(Q:(Nat->Option ABlk)->Value->Prop)(v:SV):ren ρ (n+1) (.ex Q v) = .ex Q v:=rfl
theorem ydld{n:Nat}(D:Nm->Bool)(Q:(Nat->Option ABlk)->Value->Prop)(v:SV):cln D (n+1) (.ex Q v)=true:=rfl
theorem yddw(Q:(Nat->Option ABlk)->Value->Prop)(v:SV):one1 (.ex Q v)=one1 v:=rfl
theorem yso(Q:(Nat->Option ABlk)->Value->Prop)(v:SV):Sim (.ex Q v) v:=fun F ω u h=>by
 cases h with
 |ex _ _ h=>exact h.mono (Le.refl _) (ytz _)
theorem ybsg{n:Nat} :owned (n+1) .bad=true:=rfl
theorem ybmi{n:Nat} :scalar (n+1) .bad=false:=rfl
theorem ycay{n:Nat}(o:Own) :view o (n+1) .bad = .bad:=rfl
theorem ydcw{n:Nat}(o:Own) :vok o (n+1) .bad=False:=rfl
theorem ydas{n:Nat}(ρ:Nm->Nm) :ren ρ (n+1) .bad = .bad:=rfl
theorem yddu{n:Nat}(D:Nm->Bool) :cln D (n+1) .bad=true:=rfl
theorem ycdo :one1 .bad=false:=rfl
theorem ycav{n:Nat}(c:List SV):owned (n+1) (.ag c)=c.any (owned n):=rfl
theorem ybrn{n:Nat}(c:List SV):scalar (n+1) (.ag c)=c.all (scalar n):=rfl
theorem ydam{n:Nat}(o:Own)(c:List SV):view o (n+1) (.ag c) = .ag (c.map (view o n)):=rfl
theorem ydnf{n:Nat}(o:Own)(c:List SV):vok o (n+1) (.ag c)=allP (vok o n) c:=rfl
theorem ypi{n:Nat}(ρ:Nm->Nm)(c:List SV):ren ρ (n+1) (.ag c) = .ag (c.map (ren ρ n)):=rfl
theorem ydjr{n:Nat}(D:Nm->Bool)(c:List SV):cln D (n+1) (.ag c)=c.all (cln D n):=rfl
theorem ycxl(c:List SV):one1 (.ag c)=false:=rfl
theorem yccf{n:Nat}(c:List SV):owned (n+1) (.tp c)=c.any (owned n):=rfl
theorem ybqv{n:Nat}(c:List SV):scalar (n+1) (.tp c)=c.all (scalar n):=rfl
theorem ycxw{n:Nat}(o:Own)(c:List SV):view o (n+1) (.tp c) = .tp (c.map (view o n)):=rfl
theorem ydnl{n:Nat}(o:Own)(c:List SV):vok o (n+1) (.tp c)=allP (vok o n) c:=rfl
theorem ysc{n:Nat}(ρ:Nm->Nm)(c:List SV):ren ρ (n+1) (.tp c) = .tp (c.map (ren ρ n)):=rfl
theorem ydie{n:Nat}(D:Nm->Bool)(c:List SV):cln D (n+1) (.tp c)=c.all (cln D n):=rfl
theorem ydds(c:List SV):one1 (.tp c)=false:=rfl
theorem ycaj{n:Nat}(g:FuncId)(a b:List SV):owned (n+1) (.fn g a b)=(a.any (owned n)||b.any (owned n)):=rfl
theorem ybsi{n:Nat}(g:FuncId)(a b:List SV):scalar (n+1) (.fn g a b)=false:=rfl
theorem yddc{n:Nat}(o:Own)(g:FuncId)(a b:List SV):view o (n+1) (.fn g a b) = .fn g (a.map (view o n)) (b.map (view o n)):=rfl
theorem ydlo{n:Nat}(o:Own)(g:FuncId)(a b:List SV):vok o (n+1) (.fn g a b)=(allP (vok o n) a/\allP (vok o n) b):=rfl
theorem ycjn{n:Nat}(ρ:Nm->Nm)(g:FuncId)(a b:List SV):ren ρ (n+1) (.fn g a b) = .fn g (a.map (ren ρ n)) (b.map (ren ρ n)):=rfl
theorem ydgc{n:Nat}(D:Nm->Bool)(g:FuncId)(a b:List SV):cln D (n+1) (.fn g a b)=(a.all (cln D n)&&b.all (cln D n)):=rfl
theorem ydag(g:FuncId)(a b:List SV):one1 (.fn g a b)=true:=rfl
theorem ycbk{n:Nat}(β:Nm)(i j:Nat):owned (n+1) (.pt β i j)=true:=rfl
theorem ybtp{n:Nat}(β:Nm)(i j:Nat):scalar (n+1) (.pt β i j)=false:=rfl
theorem ydba{n:Nat}(o:Own)(β:Nm)(i j:Nat):view o (n+1) (.pt β i j)=(match lookO o β with|some b=>.rf ((((b.g i).drop j)).map (view o n))|none=>.bad):=rfl
theorem ydmx{n:Nat}(o:Own)(β:Nm)(i j:Nat):vok o (n+1) (.pt β i j)=(match lookO o β with|some b=>(i<b.n/\j<=b.z)/\allP (vok o n) ((b.g i).drop j)|none=>False):=rfl
theorem ycru{n:Nat}(ρ:Nm->Nm)(β:Nm)(i j:Nat):ren ρ (n+1) (.pt β i j) = .pt (ρ β) i j:=rfl
theorem ydks{n:Nat}(D:Nm->Bool)(β:Nm)(i j:Nat):cln D (n+1) (.pt β i j)=D β:=rfl
theorem ycya(β:Nm)(i j:Nat):one1 (.pt β i j)=true:=rfl
theorem ycba{n:Nat}(β:Nm)(p k:Nat)(ap:Bool):owned (n+1) (.os β p k ap)=true:=rfl
theorem ybwy{n:Nat}(β:Nm)(p k:Nat)(ap:Bool):scalar (n+1) (.os β p k ap)=false:=rfl
theorem ycxn{n:Nat}(o:Own)(β:Nm)(p k:Nat)(ap:Bool):view o (n+1) (.os β p k ap)=(match lookO o β with|some b=>.sl b.z k (fun q=>(b.g (p+q)).map (view o n))|none=>.bad):=rfl
theorem ydfr{n:Nat}(o:Own)(β:Nm)(p k:Nat)(ap:Bool):vok o (n+1) (.os β p k ap)=(match lookO o β with|some b=>p+k<=b.n/\∀q,q<k->allP (vok o n) (b.g (p+q))|none=>False):=rfl
theorem yjb{n:Nat}(ρ:Nm->Nm)(β:Nm)(p k:Nat)(ap:Bool):ren ρ (n+1) (.os β p k ap) = .os (ρ β) p k ap:=rfl
theorem ydni{n:Nat}(D:Nm->Bool)(β:Nm)(p k:Nat)(ap:Bool):cln D (n+1) (.os β p k ap)=D β:=rfl
theorem yczm(β:Nm)(p k:Nat)(ap:Bool):one1 (.os β p k ap)=true:=rfl
theorem any_false{α:Type}{p:α->Bool}{l:List α}(h:l.any p=false):∀x∈l,p x=false:=fun x hx=>by
 cases hq:p x with
 |false=>rfl
 |true=>rw[List.any_eq_true.2 ⟨x,hx,hq⟩]at h;cases h
theorem ydo{α:Type}{p:α->Bool}{l:List α}(h:∀x∈l,p x=false):l.any p=false:=by
 cases hq:l.any p with
 |false=>rfl
 |true=>obtain⟨x,h1,h2⟩:=List.any_eq_true.1 hq;rw[h x h1]at h2;cases h2
theorem yik:∀{n:Nat}{v:SV},owned n v=false->owned (n+1) v=false
 |0,_,h=>by cases h
 | n + 1,v,h=>by
   cases v with
   |ag c=>exact ydo fun x hx=>yik (any_false h x hx)
   |tp c=>exact ydo fun x hx=>yik (any_false h x hx)
   | fn g a b =>
     have h:(_||_)=false:=h;rw[zA]at h;show(_||_)=false;rw[zA];exact⟨ydo fun x hx=>yik (any_false h.1 x hx),ydo fun x hx=>yik (any_false h.2 x hx)⟩
   |_=>first|rfl|cases h
theorem ykx{n:Nat}{l:List SV}(h:l.any (owned n)=false):l.any (owned (n+1))=false:=ydo fun x hx=>yik (any_false h x hx)
theorem yyy(ρ:Nm->Nm):∀{n:Nat}{v:SV},owned n v=false->ren ρ n v=v
 |0,_,h=>by cases h
 | n + 1,v,h=>by
   have ml:∀{l:List SV},l.any (owned n)=false->l.map (ren ρ n)=l:=fun {l} h=>by
    induction l with
    |nil=>rfl
    |cons x l ih=>rw[zC,yyy ρ (any_false h x zD),ih (ydo fun y hy=>any_false h y (zB _ hy))]
   cases v with
   |ag c=>show SV.ag _=_;rw[ml h]
   |tp c=>show SV.tp _=_;rw[ml h]
   | fn g a b =>
     have h:(_||_)=false:=h;rw[zA]at h;show SV.fn g _ _=_;rw[ml h.1,ml h.2]
   |_=>first|rfl|cases h
theorem yfh(ρ:Nm->Nm){n:Nat}{l:List SV}(h:l.any (owned n)=false):l.map (ren ρ n)=l:=by
 induction l with
 |nil=>rfl
 |cons x l ih=>rw[zC,yyy ρ (any_false h x zD),ih (ydo fun y hy=>any_false h y (zB _ hy))]
theorem ybby(D:Nm->Bool):∀{n:Nat}{v:SV},owned n v=false->cln D n v=true
 |0,_,h=>by cases h
 | n + 1,v,h=>by
   have ml:∀{l:List SV},l.any (owned n)=false->l.all (cln D n)=true:=fun {l} h=>List.all_eq_true.2 fun x hx=>ybby D (any_false h x hx);cases v with
   |ag c=>exact ml h
   |tp c=>exact ml h
   | fn g a b =>
     have h:(_||_)=false:=h;rw[zA]at h;show(_&&_)=true;rw[ml h.1,ml h.2];rfl
   |_=>first|rfl|cases h
theorem yfb(D:Nm->Bool){n:Nat}{l:List SV}(h:l.any (owned n)=false):l.all (cln D n)=true:=List.all_eq_true.2 fun x hx=>ybby D (any_false h x hx)
end Sh
end
end Go.Proofs.YtiejahgklcjhkaaGreatDoor
