/- Joined. -/
import Derived.Test.YtiejahgklcjhkaaGreatPkY6
set_option linter.unusedSimpArgs false
set_option linter.unusedVariables false
open Bool renaming or_eq_false_iff→zA
open List renaming mem_cons_of_mem→zB,map_cons→zC,mem_cons_self→zD
open Iff renaming rfl→zF
open Go
namespace Go.Proofs.YtiejahgklcjhkaaGreat
section
namespace Sh
open Go Ev
theorem Sim.refl(v:SV):Sim v v:=fun _ _ _ h=>h
theorem yg(v:SV):Sim v v↔True:=⟨fun _=>trivial,fun _=>Sim.refl v⟩
theorem ybb{k k':IntKind}{a b:Int}:Sim (.i k a) (.i k' b)↔k=k'/\a=b :=
 ⟨fun h=>by have:=h (fun _=>none) om0 _ .i;cases this;exact⟨rfl,rfl⟩,fun h=>by rw[h.1,h.2];exact Sim.refl _⟩
theorem yer{a b:Bool}:Sim (.b a) (.b b)↔a=b :=
 ⟨fun h=>by have:=h (fun _=>none) om0 _ .b;cases this;rfl,fun h=>by rw[h];exact Sim.refl _⟩
theorem ybbz{z n:Nat}{g g':Nat->List SV}(h:∀k,k<n->g k=g' k):Sim (.sl z n g) (.sl z n g'):=by
 intro F ω u hr;rcases hr.sl_inv with⟨rfl,h0⟩|⟨bk,p,cp,T,N,e,zz,L,rfl,g1,g2,g3,g4,g5,g6,g7⟩
 ·exact .sl0 h0
 ·exact .sl g1 g2 g3 g4 g5 (fun k hk=>h k hk▸g6 k hk) (fun k hk=>h k hk▸g7 k hk)
theorem ybar {pr:List Nm}(ρ:List (Nat×(Nat->Nm))) (vir:List Nat) (fr:List Nm) {s t:SS}(h1:ytk s.o fr) (h2:ybap (rid ρ) vir t.o) (h3:allQ (ypz (rid ρ) vir fr t.o s) t.f) (h4:allQ (yjp (rid ρ) vir fr t.o s) t.o)
 (hp:allQ (fun β=>live t.o β=true/\vir.elem β.1=false/\rid ρ β=β) pr):Weak pr s t:=WeakBy.weak ⟨h1,h2,h3,h4⟩ hp
theorem ycic(ρ:List (Nat×(Nat->Nm)))(vir:List Nat)(fr:List Nm){s t:SS}(h1:ytk s.o fr)(h2:ybap (rid ρ) vir t.o)(h3:allQ (ypz (rid ρ) vir fr t.o s) t.f)(h4:allQ (yjp (rid ρ) vir fr t.o s) t.o):Weak [] s t:=ybar ρ vir fr h1 h2 h3 h4 trivial
theorem yh(ρ:List (Nat×(Nat->Nm)))(vir:List Nat)(fr:List Nm){s t:SS}(h:ytk s.o fr/\ybap (rid ρ) vir t.o/\allQ (ypz (rid ρ) vir fr t.o s) t.f/\allQ (yjp (rid ρ) vir fr t.o s) t.o):Weak [] s t:=ycic ρ vir fr h.1 h.2.1 h.2.2.1 h.2.2.2
theorem yyg{pr:List Nm}(ρ:List (Nat×(Nat->Nm)))(vir:List Nat)(fr:List Nm){s t:SS}(h:(ytk s.o fr/\ybap (rid ρ) vir t.o/\allQ (ypz (rid ρ) vir fr t.o s) t.f/\allQ (yjp (rid ρ) vir fr t.o s) t.o)/\allQ (fun β=>live t.o β=true/\vir.elem β.1=false/\rid ρ β=β) pr):Weak pr s t:=ybar ρ vir fr h.1.1 h.1.2.1 h.1.2.2.1 h.1.2.2.2 h.2
theorem yyf(o:Own):∀(n:Nat) (v:SV),yct [] o n v=v
 |0,_=>rfl
 | n + 1,v=>by
   have ml:∀l:List SV,l.map (yct [] o n)=l:=fun l=>by
    induction l with
    |nil=>rfl
    |cons x l ih=>rw[zC,yyf o n x,ih]
   cases v with
   |ag c=>show SV.ag _=_;rw[ml]
   |tp c=>show SV.tp _=_;rw[ml]
   |fn g a b=>show SV.fn g _ _=_;rw[ml,ml]
   |_=>rfl
theorem ybjm(o:Own):∀(n:Nat) (v:SV),pok [] o n v↔True
 |0,_=>zF
 | n + 1,v=>by
   have ml:∀l:List SV,allP (pok [] o n) l:=fun l=>by
    induction l with
    |nil=>trivial
    |cons x l ih=>exact⟨(ybjm o n x).2 trivial,ih⟩
   cases v with
   |ag c=>exact⟨fun _=>trivial,fun _=>ml _⟩
   |tp c=>exact⟨fun _=>trivial,fun _=>ml _⟩
   |fn g a b=>exact⟨fun _=>trivial,fun _=>⟨ml _,ml _⟩⟩
   |pt β i j=>exact⟨fun _=>trivial,fun _ h=>by cases h⟩
   |os β p k c=>exact⟨fun _=>trivial,fun _ h=>by cases h⟩
   |_=>exact zF
theorem ycer{n:Nat}(fr:List Nm)(o:Own)(k:IntKind)(x:Int):yct fr o (n+1) (.i k x)=(.i k x):=rfl
theorem ycug{n:Nat}(fr:List Nm)(o:Own)(k:IntKind)(x:Int):pok fr o (n+1) (.i k x)=True:=rfl
theorem ycfn{n:Nat}(fr:List Nm)(o:Own)(x:Bool):yct fr o (n+1) (.b x)=(.b x):=rfl
theorem yctm{n:Nat}(fr:List Nm)(o:Own)(x:Bool):pok fr o (n+1) (.b x)=True:=rfl
theorem ycjf{n:Nat}(fr:List Nm)(o:Own)(x:Value):yct fr o (n+1) (.a x)=(.a x):=rfl
theorem ycuh{n:Nat}(fr:List Nm)(o:Own)(x:Value):pok fr o (n+1) (.a x)=True:=rfl
theorem ybtc{n:Nat}(fr:List Nm)(o:Own)(z k:Nat)(g:Nat->List SV):yct fr o (n+1) (.sl z k g)=(.sl z k g):=rfl
theorem ycol{n:Nat}(fr:List Nm)(o:Own)(z k:Nat)(g:Nat->List SV):pok fr o (n+1) (.sl z k g)=True:=rfl
theorem ybta{n:Nat}(fr:List Nm)(o:Own)(c:List SV):yct fr o (n+1) (.rf c)=(.rf c):=rfl
theorem ycly{n:Nat}(fr:List Nm)(o:Own)(c:List SV):pok fr o (n+1) (.rf c)=True:=rfl
theorem ybtg{n:Nat}(fr:List Nm)(o:Own)(Q:(Nat->Option ABlk)->Value->Prop)(v:SV):yct fr o (n+1) (.ex Q v)=(.ex Q v):=rfl
theorem ycos{n:Nat}(fr:List Nm)(o:Own)(Q:(Nat->Option ABlk)->Value->Prop)(v:SV):pok fr o (n+1) (.ex Q v)=True:=rfl
theorem ybti{n:Nat}(fr:List Nm)(o:Own)(c:List SV):yct fr o (n+1) (.ag c) = .ag (c.map (yct fr o n)):=rfl
theorem ycrn{n:Nat}(fr:List Nm)(o:Own)(c:List SV):pok fr o (n+1) (.ag c)=allP (pok fr o n) c:=rfl
theorem ybqm{n:Nat}(fr:List Nm)(o:Own)(c:List SV):yct fr o (n+1) (.tp c) = .tp (c.map (yct fr o n)):=rfl
theorem ycrp{n:Nat}(fr:List Nm)(o:Own)(c:List SV):pok fr o (n+1) (.tp c)=allP (pok fr o n) c:=rfl
theorem ybto{n:Nat}(fr:List Nm)(o:Own)(g:FuncId)(a b:List SV):yct fr o (n+1) (.fn g a b) = .fn g (a.map (yct fr o n)) (b.map (yct fr o n)):=rfl
theorem ycsh{n:Nat}(fr:List Nm)(o:Own)(g:FuncId)(a b:List SV):pok fr o (n+1) (.fn g a b)=(allP (pok fr o n) a/\allP (pok fr o n) b):=rfl
theorem ybqh{n:Nat}(fr:List Nm)(o:Own)(β:Nm)(i j:Nat):yct fr o (n+1) (.pt β i j)=(if nmem fr β=true then(match lookO o β with|some b=>.rf ((b.g i).drop j)|none=>.bad)else .pt β i j):=rfl
theorem yclh{n:Nat}(fr:List Nm)(o:Own)(β:Nm)(i j:Nat):pok fr o (n+1) (.pt β i j)=(nmem fr β=true->(match lookO o β with|some b=>i<b.n/\j<=b.z|none=>False)):=rfl
theorem ybpx{n:Nat}(fr:List Nm)(o:Own)(β:Nm)(p k:Nat)(ap:Bool):yct fr o (n+1) (.os β p k ap)=(if nmem fr β=true then(match lookO o β with|some b=>.sl b.z k (fun q=>b.g (p+q))|none=>.bad)else .os β p k ap):=rfl
theorem ycps{n:Nat}(fr:List Nm)(o:Own)(β:Nm)(p k:Nat)(ap:Bool):pok fr o (n+1) (.os β p k ap)=(nmem fr β=true->(match lookO o β with|some b=>p+k<=b.n|none=>False)):=rfl
theorem ycfl(k:IntKind)(x:Int):SV.cells (.i k x)=[(.i k x)]:=rfl
theorem ycfc(x:Bool):SV.cells (.b x)=[(.b x)]:=rfl
theorem ycgg(x:Value):SV.cells (.a x)=[(.a x)]:=rfl
theorem ybtm(z k:Nat)(g:Nat->List SV):SV.cells (.sl z k g)=[(.sl z k g)]:=rfl
theorem ybrt(c:List SV):SV.cells (.rf c)=[(.rf c)]:=rfl
theorem ybup(Q:(Nat->Option ABlk)->Value->Prop)(v:SV):SV.cells (.ex Q v)=[(.ex Q v)]:=rfl
theorem ybtp(c:List SV):SV.cells (.tp c)=[(.tp c)]:=rfl
theorem ybrx(g:FuncId)(a b:List SV):SV.cells (.fn g a b)=[(.fn g a b)]:=rfl
theorem ybut(β:Nm)(i j:Nat):SV.cells (.pt β i j)=[(.pt β i j)]:=rfl
theorem ybqk(β:Nm)(p k:Nat)(ap:Bool):SV.cells (.os β p k ap)=[(.os β p k ap)]:=rfl
theorem ybsa(c:List SV):SV.cells (.ag c)=c:=rfl
theorem ybj {pr:List Nm}{body:(Exit->SS->Prop)->SS->Prop}{K:Exit->SS->Prop}{s:SS}{σ:Type}(st:σ->SS) (inv:σ->Prop) (μ:σ->Nat) (x0:σ) (h0:inv x0) (hs:Weak pr s (st x0))
 (hstep:∀x,inv x->body (ybiw pr (fun n t=>∃y,inv y/\μ y=n/\t=st y) (μ x) K) (st x)):ycfy pr body K s :=
 ⟨fun n t=>∃y,inv y/\μ y=n/\t=st y,⟨μ x0,st x0,⟨x0,h0,rfl,rfl⟩,hs⟩,fun n t ⟨y,h1,h2,h3⟩=>by subst h2 h3;exact hstep y h1⟩
theorem yu{pr:List Nm}{σ:Type}{st:σ->SS}{inv:σ->Prop}{μ:σ->Nat}{n:Nat}{K:Exit->SS->Prop}{t:SS}(y:σ)(h1:inv y)(h2:μ y<n)(h3:Weak pr t (st y)):ybiw pr (fun n t=>∃y,inv y/\μ y=n/\t=st y) n K .normal t :=
 ⟨μ y,st y,h2,⟨y,h1,rfl,rfl⟩,h3⟩
def Returns(P:Program)(g:FuncId)(args:List SV)(r:SV):Prop:=Ct P g args (· = r)
theorem Returns.of{P:Program}{g:FuncId}{args:List SV}{r:SV}(h:Ct P g args fun x=>Sim x r):Returns P g args r:=fun G m us h1 h2 h3=>by
 obtain⟨v,m',x,a,b,c,d,e⟩:=h G m us h1 h2 h3;exact⟨v,m',r,a,b,c,rfl,d _ _ _ e⟩
theorem Returns.use{P:Program}{g:FuncId}{args:List SV}{r:SV}{Q:SV->Prop}(h:Returns P g args r)(hq:Q r):Ct P g args Q:=h.mono fun _ e=>e▸hq
def SimL:List SV->List SV->Prop
 |[],[]=>True
 |v::l,w::k=>Sim v w/\SimL l k
 |_,_=>False
theorem SimL.rvl{F:AM}{ω:Om}:∀{l k:List SV}{L:List Value},SimL l k->RVL F ω l L->RVL F ω k L
 |[],[],_,_,.nil=>.nil
 |_::_,_::_,_,h,.cons a b=>.cons (h.1 _ _ _ a) (h.2.rvl b)
 |[],_::_,_,h,_=>h.elim
 |_::_,[],_,h,_=>h.elim
theorem ycks{a b:List SV}(h:SimL a b)(h1:b.all one1=true):Sim (.rf a) (.rf b):=fun F ω u hr=>by
 obtain⟨bk,p,T,N,e,zz,L,rfl,g1,g2,g3,g4,_⟩:=hr.rf_inv;exact .rf g1 g2 g3 (h.rvl g4) h1
theorem yyi{a b:List SV}(h:SimL a b):Sim (.ag a) (.ag b):=fun F ω u hr=>by
 obtain⟨L,rfl,hl⟩:=hr.ag_inv;exact .ag (h.rvl hl)
theorem yil{z n:Nat}{g g':Nat->List SV}(h:∀k,k<n->SimL (g k) (g' k)/\(g' k).all one1=true):Sim (.sl z n g) (.sl z n g'):=by
 intro F ω u hr;rcases hr.sl_inv with⟨rfl,h0⟩|⟨bk,p,cp,T,N,e,zz,L,rfl,g1,g2,g3,g4,g5,g6,g7⟩
 ·exact .sl0 h0
 ·exact .sl g1 g2 g3 g4 g5 (fun k hk=>(h k hk).1.rvl (g6 k hk)) (fun k hk=>(h k hk).2)
theorem Ct.simL{P:Program}{g:FuncId}{as bs:List SV}{Q:SV->Prop}(h:Ct P g bs Q)(hs:SimL as bs):Ct P g as Q:=fun G m us h1 h2 h3=>h G m us h1 h2 (hs.rvl h3)
theorem Returns.useS{P:Program}{g:FuncId}{as bs:List SV}{r:SV}{Q:SV->Prop}(h:Returns P g bs r)(hs:SimL as bs)(hq:Q r):Ct P g as Q:=(h.use hq).simL hs
theorem yga {P:Program}{pc:List Nm}{mu:List FuncId}{d:Bool}{rs:List (Nat×SRec)}{s:SS}{i an:Nat}{dst:Option Nat}{nx:List (Nat×SRec)->SS->Prop}{g:FuncId}{xs:List SV}{pr:List Nm}{o:Own}{as:List SV}{Q:SV->Own->Prop}
 (hcm:Cm P g pr o as Q) (ρ:List (Nat×Nat)) (base:Nat) (keep kb:List Nat)
 (h:(xs.length=as.length/\ybap (to1 ρ) [] o/\allQ (ypz (to1 ρ) [] [] o ⟨slots xs 0,s.o⟩) (slots as 0)/\allQ (yjp (to1 ρ) [] [] o ⟨slots xs 0,s.o⟩) o/\allQ (fun p=>(look ρ p.1).isSome=true) o)/\ycjg d an o rs=true /\
   (allQ (fun β=>live o β=true) pr/\allQ (fun p=>kb.elem p.2=false) ρ/\allQ (fun p=>cln (okN ρ pr kb) 5 p.2=true) (yey s.f keep)/\allQ (fun p=>ydh (okN ρ pr kb) p.2) (yeg s.o kb)/\allQ (fun β=>okN ρ pr kb β=true) pc))
 (hq:∀r o',Q r o'->yqj d rs s i dst nx ρ base keep kb r o'):ybqu ⟨Ct P,Cm P,ItC P,pc,mu⟩ d rs s i an dst nx g xs:=by
 obtain⟨⟨h1,h2,h3,h4,h5⟩,h6,k1,k2,k3,k4,k5⟩:=h;exact⟨ρ,base,keep,kb,pr,o,as,h1,⟨trivial,h2,h3,h4⟩,yby h5,h6,⟨k1,yby k2,k3,k4,k5⟩,hcm.mono hq⟩
section
variable (C:CC) (K:Exit->SS->Prop) (s:SS)
def vN(b:SC):SS->Prop:=vc C b K
theorem ycud(b:SC):vN C K b s=vc C b K s:=rfl
theorem ycjv:vc C .skip K s=K .normal s:=rfl
theorem ycko(a b:SC):vc C (.seq a b) K s=vc C a (ybiv (vN C K b) K) s:=rfl
theorem ycje(c:Operand)(a b:SC):vc C (.cond c a b) K s=ybod (s.get c) c s (vN C K a) (vN C K b):=rfl
theorem ybsg(id:Nat)(b:SC):vc C (.block id b) K s=vc C b (yxu id K) s:=rfl
theorem ycji(b:SC):vc C (.loop b) K s=ycfy C.pr (vc C b) K s:=rfl
theorem ybqs(g:Operand)(ps:List Nat)(a b:SC):vc C (.range g ps a b) K s=ybhw C g ps (vcR a) (vcR b) K s:=rfl
theorem ychb(id:Nat):vc C (.exit id) K s=K (.exit id) s:=rfl
theorem yctz:vc C .no K s=False:=rfl
theorem ycqa:vc C .ret K s=K .ret s:=rfl
theorem ycqu(d:Bool)(ops:List SOper):vc C (.reg d ops) K s=ykl C d (K .normal) ops 0 [] s:=rfl
theorem ywg(n:SS->Prop):ybiv n K .normal s=n s:=rfl
theorem ybez(n:SS->Prop)(i:Nat):ybiv n K (.exit i) s=K (.exit i) s:=rfl
theorem yboq(n:SS->Prop):ybiv n K .ret s=K .ret s:=rfl
theorem yvf(n:SS->Prop):ycjn n .normal s=n s:=rfl
theorem yuq(t:SS)(fin:Own->Prop):yvg K t fin .normal s=fin s.o:=rfl
theorem ybeb(t:SS)(fin:Own->Prop):yvg K t fin .ret s=K .ret ⟨t.f,s.o⟩:=rfl
theorem yzq(t:SS)(fin:Own->Prop)(id:Nat):yvg K t fin (.exit id) s=K (.exit id) ⟨t.f,s.o⟩:=rfl
theorem yus(id:Nat):yxu id K .normal s=K .normal s:=rfl
theorem ybba(id i:Nat):yxu id K (.exit i) s=if i=id then K .normal s else K (.exit i) s:=rfl
theorem ybgv(id:Nat):yxu id K .ret s=K .ret s:=rfl
theorem ybef(pr:List Nm)(I:Nat->SS->Prop)(n i:Nat):ybiw pr I n K (.exit i) s=K (.exit i) s:=rfl
theorem ybhj(pr:List Nm)(I:Nat->SS->Prop)(n:Nat):ybiw pr I n K .ret s=K .ret s:=rfl
theorem ybbe(rs:List SR)(Q:SV->Prop):retK rs Q .normal s=resX s rs fun vs=>vok s.o 5 (ygl vs)/\Q (view s.o 5 (ygl vs)):=rfl
theorem ybak(rs:List SR)(pr:List Nm)(Q:SV->Own->Prop):retM rs pr Q .normal s=resX s rs fun vs=>yic pr s Q (ygl vs):=rfl
theorem ybqo(rs:List SR)(pr:List Nm)(Q:SV->Own->Prop):retM rs pr Q .ret s=resX s rs fun vs=>yic pr s Q (ygl vs):=rfl
theorem ybrj(rs:List SR)(Q:SV->Prop):retK rs Q .ret s=resX s rs fun vs=>vok s.o 5 (ygl vs)/\Q (view s.o 5 (ygl vs)):=rfl
end
section
variable (C:CC) (d:Bool) (K:SS->Prop)
def vO(l:List SOper)(i:Nat):List (Nat×SRec)->SS->Prop:=ykl C d K l i
theorem ycty(l:List SOper)(i:Nat)(rs:List (Nat×SRec))(s:SS):vO C d K l i rs s=ykl C d K l i rs s:=rfl
theorem yceq(i:Nat)(rs:List (Nat×SRec))(s:SS):ykl C d K [] i rs s=K s:=rfl
theorem ybtl(op:SOp)(dst:Option Nat)(an:Nat)(l:List SOper)(i:Nat)(rs:List (Nat×SRec))(s:SS):ykl C d K (⟨op,dst,none,an⟩::l) i rs s=runO C d rs s i an dst (vO C d K l (i+1)) op:=rfl
theorem ybpt(op:SOp)(dst:Option Nat)(t:Nat)(w:Bool)(an:Nat)(l:List SOper)(i:Nat)(rs:List (Nat×SRec))(s:SS):ykl C d K (⟨op,dst,some (t,w),an⟩::l) i rs s=ypm C d rs s i an dst (vO C d K l (i+1)) op t w (look s.f t):=rfl
def gb(c:Bool)(A B:Prop):Prop:=(c=true->A)/\(c=false->B)
def gb2(c:Bool)(A B:Prop):Prop:=(c=false->A)/\(c=true->B)
theorem gb_t(A B:Prop):gb true A B=A:=propext ⟨fun h=>h.1 rfl,fun h=>⟨fun _=>h,fun q=>by cases q⟩⟩
theorem gb_f(A B:Prop):gb false A B=B:=propext ⟨fun h=>h.2 rfl,fun h=>⟨fun q=>(nomatch q),fun _=>h⟩⟩
theorem yctu(A B:Prop):gb2 true A B=B:=propext ⟨fun h=>h.2 rfl,fun h=>⟨fun q=>(nomatch q),fun _=>h⟩⟩
theorem ycui(A B:Prop):gb2 false A B=A:=propext ⟨fun h=>h.1 rfl,fun h=>⟨fun _=>h,fun q=>by cases q⟩⟩
theorem gb_x(c:Bool)(A B:Prop):gb c A B=((c=true->A)/\(c=false->B)):=rfl
theorem ycul(c:Bool)(A B:Prop):gb2 c A B=((c=false->A)/\(c=true->B)):=rfl
theorem ycju(x:Bool)(c:Operand)(s:SS)(a b:SS->Prop):ybod (some (.b x)) c s a b=gb x (a (s.lit c true)) (b (s.lit c false)):=rfl
theorem ybtu(rs:List (Nat×SRec))(s:SS)(i an:Nat)(dst:Option Nat)(nx:List (Nat×SRec)->SS->Prop)(op:SOp)(t:Nat)(c:Bool):ypm C d rs s i an dst nx op t true (some (.b c))=gb c (runO C d rs (s.put (some t) (.b true)) i an dst nx op) (nx rs ((s.put (some t) (.b false)).put dst (.tp []))):=rfl
theorem ybra(rs:List (Nat×SRec))(s:SS)(i an:Nat)(dst:Option Nat)(nx:List (Nat×SRec)->SS->Prop)(op:SOp)(t:Nat)(c:Bool):ypm C d rs s i an dst nx op t false (some (.b c))=gb2 c (runO C d rs (s.put (some t) (.b false)) i an dst nx op) (nx rs ((s.put (some t) (.b true)).put dst (.tp []))):=rfl
theorem yblq(rs:List (Nat×SRec))(s:SS)(i an:Nat)(dst:Option Nat)(nx:List (Nat×SRec)->SS->Prop)(op:SOp)(t:Nat)(w:Bool):ypm C d rs s i an dst nx op t w (some (.tp []))=nx rs (s.put dst (.tp [])):=rfl
end
theorem ycke(dst:Option Nat)(old:Bool)(rs:List (Nat×SRec)):yhx false dst old rs=rs:=by unfold yhx;rfl
theorem ycfu(d:Bool)(dst:Option Nat)(rs:List (Nat×SRec)):yhx d dst true rs=rs:=by unfold yhx;cases d<;>cases dst<;>rfl
theorem ychw(d old:Bool)(rs:List (Nat×SRec)):yhx d none old rs=rs:=by unfold yhx;cases d<;>rfl
theorem yciv(t:Nat)(rs:List (Nat×SRec)):yhx true (some t) false rs=(1000+t,SRec.no)::rs:=rfl
theorem ycfe(d:Bool)(an:Nat)(r:SRec)(rs:List (Nat×SRec)):ybuq d an false r rs=fits d an r rs:=rfl
theorem ycev(d:Bool)(an:Nat)(r:SRec)(rs:List (Nat×SRec)):ybuq d an true r rs=(!d||rs.all fun q=>Nat.testBit an q.1 || !(ykx r q.2)):=rfl
theorem ybsj {C:CC}{gx:Operand}{ps:List Nat}{a b:SC}{K:Exit->SS->Prop}{s:SS}{g:FuncId}{caps:List SV}{S:ItS}(hit:C.it g caps S) {σ:Type}(pr:List Nm) (st:Nat->σ->SS) (inv:Nat->σ->Prop) (x0:σ) (hx0:inv 0 x0)
 (hpr:(∀β∈C.pr,β∈pr)/\∀β∈S.pr,β∈pr) (h0:Weak C.pr s (st 0 x0)) (hg:∀x,(st 0 x).get gx=some (.fn g [] caps)) (hinv:∀k x,inv k x->k<=S.n->S.own k (st k x).o/\allQ (fun p=>cln (nmem pr) 5 p.2=true) (st k x).f)
 (hround:∀k x,inv k x->k<S.n->∃t1,puts (st k x) ps (S.el k)=some t1/\vc ⟨C.ct,C.cm,C.it,pr,C.mu⟩ a (ycjn (vN ⟨C.ct,C.cm,C.it,pr,C.mu⟩ (yvg K (st k x) fun o=>S.own k o/\∃y,inv (k+1) y/\Weak pr ⟨(st k x).f,S.adv k o⟩ (st (k+1) y)) b)) t1)
 (hend:∀x,inv S.n x->K .normal (st S.n x)):ybhw C gx ps (vcR a) (vcR b) K s:=by
 refine⟨pr,fun k t=>k<=S.n/\∃x,inv k x/\t=st k x,g,caps,S,hit,hpr,⟨st 0 x0,⟨Nat.zero_le _,x0,hx0,rfl⟩,h0⟩,?_,?_,?_,?_⟩
 ·rintro t ⟨_,x,hx,rfl⟩;exact hg x
 ·rintro k t ⟨hk,x,hx,rfl⟩;exact hinv k x hx hk
 ·rintro k t ⟨_,x,hx,rfl⟩ hk;obtain⟨t1,h1,h2⟩:=hround k x hx hk;refine⟨t1,h1,?_⟩
  have e:(fun o=>S.own k o/\∃u,(k+1<=S.n/\∃x,inv (k+1) x/\u=st (k+1) x)/\Weak pr ⟨(st k x).f,S.adv k o⟩ u)=(fun o=>S.own k o/\∃y,inv (k+1) y/\Weak pr ⟨(st k x).f,S.adv k o⟩ (st (k+1) y)):=by
   funext o
   refine propext ⟨?_,?_⟩
   ·rintro⟨h,u,⟨_,y,hy,rfl⟩,hw⟩;exact⟨h,y,hy,hw⟩
   ·rintro⟨h,y,hy,hw⟩;exact⟨h,_,⟨hk,y,hy,rfl⟩,hw⟩
  rw[e];exact h2
 ·rintro t ⟨_,x,hx,rfl⟩;exact hend x hx
theorem ycez{α:Type}{a:α}{p:α->Prop}:(∃v,some a=some v/\p v)↔p a:=⟨fun⟨_,h,q⟩=>by cases h;exact q,fun h=>⟨a,rfl,h⟩⟩
theorem ycie{n:Nat}(k:IntKind)(x:Int):owned (n+1) (.i k x)=false:=rfl
theorem ybtn{n:Nat}(k:IntKind)(x:Int):scalar (n+1) (.i k x)=true:=rfl
theorem ycqo{n:Nat}(o:Own)(k:IntKind)(x:Int):view o (n+1) (.i k x)=(.i k x):=rfl
theorem ycuk{n:Nat}(o:Own)(k:IntKind)(x:Int):vok o (n+1) (.i k x)=True:=rfl
theorem yhz{n:Nat}(ρ:Nm->Nm)(k:IntKind)(x:Int):ren ρ (n+1) (.i k x)=(.i k x):=rfl
theorem ycuf{n:Nat}(D:Nm->Bool)(k:IntKind)(x:Int):cln D (n+1) (.i k x)=true:=rfl
theorem yclg(k:IntKind)(x:Int):one1 (.i k x)=true:=rfl
theorem yceo{n:Nat}(x:Bool):owned (n+1) (.b x)=false:=rfl
theorem ybqq{n:Nat}(x:Bool):scalar (n+1) (.b x)=true:=rfl
theorem ycqv{n:Nat}(o:Own)(x:Bool):view o (n+1) (.b x)=(.b x):=rfl
theorem ycup{n:Nat}(o:Own)(x:Bool):vok o (n+1) (.b x)=True:=rfl
theorem yctw{n:Nat}(ρ:Nm->Nm)(x:Bool):ren ρ (n+1) (.b x)=(.b x):=rfl
theorem ycuo{n:Nat}(D:Nm->Bool)(x:Bool):cln D (n+1) (.b x)=true:=rfl
theorem ycsv(x:Bool):one1 (.b x)=true:=rfl
theorem ycka{n:Nat}(x:Value):owned (n+1) (.a x)=false:=rfl
theorem ybug{n:Nat}(x:Value):scalar (n+1) (.a x)=true:=rfl
theorem ycnl{n:Nat}(o:Own)(x:Value):view o (n+1) (.a x)=(.a x):=rfl
theorem yctp{n:Nat}(o:Own)(x:Value):vok o (n+1) (.a x)=True:=rfl
theorem ycso{n:Nat}(ρ:Nm->Nm)(x:Value):ren ρ (n+1) (.a x)=(.a x):=rfl
theorem ycun{n:Nat}(D:Nm->Bool)(x:Value):cln D (n+1) (.a x)=true:=rfl
theorem ycsc(x:Value):one1 (.a x)=true:=rfl
theorem ybqg{n:Nat}(z k:Nat)(g:Nat->List SV):owned (n+1) (.sl z k g)=false:=rfl
theorem ybkv{n:Nat}(z k:Nat)(g:Nat->List SV):scalar (n+1) (.sl z k g)=false:=rfl
theorem ycfo{n:Nat}(o:Own)(z k:Nat)(g:Nat->List SV):view o (n+1) (.sl z k g)=(.sl z k g):=rfl
theorem ycmm{n:Nat}(o:Own)(z k:Nat)(g:Nat->List SV):vok o (n+1) (.sl z k g)=True:=rfl
theorem ybzl{n:Nat}(ρ:Nm->Nm)(z k:Nat)(g:Nat->List SV):ren ρ (n+1) (.sl z k g)=(.sl z k g):=rfl
theorem ycrt{n:Nat}(D:Nm->Bool)(z k:Nat)(g:Nat->List SV):cln D (n+1) (.sl z k g)=true:=rfl
theorem ycfg(z k:Nat)(g:Nat->List SV):one1 (.sl z k g)=true:=rfl
theorem ybsp{n:Nat}(c:List SV):owned (n+1) (.rf c)=false:=rfl
theorem ybkw{n:Nat}(c:List SV):scalar (n+1) (.rf c)=false:=rfl
theorem ycew{n:Nat}(o:Own)(c:List SV):view o (n+1) (.rf c)=(.rf c):=rfl
theorem ycnx{n:Nat}(o:Own)(c:List SV):vok o (n+1) (.rf c)=True:=rfl
theorem ycky{n:Nat}(ρ:Nm->Nm)(c:List SV):ren ρ (n+1) (.rf c)=(.rf c):=rfl
theorem ycla{n:Nat}(D:Nm->Bool)(c:List SV):cln D (n+1) (.rf c)=true:=rfl
theorem ycib(c:List SV):one1 (.rf c)=true:=rfl
theorem ybqt{n:Nat}(Q:(Nat->Option ABlk)->Value->Prop)(v:SV):owned (n+1) (.ex Q v)=false:=rfl
theorem ybpf{n:Nat}(Q:(Nat->Option ABlk)->Value->Prop)(v:SV):scalar (n+1) (.ex Q v)=false:=rfl
theorem ycjl{n:Nat}(o:Own)(Q:(Nat->Option ABlk)->Value->Prop)(v:SV):view o (n+1) (.ex Q v) = .ex Q v:=rfl
theorem ycnj{n:Nat}(o:Own)(Q:(Nat->Option ABlk)->Value->Prop)(v:SV):vok o (n+1) (.ex Q v)=True:=rfl
theorem ycoz{n:Nat}(ρ:Nm->Nm)(Q:(Nat->Option ABlk)->Value->Prop)(v:SV):ren ρ (n+1) (.ex Q v) = .ex Q v:=rfl
theorem ycrl{n:Nat}(D:Nm->Bool)(Q:(Nat->Option ABlk)->Value->Prop)(v:SV):cln D (n+1) (.ex Q v)=true:=rfl
theorem ycjh(Q:(Nat->Option ABlk)->Value->Prop)(v:SV):one1 (.ex Q v)=one1 v:=rfl
theorem ybcl(Q:(Nat->Option ABlk)->Value->Prop)(v:SV):Sim (.ex Q v) v:=fun F ω u h=>by
 cases h with
 |ex _ _ h=>exact h.mono (Le.refl _) (ysn _)
theorem ybjx{n:Nat} :owned (n+1) .bad=true:=rfl
theorem ybga{n:Nat} :scalar (n+1) .bad=false:=rfl
theorem ybsq{n:Nat}(o:Own) :view o (n+1) .bad = .bad:=rfl
theorem ychp{n:Nat}(o:Own) :vok o (n+1) .bad=False:=rfl
theorem ycjj{n:Nat}(ρ:Nm->Nm) :ren ρ (n+1) .bad = .bad:=rfl
theorem ycgt{n:Nat}(D:Nm->Bool) :cln D (n+1) .bad=true:=rfl
theorem ybsr :one1 .bad=false:=rfl
theorem ybpz{n:Nat}(c:List SV):owned (n+1) (.ag c)=c.any (owned n):=rfl
theorem ybkt{n:Nat}(c:List SV):scalar (n+1) (.ag c)=c.all (scalar n):=rfl
theorem ycjy{n:Nat}(o:Own)(c:List SV):view o (n+1) (.ag c) = .ag (c.map (view o n)):=rfl
theorem yclk{n:Nat}(o:Own)(c:List SV):vok o (n+1) (.ag c)=allP (vok o n) c:=rfl
theorem yqw{n:Nat}(ρ:Nm->Nm)(c:List SV):ren ρ (n+1) (.ag c) = .ag (c.map (ren ρ n)):=rfl
theorem ycni{n:Nat}(D:Nm->Bool)(c:List SV):cln D (n+1) (.ag c)=c.all (cln D n):=rfl
theorem ycjm(c:List SV):one1 (.ag c)=false:=rfl
theorem ybub{n:Nat}(c:List SV):owned (n+1) (.tp c)=c.any (owned n):=rfl
theorem ybkg{n:Nat}(c:List SV):scalar (n+1) (.tp c)=c.all (scalar n):=rfl
theorem ycjb{n:Nat}(o:Own)(c:List SV):view o (n+1) (.tp c) = .tp (c.map (view o n)):=rfl
theorem ycmg{n:Nat}(o:Own)(c:List SV):vok o (n+1) (.tp c)=allP (vok o n) c:=rfl
theorem ybkf{n:Nat}(ρ:Nm->Nm)(c:List SV):ren ρ (n+1) (.tp c) = .tp (c.map (ren ρ n)):=rfl
theorem ycpc{n:Nat}(D:Nm->Bool)(c:List SV):cln D (n+1) (.tp c)=c.all (cln D n):=rfl
theorem ycfi(c:List SV):one1 (.tp c)=false:=rfl
theorem ybqy{n:Nat}(g:FuncId)(a b:List SV):owned (n+1) (.fn g a b)=(a.any (owned n)||b.any (owned n)):=rfl
theorem ybmi{n:Nat}(g:FuncId)(a b:List SV):scalar (n+1) (.fn g a b)=false:=rfl
theorem ycfx{n:Nat}(o:Own)(g:FuncId)(a b:List SV):view o (n+1) (.fn g a b) = .fn g (a.map (view o n)) (b.map (view o n)):=rfl
theorem ycmq{n:Nat}(o:Own)(g:FuncId)(a b:List SV):vok o (n+1) (.fn g a b)=(allP (vok o n) a/\allP (vok o n) b):=rfl
theorem ycrk{n:Nat}(ρ:Nm->Nm)(g:FuncId)(a b:List SV):ren ρ (n+1) (.fn g a b) = .fn g (a.map (ren ρ n)) (b.map (ren ρ n)):=rfl
theorem yctf{n:Nat}(D:Nm->Bool)(g:FuncId)(a b:List SV):cln D (n+1) (.fn g a b)=(a.all (cln D n)&&b.all (cln D n)):=rfl
theorem ychc(g:FuncId)(a b:List SV):one1 (.fn g a b)=true:=rfl
theorem ybqw{n:Nat}(β:Nm)(i j:Nat):owned (n+1) (.pt β i j)=true:=rfl
theorem ybik{n:Nat}(β:Nm)(i j:Nat):scalar (n+1) (.pt β i j)=false:=rfl
theorem ycgl{n:Nat}(o:Own)(β:Nm)(i j:Nat):view o (n+1) (.pt β i j)=(match lookO o β with|some b=>.rf ((((b.g i).drop j)).map (view o n))|none=>.bad):=rfl
theorem ycsl{n:Nat}(o:Own)(β:Nm)(i j:Nat):vok o (n+1) (.pt β i j)=(match lookO o β with|some b=>(i<b.n/\j<=b.z)/\allP (vok o n) ((b.g i).drop j)|none=>False):=rfl
theorem ycra{n:Nat}(ρ:Nm->Nm)(β:Nm)(i j:Nat):ren ρ (n+1) (.pt β i j) = .pt (ρ β) i j:=rfl
theorem ycmh{n:Nat}(D:Nm->Bool)(β:Nm)(i j:Nat):cln D (n+1) (.pt β i j)=D β:=rfl
theorem yces(β:Nm)(i j:Nat):one1 (.pt β i j)=true:=rfl
theorem ybru{n:Nat}(β:Nm)(p k:Nat)(ap:Bool):owned (n+1) (.os β p k ap)=true:=rfl
theorem ybml{n:Nat}(β:Nm)(p k:Nat)(ap:Bool):scalar (n+1) (.os β p k ap)=false:=rfl
theorem ychn{n:Nat}(o:Own)(β:Nm)(p k:Nat)(ap:Bool):view o (n+1) (.os β p k ap)=(match lookO o β with|some b=>.sl b.z k (fun q=>(b.g (p+q)).map (view o n))|none=>.bad):=rfl
theorem ycqz{n:Nat}(o:Own)(β:Nm)(p k:Nat)(ap:Bool):vok o (n+1) (.os β p k ap)=(match lookO o β with|some b=>p+k<=b.n/\∀q,q<k->allP (vok o n) (b.g (p+q))|none=>False):=rfl
theorem yla{n:Nat}(ρ:Nm->Nm)(β:Nm)(p k:Nat)(ap:Bool):ren ρ (n+1) (.os β p k ap) = .os (ρ β) p k ap:=rfl
theorem ycnq{n:Nat}(D:Nm->Bool)(β:Nm)(p k:Nat)(ap:Bool):cln D (n+1) (.os β p k ap)=D β:=rfl
theorem ychi(β:Nm)(p k:Nat)(ap:Bool):one1 (.os β p k ap)=true:=rfl
theorem any_false{α:Type}{p:α->Bool}{l:List α}(h:l.any p=false):∀x∈l,p x=false:=fun x hx=>by
 cases hq:p x with
 |false=>rfl
 |true=>rw[List.any_eq_true.2 ⟨x,hx,hq⟩]at h;cases h
theorem ycz{α:Type}{p:α->Bool}{l:List α}(h:∀x∈l,p x=false):l.any p=false:=by
 cases hq:l.any p with
 |false=>rfl
 |true=>obtain⟨x,h1,h2⟩:=List.any_eq_true.1 hq;rw[h x h1]at h2;cases h2
theorem ygx:∀{n:Nat}{v:SV},owned n v=false->owned (n+1) v=false
 |0,_,h=>by cases h
 | n + 1,v,h=>by
   cases v with
   |ag c=>exact ycz fun x hx=>ygx (any_false h x hx)
   |tp c=>exact ycz fun x hx=>ygx (any_false h x hx)
   | fn g a b =>
     have h:(_||_)=false:=h;rw[zA]at h;show(_||_)=false;rw[zA];exact⟨ycz fun x hx=>ygx (any_false h.1 x hx),ycz fun x hx=>ygx (any_false h.2 x hx)⟩
   |_=>first|rfl|cases h
theorem yqr{n:Nat}{l:List SV}(h:l.any (owned n)=false):l.any (owned (n+1))=false:=ycz fun x hx=>ygx (any_false h x hx)
theorem yxc(ρ:Nm->Nm):∀{n:Nat}{v:SV},owned n v=false->ren ρ n v=v
 |0,_,h=>by cases h
 | n + 1,v,h=>by
   have ml:∀{l:List SV},l.any (owned n)=false->l.map (ren ρ n)=l:=fun {l} h=>by
    induction l with
    |nil=>rfl
    |cons x l ih=>rw[zC,yxc ρ (any_false h x zD),ih (ycz fun y hy=>any_false h y (zB _ hy))]
   cases v with
   |ag c=>show SV.ag _=_;rw[ml h]
   |tp c=>show SV.tp _=_;rw[ml h]
   | fn g a b =>
     have h:(_||_)=false:=h;rw[zA]at h;show SV.fn g _ _=_;rw[ml h.1,ml h.2]
   |_=>first|rfl|cases h
theorem yhj(ρ:Nm->Nm){n:Nat}{l:List SV}(h:l.any (owned n)=false):l.map (ren ρ n)=l:=by
 induction l with
 |nil=>rfl
 |cons x l ih=>rw[zC,yxc ρ (any_false h x zD),ih (ycz fun y hy=>any_false h y (zB _ hy))]
theorem yvp(D:Nm->Bool):∀{n:Nat}{v:SV},owned n v=false->cln D n v=true
 |0,_,h=>by cases h
 | n + 1,v,h=>by
   have ml:∀{l:List SV},l.any (owned n)=false->l.all (cln D n)=true:=fun {l} h=>List.all_eq_true.2 fun x hx=>yvp D (any_false h x hx);cases v with
   |ag c=>exact ml h
   |tp c=>exact ml h
   | fn g a b =>
     have h:(_||_)=false:=h;rw[zA]at h;show(_&&_)=true;rw[ml h.1,ml h.2];rfl
   |_=>first|rfl|cases h
theorem yhm(D:Nm->Bool){n:Nat}{l:List SV}(h:l.any (owned n)=false):l.all (cln D n)=true:=List.all_eq_true.2 fun x hx=>yvp D (any_false h x hx)
end Sh
end
end Go.Proofs.YtiejahgklcjhkaaGreat
