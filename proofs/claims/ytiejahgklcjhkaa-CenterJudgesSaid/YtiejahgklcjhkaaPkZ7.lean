/- Joined. -/
import Derived.Test.YtiejahgklcjhkaaPkZ6
set_option linter.unusedSimpArgs false
set_option linter.unusedVariables false
open Bool renaming or_eq_false_iff→zA
open List renaming mem_cons_of_mem→zB,map_cons→zC,mem_cons_self→zD
open Iff renaming rfl→zF
open Go
namespace Go.Proofs.Ytiejahgklcjhkaa
section
namespace Sh
open Go Ev
theorem Sim.refl(v:SV):Sim v v:=fun _ _ _ h=>h
theorem yh(v:SV):Sim v v↔True:=⟨fun _=>trivial,fun _=>Sim.refl v⟩
theorem ydt{k k':IntKind}{a b:Int}:Sim (.i k a) (.i k' b)↔k=k'/\a=b :=
 ⟨fun h=>by have:=h (fun _=>none) om0 _ .i;cases this;exact⟨rfl,rfl⟩,fun h=>by rw[h.1,h.2];exact Sim.refl _⟩
theorem ybyb{a b:Bool}:Sim (.b a) (.b b)↔a=b :=
 ⟨fun h=>by have:=h (fun _=>none) om0 _ .b;cases this;rfl,fun h=>by rw[h];exact Sim.refl _⟩
theorem ybxq{z n:Nat}{g g':Nat->List SV}(h:∀k,k<n->g k=g' k):Sim (.sl z n g) (.sl z n g'):=by
 intro F ω u hr;rcases hr.sl_inv with⟨rfl,h0⟩|⟨bk,p,cp,T,N,e,zz,L,rfl,g1,g2,g3,g4,g5,g6,g7⟩
 ·exact .sl0 h0
 ·exact .sl g1 g2 g3 g4 g5 (fun k hk=>h k hk▸g6 k hk) (fun k hk=>h k hk▸g7 k hk)
theorem ybfd {pr:List Nm}(ρ:List (Nat×(Nat->Nm))) (vir:List Nat) (fr:List Nm) {s t:SS}(h1:yrg s.o fr) (h2:ybau (rid ρ) vir t.o) (h3:allQ (ypr (rid ρ) vir fr t.o s) t.f) (h4:allQ (ykc (rid ρ) vir fr t.o s) t.o)
 (hp:allQ (fun β=>live t.o β=true/\vir.elem β.1=false/\rid ρ β=β) pr):Weak pr s t:=WeakBy.weak ⟨h1,h2,h3,h4⟩ hp
theorem ybrr(ρ:List (Nat×(Nat->Nm)))(vir:List Nat)(fr:List Nm){s t:SS}(h1:yrg s.o fr)(h2:ybau (rid ρ) vir t.o)(h3:allQ (ypr (rid ρ) vir fr t.o s) t.f)(h4:allQ (ykc (rid ρ) vir fr t.o s) t.o):Weak [] s t:=ybfd ρ vir fr h1 h2 h3 h4 trivial
theorem yba(ρ:List (Nat×(Nat->Nm)))(vir:List Nat)(fr:List Nm){s t:SS}(h:yrg s.o fr/\ybau (rid ρ) vir t.o/\allQ (ypr (rid ρ) vir fr t.o s) t.f/\allQ (ykc (rid ρ) vir fr t.o s) t.o):Weak [] s t:=ybrr ρ vir fr h.1 h.2.1 h.2.2.1 h.2.2.2
theorem ysq{pr:List Nm}(ρ:List (Nat×(Nat->Nm)))(vir:List Nat)(fr:List Nm){s t:SS}(h:(yrg s.o fr/\ybau (rid ρ) vir t.o/\allQ (ypr (rid ρ) vir fr t.o s) t.f/\allQ (ykc (rid ρ) vir fr t.o s) t.o)/\allQ (fun β=>live t.o β=true/\vir.elem β.1=false/\rid ρ β=β) pr):Weak pr s t:=ybfd ρ vir fr h.1.1 h.1.2.1 h.1.2.2.1 h.1.2.2.2 h.2
theorem ymn(o:Own):∀(n:Nat) (v:SV),ycl [] o n v=v
 |0,_=>rfl
 | n + 1,v=>by
   have ml:∀l:List SV,l.map (ycl [] o n)=l:=fun l=>by
    induction l with
    |nil=>rfl
    |cons x l ih=>rw[zC,ymn o n x,ih]
   cases v with
   |ag c=>show SV.ag _=_;rw[ml]
   |tp c=>show SV.tp _=_;rw[ml]
   |fn g a b=>show SV.fn g _ _=_;rw[ml,ml]
   |_=>rfl
theorem yvy(o:Own):∀(n:Nat) (v:SV),pok [] o n v↔True
 |0,_=>zF
 | n + 1,v=>by
   have ml:∀l:List SV,allP (pok [] o n) l:=fun l=>by
    induction l with
    |nil=>trivial
    |cons x l ih=>exact⟨(yvy o n x).2 trivial,ih⟩
   cases v with
   |ag c=>exact⟨fun _=>trivial,fun _=>ml _⟩
   |tp c=>exact⟨fun _=>trivial,fun _=>ml _⟩
   |fn g a b=>exact⟨fun _=>trivial,fun _=>⟨ml _,ml _⟩⟩
   |pt β i j=>exact⟨fun _=>trivial,fun _ h=>by cases h⟩
   |os β p k c=>exact⟨fun _=>trivial,fun _ h=>by cases h⟩
   |_=>exact zF
theorem yboq{n:Nat}(fr:List Nm)(o:Own)(k:IntKind)(x:Int):ycl fr o (n+1) (.i k x)=(.i k x):=rfl
theorem ycal{n:Nat}(fr:List Nm)(o:Own)(k:IntKind)(x:Int):pok fr o (n+1) (.i k x)=True:=rfl
theorem ybqu{n:Nat}(fr:List Nm)(o:Own)(x:Bool):ycl fr o (n+1) (.b x)=(.b x):=rfl
theorem ycbs{n:Nat}(fr:List Nm)(o:Own)(x:Bool):pok fr o (n+1) (.b x)=True:=rfl
theorem yboa{n:Nat}(fr:List Nm)(o:Own)(x:Value):ycl fr o (n+1) (.a x)=(.a x):=rfl
theorem ycak{n:Nat}(fr:List Nm)(o:Own)(x:Value):pok fr o (n+1) (.a x)=True:=rfl
theorem ybku{n:Nat}(fr:List Nm)(o:Own)(z k:Nat)(g:Nat->List SV):ycl fr o (n+1) (.sl z k g)=(.sl z k g):=rfl
theorem ybzr{n:Nat}(fr:List Nm)(o:Own)(z k:Nat)(g:Nat->List SV):pok fr o (n+1) (.sl z k g)=True:=rfl
theorem ybjv{n:Nat}(fr:List Nm)(o:Own)(c:List SV):ycl fr o (n+1) (.rf c)=(.rf c):=rfl
theorem ybtl{n:Nat}(fr:List Nm)(o:Own)(c:List SV):pok fr o (n+1) (.rf c)=True:=rfl
theorem ybjg{n:Nat}(fr:List Nm)(o:Own)(Q:(Nat->Option ABlk)->Value->Prop)(v:SV):ycl fr o (n+1) (.ex Q v)=(.ex Q v):=rfl
theorem ybwh{n:Nat}(fr:List Nm)(o:Own)(Q:(Nat->Option ABlk)->Value->Prop)(v:SV):pok fr o (n+1) (.ex Q v)=True:=rfl
theorem ybjm{n:Nat}(fr:List Nm)(o:Own)(c:List SV):ycl fr o (n+1) (.ag c) = .ag (c.map (ycl fr o n)):=rfl
theorem ybtr{n:Nat}(fr:List Nm)(o:Own)(c:List SV):pok fr o (n+1) (.ag c)=allP (pok fr o n) c:=rfl
theorem ybjc{n:Nat}(fr:List Nm)(o:Own)(c:List SV):ycl fr o (n+1) (.tp c) = .tp (c.map (ycl fr o n)):=rfl
theorem ybxv{n:Nat}(fr:List Nm)(o:Own)(c:List SV):pok fr o (n+1) (.tp c)=allP (pok fr o n) c:=rfl
theorem ybld{n:Nat}(fr:List Nm)(o:Own)(g:FuncId)(a b:List SV):ycl fr o (n+1) (.fn g a b) = .fn g (a.map (ycl fr o n)) (b.map (ycl fr o n)):=rfl
theorem ybuv{n:Nat}(fr:List Nm)(o:Own)(g:FuncId)(a b:List SV):pok fr o (n+1) (.fn g a b)=(allP (pok fr o n) a/\allP (pok fr o n) b):=rfl
theorem ybma{n:Nat}(fr:List Nm)(o:Own)(β:Nm)(i j:Nat):ycl fr o (n+1) (.pt β i j)=(if nmem fr β=true then(match lookO o β with|some b=>.rf ((b.g i).drop j)|none=>.bad)else .pt β i j):=rfl
theorem ybtd{n:Nat}(fr:List Nm)(o:Own)(β:Nm)(i j:Nat):pok fr o (n+1) (.pt β i j)=(nmem fr β=true->(match lookO o β with|some b=>i<b.n/\j<=b.z|none=>False)):=rfl
theorem yblc{n:Nat}(fr:List Nm)(o:Own)(β:Nm)(p k:Nat)(ap:Bool):ycl fr o (n+1) (.os β p k ap)=(if nmem fr β=true then(match lookO o β with|some b=>.sl b.z k (fun q=>b.g (p+q))|none=>.bad)else .os β p k ap):=rfl
theorem ybuk{n:Nat}(fr:List Nm)(o:Own)(β:Nm)(p k:Nat)(ap:Bool):pok fr o (n+1) (.os β p k ap)=(nmem fr β=true->(match lookO o β with|some b=>p+k<=b.n|none=>False)):=rfl
theorem ybpa(k:IntKind)(x:Int):SV.cells (.i k x)=[(.i k x)]:=rfl
theorem ybpg(x:Bool):SV.cells (.b x)=[(.b x)]:=rfl
theorem ybnl(x:Value):SV.cells (.a x)=[(.a x)]:=rfl
theorem ybjk(z k:Nat)(g:Nat->List SV):SV.cells (.sl z k g)=[(.sl z k g)]:=rfl
theorem yblv(c:List SV):SV.cells (.rf c)=[(.rf c)]:=rfl
theorem ybla(Q:(Nat->Option ABlk)->Value->Prop)(v:SV):SV.cells (.ex Q v)=[(.ex Q v)]:=rfl
theorem ybjs(c:List SV):SV.cells (.tp c)=[(.tp c)]:=rfl
theorem ybmg(g:FuncId)(a b:List SV):SV.cells (.fn g a b)=[(.fn g a b)]:=rfl
theorem ybkt(β:Nm)(i j:Nat):SV.cells (.pt β i j)=[(.pt β i j)]:=rfl
theorem ybmo(β:Nm)(p k:Nat)(ap:Bool):SV.cells (.os β p k ap)=[(.os β p k ap)]:=rfl
theorem yblg(c:List SV):SV.cells (.ag c)=c:=rfl
theorem ycp {pr:List Nm}{body:(Exit->SS->Prop)->SS->Prop}{K:Exit->SS->Prop}{s:SS}{σ:Type}(st:σ->SS) (inv:σ->Prop) (μ:σ->Nat) (x0:σ) (h0:inv x0) (hs:Weak pr s (st x0))
 (hstep:∀x,inv x->body (ybdy pr (fun n t=>∃y,inv y/\μ y=n/\t=st y) (μ x) K) (st x)):ybpf pr body K s :=
 ⟨fun n t=>∃y,inv y/\μ y=n/\t=st y,⟨μ x0,st x0,⟨x0,h0,rfl,rfl⟩,hs⟩,fun n t ⟨y,h1,h2,h3⟩=>by subst h2 h3;exact hstep y h1⟩
theorem ybd{pr:List Nm}{σ:Type}{st:σ->SS}{inv:σ->Prop}{μ:σ->Nat}{n:Nat}{K:Exit->SS->Prop}{t:SS}(y:σ)(h1:inv y)(h2:μ y<n)(h3:Weak pr t (st y)):ybdy pr (fun n t=>∃y,inv y/\μ y=n/\t=st y) n K .normal t :=
 ⟨μ y,st y,h2,⟨y,h1,rfl,rfl⟩,h3⟩
def Returns(P:Program)(g:FuncId)(args:List SV)(r:SV):Prop:=Ct P g args (· = r)
theorem Returns.of{P:Program}{g:FuncId}{args:List SV}{r:SV}(h:Ct P g args fun x=>Sim x r):Returns P g args r:=fun G m us h1 h2 h3=>by
 obtain⟨v,m',x,a,b,c,d,e⟩:=h G m us h1 h2 h3;exact⟨v,m',r,a,b,c,rfl,d _ _ _ e⟩
theorem Returns.use{P:Program}{g:FuncId}{args:List SV}{r:SV}{Q:SV->Prop}(h:Returns P g args r)(hq:Q r):Ct P g args Q:=h.mono fun _ e=>e▸hq
def SimL:List SV->List SV->Prop
 |[],[]=>True
 |v::l,w::k=>Sim v w/\SimL l k
 |_,_=>False
theorem SimL.rvl{F:AM}{ω:Om}:∀{l k:List SV}{L:List Value},SimL l k->RVL F ω l L->RVL F ω k L
 |[],[],_,_,.nil=>.nil
 |_::_,_::_,_,h,.cons a b=>.cons (h.1 _ _ _ a) (h.2.rvl b)
 |[],_::_,_,h,_=>h.elim
 |_::_,[],_,h,_=>h.elim
theorem ybhr{z n:Nat}{g g':Nat->List SV}(h:∀k,k<n->SimL (g k) (g' k)/\(g' k).all one1=true):Sim (.sl z n g) (.sl z n g'):=by
 intro F ω u hr;rcases hr.sl_inv with⟨rfl,h0⟩|⟨bk,p,cp,T,N,e,zz,L,rfl,g1,g2,g3,g4,g5,g6,g7⟩
 ·exact .sl0 h0
 ·exact .sl g1 g2 g3 g4 g5 (fun k hk=>(h k hk).1.rvl (g6 k hk)) (fun k hk=>(h k hk).2)
theorem Ct.simL{P:Program}{g:FuncId}{as bs:List SV}{Q:SV->Prop}(h:Ct P g bs Q)(hs:SimL as bs):Ct P g as Q:=fun G m us h1 h2 h3=>h G m us h1 h2 (hs.rvl h3)
theorem Returns.useS{P:Program}{g:FuncId}{as bs:List SV}{r:SV}{Q:SV->Prop}(h:Returns P g bs r)(hs:SimL as bs)(hq:Q r):Ct P g as Q:=(h.use hq).simL hs
section
variable (C:CC) (K:Exit->SS->Prop) (s:SS)
def vN(b:SC):SS->Prop:=vc C b K
theorem ycbr(b:SC):vN C K b s=vc C b K s:=rfl
theorem ybqx:vc C .skip K s=K .normal s:=rfl
theorem ybss(a b:SC):vc C (.seq a b) K s=vc C a (ybeh (vN C K b) K) s:=rfl
theorem ybno(c:Operand)(a b:SC):vc C (.cond c a b) K s=ybgu (s.get c) c s (vN C K a) (vN C K b):=rfl
theorem ybjt(id:Nat)(b:SC):vc C (.block id b) K s=vc C b (ysf id K) s:=rfl
theorem ybqj(b:SC):vc C (.loop b) K s=ybpf C.pr (vc C b) K s:=rfl
theorem ybkc(g:Operand)(ps:List Nat)(a b:SC):vc C (.range g ps a b) K s=ybdw C g ps (vcR a) (vcR b) K s:=rfl
theorem ybpn(id:Nat):vc C (.exit id) K s=K (.exit id) s:=rfl
theorem ycbn:vc C .no K s=False:=rfl
theorem ybys:vc C .ret K s=K .ret s:=rfl
theorem ybwy(d:Bool)(ops:List SOper):vc C (.reg d ops) K s=yix C d (K .normal) ops 0 [] s:=rfl
theorem yur(n:SS->Prop):ybeh n K .normal s=n s:=rfl
theorem ybbh(n:SS->Prop)(i:Nat):ybeh n K (.exit i) s=K (.exit i) s:=rfl
theorem ybha(n:SS->Prop):ybeh n K .ret s=K .ret s:=rfl
theorem yvc(n:SS->Prop):ybqw n .normal s=n s:=rfl
theorem yqq(t:SS)(fin:Own->Prop):yss K t fin .normal s=fin s.o:=rfl
theorem ybbl(t:SS)(fin:Own->Prop):yss K t fin .ret s=K .ret ⟨t.f,s.o⟩:=rfl
theorem yxh(t:SS)(fin:Own->Prop)(id:Nat):yss K t fin (.exit id) s=K (.exit id) ⟨t.f,s.o⟩:=rfl
theorem yrp(id:Nat):ysf id K .normal s=K .normal s:=rfl
theorem yys(id i:Nat):ysf id K (.exit i) s=if i=id then K .normal s else K (.exit i) s:=rfl
theorem ybbn(id:Nat):ysf id K .ret s=K .ret s:=rfl
theorem ybbq(pr:List Nm)(I:Nat->SS->Prop)(n i:Nat):ybdy pr I n K (.exit i) s=K (.exit i) s:=rfl
theorem ybfx(pr:List Nm)(I:Nat->SS->Prop)(n:Nat):ybdy pr I n K .ret s=K .ret s:=rfl
theorem yxw(rs:List SR)(Q:SV->Prop):retK rs Q .normal s=resX s rs fun vs=>vok s.o 5 (yha vs)/\Q (view s.o 5 (yha vs)):=rfl
theorem yxb(rs:List SR)(pr:List Nm)(Q:SV->Own->Prop):retM rs pr Q .normal s=resX s rs fun vs=>yblj pr s Q (yha vs):=rfl
theorem ybjj(rs:List SR)(pr:List Nm)(Q:SV->Own->Prop):retM rs pr Q .ret s=resX s rs fun vs=>yblj pr s Q (yha vs):=rfl
theorem yble(rs:List SR)(Q:SV->Prop):retK rs Q .ret s=resX s rs fun vs=>vok s.o 5 (yha vs)/\Q (view s.o 5 (yha vs)):=rfl
end
section
variable (C:CC) (d:Bool) (K:SS->Prop)
def vO(l:List SOper)(i:Nat):List (Nat×SRec)->SS->Prop:=yix C d K l i
theorem ycbp(l:List SOper)(i:Nat)(rs:List (Nat×SRec))(s:SS):vO C d K l i rs s=yix C d K l i rs s:=rfl
theorem ybnx(i:Nat)(rs:List (Nat×SRec))(s:SS):yix C d K [] i rs s=K s:=rfl
theorem ybkq(op:SOp)(dst:Option Nat)(an:Nat)(l:List SOper)(i:Nat)(rs:List (Nat×SRec))(s:SS):yix C d K (⟨op,dst,none,an⟩::l) i rs s=runO C d rs s i an dst (vO C d K l (i+1)) op:=rfl
theorem ybft(op:SOp)(dst:Option Nat)(t:Nat)(w:Bool)(an:Nat)(l:List SOper)(i:Nat)(rs:List (Nat×SRec))(s:SS):yix C d K (⟨op,dst,some (t,w),an⟩::l) i rs s=ynx C d rs s i an dst (vO C d K l (i+1)) op t w (look s.f t):=rfl
def gb(c:Bool)(A B:Prop):Prop:=(c=true->A)/\(c=false->B)
def gb2(c:Bool)(A B:Prop):Prop:=(c=false->A)/\(c=true->B)
theorem gb_t(A B:Prop):gb true A B=A:=propext ⟨fun h=>h.1 rfl,fun h=>⟨fun _=>h,fun q=>by cases q⟩⟩
theorem gb_f(A B:Prop):gb false A B=B:=propext ⟨fun h=>h.2 rfl,fun h=>⟨fun q=>(nomatch q),fun _=>h⟩⟩
theorem ycbw(A B:Prop):gb2 true A B=B:=propext ⟨fun h=>h.2 rfl,fun h=>⟨fun q=>(nomatch q),fun _=>h⟩⟩
theorem ycao(A B:Prop):gb2 false A B=A:=propext ⟨fun h=>h.1 rfl,fun h=>⟨fun _=>h,fun q=>by cases q⟩⟩
theorem gb_x(c:Bool)(A B:Prop):gb c A B=((c=true->A)/\(c=false->B)):=rfl
theorem ycaq(c:Bool)(A B:Prop):gb2 c A B=((c=false->A)/\(c=true->B)):=rfl
theorem ybpp(x:Bool)(c:Operand)(s:SS)(a b:SS->Prop):ybgu (some (.b x)) c s a b=gb x (a (s.lit c true)) (b (s.lit c false)):=rfl
theorem ybks(rs:List (Nat×SRec))(s:SS)(i an:Nat)(dst:Option Nat)(nx:List (Nat×SRec)->SS->Prop)(op:SOp)(t:Nat)(c:Bool):ynx C d rs s i an dst nx op t true (some (.b c))=gb c (runO C d rs (s.put (some t) (.b true)) i an dst nx op) (nx rs ((s.put (some t) (.b false)).put dst (.tp []))):=rfl
theorem yblu(rs:List (Nat×SRec))(s:SS)(i an:Nat)(dst:Option Nat)(nx:List (Nat×SRec)->SS->Prop)(op:SOp)(t:Nat)(c:Bool):ynx C d rs s i an dst nx op t false (some (.b c))=gb2 c (runO C d rs (s.put (some t) (.b false)) i an dst nx op) (nx rs ((s.put (some t) (.b true)).put dst (.tp []))):=rfl
theorem ybfz(rs:List (Nat×SRec))(s:SS)(i an:Nat)(dst:Option Nat)(nx:List (Nat×SRec)->SS->Prop)(op:SOp)(t:Nat)(w:Bool):ynx C d rs s i an dst nx op t w (some (.tp []))=nx rs (s.put dst (.tp [])):=rfl
end
theorem ybrh(dst:Option Nat)(old:Bool)(rs:List (Nat×SRec)):ygy false dst old rs=rs:=by unfold ygy;rfl
theorem ybpo(d:Bool)(dst:Option Nat)(rs:List (Nat×SRec)):ygy d dst true rs=rs:=by unfold ygy;cases d<;>cases dst<;>rfl
theorem ybqs(d old:Bool)(rs:List (Nat×SRec)):ygy d none old rs=rs:=by unfold ygy;cases d<;>rfl
theorem ybru(t:Nat)(rs:List (Nat×SRec)):ygy true (some t) false rs=(1000+t,SRec.no)::rs:=rfl
theorem ybri(d:Bool)(an:Nat)(r:SRec)(rs:List (Nat×SRec)):yblw d an false r rs=fits d an r rs:=rfl
theorem ybpv(d:Bool)(an:Nat)(r:SRec)(rs:List (Nat×SRec)):yblw d an true r rs=(!d||rs.all fun q=>Nat.testBit an q.1 || !(yjd r q.2)):=rfl
theorem yblm {C:CC}{gx:Operand}{ps:List Nat}{a b:SC}{K:Exit->SS->Prop}{s:SS}{g:FuncId}{caps:List SV}{S:ItS}(hit:C.it g caps S) {σ:Type}(pr:List Nm) (st:Nat->σ->SS) (inv:Nat->σ->Prop) (x0:σ) (hx0:inv 0 x0)
 (hpr:(∀β∈C.pr,β∈pr)/\∀β∈S.pr,β∈pr) (h0:Weak C.pr s (st 0 x0)) (hg:∀x,(st 0 x).get gx=some (.fn g [] caps)) (hinv:∀k x,inv k x->k<=S.n->S.own k (st k x).o/\allQ (fun p=>cln (nmem pr) 5 p.2=true) (st k x).f)
 (hround:∀k x,inv k x->k<S.n->∃t1,puts (st k x) ps (S.el k)=some t1/\vc ⟨C.ct,C.cm,C.it,pr,C.mu⟩ a (ybqw (vN ⟨C.ct,C.cm,C.it,pr,C.mu⟩ (yss K (st k x) fun o=>S.own k o/\∃y,inv (k+1) y/\Weak pr ⟨(st k x).f,S.adv k o⟩ (st (k+1) y)) b)) t1)
 (hend:∀x,inv S.n x->K .normal (st S.n x)):ybdw C gx ps (vcR a) (vcR b) K s:=by
 refine⟨pr,fun k t=>k<=S.n/\∃x,inv k x/\t=st k x,g,caps,S,hit,hpr,⟨st 0 x0,⟨Nat.zero_le _,x0,hx0,rfl⟩,h0⟩,?_,?_,?_,?_⟩
 ·rintro t ⟨_,x,hx,rfl⟩;exact hg x
 ·rintro k t ⟨hk,x,hx,rfl⟩;exact hinv k x hx hk
 ·rintro k t ⟨_,x,hx,rfl⟩ hk;obtain⟨t1,h1,h2⟩:=hround k x hx hk;refine⟨t1,h1,?_⟩
  have e:(fun o=>S.own k o/\∃u,(k+1<=S.n/\∃x,inv (k+1) x/\u=st (k+1) x)/\Weak pr ⟨(st k x).f,S.adv k o⟩ u)=(fun o=>S.own k o/\∃y,inv (k+1) y/\Weak pr ⟨(st k x).f,S.adv k o⟩ (st (k+1) y)):=by
   funext o
   refine propext ⟨?_,?_⟩
   ·rintro⟨h,u,⟨_,y,hy,rfl⟩,hw⟩;exact⟨h,y,hy,hw⟩
   ·rintro⟨h,y,hy,hw⟩;exact⟨h,_,⟨hk,y,hy,rfl⟩,hw⟩
  rw[e];exact h2
 ·rintro t ⟨_,x,hx,rfl⟩;exact hend x hx
theorem ybpz{α:Type}{a:α}{p:α->Prop}:(∃v,some a=some v/\p v)↔p a:=⟨fun⟨_,h,q⟩=>by cases h;exact q,fun h=>⟨a,rfl,h⟩⟩
theorem ybnq{n:Nat}(k:IntKind)(x:Int):owned (n+1) (.i k x)=false:=rfl
theorem ybkf{n:Nat}(k:IntKind)(x:Int):scalar (n+1) (.i k x)=true:=rfl
theorem ybvi{n:Nat}(o:Own)(k:IntKind)(x:Int):view o (n+1) (.i k x)=(.i k x):=rfl
theorem ycbu{n:Nat}(o:Own)(k:IntKind)(x:Int):vok o (n+1) (.i k x)=True:=rfl
theorem ycam{n:Nat}(ρ:Nm->Nm)(k:IntKind)(x:Int):ren ρ (n+1) (.i k x)=(.i k x):=rfl
theorem ycax{n:Nat}(D:Nm->Bool)(k:IntKind)(x:Int):cln D (n+1) (.i k x)=true:=rfl
theorem ybsx(k:IntKind)(x:Int):one1 (.i k x)=true:=rfl
theorem ybpq{n:Nat}(x:Bool):owned (n+1) (.b x)=false:=rfl
theorem ybjx{n:Nat}(x:Bool):scalar (n+1) (.b x)=true:=rfl
theorem ybsd{n:Nat}(o:Own)(x:Bool):view o (n+1) (.b x)=(.b x):=rfl
theorem ycaw{n:Nat}(o:Own)(x:Bool):vok o (n+1) (.b x)=True:=rfl
theorem ycbg{n:Nat}(ρ:Nm->Nm)(x:Bool):ren ρ (n+1) (.b x)=(.b x):=rfl
theorem ycbl{n:Nat}(D:Nm->Bool)(x:Bool):cln D (n+1) (.b x)=true:=rfl
theorem ybww(x:Bool):one1 (.b x)=true:=rfl
theorem yboh{n:Nat}(x:Value):owned (n+1) (.a x)=false:=rfl
theorem ybmn{n:Nat}(x:Value):scalar (n+1) (.a x)=true:=rfl
theorem ybxm{n:Nat}(o:Own)(x:Value):view o (n+1) (.a x)=(.a x):=rfl
theorem ycav{n:Nat}(o:Own)(x:Value):vok o (n+1) (.a x)=True:=rfl
theorem ycbj{n:Nat}(ρ:Nm->Nm)(x:Value):ren ρ (n+1) (.a x)=(.a x):=rfl
theorem ycbe{n:Nat}(D:Nm->Bool)(x:Value):cln D (n+1) (.a x)=true:=rfl
theorem ybtq(x:Value):one1 (.a x)=true:=rfl
theorem ybiq{n:Nat}(z k:Nat)(g:Nat->List SV):owned (n+1) (.sl z k g)=false:=rfl
theorem ybge{n:Nat}(z k:Nat)(g:Nat->List SV):scalar (n+1) (.sl z k g)=false:=rfl
theorem ybnu{n:Nat}(o:Own)(z k:Nat)(g:Nat->List SV):view o (n+1) (.sl z k g)=(.sl z k g):=rfl
theorem ybzm{n:Nat}(o:Own)(z k:Nat)(g:Nat->List SV):vok o (n+1) (.sl z k g)=True:=rfl
theorem ybzg{n:Nat}(ρ:Nm->Nm)(z k:Nat)(g:Nat->List SV):ren ρ (n+1) (.sl z k g)=(.sl z k g):=rfl
theorem ybup{n:Nat}(D:Nm->Bool)(z k:Nat)(g:Nat->List SV):cln D (n+1) (.sl z k g)=true:=rfl
theorem ybof(z k:Nat)(g:Nat->List SV):one1 (.sl z k g)=true:=rfl
theorem ybka{n:Nat}(c:List SV):owned (n+1) (.rf c)=false:=rfl
theorem ybhd{n:Nat}(c:List SV):scalar (n+1) (.rf c)=false:=rfl
theorem ybpt{n:Nat}(o:Own)(c:List SV):view o (n+1) (.rf c)=(.rf c):=rfl
theorem ybyn{n:Nat}(o:Own)(c:List SV):vok o (n+1) (.rf c)=True:=rfl
theorem ybyh{n:Nat}(ρ:Nm->Nm)(c:List SV):ren ρ (n+1) (.rf c)=(.rf c):=rfl
theorem ybtx{n:Nat}(D:Nm->Bool)(c:List SV):cln D (n+1) (.rf c)=true:=rfl
theorem ybqi(c:List SV):one1 (.rf c)=true:=rfl
theorem ybkx{n:Nat}(Q:(Nat->Option ABlk)->Value->Prop)(v:SV):owned (n+1) (.ex Q v)=false:=rfl
theorem ybhu{n:Nat}(Q:(Nat->Option ABlk)->Value->Prop)(v:SV):scalar (n+1) (.ex Q v)=false:=rfl
theorem ybol{n:Nat}(o:Own)(Q:(Nat->Option ABlk)->Value->Prop)(v:SV):view o (n+1) (.ex Q v) = .ex Q v:=rfl
theorem ybza{n:Nat}(o:Own)(Q:(Nat->Option ABlk)->Value->Prop)(v:SV):vok o (n+1) (.ex Q v)=True:=rfl
theorem ybuq{n:Nat}(ρ:Nm->Nm)(Q:(Nat->Option ABlk)->Value->Prop)(v:SV):ren ρ (n+1) (.ex Q v) = .ex Q v:=rfl
theorem ycab{n:Nat}(D:Nm->Bool)(Q:(Nat->Option ABlk)->Value->Prop)(v:SV):cln D (n+1) (.ex Q v)=true:=rfl
theorem yboj(Q:(Nat->Option ABlk)->Value->Prop)(v:SV):one1 (.ex Q v)=one1 v:=rfl
theorem ybgp{n:Nat} :owned (n+1) .bad=true:=rfl
theorem ybdh{n:Nat} :scalar (n+1) .bad=false:=rfl
theorem ybli{n:Nat}(o:Own) :view o (n+1) .bad = .bad:=rfl
theorem ybrt{n:Nat}(o:Own) :vok o (n+1) .bad=False:=rfl
theorem ybpm{n:Nat}(ρ:Nm->Nm) :ren ρ (n+1) .bad = .bad:=rfl
theorem ybqn{n:Nat}(D:Nm->Bool) :cln D (n+1) .bad=true:=rfl
theorem ybix :one1 .bad=false:=rfl
theorem ybjd{n:Nat}(c:List SV):owned (n+1) (.ag c)=c.any (owned n):=rfl
theorem ybfk{n:Nat}(c:List SV):scalar (n+1) (.ag c)=c.all (scalar n):=rfl
theorem ybqr{n:Nat}(o:Own)(c:List SV):view o (n+1) (.ag c) = .ag (c.map (view o n)):=rfl
theorem ybwz{n:Nat}(o:Own)(c:List SV):vok o (n+1) (.ag c)=allP (vok o n) c:=rfl
theorem ybxa{n:Nat}(ρ:Nm->Nm)(c:List SV):ren ρ (n+1) (.ag c) = .ag (c.map (ren ρ n)):=rfl
theorem ybvu{n:Nat}(D:Nm->Bool)(c:List SV):cln D (n+1) (.ag c)=c.all (cln D n):=rfl
theorem ybos(c:List SV):one1 (.ag c)=false:=rfl
theorem yblb{n:Nat}(c:List SV):owned (n+1) (.tp c)=c.any (owned n):=rfl
theorem ybea{n:Nat}(c:List SV):scalar (n+1) (.tp c)=c.all (scalar n):=rfl
theorem ybrs{n:Nat}(o:Own)(c:List SV):view o (n+1) (.tp c) = .tp (c.map (view o n)):=rfl
theorem ybxi{n:Nat}(o:Own)(c:List SV):vok o (n+1) (.tp c)=allP (vok o n) c:=rfl
theorem ybvt{n:Nat}(ρ:Nm->Nm)(c:List SV):ren ρ (n+1) (.tp c) = .tp (c.map (ren ρ n)):=rfl
theorem ybwf{n:Nat}(D:Nm->Bool)(c:List SV):cln D (n+1) (.tp c)=c.all (cln D n):=rfl
theorem ybqy(c:List SV):one1 (.tp c)=false:=rfl
theorem ybim{n:Nat}(g:FuncId)(a b:List SV):owned (n+1) (.fn g a b)=(a.any (owned n)||b.any (owned n)):=rfl
theorem ybee{n:Nat}(g:FuncId)(a b:List SV):scalar (n+1) (.fn g a b)=false:=rfl
theorem yboy{n:Nat}(o:Own)(g:FuncId)(a b:List SV):view o (n+1) (.fn g a b) = .fn g (a.map (view o n)) (b.map (view o n)):=rfl
theorem ybyo{n:Nat}(o:Own)(g:FuncId)(a b:List SV):vok o (n+1) (.fn g a b)=(allP (vok o n) a/\allP (vok o n) b):=rfl
theorem ybyv{n:Nat}(ρ:Nm->Nm)(g:FuncId)(a b:List SV):ren ρ (n+1) (.fn g a b) = .fn g (a.map (ren ρ n)) (b.map (ren ρ n)):=rfl
theorem ybsv{n:Nat}(D:Nm->Bool)(g:FuncId)(a b:List SV):cln D (n+1) (.fn g a b)=(a.all (cln D n)&&b.all (cln D n)):=rfl
theorem ybrv(g:FuncId)(a b:List SV):one1 (.fn g a b)=true:=rfl
theorem ybmd{n:Nat}(β:Nm)(i j:Nat):owned (n+1) (.pt β i j)=true:=rfl
theorem ybey{n:Nat}(β:Nm)(i j:Nat):scalar (n+1) (.pt β i j)=false:=rfl
theorem ybrn{n:Nat}(o:Own)(β:Nm)(i j:Nat):view o (n+1) (.pt β i j)=(match lookO o β with|some b=>.rf ((((b.g i).drop j)).map (view o n))|none=>.bad):=rfl
theorem ybxe{n:Nat}(o:Own)(β:Nm)(i j:Nat):vok o (n+1) (.pt β i j)=(match lookO o β with|some b=>(i<b.n/\j<=b.z)/\allP (vok o n) ((b.g i).drop j)|none=>False):=rfl
theorem ybxp{n:Nat}(ρ:Nm->Nm)(β:Nm)(i j:Nat):ren ρ (n+1) (.pt β i j) = .pt (ρ β) i j:=rfl
theorem ybtp{n:Nat}(D:Nm->Bool)(β:Nm)(i j:Nat):cln D (n+1) (.pt β i j)=D β:=rfl
theorem yboz(β:Nm)(i j:Nat):one1 (.pt β i j)=true:=rfl
theorem ybmc{n:Nat}(β:Nm)(p k:Nat)(ap:Bool):owned (n+1) (.os β p k ap)=true:=rfl
theorem ybfa{n:Nat}(β:Nm)(p k:Nat)(ap:Bool):scalar (n+1) (.os β p k ap)=false:=rfl
theorem ybop{n:Nat}(o:Own)(β:Nm)(p k:Nat)(ap:Bool):view o (n+1) (.os β p k ap)=(match lookO o β with|some b=>.sl b.z k (fun q=>(b.g (p+q)).map (view o n))|none=>.bad):=rfl
theorem ybyx{n:Nat}(o:Own)(β:Nm)(p k:Nat)(ap:Bool):vok o (n+1) (.os β p k ap)=(match lookO o β with|some b=>p+k<=b.n/\∀q,q<k->allP (vok o n) (b.g (p+q))|none=>False):=rfl
theorem ybtu{n:Nat}(ρ:Nm->Nm)(β:Nm)(p k:Nat)(ap:Bool):ren ρ (n+1) (.os β p k ap) = .os (ρ β) p k ap:=rfl
theorem ybzz{n:Nat}(D:Nm->Bool)(β:Nm)(p k:Nat)(ap:Bool):cln D (n+1) (.os β p k ap)=D β:=rfl
theorem ybok(β:Nm)(p k:Nat)(ap:Bool):one1 (.os β p k ap)=true:=rfl
theorem any_false{α:Type}{p:α->Bool}{l:List α}(h:l.any p=false):∀x∈l,p x=false:=fun x hx=>by
 cases hq:p x with
 |false=>rfl
 |true=>rw[List.any_eq_true.2 ⟨x,hx,hq⟩]at h;cases h
theorem yct{α:Type}{p:α->Bool}{l:List α}(h:∀x∈l,p x=false):l.any p=false:=by
 cases hq:l.any p with
 |false=>rfl
 |true=>obtain⟨x,h1,h2⟩:=List.any_eq_true.1 hq;rw[h x h1]at h2;cases h2
theorem yfz:∀{n:Nat}{v:SV},owned n v=false->owned (n+1) v=false
 |0,_,h=>by cases h
 | n + 1,v,h=>by
   cases v with
   |ag c=>exact yct fun x hx=>yfz (any_false h x hx)
   |tp c=>exact yct fun x hx=>yfz (any_false h x hx)
   | fn g a b =>
     have h:(_||_)=false:=h;rw[zA]at h;show(_||_)=false;rw[zA];exact⟨yct fun x hx=>yfz (any_false h.1 x hx),yct fun x hx=>yfz (any_false h.2 x hx)⟩
   |_=>first|rfl|cases h
theorem yor{n:Nat}{l:List SV}(h:l.any (owned n)=false):l.any (owned (n+1))=false:=yct fun x hx=>yfz (any_false h x hx)
theorem yuh(ρ:Nm->Nm):∀{n:Nat}{v:SV},owned n v=false->ren ρ n v=v
 |0,_,h=>by cases h
 | n + 1,v,h=>by
   have ml:∀{l:List SV},l.any (owned n)=false->l.map (ren ρ n)=l:=fun {l} h=>by
    induction l with
    |nil=>rfl
    |cons x l ih=>rw[zC,yuh ρ (any_false h x zD),ih (yct fun y hy=>any_false h y (zB _ hy))]
   cases v with
   |ag c=>show SV.ag _=_;rw[ml h]
   |tp c=>show SV.tp _=_;rw[ml h]
   | fn g a b =>
     have h:(_||_)=false:=h;rw[zA]at h;show SV.fn g _ _=_;rw[ml h.1,ml h.2]
   |_=>first|rfl|cases h
theorem ygh(ρ:Nm->Nm){n:Nat}{l:List SV}(h:l.any (owned n)=false):l.map (ren ρ n)=l:=by
 induction l with
 |nil=>rfl
 |cons x l ih=>rw[zC,yuh ρ (any_false h x zD),ih (yct fun y hy=>any_false h y (zB _ hy))]
theorem yut(D:Nm->Bool):∀{n:Nat}{v:SV},owned n v=false->cln D n v=true
 |0,_,h=>by cases h
 | n + 1,v,h=>by
   have ml:∀{l:List SV},l.any (owned n)=false->l.all (cln D n)=true:=fun {l} h=>List.all_eq_true.2 fun x hx=>yut D (any_false h x hx);cases v with
   |ag c=>exact ml h
   |tp c=>exact ml h
   | fn g a b =>
     have h:(_||_)=false:=h;rw[zA]at h;show(_&&_)=true;rw[ml h.1,ml h.2];rfl
   |_=>first|rfl|cases h
theorem ygd(D:Nm->Bool){n:Nat}{l:List SV}(h:l.any (owned n)=false):l.all (cln D n)=true:=List.all_eq_true.2 fun x hx=>yut D (any_false h x hx)
end Sh
end
end Go.Proofs.Ytiejahgklcjhkaa
