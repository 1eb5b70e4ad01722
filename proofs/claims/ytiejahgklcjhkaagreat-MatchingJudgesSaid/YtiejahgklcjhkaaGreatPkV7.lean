/- Joined. -/
import Derived.Test.YtiejahgklcjhkaaGreatPkV6
set_option linter.unusedSimpArgs false
set_option linter.unusedVariables false
open Iff renaming rfl→zA
open Go
namespace Go.Proofs.YtiejahgklcjhkaaGreat
section
namespace Sh
open Go Ev
theorem Sim.refl(v:SV):Sim v v:=fun _ _ _ h=>h
theorem yw(v:SV):Sim v v↔True:=⟨fun _=>trivial,fun _=>Sim.refl v⟩
theorem yfn{k k':IntKind}{a b:Int}:Sim (.i k a) (.i k' b)↔k=k'/\a=b :=
 ⟨fun h=>by have:=h (fun _=>none) om0 _ .i;cases this;exact⟨rfl,rfl⟩,fun h=>by rw[h.1,h.2];exact Sim.refl _⟩
theorem ybri{a b:Bool}:Sim (.b a) (.b b)↔a=b :=
 ⟨fun h=>by have:=h (fun _=>none) om0 _ .b;cases this;rfl,fun h=>by rw[h];exact Sim.refl _⟩
theorem ybxh{z n:Nat}{g g':Nat->List SV}(h:∀k,k<n->g k=g' k):Sim (.sl z n g) (.sl z n g'):=by
 intro F ω u hr;rcases hr.sl_inv with⟨rfl,h0⟩|⟨bk,p,cp,T,N,e,zz,L,rfl,g1,g2,g3,g4,g5,g6,g7⟩
 ·exact .sl0 h0
 ·exact .sl g1 g2 g3 g4 g5 (fun k hk=>h k hk▸g6 k hk) (fun k hk=>h k hk▸g7 k hk)
theorem ybea {pr:List Nm}(ρ:List (Nat×(Nat->Nm))) (vir:List Nat) (fr:List Nm) {s t:SS}(h1:yql s.o fr) (h2:yzp (rid ρ) vir t.o) (h3:allQ (yoq (rid ρ) vir fr t.o s) t.f) (h4:allQ (yjz (rid ρ) vir fr t.o s) t.o)
 (hp:allQ (fun β=>live t.o β=true/\vir.elem β.1=false/\rid ρ β=β) pr):Weak pr s t:=WeakBy.weak ⟨h1,h2,h3,h4⟩ hp
theorem ybpd(ρ:List (Nat×(Nat->Nm)))(vir:List Nat)(fr:List Nm){s t:SS}(h1:yql s.o fr)(h2:yzp (rid ρ) vir t.o)(h3:allQ (yoq (rid ρ) vir fr t.o s) t.f)(h4:allQ (yjz (rid ρ) vir fr t.o s) t.o):Weak [] s t:=ybea ρ vir fr h1 h2 h3 h4 trivial
theorem ybd(ρ:List (Nat×(Nat->Nm)))(vir:List Nat)(fr:List Nm){s t:SS}(h:yql s.o fr/\yzp (rid ρ) vir t.o/\allQ (yoq (rid ρ) vir fr t.o s) t.f/\allQ (yjz (rid ρ) vir fr t.o s) t.o):Weak [] s t:=ybpd ρ vir fr h.1 h.2.1 h.2.2.1 h.2.2.2
theorem yri{pr:List Nm}(ρ:List (Nat×(Nat->Nm)))(vir:List Nat)(fr:List Nm){s t:SS}(h:(yql s.o fr/\yzp (rid ρ) vir t.o/\allQ (yoq (rid ρ) vir fr t.o s) t.f/\allQ (yjz (rid ρ) vir fr t.o s) t.o)/\allQ (fun β=>live t.o β=true/\vir.elem β.1=false/\rid ρ β=β) pr):Weak pr s t:=ybea ρ vir fr h.1.1 h.1.2.1 h.1.2.2.1 h.1.2.2.2 h.2
theorem ysy(o:Own):∀(n:Nat) (v:SV),ycn [] o n v=v
 |0,_=>rfl
 | n + 1,v=>by
   have ml:∀l:List SV,l.map (ycn [] o n)=l:=fun l=>by
    induction l with
    |nil=>rfl
    |cons x l ih=>rw[List.map_cons,ysy o n x,ih]
   cases v with
   |ag c=>show SV.ag _=_;rw[ml]
   |tp c=>show SV.tp _=_;rw[ml]
   |fn g a b=>show SV.fn g _ _=_;rw[ml,ml]
   |_=>rfl
theorem ybcw(o:Own):∀(n:Nat) (v:SV),pok [] o n v↔True
 |0,_=>zA
 | n + 1,v=>by
   have ml:∀l:List SV,allP (pok [] o n) l:=fun l=>by
    induction l with
    |nil=>trivial
    |cons x l ih=>exact⟨(ybcw o n x).2 trivial,ih⟩
   cases v with
   |ag c=>exact⟨fun _=>trivial,fun _=>ml _⟩
   |tp c=>exact⟨fun _=>trivial,fun _=>ml _⟩
   |fn g a b=>exact⟨fun _=>trivial,fun _=>⟨ml _,ml _⟩⟩
   |pt β i j=>exact⟨fun _=>trivial,fun _ h=>by cases h⟩
   |os β p k c=>exact⟨fun _=>trivial,fun _ h=>by cases h⟩
   |_=>exact zA
theorem ybqj{n:Nat}(fr:List Nm)(o:Own)(k:IntKind)(x:Int):ycn fr o (n+1) (.i k x)=(.i k x):=rfl
theorem ybyd{n:Nat}(fr:List Nm)(o:Own)(k:IntKind)(x:Int):pok fr o (n+1) (.i k x)=True:=rfl
theorem ybox{n:Nat}(fr:List Nm)(o:Own)(x:Bool):ycn fr o (n+1) (.b x)=(.b x):=rfl
theorem ybzc{n:Nat}(fr:List Nm)(o:Own)(x:Bool):pok fr o (n+1) (.b x)=True:=rfl
theorem ybpu{n:Nat}(fr:List Nm)(o:Own)(x:Value):ycn fr o (n+1) (.a x)=(.a x):=rfl
theorem ybxm{n:Nat}(fr:List Nm)(o:Own)(x:Value):pok fr o (n+1) (.a x)=True:=rfl
theorem yblk{n:Nat}(fr:List Nm)(o:Own)(z k:Nat)(g:Nat->List SV):ycn fr o (n+1) (.sl z k g)=(.sl z k g):=rfl
theorem ybsu{n:Nat}(fr:List Nm)(o:Own)(z k:Nat)(g:Nat->List SV):pok fr o (n+1) (.sl z k g)=True:=rfl
theorem ybku{n:Nat}(fr:List Nm)(o:Own)(c:List SV):ycn fr o (n+1) (.rf c)=(.rf c):=rfl
theorem ybus{n:Nat}(fr:List Nm)(o:Own)(c:List SV):pok fr o (n+1) (.rf c)=True:=rfl
theorem yblo{n:Nat}(fr:List Nm)(o:Own)(Q:(Nat->Option ABlk)->Value->Prop)(v:SV):ycn fr o (n+1) (.ex Q v)=(.ex Q v):=rfl
theorem ybxe{n:Nat}(fr:List Nm)(o:Own)(Q:(Nat->Option ABlk)->Value->Prop)(v:SV):pok fr o (n+1) (.ex Q v)=True:=rfl
theorem ybkf{n:Nat}(fr:List Nm)(o:Own)(c:List SV):ycn fr o (n+1) (.ag c) = .ag (c.map (ycn fr o n)):=rfl
theorem ybvz{n:Nat}(fr:List Nm)(o:Own)(c:List SV):pok fr o (n+1) (.ag c)=allP (pok fr o n) c:=rfl
theorem ybig{n:Nat}(fr:List Nm)(o:Own)(c:List SV):ycn fr o (n+1) (.tp c) = .tp (c.map (ycn fr o n)):=rfl
theorem ybvl{n:Nat}(fr:List Nm)(o:Own)(c:List SV):pok fr o (n+1) (.tp c)=allP (pok fr o n) c:=rfl
theorem ybkz{n:Nat}(fr:List Nm)(o:Own)(g:FuncId)(a b:List SV):ycn fr o (n+1) (.fn g a b) = .fn g (a.map (ycn fr o n)) (b.map (ycn fr o n)):=rfl
theorem ybvs{n:Nat}(fr:List Nm)(o:Own)(g:FuncId)(a b:List SV):pok fr o (n+1) (.fn g a b)=(allP (pok fr o n) a/\allP (pok fr o n) b):=rfl
theorem ybjn{n:Nat}(fr:List Nm)(o:Own)(β:Nm)(i j:Nat):ycn fr o (n+1) (.pt β i j)=(if nmem fr β=true then(match lookO o β with|some b=>.rf ((b.g i).drop j)|none=>.bad)else .pt β i j):=rfl
theorem ybuw{n:Nat}(fr:List Nm)(o:Own)(β:Nm)(i j:Nat):pok fr o (n+1) (.pt β i j)=(nmem fr β=true->(match lookO o β with|some b=>i<b.n/\j<=b.z|none=>False)):=rfl
theorem ybhd{n:Nat}(fr:List Nm)(o:Own)(β:Nm)(p k:Nat)(ap:Bool):ycn fr o (n+1) (.os β p k ap)=(if nmem fr β=true then(match lookO o β with|some b=>.sl b.z k (fun q=>b.g (p+q))|none=>.bad)else .os β p k ap):=rfl
theorem ybsx{n:Nat}(fr:List Nm)(o:Own)(β:Nm)(p k:Nat)(ap:Bool):pok fr o (n+1) (.os β p k ap)=(nmem fr β=true->(match lookO o β with|some b=>p+k<=b.n|none=>False)):=rfl
theorem ybni(k:IntKind)(x:Int):SV.cells (.i k x)=[(.i k x)]:=rfl
theorem ybol(x:Bool):SV.cells (.b x)=[(.b x)]:=rfl
theorem ybnf(x:Value):SV.cells (.a x)=[(.a x)]:=rfl
theorem ybkr(z k:Nat)(g:Nat->List SV):SV.cells (.sl z k g)=[(.sl z k g)]:=rfl
theorem ybit(c:List SV):SV.cells (.rf c)=[(.rf c)]:=rfl
theorem ybht(Q:(Nat->Option ABlk)->Value->Prop)(v:SV):SV.cells (.ex Q v)=[(.ex Q v)]:=rfl
theorem yblj(c:List SV):SV.cells (.tp c)=[(.tp c)]:=rfl
theorem ybkd(g:FuncId)(a b:List SV):SV.cells (.fn g a b)=[(.fn g a b)]:=rfl
theorem ybhe(β:Nm)(i j:Nat):SV.cells (.pt β i j)=[(.pt β i j)]:=rfl
theorem ybgz(β:Nm)(p k:Nat)(ap:Bool):SV.cells (.os β p k ap)=[(.os β p k ap)]:=rfl
theorem ybjc(c:List SV):SV.cells (.ag c)=c:=rfl
theorem yfm {pr:List Nm}{body:(Exit->SS->Prop)->SS->Prop}{K:Exit->SS->Prop}{s:SS}{σ:Type}(st:σ->SS) (inv:σ->Prop) (μ:σ->Nat) (x0:σ) (h0:inv x0) (hs:Weak pr s (st x0))
 (hstep:∀x,inv x->body (ybbp pr (fun n t=>∃y,inv y/\μ y=n/\t=st y) (μ x) K) (st x)):ybon pr body K s :=
 ⟨fun n t=>∃y,inv y/\μ y=n/\t=st y,⟨μ x0,st x0,⟨x0,h0,rfl,rfl⟩,hs⟩,fun n t ⟨y,h1,h2,h3⟩=>by subst h2 h3;exact hstep y h1⟩
theorem ybj{pr:List Nm}{σ:Type}{st:σ->SS}{inv:σ->Prop}{μ:σ->Nat}{n:Nat}{K:Exit->SS->Prop}{t:SS}(y:σ)(h1:inv y)(h2:μ y<n)(h3:Weak pr t (st y)):ybbp pr (fun n t=>∃y,inv y/\μ y=n/\t=st y) n K .normal t :=
 ⟨μ y,st y,h2,⟨y,h1,rfl,rfl⟩,h3⟩
def Returns(P:Program)(g:FuncId)(args:List SV)(r:SV):Prop:=Ct P g args (· = r)
theorem Returns.of{P:Program}{g:FuncId}{args:List SV}{r:SV}(h:Ct P g args fun x=>Sim x r):Returns P g args r:=fun G m us h1 h2 h3=>by
 obtain⟨v,m',x,a,b,c,d,e⟩:=h G m us h1 h2 h3;exact⟨v,m',r,a,b,c,rfl,d _ _ _ e⟩
theorem yvl{z:Nat}{g:Nat->List SV}:Sim (.a (.slice none 0 0)) (.sl z 0 g):=fun F ω u h=>by cases h;exact .sl0 (.inl rfl)
theorem Returns.use{P:Program}{g:FuncId}{args:List SV}{r:SV}{Q:SV->Prop}(h:Returns P g args r)(hq:Q r):Ct P g args Q:=h.mono fun _ e=>e▸hq
def SimL:List SV->List SV->Prop
 |[],[]=>True
 |v::l,w::k=>Sim v w/\SimL l k
 |_,_=>False
theorem SimL.rvl{F:AM}{ω:Om}:∀{l k:List SV}{L:List Value},SimL l k->RVL F ω l L->RVL F ω k L
 |[],[],_,_,.nil=>.nil
 |_::_,_::_,_,h,.cons a b=>.cons (h.1 _ _ _ a) (h.2.rvl b)
 |[],_::_,_,h,_=>h.elim
 |_::_,[],_,h,_=>h.elim
theorem yqm{z n:Nat}{g g':Nat->List SV}(h:∀k,k<n->SimL (g k) (g' k)/\(g' k).all one1=true):Sim (.sl z n g) (.sl z n g'):=by
 intro F ω u hr;rcases hr.sl_inv with⟨rfl,h0⟩|⟨bk,p,cp,T,N,e,zz,L,rfl,g1,g2,g3,g4,g5,g6,g7⟩
 ·exact .sl0 h0
 ·exact .sl g1 g2 g3 g4 g5 (fun k hk=>(h k hk).1.rvl (g6 k hk)) (fun k hk=>(h k hk).2)
theorem Ct.simL{P:Program}{g:FuncId}{as bs:List SV}{Q:SV->Prop}(h:Ct P g bs Q)(hs:SimL as bs):Ct P g as Q:=fun G m us h1 h2 h3=>h G m us h1 h2 (hs.rvl h3)
theorem Returns.useS{P:Program}{g:FuncId}{as bs:List SV}{r:SV}{Q:SV->Prop}(h:Returns P g bs r)(hs:SimL as bs)(hq:Q r):Ct P g as Q:=(h.use hq).simL hs
section
variable (C:CC) (K:Exit->SS->Prop) (s:SS)
def vN(b:SC):SS->Prop:=vc C b K
theorem ybyz(b:SC):vN C K b s=vc C b K s:=rfl
theorem ybnw:vc C .skip K s=K .normal s:=rfl
theorem ybsr(a b:SC):vc C (.seq a b) K s=vc C a (ybca (vN C K b) K) s:=rfl
theorem ybpq(c:Operand)(a b:SC):vc C (.cond c a b) K s=ybcg (s.get c) c s (vN C K a) (vN C K b):=rfl
theorem ybil(id:Nat)(b:SC):vc C (.block id b) K s=vc C b (yrs id K) s:=rfl
theorem ybpz(b:SC):vc C (.loop b) K s=ybon C.pr (vc C b) K s:=rfl
theorem ybio(g:Operand)(ps:List Nat)(a b:SC):vc C (.range g ps a b) K s=ybgl C g ps (vcR a) (vcR b) K s:=rfl
theorem ybrd(id:Nat):vc C (.exit id) K s=K (.exit id) s:=rfl
theorem ybzp:vc C .no K s=False:=rfl
theorem ybth:vc C .ret K s=K .ret s:=rfl
theorem ybta(d:Bool)(ops:List SOper):vc C (.reg d ops) K s=yiv C d (K .normal) ops 0 [] s:=rfl
theorem yrc(n:SS->Prop):ybca n K .normal s=n s:=rfl
theorem yzt(n:SS->Prop)(i:Nat):ybca n K (.exit i) s=K (.exit i) s:=rfl
theorem ybfg(n:SS->Prop):ybca n K .ret s=K .ret s:=rfl
theorem yra(n:SS->Prop):ybos n .normal s=n s:=rfl
theorem yqn(t:SS)(fin:Own->Prop):yrj K t fin .normal s=fin s.o:=rfl
theorem yyw(t:SS)(fin:Own->Prop):yrj K t fin .ret s=K .ret ⟨t.f,s.o⟩:=rfl
theorem yws(t:SS)(fin:Own->Prop)(id:Nat):yrj K t fin (.exit id) s=K (.exit id) ⟨t.f,s.o⟩:=rfl
theorem ypg(id:Nat):yrs id K .normal s=K .normal s:=rfl
theorem yui(id i:Nat):yrs id K (.exit i) s=if i=id then K .normal s else K (.exit i) s:=rfl
theorem ybat(id:Nat):yrs id K .ret s=K .ret s:=rfl
theorem yzy(pr:List Nm)(I:Nat->SS->Prop)(n i:Nat):ybbp pr I n K (.exit i) s=K (.exit i) s:=rfl
theorem ybfl(pr:List Nm)(I:Nat->SS->Prop)(n:Nat):ybbp pr I n K .ret s=K .ret s:=rfl
theorem yvy(rs:List SR)(Q:SV->Prop):retK rs Q .normal s=resX s rs fun vs=>vok s.o 5 (ygo vs)/\Q (view s.o 5 (ygo vs)):=rfl
theorem ywf(rs:List SR)(pr:List Nm)(Q:SV->Own->Prop):retM rs pr Q .normal s=resX s rs fun vs=>yblc pr s Q (ygo vs):=rfl
theorem ybka(rs:List SR)(pr:List Nm)(Q:SV->Own->Prop):retM rs pr Q .ret s=resX s rs fun vs=>yblc pr s Q (ygo vs):=rfl
theorem ybkm(rs:List SR)(Q:SV->Prop):retK rs Q .ret s=resX s rs fun vs=>vok s.o 5 (ygo vs)/\Q (view s.o 5 (ygo vs)):=rfl
end
section
variable (C:CC) (d:Bool) (K:SS->Prop)
def vO(l:List SOper)(i:Nat):List (Nat×SRec)->SS->Prop:=yiv C d K l i
theorem ybxo(l:List SOper)(i:Nat)(rs:List (Nat×SRec))(s:SS):vO C d K l i rs s=yiv C d K l i rs s:=rfl
theorem ybqh(i:Nat)(rs:List (Nat×SRec))(s:SS):yiv C d K [] i rs s=K s:=rfl
theorem ybjy(op:SOp)(dst:Option Nat)(an:Nat)(l:List SOper)(i:Nat)(rs:List (Nat×SRec))(s:SS):yiv C d K (⟨op,dst,none,an⟩::l) i rs s=runO C d rs s i an dst (vO C d K l (i+1)) op:=rfl
theorem ybec(op:SOp)(dst:Option Nat)(t:Nat)(w:Bool)(an:Nat)(l:List SOper)(i:Nat)(rs:List (Nat×SRec))(s:SS):yiv C d K (⟨op,dst,some (t,w),an⟩::l) i rs s=ymx C d rs s i an dst (vO C d K l (i+1)) op t w (look s.f t):=rfl
def gb(c:Bool)(A B:Prop):Prop:=(c=true->A)/\(c=false->B)
def gb2(c:Bool)(A B:Prop):Prop:=(c=false->A)/\(c=true->B)
theorem gb_t(A B:Prop):gb true A B=A:=propext ⟨fun h=>h.1 rfl,fun h=>⟨fun _=>h,fun q=>by cases q⟩⟩
theorem gb_f(A B:Prop):gb false A B=B:=propext ⟨fun h=>h.2 rfl,fun h=>⟨fun q=>(nomatch q),fun _=>h⟩⟩
theorem ybxl(A B:Prop):gb2 true A B=B:=propext ⟨fun h=>h.2 rfl,fun h=>⟨fun q=>(nomatch q),fun _=>h⟩⟩
theorem ybzf(A B:Prop):gb2 false A B=A:=propext ⟨fun h=>h.1 rfl,fun h=>⟨fun _=>h,fun q=>by cases q⟩⟩
theorem gb_x(c:Bool)(A B:Prop):gb c A B=((c=true->A)/\(c=false->B)):=rfl
theorem ybzr(c:Bool)(A B:Prop):gb2 c A B=((c=false->A)/\(c=true->B)):=rfl
theorem ybre(x:Bool)(c:Operand)(s:SS)(a b:SS->Prop):ybcg (some (.b x)) c s a b=gb x (a (s.lit c true)) (b (s.lit c false)):=rfl
theorem yblg(rs:List (Nat×SRec))(s:SS)(i an:Nat)(dst:Option Nat)(nx:List (Nat×SRec)->SS->Prop)(op:SOp)(t:Nat)(c:Bool):ymx C d rs s i an dst nx op t true (some (.b c))=gb c (runO C d rs (s.put (some t) (.b true)) i an dst nx op) (nx rs ((s.put (some t) (.b false)).put dst (.tp []))):=rfl
theorem ybjl(rs:List (Nat×SRec))(s:SS)(i an:Nat)(dst:Option Nat)(nx:List (Nat×SRec)->SS->Prop)(op:SOp)(t:Nat)(c:Bool):ymx C d rs s i an dst nx op t false (some (.b c))=gb2 c (runO C d rs (s.put (some t) (.b false)) i an dst nx op) (nx rs ((s.put (some t) (.b true)).put dst (.tp []))):=rfl
theorem ybct(rs:List (Nat×SRec))(s:SS)(i an:Nat)(dst:Option Nat)(nx:List (Nat×SRec)->SS->Prop)(op:SOp)(t:Nat)(w:Bool):ymx C d rs s i an dst nx op t w (some (.tp []))=nx rs (s.put dst (.tp [])):=rfl
end
theorem ybou(dst:Option Nat)(old:Bool)(rs:List (Nat×SRec)):ygq false dst old rs=rs:=by unfold ygq;rfl
theorem ybqd(d:Bool)(dst:Option Nat)(rs:List (Nat×SRec)):ygq d dst true rs=rs:=by unfold ygq;cases d<;>cases dst<;>rfl
theorem ybpj(d old:Bool)(rs:List (Nat×SRec)):ygq d none old rs=rs:=by unfold ygq;cases d<;>rfl
theorem ybrb(t:Nat)(rs:List (Nat×SRec)):ygq true (some t) false rs=(1000+t,SRec.no)::rs:=rfl
theorem ybnx(d:Bool)(an:Nat)(r:SRec)(rs:List (Nat×SRec)):ybgx d an false r rs=fits d an r rs:=rfl
theorem ybpx(d:Bool)(an:Nat)(r:SRec)(rs:List (Nat×SRec)):ybgx d an true r rs=(!d||rs.all fun q=>Nat.testBit an q.1 || !(yih r q.2)):=rfl
theorem ybjb {C:CC}{gx:Operand}{ps:List Nat}{a b:SC}{K:Exit->SS->Prop}{s:SS}{g:FuncId}{caps:List SV}{S:ItS}(hit:C.it g caps S) {σ:Type}(pr:List Nm) (st:Nat->σ->SS) (inv:Nat->σ->Prop) (x0:σ) (hx0:inv 0 x0)
 (hpr:(∀β∈C.pr,β∈pr)/\∀β∈S.pr,β∈pr) (h0:Weak C.pr s (st 0 x0)) (hg:∀x,(st 0 x).get gx=some (.fn g [] caps)) (hinv:∀k x,inv k x->k<=S.n->S.own k (st k x).o/\allQ (fun p=>cln (nmem pr) 5 p.2=true) (st k x).f)
 (hround:∀k x,inv k x->k<S.n->∃t1,puts (st k x) ps (S.el k)=some t1/\vc ⟨C.ct,C.cm,C.it,pr,C.mu⟩ a (ybos (vN ⟨C.ct,C.cm,C.it,pr,C.mu⟩ (yrj K (st k x) fun o=>S.own k o/\∃y,inv (k+1) y/\Weak pr ⟨(st k x).f,S.adv k o⟩ (st (k+1) y)) b)) t1)
 (hend:∀x,inv S.n x->K .normal (st S.n x)):ybgl C gx ps (vcR a) (vcR b) K s:=by
 refine⟨pr,fun k t=>k<=S.n/\∃x,inv k x/\t=st k x,g,caps,S,hit,hpr,⟨st 0 x0,⟨Nat.zero_le _,x0,hx0,rfl⟩,h0⟩,?_,?_,?_,?_⟩
 ·rintro t ⟨_,x,hx,rfl⟩;exact hg x
 ·rintro k t ⟨hk,x,hx,rfl⟩;exact hinv k x hx hk
 ·rintro k t ⟨_,x,hx,rfl⟩ hk;obtain⟨t1,h1,h2⟩:=hround k x hx hk;refine⟨t1,h1,?_⟩
  have e:(fun o=>S.own k o/\∃u,(k+1<=S.n/\∃x,inv (k+1) x/\u=st (k+1) x)/\Weak pr ⟨(st k x).f,S.adv k o⟩ u)=(fun o=>S.own k o/\∃y,inv (k+1) y/\Weak pr ⟨(st k x).f,S.adv k o⟩ (st (k+1) y)):=by
   funext o
   refine propext ⟨?_,?_⟩
   ·rintro⟨h,u,⟨_,y,hy,rfl⟩,hw⟩;exact⟨h,y,hy,hw⟩
   ·rintro⟨h,y,hy,hw⟩;exact⟨h,_,⟨hk,y,hy,rfl⟩,hw⟩
  rw[e];exact h2
 ·rintro t ⟨_,x,hx,rfl⟩;exact hend x hx
theorem ybqx{α:Type}{a:α}{p:α->Prop}:(∃v,some a=some v/\p v)↔p a:=⟨fun⟨_,h,q⟩=>by cases h;exact q,fun h=>⟨a,rfl,h⟩⟩
theorem ybqi{n:Nat}(k:IntKind)(x:Int):owned (n+1) (.i k x)=false:=rfl
theorem ybjr{n:Nat}(k:IntKind)(x:Int):scalar (n+1) (.i k x)=true:=rfl
theorem ybvh{n:Nat}(o:Own)(k:IntKind)(x:Int):view o (n+1) (.i k x)=(.i k x):=rfl
theorem ybyi{n:Nat}(o:Own)(k:IntKind)(x:Int):vok o (n+1) (.i k x)=True:=rfl
theorem yqj{n:Nat}(ρ:Nm->Nm)(k:IntKind)(x:Int):ren ρ (n+1) (.i k x)=(.i k x):=rfl
theorem ybxy{n:Nat}(D:Nm->Bool)(k:IntKind)(x:Int):cln D (n+1) (.i k x)=true:=rfl
theorem ybwv(k:IntKind)(x:Int):one1 (.i k x)=true:=rfl
theorem ybra{n:Nat}(x:Bool):owned (n+1) (.b x)=false:=rfl
theorem ybim{n:Nat}(x:Bool):scalar (n+1) (.b x)=true:=rfl
theorem ybsi{n:Nat}(o:Own)(x:Bool):view o (n+1) (.b x)=(.b x):=rfl
theorem ybxw{n:Nat}(o:Own)(x:Bool):vok o (n+1) (.b x)=True:=rfl
theorem ycac{n:Nat}(ρ:Nm->Nm)(x:Bool):ren ρ (n+1) (.b x)=(.b x):=rfl
theorem ybyg{n:Nat}(D:Nm->Bool)(x:Bool):cln D (n+1) (.b x)=true:=rfl
theorem ybvg(x:Bool):one1 (.b x)=true:=rfl
theorem yboi{n:Nat}(x:Value):owned (n+1) (.a x)=false:=rfl
theorem yblf{n:Nat}(x:Value):scalar (n+1) (.a x)=true:=rfl
theorem ybry{n:Nat}(o:Own)(x:Value):view o (n+1) (.a x)=(.a x):=rfl
theorem ycaa{n:Nat}(o:Own)(x:Value):vok o (n+1) (.a x)=True:=rfl
theorem ybyp{n:Nat}(ρ:Nm->Nm)(x:Value):ren ρ (n+1) (.a x)=(.a x):=rfl
theorem ybxt{n:Nat}(D:Nm->Bool)(x:Value):cln D (n+1) (.a x)=true:=rfl
theorem ybwg(x:Value):one1 (.a x)=true:=rfl
theorem ybgw{n:Nat}(z k:Nat)(g:Nat->List SV):owned (n+1) (.sl z k g)=false:=rfl
theorem ybdm{n:Nat}(z k:Nat)(g:Nat->List SV):scalar (n+1) (.sl z k g)=false:=rfl
theorem ybmt{n:Nat}(o:Own)(z k:Nat)(g:Nat->List SV):view o (n+1) (.sl z k g)=(.sl z k g):=rfl
theorem ybtx{n:Nat}(o:Own)(z k:Nat)(g:Nat->List SV):vok o (n+1) (.sl z k g)=True:=rfl
theorem ybtc{n:Nat}(ρ:Nm->Nm)(z k:Nat)(g:Nat->List SV):ren ρ (n+1) (.sl z k g)=(.sl z k g):=rfl
theorem ybxb{n:Nat}(D:Nm->Bool)(z k:Nat)(g:Nat->List SV):cln D (n+1) (.sl z k g)=true:=rfl
theorem ybqa(z k:Nat)(g:Nat->List SV):one1 (.sl z k g)=true:=rfl
theorem ybij{n:Nat}(c:List SV):owned (n+1) (.rf c)=false:=rfl
theorem ybex{n:Nat}(c:List SV):scalar (n+1) (.rf c)=false:=rfl
theorem ybrf{n:Nat}(o:Own)(c:List SV):view o (n+1) (.rf c)=(.rf c):=rfl
theorem ybvi{n:Nat}(o:Own)(c:List SV):vok o (n+1) (.rf c)=True:=rfl
theorem ybvc{n:Nat}(ρ:Nm->Nm)(c:List SV):ren ρ (n+1) (.rf c)=(.rf c):=rfl
theorem ybub{n:Nat}(D:Nm->Bool)(c:List SV):cln D (n+1) (.rf c)=true:=rfl
theorem ybqu(c:List SV):one1 (.rf c)=true:=rfl
theorem ybkj{n:Nat}(Q:(Nat->Option ABlk)->Value->Prop)(v:SV):owned (n+1) (.ex Q v)=false:=rfl
theorem ybev{n:Nat}(Q:(Nat->Option ABlk)->Value->Prop)(v:SV):scalar (n+1) (.ex Q v)=false:=rfl
theorem ybnh{n:Nat}(o:Own)(Q:(Nat->Option ABlk)->Value->Prop)(v:SV):view o (n+1) (.ex Q v) = .ex Q v:=rfl
theorem ybtf{n:Nat}(o:Own)(Q:(Nat->Option ABlk)->Value->Prop)(v:SV):vok o (n+1) (.ex Q v)=True:=rfl
theorem ybvr{n:Nat}(ρ:Nm->Nm)(Q:(Nat->Option ABlk)->Value->Prop)(v:SV):ren ρ (n+1) (.ex Q v) = .ex Q v:=rfl
theorem ybtv{n:Nat}(D:Nm->Bool)(Q:(Nat->Option ABlk)->Value->Prop)(v:SV):cln D (n+1) (.ex Q v)=true:=rfl
theorem ybnu(Q:(Nat->Option ABlk)->Value->Prop)(v:SV):one1 (.ex Q v)=one1 v:=rfl
theorem ybbv{n:Nat} :owned (n+1) .bad=true:=rfl
theorem ybbm{n:Nat} :scalar (n+1) .bad=false:=rfl
theorem yble{n:Nat}(o:Own) :view o (n+1) .bad = .bad:=rfl
theorem ybnl{n:Nat}(o:Own) :vok o (n+1) .bad=False:=rfl
theorem ybnq{n:Nat}(ρ:Nm->Nm) :ren ρ (n+1) .bad = .bad:=rfl
theorem ybql{n:Nat}(D:Nm->Bool) :cln D (n+1) .bad=true:=rfl
theorem ybkv :one1 .bad=false:=rfl
theorem ybgv{n:Nat}(c:List SV):owned (n+1) (.ag c)=c.any (owned n):=rfl
theorem ybda{n:Nat}(c:List SV):scalar (n+1) (.ag c)=c.all (scalar n):=rfl
theorem ybpl{n:Nat}(o:Own)(c:List SV):view o (n+1) (.ag c) = .ag (c.map (view o n)):=rfl
theorem ybtj{n:Nat}(o:Own)(c:List SV):vok o (n+1) (.ag c)=allP (vok o n) c:=rfl
theorem ybsy{n:Nat}(ρ:Nm->Nm)(c:List SV):ren ρ (n+1) (.ag c) = .ag (c.map (ren ρ n)):=rfl
theorem ybxj{n:Nat}(D:Nm->Bool)(c:List SV):cln D (n+1) (.ag c)=c.all (cln D n):=rfl
theorem ybqq(c:List SV):one1 (.ag c)=false:=rfl
theorem ybli{n:Nat}(c:List SV):owned (n+1) (.tp c)=c.any (owned n):=rfl
theorem ybgq{n:Nat}(c:List SV):scalar (n+1) (.tp c)=c.all (scalar n):=rfl
theorem ybqe{n:Nat}(o:Own)(c:List SV):view o (n+1) (.tp c) = .tp (c.map (view o n)):=rfl
theorem ybuo{n:Nat}(o:Own)(c:List SV):vok o (n+1) (.tp c)=allP (vok o n) c:=rfl
theorem ybrv{n:Nat}(ρ:Nm->Nm)(c:List SV):ren ρ (n+1) (.tp c) = .tp (c.map (ren ρ n)):=rfl
theorem ybwu{n:Nat}(D:Nm->Bool)(c:List SV):cln D (n+1) (.tp c)=c.all (cln D n):=rfl
theorem ybog(c:List SV):one1 (.tp c)=false:=rfl
theorem ybjo{n:Nat}(g:FuncId)(a b:List SV):owned (n+1) (.fn g a b)=(a.any (owned n)||b.any (owned n)):=rfl
theorem ybdy{n:Nat}(g:FuncId)(a b:List SV):scalar (n+1) (.fn g a b)=false:=rfl
theorem ybmv{n:Nat}(o:Own)(g:FuncId)(a b:List SV):view o (n+1) (.fn g a b) = .fn g (a.map (view o n)) (b.map (view o n)):=rfl
theorem ybse{n:Nat}(o:Own)(g:FuncId)(a b:List SV):vok o (n+1) (.fn g a b)=(allP (vok o n) a/\allP (vok o n) b):=rfl
theorem ybwn{n:Nat}(ρ:Nm->Nm)(g:FuncId)(a b:List SV):ren ρ (n+1) (.fn g a b) = .fn g (a.map (ren ρ n)) (b.map (ren ρ n)):=rfl
theorem ybtm{n:Nat}(D:Nm->Bool)(g:FuncId)(a b:List SV):cln D (n+1) (.fn g a b)=(a.all (cln D n)&&b.all (cln D n)):=rfl
theorem ybqk(g:FuncId)(a b:List SV):one1 (.fn g a b)=true:=rfl
theorem ybkc{n:Nat}(β:Nm)(i j:Nat):owned (n+1) (.pt β i j)=true:=rfl
theorem ybcd{n:Nat}(β:Nm)(i j:Nat):scalar (n+1) (.pt β i j)=false:=rfl
theorem ybqz{n:Nat}(o:Own)(β:Nm)(i j:Nat):view o (n+1) (.pt β i j)=(match lookO o β with|some b=>.rf ((((b.g i).drop j)).map (view o n))|none=>.bad):=rfl
theorem ybwl{n:Nat}(o:Own)(β:Nm)(i j:Nat):vok o (n+1) (.pt β i j)=(match lookO o β with|some b=>(i<b.n/\j<=b.z)/\allP (vok o n) ((b.g i).drop j)|none=>False):=rfl
theorem ybso{n:Nat}(ρ:Nm->Nm)(β:Nm)(i j:Nat):ren ρ (n+1) (.pt β i j) = .pt (ρ β) i j:=rfl
theorem ybrz{n:Nat}(D:Nm->Bool)(β:Nm)(i j:Nat):cln D (n+1) (.pt β i j)=D β:=rfl
theorem yboj(β:Nm)(i j:Nat):one1 (.pt β i j)=true:=rfl
theorem ybkn{n:Nat}(β:Nm)(p k:Nat)(ap:Bool):owned (n+1) (.os β p k ap)=true:=rfl
theorem ybde{n:Nat}(β:Nm)(p k:Nat)(ap:Bool):scalar (n+1) (.os β p k ap)=false:=rfl
theorem yboc{n:Nat}(o:Own)(β:Nm)(p k:Nat)(ap:Bool):view o (n+1) (.os β p k ap)=(match lookO o β with|some b=>.sl b.z k (fun q=>(b.g (p+q)).map (view o n))|none=>.bad):=rfl
theorem ybtn{n:Nat}(o:Own)(β:Nm)(p k:Nat)(ap:Bool):vok o (n+1) (.os β p k ap)=(match lookO o β with|some b=>p+k<=b.n/\∀q,q<k->allP (vok o n) (b.g (p+q))|none=>False):=rfl
theorem ybww{n:Nat}(ρ:Nm->Nm)(β:Nm)(p k:Nat)(ap:Bool):ren ρ (n+1) (.os β p k ap) = .os (ρ β) p k ap:=rfl
theorem ybvd{n:Nat}(D:Nm->Bool)(β:Nm)(p k:Nat)(ap:Bool):cln D (n+1) (.os β p k ap)=D β:=rfl
theorem yboz(β:Nm)(p k:Nat)(ap:Bool):one1 (.os β p k ap)=true:=rfl
end Sh
end
end Go.Proofs.YtiejahgklcjhkaaGreat
