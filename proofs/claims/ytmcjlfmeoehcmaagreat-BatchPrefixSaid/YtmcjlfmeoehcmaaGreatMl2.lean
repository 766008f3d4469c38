/-
  The library of the decompiler, as far as it is needed here. Conditions: none.
-/
import Derived.Lib.ConvBytes
import Derived.Laws.Externs
import Derived.RecoverIn
import Derived.Laws.Pointers
import Derived.Test.YtmcjlfmeoehcmaaGreatMl1
import Derived.Test.YtmcjlfmeoehcmaaGreatMl0
set_option linter.defProp false
set_option linter.unusedVariables false
set_option linter.unusedSimpArgs false
namespace Gv
open Go
open Option renaming some->w,none->T,none->Z,some->a5
open Bool renaming true->S,false->U
open List renaming length->V
open Nat renaming blt->Y,ble->ap
open Go.Instr renaming sliceBounds->am,typeAssert->an,sliceAt->aE,slice->a2,sliceBound->a3
open BitVec renaming ofNat->ao,toNat_add->a4
open Go.Deferred renaming ofValue->aS
open True renaming intro->a0
class b6 (P:cV) (s f:Nat) {b7 aY:outParam aB} [ab2:ah b7] [ab3:ah aY] (l:outParam (aG b7 aY)):Prop where
 fd:yC P s f l.off
class gN (P:cV) (t:bH) (e:outParam bH) (au:outParam aB) [ata:ah au]:Prop where
 hu:P.underlying t=w (.slice e)
 DX:bR P e au
class vq (P:cV) (t:bH) (au:aB) [ah au] [DecidableEq au] (k:outParam Nat):Prop where
 MJ:j8 P t au k
 ab4:P.eqGuardType P.depth t=U
 aQ:ap k 10000=S
class mD (P:cV) (t:bH) (d:outParam TypeDesc):Prop where
 hu:P.underlying t=w d
class atb (P:cV) (s f:Nat) (t:outParam Nat) {b7 aY:outParam aB} [ab2:ah b7] [ab3:ah aY] (l:outParam (aG b7 aY)):Prop where
 as8:DW P s f t l.off
class ew (P:cV) (f:FuncId) (au gS:outParam aB) (L:outParam (au->aw gS)) (dm:outParam (au->J)) (Ia:outParam (gS->J)):Prop where
 dj:bk P f
 m:∀x r,L x=w r->cf P f [dm x] (Ia r)
class dd (P:cV) (f:FuncId) (au b7 gS:outParam aB) (L:outParam (au->b7->aw gS)) (dm:outParam (au->J)) (bb:outParam (b7->J)) (Ia:outParam (gS->J)):Prop where
 dj:bk P f
 m:∀x y r,L x y=w r->cf P f [dm x,bb y] (Ia r)
class jg (P:cV) (f:FuncId) (au b7 aY gS:outParam aB) (L:outParam (au->b7->aY->aw gS)) (dm:outParam (au->J)) (bb:outParam (b7->J)) (asE:outParam (aY->J)) (Ia:outParam (gS->J)):Prop where
 dj:bk P f
 m:∀x y z r,L x y z=w r->cf P f [dm x,bb y,asE z] (Ia r)
theorem ew.i{P:cV}{f:FuncId}{d g:aB}{L:d->aw g}{i:d->J}{j:g->J}{a:Func}{k:ec}{b:Nat}(l:P.funcs[f]? =w a)(ax:a.body=w k)(aQ:a.ntmps=b)(o:ap 1 b=S)
 (h:∀ x c,L x=w c→ ∀ m n,ar ⟨P,b,m,[],n,T,[]⟩ (bodyPost P a (pN ⟨P,b,m,[],n,T,[]⟩ (j c))) k (params 0 [i x]) []) (hm:(a.name== "runtime.NumGoroutine")=U:=by kernel_rfl):ew P f d g L i j:=
 ⟨⟨a,l,by rw[ax];rfl,hm⟩,λx c e=>.of l ax aQ o (h x c e)⟩
theorem dd.i{P:cV}{f:FuncId}{d g i:aB}{L:d->g->aw i}{j:d->J}{k:g->J}{l:i->J}{a:Func}{m:ec}{b:Nat}(n:P.funcs[f]? =w a)(ax:a.body=w m)(aQ:a.ntmps=b)(q:ap 2 b=S)
 (h:∀ x y c,L x y=w c→ ∀ o p,ar ⟨P,b,o,[],p,T,[]⟩ (bodyPost P a (pN ⟨P,b,o,[],p,T,[]⟩ (l c))) m (params 0 [j x,k y]) []) (hm:(a.name== "runtime.NumGoroutine")=U:=by kernel_rfl):dd P f d g i L j k l:=
 ⟨⟨a,n,by rw[ax];rfl,hm⟩,λx y c e=>.of n ax aQ q (h x y c e)⟩
theorem jg.i{P:cV}{f:FuncId}{g i j k:aB}{L:g->i->j->aw k}{l:g->J}{m:i->J}{n:j->J}{o:k->J}{a:Func}{p:ec}{b:Nat}(q:P.funcs[f]? =w a)(ax:a.body=w p)(aQ:a.ntmps=b)(B:ap 3 b=S)
 (h:∀ x y c d,L x y c=w d→ ∀ r A,ar ⟨P,b,r,[],A,T,[]⟩ (bodyPost P a (pN ⟨P,b,r,[],A,T,[]⟩ (o d))) p (params 0 [l x,m y,n c]) []) (hm:(a.name== "runtime.NumGoroutine")=U:=by kernel_rfl):jg P f g i j k L l m n o:=
 ⟨⟨a,q,by rw[ax];rfl,hm⟩,λx y c d e=>.of q ax aQ B (h x y c d e)⟩
theorem ew.j{P:cV}{f:FuncId}{b c:aB}{L:b->aw c}{e:b->J}{g:c->J}{a:Func}{i:ec}{d:Nat}{aD:b->aw c}(m:P.funcs[f]? =w a:=by rfl)(ax:a.body=w i:=by rfl)(aQ:a.ntmps=d:=by conv=>lhs;whnf)(n:ap 1 d=S:=by rfl)(av:L=aD:=by conv=>lhs;whnf)
 (h:∀ x j,aD x=w j→ ∀ k l,ar ⟨P,d,k,[],l,T,[]⟩ (bodyPost P a (pN ⟨P,d,k,[],l,T,[]⟩ (g j))) i (params 0 [e x]) []) (hm:(a.name== "runtime.NumGoroutine")=U:=by kernel_rfl):ew P f b c L e g:= .i m ax aQ n (av ▸ h) hm
theorem dd.j{P:cV}{f:FuncId}{b c d:aB}{L:b->c->aw d}{g:b->J}{i:c->J}{j:d->J}{a:Func}{k:ec}{e:Nat}{aD:b->c->aw d}(o:P.funcs[f]? =w a:=by rfl)(ax:a.body=w k:=by rfl)(aQ:a.ntmps=e:=by conv=>lhs;whnf)(p:ap 2 e=S:=by rfl)(av:L=aD:=by conv=>lhs;whnf)
 (h:∀ x y l,aD x y=w l→ ∀ m n,ar ⟨P,e,m,[],n,T,[]⟩ (bodyPost P a (pN ⟨P,e,m,[],n,T,[]⟩ (j l))) k (params 0 [g x,i y]) []) (hm:(a.name== "runtime.NumGoroutine")=U:=by kernel_rfl):dd P f b c d L g i j:= .i o ax aQ p (av ▸ h) hm
theorem jg.j{P:cV}{f:FuncId}{b c d e:aB}{L:b->c->d->aw e}{i:b->J}{j:c->J}{k:d->J}{l:e->J}{a:Func}{m:ec}{g:Nat}{aD:b->c->d->aw e}(r:P.funcs[f]? =w a:=by rfl)(ax:a.body=w m:=by rfl)(aQ:a.ntmps=g:=by conv=>lhs;whnf)(A:ap 3 g=S:=by rfl)(av:L=aD:=by conv=>lhs;whnf)
 (h:∀ x y n o,aD x y n=w o→ ∀ p q,ar ⟨P,g,p,[],q,T,[]⟩ (bodyPost P a (pN ⟨P,g,p,[],q,T,[]⟩ (l o))) m (params 0 [i x,j y,k n]) []) (hm:(a.name== "runtime.NumGoroutine")=U:=by kernel_rfl):jg P f b c d e L i j k l:= .i r ax aQ A (av ▸ h) hm
section
variable(P:cV)(f:FuncId)(dF:R J){b1:aB}[eA b1](aC:aL b1)
abbrev iW(a:J)(b:aL b1):Prop:=bn P f dF ([]++bc aC) (aX:=bG) (λ_=>a) (λ_=>[]++bc b)
abbrev k4{a:aB}[ah a](Q:a×aL b1->Prop):Prop:=bn P f dF ([]++bc aC) (aX:= {r:a×aL b1 // Q r}×bG) (λd=>J.of d.1.1.1) (λd=>[]++bc d.1.1.2)
abbrev AQ(Q:aL b1->Prop):Prop:=bn P f dF ([]++bc aC) (aX:= {r:aL b1 // Q r}×bG) (λ_=>J.bO []) (λd=>[]++bc d.1.1)
abbrev k3(b:Nat){a:aB}[ah a](x:a)(c:J)(y:a):Prop:=bn P f dF [a7 b x] (aX:=bG) (λ_=>c) (λ_=>[a7 b y])
end
def R5{a:Prop}{b:bt}(d:a):∀e f c,(J.cond a (.eq b)).holds e f c->c=b:=λ_ _ _ g=>g.1 d
abbrev J.jC(c:Nat){a b:aB}[ah a][ah b](l:aG a b):J:=.eq (.pointer (w ⟨c,l.off,T⟩))
structure ot(p:Prop):Prop where
 k:p
def dC{a b:Prop}(c:a)(d:b):a∧b:=⟨c,d⟩
def hg:True:=trivial
inductive At:List aK->Nat->aK->Prop
 |z {e r}:At (e::r) 0 e
 |s {e f r j}:At r j e->At (f::r) (j+1) e
def At.get:∀{L j a},At L j a->L[j]? =w a
 |_,_,_,.z=>rfl
 |_,_,_,.s b=>by simpa using b.get
def At.it{L a e}(h:At L a e:=by repeat (first|exact At.z|apply At.s)):At L a e:=h
def At.g{L:R aK}{a:Nat}{e:aK}(h:At L a e:=by repeat (first|exact At.z|apply At.s)):L[a]? =w e:=h.get
inductive ua:List aK->aK->aK->List aK->Prop
 |z {e f r}:ua (e::r) e f (f::r)
 |s {e f g r s}:ua r e f s->ua (g::r) e f (g::s)
def ua.get:∀{L a f b},ua L a f b->∃j,L[j]? =w a∧L.set j f=b
 |_,_,_,_,.z=>⟨0,rfl,rfl⟩
 |_,_,_,_,.s c=>let⟨j,d,e⟩:=c.get; ⟨j+1,by simpa using d,by simp[e]⟩
inductive nQ{b1:Type}[eA b1]:List aK->aL b1->Prop
 |z {aC}:nQ (bc aC) aC
 |s {e r aC}:nQ r aC->nQ (e::r) aC
def nQ.get{b1:aB}[eA b1]{L:R aK}{aC:aL b1}(b:nQ L aC):∃c,L.drop c=bc aC:=by
 induction b with
 |z=>exact⟨0,rfl⟩
 |s _ a=>exact⟨a.choose+1,a.choose_spec⟩
class j9 (b7:aB) [ah b7] {b1:outParam aB} [eA b1] (rd:outParam (aL b1->Nat->aw b7)):Prop where
 ok:∀{aC p x},rd aC p=w x->∃k,pat aC p=w k∧eA.gD p k=[⟨w p,.var x⟩]
class SD (P:cV):Prop where
 m:P.follows .mixedOrders=S
section
variable{c:cX}{E:R (Nat×J)}{L aD:R aK}{ops:bE bA}{Q:cK->cg->bj->Prop}{rest:R bA}{ak:bA}{d:aw Tmp}{a8:Nat}
variable{ty:bH}{pos:String}{a1:bE Edge}{g:aw (Nat×aI)}{x y:cx}{t t2:bH}
def fact{a:Prop}(h:a:=by first|with_reducible assumption|(apply dT (ax:=ax);with_reducible assumption)):a:=h
def ahW(k:Nat)(h:Y k 18446744073709551616=S:=by rfl):aN c E L (.const (.int .u64 (Int.ofNat k))) (.of (ao 64 k)):=nW _ (by simp[Y]at h⊢;omega)
def fy{a:J}(h:aN c E L x a:=by first|exact ba o ax|exact ba o ax.1|exact ae o|exact cU _|exact gU _|exact fA _|exact ahW _|exact ba (aA _ _ o) ax|exact ba (aA _ _ o) ax.1|exact ae (aA _ _ o)):aN c E L x a:=h
def sX{a b:J}(h:aN c E L x a->aZ c E L ak b)(d:aN c E L x a:=by exact fy):aZ c E L ak b:=h d
def yM{a b d:J}(h:aN c E L x a->aN c E L y b->aZ c E L ak d)(e:aN c E L x a:=by exact fy)(f:aN c E L y b:=by exact fy):aZ c E L ak d:=h e f
def ao1{i:Nat}{dF:R J}{a:J}(b:aN c E L x (.bO dF):=by exact fy)(e:dF[i]? =w a:=by rfl):aZ c E L ⟨d,.extract x i,ty,pos,a1,g⟩ a:=yf b e
def aqT{f h:Nat}{a e:aB}[ah a][ah e]{b:a}{l:aG a e}[k:bR c.P t e](i:aN c E L x (.jC f l):=by exact fy)(av:L[h]? =w ⟨w f,.var b⟩:=by first|exact At.g|exact av _ _ At.g o):aZ c E L ⟨d,.load t x,ty,pos,a1,g⟩ (.of (l.get b)):=
 iq l k i av o o
def aqU{e f:Nat}{a:aB}[ah a]{b:a}[k:bR c.P t a](h:aN c E L x (.bq e):=by exact fy)(av:L[f]? =w ⟨w e,.var b⟩:=by first|exact At.g|exact av _ _ At.g o):aZ c E L ⟨d,.load t x,ty,pos,a1,g⟩ (.of b):=
 iq (aG.id a) k h av o o
def pm{b1 a:aB}[ah a][eA b1]{rd:aL b1->Nat->aw a}{aC:aL b1}{c:Nat}{b:a}[k:j9 a rd](aq:nQ L aC:=by repeat (first|exact nQ.z|apply nQ.s))(d:rd aC c=w b:=by exact fact):(⟨w c,.var b⟩:aK)∈L:=by
 obtain⟨h,e⟩:=aq.get;obtain⟨q,f,g⟩:=k.ok d;exact je e f g
class ab5 (b7:aB) [ah b7] {b1 SE:outParam aB} [eA b1] (rd:outParam (aL b1->Nat->aw SE)) (q:outParam (SE->b7)) (os:outParam (SE->R (Nat×bt))):Prop where
 ok:∀{aC p x},rd aC p=w x->∃k es,pat aC p=w k∧eA.gD p k=⟨w p,.bF (q x) (os x)⟩::es
def jD{b1 a b:aB}[ah b][eA b1]{rd:aL b1->Nat->aw a}{q:a->b}{c:a->R (Nat×bt)}{aC:aL b1}{d:Nat}{x:a}[k:ab5 b rd q c](aq:nQ L aC:=by repeat (first|exact nQ.z|apply nQ.s))(e:rd aC d=w x:=by exact fact):(⟨w d,.bF (q x) (c x)⟩:aK)∈L:=by
 obtain⟨i,f⟩:=aq.get;obtain⟨_,_,g,h⟩:=k.ok e;exact ao0 f g h
def ab6{a:aK}{np:Nat}(b:aD.drop np=L.drop np)(c:a∈L.drop np):a∈aD:=Td (b▸c)
def aqV{h:Nat}{f a:aB}[ah f][ah a]{b:f}{j:R (Nat×bt)}{l:aG f a}[k:bR c.P t a](m:aN c E L x (.jC h l):=by exact fy)(hm:(⟨w h,.bF b j⟩:aK)∈L:=by first|exact ab6 dQ jD|exact oZ (λi e q=>av i e q o) jD|exact jD)(n:tw j l.off (ah.size a)=S:=by rfl):aZ c E L ⟨d,.load t x,ty,pos,a1,g⟩ (.of (l.get b)):=
 ai1 l k m hm o o n
def Z5{f i:Nat}{e a:aB}[ah e][ah a]{b:e}{h:R (Nat×bt)}{l:aG e a}[k:bR c.P t a](j:aN c E L x (.jC f l):=by exact fy)(av:L[i]? =w ⟨w f,.bF b h⟩:=by first|exact At.g|exact av _ _ At.g o)(m:tw h l.off (ah.size a)=S:=by rfl):aZ c E L ⟨d,.load t x,ty,pos,a1,g⟩ (.of (l.get b)):=
 ho l k j av o o m
def aqW{h:Nat}{a f:aB}[ah a][ah f]{b:a}{l:aG a f}[k:bR c.P t f](j:aN c E L x (.jC h l):=by exact fy)(hm:(⟨w h,.var b⟩:aK)∈L:=by first|exact ab6 dQ pm|exact oZ (λi e q=>av i e q o) pm|exact pm):aZ c E L ⟨d,.load t x,ty,pos,a1,g⟩ (.of (l.get b)):=
 oN l k j hm o o
def aqX{a:Ref}{b:Nat}(e:aN c E L x (.of a):=by exact fy)(aF:a=w b:=by first|with_reducible rfl|exact fact):aZ c E L ⟨d,.nilCheck x,ty,pos,a1,g⟩ (.bq b):=fp (jI e aF)
def aqY{a:Ref}{e:bH}[k:mD c.P t (.pointer e)](b:aN c E L x (.of a):=by exact fy):aZ c E L ⟨d,.binOp .eql t x (.const (.pointer T)) t2,ty,pos,a1,g⟩ (.of a.isNone):=CI k.hu b
def aqZ{a:Ref}{e:bH}[k:mD c.P t (.pointer e)](b:aN c E L x (.of a):=by exact fy):aZ c E L ⟨d,.binOp .neq t x (.const (.pointer T)) t2,ty,pos,a1,g⟩ (.of a.isSome):=ahT k.hu b
def ao2{a:aB}[ah a]{b:a}[k:bR c.P t a](e:aN c E L x (.ptr b):=by exact fy):aZ c E L ⟨d,.load t x,ty,pos,a1,g⟩ (.of b):=hn k e
def aq0{e f:Nat}{a h:aB}[j:ah a][m:ah h]{b:a}{l:aG a h}[k:b6 c.P e f l](i:aN c E L x (.ptr b):=by exact fy):aZ c E L ⟨d,.fieldAddr e x f,ty,pos,a1,g⟩ (.ptr (l.get b)):=oV l k.fd i o o
def aq1{b f e:Nat}{h a i:aB}[ah h][n:ah a][o:ah i]{j:aG h a}{l:aG a i}[k:b6 c.P b f l](m:aN c E L x (.jC e j):=by exact fy):aZ c E L ⟨d,.fieldAddr b x f,ty,pos,a1,g⟩ (.jC e (j.comp l)):=bM k.fd m
def aq2{a f b:Nat}{e h:aB}[j:ah e][m:ah h]{l:aG e h}[k:b6 c.P a f l](i:aN c E L x (.bq b):=by exact fy):aZ c E L ⟨d,.fieldAddr a x f,ty,pos,a1,g⟩ (.jC b l):=by
 have:=bM (d:=d) (ty:=ty) (pos:=pos) (a1:=a1) (g:=g) k.fd i;rwa[kx]at this
def aq3{a:aB}[m:ah a][Inhabited a]{b:R a}{e:bH}{i:Int}{f:Nat}[k:gN c.P t e a](h:aN c E L x (.of b):=by exact fy)(j:aN c E L y (.of i):=by exact fy)(l:idx (V b) i=w f:=by exact fact):
 aZ c E L ⟨d,.indexAddr t x y,ty,pos,a1,g⟩ (.ptr (al b f)):=jy k.hu k.DX h j (cz l)
def ao3{a:aB}[h:ah a]{b:R a}{e:bH}[k:gN c.P t e a](f:aN c E L x (.of b):=by exact fy):aZ c E L ⟨d,.call ⟨.builtin .len,#[x],#[t]⟩,ty,pos,a1,g⟩ (.of (V b:Int)):=mT k.hu f
def alU{a:cC}[k:mD c.P t .string](b:aN c E L x (.of a):=by exact fy):aZ c E L ⟨d,.call ⟨.builtin .len,#[x],#[t]⟩,ty,pos,a1,g⟩ (.of (a.size:Int)):=C0 k.hu b
def aq4{b e:aI}{a:Prop}(f:aN c E L x (.of b):=by exact fy)(i:aN c E L y (.cond a (.of e)):=by first|exact ae o|exact ae (aA _ _ o))(aC:b=U->a:=by exact λh=>h):aZ c E L ⟨d,.pick x (.const (.bool S)) y,ty,pos,a1,g⟩ (.of (b||e)):=oY f i aC
def ao4{b e:aI}{a:Prop}(f:aN c E L x (.of b):=by exact fy)(i:aN c E L y (.cond a (.of e)):=by first|exact ae o|exact ae (aA _ _ o))(aC:b=S->a:=by exact λh=>h):aZ c E L ⟨d,.pick x y (.const (.bool U)),ty,pos,a1,g⟩ (.of (b&&e)):=mR f i aC
def ao5{a:aB}[ah a][DecidableEq a]{f:Nat}{e b:a}[k:vq c.P t a f](h:aN c E L x (.of e):=by exact fy)(i:aN c E L y (.of b):=by exact fy)(j:ah.agg a=S:=by rfl):
 aZ c E L ⟨d,.binOp .eql t x y t2,ty,pos,a1,g⟩ (.of (Decidable.decide (e=b))):=Q9 k.MJ k.aQ k.ab4 j h i
def ao6{a:aB}[ah a][DecidableEq a]{f:Nat}{e b:a}[k:vq c.P t a f](h:aN c E L x (.of e):=by exact fy)(i:aN c E L y (.of b):=by exact fy)(j:ah.agg a=S:=by rfl):
 aZ c E L ⟨d,.binOp .neq t x y t2,ty,pos,a1,g⟩ (.of (!Decidable.decide (e=b))):=aoW k.MJ k.aQ k.ab4 j h i
inductive x9(c:cX)(E:List (Nat×J))(L:List aK)(t:TypeId)(place:Nat->Option (Nat×Nat)){b7:Type}[ab2:ah b7]:b7->List (Nat×Operand)->b7->Prop
 |nil {b}:x9 c E L t place b [] b
 |cons {b et:b7} {aY:Type} [ab3:ah aY] {v:aY} {i:Nat} {x:Operand} {r:List (Nat×Operand)} {l:aG b7 aY} [k:b6 c.P t i l]:place i=w (l.off,ah.size aY)->aN c E L x (.of v)->x9 c E L t place (l.set b v) r et->x9 c E L t place b ((i,x)::r) et
def x9.f{a:Nat->aw (Nat×Nat)}{b:aB}[k:ah b]{d e:b}{f:R (Nat×cx)}(g:x9 c E L t a d f e):tC c E L a d f e:=by
 induction g with
 |nil=>exact .nil
 |cons h i _ j=>exact .cons _ h i o j
def aq5{a:aB}[k:ah a]{e b:a}{f:R (Nat×cx)}{h:bE (Nat×Nat)}[bB:fi c.P t h][di:dn c.P t e](i:x9 c E L t (h[·]?) e f b:=by repeat (first|exact x9.nil|(apply x9.cons;rfl;first|exact fy|exact look_nil)))(j:ah.agg a=S:=by rfl):
 aZ c E L ⟨d,.build t f.toArray,ty,pos,a1,g⟩ (.of b):=iI j bB di i.f
inductive yx{au:Type}:List au->Nat->au->List au->Prop
 |z {x v r}:yx (x::r) 0 v (v::r)
 |s {x v r s i}:yx r i v s->yx (x::r) (i+1) v (x::s)
def yx.ok{au:aB}{a c:R au}{i:Nat}{b:au}(d:yx a i b c):i<V a∧a.set i b=c:=by
 induction d with
 |z=>simp
 |s _ e=>exact⟨by simp only[List.length_cons];omega,by simp[e.2]⟩
inductive yb(c:cX)(E:List (Nat×J))(L:List aK){au:Type}[ah au]:List au->List (Nat×Operand)->List au->Prop
 |nil {b}:yb c E L b [] b
 |cons {b pY et:List au} {v:au} {i:Nat} {x:Operand} {r:List (Nat×Operand)}:aN c E L x (.of v)->yx b i v pY->yb c E L pY r et->yb c E L b ((i,x)::r) et
def yb.f{a:aB}[ah a]{b d:R a}{e:R (Nat×cx)}(f:yb c E L b e d):pF c E L b e d:=by
 induction f with
 |nil=>exact .nil
 |cons g h _ i=>obtain⟨j,rfl⟩:=h.ok;exact .cons j g i
inductive yy{au:Type}(z:au):Nat->List au->Prop
 |z:yy z 0 []
 |s {n l}:yy z n l->yy z (n+1) (z::l)
def yy.ok{au:aB}{z:au}{a:Nat}{l:R au}(b:yy z a l):List.replicate a z=l:=by
 induction b with
 |z=>rfl
 |s _ c=>rw[List.replicate_succ,c]
def aq6{a:aB}[n:ah a]{e b:Nat}{f:a}{h:R (Nat×cx)}{l i:R a}[bB:gN c.P t e a][di:dn c.P e f](j:yy f b l:=by repeat (first|exact yy.z|apply yy.s))
 (k:yb c E L l h i:=by repeat (first|exact yb.nil|(apply yb.cons; (first|exact fy|exact look_nil); (repeat (first|exact yx.z|apply yx.s))))) (aR:Nat.beq (ah.size a) 0=U:=by rfl) (m:ap (b*ah.size a) 16777216=S:=by rfl):
 aZ c E L ⟨d,.buildSlice t b h.toArray,ty,pos,a1,g⟩ (.of i):=tx bB.hu bB.DX di aR m (j.ok▸k.f)
def aq7{f:FuncId}{n:bE bH}{a b:aB}{e:a->aw b}{i:a->J}{j:b->J}[k:ew c.P f a b e i j]{l:a}{m:b}(o:aN c E L x (i l):=by exact fy)(h:e l=w m:=by exact fact):
 aZ c E L ⟨d,.call ⟨.value (.func f),[x].toArray,n⟩,ty,pos,a1,g⟩ (j m):=fP k.dj (k.m _ _ h) ⟨o,a0⟩
def aq8{f:FuncId}{q:bE bH}{a e i:aB}{j:a->e->aw i}{l:a->J}{m:e->J}{n:i->J}[k:dd c.P f a e i j l m n]{o:a}{b:e}{p:i}(r:aN c E L x (l o):=by exact fy)(A:aN c E L y (m b):=by exact fy)(h:j o b=w p:=by exact fact):
 aZ c E L ⟨d,.call ⟨.value (.func f),[x,y].toArray,q⟩,ty,pos,a1,g⟩ (n p):=fP k.dj (k.m _ _ _ h) ⟨r,A,a0⟩
def aq9{f:FuncId}{C:bE bH}{a i j l:aB}{m:a->i->j->aw l}{n:a->J}{o:i->J}{p:j->J}{q:l->J}{r:cx}[k:jg c.P f a i j l m n o p q]{A:a}{b:i}{e:j}{B:l}(D:aN c E L x (n A):=by exact fy)(F:aN c E L y (o b):=by exact fy)(G:aN c E L r (p e):=by exact fy)(h:m A b e=w B:=by exact fact):
 aZ c E L ⟨d,.call ⟨.value (.func f),[x,y,r].toArray,C⟩,ty,pos,a1,g⟩ (q B):=fP k.dj (k.m _ _ _ _ h) ⟨D,F,G,a0⟩
def DD{a dst:bH}{e b:TypeDesc}{f i:J}[bB:mD c.P a e][di:mD c.P dst b](h:c.P.underlying a=w e->c.P.underlying dst=w b->aN c E L x f->aZ c E L ⟨d,.convert a dst x,ty,pos,a1,g⟩ i)(j:aN c E L x f:=by exact fy):
 aZ c E L ⟨d,.convert a dst x,ty,pos,a1,g⟩ i:=h bB.hu di.hu j
def aa0{a:TypeDesc}{b d e:J}[bB:mD c.P t a](h:c.P.underlying t=w a->aN c E L x b->aN c E L y d->aZ c E L ak e)(f:aN c E L x b:=by exact fy)(g:aN c E L y d:=by exact fy):aZ c E L ak e:=h bB.hu f g
def ao7{a b e:Int}(f:aN c E L x (.of a):=by exact fy)(h:aN c E L y (.of b):=by exact fy)(i:Hs a b=w e:=by exact fact):aZ c E L ⟨d,.binOp .quo t x y t2,ty,pos,a1,g⟩ (.of e):=aoS f h (ahO i)
def ao8{a b e:Int}(f:aN c E L x (.of a):=by exact fy)(h:aN c E L y (.of b):=by exact fy)(i:rB a b=w e:=by exact fact):aZ c E L ⟨d,.binOp .rem t x y t2,ty,pos,a1,g⟩ (.of e):=Y1 f h (VF i)
def ao9{e b f k:Nat}{i:Int}{h a:aB}[ah h][ah a][Inhabited a]{l:aG h (ck a b)}[m:nO c.P t b f](n:aN c E L x (.jC e l):=by exact fy)(aR:ah.size a=f:=by rfl)(o:aN c E L y (.of i):=by exact fy)(j:idx b i=w k:=by exact fact):
 aZ c E L ⟨d,.indexAddr t x y,ty,pos,a1,g⟩ (.jC e (l.comp (aG.idx (au:=a) b k (cz j).1))):=by subst aR;exact hp m n o (cz j)
def AV(L:R aK){a:aB}[ah a](b:Nat)(c:a):Prop:=True
def AV.m{a:aB}[ah a]{b d:Nat}{c:a}(e:L[d]? =w ⟨w b,.var c⟩):AV L b c:=trivial
def apa{f e h k:Nat}{i:Int}{a:aB}[ah a][Inhabited a]{b:ck a e}[l:nO c.P t e h](m:aN c E L x (.bq f):=by exact fy)(av:AV L f b:=by first|exact AV.m At.g|exact AV.m (av _ _ At.g o)|exact abV _ _ At.g)(aR:ah.size a=h:=by rfl)(n:aN c E L y (.of i):=by exact fy)(j:idx e i=w k:=by exact fact):
 aZ c E L ⟨d,.indexAddr t x y,ty,pos,a1,g⟩ (.jC f (aG.idx (au:=a) e k (cz j).1)):=by
 subst aR
 have:=hp (d:=d) (ty:=ty) (pos:=pos) (a1:=a1) (g:=g) l m n (cz j)
 rwa[kx]at this
class lR (op:BinOp) (au:aB) {b7:outParam aB} [ah au] [ah b7] (f:outParam (au->au->b7)):Prop where
 h:∀{c:cX} {E L d ty pos a1 g x y t t2} {a b:au},aN c E L x (.of a)->aN c E L y (.of b)->aZ c E L ⟨d,.binOp op t x y t2,ty,pos,a1,g⟩ (.of (f a b))
instance:lR .add Int (λa b=>aV (a+b)):=⟨hc⟩
instance:lR .sub Int (λa b=>aV (a-b)):=⟨sw⟩
instance:lR .mul Int (λa b=>aV (a*b)):=⟨aoQ⟩
instance:lR .lss Int (λa b=>decide (a<b)):=⟨kj⟩
instance:lR .leq Int (λa b=>decide (a<=b)):=⟨aoT⟩
instance:lR .gtr Int (λa b=>decide (a>b)):=⟨oU⟩
instance:lR .geq Int (λa b=>decide (a>=b)):=⟨G8⟩
instance:lR .eql Int (λa b=>a==b):=⟨ir⟩
instance:lR .neq Int (λa b=>a !=b):=⟨Av⟩
instance:lR .and (cE 64) (λa b=>a&&&b):=⟨Xw⟩
instance:lR .or (cE 64) (λa b=>a|||b):=⟨Qq⟩
instance:lR .xor (cE 64) (λa b=>a ^^^ b):=⟨aku⟩
instance:lR .add (cE 64) (λa b=>a+b):=⟨PO⟩
instance:lR .sub (cE 64) (λa b=>a-b):=⟨aks⟩
instance:lR .shl (cE 64) (λa b=>a <<< b.toNat):=⟨PN⟩
instance:lR .shr (cE 64) (λa b=>a >>> b.toNat):=⟨Xy⟩
instance:lR .eql (cE 64) (λa b=>a==b):=⟨Xz⟩
instance:lR .neq (cE 64) (λa b=>a !=b):=⟨Xt⟩
instance:lR .lss (cE 64) (λa b=>decide (a<b)):=⟨akx⟩
instance:lR .geq (cE 64) (λa b=>decide (a>=b)):=⟨aky⟩
def apb{e:BinOp}{a h:aB}[ah a][ah h]{f:a->a->h}{i b:a}[k:lR e a f](j:aN c E L x (.of i):=by exact fy)(l:aN c E L y (.of b):=by exact fy):aZ c E L ⟨d,.binOp e t x y t2,ty,pos,a1,g⟩ (.of (f i b)):=k.h j l
def Z6{a:BinOp}{b:J}(e:aZ c E L ⟨d,.binOp a t x y t2,ty,pos,a1,g⟩ b):aZ c E L ⟨d,.binOp a t x y t2,ty,pos,a1,g⟩ b:=e
def aa1{a:J}(b:aZ c E L ⟨d,.load t x,ty,pos,a1,g⟩ a):aZ c E L ⟨d,.load t x,ty,pos,a1,g⟩ a:=b
def ara{a f:Nat}{b:J}(e:aZ c E L ⟨d,.fieldAddr a x f,ty,pos,a1,g⟩ b):aZ c E L ⟨d,.fieldAddr a x f,ty,pos,a1,g⟩ b:=e
def aa2{a:Call}{b:J}(e:aZ c E L ⟨d,.call a,ty,pos,a1,g⟩ b):aZ c E L ⟨d,.call a,ty,pos,a1,g⟩ b:=e
def arb{a:UnOp}{b:J}(e:aZ c E L ⟨d,.unOp a t x,ty,pos,a1,g⟩ b):aZ c E L ⟨d,.unOp a t x,ty,pos,a1,g⟩ b:=e
def arc{a:J}(b:aZ c E L ⟨d,.indexAddr t x y,ty,pos,a1,g⟩ a):aZ c E L ⟨d,.indexAddr t x y,ty,pos,a1,g⟩ a:=b
def ard{a dst:bH}{b:J}(e:aZ c E L ⟨d,.convert a dst x,ty,pos,a1,g⟩ b):aZ c E L ⟨d,.convert a dst x,ty,pos,a1,g⟩ b:=e
def aa3{a:J}(b:aZ c E L ⟨d,.nilCheck x,ty,pos,a1,g⟩ a):aZ c E L ⟨d,.nilCheck x,ty,pos,a1,g⟩ a:=b
def are{a:J}(b:aZ c E L ⟨d,.move x,ty,pos,a1,g⟩ a):aZ c E L ⟨d,.move x,ty,pos,a1,g⟩ a:=b
def arf{a:J}(b:aZ c E L ⟨d,.assign x,ty,pos,a1,g⟩ a):aZ c E L ⟨d,.assign x,ty,pos,a1,g⟩ a:=b
def arh{i:Nat}{a:J}(b:aZ c E L ⟨d,.extract x i,ty,pos,a1,g⟩ a):aZ c E L ⟨d,.extract x i,ty,pos,a1,g⟩ a:=b
def ari{a b:cx}{e:J}(f:aZ c E L ⟨d,.pick a x b,ty,pos,a1,g⟩ e):aZ c E L ⟨d,.pick a x b,ty,pos,a1,g⟩ e:=f
def arj{a:bE (Nat×cx)}{b:J}(e:aZ c E L ⟨d,.build t a,ty,pos,a1,g⟩ b):aZ c E L ⟨d,.build t a,ty,pos,a1,g⟩ b:=e
def ark{a:Nat}{b:bE (Nat×cx)}{e:J}(f:aZ c E L ⟨d,.buildSlice t a b,ty,pos,a1,g⟩ e):aZ c E L ⟨d,.buildSlice t a b,ty,pos,a1,g⟩ e:=f
def aF{a:J} (h:aZ c E L ak a:=by first
 |(apply are;exact cN fy)
 |(apply arf;exact cc fy)
 |(apply aa1;first|exact aqT|exact aqU|exact ao2)
 |(apply ara;first|exact aq0|exact aq1|exact aq2)
 |(apply Z6;first|exact apb|exact aqY|exact aqZ|exact ao5|exact ao6|exact aa0 Ra|exact aa0 Zl)
 |(apply aa2;first|exact ao3|exact alU|exact yM Zh|exact yM LO|exact yM aiU)
 |(apply arh;exact ao1)
 |(apply ari;first|exact aq4|exact ao4)
 |(apply arb;first|exact sX lr|exact sX aoR)
 |(apply arj;exact aq5)
 |(apply ark;exact aq6)
 |(apply ard;first|exact DD CV|exact DD alE|exact DD aoU|exact DD asL|exact DD asM|exact DD asJ)
 |(apply aa3;first|exact asR|exact sX fp|exact sX alJ)):aZ c E L ak a:=h
def od{a:J} (h:aZ c E L ak a:=by first
 |(apply arc;first|exact aq3|exact ao9|exact apa|exact asN)
 |(apply aa2;first|exact aq7|exact aq8|exact aq9|exact asS)
 |(apply aa3;exact aqX)|(apply aa1;first|exact aqW|exact aqV)
 |(apply Z6;first|exact ao8|exact ao7|exact asO|exact asP)):aZ c E L ak a:=h
class HT (op:BinOp):Prop where
 h:True
instance:HT .quo:=⟨a0⟩
instance:HT .rem:=⟨a0⟩
instance:HT .shl:=⟨a0⟩
instance:HT .shr:=⟨a0⟩
def aa4(a:aa c ops Q (⟨d,.nilCheck x,ty,pos,a1,g⟩::rest) E L):aa c ops Q (⟨d,.nilCheck x,ty,pos,a1,g⟩::rest) E L:=a
def aa5(a:aa c ops Q (⟨d,.load t x,ty,pos,a1,g⟩::rest) E L):aa c ops Q (⟨d,.load t x,ty,pos,a1,g⟩::rest) E L:=a
def arl(a:aa c ops Q (⟨d,.indexAddr t x y,ty,pos,a1,g⟩::rest) E L):aa c ops Q (⟨d,.indexAddr t x y,ty,pos,a1,g⟩::rest) E L:=a
def arn{f:FuncId}{a:bE cx}{b:bE bH}(e:aa c ops Q (⟨d,.call ⟨.value (.func f),a,b⟩,ty,pos,a1,g⟩::rest) E L):aa c ops Q (⟨d,.call ⟨.value (.func f),a,b⟩,ty,pos,a1,g⟩::rest) E L:=e
def apc{a:BinOp}[e:HT a](b:aa c ops Q (⟨d,.binOp a t x y t2,ty,pos,a1,g⟩::rest) E L):aa c ops Q (⟨d,.binOp a t x y t2,ty,pos,a1,g⟩::rest) E L:=b
inductive Nm:J->J->Prop
 |i {dm}:Nm dm dm
 |n {au:Type} [ah au] {a b:au}:w a=w b->Nm (.of a) (.of b)
def Nm.aF{a b:J}(e:Nm a b)(d:aZ c E L ak a):aZ c E L ak b:=by
 cases e with
 |i=>exact d
 |n f=>cases f;exact d
def aro{e:J}{f g:Nat}{a:Prop}{b d:aI}(k:aa c ops Q rest ((a8,.cond (a∧b=d) e)::E) L)(i:ak.guard=w (f,d):=by rfl)(j:(ops[f]?).bind (·.dst)=w g:=by rfl)(l:look E g=w (.cond a (.of b)):=by rfl)
 (h:a∧b=d->aZ c E L ak e:=by intro ax;exact aF) (aq:ak.dst=w a8:=by rfl) (aQ:Y a8 c.n=S:=by rfl):aa c ops Q (ak::rest) E L:=.jr h i j l aq aQ k
def arp{a:Func}{b:bG->R aK}(aR:(b ()).Sublist L:=by repeat (first|exact zb _|exact r0 _|apply List.Sublist.cons_cons|apply List.Sublist.cons))(aF:a.results= #[]:=by rfl)(d:c.ds=[]:=by rfl):
 af c (bodyPost c.P a (j4 c.X c.cv c.pV (λ_:bG=>.bO []) b)) .ret E L:=.mq () aR aF o d
def arq{a:Func}{b:ResultVar}{d:J}{e:bG->J}{f:bG->R aK}(aR:(f ()).Sublist L:=by repeat (first|exact zb _|exact r0 _|apply List.Sublist.cons_cons|apply List.Sublist.cons))(aF:a.results= #[b]:=by rfl)(h:qG c E L b d:=by exact Si)(g:e ()=d:=by rfl)(i:c.ds=[]:=by rfl):
 af c (bodyPost c.P a (j4 c.X c.cv c.pV e f)) .ret E L:=.fa () aR aF g h i
def ars{a:Func}{b d:ResultVar}{e f:J}{g:bG->J}{i:bG->R aK}(aR:(i ()).Sublist L:=by repeat (first|exact zb _|exact r0 _|apply List.Sublist.cons_cons|apply List.Sublist.cons))(aF:a.results= #[b,d]:=by rfl)(h:qG c E L b e:=by exact Si)(j:qG c E L d f:=by exact Si)(k:g ()=.bO [e,f]:=by rfl)(l:c.ds=[]:=by rfl):
 af c (bodyPost c.P a (j4 c.X c.cv c.pV g i)) .ret E L:=.mo () aR aF k h j l
def asa{a:aB}{b:aI}{c d:aw a}{e:a}(f:cond b c d=w e):True:=trivial
def asb{a:aB}{b:aI}{c d:ag a}{e:a->Prop}(f:cond b c d e):True:=trivial
def art(a:aa c ops Q (⟨w a8,.alloc t,ty,pos,a1,T⟩::rest) E L):aa c ops Q (⟨w a8,.alloc t,ty,pos,a1,T⟩::rest) E L:=a
def aru(a:aa c ops Q (⟨w a8,.box t x,ty,pos,a1,T⟩::rest) E L):aa c ops Q (⟨w a8,.box t x,ty,pos,a1,T⟩::rest) E L:=a
def arv(a:aa c ops Q (⟨T,.store t x y,ty,pos,a1,T⟩::rest) E L):aa c ops Q (⟨T,.store t x y,ty,pos,a1,T⟩::rest) E L:=a
def arw{a:cx}{b d:ec}(e:ar c Q (.cond a b d) E L):ar c Q (.cond a b d) E L:=e
def HU{a:J}(k:aa c ops Q rest ((a8,a)::E) L)(b:ak.guard=T:=by rfl)(aq:ak.dst=w a8:=by rfl)(h:aZ c E L ak a:=by exact aF)(aQ:Y a8 c.n=S:=by rfl):aa c ops Q (ak::rest) E L:=.v h b aq aQ k
def HV{d:J}{e g:Nat}{b a:aI}(k:aa c ops Q rest ((a8,.cond (b=a) d)::E) L)(f:ak.guard=w (e,a):=by rfl)(i:(ops[e]?).bind (·.dst)=w g:=by rfl)(j:look E g=w (.of b):=by rfl)
 (h:b=a->aZ c E L ak d:=by intro ax;exact aF) (aq:ak.dst=w a8:=by rfl) (aQ:Y a8 c.n=S:=by rfl):aa c ops Q (ak::rest) E L:=.g h f i j aq aQ k
def arx{a:aB}[f:ah a]{b:a}[e:dn c.P t b](k:∀d,aa c ops Q rest ((a8,.bq d)::E) (⟨w d,.var b⟩::L))(aQ:Y a8 c.n=S:=by rfl):aa c ops Q (⟨w a8,.alloc t,ty,pos,a1,T⟩::rest) E L:=.alloc e aQ k
def ary{a:aB}[ah a]{b:a}(k:∀d,aa c ops Q rest ((a8,.bq d)::E) (⟨w d,.var b⟩::L))(e:aN c E L x (.of b):=by exact fy)(aQ:Y a8 c.n=S:=by rfl):aa c ops Q (⟨w a8,.box t x,ty,pos,a1,T⟩::rest) E L:=.box e aQ k
def arz{d:Nat}{e a:aB}[ah e][ah a]{b:e}{f:a}{l:aG e a}[g:bR c.P t a](k:aa c ops Q rest E aD)(h:aN c E L x (.jC d l):=by exact fy)(i:aN c E L y (.of f):=by first|exact fy|exact look_nil)
 (av:ua L ⟨w d,.var b⟩ ⟨w d,.var (l.set b f)⟩ aD:=by repeat (first|exact ua.z|apply ua.s)):aa c ops Q (⟨T,.store t x y,ty,pos,a1,T⟩::rest) E L:=by
 obtain⟨m,j,rfl⟩:=av.get
 exact .store l g h i j o o k
def arA{d:Nat}{a:aB}[ah a]{b e:a}[f:bR c.P t a](k:aa c ops Q rest E aD)(g:aN c E L x (.bq d):=by exact fy)(h:aN c E L y (.of e):=by first|exact fy|exact look_nil)
 (av:ua L ⟨w d,.var b⟩ ⟨w d,.var e⟩ aD:=by repeat (first|exact ua.z|apply ua.s)):aa c ops Q (⟨T,.store t x y,ty,pos,a1,T⟩::rest) E L:=by
 obtain⟨j,i,rfl⟩:=av.get
 exact .store (aG.id a) f g h i o o k
def arB{b c:aB}{a:b}{f:b->aw c}{d:c}{e:Prop}(g:(w a).bind f=w d)(h:∀y,w a=w y->f y=w d->e):e:=h a o g
def aa6{a:aB}[ah a]{b d:a}{f:a->Prop}(k:∀y,w b=w y->f y->aa c ops Q rest ((a8,.of y)::E) L)(i:ak.guard=T:=by rfl)(aq:ak.dst=w a8:=by rfl)(h:aZ c E L ak (.of d):=by exact aF)(e:d=b:=by with_reducible rfl)(aQ:Y a8 c.n=S:=by rfl):
 ∀y,w b=w y->f y->aa c ops Q (ak::rest) E L:=λy g j=>by subst e;exact .v ((Nm.n g).aF h) i aq aQ (k y g j)
def arC{a b:aB}{c:a}{f:a->ag b}{d:b->Prop}{e:Prop}(g:ag.bind (ag.of (w c)) f d)(h:∀y,w c=w y->f y d->e):e:=by obtain⟨y,i,j⟩:=g;exact h y i j
def abD{a b:aB}{d:aw a}{f:a->aw b}{e:b}(g:d.bind f=w e)(h:∀y,d=w y->f y=w e->aa c ops Q (ak::rest) E L):aa c ops Q (ak::rest) E L:=aj g h
def aa7{a b:aB}{d:aw a}{f:a->ag b}{e:b->Prop}(g:ag.bind (ag.of d) f e)(h:∀y,d=w y->f y e->aa c ops Q (ak::rest) E L):aa c ops Q (ak::rest) E L:=ag.bV g h
def asc{b e d:Nat}{a:aB}[ah a]{x:a}[k:bR c.P ty a](h:look E b=w (.bq d):=by rfl)(av:L[e]? =w ⟨w d,.var x⟩:=by first|exact At.g|exact av _ _ At.g o):pX c E L (.cell b ty) (.of x):=aaX k h av
def SF{a:ResultVar}{b:J}(h:pX c E L a b:=by first|exact hd o|exact asc):pX c E L a b:=h
def arD{b e d:Nat}{a:aB}[ah a]{x:a}[k:bR c.P ty a](h:look E b=w (.bq d):=by rfl)(av:L[e]? =w ⟨w d,.var x⟩:=by first|exact At.g|exact av _ _ At.g o):qG c E L (.cell b ty) (.of x):=mU k h av
def Si{a:ResultVar}{b:J}(h:qG c E L a b:=by first|exact dO o|exact arD):qG c E L a b:=h
def asd{a:Func}{b:ResultVar}{d:J}(aF:a.results= #[b]:=by rfl)(h:pX c E L b d:=by exact SF)(e:c.ds=[]:=by rfl):af c (bodyPost c.P a (pN c d)) .ret E L:=.Ds aF h e
def ase{a:Func}{b d:ResultVar}{e f:J}(aF:a.results= #[b,d]:=by rfl)(h:pX c E L b e:=by exact SF)(g:pX c E L d f:=by exact SF)(i:c.ds=[]:=by rfl):af c (bodyPost c.P a (pN c (.bO [e,f]))) .ret E L:=.RG aF h g i
end
inductive yN(c:cX)(ops:Array Oper)(E:List (Nat×J))(L:List aK)(aR:List ee):List Oper->List (Option Nat)->List (List Nat)->List J->Prop
 |nil {os}:yN c ops E L aR os [] [] []
 |cons {ak os s abW d ds dm cI}:(∀aD:List aK,(∀(j:Nat) (e:aK),L[j]? =w e->uY (λ_=>U) j 0 []=S->aD[j]? =w e)->h0 c ops (j0 (λ_ _=>T) aR E d) aD ak dm)->yN c ops E L aR os abW ds cI->yN c ops E L aR (ak::os) (s::abW) (d::ds) (dm::cI)
def yN.h{c:cX}{ops:bE bA}{E:R (Nat×J)}{L:R aK}{aR:R ee}{a b ds d}(e:yN c ops E L aR a b ds d):x8 c ops E L aR a b ds d:=by
 induction e with
 |nil=>simp[x8]
 |cons f _ g=>exact⟨f,g⟩
def AW(l:R bA):R (R Nat):=l.map λak=>ak.after.toList.filterMap λa=>match a.ground with | .data=>w a.on| .guard=>w a.on|_=>T
section
variable{c:cX}{E:R (Nat×J)}{L:R aK}{ops:bE bA}{Q:cK->cg->bj->Prop}{ak:bA}
def MA{a b:J}(d:ak.guard=T:=by rfl)(h:aZ c E L ak a:=by first|exact aF|exact od|exact Z5)(e:Nm a b:=by first|exact Nm.n (by with_reducible assumption)|exact Nm.i):h0 c ops E L ak b:=h0.v (e.aF h) d
def Sj{d:J}{e g:Nat}{b a:aI}(f:ak.guard=w (e,a):=by rfl)(i:(ops[e]?).bind (·.dst)=w g:=by rfl)(j:look E g=w (.of b):=by rfl)(h:b=a->aZ c E L ak d:=by intro ax;first|exact aF|exact od|exact Z5):
 h0 c ops E L ak (.cond (b=a) d):=h0.g h f i j
def ar.ef{AU b:Nat}{l:R bA}{es:R Nat}{d:R J}[k:SD c.P](a:Nat)(e:aa c l.toArray Q (l.drop a) (DA E (rg b a) (AW (l.take a)) d) L)(j:(l[0]?).bind (·.dst)=a5 b:=by rfl)
 (f:yN c l.toArray E L (sO (rg b a) (AW (l.take a)) d) l (rg b a) (AW (l.take a)) d:=by repeat (first|apply yN.nil|(apply yN.cons; (intro aD av;first|exact MA|exact Sj))))
 (g:lB (sO (rg b a) (AW (l.take a)) d)=Dz (rg b a) (AW (l.take a)):=by rfl) (h:E.map (·.1)=es:=by rfl) (i:Gv.rv l.toArray a (Dz (rg b a) (AW (l.take a))) es=S:=by kernel_rfl) (aR:DH (l.take a) (rg b a) c.n=S:=by rfl):ar c Q (.region AU l.toArray S) E L:=
 .gX k.m a (rg b a) (AW (l.take a)) d f.h e g h i aR
end
def WN{up:R Nat}{i:Nat}{aq:Nat->Hid}{x:Hid}:hE up i (lA aq i x) i=x:=by
 unfold hE lA;simp
def mY(c:Nat)(up:R Nat)(a i:Nat){b:aB}[ah b](d:b):ee:=⟨w c,up,[a],[a],λaq=>J.bq ((aq i 0).getD 0),λaq _=>a7 ((aq i 0).getD 0) d⟩
def af.dY{c:cX}{Q:cK->cg->bj->Prop}{E:R (Nat×J)}{L a:R aK}{b:cK}(k:af c Q b E a)(h:j1 L a:=by repeat (first|exact j1.gD|exact j1.nil|(apply j1.cons; (first|(dsimp only[fL,mY,az,hE,lA,a7,List.any,Nat.beq,or,cond,N0,Bool.or_true,Oj,vF];exact rfl)|exact rfl))|exact j1.A2)):af c Q b E L:=.qE h.eq k
def aa.dY{c:cX}{ops:bE bA}{Q:cK->cg->bj->Prop}{E:R (Nat×J)}{L a:R aK}{l:R bA}(k:aa c ops Q l E a)(h:j1 L a:=by repeat (first|exact j1.gD|exact j1.nil|(apply j1.cons; (first|(dsimp only[fL,mY,az,hE,lA,a7,List.any,Nat.beq,or,cond,N0,Bool.or_true,Oj,vF];exact rfl)|exact rfl))|exact j1.A2)):aa c ops Q l E L:=.qE h.eq k
inductive HW(c:cX)(E:List (Nat×J))(L:List aK)(t:TypeId)(x y:Operand)(j:Nat)(e:aK):Prop
 |mk {p:Nat} {b7 aY:Type} [ah b7] [ah aY] {b:b7} {v:aY} (l:aG b7 aY):bR c.P t aY->aN c E L x (.jC p l)->aN c E L y (.of v)->L[j]? =w ⟨w p,.var b⟩->⟨w p,.var (l.set b v)⟩=e->HW c E L t x y j e
 |z {p:Nat} {b7:Type} [ah b7] {b v:b7}:bR c.P t b7->aN c E L x (.bq p)->aN c E L y (.of v)->L[j]? =w ⟨w p,.var b⟩->⟨w p,.var v⟩=e->HW c E L t x y j e
section
variable{c:cX}{E:R (Nat×J)}{L:R aK}{ops:bE bA}{Q:cK->cg->bj->Prop}{ak:bA}{aR:R ee}{np i a8:Nat}{up rd:R Nat}{t ty:bH}{pos:String}{a1:bE Edge}{x y:cx}
def ab7{a:Nat}{b:aB}[ah b]{c d:b}(e:w c=w d):(⟨w a,.var c⟩:aK)=⟨w a,.var d⟩:=by cases e;rfl
def asF{d g:Nat}{f a:aB}[ah f][ah a]{b:f}{i:a}{l:aG f a}{e:aK}[k:bR c.P t a](j:aN c E L x (.jC d l):=by exact fy)(m:aN c E L y (.of i):=by first|exact fy|exact look_nil)(h:L[g]? =w ⟨w d,.var b⟩:=by exact av _ _ o o)(n:⟨w d,.var (l.set b i)⟩=e:=by first|rfl|exact ab7 (by assumption)):HW c E L t x y g e:=.mk l k j m h n
def rL{a f:Nat}{d:aB}[ah d]{b g:d}{e:aK}[k:bR c.P t d](i:aN c E L x (.bq a):=by exact fy)(j:aN c E L y (.of g):=by first|exact fy|exact look_nil)(h:L[f]? =w ⟨w a,.var b⟩:=by exact av _ _ o o)(l:⟨w a,.var g⟩=e:=by first|rfl|exact ab7 (by assumption)):HW c E L t x y f e:=.z k i j h l
inductive DZ(c:cX)(E:List (Nat×J))(L:List aK)(ak:Oper)(bb:J):Prop
 |mk {dm:J}:aZ c E L ak dm->Nm dm bb->DZ c E L ak bb
def DZ.h{b:J}(a:DZ c E L ak b):aZ c E L ak b:=by cases a with |mk a d=>exact d.aF a
def aQ{a b:J}(h:aZ c E L ak a:=by first|exact aF|exact od)(d:Nm a b:=by first|exact Nm.n (by with_reducible assumption)|exact Nm.i):DZ c E L ak b:=.mk h d
def abE{g:J}(h:∀(aq:Nat->Hid) (br:R (Nat×J)) (aD:R aK),(∀t j,look (j0 aq aR E up) t=w j->look br t=w j)->(∀a e,(hi (λ_=>S) aq 0 (aR.take i) L)[a]? =w e->rd.contains a=S->aD[a]? =w e)->(∀{k:aB} [ah k] (l:Nat) (b:k) {a:Nat},(hi (λ_=>S) aq 0 (aR.take i) L)[a]? =w ⟨w l,.var b⟩->AV aD l b)->aD.drop np=L.drop np->DZ c br aD ak g:=by intro aq br aD aA av abV dQ;exact aQ)
 (m:ak.guard=T:=by rfl) (aq:ak.dst=w a8:=by rfl) (aQ:Y a8 c.n=S:=by rfl):x6 c ops Q aR E L np i ak (az a8 up rd g):=
 λn b p d e f=>aa.v (h n b p d e (λ_ _ _ _=>trivial) f).h m aq aQ (aa.nil (af.fin (λ_=>T) o o))
def abF{j:J}{a g:Nat}{b k:aI}(p:ak.guard=w (a,k):=by rfl)(q:(ops[a]?).bind (·.dst)=w g:=by rfl)(r:∀aq,look (j0 aq aR E up) g=w (.of b):=by intro aq;rfl)
 (h:∀(aq:Nat->Hid) (br:R (Nat×J)) (aD:R aK),(∀t j,look (j0 aq aR E up) t=w j->look br t=w j)->(∀a e,(hi (λ_=>S) aq 0 (aR.take i) L)[a]? =w e->rd.contains a=S->aD[a]? =w e)->(∀{l:aB} [ah l] (m:Nat) (b:l) {a:Nat},(hi (λ_=>S) aq 0 (aR.take i) L)[a]? =w ⟨w m,.var b⟩->AV aD m b)->aD.drop np=L.drop np->b=k->DZ c br aD ak j:=by intro aq br aD aA av abV dQ ax;exact aQ)
 (aq:ak.dst=w a8:=by rfl) (aQ:Y a8 c.n=S:=by rfl):x6 c ops Q aR E L np i ak (az a8 up rd (.cond (b=k) j)):=
 λn A B d e f=>aa.g (λC=>(h n A B d e (λ_ _ _ _=>trivial) f C).h) p q (d _ _ (r n)) aq aQ (aa.nil (af.fin (λ_=>T) o o))
def abG{d:aB}[j:ah d]{e:d}[f:dn c.P t e]{b a:Nat}(g:∀aq,(hi (λ_=>S) aq 0 (aR.take i) L)[a]? =w ⟨T,.dead⟩:=by intro aq;rfl)(aQ:Y b c.n=S:=by rfl):x6 c ops Q aR E L np i ⟨w b,.alloc t,ty,pos,a1,T⟩ (mY b up a i e):=
 λaq br aD aA av dQ=>.alloc f aQ λh=>.nil (.place a (av a _ (g aq) (by simp[mY])) (.fin (dv [w h]) (by simp[mY,rC,WN,dv]) (by simp[mY,pO,WN,dv])))
def dst{a:Nat}{e:(Nat->Hid)->aK}(h:∀(aq:Nat->Hid) (br:R (Nat×J)) (aD:R aK),(∀t m,look (j0 aq aR E up) t=w m->look br t=w m)->(∀k e,(hi (λ_=>S) aq 0 (aR.take i) L)[k]? =w e->[a].contains k=S->aD[k]? =w e)->aD.drop np=L.drop np->HW c br aD t x y a (e (hE up i (lA aq i λ_=>T))):=by intro aq br aD aA av dQ;first|exact asF|exact rL):
 x6 c ops Q aR E L np i ⟨T,.store t x y,ty,pos,a1,T⟩ (fL up [a] [a] e):=λaq br aD aA av dQ=>by
 cases h aq br aD aA av dQ with
 |mk l b d f g j=>exact .store l b d f g o o (.nil (.fin (λ_=>T) o (eO (aD.set a) j)))
 |z b d f g j=>exact .store (aG.id _) b d f g o o (.nil (.fin (λ_=>T) o (eO (aD.set a) j)))
end
inductive ub(c:cX)(ops:Array Oper)(Q:Exit->Act->World->Prop)(aR:List ee)(E:List (Nat×J))(L:List aK)(np:Nat):Nat->List Oper->List ee->Prop
 |nil {i}:ub c ops Q aR E L np i [] []
 |cons {i ak os h r}:x6 c ops Q aR E L np i ak h->ub c ops Q aR E L np (i+1) os r->ub c ops Q aR E L np i (ak::os) (h::r)
def ub.h{c:cX}{ops:bE bA}{Q:cK->cg->bj->Prop}{aR:R ee}{E:R (Nat×J)}{L:R aK}{np i:Nat}{a b}(d:ub c ops Q aR E L np i a b):qn c ops Q aR E L np i a b:=by
 induction d with
 |nil=>simp[qn]
 |cons e _ f=>exact⟨e,f⟩
section
variable{c:cX}{E:R (Nat×J)}{L:R aK}{Q:cK->cg->bj->Prop}{AU:Nat}{l:R bA}{ds:R (aw Nat×R Nat×R Nat×R Nat)}{es:R Nat}[SG:SD c.P](np:Nat)(aR:R ee)
include SG
def ar.vk(a:∀aq,af c Q .normal (jj (λ_=>S) aq E 0 aR) (hi (λ_=>S) aq 0 aR L))(b:ub c l.toArray Q aR E L np 0 l aR:=by repeat (first|apply ub.nil|(apply ub.cons;first|exact abG|exact dst|exact abE|exact abF)))
 (e:lB aR=ds:=by rfl) (f:E.map (·.1)=es:=by rfl) (g:Gv.rv l.toArray (V l) ds es=S:=by kernel_rfl) (h:(ds.all λd=>d.2.2.2.all λi=>Y i np)=S:=by kernel_rfl):ar c Q (.region AU l.toArray S) E L:=.ab0 np SG.m aR es b.h a e f g h
def ar.dj{a:Prop}(k:a)(b:∀aq,af c Q .normal (jj (λ_=>S) aq E 0 aR) (hi (λ_=>S) aq 0 aR L))(e:ot a->ub c l.toArray Q aR E L np 0 l aR:=by intro k;repeat (first|apply ub.nil|(apply ub.cons;first|exact abG|exact dst|exact abE|exact abF|exact k.k.1|exact k.k.2.1|exact k.k.2.2.1|exact k.k.2.2.2.1|exact k.k.2.2.2.2.1|exact k.k.2.2.2.2.2.1|exact k.k.2.2.2.2.2.2.1|exact k.k.2.2.2.2.2.2.2.1|exact k.k.2.2.2.2.2.2.2.2.1|exact k.k.2.2.2.2.2.2.2.2.2.1|exact k.k.2.2.2.2.2.2.2.2.2.2.1|exact k.k.2.2.2.2.2.2.2.2.2.2.2.1|exact k.k.2.2.2.2.2.2.2.2.2.2.2.2.1|exact k.k.2.2.2.2.2.2.2.2.2.2.2.2.2.1)))
 (f:lB aR=ds:=by rfl) (g:E.map (·.1)=es:=by rfl) (h:Gv.rv l.toArray (V l) ds es=S:=by kernel_rfl) (i:(ds.all λd=>d.2.2.2.all λj=>Y j np)=S:=by kernel_rfl):ar c Q (.region AU l.toArray S) E L:=.ab0 np SG.m aR es (e ⟨k⟩).h b f g h i
end
section
variable{c:cX}{E:R (Nat×J)}{L:R aK}{l:R bA}{Q:cK->cg->bj->Prop}
inductive uc(c:cX)(l:List Oper)(E:List (Nat×J))(L:List aK)(iO:List (Nat×Nat×J)):List Nat->Prop
 |nil:uc c l E L iO []
 |cons {i ak dm r}:l[i]? =w ak->DB i iO=w dm->h0 c l.toArray (kU (λj=>fk j (kn ak)) E iO) L ak dm->uc c l E L iO r->uc c l E L iO (i::r)
def uc.h{a:R (Nat×Nat×J)}{b:R Nat}(d:uc c l E L a b):w9 c l E L a b:=by
 induction d with
 |nil=>trivial
 |cons e f g _ h=>exact⟨by rw[e,f];exact g,h⟩
def fe.md{g:Nat}{a b:R Nat}{d:R (Nat×Nat×J)}{aP:R (Nat×Nat)}{es:R Nat}(h e f:R Nat)(aA:yL c l Q a b d E L f)(av:uc c l E L d e:=by repeat (first|apply uc.nil|(apply uc.cons;rfl;rfl; (first|exact MA|exact Sj))))(aQ:a.all (λk=>fk k b)=U:=by rfl)
 (i:d.map (λx=>(x.1,x.2.1))=aP:=by rfl) (j:E.map (·.1)=es:=by rfl) (m:c.n=g:=by rfl) (n:DL l g a b h e f aP es=S:=by kernel_rfl):fe c l Q a b d E L:=.mid h e f av.h aA aQ i j m n
def fe.abo{d:Nat}{e f:R Nat}{a:R (Nat×Nat×J)}{aP:R (Nat×Nat)}{es:R Nat}(g b:R Nat)(h:af c Q .normal (kU (λ_=>S) E a) L)(av:uc c l E L a b:=by repeat (first|apply uc.nil|(apply uc.cons;rfl;rfl; (first|exact MA|exact Sj))))
 (i:a.map (λx=>(x.1,x.2.1))=aP:=by rfl) (j:E.map (·.1)=es:=by rfl) (k:c.n=d:=by rfl) (m:DL l d e f g b [] aP es=S:=by kernel_rfl):fe c l Q e f a E L:=.last g b av.h h i j k m
end
def go{a:Prop} (h:a:=by
 repeat (first
 | (change aa _ _ _ (_::_) _ _
    first
    |((with_reducible refine arB h ?_);refine aa6 ?_; (try clear h);intro yI SH h;have A4:=True.intro)|((with_reducible refine arC h ?_);refine aa6 ?_; (try clear h);intro yI SH h;have A4:=True.intro)
    |(apply art;refine arx ?_;intro yI)|(apply aru;refine ary ?_;intro yI)
    |(apply arv;first|refine arz ?_|refine arA ?_)
    |(apply aa4; (first|(with_reducible refine abD h ?_)|(with_reducible refine aa7 h ?_)); (try clear h); (intro yI SH h;have A4:=True.intro);first|(refine HU ?_ (h:=by exact od);change aa _ _ _ _ ((_,J.bq yI)::_) _)|(refine HV ?_ (h:=by intro ax;exact od);change aa _ _ _ _ ((_,J.cond _ (J.bq yI))::_) _))
    |((first|apply aa4|apply aa5);first|refine HU ?_ (h:=by exact od)|refine HV ?_ (h:=by intro ax;exact od))
    |((first|apply arl|apply arn|apply apc|apply aa5); (first|(with_reducible refine abD h ?_)|(with_reducible refine aa7 h ?_)); (try clear h); (intro yI SH h;have A4:=True.intro);first|refine HU ?_ (h:=by exact od)|refine HV ?_ (h:=by intro ax;exact od))
    |refine HU ?_|refine HV ?_|refine aro ?_|refine HU ?_ (h:=by exact od)|refine HV ?_ (h:=by intro ax;exact od))
 | (change aa _ _ _ [] _ _
    first|apply eG|apply fl|apply bC|apply aa.nil)
 | (change ar _ _ _ _ _
    first|apply bl|(apply arw;first|((with_reducible have A4:=asa h);refine fR h ?_ ?_ <;> ((try clear h);intro h))|((with_reducible have A4:=asb h);refine My h ?_ ?_ <;> ((try clear h);intro h)))|apply gE|apply ar.seq|apply ar.block|apply ar.dW|apply ar.ret|apply ar.exit|apply ar.skip)
 | (change af _ _ _ _ _
    first|apply af.next|apply af.ret|apply af.exit|apply af.km|apply af.j3|apply af.jV|refine af.alC o ?_|(cases h;first|exact asd|exact ase|exact arq|exact ars|exact as0|exact as1|exact arp|exact eE () 0|exact eE () 1|exact eE () 2|exact eE () 3|exact ej () 0|exact ej () 1|exact ej () 2|exact ej () 3|exact cL 0 (hm ())|exact cL 1 (hm ())|exact cL 2 (hm ())))
 |((first|((guard_hyp A4); (clear A4);revert h)|skip); (repeat (revert yI));first|exact bB.k|exact di.k|exact fm.k|exact iw.k|exact lG.k|exact nd.k))):a:=h
def ay{a b:Prop}(k:b)(h:ot b->a:=by intro bB;exact go):a:=h ⟨k⟩
def go2{a b dd:Prop}(k:b)(c:dd)(h:ot b->ot dd->a:=by intro bB di;exact go):a:=h ⟨k⟩ ⟨c⟩
def AM{a b dd jg:Prop}(k:b)(c:dd)(d:jg)(h:ot b->ot dd->ot jg->a:=by intro bB di fm;exact go):a:=h ⟨k⟩ ⟨c⟩ ⟨d⟩
def abr{a ew dd jg b:Prop}(c:ew)(d:dd)(e:jg)(f:b)(h:ot ew->ot dd->ot jg->ot b->a:=by intro bB di fm iw;exact go):a:=h ⟨c⟩ ⟨d⟩ ⟨e⟩ ⟨f⟩
def R4{a ew dd jg b c d:Prop}(e:ew)(f:dd)(g:jg)(i:b)(j:c)(k:d)(h:ot ew->ot dd->ot jg->ot b->ot c->ot d->a:=by intro bB di fm iw lG nd;exact go):a:=h ⟨e⟩ ⟨f⟩ ⟨g⟩ ⟨i⟩ ⟨j⟩ ⟨k⟩
structure kr(P:Program)(au:Type)where
 r:Option au
instance{P:cV}{au:aB}:Inhabited (kr P au):=⟨⟨T⟩⟩
instance{P:cV}{au:aB}[ah au]:ah (kr P au)where
 size:=1
 agg:=U
 rep A W cs x:=∃v,cs=[v]∧v.oneCell'=S∧∀r,x.r=w r->∃f fst cap,v=.func (.func f) fst cap∧bk P f∧∀fh dE,Ext A W fh dE->(∀k∈fh,k<dE.heap.size)->
  Calls P f (fst++cap) dE λe tT=> ∃v,e=.returned v∧Fr [] dE tT∧(J.of r).holds fh tT v
 len h:=by grind
 one h:=by
  grind
 flat _:=rfl
 mono e h:=let⟨v,h1,fx,iX⟩:=h
  ⟨v,h1,fx,λr aF=>let⟨f,fst,cap,nJ,nM,lU⟩:=iX r aF; ⟨f,fst,cap,nJ,nM,λfh dE vo=>lU fh dE (e.trans vo)⟩⟩
instance{P:cV}{au:aB}[ah au]:dH (kr P au):=⟨[.nilFunc],λ_ _=>⟨_,rfl,rfl,λr h=>by cases h⟩⟩
section
variable{c:cX}{E:R (Nat×J)}{L:R aK}{d:aw Tmp}{ty:bH}{pos:String}{a1:bE Edge}{g:aw (Nat×aI)}
def uT{e:aB}[ah e]{F:aw e}{f:FuncId}{a:R cx}{dF:R J}(i:bk c.P f)(j:iu c E L a dF)(k:∀b,F=w b->cf c.P f dF (.of b)):
 aZ c E L ⟨d,.makeFunc (.func f) #[] a.toArray,ty,pos,a1,g⟩ (.of (⟨F⟩:kr c.P e)):=.pure λh l m=>by
 refine⟨.func (.func f) #[] (a.map h.eval).toArray,by simp[execOp,Instr.makeFunc],rfl,_,rfl,rfl,λb aF=>⟨f,#[],_,rfl,i,λn o p q=>?_⟩⟩
 have:=k b aF n o (a.map h.eval) q ((j.holds h l m).mono p)
 simp_all
def Xs{a:aB}[ah a]{i:kr c.P a}{b:cx}{l:bE bH}{e:a}(m:aN c E L b (.of i))(n:i.r=w e):
 aZ c E L ⟨d,.call ⟨.value b,#[],l⟩,ty,pos,a1,g⟩ (.of e):=λj h k=>by
 obtain⟨o,p,q,H,r⟩:=m j h k
 obtain⟨f,A,B,C,D,F⟩:=r e n
 have G:j.eval b=p:=lJ o q
 refine .uD (f:=f) (args:=A++B) (dE:=h) ?_ (F _ h (Ext.refl _ _) k.Ap)
 simp[execOp,resolve,aS,G,C,invoke,D.run]
def lq{x y:cx}{t t2:bH}{a b:cC}(k:c.P.underlying t=w .string)(i:aN c E L x (.of a))(j:aN c E L y (.of b)):aZ c E L ⟨d,.binOp .eql t x y t2,ty,pos,a1,g⟩ (.of (a.data.toList==b.data.toList)):=.pure λe f h=>by
 have l:e.eval x=.string a:=rm.1 (i e f h);have m:e.eval y=.string b:=rm.1 (j e f h);exact⟨.bool (a.data.toList==b.data.toList),by simp_all[execOp,eqGuard,binOp,Op.stringOp,Nl],of_bool.2 o⟩
def QT{x y:cx}{t t2:bH}{a b:cC}(k:c.P.underlying t=w .string)(i:aN c E L x (.of a))(j:aN c E L y (.of b)):aZ c E L ⟨d,.binOp .neq t x y t2,ty,pos,a1,g⟩ (.of (a.data.toList !=b.data.toList)):=.pure λe f h=>by
 have l:e.eval x=.string a:=rm.1 (i e f h);have m:e.eval y=.string b:=rm.1 (j e f h);exact⟨.bool (a.data.toList !=b.data.toList),by simp_all[execOp,eqGuard,binOp,Op.stringOp,Nl,bne],of_bool.2 o⟩
end
def ve(f:FuncId)(a:R bt):Deferred:= {target:=.fn (.func f) a.toArray,args:= #[]}
section
variable{c:cX}{E:R (Nat×J)}{L:R aK}{ops:bE bA}{Q:cK->cg->bj->Prop}{d:aw Tmp}{ty:bH}{pos:String}{a1:bE Edge}
def aa.defer{rest:R bA}{d:cx}{h:bE bH}{f:FuncId}{b:R bt}(i:c.rd=Z)(j:aN c E L d (.of (⟨f,a5 b⟩:Raw)))
 (k:aa {c with ds:=ve f b::c.ds} ops Q rest E L):aa c ops Q (⟨Z,.defer ⟨.value d,#[],h⟩,ty,pos,a1,Z⟩::rest) E L:=λe g a=>by
 have l:e.eval d=.func (.func f) #[] b.toArray:=QC.1 (j e g a)
 refine wpListIn_plain o λn m=>⟨λ_ _=>trivial,?_⟩
 have aF:((⟨Z,.defer ⟨.value d,#[],h⟩,ty,pos,a1,Z⟩:bA).semAt c.F.round e.eval).run c.P g=.ok (.defer (ve f b)) g:=by
  show((⟨Z,.defer ⟨.value d,#[],h⟩,ty,pos,a1,Z⟩:bA).semAt c.rd e.eval).run c.P g=_;rw[i,Oper.semAt_none];simp[execOp,resolve,aS,l,ve]
 rw[aF,Oper.uponIn_defer]
 refine m _ _ (k _ _ ?_)
 exact {defers:=by show ve f b::e.defers=ve f b::c.ds;rw[a.defers],size:=a.size,env:=a.env,ey:=a.ey,own:=a.own,nodup:=a.nodup,lt:=a.lt,gl:=a.gl,eW:=a.eW}
end
def C2(P:cV)(f:FuncId)(dF:R J)(a:R aK){aX:aB}(i:aX->R aK):Prop:=
 ∀ (c:R Nat) (b:bj) (g:R bt),(∀d∈c,d<b.heap.size∧d∉aP a)->(aP a).Nodup->(∀d∈aP a,d<b.heap.size)->(∀e∈a,e.ok (aP a++c) b)->ha (aP a++c) b dF g->
   ∀h,CallsDIn Fence.wide 8 P f g.toArray h b λe j k=>j=h∧j4 (aP a) c b (λ_:aX=>J.bO []) i e k
def C2.of{P:cV}{f:FuncId}{a:Func}{h:ec}{b:Nat}{dF:R J}{c:R aK}{aX:aB}{i:aX->R aK}(l:P.funcs[f]? =w a)(m:a.body=w h)(aQ:a.ntmps=b)(n:ap dF.length b=S)
 (o:∀d e,ar ⟨P,b,d,aP c,e,T,[]⟩ (bodyPost P a (j4 (aP c) e d (λ_:aX=>J.bO []) i)) h (params 0 dF) c):C2 P f dF c i:=by
 intro e d p q r g A j H
 refine callsDIn_of_wp l m bo (wpIn_wide.2 (wpIn_wide.1 (o d e _ _ ?_)))
 have B:=j.length
 have I:dF.length<=b:=pq n
 exact
 {defers:=rfl
  size:=by simp[aQ,B];omega
  env:=λt C D=>by
   obtain⟨_,E,k,F⟩:=zR j 0 t C D;refine⟨E,?_,F⟩;have g:t<p.length:=(lX.1 k).1;rw[Ih (by simpa using g)];simpa using k
  ey:=.refl _ _
  own:=A
  nodup:=r
  lt:=g
  gl:=λK G _=>G
  eW:=q}
def af.arE{c:cX}{E:R (Nat×J)}{l:Func}{m:Ending->bj->Prop}{f:FuncId}{j:R bt}{dF:R J}{i b9:R aK}{aX:aB}{n:aX->R aK}(D:c.ds=[ve f j])(F:bk c.P f)
 (g:C2 c.P f dF i n) (G:∀H d,ha H d dF j) (b:∀k,af {c with ds:=[]} (bodyPost c.P l m) .ret E (n k++b9)):af c (bodyPostM Fence.wide 9 c.P l m) .ret E (i++b9):=λp d h=>by
 have B:=h.nodup
 rw[fF]at B
 obtain⟨I,ag,K⟩:=rZ.1 B
 have L:Ext (aP (i++b9)++c.cv) d (aP i++(aP b9++c.cv)) d:=.drop λb a=>by
  rw[fF];simp only[eN]at a⊢;rcases a with a|a|a
  ·exact .inl (.inl a)
  ·exact .inl (.inr a)
  exact .inr a
 have M:∀b∈aP b9++c.cv,b<d.heap.size∧b∉aP i:=λb a=>by
  rcases eN.1 a with a|a
  ·exact⟨h.lt b (by rw[fF];exact eN.2 (.inr a)),λg=>K b g b a o⟩
  obtain⟨q,r⟩:=h.eW b a;exact⟨q,λg=>r (by rw[fF];exact eN.2 (.inl g))⟩
 have N:∀b∈aP i,b<d.heap.size:=λb a=>h.lt b (by rw[fF];exact eN.2 (.inl a))
 show LeavesInM Fence.wide 9 c.P l p.tmps m p.defers .returning d
 rw[h.defers,D]
 refine⟨by simp,.inr ⟨(λg=>by cases g),Fn.func f,j.toArray,f,j.toArray,rfl,?_,λ_ _=>trivial,?_⟩⟩
 ·simp[ve,invoke,F.run]
 refine(g (aP b9++c.cv) d j M I N (λC A=>aK.v7 (h.own C (eN.2 (.inl A))) L λ_ _=>rfl) (G _ _) .returning).mono λC ah O ⟨P,ai,k,A,Q,q,r,aa,aj⟩=>?_
 subst A P
 have e:=h.after Q q r aa
 have ab:b0 {c with ds:=[]} E (n k++b9) {p with defers:=[]} O:=
  {defers:=rfl,size:=e.size,env:=e.env,ey:=e.ey,own:=e.own,nodup:=e.nodup,lt:=e.lt,gl:=e.gl,eW:=e.eW}
 obtain⟨_,ac,ad,ae⟩:=b k _ _ ab
 exact⟨ac,ad,ae⟩
def af.Rr{c:cX}{E:R (Nat×J)}{L:R aK}{e:Func}{g:Ending->bj->Prop}{b1:aB}[eA b1]{aC:aL b1}{f:FuncId}{l:R bt}{a b9:R aK}{aX:aB}{m:aX->R aK}{n:aX->aL b1}(h o:Nat)(p:L.drop h=bc aC)(q:c.ds=[ve f l])(r:bk c.P f)
 (A:C2 c.P f (l.map J.eq) (a++bc aC) (λd=>m d++bc (n d))) (B:(L.take h).take o=a) (C:(L.take h).drop o=b9) (D:∀b,af {c with ds:=[]} (bodyPost c.P e g) .ret E ((m b++b9)++bc (n b))):af c (bodyPostM Fence.wide 9 c.P e g) .ret E L:=by
 have F:L=(a++b9)++bc aC:=by rw[<-B,<-C,rT,<-p,rT]
 subst F
 have G:af c (bodyPostM Fence.wide 9 c.P e g) .ret E ((a++bc aC)++b9):=af.arE q r A (λ_ _=>.Rv) λb=>λi j k=>D b i j (k.perm me.symm)
 exact λi j k=>G i j (k.perm me)
instance:Inhabited ig:=⟨⟨.slice T 0 0⟩⟩
def substr(c:cC)(a b:Int):aw cC:=if 0<=a∧a<=b∧b<=c.size then w (c.extract a.toNat b.toNat)else T
section
variable{c:cX}{E:R (Nat×J)}{L:R aK}{ops:bE bA}{Q:cK->cg->bj->Prop}
variable{d:aw Tmp}{ty:bH}{pos:String}{a1:bE Edge}{g:aw (Nat×aI)}{x y:cx}{t t2:bH}
def pA{b F:cC}{G H:aw cx}{i l:Int}(m:c.P.underlying t=w .string)(O:aN c E L x (.of b))(q:vp c E L G i 0)(n:vp c E L H l b.size)
 (o:substr b i l=w F):aZ c E L ⟨d,.slice t x G H T,ty,pos,a1,g⟩ (.of F):=.pure λj e k=>by
 unfold substr at o
 split at o
 case isFalse=>cases o
 rename_i R
 cases o
 obtain⟨f,a,rfl,rfl⟩:∃f a:Nat,i=f∧l=a:=⟨i.toNat,l.toNat,by omega,by omega⟩
 have P:f<=a:=by omega
 have aQ:a<=b.size:=by omega
 have I:∀h,h=Value.int .i64 f->(a3 h a .sliceB).run c.P e=.ok f e:=λh r=>qi P r
 have J:∀h,h=Value.int .i64 a->(a3 h b.size .sliceAlen).run c.P e=.ok a e:=λh r=>qi aQ r
 refine⟨.string (b.extract f a),?_,rm.2 (by simp)⟩
 have p:=rm.1 (O j e k)
 generalize K:(a:Int)=Sx at n
 generalize M:(f:Int)=Sy at q
 generalize aa:(b.size:Int)=Sz at n
 generalize ab:(0:Int)=SA at q
 cases q with
 | none=>
   have Q:f=0:=by omega
   subst Q
   cases n with
   | none=>
     have A:a=b.size:=by omega
     subst A
     simp[execOp,aE,a2,am,p,dZ m]
   | some B=>
     have C:=J _ ((of_int.1 (B j e k)).trans (by rw[K]))
     simp[execOp,aE,a2,am,p,dZ m,C]
 | some N=>
   cases n with
   | none=>
     have A:a=b.size:=by omega
     subst A
     have D:=I _ ((of_int.1 (N j e k)).trans (by rw[M]))
     simp[execOp,aE,a2,am,p,dZ m,D]
   | some B=>
     have D:=I _ ((of_int.1 (N j e k)).trans (by rw[M]))
     have C:=J _ ((of_int.1 (B j e k)).trans (by rw[K]))
     simp[execOp,aE,a2,am,p,dZ m,D,C]
def bytesOf(a:cC):R (cE 8):=a.data.toList.map λb=>ao 8 b.toNat
def RR(a:cC):aw (R (cE 8)):=if a.size<=maxLen then w (bytesOf a)else T
def anf{a:cC}{k:R (cE 8)}{b:bH}(n:c.P.underlying t=w .string)(aq:c.P.underlying t2=w (.slice b))(p:c.P.underlying b=w (.int .u8))(q:aN c E L x (.of a))(j:RR a=w k):
 aZ c E L ⟨d,.convert t t2 x,ty,pos,a1,g⟩ (.of k):=λr e l=>by
 unfold RR at j
 split at j
 case isFalse=>cases j
 rename_i aQ
 cases j
 refine .lK (v:=.slice (w ⟨e.heap.size,0,T⟩) a.size (grownCap e a.size 0 b)) (dE:=Lib.bytesWorld e b a) ?_ ⟨?_,oO.2 ?_⟩
 ·have B:=Lib.run_convert_string_bytes e t t2 b a n aq p
  simp[execOp,rm.1 (q r e l),B]
 ·exact⟨rfl,rfl,rfl,Nat.le_succ _,by rw[Lib.bytesWorld_size];omega,λC D _=>Lib.bytesWorld_at_old e b a C D⟩
 have f:V (bytesOf a)=a.size:=by simp[bytesOf]
 have K:=grownCap_ge e a.size 0 b
 refine .inr ⟨e.heap.size,0,grownCap e a.size 0 b,Lib.bytesCells e b a,b,_,by rw[f],λF=>Fk _ (l.Ap _ F),Lib.bytesWorld_at_new e b a,by omega,by omega,?_,?_⟩
 ·rw[f];show 0+a.size*1<=_;simp[Lib.bytesCells]
 have G:((Lib.bytesCells e b a).toList.drop 0).take (V (bytesOf a)*ah.size (cE 8))=a.data.toList.map λh=>Value.int .u8 h.toNat:=by
  rw[f];show((Lib.bytesCells e b a).toList.drop 0).take (a.size*1)=_;simp only[Lib.bytesCells,xp];rw[Array.toList_append,IZ (by simp)];simp
 rw[G]
 refine⟨by rw[f];show _=a.size*1;simp,λi m=>?_⟩
 have H:i<V a.data.toList:=by rw[f]at m;simpa using m
 have I:((a.data.toList.map λh=>Value.int .u8 h.toNat).drop (i*1)).take 1=[Value.int .u8 ((bytesOf a)[i].toNat:Int)]:=by
  rw[Nat.mul_one,qa (by simpa using H),List.take_succ_cons,List.take_zero];have J:a.data.toList[i].toNat<256:=a.data.toList[i].toNat_lt;simp[bytesOf,Nw,IQ J]
 show ah.rep _ _ (((a.data.toList.map λh=>Value.int .u8 h.toNat).drop (i*1)).take 1) _
 rw[I]
 exact(n2 (A:=aP L++c.cv) (W:=Lib.bytesWorld e b a).2 o).2
def GY(b c a:cE 64):aw (cE 64×cE 64):=if a.toNat<=1 then w (b+c+a,ao 64 ((b.toNat+c.toNat+a.toNat)/18446744073709551616))else T
def aa8(P:cV)(f:FuncId):Prop:= ∃ a,P.funcs[f]? =w a∧ (a.name== "runtime.NumGoroutine")=U∧a.body.isNone=S∧Extern.findNext a=T∧Extern.find a=w add64Entry
def Yl{f:FuncId}{x y n:cx}{a b e:cE 64}{k:cE 64×cE 64}{p:bE bH}(q:aa8 c.P f)(r:aN c E L x (.of a))(A:aN c E L y (.of b))(B:aN c E L n (.of e))(h:GY a b e=w k):
 aZ c E L ⟨d,.call ⟨.value (.func f),#[x,y,n],p⟩,ty,pos,a1,g⟩ (.bO [.of k.1,.of k.2]):=.pure λi j l=>by
 obtain⟨P,C,D,F,G,H⟩:=q
 unfold GY at h
 split at h
 case isFalse=>cases h
 rename_i Q
 cases h
 have I:=ga.1 (r i j l)
 have J:=ga.1 (A i j l)
 have K:=ga.1 (B i j l)
 have m:=(run_callFunc_extern C D F G H #[.int .u64 (a.toNat:Int),.int .u64 (b.toNat:Int),.int .u64 (e.toNat:Int)] j).trans (by rw[run_add64 _ _ _ (by omega) (by omega) (by omega) (by omega)])
 have R:=a.isLt
 have aa:=b.isLt
 have ab:=e.isLt
 have M:(((a.toNat:Int)+b.toNat+e.toNat) % 18446744073709551616)=((a+b+e).toNat:Int):=by
  rw[a4,a4];omega
 have N:(((a.toNat:Int)+b.toNat+e.toNat)/18446744073709551616)=((ao 64 ((a.toNat+b.toNat+e.toNat)/18446744073709551616)).toNat:Int):=by
  rw[Nw];omega
 rw[M,N]at m
 refine⟨.tuple #[.int .u64 ((a+b+e).toNat:Int),.int .u64 ((ao 64 ((a.toNat+b.toNat+e.toNat)/18446744073709551616)).toNat:Int)],?_,_,rfl,.cons (ga.2 o) (.cons (ga.2 o) .nil)⟩
 rw[<-I,<-J,<-K]at m
 have O:i.eval (.func f)=.func (.func f) #[] #[]:=rfl
 simp[execOp,resolve,aS,invoke,O,m]
end
def akK{P t}(h:P.underlying t=w .string):j8 P t cC 1 where
 run d aq A W u v x y k5 la:=by
  obtain⟨d,rfl⟩:∃e,d=e+1:=⟨d-1,by omega⟩;rw[rm.1 k5,rm.1 la,run_equalIn_string W d t x y h];congr 1;rw[kW];simp only[l1,ik];constructor
  ·intro h;cases x;cases y;simpa[Nl]using h
  intro h;rw[h]
def Idle(P:cV)(f:FuncId)(b:R bt):Prop:=∀a,CallsDIn Fence.wide 8 P f b.toArray .returning a λc d e=>c=.returned (.tuple #[])∧d=.returning∧e=a
def af.aqz{c:cX}{E:R (Nat×J)}{L:R aK}{d:Func}{e:Ending->bj->Prop}{f:FuncId}{b:R bt}(j:c.ds=[ve f b])(k:bk c.P f)
 (g:Idle c.P f b) (l:af {c with ds:=[]} (bodyPost c.P d e) .ret E L):af c (bodyPostM Fence.wide 9 c.P d e) .ret E L:=λh i a=>by
 show LeavesInM Fence.wide 9 c.P d h.tmps e h.defers .returning i
 rw[a.defers,j]
 refine⟨by simp,.inr ⟨(λg=>by cases g),Fn.func f,b.toArray,f,b.toArray,rfl,?_,λ_ _=>trivial,?_⟩⟩
 ·simp[ve,invoke,k.run]
 refine(g i).mono λC D m ⟨n,o,p⟩=>?_
 subst n o p
 have q:b0 {c with ds:=[]} E L {h with defers:=[]} m:=
  {defers:=rfl,size:=a.size,env:=a.env,ey:=a.ey,own:=a.own,nodup:=a.nodup,lt:=a.lt,gl:=a.gl,eW:=a.eW}
 obtain⟨_,r,A,B⟩:=l _ _ q
 exact⟨r,A,B⟩
structure CZ(P:Program)(name:String)(dm:J)(dF:List J)(gS:J):Prop where
 go:∀(A:List Nat) (W:World) (u:Value) (gY:List Value),(∀k∈A,k<W.heap.size)->ha A W (dm::dF) (u::gY)->
  ∃f v,(∀args,(callMethod u name args).run P W=.ok (.enter f (#[v]++args)) W)∧Calls P f (v::gY).toArray W λe dE=> ∃v,e=.returned v∧Fr [] W dE∧gS.holds A dE v
def CZ.of{P:cV}{name:String}{t:bH}{f:FuncId}{dm bb gS:J}{dF:R J}(mt:jP P t name f)(HR:∀A W u,dm.holds A W u->∃v,u=.iface t v∧bb.holds A W v)(h:cf P f (bb::dF) gS):CZ P name dm dF gS where
 go A W u gY h1 nM:=by
  cases nM with
  | cons lU H5=>
    obtain⟨v,rfl,H6⟩:=HR _ _ _ lU
    exact⟨f,v,λargs=>mt.run v W args,h A W (v::gY) h1 (.cons H6 H5)⟩
section
variable{c:cX}{E:R (Nat×J)}{L:R aK}{d:aw Tmp}{ty:bH}{pos:String}{a1:bE Edge}{g:aw (Nat×aI)}{x:cx}
def wF{h:String}{a:R cx}{l:bE bH}{i j:J}{dF:R J}(m:CZ c.P h i dF j)(n:iu c E L (x::a) (i::dF)):
 aZ c E L ⟨d,.call ⟨.invoke x h,a.toArray,l⟩,ty,pos,a1,g⟩ j:=λb e k=>by
 obtain⟨f,o,p,q⟩:=m.go _ e (b.eval x) (a.map b.eval) k.Ap (n.holds b e k)
 refine .uD (f:=f) (args:=(o::a.map b.eval).toArray) (dE:=e) ?_ q
 have:=p (a.map b.eval).toArray
 simp only[execOp,resolve,eH,Sem.run_pure,Result.andThen_ok,invoke]
 simp only[List.map_toArray]at this⊢
 simp
 rw[rS (by simp),this]
 simp
def Sk(t:bH){c d:aB}[ah c][ah d](y:c)(ak:aw d):Prop:=∀e f a,(J.of y).holds e f a->(∃b g,ak=w g∧a=.iface t b∧(J.of g).holds e f b)∨(ak=T∧(a=.nilIface∨∃h b,h≠t∧a=.iface h b))
def RK{k h:aB}[ah k][ah h]{l t:bH}{a:TypeDesc}{m:h}{y:k}{ak:aw h}(e:dn c.P t m)(i:c.P.underlying t=w a)(aQ:(match a with | .interface _=>U|_=>S)=S)(r:aN c E L x (.of y))(A:Sk t y ak):
 aZ c E L ⟨d,.typeAssert x l t S,ty,pos,a1,g⟩ (.bO [.of (ak.getD m),.of ak.isSome]):=.pure λB f C=>by
 obtain⟨H,j,n,e,p⟩:=e.zero
 have D:(an .nilIface l t S).run c.P f=.ok (.tuple #[j,.bool U]) f:=by
  cases a <;> first|(cases aQ;done)|simp[an,dZ i,zeroValue,typeInfo,n,e]
 rcases A _ f _ (r B f C)with⟨q,I,rfl,b,F⟩|⟨rfl,b|⟨J,q,G,b⟩⟩
 ·refine⟨.tuple #[q,.bool S],?_,_,rfl,.cons F (.cons (of_bool.2 o) .nil)⟩
  cases a <;> first|(cases aQ;done)|simp[execOp,an,dZ i,b]
 ·refine⟨.tuple #[j,.bool U],?_,_,rfl,.cons (p _ _) (.cons (of_bool.2 o) .nil)⟩
  simp only[execOp,b]
  simp[D]
 refine⟨.tuple #[j,.bool U],?_,_,rfl,.cons (p _ _) (.cons (of_bool.2 o) .nil)⟩
 cases a <;> first|(cases aQ;done)|simp[execOp,an,dZ i,b,G,zeroValue,typeInfo,n,e]
def eg.jn{f:FuncId}{i:cx}{j:R cx}{j7:bE bH}{dF k:R J}{a:R aK}{l:bG->J}{e:bG->R aK}(m:R Nat)(B:bk c.P f)(C:aN c E L i (.jn f k))(D:bn c.P f (dF++k) a l e)
 (F:iu c E L j dF) (aQ:decide m.Nodup=S) (aC:rE L m a) (n:e ()=a):eg c E L ⟨d,.call ⟨.value i,j.toArray,j7⟩,ty,pos,a1,g⟩ (l ()):=λG H I=>by
 obtain⟨p,b⟩:=aC.perm (uj aQ)
 have K:=xR b
 have q:=en.jn (d:=d) (ty:=ty) (pos:=pos) (a1:=a1) (g:=g) (j7:=j7) (L:=a++p) (b9:=p) (V a) B (C.perm b) D (IZ o) (List.drop_left' o) (F.perm b) G H (I.perm b)
 unfold hr at q⊢
 refine sd (λP Q ⟨M,N,a8,r,A⟩=>⟨M,N,?_,?_⟩) q
 ·cases a8;have h:e PUnit.unit=a:=n;simp only[h]at r;exact r.perm b.symm
 cases a8
 have h:e PUnit.unit=a:=n
 simp only[h]at A
 exact J.mono _ (.drop λaa O=>by
  simp only[eN]at O⊢;rwa[<-K.mem_iff]) A
end
instance:iY cC:=⟨λh a=>h.trans a.symm,λh v b n=>by subst h;rw[mF.1 b];simp[Instr.sameBits,beq_toListBytes]⟩
def bn.flat{P:cV}{f:FuncId}{dF:R J}{aX:aB}{g:aX->J}{j:aX->R aK}{h:J}(a:bn P f dF [] g j)(aR:∀d,g d=h):cf P f dF h:=λk l m n o=>
 (a k l m (λb c=>⟨n b c,λa=>by cases a⟩) .nil (λb c=>by cases c) (λp e=>by cases e) o).mono λp B ⟨q,d,e,r,_,_,_,i⟩=>⟨q,e,r,by
  rw[aR d]at i;exact J.mono _ (.drop λb A=>eN.2 (.inr A)) i⟩
def VV{c e:aB}[DecidableEq c](y:c):∀(l:R (c×e)) (x:c) (a:e),dU (fB l x a) y=if y=x then w a else dU l y
 |[],x,a=>rfl
 | (f,i)::g,x,a=>by
   unfold fB;split
   ·rename_i d;subst d;simp only[dU];split <;> rfl
   rename_i d;simp only[dU,VV y g x a];by_cases b:y=f
   ·rw[bT b,bT b,bU (λh=>d (by rw[<-h,b]))]
   rw[bU b,bU b]
def Wv{a:aB}[DecidableEq a](y:a):∀(l:R a) (c:R (a×aI)),(dU (l.foldl (λc x=>fB c x S) c) y).getD U=(l.any (λx=>decide (y=x))||(dU c y).getD U)
 |[],c=>by simp
 | x::l,c=>by
   rw[List.foldl_cons,Wv y l,VV,List.any_cons];by_cases b:y=x
   ·simp[b]
   simp[b]
def VK{e k l:aB}{P:k->l->Prop}{h:e->aw (e⊕k)}{yH:e->aw (e⊕l)}(m:∀a y,h a=w y->(∃f,y=.inl f∧yH a=w (.inl f))∨(∃b d,y=.inr b∧yH a=w (.inr d)∧P b d)):
 ∀g a b,cj g h a=w b->∃d,cj g yH a=w d∧P b d
 |0,a,b,c=>by cases c
 | g+1,a,b,c=>by
   unfold cj at c⊢;cases i:h a with
   |none=>rw[i]at c;cases c
   | some y=>
     rw[i]at c
     rcases m a y i with⟨f,rfl,j⟩|⟨p,n,rfl,j,o⟩
     ·rw[j];exact VK m g f b c
     rw[j];cases c;exact⟨n,rfl,o⟩
theorem bR.i{P:cV}{t:bH}{a:aB}[ah a]{d:TypeDesc}(b:P.underlying t=w d:=by rfl)(c:(match (motive:=TypeDesc->aI) d with | .struct _| .array _ _=>S|_=>U)=ah.agg a:=by rfl)(aR:(P.info? t).map (·.size)=w (ah.size a):=by kernel_rfl):bR P t a:=bR.of c b aR
theorem dn.i{P:cV}{t:bH}{a:aB}[ah a][Inhabited a][dH a](h:(P.info? t).bind (·.zero)=w (Mo a):=by kernel_rfl):dn P t (default:a):=dn.of h
theorem b6.i{P:cV}{c f:Nat}{d a:aB}[ah d][ah a]{l:aG d a}{e:bE Field}{b:Field}(g:P.underlying c=w (.struct e))(h:e[f]? =w b)(i:bR P b.type a)(j:b.offset=l.off:=by rfl)(aR:Nat.beq (ah.size a) 0=U:=by rfl):b6 P c f l:=⟨yC.of g h j i aR⟩
def bk.i{P:cV}{f:FuncId}{a:Func}(h:P.funcs[f]? =w a:=by rfl)(b:a.body.isNone=U:=by rfl)(c:(a.name== "runtime.NumGoroutine")=U:=by kernel_rfl):bk P f:=⟨a,h,b,c⟩
theorem fi.i{P:cV}{t:bH}{b:bE (Nat×Nat)}{a:bE Field}(h:P.underlying t=w (.struct a):=by rfl)(c:a.all (λf=>(P.info? f.type).isSome)=S:=by kernel_rfl)(d:(a.map λf=>(f.offset,P.cellsOf f.type))=b:=by kernel_rfl):fi P t b:=⟨a,h,c,d⟩
end Gv
