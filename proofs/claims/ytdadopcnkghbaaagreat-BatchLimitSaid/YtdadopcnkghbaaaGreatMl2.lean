/-
  The library of the decompiler, as far as it is needed here. Conditions: none.
-/
import Derived.Test.YtdadopcnkghbaaaGreatMl1
import Derived.Test.YtdadopcnkghbaaaGreatMl0
set_option linter.defProp false
set_option linter.unusedVariables false
set_option linter.unusedSimpArgs false
namespace Gv
open Go
class bT (P:Program) (s f:Nat) {β γ:outParam Type} [yB:ag β] [Fi:ag γ] (l:outParam (aO β γ)):Prop where
 fd:vJ P s f l.off
class hh (P:Program) (t:bo) (e:outParam bo) (α:outParam Type) [Fj:ag α]:Prop where
 hu:P.underlying t=some (.slice e)
 dO:bG P e α
class Be (P:Program) (t:bo) (α:Type) [ag α] [DecidableEq α] (k:outParam Nat):Prop where
 s7:lr P t α k
 XN:P.eqGuardType P.depth t=false
 aG:Nat.ble k 10000=true
class nO (P:Program) (t:bo) (d:outParam TypeDesc):Prop where
 hu:P.underlying t=some d
class anT (P:Program) (s f:Nat) (t:outParam Nat) {β γ:outParam Type} [yB:ag β] [Fi:ag γ] (l:outParam (aO β γ)):Prop where
 XA:Pa P s f t l.off
class h9 (P:Program) (f:FuncId) (α ρ:outParam Type) (L:outParam (α->av ρ)) (τ:outParam (α->J)) (kq:outParam (ρ->J)):Prop where
 bU:bx P f
 m:∀x r,L x=some r->cn P f [τ x] (kq r)
class eV (P:Program) (f:FuncId) (α β ρ:outParam Type) (L:outParam (α->β->av ρ)) (τ:outParam (α->J)) (σ:outParam (β->J)) (kq:outParam (ρ->J)):Prop where
 bU:bx P f
 m:∀x y r,L x y=some r->cn P f [τ x,σ y] (kq r)
class pj (P:Program) (f:FuncId) (α β γ ρ:outParam Type) (L:outParam (α->β->γ->av ρ)) (τ:outParam (α->J)) (σ:outParam (β->J)) (yC:outParam (γ->J)) (kq:outParam (ρ->J)):Prop where
 bU:bx P f
 m:∀x y z r,L x y z=some r->cn P f [τ x,σ y,yC z] (kq r)
theorem h9.i{P:Program}{f:FuncId}{α ρ:Type}{L:α->av ρ}{τ:α->J}{kq:ρ->J}{fn:Func}{code:Code}{n:Nat}(aU:P.funcs[f]? =some fn)(hb:fn.body=some code)(aG:fn.ntmps=n)(ao:Nat.ble 1 n=true)
 (h:∀ x r,L x=some r→ ∀ W A,ax ⟨P,n,W,[],A,none,[]⟩ (bodyPost P fn (sL ⟨P,n,W,[],A,none,[]⟩ (kq r))) code (params 0 [τ x]) []) (hm:(fn.name== "runtime.NumGoroutine")=false:=by kernel_rfl):h9 P f α ρ L τ kq:=
 ⟨⟨fn,aU,by rw[hb];rfl,hm⟩,λx r e=>.of aU hb aG ao (h x r e)⟩
theorem eV.i{P:Program}{f:FuncId}{α β ρ:Type}{L:α->β->av ρ}{τ:α->J}{σ:β->J}{kq:ρ->J}{fn:Func}{code:Code}{n:Nat}(aU:P.funcs[f]? =some fn)(hb:fn.body=some code)(aG:fn.ntmps=n)(ao:Nat.ble 2 n=true)
 (h:∀ x y r,L x y=some r→ ∀ W A,ax ⟨P,n,W,[],A,none,[]⟩ (bodyPost P fn (sL ⟨P,n,W,[],A,none,[]⟩ (kq r))) code (params 0 [τ x,σ y]) []) (hm:(fn.name== "runtime.NumGoroutine")=false:=by kernel_rfl):eV P f α β ρ L τ σ kq:=
 ⟨⟨fn,aU,by rw[hb];rfl,hm⟩,λx y r e=>.of aU hb aG ao (h x y r e)⟩
theorem pj.i{P:Program}{f:FuncId}{α β γ ρ:Type}{L:α->β->γ->av ρ}{τ:α->J}{σ:β->J}{yC:γ->J}{kq:ρ->J}{fn:Func}{code:Code}{n:Nat}(aU:P.funcs[f]? =some fn)(hb:fn.body=some code)(aG:fn.ntmps=n)(ao:Nat.ble 3 n=true)
 (h:∀ x y z r,L x y z=some r→ ∀ W A,ax ⟨P,n,W,[],A,none,[]⟩ (bodyPost P fn (sL ⟨P,n,W,[],A,none,[]⟩ (kq r))) code (params 0 [τ x,σ y,yC z]) []) (hm:(fn.name== "runtime.NumGoroutine")=false:=by kernel_rfl):pj P f α β γ ρ L τ σ yC kq:=
 ⟨⟨fn,aU,by rw[hb];rfl,hm⟩,λx y z r e=>.of aU hb aG ao (h x y z r e)⟩
section
variable(P:Program)(f:FuncId)(τs:aa J){bt:Type}[di bt](hp:aE bt)
abbrev hA(ρ:J)(cw:aE bt):Prop:=bJ P f τs ([]++aY hp) (δ:=Unit) (λ_=>ρ) (λ_=>[]++aY cw)
abbrev kl{α:Type}[ag α](Q:α×aE bt->Prop):Prop:=bJ P f τs ([]++aY hp) (δ:= {r:α×aE bt // Q r}×Unit) (λd=>J.of d.1.1.1) (λd=>[]++aY d.1.1.2)
abbrev x3(Q:aE bt->Prop):Prop:=bJ P f τs ([]++aY hp) (δ:= {r:aE bt // Q r}×Unit) (λ_=>J.bR []) (λd=>[]++aY d.1.1)
abbrev vY(p:Nat){α:Type}[ag α](x:α)(ρ:J)(y:α):Prop:=bJ P f τs [bb p x] (δ:=Unit) (λ_=>ρ) (λ_=>[bb p y])
end
def akO{q:Prop}{u:bd}(hb:q):∀A W v,(J.cond q (.eq u)).holds A W v->v=u:=λ_ _ _ h=>h.1 hb
abbrev J.lE(p:Nat){β γ:Type}[ag β][ag γ](l:aO β γ):J:=.eq (.pointer (some ⟨p,l.off,none⟩))
structure r3(p:Prop):Prop where
 k:p
def eQ{p q:Prop}(a:p)(b:q):p∧q:=⟨a,b⟩
def jJ:True:=trivial
inductive At:List aA->Nat->aA->Prop
 |z {e r}:At (e::r) 0 e
 |s {e f r j}:At r j e->At (f::r) (j+1) e
def At.get:∀{L j e},At L j e->L[j]? =some e
 |_,_,_,.z=>rfl
 |_,_,_,.s h=>by simpa using h.get
def At.g{L:aa aA}{j:Nat}{e:aA}(h:At L j e:=by repeat (first|exact At.z|apply At.s)):L[j]? =some e:=h.get
inductive r4:List aA->aA->aA->List aA->Prop
 |z {e f r}:r4 (e::r) e f (f::r)
 |s {e f g r s}:r4 r e f s->r4 (g::r) e f (g::s)
def r4.get:∀{L e f M},r4 L e f M->∃j,L[j]? =some e∧L.set j f=M
 |_,_,_,_,.z=>⟨0,rfl,rfl⟩
 |_,_,_,_,.s h=>let⟨j,h1,ad⟩:=h.get; ⟨j+1,by simpa using h1,by simp[ad]⟩
inductive r5{bt:Type}[di bt]:List aA->aE bt->Prop
 |z {hp}:r5 (aY hp) hp
 |s {e r hp}:r5 r hp->r5 (e::r) hp
def r5.get{bt:Type}[di bt]{L:aa aA}{hp:aE bt}(h:r5 L hp):∃n,L.drop n=aY hp:=by
 induction h with
 |z=>exact⟨0,rfl⟩
 |s _ bN=>exact⟨bN.choose+1,bN.choose_spec⟩
class wc (β:Type) [ag β] {bt:outParam Type} [di bt] (rd:outParam (aE bt->Nat->av β)):Prop where
 ok:∀{hp p x},rd hp p=some x->∃k,pat hp p=some k∧di.fo p k=[⟨some p,.var x⟩]
class Pq (P:Program):Prop where
 m:P.follows .mixedOrders=true
section
variable{c:bW}{E:aa (Nat×J)}{L L':aa aA}{ops:Array Oper}{Q:Exit->Act->bc->Prop}{rest:aa Oper}{o:Oper}{d:av Tmp}{aV:Nat}
variable{ty:bo}{pos:String}{af:Array Edge}{g:av (Nat×Bool)}{x y:bO}{t t2:bo}
def fact{p:Prop}(h:p:=by first|with_reducible assumption|(apply gW (hb:=hb);with_reducible assumption)):p:=h
def abL(k:Nat)(h:Nat.blt k 18446744073709551616=true:=by rfl):aL c E L (.const (.int .u64 (Int.ofNat k))) (.of (BitVec.ofNat 64 k)):=xe _ (by simp[Nat.blt]at h⊢;omega)
def eZ{σ:J}(h:aL c E L x σ:=by first|exact cM I hb|exact cM I hb.1|exact ai I|exact c8 _|exact gI _|exact fJ _|exact abL _|exact cM (aK _ _ I) hb|exact cM (aK _ _ I) hb.1|exact ai (aK _ _ I)):aL c E L x σ:=h
def ta{σ τ:J}(h:aL c E L x σ->ba c E L o τ)(al:aL c E L x σ:=by exact eZ):ba c E L o τ:=h al
def Bf{σ rI τ:J}(h:aL c E L x σ->aL c E L y rI->ba c E L o τ)(al:aL c E L x σ:=by exact eZ)(hy:aL c E L y rI:=by exact eZ):ba c E L o τ:=h al hy
def ag2{i:Nat}{τs:aa J}{τ:J}(al:aL c E L x (.bR τs):=by exact eZ)(aw:τs[i]? =some τ:=by rfl):ba c E L ⟨d,.extract x i,ty,pos,af,g⟩ τ:=Ah al aw
def ajt{p j:Nat}{β γ:Type}[ag β][ag γ]{b:β}{l:aO β γ}[k:bG c.P t γ](al:aL c E L x (.lE p l):=by exact eZ)(ar:L[j]? =some ⟨some p,.var b⟩:=by first|exact At.g|exact ar _ _ At.g I):ba c E L ⟨d,.load t x,ty,pos,af,g⟩ (.of (l.get b)):=
 j9 l k al ar I I
def aju{p j:Nat}{β:Type}[ag β]{b:β}[k:bG c.P t β](al:aL c E L x (.cV p):=by exact eZ)(ar:L[j]? =some ⟨some p,.var b⟩:=by first|exact At.g|exact ar _ _ At.g I):ba c E L ⟨d,.load t x,ty,pos,af,g⟩ (.of b):=
 j9 (aO.id β) k al ar I I
def pm{bt β:Type}[ag β][di bt]{rd:aE bt->Nat->av β}{hp:aE bt}{p:Nat}{b:β}[k:wc β rd](hd:r5 L hp:=by repeat (first|exact r5.z|apply r5.s))(ak:rd hp p=some b:=by exact fact):(⟨some p,.var b⟩:aA)∈L:=by
 obtain⟨n,h1⟩:=hd.get;obtain⟨q,ad,ay⟩:=k.ok ak;exact hX h1 ad ay
class XO (β:Type) [ag β] {bt we:outParam Type} [di bt] (rd:outParam (aE bt->Nat->av we)) (q:outParam (we->β)) (os:outParam (we->aa (Nat×bd))):Prop where
 ok:∀{hp p x},rd hp p=some x->∃k es,pat hp p=some k∧di.fo p k=⟨some p,.ck (q x) (os x)⟩::es
def p1{bt we β:Type}[ag β][di bt]{rd:aE bt->Nat->av we}{q:we->β}{os:we->aa (Nat×bd)}{hp:aE bt}{p:Nat}{x:we}[k:XO β rd q os](hd:r5 L hp:=by repeat (first|exact r5.z|apply r5.s))(ak:rd hp p=some x:=by exact fact):(⟨some p,.ck (q x) (os x)⟩:aA)∈L:=by
 obtain⟨n,h1⟩:=hd.get;obtain⟨_,_,ad,ay⟩:=k.ok ak;exact ag0 h1 ad ay
def XP{e:aA}{np:Nat}(cb:L'.drop np=L.drop np)(h:e∈L.drop np):e∈L':=yY (cb▸h)
def ajv{p:Nat}{β γ:Type}[ag β][ag γ]{b:β}{os:aa (Nat×bd)}{l:aO β γ}[k:bG c.P t γ](al:aL c E L x (.lE p l):=by exact eZ)(hm:(⟨some p,.ck b os⟩:aA)∈L:=by first|exact XP cb p1|exact nB (λi e q=>ar i e q I) p1|exact p1)(a1:sv os l.off (ag.size γ)=true:=by rfl):ba c E L ⟨d,.load t x,ty,pos,af,g⟩ (.of (l.get b)):=
 acr l k al hm I I a1
def ajw{p:Nat}{β γ:Type}[ag β][ag γ]{b:β}{l:aO β γ}[k:bG c.P t γ](al:aL c E L x (.lE p l):=by exact eZ)(hm:(⟨some p,.var b⟩:aA)∈L:=by first|exact XP cb pm|exact nB (λi e q=>ar i e q I) pm|exact pm):ba c E L ⟨d,.load t x,ty,pos,af,g⟩ (.of (l.get b)):=
 nt l k al hm I I
def ajx{r:Ref}{a:Nat}(al:aL c E L x (.of r):=by exact eZ)(aC:r=some a:=by first|with_reducible rfl|exact fact):ba c E L ⟨d,.nilCheck x,ty,pos,af,g⟩ (.cV a):=kS (ij al aC)
def ajy{r:Ref}{e:bo}[k:nO c.P t (.pointer e)](al:aL c E L x (.of r):=by exact eZ):ba c E L ⟨d,.binOp .eql t x (.const (.pointer none)) t2,ty,pos,af,g⟩ (.of r.isNone):=zK k.hu al
def ajz{r:Ref}{e:bo}[k:nO c.P t (.pointer e)](al:aL c E L x (.of r):=by exact eZ):ba c E L ⟨d,.binOp .neq t x (.const (.pointer none)) t2,ty,pos,af,g⟩ (.of r.isSome):=abI k.hu al
def ag3{γ:Type}[ag γ]{r:γ}[k:bG c.P t γ](al:aL c E L x (.ptr r):=by exact eZ):ba c E L ⟨d,.load t x,ty,pos,af,g⟩ (.of r):=kQ k al
def ajA{s f:Nat}{β γ:Type}[yB:ag β][Fi:ag γ]{b:β}{l:aO β γ}[k:bT c.P s f l](al:aL c E L x (.ptr b):=by exact eZ):ba c E L ⟨d,.fieldAddr s x f,ty,pos,af,g⟩ (.ptr (l.get b)):=Af l k.fd al I I
def ajB{s f p:Nat}{α β γ:Type}[ag α][yB:ag β][Fi:ag γ]{m:aO α β}{l:aO β γ}[k:bT c.P s f l](al:aL c E L x (.lE p m):=by exact eZ):ba c E L ⟨d,.fieldAddr s x f,ty,pos,af,g⟩ (.lE p (m.comp l)):=cq k.fd al
def ajC{s f p:Nat}{β γ:Type}[yB:ag β][Fi:ag γ]{l:aO β γ}[k:bT c.P s f l](al:aL c E L x (.cV p):=by exact eZ):ba c E L ⟨d,.fieldAddr s x f,ty,pos,af,g⟩ (.lE p l):=by
 have:=cq (d:=d) (ty:=ty) (pos:=pos) (af:=af) (g:=g) k.fd al;rwa[iS]at this
def ajD{α:Type}[Fj:ag α][Inhabited α]{xs:aa α}{e:bo}{i:Int}{j:Nat}[k:hh c.P t e α](al:aL c E L x (.of xs):=by exact eZ)(hy:aL c E L y (.of i):=by exact eZ)(hk:idx xs.length i=some j:=by exact fact):
 ba c E L ⟨d,.indexAddr t x y,ty,pos,af,g⟩ (.ptr (aF xs j)):=o0 k.hu k.dO al hy (dt hk)
def ag4{α:Type}[Fj:ag α]{xs:aa α}{e:bo}[k:hh c.P t e α](al:aL c E L x (.of xs):=by exact eZ):ba c E L ⟨d,.call ⟨.builtin .len,#[x],#[t]⟩,ty,pos,af,g⟩ (.of (xs.length:Int)):=sB k.hu al
def ajE{b e:Bool}{p:Prop}(al:aL c E L x (.of b):=by exact eZ)(hy:aL c E L y (.cond p (.of e)):=by first|exact ai I|exact ai (aK _ _ I))(hp:b=false->p:=by exact λh=>h):ba c E L ⟨d,.pick x (.const (.bool true)) y,ty,pos,af,g⟩ (.of (b||e)):=Dx al hy hp
def ag5{b e:Bool}{p:Prop}(al:aL c E L x (.of b):=by exact eZ)(hy:aL c E L y (.cond p (.of e)):=by first|exact ai I|exact ai (aK _ _ I))(hp:b=true->p:=by exact λh=>h):ba c E L ⟨d,.pick x y (.const (.bool false)),ty,pos,af,g⟩ (.of (b&&e)):=xv al hy hp
def ag6{α:Type}[ag α][DecidableEq α]{n:Nat}{a b:α}[k:Be c.P t α n](al:aL c E L x (.of a):=by exact eZ)(hy:aL c E L y (.of b):=by exact eZ)(a1:ag.agg α=true:=by rfl):
 ba c E L ⟨d,.binOp .eql t x y t2,ty,pos,af,g⟩ (.of (decide (a=b))):=Uw k.s7 k.aG k.XN a1 al hy
def ag7{α:Type}[ag α][DecidableEq α]{n:Nat}{a b:α}[k:Be c.P t α n](al:aL c E L x (.of a):=by exact eZ)(hy:aL c E L y (.of b):=by exact eZ)(a1:ag.agg α=true:=by rfl):
 ba c E L ⟨d,.binOp .neq t x y t2,ty,pos,af,g⟩ (.of (!decide (a=b))):=agN k.s7 k.aG k.XN a1 al hy
inductive vh(c:bW)(E:List (Nat×J))(L:List aA)(t:TypeId)(place:Nat->Option (Nat×Nat)){β:Type}[yB:ag β]:β->List (Nat×Operand)->β->Prop
 |nil {b}:vh c E L t place b [] b
 |cons {b b':β} {γ:Type} [Fi:ag γ] {v:γ} {i:Nat} {x:Operand} {r:List (Nat×Operand)} {l:aO β γ} [k:bT c.P t i l]:place i=some (l.off,ag.size γ)->aL c E L x (.of v)->vh c E L t place (l.set b v) r b'->vh c E L t place b ((i,x)::r) b'
def vh.f{place:Nat->av (Nat×Nat)}{β:Type}[yB:ag β]{b b':β}{r:aa (Nat×bO)}(h:vh c E L t place b r b'):q8 c E L place b r b':=by
 induction h with
 |nil=>exact .nil
 |cons h1 ad _ bN=>exact .cons _ h1 ad I bN
def ajF{β:Type}[yB:ag β]{z b:β}{dj:aa (Nat×bO)}{pl:Array (Nat×Nat)}[aW:ff c.P t pl][bP:cN c.P t z](aU:vh c E L t (pl[·]?) z dj b:=by repeat (first|exact vh.nil|(apply vh.cons;rfl;first|exact eZ|exact look_nil)))(a1:ag.agg β=true:=by rfl):
 ba c E L ⟨d,.build t dj.toArray,ty,pos,af,g⟩ (.of b):=kt a1 aW bP aU.f
inductive vz{α:Type}:List α->Nat->α->List α->Prop
 |z {x v r}:vz (x::r) 0 v (v::r)
 |s {x v r s i}:vz r i v s->vz (x::r) (i+1) v (x::s)
def vz.ok{α:Type}{b c:aa α}{i:Nat}{v:α}(h:vz b i v c):i<b.length∧b.set i v=c:=by
 induction h with
 |z=>simp
 |s _ bN=>exact⟨by simp only[List.length_cons];omega,by simp[bN.2]⟩
inductive vi(c:bW)(E:List (Nat×J))(L:List aA){α:Type}[ag α]:List α->List (Nat×Operand)->List α->Prop
 |nil {b}:vi c E L b [] b
 |cons {b cZ b':List α} {v:α} {i:Nat} {x:Operand} {r:List (Nat×Operand)}:aL c E L x (.of v)->vz b i v cZ->vi c E L cZ r b'->vi c E L b ((i,x)::r) b'
def vi.f{α:Type}[ag α]{b b':aa α}{r:aa (Nat×bO)}(h:vi c E L b r b'):nw c E L b r b':=by
 induction h with
 |nil=>exact .nil
 |cons h1 ad _ bN=>obtain⟨ay,rfl⟩:=ad.ok;exact .cons ay h1 bN
inductive vA{α:Type}(z:α):Nat->List α->Prop
 |z:vA z 0 []
 |s {n l}:vA z n l->vA z (n+1) (z::l)
def vA.ok{α:Type}{z:α}{n:Nat}{l:aa α}(h:vA z n l):List.replicate n z=l:=by
 induction h with
 |z=>rfl
 |s _ bN=>rw[List.replicate_succ,bN]
def ajG{α:Type}[Fj:ag α]{e n:Nat}{z:α}{dj:aa (Nat×bO)}{l r:aa α}[aW:hh c.P t e α][bP:cN c.P e z](b4:vA z n l:=by repeat (first|exact vA.z|apply vA.s))
 (aU:vi c E L l dj r:=by repeat (first|exact vi.nil|(apply vi.cons; (first|exact eZ|exact look_nil); (repeat (first|exact vz.z|apply vz.s))))) (hs:Nat.beq (ag.size α) 0=false:=by rfl) (pc:Nat.ble (n*ag.size α) 16777216=true:=by rfl):
 ba c E L ⟨d,.buildSlice t n dj.toArray,ty,pos,af,g⟩ (.of r):=Db aW.hu aW.dO bP hs pc (b4.ok▸aU.f)
def ajH{f:FuncId}{ats:Array bo}{α ρ:Type}{wg:α->av ρ}{τ:α->J}{kq:ρ->J}[k:h9 c.P f α ρ wg τ kq]{a:α}{r:ρ}(h1:aL c E L x (τ a):=by exact eZ)(h:wg a=some r:=by exact fact):
 ba c E L ⟨d,.call ⟨.value (.func f),[x].toArray,ats⟩,ty,pos,af,g⟩ (kq r):=jT k.bU (k.m _ _ h) ⟨h1,trivial⟩
def ajI{f:FuncId}{ats:Array bo}{α β ρ:Type}{wg:α->β->av ρ}{τ:α->J}{σ:β->J}{kq:ρ->J}[k:eV c.P f α β ρ wg τ σ kq]{a:α}{b:β}{r:ρ}(h1:aL c E L x (τ a):=by exact eZ)(ad:aL c E L y (σ b):=by exact eZ)(h:wg a b=some r:=by exact fact):
 ba c E L ⟨d,.call ⟨.value (.func f),[x,y].toArray,ats⟩,ty,pos,af,g⟩ (kq r):=jT k.bU (k.m _ _ _ h) ⟨h1,ad,trivial⟩
def ajJ{f:FuncId}{ats:Array bo}{α β γ ρ:Type}{wg:α->β->γ->av ρ}{τ:α->J}{σ:β->J}{yC:γ->J}{kq:ρ->J}{cy:bO}[k:pj c.P f α β γ ρ wg τ σ yC kq]{a:α}{b:β}{e:γ}{r:ρ}(h1:aL c E L x (τ a):=by exact eZ)(ad:aL c E L y (σ b):=by exact eZ)(ay:aL c E L cy (yC e):=by exact eZ)(h:wg a b e=some r:=by exact fact):
 ba c E L ⟨d,.call ⟨.value (.func f),[x,y,cy].toArray,ats⟩,ty,pos,af,g⟩ (kq r):=jT k.bU (k.m _ _ _ _ h) ⟨h1,ad,ay,trivial⟩
def Az{src dst:bo}{e r:TypeDesc}{σ τ:J}[aW:nO c.P src e][bP:nO c.P dst r](h:c.P.underlying src=some e->c.P.underlying dst=some r->aL c E L x σ->ba c E L ⟨d,.convert src dst x,ty,pos,af,g⟩ τ)(al:aL c E L x σ:=by exact eZ):
 ba c E L ⟨d,.convert src dst x,ty,pos,af,g⟩ τ:=h aW.hu bP.hu al
def ag8{a b r:Int}(al:aL c E L x (.of a):=by exact eZ)(hy:aL c E L y (.of b):=by exact eZ)(hk:sK a b=some r:=by exact fact):ba c E L ⟨d,.binOp .rem t x y t2,ty,pos,af,g⟩ (.of r):=agJ al hy (abC hk)
def ag9{p n s k:Nat}{i:Int}{β α:Type}[ag β][ag α][Inhabited α]{l:aO β (Vector α n)}[yv:qM c.P t n s](al:aL c E L x (.lE p l):=by exact eZ)(hs:ag.size α=s:=by rfl)(hy:aL c E L y (.of i):=by exact eZ)(hk:idx n i=some k:=by exact fact):
 ba c E L ⟨d,.indexAddr t x y,ty,pos,af,g⟩ (.lE p (l.comp (aO.idx (α:=α) n k (dt hk).1))):=by subst hs;exact rf yv al hy (dt hk)
def yj(L:aa aA){β:Type}[ag β](p:Nat)(b:β):Prop:=True
def yj.m{β:Type}[ag β]{p j:Nat}{b:β}(h:L[j]? =some ⟨some p,.var b⟩):yj L p b:=trivial
def aha{p n s k:Nat}{i:Int}{α:Type}[ag α][Inhabited α]{b:Vector α n}[yv:qM c.P t n s](al:aL c E L x (.cV p):=by exact eZ)(ar:yj L p b:=by first|exact yj.m At.g|exact yj.m (ar _ _ At.g I)|exact rV _ _ At.g)(hs:ag.size α=s:=by rfl)(hy:aL c E L y (.of i):=by exact eZ)(hk:idx n i=some k:=by exact fact):
 ba c E L ⟨d,.indexAddr t x y,ty,pos,af,g⟩ (.lE p (aO.idx (α:=α) n k (dt hk).1)):=by
 subst hs
 have:=rf (d:=d) (ty:=ty) (pos:=pos) (af:=af) (g:=g) yv al hy (dt hk)
 rwa[iS]at this
class lY (op:BinOp) (α:Type) {β:outParam Type} [ag α] [ag β] (f:outParam (α->α->β)):Prop where
 h:∀{c:bW} {E L d ty pos af g x y t t2} {a b:α},aL c E L x (.of a)->aL c E L y (.of b)->ba c E L ⟨d,.binOp op t x y t2,ty,pos,af,g⟩ (.of (f a b))
instance:lY .add Int (λa b=>bz (a+b)):=⟨ky⟩
instance:lY .sub Int (λa b=>bz (a-b)):=⟨q4⟩
instance:lY .mul Int (λa b=>bz (a*b)):=⟨agI⟩
instance:lY .lss Int (λa b=>decide (a<b)):=⟨qk⟩
instance:lY .leq Int (λa b=>decide (a<=b)):=⟨agK⟩
instance:lY .gtr Int (λa b=>decide (a>b)):=⟨Ae⟩
instance:lY .geq Int (λa b=>decide (a>=b)):=⟨MU⟩
instance:lY .eql Int (λa b=>a==b):=⟨nz⟩
instance:lY .neq Int (λa b=>a !=b):=⟨MW⟩
instance:lY .and (BitVec 64) (λa b=>a&&&b):=⟨ade⟩
instance:lY .or (BitVec 64) (λa b=>a|||b):=⟨aeq⟩
instance:lY .xor (BitVec 64) (λa b=>a ^^^ b):=⟨adf⟩
instance:lY .shl (BitVec 64) (λa b=>a <<< b.toNat):=⟨adi⟩
instance:lY .shr (BitVec 64) (λa b=>a >>> b.toNat):=⟨adj⟩
instance:lY .eql (BitVec 64) (λa b=>a==b):=⟨adm⟩
instance:lY .neq (BitVec 64) (λa b=>a !=b):=⟨adn⟩
instance:lY .lss (BitVec 64) (λa b=>decide (a<b)):=⟨adk⟩
instance:lY .geq (BitVec 64) (λa b=>decide (a>=b)):=⟨adl⟩
def ahb{op:BinOp}{α β:Type}[ag α][ag β]{f:α->α->β}{a b:α}[k:lY op α f](al:aL c E L x (.of a):=by exact eZ)(hy:aL c E L y (.of b):=by exact eZ):ba c E L ⟨d,.binOp op t x y t2,ty,pos,af,g⟩ (.of (f a b)):=k.h al hy
def U8{op:BinOp}{τ:J}(h:ba c E L ⟨d,.binOp op t x y t2,ty,pos,af,g⟩ τ):ba c E L ⟨d,.binOp op t x y t2,ty,pos,af,g⟩ τ:=h
def Wd{τ:J}(h:ba c E L ⟨d,.load t x,ty,pos,af,g⟩ τ):ba c E L ⟨d,.load t x,ty,pos,af,g⟩ τ:=h
def ajK{s f:Nat}{τ:J}(h:ba c E L ⟨d,.fieldAddr s x f,ty,pos,af,g⟩ τ):ba c E L ⟨d,.fieldAddr s x f,ty,pos,af,g⟩ τ:=h
def We{k:Call}{τ:J}(h:ba c E L ⟨d,.call k,ty,pos,af,g⟩ τ):ba c E L ⟨d,.call k,ty,pos,af,g⟩ τ:=h
def ajL{op:UnOp}{τ:J}(h:ba c E L ⟨d,.unOp op t x,ty,pos,af,g⟩ τ):ba c E L ⟨d,.unOp op t x,ty,pos,af,g⟩ τ:=h
def ajM{τ:J}(h:ba c E L ⟨d,.indexAddr t x y,ty,pos,af,g⟩ τ):ba c E L ⟨d,.indexAddr t x y,ty,pos,af,g⟩ τ:=h
def ajN{src dst:bo}{τ:J}(h:ba c E L ⟨d,.convert src dst x,ty,pos,af,g⟩ τ):ba c E L ⟨d,.convert src dst x,ty,pos,af,g⟩ τ:=h
def Wf{τ:J}(h:ba c E L ⟨d,.nilCheck x,ty,pos,af,g⟩ τ):ba c E L ⟨d,.nilCheck x,ty,pos,af,g⟩ τ:=h
def ajO{τ:J}(h:ba c E L ⟨d,.move x,ty,pos,af,g⟩ τ):ba c E L ⟨d,.move x,ty,pos,af,g⟩ τ:=h
def ajP{τ:J}(h:ba c E L ⟨d,.assign x,ty,pos,af,g⟩ τ):ba c E L ⟨d,.assign x,ty,pos,af,g⟩ τ:=h
def ajQ{i:Nat}{τ:J}(h:ba c E L ⟨d,.extract x i,ty,pos,af,g⟩ τ):ba c E L ⟨d,.extract x i,ty,pos,af,g⟩ τ:=h
def ajR{z w:bO}{τ:J}(h:ba c E L ⟨d,.pick z x w,ty,pos,af,g⟩ τ):ba c E L ⟨d,.pick z x w,ty,pos,af,g⟩ τ:=h
def ajS{dj:Array (Nat×bO)}{τ:J}(h:ba c E L ⟨d,.build t dj,ty,pos,af,g⟩ τ):ba c E L ⟨d,.build t dj,ty,pos,af,g⟩ τ:=h
def ajT{n:Nat}{dj:Array (Nat×bO)}{τ:J}(h:ba c E L ⟨d,.buildSlice t n dj,ty,pos,af,g⟩ τ):ba c E L ⟨d,.buildSlice t n dj,ty,pos,af,g⟩ τ:=h
def aC{τ:J} (h:ba c E L o τ:=by first
 |(apply ajO;exact cT eZ)
 |(apply ajP;exact cP eZ)
 |(apply Wd;first|exact ajt|exact aju|exact ag3)
 |(apply ajK;first|exact ajA|exact ajB|exact ajC)
 |(apply U8;first|exact ahb|exact ajy|exact ajz|exact ag6|exact ag7|exact ajU amO|exact ajU amP)
 |(apply We;first|exact ag4|exact amJ|exact Bf Ul|exact Bf Uk|exact Bf amF)
 |(apply ajQ;exact ag2)
 |(apply ajR;first|exact ajE|exact ag5)
 |(apply ajL;first|exact ta pH|exact ta amQ)
 |(apply ajS;exact ajF)
 |(apply ajT;exact ajG)
 |(apply ajN;first|exact Az TH|exact Az aer|exact Az agM|exact Az amR|exact Az amS|exact Az amG)
 |(apply Wf;first|exact am6|exact ta kS|exact ta aeu)):ba c E L o τ:=h
def na{τ:J} (h:ba c E L o τ:=by first
 |(apply ajM;first|exact ajD|exact ag9|exact aha|exact amT)
 |(apply We;first|exact ajH|exact ajI|exact ajJ|exact am7)
 |(apply Wf;exact ajx)|(apply Wd;first|exact ajw|exact ajv)
 |(apply U8;first|exact ag8|exact amU|exact amV|exact amW)):ba c E L o τ:=h
class EJ (op:BinOp):Prop where
 h:True
instance:EJ .quo:=⟨trivial⟩
instance:EJ .rem:=⟨trivial⟩
instance:EJ .shl:=⟨trivial⟩
instance:EJ .shr:=⟨trivial⟩
def Wg(h:ae c ops Q (⟨d,.nilCheck x,ty,pos,af,g⟩::rest) E L):ae c ops Q (⟨d,.nilCheck x,ty,pos,af,g⟩::rest) E L:=h
def Wh(h:ae c ops Q (⟨d,.load t x,ty,pos,af,g⟩::rest) E L):ae c ops Q (⟨d,.load t x,ty,pos,af,g⟩::rest) E L:=h
def ajV(h:ae c ops Q (⟨d,.indexAddr t x y,ty,pos,af,g⟩::rest) E L):ae c ops Q (⟨d,.indexAddr t x y,ty,pos,af,g⟩::rest) E L:=h
def ajW{f:FuncId}{xs:Array bO}{ats:Array bo}(h:ae c ops Q (⟨d,.call ⟨.value (.func f),xs,ats⟩,ty,pos,af,g⟩::rest) E L):ae c ops Q (⟨d,.call ⟨.value (.func f),xs,ats⟩,ty,pos,af,g⟩::rest) E L:=h
def ahc{op:BinOp}[k:EJ op](h:ae c ops Q (⟨d,.binOp op t x y t2,ty,pos,af,g⟩::rest) E L):ae c ops Q (⟨d,.binOp op t x y t2,ty,pos,af,g⟩::rest) E L:=h
inductive Nm:J->J->Prop
 |i {τ}:Nm τ τ
 |n {α:Type} [ag α] {a b:α}:some a=some b->Nm (.of a) (.of b)
def Nm.aC{τ σ:J}(h:Nm τ σ)(k:ba c E L o τ):ba c E L o σ:=by
 cases h with
 |i=>exact k
 |n e=>cases e;exact k
def ajX{τ:J}{j g:Nat}{p:Prop}{b want:Bool}(k:ae c ops Q rest ((aV,.cond (p∧b=want) τ)::E) L)(bu:o.guard=some (j,want):=by rfl)(aD:(ops[j]?).bind (·.dst)=some g:=by rfl)(ao:look E g=some (.cond p (.of b)):=by rfl)
 (h:p∧b=want->ba c E L o τ:=by intro hb;exact aC) (hd:o.dst=some aV:=by rfl) (aG:Nat.blt aV c.n=true:=by rfl):ae c ops Q (o::rest) E L:=.gg h bu aD ao hd aG k
def ajY{fn:Func}{Lo:Unit->aa aA}(hs:(Lo ()).Sublist L:=by repeat (first|exact wC _|exact qT _|apply List.Sublist.cons_cons|apply List.Sublist.cons))(aC:fn.results= #[]:=by rfl)(dC:c.ds=[]:=by rfl):
 aq c (bodyPost c.P fn (jo c.X c.bL c.iE (λ_:Unit=>.bR []) Lo)) .ret E L:=.lk () hs aC I dC
def ajZ{fn:Func}{r:ResultVar}{τ:J}{ρ:Unit->J}{Lo:Unit->aa aA}(hs:(Lo ()).Sublist L:=by repeat (first|exact wC _|exact qT _|apply List.Sublist.cons_cons|apply List.Sublist.cons))(aC:fn.results= #[r]:=by rfl)(h:pd c E L r τ:=by exact OM)(pU:ρ ()=τ:=by rfl)(dC:c.ds=[]:=by rfl):
 aq c (bodyPost c.P fn (jo c.X c.bL c.iE ρ Lo)) .ret E L:=.dV () hs aC pU h dC
def aj0{fn:Func}{r eS:ResultVar}{τ mY:J}{ρ:Unit->J}{Lo:Unit->aa aA}(hs:(Lo ()).Sublist L:=by repeat (first|exact wC _|exact qT _|apply List.Sublist.cons_cons|apply List.Sublist.cons))(aC:fn.results= #[r,eS]:=by rfl)(h:pd c E L r τ:=by exact OM)(ad:pd c E L eS mY:=by exact OM)(pU:ρ ()=.bR [τ,mY]:=by rfl)(dC:c.ds=[]:=by rfl):
 aq c (bodyPost c.P fn (jo c.X c.bL c.iE ρ Lo)) .ret E L:=.n5 () hs aC pU h ad dC
def alz{R:Type}{b:Bool}{A B:av R}{r:R}(h:cond b A B=some r):True:=trivial
def alA{R:Type}{b:Bool}{A B:ah R}{r:R->Prop}(h:cond b A B r):True:=trivial
def aj1(h:ae c ops Q (⟨some aV,.alloc t,ty,pos,af,none⟩::rest) E L):ae c ops Q (⟨some aV,.alloc t,ty,pos,af,none⟩::rest) E L:=h
def aj2(h:ae c ops Q (⟨some aV,.box t x,ty,pos,af,none⟩::rest) E L):ae c ops Q (⟨some aV,.box t x,ty,pos,af,none⟩::rest) E L:=h
def aj3(h:ae c ops Q (⟨none,.store t x y,ty,pos,af,none⟩::rest) E L):ae c ops Q (⟨none,.store t x y,ty,pos,af,none⟩::rest) E L:=h
def aj4{z:bO}{u v:Code}(h:ax c Q (.cond z u v) E L):ax c Q (.cond z u v) E L:=h
def EK{τ:J}(k:ae c ops Q rest ((aV,τ)::E) L)(bu:o.guard=none:=by rfl)(hd:o.dst=some aV:=by rfl)(h:ba c E L o τ:=by exact aC)(aG:Nat.blt aV c.n=true:=by rfl):ae c ops Q (o::rest) E L:=.v h bu hd aG k
def EL{τ:J}{j g:Nat}{b want:Bool}(k:ae c ops Q rest ((aV,.cond (b=want) τ)::E) L)(bu:o.guard=some (j,want):=by rfl)(aD:(ops[j]?).bind (·.dst)=some g:=by rfl)(ao:look E g=some (.of b):=by rfl)
 (h:b=want->ba c E L o τ:=by intro hb;exact aC) (hd:o.dst=some aV:=by rfl) (aG:Nat.blt aV c.n=true:=by rfl):ae c ops Q (o::rest) E L:=.g h bu aD ao hd aG k
def aj5{α:Type}[Fj:ag α]{z:α}[fP:cN c.P t z](k:∀p,ae c ops Q rest ((aV,.cV p)::E) (⟨some p,.var z⟩::L))(aG:Nat.blt aV c.n=true:=by rfl):ae c ops Q (⟨some aV,.alloc t,ty,pos,af,none⟩::rest) E L:=.alloc fP aG k
def aj6{α:Type}[ag α]{z:α}(k:∀p,ae c ops Q rest ((aV,.cV p)::E) (⟨some p,.var z⟩::L))(al:aL c E L x (.of z):=by exact eZ)(aG:Nat.blt aV c.n=true:=by rfl):ae c ops Q (⟨some aV,.box t x,ty,pos,af,none⟩::rest) E L:=.box al aG k
def aj7{p:Nat}{β γ:Type}[ag β][ag γ]{b:β}{v:γ}{l:aO β γ}[dx:bG c.P t γ](k:ae c ops Q rest E L')(al:aL c E L x (.lE p l):=by exact eZ)(hy:aL c E L y (.of v):=by first|exact eZ|exact look_nil)
 (ar:r4 L ⟨some p,.var b⟩ ⟨some p,.var (l.set b v)⟩ L':=by repeat (first|exact r4.z|apply r4.s)):ae c ops Q (⟨none,.store t x y,ty,pos,af,none⟩::rest) E L:=by
 obtain⟨j,h1,rfl⟩:=ar.get
 exact .store l dx al hy h1 I I k
def aj8{p:Nat}{β:Type}[ag β]{b v:β}[dx:bG c.P t β](k:ae c ops Q rest E L')(al:aL c E L x (.cV p):=by exact eZ)(hy:aL c E L y (.of v):=by first|exact eZ|exact look_nil)
 (ar:r4 L ⟨some p,.var b⟩ ⟨some p,.var v⟩ L':=by repeat (first|exact r4.z|apply r4.s)):ae c ops Q (⟨none,.store t x y,ty,pos,af,none⟩::rest) E L:=by
 obtain⟨j,h1,rfl⟩:=ar.get
 exact .store (aO.id β) dx al hy h1 I I k
def aj9{α R:Type}{a:α}{f:α->av R}{r:R}{G:Prop}(h:(some a).bind f=some r)(k:∀y,some a=some y->f y=some r->G):G:=k a I h
def Wi{α:Type}[ag α]{a gQ:α}{K:α->Prop}(k:∀y,some a=some y->K y->ae c ops Q rest ((aV,.of y)::E) L)(bu:o.guard=none:=by rfl)(hd:o.dst=some aV:=by rfl)(h:ba c E L o (.of gQ):=by exact aC)(e:gQ=a:=by with_reducible rfl)(aG:Nat.blt aV c.n=true:=by rfl):
 ∀y,some a=some y->K y->ae c ops Q (o::rest) E L:=λy hy hk=>by subst e;exact .v ((Nm.n hy).aC h) bu hd aG (k y hy hk)
def aka{α R:Type}{a:α}{f:α->ah R}{r:R->Prop}{G:Prop}(h:ah.bind (ah.of (some a)) f r)(k:∀y,some a=some y->f y r->G):G:=by obtain⟨y,h1,ad⟩:=h;exact k y h1 ad
def Xc{α R:Type}{m:av α}{f:α->av R}{r:R}(h:m.bind f=some r)(k:∀y,m=some y->f y=some r->ae c ops Q (o::rest) E L):ae c ops Q (o::rest) E L:=aB h k
def Wj{α R:Type}{m:av α}{f:α->ah R}{r:R->Prop}(h:ah.bind (ah.of m) f r)(k:∀y,m=some y->f y r->ae c ops Q (o::rest) E L):ae c ops Q (o::rest) E L:=ah.bB h k
def alB{u j p:Nat}{α:Type}[ag α]{x:α}[k:bG c.P ty α](h:look E u=some (.cV p):=by rfl)(ar:L[j]? =some ⟨some p,.var x⟩:=by first|exact At.g|exact ar _ _ At.g I):oM c E L (.cell u ty) (.of x):=V0 k h ar
def Pr{r:ResultVar}{τ:J}(h:oM c E L r τ:=by first|exact Ir I|exact alB):oM c E L r τ:=h
def akb{u j p:Nat}{α:Type}[ag α]{x:α}[k:bG c.P ty α](h:look E u=some (.cV p):=by rfl)(ar:L[j]? =some ⟨some p,.var x⟩:=by first|exact At.g|exact ar _ _ At.g I):pd c E L (.cell u ty) (.of x):=mh k h ar
def OM{r:ResultVar}{τ:J}(h:pd c E L r τ:=by first|exact c9 I|exact akb):pd c E L r τ:=h
def alC{fn:Func}{r:ResultVar}{τ:J}(aC:fn.results= #[r]:=by rfl)(h:oM c E L r τ:=by exact Pr)(dC:c.ds=[]:=by rfl):aq c (bodyPost c.P fn (sL c τ)) .ret E L:=.V1 aC h dC
def alD{fn:Func}{iR eS:ResultVar}{τ mY:J}(aC:fn.results= #[iR,eS]:=by rfl)(h:oM c E L iR τ:=by exact Pr)(ad:oM c E L eS mY:=by exact Pr)(dC:c.ds=[]:=by rfl):aq c (bodyPost c.P fn (sL c (.bR [τ,mY]))) .ret E L:=.ajb aC h ad dC
end
inductive wh(c:bW)(ops:Array Oper)(E:List (Nat×J))(L:List aA)(hs:List c0):List Oper->List (Option Nat)->List (List Nat)->List J->Prop
 |nil {os}:wh c ops E L hs os [] [] []
 |cons {o os s e9 d ds τ cB}:(∀L':List aA,(∀(j:Nat) (e:aA),L[j]? =some e->sE (λ_=>false) j 0 []=true->L'[j]? =some e)->jL c ops (jw (λ_ _=>none) hs E d) L' o τ)->wh c ops E L hs os e9 ds cB->wh c ops E L hs (o::os) (s::e9) (d::ds) (τ::cB)
def wh.h{c:bW}{ops:Array Oper}{E:aa (Nat×J)}{L:aa aA}{hs:aa c0}{os e9 ds cB}(h:wh c ops E L hs os e9 ds cB):vg c ops E L hs os e9 ds cB:=by
 induction h with
 |nil=>simp[vg]
 |cons h1 _ bN=>exact⟨h1,bN⟩
def yk(l:aa Oper):aa (aa Nat):=l.map λo=>o.after.toList.filterMap λe=>match e.ground with | .data=>some e.on| .guard=>some e.on|_=>none
section
variable{c:bW}{E:aa (Nat×J)}{L:aa aA}{ops:Array Oper}{Q:Exit->Act->bc->Prop}{o:Oper}
def I3{τ σ:J}(bu:o.guard=none:=by rfl)(h:ba c E L o τ:=by first|exact aC|exact na)(n:Nm τ σ:=by first|exact Nm.n (by with_reducible assumption)|exact Nm.i):jL c ops E L o σ:=jL.v (n.aC h) bu
def Xd{τ:J}{j g:Nat}{b want:Bool}(bu:o.guard=some (j,want):=by rfl)(aD:(ops[j]?).bind (·.dst)=some g:=by rfl)(ao:look E g=some (.of b):=by rfl)(h:b=want->ba c E L o τ:=by intro hb;first|exact aC|exact na):
 jL c ops E L o (.cond (b=want) τ):=jL.g h bu aD ao
def ax.e4{jH a:Nat}{l:aa Oper}{es:aa Nat}{cB:aa J}[k:Pq c.P](n:Nat)(bq:ae c l.toArray Q (l.drop n) (tT E (rg a n) (yk (l.take n)) cB) L)(a1:(l[0]?).bind (·.dst)=Option.some a:=by rfl)
 (ch:wh c l.toArray E L (oD (rg a n) (yk (l.take n)) cB) l (rg a n) (yk (l.take n)) cB:=by repeat (first|apply wh.nil|(apply wh.cons; (intro L' ar;first|exact I3|exact Xd))))
 (dC:kD (oD (rg a n) (yk (l.take n)) cB)=Aw (rg a n) (yk (l.take n)):=by rfl) (ja:E.map (·.1)=es:=by rfl) (ec:Gv.pK l.toArray n (Aw (rg a n) (yk (l.take n))) es=true:=by kernel_rfl) (hs:AY (l.take n) (rg a n) c.n=true:=by rfl):ax c Q (.region jH l.toArray true) E L:=
 .lB k.m n (rg a n) (yk (l.take n)) cB ch.h bq dC ja ec hs
end
def SD{up:aa Nat}{i:Nat}{hd:Nat->Hid}{x:Hid}:gw up i (lx hd i x) i=x:=by
 unfold gw lx;simp
def rA(s:Nat)(up:aa Nat)(j i:Nat){α:Type}[ag α](z:α):c0:=⟨some s,up,[j],[j],λhd=>J.cV ((hd i 0).getD 0),λhd _=>bb ((hd i 0).getD 0) z⟩
inductive Jc(c:bW)(E:List (Nat×J))(L:List aA)(t:TypeId)(x y:Operand)(j:Nat)(e:aA):Prop
 |mk {p:Nat} {β γ:Type} [ag β] [ag γ] {b:β} {v:γ} (l:aO β γ):bG c.P t γ->aL c E L x (.lE p l)->aL c E L y (.of v)->L[j]? =some ⟨some p,.var b⟩->⟨some p,.var (l.set b v)⟩=e->Jc c E L t x y j e
 |z {p:Nat} {β:Type} [ag β] {b v:β}:bG c.P t β->aL c E L x (.cV p)->aL c E L y (.of v)->L[j]? =some ⟨some p,.var b⟩->⟨some p,.var v⟩=e->Jc c E L t x y j e
section
variable{c:bW}{E:aa (Nat×J)}{L:aa aA}{ops:Array Oper}{Q:Exit->Act->bc->Prop}{o:Oper}{hs:aa c0}{np i aV:Nat}{up rd:aa Nat}{t ty:bo}{pos:String}{af:Array Edge}{x y:bO}
def sz{p j:Nat}{β:Type}[ag β]{b v:β}{e:aA}[k:bG c.P t β](al:aL c E L x (.cV p):=by exact eZ)(hy:aL c E L y (.of v):=by first|exact eZ|exact look_nil)(h:L[j]? =some ⟨some p,.var b⟩:=by exact ar _ _ I I)(he:⟨some p,.var v⟩=e:=by first|rfl|exact anU (by assumption)):Jc c E L t x y j e:=.z k al hy h he
inductive Bg(c:bW)(E:List (Nat×J))(L:List aA)(o:Oper)(σ:J):Prop
 |mk {τ:J}:ba c E L o τ->Nm τ σ->Bg c E L o σ
def Bg.h{σ:J}(h:Bg c E L o σ):ba c E L o σ:=by cases h with |mk h n=>exact n.aC h
def aG{τ σ:J}(h:ba c E L o τ:=by first|exact aC|exact na)(n:Nm τ σ:=by first|exact Nm.n (by with_reducible assumption)|exact Nm.i):Bg c E L o σ:=.mk h n
def Xe{σ:J}(h:∀(hd:Nat->Hid) (E':aa (Nat×J)) (L':aa aA),(∀t τ,look (jw hd hs E up) t=some τ->look E' t=some τ)->(∀j e,(fH (λ_=>true) hd 0 (hs.take i) L)[j]? =some e->rd.contains j=true->L'[j]? =some e)->(∀{β:Type} [ag β] (p:Nat) (b:β) {j:Nat},(fH (λ_=>true) hd 0 (hs.take i) L)[j]? =some ⟨some p,.var b⟩->yj L' p b)->L'.drop np=L.drop np->Bg c E' L' o σ:=by intro hd E' L' aK ar rV cb;exact aG)
 (bu:o.guard=none:=by rfl) (hd:o.dst=some aV:=by rfl) (aG:Nat.blt aV c.n=true:=by rfl):ve c ops Q hs E L np i o (aM aV up rd σ):=
 λa b ic d e f=>ae.v (h a b ic d e (λ_ _ _ _=>trivial) f).h bu hd aG (ae.nil (aq.fin (λ_=>none) I I))
def Xf{τ:J}{j g:Nat}{b want:Bool}(bu:o.guard=some (j,want):=by rfl)(aD:(ops[j]?).bind (·.dst)=some g:=by rfl)(ao:∀hd,look (jw hd hs E up) g=some (.of b):=by intro hd;rfl)
 (h:∀(hd:Nat->Hid) (E':aa (Nat×J)) (L':aa aA),(∀t τ,look (jw hd hs E up) t=some τ->look E' t=some τ)->(∀j e,(fH (λ_=>true) hd 0 (hs.take i) L)[j]? =some e->rd.contains j=true->L'[j]? =some e)->(∀{β:Type} [ag β] (p:Nat) (b:β) {j:Nat},(fH (λ_=>true) hd 0 (hs.take i) L)[j]? =some ⟨some p,.var b⟩->yj L' p b)->L'.drop np=L.drop np->b=want->Bg c E' L' o τ:=by intro hd E' L' aK ar rV cb hb;exact aG)
 (hd:o.dst=some aV:=by rfl) (aG:Nat.blt aV c.n=true:=by rfl):ve c ops Q hs E L np i o (aM aV up rd (.cond (b=want) τ)):=
 λa b' ic d e f=>ae.g (λz=>(h a b' ic d e (λ_ _ _ _=>trivial) f z).h) bu aD (d _ _ (ao a)) hd aG (ae.nil (aq.fin (λ_=>none) I I))
def Xg{α:Type}[Fj:ag α]{z:α}[fP:cN c.P t z]{s j:Nat}(aD:∀hd,(fH (λ_=>true) hd 0 (hs.take i) L)[j]? =some ⟨none,.dead⟩:=by intro hd;rfl)(aG:Nat.blt s c.n=true:=by rfl):ve c ops Q hs E L np i ⟨some s,.alloc t,ty,pos,af,none⟩ (rA s up j i z):=
 λhd E' L' aK ar cb=>.alloc fP aG λp=>.nil (.place j (ar j _ (aD hd) (by simp[rA])) (.fin (fe [some p]) (by simp[rA,pN,SD,fe]) (by simp[rA,nC,SD,fe])))
def dst{j:Nat}{e:(Nat->Hid)->aA}(h:∀(hd:Nat->Hid) (E':aa (Nat×J)) (L':aa aA),(∀t τ,look (jw hd hs E up) t=some τ->look E' t=some τ)->(∀k e,(fH (λ_=>true) hd 0 (hs.take i) L)[k]? =some e->[j].contains k=true->L'[k]? =some e)->L'.drop np=L.drop np->Jc c E' L' t x y j (e (gw up i (lx hd i λ_=>none))):=by intro hd E' L' aK ar cb;first|exact anV|exact sz):
 ve c ops Q hs E L np i ⟨none,.store t x y,ty,pos,af,none⟩ (j5 up [j] [j] e):=λhd E' L' aK ar cb=>by
 cases h hd E' L' aK ar cb with
 |mk l dx al hy h1 ad=>exact .store l dx al hy h1 I I (.nil (.fin (λ_=>none) I (dF (L'.set j) ad)))
 |z dx al hy h1 ad=>exact .store (aO.id _) dx al hy h1 I I (.nil (.fin (λ_=>none) I (dF (L'.set j) ad)))
end
inductive r6(c:bW)(ops:Array Oper)(Q:Exit->Act->World->Prop)(hs:List c0)(E:List (Nat×J))(L:List aA)(np:Nat):Nat->List Oper->List c0->Prop
 |nil {i}:r6 c ops Q hs E L np i [] []
 |cons {i o os h r}:ve c ops Q hs E L np i o h->r6 c ops Q hs E L np (i+1) os r->r6 c ops Q hs E L np i (o::os) (h::r)
def r6.h{c:bW}{ops:Array Oper}{Q:Exit->Act->bc->Prop}{hs:aa c0}{E:aa (Nat×J)}{L:aa aA}{np i:Nat}{os r}(h:r6 c ops Q hs E L np i os r):oX c ops Q hs E L np i os r:=by
 induction h with
 |nil=>simp[oX]
 |cons h1 _ bN=>exact⟨h1,bN⟩
section
variable{c:bW}{E:aa (Nat×J)}{L:aa aA}{Q:Exit->Act->bc->Prop}{jH:Nat}{l:aa Oper}{ds:aa (av Nat×aa Nat×aa Nat×aa Nat)}{es:aa Nat}[Ps:Pq c.P](np:Nat)(hs:aa c0)
include Ps
def ax.A7(bq:∀hd,aq c Q .normal (hc (λ_=>true) hd E 0 hs) (fH (λ_=>true) hd 0 hs L))(ch:r6 c l.toArray Q hs E L np 0 l hs:=by repeat (first|apply r6.nil|(apply r6.cons;first|exact Xg|exact dst|exact Xe|exact Xf)))
 (dC:kD hs=ds:=by rfl) (ja:E.map (·.1)=es:=by rfl) (ec:Gv.pK l.toArray l.length ds es=true:=by kernel_rfl) (hw:(ds.all λd=>d.2.2.2.all λj=>Nat.blt j np)=true:=by kernel_rfl):ax c Q (.region jH l.toArray true) E L:=.XL np Ps.m hs es ch.h bq dC ja ec hw
def ax.bU{K:Prop}(k:K)(bq:∀hd,aq c Q .normal (hc (λ_=>true) hd E 0 hs) (fH (λ_=>true) hd 0 hs L))(ch:r3 K->r6 c l.toArray Q hs E L np 0 l hs:=by intro k;repeat (first|apply r6.nil|(apply r6.cons;first|exact Xg|exact dst|exact Xe|exact Xf|exact k.k.1|exact k.k.2.1|exact k.k.2.2.1|exact k.k.2.2.2.1|exact k.k.2.2.2.2.1|exact k.k.2.2.2.2.2.1|exact k.k.2.2.2.2.2.2.1|exact k.k.2.2.2.2.2.2.2.1|exact k.k.2.2.2.2.2.2.2.2.1|exact k.k.2.2.2.2.2.2.2.2.2.1|exact k.k.2.2.2.2.2.2.2.2.2.2.1|exact k.k.2.2.2.2.2.2.2.2.2.2.2.1|exact k.k.2.2.2.2.2.2.2.2.2.2.2.2.1|exact k.k.2.2.2.2.2.2.2.2.2.2.2.2.2.1)))
 (dC:kD hs=ds:=by rfl) (ja:E.map (·.1)=es:=by rfl) (ec:Gv.pK l.toArray l.length ds es=true:=by kernel_rfl) (hw:(ds.all λd=>d.2.2.2.all λj=>Nat.blt j np)=true:=by kernel_rfl):ax c Q (.region jH l.toArray true) E L:=.XL np Ps.m hs es (ch ⟨k⟩).h bq dC ja ec hw
end
section
variable{c:bW}{E:aa (Nat×J)}{L:aa aA}{l:aa Oper}{Q:Exit->Act->bc->Prop}
inductive wi(c:bW)(l:List Oper)(E:List (Nat×J))(L:List aA)(fs:List (Nat×Nat×J)):List Nat->Prop
 |nil:wi c l E L fs []
 |cons {i o τ r}:l[i]? =some o->xR i fs=some τ->jL c l.toArray (kL (λj=>dS j (js o)) E fs) L o τ->wi c l E L fs r->wi c l E L fs (i::r)
def wi.h{fs:aa (Nat×Nat×J)}{nl:aa Nat}(h:wi c l E L fs nl):wa c l E L fs nl:=by
 induction h with
 |nil=>trivial
 |cons h1 ad ay _ bN=>exact⟨by rw[h1,ad];exact ay,bN⟩
def fM.md{rZ:Nat}{dm dG:aa Nat}{fs:aa (Nat×Nat×J)}{ks:aa (Nat×Nat)}{es:aa Nat}(ng nl el:aa Nat)(aK:wb c l Q dm dG fs E L el)(ar:wi c l E L fs nl:=by repeat (first|apply wi.nil|(apply wi.cons;rfl;rfl; (first|exact I3|exact Xd))))(aG:dm.all (λk=>dS k dG)=false:=by rfl)
 (fz:fs.map (λx=>(x.1,x.2.1))=ks:=by rfl) (ja:E.map (·.1)=es:=by rfl) (EH:c.n=rZ:=by rfl) (ec:Ja l rZ dm dG ng nl el ks es=true:=by kernel_rfl):fM c l Q dm dG fs E L:=.mid ng nl el ar.h aK aG fz ja EH ec
end
def go{G:Prop} (h:G:=by
 repeat (first
 | (change ae _ _ _ (_::_) _ _
    first
    |((with_reducible refine aj9 h ?_);refine Wi ?_; (try clear h);intro dk Pt h;have yD:=True.intro)|((with_reducible refine aka h ?_);refine Wi ?_; (try clear h);intro dk Pt h;have yD:=True.intro)
    |(apply aj1;refine aj5 ?_;intro dk)|(apply aj2;refine aj6 ?_;intro dk)
    |(apply aj3;first|refine aj7 ?_|refine aj8 ?_)
    |(apply Wg; (first|(with_reducible refine Xc h ?_)|(with_reducible refine Wj h ?_)); (try clear h); (intro dk Pt h;have yD:=True.intro);first|(refine EK ?_ (h:=by exact na);change ae _ _ _ _ ((_,J.cV dk)::_) _)|(refine EL ?_ (h:=by intro hb;exact na);change ae _ _ _ _ ((_,J.cond _ (J.cV dk))::_) _))
    |((first|apply Wg|apply Wh);first|refine EK ?_ (h:=by exact na)|refine EL ?_ (h:=by intro hb;exact na))
    |((first|apply ajV|apply ajW|apply ahc|apply Wh); (first|(with_reducible refine Xc h ?_)|(with_reducible refine Wj h ?_)); (try clear h); (intro dk Pt h;have yD:=True.intro);first|refine EK ?_ (h:=by exact na)|refine EL ?_ (h:=by intro hb;exact na))
    |refine EK ?_|refine EL ?_|refine ajX ?_|refine EK ?_ (h:=by exact na)|refine EL ?_ (h:=by intro hb;exact na))
 | (change ae _ _ _ [] _ _
    first|apply gB|apply h6|apply b0|apply ae.nil)
 | (change ax _ _ _ _ _
    first|apply cf|(apply aj4;first|((with_reducible have yD:=alz h);refine mU h ?_ ?_ <;> ((try clear h);intro h))|((with_reducible have yD:=alA h);refine D0 h ?_ ?_ <;> ((try clear h);intro h)))|apply kY|apply ax.seq|apply ax.block|apply ax.fc|apply ax.ret|apply ax.exit|apply ax.skip)
 | (change aq _ _ _ _ _
    first|apply aq.next|apply aq.ret|apply aq.exit|apply aq.sI|apply aq.q6|apply aq.q7|refine aq.aep I ?_|(cases h;first|exact alC|exact alD|exact ajZ|exact aj0|exact ano|exact anp|exact ajY|exact lq () 0|exact lq () 1|exact lq () 2|exact lq () 3|exact kg () 0|exact kg () 1|exact kg () 2|exact kg () 3|exact eA 0 (hm ())|exact eA 1 (hm ())|exact eA 2 (hm ())))
 |((first|((guard_hyp yD); (clear yD);revert h)|skip); (repeat (revert dk));first|exact aW.k|exact bP.k|exact dc.k|exact eW.k|exact hP.k|exact Jn.k))):G:=h
def aP{G K:Prop}(k:K)(h:r3 K->G:=by intro aW;exact go):G:=h ⟨k⟩
def go2{G K eV:Prop}(k:K)(k':eV)(h:r3 K->r3 eV->G:=by intro aW bP;exact go):G:=h ⟨k⟩ ⟨k'⟩
def akF{G K eV pj:Prop}(k:K)(k':eV)(alE:pj)(h:r3 K->r3 eV->r3 pj->G:=by intro aW bP dc;exact go):G:=h ⟨k⟩ ⟨k'⟩ ⟨alE⟩
def akQ{G h9 eV pj XQ:Prop}(au:h9)(cD:eV)(gm:pj)(lD:XQ)(h:r3 h9->r3 eV->r3 pj->r3 XQ->G:=by intro aW bP dc eW;exact go):G:=h ⟨au⟩ ⟨cD⟩ ⟨gm⟩ ⟨lD⟩
structure jI(P:Program)(α:Type)where
 r:Option α
instance{P:Program}{α:Type}:Inhabited (jI P α):=⟨⟨none⟩⟩
instance{P:Program}{α:Type}[ag α]:ag (jI P α)where
 size:=1
 agg:=false
 rep A W cs x:=∃v,cs=[v]∧v.oneCell'=true∧∀r,x.r=some r->∃f fst cap,v=.func (.func f) fst cap∧bx P f∧∀cg W',Ext A W cg W'->(∀k∈cg,k<W'.heap.size)->
  Calls P f (fst++cap) W' λe rH=> ∃v,e=.returned v∧Fr [] W' rH∧(J.of r).holds cg rH v
 len h:=by obtain⟨v,rfl,_⟩:=h;rfl
 one h:=by
  obtain⟨v,rfl,h,_⟩:=h;intro u hu;rw[gG.1 hu];exact h
 flat _:=rfl
 mono e h:=let⟨v,h1,ad,ay⟩:=h
  ⟨v,h1,ad,λr aC=>let⟨f,fst,cap,aN,a6,bh⟩:=ay r aC; ⟨f,fst,cap,aN,a6,λcg W' e'=>bh cg W' (e.trans e')⟩⟩
instance{P:Program}{α:Type}[ag α]:aQ (jI P α):=⟨[.nilFunc],λ_ _=>⟨_,rfl,rfl,λr h=>by cases h⟩⟩
section
variable{c:bW}{E:aa (Nat×J)}{L:aa aA}{d:av Tmp}{ty:bo}{pos:String}{af:Array Edge}{g:av (Nat×Bool)}
def sA{α:Type}[ag α]{F:av α}{f:FuncId}{xs:aa bO}{τs:aa J}(bU:bx c.P f)(al:gZ c E L xs τs)(h:∀r,F=some r->cn c.P f τs (.of r)):
 ba c E L ⟨d,.makeFunc (.func f) #[] xs.toArray,ty,pos,af,g⟩ (.of (⟨F⟩:jI c.P α)):=.pure λa W s=>by
 refine⟨.func (.func f) #[] (xs.map a.eval).toArray,by simp[execOp,Instr.makeFunc],rfl,_,rfl,rfl,λr aC=>⟨f,#[],_,rfl,bU,λcg W' e eo=>?_⟩⟩
 have:=h r aC cg W' (xs.map a.eval) eo ((al.holds a W s).mono e)
 simpa using this
def S6{α:Type}[ag α]{XR:jI c.P α}{j6:bO}{ats:Array bo}{r:α}(aU:aL c E L j6 (.of XR))(h:XR.r=some r):
 ba c E L ⟨d,.call ⟨.value j6,#[],ats⟩,ty,pos,af,g⟩ (.of r):=λa W s=>by
 obtain⟨h1,v,ad,ay,aN⟩:=aU a W s
 obtain⟨f,fst,cap,a6,bU,bh⟩:=aN r h
 have a7:a.eval j6=v:=mM h1 ad
 refine .tt (f:=f) (args:=fst++cap) (W':=W) ?_ (bh _ W (Ext.refl _ _) s.C6)
 simp[execOp,resolve,Deferred.ofValue,a7,a6,invoke,bU.run]
def HX{x y:bO}{t t2:bo}{u v:ByteArray}(hu:c.P.underlying t=some .string)(al:aL c E L x (.of u))(hy:aL c E L y (.of v)):ba c E L ⟨d,.binOp .eql t x y t2,ty,pos,af,g⟩ (.of (u.data.toList==v.data.toList)):=.pure λa W s=>by
 have h1:a.eval x=.string u:=HI.1 (al a W s);have ad:a.eval y=.string v:=HI.1 (hy a W s);exact⟨.bool (u.data.toList==v.data.toList),by simp[execOp,eqGuard,binOp,h1,ad,Op.stringOp,ByteArray.toList_eq],of_bool.2 I⟩
end
def vU(f:FuncId)(us:aa bd):Deferred:= {target:=.fn (.func f) us.toArray,args:= #[]}
section
variable{c:bW}{E:aa (Nat×J)}{L:aa aA}{ops:Array Oper}{Q:Exit->Act->bc->Prop}{d:av Tmp}{ty:bo}{pos:String}{af:Array Edge}
def ae.defer{rest:aa Oper}{j6:bO}{ats:Array bo}{f:FuncId}{us:aa bd}(ak:c.rd=Option.none)(aU:aL c E L j6 (.of (⟨f,Option.some us⟩:Raw)))
 (k:ae {c with ds:=vU f us::c.ds} ops Q rest E L):ae c ops Q (⟨Option.none,.defer ⟨.value j6,#[],ats⟩,ty,pos,af,Option.none⟩::rest) E L:=λa W s=>by
 have h1:a.eval j6=.func (.func f) #[] us.toArray:=MF.1 (aU a W s)
 refine wpListIn_plain I λK pt=>⟨λ_ _=>trivial,?_⟩
 have aC:((⟨Option.none,.defer ⟨.value j6,#[],ats⟩,ty,pos,af,Option.none⟩:Oper).semAt c.F.round a.eval).run c.P W=.ok (.defer (vU f us)) W:=by
  show((⟨Option.none,.defer ⟨.value j6,#[],ats⟩,ty,pos,af,Option.none⟩:Oper).semAt c.rd a.eval).run c.P W=_;rw[ak,Oper.semAt_none];simp[execOp,resolve,Deferred.ofValue,h1,vU]
 rw[aC,Oper.uponIn_defer]
 refine pt _ _ (k _ _ ?_)
 exact {defers:=by show vU f us::a.defers=vU f us::c.ds;rw[s.defers],size:=s.size,env:=s.env,cW:=s.cW,own:=s.own,nodup:=s.nodup,lt:=s.lt,fa:=s.fa,dK:=s.dK}
end
def zX(P:Program)(f:FuncId)(τs:aa J)(Lin:aa aA){δ:Type}(Lo:δ->aa aA):Prop:=
 ∀ (A:aa Nat) (W:bc) (vs:aa bd),(∀k∈A,k<W.heap.size∧k∉ks Lin)->(ks Lin).Nodup->(∀k∈ks Lin,k<W.heap.size)->(∀e∈Lin,e.ok (ks Lin++A) W)->fK (ks Lin++A) W τs vs->
   ∀u,CallsDIn Fence.wide 8 P f vs.toArray u W λe XS W'=>XS=u∧jo (ks Lin) A W (λ_:δ=>J.bR []) Lo e W'
def zX.of{P:Program}{f:FuncId}{fn:Func}{code:Code}{n:Nat}{τs:aa J}{Lin:aa aA}{δ:Type}{Lo:δ->aa aA}(aU:P.funcs[f]? =some fn)(hb:fn.body=some code)(aG:fn.ntmps=n)(hlen:Nat.ble τs.length n=true)
 (h:∀W A,ax ⟨P,n,W,ks Lin,A,none,[]⟩ (bodyPost P fn (jo (ks Lin) A W (λ_:δ=>J.bR []) Lo)) code (params 0 τs) Lin):zX P f τs Lin Lo:=by
 intro A W vs eo jv bS gN a7 u
 refine callsDIn_of_wp aU hb q5 (wpIn_wide.2 (wpIn_wide.1 (h W A _ _ ?_)))
 have ao:=a7.length
 have hle:τs.length<=n:=ni hlen
 exact
 {defers:=rfl
  size:=by simp[aG,ao];omega
  env:=λt τ jG=>by
   obtain⟨_,v,ad,ay⟩:=w4 a7 0 t τ jG;refine⟨v,?_,ay⟩;have bS:t<vs.length:=(fY.1 ad).1;rw[tb (by simpa using bS)];simpa using ad
  cW:=.refl _ _
  own:=gN
  nodup:=jv
  lt:=bS
  fa:=λk hk _=>hk
  dK:=eo}
def aq.akc{c:bW}{E:aa (Nat×J)}{fn:Func}{R:Ending->bc->Prop}{f:FuncId}{us:aa bd}{τs:aa J}{Lin Lr:aa aA}{δ:Type}{Lo:δ->aa aA}(dC:c.ds=[vU f us])(bU:bx c.P f)
 (h:zX c.P f τs Lin Lo) (al:∀A W,fK A W τs us) (k:∀q,aq {c with ds:=[]} (bodyPost c.P fn R) .ret E (Lo q++Lr)):aq c (bodyPostM Fence.wide 9 c.P fn R) .ret E (Lin++Lr):=λa W s=>by
 have kd:=s.nodup
 rw[ef]at kd
 obtain⟨lT,pV,oB⟩:=nS.1 kd
 have gA:Ext (ks (Lin++Lr)++c.bL) W (ks Lin++(ks Lr++c.bL)) W:=.drop λk hm=>by
  rw[ef];simp only[bX]at hm⊢;rcases hm with hm|hm|hm
  ·exact .inl (.inl hm)
  ·exact .inl (.inr hm)
  exact .inr hm
 have eo:∀k∈ks Lr++c.bL,k<W.heap.size∧k∉ks Lin:=λk hm=>by
  rcases bX.1 hm with hm|hm
  ·exact⟨s.lt k (by rw[ef];exact bX.2 (.inr hm)),λh=>oB k h k hm I⟩
  obtain⟨h1,ad⟩:=s.dK k hm;exact⟨h1,λh=>ad (by rw[ef];exact bX.2 (.inl h))⟩
 have bS:∀k∈ks Lin,k<W.heap.size:=λk hm=>s.lt k (by rw[ef];exact bX.2 (.inl hm))
 show LeavesInM Fence.wide 9 c.P fn a.tmps R a.defers .returning W
 rw[s.defers,dC]
 refine⟨by simp,.inr ⟨(λh=>by cases h),Fn.func f,us.toArray,f,us.toArray,rfl,?_,λ_ _=>trivial,?_⟩⟩
 ·simp[vU,invoke,bU.run]
 refine(h (ks Lr++c.bL) W us eo lT bS (λe he=>aA.sk (s.own e (bX.2 (.inl he))) gA λ_ _=>rfl) (al _ _) .returning).mono λe XS W' ⟨hu,v,q,he,aU,h1,ad,ay,aN⟩=>?_
 subst he hu
 have s2:=s.after aU h1 ad ay
 have Pj:bA {c with ds:=[]} E (Lo q++Lr) {a with defers:=[]} W':=
  {defers:=rfl,size:=s2.size,env:=s2.env,cW:=s2.cW,own:=s2.own,nodup:=s2.nodup,lt:=s2.lt,fa:=s2.fa,dK:=s2.dK}
 obtain⟨_,Bc,a6,bh⟩:=k q _ _ Pj
 exact⟨Bc,a6,bh⟩
def aq.M7{c:bW}{E:aa (Nat×J)}{L:aa aA}{fn:Func}{R:Ending->bc->Prop}{bt:Type}[di bt]{hp:aE bt}{f:FuncId}{us:aa bd}{Lin Lr:aa aA}{δ:Type}{Lo:δ->aa aA}{hq:δ->aE bt}(n m:Nat)(ar:L.drop n=aY hp)(dC:c.ds=[vU f us])(bU:bx c.P f)
 (h:zX c.P f (us.map J.eq) (Lin++aY hp) (λd=>Lo d++aY (hq d))) (h1:(L.take n).take m=Lin) (ad:(L.take n).drop m=Lr) (k:∀q,aq {c with ds:=[]} (bodyPost c.P fn R) .ret E ((Lo q++Lr)++aY (hq q))):aq c (bodyPostM Fence.wide 9 c.P fn R) .ret E L:=by
 have e:L=(Lin++Lr)++aY hp:=by rw[<-h1,<-ad,fw,<-ar,fw]
 subst e
 have bP:aq c (bodyPostM Fence.wide 9 c.P fn R) .ret E ((Lin++aY hp)++Lr):=aq.akc dC bU h (λ_ _=>.Nn) λq=>λa W s=>k q a W (s.perm la.symm)
 exact λa W s=>bP a W (s.perm la)
instance:Inhabited dL:=⟨⟨.slice none 0 0⟩⟩
def L0{c:bW}{E:aa (Nat×J)}{L:aa aA}{x:bO}{u:bd}(h:aL c E L x (.of (⟨u⟩:dL))):aL c E L x (.eq u):=λa W s=>(vl.1 (h a W s)).1
def ac2{c:bW}{E:aa (Nat×J)}{L:aa aA}{x:bO}{u:bd}(h:aL c E L x (.eq u))(aS:u.oneCell'=true):aL c E L x (.of (⟨u⟩:dL)):=λa W s=>vl.2 ⟨h a W s,aS⟩
def ae.NG{c:bW}{E:aa (Nat×J)}{L:aa aA}{ops:Array Oper}{Q:Exit->Act->bc->Prop}{ty:bo}{pos:String}{af:Array Edge}{x:bO}{rest:aa Oper}{aV:Nat}{name:String}{ats:Array bo}{τ ρ:J}(h:lg c.P name τ [] [] (λ_:Unit=>ρ) (λ_=>[]))
 (al:aL c E L x τ) (aG:Nat.blt aV c.n=true) (k:ae c ops Q rest ((aV,ρ)::E) L):ae c ops Q (⟨some aV,.call ⟨.invoke x name,#[],ats⟩,ty,pos,af,none⟩::rest) E L:=λa W s=>
 hl I (LN (xs:=[]) (Lin:=[]) (Lr:=L) h s (.cons (al a W s) .nil)) λv W' ⟨_,b1,a7⟩=>k _ _ (b1.put (by simpa using aG) a7)
theorem bG.i{P:Program}{t:bo}{α:Type}[ag α]{d:TypeDesc}(hu:P.underlying t=some d)(a1:(match (motive:=TypeDesc->Bool) d with | .struct _| .array _ _=>true|_=>false)=ag.agg α:=by rfl)(hs:(P.info? t).map (·.size)=some (ag.size α):=by kernel_rfl):bG P t α:=bG.of a1 hu hs
theorem cN.i{P:Program}{t:bo}{α:Type}[ag α][Inhabited α][aQ α](h:(P.info? t).bind (·.zero)=some (Ix α):=by kernel_rfl):cN P t (default:α):=cN.of h
theorem bT.i{P:Program}{s f:Nat}{β γ:Type}[ag β][ag γ]{l:aO β γ}{fs:Array Field}{fd:Field}(hu:P.underlying s=some (.struct fs))(aU:fs[f]? =some fd)(dx:bG P fd.type γ)(aS:fd.offset=l.off:=by rfl)(hs:Nat.beq (ag.size γ) 0=false:=by rfl):bT P s f l:=⟨vJ.of hu aU aS dx hs⟩
def bx.i{P:Program}{f:FuncId}{fn:Func}(h:P.funcs[f]? =some fn)(ad:fn.body.isNone=false:=by rfl)(ay:(fn.name== "runtime.NumGoroutine")=false:=by kernel_rfl):bx P f:=⟨fn,h,ad,ay⟩
theorem ff.i{P:Program}{t:bo}{pl:Array (Nat×Nat)}{fs:Array Field}(h:P.underlying t=some (.struct fs))(ad:fs.all (λf=>(P.info? f.type).isSome)=true:=by kernel_rfl)(ay:(fs.map λf=>(f.offset,P.cellsOf f.type))=pl:=by kernel_rfl):ff P t pl:=⟨fs,h,ad,ay⟩
end Gv
