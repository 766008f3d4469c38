/-
  The library of the decompiler, as far as it is needed here. Conditions: none.
-/
import Derived.MapKept
import Derived.Maps.RangeRun
import Derived.Shelf.SlSortCmp.NoneTotal
import Derived.Lib.QuietBelow
import Derived.Test.YtppgfphgdogpeaaGreatSl0
set_option linter.defProp false
set_option linter.unusedVariables false
set_option linter.unusedSimpArgs false
namespace Gv
open Go
section
variable{c:cP}{E:aa (Nat×J)}{L:aa aK}{ops:Array Oper}{Q:Exit->Act->bo->Prop}{rest:aa Oper}{o:Oper}{bb:Nat}
variable{ty:bJ}{pos:String}{af:Array Edge}{x y:cw}{t t2:bJ}
def b3{id:Nat}{l:aa Oper}{y:Code}(h:ae c l.toArray (Exit.then (c.wp y Q) Q) l E L):ay c Q (.seq (.region id l.toArray false) y) E L:=.seq (.fc h)
def ca{y:Code}(h:ay c Q y E L):ae c ops (Exit.then (c.wp y Q) Q) [] E L:=.nil (.next h)
def gW{y z:Code}(h:ay c (Exit.then (c.wp z Q) Q) y E L):ae c ops (Exit.then (c.wp (Code.seq y z) Q) Q) [] E L:=.nil (.next (.seq h))
def h5{id:Nat}{l:aa Oper}{z:Code}(h:ae c l.toArray (Exit.then (c.wp z Q) Q) l E L):ae c ops (Exit.then (c.wp (Code.seq (.region id l.toArray false) z) Q) Q) [] E L:=.nil (.next (.seq (.fc h)))
def k9{y:Code}(h:ay c Q y E L):ay c (Exit.then (c.wp y Q) Q) .skip E L:=.skip (.next h)
def aA{α β:Type}{m:aE α}{f:α->aE β}{r:β}{P:Prop}(h:m.bind f=some r)(k:∀y,m=some y->f y=some r->P):P:=(bind_some h).elim λy h=>k y h.1 h.2
def j8{R:Type}{b:Bool}{A B:aE R}{r:R}{y z:Code}(h:cond b A B=some r)(bD:A=some r->ay c Q y E L)(aW:B=some r->ay c Q z E L)
 (an:aU c E L x (.of b):=by first|exact ah I|exact iL _):ay c Q (.cond x y z) E L:=
 .cond an (λhb=>bD (fu hb h)) (λhb=>aW (fv hb h))
def bA{τ:J}(h:bj c E L o τ)(k:ae c ops Q rest ((bb,τ)::E) L)(bu:o.guard=none:=by rfl)(hd:o.dst=some bb:=by rfl)(aM:Nat.blt bb c.n=true:=by rfl):ae c ops Q (o::rest) E L:=.v h bu hd aM k
def cD{τ:J}(k:ae c ops Q rest ((bb,τ)::E) L)(au:aU c E L x τ:=by first|exact ah I|exact de _|exact iL _|exact iN _)(aM:Nat.blt bb c.n=true:=by rfl):
 ae c ops Q (⟨some bb,.move x,ty,pos,af,none⟩::rest) E L:=.v (cY au) I I aM k
def dc{τ:J}(k:ae c ops Q rest ((bb,τ)::E) L)(au:aU c E L x τ:=by first|exact ah I|exact de _|exact iL _|exact iN _)(aM:Nat.blt bb c.n=true:=by rfl):
 ae c ops Q (⟨some bb,.assign x,ty,pos,af,none⟩::rest) E L:=.v (dm au) I I aM k
def dA{σ τ:J}(h:aU c E L x σ->bj c E L o τ)(k:ae c ops Q rest ((bb,τ)::E) L)(au:aU c E L x σ:=by first|exact ah I|exact de _|exact iL _|exact iN _)
 (bu:o.guard=none:=by rfl) (hd:o.dst=some bb:=by rfl) (aM:Nat.blt bb c.n=true:=by rfl):ae c ops Q (o::rest) E L:=.v (h au) bu hd aM k
def dO{σ pz τ:J}(h:aU c E L x σ->aU c E L y pz->bj c E L o τ)(k:ae c ops Q rest ((bb,τ)::E) L)(au:aU c E L x σ:=by first|exact ah I|exact de _|exact iL _|exact iN _)
 (aR:aU c E L y pz:=by first|exact ah I|exact de _|exact iL _|exact iN _)
 (bu:o.guard=none:=by rfl) (hd:o.dst=some bb:=by rfl) (aM:Nat.blt bb c.n=true:=by rfl):ae c ops Q (o::rest) E L:=.v (h au aR) bu hd aM k
def qf{α:Type}[ak α]{a b:α}(e:some a=some b)(h:bj c E L o (.of a))(k:ae c ops Q rest ((bb,.of b)::E) L)(bu:o.guard=none:=by rfl)(hd:o.dst=some bb:=by rfl)(aM:Nat.blt bb c.n=true:=by rfl):
 ae c ops Q (o::rest) E L:=.v (h.qe (dt e)) bu hd aM k
def yX{i:Nat}{τs:aa J}{τ:J}(k:ae c ops Q rest ((bb,τ)::E) L)(au:aU c E L x (.bW τs):=by exact ah I)(aq:τs[i]? =some τ:=by rfl)(aM:Nat.blt bb c.n=true:=by rfl):
 ae c ops Q (⟨some bb,.extract x i,ty,pos,af,none⟩::rest) E L:=.v (aax au aq) I I aM k
def mW{p o:Nat}{β γ:Type}[ak β][ak γ]{b:β}(j:Nat)(l:aP β γ)(ej:bU c.P t γ)(k:ae c ops Q rest ((bb,.of (l.get b))::E) L)(au:aU c E L x (.eq (.pointer (some ⟨p,o,none⟩))):=by exact ah I)
 (ar:L[j]? =some ⟨some p,.var b⟩:=by rfl) (a6:o=l.off:=by rfl) (aM:Nat.blt bb c.n=true:=by rfl):ae c ops Q (⟨some bb,.load t x,ty,pos,af,none⟩::rest) E L:=.v (hv l ej au ar a6 I) I I aM k
def nC{p:Nat}{β:Type}[ak β]{b:β}(j:Nat)(ej:bU c.P t β)(k:ae c ops Q rest ((bb,.of b)::E) L)(au:aU c E L x (.eq (.pointer (some ⟨p,0,none⟩))):=by exact ah I)
 (ar:L[j]? =some ⟨some p,.var b⟩:=by rfl) (aM:Nat.blt bb c.n=true:=by rfl):ae c ops Q (⟨some bb,.load t x,ty,pos,af,none⟩::rest) E L:=.v (hv (aP.id β) ej au ar I I) I I aM k
def acw{p o:Nat}{β γ:Type}[ak β][ak γ]{b:β}{os:aa (Nat×br)}(j:Nat)(l:aP β γ)(ej:bU c.P t γ)(k:ae c ops Q rest ((bb,.of (l.get b))::E) L)(au:aU c E L x (.eq (.pointer (some ⟨p,o,none⟩))):=by exact ah I)
 (ar:L[j]? =some ⟨some p,.cu b os⟩:=by rfl) (a6:o=l.off:=by rfl) (aY:vv os l.off (ak.size γ)=true:=by rfl) (aM:Nat.blt bb c.n=true:=by rfl):ae c ops Q (⟨some bb,.load t x,ty,pos,af,none⟩::rest) E L:=.v (HW l ej au ar a6 I aY) I I aM k
def yQ{α:Type}[ak α][Inhabited α]{xs:aa α}{e:bJ}{i:Int}{j:Nat}(hk:idx xs.length i=some j)(hu:c.P.underlying t=some (.slice e))(e1:bU c.P e α)(k:ae c ops Q rest ((bb,.ptr (ax xs j))::E) L)
 (au:aU c E L x (.of xs):=by exact ah I) (aR:aU c E L y (.of i):=by first|exact ah I|exact de _) (aM:Nat.blt bb c.n=true:=by rfl):
 ae c ops Q (⟨some bb,.indexAddr t x y,ty,pos,af,none⟩::rest) E L:=.v (se hu e1 au aR (cN hk)) I I aM k
def Ey{b e:Bool}{p:Prop}(k:ae c ops Q rest ((bb,.of (b||e))::E) L)(au:aU c E L x (.of b):=by exact ah I)(aR:aU c E L y (.cond p (.of e)):=by exact ah I)(hp:b=false->p:=by exact λh=>h)(aM:Nat.blt bb c.n=true:=by rfl):
 ae c ops Q (⟨some bb,.pick x (.const (.bool true)) y,ty,pos,af,none⟩::rest) E L:=.v (tp au aR hp) I I aM k
def Ev{b e:Bool}{p:Prop}(k:ae c ops Q rest ((bb,.of (b&&e))::E) L)(au:aU c E L x (.of b):=by exact ah I)(aR:aU c E L y (.cond p (.of e)):=by exact ah I)(hp:b=true->p:=by exact λh=>h)(aM:Nat.blt bb c.n=true:=by rfl):
 ae c ops Q (⟨some bb,.pick x y (.const (.bool false)),ty,pos,af,none⟩::rest) E L:=.v (wT au aR hp) I I aM k
def iX{τ:J}{j g:Nat}{b want:Bool}(h:b=want->bj c E L o τ)(k:ae c ops Q rest ((bb,.cond (b=want) τ)::E) L)(bu:o.guard=some (j,want):=by rfl)(aC:(ops[j]?).bind (·.dst)=some g:=by rfl)(an:look E g=some (.of b):=by rfl)
 (hd:o.dst=some bb:=by rfl) (aM:Nat.blt bb c.n=true:=by rfl):ae c ops Q (o::rest) E L:=.g h bu aC an hd aM k
def hN{σ τ:J}{j g:Nat}{b want:Bool}(h:aU c E L x σ->bj c E L o τ)(k:ae c ops Q rest ((bb,.cond (b=want) τ)::E) L)
 (au:b=want->aU c E L x σ:=by first|exact λhb=>ck I hb|exact λ_=>ah I|exact λ_=>de _|exact λ_=>iL _)
 (bu:o.guard=some (j,want):=by rfl) (aC:(ops[j]?).bind (·.dst)=some g:=by rfl) (an:look E g=some (.of b):=by rfl)
 (hd:o.dst=some bb:=by rfl) (aM:Nat.blt bb c.n=true:=by rfl):ae c ops Q (o::rest) E L:=.g (λhb=>h (au hb)) bu aC an hd aM k
def Bo{σ pz τ:J}{j g:Nat}{b want:Bool}(h:aU c E L x σ->aU c E L y pz->bj c E L o τ)(k:ae c ops Q rest ((bb,.cond (b=want) τ)::E) L)
 (au:b=want->aU c E L x σ:=by first|exact λhb=>ck I hb|exact λ_=>ah I|exact λ_=>de _|exact λ_=>iL _)
 (aR:b=want->aU c E L y pz:=by first|exact λhb=>ck I hb|exact λ_=>ah I|exact λ_=>de _|exact λ_=>iL _)
 (bu:o.guard=some (j,want):=by rfl) (aC:(ops[j]?).bind (·.dst)=some g:=by rfl) (an:look E g=some (.of b):=by rfl)
 (hd:o.dst=some bb:=by rfl) (aM:Nat.blt bb c.n=true:=by rfl):ae c ops Q (o::rest) E L:=.g (λhb=>h (au hb) (aR hb)) bu aC an hd aM k
def jv{α:Type}[ak α]{z:α}(hS:dH c.P t z)(k:∀p,ae c ops Q rest ((bb,.eq (.pointer (some ⟨p,0,none⟩)))::E) (⟨some p,.var z⟩::L))(aM:Nat.blt bb c.n=true:=by rfl):
 ae c ops Q (⟨some bb,.alloc t,ty,pos,af,none⟩::rest) E L:=.alloc hS aM k
def mq{α:Type}[ak α]{z:α}(k:∀p,ae c ops Q rest ((bb,.eq (.pointer (some ⟨p,0,none⟩)))::E) (⟨some p,.var z⟩::L))(au:aU c E L x (.of z):=by first|exact ah I|exact de _|exact iL _)(aM:Nat.blt bb c.n=true:=by rfl):
 ae c ops Q (⟨some bb,.box t x,ty,pos,af,none⟩::rest) E L:=.box au aM k
def I5{p o:Nat}{β γ:Type}[ak β][ak γ]{b:β}{v:γ}(i:Nat)(l:aP β γ)(ej:bU c.P t γ)(k:ae c ops Q rest E (L.set i ⟨some p,.var (l.set b v)⟩))(au:aU c E L x (.eq (.pointer (some ⟨p,o,none⟩))):=by exact ah I)
 (aR:aU c E L y (.of v):=by first|exact ah I|exact de _|exact iL _|exact look_nil|exact iN _) (ar:L[i]? =some ⟨some p,.var b⟩:=by rfl) (a6:o=l.off:=by rfl):
 ae c ops Q (⟨none,.store t x y,ty,pos,af,none⟩::rest) E L:=.store l ej au aR ar a6 I k
def p3{p:Nat}{β:Type}[ak β]{b v:β}(i:Nat)(ej:bU c.P t β)(k:ae c ops Q rest E (L.set i ⟨some p,.var v⟩))(au:aU c E L x (.eq (.pointer (some ⟨p,0,none⟩))):=by exact ah I)
 (aR:aU c E L y (.of v):=by first|exact ah I|exact de _|exact iL _|exact look_nil|exact iN _) (ar:L[i]? =some ⟨some p,.var b⟩:=by rfl):
 ae c ops Q (⟨none,.store t x y,ty,pos,af,none⟩::rest) E L:=.store (aP.id β) ej au aR ar I I k
def I2{p o:Nat}{β γ:Type}[ak β][ak γ]{b b':β}{v:γ}(i:Nat)(l:aP β γ)(ej:bU c.P t γ)(k:ae c ops Q rest E (L.set i ⟨some p,.var b'⟩))(au:aU c E L x (.eq (.pointer (some ⟨p,o,none⟩))):=by exact ah I)
 (aR:aU c E L y (.of v):=by first|exact ah I|exact de _|exact iL _|exact look_nil|exact iN _) (ar:L[i]? =some ⟨some p,.var b⟩:=by rfl) (a6:o=l.off:=by rfl) (hb:some (l.set b v)=some b'):
 ae c ops Q (⟨none,.store t x y,ty,pos,af,none⟩::rest) E L:=.store l ej au aR ar a6 (dt hb) k
def ss{f:FuncId}{xs:aa cw}{ats:Array bJ}{τs:aa J}{ρ:J}(cf:bH c.P f)(h:dV c.P f τs ρ)(k:ae c ops Q rest ((bb,ρ)::E) L)
 (au:jr c E L xs τs:=by repeat (first|exact trivial|refine⟨ah I,?_⟩|refine⟨de _,?_⟩|refine⟨iL _,?_⟩|refine⟨look_nil,?_⟩|refine⟨iN _,?_⟩)) (aM:Nat.blt bb c.n=true:=by rfl):
 ae c ops Q (⟨some bb,.call ⟨.value (.func f),xs.toArray,ats⟩,ty,pos,af,none⟩::rest) E L:=.v (ja cf h au) I I aM k
def eL{f:FuncId}{xs:aa cw}{ats:Array bJ}{τs:aa J}{δ:Type}{ρ:δ->J}{Lo:δ->aa aK}(n:Nat)(cf:bH c.P f)(h:bL c.P f τs (L.take n) ρ Lo)
 (k:∀q,ae c ops Q rest ((bb,ρ q)::E) (Lo q++L.drop n)) (au:jr c E L xs τs:=by repeat (first|exact trivial|refine⟨ah I,?_⟩|refine⟨de _,?_⟩|refine⟨iL _,?_⟩|refine⟨look_nil,?_⟩|refine⟨mM,?_⟩|refine⟨iN _,?_⟩)) (aM:Nat.blt bb c.n=true:=by rfl):
 ae c ops Q (⟨some bb,.call ⟨.value (.func f),xs.toArray,ats⟩,ty,pos,af,none⟩::rest) E L:=by
 have e:=gw n L
 have:=ae.lI (ty:=ty) (pos:=pos) (af:=af) (ats:=ats) (xs:=xs) (Lin:=L.take n) (Lr:=L.drop n) (E:=E) (Q:=Q) (ops:=ops) cf h (by rw[e];exact au) aM k
 rwa[e]at this
def jf{α:Type}[ak α]{e bytes cap:Nat}{key:aE Nat}{xs ys r:aa α}{z:α}(j:Nat)(hu:c.P.underlying t=some (.slice e))(e1:bU c.P e α)(hS:dH c.P e z)(h:eZ bytes xs ys=some r)
 (k:∀uw cap',ae c ops Q rest ((bb,.eq (aQ uw r.length cap'))::E) (L.set j ⟨uw,.row e r cap'⟩)) (By:(c.P.info? e).map (·.bytes)=some bytes:=by kernel_rfl)
 (hs:aU c E L x (.eq (aQ key xs.length cap)):=by first|exact ah I|exact mM) (ar:L[j]? =some ⟨key,.row e xs cap⟩:=by rfl) (aR:aU c E L y (.of ys):=by exact ah I) (aM:Nat.blt bb c.n=true:=by rfl):
 ae c ops Q (⟨some bb,.call ⟨.builtin .append,#[x,y],#[t,t]⟩,ty,pos,af,none⟩::rest) E L:=.app hu e1 hS By hs ar aR h aM k
def sn{place:Nat->aE (Nat×Nat)}{β:Type}[ak β]{b b':β}{γ:Type}[ak γ]{v:γ}{i:Nat}{r:aa (Nat×cw)}(l:aP β γ)(k:uo c E L place (l.set b v) r b')
 (hp:place i=some (l.off,ak.size γ):=by rfl) (au:aU c E L x (.of v):=by first|exact ah I|exact de _|exact iL _|exact look_nil|exact iN _):uo c E L place b ((i,x)::r) b':=.cons l hp au I k
def uB{β:Type}[ak β]{z b:β}{ev:aa (Nat×cw)}{pl:Array (Nat×Nat)}(JZ:gF c.P t pl)(hS:dH c.P t z)(zm:β)(aW:uo c E L (pl[·]?) z ev b)(k:ae c ops Q rest ((bb,.of zm)::E) L)(aY:ak.agg β=true:=by rfl)(hb:b=zm:=by rfl)(aM:Nat.blt bb c.n=true:=by rfl):
 ae c ops Q (⟨some bb,.build t ev.toArray,ty,pos,af,none⟩::rest) E L:=.v ((kD aY JZ hS aW).qe hb) I I aM k
def arI{α:Type}[ak α]{e n:Nat}{z:α}{ev:aa (Nat×cw)}(r:aa α)(hu:c.P.underlying t=some (.slice e))(e1:bU c.P e α)(hS:dH c.P e z)(k:ae c ops Q rest ((bb,.of r)::E) L)
 (aW:qC c E L (List.replicate n z) ev r:=by repeat (first|exact qC.nil|refine qC.cons (by simp) (ah I) ?_|refine qC.cons (by simp) (de _) ?_|refine qC.cons (by simp) (iL _) ?_|refine qC.cons (by simp) (iN _) ?_))
 (hs:Nat.beq (ak.size α) 0=false:=by rfl) (pw:Nat.ble (n*ak.size α) 16777216=true:=by rfl) (aM:Nat.blt bb c.n=true:=by rfl):
 ae c ops Q (⟨some bb,.buildSlice t n ev.toArray,ty,pos,af,none⟩::rest) E L:=.v (AV hu e1 hS hs pw aW) I I aM k
inductive kx(E:List (Nat×J)):List Nat->List (Nat×J)->Prop
 |nil:kx E [] []
 |cons {t:Nat} {dC:List Nat} {τ:J} {jh:List (Nat×J)}:look E t=some τ->kx E dC jh->kx E (t::dC) ((t,τ)::jh)
def kx.le:∀{dC:aa Nat} {fT:aa (Nat×J)},kx E dC fT->fO E fT
 |_,_,.nil=>.nil
 |_,_,.cons h k=>.same h k.le
def ei{code:Code}{fT:aa (Nat×J)}(dC:aa Nat)(k:ay c Q code fT L)(aD:kx E dC fT:=by repeat (first|exact kx.nil|(apply kx.cons;rfl))):ay c Q code E L:=.le aD.le k
def ed{z:Exit}{E':aa (Nat×J)}{L':aa aK}(n:Nat)(k:al c Q z E' L')(ar:L.drop n=L':=by rfl)(h:fO E E':=by repeat (first|exact fO.nil|refine fO.same I ?_)):al c Q z E L:=.meet n ar h k
def hA{σ ε γ δ:Type}{E':σ->γ->aa (Nat×J)}{L':σ->γ->aa aK}{xs:ε->Exit}{h9:ε->δ->aa (Nat×J)}{Lx:ε->δ->aa aK}{s:σ}(g:γ)(n:Nat)(ar:L.drop n=L' s g:=by rfl)
 (h:fO E (E' s g):=by repeat (first|exact fO.nil|refine fO.same I ?_)):al c (eN c E' L' xs h9 Lx (.inl s)) .normal E L:=.alg g n ar h
def gq{σ ε γ δ:Type}{E':σ->γ->aa (Nat×J)}{L':σ->γ->aa aK}{xs:ε->Exit}{h9:ε->δ->aa (Nat×J)}{Lx:ε->δ->aa aK}{e:ε}{z:Exit}(g:δ)(n:Nat)(au:z=xs e:=by rfl)(aM:z≠ .normal:=by simp)(ar:L.drop n=Lx e g:=by rfl)
 (h:fO E (h9 e g):=by repeat (first|exact fO.nil|refine fO.same I ?_)):al c (eN c E' L' xs h9 Lx (.inr e)) z E L:=.alh g n au aM ar h
def Ez{t:Nat}{p:Nat}{α:Type}[ak α]{v:α}(i:Nat)(ej:bU c.P ty α)(h:look E t=some (.eq (.pointer (some ⟨p,0,none⟩))):=by rfl)(ar:L[i]? =some ⟨some p,.var v⟩:=by rfl):q0 c E L (.cell t ty) (.of v):=abT ej h ar
def uC{fn:Func}{t:Nat}{τ:J}(aG:fn.results= #[.tmp t]:=by rfl)(h:look E t=some τ:=by rfl)(eR:c.ds=[]:=by rfl):al c (bodyPost c.P fn (vG c τ)) .ret E L:=.Sz aG (IF h) eR
def sm{fn:Func}{t:Nat}{τ:J}{δ:Type}{ρ:δ->J}{Lo:δ->aa aK}(bb:δ)(hs:(Lo bb).Sublist L:=by repeat (first|exact q6 _|refine List.Sublist.cons_cons _ ?_))(aG:fn.results= #[.tmp t]:=by rfl)(h:look E t=some τ:=by rfl)(sy:ρ bb=τ:=by rfl)(eR:c.ds=[]:=by rfl):
 al c (bodyPost c.P fn (k6 c.X c.b8 c.kc ρ Lo)) .ret E L:=.eC bb hs aG sy (dn h) eR
def je:aa aK->aa (Nat×aK)->aa aK
 |L,[]=>L
 |L,(i,e)::r=>je (L.set i e) r
inductive uZ:List aK->List aK->Prop
 |nil:uZ [] []
 |cons {e:aK} {r s:List aK}:uZ r s->uZ (e::r) (e::s)
def uZ.eq:∀{l m:aa aK},uZ l m->l=m
 |_,_,.nil=>rfl
 |_,_,.cons h=>by rw[h.eq]
def fk{σ ε γ δ:Type}{body:Code}{N:Nat}{b:σ->aE (σ⊕ε)}{cb:σ}{e:ε}{fT:aa (Nat×J)}{gj:aa aK}(an:dh N b cb=some e)(dC:aa Nat)(u:σ->γ->aa (Nat×J))(ul:σ->γ->aa (Nat×aK))(xs:ε->Exit)
 (u0:ε->δ->aa (Nat×J)) (uM:ε->δ->aa (Nat×aK)) (g0:γ)
 (uq:∀s r,b s=some r->∀g,ay c (eN c (λs g=>u s g++fT) (λs g=>je gj (ul s g)) xs (λe d=>u0 e d++fT) (λe d=>je gj (uM e d)) r) body (u s g++fT) (je gj (ul s g)))
 (qB:∀g,al c Q (xs e) (u0 e g++fT) (je gj (uM e g)))
 (BE:uZ L gj:=by repeat (first|exact uZ.nil|apply uZ.cons))
 (Jn:kx E dC fT:=by repeat (first|exact kx.nil|(apply kx.cons;rfl))) (aD:fO E (u cb g0++fT):=by repeat (first|exact fO.nil|refine fO.same I ?_)) (ar:gj=je gj (ul cb g0):=by rfl):ay c Q (.loop body) E L:=
 ay.MG an (λs g=>u s g++fT) (λs g=>je gj (ul s g)) xs (λe d=>u0 e d++fT) (λe d=>je gj (uM e d)) g0 (BE.eq.trans ar) aD uq qB
def ix{γ:Type}{b:Bool}{y z:Code}{fT:aa (Nat×J)}{gj:aa aK}(dC:aa Nat)(u:γ->aa (Nat×J))(ul:γ->aa (Nat×aK))(oW:∀g,al c Q .normal (u g++fT) (je gj (ul g)))
 (bD:(∀g,al c (ea Q) .normal (u g++fT) (je gj (ul g)))->b=true->ay c (ea Q) y E gj) (aW:(∀g,al c (ea Q) .normal (u g++fT) (je gj (ul g)))->b=false->ay c (ea Q) z E gj)
 (BE:uZ L gj:=by repeat (first|exact uZ.nil|apply uZ.cons))
 (Jn:kx E dC fT:=by repeat (first|exact kx.nil|(apply kx.cons;rfl))) (an:aU c E gj x (.of b):=by first|exact ah I|exact iL _):ay c Q (.cond x y z) E L:=by
 cases BE.eq
 exact ay.b1 (λg=>u g++fT) (λg=>je L (ul g)) an oW bD aW
section
variable{all:aa uX}{w:Nat->Bool}
def fh{τ:J}{hyp:aa aK->Prop}(au:∀L',aU c E L' x τ:=by first|exact λ_=>ah I|exact λ_=>de _|exact λ_=>iL _|exact λ_=>iN _):∀L',hyp L'->iq c ops E L' ⟨some bb,.move x,ty,pos,af,none⟩ τ:=λL' _=>.v (cY (au L')) I
def H1{σ τ:J}{hyp:aa aK->Prop}(h:∀{L'},aU c E L' x σ->bj c E L' o τ)(bu:o.guard=none:=by rfl)(au:∀L',aU c E L' x σ:=by first|exact λ_=>ah I|exact λ_=>de _|exact λ_=>iL _|exact λ_=>iN _):
 ∀L',hyp L'->iq c ops E L' o τ:=λL' _=>.v (h (au L')) bu
def lV{σ pz τ:J}{hyp:aa aK->Prop}(h:∀{L'},aU c E L' x σ->aU c E L' y pz->bj c E L' o τ)(bu:o.guard=none:=by rfl)(au:∀L',aU c E L' x σ:=by first|exact λ_=>ah I|exact λ_=>de _|exact λ_=>iL _|exact λ_=>iN _)
 (aR:∀L',aU c E L' y pz:=by first|exact λ_=>ah I|exact λ_=>de _|exact λ_=>iL _|exact λ_=>iN _):∀L',hyp L'->iq c ops E L' o τ:=λL' _=>.v (h (au L') (aR L')) bu
def iV{p o:Nat}{β γ:Type}[ak β][ak γ]{b:β}(i:Nat)(l:aP β γ)(ej:bU c.P t γ)(au:∀L',aU c E L' x (.eq (.pointer (some ⟨p,o,none⟩))):=by exact λ_=>ah I)(ar:L[i]? =some ⟨some p,.var b⟩:=by rfl)(a6:o=l.off:=by rfl)
 (hu:vA w i 0 all=true:=by first|rfl|kernel_rfl):∀L':aa aK,(∀(j:Nat) (e:aK),L[j]? =some e->vA w j 0 all=true->L'[j]? =some e)->iq c ops E L' ⟨some bb,.load t x,ty,pos,af,none⟩ (.of (l.get b)):=
 λL' BF=>.v (hv l ej (au L') (BF _ _ ar hu) a6 I) I
def sq{p:Nat}{β:Type}[ak β]{b:β}(i:Nat)(ej:bU c.P t β)(au:∀L',aU c E L' x (.eq (.pointer (some ⟨p,0,none⟩))):=by exact λ_=>ah I)(ar:L[i]? =some ⟨some p,.var b⟩:=by rfl)
 (hu:vA w i 0 all=true:=by first|rfl|kernel_rfl):∀L':aa aK,(∀(j:Nat) (e:aK),L[j]? =some e->vA w j 0 all=true->L'[j]? =some e)->iq c ops E L' ⟨some bb,.load t x,ty,pos,af,none⟩ (.of b):=
 λL' BF=>.v (hv (aP.id β) ej (au L') (BF _ _ ar hu) I I) I
def rI{f:FuncId}{xs:aa cw}{ats:Array bJ}{τs:aa J}{ρ:J}{hyp:aa aK->Prop}(cf:bH c.P f)(h:dV c.P f τs ρ)
 (au:∀L',jr c E L' xs τs:=by intro L';repeat (first|exact trivial|refine⟨ah I,?_⟩|refine⟨de _,?_⟩|refine⟨iL _,?_⟩|refine⟨look_nil,?_⟩|refine⟨iN _,?_⟩)):
 ∀L',hyp L'->iq c ops E L' ⟨some bb,.call ⟨.value (.func f),xs.toArray,ats⟩,ty,pos,af,none⟩ ρ:=λL' _=>.v (ja cf h (au L')) I
def Nq{α:Type}[ak α][Inhabited α]{xs:aa α}{e:bJ}{i:Int}{j:Nat}{hyp:aa aK->Prop}(hk:idx xs.length i=some j)(hu:c.P.underlying t=some (.slice e))(e1:bU c.P e α)
 (au:∀L',aU c E L' x (.of xs):=by exact λ_=>ah I) (aR:∀L',aU c E L' y (.of i):=by first|exact λ_=>ah I|exact λ_=>de _):
 ∀L',hyp L'->iq c ops E L' ⟨some bb,.indexAddr t x y,ty,pos,af,none⟩ (.ptr (ax xs j)):=λL' _=>.v (se hu e1 (au L') (aR L') (cN hk)) I
def arU{s f o:Nat}{β γ:Type}[ak β][ak γ]{b:β}{hyp:aa aK->Prop}(l:aP β γ)(fd:y0 c.P s f o)(au:∀L',aU c E L' x (.ptr b):=by exact λ_=>ah I)(a6:l.off=o:=by rfl):
 ∀L',hyp L'->iq c ops E L' ⟨some bb,.fieldAddr s x f,ty,pos,af,none⟩ (.ptr (l.get b)):=λL' _=>.v (AX l fd (au L') a6 I) I
def tK{α:Type}[ak α]{a b:α}{hyp:aa aK->Prop}(e:some a=some b)(h:∀L',hyp L'->bj c E L' o (.of a))(bu:o.guard=none:=by rfl):∀L',hyp L'->iq c ops E L' o (.of b):=λL' ar=>.v ((h L' ar).qe (dt e)) bu
def ec{τ:J}{j g:Nat}{b want:Bool}{hyp:aa aK->Prop}(h:∀L',hyp L'->b=want->bj c E L' o τ)(bu:o.guard=some (j,want):=by rfl)(aC:(ops[j]?).bind (·.dst)=some g:=by rfl)(an:look E g=some (.of b):=by rfl):
 ∀L',hyp L'->iq c ops E L' o (.cond (b=want) τ):=λL' ar=>.g (h L' ar) bu aC an
end
def az(s:Nat)(up rd:aa Nat)(τ:J):dU:=⟨some s,up,rd,[],λ_=>τ,λ_ _=>⟨none,.dead⟩⟩
section
variable{hs:aa dU}{i:Nat}{up rd:aa Nat}
def hD{τ:J}(au:∀(hd:Nat->Hid) (E':aa (Nat×J)) (L':aa aK),(∀t τ,look (kL hd hs E up) t=some τ->look E' t=some τ)->aU c E' L' x τ:=by first|exact λ_ _ _ aD=>ah (aD _ _ I)|exact λ_ _ _ _=>de _|exact λ_ _ _ _=>iL _|exact λ_ _ _ _=>iN _)
 (aM:Nat.blt bb c.n=true:=by rfl):ey c ops Q hs E L i ⟨some bb,.move x,ty,pos,af,none⟩ (az bb up rd τ):=km I I aM λhd E' L' aD _=>cY (au hd E' L' aD)
def gv{σ τ:J}(h:∀{E' L'},aU c E' L' x σ->bj c E' L' o τ)(bu:o.guard=none:=by rfl)(hd:o.dst=some bb:=by rfl)
 (au:∀(hd:Nat->Hid) (E':aa (Nat×J)) (L':aa aK),(∀t τ,look (kL hd hs E up) t=some τ->look E' t=some τ)->aU c E' L' x σ:=by first|exact λ_ _ _ aD=>ah (aD _ _ I)|exact λ_ _ _ _=>de _|exact λ_ _ _ _=>iL _|exact λ_ _ _ _=>iN _)
 (aM:Nat.blt bb c.n=true:=by rfl):ey c ops Q hs E L i o (az bb up rd τ):=km bu hd aM λhd E' L' aD _=>h (au hd E' L' aD)
def JV{σ pz τ:J}(h:∀{E' L'},aU c E' L' x σ->aU c E' L' y pz->bj c E' L' o τ)(bu:o.guard=none:=by rfl)(hd:o.dst=some bb:=by rfl)
 (au:∀(hd:Nat->Hid) (E':aa (Nat×J)) (L':aa aK),(∀t τ,look (kL hd hs E up) t=some τ->look E' t=some τ)->aU c E' L' x σ:=by first|exact λ_ _ _ aD=>ah (aD _ _ I)|exact λ_ _ _ _=>de _|exact λ_ _ _ _=>iL _|exact λ_ _ _ _=>iN _)
 (aR:∀(hd:Nat->Hid) (E':aa (Nat×J)) (L':aa aK),(∀t τ,look (kL hd hs E up) t=some τ->look E' t=some τ)->aU c E' L' y pz:=by first|exact λ_ _ _ aD=>ah (aD _ _ I)|exact λ_ _ _ _=>de _|exact λ_ _ _ _=>iL _|exact λ_ _ _ _=>iN _)
 (aM:Nat.blt bb c.n=true:=by rfl):ey c ops Q hs E L i o (az bb up rd τ):=km bu hd aM λhd E' L' aD _=>h (au hd E' L' aD) (aR hd E' L' aD)
def oM{p o:Nat}{β γ:Type}[ak β][ak γ]{b:β}(k:Nat)(l:aP β γ)(ej:bU c.P t γ)
 (au:∀(hd:Nat->Hid) (E':aa (Nat×J)) (L':aa aK),(∀t τ,look (kL hd hs E up) t=some τ->look E' t=some τ)->aU c E' L' x (.eq (.pointer (some ⟨p,o,none⟩))):=by exact λ_ _ _ aD=>ah (aD _ _ I))
 (ar:∀hd:Nat->Hid,(ht (λ_=>true) hd 0 (hs.take i) L)[k]? =some ⟨some p,.var b⟩:=by exact λ_=>rfl) (aG:rd.contains k=true:=by rfl) (a6:o=l.off:=by rfl)
 (aM:Nat.blt bb c.n=true:=by rfl):ey c ops Q hs E L i ⟨some bb,.load t x,ty,pos,af,none⟩ (az bb up rd (.of (l.get b))):=km I I aM λhd E' L' aD BF=>hv l ej (au hd E' L' aD) (BF _ _ (ar hd) aG) a6 I
def xf{p:Nat}{β:Type}[ak β]{b:β}(k:Nat)(ej:bU c.P t β)
 (au:∀(hd:Nat->Hid) (E':aa (Nat×J)) (L':aa aK),(∀t τ,look (kL hd hs E up) t=some τ->look E' t=some τ)->aU c E' L' x (.eq (.pointer (some ⟨p,0,none⟩))):=by exact λ_ _ _ aD=>ah (aD _ _ I))
 (ar:∀hd:Nat->Hid,(ht (λ_=>true) hd 0 (hs.take i) L)[k]? =some ⟨some p,.var b⟩:=by exact λ_=>rfl) (aG:rd.contains k=true:=by rfl)
 (aM:Nat.blt bb c.n=true:=by rfl):ey c ops Q hs E L i ⟨some bb,.load t x,ty,pos,af,none⟩ (az bb up rd (.of b)):=km I I aM λhd E' L' aD BF=>hv (aP.id β) ej (au hd E' L' aD) (BF _ _ (ar hd) aG) I I
def qg{τ:J}(h:∀(hd:Nat->Hid) (E':aa (Nat×J)) (L':aa aK),(∀t τ,look (kL hd hs E up) t=some τ->look E' t=some τ)->(∀j e,(ht (λ_=>true) hd 0 (hs.take i) L)[j]? =some e->rd.contains j=true->L'[j]? =some e)->bj c E' L' o τ)
 (bu:o.guard=none:=by rfl) (hd:o.dst=some bb:=by rfl) (aM:Nat.blt bb c.n=true:=by rfl):ey c ops Q hs E L i o (az bb up rd τ):=km bu hd aM h
end
end
def LG{F:Fence}{n rV:Nat}{P:Program}{code:Code}{Q:Exit->Act->bo->Prop}{a:Act}{W:bo}(hd:F.depth=none)(h:code.wpIn F n P Q a W):code.wpIn F rV P Q a W:=
 λb k cs lf hb _=>h b k cs lf hb (λd hd'=>by rw[hd]at hd';cases hd')
def e0.is(o:Obj):e0 where
 holds _ _ x:=x=o
 pY:=False
 mono _ h:=h
abbrev e0.fH:e0:=.is (.deferred (some []))
def J.lx(f:FuncId)(τs:aa J):J where
 holds A W v:=∃fP:aa br,v=.func (.func f) #[] fP.toArray∧hJ A W τs fP
 mono e h:=let⟨fP,h1,ad⟩:=h; ⟨fP,h1,ad.mono e⟩
def bO.ux{c E L a W}(h:bO c E L a W){i p:Nat}{cp cp':e0}(aq:L[i]? =some ⟨some p,cp⟩){o':Obj}(ag:cp'.holds (ks L++c.b8) W o'):
 bO c E (L.set i ⟨some p,cp'⟩) a (W.putObj p o'):=by
 have hj:ks (L.set i ⟨some p,cp'⟩)=ks L:=Mn (cp:=cp') aq
 have hp:p∈ks L:=ta.2 ⟨_,fB aq,rfl⟩
 have jd:Ext (ks L++c.b8) W (ks L++c.b8) (W.putObj p o'):=
  ⟨by simp,λk _ aY=>Oo (λe=>aY (e▸cF.2 (.inl hp))),λ_ h _=>h⟩
 exact
 {defers:=h.defers
  size:=h.size
  env:=λt τ an=>by rw[hj];exact let⟨v,h1,ad⟩:=h.env t τ an; ⟨v,h1,τ.mono jd ad⟩
  ef:=⟨h.ef.os,h.ef.tape,h.ef.output,h.ef.drawn,by simpa using h.ef.size,λk hk au=>by
   rw[Oo (λe:k=p=>au (by subst e;exact h.hh _ hp hk))];exact h.ef.block k hk au⟩
  own:=λe he=>by
   rw[hj];obtain⟨j,aC⟩:=o5.1 he;rw[qn]at aC;split at aC
   ·rename_i gh;subst gh;split at aC
    ·simp only[gl]at aC;subst aC;exact⟨_,World.putObj_heap_same (h.lt p hp),cp'.mono jd ag⟩
    cases aC
   rename_i gh;have h1:=h.own e (fB aC);unfold aK.ok at *;split at h1
   ·rename_i q hq;obtain⟨o',qQ,bT⟩:=h1;have di:q≠p:=λe'=>gh (Rz h.nodup aq aC I (e'▸hq));exact⟨o',by rw[Oo di];exact qQ,e0.mono _ jd bT⟩
   exact h1
  nodup:=by rw[hj];exact h.nodup
  lt:=by rw[hj];simpa using h.lt
  hh:=by rw[hj];exact h.hh
  fe:=by rw[hj];simpa using h.fe}
def Ij{c:cP}{E:aa (Nat×J)}{L:aa aK}{d:aE Tmp}{ty:bJ}{pos:String}{af:Array Edge}{g:aE (Nat×Bool)}{f:FuncId}{xs:aa cw}{τs:aa J}(au:jr c E L xs τs):
 bj c E L ⟨d,.makeFunc (.func f) #[] xs.toArray,ty,pos,af,g⟩ (.lx f τs):=.pure λa W s=>
 ⟨.func (.func f) #[] (xs.map a.eval).toArray,by simp[execOp,Instr.makeFunc],_,rfl,au.holds a W s⟩
structure El(A:List Nat)(W:World)(L:List aK):Prop where
 fe:∀k∈A,k<W.heap.size∧k∉ks L
 nodup:(ks L).Nodup
 lt:∀k∈ks L,k<W.heap.size
 ok:∀e∈L,e.ok (ks L++A) W
def BG(P:Program)(u:br){α σ ε γ:Type}(τ:α->J)(Ls:σ->γ->aa aK)(Lx:ε->γ->aa aK)(step:α->σ->aE (σ⊕ε))(R:aa Nat->bo->Prop):Prop:=
 ∃ l,u=.func (.yield l) #[] #[]∧∀x s r,step x s=some r->∀g A W v,R (ks (Ls s g)++A) W->El A W (Ls s g)->(τ x).holds (ks (Ls s g)++A) W v->
   YieldAt Fence.wide 8 P l #[v] W (match r with
    | .inl cv=>k6 (ks (Ls s g)) A W (λ_:γ=>J.of true) (λg=>Ls cv g)
    | .inr q=>k6 (ks (Ls s g)) A W (λ_:γ=>J.of false) (λg=>Lx q g))
def Lr{σ ε γ:Type}(Ls:σ->γ->aa aK)(Lx:ε->γ->aa aK):σ⊕ε->γ->aa aK
 | .inl s,g=>Ls s g
 | .inr q,g=>Lx q g
structure Ib(P:Program)(f:FuncId)(τs:List J)(Lin:List aK){α:Type}(τ:α->J)(run:∀{σ ε:Type},(α->σ->Option (σ⊕ε))->σ->Option (σ⊕ε)):Prop where
 go:∀{σ ε γ:Type} (Ls:σ->γ->List aK) (Lx:ε->γ->List aK) (step:α->σ->Option (σ⊕ε)) (cb:σ) (g0:γ) (r:σ⊕ε),run step cb=some r->
  ∀ (A:List Nat) (W:World) (u:Value) (vs:List Value),El A W (Lin++Ls cb g0)->hJ (ks (Lin++Ls cb g0)++A) W τs vs->
    BG P u τ Ls Lx step (λcV W'=>Ext (ks (Lin++Ls cb g0)++A) W cV W')->
    Calls P f (u::vs).toArray W (k6 (ks (Lin++Ls cb g0)) A W (λ_:γ=>.bW []) (λg=>Lin++Lr Ls Lx r g))
def Ib.of{P:Program}{f:FuncId}{fn:Func}{code:Code}{n:Nat}{τs:aa J}{Lin:aa aK}{α:Type}{τ:α->J}{run:∀{σ ε:Type},(α->σ->aE (σ⊕ε))->σ->aE (σ⊕ε)}
 (aW:P.funcs[f]? =some fn) (hb:fn.body=some code) (aM:fn.ntmps=n) (hlen:Nat.ble (τs.length+1) n=true)
 (h:∀{σ ε γ:Type} (Ls:σ->γ->aa aK) (Lx:ε->γ->aa aK) (step:α->σ->aE (σ⊕ε)) (cb:σ) (g0:γ) (r:σ⊕ε),run step cb=some r->
  ∀ W A u,BG P u τ Ls Lx step (λcV W'=>Ext (ks (Lin++Ls cb g0)++A) W cV W')->
    ay ⟨P,n,W,ks (Lin++Ls cb g0),A,none,[]⟩ (bodyPost P fn (k6 (ks (Lin++Ls cb g0)) A W (λ_:γ=>.bW []) (λg=>Lin++Lr Ls Lx r g))) code (params 0 (.eq u::τs)) (Lin++Ls cb g0)):Ib P f τs Lin τ run:=by
 refine⟨?_⟩
 intro σ ε γ Ls Lx step cb g0 r aG A W u vs an bc aR
 refine GU aW hb (wpIn_wide.1 (h Ls Lx step cb g0 r aG W A u aR _ _ ?_))
 have p9:hJ (ks (Lin++Ls cb g0)++A) W (.eq u::τs) (u::vs):=.cons I bc
 have kJ:=p9.length
 have hle:τs.length+1<=n:=pM hlen
 exact
 {defers:=rfl
  size:=by simp at kJ;simp[aM,kJ];omega
  env:=λt τ fm=>by
   obtain⟨_,v,ad,aB⟩:=Ak p9 0 t τ fm;refine⟨v,?_,aB⟩;have b9:t<(u::vs).length:=(ir.1 ad).1;rw[v8 (by simpa using b9)];simpa using ad
  ef:=.refl _ _
  own:=an.ok
  nodup:=an.nodup
  lt:=an.lt
  hh:=λk hk _=>hk
  fe:=an.fe}
section
variable{c:cP}{E:aa (Nat×J)}{L:aa aK}{ops:Array Oper}{Q:Exit->Act->bo->Prop}
variable{d:aE Tmp}{ty:bJ}{pos:String}{af:Array Edge}{g:aE (Nat×Bool)}{x y:cw}{t t2:bJ}
def bO.aaB{a:Act}{W:bo}(s:bO c E L a W):Ext (c.X++c.b8) c.kc (ks L++c.b8) W:=
 ⟨s.ef.size,λk hk aY=>s.ef.block k hk λau=>aY (cF.2 (.inl au)),λk hm b9=>by
   rcases cF.1 hm with hm|hm
   ·exact cF.2 (.inl (s.hh k hm b9))
   exact cF.2 (.inr hm)⟩
def bO.Na{a:Act}{W:bo}{Lin Lr:aa aK}(s:bO c E (Lin++Lr) a W):El (ks Lr++c.b8) W Lin:=by
 have nz:=s.nodup;rw[fL]at nz;obtain⟨py,uL,sA⟩:=q5.1 nz;exact
 {fe:=λk hm=>by
   rcases cF.1 hm with hm|hm
   ·exact⟨s.lt k (by rw[fL];exact cF.2 (.inr hm)),λh=>sA k h k hm I⟩
   obtain⟨h1,ad⟩:=s.fe k hm;exact⟨h1,λh=>ad (by rw[fL];exact cF.2 (.inl h))⟩
  nodup:=py
  lt:=λk hm=>s.lt k (by rw[fL];exact cF.2 (.inl hm))
  ok:=λe he=>aK.wI (s.own e (cF.2 (.inl he))) (.drop λk hm=>by
   rw[fL];simp only[cF]at hm⊢;rcases hm with hm|hm|hm
   ·exact .inl (.inl hm)
   ·exact .inl (.inr hm)
   exact .inr hm) λ_ _=>rfl}
def DF{Lin Lr:aa aK}{A:aa Nat}{W:bo}:Ext (ks (Lin++Lr)++A) W (ks Lin++(ks Lr++A)) W:=.drop λk hm=>by
 rw[fL];simp only[cF]at hm⊢;rcases hm with hm|hm|hm
 ·exact .inl (.inl hm)
 ·exact .inl (.inr hm)
 exact .inr hm
def LP{Lin Lr:aa aK}{A:aa Nat}{W:bo}:Ext (ks Lin++(ks Lr++A)) W (ks (Lin++Lr)++A) W:=.drop λk hm=>by
 rw[fL]at hm;simp only[cF]at hm⊢;rcases hm with(hm|hm)|hm
 ·exact .inl hm
 ·exact .inr (.inl hm)
 exact .inr (.inr hm)
def ae.yield{rest:aa Oper}{bb nN:Nat}{ats:Array bJ}{u:br}{α σ ε γ:Type}{τ:α->J}{Ls:σ->γ->aa aK}{Lx:ε->γ->aa aK}{step:α->σ->aE (σ⊕ε)}{Lin:aa aK}{x:cw}{v:α}{s:σ}{gg:γ}{r:σ⊕ε}
 (ag:c.rd=none) (aR:BG c.P u τ Ls Lx step (λcV W'=>Ext (c.X++c.b8) c.kc cV W')) (aW:look E nN=some (.eq u)) (au:aU c E (Lin++Ls s gg) x (τ v)) (aG:step v s=some r) (aM:Nat.blt bb c.n=true)
 (aJ:∀cv,r=.inl cv->∀ek,ae c ops Q rest ((bb,.of true)::E) (Lin++Ls cv ek)) (bx:∀q,r=.inr q->∀ek,ae c ops Q rest ((bb,.of false)::E) (Lin++Lx q ek)):
 ae c ops Q (⟨some bb,.call ⟨.value (.tmp nN),#[x],ats⟩,ty,pos,af,none⟩::rest) E (Lin++Ls s gg):=λa W st=>by
 obtain⟨l,rfl,aR⟩:=aR
 obtain⟨Un,h1,ad⟩:=st.env nN _ aW
 have hu:Un=.func (.yield l) #[] #[]:=ad
 subst hu
 have uN:bO c E (Ls s gg++Lin) a W:=st.perm nQ
 have bc:=au a W st
 have p9:(τ v).holds (ks (Ls s gg)++(ks Lin++c.b8)) W (a.eval x):=(τ v).mono (.drop λk hm=>by
  rw[fL];simp only[cF]at hm⊢;rcases hm with hm|hm|hm
  ·exact .inl (.inr hm)
  ·exact .inl (.inl hm)
  exact .inr hm) bc
 obtain⟨fn,tmps,assign,body,kH,hF⟩:=aR v s r aG gg (ks Lin++c.b8) W (a.eval x) (uN.aaB.trans DF) uN.Na p9
 have Sk:(execOp a.eval ⟨some bb,.call ⟨.value (.tmp nN),#[x],ats⟩,ty,pos,af,none⟩).run c.P W=.ok (.round l fn tmps assign body) W:=by
  rw[<-kH];simp[execOp,resolve,Deferred.ofValue,Act.eval,h1,invoke,eg,Sem.run_pure,Result.andThen]
 refine wpListIn_plain I λK tM=>?_
 refine⟨λ_ _=>trivial,?_⟩
 rw[Pg _ _ _ (λ_ h=>by cases h),Sk,Oper.uponIn_round]
 refine⟨λh=>by simp at h,?_⟩
 have Tw:RoundIn c.F (9-1) c.P l fn tmps assign body W _:=hF
 refine Tw.mono λe W' he=>?_
 cases r with
 | inl cv=>
   obtain⟨w,ek,rfl,uO,aB,aV,ba,bq⟩:=he
   obtain rfl:=of_bool.1 bq
   refine tM _ _ (aJ cv I ek _ _ ?_)
   exact(((uN.after uO aB aV ba).perm nQ).put (by simpa using aM) (of_bool.2 I))
 | inr q=>
   obtain⟨w,ek,rfl,uO,aB,aV,ba,bq⟩:=he
   obtain rfl:=of_bool.1 bq
   refine tM _ _ (bx q I ek _ _ ?_)
   exact(((uN.after uO aB aV ba).perm nQ).put (by simpa using aM) (of_bool.2 I))
def ae.akV{rest:aa Oper}{bb nN j gt:Nat}{b:Bool}{ats:Array bJ}{u:br}{α σ ε γ:Type}{τ:α->J}{Ls:σ->γ->aa aK}{Lx:ε->γ->aa aK}{step:α->σ->aE (σ⊕ε)}{Lin:aa aK}{x:cw}{v:α}{s:σ}{gg:γ}{r:σ⊕ε}
 (ag:c.rd=none) (aR:BG c.P u τ Ls Lx step (λcV W'=>Ext (c.X++c.b8) c.kc cV W')) (hb:b=true) (aC:(ops[j]?).bind (·.dst)=some gt) (an:look E gt=some (.of b)) (aW:look E nN=some (.cond (b=true) (.eq u))) (au:aU c E (Lin++Ls s gg) x (τ v)) (aG:step v s=some r) (aM:Nat.blt bb c.n=true)
 (aJ:∀cv,r=.inl cv->∀ek,ae c ops Q rest ((bb,.cond (b=true) (.of true))::E) (Lin++Ls cv ek)) (bx:∀q,r=.inr q->∀ek,ae c ops Q rest ((bb,.cond (b=true) (.of false))::E) (Lin++Lx q ek)):
 ae c ops Q (⟨some bb,.call ⟨.value (.tmp nN),#[x],ats⟩,ty,pos,af,some (j,true)⟩::rest) E (Lin++Ls s gg):=λa W st=>by
 have aD:look ((nN,.eq u)::E) nN=some (.eq u):=by simp[look,nh]
 have ar7:bO c ((nN,.eq u)::E) (Lin++Ls s gg) a W:=st.less λt oO h=>by
  simp only[look]at h;by_cases e:Nat.beq nN t=true
  ·rw[e]at h;simp only[cond_true,gl]at h;subst h;rw[<-fa.1 e];exact⟨_,aW,λA W v bc=>bc.1 hb⟩
  simp only[jk]at e;rw[e]at h;exact⟨_,h,λ_ _ _ h=>h⟩
 have key:=ae.yield (c:=c) (ops:=ops) (Q:=Q) (E:=(nN,.eq u)::E) (rest:=rest) (ty:=ty) (pos:=pos) (af:=af) (ats:=ats) ag aR aD (λa W s=>au a W (s.less λt oO h=>by
  by_cases e:Nat.beq nN t=true
  ·have:=fa.1 e;subst this;rw[aW]at h;cases h;refine⟨_,aD,λA W v bc=>⟨λ_=>bc,λh=>absurd hb h⟩⟩
  ·simp only[jk]at e;exact⟨oO,by simp only[look];rw[e];exact h,λ_ _ _ h=>h⟩)) aG aM
  (λcv e ek a W st=>aJ cv e ek a W (st.less λt oO h=>by
   simp only[look]at h⊢;by_cases e:Nat.beq bb t=true
   ·rw[e]at h⊢;simp only[cond_true,gl]at h⊢;exact⟨_,rfl,λA W v bc=>by subst h;exact⟨λ_=>bc,λh=>absurd hb h⟩⟩
   simp only[jk]at e;rw[e]at h⊢;simp only[cond_false]at h⊢;by_cases aS:Nat.beq nN t=true
   ·have:=fa.1 aS;subst this;rw[aW]at h;cases h;rw[aS];exact⟨_,rfl,λA W v bc=>⟨λ_=>bc,λh=>absurd hb h⟩⟩
   simp only[jk]at aS;rw[aS];exact⟨oO,h,λ_ _ _ h=>h⟩))
  (λcv e ek a W st=>bx cv e ek a W (st.less λt oO h=>by
   simp only[look]at h⊢;by_cases e:Nat.beq bb t=true
   ·rw[e]at h⊢;simp only[cond_true,gl]at h⊢;exact⟨_,rfl,λA W v bc=>by subst h;exact⟨λ_=>bc,λh=>absurd hb h⟩⟩
   simp only[jk]at e;rw[e]at h⊢;simp only[cond_false]at h⊢;by_cases aS:Nat.beq nN t=true
   ·have:=fa.1 aS;subst this;rw[aW]at h;cases h;rw[aS];exact⟨_,rfl,λA W v bc=>⟨λ_=>bc,λh=>absurd hb h⟩⟩
   simp only[jk]at aS;rw[aS];exact⟨oO,h,λ_ _ _ h=>h⟩))
 have:=key a W ar7
 unfold cP.sw wpListIn at this⊢
 rw[bh (by simp[Region.wanted])]at this
 rw[bh (by simp[Region.wanted,Dv aC an st,hb])]
 exact this
def ae.df{l:aa Oper}{L2:aa aK}(h:L=L2)(k:ae c ops Q l E L2):ae c ops Q l E L:=by subst h;exact k
def ae.cases{l:aa Oper}(b:Bool)(h1:b=true->ae c ops Q l E L)(ad:b=false->ae c ops Q l E L):ae c ops Q l E L:=by
 cases b
 ·exact ad I
 exact h1 I
def ae.amZ{o:Oper}{rest:aa Oper}{bb j gt:Nat}{b:Bool}(τ:J)(hb:b=false)(bu:o.guard=some (j,true))(hd:o.dst=some bb)(aC:(ops[j]?).bind (·.dst)=some gt)(an:look E gt=some (.of b))(aM:Nat.blt bb c.n=true)
 (k:ae c ops Q rest ((bb,.cond (b=true) τ)::E) L):ae c ops Q (o::rest) E L:=λa W s=>by
 unfold cP.sw wpListIn
 rw[bf (by simp[Region.wanted,bu,Dv aC an s,hb]),hd]
 exact⟨λ_ _=>trivial,k _ _ (s.put (by simpa using aM) ⟨λh=>(by rw[hb]at h;cases h),λ_=>rfl⟩)⟩
def ay.RX{x:cw}{b:Bool}{y z:Code}(an:aU c E L x (.of b))(hb:b=true)(k:ay c Q y E L):ay c Q (.cond x y z) E L:=.cond an (λ_=>k) λh=>by rw[hb]at h;cases h
def ay.wR{x:cw}{b:Bool}{y z:Code}(an:aU c E L x (.of b))(hb:b=false)(k:ay c Q z E L):ay c Q (.cond x y z) E L:=.cond an (λh=>by rw[hb]at h;cases h) λ_=>k
def Ig:Code->Exit
 | .ret=>.ret
 | .exit id=>.exit id
 | .goto t=>.goto t
 |_=>.normal
def AN:Code->Bool
 | .ret| .exit _| .goto _=>true
 |_=>false
def J4{σ ε γ:Type}(c:cP)(js:ε->Code)(l D:Nat)(rec:Loop)(Ls:σ->γ->aa aK)(Lx:ε->γ->aa aK):σ⊕ε->Exit->Act->bo->Prop
 | .inl cv,x,a,W=>x=.normal∧∃g,bO c [] (⟨some l,.is (.loop rec)⟩::⟨some D,.fH⟩::Ls cv g) a W
 | .inr q,x,a,W=>AN (js q)=true∧x=Ig (js q)∧∃g,bO c [] (⟨some l,.is (.loop rec)⟩::⟨some D,.fH⟩::Lx q g) a W
def J5(c:cP)(l:Nat)(body:Code)(Q:Exit->Act->bo->Prop)(a:Act)(W:bo):Prop:=
 ∃rW,(Instr.beginRound l).run c.P W=.ok () rW∧c.wp body Q a rW
def al.begin{l:Nat}{body:Code}{uW:Exit->Act->bo->Prop}(i:Nat){r:Loop}(ar:L[i]? =some ⟨some l,.is (.loop r)⟩)(aG:r.state=.ready)
 (k:ay c Q body E (L.set i ⟨some l,.is (.loop {r with state:=.busy})⟩)):al c (Exit.then (J5 c l body Q) uW) .normal E L:=λa W s=>by
 obtain⟨o,h1,ad⟩:=s.own _ (fB ar)
 have l0:o=.loop r:=ad
 subst l0
 exact⟨_,run_beginRound h1 aG,k _ _ (s.ux ar I)⟩
def al.Tg{σ ε γ:Type}{js:ε->Code}{l D:Nat}{rec:Loop}{Ls:σ->γ->aa aK}{Lx:ε->γ->aa aK}{cv:σ}(g:γ)(n:Nat)(ar:L.drop n=⟨some l,.is (.loop rec)⟩::⟨some D,.fH⟩::Ls cv g):
 al c (J4 c js l D rec Ls Lx (.inl cv)) .normal E L:=λa W s=>⟨rfl,g,by rw[<-ar];exact(s.sf n).less (λt τ h=>by simp[look]at h)⟩
def al.Re{σ ε γ:Type}{js:ε->Code}{l D:Nat}{rec:Loop}{Ls:σ->γ->aa aK}{Lx:ε->γ->aa aK}{q:ε}{x:Exit}(g:γ)(n:Nat)(aC:AN (js q)=true)(au:x=Ig (js q))(ar:L.drop n=⟨some l,.is (.loop rec)⟩::⟨some D,.fH⟩::Lx q g):
 al c (J4 c js l D rec Ls Lx (.inr q)) x E L:=λa W s=>⟨aC,au,g,by rw[<-ar];exact(s.sf n).less (λt τ h=>by simp[look]at h)⟩
def ay.jump{j:Code}(aC:AN j=true)(k:al c Q (Ig j) E L):ay c Q j E L:=by
 cases j <;> simp only[AN]at aC <;> first|cases aC|skip
 all_goals first|exact .exit k|exact .ret k|exact λa W s=>wpIn_goto (k a W s)
def Wf{P:Program}{l:Nat}{R:Ending->bo->Prop}{j:Code}{a:Act}{W W':bo}{v:br}(aC:AN j=true)(bq:(Instr.endRound l (some j)).run P W=.ok v W')(hF:R (.returned v) W'):
 roundPost P l R (Ig j) a W:=by
 cases j <;> simp only[AN]at aC <;> first|exact⟨_,_,bq,hF⟩|cases aC
def bO.mark{a:Act}{W:bo}(s:bO c E L a W)(D:Nat):bO {c with ds:=D::c.ds} E L {a with defers:=M6 D::a.defers} W:=
 {defers:=by simp[s.defers],size:=s.size,env:=s.env,ef:=s.ef,own:=s.own,nodup:=s.nodup,lt:=s.lt,hh:=s.hh,fe:=s.fe}
def Tx(P:Program)(f:FuncId)(τs:aa J)(Lin:aa aK){α σ ε γ:Type}(τ:α->J)(run:(α->σ->aE (σ⊕ε))->σ->aE (σ⊕ε))(Ls:σ->γ->aa aK)(Lx:ε->γ->aa aK):Prop:=
 ∀ (step:α->σ->aE (σ⊕ε)) (cb:σ) (g0:γ) (r:σ⊕ε),run step cb=some r->
   ∀ (A:aa Nat) (W:bo) (u:br) (vs:aa br),El A W (Lin++Ls cb g0)->hJ (ks (Lin++Ls cb g0)++A) W τs vs->
     BG P u τ Ls Lx step (λcV W'=>Ext (ks (Lin++Ls cb g0)++A) W cV W')->
     Calls P f (u::vs).toArray W (k6 (ks (Lin++Ls cb g0)) A W (λ_:γ=>.bW []) (λg=>Lin++Lr Ls Lx r g))
def W7{gt p:Nat}{assign body:Code}{f:FuncId}{p1:aa J}{Lin:aa aK}{α σ ε γ:Type}{τ:α->J}{run:(α->σ->aE (σ⊕ε))->σ->aE (σ⊕ε)}
 {Ls:σ->γ->aa aK} {Lx:ε->γ->aa aK} {step:α->σ->aE (σ⊕ε)} {cb:σ} {g0:γ} {r:σ⊕ε} (js:ε->Code)
 (ag:c.rd=none) (cf:bH c.P f) (bu:look E gt=some (.lx f p1)) (nf:∀av aS qa,Tx c.P f p1 Lin τ run (λs g=>av::aS::Ls s g) qa) (aG:run step cb=some r) (ar:L=Lin++Ls cb g0) (hp:Nat.blt p c.n=true)
 (tb:∀x s r,step x s=some r->∀g (nD:bo) (nL nE:aa Nat) (l D:Nat) (rec:Loop),rec.state=.ready->
  ay ⟨c.P,c.n,nD,nL,nE,some l,[]⟩ (Exit.then (J5 ⟨c.P,c.n,nD,nL,nE,some l,[]⟩ l body (J4 ⟨c.P,c.n,nD,nL,nE,some l,[]⟩ js l D {rec with state:=.busy} Ls Lx r)) (λ_ _ _=>False)) assign ((p,τ x)::E) (⟨some l,.is (.loop rec)⟩::⟨some D,.fH⟩::Ls s g))
 (sg:∀cv,r=.inl cv->∀g D,al {c with ds:=D::c.ds} Q .normal E (⟨some D,.fH⟩::(Lin++Ls cv g)))
 (A2:∀q,r=.inr q->∀g D,ay {c with ds:=D::c.ds} Q (js q) E (⟨some D,.fH⟩::(Lin++Lx q g))):
 ay c Q (.rangeFunc (.tmp gt) #[p] assign body) E L:=λa W st=>by
 subst ar
 refine wpIn_rangeFunc λfn xo=>?_
 show ∃l mark Bh d anF E2 args aqw,(Instr.enterLoop fn a.tmps #[p] assign body c.rd).run c.P W=_∧_
 rw[ag]
 obtain⟨rec,mV⟩:∃rec:Loop,rec= {state:=.ready,pending:=none,fn,tmps:=a.tmps,params:= #[p],assign,body,defers:=W.heap.size}:=⟨_,rfl⟩
 obtain⟨v,Jo,fP,BH,ar8⟩:=st.env gt _ bu
 obtain⟨iY,Jp⟩:∃iY,(W.alloc (.deferred (some []))).alloc (.loop rec)=iY:=⟨_,rfl⟩
 have s1:=(st.alloc (o:=.deferred (some [])) (cp:=.fH) I).alloc (o:=.loop rec) (cp:=.is (.loop rec)) I
 rw[Jp,KQ]at s1
 obtain⟨D,kZ⟩:∃D,D=W.heap.size:=⟨_,rfl⟩
 obtain⟨l,an⟩:∃l,l=W.heap.size+1:=⟨_,rfl⟩
 have Jq:=run_enterLoop_outer (P:=c.P) (w:=W) fn a.tmps #[p] assign body
 rw[<-mV,Jp,<-an,<-kZ]at Jq
 rw[<-an,<-kZ]at s1
 obtain⟨oa,uP⟩:∃oa:σ->γ->aa aK,oa=λs g=>⟨some l,.is (.loop rec)⟩::⟨some D,.fH⟩::Ls s g:=⟨_,rfl⟩
 obtain⟨qa,Jr⟩:∃qa:ε->γ->aa aK,qa=λq g=>⟨some l,.is (.loop {rec with state:=.done,pending:=some (js q)})⟩::⟨some D,.fH⟩::Lx q g:=⟨_,rfl⟩
 have s2:bO c E (Lin++oa cb g0) a iY:=s1.perm (by
  rw[uP];exact(sS.trans (sS.cons _)).symm)
 have Ty:hJ (ks (Lin++oa cb g0)++c.b8) iY p1 fP:=by
  have h1:(J.lx f p1).holds (ks (Lin++oa cb g0)++c.b8) iY v:=by
   obtain⟨zl,h1,ad⟩:=s2.env gt _ bu;rw[Jo]at h1;cases h1;exact ad
  obtain⟨Tz,av,aS⟩:=h1;rw[BH]at av;have:Tz=fP:=by injection av with _ _ av;injection av with av;exact av.symm
  rw[<-this];exact aS
 have Js:bO c E ((Lin++oa cb g0)++[]) a iY:=by rw[ot];exact s2
 have Is:=Js.Na
 simp only[ks,List.nil_append]at Is
 have S3:BG c.P (.func (.yield l) #[] #[]) τ oa qa step (λcV W'=>Ext (ks (Lin++oa cb g0)++c.b8) iY cV W'):=by
  refine⟨l,rfl,λx s lW hs g A rW v2 jd hle bc=>?_⟩;have IT:=hle;rw[uP]at IT;obtain⟨o,dq,fl⟩:=IT.ok ⟨some l,.is (.loop rec)⟩ (by simp);have uy:o=.loop rec:=fl;subst uy;have aR:=run_yield (P:=c.P) (args:= #[v2]) dq (by rw[mV];rfl);refine⟨_,_,_,_,aR,roundIn_of_wpIn lJ ?_⟩;have av:rec.assign=assign:=by rw[mV]
  have aS:rec.body=body:=by rw[mV]
  have cM:rec.params= #[p]:=by rw[mV]
  have eW:rec.tmps=a.tmps:=by rw[mV]
  rw[av,aS,cM,eW];refine LG (n:=9) I ?_;have Sl:((#[p]:Array Tmp).zip #[v2]).foldl (λtmps (t,a)=>tmps.setIfInBounds t a) a.tmps=a.tmps.setIfInBounds p v2:=by simp
  rw[Sl];subst uP Jr;refine wpIn_mono ((tb x s lW hs g rW (ks (⟨some l,.is (.loop rec)⟩::⟨some D,.fH⟩::Ls s g)) A l D rec (by rw[mV])) {tmps:=a.tmps.setIfInBounds p v2,defers:=[]} rW ?_) ?_
  ·have lg:p<c.n:=by simpa using hp
   exact
   {defers:=rfl
    size:=by simp[s2.size]
    env:=λt oO fm=>by
     simp only[look]at fm;by_cases e:Nat.beq p t=true
     ·rw[e]at fm;simp only[cond_true,gl]at fm;subst fm;have:=fa.1 e;subst this;exact⟨v2,by simp[s2.size,lg],bc⟩
     simp only[jk]at e;rw[e]at fm;simp only[cond_false]at fm;obtain⟨u,h1,ad⟩:=s2.env t oO fm;have di:p≠t:=λh=>by rw[fa.2 h]at e;cases e
     exact⟨u,by rw[Oh di];exact h1,oO.mono jd ad⟩
    ef:=.refl _ _
    own:=hle.ok
    nodup:=hle.nodup
    lt:=hle.lt
    hh:=λk hk _=>hk
    fe:=hle.fe}
  intro e a3 atD hq;cases e with
  | normal=>
    obtain⟨Uo,TA,hb⟩:=hq
    refine⟨Uo,TA,LG (n:=9) I (wpIn_mono hb ?_)⟩
    intro e a5 J6 ND
    have fin:∀(jump:aE Code) {Lr:aa aK},bO ⟨c.P,c.n,rW,ks (⟨some l,.is (.loop rec)⟩::⟨some D,.fH⟩::Ls s g),A,some l,[]⟩ [] (⟨some l,.is (.loop {rec with state:=.busy})⟩::⟨some D,.fH⟩::Lr) a5 J6->
     ∃sI,(Instr.endRound l jump).run c.P J6=.ok (.bool jump.isNone) sI∧bO ⟨c.P,c.n,rW,ks (⟨some l,.is (.loop rec)⟩::⟨some D,.fH⟩::Ls s g),A,some l,[]⟩ [] (⟨some l,.is (.loop {rec with state:=if jump.isNone then .ready else .done,pending:=jump})⟩::⟨some D,.fH⟩::Lr) a5 sI:=λjump Lr jZ=>by
     obtain⟨o,h1,ad⟩:=jZ.own ⟨some l,.is (.loop {rec with state:=.busy})⟩ (by simp)
     have l0:o=.loop {rec with state:=.busy}:=ad
     subst l0
     exact⟨_,run_endRound jump h1,jZ.ux (i:=0) I I⟩
    cases lW with
    | inl cv=>
      obtain⟨rfl,ek,jZ⟩:=ND
      obtain⟨sI,bq,kY⟩:=fin none jZ
      refine⟨_,sI,bq,?_⟩
      have TB:({rec with state:=if (none:aE Code).isNone then .ready else .done,pending:=none}:Loop)=rec:=by rw[mV];rfl
      rw[TB]at kY
      exact kY.ends (ρ:=λ_:γ=>J.of true) (Lo:=λg=>⟨some l,.is (.loop rec)⟩::⟨some D,.fH⟩::Ls cv g) ek (zL _) (of_bool.2 I)
    | inr q=>
      obtain⟨aC,rfl,ek,jZ⟩:=ND
      obtain⟨sI,bq,kY⟩:=fin (some (js q)) jZ
      have key:k6 (ks (⟨some l,.is (.loop rec)⟩::⟨some D,.fH⟩::Ls s g)) A rW (λ_:γ=>J.of false) (λg=>⟨some l,.is (.loop {rec with state:=.done,pending:=some (js q)})⟩::⟨some D,.fH⟩::Lx q g) (.returned (.bool false)) sI:=
       kY.ends (ρ:=λ_:γ=>J.of false) (Lo:=λg=>⟨some l,.is (.loop {rec with state:=.done,pending:=some (js q)})⟩::⟨some D,.fH⟩::Lx q g) ek (zL _) (of_bool.2 I)
      exact Wf aC bq key
  |exit id=>exact hq.elim
  |goto t=>exact hq.elim
  |ret=>exact hq.elim
  |panic me=>exact hq.elim
  |outgrown=>exact hq.elim
 have Jt:Tx c.P f p1 Lin τ run oa qa:=by rw[uP];exact nf _ _ qa
 have A3:=Jt step cb g0 r aG c.b8 iY (.func (.yield l) #[] #[]) fP Is Ty S3
 have n9:a.eval (.tmp gt)=.func (.func f) #[] fP.toArray:=by simp[Act.eval,Jo,BH]
 refine⟨l,[M6 D],iY,{target:=.fn (.func f) fP.toArray,args:= #[.func (.yield l) #[] #[]]},iY,f,#[.func (.yield l) #[] #[]]++fP.toArray,iY,Jq,?_,λ_ _=>trivial,?_,λh=>by simp at h,?_⟩
 ·simp only[resolve,n9]
  simp[go_sem]
 ·simp[invoke,go_sem,cf.run]
 refine CallsIn.QA ?_
 have Sm:(#[.func (.yield l) #[] #[]]++fP.toArray:Array br)=(.func (.yield l) #[] #[]::fP).toArray:=by simp
 rw[Sm]
 refine A3.mono λe Up ⟨atE,ek,he,aW,aB,aV,ba,bq⟩=>?_
 subst he
 have sJ:=Js.after aW aB (by simpa[ks]using aV) (by simpa[ks]using ba)
 rw[ot]at sJ
 cases r with
 | inl cv=>
   simp only[Lr]at sJ
   subst uP
   have J7:bO c E (⟨some l,.is (.loop rec)⟩::⟨some D,.fH⟩::(Lin++Ls cv ek)) a Up:=sJ.perm (by
    exact sS.trans (sS.cons _))
   obtain⟨o,dq,fl⟩:=J7.own ⟨some l,.is (.loop rec)⟩ (by simp)
   have uy:o=.loop rec:=fl
   subst uy
   have oL:=Lc (P:=c.P) dq (by rw[mV];simp)
   have lg:rec.pending=none:=by rw[mV]
   rw[lg]at oL
   refine⟨none,_,oL,?_⟩
   have xC:=(J7.ux (i:=0) (cp':=.is (.loop {rec with state:=.exhausted})) (o':=.loop {rec with state:=.exhausted}) I I).sf 1
   rw[lg]at xC
   exact sg cv I ek D _ _ (xC.mark D)
 | inr q=>
   simp only[Lr]at sJ
   subst Jr
   have J7:bO c E (⟨some l,.is (.loop {rec with state:=.done,pending:=some (js q)})⟩::⟨some D,.fH⟩::(Lin++Lx q ek)) a Up:=sJ.perm (by
    exact sS.trans (sS.cons _))
   obtain⟨o,dq,fl⟩:=J7.own ⟨some l,.is (.loop {rec with state:=.done,pending:=some (js q)})⟩ (by simp)
   have uy:o=.loop {rec with state:=.done,pending:=some (js q)}:=fl
   subst uy
   have oL:=Lc (P:=c.P) dq (by simp)
   refine⟨some (js q),_,oL,?_⟩
   have xC:=(J7.ux (i:=0) (cp':=.is (.loop {rec with state:=.exhausted,pending:=some (js q)})) (o':=.loop {rec with state:=.exhausted,pending:=some (js q)}) I I).sf 1
   exact A2 q I ek D _ _ (xC.mark D)
def aiK{gt p:Nat}{assign body:Code}{f:FuncId}{p1:aa J}{Lin:aa aK}{α σ ε γ:Type}{τ:α->J}{run:∀{σ ε:Type},(α->σ->aE (σ⊕ε))->σ->aE (σ⊕ε)}
 {Ls:σ->γ->aa aK} {Lx:ε->γ->aa aK} {step:α->σ->aE (σ⊕ε)} {cb:σ} {g0:γ} {r:σ⊕ε} (js:ε->Code)
 (ag:c.rd=none) (cf:bH c.P f) (bu:look E gt=some (.lx f p1)) (nf:Ib c.P f p1 Lin τ run) (aG:run step cb=some r) (ar:L=Lin++Ls cb g0) (hp:Nat.blt p c.n=true)
 (tb:∀x s r,step x s=some r->∀g (nD:bo) (nL nE:aa Nat) (l D:Nat) (rec:Loop),rec.state=.ready->
  ay ⟨c.P,c.n,nD,nL,nE,some l,[]⟩ (Exit.then (J5 ⟨c.P,c.n,nD,nL,nE,some l,[]⟩ l body (J4 ⟨c.P,c.n,nD,nL,nE,some l,[]⟩ js l D {rec with state:=.busy} Ls Lx r)) (λ_ _ _=>False)) assign ((p,τ x)::E) (⟨some l,.is (.loop rec)⟩::⟨some D,.fH⟩::Ls s g))
 (sg:∀cv,r=.inl cv->∀g D,al {c with ds:=D::c.ds} Q .normal E (⟨some D,.fH⟩::(Lin++Ls cv g)))
 (A2:∀q,r=.inr q->∀g D,ay {c with ds:=D::c.ds} Q (js q) E (⟨some D,.fH⟩::(Lin++Lx q g))):
 ay c Q (.rangeFunc (.tmp gt) #[p] assign body) E L:=
 W7 (run:=run) js ag cf bu (λav aS qa=>nf.go (λs g=>av::aS::Ls s g) qa) aG ar hp tb sg A2
def agu{P:Program}{fn:Func}{R:Ending->bo->Prop}{a:Act}{W:bo}(h:bodyPost P fn R .ret a W):bodyPostM Fence.wide 9 P fn R .ret a W:=by
 obtain⟨h1,v,ad,aB⟩:=h;show LeavesInM Fence.wide 9 P fn a.tmps R a.defers .returning W;rw[h1];exact⟨v,ad,aB⟩
def al.lv{P:Program}{fn:Func}{R:Ending->bo->Prop}(k:al c (bodyPost P fn R) .ret E L):al c (bodyPost P fn R) .normal E L:=λa W s=>k a W s
def al.IH{fn:Func}{R:Ending->bo->Prop}(k:al c (bodyPost c.P fn R) .ret E L):al c (bodyPostM Fence.wide 9 c.P fn R) .ret E L:=λa W s=>agu (k a W s)
def al.yE{fn:Func}{R:Ending->bo->Prop}{D:Nat}(i:Nat)(ar:L[i]? =some ⟨some D,.fH⟩)(eR:c.ds=[D])(k:al {c with ds:=[]} (bodyPost c.P fn R) .ret E (L.set i ⟨some D,.is (.deferred none)⟩)):
 al c (bodyPostM Fence.wide 9 c.P fn R) .ret E L:=λa W s=>by
 obtain⟨o,h1,ad⟩:=s.own _ (fB ar)
 have l0:o=.deferred (some []):=ad
 subst l0
 have s2:=s.ux ar (cp':=.is (.deferred none)) (o':=.deferred none) I
 have gB:bO {c with ds:=[]} E (L.set i ⟨some D,.is (.deferred none)⟩) {a with defers:=[]} (W.putObj D (.deferred none)):=
  {defers:=rfl,size:=s2.size,env:=s2.env,ef:=s2.ef,own:=s2.own,nodup:=s2.nodup,lt:=s2.lt,hh:=s2.hh,fe:=s2.fe}
 obtain⟨_,v,aB,aV⟩:=k _ _ gB
 show LeavesInM Fence.wide 9 c.P fn a.tmps R a.defers .returning W
 rw[s.defers,eR]
 exact⟨by simp,.inl ⟨D,_,rfl,run_takeDeferred h1,v,aB,aV⟩⟩
end
def dV.atZ{P:Program}{f:FuncId}{fn:Func}{code:Code}{n:Nat}{τs:aa J}{ρ:J}(aW:P.funcs[f]? =some fn)(hb:fn.body=some code)(aM:fn.ntmps=n)(hlen:Nat.ble τs.length n=true)
 (h:∀W A,ay ⟨P,n,W,[],A,none,[]⟩ (bodyPostM Fence.wide 9 P fn λe W'=> ∃v,e=.returned v∧Fr [] W W'∧ρ.holds A W' v) code (params 0 τs) []):dV P f τs ρ:=by
 intro A W vs e7 bc
 refine(callsIn_wide (n:=9)).1 (callsIn_of_wp_marks aW hb lJ (h W A _ _ ?_))
 have an:=bc.length
 have hle:τs.length<=n:=pM hlen
 exact
 {defers:=rfl
  size:=by simp[aM,an];omega
  env:=λt τ kJ=>by
   obtain⟨_,v,ad,aB⟩:=Ak bc 0 t τ kJ;refine⟨v,?_,aB⟩;have b9:t<vs.length:=(ir.1 ad).1;rw[v8 (by simpa using b9)];simpa using ad
  ef:=.refl _ _
  own:=by simp
  nodup:=by simp[ks]
  lt:=by simp[ks]
  hh:=by simp[ks]
  fe:=λk hk=>⟨e7 k hk,by simp[ks]⟩}
def bL.ofM{P:Program}{f:FuncId}{fn:Func}{code:Code}{n:Nat}{τs:aa J}{Lin:aa aK}{δ:Type}{ρ:δ->J}{Lo:δ->aa aK}(aW:P.funcs[f]? =some fn)(hb:fn.body=some code)(aM:fn.ntmps=n)(hlen:Nat.ble τs.length n=true)
 (h:∀W A,ay ⟨P,n,W,ks Lin,A,none,[]⟩ (bodyPostM Fence.wide 9 P fn (k6 (ks Lin) A W ρ Lo)) code (params 0 τs) Lin):bL P f τs Lin ρ Lo:=by
 intro A W vs e7 lR b9 iW bc
 refine(callsIn_wide (n:=9)).1 (callsIn_of_wp_marks aW hb lJ (h W A _ _ ?_))
 have an:=bc.length
 have hle:τs.length<=n:=pM hlen
 exact
 {defers:=rfl
  size:=by simp[aM,an];omega
  env:=λt τ kJ=>by
   obtain⟨_,v,ad,aB⟩:=Ak bc 0 t τ kJ;refine⟨v,?_,aB⟩;have b9:t<vs.length:=(ir.1 ad).1;rw[v8 (by simpa using b9)];simpa using ad
  ef:=.refl _ _
  own:=iW
  nodup:=lR
  lt:=b9
  hh:=λk hk _=>hk
  fe:=e7}
def PW{τ σ:J}(h:τ.Flat)(k:σ.Flat):(J.bW [τ,σ]).Flat:=λA W cV W' v ⟨vs,h1,ad⟩=>by
 refine⟨vs,h1,?_⟩;generalize vs.toList=l at ad;cases ad with
 | cons a r=>cases r with
   |cons b r=>cases r;exact .cons (h _ _ _ _ _ a) (.cons (k _ _ _ _ _ b) .nil)
section
variable{c:cP}{E:aa (Nat×J)}{L:aa aK}{ops:Array Oper}{Q:Exit->Act->bo->Prop}
variable{d:aE Tmp}{ty:bJ}{pos:String}{af:Array Edge}{g:aE (Nat×Bool)}{x y:cw}{t t2:bJ}
def bj.via{o:Oper}{τ:J}{E':aa (Nat×J)}{L':aa aK}(aW:τ.Flat)(hs:∀a W,bO c E L a W->bO c E' L' a W)(h:bj c E' L' o τ):bj c E L o τ:=λa W st=>by
 have:=h a W (hs a W st);unfold h3 at this⊢;exact tY (λiI W' ⟨v,h1,ad,aB⟩=>⟨v,h1,ad,aW _ _ _ _ _ aB⟩) this
def bO.tell{a:Act}{W:bo}(s:bO c E L a W){gY:Nat}{σ τ:J}(an:look E gY=some σ)(h:∀v,σ.holds (ks L++c.b8) W v->τ.holds (ks L++c.b8) W v):bO c ((gY,τ)::E) L a W:=by
 refine {s with env:=λt oO fm=>?_};simp only[look]at fm;by_cases e:Nat.beq gY t=true
 ·rw[e]at fm;simp only[cond_true,gl]at fm;subst fm;have:=fa.1 e;subst this;obtain⟨v,h1,ad⟩:=s.env gY _ an;exact⟨v,h1,h v ad⟩
 simp only[jk]at e;rw[e]at fm;exact s.env t oO fm
def bO.aaC{a:Act}{W:bo}(s:bO c E L a W){i p:Nat}{α:Type}[ak α]{z:α}(ar:L[i]? =some ⟨some p,.var z⟩):
 (J.ptr z).holds (ks (L.set i ⟨none,.dead⟩)++c.b8) W (.pointer (some ⟨p,0,none⟩)):=by
 obtain⟨o,fI,cs,T,rfl,aG⟩:=s.own _ (fB ar)
 have hlen:cs.toList.length=ak.size α:=ak.len aG
 refine⟨p,0,cs,T,(0,0),rfl,s.HO ar,fI,by simp at hlen;omega,?_⟩
 rw[wh,<-hlen,iD]
 have oJ:=De (L:=L) (i:=i) (cp:=.dead)
 exact ak.mono (.drop λk hm=>by
  rcases cF.1 hm with hm|hm
  ·exact cF.2 (.inl (oJ.subset hm))
  exact cF.2 (.inr hm)) aG
abbrev Ju(f p:Nat):br:=.func (.func f) #[.pointer (some ⟨p,0,none⟩)] #[]
def am6{f p:Nat}(au:aU c E L x (.eq (.pointer (some ⟨p,0,none⟩)))):bj c E L ⟨d,.makeFunc (.func f) #[x] #[],ty,pos,af,g⟩ (.eq (Ju f p)):=.pure λa W s=>by
 have h:=au a W s;refine⟨_,?_,rfl⟩;have cU:a.eval x=.pointer (some ⟨p,0,none⟩):=h;simp[execOp,Instr.makeFunc,cU,Ju]
def akg{f p:Nat}{α β γ δ:Type}[ak α][ak β][ak γ][ak δ]{z:δ}{F:α->β->aE γ}{P:Program}(cf:bH P f)(h:∀x y r,F x y=some r->dV P f [.ptr z,.of x,.of y] (.of r)){A:aa Nat}{W:bo}
 (hp:(J.ptr z).holds A W (.pointer (some ⟨p,0,none⟩))):(J.Bn P F).holds A W (Ju f p):=
 ⟨f,_,#[],rfl,cf,λcV W' e e7 x y r oX uY ku bc BH=>by simpa using h x y r ku cV W' [_,oX,uY] e7 (.cons (J.mono _ e hp) (.cons bc (.cons BH .nil)))⟩
def bj.MQ{o:Oper}{τ σ:J}{p:Nat}{α:Type}[ak α]{z:α}(i gY:Nat)(an:look E gY=some σ)(bc:∀A W v,σ.holds A W v->v=.pointer (some ⟨p,0,none⟩))(ar:L[i]? =some ⟨some p,.var z⟩)(aW:τ.Flat)
 (h:bj c ((gY,.ptr z)::E) (L.set i ⟨none,.dead⟩) o τ):bj c E L o τ:=
 .via aW (λa W s=>(s.kill i).tell (σ:=σ) an (λv bT=>by rw[bc _ _ _ bT];exact s.aaC ar)) h
def bj.akY{o:Oper}{τ:J}{p f:Nat}{α β γ δ:Type}[ak α][ak β][ak γ][ak δ]{z:δ}{F:α->β->aE γ}(i gY:Nat)(an:look E gY=some (.eq (Ju f p)))(ar:L[i]? =some ⟨some p,.var z⟩)(cf:bH c.P f)
 (ku:∀x y r,F x y=some r->dV c.P f [.ptr z,.of x,.of y] (.of r)) (aW:τ.Flat) (h:bj c ((gY,.Bn c.P F)::E) (L.set i ⟨none,.dead⟩) o τ):bj c E L o τ:=
 .via aW (λa W s=>(s.kill i).tell an (λv bT=>by have ar9:v=Ju f p:=bT;rw[ar9];exact akg cf ku (s.aaC ar))) h
def bj.am5{o:Oper}{τ:J}{p cap T:Nat}{key:aE Nat}{β γ:Type}[ak β][ak γ]{b b':β}{xs:aa γ}{os os':aa (Nat×br)}(l:aP β (aa γ))(i j q:Nat)(gh:Nat.beq i j=false)(ar:L[i]? =some ⟨some p,.cu b os⟩)(tN:L[j]? =some ⟨key,.row T xs cap⟩)
 (hq:os[q]? =some (l.off,aQ key xs.length cap)) (hb:l.set b xs=b') (sB:vn os l.off=os') (aW:τ.Flat) (h:bj c E ((L.set j ⟨none,.dead⟩).set i ⟨some p,.cu b' os'⟩) o τ):bj c E L o τ:=
 .via aW (λa W s=>s.nx l (λe=>by rw[e,nh]at gh;cases gh) ar tN q hq hb sB) h
def bj.akX{o:Oper}{τ:J}{p cap T:Nat}{key:aE Nat}{β γ:Type}[ak β][ak γ]{b b':β}{xs:aa γ}{os os':aa (Nat×br)}(l:aP β (aa γ))(i j q gY:Nat)(gh:Nat.beq i j=false)(ar:L[i]? =some ⟨some p,.cu b os⟩)(tN:L[j]? =some ⟨key,.row T xs cap⟩)
 (hq:os[q]? =some (l.off,aQ key xs.length cap)) (hb:l.set b xs=b') (sB:vn os l.off=os') (qU:look E gY=some (.eq (aQ key xs.length cap))) (aW:τ.Flat) (h:bj c ((gY,.of xs)::E) ((L.set j ⟨none,.dead⟩).set i ⟨some p,.cu b' os'⟩) o τ):bj c E L o τ:=
 .via aW (λa W s=>s.MK l (λe=>by rw[e,nh]at gh;cases gh) ar tN q hq hb sB qU) h
def bj.aad{o:Oper}{τ:J}{p:Nat}{β:Type}[ak β]{b:β}(i:Nat)(ar:L[i]? =some ⟨some p,.cu b []⟩)(aW:τ.Flat)(h:bj c E (L.set i ⟨some p,.var b⟩) o τ):bj c E L o τ:=
 .via aW (λa W s=>s.Ie (cp':=.var b) ar (λo ⟨cs,T,h1,ad⟩=>⟨cs,T,h1,ad.1⟩) id) h
def WE{P:Program}{T:bJ}{e:bJ}(h:P.underlying T=some (.pointer e))(p:Addr)(W:bo)(n:Nat):(Op.equalIn (n+1) T (.pointer (some p)) (.pointer none)).run P W=.ok false W:=by
 simp[Op.equalIn,ep h]
def H7{p:Addr}{e:bJ}(hu:c.P.underlying t=some (.pointer e))(au:aU c E L x (.eq (.pointer (some p)))):bj c E L ⟨d,.binOp .eql t x (.const (.pointer none)) t2,ty,pos,af,g⟩ (.of false):=.pure λa W s=>by
 have aM:a.eval (.const (.pointer none))=.pointer none:=rfl;have h1:a.eval x=.pointer (some p):=au a W s;refine⟨.bool false,?_,of_bool.2 I⟩;simp only[execOp,eqGuard,binOp,h1,aM,Op.equal,Op.maxDepth];simp[WE hu p W 9999]
def ajJ{γ:Type}[ak γ]{r:γ}{e:bJ}(hu:c.P.underlying t=some (.pointer e))(au:aU c E L x (.ptr r)):bj c E L ⟨d,.binOp .eql t x (.const (.pointer none)) t2,ty,pos,af,g⟩ (.of false):=.pure λa W s=>by
 have aM:a.eval (.const (.pointer none))=.pointer none:=rfl;obtain⟨b,off,cur,T,il,h1,_⟩:=au a W s;refine⟨.bool false,?_,of_bool.2 I⟩;simp only[execOp,eqGuard,binOp,h1,aM,Op.equal,Op.maxDepth];simp[WE hu _ W 9999]
def ay.bt{code:Code}(i:Nat){e:aK}(h:L[i]? =Option.some e)(k:ay c Q code E (e::L.eraseIdx i)):ay c Q code E L:=λa W s=>k a W (s.bt h)
def ajC{p:aE Addr}:∀A W v,(J.eq (.pointer p)).holds A W v->v.oneCell'=true:=λA W v h=>by
 have cU:v=.pointer p:=h;rw[cU];rfl
def dx(c:cP)(E:aa (Nat×J))(L:aa aK)(o:Oper)(τ:J):Prop:=
 ∀a W,bO c E L a W->h3 c.P o a W λv W'=>bO c E L a W'∧τ.holds (ks L++c.b8) W' v
def ae.eH{o:Oper}{rest:aa Oper}{d:Nat}{τ:J}(h:dx c E L o τ)(bu:o.guard=none)(hd:o.dst=some d)(aM:Nat.blt d c.n=true)
 (k:ae c ops Q rest ((d,τ)::E) L):ae c ops Q (o::rest) E L:=λa W s=>
 jm bu (h a W s) λv W' ⟨f,bc⟩=>by
  rw[hd];exact k _ _ (f.put (by simpa using aM) bc)
def ae.xy{o:Oper}{rest:aa Oper}{d j g:Nat}{b want:Bool}{τ:J}(h:b=want->dx c E L o τ)(bu:o.guard=some (j,want))(aC:(ops[j]?).bind (·.dst)=some g)
 (an:look E g=some (.of b)) (hd:o.dst=some d) (aM:Nat.blt d c.n=true)
 (k:ae c ops Q rest ((d,.cond (b=want) τ)::E) L):ae c ops Q (o::rest) E L:=λa W s=>by
 have aR:=Dv aC an s
 unfold cP.sw wpListIn
 by_cases hb:b=want
 ·rw[bh (by simp[Region.wanted,bu,aR,hb])]
  refine((h hb a W s).wpIn λv W' ⟨f,bc⟩=>?_)
  rw[hd]
  exact k _ _ (f.put (by simpa using aM) ⟨λ_=>bc,λh=>absurd hb h⟩)
 rw[bf (by simp[Region.wanted,bu,aR,hb])]
 rw[hd]
 exact⟨λ_ _=>trivial,k _ _ (s.put (by simpa using aM) ⟨λh=>absurd h hb,λ_=>rfl⟩)⟩
def tv(L:aa aK):aa Nat->aa aK->Prop
 |[],[]=>True
 |i::is,e::es=>L[i]? =some e∧tv L is es
 |_,_=>False
def Wk{L:aa aK}{i j:Nat}(h:i≠j):(L.eraseIdx i)[if j<i then j else j-1]? =L[j]? :=by
 rw[UY];by_cases h1:j<i
 ·simp[h1]
 have: ¬(j-1<i):=by omega
 simp only[h1,ou,this];congr 1;omega
def tv.shift{L:aa aK}{i:Nat}:∀{is:aa Nat} {es:aa aK},tv L is es->i∉is->tv (L.eraseIdx i) (is.map λj=>if j<i then j else j-1) es
 |[],[],_,_=>trivial
 | j::is,e::es,⟨h1,ad⟩,aM=>by
   simp only[dP,x5]at aM;exact⟨by rw[Wk aM.1];exact h1,tv.shift ad aM.2⟩
def Wp{i:Nat}:∀{is:aa Nat},is.Nodup->i∉is->(is.map λj=>if j<i then j else j-1).Nodup
 |[],_,_=>by simp
 | j::is,h,aM=>by
   simp only[dP,x5]at aM;obtain⟨h1,ad⟩:=pP.1 h;refine pP.2 ⟨λhm=>?_,Wp ad aM.2⟩;obtain⟨k,hk,he⟩:=ic.1 hm;have rN:k≠i:=λe=>aM.2 (e▸hk);have auB:k≠j:=λe=>h1 (e▸hk);have jN:j≠i:=λe=>aM.1 e.symm;have acR:(if k<i then k else k-1)=(if j<i then j else j-1):=he;split at acR <;> split at acR <;> omega
def tv.perm:∀{is:aa Nat} {es L:aa aK},tv L is es->is.Nodup->∃R,L.Perm (es++R)
 |[],[],L,_,_=>⟨L,KZ _⟩
 | i::is,e::es,L,⟨h1,ad⟩,aM=>by
   obtain⟨py,uL⟩:=pP.1 aM;obtain⟨R,hF⟩:=(ad.shift py).perm (Wp uL py);exact⟨R,(x9 h1).trans (hF.cons e)⟩
 termination_by is=>is.length
 decreasing_by simp
def dx.call{f:FuncId}{xs:aa cw}{ats:Array bJ}{τs:aa J}{Lin:aa aK}{ρ:Unit->J}{Lo:Unit->aa aK}(is:aa Nat)(cf:bH c.P f)(h:bL c.P f τs Lin ρ Lo)
 (au:jr c E L xs τs) (aM:decide is.Nodup=true) (hp:tv L is Lin) (an:Lo ()=Lin):dx c E L ⟨d,.call ⟨.value (.func f),xs.toArray,ats⟩,ty,pos,af,g⟩ (ρ ()):=λa W s=>by
 obtain⟨R,hF⟩:=hp.perm (xM aM)
 have cv:=s.perm hF
 have rO:=AD hF
 have NF:∀k,k∈ks L++c.b8↔k∈ks (Lin++R)++c.b8:=λk=>by
  simp only[cF];rw[rO.mem_iff]
 have bT:hJ (ks (Lin++R)++c.b8) W τs (xs.map a.eval):=(au.Za s).mono (.drop λk hm=>(NF k).2 hm)
 have a6:=HC (d:=d) (ty:=ty) (pos:=pos) (af:=af) (g:=g) (ats:=ats) cf h cv bT
 unfold h3 at a6⊢
 refine tY (λiI W' ⟨v,h1,bb,ad,aB⟩=>⟨v,h1,?_,?_⟩) a6
 ·cases bb;rw[an]at ad;exact ad.perm hF.symm
 cases bb
 rw[an]at aB
 exact J.mono _ (.drop λk hm=>(NF k).1 hm) aB
def tv.set{L:aa aK}{i j:Nat}{x y av aS:aK}(gh:i≠j)(aq:L[i]? =some av)(aC:L[j]? =some aS):∃R,L.Perm (av::aS::R)∧((L.set i x).set j y).Perm (x::y::R):=by
 have auC:tv L [i,j] [av,aS]:=⟨aq,aC,trivial⟩;have hle:∀M:aa aK,∀u v:aK,M[i]? =some u->M[j]? =some v->M.Perm (u::v::(M.eraseIdx i).eraseIdx (if j<i then j else j-1)):=λM u v h1 ad=>
  (x9 h1).trans ((x9 (by rw[Wk gh];exact ad)).cons u)
 refine⟨_,hle L av aS aq aC,?_⟩;have iz:=(ir.1 aq).1;have pA:=(ir.1 aC).1;have h1:=hle ((L.set i x).set j y) x y (by rw[xJ (x4 gh),Fi iz]) (by rw[Fi (by simpa using pA)]);have ad:((L.set i x).set j y).eraseIdx i=(L.eraseIdx i).set (if j<i then j else j-1) y:=by
  apply nR;intro k;simp only[UY,qn,xP,List.length_eraseIdx,iz,lX];by_cases hk:k<i <;> by_cases jN:j<i <;> simp only[hk,jN,lX,ou] <;> (repeat' split) <;> first|rfl|omega|skip
 rw[ad,OB]at h1;exact h1
def ae.akZ{rest:aa Oper}{bb:Nat}{f:FuncId}{xs:aa cw}{ats:Array bJ}{τs:aa J}{av aS:aK}{δ:Type}{ρ:δ->J}{Lo:δ->aa aK}(lo:δ->aK)(i j:Nat)(cf:bH c.P f)(h:bL c.P f τs [av,aS] ρ Lo)
 (au:jr c E L xs τs) (gh:Nat.beq i j=false) (aq:L[i]? =some av) (aC:L[j]? =some aS) (hP:∀q,Lo q=[lo q]) (aM:Nat.blt bb c.n=true) (k:∀q,ae c ops Q rest ((bb,ρ q)::E) ((L.set i (lo q)).set j ⟨none,.dead⟩)):
 ae c ops Q (⟨some bb,.call ⟨.value (.func f),xs.toArray,ats⟩,ty,pos,af,none⟩::rest) E L:=λa W s=>by
 have di:i≠j:=λe=>by rw[e,nh]at gh;cases gh
 obtain⟨R,hF,_⟩:=tv.set (x:=av) (y:=aS) di aq aC
 have cv:=s.perm hF
 have rO:=AD hF
 have NF:∀k,k∈ks L++c.b8↔k∈ks ([av,aS]++R)++c.b8:=λk=>by
  simp only[cF];rw[rO.mem_iff];simp[fL]
 have bT:hJ (ks ([av,aS]++R)++c.b8) W τs (xs.map a.eval):=(au.Za s).mono (.drop λk hm=>(NF k).2 hm)
 refine jm I (HC (Lin:=[av,aS]) cf h cv bT) λv W' ⟨q,ad,aB⟩=>?_
 refine k q _ _ ?_
 obtain⟨vY,Tk,tB⟩:=tv.set (x:=lo q) (y:=⟨none,.dead⟩) di aq aC
 have asa:(av::aS::R).Perm (av::aS::vY):=hF.symm.trans Tk
 have abX:R.Perm vY:=(asa.cons_inv).cons_inv
 rw[hP]at ad aB
 have aV:bO c E (lo q::⟨none,.dead⟩::R) a W':= {ad with
  own:=λe he=>by
   simp only[dP]at he;rcases he with rfl|rfl|he
   ·exact ad.own _ (by simp)
   ·trivial
   exact ad.own _ (by simp[he])}
 have ba:bO c E ((L.set i (lo q)).set j ⟨none,.dead⟩) a W':=aV.perm (((abX.cons _).cons _).trans tB.symm)
 have bq:(ks ((L.set i (lo q)).set j ⟨none,.dead⟩)).Perm (ks (lo q::R)):=by
  have:=AD (tB.trans ((abX.symm.cons _).cons _));simpa[ks]using this
 refine ba.put (by simpa using aM) (J.mono _ (.drop λk hm=>?_) aB)
 rcases cF.1 hm with hm|hm
 ·exact cF.2 (.inl (bq.mem_iff.1 hm))
 exact cF.2 (.inr hm)
def Th{L:aa aK}{i:Nat}{x e:aK}(h:L[i]? =some x):(L.set i e)[i]? =some e:=by
 rw[Fi (ir.1 h).1]
def acC{L:aa aK}{i j:Nat}{r:aE aK}{e:aK}(aM:Nat.beq j i=false)(h:L[i]? =r):(L.set j e)[i]? =r:=by
 rw[xJ (λe=>by rw[e,nh]at aM;cases aM)];exact h
def aiU{p lo cap:Nat}{α:Type}[ak α](aR:aU c E L y (.eq (jL (some p) lo 0 cap (ak.size α)))):Src c E L y 0 ([]:aa α):=λa W s=>by
 have h1:a.eval y=_:=aR a W s;have ag:=KD (P:=c.P) W (if cap=lo then(⟨p,0,none⟩:Addr)else⟨p,lo*ak.size α,none⟩) [] (λj v bc=>by simp at bc);refine⟨by rw[h1];rfl,[],?_,⟨by simp,λi aq=>by simp at aq⟩,by simp⟩;rw[h1];simp only[jL,Builtin.firstCells,List.length_nil,zY];exact ag
def ae.aaD{rest:aa Oper}{i e p bb m N cap T:Nat}{α:Type}[ak α]{xs vs r:aa α}(hu:c.P.underlying t=some (.slice e))(e1:bU c.P e α)
 (au:aU c E L x (.eq (aQ (some p) m cap))) (aR:Src c E L y N vs) (jz:vs.length=N) (ar:L[i]? =some ⟨some p,.row T xs cap⟩) (hm:m+N<=xs.length) (aG:xs.take m++vs++xs.drop (m+N)=r) (aM:Nat.blt bb c.n=true)
 (k:ae c ops Q rest ((bb,.eq (aQ (some p) (m+N) cap))::E) (L.set i ⟨some p,.row T r cap⟩)):
 ae c ops Q (⟨some bb,.call ⟨.builtin .append,#[x,y],#[t,t]⟩,ty,pos,af,none⟩::rest) E L:=λa W s=>by
 subst jz
 subst aG
 have h1:a.eval x=_:=au a W s
 obtain⟨an,cells,ag,pB,EF⟩:=aR a W s
 obtain⟨o,a6,bT⟩:=s.own _ (fB ar)
 have asb:=bT
 obtain⟨vS,rfl,g1,g2,g3,g4⟩:=bT
 obtain⟨cs,fl,M8,tt⟩:=Qa (lo:=m) hm asb pB
 have uI:cs=vS:=by injection fl with h _;exact h.symm
 subst uI
 obtain⟨hE,eo,ee⟩:=e1.info
 have b5:=FN (P:=c.P) p (m*ak.size α) T cells 0 cs W a6 M8 EF
 simp only[Nat.add_zero]at b5
 have anG:m+vs.length<=cap:=by omega
 have kH:(execOp a.eval ⟨some bb,.call ⟨.builtin .append,#[x,y],#[t,t]⟩,ty,pos,af,none⟩).run c.P W=.ok (.value (aQ (some p) (m+vs.length) cap)) (W.setRow p (cs.toList.take (m*ak.size α)++cells++cs.toList.drop (m*ak.size α+cells.length)).toArray):=by
  simp[execOp,resolve,invoke,builtin,Builtin.append_,h1,aQ,ep hu,an,Go.sizeOf,typeInfo,eo,ee,anG,ag,lp,b5]
 refine jm I (R:=λv iY=>v=aQ (some p) (m+vs.length) cap∧iY=W.setRow p (cs.toList.take (m*ak.size α)++cells++cs.toList.drop (m*ak.size α+cells.length)).toArray) (.mR kH ⟨rfl,rfl⟩) λv iY ⟨bc,hw⟩=>?_
 subst bc
 subst hw
 exact k _ _ ((s.store ar a6 tt).put (by simpa using aM) I)
def aiG{i T cap:Nat}{key:aE Nat}{α:Type}[ak α]{xs:aa α}{e:bJ}{lo aq Uq:cw}{m n k:Nat}(hu:c.P.underlying t=some (.slice e))(e1:bU c.P e α)(au:aU c E L x (.eq (aQ key xs.length cap)))
 (ar:L[i]? =some ⟨key,.row T xs cap⟩) (hP:aU c E L lo (.of (m:Int))) (gE:aU c E L aq (.of (n:Int))) (NG:aU c E L Uq (.of (k:Int))) (h:m<=n∧n<=k∧k<=xs.length):
 bj c E L ⟨d,.slice t x (some lo) (some aq) (some Uq),ty,pos,af,g⟩ .any:=.pure λa W s=>by
 obtain⟨ad,aB,aV⟩:=h
 obtain⟨hE,eo,ee⟩:=e1.info
 have h1:a.eval x=_:=au a W s
 have av:=of_int.1 (hP a W s)
 have aS:=of_int.1 (gE a W s)
 have cM:=of_int.1 (NG a W s)
 have yD:∃atF rV,aQ key xs.length cap=.slice atF rV cap∨(aQ key xs.length cap=.slice none 0 0∧k=0):=by
  cases key with
  |some p=>exact⟨_,_,.inl I⟩
  | none=>
    have a6:=s.own _ (fB ar)
    have p7:xs=[]:=a6.1
    subst p7
    exact⟨none,0,.inr ⟨rfl,by simpa using aV⟩⟩
 have asc:xs.length<=cap∨key=none:=by
  cases key with
  |none=>exact .inr I
  | some p=>
    obtain⟨o,a6,cs,rfl,g1,g2,_⟩:=s.own _ (fB ar)
    exact .inl g2
 cases key with
 | none=>
   have a6:=s.own _ (fB ar)
   have p7:xs=[]:=a6.1
   subst p7
   have asd:k=0:=by simpa using aV
   subst asd
   have vQ:n=0:=by omega
   subst vQ
   have h8:m=0:=by omega
   subst h8
   have hb:∀(code:BoundsCode),(Instr.sliceBound (.int .i64 0) 0 code).run c.P W=.ok 0 W:=λcode=>s0 (n:=0) (m:=0) (iS _) I
   have ase:a.eval lo=.int .i64 0:=av
   have asf:a.eval aq=.int .i64 0:=aS
   have asg:a.eval Uq=.int .i64 0:=cM
   refine⟨.slice none 0 0,?_,trivial⟩
   simp[execOp,Instr.sliceAt,Instr.slice,Instr.sliceBounds,h1,aQ,ep hu,Go.sizeOf,typeInfo,eo,ase,asf,asg,hb]
 | some p=>
   have aqx:k<=cap:=by
    rcases asc with h|h
    ·omega
    cases h
   refine⟨.slice (some (if k=m then⟨p,0,none⟩else⟨p,m*ak.size α,none⟩)) (n-m) (k-m),?_,trivial⟩
   have hb:∀(a b:Nat) (code:BoundsCode),a<=b->(Instr.sliceBound (.int .i64 (a:Int)) b code).run c.P W=.ok a W:=λa b code h=>s0 h I
   simp[execOp,Instr.sliceAt,Instr.slice,Instr.sliceBounds,h1,aQ,ep hu,Go.sizeOf,typeInfo,eo,ee,av,aS,cM,hb k cap _ aqx,hb n k _ aB,hb m n _ ad,lp]
   split <;> rfl
def akT{p n cap e:Nat}(hu:c.P.underlying t=some (.slice e))(au:aU c E L x (.eq (aQ (some p) n cap))):bj c E L ⟨d,.call ⟨.builtin .len,#[x],#[t]⟩,ty,pos,af,g⟩ (.of (n:Int)):=.pure λa W s=>by
 have h1:a.eval x=_:=au a W s;refine⟨.int .i64 n,?_,of_int.2 I⟩;simp[execOp,resolve,invoke,builtin,Builtin.len_,h1,aQ,ep hu,goInt]
def ae.akS{rest:aa Oper}{i e p bb m n cap T:Nat}{α:Type}[ak α]{xs:aa α}(hu:c.P.underlying t=some (.slice e))(e1:bU c.P e α)
 (au:aU c E L x (.eq (jL (some p) 0 (m-0) cap (ak.size α)))) (aR:aU c E L y (.eq (jL (some p) n (xs.length-n) cap (ak.size α)))) (ar:L[i]? =some ⟨some p,.row T xs cap⟩) (vL:m<n) (aM:n<=xs.length) (hd:Nat.blt bb c.n=true)
 (k:ae c ops Q rest ((bb,.eq (aQ (some p) (m+(xs.length-n)) cap))::E) (L.set i ⟨some p,.row T (xs.take m++xs.drop n++xs.drop (m+(xs.length-n))) cap⟩)):
 ae c ops Q (⟨some bb,.call ⟨.builtin .append,#[x,y],#[t,t]⟩,ty,pos,af,none⟩::rest) E L:=by
 have mZ:aU c E L x (.eq (aQ (some p) m cap)):=by
  rw[Dw,Nat.sub_zero]at au;exact au
 rcases sW n xs.length with p8|p8
 ·have hs:=L5 (k:=xs.length-n) aR ar (by omega) (by omega)
  rw[show(xs.drop n).take (xs.length-n)=xs.drop n by rw[pL (by simp)]]at hs
  exact ae.aaD hu e1 mZ hs (by simp) ar (by omega) I hd k
 have bC:xs.length-n=0:=by omega
 rw[bC]at aR k
 have hs:=aiU (α:=α) aR
 rw[show([]:aa α)=xs.drop n by rw[Cj p8]]at hs
 exact ae.aaD hu e1 mZ hs (by simp;omega) ar (by omega) I hd k
def al.again{z:Exit}{key:aE Nat}{cp:e0}(cp':e0)(i:Nat)(ar:L[i]? =some ⟨key,cp⟩)(h:∀A W o,cp.holds A W o->cp'.holds A W o)(aM:cp.pY->cp'.pY)(k:al c Q z E (L.set i ⟨key,cp'⟩)):al c Q z E L:=λa W s=>
 k a W (s.again ar h aM)
end
def IM{α:Type}(xs:aa α)(i j:Int):aE (aa α):=if 0<=i∧i<=j∧j<=xs.length then some (xs.take i.toNat++xs.drop j.toNat)else none
def ahv{α:Type}{xs r:aa α}{i j:Int}(h:IM xs i j=some r):∃m n:Nat,i=m∧j=n∧m<=n∧n<=xs.length∧r=xs.take m++xs.drop n:=by
 unfold IM at h;split at h
 ·rename_i ag;refine⟨i.toNat,j.toNat,by omega,by omega,by omega,by omega,?_⟩;cases h;rfl
 cases h
abbrev aj(α:Type):=(α->Prop)->Prop
def aj.of{α:Type}(o:aE α):aj α:=λQ=> ∃r,o=some r∧Q r
def aj.bind{α β:Type}(m:aj α)(k:α->aj β):aj β:=λQ=>m λr=>k r Q
def aj.ret{α:Type}(x:α):aj α:=λQ=>Q x
def oD{σ ε:Type}:Nat->(σ->aj (σ⊕ε))->σ->aj ε
 |0,_,_=>λ_=>False
 | n+1,b,s=>λQ=>b s λr=>match r with
   | .inl cv=>oD n b cv Q
   | .inr e=>Q e
abbrev aL(bM:Type):=aa (Nat×bM)
abbrev Ref:=aE Nat
instance:ak Ref:=.scalar (λx=>Value.pointer (x.map λp=>⟨p,0,none⟩)) λ_=>rfl
def yo{A W v}{x:Ref}:(J.of x).holds A W v↔v=.pointer (x.map λp=>⟨p,0,none⟩):=
 ⟨λh=>pS h.1 h.2,λh=>by subst h;exact⟨rfl,rfl⟩⟩
instance:a7 Ref:=⟨[.pointer none],λ_ _=>rfl⟩
def aj.mk{bM:Type}(hp:aL bM)(k:bM):aj (Nat×aL bM):=λQ=> ∀a:Nat×aL bM,a.1∉hp.map (·.1)∧a.2=(a.1,k)::hp->Q a
def aj.qv{bM α:Type}{hp:aL bM}{c:bM}{k:Nat×aL bM->aj α}{R:α->Prop}(h:aj.bind (aj.mk hp c) k R)(a:Nat×aL bM)(aY:a.1∉hp.map (·.1)∧a.2=(a.1,c)::hp):k a R:=h a aY
class ew (bM:Type)where
 gU:Nat->bM->aa aK
 root:∀p k,∃e∈gU p k,e.key=some p
def a1{bM:Type}[ew bM]:aL bM->aa aK
 |[]=>[]
 |(p,k)::r=>ew.gU p k++a1 r
def pat{bM:Type}:aL bM->Nat->aE bM
 |[],_=>none
 |(q,k)::r,p=>if q=p then some k else pat r p
def cL{bM:Type}:aL bM->Nat->bM->aL bM
 |[],_,_=>[]
 |(q,k)::r,p,k'=>if q=p then(q,k')::r else(q,k)::cL r p k'
def eb{bM:Type}(hp:aL bM):aa Nat:=hp.map (·.1)
def wv{bM:Type}[ew bM]:∀{hp:aL bM} {p:Nat} {k:bM},pat hp p=some k->∃R,(a1 hp).Perm (ew.gU p k++R)∧∀k',(a1 (cL hp p k')).Perm (ew.gU p k'++R)
 |[],_,_,h=>by simp[pat]at h
 | (q,xD)::r,p,k,h=>by
   simp only[pat]at h;split at h
   ·rename_i e;subst e;simp only[gl]at h;subst h;exact⟨a1 r,.refl _,λk'=>by simp only[cL,bh];exact .refl _⟩
   rename_i e;obtain⟨R,h1,ad⟩:=wv h;refine⟨ew.gU q xD++R,?_,λk'=>?_⟩
   ·exact(h1.append_left (ew.gU q xD)).trans (by rw[<-iJ,<-iJ];exact nQ.append_right R)
   simp only[cL,bf e];exact((ad k').append_left (ew.gU q xD)).trans (by rw[<-iJ,<-iJ];exact nQ.append_right R)
def Zb{bM:Type}[ew bM]{hp:aL bM}{p:Nat}(h:p∈eb hp):p∈ks (a1 hp):=by
 induction hp with
 |nil=>simp[eb]at h
 | cons x r cg=>
   obtain⟨q,k⟩:=x
   simp only[eb,nS,dP]at h
   simp only[a1,fL,cF]
   rcases h with h|h
   ·subst h
    obtain⟨e,he,hk⟩:=ew.root p k
    exact .inl (ta.2 ⟨e,he,hk⟩)
   exact .inr (cg h)
def ki{bM:Type}{hp:aL bM}{p:Nat}{k:bM}(h:pat hp p=some k):p∈eb hp:=by
 induction hp with
 |nil=>simp[pat]at h
 | cons x r cg=>
   simp only[pat]at h
   split at h
   ·rename_i e;simp[eb,e]
   simp only[eb,nS,dP];exact .inr (cg h)
def sa{bM:Type}{hp:aL bM}{p:Nat}{k:bM}:eb (cL hp p k)=eb hp:=by
 induction hp with
 |nil=>rfl
 |cons x r cg=>simp only[cL];split <;> simp_all [eb]
def HY{bM:Type}{hp:aL bM}{p q:Nat}{k:bM}:pat (cL hp p k) q=if p=q then(pat hp p).map (λ_=>k)else pat hp q:=by
 induction hp with
 |nil=>simp[cL,pat]
 | cons x r cg=>
   simp only[cL]
   by_cases e:x.1=p
   ·rw[bh e]
    by_cases h:p=q
    ·simp[pat,e,h]
    have: ¬x.1=q:=λcU=>h (e▸cU)
    simp[pat,e,h]
   rw[bf e]
   by_cases h:p=q
   ·subst h
    rw[bh I]at cg⊢
    simp[pat,e,cg]
   rw[bf h]at cg⊢
   simp[pat,cg]
section
variable{c:cP}{E:aa (Nat×J)}{L:aa aK}{ops:Array Oper}{Q:Exit->Act->bo->Prop}
variable{d:aE Tmp}{ty:bJ}{pos:String}{af:Array Edge}{g:aE (Nat×Bool)}{x y:cw}{t t2:bJ}
def aiV{L L':aa aK}(p:L.Perm L'){A:aa Nat}(k:Nat):k∈ks L++A↔k∈ks L'++A:=by
 simp only[cF];rw[(AD p).mem_iff]
def pV{L L':aa aK}(p:L.Perm L'){A:aa Nat}{W:bo}:Ext (ks L++A) W (ks L'++A) W:=.drop λk hm=>(aiV p k).2 hm
def aU.perm{L':aa aK}{x:cw}{τ:J}(p:L.Perm L')(h:aU c E L x τ):aU c E L' x τ:=λa W s=>
 τ.mono (pV p) (h a W (s.perm p.symm))
def ae.perm{l:aa Oper}{L':aa aK}(p:L.Perm L')(h:ae c ops Q l E L):ae c ops Q l E L':=λa W s=>h a W (s.perm p.symm)
def j2{x:cw}{r:Ref}{p:Nat}(au:aU c E L x (.of r))(h:r=some p):aU c E L x (.eq (.pointer (some ⟨p,0,none⟩))):=λa W s=>by
 subst h;exact yo.1 (au a W s)
def o6:aU c E L (.const (.pointer none)) (.of (none:Ref)):=λa W s=>yo.2 I
variable{bM:Type}[ew bM]{hp:aL bM}{loc:aa aK}
def jt{p n:Nat}{k:bM}{e:aK}(ar:L.drop n=a1 hp)(h:pat hp p=some k)(hk:ew.gU p k=[e]):e∈L:=by
 obtain⟨R,h1,_⟩:=wv h;rw[hk]at h1;have:e∈L.drop n:=by rw[ar];exact h1.mem_iff.2 (by simp)
 exact Cn this
def pj{L':aa aK}{e:aK}(ar:∀(i:Nat) (e:aK),L[i]? =some e->L'[i]? =some e)(h:e∈L):e∈L':=by
 obtain⟨i,aq⟩:=o5.1 h;exact fB (ar i e aq)
def o8{x:cw}{t:bJ}{p o:Nat}{β γ:Type}[ak β][ak γ]{b:β}(l:aP β γ){r:γ}(ej:bU c.P t γ)(au:aU c E L x (.eq (.pointer (some ⟨p,o,none⟩))))
 (hm:(⟨some p,.var b⟩:aK)∈L) (a6:o=l.off) (aG:l.get b=r):bj c E L ⟨d,.load t x,ty,pos,af,g⟩ (.of r):=by
 obtain⟨i,aq⟩:=o5.1 hm
 exact hv (i:=i) l ej au aq a6 aG
def ae.akh{x y:cw}{t:bJ}{rest:aa Oper}{p o:Nat}{k k':bM}{β γ:Type}[ak β][ak γ]{b b':β}{v:γ}(l:aP β γ)(ej:bU c.P t γ)(au:aU c E (loc++a1 hp) x (.eq (.pointer (some ⟨p,o,none⟩))))
 (aR:aU c E (loc++a1 hp) y (.of v)) (hp':pat hp p=some k) (hk:ew.gU p k=[⟨some p,.var b⟩]) (kI:ew.gU p k'=[⟨some p,.var b'⟩]) (a6:o=l.off) (hb:l.set b v=b')
 (nM:ae c ops Q rest E (loc++a1 (cL hp p k'))):ae c ops Q (⟨none,.store t x y,ty,pos,af,none⟩::rest) E (loc++a1 hp):=by
 obtain⟨R,h1,ad⟩:=wv hp'
 have ad:=ad k'
 rw[hk]at h1
 rw[kI]at ad
 have bZ:∀{z:β} {M:aa aK},M.Perm ([⟨some p,.var z⟩]++R)->(loc++M).Perm (⟨some p,.var z⟩::(loc++R)):=λh=>(h.append_left loc).trans (by simp only[List.singleton_append];exact sS)
 exact ae.perm (bZ h1).symm (ae.store (i:=0) l ej (au.perm (bZ h1)) (aR.perm (bZ h1)) I a6 hb (ae.perm (bZ ad) nM))
def ae.qz{x y:cw}{t:bJ}{rest:aa Oper}{p o:Nat}{k k':bM}{cZ:aL bM}{β γ:Type}[ak β][ak γ]{b b':β}{v:γ}(n:Nat)(ar:L.drop n=a1 hp)(l:aP β γ)(ej:bU c.P t γ)(au:aU c E L x (.eq (.pointer (some ⟨p,o,none⟩))))(aR:aU c E L y (.of v))(hp':pat hp p=some k)(hk:ew.gU p k=[⟨some p,.var b⟩])(kI:ew.gU p k'=[⟨some p,.var b'⟩])(a6:o=l.off)(hb:l.set b v=b')(bV:cL hp p k'=cZ)(nM:ae c ops Q rest E (L.take n++a1 cZ)):ae c ops Q (⟨none,.store t x y,ty,pos,af,none⟩::rest) E L:=by
 subst bV;have e:L=L.take n++a1 hp:=by rw[<-ar,gw]
 clear ar;generalize L.take n=loc at *;subst e;exact ae.akh l ej au aR hp' hk kI a6 hb nM
def bO.fresh{a:Act}{W:bo}(s:bO c E (loc++a1 hp) a W):W.heap.size∉eb hp:=λh=>by
 have:=s.lt _ (by rw[fL];exact cF.2 (.inr (Zb h)));omega
def ae.anH{t:bJ}{x:cw}{rest:aa Oper}{bb:Nat}{α:Type}[ak α]{z:α}(mk:bM)(hk:∀p,ew.gU p mk=[⟨some p,.var z⟩])(au:aU c E (loc++a1 hp) x (.of z))(aM:Nat.blt bb c.n=true)
 (k:∀p,p∉eb hp->ae c ops Q rest ((bb,.of (some p:Ref))::E) (loc++a1 ((p,mk)::hp))):ae c ops Q (⟨some bb,.box t x,ty,pos,af,none⟩::rest) E (loc++a1 hp):=λa W s=>by
 refine jm I (R:=λv W'=>v=.pointer (some ⟨W.heap.size,0,none⟩)∧W'=W.alloc (.cells (a.eval x).cells t)) (.mR ?_ ⟨rfl,rfl⟩) λv W' ⟨bc,hw⟩=>?_
 ·simp[execOp,Instr.box,newVar,newRow]
 subst bc
 subst hw
 refine k _ s.fresh _ _ (bO.put ?_ (by simpa using aM) (yo.2 I))
 refine(s.alloc (cp:=.var z) ⟨_,t,rfl,(au a W s).2⟩).perm ?_
 simp only[a1,hk,List.singleton_append]
 exact sS.symm
def ae.yA{t:bJ}{x:cw}{rest:aa Oper}{bb:Nat}{α:Type}[ak α]{z:α}(n:Nat)(ar:L.drop n=a1 hp)(mk:bM)(hk:∀p,ew.gU p mk=[⟨some p,.var z⟩])(au:aU c E L x (.of z))(aM:Nat.blt bb c.n=true)(k:∀a:Nat×aL bM,a.1∉hp.map (·.1)∧a.2=(a.1,mk)::hp->ae c ops Q rest ((bb,.of (some a.1:Ref))::E) (L.take n++a1 a.2)):ae c ops Q (⟨some bb,.box t x,ty,pos,af,none⟩::rest) E L:=by
 have e:L=L.take n++a1 hp:=by rw[<-ar,gw]
 clear ar;generalize L.take n=loc at *;subst e;exact ae.anH mk hk au aM λp h=>k (p,(p,mk)::hp) ⟨h,rfl⟩
def ov{A B C:aa aK}:((A++B)++C).Perm ((A++C)++B):=by
 rw[iJ,iJ];exact nQ.append_left A
def ae.fR{rest:aa Oper}{bb:Nat}{f:FuncId}{xs:aa cw}{ats:Array bJ}{τs:aa J}{Lin Lr:aa aK}{δ:Type}{ρ:δ->J}{Lo:δ->aa aK}{hq:δ->aL bM}(cf:bH c.P f)(h:bL c.P f τs (Lin++a1 hp) ρ (λd=>Lo d++a1 (hq d)))
 (au:jr c E ((Lin++Lr)++a1 hp) xs τs) (aM:Nat.blt bb c.n=true) (k:∀q,ae c ops Q rest ((bb,ρ q)::E) ((Lo q++Lr)++a1 (hq q))):
 ae c ops Q (⟨some bb,.call ⟨.value (.func f),xs.toArray,ats⟩,ty,pos,af,none⟩::rest) E ((Lin++Lr)++a1 hp):=λa W s=>
 jm I (HC (Lr:=Lr) cf h (s.perm ov) ((au.holds a W s).mono (pV ov))) λv W' ⟨q,cv,bc⟩=>
  k q _ _ ((cv.perm ov).put (by simpa using aM) ((ρ q).mono (pV ov) bc))
def ae.en{rest:aa Oper}{bb:Nat}{f:FuncId}{xs:aa cw}{ats:Array bJ}{τs:aa J}{Lin Lr:aa aK}{δ:Type}{ρ:δ->J}{Lo:δ->aa aK}{hq:δ->aL bM}(n m:Nat)(ar:L.drop n=a1 hp)(cf:bH c.P f)(h:bL c.P f τs (Lin++a1 hp) ρ (λd=>Lo d++a1 (hq d)))
 (h1:(L.take n).take m=Lin) (ad:(L.take n).drop m=Lr) (au:jr c E L xs τs) (aM:Nat.blt bb c.n=true) (k:∀q,ae c ops Q rest ((bb,ρ q)::E) ((Lo q++Lr)++a1 (hq q))):
 ae c ops Q (⟨some bb,.call ⟨.value (.func f),xs.toArray,ats⟩,ty,pos,af,none⟩::rest) E L:=by
 have e:L=(Lin++Lr)++a1 hp:=by rw[<-h1,<-ad,gw,<-ar,gw]
 clear ar h1 ad
 subst e
 exact ae.fR cf h au aM k
def dx.alk{f:FuncId}{xs:aa cw}{ats:Array bJ}{τs:aa J}{ρ:J}(cf:bH c.P f)(h:bL c.P f τs (a1 hp) (λ_:Unit=>ρ) (λ_=>a1 hp))
 (au:jr c E (loc++a1 hp) xs τs):dx c E (loc++a1 hp) ⟨d,.call ⟨.value (.func f),xs.toArray,ats⟩,ty,pos,af,g⟩ ρ:=λa W s=>by
 have bZ:(loc++a1 hp).Perm (a1 hp++loc):=nQ
 have a6:=HC (d:=d) (ty:=ty) (pos:=pos) (af:=af) (g:=g) (ats:=ats) (Lr:=loc) cf h (s.perm bZ) ((au.holds a W s).mono (pV bZ))
 unfold h3 at a6⊢
 exact tY (λiI W' ⟨v,h1,_,ad,aB⟩=>⟨v,h1,ad.perm bZ.symm,ρ.mono (pV bZ.symm) aB⟩) a6
def dx.fR{f:FuncId}{xs:aa cw}{ats:Array bJ}{τs:aa J}{ρ:J}(n:Nat)(ar:L.drop n=a1 hp)(cf:bH c.P f)(h:bL c.P f τs (a1 hp) (λ_:Unit=>ρ) (λ_=>a1 hp))(au:jr c E L xs τs):dx c E L ⟨d,.call ⟨.value (.func f),xs.toArray,ats⟩,ty,pos,af,g⟩ ρ:=by
 have e:L=L.take n++a1 hp:=by rw[<-ar,gw]
 clear ar;generalize L.take n=loc at *;subst e;exact dx.alk cf h au
def PB{P:Program}{e:bJ}(W:bo)(n:Nat){t:bJ}(a:aE Addr)(h:P.underlying t=some (.pointer e)):(Op.equalIn (n+1) t (.pointer a) (.pointer none)).run P W=.ok a.isNone W:=by
 cases a <;> simp[Op.equalIn,ep h]
def Aw{r:Ref}{e:bJ}(hu:c.P.underlying t=some (.pointer e))(au:aU c E L x (.of r)):bj c E L ⟨d,.binOp .eql t x (.const (.pointer none)) t2,ty,pos,af,g⟩ (.of r.isNone):=.pure λa W s=>by
 have h1:=yo.1 (au a W s);refine⟨.bool r.isNone,?_,of_bool.2 I⟩;have aM:a.eval (.const (.pointer none))=.pointer none:=rfl;simp only[execOp,eqGuard,binOp,h1,aM,Op.equal,Op.maxDepth];have:=PB (P:=c.P) W 9999 (r.map λp=>⟨p,0,none⟩) hu;simp only[Option.isNone_map]at this;simp[this]
def ahT{r:Ref}{e:bJ}(hu:c.P.underlying t=some (.pointer e))(au:aU c E L x (.of r)):bj c E L ⟨d,.binOp .neq t x (.const (.pointer none)) t2,ty,pos,af,g⟩ (.of r.isSome):=.pure λa W s=>by
 have h1:=yo.1 (au a W s);refine⟨.bool r.isSome,?_,of_bool.2 I⟩;have aM:a.eval (.const (.pointer none))=.pointer none:=rfl;simp only[execOp,eqGuard,binOp,h1,aM,Op.equal,Op.maxDepth];have:=PB (P:=c.P) W 9999 (r.map λp=>⟨p,0,none⟩) hu;simp only[Option.isNone_map]at this;simp[this]
end
def ag5{P:Program}{t e el:bJ}{n:Nat}(h:P.underlying t=some (.array n e))(e1:bU P e Ref)(hu:P.underlying e=some (.pointer el)){A:aa Nat}{W:bo}{u v:br}{x y:Vector Ref n}(au:(J.of x).holds A W u)(aR:(J.of y).holds A W v)
 (aM:∀i,i<n->bE y i=none) (d:Nat) (hd:2<=d):(Op.equalIn d t u v).run P W=.ok (decide (x=y)) W:=by
 obtain⟨d,rfl⟩:∃e,d=e+1:=⟨d-1,by omega⟩
 obtain⟨h1,ad⟩:=au
 obtain⟨aB,aV⟩:=aR
 obtain⟨xs,rfl⟩:∃cs,u=.agg cs:=by simpa[shaped,ak.agg]using h1
 obtain⟨ys,rfl⟩:∃cs,v=.agg cs:=by simpa[shaped,ak.agg]using aB
 simp only[Value.cells]at ad aV
 have xl:xs.toList.length=n*ak.size Ref:=ak.len ad
 have Jc:ys.toList.length=n*ak.size Ref:=ak.len aV
 have A1:∀i∈List.range' 0 n,((do
  let a <-part e xs (i*ak.size Ref)
  let b <-part e ys (i*ak.size Ref)
  Op.equalIn d e a b):Sem Bool).run P W=.ok (decide (bE x i=bE y i)) W:=by
  intro i aq
  have iz:i<n:=by simpa using aq
  have hf:i*ak.size Ref+ak.size Ref<=n*ak.size Ref:=(aP.idx (α:=Ref) n i iz).h7
  obtain⟨a,aY,xm⟩:=vl (A:=A) (P:=P) (W:=W) (cs:=xs) (off:=i*ak.size Ref) e1 (by simp at xl;omega) ((aP.idx (α:=Ref) n i iz).kh ad)
  obtain⟨b,hb,Jd⟩:=vl (A:=A) (P:=P) (W:=W) (cs:=ys) (off:=i*ak.size Ref) e1 (by simp at Jc;omega) ((aP.idx (α:=Ref) n i iz).kh aV)
  simp only[eg,aY,hb,Result.andThen_ok]
  obtain⟨d,rfl⟩:∃e,d=e+1:=⟨d-1,by omega⟩
  have av:=yo.1 xm
  have aS:=yo.1 Jd
  subst av;subst aS
  have EI:(aP.idx (α:=Ref) n i iz).get y=none:=aM i iz
  rw[EI,Option.map_none,PB W d _ hu]
  have cM:bE y i=none:=aM i iz
  rw[cM]
  show Result.ok ((bE x i).map _).isNone W=_
  congr 1
  cases bE x i <;> rfl
 have aW:=PA (P:=P) (W:=W) _ _ _ A1
 have n1:(List.range' 0 n).all (λi=>decide (bE x i=bE y i))=decide (x=y):=by
  rw[kQ,lk,e2];constructor
  ·intro h;apply Vector.ext;intro i aq;have:=h i (by simpa using aq);simpa[bE,aq]using this
  rintro rfl i _;simp
 rw[n1]at aW
 simp only[Op.equalIn,eg,ep h,Result.andThen_ok,e1.sizeOf,Og]
 simp only[Std.Legacy.Range.size,Nat.sub_zero,Nat.add_one_sub_one,Py]at aW⊢
 simp only[bind_assoc]at aW
 rw[aW]
 by_cases Je:x=y
 ·simp[Je]
 simp[Je]
def aiF{c:cP}{E:aa (Nat×J)}{L:aa aK}{d:aE Tmp}{ty:bJ}{pos:String}{af:Array Edge}{g:aE (Nat×Bool)}{x y:cw}{t t2 e el:bJ}{n:Nat}{a b:Vector Ref n}(h:c.P.underlying t=some (.array n e))(e1:bU c.P e Ref)(hu:c.P.underlying e=some (.pointer el))(bu:c.P.eqGuardType c.P.depth t=false)
 (au:aU c E L x (.of a)) (aR:aU c E L y (.of b)) (aM:∀i,i<n->bE b i=none):bj c E L ⟨d,.binOp .eql t x y t2,ty,pos,af,g⟩ (.of (decide (a=b))):=.pure λA W s=>by
 have h1:=au A W s
 have ad:=aR A W s
 obtain⟨xs,p7⟩:∃cs,A.eval x=.agg cs:=by simpa[shaped,ak.agg]using h1.1
 obtain⟨ys,y1⟩:∃cs,A.eval y=.agg cs:=by simpa[shaped,ak.agg]using ad.1
 have aB:=ag5 h e1 hu h1 ad aM 10000 (by decide)
 rw[p7,y1]at aB
 refine⟨.bool (decide (a=b)),?_,of_bool.2 I⟩
 simp only[execOp,p7,y1,eg,O7 W .eql t x y xs ys bu,Result.andThen_ok,run_eql_struct,aB,Sem.run_pure]
section
variable{c:cP}{E:aa (Nat×J)}{L:aa aK}{ops:Array Oper}{Q:Exit->Act->bo->Prop}
def aj.aki{α β:Type}{o:aE α}{k:α->aj β}{R:β->Prop}(h:aj.bind (aj.of o) k R):∃r,o=some r∧k r R:=h
def ag6{F:Fence}{n:Nat}{P:Program}{body:Code}{σ ε:Type}(b:σ->aj (σ⊕ε))(gi:σ->Act->bo->Prop)(X:ε->Exit->Act->bo->Prop)
 (tb:∀s R,b s R->∀a W,gi s a W->body.wpIn F n P (λx a W=>(∃cv,R (.inl cv)∧x=.normal∧gi cv a W)∨∃e,R (.inr e)∧x≠ .normal∧X e x a W) a W)
 (Q:Exit->Act->bo->Prop) (R:ε->Prop) (qB:∀e x a W,R e->X e x a W->Q x a W) {cb:σ} {N:Nat} (an:oD N b cb R) {a0:Act} {kc:bo} (bC:gi cb a0 kc):
 (Code.loop body).wpIn F n P Q a0 kc:=by
 intro ef k cs lf hb aG
 have key:∀N s,oD N b s R->∀a W,gi s a W->
  ∃x iI W',Q x iI W'∧ArrivesIn (Machine.fenced P F) P (lone (ef.atR a (.code body::.inLoop body::k)) cs W) ef k cs x iI W':=by
  intro N
  induction N with
  |zero=>intro s h;exact h.elim
  | succ N cg=>
    intro s h a W nf
    obtain⟨x,tu,Ej,hq,pr⟩:=tb s _ h a W nf ef (.inLoop body::k) cs lf hb aG
    rcases hq with⟨cv,h1,au,Tm⟩|⟨e,h1,au,og⟩
    ·subst au
     obtain⟨SY,SZ,S0,Sj,QB⟩:=cg cv h1 tu Ej Tm
     exact⟨SY,SZ,S0,Sj,.of_steps (Ph pr (.one (C1 hb aG I) stepR_inLoop)) QB⟩
    exact⟨x,tu,Ej,qB _ _ _ _ h1 og,.pass (x:=.inLoop body) I (λ_ _=>.inl au) pr⟩
 obtain⟨x,iI,W',hq,pr⟩:=key N cb an a0 kc bC
 exact⟨x,iI,W',hq,.of_steps (.one (C1 hb aG I) stepR_loop) pr⟩
def eU{σ ε γ δ:Type}(c:cP)(E:σ->γ->aa (Nat×J))(L:σ->γ->aa aK)(xs:ε->Exit)(h9:ε->δ->aa (Nat×J))(Lx:ε->δ->aa aK)(R:σ⊕ε->Prop):Exit->Act->bo->Prop:=λx a W=>
 (∃s,R (.inl s)∧x=.normal∧∃g,bO c (E s g) (L s g) a W)∨∃e,R (.inr e)∧x≠ .normal∧x=xs e∧∃g,bO c (h9 e g) (Lx e g) a W
def al.yi{σ ε γ δ:Type}{E':σ->γ->aa (Nat×J)}{L':σ->γ->aa aK}{xs:ε->Exit}{h9:ε->δ->aa (Nat×J)}{Lx:ε->δ->aa aK}{R:σ⊕ε->Prop}{s:σ}(hF:R (.inl s))(g:γ)(n:Nat)
 (ar:L.drop n=L' s g) (h:fO E (E' s g)):al c (eU c E' L' xs h9 Lx R) .normal E L:=λa W st=>.inl ⟨s,hF,rfl,g,by rw[<-ar];exact(st.sf n).less h.look⟩
def al.ui{σ ε γ δ:Type}{E':σ->γ->aa (Nat×J)}{L':σ->γ->aa aK}{xs:ε->Exit}{h9:ε->δ->aa (Nat×J)}{Lx:ε->δ->aa aK}{R:σ⊕ε->Prop}{e:ε}{x:Exit}(hF:R (.inr e))(g:δ)(n:Nat)
 (au:x=xs e) (aM:x≠ .normal) (ar:L.drop n=Lx e g) (h:fO E (h9 e g)):al c (eU c E' L' xs h9 Lx R) x E L:=λa W st=>.inr ⟨e,hF,aM,au,g,by rw[<-ar];exact(st.sf n).less h.look⟩
def ay.oD{σ ε γ δ:Type}{body:Code}{N:Nat}{b:σ->aj (σ⊕ε)}{cb:σ}{R:ε->Prop}(an:Gv.oD N b cb R)
 (E':σ->γ->aa (Nat×J)) (L':σ->γ->aa aK) (xs:ε->Exit) (h9:ε->δ->aa (Nat×J)) (Lx:ε->δ->aa aK) (g0:γ) (ar:L=L' cb g0) (aD:fO E (E' cb g0))
 (uq:∀s R,b s R->∀g,ay c (eU c E' L' xs h9 Lx R) body (E' s g) (L' s g))
 (qB:∀e,R e->∀g,al c Q (xs e) (h9 e g) (Lx e g)):ay c Q (.loop body) E L:=λa W st=>by
 subst ar
 exact ag6 b (λs a W=> ∃g,bO c (E' s g) (L' s g) a W) (λe x a W=>x=xs e∧∃g,bO c (h9 e g) (Lx e g) a W)
  (λs R hs a W ⟨g,nf⟩=>wpIn_mono (uq s R hs g a W nf) (λx a W h=>by
   rcases h with⟨cv,h1,ad,aB⟩|⟨e',h1,ad,aB,aV⟩
   ·exact .inl ⟨cv,h1,ad,aB⟩
   exact .inr ⟨e',h1,ad,aB,aV⟩)) Q R (λe x a W hF ⟨au,g,hs⟩=>by subst au;exact qB e hF g a W hs) an ⟨g0,st.less aD.look⟩
def Yy{α:Type}{b:Bool}{m n:aj α}{R:α->Prop}(hb:b=true)(h:cond b m n R):m R:=by subst hb;exact h
def Yz{α:Type}{b:Bool}{m n:aj α}{R:α->Prop}(hb:b=false)(h:cond b m n R):n R:=by subst hb;exact h
def ay.alm{β γ ρ:Type}{lC:ρ->Prop}{x:cw}{b:Bool}{y z:Code}{bk bn:aj β}{k:β->aj ρ}(h:aj.bind (bif b then bk else bn) k lC)(E':β->γ->aa (Nat×J))(L':β->γ->aa aK)(an:aU c E L x (.of b))
 (oW:∀m g,k m lC->al c Q .normal (E' m g) (L' m g))
 (bD:(∀m g,k m lC->al c (ea Q) .normal (E' m g) (L' m g))->b=true->bk (λm=>k m lC)->ay c (ea Q) y E L) (aW:(∀m g,k m lC->al c (ea Q) .normal (E' m g) (L' m g))->b=false->bn (λm=>k m lC)->ay c (ea Q) z E L):ay c Q (.cond x y z) E L:=
 ay.cond an (λhb=>bD oW hb (Yy hb h)) (λhb=>aW oW hb (Yz hb h))
def ay.Y2{σ ε γ δ ρ:Type}{body:Code}{N:Nat}{b:σ->aj (σ⊕ε)}{cb:σ}{k:ε->aj ρ}{lC:ρ->Prop}(an:aj.bind (Gv.oD N b cb) k lC)
 (E':σ->γ->aa (Nat×J)) (L':σ->γ->aa aK) (xs:ε->Exit) (h9:ε->δ->aa (Nat×J)) (Lx:ε->δ->aa aK) (g0:γ) (ar:L=L' cb g0) (aD:fO E (E' cb g0))
 (uq:∀s R,b s R->∀g,ay c (eU c E' L' xs h9 Lx R) body (E' s g) (L' s g))
 (qB:∀e,k e lC->∀g,al c Q (xs e) (h9 e g) (Lx e g)):ay c Q (.loop body) E L:=
 ay.oD (R:=λe=>k e lC) an E' L' xs h9 Lx g0 ar aD uq qB
def al8{n:Nat}:∀i,i<n->bE (default:Vector Ref n) i=none:=λi aq=>by
 have:(default:Vector Ref n)=Vector.replicate n none:=rfl;rw[this];simp[bE,aq]
def IN(s:ByteArray)(i:Int):aE (BitVec 8):=(if 0<=i then s[i.toNat]? else none).map λb=>BitVec.ofNat 8 b.toNat
def ajG{d:aE Tmp}{ty:bJ}{pos:String}{af:Array Edge}{g:aE (Nat×Bool)}{x y:cw}{t:bJ}{s:ByteArray}{i:BitVec 8}{r:BitVec 8}(hu:c.P.underlying t=some .string)(au:aU c E L x (.of s))(aR:aU c E L y (.of i))(aG:IN s (i.toNat:Int)=some r):
 bj c E L ⟨d,.index t x y,ty,pos,af,g⟩ (.of r):=.pure λa W st=>by
 have h1:=Y8.1 (au a W st)
 have ad:=MS.1 (aR a W st)
 unfold IN at aG
 cases hb:(if 0<=(i.toNat:Int)then s[(i.toNat:Int).toNat]? else none)with
 |none=>rw[hb]at aG;cases aG
 | some b=>
   rw[hb]at aG
   simp only[Option.map_some,gl]at aG
   subst aG
   have b9:b.toNat<256:=b.toNat_lt
   refine⟨.int .u8 b.toNat,?_,MS.2 (by simp[KA,zO b9])⟩
   have Jv:=hb
   simp only[Vk,lX,Int.toNat_natCast]at Jv
   simp[execOp,Instr.index,h1,ad,asIntOf,ep hu,Jv]
end
structure fj where
 p:Option Nat
 deriving DecidableEq,Inhabited
instance:ak fj:=.scalar (λx=>Value.map x.p) λ_=>rfl
instance:a7 fj:=⟨[.map none],λ_ _=>rfl⟩
def yf{A W v}{x:fj}:(J.of x).holds A W v↔v=.map x.p:=
 ⟨λh=>pS h.1 h.2,λh=>by subst h;exact⟨rfl,rfl⟩⟩
def ln{c:cP}{E:aa (Nat×J)}{L:aa aK}{x:cw}{r:fj}{p:Nat}(au:aU c E L x (.of r))(h:r.p=some p):aU c E L x (.of (⟨some p⟩:fj)):=λa W s=>by
 have:=yf.1 (au a W s);rw[h]at this;exact yf.2 this
inductive mw{α β:Type}[ak α][ak β](A:List Nat)(W:World):List MapEntry->List (α×β)->Prop
 |nil:mw A W [] []
 |cons {e k v es r}:(J.of k).holds A W e.key->(J.of v).holds A W e.val->mw A W es r->mw A W (e::es) ((k,v)::r)
def mw.mono{α β:Type}[ak α][ak β]{A W cV W'}(h:Ext A W cV W'):∀{es:aa MapEntry} {kv:aa (α×β)},mw A W es kv->mw cV W' es kv
 |_,_,.nil=>.nil
 |_,_,.cons h1 ad r=>.cons (J.mono _ h h1) (J.mono _ h ad) (r.mono h)
def e0.map{α β:Type}[ak α][ak β](kv:aa (α×β)):e0 where
 holds A W o:=∃es clock,o=.map es clock∧mw A W es.toList kv∧(∀x∈es.toList,x.born<clock)∧(es.toList.map MapEntry.born).Nodup
 pY:=False
 mono e h:=let⟨es,clock,h1,ad,aB⟩:=h; ⟨es,clock,h1,ad.mono e,aB⟩
def dG{α β:Type}[DecidableEq α]:aa (α×β)->α->aE β
 |[],_=>none
 |(k,v)::r,x=>if x=k then some v else dG r x
def gS{α β:Type}[DecidableEq α]:aa (α×β)->α->β->aa (α×β)
 |[],x,y=>[(x,y)]
 |(k,v)::r,x,y=>if x=k then(x,y)::r else(k,v)::gS r x y
def ju{α β:Type}[DecidableEq α]:aa (α×β)->α->aa (α×β)
 |[],_=>[]
 |(k,v)::r,x=>if x=k then r else(k,v)::ju r x
class k0 (α:Type) [ak α]:Prop where
 uniq:∀{A W cs cV W' ff} {x:α},ak.rep A W cs x->ak.rep cV W' ff x->cs=ff
 plain:∀{A W cs} {x:α},ak.rep A W cs x->∀v∈cs,∀n,Instr.sameBits n v v=true
instance:k0 Int:=⟨λh cU=>h.trans cU.symm,λh v bc n=>by subst h;rw[hT.1 bc];simp[Instr.sameBits]⟩
instance:k0 (BitVec 64):=⟨λh cU=>h.trans cU.symm,λh v bc n=>by subst h;rw[hT.1 bc];simp[Instr.sameBits]⟩
instance:k0 Bool:=⟨λh cU=>h.trans cU.symm,λh v bc n=>by subst h;rw[hT.1 bc];simp[Instr.sameBits]⟩
instance{α:Type}[ak α][Inhabited α][k0 α]{n:Nat}:k0 (Vector α n):=⟨λ{A W cs cV W' ff x} h cU=>by
 have B1:cs.length=n*ak.size α:=ak.len h;have Ur:ff.length=n*ak.size α:=ak.len cU;have key:∀m,m<=n->cs.take (m*ak.size α)=ff.take (m*ak.size α):=by
  intro m;induction m with
  |zero=>intro _;simp
  | succ m cg=>
    intro hm
    have EE:m<n:=hm
    have av:=(aP.idx (α:=α) n m EE).kh h
    have aS:=(aP.idx (α:=α) n m EE).kh cU
    have cM:=k0.uniq av aS
    rw[sY,Pf,Pf,cg (by omega)]
    congr 1
 have:=key n (iS _);rwa[<-B1,iD,B1,<-Ur,iD]at this,
 λ{A W cs x} h v bc k=>by
  have B1:cs.length=n*ak.size α:=ak.len h;obtain⟨i,aq,rfl⟩:=Kw bc;by_cases hs:ak.size α=0
  ·rw[hs,Nat.mul_zero]at B1;omega
  have hq:i/ak.size α<n:=Vb (by rw[B1,sX]at aq;exact aq);have av:=(aP.idx (α:=α) n (i/ak.size α) hq).kh h;refine k0.plain av _ ?_ k;have aG:i % ak.size α<ak.size α:=GZ _ (by omega);have hd:=F9 i (ak.size α);refine o5.2 ⟨i % ak.size α,?_⟩;simp only[aP.idx];rw[lE,bh aG,mH,sX,hd];exact o4 aq⟩
def HR{cs ff:aa br}(o s:Nat)(h:(cs.drop o).take s=(ff.drop o).take s)(k:cs.drop (o+s)=ff.drop (o+s)):cs.drop o=ff.drop o:=by
 rw[<-gw s (cs.drop o),<-gw s (ff.drop o),h,Gr,Gr,k]
def YA{cs ff:aa br}{n:Nat}(h:cs.length=n)(cU:ff.length=n)(k:cs.drop 0=ff.drop 0):cs=ff:=by simpa using k
def YB{cs ff:aa br}{n m:Nat}(h:cs.length=n)(cU:ff.length=n)(k:n<=m):cs.drop m=ff.drop m:=by
 rw[zz (by omega),zz (by omega)]
def ag7{α:Type}[ak α][k0 α]{A W cV W' u v}{x:α}(h:(J.of x).holds A W u)(cU:(J.of x).holds cV W' v):u=v:=by
 obtain⟨h1,ad⟩:=h;obtain⟨aB,aV⟩:=cU;have ba:=k0.uniq ad aV;by_cases aY:ak.agg α=true
 ·simp only[shaped,aY,lX]at h1 aB;obtain⟨a,rfl⟩:=h1;obtain⟨b,rfl⟩:=aB;simp only[Value.cells]at ba;congr 1;exact Array.toList_inj.1 ba
 simp only[jk]at aY;simp only[shaped,aY,sR,ou]at h1 aB;rw[cells_one h1,cells_one aB]at ba;simpa using ba
def XA{P:br->br->Bool}:∀{cs:aa br},(∀v∈cs,P v v=true)->((cs.zip cs).all λ(x,y)=>P x y)=true
 |[],_=>rfl
 | a::r,h=>by
   simp only[List.zip_cons_cons,List.all_cons,gm];exact⟨h a (by simp),XA λv bc=>h v (by simp[bc])⟩
def ag8{α:Type}[ak α][k0 α]{A W u}{x:α}(h:(J.of x).holds A W u)(n:Nat):Instr.sameBits (n+1) u u=true:=by
 obtain⟨h1,ad⟩:=h;by_cases aY:ak.agg α=true
 ·simp only[shaped,aY,lX]at h1;obtain⟨a,rfl⟩:=h1;simp only[Value.cells]at ad;simp only[Instr.sameBits,FW,qp];exact XA λv bc=>k0.plain ad v bc n
 simp only[jk]at aY;simp only[shaped,aY,sR,ou]at h1;rw[cells_one h1]at ad;exact k0.plain ad u (by simp) _
def ahU{α:Type}[ak α][k0 α]{P:Program}{A W cV W' u v}{x:α}(h:(J.of x).holds A W u)(cU:(J.of x).holds cV W' v)(kc:bo):(Instr.keyThatStays u v).run P kc=.ok v kc:=by
 have:=ag7 h cU;subst this;simp[Instr.keyThatStays,ag8 h 9999]
def tO(P:Program)(t:bJ)(α:Type)[ak α](n:Nat):Prop:=∀b d A W u (x:α),n<=d->(J.of x).holds A W u->(Instr.checkKey b d t u).run P W=.ok () W
def PZ{P:Program}{t:bJ}{α:Type}[ak α]{D:TypeDesc}(h:P.underlying t=some D)(hd:(match (motive:=TypeDesc->Bool) D with | .interface _| .array _ _| .struct _=>false|_=>true)=true):tO P t α 1:=by
 intro b d A W u x aM au;obtain⟨d,rfl⟩:∃e,d=e+1:=⟨d-1,by omega⟩;simp only[Instr.checkKey,eg,ep h,Result.andThen_ok];cases D <;> simp at hd <;> rfl
def Wg{P:Program}{W:bo}{J8:Type}(f:J8->Sem Unit):∀(l:aa J8),(∀i∈l,(f i).run P W=.ok () W)->
 (forIn (m:=Sem) l () (λi _=>do f i;pure (ForInStep.yield ()))).run P W=.ok () W
 |[],_=>by simp
 | i::r,h=>by
   have h1:=h i (by simp);have ad:=Wg (P:=P) (W:=W) f r (λj aC=>h j (by simp[aC]));rw[KU];simp only[eg,h1,Result.andThen_ok,Sem.run_pure];rw[ad]
def Wb{P:Program}{W:bo}{J8:Type}(f:J8->PUnit->Sem (ForInStep PUnit)):∀(l:aa J8),(∀i∈l,(f i ()).run P W=.ok (.yield ()) W)->(forIn (m:=Sem) l PUnit.unit f).run P W=.ok () W
 |[],_=>by simp
 | i::r,h=>by
   have h1:=h i (by simp);have ad:=Wb (P:=P) (W:=W) f r (λj aC=>h j (by simp[aC]));rw[KU];simp only[eg,h1,Result.andThen_ok];exact ad
def Zc{P:Program}{t e n k:Nat}{α:Type}[ak α][Inhabited α](h:P.underlying t=some (.array n e))(e1:bU P e α)(he:tO P e α k):tO P t (Vector α n) (k+1):=by
 intro b d A W u x hd au;obtain⟨d,rfl⟩:∃e,d=e+1:=⟨d-1,by omega⟩;obtain⟨h1,ad⟩:=au;obtain⟨xs,rfl⟩:∃cs,u=.agg cs:=by simpa[shaped,ak.agg]using h1
 simp only[Value.cells]at ad;have xl:xs.toList.length=n*ak.size α:=ak.len ad;have A1:∀i∈List.range' 0 n,((do
  let z <-Go.sizeOf e
  let a <-part e xs (i*z)
  Instr.checkKey b d e a):Sem Unit).run P W=.ok () W:=by
  intro i aq
  have iz:i<n:=by simpa using aq
  have hf:i*ak.size α+ak.size α<=n*ak.size α:=(aP.idx (α:=α) n i iz).h7
  obtain⟨a,aY,xm⟩:=vl (A:=A) (P:=P) (W:=W) (cs:=xs) (off:=i*ak.size α) e1 (by simp at xl;omega) ((aP.idx (α:=α) n i iz).kh ad)
  simp only[eg,e1.sizeOf,aY,Result.andThen_ok]
  exact he b d A W a _ (by omega) xm
 have aW:=Wg (P:=P) (W:=W) _ _ A1;simp only[Instr.checkKey,eg,ep h,Result.andThen_ok,Og];simp only[Std.Legacy.Range.size,Nat.sub_zero,Nat.add_one_sub_one,Py]at aW⊢;simp only[bind_assoc]at aW;rw[aW];rfl
inductive Jw(P:Program)(β:Type)[ak β](k:Nat):List Field->Prop
 |nil:Jw P β k []
 |cons {γ:Type} [ak γ] {f r} (l:aP β γ):l.off=f.offset->bU P f.type γ->tO P f.type γ k->Jw P β k r->Jw P β k (f::r)
def W8{P:Program}{t k:Nat}{β:Type}[ak β]{fs:Array Field}(aY:ak.agg β=true)(h:P.underlying t=some (.struct fs))(ag:Jw P β k fs.toList):tO P t β (k+1):=by
 intro b d A W u x hd au;obtain⟨d,rfl⟩:∃e,d=e+1:=⟨d-1,by omega⟩;obtain⟨h1,ad⟩:=au;obtain⟨xs,rfl⟩:∃cs,u=.agg cs:=by simpa[shaped,aY]using h1
 simp only[Value.cells]at ad;have xl:xs.toList.length=ak.size β:=ak.len ad;have A1:∀f∈fs.toList,((do
  if f.name≠ "_" then do
   let a <-part f.type xs f.offset
   Instr.checkKey b d f.type a):Sem Unit).run P W=.ok () W:=by
  have key:∀l,Jw P β k l->∀f∈l,((do
   if f.name≠ "_" then do
    let a <-part f.type xs f.offset
    Instr.checkKey b d f.type a):Sem Unit).run P W=.ok () W:=by
   intro l an
   induction an with
   |nil=>simp
   | cons l a6 e1 hk r cg=>
     rename_i f lW
     intro E2 uO
     rcases dP.1 uO with rfl|uO
     ·split
      ·obtain⟨a,aY,xm⟩:=vl (A:=A) (P:=P) (W:=W) (cs:=xs) (off:=l.off) e1 (by have:=l.h7;simp at xl;omega) (l.kh ad)
       rw[<-a6]
       simp only[eg,aY,Result.andThen_ok]
       exact hk b d A W a _ (by omega) xm
      rfl
     exact cg E2 uO
  exact key _ ag
 simp only[Instr.checkKey,eg,ep h,Result.andThen_ok];rw[<-Array.forIn_toList,Wb]
 ·rfl
 intro f aW;have:=A1 f aW;split
 ·rename_i aM;rw[bh aM]at this;simp only[eg]at this⊢;revert this;generalize (part f.type xs f.offset).run P W=r;cases r <;> simp only[Result.andThen] <;> intro h <;> first|rw[h];rfl|cases h
 rfl
structure q2(P:Program)(t:TypeId)(α:Type)[ak α][DecidableEq α]:Prop where
 check:∀b A W u (x:α),(J.of x).holds A W u->(Instr.checkKey b 10000 t u).run P W=.ok () W
 same:∀A W u v (x y:α),(J.of x).holds A W u->(J.of y).holds A W v->(Op.equal t u v).run P W=.ok (decide (x=y)) W
 now:∃D,P.underlying t=some D∧∀A W u v (x y:α),(J.of x).holds A W u->(J.of y).holds A W v->Instr.sameNow D u v=none∨Instr.sameNow D u v=some (decide (x=y))
def nZ{α β:Type}[DecidableEq α]:aa (α×β)->α->Nat->aE (Nat×β)
 |[],_,_=>none
 |(k,v)::r,x,i=>if x=k then some (i,v)else nZ r x (i+1)
def Found{α β:Type}[ak α][ak β](A:aa Nat)(W:bo)(kv:aa (α×β)):aE (Nat×br)->aE (Nat×β)->Prop
 |none,none=>True
 |some (i,u),some (j,v)=>i=j∧(J.of v).holds A W u
 |_,_=>False
def Wi{α β:Type}[ak α][ak β][DecidableEq α]{D:TypeDesc}{A:aa Nat}{W:bo}{u:br}{x:α}(hu:(J.of x).holds A W u)
 (hs:∀v (y:α),(J.of y).holds A W v->Instr.sameNow D u v=none∨Instr.sameNow D u v=some (decide (x=y))) (Jx:aa (α×β)):∀{es:aa MapEntry} {kv:aa (α×β)} (i:Nat),mw A W es kv->
 Instr.findNow D u es i=none∨∃r,Instr.findNow D u es i=some r∧Found A W Jx r (nZ kv x i)
 |[],_,i,h=>by cases h;exact .inr ⟨none,rfl,trivial⟩
 | e::es,_,i,h=>by
   cases h with
   | cons h1 ad aB=>
     rename_i k v r
     rcases hs e.key k h1 with aV|aV
     ·exact .inl (by simp[Instr.findNow,aV])
     by_cases hk:x=k
     ·exact .inr ⟨some (i,e.val),by simp[Instr.findNow,aV,hk],by simp only[nZ,bh hk];exact⟨rfl,ad⟩⟩
     rcases Wi hu hs Jx (i+1) aB with ba|⟨lW,ba,bq⟩
     ·exact .inl (by simp[Instr.findNow,aV,hk,ba])
     exact .inr ⟨lW,by simp[Instr.findNow,aV,hk,ba],by simp only[nZ,bf hk];exact bq⟩
def V5{α β:Type}[ak α][ak β][DecidableEq α]{P:Program}{t:bJ}(mD:q2 P t α){A:aa Nat}{W:bo}{u:br}{x:α}(hu:(J.of x).holds A W u)(Jx:aa (α×β)):∀{es:aa MapEntry} {kv:aa (α×β)} (i:Nat),mw A W es kv->
 ∃r,(Instr.findAsking t u es i).run P W=.ok r W∧Found A W Jx r (nZ kv x i)
 |[],_,i,h=>by cases h;exact⟨none,rfl,trivial⟩
 | e::es,_,i,h=>by
   cases h with
   | cons h1 ad aB=>
     rename_i k v r
     have aV:=mD.same A W u e.key x k hu h1
     by_cases hk:x=k
     ·exact⟨some (i,e.val),by simp[Instr.findAsking,eg,aV,hk],by simp only[nZ,bh hk];exact⟨rfl,ad⟩⟩
     obtain⟨lW,ba,bq⟩:=V5 mD hu Jx (i+1) aB
     exact⟨lW,by simp[Instr.findAsking,eg,aV,hk,ba],by simp only[nZ,bf hk];exact bq⟩
def PC{α β:Type}[ak α][ak β][DecidableEq α]{P:Program}{t:bJ}(mD:q2 P t α){A:aa Nat}{W:bo}{u:br}{x:α}(hu:(J.of x).holds A W u){es:aa MapEntry}{kv:aa (α×β)}(h:mw A W es kv):
 ∃r,(Instr.findKey t u es).run P W=.ok r W∧Found A W kv r (nZ kv x 0):=by
 obtain⟨D,kZ,hs⟩:=mD.now
 rcases Wi hu (λv y aR=>hs A W u v x y hu aR) kv 0 h with h1|⟨r,h1,ad⟩
 ·obtain⟨r,aB,aV⟩:=V5 mD hu kv 0 h
  exact⟨r,by simp[Instr.findKey,eg,ep kZ,h1,aB],aV⟩
 exact⟨r,by simp[Instr.findKey,eg,ep kZ,h1],ad⟩
def Qf{α β:Type}[ak α][ak β][DecidableEq α]{A:aa Nat}{W:bo}{x:α}:∀{es:aa MapEntry} {kv:aa (α×β)} {j i:Nat} {v:β},mw A W es kv->nZ kv x j=some (i,v)->
 ∃m e,i=j+m∧es[m]? =some e∧(J.of x).holds A W e.key∧(∀(e':MapEntry) (y:β),(J.of x).holds A W e'.key->(J.of y).holds A W e'.val->mw A W (es.set m e') (gS kv x y))∧mw A W (es.eraseIdx m) (ju kv x)
 |[],_,j,i,v,h,aW=>by cases h;cases aW
 | e::es,_,j,i,v,h,aW=>by
   cases h with
   | cons h1 ad aB=>
     rename_i k zl r
     by_cases hk:x=k
     ·subst hk
      simp only[nZ,bh]at aW
      simp only[gl,K6]at aW
      exact⟨0,e,by omega,rfl,h1,λe' y g1 g2=>by simp only[gS,bh];exact .cons g1 g2 aB,by simp only[ju,bh];exact aB⟩
     simp only[nZ,bf hk]at aW
     obtain⟨m,e',g1,g2,g3,g4,g5⟩:=Qf aB aW
     exact⟨m+1,e',by omega,by simpa using g2,g3,λTC y aw cH=>by simp only[gS,bf hk];exact .cons h1 ad (g4 TC y aw cH),by simp only[ju,bf hk];exact .cons h1 ad g5⟩
def PS{α β:Type}[ak α][ak β][DecidableEq α]{A:aa Nat}{W:bo}{x:α}:∀{es:aa MapEntry} {kv:aa (α×β)} {j:Nat},mw A W es kv->nZ kv x j=none->
 (∀(e':MapEntry) (y:β),(J.of x).holds A W e'.key->(J.of y).holds A W e'.val->mw A W (es++[e']) (gS kv x y))∧ju kv x=kv
 |[],_,j,h,_=>by cases h;exact⟨λe' y h1 ad=>.cons h1 ad .nil,rfl⟩
 | e::es,_,j,h,aW=>by
   cases h with
   | cons h1 ad aB=>
     rename_i k zl r
     by_cases hk:x=k
     ·simp[nZ,hk]at aW
     simp only[nZ,bf hk]at aW
     obtain⟨g1,g2⟩:=PS aB aW
     exact⟨λe' y aw cH=>by simp only[gS,bf hk];exact .cons h1 ad (g1 e' y aw cH),by simp only[ju,bf hk,g2]⟩
def mw.length{α β:Type}[ak α][ak β]{A W}:∀{es:aa MapEntry} {kv:aa (α×β)},mw A W es kv->es.length=kv.length
 |_,_,.nil=>rfl
 |_,_,.cons _ _ r=>by simp[r.length]
def WG{α β:Type}[DecidableEq α]:∀(kv:aa (α×β)) (x:α) (i:Nat),(nZ kv x i).map (·.2)=dG kv x
 |[],_,_=>rfl
 |(k,v)::r,x,i=>by simp only[nZ,dG];split <;> simp[WG]
section
variable{c:cP}{E:aa (Nat×J)}{L:aa aK}{ops:Array Oper}{Q:Exit->Act->bo->Prop}
variable{d:aE Tmp}{ty:bJ}{pos:String}{af:Array Edge}{g:aE (Nat×Bool)}{x y z:cw}{t t2:bJ}
variable{bM:Type}[ew bM]{hp:aL bM}{loc:aa aK}
def ae.akj{α β:Type}[ak α][ak β]{rest:aa Oper}{bb:Nat}(mk:bM)(hk:∀p,ew.gU p mk=[⟨some p,.map ([]:aa (α×β))⟩])(aM:Nat.blt bb c.n=true)
 (k:∀p,p∉eb hp->ae c ops Q rest ((bb,.of (⟨some p⟩:fj))::E) (loc++a1 ((p,mk)::hp))):ae c ops Q (⟨some bb,.makeMap t none,ty,pos,af,none⟩::rest) E (loc++a1 hp):=λa W s=>by
 refine jm I (R:=λv W'=>v=.map (some W.heap.size)∧W'=W.alloc (.map #[] 0)) (.mR ?_ ⟨rfl,rfl⟩) λv W' ⟨bc,hw⟩=>?_
 ·simp only[execOp,Instr.makeMap,newObj,eg,Sem.run_pure];rfl
 subst bc
 subst hw
 refine k _ s.fresh _ _ (bO.put ?_ (by simpa using aM) (yf.2 I))
 refine(s.alloc (cp:=.map ([]:aa (α×β))) ⟨#[],0,rfl,.nil,by simp,by simp⟩).perm ?_
 simp only[a1,hk,List.singleton_append]
 exact sS.symm
def ae.H6{α β:Type}[ak α][ak β]{rest:aa Oper}{bb:Nat}(n:Nat)(ar:L.drop n=a1 hp)(mk:bM)(hk:∀p,ew.gU p mk=[⟨some p,.map ([]:aa (α×β))⟩])(aM:Nat.blt bb c.n=true)(k:∀a:Nat×aL bM,a.1∉hp.map (·.1)∧a.2=(a.1,mk)::hp->ae c ops Q rest ((bb,.of (⟨some a.1⟩:fj))::E) (L.take n++a1 a.2)):ae c ops Q (⟨some bb,.makeMap t none,ty,pos,af,none⟩::rest) E L:=by
 have e:L=L.take n++a1 hp:=by rw[<-ar,gw]
 clear ar;generalize L.take n=loc at *;subst e;exact ae.akj (α:=α) (β:=β) mk hk aM λp h=>k (p,(p,mk)::hp) ⟨h,rfl⟩
def bO.It{a:Act}{W:bo}(s:bO c E L a W){p:Nat}{α β:Type}[ak α][ak β]{kv:aa (α×β)}(hm:(⟨some p,.map kv⟩:aK)∈L):
 ∃es clock,W.heap[p]? =some (.map es clock)∧mw (ks L++c.b8) W es.toList kv∧(∀x∈es.toList,x.born<clock)∧(es.toList.map MapEntry.born).Nodup:=by
 obtain⟨o,a6,es,clock,rfl,ad,aB,aV⟩:=s.own _ hm
 exact⟨es,clock,a6,ad,aB,aV⟩
def WH{a:Act}{W:bo}(s:bO c E L a W){p key elem:Nat}{α β:Type}[ak α][ak β][DecidableEq α][Inhabited β]{kv:aa (α×β)}{i:α}(hu:c.P.underlying t=some (.map key elem))(mD:q2 c.P key α)(hS:dH c.P elem (default:β))
 (au:aU c E L x (.of (⟨some p⟩:fj))) (aR:aU c E L y (.of i)) (hm:(⟨some p,.map kv⟩:aK)∈L):
 ∃u,(J.of ((dG kv i).getD default)).holds (ks L++c.b8) W u∧∀ok,(Instr.lookup t (a.eval x) (a.eval y) ok).run c.P W=.ok (if ok then .tuple #[u,.bool (dG kv i).isSome]else u) W:=by
 obtain⟨es,clock,a6,ad,aB,aV⟩:=s.It hm
 have mZ:=yf.1 (au a W s)
 have sC:=aR a W s
 obtain⟨r,aG,aW⟩:=PC mD sC ad
 obtain⟨hE,eB,eo,bV,Ts⟩:=hS.zero
 have bu:(getObj p).run c.P W=.ok (.map es clock) W:=by simp[getObj,Sem.run,a6]
 have ag:=λb=>mD.check b _ W _ i sC
 have EJ:=WG kv i 0
 cases tC:nZ kv i 0 with
 | none=>
   rw[tC]at aW EJ
   cases r with
   |some q=>exact aW.elim
   | none=>
     refine⟨eB,by rw[<-EJ];exact Ts _ W,λok=>?_⟩
     rw[<-EJ]
     simp[Instr.lookup,eg,ep hu,mZ,bu,ag,aG,zeroValue,typeInfo,eo,bV]
 | some q=>
   rw[tC]at aW EJ
   cases r with
   |none=>exact aW.elim
   | some oY=>
     refine⟨oY.2,by rw[<-EJ];exact aW.2,λok=>?_⟩
     rw[<-EJ]
     simp[Instr.lookup,eg,ep hu,mZ,bu,ag,aG]
def vm{p key elem:Nat}{α β:Type}[ak α][ak β][DecidableEq α][Inhabited β]{kv:aa (α×β)}{i:α}{r:β}(hu:c.P.underlying t=some (.map key elem))(mD:q2 c.P key α)(hS:dH c.P elem (default:β))
 (au:aU c E L x (.of (⟨some p⟩:fj))) (aR:aU c E L y (.of i)) (hm:(⟨some p,.map kv⟩:aK)∈L) (aG:(dG kv i).getD default=r):
 bj c E L ⟨d,.lookup t x y false,ty,pos,af,g⟩ (.of r):=.pure λa W s=>by
 subst aG
 obtain⟨u,h1,ad⟩:=WH s hu mD hS au aR hm
 have aB:=ad false
 exact⟨u,by simp only[execOp,eg,aB,Result.andThen_ok];rfl,h1⟩
def P8{p key elem:Nat}{α β:Type}[ak α][ak β][DecidableEq α][Inhabited β]{kv:aa (α×β)}{i:α}{r:aE β}(hu:c.P.underlying t=some (.map key elem))(mD:q2 c.P key α)(hS:dH c.P elem (default:β))
 (au:aU c E L x (.of (⟨some p⟩:fj))) (aR:aU c E L y (.of i)) (hm:(⟨some p,.map kv⟩:aK)∈L) (aG:dG kv i=r):
 bj c E L ⟨d,.lookup t x y true,ty,pos,af,g⟩ (.bW [.of (r.getD default),.of r.isSome]):=.pure λa W s=>by
 subst aG
 obtain⟨u,h1,ad⟩:=WH s hu mD hS au aR hm
 have aB:=ad true
 exact⟨_,by simp only[execOp,eg,aB,Result.andThen_ok];rfl,_,rfl,.cons h1 (.cons (of_bool.2 I) .nil)⟩
def aiW{es:aa MapEntry}{m:Nat}{e e':MapEntry}(h:es[m]? =some e)(hb:e'.born=e.born):(es.set m e').map MapEntry.born=es.map MapEntry.born:=by
 apply nR;intro j;simp only[List.getElem?_map,qn];split
 ·rename_i aC;subst aC;have:=(ir.1 h).1;rw[bh this,h];simp[hb]
 rfl
def ae.aln{rest:aa Oper}{op:Op}(BI:op=.mapUpdate t x y z∨op=.insert t x y z){p key elem:Nat}{k k':bM}{α β:Type}[ak α][ak β][k0 α][DecidableEq α]{kv tD:aa (α×β)}{i:α}{v:β}(hu:c.P.underlying t=some (.map key elem))(mD:q2 c.P key α)
 (au:aU c E (loc++a1 hp) x (.of (⟨some p⟩:fj))) (aR:aU c E (loc++a1 hp) y (.of i)) (bV:aU c E (loc++a1 hp) z (.of v)) (hp':pat hp p=some k) (hk:ew.gU p k=[⟨some p,.map kv⟩]) (vT:gS kv i v=tD) (kI:ew.gU p k'=[⟨some p,.map tD⟩])
 (nM:ae c ops Q rest E (loc++a1 (cL hp p k'))):ae c ops Q (⟨none,op,ty,pos,af,none⟩::rest) E (loc++a1 hp):=λa W s=>by
 subst vT
 obtain⟨es,clock,a6,ad,aB,aV⟩:=s.It (jt (n:=loc.length) (by simp) hp' hk)
 have mZ:=yf.1 (au a W s)
 have sC:=aR a W s
 have acS:=bV a W s
 obtain⟨r,aG,aW⟩:=PC mD sC ad
 have bu:(getObj p).run c.P W=.ok (.map es clock) W:=by simp[getObj,Sem.run,a6]
 have ag:=mD.check false _ W _ i sC
 have b9:p<W.heap.size:=(sP.1 a6).1
 have iT:∀o,(setObj p o).run c.P W=.ok () (W.putObj p o):=λo=>by simp only[setObj,Sem.run,a6];rfl
 have key:∃oP AO,(Instr.mapUpdate t (a.eval x) (a.eval y) (a.eval z)).run c.P W=.ok () (W.putObj p (.map oP AO))∧mw (ks (loc++a1 hp)++c.b8) W oP.toList (gS kv i v)∧(∀x∈oP.toList,x.born<AO)∧(oP.toList.map MapEntry.born).Nodup:=by
  cases tC:nZ kv i 0 with
  | none=>
    rw[tC]at aW
    cases r with
    |some q=>exact aW.elim
    | none=>
      obtain⟨g1,_⟩:=PS ad tC
      refine⟨es.push {key:=a.eval y,val:=a.eval z,born:=clock},clock+1,by simp[Instr.mapUpdate,eg,ep hu,mZ,bu,ag,aG,iT],by simpa using g1 {key:=a.eval y,val:=a.eval z,born:=clock} v sC acS,?_,?_⟩
      ·intro q hq
       simp only[Array.toList_push,cF,hT]at hq
       rcases hq with hq|rfl
       ·exact Nat.lt_succ_of_lt (aB q hq)
       exact Nat.lt_succ_self _
      simp only[Array.toList_push,mI,nS,K8]
      refine q5.2 ⟨aV,by simp,λb hb b' Jv=>?_⟩
      simp only[hT]at Jv
      subst Jv
      obtain⟨q,hq,rfl⟩:=ic.1 hb
      exact Ps (aB q hq)
  | some q=>
    rw[tC]at aW
    cases r with
    |none=>exact aW.elim
    | some oY=>
      obtain⟨m,e,g1,g2,g3,g4,_⟩:=Qf ad tC
      have jO:oY.1=m:=by have:=aW.1;omega
      have hq:es[m]? =some e:=by simpa using g2
      have b5:=ahU (P:=c.P) g3 sC W
      let e':MapEntry:= {e with key:=a.eval y,val:=a.eval z}
      have Bg:(es.modify m λe=>{e with key:=a.eval y,val:=a.eval z}).toList=es.toList.set m e':=by
       apply nR;intro j;rw[zA,Ou,qn,zA];by_cases aC:m=j
       ·subst aC;rw[bh I,bh I,hq,bh (by simpa using (sP.1 hq).1)];rfl
       rw[bf aC,bf aC]
      refine⟨es.modify m λe=>{e with key:=a.eval y,val:=a.eval z},clock,by simp[Instr.mapUpdate,eg,ep hu,mZ,bu,ag,aG,iT,jO,hq,b5],by rw[Bg];exact g4 e' v sC acS,?_,?_⟩
      ·rw[Bg]
       intro w hw
       rcases UO hw with hw|rfl
       ·exact aB w hw
       exact aB e (fB g2)
      rw[Bg,aiW (e':=e') g2 I];exact aV
 obtain⟨oP,AO,kH,av,aS,cM⟩:=key
 obtain⟨R,bk,bn⟩:=wv hp'
 have bn:=bn k'
 rw[hk]at bk
 rw[kI]at bn
 have bZ:∀{z:aa (α×β)} {M:aa aK},M.Perm ([⟨some p,.map z⟩]++R)->(loc++M).Perm (⟨some p,.map z⟩::(loc++R)):=λh=>(h.append_left loc).trans (by simp only[List.singleton_append];exact sS)
 have cv:=(s.perm (bZ bk)).ux (i:=0) (cp':=.map (gS kv i v)) I (o':=.map oP AO) ⟨oP,AO,rfl,av.mono (pV (bZ bk)),aS,cM⟩
 refine jm I (R:=λv W'=>W'=W.putObj p (.map oP AO)) (.DE ?_ I) λv W' hw=>?_
 ·rcases BI with rfl|rfl <;> simp[execOp,kH]
 subst hw
 exact nM _ _ (cv.perm (bZ bn).symm)
def ae.Il{rest:aa Oper}{op:Op}(n:Nat)(ar:L.drop n=a1 hp)(BI:op=.mapUpdate t x y z∨op=.insert t x y z){p key elem:Nat}{k k':bM}{cZ:aL bM}{α β:Type}[ak α][ak β][k0 α][DecidableEq α]{kv tD:aa (α×β)}{i:α}{v:β}(hu:c.P.underlying t=some (.map key elem))(mD:q2 c.P key α)(au:aU c E L x (.of (⟨some p⟩:fj)))(aR:aU c E L y (.of i))(bV:aU c E L z (.of v))(hp':pat hp p=some k)(hk:ew.gU p k=[⟨some p,.map kv⟩])(vT:gS kv i v=tD)(kI:ew.gU p k'=[⟨some p,.map tD⟩])(bV:cL hp p k'=cZ)(nM:ae c ops Q rest E (L.take n++a1 cZ)):ae c ops Q (⟨none,op,ty,pos,af,none⟩::rest) E L:=by
 subst bV;have e:L=L.take n++a1 hp:=by rw[<-ar,gw]
 clear ar;generalize L.take n=loc at *;subst e;exact ae.aln BI hu mD au aR bV hp' hk vT kI nM
def ae.alo{rest:aa Oper}{p key elem:Nat}{k k':bM}{α β:Type}[ak α][ak β][DecidableEq α]{kv tD:aa (α×β)}{i:α}(hu:c.P.underlying t=some (.map key elem))(mD:q2 c.P key α)
 (au:aU c E (loc++a1 hp) x (.of (⟨some p⟩:fj))) (aR:aU c E (loc++a1 hp) y (.of i)) (hp':pat hp p=some k) (hk:ew.gU p k=[⟨some p,.map kv⟩]) (vT:ju kv i=tD) (kI:ew.gU p k'=[⟨some p,.map tD⟩])
 (nM:ae c ops Q rest E (loc++a1 (cL hp p k'))):ae c ops Q (⟨none,.call ⟨.builtin .delete,#[x,y],#[t,t2]⟩,ty,pos,af,none⟩::rest) E (loc++a1 hp):=λa W s=>by
 subst vT
 obtain⟨es,clock,a6,ad,aB,aV⟩:=s.It (jt (n:=loc.length) (by simp) hp' hk)
 have mZ:=yf.1 (au a W s)
 have sC:=aR a W s
 obtain⟨r,aG,aW⟩:=PC mD sC ad
 have bu:(getObj p).run c.P W=.ok (.map es clock) W:=by simp[getObj,Sem.run,a6]
 have ag:=λb=>mD.check b _ W _ i sC
 have iT:∀o,(setObj p o).run c.P W=.ok () (W.putObj p o):=λo=>by simp only[setObj,Sem.run,a6];rfl
 have key:∃oP,(Builtin.delete_ #[t,t2] ty #[a.eval x,a.eval y]).run c.P W=.ok (.tuple #[]) (W.putObj p (.map oP clock))∧mw (ks (loc++a1 hp)++c.b8) W oP.toList (ju kv i)∧(∀x∈oP.toList,x.born<clock)∧(oP.toList.map MapEntry.born).Nodup:=by
  cases tC:nZ kv i 0 with
  | none=>
    rw[tC]at aW
    cases r with
    |some q=>exact aW.elim
    | none=>
      obtain⟨_,g1⟩:=PS ad tC
      exact⟨es,by simp[Builtin.delete_,eg,ep hu,mZ,bu,ag,aG,iT],by rw[g1];exact ad,aB,aV⟩
  | some q=>
    rw[tC]at aW
    cases r with
    |none=>exact aW.elim
    | some oY=>
      obtain⟨m,e,g1,g2,_,_,g5⟩:=Qf ad tC
      have jO:oY.1=m:=by have:=aW.1;omega
      have hm:m<es.size:=by simpa using (ir.1 g2).1
      have he:(es.eraseIdxIfInBounds m).toList=es.toList.eraseIdx m:=by simp[Array.eraseIdxIfInBounds,hm]
      have oJ:(es.toList.eraseIdx m).Sublist es.toList:=List.eraseIdx_sublist _ _
      exact⟨es.eraseIdxIfInBounds m,by simp[Builtin.delete_,eg,ep hu,mZ,bu,ag,aG,iT,jO],by rw[he];exact g5,by rw[he];exact λw hw=>aB w (oJ.subset hw),by rw[he];exact(oJ.map _).nodup aV⟩
 obtain⟨oP,kH,av,aS,cM⟩:=key
 obtain⟨R,bk,bn⟩:=wv hp'
 have bn:=bn k'
 rw[hk]at bk
 rw[kI]at bn
 have bZ:∀{z:aa (α×β)} {M:aa aK},M.Perm ([⟨some p,.map z⟩]++R)->(loc++M).Perm (⟨some p,.map z⟩::(loc++R)):=λh=>(h.append_left loc).trans (by simp only[List.singleton_append];exact sS)
 have cv:=(s.perm (bZ bk)).ux (i:=0) (cp':=.map (ju kv i)) I (o':=.map oP clock) ⟨oP,clock,rfl,av.mono (pV (bZ bk)),aS,cM⟩
 refine jm I (R:=λv W'=>W'=W.putObj p (.map oP clock)) (.mR (v:=.tuple #[]) ?_ I) λv W' hw=>?_
 ·simp[execOp,resolve,invoke,builtin,kH]
 subst hw
 exact nM _ _ (cv.perm (bZ bn).symm)
def ae.MF{rest:aa Oper}{p key elem:Nat}{k k':bM}{cZ:aL bM}{α β:Type}[ak α][ak β][DecidableEq α]{kv tD:aa (α×β)}{i:α}(n:Nat)(ar:L.drop n=a1 hp)(hu:c.P.underlying t=some (.map key elem))(mD:q2 c.P key α)(au:aU c E L x (.of (⟨some p⟩:fj)))(aR:aU c E L y (.of i))(hp':pat hp p=some k)(hk:ew.gU p k=[⟨some p,.map kv⟩])(vT:ju kv i=tD)(kI:ew.gU p k'=[⟨some p,.map tD⟩])(bV:cL hp p k'=cZ)(nM:ae c ops Q rest E (L.take n++a1 cZ)):ae c ops Q (⟨none,.call ⟨.builtin .delete,#[x,y],#[t,t2]⟩,ty,pos,af,none⟩::rest) E L:=by
 subst bV;have e:L=L.take n++a1 hp:=by rw[<-ar,gw]
 clear ar;generalize L.take n=loc at *;subst e;exact ae.alo hu mD au aR hp' hk vT kI nM
def ajI{p key elem:Nat}{α β:Type}[ak α][ak β]{kv:aa (α×β)}(hu:c.P.underlying t=some (.map key elem))(au:aU c E L x (.of (⟨some p⟩:fj)))(hm:(⟨some p,.map kv⟩:aK)∈L):
 bj c E L ⟨d,.call ⟨.builtin .len,#[x],#[t]⟩,ty,pos,af,g⟩ (.of (kv.length:Int)):=.pure λa W s=>by
 obtain⟨es,clock,a6,ad,aB,aV⟩:=s.It hm
 have mZ:=yf.1 (au a W s)
 have bu:(getObj p).run c.P W=.ok (.map es clock) W:=by simp[getObj,Sem.run,a6]
 have an:es.size=kv.length:=by simpa using ad.length
 refine⟨.int .i64 kv.length,?_,of_int.2 I⟩
 simp[execOp,resolve,invoke,builtin,Builtin.len_,mZ,bu,an,ep hu,goInt]
end
def alp{P:Program}{t:bJ}(h:P.underlying t=some (.int .i64)):q2 P t Int where
 check b A W u x au:=PZ (α:=Int) h I b 10000 A W u x (by decide) au
 same A W u v x y au aR:=by
  have:=(Yt h).run 10000 (by decide) A W u v x y au aR;simpa[Op.equal,Op.maxDepth]using this
 now:=⟨_,h,λA W u v x y au aR=>.inr (by
  rw[of_int.1 au,of_int.1 aR];simp only[Instr.sameNow,bh];rfl)⟩
def RC{P:Program}{t:bJ}{α:Type}[ak α][DecidableEq α]{D:TypeDesc}{n m:Nat}(h:P.underlying t=some D)(kZ:(match (motive:=TypeDesc->Bool) D with | .array _ _| .struct _=>true|_=>false)=true)(atG:tO P t α n)(vX:mY P t α m)(aM:Nat.ble n 10000=true)(hm:Nat.ble m 10000=true):q2 P t α where
 check b A W u x au:=atG b 10000 A W u x (pM aM) au
 same A W u v x y au aR:=by
  have:=vX.run 10000 (pM hm) A W u v x y au aR;simpa[Op.equal,Op.maxDepth]using this
 now:=⟨_,h,λA W u v x y au aR=>.inl (by cases D <;> simp at kZ <;> rfl)⟩
structure kd(P:Program)(t:TypeId)(name:String)(f:FuncId):Prop where
 run:∀v W args,(callMethod (.iface t v) name args).run P W=.ok (.enter f (#[v]++args)) W
def kd.of{P:Program}{t:bJ}{name:String}{f:FuncId}{i:TypeInfo}{D:TypeDesc}{m:Method}(aq:P.info? t=some i)(hm:i.methods.find? (λx=>x.name==name)=some m)(hp:m.path= #[])(aW:m.func=some (f,false))(kZ:P.underlying t=some D)
 (aM:(match (motive:=TypeDesc->Bool) D with | .pointer _=>false|_=>true)=true) (cf:bH P f):kd P t name f where
 run v W args:=by
  have ash:∀args,(callFunc f args).run P W=.ok (.enter f args) W:=λargs=>cf.run ..;have c6:∀n,(method (n+1) t v name).run P W=.ok (f,v) W:=λn=>by
   simp only[method,eg,typeInfo,run_program,Result.andThen_ok,aq,Sem.run_pure,hm,hp,aW,follow,receiverAt,ep kZ];cases D <;> simp at aM <;> simp[Place.get]
  obtain⟨n,aM⟩:∃n,P.types.size+Made.depth=n+1:=⟨P.types.size+Made.depth-1,by simp[Made.depth]⟩;simp only[callMethod,eg,run_program,Result.andThen_ok,aM,c6,ash]
def kd.tE{P:Program}{t:bJ}{name:String}{f:FuncId}{D:TypeDesc}(hm:((P.info? t).bind λi=>(i.methods.find? (λx=>x.name==name)).map λm=>(m.path.size,m.func))=some (0,some (f,false)))(kZ:P.underlying t=some D)
 (aM:(match (motive:=TypeDesc->Bool) D with | .pointer _=>false|_=>true)=true) (cf:bH P f):kd P t name f:=by
 cases aq:P.info? t with
 |none=>rw[aq]at hm;cases hm
 | some i=>
   rw[aq]at hm
   simp only[Option.bind_some]at hm
   cases ad:i.methods.find? (λx=>x.name==name)with
   |none=>rw[ad]at hm;cases hm
   | some m=>
     rw[ad]at hm
     simp only[Option.map_some,gl,K6]at hm
     exact kd.of aq ad (Array.eq_empty_of_size_eq_zero hm.1) hm.2 kZ aM cf
def bL.map{P:Program}{f:FuncId}{τs:aa J}{Lin:aa aK}{δ BJ:Type}{ρ:δ->J}{Lo:δ->aa aK}{y5:BJ->J}{acT:BJ->aa aK}(F:δ->BJ)(aG:∀d,y5 (F d)=ρ d)(an:∀d,acT (F d)=Lo d)(h:bL P f τs Lin ρ Lo):bL P f τs Lin y5 acT:=
 λA W vs h1 ad aB aV ba=>(h A W vs h1 ad aB aV ba).mono λe W' ⟨v,d,aw,cH,eI,hn,c7,gL⟩=>⟨v,F d,aw,cH,by rw[an];exact eI,by rw[an];exact hn,by rw[an];exact c7,by rw[an,aG];exact gL⟩
structure mP(P:Program)(name:String)(τ:J)(τs:List J)(Lin:List aK){δ:Type}(ρ:δ->J)(Lo:δ->List aK):Prop where
 go:∀(A:List Nat) (W:World) (u:Value) (vs:List Value),(∀k∈A,k<W.heap.size∧k∉ks Lin)->(ks Lin).Nodup->(∀k∈ks Lin,k<W.heap.size)->(∀e∈Lin,e.ok (ks Lin++A) W)->hJ (ks Lin++A) W (τ::τs) (u::vs)->
  ∃f v,(∀args,(callMethod u name args).run P W=.ok (.enter f (#[v]++args)) W)∧Calls P f (v::vs).toArray W (k6 (ks Lin) A W ρ Lo)
def mP.of{P:Program}{name:String}{t:bJ}{f:FuncId}{τ σ:J}{τs:aa J}{Lin:aa aK}{δ:Type}{ρ:δ->J}{Lo:δ->aa aK}(mt:kd P t name f)(Jy:∀A W u,τ.holds A W u->∃v,u=.iface t v∧σ.holds A W v)
 (h:bL P f (σ::τs) Lin ρ Lo):mP P name τ τs Lin ρ Lo where
 go A W u vs h1 ad aB aV ba:=by
  cases ba with
  | cons bq c0=>
    obtain⟨v,rfl,db⟩:=Jy _ _ _ bq
    exact⟨f,v,λargs=>mt.run v W args,h A W (v::vs) h1 ad aB aV (.cons db c0)⟩
section
variable{c:cP}{E:aa (Nat×J)}{L:aa aK}{ops:Array Oper}{Q:Exit->Act->bo->Prop}
variable{d:aE Tmp}{ty:bJ}{pos:String}{af:Array Edge}{g:aE (Nat×Bool)}{x y z:cw}{t t2:bJ}
def XB{a:Act}{W:bo}{name:String}{xs:aa cw}{ats:Array bJ}{τ:J}{τs:aa J}{Lin Lr:aa aK}{δ:Type}{ρ:δ->J}{Lo:δ->aa aK}(h:mP c.P name τ τs Lin ρ Lo)
 (s:bO c E (Lin++Lr) a W) (au:hJ (ks (Lin++Lr)++c.b8) W (τ::τs) ((x::xs).map a.eval)):
 h3 c.P ⟨d,.call ⟨.invoke x name,xs.toArray,ats⟩,ty,pos,af,g⟩ a W λv W'=> ∃bb,bO c E (Lo bb++Lr) a W'∧(ρ bb).holds (ks (Lo bb++Lr)++c.b8) W' v:=by
 have nz:=s.nodup
 rw[fL]at nz
 obtain⟨py,uL,sA⟩:=q5.1 nz
 have iT:Ext (ks (Lin++Lr)++c.b8) W (ks Lin++(ks Lr++c.b8)) W:=DF
 have e7:∀k∈ks Lr++c.b8,k<W.heap.size∧k∉ks Lin:=λk hm=>by
  rcases cF.1 hm with hm|hm
  ·exact⟨s.lt k (by rw[fL];exact cF.2 (.inr hm)),λh=>sA k h k hm I⟩
  obtain⟨h1,ad⟩:=s.fe k hm;exact⟨h1,λh=>ad (by rw[fL];exact cF.2 (.inl h))⟩
 have b9:∀k∈ks Lin,k<W.heap.size:=λk hm=>s.lt k (by rw[fL];exact cF.2 (.inl hm))
 obtain⟨f,v,kH,ag⟩:=h.go (ks Lr++c.b8) W (a.eval x) (xs.map a.eval) e7 py b9 (λe he=>aK.wI (s.own e (cF.2 (.inl he))) iT λ_ _=>rfl) (by simpa using au.mono iT)
 refine .yd (f:=f) (args:=(v::xs.map a.eval).toArray) (W':=W) ?_ (ag.mono λe W' ⟨v,bb,he,aW,h1,ad,aB,aV⟩=>?_)
 ·have:=kH (xs.map a.eval).toArray
  simp only[execOp,resolve,eg,Sem.run_pure,Result.andThen_ok,invoke]
  simp only[List.map_toArray]at this⊢
  simp
  rw[pL (by simp),this]
  simp
 refine⟨v,he,bb,s.after aW h1 ad aB,(ρ bb).mono LP aV⟩
variable{bM:Type}[ew bM]{hp:aL bM}
def ae.Eh{rest:aa Oper}{bb:Nat}{name:String}{xs:aa cw}{ats:Array bJ}{τ:J}{τs:aa J}{Lin Lr:aa aK}{δ:Type}{ρ:δ->J}{Lo:δ->aa aK}{hq:δ->aL bM}(n m:Nat)(ar:L.drop n=a1 hp)(h:mP c.P name τ τs (Lin++a1 hp) ρ (λd=>Lo d++a1 (hq d)))
 (h1:(L.take n).take m=Lin) (ad:(L.take n).drop m=Lr) (au:jr c E L (x::xs) (τ::τs)) (aM:Nat.blt bb c.n=true) (k:∀q,ae c ops Q rest ((bb,ρ q)::E) ((Lo q++Lr)++a1 (hq q))):
 ae c ops Q (⟨some bb,.call ⟨.invoke x name,xs.toArray,ats⟩,ty,pos,af,none⟩::rest) E L:=by
 have e:L=(Lin++Lr)++a1 hp:=by rw[<-h1,<-ad,gw,<-ar,gw]
 clear ar h1 ad
 subst e
 exact λa W s=>jm I (XB (Lr:=Lr) h (s.perm ov) ((au.holds a W s).mono (pV ov))) λv W' ⟨q,cv,bc⟩=>
  k q _ _ ((cv.perm ov).put (by simpa using aM) ((ρ q).mono (pV ov) bc))
def dx.Eh{name:String}{xs:aa cw}{ats:Array bJ}{τ:J}{τs:aa J}{ρ:J}(n:Nat)(ar:L.drop n=a1 hp)(h:mP c.P name τ τs (a1 hp) (λ_:Unit=>ρ) (λ_=>a1 hp))
 (au:jr c E L (x::xs) (τ::τs)):dx c E L ⟨d,.call ⟨.invoke x name,xs.toArray,ats⟩,ty,pos,af,g⟩ ρ:=λa W s=>by
 have e:L=L.take n++a1 hp:=by rw[<-ar,gw]
 have bZ:L.Perm (a1 hp++L.take n):=by
  conv=>lhs;rw[e]
  exact nQ
 have a6:=XB (d:=d) (ty:=ty) (pos:=pos) (af:=af) (g:=g) (ats:=ats) (Lr:=L.take n) h (s.perm bZ) ((au.holds a W s).mono (pV bZ))
 unfold h3 at a6⊢
 exact tY (λiI W' ⟨v,h1,_,ad,aB⟩=>⟨v,h1,ad.perm bZ.symm,ρ.mono (pV bZ.symm) aB⟩) a6
def Rb{D:TypeDesc}{σ τ:J}(hu:c.P.underlying t=some D)(kZ:(match (motive:=TypeDesc->Bool) D with | .interface _=>false|_=>true)=true)(au:aU c E L x σ)(Jy:∀A W v,σ.holds A W v->τ.holds A W (.iface t v)):
 bj c E L ⟨d,.makeInterface t x,ty,pos,af,g⟩ τ:=.pure λa W s=>
 ⟨.iface t (a.eval x),by
   simp only[execOp,Instr.makeInterface,eg,ep hu,Result.andThen_ok];cases D <;> simp at kZ <;> rfl,Jy _ _ _ (au a W s)⟩
end
def Nb(P:Program)(u:br){α σ ε γ:Type}(τ:α->J)(Ls:σ->γ->aa aK)(Lx:ε->γ->aa aK)(step:α->σ->aj (σ⊕ε))(atH:aa Nat->bo->Prop):Prop:=
 ∃ l,u=.func (.yield l) #[] #[]∧∀x s R,step x s R->∀g A W v,atH (ks (Ls s g)++A) W->El A W (Ls s g)->(τ x).holds (ks (Ls s g)++A) W v->
   YieldAt Fence.wide 8 P l #[v] W (λe W'=>(∃cv,R (.inl cv)∧k6 (ks (Ls s g)) A W (λ_:γ=>J.of true) (λg=>Ls cv g) e W')∨∃q,R (.inr q)∧k6 (ks (Ls s g)) A W (λ_:γ=>J.of false) (λg=>Lx q g) e W')
structure H9(P:Program)(f:FuncId)(τs:List J){bM:Type}[ew bM]{α:Type}(τ:α->J)(run:∀{σ ε:Type},(σ->aL bM)->(α->σ->aj (σ⊕ε))->σ->aj (σ⊕ε)):Prop where
 go:∀{σ ε γ:Type} (Ls:σ->γ->List aK) (Lx:ε->γ->List aK) (hq:σ->aL bM) (mc:σ->γ->List aK),(∀s g,Ls s g=mc s g++a1 (hq s))->∀(step:α->σ->aj (σ⊕ε)) (cb:σ) (g0:γ) (R:σ⊕ε->Prop),run hq step cb R->
  ∀ (A:List Nat) (W:World) (u:Value) (vs:List Value),El A W (Ls cb g0)->hJ (ks (Ls cb g0)++A) W τs vs->
    Nb P u τ Ls Lx step (λcV W'=>Ext (ks (Ls cb g0)++A) W cV W')->
    Calls P f (u::vs).toArray W (k6 (ks (Ls cb g0)) A W (δ:= {r // R r}×γ) (λ_=>.bW []) (λd=>Lr Ls Lx d.1.1 d.2))
def H9.of{P:Program}{f:FuncId}{fn:Func}{code:Code}{n:Nat}{τs:aa J}{bM:Type}[ew bM]{α:Type}{τ:α->J}{run:∀{σ ε:Type},(σ->aL bM)->(α->σ->aj (σ⊕ε))->σ->aj (σ⊕ε)}
 (aW:P.funcs[f]? =some fn) (hb:fn.body=some code) (aM:fn.ntmps=n) (hlen:Nat.ble (τs.length+1) n=true)
 (h:∀{σ ε γ:Type} (Ls:σ->γ->aa aK) (Lx:ε->γ->aa aK) (hq:σ->aL bM) (mc:σ->γ->aa aK),(∀s g,Ls s g=mc s g++a1 (hq s))->∀(step:α->σ->aj (σ⊕ε)) (cb:σ) (g0:γ) (R:σ⊕ε->Prop),run hq step cb R->
  ∀ W A u,Nb P u τ Ls Lx step (λcV W'=>Ext (ks (Ls cb g0)++A) W cV W')->
    ay ⟨P,n,W,ks (Ls cb g0),A,none,[]⟩ (bodyPost P fn (k6 (ks (Ls cb g0)) A W (δ:= {r // R r}×γ) (λ_=>.bW []) (λd=>Lr Ls Lx d.1.1 d.2))) code (params 0 (.eq u::τs)) (Ls cb g0)):H9 P f τs τ run:=by
 refine⟨?_⟩
 intro σ ε γ Ls Lx hq mc qO step cb g0 R aG A W u vs an bc aR
 refine GU aW hb (wpIn_wide.1 (h Ls Lx hq mc qO step cb g0 R aG W A u aR _ _ ?_))
 have p9:hJ (ks (Ls cb g0)++A) W (.eq u::τs) (u::vs):=.cons I bc
 have kJ:=p9.length
 have hle:τs.length+1<=n:=pM hlen
 exact
 {defers:=rfl
  size:=by simp at kJ;simp[aM,kJ];omega
  env:=λt τ fm=>by
   obtain⟨_,v,ad,aB⟩:=Ak p9 0 t τ fm;refine⟨v,?_,aB⟩;have b9:t<(u::vs).length:=(ir.1 ad).1;rw[v8 (by simpa using b9)];simpa using ad
  ef:=.refl _ _
  own:=an.ok
  nodup:=an.nodup
  lt:=an.lt
  hh:=λk hk _=>hk
  fe:=an.fe}
section
variable{c:cP}{E:aa (Nat×J)}{L:aa aK}{ops:Array Oper}{Q:Exit->Act->bo->Prop}
variable{d:aE Tmp}{ty:bJ}{pos:String}{af:Array Edge}{g:aE (Nat×Bool)}{x y:cw}{t t2:bJ}
def ZV{bM:Type}[ew bM]{σ γ:Type}{Ls mc:σ->γ->aa aK}{hq:σ->aL bM}{s:σ}{g:γ}{p:Nat}{k:bM}{e:aK}(n:Nat)(ar:L.drop n=Ls s g)(qO:∀s g,Ls s g=mc s g++a1 (hq s))(h:pat (hq s) p=some k)(hk:ew.gU p k=[e]):e∈L:=by
 obtain⟨R,h1,_⟩:=wv h;rw[hk]at h1;have:e∈L.drop n:=by rw[ar,qO];exact cF.2 (.inr (h1.mem_iff.2 (by simp)))
 exact Cn this
def ae.akR{rest:aa Oper}{bb nN:Nat}{ats:Array bJ}{u:br}{α σ ε γ:Type}{τ:α->J}{Ls:σ->γ->aa aK}{Lx:ε->γ->aa aK}{step:α->σ->aj (σ⊕ε)}{Lin:aa aK}{x:cw}{v:α}{s:σ}{gg:γ}{R:σ⊕ε->Prop}
 (ag:c.rd=none) (aR:Nb c.P u τ Ls Lx step (λcV W'=>Ext (c.X++c.b8) c.kc cV W')) (aW:look E nN=some (.eq u)) (au:aU c E (Lin++Ls s gg) x (τ v)) (aG:step v s R) (aM:Nat.blt bb c.n=true)
 (aJ:∀cv,R (.inl cv)->∀ek,ae c ops Q rest ((bb,.of true)::E) (Lin++Ls cv ek)) (bx:∀q,R (.inr q)->∀ek,ae c ops Q rest ((bb,.of false)::E) (Lin++Lx q ek)):
 ae c ops Q (⟨some bb,.call ⟨.value (.tmp nN),#[x],ats⟩,ty,pos,af,none⟩::rest) E (Lin++Ls s gg):=λa W st=>by
 obtain⟨l,rfl,aR⟩:=aR
 obtain⟨Un,h1,ad⟩:=st.env nN _ aW
 have hu:Un=.func (.yield l) #[] #[]:=ad
 subst hu
 have uN:bO c E (Ls s gg++Lin) a W:=st.perm nQ
 have bc:=au a W st
 have p9:(τ v).holds (ks (Ls s gg)++(ks Lin++c.b8)) W (a.eval x):=(τ v).mono (.drop λk hm=>by
  rw[fL];simp only[cF]at hm⊢;rcases hm with hm|hm|hm
  ·exact .inl (.inr hm)
  ·exact .inl (.inl hm)
  exact .inr hm) bc
 obtain⟨fn,tmps,assign,body,kH,hF⟩:=aR v s R aG gg (ks Lin++c.b8) W (a.eval x) (uN.aaB.trans DF) uN.Na p9
 have Sk:(execOp a.eval ⟨some bb,.call ⟨.value (.tmp nN),#[x],ats⟩,ty,pos,af,none⟩).run c.P W=.ok (.round l fn tmps assign body) W:=by
  rw[<-kH];simp[execOp,resolve,Deferred.ofValue,Act.eval,h1,invoke,eg,Sem.run_pure,Result.andThen]
 refine wpListIn_plain I λK tM=>?_
 refine⟨λ_ _=>trivial,?_⟩
 rw[Pg _ _ _ (λ_ h=>by cases h),Sk,Oper.uponIn_round]
 refine⟨λh=>by simp at h,?_⟩
 have Tw:RoundIn c.F (9-1) c.P l fn tmps assign body W _:=hF
 refine Tw.mono λe W' he=>?_
 rcases he with⟨cv,hs,w,ek,rfl,uO,aB,aV,ba,bq⟩|⟨q,hs,w,ek,rfl,uO,aB,aV,ba,bq⟩
 ·obtain rfl:=of_bool.1 bq
  refine tM _ _ (aJ cv hs ek _ _ ?_)
  exact(((uN.after uO aB aV ba).perm nQ).put (by simpa using aM) (of_bool.2 I))
 obtain rfl:=of_bool.1 bq
 refine tM _ _ (bx q hs ek _ _ ?_)
 exact(((uN.after uO aB aV ba).perm nQ).put (by simpa using aM) (of_bool.2 I))
def acU{σ ε γ:Type}(c:cP)(js:ε->Code)(l D:Nat)(rec:Loop)(Ls:σ->γ->aa aK)(Lx:ε->γ->aa aK)(R:σ⊕ε->Prop):Exit->Act->bo->Prop:=λx a W=>
 (∃cv,R (.inl cv)∧x=.normal∧∃g,bO c [] (⟨some l,.is (.loop rec)⟩::⟨some D,.fH⟩::Ls cv g) a W)∨
 ∃q,R (.inr q)∧AN (js q)=true∧x=Ig (js q)∧∃g,bO c [] (⟨some l,.is (.loop rec)⟩::⟨some D,.fH⟩::Lx q g) a W
def al.apv{σ ε γ:Type}{js:ε->Code}{l D:Nat}{rec:Loop}{Ls:σ->γ->aa aK}{Lx:ε->γ->aa aK}{R:σ⊕ε->Prop}{cv:σ}(hF:R (.inl cv))(g:γ)(n:Nat)(ar:L.drop n=⟨some l,.is (.loop rec)⟩::⟨some D,.fH⟩::Ls cv g):
 al c (acU c js l D rec Ls Lx R) .normal E L:=λa W s=>.inl ⟨cv,hF,rfl,g,by rw[<-ar];exact(s.sf n).less (λt τ h=>by simp[look]at h)⟩
def ahA{gt p:Nat}{assign body:Code}{f:FuncId}{p1:aa J}{bM:Type}[ew bM]{α σ ε γ ρ:Type}{τ:α->J}{run:∀{σ ε:Type},(σ->aL bM)->(α->σ->aj (σ⊕ε))->σ->aj (σ⊕ε)}
 {Ls:σ->γ->aa aK} {Lx:ε->γ->aa aK} {hq:σ->aL bM} {step:α->σ->aj (σ⊕ε)} {cb:σ} {g0:γ} {k:σ⊕ε->aj ρ} {lC:ρ->Prop} (mc:σ->γ->aa aK) (js:ε->Code)
 (ag:c.rd=none) (cf:bH c.P f) (bu:look E gt=some (.lx f p1)) (nf:H9 c.P f p1 τ run) (aG:aj.bind (run hq step cb) k lC) (qO:∀s g,Ls s g=mc s g++a1 (hq s)) (ar:L=Ls cb g0) (hp:Nat.blt p c.n=true)
 (tb:∀x s R,step x s R->∀g (nD:bo) (nL nE:aa Nat) (l D:Nat) (rec:Loop),rec.state=.ready->
  ay ⟨c.P,c.n,nD,nL,nE,some l,[]⟩ (Exit.then (J5 ⟨c.P,c.n,nD,nL,nE,some l,[]⟩ l body (acU ⟨c.P,c.n,nD,nL,nE,some l,[]⟩ js l D {rec with state:=.busy} Ls Lx R)) (λ_ _ _=>False)) assign ((p,τ x)::E) (⟨some l,.is (.loop rec)⟩::⟨some D,.fH⟩::Ls s g))
 (sg:∀cv,k (.inl cv) lC->∀g D,al {c with ds:=D::c.ds} Q .normal E (⟨some D,.fH⟩::Ls cv g))
 (A2:∀q,k (.inr q) lC->∀g D,ay {c with ds:=D::c.ds} Q (js q) E (⟨some D,.fH⟩::Lx q g)):
 ay c Q (.rangeFunc (.tmp gt) #[p] assign body) E L:=λa W st=>by
 subst ar
 refine wpIn_rangeFunc λfn xo=>?_
 show ∃l mark Bh d anF E2 args aqw,(Instr.enterLoop fn a.tmps #[p] assign body c.rd).run c.P W=_∧_
 rw[ag]
 obtain⟨rec,mV⟩:∃rec:Loop,rec= {state:=.ready,pending:=none,fn,tmps:=a.tmps,params:= #[p],assign,body,defers:=W.heap.size}:=⟨_,rfl⟩
 obtain⟨v,Jo,fP,BH,ar8⟩:=st.env gt _ bu
 obtain⟨iY,Jp⟩:∃iY,(W.alloc (.deferred (some []))).alloc (.loop rec)=iY:=⟨_,rfl⟩
 have s1:=(st.alloc (o:=.deferred (some [])) (cp:=.fH) I).alloc (o:=.loop rec) (cp:=.is (.loop rec)) I
 rw[Jp,KQ]at s1
 obtain⟨D,kZ⟩:∃D,D=W.heap.size:=⟨_,rfl⟩
 obtain⟨l,an⟩:∃l,l=W.heap.size+1:=⟨_,rfl⟩
 have Jq:=run_enterLoop_outer (P:=c.P) (w:=W) fn a.tmps #[p] assign body
 rw[<-mV,Jp,<-an,<-kZ]at Jq
 rw[<-an,<-kZ]at s1
 obtain⟨oa,uP⟩:∃oa:σ->γ->aa aK,oa=λs g=>⟨some l,.is (.loop rec)⟩::⟨some D,.fH⟩::Ls s g:=⟨_,rfl⟩
 obtain⟨qa,Jr⟩:∃qa:ε->γ->aa aK,qa=λq g=>⟨some l,.is (.loop {rec with state:=.done,pending:=some (js q)})⟩::⟨some D,.fH⟩::Lx q g:=⟨_,rfl⟩
 have s2:bO c E (oa cb g0) a iY:=by rw[uP];exact s1
 have Ty:hJ (ks (oa cb g0)++c.b8) iY p1 fP:=by
  have h1:(J.lx f p1).holds (ks (oa cb g0)++c.b8) iY v:=by
   obtain⟨zl,h1,ad⟩:=s2.env gt _ bu;rw[Jo]at h1;cases h1;exact ad
  obtain⟨Tz,av,aS⟩:=h1;rw[BH]at av;have:Tz=fP:=by injection av with _ _ av;injection av with av;exact av.symm
  rw[<-this];exact aS
 have Js:bO c E ((oa cb g0)++[]) a iY:=by rw[ot];exact s2
 have Is:=Js.Na
 simp only[ks,List.nil_append]at Is
 have S3:Nb c.P (.func (.yield l) #[] #[]) τ oa qa step (λcV W'=>Ext (ks (oa cb g0)++c.b8) iY cV W'):=by
  refine⟨l,rfl,λx s vY hs g A rW v2 jd hle bc=>?_⟩;have IT:=hle;rw[uP]at IT;obtain⟨o,dq,fl⟩:=IT.ok ⟨some l,.is (.loop rec)⟩ (by simp);have uy:o=.loop rec:=fl;subst uy;have aR:=run_yield (P:=c.P) (args:= #[v2]) dq (by rw[mV];rfl);refine⟨_,_,_,_,aR,roundIn_of_wpIn lJ ?_⟩;have av:rec.assign=assign:=by rw[mV]
  have aS:rec.body=body:=by rw[mV]
  have cM:rec.params= #[p]:=by rw[mV]
  have eW:rec.tmps=a.tmps:=by rw[mV]
  rw[av,aS,cM,eW];refine LG (n:=9) I ?_;have Sl:((#[p]:Array Tmp).zip #[v2]).foldl (λtmps (t,a)=>tmps.setIfInBounds t a) a.tmps=a.tmps.setIfInBounds p v2:=by simp
  rw[Sl];subst uP Jr;refine wpIn_mono ((tb x s vY hs g rW (ks (⟨some l,.is (.loop rec)⟩::⟨some D,.fH⟩::Ls s g)) A l D rec (by rw[mV])) {tmps:=a.tmps.setIfInBounds p v2,defers:=[]} rW ?_) ?_
  ·have lg:p<c.n:=by simpa using hp
   exact
   {defers:=rfl
    size:=by simp[s2.size]
    env:=λt oO fm=>by
     simp only[look]at fm;by_cases e:Nat.beq p t=true
     ·rw[e]at fm;simp only[cond_true,gl]at fm;subst fm;have:=fa.1 e;subst this;exact⟨v2,by simp[s2.size,lg],bc⟩
     simp only[jk]at e;rw[e]at fm;simp only[cond_false]at fm;obtain⟨u,h1,ad⟩:=s2.env t oO fm;have di:p≠t:=λh=>by rw[fa.2 h]at e;cases e
     exact⟨u,by rw[Oh di];exact h1,oO.mono jd ad⟩
    ef:=.refl _ _
    own:=hle.ok
    nodup:=hle.nodup
    lt:=hle.lt
    hh:=λk hk _=>hk
    fe:=hle.fe}
  intro e a3 atD hq;cases e with
  | normal=>
    obtain⟨Uo,TA,hb⟩:=hq
    refine⟨Uo,TA,LG (n:=9) I (wpIn_mono hb ?_)⟩
    intro e a5 J6 ND
    have fin:∀(jump:aE Code) {Lr:aa aK},bO ⟨c.P,c.n,rW,ks (⟨some l,.is (.loop rec)⟩::⟨some D,.fH⟩::Ls s g),A,some l,[]⟩ [] (⟨some l,.is (.loop {rec with state:=.busy})⟩::⟨some D,.fH⟩::Lr) a5 J6->
     ∃sI,(Instr.endRound l jump).run c.P J6=.ok (.bool jump.isNone) sI∧bO ⟨c.P,c.n,rW,ks (⟨some l,.is (.loop rec)⟩::⟨some D,.fH⟩::Ls s g),A,some l,[]⟩ [] (⟨some l,.is (.loop {rec with state:=if jump.isNone then .ready else .done,pending:=jump})⟩::⟨some D,.fH⟩::Lr) a5 sI:=λjump Lr jZ=>by
     obtain⟨o,h1,ad⟩:=jZ.own ⟨some l,.is (.loop {rec with state:=.busy})⟩ (by simp)
     have l0:o=.loop {rec with state:=.busy}:=ad
     subst l0
     exact⟨_,run_endRound jump h1,jZ.ux (i:=0) I I⟩
    rcases ND with⟨cv,jx,rfl,ek,jZ⟩|⟨q,jx,aC,rfl,ek,jZ⟩
    ·obtain⟨sI,bq,kY⟩:=fin none jZ
     refine⟨_,sI,bq,.inl ⟨cv,jx,?_⟩⟩
     have TB:({rec with state:=if (none:aE Code).isNone then .ready else .done,pending:=none}:Loop)=rec:=by rw[mV];rfl
     rw[TB]at kY
     exact kY.ends (ρ:=λ_:γ=>J.of true) (Lo:=λg=>⟨some l,.is (.loop rec)⟩::⟨some D,.fH⟩::Ls cv g) ek (zL _) (of_bool.2 I)
    obtain⟨sI,bq,kY⟩:=fin (some (js q)) jZ
    have key:k6 (ks (⟨some l,.is (.loop rec)⟩::⟨some D,.fH⟩::Ls s g)) A rW (λ_:γ=>J.of false) (λg=>⟨some l,.is (.loop {rec with state:=.done,pending:=some (js q)})⟩::⟨some D,.fH⟩::Lx q g) (.returned (.bool false)) sI:=
     kY.ends (ρ:=λ_:γ=>J.of false) (Lo:=λg=>⟨some l,.is (.loop {rec with state:=.done,pending:=some (js q)})⟩::⟨some D,.fH⟩::Lx q g) ek (zL _) (of_bool.2 I)
    exact Wf aC bq (.inr ⟨q,jx,key⟩)
  |exit id=>exact hq.elim
  |goto t=>exact hq.elim
  |ret=>exact hq.elim
  |panic me=>exact hq.elim
  |outgrown=>exact hq.elim
 have A3:=nf.go oa qa hq (λs g=>⟨some l,.is (.loop rec)⟩::⟨some D,.fH⟩::mc s g) (λs g=>by rw[uP];simp only[qO,List.cons_append]) step cb g0 (λr=>k r lC) aG c.b8 iY (.func (.yield l) #[] #[]) fP Is Ty S3
 have n9:a.eval (.tmp gt)=.func (.func f) #[] fP.toArray:=by simp[Act.eval,Jo,BH]
 refine⟨l,[M6 D],iY,{target:=.fn (.func f) fP.toArray,args:= #[.func (.yield l) #[] #[]]},iY,f,#[.func (.yield l) #[] #[]]++fP.toArray,iY,Jq,?_,λ_ _=>trivial,?_,λh=>by simp at h,?_⟩
 ·simp only[resolve,n9]
  simp[go_sem]
 ·simp[invoke,go_sem,cf.run]
 refine CallsIn.QA ?_
 have Sm:(#[.func (.yield l) #[] #[]]++fP.toArray:Array br)=(.func (.yield l) #[] #[]::fP).toArray:=by simp
 rw[Sm]
 refine A3.mono λe Up ⟨atE,⟨⟨r,acV⟩,ek⟩,he,aW,aB,aV,ba,bq⟩=>?_
 subst he
 have sJ:=Js.after aW aB (by simpa[ks]using aV) (by simpa[ks]using ba)
 rw[ot]at sJ
 cases r with
 | inl cv=>
   simp only[Lr]at sJ
   subst uP
   obtain⟨o,dq,fl⟩:=sJ.own ⟨some l,.is (.loop rec)⟩ (by simp)
   have uy:o=.loop rec:=fl
   subst uy
   have oL:=Lc (P:=c.P) dq (by rw[mV];simp)
   have lg:rec.pending=none:=by rw[mV]
   rw[lg]at oL
   refine⟨none,_,oL,?_⟩
   have xC:=(sJ.ux (i:=0) (cp':=.is (.loop {rec with state:=.exhausted})) (o':=.loop {rec with state:=.exhausted}) I I).sf 1
   rw[lg]at xC
   exact sg cv acV ek D _ _ (xC.mark D)
 | inr q=>
   simp only[Lr]at sJ
   subst Jr
   obtain⟨o,dq,fl⟩:=sJ.own ⟨some l,.is (.loop {rec with state:=.done,pending:=some (js q)})⟩ (by simp)
   have uy:o=.loop {rec with state:=.done,pending:=some (js q)}:=fl
   subst uy
   have oL:=Lc (P:=c.P) dq (by simp)
   refine⟨some (js q),_,oL,?_⟩
   have xC:=(sJ.ux (i:=0) (cp':=.is (.loop {rec with state:=.exhausted,pending:=some (js q)})) (o':=.loop {rec with state:=.exhausted,pending:=some (js q)}) I I).sf 1
   exact A2 q acV ek D _ _ (xC.mark D)
end
def aj.any(α:Type):aj α:=λQ=> ∀x,Q x
def aj.any_bind{α β:Type}{k:α->aj β}{R:β->Prop}(h:aj.bind (aj.any α) k R)(x:α):k x R:=h x
def hJ.append{A:aa Nat}{W:bo}:∀{τs σs:aa J} {vs us:aa br},hJ A W τs vs->hJ A W σs us->hJ A W (τs++σs) (vs++us)
 |_,_,_,_,.nil,h=>h
 |_,_,_,_,.cons h r,ad=>.cons h (r.append ad)
section
variable{c:cP}{E:aa (Nat×J)}{L:aa aK}{ops:Array Oper}{Q:Exit->Act->bo->Prop}
variable{d:aE Tmp}{ty:bJ}{pos:String}{af:Array Edge}{g:aE (Nat×Bool)}{x y:cw}{t t2:bJ}
def eD(c:cP)(E:aa (Nat×J))(L:aa aK)(o:Oper){δ:Type}(ρ:δ->J)(L':δ->aa aK):Prop:=
 ∀a W,bO c E L a W->h3 c.P o a W λv W'=> ∃q,bO c E (L' q) a W'∧(ρ q).holds (ks (L' q)++c.b8) W' v
def ae.pG{o:Oper}{rest:aa Oper}{bb:Nat}{δ:Type}{ρ:δ->J}{L':δ->aa aK}(h:eD c E L o ρ L')(bu:o.guard=none)(hd:o.dst=some bb)(aM:Nat.blt bb c.n=true)
 (k:∀q,ae c ops Q rest ((bb,ρ q)::E) (L' q)):ae c ops Q (o::rest) E L:=λa W s=>
 jm bu (h a W s) λv W' ⟨q,f,bc⟩=>by
  rw[hd];exact k q _ _ (f.put (by simpa using aM) bc)
def ae.adF{o:Oper}{rest:aa Oper}{bb j gs:Nat}{b want:Bool}{δ β:Type}{σ:β->J}{L2:β->aa aK}{K:β->Prop}{val:δ->β}{ρ:δ->J}{L':δ->aa aK}(bu:o.guard=some (j,want))(aC:(ops[j]?).bind (·.dst)=some gs)
 (an:look E gs=some (.of b)) (hd:o.dst=some bb) (aM:Nat.blt bb c.n=true) (h:b=want->eD c E L o ρ L')
 (h1:b=want->∀q,K (val q)∧ρ q=σ (val q)∧L' q=L2 (val q)) (ad: ¬b=want->∃y,K y∧L=L2 y)
 (k:∀y,K y->ae c ops Q rest ((bb,.cond (b=want) (σ y))::E) (L2 y)):ae c ops Q (o::rest) E L:=λa W s=>by
 have aR:=Dv aC an s
 unfold cP.sw wpListIn
 by_cases hb:b=want
 ·rw[bh (by simp[Region.wanted,bu,aR,hb])]
  refine((h hb a W s).wpIn λv W' ⟨q,f,bc⟩=>?_)
  obtain⟨av,aS,cM⟩:=h1 hb q
  rw[aS]at bc
  rw[cM]at f bc
  rw[hd]
  exact k _ av _ _ (f.put (by simpa using aM) ⟨λ_=>bc,λh=>absurd hb h⟩)
 rw[bf (by simp[Region.wanted,bu,aR,hb])]
 rw[hd]
 obtain⟨y,av,aS⟩:=ad hb
 rw[aS]at s
 exact⟨λ_ _=>trivial,k y av _ _ (s.put (by simpa using aM) ⟨λh=>absurd h hb,λ_=>rfl⟩)⟩
def eD.perm{gj:aa aK}{o:Oper}{δ:Type}{ρ:δ->J}{L' L2:δ->aa aK}(p:L.Perm gj)(B2:∀q,(L' q).Perm (L2 q))(h:eD c E gj o ρ L'):eD c E L o ρ L2:=λa W s=>by
 have:=h a W (s.perm p);unfold h3 at this⊢;exact tY (λiI W' ⟨v,h1,q,ad,aB⟩=>⟨v,h1,q,ad.perm (B2 q),(ρ q).mono (pV (B2 q)) aB⟩) this
def eD.to{o:Oper}{δ:Type}{ρ:δ->J}{L' L2:δ->aa aK}(e:∀q,L' q=L2 q)(h:eD c E L o ρ L'):eD c E L o ρ L2:=by
 have:L'=L2:=funext e;subst this;exact h
def eD.map{o:Oper}{δ BJ:Type}{ρ:δ->J}{L':δ->aa aK}{y5:BJ->J}{L2:BJ->aa aK}(F:δ->BJ)(aG:∀d,y5 (F d)=ρ d)(an:∀d,L2 (F d)=L' d)(h:eD c E L o ρ L'):eD c E L o y5 L2:=λa W s=>by
 have:=h a W s;unfold h3 at this⊢;exact tY (λiI W' ⟨v,h1,q,ad,aB⟩=>⟨v,h1,F q,by rw[an];exact ad,by rw[an,aG];exact aB⟩) this
def eD.il{α:Type}[ak α]{o:Oper}{i s cap T:Nat}{key:aE Nat}{xs:aa α}{δ:Type}{ρ:δ->J}{L':δ->aa aK}(an:look E s=some (.eq (aQ key xs.length cap)))(ar:L[i]? =some ⟨key,.row T xs cap⟩)
 (h:eD c ((s,.of xs)::E) (L.set i ⟨none,.dead⟩) o ρ L'):eD c E L o ρ L':=λa W st=>by
 have h1:=h a W (st.freeze an ar)
 unfold h3 at h1⊢
 refine tY (λiI W' ⟨v,ad,q,cv,aB⟩=>⟨v,ad,q,{cv with env:=λt τ fm=>?_},aB⟩) h1
 by_cases e:Nat.beq s t=true
 ·have:=fa.1 e
  subst this
  rw[an]at fm
  cases fm
  obtain⟨v,aV,ba⟩:=st.env s _ an
  exact⟨v,aV,ba⟩
 refine cv.env t τ ?_
 simp only[look]
 rw[jk]at e
 rw[e]
 exact fm
def eD.aG{o:Oper}{τ:J}(h:bj c E L o τ):eD c E L o (λ_:Unit=>τ) (λ_=>L):=λa W s=>by
 have h1:=h a W s;unfold h3 at h1⊢;exact tY (λiI W' ⟨v,ad,f,aB⟩=>⟨v,ad,(),s.world f,aB⟩) h1
def eD.aqy{o:Oper}{δ:Type}{τ:J}(h:eD c E L o (λ_:δ=>τ) (λ_=>L)):dx c E L o τ:=λa W s=>by
 have:=h a W s;unfold h3 at this⊢;exact tY (λiI W' ⟨v,h1,q,ad,aB⟩=>⟨v,h1,ad,aB⟩) this
def eD.call{o:Oper}{f:FuncId}{qe:Act->aa br}{τs:aa J}{Lin Lr:aa aK}{δ:Type}{ρ:δ->J}{Lo:δ->aa aK}(h:bL c.P f τs Lin ρ Lo)
 (ag:∀a W,bO c E (Lin++Lr) a W->(execOp a.eval o).run c.P W=.ok (.enter f (qe a).toArray) W∧hJ (ks (Lin++Lr)++c.b8) W τs (qe a)):eD c E (Lin++Lr) o ρ (λq=>Lo q++Lr):=λa W s=>by
 obtain⟨kH,au⟩:=ag a W s
 have nz:=s.nodup
 rw[fL]at nz
 obtain⟨py,uL,sA⟩:=q5.1 nz
 have iT:Ext (ks (Lin++Lr)++c.b8) W (ks Lin++(ks Lr++c.b8)) W:=DF
 have e7:∀k∈ks Lr++c.b8,k<W.heap.size∧k∉ks Lin:=λk hm=>by
  rcases cF.1 hm with hm|hm
  ·exact⟨s.lt k (by rw[fL];exact cF.2 (.inr hm)),λh=>sA k h k hm I⟩
  obtain⟨h1,ad⟩:=s.fe k hm;exact⟨h1,λh=>ad (by rw[fL];exact cF.2 (.inl h))⟩
 have b9:∀k∈ks Lin,k<W.heap.size:=λk hm=>s.lt k (by rw[fL];exact cF.2 (.inl hm))
 refine .yd (f:=f) (args:=(qe a).toArray) (W':=W) kH ?_
 refine(h (ks Lr++c.b8) W (qe a) e7 py b9 (λe he=>aK.wI (s.own e (cF.2 (.inl he))) iT λ_ _=>rfl) (au.mono iT)).mono λe W' ⟨v,bb,he,aW,h1,ad,aB,aV⟩=>?_
 exact⟨v,he,bb,s.after aW h1 ad aB,(ρ bb).mono LP aV⟩
def eD.aaE{o:Oper}{bM:Type}[ew bM]{hp:aL bM}{Lin Lr:aa aK}{δ:Type}{ρ:δ->J}{Lo:δ->aa aK}{hq:δ->aL bM}(n m:Nat)(ar:L.drop n=a1 hp)(h1:(L.take n).take m=Lin)(ad:(L.take n).drop m=Lr)
 (h:eD c E ((Lin++a1 hp)++Lr) o ρ (λq=>(Lo q++a1 (hq q))++Lr)):eD c E L o ρ (λq=>(Lo q++Lr)++a1 (hq q)):=by
 have e:L=(Lin++Lr)++a1 hp:=by rw[<-h1,<-ad,gw,<-ar,gw]
 clear ar h1 ad
 subst e
 exact h.perm ov λq=>ov
def eD.en{f:FuncId}{xs:aa cw}{ats:Array bJ}{bM:Type}[ew bM]{hp:aL bM}{τs:aa J}{Lin Lr:aa aK}{δ:Type}{ρ:δ->J}{Lo:δ->aa aK}{hq:δ->aL bM}(n m:Nat)(ar:L.drop n=a1 hp)(cf:bH c.P f)(h:bL c.P f τs (Lin++a1 hp) ρ (λd=>Lo d++a1 (hq d)))
 (h1:(L.take n).take m=Lin) (ad:(L.take n).drop m=Lr) (au:jr c E L xs τs):eD c E L ⟨d,.call ⟨.value (.func f),xs.toArray,ats⟩,ty,pos,af,g⟩ ρ (λq=>(Lo q++Lr)++a1 (hq q)):=by
 have e:L=(Lin++Lr)++a1 hp:=by rw[<-h1,<-ad,gw,<-ar,gw]
 refine eD.aaE n m ar h1 ad (eD.call (qe:=λa=>xs.map a.eval) h λa W s=>⟨by simp[execOp,resolve,Deferred.ofValue,Act.eval,invoke,cf.run],?_⟩)
 subst e
 exact(au.holds a W (s.perm ov.symm)).mono (pV ov)
def eD.lI{f:FuncId}{xs:aa cw}{ats:Array bJ}{τs:aa J}{Lin Lr:aa aK}{δ:Type}{ρ:δ->J}{Lo:δ->aa aK}(m:Nat)(cf:bH c.P f)(h:bL c.P f τs Lin ρ Lo)
 (h1:L.take m=Lin) (ad:L.drop m=Lr) (au:jr c E L xs τs):eD c E L ⟨d,.call ⟨.value (.func f),xs.toArray,ats⟩,ty,pos,af,g⟩ ρ (λq=>Lo q++Lr):=by
 have e:L=Lin++Lr:=by rw[<-h1,<-ad,gw]
 clear h1 ad
 subst e
 exact eD.call (qe:=λa=>xs.map a.eval) h λa W s=>⟨by simp[execOp,resolve,Deferred.ofValue,Act.eval,invoke,cf.run],au.holds a W s⟩
def aU.akk{rU:cw}{f:FuncId}{uz τs:aa J}{xs:aa cw}{ats:Array bJ}(cf:bH c.P f)(aW:aU c E L rU (.lx f uz))(au:jr c E L xs τs){a:Act}{W:bo}(s:bO c E L a W):
 ∃fP:aa br,(execOp a.eval ⟨d,.call ⟨.value rU,xs.toArray,ats⟩,ty,pos,af,g⟩).run c.P W=.ok (.enter f (xs.map a.eval++fP).toArray) W∧hJ (ks L++c.b8) W (τs++uz) (xs.map a.eval++fP):=by
 obtain⟨fP,h1,ad⟩:=aW a W s
 exact⟨fP,by simp[execOp,resolve,Deferred.ofValue,h1,invoke,cf.run],(au.holds a W s).append ad⟩
def eD.lx{rU:cw}{f:FuncId}{uz τs:aa J}{xs:aa cw}{ats:Array bJ}{Lin Lr:aa aK}{δ:Type}{ρ:δ->J}{Lo:δ->aa aK}(m:Nat)(cf:bH c.P f)(aW:aU c E L rU (.lx f uz))(h:bL c.P f (τs++uz) Lin ρ Lo)
 (h1:L.take m=Lin) (ad:L.drop m=Lr) (au:jr c E L xs τs):eD c E L ⟨d,.call ⟨.value rU,xs.toArray,ats⟩,ty,pos,af,g⟩ ρ (λq=>Lo q++Lr):=by
 have e:L=Lin++Lr:=by rw[<-h1,<-ad,gw]
 clear h1 ad
 subst e
 intro a W s
 obtain⟨fP,aB,aV⟩:=aU.akk (d:=d) (ty:=ty) (pos:=pos) (af:=af) (g:=g) (ats:=ats) cf aW au s
 have nz:=s.nodup
 rw[fL]at nz
 obtain⟨py,uL,sA⟩:=q5.1 nz
 have iT:Ext (ks (Lin++Lr)++c.b8) W (ks Lin++(ks Lr++c.b8)) W:=DF
 have e7:∀k∈ks Lr++c.b8,k<W.heap.size∧k∉ks Lin:=λk hm=>by
  rcases cF.1 hm with hm|hm
  ·exact⟨s.lt k (by rw[fL];exact cF.2 (.inr hm)),λh=>sA k h k hm I⟩
  obtain⟨h1,ad⟩:=s.fe k hm;exact⟨h1,λh=>ad (by rw[fL];exact cF.2 (.inl h))⟩
 have b9:∀k∈ks Lin,k<W.heap.size:=λk hm=>s.lt k (by rw[fL];exact cF.2 (.inl hm))
 refine .yd (f:=f) (W':=W) aB ?_
 refine(h (ks Lr++c.b8) W _ e7 py b9 (λe he=>aK.wI (s.own e (cF.2 (.inl he))) iT λ_ _=>rfl) (aV.mono iT)).mono λe W' ⟨v,bb,he,aW,h1,ad,aB,aV⟩=>?_
 exact⟨v,he,bb,s.after aW h1 ad aB,(ρ bb).mono LP aV⟩
def jr.perm{gj:aa aK}(p:L.Perm gj):∀{xs:aa cw} {τs:aa J},jr c E L xs τs->jr c E gj xs τs
 |[],[],h=>h
 |_::_,_::_,h=>⟨h.1.perm p,jr.perm p h.2⟩
 |[],_::_,h=>h.elim
 |_::_,[],h=>h.elim
def eD.SG{rU:cw}{f:FuncId}{uz τs:aa J}{xs:aa cw}{ats:Array bJ}{bM:Type}[ew bM]{hp:aL bM}{Lin Lr:aa aK}{δ:Type}{ρ:δ->J}{Lo:δ->aa aK}{hq:δ->aL bM}(n m:Nat)(ar:L.drop n=a1 hp)(cf:bH c.P f)(aW:aU c E L rU (.lx f uz))(h:bL c.P f (τs++uz) (Lin++a1 hp) ρ (λd=>Lo d++a1 (hq d)))
 (h1:(L.take n).take m=Lin) (ad:(L.take n).drop m=Lr) (au:jr c E L xs τs):eD c E L ⟨d,.call ⟨.value rU,xs.toArray,ats⟩,ty,pos,af,g⟩ ρ (λq=>(Lo q++Lr)++a1 (hq q)):=by
 have e:L=(Lin++Lr)++a1 hp:=by rw[<-h1,<-ad,gw,<-ar,gw]
 refine eD.aaE n m ar h1 ad ?_
 subst e
 refine eD.to (λq=>rfl) (eD.lx (Lin++a1 hp).length cf (aW.perm ov) h Gs List.drop_left (au.perm ov))
def eD.obj{f:FuncId}{xs:aa cw}{ats:Array bJ}{bM:Type}[ew bM]{hp:aL bM}{p:Nat}{k:bM}{τs:aa J}{Lin:aa aK}{δ:Type}{ρ:δ->J}{Lo:δ->aa aK}(n:Nat)(k':δ->bM)(ar:L.drop n=a1 hp)(hp':pat hp p=some k)(cf:bH c.P f)(h:bL c.P f τs Lin ρ Lo)
 (hk:ew.gU p k=Lin) (kI:∀q,ew.gU p (k' q)=Lo q) (au:jr c E L xs τs):eD c E L ⟨d,.call ⟨.value (.func f),xs.toArray,ats⟩,ty,pos,af,g⟩ ρ (λq=>L.take n++a1 (cL hp p (k' q))):=by
 obtain⟨R,bk,bn⟩:=wv hp'
 have e:L=L.take n++a1 hp:=by rw[<-ar,gw]
 have bZ:∀{M X:aa aK},M.Perm (X++R)->(L.take n++M).Perm (X++(R++L.take n)):=λh=>nQ.trans ((h.append_right _).trans (by rw[iJ]))
 have TD:L.Perm (Lin++(R++L.take n)):=by
  conv=>lhs;rw[e]
  exact bZ (by rw[<-hk];exact bk)
 refine eD.perm TD (λq=>(bZ (bn (k' q))).symm) ?_
 refine eD.to (λq=>by rw[kI]) (eD.call (Lr:=R++L.take n) (qe:=λa=>xs.map a.eval) h λa W s=>⟨by simp[execOp,resolve,Deferred.ofValue,Act.eval,invoke,cf.run],?_⟩)
 exact(au.holds a W (s.perm TD.symm)).mono (pV TD)
def dx.obj{f:FuncId}{xs:aa cw}{ats:Array bJ}{bM:Type}[ew bM]{hp:aL bM}{p:Nat}{k:bM}{τs:aa J}{Lin:aa aK}{δ:Type}{τ:J}(n:Nat)(ar:L.drop n=a1 hp)(hp':pat hp p=some k)(cf:bH c.P f)(h:bL c.P f τs Lin (λ_:δ=>τ) (λ_=>Lin))
 (hk:ew.gU p k=Lin) (au:jr c E L xs τs):dx c E L ⟨d,.call ⟨.value (.func f),xs.toArray,ats⟩,ty,pos,af,g⟩ τ:=by
 have e:L=L.take n++a1 hp:=by rw[<-ar,gw]
 have y6:cL hp p k=hp:=by
  clear e ar h hk;induction hp with
  |nil=>rfl
  | cons z r cg=>
    obtain⟨q,atI⟩:=z
    simp only[pat]at hp'
    simp only[cL]
    split at hp'
    ·rename_i e;simp only[gl]at hp';rw[bh e,hp']
    rename_i e;rw[bf e,cg hp']
 refine eD.aqy (eD.to (λq=>?_) (eD.obj (d:=d) (ty:=ty) (pos:=pos) (af:=af) (g:=g) (ats:=ats) n (λ_=>k) ar hp' cf h hk (λ_=>hk) au))
 rw[y6,<-e]
def ae.ZX{l:aa Oper}{bM:Type}[ew bM]{hp:aL bM}{p:Nat}{Lin Lr:aa aK}(n m:Nat)(mk:bM)(ar:L.drop n=a1 hp)(h1:(L.take n).take m=Lin)(ad:(L.take n).drop m=Lr)(hk:ew.gU p mk=Lin)(hm:p∈ks Lin)
 (k:∀a:Nat×aL bM,a.1∉hp.map (·.1)∧a.2=(a.1,mk)::hp->a.1=p->ae c ops Q l E (Lr++a1 a.2)):ae c ops Q l E L:=λa W s=>by
 have e:L=(Lin++Lr)++a1 hp:=by rw[<-h1,<-ad,gw,<-ar,gw]
 have bZ:L.Perm (Lr++a1 ((p,mk)::hp)):=by
  rw[e,a1,hk,<-iJ];exact nQ.append_right _
 refine k (p,(p,mk)::hp) ⟨λJz=>?_,rfl⟩ I _ _ (s.perm bZ)
 have lR:=s.nodup
 rw[e,fL,fL]at lR
 exact(q5.1 lR).2.2 p (cF.2 (.inl hm)) p (Zb Jz) I
end
section
variable{c:cP}{E:aa (Nat×J)}{L:aa aK}{ops:Array Oper}{Q:Exit->Act->bo->Prop}
def ey.q{hs:aa dU}{i np:Nat}{o:Oper}{h:dU}(bT:ey c ops Q hs E L i o h):yn c ops Q hs E L np i o h:=λhd E' L' h1 ad _=>bT hd E' L' h1 ad
structure Ia(P:Program)(f:FuncId)(τs:List J){bM:Type}[ew bM](hp:aL bM){α:Type}(τ:α->J)(run:∀{σ ε:Type},(α->σ->Option (σ⊕ε))->σ->Option (σ⊕ε)):Prop where
 go:∀{σ ε γ:Type} (Ls:σ->γ->List aK) (Lx:ε->γ->List aK) (mc:σ->γ->List aK),(∀s g,Ls s g=mc s g++a1 hp)->Tx P f τs [] τ (run (σ:=σ) (ε:=ε)) Ls Lx
def Ia.of{P:Program}{f:FuncId}{fn:Func}{code:Code}{n:Nat}{τs:aa J}{bM:Type}[ew bM]{hp:aL bM}{α:Type}{τ:α->J}{run:∀{σ ε:Type},(α->σ->aE (σ⊕ε))->σ->aE (σ⊕ε)}
 (aW:P.funcs[f]? =some fn) (hb:fn.body=some code) (aM:fn.ntmps=n) (hlen:Nat.ble (τs.length+1) n=true)
 (h:∀{σ ε γ:Type} (Ls:σ->γ->aa aK) (Lx:ε->γ->aa aK) (mc:σ->γ->aa aK),(∀s g,Ls s g=mc s g++a1 hp)->∀(step:α->σ->aE (σ⊕ε)) (cb:σ) (g0:γ) (r:σ⊕ε),run step cb=some r->
  ∀ W A u,BG P u τ Ls Lx step (λcV W'=>Ext (ks (Ls cb g0)++A) W cV W')->
    ay ⟨P,n,W,ks (Ls cb g0),A,none,[]⟩ (bodyPost P fn (k6 (ks (Ls cb g0)) A W (λ_:γ=>.bW []) (λg=>[]++Lr Ls Lx r g))) code (params 0 (.eq u::τs)) (Ls cb g0)):Ia P f τs hp τ run:=by
 refine⟨?_⟩
 intro σ ε γ Ls Lx mc qO step cb g0 r aG A W u vs an bc aR
 refine GU aW hb (wpIn_wide.1 (h Ls Lx mc qO step cb g0 r aG W A u aR _ _ ?_))
 have p9:hJ (ks (Ls cb g0)++A) W (.eq u::τs) (u::vs):=.cons I bc
 have kJ:=p9.length
 have hle:τs.length+1<=n:=pM hlen
 exact
 {defers:=rfl
  size:=by simp at kJ;simp[aM,kJ];omega
  env:=λt τ fm=>by
   obtain⟨_,v,ad,aB⟩:=Ak p9 0 t τ fm;refine⟨v,?_,aB⟩;have b9:t<(u::vs).length:=(ir.1 ad).1;rw[v8 (by simpa using b9)];simpa using ad
  ef:=.refl _ _
  own:=an.ok
  nodup:=an.nodup
  lt:=an.lt
  hh:=λk hk _=>hk
  fe:=an.fe}
def amm{bM:Type}[ew bM]{σ γ:Type}{Ls mc:σ->γ->aa aK}{hp:aL bM}{s:σ}{g:γ}{p:Nat}{k:bM}{e:aK}(n:Nat)(ar:L.drop n=Ls s g)(qO:∀s g,Ls s g=mc s g++a1 hp)(h:pat hp p=some k)(hk:ew.gU p k=[e]):e∈L:=
 ZV (hq:=λ_=>hp) n ar qO h hk
def PV{gt p:Nat}{assign body:Code}{f:FuncId}{p1:aa J}{bM:Type}[ew bM]{hp:aL bM}{α σ ε γ:Type}{τ:α->J}{run:∀{σ ε:Type},(α->σ->aE (σ⊕ε))->σ->aE (σ⊕ε)}
 {Ls:σ->γ->aa aK} {Lx:ε->γ->aa aK} {step:α->σ->aE (σ⊕ε)} {cb:σ} {g0:γ} {r:σ⊕ε} (mc:σ->γ->aa aK) (js:ε->Code)
 (ag:c.rd=none) (cf:bH c.P f) (bu:look E gt=some (.lx f p1)) (nf:Ia c.P f p1 hp τ run) (aG:run step cb=some r) (qO:∀s g,Ls s g=mc s g++a1 hp) (ar:L=Ls cb g0) (hp':Nat.blt p c.n=true)
 (tb:∀x s r,step x s=some r->∀g (nD:bo) (nL nE:aa Nat) (l D:Nat) (rec:Loop),rec.state=.ready->
  ay ⟨c.P,c.n,nD,nL,nE,some l,[]⟩ (Exit.then (J5 ⟨c.P,c.n,nD,nL,nE,some l,[]⟩ l body (J4 ⟨c.P,c.n,nD,nL,nE,some l,[]⟩ js l D {rec with state:=.busy} Ls Lx r)) (λ_ _ _=>False)) assign ((p,τ x)::E) (⟨some l,.is (.loop rec)⟩::⟨some D,.fH⟩::Ls s g))
 (sg:∀cv,r=.inl cv->∀g D,al {c with ds:=D::c.ds} Q .normal E (⟨some D,.fH⟩::Ls cv g))
 (A2:∀q,r=.inr q->∀g D,ay {c with ds:=D::c.ds} Q (js q) E (⟨some D,.fH⟩::Lx q g)):
 ay c Q (.rangeFunc (.tmp gt) #[p] assign body) E L:=
 W7 (Lin:=[]) (run:=run) js ag cf bu (λav aS qa=>nf.go (λs g=>av::aS::Ls s g) qa (λs g=>av::aS::mc s g) (λs g=>by rw[qO];rfl)) aG ar hp' tb sg A2
end
structure Raw where
 f:FuncId
 us:Option (List Value)
instance:Inhabited Raw:=⟨⟨0,none⟩⟩
def Raw.val:Raw->br
 |⟨f,some us⟩=>.func (.func f) #[] us.toArray
 |⟨_,none⟩=>.nilFunc
instance:ak Raw where
 size:=1
 agg:=false
 rep _ _ cs x:=cs=[x.val]
 len h:=by rw[h];rfl
 one h:=by
  intro v bc;rw[h,hT]at bc;subst bc;rename_i x;obtain⟨f,us⟩:=x;cases us <;> rfl
 flat _:=rfl
 mono _ h:=h
instance:a7 Raw:=⟨[.nilFunc],λ_ _=>rfl⟩
def Zd{A W v}{x:Raw}:(J.of x).holds A W v↔v=x.val:=by
 constructor
 ·intro h;exact pS (by have:=h.1;exact this) h.2
 intro h;subst h;obtain⟨f,us⟩:=x;cases us <;> exact⟨rfl,rfl⟩
section
variable{c:cP}{E:aa (Nat×J)}{L:aa aK}{ops:Array Oper}{Q:Exit->Act->bo->Prop}
variable{d:aE Tmp}{ty:bJ}{pos:String}{af:Array Edge}{g:aE (Nat×Bool)}{x y:cw}{t t2:bJ}
def hJ.eqs{A:aa Nat}{W:bo}:∀{us vs:aa br},hJ A W (us.map J.eq) vs->vs=us
 |[],_,.nil=>rfl
 |_::_,_,.cons h r=>by rw[r.eqs];congr 1
def hJ.aaF{A:aa Nat}{W:bo}:∀{us:aa br},hJ A W (us.map J.eq) us
 |[]=>.nil
 |_::_=>.cons I .aaF
def ZZ{f:FuncId}{xs:aa cw}{us:aa br}(au:jr c E L xs (us.map J.eq)):bj c E L ⟨d,.makeFunc (.func f) #[] xs.toArray,ty,pos,af,g⟩ (.of (⟨f,some us⟩:Raw)):=.pure λa W s=>
 ⟨.func (.func f) #[] us.toArray,by
   have h:=(au.holds a W s).eqs;simp[execOp,Instr.makeFunc,h],Zd.2 I⟩
def P9{f:FuncId}{us:aa br}(au:aU c E L x (.of (⟨f,some us⟩:Raw))):aU c E L x (.lx f (us.map J.eq)):=λa W s=>
 ⟨us,Zd.1 (au a W s),.aaF⟩
def ae.Ui{o:Oper}{rest:aa Oper}{bb j gs:Nat}{b want:Bool}{β γ y5:Type}{m:aj β}{z:β}{k:β->aj y5}{R:y5->Prop}(h:aj.bind (bif decide (b=want)then m else aj.ret z) k R)(σ:β->J)(L2:β->γ->aa aK)(g0:γ)(ar:L=L2 z g0)
 (bu:o.guard=some (j,want)) (aC:(ops[j]?).bind (·.dst)=some gs) (an:look E gs=some (.of b)) (hd:o.dst=some bb) (aM:Nat.blt bb c.n=true)
 (bD:b=want->m (λr=>k r R)->eD c E L o (λq: {r // k r R}×γ=>σ q.1.1) (λq=>L2 q.1.1 q.2))
 (nM:∀y g,k y R->ae c ops Q rest ((bb,.cond (b=want) (σ y))::E) (L2 y g)):ae c ops Q (o::rest) E L:=by
 by_cases hb:b=want
 ·have hm:m (λr=>k r R):=by
   have cU:(bif decide (b=want)then m else aj.ret z) (λr=>k r R):=h;rw[q9 hb]at cU;exact cU
  exact ae.adF (β:=β×γ) (K:=λy=>k y.1 R) (σ:=λy=>σ y.1) (L2:=λy=>L2 y.1 y.2) (val:=λq=>(q.1.1,q.2)) bu aC an hd aM (λ_=>bD hb hm) (λ_ q=>⟨q.1.2,rfl,rfl⟩) (λh=>absurd hb h) λy aR=>nM y.1 y.2 aR
 have hm:k z R:=by
  have cU:(bif decide (b=want)then m else aj.ret z) (λr=>k r R):=h;rw[sT hb]at cU;exact cU
 exact ae.adF (δ:=Unit) (β:=β×γ) (K:=λy=>k y.1 R) (σ:=λy=>σ y.1) (L2:=λy=>L2 y.1 y.2) (val:=λ_=>(z,g0)) (ρ:=λ_=>σ z) (L':=λ_=>L2 z g0) bu aC an hd aM (λh=>absurd h hb) (λh=>absurd h hb) (λ_=>⟨(z,g0),hm,ar⟩) λy aR=>nM y.1 y.2 aR
end
section
variable{c:cP}{E:aa (Nat×J)}{L:aa aK}{ops:Array Oper}{Q:Exit->Act->bo->Prop}
def ae.ZY{l:aa Oper}{p q:Nat}(gY:Nat)(an:look E gY=some (.eq (.pointer (some ⟨p,0,none⟩))))(he:q=p)(k:ae c ops Q l ((gY,.of (some q:Ref))::E) L):ae c ops Q l E L:=λa W s=>by
 subst he;refine k a W (s.less λt τ h=>?_);simp only[look]at h;by_cases e:Nat.beq gY t=true
 ·rw[e]at h;simp only[cond_true,gl]at h;have:=fa.1 e;subst this;subst h;exact⟨_,an,λA W v bc=>yo.2 bc⟩
 simp only[jk]at e;rw[e]at h;exact⟨τ,h,λ_ _ _ h=>h⟩
end
section
variable{c:cP}{E:aa (Nat×J)}{L:aa aK}{ops:Array Oper}{Q:Exit->Act->bo->Prop}
def rz(ops:Array Oper)(n:Nat)(hs:aa (aE Nat×aa Nat×aa Nat×aa Nat))(E:aa Nat):Bool:=
 decide (hs.length=n)&&decide (n<=ops.size)&&decide (hs.filterMap (·.1)).Nodup&&((List.range n).all λm=>match hs[m]? with |some (some s,up,_)=> !E.contains s||(List.range n).all λk=>decide (k=m)||up.contains k|_=>true)&&
 ((List.range n).all λi=>match hs[i]? with
   |none=>false
   | some (_,up,rd,wr)=>
     (((ops[i]?).map λo=>(o.dst==(hs[i]?).bind (·.1))&&o.after.all λe=> !Region.binds .any e||decide (e.on<i)).getD false)&&
     (up.all λk=>Region.waitsFor .any ops i k||(List.range i).any λm=>Region.waitsFor .any ops i m&&((hs[m]?).map λh=>h.2.1.contains k).getD false)&&
     ((List.range n).all λk=>match hs[k]? with
       |none=>true
       | some (_,asi,_,acW)=>
         (!(decide (k<i)&&acW.any rd.contains)||up.contains k)&&(!(decide (i<k)&&acW.any λj=>rd.contains j||wr.contains j)||asi.contains i)))&&
 (decide (n=ops.size)||(Region.sinkB .any ops n&&Region.chainB .any ops n))&&
 Region.seqB .any ops (ops.size-n) n ((List.range n).foldl (λl i=>l.setIfInBounds i true) (Array.replicate ops.size false))
def ag9{n:Nat}{hs:aa dU}{np:Nat}(hw:∀h∈hs,∀j∈h.wr,j<np∨L.length<=j)(eu:rz ops n (l1 hs) (E.map (·.1))=true)(bT:qx c ops Q hs E L np 0 (ops.toList.take n) hs)
 (bD:∀hd,ae c ops Q (ops.toList.drop n) (iU (λ_=>true) hd E 0 hs) (ht (λ_=>true) hd 0 hs L)):
 ∀ m (ct:Array Bool) (hd:Nat->Hid) (a:Act) (W:bo),((List.range n).filter λi=> !ct.getD i true).length<=m->HeadInv .any ops n ct->
   bO c (iU (λi=>ct.getD i false) hd E 0 hs) (ht (λi=>ct.getD i false) hd 0 hs L) a W->wpAnyIn c.F 9 c.P .any ops Q (m+(ops.size-n)) ct a W:=by
 simp only[rz,gm,e2,qo]at eu
 obtain⟨⟨⟨⟨⟨⟨anI,aM⟩,lR⟩,abY⟩,n1⟩,anJ⟩,S4⟩:=eu
 have hlen:hs.length=n:=by simpa[l1]using anI
 have uA:∀i,i<n->∃h o,hs[i]? =some h∧ops[i]? =some o:=λi aq=>⟨hs[i]'(by omega),ops[i],by simp,by simp⟩
 have A4:∀(i:Nat) (h:dU) (o:Oper),hs[i]? =some h->ops[i]? =some o->
  o.dst=h.slot∧(∀e∈o.after,Region.binds .any e=true->e.on<i)∧
  (∀k∈h.up,Region.waitsFor .any ops i k=true∨∃m,m<i∧Region.waitsFor .any ops i m=true∧∃x,hs[m]? =some x∧k∈x.up)∧
  (∀(k:Nat) (x:dU),hs[k]? =some x->(k<i->(∃j∈x.wr,h.rd.contains j=true)->k∈h.up)∧(i<k->(∃j∈x.wr,h.rd.contains j=true∨h.wr.contains j=true)->i∈x.up)):=by
  intro i h o aq a6
  have b9:i<n:=by have:=(ir.1 aq).1;omega
  have h1:=lk.1 n1 i (lF.2 b9)
  rw[QE aq]at h1
  simp only[gm]at h1
  obtain⟨⟨ad,aB⟩,aV⟩:=h1
  simp only[a6,Option.map_some,Option.getD_some,gm,Option.bind_some,ni]at ad
  refine⟨ad.1,λe he hb=>?_,λk hk=>?_,λk x au=>?_⟩
  ·have:=Array.all_eq_true_iff_forall_mem.1 ad.2 e he
   simp[hb]at this
   exact this
  ·have:=lk.1 aB k hk
   simp only[qo,oo,gm,lF]at this
   rcases this with ba|⟨m,ba,bq,c0⟩
   ·exact .inl ba
   have hm:m<hs.length:=by omega
   rw[QE (o4 hm)]at c0
   exact .inr ⟨m,ba,bq,hs[m],o4 hm,by simpa using c0⟩
  have tF:k<n:=by have:=(ir.1 au).1;omega
  have:=lk.1 aV k (lF.2 tF)
  rw[QE au]at this
  simp only[gm,qo,r1,Bool.and_eq_false_iff,nP,Ox]at this
  refine⟨λrN ⟨j,aC,aG⟩=>?_,λmX ⟨j,aC,aG⟩=>?_⟩
  ·rcases this.1 with(ba|ba)|ba
   ·exact absurd rN ba
   ·have:=wc.1 ba j aC
    exact absurd aG this
   exact ba
  rcases this.2 with(ba|ba)|ba
  ·exact absurd mX ba
  ·have:=wc.1 ba j aC
   simp only[qo]at this
   exact absurd aG this
  exact ba
 have Sn:∀(i j s:Nat) (x y:dU),hs[i]? =some x->hs[j]? =some y->x.slot=some s->y.slot=some s->i=j:=by
  have key:∀(l:aa dU),((l1 l).filterMap (·.1)).Nodup->∀(i j s:Nat) (x y:dU),l[i]? =some x->l[j]? =some y->x.slot=some s->y.slot=some s->i=j:=by
   intro l;induction l with
   |nil=>intro _ i j s x y h;simp at h
   | cons z r cg=>
     intro lR i j s x y aq aC au aR
     have aG:((l1 r).filterMap (·.1)).Nodup:=by
      cases bV:z.slot with
      |none=>simpa[l1,bV]using lR
      | some w=>
        simp only[l1,nS,List.filterMap_cons,bV]at lR
        exact(pP.1 lR).2
     have IP:z.slot=some s->∀(q:Nat) (v:dU),r[q]? =some v->v.slot≠some s:=λbV q v hq bc=>by
      simp only[l1,nS,List.filterMap_cons,bV]at lR;exact(pP.1 lR).1 (OO.2 ⟨_,ic.2 ⟨v,fB hq,rfl⟩,bc⟩)
     cases i with
     | zero=>
       simp only[List.getElem?_cons_zero,gl]at aq
       subst aq
       cases j with
       |zero=>rfl
       |succ j=>simp only[List.getElem?_cons_succ]at aC;exact absurd aR (IP au j y aC)
     | succ i=>
       simp only[List.getElem?_cons_succ]at aq
       cases j with
       | zero=>
         simp only[List.getElem?_cons_zero,gl]at aC
         subst aC
         exact absurd au (IP aR i x aq)
       |succ j=>simp only[List.getElem?_cons_succ]at aC;rw[cg aG i j s x y aq aC au aR]
  exact key hs lR
 have anK:∀(t:Nat) (τ:J),look E t=some τ->∀(m:Nat) (h:dU),hs[m]? =some h->h.slot=some t->∀k,k<n->k≠m->k∈h.up:=by
  intro t τ an m h hm jx k hk BK;have uG:m<n:=by have:=(ir.1 hm).1;omega
  have h1:=lk.1 abY m (lF.2 uG);rw[show(l1 hs)[m]? =some (h.slot,h.up,h.rd,h.wr) by simp[l1,hm],jx]at h1;have yH:t∈E.map (·.1):=by
   clear abY h1 bT bD hm jx;induction E with
   |nil=>simp[look]at an
   | cons x r cg=>
     obtain⟨s,σ⟩:=x
     simp only[look]at an
     by_cases e:Nat.beq s t=true
     ·have:=fa.1 e;subst this;simp
     simp only[jk]at e
     rw[e]at an
     simp only[nS,dP]
     exact .inr (cg an)
  replace h1:(!(E.map (·.1)).contains t||(List.range n).all λk=>decide (k=m)||h.up.contains k)=true:=h1;rw[show(E.map (·.1)).contains t=true by simpa using yH]at h1;have ad:∀x,x<n->x=m∨x∈h.up:=by simpa using h1
  exact(ad k hk).resolve_left BK
 have y7:∀(ct:Array Bool),HeadInv .any ops n ct->∀(d i:Nat),i<=d->∀(h:dU) (o:Oper),hs[i]? =some h->ops[i]? =some o->(∀e∈o.after,Region.binds .any e=true->ct.getD e.on false=true)->∀k∈h.up,ct.getD k false=true:=by
  intro ct inv d;induction d with
  | zero=>
    intro i aq h o gE EK hw k hk
    rcases (A4 i h o gE EK).2.2.1 k hk with h1|⟨m,hm,_⟩
    ·obtain⟨vZ,ob,e,he,hb,JA⟩:=OD h1
     rw[EK]at ob;cases ob
     rw[<-JA];exact hw e he hb
    omega
  | succ d cg=>
    intro i aq h o gE EK hw k hk
    rcases (A4 i h o gE EK).2.2.1 k hk with h1|⟨m,hm,h1,x,au,asj⟩
    ·obtain⟨vZ,ob,e,he,hb,JA⟩:=OD h1
     rw[EK]at ob;cases ob
     rw[<-JA];exact hw e he hb
    obtain⟨vZ,ob,e,he,hb,JA⟩:=OD h1
    rw[EK]at ob;cases ob
    have uG:=hw e he hb
    rw[JA]at uG
    obtain⟨aT,J9,oc,JB⟩:=uA m (by have:=(ir.1 gE).1;omega)
    exact cg m (by omega) x J9 au JB (λe he hb=>inv.closed m J9 JB uG e he hb) k asj
 have sg:∀(ct:Array Bool) (hd:Nat->Hid) (a:Act) (W:bo),(∀i,i<n->ct.getD i true=true)->HeadInv .any ops n ct->
  bO c (iU (λi=>ct.getD i false) hd E 0 hs) (ht (λi=>ct.getD i false) hd 0 hs L) a W->wpAnyIn c.F 9 c.P .any ops Q (ops.size-n) ct a W:=by
  intro ct hd a W Iu inv st
  have an:=ag3 inv aM Iu
  rw[<-an]at S4
  have aaG:(ops.toList.drop n).length=ops.size-n:=by simp
  rw[<-aaG]
  rw[<-aaG]at S4
  refine Wd (ops.toList.drop n) n ct a W (λj=>by simp) S4 (bD hd a W ?_)
  have nG:∀m,m<hs.length->ct.getD (0+m) false=true:=λm hm=>by
   have h1:=Iu m (by omega);have ad:m<ct.size:=by rw[inv.size];omega
   simpa[ad]using h1
  rw[WD (ls':=λ_=>true) nG,Xy (ls':=λ_=>true) nG]at st
  exact st
 have more:∀f (ct:Array Bool) a W,wpAnyIn c.F 9 c.P .any ops Q f ct a W->wpAnyIn c.F 9 c.P .any ops Q (f+1) ct a W:=by
  intro f;induction f with
  |zero=>intro ct a W h;exact⟨λ_=>h.2,λi aq=>by rw[h.1]at aq;cases aq⟩
  |succ f asl=>intro ct a W h;exact⟨h.1,λi aq=>wpOpIn_mono (λiI rQ cU=>asl _ iI rQ cU) (h.2 i aq)⟩
 intro m
 induction m with
 | zero=>
   intro ct hd a W hm inv st
   rw[kR]
   refine sg ct hd a W (λi aq=>?_) inv st
   cases h:ct.getD i true with
   |true=>rfl
   | false=>
     have:i∈(List.range n).filter λi=> !ct.getD i true:=tV.2 ⟨lF.2 aq,by rw[h];rfl⟩
     rw[Fe.1 (Nat.le_zero.1 hm)]at this
     cases this
 | succ m cg=>
   intro ct hd a W hm inv st
   rw[show m+1+(ops.size-n)=(m+(ops.size-n))+1 by omega]
   by_cases aaH:∀i,i<n->ct.getD i true=true
   ·have h1:=sg ct hd a W aaH inv st
    have key:∀k,wpAnyIn c.F 9 c.P .any ops Q (k+(ops.size-n)) ct a W:=by
     intro k;induction k with
     |zero=>rw[kR];exact h1
     |succ k asm=>rw[show k+1+(ops.size-n)=(k+(ops.size-n))+1 by omega];exact more _ _ _ _ asm
    exact more _ _ _ _ (key m)
   have hex:∃i,i<n∧ct.getD i true=false:=by
    false_or_by_contra;rename_i ad;exact aaH λi aq=>by
     cases h:ct.getD i true with
     |true=>rfl
     |false=>exact absurd ⟨i,aq,h⟩ ad
   have alq:∀t∈Region.ready .any ops ct,t<n:=by
    intro t Ny;rcases sW t n with h|h
    ·exact h
    obtain⟨i,aq,mv⟩:=hex;have auk:n<ops.size∨n=ops.size:=by omega
    have aul:t<ops.size:=by
     obtain⟨_,o,a6,_⟩:=x1.1 Ny;exact(sP.1 a6).1
    rcases anJ with h1|h1
    ·omega
    exact absurd Ny (tail_waits h1.1 h1.2 (by omega) inv _ i I aq mv t h)
   refine⟨λbC=>?_,λi aq=>?_⟩
   ·exfalso
    have key:∀d i,i<=d->i<n->ct.getD i true=true:=by
     intro d;induction d with
     | zero=>
       intro i y8 aq
       cases an:ct.getD i true with
       |true=>rfl
       | false=>
         obtain⟨h,o,gE,a6⟩:=uA i aq
         have:i∈Region.ready .any ops ct:=x1.2 ⟨an,o,a6,λe he hb=>by have:=(A4 i h o gE a6).2.1 e he hb;omega⟩
         rw[bC]at this;cases this
     | succ d TE=>
       intro i y8 aq
       cases an:ct.getD i true with
       |true=>rfl
       | false=>
         obtain⟨h,o,gE,a6⟩:=uA i aq
         have:i∈Region.ready .any ops ct:=x1.2 ⟨an,o,a6,λe he hb=>by
          have h1:=(A4 i h o gE a6).2.1 e he hb;have ad:=TE e.on (by omega) (by omega);have aB:e.on<ct.size:=by rw[inv.size];omega
          simpa[aB]using ad⟩
         rw[bC]at this;cases this
    obtain⟨i,aq,mv⟩:=hex
    have:=key i i (iS _) aq
    rw[mv]at this;cases this
   have hf:i<n:=alq i aq
   obtain⟨mv,o,a6,QH⟩:=x1.1 aq
   obtain⟨h,_,gE,_⟩:=uA i hf
   have Bi:ct.getD i false=false:=getD_both mv
   have abZ:i<ct.size:=by rw[inv.size];omega
   have vH:((List.range n).filter λj=> !(ct.setIfInBounds i true).getD j true).length<=m:=by
    have:((List.range n).filter λj=> !(ct.setIfInBounds i true).getD j true).length<((List.range n).filter λj=> !ct.getD j true).length:=by
     refine Y9 (λj=> !ct.getD j true) (λj=> !(ct.setIfInBounds i true).getD j true) i (by simp only[mv];rfl) ?_ (λj aC=>?_) n hf
     ·simp[abZ]
     by_cases e:i=j
     ·subst e;simp only[mv];rfl
     rw[getD_set_ne true e]at aC;exact aC
    omega
   have aqz:=inv.set aq hf
   obtain⟨ab0,at0,at5,ab1⟩:=A4 i h o gE a6
   have ab2:=y7 ct inv i i (iS _) h o gE a6 QH
   have Ze:∀(k:Nat) (x:dU),hs[k]? =some x->i<k->(∃j∈x.wr,h.rd.contains j=true∨h.wr.contains j=true)->ct.getD k false=false:=λk x au mX aC=>by
    have h1:=(ab1 k x au).2 mX aC;cases hk:ct.getD k false with
    |false=>rfl
    | true=>
      obtain⟨_,ok,_,iW⟩:=uA k (by have:=(ir.1 au).1;omega)
      have:=y7 ct inv k k (iS _) x ok au iW (λe he hb=>inv.closed k ok iW hk e he hb) i h1
      rw[Bi]at this;cases this
   have AP:hs=hs.take i++h::hs.drop (i+1):=by
    have iG:i<hs.length:=by omega
    rw[o4 iG]at gE;cases gE;rw[Oq];exact(gw i hs).symm
   have NH:(hs.take i).length=i:=by rw[e8];omega
   have Jh:∀(t:Nat) (τ:J),look E t=some τ->∀(m:Nat) (x:dU),hs[m]? =some x->ct.getD (0+m) false=true->x.slot≠some t:=λt τ an m x au NI jx=>by
    rw[kR]at NI;have TF:i≠m:=λe=>by subst e;rw[Bi]at NI;cases NI
    obtain⟨_,J9,_,JB⟩:=uA m (by have:=(ir.1 au).1;omega);have:=y7 ct inv m m (iS _) x J9 au JB (λe he hb=>inv.closed m J9 JB NI e he hb) i (anK t τ an m x au jx i hf TF);rw[Bi]at this;cases this
   have aaI:=(qx.get bT i h o gE (by rw[lE,bh hf,zA];exact a6))
   rw[kR]at aaI
   have asn:=aaI hd (iU (λi=>ct.getD i false) hd E 0 hs) (ht (λi=>ct.getD i false) hd 0 hs L) (λt τ an=>?_) (λj e aC aG=>?_) (QF hw)
   ·have hw:=PF (K:=λa W=> ∃x,bO c (sl h.slot (h.τ (iA h.up i (nF hd i x))) (iU (λi=>ct.getD i false) hd E 0 hs)) (p0 (ht (λi=>ct.getD i false) hd 0 hs L) (h.dr (iA h.up i (nF hd i x))) h.wr) a W) a6 (asn a W st)
    refine wpOpIn_mono (λiI W' ⟨x,uN⟩=>?_) hw
    have EL:∀j,j≠i->nF hd i x j=hd j:=λj aC=>by
     have:Nat.beq j i=false:=by
      cases hb:Nat.beq j i
      ·rfl
      exact absurd (fa.1 hb) aC
     simp only[nF,this,cond_false]
    have TG:∀(j:Nat) (y:dU),hs[j]? =some y->ct.getD j false=true->iA y.up j (nF hd i x)=iA y.up j hd:=λj y aR aC=>by
     obtain⟨_,vZ,_,ob⟩:=uA j (by have:=(ir.1 aR).1;omega);refine ahS (EL j λe=>by subst e;rw[Bi]at aC;cases aC) λk hk=>EL k λe=>?_;have:=y7 ct inv j j (iS _) y vZ aR ob (λe he hb=>inv.closed j vZ ob aC e he hb) k hk;subst e;rw[Bi]at this;cases this
    have y9:(ct.setIfInBounds i true).getD i false=true:=by simp[abZ]
    have hP:∀j,j≠i->(ct.setIfInBounds i true).getD j false=ct.getD j false:=λj aC=>getD_set_ne false (λe=>aC e.symm)
    refine cg _ (nF hd i x) iI W' vH aqz ?_
    have aqA:ht (λj=>(ct.setIfInBounds i true).getD j false) (nF hd i x) 0 hs L=p0 (ht (λi=>ct.getD i false) hd 0 hs L) (h.dr (iA h.up i (nF hd i x))) h.wr:=by
     apply nR;intro j;rw[Mo,Qd,Mo];by_cases aC:h.wr.contains j=true
     ·rw[bh aC];have av:∀(ls:Nat->Bool) (g:Nat->Hid) (v:aE aK),(∀k x,hs[k]? =some x->i<k->x.wr.contains j=true->ls k=false)->oK ls g j 0 hs v=(bif ls i then(oK ls g j 0 (hs.take i) v).map (λ_=>h.dr (iA h.up i g) j)else oK ls g j 0 (hs.take i) v):=λls g v BC=>by
       conv=>lhs;rw[AP]
       rw[PJ,NH,kR,oK,aC,zV,PX];intro k x au hw;rw[mH]at au;exact BC (i+1+k) x au (by omega) hw
      have fJ:∀k x,hs[k]? =some x->i<k->x.wr.contains j=true->ct.getD k false=false:=λk x au mX hw=>Ze k x au mX ⟨j,by simpa using hw,.inr aC⟩;rw[av (λj=>(ct.setIfInBounds i true).getD j false) (nF hd i x) _ (λk x au mX hw=>by rw[hP k (by omega)];exact fJ k x au mX hw),av (λj=>ct.getD j false) hd _ fJ];simp only[y9,Bi,cond_true,cond_false];rw[Lz (ls':=λj=>ct.getD j false) (hd':=hd) λq x au _=>by
       have hq:q<i:=by have:=(ir.1 au).1;omega
       rw[lE,bh hq]at au;rw[kR];exact⟨hP q (by omega),λan=>TG q x au (by rw[hP q (by omega)]at an;exact an)⟩]
     rw[bf aC];refine Lz λq x au hw=>?_;rw[kR];have hq:q≠i:=λe=>by subst e;rw[gE]at au;cases au;exact aC hw
     exact⟨hP q hq,λan=>TG q x au (by rw[hP q hq]at an;exact an)⟩
    rw[aqA]
    refine uN.less λt τ an=>?_
    rcases Xw an with⟨j,y,h1,ad,aB,aV⟩|⟨h1,fJ⟩
    ·rw [kR]at ad aV
     by_cases jN:j=i
     ·subst jN
      rw[gE]at h1
      cases h1
      exact⟨τ,by rw[aB,aV];simp[sl,look,nh],λ_ _ _ h=>h⟩
     rw[hP j jN]at ad
     rw[TG j y h1 ad]at aV
     have ba:=Qe (ls:=λi=>ct.getD i false) (hd:=hd) (E:=E) (k:=0) h1 (by rw[kR];exact ad) aB λq z hq bV=>Sn q j t z y hq h1 bV aB
     rw[kR,<-aV]at ba
     refine⟨τ,?_,λ_ _ _ h=>h⟩
     cases NJ:h.slot with
     |none=>exact ba
     | some s=>
       have di:Nat.beq s t=false:=by
        cases hb:Nat.beq s t
        ·rfl
        have:=fa.1 hb;subst this;exact absurd (Sn j i s y h h1 gE aB NJ) jN
       simp only[sl,look,di,cond_false]
       exact ba
    have hb:=Jh t τ h1
    have ba:=PY (ls:=λi=>ct.getD i false) (hd:=hd) (E:=E) (k:=0) hb
    refine⟨τ,?_,λ_ _ _ h=>h⟩
    cases NJ:h.slot with
    |none=>simp only[sl];rw[ba];exact h1
    | some s=>
      have di:Nat.beq s t=false:=by
       cases qP:Nat.beq s t
       ·rfl
       have:=fa.1 qP;subst this;exact absurd NJ (fJ i h gE (by rw[kR];exact y9))
      simp only[sl,look,di,cond_false]
      rw[ba];exact h1
   ·rcases Yw an with⟨j,aC,y,h1,ad,aB⟩|h1
    ·have ba:=Qe (ls:=λi=>ct.getD i false) (hd:=hd) (E:=E) (k:=0) h1 (by rw[kR];exact ab2 j aC) ad λq z hq bV=>Sn q j t z y hq h1 bV ad
     rw[kR,<-aB]at ba
     exact ba
    rw[PY (Jh t τ h1)];exact h1
   rw[Mo]at aC⊢
   rw[<-aC]
   conv=>lhs;rw[AP]
   rw[PJ,PX]
   ·refine Lz λq x au hw=>?_
    rw[kR]
    have hq:q<i:=by have:=(ir.1 au).1;omega
    rw[lE,bh hq]at au
    exact⟨ab2 q ((ab1 q x au).1 hq ⟨j,by simpa using hw,aG⟩),λ_=>rfl⟩
   intro q x au hw
   rw[NH,kR]
   cases q with
   |zero=>exact Bi
   | succ q=>
     simp only[List.getElem?_cons_succ]at au
     rw[mH]at au
     exact Ze (i+(q+1)) x (by rw[<-au];congr 1;omega) (by omega) ⟨j,by simpa using hw,.inl aG⟩
def ay.Mp{kK:Nat}{l:aa Oper}(n:Nat){np:Nat}(hm:c.P.follows .mixedOrders=true)(hs:aa dU)(ds:aa (aE Nat×aa Nat×aa Nat×aa Nat))(es:aa Nat)(eR:l1 hs=ds)(ko:E.map (·.1)=es)(eu:Gv.rz l.toArray n ds es=true)(yW:∀h∈hs,∀j∈h.wr,j<np∨L.length<=j)
 (bT:qx c l.toArray Q hs E L np 0 (l.take n) hs) (bD:∀hd,ae c l.toArray Q (l.drop n) (iU (λ_=>true) hd E 0 hs) (ht (λ_=>true) hd 0 hs L)):ay c Q (.region kK l.toArray true) E L:=λa W s=>by
 subst eR ko
 refine wpIn_region_any hm ?_
 have aM:n<=l.toArray.size:=by
  simp only[Gv.rz,gm,e2]at eu;exact eu.1.1.1.1.1.2
 have aqB:HeadInv .any l.toArray n (Array.replicate l.toArray.size false):=
  {size:=by simp
   closed:=λj vZ _ an=>by rw[getD_replicate_false]at an;cases an
   tail:=λt _ bD=>by simp at bD;simp[bD]}
 have h:=ag9 yW (ops:=l.toArray) (Q:=Q) eu (by simpa using bT) (by simpa using bD) n (Array.replicate l.toArray.size false) (λ_ _=>none) a W.drew (mg (vc _ _) (by simp)) aqB ?_
 ·rw[show n+(l.toArray.size-n)=l.toArray.size by omega]at h
  exact h
 have h1:∀(hs:aa dU) (k:Nat),iU (λi=>(Array.replicate l.toArray.size false).getD i false) (λ_ _=>none) E k hs=E:=by
  intro hs;induction hs with
  |nil=>intro k;rfl
  | cons h r cg=>
    intro k
    have ad:=cg (k+1)
    simp only[getD_replicate_false]at ad
    unfold iU
    simp only[getD_replicate_false]
    exact ad
 have ad:∀(hs:aa dU) (k:Nat) (L:aa aK),ht (λi=>(Array.replicate l.toArray.size false).getD i false) (λ_ _=>none) k hs L=L:=by
  intro hs;induction hs with
  |nil=>intro k L;rfl
  |cons h r cg=>intro k L;rw[ht,cg];simp only[getD_replicate_false,cond_false]
 rw[h1,ad]
 exact s.world (Fr.drew W)
def ay.atJ{kK:Nat}{l:aa Oper}{ds:aa (aE Nat×aa Nat×aa Nat×aa Nat)}(n np:Nat)(hm:c.P.follows .mixedOrders=true)(hs:aa dU)(es:aa Nat)
 (bT:qx c l.toArray Q hs E L np 0 (l.take n) hs) (bD:∀hd,ae c l.toArray Q (l.drop n) (iU (λ_=>true) hd E 0 hs) (ht (λ_=>true) hd 0 hs L))
 (eR:l1 hs=ds:=by rfl) (ko:E.map (·.1)=es:=by rfl) (eu:Gv.rz l.toArray n ds es=true:=by kernel_rfl) (hw:(ds.all λd=>d.2.2.2.all λj=>Nat.blt j np)=true:=by kernel_rfl):ay c Q (.region kK l.toArray true) E L:=
 ay.Mp n hm hs ds es eR ko eu (aaA eR hw) bT bD
def ay.Us{kK:Nat}{l:aa Oper}{ds:aa (aE Nat×aa Nat×aa Nat×aa Nat)}(np:Nat)(hm:c.P.follows .mixedOrders=true)(hs:aa dU)(es:aa Nat)
 (bT:qx c l.toArray Q hs E L np 0 l hs) (bD:∀hd,al c Q .normal (iU (λ_=>true) hd E 0 hs) (ht (λ_=>true) hd 0 hs L))
 (eR:l1 hs=ds:=by rfl) (ko:E.map (·.1)=es:=by rfl) (eu:Gv.rz l.toArray l.length ds es=true:=by kernel_rfl) (hw:(ds.all λd=>d.2.2.2.all λj=>Nat.blt j np)=true:=by kernel_rfl):ay c Q (.region kK l.toArray true) E L:=
 ay.Mp l.length hm hs ds es eR ko eu (aaA eR hw) (by rw[iD];exact bT) (λhd=>by rw[r2];exact ae.nil (bD hd))
def ay.N5{kK:Nat}{l:aa Oper}{ds:aa (aE Nat×aa Nat×aa Nat×aa Nat)}(hm:c.P.follows .mixedOrders=true)(hs:aa dU)(es:aa Nat)
 (bT:DT c l.toArray Q hs E L 0 l hs) (bD:∀hd,al c Q .normal (iU (λ_=>true) hd E 0 hs) (ht (λ_=>true) hd 0 hs L))
 (eR:l1 hs=ds:=by rfl) (ko:E.map (·.1)=es:=by rfl) (eu:Gv.rz l.toArray l.length ds es=true:=by kernel_rfl):ay c Q (.region kK l.toArray true) E L:=
 ay.Mp (np:=L.length) l.length hm hs ds es eR ko eu (λ_ _ j _=>by omega) (by rw[iD];exact bT.Jj) (λhd=>by rw[r2];exact ae.nil (bD hd))
def rg:Nat->Nat->aa (aE Nat)
 |_,0=>[]
 |a,n+1=>some a::rg (a+1) n
def aj.bF{α β:Type}{o:aE α}{k:α->aj β}{R:β->Prop}{P:Prop}(h:aj.bind (aj.of o) k R)(g:∀y,o=some y->k y R->P):P:=(aj.aki h).elim λy h=>g y h.1 h.2
def aj.ex{α β:Type}{m:aj α}{k:α->aj β}{R:β->Prop}(h:aj.bind m k R):∃K:α->Prop,m K∧∀r,K r->k r R:=⟨_,h,λ_ h=>h⟩
end
def bL.law{P:Program}{f:FuncId}{τs:aa J}{bM:Type}[ew bM]{R:Bool×aL bM->Prop}{Lo: {r:Bool×aL bM // R r}×Unit->aa aK}(h:bL P f τs ([]++a1 ([]:aL bM)) (λd: {r:Bool×aL bM // R r}×Unit=>J.of d.1.1.1) Lo)(hF:∀r,R r->r.1=true):dV P f τs (J.of true):=by
 intro A W vs e7 bc;refine(h A W vs (λk hk=>⟨e7 k hk,by simp[a1,ks]⟩) (by simp[a1,ks]) (λk hk=>by simp[a1,ks]at hk) (λe he=>by simp[a1]at he) (by simpa[a1,ks]using bc)).mono ?_;intro e W' ⟨v,d,h1,ad,_,_,_,aB⟩;refine⟨v,h1,by simpa[a1,ks]using ad,?_⟩;have aV:=hF d.1.1 d.1.2;rw[of_bool]at aB⊢;rw[aB,aV]
def I9(p:Prop)[Decidable p]:aE Unit:=if p then some ()else none
def aj.arP{β:Type}{p:Prop}[Decidable p]{k:Unit->aj β}{R:β->Prop}(h:aj.bind (aj.of (I9 p)) k R):p:=by
 obtain⟨r,h1,_⟩:=h;unfold I9 at h1;split at h1
 ·assumption
 cases h1
def aj.aph{β:Type}{p:Prop}[Decidable p]{k:Unit->aj β}{R:β->Prop}(h:aj.bind (aj.of (I9 p)) k R):k () R:=by
 obtain⟨r,_,ad⟩:=h;exact ad
section
variable{c:cP}{E:aa (Nat×J)}{L:aa aK}{ops:Array Oper}{Q:Exit->Act->bo->Prop}
end
def B3(n:Nat)(vis:aa Nat):aE Nat->Prop
 |none=> ∀j,j<n->j∈vis
 |some j=>j<n∧j∉vis
def aj.next(n:Nat)(vis:aa Nat):aj (aE Nat):=λR=> ∀j,B3 n vis j->R j
def aj.WY{β:Type}{n:Nat}{vis:aa Nat}{k:aE Nat->aj β}{R:β->Prop}(h:aj.bind (aj.next n vis) k R)(j:aE Nat)(aC:B3 n vis j):k j R:=h j aC
def oB(es:Array MapEntry)(vis:aa Nat):Array Nat:=(vis.filterMap λj=>(es[j]?).map (·.born)).toArray
def n4(atK:Nat)(es:Array MapEntry)(clock:Nat)(vis:aa Nat):Obj:=.mapIter (some atK) clock (oB es vis) clock
structure N7(es:Array MapEntry)(clock n:Nat):Prop where
 size:es.size=n
 born:∀x∈es.toList,x.born<clock
 nodup:(es.toList.map MapEntry.born).Nodup
def e0.and(cp:e0)(o:Obj):e0 where
 holds A W x:=cp.holds A W x∧x=o
 pY:=cp.pY
 mono e h:=⟨cp.mono e h.1,h.2⟩
def w4(b:Nat)(o:Obj)(e:aK):aK:=if e.key=some b then⟨e.key,e.cp.and o⟩else e
def p6(b:Nat)(o:Obj)(L:aa aK):aa aK:=L.map (w4 b o)
def aiX(b:Nat)(o:Obj)(e:aK):(w4 b o e).key=e.key:=by unfold w4;split <;> rfl
def RD{b:Nat}{o:Obj}:∀{L:aa aK},ks (p6 b o L)=ks L
 |[]=>rfl
 | e::L=>by
   have cg:=RD (b:=b) (o:=o) (L:=L);show ks (w4 b o e::p6 b o L)=_;unfold ks;rw[aiX,cg]
def J.acX(b:Bool):J where
 holds _ _ v:=∃xs:Array br,v=.tuple xs∧xs[0]? =some (.bool b)
 mono _ h:=h
section
variable{c:cP}{E:aa (Nat×J)}{L:aa aK}{ops:Array Oper}{Q:Exit->Act->bo->Prop}
variable{d:aE Tmp}{ty:bJ}{pos:String}{af:Array Edge}{g:aE (Nat×Bool)}{x y z:cw}{t t2:bJ}
variable{bM:Type}[ew bM]{hp:aL bM}{loc:aa aK}
def aiI{key:aE Nat}{n m cap:Nat}(aM:n=m)(h:aU c E L x (.eq (aQ key n cap))):aU c E L x (.eq (aQ key m cap)):=aM▸h
def Mh{b:Nat}{o:Obj}{α β:Type}[ak α][ak β]{kv:aa (α×β)}{xD:bM}(n:Nat)(ar:L.drop n=Gv.p6 b o (a1 hp))(hp':pat hp b=some xD)(hk:ew.gU b xD=[⟨some b,.map kv⟩]):(⟨some b,e0.and (.map kv) o⟩:aK)∈L:=by
 have h1:(⟨some b,.map kv⟩:aK)∈a1 hp:=jt (n:=0) (hp:=hp) I hp' hk;have ad:w4 b o ⟨some b,.map kv⟩∈Gv.p6 b o (a1 hp):=ic.2 ⟨_,h1,rfl⟩;rw[<-ar]at ad;have aB:=Cn ad;unfold w4 at aB;rw[bh I]at aB;exact aB
def bO.swap{L':aa aK}{a:Act}{W:bo}(h:bO c E L a W)(hk:ks L'=ks L)(a6:∀e∈L',e.ok (ks L++c.b8) W):bO c E L' a W:=
 {defers:=h.defers
  size:=h.size
  env:=by rw[hk];exact h.env
  ef:=h.ef
  own:=by rw[hk];exact a6
  nodup:=by rw[hk];exact h.nodup
  lt:=by rw[hk];exact h.lt
  hh:=by rw[hk];exact h.hh
  fe:=by rw[hk];exact h.fe}
def bO.p6{a:Act}{W:bo}{M:aa aK}(h:bO c E (loc++M) a W){b:Nat}{o:Obj}(hb:W.heap[b]? =some o):bO c E (loc++Gv.p6 b o M) a W:=by
 refine h.swap (by rw[fL,fL,RD]) λe he=>?_;rcases cF.1 he with he|he
 ·exact h.own e (Fo _ he)
 obtain⟨hr,bC,rfl⟩:=ic.1 he;have h1:=h.own hr (Cl _ bC);unfold w4;split
 ·rename_i hk;unfold aK.ok at h1⊢;simp only[hk]at h1⊢;obtain⟨o',g1,g2⟩:=h1;have:o'=o:=by rw[hb]at g1;exact(CA g1).symm
  exact⟨o',g1,g2,this⟩
 exact h1
def bO.MN{a:Act}{W:bo}{M:aa aK}{b:Nat}{o:Obj}(h:bO c E (loc++Gv.p6 b o M) a W):bO c E (loc++M) a W:=by
 have hk:ks (loc++M)=ks (loc++Gv.p6 b o M):=by rw[fL,fL,RD]
 refine h.swap hk λe he=>?_;rcases cF.1 he with he|he
 ·exact h.own e (Fo _ he)
 have h1:=h.own (w4 b o e) (Cl _ (ic.2 ⟨e,he,rfl⟩));unfold w4 at h1;split at h1
 ·rename_i c4;unfold aK.ok at h1⊢;simp only[c4]at h1⊢;obtain⟨o',g1,g2,_⟩:=h1;exact⟨o',g1,g2⟩
 exact h1
def al.MN{z:Exit}{b:Nat}{o:Obj}(n:Nat)(ar:L.drop n=Gv.p6 b o (a1 hp))(k:al c Q z E (L.take n++a1 hp)):al c Q z E L:=λa W s=>by
 have e:L=L.take n++Gv.p6 b o (a1 hp):=by rw[<-ar,gw]
 rw[e]at s;exact k a W s.MN
def mw.get{α β:Type}[ak α][ak β]{A W}:∀{es:aa MapEntry} {kv:aa (α×β)},mw A W es kv->∀{j:Nat} {x:α×β},kv[j]? =some x->∃e,es[j]? =some e∧(J.of x.1).holds A W e.key∧(J.of x.2).holds A W e.val
 |_,_,.nil,j,x,h=>by simp at h
 | _,_,.cons h1 ad r,0,x,h=>by
   have h:some _=some x:=h;cases h;exact⟨_,rfl,h1,ad⟩
 | _,_,.cons h1 ad r,j+1,x,h=>by
   obtain⟨e,g1,g2⟩:=r.get (j:=j) (by simpa using h);exact⟨e,by simpa using g1,g2⟩
def ae.Y3{rest:aa Oper}{bb p key elem:Nat}{α β:Type}[ak α][ak β]{kv:aa (α×β)}{xD:bM}(n:Nat)(ar:L.drop n=a1 hp)(hu:c.P.underlying t=some (.map key elem))(au:aU c E L x (.of (⟨some p⟩:fj)))(hp':pat hp p=some xD)(hk:ew.gU p xD=[⟨some p,.map kv⟩])(aM:Nat.blt bb c.n=true)
 (k:∀r es clock,N7 es clock kv.length->ae c ops Q rest ((bb,.eq (.pointer (some ⟨r,0,none⟩)))::E) (⟨some r,.is (n4 p es clock [])⟩::(L.take n++Gv.p6 p (.map es clock) (a1 hp)))):
 ae c ops Q (⟨some bb,.range t x,ty,pos,af,none⟩::rest) E L:=λa W s=>by
 have e:L=L.take n++a1 hp:=by rw[<-ar,gw]
 have hm:(⟨some p,.map kv⟩:aK)∈L:=by
  rw[e];exact jt (n:=(L.take n).length) (hp:=hp) (by simp) hp' hk
 obtain⟨es,clock,a6,ad,aB,aV⟩:=s.It hm
 have mZ:=yf.1 (au a W s)
 have ko:N7 es clock kv.length:=⟨by have:=ad.length;simpa using this,aB,aV⟩
 refine jm I (R:=λv W'=>v=.pointer (some ⟨W.heap.size,0,none⟩)∧W'=W.alloc (n4 p es clock [])) (.mR ?_ ⟨rfl,rfl⟩) λv W' ⟨bc,hw⟩=>?_
 ·have bu:(getObj p).run c.P W=.ok (.map es clock) W:=by simp[getObj,Sem.run,a6]
  simp[execOp,Instr.range,eg,ep hu,mZ,bu,newObj,Sem.run]
  rfl
 subst bc
 subst hw
 have s1:=s.alloc (cp:=.is (n4 p es clock [])) (o:=n4 p es clock []) I
 refine k W.heap.size es clock ko _ _ (bO.put ?_ (by simpa using aM) I)
 rw[e]at s1
 have hb:(W.alloc (n4 p es clock [])).heap[p]? =some (.map es clock):=by
  have b9:p<W.heap.size:=(sP.1 a6).1;show(W.heap.push _)[p]? =_;rw[Array.getElem?_push_lt b9,<-Kl b9];exact a6
 exact bO.p6 (loc:=⟨some W.heap.size,.is (n4 p es clock [])⟩::L.take n) s1 hb
def ae.Z3{rest:aa Oper}{bb r p:Nat}{α β:Type}[ak α][ak β]{kv:aa (α×β)}{es:Array MapEntry}{clock:Nat}{vis:aa Nat}(i:Nat)(au:aU c E L x (.eq (.pointer (some ⟨r,0,none⟩))))(aq:L[i]? =some ⟨some r,.is (n4 p es clock vis)⟩)
 (hm:(⟨some p,e0.and (.map kv) (.map es clock)⟩:aK)∈L) (he:N7 es clock kv.length) (aM:Nat.blt bb c.n=true)
 (k:∀j,B3 kv.length vis j->ae c ops Q rest ((bb,.acX j.isSome)::E) (L.set i ⟨some r,.is (n4 p es clock (vis++j.toList))⟩)):
 ae c ops Q (⟨some bb,.next x false,ty,pos,af,none⟩::rest) E L:=λa W s=>by
 have mZ:a.eval x=_:=au a W s
 obtain⟨bz,tA,⟨_,qP⟩⟩:=s.own _ hm
 subst qP
 obtain⟨cE,EM,vU⟩:=s.own _ (fB aq)
 have vU:cE=n4 p es clock vis:=vU
 subst vU
 have anL:∀{j:Nat} {e:MapEntry},es[j]? =some e->(oB es vis).contains e.born=true->j∈vis:=λ{j e} aC ag=>by
  unfold oB at ag;simp only[U2,Ox,OO]at ag;obtain⟨v,bc,h1⟩:=ag;cases NK:es[v]? with
  |none=>rw[NK]at h1;cases h1
  | some e'=>
    rw[NK]at h1
    have h1:e'.born=e.born:=by simpa using h1
    have JC:j<es.toList.length:=by simpa using (sP.1 aC).1
    have qT:v<es.toList.length:=by simpa using (sP.1 NK).1
    have av:(es.toList.map MapEntry.born)[j]? =some e.born:=by simp[aC]
    have aS:(es.toList.map MapEntry.born)[v]? =some e.born:=by simp[NK,h1]
    have:=(List.getElem?_inj (by simpa using JC) he.nodup).1 (av.trans aS.symm)
    rw[this];exact bc
 rcases run_next_at (P:=c.P) W ty r p clock clock (oB es vis) es clock EM tA he.born (iS _)with⟨bC,kH⟩|⟨e,sx,u1,ED,kH⟩
 ·
  have mu:B3 kv.length vis none:=λj aC=>by
   have BL:j<es.size:=by rw[he.size];exact aC
   false_or_by_contra;rename_i fJ;have:es[j]∈(leftOf es (oB es vis)).toList:=by
    unfold leftOf;simp only[Ve,tV];refine⟨by simp,?_⟩;cases ag:(oB es vis).contains es[j].born with
    |false=>rfl
    |true=>exact absurd (anL (by simp[BL]) ag) fJ
   have bV:(leftOf es (oB es vis)).toList=[]:=by
    apply Oi;simpa using bC
   rw[bV]at this;cases this
  refine jm I (R:=λv W'=>v=.tuple #[.bool false]∧W'=W) (.mR (v:=.tuple #[.bool false]) ?_ ⟨rfl,rfl⟩) λv W' ⟨bc,hw⟩=>?_
  ·simp only[execOp,mZ,eg,kH,Result.andThen_ok];rfl
  subst bc hw
  have hk:=k none mu
  have iT:L.set i ⟨some r,.is (n4 p es clock (vis++Option.toList none))⟩=L:=by
   apply nR;intro q;rw[qn];split
   ·rename_i hq;subst hq;rw[bh (ir.1 aq).1,aq];simp
   rfl
  rw[iT]at hk
  exact hk _ _ (bO.put s (by simpa using aM) ⟨_,rfl,rfl⟩)
 have ab3:e∈es.toList∧(oB es vis).contains e.born=false:=by
  unfold leftOf at sx;simp only[Ve,tV,r1]at sx;exact sx
 obtain⟨j,aC⟩:=o5.1 ab3.1
 have BL:es[j]? =some e:=by simpa using aC
 have JC:j<kv.length:=by rw[<-he.size];exact(sP.1 BL).1
 have mu:B3 kv.length vis (some j):=⟨JC,λbc=>by
  have:(oB es vis).contains e.born=true:=by
   unfold oB;simp only[U2,Ox,OO];exact⟨j,bc,by rw[BL];rfl⟩
  rw[ab3.2]at this;cases this⟩
 have Sp:(oB es vis).push e.born=oB es (vis++[j]):=by
  unfold oB;rw[U4];simp[BL]
 rw[Sp]at kH
 refine jm I (R:=λv W'=>v=.tuple #[.bool true,e.key,e.val]∧W'=u1.putObj r (n4 p es clock (vis++[j]))) (.mR (v:=.tuple #[.bool true,e.key,e.val]) ?_ ⟨rfl,rfl⟩) λv W' ⟨bc,hw⟩=>?_
 ·simp only[execOp,mZ,eg,kH,Result.andThen_ok];rfl
 subst bc hw
 have s1:bO c E L a u1:=by
  rcases ED with rfl|rfl
  ·exact s
  exact s.world (Fr.drew W)
 exact k (some j) mu _ _ (bO.put (s1.ux aq (cp':=.is (n4 p es clock (vis++[j]))) (o':=n4 p es clock (vis++[j])) I) (by simpa using aM) ⟨_,rfl,rfl⟩)
def Y4{b:Bool}(au:aU c E L x (.acX b)):bj c E L ⟨d,.extract x 0,ty,pos,af,g⟩ (.of b):=.pure λa W s=>by
 obtain⟨xs,h1,ad⟩:=au a W s;refine⟨.bool b,?_,of_bool.2 I⟩;simp[execOp,Instr.extract,h1,ad]
def Xq{r p:Nat}{α β:Type}[ak α][ak β][Inhabited α][Inhabited β]{kv:aa (α×β)}{es:Array MapEntry}{clock:Nat}{vis:aa Nat}{j:aE Nat}{q:Nat}(i:Nat)(au:aU c E L x (.eq (.pointer (some ⟨r,0,none⟩))))(aq:L[i]? =some ⟨some r,.is (n4 p es clock (vis++j.toList))⟩)
 (hm:(⟨some p,e0.and (.map kv) (.map es clock)⟩:aK)∈L) (he:N7 es clock kv.length) (aC:B3 kv.length vis j) (hq:j=some q):
 bj c E L ⟨d,.entry x,ty,pos,af,g⟩ (.bW [.of (ax kv q).1,.of (ax kv q).2]):=.pure λa W s=>by
 subst hq
 have mZ:a.eval x=_:=au a W s
 obtain⟨bz,tA,⟨oP,AO,qQ,ad,aB,aV⟩,qP⟩:=s.own _ hm
 subst qP
 cases qQ
 obtain⟨cE,EM,vU⟩:=s.own _ (fB aq)
 have vU:cE=n4 p es clock (vis++[q]):=vU
 subst vU
 have acY:q<kv.length:=aC.1
 obtain⟨e,g1,g2,g3⟩:=ad.get (j:=q) (x:=ax kv q) (by rw[dz _ acY];exact o4 acY)
 have BL:es[q]? =some e:=by simpa using g1
 have Sp:oB es (vis++[q])=(oB es vis).push e.born:=by
  unfold oB;rw[U4];simp[BL]
 have TH:W.heap[r]? =some (.mapIter (some p) clock ((oB es vis).push e.born) clock):=by rw[<-Sp];exact EM
 have kH:=run_entry_at (P:=c.P) W r p clock (oB es vis) es clock e TH tA (fB g1) he.nodup
 refine⟨.tuple #[e.key,e.val],?_,_,rfl,.cons g2 (.cons g3 .nil)⟩
 simp only[execOp,mZ,eg,kH,Result.andThen_ok]
 rfl
end
end Gv
namespace Gv
open Go Go.Proofs Go.Sort
def J.I3{α:Type}[ak α](P:Program)(F:α->α->aE Int):J where
 holds A W v:=∃f cap,v=.func (.func f) #[] cap∧bH P f∧∀cV W',Ext A W cV W'->(∀k∈cV,k<W'.heap.size)->∀x y r oX uY,F x y=some r->(J.of x).holds cV W' oX->(J.of y).holds cV W' uY->
  Calls P f (#[oX,uY]++cap) W' λe y3=> ∃v,e=.returned v∧Fr [] W' y3∧(J.of r).holds cV y3 v
 mono e h:=let⟨f,cap,h1,ad,aB⟩:=h; ⟨f,cap,h1,ad,λcV W' e'=>aB cV W' (e.trans e')⟩
def Xr{c:cP}{E:aa (Nat×J)}{L:aa aK}{α:Type}[ak α]{F:α->α->aE Int}{f:FuncId}(cf:bH c.P f)(h:∀x y r,F x y=some r->dV c.P f [.of x,.of y] (.of r)):aU c E L (.func f) (.I3 c.P F):=λa W s=>
 ⟨f,#[],rfl,cf,λcV W' _ e7 x y r oX uY ku au aR=>by simpa using h x y r ku cV W' [oX,uY] e7 (.cons au (.cons aR .nil))⟩
def aiY{W W':bo}(h:Fr [] W W'):∃q os,W'=grow (W.drewN q) os:=by
 obtain⟨p,hp⟩:=regrown_of_below h.below;have hd:=h.drawn;rw[hp]at hd;have hd:W.drawn<=p.d:=hd;refine⟨p.d-W.drawn,p.os,?_⟩;rw[hp];unfold redrawn World.drewN;congr 2;omega
structure za{α:Type}(c:α->α->Int):Prop where
 neg:∀x y,c x y<0↔0<c y x
 oh:∀x y z,c x y<=0->c y z<=0->c x z<=0
def za.swo{α:Type}{c:α->α->Int}(h:za c):SWO (ltOf c)where
 irrefl x:=by
  unfold ltOf;rw[nP];intro h1;have:=(h.neg x x).1 h1;omega
 trans x y z h1 ad:=by
  unfold ltOf at *;rw[e2]at *;have bX:=h.oh x y z (by omega) (by omega);by_cases aB:c x z<0
  ·exact aB
  have aV: ¬0<c z x:=λba=>aB ((h.neg x z).2 ba);have ba:=h.oh y z x (by omega) (by omega);have:=(h.neg x y).1 h1;omega
 ntrans x y z h1 ad:=by
  unfold ltOf at *;rw[nP]at *;have dL: ¬0<c y x:=λaB=>h1 ((h.neg x y).2 aB);have eF: ¬0<c z y:=λaB=>ad ((h.neg y z).2 aB);have jA:=h.oh z y x (by omega) (by omega);intro aB;have:=(h.neg x z).1 aB;omega
def za.on{α β:Type}{c:α->α->Int}(h:za c)(g:β->α):za (λx y=>c (g x) (g y)):=⟨λx y=>h.neg _ _,λx y z=>h.oh _ _ _⟩
def nH(k:Nat)(cs:Array br)(i:Nat):aa br:=(cs.toList.drop (i*k)).take k
def YC{k:Nat}{cs:Array br}{i j:Nat}(aC:j<k)(h:i*k+j<cs.size):(nH k cs i)[j]! =cs[i*k+j]:=by
 have an:j<(nH k cs i).length:=by
  unfold nH;rw[e8,ke,Array.length_toList];omega
 rw[getElem!_pos _ j an];have:(nH k cs i)[j]? =cs[i*k+j]? :=by
  unfold nH;rw[lE,bh aC,mH,zA]
 rw[o4 an,Kl h]at this;exact CA this
def aha{n k p:Nat}[Inhabited (Fin n)]{W:bo}{cs:Array br}{t:bJ}(a6:W.heap[p]? =some (.cells cs t (0,0)))(ee:n*k<=cs.size)(d:Array (Fin n))(hd:d.size=n)(JD:∀i (h:i<n),d[i]! =⟨i,h⟩):HoldsK (λi:Fin n=>nH k cs i.1) k W p 0 d:=by
 intro j aC;have aC:j<d.size*k:=by simpa using aC
 have mx:j<n*k:=by rw[<-hd];exact aC
 have hk:0<k:=FD λe=>by rw[e]at mx;omega
 have hdiv:j/k<n:=Vb (by rw[sX];exact mx);have Bg:=GZ j hk;have aso:j/k*k+j % k=j:=by rw[sX];exact F9 j k
 constructor
 ·rw[get_flatK _ _ _ _ aC,JD _ hdiv];show W.cell? _=some ((nH k cs (j/k))[j % k]!);rw[YC Bg (by omega)];unfold World.cell?;simp only[a6,kR,aso];simp
 unfold World.frozen?;simp[a6]
def Wq{n k p m:Nat}[Inhabited (Fin n)]{W:bo}{cs:Array br}{t:bJ}(hp:p<W.heap.size)(a6:W.heap[p]? =some (.cells cs t (0,0)))(enc:Fin n->aa br)(d:Array (Fin n))(os:Array Obj):
 (sortWorldK enc k W p 0 m d os).heap[p]? =some (.cells (putCells id 0 (flatK enc k d) cs) t (0,0))∧(∀q,q<W.heap.size->q≠p->(sortWorldK enc k W p 0 m d os).heap[q]? =W.heap[q]?)∧W.heap.size<=(sortWorldK enc k W p 0 m d os).heap.size:=by
 unfold sortWorldK grow putRowK putRow mapBlock
 refine⟨?_,λq hq di=>?_,?_⟩
 ·rw[v8 (by simpa[Sort.ahead]using hp),Ou]
  simp[Sort.ahead,a6,onCells]
 ·rw[v8 (by simpa[Sort.ahead]using hq),Ou]
  simp[Sort.ahead,x4 di]
 simp[Sort.ahead]
def W9{n k p m:Nat}[Inhabited (Fin n)]{W:bo}{cs:Array br}{t:bJ}(hp:p<W.heap.size)(a6:W.heap[p]? =some (.cells cs t (0,0)))(enc:Fin n->aa br)(d:Array (Fin n))(os:Array Obj):Fr [p] W (sortWorldK enc k W p 0 m d os):=by
 obtain⟨_,ad,aB⟩:=Wq (k:=k) (m:=m) hp a6 enc d os;exact⟨rfl,rfl,rfl,Nat.le_add_right _ _,aB,λq hq di=>ad q hq (by simpa using di)⟩
def LQ{F cs:Array br}:(putCells id 0 F cs).size=cs.size:=by unfold putCells;simp
def alr{n k i j:Nat}(aq:i<n)(aC:j<k):i*k+j<n*k:=by
 have:=iu k (show i+1<=n from aq);rw[nU,Lb]at this;omega
def akl{n k i:Nat}{cs:Array br}(ee:n*k<=cs.size)(aq:i<n):(nH k cs i).length=k:=by
 have:=iu k (show i+1<=n from aq);rw[nU,Lb]at this;unfold nH;rw[e8,ke,Array.length_toList];omega
def ahb{n k i:Nat}[Inhabited (Fin n)]{cs:Array br}{enc:Fin n->aa br}(hk:∀x,(enc x).length=k){d:Array (Fin n)}(hd:d.size=n)(ee:n*k<=cs.size)(aq:i<n):nH k (putCells id 0 (flatK enc k d) cs) i=enc d[i]! :=by
 apply FV
 ·rw[akl (by rw[LQ];exact ee) aq,hk]
 intro j h1 ad;have aC:j<k:=by rw[hk]at ad;exact ad
 have b9:=alr aq aC;have rO:0<k:=by omega
 have aW:i*k+j<d.size*k:=by rw[hd];exact b9
 have av:(i*k+j)/k=i:=by rw[sX,Nat.mul_add_div rO,OY aC];omega
 have aS:(i*k+j) % k=j:=by rw[sX,Nat.mul_add_mod,zO aC]
 rw[<-getElem!_pos _ j h1,YC aC (by rw[LQ];omega),<-getElem!_pos (enc d[i]!) j ad];unfold putCells;rw[Array.getElem_mapIdx,bh ⟨vg _,by rw[size_flatK];omega⟩,Nat.sub_zero,get_flatK _ _ _ _ aW,av,aS];rfl
def aiZ{m:Nat}{cs:Array br}(h:m<=cs.size):(cs.toList.take m).length=m:=by rw[e8,Array.length_toList];omega
def YD{α:Type}(a:Array α){n:Nat}(h:a.size=n):a.extract 0 n=a:=by subst h;simp
def XC{n k i:Nat}{cs:Array br}(aq:i<n):((cs.toList.take (n*k)).drop (i*k)).take k=nH k cs i:=by
 have:=iu k (show i+1<=n from aq);rw[nU,Lb]at this;rw[wg,q8,show min k (n*k-i*k)=k by omega];rfl
set_option maxHeartbeats 1000000 in
open Go.Shelf in
def anM{T:Type}[ak T]{P:Program}{ρ:Ren}(L:SlLaysF0.n6 P ρ)(Ut:∀w,(isAgg (ρ.t 24)).run P w=.ok true w)(Uu:∀w,(Go.sizeOf (ρ.t 24)).run P w=.ok (ak.size T) w)(Jm:ak.agg T=true){t:bJ}{xs:aa T}{F:T->T->aE Int}{c:T->T->Int}(ag:za c)
 (ku:∀a∈xs,∀b∈xs,F a b=some (c a b)) (hlen:xs.length<4611686018427387904) {key:aE Nat} {cap:Nat}:
 bL P (ρ.f 6) [.eq (aQ key xs.length cap),.I3 P F] [⟨key,.row t xs cap⟩] (δ:= {ys:aa T // ys.Perm xs∧ys.Pairwise (λa b=>c a b<=0)}) (λ_=>.bW []) (λd=>[⟨key,.row t d.1 cap⟩]):=by
 intro A W vs e7 lR b9 iW bc
 cases bc with
 | cons h1 bc=>cases bc with
   | cons ad bc=>cases bc with
     | nil=>
       rename_i v1 v2
       have h1:v1=aQ key xs.length cap:=h1
       obtain⟨f,BZ,rfl,cf,A3⟩:=ad
       subst h1
       cases key with
       | none=>
         have p2:xs=[]∧cap=0:=iW ⟨none,.row t xs cap⟩ (by simp)
         obtain⟨rfl,rfl⟩:=p2
         refine(AnyF.slices_SortFunc_none L none 0 (.func (.func f) #[] BZ) W).mono ?_
         rintro e rQ ⟨rfl,rfl⟩
         exact⟨_,⟨[],.refl _,.nil⟩,rfl,Fr.refl _ _,by simp[ks],by simp[ks],λe he=>by simp at he;subst he;exact⟨rfl,rfl⟩,⟨_,rfl,.nil⟩⟩
       | some p=>
         obtain⟨o,a6,cs,rfl,ee,hle,ab4,aaJ⟩:∃o,W.heap[p]? =some o∧(e0.row t xs cap).holds (ks [⟨some p,.row t xs cap⟩]++A) W o:=iW ⟨some p,.row t xs cap⟩ (by simp)
         have hp:p<W.heap.size:=b9 p (by simp[ks])
         have asp:∀q∈p::A,q<W.heap.size:=λq hq=>by
          rcases dP.1 hq with rfl|hq
          ·exact hp
          exact(e7 q hq).1
         have acZ:p∉A:=λh=>(e7 p h).2 (by simp[ks])
         by_cases bC:xs.length=0
         ·obtain rfl:xs=[]:=Fe.1 bC
          refine(AnyF.slices_SortFunc_none L (some ⟨p,0,none⟩) cap (.func (.func f) #[] BZ) W).mono ?_
          rintro e rQ ⟨rfl,rfl⟩
          refine⟨_,⟨[],.refl _,.nil⟩,rfl,Fr.refl _ _,by simp[ks],λq hq=>?_,λe he=>?_,⟨_,rfl,.nil⟩⟩
          ·simp[ks]at hq;subst hq
           exact⟨hp,λ_=>by simp[ks],acZ⟩
          simp at he;subst he
          exact⟨_,a6,cs,rfl,ee,hle,ab4,aaJ⟩
         have aM:0<xs.length:=by omega
         letI:Inhabited (Fin xs.length):=⟨⟨0,aM⟩⟩
         have JE:xs.length*ak.size T<=cs.size:=by rw[ee];exact iu _ hle
         have IU:∀i (h:i<xs.length),ak.rep (p::A) W (nH (ak.size T) cs i) xs[i]:=λi h=>by
          have:=aaJ.2 i h;rw[XC h]at this;exact this
         have eR:(Array.ofFn λi:Fin xs.length=>i).size=xs.length:=by simp
         have JD:∀i (h:i<xs.length),(Array.ofFn λi:Fin xs.length=>i)[i]! =⟨i,h⟩:=λi h=>by
          rw[getElem!_pos _ i (by simp;exact h)];simp
         generalize (Array.ofFn λi:Fin xs.length=>i)=d at eR JD
         have tM:=aha a6 JE d eR JD
         have hO:SWO (ltOf λx y:Fin xs.length=>c xs[x.1] xs[y.1]):=(ag.on λi:Fin xs.length=>xs[i.1]).swo
         have jd:∀m os tP,Ext (p::A) W (p::A) (sortWorldK (λi:Fin xs.length=>nH (ak.size T) cs i.1) (ak.size T) W p 0 m tP os):=λm os tP=>Ext.aav (W9 hp a6 _ tP os) λq hq=>by simp at hq;subst hq;exact jC
         have Em:∀m os tP (i:Fin xs.length),(J.of xs[i.1]).holds (p::A) (sortWorldK (λi:Fin xs.length=>nH (ak.size T) cs i.1) (ak.size T) W p 0 m tP os) (.agg (nH (ak.size T) cs i.1).toArray):=λm os tP i=>
          ⟨by rw[Jm];exact⟨_,rfl⟩,ak.mono (jd m os tP) (IU i.1 i.2)⟩
         have aqC:CmpLays P f BZ (λi:Fin xs.length=>nH (ak.size T) cs i.1) (ak.size T) (λx y:Fin xs.length=>c xs[x.1] xs[y.1]) p 0 d.size W:=λm os tP auD x y=>
          (A3 (p::A) _ (jd m os tP) (λq hq=>rZ (asp q hq) (jd m os tP).size) _ _ _ _ _ (ku _ (j0 x.2) _ (j0 y.2)) (Em m os tP x) (Em m os tP y)).mono λe rQ ⟨v,he,asq,bc⟩=>⟨by rw[he,of_int.1 bc],aiY asq⟩
         have ar:∀x:Fin xs.length,(nH (ak.size T) cs x.1).length=ak.size T:=λx=>ak.len (IU x.1 x.2)
         have asr:∀x:Fin xs.length,∀v∈nH (ak.size T) cs x.1,v.oneCell'=true:=λx=>ak.one (IU x.1 x.2)
         have hi:d.size<4611686018427387904:=by omega
         have h:=AnyQ.slices_SortFunc L (ak.size T) Ut Uu (λi:Fin xs.length=>nH (ak.size T) cs i.1) ar asr (λx y:Fin xs.length=>c xs[x.1] xs[y.1]) hO f BZ p 0 cap d W (λargs w=>cf.run args w) aqC tM hp hi
         rw[eR]at h
         refine h.mono ?_
         rintro e rQ ⟨rfl,oi,m,os,aaK,anN,rfl⟩
         obtain⟨bT,_,ass⟩:=Wq (k:=ak.size T) (m:=m) hp a6 (λi:Fin xs.length=>nH (ak.size T) cs i.1) oi os
         have hd':oi.size=xs.length:=aaK.1.trans eR
         have kJ:(oi.toList.map λi=>xs[i.1]).length=xs.length:=by simp[hd']
         have nI:(oi.toList.map λi=>xs[i.1]).Perm xs:=by
          have ad:=aaK.2.2;rw[YD oi hd',YD d eR]at ad;refine(ad.map _).trans (List.Perm.of_eq ?_);refine FV (by simp[eR]) λi aB aV=>?_;have:=JD i aV;rw[getElem!_pos _ i (by omega)]at this;simp[this]
         have uA:∀i (h:i<xs.length),(oi.toList.map λi=>xs[i.1])[i]'(by omega)=xs[(oi[i]!).1]:=λi h=>by
          have e:oi[i]! =oi[i]'(by omega):=getElem!_pos _ i (by omega);simp[e]
         have TI:(oi.toList.map λi=>xs[i.1]).Pairwise (λa b=>c a b<=0):=by
          rw[UP];intro i j aq aC gh;rw[kJ]at aq aC;have:=anN i j (vg _) gh aC;unfold ltOf at this;rw[nP]at this;rw[uA i aq,uA j aC];have ba: ¬0<c xs[(oi[i]!).1] xs[(oi[j]!).1]:=λbq=>this ((ag.neg _ _).2 bq);omega
         refine⟨_,⟨_,nI,TI⟩,rfl,W9 hp a6 _ oi os,by simp[ks],λq hq=>?_,λe he=>?_,⟨_,rfl,.nil⟩⟩
         ·simp[ks]at hq;subst hq
          exact⟨rZ hp ass,λ_=>by simp[ks],acZ⟩
         simp at he;subst he
         refine⟨_,bT,_,rfl,by rw[LQ];exact ee,by rw[kJ];exact hle,ab4,?_,λi aq=>?_⟩
         ·rw[kJ];exact aiZ (by rw[LQ];exact JE)
         rw[kJ]at aq
         rw[kJ,XC aq,ahb (λx=>ak.len (IU x.1 x.2)) hd' JE aq,uA i aq]
         exact ak.mono (jd m os oi) (IU _ (oi[i]!).2)
def aj.wS{T:Type}(xs:aa T)(F:T->T->aE Int):aj (aa T):=λQ=> ∃c:T->T->Int,za c∧xs.length<4611686018427387904∧(∀a∈xs,∀b∈xs,F a b=some (c a b))∧∀ys:aa T,ys.Perm xs->ys.Pairwise (λa b=>c a b<=0)->Q ys
open Go.Shelf in
def ZL{T:Type}[ak T]{P:Program}{ρ:Ren}(L:SlLaysF0.n6 P ρ)(Ut:∀w,(isAgg (ρ.t 24)).run P w=.ok true w)(Uu:∀w,(Go.sizeOf (ρ.t 24)).run P w=.ok (ak.size T) w)(Jm:ak.agg T=true){t:bJ}{xs:aa T}{F:T->T->aE Int}{K:aa T->Prop}(h:aj.wS xs F K){key:aE Nat}{cap:Nat}:
 bL P (ρ.f 6) [.eq (aQ key xs.length cap),.I3 P F] [⟨key,.row t xs cap⟩] (δ:= {r:aa T // xs.length=r.length∧K r}) (λ_=>.bW []) (λd=>[⟨key,.row t d.1 cap⟩]):=by
 obtain⟨c,ag,hlen,ku,hk⟩:=h
 intro A W vs h1 ad aB aV ba
 exact(anM L Ut Uu Jm ag ku hlen A W vs h1 ad aB aV ba).mono λe rQ ⟨v,d,h⟩=>⟨v,⟨d.1,d.2.1.length_eq.symm,hk _ d.2.1 d.2.2⟩,h⟩
end Gv
namespace Gv
open Go
def aj.arR{α β ρ:Type}{lT:α->Prop}{m:α->aj β}{k:α->β->aj ρ}{R:ρ->Prop}(h:∀y,lT y->aj.bind (m y) (k y) R):∃K:α×β->Prop,(∀y,lT y->m y λz=>K (y,z))∧∀y,K y->k y.1 y.2 R:=
 ⟨λy=>k y.1 y.2 R,h,λ_ h=>h⟩
def aj.hd{α ρ:Type}{m:aj α}{k:α->aj ρ}{R:ρ->Prop}(h:aj.bind m k R):m (λa=>k a R):=h
structure atL(α:Type)where
 p:Option α
 deriving DecidableEq,Inhabited
structure yk(P:Program)(τ:J)(τs:List J)(Lin:List aK){δ:Type}(ρ:δ->J)(Lo:δ->List aK):Prop where
 go:∀(A:List Nat) (W:World) (u:Value) (vs:List Value),(∀k∈A,k<W.heap.size∧k∉ks Lin)->(ks Lin).Nodup->(∀k∈ks Lin,k<W.heap.size)->(∀e∈Lin,e.ok (ks Lin++A) W)->hJ (ks Lin++A) W (τ::τs) (u::vs)->
  ∃(f:FuncId) (fP:List Value),u=.func (.func f) #[] fP.toArray∧bH P f∧Calls P f (vs++fP).toArray W (k6 (ks Lin) A W ρ Lo)
def yk.of{P:Program}{f:FuncId}{τ:J}{uz τs:aa J}{Lin:aa aK}{δ:Type}{ρ:δ->J}{Lo:δ->aa aK}(cf:bH P f)(Jy:∀A W u,τ.holds A W u->(J.lx f uz).holds A W u)
 (h:bL P f (τs++uz) Lin ρ Lo):yk P τ τs Lin ρ Lo where
 go A W u vs h1 ad aB aV ba:=by
  cases ba with
  | cons bq c0=>
    obtain⟨fP,rfl,db⟩:=Jy _ _ _ bq
    exact⟨f,fP,rfl,cf,h A W (vs++fP) h1 ad aB aV (c0.append db)⟩
section
variable{c:cP}{E:aa (Nat×J)}{L:aa aK}{ops:Array Oper}{Q:Exit->Act->bo->Prop}
variable{d:aE Tmp}{ty:bJ}{pos:String}{af:Array Edge}{g:aE (Nat×Bool)}{x y z:cw}{t t2:bJ}
def Rw{o:Oper}{σ τ:J}(h:bj c E L o σ)(e:∀A W v,σ.holds A W v->τ.holds A W v):bj c E L o τ:=λa W s=>by
 have:=h a W s;unfold h3 at this⊢;exact tY (λiI W' ⟨v,h1,ad,aB⟩=>⟨v,h1,ad,e _ _ _ aB⟩) this
def akm{a:Act}{W:bo}{xs:aa cw}{ats:Array bJ}{τ:J}{τs:aa J}{Lin Lr:aa aK}{δ:Type}{ρ:δ->J}{Lo:δ->aa aK}(h:yk c.P τ τs Lin ρ Lo)
 (s:bO c E (Lin++Lr) a W) (au:hJ (ks (Lin++Lr)++c.b8) W (τ::τs) ((x::xs).map a.eval)):
 h3 c.P ⟨d,.call ⟨.value x,xs.toArray,ats⟩,ty,pos,af,g⟩ a W λv W'=> ∃bb,bO c E (Lo bb++Lr) a W'∧(ρ bb).holds (ks (Lo bb++Lr)++c.b8) W' v:=by
 have nz:=s.nodup
 rw[fL]at nz
 obtain⟨py,uL,sA⟩:=q5.1 nz
 have iT:Ext (ks (Lin++Lr)++c.b8) W (ks Lin++(ks Lr++c.b8)) W:=DF
 have e7:∀k∈ks Lr++c.b8,k<W.heap.size∧k∉ks Lin:=λk hm=>by
  rcases cF.1 hm with hm|hm
  ·exact⟨s.lt k (by rw[fL];exact cF.2 (.inr hm)),λh=>sA k h k hm I⟩
  obtain⟨h1,ad⟩:=s.fe k hm;exact⟨h1,λh=>ad (by rw[fL];exact cF.2 (.inl h))⟩
 have b9:∀k∈ks Lin,k<W.heap.size:=λk hm=>s.lt k (by rw[fL];exact cF.2 (.inl hm))
 obtain⟨f,fP,hu,cf,ag⟩:=h.go (ks Lr++c.b8) W (a.eval x) (xs.map a.eval) e7 py b9 (λe he=>aK.wI (s.own e (cF.2 (.inl he))) iT λ_ _=>rfl) (by simpa using au.mono iT)
 refine .yd (f:=f) (args:=(xs.map a.eval++fP).toArray) (W':=W) ?_ (ag.mono λe W' ⟨v,bb,he,aW,h1,ad,aB,aV⟩=>?_)
 ·simp[execOp,resolve,Deferred.ofValue,hu,invoke,cf.run]
 refine⟨v,he,bb,s.after aW h1 ad aB,(ρ bb).mono LP aV⟩
variable{bM:Type}[ew bM]{hp:aL bM}
def ae.arY{rest:aa Oper}{bb:Nat}{xs:aa cw}{ats:Array bJ}{τ:J}{τs:aa J}{Lin Lr:aa aK}{δ:Type}{ρ:δ->J}{Lo:δ->aa aK}{hq:δ->aL bM}(n m:Nat)(ar:L.drop n=a1 hp)(h:yk c.P τ τs (Lin++a1 hp) ρ (λd=>Lo d++a1 (hq d)))
 (h1:(L.take n).take m=Lin) (ad:(L.take n).drop m=Lr) (au:jr c E L (x::xs) (τ::τs)) (aM:Nat.blt bb c.n=true) (k:∀q,ae c ops Q rest ((bb,ρ q)::E) ((Lo q++Lr)++a1 (hq q))):
 ae c ops Q (⟨some bb,.call ⟨.value x,xs.toArray,ats⟩,ty,pos,af,none⟩::rest) E L:=by
 have e:L=(Lin++Lr)++a1 hp:=by rw[<-h1,<-ad,gw,<-ar,gw]
 clear ar h1 ad
 subst e
 exact λa W s=>jm I (akm (Lr:=Lr) h (s.perm ov) ((au.holds a W s).mono (pV ov))) λv W' ⟨q,cv,bc⟩=>
  k q _ _ ((cv.perm ov).put (by simpa using aM) ((ρ q).mono (pV ov) bc))
def anO{p n:Nat}{k:bM}{e:aK}{es:aa aK}(ar:L.drop n=a1 hp)(h:pat hp p=some k)(hk:ew.gU p k=e::es):e∈L:=by
 obtain⟨R,h1,_⟩:=wv h;rw[hk]at h1;have:e∈L.drop n:=by rw[ar];exact h1.mem_iff.2 (by simp)
 exact Cn this
def ai0{x:cw}{t:bJ}{p o:Nat}{β γ:Type}[ak β][ak γ]{b:β}{os:aa (Nat×br)}(l:aP β γ){r:γ}(ej:bU c.P t γ)(au:aU c E L x (.eq (.pointer (some ⟨p,o,none⟩))))
 (hm:(⟨some p,.cu b os⟩:aK)∈L) (a6:o=l.off) (aG:l.get b=r) (aY:vv os l.off (ak.size γ)=true):bj c E L ⟨d,.load t x,ty,pos,af,g⟩ (.of r):=by
 obtain⟨i,aq⟩:=o5.1 hm
 exact HW (i:=i) l ej au aq a6 aG aY
def Xt{bM:Type}{hp:aL bM}{p:Nat}{k:bM}(h:pat hp p=some k):cL hp p k=hp:=by
 induction hp with
 |nil=>rfl
 | cons z r cg=>
   obtain⟨q,atI⟩:=z
   simp only[pat]at h
   simp only[cL]
   split
   ·rename_i e
    rw[bh e]at h
    rw[CA h]
   rename_i e
   rw[bf e]at h
   rw[cg h]
def ae.Rx{l:aa Oper}{p:Nat}{k:bM}{X:aa aK}(n:Nat)(ar:L.drop n=a1 hp)(hp':pat hp p=some k)(hk:ew.gU p k=X)
 (nM:∀R,(∀k',(a1 (cL hp p k')).Perm (ew.gU p k'++R))->ae c ops Q l E (X++(L.take n++R))):ae c ops Q l E L:=by
 obtain⟨R,bk,bn⟩:=wv hp'
 refine ae.perm ?_ (nM R bn)
 conv=>rhs;rw[<-gw n L,ar]
 rw[hk]at bk
 refine List.Perm.trans ?_ (bk.symm.append_left (L.take n))
 rw[<-iJ,<-iJ]
 exact nQ.append_right _
def ae.Si{l:aa Oper}{p:Nat}{R M:aa aK}(k':bM)(m n:Nat)(hF:∀k',(a1 (cL hp p k')).Perm (ew.gU p k'++R))(ar:L.drop n=R)(h1:(L.take n).take m=ew.gU p k')(ad:(L.take n).drop m=M)
 (nM:ae c ops Q l E (M++a1 (cL hp p k'))):ae c ops Q l E L:=by
 have e:L=(ew.gU p k'++M)++R:=by rw[<-h1,<-ad,gw,<-ar,gw]
 refine ae.perm ?_ nM
 rw[e]
 refine((hF k').append_left M).trans ?_
 rw[<-iJ]
 exact nQ.append_right _
end
section
variable{P:Program}{b:Frame}{a:Act}{k:aa Item}{cs:aa Frame}{w:bo}{Q:Exit->Act->bo->Prop}{F:Fence}{n:Nat}
def TJ(Q:Exit->Act->bo->Prop):Exit->Act->bo->Prop
 | .goto _,_,_=>False
 |e,a,w=>Q e a w
def Du{c:Code}:step P (lone (b.atR a (.code (.scope c)::k)) cs w)=.next (lone (b.atR a (.code c::.inScope c::k)) cs w):=
 step_lone_go (by simp[stepG,stepG.exec,Frame.atR])
def agl{c:Code}:step P (lone (b.atR a (.inScope c::k)) cs w)=.next (lone (b.atR a k) cs w):=
 step_lone_go (by simp[stepG,stepG.exec,Frame.atR])
def ahc{c:Code}(h:c.wpIn F n P (TJ Q) a w):(Code.scope c).wpIn F n P Q a w:=by
 intro b k cs lf hb aG;have bC:(lone (b.atR a (.code (.scope c)::k)) cs w).fenced P F:=C1 hb aG I;obtain⟨e,tu,Bh,hq,pr⟩:=h b (.inScope c::k) cs lf hb aG;cases e with
 |normal=>exact⟨.normal,tu,Bh,hq,.head bC Du (Ph pr (.one (C1 hb aG I) agl))⟩
 | exit id=>
   have au:exitTo id (.inScope c::k)=exitTo id k:=by simp[exitTo]
   exact⟨.exit id,tu,Bh,hq,λk' hk=>.head bC Du (pr.1 k' (by rw[au];exact hk)),
    λkp hk=>let⟨k₁,h1,ad⟩:=pr.2 kp (by rw[au];exact hk); ⟨k₁,h1,.head bC Du ad⟩⟩
 |goto l=>exact hq.elim
 |ret=>exact⟨_,tu,Bh,hq,.of_steps (.one bC Du) pr⟩
 |panic me=>exact⟨_,tu,Bh,hq,.of_steps (.one bC Du) pr⟩
 |outgrown=>exact⟨_,tu,Bh,hq,.of_steps (.one bC Du) pr⟩
end
section
variable{c:cP}{E:aa (Nat×J)}{L:aa aK}{Q:Exit->Act->bo->Prop}
def ay.scope{x:Code}(h:ay c (TJ Q) x E L):ay c Q (.scope x) E L:=λa W s=>ahc (h a W s)
def ay.label{l:Nat}(h:al c Q .normal E L):ay c Q (.label l) E L:=λa W s=>wpIn_label (h a W s)
def al.aa6(h:al c Q .ret E L):al c (TJ Q) .ret E L:=h
end
section
variable{c:cP}{E:aa (Nat×J)}{L:aa aK}
def bj.arL{o:Oper}{ρ τ:J}{p:Prop}(gY:Nat)(an:look E gY=some (.cond p τ))(hb:p)(h:bj c ((gY,τ)::E) L o ρ):bj c E L o ρ:=λa W s=>by
 refine h a W (s.less λt σ ad=>?_);simp only[look]at ad;by_cases e:Nat.beq gY t=true
 ·rw[e]at ad;simp only[cond_true,gl]at ad;have:=fa.1 e;subst this;subst ad;exact⟨_,an,λA W v bc=>bc.1 hb⟩
 simp only[jk]at e;rw[e]at ad;simp only[cond_false]at ad;exact⟨σ,ad,λ_ _ _ h=>h⟩
end
abbrev J.cr(p:Nat):J:=.eq (.pointer (some ⟨p,0,none⟩))
abbrev aI{α:Type}[ak α](p:Nat)(x:α):aK:=⟨some p,.var x⟩
inductive oZ:Nat->List aK->List aK->Prop
 |nil {L:List aK}:oZ 0 L []
 |cons {n:Nat} {e:aK} {r s:List aK}:oZ n r s->oZ (n+1) (e::r) (e::s)
inductive o0:List aK->List aK->Prop
 |nil:o0 [] []
 |gU {bM:Type} [ew bM] {hp:aL bM}:o0 (a1 hp) (a1 hp)
 |E3 {l:List aK}:o0 l l
 |cons {e e':aK} {r s:List aK}:e=e'->o0 r s->o0 (e::r) (e'::s)
def o0.eq:∀{l m:aa aK},o0 l m->l=m
 |_,_,.nil=>rfl
 |_,_,@o0.gU _ _ _=>rfl
 |_,_,.E3=>rfl
 |_,_,.cons h1 h=>by rw[h.eq,h1]
section
variable{c:cP}{E:aa (Nat×J)}{L:aa aK}{ops:Array Oper}{Q:Exit->Act->bo->Prop}{x:cw}
def ae.dy{l:aa Oper}{L2:aa aK}(k:ae c ops Q l E L2)(h:o0 L L2:=by repeat (first|exact o0.gU|exact o0.nil|(apply o0.cons; (first|(dsimp only;exact rfl)|exact rfl))|exact o0.E3)):ae c ops Q l E L:=.df h.eq k
def al.dy{z:Exit}{L2:aa aK}(k:al c Q z E L2)(h:o0 L L2:=by repeat (first|exact o0.gU|exact o0.nil|(apply o0.cons; (first|(dsimp only;exact rfl)|exact rfl))|exact o0.E3)):al c Q z E L:=.df h.eq k
def dp.jy{γ:Type}{Uv:aa (Nat×J)}{Uw:aa aK}{f:Nat}{ct:Array Bool}(dC:aa Nat)(d m E2:Nat)(ug:Array Bool)(u:γ->aa (Nat×J))(xs ys:γ->aa aK)(h1:∀g,dp c ops Q E2 ug (u g++Uv) (xs g++(Uw++ys g)))
 (ad:(∀g,dp c ops Q E2 ug (u g++Uv) (xs g++(Uw++ys g)))->dp c ops Q f ct E L) (aD:kx E dC Uv:=by repeat (first|exact kx.nil|(apply kx.cons;rfl))) (ar:oZ m (L.drop d) Uw:=by repeat (first|exact oZ.nil|apply oZ.cons)):dp c ops Q f ct E L:=ad h1
def dp.s1{f:Nat}{ct:Array Bool}{o:Oper}(i:Nat)(h:ae c ops (qk (wpAnyIn c.F 9 c.P .any ops Q f (ct.setIfInBounds i true)) Q) [o] E L)(a6:ops[i]? =some o:=by rfl)(aG:Region.ready .any ops ct=[i]:=by kernel_rfl):dp c ops Q (f+1) ct E L:=.step [i] aG I ⟨⟨o,a6,h⟩,trivial⟩
def dp.s2{f:Nat}{ct:Array Bool}{o cE:Oper}(i j:Nat)(h:ae c ops (qk (wpAnyIn c.F 9 c.P .any ops Q f (ct.setIfInBounds i true)) Q) [o] E L)(ad:ae c ops (qk (wpAnyIn c.F 9 c.P .any ops Q f (ct.setIfInBounds j true)) Q) [cE] E L)
 (a6:ops[i]? =some o:=by rfl) (fl:ops[j]? =some cE:=by rfl) (aG:Region.ready .any ops ct=[i,j]:=by kernel_rfl):dp c ops Q (f+1) ct E L:=.step [i,j] aG I ⟨⟨o,a6,h⟩,⟨cE,fl,ad⟩,trivial⟩
def ae.fY{f:Nat}{ct ug:Array Bool}{E':aa (Nat×J)}(k:dp c ops Q f ug E' L)(h:fO E E':=by repeat (first|exact fO.nil|refine fO.same I ?_))(an:ct=ug:=by kernel_rfl):ae c ops (qk (wpAnyIn c.F 9 c.P .any ops Q f ct) Q) [] E L:=.nil (.fY k h an)
def yV{α:Type}{b:Bool}{m n:aj α}{R:α->Prop}{y z:Code}(h:cond b m n R)(bD:m R->ay c Q y E L)(aW:n R->ay c Q z E L)(an:aU c E L x (.of b):=by first|exact ah I|exact iL _):ay c Q (.cond x y z) E L:=
 .cond an (λhb=>bD (Yy hb h)) (λhb=>aW (Yz hb h))
end
def fz(up rd wr:aa Nat)(e:(Nat->Hid)->aK):dU:=⟨none,up,rd,wr,λ_=>.any,λhd _=>e hd⟩
section
variable{c:cP}{E:aa (Nat×J)}{L:aa aK}{ops:Array Oper}{Q:Exit->Act->bo->Prop}{hs:aa dU}{i:Nat}{up rd:aa Nat}{o:Oper}{bb:Nat}
def fS{τ:J}(h:∀{hd:Nat->Hid} {E':aa (Nat×J)} {L':aa aK},(∀t τ,look (kL hd hs E up) t=some τ->look E' t=some τ)->(∀j e,(ht (λ_=>true) hd 0 (hs.take i) L)[j]? =some e->rd.contains j=true->L'[j]? =some e)->bj c E' L' o τ)
 (bu:o.guard=none:=by rfl) (hd:o.dst=some bb:=by rfl) (aM:Nat.blt bb c.n=true:=by rfl):ey c ops Q hs E L i o (az bb up rd τ):=qg (λ_ _ _ a b=>h a b) bu hd aM
def fA{τ:J}{hyp:aa aK->Prop}(h:∀{L'},hyp L'->bj c E L' o τ)(bu:o.guard=none:=by rfl):∀L',hyp L'->iq c ops E L' o τ:=λL' ar=>.v (h ar) bu
end
def qV:aa (aE Nat)->aa (aa Nat)->aa J->aa dU
 |s::ga,d::ds,τ::dC=>⟨s,d,[],[],λ_=>τ,λ_ _=>⟨none,.dead⟩⟩::qV ga ds dC
 |_,_,_=>[]
def En:aa (aE Nat)->aa (aa Nat)->aa (aE Nat×aa Nat×aa Nat×aa Nat)
 |s::ga,d::ds=>(s,d,[],[])::En ga ds
 |_,_=>[]
def w5(E:aa (Nat×J)):aa (aE Nat)->aa (aa Nat)->aa J->aa (Nat×J)
 |s::ga,_::ds,τ::dC=>sl s τ (w5 E ga ds dC)
 |_,_,_=>E
def EN:aa Oper->aa (aE Nat)->Nat->Bool
 |[],[],_=>true
 |o::os,some s::ga,n=>(match o.dst with |some t=>Nat.beq t s|none=>false)&&Nat.blt s n&&EN os ga n
 |_,_,_=>false
section
variable{c:cP}{E:aa (Nat×J)}{L:aa aK}{ops:Array Oper}{Q:Exit->Act->bo->Prop}
def yp(c:cP)(ops:Array Oper)(E:aa (Nat×J))(L:aa aK)(hs:aa dU):aa Oper->aa (aE Nat)->aa (aa Nat)->aa J->Prop
 |o::os,_::ga,d::ds,τ::dC=>(∀L':aa aK,(∀(j:Nat) (e:aK),L[j]? =some e->vA (λ_=>false) j 0 []=true->L'[j]? =some e)->iq c ops (kL (λ_ _=>none) hs E d) L' o τ)∧yp c ops E L hs os ga ds dC
 |_,[],[],[]=>True
 |_,_,_,_=>False
def L6{h:dU}:∀{ga:aa (aE Nat)} {ds:aa (aa Nat)} {dC:aa J},h∈qV ga ds dC->h.wr=[]∧∀g ek,h.τ g=h.τ ek
 | _::ga,_::ds,_::dC,hm=>by
   rcases dP.1 hm with rfl|hm
   ·exact⟨rfl,λ_ _=>rfl⟩
   exact L6 hm
def Mq{hd:Nat->Hid}{hs:aa dU}(ag:∀h∈hs,∀g ek,h.τ g=h.τ ek):∀{d:aa Nat},kL hd hs E d=kL (λ_ _=>none) hs E d
 |[]=>rfl
 | j::r=>by
   unfold kL;cases aC:hs[j]? with
   |none=>exact Mq ag
   | some h=>
     cases hq:h.slot with
     |none=>simp only[hq];exact Mq ag
     |some s=>simp only[hq];rw[ag h (fB aC) _ (iA h.up j (λ_ _=>none)),Mq ag]
def aaL{hd:Nat->Hid}:∀{hs:aa dU} {k:Nat} {L:aa aK},(∀h∈hs,h.wr=[])->ht (λ_=>true) hd k hs L=L
 |[],_,_,_=>rfl
 | h::r,k,L,hw=>by
   unfold ht;rw[hw h jC];exact aaL λx au=>hw x (gx _ au)
def QI{hd:Nat->Hid}:∀{ga:aa (aE Nat)} {ds:aa (aa Nat)} {dC:aa J} {k:Nat},iU (λ_=>true) hd E k (qV ga ds dC)=w5 E ga ds dC
 |some s::ga,d::ds,τ::dC,k=>by unfold qV w5 iU;simp only[sl];rw[QI]
 |none::ga,d::ds,τ::dC,k=>by unfold qV w5 iU;simp only[sl];rw[QI]
 |[],_,_,_=>by unfold qV w5 iU;rfl
 |_::_,[],_,_=>by unfold qV w5 iU;rfl
 |_::_,_::_,[],_=>by unfold qV w5 iU;rfl
def ae.a6{o:Oper}{rest:aa Oper}{d:Nat}{τ:J}{E':aa (Nat×J)}(h:iq c ops E' L o τ)(aD:∀t τ,look E' t=some τ->look E t=some τ)(hd:o.dst=some d)(aM:Nat.blt d c.n=true)(k:ae c ops Q rest ((d,τ)::E) L):ae c ops Q (o::rest) E L:=λa W s=>by
 obtain⟨h1,ad⟩:=h a W (s.less λt τ an=>⟨τ,aD t τ an,λ_ _ _ h=>h⟩);unfold cP.sw wpListIn;by_cases hw:Region.wanted o (yielded ops a.tmps)=true
 ·rw[bh hw];refine((h1 hw).wpIn λv W' ⟨f,bc⟩=>?_);rw[hd];exact k _ _ ((s.world f).put (by simpa using aM) bc)
 rw[bf hw,hd];exact⟨λ_ _=>trivial,k _ _ (s.put (by simpa using aM) (ad (by simpa using hw)))⟩
def yp.Jj{hs:aa dU}(ag:∀h∈hs,∀g ek,h.τ g=h.τ ek):∀{os:aa Oper} {ga:aa (aE Nat)} {ds:aa (aa Nat)} {dC:aa J} {k n:Nat},yp c ops E L hs os ga ds dC->EN (os.take n) ga c.n=true->qx c ops Q hs E L 0 k (os.take n) (qV ga ds dC)
 | os,[],ds,dC,k,n,_,hb=>by
   cases h:os.take n with
   |nil=>cases ds <;> cases dC <;> trivial
   |cons o r=>rw[h]at hb;cases hb
 |[],s::ga,ds,dC,k,n,_,hb=>by rw[List.take_nil]at hb;cases hb
 |o::os,s::ga,ds,dC,k,0,_,hb=>by cases hb
 |o::os,s::ga,[],dC,k,n+1,h,_=>h.elim
 |o::os,s::ga,d::ds,[],k,n+1,h,_=>h.elim
 |o::os,none::ga,d::ds,τ::dC,k,n+1,h,hb=>by simp[EN]at hb
 | o::os,some s::ga,d::ds,τ::dC,k,n+1,h,hb=>by
   simp only[List.take_succ_cons,EN,gm]at hb;refine⟨λJk E' L' aD _ bZ=>?_,yp.Jj ag h.2 hb.2⟩;have e:L'=L:=bZ;subst e;have eR:o.dst=some s:=by
    have:=hb.1.1;cases hd:o.dst with
    |none=>rw[hd]at this;cases this
    |some t=>rw[hd]at this;rw[fa.1 this]
   exact ae.a6 (h.1 _ λj e he _=>he) (λt τ an=>aD t τ (by rw[Mq ag];exact an)) eR hb.1.2 (ae.nil (al.fin (λ_=>none) I I))
def ay.kM{kK:Nat}{l:aa Oper}{es:aa Nat}(hm:c.P.follows .mixedOrders=true)(n:Nat)(ph:aa (aE Nat))(w6:aa (aa Nat))(dC:aa J)(bT:yp c l.toArray E L (qV ph w6 dC) l ph w6 dC)(bD:ae c l.toArray Q (l.drop n) (w5 E ph w6 dC) L)
 (eR:l1 (qV ph w6 dC)=En ph w6:=by rfl) (ko:E.map (·.1)=es:=by rfl) (eu:Gv.rz l.toArray n (En ph w6) es=true:=by kernel_rfl) (hs:EN (l.take n) ph c.n=true:=by rfl):ay c Q (.region kK l.toArray true) E L:=
 have ag:∀h∈qV ph w6 dC,∀g ek,h.τ g=h.τ ek:=λh hm=>(L6 hm).2
 ay.Mp n (np:=0) hm (qV ph w6 dC) (En ph w6) es eR ko eu (λh hm j aC=>by rw[(L6 hm).1]at aC;cases aC) (yp.Jj ag bT hs) (λhd=>by rw[QI,aaL λh hm=>(L6 hm).1];exact bD)
end
section
variable{c:cP}{E fT:aa (Nat×J)}{L gj:aa aK}{Q:Exit->Act->bo->Prop}{x:cw}
def qL{γ:Type}{b:Bool}{y z:Code}(n:Nat)(dC:aa Nat)(u:γ->aa (Nat×J))(ul:γ->aa (Nat×aK))(oj:γ->aa aK)(oW:∀g,al c Q .normal (u g++fT) (je gj (ul g)++oj g))
 (bD:(∀g,al c (ea Q) .normal (u g++fT) (je gj (ul g)++oj g))->b=true->ay c (ea Q) y E L) (aW:(∀g,al c (ea Q) .normal (u g++fT) (je gj (ul g)++oj g))->b=false->ay c (ea Q) z E L)
 (BE:oZ n L gj:=by repeat (first|exact oZ.nil|apply oZ.cons)) (Jn:kx E dC fT:=by repeat (first|exact kx.nil|(apply kx.cons;rfl))) (an:aU c E L x (.of b):=by first|exact ah I|exact iL _):ay c Q (.cond x y z) E L:=
 ay.b1 (λg=>u g++fT) (λg=>je gj (ul g)++oj g) an oW bD aW
def yU{β γ ρ:Type}{lC:ρ->Prop}{b:Bool}{y z:Code}{bk bn:aj β}{k:β->aj ρ}(h:aj.bind (bif b then bk else bn) k lC)(n:Nat)(dC:aa Nat)(u:β->γ->aa (Nat×J))(ul:β->γ->aa (Nat×aK))(oj:β->γ->aa aK)
 (oW:∀m g,k m lC->al c Q .normal (u m g++fT) (je gj (ul m g)++oj m g))
 (bD:(∀m g,k m lC->al c (ea Q) .normal (u m g++fT) (je gj (ul m g)++oj m g))->b=true->bk (λm=>k m lC)->ay c (ea Q) y E L) (aW:(∀m g,k m lC->al c (ea Q) .normal (u m g++fT) (je gj (ul m g)++oj m g))->b=false->bn (λm=>k m lC)->ay c (ea Q) z E L)
 (BE:oZ n L gj:=by repeat (first|exact oZ.nil|apply oZ.cons)) (Jn:kx E dC fT:=by repeat (first|exact kx.nil|(apply kx.cons;rfl))) (an:aU c E L x (.of b):=by first|exact ah I|exact iL _):ay c Q (.cond x y z) E L:=
 ay.alm h (λm g=>u m g++fT) (λm g=>je gj (ul m g)++oj m g) an oW bD aW
def tw{σ ε γ δ:Type}{body:Code}{N:Nat}{b:σ->aE (σ⊕ε)}{cb:σ}{e:ε}(an:dh N b cb=some e)(n:Nat)(dC:aa Nat)(u:σ->γ->aa (Nat×J))(ul:σ->γ->aa (Nat×aK))(oj:σ->γ->aa aK)(xs:ε->Exit)
 (u0:ε->δ->aa (Nat×J)) (uM:ε->δ->aa (Nat×aK)) (BM:ε->δ->aa aK) (g0:γ)
 (uq:∀s r,b s=some r->∀g,ay c (eN c (λs g=>u s g++fT) (λs g=>je gj (ul s g)++oj s g) xs (λe d=>u0 e d++fT) (λe d=>je gj (uM e d)++BM e d) r) body (u s g++fT) (je gj (ul s g)++oj s g))
 (qB:∀g,al c Q (xs e) (u0 e g++fT) (je gj (uM e g)++BM e g))
 (BE:oZ n L gj:=by repeat (first|exact oZ.nil|apply oZ.cons)) (Jn:kx E dC fT:=by repeat (first|exact kx.nil|(apply kx.cons;rfl))) (aD:fO E (u cb g0++fT):=by repeat (first|exact fO.nil|refine fO.same I ?_)) (ar:L=je gj (ul cb g0)++oj cb g0:=by rfl):ay c Q (.loop body) E L:=
 ay.MG an (λs g=>u s g++fT) (λs g=>je gj (ul s g)++oj s g) xs (λe d=>u0 e d++fT) (λe d=>je gj (uM e d)++BM e d) g0 ar aD uq qB
def Bt{σ ε γ δ ρ:Type}{body:Code}{N:Nat}{b:σ->aj (σ⊕ε)}{cb:σ}{k:ε->aj ρ}{lC:ρ->Prop}(an:aj.bind (Gv.oD N b cb) k lC)(n:Nat)(dC:aa Nat)(u:σ->γ->aa (Nat×J))(ul:σ->γ->aa (Nat×aK))(oj:σ->γ->aa aK)(xs:ε->Exit)
 (u0:ε->δ->aa (Nat×J)) (uM:ε->δ->aa (Nat×aK)) (BM:ε->δ->aa aK) (g0:γ)
 (uq:∀s R,b s R->∀g,ay c (eU c (λs g=>u s g++fT) (λs g=>je gj (ul s g)++oj s g) xs (λe d=>u0 e d++fT) (λe d=>je gj (uM e d)++BM e d) R) body (u s g++fT) (je gj (ul s g)++oj s g))
 (qB:∀e,k e lC->∀g,al c Q (xs e) (u0 e g++fT) (je gj (uM e g)++BM e g))
 (BE:oZ n L gj:=by repeat (first|exact oZ.nil|apply oZ.cons)) (Jn:kx E dC fT:=by repeat (first|exact kx.nil|(apply kx.cons;rfl))) (aD:fO E (u cb g0++fT):=by repeat (first|exact fO.nil|refine fO.same I ?_)) (ar:L=je gj (ul cb g0)++oj cb g0:=by rfl):ay c Q (.loop body) E L:=
 ay.Y2 an (λs g=>u s g++fT) (λs g=>je gj (ul s g)++oj s g) xs (λe d=>u0 e d++fT) (λe d=>je gj (uM e d)++BM e d) g0 ar aD uq qB
end
inductive NE:List (Nat×J)->List (Nat×J)->Prop
 |nil:NE [] []
 |cons {x:Nat×J} {r s:List (Nat×J)}:NE r s->NE (x::r) (x::s)
def NE.eq:∀{l m:aa (Nat×J)},NE l m->l=m
 |_,_,.nil=>rfl
 |_,_,.cons h=>by rw[h.eq]
section
variable{c:cP}{E fT:aa (Nat×J)}{L:aa aK}{ops:Array Oper}{Q:Exit->Act->bo->Prop}
def eO{z:Exit}(k:al c Q z fT L)(h:NE E fT:=by repeat (first|exact NE.nil|apply NE.cons)):al c Q z E L:=by rw[h.eq];exact k
def acE{l:aa Oper}(k:ae c ops Q l fT L)(h:NE E fT:=by repeat (first|exact NE.nil|apply NE.cons)):ae c ops Q l E L:=by rw[h.eq];exact k
def ay.ads{kK:Nat}{l:aa Oper}{ds:aa (aE Nat×aa Nat×aa Nat×aa Nat)}{es:aa Nat}(n np:Nat)(hm:c.P.follows .mixedOrders=true)(hs:aa dU)
 (bT:qx c l.toArray Q hs E L np 0 (l.take n) hs) (bD:∀hd,ae c l.toArray Q (l.drop n) (iU (λ_=>true) hd E 0 hs) (ht (λ_=>true) hd 0 hs L))
 (eR:l1 hs=ds:=by rfl) (ko:E.map (·.1)=es:=by rfl) (eu:Gv.rz l.toArray n ds es=true:=by kernel_rfl) (hw:(ds.all λd=>d.2.2.2.all λj=>Nat.blt j np)=true:=by kernel_rfl):ay c Q (.region kK l.toArray true) E L:=.atJ n np hm hs es bT bD eR ko eu hw
def ay.Uh{kK:Nat}{l:aa Oper}{ds:aa (aE Nat×aa Nat×aa Nat×aa Nat)}{es:aa Nat}(np:Nat)(hm:c.P.follows .mixedOrders=true)(hs:aa dU)
 (bT:qx c l.toArray Q hs E L np 0 l hs) (bD:∀hd,al c Q .normal (iU (λ_=>true) hd E 0 hs) (ht (λ_=>true) hd 0 hs L))
 (eR:l1 hs=ds:=by rfl) (ko:E.map (·.1)=es:=by rfl) (eu:Gv.rz l.toArray l.length ds es=true:=by kernel_rfl) (hw:(ds.all λd=>d.2.2.2.all λj=>Nat.blt j np)=true:=by kernel_rfl):ay c Q (.region kK l.toArray true) E L:=.Us np hm hs es bT bD eR ko eu hw
def ay.tJ{kK:Nat}{l:aa Oper}{ds:aa (aE Nat×aa Nat×aa Nat×aa Nat)}{es:aa Nat}(hm:c.P.follows .mixedOrders=true)(hs:aa dU)
 (bT:DT c l.toArray Q hs E L 0 l hs) (bD:∀hd,al c Q .normal (iU (λ_=>true) hd E 0 hs) (ht (λ_=>true) hd 0 hs L))
 (eR:l1 hs=ds:=by rfl) (ko:E.map (·.1)=es:=by rfl) (eu:Gv.rz l.toArray l.length ds es=true:=by kernel_rfl):ay c Q (.region kK l.toArray true) E L:=.N5 hm hs es bT bD eR ko eu
end
end Gv
