/-
  The library of the decompiler, as far as it is needed here. Conditions: none.
-/
import Derived.MapKept
import Derived.Maps.RangeRun
import Derived.Shelf.SlSortCmp.NoneTotal
import Derived.Lib.QuietBelow
import Derived.Test.YtppgfphgdogpeaaGreatUl0
set_option linter.defProp false
set_option linter.unusedVariables false
set_option linter.unusedSimpArgs false
namespace Gv
open Go
section
variable{c:cM}{E:aa (Nat×J)}{L:aa aK}{ops:Array Oper}{Q:Exit->Act->bn->Prop}{rest:aa Oper}{o:Oper}{a7:Nat}
variable{ty:bK}{pos:String}{af:Array Edge}{x y:cu}{t t2:bK}
def b5{id:Nat}{l:aa Oper}{y:Code}(h:ag c l.toArray (Exit.then (c.wp y Q) Q) l E L):ay c Q (.seq (.region id l.toArray false) y) E L:=.seq (.fm h)
def ch{y:Code}(h:ay c Q y E L):ag c ops (Exit.then (c.wp y Q) Q) [] E L:=.nil (.next h)
def hh{y z:Code}(h:ay c (Exit.then (c.wp z Q) Q) y E L):ag c ops (Exit.then (c.wp (Code.seq y z) Q) Q) [] E L:=.nil (.next (.seq h))
def iy{id:Nat}{l:aa Oper}{z:Code}(h:ag c l.toArray (Exit.then (c.wp z Q) Q) l E L):ag c ops (Exit.then (c.wp (Code.seq (.region id l.toArray false) z) Q) Q) [] E L:=.nil (.next (.seq (.fm h)))
def ly{y:Code}(h:ay c Q y E L):ay c (Exit.then (c.wp y Q) Q) .skip E L:=.skip (.next h)
def aA{α β:Type}{m:aD α}{f:α->aD β}{r:β}{P:Prop}(h:m.bind f=some r)(k:∀y,m=some y->f y=some r->P):P:=(bind_some h).elim λy h=>k y h.1 h.2
def kI{R:Type}{b:Bool}{A B:aD R}{r:R}{y z:Code}(h:cond b A B=some r)(bD:A=some r->ay c Q y E L)(aW:B=some r->ay c Q z E L)
 (al:aU c E L x (.of b):=by first|exact ah I|exact iL _):ay c Q (.cond x y z) E L:=
 .cond al (λhb=>bD (fp hb h)) (λhb=>aW (fq hb h))
def bx{τ:J}(h:bj c E L o τ)(k:ag c ops Q rest ((a7,τ)::E) L)(bz:o.guard=none:=by rfl)(hd:o.dst=some a7:=by rfl)(aM:Nat.blt a7 c.n=true:=by rfl):ag c ops Q (o::rest) E L:=.v h bz hd aM k
def cS{τ:J}(k:ag c ops Q rest ((a7,τ)::E) L)(au:aU c E L x τ:=by first|exact ah I|exact dd _|exact iL _|exact iN _)(aM:Nat.blt a7 c.n=true:=by rfl):
 ag c ops Q (⟨some a7,.move x,ty,pos,af,none⟩::rest) E L:=.v (cY au) I I aM k
def dg{τ:J}(k:ag c ops Q rest ((a7,τ)::E) L)(au:aU c E L x τ:=by first|exact ah I|exact dd _|exact iL _|exact iN _)(aM:Nat.blt a7 c.n=true:=by rfl):
 ag c ops Q (⟨some a7,.assign x,ty,pos,af,none⟩::rest) E L:=.v (dk au) I I aM k
def dV{σ τ:J}(h:aU c E L x σ->bj c E L o τ)(k:ag c ops Q rest ((a7,τ)::E) L)(au:aU c E L x σ:=by first|exact ah I|exact dd _|exact iL _|exact iN _)
 (bz:o.guard=none:=by rfl) (hd:o.dst=some a7:=by rfl) (aM:Nat.blt a7 c.n=true:=by rfl):ag c ops Q (o::rest) E L:=.v (h au) bz hd aM k
def dW{σ pv τ:J}(h:aU c E L x σ->aU c E L y pv->bj c E L o τ)(k:ag c ops Q rest ((a7,τ)::E) L)(au:aU c E L x σ:=by first|exact ah I|exact dd _|exact iL _|exact iN _)
 (aT:aU c E L y pv:=by first|exact ah I|exact dd _|exact iL _|exact iN _)
 (bz:o.guard=none:=by rfl) (hd:o.dst=some a7:=by rfl) (aM:Nat.blt a7 c.n=true:=by rfl):ag c ops Q (o::rest) E L:=.v (h au aT) bz hd aM k
def qf{α:Type}[ak α]{a b:α}(e:some a=some b)(h:bj c E L o (.of a))(k:ag c ops Q rest ((a7,.of b)::E) L)(bz:o.guard=none:=by rfl)(hd:o.dst=some a7:=by rfl)(aM:Nat.blt a7 c.n=true:=by rfl):
 ag c ops Q (o::rest) E L:=.v (h.q1 (dy e)) bz hd aM k
def ac8{i:Nat}{τs:aa J}{τ:J}(k:ag c ops Q rest ((a7,τ)::E) L)(au:aU c E L x (.bT τs):=by exact ah I)(aq:τs[i]? =some τ:=by rfl)(aM:Nat.blt a7 c.n=true:=by rfl):
 ag c ops Q (⟨some a7,.extract x i,ty,pos,af,none⟩::rest) E L:=.v (Sx au aq) I I aM k
def rJ{p o:Nat}{β γ:Type}[ak β][ak γ]{b:β}(j:Nat)(l:aQ β γ)(ej:bS c.P t γ)(k:ag c ops Q rest ((a7,.of (l.get b))::E) L)(au:aU c E L x (.eq (.pointer (some ⟨p,o,none⟩))):=by exact ah I)
 (av:L[j]? =some ⟨some p,.var b⟩:=by rfl) (a6:o=l.off:=by rfl) (aM:Nat.blt a7 c.n=true:=by rfl):ag c ops Q (⟨some a7,.load t x,ty,pos,af,none⟩::rest) E L:=.v (jb l ej au av a6 I) I I aM k
def oL{p:Nat}{β:Type}[ak β]{b:β}(j:Nat)(ej:bS c.P t β)(k:ag c ops Q rest ((a7,.of b)::E) L)(au:aU c E L x (.eq (.pointer (some ⟨p,0,none⟩))):=by exact ah I)
 (av:L[j]? =some ⟨some p,.var b⟩:=by rfl) (aM:Nat.blt a7 c.n=true:=by rfl):ag c ops Q (⟨some a7,.load t x,ty,pos,af,none⟩::rest) E L:=.v (jb (aQ.id β) ej au av I I) I I aM k
def acZ{p o:Nat}{β γ:Type}[ak β][ak γ]{b:β}{os:aa (Nat×bs)}(j:Nat)(l:aQ β γ)(ej:bS c.P t γ)(k:ag c ops Q rest ((a7,.of (l.get b))::E) L)(au:aU c E L x (.eq (.pointer (some ⟨p,o,none⟩))):=by exact ah I)
 (av:L[j]? =some ⟨some p,.cw b os⟩:=by rfl) (a6:o=l.off:=by rfl) (aY:vC os l.off (ak.size γ)=true:=by rfl) (aM:Nat.blt a7 c.n=true:=by rfl):ag c ops Q (⟨some a7,.load t x,ty,pos,af,none⟩::rest) E L:=.v (H0 l ej au av a6 I aY) I I aM k
def TA{s f o:Nat}{β γ:Type}[ak β][ak γ]{b:β}(l:aQ β γ)(fd:xo c.P s f o)(k:ag c ops Q rest ((a7,.ptr (l.get b))::E) L)(au:aU c E L x (.ptr b):=by exact ah I)(a6:l.off=o:=by rfl)(aM:Nat.blt a7 c.n=true:=by rfl):
 ag c ops Q (⟨some a7,.fieldAddr s x f,ty,pos,af,none⟩::rest) E L:=.v (tm l fd au a6 I) I I aM k
def BA{α:Type}[ak α][Inhabited α]{xs:aa α}{e:bK}{i:Int}{j:Nat}(hk:idx xs.length i=some j)(hu:c.P.underlying t=some (.slice e))(e4:bS c.P e α)(k:ag c ops Q rest ((a7,.ptr (ax xs j))::E) L)
 (au:aU c E L x (.of xs):=by exact ah I) (aT:aU c E L y (.of i):=by first|exact ah I|exact dd _) (aM:Nat.blt a7 c.n=true:=by rfl):
 ag c ops Q (⟨some a7,.indexAddr t x y,ty,pos,af,none⟩::rest) E L:=.v (tl hu e4 au aT (cK hk)) I I aM k
def Tv{b e:Bool}{p:Prop}(k:ag c ops Q rest ((a7,.of (b||e))::E) L)(au:aU c E L x (.of b):=by exact ah I)(aT:aU c E L y (.cond p (.of e)):=by exact ah I)(hp:b=false->p:=by exact λh=>h)(aM:Nat.blt a7 c.n=true:=by rfl):
 ag c ops Q (⟨some a7,.pick x (.const (.bool true)) y,ty,pos,af,none⟩::rest) E L:=.v (tu au aT hp) I I aM k
def ET{b e:Bool}{p:Prop}(k:ag c ops Q rest ((a7,.of (b&&e))::E) L)(au:aU c E L x (.of b):=by exact ah I)(aT:aU c E L y (.cond p (.of e)):=by exact ah I)(hp:b=true->p:=by exact λh=>h)(aM:Nat.blt a7 c.n=true:=by rfl):
 ag c ops Q (⟨some a7,.pick x y (.const (.bool false)),ty,pos,af,none⟩::rest) E L:=.v (wV au aT hp) I I aM k
def iU{τ:J}{j g:Nat}{b want:Bool}(h:b=want->bj c E L o τ)(k:ag c ops Q rest ((a7,.cond (b=want) τ)::E) L)(bz:o.guard=some (j,want):=by rfl)(aB:(ops[j]?).bind (·.dst)=some g:=by rfl)(al:look E g=some (.of b):=by rfl)
 (hd:o.dst=some a7:=by rfl) (aM:Nat.blt a7 c.n=true:=by rfl):ag c ops Q (o::rest) E L:=.g h bz aB al hd aM k
def jv{σ τ:J}{j g:Nat}{b want:Bool}(h:aU c E L x σ->bj c E L o τ)(k:ag c ops Q rest ((a7,.cond (b=want) τ)::E) L)
 (au:b=want->aU c E L x σ:=by first|exact λhb=>cf I hb|exact λ_=>ah I|exact λ_=>dd _|exact λ_=>iL _)
 (bz:o.guard=some (j,want):=by rfl) (aB:(ops[j]?).bind (·.dst)=some g:=by rfl) (al:look E g=some (.of b):=by rfl)
 (hd:o.dst=some a7:=by rfl) (aM:Nat.blt a7 c.n=true:=by rfl):ag c ops Q (o::rest) E L:=.g (λhb=>h (au hb)) bz aB al hd aM k
def Bz{σ pv τ:J}{j g:Nat}{b want:Bool}(h:aU c E L x σ->aU c E L y pv->bj c E L o τ)(k:ag c ops Q rest ((a7,.cond (b=want) τ)::E) L)
 (au:b=want->aU c E L x σ:=by first|exact λhb=>cf I hb|exact λ_=>ah I|exact λ_=>dd _|exact λ_=>iL _)
 (aT:b=want->aU c E L y pv:=by first|exact λhb=>cf I hb|exact λ_=>ah I|exact λ_=>dd _|exact λ_=>iL _)
 (bz:o.guard=some (j,want):=by rfl) (aB:(ops[j]?).bind (·.dst)=some g:=by rfl) (al:look E g=some (.of b):=by rfl)
 (hd:o.dst=some a7:=by rfl) (aM:Nat.blt a7 c.n=true:=by rfl):ag c ops Q (o::rest) E L:=.g (λhb=>h (au hb) (aT hb)) bz aB al hd aM k
def kH{α:Type}[ak α]{z:α}(hV:dE c.P t z)(k:∀p,ag c ops Q rest ((a7,.eq (.pointer (some ⟨p,0,none⟩)))::E) (⟨some p,.var z⟩::L))(aM:Nat.blt a7 c.n=true:=by rfl):
 ag c ops Q (⟨some a7,.alloc t,ty,pos,af,none⟩::rest) E L:=.alloc hV aM k
def mv{α:Type}[ak α]{z:α}(k:∀p,ag c ops Q rest ((a7,.eq (.pointer (some ⟨p,0,none⟩)))::E) (⟨some p,.var z⟩::L))(au:aU c E L x (.of z):=by first|exact ah I|exact dd _|exact iL _)(aM:Nat.blt a7 c.n=true:=by rfl):
 ag c ops Q (⟨some a7,.box t x,ty,pos,af,none⟩::rest) E L:=.box au aM k
def I8{p o:Nat}{β γ:Type}[ak β][ak γ]{b:β}{v:γ}(i:Nat)(l:aQ β γ)(ej:bS c.P t γ)(k:ag c ops Q rest E (L.set i ⟨some p,.var (l.set b v)⟩))(au:aU c E L x (.eq (.pointer (some ⟨p,o,none⟩))):=by exact ah I)
 (aT:aU c E L y (.of v):=by first|exact ah I|exact dd _|exact iL _|exact look_nil|exact iN _) (av:L[i]? =some ⟨some p,.var b⟩:=by rfl) (a6:o=l.off:=by rfl):
 ag c ops Q (⟨none,.store t x y,ty,pos,af,none⟩::rest) E L:=.store l ej au aT av a6 I k
def tD{p:Nat}{β:Type}[ak β]{b v:β}(i:Nat)(ej:bS c.P t β)(k:ag c ops Q rest E (L.set i ⟨some p,.var v⟩))(au:aU c E L x (.eq (.pointer (some ⟨p,0,none⟩))):=by exact ah I)
 (aT:aU c E L y (.of v):=by first|exact ah I|exact dd _|exact iL _|exact look_nil|exact iN _) (av:L[i]? =some ⟨some p,.var b⟩:=by rfl):
 ag c ops Q (⟨none,.store t x y,ty,pos,af,none⟩::rest) E L:=.store (aQ.id β) ej au aT av I I k
def I5{p o:Nat}{β γ:Type}[ak β][ak γ]{b b':β}{v:γ}(i:Nat)(l:aQ β γ)(ej:bS c.P t γ)(k:ag c ops Q rest E (L.set i ⟨some p,.var b'⟩))(au:aU c E L x (.eq (.pointer (some ⟨p,o,none⟩))):=by exact ah I)
 (aT:aU c E L y (.of v):=by first|exact ah I|exact dd _|exact iL _|exact look_nil|exact iN _) (av:L[i]? =some ⟨some p,.var b⟩:=by rfl) (a6:o=l.off:=by rfl) (hb:some (l.set b v)=some b'):
 ag c ops Q (⟨none,.store t x y,ty,pos,af,none⟩::rest) E L:=.store l ej au aT av a6 (dy hb) k
def qM{f:FuncId}{xs:aa cu}{ats:Array bK}{τs:aa J}{ρ:J}(ck:bJ c.P f)(h:dz c.P f τs ρ)(k:ag c ops Q rest ((a7,ρ)::E) L)
 (au:jr c E L xs τs:=by repeat (first|exact trivial|refine⟨ah I,?_⟩|refine⟨dd _,?_⟩|refine⟨iL _,?_⟩|refine⟨look_nil,?_⟩|refine⟨iN _,?_⟩)) (aM:Nat.blt a7 c.n=true:=by rfl):
 ag c ops Q (⟨some a7,.call ⟨.value (.func f),xs.toArray,ats⟩,ty,pos,af,none⟩::rest) E L:=.v (j4 ck h au) I I aM k
def eH{f:FuncId}{xs:aa cu}{ats:Array bK}{τs:aa J}{δ:Type}{ρ:δ->J}{Lo:δ->aa aK}(n:Nat)(ck:bJ c.P f)(h:bN c.P f τs (L.take n) ρ Lo)
 (k:∀q,ag c ops Q rest ((a7,ρ q)::E) (Lo q++L.drop n)) (au:jr c E L xs τs:=by repeat (first|exact trivial|refine⟨ah I,?_⟩|refine⟨dd _,?_⟩|refine⟨iL _,?_⟩|refine⟨look_nil,?_⟩|refine⟨ml,?_⟩|refine⟨iN _,?_⟩)) (aM:Nat.blt a7 c.n=true:=by rfl):
 ag c ops Q (⟨some a7,.call ⟨.value (.func f),xs.toArray,ats⟩,ty,pos,af,none⟩::rest) E L:=by
 have e:=gz n L
 have:=ag.lK (ty:=ty) (pos:=pos) (af:=af) (ats:=ats) (xs:=xs) (Lin:=L.take n) (Lr:=L.drop n) (E:=E) (Q:=Q) (ops:=ops) ck h (by rw[e];exact au) aM k
 rwa[e]at this
def iQ{α:Type}[ak α]{e bytes cap:Nat}{key:aD Nat}{xs ys r:aa α}{z:α}(j:Nat)(hu:c.P.underlying t=some (.slice e))(e4:bS c.P e α)(hV:dE c.P e z)(h:eM bytes xs ys=some r)
 (k:∀uB cap',ag c ops Q rest ((a7,.eq (aP uB r.length cap'))::E) (L.set j ⟨uB,.row e r cap'⟩)) (BK:(c.P.info? e).map (·.bytes)=some bytes:=by kernel_rfl)
 (hs:aU c E L x (.eq (aP key xs.length cap)):=by first|exact ah I|exact ml) (av:L[j]? =some ⟨key,.row e xs cap⟩:=by rfl) (aT:aU c E L y (.of ys):=by exact ah I) (aM:Nat.blt a7 c.n=true:=by rfl):
 ag c ops Q (⟨some a7,.call ⟨.builtin .append,#[x,y],#[t,t]⟩,ty,pos,af,none⟩::rest) E L:=.app hu e4 hV BK hs av aT h aM k
def ss{place:Nat->aD (Nat×Nat)}{β:Type}[ak β]{b b':β}{γ:Type}[ak γ]{v:γ}{i:Nat}{r:aa (Nat×cu)}(l:aQ β γ)(k:uw c E L place (l.set b v) r b')
 (hp:place i=some (l.off,ak.size γ):=by rfl) (au:aU c E L x (.of v):=by first|exact ah I|exact dd _|exact iL _|exact look_nil|exact iN _):uw c E L place b ((i,x)::r) b':=.cons l hp au I k
def uG{β:Type}[ak β]{z b:β}{et:aa (Nat×cu)}{pl:Array (Nat×Nat)}(J5:gF c.P t pl)(hV:dE c.P t z)(zs:β)(aW:uw c E L (pl[·]?) z et b)(k:ag c ops Q rest ((a7,.of zs)::E) L)(aY:ak.agg β=true:=by rfl)(hb:b=zs:=by rfl)(aM:Nat.blt a7 c.n=true:=by rfl):
 ag c ops Q (⟨some a7,.build t et.toArray,ty,pos,af,none⟩::rest) E L:=.v ((kC aY J5 hV aW).q1 hb) I I aM k
def asi{α:Type}[ak α]{e n:Nat}{z:α}{et:aa (Nat×cu)}(r:aa α)(hu:c.P.underlying t=some (.slice e))(e4:bS c.P e α)(hV:dE c.P e z)(k:ag c ops Q rest ((a7,.of r)::E) L)
 (aW:qC c E L (List.replicate n z) et r:=by repeat (first|exact qC.nil|refine qC.cons (by simp) (ah I) ?_|refine qC.cons (by simp) (dd _) ?_|refine qC.cons (by simp) (iL _) ?_|refine qC.cons (by simp) (iN _) ?_))
 (hs:Nat.beq (ak.size α) 0=false:=by rfl) (pr:Nat.ble (n*ak.size α) 16777216=true:=by rfl) (aM:Nat.blt a7 c.n=true:=by rfl):
 ag c ops Q (⟨some a7,.buildSlice t n et.toArray,ty,pos,af,none⟩::rest) E L:=.v (yz hu e4 hV hs pr aW) I I aM k
inductive kx(E:List (Nat×J)):List Nat->List (Nat×J)->Prop
 |nil:kx E [] []
 |cons {t:Nat} {dB:List Nat} {τ:J} {ji:List (Nat×J)}:look E t=some τ->kx E dB ji->kx E (t::dB) ((t,τ)::ji)
def kx.le:∀{dB:aa Nat} {fT:aa (Nat×J)},kx E dB fT->fP E fT
 |_,_,.nil=>.nil
 |_,_,.cons h k=>.same h k.le
def er{code:Code}{fT:aa (Nat×J)}(dB:aa Nat)(k:ay c Q code fT L)(aF:kx E dB fT:=by repeat (first|exact kx.nil|(apply kx.cons;rfl))):ay c Q code E L:=.le aF.le k
def dU{z:Exit}{E':aa (Nat×J)}{L':aa aK}(n:Nat)(k:an c Q z E' L')(av:L.drop n=L':=by rfl)(h:fP E E':=by repeat (first|exact fP.nil|refine fP.same I ?_)):an c Q z E L:=.meet n av h k
def hi{σ ε γ δ:Type}{E':σ->γ->aa (Nat×J)}{L':σ->γ->aa aK}{xs:ε->Exit}{ib:ε->δ->aa (Nat×J)}{Lx:ε->δ->aa aK}{s:σ}(g:γ)(n:Nat)(av:L.drop n=L' s g:=by rfl)
 (h:fP E (E' s g):=by repeat (first|exact fP.nil|refine fP.same I ?_)):an c (eO c E' L' xs ib Lx (.inl s)) .normal E L:=.alV g n av h
def gu{σ ε γ δ:Type}{E':σ->γ->aa (Nat×J)}{L':σ->γ->aa aK}{xs:ε->Exit}{ib:ε->δ->aa (Nat×J)}{Lx:ε->δ->aa aK}{e:ε}{z:Exit}(g:δ)(n:Nat)(au:z=xs e:=by rfl)(aM:z≠ .normal:=by simp)(av:L.drop n=Lx e g:=by rfl)
 (h:fP E (ib e g):=by repeat (first|exact fP.nil|refine fP.same I ?_)):an c (eO c E' L' xs ib Lx (.inr e)) z E L:=.alW g n au aM av h
def EW{t:Nat}{p:Nat}{α:Type}[ak α]{v:α}(i:Nat)(ej:bS c.P ty α)(h:look E t=some (.eq (.pointer (some ⟨p,0,none⟩))):=by rfl)(av:L[i]? =some ⟨some p,.var v⟩:=by rfl):q3 c E L (.cell t ty) (.of v):=acm ej h av
def uH{fn:Func}{t:Nat}{τ:J}(aG:fn.results= #[.tmp t]:=by rfl)(h:look E t=some τ:=by rfl)(e1:c.ds=[]:=by rfl):an c (bodyPost c.P fn (vM c τ)) .ret E L:=.SN aG (IK h) e1
def sr{fn:Func}{t:Nat}{τ:J}{δ:Type}{ρ:δ->J}{Lo:δ->aa aK}(a7:δ)(hs:(Lo a7).Sublist L:=by repeat (first|exact q9 _|refine List.Sublist.cons_cons _ ?_))(aG:fn.results= #[.tmp t]:=by rfl)(h:look E t=some τ:=by rfl)(sA:ρ a7=τ:=by rfl)(e1:c.ds=[]:=by rfl):
 an c (bodyPost c.P fn (k3 c.X c.b8 c.kc ρ Lo)) .ret E L:=.eG a7 hs aG sA (du h) e1
def jg:aa aK->aa (Nat×aK)->aa aK
 |L,[]=>L
 |L,(i,e)::r=>jg (L.set i e) r
inductive u6:List aK->List aK->Prop
 |nil:u6 [] []
 |cons {e:aK} {r s:List aK}:u6 r s->u6 (e::r) (e::s)
def u6.eq:∀{l m:aa aK},u6 l m->l=m
 |_,_,.nil=>rfl
 |_,_,.cons h=>by rw[h.eq]
def fh{σ ε γ δ:Type}{body:Code}{N:Nat}{b:σ->aD (σ⊕ε)}{b9:σ}{e:ε}{fT:aa (Nat×J)}{gi:aa aK}(al:c8 N b b9=some e)(dB:aa Nat)(u:σ->γ->aa (Nat×J))(ul:σ->γ->aa (Nat×aK))(xs:ε->Exit)
 (u7:ε->δ->aa (Nat×J)) (uR:ε->δ->aa (Nat×aK)) (g0:γ)
 (ux:∀s r,b s=some r->∀g,ay c (eO c (λs g=>u s g++fT) (λs g=>jg gi (ul s g)) xs (λe d=>u7 e d++fT) (λe d=>jg gi (uR e d)) r) body (u s g++fT) (jg gi (ul s g)))
 (qB:∀g,an c Q (xs e) (u7 e g++fT) (jg gi (uR e g)))
 (BQ:u6 L gi:=by repeat (first|exact u6.nil|apply u6.cons))
 (Js:kx E dB fT:=by repeat (first|exact kx.nil|(apply kx.cons;rfl))) (aF:fP E (u b9 g0++fT):=by repeat (first|exact fP.nil|refine fP.same I ?_)) (av:gi=jg gi (ul b9 g0):=by rfl):ay c Q (.loop body) E L:=
 ay.MT al (λs g=>u s g++fT) (λs g=>jg gi (ul s g)) xs (λe d=>u7 e d++fT) (λe d=>jg gi (uR e d)) g0 (BQ.eq.trans av) aF ux qB
def il{γ:Type}{b:Bool}{y z:Code}{fT:aa (Nat×J)}{gi:aa aK}(dB:aa Nat)(u:γ->aa (Nat×J))(ul:γ->aa (Nat×aK))(oU:∀g,an c Q .normal (u g++fT) (jg gi (ul g)))
 (bD:(∀g,an c (ea Q) .normal (u g++fT) (jg gi (ul g)))->b=true->ay c (ea Q) y E gi) (aW:(∀g,an c (ea Q) .normal (u g++fT) (jg gi (ul g)))->b=false->ay c (ea Q) z E gi)
 (BQ:u6 L gi:=by repeat (first|exact u6.nil|apply u6.cons))
 (Js:kx E dB fT:=by repeat (first|exact kx.nil|(apply kx.cons;rfl))) (al:aU c E gi x (.of b):=by first|exact ah I|exact iL _):ay c Q (.cond x y z) E L:=by
 cases BQ.eq
 exact ay.bV (λg=>u g++fT) (λg=>jg L (ul g)) al oU bD aW
section
variable{all:aa u3}{w:Nat->Bool}
def ey{τ:J}{hyp:aa aK->Prop}(au:∀L',aU c E L' x τ:=by first|exact λ_=>ah I|exact λ_=>dd _|exact λ_=>iL _|exact λ_=>iN _):∀L',hyp L'->ia c ops E L' ⟨some a7,.move x,ty,pos,af,none⟩ τ:=λL' _=>.v (cY (au L')) I
def H1{σ τ:J}{hyp:aa aK->Prop}(h:∀{L'},aU c E L' x σ->bj c E L' o τ)(bz:o.guard=none:=by rfl)(au:∀L',aU c E L' x σ:=by first|exact λ_=>ah I|exact λ_=>dd _|exact λ_=>iL _|exact λ_=>iN _):
 ∀L',hyp L'->ia c ops E L' o τ:=λL' _=>.v (h (au L')) bz
def lC{σ pv τ:J}{hyp:aa aK->Prop}(h:∀{L'},aU c E L' x σ->aU c E L' y pv->bj c E L' o τ)(bz:o.guard=none:=by rfl)(au:∀L',aU c E L' x σ:=by first|exact λ_=>ah I|exact λ_=>dd _|exact λ_=>iL _|exact λ_=>iN _)
 (aT:∀L',aU c E L' y pv:=by first|exact λ_=>ah I|exact λ_=>dd _|exact λ_=>iL _|exact λ_=>iN _):∀L',hyp L'->ia c ops E L' o τ:=λL' _=>.v (h (au L') (aT L')) bz
def iR{p o:Nat}{β γ:Type}[ak β][ak γ]{b:β}(i:Nat)(l:aQ β γ)(ej:bS c.P t γ)(au:∀L',aU c E L' x (.eq (.pointer (some ⟨p,o,none⟩))):=by exact λ_=>ah I)(av:L[i]? =some ⟨some p,.var b⟩:=by rfl)(a6:o=l.off:=by rfl)
 (hu:vH w i 0 all=true:=by first|rfl|kernel_rfl):∀L':aa aK,(∀(j:Nat) (e:aK),L[j]? =some e->vH w j 0 all=true->L'[j]? =some e)->ia c ops E L' ⟨some a7,.load t x,ty,pos,af,none⟩ (.of (l.get b)):=
 λL' BR=>.v (jb l ej (au L') (BR _ _ av hu) a6 I) I
def rK{p:Nat}{β:Type}[ak β]{b:β}(i:Nat)(ej:bS c.P t β)(au:∀L',aU c E L' x (.eq (.pointer (some ⟨p,0,none⟩))):=by exact λ_=>ah I)(av:L[i]? =some ⟨some p,.var b⟩:=by rfl)
 (hu:vH w i 0 all=true:=by first|rfl|kernel_rfl):∀L':aa aK,(∀(j:Nat) (e:aK),L[j]? =some e->vH w j 0 all=true->L'[j]? =some e)->ia c ops E L' ⟨some a7,.load t x,ty,pos,af,none⟩ (.of b):=
 λL' BR=>.v (jb (aQ.id β) ej (au L') (BR _ _ av hu) I I) I
def mY{f:FuncId}{xs:aa cu}{ats:Array bK}{τs:aa J}{ρ:J}{hyp:aa aK->Prop}(ck:bJ c.P f)(h:dz c.P f τs ρ)
 (au:∀L',jr c E L' xs τs:=by intro L';repeat (first|exact trivial|refine⟨ah I,?_⟩|refine⟨dd _,?_⟩|refine⟨iL _,?_⟩|refine⟨look_nil,?_⟩|refine⟨iN _,?_⟩)):
 ∀L',hyp L'->ia c ops E L' ⟨some a7,.call ⟨.value (.func f),xs.toArray,ats⟩,ty,pos,af,none⟩ ρ:=λL' _=>.v (j4 ck h (au L')) I
def Jb{α:Type}[ak α][Inhabited α]{xs:aa α}{e:bK}{i:Int}{j:Nat}{hyp:aa aK->Prop}(hk:idx xs.length i=some j)(hu:c.P.underlying t=some (.slice e))(e4:bS c.P e α)
 (au:∀L',aU c E L' x (.of xs):=by exact λ_=>ah I) (aT:∀L',aU c E L' y (.of i):=by first|exact λ_=>ah I|exact λ_=>dd _):
 ∀L',hyp L'->ia c ops E L' ⟨some a7,.indexAddr t x y,ty,pos,af,none⟩ (.ptr (ax xs j)):=λL' _=>.v (tl hu e4 (au L') (aT L') (cK hk)) I
def BG{s f o:Nat}{β γ:Type}[ak β][ak γ]{b:β}{hyp:aa aK->Prop}(l:aQ β γ)(fd:xo c.P s f o)(au:∀L',aU c E L' x (.ptr b):=by exact λ_=>ah I)(a6:l.off=o:=by rfl):
 ∀L',hyp L'->ia c ops E L' ⟨some a7,.fieldAddr s x f,ty,pos,af,none⟩ (.ptr (l.get b)):=λL' _=>.v (tm l fd (au L') a6 I) I
def sH{α:Type}[ak α]{a b:α}{hyp:aa aK->Prop}(e:some a=some b)(h:∀L',hyp L'->bj c E L' o (.of a))(bz:o.guard=none:=by rfl):∀L',hyp L'->ia c ops E L' o (.of b):=λL' av=>.v ((h L' av).q1 (dy e)) bz
def adb{i:Nat}{τs:aa J}{τ:J}{hyp:aa aK->Prop}(au:∀L',aU c E L' x (.bT τs):=by exact λ_=>ah I)(aq:τs[i]? =some τ:=by rfl):∀L',hyp L'->ia c ops E L' ⟨some a7,.extract x i,ty,pos,af,none⟩ τ:=λL' _=>.v (Sx (au L') aq) I
def dI{τ:J}{j g:Nat}{b want:Bool}{hyp:aa aK->Prop}(h:∀L',hyp L'->b=want->bj c E L' o τ)(bz:o.guard=some (j,want):=by rfl)(aB:(ops[j]?).bind (·.dst)=some g:=by rfl)(al:look E g=some (.of b):=by rfl):
 ∀L',hyp L'->ia c ops E L' o (.cond (b=want) τ):=λL' av=>.g (h L' av) bz aB al
end
def aC(s:Nat)(up rd:aa Nat)(τ:J):dX:=⟨some s,up,rd,[],λ_=>τ,λ_ _=>⟨none,.dead⟩⟩
section
variable{hs:aa dX}{i:Nat}{up rd:aa Nat}
def iY{τ:J}(au:∀(hd:Nat->Hid) (E':aa (Nat×J)) (L':aa aK),(∀t τ,look (kL hd hs E up) t=some τ->look E' t=some τ)->aU c E' L' x τ:=by first|exact λ_ _ _ aF=>ah (aF _ _ I)|exact λ_ _ _ _=>dd _|exact λ_ _ _ _=>iL _|exact λ_ _ _ _=>iN _)
 (aM:Nat.blt a7 c.n=true:=by rfl):gX c ops Q hs E L i ⟨some a7,.move x,ty,pos,af,none⟩ (aC a7 up rd τ):=km I I aM λhd E' L' aF _=>cY (au hd E' L' aF)
def hU{σ τ:J}(h:∀{E' L'},aU c E' L' x σ->bj c E' L' o τ)(bz:o.guard=none:=by rfl)(hd:o.dst=some a7:=by rfl)
 (au:∀(hd:Nat->Hid) (E':aa (Nat×J)) (L':aa aK),(∀t τ,look (kL hd hs E up) t=some τ->look E' t=some τ)->aU c E' L' x σ:=by first|exact λ_ _ _ aF=>ah (aF _ _ I)|exact λ_ _ _ _=>dd _|exact λ_ _ _ _=>iL _|exact λ_ _ _ _=>iN _)
 (aM:Nat.blt a7 c.n=true:=by rfl):gX c ops Q hs E L i o (aC a7 up rd τ):=km bz hd aM λhd E' L' aF _=>h (au hd E' L' aF)
def N8{σ pv τ:J}(h:∀{E' L'},aU c E' L' x σ->aU c E' L' y pv->bj c E' L' o τ)(bz:o.guard=none:=by rfl)(hd:o.dst=some a7:=by rfl)
 (au:∀(hd:Nat->Hid) (E':aa (Nat×J)) (L':aa aK),(∀t τ,look (kL hd hs E up) t=some τ->look E' t=some τ)->aU c E' L' x σ:=by first|exact λ_ _ _ aF=>ah (aF _ _ I)|exact λ_ _ _ _=>dd _|exact λ_ _ _ _=>iL _|exact λ_ _ _ _=>iN _)
 (aT:∀(hd:Nat->Hid) (E':aa (Nat×J)) (L':aa aK),(∀t τ,look (kL hd hs E up) t=some τ->look E' t=some τ)->aU c E' L' y pv:=by first|exact λ_ _ _ aF=>ah (aF _ _ I)|exact λ_ _ _ _=>dd _|exact λ_ _ _ _=>iL _|exact λ_ _ _ _=>iN _)
 (aM:Nat.blt a7 c.n=true:=by rfl):gX c ops Q hs E L i o (aC a7 up rd τ):=km bz hd aM λhd E' L' aF _=>h (au hd E' L' aF) (aT hd E' L' aF)
def rL{p o:Nat}{β γ:Type}[ak β][ak γ]{b:β}(k:Nat)(l:aQ β γ)(ej:bS c.P t γ)
 (au:∀(hd:Nat->Hid) (E':aa (Nat×J)) (L':aa aK),(∀t τ,look (kL hd hs E up) t=some τ->look E' t=some τ)->aU c E' L' x (.eq (.pointer (some ⟨p,o,none⟩))):=by exact λ_ _ _ aF=>ah (aF _ _ I))
 (av:∀hd:Nat->Hid,(hI (λ_=>true) hd 0 (hs.take i) L)[k]? =some ⟨some p,.var b⟩:=by exact λ_=>rfl) (aG:rd.contains k=true:=by rfl) (a6:o=l.off:=by rfl)
 (aM:Nat.blt a7 c.n=true:=by rfl):gX c ops Q hs E L i ⟨some a7,.load t x,ty,pos,af,none⟩ (aC a7 up rd (.of (l.get b))):=km I I aM λhd E' L' aF BR=>jb l ej (au hd E' L' aF) (BR _ _ (av hd) aG) a6 I
def xi{p:Nat}{β:Type}[ak β]{b:β}(k:Nat)(ej:bS c.P t β)
 (au:∀(hd:Nat->Hid) (E':aa (Nat×J)) (L':aa aK),(∀t τ,look (kL hd hs E up) t=some τ->look E' t=some τ)->aU c E' L' x (.eq (.pointer (some ⟨p,0,none⟩))):=by exact λ_ _ _ aF=>ah (aF _ _ I))
 (av:∀hd:Nat->Hid,(hI (λ_=>true) hd 0 (hs.take i) L)[k]? =some ⟨some p,.var b⟩:=by exact λ_=>rfl) (aG:rd.contains k=true:=by rfl)
 (aM:Nat.blt a7 c.n=true:=by rfl):gX c ops Q hs E L i ⟨some a7,.load t x,ty,pos,af,none⟩ (aC a7 up rd (.of b)):=km I I aM λhd E' L' aF BR=>jb (aQ.id β) ej (au hd E' L' aF) (BR _ _ (av hd) aG) I I
def qg{τ:J}(h:∀(hd:Nat->Hid) (E':aa (Nat×J)) (L':aa aK),(∀t τ,look (kL hd hs E up) t=some τ->look E' t=some τ)->(∀j e,(hI (λ_=>true) hd 0 (hs.take i) L)[j]? =some e->rd.contains j=true->L'[j]? =some e)->bj c E' L' o τ)
 (bz:o.guard=none:=by rfl) (hd:o.dst=some a7:=by rfl) (aM:Nat.blt a7 c.n=true:=by rfl):gX c ops Q hs E L i o (aC a7 up rd τ):=km bz hd aM h
end
end
def LQ{F:Fence}{n r1:Nat}{P:Program}{code:Code}{Q:Exit->Act->bn->Prop}{a:Act}{W:bn}(hd:F.depth=none)(h:code.wpIn F n P Q a W):code.wpIn F r1 P Q a W:=
 λb k cs k9 hb _=>h b k cs k9 hb (λd hd'=>by rw[hd]at hd';cases hd')
def e3.is(o:Obj):e3 where
 holds _ _ x:=x=o
 pU:=False
 mono _ h:=h
abbrev e3.fI:e3:=.is (.deferred (some []))
def J.lx(f:FuncId)(τs:aa J):J where
 holds A W v:=∃fQ:aa bs,v=.func (.func f) #[] fQ.toArray∧hN A W τs fQ
 mono e h:=let⟨fQ,h1,ad⟩:=h; ⟨fQ,h1,ad.mono e⟩
def bO.uC{c E L a W}(h:bO c E L a W){i p:Nat}{cp cp':e3}(aq:L[i]? =some ⟨some p,cp⟩){o':Obj}(ae:cp'.holds (ks L++c.b8) W o'):
 bO c E (L.set i ⟨some p,cp'⟩) a (W.putObj p o'):=by
 have ho:ks (L.set i ⟨some p,cp'⟩)=ks L:=Mz (cp:=cp') aq
 have hp:p∈ks L:=tc.2 ⟨_,fB aq,rfl⟩
 have je:Ext (ks L++c.b8) W (ks L++c.b8) (W.putObj p o'):=
  ⟨by simp,λk _ aY=>Ow (λe=>aY (e▸cF.2 (.inl hp))),λ_ h _=>h⟩
 exact
 {defers:=h.defers
  size:=h.size
  env:=λt τ al=>by rw[ho];exact let⟨v,h1,ad⟩:=h.env t τ al; ⟨v,h1,τ.mono je ad⟩
  ef:=⟨h.ef.os,h.ef.tape,h.ef.output,h.ef.drawn,by simpa using h.ef.size,λk hk au=>by
   rw[Ow (λe:k=p=>au (by subst e;exact h.hg _ hp hk))];exact h.ef.block k hk au⟩
  own:=λe he=>by
   rw[ho];obtain⟨j,aB⟩:=o3.1 he;rw[qm]at aB;split at aB
   ·rename_i gf;subst gf;split at aB
    ·simp only[gk]at aB;subst aB;exact⟨_,World.putObj_heap_same (h.lt p hp),cp'.mono je ae⟩
    cases aB
   rename_i gf;have h1:=h.own e (fB aB);unfold aK.ok at *;split at h1
   ·rename_i q hq;obtain⟨o',qS,bW⟩:=h1;have df:q≠p:=λe'=>gf (RJ h.nodup aq aB I (e'▸hq));exact⟨o',by rw[Ow df];exact qS,e3.mono _ je bW⟩
   exact h1
  nodup:=by rw[ho];exact h.nodup
  lt:=by rw[ho];simpa using h.lt
  hg:=by rw[ho];exact h.hg
  fi:=by rw[ho];simpa using h.fi}
def Ip{c:cM}{E:aa (Nat×J)}{L:aa aK}{d:aD Tmp}{ty:bK}{pos:String}{af:Array Edge}{g:aD (Nat×Bool)}{f:FuncId}{xs:aa cu}{τs:aa J}(au:jr c E L xs τs):
 bj c E L ⟨d,.makeFunc (.func f) #[] xs.toArray,ty,pos,af,g⟩ (.lx f τs):=.pure λa W s=>
 ⟨.func (.func f) #[] (xs.map a.eval).toArray,by simp[execOp,Instr.makeFunc],_,rfl,au.holds a W s⟩
structure EJ(A:List Nat)(W:World)(L:List aK):Prop where
 fi:∀k∈A,k<W.heap.size∧k∉ks L
 nodup:(ks L).Nodup
 lt:∀k∈ks L,k<W.heap.size
 ok:∀e∈L,e.ok (ks L++A) W
def BS(P:Program)(u:bs){α σ ε γ:Type}(τ:α->J)(Ls:σ->γ->aa aK)(Lx:ε->γ->aa aK)(step:α->σ->aD (σ⊕ε))(R:aa Nat->bn->Prop):Prop:=
 ∃ l,u=.func (.yield l) #[] #[]∧∀x s r,step x s=some r->∀g A W v,R (ks (Ls s g)++A) W->EJ A W (Ls s g)->(τ x).holds (ks (Ls s g)++A) W v->
   YieldAt Fence.wide 8 P l #[v] W (match r with
    | .inl cq=>k3 (ks (Ls s g)) A W (λ_:γ=>J.of true) (λg=>Ls cq g)
    | .inr q=>k3 (ks (Ls s g)) A W (λ_:γ=>J.of false) (λg=>Lx q g))
def Lr{σ ε γ:Type}(Ls:σ->γ->aa aK)(Lx:ε->γ->aa aK):σ⊕ε->γ->aa aK
 | .inl s,g=>Ls s g
 | .inr q,g=>Lx q g
structure Ih(P:Program)(f:FuncId)(τs:List J)(Lin:List aK){α:Type}(τ:α->J)(run:∀{σ ε:Type},(α->σ->Option (σ⊕ε))->σ->Option (σ⊕ε)):Prop where
 go:∀{σ ε γ:Type} (Ls:σ->γ->List aK) (Lx:ε->γ->List aK) (step:α->σ->Option (σ⊕ε)) (b9:σ) (g0:γ) (r:σ⊕ε),run step b9=some r->
  ∀ (A:List Nat) (W:World) (u:Value) (vs:List Value),EJ A W (Lin++Ls b9 g0)->hN (ks (Lin++Ls b9 g0)++A) W τs vs->
    BS P u τ Ls Lx step (λcU W'=>Ext (ks (Lin++Ls b9 g0)++A) W cU W')->
    Calls P f (u::vs).toArray W (k3 (ks (Lin++Ls b9 g0)) A W (λ_:γ=>.bT []) (λg=>Lin++Lr Ls Lx r g))
def Ih.of{P:Program}{f:FuncId}{fn:Func}{code:Code}{n:Nat}{τs:aa J}{Lin:aa aK}{α:Type}{τ:α->J}{run:∀{σ ε:Type},(α->σ->aD (σ⊕ε))->σ->aD (σ⊕ε)}
 (aW:P.funcs[f]? =some fn) (hb:fn.body=some code) (aM:fn.ntmps=n) (hlen:Nat.ble (τs.length+1) n=true)
 (h:∀{σ ε γ:Type} (Ls:σ->γ->aa aK) (Lx:ε->γ->aa aK) (step:α->σ->aD (σ⊕ε)) (b9:σ) (g0:γ) (r:σ⊕ε),run step b9=some r->
  ∀ W A u,BS P u τ Ls Lx step (λcU W'=>Ext (ks (Lin++Ls b9 g0)++A) W cU W')->
    ay ⟨P,n,W,ks (Lin++Ls b9 g0),A,none,[]⟩ (bodyPost P fn (k3 (ks (Lin++Ls b9 g0)) A W (λ_:γ=>.bT []) (λg=>Lin++Lr Ls Lx r g))) code (params 0 (.eq u::τs)) (Lin++Ls b9 g0)):Ih P f τs Lin τ run:=by
 refine⟨?_⟩
 intro σ ε γ Ls Lx step b9 g0 r aG A W u vs al bb aT
 refine G5 aW hb (wpIn_wide.1 (h Ls Lx step b9 g0 r aG W A u aT _ _ ?_))
 have p9:hN (ks (Lin++Ls b9 g0)++A) W (.eq u::τs) (u::vs):=.cons I bb
 have kK:=p9.length
 have hle:τs.length+1<=n:=pI hlen
 exact
 {defers:=rfl
  size:=by simp at kK;simp[aM,kK];omega
  env:=λt τ fo=>by
   obtain⟨_,v,ad,az⟩:=Ax p9 0 t τ fo;refine⟨v,?_,az⟩;have ca:t<(u::vs).length:=(iu.1 ad).1;rw[wh (by simpa using ca)];simpa using ad
  ef:=.refl _ _
  own:=al.ok
  nodup:=al.nodup
  lt:=al.lt
  hg:=λk hk _=>hk
  fi:=al.fi}
section
variable{c:cM}{E:aa (Nat×J)}{L:aa aK}{ops:Array Oper}{Q:Exit->Act->bn->Prop}
variable{d:aD Tmp}{ty:bK}{pos:String}{af:Array Edge}{g:aD (Nat×Bool)}{x y:cu}{t t2:bK}
def bO.aa2{a:Act}{W:bn}(s:bO c E L a W):Ext (c.X++c.b8) c.kc (ks L++c.b8) W:=
 ⟨s.ef.size,λk hk aY=>s.ef.block k hk λau=>aY (cF.2 (.inl au)),λk hm ca=>by
   rcases cF.1 hm with hm|hm
   ·exact cF.2 (.inl (s.hg k hm ca))
   exact cF.2 (.inr hm)⟩
def bO.Nl{a:Act}{W:bn}{Lin Lr:aa aK}(s:bO c E (Lin++Lr) a W):EJ (ks Lr++c.b8) W Lin:=by
 have nB:=s.nodup;rw[fM]at nB;obtain⟨pt,uQ,sB⟩:=q8.1 nB;exact
 {fi:=λk hm=>by
   rcases cF.1 hm with hm|hm
   ·exact⟨s.lt k (by rw[fM];exact cF.2 (.inr hm)),λh=>sB k h k hm I⟩
   obtain⟨h1,ad⟩:=s.fi k hm;exact⟨h1,λh=>ad (by rw[fM];exact cF.2 (.inl h))⟩
  nodup:=pt
  lt:=λk hm=>s.lt k (by rw[fM];exact cF.2 (.inl hm))
  ok:=λe he=>aK.wL (s.own e (cF.2 (.inl he))) (.drop λk hm=>by
   rw[fM];simp only[cF]at hm⊢;rcases hm with hm|hm|hm
   ·exact .inl (.inl hm)
   ·exact .inl (.inr hm)
   exact .inr hm) λ_ _=>rfl}
def D2{Lin Lr:aa aK}{A:aa Nat}{W:bn}:Ext (ks (Lin++Lr)++A) W (ks Lin++(ks Lr++A)) W:=.drop λk hm=>by
 rw[fM];simp only[cF]at hm⊢;rcases hm with hm|hm|hm
 ·exact .inl (.inl hm)
 ·exact .inl (.inr hm)
 exact .inr hm
def L0{Lin Lr:aa aK}{A:aa Nat}{W:bn}:Ext (ks Lin++(ks Lr++A)) W (ks (Lin++Lr)++A) W:=.drop λk hm=>by
 rw[fM]at hm;simp only[cF]at hm⊢;rcases hm with(hm|hm)|hm
 ·exact .inl hm
 ·exact .inr (.inl hm)
 exact .inr (.inr hm)
def ag.yield{rest:aa Oper}{a7 nO:Nat}{ats:Array bK}{u:bs}{α σ ε γ:Type}{τ:α->J}{Ls:σ->γ->aa aK}{Lx:ε->γ->aa aK}{step:α->σ->aD (σ⊕ε)}{Lin:aa aK}{x:cu}{v:α}{s:σ}{gg:γ}{r:σ⊕ε}
 (ae:c.rd=none) (aT:BS c.P u τ Ls Lx step (λcU W'=>Ext (c.X++c.b8) c.kc cU W')) (aW:look E nO=some (.eq u)) (au:aU c E (Lin++Ls s gg) x (τ v)) (aG:step v s=some r) (aM:Nat.blt a7 c.n=true)
 (aI:∀cq,r=.inl cq->∀ed,ag c ops Q rest ((a7,.of true)::E) (Lin++Ls cq ed)) (bu:∀q,r=.inr q->∀ed,ag c ops Q rest ((a7,.of false)::E) (Lin++Lx q ed)):
 ag c ops Q (⟨some a7,.call ⟨.value (.tmp nO),#[x],ats⟩,ty,pos,af,none⟩::rest) E (Lin++Ls s gg):=λa W st=>by
 obtain⟨l,rfl,aT⟩:=aT
 obtain⟨UJ,h1,ad⟩:=st.env nO _ aW
 have hu:UJ=.func (.yield l) #[] #[]:=ad
 subst hu
 have uS:bO c E (Ls s gg++Lin) a W:=st.perm nR
 have bb:=au a W st
 have p9:(τ v).holds (ks (Ls s gg)++(ks Lin++c.b8)) W (a.eval x):=(τ v).mono (.drop λk hm=>by
  rw[fM];simp only[cF]at hm⊢;rcases hm with hm|hm|hm
  ·exact .inl (.inr hm)
  ·exact .inl (.inl hm)
  exact .inr hm) bb
 obtain⟨fn,tmps,assign,body,kG,hJ⟩:=aT v s r aG gg (ks Lin++c.b8) W (a.eval x) (uS.aa2.trans D2) uS.Nl p9
 have Sy:(execOp a.eval ⟨some a7,.call ⟨.value (.tmp nO),#[x],ats⟩,ty,pos,af,none⟩).run c.P W=.ok (.round l fn tmps assign body) W:=by
  rw[<-kG];simp[execOp,resolve,Deferred.ofValue,Act.eval,h1,invoke,eg,Sem.run_pure,Result.andThen]
 refine wpListIn_plain I λK tT=>?_
 refine⟨λ_ _=>trivial,?_⟩
 rw[Pn _ _ _ (λ_ h=>by cases h),Sy,Oper.uponIn_round]
 refine⟨λh=>by simp at h,?_⟩
 have TR:RoundIn c.F (9-1) c.P l fn tmps assign body W _:=hJ
 refine TR.mono λe W' he=>?_
 cases r with
 | inl cq=>
   obtain⟨w,ed,rfl,uT,az,aV,bc,bq⟩:=he
   obtain rfl:=of_bool.1 bq
   refine tT _ _ (aI cq I ed _ _ ?_)
   exact(((uS.after uT az aV bc).perm nR).put (by simpa using aM) (of_bool.2 I))
 | inr q=>
   obtain⟨w,ed,rfl,uT,az,aV,bc,bq⟩:=he
   obtain rfl:=of_bool.1 bq
   refine tT _ _ (bu q I ed _ _ ?_)
   exact(((uS.after uT az aV bc).perm nR).put (by simpa using aM) (of_bool.2 I))
def ag.alA{rest:aa Oper}{a7 nO j gt:Nat}{b:Bool}{ats:Array bK}{u:bs}{α σ ε γ:Type}{τ:α->J}{Ls:σ->γ->aa aK}{Lx:ε->γ->aa aK}{step:α->σ->aD (σ⊕ε)}{Lin:aa aK}{x:cu}{v:α}{s:σ}{gg:γ}{r:σ⊕ε}
 (ae:c.rd=none) (aT:BS c.P u τ Ls Lx step (λcU W'=>Ext (c.X++c.b8) c.kc cU W')) (hb:b=true) (aB:(ops[j]?).bind (·.dst)=some gt) (al:look E gt=some (.of b)) (aW:look E nO=some (.cond (b=true) (.eq u))) (au:aU c E (Lin++Ls s gg) x (τ v)) (aG:step v s=some r) (aM:Nat.blt a7 c.n=true)
 (aI:∀cq,r=.inl cq->∀ed,ag c ops Q rest ((a7,.cond (b=true) (.of true))::E) (Lin++Ls cq ed)) (bu:∀q,r=.inr q->∀ed,ag c ops Q rest ((a7,.cond (b=true) (.of false))::E) (Lin++Lx q ed)):
 ag c ops Q (⟨some a7,.call ⟨.value (.tmp nO),#[x],ats⟩,ty,pos,af,some (j,true)⟩::rest) E (Lin++Ls s gg):=λa W st=>by
 have aF:look ((nO,.eq u)::E) nO=some (.eq u):=by simp[look,nk]
 have asD:bO c ((nO,.eq u)::E) (Lin++Ls s gg) a W:=st.less λt oN h=>by
  simp only[look]at h;by_cases e:Nat.beq nO t=true
  ·rw[e]at h;simp only[cond_true,gk]at h;subst h;rw[<-ff.1 e];exact⟨_,aW,λA W v bb=>bb.1 hb⟩
  simp only[jl]at e;rw[e]at h;exact⟨_,h,λ_ _ _ h=>h⟩
 have key:=ag.yield (c:=c) (ops:=ops) (Q:=Q) (E:=(nO,.eq u)::E) (rest:=rest) (ty:=ty) (pos:=pos) (af:=af) (ats:=ats) ae aT aF (λa W s=>au a W (s.less λt oN h=>by
  by_cases e:Nat.beq nO t=true
  ·have:=ff.1 e;subst this;rw[aW]at h;cases h;refine⟨_,aF,λA W v bb=>⟨λ_=>bb,λh=>absurd hb h⟩⟩
  ·simp only[jl]at e;exact⟨oN,by simp only[look];rw[e];exact h,λ_ _ _ h=>h⟩)) aG aM
  (λcq e ed a W st=>aI cq e ed a W (st.less λt oN h=>by
   simp only[look]at h⊢;by_cases e:Nat.beq a7 t=true
   ·rw[e]at h⊢;simp only[cond_true,gk]at h⊢;exact⟨_,rfl,λA W v bb=>by subst h;exact⟨λ_=>bb,λh=>absurd hb h⟩⟩
   simp only[jl]at e;rw[e]at h⊢;simp only[cond_false]at h⊢;by_cases aS:Nat.beq nO t=true
   ·have:=ff.1 aS;subst this;rw[aW]at h;cases h;rw[aS];exact⟨_,rfl,λA W v bb=>⟨λ_=>bb,λh=>absurd hb h⟩⟩
   simp only[jl]at aS;rw[aS];exact⟨oN,h,λ_ _ _ h=>h⟩))
  (λcq e ed a W st=>bu cq e ed a W (st.less λt oN h=>by
   simp only[look]at h⊢;by_cases e:Nat.beq a7 t=true
   ·rw[e]at h⊢;simp only[cond_true,gk]at h⊢;exact⟨_,rfl,λA W v bb=>by subst h;exact⟨λ_=>bb,λh=>absurd hb h⟩⟩
   simp only[jl]at e;rw[e]at h⊢;simp only[cond_false]at h⊢;by_cases aS:Nat.beq nO t=true
   ·have:=ff.1 aS;subst this;rw[aW]at h;cases h;rw[aS];exact⟨_,rfl,λA W v bb=>⟨λ_=>bb,λh=>absurd hb h⟩⟩
   simp only[jl]at aS;rw[aS];exact⟨oN,h,λ_ _ _ h=>h⟩))
 have:=key a W asD
 unfold cM.sx wpListIn at this⊢
 rw[bh (by simp[Region.wanted])]at this
 rw[bh (by simp[Region.wanted,DS aB al st,hb])]
 exact this
def ag.dq{l:aa Oper}{L2:aa aK}(h:L=L2)(k:ag c ops Q l E L2):ag c ops Q l E L:=by subst h;exact k
def ag.cases{l:aa Oper}(b:Bool)(h1:b=true->ag c ops Q l E L)(ad:b=false->ag c ops Q l E L):ag c ops Q l E L:=by
 cases b
 ·exact ad I
 exact h1 I
def ag.anC{o:Oper}{rest:aa Oper}{a7 j gt:Nat}{b:Bool}(τ:J)(hb:b=false)(bz:o.guard=some (j,true))(hd:o.dst=some a7)(aB:(ops[j]?).bind (·.dst)=some gt)(al:look E gt=some (.of b))(aM:Nat.blt a7 c.n=true)
 (k:ag c ops Q rest ((a7,.cond (b=true) τ)::E) L):ag c ops Q (o::rest) E L:=λa W s=>by
 unfold cM.sx wpListIn
 rw[bf (by simp[Region.wanted,bz,DS aB al s,hb]),hd]
 exact⟨λ_ _=>trivial,k _ _ (s.put (by simpa using aM) ⟨λh=>(by rw[hb]at h;cases h),λ_=>rfl⟩)⟩
def ay.R8{x:cu}{b:Bool}{y z:Code}(al:aU c E L x (.of b))(hb:b=true)(k:ay c Q y E L):ay c Q (.cond x y z) E L:=.cond al (λ_=>k) λh=>by rw[hb]at h;cases h
def ay.wT{x:cu}{b:Bool}{y z:Code}(al:aU c E L x (.of b))(hb:b=false)(k:ay c Q z E L):ay c Q (.cond x y z) E L:=.cond al (λh=>by rw[hb]at h;cases h) λ_=>k
def Il:Code->Exit
 | .ret=>.ret
 | .exit id=>.exit id
 | .goto t=>.goto t
 |_=>.normal
def AZ:Code->Bool
 | .ret| .exit _| .goto _=>true
 |_=>false
def Ka{σ ε γ:Type}(c:cM)(js:ε->Code)(l D:Nat)(rec:Loop)(Ls:σ->γ->aa aK)(Lx:ε->γ->aa aK):σ⊕ε->Exit->Act->bn->Prop
 | .inl cq,x,a,W=>x=.normal∧∃g,bO c [] (⟨some l,.is (.loop rec)⟩::⟨some D,.fI⟩::Ls cq g) a W
 | .inr q,x,a,W=>AZ (js q)=true∧x=Il (js q)∧∃g,bO c [] (⟨some l,.is (.loop rec)⟩::⟨some D,.fI⟩::Lx q g) a W
def Kb(c:cM)(l:Nat)(body:Code)(Q:Exit->Act->bn->Prop)(a:Act)(W:bn):Prop:=
 ∃r2,(Instr.beginRound l).run c.P W=.ok () r2∧c.wp body Q a r2
def an.begin{l:Nat}{body:Code}{u2:Exit->Act->bn->Prop}(i:Nat){r:Loop}(av:L[i]? =some ⟨some l,.is (.loop r)⟩)(aG:r.state=.ready)
 (k:ay c Q body E (L.set i ⟨some l,.is (.loop {r with state:=.busy})⟩)):an c (Exit.then (Kb c l body Q) u2) .normal E L:=λa W s=>by
 obtain⟨o,h1,ad⟩:=s.own _ (fB av)
 have l3:o=.loop r:=ad
 subst l3
 exact⟨_,run_beginRound h1 aG,k _ _ (s.uC av I)⟩
def an.Tx{σ ε γ:Type}{js:ε->Code}{l D:Nat}{rec:Loop}{Ls:σ->γ->aa aK}{Lx:ε->γ->aa aK}{cq:σ}(g:γ)(n:Nat)(av:L.drop n=⟨some l,.is (.loop rec)⟩::⟨some D,.fI⟩::Ls cq g):
 an c (Ka c js l D rec Ls Lx (.inl cq)) .normal E L:=λa W s=>⟨rfl,g,by rw[<-av];exact(s.sj n).less (λt τ h=>by simp[look]at h)⟩
def an.Rp{σ ε γ:Type}{js:ε->Code}{l D:Nat}{rec:Loop}{Ls:σ->γ->aa aK}{Lx:ε->γ->aa aK}{q:ε}{x:Exit}(g:γ)(n:Nat)(aB:AZ (js q)=true)(au:x=Il (js q))(av:L.drop n=⟨some l,.is (.loop rec)⟩::⟨some D,.fI⟩::Lx q g):
 an c (Ka c js l D rec Ls Lx (.inr q)) x E L:=λa W s=>⟨aB,au,g,by rw[<-av];exact(s.sj n).less (λt τ h=>by simp[look]at h)⟩
def ay.jump{j:Code}(aB:AZ j=true)(k:an c Q (Il j) E L):ay c Q j E L:=by
 cases j <;> simp only[AZ]at aB <;> first|cases aB|skip
 all_goals first|exact .exit k|exact .ret k|exact λa W s=>wpIn_goto (k a W s)
def WC{P:Program}{l:Nat}{R:Ending->bn->Prop}{j:Code}{a:Act}{W W':bn}{v:bs}(aB:AZ j=true)(bq:(Instr.endRound l (some j)).run P W=.ok v W')(hJ:R (.returned v) W'):
 roundPost P l R (Il j) a W:=by
 cases j <;> simp only[AZ]at aB <;> first|exact⟨_,_,bq,hJ⟩|cases aB
def bO.mark{a:Act}{W:bn}(s:bO c E L a W)(D:Nat):bO {c with ds:=D::c.ds} E L {a with defers:=Nh D::a.defers} W:=
 {defers:=by simp[s.defers],size:=s.size,env:=s.env,ef:=s.ef,own:=s.own,nodup:=s.nodup,lt:=s.lt,hg:=s.hg,fi:=s.fi}
def TS(P:Program)(f:FuncId)(τs:aa J)(Lin:aa aK){α σ ε γ:Type}(τ:α->J)(run:(α->σ->aD (σ⊕ε))->σ->aD (σ⊕ε))(Ls:σ->γ->aa aK)(Lx:ε->γ->aa aK):Prop:=
 ∀ (step:α->σ->aD (σ⊕ε)) (b9:σ) (g0:γ) (r:σ⊕ε),run step b9=some r->
   ∀ (A:aa Nat) (W:bn) (u:bs) (vs:aa bs),EJ A W (Lin++Ls b9 g0)->hN (ks (Lin++Ls b9 g0)++A) W τs vs->
     BS P u τ Ls Lx step (λcU W'=>Ext (ks (Lin++Ls b9 g0)++A) W cU W')->
     Calls P f (u::vs).toArray W (k3 (ks (Lin++Ls b9 g0)) A W (λ_:γ=>.bT []) (λg=>Lin++Lr Ls Lx r g))
def Xu{gt p:Nat}{assign body:Code}{f:FuncId}{p0:aa J}{Lin:aa aK}{α σ ε γ:Type}{τ:α->J}{run:(α->σ->aD (σ⊕ε))->σ->aD (σ⊕ε)}
 {Ls:σ->γ->aa aK} {Lx:ε->γ->aa aK} {step:α->σ->aD (σ⊕ε)} {b9:σ} {g0:γ} {r:σ⊕ε} (js:ε->Code)
 (ae:c.rd=none) (ck:bJ c.P f) (bz:look E gt=some (.lx f p0)) (ni:∀ar aS qa,TS c.P f p0 Lin τ run (λs g=>ar::aS::Ls s g) qa) (aG:run step b9=some r) (av:L=Lin++Ls b9 g0) (hp:Nat.blt p c.n=true)
 (td:∀x s r,step x s=some r->∀g (nD:bn) (nM nE:aa Nat) (l D:Nat) (rec:Loop),rec.state=.ready->
  ay ⟨c.P,c.n,nD,nM,nE,some l,[]⟩ (Exit.then (Kb ⟨c.P,c.n,nD,nM,nE,some l,[]⟩ l body (Ka ⟨c.P,c.n,nD,nM,nE,some l,[]⟩ js l D {rec with state:=.busy} Ls Lx r)) (λ_ _ _=>False)) assign ((p,τ x)::E) (⟨some l,.is (.loop rec)⟩::⟨some D,.fI⟩::Ls s g))
 (sk:∀cq,r=.inl cq->∀g D,an {c with ds:=D::c.ds} Q .normal E (⟨some D,.fI⟩::(Lin++Ls cq g)))
 (Bc:∀q,r=.inr q->∀g D,ay {c with ds:=D::c.ds} Q (js q) E (⟨some D,.fI⟩::(Lin++Lx q g))):
 ay c Q (.rangeFunc (.tmp gt) #[p] assign body) E L:=λa W st=>by
 subst av
 refine wpIn_rangeFunc λfn xt=>?_
 show ∃l mark Br d aog Fs args aq6,(Instr.enterLoop fn a.tmps #[p] assign body c.rd).run c.P W=_∧_
 rw[ae]
 obtain⟨rec,mX⟩:∃rec:Loop,rec= {state:=.ready,pending:=none,fn,tmps:=a.tmps,params:= #[p],assign,body,defers:=W.heap.size}:=⟨_,rfl⟩
 obtain⟨v,Jt,fQ,BT,asE⟩:=st.env gt _ bz
 obtain⟨iZ,Ju⟩:∃iZ,(W.alloc (.deferred (some []))).alloc (.loop rec)=iZ:=⟨_,rfl⟩
 have s1:=(st.alloc (o:=.deferred (some [])) (cp:=.fI) I).alloc (o:=.loop rec) (cp:=.is (.loop rec)) I
 rw[Ju,KV]at s1
 obtain⟨D,kY⟩:∃D,D=W.heap.size:=⟨_,rfl⟩
 obtain⟨l,al⟩:∃l,l=W.heap.size+1:=⟨_,rfl⟩
 have Jv:=run_enterLoop_outer (P:=c.P) (w:=W) fn a.tmps #[p] assign body
 rw[<-mX,Ju,<-al,<-kY]at Jv
 rw[<-al,<-kY]at s1
 obtain⟨oc,uU⟩:∃oc:σ->γ->aa aK,oc=λs g=>⟨some l,.is (.loop rec)⟩::⟨some D,.fI⟩::Ls s g:=⟨_,rfl⟩
 obtain⟨qa,Jw⟩:∃qa:ε->γ->aa aK,qa=λq g=>⟨some l,.is (.loop {rec with state:=.done,pending:=some (js q)})⟩::⟨some D,.fI⟩::Lx q g:=⟨_,rfl⟩
 have s2:bO c E (Lin++oc b9 g0) a iZ:=s1.perm (by
  rw[uU];exact(sS.trans (sS.cons _)).symm)
 have TT:hN (ks (Lin++oc b9 g0)++c.b8) iZ p0 fQ:=by
  have h1:(J.lx f p0).holds (ks (Lin++oc b9 g0)++c.b8) iZ v:=by
   obtain⟨zr,h1,ad⟩:=s2.env gt _ bz;rw[Jt]at h1;cases h1;exact ad
  obtain⟨TU,ar,aS⟩:=h1;rw[BT]at ar;have:TU=fQ:=by injection ar with _ _ ar;injection ar with ar;exact ar.symm
  rw[<-this];exact aS
 have Jx:bO c E ((Lin++oc b9 g0)++[]) a iZ:=by rw[ov];exact s2
 have Ix:=Jx.Nl
 simp only[ks,List.nil_append]at Ix
 have Tj:BS c.P (.func (.yield l) #[] #[]) τ oc qa step (λcU W'=>Ext (ks (Lin++oc b9 g0)++c.b8) iZ cU W'):=by
  refine⟨l,rfl,λx s lX hs g A r2 v2 je hle bb=>?_⟩;have Bs:=hle;rw[uU]at Bs;obtain⟨o,dn,e9⟩:=Bs.ok ⟨some l,.is (.loop rec)⟩ (by simp);have uD:o=.loop rec:=e9;subst uD;have aT:=run_yield (P:=c.P) (args:= #[v2]) dn (by rw[mX];rfl);refine⟨_,_,_,_,aT,roundIn_of_wpIn lL ?_⟩;have ar:rec.assign=assign:=by rw[mX]
  have aS:rec.body=body:=by rw[mX]
  have cE:rec.params= #[p]:=by rw[mX]
  have eK:rec.tmps=a.tmps:=by rw[mX]
  rw[ar,aS,cE,eK];refine LQ (n:=9) I ?_;have Sz:((#[p]:Array Tmp).zip #[v2]).foldl (λtmps (t,a)=>tmps.setIfInBounds t a) a.tmps=a.tmps.setIfInBounds p v2:=by simp
  rw[Sz];subst uU Jw;refine wpIn_mono ((td x s lX hs g r2 (ks (⟨some l,.is (.loop rec)⟩::⟨some D,.fI⟩::Ls s g)) A l D rec (by rw[mX])) {tmps:=a.tmps.setIfInBounds p v2,defers:=[]} r2 ?_) ?_
  ·have lb:p<c.n:=by simpa using hp
   exact
   {defers:=rfl
    size:=by simp[s2.size]
    env:=λt oN fo=>by
     simp only[look]at fo;by_cases e:Nat.beq p t=true
     ·rw[e]at fo;simp only[cond_true,gk]at fo;subst fo;have:=ff.1 e;subst this;exact⟨v2,by simp[s2.size,lb],bb⟩
     simp only[jl]at e;rw[e]at fo;simp only[cond_false]at fo;obtain⟨u,h1,ad⟩:=s2.env t oN fo;have df:p≠t:=λh=>by rw[ff.2 h]at e;cases e
     exact⟨u,by rw[On df];exact h1,oN.mono je ad⟩
    ef:=.refl _ _
    own:=hle.ok
    nodup:=hle.nodup
    lt:=hle.lt
    hg:=λk hk _=>hk
    fi:=hle.fi}
  intro e a3 at6 hq;cases e with
  | normal=>
    obtain⟨UK,TV,hb⟩:=hq
    refine⟨UK,TV,LQ (n:=9) I (wpIn_mono hb ?_)⟩
    intro e a5 Kc NL
    have fin:∀(jump:aD Code) {Lr:aa aK},bO ⟨c.P,c.n,r2,ks (⟨some l,.is (.loop rec)⟩::⟨some D,.fI⟩::Ls s g),A,some l,[]⟩ [] (⟨some l,.is (.loop {rec with state:=.busy})⟩::⟨some D,.fI⟩::Lr) a5 Kc->
     ∃sI,(Instr.endRound l jump).run c.P Kc=.ok (.bool jump.isNone) sI∧bO ⟨c.P,c.n,r2,ks (⟨some l,.is (.loop rec)⟩::⟨some D,.fI⟩::Ls s g),A,some l,[]⟩ [] (⟨some l,.is (.loop {rec with state:=if jump.isNone then .ready else .done,pending:=jump})⟩::⟨some D,.fI⟩::Lr) a5 sI:=λjump Lr jZ=>by
     obtain⟨o,h1,ad⟩:=jZ.own ⟨some l,.is (.loop {rec with state:=.busy})⟩ (by simp)
     have l3:o=.loop {rec with state:=.busy}:=ad
     subst l3
     exact⟨_,run_endRound jump h1,jZ.uC (i:=0) I I⟩
    cases lX with
    | inl cq=>
      obtain⟨rfl,ed,jZ⟩:=NL
      obtain⟨sI,bq,kX⟩:=fin none jZ
      refine⟨_,sI,bq,?_⟩
      have TW:({rec with state:=if (none:aD Code).isNone then .ready else .done,pending:=none}:Loop)=rec:=by rw[mX];rfl
      rw[TW]at kX
      exact kX.ends (ρ:=λ_:γ=>J.of true) (Lo:=λg=>⟨some l,.is (.loop rec)⟩::⟨some D,.fI⟩::Ls cq g) ed (zU _) (of_bool.2 I)
    | inr q=>
      obtain⟨aB,rfl,ed,jZ⟩:=NL
      obtain⟨sI,bq,kX⟩:=fin (some (js q)) jZ
      have key:k3 (ks (⟨some l,.is (.loop rec)⟩::⟨some D,.fI⟩::Ls s g)) A r2 (λ_:γ=>J.of false) (λg=>⟨some l,.is (.loop {rec with state:=.done,pending:=some (js q)})⟩::⟨some D,.fI⟩::Lx q g) (.returned (.bool false)) sI:=
       kX.ends (ρ:=λ_:γ=>J.of false) (Lo:=λg=>⟨some l,.is (.loop {rec with state:=.done,pending:=some (js q)})⟩::⟨some D,.fI⟩::Lx q g) ed (zU _) (of_bool.2 I)
      exact WC aB bq key
  |exit id=>exact hq.elim
  |goto t=>exact hq.elim
  |ret=>exact hq.elim
  |panic mf=>exact hq.elim
  |outgrown=>exact hq.elim
 have Jy:TS c.P f p0 Lin τ run oc qa:=by rw[uU];exact ni _ _ qa
 have Bd:=Jy step b9 g0 r aG c.b8 iZ (.func (.yield l) #[] #[]) fQ Ix TT Tj
 have ob:a.eval (.tmp gt)=.func (.func f) #[] fQ.toArray:=by simp[Act.eval,Jt,BT]
 refine⟨l,[Nh D],iZ,{target:=.fn (.func f) fQ.toArray,args:= #[.func (.yield l) #[] #[]]},iZ,f,#[.func (.yield l) #[] #[]]++fQ.toArray,iZ,Jv,?_,λ_ _=>trivial,?_,λh=>by simp at h,?_⟩
 ·simp only[resolve,ob]
  simp[go_sem]
 ·simp[invoke,go_sem,ck.run]
 refine CallsIn.QL ?_
 have SA:(#[.func (.yield l) #[] #[]]++fQ.toArray:Array bs)=(.func (.yield l) #[] #[]::fQ).toArray:=by simp
 rw[SA]
 refine Bd.mono λe UL ⟨at7,ed,he,aW,az,aV,bc,bq⟩=>?_
 subst he
 have sJ:=Jx.after aW az (by simpa[ks]using aV) (by simpa[ks]using bc)
 rw[ov]at sJ
 cases r with
 | inl cq=>
   simp only[Lr]at sJ
   subst uU
   have Kd:bO c E (⟨some l,.is (.loop rec)⟩::⟨some D,.fI⟩::(Lin++Ls cq ed)) a UL:=sJ.perm (by
    exact sS.trans (sS.cons _))
   obtain⟨o,dn,e9⟩:=Kd.own ⟨some l,.is (.loop rec)⟩ (by simp)
   have uD:o=.loop rec:=e9
   subst uD
   have oK:=Lj (P:=c.P) dn (by rw[mX];simp)
   have lb:rec.pending=none:=by rw[mX]
   rw[lb]at oK
   refine⟨none,_,oK,?_⟩
   have xE:=(Kd.uC (i:=0) (cp':=.is (.loop {rec with state:=.exhausted})) (o':=.loop {rec with state:=.exhausted}) I I).sj 1
   rw[lb]at xE
   exact sk cq I ed D _ _ (xE.mark D)
 | inr q=>
   simp only[Lr]at sJ
   subst Jw
   have Kd:bO c E (⟨some l,.is (.loop {rec with state:=.done,pending:=some (js q)})⟩::⟨some D,.fI⟩::(Lin++Lx q ed)) a UL:=sJ.perm (by
    exact sS.trans (sS.cons _))
   obtain⟨o,dn,e9⟩:=Kd.own ⟨some l,.is (.loop {rec with state:=.done,pending:=some (js q)})⟩ (by simp)
   have uD:o=.loop {rec with state:=.done,pending:=some (js q)}:=e9
   subst uD
   have oK:=Lj (P:=c.P) dn (by simp)
   refine⟨some (js q),_,oK,?_⟩
   have xE:=(Kd.uC (i:=0) (cp':=.is (.loop {rec with state:=.exhausted,pending:=some (js q)})) (o':=.loop {rec with state:=.exhausted,pending:=some (js q)}) I I).sj 1
   exact Bc q I ed D _ _ (xE.mark D)
def ajl{gt p:Nat}{assign body:Code}{f:FuncId}{p0:aa J}{Lin:aa aK}{α σ ε γ:Type}{τ:α->J}{run:∀{σ ε:Type},(α->σ->aD (σ⊕ε))->σ->aD (σ⊕ε)}
 {Ls:σ->γ->aa aK} {Lx:ε->γ->aa aK} {step:α->σ->aD (σ⊕ε)} {b9:σ} {g0:γ} {r:σ⊕ε} (js:ε->Code)
 (ae:c.rd=none) (ck:bJ c.P f) (bz:look E gt=some (.lx f p0)) (ni:Ih c.P f p0 Lin τ run) (aG:run step b9=some r) (av:L=Lin++Ls b9 g0) (hp:Nat.blt p c.n=true)
 (td:∀x s r,step x s=some r->∀g (nD:bn) (nM nE:aa Nat) (l D:Nat) (rec:Loop),rec.state=.ready->
  ay ⟨c.P,c.n,nD,nM,nE,some l,[]⟩ (Exit.then (Kb ⟨c.P,c.n,nD,nM,nE,some l,[]⟩ l body (Ka ⟨c.P,c.n,nD,nM,nE,some l,[]⟩ js l D {rec with state:=.busy} Ls Lx r)) (λ_ _ _=>False)) assign ((p,τ x)::E) (⟨some l,.is (.loop rec)⟩::⟨some D,.fI⟩::Ls s g))
 (sk:∀cq,r=.inl cq->∀g D,an {c with ds:=D::c.ds} Q .normal E (⟨some D,.fI⟩::(Lin++Ls cq g)))
 (Bc:∀q,r=.inr q->∀g D,ay {c with ds:=D::c.ds} Q (js q) E (⟨some D,.fI⟩::(Lin++Lx q g))):
 ay c Q (.rangeFunc (.tmp gt) #[p] assign body) E L:=
 Xu (run:=run) js ae ck bz (λar aS qa=>ni.go (λs g=>ar::aS::Ls s g) qa) aG av hp td sk Bc
def ag3{P:Program}{fn:Func}{R:Ending->bn->Prop}{a:Act}{W:bn}(h:bodyPost P fn R .ret a W):bodyPostM Fence.wide 9 P fn R .ret a W:=by
 obtain⟨h1,v,ad,az⟩:=h;show LeavesInM Fence.wide 9 P fn a.tmps R a.defers .returning W;rw[h1];exact⟨v,ad,az⟩
def an.lv{P:Program}{fn:Func}{R:Ending->bn->Prop}(k:an c (bodyPost P fn R) .ret E L):an c (bodyPost P fn R) .normal E L:=λa W s=>k a W s
def an.IM{fn:Func}{R:Ending->bn->Prop}(k:an c (bodyPost c.P fn R) .ret E L):an c (bodyPostM Fence.wide 9 c.P fn R) .ret E L:=λa W s=>ag3 (k a W s)
def an.yK{fn:Func}{R:Ending->bn->Prop}{D:Nat}(i:Nat)(av:L[i]? =some ⟨some D,.fI⟩)(e1:c.ds=[D])(k:an {c with ds:=[]} (bodyPost c.P fn R) .ret E (L.set i ⟨some D,.is (.deferred none)⟩)):
 an c (bodyPostM Fence.wide 9 c.P fn R) .ret E L:=λa W s=>by
 obtain⟨o,h1,ad⟩:=s.own _ (fB av)
 have l3:o=.deferred (some []):=ad
 subst l3
 have s2:=s.uC av (cp':=.is (.deferred none)) (o':=.deferred none) I
 have fu:bO {c with ds:=[]} E (L.set i ⟨some D,.is (.deferred none)⟩) {a with defers:=[]} (W.putObj D (.deferred none)):=
  {defers:=rfl,size:=s2.size,env:=s2.env,ef:=s2.ef,own:=s2.own,nodup:=s2.nodup,lt:=s2.lt,hg:=s2.hg,fi:=s2.fi}
 obtain⟨_,v,az,aV⟩:=k _ _ fu
 show LeavesInM Fence.wide 9 c.P fn a.tmps R a.defers .returning W
 rw[s.defers,e1]
 exact⟨by simp,.inl ⟨D,_,rfl,run_takeDeferred h1,v,az,aV⟩⟩
end
def dz.aur{P:Program}{f:FuncId}{fn:Func}{code:Code}{n:Nat}{τs:aa J}{ρ:J}(aW:P.funcs[f]? =some fn)(hb:fn.body=some code)(aM:fn.ntmps=n)(hlen:Nat.ble τs.length n=true)
 (h:∀W A,ay ⟨P,n,W,[],A,none,[]⟩ (bodyPostM Fence.wide 9 P fn λe W'=> ∃v,e=.returned v∧Fr [] W W'∧ρ.holds A W' v) code (params 0 τs) []):dz P f τs ρ:=by
 intro A W vs eX bb
 refine(callsIn_wide (n:=9)).1 (callsIn_of_wp_marks aW hb lL (h W A _ _ ?_))
 have al:=bb.length
 have hle:τs.length<=n:=pI hlen
 exact
 {defers:=rfl
  size:=by simp[aM,al];omega
  env:=λt τ kK=>by
   obtain⟨_,v,ad,az⟩:=Ax bb 0 t τ kK;refine⟨v,?_,az⟩;have ca:t<vs.length:=(iu.1 ad).1;rw[wh (by simpa using ca)];simpa using ad
  ef:=.refl _ _
  own:=by simp
  nodup:=by simp[ks]
  lt:=by simp[ks]
  hg:=by simp[ks]
  fi:=λk hk=>⟨eX k hk,by simp[ks]⟩}
def bN.ofM{P:Program}{f:FuncId}{fn:Func}{code:Code}{n:Nat}{τs:aa J}{Lin:aa aK}{δ:Type}{ρ:δ->J}{Lo:δ->aa aK}(aW:P.funcs[f]? =some fn)(hb:fn.body=some code)(aM:fn.ntmps=n)(hlen:Nat.ble τs.length n=true)
 (h:∀W A,ay ⟨P,n,W,ks Lin,A,none,[]⟩ (bodyPostM Fence.wide 9 P fn (k3 (ks Lin) A W ρ Lo)) code (params 0 τs) Lin):bN P f τs Lin ρ Lo:=by
 intro A W vs eX lU ca iF bb
 refine(callsIn_wide (n:=9)).1 (callsIn_of_wp_marks aW hb lL (h W A _ _ ?_))
 have al:=bb.length
 have hle:τs.length<=n:=pI hlen
 exact
 {defers:=rfl
  size:=by simp[aM,al];omega
  env:=λt τ kK=>by
   obtain⟨_,v,ad,az⟩:=Ax bb 0 t τ kK;refine⟨v,?_,az⟩;have ca:t<vs.length:=(iu.1 ad).1;rw[wh (by simpa using ca)];simpa using ad
  ef:=.refl _ _
  own:=iF
  nodup:=lU
  lt:=ca
  hg:=λk hk _=>hk
  fi:=eX}
def P7{τ σ:J}(h:τ.Flat)(k:σ.Flat):(J.bT [τ,σ]).Flat:=λA W cU W' v ⟨vs,h1,ad⟩=>by
 refine⟨vs,h1,?_⟩;generalize vs.toList=l at ad;cases ad with
 | cons a r=>cases r with
   |cons b r=>cases r;exact .cons (h _ _ _ _ _ a) (.cons (k _ _ _ _ _ b) .nil)
section
variable{c:cM}{E:aa (Nat×J)}{L:aa aK}{ops:Array Oper}{Q:Exit->Act->bn->Prop}
variable{d:aD Tmp}{ty:bK}{pos:String}{af:Array Edge}{g:aD (Nat×Bool)}{x y:cu}{t t2:bK}
def bj.via{o:Oper}{τ:J}{E':aa (Nat×J)}{L':aa aK}(aW:τ.Flat)(hs:∀a W,bO c E L a W->bO c E' L' a W)(h:bj c E' L' o τ):bj c E L o τ:=λa W st=>by
 have:=h a W (hs a W st);unfold h4 at this⊢;exact uc (λiI W' ⟨v,h1,ad,az⟩=>⟨v,h1,ad,aW _ _ _ _ _ az⟩) this
def bO.tell{a:Act}{W:bn}(s:bO c E L a W){gV:Nat}{σ τ:J}(al:look E gV=some σ)(h:∀v,σ.holds (ks L++c.b8) W v->τ.holds (ks L++c.b8) W v):bO c ((gV,τ)::E) L a W:=by
 refine {s with env:=λt oN fo=>?_};simp only[look]at fo;by_cases e:Nat.beq gV t=true
 ·rw[e]at fo;simp only[cond_true,gk]at fo;subst fo;have:=ff.1 e;subst this;obtain⟨v,h1,ad⟩:=s.env gV _ al;exact⟨v,h1,h v ad⟩
 simp only[jl]at e;rw[e]at fo;exact s.env t oN fo
def bO.aa3{a:Act}{W:bn}(s:bO c E L a W){i p:Nat}{α:Type}[ak α]{z:α}(av:L[i]? =some ⟨some p,.var z⟩):
 (J.ptr z).holds (ks (L.set i ⟨none,.dead⟩)++c.b8) W (.pointer (some ⟨p,0,none⟩)):=by
 obtain⟨o,fJ,cs,T,rfl,aG⟩:=s.own _ (fB av)
 have hlen:cs.toList.length=ak.size α:=ak.len aG
 refine⟨p,0,cs,T,(0,0),rfl,s.HS av,fJ,by simp at hlen;omega,?_⟩
 rw[wq,<-hlen,iD]
 have oI:=DB (L:=L) (i:=i) (cp:=.dead)
 exact ak.mono (.drop λk hm=>by
  rcases cF.1 hm with hm|hm
  ·exact cF.2 (.inl (oI.subset hm))
  exact cF.2 (.inr hm)) aG
abbrev Jz(f p:Nat):bs:=.func (.func f) #[.pointer (some ⟨p,0,none⟩)] #[]
def anJ{f p:Nat}(au:aU c E L x (.eq (.pointer (some ⟨p,0,none⟩)))):bj c E L ⟨d,.makeFunc (.func f) #[x] #[],ty,pos,af,g⟩ (.eq (Jz f p)):=.pure λa W s=>by
 have h:=au a W s;refine⟨_,?_,rfl⟩;have cW:a.eval x=.pointer (some ⟨p,0,none⟩):=h;simp[execOp,Instr.makeFunc,cW,Jz]
def akS{f p:Nat}{α β γ δ:Type}[ak α][ak β][ak γ][ak δ]{z:δ}{F:α->β->aD γ}{P:Program}(ck:bJ P f)(h:∀x y r,F x y=some r->dz P f [.ptr z,.of x,.of y] (.of r)){A:aa Nat}{W:bn}
 (hp:(J.ptr z).holds A W (.pointer (some ⟨p,0,none⟩))):(J.By P F).holds A W (Jz f p):=
 ⟨f,_,#[],rfl,ck,λcU W' e eX x y r oV u5 ku bb BT=>by simpa using h x y r ku cU W' [_,oV,u5] eX (.cons (J.mono _ e hp) (.cons bb (.cons BT .nil)))⟩
def bj.Sc{o:Oper}{τ σ:J}{p:Nat}{α:Type}[ak α]{z:α}(i gV:Nat)(al:look E gV=some σ)(bb:∀A W v,σ.holds A W v->v=.pointer (some ⟨p,0,none⟩))(av:L[i]? =some ⟨some p,.var z⟩)(aW:τ.Flat)
 (h:bj c ((gV,.ptr z)::E) (L.set i ⟨none,.dead⟩) o τ):bj c E L o τ:=
 .via aW (λa W s=>(s.kill i).tell (σ:=σ) al (λv bW=>by rw[bb _ _ _ bW];exact s.aa3 av)) h
def bj.alD{o:Oper}{τ:J}{p f:Nat}{α β γ δ:Type}[ak α][ak β][ak γ][ak δ]{z:δ}{F:α->β->aD γ}(i gV:Nat)(al:look E gV=some (.eq (Jz f p)))(av:L[i]? =some ⟨some p,.var z⟩)(ck:bJ c.P f)
 (ku:∀x y r,F x y=some r->dz c.P f [.ptr z,.of x,.of y] (.of r)) (aW:τ.Flat) (h:bj c ((gV,.By c.P F)::E) (L.set i ⟨none,.dead⟩) o τ):bj c E L o τ:=
 .via aW (λa W s=>(s.kill i).tell al (λv bW=>by have asF:v=Jz f p:=bW;rw[asF];exact akS ck ku (s.aa3 av))) h
def bj.anI{o:Oper}{τ:J}{p cap T:Nat}{key:aD Nat}{β γ:Type}[ak β][ak γ]{b b':β}{xs:aa γ}{os os':aa (Nat×bs)}(l:aQ β (aa γ))(i j q:Nat)(gf:Nat.beq i j=false)(av:L[i]? =some ⟨some p,.cw b os⟩)(tU:L[j]? =some ⟨key,.row T xs cap⟩)
 (hq:os[q]? =some (l.off,aP key xs.length cap)) (hb:l.set b xs=b') (sC:vv os l.off=os') (aW:τ.Flat) (h:bj c E ((L.set j ⟨none,.dead⟩).set i ⟨some p,.cw b' os'⟩) o τ):bj c E L o τ:=
 .via aW (λa W s=>s.nz l (λe=>by rw[e,nk]at gf;cases gf) av tU q hq hb sC) h
def bj.alC{o:Oper}{τ:J}{p cap T:Nat}{key:aD Nat}{β γ:Type}[ak β][ak γ]{b b':β}{xs:aa γ}{os os':aa (Nat×bs)}(l:aQ β (aa γ))(i j q gV:Nat)(gf:Nat.beq i j=false)(av:L[i]? =some ⟨some p,.cw b os⟩)(tU:L[j]? =some ⟨key,.row T xs cap⟩)
 (hq:os[q]? =some (l.off,aP key xs.length cap)) (hb:l.set b xs=b') (sC:vv os l.off=os') (qW:look E gV=some (.eq (aP key xs.length cap))) (aW:τ.Flat) (h:bj c ((gV,.of xs)::E) ((L.set j ⟨none,.dead⟩).set i ⟨some p,.cw b' os'⟩) o τ):bj c E L o τ:=
 .via aW (λa W s=>s.MV l (λe=>by rw[e,nk]at gf;cases gf) av tU q hq hb sC qW) h
def bj.aaF{o:Oper}{τ:J}{p:Nat}{β:Type}[ak β]{b:β}(i:Nat)(av:L[i]? =some ⟨some p,.cw b []⟩)(aW:τ.Flat)(h:bj c E (L.set i ⟨some p,.var b⟩) o τ):bj c E L o τ:=
 .via aW (λa W s=>s.Ik (cp':=.var b) av (λo ⟨cs,T,h1,ad⟩=>⟨cs,T,h1,ad.1⟩) id) h
def W2{P:Program}{T:bK}{e:bK}(h:P.underlying T=some (.pointer e))(p:Addr)(W:bn)(n:Nat):(Op.equalIn (n+1) T (.pointer (some p)) (.pointer none)).run P W=.ok false W:=by
 simp[Op.equalIn,eo h]
def Ib{p:Addr}{e:bK}(hu:c.P.underlying t=some (.pointer e))(au:aU c E L x (.eq (.pointer (some p)))):bj c E L ⟨d,.binOp .eql t x (.const (.pointer none)) t2,ty,pos,af,g⟩ (.of false):=.pure λa W s=>by
 have aM:a.eval (.const (.pointer none))=.pointer none:=rfl;have h1:a.eval x=.pointer (some p):=au a W s;refine⟨.bool false,?_,of_bool.2 I⟩;simp only[execOp,eqGuard,binOp,h1,aM,Op.equal,Op.maxDepth];simp[W2 hu p W 9999]
def akl{γ:Type}[ak γ]{r:γ}{e:bK}(hu:c.P.underlying t=some (.pointer e))(au:aU c E L x (.ptr r)):bj c E L ⟨d,.binOp .eql t x (.const (.pointer none)) t2,ty,pos,af,g⟩ (.of false):=.pure λa W s=>by
 have aM:a.eval (.const (.pointer none))=.pointer none:=rfl;obtain⟨b,off,cur,T,hE,h1,_⟩:=au a W s;refine⟨.bool false,?_,of_bool.2 I⟩;simp only[execOp,eqGuard,binOp,h1,aM,Op.equal,Op.maxDepth];simp[W2 hu _ W 9999]
def ay.bw{code:Code}(i:Nat){e:aK}(h:L[i]? =Option.some e)(k:ay c Q code E (e::L.eraseIdx i)):ay c Q code E L:=λa W s=>k a W (s.bw h)
def ake{p:aD Addr}:∀A W v,(J.eq (.pointer p)).holds A W v->v.oneCell'=true:=λA W v h=>by
 have cW:v=.pointer p:=h;rw[cW];rfl
def dL(c:cM)(E:aa (Nat×J))(L:aa aK)(o:Oper)(τ:J):Prop:=
 ∀a W,bO c E L a W->h4 c.P o a W λv W'=>bO c E L a W'∧τ.holds (ks L++c.b8) W' v
def ag.fb{o:Oper}{rest:aa Oper}{d:Nat}{τ:J}(h:dL c E L o τ)(bz:o.guard=none)(hd:o.dst=some d)(aM:Nat.blt d c.n=true)
 (k:ag c ops Q rest ((d,τ)::E) L):ag c ops Q (o::rest) E L:=λa W s=>
 jn bz (h a W s) λv W' ⟨f,bb⟩=>by
  rw[hd];exact k _ _ (f.put (by simpa using aM) bb)
def ag.xB{o:Oper}{rest:aa Oper}{d j g:Nat}{b want:Bool}{τ:J}(h:b=want->dL c E L o τ)(bz:o.guard=some (j,want))(aB:(ops[j]?).bind (·.dst)=some g)
 (al:look E g=some (.of b)) (hd:o.dst=some d) (aM:Nat.blt d c.n=true)
 (k:ag c ops Q rest ((d,.cond (b=want) τ)::E) L):ag c ops Q (o::rest) E L:=λa W s=>by
 have aT:=DS aB al s
 unfold cM.sx wpListIn
 by_cases hb:b=want
 ·rw[bh (by simp[Region.wanted,bz,aT,hb])]
  refine((h hb a W s).wpIn λv W' ⟨f,bb⟩=>?_)
  rw[hd]
  exact k _ _ (f.put (by simpa using aM) ⟨λ_=>bb,λh=>absurd hb h⟩)
 rw[bf (by simp[Region.wanted,bz,aT,hb])]
 rw[hd]
 exact⟨λ_ _=>trivial,k _ _ (s.put (by simpa using aM) ⟨λh=>absurd h hb,λ_=>rfl⟩)⟩
def tB(L:aa aK):aa Nat->aa aK->Prop
 |[],[]=>True
 |i::is,e::es=>L[i]? =some e∧tB L is es
 |_,_=>False
def WI{L:aa aK}{i j:Nat}(h:i≠j):(L.eraseIdx i)[if j<i then j else j-1]? =L[j]? :=by
 rw[Vj];by_cases h1:j<i
 ·simp[h1]
 have: ¬(j-1<i):=by omega
 simp only[h1,ow,this];congr 1;omega
def tB.shift{L:aa aK}{i:Nat}:∀{is:aa Nat} {es:aa aK},tB L is es->i∉is->tB (L.eraseIdx i) (is.map λj=>if j<i then j else j-1) es
 |[],[],_,_=>trivial
 | j::is,e::es,⟨h1,ad⟩,aM=>by
   simp only[dP,x9]at aM;exact⟨by rw[WI aM.1];exact h1,tB.shift ad aM.2⟩
def WN{i:Nat}:∀{is:aa Nat},is.Nodup->i∉is->(is.map λj=>if j<i then j else j-1).Nodup
 |[],_,_=>by simp
 | j::is,h,aM=>by
   simp only[dP,x9]at aM;obtain⟨h1,ad⟩:=pK.1 h;refine pK.2 ⟨λhm=>?_,WN ad aM.2⟩;obtain⟨k,hk,he⟩:=ig.1 hm;have rR:k≠i:=λe=>aM.2 (e▸hk);have au3:k≠j:=λe=>h1 (e▸hk);have jK:j≠i:=λe=>aM.1 e.symm;have adq:(if k<i then k else k-1)=(if j<i then j else j-1):=he;split at adq <;> split at adq <;> omega
def tB.perm:∀{is:aa Nat} {es L:aa aK},tB L is es->is.Nodup->∃R,L.Perm (es++R)
 |[],[],L,_,_=>⟨L,K5 _⟩
 | i::is,e::es,L,⟨h1,ad⟩,aM=>by
   obtain⟨pt,uQ⟩:=pK.1 aM;obtain⟨R,hJ⟩:=(ad.shift pt).perm (WN uQ pt);exact⟨R,(yd h1).trans (hJ.cons e)⟩
 termination_by is=>is.length
 decreasing_by simp
def dL.call{f:FuncId}{xs:aa cu}{ats:Array bK}{τs:aa J}{Lin:aa aK}{ρ:Unit->J}{Lo:Unit->aa aK}(is:aa Nat)(ck:bJ c.P f)(h:bN c.P f τs Lin ρ Lo)
 (au:jr c E L xs τs) (aM:decide is.Nodup=true) (hp:tB L is Lin) (al:Lo ()=Lin):dL c E L ⟨d,.call ⟨.value (.func f),xs.toArray,ats⟩,ty,pos,af,g⟩ (ρ ()):=λa W s=>by
 obtain⟨R,hJ⟩:=hp.perm (xP aM)
 have cq:=s.perm hJ
 have rS:=AP hJ
 have NM:∀k,k∈ks L++c.b8↔k∈ks (Lin++R)++c.b8:=λk=>by
  simp only[cF];rw[rS.mem_iff]
 have bW:hN (ks (Lin++R)++c.b8) W τs (xs.map a.eval):=(au.ZA s).mono (.drop λk hm=>(NM k).2 hm)
 have a6:=HG (d:=d) (ty:=ty) (pos:=pos) (af:=af) (g:=g) (ats:=ats) ck h cq bW
 unfold h4 at a6⊢
 refine uc (λiI W' ⟨v,h1,a7,ad,az⟩=>⟨v,h1,?_,?_⟩) a6
 ·cases a7;rw[al]at ad;exact ad.perm hJ.symm
 cases a7
 rw[al]at az
 exact J.mono _ (.drop λk hm=>(NM k).1 hm) az
def tB.set{L:aa aK}{i j:Nat}{x y ar aS:aK}(gf:i≠j)(aq:L[i]? =some ar)(aB:L[j]? =some aS):∃R,L.Perm (ar::aS::R)∧((L.set i x).set j y).Perm (x::y::R):=by
 have au4:tB L [i,j] [ar,aS]:=⟨aq,aB,trivial⟩;have hle:∀M:aa aK,∀u v:aK,M[i]? =some u->M[j]? =some v->M.Perm (u::v::(M.eraseIdx i).eraseIdx (if j<i then j else j-1)):=λM u v h1 ad=>
  (yd h1).trans ((yd (by rw[WI gf];exact ad)).cons u)
 refine⟨_,hle L ar aS aq aB,?_⟩;have iz:=(iu.1 aq).1;have pw:=(iu.1 aB).1;have h1:=hle ((L.set i x).set j y) x y (by rw[xM (x8 gf),FH iz]) (by rw[FH (by simpa using pw)]);have ad:((L.set i x).set j y).eraseIdx i=(L.eraseIdx i).set (if j<i then j else j-1) y:=by
  apply nS;intro k;simp only[Vj,qm,xS,List.length_eraseIdx,iz,lY];by_cases hk:k<i <;> by_cases jK:j<i <;> simp only[hk,jK,lY,ow] <;> (repeat' split) <;> first|rfl|omega|skip
 rw[ad,OG]at h1;exact h1
def ag.alE{rest:aa Oper}{a7:Nat}{f:FuncId}{xs:aa cu}{ats:Array bK}{τs:aa J}{ar aS:aK}{δ:Type}{ρ:δ->J}{Lo:δ->aa aK}(lo:δ->aK)(i j:Nat)(ck:bJ c.P f)(h:bN c.P f τs [ar,aS] ρ Lo)
 (au:jr c E L xs τs) (gf:Nat.beq i j=false) (aq:L[i]? =some ar) (aB:L[j]? =some aS) (hS:∀q,Lo q=[lo q]) (aM:Nat.blt a7 c.n=true) (k:∀q,ag c ops Q rest ((a7,ρ q)::E) ((L.set i (lo q)).set j ⟨none,.dead⟩)):
 ag c ops Q (⟨some a7,.call ⟨.value (.func f),xs.toArray,ats⟩,ty,pos,af,none⟩::rest) E L:=λa W s=>by
 have df:i≠j:=λe=>by rw[e,nk]at gf;cases gf
 obtain⟨R,hJ,_⟩:=tB.set (x:=ar) (y:=aS) df aq aB
 have cq:=s.perm hJ
 have rS:=AP hJ
 have NM:∀k,k∈ks L++c.b8↔k∈ks ([ar,aS]++R)++c.b8:=λk=>by
  simp only[cF];rw[rS.mem_iff];simp[fM]
 have bW:hN (ks ([ar,aS]++R)++c.b8) W τs (xs.map a.eval):=(au.ZA s).mono (.drop λk hm=>(NM k).2 hm)
 refine jn I (HG (Lin:=[ar,aS]) ck h cq bW) λv W' ⟨q,ad,az⟩=>?_
 refine k q _ _ ?_
 obtain⟨we,TF,tH⟩:=tB.set (x:=lo q) (y:=⟨none,.dead⟩) df aq aB
 have asG:(ar::aS::R).Perm (ar::aS::we):=hJ.symm.trans TF
 have acq:R.Perm we:=(asG.cons_inv).cons_inv
 rw[hS]at ad az
 have aV:bO c E (lo q::⟨none,.dead⟩::R) a W':= {ad with
  own:=λe he=>by
   simp only[dP]at he;rcases he with rfl|rfl|he
   ·exact ad.own _ (by simp)
   ·trivial
   exact ad.own _ (by simp[he])}
 have bc:bO c E ((L.set i (lo q)).set j ⟨none,.dead⟩) a W':=aV.perm (((acq.cons _).cons _).trans tH.symm)
 have bq:(ks ((L.set i (lo q)).set j ⟨none,.dead⟩)).Perm (ks (lo q::R)):=by
  have:=AP (tH.trans ((acq.symm.cons _).cons _));simpa[ks]using this
 refine bc.put (by simpa using aM) (J.mono _ (.drop λk hm=>?_) az)
 rcases cF.1 hm with hm|hm
 ·exact cF.2 (.inl (bq.mem_iff.1 hm))
 exact cF.2 (.inr hm)
def Tz{L:aa aK}{i:Nat}{x e:aK}(h:L[i]? =some x):(L.set i e)[i]? =some e:=by
 rw[FH (iu.1 h).1]
def ac7{L:aa aK}{i j:Nat}{r:aD aK}{e:aK}(aM:Nat.beq j i=false)(h:L[i]? =r):(L.set j e)[i]? =r:=by
 rw[xM (λe=>by rw[e,nk]at aM;cases aM)];exact h
def ajv{p lo cap:Nat}{α:Type}[ak α](aT:aU c E L y (.eq (jJ (some p) lo 0 cap (ak.size α)))):Src c E L y 0 ([]:aa α):=λa W s=>by
 have h1:a.eval y=_:=aT a W s;have ae:=KJ (P:=c.P) W (if cap=lo then(⟨p,0,none⟩:Addr)else⟨p,lo*ak.size α,none⟩) [] (λj v bb=>by simp at bb);refine⟨by rw[h1];rfl,[],?_,⟨by simp,λi aq=>by simp at aq⟩,by simp⟩;rw[h1];simp only[jJ,Builtin.firstCells,List.length_nil,Af];exact ae
def ag.aa4{rest:aa Oper}{i e p a7 m N cap T:Nat}{α:Type}[ak α]{xs vs r:aa α}(hu:c.P.underlying t=some (.slice e))(e4:bS c.P e α)
 (au:aU c E L x (.eq (aP (some p) m cap))) (aT:Src c E L y N vs) (jz:vs.length=N) (av:L[i]? =some ⟨some p,.row T xs cap⟩) (hm:m+N<=xs.length) (aG:xs.take m++vs++xs.drop (m+N)=r) (aM:Nat.blt a7 c.n=true)
 (k:ag c ops Q rest ((a7,.eq (aP (some p) (m+N) cap))::E) (L.set i ⟨some p,.row T r cap⟩)):
 ag c ops Q (⟨some a7,.call ⟨.builtin .append,#[x,y],#[t,t]⟩,ty,pos,af,none⟩::rest) E L:=λa W s=>by
 subst jz
 subst aG
 have h1:a.eval x=_:=au a W s
 obtain⟨al,cells,ae,px,E2⟩:=aT a W s
 obtain⟨o,a6,bW⟩:=s.own _ (fB av)
 have asH:=bW
 obtain⟨vY,rfl,g1,g2,g3,g4⟩:=bW
 obtain⟨cs,e9,Nj,tz⟩:=Ql (lo:=m) hm asH px
 have uN:cs=vY:=by injection e9 with h _;exact h.symm
 subst uN
 obtain⟨hG,en,ee⟩:=e4.info
 have b1:=Ga (P:=c.P) p (m*ak.size α) T cells 0 cs W a6 Nj E2
 simp only[Nat.add_zero]at b1
 have aoh:m+vs.length<=cap:=by omega
 have kG:(execOp a.eval ⟨some a7,.call ⟨.builtin .append,#[x,y],#[t,t]⟩,ty,pos,af,none⟩).run c.P W=.ok (.value (aP (some p) (m+vs.length) cap)) (W.setRow p (cs.toList.take (m*ak.size α)++cells++cs.toList.drop (m*ak.size α+cells.length)).toArray):=by
  simp[execOp,resolve,invoke,builtin,Builtin.append_,h1,aP,eo hu,al,Go.sizeOf,typeInfo,en,ee,aoh,ae,ln,b1]
 refine jn I (R:=λv iZ=>v=aP (some p) (m+vs.length) cap∧iZ=W.setRow p (cs.toList.take (m*ak.size α)++cells++cs.toList.drop (m*ak.size α+cells.length)).toArray) (.mS kG ⟨rfl,rfl⟩) λv iZ ⟨bb,hw⟩=>?_
 subst bb
 subst hw
 exact k _ _ ((s.store av a6 tz).put (by simpa using aM) I)
def ajh{i T cap:Nat}{key:aD Nat}{α:Type}[ak α]{xs:aa α}{e:bK}{lo aq UM:cu}{m n k:Nat}(hu:c.P.underlying t=some (.slice e))(e4:bS c.P e α)(au:aU c E L x (.eq (aP key xs.length cap)))
 (av:L[i]? =some ⟨key,.row T xs cap⟩) (hS:aU c E L lo (.of (m:Int))) (gE:aU c E L aq (.of (n:Int))) (E5:aU c E L UM (.of (k:Int))) (h:m<=n∧n<=k∧k<=xs.length):
 bj c E L ⟨d,.slice t x (some lo) (some aq) (some UM),ty,pos,af,g⟩ .any:=.pure λa W s=>by
 obtain⟨ad,az,aV⟩:=h
 obtain⟨hG,en,ee⟩:=e4.info
 have h1:a.eval x=_:=au a W s
 have ar:=of_int.1 (hS a W s)
 have aS:=of_int.1 (gE a W s)
 have cE:=of_int.1 (E5 a W s)
 have yJ:∃at8 r1,aP key xs.length cap=.slice at8 r1 cap∨(aP key xs.length cap=.slice none 0 0∧k=0):=by
  cases key with
  |some p=>exact⟨_,_,.inl I⟩
  | none=>
    have a6:=s.own _ (fB av)
    have p7:xs=[]:=a6.1
    subst p7
    exact⟨none,0,.inr ⟨rfl,by simpa using aV⟩⟩
 have asI:xs.length<=cap∨key=none:=by
  cases key with
  |none=>exact .inr I
  | some p=>
    obtain⟨o,a6,cs,rfl,g1,g2,_⟩:=s.own _ (fB av)
    exact .inl g2
 cases key with
 | none=>
   have a6:=s.own _ (fB av)
   have p7:xs=[]:=a6.1
   subst p7
   have asJ:k=0:=by simpa using aV
   subst asJ
   have vW:n=0:=by omega
   subst vW
   have h8:m=0:=by omega
   subst h8
   have hb:∀(code:BoundsCode),(Instr.sliceBound (.int .i64 0) 0 code).run c.P W=.ok 0 W:=λcode=>s0 (n:=0) (m:=0) (iV _) I
   have asK:a.eval lo=.int .i64 0:=ar
   have asL:a.eval aq=.int .i64 0:=aS
   have asM:a.eval UM=.int .i64 0:=cE
   refine⟨.slice none 0 0,?_,trivial⟩
   simp[execOp,Instr.sliceAt,Instr.slice,Instr.sliceBounds,h1,aP,eo hu,Go.sizeOf,typeInfo,en,asK,asL,asM,hb]
 | some p=>
   have aq7:k<=cap:=by
    rcases asI with h|h
    ·omega
    cases h
   refine⟨.slice (some (if k=m then⟨p,0,none⟩else⟨p,m*ak.size α,none⟩)) (n-m) (k-m),?_,trivial⟩
   have hb:∀(a b:Nat) (code:BoundsCode),a<=b->(Instr.sliceBound (.int .i64 (a:Int)) b code).run c.P W=.ok a W:=λa b code h=>s0 h I
   simp[execOp,Instr.sliceAt,Instr.slice,Instr.sliceBounds,h1,aP,eo hu,Go.sizeOf,typeInfo,en,ee,ar,aS,cE,hb k cap _ aq7,hb n k _ az,hb m n _ ad,ln]
   split <;> rfl
def aly{p n cap e:Nat}(hu:c.P.underlying t=some (.slice e))(au:aU c E L x (.eq (aP (some p) n cap))):bj c E L ⟨d,.call ⟨.builtin .len,#[x],#[t]⟩,ty,pos,af,g⟩ (.of (n:Int)):=.pure λa W s=>by
 have h1:a.eval x=_:=au a W s;refine⟨.int .i64 n,?_,of_int.2 I⟩;simp[execOp,resolve,invoke,builtin,Builtin.len_,h1,aP,eo hu,goInt]
def ag.alx{rest:aa Oper}{i e p a7 m n cap T:Nat}{α:Type}[ak α]{xs:aa α}(hu:c.P.underlying t=some (.slice e))(e4:bS c.P e α)
 (au:aU c E L x (.eq (jJ (some p) 0 (m-0) cap (ak.size α)))) (aT:aU c E L y (.eq (jJ (some p) n (xs.length-n) cap (ak.size α)))) (av:L[i]? =some ⟨some p,.row T xs cap⟩) (vR:m<n) (aM:n<=xs.length) (hd:Nat.blt a7 c.n=true)
 (k:ag c ops Q rest ((a7,.eq (aP (some p) (m+(xs.length-n)) cap))::E) (L.set i ⟨some p,.row T (xs.take m++xs.drop n++xs.drop (m+(xs.length-n))) cap⟩)):
 ag c ops Q (⟨some a7,.call ⟨.builtin .append,#[x,y],#[t,t]⟩,ty,pos,af,none⟩::rest) E L:=by
 have nb:aU c E L x (.eq (aP (some p) m cap)):=by
  rw[DT,Nat.sub_zero]at au;exact au
 rcases sW n xs.length with p8|p8
 ·have hs:=Mf (k:=xs.length-n) aT av (by omega) (by omega)
  rw[show(xs.drop n).take (xs.length-n)=xs.drop n by rw[pH (by simp)]]at hs
  exact ag.aa4 hu e4 nb hs (by simp) av (by omega) I hd k
 have bC:xs.length-n=0:=by omega
 rw[bC]at aT k
 have hs:=ajv (α:=α) aT
 rw[show([]:aa α)=xs.drop n by rw[Cw p8]]at hs
 exact ag.aa4 hu e4 nb hs (by simp;omega) av (by omega) I hd k
def an.again{z:Exit}{key:aD Nat}{cp:e3}(cp':e3)(i:Nat)(av:L[i]? =some ⟨key,cp⟩)(h:∀A W o,cp.holds A W o->cp'.holds A W o)(aM:cp.pU->cp'.pU)(k:an c Q z E (L.set i ⟨key,cp'⟩)):an c Q z E L:=λa W s=>
 k a W (s.again av h aM)
end
def IT{α:Type}(xs:aa α)(i j:Int):aD (aa α):=if 0<=i∧i<=j∧j<=xs.length then some (xs.take i.toNat++xs.drop j.toNat)else none
def ah6{α:Type}{xs r:aa α}{i j:Int}(h:IT xs i j=some r):∃m n:Nat,i=m∧j=n∧m<=n∧n<=xs.length∧r=xs.take m++xs.drop n:=by
 unfold IT at h;split at h
 ·rename_i ae;refine⟨i.toNat,j.toNat,by omega,by omega,by omega,by omega,?_⟩;cases h;rfl
 cases h
abbrev aj(α:Type):=(α->Prop)->Prop
def aj.of{α:Type}(o:aD α):aj α:=λQ=> ∃r,o=some r∧Q r
def aj.bind{α β:Type}(m:aj α)(k:α->aj β):aj β:=λQ=>m λr=>k r Q
def aj.ret{α:Type}(x:α):aj α:=λQ=>Q x
def nZ{σ ε:Type}:Nat->(σ->aj (σ⊕ε))->σ->aj ε
 |0,_,_=>λ_=>False
 | n+1,b,s=>λQ=>b s λr=>match r with
   | .inl cq=>nZ n b cq Q
   | .inr e=>Q e
abbrev aL(bM:Type):=aa (Nat×bM)
abbrev Ref:=aD Nat
instance:ak Ref:=.scalar (λx=>Value.pointer (x.map λp=>⟨p,0,none⟩)) λ_=>rfl
def yv{A W v}{x:Ref}:(J.of x).holds A W v↔v=.pointer (x.map λp=>⟨p,0,none⟩):=
 ⟨λh=>o6 h.1 h.2,λh=>by subst h;exact⟨rfl,rfl⟩⟩
instance:a8 Ref:=⟨[.pointer none],λ_ _=>rfl⟩
def aj.mk{bM:Type}(hp:aL bM)(k:bM):aj (Nat×aL bM):=λQ=> ∀a:Nat×aL bM,a.1∉hp.map (·.1)∧a.2=(a.1,k)::hp->Q a
def aj.qu{bM α:Type}{hp:aL bM}{c:bM}{k:Nat×aL bM->aj α}{R:α->Prop}(h:aj.bind (aj.mk hp c) k R)(a:Nat×aL bM)(aY:a.1∉hp.map (·.1)∧a.2=(a.1,c)::hp):k a R:=h a aY
class eu (bM:Type)where
 gR:Nat->bM->aa aK
 root:∀p k,∃e∈gR p k,e.key=some p
def a1{bM:Type}[eu bM]:aL bM->aa aK
 |[]=>[]
 |(p,k)::r=>eu.gR p k++a1 r
def pat{bM:Type}:aL bM->Nat->aD bM
 |[],_=>none
 |(q,k)::r,p=>if q=p then some k else pat r p
def cJ{bM:Type}:aL bM->Nat->bM->aL bM
 |[],_,_=>[]
 |(q,k)::r,p,k'=>if q=p then(q,k')::r else(q,k)::cJ r p k'
def eb{bM:Type}(hp:aL bM):aa Nat:=hp.map (·.1)
def wB{bM:Type}[eu bM]:∀{hp:aL bM} {p:Nat} {k:bM},pat hp p=some k->∃R,(a1 hp).Perm (eu.gR p k++R)∧∀k',(a1 (cJ hp p k')).Perm (eu.gR p k'++R)
 |[],_,_,h=>by simp[pat]at h
 | (q,xF)::r,p,k,h=>by
   simp only[pat]at h;split at h
   ·rename_i e;subst e;simp only[gk]at h;subst h;exact⟨a1 r,.refl _,λk'=>by simp only[cJ,bh];exact .refl _⟩
   rename_i e;obtain⟨R,h1,ad⟩:=wB h;refine⟨eu.gR q xF++R,?_,λk'=>?_⟩
   ·exact(h1.append_left (eu.gR q xF)).trans (by rw[<-iJ,<-iJ];exact nR.append_right R)
   simp only[cJ,bf e];exact((ad k').append_left (eu.gR q xF)).trans (by rw[<-iJ,<-iJ];exact nR.append_right R)
def ZB{bM:Type}[eu bM]{hp:aL bM}{p:Nat}(h:p∈eb hp):p∈ks (a1 hp):=by
 induction hp with
 |nil=>simp[eb]at h
 | cons x r cj=>
   obtain⟨q,k⟩:=x
   simp only[eb,nT,dP]at h
   simp only[a1,fM,cF]
   rcases h with h|h
   ·subst h
    obtain⟨e,he,hk⟩:=eu.root p k
    exact .inl (tc.2 ⟨e,he,hk⟩)
   exact .inr (cj h)
def kj{bM:Type}{hp:aL bM}{p:Nat}{k:bM}(h:pat hp p=some k):p∈eb hp:=by
 induction hp with
 |nil=>simp[pat]at h
 | cons x r cj=>
   simp only[pat]at h
   split at h
   ·rename_i e;simp[eb,e]
   simp only[eb,nT,dP];exact .inr (cj h)
def sf{bM:Type}{hp:aL bM}{p:Nat}{k:bM}:eb (cJ hp p k)=eb hp:=by
 induction hp with
 |nil=>rfl
 |cons x r cj=>simp only[cJ];split <;> simp_all [eb]
def H3{bM:Type}{hp:aL bM}{p q:Nat}{k:bM}:pat (cJ hp p k) q=if p=q then(pat hp p).map (λ_=>k)else pat hp q:=by
 induction hp with
 |nil=>simp[cJ,pat]
 | cons x r cj=>
   simp only[cJ]
   by_cases e:x.1=p
   ·rw[bh e]
    by_cases h:p=q
    ·simp[pat,e,h]
    have: ¬x.1=q:=λcW=>h (e▸cW)
    simp[pat,e,h]
   rw[bf e]
   by_cases h:p=q
   ·subst h
    rw[bh I]at cj⊢
    simp[pat,e,cj]
   rw[bf h]at cj⊢
   simp[pat,cj]
section
variable{c:cM}{E:aa (Nat×J)}{L:aa aK}{ops:Array Oper}{Q:Exit->Act->bn->Prop}
variable{d:aD Tmp}{ty:bK}{pos:String}{af:Array Edge}{g:aD (Nat×Bool)}{x y:cu}{t t2:bK}
def ajw{L L':aa aK}(p:L.Perm L'){A:aa Nat}(k:Nat):k∈ks L++A↔k∈ks L'++A:=by
 simp only[cF];rw[(AP p).mem_iff]
def pP{L L':aa aK}(p:L.Perm L'){A:aa Nat}{W:bn}:Ext (ks L++A) W (ks L'++A) W:=.drop λk hm=>(ajw p k).2 hm
def aU.perm{L':aa aK}{x:cu}{τ:J}(p:L.Perm L')(h:aU c E L x τ):aU c E L' x τ:=λa W s=>
 τ.mono (pP p) (h a W (s.perm p.symm))
def ag.perm{l:aa Oper}{L':aa aK}(p:L.Perm L')(h:ag c ops Q l E L):ag c ops Q l E L':=λa W s=>h a W (s.perm p.symm)
def j2{x:cu}{r:Ref}{p:Nat}(au:aU c E L x (.of r))(h:r=some p):aU c E L x (.eq (.pointer (some ⟨p,0,none⟩))):=λa W s=>by
 subst h;exact yv.1 (au a W s)
def o5:aU c E L (.const (.pointer none)) (.of (none:Ref)):=λa W s=>yv.2 I
variable{bM:Type}[eu bM]{hp:aL bM}{loc:aa aK}
def jt{p n:Nat}{k:bM}{e:aK}(av:L.drop n=a1 hp)(h:pat hp p=some k)(hk:eu.gR p k=[e]):e∈L:=by
 obtain⟨R,h1,_⟩:=wB h;rw[hk]at h1;have:e∈L.drop n:=by rw[av];exact h1.mem_iff.2 (by simp)
 exact CA this
def pf{L':aa aK}{e:aK}(av:∀(i:Nat) (e:aK),L[i]? =some e->L'[i]? =some e)(h:e∈L):e∈L':=by
 obtain⟨i,aq⟩:=o3.1 h;exact fB (av i e aq)
def o8{x:cu}{t:bK}{p o:Nat}{β γ:Type}[ak β][ak γ]{b:β}(l:aQ β γ){r:γ}(ej:bS c.P t γ)(au:aU c E L x (.eq (.pointer (some ⟨p,o,none⟩))))
 (hm:(⟨some p,.var b⟩:aK)∈L) (a6:o=l.off) (aG:l.get b=r):bj c E L ⟨d,.load t x,ty,pos,af,g⟩ (.of r):=by
 obtain⟨i,aq⟩:=o3.1 hm
 exact jb (i:=i) l ej au aq a6 aG
def ag.akT{x y:cu}{t:bK}{rest:aa Oper}{p o:Nat}{k k':bM}{β γ:Type}[ak β][ak γ]{b b':β}{v:γ}(l:aQ β γ)(ej:bS c.P t γ)(au:aU c E (loc++a1 hp) x (.eq (.pointer (some ⟨p,o,none⟩))))
 (aT:aU c E (loc++a1 hp) y (.of v)) (hp':pat hp p=some k) (hk:eu.gR p k=[⟨some p,.var b⟩]) (kJ:eu.gR p k'=[⟨some p,.var b'⟩]) (a6:o=l.off) (hb:l.set b v=b')
 (nN:ag c ops Q rest E (loc++a1 (cJ hp p k'))):ag c ops Q (⟨none,.store t x y,ty,pos,af,none⟩::rest) E (loc++a1 hp):=by
 obtain⟨R,h1,ad⟩:=wB hp'
 have ad:=ad k'
 rw[hk]at h1
 rw[kJ]at ad
 have cc:∀{z:β} {M:aa aK},M.Perm ([⟨some p,.var z⟩]++R)->(loc++M).Perm (⟨some p,.var z⟩::(loc++R)):=λh=>(h.append_left loc).trans (by simp only[List.singleton_append];exact sS)
 exact ag.perm (cc h1).symm (ag.store (i:=0) l ej (au.perm (cc h1)) (aT.perm (cc h1)) I a6 hb (ag.perm (cc ad) nN))
def ag.qz{x y:cu}{t:bK}{rest:aa Oper}{p o:Nat}{k k':bM}{cZ:aL bM}{β γ:Type}[ak β][ak γ]{b b':β}{v:γ}(n:Nat)(av:L.drop n=a1 hp)(l:aQ β γ)(ej:bS c.P t γ)(au:aU c E L x (.eq (.pointer (some ⟨p,o,none⟩))))(aT:aU c E L y (.of v))(hp':pat hp p=some k)(hk:eu.gR p k=[⟨some p,.var b⟩])(kJ:eu.gR p k'=[⟨some p,.var b'⟩])(a6:o=l.off)(hb:l.set b v=b')(bU:cJ hp p k'=cZ)(nN:ag c ops Q rest E (L.take n++a1 cZ)):ag c ops Q (⟨none,.store t x y,ty,pos,af,none⟩::rest) E L:=by
 subst bU;have e:L=L.take n++a1 hp:=by rw[<-av,gz]
 clear av;generalize L.take n=loc at *;subst e;exact ag.akT l ej au aT hp' hk kJ a6 hb nN
def bO.fresh{a:Act}{W:bn}(s:bO c E (loc++a1 hp) a W):W.heap.size∉eb hp:=λh=>by
 have:=s.lt _ (by rw[fM];exact cF.2 (.inr (ZB h)));omega
def ag.aoi{t:bK}{x:cu}{rest:aa Oper}{a7:Nat}{α:Type}[ak α]{z:α}(mk:bM)(hk:∀p,eu.gR p mk=[⟨some p,.var z⟩])(au:aU c E (loc++a1 hp) x (.of z))(aM:Nat.blt a7 c.n=true)
 (k:∀p,p∉eb hp->ag c ops Q rest ((a7,.of (some p:Ref))::E) (loc++a1 ((p,mk)::hp))):ag c ops Q (⟨some a7,.box t x,ty,pos,af,none⟩::rest) E (loc++a1 hp):=λa W s=>by
 refine jn I (R:=λv W'=>v=.pointer (some ⟨W.heap.size,0,none⟩)∧W'=W.alloc (.cells (a.eval x).cells t)) (.mS ?_ ⟨rfl,rfl⟩) λv W' ⟨bb,hw⟩=>?_
 ·simp[execOp,Instr.box,newVar,newRow]
 subst bb
 subst hw
 refine k _ s.fresh _ _ (bO.put ?_ (by simpa using aM) (yv.2 I))
 refine(s.alloc (cp:=.var z) ⟨_,t,rfl,(au a W s).2⟩).perm ?_
 simp only[a1,hk,List.singleton_append]
 exact sS.symm
def ag.yG{t:bK}{x:cu}{rest:aa Oper}{a7:Nat}{α:Type}[ak α]{z:α}(n:Nat)(av:L.drop n=a1 hp)(mk:bM)(hk:∀p,eu.gR p mk=[⟨some p,.var z⟩])(au:aU c E L x (.of z))(aM:Nat.blt a7 c.n=true)(k:∀a:Nat×aL bM,a.1∉hp.map (·.1)∧a.2=(a.1,mk)::hp->ag c ops Q rest ((a7,.of (some a.1:Ref))::E) (L.take n++a1 a.2)):ag c ops Q (⟨some a7,.box t x,ty,pos,af,none⟩::rest) E L:=by
 have e:L=L.take n++a1 hp:=by rw[<-av,gz]
 clear av;generalize L.take n=loc at *;subst e;exact ag.aoi mk hk au aM λp h=>k (p,(p,mk)::hp) ⟨h,rfl⟩
def ox{A B C:aa aK}:((A++B)++C).Perm ((A++C)++B):=by
 rw[iJ,iJ];exact nR.append_left A
def ag.fS{rest:aa Oper}{a7:Nat}{f:FuncId}{xs:aa cu}{ats:Array bK}{τs:aa J}{Lin Lr:aa aK}{δ:Type}{ρ:δ->J}{Lo:δ->aa aK}{hq:δ->aL bM}(ck:bJ c.P f)(h:bN c.P f τs (Lin++a1 hp) ρ (λd=>Lo d++a1 (hq d)))
 (au:jr c E ((Lin++Lr)++a1 hp) xs τs) (aM:Nat.blt a7 c.n=true) (k:∀q,ag c ops Q rest ((a7,ρ q)::E) ((Lo q++Lr)++a1 (hq q))):
 ag c ops Q (⟨some a7,.call ⟨.value (.func f),xs.toArray,ats⟩,ty,pos,af,none⟩::rest) E ((Lin++Lr)++a1 hp):=λa W s=>
 jn I (HG (Lr:=Lr) ck h (s.perm ox) ((au.holds a W s).mono (pP ox))) λv W' ⟨q,cq,bb⟩=>
  k q _ _ ((cq.perm ox).put (by simpa using aM) ((ρ q).mono (pP ox) bb))
def ag.ek{rest:aa Oper}{a7:Nat}{f:FuncId}{xs:aa cu}{ats:Array bK}{τs:aa J}{Lin Lr:aa aK}{δ:Type}{ρ:δ->J}{Lo:δ->aa aK}{hq:δ->aL bM}(n m:Nat)(av:L.drop n=a1 hp)(ck:bJ c.P f)(h:bN c.P f τs (Lin++a1 hp) ρ (λd=>Lo d++a1 (hq d)))
 (h1:(L.take n).take m=Lin) (ad:(L.take n).drop m=Lr) (au:jr c E L xs τs) (aM:Nat.blt a7 c.n=true) (k:∀q,ag c ops Q rest ((a7,ρ q)::E) ((Lo q++Lr)++a1 (hq q))):
 ag c ops Q (⟨some a7,.call ⟨.value (.func f),xs.toArray,ats⟩,ty,pos,af,none⟩::rest) E L:=by
 have e:L=(Lin++Lr)++a1 hp:=by rw[<-h1,<-ad,gz,<-av,gz]
 clear av h1 ad
 subst e
 exact ag.fS ck h au aM k
def dL.alY{f:FuncId}{xs:aa cu}{ats:Array bK}{τs:aa J}{ρ:J}(ck:bJ c.P f)(h:bN c.P f τs (a1 hp) (λ_:Unit=>ρ) (λ_=>a1 hp))
 (au:jr c E (loc++a1 hp) xs τs):dL c E (loc++a1 hp) ⟨d,.call ⟨.value (.func f),xs.toArray,ats⟩,ty,pos,af,g⟩ ρ:=λa W s=>by
 have cc:(loc++a1 hp).Perm (a1 hp++loc):=nR
 have a6:=HG (d:=d) (ty:=ty) (pos:=pos) (af:=af) (g:=g) (ats:=ats) (Lr:=loc) ck h (s.perm cc) ((au.holds a W s).mono (pP cc))
 unfold h4 at a6⊢
 exact uc (λiI W' ⟨v,h1,_,ad,az⟩=>⟨v,h1,ad.perm cc.symm,ρ.mono (pP cc.symm) az⟩) a6
def dL.fS{f:FuncId}{xs:aa cu}{ats:Array bK}{τs:aa J}{ρ:J}(n:Nat)(av:L.drop n=a1 hp)(ck:bJ c.P f)(h:bN c.P f τs (a1 hp) (λ_:Unit=>ρ) (λ_=>a1 hp))(au:jr c E L xs τs):dL c E L ⟨d,.call ⟨.value (.func f),xs.toArray,ats⟩,ty,pos,af,g⟩ ρ:=by
 have e:L=L.take n++a1 hp:=by rw[<-av,gz]
 clear av;generalize L.take n=loc at *;subst e;exact dL.alY ck h au
def PL{P:Program}{e:bK}(W:bn)(n:Nat){t:bK}(a:aD Addr)(h:P.underlying t=some (.pointer e)):(Op.equalIn (n+1) t (.pointer a) (.pointer none)).run P W=.ok a.isNone W:=by
 cases a <;> simp[Op.equalIn,eo h]
def AJ{r:Ref}{e:bK}(hu:c.P.underlying t=some (.pointer e))(au:aU c E L x (.of r)):bj c E L ⟨d,.binOp .eql t x (.const (.pointer none)) t2,ty,pos,af,g⟩ (.of r.isNone):=.pure λa W s=>by
 have h1:=yv.1 (au a W s);refine⟨.bool r.isNone,?_,of_bool.2 I⟩;have aM:a.eval (.const (.pointer none))=.pointer none:=rfl;simp only[execOp,eqGuard,binOp,h1,aM,Op.equal,Op.maxDepth];have:=PL (P:=c.P) W 9999 (r.map λp=>⟨p,0,none⟩) hu;simp only[Option.isNone_map]at this;simp[this]
def aiv{r:Ref}{e:bK}(hu:c.P.underlying t=some (.pointer e))(au:aU c E L x (.of r)):bj c E L ⟨d,.binOp .neq t x (.const (.pointer none)) t2,ty,pos,af,g⟩ (.of r.isSome):=.pure λa W s=>by
 have h1:=yv.1 (au a W s);refine⟨.bool r.isSome,?_,of_bool.2 I⟩;have aM:a.eval (.const (.pointer none))=.pointer none:=rfl;simp only[execOp,eqGuard,binOp,h1,aM,Op.equal,Op.maxDepth];have:=PL (P:=c.P) W 9999 (r.map λp=>⟨p,0,none⟩) hu;simp only[Option.isNone_map]at this;simp[this]
end
def ahF{P:Program}{t e el:bK}{n:Nat}(h:P.underlying t=some (.array n e))(e4:bS P e Ref)(hu:P.underlying e=some (.pointer el)){A:aa Nat}{W:bn}{u v:bs}{x y:Vector Ref n}(au:(J.of x).holds A W u)(aT:(J.of y).holds A W v)
 (aM:∀i,i<n->bG y i=none) (d:Nat) (hd:2<=d):(Op.equalIn d t u v).run P W=.ok (decide (x=y)) W:=by
 obtain⟨d,rfl⟩:∃e,d=e+1:=⟨d-1,by omega⟩
 obtain⟨h1,ad⟩:=au
 obtain⟨az,aV⟩:=aT
 obtain⟨xs,rfl⟩:∃cs,u=.agg cs:=by simpa[shaped,ak.agg]using h1
 obtain⟨ys,rfl⟩:∃cs,v=.agg cs:=by simpa[shaped,ak.agg]using az
 simp only[Value.cells]at ad aV
 have xp:xs.toList.length=n*ak.size Ref:=ak.len ad
 have Jh:ys.toList.length=n*ak.size Ref:=ak.len aV
 have Bb:∀i∈List.range' 0 n,((do
  let a <-part e xs (i*ak.size Ref)
  let b <-part e ys (i*ak.size Ref)
  Op.equalIn d e a b):Sem Bool).run P W=.ok (decide (bG x i=bG y i)) W:=by
  intro i aq
  have iz:i<n:=by simpa using aq
  have ha:i*ak.size Ref+ak.size Ref<=n*ak.size Ref:=(aQ.idx (α:=Ref) n i iz).h7
  obtain⟨a,aY,xq⟩:=vt (A:=A) (P:=P) (W:=W) (cs:=xs) (off:=i*ak.size Ref) e4 (by simp at xp;omega) ((aQ.idx (α:=Ref) n i iz).ki ad)
  obtain⟨b,hb,Ji⟩:=vt (A:=A) (P:=P) (W:=W) (cs:=ys) (off:=i*ak.size Ref) e4 (by simp at Jh;omega) ((aQ.idx (α:=Ref) n i iz).ki aV)
  simp only[eg,aY,hb,Result.andThen_ok]
  obtain⟨d,rfl⟩:∃e,d=e+1:=⟨d-1,by omega⟩
  have ar:=yv.1 xq
  have aS:=yv.1 Ji
  subst ar;subst aS
  have E6:(aQ.idx (α:=Ref) n i iz).get y=none:=aM i iz
  rw[E6,Option.map_none,PL W d _ hu]
  have cE:bG y i=none:=aM i iz
  rw[cE]
  show Result.ok ((bG x i).map _).isNone W=_
  congr 1
  cases bG x i <;> rfl
 have aW:=PK (P:=P) (W:=W) _ _ _ Bb
 have n3:(List.range' 0 n).all (λi=>decide (bG x i=bG y i))=decide (x=y):=by
  rw[kP,lj,e5];constructor
  ·intro h;apply Vector.ext;intro i aq;have:=h i (by simpa using aq);simpa[bG,aq]using this
  rintro rfl i _;simp
 rw[n3]at aW
 simp only[Op.equalIn,eg,eo h,Result.andThen_ok,e4.sizeOf,Om]
 simp only[Std.Legacy.Range.size,Nat.sub_zero,Nat.add_one_sub_one,PF]at aW⊢
 simp only[bind_assoc]at aW
 rw[aW]
 by_cases Jj:x=y
 ·simp[Jj]
 simp[Jj]
def ajg{c:cM}{E:aa (Nat×J)}{L:aa aK}{d:aD Tmp}{ty:bK}{pos:String}{af:Array Edge}{g:aD (Nat×Bool)}{x y:cu}{t t2 e el:bK}{n:Nat}{a b:Vector Ref n}(h:c.P.underlying t=some (.array n e))(e4:bS c.P e Ref)(hu:c.P.underlying e=some (.pointer el))(bz:c.P.eqGuardType c.P.depth t=false)
 (au:aU c E L x (.of a)) (aT:aU c E L y (.of b)) (aM:∀i,i<n->bG b i=none):bj c E L ⟨d,.binOp .eql t x y t2,ty,pos,af,g⟩ (.of (decide (a=b))):=.pure λA W s=>by
 have h1:=au A W s
 have ad:=aT A W s
 obtain⟨xs,p7⟩:∃cs,A.eval x=.agg cs:=by simpa[shaped,ak.agg]using h1.1
 obtain⟨ys,y6⟩:∃cs,A.eval y=.agg cs:=by simpa[shaped,ak.agg]using ad.1
 have az:=ahF h e4 hu h1 ad aM 10000 (by decide)
 rw[p7,y6]at az
 refine⟨.bool (decide (a=b)),?_,of_bool.2 I⟩
 simp only[execOp,p7,y6,eg,Pd W .eql t x y xs ys bz,Result.andThen_ok,run_eql_struct,az,Sem.run_pure]
section
variable{c:cM}{E:aa (Nat×J)}{L:aa aK}{ops:Array Oper}{Q:Exit->Act->bn->Prop}
def aj.akU{α β:Type}{o:aD α}{k:α->aj β}{R:β->Prop}(h:aj.bind (aj.of o) k R):∃r,o=some r∧k r R:=h
def ahG{F:Fence}{n:Nat}{P:Program}{body:Code}{σ ε:Type}(b:σ->aj (σ⊕ε))(gh:σ->Act->bn->Prop)(X:ε->Exit->Act->bn->Prop)
 (td:∀s R,b s R->∀a W,gh s a W->body.wpIn F n P (λx a W=>(∃cq,R (.inl cq)∧x=.normal∧gh cq a W)∨∃e,R (.inr e)∧x≠ .normal∧X e x a W) a W)
 (Q:Exit->Act->bn->Prop) (R:ε->Prop) (qB:∀e x a W,R e->X e x a W->Q x a W) {b9:σ} {N:Nat} (al:nZ N b b9 R) {a0:Act} {kc:bn} (bC:gh b9 a0 kc):
 (Code.loop body).wpIn F n P Q a0 kc:=by
 intro ef k cs k9 hb aG
 have key:∀N s,nZ N b s R->∀a W,gh s a W->
  ∃x iI W',Q x iI W'∧ArrivesIn (Machine.fenced P F) P (lone (ef.atR a (.code body::.inLoop body::k)) cs W) ef k cs x iI W':=by
  intro N
  induction N with
  |zero=>intro s h;exact h.elim
  | succ N cj=>
    intro s h a W ni
    obtain⟨x,tA,EH,hq,pk⟩:=td s _ h a W ni ef (.inLoop body::k) cs k9 hb aG
    rcases hq with⟨cq,h1,au,TH⟩|⟨e,h1,au,oh⟩
    ·subst au
     obtain⟨Te,Tf,Tg,Sw,QM⟩:=cj cq h1 tA EH TH
     exact⟨Te,Tf,Tg,Sw,.of_steps (Po pk (.one (Dn hb aG I) stepR_inLoop)) QM⟩
    exact⟨x,tA,EH,qB _ _ _ _ h1 oh,.pass (x:=.inLoop body) I (λ_ _=>.inl au) pk⟩
 obtain⟨x,iI,W',hq,pk⟩:=key N b9 al a0 kc bC
 exact⟨x,iI,W',hq,.of_steps (.one (Dn hb aG I) stepR_loop) pk⟩
def eV{σ ε γ δ:Type}(c:cM)(E:σ->γ->aa (Nat×J))(L:σ->γ->aa aK)(xs:ε->Exit)(ib:ε->δ->aa (Nat×J))(Lx:ε->δ->aa aK)(R:σ⊕ε->Prop):Exit->Act->bn->Prop:=λx a W=>
 (∃s,R (.inl s)∧x=.normal∧∃g,bO c (E s g) (L s g) a W)∨∃e,R (.inr e)∧x≠ .normal∧x=xs e∧∃g,bO c (ib e g) (Lx e g) a W
def an.yo{σ ε γ δ:Type}{E':σ->γ->aa (Nat×J)}{L':σ->γ->aa aK}{xs:ε->Exit}{ib:ε->δ->aa (Nat×J)}{Lx:ε->δ->aa aK}{R:σ⊕ε->Prop}{s:σ}(hJ:R (.inl s))(g:γ)(n:Nat)
 (av:L.drop n=L' s g) (h:fP E (E' s g)):an c (eV c E' L' xs ib Lx R) .normal E L:=λa W st=>.inl ⟨s,hJ,rfl,g,by rw[<-av];exact(st.sj n).less h.look⟩
def an.uq{σ ε γ δ:Type}{E':σ->γ->aa (Nat×J)}{L':σ->γ->aa aK}{xs:ε->Exit}{ib:ε->δ->aa (Nat×J)}{Lx:ε->δ->aa aK}{R:σ⊕ε->Prop}{e:ε}{x:Exit}(hJ:R (.inr e))(g:δ)(n:Nat)
 (au:x=xs e) (aM:x≠ .normal) (av:L.drop n=Lx e g) (h:fP E (ib e g)):an c (eV c E' L' xs ib Lx R) x E L:=λa W st=>.inr ⟨e,hJ,aM,au,g,by rw[<-av];exact(st.sj n).less h.look⟩
def ay.nZ{σ ε γ δ:Type}{body:Code}{N:Nat}{b:σ->aj (σ⊕ε)}{b9:σ}{R:ε->Prop}(al:Gv.nZ N b b9 R)
 (E':σ->γ->aa (Nat×J)) (L':σ->γ->aa aK) (xs:ε->Exit) (ib:ε->δ->aa (Nat×J)) (Lx:ε->δ->aa aK) (g0:γ) (av:L=L' b9 g0) (aF:fP E (E' b9 g0))
 (ux:∀s R,b s R->∀g,ay c (eV c E' L' xs ib Lx R) body (E' s g) (L' s g))
 (qB:∀e,R e->∀g,an c Q (xs e) (ib e g) (Lx e g)):ay c Q (.loop body) E L:=λa W st=>by
 subst av
 exact ahG b (λs a W=> ∃g,bO c (E' s g) (L' s g) a W) (λe x a W=>x=xs e∧∃g,bO c (ib e g) (Lx e g) a W)
  (λs R hs a W ⟨g,ni⟩=>wpIn_mono (ux s R hs g a W ni) (λx a W h=>by
   rcases h with⟨cq,h1,ad,az⟩|⟨e',h1,ad,az,aV⟩
   ·exact .inl ⟨cq,h1,ad,az⟩
   exact .inr ⟨e',h1,ad,az,aV⟩)) Q R (λe x a W hJ ⟨au,g,hs⟩=>by subst au;exact qB e hJ g a W hs) al ⟨g0,st.less aF.look⟩
def YW{α:Type}{b:Bool}{m n:aj α}{R:α->Prop}(hb:b=true)(h:cond b m n R):m R:=by subst hb;exact h
def YX{α:Type}{b:Bool}{m n:aj α}{R:α->Prop}(hb:b=false)(h:cond b m n R):n R:=by subst hb;exact h
def ay.alZ{β γ ρ:Type}{lE:ρ->Prop}{x:cu}{b:Bool}{y z:Code}{bk bo:aj β}{k:β->aj ρ}(h:aj.bind (bif b then bk else bo) k lE)(E':β->γ->aa (Nat×J))(L':β->γ->aa aK)(al:aU c E L x (.of b))
 (oU:∀m g,k m lE->an c Q .normal (E' m g) (L' m g))
 (bD:(∀m g,k m lE->an c (ea Q) .normal (E' m g) (L' m g))->b=true->bk (λm=>k m lE)->ay c (ea Q) y E L) (aW:(∀m g,k m lE->an c (ea Q) .normal (E' m g) (L' m g))->b=false->bo (λm=>k m lE)->ay c (ea Q) z E L):ay c Q (.cond x y z) E L:=
 ay.cond al (λhb=>bD oU hb (YW hb h)) (λhb=>aW oU hb (YX hb h))
def ay.Zs{σ ε γ δ ρ:Type}{body:Code}{N:Nat}{b:σ->aj (σ⊕ε)}{b9:σ}{k:ε->aj ρ}{lE:ρ->Prop}(al:aj.bind (Gv.nZ N b b9) k lE)
 (E':σ->γ->aa (Nat×J)) (L':σ->γ->aa aK) (xs:ε->Exit) (ib:ε->δ->aa (Nat×J)) (Lx:ε->δ->aa aK) (g0:γ) (av:L=L' b9 g0) (aF:fP E (E' b9 g0))
 (ux:∀s R,b s R->∀g,ay c (eV c E' L' xs ib Lx R) body (E' s g) (L' s g))
 (qB:∀e,k e lE->∀g,an c Q (xs e) (ib e g) (Lx e g)):ay c Q (.loop body) E L:=
 ay.nZ (R:=λe=>k e lE) al E' L' xs ib Lx g0 av aF ux qB
def amK{n:Nat}:∀i,i<n->bG (default:Vector Ref n) i=none:=λi aq=>by
 have:(default:Vector Ref n)=Vector.replicate n none:=rfl;rw[this];simp[bG,aq]
def IU(s:ByteArray)(i:Int):aD (BitVec 8):=(if 0<=i then s[i.toNat]? else none).map λb=>BitVec.ofNat 8 b.toNat
def aki{d:aD Tmp}{ty:bK}{pos:String}{af:Array Edge}{g:aD (Nat×Bool)}{x y:cu}{t:bK}{s:ByteArray}{i:BitVec 8}{r:BitVec 8}(hu:c.P.underlying t=some .string)(au:aU c E L x (.of s))(aT:aU c E L y (.of i))(aG:IU s (i.toNat:Int)=some r):
 bj c E L ⟨d,.index t x y,ty,pos,af,g⟩ (.of r):=.pure λa W st=>by
 have h1:=Zy.1 (au a W st)
 have ad:=M3.1 (aT a W st)
 unfold IU at aG
 cases hb:(if 0<=(i.toNat:Int)then s[(i.toNat:Int).toNat]? else none)with
 |none=>rw[hb]at aG;cases aG
 | some b=>
   rw[hb]at aG
   simp only[Option.map_some,gk]at aG
   subst aG
   have ca:b.toNat<256:=b.toNat_lt
   refine⟨.int .u8 b.toNat,?_,M3.2 (by simp[KG,zX ca])⟩
   have JA:=hb
   simp only[VG,lY,Int.toNat_natCast]at JA
   simp[execOp,Instr.index,h1,ad,asIntOf,eo hu,JA]
end
structure fl where
 p:Option Nat
 deriving DecidableEq,Inhabited
instance:ak fl:=.scalar (λx=>Value.map x.p) λ_=>rfl
instance:a8 fl:=⟨[.map none],λ_ _=>rfl⟩
def yl{A W v}{x:fl}:(J.of x).holds A W v↔v=.map x.p:=
 ⟨λh=>o6 h.1 h.2,λh=>by subst h;exact⟨rfl,rfl⟩⟩
def ll{c:cM}{E:aa (Nat×J)}{L:aa aK}{x:cu}{r:fl}{p:Nat}(au:aU c E L x (.of r))(h:r.p=some p):aU c E L x (.of (⟨some p⟩:fl)):=λa W s=>by
 have:=yl.1 (au a W s);rw[h]at this;exact yl.2 this
inductive mz{α β:Type}[ak α][ak β](A:List Nat)(W:World):List MapEntry->List (α×β)->Prop
 |nil:mz A W [] []
 |cons {e k v es r}:(J.of k).holds A W e.key->(J.of v).holds A W e.val->mz A W es r->mz A W (e::es) ((k,v)::r)
def mz.mono{α β:Type}[ak α][ak β]{A W cU W'}(h:Ext A W cU W'):∀{es:aa MapEntry} {kv:aa (α×β)},mz A W es kv->mz cU W' es kv
 |_,_,.nil=>.nil
 |_,_,.cons h1 ad r=>.cons (J.mono _ h h1) (J.mono _ h ad) (r.mono h)
def e3.map{α β:Type}[ak α][ak β](kv:aa (α×β)):e3 where
 holds A W o:=∃es clock,o=.map es clock∧mz A W es.toList kv∧(∀x∈es.toList,x.born<clock)∧(es.toList.map MapEntry.born).Nodup
 pU:=False
 mono e h:=let⟨es,clock,h1,ad,az⟩:=h; ⟨es,clock,h1,ad.mono e,az⟩
def dG{α β:Type}[DecidableEq α]:aa (α×β)->α->aD β
 |[],_=>none
 |(k,v)::r,x=>if x=k then some v else dG r x
def gP{α β:Type}[DecidableEq α]:aa (α×β)->α->β->aa (α×β)
 |[],x,y=>[(x,y)]
 |(k,v)::r,x,y=>if x=k then(x,y)::r else(k,v)::gP r x y
def ju{α β:Type}[DecidableEq α]:aa (α×β)->α->aa (α×β)
 |[],_=>[]
 |(k,v)::r,x=>if x=k then r else(k,v)::ju r x
class kZ (α:Type) [ak α]:Prop where
 uniq:∀{A W cs cU W' fj} {x:α},ak.rep A W cs x->ak.rep cU W' fj x->cs=fj
 plain:∀{A W cs} {x:α},ak.rep A W cs x->∀v∈cs,∀n,Instr.sameBits n v v=true
instance:kZ Int:=⟨λh cW=>h.trans cW.symm,λh v bb n=>by subst h;rw[hx.1 bb];simp[Instr.sameBits]⟩
instance:kZ (BitVec 64):=⟨λh cW=>h.trans cW.symm,λh v bb n=>by subst h;rw[hx.1 bb];simp[Instr.sameBits]⟩
instance:kZ Bool:=⟨λh cW=>h.trans cW.symm,λh v bb n=>by subst h;rw[hx.1 bb];simp[Instr.sameBits]⟩
instance{α:Type}[ak α][Inhabited α][kZ α]{n:Nat}:kZ (Vector α n):=⟨λ{A W cs cU W' fj x} h cW=>by
 have Ce:cs.length=n*ak.size α:=ak.len h;have UN:fj.length=n*ak.size α:=ak.len cW;have key:∀m,m<=n->cs.take (m*ak.size α)=fj.take (m*ak.size α):=by
  intro m;induction m with
  |zero=>intro _;simp
  | succ m cj=>
    intro hm
    have E1:m<n:=hm
    have ar:=(aQ.idx (α:=α) n m E1).ki h
    have aS:=(aQ.idx (α:=α) n m E1).ki cW
    have cE:=kZ.uniq ar aS
    rw[sY,Pm,Pm,cj (by omega)]
    congr 1
 have:=key n (iV _);rwa[<-Ce,iD,Ce,<-UN,iD]at this,
 λ{A W cs x} h v bb k=>by
  have Ce:cs.length=n*ak.size α:=ak.len h;obtain⟨i,aq,rfl⟩:=KC bb;by_cases hs:ak.size α=0
  ·rw[hs,Nat.mul_zero]at Ce;omega
  have hq:i/ak.size α<n:=Vw (by rw[Ce,sX]at aq;exact aq);have ar:=(aQ.idx (α:=α) n (i/ak.size α) hq).ki h;refine kZ.plain ar _ ?_ k;have aG:i % ak.size α<ak.size α:=Dt _ (by omega);have hd:=Gt i (ak.size α);refine o3.2 ⟨i % ak.size α,?_⟩;simp only[aQ.idx];rw[lG,bh aG,mK,sX,hd];exact o2 aq⟩
def HV{cs fj:aa bs}(o s:Nat)(h:(cs.drop o).take s=(fj.drop o).take s)(k:cs.drop (o+s)=fj.drop (o+s)):cs.drop o=fj.drop o:=by
 rw[<-gz s (cs.drop o),<-gz s (fj.drop o),h,GI,GI,k]
def YY{cs fj:aa bs}{n:Nat}(h:cs.length=n)(cW:fj.length=n)(k:cs.drop 0=fj.drop 0):cs=fj:=by simpa using k
def YZ{cs fj:aa bs}{n m:Nat}(h:cs.length=n)(cW:fj.length=n)(k:n<=m):cs.drop m=fj.drop m:=by
 rw[zG (by omega),zG (by omega)]
def ahH{α:Type}[ak α][kZ α]{A W cU W' u v}{x:α}(h:(J.of x).holds A W u)(cW:(J.of x).holds cU W' v):u=v:=by
 obtain⟨h1,ad⟩:=h;obtain⟨az,aV⟩:=cW;have bc:=kZ.uniq ad aV;by_cases aY:ak.agg α=true
 ·simp only[shaped,aY,lY]at h1 az;obtain⟨a,rfl⟩:=h1;obtain⟨b,rfl⟩:=az;simp only[Value.cells]at bc;congr 1;exact Array.toList_inj.1 bc
 simp only[jl]at aY;simp only[shaped,aY,sR,ow]at h1 az;rw[cells_one h1,cells_one az]at bc;simpa using bc
def XX{P:bs->bs->Bool}:∀{cs:aa bs},(∀v∈cs,P v v=true)->((cs.zip cs).all λ(x,y)=>P x y)=true
 |[],_=>rfl
 | a::r,h=>by
   simp only[List.zip_cons_cons,List.all_cons,gl];exact⟨h a (by simp),XX λv bb=>h v (by simp[bb])⟩
def ahI{α:Type}[ak α][kZ α]{A W u}{x:α}(h:(J.of x).holds A W u)(n:Nat):Instr.sameBits (n+1) u u=true:=by
 obtain⟨h1,ad⟩:=h;by_cases aY:ak.agg α=true
 ·simp only[shaped,aY,lY]at h1;obtain⟨a,rfl⟩:=h1;simp only[Value.cells]at ad;simp only[Instr.sameBits,Gg,qo];exact XX λv bb=>kZ.plain ad v bb n
 simp only[jl]at aY;simp only[shaped,aY,sR,ow]at h1;rw[cells_one h1]at ad;exact kZ.plain ad u (by simp) _
def aiw{α:Type}[ak α][kZ α]{P:Program}{A W cU W' u v}{x:α}(h:(J.of x).holds A W u)(cW:(J.of x).holds cU W' v)(kc:bn):(Instr.keyThatStays u v).run P kc=.ok v kc:=by
 have:=ahH h cW;subst this;simp[Instr.keyThatStays,ahI h 9999]
def tV(P:Program)(t:bK)(α:Type)[ak α](n:Nat):Prop:=∀b d A W u (x:α),n<=d->(J.of x).holds A W u->(Instr.checkKey b d t u).run P W=.ok () W
def Qa{P:Program}{t:bK}{α:Type}[ak α]{D:TypeDesc}(h:P.underlying t=some D)(hd:(match (motive:=TypeDesc->Bool) D with | .interface _| .array _ _| .struct _=>false|_=>true)=true):tV P t α 1:=by
 intro b d A W u x aM au;obtain⟨d,rfl⟩:∃e,d=e+1:=⟨d-1,by omega⟩;simp only[Instr.checkKey,eg,eo h,Result.andThen_ok];cases D <;> simp at hd <;> rfl
def WD{P:Program}{W:bn}{Ke:Type}(f:Ke->Sem Unit):∀(l:aa Ke),(∀i∈l,(f i).run P W=.ok () W)->
 (forIn (m:=Sem) l () (λi _=>do f i;pure (ForInStep.yield ()))).run P W=.ok () W
 |[],_=>by simp
 | i::r,h=>by
   have h1:=h i (by simp);have ad:=WD (P:=P) (W:=W) f r (λj aB=>h j (by simp[aB]));rw[K0];simp only[eg,h1,Result.andThen_ok,Sem.run_pure];rw[ad]
def Wy{P:Program}{W:bn}{Ke:Type}(f:Ke->PUnit->Sem (ForInStep PUnit)):∀(l:aa Ke),(∀i∈l,(f i ()).run P W=.ok (.yield ()) W)->(forIn (m:=Sem) l PUnit.unit f).run P W=.ok () W
 |[],_=>by simp
 | i::r,h=>by
   have h1:=h i (by simp);have ad:=Wy (P:=P) (W:=W) f r (λj aB=>h j (by simp[aB]));rw[K0];simp only[eg,h1,Result.andThen_ok];exact ad
def ZC{P:Program}{t e n k:Nat}{α:Type}[ak α][Inhabited α](h:P.underlying t=some (.array n e))(e4:bS P e α)(he:tV P e α k):tV P t (Vector α n) (k+1):=by
 intro b d A W u x hd au;obtain⟨d,rfl⟩:∃e,d=e+1:=⟨d-1,by omega⟩;obtain⟨h1,ad⟩:=au;obtain⟨xs,rfl⟩:∃cs,u=.agg cs:=by simpa[shaped,ak.agg]using h1
 simp only[Value.cells]at ad;have xp:xs.toList.length=n*ak.size α:=ak.len ad;have Bb:∀i∈List.range' 0 n,((do
  let z <-Go.sizeOf e
  let a <-part e xs (i*z)
  Instr.checkKey b d e a):Sem Unit).run P W=.ok () W:=by
  intro i aq
  have iz:i<n:=by simpa using aq
  have ha:i*ak.size α+ak.size α<=n*ak.size α:=(aQ.idx (α:=α) n i iz).h7
  obtain⟨a,aY,xq⟩:=vt (A:=A) (P:=P) (W:=W) (cs:=xs) (off:=i*ak.size α) e4 (by simp at xp;omega) ((aQ.idx (α:=α) n i iz).ki ad)
  simp only[eg,e4.sizeOf,aY,Result.andThen_ok]
  exact he b d A W a _ (by omega) xq
 have aW:=WD (P:=P) (W:=W) _ _ Bb;simp only[Instr.checkKey,eg,eo h,Result.andThen_ok,Om];simp only[Std.Legacy.Range.size,Nat.sub_zero,Nat.add_one_sub_one,PF]at aW⊢;simp only[bind_assoc]at aW;rw[aW];rfl
inductive JB(P:Program)(β:Type)[ak β](k:Nat):List Field->Prop
 |nil:JB P β k []
 |cons {γ:Type} [ak γ] {f r} (l:aQ β γ):l.off=f.offset->bS P f.type γ->tV P f.type γ k->JB P β k r->JB P β k (f::r)
def Xv{P:Program}{t k:Nat}{β:Type}[ak β]{fs:Array Field}(aY:ak.agg β=true)(h:P.underlying t=some (.struct fs))(ae:JB P β k fs.toList):tV P t β (k+1):=by
 intro b d A W u x hd au;obtain⟨d,rfl⟩:∃e,d=e+1:=⟨d-1,by omega⟩;obtain⟨h1,ad⟩:=au;obtain⟨xs,rfl⟩:∃cs,u=.agg cs:=by simpa[shaped,aY]using h1
 simp only[Value.cells]at ad;have xp:xs.toList.length=ak.size β:=ak.len ad;have Bb:∀f∈fs.toList,((do
  if f.name≠ "_" then do
   let a <-part f.type xs f.offset
   Instr.checkKey b d f.type a):Sem Unit).run P W=.ok () W:=by
  have key:∀l,JB P β k l->∀f∈l,((do
   if f.name≠ "_" then do
    let a <-part f.type xs f.offset
    Instr.checkKey b d f.type a):Sem Unit).run P W=.ok () W:=by
   intro l al
   induction al with
   |nil=>simp
   | cons l a6 e4 hk r cj=>
     rename_i f lX
     intro Fs uT
     rcases dP.1 uT with rfl|uT
     ·split
      ·obtain⟨a,aY,xq⟩:=vt (A:=A) (P:=P) (W:=W) (cs:=xs) (off:=l.off) e4 (by have:=l.h7;simp at xp;omega) (l.ki ad)
       rw[<-a6]
       simp only[eg,aY,Result.andThen_ok]
       exact hk b d A W a _ (by omega) xq
      rfl
     exact cj Fs uT
  exact key _ ae
 simp only[Instr.checkKey,eg,eo h,Result.andThen_ok];rw[<-Array.forIn_toList,Wy]
 ·rfl
 intro f aW;have:=Bb f aW;split
 ·rename_i aM;rw[bh aM]at this;simp only[eg]at this⊢;revert this;generalize (part f.type xs f.offset).run P W=r;cases r <;> simp only[Result.andThen] <;> intro h <;> first|rw[h];rfl|cases h
 rfl
structure q5(P:Program)(t:TypeId)(α:Type)[ak α][DecidableEq α]:Prop where
 check:∀b A W u (x:α),(J.of x).holds A W u->(Instr.checkKey b 10000 t u).run P W=.ok () W
 same:∀A W u v (x y:α),(J.of x).holds A W u->(J.of y).holds A W v->(Op.equal t u v).run P W=.ok (decide (x=y)) W
 now:∃D,P.underlying t=some D∧∀A W u v (x y:α),(J.of x).holds A W u->(J.of y).holds A W v->Instr.sameNow D u v=none∨Instr.sameNow D u v=some (decide (x=y))
def n1{α β:Type}[DecidableEq α]:aa (α×β)->α->Nat->aD (Nat×β)
 |[],_,_=>none
 |(k,v)::r,x,i=>if x=k then some (i,v)else n1 r x (i+1)
def Found{α β:Type}[ak α][ak β](A:aa Nat)(W:bn)(kv:aa (α×β)):aD (Nat×bs)->aD (Nat×β)->Prop
 |none,none=>True
 |some (i,u),some (j,v)=>i=j∧(J.of v).holds A W u
 |_,_=>False
def WG{α β:Type}[ak α][ak β][DecidableEq α]{D:TypeDesc}{A:aa Nat}{W:bn}{u:bs}{x:α}(hu:(J.of x).holds A W u)
 (hs:∀v (y:α),(J.of y).holds A W v->Instr.sameNow D u v=none∨Instr.sameNow D u v=some (decide (x=y))) (JC:aa (α×β)):∀{es:aa MapEntry} {kv:aa (α×β)} (i:Nat),mz A W es kv->
 Instr.findNow D u es i=none∨∃r,Instr.findNow D u es i=some r∧Found A W JC r (n1 kv x i)
 |[],_,i,h=>by cases h;exact .inr ⟨none,rfl,trivial⟩
 | e::es,_,i,h=>by
   cases h with
   | cons h1 ad az=>
     rename_i k v r
     rcases hs e.key k h1 with aV|aV
     ·exact .inl (by simp[Instr.findNow,aV])
     by_cases hk:x=k
     ·exact .inr ⟨some (i,e.val),by simp[Instr.findNow,aV,hk],by simp only[n1,bh hk];exact⟨rfl,ad⟩⟩
     rcases WG hu hs JC (i+1) az with bc|⟨lX,bc,bq⟩
     ·exact .inl (by simp[Instr.findNow,aV,hk,bc])
     exact .inr ⟨lX,by simp[Instr.findNow,aV,hk,bc],by simp only[n1,bf hk];exact bq⟩
def Wt{α β:Type}[ak α][ak β][DecidableEq α]{P:Program}{t:bK}(mG:q5 P t α){A:aa Nat}{W:bn}{u:bs}{x:α}(hu:(J.of x).holds A W u)(JC:aa (α×β)):∀{es:aa MapEntry} {kv:aa (α×β)} (i:Nat),mz A W es kv->
 ∃r,(Instr.findAsking t u es i).run P W=.ok r W∧Found A W JC r (n1 kv x i)
 |[],_,i,h=>by cases h;exact⟨none,rfl,trivial⟩
 | e::es,_,i,h=>by
   cases h with
   | cons h1 ad az=>
     rename_i k v r
     have aV:=mG.same A W u e.key x k hu h1
     by_cases hk:x=k
     ·exact⟨some (i,e.val),by simp[Instr.findAsking,eg,aV,hk],by simp only[n1,bh hk];exact⟨rfl,ad⟩⟩
     obtain⟨lX,bc,bq⟩:=Wt mG hu JC (i+1) az
     exact⟨lX,by simp[Instr.findAsking,eg,aV,hk,bc],by simp only[n1,bf hk];exact bq⟩
def PM{α β:Type}[ak α][ak β][DecidableEq α]{P:Program}{t:bK}(mG:q5 P t α){A:aa Nat}{W:bn}{u:bs}{x:α}(hu:(J.of x).holds A W u){es:aa MapEntry}{kv:aa (α×β)}(h:mz A W es kv):
 ∃r,(Instr.findKey t u es).run P W=.ok r W∧Found A W kv r (n1 kv x 0):=by
 obtain⟨D,kY,hs⟩:=mG.now
 rcases WG hu (λv y aT=>hs A W u v x y hu aT) kv 0 h with h1|⟨r,h1,ad⟩
 ·obtain⟨r,az,aV⟩:=Wt mG hu kv 0 h
  exact⟨r,by simp[Instr.findKey,eg,eo kY,h1,az],aV⟩
 exact⟨r,by simp[Instr.findKey,eg,eo kY,h1],ad⟩
def Qq{α β:Type}[ak α][ak β][DecidableEq α]{A:aa Nat}{W:bn}{x:α}:∀{es:aa MapEntry} {kv:aa (α×β)} {j i:Nat} {v:β},mz A W es kv->n1 kv x j=some (i,v)->
 ∃m e,i=j+m∧es[m]? =some e∧(J.of x).holds A W e.key∧(∀(e':MapEntry) (y:β),(J.of x).holds A W e'.key->(J.of y).holds A W e'.val->mz A W (es.set m e') (gP kv x y))∧mz A W (es.eraseIdx m) (ju kv x)
 |[],_,j,i,v,h,aW=>by cases h;cases aW
 | e::es,_,j,i,v,h,aW=>by
   cases h with
   | cons h1 ad az=>
     rename_i k zr r
     by_cases hk:x=k
     ·subst hk
      simp only[n1,bh]at aW
      simp only[gk,Lc]at aW
      exact⟨0,e,by omega,rfl,h1,λe' y g1 g2=>by simp only[gP,bh];exact .cons g1 g2 az,by simp only[ju,bh];exact az⟩
     simp only[n1,bf hk]at aW
     obtain⟨m,e',g1,g2,g3,g4,g5⟩:=Qq az aW
     exact⟨m+1,e',by omega,by simpa using g2,g3,λTX y aw cH=>by simp only[gP,bf hk];exact .cons h1 ad (g4 TX y aw cH),by simp only[ju,bf hk];exact .cons h1 ad g5⟩
def P3{α β:Type}[ak α][ak β][DecidableEq α]{A:aa Nat}{W:bn}{x:α}:∀{es:aa MapEntry} {kv:aa (α×β)} {j:Nat},mz A W es kv->n1 kv x j=none->
 (∀(e':MapEntry) (y:β),(J.of x).holds A W e'.key->(J.of y).holds A W e'.val->mz A W (es++[e']) (gP kv x y))∧ju kv x=kv
 |[],_,j,h,_=>by cases h;exact⟨λe' y h1 ad=>.cons h1 ad .nil,rfl⟩
 | e::es,_,j,h,aW=>by
   cases h with
   | cons h1 ad az=>
     rename_i k zr r
     by_cases hk:x=k
     ·simp[n1,hk]at aW
     simp only[n1,bf hk]at aW
     obtain⟨g1,g2⟩:=P3 az aW
     exact⟨λe' y aw cH=>by simp only[gP,bf hk];exact .cons h1 ad (g1 e' y aw cH),by simp only[ju,bf hk,g2]⟩
def mz.length{α β:Type}[ak α][ak β]{A W}:∀{es:aa MapEntry} {kv:aa (α×β)},mz A W es kv->es.length=kv.length
 |_,_,.nil=>rfl
 |_,_,.cons _ _ r=>by simp[r.length]
def W3{α β:Type}[DecidableEq α]:∀(kv:aa (α×β)) (x:α) (i:Nat),(n1 kv x i).map (·.2)=dG kv x
 |[],_,_=>rfl
 |(k,v)::r,x,i=>by simp only[n1,dG];split <;> simp[W3]
section
variable{c:cM}{E:aa (Nat×J)}{L:aa aK}{ops:Array Oper}{Q:Exit->Act->bn->Prop}
variable{d:aD Tmp}{ty:bK}{pos:String}{af:Array Edge}{g:aD (Nat×Bool)}{x y z:cu}{t t2:bK}
variable{bM:Type}[eu bM]{hp:aL bM}{loc:aa aK}
def ag.akV{α β:Type}[ak α][ak β]{rest:aa Oper}{a7:Nat}(mk:bM)(hk:∀p,eu.gR p mk=[⟨some p,.map ([]:aa (α×β))⟩])(aM:Nat.blt a7 c.n=true)
 (k:∀p,p∉eb hp->ag c ops Q rest ((a7,.of (⟨some p⟩:fl))::E) (loc++a1 ((p,mk)::hp))):ag c ops Q (⟨some a7,.makeMap t none,ty,pos,af,none⟩::rest) E (loc++a1 hp):=λa W s=>by
 refine jn I (R:=λv W'=>v=.map (some W.heap.size)∧W'=W.alloc (.map #[] 0)) (.mS ?_ ⟨rfl,rfl⟩) λv W' ⟨bb,hw⟩=>?_
 ·simp only[execOp,Instr.makeMap,newObj,eg,Sem.run_pure];rfl
 subst bb
 subst hw
 refine k _ s.fresh _ _ (bO.put ?_ (by simpa using aM) (yl.2 I))
 refine(s.alloc (cp:=.map ([]:aa (α×β))) ⟨#[],0,rfl,.nil,by simp,by simp⟩).perm ?_
 simp only[a1,hk,List.singleton_append]
 exact sS.symm
def ag.Ia{α β:Type}[ak α][ak β]{rest:aa Oper}{a7:Nat}(n:Nat)(av:L.drop n=a1 hp)(mk:bM)(hk:∀p,eu.gR p mk=[⟨some p,.map ([]:aa (α×β))⟩])(aM:Nat.blt a7 c.n=true)(k:∀a:Nat×aL bM,a.1∉hp.map (·.1)∧a.2=(a.1,mk)::hp->ag c ops Q rest ((a7,.of (⟨some a.1⟩:fl))::E) (L.take n++a1 a.2)):ag c ops Q (⟨some a7,.makeMap t none,ty,pos,af,none⟩::rest) E L:=by
 have e:L=L.take n++a1 hp:=by rw[<-av,gz]
 clear av;generalize L.take n=loc at *;subst e;exact ag.akV (α:=α) (β:=β) mk hk aM λp h=>k (p,(p,mk)::hp) ⟨h,rfl⟩
def bO.Iy{a:Act}{W:bn}(s:bO c E L a W){p:Nat}{α β:Type}[ak α][ak β]{kv:aa (α×β)}(hm:(⟨some p,.map kv⟩:aK)∈L):
 ∃es clock,W.heap[p]? =some (.map es clock)∧mz (ks L++c.b8) W es.toList kv∧(∀x∈es.toList,x.born<clock)∧(es.toList.map MapEntry.born).Nodup:=by
 obtain⟨o,a6,es,clock,rfl,ad,az,aV⟩:=s.own _ hm
 exact⟨es,clock,a6,ad,az,aV⟩
def W4{a:Act}{W:bn}(s:bO c E L a W){p key elem:Nat}{α β:Type}[ak α][ak β][DecidableEq α][Inhabited β]{kv:aa (α×β)}{i:α}(hu:c.P.underlying t=some (.map key elem))(mG:q5 c.P key α)(hV:dE c.P elem (default:β))
 (au:aU c E L x (.of (⟨some p⟩:fl))) (aT:aU c E L y (.of i)) (hm:(⟨some p,.map kv⟩:aK)∈L):
 ∃u,(J.of ((dG kv i).getD default)).holds (ks L++c.b8) W u∧∀ok,(Instr.lookup t (a.eval x) (a.eval y) ok).run c.P W=.ok (if ok then .tuple #[u,.bool (dG kv i).isSome]else u) W:=by
 obtain⟨es,clock,a6,ad,az,aV⟩:=s.Iy hm
 have nb:=yl.1 (au a W s)
 have sD:=aT a W s
 obtain⟨r,aG,aW⟩:=PM mG sD ad
 obtain⟨hG,ez,en,bU,TN⟩:=hV.zero
 have bz:(getObj p).run c.P W=.ok (.map es clock) W:=by simp[getObj,Sem.run,a6]
 have ae:=λb=>mG.check b _ W _ i sD
 have E7:=W3 kv i 0
 cases tI:n1 kv i 0 with
 | none=>
   rw[tI]at aW E7
   cases r with
   |some q=>exact aW.elim
   | none=>
     refine⟨ez,by rw[<-E7];exact TN _ W,λok=>?_⟩
     rw[<-E7]
     simp[Instr.lookup,eg,eo hu,nb,bz,ae,aG,zeroValue,typeInfo,en,bU]
 | some q=>
   rw[tI]at aW E7
   cases r with
   |none=>exact aW.elim
   | some oW=>
     refine⟨oW.2,by rw[<-E7];exact aW.2,λok=>?_⟩
     rw[<-E7]
     simp[Instr.lookup,eg,eo hu,nb,bz,ae,aG]
def vu{p key elem:Nat}{α β:Type}[ak α][ak β][DecidableEq α][Inhabited β]{kv:aa (α×β)}{i:α}{r:β}(hu:c.P.underlying t=some (.map key elem))(mG:q5 c.P key α)(hV:dE c.P elem (default:β))
 (au:aU c E L x (.of (⟨some p⟩:fl))) (aT:aU c E L y (.of i)) (hm:(⟨some p,.map kv⟩:aK)∈L) (aG:(dG kv i).getD default=r):
 bj c E L ⟨d,.lookup t x y false,ty,pos,af,g⟩ (.of r):=.pure λa W s=>by
 subst aG
 obtain⟨u,h1,ad⟩:=W4 s hu mG hV au aT hm
 have az:=ad false
 exact⟨u,by simp only[execOp,eg,az,Result.andThen_ok];rfl,h1⟩
def Qj{p key elem:Nat}{α β:Type}[ak α][ak β][DecidableEq α][Inhabited β]{kv:aa (α×β)}{i:α}{r:aD β}(hu:c.P.underlying t=some (.map key elem))(mG:q5 c.P key α)(hV:dE c.P elem (default:β))
 (au:aU c E L x (.of (⟨some p⟩:fl))) (aT:aU c E L y (.of i)) (hm:(⟨some p,.map kv⟩:aK)∈L) (aG:dG kv i=r):
 bj c E L ⟨d,.lookup t x y true,ty,pos,af,g⟩ (.bT [.of (r.getD default),.of r.isSome]):=.pure λa W s=>by
 subst aG
 obtain⟨u,h1,ad⟩:=W4 s hu mG hV au aT hm
 have az:=ad true
 exact⟨_,by simp only[execOp,eg,az,Result.andThen_ok];rfl,_,rfl,.cons h1 (.cons (of_bool.2 I) .nil)⟩
def ajx{es:aa MapEntry}{m:Nat}{e e':MapEntry}(h:es[m]? =some e)(hb:e'.born=e.born):(es.set m e').map MapEntry.born=es.map MapEntry.born:=by
 apply nS;intro j;simp only[List.getElem?_map,qm];split
 ·rename_i aB;subst aB;have:=(iu.1 h).1;rw[bh this,h];simp[hb]
 rfl
def ag.al0{rest:aa Oper}{op:Op}(BU:op=.mapUpdate t x y z∨op=.insert t x y z){p key elem:Nat}{k k':bM}{α β:Type}[ak α][ak β][kZ α][DecidableEq α]{kv tJ:aa (α×β)}{i:α}{v:β}(hu:c.P.underlying t=some (.map key elem))(mG:q5 c.P key α)
 (au:aU c E (loc++a1 hp) x (.of (⟨some p⟩:fl))) (aT:aU c E (loc++a1 hp) y (.of i)) (bU:aU c E (loc++a1 hp) z (.of v)) (hp':pat hp p=some k) (hk:eu.gR p k=[⟨some p,.map kv⟩]) (vZ:gP kv i v=tJ) (kJ:eu.gR p k'=[⟨some p,.map tJ⟩])
 (nN:ag c ops Q rest E (loc++a1 (cJ hp p k'))):ag c ops Q (⟨none,op,ty,pos,af,none⟩::rest) E (loc++a1 hp):=λa W s=>by
 subst vZ
 obtain⟨es,clock,a6,ad,az,aV⟩:=s.Iy (jt (n:=loc.length) (by simp) hp' hk)
 have nb:=yl.1 (au a W s)
 have sD:=aT a W s
 have adr:=bU a W s
 obtain⟨r,aG,aW⟩:=PM mG sD ad
 have bz:(getObj p).run c.P W=.ok (.map es clock) W:=by simp[getObj,Sem.run,a6]
 have ae:=mG.check false _ W _ i sD
 have ca:p<W.heap.size:=(sP.1 a6).1
 have iW:∀o,(setObj p o).run c.P W=.ok () (W.putObj p o):=λo=>by simp only[setObj,Sem.run,a6];rfl
 have key:∃oO A0,(Instr.mapUpdate t (a.eval x) (a.eval y) (a.eval z)).run c.P W=.ok () (W.putObj p (.map oO A0))∧mz (ks (loc++a1 hp)++c.b8) W oO.toList (gP kv i v)∧(∀x∈oO.toList,x.born<A0)∧(oO.toList.map MapEntry.born).Nodup:=by
  cases tI:n1 kv i 0 with
  | none=>
    rw[tI]at aW
    cases r with
    |some q=>exact aW.elim
    | none=>
      obtain⟨g1,_⟩:=P3 ad tI
      refine⟨es.push {key:=a.eval y,val:=a.eval z,born:=clock},clock+1,by simp[Instr.mapUpdate,eg,eo hu,nb,bz,ae,aG,iW],by simpa using g1 {key:=a.eval y,val:=a.eval z,born:=clock} v sD adr,?_,?_⟩
      ·intro q hq
       simp only[Array.toList_push,cF,hx]at hq
       rcases hq with hq|rfl
       ·exact Nat.lt_succ_of_lt (az q hq)
       exact Nat.lt_succ_self _
      simp only[Array.toList_push,mh,nT,Le]
      refine q8.2 ⟨aV,by simp,λb hb b' JA=>?_⟩
      simp only[hx]at JA
      subst JA
      obtain⟨q,hq,rfl⟩:=ig.1 hb
      exact Pz (az q hq)
  | some q=>
    rw[tI]at aW
    cases r with
    |none=>exact aW.elim
    | some oW=>
      obtain⟨m,e,g1,g2,g3,g4,_⟩:=Qq ad tI
      have jL:oW.1=m:=by have:=aW.1;omega
      have hq:es[m]? =some e:=by simpa using g2
      have b1:=aiw (P:=c.P) g3 sD W
      let e':MapEntry:= {e with key:=a.eval y,val:=a.eval z}
      have Bq:(es.modify m λe=>{e with key:=a.eval y,val:=a.eval z}).toList=es.toList.set m e':=by
       apply nS;intro j;rw[zH,Oz,qm,zH];by_cases aB:m=j
       ·subst aB;rw[bh I,bh I,hq,bh (by simpa using (sP.1 hq).1)];rfl
       rw[bf aB,bf aB]
      refine⟨es.modify m λe=>{e with key:=a.eval y,val:=a.eval z},clock,by simp[Instr.mapUpdate,eg,eo hu,nb,bz,ae,aG,iW,jL,hq,b1],by rw[Bq];exact g4 e' v sD adr,?_,?_⟩
      ·rw[Bq]
       intro w hw
       rcases Va hw with hw|rfl
       ·exact az w hw
       exact az e (fB g2)
      rw[Bq,ajx (e':=e') g2 I];exact aV
 obtain⟨oO,A0,kG,ar,aS,cE⟩:=key
 obtain⟨R,bk,bo⟩:=wB hp'
 have bo:=bo k'
 rw[hk]at bk
 rw[kJ]at bo
 have cc:∀{z:aa (α×β)} {M:aa aK},M.Perm ([⟨some p,.map z⟩]++R)->(loc++M).Perm (⟨some p,.map z⟩::(loc++R)):=λh=>(h.append_left loc).trans (by simp only[List.singleton_append];exact sS)
 have cq:=(s.perm (cc bk)).uC (i:=0) (cp':=.map (gP kv i v)) I (o':=.map oO A0) ⟨oO,A0,rfl,ar.mono (pP (cc bk)),aS,cE⟩
 refine jn I (R:=λv W'=>W'=W.putObj p (.map oO A0)) (.D1 ?_ I) λv W' hw=>?_
 ·rcases BU with rfl|rfl <;> simp[execOp,kG]
 subst hw
 exact nN _ _ (cq.perm (cc bo).symm)
def ag.Ir{rest:aa Oper}{op:Op}(n:Nat)(av:L.drop n=a1 hp)(BU:op=.mapUpdate t x y z∨op=.insert t x y z){p key elem:Nat}{k k':bM}{cZ:aL bM}{α β:Type}[ak α][ak β][kZ α][DecidableEq α]{kv tJ:aa (α×β)}{i:α}{v:β}(hu:c.P.underlying t=some (.map key elem))(mG:q5 c.P key α)(au:aU c E L x (.of (⟨some p⟩:fl)))(aT:aU c E L y (.of i))(bU:aU c E L z (.of v))(hp':pat hp p=some k)(hk:eu.gR p k=[⟨some p,.map kv⟩])(vZ:gP kv i v=tJ)(kJ:eu.gR p k'=[⟨some p,.map tJ⟩])(bU:cJ hp p k'=cZ)(nN:ag c ops Q rest E (L.take n++a1 cZ)):ag c ops Q (⟨none,op,ty,pos,af,none⟩::rest) E L:=by
 subst bU;have e:L=L.take n++a1 hp:=by rw[<-av,gz]
 clear av;generalize L.take n=loc at *;subst e;exact ag.al0 BU hu mG au aT bU hp' hk vZ kJ nN
def ag.al1{rest:aa Oper}{p key elem:Nat}{k k':bM}{α β:Type}[ak α][ak β][DecidableEq α]{kv tJ:aa (α×β)}{i:α}(hu:c.P.underlying t=some (.map key elem))(mG:q5 c.P key α)
 (au:aU c E (loc++a1 hp) x (.of (⟨some p⟩:fl))) (aT:aU c E (loc++a1 hp) y (.of i)) (hp':pat hp p=some k) (hk:eu.gR p k=[⟨some p,.map kv⟩]) (vZ:ju kv i=tJ) (kJ:eu.gR p k'=[⟨some p,.map tJ⟩])
 (nN:ag c ops Q rest E (loc++a1 (cJ hp p k'))):ag c ops Q (⟨none,.call ⟨.builtin .delete,#[x,y],#[t,t2]⟩,ty,pos,af,none⟩::rest) E (loc++a1 hp):=λa W s=>by
 subst vZ
 obtain⟨es,clock,a6,ad,az,aV⟩:=s.Iy (jt (n:=loc.length) (by simp) hp' hk)
 have nb:=yl.1 (au a W s)
 have sD:=aT a W s
 obtain⟨r,aG,aW⟩:=PM mG sD ad
 have bz:(getObj p).run c.P W=.ok (.map es clock) W:=by simp[getObj,Sem.run,a6]
 have ae:=λb=>mG.check b _ W _ i sD
 have iW:∀o,(setObj p o).run c.P W=.ok () (W.putObj p o):=λo=>by simp only[setObj,Sem.run,a6];rfl
 have key:∃oO,(Builtin.delete_ #[t,t2] ty #[a.eval x,a.eval y]).run c.P W=.ok (.tuple #[]) (W.putObj p (.map oO clock))∧mz (ks (loc++a1 hp)++c.b8) W oO.toList (ju kv i)∧(∀x∈oO.toList,x.born<clock)∧(oO.toList.map MapEntry.born).Nodup:=by
  cases tI:n1 kv i 0 with
  | none=>
    rw[tI]at aW
    cases r with
    |some q=>exact aW.elim
    | none=>
      obtain⟨_,g1⟩:=P3 ad tI
      exact⟨es,by simp[Builtin.delete_,eg,eo hu,nb,bz,ae,aG,iW],by rw[g1];exact ad,az,aV⟩
  | some q=>
    rw[tI]at aW
    cases r with
    |none=>exact aW.elim
    | some oW=>
      obtain⟨m,e,g1,g2,_,_,g5⟩:=Qq ad tI
      have jL:oW.1=m:=by have:=aW.1;omega
      have hm:m<es.size:=by simpa using (iu.1 g2).1
      have he:(es.eraseIdxIfInBounds m).toList=es.toList.eraseIdx m:=by simp[Array.eraseIdxIfInBounds,hm]
      have oI:(es.toList.eraseIdx m).Sublist es.toList:=List.eraseIdx_sublist _ _
      exact⟨es.eraseIdxIfInBounds m,by simp[Builtin.delete_,eg,eo hu,nb,bz,ae,aG,iW,jL],by rw[he];exact g5,by rw[he];exact λw hw=>az w (oI.subset hw),by rw[he];exact(oI.map _).nodup aV⟩
 obtain⟨oO,kG,ar,aS,cE⟩:=key
 obtain⟨R,bk,bo⟩:=wB hp'
 have bo:=bo k'
 rw[hk]at bk
 rw[kJ]at bo
 have cc:∀{z:aa (α×β)} {M:aa aK},M.Perm ([⟨some p,.map z⟩]++R)->(loc++M).Perm (⟨some p,.map z⟩::(loc++R)):=λh=>(h.append_left loc).trans (by simp only[List.singleton_append];exact sS)
 have cq:=(s.perm (cc bk)).uC (i:=0) (cp':=.map (ju kv i)) I (o':=.map oO clock) ⟨oO,clock,rfl,ar.mono (pP (cc bk)),aS,cE⟩
 refine jn I (R:=λv W'=>W'=W.putObj p (.map oO clock)) (.mS (v:=.tuple #[]) ?_ I) λv W' hw=>?_
 ·simp[execOp,resolve,invoke,builtin,kG]
 subst hw
 exact nN _ _ (cq.perm (cc bo).symm)
def ag.MS{rest:aa Oper}{p key elem:Nat}{k k':bM}{cZ:aL bM}{α β:Type}[ak α][ak β][DecidableEq α]{kv tJ:aa (α×β)}{i:α}(n:Nat)(av:L.drop n=a1 hp)(hu:c.P.underlying t=some (.map key elem))(mG:q5 c.P key α)(au:aU c E L x (.of (⟨some p⟩:fl)))(aT:aU c E L y (.of i))(hp':pat hp p=some k)(hk:eu.gR p k=[⟨some p,.map kv⟩])(vZ:ju kv i=tJ)(kJ:eu.gR p k'=[⟨some p,.map tJ⟩])(bU:cJ hp p k'=cZ)(nN:ag c ops Q rest E (L.take n++a1 cZ)):ag c ops Q (⟨none,.call ⟨.builtin .delete,#[x,y],#[t,t2]⟩,ty,pos,af,none⟩::rest) E L:=by
 subst bU;have e:L=L.take n++a1 hp:=by rw[<-av,gz]
 clear av;generalize L.take n=loc at *;subst e;exact ag.al1 hu mG au aT hp' hk vZ kJ nN
def akk{p key elem:Nat}{α β:Type}[ak α][ak β]{kv:aa (α×β)}(hu:c.P.underlying t=some (.map key elem))(au:aU c E L x (.of (⟨some p⟩:fl)))(hm:(⟨some p,.map kv⟩:aK)∈L):
 bj c E L ⟨d,.call ⟨.builtin .len,#[x],#[t]⟩,ty,pos,af,g⟩ (.of (kv.length:Int)):=.pure λa W s=>by
 obtain⟨es,clock,a6,ad,az,aV⟩:=s.Iy hm
 have nb:=yl.1 (au a W s)
 have bz:(getObj p).run c.P W=.ok (.map es clock) W:=by simp[getObj,Sem.run,a6]
 have al:es.size=kv.length:=by simpa using ad.length
 refine⟨.int .i64 kv.length,?_,of_int.2 I⟩
 simp[execOp,resolve,invoke,builtin,Builtin.len_,nb,bz,al,eo hu,goInt]
end
def al2{P:Program}{t:bK}(h:P.underlying t=some (.int .i64)):q5 P t Int where
 check b A W u x au:=Qa (α:=Int) h I b 10000 A W u x (by decide) au
 same A W u v x y au aT:=by
  have:=(YR h).run 10000 (by decide) A W u v x y au aT;simpa[Op.equal,Op.maxDepth]using this
 now:=⟨_,h,λA W u v x y au aT=>.inr (by
  rw[of_int.1 au,of_int.1 aT];simp only[Instr.sameNow,bh];rfl)⟩
def RM{P:Program}{t:bK}{α:Type}[ak α][DecidableEq α]{D:TypeDesc}{n m:Nat}(h:P.underlying t=some D)(kY:(match (motive:=TypeDesc->Bool) D with | .array _ _| .struct _=>true|_=>false)=true)(at9:tV P t α n)(wc:na P t α m)(aM:Nat.ble n 10000=true)(hm:Nat.ble m 10000=true):q5 P t α where
 check b A W u x au:=at9 b 10000 A W u x (pI aM) au
 same A W u v x y au aT:=by
  have:=wc.run 10000 (pI hm) A W u v x y au aT;simpa[Op.equal,Op.maxDepth]using this
 now:=⟨_,h,λA W u v x y au aT=>.inl (by cases D <;> simp at kY <;> rfl)⟩
structure kd(P:Program)(t:TypeId)(name:String)(f:FuncId):Prop where
 run:∀v W args,(callMethod (.iface t v) name args).run P W=.ok (.enter f (#[v]++args)) W
def kd.of{P:Program}{t:bK}{name:String}{f:FuncId}{i:TypeInfo}{D:TypeDesc}{m:Method}(aq:P.info? t=some i)(hm:i.methods.find? (λx=>x.name==name)=some m)(hp:m.path= #[])(aW:m.func=some (f,false))(kY:P.underlying t=some D)
 (aM:(match (motive:=TypeDesc->Bool) D with | .pointer _=>false|_=>true)=true) (ck:bJ P f):kd P t name f where
 run v W args:=by
  have asN:∀args,(callFunc f args).run P W=.ok (.enter f args) W:=λargs=>ck.run ..;have c6:∀n,(method (n+1) t v name).run P W=.ok (f,v) W:=λn=>by
   simp only[method,eg,typeInfo,run_program,Result.andThen_ok,aq,Sem.run_pure,hm,hp,aW,follow,receiverAt,eo kY];cases D <;> simp at aM <;> simp[Place.get]
  obtain⟨n,aM⟩:∃n,P.types.size+Made.depth=n+1:=⟨P.types.size+Made.depth-1,by simp[Made.depth]⟩;simp only[callMethod,eg,run_program,Result.andThen_ok,aM,c6,asN]
def kd.tK{P:Program}{t:bK}{name:String}{f:FuncId}{D:TypeDesc}(hm:((P.info? t).bind λi=>(i.methods.find? (λx=>x.name==name)).map λm=>(m.path.size,m.func))=some (0,some (f,false)))(kY:P.underlying t=some D)
 (aM:(match (motive:=TypeDesc->Bool) D with | .pointer _=>false|_=>true)=true) (ck:bJ P f):kd P t name f:=by
 cases aq:P.info? t with
 |none=>rw[aq]at hm;cases hm
 | some i=>
   rw[aq]at hm
   simp only[Option.bind_some]at hm
   cases ad:i.methods.find? (λx=>x.name==name)with
   |none=>rw[ad]at hm;cases hm
   | some m=>
     rw[ad]at hm
     simp only[Option.map_some,gk,Lc]at hm
     exact kd.of aq ad (Array.eq_empty_of_size_eq_zero hm.1) hm.2 kY aM ck
def bN.map{P:Program}{f:FuncId}{τs:aa J}{Lin:aa aK}{δ BV:Type}{ρ:δ->J}{Lo:δ->aa aK}{za:BV->J}{ads:BV->aa aK}(F:δ->BV)(aG:∀d,za (F d)=ρ d)(al:∀d,ads (F d)=Lo d)(h:bN P f τs Lin ρ Lo):bN P f τs Lin za ads:=
 λA W vs h1 ad az aV bc=>(h A W vs h1 ad az aV bc).mono λe W' ⟨v,d,aw,cH,eJ,ht,eA,ec⟩=>⟨v,F d,aw,cH,by rw[al];exact eJ,by rw[al];exact ht,by rw[al];exact eA,by rw[al,aG];exact ec⟩
structure mQ(P:Program)(name:String)(τ:J)(τs:List J)(Lin:List aK){δ:Type}(ρ:δ->J)(Lo:δ->List aK):Prop where
 go:∀(A:List Nat) (W:World) (u:Value) (vs:List Value),(∀k∈A,k<W.heap.size∧k∉ks Lin)->(ks Lin).Nodup->(∀k∈ks Lin,k<W.heap.size)->(∀e∈Lin,e.ok (ks Lin++A) W)->hN (ks Lin++A) W (τ::τs) (u::vs)->
  ∃f v,(∀args,(callMethod u name args).run P W=.ok (.enter f (#[v]++args)) W)∧Calls P f (v::vs).toArray W (k3 (ks Lin) A W ρ Lo)
def mQ.of{P:Program}{name:String}{t:bK}{f:FuncId}{τ σ:J}{τs:aa J}{Lin:aa aK}{δ:Type}{ρ:δ->J}{Lo:δ->aa aK}(mt:kd P t name f)(JD:∀A W u,τ.holds A W u->∃v,u=.iface t v∧σ.holds A W v)
 (h:bN P f (σ::τs) Lin ρ Lo):mQ P name τ τs Lin ρ Lo where
 go A W u vs h1 ad az aV bc:=by
  cases bc with
  | cons bq c7=>
    obtain⟨v,rfl,c9⟩:=JD _ _ _ bq
    exact⟨f,v,λargs=>mt.run v W args,h A W (v::vs) h1 ad az aV (.cons c9 c7)⟩
section
variable{c:cM}{E:aa (Nat×J)}{L:aa aK}{ops:Array Oper}{Q:Exit->Act->bn->Prop}
variable{d:aD Tmp}{ty:bK}{pos:String}{af:Array Edge}{g:aD (Nat×Bool)}{x y z:cu}{t t2:bK}
def XY{a:Act}{W:bn}{name:String}{xs:aa cu}{ats:Array bK}{τ:J}{τs:aa J}{Lin Lr:aa aK}{δ:Type}{ρ:δ->J}{Lo:δ->aa aK}(h:mQ c.P name τ τs Lin ρ Lo)
 (s:bO c E (Lin++Lr) a W) (au:hN (ks (Lin++Lr)++c.b8) W (τ::τs) ((x::xs).map a.eval)):
 h4 c.P ⟨d,.call ⟨.invoke x name,xs.toArray,ats⟩,ty,pos,af,g⟩ a W λv W'=> ∃a7,bO c E (Lo a7++Lr) a W'∧(ρ a7).holds (ks (Lo a7++Lr)++c.b8) W' v:=by
 have nB:=s.nodup
 rw[fM]at nB
 obtain⟨pt,uQ,sB⟩:=q8.1 nB
 have iW:Ext (ks (Lin++Lr)++c.b8) W (ks Lin++(ks Lr++c.b8)) W:=D2
 have eX:∀k∈ks Lr++c.b8,k<W.heap.size∧k∉ks Lin:=λk hm=>by
  rcases cF.1 hm with hm|hm
  ·exact⟨s.lt k (by rw[fM];exact cF.2 (.inr hm)),λh=>sB k h k hm I⟩
  obtain⟨h1,ad⟩:=s.fi k hm;exact⟨h1,λh=>ad (by rw[fM];exact cF.2 (.inl h))⟩
 have ca:∀k∈ks Lin,k<W.heap.size:=λk hm=>s.lt k (by rw[fM];exact cF.2 (.inl hm))
 obtain⟨f,v,kG,ae⟩:=h.go (ks Lr++c.b8) W (a.eval x) (xs.map a.eval) eX pt ca (λe he=>aK.wL (s.own e (cF.2 (.inl he))) iW λ_ _=>rfl) (by simpa using au.mono iW)
 refine .yi (f:=f) (args:=(v::xs.map a.eval).toArray) (W':=W) ?_ (ae.mono λe W' ⟨v,a7,he,aW,h1,ad,az,aV⟩=>?_)
 ·have:=kG (xs.map a.eval).toArray
  simp only[execOp,resolve,eg,Sem.run_pure,Result.andThen_ok,invoke]
  simp only[List.map_toArray]at this⊢
  simp
  rw[pH (by simp),this]
  simp
 refine⟨v,he,a7,s.after aW h1 ad az,(ρ a7).mono L0 aV⟩
variable{bM:Type}[eu bM]{hp:aL bM}
def ag.EF{rest:aa Oper}{a7:Nat}{name:String}{xs:aa cu}{ats:Array bK}{τ:J}{τs:aa J}{Lin Lr:aa aK}{δ:Type}{ρ:δ->J}{Lo:δ->aa aK}{hq:δ->aL bM}(n m:Nat)(av:L.drop n=a1 hp)(h:mQ c.P name τ τs (Lin++a1 hp) ρ (λd=>Lo d++a1 (hq d)))
 (h1:(L.take n).take m=Lin) (ad:(L.take n).drop m=Lr) (au:jr c E L (x::xs) (τ::τs)) (aM:Nat.blt a7 c.n=true) (k:∀q,ag c ops Q rest ((a7,ρ q)::E) ((Lo q++Lr)++a1 (hq q))):
 ag c ops Q (⟨some a7,.call ⟨.invoke x name,xs.toArray,ats⟩,ty,pos,af,none⟩::rest) E L:=by
 have e:L=(Lin++Lr)++a1 hp:=by rw[<-h1,<-ad,gz,<-av,gz]
 clear av h1 ad
 subst e
 exact λa W s=>jn I (XY (Lr:=Lr) h (s.perm ox) ((au.holds a W s).mono (pP ox))) λv W' ⟨q,cq,bb⟩=>
  k q _ _ ((cq.perm ox).put (by simpa using aM) ((ρ q).mono (pP ox) bb))
def dL.EF{name:String}{xs:aa cu}{ats:Array bK}{τ:J}{τs:aa J}{ρ:J}(n:Nat)(av:L.drop n=a1 hp)(h:mQ c.P name τ τs (a1 hp) (λ_:Unit=>ρ) (λ_=>a1 hp))
 (au:jr c E L (x::xs) (τ::τs)):dL c E L ⟨d,.call ⟨.invoke x name,xs.toArray,ats⟩,ty,pos,af,g⟩ ρ:=λa W s=>by
 have e:L=L.take n++a1 hp:=by rw[<-av,gz]
 have cc:L.Perm (a1 hp++L.take n):=by
  conv=>lhs;rw[e]
  exact nR
 have a6:=XY (d:=d) (ty:=ty) (pos:=pos) (af:=af) (g:=g) (ats:=ats) (Lr:=L.take n) h (s.perm cc) ((au.holds a W s).mono (pP cc))
 unfold h4 at a6⊢
 exact uc (λiI W' ⟨v,h1,_,ad,az⟩=>⟨v,h1,ad.perm cc.symm,ρ.mono (pP cc.symm) az⟩) a6
def Rn{D:TypeDesc}{σ τ:J}(hu:c.P.underlying t=some D)(kY:(match (motive:=TypeDesc->Bool) D with | .interface _=>false|_=>true)=true)(au:aU c E L x σ)(JD:∀A W v,σ.holds A W v->τ.holds A W (.iface t v)):
 bj c E L ⟨d,.makeInterface t x,ty,pos,af,g⟩ τ:=.pure λa W s=>
 ⟨.iface t (a.eval x),by
   simp only[execOp,Instr.makeInterface,eg,eo hu,Result.andThen_ok];cases D <;> simp at kY <;> rfl,JD _ _ _ (au a W s)⟩
end
def Nn(P:Program)(u:bs){α σ ε γ:Type}(τ:α->J)(Ls:σ->γ->aa aK)(Lx:ε->γ->aa aK)(step:α->σ->aj (σ⊕ε))(aua:aa Nat->bn->Prop):Prop:=
 ∃ l,u=.func (.yield l) #[] #[]∧∀x s R,step x s R->∀g A W v,aua (ks (Ls s g)++A) W->EJ A W (Ls s g)->(τ x).holds (ks (Ls s g)++A) W v->
   YieldAt Fence.wide 8 P l #[v] W (λe W'=>(∃cq,R (.inl cq)∧k3 (ks (Ls s g)) A W (λ_:γ=>J.of true) (λg=>Ls cq g) e W')∨∃q,R (.inr q)∧k3 (ks (Ls s g)) A W (λ_:γ=>J.of false) (λg=>Lx q g) e W')
structure Ie(P:Program)(f:FuncId)(τs:List J){bM:Type}[eu bM]{α:Type}(τ:α->J)(run:∀{σ ε:Type},(σ->aL bM)->(α->σ->aj (σ⊕ε))->σ->aj (σ⊕ε)):Prop where
 go:∀{σ ε γ:Type} (Ls:σ->γ->List aK) (Lx:ε->γ->List aK) (hq:σ->aL bM) (mc:σ->γ->List aK),(∀s g,Ls s g=mc s g++a1 (hq s))->∀(step:α->σ->aj (σ⊕ε)) (b9:σ) (g0:γ) (R:σ⊕ε->Prop),run hq step b9 R->
  ∀ (A:List Nat) (W:World) (u:Value) (vs:List Value),EJ A W (Ls b9 g0)->hN (ks (Ls b9 g0)++A) W τs vs->
    Nn P u τ Ls Lx step (λcU W'=>Ext (ks (Ls b9 g0)++A) W cU W')->
    Calls P f (u::vs).toArray W (k3 (ks (Ls b9 g0)) A W (δ:= {r // R r}×γ) (λ_=>.bT []) (λd=>Lr Ls Lx d.1.1 d.2))
def Ie.of{P:Program}{f:FuncId}{fn:Func}{code:Code}{n:Nat}{τs:aa J}{bM:Type}[eu bM]{α:Type}{τ:α->J}{run:∀{σ ε:Type},(σ->aL bM)->(α->σ->aj (σ⊕ε))->σ->aj (σ⊕ε)}
 (aW:P.funcs[f]? =some fn) (hb:fn.body=some code) (aM:fn.ntmps=n) (hlen:Nat.ble (τs.length+1) n=true)
 (h:∀{σ ε γ:Type} (Ls:σ->γ->aa aK) (Lx:ε->γ->aa aK) (hq:σ->aL bM) (mc:σ->γ->aa aK),(∀s g,Ls s g=mc s g++a1 (hq s))->∀(step:α->σ->aj (σ⊕ε)) (b9:σ) (g0:γ) (R:σ⊕ε->Prop),run hq step b9 R->
  ∀ W A u,Nn P u τ Ls Lx step (λcU W'=>Ext (ks (Ls b9 g0)++A) W cU W')->
    ay ⟨P,n,W,ks (Ls b9 g0),A,none,[]⟩ (bodyPost P fn (k3 (ks (Ls b9 g0)) A W (δ:= {r // R r}×γ) (λ_=>.bT []) (λd=>Lr Ls Lx d.1.1 d.2))) code (params 0 (.eq u::τs)) (Ls b9 g0)):Ie P f τs τ run:=by
 refine⟨?_⟩
 intro σ ε γ Ls Lx hq mc qQ step b9 g0 R aG A W u vs al bb aT
 refine G5 aW hb (wpIn_wide.1 (h Ls Lx hq mc qQ step b9 g0 R aG W A u aT _ _ ?_))
 have p9:hN (ks (Ls b9 g0)++A) W (.eq u::τs) (u::vs):=.cons I bb
 have kK:=p9.length
 have hle:τs.length+1<=n:=pI hlen
 exact
 {defers:=rfl
  size:=by simp at kK;simp[aM,kK];omega
  env:=λt τ fo=>by
   obtain⟨_,v,ad,az⟩:=Ax p9 0 t τ fo;refine⟨v,?_,az⟩;have ca:t<(u::vs).length:=(iu.1 ad).1;rw[wh (by simpa using ca)];simpa using ad
  ef:=.refl _ _
  own:=al.ok
  nodup:=al.nodup
  lt:=al.lt
  hg:=λk hk _=>hk
  fi:=al.fi}
section
variable{c:cM}{E:aa (Nat×J)}{L:aa aK}{ops:Array Oper}{Q:Exit->Act->bn->Prop}
variable{d:aD Tmp}{ty:bK}{pos:String}{af:Array Edge}{g:aD (Nat×Bool)}{x y:cu}{t t2:bK}
def aam{bM:Type}[eu bM]{σ γ:Type}{Ls mc:σ->γ->aa aK}{hq:σ->aL bM}{s:σ}{g:γ}{p:Nat}{k:bM}{e:aK}(n:Nat)(av:L.drop n=Ls s g)(qQ:∀s g,Ls s g=mc s g++a1 (hq s))(h:pat (hq s) p=some k)(hk:eu.gR p k=[e]):e∈L:=by
 obtain⟨R,h1,_⟩:=wB h;rw[hk]at h1;have:e∈L.drop n:=by rw[av,qQ];exact cF.2 (.inr (h1.mem_iff.2 (by simp)))
 exact CA this
def ag.alw{rest:aa Oper}{a7 nO:Nat}{ats:Array bK}{u:bs}{α σ ε γ:Type}{τ:α->J}{Ls:σ->γ->aa aK}{Lx:ε->γ->aa aK}{step:α->σ->aj (σ⊕ε)}{Lin:aa aK}{x:cu}{v:α}{s:σ}{gg:γ}{R:σ⊕ε->Prop}
 (ae:c.rd=none) (aT:Nn c.P u τ Ls Lx step (λcU W'=>Ext (c.X++c.b8) c.kc cU W')) (aW:look E nO=some (.eq u)) (au:aU c E (Lin++Ls s gg) x (τ v)) (aG:step v s R) (aM:Nat.blt a7 c.n=true)
 (aI:∀cq,R (.inl cq)->∀ed,ag c ops Q rest ((a7,.of true)::E) (Lin++Ls cq ed)) (bu:∀q,R (.inr q)->∀ed,ag c ops Q rest ((a7,.of false)::E) (Lin++Lx q ed)):
 ag c ops Q (⟨some a7,.call ⟨.value (.tmp nO),#[x],ats⟩,ty,pos,af,none⟩::rest) E (Lin++Ls s gg):=λa W st=>by
 obtain⟨l,rfl,aT⟩:=aT
 obtain⟨UJ,h1,ad⟩:=st.env nO _ aW
 have hu:UJ=.func (.yield l) #[] #[]:=ad
 subst hu
 have uS:bO c E (Ls s gg++Lin) a W:=st.perm nR
 have bb:=au a W st
 have p9:(τ v).holds (ks (Ls s gg)++(ks Lin++c.b8)) W (a.eval x):=(τ v).mono (.drop λk hm=>by
  rw[fM];simp only[cF]at hm⊢;rcases hm with hm|hm|hm
  ·exact .inl (.inr hm)
  ·exact .inl (.inl hm)
  exact .inr hm) bb
 obtain⟨fn,tmps,assign,body,kG,hJ⟩:=aT v s R aG gg (ks Lin++c.b8) W (a.eval x) (uS.aa2.trans D2) uS.Nl p9
 have Sy:(execOp a.eval ⟨some a7,.call ⟨.value (.tmp nO),#[x],ats⟩,ty,pos,af,none⟩).run c.P W=.ok (.round l fn tmps assign body) W:=by
  rw[<-kG];simp[execOp,resolve,Deferred.ofValue,Act.eval,h1,invoke,eg,Sem.run_pure,Result.andThen]
 refine wpListIn_plain I λK tT=>?_
 refine⟨λ_ _=>trivial,?_⟩
 rw[Pn _ _ _ (λ_ h=>by cases h),Sy,Oper.uponIn_round]
 refine⟨λh=>by simp at h,?_⟩
 have TR:RoundIn c.F (9-1) c.P l fn tmps assign body W _:=hJ
 refine TR.mono λe W' he=>?_
 rcases he with⟨cq,hs,w,ed,rfl,uT,az,aV,bc,bq⟩|⟨q,hs,w,ed,rfl,uT,az,aV,bc,bq⟩
 ·obtain rfl:=of_bool.1 bq
  refine tT _ _ (aI cq hs ed _ _ ?_)
  exact(((uS.after uT az aV bc).perm nR).put (by simpa using aM) (of_bool.2 I))
 obtain rfl:=of_bool.1 bq
 refine tT _ _ (bu q hs ed _ _ ?_)
 exact(((uS.after uT az aV bc).perm nR).put (by simpa using aM) (of_bool.2 I))
def adt{σ ε γ:Type}(c:cM)(js:ε->Code)(l D:Nat)(rec:Loop)(Ls:σ->γ->aa aK)(Lx:ε->γ->aa aK)(R:σ⊕ε->Prop):Exit->Act->bn->Prop:=λx a W=>
 (∃cq,R (.inl cq)∧x=.normal∧∃g,bO c [] (⟨some l,.is (.loop rec)⟩::⟨some D,.fI⟩::Ls cq g) a W)∨
 ∃q,R (.inr q)∧AZ (js q)=true∧x=Il (js q)∧∃g,bO c [] (⟨some l,.is (.loop rec)⟩::⟨some D,.fI⟩::Lx q g) a W
def an.ap7{σ ε γ:Type}{js:ε->Code}{l D:Nat}{rec:Loop}{Ls:σ->γ->aa aK}{Lx:ε->γ->aa aK}{R:σ⊕ε->Prop}{cq:σ}(hJ:R (.inl cq))(g:γ)(n:Nat)(av:L.drop n=⟨some l,.is (.loop rec)⟩::⟨some D,.fI⟩::Ls cq g):
 an c (adt c js l D rec Ls Lx R) .normal E L:=λa W s=>.inl ⟨cq,hJ,rfl,g,by rw[<-av];exact(s.sj n).less (λt τ h=>by simp[look]at h)⟩
def aib{gt p:Nat}{assign body:Code}{f:FuncId}{p0:aa J}{bM:Type}[eu bM]{α σ ε γ ρ:Type}{τ:α->J}{run:∀{σ ε:Type},(σ->aL bM)->(α->σ->aj (σ⊕ε))->σ->aj (σ⊕ε)}
 {Ls:σ->γ->aa aK} {Lx:ε->γ->aa aK} {hq:σ->aL bM} {step:α->σ->aj (σ⊕ε)} {b9:σ} {g0:γ} {k:σ⊕ε->aj ρ} {lE:ρ->Prop} (mc:σ->γ->aa aK) (js:ε->Code)
 (ae:c.rd=none) (ck:bJ c.P f) (bz:look E gt=some (.lx f p0)) (ni:Ie c.P f p0 τ run) (aG:aj.bind (run hq step b9) k lE) (qQ:∀s g,Ls s g=mc s g++a1 (hq s)) (av:L=Ls b9 g0) (hp:Nat.blt p c.n=true)
 (td:∀x s R,step x s R->∀g (nD:bn) (nM nE:aa Nat) (l D:Nat) (rec:Loop),rec.state=.ready->
  ay ⟨c.P,c.n,nD,nM,nE,some l,[]⟩ (Exit.then (Kb ⟨c.P,c.n,nD,nM,nE,some l,[]⟩ l body (adt ⟨c.P,c.n,nD,nM,nE,some l,[]⟩ js l D {rec with state:=.busy} Ls Lx R)) (λ_ _ _=>False)) assign ((p,τ x)::E) (⟨some l,.is (.loop rec)⟩::⟨some D,.fI⟩::Ls s g))
 (sk:∀cq,k (.inl cq) lE->∀g D,an {c with ds:=D::c.ds} Q .normal E (⟨some D,.fI⟩::Ls cq g))
 (Bc:∀q,k (.inr q) lE->∀g D,ay {c with ds:=D::c.ds} Q (js q) E (⟨some D,.fI⟩::Lx q g)):
 ay c Q (.rangeFunc (.tmp gt) #[p] assign body) E L:=λa W st=>by
 subst av
 refine wpIn_rangeFunc λfn xt=>?_
 show ∃l mark Br d aog Fs args aq6,(Instr.enterLoop fn a.tmps #[p] assign body c.rd).run c.P W=_∧_
 rw[ae]
 obtain⟨rec,mX⟩:∃rec:Loop,rec= {state:=.ready,pending:=none,fn,tmps:=a.tmps,params:= #[p],assign,body,defers:=W.heap.size}:=⟨_,rfl⟩
 obtain⟨v,Jt,fQ,BT,asE⟩:=st.env gt _ bz
 obtain⟨iZ,Ju⟩:∃iZ,(W.alloc (.deferred (some []))).alloc (.loop rec)=iZ:=⟨_,rfl⟩
 have s1:=(st.alloc (o:=.deferred (some [])) (cp:=.fI) I).alloc (o:=.loop rec) (cp:=.is (.loop rec)) I
 rw[Ju,KV]at s1
 obtain⟨D,kY⟩:∃D,D=W.heap.size:=⟨_,rfl⟩
 obtain⟨l,al⟩:∃l,l=W.heap.size+1:=⟨_,rfl⟩
 have Jv:=run_enterLoop_outer (P:=c.P) (w:=W) fn a.tmps #[p] assign body
 rw[<-mX,Ju,<-al,<-kY]at Jv
 rw[<-al,<-kY]at s1
 obtain⟨oc,uU⟩:∃oc:σ->γ->aa aK,oc=λs g=>⟨some l,.is (.loop rec)⟩::⟨some D,.fI⟩::Ls s g:=⟨_,rfl⟩
 obtain⟨qa,Jw⟩:∃qa:ε->γ->aa aK,qa=λq g=>⟨some l,.is (.loop {rec with state:=.done,pending:=some (js q)})⟩::⟨some D,.fI⟩::Lx q g:=⟨_,rfl⟩
 have s2:bO c E (oc b9 g0) a iZ:=by rw[uU];exact s1
 have TT:hN (ks (oc b9 g0)++c.b8) iZ p0 fQ:=by
  have h1:(J.lx f p0).holds (ks (oc b9 g0)++c.b8) iZ v:=by
   obtain⟨zr,h1,ad⟩:=s2.env gt _ bz;rw[Jt]at h1;cases h1;exact ad
  obtain⟨TU,ar,aS⟩:=h1;rw[BT]at ar;have:TU=fQ:=by injection ar with _ _ ar;injection ar with ar;exact ar.symm
  rw[<-this];exact aS
 have Jx:bO c E ((oc b9 g0)++[]) a iZ:=by rw[ov];exact s2
 have Ix:=Jx.Nl
 simp only[ks,List.nil_append]at Ix
 have Tj:Nn c.P (.func (.yield l) #[] #[]) τ oc qa step (λcU W'=>Ext (ks (oc b9 g0)++c.b8) iZ cU W'):=by
  refine⟨l,rfl,λx s we hs g A r2 v2 je hle bb=>?_⟩;have Bs:=hle;rw[uU]at Bs;obtain⟨o,dn,e9⟩:=Bs.ok ⟨some l,.is (.loop rec)⟩ (by simp);have uD:o=.loop rec:=e9;subst uD;have aT:=run_yield (P:=c.P) (args:= #[v2]) dn (by rw[mX];rfl);refine⟨_,_,_,_,aT,roundIn_of_wpIn lL ?_⟩;have ar:rec.assign=assign:=by rw[mX]
  have aS:rec.body=body:=by rw[mX]
  have cE:rec.params= #[p]:=by rw[mX]
  have eK:rec.tmps=a.tmps:=by rw[mX]
  rw[ar,aS,cE,eK];refine LQ (n:=9) I ?_;have Sz:((#[p]:Array Tmp).zip #[v2]).foldl (λtmps (t,a)=>tmps.setIfInBounds t a) a.tmps=a.tmps.setIfInBounds p v2:=by simp
  rw[Sz];subst uU Jw;refine wpIn_mono ((td x s we hs g r2 (ks (⟨some l,.is (.loop rec)⟩::⟨some D,.fI⟩::Ls s g)) A l D rec (by rw[mX])) {tmps:=a.tmps.setIfInBounds p v2,defers:=[]} r2 ?_) ?_
  ·have lb:p<c.n:=by simpa using hp
   exact
   {defers:=rfl
    size:=by simp[s2.size]
    env:=λt oN fo=>by
     simp only[look]at fo;by_cases e:Nat.beq p t=true
     ·rw[e]at fo;simp only[cond_true,gk]at fo;subst fo;have:=ff.1 e;subst this;exact⟨v2,by simp[s2.size,lb],bb⟩
     simp only[jl]at e;rw[e]at fo;simp only[cond_false]at fo;obtain⟨u,h1,ad⟩:=s2.env t oN fo;have df:p≠t:=λh=>by rw[ff.2 h]at e;cases e
     exact⟨u,by rw[On df];exact h1,oN.mono je ad⟩
    ef:=.refl _ _
    own:=hle.ok
    nodup:=hle.nodup
    lt:=hle.lt
    hg:=λk hk _=>hk
    fi:=hle.fi}
  intro e a3 at6 hq;cases e with
  | normal=>
    obtain⟨UK,TV,hb⟩:=hq
    refine⟨UK,TV,LQ (n:=9) I (wpIn_mono hb ?_)⟩
    intro e a5 Kc NL
    have fin:∀(jump:aD Code) {Lr:aa aK},bO ⟨c.P,c.n,r2,ks (⟨some l,.is (.loop rec)⟩::⟨some D,.fI⟩::Ls s g),A,some l,[]⟩ [] (⟨some l,.is (.loop {rec with state:=.busy})⟩::⟨some D,.fI⟩::Lr) a5 Kc->
     ∃sI,(Instr.endRound l jump).run c.P Kc=.ok (.bool jump.isNone) sI∧bO ⟨c.P,c.n,r2,ks (⟨some l,.is (.loop rec)⟩::⟨some D,.fI⟩::Ls s g),A,some l,[]⟩ [] (⟨some l,.is (.loop {rec with state:=if jump.isNone then .ready else .done,pending:=jump})⟩::⟨some D,.fI⟩::Lr) a5 sI:=λjump Lr jZ=>by
     obtain⟨o,h1,ad⟩:=jZ.own ⟨some l,.is (.loop {rec with state:=.busy})⟩ (by simp)
     have l3:o=.loop {rec with state:=.busy}:=ad
     subst l3
     exact⟨_,run_endRound jump h1,jZ.uC (i:=0) I I⟩
    rcases NL with⟨cq,jx,rfl,ed,jZ⟩|⟨q,jx,aB,rfl,ed,jZ⟩
    ·obtain⟨sI,bq,kX⟩:=fin none jZ
     refine⟨_,sI,bq,.inl ⟨cq,jx,?_⟩⟩
     have TW:({rec with state:=if (none:aD Code).isNone then .ready else .done,pending:=none}:Loop)=rec:=by rw[mX];rfl
     rw[TW]at kX
     exact kX.ends (ρ:=λ_:γ=>J.of true) (Lo:=λg=>⟨some l,.is (.loop rec)⟩::⟨some D,.fI⟩::Ls cq g) ed (zU _) (of_bool.2 I)
    obtain⟨sI,bq,kX⟩:=fin (some (js q)) jZ
    have key:k3 (ks (⟨some l,.is (.loop rec)⟩::⟨some D,.fI⟩::Ls s g)) A r2 (λ_:γ=>J.of false) (λg=>⟨some l,.is (.loop {rec with state:=.done,pending:=some (js q)})⟩::⟨some D,.fI⟩::Lx q g) (.returned (.bool false)) sI:=
     kX.ends (ρ:=λ_:γ=>J.of false) (Lo:=λg=>⟨some l,.is (.loop {rec with state:=.done,pending:=some (js q)})⟩::⟨some D,.fI⟩::Lx q g) ed (zU _) (of_bool.2 I)
    exact WC aB bq (.inr ⟨q,jx,key⟩)
  |exit id=>exact hq.elim
  |goto t=>exact hq.elim
  |ret=>exact hq.elim
  |panic mf=>exact hq.elim
  |outgrown=>exact hq.elim
 have Bd:=ni.go oc qa hq (λs g=>⟨some l,.is (.loop rec)⟩::⟨some D,.fI⟩::mc s g) (λs g=>by rw[uU];simp only[qQ,List.cons_append]) step b9 g0 (λr=>k r lE) aG c.b8 iZ (.func (.yield l) #[] #[]) fQ Ix TT Tj
 have ob:a.eval (.tmp gt)=.func (.func f) #[] fQ.toArray:=by simp[Act.eval,Jt,BT]
 refine⟨l,[Nh D],iZ,{target:=.fn (.func f) fQ.toArray,args:= #[.func (.yield l) #[] #[]]},iZ,f,#[.func (.yield l) #[] #[]]++fQ.toArray,iZ,Jv,?_,λ_ _=>trivial,?_,λh=>by simp at h,?_⟩
 ·simp only[resolve,ob]
  simp[go_sem]
 ·simp[invoke,go_sem,ck.run]
 refine CallsIn.QL ?_
 have SA:(#[.func (.yield l) #[] #[]]++fQ.toArray:Array bs)=(.func (.yield l) #[] #[]::fQ).toArray:=by simp
 rw[SA]
 refine Bd.mono λe UL ⟨at7,⟨⟨r,adu⟩,ed⟩,he,aW,az,aV,bc,bq⟩=>?_
 subst he
 have sJ:=Jx.after aW az (by simpa[ks]using aV) (by simpa[ks]using bc)
 rw[ov]at sJ
 cases r with
 | inl cq=>
   simp only[Lr]at sJ
   subst uU
   obtain⟨o,dn,e9⟩:=sJ.own ⟨some l,.is (.loop rec)⟩ (by simp)
   have uD:o=.loop rec:=e9
   subst uD
   have oK:=Lj (P:=c.P) dn (by rw[mX];simp)
   have lb:rec.pending=none:=by rw[mX]
   rw[lb]at oK
   refine⟨none,_,oK,?_⟩
   have xE:=(sJ.uC (i:=0) (cp':=.is (.loop {rec with state:=.exhausted})) (o':=.loop {rec with state:=.exhausted}) I I).sj 1
   rw[lb]at xE
   exact sk cq adu ed D _ _ (xE.mark D)
 | inr q=>
   simp only[Lr]at sJ
   subst Jw
   obtain⟨o,dn,e9⟩:=sJ.own ⟨some l,.is (.loop {rec with state:=.done,pending:=some (js q)})⟩ (by simp)
   have uD:o=.loop {rec with state:=.done,pending:=some (js q)}:=e9
   subst uD
   have oK:=Lj (P:=c.P) dn (by simp)
   refine⟨some (js q),_,oK,?_⟩
   have xE:=(sJ.uC (i:=0) (cp':=.is (.loop {rec with state:=.exhausted,pending:=some (js q)})) (o':=.loop {rec with state:=.exhausted,pending:=some (js q)}) I I).sj 1
   exact Bc q adu ed D _ _ (xE.mark D)
end
def aj.any(α:Type):aj α:=λQ=> ∀x,Q x
def aj.any_bind{α β:Type}{k:α->aj β}{R:β->Prop}(h:aj.bind (aj.any α) k R)(x:α):k x R:=h x
def hN.append{A:aa Nat}{W:bn}:∀{τs σs:aa J} {vs us:aa bs},hN A W τs vs->hN A W σs us->hN A W (τs++σs) (vs++us)
 |_,_,_,_,.nil,h=>h
 |_,_,_,_,.cons h r,ad=>.cons h (r.append ad)
section
variable{c:cM}{E:aa (Nat×J)}{L:aa aK}{ops:Array Oper}{Q:Exit->Act->bn->Prop}
variable{d:aD Tmp}{ty:bK}{pos:String}{af:Array Edge}{g:aD (Nat×Bool)}{x y:cu}{t t2:bK}
def eD(c:cM)(E:aa (Nat×J))(L:aa aK)(o:Oper){δ:Type}(ρ:δ->J)(L':δ->aa aK):Prop:=
 ∀a W,bO c E L a W->h4 c.P o a W λv W'=> ∃q,bO c E (L' q) a W'∧(ρ q).holds (ks (L' q)++c.b8) W' v
def ag.qe{o:Oper}{rest:aa Oper}{a7:Nat}{δ:Type}{ρ:δ->J}{L':δ->aa aK}(h:eD c E L o ρ L')(bz:o.guard=none)(hd:o.dst=some a7)(aM:Nat.blt a7 c.n=true)
 (k:∀q,ag c ops Q rest ((a7,ρ q)::E) (L' q)):ag c ops Q (o::rest) E L:=λa W s=>
 jn bz (h a W s) λv W' ⟨q,f,bb⟩=>by
  rw[hd];exact k q _ _ (f.put (by simpa using aM) bb)
def ag.aed{o:Oper}{rest:aa Oper}{a7 j gs:Nat}{b want:Bool}{δ β:Type}{σ:β->J}{L2:β->aa aK}{K:β->Prop}{val:δ->β}{ρ:δ->J}{L':δ->aa aK}(bz:o.guard=some (j,want))(aB:(ops[j]?).bind (·.dst)=some gs)
 (al:look E gs=some (.of b)) (hd:o.dst=some a7) (aM:Nat.blt a7 c.n=true) (h:b=want->eD c E L o ρ L')
 (h1:b=want->∀q,K (val q)∧ρ q=σ (val q)∧L' q=L2 (val q)) (ad: ¬b=want->∃y,K y∧L=L2 y)
 (k:∀y,K y->ag c ops Q rest ((a7,.cond (b=want) (σ y))::E) (L2 y)):ag c ops Q (o::rest) E L:=λa W s=>by
 have aT:=DS aB al s
 unfold cM.sx wpListIn
 by_cases hb:b=want
 ·rw[bh (by simp[Region.wanted,bz,aT,hb])]
  refine((h hb a W s).wpIn λv W' ⟨q,f,bb⟩=>?_)
  obtain⟨ar,aS,cE⟩:=h1 hb q
  rw[aS]at bb
  rw[cE]at f bb
  rw[hd]
  exact k _ ar _ _ (f.put (by simpa using aM) ⟨λ_=>bb,λh=>absurd hb h⟩)
 rw[bf (by simp[Region.wanted,bz,aT,hb])]
 rw[hd]
 obtain⟨y,ar,aS⟩:=ad hb
 rw[aS]at s
 exact⟨λ_ _=>trivial,k y ar _ _ (s.put (by simpa using aM) ⟨λh=>absurd h hb,λ_=>rfl⟩)⟩
def eD.perm{gi:aa aK}{o:Oper}{δ:Type}{ρ:δ->J}{L' L2:δ->aa aK}(p:L.Perm gi)(xG:∀q,(L' q).Perm (L2 q))(h:eD c E gi o ρ L'):eD c E L o ρ L2:=λa W s=>by
 have:=h a W (s.perm p);unfold h4 at this⊢;exact uc (λiI W' ⟨v,h1,q,ad,az⟩=>⟨v,h1,q,ad.perm (xG q),(ρ q).mono (pP (xG q)) az⟩) this
def eD.to{o:Oper}{δ:Type}{ρ:δ->J}{L' L2:δ->aa aK}(e:∀q,L' q=L2 q)(h:eD c E L o ρ L'):eD c E L o ρ L2:=by
 have:L'=L2:=funext e;subst this;exact h
def eD.map{o:Oper}{δ BV:Type}{ρ:δ->J}{L':δ->aa aK}{za:BV->J}{L2:BV->aa aK}(F:δ->BV)(aG:∀d,za (F d)=ρ d)(al:∀d,L2 (F d)=L' d)(h:eD c E L o ρ L'):eD c E L o za L2:=λa W s=>by
 have:=h a W s;unfold h4 at this⊢;exact uc (λiI W' ⟨v,h1,q,ad,az⟩=>⟨v,h1,F q,by rw[al];exact ad,by rw[al,aG];exact az⟩) this
def eD.hE{α:Type}[ak α]{o:Oper}{i s cap T:Nat}{key:aD Nat}{xs:aa α}{δ:Type}{ρ:δ->J}{L':δ->aa aK}(al:look E s=some (.eq (aP key xs.length cap)))(av:L[i]? =some ⟨key,.row T xs cap⟩)
 (h:eD c ((s,.of xs)::E) (L.set i ⟨none,.dead⟩) o ρ L'):eD c E L o ρ L':=λa W st=>by
 have h1:=h a W (st.freeze al av)
 unfold h4 at h1⊢
 refine uc (λiI W' ⟨v,ad,q,cq,az⟩=>⟨v,ad,q,{cq with env:=λt τ fo=>?_},az⟩) h1
 by_cases e:Nat.beq s t=true
 ·have:=ff.1 e
  subst this
  rw[al]at fo
  cases fo
  obtain⟨v,aV,bc⟩:=st.env s _ al
  exact⟨v,aV,bc⟩
 refine cq.env t τ ?_
 simp only[look]
 rw[jl]at e
 rw[e]
 exact fo
def eD.aG{o:Oper}{τ:J}(h:bj c E L o τ):eD c E L o (λ_:Unit=>τ) (λ_=>L):=λa W s=>by
 have h1:=h a W s;unfold h4 at h1⊢;exact uc (λiI W' ⟨v,ad,f,az⟩=>⟨v,ad,(),s.world f,az⟩) h1
def eD.aq8{o:Oper}{δ:Type}{τ:J}(h:eD c E L o (λ_:δ=>τ) (λ_=>L)):dL c E L o τ:=λa W s=>by
 have:=h a W s;unfold h4 at this⊢;exact uc (λiI W' ⟨v,h1,q,ad,az⟩=>⟨v,h1,ad,az⟩) this
def eD.call{o:Oper}{f:FuncId}{q1:Act->aa bs}{τs:aa J}{Lin Lr:aa aK}{δ:Type}{ρ:δ->J}{Lo:δ->aa aK}(h:bN c.P f τs Lin ρ Lo)
 (ae:∀a W,bO c E (Lin++Lr) a W->(execOp a.eval o).run c.P W=.ok (.enter f (q1 a).toArray) W∧hN (ks (Lin++Lr)++c.b8) W τs (q1 a)):eD c E (Lin++Lr) o ρ (λq=>Lo q++Lr):=λa W s=>by
 obtain⟨kG,au⟩:=ae a W s
 have nB:=s.nodup
 rw[fM]at nB
 obtain⟨pt,uQ,sB⟩:=q8.1 nB
 have iW:Ext (ks (Lin++Lr)++c.b8) W (ks Lin++(ks Lr++c.b8)) W:=D2
 have eX:∀k∈ks Lr++c.b8,k<W.heap.size∧k∉ks Lin:=λk hm=>by
  rcases cF.1 hm with hm|hm
  ·exact⟨s.lt k (by rw[fM];exact cF.2 (.inr hm)),λh=>sB k h k hm I⟩
  obtain⟨h1,ad⟩:=s.fi k hm;exact⟨h1,λh=>ad (by rw[fM];exact cF.2 (.inl h))⟩
 have ca:∀k∈ks Lin,k<W.heap.size:=λk hm=>s.lt k (by rw[fM];exact cF.2 (.inl hm))
 refine .yi (f:=f) (args:=(q1 a).toArray) (W':=W) kG ?_
 refine(h (ks Lr++c.b8) W (q1 a) eX pt ca (λe he=>aK.wL (s.own e (cF.2 (.inl he))) iW λ_ _=>rfl) (au.mono iW)).mono λe W' ⟨v,a7,he,aW,h1,ad,az,aV⟩=>?_
 exact⟨v,he,a7,s.after aW h1 ad az,(ρ a7).mono L0 aV⟩
def eD.aa5{o:Oper}{bM:Type}[eu bM]{hp:aL bM}{Lin Lr:aa aK}{δ:Type}{ρ:δ->J}{Lo:δ->aa aK}{hq:δ->aL bM}(n m:Nat)(av:L.drop n=a1 hp)(h1:(L.take n).take m=Lin)(ad:(L.take n).drop m=Lr)
 (h:eD c E ((Lin++a1 hp)++Lr) o ρ (λq=>(Lo q++a1 (hq q))++Lr)):eD c E L o ρ (λq=>(Lo q++Lr)++a1 (hq q)):=by
 have e:L=(Lin++Lr)++a1 hp:=by rw[<-h1,<-ad,gz,<-av,gz]
 clear av h1 ad
 subst e
 exact h.perm ox λq=>ox
def eD.ek{f:FuncId}{xs:aa cu}{ats:Array bK}{bM:Type}[eu bM]{hp:aL bM}{τs:aa J}{Lin Lr:aa aK}{δ:Type}{ρ:δ->J}{Lo:δ->aa aK}{hq:δ->aL bM}(n m:Nat)(av:L.drop n=a1 hp)(ck:bJ c.P f)(h:bN c.P f τs (Lin++a1 hp) ρ (λd=>Lo d++a1 (hq d)))
 (h1:(L.take n).take m=Lin) (ad:(L.take n).drop m=Lr) (au:jr c E L xs τs):eD c E L ⟨d,.call ⟨.value (.func f),xs.toArray,ats⟩,ty,pos,af,g⟩ ρ (λq=>(Lo q++Lr)++a1 (hq q)):=by
 have e:L=(Lin++Lr)++a1 hp:=by rw[<-h1,<-ad,gz,<-av,gz]
 refine eD.aa5 n m av h1 ad (eD.call (q1:=λa=>xs.map a.eval) h λa W s=>⟨by simp[execOp,resolve,Deferred.ofValue,Act.eval,invoke,ck.run],?_⟩)
 subst e
 exact(au.holds a W (s.perm ox.symm)).mono (pP ox)
def eD.lK{f:FuncId}{xs:aa cu}{ats:Array bK}{τs:aa J}{Lin Lr:aa aK}{δ:Type}{ρ:δ->J}{Lo:δ->aa aK}(m:Nat)(ck:bJ c.P f)(h:bN c.P f τs Lin ρ Lo)
 (h1:L.take m=Lin) (ad:L.drop m=Lr) (au:jr c E L xs τs):eD c E L ⟨d,.call ⟨.value (.func f),xs.toArray,ats⟩,ty,pos,af,g⟩ ρ (λq=>Lo q++Lr):=by
 have e:L=Lin++Lr:=by rw[<-h1,<-ad,gz]
 clear h1 ad
 subst e
 exact eD.call (q1:=λa=>xs.map a.eval) h λa W s=>⟨by simp[execOp,resolve,Deferred.ofValue,Act.eval,invoke,ck.run],au.holds a W s⟩
def aU.akW{rZ:cu}{f:FuncId}{uE τs:aa J}{xs:aa cu}{ats:Array bK}(ck:bJ c.P f)(aW:aU c E L rZ (.lx f uE))(au:jr c E L xs τs){a:Act}{W:bn}(s:bO c E L a W):
 ∃fQ:aa bs,(execOp a.eval ⟨d,.call ⟨.value rZ,xs.toArray,ats⟩,ty,pos,af,g⟩).run c.P W=.ok (.enter f (xs.map a.eval++fQ).toArray) W∧hN (ks L++c.b8) W (τs++uE) (xs.map a.eval++fQ):=by
 obtain⟨fQ,h1,ad⟩:=aW a W s
 exact⟨fQ,by simp[execOp,resolve,Deferred.ofValue,h1,invoke,ck.run],(au.holds a W s).append ad⟩
def eD.lx{rZ:cu}{f:FuncId}{uE τs:aa J}{xs:aa cu}{ats:Array bK}{Lin Lr:aa aK}{δ:Type}{ρ:δ->J}{Lo:δ->aa aK}(m:Nat)(ck:bJ c.P f)(aW:aU c E L rZ (.lx f uE))(h:bN c.P f (τs++uE) Lin ρ Lo)
 (h1:L.take m=Lin) (ad:L.drop m=Lr) (au:jr c E L xs τs):eD c E L ⟨d,.call ⟨.value rZ,xs.toArray,ats⟩,ty,pos,af,g⟩ ρ (λq=>Lo q++Lr):=by
 have e:L=Lin++Lr:=by rw[<-h1,<-ad,gz]
 clear h1 ad
 subst e
 intro a W s
 obtain⟨fQ,az,aV⟩:=aU.akW (d:=d) (ty:=ty) (pos:=pos) (af:=af) (g:=g) (ats:=ats) ck aW au s
 have nB:=s.nodup
 rw[fM]at nB
 obtain⟨pt,uQ,sB⟩:=q8.1 nB
 have iW:Ext (ks (Lin++Lr)++c.b8) W (ks Lin++(ks Lr++c.b8)) W:=D2
 have eX:∀k∈ks Lr++c.b8,k<W.heap.size∧k∉ks Lin:=λk hm=>by
  rcases cF.1 hm with hm|hm
  ·exact⟨s.lt k (by rw[fM];exact cF.2 (.inr hm)),λh=>sB k h k hm I⟩
  obtain⟨h1,ad⟩:=s.fi k hm;exact⟨h1,λh=>ad (by rw[fM];exact cF.2 (.inl h))⟩
 have ca:∀k∈ks Lin,k<W.heap.size:=λk hm=>s.lt k (by rw[fM];exact cF.2 (.inl hm))
 refine .yi (f:=f) (W':=W) az ?_
 refine(h (ks Lr++c.b8) W _ eX pt ca (λe he=>aK.wL (s.own e (cF.2 (.inl he))) iW λ_ _=>rfl) (aV.mono iW)).mono λe W' ⟨v,a7,he,aW,h1,ad,az,aV⟩=>?_
 exact⟨v,he,a7,s.after aW h1 ad az,(ρ a7).mono L0 aV⟩
def jr.perm{gi:aa aK}(p:L.Perm gi):∀{xs:aa cu} {τs:aa J},jr c E L xs τs->jr c E gi xs τs
 |[],[],h=>h
 |_::_,_::_,h=>⟨h.1.perm p,jr.perm p h.2⟩
 |[],_::_,h=>h.elim
 |_::_,[],h=>h.elim
def eD.SV{rZ:cu}{f:FuncId}{uE τs:aa J}{xs:aa cu}{ats:Array bK}{bM:Type}[eu bM]{hp:aL bM}{Lin Lr:aa aK}{δ:Type}{ρ:δ->J}{Lo:δ->aa aK}{hq:δ->aL bM}(n m:Nat)(av:L.drop n=a1 hp)(ck:bJ c.P f)(aW:aU c E L rZ (.lx f uE))(h:bN c.P f (τs++uE) (Lin++a1 hp) ρ (λd=>Lo d++a1 (hq d)))
 (h1:(L.take n).take m=Lin) (ad:(L.take n).drop m=Lr) (au:jr c E L xs τs):eD c E L ⟨d,.call ⟨.value rZ,xs.toArray,ats⟩,ty,pos,af,g⟩ ρ (λq=>(Lo q++Lr)++a1 (hq q)):=by
 have e:L=(Lin++Lr)++a1 hp:=by rw[<-h1,<-ad,gz,<-av,gz]
 refine eD.aa5 n m av h1 ad ?_
 subst e
 refine eD.to (λq=>rfl) (eD.lx (Lin++a1 hp).length ck (aW.perm ox) h GJ List.drop_left (au.perm ox))
def eD.obj{f:FuncId}{xs:aa cu}{ats:Array bK}{bM:Type}[eu bM]{hp:aL bM}{p:Nat}{k:bM}{τs:aa J}{Lin:aa aK}{δ:Type}{ρ:δ->J}{Lo:δ->aa aK}(n:Nat)(k':δ->bM)(av:L.drop n=a1 hp)(hp':pat hp p=some k)(ck:bJ c.P f)(h:bN c.P f τs Lin ρ Lo)
 (hk:eu.gR p k=Lin) (kJ:∀q,eu.gR p (k' q)=Lo q) (au:jr c E L xs τs):eD c E L ⟨d,.call ⟨.value (.func f),xs.toArray,ats⟩,ty,pos,af,g⟩ ρ (λq=>L.take n++a1 (cJ hp p (k' q))):=by
 obtain⟨R,bk,bo⟩:=wB hp'
 have e:L=L.take n++a1 hp:=by rw[<-av,gz]
 have cc:∀{M X:aa aK},M.Perm (X++R)->(L.take n++M).Perm (X++(R++L.take n)):=λh=>nR.trans ((h.append_right _).trans (by rw[iJ]))
 have TY:L.Perm (Lin++(R++L.take n)):=by
  conv=>lhs;rw[e]
  exact cc (by rw[<-hk];exact bk)
 refine eD.perm TY (λq=>(cc (bo (k' q))).symm) ?_
 refine eD.to (λq=>by rw[kJ]) (eD.call (Lr:=R++L.take n) (q1:=λa=>xs.map a.eval) h λa W s=>⟨by simp[execOp,resolve,Deferred.ofValue,Act.eval,invoke,ck.run],?_⟩)
 exact(au.holds a W (s.perm TY.symm)).mono (pP TY)
def dL.obj{f:FuncId}{xs:aa cu}{ats:Array bK}{bM:Type}[eu bM]{hp:aL bM}{p:Nat}{k:bM}{τs:aa J}{Lin:aa aK}{δ:Type}{τ:J}(n:Nat)(av:L.drop n=a1 hp)(hp':pat hp p=some k)(ck:bJ c.P f)(h:bN c.P f τs Lin (λ_:δ=>τ) (λ_=>Lin))
 (hk:eu.gR p k=Lin) (au:jr c E L xs τs):dL c E L ⟨d,.call ⟨.value (.func f),xs.toArray,ats⟩,ty,pos,af,g⟩ τ:=by
 have e:L=L.take n++a1 hp:=by rw[<-av,gz]
 have zb:cJ hp p k=hp:=by
  clear e av h hk;induction hp with
  |nil=>rfl
  | cons z r cj=>
    obtain⟨q,aub⟩:=z
    simp only[pat]at hp'
    simp only[cJ]
    split at hp'
    ·rename_i e;simp only[gk]at hp';rw[bh e,hp']
    rename_i e;rw[bf e,cj hp']
 refine eD.aq8 (eD.to (λq=>?_) (eD.obj (d:=d) (ty:=ty) (pos:=pos) (af:=af) (g:=g) (ats:=ats) n (λ_=>k) av hp' ck h hk (λ_=>hk) au))
 rw[zb,<-e]
def ag.aao{l:aa Oper}{bM:Type}[eu bM]{hp:aL bM}{p:Nat}{Lin Lr:aa aK}(n m:Nat)(mk:bM)(av:L.drop n=a1 hp)(h1:(L.take n).take m=Lin)(ad:(L.take n).drop m=Lr)(hk:eu.gR p mk=Lin)(hm:p∈ks Lin)
 (k:∀a:Nat×aL bM,a.1∉hp.map (·.1)∧a.2=(a.1,mk)::hp->a.1=p->ag c ops Q l E (Lr++a1 a.2)):ag c ops Q l E L:=λa W s=>by
 have e:L=(Lin++Lr)++a1 hp:=by rw[<-h1,<-ad,gz,<-av,gz]
 have cc:L.Perm (Lr++a1 ((p,mk)::hp)):=by
  rw[e,a1,hk,<-iJ];exact nR.append_right _
 refine k (p,(p,mk)::hp) ⟨λJE=>?_,rfl⟩ I _ _ (s.perm cc)
 have lU:=s.nodup
 rw[e,fM,fM]at lU
 exact(q8.1 lU).2.2 p (cF.2 (.inl hm)) p (ZB JE) I
end
section
variable{c:cM}{E:aa (Nat×J)}{L:aa aK}{ops:Array Oper}{Q:Exit->Act->bn->Prop}
def gX.q{hs:aa dX}{i np:Nat}{o:Oper}{h:dX}(bW:gX c ops Q hs E L i o h):yu c ops Q hs E L np i o h:=λhd E' L' h1 ad _=>bW hd E' L' h1 ad
structure Ig(P:Program)(f:FuncId)(τs:List J){bM:Type}[eu bM](hp:aL bM){α:Type}(τ:α->J)(run:∀{σ ε:Type},(α->σ->Option (σ⊕ε))->σ->Option (σ⊕ε)):Prop where
 go:∀{σ ε γ:Type} (Ls:σ->γ->List aK) (Lx:ε->γ->List aK) (mc:σ->γ->List aK),(∀s g,Ls s g=mc s g++a1 hp)->TS P f τs [] τ (run (σ:=σ) (ε:=ε)) Ls Lx
def Ig.of{P:Program}{f:FuncId}{fn:Func}{code:Code}{n:Nat}{τs:aa J}{bM:Type}[eu bM]{hp:aL bM}{α:Type}{τ:α->J}{run:∀{σ ε:Type},(α->σ->aD (σ⊕ε))->σ->aD (σ⊕ε)}
 (aW:P.funcs[f]? =some fn) (hb:fn.body=some code) (aM:fn.ntmps=n) (hlen:Nat.ble (τs.length+1) n=true)
 (h:∀{σ ε γ:Type} (Ls:σ->γ->aa aK) (Lx:ε->γ->aa aK) (mc:σ->γ->aa aK),(∀s g,Ls s g=mc s g++a1 hp)->∀(step:α->σ->aD (σ⊕ε)) (b9:σ) (g0:γ) (r:σ⊕ε),run step b9=some r->
  ∀ W A u,BS P u τ Ls Lx step (λcU W'=>Ext (ks (Ls b9 g0)++A) W cU W')->
    ay ⟨P,n,W,ks (Ls b9 g0),A,none,[]⟩ (bodyPost P fn (k3 (ks (Ls b9 g0)) A W (λ_:γ=>.bT []) (λg=>[]++Lr Ls Lx r g))) code (params 0 (.eq u::τs)) (Ls b9 g0)):Ig P f τs hp τ run:=by
 refine⟨?_⟩
 intro σ ε γ Ls Lx mc qQ step b9 g0 r aG A W u vs al bb aT
 refine G5 aW hb (wpIn_wide.1 (h Ls Lx mc qQ step b9 g0 r aG W A u aT _ _ ?_))
 have p9:hN (ks (Ls b9 g0)++A) W (.eq u::τs) (u::vs):=.cons I bb
 have kK:=p9.length
 have hle:τs.length+1<=n:=pI hlen
 exact
 {defers:=rfl
  size:=by simp at kK;simp[aM,kK];omega
  env:=λt τ fo=>by
   obtain⟨_,v,ad,az⟩:=Ax p9 0 t τ fo;refine⟨v,?_,az⟩;have ca:t<(u::vs).length:=(iu.1 ad).1;rw[wh (by simpa using ca)];simpa using ad
  ef:=.refl _ _
  own:=al.ok
  nodup:=al.nodup
  lt:=al.lt
  hg:=λk hk _=>hk
  fi:=al.fi}
def amY{bM:Type}[eu bM]{σ γ:Type}{Ls mc:σ->γ->aa aK}{hp:aL bM}{s:σ}{g:γ}{p:Nat}{k:bM}{e:aK}(n:Nat)(av:L.drop n=Ls s g)(qQ:∀s g,Ls s g=mc s g++a1 hp)(h:pat hp p=some k)(hk:eu.gR p k=[e]):e∈L:=
 aam (hq:=λ_=>hp) n av qQ h hk
def P6{gt p:Nat}{assign body:Code}{f:FuncId}{p0:aa J}{bM:Type}[eu bM]{hp:aL bM}{α σ ε γ:Type}{τ:α->J}{run:∀{σ ε:Type},(α->σ->aD (σ⊕ε))->σ->aD (σ⊕ε)}
 {Ls:σ->γ->aa aK} {Lx:ε->γ->aa aK} {step:α->σ->aD (σ⊕ε)} {b9:σ} {g0:γ} {r:σ⊕ε} (mc:σ->γ->aa aK) (js:ε->Code)
 (ae:c.rd=none) (ck:bJ c.P f) (bz:look E gt=some (.lx f p0)) (ni:Ig c.P f p0 hp τ run) (aG:run step b9=some r) (qQ:∀s g,Ls s g=mc s g++a1 hp) (av:L=Ls b9 g0) (hp':Nat.blt p c.n=true)
 (td:∀x s r,step x s=some r->∀g (nD:bn) (nM nE:aa Nat) (l D:Nat) (rec:Loop),rec.state=.ready->
  ay ⟨c.P,c.n,nD,nM,nE,some l,[]⟩ (Exit.then (Kb ⟨c.P,c.n,nD,nM,nE,some l,[]⟩ l body (Ka ⟨c.P,c.n,nD,nM,nE,some l,[]⟩ js l D {rec with state:=.busy} Ls Lx r)) (λ_ _ _=>False)) assign ((p,τ x)::E) (⟨some l,.is (.loop rec)⟩::⟨some D,.fI⟩::Ls s g))
 (sk:∀cq,r=.inl cq->∀g D,an {c with ds:=D::c.ds} Q .normal E (⟨some D,.fI⟩::Ls cq g))
 (Bc:∀q,r=.inr q->∀g D,ay {c with ds:=D::c.ds} Q (js q) E (⟨some D,.fI⟩::Lx q g)):
 ay c Q (.rangeFunc (.tmp gt) #[p] assign body) E L:=
 Xu (Lin:=[]) (run:=run) js ae ck bz (λar aS qa=>ni.go (λs g=>ar::aS::Ls s g) qa (λs g=>ar::aS::mc s g) (λs g=>by rw[qQ];rfl)) aG av hp' td sk Bc
end
structure Raw where
 f:FuncId
 us:Option (List Value)
instance:Inhabited Raw:=⟨⟨0,none⟩⟩
def Raw.val:Raw->bs
 |⟨f,some us⟩=>.func (.func f) #[] us.toArray
 |⟨_,none⟩=>.nilFunc
instance:ak Raw where
 size:=1
 agg:=false
 rep _ _ cs x:=cs=[x.val]
 len h:=by rw[h];rfl
 one h:=by
  intro v bb;rw[h,hx]at bb;subst bb;rename_i x;obtain⟨f,us⟩:=x;cases us <;> rfl
 flat _:=rfl
 mono _ h:=h
instance:a8 Raw:=⟨[.nilFunc],λ_ _=>rfl⟩
def ZD{A W v}{x:Raw}:(J.of x).holds A W v↔v=x.val:=by
 constructor
 ·intro h;exact o6 (by have:=h.1;exact this) h.2
 intro h;subst h;obtain⟨f,us⟩:=x;cases us <;> exact⟨rfl,rfl⟩
section
variable{c:cM}{E:aa (Nat×J)}{L:aa aK}{ops:Array Oper}{Q:Exit->Act->bn->Prop}
variable{d:aD Tmp}{ty:bK}{pos:String}{af:Array Edge}{g:aD (Nat×Bool)}{x y:cu}{t t2:bK}
def hN.eqs{A:aa Nat}{W:bn}:∀{us vs:aa bs},hN A W (us.map J.eq) vs->vs=us
 |[],_,.nil=>rfl
 |_::_,_,.cons h r=>by rw[r.eqs];congr 1
def hN.aa6{A:aa Nat}{W:bn}:∀{us:aa bs},hN A W (us.map J.eq) us
 |[]=>.nil
 |_::_=>.cons I .aa6
def aaq{f:FuncId}{xs:aa cu}{us:aa bs}(au:jr c E L xs (us.map J.eq)):bj c E L ⟨d,.makeFunc (.func f) #[] xs.toArray,ty,pos,af,g⟩ (.of (⟨f,some us⟩:Raw)):=.pure λa W s=>
 ⟨.func (.func f) #[] us.toArray,by
   have h:=(au.holds a W s).eqs;simp[execOp,Instr.makeFunc,h],ZD.2 I⟩
def Qk{f:FuncId}{us:aa bs}(au:aU c E L x (.of (⟨f,some us⟩:Raw))):aU c E L x (.lx f (us.map J.eq)):=λa W s=>
 ⟨us,ZD.1 (au a W s),.aa6⟩
def ag.UD{o:Oper}{rest:aa Oper}{a7 j gs:Nat}{b want:Bool}{β γ za:Type}{m:aj β}{z:β}{k:β->aj za}{R:za->Prop}(h:aj.bind (bif decide (b=want)then m else aj.ret z) k R)(σ:β->J)(L2:β->γ->aa aK)(g0:γ)(av:L=L2 z g0)
 (bz:o.guard=some (j,want)) (aB:(ops[j]?).bind (·.dst)=some gs) (al:look E gs=some (.of b)) (hd:o.dst=some a7) (aM:Nat.blt a7 c.n=true)
 (bD:b=want->m (λr=>k r R)->eD c E L o (λq: {r // k r R}×γ=>σ q.1.1) (λq=>L2 q.1.1 q.2))
 (nN:∀y g,k y R->ag c ops Q rest ((a7,.cond (b=want) (σ y))::E) (L2 y g)):ag c ops Q (o::rest) E L:=by
 by_cases hb:b=want
 ·have hm:m (λr=>k r R):=by
   have cW:(bif decide (b=want)then m else aj.ret z) (λr=>k r R):=h;rw[re hb]at cW;exact cW
  exact ag.aed (β:=β×γ) (K:=λy=>k y.1 R) (σ:=λy=>σ y.1) (L2:=λy=>L2 y.1 y.2) (val:=λq=>(q.1.1,q.2)) bz aB al hd aM (λ_=>bD hb hm) (λ_ q=>⟨q.1.2,rfl,rfl⟩) (λh=>absurd hb h) λy aT=>nN y.1 y.2 aT
 have hm:k z R:=by
  have cW:(bif decide (b=want)then m else aj.ret z) (λr=>k r R):=h;rw[sT hb]at cW;exact cW
 exact ag.aed (δ:=Unit) (β:=β×γ) (K:=λy=>k y.1 R) (σ:=λy=>σ y.1) (L2:=λy=>L2 y.1 y.2) (val:=λ_=>(z,g0)) (ρ:=λ_=>σ z) (L':=λ_=>L2 z g0) bz aB al hd aM (λh=>absurd h hb) (λh=>absurd h hb) (λ_=>⟨(z,g0),hm,av⟩) λy aT=>nN y.1 y.2 aT
end
section
variable{c:cM}{E:aa (Nat×J)}{L:aa aK}{ops:Array Oper}{Q:Exit->Act->bn->Prop}
def ag.aap{l:aa Oper}{p q:Nat}(gV:Nat)(al:look E gV=some (.eq (.pointer (some ⟨p,0,none⟩))))(he:q=p)(k:ag c ops Q l ((gV,.of (some q:Ref))::E) L):ag c ops Q l E L:=λa W s=>by
 subst he;refine k a W (s.less λt τ h=>?_);simp only[look]at h;by_cases e:Nat.beq gV t=true
 ·rw[e]at h;simp only[cond_true,gk]at h;have:=ff.1 e;subst this;subst h;exact⟨_,al,λA W v bb=>yv.2 bb⟩
 simp only[jl]at e;rw[e]at h;exact⟨τ,h,λ_ _ _ h=>h⟩
end
section
variable{c:cM}{E:aa (Nat×J)}{L:aa aK}{ops:Array Oper}{Q:Exit->Act->bn->Prop}
def sl(ops:Array Oper)(n:Nat)(hs:aa (aD Nat×aa Nat×aa Nat×aa Nat))(E:aa Nat):Bool:=
 decide (hs.length=n)&&decide (n<=ops.size)&&decide (hs.filterMap (·.1)).Nodup&&((List.range n).all λm=>match hs[m]? with |some (some s,up,_)=> !E.contains s||(List.range n).all λk=>decide (k=m)||up.contains k|_=>true)&&
 ((List.range n).all λi=>match hs[i]? with
   |none=>false
   | some (_,up,rd,wr)=>
     (((ops[i]?).map λo=>(o.dst==(hs[i]?).bind (·.1))&&o.after.all λe=> !Region.binds .any e||decide (e.on<i)).getD false)&&
     (up.all λk=>Region.waitsFor .any ops i k||(List.range i).any λm=>Region.waitsFor .any ops i m&&((hs[m]?).map λh=>h.2.1.contains k).getD false)&&
     ((List.range n).all λk=>match hs[k]? with
       |none=>true
       | some (_,asO,_,adv)=>
         (!(decide (k<i)&&adv.any rd.contains)||up.contains k)&&(!(decide (i<k)&&adv.any λj=>rd.contains j||wr.contains j)||asO.contains i)))&&
 (decide (n=ops.size)||(Region.sinkB .any ops n&&Region.chainB .any ops n))&&
 Region.seqB .any ops (ops.size-n) n ((List.range n).foldl (λl i=>l.setIfInBounds i true) (Array.replicate ops.size false))
def ahJ{n:Nat}{hs:aa dX}{np:Nat}(hw:∀h∈hs,∀j∈h.wr,j<np∨L.length<=j)(eB:sl ops n (mx hs) (E.map (·.1))=true)(bW:ru c ops Q hs E L np 0 (ops.toList.take n) hs)
 (bD:∀hd,ag c ops Q (ops.toList.drop n) (jf (λ_=>true) hd E 0 hs) (hI (λ_=>true) hd 0 hs L)):
 ∀ m (cv:Array Bool) (hd:Nat->Hid) (a:Act) (W:bn),((List.range n).filter λi=> !cv.getD i true).length<=m->HeadInv .any ops n cv->
   bO c (jf (λi=>cv.getD i false) hd E 0 hs) (hI (λi=>cv.getD i false) hd 0 hs L) a W->wpAnyIn c.F 9 c.P .any ops Q (m+(ops.size-n)) cv a W:=by
 simp only[sl,gl,e5,qn]at eB
 obtain⟨⟨⟨⟨⟨⟨aoj,aM⟩,lU⟩,acr⟩,n3⟩,aok⟩,Tk⟩:=eB
 have hlen:hs.length=n:=by simpa[mx]using aoj
 have uF:∀i,i<n->∃h o,hs[i]? =some h∧ops[i]? =some o:=λi aq=>⟨hs[i]'(by omega),ops[i],by simp,by simp⟩
 have Be:∀(i:Nat) (h:dX) (o:Oper),hs[i]? =some h->ops[i]? =some o->
  o.dst=h.slot∧(∀e∈o.after,Region.binds .any e=true->e.on<i)∧
  (∀k∈h.up,Region.waitsFor .any ops i k=true∨∃m,m<i∧Region.waitsFor .any ops i m=true∧∃x,hs[m]? =some x∧k∈x.up)∧
  (∀(k:Nat) (x:dX),hs[k]? =some x->(k<i->(∃j∈x.wr,h.rd.contains j=true)->k∈h.up)∧(i<k->(∃j∈x.wr,h.rd.contains j=true∨h.wr.contains j=true)->i∈x.up)):=by
  intro i h o aq a6
  have ca:i<n:=by have:=(iu.1 aq).1;omega
  have h1:=lj.1 n3 i (lH.2 ca)
  rw[QP aq]at h1
  simp only[gl]at h1
  obtain⟨⟨ad,az⟩,aV⟩:=h1
  simp only[a6,Option.map_some,Option.getD_some,gl,Option.bind_some,nm]at ad
  refine⟨ad.1,λe he hb=>?_,λk hk=>?_,λk x au=>?_⟩
  ·have:=Array.all_eq_true_iff_forall_mem.1 ad.2 e he
   simp[hb]at this
   exact this
  ·have:=lj.1 az k hk
   simp only[qn,ot,gl,lH]at this
   rcases this with bc|⟨m,bc,bq,c7⟩
   ·exact .inl bc
   have hm:m<hs.length:=by omega
   rw[QP (o2 hm)]at c7
   exact .inr ⟨m,bc,bq,hs[m],o2 hm,by simpa using c7⟩
  have tL:k<n:=by have:=(iu.1 au).1;omega
  have:=lj.1 aV k (lH.2 tL)
  rw[QP au]at this
  simp only[gl,qn,r7,Bool.and_eq_false_iff,nQ,OC]at this
  refine⟨λrR ⟨j,aB,aG⟩=>?_,λmZ ⟨j,aB,aG⟩=>?_⟩
  ·rcases this.1 with(bc|bc)|bc
   ·exact absurd rR bc
   ·have:=wk.1 bc j aB
    exact absurd aG this
   exact bc
  rcases this.2 with(bc|bc)|bc
  ·exact absurd mZ bc
  ·have:=wk.1 bc j aB
   simp only[qn]at this
   exact absurd aG this
  exact bc
 have SB:∀(i j s:Nat) (x y:dX),hs[i]? =some x->hs[j]? =some y->x.slot=some s->y.slot=some s->i=j:=by
  have key:∀(l:aa dX),((mx l).filterMap (·.1)).Nodup->∀(i j s:Nat) (x y:dX),l[i]? =some x->l[j]? =some y->x.slot=some s->y.slot=some s->i=j:=by
   intro l;induction l with
   |nil=>intro _ i j s x y h;simp at h
   | cons z r cj=>
     intro lU i j s x y aq aB au aT
     have aG:((mx r).filterMap (·.1)).Nodup:=by
      cases bU:z.slot with
      |none=>simpa[mx,bU]using lU
      | some w=>
        simp only[mx,nT,List.filterMap_cons,bU]at lU
        exact(pK.1 lU).2
     have IV:z.slot=some s->∀(q:Nat) (v:dX),r[q]? =some v->v.slot≠some s:=λbU q v hq bb=>by
      simp only[mx,nT,List.filterMap_cons,bU]at lU;exact(pK.1 lU).1 (OT.2 ⟨_,ig.2 ⟨v,fB hq,rfl⟩,bb⟩)
     cases i with
     | zero=>
       simp only[List.getElem?_cons_zero,gk]at aq
       subst aq
       cases j with
       |zero=>rfl
       |succ j=>simp only[List.getElem?_cons_succ]at aB;exact absurd aT (IV au j y aB)
     | succ i=>
       simp only[List.getElem?_cons_succ]at aq
       cases j with
       | zero=>
         simp only[List.getElem?_cons_zero,gk]at aB
         subst aB
         exact absurd au (IV aT i x aq)
       |succ j=>simp only[List.getElem?_cons_succ]at aB;rw[cj aG i j s x y aq aB au aT]
  exact key hs lU
 have aol:∀(t:Nat) (τ:J),look E t=some τ->∀(m:Nat) (h:dX),hs[m]? =some h->h.slot=some t->∀k,k<n->k≠m->k∈h.up:=by
  intro t τ al m h hm jx k hk BW;have uL:m<n:=by have:=(iu.1 hm).1;omega
  have h1:=lj.1 acr m (lH.2 uL);rw[show(mx hs)[m]? =some (h.slot,h.up,h.rd,h.wr) by simp[mx,hm],jx]at h1;have yN:t∈E.map (·.1):=by
   clear acr h1 bW bD hm jx;induction E with
   |nil=>simp[look]at al
   | cons x r cj=>
     obtain⟨s,σ⟩:=x
     simp only[look]at al
     by_cases e:Nat.beq s t=true
     ·have:=ff.1 e;subst this;simp
     simp only[jl]at e
     rw[e]at al
     simp only[nT,dP]
     exact .inr (cj al)
  replace h1:(!(E.map (·.1)).contains t||(List.range n).all λk=>decide (k=m)||h.up.contains k)=true:=h1;rw[show(E.map (·.1)).contains t=true by simpa using yN]at h1;have ad:∀x,x<n->x=m∨x∈h.up:=by simpa using h1
  exact(ad k hk).resolve_left BW
 have zc:∀(cv:Array Bool),HeadInv .any ops n cv->∀(d i:Nat),i<=d->∀(h:dX) (o:Oper),hs[i]? =some h->ops[i]? =some o->(∀e∈o.after,Region.binds .any e=true->cv.getD e.on false=true)->∀k∈h.up,cv.getD k false=true:=by
  intro cv inv d;induction d with
  | zero=>
    intro i aq h o gE E8 hw k hk
    rcases (Be i h o gE E8).2.2.1 k hk with h1|⟨m,hm,_⟩
    ·obtain⟨wg,od,e,he,hb,JF⟩:=OI h1
     rw[E8]at od;cases od
     rw[<-JF];exact hw e he hb
    omega
  | succ d cj=>
    intro i aq h o gE E8 hw k hk
    rcases (Be i h o gE E8).2.2.1 k hk with h1|⟨m,hm,h1,x,au,asP⟩
    ·obtain⟨wg,od,e,he,hb,JF⟩:=OI h1
     rw[E8]at od;cases od
     rw[<-JF];exact hw e he hb
    obtain⟨wg,od,e,he,hb,JF⟩:=OI h1
    rw[E8]at od;cases od
    have uL:=hw e he hb
    rw[JF]at uL
    obtain⟨aR,Kf,oe,JG⟩:=uF m (by have:=(iu.1 gE).1;omega)
    exact cj m (by omega) x Kf au JG (λe he hb=>inv.closed m Kf JG uL e he hb) k asP
 have sk:∀(cv:Array Bool) (hd:Nat->Hid) (a:Act) (W:bn),(∀i,i<n->cv.getD i true=true)->HeadInv .any ops n cv->
  bO c (jf (λi=>cv.getD i false) hd E 0 hs) (hI (λi=>cv.getD i false) hd 0 hs L) a W->wpAnyIn c.F 9 c.P .any ops Q (ops.size-n) cv a W:=by
  intro cv hd a W Iz inv st
  have al:=ahD inv aM Iz
  rw[<-al]at Tk
  have aa7:(ops.toList.drop n).length=ops.size-n:=by simp
  rw[<-aa7]
  rw[<-aa7]at Tk
  refine WA (ops.toList.drop n) n cv a W (λj=>by simp) Tk (bD hd a W ?_)
  have nG:∀m,m<hs.length->cv.getD (0+m) false=true:=λm hm=>by
   have h1:=Iz m (by omega);have ad:m<cv.size:=by rw[inv.size];omega
   simpa[ad]using h1
  rw[W1 (ls':=λ_=>true) nG,XV (ls':=λ_=>true) nG]at st
  exact st
 have more:∀f (cv:Array Bool) a W,wpAnyIn c.F 9 c.P .any ops Q f cv a W->wpAnyIn c.F 9 c.P .any ops Q (f+1) cv a W:=by
  intro f;induction f with
  |zero=>intro cv a W h;exact⟨λ_=>h.2,λi aq=>by rw[h.1]at aq;cases aq⟩
  |succ f asQ=>intro cv a W h;exact⟨h.1,λi aq=>wpOpIn_mono (λiI rV cW=>asQ _ iI rV cW) (h.2 i aq)⟩
 intro m
 induction m with
 | zero=>
   intro cv hd a W hm inv st
   rw[kR]
   refine sk cv hd a W (λi aq=>?_) inv st
   cases h:cv.getD i true with
   |true=>rfl
   | false=>
     have:i∈(List.range n).filter λi=> !cv.getD i true:=tZ.2 ⟨lH.2 aq,by rw[h];rfl⟩
     rw[FD.1 (Nat.le_zero.1 hm)]at this
     cases this
 | succ m cj=>
   intro cv hd a W hm inv st
   rw[show m+1+(ops.size-n)=(m+(ops.size-n))+1 by omega]
   by_cases aa8:∀i,i<n->cv.getD i true=true
   ·have h1:=sk cv hd a W aa8 inv st
    have key:∀k,wpAnyIn c.F 9 c.P .any ops Q (k+(ops.size-n)) cv a W:=by
     intro k;induction k with
     |zero=>rw[kR];exact h1
     |succ k asR=>rw[show k+1+(ops.size-n)=(k+(ops.size-n))+1 by omega];exact more _ _ _ _ asR
    exact more _ _ _ _ (key m)
   have hex:∃i,i<n∧cv.getD i true=false:=by
    false_or_by_contra;rename_i ad;exact aa8 λi aq=>by
     cases h:cv.getD i true with
     |true=>rfl
     |false=>exact absurd ⟨i,aq,h⟩ ad
   have al3:∀t∈Region.ready .any ops cv,t<n:=by
    intro t NG;rcases sW t n with h|h
    ·exact h
    obtain⟨i,aq,my⟩:=hex;have auN:n<ops.size∨n=ops.size:=by omega
    have auO:t<ops.size:=by
     obtain⟨_,o,a6,_⟩:=x5.1 NG;exact(sP.1 a6).1
    rcases aok with h1|h1
    ·omega
    exact absurd NG (tail_waits h1.1 h1.2 (by omega) inv _ i I aq my t h)
   refine⟨λbC=>?_,λi aq=>?_⟩
   ·exfalso
    have key:∀d i,i<=d->i<n->cv.getD i true=true:=by
     intro d;induction d with
     | zero=>
       intro i zd aq
       cases al:cv.getD i true with
       |true=>rfl
       | false=>
         obtain⟨h,o,gE,a6⟩:=uF i aq
         have:i∈Region.ready .any ops cv:=x5.2 ⟨al,o,a6,λe he hb=>by have:=(Be i h o gE a6).2.1 e he hb;omega⟩
         rw[bC]at this;cases this
     | succ d TZ=>
       intro i zd aq
       cases al:cv.getD i true with
       |true=>rfl
       | false=>
         obtain⟨h,o,gE,a6⟩:=uF i aq
         have:i∈Region.ready .any ops cv:=x5.2 ⟨al,o,a6,λe he hb=>by
          have h1:=(Be i h o gE a6).2.1 e he hb;have ad:=TZ e.on (by omega) (by omega);have az:e.on<cv.size:=by rw[inv.size];omega
          simpa[az]using ad⟩
         rw[bC]at this;cases this
    obtain⟨i,aq,my⟩:=hex
    have:=key i i (iV _) aq
    rw[my]at this;cases this
   have ha:i<n:=al3 i aq
   obtain⟨my,o,a6,QS⟩:=x5.1 aq
   obtain⟨h,_,gE,_⟩:=uF i ha
   have Bt:cv.getD i false=false:=getD_both my
   have acs:i<cv.size:=by rw[inv.size];omega
   have vN:((List.range n).filter λj=> !(cv.setIfInBounds i true).getD j true).length<=m:=by
    have:((List.range n).filter λj=> !(cv.setIfInBounds i true).getD j true).length<((List.range n).filter λj=> !cv.getD j true).length:=by
     refine Zz (λj=> !cv.getD j true) (λj=> !(cv.setIfInBounds i true).getD j true) i (by simp only[my];rfl) ?_ (λj aB=>?_) n ha
     ·simp[acs]
     by_cases e:i=j
     ·subst e;simp only[my];rfl
     rw[getD_set_ne true e]at aB;exact aB
    omega
   have aq9:=inv.set aq ha
   obtain⟨acu,aus,auy,acv⟩:=Be i h o gE a6
   have acw:=zc cv inv i i (iV _) h o gE a6 QS
   have ZE:∀(k:Nat) (x:dX),hs[k]? =some x->i<k->(∃j∈x.wr,h.rd.contains j=true∨h.wr.contains j=true)->cv.getD k false=false:=λk x au mZ aB=>by
    have h1:=(acv k x au).2 mZ aB;cases hk:cv.getD k false with
    |false=>rfl
    | true=>
      obtain⟨_,ok,_,iF⟩:=uF k (by have:=(iu.1 au).1;omega)
      have:=zc cv inv k k (iV _) x ok au iF (λe he hb=>inv.closed k ok iF hk e he hb) i h1
      rw[Bt]at this;cases this
   have A1:hs=hs.take i++h::hs.drop (i+1):=by
    have iG:i<hs.length:=by omega
    rw[o2 iG]at gE;cases gE;rw[Ox];exact(gz i hs).symm
   have BX:(hs.take i).length=i:=by rw[eZ];omega
   have Jm:∀(t:Nat) (τ:J),look E t=some τ->∀(m:Nat) (x:dX),hs[m]? =some x->cv.getD (0+m) false=true->x.slot≠some t:=λt τ al m x au NN jx=>by
    rw[kR]at NN;have T0:i≠m:=λe=>by subst e;rw[Bt]at NN;cases NN
    obtain⟨_,Kf,_,JG⟩:=uF m (by have:=(iu.1 au).1;omega);have:=zc cv inv m m (iV _) x Kf au JG (λe he hb=>inv.closed m Kf JG NN e he hb) i (aol t τ al m x au jx i ha T0);rw[Bt]at this;cases this
   have aa9:=(ru.get bW i h o gE (by rw[lG,bh ha,zH];exact a6))
   rw[kR]at aa9
   have asS:=aa9 hd (jf (λi=>cv.getD i false) hd E 0 hs) (hI (λi=>cv.getD i false) hd 0 hs L) (λt τ al=>?_) (λj e aB aG=>?_) (QQ hw)
   ·have hw:=PQ (K:=λa W=> ∃x,bO c (sq h.slot (h.τ (iA h.up i (nF hd i x))) (jf (λi=>cv.getD i false) hd E 0 hs)) (pZ (hI (λi=>cv.getD i false) hd 0 hs L) (h.dp (iA h.up i (nF hd i x))) h.wr) a W) a6 (asS a W st)
    refine wpOpIn_mono (λiI W' ⟨x,uS⟩=>?_) hw
    have E9:∀j,j≠i->nF hd i x j=hd j:=λj aB=>by
     have:Nat.beq j i=false:=by
      cases hb:Nat.beq j i
      ·rfl
      exact absurd (ff.1 hb) aB
     simp only[nF,this,cond_false]
    have T1:∀(j:Nat) (y:dX),hs[j]? =some y->cv.getD j false=true->iA y.up j (nF hd i x)=iA y.up j hd:=λj y aT aB=>by
     obtain⟨_,wg,_,od⟩:=uF j (by have:=(iu.1 aT).1;omega);refine aiu (E9 j λe=>by subst e;rw[Bt]at aB;cases aB) λk hk=>E9 k λe=>?_;have:=zc cv inv j j (iV _) y wg aT od (λe he hb=>inv.closed j wg od aB e he hb) k hk;subst e;rw[Bt]at this;cases this
    have ze:(cv.setIfInBounds i true).getD i false=true:=by simp[acs]
    have hS:∀j,j≠i->(cv.setIfInBounds i true).getD j false=cv.getD j false:=λj aB=>getD_set_ne false (λe=>aB e.symm)
    refine cj _ (nF hd i x) iI W' vN aq9 ?_
    have ara:hI (λj=>(cv.setIfInBounds i true).getD j false) (nF hd i x) 0 hs L=pZ (hI (λi=>cv.getD i false) hd 0 hs L) (h.dp (iA h.up i (nF hd i x))) h.wr:=by
     apply nS;intro j;rw[MA,Qo,MA];by_cases aB:h.wr.contains j=true
     ·rw[bh aB];have ar:∀(ls:Nat->Bool) (g:Nat->Hid) (v:aD aK),(∀k x,hs[k]? =some x->i<k->x.wr.contains j=true->ls k=false)->oJ ls g j 0 hs v=(bif ls i then(oJ ls g j 0 (hs.take i) v).map (λ_=>h.dp (iA h.up i g) j)else oJ ls g j 0 (hs.take i) v):=λls g v BO=>by
       conv=>lhs;rw[A1]
       rw[PU,BX,kR,oJ,aB,Ab,P8];intro k x au hw;rw[mK]at au;exact BO (i+1+k) x au (by omega) hw
      have fK:∀k x,hs[k]? =some x->i<k->x.wr.contains j=true->cv.getD k false=false:=λk x au mZ hw=>ZE k x au mZ ⟨j,by simpa using hw,.inr aB⟩;rw[ar (λj=>(cv.setIfInBounds i true).getD j false) (nF hd i x) _ (λk x au mZ hw=>by rw[hS k (by omega)];exact fK k x au mZ hw),ar (λj=>cv.getD j false) hd _ fK];simp only[ze,Bt,cond_true,cond_false];rw[LK (ls':=λj=>cv.getD j false) (hd':=hd) λq x au _=>by
       have hq:q<i:=by have:=(iu.1 au).1;omega
       rw[lG,bh hq]at au;rw[kR];exact⟨hS q (by omega),λal=>T1 q x au (by rw[hS q (by omega)]at al;exact al)⟩]
     rw[bf aB];refine LK λq x au hw=>?_;rw[kR];have hq:q≠i:=λe=>by subst e;rw[gE]at au;cases au;exact aB hw
     exact⟨hS q hq,λal=>T1 q x au (by rw[hS q hq]at al;exact al)⟩
    rw[ara]
    refine uS.less λt τ al=>?_
    rcases XT al with⟨j,y,h1,ad,az,aV⟩|⟨h1,fK⟩
    ·rw [kR]at ad aV
     by_cases jK:j=i
     ·subst jK
      rw[gE]at h1
      cases h1
      exact⟨τ,by rw[az,aV];simp[sq,look,nk],λ_ _ _ h=>h⟩
     rw[hS j jK]at ad
     rw[T1 j y h1 ad]at aV
     have bc:=Qp (ls:=λi=>cv.getD i false) (hd:=hd) (E:=E) (k:=0) h1 (by rw[kR];exact ad) az λq z hq bU=>SB q j t z y hq h1 bU az
     rw[kR,<-aV]at bc
     refine⟨τ,?_,λ_ _ _ h=>h⟩
     cases NO:h.slot with
     |none=>exact bc
     | some s=>
       have df:Nat.beq s t=false:=by
        cases hb:Nat.beq s t
        ·rfl
        have:=ff.1 hb;subst this;exact absurd (SB j i s y h h1 gE az NO) jK
       simp only[sq,look,df,cond_false]
       exact bc
    have hb:=Jm t τ h1
    have bc:=P9 (ls:=λi=>cv.getD i false) (hd:=hd) (E:=E) (k:=0) hb
    refine⟨τ,?_,λ_ _ _ h=>h⟩
    cases NO:h.slot with
    |none=>simp only[sq];rw[bc];exact h1
    | some s=>
      have df:Nat.beq s t=false:=by
       cases qR:Nat.beq s t
       ·rfl
       have:=ff.1 qR;subst this;exact absurd NO (fK i h gE (by rw[kR];exact ze))
      simp only[sq,look,df,cond_false]
      rw[bc];exact h1
   ·rcases YU al with⟨j,aB,y,h1,ad,az⟩|h1
    ·have bc:=Qp (ls:=λi=>cv.getD i false) (hd:=hd) (E:=E) (k:=0) h1 (by rw[kR];exact acw j aB) ad λq z hq bU=>SB q j t z y hq h1 bU ad
     rw[kR,<-az]at bc
     exact bc
    rw[P9 (Jm t τ h1)];exact h1
   rw[MA]at aB⊢
   rw[<-aB]
   conv=>lhs;rw[A1]
   rw[PU,P8]
   ·refine LK λq x au hw=>?_
    rw[kR]
    have hq:q<i:=by have:=(iu.1 au).1;omega
    rw[lG,bh hq]at au
    exact⟨acw q ((acv q x au).1 hq ⟨j,by simpa using hw,aG⟩),λ_=>rfl⟩
   intro q x au hw
   rw[BX,kR]
   cases q with
   |zero=>exact Bt
   | succ q=>
     simp only[List.getElem?_cons_succ]at au
     rw[mK]at au
     exact ZE (i+(q+1)) x (by rw[<-au];congr 1;omega) (by omega) ⟨j,by simpa using hw,.inl aG⟩
def ay.MB{la:Nat}{l:aa Oper}(n:Nat){np:Nat}(hm:c.P.follows .mixedOrders=true)(hs:aa dX)(ds:aa (aD Nat×aa Nat×aa Nat×aa Nat))(es:aa Nat)(e1:mx hs=ds)(kV:E.map (·.1)=es)(eB:Gv.sl l.toArray n ds es=true)(y2:∀h∈hs,∀j∈h.wr,j<np∨L.length<=j)
 (bW:ru c l.toArray Q hs E L np 0 (l.take n) hs) (bD:∀hd,ag c l.toArray Q (l.drop n) (jf (λ_=>true) hd E 0 hs) (hI (λ_=>true) hd 0 hs L)):ay c Q (.region la l.toArray true) E L:=λa W s=>by
 subst e1 kV
 refine wpIn_region_any hm ?_
 have aM:n<=l.toArray.size:=by
  simp only[Gv.sl,gl,e5]at eB;exact eB.1.1.1.1.1.2
 have arb:HeadInv .any l.toArray n (Array.replicate l.toArray.size false):=
  {size:=by simp
   closed:=λj wg _ al=>by rw[getD_replicate_false]at al;cases al
   tail:=λt _ bD=>by simp at bD;simp[bD]}
 have h:=ahJ y2 (ops:=l.toArray) (Q:=Q) eB (by simpa using bW) (by simpa using bD) n (Array.replicate l.toArray.size false) (λ_ _=>none) a W.drew (mi (vj _ _) (by simp)) arb ?_
 ·rw[show n+(l.toArray.size-n)=l.toArray.size by omega]at h
  exact h
 have h1:∀(hs:aa dX) (k:Nat),jf (λi=>(Array.replicate l.toArray.size false).getD i false) (λ_ _=>none) E k hs=E:=by
  intro hs;induction hs with
  |nil=>intro k;rfl
  | cons h r cj=>
    intro k
    have ad:=cj (k+1)
    simp only[getD_replicate_false]at ad
    unfold jf
    simp only[getD_replicate_false]
    exact ad
 have ad:∀(hs:aa dX) (k:Nat) (L:aa aK),hI (λi=>(Array.replicate l.toArray.size false).getD i false) (λ_ _=>none) k hs L=L:=by
  intro hs;induction hs with
  |nil=>intro k L;rfl
  |cons h r cj=>intro k L;rw[hI,cj];simp only[getD_replicate_false,cond_false]
 rw[h1,ad]
 exact s.world (Fr.drew W)
def ay.auc{la:Nat}{l:aa Oper}{ds:aa (aD Nat×aa Nat×aa Nat×aa Nat)}(n np:Nat)(hm:c.P.follows .mixedOrders=true)(hs:aa dX)(es:aa Nat)
 (bW:ru c l.toArray Q hs E L np 0 (l.take n) hs) (bD:∀hd,ag c l.toArray Q (l.drop n) (jf (λ_=>true) hd E 0 hs) (hI (λ_=>true) hd 0 hs L))
 (e1:mx hs=ds:=by rfl) (kV:E.map (·.1)=es:=by rfl) (eB:Gv.sl l.toArray n ds es=true:=by kernel_rfl) (hw:(ds.all λd=>d.2.2.2.all λj=>Nat.blt j np)=true:=by kernel_rfl):ay c Q (.region la l.toArray true) E L:=
 ay.MB n hm hs ds es e1 kV eB (aa1 e1 hw) bW bD
def ay.aee{la:Nat}{l:aa Oper}{ds:aa (aD Nat×aa Nat×aa Nat×aa Nat)}(np:Nat)(hm:c.P.follows .mixedOrders=true)(hs:aa dX)(es:aa Nat)
 (bW:ru c l.toArray Q hs E L np 0 l hs) (bD:∀hd,an c Q .normal (jf (λ_=>true) hd E 0 hs) (hI (λ_=>true) hd 0 hs L))
 (e1:mx hs=ds:=by rfl) (kV:E.map (·.1)=es:=by rfl) (eB:Gv.sl l.toArray l.length ds es=true:=by kernel_rfl) (hw:(ds.all λd=>d.2.2.2.all λj=>Nat.blt j np)=true:=by kernel_rfl):ay c Q (.region la l.toArray true) E L:=
 ay.MB l.length hm hs ds es e1 kV eB (aa1 e1 hw) (by rw[iD];exact bW) (λhd=>by rw[r8];exact ag.nil (bD hd))
def ay.Oa{la:Nat}{l:aa Oper}{ds:aa (aD Nat×aa Nat×aa Nat×aa Nat)}(hm:c.P.follows .mixedOrders=true)(hs:aa dX)(es:aa Nat)
 (bW:Ef c l.toArray Q hs E L 0 l hs) (bD:∀hd,an c Q .normal (jf (λ_=>true) hd E 0 hs) (hI (λ_=>true) hd 0 hs L))
 (e1:mx hs=ds:=by rfl) (kV:E.map (·.1)=es:=by rfl) (eB:Gv.sl l.toArray l.length ds es=true:=by kernel_rfl):ay c Q (.region la l.toArray true) E L:=
 ay.MB (np:=L.length) l.length hm hs ds es e1 kV eB (λ_ _ j _=>by omega) (by rw[iD];exact bW.Jo) (λhd=>by rw[r8];exact ag.nil (bD hd))
def rg:Nat->Nat->aa (aD Nat)
 |_,0=>[]
 |a,n+1=>some a::rg (a+1) n
def aj.bH{α β:Type}{o:aD α}{k:α->aj β}{R:β->Prop}{P:Prop}(h:aj.bind (aj.of o) k R)(g:∀y,o=some y->k y R->P):P:=(aj.akU h).elim λy h=>g y h.1 h.2
def aj.ex{α β:Type}{m:aj α}{k:α->aj β}{R:β->Prop}(h:aj.bind m k R):∃K:α->Prop,m K∧∀r,K r->k r R:=⟨_,h,λ_ h=>h⟩
end
def bN.law{P:Program}{f:FuncId}{τs:aa J}{bM:Type}[eu bM]{R:Bool×aL bM->Prop}{Lo: {r:Bool×aL bM // R r}×Unit->aa aK}(h:bN P f τs ([]++a1 ([]:aL bM)) (λd: {r:Bool×aL bM // R r}×Unit=>J.of d.1.1.1) Lo)(hJ:∀r,R r->r.1=true):dz P f τs (J.of true):=by
 intro A W vs eX bb;refine(h A W vs (λk hk=>⟨eX k hk,by simp[a1,ks]⟩) (by simp[a1,ks]) (λk hk=>by simp[a1,ks]at hk) (λe he=>by simp[a1]at he) (by simpa[a1,ks]using bb)).mono ?_;intro e W' ⟨v,d,h1,ad,_,_,_,az⟩;refine⟨v,h1,by simpa[a1,ks]using ad,?_⟩;have aV:=hJ d.1.1 d.1.2;rw[of_bool]at az⊢;rw[az,aV]
def Je(p:Prop)[Decidable p]:aD Unit:=if p then some ()else none
def aj.aso{β:Type}{p:Prop}[Decidable p]{k:Unit->aj β}{R:β->Prop}(h:aj.bind (aj.of (Je p)) k R):p:=by
 obtain⟨r,h1,_⟩:=h;unfold Je at h1;split at h1
 ·assumption
 cases h1
def aj.apU{β:Type}{p:Prop}[Decidable p]{k:Unit->aj β}{R:β->Prop}(h:aj.bind (aj.of (Je p)) k R):k () R:=by
 obtain⟨r,_,ad⟩:=h;exact ad
section
variable{c:cM}{E:aa (Nat×J)}{L:aa aK}{ops:Array Oper}{Q:Exit->Act->bn->Prop}
end
def Cf(n:Nat)(vis:aa Nat):aD Nat->Prop
 |none=> ∀j,j<n->j∈vis
 |some j=>j<n∧j∉vis
def aj.next(n:Nat)(vis:aa Nat):aj (aD Nat):=λR=> ∀j,Cf n vis j->R j
def aj.Xk{β:Type}{n:Nat}{vis:aa Nat}{k:aD Nat->aj β}{R:β->Prop}(h:aj.bind (aj.next n vis) k R)(j:aD Nat)(aB:Cf n vis j):k j R:=h j aB
def oD(es:Array MapEntry)(vis:aa Nat):Array Nat:=(vis.filterMap λj=>(es[j]?).map (·.born)).toArray
def n9(aud:Nat)(es:Array MapEntry)(clock:Nat)(vis:aa Nat):Obj:=.mapIter (some aud) clock (oD es vis) clock
structure Oc(es:Array MapEntry)(clock n:Nat):Prop where
 size:es.size=n
 born:∀x∈es.toList,x.born<clock
 nodup:(es.toList.map MapEntry.born).Nodup
def e3.and(cp:e3)(o:Obj):e3 where
 holds A W x:=cp.holds A W x∧x=o
 pU:=cp.pU
 mono e h:=⟨cp.mono e h.1,h.2⟩
def w7(b:Nat)(o:Obj)(e:aK):aK:=if e.key=some b then⟨e.key,e.cp.and o⟩else e
def p6(b:Nat)(o:Obj)(L:aa aK):aa aK:=L.map (w7 b o)
def ajy(b:Nat)(o:Obj)(e:aK):(w7 b o e).key=e.key:=by unfold w7;split <;> rfl
def RN{b:Nat}{o:Obj}:∀{L:aa aK},ks (p6 b o L)=ks L
 |[]=>rfl
 | e::L=>by
   have cj:=RN (b:=b) (o:=o) (L:=L);show ks (w7 b o e::p6 b o L)=_;unfold ks;rw[ajy,cj]
def J.adw(b:Bool):J where
 holds _ _ v:=∃xs:Array bs,v=.tuple xs∧xs[0]? =some (.bool b)
 mono _ h:=h
section
variable{c:cM}{E:aa (Nat×J)}{L:aa aK}{ops:Array Oper}{Q:Exit->Act->bn->Prop}
variable{d:aD Tmp}{ty:bK}{pos:String}{af:Array Edge}{g:aD (Nat×Bool)}{x y z:cu}{t t2:bK}
variable{bM:Type}[eu bM]{hp:aL bM}{loc:aa aK}
def ajj{key:aD Nat}{n m cap:Nat}(aM:n=m)(h:aU c E L x (.eq (aP key n cap))):aU c E L x (.eq (aP key m cap)):=aM▸h
def Ms{b:Nat}{o:Obj}{α β:Type}[ak α][ak β]{kv:aa (α×β)}{xF:bM}(n:Nat)(av:L.drop n=Gv.p6 b o (a1 hp))(hp':pat hp b=some xF)(hk:eu.gR b xF=[⟨some b,.map kv⟩]):(⟨some b,e3.and (.map kv) o⟩:aK)∈L:=by
 have h1:(⟨some b,.map kv⟩:aK)∈a1 hp:=jt (n:=0) (hp:=hp) I hp' hk;have ad:w7 b o ⟨some b,.map kv⟩∈Gv.p6 b o (a1 hp):=ig.2 ⟨_,h1,rfl⟩;rw[<-av]at ad;have az:=CA ad;unfold w7 at az;rw[bh I]at az;exact az
def bO.swap{L':aa aK}{a:Act}{W:bn}(h:bO c E L a W)(hk:ks L'=ks L)(a6:∀e∈L',e.ok (ks L++c.b8) W):bO c E L' a W:=
 {defers:=h.defers
  size:=h.size
  env:=by rw[hk];exact h.env
  ef:=h.ef
  own:=by rw[hk];exact a6
  nodup:=by rw[hk];exact h.nodup
  lt:=by rw[hk];exact h.lt
  hg:=by rw[hk];exact h.hg
  fi:=by rw[hk];exact h.fi}
def bO.p6{a:Act}{W:bn}{M:aa aK}(h:bO c E (loc++M) a W){b:Nat}{o:Obj}(hb:W.heap[b]? =some o):bO c E (loc++Gv.p6 b o M) a W:=by
 refine h.swap (by rw[fM,fM,RN]) λe he=>?_;rcases cF.1 he with he|he
 ·exact h.own e (FM _ he)
 obtain⟨hv,bC,rfl⟩:=ig.1 he;have h1:=h.own hv (Cy _ bC);unfold w7;split
 ·rename_i hk;unfold aK.ok at h1⊢;simp only[hk]at h1⊢;obtain⟨o',g1,g2⟩:=h1;have:o'=o:=by rw[hb]at g1;exact(CS g1).symm
  exact⟨o',g1,g2,this⟩
 exact h1
def bO.MY{a:Act}{W:bn}{M:aa aK}{b:Nat}{o:Obj}(h:bO c E (loc++Gv.p6 b o M) a W):bO c E (loc++M) a W:=by
 have hk:ks (loc++M)=ks (loc++Gv.p6 b o M):=by rw[fM,fM,RN]
 refine h.swap hk λe he=>?_;rcases cF.1 he with he|he
 ·exact h.own e (FM _ he)
 have h1:=h.own (w7 b o e) (Cy _ (ig.2 ⟨e,he,rfl⟩));unfold w7 at h1;split at h1
 ·rename_i c0;unfold aK.ok at h1⊢;simp only[c0]at h1⊢;obtain⟨o',g1,g2,_⟩:=h1;exact⟨o',g1,g2⟩
 exact h1
def an.MY{z:Exit}{b:Nat}{o:Obj}(n:Nat)(av:L.drop n=Gv.p6 b o (a1 hp))(k:an c Q z E (L.take n++a1 hp)):an c Q z E L:=λa W s=>by
 have e:L=L.take n++Gv.p6 b o (a1 hp):=by rw[<-av,gz]
 rw[e]at s;exact k a W s.MY
def mz.get{α β:Type}[ak α][ak β]{A W}:∀{es:aa MapEntry} {kv:aa (α×β)},mz A W es kv->∀{j:Nat} {x:α×β},kv[j]? =some x->∃e,es[j]? =some e∧(J.of x.1).holds A W e.key∧(J.of x.2).holds A W e.val
 |_,_,.nil,j,x,h=>by simp at h
 | _,_,.cons h1 ad r,0,x,h=>by
   have h:some _=some x:=h;cases h;exact⟨_,rfl,h1,ad⟩
 | _,_,.cons h1 ad r,j+1,x,h=>by
   obtain⟨e,g1,g2⟩:=r.get (j:=j) (by simpa using h);exact⟨e,by simpa using g1,g2⟩
def ag.Zt{rest:aa Oper}{a7 p key elem:Nat}{α β:Type}[ak α][ak β]{kv:aa (α×β)}{xF:bM}(n:Nat)(av:L.drop n=a1 hp)(hu:c.P.underlying t=some (.map key elem))(au:aU c E L x (.of (⟨some p⟩:fl)))(hp':pat hp p=some xF)(hk:eu.gR p xF=[⟨some p,.map kv⟩])(aM:Nat.blt a7 c.n=true)
 (k:∀r es clock,Oc es clock kv.length->ag c ops Q rest ((a7,.eq (.pointer (some ⟨r,0,none⟩)))::E) (⟨some r,.is (n9 p es clock [])⟩::(L.take n++Gv.p6 p (.map es clock) (a1 hp)))):
 ag c ops Q (⟨some a7,.range t x,ty,pos,af,none⟩::rest) E L:=λa W s=>by
 have e:L=L.take n++a1 hp:=by rw[<-av,gz]
 have hm:(⟨some p,.map kv⟩:aK)∈L:=by
  rw[e];exact jt (n:=(L.take n).length) (hp:=hp) (by simp) hp' hk
 obtain⟨es,clock,a6,ad,az,aV⟩:=s.Iy hm
 have nb:=yl.1 (au a W s)
 have kV:Oc es clock kv.length:=⟨by have:=ad.length;simpa using this,az,aV⟩
 refine jn I (R:=λv W'=>v=.pointer (some ⟨W.heap.size,0,none⟩)∧W'=W.alloc (n9 p es clock [])) (.mS ?_ ⟨rfl,rfl⟩) λv W' ⟨bb,hw⟩=>?_
 ·have bz:(getObj p).run c.P W=.ok (.map es clock) W:=by simp[getObj,Sem.run,a6]
  simp[execOp,Instr.range,eg,eo hu,nb,bz,newObj,Sem.run]
  rfl
 subst bb
 subst hw
 have s1:=s.alloc (cp:=.is (n9 p es clock [])) (o:=n9 p es clock []) I
 refine k W.heap.size es clock kV _ _ (bO.put ?_ (by simpa using aM) I)
 rw[e]at s1
 have hb:(W.alloc (n9 p es clock [])).heap[p]? =some (.map es clock):=by
  have ca:p<W.heap.size:=(sP.1 a6).1;show(W.heap.push _)[p]? =_;rw[Array.getElem?_push_lt ca,<-Kr ca];exact a6
 exact bO.p6 (loc:=⟨some W.heap.size,.is (n9 p es clock [])⟩::L.take n) s1 hb
def ag.aau{rest:aa Oper}{a7 r p:Nat}{α β:Type}[ak α][ak β]{kv:aa (α×β)}{es:Array MapEntry}{clock:Nat}{vis:aa Nat}(i:Nat)(au:aU c E L x (.eq (.pointer (some ⟨r,0,none⟩))))(aq:L[i]? =some ⟨some r,.is (n9 p es clock vis)⟩)
 (hm:(⟨some p,e3.and (.map kv) (.map es clock)⟩:aK)∈L) (he:Oc es clock kv.length) (aM:Nat.blt a7 c.n=true)
 (k:∀j,Cf kv.length vis j->ag c ops Q rest ((a7,.adw j.isSome)::E) (L.set i ⟨some r,.is (n9 p es clock (vis++j.toList))⟩)):
 ag c ops Q (⟨some a7,.next x false,ty,pos,af,none⟩::rest) E L:=λa W s=>by
 have nb:a.eval x=_:=au a W s
 obtain⟨bA,tG,⟨_,qR⟩⟩:=s.own _ hm
 subst qR
 obtain⟨cC,Fa,v7⟩:=s.own _ (fB aq)
 have v7:cC=n9 p es clock vis:=v7
 subst v7
 have aom:∀{j:Nat} {e:MapEntry},es[j]? =some e->(oD es vis).contains e.born=true->j∈vis:=λ{j e} aB ae=>by
  unfold oD at ae;simp only[Vn,OC,OT]at ae;obtain⟨v,bb,h1⟩:=ae;cases NP:es[v]? with
  |none=>rw[NP]at h1;cases h1
  | some e'=>
    rw[NP]at h1
    have h1:e'.born=e.born:=by simpa using h1
    have JH:j<es.toList.length:=by simpa using (sP.1 aB).1
    have qV:v<es.toList.length:=by simpa using (sP.1 NP).1
    have ar:(es.toList.map MapEntry.born)[j]? =some e.born:=by simp[aB]
    have aS:(es.toList.map MapEntry.born)[v]? =some e.born:=by simp[NP,h1]
    have:=(List.getElem?_inj (by simpa using JH) he.nodup).1 (ar.trans aS.symm)
    rw[this];exact bb
 rcases run_next_at (P:=c.P) W ty r p clock clock (oD es vis) es clock Fa tG he.born (iV _)with⟨bC,kG⟩|⟨e,sy,u9,E0,kG⟩
 ·
  have mw:Cf kv.length vis none:=λj aB=>by
   have BY:j<es.size:=by rw[he.size];exact aB
   false_or_by_contra;rename_i fK;have:es[j]∈(leftOf es (oD es vis)).toList:=by
    unfold leftOf;simp only[Vz,tZ];refine⟨by simp,?_⟩;cases ae:(oD es vis).contains es[j].born with
    |false=>rfl
    |true=>exact absurd (aom (by simp[BY]) ae) fK
   have bU:(leftOf es (oD es vis)).toList=[]:=by
    apply Oo;simpa using bC
   rw[bU]at this;cases this
  refine jn I (R:=λv W'=>v=.tuple #[.bool false]∧W'=W) (.mS (v:=.tuple #[.bool false]) ?_ ⟨rfl,rfl⟩) λv W' ⟨bb,hw⟩=>?_
  ·simp only[execOp,nb,eg,kG,Result.andThen_ok];rfl
  subst bb hw
  have hk:=k none mw
  have iW:L.set i ⟨some r,.is (n9 p es clock (vis++Option.toList none))⟩=L:=by
   apply nS;intro q;rw[qm];split
   ·rename_i hq;subst hq;rw[bh (iu.1 aq).1,aq];simp
   rfl
  rw[iW]at hk
  exact hk _ _ (bO.put s (by simpa using aM) ⟨_,rfl,rfl⟩)
 have acx:e∈es.toList∧(oD es vis).contains e.born=false:=by
  unfold leftOf at sy;simp only[Vz,tZ,r7]at sy;exact sy
 obtain⟨j,aB⟩:=o3.1 acx.1
 have BY:es[j]? =some e:=by simpa using aB
 have JH:j<kv.length:=by rw[<-he.size];exact(sP.1 BY).1
 have mw:Cf kv.length vis (some j):=⟨JH,λbb=>by
  have:(oD es vis).contains e.born=true:=by
   unfold oD;simp only[Vn,OC,OT];exact⟨j,bb,by rw[BY];rfl⟩
  rw[acx.2]at this;cases this⟩
 have SC:(oD es vis).push e.born=oD es (vis++[j]):=by
  unfold oD;rw[Vp];simp[BY]
 rw[SC]at kG
 refine jn I (R:=λv W'=>v=.tuple #[.bool true,e.key,e.val]∧W'=u9.putObj r (n9 p es clock (vis++[j]))) (.mS (v:=.tuple #[.bool true,e.key,e.val]) ?_ ⟨rfl,rfl⟩) λv W' ⟨bb,hw⟩=>?_
 ·simp only[execOp,nb,eg,kG,Result.andThen_ok];rfl
 subst bb hw
 have s1:bO c E L a u9:=by
  rcases E0 with rfl|rfl
  ·exact s
  exact s.world (Fr.drew W)
 exact k (some j) mw _ _ (bO.put (s1.uC aq (cp':=.is (n9 p es clock (vis++[j]))) (o':=n9 p es clock (vis++[j])) I) (by simpa using aM) ⟨_,rfl,rfl⟩)
def Zu{b:Bool}(au:aU c E L x (.adw b)):bj c E L ⟨d,.extract x 0,ty,pos,af,g⟩ (.of b):=.pure λa W s=>by
 obtain⟨xs,h1,ad⟩:=au a W s;refine⟨.bool b,?_,of_bool.2 I⟩;simp[execOp,Instr.extract,h1,ad]
def XN{r p:Nat}{α β:Type}[ak α][ak β][Inhabited α][Inhabited β]{kv:aa (α×β)}{es:Array MapEntry}{clock:Nat}{vis:aa Nat}{j:aD Nat}{q:Nat}(i:Nat)(au:aU c E L x (.eq (.pointer (some ⟨r,0,none⟩))))(aq:L[i]? =some ⟨some r,.is (n9 p es clock (vis++j.toList))⟩)
 (hm:(⟨some p,e3.and (.map kv) (.map es clock)⟩:aK)∈L) (he:Oc es clock kv.length) (aB:Cf kv.length vis j) (hq:j=some q):
 bj c E L ⟨d,.entry x,ty,pos,af,g⟩ (.bT [.of (ax kv q).1,.of (ax kv q).2]):=.pure λa W s=>by
 subst hq
 have nb:a.eval x=_:=au a W s
 obtain⟨bA,tG,⟨oO,A0,qS,ad,az,aV⟩,qR⟩:=s.own _ hm
 subst qR
 cases qS
 obtain⟨cC,Fa,v7⟩:=s.own _ (fB aq)
 have v7:cC=n9 p es clock (vis++[q]):=v7
 subst v7
 have adx:q<kv.length:=aB.1
 obtain⟨e,g1,g2,g3⟩:=ad.get (j:=q) (x:=ax kv q) (by rw[dh _ adx];exact o2 adx)
 have BY:es[q]? =some e:=by simpa using g1
 have SC:oD es (vis++[q])=(oD es vis).push e.born:=by
  unfold oD;rw[Vp];simp[BY]
 have T2:W.heap[r]? =some (.mapIter (some p) clock ((oD es vis).push e.born) clock):=by rw[<-SC];exact Fa
 have kG:=run_entry_at (P:=c.P) W r p clock (oD es vis) es clock e T2 tG (fB g1) he.nodup
 refine⟨.tuple #[e.key,e.val],?_,_,rfl,.cons g2 (.cons g3 .nil)⟩
 simp only[execOp,nb,eg,kG,Result.andThen_ok]
 rfl
end
end Gv
namespace Gv
open Go Go.Proofs Go.Sort
def J.I6{α:Type}[ak α](P:Program)(F:α->α->aD Int):J where
 holds A W v:=∃f cap,v=.func (.func f) #[] cap∧bJ P f∧∀cU W',Ext A W cU W'->(∀k∈cU,k<W'.heap.size)->∀x y r oV u5,F x y=some r->(J.of x).holds cU W' oV->(J.of y).holds cU W' u5->
  Calls P f (#[oV,u5]++cap) W' λe y8=> ∃v,e=.returned v∧Fr [] W' y8∧(J.of r).holds cU y8 v
 mono e h:=let⟨f,cap,h1,ad,az⟩:=h; ⟨f,cap,h1,ad,λcU W' e'=>az cU W' (e.trans e')⟩
def XO{c:cM}{E:aa (Nat×J)}{L:aa aK}{α:Type}[ak α]{F:α->α->aD Int}{f:FuncId}(ck:bJ c.P f)(h:∀x y r,F x y=some r->dz c.P f [.of x,.of y] (.of r)):aU c E L (.func f) (.I6 c.P F):=λa W s=>
 ⟨f,#[],rfl,ck,λcU W' _ eX x y r oV u5 ku au aT=>by simpa using h x y r ku cU W' [oV,u5] eX (.cons au (.cons aT .nil))⟩
def ajz{W W':bn}(h:Fr [] W W'):∃q os,W'=grow (W.drewN q) os:=by
 obtain⟨p,hp⟩:=regrown_of_below h.below;have hd:=h.drawn;rw[hp]at hd;have hd:W.drawn<=p.d:=hd;refine⟨p.d-W.drawn,p.os,?_⟩;rw[hp];unfold redrawn World.drewN;congr 2;omega
structure zf{α:Type}(c:α->α->Int):Prop where
 neg:∀x y,c x y<0↔0<c y x
 oi:∀x y z,c x y<=0->c y z<=0->c x z<=0
def zf.swo{α:Type}{c:α->α->Int}(h:zf c):SWO (ltOf c)where
 irrefl x:=by
  unfold ltOf;rw[nQ];intro h1;have:=(h.neg x x).1 h1;omega
 trans x y z h1 ad:=by
  unfold ltOf at *;rw[e5]at *;have bX:=h.oi x y z (by omega) (by omega);by_cases az:c x z<0
  ·exact az
  have aV: ¬0<c z x:=λbc=>az ((h.neg x z).2 bc);have bc:=h.oi y z x (by omega) (by omega);have:=(h.neg x y).1 h1;omega
 ntrans x y z h1 ad:=by
  unfold ltOf at *;rw[nQ]at *;have dM: ¬0<c y x:=λaz=>h1 ((h.neg x y).2 az);have eF: ¬0<c z y:=λaz=>ad ((h.neg y z).2 az);have jA:=h.oi z y x (by omega) (by omega);intro az;have:=(h.neg x z).1 az;omega
def zf.on{α β:Type}{c:α->α->Int}(h:zf c)(g:β->α):zf (λx y=>c (g x) (g y)):=⟨λx y=>h.neg _ _,λx y z=>h.oi _ _ _⟩
def nH(k:Nat)(cs:Array bs)(i:Nat):aa bs:=(cs.toList.drop (i*k)).take k
def Y0{k:Nat}{cs:Array bs}{i j:Nat}(aB:j<k)(h:i*k+j<cs.size):(nH k cs i)[j]! =cs[i*k+j]:=by
 have al:j<(nH k cs i).length:=by
  unfold nH;rw[eZ,ke,Array.length_toList];omega
 rw[getElem!_pos _ j al];have:(nH k cs i)[j]? =cs[i*k+j]? :=by
  unfold nH;rw[lG,bh aB,mK,zH]
 rw[o2 al,Kr h]at this;exact CS this
def ahK{n k p:Nat}[Inhabited (Fin n)]{W:bn}{cs:Array bs}{t:bK}(a6:W.heap[p]? =some (.cells cs t (0,0)))(ee:n*k<=cs.size)(d:Array (Fin n))(hd:d.size=n)(JI:∀i (h:i<n),d[i]! =⟨i,h⟩):HoldsK (λi:Fin n=>nH k cs i.1) k W p 0 d:=by
 intro j aB;have aB:j<d.size*k:=by simpa using aB
 have mA:j<n*k:=by rw[<-hd];exact aB
 have hk:0<k:=FY λe=>by rw[e]at mA;omega
 have hdiv:j/k<n:=Vw (by rw[sX];exact mA);have Bq:=Dt j hk;have asT:j/k*k+j % k=j:=by rw[sX];exact Gt j k
 constructor
 ·rw[get_flatK _ _ _ _ aB,JI _ hdiv];show W.cell? _=some ((nH k cs (j/k))[j % k]!);rw[Y0 Bq (by omega)];unfold World.cell?;simp only[a6,kR,asT];simp
 unfold World.frozen?;simp[a6]
def WO{n k p m:Nat}[Inhabited (Fin n)]{W:bn}{cs:Array bs}{t:bK}(hp:p<W.heap.size)(a6:W.heap[p]? =some (.cells cs t (0,0)))(enc:Fin n->aa bs)(d:Array (Fin n))(os:Array Obj):
 (sortWorldK enc k W p 0 m d os).heap[p]? =some (.cells (putCells id 0 (flatK enc k d) cs) t (0,0))∧(∀q,q<W.heap.size->q≠p->(sortWorldK enc k W p 0 m d os).heap[q]? =W.heap[q]?)∧W.heap.size<=(sortWorldK enc k W p 0 m d os).heap.size:=by
 unfold sortWorldK grow putRowK putRow mapBlock
 refine⟨?_,λq hq df=>?_,?_⟩
 ·rw[wh (by simpa[Sort.ahead]using hp),Oz]
  simp[Sort.ahead,a6,onCells]
 ·rw[wh (by simpa[Sort.ahead]using hq),Oz]
  simp[Sort.ahead,x8 df]
 simp[Sort.ahead]
def Xw{n k p m:Nat}[Inhabited (Fin n)]{W:bn}{cs:Array bs}{t:bK}(hp:p<W.heap.size)(a6:W.heap[p]? =some (.cells cs t (0,0)))(enc:Fin n->aa bs)(d:Array (Fin n))(os:Array Obj):Fr [p] W (sortWorldK enc k W p 0 m d os):=by
 obtain⟨_,ad,az⟩:=WO (k:=k) (m:=m) hp a6 enc d os;exact⟨rfl,rfl,rfl,Nat.le_add_right _ _,az,λq hq df=>ad q hq (by simpa using df)⟩
def L1{F cs:Array bs}:(putCells id 0 F cs).size=cs.size:=by unfold putCells;simp
def al4{n k i j:Nat}(aq:i<n)(aB:j<k):i*k+j<n*k:=by
 have:=iv k (show i+1<=n from aq);rw[nV,Li]at this;omega
def akX{n k i:Nat}{cs:Array bs}(ee:n*k<=cs.size)(aq:i<n):(nH k cs i).length=k:=by
 have:=iv k (show i+1<=n from aq);rw[nV,Li]at this;unfold nH;rw[eZ,ke,Array.length_toList];omega
def ahL{n k i:Nat}[Inhabited (Fin n)]{cs:Array bs}{enc:Fin n->aa bs}(hk:∀x,(enc x).length=k){d:Array (Fin n)}(hd:d.size=n)(ee:n*k<=cs.size)(aq:i<n):nH k (putCells id 0 (flatK enc k d) cs) i=enc d[i]! :=by
 apply Gf
 ·rw[akX (by rw[L1];exact ee) aq,hk]
 intro j h1 ad;have aB:j<k:=by rw[hk]at ad;exact ad
 have ca:=al4 aq aB;have rS:0<k:=by omega
 have aW:i*k+j<d.size*k:=by rw[hd];exact ca
 have ar:(i*k+j)/k=i:=by rw[sX,Nat.mul_add_div rS,O4 aB];omega
 have aS:(i*k+j) % k=j:=by rw[sX,Nat.mul_add_mod,zX aB]
 rw[<-getElem!_pos _ j h1,Y0 aB (by rw[L1];omega),<-getElem!_pos (enc d[i]!) j ad];unfold putCells;rw[Array.getElem_mapIdx,bh ⟨vn _,by rw[size_flatK];omega⟩,Nat.sub_zero,get_flatK _ _ _ _ aW,ar,aS];rfl
def ajA{m:Nat}{cs:Array bs}(h:m<=cs.size):(cs.toList.take m).length=m:=by rw[eZ,Array.length_toList];omega
def Y1{α:Type}(a:Array α){n:Nat}(h:a.size=n):a.extract 0 n=a:=by subst h;simp
def XZ{n k i:Nat}{cs:Array bs}(aq:i<n):((cs.toList.take (n*k)).drop (i*k)).take k=nH k cs i:=by
 have:=iv k (show i+1<=n from aq);rw[nV,Li]at this;rw[wo,rb,show min k (n*k-i*k)=k by omega];rfl
set_option maxHeartbeats 1000000 in
open Go.Shelf in
def aon{T:Type}[ak T]{P:Program}{ρ:Ren}(L:SlLaysF0.n6 P ρ)(UO:∀w,(isAgg (ρ.t 24)).run P w=.ok true w)(UP:∀w,(Go.sizeOf (ρ.t 24)).run P w=.ok (ak.size T) w)(Jr:ak.agg T=true){t:bK}{xs:aa T}{F:T->T->aD Int}{c:T->T->Int}(ae:zf c)
 (ku:∀a∈xs,∀b∈xs,F a b=some (c a b)) (hlen:xs.length<4611686018427387904) {key:aD Nat} {cap:Nat}:
 bN P (ρ.f 6) [.eq (aP key xs.length cap),.I6 P F] [⟨key,.row t xs cap⟩] (δ:= {ys:aa T // ys.Perm xs∧ys.Pairwise (λa b=>c a b<=0)}) (λ_=>.bT []) (λd=>[⟨key,.row t d.1 cap⟩]):=by
 intro A W vs eX lU ca iF bb
 cases bb with
 | cons h1 bb=>cases bb with
   | cons ad bb=>cases bb with
     | nil=>
       rename_i v1 v2
       have h1:v1=aP key xs.length cap:=h1
       obtain⟨f,Cc,rfl,ck,Bd⟩:=ad
       subst h1
       cases key with
       | none=>
         have p1:xs=[]∧cap=0:=iF ⟨none,.row t xs cap⟩ (by simp)
         obtain⟨rfl,rfl⟩:=p1
         refine(AnyF.slices_SortFunc_none L none 0 (.func (.func f) #[] Cc) W).mono ?_
         rintro e rV ⟨rfl,rfl⟩
         exact⟨_,⟨[],.refl _,.nil⟩,rfl,Fr.refl _ _,by simp[ks],by simp[ks],λe he=>by simp at he;subst he;exact⟨rfl,rfl⟩,⟨_,rfl,.nil⟩⟩
       | some p=>
         obtain⟨o,a6,cs,rfl,ee,hle,acy,aba⟩:∃o,W.heap[p]? =some o∧(e3.row t xs cap).holds (ks [⟨some p,.row t xs cap⟩]++A) W o:=iF ⟨some p,.row t xs cap⟩ (by simp)
         have hp:p<W.heap.size:=ca p (by simp[ks])
         have asU:∀q∈p::A,q<W.heap.size:=λq hq=>by
          rcases dP.1 hq with rfl|hq
          ·exact hp
          exact(eX q hq).1
         have ady:p∉A:=λh=>(eX p h).2 (by simp[ks])
         by_cases bC:xs.length=0
         ·obtain rfl:xs=[]:=FD.1 bC
          refine(AnyF.slices_SortFunc_none L (some ⟨p,0,none⟩) cap (.func (.func f) #[] Cc) W).mono ?_
          rintro e rV ⟨rfl,rfl⟩
          refine⟨_,⟨[],.refl _,.nil⟩,rfl,Fr.refl _ _,by simp[ks],λq hq=>?_,λe he=>?_,⟨_,rfl,.nil⟩⟩
          ·simp[ks]at hq;subst hq
           exact⟨hp,λ_=>by simp[ks],ady⟩
          simp at he;subst he
          exact⟨_,a6,cs,rfl,ee,hle,acy,aba⟩
         have aM:0<xs.length:=by omega
         letI:Inhabited (Fin xs.length):=⟨⟨0,aM⟩⟩
         have JJ:xs.length*ak.size T<=cs.size:=by rw[ee];exact iv _ hle
         have IX:∀i (h:i<xs.length),ak.rep (p::A) W (nH (ak.size T) cs i) xs[i]:=λi h=>by
          have:=aba.2 i h;rw[XZ h]at this;exact this
         have e1:(Array.ofFn λi:Fin xs.length=>i).size=xs.length:=by simp
         have JI:∀i (h:i<xs.length),(Array.ofFn λi:Fin xs.length=>i)[i]! =⟨i,h⟩:=λi h=>by
          rw[getElem!_pos _ i (by simp;exact h)];simp
         generalize (Array.ofFn λi:Fin xs.length=>i)=d at e1 JI
         have tT:=ahK a6 JJ d e1 JI
         have hO:SWO (ltOf λx y:Fin xs.length=>c xs[x.1] xs[y.1]):=(ae.on λi:Fin xs.length=>xs[i.1]).swo
         have je:∀m os tW,Ext (p::A) W (p::A) (sortWorldK (λi:Fin xs.length=>nH (ak.size T) cs i.1) (ak.size T) W p 0 m tW os):=λm os tW=>Ext.aaX (Xw hp a6 _ tW os) λq hq=>by simp at hq;subst hq;exact jC
         have EK:∀m os tW (i:Fin xs.length),(J.of xs[i.1]).holds (p::A) (sortWorldK (λi:Fin xs.length=>nH (ak.size T) cs i.1) (ak.size T) W p 0 m tW os) (.agg (nH (ak.size T) cs i.1).toArray):=λm os tW i=>
          ⟨by rw[Jr];exact⟨_,rfl⟩,ak.mono (je m os tW) (IX i.1 i.2)⟩
         have arc:CmpLays P f Cc (λi:Fin xs.length=>nH (ak.size T) cs i.1) (ak.size T) (λx y:Fin xs.length=>c xs[x.1] xs[y.1]) p 0 d.size W:=λm os tW au5 x y=>
          (Bd (p::A) _ (je m os tW) (λq hq=>r6 (asU q hq) (je m os tW).size) _ _ _ _ _ (ku _ (j0 x.2) _ (j0 y.2)) (EK m os tW x) (EK m os tW y)).mono λe rV ⟨v,he,asV,bb⟩=>⟨by rw[he,of_int.1 bb],ajz asV⟩
         have av:∀x:Fin xs.length,(nH (ak.size T) cs x.1).length=ak.size T:=λx=>ak.len (IX x.1 x.2)
         have asW:∀x:Fin xs.length,∀v∈nH (ak.size T) cs x.1,v.oneCell'=true:=λx=>ak.one (IX x.1 x.2)
         have hj:d.size<4611686018427387904:=by omega
         have h:=AnyQ.slices_SortFunc L (ak.size T) UO UP (λi:Fin xs.length=>nH (ak.size T) cs i.1) av asW (λx y:Fin xs.length=>c xs[x.1] xs[y.1]) hO f Cc p 0 cap d W (λargs w=>ck.run args w) arc tT hp hj
         rw[e1]at h
         refine h.mono ?_
         rintro e rV ⟨rfl,oj,m,os,abb,aoo,rfl⟩
         obtain⟨bW,_,asX⟩:=WO (k:=ak.size T) (m:=m) hp a6 (λi:Fin xs.length=>nH (ak.size T) cs i.1) oj os
         have hd':oj.size=xs.length:=abb.1.trans e1
         have kK:(oj.toList.map λi=>xs[i.1]).length=xs.length:=by simp[hd']
         have nI:(oj.toList.map λi=>xs[i.1]).Perm xs:=by
          have ad:=abb.2.2;rw[Y1 oj hd',Y1 d e1]at ad;refine(ad.map _).trans (List.Perm.of_eq ?_);refine Gf (by simp[e1]) λi az aV=>?_;have:=JI i aV;rw[getElem!_pos _ i (by omega)]at this;simp[this]
         have uF:∀i (h:i<xs.length),(oj.toList.map λi=>xs[i.1])[i]'(by omega)=xs[(oj[i]!).1]:=λi h=>by
          have e:oj[i]! =oj[i]'(by omega):=getElem!_pos _ i (by omega);simp[e]
         have T3:(oj.toList.map λi=>xs[i.1]).Pairwise (λa b=>c a b<=0):=by
          rw[Vb];intro i j aq aB gf;rw[kK]at aq aB;have:=aoo i j (vn _) gf aB;unfold ltOf at this;rw[nQ]at this;rw[uF i aq,uF j aB];have bc: ¬0<c xs[(oj[i]!).1] xs[(oj[j]!).1]:=λbq=>this ((ae.neg _ _).2 bq);omega
         refine⟨_,⟨_,nI,T3⟩,rfl,Xw hp a6 _ oj os,by simp[ks],λq hq=>?_,λe he=>?_,⟨_,rfl,.nil⟩⟩
         ·simp[ks]at hq;subst hq
          exact⟨r6 hp asX,λ_=>by simp[ks],ady⟩
         simp at he;subst he
         refine⟨_,bW,_,rfl,by rw[L1];exact ee,by rw[kK];exact hle,acy,?_,λi aq=>?_⟩
         ·rw[kK];exact ajA (by rw[L1];exact JJ)
         rw[kK]at aq
         rw[kK,XZ aq,ahL (λx=>ak.len (IX x.1 x.2)) hd' JJ aq,uF i aq]
         exact ak.mono (je m os oj) (IX _ (oj[i]!).2)
def aj.wU{T:Type}(xs:aa T)(F:T->T->aD Int):aj (aa T):=λQ=> ∃c:T->T->Int,zf c∧xs.length<4611686018427387904∧(∀a∈xs,∀b∈xs,F a b=some (c a b))∧∀ys:aa T,ys.Perm xs->ys.Pairwise (λa b=>c a b<=0)->Q ys
open Go.Shelf in
def aac{T:Type}[ak T]{P:Program}{ρ:Ren}(L:SlLaysF0.n6 P ρ)(UO:∀w,(isAgg (ρ.t 24)).run P w=.ok true w)(UP:∀w,(Go.sizeOf (ρ.t 24)).run P w=.ok (ak.size T) w)(Jr:ak.agg T=true){t:bK}{xs:aa T}{F:T->T->aD Int}{K:aa T->Prop}(h:aj.wU xs F K){key:aD Nat}{cap:Nat}:
 bN P (ρ.f 6) [.eq (aP key xs.length cap),.I6 P F] [⟨key,.row t xs cap⟩] (δ:= {r:aa T // xs.length=r.length∧K r}) (λ_=>.bT []) (λd=>[⟨key,.row t d.1 cap⟩]):=by
 obtain⟨c,ae,hlen,ku,hk⟩:=h
 intro A W vs h1 ad az aV bc
 exact(aon L UO UP Jr ae ku hlen A W vs h1 ad az aV bc).mono λe rV ⟨v,d,h⟩=>⟨v,⟨d.1,d.2.1.length_eq.symm,hk _ d.2.1 d.2.2⟩,h⟩
end Gv
namespace Gv
open Go
def aj.asq{α β ρ:Type}{lW:α->Prop}{m:α->aj β}{k:α->β->aj ρ}{R:ρ->Prop}(h:∀y,lW y->aj.bind (m y) (k y) R):∃K:α×β->Prop,(∀y,lW y->m y λz=>K (y,z))∧∀y,K y->k y.1 y.2 R:=
 ⟨λy=>k y.1 y.2 R,h,λ_ h=>h⟩
def aj.hd{α ρ:Type}{m:aj α}{k:α->aj ρ}{R:ρ->Prop}(h:aj.bind m k R):m (λa=>k a R):=h
structure me(α:Type)where
 p:Option α
 deriving DecidableEq,Inhabited
instance{α:Type}[ak α]:ak (me α)where
 size:=1
 agg:=false
 rep A W cs x:=match x.p with
  |none=>cs=[.pointer none]
  |some y=> ∃v,cs=[v]∧(J.ptr y).holds A W v
 len {A W cs x} h:=by
  rcases x with⟨_|y⟩
  ·have h:cs=_:=h;rw[h];rfl
  obtain⟨v,h,_⟩:=h;rw[h];rfl
 one {A W cs x} h:=by
  intro u hu;rcases x with⟨_|y⟩
  ·have h:cs=_:=h;rw[h]at hu;rw[hx.1 hu];rfl
  obtain⟨v,h,b,off,cur,T,hE,rfl,_⟩:=h;rw[h]at hu;rw[hx.1 hu];rfl
 flat _:=rfl
 mono {A W cU W' cs x} e h:=by
  rcases x with⟨_|y⟩
  ·exact h
  obtain⟨v,h,ad⟩:=h;exact⟨v,h,J.mono _ e ad⟩
instance{α:Type}[ak α]:a8 (me α):=⟨[.pointer none],λ_ _=>rfl⟩
def YQ{c:cM}{E:aa (Nat×J)}{L:aa aK}{x:cu}{α:Type}[ak α]{y:me α}{z:α}(au:aU c E L x (.of y))(h:y.p=some z):aU c E L x (.ptr z):=λa W s=>by
 obtain⟨y⟩:=y;have h:y=some z:=h;subst h;obtain⟨h1,v,ad,az⟩:=au a W s;rw[o6 h1 ad];exact az
def Xl{c:cM}{E:aa (Nat×J)}{L:aa aK}{x:cu}{α:Type}[ak α]{z:α}(au:aU c E L x (.ptr z)):aU c E L x (.of (⟨some z⟩:me α)):=λa W s=>by
 have h:=au a W s;obtain⟨b,off,cur,T,hE,bb,ad⟩:=h;have h:(J.ptr z).holds (ks L++c.b8) W (a.eval x):=⟨b,off,cur,T,hE,bb,ad⟩;have h1:(a.eval x).oneCell'=true:=by rw[bb];rfl
 refine⟨h1,a.eval x,?_,h⟩;rw[cells_one h1]
structure yq(P:Program)(τ:J)(τs:List J)(Lin:List aK){δ:Type}(ρ:δ->J)(Lo:δ->List aK):Prop where
 go:∀(A:List Nat) (W:World) (u:Value) (vs:List Value),(∀k∈A,k<W.heap.size∧k∉ks Lin)->(ks Lin).Nodup->(∀k∈ks Lin,k<W.heap.size)->(∀e∈Lin,e.ok (ks Lin++A) W)->hN (ks Lin++A) W (τ::τs) (u::vs)->
  ∃(f:FuncId) (fQ:List Value),u=.func (.func f) #[] fQ.toArray∧bJ P f∧Calls P f (vs++fQ).toArray W (k3 (ks Lin) A W ρ Lo)
def yq.of{P:Program}{f:FuncId}{τ:J}{uE τs:aa J}{Lin:aa aK}{δ:Type}{ρ:δ->J}{Lo:δ->aa aK}(ck:bJ P f)(JD:∀A W u,τ.holds A W u->(J.lx f uE).holds A W u)
 (h:bN P f (τs++uE) Lin ρ Lo):yq P τ τs Lin ρ Lo where
 go A W u vs h1 ad az aV bc:=by
  cases bc with
  | cons bq c7=>
    obtain⟨fQ,rfl,c9⟩:=JD _ _ _ bq
    exact⟨f,fQ,rfl,ck,h A W (vs++fQ) h1 ad az aV (c7.append c9)⟩
section
variable{c:cM}{E:aa (Nat×J)}{L:aa aK}{ops:Array Oper}{Q:Exit->Act->bn->Prop}
variable{d:aD Tmp}{ty:bK}{pos:String}{af:Array Edge}{g:aD (Nat×Bool)}{x y z:cu}{t t2:bK}
def RG{o:Oper}{σ τ:J}(h:bj c E L o σ)(e:∀A W v,σ.holds A W v->τ.holds A W v):bj c E L o τ:=λa W s=>by
 have:=h a W s;unfold h4 at this⊢;exact uc (λiI W' ⟨v,h1,ad,az⟩=>⟨v,h1,ad,e _ _ _ az⟩) this
def akY{a:Act}{W:bn}{xs:aa cu}{ats:Array bK}{τ:J}{τs:aa J}{Lin Lr:aa aK}{δ:Type}{ρ:δ->J}{Lo:δ->aa aK}(h:yq c.P τ τs Lin ρ Lo)
 (s:bO c E (Lin++Lr) a W) (au:hN (ks (Lin++Lr)++c.b8) W (τ::τs) ((x::xs).map a.eval)):
 h4 c.P ⟨d,.call ⟨.value x,xs.toArray,ats⟩,ty,pos,af,g⟩ a W λv W'=> ∃a7,bO c E (Lo a7++Lr) a W'∧(ρ a7).holds (ks (Lo a7++Lr)++c.b8) W' v:=by
 have nB:=s.nodup
 rw[fM]at nB
 obtain⟨pt,uQ,sB⟩:=q8.1 nB
 have iW:Ext (ks (Lin++Lr)++c.b8) W (ks Lin++(ks Lr++c.b8)) W:=D2
 have eX:∀k∈ks Lr++c.b8,k<W.heap.size∧k∉ks Lin:=λk hm=>by
  rcases cF.1 hm with hm|hm
  ·exact⟨s.lt k (by rw[fM];exact cF.2 (.inr hm)),λh=>sB k h k hm I⟩
  obtain⟨h1,ad⟩:=s.fi k hm;exact⟨h1,λh=>ad (by rw[fM];exact cF.2 (.inl h))⟩
 have ca:∀k∈ks Lin,k<W.heap.size:=λk hm=>s.lt k (by rw[fM];exact cF.2 (.inl hm))
 obtain⟨f,fQ,hu,ck,ae⟩:=h.go (ks Lr++c.b8) W (a.eval x) (xs.map a.eval) eX pt ca (λe he=>aK.wL (s.own e (cF.2 (.inl he))) iW λ_ _=>rfl) (by simpa using au.mono iW)
 refine .yi (f:=f) (args:=(xs.map a.eval++fQ).toArray) (W':=W) ?_ (ae.mono λe W' ⟨v,a7,he,aW,h1,ad,az,aV⟩=>?_)
 ·simp[execOp,resolve,Deferred.ofValue,hu,invoke,ck.run]
 refine⟨v,he,a7,s.after aW h1 ad az,(ρ a7).mono L0 aV⟩
variable{bM:Type}[eu bM]{hp:aL bM}
def ag.asu{rest:aa Oper}{a7:Nat}{xs:aa cu}{ats:Array bK}{τ:J}{τs:aa J}{Lin Lr:aa aK}{δ:Type}{ρ:δ->J}{Lo:δ->aa aK}{hq:δ->aL bM}(n m:Nat)(av:L.drop n=a1 hp)(h:yq c.P τ τs (Lin++a1 hp) ρ (λd=>Lo d++a1 (hq d)))
 (h1:(L.take n).take m=Lin) (ad:(L.take n).drop m=Lr) (au:jr c E L (x::xs) (τ::τs)) (aM:Nat.blt a7 c.n=true) (k:∀q,ag c ops Q rest ((a7,ρ q)::E) ((Lo q++Lr)++a1 (hq q))):
 ag c ops Q (⟨some a7,.call ⟨.value x,xs.toArray,ats⟩,ty,pos,af,none⟩::rest) E L:=by
 have e:L=(Lin++Lr)++a1 hp:=by rw[<-h1,<-ad,gz,<-av,gz]
 clear av h1 ad
 subst e
 exact λa W s=>jn I (akY (Lr:=Lr) h (s.perm ox) ((au.holds a W s).mono (pP ox))) λv W' ⟨q,cq,bb⟩=>
  k q _ _ ((cq.perm ox).put (by simpa using aM) ((ρ q).mono (pP ox) bb))
def aop{p n:Nat}{k:bM}{e:aK}{es:aa aK}(av:L.drop n=a1 hp)(h:pat hp p=some k)(hk:eu.gR p k=e::es):e∈L:=by
 obtain⟨R,h1,_⟩:=wB h;rw[hk]at h1;have:e∈L.drop n:=by rw[av];exact h1.mem_iff.2 (by simp)
 exact CA this
def ajB{x:cu}{t:bK}{p o:Nat}{β γ:Type}[ak β][ak γ]{b:β}{os:aa (Nat×bs)}(l:aQ β γ){r:γ}(ej:bS c.P t γ)(au:aU c E L x (.eq (.pointer (some ⟨p,o,none⟩))))
 (hm:(⟨some p,.cw b os⟩:aK)∈L) (a6:o=l.off) (aG:l.get b=r) (aY:vC os l.off (ak.size γ)=true):bj c E L ⟨d,.load t x,ty,pos,af,g⟩ (.of r):=by
 obtain⟨i,aq⟩:=o3.1 hm
 exact H0 (i:=i) l ej au aq a6 aG aY
def XQ{bM:Type}{hp:aL bM}{p:Nat}{k:bM}(h:pat hp p=some k):cJ hp p k=hp:=by
 induction hp with
 |nil=>rfl
 | cons z r cj=>
   obtain⟨q,aub⟩:=z
   simp only[pat]at h
   simp only[cJ]
   split
   ·rename_i e
    rw[bh e]at h
    rw[CS h]
   rename_i e
   rw[bf e]at h
   rw[cj h]
def ag.RH{l:aa Oper}{p:Nat}{k:bM}{X:aa aK}(n:Nat)(av:L.drop n=a1 hp)(hp':pat hp p=some k)(hk:eu.gR p k=X)
 (nN:∀R,(∀k',(a1 (cJ hp p k')).Perm (eu.gR p k'++R))->ag c ops Q l E (X++(L.take n++R))):ag c ops Q l E L:=by
 obtain⟨R,bk,bo⟩:=wB hp'
 refine ag.perm ?_ (nN R bo)
 conv=>rhs;rw[<-gz n L,av]
 rw[hk]at bk
 refine List.Perm.trans ?_ (bk.symm.append_left (L.take n))
 rw[<-iJ,<-iJ]
 exact nR.append_right _
def ag.Sv{l:aa Oper}{p:Nat}{R M:aa aK}(k':bM)(m n:Nat)(hJ:∀k',(a1 (cJ hp p k')).Perm (eu.gR p k'++R))(av:L.drop n=R)(h1:(L.take n).take m=eu.gR p k')(ad:(L.take n).drop m=M)
 (nN:ag c ops Q l E (M++a1 (cJ hp p k'))):ag c ops Q l E L:=by
 have e:L=(eu.gR p k'++M)++R:=by rw[<-h1,<-ad,gz,<-av,gz]
 refine ag.perm ?_ nN
 rw[e]
 refine((hJ k').append_left M).trans ?_
 rw[<-iJ]
 exact nR.append_right _
end
section
variable{P:Program}{b:Frame}{a:Act}{k:aa Item}{cs:aa Frame}{w:bn}{Q:Exit->Act->bn->Prop}{F:Fence}{n:Nat}
def T4(Q:Exit->Act->bn->Prop):Exit->Act->bn->Prop
 | .goto _,_,_=>False
 |e,a,w=>Q e a w
def DR{c:Code}:step P (lone (b.atR a (.code (.scope c)::k)) cs w)=.next (lone (b.atR a (.code c::.inScope c::k)) cs w):=
 step_lone_go (by simp[stepG,stepG.exec,Frame.atR])
def agU{c:Code}:step P (lone (b.atR a (.inScope c::k)) cs w)=.next (lone (b.atR a k) cs w):=
 step_lone_go (by simp[stepG,stepG.exec,Frame.atR])
def ahM{c:Code}(h:c.wpIn F n P (T4 Q) a w):(Code.scope c).wpIn F n P Q a w:=by
 intro b k cs k9 hb aG;have bC:(lone (b.atR a (.code (.scope c)::k)) cs w).fenced P F:=Dn hb aG I;obtain⟨e,tA,Br,hq,pk⟩:=h b (.inScope c::k) cs k9 hb aG;cases e with
 |normal=>exact⟨.normal,tA,Br,hq,.head bC DR (Po pk (.one (Dn hb aG I) agU))⟩
 | exit id=>
   have au:exitTo id (.inScope c::k)=exitTo id k:=by simp[exitTo]
   exact⟨.exit id,tA,Br,hq,λk' hk=>.head bC DR (pk.1 k' (by rw[au];exact hk)),
    λkp hk=>let⟨k₁,h1,ad⟩:=pk.2 kp (by rw[au];exact hk); ⟨k₁,h1,.head bC DR ad⟩⟩
 |goto l=>exact hq.elim
 |ret=>exact⟨_,tA,Br,hq,.of_steps (.one bC DR) pk⟩
 |panic mf=>exact⟨_,tA,Br,hq,.of_steps (.one bC DR) pk⟩
 |outgrown=>exact⟨_,tA,Br,hq,.of_steps (.one bC DR) pk⟩
end
section
variable{c:cM}{E:aa (Nat×J)}{L:aa aK}{Q:Exit->Act->bn->Prop}
def ay.scope{x:Code}(h:ay c (T4 Q) x E L):ay c Q (.scope x) E L:=λa W s=>ahM (h a W s)
def ay.label{l:Nat}(h:an c Q .normal E L):ay c Q (.label l) E L:=λa W s=>wpIn_label (h a W s)
def an.aby(h:an c Q .ret E L):an c (T4 Q) .ret E L:=h
end
section
variable{c:cM}{E:aa (Nat×J)}{L:aa aK}
def bj.asj{o:Oper}{ρ τ:J}{p:Prop}(gV:Nat)(al:look E gV=some (.cond p τ))(hb:p)(h:bj c ((gV,τ)::E) L o ρ):bj c E L o ρ:=λa W s=>by
 refine h a W (s.less λt σ ad=>?_);simp only[look]at ad;by_cases e:Nat.beq gV t=true
 ·rw[e]at ad;simp only[cond_true,gk]at ad;have:=ff.1 e;subst this;subst ad;exact⟨_,al,λA W v bb=>bb.1 hb⟩
 simp only[jl]at e;rw[e]at ad;simp only[cond_false]at ad;exact⟨σ,ad,λ_ _ _ h=>h⟩
end
abbrev J.cN(p:Nat):J:=.eq (.pointer (some ⟨p,0,none⟩))
abbrev aJ{α:Type}[ak α](p:Nat)(x:α):aK:=⟨some p,.var x⟩
inductive oX:Nat->List aK->List aK->Prop
 |nil {L:List aK}:oX 0 L []
 |cons {n:Nat} {e:aK} {r s:List aK}:oX n r s->oX (n+1) (e::r) (e::s)
inductive oY:List aK->List aK->Prop
 |nil:oY [] []
 |gR {bM:Type} [eu bM] {hp:aL bM}:oY (a1 hp) (a1 hp)
 |Ft {l:List aK}:oY l l
 |cons {e e':aK} {r s:List aK}:e=e'->oY r s->oY (e::r) (e'::s)
def oY.eq:∀{l m:aa aK},oY l m->l=m
 |_,_,.nil=>rfl
 |_,_,@oY.gR _ _ _=>rfl
 |_,_,.Ft=>rfl
 |_,_,.cons h1 h=>by rw[h.eq,h1]
section
variable{c:cM}{E:aa (Nat×J)}{L:aa aK}{ops:Array Oper}{Q:Exit->Act->bn->Prop}{x:cu}
def ag.dr{l:aa Oper}{L2:aa aK}(k:ag c ops Q l E L2)(h:oY L L2:=by repeat (first|exact oY.gR|exact oY.nil|(apply oY.cons; (first|(dsimp only;exact rfl)|exact rfl))|exact oY.Ft)):ag c ops Q l E L:=.dq h.eq k
def an.dr{z:Exit}{L2:aa aK}(k:an c Q z E L2)(h:oY L L2:=by repeat (first|exact oY.gR|exact oY.nil|(apply oY.cons; (first|(dsimp only;exact rfl)|exact rfl))|exact oY.Ft)):an c Q z E L:=.dq h.eq k
def dm.jy{γ:Type}{UQ:aa (Nat×J)}{UR:aa aK}{f:Nat}{cv:Array Bool}(dB:aa Nat)(d m Fs:Nat)(um:Array Bool)(u:γ->aa (Nat×J))(xs ys:γ->aa aK)(h1:∀g,dm c ops Q Fs um (u g++UQ) (xs g++(UR++ys g)))
 (ad:(∀g,dm c ops Q Fs um (u g++UQ) (xs g++(UR++ys g)))->dm c ops Q f cv E L) (aF:kx E dB UQ:=by repeat (first|exact kx.nil|(apply kx.cons;rfl))) (av:oX m (L.drop d) UR:=by repeat (first|exact oX.nil|apply oX.cons)):dm c ops Q f cv E L:=ad h1
def dm.s1{f:Nat}{cv:Array Bool}{o:Oper}(i:Nat)(h:ag c ops (qk (wpAnyIn c.F 9 c.P .any ops Q f (cv.setIfInBounds i true)) Q) [o] E L)(a6:ops[i]? =some o:=by rfl)(aG:Region.ready .any ops cv=[i]:=by kernel_rfl):dm c ops Q (f+1) cv E L:=.step [i] aG I ⟨⟨o,a6,h⟩,trivial⟩
def dm.s2{f:Nat}{cv:Array Bool}{o cC:Oper}(i j:Nat)(h:ag c ops (qk (wpAnyIn c.F 9 c.P .any ops Q f (cv.setIfInBounds i true)) Q) [o] E L)(ad:ag c ops (qk (wpAnyIn c.F 9 c.P .any ops Q f (cv.setIfInBounds j true)) Q) [cC] E L)
 (a6:ops[i]? =some o:=by rfl) (e9:ops[j]? =some cC:=by rfl) (aG:Region.ready .any ops cv=[i,j]:=by kernel_rfl):dm c ops Q (f+1) cv E L:=.step [i,j] aG I ⟨⟨o,a6,h⟩,⟨cC,e9,ad⟩,trivial⟩
def ag.fY{f:Nat}{cv um:Array Bool}{E':aa (Nat×J)}(k:dm c ops Q f um E' L)(h:fP E E':=by repeat (first|exact fP.nil|refine fP.same I ?_))(al:cv=um:=by kernel_rfl):ag c ops (qk (wpAnyIn c.F 9 c.P .any ops Q f cv) Q) [] E L:=.nil (.fY k h al)
def y1{α:Type}{b:Bool}{m n:aj α}{R:α->Prop}{y z:Code}(h:cond b m n R)(bD:m R->ay c Q y E L)(aW:n R->ay c Q z E L)(al:aU c E L x (.of b):=by first|exact ah I|exact iL _):ay c Q (.cond x y z) E L:=
 .cond al (λhb=>bD (YW hb h)) (λhb=>aW (YX hb h))
end
def fz(up rd wr:aa Nat)(e:(Nat->Hid)->aK):dX:=⟨none,up,rd,wr,λ_=>.any,λhd _=>e hd⟩
section
variable{c:cM}{E:aa (Nat×J)}{L:aa aK}{ops:Array Oper}{Q:Exit->Act->bn->Prop}{hs:aa dX}{i:Nat}{up rd:aa Nat}{o:Oper}{a7:Nat}
def gU{τ:J}(h:∀{hd:Nat->Hid} {E':aa (Nat×J)} {L':aa aK},(∀t τ,look (kL hd hs E up) t=some τ->look E' t=some τ)->(∀j e,(hI (λ_=>true) hd 0 (hs.take i) L)[j]? =some e->rd.contains j=true->L'[j]? =some e)->bj c E' L' o τ)
 (bz:o.guard=none:=by rfl) (hd:o.dst=some a7:=by rfl) (aM:Nat.blt a7 c.n=true:=by rfl):gX c ops Q hs E L i o (aC a7 up rd τ):=qg (λ_ _ _ a b=>h a b) bz hd aM
def fA{τ:J}{hyp:aa aK->Prop}(h:∀{L'},hyp L'->bj c E L' o τ)(bz:o.guard=none:=by rfl):∀L',hyp L'->ia c ops E L' o τ:=λL' av=>.v (h av) bz
end
def qX:aa (aD Nat)->aa (aa Nat)->aa J->aa dX
 |s::ga,d::ds,τ::dB=>⟨s,d,[],[],λ_=>τ,λ_ _=>⟨none,.dead⟩⟩::qX ga ds dB
 |_,_,_=>[]
def EL:aa (aD Nat)->aa (aa Nat)->aa (aD Nat×aa Nat×aa Nat×aa Nat)
 |s::ga,d::ds=>(s,d,[],[])::EL ga ds
 |_,_=>[]
def w8(E:aa (Nat×J)):aa (aD Nat)->aa (aa Nat)->aa J->aa (Nat×J)
 |s::ga,_::ds,τ::dB=>sq s τ (w8 E ga ds dB)
 |_,_,_=>E
def Fb:aa Oper->aa (aD Nat)->Nat->Bool
 |[],[],_=>true
 |o::os,some s::ga,n=>(match o.dst with |some t=>Nat.beq t s|none=>false)&&Nat.blt s n&&Fb os ga n
 |_,_,_=>false
section
variable{c:cM}{E:aa (Nat×J)}{L:aa aK}{ops:Array Oper}{Q:Exit->Act->bn->Prop}
def yw(c:cM)(ops:Array Oper)(E:aa (Nat×J))(L:aa aK)(hs:aa dX):aa Oper->aa (aD Nat)->aa (aa Nat)->aa J->Prop
 |o::os,_::ga,d::ds,τ::dB=>(∀L':aa aK,(∀(j:Nat) (e:aK),L[j]? =some e->vH (λ_=>false) j 0 []=true->L'[j]? =some e)->ia c ops (kL (λ_ _=>none) hs E d) L' o τ)∧yw c ops E L hs os ga ds dB
 |_,[],[],[]=>True
 |_,_,_,_=>False
def Mg{h:dX}:∀{ga:aa (aD Nat)} {ds:aa (aa Nat)} {dB:aa J},h∈qX ga ds dB->h.wr=[]∧∀g ed,h.τ g=h.τ ed
 | _::ga,_::ds,_::dB,hm=>by
   rcases dP.1 hm with rfl|hm
   ·exact⟨rfl,λ_ _=>rfl⟩
   exact Mg hm
def MC{hd:Nat->Hid}{hs:aa dX}(ae:∀h∈hs,∀g ed,h.τ g=h.τ ed):∀{d:aa Nat},kL hd hs E d=kL (λ_ _=>none) hs E d
 |[]=>rfl
 | j::r=>by
   unfold kL;cases aB:hs[j]? with
   |none=>exact MC ae
   | some h=>
     cases hq:h.slot with
     |none=>simp only[hq];exact MC ae
     |some s=>simp only[hq];rw[ae h (fB aB) _ (iA h.up j (λ_ _=>none)),MC ae]
def abc{hd:Nat->Hid}:∀{hs:aa dX} {k:Nat} {L:aa aK},(∀h∈hs,h.wr=[])->hI (λ_=>true) hd k hs L=L
 |[],_,_,_=>rfl
 | h::r,k,L,hw=>by
   unfold hI;rw[hw h jC];exact abc λx au=>hw x (gA _ au)
def QT{hd:Nat->Hid}:∀{ga:aa (aD Nat)} {ds:aa (aa Nat)} {dB:aa J} {k:Nat},jf (λ_=>true) hd E k (qX ga ds dB)=w8 E ga ds dB
 |some s::ga,d::ds,τ::dB,k=>by unfold qX w8 jf;simp only[sq];rw[QT]
 |none::ga,d::ds,τ::dB,k=>by unfold qX w8 jf;simp only[sq];rw[QT]
 |[],_,_,_=>by unfold qX w8 jf;rfl
 |_::_,[],_,_=>by unfold qX w8 jf;rfl
 |_::_,_::_,[],_=>by unfold qX w8 jf;rfl
def ag.a6{o:Oper}{rest:aa Oper}{d:Nat}{τ:J}{E':aa (Nat×J)}(h:ia c ops E' L o τ)(aF:∀t τ,look E' t=some τ->look E t=some τ)(hd:o.dst=some d)(aM:Nat.blt d c.n=true)(k:ag c ops Q rest ((d,τ)::E) L):ag c ops Q (o::rest) E L:=λa W s=>by
 obtain⟨h1,ad⟩:=h a W (s.less λt τ al=>⟨τ,aF t τ al,λ_ _ _ h=>h⟩);unfold cM.sx wpListIn;by_cases hw:Region.wanted o (yielded ops a.tmps)=true
 ·rw[bh hw];refine((h1 hw).wpIn λv W' ⟨f,bb⟩=>?_);rw[hd];exact k _ _ ((s.world f).put (by simpa using aM) bb)
 rw[bf hw,hd];exact⟨λ_ _=>trivial,k _ _ (s.put (by simpa using aM) (ad (by simpa using hw)))⟩
def yw.Jo{hs:aa dX}(ae:∀h∈hs,∀g ed,h.τ g=h.τ ed):∀{os:aa Oper} {ga:aa (aD Nat)} {ds:aa (aa Nat)} {dB:aa J} {k n:Nat},yw c ops E L hs os ga ds dB->Fb (os.take n) ga c.n=true->ru c ops Q hs E L 0 k (os.take n) (qX ga ds dB)
 | os,[],ds,dB,k,n,_,hb=>by
   cases h:os.take n with
   |nil=>cases ds <;> cases dB <;> trivial
   |cons o r=>rw[h]at hb;cases hb
 |[],s::ga,ds,dB,k,n,_,hb=>by rw[List.take_nil]at hb;cases hb
 |o::os,s::ga,ds,dB,k,0,_,hb=>by cases hb
 |o::os,s::ga,[],dB,k,n+1,h,_=>h.elim
 |o::os,s::ga,d::ds,[],k,n+1,h,_=>h.elim
 |o::os,none::ga,d::ds,τ::dB,k,n+1,h,hb=>by simp[Fb]at hb
 | o::os,some s::ga,d::ds,τ::dB,k,n+1,h,hb=>by
   simp only[List.take_succ_cons,Fb,gl]at hb;refine⟨λJp E' L' aF _ cc=>?_,yw.Jo ae h.2 hb.2⟩;have e:L'=L:=cc;subst e;have e1:o.dst=some s:=by
    have:=hb.1.1;cases hd:o.dst with
    |none=>rw[hd]at this;cases this
    |some t=>rw[hd]at this;rw[ff.1 this]
   exact ag.a6 (h.1 _ λj e he _=>he) (λt τ al=>aF t τ (by rw[MC ae];exact al)) e1 hb.1.2 (ag.nil (an.fin (λ_=>none) I I))
def ay.jM{la:Nat}{l:aa Oper}{es:aa Nat}(hm:c.P.follows .mixedOrders=true)(n:Nat)(pe:aa (aD Nat))(w9:aa (aa Nat))(dB:aa J)(bW:yw c l.toArray E L (qX pe w9 dB) l pe w9 dB)(bD:ag c l.toArray Q (l.drop n) (w8 E pe w9 dB) L)
 (e1:mx (qX pe w9 dB)=EL pe w9:=by rfl) (kV:E.map (·.1)=es:=by rfl) (eB:Gv.sl l.toArray n (EL pe w9) es=true:=by kernel_rfl) (hs:Fb (l.take n) pe c.n=true:=by rfl):ay c Q (.region la l.toArray true) E L:=
 have ae:∀h∈qX pe w9 dB,∀g ed,h.τ g=h.τ ed:=λh hm=>(Mg hm).2
 ay.MB n (np:=0) hm (qX pe w9 dB) (EL pe w9) es e1 kV eB (λh hm j aB=>by rw[(Mg hm).1]at aB;cases aB) (yw.Jo ae bW hs) (λhd=>by rw[QT,abc λh hm=>(Mg hm).1];exact bD)
end
section
variable{c:cM}{E fT:aa (Nat×J)}{L gi:aa aK}{Q:Exit->Act->bn->Prop}{x:cu}
def qL{γ:Type}{b:Bool}{y z:Code}(n:Nat)(dB:aa Nat)(u:γ->aa (Nat×J))(ul:γ->aa (Nat×aK))(om:γ->aa aK)(oU:∀g,an c Q .normal (u g++fT) (jg gi (ul g)++om g))
 (bD:(∀g,an c (ea Q) .normal (u g++fT) (jg gi (ul g)++om g))->b=true->ay c (ea Q) y E L) (aW:(∀g,an c (ea Q) .normal (u g++fT) (jg gi (ul g)++om g))->b=false->ay c (ea Q) z E L)
 (BQ:oX n L gi:=by repeat (first|exact oX.nil|apply oX.cons)) (Js:kx E dB fT:=by repeat (first|exact kx.nil|(apply kx.cons;rfl))) (al:aU c E L x (.of b):=by first|exact ah I|exact iL _):ay c Q (.cond x y z) E L:=
 ay.bV (λg=>u g++fT) (λg=>jg gi (ul g)++om g) al oU bD aW
def y0{β γ ρ:Type}{lE:ρ->Prop}{b:Bool}{y z:Code}{bk bo:aj β}{k:β->aj ρ}(h:aj.bind (bif b then bk else bo) k lE)(n:Nat)(dB:aa Nat)(u:β->γ->aa (Nat×J))(ul:β->γ->aa (Nat×aK))(om:β->γ->aa aK)
 (oU:∀m g,k m lE->an c Q .normal (u m g++fT) (jg gi (ul m g)++om m g))
 (bD:(∀m g,k m lE->an c (ea Q) .normal (u m g++fT) (jg gi (ul m g)++om m g))->b=true->bk (λm=>k m lE)->ay c (ea Q) y E L) (aW:(∀m g,k m lE->an c (ea Q) .normal (u m g++fT) (jg gi (ul m g)++om m g))->b=false->bo (λm=>k m lE)->ay c (ea Q) z E L)
 (BQ:oX n L gi:=by repeat (first|exact oX.nil|apply oX.cons)) (Js:kx E dB fT:=by repeat (first|exact kx.nil|(apply kx.cons;rfl))) (al:aU c E L x (.of b):=by first|exact ah I|exact iL _):ay c Q (.cond x y z) E L:=
 ay.alZ h (λm g=>u m g++fT) (λm g=>jg gi (ul m g)++om m g) al oU bD aW
def tC{σ ε γ δ:Type}{body:Code}{N:Nat}{b:σ->aD (σ⊕ε)}{b9:σ}{e:ε}(al:c8 N b b9=some e)(n:Nat)(dB:aa Nat)(u:σ->γ->aa (Nat×J))(ul:σ->γ->aa (Nat×aK))(om:σ->γ->aa aK)(xs:ε->Exit)
 (u7:ε->δ->aa (Nat×J)) (uR:ε->δ->aa (Nat×aK)) (BZ:ε->δ->aa aK) (g0:γ)
 (ux:∀s r,b s=some r->∀g,ay c (eO c (λs g=>u s g++fT) (λs g=>jg gi (ul s g)++om s g) xs (λe d=>u7 e d++fT) (λe d=>jg gi (uR e d)++BZ e d) r) body (u s g++fT) (jg gi (ul s g)++om s g))
 (qB:∀g,an c Q (xs e) (u7 e g++fT) (jg gi (uR e g)++BZ e g))
 (BQ:oX n L gi:=by repeat (first|exact oX.nil|apply oX.cons)) (Js:kx E dB fT:=by repeat (first|exact kx.nil|(apply kx.cons;rfl))) (aF:fP E (u b9 g0++fT):=by repeat (first|exact fP.nil|refine fP.same I ?_)) (av:L=jg gi (ul b9 g0)++om b9 g0:=by rfl):ay c Q (.loop body) E L:=
 ay.MT al (λs g=>u s g++fT) (λs g=>jg gi (ul s g)++om s g) xs (λe d=>u7 e d++fT) (λe d=>jg gi (uR e d)++BZ e d) g0 av aF ux qB
def BE{σ ε γ δ ρ:Type}{body:Code}{N:Nat}{b:σ->aj (σ⊕ε)}{b9:σ}{k:ε->aj ρ}{lE:ρ->Prop}(al:aj.bind (Gv.nZ N b b9) k lE)(n:Nat)(dB:aa Nat)(u:σ->γ->aa (Nat×J))(ul:σ->γ->aa (Nat×aK))(om:σ->γ->aa aK)(xs:ε->Exit)
 (u7:ε->δ->aa (Nat×J)) (uR:ε->δ->aa (Nat×aK)) (BZ:ε->δ->aa aK) (g0:γ)
 (ux:∀s R,b s R->∀g,ay c (eV c (λs g=>u s g++fT) (λs g=>jg gi (ul s g)++om s g) xs (λe d=>u7 e d++fT) (λe d=>jg gi (uR e d)++BZ e d) R) body (u s g++fT) (jg gi (ul s g)++om s g))
 (qB:∀e,k e lE->∀g,an c Q (xs e) (u7 e g++fT) (jg gi (uR e g)++BZ e g))
 (BQ:oX n L gi:=by repeat (first|exact oX.nil|apply oX.cons)) (Js:kx E dB fT:=by repeat (first|exact kx.nil|(apply kx.cons;rfl))) (aF:fP E (u b9 g0++fT):=by repeat (first|exact fP.nil|refine fP.same I ?_)) (av:L=jg gi (ul b9 g0)++om b9 g0:=by rfl):ay c Q (.loop body) E L:=
 ay.Zs al (λs g=>u s g++fT) (λs g=>jg gi (ul s g)++om s g) xs (λe d=>u7 e d++fT) (λe d=>jg gi (uR e d)++BZ e d) g0 av aF ux qB
end
inductive NE:List (Nat×J)->List (Nat×J)->Prop
 |nil:NE [] []
 |cons {x:Nat×J} {r s:List (Nat×J)}:NE r s->NE (x::r) (x::s)
def NE.eq:∀{l m:aa (Nat×J)},NE l m->l=m
 |_,_,.nil=>rfl
 |_,_,.cons h=>by rw[h.eq]
section
variable{c:cM}{E fT:aa (Nat×J)}{L:aa aK}{ops:Array Oper}{Q:Exit->Act->bn->Prop}
def e8{z:Exit}(k:an c Q z fT L)(h:NE E fT:=by repeat (first|exact NE.nil|apply NE.cons)):an c Q z E L:=by rw[h.eq];exact k
def ada{l:aa Oper}(k:ag c ops Q l fT L)(h:NE E fT:=by repeat (first|exact NE.nil|apply NE.cons)):ag c ops Q l E L:=by rw[h.eq];exact k
def ay.ad0{la:Nat}{l:aa Oper}{ds:aa (aD Nat×aa Nat×aa Nat×aa Nat)}{es:aa Nat}(n np:Nat)(hm:c.P.follows .mixedOrders=true)(hs:aa dX)
 (bW:ru c l.toArray Q hs E L np 0 (l.take n) hs) (bD:∀hd,ag c l.toArray Q (l.drop n) (jf (λ_=>true) hd E 0 hs) (hI (λ_=>true) hd 0 hs L))
 (e1:mx hs=ds:=by rfl) (kV:E.map (·.1)=es:=by rfl) (eB:Gv.sl l.toArray n ds es=true:=by kernel_rfl) (hw:(ds.all λd=>d.2.2.2.all λj=>Nat.blt j np)=true:=by kernel_rfl):ay c Q (.region la l.toArray true) E L:=.auc n np hm hs es bW bD e1 kV eB hw
def ay.tQ{la:Nat}{l:aa Oper}{ds:aa (aD Nat×aa Nat×aa Nat×aa Nat)}{es:aa Nat}(hm:c.P.follows .mixedOrders=true)(hs:aa dX)
 (bW:Ef c l.toArray Q hs E L 0 l hs) (bD:∀hd,an c Q .normal (jf (λ_=>true) hd E 0 hs) (hI (λ_=>true) hd 0 hs L))
 (e1:mx hs=ds:=by rfl) (kV:E.map (·.1)=es:=by rfl) (eB:Gv.sl l.toArray l.length ds es=true:=by kernel_rfl):ay c Q (.region la l.toArray true) E L:=.Oa hm hs es bW bD e1 kV eB
end
end Gv
