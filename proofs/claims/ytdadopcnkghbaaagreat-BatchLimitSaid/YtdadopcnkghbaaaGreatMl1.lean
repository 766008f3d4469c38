/-
  The library of the decompiler, as far as it is needed here. Conditions: none.
-/
import Derived.MapKept
import Derived.Maps.RangeRun
import Derived.Shelf.SlSortCmp.NoneTotal
import Derived.Lib.QuietBelow
import Derived.Test.YtdadopcnkghbaaaGreatMl0
set_option linter.defProp false
set_option linter.unusedVariables false
set_option linter.unusedSimpArgs false
namespace Gv
open Go
section
variable{c:bW}{E:aa (Nat×J)}{L:aa aA}{ops:Array Oper}{Q:Exit->Act->bc->Prop}{rest:aa Oper}{o:Oper}{aV:Nat}
variable{ty:bo}{pos:String}{af:Array Edge}{x y:bO}{t t2:bo}
def cf{id:Nat}{l:aa Oper}{y:Code}(h:ae c l.toArray (Exit.then (c.wp y Q) Q) l E L):ax c Q (.seq (.region id l.toArray false) y) E L:=.seq (.fc h)
def b0{y:Code}(h:ax c Q y E L):ae c ops (Exit.then (c.wp y Q) Q) [] E L:=.nil (.next h)
def h6{y z:Code}(h:ax c (Exit.then (c.wp z Q) Q) y E L):ae c ops (Exit.then (c.wp (Code.seq y z) Q) Q) [] E L:=.nil (.next (.seq h))
def gB{id:Nat}{l:aa Oper}{z:Code}(h:ae c l.toArray (Exit.then (c.wp z Q) Q) l E L):ae c ops (Exit.then (c.wp (Code.seq (.region id l.toArray false) z) Q) Q) [] E L:=.nil (.next (.seq (.fc h)))
def kY{y:Code}(h:ax c Q y E L):ax c (Exit.then (c.wp y Q) Q) .skip E L:=.skip (.next h)
def aB{α β:Type}{m:av α}{f:α->av β}{r:β}{P:Prop}(h:m.bind f=some r)(k:∀y,m=some y->f y=some r->P):P:=(bind_some h).elim λy h=>k y h.1 h.2
def mU{R:Type}{b:Bool}{A B:av R}{r:R}{y z:Code}(h:cond b A B=some r)(bq:A=some r->ax c Q y E L)(aU:B=some r->ax c Q z E L)
 (ao:aL c E L x (.of b):=by first|exact ai I|exact gI _):ax c Q (.cond x y z) E L:=
 .cond ao (λhb=>bq (gd hb h)) (λhb=>aU (gf hb h))
def bn{τ:J}(h:ba c E L o τ)(k:ae c ops Q rest ((aV,τ)::E) L)(bu:o.guard=none:=by rfl)(hd:o.dst=some aV:=by rfl)(aG:Nat.blt aV c.n=true:=by rfl):ae c ops Q (o::rest) E L:=.v h bu hd aG k
def dr{τ:J}(k:ae c ops Q rest ((aV,τ)::E) L)(al:aL c E L x τ:=by first|exact ai I|exact c8 _|exact gI _|exact fJ _)(aG:Nat.blt aV c.n=true:=by rfl):
 ae c ops Q (⟨some aV,.move x,ty,pos,af,none⟩::rest) E L:=.v (cT al) I I aG k
def c7{τ:J}(k:ae c ops Q rest ((aV,τ)::E) L)(al:aL c E L x τ:=by first|exact ai I|exact c8 _|exact gI _|exact fJ _)(aG:Nat.blt aV c.n=true:=by rfl):
 ae c ops Q (⟨some aV,.assign x,ty,pos,af,none⟩::rest) E L:=.v (cP al) I I aG k
def db{σ τ:J}(h:aL c E L x σ->ba c E L o τ)(k:ae c ops Q rest ((aV,τ)::E) L)(al:aL c E L x σ:=by first|exact ai I|exact c8 _|exact gI _|exact fJ _)
 (bu:o.guard=none:=by rfl) (hd:o.dst=some aV:=by rfl) (aG:Nat.blt aV c.n=true:=by rfl):ae c ops Q (o::rest) E L:=.v (h al) bu hd aG k
def ea{σ rI τ:J}(h:aL c E L x σ->aL c E L y rI->ba c E L o τ)(k:ae c ops Q rest ((aV,τ)::E) L)(al:aL c E L x σ:=by first|exact ai I|exact c8 _|exact gI _|exact fJ _)
 (hy:aL c E L y rI:=by first|exact ai I|exact c8 _|exact gI _|exact fJ _)
 (bu:o.guard=none:=by rfl) (hd:o.dst=some aV:=by rfl) (aG:Nat.blt aV c.n=true:=by rfl):ae c ops Q (o::rest) E L:=.v (h al hy) bu hd aG k
def lC{α:Type}[ag α]{a b:α}(e:some a=some b)(h:ba c E L o (.of a))(k:ae c ops Q rest ((aV,.of b)::E) L)(bu:o.guard=none:=by rfl)(hd:o.dst=some aV:=by rfl)(aG:Nat.blt aV c.n=true:=by rfl):
 ae c ops Q (o::rest) E L:=.v (h.rT (dh e)) bu hd aG k
def AJ{i:Nat}{τs:aa J}{τ:J}(k:ae c ops Q rest ((aV,τ)::E) L)(al:aL c E L x (.bR τs):=by exact ai I)(aw:τs[i]? =some τ:=by rfl)(aG:Nat.blt aV c.n=true:=by rfl):
 ae c ops Q (⟨some aV,.extract x i,ty,pos,af,none⟩::rest) E L:=.v (Ah al aw) I I aG k
def qE{p o:Nat}{β γ:Type}[ag β][ag γ]{b:β}(j:Nat)(l:aO β γ)(dx:bG c.P t γ)(k:ae c ops Q rest ((aV,.of (l.get b))::E) L)(al:aL c E L x (.eq (.pointer (some ⟨p,o,none⟩))):=by exact ai I)
 (ar:L[j]? =some ⟨some p,.var b⟩:=by rfl) (aS:o=l.off:=by rfl) (aG:Nat.blt aV c.n=true:=by rfl):ae c ops Q (⟨some aV,.load t x,ty,pos,af,none⟩::rest) E L:=.v (j9 l dx al ar aS I) I I aG k
def o6{p:Nat}{β:Type}[ag β]{b:β}(j:Nat)(dx:bG c.P t β)(k:ae c ops Q rest ((aV,.of b)::E) L)(al:aL c E L x (.eq (.pointer (some ⟨p,0,none⟩))):=by exact ai I)
 (ar:L[j]? =some ⟨some p,.var b⟩:=by rfl) (aG:Nat.blt aV c.n=true:=by rfl):ae c ops Q (⟨some aV,.load t x,ty,pos,af,none⟩::rest) E L:=.v (j9 (aO.id β) dx al ar I I) I I aG k
def akD{p o:Nat}{β γ:Type}[ag β][ag γ]{b:β}{os:aa (Nat×bd)}(j:Nat)(l:aO β γ)(dx:bG c.P t γ)(k:ae c ops Q rest ((aV,.of (l.get b))::E) L)(al:aL c E L x (.eq (.pointer (some ⟨p,o,none⟩))):=by exact ai I)
 (ar:L[j]? =some ⟨some p,.ck b os⟩:=by rfl) (aS:o=l.off:=by rfl) (a1:sv os l.off (ag.size γ)=true:=by rfl) (aG:Nat.blt aV c.n=true:=by rfl):ae c ops Q (⟨some aV,.load t x,ty,pos,af,none⟩::rest) E L:=.v (Hg l dx al ar aS I a1) I I aG k
def N9{α:Type}[ag α][Inhabited α]{xs:aa α}{e:bo}{i:Int}{j:Nat}(hk:idx xs.length i=some j)(hu:c.P.underlying t=some (.slice e))(dO:bG c.P e α)(k:ae c ops Q rest ((aV,.ptr (aF xs j))::E) L)
 (al:aL c E L x (.of xs):=by exact ai I) (hy:aL c E L y (.of i):=by first|exact ai I|exact c8 _) (aG:Nat.blt aV c.n=true:=by rfl):
 ae c ops Q (⟨some aV,.indexAddr t x y,ty,pos,af,none⟩::rest) E L:=.v (o0 hu dO al hy (dt hk)) I I aG k
def N8{b e:Bool}{p:Prop}(k:ae c ops Q rest ((aV,.of (b||e))::E) L)(al:aL c E L x (.of b):=by exact ai I)(hy:aL c E L y (.cond p (.of e)):=by exact ai I)(hp:b=false->p:=by exact λh=>h)(aG:Nat.blt aV c.n=true:=by rfl):
 ae c ops Q (⟨some aV,.pick x (.const (.bool true)) y,ty,pos,af,none⟩::rest) E L:=.v (Dx al hy hp) I I aG k
def II{b e:Bool}{p:Prop}(k:ae c ops Q rest ((aV,.of (b&&e))::E) L)(al:aL c E L x (.of b):=by exact ai I)(hy:aL c E L y (.cond p (.of e)):=by exact ai I)(hp:b=true->p:=by exact λh=>h)(aG:Nat.blt aV c.n=true:=by rfl):
 ae c ops Q (⟨some aV,.pick x y (.const (.bool false)),ty,pos,af,none⟩::rest) E L:=.v (xv al hy hp) I I aG k
def kH{τ:J}{j g:Nat}{b want:Bool}(h:b=want->ba c E L o τ)(k:ae c ops Q rest ((aV,.cond (b=want) τ)::E) L)(bu:o.guard=some (j,want):=by rfl)(aD:(ops[j]?).bind (·.dst)=some g:=by rfl)(ao:look E g=some (.of b):=by rfl)
 (hd:o.dst=some aV:=by rfl) (aG:Nat.blt aV c.n=true:=by rfl):ae c ops Q (o::rest) E L:=.g h bu aD ao hd aG k
def o7{σ τ:J}{j g:Nat}{b want:Bool}(h:aL c E L x σ->ba c E L o τ)(k:ae c ops Q rest ((aV,.cond (b=want) τ)::E) L)
 (al:b=want->aL c E L x σ:=by first|exact λhb=>cM I hb|exact λ_=>ai I|exact λ_=>c8 _|exact λ_=>gI _)
 (bu:o.guard=some (j,want):=by rfl) (aD:(ops[j]?).bind (·.dst)=some g:=by rfl) (ao:look E g=some (.of b):=by rfl)
 (hd:o.dst=some aV:=by rfl) (aG:Nat.blt aV c.n=true:=by rfl):ae c ops Q (o::rest) E L:=.g (λhb=>h (al hb)) bu aD ao hd aG k
def DT{σ rI τ:J}{j g:Nat}{b want:Bool}(h:aL c E L x σ->aL c E L y rI->ba c E L o τ)(k:ae c ops Q rest ((aV,.cond (b=want) τ)::E) L)
 (al:b=want->aL c E L x σ:=by first|exact λhb=>cM I hb|exact λ_=>ai I|exact λ_=>c8 _|exact λ_=>gI _)
 (hy:b=want->aL c E L y rI:=by first|exact λhb=>cM I hb|exact λ_=>ai I|exact λ_=>c8 _|exact λ_=>gI _)
 (bu:o.guard=some (j,want):=by rfl) (aD:(ops[j]?).bind (·.dst)=some g:=by rfl) (ao:look E g=some (.of b):=by rfl)
 (hd:o.dst=some aV:=by rfl) (aG:Nat.blt aV c.n=true:=by rfl):ae c ops Q (o::rest) E L:=.g (λhb=>h (al hb) (hy hb)) bu aD ao hd aG k
def rz{α:Type}[ag α]{z:α}(fP:cN c.P t z)(k:∀p,ae c ops Q rest ((aV,.eq (.pointer (some ⟨p,0,none⟩)))::E) (⟨some p,.var z⟩::L))(aG:Nat.blt aV c.n=true:=by rfl):
 ae c ops Q (⟨some aV,.alloc t,ty,pos,af,none⟩::rest) E L:=.alloc fP aG k
def pP{α:Type}[ag α]{z:α}(k:∀p,ae c ops Q rest ((aV,.eq (.pointer (some ⟨p,0,none⟩)))::E) (⟨some p,.var z⟩::L))(al:aL c E L x (.of z):=by first|exact ai I|exact c8 _|exact gI _)(aG:Nat.blt aV c.n=true:=by rfl):
 ae c ops Q (⟨some aV,.box t x,ty,pos,af,none⟩::rest) E L:=.box al aG k
def Wz{p o:Nat}{β γ:Type}[ag β][ag γ]{b:β}{v:γ}(i:Nat)(l:aO β γ)(dx:bG c.P t γ)(k:ae c ops Q rest E (L.set i ⟨some p,.var (l.set b v)⟩))(al:aL c E L x (.eq (.pointer (some ⟨p,o,none⟩))):=by exact ai I)
 (hy:aL c E L y (.of v):=by first|exact ai I|exact c8 _|exact gI _|exact look_nil|exact fJ _) (ar:L[i]? =some ⟨some p,.var b⟩:=by rfl) (aS:o=l.off:=by rfl):
 ae c ops Q (⟨none,.store t x y,ty,pos,af,none⟩::rest) E L:=.store l dx al hy ar aS I k
def DY{p:Nat}{β:Type}[ag β]{b v:β}(i:Nat)(dx:bG c.P t β)(k:ae c ops Q rest E (L.set i ⟨some p,.var v⟩))(al:aL c E L x (.eq (.pointer (some ⟨p,0,none⟩))):=by exact ai I)
 (hy:aL c E L y (.of v):=by first|exact ai I|exact c8 _|exact gI _|exact look_nil|exact fJ _) (ar:L[i]? =some ⟨some p,.var b⟩:=by rfl):
 ae c ops Q (⟨none,.store t x y,ty,pos,af,none⟩::rest) E L:=.store (aO.id β) dx al hy ar I I k
def WA{p o:Nat}{β γ:Type}[ag β][ag γ]{b b':β}{v:γ}(i:Nat)(l:aO β γ)(dx:bG c.P t γ)(k:ae c ops Q rest E (L.set i ⟨some p,.var b'⟩))(al:aL c E L x (.eq (.pointer (some ⟨p,o,none⟩))):=by exact ai I)
 (hy:aL c E L y (.of v):=by first|exact ai I|exact c8 _|exact gI _|exact look_nil|exact fJ _) (ar:L[i]? =some ⟨some p,.var b⟩:=by rfl) (aS:o=l.off:=by rfl) (hb:some (l.set b v)=some b'):
 ae c ops Q (⟨none,.store t x y,ty,pos,af,none⟩::rest) E L:=.store l dx al hy ar aS (dh hb) k
def nE{f:FuncId}{xs:aa bO}{ats:Array bo}{τs:aa J}{ρ:J}(bU:bx c.P f)(h:cn c.P f τs ρ)(k:ae c ops Q rest ((aV,ρ)::E) L)
 (al:gZ c E L xs τs:=by repeat (first|exact trivial|refine⟨ai I,?_⟩|refine⟨c8 _,?_⟩|refine⟨gI _,?_⟩|refine⟨look_nil,?_⟩|refine⟨fJ _,?_⟩)) (aG:Nat.blt aV c.n=true:=by rfl):
 ae c ops Q (⟨some aV,.call ⟨.value (.func f),xs.toArray,ats⟩,ty,pos,af,none⟩::rest) E L:=.v (jT bU h al) I I aG k
def gj{f:FuncId}{xs:aa bO}{ats:Array bo}{τs:aa J}{δ:Type}{ρ:δ->J}{Lo:δ->aa aA}(n:Nat)(bU:bx c.P f)(h:bJ c.P f τs (L.take n) ρ Lo)
 (k:∀q,ae c ops Q rest ((aV,ρ q)::E) (Lo q++L.drop n)) (al:gZ c E L xs τs:=by repeat (first|exact trivial|refine⟨ai I,?_⟩|refine⟨c8 _,?_⟩|refine⟨gI _,?_⟩|refine⟨look_nil,?_⟩|refine⟨mb,?_⟩|refine⟨fJ _,?_⟩)) (aG:Nat.blt aV c.n=true:=by rfl):
 ae c ops Q (⟨some aV,.call ⟨.value (.func f),xs.toArray,ats⟩,ty,pos,af,none⟩::rest) E L:=by
 have e:=fw n L
 have:=ae.pI (ty:=ty) (pos:=pos) (af:=af) (ats:=ats) (xs:=xs) (Lin:=L.take n) (Lr:=L.drop n) (E:=E) (Q:=Q) (ops:=ops) bU h (by rw[e];exact al) aG k
 rwa[e]at this
def iv{α:Type}[ag α]{e bytes cap:Nat}{key:av Nat}{xs ys r:aa α}{z:α}(j:Nat)(hu:c.P.underlying t=some (.slice e))(dO:bG c.P e α)(fP:cN c.P e z)(h:fv bytes xs ys=some r)
 (k:∀rl cap',ae c ops Q rest ((aV,.eq (aZ rl r.length cap'))::E) (L.set j ⟨rl,.row e r cap'⟩)) (x8:(c.P.info? e).map (·.bytes)=some bytes:=by kernel_rfl)
 (hs:aL c E L x (.eq (aZ key xs.length cap)):=by first|exact ai I|exact mb) (ar:L[j]? =some ⟨key,.row e xs cap⟩:=by rfl) (hy:aL c E L y (.of ys):=by exact ai I) (aG:Nat.blt aV c.n=true:=by rfl):
 ae c ops Q (⟨some aV,.call ⟨.builtin .append,#[x,y],#[t,t]⟩,ty,pos,af,none⟩::rest) E L:=.app hu dO fP x8 hs ar hy h aG k
def ot{place:Nat->av (Nat×Nat)}{β:Type}[ag β]{b b':β}{γ:Type}[ag γ]{v:γ}{i:Nat}{r:aa (Nat×bO)}(l:aO β γ)(k:q8 c E L place (l.set b v) r b')
 (hp:place i=some (l.off,ag.size γ):=by rfl) (al:aL c E L x (.of v):=by first|exact ai I|exact c8 _|exact gI _|exact look_nil|exact fJ _):q8 c E L place b ((i,x)::r) b':=.cons l hp al I k
def qA{β:Type}[ag β]{z b:β}{dj:aa (Nat×bO)}{pl:Array (Nat×Nat)}(E7:ff c.P t pl)(fP:cN c.P t z)(v8:β)(aU:q8 c E L (pl[·]?) z dj b)(k:ae c ops Q rest ((aV,.of v8)::E) L)(a1:ag.agg β=true:=by rfl)(hb:b=v8:=by rfl)(aG:Nat.blt aV c.n=true:=by rfl):
 ae c ops Q (⟨some aV,.build t dj.toArray,ty,pos,af,none⟩::rest) E L:=.v ((kt a1 E7 fP aU).rT hb) I I aG k
def Oa{α:Type}[ag α]{e n:Nat}{z:α}{dj:aa (Nat×bO)}(r:aa α)(hu:c.P.underlying t=some (.slice e))(dO:bG c.P e α)(fP:cN c.P e z)(k:ae c ops Q rest ((aV,.of r)::E) L)
 (aU:nw c E L (List.replicate n z) dj r:=by repeat (first|exact nw.nil|refine nw.cons (by simp) (ai I) ?_|refine nw.cons (by simp) (c8 _) ?_|refine nw.cons (by simp) (gI _) ?_|refine nw.cons (by simp) (fJ _) ?_))
 (hs:Nat.beq (ag.size α) 0=false:=by rfl) (pc:Nat.ble (n*ag.size α) 16777216=true:=by rfl) (aG:Nat.blt aV c.n=true:=by rfl):
 ae c ops Q (⟨some aV,.buildSlice t n dj.toArray,ty,pos,af,none⟩::rest) E L:=.v (Db hu dO fP hs pc aU) I I aG k
inductive iF(E:List (Nat×J)):List Nat->List (Nat×J)->Prop
 |nil:iF E [] []
 |cons {t:Nat} {cB:List Nat} {τ:J} {hM:List (Nat×J)}:look E t=some τ->iF E cB hM->iF E (t::cB) ((t,τ)::hM)
def iF.le:∀{cB:aa Nat} {eT:aa (Nat×J)},iF E cB eT->eb E eT
 |_,_,.nil=>.nil
 |_,_,.cons h k=>.same h k.le
def gu{code:Code}{eT:aa (Nat×J)}(cB:aa Nat)(k:ax c Q code eT L)(aK:iF E cB eT:=by repeat (first|exact iF.nil|(apply iF.cons;rfl))):ax c Q code E L:=.le aK.le k
def eA{z:Exit}{E':aa (Nat×J)}{L':aa aA}(n:Nat)(k:aq c Q z E' L')(ar:L.drop n=L':=by rfl)(h:eb E E':=by repeat (first|exact eb.nil|refine eb.same I ?_)):aq c Q z E L:=.meet n ar h k
def lq{σ ε γ δ:Type}{E':σ->γ->aa (Nat×J)}{L':σ->γ->aa aA}{xs:ε->Exit}{dL:ε->δ->aa (Nat×J)}{Lx:ε->δ->aa aA}{s:σ}(g:γ)(n:Nat)(ar:L.drop n=L' s g:=by rfl)
 (h:eb E (E' s g):=by repeat (first|exact eb.nil|refine eb.same I ?_)):aq c (fb c E' L' xs dL Lx (.inl s)) .normal E L:=.TE g n ar h
def kg{σ ε γ δ:Type}{E':σ->γ->aa (Nat×J)}{L':σ->γ->aa aA}{xs:ε->Exit}{dL:ε->δ->aa (Nat×J)}{Lx:ε->δ->aa aA}{e:ε}{z:Exit}(g:δ)(n:Nat)(al:z=xs e:=by rfl)(aG:z≠ .normal:=by simp)(ar:L.drop n=Lx e g:=by rfl)
 (h:eb E (dL e g):=by repeat (first|exact eb.nil|refine eb.same I ?_)):aq c (fb c E' L' xs dL Lx (.inr e)) z E L:=.TF g n al aG ar h
def IK{t:Nat}{p:Nat}{α:Type}[ag α]{v:α}(i:Nat)(dx:bG c.P ty α)(h:look E t=some (.eq (.pointer (some ⟨p,0,none⟩))):=by rfl)(ar:L[i]? =some ⟨some p,.var v⟩:=by rfl):oM c E L (.cell t ty) (.of v):=V0 dx h ar
def pR{fn:Func}{t:Nat}{τ:J}(aC:fn.results= #[.tmp t]:=by rfl)(h:look E t=some τ:=by rfl)(dC:c.ds=[]:=by rfl):aq c (bodyPost c.P fn (sL c τ)) .ret E L:=.V1 aC (Ir h) dC
def ru{fn:Func}{t:Nat}{τ:J}{δ:Type}{ρ:δ->J}{Lo:δ->aa aA}(aV:δ)(hs:(Lo aV).Sublist L:=by repeat (first|exact qT _|refine List.Sublist.cons_cons _ ?_))(aC:fn.results= #[.tmp t]:=by rfl)(h:look E t=some τ:=by rfl)(pU:ρ aV=τ:=by rfl)(dC:c.ds=[]:=by rfl):
 aq c (bodyPost c.P fn (jo c.X c.bL c.iE ρ Lo)) .ret E L:=.dV aV hs aC pU (c9 h) dC
def hf:aa aA->aa (Nat×aA)->aa aA
 |L,[]=>L
 |L,(i,e)::r=>hf (L.set i e) r
inductive rW:List aA->List aA->Prop
 |nil:rW [] []
 |cons {e:aA} {r s:List aA}:rW r s->rW (e::r) (e::s)
def rW.eq:∀{l m:aa aA},rW l m->l=m
 |_,_,.nil=>rfl
 |_,_,.cons h=>by rw[h.eq]
def hx{σ ε γ δ:Type}{body:Code}{N:Nat}{b:σ->av (σ⊕ε)}{s0:σ}{e:ε}{eT:aa (Nat×J)}{eY:aa aA}(ao:eh N b s0=some e)(cB:aa Nat)(u:σ->γ->aa (Nat×J))(ul:σ->γ->aa (Nat×aA))(xs:ε->Exit)
 (rX:ε->δ->aa (Nat×J)) (rJ:ε->δ->aa (Nat×aA)) (g0:γ)
 (q9:∀s r,b s=some r->∀g,ax c (fb c (λs g=>u s g++eT) (λs g=>hf eY (ul s g)) xs (λe d=>rX e d++eT) (λe d=>hf eY (rJ e d)) r) body (u s g++eT) (hf eY (ul s g)))
 (n4:∀g,aq c Q (xs e) (rX e g++eT) (hf eY (rJ e g)))
 (ya:rW L eY:=by repeat (first|exact rW.nil|apply rW.cons))
 (El:iF E cB eT:=by repeat (first|exact iF.nil|(apply iF.cons;rfl))) (aK:eb E (u s0 g0++eT):=by repeat (first|exact eb.nil|refine eb.same I ?_)) (ar:eY=hf eY (ul s0 g0):=by rfl):ax c Q (.loop body) E L:=
 ax.HZ ao (λs g=>u s g++eT) (λs g=>hf eY (ul s g)) xs (λe d=>rX e d++eT) (λe d=>hf eY (rJ e d)) g0 (ya.eq.trans ar) aK q9 n4
def iu{γ:Type}{b:Bool}{y z:Code}{eT:aa (Nat×J)}{eY:aa aA}(cB:aa Nat)(u:γ->aa (Nat×J))(ul:γ->aa (Nat×aA))(nd:∀g,aq c Q .normal (u g++eT) (hf eY (ul g)))
 (bq:(∀g,aq c (dX Q) .normal (u g++eT) (hf eY (ul g)))->b=true->ax c (dX Q) y E eY) (aU:(∀g,aq c (dX Q) .normal (u g++eT) (hf eY (ul g)))->b=false->ax c (dX Q) z E eY)
 (ya:rW L eY:=by repeat (first|exact rW.nil|apply rW.cons))
 (El:iF E cB eT:=by repeat (first|exact iF.nil|(apply iF.cons;rfl))) (ao:aL c E eY x (.of b):=by first|exact ai I|exact gI _):ax c Q (.cond x y z) E L:=by
 cases ya.eq
 exact ax.cj (λg=>u g++eT) (λg=>hf L (ul g)) ao nd bq aU
section
variable{all:aa rS}{w:Nat->Bool}
def hg{τ:J}{hyp:aa aA->Prop}(al:∀L',aL c E L' x τ:=by first|exact λ_=>ai I|exact λ_=>c8 _|exact λ_=>gI _|exact λ_=>fJ _):∀L',hyp L'->jL c ops E L' ⟨some aV,.move x,ty,pos,af,none⟩ τ:=λL' _=>.v (cT (al L')) I
def H1{σ τ:J}{hyp:aa aA->Prop}(h:∀{L'},aL c E L' x σ->ba c E L' o τ)(bu:o.guard=none:=by rfl)(al:∀L',aL c E L' x σ:=by first|exact λ_=>ai I|exact λ_=>c8 _|exact λ_=>gI _|exact λ_=>fJ _):
 ∀L',hyp L'->jL c ops E L' o τ:=λL' _=>.v (h (al L')) bu
def mx{σ rI τ:J}{hyp:aa aA->Prop}(h:∀{L'},aL c E L' x σ->aL c E L' y rI->ba c E L' o τ)(bu:o.guard=none:=by rfl)(al:∀L',aL c E L' x σ:=by first|exact λ_=>ai I|exact λ_=>c8 _|exact λ_=>gI _|exact λ_=>fJ _)
 (hy:∀L',aL c E L' y rI:=by first|exact λ_=>ai I|exact λ_=>c8 _|exact λ_=>gI _|exact λ_=>fJ _):∀L',hyp L'->jL c ops E L' o τ:=λL' _=>.v (h (al L') (hy L')) bu
def k0{p o:Nat}{β γ:Type}[ag β][ag γ]{b:β}(i:Nat)(l:aO β γ)(dx:bG c.P t γ)(al:∀L',aL c E L' x (.eq (.pointer (some ⟨p,o,none⟩))):=by exact λ_=>ai I)(ar:L[i]? =some ⟨some p,.var b⟩:=by rfl)(aS:o=l.off:=by rfl)
 (hu:sE w i 0 all=true:=by first|rfl|kernel_rfl):∀L':aa aA,(∀(j:Nat) (e:aA),L[j]? =some e->sE w j 0 all=true->L'[j]? =some e)->jL c ops E L' ⟨some aV,.load t x,ty,pos,af,none⟩ (.of (l.get b)):=
 λL' yb=>.v (j9 l dx (al L') (yb _ _ ar hu) aS I) I
def sN{p:Nat}{β:Type}[ag β]{b:β}(i:Nat)(dx:bG c.P t β)(al:∀L',aL c E L' x (.eq (.pointer (some ⟨p,0,none⟩))):=by exact λ_=>ai I)(ar:L[i]? =some ⟨some p,.var b⟩:=by rfl)
 (hu:sE w i 0 all=true:=by first|rfl|kernel_rfl):∀L':aa aA,(∀(j:Nat) (e:aA),L[j]? =some e->sE w j 0 all=true->L'[j]? =some e)->jL c ops E L' ⟨some aV,.load t x,ty,pos,af,none⟩ (.of b):=
 λL' yb=>.v (j9 (aO.id β) dx (al L') (yb _ _ ar hu) I I) I
def rB{f:FuncId}{xs:aa bO}{ats:Array bo}{τs:aa J}{ρ:J}{hyp:aa aA->Prop}(bU:bx c.P f)(h:cn c.P f τs ρ)
 (al:∀L',gZ c E L' xs τs:=by intro L';repeat (first|exact trivial|refine⟨ai I,?_⟩|refine⟨c8 _,?_⟩|refine⟨gI _,?_⟩|refine⟨look_nil,?_⟩|refine⟨fJ _,?_⟩)):
 ∀L',hyp L'->jL c ops E L' ⟨some aV,.call ⟨.value (.func f),xs.toArray,ats⟩,ty,pos,af,none⟩ ρ:=λL' _=>.v (jT bU h (al L')) I
def Wy{α:Type}[ag α][Inhabited α]{xs:aa α}{e:bo}{i:Int}{j:Nat}{hyp:aa aA->Prop}(hk:idx xs.length i=some j)(hu:c.P.underlying t=some (.slice e))(dO:bG c.P e α)
 (al:∀L',aL c E L' x (.of xs):=by exact λ_=>ai I) (hy:∀L',aL c E L' y (.of i):=by first|exact λ_=>ai I|exact λ_=>c8 _):
 ∀L',hyp L'->jL c ops E L' ⟨some aV,.indexAddr t x y,ty,pos,af,none⟩ (.ptr (aF xs j)):=λL' _=>.v (o0 hu dO (al L') (hy L') (dt hk)) I
def akJ{s f o:Nat}{β γ:Type}[ag β][ag γ]{b:β}{hyp:aa aA->Prop}(l:aO β γ)(fd:vJ c.P s f o)(al:∀L',aL c E L' x (.ptr b):=by exact λ_=>ai I)(aS:l.off=o:=by rfl):
 ∀L',hyp L'->jL c ops E L' ⟨some aV,.fieldAddr s x f,ty,pos,af,none⟩ (.ptr (l.get b)):=λL' _=>.v (Af l fd (al L') aS I) I
def Xx{α:Type}[ag α]{a b:α}{hyp:aa aA->Prop}(e:some a=some b)(h:∀L',hyp L'->ba c E L' o (.of a))(bu:o.guard=none:=by rfl):∀L',hyp L'->jL c ops E L' o (.of b):=λL' ar=>.v ((h L' ar).rT (dh e)) bu
def eR{τ:J}{j g:Nat}{b want:Bool}{hyp:aa aA->Prop}(h:∀L',hyp L'->b=want->ba c E L' o τ)(bu:o.guard=some (j,want):=by rfl)(aD:(ops[j]?).bind (·.dst)=some g:=by rfl)(ao:look E g=some (.of b):=by rfl):
 ∀L',hyp L'->jL c ops E L' o (.cond (b=want) τ):=λL' ar=>.g (h L' ar) bu aD ao
end
def aM(s:Nat)(up rd:aa Nat)(τ:J):c0:=⟨some s,up,rd,[],λ_=>τ,λ_ _=>⟨none,.dead⟩⟩
section
variable{hs:aa c0}{i:Nat}{up rd:aa Nat}
def pn{τ:J}(al:∀(hd:Nat->Hid) (E':aa (Nat×J)) (L':aa aA),(∀t τ,look (jw hd hs E up) t=some τ->look E' t=some τ)->aL c E' L' x τ:=by first|exact λ_ _ _ aK=>ai (aK _ _ I)|exact λ_ _ _ _=>c8 _|exact λ_ _ _ _=>gI _|exact λ_ _ _ _=>fJ _)
 (aG:Nat.blt aV c.n=true:=by rfl):fS c ops Q hs E L i ⟨some aV,.move x,ty,pos,af,none⟩ (aM aV up rd τ):=iL I I aG λhd E' L' aK _=>cT (al hd E' L' aK)
def po{σ τ:J}(h:∀{E' L'},aL c E' L' x σ->ba c E' L' o τ)(bu:o.guard=none:=by rfl)(hd:o.dst=some aV:=by rfl)
 (al:∀(hd:Nat->Hid) (E':aa (Nat×J)) (L':aa aA),(∀t τ,look (jw hd hs E up) t=some τ->look E' t=some τ)->aL c E' L' x σ:=by first|exact λ_ _ _ aK=>ai (aK _ _ I)|exact λ_ _ _ _=>c8 _|exact λ_ _ _ _=>gI _|exact λ_ _ _ _=>fJ _)
 (aG:Nat.blt aV c.n=true:=by rfl):fS c ops Q hs E L i o (aM aV up rd τ):=iL bu hd aG λhd E' L' aK _=>h (al hd E' L' aK)
def D2{p o:Nat}{β γ:Type}[ag β][ag γ]{b:β}(k:Nat)(l:aO β γ)(dx:bG c.P t γ)
 (al:∀(hd:Nat->Hid) (E':aa (Nat×J)) (L':aa aA),(∀t τ,look (jw hd hs E up) t=some τ->look E' t=some τ)->aL c E' L' x (.eq (.pointer (some ⟨p,o,none⟩))):=by exact λ_ _ _ aK=>ai (aK _ _ I))
 (ar:∀hd:Nat->Hid,(fH (λ_=>true) hd 0 (hs.take i) L)[k]? =some ⟨some p,.var b⟩:=by exact λ_=>rfl) (aC:rd.contains k=true:=by rfl) (aS:o=l.off:=by rfl)
 (aG:Nat.blt aV c.n=true:=by rfl):fS c ops Q hs E L i ⟨some aV,.load t x,ty,pos,af,none⟩ (aM aV up rd (.of (l.get b))):=iL I I aG λhd E' L' aK yb=>j9 l dx (al hd E' L' aK) (yb _ _ (ar hd) aC) aS I
def akP{p:Nat}{β:Type}[ag β]{b:β}(k:Nat)(dx:bG c.P t β)
 (al:∀(hd:Nat->Hid) (E':aa (Nat×J)) (L':aa aA),(∀t τ,look (jw hd hs E up) t=some τ->look E' t=some τ)->aL c E' L' x (.eq (.pointer (some ⟨p,0,none⟩))):=by exact λ_ _ _ aK=>ai (aK _ _ I))
 (ar:∀hd:Nat->Hid,(fH (λ_=>true) hd 0 (hs.take i) L)[k]? =some ⟨some p,.var b⟩:=by exact λ_=>rfl) (aC:rd.contains k=true:=by rfl)
 (aG:Nat.blt aV c.n=true:=by rfl):fS c ops Q hs E L i ⟨some aV,.load t x,ty,pos,af,none⟩ (aM aV up rd (.of b)):=iL I I aG λhd E' L' aK yb=>j9 (aO.id β) dx (al hd E' L' aK) (yb _ _ (ar hd) aC) I I
def pk{τ:J}(h:∀(hd:Nat->Hid) (E':aa (Nat×J)) (L':aa aA),(∀t τ,look (jw hd hs E up) t=some τ->look E' t=some τ)->(∀j e,(fH (λ_=>true) hd 0 (hs.take i) L)[j]? =some e->rd.contains j=true->L'[j]? =some e)->ba c E' L' o τ)
 (bu:o.guard=none:=by rfl) (hd:o.dst=some aV:=by rfl) (aG:Nat.blt aV c.n=true:=by rfl):fS c ops Q hs E L i o (aM aV up rd τ):=iL bu hd aG h
end
end
def G6{F:Fence}{n uw:Nat}{P:Program}{code:Code}{Q:Exit->Act->bc->Prop}{a:Act}{W:bc}(hd:F.depth=none)(h:code.wpIn F n P Q a W):code.wpIn F uw P Q a W:=
 λb k cs oy hb _=>h b k cs oy hb (λd hd'=>by rw[hd]at hd';cases hd')
def dN.is(o:Obj):dN where
 holds _ _ x:=x=o
 nA:=False
 mono _ h:=h
abbrev dN.e8:dN:=.is (.deferred (some []))
def J.ju(f:FuncId)(τs:aa J):J where
 holds A W v:=∃fj:aa bd,v=.func (.func f) #[] fj.toArray∧fK A W τs fj
 mono e h:=let⟨fj,h1,ad⟩:=h; ⟨fj,h1,ad.mono e⟩
def bA.rm{c E L a W}(h:bA c E L a W){i p:Nat}{cp cp':dN}(aw:L[i]? =some ⟨some p,cp⟩){o':Obj}(ak:cp'.holds (ks L++c.bL) W o'):
 bA c E (L.set i ⟨some p,cp'⟩) a (W.putObj p o'):=by
 have fz:ks (L.set i ⟨some p,cp'⟩)=ks L:=HH (cp:=cp') aw
 have hp:p∈ks L:=qh.2 ⟨_,er aw,rfl⟩
 have ha:Ext (ks L++c.bL) W (ks L++c.bL) (W.putObj p o'):=
  ⟨by simp,λk _ a1=>JJ (λe=>a1 (e▸bX.2 (.inl hp))),λ_ h _=>h⟩
 exact
 {defers:=h.defers
  size:=h.size
  env:=λt τ ao=>by rw[fz];exact let⟨v,h1,ad⟩:=h.env t τ ao; ⟨v,h1,τ.mono ha ad⟩
  cW:=⟨h.cW.os,h.cW.tape,h.cW.output,h.cW.drawn,by simpa using h.cW.size,λk hk al=>by
   rw[JJ (λe:k=p=>al (by subst e;exact h.fa _ hp hk))];exact h.cW.block k hk al⟩
  own:=λe he=>by
   rw[fz];obtain⟨j,aD⟩:=mE.1 he;rw[nR]at aD;split at aD
   ·rename_i gD;subst gD;split at aD
    ·simp only[fC]at aD;subst aD;exact⟨_,World.putObj_heap_same (h.lt p hp),cp'.mono ha ak⟩
    cases aD
   rename_i gD;have h1:=h.own e (er aD);unfold aA.ok at *;split at h1
   ·rename_i q hq;obtain⟨o',ox,ch⟩:=h1;have cR:q≠p:=λe'=>gD (MA h.nodup aw aD I (e'▸hq));exact⟨o',by rw[JJ cR];exact ox,dN.mono _ ha ch⟩
   exact h1
  nodup:=by rw[fz];exact h.nodup
  lt:=by rw[fz];simpa using h.lt
  fa:=by rw[fz];exact h.fa
  dK:=by rw[fz];simpa using h.dK}
def De{c:bW}{E:aa (Nat×J)}{L:aa aA}{d:av Tmp}{ty:bo}{pos:String}{af:Array Edge}{g:av (Nat×Bool)}{f:FuncId}{xs:aa bO}{τs:aa J}(al:gZ c E L xs τs):
 ba c E L ⟨d,.makeFunc (.func f) #[] xs.toArray,ty,pos,af,g⟩ (.ju f τs):=.pure λa W s=>
 ⟨.func (.func f) #[] (xs.map a.eval).toArray,by simp[execOp,Instr.makeFunc],_,rfl,al.holds a W s⟩
structure DG(A:List Nat)(W:World)(L:List aA):Prop where
 dK:∀k∈A,k<W.heap.size∧k∉ks L
 nodup:(ks L).Nodup
 lt:∀k∈ks L,k<W.heap.size
 ok:∀e∈L,e.ok (ks L++A) W
def I4(P:Program)(u:bd){α σ ε γ:Type}(τ:α->J)(Ls:σ->γ->aa aA)(Lx:ε->γ->aa aA)(step:α->σ->av (σ⊕ε))(R:aa Nat->bc->Prop):Prop:=
 ∃ l,u=.func (.yield l) #[] #[]∧∀x s r,step x s=some r->∀g A W v,R (ks (Ls s g)++A) W->DG A W (Ls s g)->(τ x).holds (ks (Ls s g)++A) W v->
   YieldAt Fence.wide 8 P l #[v] W (match r with
    | .inl b1=>jo (ks (Ls s g)) A W (λ_:γ=>J.of true) (λg=>Ls b1 g)
    | .inr q=>jo (ks (Ls s g)) A W (λ_:γ=>J.of false) (λg=>Lx q g))
def Lr{σ ε γ:Type}(Ls:σ->γ->aa aA)(Lx:ε->γ->aa aA):σ⊕ε->γ->aa aA
 | .inl s,g=>Ls s g
 | .inr q,g=>Lx q g
section
variable{c:bW}{E:aa (Nat×J)}{L:aa aA}{ops:Array Oper}{Q:Exit->Act->bc->Prop}
variable{d:av Tmp}{ty:bo}{pos:String}{af:Array Edge}{g:av (Nat×Bool)}{x y:bO}{t t2:bo}
def bA.UY{a:Act}{W:bc}(s:bA c E L a W):Ext (c.X++c.bL) c.iE (ks L++c.bL) W:=
 ⟨s.cW.size,λk hk a1=>s.cW.block k hk λal=>a1 (bX.2 (.inl al)),λk hm bS=>by
   rcases bX.1 hm with hm|hm
   ·exact bX.2 (.inl (s.fa k hm bS))
   exact bX.2 (.inr hm)⟩
def bA.Iy{a:Act}{W:bc}{Lin Lr:aa aA}(s:bA c E (Lin++Lr) a W):DG (ks Lr++c.bL) W Lin:=by
 have kd:=s.nodup;rw[ef]at kd;obtain⟨lT,pV,oB⟩:=nS.1 kd;exact
 {dK:=λk hm=>by
   rcases bX.1 hm with hm|hm
   ·exact⟨s.lt k (by rw[ef];exact bX.2 (.inr hm)),λh=>oB k h k hm I⟩
   obtain⟨h1,ad⟩:=s.dK k hm;exact⟨h1,λh=>ad (by rw[ef];exact bX.2 (.inl h))⟩
  nodup:=lT
  lt:=λk hm=>s.lt k (by rw[ef];exact bX.2 (.inl hm))
  ok:=λe he=>aA.sk (s.own e (bX.2 (.inl he))) (.drop λk hm=>by
   rw[ef];simp only[bX]at hm⊢;rcases hm with hm|hm|hm
   ·exact .inl (.inl hm)
   ·exact .inl (.inr hm)
   exact .inr hm) λ_ _=>rfl}
def zT{Lin Lr:aa aA}{A:aa Nat}{W:bc}:Ext (ks (Lin++Lr)++A) W (ks Lin++(ks Lr++A)) W:=.drop λk hm=>by
 rw[ef];simp only[bX]at hm⊢;rcases hm with hm|hm|hm
 ·exact .inl (.inl hm)
 ·exact .inl (.inr hm)
 exact .inr hm
def Ha{Lin Lr:aa aA}{A:aa Nat}{W:bc}:Ext (ks Lin++(ks Lr++A)) W (ks (Lin++Lr)++A) W:=.drop λk hm=>by
 rw[ef]at hm;simp only[bX]at hm⊢;rcases hm with(hm|hm)|hm
 ·exact .inl hm
 ·exact .inr (.inl hm)
 exact .inr (.inr hm)
def ae.yield{rest:aa Oper}{aV ux:Nat}{ats:Array bo}{u:bd}{α σ ε γ:Type}{τ:α->J}{Ls:σ->γ->aa aA}{Lx:ε->γ->aa aA}{step:α->σ->av (σ⊕ε)}{Lin:aa aA}{x:bO}{v:α}{s:σ}{gg:γ}{r:σ⊕ε}
 (ak:c.rd=none) (hy:I4 c.P u τ Ls Lx step (λcg W'=>Ext (c.X++c.bL) c.iE cg W')) (aU:look E ux=some (.eq u)) (al:aL c E (Lin++Ls s gg) x (τ v)) (aC:step v s=some r) (aG:Nat.blt aV c.n=true)
 (aW:∀b1,r=.inl b1->∀dQ,ae c ops Q rest ((aV,.of true)::E) (Lin++Ls b1 dQ)) (bP:∀q,r=.inr q->∀dQ,ae c ops Q rest ((aV,.of false)::E) (Lin++Lx q dQ)):
 ae c ops Q (⟨some aV,.call ⟨.value (.tmp ux),#[x],ats⟩,ty,pos,af,none⟩::rest) E (Lin++Ls s gg):=λa W st=>by
 obtain⟨l,rfl,hy⟩:=hy
 obtain⟨Pf,h1,ad⟩:=st.env ux _ aU
 have hu:Pf=.func (.yield l) #[] #[]:=ad
 subst hu
 have rK:bA c E (Ls s gg++Lin) a W:=st.perm mF
 have a7:=al a W st
 have ug:(τ v).holds (ks (Ls s gg)++(ks Lin++c.bL)) W (a.eval x):=(τ v).mono (.drop λk hm=>by
  rw[ef];simp only[bX]at hm⊢;rcases hm with hm|hm|hm
  ·exact .inl (.inr hm)
  ·exact .inl (.inl hm)
  exact .inr hm) a7
 obtain⟨fn,tmps,assign,body,iM,jd⟩:=hy v s r aC gg (ks Lin++c.bL) W (a.eval x) (rK.UY.trans zT) rK.Iy ug
 have Nj:(execOp a.eval ⟨some aV,.call ⟨.value (.tmp ux),#[x],ats⟩,ty,pos,af,none⟩).run c.P W=.ok (.round l fn tmps assign body) W:=by
  rw[<-iM];simp[execOp,resolve,Deferred.ofValue,Act.eval,h1,invoke,df,Sem.run_pure,Result.andThen]
 refine wpListIn_plain I λK pt=>?_
 refine⟨λ_ _=>trivial,?_⟩
 rw[Kx _ _ _ (λ_ h=>by cases h),Nj,Oper.uponIn_round]
 refine⟨λh=>by simp at h,?_⟩
 have Oo:RoundIn c.F (9-1) c.P l fn tmps assign body W _:=jd
 refine Oo.mono λe W' he=>?_
 cases r with
 | inl b1=>
   obtain⟨w,dQ,rfl,rL,ay,aN,a6,bh⟩:=he
   obtain rfl:=of_bool.1 bh
   refine pt _ _ (aW b1 I dQ _ _ ?_)
   exact(((rK.after rL ay aN a6).perm mF).put (by simpa using aG) (of_bool.2 I))
 | inr q=>
   obtain⟨w,dQ,rfl,rL,ay,aN,a6,bh⟩:=he
   obtain rfl:=of_bool.1 bh
   refine pt _ _ (bP q I dQ _ _ ?_)
   exact(((rK.after rL ay aN a6).perm mF).put (by simpa using aG) (of_bool.2 I))
def ae.ep{l:aa Oper}{L2:aa aA}(h:L=L2)(k:ae c ops Q l E L2):ae c ops Q l E L:=by subst h;exact k
def ae.cases{l:aa Oper}(b:Bool)(h1:b=true->ae c ops Q l E L)(ad:b=false->ae c ops Q l E L):ae c ops Q l E L:=by
 cases b
 ·exact ad I
 exact h1 I
def ax.Dc{x:bO}{b:Bool}{y z:Code}(ao:aL c E L x (.of b))(hb:b=true)(k:ax c Q y E L):ax c Q (.cond x y z) E L:=.cond ao (λ_=>k) λh=>by rw[hb]at h;cases h
def ax.tH{x:bO}{b:Bool}{y z:Code}(ao:aL c E L x (.of b))(hb:b=false)(k:ax c Q z E L):ax c Q (.cond x y z) E L:=.cond ao (λh=>by rw[hb]at h;cases h) λ_=>k
def C7:Code->Exit
 | .ret=>.ret
 | .exit id=>.exit id
 | .goto t=>.goto t
 |_=>.normal
def xr:Code->Bool
 | .ret| .exit _| .goto _=>true
 |_=>false
def Jo{σ ε γ:Type}(c:bW)(cc:ε->Code)(l D:Nat)(rec:Loop)(Ls:σ->γ->aa aA)(Lx:ε->γ->aa aA):σ⊕ε->Exit->Act->bc->Prop
 | .inl b1,x,a,W=>x=.normal∧∃g,bA c [] (⟨some l,.is (.loop rec)⟩::⟨some D,.e8⟩::Ls b1 g) a W
 | .inr q,x,a,W=>xr (cc q)=true∧x=C7 (cc q)∧∃g,bA c [] (⟨some l,.is (.loop rec)⟩::⟨some D,.e8⟩::Lx q g) a W
def Jp(c:bW)(l:Nat)(body:Code)(Q:Exit->Act->bc->Prop)(a:Act)(W:bc):Prop:=
 ∃px,(Instr.beginRound l).run c.P W=.ok () px∧c.wp body Q a px
def aq.begin{l:Nat}{body:Code}{rR:Exit->Act->bc->Prop}(i:Nat){r:Loop}(ar:L[i]? =some ⟨some l,.is (.loop r)⟩)(aC:r.state=.ready)
 (k:ax c Q body E (L.set i ⟨some l,.is (.loop {r with state:=.busy})⟩)):aq c (Exit.then (Jp c l body Q) rR) .normal E L:=λa W s=>by
 obtain⟨o,h1,ad⟩:=s.own _ (er ar)
 have k2:o=.loop r:=ad
 subst k2
 exact⟨_,run_beginRound h1 aC,k _ _ (s.rm ar I)⟩
def aq.WD{σ ε γ:Type}{cc:ε->Code}{l D:Nat}{rec:Loop}{Ls:σ->γ->aa aA}{Lx:ε->γ->aa aA}{b1:σ}(g:γ)(n:Nat)(ar:L.drop n=⟨some l,.is (.loop rec)⟩::⟨some D,.e8⟩::Ls b1 g):
 aq c (Jo c cc l D rec Ls Lx (.inl b1)) .normal E L:=λa W s=>⟨rfl,g,by rw[<-ar];exact(s.qm n).less (λt τ h=>by simp[look]at h)⟩
def aq.aea{σ ε γ:Type}{cc:ε->Code}{l D:Nat}{rec:Loop}{Ls:σ->γ->aa aA}{Lx:ε->γ->aa aA}{q:ε}{x:Exit}(g:γ)(n:Nat)(aD:xr (cc q)=true)(al:x=C7 (cc q))(ar:L.drop n=⟨some l,.is (.loop rec)⟩::⟨some D,.e8⟩::Lx q g):
 aq c (Jo c cc l D rec Ls Lx (.inr q)) x E L:=λa W s=>⟨aD,al,g,by rw[<-ar];exact(s.qm n).less (λt τ h=>by simp[look]at h)⟩
def ax.jump{j:Code}(aD:xr j=true)(k:aq c Q (C7 j) E L):ax c Q j E L:=by
 cases j <;> simp only[xr]at aD <;> first|cases aD|skip
 all_goals first|exact .exit k|exact .ret k|exact λa W s=>wpIn_goto (k a W s)
def Q8{P:Program}{l:Nat}{R:Ending->bc->Prop}{j:Code}{a:Act}{W W':bc}{v:bd}(aD:xr j=true)(bh:(Instr.endRound l (some j)).run P W=.ok v W')(jd:R (.returned v) W'):
 roundPost P l R (C7 j) a W:=by
 cases j <;> simp only[xr]at aD <;> first|exact⟨_,_,bh,jd⟩|cases aD
def bA.mark{a:Act}{W:bc}(s:bA c E L a W)(D:Nat):bA {c with ds:=rk D::c.ds} E L {a with defers:=rk D::a.defers} W:=
 {defers:=by simp[s.defers],size:=s.size,env:=s.env,cW:=s.cW,own:=s.own,nodup:=s.nodup,lt:=s.lt,fa:=s.fa,dK:=s.dK}
def Oq(P:Program)(f:FuncId)(τs:aa J)(Lin:aa aA){α σ ε γ:Type}(τ:α->J)(run:(α->σ->av (σ⊕ε))->σ->av (σ⊕ε))(Ls:σ->γ->aa aA)(Lx:ε->γ->aa aA):Prop:=
 ∀ (step:α->σ->av (σ⊕ε)) (s0:σ) (g0:γ) (r:σ⊕ε),run step s0=some r->
   ∀ (A:aa Nat) (W:bc) (u:bd) (vs:aa bd),DG A W (Lin++Ls s0 g0)->fK (ks (Lin++Ls s0 g0)++A) W τs vs->
     I4 P u τ Ls Lx step (λcg W'=>Ext (ks (Lin++Ls s0 g0)++A) W cg W')->
     Calls P f (u::vs).toArray W (jo (ks (Lin++Ls s0 g0)) A W (λ_:γ=>.bR []) (λg=>Lin++Lr Ls Lx r g))
def abH{gt p:Nat}{assign body:Code}{f:FuncId}{pO:aa J}{Lin:aa aA}{α σ ε γ:Type}{τ:α->J}{run:(α->σ->av (σ⊕ε))->σ->av (σ⊕ε)}
 {Ls:σ->γ->aa aA} {Lx:ε->γ->aa aA} {step:α->σ->av (σ⊕ε)} {s0:σ} {g0:γ} {r:σ⊕ε} (cc:ε->Code)
 (ak:c.rd=none) (bU:bx c.P f) (bu:look E gt=some (.ju f pO)) (nM:∀az a8 pe,Oq c.P f pO Lin τ run (λs g=>az::a8::Ls s g) pe) (aC:run step s0=some r) (ar:L=Lin++Ls s0 g0) (hp:Nat.blt p c.n=true)
 (su:∀x s r,step x s=some r->∀g (o8:bc) (pr o9:aa Nat) (l D:Nat) (rec:Loop),rec.state=.ready->
  ax ⟨c.P,c.n,o8,pr,o9,some l,[]⟩ (Exit.then (Jp ⟨c.P,c.n,o8,pr,o9,some l,[]⟩ l body (Jo ⟨c.P,c.n,o8,pr,o9,some l,[]⟩ cc l D {rec with state:=.busy} Ls Lx r)) (λ_ _ _=>False)) assign ((p,τ x)::E) (⟨some l,.is (.loop rec)⟩::⟨some D,.e8⟩::Ls s g))
 (ra:∀b1,r=.inl b1->∀g D,aq {c with ds:=rk D::c.ds} Q .normal E (⟨some D,.e8⟩::(Lin++Ls b1 g)))
 (Di:∀q,r=.inr q->∀g D,ax {c with ds:=rk D::c.ds} Q (cc q) E (⟨some D,.e8⟩::(Lin++Lx q g))):
 ax c Q (.rangeFunc (.tmp gt) #[p] assign body) E L:=λa W st=>by
 subst ar
 refine wpIn_rangeFunc λfn I5=>?_
 show ∃l mark xP d agR Bd args ajl,(Instr.enterLoop fn a.tmps #[p] assign body c.rd).run c.P W=_∧_
 rw[ak]
 obtain⟨rec,kW⟩:∃rec:Loop,rec= {state:=.ready,pending:=none,fn,tmps:=a.tmps,params:= #[p],assign,body,defers:=W.heap.size}:=⟨_,rfl⟩
 obtain⟨v,Em,fj,yc,ak3⟩:=st.env gt _ bu
 obtain⟨gR,En⟩:∃gR,(W.alloc (.deferred (some []))).alloc (.loop rec)=gR:=⟨_,rfl⟩
 have s1:=(st.alloc (o:=.deferred (some [])) (cp:=.e8) I).alloc (o:=.loop rec) (cp:=.is (.loop rec)) I
 rw[En,FW]at s1
 obtain⟨D,kJ⟩:∃D,D=W.heap.size:=⟨_,rfl⟩
 obtain⟨l,ao⟩:∃l,l=W.heap.size+1:=⟨_,rfl⟩
 have Eo:=run_enterLoop_outer (P:=c.P) (w:=W) fn a.tmps #[p] assign body
 rw[<-kW,En,<-ao,<-kJ]at Eo
 rw[<-ao,<-kJ]at s1
 obtain⟨lU,rM⟩:∃lU:σ->γ->aa aA,lU=λs g=>⟨some l,.is (.loop rec)⟩::⟨some D,.e8⟩::Ls s g:=⟨_,rfl⟩
 obtain⟨pe,Ep⟩:∃pe:ε->γ->aa aA,pe=λq g=>⟨some l,.is (.loop {rec with state:=.done,pending:=some (cc q)})⟩::⟨some D,.e8⟩::Lx q g:=⟨_,rfl⟩
 have s2:bA c E (Lin++lU s0 g0) a gR:=s1.perm (by
  rw[rM];exact(p6.trans (p6.cons _)).symm)
 have Ot:fK (ks (Lin++lU s0 g0)++c.bL) gR pO fj:=by
  have h1:(J.ju f pO).holds (ks (Lin++lU s0 g0)++c.bL) gR v:=by
   obtain⟨Bc,h1,ad⟩:=s2.env gt _ bu;rw[Em]at h1;cases h1;exact ad
  obtain⟨Ou,az,a8⟩:=h1;rw[yc]at az;have:Ou=fj:=by injection az with _ _ az;injection az with az;exact az.symm
  rw[<-this];exact a8
 have Er:bA c E ((Lin++lU s0 g0)++[]) a gR:=by rw[l8];exact s2
 have Dj:=Er.Iy
 simp only[ks,List.nil_append]at Dj
 have NW:I4 c.P (.func (.yield l) #[] #[]) τ lU pe step (λcg W'=>Ext (ks (Lin++lU s0 g0)++c.bL) gR cg W'):=by
  refine⟨l,rfl,λx s l1 hs g A px v2 ha hle a7=>?_⟩;have DH:=hle;rw[rM]at DH;obtain⟨o,cO,ez⟩:=DH.ok ⟨some l,.is (.loop rec)⟩ (by simp);have rn:o=.loop rec:=ez;subst rn;have hy:=run_yield (P:=c.P) (args:= #[v2]) cO (by rw[kW];rfl);refine⟨_,_,_,_,hy,roundIn_of_wpIn q5 ?_⟩;have az:rec.assign=assign:=by rw[kW]
  have a8:rec.body=body:=by rw[kW]
  have dw:rec.params= #[p]:=by rw[kW]
  have h2:rec.tmps=a.tmps:=by rw[kW]
  rw[az,a8,dw,h2];refine G6 (n:=9) I ?_;have Nk:((#[p]:Array Tmp).zip #[v2]).foldl (λtmps (t,a)=>tmps.setIfInBounds t a) a.tmps=a.tmps.setIfInBounds p v2:=by simp
  rw[Nk];subst rM Ep;refine wpIn_mono ((su x s l1 hs g px (ks (⟨some l,.is (.loop rec)⟩::⟨some D,.e8⟩::Ls s g)) A l D rec (by rw[kW])) {tmps:=a.tmps.setIfInBounds p v2,defers:=[]} px ?_) ?_
  ·have lV:p<c.n:=by simpa using hp
   exact
   {defers:=rfl
    size:=by simp[s2.size]
    env:=λt rF eI=>by
     simp only[look]at eI;by_cases e:Nat.beq p t=true
     ·rw[e]at eI;simp only[cond_true,fC]at eI;subst eI;have:=eO.1 e;subst this;exact⟨v2,by simp[s2.size,lV],a7⟩
     simp only[kN]at e;rw[e]at eI;simp only[cond_false]at eI;obtain⟨u,h1,ad⟩:=s2.env t rF eI;have cR:p≠t:=λh=>by rw[eO.2 h]at e;cases e
     exact⟨u,by rw[JA cR];exact h1,rF.mono ha ad⟩
    cW:=.refl _ _
    own:=hle.ok
    nodup:=hle.nodup
    lt:=hle.lt
    fa:=λk hk _=>hk
    dK:=hle.dK}
  intro e a3 aml hq;cases e with
  | normal=>
    obtain⟨Pg,Ov,hb⟩:=hq
    refine⟨Pg,Ov,G6 (n:=9) I (wpIn_mono hb ?_)⟩
    intro e a5 Fc I6
    have fin:∀(jump:av Code) {Lr:aa aA},bA ⟨c.P,c.n,px,ks (⟨some l,.is (.loop rec)⟩::⟨some D,.e8⟩::Ls s g),A,some l,[]⟩ [] (⟨some l,.is (.loop {rec with state:=.busy})⟩::⟨some D,.e8⟩::Lr) a5 Fc->
     ∃pY,(Instr.endRound l jump).run c.P Fc=.ok (.bool jump.isNone) pY∧bA ⟨c.P,c.n,px,ks (⟨some l,.is (.loop rec)⟩::⟨some D,.e8⟩::Ls s g),A,some l,[]⟩ [] (⟨some l,.is (.loop {rec with state:=if jump.isNone then .ready else .done,pending:=jump})⟩::⟨some D,.e8⟩::Lr) a5 pY:=λjump Lr pZ=>by
     obtain⟨o,h1,ad⟩:=pZ.own ⟨some l,.is (.loop {rec with state:=.busy})⟩ (by simp)
     have k2:o=.loop {rec with state:=.busy}:=ad
     subst k2
     exact⟨_,run_endRound jump h1,pZ.rm (i:=0) I I⟩
    cases l1 with
    | inl b1=>
      obtain⟨rfl,dQ,pZ⟩:=I6
      obtain⟨pY,bh,uy⟩:=fin none pZ
      refine⟨_,pY,bh,?_⟩
      have yd:({rec with state:=if (none:av Code).isNone then .ready else .done,pending:=none}:Loop)=rec:=by rw[kW];rfl
      rw[yd]at uy
      exact uy.ends (ρ:=λ_:γ=>J.of true) (Lo:=λg=>⟨some l,.is (.loop rec)⟩::⟨some D,.e8⟩::Ls b1 g) dQ (wC _) (of_bool.2 I)
    | inr q=>
      obtain⟨aD,rfl,dQ,pZ⟩:=I6
      obtain⟨pY,bh,uy⟩:=fin (some (cc q)) pZ
      have key:jo (ks (⟨some l,.is (.loop rec)⟩::⟨some D,.e8⟩::Ls s g)) A px (λ_:γ=>J.of false) (λg=>⟨some l,.is (.loop {rec with state:=.done,pending:=some (cc q)})⟩::⟨some D,.e8⟩::Lx q g) (.returned (.bool false)) pY:=
       uy.ends (ρ:=λ_:γ=>J.of false) (Lo:=λg=>⟨some l,.is (.loop {rec with state:=.done,pending:=some (cc q)})⟩::⟨some D,.e8⟩::Lx q g) dQ (wC _) (of_bool.2 I)
      exact Q8 aD bh key
  |exit id=>exact hq.elim
  |goto t=>exact hq.elim
  |ret=>exact hq.elim
  |panic E5=>exact hq.elim
  |outgrown=>exact hq.elim
 have ak4:Oq c.P f pO Lin τ run lU pe:=by rw[rM];exact nM _ _ pe
 have xC:=ak4 step s0 g0 r aC c.bL gR (.func (.yield l) #[] #[]) fj Dj Ot NW
 have lv:a.eval (.tmp gt)=.func (.func f) #[] fj.toArray:=by simp[Act.eval,Em,yc]
 refine⟨l,[rk D],gR,{target:=.fn (.func f) fj.toArray,args:= #[.func (.yield l) #[] #[]]},gR,f,#[.func (.yield l) #[] #[]]++fj.toArray,gR,Eo,?_,λ_ _=>trivial,?_,λh=>by simp at h,?_⟩
 ·simp only[resolve,lv]
  simp[go_sem]
 ·simp[invoke,go_sem,bU.run]
 refine CallsIn.L3 ?_
 have Nl:(#[.func (.yield l) #[] #[]]++fj.toArray:Array bd)=(.func (.yield l) #[] #[]::fj).toArray:=by simp
 rw[Nl]
 refine xC.mono λe Ph ⟨amm,dQ,he,aU,ay,aN,a6,bh⟩=>?_
 subst he
 have p0:=Er.after aU ay (by simpa[ks]using aN) (by simpa[ks]using a6)
 rw[l8]at p0
 cases r with
 | inl b1=>
   simp only[Lr]at p0
   subst rM
   have Fe:bA c E (⟨some l,.is (.loop rec)⟩::⟨some D,.e8⟩::(Lin++Ls b1 dQ)) a Ph:=p0.perm (by
    exact p6.trans (p6.cons _))
   obtain⟨o,cO,ez⟩:=Fe.own ⟨some l,.is (.loop rec)⟩ (by simp)
   have rn:o=.loop rec:=ez
   subst rn
   have o5:=GF (P:=c.P) cO (by rw[kW];simp)
   have lV:rec.pending=none:=by rw[kW]
   rw[lV]at o5
   refine⟨none,_,o5,?_⟩
   have uz:=(Fe.rm (i:=0) (cp':=.is (.loop {rec with state:=.exhausted})) (o':=.loop {rec with state:=.exhausted}) I I).qm 1
   rw[lV]at uz
   exact ra b1 I dQ D _ _ (uz.mark D)
 | inr q=>
   simp only[Lr]at p0
   subst Ep
   have Fe:bA c E (⟨some l,.is (.loop {rec with state:=.done,pending:=some (cc q)})⟩::⟨some D,.e8⟩::(Lin++Lx q dQ)) a Ph:=p0.perm (by
    exact p6.trans (p6.cons _))
   obtain⟨o,cO,ez⟩:=Fe.own ⟨some l,.is (.loop {rec with state:=.done,pending:=some (cc q)})⟩ (by simp)
   have rn:o=.loop {rec with state:=.done,pending:=some (cc q)}:=ez
   subst rn
   have o5:=GF (P:=c.P) cO (by simp)
   refine⟨some (cc q),_,o5,?_⟩
   have uz:=(Fe.rm (i:=0) (cp':=.is (.loop {rec with state:=.exhausted,pending:=some (cc q)})) (o':=.loop {rec with state:=.exhausted,pending:=some (cc q)}) I I).qm 1
   exact Di q I dQ D _ _ (uz.mark D)
def aaA{P:Program}{fn:Func}{R:Ending->bc->Prop}{a:Act}{W:bc}(h:bodyPost P fn R .ret a W):bodyPostM Fence.wide 9 P fn R .ret a W:=by
 obtain⟨h1,v,ad,ay⟩:=h;show LeavesInM Fence.wide 9 P fn a.tmps R a.defers .returning W;rw[h1];exact⟨v,ad,ay⟩
def aq.kc{P:Program}{fn:Func}{R:Ending->bc->Prop}(k:aq c (bodyPost P fn R) .ret E L):aq c (bodyPost P fn R) .normal E L:=λa W s=>k a W s
def aq.Dy{fn:Func}{R:Ending->bc->Prop}(k:aq c (bodyPost c.P fn R) .ret E L):aq c (bodyPostM Fence.wide 9 c.P fn R) .ret E L:=λa W s=>aaA (k a W s)
def aq.It{fn:Func}{R:Ending->bc->Prop}{D:Nat}(i:Nat)(ar:L[i]? =some ⟨some D,.e8⟩)(dC:c.ds=[rk D])(k:aq {c with ds:=[]} (bodyPost c.P fn R) .ret E (L.set i ⟨some D,.is (.deferred none)⟩)):
 aq c (bodyPostM Fence.wide 9 c.P fn R) .ret E L:=λa W s=>by
 obtain⟨o,h1,ad⟩:=s.own _ (er ar)
 have k2:o=.deferred (some []):=ad
 subst k2
 have s2:=s.rm ar (cp':=.is (.deferred none)) (o':=.deferred none) I
 have Pj:bA {c with ds:=[]} E (L.set i ⟨some D,.is (.deferred none)⟩) {a with defers:=[]} (W.putObj D (.deferred none)):=
  {defers:=rfl,size:=s2.size,env:=s2.env,cW:=s2.cW,own:=s2.own,nodup:=s2.nodup,lt:=s2.lt,fa:=s2.fa,dK:=s2.dK}
 obtain⟨_,v,ay,aN⟩:=k _ _ Pj
 show LeavesInM Fence.wide 9 c.P fn a.tmps R a.defers .returning W
 rw[s.defers,dC]
 exact⟨by simp,.inl ⟨D,_,rfl,run_takeDeferred h1,v,ay,aN⟩⟩
end
def cn.amH{P:Program}{f:FuncId}{fn:Func}{code:Code}{n:Nat}{τs:aa J}{ρ:J}(aU:P.funcs[f]? =some fn)(hb:fn.body=some code)(aG:fn.ntmps=n)(hlen:Nat.ble τs.length n=true)
 (h:∀W A,ax ⟨P,n,W,[],A,none,[]⟩ (bodyPostM Fence.wide 9 P fn λe W'=> ∃v,e=.returned v∧Fr [] W W'∧ρ.holds A W' v) code (params 0 τs) []):cn P f τs ρ:=by
 intro A W vs eo a7
 refine(callsIn_wide (n:=9)).1 (callsIn_of_wp_marks aU hb q5 (h W A _ _ ?_))
 have ao:=a7.length
 have hle:τs.length<=n:=ni hlen
 exact
 {defers:=rfl
  size:=by simp[aG,ao];omega
  env:=λt τ jG=>by
   obtain⟨_,v,ad,ay⟩:=w4 a7 0 t τ jG;refine⟨v,?_,ay⟩;have bS:t<vs.length:=(fY.1 ad).1;rw[tb (by simpa using bS)];simpa using ad
  cW:=.refl _ _
  own:=by simp
  nodup:=by simp[ks]
  lt:=by simp[ks]
  fa:=by simp[ks]
  dK:=λk hk=>⟨eo k hk,by simp[ks]⟩}
def bJ.ofM{P:Program}{f:FuncId}{fn:Func}{code:Code}{n:Nat}{τs:aa J}{Lin:aa aA}{δ:Type}{ρ:δ->J}{Lo:δ->aa aA}(aU:P.funcs[f]? =some fn)(hb:fn.body=some code)(aG:fn.ntmps=n)(hlen:Nat.ble τs.length n=true)
 (h:∀W A,ax ⟨P,n,W,ks Lin,A,none,[]⟩ (bodyPostM Fence.wide 9 P fn (jo (ks Lin) A W ρ Lo)) code (params 0 τs) Lin):bJ P f τs Lin ρ Lo:=by
 intro A W vs eo jv bS gN a7
 refine(callsIn_wide (n:=9)).1 (callsIn_of_wp_marks aU hb q5 (h W A _ _ ?_))
 have ao:=a7.length
 have hle:τs.length<=n:=ni hlen
 exact
 {defers:=rfl
  size:=by simp[aG,ao];omega
  env:=λt τ jG=>by
   obtain⟨_,v,ad,ay⟩:=w4 a7 0 t τ jG;refine⟨v,?_,ay⟩;have bS:t<vs.length:=(fY.1 ad).1;rw[tb (by simpa using bS)];simpa using ad
  cW:=.refl _ _
  own:=gN
  nodup:=jv
  lt:=bS
  fa:=λk hk _=>hk
  dK:=eo}
def Lt{τ σ:J}(h:τ.Flat)(k:σ.Flat):(J.bR [τ,σ]).Flat:=λA W cg W' v ⟨vs,h1,ad⟩=>by
 refine⟨vs,h1,?_⟩;generalize vs.toList=l at ad;cases ad with
 | cons a r=>cases r with
   |cons b r=>cases r;exact .cons (h _ _ _ _ _ a) (.cons (k _ _ _ _ _ b) .nil)
section
variable{c:bW}{E:aa (Nat×J)}{L:aa aA}{ops:Array Oper}{Q:Exit->Act->bc->Prop}
variable{d:av Tmp}{ty:bo}{pos:String}{af:Array Edge}{g:av (Nat×Bool)}{x y:bO}{t t2:bo}
def ba.via{o:Oper}{τ:J}{E':aa (Nat×J)}{L':aa aA}(aU:τ.Flat)(hs:∀a W,bA c E L a W->bA c E' L' a W)(h:ba c E' L' o τ):ba c E L o τ:=λa W st=>by
 have:=h a W (hs a W st);unfold gz at this⊢;exact tk (λgQ W' ⟨v,h1,ad,ay⟩=>⟨v,h1,ad,aU _ _ _ _ _ ay⟩) this
def bA.tell{a:Act}{W:bc}(s:bA c E L a W){fq:Nat}{σ τ:J}(ao:look E fq=some σ)(h:∀v,σ.holds (ks L++c.bL) W v->τ.holds (ks L++c.bL) W v):bA c ((fq,τ)::E) L a W:=by
 refine {s with env:=λt rF eI=>?_};simp only[look]at eI;by_cases e:Nat.beq fq t=true
 ·rw[e]at eI;simp only[cond_true,fC]at eI;subst eI;have:=eO.1 e;subst this;obtain⟨v,h1,ad⟩:=s.env fq _ ao;exact⟨v,h1,h v ad⟩
 simp only[kN]at e;rw[e]at eI;exact s.env t rF eI
def bA.UZ{a:Act}{W:bc}(s:bA c E L a W){i p:Nat}{α:Type}[ag α]{z:α}(ar:L[i]? =some ⟨some p,.var z⟩):
 (J.ptr z).holds (ks (L.set i ⟨none,.dead⟩)++c.bL) W (.pointer (some ⟨p,0,none⟩)):=by
 obtain⟨o,eH,cs,T,rfl,aC⟩:=s.own _ (er ar)
 have hlen:cs.toList.length=ag.size α:=ag.len aC
 refine⟨p,0,cs,T,(0,0),rfl,s.CR ar,eH,by simp at hlen;omega,?_⟩
 rw[th,<-hlen,l7]
 have mn:=zs (L:=L) (i:=i) (cp:=.dead)
 exact ag.mono (.drop λk hm=>by
  rcases bX.1 hm with hm|hm
  ·exact bX.2 (.inl (mn.subset hm))
  exact bX.2 (.inr hm)) aC
abbrev Es(f p:Nat):bd:=.func (.func f) #[.pointer (some ⟨p,0,none⟩)] #[]
def agq{f p:Nat}(al:aL c E L x (.eq (.pointer (some ⟨p,0,none⟩)))):ba c E L ⟨d,.makeFunc (.func f) #[x] #[],ty,pos,af,g⟩ (.eq (Es f p)):=.pure λa W s=>by
 have h:=al a W s;refine⟨_,?_,rfl⟩;have cC:a.eval x=.pointer (some ⟨p,0,none⟩):=h;simp[execOp,Instr.makeFunc,cC,Es]
def ads{f p:Nat}{α β γ δ:Type}[ag α][ag β][ag γ][ag δ]{z:δ}{F:α->β->av γ}{P:Program}(bU:bx P f)(h:∀x y r,F x y=some r->cn P f [.ptr z,.of x,.of y] (.of r)){A:aa Nat}{W:bc}
 (hp:(J.ptr z).holds A W (.pointer (some ⟨p,0,none⟩))):(J.xS P F).holds A W (Es f p):=
 ⟨f,_,#[],rfl,bU,λcg W' e eo x y r my rU kp a7 yc=>by simpa using h x y r kp cg W' [_,my,rU] eo (.cons (J.mono _ e hp) (.cons a7 (.cons yc .nil)))⟩
def ba.agp{o:Oper}{τ σ:J}{p:Nat}{α:Type}[ag α]{z:α}(i fq:Nat)(ao:look E fq=some σ)(a7:∀A W v,σ.holds A W v->v=.pointer (some ⟨p,0,none⟩))(ar:L[i]? =some ⟨some p,.var z⟩)(aU:τ.Flat)
 (h:ba c ((fq,.ptr z)::E) (L.set i ⟨none,.dead⟩) o τ):ba c E L o τ:=
 .via aU (λa W s=>(s.kill i).tell (σ:=σ) ao (λv ch=>by rw[a7 _ _ _ ch];exact s.UZ ar)) h
def ba.aed{o:Oper}{τ:J}{p f:Nat}{α β γ δ:Type}[ag α][ag β][ag γ][ag δ]{z:δ}{F:α->β->av γ}(i fq:Nat)(ao:look E fq=some (.eq (Es f p)))(ar:L[i]? =some ⟨some p,.var z⟩)(bU:bx c.P f)
 (kp:∀x y r,F x y=some r->cn c.P f [.ptr z,.of x,.of y] (.of r)) (aU:τ.Flat) (h:ba c ((fq,.xS c.P F)::E) (L.set i ⟨none,.dead⟩) o τ):ba c E L o τ:=
 .via aU (λa W s=>(s.kill i).tell ao (λv ch=>by have ak5:v=Es f p:=ch;rw[ak5];exact ads bU kp (s.UZ ar))) h
def ba.ago{o:Oper}{τ:J}{p cap T:Nat}{key:av Nat}{β γ:Type}[ag β][ag γ]{b b':β}{xs:aa γ}{os os':aa (Nat×bd)}(l:aO β (aa γ))(i j q:Nat)(gD:Nat.beq i j=false)(ar:L[i]? =some ⟨some p,.ck b os⟩)(qN:L[j]? =some ⟨key,.row T xs cap⟩)
 (hq:os[q]? =some (l.off,aZ key xs.length cap)) (hb:l.set b xs=b') (pW:sl os l.off=os') (aU:τ.Flat) (h:ba c E ((L.set j ⟨none,.dead⟩).set i ⟨some p,.ck b' os'⟩) o τ):ba c E L o τ:=
 .via aU (λa W s=>s.pM l (λe=>by rw[e,ma]at gD;cases gD) ar qN q hq hb pW) h
def ba.aec{o:Oper}{τ:J}{p cap T:Nat}{key:av Nat}{β γ:Type}[ag β][ag γ]{b b':β}{xs:aa γ}{os os':aa (Nat×bd)}(l:aO β (aa γ))(i j q fq:Nat)(gD:Nat.beq i j=false)(ar:L[i]? =some ⟨some p,.ck b os⟩)(qN:L[j]? =some ⟨key,.row T xs cap⟩)
 (hq:os[q]? =some (l.off,aZ key xs.length cap)) (hb:l.set b xs=b') (pW:sl os l.off=os') (oC:look E fq=some (.eq (aZ key xs.length cap))) (aU:τ.Flat) (h:ba c ((fq,.of xs)::E) ((L.set j ⟨none,.dead⟩).set i ⟨some p,.ck b' os'⟩) o τ):ba c E L o τ:=
 .via aU (λa W s=>s.H5 l (λe=>by rw[e,ma]at gD;cases gD) ar qN q hq hb pW oC) h
def ba.UG{o:Oper}{τ:J}{p:Nat}{β:Type}[ag β]{b:β}(i:Nat)(ar:L[i]? =some ⟨some p,.ck b []⟩)(aU:τ.Flat)(h:ba c E (L.set i ⟨some p,.var b⟩) o τ):ba c E L o τ:=
 .via aU (λa W s=>s.z1 (cp':=.var b) ar (λo ⟨cs,T,h1,ad⟩=>⟨cs,T,h1,ad.1⟩) id) h
def Lm{P:Program}{T:bo}{e:bo}(h:P.underlying T=some (.pointer e))(p:Addr)(W:bc)(n:Nat):(Op.equalIn (n+1) T (.pointer (some p)) (.pointer none)).run P W=.ok false W:=by
 simp[Op.equalIn,dn h]
def Hx{p:Addr}{e:bo}(hu:c.P.underlying t=some (.pointer e))(al:aL c E L x (.eq (.pointer (some p)))):ba c E L ⟨d,.binOp .eql t x (.const (.pointer none)) t2,ty,pos,af,g⟩ (.of false):=.pure λa W s=>by
 have aG:a.eval (.const (.pointer none))=.pointer none:=rfl;have h1:a.eval x=.pointer (some p):=al a W s;refine⟨.bool false,?_,of_bool.2 I⟩;simp only[execOp,eqGuard,binOp,h1,aG,Op.equal,Op.maxDepth];simp[Lm hu p W 9999]
def acW{γ:Type}[ag γ]{r:γ}{e:bo}(hu:c.P.underlying t=some (.pointer e))(al:aL c E L x (.ptr r)):ba c E L ⟨d,.binOp .eql t x (.const (.pointer none)) t2,ty,pos,af,g⟩ (.of false):=.pure λa W s=>by
 have aG:a.eval (.const (.pointer none))=.pointer none:=rfl;obtain⟨b,off,cur,T,hQ,h1,_⟩:=al a W s;refine⟨.bool false,?_,of_bool.2 I⟩;simp only[execOp,eqGuard,binOp,h1,aG,Op.equal,Op.maxDepth];simp[Lm hu _ W 9999]
def eL(c:bW)(E:aa (Nat×J))(L:aa aA)(o:Oper)(τ:J):Prop:=
 ∀a W,bA c E L a W->gz c.P o a W λv W'=>bA c E L a W'∧τ.holds (ks L++c.bL) W' v
def ae.gE{o:Oper}{rest:aa Oper}{d:Nat}{τ:J}(h:eL c E L o τ)(bu:o.guard=none)(hd:o.dst=some d)(aG:Nat.blt d c.n=true)
 (k:ae c ops Q rest ((d,τ)::E) L):ae c ops Q (o::rest) E L:=λa W s=>
 hl bu (h a W s) λv W' ⟨f,a7⟩=>by
  rw[hd];exact k _ _ (f.put (by simpa using aG) a7)
def ae.O9{o:Oper}{rest:aa Oper}{d j g:Nat}{b want:Bool}{τ:J}(h:b=want->eL c E L o τ)(bu:o.guard=some (j,want))(aD:(ops[j]?).bind (·.dst)=some g)
 (ao:look E g=some (.of b)) (hd:o.dst=some d) (aG:Nat.blt d c.n=true)
 (k:ae c ops Q rest ((d,.cond (b=want) τ)::E) L):ae c ops Q (o::rest) E L:=λa W s=>by
 have hy:=G1 aD ao s
 unfold bW.rE wpListIn
 by_cases hb:b=want
 ·rw[bm (by simp[Region.wanted,bu,hy,hb])]
  refine((h hb a W s).wpIn λv W' ⟨f,a7⟩=>?_)
  rw[hd]
  exact k _ _ (f.put (by simpa using aG) ⟨λ_=>a7,λh=>absurd hb h⟩)
 rw[bk (by simp[Region.wanted,bu,hy,hb])]
 rw[hd]
 exact⟨λ_ _=>trivial,k _ _ (s.put (by simpa using aG) ⟨λh=>absurd h hb,λ_=>rfl⟩)⟩
def qy(L:aa aA):aa Nat->aa aA->Prop
 |[],[]=>True
 |i::is,e::es=>L[i]? =some e∧qy L is es
 |_,_=>False
def Ri{L:aa aA}{i j:Nat}(h:i≠j):(L.eraseIdx i)[if j<i then j else j-1]? =L[j]? :=by
 rw[PU];by_cases h1:j<i
 ·simp[h1]
 have: ¬(j-1<i):=by omega
 simp only[h1,mK,this];congr 1;omega
def qy.shift{L:aa aA}{i:Nat}:∀{is:aa Nat} {es:aa aA},qy L is es->i∉is->qy (L.eraseIdx i) (is.map λj=>if j<i then j else j-1) es
 |[],[],_,_=>trivial
 | j::is,e::es,⟨h1,ad⟩,aG=>by
   simp only[dB,w1]at aG;exact⟨by rw[Ri aG.1];exact h1,qy.shift ad aG.2⟩
def Rn{i:Nat}:∀{is:aa Nat},is.Nodup->i∉is->(is.map λj=>if j<i then j else j-1).Nodup
 |[],_,_=>by simp
 | j::is,h,aG=>by
   simp only[dB,w1]at aG;obtain⟨h1,ad⟩:=nm.1 h;refine nm.2 ⟨λhm=>?_,Rn ad aG.2⟩;obtain⟨k,hk,he⟩:=gH.1 hm;have vN:k≠i:=λe=>aG.2 (e▸hk);have anl:k≠j:=λe=>h1 (e▸hk);have j1:j≠i:=λe=>aG.1 e.symm;have W0:(if k<i then k else k-1)=(if j<i then j else j-1):=he;split at W0 <;> split at W0 <;> omega
def qy.perm:∀{is:aa Nat} {es L:aa aA},qy L is es->is.Nodup->∃R,L.Perm (es++R)
 |[],[],L,_,_=>⟨L,F8 _⟩
 | i::is,e::es,L,⟨h1,ad⟩,aG=>by
   obtain⟨lT,pV⟩:=nm.1 aG;obtain⟨R,jd⟩:=(ad.shift lT).perm (Rn pV lT);exact⟨R,(u0 h1).trans (jd.cons e)⟩
 termination_by is=>is.length
 decreasing_by simp
def eL.call{f:FuncId}{xs:aa bO}{ats:Array bo}{τs:aa J}{Lin:aa aA}{ρ:Unit->J}{Lo:Unit->aa aA}(is:aa Nat)(bU:bx c.P f)(h:bJ c.P f τs Lin ρ Lo)
 (al:gZ c E L xs τs) (aG:decide is.Nodup=true) (hp:qy L is Lin) (ao:Lo ()=Lin):eL c E L ⟨d,.call ⟨.value (.func f),xs.toArray,ats⟩,ty,pos,af,g⟩ (ρ ()):=λa W s=>by
 obtain⟨R,jd⟩:=hp.perm (wE aG)
 have b1:=s.perm jd
 have pf:=xk jd
 have I7:∀k,k∈ks L++c.bL↔k∈ks (Lin++R)++c.bL:=λk=>by
  simp only[bX];rw[pf.mem_iff]
 have ch:fK (ks (Lin++R)++c.bL) W τs (xs.map a.eval):=(al.TK s).mono (.drop λk hm=>(I7 k).2 hm)
 have aS:=CL (d:=d) (ty:=ty) (pos:=pos) (af:=af) (g:=g) (ats:=ats) bU h b1 ch
 unfold gz at aS⊢
 refine tk (λgQ W' ⟨v,h1,aV,ad,ay⟩=>⟨v,h1,?_,?_⟩) aS
 ·cases aV;rw[ao]at ad;exact ad.perm jd.symm
 cases aV
 rw[ao]at ay
 exact J.mono _ (.drop λk hm=>(I7 k).1 hm) ay
def qy.set{L:aa aA}{i j:Nat}{x y az a8:aA}(gD:i≠j)(aw:L[i]? =some az)(aD:L[j]? =some a8):∃R,L.Perm (az::a8::R)∧((L.set i x).set j y).Perm (x::y::R):=by
 have anm:qy L [i,j] [az,a8]:=⟨aw,aD,trivial⟩;have hle:∀M:aa aA,∀u v:aA,M[i]? =some u->M[j]? =some v->M.Perm (u::v::(M.eraseIdx i).eraseIdx (if j<i then j else j-1)):=λM u v h1 ad=>
  (u0 h1).trans ((u0 (by rw[Ri gD];exact ad)).cons u)
 refine⟨_,hle L az a8 aw aD,?_⟩;have gv:=(fY.1 aw).1;have ye:=(fY.1 aD).1;have h1:=hle ((L.set i x).set j y) x y (by rw[uI (w0 gD),yT gv]) (by rw[yT (by simpa using ye)]);have ad:((L.set i x).set j y).eraseIdx i=(L.eraseIdx i).set (if j<i then j else j-1) y:=by
  apply k6;intro k;simp only[PU,nR,sc,List.length_eraseIdx,gv,kO];by_cases hk:k<i <;> by_cases j1:j<i <;> simp only[hk,j1,kO,mK] <;> (repeat' split) <;> first|rfl|omega|skip
 rw[ad,JV]at h1;exact h1
def ae.aee{rest:aa Oper}{aV:Nat}{f:FuncId}{xs:aa bO}{ats:Array bo}{τs:aa J}{az a8:aA}{δ:Type}{ρ:δ->J}{Lo:δ->aa aA}(lo:δ->aA)(i j:Nat)(bU:bx c.P f)(h:bJ c.P f τs [az,a8] ρ Lo)
 (al:gZ c E L xs τs) (gD:Nat.beq i j=false) (aw:L[i]? =some az) (aD:L[j]? =some a8) (h7:∀q,Lo q=[lo q]) (aG:Nat.blt aV c.n=true) (k:∀q,ae c ops Q rest ((aV,ρ q)::E) ((L.set i (lo q)).set j ⟨none,.dead⟩)):
 ae c ops Q (⟨some aV,.call ⟨.value (.func f),xs.toArray,ats⟩,ty,pos,af,none⟩::rest) E L:=λa W s=>by
 have cR:i≠j:=λe=>by rw[e,ma]at gD;cases gD
 obtain⟨R,jd,_⟩:=qy.set (x:=az) (y:=a8) cR aw aD
 have b1:=s.perm jd
 have pf:=xk jd
 have I7:∀k,k∈ks L++c.bL↔k∈ks ([az,a8]++R)++c.bL:=λk=>by
  simp only[bX];rw[pf.mem_iff];simp[ef]
 have ch:fK (ks ([az,a8]++R)++c.bL) W τs (xs.map a.eval):=(al.TK s).mono (.drop λk hm=>(I7 k).2 hm)
 refine hl I (CL (Lin:=[az,a8]) bU h b1 ch) λv W' ⟨q,ad,ay⟩=>?_
 refine k q _ _ ?_
 obtain⟨Jq,Oc,IS⟩:=qy.set (x:=lo q) (y:=⟨none,.dead⟩) cR aw aD
 have ak6:(az::a8::R).Perm (az::a8::Jq):=jd.symm.trans Oc
 have V5:R.Perm Jq:=(ak6.cons_inv).cons_inv
 rw[h7]at ad ay
 have aN:bA c E (lo q::⟨none,.dead⟩::R) a W':= {ad with
  own:=λe he=>by
   simp only[dB]at he;rcases he with rfl|rfl|he
   ·exact ad.own _ (by simp)
   ·trivial
   exact ad.own _ (by simp[he])}
 have a6:bA c E ((L.set i (lo q)).set j ⟨none,.dead⟩) a W':=aN.perm (((V5.cons _).cons _).trans IS.symm)
 have bh:(ks ((L.set i (lo q)).set j ⟨none,.dead⟩)).Perm (ks (lo q::R)):=by
  have:=xk (IS.trans ((V5.symm.cons _).cons _));simpa[ks]using this
 refine a6.put (by simpa using aG) (J.mono _ (.drop λk hm=>?_) ay)
 rcases bX.1 hm with hm|hm
 ·exact bX.2 (.inl (bh.mem_iff.1 hm))
 exact bX.2 (.inr hm)
def Ob{L:aa aA}{i:Nat}{x e:aA}(h:L[i]? =some x):(L.set i e)[i]? =some e:=by
 rw[yT (fY.1 h).1]
def WI{L:aa aA}{i j:Nat}{r:av aA}{e:aA}(aG:Nat.beq j i=false)(h:L[i]? =r):(L.set j e)[i]? =r:=by
 rw[uI (λe=>by rw[e,ma]at aG;cases aG)];exact h
def ack{p lo cap:Nat}{α:Type}[ag α](hy:aL c E L y (.eq (hK (some p) lo 0 cap (ag.size α)))):Src c E L y 0 ([]:aa α):=λa W s=>by
 have h1:a.eval y=_:=hy a W s;have ak:=FK (P:=c.P) W (if cap=lo then(⟨p,0,none⟩:Addr)else⟨p,lo*ag.size α,none⟩) [] (λj v a7=>by simp at a7);refine⟨by rw[h1];rfl,[],?_,⟨by simp,λi aw=>by simp at aw⟩,by simp⟩;rw[h1];simp only[hK,Builtin.firstCells,List.length_nil,wQ];exact ak
def ae.U0{rest:aa Oper}{i e p aV m N cap T:Nat}{α:Type}[ag α]{xs vs r:aa α}(hu:c.P.underlying t=some (.slice e))(dO:bG c.P e α)
 (al:aL c E L x (.eq (aZ (some p) m cap))) (hy:Src c E L y N vs) (iQ:vs.length=N) (ar:L[i]? =some ⟨some p,.row T xs cap⟩) (hm:m+N<=xs.length) (aC:xs.take m++vs++xs.drop (m+N)=r) (aG:Nat.blt aV c.n=true)
 (k:ae c ops Q rest ((aV,.eq (aZ (some p) (m+N) cap))::E) (L.set i ⟨some p,.row T r cap⟩)):
 ae c ops Q (⟨some aV,.call ⟨.builtin .append,#[x,y],#[t,t]⟩,ty,pos,af,none⟩::rest) E L:=λa W s=>by
 subst iQ
 subst aC
 have h1:a.eval x=_:=al a W s
 obtain⟨ao,cells,ak,na,AO⟩:=hy a W s
 obtain⟨o,aS,ch⟩:=s.own _ (er ar)
 have ak7:=ch
 obtain⟨sY,rfl,g1,g2,g3,g4⟩:=ch
 obtain⟨cs,ez,Iw,qw⟩:=LH (lo:=m) hm ak7 na
 have vK:cs=sY:=by injection ez with h _;exact h.symm
 subst vK
 obtain⟨fG,dv,da⟩:=dO.info
 have cU:=BH (P:=c.P) p (m*ag.size α) T cells 0 cs W aS Iw AO
 simp only[Nat.add_zero]at cU
 have agS:m+vs.length<=cap:=by omega
 have iM:(execOp a.eval ⟨some aV,.call ⟨.builtin .append,#[x,y],#[t,t]⟩,ty,pos,af,none⟩).run c.P W=.ok (.value (aZ (some p) (m+vs.length) cap)) (W.setRow p (cs.toList.take (m*ag.size α)++cells++cs.toList.drop (m*ag.size α+cells.length)).toArray):=by
  simp[execOp,resolve,invoke,builtin,Builtin.append_,h1,aZ,dn hu,ao,Go.sizeOf,typeInfo,dv,da,agS,ak,jB,cU]
 refine hl I (R:=λv gR=>v=aZ (some p) (m+vs.length) cap∧gR=W.setRow p (cs.toList.take (m*ag.size α)++cells++cs.toList.drop (m*ag.size α+cells.length)).toArray) (.lj iM ⟨rfl,rfl⟩) λv gR ⟨a7,hw⟩=>?_
 subst a7
 subst hw
 exact k _ _ ((s.store ar aS qw).put (by simpa using aG) I)
def ab7{i T cap:Nat}{key:av Nat}{α:Type}[ag α]{xs:aa α}{e:bo}{lo aw Pk:bO}{m n k:Nat}(hu:c.P.underlying t=some (.slice e))(dO:bG c.P e α)(al:aL c E L x (.eq (aZ key xs.length cap)))
 (ar:L[i]? =some ⟨key,.row T xs cap⟩) (h7:aL c E L lo (.of (m:Int))) (gl:aL c E L aw (.of (n:Int))) (ak8:aL c E L Pk (.of (k:Int))) (h:m<=n∧n<=k∧k<=xs.length):
 ba c E L ⟨d,.slice t x (some lo) (some aw) (some Pk),ty,pos,af,g⟩ .any:=.pure λa W s=>by
 obtain⟨ad,ay,aN⟩:=h
 obtain⟨fG,dv,da⟩:=dO.info
 have h1:a.eval x=_:=al a W s
 have az:=of_int.1 (h7 a W s)
 have a8:=of_int.1 (gl a W s)
 have dw:=of_int.1 (ak8 a W s)
 have vr:∃amn uw,aZ key xs.length cap=.slice amn uw cap∨(aZ key xs.length cap=.slice none 0 0∧k=0):=by
  cases key with
  |some p=>exact⟨_,_,.inl I⟩
  | none=>
    have aS:=s.own _ (er ar)
    have nJ:xs=[]:=aS.1
    subst nJ
    exact⟨none,0,.inr ⟨rfl,by simpa using aN⟩⟩
 have ak9:xs.length<=cap∨key=none:=by
  cases key with
  |none=>exact .inr I
  | some p=>
    obtain⟨o,aS,cs,rfl,g1,g2,_⟩:=s.own _ (er ar)
    exact .inl g2
 cases key with
 | none=>
   have aS:=s.own _ (er ar)
   have nJ:xs=[]:=aS.1
   subst nJ
   have ala:k=0:=by simpa using aN
   subst ala
   have sU:n=0:=by omega
   subst sU
   have gL:m=0:=by omega
   subst gL
   have hb:∀(code:BoundsCode),(Instr.sliceBound (.int .i64 0) 0 code).run c.P W=.ok 0 W:=λcode=>qc (n:=0) (m:=0) (h5 _) I
   have alb:a.eval lo=.int .i64 0:=az
   have alc:a.eval aw=.int .i64 0:=a8
   have ald:a.eval Pk=.int .i64 0:=dw
   refine⟨.slice none 0 0,?_,trivial⟩
   simp[execOp,Instr.sliceAt,Instr.slice,Instr.sliceBounds,h1,aZ,dn hu,Go.sizeOf,typeInfo,dv,alb,alc,ald,hb]
 | some p=>
   have ajm:k<=cap:=by
    rcases ak9 with h|h
    ·omega
    cases h
   refine⟨.slice (some (if k=m then⟨p,0,none⟩else⟨p,m*ag.size α,none⟩)) (n-m) (k-m),?_,trivial⟩
   have hb:∀(a b:Nat) (code:BoundsCode),a<=b->(Instr.sliceBound (.int .i64 (a:Int)) b code).run c.P W=.ok a W:=λa b code h=>qc h I
   simp[execOp,Instr.sliceAt,Instr.slice,Instr.sliceBounds,h1,aZ,dn hu,Go.sizeOf,typeInfo,dv,da,az,a8,dw,hb k cap _ ajm,hb n k _ ay,hb m n _ ad,jB]
   split <;> rfl
def ad8{p n cap e:Nat}(hu:c.P.underlying t=some (.slice e))(al:aL c E L x (.eq (aZ (some p) n cap))):ba c E L ⟨d,.call ⟨.builtin .len,#[x],#[t]⟩,ty,pos,af,g⟩ (.of (n:Int)):=.pure λa W s=>by
 have h1:a.eval x=_:=al a W s;refine⟨.int .i64 n,?_,of_int.2 I⟩;simp[execOp,resolve,invoke,builtin,Builtin.len_,h1,aZ,dn hu,goInt]
def ae.ad7{rest:aa Oper}{i e p aV m n cap T:Nat}{α:Type}[ag α]{xs:aa α}(hu:c.P.underlying t=some (.slice e))(dO:bG c.P e α)
 (al:aL c E L x (.eq (hK (some p) 0 (m-0) cap (ag.size α)))) (hy:aL c E L y (.eq (hK (some p) n (xs.length-n) cap (ag.size α)))) (ar:L[i]? =some ⟨some p,.row T xs cap⟩) (ua:m<n) (aG:n<=xs.length) (hd:Nat.blt aV c.n=true)
 (k:ae c ops Q rest ((aV,.eq (aZ (some p) (m+(xs.length-n)) cap))::E) (L.set i ⟨some p,.row T (xs.take m++xs.drop n++xs.drop (m+(xs.length-n))) cap⟩)):
 ae c ops Q (⟨some aV,.call ⟨.builtin .append,#[x,y],#[t,t]⟩,ty,pos,af,none⟩::rest) E L:=by
 have ly:aL c E L x (.eq (aZ (some p) m cap)):=by
  rw[zG,Nat.sub_zero]at al;exact al
 rcases wP n xs.length with sW|sW
 ·have hs:=Hh (k:=xs.length-n) hy ar (by omega) (by omega)
  rw[show(xs.drop n).take (xs.length-n)=xs.drop n by rw[qS (by simp)]]at hs
  exact ae.U0 hu dO ly hs (by simp) ar (by omega) I hd k
 have bw:xs.length-n=0:=by omega
 rw[bw]at hy k
 have hs:=ack (α:=α) hy
 rw[show([]:aa α)=xs.drop n by rw[Bo sW]]at hs
 exact ae.U0 hu dO ly hs (by simp;omega) ar (by omega) I hd k
def aq.again{z:Exit}{key:av Nat}{cp:dN}(cp':dN)(i:Nat)(ar:L[i]? =some ⟨key,cp⟩)(h:∀A W o,cp.holds A W o->cp'.holds A W o)(aG:cp.nA->cp'.nA)(k:aq c Q z E (L.set i ⟨key,cp'⟩)):aq c Q z E L:=λa W s=>
 k a W (s.again ar h aG)
end
def DD{α:Type}(xs:aa α)(i j:Int):av (aa α):=if 0<=i∧i<=j∧j<=xs.length then some (xs.take i.toNat++xs.drop j.toNat)else none
def abo{α:Type}{xs r:aa α}{i j:Int}(h:DD xs i j=some r):∃m n:Nat,i=m∧j=n∧m<=n∧n<=xs.length∧r=xs.take m++xs.drop n:=by
 unfold DD at h;split at h
 ·rename_i ak;refine⟨i.toNat,j.toNat,by omega,by omega,by omega,by omega,?_⟩;cases h;rfl
 cases h
abbrev ah(α:Type):=(α->Prop)->Prop
def ah.of{α:Type}(o:av α):ah α:=λQ=> ∃r,o=some r∧Q r
def ah.bind{α β:Type}(m:ah α)(k:α->ah β):ah β:=λQ=>m λr=>k r Q
def ah.ret{α:Type}(x:α):ah α:=λQ=>Q x
def mP{σ ε:Type}:Nat->(σ->ah (σ⊕ε))->σ->ah ε
 |0,_,_=>λ_=>False
 | n+1,b,s=>λQ=>b s λr=>match r with
   | .inl b1=>mP n b b1 Q
   | .inr e=>Q e
abbrev aE(bt:Type):=aa (Nat×bt)
abbrev Ref:=av Nat
instance:ag Ref:=.scalar (λx=>Value.pointer (x.map λp=>⟨p,0,none⟩)) λ_=>rfl
def vf{A W v}{x:Ref}:(J.of x).holds A W v↔v=.pointer (x.map λp=>⟨p,0,none⟩):=
 ⟨λh=>mM h.1 h.2,λh=>by subst h;exact⟨rfl,rfl⟩⟩
instance:aQ Ref:=⟨[.pointer none],λ_ _=>rfl⟩
def ah.mk{bt:Type}(hp:aE bt)(k:bt):ah (Nat×aE bt):=λQ=> ∀a:Nat×aE bt,a.1∉hp.map (·.1)∧a.2=(a.1,k)::hp->Q a
def ah.nZ{bt α:Type}{hp:aE bt}{c:bt}{k:Nat×aE bt->ah α}{R:α->Prop}(h:ah.bind (ah.mk hp c) k R)(a:Nat×aE bt)(a1:a.1∉hp.map (·.1)∧a.2=(a.1,c)::hp):k a R:=h a a1
class di (bt:Type)where
 fo:Nat->bt->aa aA
 root:∀p k,∃e∈fo p k,e.key=some p
def aY{bt:Type}[di bt]:aE bt->aa aA
 |[]=>[]
 |(p,k)::r=>di.fo p k++aY r
def pat{bt:Type}:aE bt->Nat->av bt
 |[],_=>none
 |(q,k)::r,p=>if q=p then some k else pat r p
def bY{bt:Type}:aE bt->Nat->bt->aE bt
 |[],_,_=>[]
 |(q,k)::r,p,k'=>if q=p then(q,k')::r else(q,k)::bY r p k'
def c6{bt:Type}(hp:aE bt):aa Nat:=hp.map (·.1)
def tn{bt:Type}[di bt]:∀{hp:aE bt} {p:Nat} {k:bt},pat hp p=some k->∃R,(aY hp).Perm (di.fo p k++R)∧∀k',(aY (bY hp p k')).Perm (di.fo p k'++R)
 |[],_,_,h=>by simp[pat]at h
 | (q,uA)::r,p,k,h=>by
   simp only[pat]at h;split at h
   ·rename_i e;subst e;simp only[fC]at h;subst h;exact⟨aY r,.refl _,λk'=>by simp only[bY,bm];exact .refl _⟩
   rename_i e;obtain⟨R,h1,ad⟩:=tn h;refine⟨di.fo q uA++R,?_,λk'=>?_⟩
   ·exact(h1.append_left (di.fo q uA)).trans (by rw[<-h3,<-h3];exact mF.append_right R)
   simp only[bY,bk e];exact((ad k').append_left (di.fo q uA)).trans (by rw[<-h3,<-h3];exact mF.append_right R)
def TL{bt:Type}[di bt]{hp:aE bt}{p:Nat}(h:p∈c6 hp):p∈ks (aY hp):=by
 induction hp with
 |nil=>simp[c6]at h
 | cons x r bN=>
   obtain⟨q,k⟩:=x
   simp only[c6,mJ,dB]at h
   simp only[aY,ef,bX]
   rcases h with h|h
   ·subst h
    obtain⟨e,he,hk⟩:=di.root p k
    exact .inl (qh.2 ⟨e,he,hk⟩)
   exact .inr (bN h)
def il{bt:Type}{hp:aE bt}{p:Nat}{k:bt}(h:pat hp p=some k):p∈c6 hp:=by
 induction hp with
 |nil=>simp[pat]at h
 | cons x r bN=>
   simp only[pat]at h
   split at h
   ·rename_i e;simp[c6,e]
   simp only[c6,mJ,dB];exact .inr (bN h)
def pD{bt:Type}{hp:aE bt}{p:Nat}{k:bt}:c6 (bY hp p k)=c6 hp:=by
 induction hp with
 |nil=>rfl
 |cons x r bN=>simp only[bY];split <;> simp_all [c6]
def CY{bt:Type}{hp:aE bt}{p q:Nat}{k:bt}:pat (bY hp p k) q=if p=q then(pat hp p).map (λ_=>k)else pat hp q:=by
 induction hp with
 |nil=>simp[bY,pat]
 | cons x r bN=>
   simp only[bY]
   by_cases e:x.1=p
   ·rw[bm e]
    by_cases h:p=q
    ·simp[pat,e,h]
    have: ¬x.1=q:=λcC=>h (e▸cC)
    simp[pat,e,h]
   rw[bk e]
   by_cases h:p=q
   ·subst h
    rw[bm I]at bN⊢
    simp[pat,e,bN]
   rw[bk h]at bN⊢
   simp[pat,bN]
section
variable{c:bW}{E:aa (Nat×J)}{L:aa aA}{ops:Array Oper}{Q:Exit->Act->bc->Prop}
variable{d:av Tmp}{ty:bo}{pos:String}{af:Array Edge}{g:av (Nat×Bool)}{x y:bO}{t t2:bo}
def acm{L L':aa aA}(p:L.Perm L'){A:aa Nat}(k:Nat):k∈ks L++A↔k∈ks L'++A:=by
 simp only[bX];rw[(xk p).mem_iff]
def ns{L L':aa aA}(p:L.Perm L'){A:aa Nat}{W:bc}:Ext (ks L++A) W (ks L'++A) W:=.drop λk hm=>(acm p k).2 hm
def aL.perm{L':aa aA}{x:bO}{τ:J}(p:L.Perm L')(h:aL c E L x τ):aL c E L' x τ:=λa W s=>
 τ.mono (ns p) (h a W (s.perm p.symm))
def ae.perm{l:aa Oper}{L':aa aA}(p:L.Perm L')(h:ae c ops Q l E L):ae c ops Q l E L':=λa W s=>h a W (s.perm p.symm)
def ij{x:bO}{r:Ref}{p:Nat}(al:aL c E L x (.of r))(h:r=some p):aL c E L x (.eq (.pointer (some ⟨p,0,none⟩))):=λa W s=>by
 subst h;exact vf.1 (al a W s)
def mL:aL c E L (.const (.pointer none)) (.of (none:Ref)):=λa W s=>vf.2 I
variable{bt:Type}[di bt]{hp:aE bt}{loc:aa aA}
def hX{p n:Nat}{k:bt}{e:aA}(ar:L.drop n=aY hp)(h:pat hp p=some k)(hk:di.fo p k=[e]):e∈L:=by
 obtain⟨R,h1,_⟩:=tn h;rw[hk]at h1;have:e∈L.drop n:=by rw[ar];exact h1.mem_iff.2 (by simp)
 exact yY this
def nB{L':aa aA}{e:aA}(ar:∀(i:Nat) (e:aA),L[i]? =some e->L'[i]? =some e)(h:e∈L):e∈L':=by
 obtain⟨i,aw⟩:=mE.1 h;exact er (ar i e aw)
def nt{x:bO}{t:bo}{p o:Nat}{β γ:Type}[ag β][ag γ]{b:β}(l:aO β γ){r:γ}(dx:bG c.P t γ)(al:aL c E L x (.eq (.pointer (some ⟨p,o,none⟩))))
 (hm:(⟨some p,.var b⟩:aA)∈L) (aS:o=l.off) (aC:l.get b=r):ba c E L ⟨d,.load t x,ty,pos,af,g⟩ (.of r):=by
 obtain⟨i,aw⟩:=mE.1 hm
 exact j9 (i:=i) l dx al aw aS aC
def ae.adt{x y:bO}{t:bo}{rest:aa Oper}{p o:Nat}{k k':bt}{β γ:Type}[ag β][ag γ]{b b':β}{v:γ}(l:aO β γ)(dx:bG c.P t γ)(al:aL c E (loc++aY hp) x (.eq (.pointer (some ⟨p,o,none⟩))))
 (hy:aL c E (loc++aY hp) y (.of v)) (hp':pat hp p=some k) (hk:di.fo p k=[⟨some p,.var b⟩]) (j0:di.fo p k'=[⟨some p,.var b'⟩]) (aS:o=l.off) (hb:l.set b v=b')
 (lF:ae c ops Q rest E (loc++aY (bY hp p k'))):ae c ops Q (⟨none,.store t x y,ty,pos,af,none⟩::rest) E (loc++aY hp):=by
 obtain⟨R,h1,ad⟩:=tn hp'
 have ad:=ad k'
 rw[hk]at h1
 rw[j0]at ad
 have cb:∀{z:β} {M:aa aA},M.Perm ([⟨some p,.var z⟩]++R)->(loc++M).Perm (⟨some p,.var z⟩::(loc++R)):=λh=>(h.append_left loc).trans (by simp only[List.singleton_append];exact p6)
 exact ae.perm (cb h1).symm (ae.store (i:=0) l dx (al.perm (cb h1)) (hy.perm (cb h1)) I aS hb (ae.perm (cb ad) lF))
def ae.n2{x y:bO}{t:bo}{rest:aa Oper}{p o:Nat}{k k':bt}{cw:aE bt}{β γ:Type}[ag β][ag γ]{b b':β}{v:γ}(n:Nat)(ar:L.drop n=aY hp)(l:aO β γ)(dx:bG c.P t γ)(al:aL c E L x (.eq (.pointer (some ⟨p,o,none⟩))))(hy:aL c E L y (.of v))(hp':pat hp p=some k)(hk:di.fo p k=[⟨some p,.var b⟩])(j0:di.fo p k'=[⟨some p,.var b'⟩])(aS:o=l.off)(hb:l.set b v=b')(b4:bY hp p k'=cw)(lF:ae c ops Q rest E (L.take n++aY cw)):ae c ops Q (⟨none,.store t x y,ty,pos,af,none⟩::rest) E L:=by
 subst b4;have e:L=L.take n++aY hp:=by rw[<-ar,fw]
 clear ar;generalize L.take n=loc at *;subst e;exact ae.adt l dx al hy hp' hk j0 aS hb lF
def bA.fresh{a:Act}{W:bc}(s:bA c E (loc++aY hp) a W):W.heap.size∉c6 hp:=λh=>by
 have:=s.lt _ (by rw[ef];exact bX.2 (.inr (TL h)));omega
def ae.agT{t:bo}{x:bO}{rest:aa Oper}{aV:Nat}{α:Type}[ag α]{z:α}(mk:bt)(hk:∀p,di.fo p mk=[⟨some p,.var z⟩])(al:aL c E (loc++aY hp) x (.of z))(aG:Nat.blt aV c.n=true)
 (k:∀p,p∉c6 hp->ae c ops Q rest ((aV,.of (some p:Ref))::E) (loc++aY ((p,mk)::hp))):ae c ops Q (⟨some aV,.box t x,ty,pos,af,none⟩::rest) E (loc++aY hp):=λa W s=>by
 refine hl I (R:=λv W'=>v=.pointer (some ⟨W.heap.size,0,none⟩)∧W'=W.alloc (.cells (a.eval x).cells t)) (.lj ?_ ⟨rfl,rfl⟩) λv W' ⟨a7,hw⟩=>?_
 ·simp[execOp,Instr.box,newVar,newRow]
 subst a7
 subst hw
 refine k _ s.fresh _ _ (bA.put ?_ (by simpa using aG) (vf.2 I))
 refine(s.alloc (cp:=.var z) ⟨_,t,rfl,(al a W s).2⟩).perm ?_
 simp only[aY,hk,List.singleton_append]
 exact p6.symm
def ae.vq{t:bo}{x:bO}{rest:aa Oper}{aV:Nat}{α:Type}[ag α]{z:α}(n:Nat)(ar:L.drop n=aY hp)(mk:bt)(hk:∀p,di.fo p mk=[⟨some p,.var z⟩])(al:aL c E L x (.of z))(aG:Nat.blt aV c.n=true)(k:∀a:Nat×aE bt,a.1∉hp.map (·.1)∧a.2=(a.1,mk)::hp->ae c ops Q rest ((aV,.of (some a.1:Ref))::E) (L.take n++aY a.2)):ae c ops Q (⟨some aV,.box t x,ty,pos,af,none⟩::rest) E L:=by
 have e:L=L.take n++aY hp:=by rw[<-ar,fw]
 clear ar;generalize L.take n=loc at *;subst e;exact ae.agT mk hk al aG λp h=>k (p,(p,mk)::hp) ⟨h,rfl⟩
def la{A B C:aa aA}:((A++B)++C).Perm ((A++C)++B):=by
 rw[h3,h3];exact mF.append_left A
def ae.ht{rest:aa Oper}{aV:Nat}{f:FuncId}{xs:aa bO}{ats:Array bo}{τs:aa J}{Lin Lr:aa aA}{δ:Type}{ρ:δ->J}{Lo:δ->aa aA}{hq:δ->aE bt}(bU:bx c.P f)(h:bJ c.P f τs (Lin++aY hp) ρ (λd=>Lo d++aY (hq d)))
 (al:gZ c E ((Lin++Lr)++aY hp) xs τs) (aG:Nat.blt aV c.n=true) (k:∀q,ae c ops Q rest ((aV,ρ q)::E) ((Lo q++Lr)++aY (hq q))):
 ae c ops Q (⟨some aV,.call ⟨.value (.func f),xs.toArray,ats⟩,ty,pos,af,none⟩::rest) E ((Lin++Lr)++aY hp):=λa W s=>
 hl I (CL (Lr:=Lr) bU h (s.perm la) ((al.holds a W s).mono (ns la))) λv W' ⟨q,b1,a7⟩=>
  k q _ _ ((b1.perm la).put (by simpa using aG) ((ρ q).mono (ns la) a7))
def ae.dz{rest:aa Oper}{aV:Nat}{f:FuncId}{xs:aa bO}{ats:Array bo}{τs:aa J}{Lin Lr:aa aA}{δ:Type}{ρ:δ->J}{Lo:δ->aa aA}{hq:δ->aE bt}(n m:Nat)(ar:L.drop n=aY hp)(bU:bx c.P f)(h:bJ c.P f τs (Lin++aY hp) ρ (λd=>Lo d++aY (hq d)))
 (h1:(L.take n).take m=Lin) (ad:(L.take n).drop m=Lr) (al:gZ c E L xs τs) (aG:Nat.blt aV c.n=true) (k:∀q,ae c ops Q rest ((aV,ρ q)::E) ((Lo q++Lr)++aY (hq q))):
 ae c ops Q (⟨some aV,.call ⟨.value (.func f),xs.toArray,ats⟩,ty,pos,af,none⟩::rest) E L:=by
 have e:L=(Lin++Lr)++aY hp:=by rw[<-h1,<-ad,fw,<-ar,fw]
 clear ar h1 ad
 subst e
 exact ae.ht bU h al aG k
def eL.aev{f:FuncId}{xs:aa bO}{ats:Array bo}{τs:aa J}{ρ:J}(bU:bx c.P f)(h:bJ c.P f τs (aY hp) (λ_:Unit=>ρ) (λ_=>aY hp))
 (al:gZ c E (loc++aY hp) xs τs):eL c E (loc++aY hp) ⟨d,.call ⟨.value (.func f),xs.toArray,ats⟩,ty,pos,af,g⟩ ρ:=λa W s=>by
 have cb:(loc++aY hp).Perm (aY hp++loc):=mF
 have aS:=CL (d:=d) (ty:=ty) (pos:=pos) (af:=af) (g:=g) (ats:=ats) (Lr:=loc) bU h (s.perm cb) ((al.holds a W s).mono (ns cb))
 unfold gz at aS⊢
 exact tk (λgQ W' ⟨v,h1,_,ad,ay⟩=>⟨v,h1,ad.perm cb.symm,ρ.mono (ns cb.symm) ay⟩) aS
def eL.ht{f:FuncId}{xs:aa bO}{ats:Array bo}{τs:aa J}{ρ:J}(n:Nat)(ar:L.drop n=aY hp)(bU:bx c.P f)(h:bJ c.P f τs (aY hp) (λ_:Unit=>ρ) (λ_=>aY hp))(al:gZ c E L xs τs):eL c E L ⟨d,.call ⟨.value (.func f),xs.toArray,ats⟩,ty,pos,af,g⟩ ρ:=by
 have e:L=L.take n++aY hp:=by rw[<-ar,fw]
 clear ar;generalize L.take n=loc at *;subst e;exact eL.aev bU h al
def K7{P:Program}{e:bo}(W:bc)(n:Nat){t:bo}(a:av Addr)(h:P.underlying t=some (.pointer e)):(Op.equalIn (n+1) t (.pointer a) (.pointer none)).run P W=.ok a.isNone W:=by
 cases a <;> simp[Op.equalIn,dn h]
def zK{r:Ref}{e:bo}(hu:c.P.underlying t=some (.pointer e))(al:aL c E L x (.of r)):ba c E L ⟨d,.binOp .eql t x (.const (.pointer none)) t2,ty,pos,af,g⟩ (.of r.isNone):=.pure λa W s=>by
 have h1:=vf.1 (al a W s);refine⟨.bool r.isNone,?_,of_bool.2 I⟩;have aG:a.eval (.const (.pointer none))=.pointer none:=rfl;simp only[execOp,eqGuard,binOp,h1,aG,Op.equal,Op.maxDepth];have:=K7 (P:=c.P) W 9999 (r.map λp=>⟨p,0,none⟩) hu;simp only[Option.isNone_map]at this;simp[this]
def abI{r:Ref}{e:bo}(hu:c.P.underlying t=some (.pointer e))(al:aL c E L x (.of r)):ba c E L ⟨d,.binOp .neq t x (.const (.pointer none)) t2,ty,pos,af,g⟩ (.of r.isSome):=.pure λa W s=>by
 have h1:=vf.1 (al a W s);refine⟨.bool r.isSome,?_,of_bool.2 I⟩;have aG:a.eval (.const (.pointer none))=.pointer none:=rfl;simp only[execOp,eqGuard,binOp,h1,aG,Op.equal,Op.maxDepth];have:=K7 (P:=c.P) W 9999 (r.map λp=>⟨p,0,none⟩) hu;simp only[Option.isNone_map]at this;simp[this]
end
def aa3{P:Program}{t e el:bo}{n:Nat}(h:P.underlying t=some (.array n e))(dO:bG P e Ref)(hu:P.underlying e=some (.pointer el)){A:aa Nat}{W:bc}{u v:bd}{x y:Vector Ref n}(al:(J.of x).holds A W u)(hy:(J.of y).holds A W v)
 (aG:∀i,i<n->b9 y i=none) (d:Nat) (hd:2<=d):(Op.equalIn d t u v).run P W=.ok (decide (x=y)) W:=by
 obtain⟨d,rfl⟩:∃e,d=e+1:=⟨d-1,by omega⟩
 obtain⟨h1,ad⟩:=al
 obtain⟨ay,aN⟩:=hy
 obtain⟨xs,rfl⟩:∃cs,u=.agg cs:=by simpa[shaped,ag.agg]using h1
 obtain⟨ys,rfl⟩:∃cs,v=.agg cs:=by simpa[shaped,ag.agg]using ay
 simp only[Value.cells]at ad aN
 have uc:xs.toList.length=n*ag.size Ref:=ag.len ad
 have Ea:ys.toList.length=n*ag.size Ref:=ag.len aN
 have xA:∀i∈List.range' 0 n,((do
  let a <-part e xs (i*ag.size Ref)
  let b <-part e ys (i*ag.size Ref)
  Op.equalIn d e a b):Sem Bool).run P W=.ok (decide (b9 x i=b9 y i)) W:=by
  intro i aw
  have gv:i<n:=by simpa using aw
  have fV:i*ag.size Ref+ag.size Ref<=n*ag.size Ref:=(aO.idx (α:=Ref) n i gv).gk
  obtain⟨a,a1,ud⟩:=tu (A:=A) (P:=P) (W:=W) (cs:=xs) (off:=i*ag.size Ref) dO (by simp at uc;omega) ((aO.idx (α:=Ref) n i gv).iJ ad)
  obtain⟨b,hb,Eb⟩:=tu (A:=A) (P:=P) (W:=W) (cs:=ys) (off:=i*ag.size Ref) dO (by simp at Ea;omega) ((aO.idx (α:=Ref) n i gv).iJ aN)
  simp only[df,a1,hb,Result.andThen_ok]
  obtain⟨d,rfl⟩:∃e,d=e+1:=⟨d-1,by omega⟩
  have az:=vf.1 ud
  have a8:=vf.1 Eb
  subst az;subst a8
  have AR:(aO.idx (α:=Ref) n i gv).get y=none:=aG i gv
  rw[AR,Option.map_none,K7 W d _ hu]
  have dw:b9 y i=none:=aG i gv
  rw[dw]
  show Result.ok ((b9 x i).map _).isNone W=_
  congr 1
  cases b9 x i <;> rfl
 have aU:=K6 (P:=P) (W:=W) _ _ _ xA
 have oj:(List.range' 0 n).all (λi=>decide (b9 x i=b9 y i))=decide (x=y):=by
  rw[mI,mG,fZ];constructor
  ·intro h;apply Vector.ext;intro i aw;have:=h i (by simpa using aw);simpa[b9,aw]using this
  rintro rfl i _;simp
 rw[oj]at aU
 simp only[Op.equalIn,df,dn h,Result.andThen_ok,dO.sizeOf,Jz]
 simp only[Std.Legacy.Range.size,Nat.sub_zero,Nat.add_one_sub_one,KS]at aU⊢
 simp only[bind_assoc]at aU
 rw[aU]
 by_cases Ec:x=y
 ·simp[Ec]
 simp[Ec]
def ab6{c:bW}{E:aa (Nat×J)}{L:aa aA}{d:av Tmp}{ty:bo}{pos:String}{af:Array Edge}{g:av (Nat×Bool)}{x y:bO}{t t2 e el:bo}{n:Nat}{a b:Vector Ref n}(h:c.P.underlying t=some (.array n e))(dO:bG c.P e Ref)(hu:c.P.underlying e=some (.pointer el))(bu:c.P.eqGuardType c.P.depth t=false)
 (al:aL c E L x (.of a)) (hy:aL c E L y (.of b)) (aG:∀i,i<n->b9 b i=none):ba c E L ⟨d,.binOp .eql t x y t2,ty,pos,af,g⟩ (.of (decide (a=b))):=.pure λA W s=>by
 have h1:=al A W s
 have ad:=hy A W s
 obtain⟨xs,nJ⟩:∃cs,A.eval x=.agg cs:=by simpa[shaped,ag.agg]using h1.1
 obtain⟨ys,vL⟩:∃cs,A.eval y=.agg cs:=by simpa[shaped,ag.agg]using ad.1
 have ay:=aa3 h dO hu h1 ad aG 10000 (by decide)
 rw[nJ,vL]at ay
 refine⟨.bool (decide (a=b)),?_,of_bool.2 I⟩
 simp only[execOp,nJ,vL,df,Km W .eql t x y xs ys bu,Result.andThen_ok,run_eql_struct,ay,Sem.run_pure]
section
variable{c:bW}{E:aa (Nat×J)}{L:aa aA}{ops:Array Oper}{Q:Exit->Act->bc->Prop}
def ah.adu{α β:Type}{o:av α}{k:α->ah β}{R:β->Prop}(h:ah.bind (ah.of o) k R):∃r,o=some r∧k r R:=h
def aa4{F:Fence}{n:Nat}{P:Program}{body:Code}{σ ε:Type}(b:σ->ah (σ⊕ε))(eX:σ->Act->bc->Prop)(X:ε->Exit->Act->bc->Prop)
 (su:∀s R,b s R->∀a W,eX s a W->body.wpIn F n P (λx a W=>(∃b1,R (.inl b1)∧x=.normal∧eX b1 a W)∨∃e,R (.inr e)∧x≠ .normal∧X e x a W) a W)
 (Q:Exit->Act->bc->Prop) (R:ε->Prop) (n4:∀e x a W,R e->X e x a W->Q x a W) {s0:σ} {N:Nat} (ao:mP N b s0 R) {a0:Act} {iE:bc} (bw:eX s0 a0 iE):
 (Code.loop body).wpIn F n P Q a0 iE:=by
 intro cW k cs oy hb aC
 have key:∀N s,mP N b s R->∀a W,eX s a W->
  ∃x gQ W',Q x gQ W'∧ArrivesIn (Machine.fenced P F) P (lone (cW.atR a (.code body::.inLoop body::k)) cs W) cW k cs x gQ W':=by
  intro N
  induction N with
  |zero=>intro s h;exact h.elim
  | succ N bN=>
    intro s h a W nM
    obtain⟨x,qx,Aq,hq,mS⟩:=su s _ h a W nM cW (.inLoop body::k) cs oy hb aC
    rcases hq with⟨b1,h1,al,Oe⟩|⟨e,h1,al,oL⟩
    ·subst al
     obtain⟨NR,NS,NT,Ni,L4⟩:=bN b1 h1 qx Aq Oe
     exact⟨NR,NS,NT,Ni,.of_steps (Ky mS (.one (zm hb aC I) stepR_inLoop)) L4⟩
    exact⟨x,qx,Aq,n4 _ _ _ _ h1 oL,.pass (x:=.inLoop body) I (λ_ _=>.inl al) mS⟩
 obtain⟨x,gQ,W',hq,mS⟩:=key N s0 ao a0 iE bw
 exact⟨x,gQ,W',hq,.of_steps (.one (zm hb aC I) stepR_loop) mS⟩
def fp{σ ε γ δ:Type}(c:bW)(E:σ->γ->aa (Nat×J))(L:σ->γ->aa aA)(xs:ε->Exit)(dL:ε->δ->aa (Nat×J))(Lx:ε->δ->aa aA)(R:σ⊕ε->Prop):Exit->Act->bc->Prop:=λx a W=>
 (∃s,R (.inl s)∧x=.normal∧∃g,bA c (E s g) (L s g) a W)∨∃e,R (.inr e)∧x≠ .normal∧x=xs e∧∃g,bA c (dL e g) (Lx e g) a W
def aq.xo{σ ε γ δ:Type}{E':σ->γ->aa (Nat×J)}{L':σ->γ->aa aA}{xs:ε->Exit}{dL:ε->δ->aa (Nat×J)}{Lx:ε->δ->aa aA}{R:σ⊕ε->Prop}{s:σ}(jd:R (.inl s))(g:γ)(n:Nat)
 (ar:L.drop n=L' s g) (h:eb E (E' s g)):aq c (fp c E' L' xs dL Lx R) .normal E L:=λa W st=>.inl ⟨s,jd,rfl,g,by rw[<-ar];exact(st.qm n).less h.look⟩
def aq.tE{σ ε γ δ:Type}{E':σ->γ->aa (Nat×J)}{L':σ->γ->aa aA}{xs:ε->Exit}{dL:ε->δ->aa (Nat×J)}{Lx:ε->δ->aa aA}{R:σ⊕ε->Prop}{e:ε}{x:Exit}(jd:R (.inr e))(g:δ)(n:Nat)
 (al:x=xs e) (aG:x≠ .normal) (ar:L.drop n=Lx e g) (h:eb E (dL e g)):aq c (fp c E' L' xs dL Lx R) x E L:=λa W st=>.inr ⟨e,jd,aG,al,g,by rw[<-ar];exact(st.qm n).less h.look⟩
def ax.mP{σ ε γ δ:Type}{body:Code}{N:Nat}{b:σ->ah (σ⊕ε)}{s0:σ}{R:ε->Prop}(ao:Gv.mP N b s0 R)
 (E':σ->γ->aa (Nat×J)) (L':σ->γ->aa aA) (xs:ε->Exit) (dL:ε->δ->aa (Nat×J)) (Lx:ε->δ->aa aA) (g0:γ) (ar:L=L' s0 g0) (aK:eb E (E' s0 g0))
 (q9:∀s R,b s R->∀g,ax c (fp c E' L' xs dL Lx R) body (E' s g) (L' s g))
 (n4:∀e,R e->∀g,aq c Q (xs e) (dL e g) (Lx e g)):ax c Q (.loop body) E L:=λa W st=>by
 subst ar
 exact aa4 b (λs a W=> ∃g,bA c (E' s g) (L' s g) a W) (λe x a W=>x=xs e∧∃g,bA c (dL e g) (Lx e g) a W)
  (λs R hs a W ⟨g,nM⟩=>wpIn_mono (q9 s R hs g a W nM) (λx a W h=>by
   rcases h with⟨b1,h1,ad,ay⟩|⟨e',h1,ad,ay,aN⟩
   ·exact .inl ⟨b1,h1,ad,ay⟩
   exact .inr ⟨e',h1,ad,ay,aN⟩)) Q R (λe x a W jd ⟨al,g,hs⟩=>by subst al;exact n4 e jd g a W hs) ao ⟨g0,st.less aK.look⟩
def Th{α:Type}{b:Bool}{m n:ah α}{R:α->Prop}(hb:b=true)(h:cond b m n R):m R:=by subst hb;exact h
def Ti{α:Type}{b:Bool}{m n:ah α}{R:α->Prop}(hb:b=false)(h:cond b m n R):n R:=by subst hb;exact h
def ax.aew{β γ ρ:Type}{jM:ρ->Prop}{x:bO}{b:Bool}{y z:Code}{bg bE:ah β}{k:β->ah ρ}(h:ah.bind (bif b then bg else bE) k jM)(E':β->γ->aa (Nat×J))(L':β->γ->aa aA)(ao:aL c E L x (.of b))
 (nd:∀m g,k m jM->aq c Q .normal (E' m g) (L' m g))
 (bq:(∀m g,k m jM->aq c (dX Q) .normal (E' m g) (L' m g))->b=true->bg (λm=>k m jM)->ax c (dX Q) y E L) (aU:(∀m g,k m jM->aq c (dX Q) .normal (E' m g) (L' m g))->b=false->bE (λm=>k m jM)->ax c (dX Q) z E L):ax c Q (.cond x y z) E L:=
 ax.cond ao (λhb=>bq nd hb (Th hb h)) (λhb=>aU nd hb (Ti hb h))
def ax.TA{σ ε γ δ ρ:Type}{body:Code}{N:Nat}{b:σ->ah (σ⊕ε)}{s0:σ}{k:ε->ah ρ}{jM:ρ->Prop}(ao:ah.bind (Gv.mP N b s0) k jM)
 (E':σ->γ->aa (Nat×J)) (L':σ->γ->aa aA) (xs:ε->Exit) (dL:ε->δ->aa (Nat×J)) (Lx:ε->δ->aa aA) (g0:γ) (ar:L=L' s0 g0) (aK:eb E (E' s0 g0))
 (q9:∀s R,b s R->∀g,ax c (fp c E' L' xs dL Lx R) body (E' s g) (L' s g))
 (n4:∀e,k e jM->∀g,aq c Q (xs e) (dL e g) (Lx e g)):ax c Q (.loop body) E L:=
 ax.mP (R:=λe=>k e jM) ao E' L' xs dL Lx g0 ar aK q9 n4
def afp{n:Nat}:∀i,i<n->b9 (default:Vector Ref n) i=none:=λi aw=>by
 have:(default:Vector Ref n)=Vector.replicate n none:=rfl;rw[this];simp[b9,aw]
def NQ(s:ByteArray)(i:Int):av (BitVec 8):=(if 0<=i then s[i.toNat]? else none).map λb=>BitVec.ofNat 8 b.toNat
def acO{d:av Tmp}{ty:bo}{pos:String}{af:Array Edge}{g:av (Nat×Bool)}{x y:bO}{t:bo}{s:ByteArray}{i:BitVec 8}{r:BitVec 8}(hu:c.P.underlying t=some .string)(al:aL c E L x (.of s))(hy:aL c E L y (.of i))(aC:NQ s (i.toNat:Int)=some r):
 ba c E L ⟨d,.index t x y,ty,pos,af,g⟩ (.of r):=.pure λa W st=>by
 have h1:=HI.1 (al a W st)
 have ad:=H9.1 (hy a W st)
 unfold NQ at aC
 cases hb:(if 0<=(i.toNat:Int)then s[(i.toNat:Int).toNat]? else none)with
 |none=>rw[hb]at aC;cases aC
 | some b=>
   rw[hb]at aC
   simp only[Option.map_some,fC]at aC
   subst aC
   have bS:b.toNat<256:=b.toNat_lt
   refine⟨.int .u8 b.toNat,?_,H9.2 (by simp[BitVec.toNat_ofNat,Kh bS])⟩
   have Et:=hb
   simp only[Qk,kO,Int.toNat_natCast]at Et
   simp[execOp,Instr.index,h1,ad,asIntOf,dn hu,Et]
end
structure dZ where
 p:Option Nat
 deriving DecidableEq,Inhabited
instance:ag dZ:=.scalar (λx=>Value.map x.p) λ_=>rfl
instance:aQ dZ:=⟨[.map none],λ_ _=>rfl⟩
def u6{A W v}{x:dZ}:(J.of x).holds A W v↔v=.map x.p:=
 ⟨λh=>mM h.1 h.2,λh=>by subst h;exact⟨rfl,rfl⟩⟩
def jR{c:bW}{E:aa (Nat×J)}{L:aa aA}{x:bO}{r:dZ}{p:Nat}(al:aL c E L x (.of r))(h:r.p=some p):aL c E L x (.of (⟨some p⟩:dZ)):=λa W s=>by
 have:=u6.1 (al a W s);rw[h]at this;exact u6.2 this
inductive kF{α β:Type}[ag α][ag β](A:List Nat)(W:World):List MapEntry->List (α×β)->Prop
 |nil:kF A W [] []
 |cons {e k v es r}:(J.of k).holds A W e.key->(J.of v).holds A W e.val->kF A W es r->kF A W (e::es) ((k,v)::r)
def kF.mono{α β:Type}[ag α][ag β]{A W cg W'}(h:Ext A W cg W'):∀{es:aa MapEntry} {kv:aa (α×β)},kF A W es kv->kF cg W' es kv
 |_,_,.nil=>.nil
 |_,_,.cons h1 ad r=>.cons (J.mono _ h h1) (J.mono _ h ad) (r.mono h)
def dN.map{α β:Type}[ag α][ag β](kv:aa (α×β)):dN where
 holds A W o:=∃es clock,o=.map es clock∧kF A W es.toList kv∧(∀x∈es.toList,x.born<clock)∧(es.toList.map MapEntry.born).Nodup
 nA:=False
 mono e h:=let⟨es,clock,h1,ad,ay⟩:=h; ⟨es,clock,h1,ad.mono e,ay⟩
def c4{α β:Type}[DecidableEq α]:aa (α×β)->α->av β
 |[],_=>none
 |(k,v)::r,x=>if x=k then some v else c4 r x
def fm{α β:Type}[DecidableEq α]:aa (α×β)->α->β->aa (α×β)
 |[],x,y=>[(x,y)]
 |(k,v)::r,x,y=>if x=k then(x,y)::r else(k,v)::fm r x y
def hv{α β:Type}[DecidableEq α]:aa (α×β)->α->aa (α×β)
 |[],_=>[]
 |(k,v)::r,x=>if x=k then r else(k,v)::hv r x
class je (α:Type) [ag α]:Prop where
 uniq:∀{A W cs cg W' dY} {x:α},ag.rep A W cs x->ag.rep cg W' dY x->cs=dY
 plain:∀{A W cs} {x:α},ag.rep A W cs x->∀v∈cs,∀n,Instr.sameBits n v v=true
instance:je Int:=⟨λh cC=>h.trans cC.symm,λh v a7 n=>by subst h;rw[gG.1 a7];simp[Instr.sameBits]⟩
instance:je (BitVec 64):=⟨λh cC=>h.trans cC.symm,λh v a7 n=>by subst h;rw[gG.1 a7];simp[Instr.sameBits]⟩
instance:je Bool:=⟨λh cC=>h.trans cC.symm,λh v a7 n=>by subst h;rw[gG.1 a7];simp[Instr.sameBits]⟩
instance{α:Type}[ag α][Inhabited α][je α]{n:Nat}:je (Vector α n):=⟨λ{A W cs cg W' dY x} h cC=>by
 have Ff:cs.length=n*ag.size α:=ag.len h;have amo:dY.length=n*ag.size α:=ag.len cC;have key:∀m,m<=n->cs.take (m*ag.size α)=dY.take (m*ag.size α):=by
  intro m;induction m with
  |zero=>intro _;simp
  | succ m bN=>
    intro hm
    have AN:m<n:=hm
    have az:=(aO.idx (α:=α) n m AN).iJ h
    have a8:=(aO.idx (α:=α) n m AN).iJ cC
    have dw:=je.uniq az a8
    rw[qa,Kw,Kw,bN (by omega)]
    congr 1
 have:=key n (h5 _);rwa[<-Ff,l7,Ff,<-amo,l7]at this,
 λ{A W cs x} h v a7 k=>by
  have Ff:cs.length=n*ag.size α:=ag.len h;obtain⟨i,aw,rfl⟩:=Qe a7;by_cases hs:ag.size α=0
  ·rw[hs,Nat.mul_zero]at Ff;omega
  have hq:i/ag.size α<n:=P9 (by rw[Ff,p9]at aw;exact aw);have az:=(aO.idx (α:=α) n (i/ag.size α) hq).iJ h;refine je.plain az _ ?_ k;have aC:i % ag.size α<ag.size α:=Cv _ (by omega);have hd:=BW i (ag.size α);refine mE.2 ⟨i % ag.size α,?_⟩;simp only[aO.idx];rw[jN,bm aC,kM,p9,hd];exact oO aw⟩
def CU{cs dY:aa bd}(o s:Nat)(h:(cs.drop o).take s=(dY.drop o).take s)(k:cs.drop (o+s)=dY.drop (o+s)):cs.drop o=dY.drop o:=by
 rw[<-fw s (cs.drop o),<-fw s (dY.drop o),h,B8,B8,k]
def Tj{cs dY:aa bd}{n:Nat}(h:cs.length=n)(cC:dY.length=n)(k:cs.drop 0=dY.drop 0):cs=dY:=by simpa using k
def Tk{cs dY:aa bd}{n m:Nat}(h:cs.length=n)(cC:dY.length=n)(k:n<=m):cs.drop m=dY.drop m:=by
 rw[yS (by omega),yS (by omega)]
def aa5{α:Type}[ag α][je α]{A W cg W' u v}{x:α}(h:(J.of x).holds A W u)(cC:(J.of x).holds cg W' v):u=v:=by
 obtain⟨h1,ad⟩:=h;obtain⟨ay,aN⟩:=cC;have a6:=je.uniq ad aN;by_cases a1:ag.agg α=true
 ·simp only[shaped,a1,kO]at h1 ay;obtain⟨a,rfl⟩:=h1;obtain⟨b,rfl⟩:=ay;simp only[Value.cells]at a6;congr 1;exact Array.toList_inj.1 a6
 simp only[kN]at a1;simp only[shaped,a1,p4,mK]at h1 ay;rw[cells_one h1,cells_one ay]at a6;simpa using a6
def Sy{P:bd->bd->Bool}:∀{cs:aa bd},(∀v∈cs,P v v=true)->((cs.zip cs).all λ(x,y)=>P x y)=true
 |[],_=>rfl
 | a::r,h=>by
   simp only[List.zip_cons_cons,List.all_cons,gJ];exact⟨h a (by simp),Sy λv a7=>h v (by simp[a7])⟩
def aa6{α:Type}[ag α][je α]{A W u}{x:α}(h:(J.of x).holds A W u)(n:Nat):Instr.sameBits (n+1) u u=true:=by
 obtain⟨h1,ad⟩:=h;by_cases a1:ag.agg α=true
 ·simp only[shaped,a1,kO]at h1;obtain⟨a,rfl⟩:=h1;simp only[Value.cells]at ad;simp only[Instr.sameBits,BQ,wM];exact Sy λv a7=>je.plain ad v a7 n
 simp only[kN]at a1;simp only[shaped,a1,p4,mK]at h1;rw[cells_one h1]at ad;exact je.plain ad u (by simp) _
def abJ{α:Type}[ag α][je α]{P:Program}{A W cg W' u v}{x:α}(h:(J.of x).holds A W u)(cC:(J.of x).holds cg W' v)(iE:bc):(Instr.keyThatStays u v).run P iE=.ok v iE:=by
 have:=aa5 h cC;subst this;simp[Instr.keyThatStays,aa6 h 9999]
def qO(P:Program)(t:bo)(α:Type)[ag α](n:Nat):Prop:=∀b d A W u (x:α),n<=d->(J.of x).holds A W u->(Instr.checkKey b d t u).run P W=.ok () W
def LA{P:Program}{t:bo}{α:Type}[ag α]{D:TypeDesc}(h:P.underlying t=some D)(hd:(match (motive:=TypeDesc->Bool) D with | .interface _| .array _ _| .struct _=>false|_=>true)=true):qO P t α 1:=by
 intro b d A W u x aG al;obtain⟨d,rfl⟩:∃e,d=e+1:=⟨d-1,by omega⟩;simp only[Instr.checkKey,df,dn h,Result.andThen_ok];cases D <;> simp at hd <;> rfl
def Q9{P:Program}{W:bc}{Fg:Type}(f:Fg->Sem Unit):∀(l:aa Fg),(∀i∈l,(f i).run P W=.ok () W)->
 (forIn (m:=Sem) l () (λi _=>do f i;pure (ForInStep.yield ()))).run P W=.ok () W
 |[],_=>by simp
 | i::r,h=>by
   have h1:=h i (by simp);have ad:=Q9 (P:=P) (W:=W) f r (λj aD=>h j (by simp[aD]));rw[F2];simp only[df,h1,Result.andThen_ok,Sem.run_pure];rw[ad]
def Q6{P:Program}{W:bc}{Fg:Type}(f:Fg->PUnit->Sem (ForInStep PUnit)):∀(l:aa Fg),(∀i∈l,(f i ()).run P W=.ok (.yield ()) W)->(forIn (m:=Sem) l PUnit.unit f).run P W=.ok () W
 |[],_=>by simp
 | i::r,h=>by
   have h1:=h i (by simp);have ad:=Q6 (P:=P) (W:=W) f r (λj aD=>h j (by simp[aD]));rw[F2];simp only[df,h1,Result.andThen_ok];exact ad
def TM{P:Program}{t e n k:Nat}{α:Type}[ag α][Inhabited α](h:P.underlying t=some (.array n e))(dO:bG P e α)(he:qO P e α k):qO P t (Vector α n) (k+1):=by
 intro b d A W u x hd al;obtain⟨d,rfl⟩:∃e,d=e+1:=⟨d-1,by omega⟩;obtain⟨h1,ad⟩:=al;obtain⟨xs,rfl⟩:∃cs,u=.agg cs:=by simpa[shaped,ag.agg]using h1
 simp only[Value.cells]at ad;have uc:xs.toList.length=n*ag.size α:=ag.len ad;have xA:∀i∈List.range' 0 n,((do
  let z <-Go.sizeOf e
  let a <-part e xs (i*z)
  Instr.checkKey b d e a):Sem Unit).run P W=.ok () W:=by
  intro i aw
  have gv:i<n:=by simpa using aw
  have fV:i*ag.size α+ag.size α<=n*ag.size α:=(aO.idx (α:=α) n i gv).gk
  obtain⟨a,a1,ud⟩:=tu (A:=A) (P:=P) (W:=W) (cs:=xs) (off:=i*ag.size α) dO (by simp at uc;omega) ((aO.idx (α:=α) n i gv).iJ ad)
  simp only[df,dO.sizeOf,a1,Result.andThen_ok]
  exact he b d A W a _ (by omega) ud
 have aU:=Q9 (P:=P) (W:=W) _ _ xA;simp only[Instr.checkKey,df,dn h,Result.andThen_ok,Jz];simp only[Std.Legacy.Range.size,Nat.sub_zero,Nat.add_one_sub_one,KS]at aU⊢;simp only[bind_assoc]at aU;rw[aU];rfl
inductive Eu(P:Program)(β:Type)[ag β](k:Nat):List Field->Prop
 |nil:Eu P β k []
 |cons {γ:Type} [ag γ] {f r} (l:aO β γ):l.off=f.offset->bG P f.type γ->qO P f.type γ k->Eu P β k r->Eu P β k (f::r)
def R4{P:Program}{t k:Nat}{β:Type}[ag β]{fs:Array Field}(a1:ag.agg β=true)(h:P.underlying t=some (.struct fs))(ak:Eu P β k fs.toList):qO P t β (k+1):=by
 intro b d A W u x hd al;obtain⟨d,rfl⟩:∃e,d=e+1:=⟨d-1,by omega⟩;obtain⟨h1,ad⟩:=al;obtain⟨xs,rfl⟩:∃cs,u=.agg cs:=by simpa[shaped,a1]using h1
 simp only[Value.cells]at ad;have uc:xs.toList.length=ag.size β:=ag.len ad;have xA:∀f∈fs.toList,((do
  if f.name≠ "_" then do
   let a <-part f.type xs f.offset
   Instr.checkKey b d f.type a):Sem Unit).run P W=.ok () W:=by
  have key:∀l,Eu P β k l->∀f∈l,((do
   if f.name≠ "_" then do
    let a <-part f.type xs f.offset
    Instr.checkKey b d f.type a):Sem Unit).run P W=.ok () W:=by
   intro l ao
   induction ao with
   |nil=>simp
   | cons l aS dO hk r bN=>
     rename_i f l1
     intro Bd rL
     rcases dB.1 rL with rfl|rL
     ·split
      ·obtain⟨a,a1,ud⟩:=tu (A:=A) (P:=P) (W:=W) (cs:=xs) (off:=l.off) dO (by have:=l.gk;simp at uc;omega) (l.iJ ad)
       rw[<-aS]
       simp only[df,a1,Result.andThen_ok]
       exact hk b d A W a _ (by omega) ud
      rfl
     exact bN Bd rL
  exact key _ ak
 simp only[Instr.checkKey,df,dn h,Result.andThen_ok];rw[<-Array.forIn_toList,Q6]
 ·rfl
 intro f aU;have:=xA f aU;split
 ·rename_i aG;rw[bm aG]at this;simp only[df]at this⊢;revert this;generalize (part f.type xs f.offset).run P W=r;cases r <;> simp only[Result.andThen] <;> intro h <;> first|rw[h];rfl|cases h
 rfl
structure oN(P:Program)(t:TypeId)(α:Type)[ag α][DecidableEq α]:Prop where
 check:∀b A W u (x:α),(J.of x).holds A W u->(Instr.checkKey b 10000 t u).run P W=.ok () W
 same:∀A W u v (x y:α),(J.of x).holds A W u->(J.of y).holds A W v->(Op.equal t u v).run P W=.ok (decide (x=y)) W
 now:∃D,P.underlying t=some D∧∀A W u v (x y:α),(J.of x).holds A W u->(J.of y).holds A W v->Instr.sameNow D u v=none∨Instr.sameNow D u v=some (decide (x=y))
def lL{α β:Type}[DecidableEq α]:aa (α×β)->α->Nat->av (Nat×β)
 |[],_,_=>none
 |(k,v)::r,x,i=>if x=k then some (i,v)else lL r x (i+1)
def Found{α β:Type}[ag α][ag β](A:aa Nat)(W:bc)(kv:aa (α×β)):av (Nat×bd)->av (Nat×β)->Prop
 |none,none=>True
 |some (i,u),some (j,v)=>i=j∧(J.of v).holds A W u
 |_,_=>False
def Rf{α β:Type}[ag α][ag β][DecidableEq α]{D:TypeDesc}{A:aa Nat}{W:bc}{u:bd}{x:α}(hu:(J.of x).holds A W u)
 (hs:∀v (y:α),(J.of y).holds A W v->Instr.sameNow D u v=none∨Instr.sameNow D u v=some (decide (x=y))) (Ev:aa (α×β)):∀{es:aa MapEntry} {kv:aa (α×β)} (i:Nat),kF A W es kv->
 Instr.findNow D u es i=none∨∃r,Instr.findNow D u es i=some r∧Found A W Ev r (lL kv x i)
 |[],_,i,h=>by cases h;exact .inr ⟨none,rfl,trivial⟩
 | e::es,_,i,h=>by
   cases h with
   | cons h1 ad ay=>
     rename_i k v r
     rcases hs e.key k h1 with aN|aN
     ·exact .inl (by simp[Instr.findNow,aN])
     by_cases hk:x=k
     ·exact .inr ⟨some (i,e.val),by simp[Instr.findNow,aN,hk],by simp only[lL,bm hk];exact⟨rfl,ad⟩⟩
     rcases Rf hu hs Ev (i+1) ay with a6|⟨l1,a6,bh⟩
     ·exact .inl (by simp[Instr.findNow,aN,hk,a6])
     exact .inr ⟨l1,by simp[Instr.findNow,aN,hk,a6],by simp only[lL,bk hk];exact bh⟩
def Q3{α β:Type}[ag α][ag β][DecidableEq α]{P:Program}{t:bo}(kK:oN P t α){A:aa Nat}{W:bc}{u:bd}{x:α}(hu:(J.of x).holds A W u)(Ev:aa (α×β)):∀{es:aa MapEntry} {kv:aa (α×β)} (i:Nat),kF A W es kv->
 ∃r,(Instr.findAsking t u es i).run P W=.ok r W∧Found A W Ev r (lL kv x i)
 |[],_,i,h=>by cases h;exact⟨none,rfl,trivial⟩
 | e::es,_,i,h=>by
   cases h with
   | cons h1 ad ay=>
     rename_i k v r
     have aN:=kK.same A W u e.key x k hu h1
     by_cases hk:x=k
     ·exact⟨some (i,e.val),by simp[Instr.findAsking,df,aN,hk],by simp only[lL,bm hk];exact⟨rfl,ad⟩⟩
     obtain⟨l1,a6,bh⟩:=Q3 kK hu Ev (i+1) ay
     exact⟨l1,by simp[Instr.findAsking,df,aN,hk,a6],by simp only[lL,bk hk];exact bh⟩
def K8{α β:Type}[ag α][ag β][DecidableEq α]{P:Program}{t:bo}(kK:oN P t α){A:aa Nat}{W:bc}{u:bd}{x:α}(hu:(J.of x).holds A W u){es:aa MapEntry}{kv:aa (α×β)}(h:kF A W es kv):
 ∃r,(Instr.findKey t u es).run P W=.ok r W∧Found A W kv r (lL kv x 0):=by
 obtain⟨D,kJ,hs⟩:=kK.now
 rcases Rf hu (λv y hy=>hs A W u v x y hu hy) kv 0 h with h1|⟨r,h1,ad⟩
 ·obtain⟨r,ay,aN⟩:=Q3 kK hu kv 0 h
  exact⟨r,by simp[Instr.findKey,df,dn kJ,h1,ay],aN⟩
 exact⟨r,by simp[Instr.findKey,df,dn kJ,h1],ad⟩
def LM{α β:Type}[ag α][ag β][DecidableEq α]{A:aa Nat}{W:bc}{x:α}:∀{es:aa MapEntry} {kv:aa (α×β)} {j i:Nat} {v:β},kF A W es kv->lL kv x j=some (i,v)->
 ∃m e,i=j+m∧es[m]? =some e∧(J.of x).holds A W e.key∧(∀(e':MapEntry) (y:β),(J.of x).holds A W e'.key->(J.of y).holds A W e'.val->kF A W (es.set m e') (fm kv x y))∧kF A W (es.eraseIdx m) (hv kv x)
 |[],_,j,i,v,h,aU=>by cases h;cases aU
 | e::es,_,j,i,v,h,aU=>by
   cases h with
   | cons h1 ad ay=>
     rename_i k Bc r
     by_cases hk:x=k
     ·subst hk
      simp only[lL,bm]at aU
      simp only[fC,zg]at aU
      exact⟨0,e,by omega,rfl,h1,λe' y g1 g2=>by simp only[fm,bm];exact .cons g1 g2 ay,by simp only[hv,bm];exact ay⟩
     simp only[lL,bk hk]at aU
     obtain⟨m,e',g1,g2,g3,g4,g5⟩:=LM ay aU
     exact⟨m+1,e',by omega,by simpa using g2,g3,λOw y au cD=>by simp only[fm,bk hk];exact .cons h1 ad (g4 Ow y au cD),by simp only[hv,bk hk];exact .cons h1 ad g5⟩
def Ln{α β:Type}[ag α][ag β][DecidableEq α]{A:aa Nat}{W:bc}{x:α}:∀{es:aa MapEntry} {kv:aa (α×β)} {j:Nat},kF A W es kv->lL kv x j=none->
 (∀(e':MapEntry) (y:β),(J.of x).holds A W e'.key->(J.of y).holds A W e'.val->kF A W (es++[e']) (fm kv x y))∧hv kv x=kv
 |[],_,j,h,_=>by cases h;exact⟨λe' y h1 ad=>.cons h1 ad .nil,rfl⟩
 | e::es,_,j,h,aU=>by
   cases h with
   | cons h1 ad ay=>
     rename_i k Bc r
     by_cases hk:x=k
     ·simp[lL,hk]at aU
     simp only[lL,bk hk]at aU
     obtain⟨g1,g2⟩:=Ln ay aU
     exact⟨λe' y au cD=>by simp only[fm,bk hk];exact .cons h1 ad (g1 e' y au cD),by simp only[hv,bk hk,g2]⟩
def kF.length{α β:Type}[ag α][ag β]{A W}:∀{es:aa MapEntry} {kv:aa (α×β)},kF A W es kv->es.length=kv.length
 |_,_,.nil=>rfl
 |_,_,.cons _ _ r=>by simp[r.length]
def RC{α β:Type}[DecidableEq α]:∀(kv:aa (α×β)) (x:α) (i:Nat),(lL kv x i).map (·.2)=c4 kv x
 |[],_,_=>rfl
 |(k,v)::r,x,i=>by simp only[lL,c4];split <;> simp[RC]
section
variable{c:bW}{E:aa (Nat×J)}{L:aa aA}{ops:Array Oper}{Q:Exit->Act->bc->Prop}
variable{d:av Tmp}{ty:bo}{pos:String}{af:Array Edge}{g:av (Nat×Bool)}{x y z:bO}{t t2:bo}
variable{bt:Type}[di bt]{hp:aE bt}{loc:aa aA}
def ae.adv{α β:Type}[ag α][ag β]{rest:aa Oper}{aV:Nat}(mk:bt)(hk:∀p,di.fo p mk=[⟨some p,.map ([]:aa (α×β))⟩])(aG:Nat.blt aV c.n=true)
 (k:∀p,p∉c6 hp->ae c ops Q rest ((aV,.of (⟨some p⟩:dZ))::E) (loc++aY ((p,mk)::hp))):ae c ops Q (⟨some aV,.makeMap t none,ty,pos,af,none⟩::rest) E (loc++aY hp):=λa W s=>by
 refine hl I (R:=λv W'=>v=.map (some W.heap.size)∧W'=W.alloc (.map #[] 0)) (.lj ?_ ⟨rfl,rfl⟩) λv W' ⟨a7,hw⟩=>?_
 ·simp only[execOp,Instr.makeMap,newObj,df,Sem.run_pure];rfl
 subst a7
 subst hw
 refine k _ s.fresh _ _ (bA.put ?_ (by simpa using aG) (u6.2 I))
 refine(s.alloc (cp:=.map ([]:aa (α×β))) ⟨#[],0,rfl,.nil,by simp,by simp⟩).perm ?_
 simp only[aY,hk,List.singleton_append]
 exact p6.symm
def ae.C1{α β:Type}[ag α][ag β]{rest:aa Oper}{aV:Nat}(n:Nat)(ar:L.drop n=aY hp)(mk:bt)(hk:∀p,di.fo p mk=[⟨some p,.map ([]:aa (α×β))⟩])(aG:Nat.blt aV c.n=true)(k:∀a:Nat×aE bt,a.1∉hp.map (·.1)∧a.2=(a.1,mk)::hp->ae c ops Q rest ((aV,.of (⟨some a.1⟩:dZ))::E) (L.take n++aY a.2)):ae c ops Q (⟨some aV,.makeMap t none,ty,pos,af,none⟩::rest) E L:=by
 have e:L=L.take n++aY hp:=by rw[<-ar,fw]
 clear ar;generalize L.take n=loc at *;subst e;exact ae.adv (α:=α) (β:=β) mk hk aG λp h=>k (p,(p,mk)::hp) ⟨h,rfl⟩
def bA.Dk{a:Act}{W:bc}(s:bA c E L a W){p:Nat}{α β:Type}[ag α][ag β]{kv:aa (α×β)}(hm:(⟨some p,.map kv⟩:aA)∈L):
 ∃es clock,W.heap[p]? =some (.map es clock)∧kF (ks L++c.bL) W es.toList kv∧(∀x∈es.toList,x.born<clock)∧(es.toList.map MapEntry.born).Nodup:=by
 obtain⟨o,aS,es,clock,rfl,ad,ay,aN⟩:=s.own _ hm
 exact⟨es,clock,aS,ad,ay,aN⟩
def RD{a:Act}{W:bc}(s:bA c E L a W){p key elem:Nat}{α β:Type}[ag α][ag β][DecidableEq α][Inhabited β]{kv:aa (α×β)}{i:α}(hu:c.P.underlying t=some (.map key elem))(kK:oN c.P key α)(fP:cN c.P elem (default:β))
 (al:aL c E L x (.of (⟨some p⟩:dZ))) (hy:aL c E L y (.of i)) (hm:(⟨some p,.map kv⟩:aA)∈L):
 ∃u,(J.of ((c4 kv i).getD default)).holds (ks L++c.bL) W u∧∀ok,(Instr.lookup t (a.eval x) (a.eval y) ok).run c.P W=.ok (if ok then .tuple #[u,.bool (c4 kv i).isSome]else u) W:=by
 obtain⟨es,clock,aS,ad,ay,aN⟩:=s.Dk hm
 have ly:=u6.1 (al a W s)
 have rN:=hy a W s
 obtain⟨r,aC,aU⟩:=K8 kK rN ad
 obtain⟨fG,dk,dv,b4,Ol⟩:=fP.zero
 have bu:(getObj p).run c.P W=.ok (.map es clock) W:=by simp[getObj,Sem.run,aS]
 have ak:=λb=>kK.check b _ W _ i rN
 have AS:=RC kv i 0
 cases qH:lL kv i 0 with
 | none=>
   rw[qH]at aU AS
   cases r with
   |some q=>exact aU.elim
   | none=>
     refine⟨dk,by rw[<-AS];exact Ol _ W,λok=>?_⟩
     rw[<-AS]
     simp[Instr.lookup,df,dn hu,ly,bu,ak,aC,zeroValue,typeInfo,dv,b4]
 | some q=>
   rw[qH]at aU AS
   cases r with
   |none=>exact aU.elim
   | some mz=>
     refine⟨mz.2,by rw[<-AS];exact aU.2,λok=>?_⟩
     rw[<-AS]
     simp[Instr.lookup,df,dn hu,ly,bu,ak,aC]
def tv{p key elem:Nat}{α β:Type}[ag α][ag β][DecidableEq α][Inhabited β]{kv:aa (α×β)}{i:α}{r:β}(hu:c.P.underlying t=some (.map key elem))(kK:oN c.P key α)(fP:cN c.P elem (default:β))
 (al:aL c E L x (.of (⟨some p⟩:dZ))) (hy:aL c E L y (.of i)) (hm:(⟨some p,.map kv⟩:aA)∈L) (aC:(c4 kv i).getD default=r):
 ba c E L ⟨d,.lookup t x y false,ty,pos,af,g⟩ (.of r):=.pure λa W s=>by
 subst aC
 obtain⟨u,h1,ad⟩:=RD s hu kK fP al hy hm
 have ay:=ad false
 exact⟨u,by simp only[execOp,df,ay,Result.andThen_ok];rfl,h1⟩
def LG{p key elem:Nat}{α β:Type}[ag α][ag β][DecidableEq α][Inhabited β]{kv:aa (α×β)}{i:α}{r:av β}(hu:c.P.underlying t=some (.map key elem))(kK:oN c.P key α)(fP:cN c.P elem (default:β))
 (al:aL c E L x (.of (⟨some p⟩:dZ))) (hy:aL c E L y (.of i)) (hm:(⟨some p,.map kv⟩:aA)∈L) (aC:c4 kv i=r):
 ba c E L ⟨d,.lookup t x y true,ty,pos,af,g⟩ (.bR [.of (r.getD default),.of r.isSome]):=.pure λa W s=>by
 subst aC
 obtain⟨u,h1,ad⟩:=RD s hu kK fP al hy hm
 have ay:=ad true
 exact⟨_,by simp only[execOp,df,ay,Result.andThen_ok];rfl,_,rfl,.cons h1 (.cons (of_bool.2 I) .nil)⟩
def acn{es:aa MapEntry}{m:Nat}{e e':MapEntry}(h:es[m]? =some e)(hb:e'.born=e.born):(es.set m e').map MapEntry.born=es.map MapEntry.born:=by
 apply k6;intro j;simp only[List.getElem?_map,nR];split
 ·rename_i aD;subst aD;have:=(fY.1 h).1;rw[bm this,h];simp[hb]
 rfl
def ae.aex{rest:aa Oper}{op:Op}(qF:op=.mapUpdate t x y z∨op=.insert t x y z){p key elem:Nat}{k k':bt}{α β:Type}[ag α][ag β][je α][DecidableEq α]{kv qI:aa (α×β)}{i:α}{v:β}(hu:c.P.underlying t=some (.map key elem))(kK:oN c.P key α)
 (al:aL c E (loc++aY hp) x (.of (⟨some p⟩:dZ))) (hy:aL c E (loc++aY hp) y (.of i)) (b4:aL c E (loc++aY hp) z (.of v)) (hp':pat hp p=some k) (hk:di.fo p k=[⟨some p,.map kv⟩]) (sZ:fm kv i v=qI) (j0:di.fo p k'=[⟨some p,.map qI⟩])
 (lF:ae c ops Q rest E (loc++aY (bY hp p k'))):ae c ops Q (⟨none,op,ty,pos,af,none⟩::rest) E (loc++aY hp):=λa W s=>by
 subst sZ
 obtain⟨es,clock,aS,ad,ay,aN⟩:=s.Dk (hX (n:=loc.length) (by simp) hp' hk)
 have ly:=u6.1 (al a W s)
 have rN:=hy a W s
 have W1:=b4 a W s
 obtain⟨r,aC,aU⟩:=K8 kK rN ad
 have bu:(getObj p).run c.P W=.ok (.map es clock) W:=by simp[getObj,Sem.run,aS]
 have ak:=kK.check false _ W _ i rN
 have bS:p<W.heap.size:=(qR.1 aS).1
 have gA:∀o,(setObj p o).run c.P W=.ok () (W.putObj p o):=λo=>by simp only[setObj,Sem.run,aS];rfl
 have key:∃mr xt,(Instr.mapUpdate t (a.eval x) (a.eval y) (a.eval z)).run c.P W=.ok () (W.putObj p (.map mr xt))∧kF (ks (loc++aY hp)++c.bL) W mr.toList (fm kv i v)∧(∀x∈mr.toList,x.born<xt)∧(mr.toList.map MapEntry.born).Nodup:=by
  cases qH:lL kv i 0 with
  | none=>
    rw[qH]at aU
    cases r with
    |some q=>exact aU.elim
    | none=>
      obtain⟨g1,_⟩:=Ln ad qH
      refine⟨es.push {key:=a.eval y,val:=a.eval z,born:=clock},clock+1,by simp[Instr.mapUpdate,df,dn hu,ly,bu,ak,aC,gA],by simpa using g1 {key:=a.eval y,val:=a.eval z,born:=clock} v rN W1,?_,?_⟩
      ·intro q hq
       simp only[Array.toList_push,bX,gG]at hq
       rcases hq with hq|rfl
       ·exact Nat.lt_succ_of_lt (ay q hq)
       exact Nat.lt_succ_self _
      simp only[Array.toList_push,tf,mJ,Gx]
      refine nS.2 ⟨aN,by simp,λb hb b' Et=>?_⟩
      simp only[gG]at Et
      subst Et
      obtain⟨q,hq,rfl⟩:=gH.1 hb
      exact KM (ay q hq)
  | some q=>
    rw[qH]at aU
    cases r with
    |none=>exact aU.elim
    | some mz=>
      obtain⟨m,e,g1,g2,g3,g4,_⟩:=LM ad qH
      have iN:mz.1=m:=by have:=aU.1;omega
      have hq:es[m]? =some e:=by simpa using g2
      have cU:=abJ (P:=c.P) g3 rN W
      let e':MapEntry:= {e with key:=a.eval y,val:=a.eval z}
      have xO:(es.modify m λe=>{e with key:=a.eval y,val:=a.eval z}).toList=es.toList.set m e':=by
       apply k6;intro j;rw[wq,JN,nR,wq];by_cases aD:m=j
       ·subst aD;rw[bm I,bm I,hq,bm (by simpa using (qR.1 hq).1)];rfl
       rw[bk aD,bk aD]
      refine⟨es.modify m λe=>{e with key:=a.eval y,val:=a.eval z},clock,by simp[Instr.mapUpdate,df,dn hu,ly,bu,ak,aC,gA,iN,hq,cU],by rw[xO];exact g4 e' v rN W1,?_,?_⟩
      ·rw[xO]
       intro w hw
       rcases PL hw with hw|rfl
       ·exact ay w hw
       exact ay e (er g2)
      rw[xO,acn (e':=e') g2 I];exact aN
 obtain⟨mr,xt,iM,az,a8,dw⟩:=key
 obtain⟨R,bg,bE⟩:=tn hp'
 have bE:=bE k'
 rw[hk]at bg
 rw[j0]at bE
 have cb:∀{z:aa (α×β)} {M:aa aA},M.Perm ([⟨some p,.map z⟩]++R)->(loc++M).Perm (⟨some p,.map z⟩::(loc++R)):=λh=>(h.append_left loc).trans (by simp only[List.singleton_append];exact p6)
 have b1:=(s.perm (cb bg)).rm (i:=0) (cp':=.map (fm kv i v)) I (o':=.map mr xt) ⟨mr,xt,rfl,az.mono (ns (cb bg)),a8,dw⟩
 refine hl I (R:=λv W'=>W'=W.putObj p (.map mr xt)) (.zS ?_ I) λv W' hw=>?_
 ·rcases qF with rfl|rfl <;> simp[execOp,iM]
 subst hw
 exact lF _ _ (b1.perm (cb bE).symm)
def ae.Df{rest:aa Oper}{op:Op}(n:Nat)(ar:L.drop n=aY hp)(qF:op=.mapUpdate t x y z∨op=.insert t x y z){p key elem:Nat}{k k':bt}{cw:aE bt}{α β:Type}[ag α][ag β][je α][DecidableEq α]{kv qI:aa (α×β)}{i:α}{v:β}(hu:c.P.underlying t=some (.map key elem))(kK:oN c.P key α)(al:aL c E L x (.of (⟨some p⟩:dZ)))(hy:aL c E L y (.of i))(b4:aL c E L z (.of v))(hp':pat hp p=some k)(hk:di.fo p k=[⟨some p,.map kv⟩])(sZ:fm kv i v=qI)(j0:di.fo p k'=[⟨some p,.map qI⟩])(b4:bY hp p k'=cw)(lF:ae c ops Q rest E (L.take n++aY cw)):ae c ops Q (⟨none,op,ty,pos,af,none⟩::rest) E L:=by
 subst b4;have e:L=L.take n++aY hp:=by rw[<-ar,fw]
 clear ar;generalize L.take n=loc at *;subst e;exact ae.aex qF hu kK al hy b4 hp' hk sZ j0 lF
def ae.aey{rest:aa Oper}{p key elem:Nat}{k k':bt}{α β:Type}[ag α][ag β][DecidableEq α]{kv qI:aa (α×β)}{i:α}(hu:c.P.underlying t=some (.map key elem))(kK:oN c.P key α)
 (al:aL c E (loc++aY hp) x (.of (⟨some p⟩:dZ))) (hy:aL c E (loc++aY hp) y (.of i)) (hp':pat hp p=some k) (hk:di.fo p k=[⟨some p,.map kv⟩]) (sZ:hv kv i=qI) (j0:di.fo p k'=[⟨some p,.map qI⟩])
 (lF:ae c ops Q rest E (loc++aY (bY hp p k'))):ae c ops Q (⟨none,.call ⟨.builtin .delete,#[x,y],#[t,t2]⟩,ty,pos,af,none⟩::rest) E (loc++aY hp):=λa W s=>by
 subst sZ
 obtain⟨es,clock,aS,ad,ay,aN⟩:=s.Dk (hX (n:=loc.length) (by simp) hp' hk)
 have ly:=u6.1 (al a W s)
 have rN:=hy a W s
 obtain⟨r,aC,aU⟩:=K8 kK rN ad
 have bu:(getObj p).run c.P W=.ok (.map es clock) W:=by simp[getObj,Sem.run,aS]
 have ak:=λb=>kK.check b _ W _ i rN
 have gA:∀o,(setObj p o).run c.P W=.ok () (W.putObj p o):=λo=>by simp only[setObj,Sem.run,aS];rfl
 have key:∃mr,(Builtin.delete_ #[t,t2] ty #[a.eval x,a.eval y]).run c.P W=.ok (.tuple #[]) (W.putObj p (.map mr clock))∧kF (ks (loc++aY hp)++c.bL) W mr.toList (hv kv i)∧(∀x∈mr.toList,x.born<clock)∧(mr.toList.map MapEntry.born).Nodup:=by
  cases qH:lL kv i 0 with
  | none=>
    rw[qH]at aU
    cases r with
    |some q=>exact aU.elim
    | none=>
      obtain⟨_,g1⟩:=Ln ad qH
      exact⟨es,by simp[Builtin.delete_,df,dn hu,ly,bu,ak,aC,gA],by rw[g1];exact ad,ay,aN⟩
  | some q=>
    rw[qH]at aU
    cases r with
    |none=>exact aU.elim
    | some mz=>
      obtain⟨m,e,g1,g2,_,_,g5⟩:=LM ad qH
      have iN:mz.1=m:=by have:=aU.1;omega
      have hm:m<es.size:=by simpa using (fY.1 g2).1
      have he:(es.eraseIdxIfInBounds m).toList=es.toList.eraseIdx m:=by simp[Array.eraseIdxIfInBounds,hm]
      have mn:(es.toList.eraseIdx m).Sublist es.toList:=List.eraseIdx_sublist _ _
      exact⟨es.eraseIdxIfInBounds m,by simp[Builtin.delete_,df,dn hu,ly,bu,ak,aC,gA,iN],by rw[he];exact g5,by rw[he];exact λw hw=>ay w (mn.subset hw),by rw[he];exact(mn.map _).nodup aN⟩
 obtain⟨mr,iM,az,a8,dw⟩:=key
 obtain⟨R,bg,bE⟩:=tn hp'
 have bE:=bE k'
 rw[hk]at bg
 rw[j0]at bE
 have cb:∀{z:aa (α×β)} {M:aa aA},M.Perm ([⟨some p,.map z⟩]++R)->(loc++M).Perm (⟨some p,.map z⟩::(loc++R)):=λh=>(h.append_left loc).trans (by simp only[List.singleton_append];exact p6)
 have b1:=(s.perm (cb bg)).rm (i:=0) (cp':=.map (hv kv i)) I (o':=.map mr clock) ⟨mr,clock,rfl,az.mono (ns (cb bg)),a8,dw⟩
 refine hl I (R:=λv W'=>W'=W.putObj p (.map mr clock)) (.lj (v:=.tuple #[]) ?_ I) λv W' hw=>?_
 ·simp[execOp,resolve,invoke,builtin,iM]
 subst hw
 exact lF _ _ (b1.perm (cb bE).symm)
def ae.H3{rest:aa Oper}{p key elem:Nat}{k k':bt}{cw:aE bt}{α β:Type}[ag α][ag β][DecidableEq α]{kv qI:aa (α×β)}{i:α}(n:Nat)(ar:L.drop n=aY hp)(hu:c.P.underlying t=some (.map key elem))(kK:oN c.P key α)(al:aL c E L x (.of (⟨some p⟩:dZ)))(hy:aL c E L y (.of i))(hp':pat hp p=some k)(hk:di.fo p k=[⟨some p,.map kv⟩])(sZ:hv kv i=qI)(j0:di.fo p k'=[⟨some p,.map qI⟩])(b4:bY hp p k'=cw)(lF:ae c ops Q rest E (L.take n++aY cw)):ae c ops Q (⟨none,.call ⟨.builtin .delete,#[x,y],#[t,t2]⟩,ty,pos,af,none⟩::rest) E L:=by
 subst b4;have e:L=L.take n++aY hp:=by rw[<-ar,fw]
 clear ar;generalize L.take n=loc at *;subst e;exact ae.aey hu kK al hy hp' hk sZ j0 lF
def acU{p key elem:Nat}{α β:Type}[ag α][ag β]{kv:aa (α×β)}(hu:c.P.underlying t=some (.map key elem))(al:aL c E L x (.of (⟨some p⟩:dZ)))(hm:(⟨some p,.map kv⟩:aA)∈L):
 ba c E L ⟨d,.call ⟨.builtin .len,#[x],#[t]⟩,ty,pos,af,g⟩ (.of (kv.length:Int)):=.pure λa W s=>by
 obtain⟨es,clock,aS,ad,ay,aN⟩:=s.Dk hm
 have ly:=u6.1 (al a W s)
 have bu:(getObj p).run c.P W=.ok (.map es clock) W:=by simp[getObj,Sem.run,aS]
 have ao:es.size=kv.length:=by simpa using ad.length
 refine⟨.int .i64 kv.length,?_,of_int.2 I⟩
 simp[execOp,resolve,invoke,builtin,Builtin.len_,ly,bu,ao,dn hu,goInt]
end
def aez{P:Program}{t:bo}(h:P.underlying t=some (.int .i64)):oN P t Int where
 check b A W u x al:=LA (α:=Int) h I b 10000 A W u x (by decide) al
 same A W u v x y al hy:=by
  have:=(Td h).run 10000 (by decide) A W u v x y al hy;simpa[Op.equal,Op.maxDepth]using this
 now:=⟨_,h,λA W u v x y al hy=>.inr (by
  rw[of_int.1 al,of_int.1 hy];simp only[Instr.sameNow,bm];rfl)⟩
def ME{P:Program}{t:bo}{α:Type}[ag α][DecidableEq α]{D:TypeDesc}{n m:Nat}(h:P.underlying t=some D)(kJ:(match (motive:=TypeDesc->Bool) D with | .array _ _| .struct _=>true|_=>false)=true)(amp:qO P t α n)(s7:lr P t α m)(aG:Nat.ble n 10000=true)(hm:Nat.ble m 10000=true):oN P t α where
 check b A W u x al:=amp b 10000 A W u x (ni aG) al
 same A W u v x y al hy:=by
  have:=s7.run 10000 (ni hm) A W u v x y al hy;simpa[Op.equal,Op.maxDepth]using this
 now:=⟨_,h,λA W u v x y al hy=>.inl (by cases D <;> simp at kJ <;> rfl)⟩
structure jK(P:Program)(t:TypeId)(name:String)(f:FuncId):Prop where
 run:∀v W args,(callMethod (.iface t v) name args).run P W=.ok (.enter f (#[v]++args)) W
def jK.of{P:Program}{t:bo}{name:String}{f:FuncId}{i:TypeInfo}{D:TypeDesc}{m:Method}(aw:P.info? t=some i)(hm:i.methods.find? (λx=>x.name==name)=some m)(hp:m.path= #[])(aU:m.func=some (f,false))(kJ:P.underlying t=some D)
 (aG:(match (motive:=TypeDesc->Bool) D with | .pointer _=>false|_=>true)=true) (bU:bx P f):jK P t name f where
 run v W args:=by
  have ale:∀args,(callFunc f args).run P W=.ok (.enter f args) W:=λargs=>bU.run ..;have dy:∀n,(method (n+1) t v name).run P W=.ok (f,v) W:=λn=>by
   simp only[method,df,typeInfo,run_program,Result.andThen_ok,aw,Sem.run_pure,hm,hp,aU,follow,receiverAt,dn kJ];cases D <;> simp at aG <;> simp[Place.get]
  obtain⟨n,aG⟩:∃n,P.types.size+Made.depth=n+1:=⟨P.types.size+Made.depth-1,by simp[Made.depth]⟩;simp only[callMethod,df,run_program,Result.andThen_ok,aG,dy,ale]
def jK.sS{P:Program}{t:bo}{name:String}{f:FuncId}{D:TypeDesc}(hm:((P.info? t).bind λi=>(i.methods.find? (λx=>x.name==name)).map λm=>(m.path.size,m.func))=some (0,some (f,false)))(kJ:P.underlying t=some D)
 (aG:(match (motive:=TypeDesc->Bool) D with | .pointer _=>false|_=>true)=true) (bU:bx P f):jK P t name f:=by
 cases aw:P.info? t with
 |none=>rw[aw]at hm;cases hm
 | some i=>
   rw[aw]at hm
   simp only[Option.bind_some]at hm
   cases ad:i.methods.find? (λx=>x.name==name)with
   |none=>rw[ad]at hm;cases hm
   | some m=>
     rw[ad]at hm
     simp only[Option.map_some,fC,zg]at hm
     exact jK.of aw ad (Array.eq_empty_of_size_eq_zero hm.1) hm.2 kJ aG bU
def bJ.map{P:Program}{f:FuncId}{τs:aa J}{Lin:aa aA}{δ Ox:Type}{ρ:δ->J}{Lo:δ->aa aA}{Ew:Ox->J}{W2:Ox->aa aA}(F:δ->Ox)(aC:∀d,Ew (F d)=ρ d)(ao:∀d,W2 (F d)=Lo d)(h:bJ P f τs Lin ρ Lo):bJ P f τs Lin Ew W2:=
 λA W vs h1 ad ay aN a6=>(h A W vs h1 ad ay aN a6).mono λe W' ⟨v,d,au,cD,gm,lD,iC,oJ⟩=>⟨v,F d,au,cD,by rw[ao];exact gm,by rw[ao];exact lD,by rw[ao];exact iC,by rw[ao,aC];exact oJ⟩
structure lg(P:Program)(name:String)(τ:J)(τs:List J)(Lin:List aA){δ:Type}(ρ:δ->J)(Lo:δ->List aA):Prop where
 go:∀(A:List Nat) (W:World) (u:Value) (vs:List Value),(∀k∈A,k<W.heap.size∧k∉ks Lin)->(ks Lin).Nodup->(∀k∈ks Lin,k<W.heap.size)->(∀e∈Lin,e.ok (ks Lin++A) W)->fK (ks Lin++A) W (τ::τs) (u::vs)->
  ∃f v,(∀args,(callMethod u name args).run P W=.ok (.enter f (#[v]++args)) W)∧Calls P f (v::vs).toArray W (jo (ks Lin) A W ρ Lo)
def lg.of{P:Program}{name:String}{t:bo}{f:FuncId}{τ σ:J}{τs:aa J}{Lin:aa aA}{δ:Type}{ρ:δ->J}{Lo:δ->aa aA}(mt:jK P t name f)(Ex:∀A W u,τ.holds A W u->∃v,u=.iface t v∧σ.holds A W v)
 (h:bJ P f (σ::τs) Lin ρ Lo):lg P name τ τs Lin ρ Lo where
 go A W u vs h1 ad ay aN a6:=by
  cases a6 with
  | cons bh cH=>
    obtain⟨v,rfl,ed⟩:=Ex _ _ _ bh
    exact⟨f,v,λargs=>mt.run v W args,h A W (v::vs) h1 ad ay aN (.cons ed cH)⟩
section
variable{c:bW}{E:aa (Nat×J)}{L:aa aA}{ops:Array Oper}{Q:Exit->Act->bc->Prop}
variable{d:av Tmp}{ty:bo}{pos:String}{af:Array Edge}{g:av (Nat×Bool)}{x y z:bO}{t t2:bo}
def LN{a:Act}{W:bc}{name:String}{xs:aa bO}{ats:Array bo}{τ:J}{τs:aa J}{Lin Lr:aa aA}{δ:Type}{ρ:δ->J}{Lo:δ->aa aA}(h:lg c.P name τ τs Lin ρ Lo)
 (s:bA c E (Lin++Lr) a W) (al:fK (ks (Lin++Lr)++c.bL) W (τ::τs) ((x::xs).map a.eval)):
 gz c.P ⟨d,.call ⟨.invoke x name,xs.toArray,ats⟩,ty,pos,af,g⟩ a W λv W'=> ∃aV,bA c E (Lo aV++Lr) a W'∧(ρ aV).holds (ks (Lo aV++Lr)++c.bL) W' v:=by
 have kd:=s.nodup
 rw[ef]at kd
 obtain⟨lT,pV,oB⟩:=nS.1 kd
 have gA:Ext (ks (Lin++Lr)++c.bL) W (ks Lin++(ks Lr++c.bL)) W:=zT
 have eo:∀k∈ks Lr++c.bL,k<W.heap.size∧k∉ks Lin:=λk hm=>by
  rcases bX.1 hm with hm|hm
  ·exact⟨s.lt k (by rw[ef];exact bX.2 (.inr hm)),λh=>oB k h k hm I⟩
  obtain⟨h1,ad⟩:=s.dK k hm;exact⟨h1,λh=>ad (by rw[ef];exact bX.2 (.inl h))⟩
 have bS:∀k∈ks Lin,k<W.heap.size:=λk hm=>s.lt k (by rw[ef];exact bX.2 (.inl hm))
 obtain⟨f,v,iM,ak⟩:=h.go (ks Lr++c.bL) W (a.eval x) (xs.map a.eval) eo lT bS (λe he=>aA.sk (s.own e (bX.2 (.inl he))) gA λ_ _=>rfl) (by simpa using al.mono gA)
 refine .tt (f:=f) (args:=(v::xs.map a.eval).toArray) (W':=W) ?_ (ak.mono λe W' ⟨v,aV,he,aU,h1,ad,ay,aN⟩=>?_)
 ·have:=iM (xs.map a.eval).toArray
  simp only[execOp,resolve,df,Sem.run_pure,Result.andThen_ok,invoke]
  simp only[List.map_toArray]at this⊢
  simp
  rw[qS (by simp),this]
  simp
 refine⟨v,he,aV,s.after aU h1 ad ay,(ρ aV).mono Ha aN⟩
variable{bt:Type}[di bt]{hp:aE bt}
def ae.DA{rest:aa Oper}{aV:Nat}{name:String}{xs:aa bO}{ats:Array bo}{τ:J}{τs:aa J}{Lin Lr:aa aA}{δ:Type}{ρ:δ->J}{Lo:δ->aa aA}{hq:δ->aE bt}(n m:Nat)(ar:L.drop n=aY hp)(h:lg c.P name τ τs (Lin++aY hp) ρ (λd=>Lo d++aY (hq d)))
 (h1:(L.take n).take m=Lin) (ad:(L.take n).drop m=Lr) (al:gZ c E L (x::xs) (τ::τs)) (aG:Nat.blt aV c.n=true) (k:∀q,ae c ops Q rest ((aV,ρ q)::E) ((Lo q++Lr)++aY (hq q))):
 ae c ops Q (⟨some aV,.call ⟨.invoke x name,xs.toArray,ats⟩,ty,pos,af,none⟩::rest) E L:=by
 have e:L=(Lin++Lr)++aY hp:=by rw[<-h1,<-ad,fw,<-ar,fw]
 clear ar h1 ad
 subst e
 exact λa W s=>hl I (LN (Lr:=Lr) h (s.perm la) ((al.holds a W s).mono (ns la))) λv W' ⟨q,b1,a7⟩=>
  k q _ _ ((b1.perm la).put (by simpa using aG) ((ρ q).mono (ns la) a7))
def eL.DA{name:String}{xs:aa bO}{ats:Array bo}{τ:J}{τs:aa J}{ρ:J}(n:Nat)(ar:L.drop n=aY hp)(h:lg c.P name τ τs (aY hp) (λ_:Unit=>ρ) (λ_=>aY hp))
 (al:gZ c E L (x::xs) (τ::τs)):eL c E L ⟨d,.call ⟨.invoke x name,xs.toArray,ats⟩,ty,pos,af,g⟩ ρ:=λa W s=>by
 have e:L=L.take n++aY hp:=by rw[<-ar,fw]
 have cb:L.Perm (aY hp++L.take n):=by
  conv=>lhs;rw[e]
  exact mF
 have aS:=LN (d:=d) (ty:=ty) (pos:=pos) (af:=af) (g:=g) (ats:=ats) (Lr:=L.take n) h (s.perm cb) ((al.holds a W s).mono (ns cb))
 unfold gz at aS⊢
 exact tk (λgQ W' ⟨v,h1,_,ad,ay⟩=>⟨v,h1,ad.perm cb.symm,ρ.mono (ns cb.symm) ay⟩) aS
def Hy{D:TypeDesc}{σ τ:J}(hu:c.P.underlying t=some D)(kJ:(match (motive:=TypeDesc->Bool) D with | .interface _=>false|_=>true)=true)(al:aL c E L x σ)(Ex:∀A W v,σ.holds A W v->τ.holds A W (.iface t v)):
 ba c E L ⟨d,.makeInterface t x,ty,pos,af,g⟩ τ:=.pure λa W s=>
 ⟨.iface t (a.eval x),by
   simp only[execOp,Instr.makeInterface,df,dn hu,Result.andThen_ok];cases D <;> simp at kJ <;> rfl,Ex _ _ _ (al a W s)⟩
end
def Iz(P:Program)(u:bd){α σ ε γ:Type}(τ:α->J)(Ls:σ->γ->aa aA)(Lx:ε->γ->aa aA)(step:α->σ->ah (σ⊕ε))(amq:aa Nat->bc->Prop):Prop:=
 ∃ l,u=.func (.yield l) #[] #[]∧∀x s R,step x s R->∀g A W v,amq (ks (Ls s g)++A) W->DG A W (Ls s g)->(τ x).holds (ks (Ls s g)++A) W v->
   YieldAt Fence.wide 8 P l #[v] W (λe W'=>(∃b1,R (.inl b1)∧jo (ks (Ls s g)) A W (λ_:γ=>J.of true) (λg=>Ls b1 g) e W')∨∃q,R (.inr q)∧jo (ks (Ls s g)) A W (λ_:γ=>J.of false) (λg=>Lx q g) e W')
structure C3(P:Program)(f:FuncId)(τs:List J){bt:Type}[di bt]{α:Type}(τ:α->J)(run:∀{σ ε:Type},(σ->aE bt)->(α->σ->ah (σ⊕ε))->σ->ah (σ⊕ε)):Prop where
 go:∀{σ ε γ:Type} (Ls:σ->γ->List aA) (Lx:ε->γ->List aA) (hq:σ->aE bt) (kn:σ->γ->List aA),(∀s g,Ls s g=kn s g++aY (hq s))->∀(step:α->σ->ah (σ⊕ε)) (s0:σ) (g0:γ) (R:σ⊕ε->Prop),run hq step s0 R->
  ∀ (A:List Nat) (W:World) (u:Value) (vs:List Value),DG A W (Ls s0 g0)->fK (ks (Ls s0 g0)++A) W τs vs->
    Iz P u τ Ls Lx step (λcg W'=>Ext (ks (Ls s0 g0)++A) W cg W')->
    Calls P f (u::vs).toArray W (jo (ks (Ls s0 g0)) A W (δ:= {r // R r}×γ) (λ_=>.bR []) (λd=>Lr Ls Lx d.1.1 d.2))
def C3.of{P:Program}{f:FuncId}{fn:Func}{code:Code}{n:Nat}{τs:aa J}{bt:Type}[di bt]{α:Type}{τ:α->J}{run:∀{σ ε:Type},(σ->aE bt)->(α->σ->ah (σ⊕ε))->σ->ah (σ⊕ε)}
 (aU:P.funcs[f]? =some fn) (hb:fn.body=some code) (aG:fn.ntmps=n) (hlen:Nat.ble (τs.length+1) n=true)
 (h:∀{σ ε γ:Type} (Ls:σ->γ->aa aA) (Lx:ε->γ->aa aA) (hq:σ->aE bt) (kn:σ->γ->aa aA),(∀s g,Ls s g=kn s g++aY (hq s))->∀(step:α->σ->ah (σ⊕ε)) (s0:σ) (g0:γ) (R:σ⊕ε->Prop),run hq step s0 R->
  ∀ W A u,Iz P u τ Ls Lx step (λcg W'=>Ext (ks (Ls s0 g0)++A) W cg W')->
    ax ⟨P,n,W,ks (Ls s0 g0),A,none,[]⟩ (bodyPost P fn (jo (ks (Ls s0 g0)) A W (δ:= {r // R r}×γ) (λ_=>.bR []) (λd=>Lr Ls Lx d.1.1 d.2))) code (params 0 (.eq u::τs)) (Ls s0 g0)):C3 P f τs τ run:=by
 refine⟨?_⟩
 intro σ ε γ Ls Lx hq kn ov step s0 g0 R aC A W u vs ao a7 hy
 refine GD aU hb (wpIn_wide.1 (h Ls Lx hq kn ov step s0 g0 R aC W A u hy _ _ ?_))
 have ug:fK (ks (Ls s0 g0)++A) W (.eq u::τs) (u::vs):=.cons I a7
 have jG:=ug.length
 have hle:τs.length+1<=n:=ni hlen
 exact
 {defers:=rfl
  size:=by simp at jG;simp[aG,jG];omega
  env:=λt τ eI=>by
   obtain⟨_,v,ad,ay⟩:=w4 ug 0 t τ eI;refine⟨v,?_,ay⟩;have bS:t<(u::vs).length:=(fY.1 ad).1;rw[tb (by simpa using bS)];simpa using ad
  cW:=.refl _ _
  own:=ao.ok
  nodup:=ao.nodup
  lt:=ao.lt
  fa:=λk hk _=>hk
  dK:=ao.dK}
section
variable{c:bW}{E:aa (Nat×J)}{L:aa aA}{ops:Array Oper}{Q:Exit->Act->bc->Prop}
variable{d:av Tmp}{ty:bo}{pos:String}{af:Array Edge}{g:av (Nat×Bool)}{x y:bO}{t t2:bo}
def Up{bt:Type}[di bt]{σ γ:Type}{Ls kn:σ->γ->aa aA}{hq:σ->aE bt}{s:σ}{g:γ}{p:Nat}{k:bt}{e:aA}(n:Nat)(ar:L.drop n=Ls s g)(ov:∀s g,Ls s g=kn s g++aY (hq s))(h:pat (hq s) p=some k)(hk:di.fo p k=[e]):e∈L:=by
 obtain⟨R,h1,_⟩:=tn h;rw[hk]at h1;have:e∈L.drop n:=by rw[ar,ov];exact bX.2 (.inr (h1.mem_iff.2 (by simp)))
 exact yY this
def ae.ad4{rest:aa Oper}{aV ux:Nat}{ats:Array bo}{u:bd}{α σ ε γ:Type}{τ:α->J}{Ls:σ->γ->aa aA}{Lx:ε->γ->aa aA}{step:α->σ->ah (σ⊕ε)}{Lin:aa aA}{x:bO}{v:α}{s:σ}{gg:γ}{R:σ⊕ε->Prop}
 (ak:c.rd=none) (hy:Iz c.P u τ Ls Lx step (λcg W'=>Ext (c.X++c.bL) c.iE cg W')) (aU:look E ux=some (.eq u)) (al:aL c E (Lin++Ls s gg) x (τ v)) (aC:step v s R) (aG:Nat.blt aV c.n=true)
 (aW:∀b1,R (.inl b1)->∀dQ,ae c ops Q rest ((aV,.of true)::E) (Lin++Ls b1 dQ)) (bP:∀q,R (.inr q)->∀dQ,ae c ops Q rest ((aV,.of false)::E) (Lin++Lx q dQ)):
 ae c ops Q (⟨some aV,.call ⟨.value (.tmp ux),#[x],ats⟩,ty,pos,af,none⟩::rest) E (Lin++Ls s gg):=λa W st=>by
 obtain⟨l,rfl,hy⟩:=hy
 obtain⟨Pf,h1,ad⟩:=st.env ux _ aU
 have hu:Pf=.func (.yield l) #[] #[]:=ad
 subst hu
 have rK:bA c E (Ls s gg++Lin) a W:=st.perm mF
 have a7:=al a W st
 have ug:(τ v).holds (ks (Ls s gg)++(ks Lin++c.bL)) W (a.eval x):=(τ v).mono (.drop λk hm=>by
  rw[ef];simp only[bX]at hm⊢;rcases hm with hm|hm|hm
  ·exact .inl (.inr hm)
  ·exact .inl (.inl hm)
  exact .inr hm) a7
 obtain⟨fn,tmps,assign,body,iM,jd⟩:=hy v s R aC gg (ks Lin++c.bL) W (a.eval x) (rK.UY.trans zT) rK.Iy ug
 have Nj:(execOp a.eval ⟨some aV,.call ⟨.value (.tmp ux),#[x],ats⟩,ty,pos,af,none⟩).run c.P W=.ok (.round l fn tmps assign body) W:=by
  rw[<-iM];simp[execOp,resolve,Deferred.ofValue,Act.eval,h1,invoke,df,Sem.run_pure,Result.andThen]
 refine wpListIn_plain I λK pt=>?_
 refine⟨λ_ _=>trivial,?_⟩
 rw[Kx _ _ _ (λ_ h=>by cases h),Nj,Oper.uponIn_round]
 refine⟨λh=>by simp at h,?_⟩
 have Oo:RoundIn c.F (9-1) c.P l fn tmps assign body W _:=jd
 refine Oo.mono λe W' he=>?_
 rcases he with⟨b1,hs,w,dQ,rfl,rL,ay,aN,a6,bh⟩|⟨q,hs,w,dQ,rfl,rL,ay,aN,a6,bh⟩
 ·obtain rfl:=of_bool.1 bh
  refine pt _ _ (aW b1 hs dQ _ _ ?_)
  exact(((rK.after rL ay aN a6).perm mF).put (by simpa using aG) (of_bool.2 I))
 obtain rfl:=of_bool.1 bh
 refine pt _ _ (bP q hs dQ _ _ ?_)
 exact(((rK.after rL ay aN a6).perm mF).put (by simpa using aG) (of_bool.2 I))
def W3{σ ε γ:Type}(c:bW)(cc:ε->Code)(l D:Nat)(rec:Loop)(Ls:σ->γ->aa aA)(Lx:ε->γ->aa aA)(R:σ⊕ε->Prop):Exit->Act->bc->Prop:=λx a W=>
 (∃b1,R (.inl b1)∧x=.normal∧∃g,bA c [] (⟨some l,.is (.loop rec)⟩::⟨some D,.e8⟩::Ls b1 g) a W)∨
 ∃q,R (.inr q)∧xr (cc q)=true∧x=C7 (cc q)∧∃g,bA c [] (⟨some l,.is (.loop rec)⟩::⟨some D,.e8⟩::Lx q g) a W
def aq.aiy{σ ε γ:Type}{cc:ε->Code}{l D:Nat}{rec:Loop}{Ls:σ->γ->aa aA}{Lx:ε->γ->aa aA}{R:σ⊕ε->Prop}{b1:σ}(jd:R (.inl b1))(g:γ)(n:Nat)(ar:L.drop n=⟨some l,.is (.loop rec)⟩::⟨some D,.e8⟩::Ls b1 g):
 aq c (W3 c cc l D rec Ls Lx R) .normal E L:=λa W s=>.inl ⟨b1,jd,rfl,g,by rw[<-ar];exact(s.qm n).less (λt τ h=>by simp[look]at h)⟩
def abp{gt p:Nat}{assign body:Code}{f:FuncId}{pO:aa J}{bt:Type}[di bt]{α σ ε γ ρ:Type}{τ:α->J}{run:∀{σ ε:Type},(σ->aE bt)->(α->σ->ah (σ⊕ε))->σ->ah (σ⊕ε)}
 {Ls:σ->γ->aa aA} {Lx:ε->γ->aa aA} {hq:σ->aE bt} {step:α->σ->ah (σ⊕ε)} {s0:σ} {g0:γ} {k:σ⊕ε->ah ρ} {jM:ρ->Prop} (kn:σ->γ->aa aA) (cc:ε->Code)
 (ak:c.rd=none) (bU:bx c.P f) (bu:look E gt=some (.ju f pO)) (nM:C3 c.P f pO τ run) (aC:ah.bind (run hq step s0) k jM) (ov:∀s g,Ls s g=kn s g++aY (hq s)) (ar:L=Ls s0 g0) (hp:Nat.blt p c.n=true)
 (su:∀x s R,step x s R->∀g (o8:bc) (pr o9:aa Nat) (l D:Nat) (rec:Loop),rec.state=.ready->
  ax ⟨c.P,c.n,o8,pr,o9,some l,[]⟩ (Exit.then (Jp ⟨c.P,c.n,o8,pr,o9,some l,[]⟩ l body (W3 ⟨c.P,c.n,o8,pr,o9,some l,[]⟩ cc l D {rec with state:=.busy} Ls Lx R)) (λ_ _ _=>False)) assign ((p,τ x)::E) (⟨some l,.is (.loop rec)⟩::⟨some D,.e8⟩::Ls s g))
 (ra:∀b1,k (.inl b1) jM->∀g D,aq {c with ds:=rk D::c.ds} Q .normal E (⟨some D,.e8⟩::Ls b1 g))
 (Di:∀q,k (.inr q) jM->∀g D,ax {c with ds:=rk D::c.ds} Q (cc q) E (⟨some D,.e8⟩::Lx q g)):
 ax c Q (.rangeFunc (.tmp gt) #[p] assign body) E L:=λa W st=>by
 subst ar
 refine wpIn_rangeFunc λfn I5=>?_
 show ∃l mark xP d agR Bd args ajl,(Instr.enterLoop fn a.tmps #[p] assign body c.rd).run c.P W=_∧_
 rw[ak]
 obtain⟨rec,kW⟩:∃rec:Loop,rec= {state:=.ready,pending:=none,fn,tmps:=a.tmps,params:= #[p],assign,body,defers:=W.heap.size}:=⟨_,rfl⟩
 obtain⟨v,Em,fj,yc,ak3⟩:=st.env gt _ bu
 obtain⟨gR,En⟩:∃gR,(W.alloc (.deferred (some []))).alloc (.loop rec)=gR:=⟨_,rfl⟩
 have s1:=(st.alloc (o:=.deferred (some [])) (cp:=.e8) I).alloc (o:=.loop rec) (cp:=.is (.loop rec)) I
 rw[En,FW]at s1
 obtain⟨D,kJ⟩:∃D,D=W.heap.size:=⟨_,rfl⟩
 obtain⟨l,ao⟩:∃l,l=W.heap.size+1:=⟨_,rfl⟩
 have Eo:=run_enterLoop_outer (P:=c.P) (w:=W) fn a.tmps #[p] assign body
 rw[<-kW,En,<-ao,<-kJ]at Eo
 rw[<-ao,<-kJ]at s1
 obtain⟨lU,rM⟩:∃lU:σ->γ->aa aA,lU=λs g=>⟨some l,.is (.loop rec)⟩::⟨some D,.e8⟩::Ls s g:=⟨_,rfl⟩
 obtain⟨pe,Ep⟩:∃pe:ε->γ->aa aA,pe=λq g=>⟨some l,.is (.loop {rec with state:=.done,pending:=some (cc q)})⟩::⟨some D,.e8⟩::Lx q g:=⟨_,rfl⟩
 have s2:bA c E (lU s0 g0) a gR:=by rw[rM];exact s1
 have Ot:fK (ks (lU s0 g0)++c.bL) gR pO fj:=by
  have h1:(J.ju f pO).holds (ks (lU s0 g0)++c.bL) gR v:=by
   obtain⟨Bc,h1,ad⟩:=s2.env gt _ bu;rw[Em]at h1;cases h1;exact ad
  obtain⟨Ou,az,a8⟩:=h1;rw[yc]at az;have:Ou=fj:=by injection az with _ _ az;injection az with az;exact az.symm
  rw[<-this];exact a8
 have Er:bA c E ((lU s0 g0)++[]) a gR:=by rw[l8];exact s2
 have Dj:=Er.Iy
 simp only[ks,List.nil_append]at Dj
 have NW:Iz c.P (.func (.yield l) #[] #[]) τ lU pe step (λcg W'=>Ext (ks (lU s0 g0)++c.bL) gR cg W'):=by
  refine⟨l,rfl,λx s Jq hs g A px v2 ha hle a7=>?_⟩;have DH:=hle;rw[rM]at DH;obtain⟨o,cO,ez⟩:=DH.ok ⟨some l,.is (.loop rec)⟩ (by simp);have rn:o=.loop rec:=ez;subst rn;have hy:=run_yield (P:=c.P) (args:= #[v2]) cO (by rw[kW];rfl);refine⟨_,_,_,_,hy,roundIn_of_wpIn q5 ?_⟩;have az:rec.assign=assign:=by rw[kW]
  have a8:rec.body=body:=by rw[kW]
  have dw:rec.params= #[p]:=by rw[kW]
  have h2:rec.tmps=a.tmps:=by rw[kW]
  rw[az,a8,dw,h2];refine G6 (n:=9) I ?_;have Nk:((#[p]:Array Tmp).zip #[v2]).foldl (λtmps (t,a)=>tmps.setIfInBounds t a) a.tmps=a.tmps.setIfInBounds p v2:=by simp
  rw[Nk];subst rM Ep;refine wpIn_mono ((su x s Jq hs g px (ks (⟨some l,.is (.loop rec)⟩::⟨some D,.e8⟩::Ls s g)) A l D rec (by rw[kW])) {tmps:=a.tmps.setIfInBounds p v2,defers:=[]} px ?_) ?_
  ·have lV:p<c.n:=by simpa using hp
   exact
   {defers:=rfl
    size:=by simp[s2.size]
    env:=λt rF eI=>by
     simp only[look]at eI;by_cases e:Nat.beq p t=true
     ·rw[e]at eI;simp only[cond_true,fC]at eI;subst eI;have:=eO.1 e;subst this;exact⟨v2,by simp[s2.size,lV],a7⟩
     simp only[kN]at e;rw[e]at eI;simp only[cond_false]at eI;obtain⟨u,h1,ad⟩:=s2.env t rF eI;have cR:p≠t:=λh=>by rw[eO.2 h]at e;cases e
     exact⟨u,by rw[JA cR];exact h1,rF.mono ha ad⟩
    cW:=.refl _ _
    own:=hle.ok
    nodup:=hle.nodup
    lt:=hle.lt
    fa:=λk hk _=>hk
    dK:=hle.dK}
  intro e a3 aml hq;cases e with
  | normal=>
    obtain⟨Pg,Ov,hb⟩:=hq
    refine⟨Pg,Ov,G6 (n:=9) I (wpIn_mono hb ?_)⟩
    intro e a5 Fc I6
    have fin:∀(jump:av Code) {Lr:aa aA},bA ⟨c.P,c.n,px,ks (⟨some l,.is (.loop rec)⟩::⟨some D,.e8⟩::Ls s g),A,some l,[]⟩ [] (⟨some l,.is (.loop {rec with state:=.busy})⟩::⟨some D,.e8⟩::Lr) a5 Fc->
     ∃pY,(Instr.endRound l jump).run c.P Fc=.ok (.bool jump.isNone) pY∧bA ⟨c.P,c.n,px,ks (⟨some l,.is (.loop rec)⟩::⟨some D,.e8⟩::Ls s g),A,some l,[]⟩ [] (⟨some l,.is (.loop {rec with state:=if jump.isNone then .ready else .done,pending:=jump})⟩::⟨some D,.e8⟩::Lr) a5 pY:=λjump Lr pZ=>by
     obtain⟨o,h1,ad⟩:=pZ.own ⟨some l,.is (.loop {rec with state:=.busy})⟩ (by simp)
     have k2:o=.loop {rec with state:=.busy}:=ad
     subst k2
     exact⟨_,run_endRound jump h1,pZ.rm (i:=0) I I⟩
    rcases I6 with⟨b1,iA,rfl,dQ,pZ⟩|⟨q,iA,aD,rfl,dQ,pZ⟩
    ·obtain⟨pY,bh,uy⟩:=fin none pZ
     refine⟨_,pY,bh,.inl ⟨b1,iA,?_⟩⟩
     have yd:({rec with state:=if (none:av Code).isNone then .ready else .done,pending:=none}:Loop)=rec:=by rw[kW];rfl
     rw[yd]at uy
     exact uy.ends (ρ:=λ_:γ=>J.of true) (Lo:=λg=>⟨some l,.is (.loop rec)⟩::⟨some D,.e8⟩::Ls b1 g) dQ (wC _) (of_bool.2 I)
    obtain⟨pY,bh,uy⟩:=fin (some (cc q)) pZ
    have key:jo (ks (⟨some l,.is (.loop rec)⟩::⟨some D,.e8⟩::Ls s g)) A px (λ_:γ=>J.of false) (λg=>⟨some l,.is (.loop {rec with state:=.done,pending:=some (cc q)})⟩::⟨some D,.e8⟩::Lx q g) (.returned (.bool false)) pY:=
     uy.ends (ρ:=λ_:γ=>J.of false) (Lo:=λg=>⟨some l,.is (.loop {rec with state:=.done,pending:=some (cc q)})⟩::⟨some D,.e8⟩::Lx q g) dQ (wC _) (of_bool.2 I)
    exact Q8 aD bh (.inr ⟨q,iA,key⟩)
  |exit id=>exact hq.elim
  |goto t=>exact hq.elim
  |ret=>exact hq.elim
  |panic E5=>exact hq.elim
  |outgrown=>exact hq.elim
 have xC:=nM.go lU pe hq (λs g=>⟨some l,.is (.loop rec)⟩::⟨some D,.e8⟩::kn s g) (λs g=>by rw[rM];simp only[ov,List.cons_append]) step s0 g0 (λr=>k r jM) aC c.bL gR (.func (.yield l) #[] #[]) fj Dj Ot NW
 have lv:a.eval (.tmp gt)=.func (.func f) #[] fj.toArray:=by simp[Act.eval,Em,yc]
 refine⟨l,[rk D],gR,{target:=.fn (.func f) fj.toArray,args:= #[.func (.yield l) #[] #[]]},gR,f,#[.func (.yield l) #[] #[]]++fj.toArray,gR,Eo,?_,λ_ _=>trivial,?_,λh=>by simp at h,?_⟩
 ·simp only[resolve,lv]
  simp[go_sem]
 ·simp[invoke,go_sem,bU.run]
 refine CallsIn.L3 ?_
 have Nl:(#[.func (.yield l) #[] #[]]++fj.toArray:Array bd)=(.func (.yield l) #[] #[]::fj).toArray:=by simp
 rw[Nl]
 refine xC.mono λe Ph ⟨amm,⟨⟨r,W4⟩,dQ⟩,he,aU,ay,aN,a6,bh⟩=>?_
 subst he
 have p0:=Er.after aU ay (by simpa[ks]using aN) (by simpa[ks]using a6)
 rw[l8]at p0
 cases r with
 | inl b1=>
   simp only[Lr]at p0
   subst rM
   obtain⟨o,cO,ez⟩:=p0.own ⟨some l,.is (.loop rec)⟩ (by simp)
   have rn:o=.loop rec:=ez
   subst rn
   have o5:=GF (P:=c.P) cO (by rw[kW];simp)
   have lV:rec.pending=none:=by rw[kW]
   rw[lV]at o5
   refine⟨none,_,o5,?_⟩
   have uz:=(p0.rm (i:=0) (cp':=.is (.loop {rec with state:=.exhausted})) (o':=.loop {rec with state:=.exhausted}) I I).qm 1
   rw[lV]at uz
   exact ra b1 W4 dQ D _ _ (uz.mark D)
 | inr q=>
   simp only[Lr]at p0
   subst Ep
   obtain⟨o,cO,ez⟩:=p0.own ⟨some l,.is (.loop {rec with state:=.done,pending:=some (cc q)})⟩ (by simp)
   have rn:o=.loop {rec with state:=.done,pending:=some (cc q)}:=ez
   subst rn
   have o5:=GF (P:=c.P) cO (by simp)
   refine⟨some (cc q),_,o5,?_⟩
   have uz:=(p0.rm (i:=0) (cp':=.is (.loop {rec with state:=.exhausted,pending:=some (cc q)})) (o':=.loop {rec with state:=.exhausted,pending:=some (cc q)}) I I).qm 1
   exact Di q W4 dQ D _ _ (uz.mark D)
end
def ah.any(α:Type):ah α:=λQ=> ∀x,Q x
def ah.any_bind{α β:Type}{k:α->ah β}{R:β->Prop}(h:ah.bind (ah.any α) k R)(x:α):k x R:=h x
def fK.append{A:aa Nat}{W:bc}:∀{τs σs:aa J} {vs us:aa bd},fK A W τs vs->fK A W σs us->fK A W (τs++σs) (vs++us)
 |_,_,_,_,.nil,h=>h
 |_,_,_,_,.cons h r,ad=>.cons h (r.append ad)
section
variable{c:bW}{E:aa (Nat×J)}{L:aa aA}{ops:Array Oper}{Q:Exit->Act->bc->Prop}
variable{d:av Tmp}{ty:bo}{pos:String}{af:Array Edge}{g:av (Nat×Bool)}{x y:bO}{t t2:bo}
def dE(c:bW)(E:aa (Nat×J))(L:aa aA)(o:Oper){δ:Type}(ρ:δ->J)(L':δ->aa aA):Prop:=
 ∀a W,bA c E L a W->gz c.P o a W λv W'=> ∃q,bA c E (L' q) a W'∧(ρ q).holds (ks (L' q)++c.bL) W' v
def ae.pq{o:Oper}{rest:aa Oper}{aV:Nat}{δ:Type}{ρ:δ->J}{L':δ->aa aA}(h:dE c E L o ρ L')(bu:o.guard=none)(hd:o.dst=some aV)(aG:Nat.blt aV c.n=true)
 (k:∀q,ae c ops Q rest ((aV,ρ q)::E) (L' q)):ae c ops Q (o::rest) E L:=λa W s=>
 hl bu (h a W s) λv W' ⟨q,f,a7⟩=>by
  rw[hd];exact k q _ _ (f.put (by simpa using aG) a7)
def ae.XJ{o:Oper}{rest:aa Oper}{aV j gs:Nat}{b want:Bool}{δ β:Type}{σ:β->J}{L2:β->aa aA}{K:β->Prop}{val:δ->β}{ρ:δ->J}{L':δ->aa aA}(bu:o.guard=some (j,want))(aD:(ops[j]?).bind (·.dst)=some gs)
 (ao:look E gs=some (.of b)) (hd:o.dst=some aV) (aG:Nat.blt aV c.n=true) (h:b=want->dE c E L o ρ L')
 (h1:b=want->∀q,K (val q)∧ρ q=σ (val q)∧L' q=L2 (val q)) (ad: ¬b=want->∃y,K y∧L=L2 y)
 (k:∀y,K y->ae c ops Q rest ((aV,.cond (b=want) (σ y))::E) (L2 y)):ae c ops Q (o::rest) E L:=λa W s=>by
 have hy:=G1 aD ao s
 unfold bW.rE wpListIn
 by_cases hb:b=want
 ·rw[bm (by simp[Region.wanted,bu,hy,hb])]
  refine((h hb a W s).wpIn λv W' ⟨q,f,a7⟩=>?_)
  obtain⟨az,a8,dw⟩:=h1 hb q
  rw[a8]at a7
  rw[dw]at f a7
  rw[hd]
  exact k _ az _ _ (f.put (by simpa using aG) ⟨λ_=>a7,λh=>absurd hb h⟩)
 rw[bk (by simp[Region.wanted,bu,hy,hb])]
 rw[hd]
 obtain⟨y,az,a8⟩:=ad hb
 rw[a8]at s
 exact⟨λ_ _=>trivial,k y az _ _ (s.put (by simpa using aG) ⟨λh=>absurd h hb,λ_=>rfl⟩)⟩
def dE.perm{eY:aa aA}{o:Oper}{δ:Type}{ρ:δ->J}{L' L2:δ->aa aA}(p:L.Perm eY)(XK:∀q,(L' q).Perm (L2 q))(h:dE c E eY o ρ L'):dE c E L o ρ L2:=λa W s=>by
 have:=h a W (s.perm p);unfold gz at this⊢;exact tk (λgQ W' ⟨v,h1,q,ad,ay⟩=>⟨v,h1,q,ad.perm (XK q),(ρ q).mono (ns (XK q)) ay⟩) this
def dE.to{o:Oper}{δ:Type}{ρ:δ->J}{L' L2:δ->aa aA}(e:∀q,L' q=L2 q)(h:dE c E L o ρ L'):dE c E L o ρ L2:=by
 have:L'=L2:=funext e;subst this;exact h
def dE.hQ{α:Type}[ag α]{o:Oper}{i s cap T:Nat}{key:av Nat}{xs:aa α}{δ:Type}{ρ:δ->J}{L':δ->aa aA}(ao:look E s=some (.eq (aZ key xs.length cap)))(ar:L[i]? =some ⟨key,.row T xs cap⟩)
 (h:dE c ((s,.of xs)::E) (L.set i ⟨none,.dead⟩) o ρ L'):dE c E L o ρ L':=λa W st=>by
 have h1:=h a W (st.freeze ao ar)
 unfold gz at h1⊢
 refine tk (λgQ W' ⟨v,ad,q,b1,ay⟩=>⟨v,ad,q,{b1 with env:=λt τ eI=>?_},ay⟩) h1
 by_cases e:Nat.beq s t=true
 ·have:=eO.1 e
  subst this
  rw[ao]at eI
  cases eI
  obtain⟨v,aN,a6⟩:=st.env s _ ao
  exact⟨v,aN,a6⟩
 refine b1.env t τ ?_
 simp only[look]
 rw[kN]at e
 rw[e]
 exact eI
def dE.ajn{o:Oper}{δ:Type}{τ:J}(h:dE c E L o (λ_:δ=>τ) (λ_=>L)):eL c E L o τ:=λa W s=>by
 have:=h a W s;unfold gz at this⊢;exact tk (λgQ W' ⟨v,h1,q,ad,ay⟩=>⟨v,h1,ad,ay⟩) this
def dE.call{o:Oper}{f:FuncId}{rT:Act->aa bd}{τs:aa J}{Lin Lr:aa aA}{δ:Type}{ρ:δ->J}{Lo:δ->aa aA}(h:bJ c.P f τs Lin ρ Lo)
 (ak:∀a W,bA c E (Lin++Lr) a W->(execOp a.eval o).run c.P W=.ok (.enter f (rT a).toArray) W∧fK (ks (Lin++Lr)++c.bL) W τs (rT a)):dE c E (Lin++Lr) o ρ (λq=>Lo q++Lr):=λa W s=>by
 obtain⟨iM,al⟩:=ak a W s
 have kd:=s.nodup
 rw[ef]at kd
 obtain⟨lT,pV,oB⟩:=nS.1 kd
 have gA:Ext (ks (Lin++Lr)++c.bL) W (ks Lin++(ks Lr++c.bL)) W:=zT
 have eo:∀k∈ks Lr++c.bL,k<W.heap.size∧k∉ks Lin:=λk hm=>by
  rcases bX.1 hm with hm|hm
  ·exact⟨s.lt k (by rw[ef];exact bX.2 (.inr hm)),λh=>oB k h k hm I⟩
  obtain⟨h1,ad⟩:=s.dK k hm;exact⟨h1,λh=>ad (by rw[ef];exact bX.2 (.inl h))⟩
 have bS:∀k∈ks Lin,k<W.heap.size:=λk hm=>s.lt k (by rw[ef];exact bX.2 (.inl hm))
 refine .tt (f:=f) (args:=(rT a).toArray) (W':=W) iM ?_
 refine(h (ks Lr++c.bL) W (rT a) eo lT bS (λe he=>aA.sk (s.own e (bX.2 (.inl he))) gA λ_ _=>rfl) (al.mono gA)).mono λe W' ⟨v,aV,he,aU,h1,ad,ay,aN⟩=>?_
 exact⟨v,he,aV,s.after aU h1 ad ay,(ρ aV).mono Ha aN⟩
def dE.U1{o:Oper}{bt:Type}[di bt]{hp:aE bt}{Lin Lr:aa aA}{δ:Type}{ρ:δ->J}{Lo:δ->aa aA}{hq:δ->aE bt}(n m:Nat)(ar:L.drop n=aY hp)(h1:(L.take n).take m=Lin)(ad:(L.take n).drop m=Lr)
 (h:dE c E ((Lin++aY hp)++Lr) o ρ (λq=>(Lo q++aY (hq q))++Lr)):dE c E L o ρ (λq=>(Lo q++Lr)++aY (hq q)):=by
 have e:L=(Lin++Lr)++aY hp:=by rw[<-h1,<-ad,fw,<-ar,fw]
 clear ar h1 ad
 subst e
 exact h.perm la λq=>la
def dE.dz{f:FuncId}{xs:aa bO}{ats:Array bo}{bt:Type}[di bt]{hp:aE bt}{τs:aa J}{Lin Lr:aa aA}{δ:Type}{ρ:δ->J}{Lo:δ->aa aA}{hq:δ->aE bt}(n m:Nat)(ar:L.drop n=aY hp)(bU:bx c.P f)(h:bJ c.P f τs (Lin++aY hp) ρ (λd=>Lo d++aY (hq d)))
 (h1:(L.take n).take m=Lin) (ad:(L.take n).drop m=Lr) (al:gZ c E L xs τs):dE c E L ⟨d,.call ⟨.value (.func f),xs.toArray,ats⟩,ty,pos,af,g⟩ ρ (λq=>(Lo q++Lr)++aY (hq q)):=by
 have e:L=(Lin++Lr)++aY hp:=by rw[<-h1,<-ad,fw,<-ar,fw]
 refine dE.U1 n m ar h1 ad (dE.call (rT:=λa=>xs.map a.eval) h λa W s=>⟨by simp[execOp,resolve,Deferred.ofValue,Act.eval,invoke,bU.run],?_⟩)
 subst e
 exact(al.holds a W (s.perm la.symm)).mono (ns la)
def dE.pI{f:FuncId}{xs:aa bO}{ats:Array bo}{τs:aa J}{Lin Lr:aa aA}{δ:Type}{ρ:δ->J}{Lo:δ->aa aA}(m:Nat)(bU:bx c.P f)(h:bJ c.P f τs Lin ρ Lo)
 (h1:L.take m=Lin) (ad:L.drop m=Lr) (al:gZ c E L xs τs):dE c E L ⟨d,.call ⟨.value (.func f),xs.toArray,ats⟩,ty,pos,af,g⟩ ρ (λq=>Lo q++Lr):=by
 have e:L=Lin++Lr:=by rw[<-h1,<-ad,fw]
 clear h1 ad
 subst e
 exact dE.call (rT:=λa=>xs.map a.eval) h λa W s=>⟨by simp[execOp,resolve,Deferred.ofValue,Act.eval,invoke,bU.run],al.holds a W s⟩
def aL.adw{j6:bO}{f:FuncId}{rp τs:aa J}{xs:aa bO}{ats:Array bo}(bU:bx c.P f)(aU:aL c E L j6 (.ju f rp))(al:gZ c E L xs τs){a:Act}{W:bc}(s:bA c E L a W):
 ∃fj:aa bd,(execOp a.eval ⟨d,.call ⟨.value j6,xs.toArray,ats⟩,ty,pos,af,g⟩).run c.P W=.ok (.enter f (xs.map a.eval++fj).toArray) W∧fK (ks L++c.bL) W (τs++rp) (xs.map a.eval++fj):=by
 obtain⟨fj,h1,ad⟩:=aU a W s
 exact⟨fj,by simp[execOp,resolve,Deferred.ofValue,h1,invoke,bU.run],(al.holds a W s).append ad⟩
def dE.ju{j6:bO}{f:FuncId}{rp τs:aa J}{xs:aa bO}{ats:Array bo}{Lin Lr:aa aA}{δ:Type}{ρ:δ->J}{Lo:δ->aa aA}(m:Nat)(bU:bx c.P f)(aU:aL c E L j6 (.ju f rp))(h:bJ c.P f (τs++rp) Lin ρ Lo)
 (h1:L.take m=Lin) (ad:L.drop m=Lr) (al:gZ c E L xs τs):dE c E L ⟨d,.call ⟨.value j6,xs.toArray,ats⟩,ty,pos,af,g⟩ ρ (λq=>Lo q++Lr):=by
 have e:L=Lin++Lr:=by rw[<-h1,<-ad,fw]
 clear h1 ad
 subst e
 intro a W s
 obtain⟨fj,ay,aN⟩:=aL.adw (d:=d) (ty:=ty) (pos:=pos) (af:=af) (g:=g) (ats:=ats) bU aU al s
 have kd:=s.nodup
 rw[ef]at kd
 obtain⟨lT,pV,oB⟩:=nS.1 kd
 have gA:Ext (ks (Lin++Lr)++c.bL) W (ks Lin++(ks Lr++c.bL)) W:=zT
 have eo:∀k∈ks Lr++c.bL,k<W.heap.size∧k∉ks Lin:=λk hm=>by
  rcases bX.1 hm with hm|hm
  ·exact⟨s.lt k (by rw[ef];exact bX.2 (.inr hm)),λh=>oB k h k hm I⟩
  obtain⟨h1,ad⟩:=s.dK k hm;exact⟨h1,λh=>ad (by rw[ef];exact bX.2 (.inl h))⟩
 have bS:∀k∈ks Lin,k<W.heap.size:=λk hm=>s.lt k (by rw[ef];exact bX.2 (.inl hm))
 refine .tt (f:=f) (W':=W) ay ?_
 refine(h (ks Lr++c.bL) W _ eo lT bS (λe he=>aA.sk (s.own e (bX.2 (.inl he))) gA λ_ _=>rfl) (aN.mono gA)).mono λe W' ⟨v,aV,he,aU,h1,ad,ay,aN⟩=>?_
 exact⟨v,he,aV,s.after aU h1 ad ay,(ρ aV).mono Ha aN⟩
def gZ.perm{eY:aa aA}(p:L.Perm eY):∀{xs:aa bO} {τs:aa J},gZ c E L xs τs->gZ c E eY xs τs
 |[],[],h=>h
 |_::_,_::_,h=>⟨h.1.perm p,gZ.perm p h.2⟩
 |[],_::_,h=>h.elim
 |_::_,[],h=>h.elim
def dE.aiv{j6:bO}{f:FuncId}{rp τs:aa J}{xs:aa bO}{ats:Array bo}{bt:Type}[di bt]{hp:aE bt}{Lin Lr:aa aA}{δ:Type}{ρ:δ->J}{Lo:δ->aa aA}{hq:δ->aE bt}(n m:Nat)(ar:L.drop n=aY hp)(bU:bx c.P f)(aU:aL c E L j6 (.ju f rp))(h:bJ c.P f (τs++rp) (Lin++aY hp) ρ (λd=>Lo d++aY (hq d)))
 (h1:(L.take n).take m=Lin) (ad:(L.take n).drop m=Lr) (al:gZ c E L xs τs):dE c E L ⟨d,.call ⟨.value j6,xs.toArray,ats⟩,ty,pos,af,g⟩ ρ (λq=>(Lo q++Lr)++aY (hq q)):=by
 have e:L=(Lin++Lr)++aY hp:=by rw[<-h1,<-ad,fw,<-ar,fw]
 refine dE.U1 n m ar h1 ad ?_
 subst e
 refine dE.to (λq=>rfl) (dE.ju (Lin++aY hp).length bU (aU.perm la) h F9 List.drop_left (al.perm la))
def dE.obj{f:FuncId}{xs:aa bO}{ats:Array bo}{bt:Type}[di bt]{hp:aE bt}{p:Nat}{k:bt}{τs:aa J}{Lin:aa aA}{δ:Type}{ρ:δ->J}{Lo:δ->aa aA}(n:Nat)(k':δ->bt)(ar:L.drop n=aY hp)(hp':pat hp p=some k)(bU:bx c.P f)(h:bJ c.P f τs Lin ρ Lo)
 (hk:di.fo p k=Lin) (j0:∀q,di.fo p (k' q)=Lo q) (al:gZ c E L xs τs):dE c E L ⟨d,.call ⟨.value (.func f),xs.toArray,ats⟩,ty,pos,af,g⟩ ρ (λq=>L.take n++aY (bY hp p (k' q))):=by
 obtain⟨R,bg,bE⟩:=tn hp'
 have e:L=L.take n++aY hp:=by rw[<-ar,fw]
 have cb:∀{M X:aa aA},M.Perm (X++R)->(L.take n++M).Perm (X++(R++L.take n)):=λh=>mF.trans ((h.append_right _).trans (by rw[h3]))
 have Oy:L.Perm (Lin++(R++L.take n)):=by
  conv=>lhs;rw[e]
  exact cb (by rw[<-hk];exact bg)
 refine dE.perm Oy (λq=>(cb (bE (k' q))).symm) ?_
 refine dE.to (λq=>by rw[j0]) (dE.call (Lr:=R++L.take n) (rT:=λa=>xs.map a.eval) h λa W s=>⟨by simp[execOp,resolve,Deferred.ofValue,Act.eval,invoke,bU.run],?_⟩)
 exact(al.holds a W (s.perm Oy.symm)).mono (ns Oy)
def eL.obj{f:FuncId}{xs:aa bO}{ats:Array bo}{bt:Type}[di bt]{hp:aE bt}{p:Nat}{k:bt}{τs:aa J}{Lin:aa aA}{δ:Type}{τ:J}(n:Nat)(ar:L.drop n=aY hp)(hp':pat hp p=some k)(bU:bx c.P f)(h:bJ c.P f τs Lin (λ_:δ=>τ) (λ_=>Lin))
 (hk:di.fo p k=Lin) (al:gZ c E L xs τs):eL c E L ⟨d,.call ⟨.value (.func f),xs.toArray,ats⟩,ty,pos,af,g⟩ τ:=by
 have e:L=L.take n++aY hp:=by rw[<-ar,fw]
 have vO:bY hp p k=hp:=by
  clear e ar h hk;induction hp with
  |nil=>rfl
  | cons z r bN=>
    obtain⟨q,amr⟩:=z
    simp only[pat]at hp'
    simp only[bY]
    split at hp'
    ·rename_i e;simp only[fC]at hp';rw[bm e,hp']
    rename_i e;rw[bk e,bN hp']
 refine dE.ajn (dE.to (λq=>?_) (dE.obj (d:=d) (ty:=ty) (pos:=pos) (af:=af) (g:=g) (ats:=ats) n (λ_=>k) ar hp' bU h hk (λ_=>hk) al))
 rw[vO,<-e]
def ae.Ub{l:aa Oper}{bt:Type}[di bt]{hp:aE bt}{p:Nat}{Lin Lr:aa aA}(n m:Nat)(mk:bt)(ar:L.drop n=aY hp)(h1:(L.take n).take m=Lin)(ad:(L.take n).drop m=Lr)(hk:di.fo p mk=Lin)(hm:p∈ks Lin)
 (k:∀a:Nat×aE bt,a.1∉hp.map (·.1)∧a.2=(a.1,mk)::hp->a.1=p->ae c ops Q l E (Lr++aY a.2)):ae c ops Q l E L:=λa W s=>by
 have e:L=(Lin++Lr)++aY hp:=by rw[<-h1,<-ad,fw,<-ar,fw]
 have cb:L.Perm (Lr++aY ((p,mk)::hp)):=by
  rw[e,aY,hk,<-h3];exact mF.append_right _
 refine k (p,(p,mk)::hp) ⟨λEy=>?_,rfl⟩ I _ _ (s.perm cb)
 have jv:=s.nodup
 rw[e,ef,ef]at jv
 exact(nS.1 jv).2.2 p (bX.2 (.inl hm)) p (TL Ey) I
end
section
variable{c:bW}{E:aa (Nat×J)}{L:aa aA}{ops:Array Oper}{Q:Exit->Act->bc->Prop}
def fS.q{hs:aa c0}{i np:Nat}{o:Oper}{h:c0}(ch:fS c ops Q hs E L i o h):ve c ops Q hs E L np i o h:=λhd E' L' h1 ad _=>ch hd E' L' h1 ad
structure C4(P:Program)(f:FuncId)(τs:List J){bt:Type}[di bt](hp:aE bt){α:Type}(τ:α->J)(run:∀{σ ε:Type},(α->σ->Option (σ⊕ε))->σ->Option (σ⊕ε)):Prop where
 go:∀{σ ε γ:Type} (Ls:σ->γ->List aA) (Lx:ε->γ->List aA) (kn:σ->γ->List aA),(∀s g,Ls s g=kn s g++aY hp)->Oq P f τs [] τ (run (σ:=σ) (ε:=ε)) Ls Lx
def C4.of{P:Program}{f:FuncId}{fn:Func}{code:Code}{n:Nat}{τs:aa J}{bt:Type}[di bt]{hp:aE bt}{α:Type}{τ:α->J}{run:∀{σ ε:Type},(α->σ->av (σ⊕ε))->σ->av (σ⊕ε)}
 (aU:P.funcs[f]? =some fn) (hb:fn.body=some code) (aG:fn.ntmps=n) (hlen:Nat.ble (τs.length+1) n=true)
 (h:∀{σ ε γ:Type} (Ls:σ->γ->aa aA) (Lx:ε->γ->aa aA) (kn:σ->γ->aa aA),(∀s g,Ls s g=kn s g++aY hp)->∀(step:α->σ->av (σ⊕ε)) (s0:σ) (g0:γ) (r:σ⊕ε),run step s0=some r->
  ∀ W A u,I4 P u τ Ls Lx step (λcg W'=>Ext (ks (Ls s0 g0)++A) W cg W')->
    ax ⟨P,n,W,ks (Ls s0 g0),A,none,[]⟩ (bodyPost P fn (jo (ks (Ls s0 g0)) A W (λ_:γ=>.bR []) (λg=>[]++Lr Ls Lx r g))) code (params 0 (.eq u::τs)) (Ls s0 g0)):C4 P f τs hp τ run:=by
 refine⟨?_⟩
 intro σ ε γ Ls Lx kn ov step s0 g0 r aC A W u vs ao a7 hy
 refine GD aU hb (wpIn_wide.1 (h Ls Lx kn ov step s0 g0 r aC W A u hy _ _ ?_))
 have ug:fK (ks (Ls s0 g0)++A) W (.eq u::τs) (u::vs):=.cons I a7
 have jG:=ug.length
 have hle:τs.length+1<=n:=ni hlen
 exact
 {defers:=rfl
  size:=by simp at jG;simp[aG,jG];omega
  env:=λt τ eI=>by
   obtain⟨_,v,ad,ay⟩:=w4 ug 0 t τ eI;refine⟨v,?_,ay⟩;have bS:t<(u::vs).length:=(fY.1 ad).1;rw[tb (by simpa using bS)];simpa using ad
  cW:=.refl _ _
  own:=ao.ok
  nodup:=ao.nodup
  lt:=ao.lt
  fa:=λk hk _=>hk
  dK:=ao.dK}
def afM{bt:Type}[di bt]{σ γ:Type}{Ls kn:σ->γ->aa aA}{hp:aE bt}{s:σ}{g:γ}{p:Nat}{k:bt}{e:aA}(n:Nat)(ar:L.drop n=Ls s g)(ov:∀s g,Ls s g=kn s g++aY hp)(h:pat hp p=some k)(hk:di.fo p k=[e]):e∈L:=
 Up (hq:=λ_=>hp) n ar ov h hk
def RV{gt p:Nat}{assign body:Code}{f:FuncId}{pO:aa J}{bt:Type}[di bt]{hp:aE bt}{α σ ε γ:Type}{τ:α->J}{run:∀{σ ε:Type},(α->σ->av (σ⊕ε))->σ->av (σ⊕ε)}
 {Ls:σ->γ->aa aA} {Lx:ε->γ->aa aA} {step:α->σ->av (σ⊕ε)} {s0:σ} {g0:γ} {r:σ⊕ε} (kn:σ->γ->aa aA) (cc:ε->Code)
 (ak:c.rd=none) (bU:bx c.P f) (bu:look E gt=some (.ju f pO)) (nM:C4 c.P f pO hp τ run) (aC:run step s0=some r) (ov:∀s g,Ls s g=kn s g++aY hp) (ar:L=Ls s0 g0) (hp':Nat.blt p c.n=true)
 (su:∀x s r,step x s=some r->∀g (o8:bc) (pr o9:aa Nat) (l D:Nat) (rec:Loop),rec.state=.ready->
  ax ⟨c.P,c.n,o8,pr,o9,some l,[]⟩ (Exit.then (Jp ⟨c.P,c.n,o8,pr,o9,some l,[]⟩ l body (Jo ⟨c.P,c.n,o8,pr,o9,some l,[]⟩ cc l D {rec with state:=.busy} Ls Lx r)) (λ_ _ _=>False)) assign ((p,τ x)::E) (⟨some l,.is (.loop rec)⟩::⟨some D,.e8⟩::Ls s g))
 (ra:∀b1,r=.inl b1->∀g D,aq {c with ds:=rk D::c.ds} Q .normal E (⟨some D,.e8⟩::Ls b1 g))
 (Di:∀q,r=.inr q->∀g D,ax {c with ds:=rk D::c.ds} Q (cc q) E (⟨some D,.e8⟩::Lx q g)):
 ax c Q (.rangeFunc (.tmp gt) #[p] assign body) E L:=
 abH (Lin:=[]) (run:=run) cc ak bU bu (λaz a8 pe=>nM.go (λs g=>az::a8::Ls s g) pe (λs g=>az::a8::kn s g) (λs g=>by rw[ov];rfl)) aC ar hp' su ra Di
end
structure Raw where
 f:FuncId
 us:Option (List Value)
instance:Inhabited Raw:=⟨⟨0,none⟩⟩
def Raw.val:Raw->bd
 |⟨f,some us⟩=>.func (.func f) #[] us.toArray
 |⟨_,none⟩=>.nilFunc
instance:ag Raw where
 size:=1
 agg:=false
 rep _ _ cs x:=cs=[x.val]
 len h:=by rw[h];rfl
 one h:=by
  intro v a7;rw[h,gG]at a7;subst a7;rename_i x;obtain⟨f,us⟩:=x;cases us <;> rfl
 flat _:=rfl
 mono _ h:=h
instance:aQ Raw:=⟨[.nilFunc],λ_ _=>rfl⟩
def MF{A W v}{x:Raw}:(J.of x).holds A W v↔v=x.val:=by
 constructor
 ·intro h;exact mM (by have:=h.1;exact this) h.2
 intro h;subst h;obtain⟨f,us⟩:=x;cases us <;> exact⟨rfl,rfl⟩
section
variable{c:bW}{E:aa (Nat×J)}{L:aa aA}{ops:Array Oper}{Q:Exit->Act->bc->Prop}
variable{d:av Tmp}{ty:bo}{pos:String}{af:Array Edge}{g:av (Nat×Bool)}{x y:bO}{t t2:bo}
def fK.eqs{A:aa Nat}{W:bc}:∀{us vs:aa bd},fK A W (us.map J.eq) vs->vs=us
 |[],_,.nil=>rfl
 |_::_,_,.cons h r=>by rw[r.eqs];congr 1
def fK.Nn{A:aa Nat}{W:bc}:∀{us:aa bd},fK A W (us.map J.eq) us
 |[]=>.nil
 |_::_=>.cons I .Nn
def Us{f:FuncId}{xs:aa bO}{us:aa bd}(al:gZ c E L xs (us.map J.eq)):ba c E L ⟨d,.makeFunc (.func f) #[] xs.toArray,ty,pos,af,g⟩ (.of (⟨f,some us⟩:Raw)):=.pure λa W s=>
 ⟨.func (.func f) #[] us.toArray,by
   have h:=(al.holds a W s).eqs;simp[execOp,Instr.makeFunc,h],MF.2 I⟩
def ab8{f:FuncId}{us:aa bd}(al:aL c E L x (.of (⟨f,some us⟩:Raw))):aL c E L x (.ju f (us.map J.eq)):=λa W s=>
 ⟨us,MF.1 (al a W s),.Nn⟩
def ae.E4{o:Oper}{rest:aa Oper}{aV j gs:Nat}{b want:Bool}{β γ Ew:Type}{m:ah β}{z:β}{k:β->ah Ew}{R:Ew->Prop}(h:ah.bind (bif decide (b=want)then m else ah.ret z) k R)(σ:β->J)(L2:β->γ->aa aA)(g0:γ)(ar:L=L2 z g0)
 (bu:o.guard=some (j,want)) (aD:(ops[j]?).bind (·.dst)=some gs) (ao:look E gs=some (.of b)) (hd:o.dst=some aV) (aG:Nat.blt aV c.n=true)
 (bq:b=want->m (λr=>k r R)->dE c E L o (λq: {r // k r R}×γ=>σ q.1.1) (λq=>L2 q.1.1 q.2))
 (lF:∀y g,k y R->ae c ops Q rest ((aV,.cond (b=want) (σ y))::E) (L2 y g)):ae c ops Q (o::rest) E L:=by
 by_cases hb:b=want
 ·have hm:m (λr=>k r R):=by
   have cC:(bif decide (b=want)then m else ah.ret z) (λr=>k r R):=h;rw[za hb]at cC;exact cC
  exact ae.XJ (β:=β×γ) (K:=λy=>k y.1 R) (σ:=λy=>σ y.1) (L2:=λy=>L2 y.1 y.2) (val:=λq=>(q.1.1,q.2)) bu aD ao hd aG (λ_=>bq hb hm) (λ_ q=>⟨q.1.2,rfl,rfl⟩) (λh=>absurd hb h) λy hy=>lF y.1 y.2 hy
 have hm:k z R:=by
  have cC:(bif decide (b=want)then m else ah.ret z) (λr=>k r R):=h;rw[wH hb]at cC;exact cC
 exact ae.XJ (δ:=Unit) (β:=β×γ) (K:=λy=>k y.1 R) (σ:=λy=>σ y.1) (L2:=λy=>L2 y.1 y.2) (val:=λ_=>(z,g0)) (ρ:=λ_=>σ z) (L':=λ_=>L2 z g0) bu aD ao hd aG (λh=>absurd h hb) (λh=>absurd h hb) (λ_=>⟨(z,g0),hm,ar⟩) λy hy=>lF y.1 y.2 hy
end
section
variable{c:bW}{E:aa (Nat×J)}{L:aa aA}{ops:Array Oper}{Q:Exit->Act->bc->Prop}
def ae.Uc{l:aa Oper}{p q:Nat}(fq:Nat)(ao:look E fq=some (.eq (.pointer (some ⟨p,0,none⟩))))(he:q=p)(k:ae c ops Q l ((fq,.of (some q:Ref))::E) L):ae c ops Q l E L:=λa W s=>by
 subst he;refine k a W (s.less λt τ h=>?_);simp only[look]at h;by_cases e:Nat.beq fq t=true
 ·rw[e]at h;simp only[cond_true,fC]at h;have:=eO.1 e;subst this;subst h;exact⟨_,ao,λA W v a7=>vf.2 a7⟩
 simp only[kN]at e;rw[e]at h;exact⟨τ,h,λ_ _ _ h=>h⟩
end
section
variable{c:bW}{E:aa (Nat×J)}{L:aa aA}{ops:Array Oper}{Q:Exit->Act->bc->Prop}
def pK(ops:Array Oper)(n:Nat)(hs:aa (av Nat×aa Nat×aa Nat×aa Nat))(E:aa Nat):Bool:=
 decide (hs.length=n)&&decide (n<=ops.size)&&decide (hs.filterMap (·.1)).Nodup&&((List.range n).all λm=>match hs[m]? with |some (some s,up,_)=> !E.contains s||(List.range n).all λk=>decide (k=m)||up.contains k|_=>true)&&
 ((List.range n).all λi=>match hs[i]? with
   |none=>false
   | some (_,up,rd,wr)=>
     (((ops[i]?).map λo=>(o.dst==(hs[i]?).bind (·.1))&&o.after.all λe=> !Region.binds .any e||decide (e.on<i)).getD false)&&
     (up.all λk=>Region.waitsFor .any ops i k||(List.range i).any λm=>Region.waitsFor .any ops i m&&((hs[m]?).map λh=>h.2.1.contains k).getD false)&&
     ((List.range n).all λk=>match hs[k]? with
       |none=>true
       | some (_,alf,_,W5)=>
         (!(decide (k<i)&&W5.any rd.contains)||up.contains k)&&(!(decide (i<k)&&W5.any λj=>rd.contains j||wr.contains j)||alf.contains i)))&&
 (decide (n=ops.size)||(Region.sinkB .any ops n&&Region.chainB .any ops n))&&
 Region.seqB .any ops (ops.size-n) n ((List.range n).foldl (λl i=>l.setIfInBounds i true) (Array.replicate ops.size false))
def aa7{n:Nat}{hs:aa c0}{np:Nat}(hw:∀h∈hs,∀j∈h.wr,j<np∨L.length<=j)(ec:pK ops n (kD hs) (E.map (·.1))=true)(ch:oX c ops Q hs E L np 0 (ops.toList.take n) hs)
 (bq:∀hd,ae c ops Q (ops.toList.drop n) (hc (λ_=>true) hd E 0 hs) (fH (λ_=>true) hd 0 hs L)):
 ∀ m (bQ:Array Bool) (hd:Nat->Hid) (a:Act) (W:bc),((List.range n).filter λi=> !bQ.getD i true).length<=m->HeadInv .any ops n bQ->
   bA c (hc (λi=>bQ.getD i false) hd E 0 hs) (fH (λi=>bQ.getD i false) hd 0 hs L) a W->wpAnyIn c.F 9 c.P .any ops Q (m+(ops.size-n)) bQ a W:=by
 simp only[pK,gJ,fZ,nT]at ec
 obtain⟨⟨⟨⟨⟨⟨agU,aG⟩,jv⟩,V6⟩,oj⟩,agV⟩,NX⟩:=ec
 have hlen:hs.length=n:=by simpa[kD]using agU
 have rq:∀i,i<n->∃h o,hs[i]? =some h∧ops[i]? =some o:=λi aw=>⟨hs[i]'(by omega),ops[i],by simp,by simp⟩
 have Dl:∀(i:Nat) (h:c0) (o:Oper),hs[i]? =some h->ops[i]? =some o->
  o.dst=h.slot∧(∀e∈o.after,Region.binds .any e=true->e.on<i)∧
  (∀k∈h.up,Region.waitsFor .any ops i k=true∨∃m,m<i∧Region.waitsFor .any ops i m=true∧∃x,hs[m]? =some x∧k∈x.up)∧
  (∀(k:Nat) (x:c0),hs[k]? =some x->(k<i->(∃j∈x.wr,h.rd.contains j=true)->k∈h.up)∧(i<k->(∃j∈x.wr,h.rd.contains j=true∨h.wr.contains j=true)->i∈x.up)):=by
  intro i h o aw aS
  have bS:i<n:=by have:=(fY.1 aw).1;omega
  have h1:=mG.1 oj i (nn.2 bS)
  rw[L7 aw]at h1
  simp only[gJ]at h1
  obtain⟨⟨ad,ay⟩,aN⟩:=h1
  simp only[aS,Option.map_some,Option.getD_some,gJ,Option.bind_some,nV]at ad
  refine⟨ad.1,λe he hb=>?_,λk hk=>?_,λk x al=>?_⟩
  ·have:=Array.all_eq_true_iff_forall_mem.1 ad.2 e he
   simp[hb]at this
   exact this
  ·have:=mG.1 ay k hk
   simp only[nT,nj,gJ,nn]at this
   rcases this with a6|⟨m,a6,bh,cH⟩
   ·exact .inl a6
   have hm:m<hs.length:=by omega
   rw[L7 (oO hm)]at cH
   exact .inr ⟨m,a6,bh,hs[m],oO hm,by simpa using cH⟩
  have nK:k<n:=by have:=(fY.1 al).1;omega
  have:=mG.1 aN k (nn.2 nK)
  rw[L7 al]at this
  simp only[gJ,nT,wB,Bool.and_eq_false_iff,mD,JP]at this
  refine⟨λvN ⟨j,aD,aC⟩=>?_,λmX ⟨j,aD,aC⟩=>?_⟩
  ·rcases this.1 with(a6|a6)|a6
   ·exact absurd vN a6
   ·have:=uJ.1 a6 j aD
    exact absurd aC this
   exact a6
  rcases this.2 with(a6|a6)|a6
  ·exact absurd mX a6
  ·have:=uJ.1 a6 j aD
   simp only[nT]at this
   exact absurd aC this
  exact a6
 have No:∀(i j s:Nat) (x y:c0),hs[i]? =some x->hs[j]? =some y->x.slot=some s->y.slot=some s->i=j:=by
  have key:∀(l:aa c0),((kD l).filterMap (·.1)).Nodup->∀(i j s:Nat) (x y:c0),l[i]? =some x->l[j]? =some y->x.slot=some s->y.slot=some s->i=j:=by
   intro l;induction l with
   |nil=>intro _ i j s x y h;simp at h
   | cons z r bN=>
     intro jv i j s x y aw aD al hy
     have aC:((kD r).filterMap (·.1)).Nodup:=by
      cases b4:z.slot with
      |none=>simpa[kD,b4]using jv
      | some w=>
        simp only[kD,mJ,List.filterMap_cons,b4]at jv
        exact(nm.1 jv).2
     have DE:z.slot=some s->∀(q:Nat) (v:c0),r[q]? =some v->v.slot≠some s:=λb4 q v hq a7=>by
      simp only[kD,mJ,List.filterMap_cons,b4]at jv;exact(nm.1 jv).1 (J9.2 ⟨_,gH.2 ⟨v,er hq,rfl⟩,a7⟩)
     cases i with
     | zero=>
       simp only[List.getElem?_cons_zero,fC]at aw
       subst aw
       cases j with
       |zero=>rfl
       |succ j=>simp only[List.getElem?_cons_succ]at aD;exact absurd hy (DE al j y aD)
     | succ i=>
       simp only[List.getElem?_cons_succ]at aw
       cases j with
       | zero=>
         simp only[List.getElem?_cons_zero,fC]at aD
         subst aD
         exact absurd al (DE hy i x aw)
       |succ j=>simp only[List.getElem?_cons_succ]at aD;rw[bN aC i j s x y aw aD al hy]
  exact key hs jv
 have agW:∀(t:Nat) (τ:J),look E t=some τ->∀(m:Nat) (h:c0),hs[m]? =some h->h.slot=some t->∀k,k<n->k≠m->k∈h.up:=by
  intro t τ ao m h hm iA k hk Ez;have rD:m<n:=by have:=(fY.1 hm).1;omega
  have h1:=mG.1 V6 m (nn.2 rD);rw[show(kD hs)[m]? =some (h.slot,h.up,h.rd,h.wr) by simp[kD,hm],iA]at h1;have As:t∈E.map (·.1):=by
   clear V6 h1 ch bq hm iA;induction E with
   |nil=>simp[look]at ao
   | cons x r bN=>
     obtain⟨s,σ⟩:=x
     simp only[look]at ao
     by_cases e:Nat.beq s t=true
     ·have:=eO.1 e;subst this;simp
     simp only[kN]at e
     rw[e]at ao
     simp only[mJ,dB]
     exact .inr (bN ao)
  replace h1:(!(E.map (·.1)).contains t||(List.range n).all λk=>decide (k=m)||h.up.contains k)=true:=h1;rw[show(E.map (·.1)).contains t=true by simpa using As]at h1;have ad:∀x,x<n->x=m∨x∈h.up:=by simpa using h1
  exact(ad k hk).resolve_left Ez
 have vP:∀(bQ:Array Bool),HeadInv .any ops n bQ->∀(d i:Nat),i<=d->∀(h:c0) (o:Oper),hs[i]? =some h->ops[i]? =some o->(∀e∈o.after,Region.binds .any e=true->bQ.getD e.on false=true)->∀k∈h.up,bQ.getD k false=true:=by
  intro bQ inv d;induction d with
  | zero=>
    intro i aw h o gl AT hw k hk
    rcases (Dl i h o gl AT).2.2.1 k hk with h1|⟨m,hm,_⟩
    ·obtain⟨s9,lW,e,he,hb,EA⟩:=JY h1
     rw[AT]at lW;cases lW
     rw[<-EA];exact hw e he hb
    omega
  | succ d bN=>
    intro i aw h o gl AT hw k hk
    rcases (Dl i h o gl AT).2.2.1 k hk with h1|⟨m,hm,h1,x,al,alg⟩
    ·obtain⟨s9,lW,e,he,hb,EA⟩:=JY h1
     rw[AT]at lW;cases lW
     rw[<-EA];exact hw e he hb
    obtain⟨s9,lW,e,he,hb,EA⟩:=JY h1
    rw[AT]at lW;cases lW
    have rD:=hw e he hb
    rw[EA]at rD
    obtain⟨aI,Fh,lX,EB⟩:=rq m (by have:=(fY.1 gl).1;omega)
    exact bN m (by omega) x Fh al EB (λe he hb=>inv.closed m Fh EB rD e he hb) k alg
 have ra:∀(bQ:Array Bool) (hd:Nat->Hid) (a:Act) (W:bc),(∀i,i<n->bQ.getD i true=true)->HeadInv .any ops n bQ->
  bA c (hc (λi=>bQ.getD i false) hd E 0 hs) (fH (λi=>bQ.getD i false) hd 0 hs L) a W->wpAnyIn c.F 9 c.P .any ops Q (ops.size-n) bQ a W:=by
  intro bQ hd a W Dm inv st
  have ao:=aa1 inv aG Dm
  rw[<-ao]at NX
  have U2:(ops.toList.drop n).length=ops.size-n:=by simp
  rw[<-U2]
  rw[<-U2]at NX
  refine K3 (ops.toList.drop n) n bQ a W (λj=>by simp) NX (bq hd a W ?_)
  have EC:∀m,m<hs.length->bQ.getD (0+m) false=true:=λm hm=>by
   have h1:=Dm m (by omega);have ad:m<bQ.size:=by rw[inv.size];omega
   simpa[ad]using h1
  rw[RB (ls':=λ_=>true) EC,Sw (ls':=λ_=>true) EC]at st
  exact st
 have more:∀f (bQ:Array Bool) a W,wpAnyIn c.F 9 c.P .any ops Q f bQ a W->wpAnyIn c.F 9 c.P .any ops Q (f+1) bQ a W:=by
  intro f;induction f with
  |zero=>intro bQ a W h;exact⟨λ_=>h.2,λi aw=>by rw[h.1]at aw;cases aw⟩
  |succ f alh=>intro bQ a W h;exact⟨h.1,λi aw=>wpOpIn_mono (λgQ ps cC=>alh _ gQ ps cC) (h.2 i aw)⟩
 intro m
 induction m with
 | zero=>
   intro bQ hd a W hm inv st
   rw[iS]
   refine ra bQ hd a W (λi aw=>?_) inv st
   cases h:bQ.getD i true with
   |true=>rfl
   | false=>
     have:i∈(List.range n).filter λi=> !bQ.getD i true:=sd.2 ⟨nn.2 aw,by rw[h];rfl⟩
     rw[Fx.1 (Nat.le_zero.1 hm)]at this
     cases this
 | succ m bN=>
   intro bQ hd a W hm inv st
   rw[show m+1+(ops.size-n)=(m+(ops.size-n))+1 by omega]
   by_cases U3:∀i,i<n->bQ.getD i true=true
   ·have h1:=ra bQ hd a W U3 inv st
    have key:∀k,wpAnyIn c.F 9 c.P .any ops Q (k+(ops.size-n)) bQ a W:=by
     intro k;induction k with
     |zero=>rw[iS];exact h1
     |succ k ali=>rw[show k+1+(ops.size-n)=(k+(ops.size-n))+1 by omega];exact more _ _ _ _ ali
    exact more _ _ _ _ (key m)
   have hex:∃i,i<n∧bQ.getD i true=false:=by
    false_or_by_contra;rename_i ad;exact U3 λi aw=>by
     cases h:bQ.getD i true with
     |true=>rfl
     |false=>exact absurd ⟨i,aw,h⟩ ad
   have aeA:∀t∈Region.ready .any ops bQ,t<n:=by
    intro t IY;rcases wP t n with h|h
    ·exact h
    obtain⟨i,aw,kE⟩:=hex;have am3:n<ops.size∨n=ops.size:=by omega
    have am4:t<ops.size:=by
     obtain⟨_,o,aS,_⟩:=uP.1 IY;exact(qR.1 aS).1
    rcases agV with h1|h1
    ·omega
    exact absurd IY (tail_waits h1.1 h1.2 (by omega) inv _ i I aw kE t h)
   refine⟨λbw=>?_,λi aw=>?_⟩
   ·exfalso
    have key:∀d i,i<=d->i<n->bQ.getD i true=true:=by
     intro d;induction d with
     | zero=>
       intro i ED aw
       cases ao:bQ.getD i true with
       |true=>rfl
       | false=>
         obtain⟨h,o,gl,aS⟩:=rq i aw
         have:i∈Region.ready .any ops bQ:=uP.2 ⟨ao,o,aS,λe he hb=>by have:=(Dl i h o gl aS).2.1 e he hb;omega⟩
         rw[bw]at this;cases this
     | succ d Oz=>
       intro i ED aw
       cases ao:bQ.getD i true with
       |true=>rfl
       | false=>
         obtain⟨h,o,gl,aS⟩:=rq i aw
         have:i∈Region.ready .any ops bQ:=uP.2 ⟨ao,o,aS,λe he hb=>by
          have h1:=(Dl i h o gl aS).2.1 e he hb;have ad:=Oz e.on (by omega) (by omega);have ay:e.on<bQ.size:=by rw[inv.size];omega
          simpa[ay]using ad⟩
         rw[bw]at this;cases this
    obtain⟨i,aw,kE⟩:=hex
    have:=key i i (h5 _) aw
    rw[kE]at this;cases this
   have fV:i<n:=aeA i aw
   obtain⟨kE,o,aS,L9⟩:=uP.1 aw
   obtain⟨h,_,gl,_⟩:=rq i fV
   have xQ:bQ.getD i false=false:=getD_both kE
   have V7:i<bQ.size:=by rw[inv.size];omega
   have sM:((List.range n).filter λj=> !(bQ.setIfInBounds i true).getD j true).length<=m:=by
    have:((List.range n).filter λj=> !(bQ.setIfInBounds i true).getD j true).length<((List.range n).filter λj=> !bQ.getD j true).length:=by
     refine TJ (λj=> !bQ.getD j true) (λj=> !(bQ.setIfInBounds i true).getD j true) i (by simp only[kE];rfl) ?_ (λj aD=>?_) n fV
     ·simp[V7]
     by_cases e:i=j
     ·subst e;simp only[kE];rfl
     rw[getD_set_ne true e]at aD;exact aD
    omega
   have ajo:=inv.set aw fV
   obtain⟨V8,amI,amN,V9⟩:=Dl i h o gl aS
   have Wa:=vP bQ inv i i (h5 _) h o gl aS L9
   have TN:∀(k:Nat) (x:c0),hs[k]? =some x->i<k->(∃j∈x.wr,h.rd.contains j=true∨h.wr.contains j=true)->bQ.getD k false=false:=λk x al mX aD=>by
    have h1:=(V9 k x al).2 mX aD;cases hk:bQ.getD k false with
    |false=>rfl
    | true=>
      obtain⟨_,ok,_,gN⟩:=rq k (by have:=(fY.1 al).1;omega)
      have:=vP bQ inv k k (h5 _) x ok al gN (λe he hb=>inv.closed k ok gN hk e he hb) i h1
      rw[xQ]at this;cases this
   have TO:hs=hs.take i++h::hs.drop (i+1):=by
    have uh:i<hs.length:=by omega
    rw[oO uh]at gl;cases gl;rw[JL];exact(fw i hs).symm
   have yf:(hs.take i).length=i:=by rw[fg];omega
   have Ef:∀(t:Nat) (τ:J),look E t=some τ->∀(m:Nat) (x:c0),hs[m]? =some x->bQ.getD (0+m) false=true->x.slot≠some t:=λt τ ao m x al I8 iA=>by
    rw[iS]at I8;have alj:i≠m:=λe=>by subst e;rw[xQ]at I8;cases I8
    obtain⟨_,Fh,_,EB⟩:=rq m (by have:=(fY.1 al).1;omega);have:=vP bQ inv m m (h5 _) x Fh al EB (λe he hb=>inv.closed m Fh EB I8 e he hb) i (agW t τ ao m x al iA i fV alj);rw[xQ]at this;cases this
   have U4:=(oX.get ch i h o gl (by rw[jN,bm fV,wq];exact aS))
   rw[iS]at U4
   have alk:=U4 hd (hc (λi=>bQ.getD i false) hd E 0 hs) (fH (λi=>bQ.getD i false) hd 0 hs L) (λt τ ao=>?_) (λj e aD aC=>?_) (L8 hw)
   ·have hw:=Lc (K:=λa W=> ∃x,bA c (pN h.slot (h.τ (gw h.up i (lx hd i x))) (hc (λi=>bQ.getD i false) hd E 0 hs)) (nC (fH (λi=>bQ.getD i false) hd 0 hs L) (h.fA (gw h.up i (lx hd i x))) h.wr) a W) aS (alk a W st)
    refine wpOpIn_mono (λgQ W' ⟨x,rK⟩=>?_) hw
    have AU:∀j,j≠i->lx hd i x j=hd j:=λj aD=>by
     have:Nat.beq j i=false:=by
      cases hb:Nat.beq j i
      ·rfl
      exact absurd (eO.1 hb) aD
     simp only[lx,this,cond_false]
    have OA:∀(j:Nat) (y:c0),hs[j]? =some y->bQ.getD j false=true->gw y.up j (lx hd i x)=gw y.up j hd:=λj y hy aD=>by
     obtain⟨_,s9,_,lW⟩:=rq j (by have:=(fY.1 hy).1;omega);refine abG (AU j λe=>by subst e;rw[xQ]at aD;cases aD) λk hk=>AU k λe=>?_;have:=vP bQ inv j j (h5 _) y s9 hy lW (λe he hb=>inv.closed j s9 lW aD e he hb) k hk;subst e;rw[xQ]at this;cases this
    have vQ:(bQ.setIfInBounds i true).getD i false=true:=by simp[V7]
    have h7:∀j,j≠i->(bQ.setIfInBounds i true).getD j false=bQ.getD j false:=λj aD=>getD_set_ne false (λe=>aD e.symm)
    refine bN _ (lx hd i x) gQ W' sM ajo ?_
    have ajp:fH (λj=>(bQ.setIfInBounds i true).getD j false) (lx hd i x) 0 hs L=nC (fH (λi=>bQ.getD i false) hd 0 hs L) (h.fA (gw h.up i (lx hd i x))) h.wr:=by
     apply k6;intro j;rw[HJ,LK,HJ];by_cases aD:h.wr.contains j=true
     ·rw[bm aD];have az:∀(ls:Nat->Bool) (g:Nat->Hid) (v:av aA),(∀k x,hs[k]? =some x->i<k->x.wr.contains j=true->ls k=false)->mo ls g j 0 hs v=(bif ls i then(mo ls g j 0 (hs.take i) v).map (λ_=>h.fA (gw h.up i g) j)else mo ls g j 0 (hs.take i) v):=λls g v Eh=>by
       conv=>lhs;rw[TO]
       rw[Lh,yf,iS,mo,aD,Bool.and_true,Ly];intro k x al hw;rw[kM]at al;exact Eh (i+1+k) x al (by omega) hw
      have eP:∀k x,hs[k]? =some x->i<k->x.wr.contains j=true->bQ.getD k false=false:=λk x al mX hw=>TN k x al mX ⟨j,by simpa using hw,.inr aD⟩;rw[az (λj=>(bQ.setIfInBounds i true).getD j false) (lx hd i x) _ (λk x al mX hw=>by rw[h7 k (by omega)];exact eP k x al mX hw),az (λj=>bQ.getD j false) hd _ eP];simp only[vQ,xQ,cond_true,cond_false];rw[G3 (ls':=λj=>bQ.getD j false) (hd':=hd) λq x al _=>by
       have hq:q<i:=by have:=(fY.1 al).1;omega
       rw[jN,bm hq]at al;rw[iS];exact⟨h7 q (by omega),λao=>OA q x al (by rw[h7 q (by omega)]at ao;exact ao)⟩]
     rw[bk aD];refine G3 λq x al hw=>?_;rw[iS];have hq:q≠i:=λe=>by subst e;rw[gl]at al;cases al;exact aD hw
     exact⟨h7 q hq,λao=>OA q x al (by rw[h7 q hq]at ao;exact ao)⟩
    rw[ajp]
    refine rK.less λt τ ao=>?_
    rcases Su ao with⟨j,y,h1,ad,ay,aN⟩|⟨h1,eP⟩
    ·rw [iS]at ad aN
     by_cases j1:j=i
     ·subst j1
      rw[gl]at h1
      cases h1
      exact⟨τ,by rw[ay,aN];simp[pN,look,ma],λ_ _ _ h=>h⟩
     rw[h7 j j1]at ad
     rw[OA j y h1 ad]at aN
     have a6:=LL (ls:=λi=>bQ.getD i false) (hd:=hd) (E:=E) (k:=0) h1 (by rw[iS];exact ad) ay λq z hq b4=>No q j t z y hq h1 b4 ay
     rw[iS,<-aN]at a6
     refine⟨τ,?_,λ_ _ _ h=>h⟩
     cases EE:h.slot with
     |none=>exact a6
     | some s=>
       have cR:Nat.beq s t=false:=by
        cases hb:Nat.beq s t
        ·rfl
        have:=eO.1 hb;subst this;exact absurd (No j i s y h h1 gl ay EE) j1
       simp only[pN,look,cR,cond_false]
       exact a6
    have hb:=Ef t τ h1
    have a6:=Lz (ls:=λi=>bQ.getD i false) (hd:=hd) (E:=E) (k:=0) hb
    refine⟨τ,?_,λ_ _ _ h=>h⟩
    cases EE:h.slot with
    |none=>simp only[pN];rw[a6];exact h1
    | some s=>
      have cR:Nat.beq s t=false:=by
       cases pT:Nat.beq s t
       ·rfl
       have:=eO.1 pT;subst this;exact absurd EE (eP i h gl (by rw[iS];exact vQ))
      simp only[pN,look,cR,cond_false]
      rw[a6];exact h1
   ·rcases Tg ao with⟨j,aD,y,h1,ad,ay⟩|h1
    ·have a6:=LL (ls:=λi=>bQ.getD i false) (hd:=hd) (E:=E) (k:=0) h1 (by rw[iS];exact Wa j aD) ad λq z hq b4=>No q j t z y hq h1 b4 ad
     rw[iS,<-ay]at a6
     exact a6
    rw[Lz (Ef t τ h1)];exact h1
   rw[HJ]at aD⊢
   rw[<-aD]
   conv=>lhs;rw[TO]
   rw[Lh,Ly]
   ·refine G3 λq x al hw=>?_
    rw[iS]
    have hq:q<i:=by have:=(fY.1 al).1;omega
    rw[jN,bm hq]at al
    exact⟨Wa q ((V9 q x al).1 hq ⟨j,by simpa using hw,aC⟩),λ_=>rfl⟩
   intro q x al hw
   rw[yf,iS]
   cases q with
   |zero=>exact xQ
   | succ q=>
     simp only[List.getElem?_cons_succ]at al
     rw[kM]at al
     exact TN (i+(q+1)) x (by rw[<-al];congr 1;omega) (by omega) ⟨j,by simpa using hw,.inl aC⟩
def ax.HK{jH:Nat}{l:aa Oper}(n:Nat){np:Nat}(hm:c.P.follows .mixedOrders=true)(hs:aa c0)(ds:aa (av Nat×aa Nat×aa Nat×aa Nat))(es:aa Nat)(dC:kD hs=ds)(ja:E.map (·.1)=es)(ec:Gv.pK l.toArray n ds es=true)(vH:∀h∈hs,∀j∈h.wr,j<np∨L.length<=j)
 (ch:oX c l.toArray Q hs E L np 0 (l.take n) hs) (bq:∀hd,ae c l.toArray Q (l.drop n) (hc (λ_=>true) hd E 0 hs) (fH (λ_=>true) hd 0 hs L)):ax c Q (.region jH l.toArray true) E L:=λa W s=>by
 subst dC ja
 refine wpIn_region_any hm ?_
 have aG:n<=l.toArray.size:=by
  simp only[Gv.pK,gJ,fZ]at ec;exact ec.1.1.1.1.1.2
 have NG:HeadInv .any l.toArray n (Array.replicate l.toArray.size false):=
  {size:=by simp
   closed:=λj s9 _ ao=>by rw[getD_replicate_false]at ao;cases ao
   tail:=λt _ bq=>by simp at bq;simp[bq]}
 have h:=aa7 vH (ops:=l.toArray) (Q:=Q) ec (by simpa using ch) (by simpa using bq) n (Array.replicate l.toArray.size false) (λ_ _=>none) a W.drew (oQ (Bq _ _) (by simp)) NG ?_
 ·rw[show n+(l.toArray.size-n)=l.toArray.size by omega]at h
  exact h
 have h1:∀(hs:aa c0) (k:Nat),hc (λi=>(Array.replicate l.toArray.size false).getD i false) (λ_ _=>none) E k hs=E:=by
  intro hs;induction hs with
  |nil=>intro k;rfl
  | cons h r bN=>
    intro k
    have ad:=bN (k+1)
    simp only[getD_replicate_false]at ad
    unfold hc
    simp only[getD_replicate_false]
    exact ad
 have ad:∀(hs:aa c0) (k:Nat) (L:aa aA),fH (λi=>(Array.replicate l.toArray.size false).getD i false) (λ_ _=>none) k hs L=L:=by
  intro hs;induction hs with
  |nil=>intro k L;rfl
  |cons h r bN=>intro k L;rw[fH,bN];simp only[getD_replicate_false,cond_false]
 rw[h1,ad]
 exact s.world (Fr.drew W)
def ax.ams{jH:Nat}{l:aa Oper}{ds:aa (av Nat×aa Nat×aa Nat×aa Nat)}(n np:Nat)(hm:c.P.follows .mixedOrders=true)(hs:aa c0)(es:aa Nat)
 (ch:oX c l.toArray Q hs E L np 0 (l.take n) hs) (bq:∀hd,ae c l.toArray Q (l.drop n) (hc (λ_=>true) hd E 0 hs) (fH (λ_=>true) hd 0 hs L))
 (dC:kD hs=ds:=by rfl) (ja:E.map (·.1)=es:=by rfl) (ec:Gv.pK l.toArray n ds es=true:=by kernel_rfl) (hw:(ds.all λd=>d.2.2.2.all λj=>Nat.blt j np)=true:=by kernel_rfl):ax c Q (.region jH l.toArray true) E L:=
 ax.HK n hm hs ds es dC ja ec (UX dC hw) ch bq
def ax.XL{jH:Nat}{l:aa Oper}{ds:aa (av Nat×aa Nat×aa Nat×aa Nat)}(np:Nat)(hm:c.P.follows .mixedOrders=true)(hs:aa c0)(es:aa Nat)
 (ch:oX c l.toArray Q hs E L np 0 l hs) (bq:∀hd,aq c Q .normal (hc (λ_=>true) hd E 0 hs) (fH (λ_=>true) hd 0 hs L))
 (dC:kD hs=ds:=by rfl) (ja:E.map (·.1)=es:=by rfl) (ec:Gv.pK l.toArray l.length ds es=true:=by kernel_rfl) (hw:(ds.all λd=>d.2.2.2.all λj=>Nat.blt j np)=true:=by kernel_rfl):ax c Q (.region jH l.toArray true) E L:=
 ax.HK l.length hm hs ds es dC ja ec (UX dC hw) (by rw[l7];exact ch) (λhd=>by rw[uK];exact ae.nil (bq hd))
def ax.Jm{jH:Nat}{l:aa Oper}{ds:aa (av Nat×aa Nat×aa Nat×aa Nat)}(hm:c.P.follows .mixedOrders=true)(hs:aa c0)(es:aa Nat)
 (ch:z6 c l.toArray Q hs E L 0 l hs) (bq:∀hd,aq c Q .normal (hc (λ_=>true) hd E 0 hs) (fH (λ_=>true) hd 0 hs L))
 (dC:kD hs=ds:=by rfl) (ja:E.map (·.1)=es:=by rfl) (ec:Gv.pK l.toArray l.length ds es=true:=by kernel_rfl):ax c Q (.region jH l.toArray true) E L:=
 ax.HK (np:=L.length) l.length hm hs ds es dC ja ec (λ_ _ j _=>by omega) (by rw[l7];exact ch.Ei) (λhd=>by rw[uK];exact ae.nil (bq hd))
def rg:Nat->Nat->aa (av Nat)
 |_,0=>[]
 |a,n+1=>some a::rg (a+1) n
def ew.tail{l:aa Oper}{f:Nat}{bQ:Array Bool}(n:Nat)(aU:(l.drop n).length=f)(hs:Region.seqB .any l.toArray f n bQ=true)(h:ae c l.toArray Q (l.drop n) E L):ew c l.toArray Q f bQ E L:=λa W s=>by
 subst aU;exact K3 (l.drop n) n bQ a W (λj=>by simp) hs (h a W s)
def ah.bB{α β:Type}{o:av α}{k:α->ah β}{R:β->Prop}{P:Prop}(h:ah.bind (ah.of o) k R)(g:∀y,o=some y->k y R->P):P:=(ah.adu h).elim λy h=>g y h.1 h.2
def ah.ex{α β:Type}{m:ah α}{k:α->ah β}{R:β->Prop}(h:ah.bind m k R):∃K:α->Prop,m K∧∀r,K r->k r R:=⟨_,h,λ_ h=>h⟩
end
def aca{c:bW}{E:aa (Nat×J)}{L:aa aA}{x:bO}{β:Type}[ag β]{b:β}(h:aL c E L x (.of b)):aL c E L x (.I1 b []):=λa W s=>
 let⟨g1,g2⟩:=h a W s
 ⟨g1,g2,λ_ h=>by cases h⟩
def ae.HG{c:bW}{ops:Array Oper}{Q:Exit->Act->bc->Prop}{E:aa (Nat×J)}{L:aa aA}{l:aa Oper}{key:av Nat}{n m cap off:Nat}{p:av Nat}{β:Type}[ag β]{b:β}{os:aa (Nat×bd)}(i q:Nat)(ar:L[i]? =some ⟨p,.ck b os⟩)(hq:os[q]? =some (off,aZ key n cap))(aG:n=m)
 (k:ae c ops Q l E (L.set i ⟨p,.ck b (os.set q (off,aZ key m cap))⟩)):ae c ops Q l E L:=by
 subst aG
 have TP:∀{α:Type} {xs:aa α} {j:Nat} {x:α},xs[j]? =some x->xs.set j x=xs:=λ{α xs j x} h=>k6 λr=>by
  by_cases e:j=r
  ·subst e;rw[yT (fY.1 h).1,h]
  rw[uI e]
 rw[TP hq,TP ar]at k
 exact k
def bJ.law{P:Program}{f:FuncId}{τs:aa J}{bt:Type}[di bt]{R:Bool×aE bt->Prop}{Lo: {r:Bool×aE bt // R r}×Unit->aa aA}(h:bJ P f τs ([]++aY ([]:aE bt)) (λd: {r:Bool×aE bt // R r}×Unit=>J.of d.1.1.1) Lo)(jd:∀r,R r->r.1=true):cn P f τs (J.of true):=by
 intro A W vs eo a7;refine(h A W vs (λk hk=>⟨eo k hk,by simp[aY,ks]⟩) (by simp[aY,ks]) (λk hk=>by simp[aY,ks]at hk) (λe he=>by simp[aY]at he) (by simpa[aY,ks]using a7)).mono ?_;intro e W' ⟨v,d,h1,ad,_,_,_,ay⟩;refine⟨v,h1,by simpa[aY,ks]using ad,?_⟩;have aN:=jd d.1.1 d.1.2;rw[of_bool]at ay⊢;rw[ay,aN]
def D7(p:Prop)[Decidable p]:av Unit:=if p then some ()else none
def ah.akE{β:Type}{p:Prop}[Decidable p]{k:Unit->ah β}{R:β->Prop}(h:ah.bind (ah.of (D7 p)) k R):p:=by
 obtain⟨r,h1,_⟩:=h;unfold D7 at h1;split at h1
 ·assumption
 cases h1
def ah.ail{β:Type}{p:Prop}[Decidable p]{k:Unit->ah β}{R:β->Prop}(h:ah.bind (ah.of (D7 p)) k R):k () R:=by
 obtain⟨r,_,ad⟩:=h;exact ad
section
variable{c:bW}{E:aa (Nat×J)}{L:aa aA}{ops:Array Oper}{Q:Exit->Act->bc->Prop}
end
def yz(n:Nat)(vis:aa Nat):av Nat->Prop
 |none=> ∀j,j<n->j∈vis
 |some j=>j<n∧j∉vis
def ah.next(n:Nat)(vis:aa Nat):ah (av Nat):=λR=> ∀j,yz n vis j->R j
def ah.RU{β:Type}{n:Nat}{vis:aa Nat}{k:av Nat->ah β}{R:β->Prop}(h:ah.bind (ah.next n vis) k R)(j:av Nat)(aD:yz n vis j):k j R:=h j aD
def mf(es:Array MapEntry)(vis:aa Nat):Array Nat:=(vis.filterMap λj=>(es[j]?).map (·.born)).toArray
def lR(amt:Nat)(es:Array MapEntry)(clock:Nat)(vis:aa Nat):Obj:=.mapIter (some amt) clock (mf es vis) clock
structure Jr(es:Array MapEntry)(clock n:Nat):Prop where
 size:es.size=n
 born:∀x∈es.toList,x.born<clock
 nodup:(es.toList.map MapEntry.born).Nodup
def dN.and(cp:dN)(o:Obj):dN where
 holds A W x:=cp.holds A W x∧x=o
 nA:=cp.nA
 mono e h:=⟨cp.mono e h.1,h.2⟩
def tS(b:Nat)(o:Obj)(e:aA):aA:=if e.key=some b then⟨e.key,e.cp.and o⟩else e
def nI(b:Nat)(o:Obj)(L:aa aA):aa aA:=L.map (tS b o)
def aco(b:Nat)(o:Obj)(e:aA):(tS b o e).key=e.key:=by unfold tS;split <;> rfl
def MG{b:Nat}{o:Obj}:∀{L:aa aA},ks (nI b o L)=ks L
 |[]=>rfl
 | e::L=>by
   have bN:=MG (b:=b) (o:=o) (L:=L);show ks (tS b o e::nI b o L)=_;unfold ks;rw[aco,bN]
def J.W6(b:Bool):J where
 holds _ _ v:=∃xs:Array bd,v=.tuple xs∧xs[0]? =some (.bool b)
 mono _ h:=h
section
variable{c:bW}{E:aa (Nat×J)}{L:aa aA}{ops:Array Oper}{Q:Exit->Act->bc->Prop}
variable{d:av Tmp}{ty:bo}{pos:String}{af:Array Edge}{g:av (Nat×Bool)}{x y z:bO}{t t2:bo}
variable{bt:Type}[di bt]{hp:aE bt}{loc:aa aA}
def HD{b:Nat}{o:Obj}{α β:Type}[ag α][ag β]{kv:aa (α×β)}{uA:bt}(n:Nat)(ar:L.drop n=Gv.nI b o (aY hp))(hp':pat hp b=some uA)(hk:di.fo b uA=[⟨some b,.map kv⟩]):(⟨some b,dN.and (.map kv) o⟩:aA)∈L:=by
 have h1:(⟨some b,.map kv⟩:aA)∈aY hp:=hX (n:=0) (hp:=hp) I hp' hk;have ad:tS b o ⟨some b,.map kv⟩∈Gv.nI b o (aY hp):=gH.2 ⟨_,h1,rfl⟩;rw[<-ar]at ad;have ay:=yY ad;unfold tS at ay;rw[bm I]at ay;exact ay
def bA.swap{L':aa aA}{a:Act}{W:bc}(h:bA c E L a W)(hk:ks L'=ks L)(aS:∀e∈L',e.ok (ks L++c.bL) W):bA c E L' a W:=
 {defers:=h.defers
  size:=h.size
  env:=by rw[hk];exact h.env
  cW:=h.cW
  own:=by rw[hk];exact aS
  nodup:=by rw[hk];exact h.nodup
  lt:=by rw[hk];exact h.lt
  fa:=by rw[hk];exact h.fa
  dK:=by rw[hk];exact h.dK}
def bA.nI{a:Act}{W:bc}{M:aa aA}(h:bA c E (loc++M) a W){b:Nat}{o:Obj}(hb:W.heap[b]? =some o):bA c E (loc++Gv.nI b o M) a W:=by
 refine h.swap (by rw[ef,ef,MG]) λe he=>?_;rcases bX.1 he with he|he
 ·exact h.own e (JX _ he)
 obtain⟨gn,bw,rfl⟩:=gH.1 he;have h1:=h.own gn (Br _ bw);unfold tS;split
 ·rename_i hk;unfold aA.ok at h1⊢;simp only[hk]at h1⊢;obtain⟨o',g1,g2⟩:=h1;have:o'=o:=by rw[hb]at g1;exact(y7 g1).symm
  exact⟨o',g1,g2,this⟩
 exact h1
def bA.H6{a:Act}{W:bc}{M:aa aA}{b:Nat}{o:Obj}(h:bA c E (loc++Gv.nI b o M) a W):bA c E (loc++M) a W:=by
 have hk:ks (loc++M)=ks (loc++Gv.nI b o M):=by rw[ef,ef,MG]
 refine h.swap hk λe he=>?_;rcases bX.1 he with he|he
 ·exact h.own e (JX _ he)
 have h1:=h.own (tS b o e) (Br _ (gH.2 ⟨e,he,rfl⟩));unfold tS at h1;split at h1
 ·rename_i dI;unfold aA.ok at h1⊢;simp only[dI]at h1⊢;obtain⟨o',g1,g2,_⟩:=h1;exact⟨o',g1,g2⟩
 exact h1
def aq.H6{z:Exit}{b:Nat}{o:Obj}(n:Nat)(ar:L.drop n=Gv.nI b o (aY hp))(k:aq c Q z E (L.take n++aY hp)):aq c Q z E L:=λa W s=>by
 have e:L=L.take n++Gv.nI b o (aY hp):=by rw[<-ar,fw]
 rw[e]at s;exact k a W s.H6
def kF.get{α β:Type}[ag α][ag β]{A W}:∀{es:aa MapEntry} {kv:aa (α×β)},kF A W es kv->∀{j:Nat} {x:α×β},kv[j]? =some x->∃e,es[j]? =some e∧(J.of x.1).holds A W e.key∧(J.of x.2).holds A W e.val
 |_,_,.nil,j,x,h=>by simp at h
 | _,_,.cons h1 ad r,0,x,h=>by
   have h:some _=some x:=h;cases h;exact⟨_,rfl,h1,ad⟩
 | _,_,.cons h1 ad r,j+1,x,h=>by
   obtain⟨e,g1,g2⟩:=r.get (j:=j) (by simpa using h);exact⟨e,by simpa using g1,g2⟩
def ae.TC{rest:aa Oper}{aV p key elem:Nat}{α β:Type}[ag α][ag β]{kv:aa (α×β)}{uA:bt}(n:Nat)(ar:L.drop n=aY hp)(hu:c.P.underlying t=some (.map key elem))(al:aL c E L x (.of (⟨some p⟩:dZ)))(hp':pat hp p=some uA)(hk:di.fo p uA=[⟨some p,.map kv⟩])(aG:Nat.blt aV c.n=true)
 (k:∀r es clock,Jr es clock kv.length->ae c ops Q rest ((aV,.eq (.pointer (some ⟨r,0,none⟩)))::E) (⟨some r,.is (lR p es clock [])⟩::(L.take n++Gv.nI p (.map es clock) (aY hp)))):
 ae c ops Q (⟨some aV,.range t x,ty,pos,af,none⟩::rest) E L:=λa W s=>by
 have e:L=L.take n++aY hp:=by rw[<-ar,fw]
 have hm:(⟨some p,.map kv⟩:aA)∈L:=by
  rw[e];exact hX (n:=(L.take n).length) (hp:=hp) (by simp) hp' hk
 obtain⟨es,clock,aS,ad,ay,aN⟩:=s.Dk hm
 have ly:=u6.1 (al a W s)
 have ja:Jr es clock kv.length:=⟨by have:=ad.length;simpa using this,ay,aN⟩
 refine hl I (R:=λv W'=>v=.pointer (some ⟨W.heap.size,0,none⟩)∧W'=W.alloc (lR p es clock [])) (.lj ?_ ⟨rfl,rfl⟩) λv W' ⟨a7,hw⟩=>?_
 ·have bu:(getObj p).run c.P W=.ok (.map es clock) W:=by simp[getObj,Sem.run,aS]
  simp[execOp,Instr.range,df,dn hu,ly,bu,newObj,Sem.run]
  rfl
 subst a7
 subst hw
 have s1:=s.alloc (cp:=.is (lR p es clock [])) (o:=lR p es clock []) I
 refine k W.heap.size es clock ja _ _ (bA.put ?_ (by simpa using aG) I)
 rw[e]at s1
 have hb:(W.alloc (lR p es clock [])).heap[p]? =some (.map es clock):=by
  have bS:p<W.heap.size:=(qR.1 aS).1;show(W.heap.push _)[p]? =_;rw[Array.getElem?_push_lt bS,<-Fv bS];exact aS
 exact bA.nI (loc:=⟨some W.heap.size,.is (lR p es clock [])⟩::L.take n) s1 hb
def ae.Uu{rest:aa Oper}{aV r p:Nat}{α β:Type}[ag α][ag β]{kv:aa (α×β)}{es:Array MapEntry}{clock:Nat}{vis:aa Nat}(i:Nat)(al:aL c E L x (.eq (.pointer (some ⟨r,0,none⟩))))(aw:L[i]? =some ⟨some r,.is (lR p es clock vis)⟩)
 (hm:(⟨some p,dN.and (.map kv) (.map es clock)⟩:aA)∈L) (he:Jr es clock kv.length) (aG:Nat.blt aV c.n=true)
 (k:∀j,yz kv.length vis j->ae c ops Q rest ((aV,.W6 j.isSome)::E) (L.set i ⟨some r,.is (lR p es clock (vis++j.toList))⟩)):
 ae c ops Q (⟨some aV,.next x false,ty,pos,af,none⟩::rest) E L:=λa W s=>by
 have ly:a.eval x=_:=al a W s
 obtain⟨bp,rC,⟨_,pT⟩⟩:=s.own _ hm
 subst pT
 obtain⟨b6,AV,yg⟩:=s.own _ (er aw)
 have yg:b6=lR p es clock vis:=yg
 subst yg
 have agX:∀{j:Nat} {e:MapEntry},es[j]? =some e->(mf es vis).contains e.born=true->j∈vis:=λ{j e} aD ak=>by
  unfold mf at ak;simp only[PX,JP,J9]at ak;obtain⟨v,a7,h1⟩:=ak;cases I9:es[v]? with
  |none=>rw[I9]at h1;cases h1
  | some e'=>
    rw[I9]at h1
    have h1:e'.born=e.born:=by simpa using h1
    have AW:j<es.toList.length:=by simpa using (qR.1 aD).1
    have qG:v<es.toList.length:=by simpa using (qR.1 I9).1
    have az:(es.toList.map MapEntry.born)[j]? =some e.born:=by simp[aD]
    have a8:(es.toList.map MapEntry.born)[v]? =some e.born:=by simp[I9,h1]
    have:=(List.getElem?_inj (by simpa using AW) he.nodup).1 (az.trans a8.symm)
    rw[this];exact a7
 rcases run_next_at (P:=c.P) W ty r p clock clock (mf es vis) es clock AV rC he.born (h5 _)with⟨bw,iM⟩|⟨e,sX,ta,OB,iM⟩
 ·
  have lu:yz kv.length vis none:=λj aD=>by
   have yh:j<es.size:=by rw[he.size];exact aD
   false_or_by_contra;rename_i eP;have:es[j]∈(leftOf es (mf es vis)).toList:=by
    unfold leftOf;simp only[Qb,sd];refine⟨by simp,?_⟩;cases ak:(mf es vis).contains es[j].born with
    |false=>rfl
    |true=>exact absurd (agX (by simp[yh]) ak) eP
   have b4:(leftOf es (mf es vis)).toList=[]:=by
    apply Ft;simpa using bw
   rw[b4]at this;cases this
  refine hl I (R:=λv W'=>v=.tuple #[.bool false]∧W'=W) (.lj (v:=.tuple #[.bool false]) ?_ ⟨rfl,rfl⟩) λv W' ⟨a7,hw⟩=>?_
  ·simp only[execOp,ly,df,iM,Result.andThen_ok];rfl
  subst a7 hw
  have hk:=k none lu
  have gA:L.set i ⟨some r,.is (lR p es clock (vis++Option.toList none))⟩=L:=by
   apply k6;intro q;rw[nR];split
   ·rename_i hq;subst hq;rw[bm (fY.1 aw).1,aw];simp
   rfl
  rw[gA]at hk
  exact hk _ _ (bA.put s (by simpa using aG) ⟨_,rfl,rfl⟩)
 have Wb:e∈es.toList∧(mf es vis).contains e.born=false:=by
  unfold leftOf at sX;simp only[Qb,sd,wB]at sX;exact sX
 obtain⟨j,aD⟩:=mE.1 Wb.1
 have yh:es[j]? =some e:=by simpa using aD
 have AW:j<kv.length:=by rw[<-he.size];exact(qR.1 yh).1
 have lu:yz kv.length vis (some j):=⟨AW,λa7=>by
  have:(mf es vis).contains e.born=true:=by
   unfold mf;simp only[PX,JP,J9];exact⟨j,a7,by rw[yh];rfl⟩
  rw[Wb.2]at this;cases this⟩
 have Np:(mf es vis).push e.born=mf es (vis++[j]):=by
  unfold mf;rw[PZ];simp[yh]
 rw[Np]at iM
 refine hl I (R:=λv W'=>v=.tuple #[.bool true,e.key,e.val]∧W'=ta.putObj r (lR p es clock (vis++[j]))) (.lj (v:=.tuple #[.bool true,e.key,e.val]) ?_ ⟨rfl,rfl⟩) λv W' ⟨a7,hw⟩=>?_
 ·simp only[execOp,ly,df,iM,Result.andThen_ok];rfl
 subst a7 hw
 have s1:bA c E L a ta:=by
  rcases OB with rfl|rfl
  ·exact s
  exact s.world (Fr.drew W)
 exact k (some j) lu _ _ (bA.put (s1.rm aw (cp':=.is (lR p es clock (vis++[j]))) (o':=lR p es clock (vis++[j])) I) (by simpa using aG) ⟨_,rfl,rfl⟩)
def TD{b:Bool}(al:aL c E L x (.W6 b)):ba c E L ⟨d,.extract x 0,ty,pos,af,g⟩ (.of b):=.pure λa W s=>by
 obtain⟨xs,h1,ad⟩:=al a W s;refine⟨.bool b,?_,of_bool.2 I⟩;simp[execOp,Instr.extract,h1,ad]
def Sn{r p:Nat}{α β:Type}[ag α][ag β][Inhabited α][Inhabited β]{kv:aa (α×β)}{es:Array MapEntry}{clock:Nat}{vis:aa Nat}{j:av Nat}{q:Nat}(i:Nat)(al:aL c E L x (.eq (.pointer (some ⟨r,0,none⟩))))(aw:L[i]? =some ⟨some r,.is (lR p es clock (vis++j.toList))⟩)
 (hm:(⟨some p,dN.and (.map kv) (.map es clock)⟩:aA)∈L) (he:Jr es clock kv.length) (aD:yz kv.length vis j) (hq:j=some q):
 ba c E L ⟨d,.entry x,ty,pos,af,g⟩ (.bR [.of (aF kv q).1,.of (aF kv q).2]):=.pure λa W s=>by
 subst hq
 have ly:a.eval x=_:=al a W s
 obtain⟨bp,rC,⟨mr,xt,ox,ad,ay,aN⟩,pT⟩:=s.own _ hm
 subst pT
 cases ox
 obtain⟨b6,AV,yg⟩:=s.own _ (er aw)
 have yg:b6=lR p es clock (vis++[q]):=yg
 subst yg
 have W7:q<kv.length:=aD.1
 obtain⟨e,g1,g2,g3⟩:=ad.get (j:=q) (x:=aF kv q) (by rw[e2 _ W7];exact oO W7)
 have yh:es[q]? =some e:=by simpa using g1
 have Np:mf es (vis++[q])=(mf es vis).push e.born:=by
  unfold mf;rw[PZ];simp[yh]
 have OC:W.heap[r]? =some (.mapIter (some p) clock ((mf es vis).push e.born) clock):=by rw[<-Np];exact AV
 have iM:=run_entry_at (P:=c.P) W r p clock (mf es vis) es clock e OC rC (er g1) he.nodup
 refine⟨.tuple #[e.key,e.val],?_,_,rfl,.cons g2 (.cons g3 .nil)⟩
 simp only[execOp,ly,df,iM,Result.andThen_ok]
 rfl
end
end Gv
namespace Gv
open Go Go.Proofs Go.Sort
def J.DS{α:Type}[ag α](P:Program)(F:α->α->av Int):J where
 holds A W v:=∃f cap,v=.func (.func f) #[] cap∧bx P f∧∀cg W',Ext A W cg W'->(∀k∈cg,k<W'.heap.size)->∀x y r my rU,F x y=some r->(J.of x).holds cg W' my->(J.of y).holds cg W' rU->
  Calls P f (#[my,rU]++cap) W' λe rH=> ∃v,e=.returned v∧Fr [] W' rH∧(J.of r).holds cg rH v
 mono e h:=let⟨f,cap,h1,ad,ay⟩:=h; ⟨f,cap,h1,ad,λcg W' e'=>ay cg W' (e.trans e')⟩
def Sp{c:bW}{E:aa (Nat×J)}{L:aa aA}{α:Type}[ag α]{F:α->α->av Int}{f:FuncId}(bU:bx c.P f)(h:∀x y r,F x y=some r->cn c.P f [.of x,.of y] (.of r)):aL c E L (.func f) (.DS c.P F):=λa W s=>
 ⟨f,#[],rfl,bU,λcg W' _ eo x y r my rU kp al hy=>by simpa using h x y r kp cg W' [my,rU] eo (.cons al (.cons hy .nil))⟩
def acp{W W':bc}(h:Fr [] W W'):∃q os,W'=grow (W.drewN q) os:=by
 obtain⟨p,hp⟩:=regrown_of_below h.below;have hd:=h.drawn;rw[hp]at hd;have hd:W.drawn<=p.d:=hd;refine⟨p.d-W.drawn,p.os,?_⟩;rw[hp];unfold redrawn World.drewN;congr 2;omega
structure vR{α:Type}(c:α->α->Int):Prop where
 neg:∀x y,c x y<0↔0<c y x
 l2:∀x y z,c x y<=0->c y z<=0->c x z<=0
def vR.swo{α:Type}{c:α->α->Int}(h:vR c):SWO (ltOf c)where
 irrefl x:=by
  unfold ltOf;rw[mD];intro h1;have:=(h.neg x x).1 h1;omega
 trans x y z h1 ad:=by
  unfold ltOf at *;rw[fZ]at *;have bK:=h.l2 x y z (by omega) (by omega);by_cases ay:c x z<0
  ·exact ay
  have aN: ¬0<c z x:=λa6=>ay ((h.neg x z).2 a6);have a6:=h.l2 y z x (by omega) (by omega);have:=(h.neg x y).1 h1;omega
 ntrans x y z h1 ad:=by
  unfold ltOf at *;rw[mD]at *;have cZ: ¬0<c y x:=λay=>h1 ((h.neg x y).2 ay);have dA: ¬0<c z y:=λay=>ad ((h.neg y z).2 ay);have gF:=h.l2 z y x (by omega) (by omega);intro ay;have:=(h.neg x z).1 ay;omega
def vR.on{α β:Type}{c:α->α->Int}(h:vR c)(g:β->α):vR (λx y=>c (g x) (g y)):=⟨λx y=>h.neg _ _,λx y z=>h.l2 _ _ _⟩
def lz(k:Nat)(cs:Array bd)(i:Nat):aa bd:=(cs.toList.drop (i*k)).take k
def Tl{k:Nat}{cs:Array bd}{i j:Nat}(aD:j<k)(h:i*k+j<cs.size):(lz k cs i)[j]! =cs[i*k+j]:=by
 have ao:j<(lz k cs i).length:=by
  unfold lz;rw[fg,jh,Array.length_toList];omega
 rw[getElem!_pos _ j ao];have:(lz k cs i)[j]? =cs[i*k+j]? :=by
  unfold lz;rw[jN,bm aD,kM,wq]
 rw[oO ao,Fv h]at this;exact y7 this
def aa8{n k p:Nat}[Inhabited (Fin n)]{W:bc}{cs:Array bd}{t:bo}(aS:W.heap[p]? =some (.cells cs t (0,0)))(da:n*k<=cs.size)(d:Array (Fin n))(hd:d.size=n)(EF:∀i (h:i<n),d[i]! =⟨i,h⟩):HoldsK (λi:Fin n=>lz k cs i.1) k W p 0 d:=by
 intro j aD;have aD:j<d.size*k:=by simpa using aD
 have AX:j<n*k:=by rw[<-hd];exact aD
 have hk:0<k:=BB λe=>by rw[e]at AX;omega
 have hdiv:j/k<n:=P9 (by rw[p9];exact AX);have xO:=Cv j hk;have alm:j/k*k+j % k=j:=by rw[p9];exact BW j k
 constructor
 ·rw[get_flatK _ _ _ _ aD,EF _ hdiv];show W.cell? _=some ((lz k cs (j/k))[j % k]!);rw[Tl xO (by omega)];unfold World.cell?;simp only[aS,iS,alm];simp
 unfold World.frozen?;simp[aS]
def Ro{n k p m:Nat}[Inhabited (Fin n)]{W:bc}{cs:Array bd}{t:bo}(hp:p<W.heap.size)(aS:W.heap[p]? =some (.cells cs t (0,0)))(enc:Fin n->aa bd)(d:Array (Fin n))(os:Array Obj):
 (sortWorldK enc k W p 0 m d os).heap[p]? =some (.cells (putCells id 0 (flatK enc k d) cs) t (0,0))∧(∀q,q<W.heap.size->q≠p->(sortWorldK enc k W p 0 m d os).heap[q]? =W.heap[q]?)∧W.heap.size<=(sortWorldK enc k W p 0 m d os).heap.size:=by
 unfold sortWorldK grow putRowK putRow mapBlock
 refine⟨?_,λq hq cR=>?_,?_⟩
 ·rw[tb (by simpa[Sort.ahead]using hp),JN]
  simp[Sort.ahead,aS,onCells]
 ·rw[tb (by simpa[Sort.ahead]using hq),JN]
  simp[Sort.ahead,w0 cR]
 simp[Sort.ahead]
def R5{n k p m:Nat}[Inhabited (Fin n)]{W:bc}{cs:Array bd}{t:bo}(hp:p<W.heap.size)(aS:W.heap[p]? =some (.cells cs t (0,0)))(enc:Fin n->aa bd)(d:Array (Fin n))(os:Array Obj):Fr [p] W (sortWorldK enc k W p 0 m d os):=by
 obtain⟨_,ad,ay⟩:=Ro (k:=k) (m:=m) hp aS enc d os;exact⟨rfl,rfl,rfl,Nat.le_add_right _ _,ay,λq hq cR=>ad q hq (by simpa using cR)⟩
def Hb{F cs:Array bd}:(putCells id 0 F cs).size=cs.size:=by unfold putCells;simp
def aeB{n k i j:Nat}(aw:i<n)(aD:j<k):i*k+j<n*k:=by
 have:=gp k (show i+1<=n from aw);rw[lG,KT]at this;omega
def adx{n k i:Nat}{cs:Array bd}(da:n*k<=cs.size)(aw:i<n):(lz k cs i).length=k:=by
 have:=gp k (show i+1<=n from aw);rw[lG,KT]at this;unfold lz;rw[fg,jh,Array.length_toList];omega
def aa9{n k i:Nat}[Inhabited (Fin n)]{cs:Array bd}{enc:Fin n->aa bd}(hk:∀x,(enc x).length=k){d:Array (Fin n)}(hd:d.size=n)(da:n*k<=cs.size)(aw:i<n):lz k (putCells id 0 (flatK enc k d) cs) i=enc d[i]! :=by
 apply BP
 ·rw[adx (by rw[Hb];exact da) aw,hk]
 intro j h1 ad;have aD:j<k:=by rw[hk]at ad;exact ad
 have bS:=aeB aw aD;have pf:0<k:=by omega
 have aU:i*k+j<d.size*k:=by rw[hd];exact bS
 have az:(i*k+j)/k=i:=by rw[p9,Nat.mul_add_div pf,Kg aD];omega
 have a8:(i*k+j) % k=j:=by rw[p9,Nat.mul_add_mod,Kh aD]
 rw[<-getElem!_pos _ j h1,Tl aD (by rw[Hb];omega),<-getElem!_pos (enc d[i]!) j ad];unfold putCells;rw[Array.getElem_mapIdx,bm ⟨uO _,by rw[size_flatK];omega⟩,Nat.sub_zero,get_flatK _ _ _ _ aU,az,a8];rfl
def acq{m:Nat}{cs:Array bd}(h:m<=cs.size):(cs.toList.take m).length=m:=by rw[fg,Array.length_toList];omega
def Tm{α:Type}(a:Array α){n:Nat}(h:a.size=n):a.extract 0 n=a:=by subst h;simp
def Sz{n k i:Nat}{cs:Array bd}(aw:i<n):((cs.toList.take (n*k)).drop (i*k)).take k=lz k cs i:=by
 have:=gp k (show i+1<=n from aw);rw[lG,KT]at this;rw[tg,p8,show min k (n*k-i*k)=k by omega];rfl
set_option maxHeartbeats 1000000 in
open Go.Shelf in
def agY{T:Type}[ag T]{P:Program}{ρ:Ren}(L:SlLaysF0.n6 P ρ)(Pl:∀w,(isAgg (ρ.t 24)).run P w=.ok true w)(Pm:∀w,(Go.sizeOf (ρ.t 24)).run P w=.ok (ag.size T) w)(OD:ag.agg T=true){t:bo}{xs:aa T}{F:T->T->av Int}{c:T->T->Int}(ak:vR c)
 (kp:∀a∈xs,∀b∈xs,F a b=some (c a b)) (hlen:xs.length<4611686018427387904) {key:av Nat} {cap:Nat}:
 bJ P (ρ.f 6) [.eq (aZ key xs.length cap),.DS P F] [⟨key,.row t xs cap⟩] (δ:= {ys:aa T // ys.Perm xs∧ys.Pairwise (λa b=>c a b<=0)}) (λ_=>.bR []) (λd=>[⟨key,.row t d.1 cap⟩]):=by
 intro A W vs eo jv bS gN a7
 cases a7 with
 | cons h1 a7=>cases a7 with
   | cons ad a7=>cases a7 with
     | nil=>
       rename_i v1 v2
       have h1:v1=aZ key xs.length cap:=h1
       obtain⟨f,yy,rfl,bU,xC⟩:=ad
       subst h1
       cases key with
       | none=>
         have ajq:xs=[]∧cap=0:=gN ⟨none,.row t xs cap⟩ (by simp)
         obtain⟨rfl,rfl⟩:=ajq
         refine(AnyF.slices_SortFunc_none L none 0 (.func (.func f) #[] yy) W).mono ?_
         rintro e ps ⟨rfl,rfl⟩
         exact⟨_,⟨[],.refl _,.nil⟩,rfl,Fr.refl _ _,by simp[ks],by simp[ks],λe he=>by simp at he;subst he;exact⟨rfl,rfl⟩,⟨_,rfl,.nil⟩⟩
       | some p=>
         obtain⟨o,aS,cs,rfl,da,hle,Wc,U5⟩:∃o,W.heap[p]? =some o∧(dN.row t xs cap).holds (ks [⟨some p,.row t xs cap⟩]++A) W o:=gN ⟨some p,.row t xs cap⟩ (by simp)
         have hp:p<W.heap.size:=bS p (by simp[ks])
         have aln:∀q∈p::A,q<W.heap.size:=λq hq=>by
          rcases dB.1 hq with rfl|hq
          ·exact hp
          exact(eo q hq).1
         have W8:p∉A:=λh=>(eo p h).2 (by simp[ks])
         by_cases bw:xs.length=0
         ·obtain rfl:xs=[]:=Fx.1 bw
          refine(AnyF.slices_SortFunc_none L (some ⟨p,0,none⟩) cap (.func (.func f) #[] yy) W).mono ?_
          rintro e ps ⟨rfl,rfl⟩
          refine⟨_,⟨[],.refl _,.nil⟩,rfl,Fr.refl _ _,by simp[ks],λq hq=>?_,λe he=>?_,⟨_,rfl,.nil⟩⟩
          ·simp[ks]at hq;subst hq
           exact⟨hp,λ_=>by simp[ks],W8⟩
          simp at he;subst he
          exact⟨_,aS,cs,rfl,da,hle,Wc,U5⟩
         have aG:0<xs.length:=by omega
         letI:Inhabited (Fin xs.length):=⟨⟨0,aG⟩⟩
         have OE:xs.length*ag.size T<=cs.size:=by rw[da];exact gp _ hle
         have DI:∀i (h:i<xs.length),ag.rep (p::A) W (lz (ag.size T) cs i) xs[i]:=λi h=>by
          have:=U5.2 i h;rw[Sz h]at this;exact this
         have dC:(Array.ofFn λi:Fin xs.length=>i).size=xs.length:=by simp
         have EF:∀i (h:i<xs.length),(Array.ofFn λi:Fin xs.length=>i)[i]! =⟨i,h⟩:=λi h=>by
          rw[getElem!_pos _ i (by simp;exact h)];simp
         generalize (Array.ofFn λi:Fin xs.length=>i)=d at dC EF
         have pt:=aa8 aS OE d dC EF
         have hO:SWO (ltOf λx y:Fin xs.length=>c xs[x.1] xs[y.1]):=(ak.on λi:Fin xs.length=>xs[i.1]).swo
         have ha:∀m os qP,Ext (p::A) W (p::A) (sortWorldK (λi:Fin xs.length=>lz (ag.size T) cs i.1) (ag.size T) W p 0 m qP os):=λm os qP=>Ext.US (R5 hp aS _ qP os) λq hq=>by simp at hq;subst hq;exact j8
         have Av:∀m os qP (i:Fin xs.length),(J.of xs[i.1]).holds (p::A) (sortWorldK (λi:Fin xs.length=>lz (ag.size T) cs i.1) (ag.size T) W p 0 m qP os) (.agg (lz (ag.size T) cs i.1).toArray):=λm os qP i=>
          ⟨by rw[OD];exact⟨_,rfl⟩,ag.mono (ha m os qP) (DI i.1 i.2)⟩
         have ajr:CmpLays P f yy (λi:Fin xs.length=>lz (ag.size T) cs i.1) (ag.size T) (λx y:Fin xs.length=>c xs[x.1] xs[y.1]) p 0 d.size W:=λm os qP ann x y=>
          (xC (p::A) _ (ha m os qP) (λq hq=>p5 (aln q hq) (ha m os qP).size) _ _ _ _ _ (kp _ (mH x.2) _ (mH y.2)) (Av m os qP x) (Av m os qP y)).mono λe ps ⟨v,he,alo,a7⟩=>⟨by rw[he,of_int.1 a7],acp alo⟩
         have ar:∀x:Fin xs.length,(lz (ag.size T) cs x.1).length=ag.size T:=λx=>ag.len (DI x.1 x.2)
         have alp:∀x:Fin xs.length,∀v∈lz (ag.size T) cs x.1,v.oneCell'=true:=λx=>ag.one (DI x.1 x.2)
         have jZ:d.size<4611686018427387904:=by omega
         have h:=AnyQ.slices_SortFunc L (ag.size T) Pl Pm (λi:Fin xs.length=>lz (ag.size T) cs i.1) ar alp (λx y:Fin xs.length=>c xs[x.1] xs[y.1]) hO f yy p 0 cap d W (λargs w=>bU.run args w) ajr pt hp jZ
         rw[dC]at h
         refine h.mono ?_
         rintro e ps ⟨rfl,l3,m,os,U6,agZ,rfl⟩
         obtain⟨ch,_,alq⟩:=Ro (k:=ag.size T) (m:=m) hp aS (λi:Fin xs.length=>lz (ag.size T) cs i.1) l3 os
         have hd':l3.size=xs.length:=U6.1.trans dC
         have jG:(l3.toList.map λi=>xs[i.1]).length=xs.length:=by simp[hd']
         have lA:(l3.toList.map λi=>xs[i.1]).Perm xs:=by
          have ad:=U6.2.2;rw[Tm l3 hd',Tm d dC]at ad;refine(ad.map _).trans (List.Perm.of_eq ?_);refine BP (by simp[dC]) λi ay aN=>?_;have:=EF i aN;rw[getElem!_pos _ i (by omega)]at this;simp[this]
         have rq:∀i (h:i<xs.length),(l3.toList.map λi=>xs[i.1])[i]'(by omega)=xs[(l3[i]!).1]:=λi h=>by
          have e:l3[i]! =l3[i]'(by omega):=getElem!_pos _ i (by omega);simp[e]
         have OF:(l3.toList.map λi=>xs[i.1]).Pairwise (λa b=>c a b<=0):=by
          rw[List.pairwise_iff_getElem];intro i j aw aD gD;rw[jG]at aw aD;have:=agZ i j (uO _) gD aD;unfold ltOf at this;rw[mD]at this;rw[rq i aw,rq j aD];have a6: ¬0<c xs[(l3[i]!).1] xs[(l3[j]!).1]:=λbh=>this ((ak.neg _ _).2 bh);omega
         refine⟨_,⟨_,lA,OF⟩,rfl,R5 hp aS _ l3 os,by simp[ks],λq hq=>?_,λe he=>?_,⟨_,rfl,.nil⟩⟩
         ·simp[ks]at hq;subst hq
          exact⟨p5 hp alq,λ_=>by simp[ks],W8⟩
         simp at he;subst he
         refine⟨_,ch,_,rfl,by rw[Hb];exact da,by rw[jG];exact hle,Wc,?_,λi aw=>?_⟩
         ·rw[jG];exact acq (by rw[Hb];exact OE)
         rw[jG]at aw
         rw[jG,Sz aw,aa9 (λx=>ag.len (DI x.1 x.2)) hd' OE aw,rq i aw]
         exact ag.mono (ha m os l3) (DI _ (l3[i]!).2)
def ah.tI{T:Type}(xs:aa T)(F:T->T->av Int):ah (aa T):=λQ=> ∃c:T->T->Int,vR c∧xs.length<4611686018427387904∧(∀a∈xs,∀b∈xs,F a b=some (c a b))∧∀ys:aa T,ys.Perm xs->ys.Pairwise (λa b=>c a b<=0)->Q ys
open Go.Shelf in
def T8{T:Type}[ag T]{P:Program}{ρ:Ren}(L:SlLaysF0.n6 P ρ)(Pl:∀w,(isAgg (ρ.t 24)).run P w=.ok true w)(Pm:∀w,(Go.sizeOf (ρ.t 24)).run P w=.ok (ag.size T) w)(OD:ag.agg T=true){t:bo}{xs:aa T}{F:T->T->av Int}{K:aa T->Prop}(h:ah.tI xs F K){key:av Nat}{cap:Nat}:
 bJ P (ρ.f 6) [.eq (aZ key xs.length cap),.DS P F] [⟨key,.row t xs cap⟩] (δ:= {r:aa T // xs.length=r.length∧K r}) (λ_=>.bR []) (λd=>[⟨key,.row t d.1 cap⟩]):=by
 obtain⟨c,ak,hlen,kp,hk⟩:=h
 intro A W vs h1 ad ay aN a6
 exact(agY L Pl Pm OD ak kp hlen A W vs h1 ad ay aN a6).mono λe ps ⟨v,d,h⟩=>⟨v,⟨d.1,d.2.1.length_eq.symm,hk _ d.2.1 d.2.2⟩,h⟩
end Gv
namespace Gv
open Go
def ah.akH{α β ρ:Type}{h9:α->Prop}{m:α->ah β}{k:α->β->ah ρ}{R:ρ->Prop}(h:∀y,h9 y->ah.bind (m y) (k y) R):∃K:α×β->Prop,(∀y,h9 y->m y λz=>K (y,z))∧∀y,K y->k y.1 y.2 R:=
 ⟨λy=>k y.1 y.2 R,h,λ_ h=>h⟩
def ah.hd{α ρ:Type}{m:ah α}{k:α->ah ρ}{R:ρ->Prop}(h:ah.bind m k R):m (λa=>k a R):=h
structure amu(α:Type)where
 p:Option α
 deriving DecidableEq,Inhabited
def acR{c:bW}{E:aa (Nat×J)}{L:aa aA}{d:av Tmp}{ty:bo}{pos:String}{af:Array Edge}{g:av (Nat×Bool)}{x:bO}{t t2:bo}{p:Addr}{e:bo}(hu:c.P.underlying t=some (.pointer e))(al:aL c E L x (.eq (.pointer (some p)))):ba c E L ⟨d,.binOp .neq t x (.const (.pointer none)) t2,ty,pos,af,g⟩ (.of true):=.pure λa W s=>by
 have aG:a.eval (.const (.pointer none))=.pointer none:=rfl;have h1:a.eval x=.pointer (some p):=al a W s;refine⟨.bool true,?_,of_bool.2 I⟩;simp only[execOp,eqGuard,binOp,h1,aG,Op.equal,Op.maxDepth];simp[Lm hu p W 9999]
structure vb(P:Program)(τ:J)(τs:List J)(Lin:List aA){δ:Type}(ρ:δ->J)(Lo:δ->List aA):Prop where
 go:∀(A:List Nat) (W:World) (u:Value) (vs:List Value),(∀k∈A,k<W.heap.size∧k∉ks Lin)->(ks Lin).Nodup->(∀k∈ks Lin,k<W.heap.size)->(∀e∈Lin,e.ok (ks Lin++A) W)->fK (ks Lin++A) W (τ::τs) (u::vs)->
  ∃(f:FuncId) (fj:List Value),u=.func (.func f) #[] fj.toArray∧bx P f∧Calls P f (vs++fj).toArray W (jo (ks Lin) A W ρ Lo)
def vb.of{P:Program}{f:FuncId}{τ:J}{rp τs:aa J}{Lin:aa aA}{δ:Type}{ρ:δ->J}{Lo:δ->aa aA}(bU:bx P f)(Ex:∀A W u,τ.holds A W u->(J.ju f rp).holds A W u)
 (h:bJ P f (τs++rp) Lin ρ Lo):vb P τ τs Lin ρ Lo where
 go A W u vs h1 ad ay aN a6:=by
  cases a6 with
  | cons bh cH=>
    obtain⟨fj,rfl,ed⟩:=Ex _ _ _ bh
    exact⟨f,fj,rfl,bU,h A W (vs++fj) h1 ad ay aN (cH.append ed)⟩
section
variable{c:bW}{E:aa (Nat×J)}{L:aa aA}{ops:Array Oper}{Q:Exit->Act->bc->Prop}
variable{d:av Tmp}{ty:bo}{pos:String}{af:Array Edge}{g:av (Nat×Bool)}{x y z:bO}{t t2:bo}
def Mp{o:Oper}{σ τ:J}(h:ba c E L o σ)(e:∀A W v,σ.holds A W v->τ.holds A W v):ba c E L o τ:=λa W s=>by
 have:=h a W s;unfold gz at this⊢;exact tk (λgQ W' ⟨v,h1,ad,ay⟩=>⟨v,h1,ad,e _ _ _ ay⟩) this
def ady{a:Act}{W:bc}{xs:aa bO}{ats:Array bo}{τ:J}{τs:aa J}{Lin Lr:aa aA}{δ:Type}{ρ:δ->J}{Lo:δ->aa aA}(h:vb c.P τ τs Lin ρ Lo)
 (s:bA c E (Lin++Lr) a W) (al:fK (ks (Lin++Lr)++c.bL) W (τ::τs) ((x::xs).map a.eval)):
 gz c.P ⟨d,.call ⟨.value x,xs.toArray,ats⟩,ty,pos,af,g⟩ a W λv W'=> ∃aV,bA c E (Lo aV++Lr) a W'∧(ρ aV).holds (ks (Lo aV++Lr)++c.bL) W' v:=by
 have kd:=s.nodup
 rw[ef]at kd
 obtain⟨lT,pV,oB⟩:=nS.1 kd
 have gA:Ext (ks (Lin++Lr)++c.bL) W (ks Lin++(ks Lr++c.bL)) W:=zT
 have eo:∀k∈ks Lr++c.bL,k<W.heap.size∧k∉ks Lin:=λk hm=>by
  rcases bX.1 hm with hm|hm
  ·exact⟨s.lt k (by rw[ef];exact bX.2 (.inr hm)),λh=>oB k h k hm I⟩
  obtain⟨h1,ad⟩:=s.dK k hm;exact⟨h1,λh=>ad (by rw[ef];exact bX.2 (.inl h))⟩
 have bS:∀k∈ks Lin,k<W.heap.size:=λk hm=>s.lt k (by rw[ef];exact bX.2 (.inl hm))
 obtain⟨f,fj,hu,bU,ak⟩:=h.go (ks Lr++c.bL) W (a.eval x) (xs.map a.eval) eo lT bS (λe he=>aA.sk (s.own e (bX.2 (.inl he))) gA λ_ _=>rfl) (by simpa using al.mono gA)
 refine .tt (f:=f) (args:=(xs.map a.eval++fj).toArray) (W':=W) ?_ (ak.mono λe W' ⟨v,aV,he,aU,h1,ad,ay,aN⟩=>?_)
 ·simp[execOp,resolve,Deferred.ofValue,hu,invoke,bU.run]
 refine⟨v,he,aV,s.after aU h1 ad ay,(ρ aV).mono Ha aN⟩
variable{bt:Type}[di bt]{hp:aE bt}
def ae.akS{rest:aa Oper}{aV:Nat}{xs:aa bO}{ats:Array bo}{τ:J}{τs:aa J}{Lin Lr:aa aA}{δ:Type}{ρ:δ->J}{Lo:δ->aa aA}{hq:δ->aE bt}(n m:Nat)(ar:L.drop n=aY hp)(h:vb c.P τ τs (Lin++aY hp) ρ (λd=>Lo d++aY (hq d)))
 (h1:(L.take n).take m=Lin) (ad:(L.take n).drop m=Lr) (al:gZ c E L (x::xs) (τ::τs)) (aG:Nat.blt aV c.n=true) (k:∀q,ae c ops Q rest ((aV,ρ q)::E) ((Lo q++Lr)++aY (hq q))):
 ae c ops Q (⟨some aV,.call ⟨.value x,xs.toArray,ats⟩,ty,pos,af,none⟩::rest) E L:=by
 have e:L=(Lin++Lr)++aY hp:=by rw[<-h1,<-ad,fw,<-ar,fw]
 clear ar h1 ad
 subst e
 exact λa W s=>hl I (ady (Lr:=Lr) h (s.perm la) ((al.holds a W s).mono (ns la))) λv W' ⟨q,b1,a7⟩=>
  k q _ _ ((b1.perm la).put (by simpa using aG) ((ρ q).mono (ns la) a7))
def ag0{p n:Nat}{k:bt}{e:aA}{es:aa aA}(ar:L.drop n=aY hp)(h:pat hp p=some k)(hk:di.fo p k=e::es):e∈L:=by
 obtain⟨R,h1,_⟩:=tn h;rw[hk]at h1;have:e∈L.drop n:=by rw[ar];exact h1.mem_iff.2 (by simp)
 exact yY this
def acr{x:bO}{t:bo}{p o:Nat}{β γ:Type}[ag β][ag γ]{b:β}{os:aa (Nat×bd)}(l:aO β γ){r:γ}(dx:bG c.P t γ)(al:aL c E L x (.eq (.pointer (some ⟨p,o,none⟩))))
 (hm:(⟨some p,.ck b os⟩:aA)∈L) (aS:o=l.off) (aC:l.get b=r) (a1:sv os l.off (ag.size γ)=true):ba c E L ⟨d,.load t x,ty,pos,af,g⟩ (.of r):=by
 obtain⟨i,aw⟩:=mE.1 hm
 exact Hg (i:=i) l dx al aw aS aC a1
def Sr{bt:Type}{hp:aE bt}{p:Nat}{k:bt}(h:pat hp p=some k):bY hp p k=hp:=by
 induction hp with
 |nil=>rfl
 | cons z r bN=>
   obtain⟨q,amr⟩:=z
   simp only[pat]at h
   simp only[bY]
   split
   ·rename_i e
    rw[bm e]at h
    rw[y7 h]
   rename_i e
   rw[bk e]at h
   rw[bN h]
def ae.Mq{l:aa Oper}{p:Nat}{k:bt}{X:aa aA}(n:Nat)(ar:L.drop n=aY hp)(hp':pat hp p=some k)(hk:di.fo p k=X)
 (lF:∀R,(∀k',(aY (bY hp p k')).Perm (di.fo p k'++R))->ae c ops Q l E (X++(L.take n++R))):ae c ops Q l E L:=by
 obtain⟨R,bg,bE⟩:=tn hp'
 refine ae.perm ?_ (lF R bE)
 conv=>rhs;rw[<-fw n L,ar]
 rw[hk]at bg
 refine List.Perm.trans ?_ (bg.symm.append_left (L.take n))
 rw[<-h3,<-h3]
 exact mF.append_right _
def ae.M6{l:aa Oper}{p:Nat}{R M:aa aA}(k':bt)(m n:Nat)(jd:∀k',(aY (bY hp p k')).Perm (di.fo p k'++R))(ar:L.drop n=R)(h1:(L.take n).take m=di.fo p k')(ad:(L.take n).drop m=M)
 (lF:ae c ops Q l E (M++aY (bY hp p k'))):ae c ops Q l E L:=by
 have e:L=(di.fo p k'++M)++R:=by rw[<-h1,<-ad,fw,<-ar,fw]
 refine ae.perm ?_ lF
 rw[e]
 refine((jd k').append_left M).trans ?_
 rw[<-h3]
 exact mF.append_right _
end
section
variable{P:Program}{b:Frame}{a:Act}{k:aa Item}{cs:aa Frame}{w:bc}{Q:Exit->Act->bc->Prop}{F:Fence}{n:Nat}
def OG(Q:Exit->Act->bc->Prop):Exit->Act->bc->Prop
 | .goto _,_,_=>False
 |e,a,w=>Q e a w
def zF{c:Code}:step P (lone (b.atR a (.code (.scope c)::k)) cs w)=.next (lone (b.atR a (.code c::.inScope c::k)) cs w):=
 step_lone_go (by simp[stepG,stepG.exec,Frame.atR])
def aao{c:Code}:step P (lone (b.atR a (.inScope c::k)) cs w)=.next (lone (b.atR a k) cs w):=
 step_lone_go (by simp[stepG,stepG.exec,Frame.atR])
def aba{c:Code}(h:c.wpIn F n P (OG Q) a w):(Code.scope c).wpIn F n P Q a w:=by
 intro b k cs oy hb aC;have bw:(lone (b.atR a (.code (.scope c)::k)) cs w).fenced P F:=zm hb aC I;obtain⟨e,qx,xP,hq,mS⟩:=h b (.inScope c::k) cs oy hb aC;cases e with
 |normal=>exact⟨.normal,qx,xP,hq,.head bw zF (Ky mS (.one (zm hb aC I) aao))⟩
 | exit id=>
   have al:exitTo id (.inScope c::k)=exitTo id k:=by simp[exitTo]
   exact⟨.exit id,qx,xP,hq,λk' hk=>.head bw zF (mS.1 k' (by rw[al];exact hk)),
    λiB hk=>let⟨k₁,h1,ad⟩:=mS.2 iB (by rw[al];exact hk); ⟨k₁,h1,.head bw zF ad⟩⟩
 |goto l=>exact hq.elim
 |ret=>exact⟨_,qx,xP,hq,.of_steps (.one bw zF) mS⟩
 |panic E5=>exact⟨_,qx,xP,hq,.of_steps (.one bw zF) mS⟩
 |outgrown=>exact⟨_,qx,xP,hq,.of_steps (.one bw zF) mS⟩
end
section
variable{c:bW}{E:aa (Nat×J)}{L:aa aA}{Q:Exit->Act->bc->Prop}
def ax.scope{x:Code}(h:ax c (OG Q) x E L):ax c Q (.scope x) E L:=λa W s=>aba (h a W s)
def ax.label{l:Nat}(h:aq c Q .normal E L):ax c Q (.label l) E L:=λa W s=>wpIn_label (h a W s)
def aq.Vq(h:aq c Q .ret E L):aq c (OG Q) .ret E L:=h
end
section
variable{c:bW}{E:aa (Nat×J)}{L:aa aA}
def ba.akK{o:Oper}{ρ τ:J}{p:Prop}(fq:Nat)(ao:look E fq=some (.cond p τ))(hb:p)(h:ba c ((fq,τ)::E) L o ρ):ba c E L o ρ:=λa W s=>by
 refine h a W (s.less λt σ ad=>?_);simp only[look]at ad;by_cases e:Nat.beq fq t=true
 ·rw[e]at ad;simp only[cond_true,fC]at ad;have:=eO.1 e;subst this;subst ad;exact⟨_,ao,λA W v a7=>a7.1 hb⟩
 simp only[kN]at e;rw[e]at ad;simp only[cond_false]at ad;exact⟨σ,ad,λ_ _ _ h=>h⟩
end
abbrev J.cV(p:Nat):J:=.eq (.pointer (some ⟨p,0,none⟩))
abbrev bb{α:Type}[ag α](p:Nat)(x:α):aA:=⟨some p,.var x⟩
inductive mA:Nat->List aA->List aA->Prop
 |nil {L:List aA}:mA 0 L []
 |cons {n:Nat} {e:aA} {r s:List aA}:mA n r s->mA (n+1) (e::r) (e::s)
inductive mB:List aA->List aA->Prop
 |nil:mB [] []
 |fo {bt:Type} [di bt] {hp:aE bt}:mB (aY hp) (aY hp)
 |py {l:List aA}:mB l l
 |cons {e e':aA} {r s:List aA}:e=e'->mB r s->mB (e::r) (e'::s)
def mB.eq:∀{l m:aa aA},mB l m->l=m
 |_,_,.nil=>rfl
 |_,_,@mB.fo _ _ _=>rfl
 |_,_,.py=>rfl
 |_,_,.cons h1 h=>by rw[h.eq,h1]
section
variable{c:bW}{E:aa (Nat×J)}{L:aa aA}{ops:Array Oper}{Q:Exit->Act->bc->Prop}{x:bO}
def ae.dd{l:aa Oper}{L2:aa aA}(k:ae c ops Q l E L2)(h:mB L L2:=by repeat (first|exact mB.fo|exact mB.nil|(apply mB.cons; (first|(dsimp only;exact rfl)|exact rfl))|exact mB.py)):ae c ops Q l E L:=.ep h.eq k
def aq.dd{z:Exit}{L2:aa aA}(k:aq c Q z E L2)(h:mB L L2:=by repeat (first|exact mB.fo|exact mB.nil|(apply mB.cons; (first|(dsimp only;exact rfl)|exact rfl))|exact mB.py)):aq c Q z E L:=.ep h.eq k
def ew.nc{γ:Type}{Pn:aa (Nat×J)}{Po:aa aA}{f:Nat}{bQ:Array Bool}(cB:aa Nat)(d m Bd:Nat)(q1:Array Bool)(u:γ->aa (Nat×J))(xs ys:γ->aa aA)(h1:∀g,ew c ops Q Bd q1 (u g++Pn) (xs g++(Po++ys g)))
 (ad:(∀g,ew c ops Q Bd q1 (u g++Pn) (xs g++(Po++ys g)))->ew c ops Q f bQ E L) (aK:iF E cB Pn:=by repeat (first|exact iF.nil|(apply iF.cons;rfl))) (ar:mA m (L.drop d) Po:=by repeat (first|exact mA.nil|apply mA.cons)):ew c ops Q f bQ E L:=ad h1
def ew.s1{f:Nat}{bQ:Array Bool}{o:Oper}(i:Nat)(h:ae c ops (nN (wpAnyIn c.F 9 c.P .any ops Q f (bQ.setIfInBounds i true)) Q) [o] E L)(aS:ops[i]? =some o:=by rfl)(aC:Region.ready .any ops bQ=[i]:=by kernel_rfl):ew c ops Q (f+1) bQ E L:=.step [i] aC I ⟨⟨o,aS,h⟩,trivial⟩
def ew.s2{f:Nat}{bQ:Array Bool}{o b6:Oper}(i j:Nat)(h:ae c ops (nN (wpAnyIn c.F 9 c.P .any ops Q f (bQ.setIfInBounds i true)) Q) [o] E L)(ad:ae c ops (nN (wpAnyIn c.F 9 c.P .any ops Q f (bQ.setIfInBounds j true)) Q) [b6] E L)
 (aS:ops[i]? =some o:=by rfl) (ez:ops[j]? =some b6:=by rfl) (aC:Region.ready .any ops bQ=[i,j]:=by kernel_rfl):ew c ops Q (f+1) bQ E L:=.step [i,j] aC I ⟨⟨o,aS,h⟩,⟨b6,ez,ad⟩,trivial⟩
def ae.ir{f:Nat}{bQ q1:Array Bool}{E':aa (Nat×J)}(k:ew c ops Q f q1 E' L)(h:eb E E':=by repeat (first|exact eb.nil|refine eb.same I ?_))(ao:bQ=q1:=by kernel_rfl):ae c ops (nN (wpAnyIn c.F 9 c.P .any ops Q f bQ) Q) [] E L:=.nil (.ir k h ao)
def D0{α:Type}{b:Bool}{m n:ah α}{R:α->Prop}{y z:Code}(h:cond b m n R)(bq:m R->ax c Q y E L)(aU:n R->ax c Q z E L)(ao:aL c E L x (.of b):=by first|exact ai I|exact gI _):ax c Q (.cond x y z) E L:=
 .cond ao (λhb=>bq (Th hb h)) (λhb=>aU (Ti hb h))
end
def j5(up rd wr:aa Nat)(e:(Nat->Hid)->aA):c0:=⟨none,up,rd,wr,λ_=>.any,λhd _=>e hd⟩
section
variable{c:bW}{E:aa (Nat×J)}{L:aa aA}{ops:Array Oper}{Q:Exit->Act->bc->Prop}{hs:aa c0}{i:Nat}{up rd:aa Nat}{o:Oper}{aV:Nat}
def iP{τ:J}(h:∀{hd:Nat->Hid} {E':aa (Nat×J)} {L':aa aA},(∀t τ,look (jw hd hs E up) t=some τ->look E' t=some τ)->(∀j e,(fH (λ_=>true) hd 0 (hs.take i) L)[j]? =some e->rd.contains j=true->L'[j]? =some e)->ba c E' L' o τ)
 (bu:o.guard=none:=by rfl) (hd:o.dst=some aV:=by rfl) (aG:Nat.blt aV c.n=true:=by rfl):fS c ops Q hs E L i o (aM aV up rd τ):=pk (λ_ _ _ a b=>h a b) bu hd aG
def fW{τ:J}{hyp:aa aA->Prop}(h:∀{L'},hyp L'->ba c E L' o τ)(bu:o.guard=none:=by rfl):∀L',hyp L'->jL c ops E L' o τ:=λL' ar=>.v (h ar) bu
end
def oD:aa (av Nat)->aa (aa Nat)->aa J->aa c0
 |s::e9,d::ds,τ::cB=>⟨s,d,[],[],λ_=>τ,λ_ _=>⟨none,.dead⟩⟩::oD e9 ds cB
 |_,_,_=>[]
def Aw:aa (av Nat)->aa (aa Nat)->aa (av Nat×aa Nat×aa Nat×aa Nat)
 |s::e9,d::ds=>(s,d,[],[])::Aw e9 ds
 |_,_=>[]
def tT(E:aa (Nat×J)):aa (av Nat)->aa (aa Nat)->aa J->aa (Nat×J)
 |s::e9,_::ds,τ::cB=>pN s τ (tT E e9 ds cB)
 |_,_,_=>E
def AY:aa Oper->aa (av Nat)->Nat->Bool
 |[],[],_=>true
 |o::os,some s::e9,n=>(match o.dst with |some t=>Nat.beq t s|none=>false)&&Nat.blt s n&&AY os e9 n
 |_,_,_=>false
section
variable{c:bW}{E:aa (Nat×J)}{L:aa aA}{ops:Array Oper}{Q:Exit->Act->bc->Prop}
def vg(c:bW)(ops:Array Oper)(E:aa (Nat×J))(L:aa aA)(hs:aa c0):aa Oper->aa (av Nat)->aa (aa Nat)->aa J->Prop
 |o::os,_::e9,d::ds,τ::cB=>(∀L':aa aA,(∀(j:Nat) (e:aA),L[j]? =some e->sE (λ_=>false) j 0 []=true->L'[j]? =some e)->jL c ops (jw (λ_ _=>none) hs E d) L' o τ)∧vg c ops E L hs os e9 ds cB
 |_,[],[],[]=>True
 |_,_,_,_=>False
def Hj{h:c0}:∀{e9:aa (av Nat)} {ds:aa (aa Nat)} {cB:aa J},h∈oD e9 ds cB->h.wr=[]∧∀g dQ,h.τ g=h.τ dQ
 | _::e9,_::ds,_::cB,hm=>by
   rcases dB.1 hm with rfl|hm
   ·exact⟨rfl,λ_ _=>rfl⟩
   exact Hj hm
def HL{hd:Nat->Hid}{hs:aa c0}(ak:∀h∈hs,∀g dQ,h.τ g=h.τ dQ):∀{d:aa Nat},jw hd hs E d=jw (λ_ _=>none) hs E d
 |[]=>rfl
 | j::r=>by
   unfold jw;cases aD:hs[j]? with
   |none=>exact HL ak
   | some h=>
     cases hq:h.slot with
     |none=>simp only[hq];exact HL ak
     |some s=>simp only[hq];rw[ak h (er aD) _ (gw h.up j (λ_ _=>none)),HL ak]
def U7{hd:Nat->Hid}:∀{hs:aa c0} {k:Nat} {L:aa aA},(∀h∈hs,h.wr=[])->fH (λ_=>true) hd k hs L=L
 |[],_,_,_=>rfl
 | h::r,k,L,hw=>by
   unfold fH;rw[hw h j8];exact U7 λx al=>hw x (fr _ al)
def Ma{hd:Nat->Hid}:∀{e9:aa (av Nat)} {ds:aa (aa Nat)} {cB:aa J} {k:Nat},hc (λ_=>true) hd E k (oD e9 ds cB)=tT E e9 ds cB
 |some s::e9,d::ds,τ::cB,k=>by unfold oD tT hc;simp only[pN];rw[Ma]
 |none::e9,d::ds,τ::cB,k=>by unfold oD tT hc;simp only[pN];rw[Ma]
 |[],_,_,_=>by unfold oD tT hc;rfl
 |_::_,[],_,_=>by unfold oD tT hc;rfl
 |_::_,_::_,[],_=>by unfold oD tT hc;rfl
def ae.aS{o:Oper}{rest:aa Oper}{d:Nat}{τ:J}{E':aa (Nat×J)}(h:jL c ops E' L o τ)(aK:∀t τ,look E' t=some τ->look E t=some τ)(hd:o.dst=some d)(aG:Nat.blt d c.n=true)(k:ae c ops Q rest ((d,τ)::E) L):ae c ops Q (o::rest) E L:=λa W s=>by
 obtain⟨h1,ad⟩:=h a W (s.less λt τ ao=>⟨τ,aK t τ ao,λ_ _ _ h=>h⟩);unfold bW.rE wpListIn;by_cases hw:Region.wanted o (yielded ops a.tmps)=true
 ·rw[bm hw];refine((h1 hw).wpIn λv W' ⟨f,a7⟩=>?_);rw[hd];exact k _ _ ((s.world f).put (by simpa using aG) a7)
 rw[bk hw,hd];exact⟨λ_ _=>trivial,k _ _ (s.put (by simpa using aG) (ad (by simpa using hw)))⟩
def vg.Ei{hs:aa c0}(ak:∀h∈hs,∀g dQ,h.τ g=h.τ dQ):∀{os:aa Oper} {e9:aa (av Nat)} {ds:aa (aa Nat)} {cB:aa J} {k n:Nat},vg c ops E L hs os e9 ds cB->AY (os.take n) e9 c.n=true->oX c ops Q hs E L 0 k (os.take n) (oD e9 ds cB)
 | os,[],ds,cB,k,n,_,hb=>by
   cases h:os.take n with
   |nil=>cases ds <;> cases cB <;> trivial
   |cons o r=>rw[h]at hb;cases hb
 |[],s::e9,ds,cB,k,n,_,hb=>by rw[List.take_nil]at hb;cases hb
 |o::os,s::e9,ds,cB,k,0,_,hb=>by cases hb
 |o::os,s::e9,[],cB,k,n+1,h,_=>h.elim
 |o::os,s::e9,d::ds,[],k,n+1,h,_=>h.elim
 |o::os,none::e9,d::ds,τ::cB,k,n+1,h,hb=>by simp[AY]at hb
 | o::os,some s::e9,d::ds,τ::cB,k,n+1,h,hb=>by
   simp only[List.take_succ_cons,AY,gJ]at hb;refine⟨λEj E' L' aK _ cb=>?_,vg.Ei ak h.2 hb.2⟩;have e:L'=L:=cb;subst e;have dC:o.dst=some s:=by
    have:=hb.1.1;cases hd:o.dst with
    |none=>rw[hd]at this;cases this
    |some t=>rw[hd]at this;rw[eO.1 this]
   exact ae.aS (h.1 _ λj e he _=>he) (λt τ ao=>aK t τ (by rw[HL ak];exact ao)) dC hb.1.2 (ae.nil (aq.fin (λ_=>none) I I))
def ax.lB{jH:Nat}{l:aa Oper}{es:aa Nat}(hm:c.P.follows .mixedOrders=true)(n:Nat)(mR:aa (av Nat))(tU:aa (aa Nat))(cB:aa J)(ch:vg c l.toArray E L (oD mR tU cB) l mR tU cB)(bq:ae c l.toArray Q (l.drop n) (tT E mR tU cB) L)
 (dC:kD (oD mR tU cB)=Aw mR tU:=by rfl) (ja:E.map (·.1)=es:=by rfl) (ec:Gv.pK l.toArray n (Aw mR tU) es=true:=by kernel_rfl) (hs:AY (l.take n) mR c.n=true:=by rfl):ax c Q (.region jH l.toArray true) E L:=
 have ak:∀h∈oD mR tU cB,∀g dQ,h.τ g=h.τ dQ:=λh hm=>(Hj hm).2
 ax.HK n (np:=0) hm (oD mR tU cB) (Aw mR tU) es dC ja ec (λh hm j aD=>by rw[(Hj hm).1]at aD;cases aD) (vg.Ei ak ch hs) (λhd=>by rw[Ma,U7 λh hm=>(Hj hm).1];exact bq)
end
section
variable{c:bW}{E eT:aa (Nat×J)}{L eY:aa aA}{Q:Exit->Act->bc->Prop}{x:bO}
def xU{γ:Type}{b:Bool}{y z:Code}(n:Nat)(cB:aa Nat)(u:γ->aa (Nat×J))(ul:γ->aa (Nat×aA))(l4:γ->aa aA)(nd:∀g,aq c Q .normal (u g++eT) (hf eY (ul g)++l4 g))
 (bq:(∀g,aq c (dX Q) .normal (u g++eT) (hf eY (ul g)++l4 g))->b=true->ax c (dX Q) y E L) (aU:(∀g,aq c (dX Q) .normal (u g++eT) (hf eY (ul g)++l4 g))->b=false->ax c (dX Q) z E L)
 (ya:mA n L eY:=by repeat (first|exact mA.nil|apply mA.cons)) (El:iF E cB eT:=by repeat (first|exact iF.nil|(apply iF.cons;rfl))) (ao:aL c E L x (.of b):=by first|exact ai I|exact gI _):ax c Q (.cond x y z) E L:=
 ax.cj (λg=>u g++eT) (λg=>hf eY (ul g)++l4 g) ao nd bq aU
def AF{β γ ρ:Type}{jM:ρ->Prop}{b:Bool}{y z:Code}{bg bE:ah β}{k:β->ah ρ}(h:ah.bind (bif b then bg else bE) k jM)(n:Nat)(cB:aa Nat)(u:β->γ->aa (Nat×J))(ul:β->γ->aa (Nat×aA))(l4:β->γ->aa aA)
 (nd:∀m g,k m jM->aq c Q .normal (u m g++eT) (hf eY (ul m g)++l4 m g))
 (bq:(∀m g,k m jM->aq c (dX Q) .normal (u m g++eT) (hf eY (ul m g)++l4 m g))->b=true->bg (λm=>k m jM)->ax c (dX Q) y E L) (aU:(∀m g,k m jM->aq c (dX Q) .normal (u m g++eT) (hf eY (ul m g)++l4 m g))->b=false->bE (λm=>k m jM)->ax c (dX Q) z E L)
 (ya:mA n L eY:=by repeat (first|exact mA.nil|apply mA.cons)) (El:iF E cB eT:=by repeat (first|exact iF.nil|(apply iF.cons;rfl))) (ao:aL c E L x (.of b):=by first|exact ai I|exact gI _):ax c Q (.cond x y z) E L:=
 ax.aew h (λm g=>u m g++eT) (λm g=>hf eY (ul m g)++l4 m g) ao nd bq aU
def xT{σ ε γ δ:Type}{body:Code}{N:Nat}{b:σ->av (σ⊕ε)}{s0:σ}{e:ε}(ao:eh N b s0=some e)(n:Nat)(cB:aa Nat)(u:σ->γ->aa (Nat×J))(ul:σ->γ->aa (Nat×aA))(l4:σ->γ->aa aA)(xs:ε->Exit)
 (rX:ε->δ->aa (Nat×J)) (rJ:ε->δ->aa (Nat×aA)) (yi:ε->δ->aa aA) (g0:γ)
 (q9:∀s r,b s=some r->∀g,ax c (fb c (λs g=>u s g++eT) (λs g=>hf eY (ul s g)++l4 s g) xs (λe d=>rX e d++eT) (λe d=>hf eY (rJ e d)++yi e d) r) body (u s g++eT) (hf eY (ul s g)++l4 s g))
 (n4:∀g,aq c Q (xs e) (rX e g++eT) (hf eY (rJ e g)++yi e g))
 (ya:mA n L eY:=by repeat (first|exact mA.nil|apply mA.cons)) (El:iF E cB eT:=by repeat (first|exact iF.nil|(apply iF.cons;rfl))) (aK:eb E (u s0 g0++eT):=by repeat (first|exact eb.nil|refine eb.same I ?_)) (ar:L=hf eY (ul s0 g0)++l4 s0 g0:=by rfl):ax c Q (.loop body) E L:=
 ax.HZ ao (λs g=>u s g++eT) (λs g=>hf eY (ul s g)++l4 s g) xs (λe d=>rX e d++eT) (λe d=>hf eY (rJ e d)++yi e d) g0 ar aK q9 n4
def AI{σ ε γ δ ρ:Type}{body:Code}{N:Nat}{b:σ->ah (σ⊕ε)}{s0:σ}{k:ε->ah ρ}{jM:ρ->Prop}(ao:ah.bind (Gv.mP N b s0) k jM)(n:Nat)(cB:aa Nat)(u:σ->γ->aa (Nat×J))(ul:σ->γ->aa (Nat×aA))(l4:σ->γ->aa aA)(xs:ε->Exit)
 (rX:ε->δ->aa (Nat×J)) (rJ:ε->δ->aa (Nat×aA)) (yi:ε->δ->aa aA) (g0:γ)
 (q9:∀s R,b s R->∀g,ax c (fp c (λs g=>u s g++eT) (λs g=>hf eY (ul s g)++l4 s g) xs (λe d=>rX e d++eT) (λe d=>hf eY (rJ e d)++yi e d) R) body (u s g++eT) (hf eY (ul s g)++l4 s g))
 (n4:∀e,k e jM->∀g,aq c Q (xs e) (rX e g++eT) (hf eY (rJ e g)++yi e g))
 (ya:mA n L eY:=by repeat (first|exact mA.nil|apply mA.cons)) (El:iF E cB eT:=by repeat (first|exact iF.nil|(apply iF.cons;rfl))) (aK:eb E (u s0 g0++eT):=by repeat (first|exact eb.nil|refine eb.same I ?_)) (ar:L=hf eY (ul s0 g0)++l4 s0 g0:=by rfl):ax c Q (.loop body) E L:=
 ax.TA ao (λs g=>u s g++eT) (λs g=>hf eY (ul s g)++l4 s g) xs (λe d=>rX e d++eT) (λe d=>hf eY (rJ e d)++yi e d) g0 ar aK q9 n4
end
inductive NE:List (Nat×J)->List (Nat×J)->Prop
 |nil:NE [] []
 |cons {x:Nat×J} {r s:List (Nat×J)}:NE r s->NE (x::r) (x::s)
def NE.eq:∀{l m:aa (Nat×J)},NE l m->l=m
 |_,_,.nil=>rfl
 |_,_,.cons h=>by rw[h.eq]
section
variable{c:bW}{E eT:aa (Nat×J)}{L:aa aA}{ops:Array Oper}{Q:Exit->Act->bc->Prop}
def ix{z:Exit}(k:aq c Q z eT L)(h:NE E eT:=by repeat (first|exact NE.nil|apply NE.cons)):aq c Q z E L:=by rw[h.eq];exact k
def WL{l:aa Oper}(k:ae c ops Q l eT L)(h:NE E eT:=by repeat (first|exact NE.nil|apply NE.cons)):ae c ops Q l E L:=by rw[h.eq];exact k
def ax.Xy{jH:Nat}{l:aa Oper}{ds:aa (av Nat×aa Nat×aa Nat×aa Nat)}{es:aa Nat}(n np:Nat)(hm:c.P.follows .mixedOrders=true)(hs:aa c0)
 (ch:oX c l.toArray Q hs E L np 0 (l.take n) hs) (bq:∀hd,ae c l.toArray Q (l.drop n) (hc (λ_=>true) hd E 0 hs) (fH (λ_=>true) hd 0 hs L))
 (dC:kD hs=ds:=by rfl) (ja:E.map (·.1)=es:=by rfl) (ec:Gv.pK l.toArray n ds es=true:=by kernel_rfl) (hw:(ds.all λd=>d.2.2.2.all λj=>Nat.blt j np)=true:=by kernel_rfl):ax c Q (.region jH l.toArray true) E L:=.ams n np hm hs es ch bq dC ja ec hw
def ax.O7{jH:Nat}{l:aa Oper}{ds:aa (av Nat×aa Nat×aa Nat×aa Nat)}{es:aa Nat}(hm:c.P.follows .mixedOrders=true)(hs:aa c0)
 (ch:z6 c l.toArray Q hs E L 0 l hs) (bq:∀hd,aq c Q .normal (hc (λ_=>true) hd E 0 hs) (fH (λ_=>true) hd 0 hs L))
 (dC:kD hs=ds:=by rfl) (ja:E.map (·.1)=es:=by rfl) (ec:Gv.pK l.toArray l.length ds es=true:=by kernel_rfl):ax c Q (.region jH l.toArray true) E L:=.Jm hm hs es ch bq dC ja ec
end
def dS(n:Nat):aa Nat->Bool
 |[]=>false
 |m::r=>bif Nat.beq m n then true else dS n r
def lb{n:Nat}:∀{l:aa Nat},dS n l=true↔n∈l
 |[]=>by simp[dS]
 | m::r=>by
   unfold dS;cases h:Nat.beq m n with
   |true=>have:=P3 h;subst this;simp
   | false=>
     have cR:n≠m:=λe=>by subst e;rw[ma]at h;cases h
     simp only[cond_false,lb,dB,cR,false_or]
def kL(ls:Nat->Bool)(E:aa (Nat×J)):aa (Nat×Nat×J)->aa (Nat×J)
 |[]=>E
 |x::r=>bif ls x.1 then x.2::kL ls E r else kL ls E r
def xR(i:Nat):aa (Nat×Nat×J)->av J
 |[]=>none
 |x::r=>bif Nat.beq x.1 i then some x.2.2 else xR i r
def IA(i:Nat):aa (Nat×Nat×J)->av (Nat×J)
 |[]=>none
 |x::r=>bif Nat.beq x.1 i then some x.2 else IA i r
def AZ:aa Edge->aa Nat
 |[]=>[]
 |e::r=>bif Region.binds .any e then e.on::AZ r else AZ r
def CZ{d:Nat}:∀{l:aa Edge},d∈AZ l↔∃e∈l,Region.binds .any e=true∧e.on=d
 |[]=>by simp[AZ]
 | e::r=>by
   unfold AZ;cases h:Region.binds .any e with
   | true=>
     simp only[cond_true,dB,CZ]
     constructor
     ·rintro (rfl|⟨e',h1,ad,ay⟩)
      ·exact⟨e,.inl I,h,rfl⟩
      exact⟨e',.inr h1,ad,ay⟩
     rintro ⟨e',rfl|h1,ad,ay⟩
     ·exact .inl ay.symm
     exact .inr ⟨e',h1,ad,ay⟩
   | false=>
     simp only[cond_false,CZ,dB]
     constructor
     ·rintro ⟨e',h1,ad⟩;exact⟨e',.inr h1,ad⟩
     rintro ⟨e',rfl|h1,ad,ay⟩
     ·rw[h]at ad;cases ad
     exact⟨e',h1,ad,ay⟩
def js(o:Oper):aa Nat:=AZ o.after.toList
def A0(fs:aa (Nat×Nat×J)):aa Nat:=fs.map (·.2.1)
structure rO(fs:List (Nat×Nat×J))(E:List (Nat×J)):Prop where
 Js:(A0 fs).Nodup
 out:∀t∈A0 fs,look E t=none
def rO.app{fs gs:aa (Nat×Nat×J)}{M:aa (Nat×J)}(h:rO (gs++fs) M):rO fs M:=⟨by have:=h.Js;unfold A0 at this;rw[tf]at this;exact(nS.1 this).2.1,λt bq=>h.out t (by unfold A0;rw[tf];exact bX.2 (.inr bq))⟩
def HM{α β:Type}{f:α->β}:∀{l:aa α},(l.map f).Nodup->∀{x y:α},x∈l->y∈l->f x=f y->x=y
 | z::r,h,x,y,al,hy,e=>by
   obtain⟨h1,ad⟩:=nm.1 h;rcases dB.1 al with az|al
   ·rcases dB.1 hy with a8|hy
    ·rw[az,a8]
    exact absurd (gH.2 ⟨y,hy,by rw[<-e,az]⟩) h1
   rcases dB.1 hy with a8|hy
   ·exact absurd (gH.2 ⟨x,al,by rw[e,a8]⟩) h1
   exact HM ad al hy e
def lJ{ls:Nat->Bool}{E:aa (Nat×J)}{t:Nat}{τ:J}:∀{fs:aa (Nat×Nat×J)},rO fs E->(look (kL ls E fs) t=some τ↔(∃i,ls i=true∧(i,t,τ)∈fs)∨look E t=some τ)
 |[],_=>by simp[kL]
 | x::r,ok=>by
   have h1:=nm.1 ok.Js;have bN:=lJ (ls:=ls) (t:=t) (τ:=τ) (fs:=r) ⟨h1.2,λt bq=>ok.out t (fr _ bq)⟩;have aK:look E t=some τ->x.2.1≠t:=λh e=>by rw[<-e,ok.out _ j8]at h;cases h
   have aC:∀i,(i,t,τ)∈r->x.2.1≠t:=λi h e=>h1.1 (by show x.2.1∈_;rw[e];exact gH.2 ⟨_,h,rfl⟩);unfold kL;cases ao:ls x.1 with
   | false=>
     simp only[cond_false,bN]
     refine or_congr ⟨λ⟨i,h1,ad⟩=>⟨i,h1,fr _ ad⟩,λ⟨i,h1,ad⟩=>?_⟩ Iff.rfl
     rcases dB.1 ad with e|ad
     ·rw[<-e,h1]at ao;cases ao
     exact⟨i,h1,ad⟩
   | true=>
     simp only[cond_true,look]
     cases hb:Nat.beq x.2.1 t with
     | true=>
       have e:=eO.1 hb
       simp only[cond_true,fC]
       constructor
       ·intro h;exact .inl ⟨x.1,ao,by rw[<-e,<-h];exact j8⟩
       rintro (⟨i,_,ad⟩|h)
       ·rcases dB.1 ad with a8|ad
        ·rw[<-a8]
        exact absurd e (aC i ad)
       exact absurd e (aK h)
     | false=>
       have e:x.2.1≠t:=λe=>by rw[e,ma]at hb;cases hb
       simp only[cond_false,bN]
       refine or_congr ⟨λ⟨i,h1,ad⟩=>⟨i,h1,fr _ ad⟩,λ⟨i,h1,ad⟩=>?_⟩ Iff.rfl
       rcases dB.1 ad with a8|ad
       ·exact absurd (by rw[<-a8]) e
       exact⟨i,h1,ad⟩
def Nq{us ls:Nat->Bool}{E:aa (Nat×J)}{t:Nat}{τ:J}{fs:aa (Nat×Nat×J)}(hu:∀i,us i=true->ls i=true)(ok:rO fs E)(h:look (kL us E fs) t=some τ):look (kL ls E fs) t=some τ:=
 (lJ ok).2 (((lJ ok).1 h).imp (λ⟨i,h1,ad⟩=>⟨i,hu i h1,ad⟩) id)
def acs{ls ls':Nat->Bool}{E:aa (Nat×J)}{i t u:Nat}{τ σ:J}{fs:aa (Nat×Nat×J)}(Eh:∀j,ls' j=true->ls j=true∨j=i)(ok:rO fs E)(hm:(i,t,τ)∈fs)(jv:(fs.map (·.1)).Nodup)(h:look (kL ls' E fs) u=some σ):look ((t,τ)::kL ls E fs) u=some σ:=by
 simp only[look];cases hb:Nat.beq t u with
 | true=>
   have e:=eO.1 hb
   subst e
   rcases (lJ ok).1 h with⟨j,_,ad⟩|ad
   ·have:=HM ok.Js hm ad I
    cases this;rfl
   rw[ok.out t (gH.2 ⟨_,hm,rfl⟩)]at ad;cases ad
 | false=>
   refine(lJ ok).2 (((lJ ok).1 h).imp (λ⟨j,h1,ad⟩=>⟨j,?_,ad⟩) id)
   rcases Eh j h1 with ay|ay
   ·exact ay
   subst ay
   have:=HM jv hm ad I
   cases this
   rw[ma]at hb;cases hb
def zM{t:Nat}{B:aa (Nat×J)}:∀{A:aa (Nat×J)},look (A++B) t=match look A t with |some τ=>some τ|none=>look B t
 |[]=>rfl
 | x::r=>by
   simp only[List.cons_append,look];cases Nat.beq x.1 t with
   |true=>rfl
   |false=>exact zM
def aeC{ls:Nat->Bool}{E M:aa (Nat×J)}{t:Nat}{τ:J}{fs:aa (Nat×Nat×J)}(ok:rO fs (M++E))(h:look (kL ls (M++E) fs) t=some τ):look (M++kL ls E fs) t=some τ:=by
 have out:∀t∈A0 fs,look M t=none∧look E t=none:=λt bq=>by
  have h:=ok.out t bq;rw[zM]at h;cases nd:look M t with
  |some τ=>rw[nd]at h;cases h
  |none=>rw[nd]at h;exact⟨rfl,h⟩
 have W9:rO fs E:=⟨ok.Js,λt bq=>(out t bq).2⟩;rw[zM];rcases (lJ ok).1 h with⟨i,h1,ad⟩|h1
 ·rw[(out t (gH.2 ⟨_,ad,rfl⟩)).1];exact(lJ W9).2 (.inl ⟨i,h1,ad⟩)
 rw[zM]at h1;cases nd:look M t with
 |some σ=>rw[nd]at h1;exact h1
 |none=>rw[nd]at h1;exact(lJ W9).2 (.inr h1)
section
variable{c:bW}{E:aa (Nat×J)}{L:aa aA}{l:aa Oper}{Q:Exit->Act->bc->Prop}
structure yA(l:List Oper)(dm dG:List Nat)(ls:Array Bool):Prop where
 size:ls.size=l.length
 eq:∀i,i∈dm->ls.getD i false=dS i dG
 uB:∀i o,l[i]? =some o->ls.getD i false=true->∀d∈js o,ls.getD d false=true
def vS(l:aa Oper)(ls:Array Bool):Nat:=((List.range l.length).filter λj=> !ls.getD j false).length
def fM(c:bW)(l:aa Oper)(Q:Exit->Act->bc->Prop)(dm dG:aa Nat)(fs:aa (Nat×Nat×J))(E:aa (Nat×J))(L:aa aA):Prop:=
 (rO fs E∧∀x∈fs,dS x.1 dm=false)∧∀m ls a W,yA l dm dG ls->vS l ls<=m->bA c (kL (λi=>ls.getD i false) E fs) L a W->wpAnyIn c.F 9 c.P .any l.toArray Q m ls a W
def wa(c:bW)(l:aa Oper)(E:aa (Nat×J))(L:aa aA)(fs:aa (Nat×Nat×J)):aa Nat->Prop
 |[]=>True
 |i::r=>(match l[i]?,xR i fs with |some o,some τ=>jL c l.toArray (kL (λj=>dS j (js o)) E fs) L o τ|_,_=>False)∧wa c l E L fs r
def wa.get{fs:aa (Nat×Nat×J)}:∀{nl:aa Nat},wa c l E L fs nl->∀{i:Nat},i∈nl->∃o τ,l[i]? =some o∧xR i fs=some τ∧jL c l.toArray (kL (λj=>dS j (js o)) E fs) L o τ
 | j::r,h,i,aw=>by
   rcases dB.1 aw with rfl|aw
   ·have h1:=h.1;cases ad:l[i]? with
    |none=>rw[ad]at h1;exact h1.elim
    | some o=>
      cases ay:xR i fs with
      |none=>rw[ad,ay]at h1;exact h1.elim
      |some τ=>rw[ad,ay]at h1;exact⟨o,τ,rfl,rfl,h1⟩
   exact wa.get h.2 aw
def gP(c:bW)(l:aa Oper)(Q:Exit->Act->bc->Prop)(dm dG:aa Nat)(fs:aa (Nat×Nat×J))(E:aa (Nat×J))(L:aa aA)(k:Nat):Prop:=
 rO fs E->∀m ls o,l[k]? =some o->yA l dm dG ls->ls.getD k false=false->(∀d∈js o,ls.getD d false=true)->vS l (ls.setIfInBounds k true)<=m->
  ae c l.toArray (nN (wpAnyIn c.F 9 c.P .any l.toArray Q m (ls.setIfInBounds k true)) Q) [o] (kL (λi=>ls.getD i false) E fs) L
def wb(c:bW)(l:aa Oper)(Q:Exit->Act->bc->Prop)(dm dG:aa Nat)(fs:aa (Nat×Nat×J))(E:aa (Nat×J))(L:aa aA):aa Nat->Prop
 |[]=>True
 |k::r=>gP c l Q dm dG fs E L k∧wb c l Q dm dG fs E L r
def wb.get{dm dG:aa Nat}{fs:aa (Nat×Nat×J)}:∀{el:aa Nat},wb c l Q dm dG fs E L el->∀{k:Nat},k∈el->gP c l Q dm dG fs E L k
 | _::_,h,k,hk=>by
   rcases dB.1 hk with rfl|hk
   ·exact h.1
   exact wb.get h.2 hk
def EG(l:aa Oper):aa Nat->aa Nat->Bool
 |_,[]=>true
 |acc,i::r=>(acc.any λk=>match l[k]? with |some o=>dS i (js o)|none=>false)&&EG l (i::acc) r
def Lp{ls:Array Bool}(hd:∀i o,l[i]? =some o->ls.getD i false=true->∀d∈js o,ls.getD d false=true):∀{ng acc:aa Nat},EG l acc ng=true->(∀k∈acc,ls.getD k false=true)->∀i∈ng,ls.getD i false=true
 | i::r,acc,h,a1,j,aD=>by
   simp only[EG,gJ,nj]at h;obtain⟨⟨k,hk,h1⟩,ad⟩:=h;have aw:ls.getD i false=true:=by
    cases aS:l[k]? with
    |none=>rw[aS]at h1;cases h1
    |some o=>rw[aS]at h1;exact hd k o aS (a1 k hk) i (lb.1 h1)
   rcases dB.1 aD with rfl|aD
   ·exact aw
   exact Lp hd ad (λk hk=>by rcases dB.1 hk with rfl|hk;exact aw;exact a1 k hk) j aD
def A1(l:aa Oper):aa Nat->aa Nat->Bool
 |_,[]=>true
 |acc,i::r=>(match l[i]? with |some o=>acc.any λk=>dS k (js o)|none=>false)&&A1 l (i::acc) r
def Hk{ls:Array Bool}(hd:∀i o,l[i]? =some o->ls.getD i false=true->∀d∈js o,ls.getD d false=true):∀{rY acc:aa Nat},A1 l acc rY=true->(∀k∈acc,ls.getD k false=false)->∀i∈rY,ls.getD i false=false
 | i::r,acc,h,a1,j,aD=>by
   simp only[A1,gJ]at h;obtain⟨h1,ad⟩:=h;have aw:ls.getD i false=false:=by
    cases aS:l[i]? with
    |none=>rw[aS]at h1;cases h1
    | some o=>
      rw[aS,nj]at h1
      obtain⟨k,hk,ay⟩:=h1
      cases ao:ls.getD i false with
      |false=>rfl
      |true=>have:=hd i o aS ao k (lb.1 ay);rw[a1 k hk]at this;cases this
   rcases dB.1 aD with rfl|aD
   ·exact aw
   exact Hk hd ad (λk hk=>by rcases dB.1 hk with rfl|hk;exact aw;exact a1 k hk) j aD
def vy(l:aa Oper)(dm dG:aa Nat):aa Nat->aa Nat->aa Nat
 |[],acc=>acc
 |i::r,acc=>vy l dm dG r (match l[i]? with |some o=>(bif (dS i dm&& !dS i dG)||(js o).any (λd=>dS d acc)then i::acc else acc)|none=>acc)
def SA{l:aa Oper}{dm dG:aa Nat}{ls:Array Bool}(he:∀i,i∈dm->ls.getD i false=dS i dG)(hd:∀i o,l[i]? =some o->ls.getD i false=true->∀d∈js o,ls.getD d false=true):∀{is acc:aa Nat},(∀k∈acc,ls.getD k false=false)->∀k∈vy l dm dG is acc,ls.getD k false=false
 |[],acc,a1,k,hk=>a1 k hk
 | i::r,acc,a1,k,hk=>by
   rw[vy]at hk;revert hk;generalize ajs:(match l[i]? with |some o=>(bif (dS i dm&& !dS i dG)||(js o).any (λd=>dS d acc)then i::acc else acc)|none=>acc)=am5;intro hk;refine SA he hd (λj aD=>?_) k hk;rw[<-ajs]at aD;cases aS:l[i]? with
   |none=>rw[aS]at aD;exact a1 j aD
   | some o=>
     rw[aS]at aD
     simp only at aD
     cases ak:(dS i dm&& !dS i dG)||(js o).any (λd=>dS d acc)with
     |false=>rw[ak]at aD;exact a1 j aD
     | true=>
       rw[ak]at aD
       rcases dB.1 aD with rfl|aD
       ·rcases Bool.or_eq_true_iff.1 ak with h|h
        ·simp only[gJ,wB]at h
         rw[he j (lb.1 h.1),h.2]
        obtain⟨d,AU,alr⟩:=nj.1 h
        cases AX:ls.getD j false with
        |false=>rfl
        |true=>have:=hd j o aS AX d AU;rw[a1 d (lb.1 alr)]at this;cases this
       exact a1 j aD
def Ja(l:aa Oper)(rZ:Nat)(dm dG ng nl el:aa Nat)(ks:aa (Nat×Nat))(es:aa Nat):Bool:=
 (List.range l.length).all (λi=>match l[i]? with
  |none=>false
  | some o=>(js o).all (λd=>Nat.blt d i)&&(bif dS i dm then dS i dG||dS i el||(js o).any (λd=>dS d (vy l dm dG (List.range l.length) []))
    else dS i ng||(js o).any (λd=>dS d (vy l dm dG (List.range l.length) []))||(dS i nl&&ks.any λx=>Nat.beq x.1 i&&(match o.dst with |some t=>Nat.beq t x.2|none=>false))))&&
 EG l dG ng&&dm.all (λi=>Nat.blt i l.length)&&dG.all (λi=>dS i dm)&&ks.all (λx=>Nat.blt x.1 l.length)&&decide (ks.map (·.2)).Nodup&&(ks.map (·.1)).all (λi=> !dS i dm)&&ks.all (λx=>Nat.blt x.2 rZ&& !dS x.2 es)&&decide (ks.map (·.1)).Nodup
def LB{t:Nat}:∀{E:aa (Nat×J)},dS t (E.map (·.1))=false->look E t=none
 |[],_=>rfl
 | x::r,h=>by
   simp only[mJ,dS]at h;cases hb:Nat.beq x.1 t with
   |true=>rw[hb]at h;cases h
   |false=>rw[hb]at h;simp only[look,hb,cond_false];exact LB h
def SB{i:Nat}{τ:J}:∀{fs:aa (Nat×Nat×J)},xR i fs=some τ->∃t,(i,t,τ)∈fs
 | x::r,h=>by
   unfold xR at h;cases hb:Nat.beq x.1 i with
   | true=>
     rw[hb]at h
     have e:x.2.2=τ:=by simpa using h
     have:=eO.1 hb
     subst this e
     exact⟨x.2.1,j8⟩
   |false=>rw[hb]at h;obtain⟨t,bq⟩:=SB h;exact⟨t,fr _ bq⟩
def bA.Ax{E':aa (Nat×J)}{a:Act}{W:bc}(s:bA c E L a W)(h:∀t τ,look E' t=some τ->look E t=some τ):bA c E' L a W:=s.less λt τ ao=>⟨τ,h t τ ao,λ_ _ _ h=>h⟩
def fM.core{rZ:Nat}{dm dG:aa Nat}{fs:aa (Nat×Nat×J)}{ks:aa (Nat×Nat)}{es:aa Nat}(ng nl el:aa Nat)(ar:wa c l E L fs nl)(aK:wb c l Q dm dG fs E L el)
 (o5:(∀k∈dm,k∈dG)->aq c Q .normal (kL (λ_=>true) E fs) L) (fz:fs.map (λx=>(x.1,x.2.1))=ks) (ja:E.map (·.1)=es) (EH:c.n=rZ) (ec:Ja l rZ dm dG ng nl el ks es=true):fM c l Q dm dG fs E L:=by
 subst fz ja EH
 simp only[Ja,gJ,mG,fZ,uN]at ec
 obtain⟨⟨⟨⟨⟨⟨⟨⟨oj,OH⟩,sX⟩,OI⟩,nK⟩,jv⟩,cR⟩,oC⟩,AR⟩:=ec
 have ok:rO fs E:=⟨by simpa[A0,Function.comp_def]using jv,λt bq=>by
  obtain⟨x,al,rfl⟩:=gH.1 bq;have:=oC (x.1,x.2.1) (gH.2 ⟨x,al,rfl⟩);exact LB (by simpa using this.2)⟩
 have AR:(fs.map (·.1)).Nodup:=by simpa[Function.comp_def]using AR
 have qF:∀i,i<l.length->∃o,l[i]? =some o∧(∀d∈js o,d<i)∧((bif dS i dm then dS i dG||dS i el||(js o).any (λd=>dS d (vy l dm dG (List.range l.length) []))
  else dS i ng||(js o).any (λd=>dS d (vy l dm dG (List.range l.length) []))||(dS i nl&&(fs.map λx=>(x.1,x.2.1)).any λx=>Nat.beq x.1 i&&(match o.dst with |some t=>Nat.beq t x.2|none=>false)))=true):=λi aw=>by
  have h:=oj i (nn.2 aw)
  cases aS:l[i]? with
  |none=>rw[aS]at h;cases h
  | some o=>
    rw[aS]at h
    simp only[gJ,mG]at h
    exact⟨o,rfl,λd hd=>by simpa using h.1 d hd,h.2⟩
 have eP:∀(ls:Array Bool),yA l dm dG ls->∀(o:Oper),(∀d∈js o,ls.getD d false=true)->(js o).any (λd=>dS d (vy l dm dG (List.range l.length) []))=false:=λls inv o hd=>by
  rw[uJ];intro d AU h;have:=SA inv.eq inv.uB (by simp) d (lb.1 h);rw[hd d AU]at this;cases this
 have bS:∀(ls:Array Bool),yA l dm dG ls->∀i,ls.getD i false=true->i<l.length:=λls inv i h=>by
  rw[<-inv.size];rcases wP i ls.size with cC|cC
  ·exact cC
  simp[PT cC]at h
 have ra:∀(ls:Array Bool) (a:Act) (W:bc),yA l dm dG ls->(∀i,i<l.length->ls.getD i false=true)->bA c (kL (λi=>ls.getD i false) E fs) L a W->Region.ready .any l.toArray ls=[]∧Q .normal a W:=λls a W inv h st=>by
  refine⟨?_,o5 (λk hk=>?_) a W (st.Ax λt τ ao=>(lJ ok).2 (((lJ ok).1 ao).imp (λ⟨i,_,ad⟩=>⟨i,?_,ad⟩) id))⟩
  ·rw[List.eq_nil_iff_forall_not_mem];intro j aD;obtain⟨h1,o,aS,_⟩:=uP.1 aD;have AW:j<l.length:=by simpa using (qR.1 aS).1
   have:=getD_both h1;rw[h j AW]at this;cases this
  ·have:=inv.eq k hk;rw[h k (by simpa using sX k hk)]at this;exact lb.1 this.symm
  have:=nK (i,t) (gH.2 ⟨_,ad,rfl⟩);exact h i (by simpa using this)
 have Dm:∀(ls:Array Bool),yA l dm dG ls->(∀i,i<l.length->ls.getD i false=true)∨∃i,i<l.length∧ls.getD i false=false:=λls inv=>by
  by_cases h:∃i,i<l.length∧ls.getD i false=false
  ·exact .inr h
  refine .inl λi aw=>?_;cases ao:ls.getD i false with
  |true=>rfl
  |false=>exact absurd ⟨i,aw,ao⟩ h
 refine⟨⟨ok,λx al=>?_⟩,λm=>?_⟩
 ·have:=cR x.1 (gH.2 ⟨x,al,rfl⟩)
  simpa using this
 induction m with
 | zero=>
   intro ls a W inv hm st
   rcases Dm ls inv with h|⟨i,aw,h⟩
   ·exact ra ls a W inv h st
   have:i∈(List.range l.length).filter λj=> !ls.getD j false:=sd.2 ⟨nn.2 aw,by rw[h];rfl⟩
   unfold vS at hm
   rw[Fx.1 (Nat.le_zero.1 hm)]at this;cases this
 | succ m bN=>
   intro ls a W inv hm st
   refine⟨λbw=>?_,λi aw=>?_⟩
   ·rcases Dm ls inv with h|⟨i,aw,h⟩
    ·exact(ra ls a W inv h st).2
    exfalso
    have key:∀d i,i<=d->i<l.length->ls.getD i false=true:=by
     intro d;induction d with
     | zero=>
       intro i ED aw
       cases ao:ls.getD i false with
       |true=>rfl
       | false=>
         obtain⟨o,aS,hd,_⟩:=qF i aw
         have:i∈Region.ready .any l.toArray ls:=uP.2 ⟨getD_in (by rw[inv.size];exact aw) ao,o,by simpa using aS,λe he hb=>by
          have:=hd e.on (CZ.2 ⟨e,by simpa using he,hb,rfl⟩);omega⟩
         rw[bw]at this;cases this
     | succ d Oz=>
       intro i ED aw
       cases ao:ls.getD i false with
       |true=>rfl
       | false=>
         obtain⟨o,aS,hd,_⟩:=qF i aw
         have:i∈Region.ready .any l.toArray ls:=uP.2 ⟨getD_in (by rw[inv.size];exact aw) ao,o,by simpa using aS,λe he hb=>by
          have h1:=hd e.on (CZ.2 ⟨e,by simpa using he,hb,rfl⟩);exact Oz e.on (by omega) (by omega)⟩
         rw[bw]at this;cases this
    rw[key i i (h5 _) aw]at h;cases h
   obtain⟨kE,o,aS,L9⟩:=uP.1 aw
   have kE:=getD_both kE
   have ox:l[i]? =some o:=by simpa using aS
   have uh:i<l.length:=(fY.1 ox).1
   have pb:∀d∈js o,ls.getD d false=true:=λd hd=>by
    obtain⟨e,h1,ad,rfl⟩:=CZ.1 hd;exact L9 e (by simpa using h1) ad
   have gA:∀j,(ls.setIfInBounds i true).getD j false=true->ls.getD j false=true∨j=i:=λj aD=>by
    by_cases e:i=j
    ·exact .inr e.symm
    rw[getD_set_ne false e]at aD;exact .inl aD
   have sM:vS l (ls.setIfInBounds i true)<=m:=by
    have:vS l (ls.setIfInBounds i true)<vS l ls:=by
     refine TJ (λj=> !ls.getD j false) (λj=> !(ls.setIfInBounds i true).getD j false) i (by simp only[kE];rfl) (by simp[inv.size,uh]) (λj aD=>?_) l.length uh;cases AX:ls.getD j false with
     |false=>rfl
     |true=>simp only[getD_set_true AX]at aD;cases aD
    omega
   obtain⟨b6,ez,_,Aj⟩:=qF i uh
   rw[ox]at ez;cases ez
   cases dv:dS i dm with
   | true=>
     rw[dv]at Aj
     simp only[cond_true,nT]at Aj
     rcases Aj with(h1|h1)|h1
     ·have:=inv.eq i (lb.1 dv)
      rw[kE,h1]at this;cases this
     ·exact Lc aS (wb.get aK (lb.1 h1) ok m ls o ox inv kE pb sM a W st)
     rw[eP ls inv o pb]at h1;cases h1
   | false=>
     rw[dv]at Aj
     simp only[cond_false,nT]at Aj
     rcases Aj with(h1|h1)|h1
     ·have:=Lp inv.uB OH (λk hk=>by rw[inv.eq k (lb.1 (OI k hk))];exact lb.2 hk) i (lb.1 h1)
      rw[kE]at this;cases this
     ·rw[eP ls inv o pb]at h1;cases h1
     simp only[gJ,nj]at h1
     obtain⟨h1,⟨x,al,gM,lX⟩⟩:=h1
     obtain⟨y,hy,rfl⟩:=gH.1 al
     obtain⟨fX,τ,pS,aU,hH⟩:=wa.get ar (lb.1 h1)
     rw[ox]at pS;cases pS
     obtain⟨t,bq⟩:=SB aU
     have als:=eO.1 gM
     have:=HM AR hy bq als
     subst this
     have V8:o.dst=some t:=by
      cases hd:o.dst with
      |none=>rw[hd]at lX;cases lX
      |some z=>rw[hd]at lX;rw[eO.1 lX]
     have aG:Nat.blt t c.n=true:=by
      have:=oC (i,t) al;simp only[gJ]at this;exact this.1
     have st2:bA c (kL (λj=>dS j (js o)) E fs) L a W:=st.Ax λu σ h=>Nq (λj aD=>pb j (lb.1 aD)) ok h
     have inv2:yA l dm dG (ls.setIfInBounds i true):=⟨by rw[JF];exact inv.size,λk hk=>(by
      rw[getD_set_ne false (λe=>by subst e;rw[lb.2 hk]at dv;cases dv)];exact inv.eq k hk),λk alu gN hk d hd=>(by
      rcases gA k hk with h|rfl
      ·exact getD_set_true (inv.uB k alu gN h d hd)
      rw[ox]at gN;cases gN;exact getD_set_true (pb d hd))⟩
     have fin:∀v W',Fr [] W W'->τ.holds (ks L++c.bL) W' v->wpAnyIn c.F 9 c.P .any l.toArray Q m (ls.setIfInBounds i true) (a.put o.dst v) W':=λv W' f a7=>by
      refine bN _ _ _ inv2 sM ?_;rw[V8];exact((st.world f).put (by simpa using aG) a7).Ax λu σ h=>acs gA ok bq AR h
     have Xa:=hH a W st2
     unfold wpOpIn
     simp only[aS]
     split
     ·rename_i hw
      exact gz.wpIn (Xa.1 hw) λv W' ⟨f,a7⟩=>fin v W' f a7
     rename_i hw
     exact⟨λ_ _=>trivial,fin undef W (.refl _ _) (Xa.2 (by simpa using hw))⟩
def gP.of{dm dG:aa Nat}{fs:aa (Nat×Nat×J)}{k:Nat}{γ:Type}(rY:γ->aa (Nat×J))(XM:γ->aa (Nat×Nat×J))(L':γ->aa aA){ks:aa Nat}(S:∀g,fM c l Q dm (k::dG) (XM g++fs) (rY g++E) (L' g))
 (h:∀o,l[k]? =some o->∀(ea:Exit->Act->bc->Prop) (hM:aa (Nat×J)),(∀{t τ},look (kL (λj=>dS j (js o)) E fs) t=some τ->look hM t=some τ)->(∀g,aq c ea .normal (rY g++hM) (L' g))->ae c l.toArray ea [o] hM L)
 (hk:dS k dm=true:=by rfl) (fz:∀g,(XM g).map (·.1)=ks:=by exact λ_=>rfl) (ec:A1 l [k] ks=true:=by kernel_rfl):gP c l Q dm dG fs E L k:=λok m ls o aS inv kE pb sM=>by
 refine h o aS _ _ (λh=>Nq (λj aD=>pb j (lb.1 aD)) ok h) λg a W st=>?_
 obtain⟨⟨EI,OJ⟩,r1⟩:=S g
 have nK:k<ls.size:=by rw[inv.size];exact(fY.1 aS).1
 have gA:∀j,(ls.setIfInBounds k true).getD j false=true->ls.getD j false=true∨j=k:=λj aD=>by
  by_cases e:k=j
  ·exact .inr e.symm
  rw[getD_set_ne false e]at aD;exact .inl aD
 refine r1 m _ a W ⟨by rw[JF];exact inv.size,λj aD=>?_,λj s9 lW aD d hd=>?_⟩ sM (st.Ax λt τ ao=>aeC EI.app ((lJ EI.app).2 (((lJ EI).1 ao).imp (λ⟨i,h1,ad⟩=>?_) id)))
 ·by_cases e:k=j
  ·subst e
   simp[nK,dS]
  rw[getD_set_ne false e,inv.eq j aD]
  show _=bif Nat.beq k j then true else dS j dG
  cases hb:Nat.beq k j with
  |false=>rfl
  |true=>exact absurd (eO.1 hb) e
 ·rcases gA j aD with h|rfl
  ·exact getD_set_true (inv.uB j s9 lW h d hd)
  rw[aS]at lW;cases lW;exact getD_set_true (pb d hd)
 have mX:i≠k:=λe=>by have:=OJ _ ad;rw[e,hk]at this;cases this
 have vQ:=(gA i h1).resolve_right mX
 rcases bX.1 ad with ay|ay
 ·have:=Hk inv.uB ec (λj aD=>by rw[gG.1 aD];exact kE) i (by rw[<-fz g];exact gH.2 ⟨_,ay,rfl⟩)
  rw[vQ]at this;cases this
 exact⟨i,vQ,ay⟩
inductive r2(fs:List (Nat×Nat×J))(ks:List Nat):List (Nat×Nat×J)->Prop
 |nil:r2 fs ks []
 |new {i t:Nat} {τ:J} {r:List (Nat×Nat×J)}:dS i ks=true->r2 fs ks r->r2 fs ks ((i,t,τ)::r)
 |dK {i t:Nat} {τ:J} {r:List (Nat×Nat×J)}:IA i fs=some (t,τ)->r2 fs ks r->r2 fs ks ((i,t,τ)::r)
def SC{i t:Nat}{τ:J}:∀{fs:aa (Nat×Nat×J)},IA i fs=some (t,τ)->(i,t,τ)∈fs
 | x::r,h=>by
   unfold IA at h;cases hb:Nat.beq x.1 i with
   | true=>
     rw[hb]at h
     have e:x.2=(t,τ):=by simpa using h
     have:=eO.1 hb
     subst this
     rw[<-e];exact j8
   |false=>rw[hb]at h;exact fr _ (SC h)
def r2.mem{fs:aa (Nat×Nat×J)}{ks:aa Nat}{i t:Nat}{τ:J}:∀{gs:aa (Nat×Nat×J)},r2 fs ks gs->(i,t,τ)∈gs->i∈ks∨(i,t,τ)∈fs
 | _,.new h1 ad,hm=>by
   rcases dB.1 hm with e|hm
   ·cases e;exact .inl (lb.1 h1)
   exact ad.mem hm
 | _,.dK h1 ad,hm=>by
   rcases dB.1 hm with e|hm
   ·cases e;exact .inr (SC h1)
   exact ad.mem hm
def gP.to{dm dG OK:aa Nat}{fs:aa (Nat×Nat×J)}{k:Nat}{γ:Type}{OL:γ->aa (Nat×Nat×J)}{hM:γ->aa (Nat×J)}{L2:γ->aa aA}(ks:aa Nat)(rY:γ->aa (Nat×J))(S:∀g,fM c l Q dm OK (OL g) (hM g) (L2 g))
 (h:∀o,l[k]? =some o->∀(ea:Exit->Act->bc->Prop) (Pp:aa (Nat×J)),(∀{t τ},look (kL (λj=>dS j (js o)) E fs) t=some τ->look Pp t=some τ)->(∀g,aq c ea .normal (rY g++Pp) (L2 g))->ae c l.toArray ea [o] Pp L)
 (hk:dS k dm=true:=by rfl) (OI:(dm.all λi=>dS i OK==dS i (k::dG))=true:=by rfl) (kp:∀g,r2 fs ks (OL g):=by intro _;repeat (first|exact r2.nil|refine r2.dK I ?_|refine r2.new I ?_)) (aK:∀g,eb (rY g++E) (hM g):=by intro _;repeat (first|exact eb.nil|refine eb.same I ?_))
 (hd:∀g,((OL g).all λx=> !dS x.2.1 ((rY g).map (·.1)))=true:=by exact λ_=>rfl) (ec:A1 l [k] ks=true:=by kernel_rfl):gP c l Q dm dG fs E L k:=λok m ls o aS inv kE pb sM=>by
 refine h o aS _ _ (λh=>Nq (λj aD=>pb j (lb.1 aD)) ok h) λg a W st=>?_
 obtain⟨⟨EI,OJ⟩,r1⟩:=S g
 have nK:k<ls.size:=by rw[inv.size];exact(fY.1 aS).1
 have gA:∀j,(ls.setIfInBounds k true).getD j false=true->ls.getD j false=true∨j=k:=λj aD=>by
  by_cases e:k=j
  ·exact .inr e.symm
  rw[getD_set_ne false e]at aD;exact .inl aD
 refine r1 m _ a W ⟨by rw[JF];exact inv.size,λj aD=>?_,λj s9 lW aD d hd=>?_⟩ sM (st.less λt τ ao=>?_)
 ·have ad:dS j OK=dS j (k::dG):=by simpa using List.all_eq_true.1 OI j aD
  rw[ad]
  by_cases e:k=j
  ·subst e
   simp[nK,dS]
  rw[getD_set_ne false e,inv.eq j aD]
  show _=bif Nat.beq k j then true else dS j dG
  cases hb:Nat.beq k j with
  |false=>rfl
  |true=>exact absurd (eO.1 hb) e
 ·rcases gA j aD with h|rfl
  ·exact getD_set_true (inv.uB j s9 lW h d hd)
  rw[aS]at lW;cases lW;exact getD_set_true (pb d hd)
 rcases (lJ EI).1 ao with⟨i,h1,ad⟩|ad
 ·have mX:i≠k:=λe=>by have:=OJ _ ad;rw[e,hk]at this;cases this
  have vQ:=(gA i h1).resolve_right mX
  have Jb:look (rY g) t=none:=LB (by simpa using List.all_eq_true.1 (hd g) _ ad)
  refine⟨τ,?_,λ_ _ _ h=>h⟩
  rw[zM,Jb]
  rcases (kp g).mem ad with ay|ay
  ·have:=Hk inv.uB ec (λj aD=>by rw[gG.1 aD];exact kE) i ay
   rw[vQ]at this;cases this
  exact(lJ ok).2 (.inl ⟨i,vQ,ay⟩)
 obtain⟨rF,ay,aN⟩:=(aK g).look t τ ad
 refine⟨rF,?_,aN⟩
 rw[zM]at ay⊢
 cases aG:look (rY g) t with
 |some σ=>rw[aG]at ay;exact ay
 |none=>rw[aG]at ay;exact(lJ ok).2 (.inr ay)
def fM.cut{γ:Type}{dm dG pe':aa Nat}{fs:aa (Nat×Nat×J)}(Xb:γ->aa (Nat×Nat×J))(E':γ->aa (Nat×J))(L':γ->aa aA)(h1:∀g,fM c l Q dm pe' (Xb g) (E' g) (L' g))
 (ad:(∀g,fM c l Q dm pe' (Xb g) (E' g) (L' g))->fM c l Q dm dG fs E L):fM c l Q dm dG fs E L:=ad h1
def fM.mid{rZ:Nat}{dm dG:aa Nat}{fs:aa (Nat×Nat×J)}{ks:aa (Nat×Nat)}{es:aa Nat}(ng nl el:aa Nat)(ar:wa c l E L fs nl)(aK:wb c l Q dm dG fs E L el)(aG:dm.all (λk=>dS k dG)=false:=by rfl)
 (fz:fs.map (λx=>(x.1,x.2.1))=ks:=by rfl) (ja:E.map (·.1)=es:=by rfl) (EH:c.n=rZ:=by rfl) (ec:Ja l rZ dm dG ng nl el ks es=true:=by kernel_rfl):fM c l Q dm dG fs E L:=
 .core ng nl el ar aK (λh=>absurd (show dm.all (λk=>dS k dG)=true from mG.2 λk hk=>lb.2 (h k hk)) (by rw[aG];simp)) fz ja EH ec
def ax.x0{jH:Nat}(hm:c.P.follows .mixedOrders=true)(dm:aa Nat)(fs:aa (Nat×Nat×J))(h:fM c l Q dm [] fs E L):ax c Q (.region jH l.toArray true) E L:=λa W s=>by
 refine wpIn_region_any hm ?_;have b4:∀i,(Array.replicate l.toArray.size false).getD i false=false:=λi=>by
  rcases wP i l.length with h|h <;> simp[h]
 have:=h.2 l.toArray.size (Array.replicate l.toArray.size false) a W.drew ⟨by simp,λi _=>b4 i,λi o _ h=>by rw[b4]at h;cases h⟩ ?_ ((s.world (Fr.drew W)).Ax λt τ ao=>?_)
 ·simpa using this
 ·unfold vS;exact oQ (Bq _ _) (by simp)
 rcases (lJ h.1.1).1 ao with⟨i,h1,_⟩|h1
 ·rw[b4]at h1;cases h1
 exact h1
def abK{F:Fence}{n:Nat}{P:Program}{o:Oper}{a:Act}{next:Act->bc->Prop}{K:Act->bc->Prop}{Q:Exit->Act->bc->Prop}:∀{r:Result Next},o.uponIn F n P a next Q r->o.uponIn F n P a next (nN K Q) r:=λ{r} h=>by
 cases r with
 | ok x w=>
   cases x <;> simp only[Oper.uponIn]at h⊢ <;> first
    |exact h
    |exact⟨h.1,CallsIn.mono h.2 (λe sT he=>by cases e <;> exact he)⟩
    |exact⟨h.1,RoundIn.mono h.2 (λe sT he=>by cases e <;> exact he)⟩
 |halt x w=>cases x <;> simp only[Oper.uponIn]at h⊢ <;> exact h
def aeD{F:Fence}{n:Nat}{P:Program}{ops:Array Oper}{Q:Exit->Act->bc->Prop}{o:Oper}{rest:aa Oper}{a:Act}{w:bc}{K:Act->bc->Prop}(pt:∀a w,wpListIn F n P ops Q rest a w->K a w)(h:wpListIn F n P ops Q (o::rest) a w):wpListIn F n P ops (nN K Q) [o] a w:=by
 unfold wpListIn at h⊢;split
 ·rename_i hw;rw[bm hw]at h;have h:=Oper.wpIn_mono pt h;exact⟨h.1,abK h.2⟩
 rename_i hw;rw[bk hw]at h;exact⟨h.1,pt _ _ h.2⟩
def Rj{F:Fence}{n:Nat}{P:Program}{md:Region.Mode}{ops:Array Oper}{rR:Exit->Act->bc->Prop}:∀(l:aa Oper) (k m:Nat) (bQ:Array Bool) (a:Act) (w:bc),(∀j,l[j]? =ops[k+j]?)->
 Region.seqB md ops l.length k bQ=true->l.length<=m->wpListIn F n P ops rR l a w->wpAnyIn F n P md ops rR m bQ a w
 |[],_,0,_,_,_,_,ec,_,h=>⟨by simpa[Region.seqB]using ec,h⟩
 |[],_,m+1,_,_,_,_,ec,_,h=>⟨λ_=>h,λi aw=>by rw[show Region.ready md ops _=[] by simpa[Region.seqB]using ec]at aw;cases aw⟩
 | o::l,k,m+1,bQ,a,w,ao,ec,hm,h=>by
   have bw:ops[k]? =some o:=by simpa using (ao 0).symm
   simp only[List.length_cons,Region.seqB,gJ,fZ]at ec;refine⟨λh1=>(by rw[ec.1]at h1;cases h1),λi aw=>?_⟩;rw[ec.1]at aw;have mX:i=k:=by simpa using aw
   subst mX;have hw:wpOpIn F n P ops rR i (wpListIn F n P ops rR l) a w:=by unfold wpOpIn;simp only[bw];exact h
   exact wpOpIn_mono (λgQ ps cC=>Rj l (i+1) m _ gQ ps (λj=>by have:=ao (j+1);simpa[Gg,KL 1 j]using this) ec.2 (by simpa using hm) cC) hw
def vT(k n:Nat):Array Bool:=((List.range n).map λi=>Nat.blt i k).toArray
def gP.tail{dm dG:aa Nat}{fs:aa (Nat×Nat×J)}{k:Nat}(ng:aa Nat)(h:ae c l.toArray Q (l.drop k) (kL (λ_=>true) E fs) L)(alv:(fs.all λx=>Nat.blt x.1 k)=true:=by rfl)
 (ec:(EG l [k] ng&&(List.range k).all (λi=>dS i ng)&&A1 l [k] ((List.range (l.length-(k+1))).map (· +(k+1))))=true:=by kernel_rfl) (hs:Region.seqB .any l.toArray (l.length-(k+1)) (k+1) (vT (k+1) l.length)=true:=by kernel_rfl):gP c l Q dm dG fs E L k:=λok m ls o aS inv kE pb sM=>by
 simp only[gJ,mG]at ec
 obtain⟨⟨OH,oj⟩,alw⟩:=ec
 have nK:k<l.length:=(fY.1 aS).1
 have alx:∀i o',l[i]? =some o'->(ls.setIfInBounds k true).getD i false=true->∀d∈js o',(ls.setIfInBounds k true).getD d false=true:=λi o' aw aD d hd=>by
  by_cases e:k=i
  ·subst e;rw[aS]at aw;cases aw;exact getD_set_true (pb d hd)
  rw[getD_set_ne false e]at aD;exact getD_set_true (inv.uB i o' aw aD d hd)
 have Ay:∀i,i<k->(ls.setIfInBounds k true).getD i false=true:=λi aw=>Lp alx OH (λj aD=>by rw[gG.1 aD];simp[inv.size,nK]) i (lb.1 (oj i (nn.2 aw)))
 have gA:ls.setIfInBounds k true=vT (k+1) l.length:=by
  apply Array.ext
  ·simp[vT,inv.size]
  intro i h1 ad;have uh:i<l.length:=by simpa[vT]using ad
  have bu:(ls.setIfInBounds k true)[i]=(ls.setIfInBounds k true).getD i false:=by
   rw[PG,Fv h1];rfl
  rw[bu];simp only[vT,List.getElem_toArray,y4,FJ];rcases Nat.lt_trichotomy i k with bS|rfl|aly
  ·rw[Ay i bS];exact(P1 (by omega:i+1<=k+1)).symm
  ·have:Nat.blt i (i+1)=true:=P1 (h5 _);rw[this];simp[inv.size,uh]
  rw[getD_set_ne false (KM aly),Hk inv.uB alw (λj aD=>by rw[gG.1 aD];exact kE) i (gH.2 ⟨i-(k+1),nn.2 (by omega),by omega⟩)];cases hb:Nat.blt i (k+1)with
  |false=>rfl
  |true=>have:=ni hb;omega
 have ag1:(l.drop (k+1)).length<=m:=by
  refine oQ ?_ sM;rw[gA];unfold vS;have aC:List.range l.length=List.range (k+1)++(List.range (l.length-(k+1))).map ((k+1)+ ·):=by
   rw[<-List.range_add];congr 1;omega
  have aU:((List.range (l.length-(k+1))).map ((k+1)+ ·)).filter (λj=> !(vT (k+1) l.length).getD j false)=(List.range (l.length-(k+1))).map ((k+1)+ ·):=by
   refine wx.2 λx al=>?_;obtain⟨y,hy,rfl⟩:=gH.1 al;have hy:=nn.1 hy;rw[PG,Fv (by simp[vT];omega)];simp only[vT,List.getElem_toArray,y4,FJ,Option.getD_some];cases hb:Nat.blt (k+1+y) (k+1)with
   |false=>rfl
   |true=>have:=ni hb;omega
  rw[aC,td,fB,aU];simp
 have hd:l.drop k=o::l.drop (k+1):=by rw[tc nK];congr 1;exact(fY.1 aS).2
 rw[hd]at h
 intro a W st
 refine aeD (λgQ W' cC=>?_) (show c.rE l.toArray Q (o::l.drop (k+1)) a W from h a W (st.Ax λt τ ao=>(lJ ok).2 (((lJ ok).1 ao).imp (λ⟨i,_,ad⟩=>⟨i,?_,ad⟩) id)))
 ·rw[gA]
  exact Rj (l.drop (k+1)) (k+1) m _ gQ W' (λj=>by simp) (by simpa using hs) ag1 cC
 have mX:i<k:=by have:=mG.1 alv _ ad;exact ni this
 have:=Ay i mX
 rw[getD_set_ne false (by omega)]at this
 exact this
end
end Gv
