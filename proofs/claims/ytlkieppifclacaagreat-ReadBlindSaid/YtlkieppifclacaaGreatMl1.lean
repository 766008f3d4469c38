/-
  The library of the decompiler, as far as it is needed here. Conditions: none.
-/
import Derived.MapKept
import Derived.Maps.RangeRun
import Derived.Shelf.SlSortCmp.NoneTotal
import Derived.Lib.QuietBelow
import Derived.Test.YtlkieppifclacaaGreatMl0
set_option linter.defProp false
set_option linter.unusedVariables false
set_option linter.unusedSimpArgs false
namespace Gv
open Go
section
variable{c:cC}{E:aa (Nat×J)}{L:aa aI}{ops:Array Oper}{Q:Exit->Act->bq->Prop}{rest:aa Oper}{o:Oper}{bc:Nat}
variable{ty:bF}{pos:String}{af:Array Edge}{x y:ca}{t t2:bF}
def bU{id:Nat}{l:aa Oper}{y:Code}(h:ad c l.toArray (Exit.then (c.wp y Q) Q) l E L):ay c Q (.seq (.region id l.toArray false) y) E L:=.seq (.eQ h)
def b0{y:Code}(h:ay c Q y E L):ad c ops (Exit.then (c.wp y Q) Q) [] E L:=.nil (.next h)
def fW{y z:Code}(h:ay c (Exit.then (c.wp z Q) Q) y E L):ad c ops (Exit.then (c.wp (Code.seq y z) Q) Q) [] E L:=.nil (.next (.seq h))
def fr{id:Nat}{l:aa Oper}{z:Code}(h:ad c l.toArray (Exit.then (c.wp z Q) Q) l E L):ad c ops (Exit.then (c.wp (Code.seq (.region id l.toArray false) z) Q) Q) [] E L:=.nil (.next (.seq (.eQ h)))
def jx{y:Code}(h:ay c Q y E L):ay c (Exit.then (c.wp y Q) Q) .skip E L:=.skip (.next h)
def aB{α β:Type}{m:aA α}{f:α->aA β}{r:β}{P:Prop}(h:m.bind f=some r)(k:∀y,m=some y->f y=some r->P):P:=(bind_some h).elim λy h=>k y h.1 h.2
def ki{R:Type}{b:Bool}{A B:aA R}{r:R}{y z:Code}(h:cond b A B=some r)(bE:A=some r->ay c Q y E L)(aW:B=some r->ay c Q z E L)
 (ao:aU c E L x (.of b):=by first|exact ag I|exact h7 _):ay c Q (.cond x y z) E L:=
 .cond ao (λhb=>bE (fY hb h)) (λhb=>aW (fZ hb h))
def bg{τ:J}(h:bj c E L o τ)(k:ad c ops Q rest ((bc,τ)::E) L)(bH:o.guard=none:=by rfl)(hd:o.dst=some bc:=by rfl)(aM:Nat.blt bc c.n=true:=by rfl):ad c ops Q (o::rest) E L:=.v h bH hd aM k
def bB{τ:J}(k:ad c ops Q rest ((bc,τ)::E) L)(an:aU c E L x τ:=by first|exact ag I|exact dd _|exact h7 _|exact fX _)(aM:Nat.blt bc c.n=true:=by rfl):
 ad c ops Q (⟨some bc,.move x,ty,pos,af,none⟩::rest) E L:=.v (dj an) I I aM k
def cS{τ:J}(k:ad c ops Q rest ((bc,τ)::E) L)(an:aU c E L x τ:=by first|exact ag I|exact dd _|exact h7 _|exact fX _)(aM:Nat.blt bc c.n=true:=by rfl):
 ad c ops Q (⟨some bc,.assign x,ty,pos,af,none⟩::rest) E L:=.v (dq an) I I aM k
def bQ{σ τ:J}(h:aU c E L x σ->bj c E L o τ)(k:ad c ops Q rest ((bc,τ)::E) L)(an:aU c E L x σ:=by first|exact ag I|exact dd _|exact h7 _|exact fX _)
 (bH:o.guard=none:=by rfl) (hd:o.dst=some bc:=by rfl) (aM:Nat.blt bc c.n=true:=by rfl):ad c ops Q (o::rest) E L:=.v (h an) bH hd aM k
def dA{σ q7 τ:J}(h:aU c E L x σ->aU c E L y q7->bj c E L o τ)(k:ad c ops Q rest ((bc,τ)::E) L)(an:aU c E L x σ:=by first|exact ag I|exact dd _|exact h7 _|exact fX _)
 (hy:aU c E L y q7:=by first|exact ag I|exact dd _|exact h7 _|exact fX _)
 (bH:o.guard=none:=by rfl) (hd:o.dst=some bc:=by rfl) (aM:Nat.blt bc c.n=true:=by rfl):ad c ops Q (o::rest) E L:=.v (h an hy) bH hd aM k
def kb{α:Type}[aj α]{a b:α}(e:some a=some b)(h:bj c E L o (.of a))(k:ad c ops Q rest ((bc,.of b)::E) L)(bH:o.guard=none:=by rfl)(hd:o.dst=some bc:=by rfl)(aM:Nat.blt bc c.n=true:=by rfl):
 ad c ops Q (o::rest) E L:=.v (h.ra (di e)) bH hd aM k
def qZ{i:Nat}{τs:aa J}{τ:J}(k:ad c ops Q rest ((bc,τ)::E) L)(an:aU c E L x (.b7 τs):=by exact ag I)(au:τs[i]? =some τ:=by rfl)(aM:Nat.blt bc c.n=true:=by rfl):
 ad c ops Q (⟨some bc,.extract x i,ty,pos,af,none⟩::rest) E L:=.v (El an au) I I aM k
def gC{p o:Nat}{β γ:Type}[aj β][aj γ]{b:β}(j:Nat)(l:aP β γ)(dP:bS c.P t γ)(k:ad c ops Q rest ((bc,.of (l.get b))::E) L)(an:aU c E L x (.eq (.pointer (some ⟨p,o,none⟩))):=by exact ag I)
 (ax:L[j]? =some ⟨some p,.var b⟩:=by rfl) (a8:o=l.off:=by rfl) (aM:Nat.blt bc c.n=true:=by rfl):ad c ops Q (⟨some bc,.load t x,ty,pos,af,none⟩::rest) E L:=.v (gz l dP an ax a8 I) I I aM k
def lf{p:Nat}{β:Type}[aj β]{b:β}(j:Nat)(dP:bS c.P t β)(k:ad c ops Q rest ((bc,.of b)::E) L)(an:aU c E L x (.eq (.pointer (some ⟨p,0,none⟩))):=by exact ag I)
 (ax:L[j]? =some ⟨some p,.var b⟩:=by rfl) (aM:Nat.blt bc c.n=true:=by rfl):ad c ops Q (⟨some bc,.load t x,ty,pos,af,none⟩::rest) E L:=.v (gz (aP.id β) dP an ax I I) I I aM k
def Tk{p o:Nat}{β γ:Type}[aj β][aj γ]{b:β}{os:aa (Nat×bt)}(j:Nat)(l:aP β γ)(dP:bS c.P t γ)(k:ad c ops Q rest ((bc,.of (l.get b))::E) L)(an:aU c E L x (.eq (.pointer (some ⟨p,o,none⟩))):=by exact ag I)
 (ax:L[j]? =some ⟨some p,.bX b os⟩:=by rfl) (a8:o=l.off:=by rfl) (aY:uW os l.off (aj.size γ)=true:=by rfl) (aM:Nat.blt bc c.n=true:=by rfl):ad c ops Q (⟨some bc,.load t x,ty,pos,af,none⟩::rest) E L:=.v (Ml l dP an ax a8 I aY) I I aM k
def qY{α:Type}[aj α][Inhabited α]{xs:aa α}{e:bF}{i:Int}{j:Nat}(hk:idx xs.length i=some j)(hu:c.P.underlying t=some (.slice e))(eM:bS c.P e α)(k:ad c ops Q rest ((bc,.ptr (av xs j))::E) L)
 (an:aU c E L x (.of xs):=by exact ag I) (hy:aU c E L y (.of i):=by first|exact ag I|exact dd _) (aM:Nat.blt bc c.n=true:=by rfl):
 ad c ops Q (⟨some bc,.indexAddr t x y,ty,pos,af,none⟩::rest) E L:=.v (pz hu eM an hy (c4 hk)) I I aM k
def NY{b e:Bool}{p:Prop}(k:ad c ops Q rest ((bc,.of (b||e))::E) L)(an:aU c E L x (.of b):=by exact ag I)(hy:aU c E L y (.cond p (.of e)):=by exact ag I)(hp:b=false->p:=by exact λh=>h)(aM:Nat.blt bc c.n=true:=by rfl):
 ad c ops Q (⟨some bc,.pick x (.const (.bool true)) y,ty,pos,af,none⟩::rest) E L:=.v (BK an hy hp) I I aM k
def yE{b e:Bool}{p:Prop}(k:ad c ops Q rest ((bc,.of (b&&e))::E) L)(an:aU c E L x (.of b):=by exact ag I)(hy:aU c E L y (.cond p (.of e)):=by exact ag I)(hp:b=true->p:=by exact λh=>h)(aM:Nat.blt bc c.n=true:=by rfl):
 ad c ops Q (⟨some bc,.pick x y (.const (.bool false)),ty,pos,af,none⟩::rest) E L:=.v (x7 an hy hp) I I aM k
def iV{τ:J}{j g:Nat}{b want:Bool}(h:b=want->bj c E L o τ)(k:ad c ops Q rest ((bc,.cond (b=want) τ)::E) L)(bH:o.guard=some (j,want):=by rfl)(aC:(ops[j]?).bind (·.dst)=some g:=by rfl)(ao:look E g=some (.of b):=by rfl)
 (hd:o.dst=some bc:=by rfl) (aM:Nat.blt bc c.n=true:=by rfl):ad c ops Q (o::rest) E L:=.g h bH aC ao hd aM k
def l8{σ τ:J}{j g:Nat}{b want:Bool}(h:aU c E L x σ->bj c E L o τ)(k:ad c ops Q rest ((bc,.cond (b=want) τ)::E) L)
 (an:b=want->aU c E L x σ:=by first|exact λhb=>cW I hb|exact λ_=>ag I|exact λ_=>dd _|exact λ_=>h7 _)
 (bH:o.guard=some (j,want):=by rfl) (aC:(ops[j]?).bind (·.dst)=some g:=by rfl) (ao:look E g=some (.of b):=by rfl)
 (hd:o.dst=some bc:=by rfl) (aM:Nat.blt bc c.n=true:=by rfl):ad c ops Q (o::rest) E L:=.g (λhb=>h (an hb)) bH aC ao hd aM k
def BZ{σ q7 τ:J}{j g:Nat}{b want:Bool}(h:aU c E L x σ->aU c E L y q7->bj c E L o τ)(k:ad c ops Q rest ((bc,.cond (b=want) τ)::E) L)
 (an:b=want->aU c E L x σ:=by first|exact λhb=>cW I hb|exact λ_=>ag I|exact λ_=>dd _|exact λ_=>h7 _)
 (hy:b=want->aU c E L y q7:=by first|exact λhb=>cW I hb|exact λ_=>ag I|exact λ_=>dd _|exact λ_=>h7 _)
 (bH:o.guard=some (j,want):=by rfl) (aC:(ops[j]?).bind (·.dst)=some g:=by rfl) (ao:look E g=some (.of b):=by rfl)
 (hd:o.dst=some bc:=by rfl) (aM:Nat.blt bc c.n=true:=by rfl):ad c ops Q (o::rest) E L:=.g (λhb=>h (an hb) (hy hb)) bH aC ao hd aM k
def lE{α:Type}[aj α]{z:α}(gT:dx c.P t z)(k:∀p,ad c ops Q rest ((bc,.eq (.pointer (some ⟨p,0,none⟩)))::E) (⟨some p,.var z⟩::L))(aM:Nat.blt bc c.n=true:=by rfl):
 ad c ops Q (⟨some bc,.alloc t,ty,pos,af,none⟩::rest) E L:=.alloc gT aM k
def lD{α:Type}[aj α]{z:α}(k:∀p,ad c ops Q rest ((bc,.eq (.pointer (some ⟨p,0,none⟩)))::E) (⟨some p,.var z⟩::L))(an:aU c E L x (.of z):=by first|exact ag I|exact dd _|exact h7 _)(aM:Nat.blt bc c.n=true:=by rfl):
 ad c ops Q (⟨some bc,.box t x,ty,pos,af,none⟩::rest) E L:=.box an aM k
def EL{p o:Nat}{β γ:Type}[aj β][aj γ]{b:β}{v:γ}(i:Nat)(l:aP β γ)(dP:bS c.P t γ)(k:ad c ops Q rest E (L.set i ⟨some p,.var (l.set b v)⟩))(an:aU c E L x (.eq (.pointer (some ⟨p,o,none⟩))):=by exact ag I)
 (hy:aU c E L y (.of v):=by first|exact ag I|exact dd _|exact h7 _|exact look_nil|exact fX _) (ax:L[i]? =some ⟨some p,.var b⟩:=by rfl) (a8:o=l.off:=by rfl):
 ad c ops Q (⟨none,.store t x y,ty,pos,af,none⟩::rest) E L:=.store l dP an hy ax a8 I k
def rS{p:Nat}{β:Type}[aj β]{b v:β}(i:Nat)(dP:bS c.P t β)(k:ad c ops Q rest E (L.set i ⟨some p,.var v⟩))(an:aU c E L x (.eq (.pointer (some ⟨p,0,none⟩))):=by exact ag I)
 (hy:aU c E L y (.of v):=by first|exact ag I|exact dd _|exact h7 _|exact look_nil|exact fX _) (ax:L[i]? =some ⟨some p,.var b⟩:=by rfl):
 ad c ops Q (⟨none,.store t x y,ty,pos,af,none⟩::rest) E L:=.store (aP.id β) dP an hy ax I I k
def N0{p o:Nat}{β γ:Type}[aj β][aj γ]{b b':β}{v:γ}(i:Nat)(l:aP β γ)(dP:bS c.P t γ)(k:ad c ops Q rest E (L.set i ⟨some p,.var b'⟩))(an:aU c E L x (.eq (.pointer (some ⟨p,o,none⟩))):=by exact ag I)
 (hy:aU c E L y (.of v):=by first|exact ag I|exact dd _|exact h7 _|exact look_nil|exact fX _) (ax:L[i]? =some ⟨some p,.var b⟩:=by rfl) (a8:o=l.off:=by rfl) (hb:some (l.set b v)=some b'):
 ad c ops Q (⟨none,.store t x y,ty,pos,af,none⟩::rest) E L:=.store l dP an hy ax a8 (di hb) k
def nG{f:FuncId}{xs:aa ca}{ats:Array bF}{τs:aa J}{ρ:J}(cj:bL c.P f)(h:cE c.P f τs ρ)(k:ad c ops Q rest ((bc,ρ)::E) L)
 (an:iF c E L xs τs:=by repeat (first|exact trivial|refine⟨ag I,?_⟩|refine⟨dd _,?_⟩|refine⟨h7 _,?_⟩|refine⟨look_nil,?_⟩|refine⟨fX _,?_⟩)) (aM:Nat.blt bc c.n=true:=by rfl):
 ad c ops Q (⟨some bc,.call ⟨.value (.func f),xs.toArray,ats⟩,ty,pos,af,none⟩::rest) E L:=.v (iE cj h an) I I aM k
def e2{f:FuncId}{xs:aa ca}{ats:Array bF}{τs:aa J}{δ:Type}{ρ:δ->J}{Lo:δ->aa aI}(n:Nat)(cj:bL c.P f)(h:bV c.P f τs (L.take n) ρ Lo)
 (k:∀q,ad c ops Q rest ((bc,ρ q)::E) (Lo q++L.drop n)) (an:iF c E L xs τs:=by repeat (first|exact trivial|refine⟨ag I,?_⟩|refine⟨dd _,?_⟩|refine⟨h7 _,?_⟩|refine⟨look_nil,?_⟩|refine⟨lx,?_⟩|refine⟨fX _,?_⟩)) (aM:Nat.blt bc c.n=true:=by rfl):
 ad c ops Q (⟨some bc,.call ⟨.value (.func f),xs.toArray,ats⟩,ty,pos,af,none⟩::rest) E L:=by
 have e:=gp n L
 have:=ad.nz (ty:=ty) (pos:=pos) (af:=af) (ats:=ats) (xs:=xs) (Lin:=L.take n) (Lr:=L.drop n) (E:=E) (Q:=Q) (ops:=ops) cj h (by rw[e];exact an) aM k
 rwa[e]at this
def gY{α:Type}[aj α]{e bytes cap:Nat}{key:aA Nat}{xs ys r:aa α}{z:α}(j:Nat)(hu:c.P.underlying t=some (.slice e))(eM:bS c.P e α)(gT:dx c.P e z)(h:e8 bytes xs ys=some r)
 (k:∀tu cap',ad c ops Q rest ((bc,.eq (aH tu r.length cap'))::E) (L.set j ⟨tu,.row e r cap'⟩)) (Cb:(c.P.info? e).map (·.bytes)=some bytes:=by kernel_rfl)
 (hs:aU c E L x (.eq (aH key xs.length cap)):=by first|exact ag I|exact lx) (ax:L[j]? =some ⟨key,.row e xs cap⟩:=by rfl) (hy:aU c E L y (.of ys):=by exact ag I) (aM:Nat.blt bc c.n=true:=by rfl):
 ad c ops Q (⟨some bc,.call ⟨.builtin .append,#[x,y],#[t,t]⟩,ty,pos,af,none⟩::rest) E L:=.app hu eM gT Cb hs ax hy h aM k
def my{place:Nat->aA (Nat×Nat)}{β:Type}[aj β]{b b':β}{γ:Type}[aj γ]{v:γ}{i:Nat}{r:aa (Nat×ca)}(l:aP β γ)(k:tl c E L place (l.set b v) r b')
 (hp:place i=some (l.off,aj.size γ):=by rfl) (an:aU c E L x (.of v):=by first|exact ag I|exact dd _|exact h7 _|exact look_nil|exact fX _):tl c E L place b ((i,x)::r) b':=.cons l hp an I k
def qm{β:Type}[aj β]{z b:β}{ec:aa (Nat×ca)}{pl:Array (Nat×Nat)}(Kg:fS c.P t pl)(gT:dx c.P t z)(y5:β)(aW:tl c E L (pl[·]?) z ec b)(k:ad c ops Q rest ((bc,.of y5)::E) L)(aY:aj.agg β=true:=by rfl)(hb:b=y5:=by rfl)(aM:Nat.blt bc c.n=true:=by rfl):
 ad c ops Q (⟨some bc,.build t ec.toArray,ty,pos,af,none⟩::rest) E L:=.v ((l0 aY Kg gT aW).ra hb) I I aM k
def Jf{α:Type}[aj α]{e n:Nat}{z:α}{ec:aa (Nat×ca)}(r:aa α)(hu:c.P.underlying t=some (.slice e))(eM:bS c.P e α)(gT:dx c.P e z)(k:ad c ops Q rest ((bc,.of r)::E) L)
 (aW:pv c E L (List.replicate n z) ec r:=by repeat (first|exact pv.nil|refine pv.cons (by simp) (ag I) ?_|refine pv.cons (by simp) (dd _) ?_|refine pv.cons (by simp) (h7 _) ?_|refine pv.cons (by simp) (fX _) ?_))
 (hs:Nat.beq (aj.size α) 0=false:=by rfl) (q5:Nat.ble (n*aj.size α) 16777216=true:=by rfl) (aM:Nat.blt bc c.n=true:=by rfl):
 ad c ops Q (⟨some bc,.buildSlice t n ec.toArray,ty,pos,af,none⟩::rest) E L:=.v (Bc hu eM gT hs q5 aW) I I aM k
inductive jn(E:List (Nat×J)):List Nat->List (Nat×J)->Prop
 |nil:jn E [] []
 |cons {t:Nat} {cx:List Nat} {τ:J} {iv:List (Nat×J)}:look E t=some τ->jn E cx iv->jn E (t::cx) ((t,τ)::iv)
def jn.le:∀{cx:aa Nat} {fj:aa (Nat×J)},jn E cx fj->eZ E fj
 |_,_,.nil=>.nil
 |_,_,.cons h k=>.same h k.le
def fI{code:Code}{fj:aa (Nat×J)}(cx:aa Nat)(k:ay c Q code fj L)(aJ:jn E cx fj:=by repeat (first|exact jn.nil|(apply jn.cons;rfl))):ay c Q code E L:=.le aJ.le k
def ar9{z:Exit}{fj:aa (Nat×J)}(cx:aa Nat)(k:aq c Q z fj L)(aJ:jn E cx fj:=by repeat (first|exact jn.nil|(apply jn.cons;rfl))):aq c Q z E L:=.le aJ.le k
def ef{z:Exit}{E':aa (Nat×J)}{L':aa aI}(n:Nat)(k:aq c Q z E' L')(ax:L.drop n=L':=by rfl)(h:eZ E E':=by repeat (first|exact eZ.nil|refine eZ.same I ?_)):aq c Q z E L:=.meet n ax h k
def ia{σ ε γ δ:Type}{E':σ->γ->aa (Nat×J)}{L':σ->γ->aa aI}{xs:ε->Exit}{eJ:ε->δ->aa (Nat×J)}{Lx:ε->δ->aa aI}{s:σ}(g:γ)(n:Nat)(ax:L.drop n=L' s g:=by rfl)
 (h:eZ E (E' s g):=by repeat (first|exact eZ.nil|refine eZ.same I ?_)):aq c (e9 c E' L' xs eJ Lx (.inl s)) .normal E L:=.Zc g n ax h
def gN{σ ε γ δ:Type}{E':σ->γ->aa (Nat×J)}{L':σ->γ->aa aI}{xs:ε->Exit}{eJ:ε->δ->aa (Nat×J)}{Lx:ε->δ->aa aI}{e:ε}{z:Exit}(g:δ)(n:Nat)(an:z=xs e:=by rfl)(aM:z≠ .normal:=by simp)(ax:L.drop n=Lx e g:=by rfl)
 (h:eZ E (eJ e g):=by repeat (first|exact eZ.nil|refine eZ.same I ?_)):aq c (e9 c E' L' xs eJ Lx (.inr e)) z E L:=.Zd g n an aM ax h
def EK{t:Nat}{p:Nat}{α:Type}[aj α]{v:α}(i:Nat)(dP:bS c.P ty α)(h:look E t=some (.eq (.pointer (some ⟨p,0,none⟩))):=by rfl)(ax:L[i]? =some ⟨some p,.var v⟩:=by rfl):qz c E L (.cell t ty) (.of v):=abL dP h ax
def pF{fn:Func}{t:Nat}{τ:J}(aE:fn.results= #[.tmp t]:=by rfl)(h:look E t=some τ:=by rfl)(et:c.ds=[]:=by rfl):aq c (bodyPost c.P fn (vc c τ)) .ret E L:=.Nv aE (ND h) et
def qk{fn:Func}{t:Nat}{τ:J}{δ:Type}{ρ:δ->J}{Lo:δ->aa aI}(bc:δ)(hs:(Lo bc).Sublist L:=by repeat (first|exact rq _|refine List.Sublist.cons_cons _ ?_))(aE:fn.results= #[.tmp t]:=by rfl)(h:look E t=some τ:=by rfl)(rV:ρ bc=τ:=by rfl)(et:c.ds=[]:=by rfl):
 aq c (bodyPost c.P fn (kB c.X c.b3 c.j1 ρ Lo)) .ret E L:=.eU bc hs aE rV (dB h) et
def iH:aa aI->aa (Nat×aI)->aa aI
 |L,[]=>L
 |L,(i,e)::r=>iH (L.set i e) r
inductive ue:List aI->List aI->Prop
 |nil:ue [] []
 |cons {e:aI} {r s:List aI}:ue r s->ue (e::r) (e::s)
def ue.eq:∀{l m:aa aI},ue l m->l=m
 |_,_,.nil=>rfl
 |_,_,.cons h=>by rw[h.eq]
def eY{σ ε γ δ:Type}{body:Code}{N:Nat}{b:σ->aA (σ⊕ε)}{s0:σ}{e:ε}{fj:aa (Nat×J)}{fD:aa aI}(ao:dy N b s0=some e)(cx:aa Nat)(u:σ->γ->aa (Nat×J))(ul:σ->γ->aa (Nat×aI))(xs:ε->Exit)
 (uf:ε->δ->aa (Nat×J)) (tM:ε->δ->aa (Nat×aI)) (g0:γ)
 (tm:∀s r,b s=some r->∀g,ay c (e9 c (λs g=>u s g++fj) (λs g=>iH fD (ul s g)) xs (λe d=>uf e d++fj) (λe d=>iH fD (tM e d)) r) body (u s g++fj) (iH fD (ul s g)))
 (p8:∀g,aq c Q (xs e) (uf e g++fj) (iH fD (tM e g)))
 (Cd:ue L fD:=by repeat (first|exact ue.nil|apply ue.cons))
 (JC:jn E cx fj:=by repeat (first|exact jn.nil|(apply jn.cons;rfl))) (aJ:eZ E (u s0 g0++fj):=by repeat (first|exact eZ.nil|refine eZ.same I ?_)) (ax:fD=iH fD (ul s0 g0):=by rfl):ay c Q (.loop body) E L:=
 ay.Ng ao (λs g=>u s g++fj) (λs g=>iH fD (ul s g)) xs (λe d=>uf e d++fj) (λe d=>iH fD (tM e d)) g0 (Cd.eq.trans ax) aJ tm p8
def iJ{γ:Type}{b:Bool}{y z:Code}{fj:aa (Nat×J)}{fD:aa aI}(cx:aa Nat)(u:γ->aa (Nat×J))(ul:γ->aa (Nat×aI))(ow:∀g,aq c Q .normal (u g++fj) (iH fD (ul g)))
 (bE:(∀g,aq c (ei Q) .normal (u g++fj) (iH fD (ul g)))->b=true->ay c (ei Q) y E fD) (aW:(∀g,aq c (ei Q) .normal (u g++fj) (iH fD (ul g)))->b=false->ay c (ei Q) z E fD)
 (Cd:ue L fD:=by repeat (first|exact ue.nil|apply ue.cons))
 (JC:jn E cx fj:=by repeat (first|exact jn.nil|(apply jn.cons;rfl))) (ao:aU c E fD x (.of b):=by first|exact ag I|exact h7 _):ay c Q (.cond x y z) E L:=by
 cases Cd.eq
 exact ay.b4 (λg=>u g++fj) (λg=>iH L (ul g)) ao ow bE aW
section
variable{all:aa ub}{w:Nat->Bool}
def hc{τ:J}{hyp:aa aI->Prop}(an:∀L',aU c E L' x τ:=by first|exact λ_=>ag I|exact λ_=>dd _|exact λ_=>h7 _|exact λ_=>fX _):∀L',hyp L'->k0 c ops E L' ⟨some bc,.move x,ty,pos,af,none⟩ τ:=λL' _=>.v (dj (an L')) I
def H1{σ τ:J}{hyp:aa aI->Prop}(h:∀{L'},aU c E L' x σ->bj c E L' o τ)(bH:o.guard=none:=by rfl)(an:∀L',aU c E L' x σ:=by first|exact λ_=>ag I|exact λ_=>dd _|exact λ_=>h7 _|exact λ_=>fX _):
 ∀L',hyp L'->k0 c ops E L' o τ:=λL' _=>.v (h (an L')) bH
def ot{σ q7 τ:J}{hyp:aa aI->Prop}(h:∀{L'},aU c E L' x σ->aU c E L' y q7->bj c E L' o τ)(bH:o.guard=none:=by rfl)(an:∀L',aU c E L' x σ:=by first|exact λ_=>ag I|exact λ_=>dd _|exact λ_=>h7 _|exact λ_=>fX _)
 (hy:∀L',aU c E L' y q7:=by first|exact λ_=>ag I|exact λ_=>dd _|exact λ_=>h7 _|exact λ_=>fX _):∀L',hyp L'->k0 c ops E L' o τ:=λL' _=>.v (h (an L') (hy L')) bH
def lG{p o:Nat}{β γ:Type}[aj β][aj γ]{b:β}(i:Nat)(l:aP β γ)(dP:bS c.P t γ)(an:∀L',aU c E L' x (.eq (.pointer (some ⟨p,o,none⟩))):=by exact λ_=>ag I)(ax:L[i]? =some ⟨some p,.var b⟩:=by rfl)(a8:o=l.off:=by rfl)
 (hu:u5 w i 0 all=true:=by first|rfl|kernel_rfl):∀L':aa aI,(∀(j:Nat) (e:aI),L[j]? =some e->u5 w j 0 all=true->L'[j]? =some e)->k0 c ops E L' ⟨some bc,.load t x,ty,pos,af,none⟩ (.of (l.get b)):=
 λL' Ce=>.v (gz l dP (an L') (Ce _ _ ax hu) a8 I) I
def vj{p:Nat}{β:Type}[aj β]{b:β}(i:Nat)(dP:bS c.P t β)(an:∀L',aU c E L' x (.eq (.pointer (some ⟨p,0,none⟩))):=by exact λ_=>ag I)(ax:L[i]? =some ⟨some p,.var b⟩:=by rfl)
 (hu:u5 w i 0 all=true:=by first|rfl|kernel_rfl):∀L':aa aI,(∀(j:Nat) (e:aI),L[j]? =some e->u5 w j 0 all=true->L'[j]? =some e)->k0 c ops E L' ⟨some bc,.load t x,ty,pos,af,none⟩ (.of b):=
 λL' Ce=>.v (gz (aP.id β) dP (an L') (Ce _ _ ax hu) I I) I
def tD{f:FuncId}{xs:aa ca}{ats:Array bF}{τs:aa J}{ρ:J}{hyp:aa aI->Prop}(cj:bL c.P f)(h:cE c.P f τs ρ)
 (an:∀L',iF c E L' xs τs:=by intro L';repeat (first|exact trivial|refine⟨ag I,?_⟩|refine⟨dd _,?_⟩|refine⟨h7 _,?_⟩|refine⟨look_nil,?_⟩|refine⟨fX _,?_⟩)):
 ∀L',hyp L'->k0 c ops E L' ⟨some bc,.call ⟨.value (.func f),xs.toArray,ats⟩,ty,pos,af,none⟩ ρ:=λL' _=>.v (iE cj h (an L')) I
def aco{α:Type}[aj α][Inhabited α]{xs:aa α}{e:bF}{i:Int}{j:Nat}{hyp:aa aI->Prop}(hk:idx xs.length i=some j)(hu:c.P.underlying t=some (.slice e))(eM:bS c.P e α)
 (an:∀L',aU c E L' x (.of xs):=by exact λ_=>ag I) (hy:∀L',aU c E L' y (.of i):=by first|exact λ_=>ag I|exact λ_=>dd _):
 ∀L',hyp L'->k0 c ops E L' ⟨some bc,.indexAddr t x y,ty,pos,af,none⟩ (.ptr (av xs j)):=λL' _=>.v (pz hu eM (an L') (hy L') (c4 hk)) I
def ar6{s f o:Nat}{β γ:Type}[aj β][aj γ]{b:β}{hyp:aa aI->Prop}(l:aP β γ)(fd:yK c.P s f o)(an:∀L',aU c E L' x (.ptr b):=by exact λ_=>ag I)(a8:l.off=o:=by rfl):
 ∀L',hyp L'->k0 c ops E L' ⟨some bc,.fieldAddr s x f,ty,pos,af,none⟩ (.ptr (l.get b)):=λL' _=>.v (Ej l fd (an L') a8 I) I
def OB{α:Type}[aj α]{a b:α}{hyp:aa aI->Prop}(e:some a=some b)(h:∀L',hyp L'->bj c E L' o (.of a))(bH:o.guard=none:=by rfl):∀L',hyp L'->k0 c ops E L' o (.of b):=λL' ax=>.v ((h L' ax).ra (di e)) bH
def eE{τ:J}{j g:Nat}{b want:Bool}{hyp:aa aI->Prop}(h:∀L',hyp L'->b=want->bj c E L' o τ)(bH:o.guard=some (j,want):=by rfl)(aC:(ops[j]?).bind (·.dst)=some g:=by rfl)(ao:look E g=some (.of b):=by rfl):
 ∀L',hyp L'->k0 c ops E L' o (.cond (b=want) τ):=λL' ax=>.g (h L' ax) bH aC ao
end
def aN(s:Nat)(up rd:aa Nat)(τ:J):dK:=⟨some s,up,rd,[],λ_=>τ,λ_ _=>⟨none,.dead⟩⟩
section
variable{hs:aa dK}{i:Nat}{up rd:aa Nat}
def mH{τ:J}(an:∀(hd:Nat->Hid) (E':aa (Nat×J)) (L':aa aI),(∀t τ,look (kR hd hs E up) t=some τ->look E' t=some τ)->aU c E' L' x τ:=by first|exact λ_ _ _ aJ=>ag (aJ _ _ I)|exact λ_ _ _ _=>dd _|exact λ_ _ _ _=>h7 _|exact λ_ _ _ _=>fX _)
 (aM:Nat.blt bc c.n=true:=by rfl):fq c ops Q hs E L i ⟨some bc,.move x,ty,pos,af,none⟩ (aN bc up rd τ):=j6 I I aM λhd E' L' aJ _=>dj (an hd E' L' aJ)
def j0{σ τ:J}(h:∀{E' L'},aU c E' L' x σ->bj c E' L' o τ)(bH:o.guard=none:=by rfl)(hd:o.dst=some bc:=by rfl)
 (an:∀(hd:Nat->Hid) (E':aa (Nat×J)) (L':aa aI),(∀t τ,look (kR hd hs E up) t=some τ->look E' t=some τ)->aU c E' L' x σ:=by first|exact λ_ _ _ aJ=>ag (aJ _ _ I)|exact λ_ _ _ _=>dd _|exact λ_ _ _ _=>h7 _|exact λ_ _ _ _=>fX _)
 (aM:Nat.blt bc c.n=true:=by rfl):fq c ops Q hs E L i o (aN bc up rd τ):=j6 bH hd aM λhd E' L' aJ _=>h (an hd E' L' aJ)
def vf{p o:Nat}{β γ:Type}[aj β][aj γ]{b:β}(k:Nat)(l:aP β γ)(dP:bS c.P t γ)
 (an:∀(hd:Nat->Hid) (E':aa (Nat×J)) (L':aa aI),(∀t τ,look (kR hd hs E up) t=some τ->look E' t=some τ)->aU c E' L' x (.eq (.pointer (some ⟨p,o,none⟩))):=by exact λ_ _ _ aJ=>ag (aJ _ _ I))
 (ax:∀hd:Nat->Hid,(gx (λ_=>true) hd 0 (hs.take i) L)[k]? =some ⟨some p,.var b⟩:=by exact λ_=>rfl) (aE:rd.contains k=true:=by rfl) (a8:o=l.off:=by rfl)
 (aM:Nat.blt bc c.n=true:=by rfl):fq c ops Q hs E L i ⟨some bc,.load t x,ty,pos,af,none⟩ (aN bc up rd (.of (l.get b))):=j6 I I aM λhd E' L' aJ Ce=>gz l dP (an hd E' L' aJ) (Ce _ _ (ax hd) aE) a8 I
def EI{p:Nat}{β:Type}[aj β]{b:β}(k:Nat)(dP:bS c.P t β)
 (an:∀(hd:Nat->Hid) (E':aa (Nat×J)) (L':aa aI),(∀t τ,look (kR hd hs E up) t=some τ->look E' t=some τ)->aU c E' L' x (.eq (.pointer (some ⟨p,0,none⟩))):=by exact λ_ _ _ aJ=>ag (aJ _ _ I))
 (ax:∀hd:Nat->Hid,(gx (λ_=>true) hd 0 (hs.take i) L)[k]? =some ⟨some p,.var b⟩:=by exact λ_=>rfl) (aE:rd.contains k=true:=by rfl)
 (aM:Nat.blt bc c.n=true:=by rfl):fq c ops Q hs E L i ⟨some bc,.load t x,ty,pos,af,none⟩ (aN bc up rd (.of b)):=j6 I I aM λhd E' L' aJ Ce=>gz (aP.id β) dP (an hd E' L' aJ) (Ce _ _ (ax hd) aE) I I
def nk{τ:J}(h:∀(hd:Nat->Hid) (E':aa (Nat×J)) (L':aa aI),(∀t τ,look (kR hd hs E up) t=some τ->look E' t=some τ)->(∀j e,(gx (λ_=>true) hd 0 (hs.take i) L)[j]? =some e->rd.contains j=true->L'[j]? =some e)->bj c E' L' o τ)
 (bH:o.guard=none:=by rfl) (hd:o.dst=some bc:=by rfl) (aM:Nat.blt bc c.n=true:=by rfl):fq c ops Q hs E L i o (aN bc up rd τ):=j6 bH hd aM h
end
end
def L6{F:Fence}{n r3:Nat}{P:Program}{code:Code}{Q:Exit->Act->bq->Prop}{a:Act}{W:bq}(hd:F.depth=none)(h:code.wpIn F n P Q a W):code.wpIn F r3 P Q a W:=
 λb k cs oZ hb _=>h b k cs oZ hb (λd hd'=>by rw[hd]at hd';cases hd')
def eL.is(o:Obj):eL where
 holds _ _ x:=x=o
 pC:=False
 mono _ h:=h
abbrev eL.fJ:eL:=.is (.deferred (some []))
def J.kP(f:FuncId)(τs:aa J):J where
 holds A W v:=∃fu:aa bt,v=.func (.func f) #[] fu.toArray∧gL A W τs fu
 mono e h:=let⟨fu,h1,ae⟩:=h; ⟨fu,h1,ae.mono e⟩
def bP.tv{c E L a W}(h:bP c E L a W){i p:Nat}{cp cp':eL}(au:L[i]? =some ⟨some p,cp⟩){o':Obj}(ak:cp'.holds (ks L++c.b3) W o'):
 bP c E (L.set i ⟨some p,cp'⟩) a (W.putObj p o'):=by
 have fP:ks (L.set i ⟨some p,cp'⟩)=ks L:=MH (cp:=cp') au
 have hp:p∈ks L:=sq.2 ⟨_,e6 au,rfl⟩
 have iG:Ext (ks L++c.b3) W (ks L++c.b3) (W.putObj p o'):=
  ⟨by simp,λk _ aY=>OX (λe=>aY (e▸cz.2 (.inl hp))),λ_ h _=>h⟩
 exact
 {defers:=h.defers
  size:=h.size
  env:=λt τ ao=>by rw[fP];exact let⟨v,h1,ae⟩:=h.env t τ ao; ⟨v,h1,τ.mono iG ae⟩
  dI:=⟨h.dI.os,h.dI.tape,h.dI.output,h.dI.drawn,by simpa using h.dI.size,λk hk an=>by
   rw[OX (λe:k=p=>an (by subst e;exact h.fO _ hp hk))];exact h.dI.block k hk an⟩
  own:=λe he=>by
   rw[fP];obtain⟨j,aC⟩:=oE.1 he;rw[pR]at aC;split at aC
   ·rename_i gP;subst gP;split at aC
    ·simp only[gy]at aC;subst aC;exact⟨_,World.putObj_heap_same (h.lt p hp),cp'.mono iG ak⟩
    cases aC
   rename_i gP;have h1:=h.own e (e6 aC);unfold aI.ok at *;split at h1
   ·rename_i q hq;obtain⟨o',qo,cB⟩:=h1;have dm:q≠p:=λe'=>gP (RK h.nodup au aC I (e'▸hq));exact⟨o',by rw[OX dm];exact qo,eL.mono _ iG cB⟩
   exact h1
  nodup:=by rw[fP];exact h.nodup
  lt:=by rw[fP];simpa using h.lt
  fO:=by rw[fP];exact h.fO
  eG:=by rw[fP];simpa using h.eG}
def Iq{c:cC}{E:aa (Nat×J)}{L:aa aI}{d:aA Tmp}{ty:bF}{pos:String}{af:Array Edge}{g:aA (Nat×Bool)}{f:FuncId}{xs:aa ca}{τs:aa J}(an:iF c E L xs τs):
 bj c E L ⟨d,.makeFunc (.func f) #[] xs.toArray,ty,pos,af,g⟩ (.kP f τs):=.pure λa W s=>
 ⟨.func (.func f) #[] (xs.map a.eval).toArray,by simp[execOp,Instr.makeFunc],_,rfl,an.holds a W s⟩
structure I2(A:List Nat)(W:World)(L:List aI):Prop where
 eG:∀k∈A,k<W.heap.size∧k∉ks L
 nodup:(ks L).Nodup
 lt:∀k∈ks L,k<W.heap.size
 ok:∀e∈L,e.ok (ks L++A) W
def Oe(P:Program)(u:bt){α σ ε γ:Type}(τ:α->J)(Ls:σ->γ->aa aI)(Lx:ε->γ->aa aI)(step:α->σ->aA (σ⊕ε))(R:aa Nat->bq->Prop):Prop:=
 ∃ l,u=.func (.yield l) #[] #[]∧∀x s r,step x s=some r->∀g A W v,R (ks (Ls s g)++A) W->I2 A W (Ls s g)->(τ x).holds (ks (Ls s g)++A) W v->
   YieldAt Fence.wide 8 P l #[v] W (match r with
    | .inl cH=>kB (ks (Ls s g)) A W (λ_:γ=>J.of true) (λg=>Ls cH g)
    | .inr q=>kB (ks (Ls s g)) A W (λ_:γ=>J.of false) (λg=>Lx q g))
def Lr{σ ε γ:Type}(Ls:σ->γ->aa aI)(Lx:ε->γ->aa aI):σ⊕ε->γ->aa aI
 | .inl s,g=>Ls s g
 | .inr q,g=>Lx q g
section
variable{c:cC}{E:aa (Nat×J)}{L:aa aI}{ops:Array Oper}{Q:Exit->Act->bq->Prop}
variable{d:aA Tmp}{ty:bF}{pos:String}{af:Array Edge}{g:aA (Nat×Bool)}{x y:ca}{t t2:bF}
def bP.aaJ{a:Act}{W:bq}(s:bP c E L a W):Ext (c.X++c.b3) c.j1 (ks L++c.b3) W:=
 ⟨s.dI.size,λk hk aY=>s.dI.block k hk λan=>aY (cz.2 (.inl an)),λk hm ch=>by
   rcases cz.1 hm with hm|hm
   ·exact cz.2 (.inl (s.fO k hm ch))
   exact cz.2 (.inr hm)⟩
def bP.NO{a:Act}{W:bq}{Lin Lr:aa aI}(s:bP c E (Lin++Lr) a W):I2 (ks Lr++c.b3) W Lin:=by
 have lB:=s.nodup;rw[e1]at lB;obtain⟨nJ,sL,qs⟩:=pS.1 lB;exact
 {eG:=λk hm=>by
   rcases cz.1 hm with hm|hm
   ·exact⟨s.lt k (by rw[e1];exact cz.2 (.inr hm)),λh=>qs k h k hm I⟩
   obtain⟨h1,ae⟩:=s.eG k hm;exact⟨h1,λh=>ae (by rw[e1];exact cz.2 (.inl h))⟩
  nodup:=nJ
  lt:=λk hm=>s.lt k (by rw[e1];exact cz.2 (.inl hm))
  ok:=λe he=>aI.uL (s.own e (cz.2 (.inl he))) (.drop λk hm=>by
   rw[e1];simp only[cz]at hm⊢;rcases hm with hm|hm|hm
   ·exact .inl (.inl hm)
   ·exact .inl (.inr hm)
   exact .inr hm) λ_ _=>rfl}
def DW{Lin Lr:aa aI}{A:aa Nat}{W:bq}:Ext (ks (Lin++Lr)++A) W (ks Lin++(ks Lr++A)) W:=.drop λk hm=>by
 rw[e1];simp only[cz]at hm⊢;rcases hm with hm|hm|hm
 ·exact .inl (.inl hm)
 ·exact .inl (.inr hm)
 exact .inr hm
def Md{Lin Lr:aa aI}{A:aa Nat}{W:bq}:Ext (ks Lin++(ks Lr++A)) W (ks (Lin++Lr)++A) W:=.drop λk hm=>by
 rw[e1]at hm;simp only[cz]at hm⊢;rcases hm with(hm|hm)|hm
 ·exact .inl hm
 ·exact .inr (.inl hm)
 exact .inr (.inr hm)
def ad.yield{rest:aa Oper}{bc xd:Nat}{ats:Array bF}{u:bt}{α σ ε γ:Type}{τ:α->J}{Ls:σ->γ->aa aI}{Lx:ε->γ->aa aI}{step:α->σ->aA (σ⊕ε)}{Lin:aa aI}{x:ca}{v:α}{s:σ}{gg:γ}{r:σ⊕ε}
 (ak:c.rd=none) (hy:Oe c.P u τ Ls Lx step (λcR W'=>Ext (c.X++c.b3) c.j1 cR W')) (aW:look E xd=some (.eq u)) (an:aU c E (Lin++Ls s gg) x (τ v)) (aE:step v s=some r) (aM:Nat.blt bc c.n=true)
 (aR:∀cH,r=.inl cH->∀dY,ad c ops Q rest ((bc,.of true)::E) (Lin++Ls cH dY)) (bD:∀q,r=.inr q->∀dY,ad c ops Q rest ((bc,.of false)::E) (Lin++Lx q dY)):
 ad c ops Q (⟨some bc,.call ⟨.value (.tmp xd),#[x],ats⟩,ty,pos,af,none⟩::rest) E (Lin++Ls s gg):=λa W st=>by
 obtain⟨l,rfl,hy⟩:=hy
 obtain⟨Ut,h1,ae⟩:=st.env xd _ aW
 have hu:Ut=.func (.yield l) #[] #[]:=ae
 subst hu
 have tN:bP c E (Ls s gg++Lin) a W:=st.perm oF
 have ba:=an a W st
 have w0:(τ v).holds (ks (Ls s gg)++(ks Lin++c.b3)) W (a.eval x):=(τ v).mono (.drop λk hm=>by
  rw[e1];simp only[cz]at hm⊢;rcases hm with hm|hm|hm
  ·exact .inl (.inr hm)
  ·exact .inl (.inl hm)
  exact .inr hm) ba
 obtain⟨fn,tmps,assign,body,j7,iK⟩:=hy v s r aE gg (ks Lin++c.b3) W (a.eval x) (tN.aaJ.trans DW) tN.NO w0
 have Sv:(execOp a.eval ⟨some bc,.call ⟨.value (.tmp xd),#[x],ats⟩,ty,pos,af,none⟩).run c.P W=.ok (.round l fn tmps assign body) W:=by
  rw[<-j7];simp[execOp,resolve,Deferred.ofValue,Act.eval,h1,invoke,dU,Sem.run_pure,Result.andThen]
 refine wpListIn_plain I λK ov=>?_
 refine⟨λ_ _=>trivial,?_⟩
 rw[PI _ _ _ (λ_ h=>by cases h),Sv,Oper.uponIn_round]
 refine⟨λh=>by simp at h,?_⟩
 have Tx:RoundIn c.F (9-1) c.P l fn tmps assign body W _:=iK
 refine Tx.mono λe W' he=>?_
 cases r with
 | inl cH=>
   obtain⟨w,dY,rfl,tO,az,aQ,a7,bp⟩:=he
   obtain rfl:=of_bool.1 bp
   refine ov _ _ (aR cH I dY _ _ ?_)
   exact(((tN.after tO az aQ a7).perm oF).put (by simpa using aM) (of_bool.2 I))
 | inr q=>
   obtain⟨w,dY,rfl,tO,az,aQ,a7,bp⟩:=he
   obtain rfl:=of_bool.1 bp
   refine ov _ _ (bD q I dY _ _ ?_)
   exact(((tN.after tO az aQ a7).perm oF).put (by simpa using aM) (of_bool.2 I))
def ad.ey{l:aa Oper}{L2:aa aI}(h:L=L2)(k:ad c ops Q l E L2):ad c ops Q l E L:=by subst h;exact k
def ad.cases{l:aa Oper}(b:Bool)(h1:b=true->ad c ops Q l E L)(ae:b=false->ad c ops Q l E L):ad c ops Q l E L:=by
 cases b
 ·exact ae I
 exact h1 I
def ay.Is{x:ca}{b:Bool}{y z:Code}(ao:aU c E L x (.of b))(hb:b=true)(k:ay c Q y E L):ay c Q (.cond x y z) E L:=.cond ao (λ_=>k) λh=>by rw[hb]at h;cases h
def ay.wq{x:ca}{b:Bool}{y z:Code}(ao:aU c E L x (.of b))(hb:b=false)(k:ay c Q z E L):ay c Q (.cond x y z) E L:=.cond ao (λh=>by rw[hb]at h;cases h) λ_=>k
def H0:Code->Exit
 | .ret=>.ret
 | .exit id=>.exit id
 | .goto t=>.goto t
 |_=>.normal
def A6:Code->Bool
 | .ret| .exit _| .goto _=>true
 |_=>false
def OE{σ ε γ:Type}(c:cC)(cn:ε->Code)(l D:Nat)(rec:Loop)(Ls:σ->γ->aa aI)(Lx:ε->γ->aa aI):σ⊕ε->Exit->Act->bq->Prop
 | .inl cH,x,a,W=>x=.normal∧∃g,bP c [] (⟨some l,.is (.loop rec)⟩::⟨some D,.fJ⟩::Ls cH g) a W
 | .inr q,x,a,W=>A6 (cn q)=true∧x=H0 (cn q)∧∃g,bP c [] (⟨some l,.is (.loop rec)⟩::⟨some D,.fJ⟩::Lx q g) a W
def OF(c:cC)(l:Nat)(body:Code)(Q:Exit->Act->bq->Prop)(a:Act)(W:bq):Prop:=
 ∃rj,(Instr.beginRound l).run c.P W=.ok () rj∧c.wp body Q a rj
def aq.begin{l:Nat}{body:Code}{ua:Exit->Act->bq->Prop}(i:Nat){r:Loop}(ax:L[i]? =some ⟨some l,.is (.loop r)⟩)(aE:r.state=.ready)
 (k:ay c Q body E (L.set i ⟨some l,.is (.loop {r with state:=.busy})⟩)):aq c (Exit.then (OF c l body Q) ua) .normal E L:=λa W s=>by
 obtain⟨o,h1,ae⟩:=s.own _ (e6 ax)
 have mB:o=.loop r:=ae
 subst mB
 exact⟨_,run_beginRound h1 aE,k _ _ (s.tv ax I)⟩
def aq.acr{σ ε γ:Type}{cn:ε->Code}{l D:Nat}{rec:Loop}{Ls:σ->γ->aa aI}{Lx:ε->γ->aa aI}{cH:σ}(g:γ)(n:Nat)(ax:L.drop n=⟨some l,.is (.loop rec)⟩::⟨some D,.fJ⟩::Ls cH g):
 aq c (OE c cn l D rec Ls Lx (.inl cH)) .normal E L:=λa W s=>⟨rfl,g,by rw[<-ax];exact(s.sw n).less (λt τ h=>by simp[look]at h)⟩
def aq.alc{σ ε γ:Type}{cn:ε->Code}{l D:Nat}{rec:Loop}{Ls:σ->γ->aa aI}{Lx:ε->γ->aa aI}{q:ε}{x:Exit}(g:γ)(n:Nat)(aC:A6 (cn q)=true)(an:x=H0 (cn q))(ax:L.drop n=⟨some l,.is (.loop rec)⟩::⟨some D,.fJ⟩::Lx q g):
 aq c (OE c cn l D rec Ls Lx (.inr q)) x E L:=λa W s=>⟨aC,an,g,by rw[<-ax];exact(s.sw n).less (λt τ h=>by simp[look]at h)⟩
def ay.jump{j:Code}(aC:A6 j=true)(k:aq c Q (H0 j) E L):ay c Q j E L:=by
 cases j <;> simp only[A6]at aC <;> first|cases aC|skip
 all_goals first|exact .exit k|exact .ret k|exact λa W s=>wpIn_goto (k a W s)
def Wq{P:Program}{l:Nat}{R:Ending->bq->Prop}{j:Code}{a:Act}{W W':bq}{v:bt}(aC:A6 j=true)(bp:(Instr.endRound l (some j)).run P W=.ok v W')(iK:R (.returned v) W'):
 roundPost P l R (H0 j) a W:=by
 cases j <;> simp only[A6]at aC <;> first|exact⟨_,_,bp,iK⟩|cases aC
def bP.mark{a:Act}{W:bq}(s:bP c E L a W)(D:Nat):bP {c with ds:=tt D::c.ds} E L {a with defers:=tt D::a.defers} W:=
 {defers:=by simp[s.defers],size:=s.size,env:=s.env,dI:=s.dI,own:=s.own,nodup:=s.nodup,lt:=s.lt,fO:=s.fO,eG:=s.eG}
def Ty(P:Program)(f:FuncId)(τs:aa J)(Lin:aa aI){α σ ε γ:Type}(τ:α->J)(run:(α->σ->aA (σ⊕ε))->σ->aA (σ⊕ε))(Ls:σ->γ->aa aI)(Lx:ε->γ->aa aI):Prop:=
 ∀ (step:α->σ->aA (σ⊕ε)) (s0:σ) (g0:γ) (r:σ⊕ε),run step s0=some r->
   ∀ (A:aa Nat) (W:bq) (u:bt) (vs:aa bt),I2 A W (Lin++Ls s0 g0)->gL (ks (Lin++Ls s0 g0)++A) W τs vs->
     Oe P u τ Ls Lx step (λcR W'=>Ext (ks (Lin++Ls s0 g0)++A) W cR W')->
     Calls P f (u::vs).toArray W (kB (ks (Lin++Ls s0 g0)) A W (λ_:γ=>.b7 []) (λg=>Lin++Lr Ls Lx r g))
def ah9{gt p:Nat}{assign body:Code}{f:FuncId}{rP:aa J}{Lin:aa aI}{α σ ε γ:Type}{τ:α->J}{run:(α->σ->aA (σ⊕ε))->σ->aA (σ⊕ε)}
 {Ls:σ->γ->aa aI} {Lx:ε->γ->aa aI} {step:α->σ->aA (σ⊕ε)} {s0:σ} {g0:γ} {r:σ⊕ε} (cn:ε->Code)
 (ak:c.rd=none) (cj:bL c.P f) (bH:look E gt=some (.kP f rP)) (pN:∀ar aK q8,Ty c.P f rP Lin τ run (λs g=>ar::aK::Ls s g) q8) (aE:run step s0=some r) (ax:L=Lin++Ls s0 g0) (hp:Nat.blt p c.n=true)
 (uV:∀x s r,step x s=some r->∀g (q1:bq) (re q2:aa Nat) (l D:Nat) (rec:Loop),rec.state=.ready->
  ay ⟨c.P,c.n,q1,re,q2,some l,[]⟩ (Exit.then (OF ⟨c.P,c.n,q1,re,q2,some l,[]⟩ l body (OE ⟨c.P,c.n,q1,re,q2,some l,[]⟩ cn l D {rec with state:=.busy} Ls Lx r)) (λ_ _ _=>False)) assign ((p,τ x)::E) (⟨some l,.is (.loop rec)⟩::⟨some D,.fJ⟩::Ls s g))
 (tn:∀cH,r=.inl cH->∀g D,aq {c with ds:=tt D::c.ds} Q .normal E (⟨some D,.fJ⟩::(Lin++Ls cH g)))
 (Iw:∀q,r=.inr q->∀g D,ay {c with ds:=tt D::c.ds} Q (cn q) E (⟨some D,.fJ⟩::(Lin++Lx q g))):
 ay c Q (.rangeFunc (.tmp gt) #[p] assign body) E L:=λa W st=>by
 subst ax
 refine wpIn_rangeFunc λfn Of=>?_
 show ∃l mark BS d aow Fj args aqE,(Instr.enterLoop fn a.tmps #[p] assign body c.rd).run c.P W=_∧_
 rw[ak]
 obtain⟨rec,mw⟩:∃rec:Loop,rec= {state:=.ready,pending:=none,fn,tmps:=a.tmps,params:= #[p],assign,body,defers:=W.heap.size}:=⟨_,rfl⟩
 obtain⟨v,JD,fu,Cf,aso⟩:=st.env gt _ bH
 obtain⟨ix,JE⟩:∃ix,(W.alloc (.deferred (some []))).alloc (.loop rec)=ix:=⟨_,rfl⟩
 have s1:=(st.alloc (o:=.deferred (some [])) (cp:=.fJ) I).alloc (o:=.loop rec) (cp:=.is (.loop rec)) I
 rw[JE,K4]at s1
 obtain⟨D,ml⟩:∃D,D=W.heap.size:=⟨_,rfl⟩
 obtain⟨l,ao⟩:∃l,l=W.heap.size+1:=⟨_,rfl⟩
 have JF:=run_enterLoop_outer (P:=c.P) (w:=W) fn a.tmps #[p] assign body
 rw[<-mw,JE,<-ao,<-ml]at JF
 rw[<-ao,<-ml]at s1
 obtain⟨nK,tP⟩:∃nK:σ->γ->aa aI,nK=λs g=>⟨some l,.is (.loop rec)⟩::⟨some D,.fJ⟩::Ls s g:=⟨_,rfl⟩
 obtain⟨q8,JG⟩:∃q8:ε->γ->aa aI,q8=λq g=>⟨some l,.is (.loop {rec with state:=.done,pending:=some (cn q)})⟩::⟨some D,.fJ⟩::Lx q g:=⟨_,rfl⟩
 have s2:bP c E (Lin++nK s0 g0) a ix:=s1.perm (by
  rw[tP];exact(sc.trans (sc.cons _)).symm)
 have Tz:gL (ks (Lin++nK s0 g0)++c.b3) ix rP fu:=by
  have h1:(J.kP f rP).holds (ks (Lin++nK s0 g0)++c.b3) ix v:=by
   obtain⟨Fi,h1,ae⟩:=s2.env gt _ bH;rw[JD]at h1;cases h1;exact ae
  obtain⟨TA,ar,aK⟩:=h1;rw[Cf]at ar;have:TA=fu:=by injection ar with _ _ ar;injection ar with ar;exact ar.symm
  rw[<-this];exact aK
 have JH:bP c E ((Lin++nK s0 g0)++[]) a ix:=by rw[mM];exact s2
 have Ix:=JH.NO
 simp only[ks,List.nil_append]at Ix
 have S9:Oe c.P (.func (.yield l) #[] #[]) τ nK q8 step (λcR W'=>Ext (ks (Lin++nK s0 g0)++c.b3) ix cR W'):=by
  refine⟨l,rfl,λx s nn hs g A rj v2 iG hle ba=>?_⟩;have I3:=hle;rw[tP]at I3;obtain⟨o,dH,fg⟩:=I3.ok ⟨some l,.is (.loop rec)⟩ (by simp);have tw:o=.loop rec:=fg;subst tw;have hy:=run_yield (P:=c.P) (args:= #[v2]) dH (by rw[mw];rfl);refine⟨_,_,_,_,hy,roundIn_of_wpIn cZ ?_⟩;have ar:rec.assign=assign:=by rw[mw]
  have aK:rec.body=body:=by rw[mw]
  have cr:rec.params= #[p]:=by rw[mw]
  have e4:rec.tmps=a.tmps:=by rw[mw]
  rw[ar,aK,cr,e4];refine L6 (n:=9) I ?_;have Sw:((#[p]:Array Tmp).zip #[v2]).foldl (λtmps (t,a)=>tmps.setIfInBounds t a) a.tmps=a.tmps.setIfInBounds p v2:=by simp
  rw[Sw];subst tP JG;refine wpIn_mono ((uV x s nn hs g rj (ks (⟨some l,.is (.loop rec)⟩::⟨some D,.fJ⟩::Ls s g)) A l D rec (by rw[mw])) {tmps:=a.tmps.setIfInBounds p v2,defers:=[]} rj ?_) ?_
  ·have kS:p<c.n:=by simpa using hp
   exact
   {defers:=rfl
    size:=by simp[s2.size]
    env:=λt tH fh=>by
     simp only[look]at fh;by_cases e:Nat.beq p t=true
     ·rw[e]at fh;simp only[cond_true,gy]at fh;subst fh;have:=fx.1 e;subst this;exact⟨v2,by simp[s2.size,kS],ba⟩
     simp only[lX]at e;rw[e]at fh;simp only[cond_false]at fh;obtain⟨u,h1,ae⟩:=s2.env t tH fh;have dm:p≠t:=λh=>by rw[fx.2 h]at e;cases e
     exact⟨u,by rw[OO dm];exact h1,tH.mono iG ae⟩
    dI:=.refl _ _
    own:=hle.ok
    nodup:=hle.nodup
    lt:=hle.lt
    fO:=λk hk _=>hk
    eG:=hle.eG}
  intro e a3 atN hq;cases e with
  | normal=>
    obtain⟨Uu,TB,hb⟩:=hq
    refine⟨Uu,TB,L6 (n:=9) I (wpIn_mono hb ?_)⟩
    intro e a5 Kl Og
    have fin:∀(jump:aA Code) {Lr:aa aI},bP ⟨c.P,c.n,rj,ks (⟨some l,.is (.loop rec)⟩::⟨some D,.fJ⟩::Ls s g),A,some l,[]⟩ [] (⟨some l,.is (.loop {rec with state:=.busy})⟩::⟨some D,.fJ⟩::Lr) a5 Kl->
     ∃r4,(Instr.endRound l jump).run c.P Kl=.ok (.bool jump.isNone) r4∧bP ⟨c.P,c.n,rj,ks (⟨some l,.is (.loop rec)⟩::⟨some D,.fJ⟩::Ls s g),A,some l,[]⟩ [] (⟨some l,.is (.loop {rec with state:=if jump.isNone then .ready else .done,pending:=jump})⟩::⟨some D,.fJ⟩::Lr) a5 r4:=λjump Lr jz=>by
     obtain⟨o,h1,ae⟩:=jz.own ⟨some l,.is (.loop {rec with state:=.busy})⟩ (by simp)
     have mB:o=.loop {rec with state:=.busy}:=ae
     subst mB
     exact⟨_,run_endRound jump h1,jz.tv (i:=0) I I⟩
    cases nn with
    | inl cH=>
      obtain⟨rfl,dY,jz⟩:=Og
      obtain⟨r4,bp,km⟩:=fin none jz
      refine⟨_,r4,bp,?_⟩
      have JI:({rec with state:=if (none:aA Code).isNone then .ready else .done,pending:=none}:Loop)=rec:=by rw[mw];rfl
      rw[JI]at km
      exact km.ends (ρ:=λ_:γ=>J.of true) (Lo:=λg=>⟨some l,.is (.loop rec)⟩::⟨some D,.fJ⟩::Ls cH g) dY (zr _) (of_bool.2 I)
    | inr q=>
      obtain⟨aC,rfl,dY,jz⟩:=Og
      obtain⟨r4,bp,km⟩:=fin (some (cn q)) jz
      have key:kB (ks (⟨some l,.is (.loop rec)⟩::⟨some D,.fJ⟩::Ls s g)) A rj (λ_:γ=>J.of false) (λg=>⟨some l,.is (.loop {rec with state:=.done,pending:=some (cn q)})⟩::⟨some D,.fJ⟩::Lx q g) (.returned (.bool false)) r4:=
       km.ends (ρ:=λ_:γ=>J.of false) (Lo:=λg=>⟨some l,.is (.loop {rec with state:=.done,pending:=some (cn q)})⟩::⟨some D,.fJ⟩::Lx q g) dY (zr _) (of_bool.2 I)
      exact Wq aC bp key
  |exit id=>exact hq.elim
  |goto t=>exact hq.elim
  |ret=>exact hq.elim
  |panic ou=>exact hq.elim
  |outgrown=>exact hq.elim
 have TC:Ty c.P f rP Lin τ run nK q8:=by rw[tP];exact pN _ _ q8
 have BF:=TC step s0 g0 r aE c.b3 ix (.func (.yield l) #[] #[]) fu Ix Tz S9
 have lh:a.eval (.tmp gt)=.func (.func f) #[] fu.toArray:=by simp[Act.eval,JD,Cf]
 refine⟨l,[tt D],ix,{target:=.fn (.func f) fu.toArray,args:= #[.func (.yield l) #[] #[]]},ix,f,#[.func (.yield l) #[] #[]]++fu.toArray,ix,JF,?_,λ_ _=>trivial,?_,λh=>by simp at h,?_⟩
 ·simp only[resolve,lh]
  simp[go_sem]
 ·simp[invoke,go_sem,cj.run]
 refine CallsIn.Q6 ?_
 have Sx:(#[.func (.yield l) #[] #[]]++fu.toArray:Array bt)=(.func (.yield l) #[] #[]::fu).toArray:=by simp
 rw[Sx]
 refine BF.mono λe Uv ⟨atO,dY,he,aW,az,aQ,a7,bp⟩=>?_
 subst he
 have r5:=JH.after aW az (by simpa[ks]using aQ) (by simpa[ks]using a7)
 rw[mM]at r5
 cases r with
 | inl cH=>
   simp only[Lr]at r5
   subst tP
   have Km:bP c E (⟨some l,.is (.loop rec)⟩::⟨some D,.fJ⟩::(Lin++Ls cH dY)) a Uv:=r5.perm (by
    exact sc.trans (sc.cons _))
   obtain⟨o,dH,fg⟩:=Km.own ⟨some l,.is (.loop rec)⟩ (by simp)
   have tw:o=.loop rec:=fg
   subst tw
   have nb:=LC (P:=c.P) dH (by rw[mw];simp)
   have kS:rec.pending=none:=by rw[mw]
   rw[kS]at nb
   refine⟨none,_,nb,?_⟩
   have xe:=(Km.tv (i:=0) (cp':=.is (.loop {rec with state:=.exhausted})) (o':=.loop {rec with state:=.exhausted}) I I).sw 1
   rw[kS]at xe
   exact tn cH I dY D _ _ (xe.mark D)
 | inr q=>
   simp only[Lr]at r5
   subst JG
   have Km:bP c E (⟨some l,.is (.loop {rec with state:=.done,pending:=some (cn q)})⟩::⟨some D,.fJ⟩::(Lin++Lx q dY)) a Uv:=r5.perm (by
    exact sc.trans (sc.cons _))
   obtain⟨o,dH,fg⟩:=Km.own ⟨some l,.is (.loop {rec with state:=.done,pending:=some (cn q)})⟩ (by simp)
   have tw:o=.loop {rec with state:=.done,pending:=some (cn q)}:=fg
   subst tw
   have nb:=LC (P:=c.P) dH (by simp)
   refine⟨some (cn q),_,nb,?_⟩
   have xe:=(Km.tv (i:=0) (cp':=.is (.loop {rec with state:=.exhausted,pending:=some (cn q)})) (o':=.loop {rec with state:=.exhausted,pending:=some (cn q)}) I I).sw 1
   exact Iw q I dY D _ _ (xe.mark D)
def agx{P:Program}{fn:Func}{R:Ending->bq->Prop}{a:Act}{W:bq}(h:bodyPost P fn R .ret a W):bodyPostM Fence.wide 9 P fn R .ret a W:=by
 obtain⟨h1,v,ae,az⟩:=h;show LeavesInM Fence.wide 9 P fn a.tmps R a.defers .returning W;rw[h1];exact⟨v,ae,az⟩
def aq.kG{P:Program}{fn:Func}{R:Ending->bq->Prop}(k:aq c (bodyPost P fn R) .ret E L):aq c (bodyPost P fn R) .normal E L:=λa W s=>k a W s
def aq.IS{fn:Func}{R:Ending->bq->Prop}(k:aq c (bodyPost c.P fn R) .ret E L):aq c (bodyPostM Fence.wide 9 c.P fn R) .ret E L:=λa W s=>agx (k a W s)
def aq.NG{fn:Func}{R:Ending->bq->Prop}{D:Nat}(i:Nat)(ax:L[i]? =some ⟨some D,.fJ⟩)(et:c.ds=[tt D])(k:aq {c with ds:=[]} (bodyPost c.P fn R) .ret E (L.set i ⟨some D,.is (.deferred none)⟩)):
 aq c (bodyPostM Fence.wide 9 c.P fn R) .ret E L:=λa W s=>by
 obtain⟨o,h1,ae⟩:=s.own _ (e6 ax)
 have mB:o=.deferred (some []):=ae
 subst mB
 have s2:=s.tv ax (cp':=.is (.deferred none)) (o':=.deferred none) I
 have eA:bP {c with ds:=[]} E (L.set i ⟨some D,.is (.deferred none)⟩) {a with defers:=[]} (W.putObj D (.deferred none)):=
  {defers:=rfl,size:=s2.size,env:=s2.env,dI:=s2.dI,own:=s2.own,nodup:=s2.nodup,lt:=s2.lt,fO:=s2.fO,eG:=s2.eG}
 obtain⟨_,v,az,aQ⟩:=k _ _ eA
 show LeavesInM Fence.wide 9 c.P fn a.tmps R a.defers .returning W
 rw[s.defers,et]
 exact⟨by simp,.inl ⟨D,_,rfl,run_takeDeferred h1,v,az,aQ⟩⟩
end
def cE.aua{P:Program}{f:FuncId}{fn:Func}{code:Code}{n:Nat}{τs:aa J}{ρ:J}(aW:P.funcs[f]? =some fn)(hb:fn.body=some code)(aM:fn.ntmps=n)(hlen:Nat.ble τs.length n=true)
 (h:∀W A,ay ⟨P,n,W,[],A,none,[]⟩ (bodyPostM Fence.wide 9 P fn λe W'=> ∃v,e=.returned v∧Fr [] W W'∧ρ.holds A W' v) code (params 0 τs) []):cE P f τs ρ:=by
 intro A W vs eB ba
 refine(callsIn_wide (n:=9)).1 (callsIn_of_wp_marks aW hb cZ (h W A _ _ ?_))
 have ao:=ba.length
 have hle:τs.length<=n:=pb hlen
 exact
 {defers:=rfl
  size:=by simp[aM,ao];omega
  env:=λt τ kX=>by
   obtain⟨_,v,ae,az⟩:=zW ba 0 t τ kX;refine⟨v,?_,az⟩;have ch:t<vs.length:=(hh.1 ae).1;rw[vD (by simpa using ch)];simpa using ae
  dI:=.refl _ _
  own:=by simp
  nodup:=by simp[ks]
  lt:=by simp[ks]
  fO:=by simp[ks]
  eG:=λk hk=>⟨eB k hk,by simp[ks]⟩}
def bV.ofM{P:Program}{f:FuncId}{fn:Func}{code:Code}{n:Nat}{τs:aa J}{Lin:aa aI}{δ:Type}{ρ:δ->J}{Lo:δ->aa aI}(aW:P.funcs[f]? =some fn)(hb:fn.body=some code)(aM:fn.ntmps=n)(hlen:Nat.ble τs.length n=true)
 (h:∀W A,ay ⟨P,n,W,ks Lin,A,none,[]⟩ (bodyPostM Fence.wide 9 P fn (kB (ks Lin) A W ρ Lo)) code (params 0 τs) Lin):bV P f τs Lin ρ Lo:=by
 intro A W vs eB kQ ch hA ba
 refine(callsIn_wide (n:=9)).1 (callsIn_of_wp_marks aW hb cZ (h W A _ _ ?_))
 have ao:=ba.length
 have hle:τs.length<=n:=pb hlen
 exact
 {defers:=rfl
  size:=by simp[aM,ao];omega
  env:=λt τ kX=>by
   obtain⟨_,v,ae,az⟩:=zW ba 0 t τ kX;refine⟨v,?_,az⟩;have ch:t<vs.length:=(hh.1 ae).1;rw[vD (by simpa using ch)];simpa using ae
  dI:=.refl _ _
  own:=hA
  nodup:=kQ
  lt:=ch
  fO:=λk hk _=>hk
  eG:=eB}
def Qr{τ σ:J}(h:τ.Flat)(k:σ.Flat):(J.b7 [τ,σ]).Flat:=λA W cR W' v ⟨vs,h1,ae⟩=>by
 refine⟨vs,h1,?_⟩;generalize vs.toList=l at ae;cases ae with
 | cons a r=>cases r with
   |cons b r=>cases r;exact .cons (h _ _ _ _ _ a) (.cons (k _ _ _ _ _ b) .nil)
section
variable{c:cC}{E:aa (Nat×J)}{L:aa aI}{ops:Array Oper}{Q:Exit->Act->bq->Prop}
variable{d:aA Tmp}{ty:bF}{pos:String}{af:Array Edge}{g:aA (Nat×Bool)}{x y:ca}{t t2:bF}
def bj.via{o:Oper}{τ:J}{E':aa (Nat×J)}{L':aa aI}(aW:τ.Flat)(hs:∀a W,bP c E L a W->bP c E' L' a W)(h:bj c E' L' o τ):bj c E L o τ:=λa W st=>by
 have:=h a W (hs a W st);unfold h0 at this⊢;exact vP (λiw W' ⟨v,h1,ae,az⟩=>⟨v,h1,ae,aW _ _ _ _ _ az⟩) this
def bP.tell{a:Act}{W:bq}(s:bP c E L a W){gh:Nat}{σ τ:J}(ao:look E gh=some σ)(h:∀v,σ.holds (ks L++c.b3) W v->τ.holds (ks L++c.b3) W v):bP c ((gh,τ)::E) L a W:=by
 refine {s with env:=λt tH fh=>?_};simp only[look]at fh;by_cases e:Nat.beq gh t=true
 ·rw[e]at fh;simp only[cond_true,gy]at fh;subst fh;have:=fx.1 e;subst this;obtain⟨v,h1,ae⟩:=s.env gh _ ao;exact⟨v,h1,h v ae⟩
 simp only[lX]at e;rw[e]at fh;exact s.env t tH fh
def bP.aaK{a:Act}{W:bq}(s:bP c E L a W){i p:Nat}{α:Type}[aj α]{z:α}(ax:L[i]? =some ⟨some p,.var z⟩):
 (J.ptr z).holds (ks (L.set i ⟨none,.dead⟩)++c.b3) W (.pointer (some ⟨p,0,none⟩)):=by
 obtain⟨o,e3,cs,T,rfl,aE⟩:=s.own _ (e6 ax)
 have hlen:cs.toList.length=aj.size α:=aj.len aE
 refine⟨p,0,cs,T,(0,0),rfl,s.HL ax,e3,by simp at hlen;omega,?_⟩
 rw[vM,<-hlen,k4]
 have oc:=Dx (L:=L) (i:=i) (cp:=.dead)
 exact aj.mono (.drop λk hm=>by
  rcases cz.1 hm with hm|hm
  ·exact cz.2 (.inl (oc.subset hm))
  exact cz.2 (.inr hm)) aE
abbrev JJ(f p:Nat):bt:=.func (.func f) #[.pointer (some ⟨p,0,none⟩)] #[]
def anY{f p:Nat}(an:aU c E L x (.eq (.pointer (some ⟨p,0,none⟩)))):bj c E L ⟨d,.makeFunc (.func f) #[x] #[],ty,pos,af,g⟩ (.eq (JJ f p)):=.pure λa W s=>by
 have h:=an a W s;refine⟨_,?_,rfl⟩;have c8:a.eval x=.pointer (some ⟨p,0,none⟩):=h;simp[execOp,Instr.makeFunc,c8,JJ]
def aks{f p:Nat}{α β γ δ:Type}[aj α][aj β][aj γ][aj δ]{z:δ}{F:α->β->aA γ}{P:Program}(cj:bL P f)(h:∀x y r,F x y=some r->cE P f [.ptr z,.of x,.of y] (.of r)){A:aa Nat}{W:bq}
 (hp:(J.ptr z).holds A W (.pointer (some ⟨p,0,none⟩))):(J.tE P F).holds A W (JJ f p):=
 ⟨f,_,#[],rfl,cj,λcR W' e eB x y r ox uc lP ba Cf=>by simpa using h x y r lP cR W' [_,ox,uc] eB (.cons (J.mono _ e hp) (.cons ba (.cons Cf .nil)))⟩
def bj.aar{o:Oper}{τ σ:J}{p:Nat}{α:Type}[aj α]{z:α}(i gh:Nat)(ao:look E gh=some σ)(ba:∀A W v,σ.holds A W v->v=.pointer (some ⟨p,0,none⟩))(ax:L[i]? =some ⟨some p,.var z⟩)(aW:τ.Flat)
 (h:bj c ((gh,.ptr z)::E) (L.set i ⟨none,.dead⟩) o τ):bj c E L o τ:=
 .via aW (λa W s=>(s.kill i).tell (σ:=σ) ao (λv cB=>by rw[ba _ _ _ cB];exact s.aaK ax)) h
def bj.alf{o:Oper}{τ:J}{p f:Nat}{α β γ δ:Type}[aj α][aj β][aj γ][aj δ]{z:δ}{F:α->β->aA γ}(i gh:Nat)(ao:look E gh=some (.eq (JJ f p)))(ax:L[i]? =some ⟨some p,.var z⟩)(cj:bL c.P f)
 (lP:∀x y r,F x y=some r->cE c.P f [.ptr z,.of x,.of y] (.of r)) (aW:τ.Flat) (h:bj c ((gh,.tE c.P F)::E) (L.set i ⟨none,.dead⟩) o τ):bj c E L o τ:=
 .via aW (λa W s=>(s.kill i).tell ao (λv cB=>by have asp:v=JJ f p:=cB;rw[asp];exact aks cj lP (s.aaK ax))) h
def bj.anX{o:Oper}{τ:J}{p cap T:Nat}{key:aA Nat}{β γ:Type}[aj β][aj γ]{b b':β}{xs:aa γ}{os os':aa (Nat×bt)}(l:aP β (aa γ))(i j q:Nat)(gP:Nat.beq i j=false)(ax:L[i]? =some ⟨some p,.bX b os⟩)(sU:L[j]? =some ⟨key,.row T xs cap⟩)
 (hq:os[q]? =some (l.off,aH key xs.length cap)) (hb:l.set b xs=b') (rW:uM os l.off=os') (aW:τ.Flat) (h:bj c E ((L.set j ⟨none,.dead⟩).set i ⟨some p,.bX b' os'⟩) o τ):bj c E L o τ:=
 .via aW (λa W s=>s.kF l (λe=>by rw[e,nZ]at gP;cases gP) ax sU q hq hb rW) h
def bj.ale{o:Oper}{τ:J}{p cap T:Nat}{key:aA Nat}{β γ:Type}[aj β][aj γ]{b b':β}{xs:aa γ}{os os':aa (Nat×bt)}(l:aP β (aa γ))(i j q gh:Nat)(gP:Nat.beq i j=false)(ax:L[i]? =some ⟨some p,.bX b os⟩)(sU:L[j]? =some ⟨key,.row T xs cap⟩)
 (hq:os[q]? =some (l.off,aH key xs.length cap)) (hb:l.set b xs=b') (rW:uM os l.off=os') (qt:look E gh=some (.eq (aH key xs.length cap))) (aW:τ.Flat) (h:bj c ((gh,.of xs)::E) ((L.set j ⟨none,.dead⟩).set i ⟨some p,.bX b' os'⟩) o τ):bj c E L o τ:=
 .via aW (λa W s=>s.Nj l (λe=>by rw[e,nZ]at gP;cases gP) ax sU q hq hb rW qt) h
def bj.aaq{o:Oper}{τ:J}{p:Nat}{β:Type}[aj β]{b:β}(i:Nat)(ax:L[i]? =some ⟨some p,.bX b []⟩)(aW:τ.Flat)(h:bj c E (L.set i ⟨some p,.var b⟩) o τ):bj c E L o τ:=
 .via aW (λa W s=>s.D4 (cp':=.var b) ax (λo ⟨cs,T,h1,ae⟩=>⟨cs,T,h1,ae.1⟩) id) h
def Qi{P:Program}{T:bF}{e:bF}(h:P.underlying T=some (.pointer e))(p:Addr)(W:bq)(n:Nat):(Op.equalIn (n+1) T (.pointer (some p)) (.pointer none)).run P W=.ok false W:=by
 simp[Op.equalIn,ee h]
def MC{p:Addr}{e:bF}(hu:c.P.underlying t=some (.pointer e))(an:aU c E L x (.eq (.pointer (some p)))):bj c E L ⟨d,.binOp .eql t x (.const (.pointer none)) t2,ty,pos,af,g⟩ (.of false):=.pure λa W s=>by
 have aM:a.eval (.const (.pointer none))=.pointer none:=rfl;have h1:a.eval x=.pointer (some p):=an a W s;refine⟨.bool false,?_,of_bool.2 I⟩;simp only[execOp,eqGuard,binOp,h1,aM,Op.equal,Op.maxDepth];simp[Qi hu p W 9999]
def ajN{γ:Type}[aj γ]{r:γ}{e:bF}(hu:c.P.underlying t=some (.pointer e))(an:aU c E L x (.ptr r)):bj c E L ⟨d,.binOp .eql t x (.const (.pointer none)) t2,ty,pos,af,g⟩ (.of false):=.pure λa W s=>by
 have aM:a.eval (.const (.pointer none))=.pointer none:=rfl;obtain⟨b,off,cur,T,jl,h1,_⟩:=an a W s;refine⟨.bool false,?_,of_bool.2 I⟩;simp only[execOp,eqGuard,binOp,h1,aM,Op.equal,Op.maxDepth];simp[Qi hu _ W 9999]
def fB(c:cC)(E:aa (Nat×J))(L:aa aI)(o:Oper)(τ:J):Prop:=
 ∀a W,bP c E L a W->h0 c.P o a W λv W'=>bP c E L a W'∧τ.holds (ks L++c.b3) W' v
def ad.ir{o:Oper}{rest:aa Oper}{d:Nat}{τ:J}(h:fB c E L o τ)(bH:o.guard=none)(hd:o.dst=some d)(aM:Nat.blt d c.n=true)
 (k:ad c ops Q rest ((d,τ)::E) L):ad c ops Q (o::rest) E L:=λa W s=>
 iO bH (h a W s) λv W' ⟨f,ba⟩=>by
  rw[hd];exact k _ _ (f.put (by simpa using aM) ba)
def ad.atJ{o:Oper}{rest:aa Oper}{d j g:Nat}{b want:Bool}{τ:J}(h:b=want->fB c E L o τ)(bH:o.guard=some (j,want))(aC:(ops[j]?).bind (·.dst)=some g)
 (ao:look E g=some (.of b)) (hd:o.dst=some d) (aM:Nat.blt d c.n=true)
 (k:ad c ops Q rest ((d,.cond (b=want) τ)::E) L):ad c ops Q (o::rest) E L:=λa W s=>by
 have hy:=LZ aC ao s
 unfold cC.tG wpListIn
 by_cases hb:b=want
 ·rw[bk (by simp[Region.wanted,bH,hy,hb])]
  refine((h hb a W s).wpIn λv W' ⟨f,ba⟩=>?_)
  rw[hd]
  exact k _ _ (f.put (by simpa using aM) ⟨λ_=>ba,λh=>absurd hb h⟩)
 rw[bf (by simp[Region.wanted,bH,hy,hb])]
 rw[hd]
 exact⟨λ_ _=>trivial,k _ _ (s.put (by simpa using aM) ⟨λh=>absurd h hb,λ_=>rfl⟩)⟩
def sG(L:aa aI):aa Nat->aa aI->Prop
 |[],[]=>True
 |i::is,e::es=>L[i]? =some e∧sG L is es
 |_,_=>False
def Wx{L:aa aI}{i j:Nat}(h:i≠j):(L.eraseIdx i)[if j<i then j else j-1]? =L[j]? :=by
 rw[U6];by_cases h1:j<i
 ·simp[h1]
 have: ¬(j-1<i):=by omega
 simp only[h1,n0,this];congr 1;omega
def sG.shift{L:aa aI}{i:Nat}:∀{is:aa Nat} {es:aa aI},sG L is es->i∉is->sG (L.eraseIdx i) (is.map λj=>if j<i then j else j-1) es
 |[],[],_,_=>trivial
 | j::is,e::es,⟨h1,ae⟩,aM=>by
   simp only[dW,xG]at aM;exact⟨by rw[Wx aM.1];exact h1,sG.shift ae aM.2⟩
def WD{i:Nat}:∀{is:aa Nat},is.Nodup->i∉is->(is.map λj=>if j<i then j else j-1).Nodup
 |[],_,_=>by simp
 | j::is,h,aM=>by
   simp only[dW,xG]at aM;obtain⟨h1,ae⟩:=pf.1 h;refine pf.2 ⟨λhm=>?_,WD ae aM.2⟩;obtain⟨k,hk,he⟩:=gJ.1 hm;have yN:k≠i:=λe=>aM.2 (e▸hk);have auQ:k≠j:=λe=>h1 (e▸hk);have lj:j≠i:=λe=>aM.1 e.symm;have acK:(if k<i then k else k-1)=(if j<i then j else j-1):=he;split at acK <;> split at acK <;> omega
def sG.perm:∀{is:aa Nat} {es L:aa aI},sG L is es->is.Nodup->∃R,L.Perm (es++R)
 |[],[],L,_,_=>⟨L,Lg _⟩
 | i::is,e::es,L,⟨h1,ae⟩,aM=>by
   obtain⟨nJ,sL⟩:=pf.1 aM;obtain⟨R,iK⟩:=(ae.shift nJ).perm (WD sL nJ);exact⟨R,(xK h1).trans (iK.cons e)⟩
 termination_by is=>is.length
 decreasing_by simp
def fB.call{f:FuncId}{xs:aa ca}{ats:Array bF}{τs:aa J}{Lin:aa aI}{ρ:Unit->J}{Lo:Unit->aa aI}(is:aa Nat)(cj:bL c.P f)(h:bV c.P f τs Lin ρ Lo)
 (an:iF c E L xs τs) (aM:decide is.Nodup=true) (hp:sG L is Lin) (ao:Lo ()=Lin):fB c E L ⟨d,.call ⟨.value (.func f),xs.toArray,ats⟩,ty,pos,af,g⟩ (ρ ()):=λa W s=>by
 obtain⟨R,iK⟩:=hp.perm (vI aM)
 have cH:=s.perm iK
 have mC:=Ai iK
 have Oh:∀k,k∈ks L++c.b3↔k∈ks (Lin++R)++c.b3:=λk=>by
  simp only[cz];rw[mC.mem_iff]
 have cB:gL (ks (Lin++R)++c.b3) W τs (xs.map a.eval):=(an.Zj s).mono (.drop λk hm=>(Oh k).2 hm)
 have a8:=HC (d:=d) (ty:=ty) (pos:=pos) (af:=af) (g:=g) (ats:=ats) cj h cH cB
 unfold h0 at a8⊢
 refine vP (λiw W' ⟨v,h1,bc,ae,az⟩=>⟨v,h1,?_,?_⟩) a8
 ·cases bc;rw[ao]at ae;exact ae.perm iK.symm
 cases bc
 rw[ao]at az
 exact J.mono _ (.drop λk hm=>(Oh k).1 hm) az
def sG.set{L:aa aI}{i j:Nat}{x y ar aK:aI}(gP:i≠j)(au:L[i]? =some ar)(aC:L[j]? =some aK):∃R,L.Perm (ar::aK::R)∧((L.set i x).set j y).Perm (x::y::R):=by
 have auR:sG L [i,j] [ar,aK]:=⟨au,aC,trivial⟩;have hle:∀M:aa aI,∀u v:aI,M[i]? =some u->M[j]? =some v->M.Perm (u::v::(M.eraseIdx i).eraseIdx (if j<i then j else j-1)):=λM u v h1 ae=>
  (xK h1).trans ((xK (by rw[Wx gP];exact ae)).cons u)
 refine⟨_,hle L ar aK au aC,?_⟩;have hP:=(hh.1 au).1;have Cg:=(hh.1 aC).1;have h1:=hle ((L.set i x).set j y) x y (by rw[vG (zQ gP),CM hP]) (by rw[CM (by simpa using Cg)]);have ae:((L.set i x).set j y).eraseIdx i=(L.eraseIdx i).set (if j<i then j else j-1) y:=by
  apply mL;intro k;simp only[U6,pR,pe,List.length_eraseIdx,hP,lY];by_cases hk:k<i <;> by_cases lj:j<i <;> simp only[hk,lj,lY,n0] <;> (repeat' split) <;> first|rfl|omega|skip
 rw[ae,O7]at h1;exact h1
def ad.alg{rest:aa Oper}{bc:Nat}{f:FuncId}{xs:aa ca}{ats:Array bF}{τs:aa J}{ar aK:aI}{δ:Type}{ρ:δ->J}{Lo:δ->aa aI}(lo:δ->aI)(i j:Nat)(cj:bL c.P f)(h:bV c.P f τs [ar,aK] ρ Lo)
 (an:iF c E L xs τs) (gP:Nat.beq i j=false) (au:L[i]? =some ar) (aC:L[j]? =some aK) (jL:∀q,Lo q=[lo q]) (aM:Nat.blt bc c.n=true) (k:∀q,ad c ops Q rest ((bc,ρ q)::E) ((L.set i (lo q)).set j ⟨none,.dead⟩)):
 ad c ops Q (⟨some bc,.call ⟨.value (.func f),xs.toArray,ats⟩,ty,pos,af,none⟩::rest) E L:=λa W s=>by
 have dm:i≠j:=λe=>by rw[e,nZ]at gP;cases gP
 obtain⟨R,iK,_⟩:=sG.set (x:=ar) (y:=aK) dm au aC
 have cH:=s.perm iK
 have mC:=Ai iK
 have Oh:∀k,k∈ks L++c.b3↔k∈ks ([ar,aK]++R)++c.b3:=λk=>by
  simp only[cz];rw[mC.mem_iff];simp[e1]
 have cB:gL (ks ([ar,aK]++R)++c.b3) W τs (xs.map a.eval):=(an.Zj s).mono (.drop λk hm=>(Oh k).2 hm)
 refine iO I (HC (Lin:=[ar,aK]) cj h cH cB) λv W' ⟨q,ae,az⟩=>?_
 refine k q _ _ ?_
 obtain⟨CA,Tn,N4⟩:=sG.set (x:=lo q) (y:=⟨none,.dead⟩) dm au aC
 have asq:(ar::aK::R).Perm (ar::aK::CA):=iK.symm.trans Tn
 have abP:R.Perm CA:=(asq.cons_inv).cons_inv
 rw[jL]at ae az
 have aQ:bP c E (lo q::⟨none,.dead⟩::R) a W':= {ae with
  own:=λe he=>by
   simp only[dW]at he;rcases he with rfl|rfl|he
   ·exact ae.own _ (by simp)
   ·trivial
   exact ae.own _ (by simp[he])}
 have a7:bP c E ((L.set i (lo q)).set j ⟨none,.dead⟩) a W':=aQ.perm (((abP.cons _).cons _).trans N4.symm)
 have bp:(ks ((L.set i (lo q)).set j ⟨none,.dead⟩)).Perm (ks (lo q::R)):=by
  have:=Ai (N4.trans ((abP.symm.cons _).cons _));simpa[ks]using this
 refine a7.put (by simpa using aM) (J.mono _ (.drop λk hm=>?_) az)
 rcases cz.1 hm with hm|hm
 ·exact cz.2 (.inl (bp.mem_iff.1 hm))
 exact cz.2 (.inr hm)
def Tm{L:aa aI}{i:Nat}{x e:aI}(h:L[i]? =some x):(L.set i e)[i]? =some e:=by
 rw[CM (hh.1 h).1]
def acx{L:aa aI}{i j:Nat}{r:aA aI}{e:aI}(aM:Nat.beq j i=false)(h:L[i]? =r):(L.set j e)[i]? =r:=by
 rw[vG (λe=>by rw[e,nZ]at aM;cases aM)];exact h
def aiV{p lo cap:Nat}{α:Type}[aj α](hy:aU c E L y (.eq (jd (some p) lo 0 cap (aj.size α)))):Src c E L y 0 ([]:aa α):=λa W s=>by
 have h1:a.eval y=_:=hy a W s;have ak:=CT (P:=c.P) W (if cap=lo then(⟨p,0,none⟩:Addr)else⟨p,lo*aj.size α,none⟩) [] (λj v ba=>by simp at ba);refine⟨by rw[h1];rfl,[],?_,⟨by simp,λi au=>by simp at au⟩,by simp⟩;rw[h1];simp only[jd,Builtin.firstCells,List.length_nil,zG];exact ak
def ad.aaL{rest:aa Oper}{i e p bc m N cap T:Nat}{α:Type}[aj α]{xs vs r:aa α}(hu:c.P.underlying t=some (.slice e))(eM:bS c.P e α)
 (an:aU c E L x (.eq (aH (some p) m cap))) (hy:Src c E L y N vs) (kc:vs.length=N) (ax:L[i]? =some ⟨some p,.row T xs cap⟩) (hm:m+N<=xs.length) (aE:xs.take m++vs++xs.drop (m+N)=r) (aM:Nat.blt bc c.n=true)
 (k:ad c ops Q rest ((bc,.eq (aH (some p) (m+N) cap))::E) (L.set i ⟨some p,.row T r cap⟩)):
 ad c ops Q (⟨some bc,.call ⟨.builtin .append,#[x,y],#[t,t]⟩,ty,pos,af,none⟩::rest) E L:=λa W s=>by
 subst kc
 subst aE
 have h1:a.eval x=_:=an a W s
 obtain⟨ao,cells,ak,o2,ET⟩:=hy a W s
 obtain⟨o,a8,cB⟩:=s.own _ (e6 ax)
 have asr:=cB
 obtain⟨vt,rfl,g1,g2,g3,g4⟩:=cB
 obtain⟨cs,fg,NM,rN⟩:=QJ (lo:=m) hm asr o2
 have tI:cs=vt:=by injection fg with h _;exact h.symm
 subst tI
 obtain⟨gH,eo,dR⟩:=eM.info
 have cv:=F6 (P:=c.P) p (m*aj.size α) T cells 0 cs W a8 NM ET
 simp only[Nat.add_zero]at cv
 have aox:m+vs.length<=cap:=by omega
 have j7:(execOp a.eval ⟨some bc,.call ⟨.builtin .append,#[x,y],#[t,t]⟩,ty,pos,af,none⟩).run c.P W=.ok (.value (aH (some p) (m+vs.length) cap)) (W.setRow p (cs.toList.take (m*aj.size α)++cells++cs.toList.drop (m*aj.size α+cells.length)).toArray):=by
  simp[execOp,resolve,invoke,builtin,Builtin.append_,h1,aH,ee hu,ao,Go.sizeOf,typeInfo,eo,dR,aox,ak,kg,cv]
 refine iO I (R:=λv ix=>v=aH (some p) (m+vs.length) cap∧ix=W.setRow p (cs.toList.take (m*aj.size α)++cells++cs.toList.drop (m*aj.size α+cells.length)).toArray) (.mV j7 ⟨rfl,rfl⟩) λv ix ⟨ba,hw⟩=>?_
 subst ba
 subst hw
 exact k _ _ ((s.store ax a8 rN).put (by simpa using aM) I)
def aiJ{i T cap:Nat}{key:aA Nat}{α:Type}[aj α]{xs:aa α}{e:bF}{lo au Uw:ca}{m n k:Nat}(hu:c.P.underlying t=some (.slice e))(eM:bS c.P e α)(an:aU c E L x (.eq (aH key xs.length cap)))
 (ax:L[i]? =some ⟨key,.row T xs cap⟩) (jL:aU c E L lo (.of (m:Int))) (gQ:aU c E L au (.of (n:Int))) (ass:aU c E L Uw (.of (k:Int))) (h:m<=n∧n<=k∧k<=xs.length):
 bj c E L ⟨d,.slice t x (some lo) (some au) (some Uw),ty,pos,af,g⟩ .any:=.pure λa W s=>by
 obtain⟨ae,az,aQ⟩:=h
 obtain⟨gH,eo,dR⟩:=eM.info
 have h1:a.eval x=_:=an a W s
 have ar:=of_int.1 (jL a W s)
 have aK:=of_int.1 (gQ a W s)
 have cr:=of_int.1 (ass a W s)
 have yi:∃atP r3,aH key xs.length cap=.slice atP r3 cap∨(aH key xs.length cap=.slice none 0 0∧k=0):=by
  cases key with
  |some p=>exact⟨_,_,.inl I⟩
  | none=>
    have a8:=s.own _ (e6 ax)
    have pJ:xs=[]:=a8.1
    subst pJ
    exact⟨none,0,.inr ⟨rfl,by simpa using aQ⟩⟩
 have ast:xs.length<=cap∨key=none:=by
  cases key with
  |none=>exact .inr I
  | some p=>
    obtain⟨o,a8,cs,rfl,g1,g2,_⟩:=s.own _ (e6 ax)
    exact .inl g2
 cases key with
 | none=>
   have a8:=s.own _ (e6 ax)
   have pJ:xs=[]:=a8.1
   subst pJ
   have asu:k=0:=by simpa using aQ
   subst asu
   have vp:n=0:=by omega
   subst vp
   have h3:m=0:=by omega
   subst h3
   have hb:∀(code:BoundsCode),(Instr.sliceBound (.int .i64 0) 0 code).run c.P W=.ok 0 W:=λcode=>si (n:=0) (m:=0) (jF _) I
   have TD:a.eval lo=.int .i64 0:=ar
   have TE:a.eval au=.int .i64 0:=aK
   have asv:a.eval Uw=.int .i64 0:=cr
   refine⟨.slice none 0 0,?_,trivial⟩
   simp[execOp,Instr.sliceAt,Instr.slice,Instr.sliceBounds,h1,aH,ee hu,Go.sizeOf,typeInfo,eo,TD,TE,asv,hb]
 | some p=>
   have aqF:k<=cap:=by
    rcases ast with h|h
    ·omega
    cases h
   refine⟨.slice (some (if k=m then⟨p,0,none⟩else⟨p,m*aj.size α,none⟩)) (n-m) (k-m),?_,trivial⟩
   have hb:∀(a b:Nat) (code:BoundsCode),a<=b->(Instr.sliceBound (.int .i64 (a:Int)) b code).run c.P W=.ok a W:=λa b code h=>si h I
   simp[execOp,Instr.sliceAt,Instr.slice,Instr.sliceBounds,h1,aH,ee hu,Go.sizeOf,typeInfo,eo,dR,ar,aK,cr,hb k cap _ aqF,hb n k _ az,hb m n _ ae,kg]
   split <;> rfl
def ak8{p n cap e:Nat}(hu:c.P.underlying t=some (.slice e))(an:aU c E L x (.eq (aH (some p) n cap))):bj c E L ⟨d,.call ⟨.builtin .len,#[x],#[t]⟩,ty,pos,af,g⟩ (.of (n:Int)):=.pure λa W s=>by
 have h1:a.eval x=_:=an a W s;refine⟨.int .i64 n,?_,of_int.2 I⟩;simp[execOp,resolve,invoke,builtin,Builtin.len_,h1,aH,ee hu,goInt]
def ad.ak7{rest:aa Oper}{i e p bc m n cap T:Nat}{α:Type}[aj α]{xs:aa α}(hu:c.P.underlying t=some (.slice e))(eM:bS c.P e α)
 (an:aU c E L x (.eq (jd (some p) 0 (m-0) cap (aj.size α)))) (hy:aU c E L y (.eq (jd (some p) n (xs.length-n) cap (aj.size α)))) (ax:L[i]? =some ⟨some p,.row T xs cap⟩) (wT:m<n) (aM:n<=xs.length) (hd:Nat.blt bc c.n=true)
 (k:ad c ops Q rest ((bc,.eq (aH (some p) (m+(xs.length-n)) cap))::E) (L.set i ⟨some p,.row T (xs.take m++xs.drop n++xs.drop (m+(xs.length-n))) cap⟩)):
 ad c ops Q (⟨some bc,.call ⟨.builtin .append,#[x,y],#[t,t]⟩,ty,pos,af,none⟩::rest) E L:=by
 have ni:aU c E L x (.eq (aH (some p) m cap)):=by
  rw[DN,Nat.sub_zero]at an;exact an
 rcases uz n xs.length with vr|vr
 ·have hs:=Mn (k:=xs.length-n) hy ax (by omega) (by omega)
  rw[show(xs.drop n).take (xs.length-n)=xs.drop n by rw[s6 (by simp)]]at hs
  exact ad.aaL hu eM ni hs (by simp) ax (by omega) I hd k
 have bJ:xs.length-n=0:=by omega
 rw[bJ]at hy k
 have hs:=aiV (α:=α) hy
 rw[show([]:aa α)=xs.drop n by rw[FK vr]]at hs
 exact ad.aaL hu eM ni hs (by simp;omega) ax (by omega) I hd k
def aq.again{z:Exit}{key:aA Nat}{cp:eL}(cp':eL)(i:Nat)(ax:L[i]? =some ⟨key,cp⟩)(h:∀A W o,cp.holds A W o->cp'.holds A W o)(aM:cp.pC->cp'.pC)(k:aq c Q z E (L.set i ⟨key,cp'⟩)):aq c Q z E L:=λa W s=>
 k a W (s.again ax h aM)
end
def IZ{α:Type}(xs:aa α)(i j:Int):aA (aa α):=if 0<=i∧i<=j∧j<=xs.length then some (xs.take i.toNat++xs.drop j.toNat)else none
def ahR{α:Type}{xs r:aa α}{i j:Int}(h:IZ xs i j=some r):∃m n:Nat,i=m∧j=n∧m<=n∧n<=xs.length∧r=xs.take m++xs.drop n:=by
 unfold IZ at h;split at h
 ·rename_i ak;refine⟨i.toNat,j.toNat,by omega,by omega,by omega,by omega,?_⟩;cases h;rfl
 cases h
abbrev ah(α:Type):=(α->Prop)->Prop
def ah.of{α:Type}(o:aA α):ah α:=λQ=> ∃r,o=some r∧Q r
def ah.bind{α β:Type}(m:ah α)(k:α->ah β):ah β:=λQ=>m λr=>k r Q
def ah.ret{α:Type}(x:α):ah α:=λQ=>Q x
def n4{σ ε:Type}:Nat->(σ->ah (σ⊕ε))->σ->ah ε
 |0,_,_=>λ_=>False
 | n+1,b,s=>λQ=>b s λr=>match r with
   | .inl cH=>n4 n b cH Q
   | .inr e=>Q e
abbrev aL(bM:Type):=aa (Nat×bM)
abbrev Ref:=aA Nat
instance:aj Ref:=.scalar (λx=>Value.pointer (x.map λp=>⟨p,0,none⟩)) λ_=>rfl
def x2{A W v}{x:Ref}:(J.of x).holds A W v↔v=.pointer (x.map λp=>⟨p,0,none⟩):=
 ⟨λh=>oJ h.1 h.2,λh=>by subst h;exact⟨rfl,rfl⟩⟩
instance:a1 Ref:=⟨[.pointer none],λ_ _=>rfl⟩
def ah.mk{bM:Type}(hp:aL bM)(k:bM):ah (Nat×aL bM):=λQ=> ∀a:Nat×aL bM,a.1∉hp.map (·.1)∧a.2=(a.1,k)::hp->Q a
def ah.p1{bM α:Type}{hp:aL bM}{c:bM}{k:Nat×aL bM->ah α}{R:α->Prop}(h:ah.bind (ah.mk hp c) k R)(a:Nat×aL bM)(aY:a.1∉hp.map (·.1)∧a.2=(a.1,c)::hp):k a R:=h a aY
class dZ (bM:Type)where
 gd:Nat->bM->aa aI
 root:∀p k,∃e∈gd p k,e.key=some p
def aX{bM:Type}[dZ bM]:aL bM->aa aI
 |[]=>[]
 |(p,k)::r=>dZ.gd p k++aX r
def pat{bM:Type}:aL bM->Nat->aA bM
 |[],_=>none
 |(q,k)::r,p=>if q=p then some k else pat r p
def cF{bM:Type}:aL bM->Nat->bM->aL bM
 |[],_,_=>[]
 |(q,k)::r,p,k'=>if q=p then(q,k')::r else(q,k)::cF r p k'
def da{bM:Type}(hp:aL bM):aa Nat:=hp.map (·.1)
def vX{bM:Type}[dZ bM]:∀{hp:aL bM} {p:Nat} {k:bM},pat hp p=some k->∃R,(aX hp).Perm (dZ.gd p k++R)∧∀k',(aX (cF hp p k')).Perm (dZ.gd p k'++R)
 |[],_,_,h=>by simp[pat]at h
 | (q,xf)::r,p,k,h=>by
   simp only[pat]at h;split at h
   ·rename_i e;subst e;simp only[gy]at h;subst h;exact⟨aX r,.refl _,λk'=>by simp only[cF,bk];exact .refl _⟩
   rename_i e;obtain⟨R,h1,ae⟩:=vX h;refine⟨dZ.gd q xf++R,?_,λk'=>?_⟩
   ·exact(h1.append_left (dZ.gd q xf)).trans (by rw[<-jE,<-jE];exact oF.append_right R)
   simp only[cF,bf e];exact((ae k').append_left (dZ.gd q xf)).trans (by rw[<-jE,<-jE];exact oF.append_right R)
def Zk{bM:Type}[dZ bM]{hp:aL bM}{p:Nat}(h:p∈da hp):p∈ks (aX hp):=by
 induction hp with
 |nil=>simp[da]at h
 | cons x r b6=>
   obtain⟨q,k⟩:=x
   simp only[da,oH,dW]at h
   simp only[aX,e1,cz]
   rcases h with h|h
   ·subst h
    obtain⟨e,he,hk⟩:=dZ.root p k
    exact .inl (sq.2 ⟨e,he,hk⟩)
   exact .inr (b6 h)
def js{bM:Type}{hp:aL bM}{p:Nat}{k:bM}(h:pat hp p=some k):p∈da hp:=by
 induction hp with
 |nil=>simp[pat]at h
 | cons x r b6=>
   simp only[pat]at h
   split at h
   ·rename_i e;simp[da,e]
   simp only[da,oH,dW];exact .inr (b6 h)
def qN{bM:Type}{hp:aL bM}{p:Nat}{k:bM}:da (cF hp p k)=da hp:=by
 induction hp with
 |nil=>rfl
 |cons x r b6=>simp only[cF];split <;> simp_all [da]
def HS{bM:Type}{hp:aL bM}{p q:Nat}{k:bM}:pat (cF hp p k) q=if p=q then(pat hp p).map (λ_=>k)else pat hp q:=by
 induction hp with
 |nil=>simp[cF,pat]
 | cons x r b6=>
   simp only[cF]
   by_cases e:x.1=p
   ·rw[bk e]
    by_cases h:p=q
    ·simp[pat,e,h]
    have: ¬x.1=q:=λc8=>h (e▸c8)
    simp[pat,e,h]
   rw[bf e]
   by_cases h:p=q
   ·subst h
    rw[bk I]at b6⊢
    simp[pat,e,b6]
   rw[bf h]at b6⊢
   simp[pat,b6]
section
variable{c:cC}{E:aa (Nat×J)}{L:aa aI}{ops:Array Oper}{Q:Exit->Act->bq->Prop}
variable{d:aA Tmp}{ty:bF}{pos:String}{af:Array Edge}{g:aA (Nat×Bool)}{x y:ca}{t t2:bF}
def aiW{L L':aa aI}(p:L.Perm L'){A:aa Nat}(k:Nat):k∈ks L++A↔k∈ks L'++A:=by
 simp only[cz];rw[(Ai p).mem_iff]
def po{L L':aa aI}(p:L.Perm L'){A:aa Nat}{W:bq}:Ext (ks L++A) W (ks L'++A) W:=.drop λk hm=>(aiW p k).2 hm
def aU.perm{L':aa aI}{x:ca}{τ:J}(p:L.Perm L')(h:aU c E L x τ):aU c E L' x τ:=λa W s=>
 τ.mono (po p) (h a W (s.perm p.symm))
def ad.perm{l:aa Oper}{L':aa aI}(p:L.Perm L')(h:ad c ops Q l E L):ad c ops Q l E L':=λa W s=>h a W (s.perm p.symm)
def j4{x:ca}{r:Ref}{p:Nat}(an:aU c E L x (.of r))(h:r=some p):aU c E L x (.eq (.pointer (some ⟨p,0,none⟩))):=λa W s=>by
 subst h;exact x2.1 (an a W s)
def oI:aU c E L (.const (.pointer none)) (.of (none:Ref)):=λa W s=>x2.2 I
variable{bM:Type}[dZ bM]{hp:aL bM}{loc:aa aI}
def jv{p n:Nat}{k:bM}{e:aI}(ax:L.drop n=aX hp)(h:pat hp p=some k)(hk:dZ.gd p k=[e]):e∈L:=by
 obtain⟨R,h1,_⟩:=vX h;rw[hk]at h1;have:e∈L.drop n:=by rw[ax];exact h1.mem_iff.2 (by simp)
 exact CQ this
def pD{L':aa aI}{e:aI}(ax:∀(i:Nat) (e:aI),L[i]? =some e->L'[i]? =some e)(h:e∈L):e∈L':=by
 obtain⟨i,au⟩:=oE.1 h;exact e6 (ax i e au)
def pq{x:ca}{t:bF}{p o:Nat}{β γ:Type}[aj β][aj γ]{b:β}(l:aP β γ){r:γ}(dP:bS c.P t γ)(an:aU c E L x (.eq (.pointer (some ⟨p,o,none⟩))))
 (hm:(⟨some p,.var b⟩:aI)∈L) (a8:o=l.off) (aE:l.get b=r):bj c E L ⟨d,.load t x,ty,pos,af,g⟩ (.of r):=by
 obtain⟨i,au⟩:=oE.1 hm
 exact gz (i:=i) l dP an au a8 aE
def ad.akt{x y:ca}{t:bF}{rest:aa Oper}{p o:Nat}{k k':bM}{β γ:Type}[aj β][aj γ]{b b':β}{v:γ}(l:aP β γ)(dP:bS c.P t γ)(an:aU c E (loc++aX hp) x (.eq (.pointer (some ⟨p,o,none⟩))))
 (hy:aU c E (loc++aX hp) y (.of v)) (hp':pat hp p=some k) (hk:dZ.gd p k=[⟨some p,.var b⟩]) (lg:dZ.gd p k'=[⟨some p,.var b'⟩]) (a8:o=l.off) (hb:l.set b v=b')
 (nm:ad c ops Q rest E (loc++aX (cF hp p k'))):ad c ops Q (⟨none,.store t x y,ty,pos,af,none⟩::rest) E (loc++aX hp):=by
 obtain⟨R,h1,ae⟩:=vX hp'
 have ae:=ae k'
 rw[hk]at h1
 rw[lg]at ae
 have cJ:∀{z:β} {M:aa aI},M.Perm ([⟨some p,.var z⟩]++R)->(loc++M).Perm (⟨some p,.var z⟩::(loc++R)):=λh=>(h.append_left loc).trans (by simp only[List.singleton_append];exact sc)
 exact ad.perm (cJ h1).symm (ad.store (i:=0) l dP (an.perm (cJ h1)) (hy.perm (cJ h1)) I a8 hb (ad.perm (cJ ae) nm))
def ad.p7{x y:ca}{t:bF}{rest:aa Oper}{p o:Nat}{k k':bM}{cQ:aL bM}{β γ:Type}[aj β][aj γ]{b b':β}{v:γ}(n:Nat)(ax:L.drop n=aX hp)(l:aP β γ)(dP:bS c.P t γ)(an:aU c E L x (.eq (.pointer (some ⟨p,o,none⟩))))(hy:aU c E L y (.of v))(hp':pat hp p=some k)(hk:dZ.gd p k=[⟨some p,.var b⟩])(lg:dZ.gd p k'=[⟨some p,.var b'⟩])(a8:o=l.off)(hb:l.set b v=b')(b2:cF hp p k'=cQ)(nm:ad c ops Q rest E (L.take n++aX cQ)):ad c ops Q (⟨none,.store t x y,ty,pos,af,none⟩::rest) E L:=by
 subst b2;have e:L=L.take n++aX hp:=by rw[<-ax,gp]
 clear ax;generalize L.take n=loc at *;subst e;exact ad.akt l dP an hy hp' hk lg a8 hb nm
def bP.fresh{a:Act}{W:bq}(s:bP c E (loc++aX hp) a W):W.heap.size∉da hp:=λh=>by
 have:=s.lt _ (by rw[e1];exact cz.2 (.inr (Zk h)));omega
def ad.aoy{t:bF}{x:ca}{rest:aa Oper}{bc:Nat}{α:Type}[aj α]{z:α}(mk:bM)(hk:∀p,dZ.gd p mk=[⟨some p,.var z⟩])(an:aU c E (loc++aX hp) x (.of z))(aM:Nat.blt bc c.n=true)
 (k:∀p,p∉da hp->ad c ops Q rest ((bc,.of (some p:Ref))::E) (loc++aX ((p,mk)::hp))):ad c ops Q (⟨some bc,.box t x,ty,pos,af,none⟩::rest) E (loc++aX hp):=λa W s=>by
 refine iO I (R:=λv W'=>v=.pointer (some ⟨W.heap.size,0,none⟩)∧W'=W.alloc (.cells (a.eval x).cells t)) (.mV ?_ ⟨rfl,rfl⟩) λv W' ⟨ba,hw⟩=>?_
 ·simp[execOp,Instr.box,newVar,newRow]
 subst ba
 subst hw
 refine k _ s.fresh _ _ (bP.put ?_ (by simpa using aM) (x2.2 I))
 refine(s.alloc (cp:=.var z) ⟨_,t,rfl,(an a W s).2⟩).perm ?_
 simp only[aX,hk,List.singleton_append]
 exact sc.symm
def ad.yg{t:bF}{x:ca}{rest:aa Oper}{bc:Nat}{α:Type}[aj α]{z:α}(n:Nat)(ax:L.drop n=aX hp)(mk:bM)(hk:∀p,dZ.gd p mk=[⟨some p,.var z⟩])(an:aU c E L x (.of z))(aM:Nat.blt bc c.n=true)(k:∀a:Nat×aL bM,a.1∉hp.map (·.1)∧a.2=(a.1,mk)::hp->ad c ops Q rest ((bc,.of (some a.1:Ref))::E) (L.take n++aX a.2)):ad c ops Q (⟨some bc,.box t x,ty,pos,af,none⟩::rest) E L:=by
 have e:L=L.take n++aX hp:=by rw[<-ax,gp]
 clear ax;generalize L.take n=loc at *;subst e;exact ad.aoy mk hk an aM λp h=>k (p,(p,mk)::hp) ⟨h,rfl⟩
def mR{A B C:aa aI}:((A++B)++C).Perm ((A++C)++B):=by
 rw[jE,jE];exact oF.append_left A
def ad.jH{rest:aa Oper}{bc:Nat}{f:FuncId}{xs:aa ca}{ats:Array bF}{τs:aa J}{Lin Lr:aa aI}{δ:Type}{ρ:δ->J}{Lo:δ->aa aI}{hq:δ->aL bM}(cj:bL c.P f)(h:bV c.P f τs (Lin++aX hp) ρ (λd=>Lo d++aX (hq d)))
 (an:iF c E ((Lin++Lr)++aX hp) xs τs) (aM:Nat.blt bc c.n=true) (k:∀q,ad c ops Q rest ((bc,ρ q)::E) ((Lo q++Lr)++aX (hq q))):
 ad c ops Q (⟨some bc,.call ⟨.value (.func f),xs.toArray,ats⟩,ty,pos,af,none⟩::rest) E ((Lin++Lr)++aX hp):=λa W s=>
 iO I (HC (Lr:=Lr) cj h (s.perm mR) ((an.holds a W s).mono (po mR))) λv W' ⟨q,cH,ba⟩=>
  k q _ _ ((cH.perm mR).put (by simpa using aM) ((ρ q).mono (po mR) ba))
def ad.dX{rest:aa Oper}{bc:Nat}{f:FuncId}{xs:aa ca}{ats:Array bF}{τs:aa J}{Lin Lr:aa aI}{δ:Type}{ρ:δ->J}{Lo:δ->aa aI}{hq:δ->aL bM}(n m:Nat)(ax:L.drop n=aX hp)(cj:bL c.P f)(h:bV c.P f τs (Lin++aX hp) ρ (λd=>Lo d++aX (hq d)))
 (h1:(L.take n).take m=Lin) (ae:(L.take n).drop m=Lr) (an:iF c E L xs τs) (aM:Nat.blt bc c.n=true) (k:∀q,ad c ops Q rest ((bc,ρ q)::E) ((Lo q++Lr)++aX (hq q))):
 ad c ops Q (⟨some bc,.call ⟨.value (.func f),xs.toArray,ats⟩,ty,pos,af,none⟩::rest) E L:=by
 have e:L=(Lin++Lr)++aX hp:=by rw[<-h1,<-ae,gp,<-ax,gp]
 clear ax h1 ae
 subst e
 exact ad.jH cj h an aM k
def fB.alu{f:FuncId}{xs:aa ca}{ats:Array bF}{τs:aa J}{ρ:J}(cj:bL c.P f)(h:bV c.P f τs (aX hp) (λ_:Unit=>ρ) (λ_=>aX hp))
 (an:iF c E (loc++aX hp) xs τs):fB c E (loc++aX hp) ⟨d,.call ⟨.value (.func f),xs.toArray,ats⟩,ty,pos,af,g⟩ ρ:=λa W s=>by
 have cJ:(loc++aX hp).Perm (aX hp++loc):=oF
 have a8:=HC (d:=d) (ty:=ty) (pos:=pos) (af:=af) (g:=g) (ats:=ats) (Lr:=loc) cj h (s.perm cJ) ((an.holds a W s).mono (po cJ))
 unfold h0 at a8⊢
 exact vP (λiw W' ⟨v,h1,_,ae,az⟩=>⟨v,h1,ae.perm cJ.symm,ρ.mono (po cJ.symm) az⟩) a8
def fB.jH{f:FuncId}{xs:aa ca}{ats:Array bF}{τs:aa J}{ρ:J}(n:Nat)(ax:L.drop n=aX hp)(cj:bL c.P f)(h:bV c.P f τs (aX hp) (λ_:Unit=>ρ) (λ_=>aX hp))(an:iF c E L xs τs):fB c E L ⟨d,.call ⟨.value (.func f),xs.toArray,ats⟩,ty,pos,af,g⟩ ρ:=by
 have e:L=L.take n++aX hp:=by rw[<-ax,gp]
 clear ax;generalize L.take n=loc at *;subst e;exact fB.alu cj h an
def P8{P:Program}{e:bF}(W:bq)(n:Nat){t:bF}(a:aA Addr)(h:P.underlying t=some (.pointer e)):(Op.equalIn (n+1) t (.pointer a) (.pointer none)).run P W=.ok a.isNone W:=by
 cases a <;> simp[Op.equalIn,ee h]
def HK{r:Ref}{e:bF}(hu:c.P.underlying t=some (.pointer e))(an:aU c E L x (.of r)):bj c E L ⟨d,.binOp .eql t x (.const (.pointer none)) t2,ty,pos,af,g⟩ (.of r.isNone):=.pure λa W s=>by
 have h1:=x2.1 (an a W s);refine⟨.bool r.isNone,?_,of_bool.2 I⟩;have aM:a.eval (.const (.pointer none))=.pointer none:=rfl;simp only[execOp,eqGuard,binOp,h1,aM,Op.equal,Op.maxDepth];have:=P8 (P:=c.P) W 9999 (r.map λp=>⟨p,0,none⟩) hu;simp only[Option.isNone_map]at this;simp[this]
def aia{r:Ref}{e:bF}(hu:c.P.underlying t=some (.pointer e))(an:aU c E L x (.of r)):bj c E L ⟨d,.binOp .neq t x (.const (.pointer none)) t2,ty,pos,af,g⟩ (.of r.isSome):=.pure λa W s=>by
 have h1:=x2.1 (an a W s);refine⟨.bool r.isSome,?_,of_bool.2 I⟩;have aM:a.eval (.const (.pointer none))=.pointer none:=rfl;simp only[execOp,eqGuard,binOp,h1,aM,Op.equal,Op.maxDepth];have:=P8 (P:=c.P) W 9999 (r.map λp=>⟨p,0,none⟩) hu;simp only[Option.isNone_map]at this;simp[this]
end
def ahl{P:Program}{t e el:bF}{n:Nat}(h:P.underlying t=some (.array n e))(eM:bS P e Ref)(hu:P.underlying e=some (.pointer el)){A:aa Nat}{W:bq}{u v:bt}{x y:Vector Ref n}(an:(J.of x).holds A W u)(hy:(J.of y).holds A W v)
 (aM:∀i,i<n->ck y i=none) (d:Nat) (hd:2<=d):(Op.equalIn d t u v).run P W=.ok (decide (x=y)) W:=by
 obtain⟨d,rfl⟩:∃e,d=e+1:=⟨d-1,by omega⟩
 obtain⟨h1,ae⟩:=an
 obtain⟨az,aQ⟩:=hy
 obtain⟨xs,rfl⟩:∃cs,u=.agg cs:=by simpa[shaped,aj.agg]using h1
 obtain⟨ys,rfl⟩:∃cs,v=.agg cs:=by simpa[shaped,aj.agg]using az
 simp only[Value.cells]at ae aQ
 have wX:xs.toList.length=n*aj.size Ref:=aj.len ae
 have Jq:ys.toList.length=n*aj.size Ref:=aj.len aQ
 have BD:∀i∈List.range' 0 n,((do
  let a <-part e xs (i*aj.size Ref)
  let b <-part e ys (i*aj.size Ref)
  Op.equalIn d e a b):Sem Bool).run P W=.ok (decide (ck x i=ck y i)) W:=by
  intro i au
  have hP:i<n:=by simpa using au
  have fQ:i*aj.size Ref+aj.size Ref<=n*aj.size Ref:=(aP.idx (α:=Ref) n i hP).ha
  obtain⟨a,aY,wY⟩:=uH (A:=A) (P:=P) (W:=W) (cs:=xs) (off:=i*aj.size Ref) eM (by simp at wX;omega) ((aP.idx (α:=Ref) n i hP).jT ae)
  obtain⟨b,hb,Jr⟩:=uH (A:=A) (P:=P) (W:=W) (cs:=ys) (off:=i*aj.size Ref) eM (by simp at Jq;omega) ((aP.idx (α:=Ref) n i hP).jT aQ)
  simp only[dU,aY,hb,Result.andThen_ok]
  obtain⟨d,rfl⟩:∃e,d=e+1:=⟨d-1,by omega⟩
  have ar:=x2.1 wY
  have aK:=x2.1 Jr
  subst ar;subst aK
  have EW:(aP.idx (α:=Ref) n i hP).get y=none:=aM i hP
  rw[EW,Option.map_none,P8 W d _ hu]
  have cr:ck y i=none:=aM i hP
  rw[cr]
  show Result.ok ((ck x i).map _).isNone W=_
  congr 1
  cases ck x i <;> rfl
 have aW:=P7 (P:=P) (W:=W) _ _ _ BD
 have qi:(List.range' 0 n).all (λi=>decide (ck x i=ck y i))=decide (x=y):=by
  rw[oG,ns,fk];constructor
  ·intro h;apply Vector.ext;intro i au;have:=h i (by simpa using au);simpa[ck,au]using this
  rintro rfl i _;simp
 rw[qi]at aW
 simp only[Op.equalIn,dU,ee h,Result.andThen_ok,eM.sizeOf,ON]
 simp only[Std.Legacy.Range.size,Nat.sub_zero,Nat.add_one_sub_one,P1]at aW⊢
 simp only[bind_assoc]at aW
 rw[aW]
 by_cases Js:x=y
 ·simp[Js]
 simp[Js]
def aiI{c:cC}{E:aa (Nat×J)}{L:aa aI}{d:aA Tmp}{ty:bF}{pos:String}{af:Array Edge}{g:aA (Nat×Bool)}{x y:ca}{t t2 e el:bF}{n:Nat}{a b:Vector Ref n}(h:c.P.underlying t=some (.array n e))(eM:bS c.P e Ref)(hu:c.P.underlying e=some (.pointer el))(bH:c.P.eqGuardType c.P.depth t=false)
 (an:aU c E L x (.of a)) (hy:aU c E L y (.of b)) (aM:∀i,i<n->ck b i=none):bj c E L ⟨d,.binOp .eql t x y t2,ty,pos,af,g⟩ (.of (decide (a=b))):=.pure λA W s=>by
 have h1:=an A W s
 have ae:=hy A W s
 obtain⟨xs,pJ⟩:∃cs,A.eval x=.agg cs:=by simpa[shaped,aj.agg]using h1.1
 obtain⟨ys,yL⟩:∃cs,A.eval y=.agg cs:=by simpa[shaped,aj.agg]using ae.1
 have az:=ahl h eM hu h1 ae aM 10000 (by decide)
 rw[pJ,yL]at az
 refine⟨.bool (decide (a=b)),?_,of_bool.2 I⟩
 simp only[execOp,pJ,yL,dU,PA W .eql t x y xs ys bH,Result.andThen_ok,run_eql_struct,az,Sem.run_pure]
section
variable{c:cC}{E:aa (Nat×J)}{L:aa aI}{ops:Array Oper}{Q:Exit->Act->bq->Prop}
def ah.aku{α β:Type}{o:aA α}{k:α->ah β}{R:β->Prop}(h:ah.bind (ah.of o) k R):∃r,o=some r∧k r R:=h
def ahm{F:Fence}{n:Nat}{P:Program}{body:Code}{σ ε:Type}(b:σ->ah (σ⊕ε))(fC:σ->Act->bq->Prop)(X:ε->Exit->Act->bq->Prop)
 (uV:∀s R,b s R->∀a W,fC s a W->body.wpIn F n P (λx a W=>(∃cH,R (.inl cH)∧x=.normal∧fC cH a W)∨∃e,R (.inr e)∧x≠ .normal∧X e x a W) a W)
 (Q:Exit->Act->bq->Prop) (R:ε->Prop) (p8:∀e x a W,R e->X e x a W->Q x a W) {s0:σ} {N:Nat} (ao:n4 N b s0 R) {a0:Act} {j1:bq} (bJ:fC s0 a0 j1):
 (Code.loop body).wpIn F n P Q a0 j1:=by
 intro dI k cs oZ hb aE
 have key:∀N s,n4 N b s R->∀a W,fC s a W->
  ∃x iw W',Q x iw W'∧ArrivesIn (Machine.fenced P F) P (lone (dI.atR a (.code body::.inLoop body::k)) cs W) dI k cs x iw W':=by
  intro N
  induction N with
  |zero=>intro s h;exact h.elim
  | succ N b6=>
    intro s h a W pN
    obtain⟨x,sF,Eu,hq,oU⟩:=uV s _ h a W pN dI (.inLoop body::k) cs oZ hb aE
    rcases hq with⟨cH,h1,an,To⟩|⟨e,h1,an,nQ⟩
    ·subst an
     obtain⟨S3,S4,S5,St,Q7⟩:=b6 cH h1 sF Eu To
     exact⟨S3,S4,S5,St,.of_steps (PJ oU (.one (Dm hb aE I) stepR_inLoop)) Q7⟩
    exact⟨x,sF,Eu,p8 _ _ _ _ h1 nQ,.pass (x:=.inLoop body) I (λ_ _=>.inl an) oU⟩
 obtain⟨x,iw,W',hq,oU⟩:=key N s0 ao a0 j1 bJ
 exact⟨x,iw,W',hq,.of_steps (.one (Dm hb aE I) stepR_loop) oU⟩
def ff{σ ε γ δ:Type}(c:cC)(E:σ->γ->aa (Nat×J))(L:σ->γ->aa aI)(xs:ε->Exit)(eJ:ε->δ->aa (Nat×J))(Lx:ε->δ->aa aI)(R:σ⊕ε->Prop):Exit->Act->bq->Prop:=λx a W=>
 (∃s,R (.inl s)∧x=.normal∧∃g,bP c (E s g) (L s g) a W)∨∃e,R (.inr e)∧x≠ .normal∧x=xs e∧∃g,bP c (eJ e g) (Lx e g) a W
def aq.xU{σ ε γ δ:Type}{E':σ->γ->aa (Nat×J)}{L':σ->γ->aa aI}{xs:ε->Exit}{eJ:ε->δ->aa (Nat×J)}{Lx:ε->δ->aa aI}{R:σ⊕ε->Prop}{s:σ}(iK:R (.inl s))(g:γ)(n:Nat)
 (ax:L.drop n=L' s g) (h:eZ E (E' s g)):aq c (ff c E' L' xs eJ Lx R) .normal E L:=λa W st=>.inl ⟨s,iK,rfl,g,by rw[<-ax];exact(st.sw n).less h.look⟩
def aq.uQ{σ ε γ δ:Type}{E':σ->γ->aa (Nat×J)}{L':σ->γ->aa aI}{xs:ε->Exit}{eJ:ε->δ->aa (Nat×J)}{Lx:ε->δ->aa aI}{R:σ⊕ε->Prop}{e:ε}{x:Exit}(iK:R (.inr e))(g:δ)(n:Nat)
 (an:x=xs e) (aM:x≠ .normal) (ax:L.drop n=Lx e g) (h:eZ E (eJ e g)):aq c (ff c E' L' xs eJ Lx R) x E L:=λa W st=>.inr ⟨e,iK,aM,an,g,by rw[<-ax];exact(st.sw n).less h.look⟩
def ay.n4{σ ε γ δ:Type}{body:Code}{N:Nat}{b:σ->ah (σ⊕ε)}{s0:σ}{R:ε->Prop}(ao:Gv.n4 N b s0 R)
 (E':σ->γ->aa (Nat×J)) (L':σ->γ->aa aI) (xs:ε->Exit) (eJ:ε->δ->aa (Nat×J)) (Lx:ε->δ->aa aI) (g0:γ) (ax:L=L' s0 g0) (aJ:eZ E (E' s0 g0))
 (tm:∀s R,b s R->∀g,ay c (ff c E' L' xs eJ Lx R) body (E' s g) (L' s g))
 (p8:∀e,R e->∀g,aq c Q (xs e) (eJ e g) (Lx e g)):ay c Q (.loop body) E L:=λa W st=>by
 subst ax
 exact ahm b (λs a W=> ∃g,bP c (E' s g) (L' s g) a W) (λe x a W=>x=xs e∧∃g,bP c (eJ e g) (Lx e g) a W)
  (λs R hs a W ⟨g,pN⟩=>wpIn_mono (tm s R hs g a W pN) (λx a W h=>by
   rcases h with⟨cH,h1,ae,az⟩|⟨e',h1,ae,az,aQ⟩
   ·exact .inl ⟨cH,h1,ae,az⟩
   exact .inr ⟨e',h1,ae,az,aQ⟩)) Q R (λe x a W iK ⟨an,g,hs⟩=>by subst an;exact p8 e iK g a W hs) ao ⟨g0,st.less aJ.look⟩
def YD{α:Type}{b:Bool}{m n:ah α}{R:α->Prop}(hb:b=true)(h:cond b m n R):m R:=by subst hb;exact h
def YE{α:Type}{b:Bool}{m n:ah α}{R:α->Prop}(hb:b=false)(h:cond b m n R):n R:=by subst hb;exact h
def ay.alv{β γ ρ:Type}{k1:ρ->Prop}{x:ca}{b:Bool}{y z:Code}{a6 br:ah β}{k:β->ah ρ}(h:ah.bind (bif b then a6 else br) k k1)(E':β->γ->aa (Nat×J))(L':β->γ->aa aI)(ao:aU c E L x (.of b))
 (ow:∀m g,k m k1->aq c Q .normal (E' m g) (L' m g))
 (bE:(∀m g,k m k1->aq c (ei Q) .normal (E' m g) (L' m g))->b=true->a6 (λm=>k m k1)->ay c (ei Q) y E L) (aW:(∀m g,k m k1->aq c (ei Q) .normal (E' m g) (L' m g))->b=false->br (λm=>k m k1)->ay c (ei Q) z E L):ay c Q (.cond x y z) E L:=
 ay.cond ao (λhb=>bE ow hb (YD hb h)) (λhb=>aW ow hb (YE hb h))
def ay.Za{σ ε γ δ ρ:Type}{body:Code}{N:Nat}{b:σ->ah (σ⊕ε)}{s0:σ}{k:ε->ah ρ}{k1:ρ->Prop}(ao:ah.bind (Gv.n4 N b s0) k k1)
 (E':σ->γ->aa (Nat×J)) (L':σ->γ->aa aI) (xs:ε->Exit) (eJ:ε->δ->aa (Nat×J)) (Lx:ε->δ->aa aI) (g0:γ) (ax:L=L' s0 g0) (aJ:eZ E (E' s0 g0))
 (tm:∀s R,b s R->∀g,ay c (ff c E' L' xs eJ Lx R) body (E' s g) (L' s g))
 (p8:∀e,k e k1->∀g,aq c Q (xs e) (eJ e g) (Lx e g)):ay c Q (.loop body) E L:=
 ay.n4 (R:=λe=>k e k1) ao E' L' xs eJ Lx g0 ax aJ tm p8
def amX{n:Nat}:∀i,i<n->ck (default:Vector Ref n) i=none:=λi au=>by
 have:(default:Vector Ref n)=Vector.replicate n none:=rfl;rw[this];simp[ck,au]
def IX(s:ByteArray)(i:Int):aA (BitVec 8):=(if 0<=i then s[i.toNat]? else none).map λb=>BitVec.ofNat 8 b.toNat
def ajD{d:aA Tmp}{ty:bF}{pos:String}{af:Array Edge}{g:aA (Nat×Bool)}{x y:ca}{t:bF}{s:ByteArray}{i:BitVec 8}{r:BitVec 8}(hu:c.P.underlying t=some .string)(an:aU c E L x (.of s))(hy:aU c E L y (.of i))(aE:IX s (i.toNat:Int)=some r):
 bj c E L ⟨d,.index t x y,ty,pos,af,g⟩ (.of r):=.pure λa W st=>by
 have h1:=MI.1 (an a W st)
 have ae:=Nn.1 (hy a W st)
 unfold IX at aE
 cases hb:(if 0<=(i.toNat:Int)then s[(i.toNat:Int).toNat]? else none)with
 |none=>rw[hb]at aE;cases aE
 | some b=>
   rw[hb]at aE
   simp only[Option.map_some,gy]at aE
   subst aE
   have ch:b.toNat<256:=b.toNat_lt
   refine⟨.int .u8 b.toNat,?_,Nn.2 (by simp[Pj,Gd ch])⟩
   have JK:=hb
   simp only[Vy,lY,Int.toNat_natCast]at JK
   simp[execOp,Instr.index,h1,ae,asIntOf,ee hu,JK]
end
structure eX where
 p:Option Nat
 deriving DecidableEq,Inhabited
instance:aj eX:=.scalar (λx=>Value.map x.p) λ_=>rfl
instance:a1 eX:=⟨[.map none],λ_ _=>rfl⟩
def xP{A W v}{x:eX}:(J.of x).holds A W v↔v=.map x.p:=
 ⟨λh=>oJ h.1 h.2,λh=>by subst h;exact⟨rfl,rfl⟩⟩
def k6{c:cC}{E:aa (Nat×J)}{L:aa aI}{x:ca}{r:eX}{p:Nat}(an:aU c E L x (.of r))(h:r.p=some p):aU c E L x (.of (⟨some p⟩:eX)):=λa W s=>by
 have:=xP.1 (an a W s);rw[h]at this;exact xP.2 this
inductive ma{α β:Type}[aj α][aj β](A:List Nat)(W:World):List MapEntry->List (α×β)->Prop
 |nil:ma A W [] []
 |cons {e k v es r}:(J.of k).holds A W e.key->(J.of v).holds A W e.val->ma A W es r->ma A W (e::es) ((k,v)::r)
def ma.mono{α β:Type}[aj α][aj β]{A W cR W'}(h:Ext A W cR W'):∀{es:aa MapEntry} {kv:aa (α×β)},ma A W es kv->ma cR W' es kv
 |_,_,.nil=>.nil
 |_,_,.cons h1 ae r=>.cons (J.mono _ h h1) (J.mono _ h ae) (r.mono h)
def eL.map{α β:Type}[aj α][aj β](kv:aa (α×β)):eL where
 holds A W o:=∃es clock,o=.map es clock∧ma A W es.toList kv∧(∀x∈es.toList,x.born<clock)∧(es.toList.map MapEntry.born).Nodup
 pC:=False
 mono e h:=let⟨es,clock,h1,ae,az⟩:=h; ⟨es,clock,h1,ae.mono e,az⟩
def dO{α β:Type}[DecidableEq α]:aa (α×β)->α->aA β
 |[],_=>none
 |(k,v)::r,x=>if x=k then some v else dO r x
def gb{α β:Type}[DecidableEq α]:aa (α×β)->α->β->aa (α×β)
 |[],x,y=>[(x,y)]
 |(k,v)::r,x,y=>if x=k then(x,y)::r else(k,v)::gb r x y
def iR{α β:Type}[DecidableEq α]:aa (α×β)->α->aa (α×β)
 |[],_=>[]
 |(k,v)::r,x=>if x=k then r else(k,v)::iR r x
class kd (α:Type) [aj α]:Prop where
 uniq:∀{A W cs cR W' eW} {x:α},aj.rep A W cs x->aj.rep cR W' eW x->cs=eW
 plain:∀{A W cs} {x:α},aj.rep A W cs x->∀v∈cs,∀n,Instr.sameBits n v v=true
instance:kd Int:=⟨λh c8=>h.trans c8.symm,λh v ba n=>by subst h;rw[hi.1 ba];simp[Instr.sameBits]⟩
instance:kd (BitVec 64):=⟨λh c8=>h.trans c8.symm,λh v ba n=>by subst h;rw[hi.1 ba];simp[Instr.sameBits]⟩
instance:kd Bool:=⟨λh c8=>h.trans c8.symm,λh v ba n=>by subst h;rw[hi.1 ba];simp[Instr.sameBits]⟩
instance{α:Type}[aj α][Inhabited α][kd α]{n:Nat}:kd (Vector α n):=⟨λ{A W cs cR W' eW x} h c8=>by
 have hg:cs.length=n*aj.size α:=aj.len h;have gi:eW.length=n*aj.size α:=aj.len c8;have key:∀m,m<=n->cs.take (m*aj.size α)=eW.take (m*aj.size α):=by
  intro m;induction m with
  |zero=>intro _;simp
  | succ m b6=>
    intro hm
    have ES:m<n:=hm
    have ar:=(aP.idx (α:=α) n m ES).jT h
    have aK:=(aP.idx (α:=α) n m ES).jT c8
    have cr:=kd.uniq ar aK
    rw[sf,PH,PH,b6 (by omega)]
    congr 1
 have:=key n (jF _);rwa[<-hg,k4,hg,<-gi,k4]at this,
 λ{A W cs x} h v ba k=>by
  have hg:cs.length=n*aj.size α:=aj.len h;obtain⟨i,au,rfl⟩:=Vp ba;by_cases hs:aj.size α=0
  ·rw[hs,Nat.mul_zero]at hg;omega
  have hq:i/aj.size α<n:=Vk (by rw[hg,se]at au;exact au);have ar:=(aP.idx (α:=α) n (i/aj.size α) hq).jT h;refine kd.plain ar _ ?_ k;have aE:i % aj.size α<aj.size α:=G3 _ (by omega);have hd:=Gm i (aj.size α);refine oE.2 ⟨i % aj.size α,?_⟩;simp only[aP.idx];rw[k3,bk aE,mo,se,hd];exact pa au⟩
def HO{cs eW:aa bt}(o s:Nat)(h:(cs.drop o).take s=(eW.drop o).take s)(k:cs.drop (o+s)=eW.drop (o+s)):cs.drop o=eW.drop o:=by
 rw[<-gp s (cs.drop o),<-gp s (eW.drop o),h,GA,GA,k]
def YF{cs eW:aa bt}{n:Nat}(h:cs.length=n)(c8:eW.length=n)(k:cs.drop 0=eW.drop 0):cs=eW:=by simpa using k
def YG{cs eW:aa bt}{n m:Nat}(h:cs.length=n)(c8:eW.length=n)(k:n<=m):cs.drop m=eW.drop m:=by
 rw[CL (by omega),CL (by omega)]
def ahn{α:Type}[aj α][kd α]{A W cR W' u v}{x:α}(h:(J.of x).holds A W u)(c8:(J.of x).holds cR W' v):u=v:=by
 obtain⟨h1,ae⟩:=h;obtain⟨az,aQ⟩:=c8;have a7:=kd.uniq ae aQ;by_cases aY:aj.agg α=true
 ·simp only[shaped,aY,lY]at h1 az;obtain⟨a,rfl⟩:=h1;obtain⟨b,rfl⟩:=az;simp only[Value.cells]at a7;congr 1;exact Array.toList_inj.1 a7
 simp only[lX]at aY;simp only[shaped,aY,sb,n0]at h1 az;rw[cells_one h1,cells_one az]at a7;simpa using a7
def XW{P:bt->bt->Bool}:∀{cs:aa bt},(∀v∈cs,P v v=true)->((cs.zip cs).all λ(x,y)=>P x y)=true
 |[],_=>rfl
 | a::r,h=>by
   simp only[List.zip_cons_cons,List.all_cons,gq];exact⟨h a (by simp),XW λv ba=>h v (by simp[ba])⟩
def aho{α:Type}[aj α][kd α]{A W u}{x:α}(h:(J.of x).holds A W u)(n:Nat):Instr.sameBits (n+1) u u=true:=by
 obtain⟨h1,ae⟩:=h;by_cases aY:aj.agg α=true
 ·simp only[shaped,aY,lY]at h1;obtain⟨a,rfl⟩:=h1;simp only[Value.cells]at ae;simp only[Instr.sameBits,Ge,vO];exact XW λv ba=>kd.plain ae v ba n
 simp only[lX]at aY;simp only[shaped,aY,sb,n0]at h1;rw[cells_one h1]at ae;exact kd.plain ae u (by simp) _
def aib{α:Type}[aj α][kd α]{P:Program}{A W cR W' u v}{x:α}(h:(J.of x).holds A W u)(c8:(J.of x).holds cR W' v)(j1:bq):(Instr.keyThatStays u v).run P j1=.ok v j1:=by
 have:=ahn h c8;subst this;simp[Instr.keyThatStays,aho h 9999]
def sV(P:Program)(t:bF)(α:Type)[aj α](n:Nat):Prop:=∀b d A W u (x:α),n<=d->(J.of x).holds A W u->(Instr.checkKey b d t u).run P W=.ok () W
def Qx{P:Program}{t:bF}{α:Type}[aj α]{D:TypeDesc}(h:P.underlying t=some D)(hd:(match (motive:=TypeDesc->Bool) D with | .interface _| .array _ _| .struct _=>false|_=>true)=true):sV P t α 1:=by
 intro b d A W u x aM an;obtain⟨d,rfl⟩:∃e,d=e+1:=⟨d-1,by omega⟩;simp only[Instr.checkKey,dU,ee h,Result.andThen_ok];cases D <;> simp at hd <;> rfl
def Wr{P:Program}{W:bq}{Kn:Type}(f:Kn->Sem Unit):∀(l:aa Kn),(∀i∈l,(f i).run P W=.ok () W)->
 (forIn (m:=Sem) l () (λi _=>do f i;pure (ForInStep.yield ()))).run P W=.ok () W
 |[],_=>by simp
 | i::r,h=>by
   have h1:=h i (by simp);have ae:=Wr (P:=P) (W:=W) f r (λj aC=>h j (by simp[aC]));rw[La];simp only[dU,h1,Result.andThen_ok,Sem.run_pure];rw[ae]
def Wo{P:Program}{W:bq}{Kn:Type}(f:Kn->PUnit->Sem (ForInStep PUnit)):∀(l:aa Kn),(∀i∈l,(f i ()).run P W=.ok (.yield ()) W)->(forIn (m:=Sem) l PUnit.unit f).run P W=.ok () W
 |[],_=>by simp
 | i::r,h=>by
   have h1:=h i (by simp);have ae:=Wo (P:=P) (W:=W) f r (λj aC=>h j (by simp[aC]));rw[La];simp only[dU,h1,Result.andThen_ok];exact ae
def Zl{P:Program}{t e n k:Nat}{α:Type}[aj α][Inhabited α](h:P.underlying t=some (.array n e))(eM:bS P e α)(he:sV P e α k):sV P t (Vector α n) (k+1):=by
 intro b d A W u x hd an;obtain⟨d,rfl⟩:∃e,d=e+1:=⟨d-1,by omega⟩;obtain⟨h1,ae⟩:=an;obtain⟨xs,rfl⟩:∃cs,u=.agg cs:=by simpa[shaped,aj.agg]using h1
 simp only[Value.cells]at ae;have wX:xs.toList.length=n*aj.size α:=aj.len ae;have BD:∀i∈List.range' 0 n,((do
  let z <-Go.sizeOf e
  let a <-part e xs (i*z)
  Instr.checkKey b d e a):Sem Unit).run P W=.ok () W:=by
  intro i au
  have hP:i<n:=by simpa using au
  have fQ:i*aj.size α+aj.size α<=n*aj.size α:=(aP.idx (α:=α) n i hP).ha
  obtain⟨a,aY,wY⟩:=uH (A:=A) (P:=P) (W:=W) (cs:=xs) (off:=i*aj.size α) eM (by simp at wX;omega) ((aP.idx (α:=α) n i hP).jT ae)
  simp only[dU,eM.sizeOf,aY,Result.andThen_ok]
  exact he b d A W a _ (by omega) wY
 have aW:=Wr (P:=P) (W:=W) _ _ BD;simp only[Instr.checkKey,dU,ee h,Result.andThen_ok,ON];simp only[Std.Legacy.Range.size,Nat.sub_zero,Nat.add_one_sub_one,P1]at aW⊢;simp only[bind_assoc]at aW;rw[aW];rfl
inductive JL(P:Program)(β:Type)[aj β](k:Nat):List Field->Prop
 |nil:JL P β k []
 |cons {γ:Type} [aj γ] {f r} (l:aP β γ):l.off=f.offset->bS P f.type γ->sV P f.type γ k->JL P β k r->JL P β k (f::r)
def Xm{P:Program}{t k:Nat}{β:Type}[aj β]{fs:Array Field}(aY:aj.agg β=true)(h:P.underlying t=some (.struct fs))(ak:JL P β k fs.toList):sV P t β (k+1):=by
 intro b d A W u x hd an;obtain⟨d,rfl⟩:∃e,d=e+1:=⟨d-1,by omega⟩;obtain⟨h1,ae⟩:=an;obtain⟨xs,rfl⟩:∃cs,u=.agg cs:=by simpa[shaped,aY]using h1
 simp only[Value.cells]at ae;have wX:xs.toList.length=aj.size β:=aj.len ae;have BD:∀f∈fs.toList,((do
  if f.name≠ "_" then do
   let a <-part f.type xs f.offset
   Instr.checkKey b d f.type a):Sem Unit).run P W=.ok () W:=by
  have key:∀l,JL P β k l->∀f∈l,((do
   if f.name≠ "_" then do
    let a <-part f.type xs f.offset
    Instr.checkKey b d f.type a):Sem Unit).run P W=.ok () W:=by
   intro l ao
   induction ao with
   |nil=>simp
   | cons l a8 eM hk r b6=>
     rename_i f nn
     intro Fj tO
     rcases dW.1 tO with rfl|tO
     ·split
      ·obtain⟨a,aY,wY⟩:=uH (A:=A) (P:=P) (W:=W) (cs:=xs) (off:=l.off) eM (by have:=l.ha;simp at wX;omega) (l.jT ae)
       rw[<-a8]
       simp only[dU,aY,Result.andThen_ok]
       exact hk b d A W a _ (by omega) wY
      rfl
     exact b6 Fj tO
  exact key _ ak
 simp only[Instr.checkKey,dU,ee h,Result.andThen_ok];rw[<-Array.forIn_toList,Wo]
 ·rfl
 intro f aW;have:=BD f aW;split
 ·rename_i aM;rw[bk aM]at this;simp only[dU]at this⊢;revert this;generalize (part f.type xs f.offset).run P W=r;cases r <;> simp only[Result.andThen] <;> intro h <;> first|rw[h];rfl|cases h
 rfl
structure qA(P:Program)(t:TypeId)(α:Type)[aj α][DecidableEq α]:Prop where
 check:∀b A W u (x:α),(J.of x).holds A W u->(Instr.checkKey b 10000 t u).run P W=.ok () W
 same:∀A W u v (x y:α),(J.of x).holds A W u->(J.of y).holds A W v->(Op.equal t u v).run P W=.ok (decide (x=y)) W
 now:∃D,P.underlying t=some D∧∀A W u v (x y:α),(J.of x).holds A W u->(J.of y).holds A W v->Instr.sameNow D u v=none∨Instr.sameNow D u v=some (decide (x=y))
def nD{α β:Type}[DecidableEq α]:aa (α×β)->α->Nat->aA (Nat×β)
 |[],_,_=>none
 |(k,v)::r,x,i=>if x=k then some (i,v)else nD r x (i+1)
def Found{α β:Type}[aj α][aj β](A:aa Nat)(W:bq)(kv:aa (α×β)):aA (Nat×bt)->aA (Nat×β)->Prop
 |none,none=>True
 |some (i,u),some (j,v)=>i=j∧(J.of v).holds A W u
 |_,_=>False
def Wt{α β:Type}[aj α][aj β][DecidableEq α]{D:TypeDesc}{A:aa Nat}{W:bq}{u:bt}{x:α}(hu:(J.of x).holds A W u)
 (hs:∀v (y:α),(J.of y).holds A W v->Instr.sameNow D u v=none∨Instr.sameNow D u v=some (decide (x=y))) (JM:aa (α×β)):∀{es:aa MapEntry} {kv:aa (α×β)} (i:Nat),ma A W es kv->
 Instr.findNow D u es i=none∨∃r,Instr.findNow D u es i=some r∧Found A W JM r (nD kv x i)
 |[],_,i,h=>by cases h;exact .inr ⟨none,rfl,trivial⟩
 | e::es,_,i,h=>by
   cases h with
   | cons h1 ae az=>
     rename_i k v r
     rcases hs e.key k h1 with aQ|aQ
     ·exact .inl (by simp[Instr.findNow,aQ])
     by_cases hk:x=k
     ·exact .inr ⟨some (i,e.val),by simp[Instr.findNow,aQ,hk],by simp only[nD,bk hk];exact⟨rfl,ae⟩⟩
     rcases Wt hu hs JM (i+1) az with a7|⟨nn,a7,bp⟩
     ·exact .inl (by simp[Instr.findNow,aQ,hk,a7])
     exact .inr ⟨nn,by simp[Instr.findNow,aQ,hk,a7],by simp only[nD,bf hk];exact bp⟩
def Wl{α β:Type}[aj α][aj β][DecidableEq α]{P:Program}{t:bF}(mm:qA P t α){A:aa Nat}{W:bq}{u:bt}{x:α}(hu:(J.of x).holds A W u)(JM:aa (α×β)):∀{es:aa MapEntry} {kv:aa (α×β)} (i:Nat),ma A W es kv->
 ∃r,(Instr.findAsking t u es i).run P W=.ok r W∧Found A W JM r (nD kv x i)
 |[],_,i,h=>by cases h;exact⟨none,rfl,trivial⟩
 | e::es,_,i,h=>by
   cases h with
   | cons h1 ae az=>
     rename_i k v r
     have aQ:=mm.same A W u e.key x k hu h1
     by_cases hk:x=k
     ·exact⟨some (i,e.val),by simp[Instr.findAsking,dU,aQ,hk],by simp only[nD,bk hk];exact⟨rfl,ae⟩⟩
     obtain⟨nn,a7,bp⟩:=Wl mm hu JM (i+1) az
     exact⟨nn,by simp[Instr.findAsking,dU,aQ,hk,a7],by simp only[nD,bf hk];exact bp⟩
def P9{α β:Type}[aj α][aj β][DecidableEq α]{P:Program}{t:bF}(mm:qA P t α){A:aa Nat}{W:bq}{u:bt}{x:α}(hu:(J.of x).holds A W u){es:aa MapEntry}{kv:aa (α×β)}(h:ma A W es kv):
 ∃r,(Instr.findKey t u es).run P W=.ok r W∧Found A W kv r (nD kv x 0):=by
 obtain⟨D,ml,hs⟩:=mm.now
 rcases Wt hu (λv y hy=>hs A W u v x y hu hy) kv 0 h with h1|⟨r,h1,ae⟩
 ·obtain⟨r,az,aQ⟩:=Wl mm hu kv 0 h
  exact⟨r,by simp[Instr.findKey,dU,ee ml,h1,az],aQ⟩
 exact⟨r,by simp[Instr.findKey,dU,ee ml,h1],ae⟩
def QO{α β:Type}[aj α][aj β][DecidableEq α]{A:aa Nat}{W:bq}{x:α}:∀{es:aa MapEntry} {kv:aa (α×β)} {j i:Nat} {v:β},ma A W es kv->nD kv x j=some (i,v)->
 ∃m e,i=j+m∧es[m]? =some e∧(J.of x).holds A W e.key∧(∀(e':MapEntry) (y:β),(J.of x).holds A W e'.key->(J.of y).holds A W e'.val->ma A W (es.set m e') (gb kv x y))∧ma A W (es.eraseIdx m) (iR kv x)
 |[],_,j,i,v,h,aW=>by cases h;cases aW
 | e::es,_,j,i,v,h,aW=>by
   cases h with
   | cons h1 ae az=>
     rename_i k Fi r
     by_cases hk:x=k
     ·subst hk
      simp only[nD,bk]at aW
      simp only[gy,zy]at aW
      exact⟨0,e,by omega,rfl,h1,λe' y g1 g2=>by simp only[gb,bk];exact .cons g1 g2 az,by simp only[iR,bk];exact az⟩
     simp only[nD,bf hk]at aW
     obtain⟨m,e',g1,g2,g3,g4,g5⟩:=QO az aW
     exact⟨m+1,e',by omega,by simpa using g2,g3,λTF y aw b9=>by simp only[gb,bf hk];exact .cons h1 ae (g4 TF y aw b9),by simp only[iR,bf hk];exact .cons h1 ae g5⟩
def Qj{α β:Type}[aj α][aj β][DecidableEq α]{A:aa Nat}{W:bq}{x:α}:∀{es:aa MapEntry} {kv:aa (α×β)} {j:Nat},ma A W es kv->nD kv x j=none->
 (∀(e':MapEntry) (y:β),(J.of x).holds A W e'.key->(J.of y).holds A W e'.val->ma A W (es++[e']) (gb kv x y))∧iR kv x=kv
 |[],_,j,h,_=>by cases h;exact⟨λe' y h1 ae=>.cons h1 ae .nil,rfl⟩
 | e::es,_,j,h,aW=>by
   cases h with
   | cons h1 ae az=>
     rename_i k Fi r
     by_cases hk:x=k
     ·simp[nD,hk]at aW
     simp only[nD,bf hk]at aW
     obtain⟨g1,g2⟩:=Qj az aW
     exact⟨λe' y aw b9=>by simp only[gb,bf hk];exact .cons h1 ae (g1 e' y aw b9),by simp only[iR,bf hk,g2]⟩
def ma.length{α β:Type}[aj α][aj β]{A W}:∀{es:aa MapEntry} {kv:aa (α×β)},ma A W es kv->es.length=kv.length
 |_,_,.nil=>rfl
 |_,_,.cons _ _ r=>by simp[r.length]
def WX{α β:Type}[DecidableEq α]:∀(kv:aa (α×β)) (x:α) (i:Nat),(nD kv x i).map (·.2)=dO kv x
 |[],_,_=>rfl
 |(k,v)::r,x,i=>by simp only[nD,dO];split <;> simp[WX]
section
variable{c:cC}{E:aa (Nat×J)}{L:aa aI}{ops:Array Oper}{Q:Exit->Act->bq->Prop}
variable{d:aA Tmp}{ty:bF}{pos:String}{af:Array Edge}{g:aA (Nat×Bool)}{x y z:ca}{t t2:bF}
variable{bM:Type}[dZ bM]{hp:aL bM}{loc:aa aI}
def ad.akv{α β:Type}[aj α][aj β]{rest:aa Oper}{bc:Nat}(mk:bM)(hk:∀p,dZ.gd p mk=[⟨some p,.map ([]:aa (α×β))⟩])(aM:Nat.blt bc c.n=true)
 (k:∀p,p∉da hp->ad c ops Q rest ((bc,.of (⟨some p⟩:eX))::E) (loc++aX ((p,mk)::hp))):ad c ops Q (⟨some bc,.makeMap t none,ty,pos,af,none⟩::rest) E (loc++aX hp):=λa W s=>by
 refine iO I (R:=λv W'=>v=.map (some W.heap.size)∧W'=W.alloc (.map #[] 0)) (.mV ?_ ⟨rfl,rfl⟩) λv W' ⟨ba,hw⟩=>?_
 ·simp only[execOp,Instr.makeMap,newObj,dU,Sem.run_pure];rfl
 subst ba
 subst hw
 refine k _ s.fresh _ _ (bP.put ?_ (by simpa using aM) (xP.2 I))
 refine(s.alloc (cp:=.map ([]:aa (α×β))) ⟨#[],0,rfl,.nil,by simp,by simp⟩).perm ?_
 simp only[aX,hk,List.singleton_append]
 exact sc.symm
def ad.HV{α β:Type}[aj α][aj β]{rest:aa Oper}{bc:Nat}(n:Nat)(ax:L.drop n=aX hp)(mk:bM)(hk:∀p,dZ.gd p mk=[⟨some p,.map ([]:aa (α×β))⟩])(aM:Nat.blt bc c.n=true)(k:∀a:Nat×aL bM,a.1∉hp.map (·.1)∧a.2=(a.1,mk)::hp->ad c ops Q rest ((bc,.of (⟨some a.1⟩:eX))::E) (L.take n++aX a.2)):ad c ops Q (⟨some bc,.makeMap t none,ty,pos,af,none⟩::rest) E L:=by
 have e:L=L.take n++aX hp:=by rw[<-ax,gp]
 clear ax;generalize L.take n=loc at *;subst e;exact ad.akv (α:=α) (β:=β) mk hk aM λp h=>k (p,(p,mk)::hp) ⟨h,rfl⟩
def bP.Iy{a:Act}{W:bq}(s:bP c E L a W){p:Nat}{α β:Type}[aj α][aj β]{kv:aa (α×β)}(hm:(⟨some p,.map kv⟩:aI)∈L):
 ∃es clock,W.heap[p]? =some (.map es clock)∧ma (ks L++c.b3) W es.toList kv∧(∀x∈es.toList,x.born<clock)∧(es.toList.map MapEntry.born).Nodup:=by
 obtain⟨o,a8,es,clock,rfl,ae,az,aQ⟩:=s.own _ hm
 exact⟨es,clock,a8,ae,az,aQ⟩
def WY{a:Act}{W:bq}(s:bP c E L a W){p key elem:Nat}{α β:Type}[aj α][aj β][DecidableEq α][Inhabited β]{kv:aa (α×β)}{i:α}(hu:c.P.underlying t=some (.map key elem))(mm:qA c.P key α)(gT:dx c.P elem (default:β))
 (an:aU c E L x (.of (⟨some p⟩:eX))) (hy:aU c E L y (.of i)) (hm:(⟨some p,.map kv⟩:aI)∈L):
 ∃u,(J.of ((dO kv i).getD default)).holds (ks L++c.b3) W u∧∀ok,(Instr.lookup t (a.eval x) (a.eval y) ok).run c.P W=.ok (if ok then .tuple #[u,.bool (dO kv i).isSome]else u) W:=by
 obtain⟨es,clock,a8,ae,az,aQ⟩:=s.Iy hm
 have ni:=xP.1 (an a W s)
 have rX:=hy a W s
 obtain⟨r,aE,aW⟩:=P9 mm rX ae
 obtain⟨gH,ed,eo,b2,Tu⟩:=gT.zero
 have bH:(getObj p).run c.P W=.ok (.map es clock) W:=by simp[getObj,Sem.run,a8]
 have ak:=λb=>mm.check b _ W _ i rX
 have EX:=WX kv i 0
 cases sN:nD kv i 0 with
 | none=>
   rw[sN]at aW EX
   cases r with
   |some q=>exact aW.elim
   | none=>
     refine⟨ed,by rw[<-EX];exact Tu _ W,λok=>?_⟩
     rw[<-EX]
     simp[Instr.lookup,dU,ee hu,ni,bH,ak,aE,zeroValue,typeInfo,eo,b2]
 | some q=>
   rw[sN]at aW EX
   cases r with
   |none=>exact aW.elim
   | some oz=>
     refine⟨oz.2,by rw[<-EX];exact aW.2,λok=>?_⟩
     rw[<-EX]
     simp[Instr.lookup,dU,ee hu,ni,bH,ak,aE]
def wc{p key elem:Nat}{α β:Type}[aj α][aj β][DecidableEq α][Inhabited β]{kv:aa (α×β)}{i:α}{r:β}(hu:c.P.underlying t=some (.map key elem))(mm:qA c.P key α)(gT:dx c.P elem (default:β))
 (an:aU c E L x (.of (⟨some p⟩:eX))) (hy:aU c E L y (.of i)) (hm:(⟨some p,.map kv⟩:aI)∈L) (aE:(dO kv i).getD default=r):
 bj c E L ⟨d,.lookup t x y false,ty,pos,af,g⟩ (.of r):=.pure λa W s=>by
 subst aE
 obtain⟨u,h1,ae⟩:=WY s hu mm gT an hy hm
 have az:=ae false
 exact⟨u,by simp only[execOp,dU,az,Result.andThen_ok];rfl,h1⟩
def QH{p key elem:Nat}{α β:Type}[aj α][aj β][DecidableEq α][Inhabited β]{kv:aa (α×β)}{i:α}{r:aA β}(hu:c.P.underlying t=some (.map key elem))(mm:qA c.P key α)(gT:dx c.P elem (default:β))
 (an:aU c E L x (.of (⟨some p⟩:eX))) (hy:aU c E L y (.of i)) (hm:(⟨some p,.map kv⟩:aI)∈L) (aE:dO kv i=r):
 bj c E L ⟨d,.lookup t x y true,ty,pos,af,g⟩ (.b7 [.of (r.getD default),.of r.isSome]):=.pure λa W s=>by
 subst aE
 obtain⟨u,h1,ae⟩:=WY s hu mm gT an hy hm
 have az:=ae true
 exact⟨_,by simp only[execOp,dU,az,Result.andThen_ok];rfl,_,rfl,.cons h1 (.cons (of_bool.2 I) .nil)⟩
def aiX{es:aa MapEntry}{m:Nat}{e e':MapEntry}(h:es[m]? =some e)(hb:e'.born=e.born):(es.set m e').map MapEntry.born=es.map MapEntry.born:=by
 apply mL;intro j;simp only[Po,pR];split
 ·rename_i aC;subst aC;have:=(hh.1 h).1;rw[bk this,h];simp[hb]
 rfl
def ad.alw{rest:aa Oper}{op:Op}(sI:op=.mapUpdate t x y z∨op=.insert t x y z){p key elem:Nat}{k k':bM}{α β:Type}[aj α][aj β][kd α][DecidableEq α]{kv sO:aa (α×β)}{i:α}{v:β}(hu:c.P.underlying t=some (.map key elem))(mm:qA c.P key α)
 (an:aU c E (loc++aX hp) x (.of (⟨some p⟩:eX))) (hy:aU c E (loc++aX hp) y (.of i)) (b2:aU c E (loc++aX hp) z (.of v)) (hp':pat hp p=some k) (hk:dZ.gd p k=[⟨some p,.map kv⟩]) (vu:gb kv i v=sO) (lg:dZ.gd p k'=[⟨some p,.map sO⟩])
 (nm:ad c ops Q rest E (loc++aX (cF hp p k'))):ad c ops Q (⟨none,op,ty,pos,af,none⟩::rest) E (loc++aX hp):=λa W s=>by
 subst vu
 obtain⟨es,clock,a8,ae,az,aQ⟩:=s.Iy (jv (n:=loc.length) (by simp) hp' hk)
 have ni:=xP.1 (an a W s)
 have rX:=hy a W s
 have acL:=b2 a W s
 obtain⟨r,aE,aW⟩:=P9 mm rX ae
 have bH:(getObj p).run c.P W=.ok (.map es clock) W:=by simp[getObj,Sem.run,a8]
 have ak:=mm.check false _ W _ i rX
 have ch:p<W.heap.size:=(s5.1 a8).1
 have h2:∀o,(setObj p o).run c.P W=.ok () (W.putObj p o):=λo=>by simp only[setObj,Sem.run,a8];rfl
 have key:∃oj A7,(Instr.mapUpdate t (a.eval x) (a.eval y) (a.eval z)).run c.P W=.ok () (W.putObj p (.map oj A7))∧ma (ks (loc++aX hp)++c.b3) W oj.toList (gb kv i v)∧(∀x∈oj.toList,x.born<A7)∧(oj.toList.map MapEntry.born).Nodup:=by
  cases sN:nD kv i 0 with
  | none=>
    rw[sN]at aW
    cases r with
    |some q=>exact aW.elim
    | none=>
      obtain⟨g1,_⟩:=Qj ae sN
      refine⟨es.push {key:=a.eval y,val:=a.eval z,born:=clock},clock+1,by simp[Instr.mapUpdate,dU,ee hu,ni,bH,ak,aE,h2],by simpa using g1 {key:=a.eval y,val:=a.eval z,born:=clock} v rX acL,?_,?_⟩
      ·intro q hq
       simp only[Array.toList_push,cz,hi]at hq
       rcases hq with hq|rfl
       ·exact Nat.lt_succ_of_lt (az q hq)
       exact Nat.lt_succ_self _
      simp only[Array.toList_push,pT,oH,GS]
      refine pS.2 ⟨aQ,by simp,λb hb b' JK=>?_⟩
      simp only[hi]at JK
      subst JK
      obtain⟨q,hq,rfl⟩:=gJ.1 hb
      exact PW (az q hq)
  | some q=>
    rw[sN]at aW
    cases r with
    |none=>exact aW.elim
    | some oz=>
      obtain⟨m,e,g1,g2,g3,g4,_⟩:=QO ae sN
      have jY:oz.1=m:=by have:=aW.1;omega
      have hq:es[m]? =some e:=by simpa using g2
      have cv:=aib (P:=c.P) g3 rX W
      let e':MapEntry:= {e with key:=a.eval y,val:=a.eval z}
      have BR:(es.modify m λe=>{e with key:=a.eval y,val:=a.eval z}).toList=es.toList.set m e':=by
       apply mL;intro j;rw[zg,OZ,pR,zg];by_cases aC:m=j
       ·subst aC;rw[bk I,bk I,hq,bk (by simpa using (s5.1 hq).1)];rfl
       rw[bf aC,bf aC]
      refine⟨es.modify m λe=>{e with key:=a.eval y,val:=a.eval z},clock,by simp[Instr.mapUpdate,dU,ee hu,ni,bH,ak,aE,h2,jY,hq,cv],by rw[BR];exact g4 e' v rX acL,?_,?_⟩
      ·rw[BR]
       intro w hw
       rcases UW hw with hw|rfl
       ·exact az w hw
       exact az e (e6 g2)
      rw[BR,aiX (e':=e') g2 I];exact aQ
 obtain⟨oj,A7,j7,ar,aK,cr⟩:=key
 obtain⟨R,a6,br⟩:=vX hp'
 have br:=br k'
 rw[hk]at a6
 rw[lg]at br
 have cJ:∀{z:aa (α×β)} {M:aa aI},M.Perm ([⟨some p,.map z⟩]++R)->(loc++M).Perm (⟨some p,.map z⟩::(loc++R)):=λh=>(h.append_left loc).trans (by simp only[List.singleton_append];exact sc)
 have cH:=(s.perm (cJ a6)).tv (i:=0) (cp':=.map (gb kv i v)) I (o':=.map oj A7) ⟨oj,A7,rfl,ar.mono (po (cJ a6)),aK,cr⟩
 refine iO I (R:=λv W'=>W'=W.putObj p (.map oj A7)) (.DV ?_ I) λv W' hw=>?_
 ·rcases sI with rfl|rfl <;> simp[execOp,j7]
 subst hw
 exact nm _ _ (cH.perm (cJ br).symm)
def ad.Ip{rest:aa Oper}{op:Op}(n:Nat)(ax:L.drop n=aX hp)(sI:op=.mapUpdate t x y z∨op=.insert t x y z){p key elem:Nat}{k k':bM}{cQ:aL bM}{α β:Type}[aj α][aj β][kd α][DecidableEq α]{kv sO:aa (α×β)}{i:α}{v:β}(hu:c.P.underlying t=some (.map key elem))(mm:qA c.P key α)(an:aU c E L x (.of (⟨some p⟩:eX)))(hy:aU c E L y (.of i))(b2:aU c E L z (.of v))(hp':pat hp p=some k)(hk:dZ.gd p k=[⟨some p,.map kv⟩])(vu:gb kv i v=sO)(lg:dZ.gd p k'=[⟨some p,.map sO⟩])(b2:cF hp p k'=cQ)(nm:ad c ops Q rest E (L.take n++aX cQ)):ad c ops Q (⟨none,op,ty,pos,af,none⟩::rest) E L:=by
 subst b2;have e:L=L.take n++aX hp:=by rw[<-ax,gp]
 clear ax;generalize L.take n=loc at *;subst e;exact ad.alw sI hu mm an hy b2 hp' hk vu lg nm
def ad.alx{rest:aa Oper}{p key elem:Nat}{k k':bM}{α β:Type}[aj α][aj β][DecidableEq α]{kv sO:aa (α×β)}{i:α}(hu:c.P.underlying t=some (.map key elem))(mm:qA c.P key α)
 (an:aU c E (loc++aX hp) x (.of (⟨some p⟩:eX))) (hy:aU c E (loc++aX hp) y (.of i)) (hp':pat hp p=some k) (hk:dZ.gd p k=[⟨some p,.map kv⟩]) (vu:iR kv i=sO) (lg:dZ.gd p k'=[⟨some p,.map sO⟩])
 (nm:ad c ops Q rest E (loc++aX (cF hp p k'))):ad c ops Q (⟨none,.call ⟨.builtin .delete,#[x,y],#[t,t2]⟩,ty,pos,af,none⟩::rest) E (loc++aX hp):=λa W s=>by
 subst vu
 obtain⟨es,clock,a8,ae,az,aQ⟩:=s.Iy (jv (n:=loc.length) (by simp) hp' hk)
 have ni:=xP.1 (an a W s)
 have rX:=hy a W s
 obtain⟨r,aE,aW⟩:=P9 mm rX ae
 have bH:(getObj p).run c.P W=.ok (.map es clock) W:=by simp[getObj,Sem.run,a8]
 have ak:=λb=>mm.check b _ W _ i rX
 have h2:∀o,(setObj p o).run c.P W=.ok () (W.putObj p o):=λo=>by simp only[setObj,Sem.run,a8];rfl
 have key:∃oj,(Builtin.delete_ #[t,t2] ty #[a.eval x,a.eval y]).run c.P W=.ok (.tuple #[]) (W.putObj p (.map oj clock))∧ma (ks (loc++aX hp)++c.b3) W oj.toList (iR kv i)∧(∀x∈oj.toList,x.born<clock)∧(oj.toList.map MapEntry.born).Nodup:=by
  cases sN:nD kv i 0 with
  | none=>
    rw[sN]at aW
    cases r with
    |some q=>exact aW.elim
    | none=>
      obtain⟨_,g1⟩:=Qj ae sN
      exact⟨es,by simp[Builtin.delete_,dU,ee hu,ni,bH,ak,aE,h2],by rw[g1];exact ae,az,aQ⟩
  | some q=>
    rw[sN]at aW
    cases r with
    |none=>exact aW.elim
    | some oz=>
      obtain⟨m,e,g1,g2,_,_,g5⟩:=QO ae sN
      have jY:oz.1=m:=by have:=aW.1;omega
      have hm:m<es.size:=by simpa using (hh.1 g2).1
      have he:(es.eraseIdxIfInBounds m).toList=es.toList.eraseIdx m:=by simp[Array.eraseIdxIfInBounds,hm]
      have oc:(es.toList.eraseIdx m).Sublist es.toList:=List.eraseIdx_sublist _ _
      exact⟨es.eraseIdxIfInBounds m,by simp[Builtin.delete_,dU,ee hu,ni,bH,ak,aE,h2,jY],by rw[he];exact g5,by rw[he];exact λw hw=>az w (oc.subset hw),by rw[he];exact(oc.map _).nodup aQ⟩
 obtain⟨oj,j7,ar,aK,cr⟩:=key
 obtain⟨R,a6,br⟩:=vX hp'
 have br:=br k'
 rw[hk]at a6
 rw[lg]at br
 have cJ:∀{z:aa (α×β)} {M:aa aI},M.Perm ([⟨some p,.map z⟩]++R)->(loc++M).Perm (⟨some p,.map z⟩::(loc++R)):=λh=>(h.append_left loc).trans (by simp only[List.singleton_append];exact sc)
 have cH:=(s.perm (cJ a6)).tv (i:=0) (cp':=.map (iR kv i)) I (o':=.map oj clock) ⟨oj,clock,rfl,ar.mono (po (cJ a6)),aK,cr⟩
 refine iO I (R:=λv W'=>W'=W.putObj p (.map oj clock)) (.mV (v:=.tuple #[]) ?_ I) λv W' hw=>?_
 ·simp[execOp,resolve,invoke,builtin,j7]
 subst hw
 exact nm _ _ (cH.perm (cJ br).symm)
def ad.Nc{rest:aa Oper}{p key elem:Nat}{k k':bM}{cQ:aL bM}{α β:Type}[aj α][aj β][DecidableEq α]{kv sO:aa (α×β)}{i:α}(n:Nat)(ax:L.drop n=aX hp)(hu:c.P.underlying t=some (.map key elem))(mm:qA c.P key α)(an:aU c E L x (.of (⟨some p⟩:eX)))(hy:aU c E L y (.of i))(hp':pat hp p=some k)(hk:dZ.gd p k=[⟨some p,.map kv⟩])(vu:iR kv i=sO)(lg:dZ.gd p k'=[⟨some p,.map sO⟩])(b2:cF hp p k'=cQ)(nm:ad c ops Q rest E (L.take n++aX cQ)):ad c ops Q (⟨none,.call ⟨.builtin .delete,#[x,y],#[t,t2]⟩,ty,pos,af,none⟩::rest) E L:=by
 subst b2;have e:L=L.take n++aX hp:=by rw[<-ax,gp]
 clear ax;generalize L.take n=loc at *;subst e;exact ad.alx hu mm an hy hp' hk vu lg nm
def ajK{p key elem:Nat}{α β:Type}[aj α][aj β]{kv:aa (α×β)}(hu:c.P.underlying t=some (.map key elem))(an:aU c E L x (.of (⟨some p⟩:eX)))(hm:(⟨some p,.map kv⟩:aI)∈L):
 bj c E L ⟨d,.call ⟨.builtin .len,#[x],#[t]⟩,ty,pos,af,g⟩ (.of (kv.length:Int)):=.pure λa W s=>by
 obtain⟨es,clock,a8,ae,az,aQ⟩:=s.Iy hm
 have ni:=xP.1 (an a W s)
 have bH:(getObj p).run c.P W=.ok (.map es clock) W:=by simp[getObj,Sem.run,a8]
 have ao:es.size=kv.length:=by simpa using ae.length
 refine⟨.int .i64 kv.length,?_,of_int.2 I⟩
 simp[execOp,resolve,invoke,builtin,Builtin.len_,ni,bH,ao,ee hu,goInt]
end
def aly{P:Program}{t:bF}(h:P.underlying t=some (.int .i64)):qA P t Int where
 check b A W u x an:=Qx (α:=Int) h I b 10000 A W u x (by decide) an
 same A W u v x y an hy:=by
  have:=(Yz h).run 10000 (by decide) A W u v x y an hy;simpa[Op.equal,Op.maxDepth]using this
 now:=⟨_,h,λA W u v x y an hy=>.inr (by
  rw[of_int.1 an,of_int.1 hy];simp only[Instr.sameNow,bk];rfl)⟩
def RN{P:Program}{t:bF}{α:Type}[aj α][DecidableEq α]{D:TypeDesc}{n m:Nat}(h:P.underlying t=some D)(ml:(match (motive:=TypeDesc->Bool) D with | .array _ _| .struct _=>true|_=>false)=true)(atQ:sV P t α n)(vy:nf P t α m)(aM:Nat.ble n 10000=true)(hm:Nat.ble m 10000=true):qA P t α where
 check b A W u x an:=atQ b 10000 A W u x (pb aM) an
 same A W u v x y an hy:=by
  have:=vy.run 10000 (pb hm) A W u v x y an hy;simpa[Op.equal,Op.maxDepth]using this
 now:=⟨_,h,λA W u v x y an hy=>.inl (by cases D <;> simp at ml <;> rfl)⟩
structure kZ(P:Program)(t:TypeId)(name:String)(f:FuncId):Prop where
 run:∀v W args,(callMethod (.iface t v) name args).run P W=.ok (.enter f (#[v]++args)) W
def kZ.of{P:Program}{t:bF}{name:String}{f:FuncId}{i:TypeInfo}{D:TypeDesc}{m:Method}(au:P.info? t=some i)(hm:i.methods.find? (λx=>x.name==name)=some m)(hp:m.path= #[])(aW:m.func=some (f,false))(ml:P.underlying t=some D)
 (aM:(match (motive:=TypeDesc->Bool) D with | .pointer _=>false|_=>true)=true) (cj:bL P f):kZ P t name f where
 run v W args:=by
  have asw:∀args,(callFunc f args).run P W=.ok (.enter f args) W:=λargs=>cj.run ..;have dG:∀n,(method (n+1) t v name).run P W=.ok (f,v) W:=λn=>by
   simp only[method,dU,typeInfo,run_program,Result.andThen_ok,au,Sem.run_pure,hm,hp,aW,follow,receiverAt,ee ml];cases D <;> simp at aM <;> simp[Place.get]
  obtain⟨n,aM⟩:∃n,P.types.size+Made.depth=n+1:=⟨P.types.size+Made.depth-1,by simp[Made.depth]⟩;simp only[callMethod,dU,run_program,Result.andThen_ok,aM,dG,asw]
def kZ.vn{P:Program}{t:bF}{name:String}{f:FuncId}{D:TypeDesc}(hm:((P.info? t).bind λi=>(i.methods.find? (λx=>x.name==name)).map λm=>(m.path.size,m.func))=some (0,some (f,false)))(ml:P.underlying t=some D)
 (aM:(match (motive:=TypeDesc->Bool) D with | .pointer _=>false|_=>true)=true) (cj:bL P f):kZ P t name f:=by
 cases au:P.info? t with
 |none=>rw[au]at hm;cases hm
 | some i=>
   rw[au]at hm
   simp only[Option.bind_some]at hm
   cases ae:i.methods.find? (λx=>x.name==name)with
   |none=>rw[ae]at hm;cases hm
   | some m=>
     rw[ae]at hm
     simp only[Option.map_some,gy,zy]at hm
     exact kZ.of au ae (Array.eq_empty_of_size_eq_zero hm.1) hm.2 ml aM cj
def bV.map{P:Program}{f:FuncId}{τs:aa J}{Lin:aa aI}{δ TG:Type}{ρ:δ->J}{Lo:δ->aa aI}{JN:TG->J}{acM:TG->aa aI}(F:δ->TG)(aE:∀d,JN (F d)=ρ d)(ao:∀d,acM (F d)=Lo d)(h:bV P f τs Lin ρ Lo):bV P f τs Lin JN acM:=
 λA W vs h1 ae az aQ a7=>(h A W vs h1 ae az aQ a7).mono λe W' ⟨v,d,aw,b9,dM,h4,fm,jj⟩=>⟨v,F d,aw,b9,by rw[ao];exact dM,by rw[ao];exact h4,by rw[ao];exact fm,by rw[ao,aE];exact jj⟩
structure mU(P:Program)(name:String)(τ:J)(τs:List J)(Lin:List aI){δ:Type}(ρ:δ->J)(Lo:δ->List aI):Prop where
 go:∀(A:List Nat) (W:World) (u:Value) (vs:List Value),(∀k∈A,k<W.heap.size∧k∉ks Lin)->(ks Lin).Nodup->(∀k∈ks Lin,k<W.heap.size)->(∀e∈Lin,e.ok (ks Lin++A) W)->gL (ks Lin++A) W (τ::τs) (u::vs)->
  ∃f v,(∀args,(callMethod u name args).run P W=.ok (.enter f (#[v]++args)) W)∧Calls P f (v::vs).toArray W (kB (ks Lin) A W ρ Lo)
def mU.of{P:Program}{name:String}{t:bF}{f:FuncId}{τ σ:J}{τs:aa J}{Lin:aa aI}{δ:Type}{ρ:δ->J}{Lo:δ->aa aI}(mt:kZ P t name f)(JO:∀A W u,τ.holds A W u->∃v,u=.iface t v∧σ.holds A W v)
 (h:bV P f (σ::τs) Lin ρ Lo):mU P name τ τs Lin ρ Lo where
 go A W u vs h1 ae az aQ a7:=by
  cases a7 with
  | cons bp cO=>
    obtain⟨v,rfl,dJ⟩:=JO _ _ _ bp
    exact⟨f,v,λargs=>mt.run v W args,h A W (v::vs) h1 ae az aQ (.cons dJ cO)⟩
section
variable{c:cC}{E:aa (Nat×J)}{L:aa aI}{ops:Array Oper}{Q:Exit->Act->bq->Prop}
variable{d:aA Tmp}{ty:bF}{pos:String}{af:Array Edge}{g:aA (Nat×Bool)}{x y z:ca}{t t2:bF}
def QP{a:Act}{W:bq}{name:String}{xs:aa ca}{ats:Array bF}{τ:J}{τs:aa J}{Lin Lr:aa aI}{δ:Type}{ρ:δ->J}{Lo:δ->aa aI}(h:mU c.P name τ τs Lin ρ Lo)
 (s:bP c E (Lin++Lr) a W) (an:gL (ks (Lin++Lr)++c.b3) W (τ::τs) ((x::xs).map a.eval)):
 h0 c.P ⟨d,.call ⟨.invoke x name,xs.toArray,ats⟩,ty,pos,af,g⟩ a W λv W'=> ∃bc,bP c E (Lo bc++Lr) a W'∧(ρ bc).holds (ks (Lo bc++Lr)++c.b3) W' v:=by
 have lB:=s.nodup
 rw[e1]at lB
 obtain⟨nJ,sL,qs⟩:=pS.1 lB
 have h2:Ext (ks (Lin++Lr)++c.b3) W (ks Lin++(ks Lr++c.b3)) W:=DW
 have eB:∀k∈ks Lr++c.b3,k<W.heap.size∧k∉ks Lin:=λk hm=>by
  rcases cz.1 hm with hm|hm
  ·exact⟨s.lt k (by rw[e1];exact cz.2 (.inr hm)),λh=>qs k h k hm I⟩
  obtain⟨h1,ae⟩:=s.eG k hm;exact⟨h1,λh=>ae (by rw[e1];exact cz.2 (.inl h))⟩
 have ch:∀k∈ks Lin,k<W.heap.size:=λk hm=>s.lt k (by rw[e1];exact cz.2 (.inl hm))
 obtain⟨f,v,j7,ak⟩:=h.go (ks Lr++c.b3) W (a.eval x) (xs.map a.eval) eB nJ ch (λe he=>aI.uL (s.own e (cz.2 (.inl he))) h2 λ_ _=>rfl) (by simpa using an.mono h2)
 refine .wa (f:=f) (args:=(v::xs.map a.eval).toArray) (W':=W) ?_ (ak.mono λe W' ⟨v,bc,he,aW,h1,ae,az,aQ⟩=>?_)
 ·have:=j7 (xs.map a.eval).toArray
  simp only[execOp,resolve,dU,Sem.run_pure,Result.andThen_ok,invoke]
  simp only[List.map_toArray]at this⊢
  simp
  rw[s6 (by simp),this]
  simp
 refine⟨v,he,bc,s.after aW h1 ae az,(ρ bc).mono Md aQ⟩
variable{bM:Type}[dZ bM]{hp:aL bM}
def ad.IT{rest:aa Oper}{bc:Nat}{name:String}{xs:aa ca}{ats:Array bF}{τ:J}{τs:aa J}{Lin Lr:aa aI}{δ:Type}{ρ:δ->J}{Lo:δ->aa aI}{hq:δ->aL bM}(n m:Nat)(ax:L.drop n=aX hp)(h:mU c.P name τ τs (Lin++aX hp) ρ (λd=>Lo d++aX (hq d)))
 (h1:(L.take n).take m=Lin) (ae:(L.take n).drop m=Lr) (an:iF c E L (x::xs) (τ::τs)) (aM:Nat.blt bc c.n=true) (k:∀q,ad c ops Q rest ((bc,ρ q)::E) ((Lo q++Lr)++aX (hq q))):
 ad c ops Q (⟨some bc,.call ⟨.invoke x name,xs.toArray,ats⟩,ty,pos,af,none⟩::rest) E L:=by
 have e:L=(Lin++Lr)++aX hp:=by rw[<-h1,<-ae,gp,<-ax,gp]
 clear ax h1 ae
 subst e
 exact λa W s=>iO I (QP (Lr:=Lr) h (s.perm mR) ((an.holds a W s).mono (po mR))) λv W' ⟨q,cH,ba⟩=>
  k q _ _ ((cH.perm mR).put (by simpa using aM) ((ρ q).mono (po mR) ba))
def fB.IT{name:String}{xs:aa ca}{ats:Array bF}{τ:J}{τs:aa J}{ρ:J}(n:Nat)(ax:L.drop n=aX hp)(h:mU c.P name τ τs (aX hp) (λ_:Unit=>ρ) (λ_=>aX hp))
 (an:iF c E L (x::xs) (τ::τs)):fB c E L ⟨d,.call ⟨.invoke x name,xs.toArray,ats⟩,ty,pos,af,g⟩ ρ:=λa W s=>by
 have e:L=L.take n++aX hp:=by rw[<-ax,gp]
 have cJ:L.Perm (aX hp++L.take n):=by
  conv=>lhs;rw[e]
  exact oF
 have a8:=QP (d:=d) (ty:=ty) (pos:=pos) (af:=af) (g:=g) (ats:=ats) (Lr:=L.take n) h (s.perm cJ) ((an.holds a W s).mono (po cJ))
 unfold h0 at a8⊢
 exact vP (λiw W' ⟨v,h1,_,ae,az⟩=>⟨v,h1,ae.perm cJ.symm,ρ.mono (po cJ.symm) az⟩) a8
def MD{D:TypeDesc}{σ τ:J}(hu:c.P.underlying t=some D)(ml:(match (motive:=TypeDesc->Bool) D with | .interface _=>false|_=>true)=true)(an:aU c E L x σ)(JO:∀A W v,σ.holds A W v->τ.holds A W (.iface t v)):
 bj c E L ⟨d,.makeInterface t x,ty,pos,af,g⟩ τ:=.pure λa W s=>
 ⟨.iface t (a.eval x),by
   simp only[execOp,Instr.makeInterface,dU,ee hu,Result.andThen_ok];cases D <;> simp at ml <;> rfl,JO _ _ _ (an a W s)⟩
end
def NP(P:Program)(u:bt){α σ ε γ:Type}(τ:α->J)(Ls:σ->γ->aa aI)(Lx:ε->γ->aa aI)(step:α->σ->ah (σ⊕ε))(atS:aa Nat->bq->Prop):Prop:=
 ∃ l,u=.func (.yield l) #[] #[]∧∀x s R,step x s R->∀g A W v,atS (ks (Ls s g)++A) W->I2 A W (Ls s g)->(τ x).holds (ks (Ls s g)++A) W v->
   YieldAt Fence.wide 8 P l #[v] W (λe W'=>(∃cH,R (.inl cH)∧kB (ks (Ls s g)) A W (λ_:γ=>J.of true) (λg=>Ls cH g) e W')∨∃q,R (.inr q)∧kB (ks (Ls s g)) A W (λ_:γ=>J.of false) (λg=>Lx q g) e W')
structure HW(P:Program)(f:FuncId)(τs:List J){bM:Type}[dZ bM]{α:Type}(τ:α->J)(run:∀{σ ε:Type},(σ->aL bM)->(α->σ->ah (σ⊕ε))->σ->ah (σ⊕ε)):Prop where
 go:∀{σ ε γ:Type} (Ls:σ->γ->List aI) (Lx:ε->γ->List aI) (hq:σ->aL bM) (lO:σ->γ->List aI),(∀s g,Ls s g=lO s g++aX (hq s))->∀(step:α->σ->ah (σ⊕ε)) (s0:σ) (g0:γ) (R:σ⊕ε->Prop),run hq step s0 R->
  ∀ (A:List Nat) (W:World) (u:Value) (vs:List Value),I2 A W (Ls s0 g0)->gL (ks (Ls s0 g0)++A) W τs vs->
    NP P u τ Ls Lx step (λcR W'=>Ext (ks (Ls s0 g0)++A) W cR W')->
    Calls P f (u::vs).toArray W (kB (ks (Ls s0 g0)) A W (δ:= {r // R r}×γ) (λ_=>.b7 []) (λd=>Lr Ls Lx d.1.1 d.2))
def HW.of{P:Program}{f:FuncId}{fn:Func}{code:Code}{n:Nat}{τs:aa J}{bM:Type}[dZ bM]{α:Type}{τ:α->J}{run:∀{σ ε:Type},(σ->aL bM)->(α->σ->ah (σ⊕ε))->σ->ah (σ⊕ε)}
 (aW:P.funcs[f]? =some fn) (hb:fn.body=some code) (aM:fn.ntmps=n) (hlen:Nat.ble (τs.length+1) n=true)
 (h:∀{σ ε γ:Type} (Ls:σ->γ->aa aI) (Lx:ε->γ->aa aI) (hq:σ->aL bM) (lO:σ->γ->aa aI),(∀s g,Ls s g=lO s g++aX (hq s))->∀(step:α->σ->ah (σ⊕ε)) (s0:σ) (g0:γ) (R:σ⊕ε->Prop),run hq step s0 R->
  ∀ W A u,NP P u τ Ls Lx step (λcR W'=>Ext (ks (Ls s0 g0)++A) W cR W')->
    ay ⟨P,n,W,ks (Ls s0 g0),A,none,[]⟩ (bodyPost P fn (kB (ks (Ls s0 g0)) A W (δ:= {r // R r}×γ) (λ_=>.b7 []) (λd=>Lr Ls Lx d.1.1 d.2))) code (params 0 (.eq u::τs)) (Ls s0 g0)):HW P f τs τ run:=by
 refine⟨?_⟩
 intro σ ε γ Ls Lx hq lO qn step s0 g0 R aE A W u vs ao ba hy
 refine LA aW hb (wpIn_wide.1 (h Ls Lx hq lO qn step s0 g0 R aE W A u hy _ _ ?_))
 have w0:gL (ks (Ls s0 g0)++A) W (.eq u::τs) (u::vs):=.cons I ba
 have kX:=w0.length
 have hle:τs.length+1<=n:=pb hlen
 exact
 {defers:=rfl
  size:=by simp at kX;simp[aM,kX];omega
  env:=λt τ fh=>by
   obtain⟨_,v,ae,az⟩:=zW w0 0 t τ fh;refine⟨v,?_,az⟩;have ch:t<(u::vs).length:=(hh.1 ae).1;rw[vD (by simpa using ch)];simpa using ae
  dI:=.refl _ _
  own:=ao.ok
  nodup:=ao.nodup
  lt:=ao.lt
  fO:=λk hk _=>hk
  eG:=ao.eG}
section
variable{c:cC}{E:aa (Nat×J)}{L:aa aI}{ops:Array Oper}{Q:Exit->Act->bq->Prop}
variable{d:aA Tmp}{ty:bF}{pos:String}{af:Array Edge}{g:aA (Nat×Bool)}{x y:ca}{t t2:bF}
def aab{bM:Type}[dZ bM]{σ γ:Type}{Ls lO:σ->γ->aa aI}{hq:σ->aL bM}{s:σ}{g:γ}{p:Nat}{k:bM}{e:aI}(n:Nat)(ax:L.drop n=Ls s g)(qn:∀s g,Ls s g=lO s g++aX (hq s))(h:pat (hq s) p=some k)(hk:dZ.gd p k=[e]):e∈L:=by
 obtain⟨R,h1,_⟩:=vX h;rw[hk]at h1;have:e∈L.drop n:=by rw[ax,qn];exact cz.2 (.inr (h1.mem_iff.2 (by simp)))
 exact CQ this
def ad.ak9{rest:aa Oper}{bc xd:Nat}{ats:Array bF}{u:bt}{α σ ε γ:Type}{τ:α->J}{Ls:σ->γ->aa aI}{Lx:ε->γ->aa aI}{step:α->σ->ah (σ⊕ε)}{Lin:aa aI}{x:ca}{v:α}{s:σ}{gg:γ}{R:σ⊕ε->Prop}
 (ak:c.rd=none) (hy:NP c.P u τ Ls Lx step (λcR W'=>Ext (c.X++c.b3) c.j1 cR W')) (aW:look E xd=some (.eq u)) (an:aU c E (Lin++Ls s gg) x (τ v)) (aE:step v s R) (aM:Nat.blt bc c.n=true)
 (aR:∀cH,R (.inl cH)->∀dY,ad c ops Q rest ((bc,.of true)::E) (Lin++Ls cH dY)) (bD:∀q,R (.inr q)->∀dY,ad c ops Q rest ((bc,.of false)::E) (Lin++Lx q dY)):
 ad c ops Q (⟨some bc,.call ⟨.value (.tmp xd),#[x],ats⟩,ty,pos,af,none⟩::rest) E (Lin++Ls s gg):=λa W st=>by
 obtain⟨l,rfl,hy⟩:=hy
 obtain⟨Ut,h1,ae⟩:=st.env xd _ aW
 have hu:Ut=.func (.yield l) #[] #[]:=ae
 subst hu
 have tN:bP c E (Ls s gg++Lin) a W:=st.perm oF
 have ba:=an a W st
 have w0:(τ v).holds (ks (Ls s gg)++(ks Lin++c.b3)) W (a.eval x):=(τ v).mono (.drop λk hm=>by
  rw[e1];simp only[cz]at hm⊢;rcases hm with hm|hm|hm
  ·exact .inl (.inr hm)
  ·exact .inl (.inl hm)
  exact .inr hm) ba
 obtain⟨fn,tmps,assign,body,j7,iK⟩:=hy v s R aE gg (ks Lin++c.b3) W (a.eval x) (tN.aaJ.trans DW) tN.NO w0
 have Sv:(execOp a.eval ⟨some bc,.call ⟨.value (.tmp xd),#[x],ats⟩,ty,pos,af,none⟩).run c.P W=.ok (.round l fn tmps assign body) W:=by
  rw[<-j7];simp[execOp,resolve,Deferred.ofValue,Act.eval,h1,invoke,dU,Sem.run_pure,Result.andThen]
 refine wpListIn_plain I λK ov=>?_
 refine⟨λ_ _=>trivial,?_⟩
 rw[PI _ _ _ (λ_ h=>by cases h),Sv,Oper.uponIn_round]
 refine⟨λh=>by simp at h,?_⟩
 have Tx:RoundIn c.F (9-1) c.P l fn tmps assign body W _:=iK
 refine Tx.mono λe W' he=>?_
 rcases he with⟨cH,hs,w,dY,rfl,tO,az,aQ,a7,bp⟩|⟨q,hs,w,dY,rfl,tO,az,aQ,a7,bp⟩
 ·obtain rfl:=of_bool.1 bp
  refine ov _ _ (aR cH hs dY _ _ ?_)
  exact(((tN.after tO az aQ a7).perm oF).put (by simpa using aM) (of_bool.2 I))
 obtain rfl:=of_bool.1 bp
 refine ov _ _ (bD q hs dY _ _ ?_)
 exact(((tN.after tO az aQ a7).perm oF).put (by simpa using aM) (of_bool.2 I))
def acN{σ ε γ:Type}(c:cC)(cn:ε->Code)(l D:Nat)(rec:Loop)(Ls:σ->γ->aa aI)(Lx:ε->γ->aa aI)(R:σ⊕ε->Prop):Exit->Act->bq->Prop:=λx a W=>
 (∃cH,R (.inl cH)∧x=.normal∧∃g,bP c [] (⟨some l,.is (.loop rec)⟩::⟨some D,.fJ⟩::Ls cH g) a W)∨
 ∃q,R (.inr q)∧A6 (cn q)=true∧x=H0 (cn q)∧∃g,bP c [] (⟨some l,.is (.loop rec)⟩::⟨some D,.fJ⟩::Lx q g) a W
def aq.aqe{σ ε γ:Type}{cn:ε->Code}{l D:Nat}{rec:Loop}{Ls:σ->γ->aa aI}{Lx:ε->γ->aa aI}{R:σ⊕ε->Prop}{cH:σ}(iK:R (.inl cH))(g:γ)(n:Nat)(ax:L.drop n=⟨some l,.is (.loop rec)⟩::⟨some D,.fJ⟩::Ls cH g):
 aq c (acN c cn l D rec Ls Lx R) .normal E L:=λa W s=>.inl ⟨cH,iK,rfl,g,by rw[<-ax];exact(s.sw n).less (λt τ h=>by simp[look]at h)⟩
def ahS{gt p:Nat}{assign body:Code}{f:FuncId}{rP:aa J}{bM:Type}[dZ bM]{α σ ε γ ρ:Type}{τ:α->J}{run:∀{σ ε:Type},(σ->aL bM)->(α->σ->ah (σ⊕ε))->σ->ah (σ⊕ε)}
 {Ls:σ->γ->aa aI} {Lx:ε->γ->aa aI} {hq:σ->aL bM} {step:α->σ->ah (σ⊕ε)} {s0:σ} {g0:γ} {k:σ⊕ε->ah ρ} {k1:ρ->Prop} (lO:σ->γ->aa aI) (cn:ε->Code)
 (ak:c.rd=none) (cj:bL c.P f) (bH:look E gt=some (.kP f rP)) (pN:HW c.P f rP τ run) (aE:ah.bind (run hq step s0) k k1) (qn:∀s g,Ls s g=lO s g++aX (hq s)) (ax:L=Ls s0 g0) (hp:Nat.blt p c.n=true)
 (uV:∀x s R,step x s R->∀g (q1:bq) (re q2:aa Nat) (l D:Nat) (rec:Loop),rec.state=.ready->
  ay ⟨c.P,c.n,q1,re,q2,some l,[]⟩ (Exit.then (OF ⟨c.P,c.n,q1,re,q2,some l,[]⟩ l body (acN ⟨c.P,c.n,q1,re,q2,some l,[]⟩ cn l D {rec with state:=.busy} Ls Lx R)) (λ_ _ _=>False)) assign ((p,τ x)::E) (⟨some l,.is (.loop rec)⟩::⟨some D,.fJ⟩::Ls s g))
 (tn:∀cH,k (.inl cH) k1->∀g D,aq {c with ds:=tt D::c.ds} Q .normal E (⟨some D,.fJ⟩::Ls cH g))
 (Iw:∀q,k (.inr q) k1->∀g D,ay {c with ds:=tt D::c.ds} Q (cn q) E (⟨some D,.fJ⟩::Lx q g)):
 ay c Q (.rangeFunc (.tmp gt) #[p] assign body) E L:=λa W st=>by
 subst ax
 refine wpIn_rangeFunc λfn Of=>?_
 show ∃l mark BS d aow Fj args aqE,(Instr.enterLoop fn a.tmps #[p] assign body c.rd).run c.P W=_∧_
 rw[ak]
 obtain⟨rec,mw⟩:∃rec:Loop,rec= {state:=.ready,pending:=none,fn,tmps:=a.tmps,params:= #[p],assign,body,defers:=W.heap.size}:=⟨_,rfl⟩
 obtain⟨v,JD,fu,Cf,aso⟩:=st.env gt _ bH
 obtain⟨ix,JE⟩:∃ix,(W.alloc (.deferred (some []))).alloc (.loop rec)=ix:=⟨_,rfl⟩
 have s1:=(st.alloc (o:=.deferred (some [])) (cp:=.fJ) I).alloc (o:=.loop rec) (cp:=.is (.loop rec)) I
 rw[JE,K4]at s1
 obtain⟨D,ml⟩:∃D,D=W.heap.size:=⟨_,rfl⟩
 obtain⟨l,ao⟩:∃l,l=W.heap.size+1:=⟨_,rfl⟩
 have JF:=run_enterLoop_outer (P:=c.P) (w:=W) fn a.tmps #[p] assign body
 rw[<-mw,JE,<-ao,<-ml]at JF
 rw[<-ao,<-ml]at s1
 obtain⟨nK,tP⟩:∃nK:σ->γ->aa aI,nK=λs g=>⟨some l,.is (.loop rec)⟩::⟨some D,.fJ⟩::Ls s g:=⟨_,rfl⟩
 obtain⟨q8,JG⟩:∃q8:ε->γ->aa aI,q8=λq g=>⟨some l,.is (.loop {rec with state:=.done,pending:=some (cn q)})⟩::⟨some D,.fJ⟩::Lx q g:=⟨_,rfl⟩
 have s2:bP c E (nK s0 g0) a ix:=by rw[tP];exact s1
 have Tz:gL (ks (nK s0 g0)++c.b3) ix rP fu:=by
  have h1:(J.kP f rP).holds (ks (nK s0 g0)++c.b3) ix v:=by
   obtain⟨Fi,h1,ae⟩:=s2.env gt _ bH;rw[JD]at h1;cases h1;exact ae
  obtain⟨TA,ar,aK⟩:=h1;rw[Cf]at ar;have:TA=fu:=by injection ar with _ _ ar;injection ar with ar;exact ar.symm
  rw[<-this];exact aK
 have JH:bP c E ((nK s0 g0)++[]) a ix:=by rw[mM];exact s2
 have Ix:=JH.NO
 simp only[ks,List.nil_append]at Ix
 have S9:NP c.P (.func (.yield l) #[] #[]) τ nK q8 step (λcR W'=>Ext (ks (nK s0 g0)++c.b3) ix cR W'):=by
  refine⟨l,rfl,λx s CA hs g A rj v2 iG hle ba=>?_⟩;have I3:=hle;rw[tP]at I3;obtain⟨o,dH,fg⟩:=I3.ok ⟨some l,.is (.loop rec)⟩ (by simp);have tw:o=.loop rec:=fg;subst tw;have hy:=run_yield (P:=c.P) (args:= #[v2]) dH (by rw[mw];rfl);refine⟨_,_,_,_,hy,roundIn_of_wpIn cZ ?_⟩;have ar:rec.assign=assign:=by rw[mw]
  have aK:rec.body=body:=by rw[mw]
  have cr:rec.params= #[p]:=by rw[mw]
  have e4:rec.tmps=a.tmps:=by rw[mw]
  rw[ar,aK,cr,e4];refine L6 (n:=9) I ?_;have Sw:((#[p]:Array Tmp).zip #[v2]).foldl (λtmps (t,a)=>tmps.setIfInBounds t a) a.tmps=a.tmps.setIfInBounds p v2:=by simp
  rw[Sw];subst tP JG;refine wpIn_mono ((uV x s CA hs g rj (ks (⟨some l,.is (.loop rec)⟩::⟨some D,.fJ⟩::Ls s g)) A l D rec (by rw[mw])) {tmps:=a.tmps.setIfInBounds p v2,defers:=[]} rj ?_) ?_
  ·have kS:p<c.n:=by simpa using hp
   exact
   {defers:=rfl
    size:=by simp[s2.size]
    env:=λt tH fh=>by
     simp only[look]at fh;by_cases e:Nat.beq p t=true
     ·rw[e]at fh;simp only[cond_true,gy]at fh;subst fh;have:=fx.1 e;subst this;exact⟨v2,by simp[s2.size,kS],ba⟩
     simp only[lX]at e;rw[e]at fh;simp only[cond_false]at fh;obtain⟨u,h1,ae⟩:=s2.env t tH fh;have dm:p≠t:=λh=>by rw[fx.2 h]at e;cases e
     exact⟨u,by rw[OO dm];exact h1,tH.mono iG ae⟩
    dI:=.refl _ _
    own:=hle.ok
    nodup:=hle.nodup
    lt:=hle.lt
    fO:=λk hk _=>hk
    eG:=hle.eG}
  intro e a3 atN hq;cases e with
  | normal=>
    obtain⟨Uu,TB,hb⟩:=hq
    refine⟨Uu,TB,L6 (n:=9) I (wpIn_mono hb ?_)⟩
    intro e a5 Kl Og
    have fin:∀(jump:aA Code) {Lr:aa aI},bP ⟨c.P,c.n,rj,ks (⟨some l,.is (.loop rec)⟩::⟨some D,.fJ⟩::Ls s g),A,some l,[]⟩ [] (⟨some l,.is (.loop {rec with state:=.busy})⟩::⟨some D,.fJ⟩::Lr) a5 Kl->
     ∃r4,(Instr.endRound l jump).run c.P Kl=.ok (.bool jump.isNone) r4∧bP ⟨c.P,c.n,rj,ks (⟨some l,.is (.loop rec)⟩::⟨some D,.fJ⟩::Ls s g),A,some l,[]⟩ [] (⟨some l,.is (.loop {rec with state:=if jump.isNone then .ready else .done,pending:=jump})⟩::⟨some D,.fJ⟩::Lr) a5 r4:=λjump Lr jz=>by
     obtain⟨o,h1,ae⟩:=jz.own ⟨some l,.is (.loop {rec with state:=.busy})⟩ (by simp)
     have mB:o=.loop {rec with state:=.busy}:=ae
     subst mB
     exact⟨_,run_endRound jump h1,jz.tv (i:=0) I I⟩
    rcases Og with⟨cH,jX,rfl,dY,jz⟩|⟨q,jX,aC,rfl,dY,jz⟩
    ·obtain⟨r4,bp,km⟩:=fin none jz
     refine⟨_,r4,bp,.inl ⟨cH,jX,?_⟩⟩
     have JI:({rec with state:=if (none:aA Code).isNone then .ready else .done,pending:=none}:Loop)=rec:=by rw[mw];rfl
     rw[JI]at km
     exact km.ends (ρ:=λ_:γ=>J.of true) (Lo:=λg=>⟨some l,.is (.loop rec)⟩::⟨some D,.fJ⟩::Ls cH g) dY (zr _) (of_bool.2 I)
    obtain⟨r4,bp,km⟩:=fin (some (cn q)) jz
    have key:kB (ks (⟨some l,.is (.loop rec)⟩::⟨some D,.fJ⟩::Ls s g)) A rj (λ_:γ=>J.of false) (λg=>⟨some l,.is (.loop {rec with state:=.done,pending:=some (cn q)})⟩::⟨some D,.fJ⟩::Lx q g) (.returned (.bool false)) r4:=
     km.ends (ρ:=λ_:γ=>J.of false) (Lo:=λg=>⟨some l,.is (.loop {rec with state:=.done,pending:=some (cn q)})⟩::⟨some D,.fJ⟩::Lx q g) dY (zr _) (of_bool.2 I)
    exact Wq aC bp (.inr ⟨q,jX,key⟩)
  |exit id=>exact hq.elim
  |goto t=>exact hq.elim
  |ret=>exact hq.elim
  |panic ou=>exact hq.elim
  |outgrown=>exact hq.elim
 have BF:=pN.go nK q8 hq (λs g=>⟨some l,.is (.loop rec)⟩::⟨some D,.fJ⟩::lO s g) (λs g=>by rw[tP];simp only[qn,List.cons_append]) step s0 g0 (λr=>k r k1) aE c.b3 ix (.func (.yield l) #[] #[]) fu Ix Tz S9
 have lh:a.eval (.tmp gt)=.func (.func f) #[] fu.toArray:=by simp[Act.eval,JD,Cf]
 refine⟨l,[tt D],ix,{target:=.fn (.func f) fu.toArray,args:= #[.func (.yield l) #[] #[]]},ix,f,#[.func (.yield l) #[] #[]]++fu.toArray,ix,JF,?_,λ_ _=>trivial,?_,λh=>by simp at h,?_⟩
 ·simp only[resolve,lh]
  simp[go_sem]
 ·simp[invoke,go_sem,cj.run]
 refine CallsIn.Q6 ?_
 have Sx:(#[.func (.yield l) #[] #[]]++fu.toArray:Array bt)=(.func (.yield l) #[] #[]::fu).toArray:=by simp
 rw[Sx]
 refine BF.mono λe Uv ⟨atO,⟨⟨r,acO⟩,dY⟩,he,aW,az,aQ,a7,bp⟩=>?_
 subst he
 have r5:=JH.after aW az (by simpa[ks]using aQ) (by simpa[ks]using a7)
 rw[mM]at r5
 cases r with
 | inl cH=>
   simp only[Lr]at r5
   subst tP
   obtain⟨o,dH,fg⟩:=r5.own ⟨some l,.is (.loop rec)⟩ (by simp)
   have tw:o=.loop rec:=fg
   subst tw
   have nb:=LC (P:=c.P) dH (by rw[mw];simp)
   have kS:rec.pending=none:=by rw[mw]
   rw[kS]at nb
   refine⟨none,_,nb,?_⟩
   have xe:=(r5.tv (i:=0) (cp':=.is (.loop {rec with state:=.exhausted})) (o':=.loop {rec with state:=.exhausted}) I I).sw 1
   rw[kS]at xe
   exact tn cH acO dY D _ _ (xe.mark D)
 | inr q=>
   simp only[Lr]at r5
   subst JG
   obtain⟨o,dH,fg⟩:=r5.own ⟨some l,.is (.loop {rec with state:=.done,pending:=some (cn q)})⟩ (by simp)
   have tw:o=.loop {rec with state:=.done,pending:=some (cn q)}:=fg
   subst tw
   have nb:=LC (P:=c.P) dH (by simp)
   refine⟨some (cn q),_,nb,?_⟩
   have xe:=(r5.tv (i:=0) (cp':=.is (.loop {rec with state:=.exhausted,pending:=some (cn q)})) (o':=.loop {rec with state:=.exhausted,pending:=some (cn q)}) I I).sw 1
   exact Iw q acO dY D _ _ (xe.mark D)
end
def ah.any(α:Type):ah α:=λQ=> ∀x,Q x
def ah.any_bind{α β:Type}{k:α->ah β}{R:β->Prop}(h:ah.bind (ah.any α) k R)(x:α):k x R:=h x
def gL.append{A:aa Nat}{W:bq}:∀{τs σs:aa J} {vs us:aa bt},gL A W τs vs->gL A W σs us->gL A W (τs++σs) (vs++us)
 |_,_,_,_,.nil,h=>h
 |_,_,_,_,.cons h r,ae=>.cons h (r.append ae)
section
variable{c:cC}{E:aa (Nat×J)}{L:aa aI}{ops:Array Oper}{Q:Exit->Act->bq->Prop}
variable{d:aA Tmp}{ty:bF}{pos:String}{af:Array Edge}{g:aA (Nat×Bool)}{x y:ca}{t t2:bF}
def fa(c:cC)(E:aa (Nat×J))(L:aa aI)(o:Oper){δ:Type}(ρ:δ->J)(L':δ->aa aI):Prop:=
 ∀a W,bP c E L a W->h0 c.P o a W λv W'=> ∃q,bP c E (L' q) a W'∧(ρ q).holds (ks (L' q)++c.b3) W' v
def ad.rb{o:Oper}{rest:aa Oper}{bc:Nat}{δ:Type}{ρ:δ->J}{L':δ->aa aI}(h:fa c E L o ρ L')(bH:o.guard=none)(hd:o.dst=some bc)(aM:Nat.blt bc c.n=true)
 (k:∀q,ad c ops Q rest ((bc,ρ q)::E) (L' q)):ad c ops Q (o::rest) E L:=λa W s=>
 iO bH (h a W s) λv W' ⟨q,f,ba⟩=>by
  rw[hd];exact k q _ _ (f.put (by simpa using aM) ba)
def ad.adv{o:Oper}{rest:aa Oper}{bc j gs:Nat}{b want:Bool}{δ β:Type}{σ:β->J}{L2:β->aa aI}{K:β->Prop}{val:δ->β}{ρ:δ->J}{L':δ->aa aI}(bH:o.guard=some (j,want))(aC:(ops[j]?).bind (·.dst)=some gs)
 (ao:look E gs=some (.of b)) (hd:o.dst=some bc) (aM:Nat.blt bc c.n=true) (h:b=want->fa c E L o ρ L')
 (h1:b=want->∀q,K (val q)∧ρ q=σ (val q)∧L' q=L2 (val q)) (ae: ¬b=want->∃y,K y∧L=L2 y)
 (k:∀y,K y->ad c ops Q rest ((bc,.cond (b=want) (σ y))::E) (L2 y)):ad c ops Q (o::rest) E L:=λa W s=>by
 have hy:=LZ aC ao s
 unfold cC.tG wpListIn
 by_cases hb:b=want
 ·rw[bk (by simp[Region.wanted,bH,hy,hb])]
  refine((h hb a W s).wpIn λv W' ⟨q,f,ba⟩=>?_)
  obtain⟨ar,aK,cr⟩:=h1 hb q
  rw[aK]at ba
  rw[cr]at f ba
  rw[hd]
  exact k _ ar _ _ (f.put (by simpa using aM) ⟨λ_=>ba,λh=>absurd hb h⟩)
 rw[bf (by simp[Region.wanted,bH,hy,hb])]
 rw[hd]
 obtain⟨y,ar,aK⟩:=ae hb
 rw[aK]at s
 exact⟨λ_ _=>trivial,k y ar _ _ (s.put (by simpa using aM) ⟨λh=>absurd h hb,λ_=>rfl⟩)⟩
def fa.perm{fD:aa aI}{o:Oper}{δ:Type}{ρ:δ->J}{L' L2:δ->aa aI}(p:L.Perm fD)(adw:∀q,(L' q).Perm (L2 q))(h:fa c E fD o ρ L'):fa c E L o ρ L2:=λa W s=>by
 have:=h a W (s.perm p);unfold h0 at this⊢;exact vP (λiw W' ⟨v,h1,q,ae,az⟩=>⟨v,h1,q,ae.perm (adw q),(ρ q).mono (po (adw q)) az⟩) this
def fa.to{o:Oper}{δ:Type}{ρ:δ->J}{L' L2:δ->aa aI}(e:∀q,L' q=L2 q)(h:fa c E L o ρ L'):fa c E L o ρ L2:=by
 have:L'=L2:=funext e;subst this;exact h
def fa.jl{α:Type}[aj α]{o:Oper}{i s cap T:Nat}{key:aA Nat}{xs:aa α}{δ:Type}{ρ:δ->J}{L':δ->aa aI}(ao:look E s=some (.eq (aH key xs.length cap)))(ax:L[i]? =some ⟨key,.row T xs cap⟩)
 (h:fa c ((s,.of xs)::E) (L.set i ⟨none,.dead⟩) o ρ L'):fa c E L o ρ L':=λa W st=>by
 have h1:=h a W (st.freeze ao ax)
 unfold h0 at h1⊢
 refine vP (λiw W' ⟨v,ae,q,cH,az⟩=>⟨v,ae,q,{cH with env:=λt τ fh=>?_},az⟩) h1
 by_cases e:Nat.beq s t=true
 ·have:=fx.1 e
  subst this
  rw[ao]at fh
  cases fh
  obtain⟨v,aQ,a7⟩:=st.env s _ ao
  exact⟨v,aQ,a7⟩
 refine cH.env t τ ?_
 simp only[look]
 rw[lX]at e
 rw[e]
 exact fh
def fa.aqG{o:Oper}{δ:Type}{τ:J}(h:fa c E L o (λ_:δ=>τ) (λ_=>L)):fB c E L o τ:=λa W s=>by
 have:=h a W s;unfold h0 at this⊢;exact vP (λiw W' ⟨v,h1,q,ae,az⟩=>⟨v,h1,ae,az⟩) this
def fa.call{o:Oper}{f:FuncId}{ra:Act->aa bt}{τs:aa J}{Lin Lr:aa aI}{δ:Type}{ρ:δ->J}{Lo:δ->aa aI}(h:bV c.P f τs Lin ρ Lo)
 (ak:∀a W,bP c E (Lin++Lr) a W->(execOp a.eval o).run c.P W=.ok (.enter f (ra a).toArray) W∧gL (ks (Lin++Lr)++c.b3) W τs (ra a)):fa c E (Lin++Lr) o ρ (λq=>Lo q++Lr):=λa W s=>by
 obtain⟨j7,an⟩:=ak a W s
 have lB:=s.nodup
 rw[e1]at lB
 obtain⟨nJ,sL,qs⟩:=pS.1 lB
 have h2:Ext (ks (Lin++Lr)++c.b3) W (ks Lin++(ks Lr++c.b3)) W:=DW
 have eB:∀k∈ks Lr++c.b3,k<W.heap.size∧k∉ks Lin:=λk hm=>by
  rcases cz.1 hm with hm|hm
  ·exact⟨s.lt k (by rw[e1];exact cz.2 (.inr hm)),λh=>qs k h k hm I⟩
  obtain⟨h1,ae⟩:=s.eG k hm;exact⟨h1,λh=>ae (by rw[e1];exact cz.2 (.inl h))⟩
 have ch:∀k∈ks Lin,k<W.heap.size:=λk hm=>s.lt k (by rw[e1];exact cz.2 (.inl hm))
 refine .wa (f:=f) (args:=(ra a).toArray) (W':=W) j7 ?_
 refine(h (ks Lr++c.b3) W (ra a) eB nJ ch (λe he=>aI.uL (s.own e (cz.2 (.inl he))) h2 λ_ _=>rfl) (an.mono h2)).mono λe W' ⟨v,bc,he,aW,h1,ae,az,aQ⟩=>?_
 exact⟨v,he,bc,s.after aW h1 ae az,(ρ bc).mono Md aQ⟩
def fa.aaM{o:Oper}{bM:Type}[dZ bM]{hp:aL bM}{Lin Lr:aa aI}{δ:Type}{ρ:δ->J}{Lo:δ->aa aI}{hq:δ->aL bM}(n m:Nat)(ax:L.drop n=aX hp)(h1:(L.take n).take m=Lin)(ae:(L.take n).drop m=Lr)
 (h:fa c E ((Lin++aX hp)++Lr) o ρ (λq=>(Lo q++aX (hq q))++Lr)):fa c E L o ρ (λq=>(Lo q++Lr)++aX (hq q)):=by
 have e:L=(Lin++Lr)++aX hp:=by rw[<-h1,<-ae,gp,<-ax,gp]
 clear ax h1 ae
 subst e
 exact h.perm mR λq=>mR
def fa.dX{f:FuncId}{xs:aa ca}{ats:Array bF}{bM:Type}[dZ bM]{hp:aL bM}{τs:aa J}{Lin Lr:aa aI}{δ:Type}{ρ:δ->J}{Lo:δ->aa aI}{hq:δ->aL bM}(n m:Nat)(ax:L.drop n=aX hp)(cj:bL c.P f)(h:bV c.P f τs (Lin++aX hp) ρ (λd=>Lo d++aX (hq d)))
 (h1:(L.take n).take m=Lin) (ae:(L.take n).drop m=Lr) (an:iF c E L xs τs):fa c E L ⟨d,.call ⟨.value (.func f),xs.toArray,ats⟩,ty,pos,af,g⟩ ρ (λq=>(Lo q++Lr)++aX (hq q)):=by
 have e:L=(Lin++Lr)++aX hp:=by rw[<-h1,<-ae,gp,<-ax,gp]
 refine fa.aaM n m ax h1 ae (fa.call (ra:=λa=>xs.map a.eval) h λa W s=>⟨by simp[execOp,resolve,Deferred.ofValue,Act.eval,invoke,cj.run],?_⟩)
 subst e
 exact(an.holds a W (s.perm mR.symm)).mono (po mR)
def fa.nz{f:FuncId}{xs:aa ca}{ats:Array bF}{τs:aa J}{Lin Lr:aa aI}{δ:Type}{ρ:δ->J}{Lo:δ->aa aI}(m:Nat)(cj:bL c.P f)(h:bV c.P f τs Lin ρ Lo)
 (h1:L.take m=Lin) (ae:L.drop m=Lr) (an:iF c E L xs τs):fa c E L ⟨d,.call ⟨.value (.func f),xs.toArray,ats⟩,ty,pos,af,g⟩ ρ (λq=>Lo q++Lr):=by
 have e:L=Lin++Lr:=by rw[<-h1,<-ae,gp]
 clear h1 ae
 subst e
 exact fa.call (ra:=λa=>xs.map a.eval) h λa W s=>⟨by simp[execOp,resolve,Deferred.ofValue,Act.eval,invoke,cj.run],an.holds a W s⟩
def aU.akw{lr:ca}{f:FuncId}{tx τs:aa J}{xs:aa ca}{ats:Array bF}(cj:bL c.P f)(aW:aU c E L lr (.kP f tx))(an:iF c E L xs τs){a:Act}{W:bq}(s:bP c E L a W):
 ∃fu:aa bt,(execOp a.eval ⟨d,.call ⟨.value lr,xs.toArray,ats⟩,ty,pos,af,g⟩).run c.P W=.ok (.enter f (xs.map a.eval++fu).toArray) W∧gL (ks L++c.b3) W (τs++tx) (xs.map a.eval++fu):=by
 obtain⟨fu,h1,ae⟩:=aW a W s
 exact⟨fu,by simp[execOp,resolve,Deferred.ofValue,h1,invoke,cj.run],(an.holds a W s).append ae⟩
def fa.kP{lr:ca}{f:FuncId}{tx τs:aa J}{xs:aa ca}{ats:Array bF}{Lin Lr:aa aI}{δ:Type}{ρ:δ->J}{Lo:δ->aa aI}(m:Nat)(cj:bL c.P f)(aW:aU c E L lr (.kP f tx))(h:bV c.P f (τs++tx) Lin ρ Lo)
 (h1:L.take m=Lin) (ae:L.drop m=Lr) (an:iF c E L xs τs):fa c E L ⟨d,.call ⟨.value lr,xs.toArray,ats⟩,ty,pos,af,g⟩ ρ (λq=>Lo q++Lr):=by
 have e:L=Lin++Lr:=by rw[<-h1,<-ae,gp]
 clear h1 ae
 subst e
 intro a W s
 obtain⟨fu,az,aQ⟩:=aU.akw (d:=d) (ty:=ty) (pos:=pos) (af:=af) (g:=g) (ats:=ats) cj aW an s
 have lB:=s.nodup
 rw[e1]at lB
 obtain⟨nJ,sL,qs⟩:=pS.1 lB
 have h2:Ext (ks (Lin++Lr)++c.b3) W (ks Lin++(ks Lr++c.b3)) W:=DW
 have eB:∀k∈ks Lr++c.b3,k<W.heap.size∧k∉ks Lin:=λk hm=>by
  rcases cz.1 hm with hm|hm
  ·exact⟨s.lt k (by rw[e1];exact cz.2 (.inr hm)),λh=>qs k h k hm I⟩
  obtain⟨h1,ae⟩:=s.eG k hm;exact⟨h1,λh=>ae (by rw[e1];exact cz.2 (.inl h))⟩
 have ch:∀k∈ks Lin,k<W.heap.size:=λk hm=>s.lt k (by rw[e1];exact cz.2 (.inl hm))
 refine .wa (f:=f) (W':=W) az ?_
 refine(h (ks Lr++c.b3) W _ eB nJ ch (λe he=>aI.uL (s.own e (cz.2 (.inl he))) h2 λ_ _=>rfl) (aQ.mono h2)).mono λe W' ⟨v,bc,he,aW,h1,ae,az,aQ⟩=>?_
 exact⟨v,he,bc,s.after aW h1 ae az,(ρ bc).mono Md aQ⟩
def iF.perm{fD:aa aI}(p:L.Perm fD):∀{xs:aa ca} {τs:aa J},iF c E L xs τs->iF c E fD xs τs
 |[],[],h=>h
 |_::_,_::_,h=>⟨h.1.perm p,iF.perm p h.2⟩
 |[],_::_,h=>h.elim
 |_::_,[],h=>h.elim
def fa.ap7{lr:ca}{f:FuncId}{tx τs:aa J}{xs:aa ca}{ats:Array bF}{bM:Type}[dZ bM]{hp:aL bM}{Lin Lr:aa aI}{δ:Type}{ρ:δ->J}{Lo:δ->aa aI}{hq:δ->aL bM}(n m:Nat)(ax:L.drop n=aX hp)(cj:bL c.P f)(aW:aU c E L lr (.kP f tx))(h:bV c.P f (τs++tx) (Lin++aX hp) ρ (λd=>Lo d++aX (hq d)))
 (h1:(L.take n).take m=Lin) (ae:(L.take n).drop m=Lr) (an:iF c E L xs τs):fa c E L ⟨d,.call ⟨.value lr,xs.toArray,ats⟩,ty,pos,af,g⟩ ρ (λq=>(Lo q++Lr)++aX (hq q)):=by
 have e:L=(Lin++Lr)++aX hp:=by rw[<-h1,<-ae,gp,<-ax,gp]
 refine fa.aaM n m ax h1 ae ?_
 subst e
 refine fa.to (λq=>rfl) (fa.kP (Lin++aX hp).length cj (aW.perm mR) h Lh List.drop_left (an.perm mR))
def fa.obj{f:FuncId}{xs:aa ca}{ats:Array bF}{bM:Type}[dZ bM]{hp:aL bM}{p:Nat}{k:bM}{τs:aa J}{Lin:aa aI}{δ:Type}{ρ:δ->J}{Lo:δ->aa aI}(n:Nat)(k':δ->bM)(ax:L.drop n=aX hp)(hp':pat hp p=some k)(cj:bL c.P f)(h:bV c.P f τs Lin ρ Lo)
 (hk:dZ.gd p k=Lin) (lg:∀q,dZ.gd p (k' q)=Lo q) (an:iF c E L xs τs):fa c E L ⟨d,.call ⟨.value (.func f),xs.toArray,ats⟩,ty,pos,af,g⟩ ρ (λq=>L.take n++aX (cF hp p (k' q))):=by
 obtain⟨R,a6,br⟩:=vX hp'
 have e:L=L.take n++aX hp:=by rw[<-ax,gp]
 have cJ:∀{M X:aa aI},M.Perm (X++R)->(L.take n++M).Perm (X++(R++L.take n)):=λh=>oF.trans ((h.append_right _).trans (by rw[jE]))
 have TH:L.Perm (Lin++(R++L.take n)):=by
  conv=>lhs;rw[e]
  exact cJ (by rw[<-hk];exact a6)
 refine fa.perm TH (λq=>(cJ (br (k' q))).symm) ?_
 refine fa.to (λq=>by rw[lg]) (fa.call (Lr:=R++L.take n) (ra:=λa=>xs.map a.eval) h λa W s=>⟨by simp[execOp,resolve,Deferred.ofValue,Act.eval,invoke,cj.run],?_⟩)
 exact(an.holds a W (s.perm TH.symm)).mono (po TH)
def fB.obj{f:FuncId}{xs:aa ca}{ats:Array bF}{bM:Type}[dZ bM]{hp:aL bM}{p:Nat}{k:bM}{τs:aa J}{Lin:aa aI}{δ:Type}{τ:J}(n:Nat)(ax:L.drop n=aX hp)(hp':pat hp p=some k)(cj:bL c.P f)(h:bV c.P f τs Lin (λ_:δ=>τ) (λ_=>Lin))
 (hk:dZ.gd p k=Lin) (an:iF c E L xs τs):fB c E L ⟨d,.call ⟨.value (.func f),xs.toArray,ats⟩,ty,pos,af,g⟩ τ:=by
 have e:L=L.take n++aX hp:=by rw[<-ax,gp]
 have yO:cF hp p k=hp:=by
  clear e ax h hk;induction hp with
  |nil=>rfl
  | cons z r b6=>
    obtain⟨q,atT⟩:=z
    simp only[pat]at hp'
    simp only[cF]
    split at hp'
    ·rename_i e;simp only[gy]at hp';rw[bk e,hp']
    rename_i e;rw[bf e,b6 hp']
 refine fa.aqG (fa.to (λq=>?_) (fa.obj (d:=d) (ty:=ty) (pos:=pos) (af:=af) (g:=g) (ats:=ats) n (λ_=>k) ax hp' cj h hk (λ_=>hk) an))
 rw[yO,<-e]
def ad.ZX{l:aa Oper}{bM:Type}[dZ bM]{hp:aL bM}{p:Nat}{Lin Lr:aa aI}(n m:Nat)(mk:bM)(ax:L.drop n=aX hp)(h1:(L.take n).take m=Lin)(ae:(L.take n).drop m=Lr)(hk:dZ.gd p mk=Lin)(hm:p∈ks Lin)
 (k:∀a:Nat×aL bM,a.1∉hp.map (·.1)∧a.2=(a.1,mk)::hp->a.1=p->ad c ops Q l E (Lr++aX a.2)):ad c ops Q l E L:=λa W s=>by
 have e:L=(Lin++Lr)++aX hp:=by rw[<-h1,<-ae,gp,<-ax,gp]
 have cJ:L.Perm (Lr++aX ((p,mk)::hp)):=by
  rw[e,aX,hk,<-jE];exact oF.append_right _
 refine k (p,(p,mk)::hp) ⟨λJP=>?_,rfl⟩ I _ _ (s.perm cJ)
 have kQ:=s.nodup
 rw[e,e1,e1]at kQ
 exact(pS.1 kQ).2.2 p (cz.2 (.inl hm)) p (Zk JP) I
end
section
variable{c:cC}{E:aa (Nat×J)}{L:aa aI}{ops:Array Oper}{Q:Exit->Act->bq->Prop}
def fq.q{hs:aa dK}{i np:Nat}{o:Oper}{h:dK}(cB:fq c ops Q hs E L i o h):x1 c ops Q hs E L np i o h:=λhd E' L' h1 ae _=>cB hd E' L' h1 ae
structure HX(P:Program)(f:FuncId)(τs:List J){bM:Type}[dZ bM](hp:aL bM){α:Type}(τ:α->J)(run:∀{σ ε:Type},(α->σ->Option (σ⊕ε))->σ->Option (σ⊕ε)):Prop where
 go:∀{σ ε γ:Type} (Ls:σ->γ->List aI) (Lx:ε->γ->List aI) (lO:σ->γ->List aI),(∀s g,Ls s g=lO s g++aX hp)->Ty P f τs [] τ (run (σ:=σ) (ε:=ε)) Ls Lx
def HX.of{P:Program}{f:FuncId}{fn:Func}{code:Code}{n:Nat}{τs:aa J}{bM:Type}[dZ bM]{hp:aL bM}{α:Type}{τ:α->J}{run:∀{σ ε:Type},(α->σ->aA (σ⊕ε))->σ->aA (σ⊕ε)}
 (aW:P.funcs[f]? =some fn) (hb:fn.body=some code) (aM:fn.ntmps=n) (hlen:Nat.ble (τs.length+1) n=true)
 (h:∀{σ ε γ:Type} (Ls:σ->γ->aa aI) (Lx:ε->γ->aa aI) (lO:σ->γ->aa aI),(∀s g,Ls s g=lO s g++aX hp)->∀(step:α->σ->aA (σ⊕ε)) (s0:σ) (g0:γ) (r:σ⊕ε),run step s0=some r->
  ∀ W A u,Oe P u τ Ls Lx step (λcR W'=>Ext (ks (Ls s0 g0)++A) W cR W')->
    ay ⟨P,n,W,ks (Ls s0 g0),A,none,[]⟩ (bodyPost P fn (kB (ks (Ls s0 g0)) A W (λ_:γ=>.b7 []) (λg=>[]++Lr Ls Lx r g))) code (params 0 (.eq u::τs)) (Ls s0 g0)):HX P f τs hp τ run:=by
 refine⟨?_⟩
 intro σ ε γ Ls Lx lO qn step s0 g0 r aE A W u vs ao ba hy
 refine LA aW hb (wpIn_wide.1 (h Ls Lx lO qn step s0 g0 r aE W A u hy _ _ ?_))
 have w0:gL (ks (Ls s0 g0)++A) W (.eq u::τs) (u::vs):=.cons I ba
 have kX:=w0.length
 have hle:τs.length+1<=n:=pb hlen
 exact
 {defers:=rfl
  size:=by simp at kX;simp[aM,kX];omega
  env:=λt τ fh=>by
   obtain⟨_,v,ae,az⟩:=zW w0 0 t τ fh;refine⟨v,?_,az⟩;have ch:t<(u::vs).length:=(hh.1 ae).1;rw[vD (by simpa using ch)];simpa using ae
  dI:=.refl _ _
  own:=ao.ok
  nodup:=ao.nodup
  lt:=ao.lt
  fO:=λk hk _=>hk
  eG:=ao.eG}
def am5{bM:Type}[dZ bM]{σ γ:Type}{Ls lO:σ->γ->aa aI}{hp:aL bM}{s:σ}{g:γ}{p:Nat}{k:bM}{e:aI}(n:Nat)(ax:L.drop n=Ls s g)(qn:∀s g,Ls s g=lO s g++aX hp)(h:pat hp p=some k)(hk:dZ.gd p k=[e]):e∈L:=
 aab (hq:=λ_=>hp) n ax qn h hk
def Xd{gt p:Nat}{assign body:Code}{f:FuncId}{rP:aa J}{bM:Type}[dZ bM]{hp:aL bM}{α σ ε γ:Type}{τ:α->J}{run:∀{σ ε:Type},(α->σ->aA (σ⊕ε))->σ->aA (σ⊕ε)}
 {Ls:σ->γ->aa aI} {Lx:ε->γ->aa aI} {step:α->σ->aA (σ⊕ε)} {s0:σ} {g0:γ} {r:σ⊕ε} (lO:σ->γ->aa aI) (cn:ε->Code)
 (ak:c.rd=none) (cj:bL c.P f) (bH:look E gt=some (.kP f rP)) (pN:HX c.P f rP hp τ run) (aE:run step s0=some r) (qn:∀s g,Ls s g=lO s g++aX hp) (ax:L=Ls s0 g0) (hp':Nat.blt p c.n=true)
 (uV:∀x s r,step x s=some r->∀g (q1:bq) (re q2:aa Nat) (l D:Nat) (rec:Loop),rec.state=.ready->
  ay ⟨c.P,c.n,q1,re,q2,some l,[]⟩ (Exit.then (OF ⟨c.P,c.n,q1,re,q2,some l,[]⟩ l body (OE ⟨c.P,c.n,q1,re,q2,some l,[]⟩ cn l D {rec with state:=.busy} Ls Lx r)) (λ_ _ _=>False)) assign ((p,τ x)::E) (⟨some l,.is (.loop rec)⟩::⟨some D,.fJ⟩::Ls s g))
 (tn:∀cH,r=.inl cH->∀g D,aq {c with ds:=tt D::c.ds} Q .normal E (⟨some D,.fJ⟩::Ls cH g))
 (Iw:∀q,r=.inr q->∀g D,ay {c with ds:=tt D::c.ds} Q (cn q) E (⟨some D,.fJ⟩::Lx q g)):
 ay c Q (.rangeFunc (.tmp gt) #[p] assign body) E L:=
 ah9 (Lin:=[]) (run:=run) cn ak cj bH (λar aK q8=>pN.go (λs g=>ar::aK::Ls s g) q8 (λs g=>ar::aK::lO s g) (λs g=>by rw[qn];rfl)) aE ax hp' uV tn Iw
end
structure Raw where
 f:FuncId
 us:Option (List Value)
instance:Inhabited Raw:=⟨⟨0,none⟩⟩
def Raw.val:Raw->bt
 |⟨f,some us⟩=>.func (.func f) #[] us.toArray
 |⟨_,none⟩=>.nilFunc
instance:aj Raw where
 size:=1
 agg:=false
 rep _ _ cs x:=cs=[x.val]
 len h:=by rw[h];rfl
 one h:=by
  intro v ba;rw[h,hi]at ba;subst ba;rename_i x;obtain⟨f,us⟩:=x;cases us <;> rfl
 flat _:=rfl
 mono _ h:=h
instance:a1 Raw:=⟨[.nilFunc],λ_ _=>rfl⟩
def RO{A W v}{x:Raw}:(J.of x).holds A W v↔v=x.val:=by
 constructor
 ·intro h;exact oJ (by have:=h.1;exact this) h.2
 intro h;subst h;obtain⟨f,us⟩:=x;cases us <;> exact⟨rfl,rfl⟩
section
variable{c:cC}{E:aa (Nat×J)}{L:aa aI}{ops:Array Oper}{Q:Exit->Act->bq->Prop}
variable{d:aA Tmp}{ty:bF}{pos:String}{af:Array Edge}{g:aA (Nat×Bool)}{x y:ca}{t t2:bF}
def gL.eqs{A:aa Nat}{W:bq}:∀{us vs:aa bt},gL A W (us.map J.eq) vs->vs=us
 |[],_,.nil=>rfl
 |_::_,_,.cons h r=>by rw[r.eqs];congr 1
def gL.Sy{A:aa Nat}{W:bq}:∀{us:aa bt},gL A W (us.map J.eq) us
 |[]=>.nil
 |_::_=>.cons I .Sy
def aae{f:FuncId}{xs:aa ca}{us:aa bt}(an:iF c E L xs (us.map J.eq)):bj c E L ⟨d,.makeFunc (.func f) #[] xs.toArray,ty,pos,af,g⟩ (.of (⟨f,some us⟩:Raw)):=.pure λa W s=>
 ⟨.func (.func f) #[] us.toArray,by
   have h:=(an.holds a W s).eqs;simp[execOp,Instr.makeFunc,h],RO.2 I⟩
def aiK{f:FuncId}{us:aa bt}(an:aU c E L x (.of (⟨f,some us⟩:Raw))):aU c E L x (.kP f (us.map J.eq)):=λa W s=>
 ⟨us,RO.1 (an a W s),.Sy⟩
def ad.atL{o:Oper}{rest:aa Oper}{bc j gs:Nat}{b want:Bool}{β γ JN:Type}{m:ah β}{z:β}{k:β->ah JN}{R:JN->Prop}(h:ah.bind (bif decide (b=want)then m else ah.ret z) k R)(σ:β->J)(L2:β->γ->aa aI)(g0:γ)(ax:L=L2 z g0)
 (bH:o.guard=some (j,want)) (aC:(ops[j]?).bind (·.dst)=some gs) (ao:look E gs=some (.of b)) (hd:o.dst=some bc) (aM:Nat.blt bc c.n=true)
 (bE:b=want->m (λr=>k r R)->fa c E L o (λq: {r // k r R}×γ=>σ q.1.1) (λq=>L2 q.1.1 q.2))
 (nm:∀y g,k y R->ad c ops Q rest ((bc,.cond (b=want) (σ y))::E) (L2 y g)):ad c ops Q (o::rest) E L:=by
 by_cases hb:b=want
 ·have hm:m (λr=>k r R):=by
   have c8:(bif decide (b=want)then m else ah.ret z) (λr=>k r R):=h;rw[pV hb]at c8;exact c8
  exact ad.adv (β:=β×γ) (K:=λy=>k y.1 R) (σ:=λy=>σ y.1) (L2:=λy=>L2 y.1 y.2) (val:=λq=>(q.1.1,q.2)) bH aC ao hd aM (λ_=>bE hb hm) (λ_ q=>⟨q.1.2,rfl,rfl⟩) (λh=>absurd hb h) λy hy=>nm y.1 y.2 hy
 have hm:k z R:=by
  have c8:(bif decide (b=want)then m else ah.ret z) (λr=>k r R):=h;rw[ru hb]at c8;exact c8
 exact ad.adv (δ:=Unit) (β:=β×γ) (K:=λy=>k y.1 R) (σ:=λy=>σ y.1) (L2:=λy=>L2 y.1 y.2) (val:=λ_=>(z,g0)) (ρ:=λ_=>σ z) (L':=λ_=>L2 z g0) bH aC ao hd aM (λh=>absurd h hb) (λh=>absurd h hb) (λ_=>⟨(z,g0),hm,ax⟩) λy hy=>nm y.1 y.2 hy
end
section
variable{c:cC}{E:aa (Nat×J)}{L:aa aI}{ops:Array Oper}{Q:Exit->Act->bq->Prop}
def ad.ZY{l:aa Oper}{p q:Nat}(gh:Nat)(ao:look E gh=some (.eq (.pointer (some ⟨p,0,none⟩))))(he:q=p)(k:ad c ops Q l ((gh,.of (some q:Ref))::E) L):ad c ops Q l E L:=λa W s=>by
 subst he;refine k a W (s.less λt τ h=>?_);simp only[look]at h;by_cases e:Nat.beq gh t=true
 ·rw[e]at h;simp only[cond_true,gy]at h;have:=fx.1 e;subst this;subst h;exact⟨_,ao,λA W v ba=>x2.2 ba⟩
 simp only[lX]at e;rw[e]at h;exact⟨τ,h,λ_ _ _ h=>h⟩
end
section
variable{c:cC}{E:aa (Nat×J)}{L:aa aI}{ops:Array Oper}{Q:Exit->Act->bq->Prop}
def qR(ops:Array Oper)(n:Nat)(hs:aa (aA Nat×aa Nat×aa Nat×aa Nat))(E:aa Nat):Bool:=
 decide (hs.length=n)&&decide (n<=ops.size)&&decide (hs.filterMap (·.1)).Nodup&&((List.range n).all λm=>match hs[m]? with |some (some s,up,_)=> !E.contains s||(List.range n).all λk=>decide (k=m)||up.contains k|_=>true)&&
 ((List.range n).all λi=>match hs[i]? with
   |none=>false
   | some (_,up,rd,wr)=>
     (((ops[i]?).map λo=>(o.dst==(hs[i]?).bind (·.1))&&o.after.all λe=> !Region.binds .any e||decide (e.on<i)).getD false)&&
     (up.all λk=>Region.waitsFor .any ops i k||(List.range i).any λm=>Region.waitsFor .any ops i m&&((hs[m]?).map λh=>h.2.1.contains k).getD false)&&
     ((List.range n).all λk=>match hs[k]? with
       |none=>true
       | some (_,asx,_,acP)=>
         (!(decide (k<i)&&acP.any rd.contains)||up.contains k)&&(!(decide (i<k)&&acP.any λj=>rd.contains j||wr.contains j)||asx.contains i)))&&
 (decide (n=ops.size)||(Region.sinkB .any ops n&&Region.chainB .any ops n))&&
 Region.seqB .any ops (ops.size-n) n ((List.range n).foldl (λl i=>l.setIfInBounds i true) (Array.replicate ops.size false))
def ahp{n:Nat}{hs:aa dK}{np:Nat}(hw:∀h∈hs,∀j∈h.wr,j<np∨L.length<=j)(cI:qR ops n (lI hs) (E.map (·.1))=true)(cB:p4 c ops Q hs E L np 0 (ops.toList.take n) hs)
 (bE:∀hd,ad c ops Q (ops.toList.drop n) (im (λ_=>true) hd E 0 hs) (gx (λ_=>true) hd 0 hs L)):
 ∀ m (cb:Array Bool) (hd:Nat->Hid) (a:Act) (W:bq),((List.range n).filter λi=> !cb.getD i true).length<=m->HeadInv .any ops n cb->
   bP c (im (λi=>cb.getD i false) hd E 0 hs) (gx (λi=>cb.getD i false) hd 0 hs L) a W->wpAnyIn c.F 9 c.P .any ops Q (m+(ops.size-n)) cb a W:=by
 simp only[qR,gq,fk,nW]at cI
 obtain⟨⟨⟨⟨⟨⟨aoz,aM⟩,kQ⟩,abQ⟩,qi⟩,aoA⟩,Ta⟩:=cI
 have hlen:hs.length=n:=by simpa[lI]using aoz
 have tz:∀i,i<n->∃h o,hs[i]? =some h∧ops[i]? =some o:=λi au=>⟨hs[i]'(by omega),ops[i],by simp,by simp⟩
 have Iz:∀(i:Nat) (h:dK) (o:Oper),hs[i]? =some h->ops[i]? =some o->
  o.dst=h.slot∧(∀e∈o.after,Region.binds .any e=true->e.on<i)∧
  (∀k∈h.up,Region.waitsFor .any ops i k=true∨∃m,m<i∧Region.waitsFor .any ops i m=true∧∃x,hs[m]? =some x∧k∈x.up)∧
  (∀(k:Nat) (x:dK),hs[k]? =some x->(k<i->(∃j∈x.wr,h.rd.contains j=true)->k∈h.up)∧(i<k->(∃j∈x.wr,h.rd.contains j=true∨h.wr.contains j=true)->i∈x.up)):=by
  intro i h o au a8
  have ch:i<n:=by have:=(hh.1 au).1;omega
  have h1:=ns.1 qi i (nX.2 ch)
  rw[Ra au]at h1
  simp only[gq]at h1
  obtain⟨⟨ae,az⟩,aQ⟩:=h1
  simp only[a8,Option.map_some,Option.getD_some,gq,Option.bind_some,nv]at ae
  refine⟨ae.1,λe he hb=>?_,λk hk=>?_,λk x an=>?_⟩
  ·have:=Array.all_eq_true_iff_forall_mem.1 ae.2 e he
   simp[hb]at this
   exact this
  ·have:=ns.1 az k hk
   simp only[nW,pc,gq,nX]at this
   rcases this with a7|⟨m,a7,bp,cO⟩
   ·exact .inl a7
   have hm:m<hs.length:=by omega
   rw[Ra (pa hm)]at cO
   exact .inr ⟨m,a7,bp,hs[m],pa hm,by simpa using cO⟩
  have mb:k<n:=by have:=(hh.1 an).1;omega
  have:=ns.1 aQ k (nX.2 mb)
  rw[Ra an]at this
  simp only[gq,nW,zq,Bool.and_eq_false_iff,nr,O1]at this
  refine⟨λyN ⟨j,aC,aE⟩=>?_,λoY ⟨j,aC,aE⟩=>?_⟩
  ·rcases this.1 with(a7|a7)|a7
   ·exact absurd yN a7
   ·have:=xp.1 a7 j aC
    exact absurd aE this
   exact a7
  rcases this.2 with(a7|a7)|a7
  ·exact absurd oY a7
  ·have:=xp.1 a7 j aC
   simp only[nW]at this
   exact absurd aE this
  exact a7
 have Sz:∀(i j s:Nat) (x y:dK),hs[i]? =some x->hs[j]? =some y->x.slot=some s->y.slot=some s->i=j:=by
  have key:∀(l:aa dK),((lI l).filterMap (·.1)).Nodup->∀(i j s:Nat) (x y:dK),l[i]? =some x->l[j]? =some y->x.slot=some s->y.slot=some s->i=j:=by
   intro l;induction l with
   |nil=>intro _ i j s x y h;simp at h
   | cons z r b6=>
     intro kQ i j s x y au aC an hy
     have aE:((lI r).filterMap (·.1)).Nodup:=by
      cases b2:z.slot with
      |none=>simpa[lI,b2]using kQ
      | some w=>
        simp only[lI,oH,List.filterMap_cons,b2]at kQ
        exact(pf.1 kQ).2
     have I0:z.slot=some s->∀(q:Nat) (v:dK),r[q]? =some v->v.slot≠some s:=λb2 q v hq ba=>by
      simp only[lI,oH,List.filterMap_cons,b2]at kQ;exact(pf.1 kQ).1 (Pl.2 ⟨_,gJ.2 ⟨v,e6 hq,rfl⟩,ba⟩)
     cases i with
     | zero=>
       simp only[List.getElem?_cons_zero,gy]at au
       subst au
       cases j with
       |zero=>rfl
       |succ j=>simp only[List.getElem?_cons_succ]at aC;exact absurd hy (I0 an j y aC)
     | succ i=>
       simp only[List.getElem?_cons_succ]at au
       cases j with
       | zero=>
         simp only[List.getElem?_cons_zero,gy]at aC
         subst aC
         exact absurd an (I0 hy i x au)
       |succ j=>simp only[List.getElem?_cons_succ]at aC;rw[b6 aE i j s x y au aC an hy]
  exact key hs kQ
 have aoB:∀(t:Nat) (τ:J),look E t=some τ->∀(m:Nat) (h:dK),hs[m]? =some h->h.slot=some t->∀k,k<n->k≠m->k∈h.up:=by
  intro t τ ao m h hm jX k hk JQ;have pI:m<n:=by have:=(hh.1 hm).1;omega
  have h1:=ns.1 abQ m (nX.2 pI);rw[show(lI hs)[m]? =some (h.slot,h.up,h.rd,h.wr) by simp[lI,hm],jX]at h1;have Ew:t∈E.map (·.1):=by
   clear abQ h1 cB bE hm jX;induction E with
   |nil=>simp[look]at ao
   | cons x r b6=>
     obtain⟨s,σ⟩:=x
     simp only[look]at ao
     by_cases e:Nat.beq s t=true
     ·have:=fx.1 e;subst this;simp
     simp only[lX]at e
     rw[e]at ao
     simp only[oH,dW]
     exact .inr (b6 ao)
  replace h1:(!(E.map (·.1)).contains t||(List.range n).all λk=>decide (k=m)||h.up.contains k)=true:=h1;rw[show(E.map (·.1)).contains t=true by simpa using Ew]at h1;have ae:∀x,x<n->x=m∨x∈h.up:=by simpa using h1
  exact(ae k hk).resolve_left JQ
 have w1:∀(cb:Array Bool),HeadInv .any ops n cb->∀(d i:Nat),i<=d->∀(h:dK) (o:Oper),hs[i]? =some h->ops[i]? =some o->(∀e∈o.after,Region.binds .any e=true->cb.getD e.on false=true)->∀k∈h.up,cb.getD k false=true:=by
  intro cb inv d;induction d with
  | zero=>
    intro i au h o gQ EY hw k hk
    rcases (Iz i h o gQ EY).2.2.1 k hk with h1|⟨m,hm,_⟩
    ·obtain⟨vz,nL,e,he,hb,JR⟩:=Pa h1
     rw[EY]at nL;cases nL
     rw[<-JR];exact hw e he hb
    omega
  | succ d b6=>
    intro i au h o gQ EY hw k hk
    rcases (Iz i h o gQ EY).2.2.1 k hk with h1|⟨m,hm,h1,x,an,asy⟩
    ·obtain⟨vz,nL,e,he,hb,JR⟩:=Pa h1
     rw[EY]at nL;cases nL
     rw[<-JR];exact hw e he hb
    obtain⟨vz,nL,e,he,hb,JR⟩:=Pa h1
    rw[EY]at nL;cases nL
    have pI:=hw e he hb
    rw[JR]at pI
    obtain⟨aG,Ko,mc,JS⟩:=tz m (by have:=(hh.1 gQ).1;omega)
    exact b6 m (by omega) x Ko an JS (λe he hb=>inv.closed m Ko JS pI e he hb) k asy
 have tn:∀(cb:Array Bool) (hd:Nat->Hid) (a:Act) (W:bq),(∀i,i<n->cb.getD i true=true)->HeadInv .any ops n cb->
  bP c (im (λi=>cb.getD i false) hd E 0 hs) (gx (λi=>cb.getD i false) hd 0 hs L) a W->wpAnyIn c.F 9 c.P .any ops Q (ops.size-n) cb a W:=by
  intro cb hd a W IA inv st
  have ao:=ahj inv aM IA
  rw[<-ao]at Ta
  have aaN:(ops.toList.drop n).length=ops.size-n:=by simp
  rw[<-aaN]
  rw[<-aaN]at Ta
  refine P6 (ops.toList.drop n) n cb a W (λj=>by simp) Ta (bE hd a W ?_)
  have sP:∀m,m<hs.length->cb.getD (0+m) false=true:=λm hm=>by
   have h1:=IA m (by omega);have ae:m<cb.size:=by rw[inv.size];omega
   simpa[ae]using h1
  rw[WW (ls':=λ_=>true) sP,XU (ls':=λ_=>true) sP]at st
  exact st
 have more:∀f (cb:Array Bool) a W,wpAnyIn c.F 9 c.P .any ops Q f cb a W->wpAnyIn c.F 9 c.P .any ops Q (f+1) cb a W:=by
  intro f;induction f with
  |zero=>intro cb a W h;exact⟨λ_=>h.2,λi au=>by rw[h.1]at au;cases au⟩
  |succ f asz=>intro cb a W h;exact⟨h.1,λi au=>wpOpIn_mono (λiw rf c8=>asz _ iw rf c8) (h.2 i au)⟩
 intro m
 induction m with
 | zero=>
   intro cb hd a W hm inv st
   rw[jQ]
   refine tn cb hd a W (λi au=>?_) inv st
   cases h:cb.getD i true with
   |true=>rfl
   | false=>
     have:i∈(List.range n).filter λi=> !cb.getD i true:=uw.2 ⟨nX.2 au,by rw[h];rfl⟩
     rw[KJ.1 (Nat.le_zero.1 hm)]at this
     cases this
 | succ m b6=>
   intro cb hd a W hm inv st
   rw[show m+1+(ops.size-n)=(m+(ops.size-n))+1 by omega]
   by_cases aaO:∀i,i<n->cb.getD i true=true
   ·have h1:=tn cb hd a W aaO inv st
    have key:∀k,wpAnyIn c.F 9 c.P .any ops Q (k+(ops.size-n)) cb a W:=by
     intro k;induction k with
     |zero=>rw[jQ];exact h1
     |succ k asA=>rw[show k+1+(ops.size-n)=(k+(ops.size-n))+1 by omega];exact more _ _ _ _ asA
    exact more _ _ _ _ (key m)
   have hex:∃i,i<n∧cb.getD i true=false:=by
    false_or_by_contra;rename_i ae;exact aaO λi au=>by
     cases h:cb.getD i true with
     |true=>rfl
     |false=>exact absurd ⟨i,au,h⟩ ae
   have alz:∀t∈Region.ready .any ops cb,t<n:=by
    intro t Ob;rcases uz t n with h|h
    ·exact h
    obtain⟨i,au,l9⟩:=hex;have auv:n<ops.size∨n=ops.size:=by omega
    have auw:t<ops.size:=by
     obtain⟨_,o,a8,_⟩:=xz.1 Ob;exact(s5.1 a8).1
    rcases aoA with h1|h1
    ·omega
    exact absurd Ob (tail_waits h1.1 h1.2 (by omega) inv _ i I au l9 t h)
   refine⟨λbJ=>?_,λi au=>?_⟩
   ·exfalso
    have key:∀d i,i<=d->i<n->cb.getD i true=true:=by
     intro d;induction d with
     | zero=>
       intro i JT au
       cases ao:cb.getD i true with
       |true=>rfl
       | false=>
         obtain⟨h,o,gQ,a8⟩:=tz i au
         have:i∈Region.ready .any ops cb:=xz.2 ⟨ao,o,a8,λe he hb=>by have:=(Iz i h o gQ a8).2.1 e he hb;omega⟩
         rw[bJ]at this;cases this
     | succ d TI=>
       intro i JT au
       cases ao:cb.getD i true with
       |true=>rfl
       | false=>
         obtain⟨h,o,gQ,a8⟩:=tz i au
         have:i∈Region.ready .any ops cb:=xz.2 ⟨ao,o,a8,λe he hb=>by
          have h1:=(Iz i h o gQ a8).2.1 e he hb;have ae:=TI e.on (by omega) (by omega);have az:e.on<cb.size:=by rw[inv.size];omega
          simpa[az]using ae⟩
         rw[bJ]at this;cases this
    obtain⟨i,au,l9⟩:=hex
    have:=key i i (jF _) au
    rw[l9]at this;cases this
   have fQ:i<n:=alz i au
   obtain⟨l9,o,a8,Rc⟩:=xz.1 au
   obtain⟨h,_,gQ,_⟩:=tz i fQ
   have BT:cb.getD i false=false:=getD_both l9
   have abR:i<cb.size:=by rw[inv.size];omega
   have vd:((List.range n).filter λj=> !(cb.setIfInBounds i true).getD j true).length<=m:=by
    have:((List.range n).filter λj=> !(cb.setIfInBounds i true).getD j true).length<((List.range n).filter λj=> !cb.getD j true).length:=by
     refine Zi (λj=> !cb.getD j true) (λj=> !(cb.setIfInBounds i true).getD j true) i (by simp only[l9];rfl) ?_ (λj aC=>?_) n fQ
     ·simp[abR]
     by_cases e:i=j
     ·subst e;simp only[l9];rfl
     rw[getD_set_ne true e]at aC;exact aC
    omega
   have aqH:=inv.set au fQ
   obtain⟨abS,aub,aug,tA⟩:=Iz i h o gQ a8
   have abT:=w1 cb inv i i (jF _) h o gQ a8 Rc
   have Zm:∀(k:Nat) (x:dK),hs[k]? =some x->i<k->(∃j∈x.wr,h.rd.contains j=true∨h.wr.contains j=true)->cb.getD k false=false:=λk x an oY aC=>by
    have h1:=(tA k x an).2 oY aC;cases hk:cb.getD k false with
    |false=>rfl
    | true=>
      obtain⟨_,ok,_,hA⟩:=tz k (by have:=(hh.1 an).1;omega)
      have:=w1 cb inv k k (jF _) x ok an hA (λe he hb=>inv.closed k ok hA hk e he hb) i h1
      rw[BT]at this;cases this
   have Zn:hs=hs.take i++h::hs.drop (i+1):=by
    have tQ:i<hs.length:=by omega
    rw[pa tQ]at gQ;cases gQ;rw[OY];exact(gp i hs).symm
   have JU:(hs.take i).length=i:=by rw[fT];omega
   have sK:∀(t:Nat) (τ:J),look E t=some τ->∀(m:Nat) (x:dK),hs[m]? =some x->cb.getD (0+m) false=true->x.slot≠some t:=λt τ ao m x an Oi jX=>by
    rw[jQ]at Oi;have asB:i≠m:=λe=>by subst e;rw[BT]at Oi;cases Oi
    obtain⟨_,Ko,_,JS⟩:=tz m (by have:=(hh.1 an).1;omega);have:=w1 cb inv m m (jF _) x Ko an JS (λe he hb=>inv.closed m Ko JS Oi e he hb) i (aoB t τ ao m x an jX i fQ asB);rw[BT]at this;cases this
   have aaP:=(p4.get cB i h o gQ (by rw[k3,bk fQ,zg];exact a8))
   rw[jQ]at aaP
   have asC:=aaP hd (im (λi=>cb.getD i false) hd E 0 hs) (gx (λi=>cb.getD i false) hd 0 hs L) (λt τ ao=>?_) (λj e aC aE=>?_) (Rb hw)
   ·have hw:=Qa (K:=λa W=> ∃x,bP c (rO h.slot (h.τ (hQ h.up i (nh hd i x))) (im (λi=>cb.getD i false) hd E 0 hs)) (pE (gx (λi=>cb.getD i false) hd 0 hs L) (h.gf (hQ h.up i (nh hd i x))) h.wr) a W) a8 (asC a W st)
    refine wpOpIn_mono (λiw W' ⟨x,tN⟩=>?_) hw
    have EZ:∀j,j≠i->nh hd i x j=hd j:=λj aC=>by
     have:Nat.beq j i=false:=by
      cases hb:Nat.beq j i
      ·rfl
      exact absurd (fx.1 hb) aC
     simp only[nh,this,cond_false]
    have TJ:∀(j:Nat) (y:dK),hs[j]? =some y->cb.getD j false=true->hQ y.up j (nh hd i x)=hQ y.up j hd:=λj y hy aC=>by
     obtain⟨_,vz,_,nL⟩:=tz j (by have:=(hh.1 hy).1;omega);refine ah8 (EZ j λe=>by subst e;rw[BT]at aC;cases aC) λk hk=>EZ k λe=>?_;have:=w1 cb inv j j (jF _) y vz hy nL (λe he hb=>inv.closed j vz nL aC e he hb) k hk;subst e;rw[BT]at this;cases this
    have yP:(cb.setIfInBounds i true).getD i false=true:=by simp[abR]
    have jL:∀j,j≠i->(cb.setIfInBounds i true).getD j false=cb.getD j false:=λj aC=>getD_set_ne false (λe=>aC e.symm)
    refine b6 _ (nh hd i x) iw W' vd aqH ?_
    have aqI:gx (λj=>(cb.setIfInBounds i true).getD j false) (nh hd i x) 0 hs L=pE (gx (λi=>cb.getD i false) hd 0 hs L) (h.gf (hQ h.up i (nh hd i x))) h.wr:=by
     apply mL;intro j;rw[MJ,QM,MJ];by_cases aC:h.wr.contains j=true
     ·rw[bk aC];have ar:∀(ls:Nat->Bool) (g:Nat->Hid) (v:aA aI),(∀k x,hs[k]? =some x->i<k->x.wr.contains j=true->ls k=false)->od ls g j 0 hs v=(bif ls i then(od ls g j 0 (hs.take i) v).map (λ_=>h.gf (hQ h.up i g) j)else od ls g j 0 (hs.take i) v):=λls g v Jx=>by
       conv=>lhs;rw[Zn]
       rw[Qc,JU,jQ,od,aC,PG,Qv];intro k x an hw;rw[mo]at an;exact Jx (i+1+k) x an (by omega) hw
      have fb:∀k x,hs[k]? =some x->i<k->x.wr.contains j=true->cb.getD k false=false:=λk x an oY hw=>Zm k x an oY ⟨j,by simpa using hw,.inr aC⟩;rw[ar (λj=>(cb.setIfInBounds i true).getD j false) (nh hd i x) _ (λk x an oY hw=>by rw[jL k (by omega)];exact fb k x an oY hw),ar (λj=>cb.getD j false) hd _ fb];simp only[yP,BT,cond_true,cond_false];rw[L3 (ls':=λj=>cb.getD j false) (hd':=hd) λq x an _=>by
       have hq:q<i:=by have:=(hh.1 an).1;omega
       rw[k3,bk hq]at an;rw[jQ];exact⟨jL q (by omega),λao=>TJ q x an (by rw[jL q (by omega)]at ao;exact ao)⟩]
     rw[bf aC];refine L3 λq x an hw=>?_;rw[jQ];have hq:q≠i:=λe=>by subst e;rw[gQ]at an;cases an;exact aC hw
     exact⟨jL q hq,λao=>TJ q x an (by rw[jL q hq]at ao;exact ao)⟩
    rw[aqI]
    refine tN.less λt τ ao=>?_
    rcases XS ao with⟨j,y,h1,ae,az,aQ⟩|⟨h1,fb⟩
    ·rw [jQ]at ae aQ
     by_cases lj:j=i
     ·subst lj
      rw[gQ]at h1
      cases h1
      exact⟨τ,by rw[az,aQ];simp[rO,look,nZ],λ_ _ _ h=>h⟩
     rw[jL j lj]at ae
     rw[TJ j y h1 ae]at aQ
     have a7:=QN (ls:=λi=>cb.getD i false) (hd:=hd) (E:=E) (k:=0) h1 (by rw[jQ];exact ae) az λq z hq b2=>Sz q j t z y hq h1 b2 az
     rw[jQ,<-aQ]at a7
     refine⟨τ,?_,λ_ _ _ h=>h⟩
     cases JV:h.slot with
     |none=>exact a7
     | some s=>
       have dm:Nat.beq s t=false:=by
        cases hb:Nat.beq s t
        ·rfl
        have:=fx.1 hb;subst this;exact absurd (Sz j i s y h h1 gQ az JV) lj
       simp only[rO,look,dm,cond_false]
       exact a7
    have hb:=sK t τ h1
    have a7:=Qw (ls:=λi=>cb.getD i false) (hd:=hd) (E:=E) (k:=0) hb
    refine⟨τ,?_,λ_ _ _ h=>h⟩
    cases JV:h.slot with
    |none=>simp only[rO];rw[a7];exact h1
    | some s=>
      have dm:Nat.beq s t=false:=by
       cases rU:Nat.beq s t
       ·rfl
       have:=fx.1 rU;subst this;exact absurd JV (fb i h gQ (by rw[jQ];exact yP))
      simp only[rO,look,dm,cond_false]
      rw[a7];exact h1
   ·rcases YC ao with⟨j,aC,y,h1,ae,az⟩|h1
    ·have a7:=QN (ls:=λi=>cb.getD i false) (hd:=hd) (E:=E) (k:=0) h1 (by rw[jQ];exact abT j aC) ae λq z hq b2=>Sz q j t z y hq h1 b2 ae
     rw[jQ,<-az]at a7
     exact a7
    rw[Qw (sK t τ h1)];exact h1
   rw[MJ]at aC⊢
   rw[<-aC]
   conv=>lhs;rw[Zn]
   rw[Qc,Qv]
   ·refine L3 λq x an hw=>?_
    rw[jQ]
    have hq:q<i:=by have:=(hh.1 an).1;omega
    rw[k3,bk hq]at an
    exact⟨abT q ((tA q x an).1 hq ⟨j,by simpa using hw,aE⟩),λ_=>rfl⟩
   intro q x an hw
   rw[JU,jQ]
   cases q with
   |zero=>exact BT
   | succ q=>
     simp only[List.getElem?_cons_succ]at an
     rw[mo]at an
     exact Zm (i+(q+1)) x (by rw[<-an];congr 1;omega) (by omega) ⟨j,by simpa using hw,.inl aE⟩
def ay.MK{kj:Nat}{l:aa Oper}(n:Nat){np:Nat}(hm:c.P.follows .mixedOrders=true)(hs:aa dK)(ds:aa (aA Nat×aa Nat×aa Nat×aa Nat))(es:aa Nat)(et:lI hs=ds)(iT:E.map (·.1)=es)(cI:Gv.qR l.toArray n ds es=true)(yI:∀h∈hs,∀j∈h.wr,j<np∨L.length<=j)
 (cB:p4 c l.toArray Q hs E L np 0 (l.take n) hs) (bE:∀hd,ad c l.toArray Q (l.drop n) (im (λ_=>true) hd E 0 hs) (gx (λ_=>true) hd 0 hs L)):ay c Q (.region kj l.toArray true) E L:=λa W s=>by
 subst et iT
 refine wpIn_region_any hm ?_
 have aM:n<=l.toArray.size:=by
  simp only[Gv.qR,gq,fk]at cI;exact cI.1.1.1.1.1.2
 have SY:HeadInv .any l.toArray n (Array.replicate l.toArray.size false):=
  {size:=by simp
   closed:=λj vz _ ao=>by rw[getD_replicate_false]at ao;cases ao
   tail:=λt _ bE=>by simp at bE;simp[bE]}
 have h:=ahp yI (ops:=l.toArray) (Q:=Q) cI (by simpa using cB) (by simpa using bE) n (Array.replicate l.toArray.size false) (λ_ _=>none) a W.drew (qH (FO _ _) (by simp)) SY ?_
 ·rw[show n+(l.toArray.size-n)=l.toArray.size by omega]at h
  exact h
 have h1:∀(hs:aa dK) (k:Nat),im (λi=>(Array.replicate l.toArray.size false).getD i false) (λ_ _=>none) E k hs=E:=by
  intro hs;induction hs with
  |nil=>intro k;rfl
  | cons h r b6=>
    intro k
    have ae:=b6 (k+1)
    simp only[getD_replicate_false]at ae
    unfold im
    simp only[getD_replicate_false]
    exact ae
 have ae:∀(hs:aa dK) (k:Nat) (L:aa aI),gx (λi=>(Array.replicate l.toArray.size false).getD i false) (λ_ _=>none) k hs L=L:=by
  intro hs;induction hs with
  |nil=>intro k L;rfl
  |cons h r b6=>intro k L;rw[gx,b6];simp only[getD_replicate_false,cond_false]
 rw[h1,ae]
 exact s.world (Fr.drew W)
def ay.atU{kj:Nat}{l:aa Oper}{ds:aa (aA Nat×aa Nat×aa Nat×aa Nat)}(n np:Nat)(hm:c.P.follows .mixedOrders=true)(hs:aa dK)(es:aa Nat)
 (cB:p4 c l.toArray Q hs E L np 0 (l.take n) hs) (bE:∀hd,ad c l.toArray Q (l.drop n) (im (λ_=>true) hd E 0 hs) (gx (λ_=>true) hd 0 hs L))
 (et:lI hs=ds:=by rfl) (iT:E.map (·.1)=es:=by rfl) (cI:Gv.qR l.toArray n ds es=true:=by kernel_rfl) (hw:(ds.all λd=>d.2.2.2.all λj=>Nat.blt j np)=true:=by kernel_rfl):ay c Q (.region kj l.toArray true) E L:=
 ay.MK n hm hs ds es et iT cI (aaI et hw) cB bE
def ay.Ux{kj:Nat}{l:aa Oper}{ds:aa (aA Nat×aa Nat×aa Nat×aa Nat)}(np:Nat)(hm:c.P.follows .mixedOrders=true)(hs:aa dK)(es:aa Nat)
 (cB:p4 c l.toArray Q hs E L np 0 l hs) (bE:∀hd,aq c Q .normal (im (λ_=>true) hd E 0 hs) (gx (λ_=>true) hd 0 hs L))
 (et:lI hs=ds:=by rfl) (iT:E.map (·.1)=es:=by rfl) (cI:Gv.qR l.toArray l.length ds es=true:=by kernel_rfl) (hw:(ds.all λd=>d.2.2.2.all λj=>Nat.blt j np)=true:=by kernel_rfl):ay c Q (.region kj l.toArray true) E L:=
 ay.MK l.length hm hs ds es et iT cI (aaI et hw) (by rw[k4];exact cB) (λhd=>by rw[xq];exact ad.nil (bE hd))
def ay.OC{kj:Nat}{l:aa Oper}{ds:aa (aA Nat×aa Nat×aa Nat×aa Nat)}(hm:c.P.follows .mixedOrders=true)(hs:aa dK)(es:aa Nat)
 (cB:D5 c l.toArray Q hs E L 0 l hs) (bE:∀hd,aq c Q .normal (im (λ_=>true) hd E 0 hs) (gx (λ_=>true) hd 0 hs L))
 (et:lI hs=ds:=by rfl) (iT:E.map (·.1)=es:=by rfl) (cI:Gv.qR l.toArray l.length ds es=true:=by kernel_rfl):ay c Q (.region kj l.toArray true) E L:=
 ay.MK (np:=L.length) l.length hm hs ds es et iT cI (λ_ _ j _=>by omega) (by rw[k4];exact cB.Jy) (λhd=>by rw[xq];exact ad.nil (bE hd))
def rg:Nat->Nat->aa (aA Nat)
 |_,0=>[]
 |a,n+1=>some a::rg (a+1) n
def bn.tail{l:aa Oper}{f:Nat}{cb:Array Bool}(n:Nat)(aW:(l.drop n).length=f)(hs:Region.seqB .any l.toArray f n cb=true)(h:ad c l.toArray Q (l.drop n) E L):bn c l.toArray Q f cb E L:=λa W s=>by
 subst aW;exact P6 (l.drop n) n cb a W (λj=>by simp) hs (h a W s)
def ah.bI{α β:Type}{o:aA α}{k:α->ah β}{R:β->Prop}{P:Prop}(h:ah.bind (ah.of o) k R)(g:∀y,o=some y->k y R->P):P:=(ah.aku h).elim λy h=>g y h.1 h.2
def ah.ex{α β:Type}{m:ah α}{k:α->ah β}{R:β->Prop}(h:ah.bind m k R):∃K:α->Prop,m K∧∀r,K r->k r R:=⟨_,h,λ_ h=>h⟩
end
def XK{c:cC}{E:aa (Nat×J)}{L:aa aI}{x:ca}{β:Type}[aj β]{b:β}(h:aU c E L x (.of b)):aU c E L x (.B5 b []):=λa W s=>
 let⟨g1,g2⟩:=h a W s
 ⟨g1,g2,λ_ h=>by cases h⟩
def ad.uP{c:cC}{ops:Array Oper}{Q:Exit->Act->bq->Prop}{E:aa (Nat×J)}{L:aa aI}{l:aa Oper}{key:aA Nat}{n m cap off:Nat}{p:aA Nat}{β:Type}[aj β]{b:β}{os:aa (Nat×bt)}(i q:Nat)(ax:L[i]? =some ⟨p,.bX b os⟩)(hq:os[q]? =some (off,aH key n cap))(aM:n=m)
 (k:ad c ops Q l E (L.set i ⟨p,.bX b (os.set q (off,aH key m cap))⟩)):ad c ops Q l E L:=by
 subst aM
 have Zo:∀{α:Type} {xs:aa α} {j:Nat} {x:α},xs[j]? =some x->xs.set j x=xs:=λ{α xs j x} h=>mL λr=>by
  by_cases e:j=r
  ·subst e;rw[CM (hh.1 h).1,h]
  rw[vG e]
 rw[Zo hq,Zo ax]at k
 exact k
def bV.law{P:Program}{f:FuncId}{τs:aa J}{bM:Type}[dZ bM]{R:Bool×aL bM->Prop}{Lo: {r:Bool×aL bM // R r}×Unit->aa aI}(h:bV P f τs ([]++aX ([]:aL bM)) (λd: {r:Bool×aL bM // R r}×Unit=>J.of d.1.1.1) Lo)(iK:∀r,R r->r.1=true):cE P f τs (J.of true):=by
 intro A W vs eB ba;refine(h A W vs (λk hk=>⟨eB k hk,by simp[aX,ks]⟩) (by simp[aX,ks]) (λk hk=>by simp[aX,ks]at hk) (λe he=>by simp[aX]at he) (by simpa[aX,ks]using ba)).mono ?_;intro e W' ⟨v,d,h1,ae,_,_,_,az⟩;refine⟨v,h1,by simpa[aX,ks]using ae,?_⟩;have aQ:=iK d.1.1 d.1.2;rw[of_bool]at az⊢;rw[az,aQ]
def Jm(p:Prop)[Decidable p]:aA Unit:=if p then some ()else none
def ah.ar2{β:Type}{p:Prop}[Decidable p]{k:Unit->ah β}{R:β->Prop}(h:ah.bind (ah.of (Jm p)) k R):p:=by
 obtain⟨r,h1,_⟩:=h;unfold Jm at h1;split at h1
 ·assumption
 cases h1
def ah.ap4{β:Type}{p:Prop}[Decidable p]{k:Unit->ah β}{R:β->Prop}(h:ah.bind (ah.of (Jm p)) k R):k () R:=by
 obtain⟨r,_,ae⟩:=h;exact ae
section
variable{c:cC}{E:aa (Nat×J)}{L:aa aI}{ops:Array Oper}{Q:Exit->Act->bq->Prop}
end
def wG{α:Type}(n:Nat)(m:aA (aa α)):aA (aa α):=m.bind λy=>if y.length=n then some y else none
def Q4{α:Type}{n:Nat}{m:aA (aa α)}{y:aa α}(h:wG n m=some y):m=some y:=by
 unfold wG at h;cases m with
 |none=>cases h
 | some z=>
   rw[Option.bind_some]at h
   split at h
   ·exact h
   cases h
def xL{α:Type}{n:Nat}{m:aA (aa α)}{y:aa α}(h:wG n m=some y):y.length=n:=by
 unfold wG at h;cases m with
 |none=>cases h
 | some z=>
   rw[Option.bind_some]at h
   split at h
   ·rename_i e;cases h;exact e
   cases h
def CB(n:Nat)(vis:aa Nat):aA Nat->Prop
 |none=> ∀j,j<n->j∈vis
 |some j=>j<n∧j∉vis
def ah.next(n:Nat)(vis:aa Nat):ah (aA Nat):=λR=> ∀j,CB n vis j->R j
def ah.Xc{β:Type}{n:Nat}{vis:aa Nat}{k:aA Nat->ah β}{R:β->Prop}(h:ah.bind (ah.next n vis) k R)(j:aA Nat)(aC:CB n vis j):k j R:=h j aC
def n2(es:Array MapEntry)(vis:aa Nat):Array Nat:=(vis.filterMap λj=>(es[j]?).map (·.born)).toArray
def nH(atV:Nat)(es:Array MapEntry)(clock:Nat)(vis:aa Nat):Obj:=.mapIter (some atV) clock (n2 es vis) clock
structure OG(es:Array MapEntry)(clock n:Nat):Prop where
 size:es.size=n
 born:∀x∈es.toList,x.born<clock
 nodup:(es.toList.map MapEntry.born).Nodup
def eL.and(cp:eL)(o:Obj):eL where
 holds A W x:=cp.holds A W x∧x=o
 pC:=cp.pC
 mono e h:=⟨cp.mono e h.1,h.2⟩
def wH(b:Nat)(o:Obj)(e:aI):aI:=if e.key=some b then⟨e.key,e.cp.and o⟩else e
def pH(b:Nat)(o:Obj)(L:aa aI):aa aI:=L.map (wH b o)
def aiY(b:Nat)(o:Obj)(e:aI):(wH b o e).key=e.key:=by unfold wH;split <;> rfl
def RP{b:Nat}{o:Obj}:∀{L:aa aI},ks (pH b o L)=ks L
 |[]=>rfl
 | e::L=>by
   have b6:=RP (b:=b) (o:=o) (L:=L);show ks (wH b o e::pH b o L)=_;unfold ks;rw[aiY,b6]
def J.acQ(b:Bool):J where
 holds _ _ v:=∃xs:Array bt,v=.tuple xs∧xs[0]? =some (.bool b)
 mono _ h:=h
section
variable{c:cC}{E:aa (Nat×J)}{L:aa aI}{ops:Array Oper}{Q:Exit->Act->bq->Prop}
variable{d:aA Tmp}{ty:bF}{pos:String}{af:Array Edge}{g:aA (Nat×Bool)}{x y z:ca}{t t2:bF}
variable{bM:Type}[dZ bM]{hp:aL bM}{loc:aa aI}
def aiG{key:aA Nat}{n m cap:Nat}(aM:n=m)(h:aU c E L x (.eq (aH key n cap))):aU c E L x (.eq (aH key m cap)):=aM▸h
def MF{b:Nat}{o:Obj}{α β:Type}[aj α][aj β]{kv:aa (α×β)}{xf:bM}(n:Nat)(ax:L.drop n=Gv.pH b o (aX hp))(hp':pat hp b=some xf)(hk:dZ.gd b xf=[⟨some b,.map kv⟩]):(⟨some b,eL.and (.map kv) o⟩:aI)∈L:=by
 have h1:(⟨some b,.map kv⟩:aI)∈aX hp:=jv (n:=0) (hp:=hp) I hp' hk;have ae:wH b o ⟨some b,.map kv⟩∈Gv.pH b o (aX hp):=gJ.2 ⟨_,h1,rfl⟩;rw[<-ax]at ae;have az:=CQ ae;unfold wH at az;rw[bk I]at az;exact az
def bP.swap{L':aa aI}{a:Act}{W:bq}(h:bP c E L a W)(hk:ks L'=ks L)(a8:∀e∈L',e.ok (ks L++c.b3) W):bP c E L' a W:=
 {defers:=h.defers
  size:=h.size
  env:=by rw[hk];exact h.env
  dI:=h.dI
  own:=by rw[hk];exact a8
  nodup:=by rw[hk];exact h.nodup
  lt:=by rw[hk];exact h.lt
  fO:=by rw[hk];exact h.fO
  eG:=by rw[hk];exact h.eG}
def bP.pH{a:Act}{W:bq}{M:aa aI}(h:bP c E (loc++M) a W){b:Nat}{o:Obj}(hb:W.heap[b]? =some o):bP c E (loc++Gv.pH b o M) a W:=by
 refine h.swap (by rw[e1,e1,RP]) λe he=>?_;rcases cz.1 he with he|he
 ·exact h.own e (O9 _ he)
 obtain⟨fo,bJ,rfl⟩:=gJ.1 he;have h1:=h.own fo (FP _ bJ);unfold wH;split
 ·rename_i hk;unfold aI.ok at h1⊢;simp only[hk]at h1⊢;obtain⟨o',g1,g2⟩:=h1;have:o'=o:=by rw[hb]at g1;exact(xr g1).symm
  exact⟨o',g1,g2,this⟩
 exact h1
def bP.Nk{a:Act}{W:bq}{M:aa aI}{b:Nat}{o:Obj}(h:bP c E (loc++Gv.pH b o M) a W):bP c E (loc++M) a W:=by
 have hk:ks (loc++M)=ks (loc++Gv.pH b o M):=by rw[e1,e1,RP]
 refine h.swap hk λe he=>?_;rcases cz.1 he with he|he
 ·exact h.own e (O9 _ he)
 have h1:=h.own (wH b o e) (FP _ (gJ.2 ⟨e,he,rfl⟩));unfold wH at h1;split at h1
 ·rename_i dh;unfold aI.ok at h1⊢;simp only[dh]at h1⊢;obtain⟨o',g1,g2,_⟩:=h1;exact⟨o',g1,g2⟩
 exact h1
def aq.Nk{z:Exit}{b:Nat}{o:Obj}(n:Nat)(ax:L.drop n=Gv.pH b o (aX hp))(k:aq c Q z E (L.take n++aX hp)):aq c Q z E L:=λa W s=>by
 have e:L=L.take n++Gv.pH b o (aX hp):=by rw[<-ax,gp]
 rw[e]at s;exact k a W s.Nk
def ma.get{α β:Type}[aj α][aj β]{A W}:∀{es:aa MapEntry} {kv:aa (α×β)},ma A W es kv->∀{j:Nat} {x:α×β},kv[j]? =some x->∃e,es[j]? =some e∧(J.of x.1).holds A W e.key∧(J.of x.2).holds A W e.val
 |_,_,.nil,j,x,h=>by simp at h
 | _,_,.cons h1 ae r,0,x,h=>by
   have h:some _=some x:=h;cases h;exact⟨_,rfl,h1,ae⟩
 | _,_,.cons h1 ae r,j+1,x,h=>by
   obtain⟨e,g1,g2⟩:=r.get (j:=j) (by simpa using h);exact⟨e,by simpa using g1,g2⟩
def ad.Ze{rest:aa Oper}{bc p key elem:Nat}{α β:Type}[aj α][aj β]{kv:aa (α×β)}{xf:bM}(n:Nat)(ax:L.drop n=aX hp)(hu:c.P.underlying t=some (.map key elem))(an:aU c E L x (.of (⟨some p⟩:eX)))(hp':pat hp p=some xf)(hk:dZ.gd p xf=[⟨some p,.map kv⟩])(aM:Nat.blt bc c.n=true)
 (k:∀r es clock,OG es clock kv.length->ad c ops Q rest ((bc,.eq (.pointer (some ⟨r,0,none⟩)))::E) (⟨some r,.is (nH p es clock [])⟩::(L.take n++Gv.pH p (.map es clock) (aX hp)))):
 ad c ops Q (⟨some bc,.range t x,ty,pos,af,none⟩::rest) E L:=λa W s=>by
 have e:L=L.take n++aX hp:=by rw[<-ax,gp]
 have hm:(⟨some p,.map kv⟩:aI)∈L:=by
  rw[e];exact jv (n:=(L.take n).length) (hp:=hp) (by simp) hp' hk
 obtain⟨es,clock,a8,ae,az,aQ⟩:=s.Iy hm
 have ni:=xP.1 (an a W s)
 have iT:OG es clock kv.length:=⟨by have:=ae.length;simpa using this,az,aQ⟩
 refine iO I (R:=λv W'=>v=.pointer (some ⟨W.heap.size,0,none⟩)∧W'=W.alloc (nH p es clock [])) (.mV ?_ ⟨rfl,rfl⟩) λv W' ⟨ba,hw⟩=>?_
 ·have bH:(getObj p).run c.P W=.ok (.map es clock) W:=by simp[getObj,Sem.run,a8]
  simp[execOp,Instr.range,dU,ee hu,ni,bH,newObj,Sem.run]
  rfl
 subst ba
 subst hw
 have s1:=s.alloc (cp:=.is (nH p es clock [])) (o:=nH p es clock []) I
 refine k W.heap.size es clock iT _ _ (bP.put ?_ (by simpa using aM) I)
 rw[e]at s1
 have hb:(W.alloc (nH p es clock [])).heap[p]? =some (.map es clock):=by
  have ch:p<W.heap.size:=(s5.1 a8).1;show(W.heap.push _)[p]? =_;rw[Array.getElem?_push_lt ch,<-KF ch];exact a8
 exact bP.pH (loc:=⟨some W.heap.size,.is (nH p es clock [])⟩::L.take n) s1 hb
def ad.aag{rest:aa Oper}{bc r p:Nat}{α β:Type}[aj α][aj β]{kv:aa (α×β)}{es:Array MapEntry}{clock:Nat}{vis:aa Nat}(i:Nat)(an:aU c E L x (.eq (.pointer (some ⟨r,0,none⟩))))(au:L[i]? =some ⟨some r,.is (nH p es clock vis)⟩)
 (hm:(⟨some p,eL.and (.map kv) (.map es clock)⟩:aI)∈L) (he:OG es clock kv.length) (aM:Nat.blt bc c.n=true)
 (k:∀j,CB kv.length vis j->ad c ops Q rest ((bc,.acQ j.isSome)::E) (L.set i ⟨some r,.is (nH p es clock (vis++j.toList))⟩)):
 ad c ops Q (⟨some bc,.next x false,ty,pos,af,none⟩::rest) E L:=λa W s=>by
 have ni:a.eval x=_:=an a W s
 obtain⟨bO,oW,⟨_,rU⟩⟩:=s.own _ hm
 subst rU
 obtain⟨cL,tS,Ch⟩:=s.own _ (e6 au)
 have Ch:cL=nH p es clock vis:=Ch
 subst Ch
 have aoC:∀{j:Nat} {e:MapEntry},es[j]? =some e->(n2 es vis).contains e.born=true->j∈vis:=λ{j e} aC ak=>by
  unfold n2 at ak;simp only[Va,O1,Pl]at ak;obtain⟨v,ba,h1⟩:=ak;cases Oj:es[v]? with
  |none=>rw[Oj]at h1;cases h1
  | some e'=>
    rw[Oj]at h1
    have h1:e'.born=e.born:=by simpa using h1
    have E0:j<es.toList.length:=by simpa using (s5.1 aC).1
    have sM:v<es.toList.length:=by simpa using (s5.1 Oj).1
    have ar:(es.toList.map MapEntry.born)[j]? =some e.born:=by simp[aC]
    have aK:(es.toList.map MapEntry.born)[v]? =some e.born:=by simp[Oj,h1]
    have:=(List.getElem?_inj (by simpa using E0) he.nodup).1 (ar.trans aK.symm)
    rw[this];exact ba
 rcases run_next_at (P:=c.P) W ty r p clock clock (n2 es vis) es clock tS oW he.born (jF _)with⟨bJ,j7⟩|⟨e,tL,lQ,TK,j7⟩
 ·
  have ng:CB kv.length vis none:=λj aC=>by
   have Ci:j<es.size:=by rw[he.size];exact aC
   false_or_by_contra;rename_i fb;have:es[j]∈(leftOf es (n2 es vis)).toList:=by
    unfold leftOf;simp only[Vm,uw];refine⟨by simp,?_⟩;cases ak:(n2 es vis).contains es[j].born with
    |false=>rfl
    |true=>exact absurd (aoC (by simp[Ci]) ak) fb
   have b2:(leftOf es (n2 es vis)).toList=[]:=by
    apply OP;simpa using bJ
   rw[b2]at this;cases this
  refine iO I (R:=λv W'=>v=.tuple #[.bool false]∧W'=W) (.mV (v:=.tuple #[.bool false]) ?_ ⟨rfl,rfl⟩) λv W' ⟨ba,hw⟩=>?_
  ·simp only[execOp,ni,dU,j7,Result.andThen_ok];rfl
  subst ba hw
  have hk:=k none ng
  have h2:L.set i ⟨some r,.is (nH p es clock (vis++Option.toList none))⟩=L:=by
   apply mL;intro q;rw[pR];split
   ·rename_i hq;subst hq;rw[bk (hh.1 au).1,au];simp
   rfl
  rw[h2]at hk
  exact hk _ _ (bP.put s (by simpa using aM) ⟨_,rfl,rfl⟩)
 have abU:e∈es.toList∧(n2 es vis).contains e.born=false:=by
  unfold leftOf at tL;simp only[Vm,uw,zq]at tL;exact tL
 obtain⟨j,aC⟩:=oE.1 abU.1
 have Ci:es[j]? =some e:=by simpa using aC
 have E0:j<kv.length:=by rw[<-he.size];exact(s5.1 Ci).1
 have ng:CB kv.length vis (some j):=⟨E0,λba=>by
  have:(n2 es vis).contains e.born=true:=by
   unfold n2;simp only[Va,O1,Pl];exact⟨j,ba,by rw[Ci];rfl⟩
  rw[abU.2]at this;cases this⟩
 have SA:(n2 es vis).push e.born=n2 es (vis++[j]):=by
  unfold n2;rw[Vb];simp[Ci]
 rw[SA]at j7
 refine iO I (R:=λv W'=>v=.tuple #[.bool true,e.key,e.val]∧W'=lQ.putObj r (nH p es clock (vis++[j]))) (.mV (v:=.tuple #[.bool true,e.key,e.val]) ?_ ⟨rfl,rfl⟩) λv W' ⟨ba,hw⟩=>?_
 ·simp only[execOp,ni,dU,j7,Result.andThen_ok];rfl
 subst ba hw
 have s1:bP c E L a lQ:=by
  rcases TK with rfl|rfl
  ·exact s
  exact s.world (Fr.drew W)
 exact k (some j) ng _ _ (bP.put (s1.tv au (cp':=.is (nH p es clock (vis++[j]))) (o':=nH p es clock (vis++[j])) I) (by simpa using aM) ⟨_,rfl,rfl⟩)
def Zf{b:Bool}(an:aU c E L x (.acQ b)):bj c E L ⟨d,.extract x 0,ty,pos,af,g⟩ (.of b):=.pure λa W s=>by
 obtain⟨xs,h1,ae⟩:=an a W s;refine⟨.bool b,?_,of_bool.2 I⟩;simp[execOp,Instr.extract,h1,ae]
def XM{r p:Nat}{α β:Type}[aj α][aj β][Inhabited α][Inhabited β]{kv:aa (α×β)}{es:Array MapEntry}{clock:Nat}{vis:aa Nat}{j:aA Nat}{q:Nat}(i:Nat)(an:aU c E L x (.eq (.pointer (some ⟨r,0,none⟩))))(au:L[i]? =some ⟨some r,.is (nH p es clock (vis++j.toList))⟩)
 (hm:(⟨some p,eL.and (.map kv) (.map es clock)⟩:aI)∈L) (he:OG es clock kv.length) (aC:CB kv.length vis j) (hq:j=some q):
 bj c E L ⟨d,.entry x,ty,pos,af,g⟩ (.b7 [.of (av kv q).1,.of (av kv q).2]):=.pure λa W s=>by
 subst hq
 have ni:a.eval x=_:=an a W s
 obtain⟨bO,oW,⟨oj,A7,qo,ae,az,aQ⟩,rU⟩:=s.own _ hm
 subst rU
 cases qo
 obtain⟨cL,tS,Ch⟩:=s.own _ (e6 au)
 have Ch:cL=nH p es clock (vis++[q]):=Ch
 subst Ch
 have acR:q<kv.length:=aC.1
 obtain⟨e,g1,g2,g3⟩:=ae.get (j:=q) (x:=av kv q) (by rw[dp _ acR];exact pa acR)
 have Ci:es[q]? =some e:=by simpa using g1
 have SA:n2 es (vis++[q])=(n2 es vis).push e.born:=by
  unfold n2;rw[Vb];simp[Ci]
 have TL:W.heap[r]? =some (.mapIter (some p) clock ((n2 es vis).push e.born) clock):=by rw[<-SA];exact tS
 have j7:=run_entry_at (P:=c.P) W r p clock (n2 es vis) es clock e TL oW (e6 g1) he.nodup
 refine⟨.tuple #[e.key,e.val],?_,_,rfl,.cons g2 (.cons g3 .nil)⟩
 simp only[execOp,ni,dU,j7,Result.andThen_ok]
 rfl
end
end Gv
namespace Gv
open Go Go.Proofs Go.Sort
def J.Jh{α:Type}[aj α](P:Program)(F:α->α->aA Int):J where
 holds A W v:=∃f cap,v=.func (.func f) #[] cap∧bL P f∧∀cR W',Ext A W cR W'->(∀k∈cR,k<W'.heap.size)->∀x y r ox uc,F x y=some r->(J.of x).holds cR W' ox->(J.of y).holds cR W' uc->
  Calls P f (#[ox,uc]++cap) W' λe tK=> ∃v,e=.returned v∧Fr [] W' tK∧(J.of r).holds cR tK v
 mono e h:=let⟨f,cap,h1,ae,az⟩:=h; ⟨f,cap,h1,ae,λcR W' e'=>az cR W' (e.trans e')⟩
def XN{c:cC}{E:aa (Nat×J)}{L:aa aI}{α:Type}[aj α]{F:α->α->aA Int}{f:FuncId}(cj:bL c.P f)(h:∀x y r,F x y=some r->cE c.P f [.of x,.of y] (.of r)):aU c E L (.func f) (.Jh c.P F):=λa W s=>
 ⟨f,#[],rfl,cj,λcR W' _ eB x y r ox uc lP an hy=>by simpa using h x y r lP cR W' [ox,uc] eB (.cons an (.cons hy .nil))⟩
def aiZ{W W':bq}(h:Fr [] W W'):∃q os,W'=grow (W.drewN q) os:=by
 obtain⟨p,hp⟩:=regrown_of_below h.below;have hd:=h.drawn;rw[hp]at hd;have hd:W.drawn<=p.d:=hd;refine⟨p.d-W.drawn,p.os,?_⟩;rw[hp];unfold redrawn World.drewN;congr 2;omega
structure yQ{α:Type}(c:α->α->Int):Prop where
 neg:∀x y,c x y<0↔0<c y x
 lR:∀x y z,c x y<=0->c y z<=0->c x z<=0
def yQ.swo{α:Type}{c:α->α->Int}(h:yQ c):SWO (ltOf c)where
 irrefl x:=by
  unfold ltOf;rw[nr];intro h1;have:=(h.neg x x).1 h1;omega
 trans x y z h1 ae:=by
  unfold ltOf at *;rw[fk]at *;have bZ:=h.lR x y z (by omega) (by omega);by_cases az:c x z<0
  ·exact az
  have aQ: ¬0<c z x:=λa7=>az ((h.neg x z).2 a7);have a7:=h.lR y z x (by omega) (by omega);have:=(h.neg x y).1 h1;omega
 ntrans x y z h1 ae:=by
  unfold ltOf at *;rw[nr]at *;have dD: ¬0<c y x:=λaz=>h1 ((h.neg x y).2 az);have eg: ¬0<c z y:=λaz=>ae ((h.neg y z).2 az);have hV:=h.lR z y x (by omega) (by omega);intro az;have:=(h.neg x z).1 az;omega
def yQ.on{α β:Type}{c:α->α->Int}(h:yQ c)(g:β->α):yQ (λx y=>c (g x) (g y)):=⟨λx y=>h.neg _ _,λx y z=>h.lR _ _ _⟩
def nj(k:Nat)(cs:Array bt)(i:Nat):aa bt:=(cs.toList.drop (i*k)).take k
def YH{k:Nat}{cs:Array bt}{i j:Nat}(aC:j<k)(h:i*k+j<cs.size):(nj k cs i)[j]! =cs[i*k+j]:=by
 have ao:j<(nj k cs i).length:=by
  unfold nj;rw[fT,ku,Array.length_toList];omega
 rw[getElem!_pos _ j ao];have:(nj k cs i)[j]? =cs[i*k+j]? :=by
  unfold nj;rw[k3,bk aC,mo,zg]
 rw[pa ao,KF h]at this;exact xr this
def ahq{n k p:Nat}[Inhabited (Fin n)]{W:bq}{cs:Array bt}{t:bF}(a8:W.heap[p]? =some (.cells cs t (0,0)))(dR:n*k<=cs.size)(d:Array (Fin n))(hd:d.size=n)(JW:∀i (h:i<n),d[i]! =⟨i,h⟩):HoldsK (λi:Fin n=>nj k cs i.1) k W p 0 d:=by
 intro j aC;have aC:j<d.size*k:=by simpa using aC
 have nM:j<n*k:=by rw[<-hd];exact aC
 have hk:0<k:=F0 λe=>by rw[e]at nM;omega
 have hdiv:j/k<n:=Vk (by rw[se];exact nM);have BR:=G3 j hk;have asD:j/k*k+j % k=j:=by rw[se];exact Gm j k
 constructor
 ·rw[get_flatK _ _ _ _ aC,JW _ hdiv];show W.cell? _=some ((nj k cs (j/k))[j % k]!);rw[YH BR (by omega)];unfold World.cell?;simp only[a8,jQ,asD];simp
 unfold World.frozen?;simp[a8]
def WE{n k p m:Nat}[Inhabited (Fin n)]{W:bq}{cs:Array bt}{t:bF}(hp:p<W.heap.size)(a8:W.heap[p]? =some (.cells cs t (0,0)))(enc:Fin n->aa bt)(d:Array (Fin n))(os:Array Obj):
 (sortWorldK enc k W p 0 m d os).heap[p]? =some (.cells (putCells id 0 (flatK enc k d) cs) t (0,0))∧(∀q,q<W.heap.size->q≠p->(sortWorldK enc k W p 0 m d os).heap[q]? =W.heap[q]?)∧W.heap.size<=(sortWorldK enc k W p 0 m d os).heap.size:=by
 unfold sortWorldK grow putRowK putRow mapBlock
 refine⟨?_,λq hq dm=>?_,?_⟩
 ·rw[vD (by simpa[Sort.ahead]using hp),OZ]
  simp[Sort.ahead,a8,onCells]
 ·rw[vD (by simpa[Sort.ahead]using hq),OZ]
  simp[Sort.ahead,zQ dm]
 simp[Sort.ahead]
def Xn{n k p m:Nat}[Inhabited (Fin n)]{W:bq}{cs:Array bt}{t:bF}(hp:p<W.heap.size)(a8:W.heap[p]? =some (.cells cs t (0,0)))(enc:Fin n->aa bt)(d:Array (Fin n))(os:Array Obj):Fr [p] W (sortWorldK enc k W p 0 m d os):=by
 obtain⟨_,ae,az⟩:=WE (k:=k) (m:=m) hp a8 enc d os;exact⟨rfl,rfl,rfl,Nat.le_add_right _ _,az,λq hq dm=>ae q hq (by simpa using dm)⟩
def Me{F cs:Array bt}:(putCells id 0 F cs).size=cs.size:=by unfold putCells;simp
def alA{n k i j:Nat}(au:i<n)(aC:j<k):i*k+j<n*k:=by
 have:=hC k (show i+1<=n from au);rw[nu,Lz]at this;omega
def akx{n k i:Nat}{cs:Array bt}(dR:n*k<=cs.size)(au:i<n):(nj k cs i).length=k:=by
 have:=hC k (show i+1<=n from au);rw[nu,Lz]at this;unfold nj;rw[fT,ku,Array.length_toList];omega
def ahr{n k i:Nat}[Inhabited (Fin n)]{cs:Array bt}{enc:Fin n->aa bt}(hk:∀x,(enc x).length=k){d:Array (Fin n)}(hd:d.size=n)(dR:n*k<=cs.size)(au:i<n):nj k (putCells id 0 (flatK enc k d) cs) i=enc d[i]! :=by
 apply zt
 ·rw[akx (by rw[Me];exact dR) au,hk]
 intro j h1 ae;have aC:j<k:=by rw[hk]at ae;exact ae
 have ch:=alA au aC;have mC:0<k:=by omega
 have aW:i*k+j<d.size*k:=by rw[hd];exact ch
 have ar:(i*k+j)/k=i:=by rw[se,Nat.mul_add_div mC,Pu aC];omega
 have aK:(i*k+j) % k=j:=by rw[se,Nat.mul_add_mod,Gd aC]
 rw[<-getElem!_pos _ j h1,YH aC (by rw[Me];omega),<-getElem!_pos (enc d[i]!) j ae];unfold putCells;rw[Array.getElem_mapIdx,bk ⟨vS _,by rw[size_flatK];omega⟩,Nat.sub_zero,get_flatK _ _ _ _ aW,ar,aK];rfl
def ai0{m:Nat}{cs:Array bt}(h:m<=cs.size):(cs.toList.take m).length=m:=by rw[fT,Array.length_toList];omega
def YI{α:Type}(a:Array α){n:Nat}(h:a.size=n):a.extract 0 n=a:=by subst h;simp
def XX{n k i:Nat}{cs:Array bt}(au:i<n):((cs.toList.take (n*k)).drop (i*k)).take k=nj k cs i:=by
 have:=hC k (show i+1<=n from au);rw[nu,Lz]at this;rw[vL,sd,show min k (n*k-i*k)=k by omega];rfl
set_option maxHeartbeats 1000000 in
open Go.Shelf in
def aoD{T:Type}[aj T]{P:Program}{ρ:Ren}(L:SlLaysF0.n6 P ρ)(Uy:∀w,(isAgg (ρ.t 24)).run P w=.ok true w)(Uz:∀w,(Go.sizeOf (ρ.t 24)).run P w=.ok (aj.size T) w)(TM:aj.agg T=true){t:bF}{xs:aa T}{F:T->T->aA Int}{c:T->T->Int}(ak:yQ c)
 (lP:∀a∈xs,∀b∈xs,F a b=some (c a b)) (hlen:xs.length<4611686018427387904) {key:aA Nat} {cap:Nat}:
 bV P (ρ.f 6) [.eq (aH key xs.length cap),.Jh P F] [⟨key,.row t xs cap⟩] (δ:= {ys:aa T // ys.Perm xs∧ys.Pairwise (λa b=>c a b<=0)}) (λ_=>.b7 []) (λd=>[⟨key,.row t d.1 cap⟩]):=by
 intro A W vs eB kQ ch hA ba
 cases ba with
 | cons h1 ba=>cases ba with
   | cons ae ba=>cases ba with
     | nil=>
       rename_i v1 v2
       have h1:v1=aH key xs.length cap:=h1
       obtain⟨f,Cz,rfl,cj,BF⟩:=ae
       subst h1
       cases key with
       | none=>
         have aqJ:xs=[]∧cap=0:=hA ⟨none,.row t xs cap⟩ (by simp)
         obtain⟨rfl,rfl⟩:=aqJ
         refine(AnyF.slices_SortFunc_none L none 0 (.func (.func f) #[] Cz) W).mono ?_
         rintro e rf ⟨rfl,rfl⟩
         exact⟨_,⟨[],.refl _,.nil⟩,rfl,Fr.refl _ _,by simp[ks],by simp[ks],λe he=>by simp at he;subst he;exact⟨rfl,rfl⟩,⟨_,rfl,.nil⟩⟩
       | some p=>
         obtain⟨o,a8,cs,rfl,dR,hle,abV,aaQ⟩:∃o,W.heap[p]? =some o∧(eL.row t xs cap).holds (ks [⟨some p,.row t xs cap⟩]++A) W o:=hA ⟨some p,.row t xs cap⟩ (by simp)
         have hp:p<W.heap.size:=ch p (by simp[ks])
         have asE:∀q∈p::A,q<W.heap.size:=λq hq=>by
          rcases dW.1 hq with rfl|hq
          ·exact hp
          exact(eB q hq).1
         have acS:p∉A:=λh=>(eB p h).2 (by simp[ks])
         by_cases bJ:xs.length=0
         ·obtain rfl:xs=[]:=KJ.1 bJ
          refine(AnyF.slices_SortFunc_none L (some ⟨p,0,none⟩) cap (.func (.func f) #[] Cz) W).mono ?_
          rintro e rf ⟨rfl,rfl⟩
          refine⟨_,⟨[],.refl _,.nil⟩,rfl,Fr.refl _ _,by simp[ks],λq hq=>?_,λe he=>?_,⟨_,rfl,.nil⟩⟩
          ·simp[ks]at hq;subst hq
           exact⟨hp,λ_=>by simp[ks],acS⟩
          simp at he;subst he
          exact⟨_,a8,cs,rfl,dR,hle,abV,aaQ⟩
         have aM:0<xs.length:=by omega
         letI:Inhabited (Fin xs.length):=⟨⟨0,aM⟩⟩
         have TN:xs.length*aj.size T<=cs.size:=by rw[dR];exact hC _ hle
         have I4:∀i (h:i<xs.length),aj.rep (p::A) W (nj (aj.size T) cs i) xs[i]:=λi h=>by
          have:=aaQ.2 i h;rw[XX h]at this;exact this
         have et:(Array.ofFn λi:Fin xs.length=>i).size=xs.length:=by simp
         have JW:∀i (h:i<xs.length),(Array.ofFn λi:Fin xs.length=>i)[i]! =⟨i,h⟩:=λi h=>by
          rw[getElem!_pos _ i (by simp;exact h)];simp
         generalize (Array.ofFn λi:Fin xs.length=>i)=d at et JW
         have ov:=ahq a8 TN d et JW
         have hO:SWO (ltOf λx y:Fin xs.length=>c xs[x.1] xs[y.1]):=(ak.on λi:Fin xs.length=>xs[i.1]).swo
         have iG:∀m os sW,Ext (p::A) W (p::A) (sortWorldK (λi:Fin xs.length=>nj (aj.size T) cs i.1) (aj.size T) W p 0 m sW os):=λm os sW=>Ext.aaE (Xn hp a8 _ sW os) λq hq=>by simp at hq;subst hq;exact kt
         have Ey:∀m os sW (i:Fin xs.length),(J.of xs[i.1]).holds (p::A) (sortWorldK (λi:Fin xs.length=>nj (aj.size T) cs i.1) (aj.size T) W p 0 m sW os) (.agg (nj (aj.size T) cs i.1).toArray):=λm os sW i=>
          ⟨by rw[TM];exact⟨_,rfl⟩,aj.mono (iG m os sW) (I4 i.1 i.2)⟩
         have aqK:CmpLays P f Cz (λi:Fin xs.length=>nj (aj.size T) cs i.1) (aj.size T) (λx y:Fin xs.length=>c xs[x.1] xs[y.1]) p 0 d.size W:=λm os sW auS x y=>
          (BF (p::A) _ (iG m os sW) (λq hq=>rp (asE q hq) (iG m os sW).size) _ _ _ _ _ (lP _ (gI x.2) _ (gI y.2)) (Ey m os sW x) (Ey m os sW y)).mono λe rf ⟨v,he,asF,ba⟩=>⟨by rw[he,of_int.1 ba],aiZ asF⟩
         have ax:∀x:Fin xs.length,(nj (aj.size T) cs x.1).length=aj.size T:=λx=>aj.len (I4 x.1 x.2)
         have asG:∀x:Fin xs.length,∀v∈nj (aj.size T) cs x.1,v.oneCell'=true:=λx=>aj.one (I4 x.1 x.2)
         have jw:d.size<4611686018427387904:=by omega
         have h:=AnyQ.slices_SortFunc L (aj.size T) Uy Uz (λi:Fin xs.length=>nj (aj.size T) cs i.1) ax asG (λx y:Fin xs.length=>c xs[x.1] xs[y.1]) hO f Cz p 0 cap d W (λargs w=>cj.run args w) aqK ov hp jw
         rw[et]at h
         refine h.mono ?_
         rintro e rf ⟨rfl,nS,m,os,aaR,aoE,rfl⟩
         obtain⟨cB,_,asH⟩:=WE (k:=aj.size T) (m:=m) hp a8 (λi:Fin xs.length=>nj (aj.size T) cs i.1) nS os
         have hd':nS.size=xs.length:=aaR.1.trans et
         have kX:(nS.toList.map λi=>xs[i.1]).length=xs.length:=by simp[hd']
         have lk:(nS.toList.map λi=>xs[i.1]).Perm xs:=by
          have ae:=aaR.2.2;rw[YI nS hd',YI d et]at ae;refine(ae.map _).trans (List.Perm.of_eq ?_);refine zt (by simp[et]) λi az aQ=>?_;have:=JW i aQ;rw[getElem!_pos _ i (by omega)]at this;simp[this]
         have tz:∀i (h:i<xs.length),(nS.toList.map λi=>xs[i.1])[i]'(by omega)=xs[(nS[i]!).1]:=λi h=>by
          have e:nS[i]! =nS[i]'(by omega):=getElem!_pos _ i (by omega);simp[e]
         have TO:(nS.toList.map λi=>xs[i.1]).Pairwise (λa b=>c a b<=0):=by
          rw[UX];intro i j au aC gP;rw[kX]at au aC;have:=aoE i j (vS _) gP aC;unfold ltOf at this;rw[nr]at this;rw[tz i au,tz j aC];have a7: ¬0<c xs[(nS[i]!).1] xs[(nS[j]!).1]:=λbp=>this ((ak.neg _ _).2 bp);omega
         refine⟨_,⟨_,lk,TO⟩,rfl,Xn hp a8 _ nS os,by simp[ks],λq hq=>?_,λe he=>?_,⟨_,rfl,.nil⟩⟩
         ·simp[ks]at hq;subst hq
          exact⟨rp hp asH,λ_=>by simp[ks],acS⟩
         simp at he;subst he
         refine⟨_,cB,_,rfl,by rw[Me];exact dR,by rw[kX];exact hle,abV,?_,λi au=>?_⟩
         ·rw[kX];exact ai0 (by rw[Me];exact TN)
         rw[kX]at au
         rw[kX,XX au,ahr (λx=>aj.len (I4 x.1 x.2)) hd' TN au,tz i au]
         exact aj.mono (iG m os nS) (I4 _ (nS[i]!).2)
def ah.wA{T:Type}(xs:aa T)(F:T->T->aA Int):ah (aa T):=λQ=> ∃c:T->T->Int,yQ c∧xs.length<4611686018427387904∧(∀a∈xs,∀b∈xs,F a b=some (c a b))∧∀ys:aa T,ys.Perm xs->ys.Pairwise (λa b=>c a b<=0)->Q ys
open Go.Shelf in
def Z8{T:Type}[aj T]{P:Program}{ρ:Ren}(L:SlLaysF0.n6 P ρ)(Uy:∀w,(isAgg (ρ.t 24)).run P w=.ok true w)(Uz:∀w,(Go.sizeOf (ρ.t 24)).run P w=.ok (aj.size T) w)(TM:aj.agg T=true){t:bF}{xs:aa T}{F:T->T->aA Int}{K:aa T->Prop}(h:ah.wA xs F K){key:aA Nat}{cap:Nat}:
 bV P (ρ.f 6) [.eq (aH key xs.length cap),.Jh P F] [⟨key,.row t xs cap⟩] (δ:= {r:aa T // xs.length=r.length∧K r}) (λ_=>.b7 []) (λd=>[⟨key,.row t d.1 cap⟩]):=by
 obtain⟨c,ak,hlen,lP,hk⟩:=h
 intro A W vs h1 ae az aQ a7
 exact(aoD L Uy Uz TM ak lP hlen A W vs h1 ae az aQ a7).mono λe rf ⟨v,d,h⟩=>⟨v,⟨d.1,d.2.1.length_eq.symm,hk _ d.2.1 d.2.2⟩,h⟩
end Gv
namespace Gv
open Go
def ah.ar4{α β ρ:Type}{ji:α->Prop}{m:α->ah β}{k:α->β->ah ρ}{R:ρ->Prop}(h:∀y,ji y->ah.bind (m y) (k y) R):∃K:α×β->Prop,(∀y,ji y->m y λz=>K (y,z))∧∀y,K y->k y.1 y.2 R:=
 ⟨λy=>k y.1 y.2 R,h,λ_ h=>h⟩
def ah.hd{α ρ:Type}{m:ah α}{k:α->ah ρ}{R:ρ->Prop}(h:ah.bind m k R):m (λa=>k a R):=h
structure atW(α:Type)where
 p:Option α
 deriving DecidableEq,Inhabited
def ajP{c:cC}{E:aa (Nat×J)}{L:aa aI}{d:aA Tmp}{ty:bF}{pos:String}{af:Array Edge}{g:aA (Nat×Bool)}{x:ca}{t t2:bF}{p:Addr}{e:bF}(hu:c.P.underlying t=some (.pointer e))(an:aU c E L x (.eq (.pointer (some p)))):bj c E L ⟨d,.binOp .neq t x (.const (.pointer none)) t2,ty,pos,af,g⟩ (.of true):=.pure λa W s=>by
 have aM:a.eval (.const (.pointer none))=.pointer none:=rfl;have h1:a.eval x=.pointer (some p):=an a W s;refine⟨.bool true,?_,of_bool.2 I⟩;simp only[execOp,eqGuard,binOp,h1,aM,Op.equal,Op.maxDepth];simp[Qi hu p W 9999]
structure xX(P:Program)(τ:J)(τs:List J)(Lin:List aI){δ:Type}(ρ:δ->J)(Lo:δ->List aI):Prop where
 go:∀(A:List Nat) (W:World) (u:Value) (vs:List Value),(∀k∈A,k<W.heap.size∧k∉ks Lin)->(ks Lin).Nodup->(∀k∈ks Lin,k<W.heap.size)->(∀e∈Lin,e.ok (ks Lin++A) W)->gL (ks Lin++A) W (τ::τs) (u::vs)->
  ∃(f:FuncId) (fu:List Value),u=.func (.func f) #[] fu.toArray∧bL P f∧Calls P f (vs++fu).toArray W (kB (ks Lin) A W ρ Lo)
def xX.of{P:Program}{f:FuncId}{τ:J}{tx τs:aa J}{Lin:aa aI}{δ:Type}{ρ:δ->J}{Lo:δ->aa aI}(cj:bL P f)(JO:∀A W u,τ.holds A W u->(J.kP f tx).holds A W u)
 (h:bV P f (τs++tx) Lin ρ Lo):xX P τ τs Lin ρ Lo where
 go A W u vs h1 ae az aQ a7:=by
  cases a7 with
  | cons bp cO=>
    obtain⟨fu,rfl,dJ⟩:=JO _ _ _ bp
    exact⟨f,fu,rfl,cj,h A W (vs++fu) h1 ae az aQ (cO.append dJ)⟩
section
variable{c:cC}{E:aa (Nat×J)}{L:aa aI}{ops:Array Oper}{Q:Exit->Act->bq->Prop}
variable{d:aA Tmp}{ty:bF}{pos:String}{af:Array Edge}{g:aA (Nat×Bool)}{x y z:ca}{t t2:bF}
def RD{o:Oper}{σ τ:J}(h:bj c E L o σ)(e:∀A W v,σ.holds A W v->τ.holds A W v):bj c E L o τ:=λa W s=>by
 have:=h a W s;unfold h0 at this⊢;exact vP (λiw W' ⟨v,h1,ae,az⟩=>⟨v,h1,ae,e _ _ _ az⟩) this
def aky{a:Act}{W:bq}{xs:aa ca}{ats:Array bF}{τ:J}{τs:aa J}{Lin Lr:aa aI}{δ:Type}{ρ:δ->J}{Lo:δ->aa aI}(h:xX c.P τ τs Lin ρ Lo)
 (s:bP c E (Lin++Lr) a W) (an:gL (ks (Lin++Lr)++c.b3) W (τ::τs) ((x::xs).map a.eval)):
 h0 c.P ⟨d,.call ⟨.value x,xs.toArray,ats⟩,ty,pos,af,g⟩ a W λv W'=> ∃bc,bP c E (Lo bc++Lr) a W'∧(ρ bc).holds (ks (Lo bc++Lr)++c.b3) W' v:=by
 have lB:=s.nodup
 rw[e1]at lB
 obtain⟨nJ,sL,qs⟩:=pS.1 lB
 have h2:Ext (ks (Lin++Lr)++c.b3) W (ks Lin++(ks Lr++c.b3)) W:=DW
 have eB:∀k∈ks Lr++c.b3,k<W.heap.size∧k∉ks Lin:=λk hm=>by
  rcases cz.1 hm with hm|hm
  ·exact⟨s.lt k (by rw[e1];exact cz.2 (.inr hm)),λh=>qs k h k hm I⟩
  obtain⟨h1,ae⟩:=s.eG k hm;exact⟨h1,λh=>ae (by rw[e1];exact cz.2 (.inl h))⟩
 have ch:∀k∈ks Lin,k<W.heap.size:=λk hm=>s.lt k (by rw[e1];exact cz.2 (.inl hm))
 obtain⟨f,fu,hu,cj,ak⟩:=h.go (ks Lr++c.b3) W (a.eval x) (xs.map a.eval) eB nJ ch (λe he=>aI.uL (s.own e (cz.2 (.inl he))) h2 λ_ _=>rfl) (by simpa using an.mono h2)
 refine .wa (f:=f) (args:=(xs.map a.eval++fu).toArray) (W':=W) ?_ (ak.mono λe W' ⟨v,bc,he,aW,h1,ae,az,aQ⟩=>?_)
 ·simp[execOp,resolve,Deferred.ofValue,hu,invoke,cj.run]
 refine⟨v,he,bc,s.after aW h1 ae az,(ρ bc).mono Md aQ⟩
variable{bM:Type}[dZ bM]{hp:aL bM}
def ad.ase{rest:aa Oper}{bc:Nat}{xs:aa ca}{ats:Array bF}{τ:J}{τs:aa J}{Lin Lr:aa aI}{δ:Type}{ρ:δ->J}{Lo:δ->aa aI}{hq:δ->aL bM}(n m:Nat)(ax:L.drop n=aX hp)(h:xX c.P τ τs (Lin++aX hp) ρ (λd=>Lo d++aX (hq d)))
 (h1:(L.take n).take m=Lin) (ae:(L.take n).drop m=Lr) (an:iF c E L (x::xs) (τ::τs)) (aM:Nat.blt bc c.n=true) (k:∀q,ad c ops Q rest ((bc,ρ q)::E) ((Lo q++Lr)++aX (hq q))):
 ad c ops Q (⟨some bc,.call ⟨.value x,xs.toArray,ats⟩,ty,pos,af,none⟩::rest) E L:=by
 have e:L=(Lin++Lr)++aX hp:=by rw[<-h1,<-ae,gp,<-ax,gp]
 clear ax h1 ae
 subst e
 exact λa W s=>iO I (aky (Lr:=Lr) h (s.perm mR) ((an.holds a W s).mono (po mR))) λv W' ⟨q,cH,ba⟩=>
  k q _ _ ((cH.perm mR).put (by simpa using aM) ((ρ q).mono (po mR) ba))
def aoF{p n:Nat}{k:bM}{e:aI}{es:aa aI}(ax:L.drop n=aX hp)(h:pat hp p=some k)(hk:dZ.gd p k=e::es):e∈L:=by
 obtain⟨R,h1,_⟩:=vX h;rw[hk]at h1;have:e∈L.drop n:=by rw[ax];exact h1.mem_iff.2 (by simp)
 exact CQ this
def ai1{x:ca}{t:bF}{p o:Nat}{β γ:Type}[aj β][aj γ]{b:β}{os:aa (Nat×bt)}(l:aP β γ){r:γ}(dP:bS c.P t γ)(an:aU c E L x (.eq (.pointer (some ⟨p,o,none⟩))))
 (hm:(⟨some p,.bX b os⟩:aI)∈L) (a8:o=l.off) (aE:l.get b=r) (aY:uW os l.off (aj.size γ)=true):bj c E L ⟨d,.load t x,ty,pos,af,g⟩ (.of r):=by
 obtain⟨i,au⟩:=oE.1 hm
 exact Ml (i:=i) l dP an au a8 aE aY
def XO{bM:Type}{hp:aL bM}{p:Nat}{k:bM}(h:pat hp p=some k):cF hp p k=hp:=by
 induction hp with
 |nil=>rfl
 | cons z r b6=>
   obtain⟨q,atT⟩:=z
   simp only[pat]at h
   simp only[cF]
   split
   ·rename_i e
    rw[bk e]at h
    rw[xr h]
   rename_i e
   rw[bf e]at h
   rw[b6 h]
def ad.RE{l:aa Oper}{p:Nat}{k:bM}{X:aa aI}(n:Nat)(ax:L.drop n=aX hp)(hp':pat hp p=some k)(hk:dZ.gd p k=X)
 (nm:∀R,(∀k',(aX (cF hp p k')).Perm (dZ.gd p k'++R))->ad c ops Q l E (X++(L.take n++R))):ad c ops Q l E L:=by
 obtain⟨R,a6,br⟩:=vX hp'
 refine ad.perm ?_ (nm R br)
 conv=>rhs;rw[<-gp n L,ax]
 rw[hk]at a6
 refine List.Perm.trans ?_ (a6.symm.append_left (L.take n))
 rw[<-jE,<-jE]
 exact oF.append_right _
def ad.Sn{l:aa Oper}{p:Nat}{R M:aa aI}(k':bM)(m n:Nat)(iK:∀k',(aX (cF hp p k')).Perm (dZ.gd p k'++R))(ax:L.drop n=R)(h1:(L.take n).take m=dZ.gd p k')(ae:(L.take n).drop m=M)
 (nm:ad c ops Q l E (M++aX (cF hp p k'))):ad c ops Q l E L:=by
 have e:L=(dZ.gd p k'++M)++R:=by rw[<-h1,<-ae,gp,<-ax,gp]
 refine ad.perm ?_ nm
 rw[e]
 refine((iK k').append_left M).trans ?_
 rw[<-jE]
 exact oF.append_right _
end
section
variable{P:Program}{b:Frame}{a:Act}{k:aa Item}{cs:aa Frame}{w:bq}{Q:Exit->Act->bq->Prop}{F:Fence}{n:Nat}
def TP(Q:Exit->Act->bq->Prop):Exit->Act->bq->Prop
 | .goto _,_,_=>False
 |e,a,w=>Q e a w
def DJ{c:Code}:step P (lone (b.atR a (.code (.scope c)::k)) cs w)=.next (lone (b.atR a (.code c::.inScope c::k)) cs w):=
 step_lone_go (by simp[stepG,stepG.exec,Frame.atR])
def ago{c:Code}:step P (lone (b.atR a (.inScope c::k)) cs w)=.next (lone (b.atR a k) cs w):=
 step_lone_go (by simp[stepG,stepG.exec,Frame.atR])
def ahs{c:Code}(h:c.wpIn F n P (TP Q) a w):(Code.scope c).wpIn F n P Q a w:=by
 intro b k cs oZ hb aE;have bJ:(lone (b.atR a (.code (.scope c)::k)) cs w).fenced P F:=Dm hb aE I;obtain⟨e,sF,BS,hq,oU⟩:=h b (.inScope c::k) cs oZ hb aE;cases e with
 |normal=>exact⟨.normal,sF,BS,hq,.head bJ DJ (PJ oU (.one (Dm hb aE I) ago))⟩
 | exit id=>
   have an:exitTo id (.inScope c::k)=exitTo id k:=by simp[exitTo]
   exact⟨.exit id,sF,BS,hq,λk' hk=>.head bJ DJ (oU.1 k' (by rw[an];exact hk)),
    λjZ hk=>let⟨k₁,h1,ae⟩:=oU.2 jZ (by rw[an];exact hk); ⟨k₁,h1,.head bJ DJ ae⟩⟩
 |goto l=>exact hq.elim
 |ret=>exact⟨_,sF,BS,hq,.of_steps (.one bJ DJ) oU⟩
 |panic ou=>exact⟨_,sF,BS,hq,.of_steps (.one bJ DJ) oU⟩
 |outgrown=>exact⟨_,sF,BS,hq,.of_steps (.one bJ DJ) oU⟩
end
section
variable{c:cC}{E:aa (Nat×J)}{L:aa aI}{Q:Exit->Act->bq->Prop}
def ay.scope{x:Code}(h:ay c (TP Q) x E L):ay c Q (.scope x) E L:=λa W s=>ahs (h a W s)
def ay.label{l:Nat}(h:aq c Q .normal E L):ay c Q (.label l) E L:=λa W s=>wpIn_label (h a W s)
def aq.abv(h:aq c Q .ret E L):aq c (TP Q) .ret E L:=h
end
section
variable{c:cC}{E:aa (Nat×J)}{L:aa aI}
def bj.asa{o:Oper}{ρ τ:J}{p:Prop}(gh:Nat)(ao:look E gh=some (.cond p τ))(hb:p)(h:bj c ((gh,τ)::E) L o ρ):bj c E L o ρ:=λa W s=>by
 refine h a W (s.less λt σ ae=>?_);simp only[look]at ae;by_cases e:Nat.beq gh t=true
 ·rw[e]at ae;simp only[cond_true,gy]at ae;have:=fx.1 e;subst this;subst ae;exact⟨_,ao,λA W v ba=>ba.1 hb⟩
 simp only[lX]at e;rw[e]at ae;simp only[cond_false]at ae;exact⟨σ,ae,λ_ _ _ h=>h⟩
end
abbrev J.dv(p:Nat):J:=.eq (.pointer (some ⟨p,0,none⟩))
abbrev aZ{α:Type}[aj α](p:Nat)(x:α):aI:=⟨some p,.var x⟩
inductive oA:Nat->List aI->List aI->Prop
 |nil {L:List aI}:oA 0 L []
 |cons {n:Nat} {e:aI} {r s:List aI}:oA n r s->oA (n+1) (e::r) (e::s)
inductive oB:List aI->List aI->Prop
 |nil:oB [] []
 |gd {bM:Type} [dZ bM] {hp:aL bM}:oB (aX hp) (aX hp)
 |o5 {l:List aI}:oB l l
 |cons {e e':aI} {r s:List aI}:e=e'->oB r s->oB (e::r) (e'::s)
def oB.eq:∀{l m:aa aI},oB l m->l=m
 |_,_,.nil=>rfl
 |_,_,@oB.gd _ _ _=>rfl
 |_,_,.o5=>rfl
 |_,_,.cons h1 h=>by rw[h.eq,h1]
section
variable{c:cC}{E:aa (Nat×J)}{L:aa aI}{ops:Array Oper}{Q:Exit->Act->bq->Prop}{x:ca}
def ad.dC{l:aa Oper}{L2:aa aI}(k:ad c ops Q l E L2)(h:oB L L2:=by repeat (first|exact oB.gd|exact oB.nil|(apply oB.cons; (first|(dsimp only;exact rfl)|exact rfl))|exact oB.o5)):ad c ops Q l E L:=.ey h.eq k
def aq.dC{z:Exit}{L2:aa aI}(k:aq c Q z E L2)(h:oB L L2:=by repeat (first|exact oB.gd|exact oB.nil|(apply oB.cons; (first|(dsimp only;exact rfl)|exact rfl))|exact oB.o5)):aq c Q z E L:=.ey h.eq k
def bn.cD{γ:Type}{UA:aa (Nat×J)}{UB:aa aI}{f:Nat}{cb:Array Bool}(cx:aa Nat)(d m Fj:Nat)(tg:Array Bool)(u:γ->aa (Nat×J))(xs ys:γ->aa aI)(h1:∀g,bn c ops Q Fj tg (u g++UA) (xs g++(UB++ys g)))
 (ae:(∀g,bn c ops Q Fj tg (u g++UA) (xs g++(UB++ys g)))->bn c ops Q f cb E L) (aJ:jn E cx UA:=by repeat (first|exact jn.nil|(apply jn.cons;rfl))) (ax:oA m (L.drop d) UB:=by repeat (first|exact oA.nil|apply oA.cons)):bn c ops Q f cb E L:=ae h1
def bn.s1{f:Nat}{cb:Array Bool}{o:Oper}(i:Nat)(h:ad c ops (pQ (wpAnyIn c.F 9 c.P .any ops Q f (cb.setIfInBounds i true)) Q) [o] E L)(a8:ops[i]? =some o:=by rfl)(aE:Region.ready .any ops cb=[i]:=by kernel_rfl):bn c ops Q (f+1) cb E L:=.step [i] aE I ⟨⟨o,a8,h⟩,trivial⟩
def bn.s2{f:Nat}{cb:Array Bool}{o cL:Oper}(i j:Nat)(h:ad c ops (pQ (wpAnyIn c.F 9 c.P .any ops Q f (cb.setIfInBounds i true)) Q) [o] E L)(ae:ad c ops (pQ (wpAnyIn c.F 9 c.P .any ops Q f (cb.setIfInBounds j true)) Q) [cL] E L)
 (a8:ops[i]? =some o:=by rfl) (fg:ops[j]? =some cL:=by rfl) (aE:Region.ready .any ops cb=[i,j]:=by kernel_rfl):bn c ops Q (f+1) cb E L:=.step [i,j] aE I ⟨⟨o,a8,h⟩,⟨cL,fg,ae⟩,trivial⟩
def ad.bo{f:Nat}{cb tg:Array Bool}{E':aa (Nat×J)}(k:bn c ops Q f tg E' L)(h:eZ E E':=by repeat (first|exact eZ.nil|refine eZ.same I ?_))(ao:cb=tg:=by kernel_rfl):ad c ops (pQ (wpAnyIn c.F 9 c.P .any ops Q f cb) Q) [] E L:=.nil (.bo k h ao)
def yF{α:Type}{b:Bool}{m n:ah α}{R:α->Prop}{y z:Code}(h:cond b m n R)(bE:m R->ay c Q y E L)(aW:n R->ay c Q z E L)(ao:aU c E L x (.of b):=by first|exact ag I|exact h7 _):ay c Q (.cond x y z) E L:=
 .cond ao (λhb=>bE (YD hb h)) (λhb=>aW (YE hb h))
end
def iu(up rd wr:aa Nat)(e:(Nat->Hid)->aI):dK:=⟨none,up,rd,wr,λ_=>.any,λhd _=>e hd⟩
section
variable{c:cC}{E:aa (Nat×J)}{L:aa aI}{ops:Array Oper}{Q:Exit->Act->bq->Prop}{hs:aa dK}{i:Nat}{up rd:aa Nat}{o:Oper}{bc:Nat}
def gF{τ:J}(h:∀{hd:Nat->Hid} {E':aa (Nat×J)} {L':aa aI},(∀t τ,look (kR hd hs E up) t=some τ->look E' t=some τ)->(∀j e,(gx (λ_=>true) hd 0 (hs.take i) L)[j]? =some e->rd.contains j=true->L'[j]? =some e)->bj c E' L' o τ)
 (bH:o.guard=none:=by rfl) (hd:o.dst=some bc:=by rfl) (aM:Nat.blt bc c.n=true:=by rfl):fq c ops Q hs E L i o (aN bc up rd τ):=nk (λ_ _ _ a b=>h a b) bH hd aM
def gn{τ:J}{hyp:aa aI->Prop}(h:∀{L'},hyp L'->bj c E L' o τ)(bH:o.guard=none:=by rfl):∀L',hyp L'->k0 c ops E L' o τ:=λL' ax=>.v (h ax) bH
end
def qu:aa (aA Nat)->aa (aa Nat)->aa J->aa dK
 |s::fL,d::ds,τ::cx=>⟨s,d,[],[],λ_=>τ,λ_ _=>⟨none,.dead⟩⟩::qu fL ds cx
 |_,_,_=>[]
def Ez:aa (aA Nat)->aa (aa Nat)->aa (aA Nat×aa Nat×aa Nat×aa Nat)
 |s::fL,d::ds=>(s,d,[],[])::Ez fL ds
 |_,_=>[]
def wI(E:aa (Nat×J)):aa (aA Nat)->aa (aa Nat)->aa J->aa (Nat×J)
 |s::fL,_::ds,τ::cx=>rO s τ (wI E fL ds cx)
 |_,_,_=>E
def E1:aa Oper->aa (aA Nat)->Nat->Bool
 |[],[],_=>true
 |o::os,some s::fL,n=>(match o.dst with |some t=>Nat.beq t s|none=>false)&&Nat.blt s n&&E1 os fL n
 |_,_,_=>false
section
variable{c:cC}{E:aa (Nat×J)}{L:aa aI}{ops:Array Oper}{Q:Exit->Act->bq->Prop}
def x3(c:cC)(ops:Array Oper)(E:aa (Nat×J))(L:aa aI)(hs:aa dK):aa Oper->aa (aA Nat)->aa (aa Nat)->aa J->Prop
 |o::os,_::fL,d::ds,τ::cx=>(∀L':aa aI,(∀(j:Nat) (e:aI),L[j]? =some e->u5 (λ_=>false) j 0 []=true->L'[j]? =some e)->k0 c ops (kR (λ_ _=>none) hs E d) L' o τ)∧x3 c ops E L hs os fL ds cx
 |_,[],[],[]=>True
 |_,_,_,_=>False
def Mp{h:dK}:∀{fL:aa (aA Nat)} {ds:aa (aa Nat)} {cx:aa J},h∈qu fL ds cx->h.wr=[]∧∀g dY,h.τ g=h.τ dY
 | _::fL,_::ds,_::cx,hm=>by
   rcases dW.1 hm with rfl|hm
   ·exact⟨rfl,λ_ _=>rfl⟩
   exact Mp hm
def ML{hd:Nat->Hid}{hs:aa dK}(ak:∀h∈hs,∀g dY,h.τ g=h.τ dY):∀{d:aa Nat},kR hd hs E d=kR (λ_ _=>none) hs E d
 |[]=>rfl
 | j::r=>by
   unfold kR;cases aC:hs[j]? with
   |none=>exact ML ak
   | some h=>
     cases hq:h.slot with
     |none=>simp only[hq];exact ML ak
     |some s=>simp only[hq];rw[ak h (e6 aC) _ (hQ h.up j (λ_ _=>none)),ML ak]
def aaS{hd:Nat->Hid}:∀{hs:aa dK} {k:Nat} {L:aa aI},(∀h∈hs,h.wr=[])->gx (λ_=>true) hd k hs L=L
 |[],_,_,_=>rfl
 | h::r,k,L,hw=>by
   unfold gx;rw[hw h kt];exact aaS λx an=>hw x (fM _ an)
def Re{hd:Nat->Hid}:∀{fL:aa (aA Nat)} {ds:aa (aa Nat)} {cx:aa J} {k:Nat},im (λ_=>true) hd E k (qu fL ds cx)=wI E fL ds cx
 |some s::fL,d::ds,τ::cx,k=>by unfold qu wI im;simp only[rO];rw[Re]
 |none::fL,d::ds,τ::cx,k=>by unfold qu wI im;simp only[rO];rw[Re]
 |[],_,_,_=>by unfold qu wI im;rfl
 |_::_,[],_,_=>by unfold qu wI im;rfl
 |_::_,_::_,[],_=>by unfold qu wI im;rfl
def ad.a8{o:Oper}{rest:aa Oper}{d:Nat}{τ:J}{E':aa (Nat×J)}(h:k0 c ops E' L o τ)(aJ:∀t τ,look E' t=some τ->look E t=some τ)(hd:o.dst=some d)(aM:Nat.blt d c.n=true)(k:ad c ops Q rest ((d,τ)::E) L):ad c ops Q (o::rest) E L:=λa W s=>by
 obtain⟨h1,ae⟩:=h a W (s.less λt τ ao=>⟨τ,aJ t τ ao,λ_ _ _ h=>h⟩);unfold cC.tG wpListIn;by_cases hw:Region.wanted o (yielded ops a.tmps)=true
 ·rw[bk hw];refine((h1 hw).wpIn λv W' ⟨f,ba⟩=>?_);rw[hd];exact k _ _ ((s.world f).put (by simpa using aM) ba)
 rw[bf hw,hd];exact⟨λ_ _=>trivial,k _ _ (s.put (by simpa using aM) (ae (by simpa using hw)))⟩
def x3.Jy{hs:aa dK}(ak:∀h∈hs,∀g dY,h.τ g=h.τ dY):∀{os:aa Oper} {fL:aa (aA Nat)} {ds:aa (aa Nat)} {cx:aa J} {k n:Nat},x3 c ops E L hs os fL ds cx->E1 (os.take n) fL c.n=true->p4 c ops Q hs E L 0 k (os.take n) (qu fL ds cx)
 | os,[],ds,cx,k,n,_,hb=>by
   cases h:os.take n with
   |nil=>cases ds <;> cases cx <;> trivial
   |cons o r=>rw[h]at hb;cases hb
 |[],s::fL,ds,cx,k,n,_,hb=>by rw[List.take_nil]at hb;cases hb
 |o::os,s::fL,ds,cx,k,0,_,hb=>by cases hb
 |o::os,s::fL,[],cx,k,n+1,h,_=>h.elim
 |o::os,s::fL,d::ds,[],k,n+1,h,_=>h.elim
 |o::os,none::fL,d::ds,τ::cx,k,n+1,h,hb=>by simp[E1]at hb
 | o::os,some s::fL,d::ds,τ::cx,k,n+1,h,hb=>by
   simp only[List.take_succ_cons,E1,gq]at hb;refine⟨λJz E' L' aJ _ cJ=>?_,x3.Jy ak h.2 hb.2⟩;have e:L'=L:=cJ;subst e;have et:o.dst=some s:=by
    have:=hb.1.1;cases hd:o.dst with
    |none=>rw[hd]at this;cases this
    |some t=>rw[hd]at this;rw[fx.1 this]
   exact ad.a8 (h.1 _ λj e he _=>he) (λt τ ao=>aJ t τ (by rw[ML ak];exact ao)) et hb.1.2 (ad.nil (aq.fin (λ_=>none) I I))
def ay.mg{kj:Nat}{l:aa Oper}{es:aa Nat}(hm:c.P.follows .mixedOrders=true)(n:Nat)(oQ:aa (aA Nat))(wJ:aa (aa Nat))(cx:aa J)(cB:x3 c l.toArray E L (qu oQ wJ cx) l oQ wJ cx)(bE:ad c l.toArray Q (l.drop n) (wI E oQ wJ cx) L)
 (et:lI (qu oQ wJ cx)=Ez oQ wJ:=by rfl) (iT:E.map (·.1)=es:=by rfl) (cI:Gv.qR l.toArray n (Ez oQ wJ) es=true:=by kernel_rfl) (hs:E1 (l.take n) oQ c.n=true:=by rfl):ay c Q (.region kj l.toArray true) E L:=
 have ak:∀h∈qu oQ wJ cx,∀g dY,h.τ g=h.τ dY:=λh hm=>(Mp hm).2
 ay.MK n (np:=0) hm (qu oQ wJ cx) (Ez oQ wJ) es et iT cI (λh hm j aC=>by rw[(Mp hm).1]at aC;cases aC) (x3.Jy ak cB hs) (λhd=>by rw[Re,aaS λh hm=>(Mp hm).1];exact bE)
end
section
variable{c:cC}{E fj:aa (Nat×J)}{L fD:aa aI}{Q:Exit->Act->bq->Prop}{x:ca}
def yA{γ:Type}{b:Bool}{y z:Code}(n:Nat)(cx:aa Nat)(u:γ->aa (Nat×J))(ul:γ->aa (Nat×aI))(nT:γ->aa aI)(ow:∀g,aq c Q .normal (u g++fj) (iH fD (ul g)++nT g))
 (bE:(∀g,aq c (ei Q) .normal (u g++fj) (iH fD (ul g)++nT g))->b=true->ay c (ei Q) y E L) (aW:(∀g,aq c (ei Q) .normal (u g++fj) (iH fD (ul g)++nT g))->b=false->ay c (ei Q) z E L)
 (Cd:oA n L fD:=by repeat (first|exact oA.nil|apply oA.cons)) (JC:jn E cx fj:=by repeat (first|exact jn.nil|(apply jn.cons;rfl))) (ao:aU c E L x (.of b):=by first|exact ag I|exact h7 _):ay c Q (.cond x y z) E L:=
 ay.b4 (λg=>u g++fj) (λg=>iH fD (ul g)++nT g) ao ow bE aW
def wR{β γ ρ:Type}{k1:ρ->Prop}{b:Bool}{y z:Code}{a6 br:ah β}{k:β->ah ρ}(h:ah.bind (bif b then a6 else br) k k1)(n:Nat)(cx:aa Nat)(u:β->γ->aa (Nat×J))(ul:β->γ->aa (Nat×aI))(nT:β->γ->aa aI)
 (ow:∀m g,k m k1->aq c Q .normal (u m g++fj) (iH fD (ul m g)++nT m g))
 (bE:(∀m g,k m k1->aq c (ei Q) .normal (u m g++fj) (iH fD (ul m g)++nT m g))->b=true->a6 (λm=>k m k1)->ay c (ei Q) y E L) (aW:(∀m g,k m k1->aq c (ei Q) .normal (u m g++fj) (iH fD (ul m g)++nT m g))->b=false->br (λm=>k m k1)->ay c (ei Q) z E L)
 (Cd:oA n L fD:=by repeat (first|exact oA.nil|apply oA.cons)) (JC:jn E cx fj:=by repeat (first|exact jn.nil|(apply jn.cons;rfl))) (ao:aU c E L x (.of b):=by first|exact ag I|exact h7 _):ay c Q (.cond x y z) E L:=
 ay.alv h (λm g=>u m g++fj) (λm g=>iH fD (ul m g)++nT m g) ao ow bE aW
def vk{σ ε γ δ:Type}{body:Code}{N:Nat}{b:σ->aA (σ⊕ε)}{s0:σ}{e:ε}(ao:dy N b s0=some e)(n:Nat)(cx:aa Nat)(u:σ->γ->aa (Nat×J))(ul:σ->γ->aa (Nat×aI))(nT:σ->γ->aa aI)(xs:ε->Exit)
 (uf:ε->δ->aa (Nat×J)) (tM:ε->δ->aa (Nat×aI)) (Cj:ε->δ->aa aI) (g0:γ)
 (tm:∀s r,b s=some r->∀g,ay c (e9 c (λs g=>u s g++fj) (λs g=>iH fD (ul s g)++nT s g) xs (λe d=>uf e d++fj) (λe d=>iH fD (tM e d)++Cj e d) r) body (u s g++fj) (iH fD (ul s g)++nT s g))
 (p8:∀g,aq c Q (xs e) (uf e g++fj) (iH fD (tM e g)++Cj e g))
 (Cd:oA n L fD:=by repeat (first|exact oA.nil|apply oA.cons)) (JC:jn E cx fj:=by repeat (first|exact jn.nil|(apply jn.cons;rfl))) (aJ:eZ E (u s0 g0++fj):=by repeat (first|exact eZ.nil|refine eZ.same I ?_)) (ax:L=iH fD (ul s0 g0)++nT s0 g0:=by rfl):ay c Q (.loop body) E L:=
 ay.Ng ao (λs g=>u s g++fj) (λs g=>iH fD (ul s g)++nT s g) xs (λe d=>uf e d++fj) (λe d=>iH fD (tM e d)++Cj e d) g0 ax aJ tm p8
def B2{σ ε γ δ ρ:Type}{body:Code}{N:Nat}{b:σ->ah (σ⊕ε)}{s0:σ}{k:ε->ah ρ}{k1:ρ->Prop}(ao:ah.bind (Gv.n4 N b s0) k k1)(n:Nat)(cx:aa Nat)(u:σ->γ->aa (Nat×J))(ul:σ->γ->aa (Nat×aI))(nT:σ->γ->aa aI)(xs:ε->Exit)
 (uf:ε->δ->aa (Nat×J)) (tM:ε->δ->aa (Nat×aI)) (Cj:ε->δ->aa aI) (g0:γ)
 (tm:∀s R,b s R->∀g,ay c (ff c (λs g=>u s g++fj) (λs g=>iH fD (ul s g)++nT s g) xs (λe d=>uf e d++fj) (λe d=>iH fD (tM e d)++Cj e d) R) body (u s g++fj) (iH fD (ul s g)++nT s g))
 (p8:∀e,k e k1->∀g,aq c Q (xs e) (uf e g++fj) (iH fD (tM e g)++Cj e g))
 (Cd:oA n L fD:=by repeat (first|exact oA.nil|apply oA.cons)) (JC:jn E cx fj:=by repeat (first|exact jn.nil|(apply jn.cons;rfl))) (aJ:eZ E (u s0 g0++fj):=by repeat (first|exact eZ.nil|refine eZ.same I ?_)) (ax:L=iH fD (ul s0 g0)++nT s0 g0:=by rfl):ay c Q (.loop body) E L:=
 ay.Za ao (λs g=>u s g++fj) (λs g=>iH fD (ul s g)++nT s g) xs (λe d=>uf e d++fj) (λe d=>iH fD (tM e d)++Cj e d) g0 ax aJ tm p8
end
class asI (σ:Type)where
 adx:aa Nat->σ->aa (Nat×J)
instance(priority:=low) auy {α:Type} [aj α]:asI α:=⟨λatX x=>match atX with |n::_=>[(n,.of x)]|[]=>[]⟩
inductive NE:List (Nat×J)->List (Nat×J)->Prop
 |nil:NE [] []
 |cons {x:Nat×J} {r s:List (Nat×J)}:NE r s->NE (x::r) (x::s)
def NE.eq:∀{l m:aa (Nat×J)},NE l m->l=m
 |_,_,.nil=>rfl
 |_,_,.cons h=>by rw[h.eq]
section
variable{c:cC}{E fj:aa (Nat×J)}{L:aa aI}{ops:Array Oper}{Q:Exit->Act->bq->Prop}
def hN{z:Exit}(k:aq c Q z fj L)(h:NE E fj:=by repeat (first|exact NE.nil|apply NE.cons)):aq c Q z E L:=by rw[h.eq];exact k
def acA{l:aa Oper}(k:ad c ops Q l fj L)(h:NE E fj:=by repeat (first|exact NE.nil|apply NE.cons)):ad c ops Q l E L:=by rw[h.eq];exact k
def ay.adk{kj:Nat}{l:aa Oper}{ds:aa (aA Nat×aa Nat×aa Nat×aa Nat)}{es:aa Nat}(n np:Nat)(hm:c.P.follows .mixedOrders=true)(hs:aa dK)
 (cB:p4 c l.toArray Q hs E L np 0 (l.take n) hs) (bE:∀hd,ad c l.toArray Q (l.drop n) (im (λ_=>true) hd E 0 hs) (gx (λ_=>true) hd 0 hs L))
 (et:lI hs=ds:=by rfl) (iT:E.map (·.1)=es:=by rfl) (cI:Gv.qR l.toArray n ds es=true:=by kernel_rfl) (hw:(ds.all λd=>d.2.2.2.all λj=>Nat.blt j np)=true:=by kernel_rfl):ay c Q (.region kj l.toArray true) E L:=.atU n np hm hs es cB bE et iT cI hw
def ay.atK{kj:Nat}{l:aa Oper}{ds:aa (aA Nat×aa Nat×aa Nat×aa Nat)}{es:aa Nat}(np:Nat)(hm:c.P.follows .mixedOrders=true)(hs:aa dK)
 (cB:p4 c l.toArray Q hs E L np 0 l hs) (bE:∀hd,aq c Q .normal (im (λ_=>true) hd E 0 hs) (gx (λ_=>true) hd 0 hs L))
 (et:lI hs=ds:=by rfl) (iT:E.map (·.1)=es:=by rfl) (cI:Gv.qR l.toArray l.length ds es=true:=by kernel_rfl) (hw:(ds.all λd=>d.2.2.2.all λj=>Nat.blt j np)=true:=by kernel_rfl):ay c Q (.region kj l.toArray true) E L:=.Ux np hm hs es cB bE et iT cI hw
def ay.y2{kj:Nat}{l:aa Oper}{ds:aa (aA Nat×aa Nat×aa Nat×aa Nat)}{es:aa Nat}(hm:c.P.follows .mixedOrders=true)(hs:aa dK)
 (cB:D5 c l.toArray Q hs E L 0 l hs) (bE:∀hd,aq c Q .normal (im (λ_=>true) hd E 0 hs) (gx (λ_=>true) hd 0 hs L))
 (et:lI hs=ds:=by rfl) (iT:E.map (·.1)=es:=by rfl) (cI:Gv.qR l.toArray l.length ds es=true:=by kernel_rfl):ay c Q (.region kj l.toArray true) E L:=.OC hm hs es cB bE et iT cI
end
end Gv
