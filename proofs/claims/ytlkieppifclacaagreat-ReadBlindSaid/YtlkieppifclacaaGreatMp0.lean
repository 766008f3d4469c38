/-
  What the programs compute, in plain Lean. Conditions: none.
-/
import Derived.Test.YtlkieppifclacaaGreatMl0
import Derived.Test.YtlkieppifclacaaGreatMl1
import Derived.Test.YtlkieppifclacaaGreatMd
set_option linter.defProp false
set_option linter.unusedVariables false
set_option linter.unusedSimpArgs false
set_option maxRecDepth 100000
namespace Gv
open Go
def X2{σ ε:Type}{body:σ->aA (σ⊕ε)}{Q:ε->Prop}{s0:σ}(m:Nat)(fC:Nat->σ->Prop)
 (hm:m<2^80) (bJ:fC 0 s0)
 (hs:∀k s,k<m->fC k s->(∃cH,body s=some (.inl cH)∧fC (k+1) cH)∨(∃e,body s=some (.inr e)∧Q e))
 (he:∀s,fC m s->∃e,body s=some (.inr e)∧Q e):∃e,dy dt body s0=some e∧Q e:=by
 have key:∀n k s,k<=m->m-k<n->fC k s->∃e,dy n body s=some e∧Q e:=by
  intro n;induction n with
  |zero=>intro k s _ h;omega
  | succ n b6=>
    intro k s hk aM au
    by_cases JQ:k=m
    ·subst JQ
     obtain⟨e,h1,ae⟩:=he s au
     exact⟨e,by simp[dy,h1],ae⟩
    rcases hs k s (by omega) au with⟨cH,h1,ae⟩|⟨e,h1,ae⟩
    ·obtain⟨e,az,aQ⟩:=b6 (k+1) cH (by omega) (by omega) ae
     exact⟨e,by simp[dy,h1,az],aQ⟩
    exact⟨e,by simp[dy,h1],ae⟩
 exact key dt 0 s0 (by omega) (by unfold dt;omega) bJ
def bd{β:Type}(m:aA β)(P:β->Prop):Prop:=∃r,m=some r∧P r
def bd.ret{β:Type}{P:β->Prop}{r:β}(h:P r):bd (some r) P:=⟨r,rfl,h⟩
def bd.bind{α β:Type}{m:aA α}{f:α->aA β}{P:α->Prop}{Q:β->Prop}(h:bd m P)(k:∀a,P a->bd (f a) Q):bd (m.bind f) Q:=by
 obtain⟨a,h1,ae⟩:=h;rw[h1];exact k a ae
def bd.eq{α β:Type}{m:aA α}{a:α}{f:α->aA β}{Q:β->Prop}(h:m=some a)(k:bd (f a) Q):bd (m.bind f) Q:=by
 rw[h];exact k
def bd.mono{β:Type}{m:aA β}{P Q:β->Prop}(h:bd m P)(k:∀a,P a->Q a):bd m Q:=by
 obtain⟨a,h1,ae⟩:=h;exact⟨a,h1,k a ae⟩
def bd.of_eq{β:Type}{m:aA β}{r:β}{P:β->Prop}(h:bd m P)(k:m=some r):P r:=by
 obtain⟨a,h1,ae⟩:=h;rw[k]at h1;cases h1;exact ae
def bd.cond{β:Type}{b:Bool}{m n:aA β}{P:β->Prop}(h1:b=true->bd m P)(ae:b=false->bd n P):bd (cond b m n) P:=by
 cases b
 ·exact ae I
 exact h1 I
def bd.b4{α β:Type}[Inhabited α]{b w:Bool}{m:aA α}{f:α->aA β}{P:α->Prop}{Q:β->Prop}(h:b=w->bd m P)(k:∀a,(b=w->P a)->bd (f a) Q):bd ((b4 b w m).bind f) Q:=by
 unfold Gv.b4;by_cases hb:b=w
 ·rw[bk hb];exact(h hb).bind λa aY=>k a λ_=>aY
 rw[bf hb];exact k default λh=>absurd h hb
def bd.loop{σ ε β:Type}{body:σ->aA (σ⊕ε)}{f:ε->aA β}{P:β->Prop}{s0:σ}(m:Nat)(fC:Nat->σ->Prop)
 (hm:m<2^80) (bJ:fC 0 s0)
 (hs:∀k s,k<m->fC k s->bd (body s) (λx=>match x with | .inl cH=>fC (k+1) cH| .inr e=>bd (f e) P))
 (he:∀s,fC m s->∃e,body s=some (.inr e)∧bd (f e) P):bd ((dy dt body s0).bind f) P:=by
 obtain⟨e,h1,ae⟩:=X2 (Q:=λe=>bd (f e) P) m fC hm bJ (λk s hk au=>by
  obtain⟨r,h1,ae⟩:=hs k s hk au;cases r with
  |inl cH=>exact .inl ⟨cH,h1,ae⟩
  |inr e=>exact .inr ⟨e,h1,ae⟩) he
 rw[h1];exact ae
def bd.l4{σ ε:Type}{body:σ->aA (σ⊕ε)}{P:ε->Prop}{s0:σ}(m:Nat)(fC:Nat->σ->Prop)
 (hm:m<2^80) (bJ:fC 0 s0)
 (hs:∀k s,k<m->fC k s->bd (body s) (λx=>match x with | .inl cH=>fC (k+1) cH| .inr e=>P e))
 (he:∀s,fC m s->bd (body s) (λx=>match x with | .inl _=>False| .inr e=>P e)):bd (dy dt body s0) P:=by
 obtain⟨e,h1,ae⟩:=X2 (Q:=P) m fC hm bJ (λk s hk au=>by
  obtain⟨r,h1,ae⟩:=hs k s hk au;cases r with
  |inl cH=>exact .inl ⟨cH,h1,ae⟩
  |inr e=>exact .inr ⟨e,h1,ae⟩) λs au=>by
  obtain⟨r,h1,ae⟩:=he s au;cases r with
  |inl cH=>exact ae.elim
  |inr e=>exact⟨e,h1,ae⟩
 exact⟨e,h1,ae⟩
def bd.idx{β:Type}{n:Nat}{i:Int}{k:Nat}{f:Nat->aA β}{Q:β->Prop}(au:i=k)(hk:k<n)(h:bd (f k) Q):bd ((Gv.idx n i).bind f) Q:=by
 subst au;have:Gv.idx n (k:Int)=some k:=by unfold Gv.idx;rw[bk (by omega)];simp
 rw[this];exact h
def jG{α:Type}[Inhabited α]{n:Nat}(v:Vector α n){k:Nat}(x:α)(hk:k<n)(j:Nat):ck (eh v k x) j=if j=k then x else ck v j:=by
 unfold ck eh;by_cases h:j=k
 ·subst h;simp[hk]
 rw[bf h,Vector.getElem?_setIfInBounds_ne (by omega)]
def X3{α:Type}[Inhabited α]{n:Nat}{v w:Vector α n}(h:∀j,j<n->ck v j=ck w j):v=w:=by
 apply Vector.ext;intro i au;have:=h i au;simpa[ck,au]using this
def LN{α:Type}[Inhabited α]{n:Nat}(j:Nat):ck (default:Vector α n) j=default:=by
 show ck (Vector.replicate n default) j=default;unfold ck;by_cases h:j<n <;> simp[h]
def pr{n k:Nat}(h:k<n):idx n (k:Int)=some k:=by
 unfold idx;rw[bk (by omega)];simp
def Ak{n:Nat}{i:Int}(h:0<=i)(c8:i<n):idx n i=some i.toNat:=by
 unfold idx;rw[bk ⟨h,c8⟩]
def dS{k:Nat}(h:k<2^62):bu ((k:Int)+1)=((k+1:Nat):Int):=by
 rw[hX (by omega) (by omega)];simp
def uN{k:Nat}(h:k<2^64):(BitVec.ofInt 64 (k:Int)).toNat=k:=by
 simp;omega
def YJ(x:BitVec 64):((x&&&1#64)==1#64)=x.getLsbD 0:=by
 rw[BitVec.and_one_eq_setWidth_ofBool_getLsbD];cases x.getLsbD 0 <;> rfl
def ai3(x:BitVec 64)(n:Nat):(((x >>> n)&&&1#64)==1#64)=x.getLsbD n:=by
 rw[YJ];simp
def td{α β:Type}[Inhabited α][Inhabited β](f:α->β){l:aa α}{k:Nat}(hk:k<l.length):av (l.map f) k=f (av l k):=by
 rw[dp l hk,dp _ (by simpa using hk),CY]
def xB{α:Type}[Inhabited α](l:aa α){k:Nat}(hk:k<l.length):l.take (k+1)=l.take k++[av l k]:=by
 rw[Pp,pa hk,dp l hk];rfl
def HU{α:Type}[Inhabited α]{xs:aa α}{p:α->Bool}{k:Nat}(hk:k<xs.length)(hp:p (av xs k)=true)(aC:∀j,j<k->p (av xs j)=false):xs.find? p=some (av xs k):=by
 rw[UO];refine⟨hp,k,hk,(dp xs hk).symm,λj kT=>?_⟩;have:=aC j kT;rw[dp xs (by omega)]at this;simp[this]
def YK{α:Type}{xs:aa α}{p:α->Bool}(h:∀x∈xs,p x=false):xs.find? p=none:=
 zm.2 λx an=>by simp[h x an]
def aie{α ε β:Type}[Inhabited α](xs:aa α)(p:α->Bool){body:Int->aA (Int⊕ε)}{f:ε->aA β}{P:β->Prop}(ao:xs.length<2^62)
 (TC:∀k:Nat,k<xs.length->p (av xs k)=false->body k=some (.inl (bu ((k:Int)+1))))
 (alD:∀k:Nat,k<xs.length->xs.find? p=some (av xs k)->p (av xs k)=true->∃e,body k=some (.inr e)∧bd (f e) P)
 (nb:xs.find? p=none->∃e,body (xs.length:Int)=some (.inr e)∧bd (f e) P):bd ((dy dt body 0).bind f) P:=by
 refine bd.loop xs.length (λk s=>s=(k:Int)∧∀j,j<k->p (av xs j)=false) (by omega) ⟨rfl,λj aC=>by omega⟩ (λk s hk au=>?_) (λs au=>?_)
 ·obtain⟨rfl,aK⟩:=au
  by_cases hp:p (av xs k)=true
  ·obtain⟨e,h1,ae⟩:=alD k hk (HU hk hp aK) hp
   rw[h1];exact .ret ae
  simp only[lX]at hp
  rw[TC k hk hp]
  refine .ret ⟨dS (by omega),λj aC=>?_⟩
  by_cases kT:j=k
  ·subst kT;exact hp
  exact aK j (by omega)
 obtain⟨rfl,aK⟩:=au
 refine nb (YK λx an=>?_)
 obtain⟨j,aC,rfl⟩:=rn.1 an
 rw[<-dp xs aC];exact aK j aC
def cM{α:Type}(m:ah α)(P:α->Prop):Prop:=∀Q:α->Prop,(∀r,P r->Q r)->m Q
def cM.run{α:Type}{m:ah α}{P:α->Prop}(h:cM m P):m P:=h P λ_ h=>h
def cM.ret{α:Type}{P:α->Prop}{x:α}(h:P x):cM (ah.ret x) P:=λQ k=>k x h
def cM.bind{α β:Type}{m:ah α}{f:α->ah β}{P:α->Prop}{uq:β->Prop}(h:cM m P)(k:∀r,P r->cM (f r) uq):cM (ah.bind m f) uq:=λQ hq=>h _ λr aE=>k r aE Q hq
def cM.of{α:Type}{o:aA α}{P:α->Prop}(h:bd o P):cM (ah.of o) P:=λQ hq=>let⟨r,h1,ae⟩:=h; ⟨r,h1,hq r ae⟩
def cM.kk{α β:Type}{o:aA α}{f:α->ah β}{P:α->Prop}{uq:β->Prop}(h:bd o P)(k:∀r,P r->cM (f r) uq):cM (ah.bind (ah.of o) f) uq:=.bind (.of h) k
def cM.eq{α β:Type}{o:aA α}{a:α}{f:α->ah β}{uq:β->Prop}(h:o=some a)(k:cM (f a) uq):cM (ah.bind (ah.of o) f) uq:=λQ hq=>⟨a,h,k Q hq⟩
def cM.mono{α:Type}{m:ah α}{P uq:α->Prop}(h:cM m P)(k:∀r,P r->uq r):cM m uq:=λQ hq=>h Q λr aE=>hq r (k r aE)
def cM.cond{α:Type}{b:Bool}{m n:ah α}{P:α->Prop}(h1:b=true->cM m P)(ae:b=false->cM n P):cM (cond b m n) P:=by
 cases b
 ·exact ae I
 exact h1 I
def cM.b4{α β:Type}[Inhabited α]{b w:Bool}{m:aA α}{f:α->ah β}{P:α->Prop}{Q:β->Prop}(h:b=w->bd m P)(k:∀a,(b=w->P a)->cM (f a) Q):cM (ah.bind (ah.of (b4 b w m)) f) Q:=by
 unfold Gv.b4;by_cases hb:b=w
 ·rw[bk hb];exact .kk (h hb) λa aY=>k a λ_=>aY
 rw[bf hb];exact .eq I (k default λh=>absurd h hb)
def cM.idx{β:Type}{n:Nat}{i:Int}{k:Nat}{f:Nat->ah β}{Q:β->Prop}(au:i=k)(hk:k<n)(h:cM (f k) Q):cM (ah.bind (ah.of (Gv.idx n i)) f) Q:=by
 subst au;exact .eq (pr hk) h
def cM.mk{bM β:Type}{hp:aL bM}{c:bM}{f:Nat×aL bM->ah β}{P:β->Prop}(k:∀p,p∉da hp->cM (f (p,(p,c)::hp)) P):cM (ah.bind (ah.mk hp c) f) P:=λQ hq=>λa aY=>by
 obtain⟨p,hp'⟩:=a;obtain⟨h1,ae⟩:=aY;simp only at h1 ae;subst ae;exact k p h1 Q hq
def cM.any{α β:Type}{f:α->ah β}{P:β->Prop}(k:∀x,cM (f x) P):cM (ah.bind (ah.any α) f) P:=λQ hq x=>k x Q hq
def cM.loop{σ ε:Type}{body:σ->ah (σ⊕ε)}{P:ε->Prop}{s0:σ}(m:Nat)(fC:Nat->σ->Prop)(hm:m<2^80)(bJ:fC 0 s0)
 (hs:∀k s,k<m->fC k s->cM (body s) (λx=>match x with | .inl cH=>fC (k+1) cH| .inr e=>P e))
 (he:∀s,fC m s->cM (body s) (λx=>match x with | .inl _=>False| .inr e=>P e)):cM (n4 dt body s0) P:=by
 have key:∀n k s,k<=m->m-k<n->fC k s->cM (n4 n body s) P:=by
  intro n;induction n with
  |zero=>intro k s _ h;omega
  | succ n b6=>
    intro k s hk aM au Q hq
    by_cases JQ:k=m
    ·subst JQ
     exact he s au _ λr aE=>by
      cases r with
      |inl cH=>exact aE.elim
      |inr e=>exact hq e aE
    exact hs k s (by omega) au _ λr aE=>by
     cases r with
     |inl cH=>exact b6 (k+1) cH (by omega) (by omega) aE Q hq
     |inr e=>exact hq e aE
 exact key dt 0 s0 (by omega) (by unfold dt;omega) bJ
def kV{bM:Type}{hp:aL bM}{p q:Nat}{k:bM}:pat ((p,k)::hp) q=if p=q then some k else pat hp q:=rfl
def ai4{bM:Type}{hp:aL bM}{p:Nat}(h:p∉da hp):pat hp p=none:=by
 cases e:pat hp p with
 |none=>rfl
 |some k=>exact absurd (js e) h
def sr{bM:Type}{hp:aL bM}{p:Nat}{k k':bM}(h:pat hp p=some k'):pat (cF hp p k) p=some k:=by rw[HS,bk I,h];rfl
def mP{bM:Type}{hp:aL bM}{p q:Nat}{k:bM}(h:p≠q):pat (cF hp p k) q=pat hp q:=by rw[HS,bf h]
def vY{α β:Type}[DecidableEq α]{l:aa (α×β)}{x y:α}{v:β}:dO (gb l x v) y=if y=x then some v else dO l y:=by
 induction l with
 | nil=>
   show(if y=x then some v else dO [] y)=_
   rfl
 | cons a r b6=>
   obtain⟨k,w⟩:=a
   simp only[gb]
   by_cases h:x=k
   ·rw[bk h]
    simp only[dO]
    by_cases ae:y=x
    ·simp[ae]
    simp[ae,show ¬y=k from λe=>ae (by rw[e,h])]
   rw[bf h]
   simp only[dO]
   by_cases ae:y=k
   ·subst ae;simp[show ¬y=x from λe=>h e.symm]
   rw[bf ae,b6,bf ae]
end Gv
namespace Go.Proofs.YtlkieppifclacaaGreat
open Go Gv
def fE(b:Bool):Nat:=bif b then 1 else 0
def dc(hp:aL Cell):Ref->aa Bool->Ref
 |none,_=>none
 |some p,[]=>some p
 | some p,b::bb=>match cX hp p with
   |none=>none
   |some c=>dc hp (ck c.dL (fE b)) bb
def hn{hp:aL Cell}{bb:aa Bool}:dc hp none bb=none:=by cases bb <;> rfl
def qO{hp:aL Cell}{r:Ref}:dc hp r []=r:=by cases r <;> rfl
def iP{hp:aL Cell}{p:Nat}{c:eT}{b:Bool}{bb:aa Bool}(h:cX hp p=some c):dc hp (some p) (b::bb)=dc hp (ck c.dL (fE b)) bb:=by
 show(match cX hp p with |none=>none|some c=>dc hp (ck c.dL (fE b)) bb)=_;rw[h]
def ps{hp:aL Cell}:∀{r:Ref} {bb cs:aa Bool},dc hp r (bb++cs)=dc hp (dc hp r bb) cs
 |none,bb,cs=>by rw[hn,hn,hn]
 |some p,[],cs=>by rw[List.nil_append,qO]
 | some p,b::bb,cs=>by
   cases e:cX hp p with
   | none=>
     have h1:∀xs,dc hp (some p) (b::xs)=none:=λxs=>by
      show(match cX hp p with |none=>none|some c=>dc hp (ck c.dL (fE b)) xs)=_;rw[e]
     rw[List.cons_append,h1,h1,hn]
   |some c=>rw[List.cons_append,iP e,iP e,ps]
def Xo{hp hp':aL Cell}:∀{r:Ref} {bb:aa Bool},(∀p cs,dc hp r cs=some p->cX hp' p=cX hp p)->dc hp' r bb=dc hp r bb
 |none,bb,_=>by rw[hn,hn]
 |some p,[],_=>rfl
 | some p,b::bb,h=>by
   have bJ:=h p [] I;show(match cX hp' p with |none=>none|some c=>dc hp' (ck c.dL (fE b)) bb)=(match cX hp p with |none=>none|some c=>dc hp (ck c.dL (fE b)) bb);rw[bJ];cases e:cX hp p with
   |none=>rfl
   | some c=>
     refine Xo λq cs hq=>h q (b::cs) ?_
     rw[iP e];exact hq
structure rH(hp:aL Cell)(root:Ref):Prop where
 reads:∀bb p,dc hp root bb=some p->∃c,cX hp p=some c
 inj:∀bb cs p,dc hp root bb=some p->dc hp root cs=some p->bb=cs
 dep:∀bb p,dc hp root bb=some p->bb.length<=32
def cont(hp:aL Cell)(root:Ref)(bb:aa Bool):aA Int:=match dc hp root bb with
 |none=>none
 | some p=>match cX hp p with
   |none=>none
   |some c=>bif c.gr then some c.kH else none
def l1{hp:aL Cell}{root:Ref}{bb:aa Bool}{p:Nat}{c:eT}(h:dc hp root bb=some p)(ak:cX hp p=some c):cont hp root bb=bif c.gr then some c.kH else none:=by
 unfold cont;rw[h];simp only[ak]
def mT{hp:aL Cell}{root:Ref}{bb:aa Bool}(h:dc hp root bb=none):cont hp root bb=none:=by
 unfold cont;rw[h]
def sj{hp:aL Cell}{p:Nat}{c:eT}:cX hp p=some c↔pat hp p=some (.gW c):=by
 refine⟨rF,λh=>?_⟩;unfold cX;rw[h]
def vZ{hp:aL Cell}{p:Nat}{c:hj}:ga hp p=some c↔pat hp p=some (.lb c):=by
 refine⟨xV,λh=>?_⟩;unfold ga;rw[h]
def zX{hp hp':aL Cell}{p:Nat}(h:pat hp' p=pat hp p):cX hp' p=cX hp p:=by unfold cX;rw[h]
def LS{hp hp':aL Cell}{p:Nat}(h:pat hp' p=pat hp p):ga hp' p=ga hp p:=by unfold ga;rw[h]
structure er(hp hp':aL Cell)(own:Nat->Prop):Prop where
 keys:∀q,q∈da hp->q∈da hp'
 rest:∀q,q∈da hp->¬own q->pat hp' q=pat hp q
def er.refl{hp:aL Cell}{own:Nat->Prop}:er hp hp own:=⟨λ_ h=>h,λ_ _ _=>rfl⟩
def er.mk'{hp:aL Cell}{own:Nat->Prop}{a:Nat}{k:Cell}(aY:a∉da hp):er hp ((a,k)::hp) own:=
 ⟨λq h=>fM _ h,λq h _=>by rw[kV,bf (λe:a=q=>aY (by rw[e];exact h))]⟩
def er.up{hp:aL Cell}{own:Nat->Prop}{p:Nat}{k:Cell}(hp':own p):er hp (cF hp p k) own:=
 ⟨λq h=>by rw[qN];exact h,λq h hq=>mP (λe:p=q=>hq (by rw[<-e];exact hp'))⟩
def er.trans{h1 ae az:aL Cell}{own own':Nat->Prop}(a:er h1 ae own)(b:er ae az own')(a8:∀q,q∈da h1->own' q->own q):er h1 az own:=
 ⟨λq h=>b.keys q (a.keys q h),λq h hq=>by rw[b.rest q (a.keys q h) λc8=>hq (a8 q h c8),a.rest q h hq]⟩
def aif(b:Bool):ck (default:eT).dL (fE b)=none:=by cases b <;> rfl
def Xp{hp:aL Cell}{a:Nat}(h:cX hp a=some (default:eT)):∀bb,dc hp (some a) bb=if bb=[]then some a else none
 |[]=>rfl
 |b::bb=>by rw[iP h,aif,hn];rfl
def QQ{hp hp':aL Cell}{root:Ref}{ws:aa Bool}{b:Bool}{p a:Nat}{c:eT}(bE:rH hp root)(hw:dc hp root ws=some p)(ak:cX hp p=some c)(aM:ck c.dL (fE b)=none)(aY:cX hp a=none)
 (bT:cX hp' p=some {c with dL:=eh c.dL (fE b) (some a)}) (cQ:cX hp' a=some default) (hz:∀q,q≠p->q≠a->cX hp' q=cX hp q):
 ∀(bb us:aa Bool) (q:Nat),dc hp root us=some q->dc hp' (some q) bb=if us++bb=ws++[b]then some a else dc hp (some q) bb
 | [],us,q,hu=>by
   have: ¬us++[]=ws++[b]:=λe=>by
    rw[mM]at e;rw[e,ps,hw,iP ak,aM,hn]at hu;cases hu
   rw[bf this];rfl
 | x::xs,us,q,hu=>by
   obtain⟨xi,qv⟩:=bE.reads us q hu;have rY:q≠a:=λe=>by rw[e,aY]at qv;cases qv
   by_cases J3:q=p
   ·subst J3;have TX:=bE.inj us ws q hu hw;subst TX;rw[ak]at qv;cases qv;rw[iP bT,iP ak];simp only;have ch:fE b<2:=by cases b <;> decide
    rw[jG _ _ ch];by_cases Cm:x=b
    ·subst Cm;rw[bk I,aM,hn,Xp cQ];by_cases h:xs=[]
     ·subst h;rw[bk I,bk I]
     rw[bf h,bf λe=>h ?_];have:=KI e;simpa using this
    have dm: ¬fE x=fE b:=λe=>Cm (by cases x <;> cases b <;> first|rfl|cases e);have fb: ¬us++x::xs=us++[b]:=λe=>Cm (by have:=KI e;simpa using (List.cons.inj this).1);rw[bf dm,bf fb];cases e:ck c.dL (fE x)with
    |none=>rw[hn,hn]
    | some oz=>
      have o1:dc hp root (us++[x])=some oz:=by rw[ps,hu,iP ak,e,qO]
      rw[QQ bE hw ak aM aY bT cQ hz xs (us++[x]) oz o1,jE,List.singleton_append,bf fb]
   have h1:cX hp' q=some xi:=by rw[hz q J3 rY];exact qv
   rw[iP h1,iP qv];cases e:ck xi.dL (fE x)with
   | none=>
     have fb: ¬us++x::xs=ws++[b]:=λaK=>by
      have asW:dc hp root (us++[x])=none:=by rw[ps,hu,iP qv,e,hn]
      rcases List.eq_nil_or_concat xs with rfl|⟨ys,y,rfl⟩
      ·have:=(O0 aK I);subst this;rw[hu]at hw;cases hw;exact J3 I
      have az:us++x::ys=ws:=by
       have:(us++x::ys)++[y]=ws++[b]:=by simpa using aK
       exact O0 this I
      rw[<-az,show us++x::ys=(us++[x])++ys by simp,ps,asW,hn]at hw;cases hw
     rw[hn,hn,bf fb]
   | some oz=>
     have o1:dc hp root (us++[x])=some oz:=by rw[ps,hu,iP qv,e,qO]
     rw[QQ bE hw ak aM aY bT cQ hz xs (us++[x]) oz o1,jE,List.singleton_append]
def grow{hp hp':aL Cell}{r:Nat}{ws:aa Bool}(hd:ws.length<32){b:Bool}{p a:Nat}{c:eT}(bE:rH hp (some r))(hw:dc hp (some r) ws=some p)(ak:cX hp p=some c)(aM:ck c.dL (fE b)=none)(aY:cX hp a=none)
 (bT:cX hp' p=some {c with dL:=eh c.dL (fE b) (some a)}) (cQ:cX hp' a=some default) (hz:∀q,q≠p->q≠a->cX hp' q=cX hp q):
 rH hp' (some r)∧(∀bb,dc hp' (some r) bb=if bb=ws++[b]then some a else dc hp (some r) bb)∧∀bb,cont hp' (some r) bb=cont hp (some r) bb:=by
 have aW:∀bb,dc hp' (some r) bb=if bb=ws++[b]then some a else dc hp (some r) bb:=λbb=>QQ bE hw ak aM aY bT cQ hz bb [] r I
 have Om:∀bb,dc hp (some r) bb≠some a:=λbb h=>by
  obtain⟨c,h1⟩:=bE.reads bb a h;rw[aY]at h1;cases h1
 have TY:dc hp (some r) (ws++[b])=none:=by rw[ps,hw,iP ak,aM,hn]
 refine⟨⟨λbb q h=>?_,λbb cs q h1 ae=>?_,λbb q h=>?_⟩,aW,λbb=>?_⟩
 ·rw[aW]at h
  split at h
  ·cases h;exact⟨_,cQ⟩
  obtain⟨jP,h1⟩:=bE.reads bb q h
  by_cases e:q=p
  ·subst e;exact⟨_,bT⟩
  exact⟨jP,by rw[hz q e λaK=>Om bb (aK▸h)];exact h1⟩
 ·rw[aW]at h1 ae
  split at h1 <;> split at ae
  ·rename_i ar aK;rw[ar,aK]
  ·cases h1;exact absurd ae (Om cs)
  ·cases ae;exact absurd h1 (Om bb)
  exact bE.inj bb cs q h1 ae
 ·rw[aW]at h
  split at h
  ·rename_i e;rw[e];simp;omega
  exact bE.dep bb q h
 by_cases e:bb=ws++[b]
 ·subst e
  rw[mT TY,l1 (by rw[aW,bk I]) cQ];rfl
 have Cn:dc hp' (some r) bb=dc hp (some r) bb:=by rw[aW,bf e]
 cases h:dc hp (some r) bb with
 |none=>rw[mT h,mT (Cn.trans h)]
 | some q=>
   obtain⟨jP,h1⟩:=bE.reads bb q h
   by_cases eq:q=p
   ·subst eq
    rw[ak]at h1;cases h1
    rw[l1 h ak,l1 (Cn.trans h) bT]
   rw[l1 h h1,l1 (Cn.trans h) (by rw[hz q eq λaK=>Om bb (aK▸h)];exact h1)]
def HP{hp hp':aL Cell}{p:Nat}{c jP:eT}(ak:cX hp p=some c)(qw:cX hp' p=some jP)(he:jP.dL=c.dL)(h:∀q,q≠p->cX hp' q=cX hp q):∀(bb:aa Bool) (r:Ref),dc hp' r bb=dc hp r bb
 |bb,none=>by rw[hn,hn]
 |[],some q=>rfl
 | b::bb,some q=>by
   by_cases e:q=p
   ·subst e;rw[iP ak,iP qw,he];exact HP ak qw he h bb _
   cases aK:cX hp q with
   | none=>
     show(match cX hp' q with |none=>none|some c=>dc hp' (ck c.dL (fE b)) bb)=(match cX hp q with |none=>none|some c=>dc hp (ck c.dL (fE b)) bb)
     rw[h q e,aK]
   |some d=>rw[iP aK,iP (by rw[h q e];exact aK)];exact HP ak qw he h bb _
def ab4{hp hp':aL Cell}{root:Ref}{ws:aa Bool}{p:Nat}{c jP:eT}(bE:rH hp root)(hw:dc hp root ws=some p)(ak:cX hp p=some c)(qw:cX hp' p=some jP)(he:jP.dL=c.dL)(h:∀q,q≠p->cX hp' q=cX hp q):
 rH hp' root∧∀bb,cont hp' root bb=if bb=ws then(bif jP.gr then some jP.kH else none)else cont hp root bb:=by
 have aW:=HP ak qw he h
 refine⟨⟨λbb q hq=>?_,λbb cs q h1 ae=>bE.inj bb cs q (by rw[<-aW];exact h1) (by rw[<-aW];exact ae),λbb q hq=>bE.dep bb q (by rw[<-aW];exact hq)⟩,λbb=>?_⟩
 ·rw[aW]at hq
  obtain⟨d,h1⟩:=bE.reads bb q hq
  by_cases e:q=p
  ·subst e;exact⟨_,qw⟩
  exact⟨d,by rw[h q e];exact h1⟩
 by_cases e:bb=ws
 ·subst e;rw[bk I,l1 (by rw[aW];exact hw) qw]
 rw[bf e]
 cases h1:dc hp root bb with
 |none=>rw[mT h1,mT (by rw[aW];exact h1)]
 | some q=>
   obtain⟨d,ae⟩:=bE.reads bb q h1
   have J3:q≠p:=λaK=>e (bE.inj bb ws p (aK▸h1) hw)
   rw[l1 h1 ae,l1 (by rw[aW];exact h1) (by rw[h q J3];exact ae)]
def fN{α:Type}{b:Nat}(xs ys:aa α)(h:xs.length+ys.length<=1000000)(hb:b<=100000):e8 b xs ys=some (xs++ys):=by
 unfold e8;rw[bk];unfold maxLen;refine⟨qH (Nat.mul_le_mul h hb) (by omega),by omega⟩
def iI(c:ea):Prop:=0<=c.wF∧c.dw.length<=1000
def DX(l:aa (BitVec 8))(n:Int)(bJ:0<=n)(h1:n<=1000):bd (uE l n) iI:=by
 unfold uE;refine .eq (a:=(l.drop 0).take ((min (l.length:Int) n).toNat-0)) ?_ (.ret ⟨P0 0,?_⟩)
 ·unfold so;rw[bk ⟨by omega,by omega,by omega⟩];rfl
 simp only[fT,ku];omega
def gU(c:ea)(n:Int)(ak:iI c)(aM:1<=n):bd (gk c n) (λr=>iI r.2∧0<=r.1∧r.1<n∧r.1<256):=by
 unfold gk Lu;obtain⟨l,a⟩:=c;obtain⟨bJ,h1⟩:=ak;simp only at bJ h1;obtain⟨k,rfl⟩:=qE bJ;refine .eq I (.cond (λ_=>.ret ⟨⟨bJ,h1⟩,by omega,by omega,by omega⟩) λh=>?_);simp only[Vh,Vx,fk,nr]at h;have ar:bu ((k:Int)+1)=((k+1:Nat):Int):=dS (by omega);simp only[ar];have aK:bu (((k+1:Nat):Int)-1)=(k:Int):=by rw[hX (by omega) (by omega)];omega
 rw[aK];refine .idx I (by omega) (.eq (by unfold vb;rw[bf (by omega)]) (.ret ⟨⟨by simp only;omega,h1⟩,?_,?_,?_⟩))
 ·exact Pz _ (by omega)
 ·exact FZ _ (by omega)
 simp only;have az:(av l k).toNat<256:=(av l k).isLt;obtain⟨m,rfl⟩:=qE (show 0<=n by omega);have aQ:(((av l k).toNat:Int)).tmod m=(((av l k).toNat % m:Nat):Int):=(Int.ofNat_tmod _ _).symm;have a7:=Nat.mod_le (av l k).toNat m;omega
def qM(c:ea)(ak:iI c):bd (nY c) (λr=>iI r.2):=by
 unfold nY;exact .bind (gU c 2 ak (by omega)) λy h=>.ret h.1
def WZ(c:ea)(ak:iI c):bd (Gp c) (λr=>iI r.2∧r.1.length=3):=by
 unfold Gp;refine .bind (gU c 4 ak (by omega)) λal h1=>?_;refine .eq (Ak h1.2.1 (by simpa using h1.2.2.1)) (.eq I (.eq I (.bind (qM _ h1.1) λaF ae=>?_)));refine .bind (P:=λm=>iI m.1) (.cond (λ_=>?_) (λ_=>.ret ae)) λm1 cc=>?_
 ·refine .bind (gU _ 2 ae (by omega)) λb8 bp=>.eq I (.bind (gU _ 4 bp.1 (by omega)) λde cO=>?_);exact .eq (Ak cO.2.1 (by simpa using cO.2.2.1)) (.eq I (.eq (fN _ _ (by simp) (by omega)) (.ret cO.1)))
 refine .bind (gU _ 4 cc (by omega)) λbm az=>.eq (Ak az.2.1 (by simpa using az.2.2.1)) (.eq I (.eq I ?_));refine .bind (gU _ 3 az.1 (by omega)) λbG aQ=>?_;refine .bind (P:=λm=>iI m.1) (.cond (λ_=>?_) (λ_=>.ret aQ.1)) λm2 dG=>.ret ⟨dG,rfl⟩;exact .bind (gU _ 3 aQ.1 (by omega)) λbR a7=>.eq I (.ret a7.1)
def qc(a:df):Int×aa Int:=(a.b1,a.iC.map (·.iQ))
def BV:aa (Int×aa Int):=[(1,[]),(2,[]),(3,[16]),(4,[4]),(5,[4,12]),(6,[])]
def ai5{α β:Type}[Inhabited α](f:α->β)(l:aa α)(k:Nat)(x:α)(h:f x=f (av l k)):(dr l k x).map f=l.map f:=by
 unfold dr;apply zt
 ·simp
 intro i h1 ae;simp only[kf,pe]at h1;simp only[CY,List.getElem_set];split
 ·rename_i e;subst e;rw[h,dp l h1]
 rfl
def L7{α β:Type}[Inhabited α](f:α->β){l:aa α}{k:Nat}{x:α}{r:aa β}(h:f x=f (av l k))(ao:l.map f=r):(dr l k x).map f=r:=(ai5 f l k x h).trans ao
def WG(c:ea)(ak:iI c):bd (zv c) (λr=>iI r.2∧r.1.map qc=BV):=by
 unfold zv;refine .eq I (.eq I (.eq I (.eq I (.eq I (.eq I (.eq I (.eq I (.eq I (.eq I (.eq I (.eq I (.eq I ?_))))))))))));refine .bind (gU _ 2 ak (by omega)) λal h1=>.eq I (.bind (gU _ 256 h1.1 (by omega)) λaF ae=>.eq I (.eq I (.eq I ?_)));refine .bind (qM _ ae.1) λbm az=>?_;refine .bind (P:=λm=>m.map qc=BV) (.cond (λ_=>?_) (λ_=>.ret I)) λm1 cc=>?_
 ·exact .idx (k:=2) I (by simp) (.eq I (.ret (L7 qc I I)))
 refine .bind (qM _ az) λbG aQ=>.bind (P:=λm=>m.map qc=BV) (.cond (λ_=>?_) (λ_=>.ret cc)) λm2 dG=>.ret ⟨aQ,dG⟩;have ao:m1.length=6:=by rw[<-kf (f:=qc),cc];rfl
 exact .idx (k:=4) I (by omega) (.eq I (.ret (L7 qc I cc)))
def sX:dz:= {cP:=ByteArray.mk #[97],ih:=4,c7:=1}
def CH:dz:= {cP:=ByteArray.mk #[100],ih:=7,c7:=2}
def UH:dz:= {cP:=ByteArray.mk #[109],ih:=3,c7:=1}
def Kr:dz:= {cP:=ByteArray.mk #[101],ih:=6,c7:=3}
def J4:dz:= {cP:=ByteArray.mk #[97],ih:=4,c7:=3}
def UI:dz:= {cP:=ByteArray.mk #[98],ih:=5,c7:=1}
def Ks:dz:= {cP:=ByteArray.mk #[102],ih:=8,c7:=4}
def UJ:dz:= {cP:=ByteArray.mk #[103],ih:=9,c7:=1}
def nE(t:bw):Int×aa Int×aa dz:=(t.b1,t.bK,t.bY)
def yd(b:Bool):aa dz:=if b then [CH,UH]else [CH]
def BG(b:Bool):aa dz:=if b then [Kr,J4,UI]else [Kr,J4]
def BH(b:Bool):aa dz:=if b then [Ks,UJ,CH]else [Ks]
def wK(dD eg hV:Bool):aa (Int×aa Int×aa dz):=
 [(1,[1,2,4],[sX]),(2,[1,2,3,4],yd dD),(3,[1,2,3,5,6],BG eg),(4,[1,3,5],BH hV)]
def W0(c:ea)(ak:iI c):bd (Gq c) (λr=>iI r.2∧(∀x∈r.1.map (·.ht),2<=x∧x<=16)∧∃dD eg hV,r.1.map nE=wK dD eg hV):=by
 unfold Gq;refine .eq I (.bind (gU _ 2 ak (by omega)) λal h1=>.bind (gU _ 5 h1.1 (by omega)) λaF ae=>.eq I (.eq I ?_));refine .bind (gU _ 6 ae.1 (by omega)) λbm az=>.bind (qM _ az.1) λbG aQ=>?_;refine .bind (P:=λm=>(m.1.b1=2∧m.1.bK=[1,2,3,4]∧m.1.ht=bu (3+bm.1))∧∃b,m.2=yd b) (.cond (λ_=>?_) (λ_=>.ret ⟨⟨rfl,rfl,rfl⟩,false,rfl⟩)) λm1 cc=>?_
 ·exact .eq I (.eq (fN _ _ (by simp) (by omega)) (.ret ⟨⟨rfl,rfl,rfl⟩,true,rfl⟩))
 refine .eq I (.eq I (.bind (gU _ 6 aQ (by omega)) λbR a7=>.bind (qM _ a7.1) λb8 bp=>?_));refine .bind (P:=λm=>(m.1.b1=3∧m.1.bK=[1,2,3,5,6]∧m.1.ht=bu (4+bR.1))∧∃b,m.2=BG b) (.cond (λ_=>?_) (λ_=>.ret ⟨⟨rfl,rfl,rfl⟩,false,rfl⟩)) λm2 dG=>?_
 ·exact .eq I (.eq (fN _ _ (by simp) (by omega)) (.ret ⟨⟨rfl,rfl,rfl⟩,true,rfl⟩))
 refine .eq I (.bind (gU _ 5 bp (by omega)) λde cO=>.bind (qM _ cO.1) λeu dJ=>?_);refine .bind (P:=λm=>(m.1.b1=4∧m.1.bK=[1,3,5]∧m.1.ht=bu (3+de.1))∧∃b,m.2=BH b) (.cond (λ_=>?_) (λ_=>.ret ⟨⟨rfl,rfl,rfl⟩,false,rfl⟩)) λm3 gB=>?_
 ·exact .eq I (.eq I (.eq (fN _ _ (by simp) (by omega)) (.ret ⟨⟨rfl,rfl,rfl⟩,true,rfl⟩)))
 refine .eq I (.eq I (.eq I (.eq I (.eq I ?_))));obtain⟨⟨bZ,a2,a4⟩,dD,a3⟩:=cc;obtain⟨⟨c1,c2,h5⟩,eg,ej⟩:=dG;obtain⟨⟨d1,d2,d4⟩,hV,d3⟩:=gB;refine bd.loop 4 (λk s=>s.1=(k:Int)∧s.2.1.map nE=wK dD eg hV∧iI s.2.2∧s.2.1.map (·.ht)=[bu (2+aF.1),bu (3+bm.1),bu (4+bR.1),bu (3+de.1)]) (by omega) ⟨rfl,?_,dJ,?_⟩ (λk s hk au=>?_) (λs au=>?_)
 ·simp only[oH,GS,nE,bZ,a2,a3,c1,c2,ej,d1,d2,d3,wK];rfl
 ·simp only[oH,GS,a4,h5,d4]
 ·obtain⟨i,cx,Fm⟩:=s;obtain⟨ar,aK,cr,e4⟩:=au;simp only at ar aK cr e4;subst ar;refine bd.cond (λ_=>?_) (λh=>by simp at h;omega);have ao:cx.length=4:=by rw[<-kf (f:=nE),aK];rfl
  refine .idx I (by simpa using hk) (.bind (gU _ 3 cr (by omega)) λfy e5=>.eq (Ak e5.2.1 ?_) (.idx I (by simp only;omega) (.eq I (.ret ⟨dS (by omega),?_,e5.1,?_⟩))))
  ·have mA:=e5.2.2.1;have:k=0∨k=1∨k=2∨k=3:=by omega
   rcases this with rfl|rfl|rfl|rfl <;> exact mA
  ·exact L7 nE I aK
  exact L7 bw.ht I e4
 obtain⟨i,cx,Fm⟩:=s;obtain⟨ar,aK,cr,e4⟩:=au;simp only at ar aK cr e4;subst ar;refine⟨_,rfl,?_⟩;refine .ret ⟨cr,λx an=>?_,dD,eg,hV,aK⟩;rw[e4]at an;have g2:=ae.2;have g3:=az.2;have g5:=a7.2;have g7:=cO.2;simp only[dW,rr,rz]at an;rcases an with rfl|rfl|rfl|rfl <;> (rw[hX (by omega) (by omega)];omega)
def YL(n:Nat)(h:n<=1000):wW (α:=Bool) 1 (n:Int)=some (List.replicate n default):=by
 unfold wW;rw[bk ⟨by omega,by omega,by omega⟩];simp
def aih(c:ea)(cx:aa bw)(ak:iI c)(ao:cx.length<=1000)(hk:∀t∈cx,t.bY.length<=1000):bd (s8 c cx) (λr=>iI r.2∧r.1.map (·.b1)=[1,2,7]):=by
 unfold s8;refine .bind (gU _ 3 ak (by omega)) λal h1=>.bind (gU _ 6 h1.1 (by omega)) λaF ae=>.bind (gU _ 6 ae.1 (by omega)) λbm az=>.bind (gU _ 4 az.1 (by omega)) λbG aQ=>?_;refine bd.loop cx.length (λk s=>s.1=(k:Int)∧iI s.2.2.2.1∧s.2.2.1.length<=k∧s.2.2.2.2.2.1.length<=k∧s.2.2.2.2.2.2.2.length<=k∧s.2.1.b1=7∧s.2.2.2.2.1.b1=2∧s.2.2.2.2.2.2.1.b1=1) (by omega) ⟨rfl,aQ.1,by simp,by simp,by simp,rfl,rfl,rfl⟩ (λk s sQ au=>?_) (λs au=>?_)
 ·obtain⟨i,ke,g1,Fm,fz,g2,mj,g3⟩:=s;obtain⟨ar,aK,cr,e4,hT,i1,i2,i3⟩:=au;simp only at ar aK cr e4 hT i1 i2 i3;subst ar;refine bd.cond (λ_=>?_) (λh=>by simp at h;omega);have ab5:(av cx k).bY.length<=1000:=hk _ (by rw[dp cx sQ];exact gI sQ);refine .idx I sQ (.eq (YL _ ab5) (.eq (YL _ ab5) ?_));refine bd.loop (av cx k).bY.length (λj s=>s.1=(j:Int)∧s.2.1.length=(av cx k).bY.length∧s.2.2.1.length=(av cx k).bY.length∧iI s.2.2.2) (by omega) ⟨rfl,by simp,by simp,aK⟩ (λj s aC au=>?_) (λs au=>?_)
  ·obtain⟨i,dD,eg,ac0⟩:=s;obtain⟨f1,f2,f3,f4⟩:=au;simp only at f1 f2 f3 f4;subst f1;refine bd.cond (λ_=>?_) (λh=>by simp at h;omega);exact .bind (gU _ 4 f4 (by omega)) λde cO=>.idx I (by simp only;omega) (.idx I (by simp only;omega) (.ret ⟨dS (by omega),by simp[dr,f2],by simp[dr,f3],cO.1⟩))
  obtain⟨i,dD,eg,ac0⟩:=s;obtain⟨f1,f2,f3,f4⟩:=au;simp only at f1 f2 f3 f4;subst f1;refine⟨_,by simp;rfl,?_⟩;refine .eq I (.eq (fN _ _ (by simp;omega) (by omega)) (.bind (gU _ 4 f4 (by omega)) λfy e5=>?_));refine .bind (P:=λm=>iI m.1∧m.2.2.length<=k+1∧m.2.1.b1=2) (.cond (λ_=>?_) (λ_=>.ret ⟨e5.1,by simp only;omega,i2⟩)) λm1 cc=>?_
  ·exact .bind (gU _ 4 e5.1 (by omega)) λjK E6=>.bind (qM _ E6.1) λj8 yU=>.eq I (.eq (fN _ _ (by simp;omega) (by omega)) (.ret ⟨yU,by simp;omega,i2⟩))
  refine .bind (qM _ cc.1) λgZ mA=>?_;refine .bind (P:=λm=>iI m.1∧m.2.2.length<=k+1∧m.2.1.b1=7) (.cond (λ_=>?_) (λ_=>.ret ⟨mA,by simp only;omega,i1⟩)) λm2 dG=>?_
  ·exact .bind (qM _ mA) λjf sR=>.bind (qM _ sR) λjW Co=>.eq I (.eq (fN _ _ (by simp;omega) (by omega)) (.ret ⟨Co,by simp;omega,i1⟩))
  exact .ret ⟨dS (by omega),dG.1,dG.2.1,cc.2.1,by simp;omega,dG.2.2,cc.2.2,i3⟩
 obtain⟨i,ke,g1,Fm,fz,g2,mj,g3⟩:=s;obtain⟨ar,aK,cr,e4,hT,i1,i2,i3⟩:=au;simp only at ar aK cr e4 hT i1 i2 i3;subst ar;refine⟨_,by simp;rfl,?_⟩;exact .eq I (.eq I (.ret ⟨aK,by simp only[oH,GS,i1,i2,i3]⟩))
def Tb:aa (Int×Int):=[(1,16),(2,16),(3,8),(4,4),(5,4),(6,8),(7,32),(8,12),(9,4)]
def Ep(f:iB):Int×Int:=(f.b1,f.iQ)
structure cA(s:aD):Prop where
 fields:s.gm.map Ep=Tb
 headers:s.pk.length=3
 MN:s.p0.length=3
 DY:s.bK.map qc=BV
 tables:∃dD eg hV,s.bh.map nE=wK dD eg hV
 ye:s.cG.map (·.b1)=[1,2,7]
 aoT:∀x∈s.bh.map (·.ht),2<=x∧x<=64
def cA.oe{s:aD}(h:cA s):s.cG.length=3:=by rw[<-kf (f:=(·.b1)),h.ye];rfl
def cA.wL{s:aD}(h:cA s):s.gm.length=9:=by rw[<-kf (f:=Ep),h.fields];rfl
def cA.lC{s:aD}(h:cA s):s.bh.length=4:=by obtain⟨dD,eg,hV,h1⟩:=h.tables;rw[<-kf (f:=nE),h1];rfl
def cA.EC{s:aD}(h:cA s):s.bK.length=6:=by rw[<-kf (f:=qc),h.DY];rfl
def Ql(c:ea)(ak:iI c):bd (pU c) (λr=>cA r.1∧iI r.2):=by
 unfold pU;refine .bind (gU _ 8 ak (by omega)) λal h1=>.bind (gU _ 30 h1.1 (by omega)) λaF ae=>?_;refine .eq I (.eq I (.eq I (.eq I (.eq I (.eq I (.eq I (.eq I (.eq I (.eq I (.eq I (.eq I ?_)))))))))));refine .bind (WZ _ ae.1) λbm az=>.bind (WG _ az.1) λbG aQ=>.bind (W0 _ aQ.1) λbR a7=>.eq I (.eq I ?_);obtain⟨asX,dR,dD,eg,hV,a7⟩:=a7;have ao:bR.1.length=4:=by rw[<-kf (f:=nE),a7];rfl
 have aoU:∀t∈bR.1,t.bY.length<=1000:=λt bE=>by
  have bp:nE t∈wK dD eg hV:=a7▸List.mem_map_of_mem bE;have cO:∀p∈wK dD eg hV,p.2.2.length<=1000:=by
   intro p hp;simp only[wK,dW,rr,rz]at hp;rcases hp with rfl|rfl|rfl|rfl
   ·simp
   ·cases dD <;> simp[yd]
   ·cases eg <;> simp[BG]
   cases hV <;> simp[BH]
  exact cO _ bp
 refine .bind (aih _ _ asX (by simp only;omega) aoU) λb8 bp=>.eq I (.bind (qM _ bp.1) λde cO=>?_);let Inv (s:aD):Prop:=s.gm.map Ep=Tb∧s.pk.length=3∧s.p0.length=3∧s.bK.map qc=BV∧s.bh=bR.1∧s.cG.map (·.b1)=[1,2,7];have hinv:∀(st:aa gK) (o5:aa cY) (s:aD),Inv s->Inv {s with rB:=st,cV:=o5}:=λst o5 s h=>h;refine .bind (P:=λ_=>True) (.cond (λ_=>.eq (fN _ _ (by simp) (by omega)) (.ret cZ)) (λ_=>.ret cZ)) λm1 _=>?_;refine .bind (qM _ cO) λeu dJ=>?_;refine .bind (P:=λm=>Inv m.1∧m.2.length<=10) (.cond (λ_=>.eq I (.eq (fN _ _ (by simp) (by omega)) (.ret ⟨⟨rfl,rfl,az.2,aQ.2,rfl,bp.2⟩,by simp⟩))) (λ_=>.ret ⟨⟨rfl,rfl,az.2,aQ.2,rfl,bp.2⟩,by simp⟩)) λm2 dG=>?_;refine .bind (qM _ dJ) λfy e5=>?_;refine .b4 (P:=λ_=>True) (λ_=>⟨2,pr (k:=2) (by rw[dG.1.2.2.2.2.1];omega),trivial⟩) λaR _=>?_;refine .bind (P:=λm=>Inv m.1∧m.2.length<=11) (.cond (λ_=>.eq I (.eq (fN _ _ (by have:=dG.2;simp;omega) (by omega)) (.ret ⟨dG.1,by have:=dG.2;simp;omega⟩))) (λ_=>.ret ⟨dG.1,by have:=dG.2;simp only;omega⟩)) λm3 gB=>?_;refine .bind (qM _ e5) λgZ mA=>?_;refine .b4 (P:=λ_=>True) (λ_=>⟨3,pr (k:=3) (by rw[gB.1.2.2.2.2.1];omega),trivial⟩) λbD _=>?_;refine .bind (P:=λm=>Inv m.1∧m.2.length<=13) (.cond (λ_=>.eq I (.eq I (.eq (fN _ _ (by have:=gB.2;simp;omega) (by omega)) (.ret ⟨gB.1,by have:=gB.2;simp;omega⟩)))) (λ_=>.ret ⟨gB.1,by have:=gB.2;simp only;omega⟩)) λm4 Jg=>?_;obtain⟨⟨i1,i2,i3,i4,i5,i6⟩,_⟩:=Jg;exact .eq I (.ret ⟨⟨i1,i2,i3,i4,⟨dD,eg,hV,by simp only[i5];exact a7⟩,i6,by simp only[i5];exact λx an=>⟨(dR x an).1,by have:=(dR x an).2;omega⟩⟩,mA⟩)
def akz(x:Int)(n:Int)(h1:1<=n)(ae:n<=1000000):bd (DG x n) (λr=>0<=r∧r<n):=by
 unfold DG;refine .cond (λh=>by simp at h;omega) λ_=>?_;have hm:∀y:Int,vb y n=some (y.tmod n):=λy=>by unfold vb;rw[bf (by omega)]
 refine .eq (hm _) ?_;have az:=FZ x (show 0<n by omega);have aQ: -n<x.tmod n:=by
  have:=FZ (-x) (show 0<n by omega);rw[Int.neg_tmod]at this;omega
 rw[hX (by omega) (by omega)];exact .eq (hm _) (.ret ⟨Pz _ (by omega),FZ _ (by omega)⟩)
def cT(v:aV)(i:Nat):Bool:=if i<64 then v.c5.getLsbD i else v.eC.getLsbD (i-64)
def RQ{v w:aV}(h:∀j,j<128->cT v j=cT w j):v=w:=by
 cases v with |mk atZ adx=>cases w with |mk at0 wl=>
 have h1:atZ=at0:=by
  apply CJ;intro i au;have:=h (i+64) (by omega);simpa[cT,show ¬(i+64<64) by omega]using this
 have ae:adx=wl:=by
  apply CJ;intro i au;have:=h i (by omega);simpa[cT,au]using this
 rw[h1,ae]
def Mr(j:Nat):cT default j=false:=by
 unfold cT;split <;> exact FU
def I5(x y:aV):aV:= {eC:=x.eC&&&y.eC,c5:=x.c5&&&y.c5}
def ac1(x y:aV):aV:= {eC:=x.eC|||y.eC,c5:=x.c5|||y.c5}
def Tc(x y:aV):aV:= {eC:=x.eC ^^^ y.eC,c5:=x.c5 ^^^ y.c5}
@[simp] theorem YM (x y:aV) (j:Nat):cT (I5 x y) j=(cT x j&&cT y j):=by unfold cT I5;split <;> simp
@[simp] theorem aud (x y:aV) (j:Nat):cT (ac1 x y) j=(cT x j||cT y j):=by unfold cT ac1;split <;> simp
@[simp] theorem akA (x y:aV) (j:Nat):cT (Tc x y) j=(cT x j ^^ cT y j):=by unfold cT Tc;split <;> simp
def and_eq(x y:aV):zT x y=some (I5 x y):=rfl
def xor_eq(x y:aV):Hy x y=some (Tc x y):=rfl
def YN(x:aV):bd (DE x) (λr=> ∀j,j<128->ck r j=cT x j):=by
 unfold DE;refine bd.loop 64 (λk s=>s.1=k∧∀j,j<128->ck s.2 j=(decide (j % 64<k)&&cT x j)) (by omega)
  ⟨rfl,λj aC=>by simp[LN]⟩ (λk s hk au=>?_) (λs au=>?_)
 ·obtain⟨i,v⟩:=s;obtain⟨h1,ae⟩:=au;simp only at h1 ae;subst h1;have ar:bu ((k:Int)+64)=((k+64:Nat):Int):=by rw[hX (by omega) (by omega)];simp
  refine bd.cond (λ_=>?_) (λh=>by simp at h;omega);refine bd.idx I (show k<128 by omega) (.eq I (.idx ar (show k+64<128 by omega) (.eq I (.ret ⟨dS (by omega),λj aC=>?_⟩))));simp only[jG _ _ (show k<128 by omega),jG _ _ (show k+64<128 by omega),uN (show k<2^64 by omega),ai3,ae j aC];by_cases yG:j=k+64
  ·subst yG;have h1:(k+64) % 64<k+1:=by omega
   have ae: ¬(k+64<64):=by omega
   simp only[cT,h1,ae,lY,n0,LB,vO,Nat.add_sub_cancel]
  by_cases nM:j=k
  ·subst nM;have:j % 64<j+1:=by omega
   simp[cT,this,hk]
  rw[bf yG,bf nM];congr 1;rw[zu];omega
 obtain⟨i,v⟩:=s;obtain⟨h1,ae⟩:=au;simp only at h1 ae;subst h1;refine⟨_,rfl,.ret λj aC=>?_⟩;have:j % 64<64:=by omega
 simp[ae j aC,this]
def X4(v:aV)(n:Nat)(aM:n<2^62):bd (DC v n) (λr=> ∀j,j<128->cT r j=cT v (j+n)):=by
 unfold DC;refine .cond (λh=>.ret λj aC=>?_) (λh=>.cond (λc8=>.eq I (.ret λj aC=>?_)) (λc8=>.eq I (.eq I (.ret λj aC=>?_))))
 ·have:n=0:=by simp at h;omega
  simp[this]
 ·simp only[fk]at c8;have ar:bu ((n:Int)-64)=((n-64:Nat):Int):=by rw[hX (by omega) (by omega)];omega
  rw[ar,uN (by omega)];unfold cT;by_cases aC:j<64
  ·rw[bk aC,bf (by omega)];simp only[OQ];congr 1;omega
  rw[bf aC,bf (by omega)];rw[show(default:aV).eC=0#64 from rfl,FU,zi _ _ (by omega)]
 simp only[nr]at h c8;have ar:bu (64-(n:Int))=((64-n:Nat):Int):=by rw[hX (by omega) (by omega)];omega
 rw[ar,uN (by omega),uN (by omega)];unfold cT;by_cases aC:j<64
 ·rw[bk aC];simp only[BitVec.getLsbD_or,OQ,BitVec.getLsbD_shiftLeft];by_cases az:j+n<64
  ·rw[bk az];have:j<64-n:=by omega
   simp[this,PV]
  rw[bf az,zi _ (n+j) (by omega)];have: ¬(j<64-n):=by omega
  simp only[aC,this,LB,vQ,vO,Bool.not_false,vN];congr 1;omega
 rw[bf aC,bf (by omega)];simp only[OQ];congr 1;omega
def alE(v:aV)(i:Int):bd (zV v i) (λr=>r=(decide (0<=i∧i<128)&&cT v i.toNat)):=by
 unfold zV;refine .b4 (P:=λr=> ∀j,j<128->cT r j=cT v (j+i.toNat)) (λh=>?_) λy hy=>.eq I (.ret ?_)
 ·simp at h;obtain⟨n,rfl⟩:=qE h.1;exact X4 v n (by omega)
 by_cases h:0<=i∧i<128
 ·have h1:(decide (i>=0)&&decide (i<128))=true:=by simp;omega
  rw[h1,YJ];have:=hy h1 0 (by omega);rw[show cT y 0=y.c5.getLsbD 0 from rfl,jQ]at this;rw[this,pV h]
 have h1:(decide (i>=0)&&decide (i<128))=false:=by simp;omega
 simp[h1,h]
def YO(x y:aV):bd (zT x y) (λr=> ∀j,j<128->cT r j=(cT x j&&cT y j)):=⟨_,and_eq x y,λj _=>YM x y j⟩
def akB(x y:aV):bd (Hy x y) (λr=> ∀j,j<128->cT r j=(cT x j ^^ cT y j)):=⟨_,xor_eq x y,λj _=>akA x y j⟩
def Ms(n:Int):bd (xD n) (λr=> ∀j,j<128->cT r j=decide ((j:Int)<n)):=by
 unfold xD Dz;refine .eq I (.eq I ?_);have hm:bu (128-min (max 0 n) 128)=((128-min (max 0 n) 128).toNat:Int):=by rw[hX (by omega) (by omega)];omega
 rw[hm];refine(X4 _ _ (by omega)).bind λr aE=>.ret λj aC=>?_;rw[aE j aC];have qi:∀i,cT {eC:=18446744073709551615#64,c5:=18446744073709551615#64} i=decide (i<128):=by
  intro i;have a8:(18446744073709551615#64)=BitVec.allOnes 64:=by rfl
  unfold cT;simp only[a8,BitVec.getLsbD_allOnes];by_cases h:i<64
  ·simp[h];omega
  simp[h];omega
 rw[qi,zu];omega
def wM:aa Int:=[16,16,8,4,4,8,32,12,4]
def cA.Cp{s:aD}(h:cA s){k:Nat}(hk:k<9):(av s.gm k).b1=(k:Int)+1∧(av s.gm k).iQ=av wM k:=by
 have h1:=td Ep (l:=s.gm) (k:=k) (by rw[h.wL];exact hk);rw[h.fields]at h1;have ae:av Tb k=((k:Int)+1,av wM k):=by
  have:k=0∨k=1∨k=2∨k=3∨k=4∨k=5∨k=6∨k=7∨k=8:=by omega
  rcases this with rfl|rfl|rfl|rfl|rfl|rfl|rfl|rfl|rfl <;> rfl
 rw[ae]at h1;simp only[Ep,zy]at h1;exact⟨h1.1.symm,h1.2.symm⟩
def wN:aa (aa Int):=[[],[],[16],[4],[4,12],[]]
def cA.act{s:aD}(h:cA s){k:Nat}(hk:k<6):(av s.bK k).b1=(k:Int)+1∧(av s.bK k).iC.map (·.iQ)=av wN k:=by
 have h1:=td qc (l:=s.bK) (k:=k) (by rw[h.EC];exact hk);rw[h.DY]at h1;have ae:av BV k=((k:Int)+1,av wN k):=by
  have:k=0∨k=1∨k=2∨k=3∨k=4∨k=5:=by omega
  rcases this with rfl|rfl|rfl|rfl|rfl|rfl <;> rfl
 rw[ae]at h1;simp only[qc,zy]at h1;exact⟨h1.1.symm,h1.2.symm⟩
def oR(key:dz):Prop:=∃j:Nat,j<9∧key.ih=(j:Int)+1∧1<=key.c7∧key.c7<=4∧4<=av wM j∧av wM j<=32∧(key.c7=2->j=6)
def rk(key:dz):Int:=av wM (key.ih-1).toNat
def cA.fK{s:aD}(h:cA s){k:Nat}(hk:k<4):(av s.bh k).b1=(k:Int)+1∧
 (1<=(av s.bh k).bY.length∧(av s.bh k).bY.length<=3)∧(∀key∈(av s.bh k).bY,oR key)∧
 (1<=(av s.bh k).bK.length∧(av s.bh k).bK.length<=5)∧(∀a∈(av s.bh k).bK,1<=a∧a<=6):=by
 obtain⟨dD,eg,hV,bE⟩:=h.tables
 have h1:=td nE (l:=s.bh) (k:=k) (by rw[h.lC];exact hk)
 rw[bE]at h1
 have ae:∀p:Int×aa Int×aa dz,p=nE (av s.bh k)->p.1=(k:Int)+1->(1<=p.2.2.length∧p.2.2.length<=3)->(∀key∈p.2.2,oR key)->
  (1<=p.2.1.length∧p.2.1.length<=5)->(∀a∈p.2.1,1<=a∧a<=6)->(av s.bh k).b1=(k:Int)+1∧
  (1<=(av s.bh k).bY.length∧(av s.bh k).bY.length<=3)∧(∀key∈(av s.bh k).bY,oR key)∧
  (1<=(av s.bh k).bK.length∧(av s.bh k).bK.length<=5)∧(∀a∈(av s.bh k).bK,1<=a∧a<=6):=by
  rintro p rfl a b c d e
  exact⟨a,b,c,d,e⟩
 have a0:(1<=([1,2,4]:aa Int).length∧([1,2,4]:aa Int).length<=5)∧∀a∈([1,2,4]:aa Int),1<=a∧a<=6:=by decide
 have bZ:(1<=([1,2,3,4]:aa Int).length∧([1,2,3,4]:aa Int).length<=5)∧∀a∈([1,2,3,4]:aa Int),1<=a∧a<=6:=by decide
 have a2:(1<=([1,2,3,5,6]:aa Int).length∧([1,2,3,5,6]:aa Int).length<=5)∧∀a∈([1,2,3,5,6]:aa Int),1<=a∧a<=6:=by decide
 have a3:(1<=([1,3,5]:aa Int).length∧([1,3,5]:aa Int).length<=5)∧∀a∈([1,3,5]:aa Int),1<=a∧a<=6:=by decide
 have aoV:oR sX:=⟨3,by decide,rfl,by decide,by decide,by decide,by decide,by decide⟩
 have Zp:oR J4:=⟨3,by decide,rfl,by decide,by decide,by decide,by decide,by decide⟩
 have aoW:oR UI:=⟨4,by decide,rfl,by decide,by decide,by decide,by decide,by decide⟩
 have SC:oR CH:=⟨6,by decide,rfl,by decide,by decide,by decide,by decide,by decide⟩
 have aoX:oR UH:=⟨2,by decide,rfl,by decide,by decide,by decide,by decide,by decide⟩
 have aaU:oR Kr:=⟨5,by decide,rfl,by decide,by decide,by decide,by decide,by decide⟩
 have aaV:oR Ks:=⟨7,by decide,rfl,by decide,by decide,by decide,by decide,by decide⟩
 have aoY:oR UJ:=⟨8,by decide,rfl,by decide,by decide,by decide,by decide,by decide⟩
 have:k=0∨k=1∨k=2∨k=3:=by omega
 rcases this with rfl|rfl|rfl|rfl
 ·refine ae _ h1 I (show 1<= [sX].length∧[sX].length<=3 by decide) ?_ a0.1 a0.2
  intro key kJ
  rcases hi.1 kJ with rfl
  exact aoV
 ·refine ae _ h1 I ?_ ?_ bZ.1 bZ.2
  ·show 1<=(yd dD).length∧(yd dD).length<=3
   cases dD <;> decide
  intro key kJ
  replace kJ:key∈yd dD:=kJ
  cases dD <;> simp only[yd,dW,rr,rz,lY,n0,sb]at kJ
  ·subst kJ;exact SC
  rcases kJ with rfl|rfl;exact SC;exact aoX
 ·refine ae _ h1 I ?_ ?_ a2.1 a2.2
  ·show 1<=(BG eg).length∧(BG eg).length<=3
   cases eg <;> decide
  intro key kJ
  replace kJ:key∈BG eg:=kJ
  cases eg <;> simp only[BG,dW,rr,rz,lY,n0,sb]at kJ
  ·rcases kJ with rfl|rfl;exact aaU;exact Zp
  rcases kJ with rfl|rfl|rfl;exact aaU;exact Zp;exact aoW
 refine ae _ h1 I ?_ ?_ a3.1 a3.2
 ·show 1<=(BH hV).length∧(BH hV).length<=3
  cases hV <;> decide
 intro key kJ
 replace kJ:key∈BH hV:=kJ
 cases hV <;> simp only[BH,dW,rr,rz,lY,n0,sb]at kJ
 ·subst kJ;exact aaV
 rcases kJ with rfl|rfl|rfl;exact aaV;exact aoY;exact SC
def aht{s:aD}(h:cA s){j:Nat}(aC:j<9):bd (Hd s ((j:Int)+1)) (λr=>r=av wM j):=by
 unfold Hd;have ao:=h.wL;refine bd.loop j (λk s=>s=(k:Int)) (by omega) I (λk i hk au=>?_) (λi au=>?_)
 ·subst au;refine bd.cond (λ_=>?_) (λh=>by simp at h;omega);refine .idx I (by omega) (.cond (λak=>?_) (λak=>.ret (dS (by omega))));have:=(h.Cp (show k<9 by omega)).1;simp only[this,nv]at ak;omega
 subst au;have h1:decide ((j:Int)<(s.gm.length:Int))=true:=by simp;omega
 have ae:((av s.gm j).b1==(j:Int)+1)=true:=by rw[(h.Cp aC).1];simp
 rw[h1];simp only[cond_true];rw[pr (by omega)];simp only[Option.bind_some,ae,cond_true];exact⟨_,rfl,.ret (h.Cp aC).2⟩
def WH{s:aD}(h:cA s){j:Nat}(aC:j<6):bd (Dp s ((j:Int)+1)) (λr=>r=av s.bK j):=by
 unfold Dp;have ao:=h.EC;refine bd.loop j (λk s=>s=(k:Int)) (by omega) I (λk i hk au=>?_) (λi au=>?_)
 ·subst au;refine bd.cond (λ_=>?_) (λh=>by simp at h;omega);refine .idx I (by omega) (.cond (λak=>?_) (λak=>.ret (dS (by omega))));have:=(h.act (show k<6 by omega)).1;simp only[this,nv]at ak;omega
 subst au;have h1:decide ((j:Int)<(s.bK.length:Int))=true:=by simp;omega
 have ae:((av s.bK j).b1==(j:Int)+1)=true:=by rw[(h.act aC).1];simp
 rw[h1];simp only[cond_true];rw[pr (by omega)];simp only[Option.bind_some,ae,cond_true];exact⟨_,rfl,.ret I⟩
def HQ{n:Nat}(aM:n<64)(j:Nat):(((1#64) <<< n)-1#64).getLsbD j=decide (j<n):=by
 have h1:(((1#64) <<< n)-1#64).toNat=2^n-1:=by
  have ae:((1#64) <<< n).toNat=2^n:=by
   rw[U4,Pj,Nat.shiftLeft_eq];have:=Vl (show 1<2 by omega) aM;rw[show(1 % 2^64:Nat)=1 from rfl,Lz];exact Gd this
  have az:1<=2^n:=Nat.one_le_two_pow;have aQ:=Vl (show 1<2 by omega) aM;rw[BitVec.toNat_sub,ae];simp only[Pj];omega
 rw[<-BitVec.testBit_toNat,h1,Nat.testBit_two_pow_sub_one]
def RR(x:aV)(n:Int)(bJ:0<=n)(h1:n<1000):bd (zU x n) (λr=> ∀j,j<128->cT r j=(cT x j&&decide ((j:Int)<n))):=by
 unfold zU;obtain⟨m,rfl⟩:=qE bJ;refine .cond (λh=>.ret λj aC=>?_) λh=>.cond (λc8=>.eq I (.ret λj aC=>?_)) λc8=>.cond (λTZ=>.ret λj aC=>?_) λTZ=>.eq I (.eq I (.ret λj aC=>?_))
 ·simp only[fk]at h;have:decide ((j:Int)<(m:Int))=true:=by simp;omega
  rw[this,PG]
 ·simp only[fk,nr]at h c8;have e:bu ((m:Int)-64)=((m-64:Nat):Int):=by rw[hX (by omega) (by omega)];omega
  simp only[cT,e,uN (show m-64<2^64 by omega),CS,HQ (show m-64<64 by omega)];split
  ·have:decide ((j:Int)<(m:Int))=true:=by simp;omega
   rw[this,PG]
  congr 1;rw[zu];omega
 ·simp only[fk]at TZ;have:decide ((j:Int)<(m:Int))=false:=by simp;omega
  rw[Mr,this,Bool.and_false]
 simp only[fk,nr]at h c8 TZ;simp only[cT,uN (show m<2^64 by omega),CS,HQ (show m<64 by omega)];split
 ·congr 1;rw[zu];omega
 have:decide ((j:Int)<(m:Int))=false:=by simp;omega
 rw[this,Bool.and_false];exact FU
def aaW(w:BitVec 64)(j:Nat):cT {(default:aV)with c5:=w} j=w.getLsbD j:=by
 unfold cT;split
 ·rfl
 rw[zi w j (by omega)];exact FU
structure rJ(kind b:Int)(m:bN):Prop where
 off:m.gl=false->m=default
 ac2:kind=1->m.gl=true
 low:kind=1->∀j,j<128->cT m.cw j=true->(j:Int)<b
 auV:kind=3->∀j,j<128->cT m.hI j=true->(j:Int)<b
 auW:kind=3->∀j,j<128->cT m.cw j=true->cT m.hI j=true
 pre:0<=m.fA∧m.fA<=32
 ac3:kind=2->m.gl=true->1<=m.fA
 ac4:kind≠2->m.fA=0
 hQ:kind≠3->m.hI=default
 auX:kind=3->m.gl=true->m.hI≠default
 ac5:kind=4->m.gl=true->m.cw.eC=m.ly.eC∧m.cw.c5<=m.ly.c5
 T0:kind=2->∀j,j<128->cT m.cw j=true->32-m.fA<=(j:Int)∧j<32
 On:kind≠4->m.ly=default
def I6:(0:Int)<=0∧(0:Int)<=32:=⟨P0 0,by decide⟩
def Qz{kind b:Int}(h:kind≠1):rJ kind b default:=
 ⟨λ_=>rfl,λk=>absurd k h,λk=>absurd k h,λ_ j _ ba=>(by rw[show(default:bN).hI=default from rfl,Mr]at ba;cases ba),
  λ_ j _ ba=>(by rw[show(default:bN).cw=default from rfl,Mr]at ba;cases ba),
  I6,λ_ k=>(by cases k),λ_=>rfl,λ_=>rfl,λ_ k=>(by cases k),λ_ k=>(by cases k),
  λ_ j _ ba=>(by rw[show(default:bN).cw=default from rfl,Mr]at ba;cases ba),λ_=>rfl⟩
def akC{a x y:BitVec 64}(h1:a<=x)(ae:a<=y):a<=BQ x y:=by
 unfold BQ;split <;> assumption
def akD{v:aV}{b c:Int}(hb:0<=b∧b<=32)(ak:0<=c∧c<256)(ba:∀j,j<128->cT v j=true->(j:Int)<b):
 v.eC=0#64∧v.c5<=BQ (v.c5+BitVec.ofInt 64 c) (((1#64) <<< (BitVec.ofInt 64 b).toNat)-(1#64)):=by
 have gQ:v.eC=0#64:=by
  apply CJ;intro i au;have h:=ba (64+i) (by omega);unfold cT at h;rw[bf (by omega),Nat.add_sub_cancel_left]at h;rw[FU];cases an:v.eC.getLsbD i
  ·rfl
  have:=h an;omega
 obtain⟨n,rfl⟩:=qE hb.1
 have aM:n<=32:=by omega
 have tU:(BitVec.ofInt 64 (n:Int)).toNat=n:=uN (by omega)
 rw[tU]
 have aaX:v.c5<=((1#64) <<< n)-1#64:=by
  have hand:v.c5&&&(((1#64) <<< n)-1#64)=v.c5:=by
   apply CJ;intro i au;rw[CS,HQ (by omega)];have h:=ba i (by omega);unfold cT at h;rw[bk au]at h;cases an:v.c5.getLsbD i
   ·rfl
   have:=h an;simp;omega
  rw[<-hand];rw[GL,BitVec.toNat_and];exact Nat.and_le_right
 have ow:(((1#64) <<< n)-1#64).toNat<2^33:=by
  have Oo:(((1#64) <<< n)-1#64)&&&(((1#64) <<< 32)-1#64)=(((1#64) <<< n)-1#64):=by
   apply CJ;intro i au;rw[CS,HQ (by omega),HQ (by omega)];simp;omega
  rw[<-Oo,BitVec.toNat_and];exact Nat.lt_of_le_of_lt Nat.and_le_right (by decide)
 refine⟨gQ,akC ?_ aaX⟩
 rw[GL]at aaX⊢
 obtain⟨m,rfl⟩:=qE ak.1
 rw[BitVec.toNat_add,uN (by omega),Gd (by omega)]
 omega
def ai6(x:BitVec 64){n:Int}(h1:1<=n)(ae:n<=32){i:Nat}(au:i<128)
 (ba:cT {(default:aV)with c5:=x&&&((((1#64) <<< (BitVec.ofInt 64 32).toNat)-(1#64))-(((1#64) <<< (BitVec.ofInt 64 (bu (32-n))).toNat)-(1#64)))} i=true):32-n<=(i:Int)∧i<32:=by
 rw[aaW,CS,gq]at ba
 have az:=ba.2
 obtain⟨k,hk⟩:=qE (show 0<=32-n by omega)
 have dh:k<32:=by omega
 have e:bu (32-n)=(k:Int):=by rw[hk,hX (by omega) (by omega)]
 rw[e,uN (by omega)]at az
 have T1:i<64:=by
  rcases uz i 64 with h|h
  ·exact h
  rw[zi _ i h]at az;cases az
 have key:∀(k:Fin 32) (i:Fin 64),((((1#64) <<< (BitVec.ofInt 64 32).toNat)-(1#64))-(((1#64) <<< k.1)-(1#64))).getLsbD i.1=true->k.1<=i.1∧i.1<32:=by decide +kernel
 have:=key ⟨k,dh⟩ ⟨i,T1⟩ az
 simp only at this
 omega
def aii(c:ea){s:aD}(key:dz)(ak:iI c)(h:cA s)(hk:oR key):
 bd (GC c s key) (λr=>iI r.2∧rJ key.c7 (rk key) r.1):=by
 obtain⟨j,aC,aW,aR,c0,Kt,asY,dh⟩:=hk
 have hb:rk key=av wM j:=by unfold rk;rw[aW];congr 1;omega
 unfold GC
 rw[aW]
 refine(aht h aC).bind λal ar=>?_
 rw[hb]
 subst ar
 generalize cI:av wM j=b at *
 refine .bind (gU _ 256 ak (by omega)) λaF ae=>.bind (gU _ 16 ae.1 (by omega)) λbm az=>.eq I (.bind (gU _ 16 az.1 (by omega)) λbG aQ=>.eq I ?_)
 refine .bind (RR _ b (by omega) (by omega)) λbR a7=>?_
 refine .cond (λq=>?_) λq=>?_
 ·have q:key.c7=2:=by simpa using q
  refine .bind (gU _ 5 aQ.1 (by omega)) λb8 bp=>.cond (λ_=>?_) λ_=>.ret ⟨bp.1,Qz (by omega)⟩
  refine .bind (gU _ b bp.1 (by omega)) λde cO=>.bind (gU _ 5 cO.1 (by omega)) λeu dJ=>?_
  refine .eq (Ak dJ.2.1 (by simpa using dJ.2.2.1)) ?_
  have kS:1<=av [b,8,16,1,bu (1+de.1)] eu.1.toNat∧av [b,8,16,1,bu (1+de.1)] eu.1.toNat<=32:=by
   have ch:eu.1.toNat<[b,8,16,1,bu (1+de.1)].length:=by have:=dJ.2.1;have:=dJ.2.2.1;simp;omega
   have hm:=gI ch;rw[<-dp _ ch]at hm;have hw:bu (1+de.1)=1+de.1:=hX (by have:=cO.2.1;omega) (by have:=cO.2.2.1;omega);have:=cO.2.1;have:=cO.2.2.1;simp only[dW,rr,rz]at hm;rcases hm with hm|hm|hm|hm|hm <;> rw[hm] <;> omega
  unfold LM
  refine .eq I (.eq I (.eq I (.ret ⟨dJ.1,λh=>(by cases h),λh=>(by omega),λh=>by omega,λh=>(by omega),λh=>(by omega),⟨by have:=kS.1;show 0<=av _ _;omega,kS.2⟩,λ_ _=>kS.1,λh=>absurd q h,λ_=>rfl,λh=>(by omega),λh=>(by omega),λ_ i au ba=>?_,λ_=>rfl⟩)))
  have Oo:b=32:=by rw[<-cI,dh q];rfl
  rw[Oo]at kS ba
  rw[Oo]
  exact ai6 _ kS.1 kS.2 au ba
 refine .cond (λdM=>?_) λdM=>?_
 ·have dM:key.c7=3:=by simpa using dM
  refine .bind (gU _ 256 aQ.1 (by omega)) λgZ mA=>.bind (gU _ 5 mA.1 (by omega)) λjf sR=>?_
  refine .eq (Ak sR.2.1 (by simpa using sR.2.2.1)) (.eq I (.bind (RR _ b (by omega) (by omega)) λjW Co=>?_))
  refine .cond (λT2=>?_) λ_=>.ret ⟨sR.1,Qz (by omega)⟩
  refine .eq I (.eq I (.ret ⟨sR.1,λh=>(by cases h),λh=>(by omega),λh=>by omega,λ_ i au ba=>?_,λ_ i au ba=>?_,I6,λh=>(by omega),λ_=>rfl,λh=>absurd dM h,λ_ _ hd=>?_,λh=>(by omega),λh=>(by omega),λ_=>rfl⟩))
  ·have rZ:=Co i au
   simp only at ba
   rw[ba]at rZ
   have:=rZ.symm
   simp only[gq,fk]at this
   exact this.2
  ·simp only at ba⊢
   rw[aaW,CS,gq]at ba
   have T1:i<64:=by
    rcases uz i 64 with h|h
    ·exact h
    rw[zi _ i h]at ba;cases ba.1
   unfold cT;rw[bk T1];exact ba.2
  have hd':jW=default:=hd
  rw[hd']at T2;simp at T2
  exact T2 I
 refine .cond (λh4=>?_) λh4=>?_
 ·have h4:key.c7=4:=by simpa using h4
  refine .bind (gU _ 256 aQ.1 (by omega)) λjg rZ=>.eq I (.bind (gU _ 5 rZ.1 (by omega)) λjK E6=>.eq I (.cond (λ_=>?_) λ_=>.ret ⟨E6.1,Qz (by omega)⟩))
  have Oq:=akD (v:=bR) (b:=b) (c:=jg.1) ⟨by omega,asY⟩ ⟨rZ.2.1,rZ.2.2.1⟩ λi au ba=>by
   have yU:=a7 i au;rw[ba]at yU;have:=yU.symm;simp only[gq,fk]at this;exact this.2
  exact .eq I (.ret ⟨E6.1,λh=>(by cases h),λh=>(by omega),λh=>by omega,λh=>(by omega),λh=>(by omega),I6,λh=>(by omega),λ_=>rfl,λ_=>rfl,λh=>(by omega),λ_ _=>Oq,λh=>(by omega),λh=>absurd h4 h⟩)
 have aw:key.c7=1:=by
  simp only[Pb]at q dM h4;omega
 refine .eq I (.ret ⟨aQ.1,λh=>(by cases h),λ_=>rfl,λ_ i au ba=>?_,λh=>(by omega),λh=>(by omega),I6,λh=>(by omega),λ_=>rfl,λ_=>rfl,λh=>(by omega),λh=>(by omega),λh=>(by omega),λ_=>rfl⟩)
 have rZ:=a7 i au
 simp only at ba
 rw[ba]at rZ
 have:=rZ.symm
 simp only[gq,fk]at this
 exact this.2
structure gu(s:aD)(k:Nat)(e:aO):Prop where
 fK:e.ct=(k:Int)+1
 len:e.bs.length=(av s.bh k).bY.length
 yV:∀i,i<(av s.bh k).bY.length->rJ (av (av s.bh k).bY i).c7 (rk (av (av s.bh k).bY i)) (av e.bs i)
 args:e.c3.length<=10
 pri:(∀i,i<(av s.bh k).bY.length->(av (av s.bh k).bY i).c7<=2)->e.ep=0
def L8{α:Type}[Inhabited α](l:aa α)(x:α)(i:Nat):av (l++[x]) i=if i=l.length then x else av l i:=by
 unfold av;by_cases h:i=l.length
 ·subst h;simp
 rw[bf h];rcases uz i l.length with h1|h1
 ·rw[KG h1]
 rw[FN (by simp;omega),FN h1]
def Xq(c:ea){s:aD}(x:Int)(ak:iI c)(h:cA s):
 bd (xv c s x) (λr=>iI r.2∧∃k:Nat,k<4∧DG x (s.bh.length:Int)=some (k:Int)∧gu s k r.1):=by
 unfold xv
 obtain⟨al,ar,bJ,h1⟩:=akz x (s.bh.length:Int) (by rw[h.lC];omega) (by rw[h.lC];omega)
 obtain⟨k,rfl⟩:=qE bJ
 have hk:k<4:=by have:=h.lC;omega
 obtain⟨t1,⟨t2,t3⟩,t4,⟨t5,t6⟩,t7⟩:=h.fK hk
 refine .eq ar (.idx I (by have:=h.lC;omega) ?_)
 refine bd.loop (av s.bh k).bY.length (λi st=>st.1=(i:Int)∧st.2.1.ct=(k:Int)+1∧st.2.2.1.length=i∧iI st.2.2.2∧
  (∀j,j<i->rJ (av (av s.bh k).bY j).c7 (rk (av (av s.bh k).bY j)) (av st.2.2.1 j))∧((∀j,j<i->(av (av s.bh k).bY j).c7<=2)->st.2.1.ep=0)) (by omega) ⟨rfl,t1,rfl,ak,λj aC=>by omega,λ_=>rfl⟩ (λi st au hs=>?_) (λst hs=>?_)
 ·obtain⟨xj,e,ms,Fm⟩:=st;obtain⟨aK,cr,e4,hT,lq,xk⟩:=hs
  simp only at aK cr e4 hT lq xk;subst aK
  refine bd.cond (λ_=>?_) (λh=>by simp at h;omega)
  refine .idx I au (.bind (aii _ _ hT h (t4 _ (by rw[dp _ au];exact gI au))) λaF ae=>.eq (fN _ _ (by simp;omega) (by omega)) (.eq I ?_))
  refine .bind (P:=λm=>m.1.ct=(k:Int)+1∧iI m.2∧((av (av s.bh k).bY i).c7<=2->m.1.ep=e.ep)) (.cond (λb2=>.bind (gU _ 5 ae.1 (by omega)) λbG aQ=>.eq I (.ret ⟨cr,aQ.1,λh=>by simp at b2;omega⟩)) (λ_=>.ret ⟨cr,ae.1,λ_=>rfl⟩)) λm1 cc=>?_
  refine .ret ⟨dS (by omega),cc.1,by simp;omega,cc.2.1,λj aC=>?_,λh=>?_⟩
  ·simp only[L8]
   by_cases nM:j=ms.length
   ·rw[bk nM];rw[nM,e4];exact ae.2
   rw[bf nM];exact lq j (by omega)
  exact(cc.2.2 (h i (by omega))).trans (xk λj aC=>h j (by omega))
 obtain⟨xj,e,ms,Fm⟩:=st;obtain⟨aK,cr,e4,hT,lq,xk⟩:=hs
 simp only at aK cr e4 hT lq xk;subst aK
 refine⟨_,by simp;rfl,?_⟩
 refine .bind (gU _ _ hT (by omega)) λbR a7=>?_
 refine .eq (Ak a7.2.1 a7.2.2.1) (.eq I ?_)
 have aY:1<=av (av s.bh k).bK bR.1.toNat∧av (av s.bh k).bK bR.1.toNat<=6:=t7 _ (by
  have ch:bR.1.toNat<(av s.bh k).bK.length:=by have:=a7.2.1;have:=a7.2.2.1;omega
  rw[dp _ ch];exact gI ch)
 obtain⟨a,eB⟩:=qE (show 0<=av (av s.bh k).bK bR.1.toNat-1 by omega)
 have asZ:av (av s.bh k).bK bR.1.toNat=(a:Int)+1:=by omega
 simp only[asZ]
 refine .bind (WH h (show a<6 by omega)) λb8 bp=>?_
 obtain⟨a6,br⟩:=h.act (show a<6 by omega)
 rw[<-bp]at br
 have hp:b8.iC.length<=10∧∀i,i<b8.iC.length->0<=(av b8.iC i).iQ∧(av b8.iC i).iQ<1000:=by
  have hq:∀l∈wN,l.length<=10∧∀b∈l,0<=b∧b<1000:=by decide
  have hm:av wN a∈wN:=by rw[dp wN (show a<wN.length by simp[wN];omega)];exact gI _
  obtain⟨aw,b9⟩:=hq _ hm;rw[<-br]at aw b9;refine⟨by simpa using aw,λi au=>b9 _ ?_⟩;rw[dp _ au];exact gJ.2 ⟨_,gI au,rfl⟩
 refine bd.loop b8.iC.length (λi st=>st.1=(i:Int)∧st.2.1.ct=(k:Int)+1∧st.2.2.1.length=i∧iI st.2.2.2∧st.2.1.ep=e.ep) (by omega) ⟨rfl,cr,rfl,a7.1,rfl⟩ (λi st au hs=>?_) (λst hs=>?_)
 ·obtain⟨xj,e',vs,as0⟩:=st;obtain⟨f2,f3,f4,f5,f6⟩:=hs
  simp only at f2 f3 f4 f5 f6;subst f2
  refine bd.cond (λ_=>?_) (λh=>by simp at h;omega)
  refine .idx I au (.bind (gU _ 256 f5 (by omega)) λde cO=>.eq I (.bind (RR _ _ (hp.2 i au).1 (hp.2 i au).2) λeu dJ=>.eq (fN _ _ (by have:=hp.1;simp;omega) (by omega)) (.ret ⟨dS (by have:=hp.1;omega),f3,by simp;omega,cO.1,f6⟩)))
 obtain⟨xj,e',vs,as0⟩:=st;obtain⟨f2,f3,f4,f5,f6⟩:=hs
 simp only at f2 f3 f4 f5 f6;subst f2
 refine⟨_,by simp;rfl,?_⟩
 exact .eq I (.ret ⟨f5,k,hk,ar,f3,e4,lq,by show vs.length<=10;have:=hp.1;omega,λh=>f6.trans (xk h)⟩)
structure aoZ(s:aD)(r:Vector (List Int) 6):Prop where
 fields:ck r 0=s.gm.map (·.b1)
 headers:ck r 1=s.pk.map (·.b1)
 MN:ck r 2=s.p0.map (·.b1)
 DY:ck r 3=s.bK.map (·.b1)
 tables:ck r 4=s.bh.map (·.b1)
 ye:ck r 5=s.cG.map (·.b1)
def alF{s:aD}(h:cA s):bd (Hx s) (aoZ s):=by
 unfold Hx;have hg:=h.wL;have gi:=h.headers;have at1:=h.MN;have adF:=h.EC;have avu:=h.lC;have avv:=h.oe;refine bd.loop s.gm.length (λk st=>st.1=(k:Int)∧st.2.1=(s.gm.take k).map (·.b1)) (by omega) ⟨rfl,rfl⟩ (λk st hk au=>?_) (λst au=>?_)
 ·obtain⟨i,a,v⟩:=st;obtain⟨ar,aK⟩:=au;simp only at ar aK;subst ar;subst aK;refine bd.cond (λ_=>?_) (λh=>by simp at h;omega);exact .idx I hk (.eq (fN _ _ (by simp;omega) (by omega)) (.ret ⟨dS (by omega),by rw[xB _ hk,pT];rfl⟩))
 obtain⟨i,a0,v⟩:=st;obtain⟨ar,aK⟩:=au;simp only at ar aK;subst ar;subst aK;refine⟨_,by simp only[show decide ((s.gm.length:Int)<(s.gm.length:Int))=false by simp,cond_false];rfl,?_⟩;refine bd.loop s.pk.length (λk st=>st.1=(k:Int)∧st.2.1=(s.pk.take k).map (·.b1)) (by omega) ⟨rfl,rfl⟩ (λk st hk au=>?_) (λst au=>?_)
 ·obtain⟨i,a,v⟩:=st;obtain⟨ar,aK⟩:=au;simp only at ar aK;subst ar;subst aK;refine bd.cond (λ_=>?_) (λh=>by simp at h;omega);exact .idx I hk (.eq (fN _ _ (by simp;omega) (by omega)) (.ret ⟨dS (by omega),by rw[xB _ hk,pT];rfl⟩))
 obtain⟨i,bZ,v⟩:=st;obtain⟨ar,aK⟩:=au;simp only at ar aK;subst ar;subst aK;refine⟨_,by simp only[show decide ((s.pk.length:Int)<(s.pk.length:Int))=false by simp,cond_false];rfl,?_⟩;refine bd.loop s.p0.length (λk st=>st.1=(k:Int)∧st.2.1=(s.p0.take k).map (·.b1)) (by omega) ⟨rfl,rfl⟩ (λk st hk au=>?_) (λst au=>?_)
 ·obtain⟨i,a,v⟩:=st;obtain⟨ar,aK⟩:=au;simp only at ar aK;subst ar;subst aK;refine bd.cond (λ_=>?_) (λh=>by simp at h;omega);exact .idx I hk (.eq (fN _ _ (by simp;omega) (by omega)) (.ret ⟨dS (by omega),by rw[xB _ hk,pT];rfl⟩))
 obtain⟨i,a2,v⟩:=st;obtain⟨ar,aK⟩:=au;simp only at ar aK;subst ar;subst aK;refine⟨_,by simp only[show decide ((s.p0.length:Int)<(s.p0.length:Int))=false by simp,cond_false];rfl,?_⟩;refine bd.loop s.bK.length (λk st=>st.1=(k:Int)∧st.2.1=(s.bK.take k).map (·.b1)) (by omega) ⟨rfl,rfl⟩ (λk st hk au=>?_) (λst au=>?_)
 ·obtain⟨i,a,v⟩:=st;obtain⟨ar,aK⟩:=au;simp only at ar aK;subst ar;subst aK;refine bd.cond (λ_=>?_) (λh=>by simp at h;omega);exact .idx I hk (.eq (fN _ _ (by simp;omega) (by omega)) (.ret ⟨dS (by omega),by rw[xB _ hk,pT];rfl⟩))
 obtain⟨i,a3,v⟩:=st;obtain⟨ar,aK⟩:=au;simp only at ar aK;subst ar;subst aK;refine⟨_,by simp only[show decide ((s.bK.length:Int)<(s.bK.length:Int))=false by simp,cond_false];rfl,?_⟩;refine bd.loop s.bh.length (λk st=>st.1=(k:Int)∧st.2.1=(s.bh.take k).map (·.b1)) (by omega) ⟨rfl,rfl⟩ (λk st hk au=>?_) (λst au=>?_)
 ·obtain⟨i,a,v⟩:=st;obtain⟨ar,aK⟩:=au;simp only at ar aK;subst ar;subst aK;refine bd.cond (λ_=>?_) (λh=>by simp at h;omega);exact .idx I hk (.eq (fN _ _ (by simp;omega) (by omega)) (.ret ⟨dS (by omega),by rw[xB _ hk,pT];rfl⟩))
 obtain⟨i,a4,v⟩:=st;obtain⟨ar,aK⟩:=au;simp only at ar aK;subst ar;subst aK;refine⟨_,by simp only[show decide ((s.bh.length:Int)<(s.bh.length:Int))=false by simp,cond_false];rfl,?_⟩;refine bd.loop s.cG.length (λk st=>st.1=(k:Int)∧st.2.1=(s.cG.take k).map (·.b1)) (by omega) ⟨rfl,rfl⟩ (λk st hk au=>?_) (λst au=>?_)
 ·obtain⟨i,a,v⟩:=st;obtain⟨ar,aK⟩:=au;simp only at ar aK;subst ar;subst aK;refine bd.cond (λ_=>?_) (λh=>by simp at h;omega);exact .idx I hk (.eq (fN _ _ (by simp;omega) (by omega)) (.ret ⟨dS (by omega),by rw[xB _ hk,pT];rfl⟩))
 obtain⟨i,a5,v⟩:=st;obtain⟨ar,aK⟩:=au;simp only at ar aK;subst ar;subst aK;refine⟨_,by simp only[show decide ((s.cG.length:Int)<(s.cG.length:Int))=false by simp,cond_false];rfl,?_⟩;refine .eq I (.ret ⟨?_,?_,?_,?_,?_,?_⟩)
 ·simp only[k4];rw[jG _ _ (by omega),bf (by omega),jG _ _ (by omega),bf (by omega),jG _ _ (by omega),bf (by omega),jG _ _ (by omega),bf (by omega),jG _ _ (by omega),bf (by omega),jG _ _ (by omega),bk I]
 ·simp only[k4];rw[jG _ _ (by omega),bf (by omega),jG _ _ (by omega),bf (by omega),jG _ _ (by omega),bf (by omega),jG _ _ (by omega),bf (by omega),jG _ _ (by omega),bk I]
 ·simp only[k4];rw[jG _ _ (by omega),bf (by omega),jG _ _ (by omega),bf (by omega),jG _ _ (by omega),bf (by omega),jG _ _ (by omega),bk I]
 ·simp only[k4];rw[jG _ _ (by omega),bf (by omega),jG _ _ (by omega),bf (by omega),jG _ _ (by omega),bk I]
 ·simp only[k4];rw[jG _ _ (by omega),bf (by omega),jG _ _ (by omega),bk I]
 simp only[k4];rw[jG _ _ (by omega),bk I]
def alG(l:aa Int)(x:Int)(ao:l.length<2^30):bd (Hk l x) (λr=>(r= -1∧x∉l)∨∃k:Nat,k<l.length∧r=(k:Int)∧av l k=x):=by
 unfold Hk;refine aie l (λy=>y==x) (by omega) (λk hk hp=>?_) (λk hk hq hp=>?_) (λhq=>?_)
 ·simp only[show decide ((k:Int)<(l.length:Int))=true by simp;omega,cond_true,pr hk,Option.bind_some,hp,cond_false]
 ·refine⟨_,by simp only[show decide ((k:Int)<(l.length:Int))=true by simp;omega,cond_true,pr hk,Option.bind_some,hp];rfl,?_⟩;exact .ret (.inr ⟨k,hk,rfl,by simpa using hp⟩)
 refine⟨_,by simp only[show decide ((l.length:Int)<(l.length:Int))=false by simp,cond_false];rfl,?_⟩;refine .ret (.inl ⟨rfl,λan=>?_⟩);have:=zm.1 hq x an;simp at this
def afk{xs:aa bw}{f:bw->aA Bool}{g:bw->Bool}(aW:∀x∈xs,f x=some (g x))(ao:xs.length<2^62):
 bd (FH xs f) (λr=>(r= -1∧∀x∈xs,g x=false)∨∃i:Nat,i<xs.length∧r=i∧g (av xs i)=true∧∀j,j<i->g (av xs j)=false):=by
 unfold FH
 refine bd.loop xs.length (λk s=>s=(k:Int)∧∀j,j<k->g (av xs j)=false) (by omega) ⟨rfl,λj aC=>by omega⟩ (λk s hk au=>?_) (λs au=>?_)
 ·obtain⟨ar,aK⟩:=au;subst ar
  refine bd.cond (λ_=>?_) (λh=>by simp at h;omega)
  refine .idx I hk (.eq (aW _ (by rw[dp xs hk];exact gI hk)) (.cond (λh=>.ret ?_) (λh=>.ret ⟨dS (by omega),λj aC=>?_⟩)))
  ·exact .ret (.inr ⟨k,hk,rfl,h,aK⟩)
  by_cases kT:j=k
  ·subst kT;exact h
  exact aK j (by omega)
 obtain⟨ar,aK⟩:=au;subst ar
 refine⟨_,by simp;rfl,?_⟩
 refine .ret (.inl ⟨rfl,λx an=>?_⟩)
 obtain⟨j,aC,rfl⟩:=rn.1 an
 rw[<-dp xs aC];exact aK j aC
def afl{xs:aa iB}{f:iB->aA Bool}{g:iB->Bool}(aW:∀x∈xs,f x=some (g x))(ao:xs.length<2^62):
 bd (FI xs f) (λr=>(r= -1∧∀x∈xs,g x=false)∨∃i:Nat,i<xs.length∧r=i∧g (av xs i)=true∧∀j,j<i->g (av xs j)=false):=by
 unfold FI
 refine bd.loop xs.length (λk s=>s=(k:Int)∧∀j,j<k->g (av xs j)=false) (by omega) ⟨rfl,λj aC=>by omega⟩ (λk s hk au=>?_) (λs au=>?_)
 ·obtain⟨ar,aK⟩:=au;subst ar
  refine bd.cond (λ_=>?_) (λh=>by simp at h;omega)
  refine .idx I hk (.eq (aW _ (by rw[dp xs hk];exact gI hk)) (.cond (λh=>.ret ?_) (λh=>.ret ⟨dS (by omega),λj aC=>?_⟩)))
  ·exact .ret (.inr ⟨k,hk,rfl,h,aK⟩)
  by_cases kT:j=k
  ·subst kT;exact h
  exact aK j (by omega)
 obtain⟨ar,aK⟩:=au;subst ar
 refine⟨_,by simp;rfl,?_⟩
 refine .ret (.inl ⟨rfl,λx an=>?_⟩)
 obtain⟨j,aC,rfl⟩:=rn.1 an
 rw[<-dp xs aC];exact aK j aC
def DK{s:aD}(h:cA s){k:Nat}(hk:k<4):bd (sg s ((k:Int)+1)) (λr=>r=(k:Int)):=by
 unfold sg;refine(afk (g:=λt=>t.b1==(k:Int)+1) (λx an=>rfl) (by rw[h.lC];omega)).bind λr aE=>.ret ?_;have dh:k<s.bh.length:=by rw[h.lC];exact hk
 rcases aE with⟨_,aE⟩|⟨i,h1,ae,az,aQ⟩
 ·have:=aE (av s.bh k) (by rw[dp _ dh];exact gI dh);simp only[(h.fK hk).1,Ge]at this;cases this
 have a7:=(h.fK (show i<4 by have:=h.lC;omega)).1;simp only[a7,nv]at az;omega
def Qd{s:aD}(h:cA s){k:Nat}(hk:k<9):bd (zJ s ((k:Int)+1)) (λr=>r=(k:Int)):=by
 unfold zJ;refine(afl (g:=λt=>t.b1==(k:Int)+1) (λx an=>rfl) (by rw[h.wL];omega)).bind λr aE=>.ret ?_;have dh:k<s.gm.length:=by rw[h.wL];exact hk
 rcases aE with⟨_,aE⟩|⟨i,h1,ae,az,aQ⟩
 ·have:=aE (av s.gm k) (by rw[dp _ dh];exact gI dh);simp only[(h.Cp hk).1,Ge]at this;cases this
 have a7:=(h.Cp (show i<9 by have:=h.wL;omega)).1;simp only[a7,nv]at az;omega
def aaY{key:dz}{j:Nat}(h:key.ih=(j:Int)+1):rk key=av wM j:=by unfold rk;rw[h];congr 1;omega
def lead(n k:Int)(j:Nat):Bool:=decide ((j:Int)<n)&&decide (n-max 0 (min k n)<=(j:Int))
def W1(n k:Int)(bJ:0<=n)(h1:n<=128):bd (Ds n k) (λr=> ∀j,j<128->cT r j=lead n k j):=by
 unfold Ds Dz;have e:min (max 0 n) 128=n:=by omega
 rw[e];have aK:bu (n-min (max 0 k) n)=n-min (max 0 k) n:=hX (by omega) (by omega);refine .eq I ((Ms n).bind λa aY=>?_);rw[aK];refine(Ms _).bind λb hb=>(akB a b).bind λr aE=>.ret λj aC=>?_;rw[aE j aC,aY j aC,hb j aC];unfold lead;by_cases p:(j:Int)<n
 ·rw[pV p];by_cases q:(j:Int)<n-min (max 0 k) n
  ·rw[pV q,ru (by omega)];rfl
  rw[ru q,pV (by omega)];rfl
 rw[ru p,ru (by omega)];rfl
def ag1(x y:aV):bd (ry x y) (λ_=>True):=by
 unfold ry;exact .cond (λ_=>.ret cZ) λ_=>.eq I (.cond (λ_=>.ret cZ) λ_=>.ret cZ)
def tV(a b:aV):Bool:=decide (a.eC<b.eC)||(a.eC==b.eC&&decide (a.c5<b.c5))
def YP{a b:aV}:tV a b=true↔a.eC<b.eC∨(a.eC=b.eC∧a.c5<b.c5):=by simp[tV]
def W2(a:aV):tV a a=false:=by simp[tV]
def Xr{a b:aV}(h:tV a b=true):tV b a=false:=by
 rw[zp];intro ae;rw[YP]at h ae;simp only[GM,BitVec.toNat_eq]at h ae;omega
def ahu{x y i:Nat}(h1:x.testBit i=false)(ae:y.testBit i=true)(az:∀j,i<j->x.testBit j=y.testBit j):x<y:=by
 have aQ:x/2^(i+1)=y/2^(i+1):=Nat.eq_of_testBit_eq λj=>by
  rw[U1,U1];exact az _ (by omega)
 rw[Nat.testBit_eq_decide_div_mod_eq]at h1 ae;simp only[nr,fk]at h1 ae;rw[Nat.pow_succ,<-U9,<-U9]at aQ;have a7:x/2^i<y/2^i:=by omega
 exact Nat.lt_of_div_lt_div a7
def YQ{x y:BitVec 64}{i:Nat}(h1:x.getLsbD i=false)(ae:y.getLsbD i=true)(az:∀j,i<j->j<64->x.getLsbD j=y.getLsbD j):x<y:=by
 rw[GM];refine ahu h1 ae λj aC=>?_;by_cases nM:j<64
 ·exact az j aC nM
 show x.getLsbD j=y.getLsbD j;rw[zi _ _ (by omega),zi _ _ (by omega)]
def X5{a b:aV}{i:Nat}(au:i<128)(h1:cT a i=false)(ae:cT b i=true)(az:∀j,i<j->j<128->cT a j=cT b j):tV a b=true:=by
 rw[YP];by_cases h:i<64
 ·right;unfold cT at h1 ae;rw[bk h]at h1 ae;constructor
  ·apply CJ;intro j aC;have:=az (j+64) (by omega) (by omega);unfold cT at this;rw[bf (by omega),bf (by omega)]at this;simpa using this
  refine YQ h1 ae λj aC nM=>?_;have:=az j aC (by omega);unfold cT at this;rwa[bk nM,bk nM]at this
 left;unfold cT at h1 ae;rw[bf h]at h1 ae;refine YQ h1 ae λj aC nM=>?_;have:=az (j+64) (by omega) (by omega);unfold cT at this;rw[bf (by omega),bf (by omega)]at this;simpa using this
def ag2(a b:aV):bd (vT a b) (λr=>(r>0↔tV b a=true)∧(r<0↔tV a b=true)):=by
 unfold vT;refine(YN a).bind λx an=>(YN b).bind λy hy=>?_;refine bd.loop 128 (λk s=>s=127-(k:Int)∧∀j,128<=j+k->j<128->cT a j=cT b j) (by omega) ⟨rfl,λj h1 ae=>by omega⟩ (λk s hk au=>?_) (λs au=>?_)
 ·obtain⟨rfl,aK⟩:=au;refine bd.cond (λ_=>?_) (λh=>by simp at h;omega);have sQ:(127-(k:Int))=((127-k:Nat):Int):=by omega
  have yv:127-k<128:=by omega
  refine .idx sQ yv (.idx sQ yv ?_);rw[an _ yv,hy _ yv];refine .cond (λdm=>.idx sQ yv ?_) λheq=>.ret ⟨?_,λj h1 ae=>?_⟩
  ·have heq:∀j,127-k<j->j<128->cT a j=cT b j:=λj h1 ae=>aK j (by omega) ae;rw[hy _ yv];refine .cond (λhb=>.ret (.ret ?_)) λhb=>.ret (.ret ?_)
   ·have aY:cT a (127-k)=false:=by rw[hb]at dm;simpa using dm
    have:=X5 yv aY hb heq;exact⟨⟨λh=>by simp at h,λh=>by rw[Xr this]at h;cases h⟩,λ_=>this,λ_=>by simp⟩
   have aY:cT a (127-k)=true:=by rw[hb]at dm;simpa using dm
   have:=X5 yv hb aY λj h1 ae=>(heq j h1 ae).symm;exact⟨⟨λ_=>this,λ_=>by simp⟩,λh=>by simp at h,λh=>by rw[Xr this]at h;cases h⟩
  ·rw[hX (by omega) (by omega)];omega
  by_cases aC:j=127-k
  ·subst aC;simpa using heq
  exact aK j (by omega) ae
 obtain⟨rfl,aK⟩:=au;refine⟨_,rfl,?_⟩;have:a=b:=RQ λj aC=>aK j (by omega) aC;subst this;refine .ret ⟨?_,?_⟩ <;> simp[W2]
end Go.Proofs.YtlkieppifclacaaGreat
namespace Gv
structure w2{α:Type}(b:α->α->Bool):Prop where
 asymm:∀x y,b x y=true->b y x=false
 trans:∀x y z,b x y=true->b y z=true->b x z=true
def ins{α:Type}(b:α->α->Bool):aa α->α->aa α
 |[],x=>[x]
 |a::l,x=>if b a x=true then a::ins b l x else x::a::l
def iL{α:Type}(b:α->α->Bool)(l:aa α):aa α:=l.foldl (ins b) []
def lJ{α:Type}(b:α->α->Bool):aa α->α->Nat
 |[],_=>0
 |a::l,x=>if b a x=true then lJ b l x+1 else 0
def w3{α:Type}(b:α->α->Bool)(x y:α):Prop:=b x y=true∨b y x=true
variable{α:Type}{b:α->α->Bool}
def X6(a:α)(l:aa α)(x:α):ins b (a::l) x=if b a x=true then a::ins b l x else x::a::l:=rfl
def RS:∀{l:aa α} {x:α},lJ b l x<=l.length
 |[],_=>jF _
 | a::l,x=>by
   have:=RS (l:=l) (x:=x);unfold lJ;split <;> simp <;> omega
def Zq:∀(l:aa α) (x:α),ins b l x=l.take (lJ b l x)++x::l.drop (lJ b l x)
 |[],x=>rfl
 | a::l,x=>by
   unfold ins lJ;split
   ·rw[Zq l x];rfl
   rfl
def QR:∀(l:aa α) (x:α),(ins b l x).Perm (x::l)
 |[],x=>Lg _
 | a::l,x=>by
   unfold ins;split
   ·exact((QR l x).cons a).trans (List.Perm.swap x a l)
   exact Lg _
def akE{l:aa α}{x y:α}:y∈ins b l x↔y=x∨y∈l:=by
 rw[(QR l x).mem_iff];simp
def Mt(l:aa α)(x:α):iL b (l++[x])=ins b (iL b l) x:=by
 simp[iL,List.foldl_append]
def Rf(l:aa α):(iL b l).Perm l:=by
 have key:∀(l m:aa α),(l.foldl (ins b) m).Perm (m++l):=by
  intro l;induction l with
  |nil=>intro m;simp
  | cons a l b6=>
    intro m
    refine(b6 (ins b m a)).trans ?_
    refine((QR m a).append_right l).trans ?_
    exact(sc (a:=a) (l₁:=m) (l₂:=l)).symm
 exact key l []
def x6{l:aa α}{y:α}:y∈iL b l↔y∈l:=(Rf l).mem_iff
def alH{l:aa α}:(iL b l).length=l.length:=(Rf l).length_eq
def W3(hb:w2 b):∀{l:aa α} {x:α},l.Pairwise (λx y=>b x y=true)->(∀a∈l,w3 b a x)->(ins b l x).Pairwise (λx y=>b x y=true)
 |[],x,_,_=>by simp[ins]
 | a::l,x,hs,bE=>by
   obtain⟨h1,ae⟩:=mK.1 hs;unfold ins;split
   ·rename_i vv;refine mK.2 ⟨λc ak=>?_,W3 hb ae λa aY=>bE a (by simp[aY])⟩;rcases akE.1 ak with rfl|ak
    ·exact vv
    exact h1 c ak
   rename_i vv;have J5:b x a=true:=(bE a (by simp)).resolve_left vv;refine mK.2 ⟨λc ak=>?_,hs⟩;rcases dW.1 ak with rfl|ak
   ·exact J5
   exact hb.trans _ _ _ J5 (h1 c ak)
def aij{l:aa α}{x:α}(h:∀c∈l,b c x=false):ins b l x=x::l:=by
 cases l with
 |nil=>rfl
 |cons a l=>unfold ins;rw[bf (by simp[h a (by simp)])]
def W4(hb:w2 b){q:α->Bool}:∀{l:aa α} {x:α},l.Pairwise (λx y=>b x y=true)->(∀a∈l,w3 b a x)->
 (ins b l x).filter q=if q x=true then ins b (l.filter q) x else l.filter q
 | [],x,_,_=>by
   show [x].filter q=if q x=true then [x]else [];by_cases hp:q x=true
   ·simp[hp]
   simp only[lX]at hp;simp[hp]
 | a::l,x,hs,bE=>by
   obtain⟨h1,ae⟩:=mK.1 hs;have b6:=W4 hb (q:=q) (x:=x) ae λa aY=>bE a (by simp[aY]);rw[X6];by_cases vv:b a x=true
   ·rw[bk vv];by_cases rY:q a=true
    ·rw[CK rY,CK rY,b6];by_cases hq:q x=true
     ·rw[bk hq,bk hq,X6,bk vv]
     rw[bf hq,bf hq]
    rw[zf rY,zf rY,b6]
   rw[bf vv];have J5:b x a=true:=(bE a (by simp)).resolve_left vv;by_cases hq:q x=true
   ·rw[CK hq,bk hq,aij];intro c ak;have qw:=(uw.1 ak).1;refine hb.asymm _ _ ?_;rcases dW.1 qw with rfl|qw
    ·exact J5
    exact hb.trans _ _ _ J5 (h1 c qw)
   rw[zf hq,bf hq]
def yw(b:α->α->Bool)(l:aa α):Prop:=l.Pairwise (w3 b)
def w3.symm{x y:α}(h:w3 b x y):w3 b y x:=h.elim .inr .inl
def yw.snoc{l:aa α}{x:α}(h:yw b (l++[x])):yw b l∧∀a∈l,w3 b a x:=by
 unfold yw at *;rw[KN]at h;exact⟨h.1,λa aY=>h.2.2 a aY x (by simp)⟩
def X7{P:aa α->Prop}(bJ:P [])(h1:∀l x,P l->P (l++[x]))(l:aa α):P l:=by
 have:∀r:aa α,P r.reverse:=by
  intro r;induction r with
  |nil=>exact bJ
  |cons a r b6=>rw[List.reverse_cons];exact h1 _ _ b6
 have:=this l.reverse;rwa[List.reverse_reverse]at this
def QA(hb:w2 b){l:aa α}(h:yw b l):(iL b l).Pairwise (λx y=>b x y=true):=by
 induction l using X7 with
 |bJ=>exact List.Pairwise.nil
 | h1 l x b6=>
   obtain⟨h1,ae⟩:=h.snoc
   rw[Mt]
   exact W3 hb (b6 h1) λa aY=>ae a (x6.1 aY)
def aik(hb:w2 b){q:α->Bool}{l:aa α}(h:yw b l):(iL b l).filter q=iL b (l.filter q):=by
 induction l using X7 with
 |bJ=>rfl
 | h1 l x b6=>
   obtain⟨h1,ae⟩:=h.snoc
   rw[Mt,W4 hb (QA hb h1) λa aY=>ae a (x6.1 aY),b6 h1,uv]
   by_cases hq:q x=true
   ·rw[bk hq,CK hq,List.filter_nil,Mt]
   rw[bf hq,zf hq,List.filter_nil,mM]
def RT[Inhabited α](hb:w2 b):∀{l:aa α} {x:α} {k:Nat},l.Pairwise (λx y=>b x y=true)->k<l.length->(b (av l k) x=true↔k<lJ b l x)
 |[],x,k,_,hk=>by simp at hk
 | a::l,x,k,hs,hk=>by
   obtain⟨h1,ae⟩:=mK.1 hs;unfold lJ;cases k with
   | zero=>
     have:av (a::l) 0=a:=rfl
     rw[this]
     split <;> simp_all
   | succ k=>
     have lg:k<l.length:=by simpa using hk
     have he:av (a::l) (k+1)=av l k:=by rw[dp _ hk,dp _ lg];rfl
     rw[he,RT hb ae lg]
     split
     ·omega
     rename_i vv
     constructor
     ·intro ch
      have a7:=(RT hb ae lg).2 ch
      have bp:=h1 (av l k) (by rw[dp _ lg];exact gI _)
      exact absurd (hb.trans _ _ _ bp a7) vv
     intro h;omega
end Gv
namespace Go.Proofs.YtlkieppifclacaaGreat
open Go Gv
def Wi{xs:aa dz}{f:dz->aA Bool}{g:dz->Bool}(aW:∀x∈xs,f x=some (g x))(ao:xs.length<2^62):
 bd (CP xs f) (λr=>(r= -1∧∀x∈xs,g x=false)∨∃i:Nat,i<xs.length∧r=i∧g (av xs i)=true∧∀j,j<i->g (av xs j)=false):=by
 unfold CP
 refine bd.loop xs.length (λk s=>s=(k:Int)∧∀j,j<k->g (av xs j)=false) (by omega) ⟨rfl,λj aC=>by omega⟩ (λk s hk au=>?_) (λs au=>?_)
 ·obtain⟨ar,aK⟩:=au;subst ar
  refine bd.cond (λ_=>?_) (λh=>by simp at h;omega)
  refine .idx I hk (.eq (aW _ (by rw[dp xs hk];exact gI hk)) (.cond (λh=>.ret ?_) (λh=>.ret ⟨dS (by omega),λj aC=>?_⟩)))
  ·exact .ret (.inr ⟨k,hk,rfl,h,aK⟩)
  by_cases kT:j=k
  ·subst kT;exact h
  exact aK j (by omega)
 obtain⟨ar,aK⟩:=au;subst ar
 refine⟨_,by simp;rfl,?_⟩
 refine .ret (.inl ⟨rfl,λx an=>?_⟩)
 obtain⟨j,aC,rfl⟩:=rn.1 an
 rw[<-dp xs aC];exact aK j aC
def _root_.Gv.bd.get{β:Type}{m:aA β}{v:β}(h:bd m (λr=>r=v)):m=some v:=by
 obtain⟨r,h1,rfl⟩:=h;exact h1
def as1(kind b:Int)(m:bN)(x:aV):Bool:=
 if m.gl=false then true
 else if kind=1 then decide (x=m.cw)
 else if kind=2 then(List.range 128).all λj=> !lead b m.fA j||(cT x j==cT m.cw j)
 else if kind=3 then decide (I5 x m.hI=m.cw)
 else !tV x m.cw&& !tV m.ly x
def mt(s:aD)(k:Nat)(p:Vector aV 4)(e:aO):Bool:=
 (List.range (av s.bh k).bY.length).all λi=>as1 (av (av s.bh k).bY i).c7 (rk (av (av s.bh k).bY i)) (av e.bs i) (ck p i)
def ahv{s:aD}(h:cA s){key:dz}(hk:oR key):Hg s key=some (rk key):=by
 obtain⟨j,aC,aW,_⟩:=hk;refine bd.get ?_;unfold Hg;rw[aW];refine(Qd h aC).bind λr aE=>?_;subst aE;rw[show decide ((j:Int)<0)=false from ru (by omega),cond_false];refine .idx I (by have:=h.wL;omega) (.ret ?_);rw[(h.Cp aC).2,aaY aW]
def QB{s:aD}(h:cA s){k:Nat}(hk:k<4){e:aO}(he:e.ct=(k:Int)+1):zO s e=some (av s.bh k,true):=by
 refine bd.get ?_;unfold zO;rw[he];refine(DK h hk).bind λr aE=>?_;subst aE;rw[show decide ((k:Int)<0)=false from ru (by omega),cond_false];exact .idx I (by have:=h.lC;omega) (.ret I)
def w4:aa dz->aa bN->Int
 |key::ks,m::ms=>if key.c7=2 then m.fA else w4 ks ms
 |_,_=>0
def Zr:∀{ks:aa dz} {ms:aa bN} {i:Nat},ms.length=ks.length->i<ks.length->(av ks i).c7=2->(∀j,j<i->(av ks j).c7≠2)->w4 ks ms=(av ms i).fA
 |[],_,i,_,au,_,_=>by simp at au
 |key::ks,[],i,ao,_,_,_=>by simp at ao
 | key::ks,m::ms,0,_,_,ae,_=>by
   have:(av (key::ks) 0)=key:=rfl;rw[this]at ae;unfold w4;rw[bk ae];rfl
 | key::ks,m::ms,i+1,ao,au,ae,aM=>by
   have bJ:=aM 0 (by omega);have:(av (key::ks) 0)=key:=rfl;rw[this]at bJ;unfold w4;rw[bf bJ];have bH:∀{β:Type} [Inhabited β] (x:β) (l:aa β) (n:Nat),av (x::l) (n+1)=av l n:=λx l n=>by simp[av]
   rw[bH]at ae⊢;exact Zr (by simpa using ao) (by simpa using au) ae λj aC=>by have:=aM (j+1) (by omega);rwa[bH]at this
def Zs:∀{ks:aa dz} {ms:aa bN},(∀key∈ks,key.c7≠2)->w4 ks ms=0
 |[],_,_=>by unfold w4;rfl
 |key::ks,[],_=>by unfold w4;rfl
 | key::ks,m::ms,aM=>by
   unfold w4;rw[bf (aM key (by simp))];exact Zs λk hk=>aM k (by simp[hk])
def r6(s:aD)(k:Nat)(e:aO):Int:=w4 (av s.bh k).bY e.bs
def W5{s:aD}(h:cA s){k:Nat}(hk:k<4){e:aO}(he:gu s k e):DB s e=some (r6 s k e):=by
 obtain⟨t1,⟨t2,t3⟩,t4,_⟩:=h.fK hk;have hm:=he.len;refine bd.get ?_;unfold DB r6;refine .eq (QB h hk he.fK) ?_;simp only;refine(Wi (g:=λkey=>key.c7==2) (λx an=>rfl) (by omega)).bind λr aE=>.eq I ?_;rcases aE with⟨rfl,aE⟩|⟨i,h1,rfl,az,aQ⟩
 ·refine .cond (λ_=>.ret ?_) (λh=>by simp at h);rw[Zs λkey kJ=>by simpa using aE key kJ]
 have b2:(!true||decide ((i:Int)<0)||decide ((i:Int)>=(e.bs.length:Int)))=false:=by simp;omega
 rw[b2,cond_false];refine .idx I (by omega) (.ret ?_);rw[Zr hm h1 (by simpa using az) λj aC=>by simpa using aQ j aC]
def jC(s:aD)(k:Nat)(a c:aS):Bool:=
 decide (c.bl.ep<a.bl.ep∨(a.bl.ep=c.bl.ep∧(r6 s k c.bl<r6 s k a.bl∨(r6 s k a.bl=r6 s k c.bl∧c.cU<a.cU))))
def MO(s:aD)(k:Nat):w2 (jC s k)where
 asymm x y h:=by
  unfold jC at *;rw[fk]at h;rw[nr];omega
 trans x y z h c8:=by
  unfold jC at *;rw[fk]at *;omega
def alI{s:aD}{k:Nat}{a c:aS}(h:a.cU≠c.cU):w3 (jC s k) a c:=by
 unfold w3 jC;rw[fk,fk];omega
def jD(x y:Int):Int:=if x<y then -1 else if y<x then 1 else 0
def wo(x y:Int):qI x y=some (jD x y):=by
 unfold qI G5 jD;have:∀z:Int,(z !=z)=false:=λz=>by simp
 rw[this,this];simp only[Option.bind_some,cond_false];by_cases h1:x<y
 ·simp[h1]
 by_cases ae:y<x
 ·simp[h1,ae]
 simp[h1,ae]
def ai7(a c d:Int):vW [a,c,d]=some (if a≠0 then a else if c≠0 then c else d):=by
 refine bd.get ?_;unfold vW;refine bd.loop 3 (λi st=>st=(i:Int)∧∀j,j<i->av [a,c,d] j=0) (by omega) ⟨rfl,λj aC=>by omega⟩ (λi st au hs=>?_) (λst hs=>?_)
 ·obtain⟨rfl,hs⟩:=hs;refine .cond (λ_=>?_) (λh=>by simp at h;omega);refine .idx I (by simpa using au) (.cond (λak=>.ret ?_) λak=>.ret ⟨dS (by omega),λj aC=>?_⟩)
  ·simp only[Sum.elim_inr];refine .ret ?_;have bJ:=hs 0;have h1:=hs 1;rcases (show i=0∨i=1∨i=2 by omega)with rfl|rfl|rfl
   ·have:a≠0:=by simpa[av]using ak
    rw[bk this];rfl
   ·have:c≠0:=by simpa[av]using ak
    have T3:a=0:=by simpa[av]using bJ (by omega)
    rw[bf (by simpa using T3),bk this];rfl
   have T3:a=0:=by simpa[av]using bJ (by omega)
   have as2:c=0:=by simpa[av]using h1 (by omega)
   rw[bf (by simpa using T3),bf (by simpa using as2)];rfl
  by_cases lj:j=i
  ·subst lj;simpa using ak
  exact hs j (by omega)
 obtain⟨rfl,hs⟩:=hs;refine⟨_,rfl,?_⟩;simp only[Sum.elim_inl];refine .ret ?_;have bJ:a=0:=by simpa[av]using hs 0 (by omega)
 have h1:c=0:=by simpa[av]using hs 1 (by omega)
 have ae:d=0:=by simpa[av]using hs 2 (by omega)
 simp[bJ,h1,ae]
def Xs{s:aD}(h:cA s){k:Nat}(hk:k<4){a c:aS}(aY:gu s k a.bl)(ak:gu s k c.bl):DD s a c=some (jC s k a c):=by
 unfold DD jC;rw[wo,Option.bind_some,W5 h hk aY,Option.bind_some,W5 h hk ak,Option.bind_some,wo,Option.bind_some,wo,Option.bind_some,ai7,Option.bind_some];congr 1;rw[zu];unfold jD;split <;> split <;> (repeat' split) <;> omega
def aek{xs:aa aS}{f:aS->aA Bool}{g:aS->Bool}(aW:∀x∈xs,f x=some (g x))(ao:xs.length<2^62):
 bd (ze xs f) (λr=>(r= -1∧∀x∈xs,g x=false)∨∃i:Nat,i<xs.length∧r=i∧g (av xs i)=true∧∀j,j<i->g (av xs j)=false):=by
 unfold ze
 refine bd.loop xs.length (λk s=>s=(k:Int)∧∀j,j<k->g (av xs j)=false) (by omega) ⟨rfl,λj aC=>by omega⟩ (λk s hk au=>?_) (λs au=>?_)
 ·obtain⟨ar,aK⟩:=au;subst ar
  refine bd.cond (λ_=>?_) (λh=>by simp at h;omega)
  refine .idx I hk (.eq (aW _ (by rw[dp xs hk];exact gI hk)) (.cond (λh=>.ret ?_) (λh=>.ret ⟨dS (by omega),λj aC=>?_⟩)))
  ·exact .ret (.inr ⟨k,hk,rfl,h,aK⟩)
  by_cases kT:j=k
  ·subst kT;exact h
  exact aK j (by omega)
 obtain⟨ar,aK⟩:=au;subst ar
 refine⟨_,by simp;rfl,?_⟩
 refine .ret (.inl ⟨rfl,λx an=>?_⟩)
 obtain⟨j,aC,rfl⟩:=rn.1 an
 rw[<-dp xs aC];exact aK j aC
structure om(s:aD)(k:Nat)(i:aS):Prop where
 gf:gu s k i.bl
def akF{i:aS}(h1:i.bl.bs.length<=1000)(ae:i.bl.c3.length<=1000):s9 i=some i:=by
 unfold s9 LR xn CR;rw[fN _ _ (by simp;omega) (by omega),fN _ _ (by simp;omega) (by omega)];rfl
def H2{s:aD}(h:cA s){k:Nat}(hk:k<4){i:aS}(au:om s k i):s9 i=some i:=by
 have h1:=au.gf.len;have ae:=au.gf.args;have az:=(h.fK hk).2.1.2;exact akF (by omega) (by omega)
def kh(l:aa aS)(n:Int):Bool:=l.any λc=>c.cU==n
def aaZ(x:eF)(n:Int)(ao:x.dw.length<=1000):bd ((ze x.dw (λa0=>zn a0 n)).bind λal=>some al) (λr=>(r= -1∧kh x.dw n=false)∨∃i:Nat,i<x.dw.length∧r=i∧(av x.dw i).cU=n∧kh x.dw n=true∧∀j,j<i->(av x.dw j).cU≠n):=by
 refine(aek (g:=λc=>c.cU==n) (λc ak=>rfl) (by omega)).bind λr aE=>.ret ?_;rcases aE with⟨h1,ae⟩|⟨i,h1,ae,az,aQ⟩
 ·exact .inl ⟨h1,by unfold kh;rw[xp];exact λc ak=>by simp[ae c ak]⟩
 refine .inr ⟨i,h1,ae,by simpa using az,?_,λj aC=>by simpa using aQ j aC⟩;unfold kh;rw[pc];exact⟨av x.dw i,by rw[dp _ h1];exact gI _,az⟩
def ai8{s:aD}(h:cA s){k:Nat}(hk:k<4){x:eF}(an:x.mQ=s){a c:aS}(aY:om s k a)(ak:om s k c):
 bd (CX x a c) (λr=>r<0↔jC s k a c=true):=by
 unfold CX
 rw[an]
 refine .eq (Xs h hk aY.gf ak.gf) (.cond (λhb=>.ret ⟨λ_=>hb,λ_=>by omega⟩) λhb=>.eq (Xs h hk ak.gf aY.gf) (.cond (λ_=>.ret ?_) λ_=>.ret ?_))
 ·rw[hb];simp
 rw[hb];simp
def alJ{i j:Nat}(h:i+j<2^62):bu ((BitVec.ofInt 64 (bu ((i:Int)+(j:Int)))) >>> (1#64).toNat).toNat=(((i+j)/2:Nat):Int):=by
 rw[show(i:Int)+(j:Int)=((i+j:Nat):Int) by omega,hX (x:=((i+j:Nat):Int)) (by omega) (by omega)];have:((BitVec.ofInt 64 ((i+j:Nat):Int)) >>> (1#64).toNat).toNat=(i+j)/2:=by
  rw[UZ,uN (by omega)];rw[show(1#64).toNat=1 from rfl,UY,Nat.pow_one]
 rw[this,hX (by omega) (by omega)]
def ail{l:aa aS}{x:aS}{b:aS->aS->Bool}(hb:w2 b)(hs:l.Pairwise (λx y=>b x y=true))(ao:l.length<=1000)
 {f:aS->aS->aA Int} (aW:∀a∈l,bd (f a x) (λr=>r<0↔b a x=true)):
 bd (FC l x f) (λr=>r.1=(lJ b l x:Int)):=by
 unfold FC
 have eB:=RS (b:=b) (l:=l) (x:=x)
 have Ew:∀h,h<l.length->av l h∈l:=λh cB=>by rw[dp _ cB];exact gI _
 have nb:∀q:Bool,bd ((b4 (decide (((lJ b l x:Nat):Int)<(l.length:Int))) true (idx l.length ((lJ b l x:Nat):Int))).bind λbD=>
  (b4 (decide (((lJ b l x:Nat):Int)<(l.length:Int))) true (f (av l bD) x)).bind λaF=>some (((lJ b l x:Nat):Int),(decide (((lJ b l x:Nat):Int)<(l.length:Int)))&&(aF==0))) (λr=>r.1=(lJ b l x:Int)):=λ_=>by
  refine .b4 (P:=λc=>c=lJ b l x) (λh=>⟨_,pr (by simpa using h),rfl⟩) λbD ae=>.b4 (P:=λ_=>True) (λh=>?_) λaF _=>.ret I
  rw[ae h]
  exact(aW _ (Ew _ (by simpa using h))).mono λ_ _=>trivial
 refine bd.loop l.length (λr st=> ∃i j:Nat,st=((i:Int),(j:Int))∧i<=lJ b l x∧lJ b l x<=j∧j<=l.length∧j-i<=l.length-r) (by omega) ⟨0,l.length,rfl,by omega,by omega,by omega,by omega⟩ (λr st aE cv=>?_) (λst cv=>?_)
 ·obtain⟨i,j,rfl,h1,ae,az,aQ⟩:=cv
  refine .cond (λak=>?_) λak=>.ret ?_
  ·have gP:i<j:=by simpa using ak
   rw[alJ (by omega)]
   have hm:(i+j)/2<l.length:=by omega
   refine .idx I hm ((aW _ (Ew _ hm)).bind λal bx=>?_)
   have ch:=RT hb (x:=x) hs hm
   refine .bind (P:=λm=> ∃i j:Nat,m=((i:Int),(j:Int))∧i<=lJ b l x∧lJ b l x<=j∧j<=l.length∧j-i<=l.length-(r+1)) (.cond (λhy=>.eq I (.ret ?_)) λhy=>.ret ?_) λm hm=>.ret ?_
   ·have:=ch.1 (bx.1 (by simpa using hy))
    refine⟨(i+j)/2+1,j,?_,by omega,ae,az,by omega⟩
    simp only[dS (show(i+j)/2<2^62 by omega)]
   ·have: ¬(i+j)/2<lJ b l x:=λcB=>by
     have:=bx.2 (ch.2 cB);simp at hy;omega
    exact⟨i,(i+j)/2,rfl,h1,by omega,by omega,by omega⟩
   obtain⟨xj,xl,rfl,a7⟩:=hm
   exact⟨xj,xl,rfl,a7⟩
  have gP: ¬i<j:=by simpa using ak
  have:i=lJ b l x:=by omega
  subst this
  exact nb true
 obtain⟨i,j,rfl,h1,ae,az,aQ⟩:=cv
 have gP:i=lJ b l x:=by omega
 have ak:decide ((i:Int)<(j:Int))=false:=by simp;omega
 simp only[ak,cond_false]
 refine⟨_,rfl,?_⟩
 subst gP
 exact nb true
structure nN(s:aD)(k:Nat)(l:List aS):Prop where
 ok:∀i∈l,om s k i
 num:l.Pairwise λa c=>a.cU≠c.cU
 len:l.length<=900
def nN.T4{s:aD}{k:Nat}{l:aa aS}(h:nN s k l):yw (jC s k) l:=h.num.imp λcB=>alI cB
def nN.iL{s:aD}{k:Nat}{l:aa aS}(h:nN s k l):(∀i∈iL (jC s k) l,om s k i)∧(iL (jC s k) l).length<=900:=
 ⟨λi au=>h.ok i (x6.1 au),by rw[alH];exact h.len⟩
def Mu{s:aD}{k:Nat}{l:aa aS}{n:Int}:kh (iL (jC s k) l) n=kh l n:=by
 unfold kh;rw[oG,pc,pc];exact⟨λ⟨c,h1,ae⟩=>⟨c,x6.1 h1,ae⟩,λ⟨c,h1,ae⟩=>⟨c,x6.2 h1,ae⟩⟩
def YR{l:aa aS}{n:Int}(h:kh l n=false):∀c∈l,c.cU≠n:=λc ak=>by
 unfold kh at h;rw[xp]at h;simpa using h c ak
def nN.snoc{s:aD}{k:Nat}{l:aa aS}(h:nN s k l){i:aS}(au:om s k i)(aM:kh l i.cU=false)(ao:l.length<900):nN s k (l++[i])where
 ok c ak:=by
  rcases cz.1 ak with ak|ak
  ·exact h.ok c ak
  rw[hi.1 ak];exact au
 num:=by
  rw[KN];exact⟨h.num,by simp,λa aY c ak=>by rw[hi.1 ak];exact YR aM a aY⟩
 len:=by simp;omega
def wC(s:aD)(k:Nat)(l:aa aS):eF:= {mQ:=s,dw:=iL (jC s k) l}
def alK{s:aD}(h:cA s){k:Nat}(hk:k<4){l:aa aS}(ao:nN s k l){i:aS}(au:om s k i)(hlen:l.length<900):
 Ga (wC s k l) i=some (!kh l i.cU,if kh l i.cU=true then wC s k l else wC s k (l++[i])):=by
 refine bd.get ?_
 unfold Ga
 obtain⟨ke,fz⟩:=ao.iL
 refine .b4 (λ_=>aaZ (wC s k l) _ (by show(iL _ l).length<=1000;omega)) λal h1=>?_
 have h1:=h1 I
 rw[vN]
 rcases h1 with⟨rfl,ae⟩|⟨j,ae,rfl,az,aQ,a7⟩
 ·have mB:kh l i.cU=false:=by rw[<-ae];exact Mu.symm
  refine .cond (λak=>by simp at ak) λ_=>?_
  refine(ail (b:=jC s k) (MO s k) (QA (MO s k) ao.T4) (by omega) λa aY=>ai8 h hk I (ke a aY) au).bind λaF cg=>.eq (H2 h hk au) ?_
  rw[cg]
  unfold KE
  have eB:=RS (b:=jC s k) (l:=iL (jC s k) l) (x:=i)
  refine .eq (a:=iL (jC s k) (l++[i])) ?_ (.ret ?_)
  ·show IY 88 (iL (jC s k) l) _ _=_
   unfold IY
   have pI:maxLen=9223372036854775807:=rfl
   rw[bk ⟨by omega,by omega,by simp,by simp <;> omega,by simp <;> omega⟩,Mt,Zq]
   simp
  rw[mB];rfl
 have E7:kh l i.cU=true:=by rw[<-aQ];exact Mu.symm
 refine .cond (λ_=>.ret ?_) λak=>by simp at ak <;> omega
 rw[E7];rfl
def ahw{s:aD}(h:cA s){k:Nat}(hk:k<4){l:aa aS}(ao:∀i∈l,om s k i)(aM:l.length<=1000):DF l=some l:=by
 refine bd.get ?_;unfold DF;refine bd.loop l.length (λi st=>st=((i:Int),l.take i)) (by omega) I (λi st au hs=>?_) (λst hs=>?_)
 ·subst hs;refine .cond (λ_=>?_) (λak=>by simp at ak;omega);refine .idx I au (.eq (H2 h hk (ao _ (by rw[dp _ au];exact gI _))) (.eq (fN _ _ (by simp;omega) (by omega)) (.ret ?_)));rw[dS (by omega),xB l au]
 subst hs;refine⟨_,by simp;rfl,.ret ?_⟩;simp
def alL{s:aD}(h:cA s){k:Nat}(hk:k<4){l:aa aS}(ao:nN s k l):F9 (wC s k l)=some (iL (jC s k) l):=by
 unfold F9;obtain⟨ke,fz⟩:=ao.iL;show Option.bind (DF (iL (jC s k) l)) _=_;rw[ahw h hk ke (by omega)];rfl
def L9(v:aV):vT v v=some 0:=by
 obtain⟨r,h1,ae,az⟩:=ag2 v v;rw[W2]at ae az;have:r=0:=by
  have bZ: ¬r>0:=λh=>by simpa using ae.1 h
  have a2: ¬r<0:=λh=>by simpa using az.1 h
  omega
 rw[h1,this]
def ag3(m:bN):Hn m m=some 0:=by
 unfold Hn;rw[L9,L9,L9];simp
def HF(n:Int):uD n n=some 0:=by
 unfold uD;simp
def agp(l:aa bN)(ao:l.length<=1000):Hb l l=some 0:=by
 refine bd.get ?_;unfold Hb;refine bd.loop l.length (λi st=>st=(i:Int)) (by omega) I (λi st au hs=>?_) (λst hs=>?_)
 ·subst hs;refine .cond (λ_=>?_) (λak=>by simp at ak;omega);exact .idx I au (.idx I au (.eq (ag3 _) (.cond (λak=>by simp at ak) λ_=>.ret (dS (by omega)))))
 subst hs;refine⟨_,by simp;rfl,?_⟩;simp only[Sum.elim_inl];exact .eq (HF _) (.ret I)
def agy(l:aa aV)(ao:l.length<=1000):Hj l l=some 0:=by
 refine bd.get ?_;unfold Hj;refine bd.loop l.length (λi st=>st=(i:Int)) (by omega) I (λi st au hs=>?_) (λst hs=>?_)
 ·subst hs;refine .cond (λ_=>?_) (λak=>by simp at ak;omega);exact .idx I au (.idx I au (.eq (L9 _) (.cond (λak=>by simp at ak) λ_=>.ret (dS (by omega)))))
 subst hs;refine⟨_,by simp;rfl,?_⟩;simp only[Sum.elim_inl];exact .eq (HF _) (.ret I)
def Xt{e:aO}(h1:e.bs.length<=1000)(ae:e.c3.length<=1000):Hc e e=some 0:=by
 unfold Hc;rw[HF,Option.bind_some,HF,Option.bind_some,agp _ h1,Option.bind_some,HF,Option.bind_some];refine bd.get ?_;refine bd.loop 4 (λi st=>st=(i:Int)) (by omega) I (λi st au hs=>?_) (λst hs=>?_)
 ·subst hs;refine .cond (λ_=>?_) (λak=>by simp at ak;omega);have bJ:av [(0:Int),0,0,0] i=0:=by
   rcases (show i=0∨i=1∨i=2∨i=3 by omega)with rfl|rfl|rfl|rfl <;> rfl
  refine .idx I (by simpa using au) (.cond (λak=>by rw[bJ]at ak;simp at ak) λ_=>.ret (dS (by omega)))
 subst hs;refine⟨_,rfl,?_⟩;simp only[Sum.elim_inl];exact .eq (agy _ ae) (.ret I)
def om.small{s:aD}(h:cA s){k:Nat}(hk:k<4){i:aS}(au:om s k i):i.bl.bs.length<=1000∧i.bl.c3.length<=1000:=by
 have h1:=au.gf.len;have ae:=au.gf.args;have az:=(h.fK hk).2.1.2;exact⟨by omega,by omega⟩
def Cq(o:aA aS):aS×Bool:=match o with |some c=>(c,true)|none=>(default,false)
def ai9(c:ea):bd (Gn c) (λ_=>True):=by
 unfold Gn;first|exact .ret cZ|exact .eq I (.ret cZ)
structure kA(hp:aL Cell)(t:Nat)(g:List Bool->Option Int):Prop where
 ok:∃c,ga hp t=some c∧c.hG=32∧rH hp c.e7∧∀bb,cont hp c.e7 bb=g bb
def Own(hp:aL Cell)(t q:Nat):Prop:=q=t∨∃c bb,ga hp t=some c∧dc hp c.e7 bb=some q
def eN(v:aV)(n:Nat):aa Bool:=(List.range n).map λi=>cT v (31-i)
def L4(v:aV)(n:Nat):eN v (n+1)=eN v n++[cT v (31-n)]:=by simp[eN,CZ]
def W6(v:aV):eN v 0=[]:=rfl
def Xu{hp:aL Cell}{t:Nat}{c:hj}(ak:ga hp t=some c)(hb:c.hG=32){n:Nat}(aM:n<=32){v:aV}(ba:∀j,j<128->cT v j=true->lead 32 n j=true):
 De hp (some t) v n=some true:=by
 refine bd.get ?_
 unfold De
 have ar:(Option.isSome (some t)&&decide ((n:Int)>=0))=true:=by simp
 have aK:decide ((n:Int)<=c.hG)=true:=by rw[hb];simp;omega
 refine .b4 (P:=λr=>r=t) (λ_=>⟨t,rfl,rfl⟩) λbO h1=>?_
 rw[h1 ar]
 refine .b4 (P:=λr=>r=c) (λ_=>⟨c,ak,rfl⟩) λc1 ae=>?_
 rw[ae ar]
 rw[ar,aK]
 refine .b4 (P:=λr=>r=t) (λ_=>⟨t,rfl,rfl⟩) λcL az=>?_
 rw[az I]
 refine .b4 (P:=λr=>r=c) (λ_=>⟨c,ak,rfl⟩) λc2 aQ=>?_
 rw[aQ I,hb]
 refine .b4 (λ_=>W1 32 n (by decide) (by decide)) λal a7=>?_
 refine .b4 (P:=λr=>r=I5 v al) (λ_=>⟨_,and_eq v al,rfl⟩) λaF bp=>?_
 refine .eq I (.ret ?_)
 have:aF=v:=by
  rw[bp I];refine RQ λj aC=>?_;rw[YM,a7 I j aC];cases e:cT v j with
  |false=>rfl
  |true=>rw[ba j aC e];rfl
 rw[this];simp
def Zt{v:aV}{i:Nat}(au:i<32):bd (zV v (bu ((bu ((32:Int)-1))-(i:Int)))) (λr=>r=cT v (31-i)):=by
 have e:bu ((bu ((32:Int)-1))-(i:Int))=((31-i:Nat):Int):=by
  rw[show bu ((32:Int)-1)=31 from by rw[hX (by decide) (by decide)];rfl,hX (by omega) (by omega)];omega
 rw[e];refine(alE v _).mono λr aE=>?_;rw[aE];have:decide (0<=((31-i:Nat):Int)∧((31-i:Nat):Int)<128)=true:=by rw[fk];omega
 rw[this,vO];rfl
def Zu(b:Bool):(cond b (some (1:Int)) (some 0))=some ((fE b:Nat):Int):=by cases b <;> rfl
def aa0{σ ε:Type}{hp:aL Cell}{t:Nat}{c:hj}(ak:ga hp t=some c)(hb:c.hG=32)(v:aV){n:Nat}(aM:n<=32){step:Int->σ->aA (σ⊕ε)}{s0:σ}{P:σ⊕ε->Prop}(fC:Nat->σ->Prop)(bJ:fC 0 s0)
 (hs:∀i s,i<n->fC i s->bd (step ((fE (cT v (31-i)):Nat):Int) s) (λr=>match r with | .inl cH=>fC (i+1) cH| .inr e=>P (.inr e))) (he:∀s,fC n s->P (.inl s)):bd (vK hp n v (some t) step s0) P:=by
 unfold vK
 refine bd.loop n (λi s=>s.1=(i:Int)∧fC i s.2) (by omega) ⟨rfl,bJ⟩ (λi s au jX=>?_) (λs jX=>?_)
 ·obtain⟨j,s⟩:=s;obtain⟨ar,aK⟩:=jX
  simp only at ar aK;subst ar
  refine bd.cond (λ_=>?_) (λh=>by simp at h;omega)
  refine .eq I (.eq ak ?_)
  rw[hb]
  refine(Zt (by omega)).bind λal h1=>.eq (Zu al) ?_
  rw[h1]
  refine(hs i s au aK).bind λr aE=>?_
  cases r with
  |inl cH=>exact .ret ⟨dS (by omega),aE⟩
  |inr e=>exact .ret (.ret aE)
 obtain⟨j,s⟩:=s;obtain⟨ar,aK⟩:=jX
 simp only at ar aK;subst ar
 refine⟨_,by simp;rfl,?_⟩
 exact .ret (he s aK)
def ao0{σ ε:Type}{t:Nat}(v:aV){n:Nat}(aM:n<=32){hq:σ->aL Cell}{step:Int->σ->ah (σ⊕ε)}{s0:σ}{P:σ⊕ε->Prop}(fC:Nat->σ->Prop)(bJ:fC 0 s0)(pN:∀i s,fC i s->∃c,ga (hq s) t=some c∧c.hG=32)
 (hs:∀i s,i<n->fC i s->cM (step ((fE (cT v (31-i)):Nat):Int) s) (λr=>match r with | .inl cH=>fC (i+1) cH| .inr e=>P (.inr e))) (he:∀s,fC n s->P (.inl s)):cM (zx n v (some t) hq step s0) P:=by
 unfold zx
 refine .bind (P:=λe=>match e with | .inl e=>P (.inl e.2.2)| .inr e=>P (.inr e.2.2.2.2.2.2)) (cM.loop n (λi s=>s.1=(i:Int)∧fC i s.2) (by omega) ⟨rfl,bJ⟩ (λi s au jX=>?_) (λs jX=>?_)) λe h=>?_
 ·obtain⟨j,s⟩:=s;obtain⟨ar,aK⟩:=jX
  simp only at ar aK;subst ar
  refine cM.cond (λ_=>?_) (λh=>by simp at h;omega)
  obtain⟨c,ak,hb⟩:=pN i s aK
  refine .eq I (.eq ak ?_)
  rw[hb]
  refine .kk (Zt (by omega)) λal h1=>.eq (Zu al) ?_
  rw[h1]
  refine .bind (hs i s au aK) λr aE=>?_
  cases r with
  |inl cH=>exact .ret ⟨dS (by omega),aE⟩
  |inr e=>exact .ret aE
 ·obtain⟨j,s⟩:=s;obtain⟨ar,aK⟩:=jX
  simp only at ar aK;subst ar
  refine cM.cond (λh=>by simp at h) λ_=>.ret (he s aK)
 cases e with
 |inl e=>exact .ret h
 |inr e=>exact .ret h
def X8{hp:aL Cell}{t:Nat}{c:hj}(ak:ga hp t=some c)(hb:c.hG=32)(bE:rH hp c.e7){n:Nat}(aM:n<=32){v:aV}(ba:∀j,j<128->cT v j=true->lead 32 n j=true):
 Dq hp (some t) v n=some (dc hp c.e7 (eN v n)):=by
 refine bd.get ?_
 unfold Dq
 refine .eq (Xu ak hb aM ba) (.cond (λh=>by cases h) λ_=>.eq rfl (.eq ak (.eq rfl ?_)))
 show bd (Option.bind (vK hp (n:Int) v (some t) _ _) _) _
 refine bd.bind (P:=λe:Ref⊕(Ref×Ref)=>e.elim (λs=>s=dc hp c.e7 (eN v n)) (λq=>q.2=dc hp c.e7 (eN v n))) (aa0 ak hb v aM (λi s=>s=dc hp c.e7 (eN v i)) qO.symm (λi s au hs=>?_) (λs hs=>hs)) λe he=>?_
 ·refine .cond (λh=>.ret ?_) λh=>?_
  ·rw[OT]at h
   have ar:eN v n=eN v i++(eN v n).drop i:=by
    have:eN v i=(eN v n).take i:=by unfold eN;rw[<-List.map_take,List.take_range];congr 2;omega
    rw[this,gp]
   show(none:Ref)=_
   rw[ar,ps,<-hs,h,hn]
  cases s with
  |none=>simp at h
  | some p=>
    obtain⟨c1,h1⟩:=bE.reads _ _ hs.symm
    refine .eq I (.idx I (by cases cT v (31-i) <;> decide) (.eq h1 (.ret ?_)))
    show ck c1.dL _=_
    rw[L4,ps,<-hs,iP h1,qO]
 cases e with
 |inl s=>exact .ret he
 |inr q=>exact .ret he
def Zv{hp:aL Cell}{t:Nat}{g:aa Bool->aA Int}(h:kA hp t g){n:Nat}(aM:n<=32){v:aV}(ba:∀j,j<128->cT v j=true->lead 32 n j=true):
 zK hp (some t) v n=some (match g (eN v n)with |none=>(0,false)|some id=>(id,true)):=by
 obtain⟨c,ak,hb,bE,bH⟩:=h.ok
 refine bd.get ?_
 unfold zK
 refine .eq (X8 ak hb bE aM ba) ?_
 rw[<-bH]
 cases e:dc hp c.e7 (eN v n)with
 | none=>
   rw[mT e]
   refine .b4 (P:=λ_=>True) (λh=>by cases h) λo _=>.b4 (P:=λ_=>True) (λh=>by cases h) λo _=>.cond (λ_=>.ret rfl) λh=>by cases h
 | some p=>
   obtain⟨d,hd⟩:=bE.reads _ _ e
   rw[l1 e hd]
   refine .b4 (P:=λr=>r=p) (λ_=>⟨p,rfl,rfl⟩) λo h1=>?_
   rw[h1 I]
   refine .b4 (P:=λr=>r=d) (λ_=>⟨d,hd,rfl⟩) λc1 ae=>?_
   rw[ae I]
   refine .cond (λh=>?_) λh=>?_
   ·have:d.gr=false:=by simpa using h
    rw[this];exact .ret I
   have:d.gr=true:=by simpa using h
   rw[this];exact .eq I (.eq hd (.ret I))
structure NR(iU hp:aL Cell)(t:Nat)(g:List Bool->Option Int)(r:Nat):Prop where
 cell:∃c,ga hp t=some c∧c.hG=32∧c.e7=some r
 tree:rH hp (some r)
 cont:∀bb,cont hp (some r) bb=g bb
 keeps:er iU hp (Own iU t)
 own:∀bb q,dc hp (some r) bb=some q->Own iU t q∨q∉da iU
def HG{hp:aL Cell}{a t:Nat}{k:Cell}(aY:a∉da hp)(h:pat hp t=some k):a≠t:=λe=>aY (e▸js h)
def X9{hp:aL Cell}{a:Nat}{x:eT}:cX ((a,.gW x)::hp) a=some x:=by rw[sj,kV,bk I]
def ahx{hp:aL Cell}{a:Nat}(aY:a∉da hp):cX hp a=none:=by unfold cX;rw[ai4 aY]
def DS{hp:aL Cell}{p:Nat}{k:Cell}{x:eT}(h:pat hp p=some k):cX (cF hp p (.gW x)) p=some x:=by rw[sj,sr h]
def xI{hp:aL Cell}{p q:Nat}{k:Cell}(h:p≠q):cX (cF hp p k) q=cX hp q:=zX (mP h)
def WI{hp:aL Cell}{a q:Nat}{k:Cell}(h:a≠q):cX ((a,k)::hp) q=cX hp q:=zX (by rw[kV,bf h])
def Ya{hp:aL Cell}{p:Nat}{k:Cell}{x:hj}(h:pat hp p=some k):ga (cF hp p (.lb x)) p=some x:=by rw[vZ,sr h]
def LU{hp:aL Cell}{p q:Nat}{k:Cell}(h:p≠q):ga (cF hp p k) q=ga hp q:=LS (mP h)
def WJ{hp:aL Cell}{a q:Nat}{k:Cell}(h:a≠q):ga ((a,k)::hp) q=ga hp q:=LS (by rw[kV,bf h])
def Np{hp:aL Cell}{p t:Nat}{x:eT}{c:hj}(h1:cX hp p=some x)(ae:ga hp t=some c):p≠t:=λe=>by
 subst e;rw[sj]at h1;rw[vZ,h1]at ae;cases ae
def alM{hp:aL Cell}{t:Nat}{g:aa Bool->aA Int}{c:hj}(ak:ga hp t=some c)(hb:c.hG=32)(bE:rH hp c.e7)(bH:∀bb,cont hp c.e7 bb=g bb):
 cM (cond c.e7.isNone (
     ah.bind (ah.mk hp (Cell.gW (default:eT))) λa2=>
     ah.bind (ah.of (ga a2.2 t)) λy3=>
     ah.bind (ah.of (some (cF a2.2 t (Cell.lb ({y3 with e7:=(some a2.1:Ref)}:hj))))) λsJ=>
     ah.ret sJ) (ah.ret hp)) (λbT=> ∃r,NR hp bT t g r):=by
 have hR:=vZ.1 ak
 refine .cond (λh=>.mk λa aY=>?_) λh=>?_
 ·have aE:c.e7=none:=by rw[OT]at h;exact h
  have ac6:=HG aY hR
  have EP:ga ((a,Cell.gW default)::hp) t=some c:=by rw[WJ ac6];exact ak
  refine .eq EP (.eq I (.ret ⟨a,?_⟩))
  have aM:cX (cF ((a,Cell.gW default)::hp) t (.lb {c with e7:=some a})) a=some default:=by
   rw[xI ac6.symm,X9]
  have aW:=Xp aM
  refine⟨⟨_,Ya (vZ.1 EP),hb,rfl⟩,⟨λbb p h1=>?_,λbb cs p h1 ae=>?_,λbb p h1=>?_⟩,λbb=>?_,?_,λbb q h1=>?_⟩
  ·rw[aW]at h1
   split at h1
   ·cases h1;exact⟨_,aM⟩
   cases h1
  ·rw[aW]at h1 ae
   split at h1 <;> split at ae
   ·rename_i ar aK;rw[ar,aK]
   ·cases ae
   ·cases h1
   cases h1
  ·rw[aW]at h1
   split at h1
   ·rename_i e;rw[e];exact vS _
   cases h1
  ·rw[<-bH,aE,mT hn]
   by_cases e:bb=[]
   ·rw[l1 (by rw[aW,bk e]) aM];rfl
   rw[mT (by rw[aW,bf e])]
  ·exact(er.mk' aY).trans (own':=λq=>q=t) (er.up (own:=λq=>q=t) I) λq _ h1=>.inl h1
  rw[aW]at h1
  split at h1
  ·cases h1;exact .inr aY
  cases h1
 cases aE:c.e7 with
 |none=>rw[aE]at h;cases h
 | some r=>
   rw[aE]at bE bH
   exact .ret ⟨r,⟨c,ak,hb,aE⟩,bE,bH,.refl,λbb q h1=>.inl (.inr ⟨c,bb,ak,by rw[aE];exact h1⟩)⟩
def ao1{hp:aL Cell}{t:Nat}{g:aa Bool->aA Int}(h:kA hp t g){n:Nat}(aM:n<=32){v:aV}(ba:∀j,j<128->cT v j=true->lead 32 n j=true)(id:Int)(fb:g (eN v n)=none):
 cM (Dw hp (some t) v n id) (λr=>r.1=true∧kA r.2 t (λbb=>if bb=eN v n then some id else g bb)∧er hp r.2 (Own hp t)∧∀q,Own r.2 t q->Own hp t q∨q∉da hp):=by
 obtain⟨c,ak,hb,bE,bH⟩:=h.ok
 unfold Dw
 refine .eq (Xu ak hb aM ba) (.cond (λh=>by cases h) λ_=>.eq (X8 ak hb bE aM ba) ?_)
 refine .b4 (P:=λo=>dc hp c.e7 (eN v n)=some o) (λh1=>?_) λbO h1=>?_
 ·cases e:dc hp c.e7 (eN v n)with
  |none=>rw[e]at h1;cases h1
  |some p=>exact⟨p,rfl,rfl⟩
 refine .b4 (P:=λd=>cX hp bO=some d) (λae=>?_) λc1 ae=>?_
 ·obtain⟨d,hd⟩:=bE.reads _ _ (h1 ae)
  exact⟨d,hd,hd⟩
 refine .cond (λaz=>?_) λ_=>?_
 ·simp only[gq]at az
  rw[<-bH,l1 (h1 az.1) (ae az.1),az.2]at fb
  cases fb
 refine .eq I (.eq ak (.bind (alM ak hb bE bH) λm1 cc=>?_))
 obtain⟨r,cc⟩:=cc
 obtain⟨ej,kW,auY,TL⟩:=cc.cell
 refine .eq kW (.eq I ?_)
 show cM (ah.bind (zx (n:Int) v (some t) _ _ _) _) _
 refine .bind (P:=λe:(Ref×aL Cell)⊕Empty=> ∃p cQ,e=.inl (some p,cQ)∧dc cQ (some r) (eN v n)=some p∧NR hp cQ t g r) (ao0 v aM (λi s=> ∃p,s.1=some p∧dc s.2 (some r) (eN v i)=some p∧NR hp s.2 t g r) ⟨r,TL,qO,cc⟩ (λi s au=>?_) (λi s au hs=>?_) (λs hs=>?_)) λe he=>?_
 ·obtain⟨p,_,_,hm⟩:=au
  obtain⟨d,aQ,a7,_⟩:=hm.cell
  exact⟨d,aQ,a7⟩
 ·obtain⟨as3,cQ⟩:=s
  obtain⟨p,ar,aK,hm⟩:=hs
  simp only at ar aK hm
  subst ar
  obtain⟨d,hd⟩:=hm.tree.reads _ _ aK
  have ch:fE (cT v (31-i))<2:=by cases cT v (31-i) <;> decide
  refine .eq I (.idx I ch (.eq hd ?_))
  refine .bind (P:=λhz=> ∃q nS,cX hz p=some nS∧ck nS.dL (fE (cT v (31-i)))=some q∧dc hz (some r) (eN v i)=some p∧NR hp hz t g r) (.cond (λbp=>.mk λa aY=>?_) λbp=>.ret ?_) λhz cO=>?_
  ·have tW:ck d.dL (fE (cT v (31-i)))=none:=by rw[OT]at bp;exact bp
   have ac7:=HG aY (sj.1 hd)
   have ic:cX ((a,Cell.gW default)::cQ) p=some d:=by rw[WI ac7];exact hd
   refine .idx I ch (.eq ic (.eq I (.ret ?_)))
   have eB:cX (cF ((a,Cell.gW default)::cQ) p (.gW {d with dL:=eh d.dL (fE (cT v (31-i))) (some a)})) a=some default:=by
    rw[xI ac7.symm,X9]
   have cJ:cX (cF ((a,Cell.gW default)::cQ) p (.gW {d with dL:=eh d.dL (fE (cT v (31-i))) (some a)})) p=some {d with dL:=eh d.dL (fE (cT v (31-i))) (some a)}:=DS (sj.1 ic)
   obtain⟨g1,g2,g3⟩:=grow (by unfold eN;simp;omega) hm.tree aK hd tW (ahx aY) cJ eB λq jY q3=>by rw[xI jY.symm,WI q3.symm]
   have BW:Own hp t p∨p∉da hp:=hm.own _ _ aK
   refine⟨a,_,cJ,by rw[jG _ _ ch,bk I],by rw[g2,bf (λe=>by have:=ev List.length e;simp at this)];exact aK,?_,g1,λbb=>by rw[g3,hm.cont],?_,λbb q hq=>?_⟩
   ·obtain⟨d4,aQ,a7,dJ⟩:=hm.cell
    have hR:=Np hd aQ
    exact⟨d4,by rw[LU hR,WJ (HG aY (vZ.1 aQ))];exact aQ,a7,dJ⟩
   ·refine hm.keeps.trans (own':=λq=>q=p) ((er.mk' aY).trans (own':=λq=>q=p) (er.up (own:=λq=>q=p) I) λq _ e5=>e5) λq hq e5=>?_
    subst e5
    exact BW.resolve_right λmA=>mA hq
   rw[g2]at hq
   split at hq
   ·cases hq;exact .inr λe5=>aY (hm.keeps.keys _ e5)
   exact hm.own _ _ hq
  ·cases tW:ck d.dL (fE (cT v (31-i)))with
   |none=>rw[tW]at bp;cases bp
   |some q=>exact⟨q,d,hd,tW,aK,hm⟩
  obtain⟨q,nS,dJ,e5,mA,sR⟩:=cO
  refine .idx I ch (.eq dJ (.ret ⟨q,e5,?_,sR⟩))
  show dc hz (some r) (eN v (i+1))=some q
  rw[L4,ps,mA,iP dJ,e5,qO]
 ·obtain⟨as3,cQ⟩:=s
  obtain⟨p,ar,aK,hm⟩:=hs
  simp only at ar aK hm
  subst ar
  exact⟨p,cQ,rfl,aK,hm⟩
 obtain⟨p,cQ,rfl,aK,hm⟩:=he
 obtain⟨d,hd⟩:=hm.tree.reads _ _ aK
 have T5:=sj.1 hd
 refine .eq I (.eq hd (.eq I (.eq I ?_)))
 have ic:cX (cF cQ p (.gW {d with gr:=true})) p=some {d with gr:=true}:=DS T5
 refine .eq ic (.eq I (.ret ?_))
 have B0:cX (cF (cF cQ p (.gW {d with gr:=true})) p (.gW {d with gr:=true,kH:=id})) p=some {d with gr:=true,kH:=id}:=DS (sj.1 ic)
 obtain⟨s1,s2⟩:=ab4 hm.tree aK hd B0 I λq hq=>by rw[xI hq.symm,xI hq.symm]
 obtain⟨d4,aQ,a7,dJ⟩:=hm.cell
 have hR:=Np hd aQ
 have E7:ga (cF (cF cQ p (.gW {d with gr:=true})) p (.gW {d with gr:=true,kH:=id})) t=some d4:=by rw[LU hR,LU hR];exact aQ
 have BW:Own hp t p∨p∉da hp:=hm.own _ _ aK
 refine⟨rfl,⟨d4,E7,a7,by rw[dJ];exact s1,λbb=>?_⟩,?_,λq hq=>?_⟩
 ·rw[dJ,s2,hm.cont];rfl
 ·refine hm.keeps.trans (own':=λq=>q=p) ((er.up (own:=λq=>q=p) I).trans (own':=λq=>q=p) (er.up (own:=λq=>q=p) I) λq _ e5=>e5) λq hq e5=>?_
  subst e5
  exact BW.resolve_right λmA=>mA hq
 rcases hq with rfl|⟨jP,bb,h1,ae⟩
 ·exact .inl (.inl I)
 rw[E7]at h1;cases h1
 rw[dJ,HP hd B0 I (λq hq=>by rw[xI hq.symm,xI hq.symm])]at ae
 exact hm.own _ _ ae
def enc:aA (Nat×Int)->Int×Int×Bool
 |none=>(0,0,false)
 |some (n,id)=>((n:Int),id,true)
def cA.Ot{s:aD}(h:cA s):∃dD eg hV,∀k,k<4->nE (av s.bh k)=av (wK dD eg hV) k:=by
 obtain⟨dD,eg,hV,e⟩:=h.tables;refine⟨dD,eg,hV,λk hk=>?_⟩;rw[<-e,td nE (by rw[h.lC];exact hk)]
def z6(t:bw){r:Int×Int}(ks:aa dz)(hk:t.bY=ks)(h:Dy {(default:bw)with bY:=ks} =some r):Dy t=some r:=by
 subst hk;exact h
def rl(k:Nat):Int:=av [1,2,3,3] k
def aim{s:aD}(h:cA s){k:Nat}(hk:k<4):bd (Dy (av s.bh k)) (λr=>r.1=rl k∧(k=1->r.2=0)):=by
 obtain⟨dD,eg,hV,e⟩:=h.Ot;have e:=e k hk;have fP:(av s.bh k).bY=(av (wK dD eg hV) k).2.2:=ev (·.2.2) e;have:k=0∨k=1∨k=2∨k=3:=by omega
 rcases this with rfl|rfl|rfl|rfl
 ·exact⟨_,z6 _ [sX] fP I,rfl,λh=>by simp at h⟩
 ·cases dD
  ·exact⟨_,z6 _ [CH] fP I,rfl,λ_=>rfl⟩
  exact⟨_,z6 _ [CH,UH] fP I,rfl,λ_=>rfl⟩
 ·cases eg
  ·exact⟨_,z6 _ [Kr,J4] fP I,rfl,λh=>by simp at h⟩
  exact⟨_,z6 _ [Kr,J4,UI] fP I,rfl,λh=>by simp at h⟩
 cases hV
 ·exact⟨_,z6 _ [Ks] fP I,rfl,λh=>by simp at h⟩
 exact⟨_,z6 _ [Ks,UJ,CH] fP I,rfl,λh=>by simp at h⟩
structure ED(s:aD)(k:Nat)(iU hp:aL Cell)(p:Nat):Prop where
 cell:∃c m,jb hp p=some c∧c.wj=rl k∧c.wk=((av s.bh k).bY.length:Int)∧c.pj=⟨some m⟩∧mu hp m=some []∧
  (k=0->∃q m2,c.nx=.qf ⟨some q⟩∧n5 hp q=some ⟨⟨some m2⟩⟩∧nC hp m2=some []∧q∉da iU∧m2∉da iU)∧
  (k=1->∃m3,c.nx=.qg ⟨0,32,⟨some m3⟩⟩∧lA hp m3=some []∧m3∉da iU)∧
  (2<=k->∃q key cap,c.nx=.qh ⟨some q⟩∧rI hp q=some (({mQ:=s,dw:=[]}:eF),key,cap)∧q∉da iU)∧
  p∉da iU∧m∉da iU∧(∀q,q∈da iU->q∈da hp)∧∀q,q∈da iU->pat hp q=pat iU q
def ao2{s:aD}(h:cA s){k:Nat}(hk:k<4)(hp:aL Cell):cM (DH hp s ((k:Int)+1)) (λr=> ∃p,r.1=some p∧ED s k hp r.2 p):=by
 unfold DH;refine .kk (DK h hk) λal ar=>?_;subst ar;refine .cond (λak=>by simp at ak;omega) λ_=>?_;refine .idx I (by rw[h.lC];exact hk) (.kk (aim h hk) λaF ae=>.mk λm hm=>.eq I (.mk λp bT=>?_));obtain⟨Ku,key⟩:=aF;obtain⟨ae,az⟩:=ae;simp only at ae az bT;subst ae;have lk:p≠m:=λe=>by subst e;simp[da]at bT
 have:k=0∨k=1∨2<=k:=by omega
 rcases this with rfl|rfl|dh
 ·have e:(rl 0==1)=true:=rfl;simp only[e,cond_true];unfold LP;refine .bind (P:=λcQ=>ED s 0 hp cQ p) (.bind (P:=λr=> ∃q m2,r=((some q:Ref),(q,Cell.Er ⟨⟨some m2⟩⟩)::(m2,Cell.qS [])::(p,_)::(m,Cell.l6 [])::hp)∧m2∉da ((p,_)::(m,Cell.l6 [])::hp)∧q∉da ((m2,Cell.qS [])::(p,_)::(m,Cell.l6 [])::hp)) (.mk λm2 dG=>.mk λq hq=>.ret ⟨q,m2,rfl,dG,hq⟩) λbm aQ=>?_) λcQ a7=>.ret ⟨p,rfl,a7⟩;obtain⟨q,m2,rfl,dG,hq⟩:=aQ;simp only[da,oH,dW,xG]at dG hq bT;refine .eq (by simp[jb,pat,hq.1,hq.2,dG.1,hq.2.2.1,zQ];rfl) (.eq I (.ret ?_));refine⟨{wj:=rl 0,wk:=((av s.bh 0).bY.length:Int),nx:=.qf ⟨some q⟩,pj:=⟨some m⟩},m,?_,rfl,rfl,rfl,?_,?_,λak=>by simp at ak,λak=>by simp at ak,bT.2,hm,λx an=>by rw[qN];exact fM _ (fM _ (fM _ (fM _ an))),λx an=>?_⟩
  ·simp[jb,pat,cF,hq.1,hq.2,dG.1,hq.2.2.1]
  ·simp[mu,pat,cF,hq.1,hq.2,dG.1,hq.2.2.1,dG.2.1,bT.1]
  ·intro _;refine⟨q,m2,rfl,?_,?_,hq.2.2.2,dG.2.2⟩
   ·simp[n5,pat,cF,hq.1,hq.2,dG.1,hq.2.2.1,dG.2.1,bT.1]
   simp[nC,pat,cF,hq.1,hq.2,dG.1,hq.2.2.1,dG.2.1,bT.1]
  have gG:q≠x:=λe=>hq.2.2.2 (by rw[e];exact an);have h6:m2≠x:=λe=>dG.2.2 (by rw[e];exact an);have sY:p≠x:=λe=>bT.2 (by rw[e];exact an);have r7:m≠x:=λe=>hm (by rw[e];exact an);simp[HS,pat,gG,h6,sY,r7]
 ·have e:(rl 1==1)=false:=rfl;have aK:(rl 1==2)=true:=rfl;simp only[e,aK,cond_true,cond_false];have az:=az I;subst az;obtain⟨t1,⟨t2,t3⟩,t4,_⟩:=h.fK hk;have aW:(av (av s.bh 1).bY 0).ih=((6:Nat):Int)+1:=by
   obtain⟨dD,eg,hV,e⟩:=h.Ot;have e:=ev (·.2.2) (e 1 hk);show(av (nE (av s.bh 1)).2.2 0).ih=_;rw[e];cases dD <;> rfl
  refine .bind (P:=λcQ=>ED s 1 hp cQ p) (.bind (P:=λcQ=>ED s 1 hp cQ p) ?_ λ_ bp=>.ret bp) λcQ a7=>.ret ⟨p,rfl,a7⟩;refine .idx (k:=0) I (by omega) ?_;simp only[aW];refine .kk (Qd h (show 6<9 by decide)) λbG e4=>?_;subst e4;refine .kk (P:=λr=>r=32) (.cond (λ_=>.idx I (by rw[h.wL];decide) (.ret (h.Cp (show 6<9 by decide)).2)) (λak=>by simp at ak)) λb hb=>?_;subst hb;refine .mk λm3 gB=>?_;simp only[da,oH,dW,xG]at gB bT;refine .eq I (.eq (by simp[jb,pat,gB.1];rfl) (.eq I (.ret ?_)));refine⟨{wj:=rl 1,wk:=((av s.bh 1).bY.length:Int),nx:=.qg ⟨0,32,⟨some m3⟩⟩,pj:=⟨some m⟩},m,?_,rfl,rfl,rfl,?_,λak=>by simp at ak,?_,λak=>by simp at ak,bT.2,hm,λx an=>by rw[qN];exact fM _ (fM _ (fM _ an)),λx an=>?_⟩
  ·simp[jb,pat,cF,gB.1]
  ·simp[mu,pat,cF,gB.1,gB.2.1,bT.1]
  ·intro _;refine⟨m3,rfl,?_,gB.2.2⟩;simp[lA,pat,cF,gB.1,gB.2.1,bT.1]
  have gG:m3≠x:=λe=>gB.2.2 (by rw[e];exact an);have sY:p≠x:=λe=>bT.2 (by rw[e];exact an);have r7:m≠x:=λe=>hm (by rw[e];exact an);simp[HS,pat,gG,sY,r7]
 have e:(rl k==1)=false:=by
  have:k=2∨k=3:=by omega
  rcases this with rfl|rfl <;> rfl
 have aK:(rl k==2)=false:=by
  have:k=2∨k=3:=by omega
  rcases this with rfl|rfl <;> rfl
 simp only[e,aK,cond_true,cond_false];refine .bind (P:=λcQ=>ED s k hp cQ p) (.bind (P:=λcQ=>ED s k hp cQ p) ?_ λ_ bp=>.ret bp) λcQ a7=>.ret ⟨p,rfl,a7⟩;refine .eq I (.any λdM=>.mk λq hq=>?_);simp only[da,oH,dW,xG]at hq bT;refine .eq (by simp[jb,pat,hq.1];rfl) (.eq I (.ret ?_));refine⟨{wj:=rl k,wk:=((av s.bh k).bY.length:Int),nx:=.qh ⟨some q⟩,pj:=⟨some m⟩},m,?_,rfl,rfl,rfl,?_,λak=>by omega,λak=>by omega,λ_=>⟨q,dM.1,dM.2,rfl,?_,hq.2.2⟩,bT.2,hm,λx an=>by rw[qN];exact fM _ (fM _ (fM _ an)),λx an=>?_⟩
 ·simp[jb,pat,cF,hq.1]
 ·simp[mu,pat,cF,hq.1,hq.2.1,bT.1]
 ·simp[rI,pat,cF,hq.1]
 have gG:q≠x:=λe=>hq.2.2 (by rw[e];exact an);have sY:p≠x:=λe=>bT.2 (by rw[e];exact an);have r7:m≠x:=λe=>hm (by rw[e];exact an);simp[HS,pat,gG,sY,r7]
def Yb{α:Type}{b:α->α->Bool}(hb:w2 b){q:α->Bool}:∀{l:aa α} {c:α},l.Pairwise (λx y=>b x y=true)->c∈l->q c=true->(∀d∈l,q d=true->d=c∨b c d=true)->l.find? q=some c
 |[],c,_,ak,_,_=>by cases ak
 | a::l,c,hs,ak,hq,hd=>by
   obtain⟨h1,ae⟩:=mK.1 hs;by_cases rY:q a=true
   ·rw[List.find?_cons_of_pos rY];rcases hd a (by simp) rY with h|h
    ·rw[h]
    rcases dW.1 ak with az|az
    ·rw[az]
    have:=hb.asymm _ _ (h1 c az);rw[this]at h;cases h
   rw[List.find?_cons_of_neg rY];rcases dW.1 ak with az|az
   ·rw[az]at hq;exact absurd hq rY
   exact Yb hb ae az hq λd hd' as4=>hd d (by simp[hd']) as4
def akG{α:Type}{b:α->α->Bool}(hb:w2 b){q:α->Bool}{l:aa α}{c:α}(h:yw b l)(ak:c∈l)(hq:q c=true)(hd:∀d∈l,q d=true->d=c∨b c d=true):(iL b l).find? q=some c:=
 Yb hb (QA hb h) (x6.2 ak) hq λd hd'=>hd d (x6.1 hd')
def nN.uniq{s:aD}{k:Nat}:∀{l:aa aS},nN s k l->∀{a c:aS},a∈l->c∈l->a.cU=c.cU->a=c:=λ{l} h {a c} aY ak e=>by
 have aM:=h.num;clear h;induction l with
 |nil=>cases aY
 | cons x l b6=>
   obtain⟨h1,ae⟩:=mK.1 aM
   rcases dW.1 aY with g1|g1 <;> rcases dW.1 ak with g2|g2
   ·rw[g1,g2]
   ·rw[g1]at e;exact absurd e (h1 c g2)
   ·rw[g2]at e;exact absurd e.symm (h1 a g1)
   exact b6 g1 g2 ae
def cA.SD{s:aD}(h:cA s):(av s.bh 0).bY=[sX]:=by
 obtain⟨dD,eg,hV,e⟩:=h.Ot;exact ev (·.2.2) (e 0 (by decide))
def cA.SE{s:aD}(h:cA s):∃b,(av s.bh 1).bY=yd b:=by
 obtain⟨dD,eg,hV,e⟩:=h.Ot;exact⟨dD,ev (·.2.2) (e 1 (by decide))⟩
def OI(s:aD)(k:Nat):Nat:=(av s.bh k).bY.length
def akH{α:Type}[Inhabited α]{n:Nat}{f:Fin n->α}{j:Nat}(h:j<n):ck (Vector.ofFn f) j=f ⟨j,h⟩:=by unfold ck;simp[h]
def fl(e:aO):Vector aV 4:=Vector.ofFn λi=>if i.1<e.bs.length then(av e.bs i.1).cw else default
def iy(p:Vector aV 4):Vector aV 4:=eh p 0 default
def DT{e:aO}{j:Nat}(h:j<4):ck (fl e) j=if j<e.bs.length then(av e.bs j).cw else default:=akH h
def YS{p:Vector aV 4}{j:Nat}:ck (iy p) j=if j=0 then default else ck p j:=by unfold iy;rw[jG _ _ (by decide)]
def ab6{v w:Vector aV 4}:v=w↔ck v 0=ck w 0∧ck v 1=ck w 1∧ck v 2=ck w 2∧ck v 3=ck w 3:=by
 refine⟨λh=>by rw[h];exact⟨rfl,rfl,rfl,rfl⟩,λ⟨bJ,h1,ae,az⟩=>X3 λj aC=>?_⟩;rcases (show j=0∨j=1∨j=2∨j=3 by omega)with rfl|rfl|rfl|rfl <;> assumption
def aja{v w:aV}{n m:Nat}:eN v n=eN w m↔n=m∧∀i,i<n->cT v (31-i)=cT w (31-i):=by
 unfold eN;constructor
 ·intro h;have ao:=ev List.length h;simp only[kf,CV]at ao;subst ao;refine⟨rfl,λi au=>?_⟩;have:=ev (·[i]?) h;simpa[au]using this
 rintro ⟨rfl,h⟩;exact KQ λi au=>h i (nX.1 au)
def ll(e:aO):aa Bool:=eN (av e.bs 0).cw (av e.bs 0).fA.toNat
def I7{s:aD}(h:cA s){e:aO}(he:gu s 1 e):rJ 2 32 (av e.bs 0):=by
 have hm:=he.yV 0;obtain⟨b,hb⟩:=h.SE;rw[hb]at hm;cases b
 ·exact hm (by decide)
 exact hm (by decide)
def H3{k:Int}(bJ:0<=k)(h1:k<=32){j:Nat}:lead 32 k j=true↔32-k<=(j:Int)∧j<32:=by
 unfold lead;rw[gq,fk,fk];omega
def akI{m:bN}(hm:rJ 2 32 m){v:aV}{n:Nat}(aM:n<=32):eN m.cw m.fA.toNat=eN v n↔m.fA=n∧∀j,j<128->lead 32 m.fA j=true->cT v j=cT m.cw j:=by
 have hp:=hm.pre;rw[aja];constructor
 ·rintro ⟨h1,ae⟩;refine⟨by omega,λj aC ao=>?_⟩;rw[H3 hp.1 hp.2]at ao;have:=ae (31-j) (by omega);rw[show 31-(31-j)=j by omega]at this;exact this.symm
 rintro ⟨h1,ae⟩;refine⟨by omega,λi au=>?_⟩;exact(ae (31-i) (by omega) ((H3 hp.1 hp.2).2 (by omega))).symm
def ab7{s:aD}(h:cA s){e:aO}(he:gu s 1 e):e.ep=0:=by
 refine he.pri λi au=>?_;obtain⟨b,hb⟩:=h.SE;rw[hb]at au⊢;cases b
 ·have:i=0:=by have:i<1:=au;omega
  subst this;decide
 have:i=0∨i=1:=by have:i<2:=au;omega
 rcases this with rfl|rfl <;> decide
def Own.iff{hp hp':aL Cell}{t:Nat}{c:hj}(ak:ga hp t=some c)(h:∀q,Own hp t q->pat hp' q=pat hp q):ga hp' t=some c∧(∀bb,dc hp' c.e7 bb=dc hp c.e7 bb)∧∀q,Own hp' t q↔Own hp t q:=by
 have h1:ga hp' t=some c:=by rw[LS (h t (.inl I))];exact ak
 have ae:∀bb,dc hp' c.e7 bb=dc hp c.e7 bb:=λbb=>Xo λp cs hp=>zX (h p (.inr ⟨c,cs,ak,hp⟩));refine⟨h1,ae,λq=>⟨λhq=>?_,λhq=>?_⟩⟩
 ·rcases hq with rfl|⟨jP,bb,g1,g2⟩
  ·exact .inl I
  rw[h1]at g1;cases g1;rw[ae]at g2;exact .inr ⟨c,bb,ak,g2⟩
 rcases hq with rfl|⟨jP,bb,g1,g2⟩
 ·exact .inl I
 rw[ak]at g1;cases g1;exact .inr ⟨c,bb,h1,by rw[ae];exact g2⟩
def kA.congr{hp hp':aL Cell}{t:Nat}{g:aa Bool->aA Int}(h:kA hp t g)(aY:∀q,Own hp t q->pat hp' q=pat hp q):kA hp' t g∧∀q,Own hp' t q↔Own hp t q:=by
 obtain⟨c,ak,hb,bE,bH⟩:=h.ok;obtain⟨h1,ae,az⟩:=Own.iff ak aY;refine⟨⟨⟨c,h1,hb,⟨λbb p hp=>?_,λbb cs p g1 g2=>?_,λbb p g1=>bE.dep bb p (by rw[<-ae];exact g1)⟩,λbb=>?_⟩⟩,az⟩
 ·rw[ae]at hp;obtain⟨d,hd⟩:=bE.reads bb p hp;exact⟨d,by rw[zX (aY p (.inr ⟨c,bb,ak,hp⟩))];exact hd⟩
 ·rw[ae]at g1 g2;exact bE.inj bb cs p g1 g2
 rw[<-bH];cases e:dc hp c.e7 bb with
 |none=>rw[mT e,mT (by rw[ae];exact e)]
 | some p=>
   obtain⟨d,hd⟩:=bE.reads bb p e
   rw[l1 e hd,l1 (by rw[ae];exact e) (by rw[zX (aY p (.inr ⟨c,bb,ak,e⟩))];exact hd)]
def kA.A8{hp:aL Cell}{t:Nat}{g:aa Bool->aA Int}(h:kA hp t g){q:Nat}(hq:Own hp t q):q∈da hp:=by
 obtain⟨c,ak,hb,bE,bH⟩:=h.ok;rcases hq with rfl|⟨jP,bb,g1,g2⟩
 ·exact js (vZ.1 ak)
 rw[ak]at g1;cases g1;obtain⟨d,hd⟩:=bE.reads bb q g2;exact js (sj.1 hd)
def kA.MP{hp:aL Cell}{t:Nat}{g:aa Bool->aA Int}(h:kA hp t g){q:Nat}(hq:Own hp t q):(∃c,pat hp q=some (.lb c))∨∃c,pat hp q=some (.gW c):=by
 obtain⟨c,ak,hb,bE,bH⟩:=h.ok;rcases hq with rfl|⟨jP,bb,g1,g2⟩
 ·exact .inl ⟨c,vZ.1 ak⟩
 rw[ak]at g1;cases g1;obtain⟨d,hd⟩:=bE.reads bb q g2;exact .inr ⟨d,sj.1 hd⟩
def iW(a c:aO):Bool:=decide (a.ct=c.ct∧a.bs=c.bs∧a.ep=c.ep)
def A9{a c:aO}:iW a c=true↔a.ct=c.ct∧a.bs=c.bs∧a.ep=c.ep:=by unfold iW;rw[fk]
def Mv(a:aO):iW a a=true:=A9.2 ⟨rfl,rfl,rfl⟩
def Rg(a c:aO):iW a c=iW c a:=by
 rw[oG,A9,A9];exact⟨λ⟨x,y,z⟩=>⟨x.symm,y.symm,z.symm⟩,λ⟨x,y,z⟩=>⟨x.symm,y.symm,z.symm⟩⟩
def Yc{a c d:aO}(h1:iW a c=true)(ae:iW c d=true):iW a d=true:=by
 rw[A9]at *;exact⟨h1.1.trans ae.1,h1.2.1.trans ae.2.1,h1.2.2.trans ae.2.2⟩
def Rh{a c:bN}(h1:a.gl=c.gl)(ae:a.cw=c.cw)(az:a.hI=c.hI)(aQ:a.fA=c.fA)(a7:a.ly=c.ly):a=c:=by
 cases a;cases c;simp_all
def YT{b:Int}{m r8:bN}(h:rJ 1 b m)(c8:rJ 1 b r8)(e:m.cw=r8.cw):m=r8:=
 Rh (by rw[h.ac2 I,c8.ac2 I]) e (by rw[h.hQ (by decide),c8.hQ (by decide)]) (by rw[h.ac4 (by decide),c8.ac4 (by decide)]) (by rw[h.On (by decide),c8.On (by decide)])
def akJ{m r8:bN}(h:rJ 2 32 m)(c8:rJ 2 32 r8)(e:eN m.cw m.fA.toNat=eN r8.cw r8.fA.toNat):m=r8:=by
 have hp:=h.pre;have hp':=c8.pre;obtain⟨n,aM⟩:=qE hp'.1;rw[aM,Int.toNat_natCast]at e;obtain⟨ar,aK⟩:=(akI h (by omega)).1 e;have cr:m.fA=r8.fA:=by omega
 have as5:m.gl=r8.gl:=by
  cases g1:m.gl <;> cases g2:r8.gl
  ·rfl
  ·have:=c8.ac3 I g2;have:=h.off g1;have bJ:(default:bN).fA=0:=rfl;rw[this,bJ]at cr;omega
  ·have:=h.ac3 I g1;have:=c8.off g2;have bJ:(default:bN).fA=0:=rfl;rw[this,bJ]at cr;omega
  rfl
 refine Rh as5 (RQ λj aC=>?_) (by rw[h.hQ (by decide),c8.hQ (by decide)]) cr (by rw[h.On (by decide),c8.On (by decide)]);cases ao:lead 32 m.fA j with
 |true=>exact(aK j aC ao).symm
 | false=>
   have nJ:cT m.cw j=false:=by
    rw[zp];intro ba;have:=h.T0 I j aC ba;rw[(H3 hp.1 hp.2).2 this]at ao;cases ao
   have sL:cT r8.cw j=false:=by
    rw[zp];intro ba;have:=c8.T0 I j aC ba;rw[cr,(H3 hp'.1 hp'.2).2 this]at ao;cases ao
   rw[nJ,sL]
def NS{α:Type}[Inhabited α]{l:aa α}(h:l.length=1):l=[av l 0]:=by
 match l,h with
 |[x],_=>rfl
def ab8{α:Type}[Inhabited α]{l:aa α}(h:l.length=2):l=[av l 0,av l 1]:=by
 match l,h with
 |[x,y],_=>rfl
def J6{s:aD}(h:cA s){a c:aO}(aY:gu s 0 a)(ak:gu s 0 c):iW a c=true↔fl a=fl c:=by
 rw[A9];have c6:=aY.len;have lc:=ak.len;have Kv:=aY.yV 0;have vA:=ak.yV 0;have OJ:=aY.pri;have OK:=ak.pri;rw[h.SD]at c6 lc Kv vA OJ OK;have hk:∀i,i<[sX].length->(av [sX] i).c7<=2:=by decide
 refine⟨λ⟨h1,ae,az⟩=>by unfold fl;rw[ae],λe=>⟨by rw[aY.fK,ak.fK],?_,by rw[OJ hk,OK hk]⟩⟩;have fo:=(ab6.1 e).1;rw[DT (by decide),DT (by decide),c6,lc]at fo;have fo:(av a.bs 0).cw=(av c.bs 0).cw:=fo;rw[NS (l:=a.bs) c6,NS (l:=c.bs) lc,YT (Kv (by decide)) (vA (by decide)) fo]
def E8{s:aD}(h:cA s){a c:aO}(aY:gu s 1 a)(ak:gu s 1 c):iW a c=true↔iy (fl a)=iy (fl c)∧ll a=ll c:=by
 rw[A9];have c6:=aY.len;have lc:=ak.len;have Kv:=aY.yV 1;have vA:=ak.yV 1;have OJ:=ab7 h aY;have OK:=ab7 h ak;have m0:=I7 h aY;have as6:=I7 h ak;obtain⟨b,hb⟩:=h.SE;rw[hb]at c6 lc Kv vA;refine⟨λ⟨h1,ae,az⟩=>by unfold fl ll;rw[ae];exact⟨rfl,rfl⟩,λ⟨e,e'⟩=>⟨by rw[aY.fK,ak.fK],?_,by rw[OJ,OK]⟩⟩;have bJ:=akJ m0 as6 e';cases b
 ·rw[NS (l:=a.bs) c6,NS (l:=c.bs) lc,bJ]
 have ar:=(ab6.1 e).2.1;rw[YS,YS,bf (by decide),bf (by decide),DT (by decide),DT (by decide),c6,lc]at ar;have ar:(av a.bs 1).cw=(av c.bs 1).cw:=ar;rw[ab8 (l:=a.bs) c6,ab8 (l:=c.bs) lc,bJ,YT (Kv (by decide)) (vA (by decide)) ar]
structure kp(s:aD)(k:Nat)(l:List aS):Prop where
 ok:nN s k l
 key:l.Pairwise λa c=>iW a.bl c.bl=false
def kp.uniq{s:aD}{k:Nat}{l:aa aS}(h:kp s k l){a c:aS}(aY:a∈l)(ak:c∈l)(e:iW a.bl c.bl=true):a=c:=by
 have aM:=h.key;clear h;induction l with
 |nil=>cases aY
 | cons x l b6=>
   obtain⟨h1,ae⟩:=mK.1 aM
   rcases dW.1 aY with g1|g1 <;> rcases dW.1 ak with g2|g2
   ·rw[g1,g2]
   ·rw[g1,h1 c g2]at e;cases e
   ·rw[g2,Rg,h1 a g1]at e;cases e
   exact b6 g1 g2 ae
def eH(l:aa aS)(e:aO):aA aS:=l.find? λi=>iW i.bl e
def Af{l:aa aS}{e:aO}{i:aS}(h:eH l e=some i):i∈l∧iW i.bl e=true:=by
 unfold eH at h;have ae:=List.find?_some h;exact⟨UU h,ae⟩
def wb{l:aa aS}{e:aO}(h:eH l e=none):∀i∈l,iW i.bl e=false:=λi au=>by
 have:=zm.1 h i au;simpa using this
def qB(o:aA aS):Int×Bool:=match o with |some i=>(i.cU,true)|none=>(0,false)
def o7{α β:Type}(l:aa (α×β)):Prop:=l.Pairwise λa c=>a.1≠c.1
def Yd{α β:Type}[DecidableEq α]:∀{l:aa (α×β)} {x:α} {v:β} {a:α×β},a∈gb l x v->a.1=x∨a∈l
 | [],x,v,a,h=>by
   have:a=(x,v):=by simpa[gb]using h
   rw[this];exact .inl I
 | (k,w)::r,x,v,a,h=>by
   unfold gb at h;split at h
   ·rcases dW.1 h with h|h
    ·rw[h];exact .inl I
    exact .inr (by simp[h])
   rcases dW.1 h with h|h
   ·exact .inr (by simp[h])
   exact(Yd h).imp id λh=>fM _ h
def o7.put{α β:Type}[DecidableEq α]:∀{l:aa (α×β)} {x:α} {v:β},o7 l->o7 (gb l x v)
 |[],x,v,_=>by unfold gb o7;simp
 | (k,w)::r,x,v,h=>by
   obtain⟨h1,ae⟩:=mK.1 h;unfold gb;split
   ·rename_i e;refine mK.2 ⟨λa aY=>?_,ae⟩;have:=h1 a aY;rw[e];exact this
   rename_i e;refine mK.2 ⟨λa aY=>?_,o7.put ae⟩;rcases Yd aY with g|g
   ·rw[g];exact λe'=>e e'.symm
   exact h1 a g
def Ye{α β:Type}[DecidableEq α]:∀{l:aa (α×β)} {x:α} {a:α×β},a∈iR l x->a∈l
 |[],x,a,h=>by cases h
 | (k,w)::r,x,a,h=>by
   unfold iR at h;split at h
   ·exact fM _ h
   rcases dW.1 h with h|h
   ·simp[h]
   exact fM _ (Ye h)
def o7.del{α β:Type}[DecidableEq α]:∀{l:aa (α×β)} {x:α},o7 l->o7 (iR l x)
 |[],x,_=>by unfold iR o7;exact .nil
 | (k,w)::r,x,h=>by
   obtain⟨h1,ae⟩:=mK.1 h;unfold iR;split
   ·exact ae
   exact mK.2 ⟨λa aY=>h1 a (Ye aY),o7.del ae⟩
def YU{α β:Type}[DecidableEq α]:∀{l:aa (α×β)} {x:α},(∀a∈l,a.1≠x)->dO l x=none
 |[],_,_=>rfl
 | (k,w)::r,x,h=>by
   unfold dO;rw[bf λe=>h (k,w) (by simp) e.symm,YU λa aY=>h a (by simp[aY])]
def DO{α β:Type}[DecidableEq α]:∀{l:aa (α×β)} {x y:α},o7 l->dO (iR l x) y=if y=x then none else dO l y
 | [],x,y,_=>by
   show none=if y=x then none else none;split <;> rfl
 | (k,w)::r,x,y,h=>by
   obtain⟨h1,ae⟩:=mK.1 h;unfold iR;by_cases e:x=k
   ·rw[bk e];by_cases aK:y=x
    ·rw[bk aK,aK,e];exact YU λa aY=>(h1 a aY).symm
    rw[bf aK];show _=if y=k then _ else _;rw[bf (by rw[<-e];exact aK)]
   rw[bf e];show(if y=k then some w else dO (iR r x) y)=_;by_cases aK:y=k
   ·rw[bk aK,bf (by rw[aK];exact λcr=>e cr.symm)];show _=if y=k then _ else _;rw[bk aK]
   rw[bf aK,DO ae];show _=if y=x then none else if y=k then _ else _;rw[bf aK]
structure D6(s:aD)(hp:aL Cell)(q:Nat)(l:List aS)(own:Nat->Prop):Prop where
 ok:∃m em,n5 hp q=some ⟨⟨some m⟩⟩∧nC hp m=some em∧own q∧own m∧(∀dk n,dO em dk=some n↔∃i∈l,fl i.bl=dk∧i.cU=n)∧o7 em
structure px(s:aD)(hp:aL Cell)(m:Nat)(l:List aS)(own:Nat->Prop):Prop where
 ok:∃em,lA hp m=some em∧own m∧
  (∀dk r,dO em dk=some r->∃t g,r=some t∧kA hp t g∧(∀q,Own hp t q->own q)∧∀bb n,g bb=some n↔∃i∈l,iy (fl i.bl)=dk∧ll i.bl=bb∧i.cU=n)∧
  (∀dk,dO em dk=none->∀i∈l,iy (fl i.bl)≠dk)∧
  (∀dk ln t fv,dO em dk=some (some t)->dO em ln=some (some fv)->dk≠ln->∀q,Own hp t q->¬Own hp fv q)∧o7 em
structure D7(s:aD)(k:Nat)(hp:aL Cell)(q:Nat)(l:List aS)(own:Nat->Prop):Prop where
 ok:∃key cap,rI hp q=some (wC s k l,key,cap)∧own q
def tp(s:aD)(k:Nat)(hp:aL Cell)(f:iz)(l:aa aS)(own:Nat->Prop):Prop:=
 (k=0∧∃q,f=.qf ⟨some q⟩∧D6 s hp q l own)∨(k=1∧∃m,f=.qg ⟨0,32,⟨some m⟩⟩∧px s hp m l own)∨(2<=k∧∃q,f=.qh ⟨some q⟩∧D7 s k hp q l own)
def Qe{hp hp':aL Cell}{p:Nat}(h:pat hp' p=pat hp p):n5 hp' p=n5 hp p:=by unfold n5;rw[h]
def ag4{hp hp':aL Cell}{p:Nat}(h:pat hp' p=pat hp p):nC hp' p=nC hp p:=by unfold nC;rw[h]
def LV{hp hp':aL Cell}{p:Nat}(h:pat hp' p=pat hp p):lA hp' p=lA hp p:=by unfold lA;rw[h]
def ag5{hp hp':aL Cell}{p:Nat}(h:pat hp' p=pat hp p):rI hp' p=rI hp p:=by unfold rI;rw[h]
def ag6{hp hp':aL Cell}{p:Nat}(h:pat hp' p=pat hp p):jb hp' p=jb hp p:=by unfold jb;rw[h]
def ag7{hp hp':aL Cell}{p:Nat}(h:pat hp' p=pat hp p):mu hp' p=mu hp p:=by unfold mu;rw[h]
def tp.congr{s:aD}{k:Nat}{hp hp':aL Cell}{f:iz}{l:aa aS}{own:Nat->Prop}(h:tp s k hp f l own){own':Nat->Prop}(a8:∀q,q∈da hp->own q->own' q)(aY:∀q,own q->pat hp' q=pat hp q):tp s k hp' f l own':=by
 rcases h with⟨rfl,q,rfl,h⟩|⟨rfl,m,rfl,h⟩|⟨hk,q,rfl,h⟩
 ·obtain⟨m,em,h1,ae,az,aQ,a7,jh⟩:=h.ok;refine .inl ⟨rfl,q,rfl,⟨m,em,by rw[Qe (aY q az)];exact h1,by rw[ag4 (aY m aQ)];exact ae,a8 q (js (H4 h1)) az,a8 m (js (uO ae)) aQ,a7,jh⟩⟩
 ·obtain⟨em,h1,ae,az,aQ,a7,jh⟩:=h.ok;have key:∀dk r,dO em dk=some r->∃t g,r=some t∧kA hp t g∧kA hp' t g∧(∀q,Own hp t q->own q)∧(∀q,Own hp' t q↔Own hp t q)∧∀bb n,g bb=some n↔∃i∈l,iy (fl i.bl)=dk∧ll i.bl=bb∧i.cU=n:=λdk r aE=>by
   obtain⟨t,g,rfl,g1,g2,g3⟩:=az dk r aE;obtain⟨g4,g5⟩:=g1.congr λq hq=>aY q (g2 q hq);exact⟨t,g,rfl,g1,g4,g2,g5,g3⟩
  refine .inr (.inl ⟨rfl,m,rfl,⟨em,by rw[LV (aY m ae)];exact h1,a8 m (js (pw h1)) ae,λdk r aE=>?_,aQ,λdk ln t fv bE Cr dm q hq=>?_,jh⟩⟩)
  ·obtain⟨t,g,rfl,g0,g1,g2,g3,g4⟩:=key dk r aE;exact⟨t,g,rfl,g1,λq hq=>a8 q (g0.A8 ((g3 q).1 hq)) (g2 q ((g3 q).1 hq)),g4⟩
  obtain⟨_,g,e,g0,g1,g2,g3,g4⟩:=key dk _ bE;obtain⟨_,dY,e',auZ,as7,as8,as9,au0⟩:=key ln _ Cr;cases e;cases e';rw[as9];exact a7 dk ln t fv bE Cr dm q ((g3 q).1 hq)
 obtain⟨key,cap,h1,ae⟩:=h.ok;exact .inr (.inr ⟨hk,q,rfl,⟨key,cap,by rw[ag5 (aY q ae)];exact h1,a8 q (js (A5 h1)) ae⟩⟩)
def Mw{e:aO}(ao:e.bs.length<=4):xC e=some (fl e):=by
 refine bd.get ?_;unfold xC;refine .eq (a:=e.bs) (by unfold so;rw[bk ⟨by omega,by omega,by omega⟩,Int.toNat_zero,vM,Nat.sub_zero,s6 (by omega)]) ?_;refine bd.loop e.bs.length (λi st=>st.1=(i:Int)∧∀j,j<4->ck st.2 j=if j<i then(av e.bs j).cw else default) (by omega) ⟨rfl,λj aC=>by rw[LN];rfl⟩ (λi st au hs=>?_) (λst hs=>?_)
 ·obtain⟨j,v⟩:=st;obtain⟨ar,aK⟩:=hs;simp only at ar aK;subst ar;refine .cond (λ_=>?_) (λak=>by simp at ak;omega);refine .idx I au (.idx I (by omega) (.ret ⟨dS (by omega),λj aC=>?_⟩));rw[jG _ _ (by omega)];by_cases lj:j=i
  ·rw[bk lj,bk (by omega),lj]
  rw[bf lj,aK j aC];by_cases h:j<i
  ·rw[bk h,bk (by omega)]
  rw[bf h,bf (by omega)]
 obtain⟨j,v⟩:=st;obtain⟨ar,aK⟩:=hs;simp only at ar aK;subst ar;refine⟨_,by simp;rfl,.ret ?_⟩;exact X3 λj aC=>by rw[aK j aC,DT aC]
def gu.NT{s:aD}(h:cA s){k:Nat}(hk:k<4){e:aO}(he:gu s k e):e.bs.length<=4∧1<=e.bs.length:=by
 have:=(h.fK hk).2.1;rw[he.len];omega
def ajb{a c:aa bN}(ao:a.length<=1000):FV a c=some (decide (a=c)):=by
 refine bd.get ?_;unfold FV;refine .cond (λh=>.ret ?_) λh=>?_
 ·have:a≠c:=λe=>by rw[e]at h;simp at h
  simp[this]
 have sP:c.length=a.length:=by
  have:(a.length:Int)=c.length:=by simpa using h
  omega
 refine bd.loop a.length (λi st=>st=(i:Int)∧∀j,j<i->av a j=av c j) (by omega) ⟨rfl,λj aC=>by omega⟩ (λi st au hs=>?_) (λst hs=>?_)
 ·obtain⟨rfl,hs⟩:=hs;refine .cond (λ_=>?_) (λak=>by simp at ak;omega);refine .idx I au (.idx I (by omega) (.cond (λdm=>.ret ?_) λhe=>.ret ⟨dS (by omega),λj aC=>?_⟩))
  ·simp only[Sum.elim_inr];refine .ret ?_;have:a≠c:=λe=>by rw[e]at dm;simp at dm
   simp[this]
  by_cases lj:j=i
  ·subst lj;simpa using he
  exact hs j (by omega)
 obtain⟨rfl,hs⟩:=hs;refine⟨_,by simp;rfl,?_⟩;simp only[Sum.elim_inl];refine .ret ?_;have:a=c:=zt sP.symm λj h1 ae=>by
  have:=hs j h1;rwa[dp _ h1,dp _ ae]at this
 simp[this]
def ahy{a c:aO}(ao:a.bs.length<=1000):G6 a c=some (iW a c):=by
 refine bd.get ?_;unfold G6 iW;refine .b4 (P:=λr=>r=decide (a.bs=c.bs)) (λ_=>⟨_,ajb ao,rfl⟩) λy hy=>.ret ?_;by_cases h:a.ct=c.ct
 ·rw[hy (by simpa using h)];rw[oG];simp[h]
 simp[h]
def ao3{s:aD}(h:cA s){hp:aL Cell}{q:Nat}{l:aa aS}{own:Nat->Prop}(hq:D6 s hp q l own)(ao:kp s 0 l){e:aO}(he:gu s 0 e):GJ hp ⟨some q⟩ e=some (qB (eH l e)):=by
 obtain⟨m,em,h1,ae,_,_,a7,_⟩:=hq.ok;refine bd.get ?_;unfold GJ Dj;refine .eq (Mw (he.NT h (by decide)).1) ?_;have hm:dO em (fl e)=(eH l e).map (·.cU):=by
  cases aW:eH l e with
  | none=>
    cases bH:dO em (fl e)with
    |none=>rfl
    | some n=>
      obtain⟨i,au,bp,_⟩:=(a7 _ _).1 bH
      have:=wb aW i au
      rw[(J6 h (ao.ok.ok i au).gf he).2 bp]at this;cases this
  | some i=>
    obtain⟨au,hk⟩:=Af aW
    exact(a7 _ _).2 ⟨i,au,(J6 h (ao.ok.ok i au).gf he).1 hk,rfl⟩
 refine .eq (a:=qB (eH l e)) ?_ (.ret I);show(n5 hp q).bind _=_;rw[h1];show(nC hp m).bind _=_;rw[ae];show some ((dO em (fl e)).getD default,(dO em (fl e)).isSome)=_;rw[hm];cases eH l e <;> rfl
def Ri{s:aD}(h:cA s){e:aO}(he:gu s 1 e)(m:eX):zo ⟨0,32,m⟩ e=some (iy (fl e),(av e.bs 0).cw,(av e.bs 0).fA):=by
 have ao:=he.NT h (by decide);refine bd.get ?_;unfold zo K0;refine .eq (Mw ao.1) (.eq (a:=(iy (fl e),ck (fl e) 0)) I (.cond (λak=>by have ak:(0:Int)>=(e.bs.length:Int):=vI ak;omega) λ_=>.idx (k:=0) I (by omega) (.ret ?_)));rw[DT (by decide),bk (by omega)]
def QS{m:bN}(h:rJ 2 32 m):∀j,j<128->cT m.cw j=true->lead 32 m.fA j=true:=λj aC ba=>
 (H3 h.pre.1 h.pre.2).2 (h.T0 I j aC ba)
def ao4{s:aD}(h:cA s){hp:aL Cell}{m:Nat}{l:aa aS}{own:Nat->Prop}(hq:px s hp m l own)(ao:kp s 1 l){e:aO}(he:gu s 1 e):Gj hp ⟨0,32,⟨some m⟩⟩ e=some (qB (eH l e)):=by
 obtain⟨em,h1,_,az,aQ,_⟩:=hq.ok;have h3:=I7 h he;refine bd.get ?_;unfold Gj;refine .eq (Ri h he _) (.eq I (.eq h1 (.eq I ?_)));obtain⟨n,aM⟩:=qE h3.pre.1;have I8:n<=32:=by have:=h3.pre.2;omega
 have yf:=QS h3;refine .eq (a:=qB (eH l e)) ?_ (.ret I);simp only;cases aE:dO em (iy (fl e))with
 | none=>
   have aW:eH l e=none:=by
    cases aW:eH l e with
    |none=>rfl
    | some i=>
      obtain⟨au,hk⟩:=Af aW
      exact absurd ((E8 h (ao.ok.ok i au).gf he).1 hk).1 (aQ _ aE i au)
   rw[aW];rfl
 | some r=>
   obtain⟨t,g,rfl,g1,_,g3⟩:=az _ _ aE
   have bH:g (ll e)=(eH l e).map (·.cU):=by
    cases aW:eH l e with
    | none=>
      cases T6:g (ll e)with
      |none=>rfl
      | some n=>
        obtain⟨i,au,bp,cO,_⟩:=(g3 _ _).1 T6
        have:=wb aW i au
        rw[(E8 h (ao.ok.ok i au).gf he).2 ⟨bp,cO⟩]at this;cases this
    | some i=>
      obtain⟨au,hk⟩:=Af aW
      obtain⟨bp,cO⟩:=(E8 h (ao.ok.ok i au).gf he).1 hk
      exact(g3 _ _).2 ⟨i,au,bp,cO,rfl⟩
   rw[aM]at yf⊢
   show zK hp (some t) _ (n:Int)=_
   rw[Zv g1 I8 yf]
   have hp':eN (av e.bs 0).cw n=ll e:=by unfold ll;rw[aM];rfl
   rw[hp',bH]
   cases eH l e <;> rfl
def ao5{s:aD}(h:cA s){k:Nat}(hk:k<4){hp:aL Cell}{q:Nat}{l:aa aS}{own:Nat->Prop}(hq:D7 s k hp q l own)(ao:kp s k l){e:aO}(he:gu s k e):GK hp ⟨some q⟩ e=some (qB (eH l e)):=by
 obtain⟨key,cap,h1,_⟩:=hq.ok;refine bd.get ?_;unfold GK;refine .eq I (.eq h1 (.eq (alL h hk ao.ok) ?_));obtain⟨ke,fz⟩:=ao.ok.iL;have aW:eH l e=(iL (jC s k) l).find? λi=>iW i.bl e:=by
  cases aW:eH l e with
  | none=>
    symm
    rw[zm]
    intro x an
    rw[wb aW x (x6.1 an)];simp
  | some i=>
    obtain⟨au,yN⟩:=Af aW
    exact(akG (MO s k) ao.ok.T4 au yN λd hd ata=>.inl (ao.uniq hd au (Yc ata (by rw[Rg];exact yN)))).symm
 rw[aW];refine bd.loop (iL (jC s k) l).length (λi st=>st=(i:Int)∧∀j,j<i->iW (av (iL (jC s k) l) j).bl e=false) (by omega) ⟨rfl,λj aC=>by omega⟩ (λi st au hs=>?_) (λst hs=>?_)
 ·obtain⟨rfl,hs⟩:=hs;refine .cond (λ_=>?_) (λak=>by simp at ak;omega);have hm:=ke (av (iL (jC s k) l) i) (by rw[dp _ au];exact gI _);refine .idx I au (.eq (ahy (hm.small h hk).1) (.cond (λak=>.ret ?_) λak=>.ret ⟨dS (by omega),λj aC=>?_⟩))
  ·simp only[Sum.elim_inr];refine .ret ?_;rw[HU (p:=λi=>iW i.bl e) au ak hs];rfl
  by_cases lj:j=i
  ·subst lj;exact ak
  exact hs j (by omega)
 obtain⟨rfl,hs⟩:=hs;refine⟨_,by simp;rfl,?_⟩;simp only[Sum.elim_inl];refine .ret ?_;rw[YK λc ak=>?_]
 ·rfl
 obtain⟨j,aC,rfl⟩:=rn.1 ak;rw[<-dp _ aC];exact hs j aC
def aa1{s:aD}(h:cA s){k:Nat}(hk:k<4){hp:aL Cell}{f:iz}{l:aa aS}{own:Nat->Prop}(hq:tp s k hp f l own)(ao:kp s k l){e:aO}(he:gu s k e):Lf hp f e=some (qB (eH l e)):=by
 rcases hq with⟨rfl,q,rfl,hq⟩|⟨rfl,m,rfl,hq⟩|⟨dh,q,rfl,hq⟩
 ·exact ao3 h hq ao he
 ·exact ao4 h hq ao he
 exact ao5 h hk hq ao he
def n9(own:Nat->Prop)(hp hp':aL Cell)(q:Nat):Prop:=own q∨(q∉da hp∧q∈da hp')
def Yf{hp:aL Cell}{p:Nat}{k:Cell}{x:aa (Vector aV 4×Int)}(h:pat hp p=some k):nC (cF hp p (.qS x)) p=some x:=by unfold nC;rw[sr h]
def Yg{hp:aL Cell}{p:Nat}{k:Cell}{x:aa (Vector aV 4×Ref)}(h:pat hp p=some k):lA (cF hp p (.ob x)) p=some x:=by unfold lA;rw[sr h]
def ary{s:aD}(h:cA s){hp:aL Cell}{q:Nat}{l:aa aS}{own:Nat->Prop}(hq:D6 s hp q l own)(ao:kp s 0 l){i:aS}(au:om s 0 i)(aW:eH l i.bl=none):
 bd (GP hp ⟨some q⟩ i) (λhp'=>D6 s hp' q (l++[i]) (n9 own hp hp')∧er hp hp' own):=by
 obtain⟨m,em,h1,ae,az,aQ,a7,jh⟩:=hq.ok
 have fb:dO em (fl i.bl)=none:=by
  cases bH:dO em (fl i.bl)with
  |none=>rfl
  | some n=>
    obtain⟨c,ak,bp,_⟩:=(a7 _ _).1 bH
    have:=wb aW c ak
    rw[(J6 h (ao.ok.ok c ak).gf au.gf).2 bp]at this;cases this
 unfold GP Lw
 refine .eq (Mw (au.gf.NT h (by decide)).1) ?_
 refine .eq (a:=(true,cF hp m (Cell.qS (gb em (fl i.bl) i.cU)))) ?_ (.ret ?_)
 ·show(n5 hp q).bind _=_
  rw[h1]
  show(nC hp m).bind _=_
  rw[ae]
  show cond (dO em (fl i.bl)).isSome _ _=_
  rw[fb]
  show(n5 hp q).bind _=_
  rw[h1]
  show(nC hp m).bind _=_
  rw[ae];rfl
 have Cs:q≠m:=λe=>by
  subst e;have:=H4 h1;rw[uO ae]at this;cases this
 refine⟨⟨m,_,by rw[Qe (mP Cs.symm)];exact h1,Yf (uO ae),.inl az,.inl aQ,λdk n=>?_,jh.put⟩,.up aQ⟩
 rw[vY]
 by_cases hR:dk=fl i.bl
 ·rw[bk hR]
  constructor
  ·intro e
   cases e
   exact⟨i,by simp,hR.symm,rfl⟩
  rintro ⟨c,ak,bp,cO⟩
  rcases cz.1 ak with ak|ak
  ·have:=(a7 _ _).2 ⟨c,ak,bp,cO⟩
   rw[hR,fb]at this;cases this
  rw[hi.1 ak]at cO;rw[cO]
 rw[bf hR,a7]
 constructor
 ·rintro ⟨c,ak,bp⟩;exact⟨c,by simp[ak],bp⟩
 rintro ⟨c,ak,bp,cO⟩
 rcases cz.1 ak with ak|ak
 ·exact⟨c,ak,bp,cO⟩
 rw[hi.1 ak]at bp;exact absurd bp.symm hR
def arz{s:aD}(h:cA s){hp:aL Cell}{m:Nat}{l:aa aS}{own:Nat->Prop}(hq:px s hp m l own)(fQ:∀q,own q->q∈da hp)(ao:kp s 1 l){i:aS}(au:om s 1 i)(aW:eH l i.bl=none)
 {em:aa (Vector aV 4×Ref)} (oo:lA hp m=some em) {t:Nat} (bE:dO em (iy (fl i.bl))=some (some t)):
 cM (Dw hp (some t) (av i.bl.bs 0).cw (av i.bl.bs 0).fA i.cU) (λr=>px s r.2 m (l++[i]) (n9 own hp r.2)∧er hp r.2 own):=by
 obtain⟨atb,h1,ae,az,aQ,a7,jh⟩:=hq.ok
 rw[oo]at h1;cases h1
 have h3:=I7 h au.gf
 obtain⟨fv,g,e,g1,g2,g3⟩:=az _ _ bE
 cases e
 obtain⟨n,aM⟩:=qE h3.pre.1
 have I8:n<=32:=by have:=h3.pre.2;omega
 have yf:=QS h3
 have hp':eN (av i.bl.bs 0).cw n=ll i.bl:=by unfold ll;rw[aM];rfl
 have fb:g (ll i.bl)=none:=by
  cases T6:g (ll i.bl)with
  |none=>rfl
  | some n=>
    obtain⟨c,ak,bp,cO,_⟩:=(g3 _ _).1 T6
    have:=wb aW c ak
    rw[(E8 h (ao.ok.ok c ak).gf au.gf).2 ⟨bp,cO⟩]at this;cases this
 rw[aM]at yf⊢
 refine(ao1 g1 I8 yf i.cU (by rw[hp'];exact fb)).mono λr aE=>?_
 obtain⟨_,ke,fz,mj⟩:=aE
 rw[hp']at ke
 have T7:∀q,Own hp t q->q≠m:=λq T8 e=>by
  have:=pw oo;rw[<-e]at this;rcases g1.MP T8 with⟨c,ak⟩|⟨c,ak⟩ <;> rw[ak]at this <;> cases this
 have lk:pat r.2 m=pat hp m:=fz.rest m (js (pw oo)) λhq=>T7 m hq I
 have uX:∀dk fv,dk≠iy (fl i.bl)->dO em dk=some (some fv)->∃dY,kA hp fv dY∧kA r.2 fv dY∧(∀q,Own hp fv q->own q)∧(∀q,Own r.2 fv q↔Own hp fv q)∧∀bb n,dY bb=some n↔∃i∈l,iy (fl i.bl)=dk∧ll i.bl=bb∧i.cU=n:=λdk fv dm aE=>by
  obtain⟨atc,dY,e,bZ,a2,a3⟩:=az dk _ aE;cases e;obtain⟨dD,eg⟩:=bZ.congr (hp':=r.2) λq hq=>fz.rest q (bZ.A8 hq) λqp=>a7 _ _ _ _ bE aE dm.symm q qp hq;exact⟨dY,bZ,dD,a2,eg,a3⟩
 have BW:∀q,Own r.2 t q->n9 own hp r.2 q:=λq hq=>by
  rcases mj q hq with bp|bp
  ·exact .inl (g2 q bp)
  exact .inr ⟨bp,ke.A8 hq⟩
 refine⟨⟨em,by rw[LV lk];exact oo,.inl ae,λdk nn jZ=>?_,λdk hR c ak=>?_,λdk ln t1 t2 kU lK dm q jY q3=>?_,jh⟩,⟨fz.keys,λq hq fb=>fz.rest q hq λqp=>fb (g2 q qp)⟩⟩
 ·by_cases hR:dk=iy (fl i.bl)
  ·subst hR
   rw[bE]at jZ;cases jZ
   refine⟨t,_,rfl,ke,BW,λbb r3=>?_⟩
   by_cases mE:bb=ll i.bl
   ·simp only[bk mE]
    constructor
    ·intro e;cases e
     exact⟨i,by simp,rfl,mE.symm,rfl⟩
    rintro ⟨c,ak,bp,cO,dJ⟩
    rcases cz.1 ak with ak|ak
    ·have:=(g3 _ _).2 ⟨c,ak,bp,cO,dJ⟩
     rw[mE,fb]at this;cases this
    rw[hi.1 ak]at dJ;rw[dJ]
   simp only[bf mE]
   rw[g3]
   constructor
   ·rintro ⟨c,ak,bp⟩;exact⟨c,by simp[ak],bp⟩
   rintro ⟨c,ak,bp,cO,dJ⟩
   rcases cz.1 ak with ak|ak
   ·exact⟨c,ak,bp,cO,dJ⟩
   rw[hi.1 ak]at cO;exact absurd cO.symm mE
  obtain⟨fv,dY,e,_⟩:=az dk nn jZ
  subst e
  obtain⟨Ct,bZ,a2,a3,a4,a5⟩:=uX dk fv hR jZ
  refine⟨fv,Ct,rfl,a2,λq hq=>.inl (a3 q ((a4 q).1 hq)),λbb r3=>?_⟩
  rw[a5]
  constructor
  ·rintro ⟨c,ak,bp⟩;exact⟨c,by simp[ak],bp⟩
  rintro ⟨c,ak,bp,cO⟩
  rcases cz.1 ak with ak|ak
  ·exact⟨c,ak,bp,cO⟩
  rw[hi.1 ak]at bp;exact absurd bp.symm hR
 ·rcases cz.1 ak with ak|ak
  ·exact aQ dk hR c ak
  rw[hi.1 ak]
  intro e
  rw[<-e,bE]at hR;cases hR
 
 have Zw:∀dk fv,dk≠iy (fl i.bl)->dO em dk=some (some fv)->∀q,Own r.2 t q->¬Own r.2 fv q:=λdk fv dm aE q hq qp=>by
  obtain⟨Ct,bZ,a2,a3,a4,a5⟩:=uX dk fv dm aE;have qp:=(a4 q).1 qp;rcases mj q hq with bp|bp
  ·exact a7 _ _ _ _ bE aE dm.symm q bp qp
  exact bp (bZ.A8 qp)
 by_cases ar:dk=iy (fl i.bl)
 ·subst ar
  rw[bE]at kU;cases kU
  exact Zw ln t2 dm.symm lK q jY q3
 by_cases aK:ln=iy (fl i.bl)
 ·subst aK
  rw[bE]at lK;cases lK
  exact Zw dk t1 ar kU q q3 jY
 obtain⟨_,_,_,_,a4,_⟩:=uX dk t1 ar kU
 obtain⟨_,_,_,_,Kt,_⟩:=uX ln t2 aK lK
 exact a7 _ _ _ _ kU lK dm q ((a4 q).1 jY) ((Kt q).1 q3)
def agq{own:Nat->Prop}{bJ h1 ae:aL Cell}{q:Nat}(hk:∀q,q∈da bJ->q∈da h1)(dh:∀q,q∈da h1->q∈da ae)(h:n9 (n9 own bJ h1) h1 ae q):n9 own bJ ae q:=by
 rcases h with(h|⟨h,c8⟩)|⟨h,c8⟩
 ·exact .inl h
 ·exact .inr ⟨h,dh q c8⟩
 exact .inr ⟨λaz=>h (hk q az),c8⟩
def px.mono{s:aD}{hp:aL Cell}{m:Nat}{l:aa aS}{own own':Nat->Prop}(h:px s hp m l own)(a8:∀q,own q->own' q):px s hp m l own':=by
 obtain⟨em,h1,ae,az,aQ,a7,jh⟩:=h.ok;exact⟨em,h1,a8 m ae,λdk r aE=>by obtain⟨t,g,e,a,b,c⟩:=az dk r aE;exact⟨t,g,e,a,λq hq=>a8 q (b q hq),c⟩,aQ,a7,jh⟩
def er.grow{bJ h1 ae:aL Cell}{own:Nat->Prop}(a:er bJ h1 own)(b:er h1 ae (n9 own bJ h1)):er bJ ae own:=
 a.trans b λq hq h=>h.elim (λh=>h) λh=>absurd hq h.1
def arA{s:aD}{hp:aL Cell}{m:Nat}{l:aa aS}{own:Nat->Prop}(hq:px s hp m l own)
 {em:aa (Vector aV 4×Ref)} (oo:lA hp m=some em) {dk:Vector aV 4} (fb:dO em dk=none) {a:Nat} (aY:a∉da hp) {z:hj} (b2:z.hG=32) (aE:z.e7=none):
 px s (cF ((a,Cell.lb z)::hp) m (.ob (gb em dk (some a)))) m l (n9 own hp (cF ((a,Cell.lb z)::hp) m (.ob (gb em dk (some a)))))∧er hp (cF ((a,Cell.lb z)::hp) m (.ob (gb em dk (some a)))) own∧
  lA (cF ((a,Cell.lb z)::hp) m (.ob (gb em dk (some a)))) m=some (gb em dk (some a)):=by
 obtain⟨atb,h1,ae,az,aQ,a7,jh⟩:=hq.ok
 rw[oo]at h1;cases h1
 have lk:=pw oo
 have ac8:=HG aY lk
 have cc:pat ((a,Cell.lb z)::hp) m=some (.ob em):=by rw[kV,bf ac8];exact lk
 generalize cJ:cF ((a,Cell.lb z)::hp) m (.ob (gb em dk (some a)))=bT
 have g1:lA bT m=some (gb em dk (some a)):=by rw[<-cJ];exact Yg cc
 have g2:pat bT a=some (.lb z):=by rw[<-cJ,mP ac8.symm,kV,bk I]
 have g3:∀q,q≠m->q≠a->pat bT q=pat hp q:=λq Cs rY=>by rw[<-cJ,mP Cs.symm,kV,bf rY.symm]
 have hk:er hp bT own:=by
  rw[<-cJ];exact(er.mk' (own:=own) aY).trans (er.up ae) λq _ h=>h
 have ac9:ga bT a=some z:=vZ.2 g2
 have ao6:kA bT a (λ_=>none):=⟨z,ac9,b2,by rw[aE];exact⟨λbb p h=>(by rw[hn]at h;cases h),λbb cs p h _=>(by rw[hn]at h;cases h),λbb p h=>(by rw[hn]at h;cases h)⟩,λbb=>by rw[aE];exact mT hn⟩
 have SF:∀q,Own bT a q->q=a:=λq sS=>by
  rcases sS with h|⟨c,bb,bp,cO⟩
  ·exact h
  rw[ac9]at bp;cases bp;rw[aE,hn]at cO;cases cO
 have hold:∀t g,kA hp t g->kA bT t g∧∀q,Own bT t q↔Own hp t q:=λt g bE=>bE.congr λq sS=>by
  refine g3 q (λe=>?_) λe=>aY (by rw[<-e];exact bE.A8 sS);rw[<-e]at lk;rcases bE.MP sS with⟨c,ak⟩|⟨c,ak⟩ <;> rw[ak]at lk <;> cases lk
 refine⟨⟨_,g1,.inl ae,λln r jZ=>?_,λln jZ=>?_,λT9 Ou t1 t2 kU lK dm q jY q3=>?_,jh.put⟩,hk,g1⟩
 ·rw[vY]at jZ
  by_cases e:ln=dk
  ·rw[bk e]at jZ;cases jZ
   exact⟨a,_,rfl,ao6,λq sS=>by rw[SF q sS];exact .inr ⟨aY,js g2⟩,λbb n=>⟨λh=>(by cases h),λ⟨i,au,bp,_⟩=>absurd (bp.trans e) (aQ dk fb i au)⟩⟩
  rw[bf e]at jZ
  obtain⟨t,g,rfl,bZ,a2,a3⟩:=az ln r jZ
  obtain⟨dD,eg⟩:=hold t g bZ
  exact⟨t,g,rfl,dD,λq sS=>.inl (a2 q ((eg q).1 sS)),a3⟩
 ·rw[vY]at jZ
  by_cases e:ln=dk
  ·rw[bk e]at jZ;cases jZ
  rw[bf e]at jZ;exact aQ ln jZ
 rw[vY]at kU lK
 have an:∀ln fv,dO em ln=some (some fv)->∀q,q=a->¬Own bT fv q:=λln fv Cr q e sS=>by
  obtain⟨t,g,e',bZ,_⟩:=az ln _ Cr;cases e';have:=(hold fv g bZ).2 q |>.1 sS;exact aY (by rw[<-e];exact bZ.A8 this)
 by_cases ar:T9=dk
 ·rw[bk ar]at kU;cases kU
  by_cases aK:Ou=dk
  ·exact dm (ar.trans aK.symm)
  rw[bf aK]at lK
  exact an Ou t2 lK q (SF q jY) q3
 rw[bf ar]at kU
 by_cases aK:Ou=dk
 ·rw[bk aK]at lK;cases lK
  exact an T9 t1 kU q (SF q q3) jY
 rw[bf aK]at lK
 obtain⟨t,g,e',bZ,_⟩:=az T9 _ kU
 cases e'
 obtain⟨fv,dY,TF,Ov,_⟩:=az Ou _ lK
 cases TF
 exact a7 _ _ _ _ kU lK dm q (((hold _ _ bZ).2 q).1 jY) (((hold _ _ Ov).2 q).1 q3)
def ao7{s:aD}(h:cA s){hp:aL Cell}{m:Nat}{l:aa aS}{own:Nat->Prop}(hq:px s hp m l own)(fQ:∀q,own q->q∈da hp)(ao:kp s 1 l){i:aS}(au:om s 1 i)(aW:eH l i.bl=none):
 cM (Gu hp ⟨0,32,⟨some m⟩⟩ i) (λhp'=>px s hp' m (l++[i]) (n9 own hp hp')∧er hp hp' own):=by
 obtain⟨em,oo,ae,az,aQ,a7,_⟩:=hq.ok
 unfold Gu
 refine .eq (Ri h au.gf _) (.eq I (.eq oo (.eq I ?_)))
 simp only
 refine .bind (P:=λm1=>px s m1 m l (n9 own hp m1)∧er hp m1 own∧∃Ua t,lA m1 m=some Ua∧dO Ua (iy (fl i.bl))=some (some t)) (.cond (λak=>?_) λak=>.ret ?_) λm1 cc=>?_
 ·have fb:dO em (iy (fl i.bl))=none:=by
   cases bH:dO em (iy (fl i.bl))with
   |none=>rfl
   | some r=>
     obtain⟨t,_,rfl,_⟩:=az _ _ bH
     rw[bH]at ak;cases ak
  unfold LY
  refine .bind (P:=λr=> ∃a,a∉da hp∧r=((some a:Ref),(a,Cell.lb ({(default:hj)with hG:=32}))::hp)) (.eq I (.mk λa aY=>.ret ⟨a,aY,rfl⟩)) λbm bp=>?_
  obtain⟨a,aY,rfl⟩:=bp
  have kW:lA ((a,Cell.lb ({(default:hj)with hG:=32}))::hp) m=some em:=(LV (hp:=hp) (by rw[kV,bf (HG aY (pw oo))])).trans oo
  obtain⟨g1,g2,g3⟩:=arA hq oo fb aY (z:= {(default:hj)with hG:=32}) I I
  refine .eq kW (.eq I (.ret ⟨g1,g2,_,a,g3,by rw[vY,bk I]⟩))
 ·cases bH:dO em (iy (fl i.bl))with
  |none=>rw[bH]at ak;cases ak
  | some r=>
    obtain⟨t,_,rfl,_⟩:=az _ _ bH
    exact⟨hq.mono λq hq=>.inl hq,.refl,em,t,oo,bH⟩
 obtain⟨g1,g2,Ua,t,g3,g4⟩:=cc
 refine .eq g3 (.eq I ?_)
 simp only[g4]
 refine .bind (arz h g1 (λq hq=>hq.elim (λhq=>g2.keys q (fQ q hq)) λhq=>hq.2) ao au aW g3 g4) λr aE=>.ret ?_
 exact⟨aE.1.mono λq hq=>agq g2.keys aE.2.keys hq,g2.grow aE.2⟩
def Yh{hp:aL Cell}{p:Nat}{k:Cell}{x:eF}{y:aA Nat}{n:Nat}(h:pat hp p=some k):rI (cF hp p (.u9 x y n)) p=some (x,y,n):=by unfold rI;rw[sr h]
def ao8{s:aD}(h:cA s){k:Nat}(hk:k<4){hp:aL Cell}{q:Nat}{l:aa aS}{own:Nat->Prop}(hq:D7 s k hp q l own)(ao:kp s k l){i:aS}(au:om s k i)(kc:kh l i.cU=false)(hlen:l.length<900):
 cM (GR hp ⟨some q⟩ i) (λhp'=>D7 s k hp' q (l++[i]) (n9 own hp hp')∧er hp hp' own):=by
 obtain⟨key,cap,h1,ae⟩:=hq.ok
 unfold GR
 refine .eq I (.eq h1 (.eq (alK h hk ao.ok au hlen) (.any λaw=>.eq I (.ret ?_))))
 rw[kc]
 exact⟨⟨aw.1,aw.2,Yh (A5 h1),.inl ae⟩,.up ae⟩
def ao9{s:aD}(h:cA s){k:Nat}(hk:k<4){hp:aL Cell}{f:iz}{l:aa aS}{own:Nat->Prop}(hq:tp s k hp f l own)(fQ:∀q,own q->q∈da hp)(ao:kp s k l){i:aS}(au:om s k i)(aW:eH l i.bl=none)(kc:kh l i.cU=false)(hlen:l.length<900):
 cM (PF hp f i) (λhp'=>tp s k hp' f (l++[i]) (n9 own hp hp')∧er hp hp' own):=by
 rcases hq with⟨rfl,q,rfl,hq⟩|⟨rfl,m,rfl,hq⟩|⟨dh,q,rfl,hq⟩
 ·exact cM.of ((ary h hq ao au aW).mono λhp' aE=>⟨.inl ⟨rfl,q,rfl,aE.1⟩,aE.2⟩)
 ·exact(ao7 h hq fQ ao au aW).mono λhp' aE=>⟨.inr (.inl ⟨rfl,m,rfl,aE.1⟩),aE.2⟩
 exact(ao8 h hk hq ao au kc hlen).mono λhp' aE=>⟨.inr (.inr ⟨dh,q,rfl,aE.1⟩),aE.2⟩
def QT{α β:Type}[DecidableEq α]:∀{l:aa (α×β)} {x:α} {v:β},dO l x=some v->(x,v)∈l
 |[],_,_,h=>by cases h
 | (k,w)::r,x,v,h=>by
   unfold dO at h;split at h
   ·rename_i e;cases h;rw[e];simp
   exact fM _ (QT h)
def YV{α β:Type}[DecidableEq α]:∀{l:aa (α×β)} {x:α} {v:β},l.Pairwise (λa c=>a.1≠c.1)->(x,v)∈l->dO l x=some v
 |[],_,_,_,h=>by cases h
 | (k,w)::r,x,v,aM,h=>by
   obtain⟨h1,ae⟩:=mK.1 aM;unfold dO;rcases dW.1 h with h|h
   ·cases h;rw[bk I]
   rw[bf (λe=>h1 _ h e.symm),YV ae h]
def Yi{α β:Type}[DecidableEq α]:∀{l:aa (α×β)} {x:α} {v:β},dO l x=none->gb l x v=l++[(x,v)]
 |[],_,_,_=>rfl
 | (k,w)::r,x,v,h=>by
   unfold dO at h;split at h
   ·cases h
   rename_i e;show(if x=k then _ else _)=_;rw[bf e,Yi h];rfl
def wO(em:aa (Int×aS))(l:aa aS):Prop:=em.Perm (l.map λi=>(i.cU,i))
def wO.get{s:aD}{k:Nat}{em:aa (Int×aS)}{l:aa aS}(h:wO em l)(ao:nN s k l)(n:Int)(i:aS):dO em n=some i↔i∈l∧i.cU=n:=by
 have hd:em.Pairwise (λa c=>a.1≠c.1):=by
  refine(h.pairwise_iff λcB=>zQ cB).2 ?_;rw[F4];exact ao.num.imp λcB=>cB
 have hm:(n,i)∈em↔i∈l∧i.cU=n:=by
  rw[h.mem_iff,gJ];constructor
  ·rintro ⟨c,ak,e⟩;cases e;exact⟨ak,rfl⟩
  rintro ⟨au,rfl⟩;exact⟨i,au,rfl⟩
 rw[<-hm];exact⟨QT,YV hd⟩
def wO.no{s:aD}{k:Nat}{em:aa (Int×aS)}{l:aa aS}(h:wO em l)(ao:nN s k l)(n:Int):(dO em n).isSome=kh l n:=by
 rw[oG,OV];unfold kh;rw[pc];constructor
 ·rintro ⟨i,au⟩;obtain⟨h1,ae⟩:=(h.get ao n i).1 au;exact⟨i,h1,by simpa using ae⟩
 rintro ⟨i,au,ae⟩;exact⟨i,(h.get ao n i).2 ⟨au,by simpa using ae⟩⟩
structure kK(s:aD)(k:Nat)(hp:aL Cell)(p:Nat)(l:List aS)(own:Nat->Prop):Prop where
 mJ:kp s k l
 cell:∃f m em,jb hp p=some ⟨rl k,(OI s k:Int),f,⟨some m⟩⟩∧mu hp m=some em∧own p∧own m∧wO em l∧tp s k hp f l (λq=>own q∧q≠m∧q≠p)
 nO:∀q,own q->q∈da hp
def kK.H5{s:aD}{k:Nat}{hp hp':aL Cell}{p:Nat}{l:aa aS}{own:Nat->Prop}(h:kK s k hp p l own)(hk:∀q,own q->q∈da hp')(aY:∀q,own q->pat hp' q=pat hp q):kK s k hp' p l own:=by
 obtain⟨f,m,em,h1,ae,az,aQ,a7,bp⟩:=h.cell;exact⟨h.mJ,⟨f,m,em,by rw[ag6 (aY p az)];exact h1,by rw[ag7 (aY m aQ)];exact ae,az,aQ,a7,bp.congr (λq _ hq=>hq) λq hq=>aY q hq.1⟩,hk⟩
def kK.congr{s:aD}{k:Nat}{hp hp':aL Cell}{p:Nat}{l:aa aS}{own:Nat->Prop}(h:kK s k hp p l own)(hk:∀q,q∈da hp->q∈da hp')(aY:∀q,own q->pat hp' q=pat hp q):kK s k hp' p l own:=h.H5 (λq hq=>hk q (h.nO q hq)) aY
def kK.qT{s:aD}{k:Nat}{hp hp':aL Cell}{p:Nat}{l:aa aS}{own own':Nat->Prop}(h:kK s k hp p l own)(hk:er hp hp' own')(hd:∀q,own q->¬own' q):kK s k hp' p l own:=
 h.congr hk.keys λq hq=>hk.rest q (h.nO q hq) (hd q hq)
def entry_eq{s:aD}(h:cA s){k:Nat}(hk:k<4){hp:aL Cell}{p:Nat}{l:aa aS}{own:Nat->Prop}(an:kK s k hp p l own){o:aA aS}(a8:∀i,o=some i->i∈l):GI hp (some p) (qB o).1 (qB o).2=some (Cq o):=by
 obtain⟨f,m,em,h1,ae,az,aQ,a7,bp⟩:=an.cell;refine bd.get ?_;unfold GI;cases o with
 |none=>exact .cond (λ_=>.ret I) λak=>by cases ak
 | some i=>
   have au:=a8 i I
   refine .cond (λak=>by cases ak) λ_=>.eq rfl (.eq h1 (.eq rfl (.eq ae (.eq rfl ?_))))
   have bH:dO em i.cU=some i:=(a7.get an.mJ.ok _ _).2 ⟨au,rfl⟩
   show bd (Option.bind (s9 ((dO em i.cU).getD default)) _) _
   rw[bH]
   exact .eq (H2 h hk (an.mJ.ok.ok i au)) (.ret I)
def Rj{s:aD}(h:cA s){k:Nat}(hk:k<4){hp:aL Cell}{p:Nat}{l:aa aS}{own:Nat->Prop}(an:kK s k hp p l own){e:aO}(he:gu s k e):zE hp (some p) e=some (Cq (eH l e)):=by
 obtain⟨f,m,em,h1,ae,az,aQ,a7,bp⟩:=an.cell;refine bd.get ?_;unfold zE;refine .cond (λak=>by cases ak) λ_=>.eq rfl (.eq h1 (.eq (aa1 h hk bp an.mJ he) (.eq (entry_eq h hk an λi au=>(Af au).1) (.ret rfl))))
def alN{s:aD}{k:Nat}{hp:aL Cell}{p:Nat}{l:aa aS}{own:Nat->Prop}(an:kK s k hp p l own):GV hp (some p)=some (l.length:Int):=by
 obtain⟨f,m,em,h1,ae,az,aQ,a7,bp⟩:=an.cell;have ao:em.length=l.length:=by rw[a7.length_eq,kf]
 refine bd.get ?_;unfold GV;refine .cond (λak=>by cases ak) λ_=>.eq rfl (.eq h1 (.eq rfl (.eq ae ?_)));rw[ao];first|exact .ret I|exact .eq I (.ret I)
def kK.mono{s:aD}{k:Nat}{hp:aL Cell}{p:Nat}{l:aa aS}{own own':Nat->Prop}(h:kK s k hp p l own)(a8:∀q,own q->own' q)(au:∀q,own' q->q∈da hp):kK s k hp p l own':=by
 obtain⟨f,m,em,h1,ae,az,aQ,a7,bp⟩:=h.cell;exact⟨h.mJ,⟨f,m,em,h1,ae,a8 p az,a8 m aQ,a7,bp.congr (λq _ hq=>⟨a8 q hq.1,hq.2⟩) λq hq=>rfl⟩,au⟩
def kp.nil{s:aD}{k:Nat}:kp s k []:=⟨⟨λi au=>by(cases au),.nil,by simp⟩,.nil⟩
def r1:Nat->Prop:=λ_=>False
def alO{s:aD}(h:cA s){k:Nat}(hk:k<4)(hp:aL Cell):cM (DH hp s ((k:Int)+1)) (λr=> ∃p,r.1=some p∧kK s k r.2 p [] (n9 r1 hp r.2)∧er hp r.2 r1):=by
 refine(ao2 h hk hp).mono λr aE=>?_;obtain⟨p,e,aE⟩:=aE;obtain⟨c,m,h1,ae,az,aQ,a7,bp,cO,dJ,e5,mA,sR,Co⟩:=aE.cell;obtain⟨Ku,ks,f,cj⟩:=c;simp only at ae az aQ bp cO dJ;subst ae az aQ;have hm:=ti a7;have hp':=A3 h1;refine⟨p,e,⟨kp.nil,⟨f,m,[],h1,a7,.inr ⟨e5,js hp'⟩,.inr ⟨mA,js hm⟩,Lg _,?_⟩,λq hq=>hq.elim (λh=>h.elim) λh=>h.2⟩,⟨sR,λq hq _=>Co q hq⟩⟩;have key:∀q c,pat r.2 q=some c->(∀x,c≠ .l6 x)->(∀x,c≠ .qe x)->q∉da hp->n9 r1 hp r.2 q∧q≠m∧q≠p:=λq c ak gG h6 aM=>
  ⟨.inr ⟨aM,js ak⟩,λe=>by rw[e,hm]at ak;cases ak;exact gG _ I,λe=>by rw[e,hp']at ak;cases ak;exact h6 _ I⟩
 have:k=0∨k=1∨2<=k:=by omega
 rcases this with rfl|rfl|dh
 ·obtain⟨q,m2,rfl,g1,g2,g3,g4⟩:=bp I;exact .inl ⟨rfl,q,rfl,⟨m2,[],g1,g2,key q _ (H4 g1) (λ_ h=>by cases h) (λ_ h=>by cases h) g3,key m2 _ (uO g2) (λ_ h=>by cases h) (λ_ h=>by cases h) g4,λdk n=>⟨λh=>(by cases h),λ⟨i,au,_⟩=>(by cases au)⟩,.nil⟩⟩
 ·obtain⟨m3,rfl,g1,g2⟩:=cO I;exact .inr (.inl ⟨rfl,m3,rfl,⟨[],g1,key m3 _ (pw g1) (λ_ h=>by cases h) (λ_ h=>by cases h) g2,λdk r h=>(by cases h),λdk _ i au=>(by cases au),λdk ln t fv h=>(by cases h),.nil⟩⟩)
 obtain⟨q,at2,cap,rfl,g1,g2⟩:=dJ dh;exact .inr (.inr ⟨dh,q,rfl,⟨at2,cap,g1,key q _ (A5 g1) (λ_ h=>by cases h) (λ_ h=>by cases h) g2⟩⟩)
def kp.snoc{s:aD}{k:Nat}{l:aa aS}(h:kp s k l){i:aS}(au:om s k i)(aW:eH l i.bl=none)(aM:kh l i.cU=false)(ao:l.length<900):kp s k (l++[i])where
 ok:=h.ok.snoc au aM ao
 key:=by
  rw[KN];exact⟨h.key,by simp,λa aY c ak=>by rw[hi.1 ak];exact wb aW a aY⟩
def ajc{hp:aL Cell}{p:Nat}{k:Cell}{x:aa (Int×aS)}(h:pat hp p=some k):mu (cF hp p (.l6 x)) p=some x:=by unfold mu;rw[sr h]
def Zx(o:aA aS):(qB o).2=o.isSome:=by cases o <;> rfl
def yW(l:aa aS)(i:aS):Bool:=(eH l i.bl).isNone&& !kh l i.cU
def added(l:aa aS)(i:aS):aa aS:=if yW l i=true then l++[i]else l
def alP{s:aD}(h:cA s){k:Nat}(hk:k<4){hp:aL Cell}{p:Nat}{l:aa aS}{own:Nat->Prop}(an:kK s k hp p l own){i:aS}(au:om s k i)(hlen:l.length<900):
 cM (zH hp (some p) i) (λr=>r.1=yW l i∧kK s k r.2 p (added l i) (n9 own hp r.2)∧er hp r.2 own):=by
 obtain⟨f,m,em,h1,ae,az,aQ,a7,bp⟩:=an.cell
 have hm:=ti ae
 have hp':=A3 h1
 have lk:p≠m:=λe=>by rw[e,hm]at hp';cases hp'
 have fb:=a7.no an.mJ.ok i.cU
 unfold zH
 refine .cond (λak=>by cases ak) λ_=>.eq rfl (.eq h1 (.eq rfl (.eq ae (.eq rfl (.eq rfl (.eq h1 (.eq (aa1 h hk bp an.mJ au.gf) (.cond (λak=>.ret ?_) λak=>?_))))))))
 ·rw[fb,Zx,nW]at ak
  have bE:yW l i=false:=by
   unfold yW;rcases ak with ak|ak
   ·cases aW:eH l i.bl with
    |none=>rw[aW]at ak;cases ak
    |some _=>rfl
   rw[ak];simp
  refine⟨bE.symm,?_,.refl⟩
  unfold added
  rw[bE]
  exact an.mono (λq hq=>.inl hq) λq hq=>hq.elim (an.nO q) λhq=>absurd hq.2 hq.1
 rw[fb,Zx,Vh]at ak
 obtain⟨c1,c2⟩:=ak
 have aW:eH l i.bl=none:=by
  cases aW:eH l i.bl with
  |none=>rfl
  |some _=>rw[aW]at c1;cases c1
 have bE:yW l i=true:=by unfold yW;rw[aW,c2];rfl
 have bH:dO em i.cU=none:=by
  cases bH:dO em i.cU with
  |none=>rfl
  |some _=>rw[bH,c2]at fb;cases fb
 have aw:pat (cF hp m (Cell.l6 (gb em i.cU i))) p=some (.qe ⟨rl k,(OI s k:Int),f,⟨some m⟩⟩):=by rw[mP lk.symm];exact hp'
 have f1:tp s k (cF hp m (Cell.l6 (gb em i.cU i))) f l (λq=>own q∧q≠m∧q≠p):=bp.congr (λq _ hq=>hq) λq hq=>mP hq.2.1.symm
 refine .eq I (.eq h1 (.eq (H2 h hk au) (.eq I (.eq ae (.eq I (.eq (by unfold jb;rw[aw]) (.bind (ao9 h hk f1 (λq hq=>by rw[qN];exact an.nO q hq.1) an.mJ au aW c2 hlen) λhz aE=>.ret ⟨bE.symm,?_,?_⟩)))))))
 ·obtain⟨ke,fz⟩:=aE
  have bZ:pat hz p=some (.qe ⟨rl k,(OI s k:Int),f,⟨some m⟩⟩):=by rw[fz.rest p (js aw) (λhq=>hq.2.2 I)];exact aw
  have a2:pat hz m=some (.l6 (gb em i.cU i)):=by
   have:pat (cF hp m (Cell.l6 (gb em i.cU i))) m=some (.l6 (gb em i.cU i)):=sr hm;rw[fz.rest m (js this) (λhq=>hq.2.1 I)];exact this
  unfold added
  rw[bk bE]
  refine⟨an.mJ.snoc au aW c2 hlen,⟨f,m,_,by unfold jb;rw[bZ],by unfold mu;rw[a2],.inl az,.inl aQ,?_,ke.congr (λq _ hq=>?_) λq _=>rfl⟩,λq hq=>?_⟩
  ·unfold wO
   rw[Yi bH,pT]
   exact List.Perm.append_right _ a7
  ·rcases hq with hq|⟨g1,g2⟩
   ·exact⟨.inl hq.1,hq.2⟩
   rw[qN]at g1
   exact⟨.inr ⟨g1,g2⟩,λe=>g1 (e▸js hm),λe=>g1 (e▸js hp')⟩
  rcases hq with hq|hq
  ·exact fz.keys q (by rw[qN];exact an.nO q hq)
  exact hq.2
 exact(er.up (own:=own) aQ).trans aE.2 λq _ hq=>hq.1
def Rk{hp hp':aL Cell}{root:Ref}{ws:aa Bool}{b:Bool}{p q:Nat}{c xi:eT}(bE:rH hp root)(hw:dc hp root ws=some p)(ak:cX hp p=some c)(hq:ck c.dL (fE b)=some q)(qv:cX hp q=some xi)(ao:∀x,ck xi.dL (fE x)=none)
 (bT:cX hp' p=some {c with dL:=eh c.dL (fE b) none}) (hz:∀x,x≠p->cX hp' x=cX hp x):
 ∀(bb us:aa Bool) (r:Nat),dc hp root us=some r->us≠ws++[b]->dc hp' (some r) bb=if us++bb=ws++[b]then none else dc hp (some r) bb
 | [],us,r,hu,dm=>by
   rw[mM,bf dm];rfl
 | x::xs,us,r,hu,dm=>by
   obtain⟨UK,w5⟩:=bE.reads us r hu;by_cases o2:r=p
   ·subst o2;have TX:=bE.inj us ws r hu hw;subst TX;rw[ak]at w5;cases w5;rw[iP bT,iP ak];simp only;have ch:fE b<2:=by cases b <;> decide
    rw[jG _ _ ch];by_cases Cm:x=b
    ·subst Cm;rw[bk I,hq,hn];by_cases h:xs=[]
     ·subst h;rw[bk I]
     have fb: ¬us++x::xs=us++[x]:=λe=>h (by have:=KI e;simpa using this);rw[bf fb];cases xs with
     |nil=>exact absurd I h
     |cons y ys=>rw[iP qv,ao,hn]
    have atd: ¬fE x=fE b:=λe=>Cm (by cases x <;> cases b <;> first|rfl|cases e);have fb:∀ys,¬us++x::ys=us++[b]:=λys e=>Cm (by have:=KI e;simpa using (List.cons.inj this).1);rw[bf atd,bf (fb xs)];cases e:ck c.dL (fE x)with
    |none=>rw[hn,hn]
    | some nn=>
      have o1:dc hp root (us++[x])=some nn:=by rw[ps,hu,iP ak,e,qO]
      rw[Rk bE hw ak hq qv ao bT hz xs (us++[x]) nn o1 (fb []),jE,List.singleton_append,bf (fb xs)]
   have h1:cX hp' r=some UK:=by rw[hz r o2];exact w5
   rw[iP h1,iP w5];have arB:us++[x]≠ws++[b]:=λe=>by
    have:=O0 e I;subst this;rw[hu]at hw;cases hw;exact o2 I
   cases e:ck UK.dL (fE x)with
   |none=>rw[hn,hn];split <;> rfl
   | some nn=>
     have o1:dc hp root (us++[x])=some nn:=by rw[ps,hu,iP w5,e,qO]
     rw[Rk bE hw ak hq qv ao bT hz xs (us++[x]) nn o1 arB,jE,List.singleton_append]
def cut{hp hp':aL Cell}{r:Nat}{ws:aa Bool}{b:Bool}{p q:Nat}{c xi:eT}(bE:rH hp (some r))(hw:dc hp (some r) ws=some p)(ak:cX hp p=some c)(hq:ck c.dL (fE b)=some q)(qv:cX hp q=some xi)(ao:∀x,ck xi.dL (fE x)=none)(hu:xi.gr=false)
 (bT:cX hp' p=some {c with dL:=eh c.dL (fE b) none}) (hz:∀x,x≠p->cX hp' x=cX hp x):
 rH hp' (some r)∧(∀bb,dc hp' (some r) bb=if bb=ws++[b]then none else dc hp (some r) bb)∧∀bb,cont hp' (some r) bb=cont hp (some r) bb:=by
 have aW:∀bb,dc hp' (some r) bb=if bb=ws++[b]then none else dc hp (some r) bb:=λbb=>Rk bE hw ak hq qv ao bT hz bb [] r I (by simp)
 have TY:dc hp (some r) (ws++[b])=some q:=by rw[ps,hw,iP ak,hq,qO]
 refine⟨⟨λbb x h=>?_,λbb cs x h1 ae=>?_,λbb x h=>?_⟩,aW,λbb=>?_⟩
 ·rw[aW]at h
  split at h
  ·cases h
  obtain⟨jP,h1⟩:=bE.reads bb x h
  by_cases e:x=p
  ·subst e;exact⟨_,bT⟩
  exact⟨jP,by rw[hz x e];exact h1⟩
 ·rw[aW]at h1 ae
  split at h1 <;> split at ae
  ·cases h1
  ·cases h1
  ·cases ae
  exact bE.inj bb cs x h1 ae
 ·rw[aW]at h
  split at h
  ·cases h
  exact bE.dep bb x h
 by_cases e:bb=ws++[b]
 ·subst e
  rw[mT (by rw[aW,bk I]),l1 TY qv,hu];rfl
 have Cn:dc hp' (some r) bb=dc hp (some r) bb:=by rw[aW,bf e]
 cases h:dc hp (some r) bb with
 |none=>rw[mT h,mT (Cn.trans h)]
 | some x=>
   obtain⟨jP,h1⟩:=bE.reads bb x h
   by_cases eq:x=p
   ·subst eq
    rw[ak]at h1;cases h1
    rw[l1 h ak,l1 (Cn.trans h) bT]
   rw[l1 h h1,l1 (Cn.trans h) (by rw[hz x eq];exact h1)]
structure Td(iU hp:aL Cell)(t:Nat)(g:List Bool->Option Int)(r:Nat):Prop where
 cell:∃c,ga hp t=some c∧c.hG=32∧c.e7=some r
 tree:rH hp (some r)
 cont:∀bb,cont hp (some r) bb=g bb
 keeps:er iU hp (Own iU t)
 own:∀bb q,dc hp (some r) bb=some q->Own iU t q
def empty_eq{hp:aL Cell}{p:Nat}{c:eT}(h:cX hp p=some c):Dl hp (some p)=some (!c.gr&&decide (c.dL=default)):=by
 refine bd.get ?_;unfold Dl;refine .eq I (.eq h ?_);refine .b4 (P:=λr=>r=p) (λ_=>⟨p,rfl,rfl⟩) λo h1=>?_;refine .b4 (P:=λr=>r=c) (λae=>⟨c,by rw[h1 ae];exact h,rfl⟩) λc2 ae=>.ret ?_;cases hu:c.gr with
 |true=>rfl
 |false=>rw[ae (by rw[hu];rfl)]
def ain(v:aV)(n:Nat):(eN v n).length=n:=by unfold eN;simp
def aio(v:aV){i n:Nat}(h:i<=n):eN v n=eN v i++(eN v n).drop i:=by
 have:eN v i=(eN v n).take i:=by unfold eN;rw[<-List.map_take,List.take_range];congr 2;omega
 rw[this,gp]
def Mx{hp:aL Cell}{r:Ref}{v:aV}{i n:Nat}(h:i<=n){p:Nat}(hp':dc hp r (eN v n)=some p):∃q,dc hp r (eN v i)=some q:=by
 rw[aio v h,ps]at hp';cases e:dc hp r (eN v i)with
 |none=>rw[e,hn]at hp';cases hp'
 |some q=>exact⟨q,rfl⟩
def aip{hp:aL Cell}{t:Nat}{g:aa Bool->aA Int}(h:kA hp t g){n:Nat}(aM:n<=32){v:aV}(ba:∀j,j<128->cT v j=true->lead 32 n j=true){id:Int}(bH:g (eN v n)=some id):
 bd (Dh hp (some t) v n) (λr=>r.1=true∧kA r.2 t (λbb=>if bb=eN v n then none else g bb)∧er hp r.2 (Own hp t)∧∀q,Own r.2 t q->Own hp t q):=by
 obtain⟨c,ak,hb,bE,Ub⟩:=h.ok
 have arC:∃p,dc hp c.e7 (eN v n)=some p:=by
  cases e:dc hp c.e7 (eN v n)with
  |none=>rw[<-Ub,mT e]at bH;cases bH
  |some p=>exact⟨p,rfl⟩
 obtain⟨zb,kS⟩:=arC
 have apa:∃r,c.e7=some r:=by
  obtain⟨q,hq⟩:=Mx (vS n) kS;rw[W6,qO]at hq;exact⟨q,hq⟩
 obtain⟨r,aE⟩:=apa
 rw[aE]at bE Ub kS
 unfold Dh
 refine .eq (Zv h aM ba) ?_
 rw[bH]
 refine .cond (λak=>by cases ak) λ_=>.eq rfl (.eq ak (.eq rfl ?_))
 rw[aE]
 show bd (Option.bind (vK hp (n:Int) v (some t) _ _) _) _
 refine bd.bind (P:=λe:(aa Int×aa Ref)⊕Empty=> ∃bits pK,e=.inl (bits,pK)∧pK.length=n+1∧bits.length=n∧(∀j,j<=n->av pK j=dc hp (some r) (eN v j))∧∀j,j<n->av bits j=((fE (cT v (31-j)):Nat):Int))
  (aa0 ak hb v aM (λi s=> ∃bits pK,s=(bits,pK)∧pK.length=i+1∧bits.length=i∧(∀j,j<=i->av pK j=dc hp (some r) (eN v j))∧∀j,j<i->av bits j=((fE (cT v (31-j)):Nat):Int)) ⟨[],[some r],rfl,rfl,rfl,λj aC=>?_,λj aC=>by omega⟩ (λi s au hs=>?_) (λs hs=>?_)) λe he=>?_
 ·have:j=0:=by omega
  subst this
  rw[W6,qO];rfl
 ·obtain⟨bits,pK,rfl,h1,ae,az,aQ⟩:=hs
  obtain⟨q,hq⟩:=Mx (show i<=n by omega) kS
  obtain⟨d,hd⟩:=bE.reads _ _ hq
  have hw:bu ((pK.length:Int)-1)=(i:Int):=by rw[hX (by omega) (by omega)];omega
  simp only[hw]
  have ch:fE (cT v (31-i))<2:=by cases cT v (31-i) <;> decide
  refine .idx I (by omega) (.eq (a:=q) (by rw[az i (jF _)];exact hq) (.idx I ch (.eq hd (.eq (fN _ _ (by simp;omega) (by omega)) (.eq (fN _ _ (by simp;omega) (by omega)) (.ret ⟨_,_,rfl,by simp;omega,by simp;omega,λj aC=>?_,λj aC=>?_⟩))))))
  ·rw[L8]
   by_cases lj:j=pK.length
   ·rw[bk lj,show j=i+1 by omega,L4,ps,hq,iP hd,qO]
   rw[bf lj];exact az j (by omega)
  rw[L8]
  by_cases lj:j=bits.length
  ·rw[bk lj,show j=i by omega]
  rw[bf lj];exact aQ j (by omega)
 ·exact⟨s.1,s.2,by obtain⟨bits,pK,rfl,_⟩:=hs;rfl,by obtain⟨bits,pK,rfl,h⟩:=hs;exact h⟩
 obtain⟨bits,pK,rfl,h1,ae,az,aQ⟩:=he
 simp only[Sum.elim_inl]
 obtain⟨d,hd⟩:=bE.reads _ _ kS
 have T5:=sj.1 hd
 have ic:cX (cF hp zb (.gW {d with gr:=false})) zb=some {d with gr:=false}:=DS T5
 refine .idx I (by omega) (.eq (a:=zb) (by rw[az n (jF _)];exact kS) (.eq hd (.eq I (.eq ic (.eq I ?_)))))
 generalize cJ:cF (cF hp zb (.gW {d with gr:=false})) zb (.gW {d with gr:=false,kH:=0})=cQ
 have hR:=Np hd ak
 have B0:cX cQ zb=some {d with gr:=false,kH:=0}:=by rw[<-cJ];exact DS (sj.1 ic)
 have Te:∀q,q≠zb->pat cQ q=pat hp q:=λq hq=>by rw[<-cJ,mP hq.symm,mP hq.symm]
 obtain⟨s1,s2⟩:=ab4 bE kS hd B0 I λq hq=>zX (Te q hq)
 have adG:=HP hd B0 I λq hq=>zX (Te q hq)
 have ate:ga cQ t=some c:=by rw[LS (Te t hR.symm)];exact ak
 have aa2:Own hp t zb:=.inr ⟨c,_,ak,by rw[aE];exact kS⟩
 have dh:er hp cQ (Own hp t):=by
  rw[<-cJ];exact(er.up (own:=Own hp t) aa2).trans (er.up aa2) λq _ h=>h
 have m0:Td hp cQ t (λbb=>if bb=eN v n then none else g bb) r:=⟨⟨c,ate,hb,aE⟩,s1,λbb=>by
  rw[s2];by_cases e:bb=eN v n
  ·rw[bk e];simp only[bk e];rfl
  rw[bf e];simp only[bf e];exact Ub bb,dh,λbb q hq=>.inr ⟨c,bb,ak,by rw[aE,<-adG];exact hq⟩⟩
 have yI:bu ((n:Int)-1)=(n:Int)-1:=hX (by omega) (by omega)
 rw[yI]
 refine bd.bind (P:=λaK=>Td hp aK.2.2 t (λbb=>if bb=eN v n then none else g bb) r) (bd.l4 n (λi st=> ∃hq,st=((n:Int)-1-(i:Int),hq)∧Td hp hq t (λbb=>if bb=eN v n then none else g bb) r∧∀j,j+i<=n->dc hq (some r) (eN v j)=av pK j) (by omega) ⟨cQ,by simp,m0,λj aC=>by rw[adG,az j (by omega)]⟩ (λi st au hs=>?_) (λst hs=>?_)) λaK me=>?_
 ·obtain⟨hq,rfl,hm,Tf⟩:=hs
  have ar:(n:Int)-1-(i:Int)=((n-1-i:Nat):Int):=by omega
  have aK:bu ((n:Int)-1-(i:Int)+1)=((n-i:Nat):Int):=by rw[hX (by omega) (by omega)];omega
  have cr:bu ((n:Int)-1-(i:Int)-1)=(n:Int)-1-((i+1:Nat):Int):=by rw[hX (by omega) (by omega)];omega
  simp only[aK,cr]
  have wZ:decide ((n:Int)-1-(i:Int)>=0)=true:=by rw[fk];omega
  simp only[wZ]
  have jY:=Tf (n-i) (by omega)
  have J7:=Tf (n-1-i) (by omega)
  obtain⟨ai,gR⟩:=Mx (show n-i<=n by omega) kS
  obtain⟨ab,N9⟩:=Mx (show n-1-i<=n by omega) kS
  rw[az _ (by omega),gR]at jY
  rw[az _ (by omega),N9]at J7
  obtain⟨c1,dF⟩:=hm.tree.reads _ _ jY
  obtain⟨vB,q6⟩:=hm.tree.reads _ _ J7
  refine .b4 (P:=λc0=>c0=n-i) (λ_=>⟨_,pr (by omega),rfl⟩) λc0 iq=>?_
  rw[iq I]
  have TK:av pK (n-i)=some ai:=by rw[az _ (by omega)];exact gR
  have atf:av pK (n-1-i)=some ab:=by rw[az _ (by omega)];exact N9
  refine .b4 (P:=λy=>y=(!c1.gr&&decide (c1.dL=default))) (λ_=>⟨_,by rw[TK];exact empty_eq dF,rfl⟩) λbR gO=>.cond (λb2=>?_) λb2=>.ret hm
  rw[vO,gO I,gq,zq,fk]at b2
  obtain⟨bz,z2⟩:=b2
  have ch:fE (cT v (31-(n-1-i)))<2:=by cases cT v (31-(n-1-i)) <;> decide
  have apb:eN v (n-i)=eN v (n-1-i)++[cT v (31-(n-1-i))]:=by rw[<-L4,show n-1-i+1=n-i by omega]
  have tW:ck vB.dL (fE (cT v (31-(n-1-i))))=some ai:=by
   rw[apb,ps,J7,iP q6,qO]at jY;exact jY
  have iU:=sj.1 q6
  refine .idx ar (by omega) (.idx ar (by omega) (.eq atf (.idx (aQ _ (by omega)) ch (.eq q6 (.eq I (.ret ?_))))))
  obtain⟨g1,g2,g3⟩:=cut (hp':=cF hq ab (.gW {vB with dL:=eh vB.dL (fE (cT v (31-(n-1-i)))) none})) hm.tree J7 q6 tW dF (λx=>by rw[z2,LN];rfl) bz (DS iU) λx an=>xI an.symm
  obtain⟨jP,bZ,a2,a3⟩:=hm.cell
  have apc:=hm.own _ _ J7
  refine⟨_,rfl,⟨⟨jP,by rw[LU (Np q6 bZ)];exact bZ,a2,a3⟩,g1,λbb=>by rw[g3];exact hm.cont bb,hm.keeps.trans (er.up apc) λq _ h=>h,λbb q mE=>?_⟩,λj aC=>?_⟩
  ·rw[g2]at mE
   split at mE
   ·cases mE
   exact hm.own bb q mE
  rw[g2,bf (λe=>by have:=ev List.length e;simp only[gj,ain,List.length_singleton]at this;omega)]
  exact Tf j (by omega)
 ·obtain⟨hq,rfl,hm,_⟩:=hs
  have wZ:decide ((n:Int)-1-(n:Int)>=0)=false:=by rw[nr];omega
  simp only[wZ]
  refine .b4 (P:=λ_=>True) (λak=>by cases ak) λ_ _=>.b4 (P:=λ_=>True) (λak=>by cases ak) λ_ _=>.cond (λak=>by cases ak) λ_=>.ret hm
 obtain⟨jO,bZ,a2,a3⟩:=me.cell
 refine .eq bZ ?_
 rw[a3]
 obtain⟨UK,w5⟩:=me.tree.reads [] r I
 refine .eq (empty_eq w5) (.bind (P:=λm1=>kA m1 t (λbb=>if bb=eN v n then none else g bb)∧er hp m1 (Own hp t)∧∀q,Own m1 t q->Own hp t q) (.cond (λb2=>.eq I (.ret ?_)) λ_=>.ret ?_) λm1 cc=>.ret ⟨rfl,cc⟩)
 ·rw[gq,zq,fk]at b2
  obtain⟨bz,z2⟩:=b2
  have Ol:ga (cF aK.2.2 t (.lb {jO with e7:=none})) t=some {jO with e7:=none}:=Ya (vZ.1 bZ)
  refine⟨⟨_,Ol,a2,⟨λbb p h=>(by rw[hn]at h;cases h),λbb cs p h=>(by rw[hn]at h;cases h),λbb p h=>(by rw[hn]at h;cases h)⟩,λbb=>?_⟩,me.keeps.trans (er.up (own:=Own hp t) (.inl I)) λq _ h=>h,λq hq=>?_⟩
  ·rw[mT hn,<-me.cont]
   cases bb with
   |nil=>rw[l1 (p:=r) I w5,bz];rfl
   |cons b bb=>rw[mT];rw[iP w5,z2,LN];exact hn
  rcases hq with rfl|⟨jP,bb,dD,eg⟩
  ·exact .inl I
  rw[Ol]at dD;cases dD
  rw[hn]at eg;cases eg
 refine⟨⟨jO,bZ,a2,by rw[a3];exact me.tree,λbb=>by rw[a3];exact me.cont bb⟩,me.keeps,λq hq=>?_⟩
 rcases hq with rfl|⟨jP,bb,dD,eg⟩
 ·exact .inl I
 rw[bZ]at dD;cases dD
 rw[a3]at eg
 exact me.own bb q eg
def lL(hp:aL Cell):Nat->Ref->aa Int
 |0,_=>[]
 |_+1,none=>[]
 | n+1,some p=>match cX hp p with
   |none=>[]
   |some c=>(bif c.gr then [c.kH]else [])++(lL hp n (ck c.dL 0)++lL hp n (ck c.dL 1))
def MQ{hp:aL Cell}{n p:Nat}{c:eT}(h:cX hp p=some c):lL hp (n+1) (some p)=(bif c.gr then [c.kH]else [])++(lL hp n (ck c.dL 0)++lL hp n (ck c.dL 1)):=by
 show(match cX hp p with |none=>[]|some c=>_)=_;rw[h]
def v7{hp:aL Cell}{p:Nat}{c:eT}(h:cX hp p=some c)(b:Bool)(bb:aa Bool):cont hp (some p) (b::bb)=cont hp (ck c.dL (fE b)) bb:=by
 unfold cont;rw[iP h]
def Ag{hp:aL Cell}:∀{n:Nat} {r:Ref} {id:Int},id∈lL hp n r->∃bb,cont hp r bb=some id
 |0,_,_,h=>by cases h
 |_+1,none,_,h=>by cases h
 | n+1,some p,id,h=>by
   cases ak:cX hp p with
   | none=>
     have:lL hp (n+1) (some p)=[]:=by
      show(match cX hp p with |none=>[]|some c=>_)=_;rw[ak]
     rw[this]at h;cases h
   | some c=>
     rw[MQ ak]at h
     rcases cz.1 h with h|h
     ·refine⟨[],?_⟩
      rw[l1 (p:=p) I ak]
      cases hu:c.gr with
      |true=>rw[hu]at h;rw[hi.1 h];rfl
      |false=>rw[hu]at h;cases h
     rcases cz.1 h with h|h
     ·obtain⟨bb,mE⟩:=Ag h
      exact⟨false::bb,by rw[v7 ak];exact mE⟩
     obtain⟨bb,mE⟩:=Ag h
     exact⟨true::bb,by rw[v7 ak];exact mE⟩
def Yj{hp:aL Cell}:∀{n:Nat} {r:Ref} {id:Int} {bb:aa Bool},bb.length<n->cont hp r bb=some id->id∈lL hp n r
 |0,_,_,_,ao,_=>by omega
 |n+1,none,id,bb,_,h=>by rw[mT hn]at h;cases h
 | n+1,some p,id,bb,ao,h=>by
   cases ak:cX hp p with
   | none=>
     exfalso
     cases bb with
     | nil=>
       unfold cont at h
       have:dc hp (some p) []=some p:=rfl
       rw[this]at h
       simp only[ak]at h;cases h
     | cons b bb=>
       have:dc hp (some p) (b::bb)=none:=by
        show(match cX hp p with |none=>none|some c=>dc hp (ck c.dL (fE b)) bb)=none;rw[ak]
       rw[mT this]at h;cases h
   | some c=>
     rw[MQ ak]
     cases bb with
     | nil=>
       rw[l1 (p:=p) I ak]at h
       cases hu:c.gr with
       | true=>
         rw[hu]at h
         have:c.kH=id:=by simpa using h
         rw[this];simp
       |false=>rw[hu]at h;cases h
     | cons b bb=>
       rw[v7 ak]at h
       have kX:bb.length<n:=by simp at ao;omega
       have:=Yj kX h
       cases b
       ·exact FP _ (O9 _ this)
       exact FP _ (FP _ this)
def Xv{hp:aL Cell}:∀{n:Nat} {r:Ref},(∀bb cs id,cont hp r bb=some id->cont hp r cs=some id->bb=cs)->(lL hp n r).Nodup
 |0,_,_=>PD
 |_+1,none,_=>PD
 | n+1,some p,h=>by
   cases ak:cX hp p with
   | none=>
     have:lL hp (n+1) (some p)=[]:=by
      show(match cX hp p with |none=>[]|some c=>_)=_;rw[ak]
     rw[this];exact PD
   | some c=>
     rw[MQ ak]
     have hb:∀b,(lL hp n (ck c.dL (fE b))).Nodup:=λb=>Xv λbb cs id h1 ae=>by
      have:=h (b::bb) (b::cs) id (by rw[v7 ak];exact h1) (by rw[v7 ak];exact ae);simpa using this
     rw[pS,pS]
     refine⟨by cases c.gr <;> simp,⟨hb false,hb true,λa aY jP qw e=>?_⟩,λa aY jP qw e=>?_⟩
     ·subst e
      obtain⟨bb,h1⟩:=Ag aY
      obtain⟨cs,ae⟩:=Ag qw
      have:=h (false::bb) (true::cs) a (by rw[v7 ak];exact h1) (by rw[v7 ak];exact ae)
      simp at this
     subst e
     cases hu:c.gr with
     |false=>rw[hu]at aY;cases aY
     | true=>
       rw[hu]at aY
       have aY:a=c.kH:=hi.1 aY
       have bJ:cont hp (some p) []=some a:=by rw[l1 (p:=p) I ak,hu,aY];rfl
       rcases cz.1 qw with h1|h1
       ·obtain⟨bb,h1⟩:=Ag h1
        have:=h [] (false::bb) a bJ (by rw[v7 ak];exact h1)
        cases this
       obtain⟨bb,h1⟩:=Ag h1
       have:=h [] (true::bb) a bJ (by rw[v7 ak];exact h1)
       cases this
def Yk:∀{l m:aa Int},l.Nodup->(∀x∈l,x∈m)->l.length<=m.length
 |[],m,_,_=>vS _
 | x::l,m,aM,h=>by
   obtain⟨h1,ae⟩:=pf.1 aM;have an:=h x (by simp);have:=Yk (m:=m.erase x) ae λy hy=>(Vj λe=>h1 (by rw[<-e];exact hy)).2 (h y (by simp[hy]));rw[U0 an]at this;have hp:=U8 an;simp only[List.length_cons];omega
def aiq(v:aV)(n:Int):bd (Hs v n) (λ_=>True):=by
 unfold Hs;exact .cond (λ_=>.ret cZ) λ_=>.cond (λ_=>.eq I (.ret cZ)) λ_=>.eq I (.eq I (.ret cZ))
def Rl{hp:aL Cell}{t:Nat}{c:hj}(ak:ga hp t=some c):∀(d f:Nat) (r:Ref) (aG:aV) (b5:Int) (jk:aa fe),d<f->(∀bb p,dc hp r bb=some p->bb.length<d)->(∀bb p,dc hp r bb=some p->∃c,cX hp p=some c)->jk.length+(lL hp d r).length<=20000->
 bd (zh f hp (some t) r aG b5 jk) (λo=>o.length=jk.length+(lL hp d r).length)
 |d,0,r,aG,b5,jk,aW,_,_,_=>by omega
 |0,f+1,none,aG,b5,jk,aW,hd,aE,ao=>⟨jk,rfl,rfl⟩
 |0,f+1,some p,aG,b5,jk,aW,hd,aE,ao=>by have:=hd [] p I;simp at this
 |d+1,f+1,none,aG,b5,jk,aW,hd,aE,ao=>⟨jk,rfl,rfl⟩
 | d+1,f+1,some p,aG,b5,jk,aW,hd,aE,ao=>by
   obtain⟨e,he⟩:=aE [] p I;rw[MQ he]at ao⊢;simp only[gj]at ao⊢;have tW:∀b,(∀bb q,dc hp (ck e.dL (fE b)) bb=some q->bb.length<d)∧∀bb q,dc hp (ck e.dL (fE b)) bb=some q->∃c,cX hp q=some c:=λb=>⟨λbb q hq=>by
    have:=hd (b::bb) q (by rw[iP he];exact hq);simp at this;omega,λbb q hq=>aE (b::bb) q (by rw[iP he];exact hq)⟩
   show bd (cond (some p:Ref).isNone (some jk) _) _;refine .cond (λak=>by cases ak) λ_=>?_;refine .bind (P:=λy=>y.length=jk.length+(bif e.gr then [e.kH]else []).length) ?_ λal bx=>?_
   ·unfold K1;refine .eq I (.eq he ?_);cases hu:e.gr with
    | true=>
      rw[hu]at ao
      simp only[cond_true,List.length_singleton]at ao
      refine .eq (a:=jk++[{cw:=aG,Ac:=b5,b1:=e.kH}]) ?_ (.ret (by simp))
      show(e8 32 jk _).bind _=_
      rw[fN _ _ (by simp;omega) (by omega)];rfl
    |false=>exact .eq I (.ret (by simp))
   refine .eq I (.eq he (.bind (Rl ak d f _ aG (bu (b5+1)) al (by omega) (tW false).1 (tW false).2 (by rw[bx];show _+_+(lL hp d (ck e.dL 0)).length<=_;omega)) λaF cg=>?_));have cg:aF.length=al.length+(lL hp d (ck e.dL 0)).length:=cg;refine .eq I (.eq I (.eq ak (.bind (aiq _ _) λbG _=>.eq I (.bind (Rl ak d f _ _ (bu (b5+1)) aF (by omega) (tW true).1 (tW true).2 (by rw[cg,bx];show _+_+_+(lL hp d (ck e.dL 1)).length<=_;omega)) λb8 ib=>.ret ?_))));have ib:b8.length=aF.length+(lL hp d (ck e.dL 1)).length:=ib;rw[ib,cg,bx];omega
def alQ{hp:aL Cell}{t:Nat}{g:aa Bool->aA Int}(h:kA hp t g)(au:∀bb cs id,g bb=some id->g cs=some id->bb=cs)(m:aa Int)(hm:∀bb id,g bb=some id->id∈m)(ao:m.length<=20000):bd (Dv hp (some t)) (λr=>r=0->∀bb,g bb=none):=by
 obtain⟨c,ak,hb,bE,bH⟩:=h.ok;have aM:(lL hp 33 c.e7).Nodup:=Xv λbb cs id h1 ae=>au bb cs id (by rw[<-bH];exact h1) (by rw[<-bH];exact ae);have hle:(lL hp 33 c.e7).length<=m.length:=Yk aM λx an=>by
  obtain⟨bb,mE⟩:=Ag an;exact hm bb x (by rw[<-bH];exact mE)
 unfold Dv LF KL;refine .bind (P:=λy=>y.length=(lL hp 33 c.e7).length) (.bind (P:=λy=>y.length=(lL hp 33 c.e7).length) (.bind (P:=λy=>y.length=(lL hp 33 c.e7).length) (.cond (λ_=>.eq I (.eq ak ((show bd (Pc hp (some t) c.e7 default 0 []) _ from Rl ak 33 dt c.e7 default 0 [] (by unfold dt;omega) (λbb p hp=>by have:=bE.dep bb p hp;omega) bE.reads (by simp;omega)).bind λy hy=>.ret (by simpa using hy)))) λak=>by cases ak) λy hy=>.ret hy) λy hy=>.ret hy) λy hy=>.ret λbJ bb=>?_;have bJ:(lL hp 33 c.e7).length=0:=by rw[<-hy];have:(y.length:Int)=0:=bJ;omega
 cases atg:g bb with
 |none=>rfl
 | some id=>
   have Uc:cont hp c.e7 bb=some id:=by rw[bH];exact atg
   have hlen:bb.length<33:=by
    cases aW:dc hp c.e7 bb with
    |none=>rw[mT aW]at Uc;cases Uc
    |some p=>have:=bE.dep bb p aW;omega
   have:=Yj hlen Uc
   rw[OP bJ]at this;cases this
def ajd(x:eF)(n:Int)(ao:x.dw.length<=1000):bd (KW x n) (λr=>(r= -1∧kh x.dw n=false)∨∃i:Nat,i<x.dw.length∧r=i∧(av x.dw i).cU=n∧kh x.dw n=true∧∀j,j<i->(av x.dw j).cU≠n):=aaZ x n ao
def akK{l:aa aS}{n:Int}{i:Nat}(aM:l.Pairwise λa c=>a.cU≠c.cU)(au:i<l.length)(h:(av l i).cU=n):
 l.take i++l.drop (i+1)=l.filter (λc=>c.cU !=n):=by
 rw[dp _ au]at h
 have Oq:l=l.take i++l[i]::l.drop (i+1):=by rw[OY,gp]
 rw[Oq,KN]at aM
 obtain⟨h1,ae,az⟩:=aM
 obtain⟨aQ,a7⟩:=mK.1 ae
 conv=>rhs;rw[Oq]
 rw[uv,zf (by simp[h])]
 congr 1
 ·exact(xm.2 λc ak=>by have:=az c ak l[i] kt;rw[h]at this;simpa using this).symm
 exact(xm.2 λc ak=>by have:=aQ c ak;rw[h]at this;simp;exact λe=>this e.symm).symm
def nN.filter{s:aD}{k:Nat}{l:aa aS}(h:nN s k l)(q:aS->Bool):nN s k (l.filter q)where
 ok i au:=h.ok i (uw.1 au).1
 num:=h.num.sublist Vo
 len:=qH (FO _ _) h.len
def air{s:aD}{k:Nat}{l:aa aS}(ao:nN s k l)(n:Int):
 FT (wC s k l) n=some (kh l n,wC s k (l.filter λc=>c.cU !=n)):=by
 refine bd.get ?_
 unfold FT
 obtain⟨ke,fz⟩:=ao.iL
 refine(ajd (wC s k l) n (by show(iL _ l).length<=1000;omega)).bind λal h1=>?_
 rcases h1 with⟨rfl,ae⟩|⟨j,ae,rfl,az,aQ,a7⟩
 ·have mB:kh l n=false:=by rw[<-ae];exact Mu.symm
  refine .cond (λ_=>.ret ?_) λak=>by simp at ak
  rw[mB,xm.2 λc ak=>by simpa using YR mB c ak]
 have E7:kh l n=true:=by rw[<-aQ];exact Mu.symm
 refine .cond (λak=>by simp at ak;omega) λ_=>?_
 have aC:j<(iL (jC s k) l).length:=ae
 refine .eq (a:=iL (jC s k) (l.filter λc=>c.cU !=n)) ?_ (.ret ?_)
 ·show IZ (iL (jC s k) l) _ _=_
  unfold IZ
  rw[dS (by omega),bk ⟨by omega,by omega,by omega⟩]
  have TO:(iL (jC s k) l).Pairwise λa c=>a.cU≠c.cU:=((Rf l).symm.pairwise_iff λcB=>λe=>cB e.symm).1 ao.num
  rw[<-aik (MO s k) ao.T4,<-akK TO aC az]
  simp
 rw[E7];rfl
def iS(l:aa aS)(e:aO):aa aS:=l.filter λc=> !iW c.bl e
def rC{l:aa aS}{e:aO}{c:aS}:c∈iS l e↔c∈l∧iW c.bl e=false:=by
 unfold iS;rw[uw];simp
def kp.iS{s:aD}{k:Nat}{l:aa aS}(h:kp s k l)(e:aO):kp s k (Go.Proofs.YtlkieppifclacaaGreat.iS l e):=
 ⟨h.ok.filter _,h.key.sublist Vo⟩
def Mf{s:aD}{k:Nat}{l:aa aS}(h:kp s k l){e:aO}{i:aS}(au:i∈l)(hk:iW i.bl e=true):iS l e=l.filter λc=>c.cU !=i.cU:=by
 unfold iS;refine List.filter_congr λc ak=>?_;by_cases ar:c=i
 ·rw[ar,hk];simp
 have h1:iW c.bl e=false:=by
  rw[zp];intro ae;exact ar (h.uniq ak au (Yc ae (by rw[Rg];exact hk)))
 have ae:c.cU≠i.cU:=λae=>ar (h.ok.uniq ak au ae);rw[h1];simp[ae]
def arD{s:aD}(h:cA s){hp:aL Cell}{q:Nat}{l:aa aS}{own:Nat->Prop}(hq:D6 s hp q l own)(ao:kp s 0 l){i:aS}(au:i∈l):
 bd (Gg hp ⟨some q⟩ i) (λhp'=>D6 s hp' q (iS l i.bl) own∧er hp hp' own):=by
 obtain⟨m,em,h1,ae,az,aQ,a7,jh⟩:=hq.ok
 have hP:=(ao.ok.ok i au).gf
 have bH:dO em (fl i.bl)=some i.cU:=(a7 _ _).2 ⟨i,au,rfl,rfl⟩
 unfold Gg Le Dj
 refine .eq (Mw (hP.NT h (by decide)).1) ?_
 refine .eq (a:=(true,cF hp m (Cell.qS (iR em (fl i.bl))))) ?_ (.ret ?_)
 ·show((n5 hp q).bind _).bind _=_
  rw[h1]
  show((nC hp m).bind _).bind _=_
  rw[ae]
  show cond (!(dO em (fl i.bl)).isSome) _ _=_
  rw[bH]
  show(n5 hp q).bind _=_
  rw[h1]
  show(nC hp m).bind _=_
  rw[ae];rfl
 have Cs:q≠m:=λe=>by
  subst e;have:=H4 h1;rw[uO ae]at this;cases this
 refine⟨⟨m,_,by rw[Qe (mP Cs.symm)];exact h1,Yf (uO ae),az,aQ,λdk n=>?_,jh.del⟩,.up aQ⟩
 rw[DO jh]
 by_cases hR:dk=fl i.bl
 ·rw[bk hR]
  refine⟨λe=>(by cases e),λ⟨c,ak,bp,cO⟩=>?_⟩
  obtain⟨g1,g2⟩:=rC.1 ak
  rw[(J6 h (ao.ok.ok c g1).gf hP).2 (bp.trans hR)]at g2;cases g2
 rw[bf hR,a7]
 constructor
 ·rintro ⟨c,ak,bp,cO⟩
  refine⟨c,rC.2 ⟨ak,?_⟩,bp,cO⟩
  rw[zp];intro dJ
  exact hR (by rw[<-bp];exact(J6 h (ao.ok.ok c ak).gf hP).1 dJ)
 rintro ⟨c,ak,bp⟩
 exact⟨c,(rC.1 ak).1,bp⟩
def arE{s:aD}(h:cA s){hp:aL Cell}{m:Nat}{l:aa aS}{own:Nat->Prop}(hq:px s hp m l own)(ao:kp s 1 l){i:aS}(au:i∈l):
 bd (F3 hp ⟨0,32,⟨some m⟩⟩ i) (λhp'=>px s hp' m (iS l i.bl) own∧er hp hp' own):=by
 obtain⟨em,oo,ae,az,aQ,a7,jh⟩:=hq.ok
 have hP:=(ao.ok.ok i au).gf
 have h3:=I7 h hP
 have bE:∃t,dO em (iy (fl i.bl))=some (some t):=by
  cases bH:dO em (iy (fl i.bl))with
  |none=>exact absurd I (aQ _ bH i au)
  |some r=>obtain⟨t,g,rfl,_⟩:=az _ _ bH;exact⟨t,rfl⟩
 obtain⟨t,bE⟩:=bE
 obtain⟨fv,g,e,g1,g2,g3⟩:=az _ _ bE
 cases e
 obtain⟨n,aM⟩:=qE h3.pre.1
 have I8:n<=32:=by have:=h3.pre.2;omega
 have yf:=QS h3
 have hp':eN (av i.bl.bs 0).cw n=ll i.bl:=by unfold ll;rw[aM];rfl
 have Ow:g (ll i.bl)=some i.cU:=(g3 _ _).2 ⟨i,au,rfl,rfl,rfl⟩
 have ada:∀c∈l,iy (fl c.bl)=iy (fl i.bl)->(iW c.bl i.bl=false↔ll c.bl≠ll i.bl):=λc ak an=>by
  rw[zp,ne_eq,E8 h (ao.ok.ok c ak).gf hP];exact⟨λh1 ae=>h1 ⟨an,ae⟩,λh1 ae=>h1 ae.2⟩
 have ng:∀c∈l,iy (fl c.bl)≠iy (fl i.bl)->iW c.bl i.bl=false:=λc ak an=>by
  rw[zp,ne_eq,E8 h (ao.ok.ok c ak).gf hP];exact λh1=>an h1.1
 unfold F3
 refine .eq (Ri h hP _) (.eq I (.eq oo (.eq I ?_)))
 simp only[bE]
 rw[aM]at yf⊢
 refine(show bd (Dh hp (some t) (av i.bl.bs 0).cw (n:Int)) _ from aip g1 I8 yf (by rw[hp'];exact Ow)).bind λaF aE=>?_
 obtain⟨_,ke,fz,mj⟩:=aE
 rw[hp']at ke
 obtain⟨au1,cQ⟩:=aF
 simp only at ke fz mj⊢
 have T7:∀q,Own hp t q->q≠m:=λq T8 e=>by
  have:=pw oo;rw[<-e]at this;rcases g1.MP T8 with⟨c,ak⟩|⟨c,ak⟩ <;> rw[ak]at this <;> cases this
 have lk:pat cQ m=pat hp m:=fz.rest m (js (pw oo)) λhq=>T7 m hq I
 have Tg:lA cQ m=some em:=by rw[LV lk];exact oo
 have I9:∀bb r3,(if bb=ll i.bl then none else g bb)=some r3↔∃c∈iS l i.bl,iy (fl c.bl)=iy (fl i.bl)∧ll c.bl=bb∧c.cU=r3:=λbb r3=>by
  by_cases mE:bb=ll i.bl
  ·rw[bk mE];refine⟨λe=>(by cases e),λ⟨c,ak,bp,cO,_⟩=>?_⟩;obtain⟨bZ,a2⟩:=rC.1 ak;exact absurd (cO.trans mE) ((ada c bZ bp).1 a2)
  rw[bf mE,g3];constructor
  ·rintro ⟨c,ak,bp,cO,dJ⟩;exact⟨c,rC.2 ⟨ak,(ada c ak bp).2 λe=>mE (cO.symm.trans e)⟩,bp,cO,dJ⟩
  rintro ⟨c,ak,bp⟩;exact⟨c,(rC.1 ak).1,bp⟩
 have uX:∀dk fv,dk≠iy (fl i.bl)->dO em dk=some (some fv)->∃dY,kA hp fv dY∧kA cQ fv dY∧(∀q,Own hp fv q->own q)∧(∀q,Own cQ fv q↔Own hp fv q)∧∀bb n,dY bb=some n↔∃c∈iS l i.bl,iy (fl c.bl)=dk∧ll c.bl=bb∧c.cU=n:=λdk fv dm aE=>by
  obtain⟨atc,dY,e,bZ,a2,a3⟩:=az dk _ aE;cases e;obtain⟨dD,eg⟩:=bZ.congr (hp':=cQ) λq hq=>fz.rest q (bZ.A8 hq) λqp=>a7 _ _ _ _ bE aE dm.symm q qp hq;refine⟨dY,bZ,dD,a2,eg,λbb n=>?_⟩;rw[a3];constructor
  ·rintro ⟨c,ak,bp,cO⟩;exact⟨c,rC.2 ⟨ak,ng c ak (by rw[bp];exact dm)⟩,bp,cO⟩
  rintro ⟨c,ak,bp⟩;exact⟨c,(rC.1 ak).1,bp⟩
 have dh:er hp cQ own:=⟨fz.keys,λq hq fb=>fz.rest q hq λqp=>fb (g2 q qp)⟩
 have cJ:px s cQ m (iS l i.bl) own:=by
  refine⟨em,Tg,ae,λdk nn jZ=>?_,λdk hR c ak=>aQ dk hR c (rC.1 ak).1,λdk ln t1 t2 kU lK dm q jY q3=>?_,jh⟩
  ·by_cases hR:dk=iy (fl i.bl)
   ·subst hR;rw[bE]at jZ;cases jZ;exact⟨t,_,rfl,ke,λq hq=>g2 q (mj q hq),I9⟩
   obtain⟨fv,dY,e,_⟩:=az dk nn jZ;subst e;obtain⟨Ct,bZ,a2,a3,a4,a5⟩:=uX dk fv hR jZ;exact⟨fv,Ct,rfl,a2,λq hq=>a3 q ((a4 q).1 hq),a5⟩
  have fQ:∀dk t1,dO em dk=some (some t1)->∀q,Own cQ t1 q->Own hp t1 q:=λdk t1 kU q jY=>by
   by_cases ar:dk=iy (fl i.bl)
   ·subst ar;rw[bE]at kU;cases kU;exact mj q jY
   obtain⟨_,_,_,_,a4,_⟩:=uX dk t1 ar kU;exact(a4 q).1 jY
  exact a7 _ _ _ _ kU lK dm q (fQ dk t1 kU q jY) (fQ ln t2 lK q q3)
 refine .eq Tg (.eq I ?_)
 simp only[bE]
 refine(show bd (Dv cQ (some t)) _ from alQ ke (λbb cs id h1 ae=>?_) (l.map (·.cU)) (λbb id h1=>?_) (by rw[kf];have:=ao.ok.len;omega)).bind λbm bp=>?_
 ·obtain⟨c,ak,_,dD,eg⟩:=(I9 _ _).1 h1
  obtain⟨d,hd,_,d1,d2⟩:=(I9 _ _).1 ae
  have:=ao.ok.uniq (rC.1 ak).1 (rC.1 hd).1 (eg.trans d2.symm)
  rw[<-dD,<-d1,this]
 ·obtain⟨c,ak,_,dD,eg⟩:=(I9 _ _).1 h1
  exact gJ.2 ⟨c,(rC.1 ak).1,eg⟩
 refine .bind (P:=λhp'=>px s hp' m (iS l i.bl) own∧er hp hp' own) (.cond (λb2=>.eq I (.ret ?_)) λ_=>.ret ⟨cJ,dh⟩) λm1 cc=>.ret cc
 have bp:=bp (by simpa using b2)
 have EE:=pw Tg
 have Th:∀fv dY,kA cQ fv dY->kA (cF cQ m (Cell.ob (iR em (iy (fl i.bl))))) fv dY∧∀q,Own (cF cQ m (Cell.ob (iR em (iy (fl i.bl))))) fv q↔Own cQ fv q:=λfv dY Cr=>Cr.congr λq sS=>mP λe=>by
  rw[e]at EE;rcases Cr.MP sS with⟨c,ak⟩|⟨c,ak⟩ <;> rw[ak]at EE <;> cases EE
 refine⟨⟨_,Yg EE,ae,λdk nn jZ=>?_,λdk hR c ak=>?_,λdk ln t1 t2 kU lK dm q jY q3=>?_,jh.del⟩,dh.trans (er.up ae) λq _ hq=>hq⟩
 ·rw[DO jh]at jZ
  split at jZ
  ·cases jZ
  rename_i hR
  obtain⟨fv,dY,e,_⟩:=az dk nn jZ
  subst e
  obtain⟨Ct,bZ,a2,a3,a4,a5⟩:=uX dk fv hR jZ
  obtain⟨dD,eg⟩:=Th fv Ct a2
  exact⟨fv,Ct,rfl,dD,λq hq=>a3 q ((a4 q).1 ((eg q).1 hq)),a5⟩
 ·rw[DO jh]at hR
  split at hR
  ·rename_i e
   intro an
   have:=(I9 _ _).2 ⟨c,ak,an.trans e,rfl,rfl⟩
   rw[bp]at this;cases this
  exact aQ dk hR c (rC.1 ak).1
 rw[DO jh]at kU lK
 split at kU
 ·cases kU
 split at lK
 ·cases lK
 rename_i ar aK
 obtain⟨as7,bZ,a2,a3,a4,_⟩:=uX dk t1 ar kU
 obtain⟨as8,dD,eg,hV,Kt,_⟩:=uX ln t2 aK lK
 exact a7 _ _ _ _ kU lK dm q ((a4 q).1 (((Th t1 _ a2).2 q).1 jY)) ((Kt q).1 (((Th t2 _ eg).2 q).1 q3))
def srem{s:aD}{k:Nat}{hp:aL Cell}{q:Nat}{l:aa aS}{own:Nat->Prop}(hq:D7 s k hp q l own)(ao:kp s k l){i:aS}(au:i∈l):
 cM (Gi hp ⟨some q⟩ i) (λhp'=>D7 s k hp' q (iS l i.bl) own∧er hp hp' own):=by
 obtain⟨key,cap,h1,ae⟩:=hq.ok
 unfold Gi
 refine .eq I (.eq h1 (.eq (air ao.ok _) (.any λaw=>.eq I (.ret ?_))))
 rw[Mf ao au (Mv _)]
 exact⟨⟨aw.1,aw.2,Yh (A5 h1),ae⟩,.up ae⟩
def arF{s:aD}(h:cA s){k:Nat}{hp:aL Cell}{f:iz}{l:aa aS}{own:Nat->Prop}(hq:tp s k hp f l own)(ao:kp s k l){i:aS}(au:i∈l):
 cM (Ps hp f i) (λhp'=>tp s k hp' f (iS l i.bl) own∧er hp hp' own):=by
 rcases hq with⟨rfl,q,rfl,hq⟩|⟨rfl,m,rfl,hq⟩|⟨dh,q,rfl,hq⟩
 ·exact cM.of ((arD h hq ao au).mono λhp' aE=>⟨.inl ⟨rfl,q,rfl,aE.1⟩,aE.2⟩)
 ·exact cM.of ((arE h hq ao au).mono λhp' aE=>⟨.inr (.inl ⟨rfl,m,rfl,aE.1⟩),aE.2⟩)
 exact(srem hq ao au).mono λhp' aE=>⟨.inr (.inr ⟨dh,q,rfl,aE.1⟩),aE.2⟩
def WK{α β:Type}[DecidableEq α]:∀{l:aa (α×β)} {x:α},o7 l->iR l x=l.filter λa=>decide (a.1≠x)
 |[],_,_=>rfl
 | (k,w)::r,x,h=>by
   obtain⟨h1,ae⟩:=mK.1 h;unfold iR;by_cases e:x=k
   ·rw[bk e,zf (by simp[e])];exact(xm.2 λa aY=>by simpa using λe'=>h1 a aY (by rw[<-e,e'])).symm
   rw[bf e,CK (by simpa using λe'=>e e'.symm),WK ae]
def wO.kn{s:aD}{k:Nat}{em:aa (Int×aS)}{l:aa aS}(h:wO em l)(ao:nN s k l):o7 em:=by
 refine(h.pairwise_iff λcB=>zQ cB).2 ?_;rw[F4];exact ao.num.imp λcB=>cB
def ais{s:aD}(h:cA s){k:Nat}(hk:k<4){hp:aL Cell}{p:Nat}{l:aa aS}{own:Nat->Prop}(an:kK s k hp p l own){e:aO}(he:gu s k e):
 cM (Gw hp (some p) e) (λr=>(r.1,r.2.1)=Cq (eH l e)∧kK s k r.2.2 p (iS l e) own∧er hp r.2.2 own):=by
 obtain⟨f,m,em,h1,ae,az,aQ,a7,bp⟩:=an.cell
 have hm:=ti ae
 have hp':=A3 h1
 have lk:p≠m:=λe=>by rw[e,hm]at hp';cases hp'
 unfold Gw
 refine .eq (Rj h hk an he) ?_
 refine .bind (P:=λm1=>kK s k m1 p (iS l e) own∧er hp m1 own) (.cond (λak=>?_) λak=>.ret ?_) λm1 cc=>.ret ⟨rfl,cc⟩
 ·cases aW:eH l e with
  |none=>rw[aW]at ak;cases ak
  | some i=>
    obtain⟨au,yN⟩:=Af aW
    have Ud:iS l i.bl=iS l e:=by
     rw[Mf an.mJ au (Mv _),Mf an.mJ au yN]
    refine .eq I (.eq h1 (.bind (arF h bp an.mJ au) λcQ aE=>?_))
    obtain⟨ke,fz⟩:=aE
    have ke:tp s k cQ f (iS l i.bl) (λq=>own q∧q≠m∧q≠p):=ke
    rw[Ud]at ke
    show cM (ah.bind (ah.of (jb cQ p)) λc2=>ah.bind (ah.of c2.pj.p) λcL=>ah.bind (ah.of (mu cQ cL)) λej=>ah.bind (ah.of (some (cF cQ cL (Cell.l6 (iR ej i.cU))))) λbT=>ah.ret bT) _
    have bZ:pat cQ p=some (.qe ⟨rl k,(OI s k:Int),f,⟨some m⟩⟩):=by rw[fz.rest p (js hp') (λhq=>hq.2.2 I)];exact hp'
    have a2:pat cQ m=some (.l6 em):=by rw[fz.rest m (js hm) (λhq=>hq.2.1 I)];exact hm
    refine .eq (by unfold jb;rw[bZ]) (.eq I (.eq (by unfold mu;rw[a2]) (.eq I (.ret ?_))))
    have ath:er hp cQ own:=⟨fz.keys,λq hq fb=>fz.rest q hq λh=>fb h.1⟩
    have sQ:er hp (cF cQ m (Cell.l6 (iR em i.cU))) own:=ath.trans (er.up (own:=own) aQ) λq _ hq=>hq
    refine⟨⟨an.mJ.iS e,⟨f,m,_,by unfold jb;rw[mP lk.symm,bZ],ajc a2,az,aQ,?_,ke.congr (λq _ hq=>hq) λq hq=>mP hq.2.1.symm⟩,λq hq=>sQ.keys q (an.nO q hq)⟩,sQ⟩
    unfold wO
    rw[WK (a7.kn an.mJ.ok),Mf an.mJ au yN]
    refine(a7.filter _).trans ?_
    rw[List.filter_map]
    have:((λa:Int×aS=>decide (a.1≠i.cU)) ∘ λc:aS=>(c.cU,c))=λc=>c.cU !=i.cU:=by
     funext c;show decide (c.cU≠i.cU)=_;by_cases e:c.cU=i.cU <;> simp[e]
    rw[this]
 have aW:eH l e=none:=by
  cases aW:eH l e with
  |none=>rfl
  |some i=>rw[aW]at ak;cases ak
 have:iS l e=l:=by
  unfold iS;exact xm.2 λc ak=>by rw[wb aW c ak];rfl
 rw[this]
 exact⟨an,.refl⟩
def DL{hp hp':aL Cell}{p:Nat}(h:pat hp' p=pat hp p):jI hp' p=jI hp p:=by unfold jI;rw[h]
def DM{hp hp':aL Cell}{p:Nat}(h:pat hp' p=pat hp p):l3 hp' p=l3 hp p:=by unfold l3;rw[h]
def aje{hp:aL Cell}{p:Nat}{k:Cell}{x:k5}(h:pat hp p=some k):jI (cF hp p (.qV x)) p=some x:=by unfold jI;rw[sr h]
def ajf{hp:aL Cell}{p:Nat}{k:Cell}{x:aa (Int×Ref)}(h:pat hp p=some k):l3 (cF hp p (.sD x)) p=some x:=by unfold l3;rw[sr h]
structure py(s:aD)(hp:aL Cell)(p m:Nat)(eS:List (Int×Ref))(n:Nat)(ls:Nat->List aS)(own:Nat->Nat->Prop):Prop where
 has:∀k,k<n->∃q,dO eS ((k:Int)+1)=some (some q)∧kK s k hp q (ls k) (own k)
 no:∀x:Int,x<1∨(n:Int)<x->dO eS x=none
 J8:∀k k',k<n->k'<n->k≠k'->∀q,own k q->¬own k' q
 out:∀k,k<n->¬own k p∧¬own k m
def py.H5{s:aD}{hp hp':aL Cell}{p m:Nat}{eS:aa (Int×Ref)}{n:Nat}{ls:Nat->aa aS}{own:Nat->Nat->Prop}(h:py s hp p m eS n ls own)(hk:∀k,k<n->∀q,own k q->q∈da hp')(aY:∀k,k<n->∀q,own k q->pat hp' q=pat hp q):py s hp' p m eS n ls own:=
 ⟨λk jh=>by obtain⟨q,h1,ae⟩:=h.has k jh;exact⟨q,h1,ae.H5 (hk k jh) (aY k jh)⟩,h.no,h.J8,h.out⟩
def py.congr{s:aD}{hp hp':aL Cell}{p m:Nat}{eS:aa (Int×Ref)}{n:Nat}{ls:Nat->aa aS}{own:Nat->Nat->Prop}(h:py s hp p m eS n ls own)(hk:∀q,q∈da hp->q∈da hp')(aY:∀k,k<n->∀q,own k q->pat hp' q=pat hp q):py s hp' p m eS n ls own:=h.H5 (λk jh q hq=>by obtain⟨_,_,ae⟩:=h.has k jh;exact hk q (ae.nO q hq)) aY
structure EF(s:aD)(hp:aL Cell)(p:Nat)(ls:Nat->List aS)(next:Int):Prop where
 cell:∃m eS own,jI hp p=some ⟨s,⟨some m⟩,next⟩∧l3 hp m=some eS∧py s hp p m eS 4 ls own
def gX(ls:Nat->aa aS)(k:Nat)(l:aa aS):Nat->aa aS:=λj=>if j=k then l else ls j
def QU{s:aD}{hp:aL Cell}{p:Nat}{ls:Nat->aa aS}{next:Int}(h:EF s hp p ls next){k:Nat}(hk:k<4):∃q own,s7 hp (some p) ((k:Int)+1)=some (some q)∧kK s k hp q (ls k) own:=by
 obtain⟨m,eS,own,h1,ae,az⟩:=h.cell;obtain⟨q,aQ,a7⟩:=az.has k hk;refine⟨q,own k,?_,a7⟩;refine bd.get ?_;unfold s7;refine .cond (λak=>by cases ak) λ_=>.eq rfl (.eq h1 (.eq rfl (.eq ae (.eq rfl (.ret ?_)))));rw[aQ];rfl
def akL{s:aD}(hs:cA s){hp:aL Cell}{p:Nat}{ls:Nat->aa aS}{next:Int}(h:EF s hp p ls next){k:Nat}(hk:k<4){e:aO}(he:gu s k e):zF hp (some p) e=some (Cq (eH (ls k) e)):=by
 obtain⟨q,own,h1,ae⟩:=QU h hk;refine bd.get ?_;unfold zF;rw[he.fK];exact .eq h1 (.eq (Rj hs hk ae he) (.ret I))
def akM{s:aD}(hs:cA s){hp:aL Cell}{p:Nat}{ls:Nat->aa aS}{next:Int}(h:EF s hp p ls next){k:Nat}(hk:k<4):GQ hp (some p) ((k:Int)+1)=some (av s.bh k).ht:=by
 obtain⟨m,eS,own,h1,ae,az⟩:=h.cell;refine bd.get ?_;unfold GQ;refine .eq I (.eq h1 ((DK hs hk).bind λal ar=>?_));subst ar;exact .idx I (by rw[hs.lC];exact hk) (.ret I)
def akN(o:aA aS):(Cq o).2=o.isSome:=by cases o <;> rfl
def py.change{s:aD}{hp hp':aL Cell}{p:Nat}{ls:Nat->aa aS}{next:Int}{m:Nat}{eS:aa (Int×Ref)}{own:Nat->Nat->Prop}(h1:jI hp p=some ⟨s,⟨some m⟩,next⟩)(ae:l3 hp m=some eS)(az:py s hp p m eS 4 ls own){k:Nat}(hk:k<4){q:Nat}(hq:dO eS ((k:Int)+1)=some (some q)){l:aa aS}{own':Nat->Prop}
 (an:kK s k hp' q l own') (a8:∀x,own' x->own k x∨x∉da hp) (mC:er hp hp' (own k)):jI hp' p=some ⟨s,⟨some m⟩,next⟩∧l3 hp' m=some eS∧py s hp' p m eS 4 (gX ls k l) (λj=>if j=k then own' else own j):=by
 have iU:=js (uT h1)
 have h3:=js (wi ae)
 have bO:=(az.out k hk).1
 have cL:=(az.out k hk).2
 refine⟨by rw[DL (mC.rest p iU bO)];exact h1,by rw[DM (mC.rest m h3 cL)];exact ae,⟨λj aC=>?_,az.no,λj xl aC Cg dm x gR mc=>?_,λj aC=>?_⟩⟩
 ·by_cases e:j=k
  ·subst e
   refine⟨q,hq,?_⟩
   unfold gX
   rw[bk I,bk I];exact an
  obtain⟨oz,g1,g2⟩:=az.has j aC
  refine⟨oz,g1,?_⟩
  unfold gX
  rw[bf e,bf e]
  exact g2.qT mC λx an=>az.J8 j k aC hk e x an
 ·have key:∀j,j<4->j≠k->own' x->¬own j x:=λj aC dm aQ a7=>by
   obtain⟨oz,g1,g2⟩:=az.has j aC;rcases a8 x aQ with bp|bp
   ·exact az.J8 j k aC hk dm x a7 bp
   exact bp (g2.nO x a7)
  by_cases e:j=k
  ·rw[bk e]at gR
   rw[bf (λe'=>dm (e.trans e'.symm))]at mc
   exact key xl Cg (λe'=>dm (e.trans e'.symm)) gR mc
  rw[bf e]at gR
  by_cases e':xl=k
  ·rw[bk e']at mc;exact key j aC e mc gR
  rw[bf e']at mc;exact az.J8 j xl aC Cg dm x gR mc
 by_cases e:j=k
 ·rw[bk e]
  refine⟨λh=>?_,λh=>?_⟩
  ·rcases a8 p h with aQ|aQ
   ·exact bO aQ
   exact aQ iU
  rcases a8 m h with aQ|aQ
  ·exact cL aQ
  exact aQ h3
 rw[bf e];exact az.out j aC
def er.trans'{a b c:aL Cell}(h:er a b r1)(k:er b c r1):er a c r1:=⟨λq hq=>k.keys q (h.keys q hq),λq hq n=>(k.rest q (h.keys q hq) n).trans (h.rest q hq n)⟩
def akO{s:aD}(hs:cA s)(hp:aL Cell):cM (HA hp s) (λr=> ∃p m eS own,r.1=some p∧(jI r.2 p=some ⟨s,⟨some m⟩,1⟩∧l3 r.2 m=some eS∧py s r.2 p m eS 4 (λ_=>[]) own)∧er hp r.2 r1∧p∉da hp∧m∉da hp∧∀k,k<4->∀q,own k q->q∉da hp):=by
 unfold HA;refine .mk λm hm=>.eq I (.mk λp bT=>?_);simp only at bT⊢;have lk:p≠m:=λe=>bT (by rw[e];exact kt);have vB:jI ((p,Cell.qV ⟨s,⟨some m⟩,1⟩)::(m,Cell.sD [])::hp) p=some ⟨s,⟨some m⟩,1⟩:=by unfold jI;rw[kV,bk I]
 have d0:l3 ((p,Cell.qV ⟨s,⟨some m⟩,1⟩)::(m,Cell.sD [])::hp) m=some []:=by unfold l3;rw[kV,bf lk,kV,bk I]
 refine .eq vB ?_;simp only;refine .bind (P:=λar=> ∃eS own,jI ar.2.2 p=some ⟨s,⟨some m⟩,1⟩∧l3 ar.2.2 m=some eS∧py s ar.2.2 p m eS 4 (λ_=>[]) own∧er hp ar.2.2 r1∧∀k,k<4->∀q,own k q->q∉da hp)
  (cM.loop 4 (λi st=> ∃hp' eS own,st=((i:Int),hp')∧jI hp' p=some ⟨s,⟨some m⟩,1⟩∧l3 hp' m=some eS∧(er hp hp' r1∧∀k,k<i->∀q,own k q->q∉da hp)∧py s hp' p m eS i (λ_=>[]) own) (by omega) ⟨_,[],λ_ _=>False,rfl,vB,d0,⟨(er.mk' hm).trans' (er.mk' bT),λk hk=>by omega⟩,⟨λk hk=>by omega,λ_ _=>rfl,λk k' hk=>by omega,λk hk=>by omega⟩⟩ (λi st au cv=>?_) (λst cv=>?_)) λar h1=>.ret ?_
 ·obtain⟨hp',eS,own,rfl,g1,g2,⟨vC,at3⟩,g3⟩:=cv;have yO:=uT g1;have JP:=wi g2;refine .cond (λ_=>.idx I (by rw[hs.lC];exact au) (.eq g1 ?_)) λak=>by have:=hs.lC;simp at ak;omega
  rw[(hs.fK au).1];refine .bind (alO hs au hp') λal h1=>?_;obtain⟨q,e,an,hk⟩:=h1;obtain⟨ati,cQ⟩:=al;simp only at e an hk;subst e;have aR:jI cQ p=some ⟨s,⟨some m⟩,1⟩:=by rw[DL (hk.rest p (js yO) id)];exact g1
  have bD:l3 cQ m=some eS:=by rw[DM (hk.rest m (js JP) id)];exact g2
  have NU:=wi bD;refine .eq (a:=()) (by unfold Jm;rw[bk aR]) (.eq I (.eq bD (.eq I (.ret ?_))));have EE:m≠p:=λe=>by rw[e]at NU;rw[uT aR]at NU;cases NU
  have w1:∀x,x≠m->pat (cF cQ m (Cell.sD (gb eS ((i:Int)+1) (some q)))) x=pat cQ x:=λx an=>mP an.symm;have hold:∀j,j<i->∀x,own j x->pat (cF cQ m (Cell.sD (gb eS ((i:Int)+1) (some q)))) x=pat hp' x:=λj aC x an=>by
   obtain⟨oz,_,eg⟩:=g3.has j aC;rw[w1 x λe=>(g3.out j aC).2 (e▸an)];exact hk.rest x (eg.nO x an) id
  have rN:∀x,n9 r1 hp' cQ x->x∉da hp':=λx an=>an.elim (λh=>h.elim) λh=>h.1;refine⟨_,gb eS ((i:Int)+1) (some q),λj=>if j=i then n9 r1 hp' cQ else own j,by simp only[dS (show i<2^62 by omega)],by rw[DL (w1 p EE.symm)];exact aR,ajf NU,⟨⟨λx an=>by rw[qN];exact hk.keys x (vC.keys x an),λx an _=>by rw[w1 x λe=>hm (e▸an),hk.rest x (vC.keys x an) id,vC.rest x an id]⟩,λj aC x gR mc=>?_⟩,⟨λj aC=>?_,λx an=>?_,λj xl aC Cg dm x gR mc=>?_,λj aC=>?_⟩⟩
  ·by_cases e:j=i
   ·simp only[bk e]at gR;exact rN x gR (vC.keys x mc)
   simp only[bf e]at gR;exact at3 j (by omega) x gR mc
  ·by_cases e:j=i
   ·subst e;refine⟨q,by rw[vY,bk I],?_⟩;rw[bk I];exact an.congr (λx an=>by rw[qN];exact an) λx gR=>w1 x λe=>rN x gR (e▸js JP)
   obtain⟨oz,dD,eg⟩:=g3.has j (by omega);refine⟨oz,by rw[vY,bf (by omega)];exact dD,?_⟩;rw[bf e];exact eg.congr (λx an=>by rw[qN];exact hk.keys x an) (hold j (by omega))
  ·rw[vY,bf (by omega)];exact g3.no x (by omega)
  ·have key:∀j,j<i->n9 r1 hp' cQ x->¬own j x:=λj aC h1 ae=>by
    obtain⟨oz,_,eg⟩:=g3.has j aC;exact rN x h1 (eg.nO x ae)
   by_cases e:j=i
   ·rw[bk e]at gR;rw[bf (λe'=>dm (e.trans e'.symm))]at mc;exact key xl (by omega) gR mc
   rw[bf e]at gR;by_cases e':xl=i
   ·rw[bk e']at mc;exact key j (by omega) mc gR
   rw[bf e']at mc;exact g3.J8 j xl (by omega) (by omega) dm x gR mc
  by_cases e:j=i
  ·rw[bk e];exact⟨λh=>rN p h (js yO),λh=>rN m h (js JP)⟩
  rw[bf e];exact g3.out j (by omega)
 ·obtain⟨hp',eS,own,rfl,g1,g2,vC,g3⟩:=cv;refine .cond (λak=>by have:=hs.lC;simp at ak;omega) λ_=>.ret ⟨eS,own,g1,g2,g3,vC⟩
 obtain⟨eS,own,bZ,a2,a3,a4,a5⟩:=h1;exact⟨p,m,eS,own,rfl,⟨bZ,a2,a3⟩,a4,λh=>bT (fM _ h),hm,a5⟩
def ajg{l:aa aS}{e:aO}{i:aS}(h:eH l e=none)(au:iW i.bl e=true):eH (l++[i]) e=some i:=by
 unfold eH at h⊢;rw[List.find?_append,h,Option.none_or];simp[au]
def z7{ls:Nat->aa aS}{k:Nat}{l:aa aS}:gX ls k l k=l:=by unfold gX;rw[bk I]
def oK{ls:Nat->aa aS}{k j:Nat}{l:aa aS}(h:j≠k):gX ls k l j=ls j:=by unfold gX;rw[bf h]
structure lv{α:Type}(f:α->α->Int):Prop where
 neg:∀x y,f x y<0↔0<f y x
 lR:∀x y z,f x y<=0->f y z<=0->f x z<=0
def lv.self{α:Type}{f:α->α->Int}(h:lv f)(x:α):f x x=0:=by have:=h.neg x x;omega
def lv.on{α β:Type}{f:β->β->Int}(h:lv f)(g:α->β):lv (λx y=>f (g x) (g y)):=⟨λx y=>h.neg _ _,λx y z=>h.lR _ _ _⟩
def lv.rev{α:Type}{f:α->α->Int}(h:lv f):lv (λx y=>f y x):=⟨λx y=>h.neg y x,λx y z h1 ae=>h.lR z y x ae h1⟩
def kl{α:Type}(f g:α->α->Int)(x y:α):Int:=if f x y=0 then g x y else f x y
def uI{α:Type}{f g:α->α->Int}{x y:α}(h:kl f g x y=0):f x y=0∧g x y=0:=by
 unfold kl at h;split at h
 ·rename_i e;exact⟨e,h⟩
 rename_i e;exact absurd h e
def lv.kl{α:Type}{f g:α->α->Int}(h:lv f)(k:lv g):lv (Go.Proofs.YtlkieppifclacaaGreat.kl f g)where
 neg x y:=by
  unfold Go.Proofs.YtlkieppifclacaaGreat.kl;have h1:=h.neg x y;have ae:=h.neg y x;by_cases e:f x y=0
  ·rw[bk e,bk (by omega)];exact k.neg x y
  rw[bf e,bf (by omega)];exact h1
 lR x y z:=by
  unfold Go.Proofs.YtlkieppifclacaaGreat.kl;intro h1 ae;have bZ:f x y<=0:=by by_cases e:f x y=0 <;> simp[e]at h1 <;> omega
  have a2:f y z<=0:=by by_cases e:f y z=0 <;> simp[e]at ae <;> omega
  have a3:=h.lR x y z bZ a2;by_cases e:f x z=0
  ·have y5:f z x<=0:=by have:=h.neg x z;have:=h.neg z x;omega
   have dD:=h.lR z x y y5 bZ;have eg:=h.lR y z x a2 y5;have c1:f y z=0:=by have:=h.neg y z;omega
   have c2:f x y=0:=by have:=h.neg x y;omega
   rw[bk c2]at h1;rw[bk c1]at ae;rw[bk e];exact k.lR x y z h1 ae
  rw[bf e];exact a3
def apd{x y:Int}:jD x y<0↔x<y:=by unfold jD;split <;> (try split) <;> omega
def Nq{x y:Int}:0<jD x y↔y<x:=by unfold jD;split <;> (try split) <;> omega
def rD{x y:Int}:jD x y=0↔x=y:=by unfold jD;split <;> (try split) <;> omega
def sx:lv jD:=⟨λx y=>by rw[apd,Nq],λx y z h1 ae=>by
 have a:= @Nq x y;have b:= @Nq y z;have c:= @Nq x z;omega⟩
def lc{α:Type}(g:α->α->Int):aa α->aa α->Int
 |[],[]=>0
 |[],_::_=> -1
 |_::_,[]=>1
 |a::r,b::t=>if g a b=0 then lc g r t else g a b
def Zy{α:Type}{g:α->α->Int}(h:lv g):∀(x y:aa α),lc g x y<0↔0<lc g y x
 |[],[]=>by simp[lc]
 |[],_::_=>by simp[lc]
 |_::_,[]=>by simp[lc]
 | a::r,b::t=>by
   have h1:=h.neg a b;have ae:=h.neg b a;unfold lc;by_cases e:g a b=0
   ·rw[bk e,bk (by omega)];exact Zy h r t
   rw[bf e,bf (by omega)];exact h1
def aa3{α:Type}{g:α->α->Int}(h:lv g):∀(x y z:aa α),lc g x y<=0->lc g y z<=0->lc g x z<=0
 |[],_,[],_,_=>by simp[lc]
 |[],_,_::_,_,_=>by simp[lc]
 |_::_,[],_,h1,_=>by simp[lc]at h1
 |_::_,_::_,[],_,ae=>by simp[lc]at ae
 | a::r,b::t,c::u,h1,ae=>by
   unfold lc at h1 ae⊢;have bZ:g a b<=0:=by by_cases e:g a b=0 <;> simp[e]at h1 <;> omega
   have a2:g b c<=0:=by by_cases e:g b c=0 <;> simp[e]at ae <;> omega
   have a3:=h.lR a b c bZ a2;by_cases e:g a c=0
   ·have y5:g c a<=0:=by have:=h.neg a c;have:=h.neg c a;omega
    have dD:=h.lR c a b y5 bZ;have eg:=h.lR b c a a2 y5;have c1:g b c=0:=by have:=h.neg b c;omega
    have c2:g a b=0:=by have:=h.neg a b;omega
    rw[bk c2]at h1;rw[bk c1]at ae;rw[bk e];exact aa3 h r t u h1 ae
   rw[bf e];exact a3
def aa4{α:Type}{g:α->α->Int}(h:lv g):lv (lc g):=⟨Zy h,aa3 h⟩
def Rm{α:Type}{g:α->α->Int}(h:∀a b,g a b=0->a=b):∀{x y:aa α},lc g x y=0->x=y
 |[],[],_=>rfl
 |[],_::_,e=>by simp[lc]at e
 |_::_,[],e=>by simp[lc]at e
 | a::r,b::t,e=>by
   unfold lc at e;split at e
   ·rename_i ar;rw[h a b ar,Rm h e]
   rename_i ar;exact absurd e ar
def kq(v:aV):Int:=((v.eC.toNat*18446744073709551616+v.c5.toNat:Nat):Int)
def D8{x y:aV}(h:kq x=kq y):x=y:=by
 obtain⟨a,b⟩:=x;obtain⟨c,d⟩:=y;unfold kq at h;simp only at h;first
 | (have h1:=a.isLt;have ae:=b.isLt;have az:=c.isLt;have aQ:=d.isLt
    have ar:a=c:=CO (by omega)
    have aK:b=d:=CO (by omega)
    rw[ar,aK])
def Rn(x y:aV):ry x y=some (jD (kq x) (kq y)):=by
 unfold ry;by_cases e:x=y
 ·subst e;simp only[LB,cond_true];rw[rD.2 I]
 simp only[e,vQ,cond_false,Option.bind_some];have dm:kq x≠kq y:=λh=>e (D8 h);have ch:((decide (x.eC<y.eC))||((x.eC==y.eC)&&(decide (x.c5<y.c5))))=decide (kq x<kq y):=by
  rw[oG];simp only[nW,gq,fk,nv,GM];unfold kq;have h1:=x.eC.isLt;have ae:=x.c5.isLt;have az:=y.eC.isLt;have aQ:=y.c5.isLt;constructor
  ·rintro (h|⟨h,c8⟩)
   ·omega
   rw[h];omega
  intro h;by_cases cB:x.eC.toNat<y.eC.toNat
  ·exact .inl cB
  have:x.eC.toNat=y.eC.toNat:=by omega
  exact .inr ⟨CO this,by omega⟩
 rw[ch];unfold jD;by_cases ba:kq x<kq y
 ·simp[ba]
 rw[ru ba,bf ba,bk (by omega)];rfl
def oV:aa Int->Int
 |[]=>0
 |a::r=>if a=0 then oV r else a
def Xw{l:aa Int}(ao:l.length<=1000):vW l=some (oV l):=by
 refine bd.get ?_;unfold vW;refine .bind (P:=λe=>(∃q,e=.inl q∧oV l=0)∨∃q:Int×Int×Int×Bool×Bool,e=.inr q∧q.1=oV l)
  (bd.l4 l.length (λj st=>st=(j:Int)∧oV l=oV (l.drop j)) (by omega) ⟨rfl,rfl⟩ (λj st aC hs=>?_) (λst hs=>?_)) λe he=>?_
 ·obtain⟨rfl,hs⟩:=hs;rw[vE aC]at hs;have hs:oV l=if l[j]=0 then oV (l.drop (j+1))else l[j]:=hs;refine .cond (λ_=>.idx I aC ?_) λak=>by simp at ak;omega
  rw[dp _ aC];refine .cond (λak=>.ret (.inr ⟨_,rfl,?_⟩)) λak=>.ret ⟨dS (by omega),?_⟩
  ·have:l[j]≠0:=by simpa using ak
   rw[hs,bf this]
  have:l[j]=0:=by simpa using ak
  rw[hs,bk this]
 ·obtain⟨rfl,hs⟩:=hs;refine .cond (λak=>by simp at ak) λ_=>.ret (.inl ⟨_,rfl,?_⟩);rw[hs,xq];rfl
 rcases he with⟨q,rfl,hq⟩|⟨q,rfl,hq⟩
 ·simp only[Sum.elim_inl];exact .ret hq.symm
 simp only[Sum.elim_inr];exact .ret hq
def aeO{g:bN->bN->Int}{f:bN->bN->aA Int}(aW:∀a b,f a b=some (g a b)){xs ys:aa bN}(an:xs.length<=100000)(hy:ys.length<=100000):FD xs ys f=some (lc g xs ys):=by
 refine bd.get ?_;unfold FD;refine .bind (P:=λe=>(∃q,e=.inl q∧lc g xs ys=if xs.length<ys.length then -1 else 0)∨∃q:Int×Int×Int×Bool×Bool,e=.inr q∧q.1=lc g xs ys)
  (bd.l4 xs.length (λj st=>st=(j:Int)∧j<=ys.length∧lc g xs ys=lc g (xs.drop j) (ys.drop j)) (by omega) ⟨rfl,by omega,rfl⟩ (λj st aC hs=>?_) (λst hs=>?_)) λe he=>?_
 ·obtain⟨rfl,Ue,hs⟩:=hs;refine .cond (λ_=>.idx I aC (.cond (λak=>.ret (.inr ⟨_,rfl,?_⟩)) λak=>?_)) λak=>by simp at ak;omega
  ·have ak:ys.length<=j:=by simpa using ak
   rw[hs,vE aC,CL ak];rfl
  have ch:j<ys.length:=by simpa using ak
  rw[vE aC,vE ch]at hs;refine .idx I ch (.eq (aW _ _) ?_);rw[dp _ aC,dp _ ch];have hs:lc g xs ys=if g xs[j] ys[j]=0 then lc g (xs.drop (j+1)) (ys.drop (j+1))else g xs[j] ys[j]:=hs;refine .cond (λak=>.ret (.inr ⟨_,rfl,?_⟩)) λak=>.ret ⟨dS (by omega),ch,?_⟩
  ·have:g xs[j] ys[j]≠0:=by simpa using ak
   rw[hs,bf this]
  have:g xs[j] ys[j]=0:=by simpa using ak
  rw[hs,bk this]
 ·obtain⟨rfl,Ue,hs⟩:=hs;refine .cond (λak=>by simp at ak) λ_=>.ret (.inl ⟨_,rfl,?_⟩);rw[hs,xq];cases hd:ys.drop xs.length with
  | nil=>
    have:=Vi.1 hd
    rw[bf (by omega)];rfl
  | cons z nR=>
    have:ys.length-xs.length=nR.length+1:=by rw[<-ku,hd];rfl
    rw[bk (by omega)];rfl
 rcases he with⟨q,rfl,hq⟩|⟨q,rfl,hq⟩
 ·simp only[Sum.elim_inl];refine .cond (λak=>.ret ?_) λak=>.ret ?_
  ·rw[hq,bk (by simpa using ak)]
  rw[hq,bf (by simpa using ak)]
 simp only[Sum.elim_inr];exact .ret hq
def aeP{g:aV->aV->Int}{f:aV->aV->aA Int}(aW:∀a b,f a b=some (g a b)){xs ys:aa aV}(an:xs.length<=100000)(hy:ys.length<=100000):FE xs ys f=some (lc g xs ys):=by
 refine bd.get ?_;unfold FE;refine .bind (P:=λe=>(∃q,e=.inl q∧lc g xs ys=if xs.length<ys.length then -1 else 0)∨∃q:Int×Int×Int×Bool×Bool,e=.inr q∧q.1=lc g xs ys)
  (bd.l4 xs.length (λj st=>st=(j:Int)∧j<=ys.length∧lc g xs ys=lc g (xs.drop j) (ys.drop j)) (by omega) ⟨rfl,by omega,rfl⟩ (λj st aC hs=>?_) (λst hs=>?_)) λe he=>?_
 ·obtain⟨rfl,Ue,hs⟩:=hs;refine .cond (λ_=>.idx I aC (.cond (λak=>.ret (.inr ⟨_,rfl,?_⟩)) λak=>?_)) λak=>by simp at ak;omega
  ·have ak:ys.length<=j:=by simpa using ak
   rw[hs,vE aC,CL ak];rfl
  have ch:j<ys.length:=by simpa using ak
  rw[vE aC,vE ch]at hs;refine .idx I ch (.eq (aW _ _) ?_);rw[dp _ aC,dp _ ch];have hs:lc g xs ys=if g xs[j] ys[j]=0 then lc g (xs.drop (j+1)) (ys.drop (j+1))else g xs[j] ys[j]:=hs;refine .cond (λak=>.ret (.inr ⟨_,rfl,?_⟩)) λak=>.ret ⟨dS (by omega),ch,?_⟩
  ·have:g xs[j] ys[j]≠0:=by simpa using ak
   rw[hs,bf this]
  have:g xs[j] ys[j]=0:=by simpa using ak
  rw[hs,bk this]
 ·obtain⟨rfl,Ue,hs⟩:=hs;refine .cond (λak=>by simp at ak) λ_=>.ret (.inl ⟨_,rfl,?_⟩);rw[hs,xq];cases hd:ys.drop xs.length with
  | nil=>
    have:=Vi.1 hd
    rw[bf (by omega)];rfl
  | cons z nR=>
    have:ys.length-xs.length=nR.length+1:=by rw[<-ku,hd];rfl
    rw[bk (by omega)];rfl
 rcases he with⟨q,rfl,hq⟩|⟨q,rfl,hq⟩
 ·simp only[Sum.elim_inl];refine .cond (λak=>.ret ?_) λak=>.ret ?_
  ·rw[hq,bk (by simpa using ak)]
  rw[hq,bf (by simpa using ak)]
 simp only[Sum.elim_inr];exact .ret hq
def E9(m:bN):Int:=if m.gl=true then 1 else 0
def alR(m:bN):Dt m=some (E9 m):=by
 unfold Dt E9;cases m.gl <;> rfl
def vA:bN->bN->Int:=kl (λx y=>jD (E9 x) (E9 y)) (kl (λx y=>jD (kq x.cw) (kq y.cw)) (kl (λx y=>jD (kq x.hI) (kq y.hI)) (kl (λx y=>jD x.fA y.fA) (λx y=>jD (kq x.ly) (kq y.ly)))))
def aa5:lv vA:=(sx.on E9).kl ((sx.on λx:bN=>kq x.cw).kl ((sx.on λx:bN=>kq x.hI).kl ((sx.on λx:bN=>x.fA).kl (sx.on λx:bN=>kq x.ly))))
def akP{x y:bN}(h:vA x y=0):x=y:=by
 obtain⟨h1,h⟩:=uI h;obtain⟨ae,h⟩:=uI h;obtain⟨az,h⟩:=uI h;obtain⟨aQ,a7⟩:=uI h;refine Rh ?_ (D8 (rD.1 ae)) (D8 (rD.1 az)) (rD.1 aQ) (D8 (rD.1 a7));have:=rD.1 h1;unfold E9 at this;cases an:x.gl <;> cases hy:y.gl <;> simp[an,hy]at this <;> rfl
def ab9(a b c d e:Int):oV [a,b,c,d,e]=if a=0 then(if b=0 then(if c=0 then(if d=0 then e else d)else c)else b)else a:=by
 have:(if e=0 then 0 else e)=e:=by split <;> omega
 show(if a=0 then(if b=0 then(if c=0 then(if d=0 then(if e=0 then 0 else e)else d)else c)else b)else a)=_;rw[this]
def ag8(x y:bN):Gs x y=some (vA x y):=by
 unfold Gs;by_cases e:x=y
 ·subst e;simp only[LB,cond_true];rw[aa5.self]
 simp only[e,vQ,cond_false,alR,wo,Rn,Option.bind_some];rw[Xw (by simp),ab9];rfl
def r9:aO->aO->Int:=kl (λx y=>jD x.ct y.ct) (kl (λx y=>jD y.ep x.ep) (kl (λx y=>lc vA x.bs y.bs) (kl (λx y=>jD x.cq y.cq) (λx y=>lc (λv w=>jD (kq v) (kq w)) x.c3 y.c3))))
def IB:lv r9:=(sx.on λx:aO=>x.ct).kl ((sx.on λx:aO=>x.ep).rev.kl (((aa4 aa5).on λx:aO=>x.bs).kl ((sx.on λx:aO=>x.cq).kl ((aa4 (sx.on kq)).on λx:aO=>x.c3))))
def YW{x y:aO}(h1:x.bs.length<=1000)(ae:y.bs.length<=1000)(az:x.c3.length<=1000)(aQ:y.c3.length<=1000):Du x y=some (r9 x y):=by
 unfold Du;rw[wo,wo,wo,aeO ag8 (by omega) (by omega),aeP Rn (by omega) (by omega)];simp only[Option.bind_some];rw[Xw (by simp),ab9];rfl
def QV{α:Type}{m:aA (aa α)}{P:aa α->Prop}{n:Nat}(h:bd m (λr=>r.length=n∧P r)):bd (wG n m) P:=by
 obtain⟨r,h1,ae,az⟩:=h;refine⟨r,?_,az⟩;unfold wG;rw[h1];simp[ae]
def Ma{α:Type}[Inhabited α]{xs:aa α}{k:Nat}{v:α}(hk:k<xs.length)(i:Nat):av (dr xs k v) i=if i=k then v else av xs i:=by
 unfold av dr;by_cases e:i=k
 ·subst e;rw[bk I];simp[hk]
 rw[bf e];simp[vG (zQ e)]
def My{j:Nat}(h1:1<=j)(h:j<2^62):bu ((j:Int)-1)=((j-1:Nat):Int):=by rw[hX] <;> omega
def r2{α:Type}[Inhabited α](c:α->α->Int)(ys:aa α)(n:Nat):Prop:=∀p q,p<q->q<n->c (av ys p) (av ys q)<=0
def Fo{α:Type}[Inhabited α](c:α->α->Int)(ys:aa α)(b i:Nat):Prop:=∀p q,p<q->q<=i->q≠b->c (av ys p) (av ys q)<=0
def Fo.stop{α:Type}[Inhabited α]{c:α->α->Int}(ak:lv c){ys:aa α}{b i:Nat}(h:Fo c ys b i)(hb:b<=i)(hs:b=0∨0<=c (av ys b) (av ys (b-1))):r2 c ys (i+1):=λp q yH hq=>by
 by_cases e:q=b
 ·subst e;rcases hs with rfl|hs
  ·omega
  have h1:c (av ys (q-1)) (av ys q)<=0:=by have:=ak.neg (av ys q) (av ys (q-1));have:=ak.neg (av ys (q-1)) (av ys q);omega
  by_cases aK:p=q-1
  ·rw[aK];exact h1
  exact ak.lR _ _ _ (h p (q-1) (by omega) (by omega) (by omega)) h1
 exact h p q yH (by omega) e
def Fo.swap{α:Type}[Inhabited α]{c:α->α->Int}{ys:aa α}{b i:Nat}(h:Fo c ys b i)(hb:b<=i)(h1:1<=b)(au:i<ys.length)(ch:c (av ys b) (av ys (b-1))<0):
 Fo c (dr (dr ys b (av ys (b-1))) (b-1) (av ys b)) (b-1) i:=λp q yH hq dm=>by
 have bH:∀a,av (dr (dr ys b (av ys (b-1))) (b-1) (av ys b)) a=if a=b-1 then av ys b else if a=b then av ys (b-1)else av ys a:=λa=>by
  rw[Ma (by unfold dr;rw[pe];omega),Ma (by omega)]
 rw[bH,bH,bf dm]
 by_cases ar:q=b
 ·rw[bk ar]
  by_cases aK:p=b-1
  ·rw[bk aK];omega
  rw[bf aK,bf (by omega)]
  exact h p (b-1) (by omega) (by omega) (by omega)
 rw[bf ar]
 by_cases aK:p=b-1
 ·rw[bk aK]
  exact h b q (by omega) hq ar
 rw[bf aK]
 by_cases cr:p=b
 ·rw[bk cr]
  exact h (b-1) q (by omega) hq ar
 rw[bf cr]
 exact h p q yH hq ar
def swap_perm{α:Type}[Inhabited α]{ys:aa α}{b:Nat}(hb:b<ys.length):(dr (dr ys b (av ys (b-1))) (b-1) (av ys b)).Perm ys:=by
 have h1:b-1<ys.length:=by omega
 unfold dr;rw[dp _ h1,dp _ hb];exact List.set_set_perm hb h1
def _root_.Gv.cM.next{β:Type}{n:Nat}{vis:aa Nat}{k:aA Nat->ah β}{P:β->Prop}(h:∀j,CB n vis j->cM (k j) P):cM (ah.bind (ah.next n vis) k) P:=λQ hq j aC=>h j aC Q hq
def _root_.Gv.cM.wA{T:Type}{xs:aa T}{F:T->T->aA Int}{c:T->T->Int}(ak:yQ c)(ao:xs.length<4611686018427387904)(lP:∀a∈xs,∀b∈xs,F a b=some (c a b)):cM (ah.wA xs F) (λr=>r.Perm xs∧r.Pairwise (λa b=>c a b<=0)):=λQ hq=>⟨c,ak,ao,lP,λys h1 ae=>hq ys ⟨h1,ae⟩⟩
structure Met(n:Nat)(vis:List Nat):Prop where
 one:vis.Nodup
 lt:∀q∈vis,q<n
def Met.more{n:Nat}{vis:aa Nat}{q:Nat}(h:Met n vis)(hq:q<n∧q∉vis):Met n (vis++[q]):=
 ⟨by rw[pS];exact⟨h.one,by simp,λa aY b hb e=>by rw[hi.1 hb]at e;exact hq.2 (e▸aY)⟩,λa aY=>by
  rcases cz.1 aY with aY|aY
  ·exact h.lt a aY
  rw[hi.1 aY];exact hq.1⟩
def Met.perm{n:Nat}{vis:aa Nat}(h:Met n vis)(aY:∀j,j<n->j∈vis):vis.Perm (List.range n):=
 (UT h.one List.nodup_range).2 λa=>⟨λh1=>nX.2 (h.lt a h1),λh1=>aY a (nX.1 h1)⟩
def Met.full{n:Nat}{vis:aa Nat}(h:Met n vis)(ao:vis.length=n){q:Nat}(hq:q<n):q∈vis:=by
 false_or_by_contra;rename_i fb;have h1:vis.Perm ((List.range n).filter λx=>decide (x∈vis)):=(UT h.one (List.nodup_range.filter _)).2 λa=>by
  rw[uw,nX,fk];exact⟨λh1=>⟨h.lt a h1,h1⟩,λh1=>h1.2⟩
 have ae:=h1.length_eq;have az:((List.range n).filter λx=>decide (x∈vis)).length<(List.range n).length:=List.length_filter_lt_length_iff_exists.2 ⟨q,nX.2 hq,by simpa using fb⟩;rw[CV]at az;omega
def Xx{α:Type}[Inhabited α](l:aa α):(List.range l.length).map (λq=>av l q)=l:=by
 apply zt
 ·simp
 intro i h1 ae;simp only[CY,Pk];rw[dp _ ae]
def Uf(a c:aS):Int:=r9 a.bl c.bl
def Zz:lv Uf:=IB.on λi:aS=>i.bl
def ape{s:aD}(h:cA s){k:Nat}(hk:k<4){hp:aL Cell}{p:Nat}{l:aa aS}{own:Nat->Prop}(an:kK s k hp p l own)(hlen:l.length<=900):
 cM (GY hp (some p)) (λr=>r.2=hp∧r.1.Perm l∧r.1.Pairwise (λa b=>Uf a b<=0)):=by
 obtain⟨f,m,em,h1,ae,az,aQ,a7,bp⟩:=an.cell
 have ao:=an.mJ.ok
 have tL:em.length=l.length:=by rw[a7.length_eq,kf]
 have Ey:∀q,q<em.length->(av em q).2∈l:=λq hq=>by
  have hm:av em q∈em:=by rw[dp _ hq];exact gI _
  obtain⟨i,au,e⟩:=gJ.1 (a7.mem_iff.1 hm);rw[<-e];exact au
 have yo:∀vis,Met em.length vis->(∀j,j<em.length->j∈vis)->(vis.map λq=>(av em q).2).Perm l:=λvis ba aY=>by
  refine((ba.perm aY).map _).trans ?_;have:(List.range em.length).map (λq=>(av em q).2)=em.map (·.2):=by
   rw[show(List.range em.length).map (λq=>(av em q).2)=((List.range em.length).map (λq=>av em q)).map (·.2) by rw[uy];rfl,Xx]
  rw[this];refine(a7.map (·.2)).trans ?_;rw[uy,show((λx:Int×aS=>x.2) ∘ λi:aS=>(i.cU,i))=id from rfl,List.map_id]
 unfold GY
 refine .cond (λak=>by cases ak) λ_=>.eq rfl (.eq h1 (.eq rfl (.eq ae ?_)))
 refine .bind (P:=λe=>e.2.2.Perm l) (cM.loop em.length (λj st=> ∃vis,st=(vis,vis.map λq=>(av em q).2)∧vis.length=j∧Met em.length vis) (by omega) ⟨[],rfl,rfl,.nil,by simp⟩ (λj st aC hs=>?_) (λst hs=>?_)) λe he=>?_
 ·obtain⟨vis,rfl,sM,ba⟩:=hs
  refine .next λo a8=>?_
  cases o with
  |none=>exact .cond (λak=>by cases ak) λ_=>.ret (yo vis ba a8)
  | some q=>
    refine .cond (λ_=>.eq I (.eq (H2 h hk (ao.ok _ (Ey q a8.1))) (.eq (fN _ _ (by simp;omega) (by omega)) (.ret ⟨vis++[q],?_,by simp[sM],ba.more a8⟩)))) λak=>by cases ak
    rw[pT];rfl
 ·obtain⟨vis,rfl,sM,ba⟩:=hs
  refine .next λo a8=>?_
  cases o with
  |none=>exact .cond (λak=>by cases ak) λ_=>.ret (yo vis ba a8)
  |some q=>exact absurd (ba.full sM a8.1) a8.2
 have w6:∀a∈e.2.2,a.bl.bs.length<=1000∧a.bl.c3.length<=1000:=λa aY=>(ao.ok a (he.mem_iff.1 aY)).small h hk
 have hle:=he.length_eq
 refine .bind (cM.wA (c:=Uf) ⟨Zz.neg,Zz.lR⟩ (by omega) λa aY b hb=>?_) λbm hy=>.ret ⟨rfl,hy.1.trans he,hy.2⟩
 unfold K9
 rw[YW (w6 a aY).1 (w6 b hb).1 (w6 a aY).2 (w6 b hb).2]
 rfl
def EF.mJ{s:aD}{hp:aL Cell}{p:Nat}{ls:Nat->aa aS}{next:Int}(h:EF s hp p ls next){k:Nat}(hk:k<4):kp s k (ls k):=by
 obtain⟨q,own,_,ae⟩:=QU h hk;exact ae.mJ
def eb(ls:Nat->aa aS):aa aS:=ls 0++ls 1++ls 2++ls 3
def ajh{ls:Nat->aa aS}{i:aS}:i∈eb ls↔∃k,k<4∧i∈ls k:=by
 unfold eb;simp only[cz];constructor
 ·rintro (((h|h)|h)|h)
  ·exact⟨0,by decide,h⟩
  ·exact⟨1,by decide,h⟩
  ·exact⟨2,by decide,h⟩
  exact⟨3,by decide,h⟩
 rintro ⟨k,hk,h⟩;have:k=0∨k=1∨k=2∨k=3:=by omega
 rcases this with rfl|rfl|rfl|rfl
 ·exact .inl (.inl (.inl h))
 ·exact .inl (.inl (.inr h))
 ·exact .inl (.inr h)
 exact .inr h
def Mg{ls:Nat->aa aS}{k:Nat}(hk:k<4)(i:aS):(eb ls++[i]).Perm (eb (gX ls k (ls k++[i]))):=by
 unfold eb;have c:∀a b d:aa aS,((a++b)++d).Perm (a++d++b):=λa b d=>by
  rw[jE,jE];exact List.Perm.append_left _ oF
 have:k=0∨k=1∨k=2∨k=3:=by omega
 rcases this with rfl|rfl|rfl|rfl
 ·rw[z7,oK (by decide),oK (by decide),oK (by decide)];exact(c _ _ _).trans (((c _ _ _).trans ((c _ _ _).append_right _)).append_right _)
 ·rw[z7,oK (by decide),oK (by decide),oK (by decide),<-jE (ls 0)];exact(c _ _ _).trans ((c _ _ _).append_right _)
 ·rw[z7,oK (by decide),oK (by decide),oK (by decide),<-jE (ls 0++ls 1)];exact c _ _ _
 rw[z7,oK (by decide),oK (by decide),oK (by decide),jE (ls 0++ls 1++ls 2)]
def Xy{ls:Nat->aa aS}{k:Nat}{a b:aa aS}:gX (gX ls k a) k b=gX ls k b:=by
 funext j;unfold gX;split <;> rfl
def akQ{l:aa aS}{e:aO}(h:eH l e=none):iS l e=l:=by
 unfold iS;exact xm.2 λc ak=>by rw[wb h c ak];rfl
def ait{l:aa aS}{e:aO}{i:aS}(au:iW i.bl e=true):iS (l++[i]) e=iS l e:=by
 unfold iS;rw[uv];simp[au]
structure ur(X:Nat->Prop)(hp hp':aL Cell):Prop where
 at_:∀q,X q->pat hp' q=pat hp q
 keys:∀q,q∈da hp->q∈da hp'
def ur.trans{X:Nat->Prop}{a b c:aL Cell}(h:ur X a b)(k:ur X b c):ur X a c:=⟨λq hq=>(k.at_ q hq).trans (h.at_ q hq),λq hq=>k.keys q (h.keys q hq)⟩
structure mf(X:Nat->Prop)(s:aD)(hp:aL Cell)(p:Nat)(ls:Nat->List aS)(next:Int):Prop where
 cell:∃m eS own,jI hp p=some ⟨s,⟨some m⟩,next⟩∧l3 hp m=some eS∧py s hp p m eS 4 ls own∧(¬X p∧¬X m)∧∀k,k<4->∀q,own k q->¬X q
 nO:∀q,X q->q∈da hp
def mf.ok{X:Nat->Prop}{s:aD}{hp:aL Cell}{p:Nat}{ls:Nat->aa aS}{next:Int}(h:mf X s hp p ls next):EF s hp p ls next:=by
 obtain⟨m,eS,own,h1,ae,az,_⟩:=h.cell;exact⟨m,eS,own,h1,ae,az⟩
def mf.off{X:Nat->Prop}{s:aD}{hp hp':aL Cell}{p:Nat}{ls:Nat->aa aS}{next:Int}(h:mf X s hp p ls next)(ne:∀q,¬X q->pat hp' q=pat hp q)(hk:∀q,q∈da hp->q∈da hp'):mf X s hp' p ls next:=by
 obtain⟨m,eS,own,h1,ae,az,⟨aQ,a7⟩,bp⟩:=h.cell;exact⟨⟨m,eS,own,by rw[DL (ne p aQ)];exact h1,by rw[DM (ne m a7)];exact ae,az.congr hk λk hk x an=>ne x (bp k hk x an),⟨aQ,a7⟩,bp⟩,
  λx an=>hk x (h.nO x an)⟩
def mf.change{X:Nat->Prop}{s:aD}{hp hp':aL Cell}{p:Nat}{ls:Nat->aa aS}{next:Int}{m:Nat}{eS:aa (Int×Ref)}{own:Nat->Nat->Prop}(au:∀q,X q->q∈da hp)(h1:jI hp p=some ⟨s,⟨some m⟩,next⟩)(ae:l3 hp m=some eS)(az:py s hp p m eS 4 ls own)
 (aQ: ¬X p∧¬X m) (a7:∀k,k<4->∀q,own k q->¬X q) {k:Nat} (hk:k<4) {q:Nat} (hq:dO eS ((k:Int)+1)=some (some q)) {l:aa aS} {own':Nat->Prop}
 (an:kK s k hp' q l own') (a8:∀x,own' x->own k x∨x∉da hp) (mC:er hp hp' (own k)):mf X s hp' p (gX ls k l) next∧ur X hp hp':=by
 obtain⟨g1,g2,g3⟩:=py.change h1 ae az hk hq an a8 mC
 refine⟨⟨⟨m,eS,_,g1,g2,g3,aQ,λj aC x gR nQ=>?_⟩,λx gR=>mC.keys x (au x gR)⟩,⟨λx gR=>mC.rest x (au x gR) λh=>a7 k hk x h gR,mC.keys⟩⟩
 by_cases e:j=k
 ·rw[bk e]at gR
  rcases a8 x gR with h|h
  ·exact a7 k hk x h nQ
  exact h (au x nQ)
 rw[bf e]at gR;exact a7 j aC x gR nQ
def mf.next'{X:Nat->Prop}{s:aD}{hp:aL Cell}{p:Nat}{ls:Nat->aa aS}{next:Int}(h:mf X s hp p ls next)(n:Int){c:k5}(ak:jI hp p=some c):mf X s (cF hp p (Cell.qV {c with oO:=n})) p ls n∧ur X hp (cF hp p (Cell.qV {c with oO:=n})):=by
 obtain⟨m,eS,own,h1,ae,az,aQ,a7⟩:=h.cell;rw[h1]at ak;cases ak;have yO:=uT h1;have lk:p≠m:=λe=>by rw[e,wi ae]at yO;cases yO
 exact⟨⟨⟨m,eS,own,aje yO,by rw[DM (mP lk)];exact ae,az.congr (λq hq=>by rw[qN];exact hq) λk hk q hq=>mP λe=>(az.out k hk).1 (e▸hq),aQ,a7⟩,λx an=>by rw[qN];exact h.nO x an⟩,
  ⟨λx an=>mP λe=>aQ.1 (e▸an),λx an=>by rw[qN];exact an⟩⟩
def Yl{s:aD}{hp:aL Cell}{p m:Nat}{eS:aa (Int×Ref)}{next:Int}(h1:jI hp p=some ⟨s,⟨some m⟩,next⟩)(ae:l3 hp m=some eS){x:Int}{q:Nat}(aQ:dO eS x=some (some q)):s7 hp (some p) x=some (some q):=by
 refine bd.get ?_;unfold s7;refine .cond (λak=>by cases ak) λ_=>.eq rfl (.eq h1 (.eq rfl (.eq ae (.eq rfl (.ret ?_)))));rw[aQ];rfl
def aji{X:Nat->Prop}{s:aD}(hs:cA s){hp:aL Cell}{p:Nat}{ls:Nat->aa aS}{next:Int}(h:mf X s hp p ls next){k:Nat}(hk:k<4){e:aO}(he:gu s k e)(qC:Int)(yr:∀i∈ls k,i.cU<next)(hlen:(ls k).length<900)(aM:0<=next∧next<1000000):
 cM (Gx hp (some p) e qC) (λr=>
  if (eH (ls k) e).isSome=true then r=(0,17,hp)else if (av s.bh k).ht<=((ls k).length:Int)then r=(0,18,hp)
  else r.1=next∧r.2.1=0∧mf X s r.2.2 p (gX ls k (ls k++[{bl:=e,cU:=next,ij:=qC}])) (next+1)∧ur X hp r.2.2):=by
 obtain⟨m,eS,own,h1,ae,az,nQ,mi⟩:=h.cell
 obtain⟨q,aQ,a7⟩:=az.has k hk
 unfold Gx
 rw[he.fK]
 refine .eq (Yl h1 ae aQ) (.cond (λak=>by cases ak) λ_=>.eq (Rj hs hk a7 he) ?_)
 rw[akN]
 refine .cond (λak=>.ret (by rw[bk ak])) λak=>.eq (alN a7) (.eq (akM hs h.ok hk) (.cond (λdR=>.ret ?_) λdR=>?_))
 ·rw[bf (by rw[ak];simp),bk (by simpa using dR)]
 have dR: ¬(av s.bh k).ht<=((ls k).length:Int):=by simpa using dR
 have aW:eH (ls k) e=none:=by
  cases aW:eH (ls k) e with
  |none=>rfl
  |some _=>rw[aW]at ak;cases ak
 have au:om s k ({bl:=e,cU:=next,ij:=qC}:aS):=⟨he⟩
 have kc:kh (ls k) next=false:=by
  unfold kh;rw[xp];intro c lh;have:=yr c lh;simp;omega
 have bE:yW (ls k) ({bl:=e,cU:=next,ij:=qC}:aS)=true:=by
  unfold yW;simp only[aW,kc];rfl
 refine .eq I (.eq h1 (.eq I (.bind (alP hs hk a7 au hlen) λbR bp=>?_)))
 obtain⟨_,g2,g3⟩:=bp
 obtain⟨cv,w6⟩:=mf.change h.nO h1 ae az nQ mi hk aQ g2 (λx an=>an.imp id λh=>h.1) g3
 unfold added at cv
 rw[bk bE]at cv
 obtain⟨r8,au2,own',bZ,_⟩:=cv.cell
 refine .eq bZ (.eq I (.ret ?_))
 rw[bf (by rw[ak];simp),bf dR]
 have hw:bu (next+1)=next+1:=hX (by omega) (by omega)
 have:=cv.next' (next+1) bZ
 simp only[hw]
 exact⟨trivial,trivial,this.1,w6.trans this.2⟩
def Ym{X:Nat->Prop}{s:aD}(hs:cA s){hp:aL Cell}{p:Nat}{ls:Nat->aa aS}{next:Int}(h:mf X s hp p ls next){k:Nat}(hk:k<4){e:aO}(he:gu s k e):
 cM (xu hp (some p) e) (λr=>(match eH (ls k) e with |some i=>(r.1,r.2.1)=(i,0)|none=>(r.1,r.2.1)=(default,16))∧mf X s r.2.2 p (gX ls k (iS (ls k) e)) next∧ur X hp r.2.2):=by
 obtain⟨m,eS,own,h1,ae,az,nQ,mi⟩:=h.cell
 obtain⟨q,aQ,a7⟩:=az.has k hk
 unfold xu
 rw[he.fK]
 refine .eq (Yl h1 ae aQ) (.cond (λak=>by cases ak) λ_=>.bind (ais hs hk a7 he) λaF bp=>?_)
 obtain⟨g1,g2,g3⟩:=bp
 have cv:=mf.change h.nO h1 ae az nQ mi hk aQ g2 (λx an=>.inl an) g3
 have ar:aF.1=(Cq (eH (ls k) e)).1:=ev Prod.fst g1
 have aK:aF.2.1=(Cq (eH (ls k) e)).2:=ev Prod.snd g1
 cases aW:eH (ls k) e with
 | none=>
   rw[aW]at ar aK
   refine .cond (λ_=>.ret ⟨rfl,cv⟩) λak=>by rw[aK]at ak;cases ak
 | some i=>
   rw[aW]at ar aK
   refine .cond (λak=>by rw[aK]at ak;cases ak) λ_=>.ret ⟨?_,cv⟩
   rw[ar];rfl
def ahz{X:Nat->Prop}{s:aD}{hp:aL Cell}{p:Nat}{ls:Nat->aa aS}{next:Int}(h:mf X s hp p ls next)(n:Int):bd (CW hp (some p) n) (λr=>mf X s r p ls (max 1 n)∧ur X hp r):=by
 obtain⟨m,eS,own,h1,_⟩:=h.cell;unfold CW;exact .bind (P:=λm=>mf X s m p ls (max 1 n)∧ur X hp m) (.cond (λ_=>.eq I (.eq h1 (.eq I (.ret (h.next' _ h1))))) λak=>by cases ak) λm hm=>.ret hm
def hB{α:Type}(m:aA α)(P:α->Prop):Prop:=∀r,m=some r->P r
def hB.bind{α β:Type}{m:aA α}{f:α->aA β}{P:α->Prop}{Q:β->Prop}(h:hB m P)(k:∀r,P r->hB (f r) Q):hB (m.bind f) Q:=λr e=>by
 cases hm:m with
 |none=>rw[hm]at e;cases e
 |some a=>rw[hm]at e;exact k a (h a hm) r e
def hB.skip{α β:Type}{m:aA α}{f:α->aA β}{Q:β->Prop}(k:∀r,hB (f r) Q):hB (m.bind f) Q:=.bind (P:=λ_=>True) (λ_ _=>trivial) λr _=>k r
def hB.ret{α:Type}{a:α}{P:α->Prop}(h:P a):hB (some a) P:=λr e=>by cases e;exact h
def hB.eq{α β:Type}{a:α}{f:α->aA β}{Q:β->Prop}(k:hB (f a) Q):hB ((some a).bind f) Q:=k
def hB.cond{α:Type}{b:Bool}{m n:aA α}{P:α->Prop}(h1:b=true->hB m P)(ae:b=false->hB n P):hB (cond b m n) P:=by
 cases b
 ·exact ae I
 exact h1 I
def hB.b4{α:Type}[Inhabited α]{b w:Bool}{m:aA α}{P:α->Prop}(h:hB m P):hB (b4 b w m) (λr=>b=w->P r):=λr e hb=>by
 unfold Gv.b4 at e;rw[bk hb]at e;exact h r e
def hB.idx{n:Nat}{i:Int}:hB (idx n i) (λk=>(k:Int)=i∧k<n):=λk e=>by
 obtain⟨h1,ae⟩:=c4 e;exact⟨by omega,h1⟩
def hB.loop{σ ε:Type}{body:σ->aA (σ⊕ε)}{P:ε->Prop}{n:Nat}{s0:σ}(fC:σ->Prop)(bJ:fC s0)(hb:∀s,fC s->hB (body s) (λx=>match x with | .inl cH=>fC cH| .inr e=>P e)):hB (dy n body s0) P:=by
 induction n generalizing s0 with
 |zero=>intro r e;cases e
 | succ n b6=>
   intro r e
   simp only[dy]at e
   cases hm:body s0 with
   |none=>rw[hm]at e;cases e
   | some x=>
     rw[hm]at e
     have:=hb s0 bJ x hm
     cases x with
     |inl cH=>exact b6 this r e
     |inr y=>cases e;exact this
def bd.par{α:Type}{m:aA α}{P Q:α->Prop}(h:bd m P)(k:hB m Q):bd m (λr=>P r∧Q r):=by
 obtain⟨r,h1,ae⟩:=h;exact⟨r,h1,ae,k r h1⟩
def xQ{α:Type}{b:Nat}{xs ys:aa α}:hB (e8 b xs ys) (λr=>r=xs++ys):=λr e=>by
 unfold e8 at e;split at e
 ·cases e;rfl
 cases e
def Yn(c:ea)(n:Int)(aM:0<n):hB (gk c n) (λr=>0<=r.1∧r.1<n):=by
 unfold gk;refine .skip λ_=>.cond (λ_=>.ret ⟨P0 0,aM⟩) λ_=>.bind .idx λk _=>.bind (P:=λy=>0<=y∧y<n) (λy e=>?_) λy hy=>.ret hy;unfold vb at e;split at e
 ·cases e
 cases e;exact⟨Pz _ (by omega),FZ _ aM⟩
def Ja(s:aD)(r:cY):Prop:=
 r.pn=1∧r.uK=0∧((r.ct=2∧r.cq=4∧r.xN=0)∨(r.ct=3∧r.cq=0∧r.k9=2∧(av s.bh 2).bY.length=3)∨
   (r.ct=4∧r.cq=0∧r.k9=1∧(av s.bh 3).bY.length=3)∨(r.ct=4∧r.cq=5∧r.xN=0))
structure kL(s:aD):Prop where
 refs:∀r∈s.cV,Ja s r
 oe:s.cV.length<=4
 quo:∀x∈s.cG,0<=x.kz
 all:(av s.cG 0).kz=40
def aiu(c:ea)(cx:aa bw):hB (s8 c cx) (λr=>(∀x∈r.1,0<=x.kz)∧(av r.1 0).kz=40):=by
 unfold s8;refine .skip λ_=>.bind (Yn _ _ (by omega)) λaF ae=>.skip λbm=>.bind (Yn _ _ (by omega)) λbG aQ=>?_;refine .bind (P:=λe=>0<=e.2.2.1.kz∧0<=e.2.2.2.2.2.1.kz∧e.2.2.2.2.2.2.2.1.kz=40) (.loop (λst=>0<=st.2.1.kz∧0<=st.2.2.2.2.1.kz∧st.2.2.2.2.2.2.1.kz=40) ⟨aQ.1,?_,rfl⟩ λst cv=>?_) λe he=>.eq (.eq (.ret ⟨λx an=>?_,he.2.2⟩))
 ·simp only;rw[hX (by omega) (by omega)];omega
 ·refine .cond (λ_=>.skip λaR=>.skip λbR=>.skip λb8=>.skip λaK=>.eq (.skip λeu=>.skip λfy=>?_)) λ_=>.ret cv;refine .bind (P:=λm=>0<=m.2.1.kz) (.cond (λ_=>.skip λ_=>.skip λ_=>.eq (.skip λ_=>.ret cv.2.1)) λ_=>.ret cv.2.1) λm1 h1=>.skip λgZ=>?_;exact .bind (P:=λm=>0<=m.2.1.kz) (.cond (λ_=>.skip λ_=>.skip λ_=>.eq (.skip λ_=>.ret cv.1)) λ_=>.ret cv.1) λm2 ae=>.ret ⟨ae,h1,cv.2.2⟩
 simp only[dW,rr,rz]at an;rcases an with rfl|rfl|rfl
 ·show 0<=e.2.2.2.2.2.2.2.1.kz;rw[he.2.2];decide
 ·exact he.2.1
 exact he.1
def W7(c:ea):hB (pU c) (λr=>kL r.1):=by
 unfold pU;refine .skip λal=>.skip λaF=>.eq (.eq (.eq (.eq (.eq (.eq (.eq (.eq (.eq (.eq (.eq (.eq (.skip λbm=>.skip λbG=>.skip λbR=>.eq (.eq (.bind (aiu _ _) λb8 bp=>.eq (.skip λde=>.skip λm1=>.skip λeu=>?_)))))))))))))));refine .bind (P:=λm2=>m2.1.bh=bR.1∧m2.1.cG=b8.1∧(m2.2=[]∨m2.2=[({(default:cY)with ct:=2,cq:=4,pn:=1}:cY)])) (.cond (λ_=>.eq (.bind xQ λy hy=>.ret ⟨rfl,rfl,.inr hy⟩)) λ_=>.ret ⟨rfl,rfl,.inl I⟩) λm2 ae=>?_;obtain⟨ar,aK,ae⟩:=ae;refine .skip λfy=>.bind (.b4 .idx) λaR dg=>?_;refine .bind (P:=λm3=>m3.1.bh=bR.1∧m3.1.cG=b8.1∧m3.2.length<=2∧∀s:aD,s.bh=bR.1->∀r∈m3.2,Ja s r) (.cond (λak=>.eq (.bind xQ λy hy=>.ret ⟨ar,aK,?_,?_⟩)) λ_=>.ret ⟨ar,aK,?_,?_⟩) λm3 az=>?_
 ·subst hy;rcases ae with h|h <;> simp[h]
 ·subst hy;intro s hs r aE;simp only[gq,nv]at ak;have hk:=dg ak.1;have hk:aR=2:=by omega
  subst hk;rw[ar,<-hs]at ak;simp only[cz,hi]at aE;rcases aE with aE|rfl
  ·rcases ae with h|h
   ·rw[h]at aE;cases aE
   rw[h,hi]at aE;subst aE;exact⟨rfl,rfl,.inl ⟨rfl,rfl,rfl⟩⟩
  exact⟨rfl,rfl,.inr (.inl ⟨rfl,rfl,rfl,by omega⟩)⟩
 ·rcases ae with h|h <;> simp[h]
 ·intro s hs r aE;rcases ae with h|h
  ·rw[h]at aE;cases aE
  rw[h,hi]at aE;subst aE;exact⟨rfl,rfl,.inl ⟨rfl,rfl,rfl⟩⟩
 obtain⟨cr,e4,at1,az⟩:=az;refine .skip λgZ=>.bind (.b4 .idx) λbD dh=>?_;refine .bind (P:=λm4=>m4.1.bh=bR.1∧m4.1.cG=b8.1∧m4.2.length<=4∧∀s:aD,s.bh=bR.1->∀r∈m4.2,Ja s r) (.cond (λak=>.eq (.eq (.bind xQ λy hy=>.ret ⟨cr,e4,?_,?_⟩))) λ_=>.ret ⟨cr,e4,by simp only;omega,az⟩) λm4 aQ=>?_
 ·subst hy;simp only[gj,List.length_cons,List.length_nil];omega
 ·subst hy;intro s hs r aE;simp only[gq,nv]at ak;have hk:=dh ak.1;have hk:bD=3:=by omega
  subst hk;rw[cr,<-hs]at ak;simp only[cz,dW,hi,rr,rz]at aE;rcases aE with aE|rfl|rfl
  ·exact az s hs r aE
  ·exact⟨rfl,rfl,.inr (.inr (.inl ⟨rfl,rfl,rfl,by omega⟩))⟩
  exact⟨rfl,rfl,.inr (.inr (.inr ⟨rfl,rfl,rfl⟩))⟩
 obtain⟨hT,lq,adF,aQ⟩:=aQ;exact .eq (.ret ⟨λr aE=>aQ _ hT r aE,adF,λx an=>by simp only[lq]at an;exact bp.1 x an,by simp only[lq];exact bp.2⟩)
def oa(e:aO):Prop:=e.cq=4∨e.cq=5->1<=e.c3.length
def agz{s:aD}(h:cA s){x:Int}:hB (Dp s x) (λa=>x=4∨x=5->1<=a.iC.length):=λr e an=>by
 have key:∀j:Nat,j<6->x=(j:Int)+1->r.iC.map (·.iQ)=av wN j:=λj aC aK=>by
  subst aK;obtain⟨nn,h1,ae⟩:=WH h aC;rw[e]at h1;cases h1;rw[ae];exact(h.act aC).2
 rcases an with an|an
 ·have:=ev List.length (key 3 (by omega) (by omega));rw[kf]at this;rw[this];decide
 have:=ev List.length (key 4 (by omega) (by omega));rw[kf]at this;rw[this];decide
def Xz(c:ea){s:aD}(h:cA s)(x:Int):hB (xv c s x) (λr=>oa r.1):=by
 unfold xv;refine .skip λal=>.skip λaR=>.skip λar=>.skip λbR=>.skip λcf=>.eq (.bind (agz h) λb8 bp=>?_);refine .bind (P:=λe=>e.2.2.1.cq=av (av s.bh aR).bK cf∧(1<=b8.iC.length->1<=e.2.2.2.1.length)) (.loop (λst=>st.2.1.cq=av (av s.bh aR).bK cf∧(st.1=0∨1<=st.2.2.1.length)) ⟨rfl,.inl I⟩ λst cv=>?_) λe he=>.eq (.ret λaY=>?_)
 ·refine .cond (λ_=>.skip λc0=>.skip λde=>.eq (.skip λeu=>.bind xQ λfy e5=>.ret ⟨cv.1,.inr ?_⟩)) λak=>.ret ⟨cv.1,λao=>?_⟩
  ·subst e5;simp
  rcases cv.2 with bJ|bJ
  ·have:=Pm ak;rw[bJ]at this;omega
  exact bJ
 simp only[he.1]at aY;exact he.2 (bp aY)
end Go.Proofs.YtlkieppifclacaaGreat
