/-
  What the programs compute, in plain Lean. Conditions: none.
-/
import Derived.Test.YtppgfphgdogpeaaGreatSl0
import Derived.Test.YtppgfphgdogpeaaGreatSl1
import Derived.Test.YtppgfphgdogpeaaGreatSd
set_option linter.defProp false
set_option linter.unusedVariables false
set_option linter.unusedSimpArgs false
set_option maxRecDepth 100000
namespace Gv
open Go
def XH{σ ε:Type}{body:σ->aE (σ⊕ε)}{Q:ε->Prop}{cb:σ}(m:Nat)(gi:Nat->σ->Prop)
 (hm:m<2^80) (bC:gi 0 cb)
 (hs:∀k s,k<m->gi k s->(∃cv,body s=some (.inl cv)∧gi (k+1) cv)∨(∃e,body s=some (.inr e)∧Q e))
 (he:∀s,gi m s->∃e,body s=some (.inr e)∧Q e):∃e,dh c9 body cb=some e∧Q e:=by
 have key:∀n k s,k<=m->m-k<n->gi k s->∃e,dh n body s=some e∧Q e:=by
  intro n;induction n with
  |zero=>intro k s _ h;omega
  | succ n cg=>
    intro k s hk aM aq
    by_cases BK:k=m
    ·subst BK
     obtain⟨e,h1,ad⟩:=he s aq
     exact⟨e,by simp[dh,h1],ad⟩
    rcases hs k s (by omega) aq with⟨cv,h1,ad⟩|⟨e,h1,ad⟩
    ·obtain⟨e,aB,aV⟩:=cg (k+1) cv (by omega) (by omega) ad
     exact⟨e,by simp[dh,h1,aB],aV⟩
    exact⟨e,by simp[dh,h1],ad⟩
 exact key c9 0 cb (by omega) (by unfold c9;omega) bC
def a8{β:Type}(m:aE β)(P:β->Prop):Prop:=∃r,m=some r∧P r
def a8.ret{β:Type}{P:β->Prop}{r:β}(h:P r):a8 (some r) P:=⟨r,rfl,h⟩
def a8.bind{α β:Type}{m:aE α}{f:α->aE β}{P:α->Prop}{Q:β->Prop}(h:a8 m P)(k:∀a,P a->a8 (f a) Q):a8 (m.bind f) Q:=by
 obtain⟨a,h1,ad⟩:=h;rw[h1];exact k a ad
def a8.eq{α β:Type}{m:aE α}{a:α}{f:α->aE β}{Q:β->Prop}(h:m=some a)(k:a8 (f a) Q):a8 (m.bind f) Q:=by
 rw[h];exact k
def a8.mono{β:Type}{m:aE β}{P Q:β->Prop}(h:a8 m P)(k:∀a,P a->Q a):a8 m Q:=by
 obtain⟨a,h1,ad⟩:=h;exact⟨a,h1,k a ad⟩
def a8.of_eq{β:Type}{m:aE β}{r:β}{P:β->Prop}(h:a8 m P)(k:m=some r):P r:=by
 obtain⟨a,h1,ad⟩:=h;rw[k]at h1;cases h1;exact ad
def a8.cond{β:Type}{b:Bool}{m n:aE β}{P:β->Prop}(h1:b=true->a8 m P)(ad:b=false->a8 n P):a8 (cond b m n) P:=by
 cases b
 ·exact ad I
 exact h1 I
def a8.b1{α β:Type}[Inhabited α]{b w:Bool}{m:aE α}{f:α->aE β}{P:α->Prop}{Q:β->Prop}(h:b=w->a8 m P)(k:∀a,(b=w->P a)->a8 (f a) Q):a8 ((b1 b w m).bind f) Q:=by
 unfold Gv.b1;by_cases hb:b=w
 ·rw[bh hb];exact(h hb).bind λa aY=>k a λ_=>aY
 rw[bf hb];exact k default λh=>absurd h hb
def a8.loop{σ ε β:Type}{body:σ->aE (σ⊕ε)}{f:ε->aE β}{P:β->Prop}{cb:σ}(m:Nat)(gi:Nat->σ->Prop)
 (hm:m<2^80) (bC:gi 0 cb)
 (hs:∀k s,k<m->gi k s->a8 (body s) (λx=>match x with | .inl cv=>gi (k+1) cv| .inr e=>a8 (f e) P))
 (he:∀s,gi m s->∃e,body s=some (.inr e)∧a8 (f e) P):a8 ((dh c9 body cb).bind f) P:=by
 obtain⟨e,h1,ad⟩:=XH (Q:=λe=>a8 (f e) P) m gi hm bC (λk s hk aq=>by
  obtain⟨r,h1,ad⟩:=hs k s hk aq;cases r with
  |inl cv=>exact .inl ⟨cv,h1,ad⟩
  |inr e=>exact .inr ⟨e,h1,ad⟩) he
 rw[h1];exact ad
def a8.jJ{σ ε:Type}{body:σ->aE (σ⊕ε)}{P:ε->Prop}{cb:σ}(m:Nat)(gi:Nat->σ->Prop)
 (hm:m<2^80) (bC:gi 0 cb)
 (hs:∀k s,k<m->gi k s->a8 (body s) (λx=>match x with | .inl cv=>gi (k+1) cv| .inr e=>P e))
 (he:∀s,gi m s->a8 (body s) (λx=>match x with | .inl _=>False| .inr e=>P e)):a8 (dh c9 body cb) P:=by
 obtain⟨e,h1,ad⟩:=XH (Q:=P) m gi hm bC (λk s hk aq=>by
  obtain⟨r,h1,ad⟩:=hs k s hk aq;cases r with
  |inl cv=>exact .inl ⟨cv,h1,ad⟩
  |inr e=>exact .inr ⟨e,h1,ad⟩) λs aq=>by
  obtain⟨r,h1,ad⟩:=he s aq;cases r with
  |inl cv=>exact ad.elim
  |inr e=>exact⟨e,h1,ad⟩
 exact⟨e,h1,ad⟩
def a8.idx{β:Type}{n:Nat}{i:Int}{k:Nat}{f:Nat->aE β}{Q:β->Prop}(aq:i=k)(hk:k<n)(h:a8 (f k) Q):a8 ((Gv.idx n i).bind f) Q:=by
 subst aq;have:Gv.idx n (k:Int)=some k:=by unfold Gv.idx;rw[bh (by omega)];simp
 rw[this];exact h
def jF{α:Type}[Inhabited α]{n:Nat}(v:Vector α n){k:Nat}(x:α)(hk:k<n)(j:Nat):bE (dJ v k x) j=if j=k then x else bE v j:=by
 unfold bE dJ;by_cases h:j=k
 ·subst h;simp[hk]
 rw[bf h,Vector.getElem?_setIfInBounds_ne (by omega)]
def Qg{α:Type}[Inhabited α]{n:Nat}{v w:Vector α n}(h:∀j,j<n->bE v j=bE w j):v=w:=by
 apply Vector.ext;intro i aq;have:=h i aq;simpa[bE,aq]using this
def Lj{α:Type}[Inhabited α]{n:Nat}(j:Nat):bE (default:Vector α n) j=default:=by
 show bE (Vector.replicate n default) j=default;unfold bE;by_cases h:j<n <;> simp[h]
def kS{n k:Nat}(h:k<n):idx n (k:Int)=some k:=by
 unfold idx;rw[bh (by omega)];simp
def wJ{n:Nat}{i:Int}(h:0<=i)(cU:i<n):idx n i=some i.toNat:=by
 unfold idx;rw[bh ⟨h,cU⟩]
def dB{k:Nat}(h:k<2^62):bm ((k:Int)+1)=((k+1:Nat):Int):=by
 rw[gQ (by omega) (by omega)];simp
def s8{k:Nat}(h:k<2^64):(BitVec.ofInt 64 (k:Int)).toNat=k:=by
 simp;omega
def YE(x:BitVec 64):((x&&&1#64)==1#64)=x.getLsbD 0:=by
 rw[BitVec.and_one_eq_setWidth_ofBool_getLsbD];cases x.getLsbD 0 <;> rfl
def ai2(x:BitVec 64)(n:Nat):(((x >>> n)&&&1#64)==1#64)=x.getLsbD n:=by
 rw[YE];simp
def Xa(k j:Nat):((1#64) <<< k).getLsbD j=(decide (j=k)&&decide (j<64)):=by
 rw[UQ];by_cases h:j=k
 ·subst h;simp
 have:(1#64).getLsbD (j-k)=decide (j-k=0):=by
  rw[BitVec.getLsbD_one];simp
 rw[this];by_cases ad:j<k
 ·simp[ad,h]
 have: ¬(j-k=0):=by omega
 simp[h,this]
def Ay{α β:Type}[Inhabited α][Inhabited β](f:α->β){l:aa α}{k:Nat}(hk:k<l.length):ax (l.map f) k=f (ax l k):=by
 rw[dz l hk,dz _ (by simpa using hk),pO]
def mK{α:Type}[Inhabited α](l:aa α){k:Nat}(hk:k<l.length):l.take (k+1)=l.take k++[ax l k]:=by
 rw[Ct,o4 hk,dz l hk];rfl
def QJ{α:Type}[Inhabited α]{xs:aa α}{p:α->Bool}{k:Nat}(hk:k<xs.length)(hp:p (ax xs k)=true)(aC:∀j,j<k->p (ax xs j)=false):xs.find? p=some (ax xs k):=by
 rw[List.find?_eq_some_iff_getElem];refine⟨hp,k,hk,(dz xs hk).symm,λj uR=>?_⟩;have:=aC j uR;rw[dz xs (by omega)]at this;simp[this]
def QK{α:Type}{xs:aa α}{p:α->Bool}(h:∀x∈xs,p x=false):xs.find? p=none:=
 xL.2 λx au=>by simp[h x au]
def ahX{α ε β:Type}[Inhabited α](xs:aa α)(p:α->Bool){body:Int->aE (Int⊕ε)}{f:ε->aE β}{P:β->Prop}(an:xs.length<2^62)
 (Jt:∀k:Nat,k<xs.length->p (ax xs k)=false->body k=some (.inl (bm ((k:Int)+1))))
 (alv:∀k:Nat,k<xs.length->xs.find? p=some (ax xs k)->p (ax xs k)=true->∃e,body k=some (.inr e)∧a8 (f e) P)
 (oL:xs.find? p=none->∃e,body (xs.length:Int)=some (.inr e)∧a8 (f e) P):a8 ((dh c9 body 0).bind f) P:=by
 refine a8.loop xs.length (λk s=>s=(k:Int)∧∀j,j<k->p (ax xs j)=false) (by omega) ⟨rfl,λj aC=>by omega⟩ (λk s hk aq=>?_) (λs aq=>?_)
 ·obtain⟨rfl,aS⟩:=aq
  by_cases hp:p (ax xs k)=true
  ·obtain⟨e,h1,ad⟩:=alv k hk (QJ hk hp aS) hp
   rw[h1];exact .ret ad
  simp only[jk]at hp
  rw[Jt k hk hp]
  refine .ret ⟨dB (by omega),λj aC=>?_⟩
  by_cases uR:j=k
  ·subst uR;exact hp
  exact aS j (by omega)
 obtain⟨rfl,aS⟩:=aq
 refine oL (QK λx au=>?_)
 obtain⟨j,aC,rfl⟩:=xK.1 au
 rw[<-dz xs aC];exact aS j aC
def cQ{α:Type}(m:aj α)(P:α->Prop):Prop:=∀Q:α->Prop,(∀r,P r->Q r)->m Q
def cQ.run{α:Type}{m:aj α}{P:α->Prop}(h:cQ m P):m P:=h P λ_ h=>h
def cQ.ret{α:Type}{P:α->Prop}{x:α}(h:P x):cQ (aj.ret x) P:=λQ k=>k x h
def cQ.bind{α β:Type}{m:aj α}{f:α->aj β}{P:α->Prop}{u9:β->Prop}(h:cQ m P)(k:∀r,P r->cQ (f r) u9):cQ (aj.bind m f) u9:=λQ hq=>h _ λr aG=>k r aG Q hq
def cQ.of{α:Type}{o:aE α}{P:α->Prop}(h:a8 o P):cQ (aj.of o) P:=λQ hq=>let⟨r,h1,ad⟩:=h; ⟨r,h1,hq r ad⟩
def cQ.gX{α β:Type}{o:aE α}{f:α->aj β}{P:α->Prop}{u9:β->Prop}(h:a8 o P)(k:∀r,P r->cQ (f r) u9):cQ (aj.bind (aj.of o) f) u9:=.bind (.of h) k
def cQ.eq{α β:Type}{o:aE α}{a:α}{f:α->aj β}{u9:β->Prop}(h:o=some a)(k:cQ (f a) u9):cQ (aj.bind (aj.of o) f) u9:=λQ hq=>⟨a,h,k Q hq⟩
def cQ.mono{α:Type}{m:aj α}{P u9:α->Prop}(h:cQ m P)(k:∀r,P r->u9 r):cQ m u9:=λQ hq=>h Q λr aG=>hq r (k r aG)
def cQ.cond{α:Type}{b:Bool}{m n:aj α}{P:α->Prop}(h1:b=true->cQ m P)(ad:b=false->cQ n P):cQ (cond b m n) P:=by
 cases b
 ·exact ad I
 exact h1 I
def cQ.b1{α β:Type}[Inhabited α]{b w:Bool}{m:aE α}{f:α->aj β}{P:α->Prop}{Q:β->Prop}(h:b=w->a8 m P)(k:∀a,(b=w->P a)->cQ (f a) Q):cQ (aj.bind (aj.of (b1 b w m)) f) Q:=by
 unfold Gv.b1;by_cases hb:b=w
 ·rw[bh hb];exact .gX (h hb) λa aY=>k a λ_=>aY
 rw[bf hb];exact .eq I (k default λh=>absurd h hb)
def cQ.idx{β:Type}{n:Nat}{i:Int}{k:Nat}{f:Nat->aj β}{Q:β->Prop}(aq:i=k)(hk:k<n)(h:cQ (f k) Q):cQ (aj.bind (aj.of (Gv.idx n i)) f) Q:=by
 subst aq;exact .eq (kS hk) h
def cQ.mk{bM β:Type}{hp:aL bM}{c:bM}{f:Nat×aL bM->aj β}{P:β->Prop}(k:∀p,p∉eb hp->cQ (f (p,(p,c)::hp)) P):cQ (aj.bind (aj.mk hp c) f) P:=λQ hq=>λa aY=>by
 obtain⟨p,hp'⟩:=a;obtain⟨h1,ad⟩:=aY;simp only at h1 ad;subst ad;exact k p h1 Q hq
def cQ.any{α β:Type}{f:α->aj β}{P:β->Prop}(k:∀x,cQ (f x) P):cQ (aj.bind (aj.any α) f) P:=λQ hq x=>k x Q hq
def cQ.loop{σ ε:Type}{body:σ->aj (σ⊕ε)}{P:ε->Prop}{cb:σ}(m:Nat)(gi:Nat->σ->Prop)(hm:m<2^80)(bC:gi 0 cb)
 (hs:∀k s,k<m->gi k s->cQ (body s) (λx=>match x with | .inl cv=>gi (k+1) cv| .inr e=>P e))
 (he:∀s,gi m s->cQ (body s) (λx=>match x with | .inl _=>False| .inr e=>P e)):cQ (oD c9 body cb) P:=by
 have key:∀n k s,k<=m->m-k<n->gi k s->cQ (oD n body s) P:=by
  intro n;induction n with
  |zero=>intro k s _ h;omega
  | succ n cg=>
    intro k s hk aM aq Q hq
    by_cases BK:k=m
    ·subst BK
     exact he s aq _ λr aG=>by
      cases r with
      |inl cv=>exact aG.elim
      |inr e=>exact hq e aG
    exact hs k s (by omega) aq _ λr aG=>by
     cases r with
     |inl cv=>exact cg (k+1) cv (by omega) (by omega) aG Q hq
     |inr e=>exact hq e aG
 exact key c9 0 cb (by omega) (by unfold c9;omega) bC
def lq{bM:Type}{hp:aL bM}{p q:Nat}{k:bM}:pat ((p,k)::hp) q=if p=q then some k else pat hp q:=rfl
def ai3{bM:Type}{hp:aL bM}{p:Nat}(h:p∉eb hp):pat hp p=none:=by
 cases e:pat hp p with
 |none=>rfl
 |some k=>exact absurd (ki e) h
def tc{bM:Type}{hp:aL bM}{p:Nat}{k k':bM}(h:pat hp p=some k'):pat (cL hp p k) p=some k:=by rw[HY,bh I,h];rfl
def nm{bM:Type}{hp:aL bM}{p q:Nat}{k:bM}(h:p≠q):pat (cL hp p k) q=pat hp q:=by rw[HY,bf h]
def wx{α β:Type}[DecidableEq α]{l:aa (α×β)}{x y:α}{v:β}:dG (gS l x v) y=if y=x then some v else dG l y:=by
 induction l with
 | nil=>
   show(if y=x then some v else dG [] y)=_
   rfl
 | cons a r cg=>
   obtain⟨k,w⟩:=a
   simp only[gS]
   by_cases h:x=k
   ·rw[bh h]
    simp only[dG]
    by_cases ad:y=x
    ·simp[ad]
    simp[ad,show ¬y=k from λe=>ad (by rw[e,h])]
   rw[bf h]
   simp only[dG]
   by_cases ad:y=k
   ·subst ad;simp[show ¬y=x from λe=>h e.symm]
   rw[bf ad,cg,bf ad]
end Gv
namespace Go.Proofs.YtppgfphgdogpeaaGreat
open Go Gv
def gb(b:Bool):Nat:=bif b then 1 else 0
def c3(hp:aL Cell):Ref->aa Bool->Ref
 |none,_=>none
 |some p,[]=>some p
 | some p,b::bd=>match cS hp p with
   |none=>none
   |some c=>c3 hp (bE c.dF (gb b)) bd
def hY{hp:aL Cell}{bd:aa Bool}:c3 hp none bd=none:=by cases bd <;> rfl
def o9{hp:aL Cell}{r:Ref}:c3 hp r []=r:=by cases r <;> rfl
def iZ{hp:aL Cell}{p:Nat}{c:e9}{b:Bool}{bd:aa Bool}(h:cS hp p=some c):c3 hp (some p) (b::bd)=c3 hp (bE c.dF (gb b)) bd:=by
 show(match cS hp p with |none=>none|some c=>c3 hp (bE c.dF (gb b)) bd)=_;rw[h]
def oy{hp:aL Cell}:∀{r:Ref} {bd cs:aa Bool},c3 hp r (bd++cs)=c3 hp (c3 hp r bd) cs
 |none,bd,cs=>by rw[hY,hY,hY]
 |some p,[],cs=>by rw[List.nil_append,o9]
 | some p,b::bd,cs=>by
   cases e:cS hp p with
   | none=>
     have h1:∀xs,c3 hp (some p) (b::xs)=none:=λxs=>by
      show(match cS hp p with |none=>none|some c=>c3 hp (bE c.dF (gb b)) xs)=_;rw[e]
     rw[List.cons_append,h1,h1,hY]
   |some c=>rw[List.cons_append,iZ e,iZ e,oy]
def Xb{hp hp':aL Cell}:∀{r:Ref} {bd:aa Bool},(∀p cs,c3 hp r cs=some p->cS hp' p=cS hp p)->c3 hp' r bd=c3 hp r bd
 |none,bd,_=>by rw[hY,hY]
 |some p,[],_=>rfl
 | some p,b::bd,h=>by
   have bC:=h p [] I;show(match cS hp' p with |none=>none|some c=>c3 hp' (bE c.dF (gb b)) bd)=(match cS hp p with |none=>none|some c=>c3 hp (bE c.dF (gb b)) bd);rw[bC];cases e:cS hp p with
   |none=>rfl
   | some c=>
     refine Xb λq cs hq=>h q (b::cs) ?_
     rw[iZ e];exact hq
structure rq(hp:aL Cell)(root:Ref):Prop where
 reads:∀bd p,c3 hp root bd=some p->∃c,cS hp p=some c
 inj:∀bd cs p,c3 hp root bd=some p->c3 hp root cs=some p->bd=cs
 dep:∀bd p,c3 hp root bd=some p->bd.length<=32
def cont(hp:aL Cell)(root:Ref)(bd:aa Bool):aE Int:=match c3 hp root bd with
 |none=>none
 | some p=>match cS hp p with
   |none=>none
   |some c=>bif c.gP then some c.j5 else none
def lY{hp:aL Cell}{root:Ref}{bd:aa Bool}{p:Nat}{c:e9}(h:c3 hp root bd=some p)(ag:cS hp p=some c):cont hp root bd=bif c.gP then some c.j5 else none:=by
 unfold cont;rw[h];simp only[ag]
def mj{hp:aL Cell}{root:Ref}{bd:aa Bool}(h:c3 hp root bd=none):cont hp root bd=none:=by
 unfold cont;rw[h]
def s3{hp:aL Cell}{p:Nat}{c:e9}:cS hp p=some c↔pat hp p=some (.h2 c):=by
 refine⟨sb,λh=>?_⟩;unfold cS;rw[h]
def wy{hp:aL Cell}{p:Nat}{c:hW}:gD hp p=some c↔pat hp p=some (.lM c):=by
 refine⟨wM,λh=>?_⟩;unfold gD;rw[h]
def Al{hp hp':aL Cell}{p:Nat}(h:pat hp' p=pat hp p):cS hp' p=cS hp p:=by unfold cS;rw[h]
def Lq{hp hp':aL Cell}{p:Nat}(h:pat hp' p=pat hp p):gD hp' p=gD hp p:=by unfold gD;rw[h]
structure fp(hp hp':aL Cell)(own:Nat->Prop):Prop where
 keys:∀q,q∈eb hp->q∈eb hp'
 rest:∀q,q∈eb hp->¬own q->pat hp' q=pat hp q
def fp.refl{hp:aL Cell}{own:Nat->Prop}:fp hp hp own:=⟨λ_ h=>h,λ_ _ _=>rfl⟩
def fp.mk'{hp:aL Cell}{own:Nat->Prop}{a:Nat}{k:Cell}(aY:a∉eb hp):fp hp ((a,k)::hp) own:=
 ⟨λq h=>gx _ h,λq h _=>by rw[lq,bf (λe:a=q=>aY (by rw[e];exact h))]⟩
def fp.up{hp:aL Cell}{own:Nat->Prop}{p:Nat}{k:Cell}(hp':own p):fp hp (cL hp p k) own:=
 ⟨λq h=>by rw[sa];exact h,λq h hq=>nm (λe:p=q=>hq (by rw[<-e];exact hp'))⟩
def fp.trans{h1 ad aB:aL Cell}{own own':Nat->Prop}(a:fp h1 ad own)(b:fp ad aB own')(a6:∀q,q∈eb h1->own' q->own q):fp h1 aB own:=
 ⟨λq h=>b.keys q (a.keys q h),λq h hq=>by rw[b.rest q (a.keys q h) λcU=>hq (a6 q h cU),a.rest q h hq]⟩
def ahY(b:Bool):bE (default:e9).dF (gb b)=none:=by cases b <;> rfl
def Xc{hp:aL Cell}{a:Nat}(h:cS hp a=some (default:e9)):∀bd,c3 hp (some a) bd=if bd=[]then some a else none
 |[]=>rfl
 |b::bd=>by rw[iZ h,ahY,hY];rfl
def Qh{hp hp':aL Cell}{root:Ref}{ws:aa Bool}{b:Bool}{p a:Nat}{c:e9}(bD:rq hp root)(hw:c3 hp root ws=some p)(ag:cS hp p=some c)(aM:bE c.dF (gb b)=none)(aY:cS hp a=none)
 (bQ:cS hp' p=some {c with dF:=dJ c.dF (gb b) (some a)}) (cZ:cS hp' a=some default) (iQ:∀q,q≠p->q≠a->cS hp' q=cS hp q):
 ∀(bd us:aa Bool) (q:Nat),c3 hp root us=some q->c3 hp' (some q) bd=if us++bd=ws++[b]then some a else c3 hp (some q) bd
 | [],us,q,hu=>by
   have: ¬us++[]=ws++[b]:=λe=>by
    rw[ot]at e;rw[e,oy,hw,iZ ag,aM,hY]at hu;cases hu
   rw[bf this];rfl
 | x::xs,us,q,hu=>by
   obtain⟨xF,pC⟩:=bD.reads us q hu;have pD:q≠a:=λe=>by rw[e,aY]at pC;cases pC
   by_cases JL:q=p
   ·subst JL;have TQ:=bD.inj us ws q hu hw;subst TQ;rw[ag]at pC;cases pC;rw[iZ bQ,iZ ag];simp only;have b9:gb b<2:=by cases b <;> decide
    rw[jF _ _ b9];by_cases BQ:x=b
    ·subst BQ;rw[bh I,aM,hY,Xc cZ];by_cases h:xs=[]
     ·subst h;rw[bh I,bh I]
     rw[bf h,bf λe=>h ?_];have:=Kp e;simpa using this
    have di: ¬gb x=gb b:=λe=>BQ (by cases x <;> cases b <;> first|rfl|cases e);have fJ: ¬us++x::xs=us++[b]:=λe=>BQ (by have:=Kp e;simpa using (List.cons.inj this).1);rw[bf di,bf fJ];cases e:bE c.dF (gb x)with
    |none=>rw[hY,hY]
    | some oY=>
      have px:c3 hp root (us++[x])=some oY:=by rw[oy,hu,iZ ag,e,o9]
      rw[Qh bD hw ag aM aY bQ cZ iQ xs (us++[x]) oY px,iJ,List.singleton_append,bf fJ]
   have h1:cS hp' q=some xF:=by rw[iQ q JL pD];exact pC
   rw[iZ h1,iZ pC];cases e:bE xF.dF (gb x)with
   | none=>
     have fJ: ¬us++x::xs=ws++[b]:=λaS=>by
      have asF:c3 hp root (us++[x])=none:=by rw[oy,hu,iZ pC,e,hY]
      rcases List.eq_nil_or_concat xs with rfl|⟨ys,y,rfl⟩
      ·have:=(Ow aS I);subst this;rw[hu]at hw;cases hw;exact JL I
      have aB:us++x::ys=ws:=by
       have:(us++x::ys)++[y]=ws++[b]:=by simpa using aS
       exact Ow this I
      rw[<-aB,show us++x::ys=(us++[x])++ys by simp,oy,asF,hY]at hw;cases hw
     rw[hY,hY,bf fJ]
   | some oY=>
     have px:c3 hp root (us++[x])=some oY:=by rw[oy,hu,iZ pC,e,o9]
     rw[Qh bD hw ag aM aY bQ cZ iQ xs (us++[x]) oY px,iJ,List.singleton_append]
def grow{hp hp':aL Cell}{r:Nat}{ws:aa Bool}(hd:ws.length<32){b:Bool}{p a:Nat}{c:e9}(bD:rq hp (some r))(hw:c3 hp (some r) ws=some p)(ag:cS hp p=some c)(aM:bE c.dF (gb b)=none)(aY:cS hp a=none)
 (bQ:cS hp' p=some {c with dF:=dJ c.dF (gb b) (some a)}) (cZ:cS hp' a=some default) (iQ:∀q,q≠p->q≠a->cS hp' q=cS hp q):
 rq hp' (some r)∧(∀bd,c3 hp' (some r) bd=if bd=ws++[b]then some a else c3 hp (some r) bd)∧∀bd,cont hp' (some r) bd=cont hp (some r) bd:=by
 have aW:∀bd,c3 hp' (some r) bd=if bd=ws++[b]then some a else c3 hp (some r) bd:=λbd=>Qh bD hw ag aM aY bQ cZ iQ bd [] r I
 have NN:∀bd,c3 hp (some r) bd≠some a:=λbd h=>by
  obtain⟨c,h1⟩:=bD.reads bd a h;rw[aY]at h1;cases h1
 have TR:c3 hp (some r) (ws++[b])=none:=by rw[oy,hw,iZ ag,aM,hY]
 refine⟨⟨λbd q h=>?_,λbd cs q h1 ad=>?_,λbd q h=>?_⟩,aW,λbd=>?_⟩
 ·rw[aW]at h
  split at h
  ·cases h;exact⟨_,cZ⟩
  obtain⟨gG,h1⟩:=bD.reads bd q h
  by_cases e:q=p
  ·subst e;exact⟨_,bQ⟩
  exact⟨gG,by rw[iQ q e λaS=>NN bd (aS▸h)];exact h1⟩
 ·rw[aW]at h1 ad
  split at h1 <;> split at ad
  ·rename_i av aS;rw[av,aS]
  ·cases h1;exact absurd ad (NN cs)
  ·cases ad;exact absurd h1 (NN bd)
  exact bD.inj bd cs q h1 ad
 ·rw[aW]at h
  split at h
  ·rename_i e;rw[e];simp;omega
  exact bD.dep bd q h
 by_cases e:bd=ws++[b]
 ·subst e
  rw[mj TR,lY (by rw[aW,bh I]) cZ];rfl
 have xp:c3 hp' (some r) bd=c3 hp (some r) bd:=by rw[aW,bf e]
 cases h:c3 hp (some r) bd with
 |none=>rw[mj h,mj (xp.trans h)]
 | some q=>
   obtain⟨gG,h1⟩:=bD.reads bd q h
   by_cases eq:q=p
   ·subst eq
    rw[ag]at h1;cases h1
    rw[lY h ag,lY (xp.trans h) bQ]
   rw[lY h h1,lY (xp.trans h) (by rw[iQ q eq λaS=>NN bd (aS▸h)];exact h1)]
def HS{hp hp':aL Cell}{p:Nat}{c gG:e9}(ag:cS hp p=some c)(nJ:cS hp' p=some gG)(he:gG.dF=c.dF)(h:∀q,q≠p->cS hp' q=cS hp q):∀(bd:aa Bool) (r:Ref),c3 hp' r bd=c3 hp r bd
 |bd,none=>by rw[hY,hY]
 |[],some q=>rfl
 | b::bd,some q=>by
   by_cases e:q=p
   ·subst e;rw[iZ ag,iZ nJ,he];exact HS ag nJ he h bd _
   cases aS:cS hp q with
   | none=>
     show(match cS hp' q with |none=>none|some c=>c3 hp' (bE c.dF (gb b)) bd)=(match cS hp q with |none=>none|some c=>c3 hp (bE c.dF (gb b)) bd)
     rw[h q e,aS]
   |some d=>rw[iZ aS,iZ (by rw[h q e];exact aS)];exact HS ag nJ he h bd _
def ace{hp hp':aL Cell}{root:Ref}{ws:aa Bool}{p:Nat}{c gG:e9}(bD:rq hp root)(hw:c3 hp root ws=some p)(ag:cS hp p=some c)(nJ:cS hp' p=some gG)(he:gG.dF=c.dF)(h:∀q,q≠p->cS hp' q=cS hp q):
 rq hp' root∧∀bd,cont hp' root bd=if bd=ws then(bif gG.gP then some gG.j5 else none)else cont hp root bd:=by
 have aW:=HS ag nJ he h
 refine⟨⟨λbd q hq=>?_,λbd cs q h1 ad=>bD.inj bd cs q (by rw[<-aW];exact h1) (by rw[<-aW];exact ad),λbd q hq=>bD.dep bd q (by rw[<-aW];exact hq)⟩,λbd=>?_⟩
 ·rw[aW]at hq
  obtain⟨d,h1⟩:=bD.reads bd q hq
  by_cases e:q=p
  ·subst e;exact⟨_,nJ⟩
  exact⟨d,by rw[h q e];exact h1⟩
 by_cases e:bd=ws
 ·subst e;rw[bh I,lY (by rw[aW];exact hw) nJ]
 rw[bf e]
 cases h1:c3 hp root bd with
 |none=>rw[mj h1,mj (by rw[aW];exact h1)]
 | some q=>
   obtain⟨d,ad⟩:=bD.reads bd q h1
   have JL:q≠p:=λaS=>e (bD.inj bd ws p (aS▸h1) hw)
   rw[lY h1 ad,lY (by rw[aW];exact h1) (by rw[h q JL];exact ad)]
def gz{α:Type}{b:Nat}(xs ys:aa α)(h:xs.length+ys.length<=1000000)(hb:b<=100000):eZ b xs ys=some (xs++ys):=by
 unfold eZ;rw[bh];unfold maxLen;refine⟨mg (Nat.mul_le_mul h hb) (by omega),by omega⟩
def hc(c:dM):Prop:=0<=c.w2∧c.cz.length<=1000
def QL(l:aa (BitVec 8))(n:Int)(bC:0<=n)(h1:n<=1000):a8 (Ag l n) hc:=by
 unfold Ag;refine .eq (a:=(l.drop 0).take ((min (l.length:Int) n).toNat-0)) ?_ (.ret ⟨xY 0,?_⟩)
 ·unfold mQ;rw[bh ⟨by omega,by omega,by omega⟩];rfl
 simp only[e8,ke];omega
def gO(c:dM)(n:Int)(ag:hc c)(aM:1<=n):a8 (fU c n) (λr=>hc r.2∧0<=r.1∧r.1<n∧r.1<256):=by
 unfold fU K7;obtain⟨l,a⟩:=c;obtain⟨bC,h1⟩:=ag;simp only at bC h1;obtain⟨k,rfl⟩:=pK bC;refine .eq I (.cond (λ_=>.ret ⟨⟨bC,h1⟩,by omega,by omega,by omega⟩) λh=>?_);simp only[OA,KB,e2,nP]at h;have av:bm ((k:Int)+1)=((k+1:Nat):Int):=dB (by omega);simp only[av];have aS:bm (((k+1:Nat):Int)-1)=(k:Int):=by rw[gQ (by omega) (by omega)];omega
 rw[aS];refine .idx I (by omega) (.eq (by unfold vF;rw[bf (by omega)]) (.ret ⟨⟨by simp only;omega,h1⟩,?_,?_,?_⟩))
 ·exact O3 _ (by omega)
 ·exact FB _ (by omega)
 simp only;have aB:(ax l k).toNat<256:=(ax l k).isLt;obtain⟨m,rfl⟩:=pK (show 0<=n by omega);have aV:(((ax l k).toNat:Int)).tmod m=(((ax l k).toNat % m:Nat):Int):=(Int.ofNat_tmod _ _).symm;have ba:=Nat.mod_le (ax l k).toNat m;omega
def qu(c:dM)(ag:hc c):a8 (nT c) (λr=>hc r.2):=by
 unfold nT;exact .bind (gO c 2 ag (by omega)) λy h=>.ret h.1
def ahd(c:dM)(ag:hc c):a8 (Gc c) (λr=>hc r.2∧r.1.length=3):=by
 unfold Gc;refine .bind (gO c 4 ag (by omega)) λao h1=>?_;refine .eq (wJ h1.2.1 (by simpa using h1.2.2.1)) (.eq I (.eq I (.bind (qu _ h1.1) λaF ad=>?_)));refine .bind (P:=λm=>hc m.1) (.cond (λ_=>?_) (λ_=>.ret ad)) λm1 bS=>?_
 ·refine .bind (gO _ 2 ad (by omega)) λcj bq=>.eq I (.bind (gO _ 4 bq.1 (by omega)) λcm c0=>?_);exact .eq (wJ c0.2.1 (by simpa using c0.2.2.1)) (.eq I (.eq (gz _ _ (by simp) (by omega)) (.ret c0.1)))
 refine .bind (gO _ 4 bS (by omega)) λbg aB=>.eq (wJ aB.2.1 (by simpa using aB.2.2.1)) (.eq I (.eq I ?_));refine .bind (gO _ 3 aB.1 (by omega)) λbw aV=>?_;refine .bind (P:=λm=>hc m.1) (.cond (λ_=>?_) (λ_=>.ret aV.1)) λm2 c6=>.ret ⟨c6,rfl⟩;exact .bind (gO _ 3 aV.1 (by omega)) λcd ba=>.eq I (.ret ba.1)
def ur(a:fV):Int×aa Int:=(a.b6,a.mN.map (·.jH))
def Es:aa (Int×aa Int):=[(1,[]),(2,[]),(3,[16]),(4,[4]),(5,[4,12]),(6,[])]
def ai4{α β:Type}[Inhabited α](f:α->β)(l:aa α)(k:Nat)(x:α)(h:f x=f (ax l k)):(iw l k x).map f=l.map f:=by
 unfold iw;apply FV
 ·simp
 intro i h1 ad;simp only[k1,xP]at h1;simp only[pO,List.getElem_set];split
 ·rename_i e;subst e;rw[h,dz l h1]
 rfl
def LH{α β:Type}[Inhabited α](f:α->β){l:aa α}{k:Nat}{x:α}{r:aa β}(h:f x=f (ax l k))(an:l.map f=r):(iw l k x).map f=r:=(ai4 f l k x h).trans an
def agJ(c:dM)(ag:hc c):a8 (FY c) (λr=>hc r.2∧r.1.map ur=Es):=by
 unfold FY;refine .eq I (.eq I (.eq I (.eq I (.eq I (.eq I (.eq I (.eq I (.eq I (.eq I (.eq I (.eq I (.eq I ?_))))))))))));refine .bind (gO _ 2 ag (by omega)) λao h1=>.eq I (.bind (gO _ 256 h1.1 (by omega)) λaF ad=>.eq I (.eq I (.eq I ?_)));refine .bind (qu _ ad.1) λbg aB=>?_;refine .bind (P:=λm=>m.map ur=Es) (.cond (λ_=>?_) (λ_=>.ret I)) λm1 bS=>?_
 ·exact .idx (k:=2) I (by simp) (.eq I (.ret (LH ur I I)))
 refine .bind (qu _ aB) λbw aV=>.bind (P:=λm=>m.map ur=Es) (.cond (λ_=>?_) (λ_=>.ret bS)) λm2 c6=>.ret ⟨aV,c6⟩;have an:m1.length=6:=by rw[<-k1 (f:=ur),bS];rfl
 exact .idx (k:=4) I (by omega) (.eq I (.ret (LH ur I bS)))
def sK:dD:= {du:=ByteArray.mk #[97],jo:=4,dQ:=1}
def Cb:dD:= {du:=ByteArray.mk #[100],jo:=7,dQ:=2}
def N9:dD:= {du:=ByteArray.mk #[109],jo:=3,dQ:=1}
def Kc:dD:= {du:=ByteArray.mk #[101],jo:=6,dQ:=3}
def JM:dD:= {du:=ByteArray.mk #[97],jo:=4,dQ:=3}
def UC:dD:= {du:=ByteArray.mk #[98],jo:=5,dQ:=1}
def Kd:dD:= {du:=ByteArray.mk #[102],jo:=8,dQ:=4}
def UD:dD:= {du:=ByteArray.mk #[103],jo:=9,dQ:=1}
def rA(t:cy):Int×aa Int×aa dD:=(t.b6,t.dW,t.cn)
def pZ(b:Bool):aa dD:=if b then [Cb,N9]else [Cb]
def A5(b:Bool):aa dD:=if b then [Kc,JM,UC]else [Kc,JM]
def A6(b:Bool):aa dD:=if b then [Kd,UD,Cb]else [Kd]
def w7(dL eF jA:Bool):aa (Int×aa Int×aa dD):=
 [(1,[1,2,4],[sK]),(2,[1,2,3,4],pZ dL),(3,[1,2,3,5,6],A5 eF),(4,[1,3,5],A6 jA)]
def ahe(c:dM)(ag:hc c):a8 (Gd c) (λr=>hc r.2∧(∀x∈r.1.map (·.ie),2<=x∧x<=12)∧∃dL eF jA,r.1.map rA=w7 dL eF jA):=by
 unfold Gd;refine .eq I (.bind (gO _ 2 ag (by omega)) λao h1=>.bind (gO _ 5 h1.1 (by omega)) λaF ad=>.eq I (.eq I ?_));refine .bind (gO _ 6 ad.1 (by omega)) λbg aB=>.bind (qu _ aB.1) λbw aV=>?_;refine .bind (P:=λm=>(m.1.b6=2∧m.1.dW=[1,2,3,4]∧m.1.ie=bm (3+bg.1))∧∃b,m.2=pZ b) (.cond (λ_=>?_) (λ_=>.ret ⟨⟨rfl,rfl,rfl⟩,false,rfl⟩)) λm1 bS=>?_
 ·exact .eq I (.eq (gz _ _ (by simp) (by omega)) (.ret ⟨⟨rfl,rfl,rfl⟩,true,rfl⟩))
 refine .eq I (.eq I (.bind (gO _ 6 aV (by omega)) λcd ba=>.bind (qu _ ba.1) λcj bq=>?_));refine .bind (P:=λm=>(m.1.b6=3∧m.1.dW=[1,2,3,5,6]∧m.1.ie=bm (4+cd.1))∧∃b,m.2=A5 b) (.cond (λ_=>?_) (λ_=>.ret ⟨⟨rfl,rfl,rfl⟩,false,rfl⟩)) λm2 c6=>?_
 ·exact .eq I (.eq (gz _ _ (by simp) (by omega)) (.ret ⟨⟨rfl,rfl,rfl⟩,true,rfl⟩))
 refine .eq I (.bind (gO _ 5 bq (by omega)) λcm c0=>.bind (qu _ c0.1) λcA db=>?_);refine .bind (P:=λm=>(m.1.b6=4∧m.1.dW=[1,3,5]∧m.1.ie=bm (3+cm.1))∧∃b,m.2=A6 b) (.cond (λ_=>?_) (λ_=>.ret ⟨⟨rfl,rfl,rfl⟩,false,rfl⟩)) λm3 fZ=>?_
 ·exact .eq I (.eq I (.eq (gz _ _ (by simp) (by omega)) (.ret ⟨⟨rfl,rfl,rfl⟩,true,rfl⟩)))
 refine .eq I (.eq I (.eq I (.eq I (.eq I ?_))));obtain⟨⟨bX,a2,a4⟩,dL,a3⟩:=bS;obtain⟨⟨c1,c2,iH⟩,eF,eE⟩:=c6;obtain⟨⟨d1,d2,d4⟩,jA,d3⟩:=fZ;refine a8.loop 4 (λk s=>s.1=(k:Int)∧s.2.1.map rA=w7 dL eF jA∧hc s.2.2∧s.2.1.map (·.ie)=[bm (2+aF.1),bm (3+bg.1),bm (4+cd.1),bm (3+cm.1)]) (by omega) ⟨rfl,?_,db,?_⟩ (λk s hk aq=>?_) (λs aq=>?_)
 ·simp only[nS,K8,rA,bX,a2,a3,c1,c2,eE,d1,d2,d3,w7];rfl
 ·simp only[nS,K8,a4,iH,d4]
 ·obtain⟨i,dC,Cc⟩:=s;obtain⟨av,aS,cM,eW⟩:=aq;simp only at av aS cM eW;subst av;refine a8.cond (λ_=>?_) (λh=>by simp at h;omega);have an:dC.length=4:=by rw[<-k1 (f:=rA),aS];rfl
  refine .idx I (by simpa using hk) (.bind (gO _ 3 cM (by omega)) λdS dE=>.eq (wJ dE.2.1 ?_) (.idx I (by simp only;omega) (.eq I (.ret ⟨dB (by omega),?_,dE.1,?_⟩))))
  ·have n5:=dE.2.2.1;have:k=0∨k=1∨k=2∨k=3:=by omega
   rcases this with rfl|rfl|rfl|rfl <;> exact n5
  ·exact LH rA I aS
  exact LH cy.ie I eW
 obtain⟨i,dC,Cc⟩:=s;obtain⟨av,aS,cM,eW⟩:=aq;simp only at av aS cM eW;subst av;refine⟨_,rfl,?_⟩;refine .ret ⟨cM,λx au=>?_,dL,eF,jA,aS⟩;rw[eW]at au;have g2:=ad.2;have g3:=aB.2;have g5:=ba.2;have g7:=c0.2;simp only[dP,vd,vh]at au;rcases au with rfl|rfl|rfl|rfl <;> (rw[gQ (by omega) (by omega)];omega)
def YF(n:Nat)(h:n<=1000):Bw (α:=Bool) 1 (n:Int)=some (List.replicate n default):=by
 unfold Bw;rw[bh ⟨by omega,by omega,by omega⟩];simp
def ahZ(c:dM)(dC:aa cy)(ag:hc c)(an:dC.length<=1000)(hk:∀t∈dC,t.cn.length<=1000):a8 (zS c dC) (λr=>hc r.2∧r.1.map (·.b6)=[1,2,7]):=by
 unfold zS;refine .bind (gO _ 3 ag (by omega)) λao h1=>.bind (gO _ 6 h1.1 (by omega)) λaF ad=>.bind (gO _ 6 ad.1 (by omega)) λbg aB=>.bind (gO _ 4 aB.1 (by omega)) λbw aV=>?_;refine a8.loop dC.length (λk s=>s.1=(k:Int)∧hc s.2.2.2.1∧s.2.2.1.length<=k∧s.2.2.2.2.2.1.length<=k∧s.2.2.2.2.2.2.2.length<=k∧s.2.1.b6=7∧s.2.2.2.2.1.b6=2∧s.2.2.2.2.2.2.1.b6=1) (by omega) ⟨rfl,aV.1,by simp,by simp,by simp,rfl,rfl,rfl⟩ (λk s qb aq=>?_) (λs aq=>?_)
 ·obtain⟨i,ky,g1,Cc,hg,g2,rS,g3⟩:=s;obtain⟨av,aS,cM,eW,jY,i1,i2,i3⟩:=aq;simp only at av aS cM eW jY i1 i2 i3;subst av;refine a8.cond (λ_=>?_) (λh=>by simp at h;omega);have acf:(ax dC k).cn.length<=1000:=hk _ (by rw[dz dC qb];exact j0 qb);refine .idx I qb (.eq (YF _ acf) (.eq (YF _ acf) ?_));refine a8.loop (ax dC k).cn.length (λj s=>s.1=(j:Int)∧s.2.1.length=(ax dC k).cn.length∧s.2.2.1.length=(ax dC k).cn.length∧hc s.2.2.2) (by omega) ⟨rfl,by simp,by simp,aS⟩ (λj s aC aq=>?_) (λs aq=>?_)
  ·obtain⟨i,dL,eF,asG⟩:=s;obtain⟨f1,f2,f3,f4⟩:=aq;simp only at f1 f2 f3 f4;subst f1;refine a8.cond (λ_=>?_) (λh=>by simp at h;omega);exact .bind (gO _ 4 f4 (by omega)) λcm c0=>.idx I (by simp only;omega) (.idx I (by simp only;omega) (.ret ⟨dB (by omega),by simp[iw,f2],by simp[iw,f3],c0.1⟩))
  obtain⟨i,dL,eF,asG⟩:=s;obtain⟨f1,f2,f3,f4⟩:=aq;simp only at f1 f2 f3 f4;subst f1;refine⟨_,by simp;rfl,?_⟩;refine .eq I (.eq (gz _ _ (by simp;omega) (by omega)) (.bind (gO _ 4 f4 (by omega)) λdS dE=>?_));refine .bind (P:=λm=>hc m.1∧m.2.2.length<=k+1∧m.2.1.b6=2) (.cond (λ_=>?_) (λ_=>.ret ⟨dE.1,by simp only;omega,i2⟩)) λm1 bS=>?_
  ·exact .bind (gO _ 4 dE.1 (by omega)) λkV vV=>.bind (qu _ vV.1) λBq NO=>.eq I (.eq (gz _ _ (by simp;omega) (by omega)) (.ret ⟨NO,by simp;omega,i2⟩))
  refine .bind (qu _ bS.1) λgJ n5=>?_;refine .bind (P:=λm=>hc m.1∧m.2.2.length<=k+1∧m.2.1.b6=7) (.cond (λ_=>?_) (λ_=>.ret ⟨n5,by simp only;omega,i1⟩)) λm2 c6=>?_
  ·exact .bind (qu _ n5) λiy sE=>.bind (qu _ sE) λh6 BR=>.eq I (.eq (gz _ _ (by simp;omega) (by omega)) (.ret ⟨BR,by simp;omega,i1⟩))
  exact .ret ⟨dB (by omega),c6.1,c6.2.1,bS.2.1,by simp;omega,c6.2.2,bS.2.2,i3⟩
 obtain⟨i,ky,g1,Cc,hg,g2,rS,g3⟩:=s;obtain⟨av,aS,cM,eW,jY,i1,i2,i3⟩:=aq;simp only at av aS cM eW jY i1 i2 i3;subst av;refine⟨_,by simp;rfl,?_⟩;exact .eq I (.eq I (.ret ⟨aS,by simp only[nS,K8,i1,i2,i3]⟩))
def S5:aa (Int×Int):=[(1,16),(2,16),(3,8),(4,4),(5,4),(6,8),(7,32),(8,12),(9,4)]
def Iv(f:jl):Int×Int:=(f.b6,f.jH)
structure b7(s:aZ):Prop where
 fields:s.gZ.map Iv=S5
 headers:s.pT.length=3
 Zf:s.qs.length=3
 QM:s.dW.map ur=Es
 tables:∃dL eF jA,s.bK.map rA=w7 dL eF jA
 D8:s.eK.map (·.b6)=[1,2,7]
 an1:∀x∈s.bK.map (·.ie),2<=x∧x<=12
def b7.ps{s:aZ}(h:b7 s):s.eK.length=3:=by rw[<-k1 (f:=(·.b6)),h.D8];rfl
def b7.vI{s:aZ}(h:b7 s):s.gZ.length=9:=by rw[<-k1 (f:=Iv),h.fields];rfl
def b7.lN{s:aZ}(h:b7 s):s.bK.length=4:=by obtain⟨dL,eF,jA,h1⟩:=h.tables;rw[<-k1 (f:=rA),h1];rfl
def b7.S6{s:aZ}(h:b7 s):s.dW.length=6:=by rw[<-k1 (f:=ur),h.QM];rfl
def WI(c:dM)(ag:hc c):a8 (xQ c) (λr=>b7 r.1∧hc r.2):=by
 unfold xQ;refine .bind (gO _ 8 ag (by omega)) λao h1=>.bind (gO _ 30 h1.1 (by omega)) λaF ad=>?_;refine .eq I (.eq I (.eq I (.eq I (.eq I (.eq I (.eq I (.eq I (.eq I (.eq I (.eq I (.eq I ?_)))))))))));refine .bind (ahd _ ad.1) λbg aB=>.bind (agJ _ aB.1) λbw aV=>.bind (ahe _ aV.1) λcd ba=>.eq I (.eq I ?_);obtain⟨asH,ee,dL,eF,jA,ba⟩:=ba;have an:cd.1.length=4:=by rw[<-k1 (f:=rA),ba];rfl
 have an2:∀t∈cd.1,t.cn.length<=1000:=λt bD=>by
  have bq:rA t∈w7 dL eF jA:=ba▸List.mem_map_of_mem bD;have c0:∀p∈w7 dL eF jA,p.2.2.length<=1000:=by
   intro p hp;simp only[w7,dP,vd,vh]at hp;rcases hp with rfl|rfl|rfl|rfl
   ·simp
   ·cases dL <;> simp[pZ]
   ·cases eF <;> simp[A5]
   cases jA <;> simp[A6]
  exact c0 _ bq
 refine .bind (ahZ _ _ asH (by simp only;omega) an2) λcj bq=>.eq I (.bind (qu _ bq.1) λcm c0=>?_);let Inv (s:aZ):Prop:=s.gZ.map Iv=S5∧s.pT.length=3∧s.qs.length=3∧s.dW.map ur=Es∧s.bK=cd.1∧s.eK.map (·.b6)=[1,2,7];have hinv:∀(st:aa hV) (E3:aa fD) (s:aZ),Inv s->Inv {s with r5:=st,dj:=E3}:=λst E3 s h=>h;refine .bind (P:=λ_=>True) (.cond (λ_=>.eq (gz _ _ (by simp) (by omega)) (.ret lJ)) (λ_=>.ret lJ)) λm1 _=>?_;refine .bind (qu _ c0) λcA db=>?_;refine .bind (P:=λm=>Inv m.1∧m.2.length<=10) (.cond (λ_=>.eq I (.eq (gz _ _ (by simp) (by omega)) (.ret ⟨⟨rfl,rfl,aB.2,aV.2,rfl,bq.2⟩,by simp⟩))) (λ_=>.ret ⟨⟨rfl,rfl,aB.2,aV.2,rfl,bq.2⟩,by simp⟩)) λm2 c6=>?_;refine .bind (qu _ db) λdS dE=>?_;refine .b1 (P:=λ_=>True) (λ_=>⟨2,kS (k:=2) (by rw[c6.1.2.2.2.2.1];omega),trivial⟩) λaJ _=>?_;refine .bind (P:=λm=>Inv m.1∧m.2.length<=11) (.cond (λ_=>.eq I (.eq (gz _ _ (by have:=c6.2;simp;omega) (by omega)) (.ret ⟨c6.1,by have:=c6.2;simp;omega⟩))) (λ_=>.ret ⟨c6.1,by have:=c6.2;simp only;omega⟩)) λm3 fZ=>?_;refine .bind (qu _ dE) λgJ n5=>?_;refine .b1 (P:=λ_=>True) (λ_=>⟨3,kS (k:=3) (by rw[fZ.1.2.2.2.2.1];omega),trivial⟩) λbx _=>?_;refine .bind (P:=λm=>Inv m.1∧m.2.length<=13) (.cond (λ_=>.eq I (.eq I (.eq (gz _ _ (by have:=fZ.2;simp;omega) (by omega)) (.ret ⟨fZ.1,by have:=fZ.2;simp;omega⟩)))) (λ_=>.ret ⟨fZ.1,by have:=fZ.2;simp only;omega⟩)) λm4 I6=>?_;obtain⟨⟨i1,i2,i3,i4,i5,i6⟩,_⟩:=I6;exact .eq I (.ret ⟨⟨i1,i2,i3,i4,⟨dL,eF,jA,by simp only[i5];exact ba⟩,i6,by simp only[i5];exact ee⟩,n5⟩)
def b7.size{s:aZ}(h:b7 s){k:Nat}(hk:k<4):2<=(ax s.bK k).ie∧(ax s.bK k).ie<=12:=by
 have an:=h.lN;exact h.an1 _ (ic.2 ⟨_,by rw[dz _ (by omega)];exact j0 _,rfl⟩)
def akn(x:Int)(n:Int)(h1:1<=n)(ad:n<=1000000):a8 (Dr x n) (λr=>0<=r∧r<n):=by
 unfold Dr;refine .cond (λh=>by simp at h;omega) λ_=>?_;have hm:∀y:Int,vF y n=some (y.tmod n):=λy=>by unfold vF;rw[bf (by omega)]
 refine .eq (hm _) ?_;have aB:=FB x (show 0<n by omega);have aV: -n<x.tmod n:=by
  have:=FB (-x) (show 0<n by omega);rw[Int.neg_tmod]at this;omega
 rw[gQ (by omega) (by omega)];exact .eq (hm _) (.ret ⟨O3 _ (by omega),FB _ (by omega)⟩)
def cq(v:aN)(i:Nat):Bool:=if i<64 then v.cI.getLsbD i else v.dX.getLsbD (i-64)
def Ih{v w:aN}(h:∀j,j<128->cq v j=cq w j):v=w:=by
 cases v with |mk atN atO=>cases w with |mk atP wl=>
 have h1:atN=atP:=by
  apply zy;intro i aq;have:=h (i+64) (by omega);simpa[cq,show ¬(i+64<64) by omega]using this
 have ad:atO=wl:=by
  apply zy;intro i aq;have:=h i (by omega);simpa[cq,aq]using this
 rw[h1,ad]
def DG(j:Nat):cq default j=false:=by
 unfold cq;split <;> exact Cp
def w8(x y:aN):aN:= {dX:=x.dX&&&y.dX,cI:=x.cI&&&y.cI}
def ac8(x y:aN):aN:= {dX:=x.dX|||y.dX,cI:=x.cI|||y.cI}
def S7(x y:aN):aN:= {dX:=x.dX ^^^ y.dX,cI:=x.cI ^^^ y.cI}
@[simp] theorem DH (x y:aN) (j:Nat):cq (w8 x y) j=(cq x j&&cq y j):=by unfold cq w8;split <;> simp
@[simp] theorem at2 (x y:aN) (j:Nat):cq (ac8 x y) j=(cq x j||cq y j):=by unfold cq ac8;split <;> simp
@[simp] theorem ako (x y:aN) (j:Nat):cq (S7 x y) j=(cq x j ^^ cq y j):=by unfold cq S7;split <;> simp
def and_eq(x y:aN):x6 x y=some (w8 x y):=rfl
def xor_eq(x y:aN):Hv x y=some (S7 x y):=rfl
def DI(x:aN):a8 (vj x) (λr=> ∀j,j<128->bE r j=cq x j):=by
 unfold vj;refine a8.loop 64 (λk s=>s.1=k∧∀j,j<128->bE s.2 j=(decide (j % 64<k)&&cq x j)) (by omega)
  ⟨rfl,λj aC=>by simp[Lj]⟩ (λk s hk aq=>?_) (λs aq=>?_)
 ·obtain⟨i,v⟩:=s;obtain⟨h1,ad⟩:=aq;simp only at h1 ad;subst h1;have av:bm ((k:Int)+64)=((k+64:Nat):Int):=by rw[gQ (by omega) (by omega)];simp
  refine a8.cond (λ_=>?_) (λh=>by simp at h;omega);refine a8.idx I (show k<128 by omega) (.eq I (.idx av (show k+64<128 by omega) (.eq I (.ret ⟨dB (by omega),λj aC=>?_⟩))));simp only[jF _ _ (show k<128 by omega),jF _ _ (show k+64<128 by omega),s8 (show k<2^64 by omega),ai2,ad j aC];by_cases rJ:j=k+64
  ·subst rJ;have h1:(k+64) % 64<k+1:=by omega
   have ad: ¬(k+64<64):=by omega
   simp only[cq,h1,ad,lX,ou,GV,qp,Nat.add_sub_cancel]
  by_cases mx:j=k
  ·subst mx;have:j % 64<j+1:=by omega
   simp[cq,this,hk]
  rw[bf rJ,bf mx];congr 1;rw[q7];omega
 obtain⟨i,v⟩:=s;obtain⟨h1,ad⟩:=aq;simp only at h1 ad;subst h1;refine⟨_,rfl,.ret λj aC=>?_⟩;have:j % 64<64:=by omega
 simp[ad j aC,this]
def akp(x:Vector Bool 128):a8 (Hm x) (λr=> ∀j,j<128->cq r j=bE x j):=by
 unfold Hm;refine a8.loop 64 (λk s=>s.1=k∧∀j,j<128->cq s.2 j=(decide (j % 64<k)&&bE x j)) (by omega)
  ⟨rfl,λj aC=>by simp[DG]⟩ (λk s hk aq=>?_) (λs aq=>?_)
 ·obtain⟨i,v⟩:=s;obtain⟨h1,ad⟩:=aq;simp only at h1 ad;subst h1;have av:bm ((k:Int)+64)=((k+64:Nat):Int):=by rw[gQ (by omega) (by omega)];simp
  refine a8.cond (λ_=>?_) (λh=>by simp at h;omega);refine a8.idx I (show k<128 by omega) (.bind (P:=λw=> ∀j,j<128->cq w j=(cq v j||(bE x k&&decide (j=k)))) (.cond (λhb=>.ret λj aC=>?_) (λhb=>.ret λj aC=>by simp[hb])) λw hw=>?_)
  ·simp only[cq,s8 (show k<2^64 by omega),OQ,Xa,hb,qp];split
   ·rename_i h;simp[h]
   have:j≠k:=by omega
   simp[this]
  refine .idx av (show k+64<128 by omega) (.bind (P:=λu=> ∀j,j<128->cq u j=(cq w j||(bE x (k+64)&&decide (j=k+64)))) (.cond (λhb=>.ret λj aC=>?_) (λhb=>.ret λj aC=>by simp[hb])) λu hu=>.ret ⟨dB (by omega),λj aC=>?_⟩)
  ·simp only[cq,s8 (show k<2^64 by omega),OQ,Xa,hb,qp];split
   ·have:j≠k+64:=by omega
    simp[this]
   have:(j-64=k)↔j=k+64:=by omega
   have bq:j-64<64:=by omega
   simp[this,bq]
  simp only[hu j aC,hw j aC,ad j aC];by_cases rJ:j=k+64
  ·subst rJ;simp[zO hk]
  by_cases mx:j=k
  ·subst mx;have h1:j % 64<j+1:=by omega
   have ad: ¬(j % 64<j):=by omega
   simp[h1,ad]
  have h1:(j % 64<k+1)↔j % 64<k:=by omega
  simp[h1,rJ,mx]
 obtain⟨i,v⟩:=s;obtain⟨h1,ad⟩:=aq;simp only at h1 ad;subst h1;refine⟨_,rfl,.ret λj aC=>?_⟩;have:j % 64<64:=by omega
 simp[ad j aC,this]
def ah0(x y:aN):a8 (Hw x y) (λr=>r=w8 x y):=by
 unfold Hw;refine(DI x).bind λa aY=>(DI y).bind λb hb=>?_;refine a8.loop 128 (λk s=>s.1=k∧∀j,j<128->bE s.2 j=(cq x j&&(decide (k<=j)||cq y j))) (by omega)
  ⟨rfl,λj aC=>by simp[aY j aC]⟩ (λk s hk aq=>?_) (λs aq=>?_)
 ·obtain⟨i,v⟩:=s;obtain⟨h1,ad⟩:=aq;simp only at h1 ad;subst h1;refine a8.cond (λ_=>?_) (λh=>by simp at h;omega);refine .idx I hk (.b1 (P:=λq=>q=k) (λ_=>⟨k,kS hk,rfl⟩) λq hq=>.idx I hk (.ret ⟨dB (by omega),λj aC=>?_⟩));simp only[jF _ _ hk];by_cases rJ:j=k
  ·subst rJ;have aB:=ad j aC;have aV: ¬(j+1<=j):=by omega
   cases bc:bE v j
   ·simp[bc]at aB;simp[aB,aV]
   simp[bc]at aB;rw[hq bc,hb j aC];simp[aB,aV]
  have aV:(k+1<=j)↔k<=j:=by omega
  simp[rJ,ad j aC,aV]
 obtain⟨i,v⟩:=s;obtain⟨h1,ad⟩:=aq;simp only at h1 ad;subst h1;refine⟨_,rfl,(akp v).bind λr aG=>.ret (Ih λj aC=>?_)⟩;have: ¬(128<=j):=by omega
 simp[aG j aC,ad j aC,this]
def XI(v:aN)(n:Nat)(aM:n<2^62):a8 (Dk v n) (λr=> ∀j,j<128->cq r j=cq v (j+n)):=by
 unfold Dk;refine .cond (λh=>.ret λj aC=>?_) (λh=>.cond (λcU=>.eq I (.ret λj aC=>?_)) (λcU=>.eq I (.eq I (.ret λj aC=>?_))))
 ·have:n=0:=by simp at h;omega
  simp[this]
 ·simp only[e2]at cU;have av:bm ((n:Int)-64)=((n-64:Nat):Int):=by rw[gQ (by omega) (by omega)];omega
  rw[av,s8 (by omega)];unfold cq;by_cases aC:j<64
  ·rw[bh aC,bf (by omega)];simp only[Oj];congr 1;omega
  rw[bf aC,bf (by omega)];rw[show(default:aN).dX=0#64 from rfl,Cp,zD _ _ (by omega)]
 simp only[nP]at h cU;have av:bm (64-(n:Int))=((64-n:Nat):Int):=by rw[gQ (by omega) (by omega)];omega
 rw[av,s8 (by omega),s8 (by omega)];unfold cq;by_cases aC:j<64
 ·rw[bh aC];simp only[OQ,Oj,UQ];by_cases aB:j+n<64
  ·rw[bh aB];have:j<64-n:=by omega
   simp[this,Pr]
  rw[bf aB,zD _ (n+j) (by omega)];have: ¬(j<64-n):=by omega
  simp only[aC,this,GV,Pt,qp,KY,r3];congr 1;omega
 rw[bf aC,bf (by omega)];simp only[Oj];congr 1;omega
def alw(v:aN)(i:Int):a8 (Aj v i) (λr=>r=(decide (0<=i∧i<128)&&cq v i.toNat)):=by
 unfold Aj;refine .b1 (P:=λr=> ∀j,j<128->cq r j=cq v (j+i.toNat)) (λh=>?_) λy aR=>.eq I (.ret ?_)
 ·simp at h;obtain⟨n,rfl⟩:=pK h.1;exact XI v n (by omega)
 by_cases h:0<=i∧i<128
 ·have h1:(decide (i>=0)&&decide (i<128))=true:=by simp;omega
  rw[h1,YE];have:=aR h1 0 (by omega);rw[show cq y 0=y.cI.getLsbD 0 from rfl,kR]at this;rw[this,q9 h]
 have h1:(decide (i>=0)&&decide (i<128))=false:=by simp;omega
 simp[h1,h]
def akq(x y:aN):a8 (Hv x y) (λr=> ∀j,j<128->cq r j=(cq x j ^^ cq y j)):=⟨_,xor_eq x y,λj _=>ako x y j⟩
def QN(n:Int):a8 (Ae n) (λr=> ∀j,j<128->cq r j=decide ((j:Int)<n)):=by
 unfold Ae Dg;refine .eq I (.eq I ?_);have hm:bm (128-min (max 0 n) 128)=((128-min (max 0 n) 128).toNat:Int):=by rw[gQ (by omega) (by omega)];omega
 rw[hm];refine(XI _ _ (by omega)).bind λr aG=>.ret λj aC=>?_;rw[aG j aC];have n1:∀i,cq {dX:=18446744073709551615#64,cI:=18446744073709551615#64} i=decide (i<128):=by
  intro i;have a6:(18446744073709551615#64)=BitVec.allOnes 64:=by rfl
  unfold cq;simp only[a6,BitVec.getLsbD_allOnes];by_cases h:i<64
  ·simp[h];omega
  simp[h];omega
 rw[n1,q7];omega
def vJ:aa Int:=[16,16,8,4,4,8,32,12,4]
def b7.xq{s:aZ}(h:b7 s){k:Nat}(hk:k<9):(ax s.gZ k).b6=(k:Int)+1∧(ax s.gZ k).jH=ax vJ k:=by
 have h1:=Ay Iv (l:=s.gZ) (k:=k) (by rw[h.vI];exact hk);rw[h.fields]at h1;have ad:ax S5 k=((k:Int)+1,ax vJ k):=by
  have:k=0∨k=1∨k=2∨k=3∨k=4∨k=5∨k=6∨k=7∨k=8:=by omega
  rcases this with rfl|rfl|rfl|rfl|rfl|rfl|rfl|rfl|rfl <;> rfl
 rw[ad]at h1;simp only[Iv,K6]at h1;exact⟨h1.1.symm,h1.2.symm⟩
def w9:aa (aa Int):=[[],[],[16],[4],[4,12],[]]
def b7.act{s:aZ}(h:b7 s){k:Nat}(hk:k<6):(ax s.dW k).b6=(k:Int)+1∧(ax s.dW k).mN.map (·.jH)=ax w9 k:=by
 have h1:=Ay ur (l:=s.dW) (k:=k) (by rw[h.S6];exact hk);rw[h.QM]at h1;have ad:ax Es k=((k:Int)+1,ax w9 k):=by
  have:k=0∨k=1∨k=2∨k=3∨k=4∨k=5:=by omega
  rcases this with rfl|rfl|rfl|rfl|rfl|rfl <;> rfl
 rw[ad]at h1;simp only[ur,K6]at h1;exact⟨h1.1.symm,h1.2.symm⟩
def nv(key:dD):Prop:=∃j:Nat,j<9∧key.jo=(j:Int)+1∧1<=key.dQ∧key.dQ<=4∧4<=ax vJ j∧ax vJ j<=32∧(key.dQ=2->j=6)
def hG(key:dD):Int:=ax vJ (key.jo-1).toNat
def b7.fF{s:aZ}(h:b7 s){k:Nat}(hk:k<4):(ax s.bK k).b6=(k:Int)+1∧
 (1<=(ax s.bK k).cn.length∧(ax s.bK k).cn.length<=3)∧(∀key∈(ax s.bK k).cn,nv key)∧
 (1<=(ax s.bK k).dW.length∧(ax s.bK k).dW.length<=5)∧(∀a∈(ax s.bK k).dW,1<=a∧a<=6):=by
 obtain⟨dL,eF,jA,bD⟩:=h.tables
 have h1:=Ay rA (l:=s.bK) (k:=k) (by rw[h.lN];exact hk)
 rw[bD]at h1
 have ad:∀p:Int×aa Int×aa dD,p=rA (ax s.bK k)->p.1=(k:Int)+1->(1<=p.2.2.length∧p.2.2.length<=3)->(∀key∈p.2.2,nv key)->
  (1<=p.2.1.length∧p.2.1.length<=5)->(∀a∈p.2.1,1<=a∧a<=6)->(ax s.bK k).b6=(k:Int)+1∧
  (1<=(ax s.bK k).cn.length∧(ax s.bK k).cn.length<=3)∧(∀key∈(ax s.bK k).cn,nv key)∧
  (1<=(ax s.bK k).dW.length∧(ax s.bK k).dW.length<=5)∧(∀a∈(ax s.bK k).dW,1<=a∧a<=6):=by
  rintro p rfl a b c d e
  exact⟨a,b,c,d,e⟩
 have a0:(1<=([1,2,4]:aa Int).length∧([1,2,4]:aa Int).length<=5)∧∀a∈([1,2,4]:aa Int),1<=a∧a<=6:=by decide
 have bX:(1<=([1,2,3,4]:aa Int).length∧([1,2,3,4]:aa Int).length<=5)∧∀a∈([1,2,3,4]:aa Int),1<=a∧a<=6:=by decide
 have a2:(1<=([1,2,3,5,6]:aa Int).length∧([1,2,3,5,6]:aa Int).length<=5)∧∀a∈([1,2,3,5,6]:aa Int),1<=a∧a<=6:=by decide
 have a3:(1<=([1,3,5]:aa Int).length∧([1,3,5]:aa Int).length<=5)∧∀a∈([1,3,5]:aa Int),1<=a∧a<=6:=by decide
 have an3:nv sK:=⟨3,by decide,rfl,by decide,by decide,by decide,by decide,by decide⟩
 have Zg:nv JM:=⟨3,by decide,rfl,by decide,by decide,by decide,by decide,by decide⟩
 have an4:nv UC:=⟨4,by decide,rfl,by decide,by decide,by decide,by decide,by decide⟩
 have Sr:nv Cb:=⟨6,by decide,rfl,by decide,by decide,by decide,by decide,by decide⟩
 have an5:nv N9:=⟨2,by decide,rfl,by decide,by decide,by decide,by decide,by decide⟩
 have aaN:nv Kc:=⟨5,by decide,rfl,by decide,by decide,by decide,by decide,by decide⟩
 have aaO:nv Kd:=⟨7,by decide,rfl,by decide,by decide,by decide,by decide,by decide⟩
 have an6:nv UD:=⟨8,by decide,rfl,by decide,by decide,by decide,by decide,by decide⟩
 have:k=0∨k=1∨k=2∨k=3:=by omega
 rcases this with rfl|rfl|rfl|rfl
 ·refine ad _ h1 I (show 1<= [sK].length∧[sK].length<=3 by decide) ?_ a0.1 a0.2
  intro key k8
  rcases hT.1 k8 with rfl
  exact an3
 ·refine ad _ h1 I ?_ ?_ bX.1 bX.2
  ·show 1<=(pZ dL).length∧(pZ dL).length<=3
   cases dL <;> decide
  intro key k8
  replace k8:key∈pZ dL:=k8
  cases dL <;> simp only[pZ,dP,vd,vh,lX,ou,sR]at k8
  ·subst k8;exact Sr
  rcases k8 with rfl|rfl;exact Sr;exact an5
 ·refine ad _ h1 I ?_ ?_ a2.1 a2.2
  ·show 1<=(A5 eF).length∧(A5 eF).length<=3
   cases eF <;> decide
  intro key k8
  replace k8:key∈A5 eF:=k8
  cases eF <;> simp only[A5,dP,vd,vh,lX,ou,sR]at k8
  ·rcases k8 with rfl|rfl;exact aaN;exact Zg
  rcases k8 with rfl|rfl|rfl;exact aaN;exact Zg;exact an4
 refine ad _ h1 I ?_ ?_ a3.1 a3.2
 ·show 1<=(A6 jA).length∧(A6 jA).length<=3
  cases jA <;> decide
 intro key k8
 replace k8:key∈A6 jA:=k8
 cases jA <;> simp only[A6,dP,vd,vh,lX,ou,sR]at k8
 ·subst k8;exact aaO
 rcases k8 with rfl|rfl|rfl;exact aaO;exact an6;exact Sr
def ahf{s:aZ}(h:b7 s){j:Nat}(aC:j<9):a8 (G8 s ((j:Int)+1)) (λr=>r=ax vJ j):=by
 unfold G8;have an:=h.vI;refine a8.loop j (λk s=>s=(k:Int)) (by omega) I (λk i hk aq=>?_) (λi aq=>?_)
 ·subst aq;refine a8.cond (λ_=>?_) (λh=>by simp at h;omega);refine .idx I (by omega) (.cond (λag=>?_) (λag=>.ret (dB (by omega))));have:=(h.xq (show k<9 by omega)).1;simp only[this,ni]at ag;omega
 subst aq;have h1:decide ((j:Int)<(s.gZ.length:Int))=true:=by simp;omega
 have ad:((ax s.gZ j).b6==(j:Int)+1)=true:=by rw[(h.xq aC).1];simp
 rw[h1];simp only[cond_true];rw[kS (by omega)];simp only[Option.bind_some,ad,cond_true];exact⟨_,rfl,.ret (h.xq aC).2⟩
def Wr{s:aZ}(h:b7 s){j:Nat}(aC:j<6):a8 (C2 s ((j:Int)+1)) (λr=>r=ax s.dW j):=by
 unfold C2;have an:=h.S6;refine a8.loop j (λk s=>s=(k:Int)) (by omega) I (λk i hk aq=>?_) (λi aq=>?_)
 ·subst aq;refine a8.cond (λ_=>?_) (λh=>by simp at h;omega);refine .idx I (by omega) (.cond (λag=>?_) (λag=>.ret (dB (by omega))));have:=(h.act (show k<6 by omega)).1;simp only[this,ni]at ag;omega
 subst aq;have h1:decide ((j:Int)<(s.dW.length:Int))=true:=by simp;omega
 have ad:((ax s.dW j).b6==(j:Int)+1)=true:=by rw[(h.act aC).1];simp
 rw[h1];simp only[cond_true];rw[kS (by omega)];simp only[Option.bind_some,ad,cond_true];exact⟨_,rfl,.ret I⟩
def HT{n:Nat}(aM:n<64)(j:Nat):(((1#64) <<< n)-1#64).getLsbD j=decide (j<n):=by
 have h1:(((1#64) <<< n)-1#64).toNat=2^n-1:=by
  have ad:((1#64) <<< n).toNat=2^n:=by
   rw[UW,KA,Nat.shiftLeft_eq];have:=Vd (show 1<2 by omega) aM;rw[show(1 % 2^64:Nat)=1 from rfl,Lb];exact zO this
  have aB:1<=2^n:=Nat.one_le_two_pow;have aV:=Vd (show 1<2 by omega) aM;rw[BitVec.toNat_sub,ad];simp only[KA];omega
 rw[<-BitVec.testBit_toNat,h1,Nat.testBit_two_pow_sub_one]
def RE(x:aN)(n:Int)(bC:0<=n)(h1:n<1000):a8 (Ah x n) (λr=> ∀j,j<128->cq r j=(cq x j&&decide ((j:Int)<n))):=by
 unfold Ah;obtain⟨m,rfl⟩:=pK bC;refine .cond (λh=>.ret λj aC=>?_) λh=>.cond (λcU=>.eq I (.ret λj aC=>?_)) λcU=>.cond (λTS=>.ret λj aC=>?_) λTS=>.eq I (.eq I (.ret λj aC=>?_))
 ·simp only[e2]at h;have:decide ((j:Int)<(m:Int))=true:=by simp;omega
  rw[this,zV]
 ·simp only[e2,nP]at h cU;have e:bm ((m:Int)-64)=((m-64:Nat):Int):=by rw[gQ (by omega) (by omega)];omega
  simp only[cq,e,s8 (show m-64<2^64 by omega),Cq,HT (show m-64<64 by omega)];split
  ·have:decide ((j:Int)<(m:Int))=true:=by simp;omega
   rw[this,zV]
  congr 1;rw[q7];omega
 ·simp only[e2]at TS;have:decide ((j:Int)<(m:Int))=false:=by simp;omega
  rw[DG,this,Bool.and_false]
 simp only[e2,nP]at h cU TS;simp only[cq,s8 (show m<2^64 by omega),Cq,HT (show m<64 by omega)];split
 ·congr 1;rw[q7];omega
 have:decide ((j:Int)<(m:Int))=false:=by simp;omega
 rw[this,Bool.and_false];exact Cp
def aaP(w:BitVec 64)(j:Nat):cq {(default:aN)with cI:=w} j=w.getLsbD j:=by
 unfold cq;split
 ·rfl
 rw[zD w j (by omega)];exact Cp
structure sh(kind b:Int)(m:cG):Prop where
 off:m.gp=false->m=default
 NP:kind=1->m.gp=true
 low:kind=1->∀j,j<128->cq m.cc j=true->(j:Int)<b
 auG:kind=3->∀j,j<128->cq m.hx j=true->(j:Int)<b
 auH:kind=3->∀j,j<128->cq m.cc j=true->cq m.hx j=true
 pre:0<=m.er∧m.er<=32
 TT:kind=2->m.gp=true->1<=m.er
 ac9:kind≠2->m.er=0
 iA:kind≠3->m.hx=default
 auI:kind=3->m.gp=true->m.hx≠default
 auJ:kind=4->m.gp=true->m.cc.dX=m.lr.dX∧m.cc.cI<=m.lr.cI
 TU:kind=2->∀j,j<128->cq m.cc j=true->32-m.er<=(j:Int)∧j<32
 NQ:kind≠4->m.lr=default
def IV:(0:Int)<=0∧(0:Int)<=32:=⟨xY 0,by decide⟩
def P1{kind b:Int}(h:kind≠1):sh kind b default:=
 ⟨λ_=>rfl,λk=>absurd k h,λk=>absurd k h,λ_ j _ bc=>(by rw[show(default:cG).hx=default from rfl,DG]at bc;cases bc),
  λ_ j _ bc=>(by rw[show(default:cG).cc=default from rfl,DG]at bc;cases bc),
  IV,λ_ k=>(by cases k),λ_=>rfl,λ_=>rfl,λ_ k=>(by cases k),λ_ k=>(by cases k),
  λ_ j _ bc=>(by rw[show(default:cG).cc=default from rfl,DG]at bc;cases bc),λ_=>rfl⟩
def akr{a x y:BitVec 64}(h1:a<=x)(ad:a<=y):a<=Bf x y:=by
 unfold Bf;split <;> assumption
def aks{v:aN}{b c:Int}(hb:0<=b∧b<=32)(ag:0<=c∧c<256)(bc:∀j,j<128->cq v j=true->(j:Int)<b):
 v.dX=0#64∧v.cI<=Bf (v.cI+BitVec.ofInt 64 c) (((1#64) <<< (BitVec.ofInt 64 b).toNat)-(1#64)):=by
 have gE:v.dX=0#64:=by
  apply zy;intro i aq;have h:=bc (64+i) (by omega);unfold cq at h;rw[bf (by omega),Nat.add_sub_cancel_left]at h;rw[Cp];cases au:v.dX.getLsbD i
  ·rfl
  have:=h au;omega
 obtain⟨n,rfl⟩:=pK hb.1
 have aM:n<=32:=by omega
 have BN:(BitVec.ofInt 64 (n:Int)).toNat=n:=s8 (by omega)
 rw[BN]
 have aaQ:v.cI<=((1#64) <<< n)-1#64:=by
  have hand:v.cI&&&(((1#64) <<< n)-1#64)=v.cI:=by
   apply zy;intro i aq;rw[Cq,HT (by omega)];have h:=bc i (by omega);unfold cq at h;rw[bh aq]at h;cases au:v.cI.getLsbD i
   ·rfl
   have:=h au;simp;omega
  rw[<-hand];rw[CS,BitVec.toNat_and];exact Nat.and_le_right
 have oW:(((1#64) <<< n)-1#64).toNat<2^33:=by
  have NR:(((1#64) <<< n)-1#64)&&&(((1#64) <<< 32)-1#64)=(((1#64) <<< n)-1#64):=by
   apply zy;intro i aq;rw[Cq,HT (by omega),HT (by omega)];simp;omega
  rw[<-NR,BitVec.toNat_and];exact Nat.lt_of_le_of_lt Nat.and_le_right (by decide)
 refine⟨gE,akr ?_ aaQ⟩
 rw[CS]at aaQ⊢
 obtain⟨m,rfl⟩:=pK ag.1
 rw[BitVec.toNat_add,s8 (by omega),zO (by omega)]
 omega
def ai5(x:BitVec 64){n:Int}(h1:1<=n)(ad:n<=32){i:Nat}(aq:i<128)
 (bc:cq {(default:aN)with cI:=x&&&((((1#64) <<< (BitVec.ofInt 64 32).toNat)-(1#64))-(((1#64) <<< (BitVec.ofInt 64 (bm (32-n))).toNat)-(1#64)))} i=true):32-n<=(i:Int)∧i<32:=by
 rw[aaP,Cq,gm]at bc
 have aB:=bc.2
 obtain⟨k,hk⟩:=pK (show 0<=32-n by omega)
 have c4:k<32:=by omega
 have e:bm (32-n)=(k:Int):=by rw[hk,gQ (by omega) (by omega)]
 rw[e,s8 (by omega)]at aB
 have TV:i<64:=by
  rcases sW i 64 with h|h
  ·exact h
  rw[zD _ i h]at aB;cases aB
 have key:∀(k:Fin 32) (i:Fin 64),((((1#64) <<< (BitVec.ofInt 64 32).toNat)-(1#64))-(((1#64) <<< k.1)-(1#64))).getLsbD i.1=true->k.1<=i.1∧i.1<32:=by decide +kernel
 have:=key ⟨k,c4⟩ ⟨i,TV⟩ aB
 simp only at this
 omega
def ah1(c:dM){s:aZ}(key:dD)(ag:hc c)(h:b7 s)(hk:nv key):
 a8 (GA c s key) (λr=>hc r.2∧sh key.dQ (hG key) r.1):=by
 obtain⟨j,aC,aW,aJ,fo,Oa,asI,c4⟩:=hk
 have hb:hG key=ax vJ j:=by unfold hG;rw[aW];congr 1;omega
 unfold GA
 rw[aW]
 refine(ahf h aC).bind λao av=>?_
 rw[hb]
 subst av
 generalize eu:ax vJ j=b at *
 refine .bind (gO _ 256 ag (by omega)) λaF ad=>.bind (gO _ 16 ad.1 (by omega)) λbg aB=>.eq I (.bind (gO _ 16 aB.1 (by omega)) λbw aV=>.eq I ?_)
 refine .bind (RE _ b (by omega) (by omega)) λcd ba=>?_
 refine .cond (λq=>?_) λq=>?_
 ·have q:key.dQ=2:=by simpa using q
  refine .bind (gO _ 5 aV.1 (by omega)) λcj bq=>.cond (λ_=>?_) λ_=>.ret ⟨bq.1,P1 (by omega)⟩
  refine .bind (gO _ b bq.1 (by omega)) λcm c0=>.bind (gO _ 5 c0.1 (by omega)) λcA db=>?_
  refine .eq (wJ db.2.1 (by simpa using db.2.2.1)) ?_
  have lg:1<=ax [b,8,16,1,bm (1+cm.1)] cA.1.toNat∧ax [b,8,16,1,bm (1+cm.1)] cA.1.toNat<=32:=by
   have b9:cA.1.toNat<[b,8,16,1,bm (1+cm.1)].length:=by have:=db.2.1;have:=db.2.2.1;simp;omega
   have hm:=j0 b9;rw[<-dz _ b9]at hm;have hw:bm (1+cm.1)=1+cm.1:=gQ (by have:=c0.2.1;omega) (by have:=c0.2.2.1;omega);have:=c0.2.1;have:=c0.2.2.1;simp only[dP,vd,vh]at hm;rcases hm with hm|hm|hm|hm|hm <;> rw[hm] <;> omega
  unfold Lg
  refine .eq I (.eq I (.eq I (.ret ⟨db.1,λh=>(by cases h),λh=>(by omega),λh=>by omega,λh=>(by omega),λh=>(by omega),⟨by have:=lg.1;show 0<=ax _ _;omega,lg.2⟩,λ_ _=>lg.1,λh=>absurd q h,λ_=>rfl,λh=>(by omega),λh=>(by omega),λ_ i aq bc=>?_,λ_=>rfl⟩)))
  have NR:b=32:=by rw[<-eu,c4 q];rfl
  rw[NR]at lg bc
  rw[NR]
  exact ai5 _ lg.1 lg.2 aq bc
 refine .cond (λeI=>?_) λeI=>?_
 ·have eI:key.dQ=3:=by simpa using eI
  refine .bind (gO _ 256 aV.1 (by omega)) λgJ n5=>.bind (gO _ 5 n5.1 (by omega)) λiy sE=>?_
  refine .eq (wJ sE.2.1 (by simpa using sE.2.2.1)) (.eq I (.bind (RE _ b (by omega) (by omega)) λh6 BR=>?_))
  refine .cond (λTW=>?_) λ_=>.ret ⟨sE.1,P1 (by omega)⟩
  refine .eq I (.eq I (.ret ⟨sE.1,λh=>(by cases h),λh=>(by omega),λh=>by omega,λ_ i aq bc=>?_,λ_ i aq bc=>?_,IV,λh=>(by omega),λ_=>rfl,λh=>absurd eI h,λ_ _ hd=>?_,λh=>(by omega),λh=>(by omega),λ_=>rfl⟩))
  ·have xr:=BR i aq
   simp only at bc
   rw[bc]at xr
   have:=xr.symm
   simp only[gm,e2]at this
   exact this.2
  ·simp only at bc⊢
   rw[aaP,Cq,gm]at bc
   have TV:i<64:=by
    rcases sW i 64 with h|h
    ·exact h
    rw[zD _ i h]at bc;cases bc.1
   unfold cq;rw[bh TV];exact bc.2
  have hd':h6=default:=hd
  rw[hd']at TW;simp at TW
  exact TW I
 refine .cond (λhn=>?_) λhn=>?_
 ·have hn:key.dQ=4:=by simpa using hn
  refine .bind (gO _ 256 aV.1 (by omega)) λjM xr=>.eq I (.bind (gO _ 5 xr.1 (by omega)) λkV vV=>.eq I (.cond (λ_=>?_) λ_=>.ret ⟨vV.1,P1 (by omega)⟩))
  have xt:=aks (v:=cd) (b:=b) (c:=jM.1) ⟨by omega,asI⟩ ⟨xr.2.1,xr.2.2.1⟩ λi aq bc=>by
   have NO:=ba i aq;rw[bc]at NO;have:=NO.symm;simp only[gm,e2]at this;exact this.2
  exact .eq I (.ret ⟨vV.1,λh=>(by cases h),λh=>(by omega),λh=>by omega,λh=>(by omega),λh=>(by omega),IV,λh=>(by omega),λ_=>rfl,λ_=>rfl,λh=>(by omega),λ_ _=>xt,λh=>(by omega),λh=>absurd hn h⟩)
 have aw:key.dQ=1:=by
  simp only[Fp]at q eI hn;omega
 refine .eq I (.ret ⟨aV.1,λh=>(by cases h),λ_=>rfl,λ_ i aq bc=>?_,λh=>(by omega),λh=>(by omega),IV,λh=>(by omega),λ_=>rfl,λ_=>rfl,λh=>(by omega),λh=>(by omega),λh=>(by omega),λ_=>rfl⟩)
 have xr:=ba i aq
 simp only at bc
 rw[bc]at xr
 have:=xr.symm
 simp only[gm,e2]at this
 exact this.2
structure fE(s:aZ)(k:Nat)(e:bl):Prop where
 fF:e.bG=(k:Int)+1
 len:e.bP.length=(ax s.bK k).cn.length
 xu:∀i,i<(ax s.bK k).cn.length->sh (ax (ax s.bK k).cn i).dQ (hG (ax (ax s.bK k).cn i)) (ax e.bP i)
 args:e.fM.length<=10
 pri:(∀i,i<(ax s.bK k).cn.length->(ax (ax s.bK k).cn i).dQ<=2)->e.gI=0
def LI{α:Type}[Inhabited α](l:aa α)(x:α)(i:Nat):ax (l++[x]) i=if i=l.length then x else ax l i:=by
 unfold ax;by_cases h:i=l.length
 ·subst h;simp
 rw[bf h];rcases sW i l.length with h1|h1
 ·rw[Om h1]
 rw[Oz (by simp;omega),Oz h1]
def ah2(c:dM){s:aZ}(x:Int)(ag:hc c)(h:b7 s):
 a8 (zT c s x) (λr=>hc r.2∧∃k:Nat,k<4∧Dr x (s.bK.length:Int)=some (k:Int)∧fE s k r.1):=by
 unfold zT
 obtain⟨ao,av,bC,h1⟩:=akn x (s.bK.length:Int) (by rw[h.lN];omega) (by rw[h.lN];omega)
 obtain⟨k,rfl⟩:=pK bC
 have hk:k<4:=by have:=h.lN;omega
 obtain⟨t1,⟨t2,t3⟩,t4,⟨t5,t6⟩,t7⟩:=h.fF hk
 refine .eq av (.idx I (by have:=h.lN;omega) ?_)
 refine a8.loop (ax s.bK k).cn.length (λi st=>st.1=(i:Int)∧st.2.1.bG=(k:Int)+1∧st.2.2.1.length=i∧hc st.2.2.2∧
  (∀j,j<i->sh (ax (ax s.bK k).cn j).dQ (hG (ax (ax s.bK k).cn j)) (ax st.2.2.1 j))∧((∀j,j<i->(ax (ax s.bK k).cn j).dQ<=2)->st.2.1.gI=0)) (by omega) ⟨rfl,t1,rfl,ag,λj aC=>by omega,λ_=>rfl⟩ (λi st aq hs=>?_) (λst hs=>?_)
 ·obtain⟨sL,e,ms,Cc⟩:=st;obtain⟨aS,cM,eW,jY,l9,v7⟩:=hs
  simp only at aS cM eW jY l9 v7;subst aS
  refine a8.cond (λ_=>?_) (λh=>by simp at h;omega)
  refine .idx I aq (.bind (ah1 _ _ jY h (t4 _ (by rw[dz _ aq];exact j0 aq))) λaF ad=>.eq (gz _ _ (by simp;omega) (by omega)) (.eq I ?_))
  refine .bind (P:=λm=>m.1.bG=(k:Int)+1∧hc m.2∧((ax (ax s.bK k).cn i).dQ<=2->m.1.gI=e.gI)) (.cond (λbV=>.bind (gO _ 5 ad.1 (by omega)) λbw aV=>.eq I (.ret ⟨cM,aV.1,λh=>by simp at bV;omega⟩)) (λ_=>.ret ⟨cM,ad.1,λ_=>rfl⟩)) λm1 bS=>?_
  refine .ret ⟨dB (by omega),bS.1,by simp;omega,bS.2.1,λj aC=>?_,λh=>?_⟩
  ·simp only[LI]
   by_cases mx:j=ms.length
   ·rw[bh mx];rw[mx,eW];exact ad.2
   rw[bf mx];exact l9 j (by omega)
  exact(bS.2.2 (h i (by omega))).trans (v7 λj aC=>h j (by omega))
 obtain⟨sL,e,ms,Cc⟩:=st;obtain⟨aS,cM,eW,jY,l9,v7⟩:=hs
 simp only at aS cM eW jY l9 v7;subst aS
 refine⟨_,by simp;rfl,?_⟩
 refine .bind (gO _ _ jY (by omega)) λcd ba=>?_
 refine .eq (wJ ba.2.1 ba.2.2.1) (.eq I ?_)
 have aY:1<=ax (ax s.bK k).dW cd.1.toNat∧ax (ax s.bK k).dW cd.1.toNat<=6:=t7 _ (by
  have b9:cd.1.toNat<(ax s.bK k).dW.length:=by have:=ba.2.1;have:=ba.2.2.1;omega
  rw[dz _ b9];exact j0 b9)
 obtain⟨a,e7⟩:=pK (show 0<=ax (ax s.bK k).dW cd.1.toNat-1 by omega)
 have asJ:ax (ax s.bK k).dW cd.1.toNat=(a:Int)+1:=by omega
 simp only[asJ]
 refine .bind (Wr h (show a<6 by omega)) λcj bq=>?_
 obtain⟨bk,bn⟩:=h.act (show a<6 by omega)
 rw[<-bq]at bn
 have hp:cj.mN.length<=10∧∀i,i<cj.mN.length->0<=(ax cj.mN i).jH∧(ax cj.mN i).jH<1000:=by
  have hq:∀l∈w9,l.length<=10∧∀b∈l,0<=b∧b<1000:=by decide
  have hm:ax w9 a∈w9:=by rw[dz w9 (show a<w9.length by simp[w9];omega)];exact j0 _
  obtain⟨aw,cH⟩:=hq _ hm;rw[<-bn]at aw cH;refine⟨by simpa using aw,λi aq=>cH _ ?_⟩;rw[dz _ aq];exact ic.2 ⟨_,j0 aq,rfl⟩
 refine a8.loop cj.mN.length (λi st=>st.1=(i:Int)∧st.2.1.bG=(k:Int)+1∧st.2.2.1.length=i∧hc st.2.2.2∧st.2.1.gI=e.gI) (by omega) ⟨rfl,cM,rfl,ba.1,rfl⟩ (λi st aq hs=>?_) (λst hs=>?_)
 ·obtain⟨sL,e',vs,asK⟩:=st;obtain⟨f2,f3,f4,f5,f6⟩:=hs
  simp only at f2 f3 f4 f5 f6;subst f2
  refine a8.cond (λ_=>?_) (λh=>by simp at h;omega)
  refine .idx I aq (.bind (gO _ 256 f5 (by omega)) λcm c0=>.eq I (.bind (RE _ _ (hp.2 i aq).1 (hp.2 i aq).2) λcA db=>.eq (gz _ _ (by have:=hp.1;simp;omega) (by omega)) (.ret ⟨dB (by have:=hp.1;omega),f3,by simp;omega,c0.1,f6⟩)))
 obtain⟨sL,e',vs,asK⟩:=st;obtain⟨f2,f3,f4,f5,f6⟩:=hs
 simp only at f2 f3 f4 f5 f6;subst f2
 refine⟨_,by simp;rfl,?_⟩
 exact .eq I (.ret ⟨f5,k,hk,av,f3,eW,l9,by show vs.length<=10;have:=hp.1;omega,λh=>f6.trans (v7 h)⟩)
structure an7(s:aZ)(r:Vector (List Int) 6):Prop where
 fields:bE r 0=s.gZ.map (·.b6)
 headers:bE r 1=s.pT.map (·.b6)
 Zf:bE r 2=s.qs.map (·.b6)
 QM:bE r 3=s.dW.map (·.b6)
 tables:bE r 4=s.bK.map (·.b6)
 D8:bE r 5=s.eK.map (·.b6)
def Ms{s:aZ}(h:b7 s):a8 (Ai s) (an7 s):=by
 unfold Ai;have B1:=h.vI;have Ur:=h.headers;have adL:=h.Zf;have UE:=h.S6;have ava:=h.lN;have avb:=h.ps;refine a8.loop s.gZ.length (λk st=>st.1=(k:Int)∧st.2.1=(s.gZ.take k).map (·.b6)) (by omega) ⟨rfl,rfl⟩ (λk st hk aq=>?_) (λst aq=>?_)
 ·obtain⟨i,a,v⟩:=st;obtain⟨av,aS⟩:=aq;simp only at av aS;subst av;subst aS;refine a8.cond (λ_=>?_) (λh=>by simp at h;omega);exact .idx I hk (.eq (gz _ _ (by simp;omega) (by omega)) (.ret ⟨dB (by omega),by rw[mK _ hk,mI];rfl⟩))
 obtain⟨i,a0,v⟩:=st;obtain⟨av,aS⟩:=aq;simp only at av aS;subst av;subst aS;refine⟨_,by simp only[show decide ((s.gZ.length:Int)<(s.gZ.length:Int))=false by simp,cond_false];rfl,?_⟩;refine a8.loop s.pT.length (λk st=>st.1=(k:Int)∧st.2.1=(s.pT.take k).map (·.b6)) (by omega) ⟨rfl,rfl⟩ (λk st hk aq=>?_) (λst aq=>?_)
 ·obtain⟨i,a,v⟩:=st;obtain⟨av,aS⟩:=aq;simp only at av aS;subst av;subst aS;refine a8.cond (λ_=>?_) (λh=>by simp at h;omega);exact .idx I hk (.eq (gz _ _ (by simp;omega) (by omega)) (.ret ⟨dB (by omega),by rw[mK _ hk,mI];rfl⟩))
 obtain⟨i,bX,v⟩:=st;obtain⟨av,aS⟩:=aq;simp only at av aS;subst av;subst aS;refine⟨_,by simp only[show decide ((s.pT.length:Int)<(s.pT.length:Int))=false by simp,cond_false];rfl,?_⟩;refine a8.loop s.qs.length (λk st=>st.1=(k:Int)∧st.2.1=(s.qs.take k).map (·.b6)) (by omega) ⟨rfl,rfl⟩ (λk st hk aq=>?_) (λst aq=>?_)
 ·obtain⟨i,a,v⟩:=st;obtain⟨av,aS⟩:=aq;simp only at av aS;subst av;subst aS;refine a8.cond (λ_=>?_) (λh=>by simp at h;omega);exact .idx I hk (.eq (gz _ _ (by simp;omega) (by omega)) (.ret ⟨dB (by omega),by rw[mK _ hk,mI];rfl⟩))
 obtain⟨i,a2,v⟩:=st;obtain⟨av,aS⟩:=aq;simp only at av aS;subst av;subst aS;refine⟨_,by simp only[show decide ((s.qs.length:Int)<(s.qs.length:Int))=false by simp,cond_false];rfl,?_⟩;refine a8.loop s.dW.length (λk st=>st.1=(k:Int)∧st.2.1=(s.dW.take k).map (·.b6)) (by omega) ⟨rfl,rfl⟩ (λk st hk aq=>?_) (λst aq=>?_)
 ·obtain⟨i,a,v⟩:=st;obtain⟨av,aS⟩:=aq;simp only at av aS;subst av;subst aS;refine a8.cond (λ_=>?_) (λh=>by simp at h;omega);exact .idx I hk (.eq (gz _ _ (by simp;omega) (by omega)) (.ret ⟨dB (by omega),by rw[mK _ hk,mI];rfl⟩))
 obtain⟨i,a3,v⟩:=st;obtain⟨av,aS⟩:=aq;simp only at av aS;subst av;subst aS;refine⟨_,by simp only[show decide ((s.dW.length:Int)<(s.dW.length:Int))=false by simp,cond_false];rfl,?_⟩;refine a8.loop s.bK.length (λk st=>st.1=(k:Int)∧st.2.1=(s.bK.take k).map (·.b6)) (by omega) ⟨rfl,rfl⟩ (λk st hk aq=>?_) (λst aq=>?_)
 ·obtain⟨i,a,v⟩:=st;obtain⟨av,aS⟩:=aq;simp only at av aS;subst av;subst aS;refine a8.cond (λ_=>?_) (λh=>by simp at h;omega);exact .idx I hk (.eq (gz _ _ (by simp;omega) (by omega)) (.ret ⟨dB (by omega),by rw[mK _ hk,mI];rfl⟩))
 obtain⟨i,a4,v⟩:=st;obtain⟨av,aS⟩:=aq;simp only at av aS;subst av;subst aS;refine⟨_,by simp only[show decide ((s.bK.length:Int)<(s.bK.length:Int))=false by simp,cond_false];rfl,?_⟩;refine a8.loop s.eK.length (λk st=>st.1=(k:Int)∧st.2.1=(s.eK.take k).map (·.b6)) (by omega) ⟨rfl,rfl⟩ (λk st hk aq=>?_) (λst aq=>?_)
 ·obtain⟨i,a,v⟩:=st;obtain⟨av,aS⟩:=aq;simp only at av aS;subst av;subst aS;refine a8.cond (λ_=>?_) (λh=>by simp at h;omega);exact .idx I hk (.eq (gz _ _ (by simp;omega) (by omega)) (.ret ⟨dB (by omega),by rw[mK _ hk,mI];rfl⟩))
 obtain⟨i,a5,v⟩:=st;obtain⟨av,aS⟩:=aq;simp only at av aS;subst av;subst aS;refine⟨_,by simp only[show decide ((s.eK.length:Int)<(s.eK.length:Int))=false by simp,cond_false];rfl,?_⟩;refine .eq I (.ret ⟨?_,?_,?_,?_,?_,?_⟩)
 ·simp only[iD];rw[jF _ _ (by omega),bf (by omega),jF _ _ (by omega),bf (by omega),jF _ _ (by omega),bf (by omega),jF _ _ (by omega),bf (by omega),jF _ _ (by omega),bf (by omega),jF _ _ (by omega),bh I]
 ·simp only[iD];rw[jF _ _ (by omega),bf (by omega),jF _ _ (by omega),bf (by omega),jF _ _ (by omega),bf (by omega),jF _ _ (by omega),bf (by omega),jF _ _ (by omega),bh I]
 ·simp only[iD];rw[jF _ _ (by omega),bf (by omega),jF _ _ (by omega),bf (by omega),jF _ _ (by omega),bf (by omega),jF _ _ (by omega),bh I]
 ·simp only[iD];rw[jF _ _ (by omega),bf (by omega),jF _ _ (by omega),bf (by omega),jF _ _ (by omega),bh I]
 ·simp only[iD];rw[jF _ _ (by omega),bf (by omega),jF _ _ (by omega),bh I]
 simp only[iD];rw[jF _ _ (by omega),bh I]
def Zh(l:aa Int)(x:Int)(an:l.length<2^30):a8 (wo l x) (λr=>(r= -1∧x∉l)∨∃k:Nat,k<l.length∧r=(k:Int)∧ax l k=x):=by
 unfold wo;refine ahX l (λy=>y==x) (by omega) (λk hk hp=>?_) (λk hk hq hp=>?_) (λhq=>?_)
 ·simp only[show decide ((k:Int)<(l.length:Int))=true by simp;omega,cond_true,kS hk,Option.bind_some,hp,cond_false]
 ·refine⟨_,by simp only[show decide ((k:Int)<(l.length:Int))=true by simp;omega,cond_true,kS hk,Option.bind_some,hp];rfl,?_⟩;exact .ret (.inr ⟨k,hk,rfl,by simpa using hp⟩)
 refine⟨_,by simp only[show decide ((l.length:Int)<(l.length:Int))=false by simp,cond_false];rfl,?_⟩;refine .ret (.inl ⟨rfl,λau=>?_⟩);have:=xL.1 hq x au;simp at this
def afn{xs:aa cy}{f:cy->aE Bool}{g:cy->Bool}(aW:∀x∈xs,f x=some (g x))(an:xs.length<2^62):
 a8 (Ff xs f) (λr=>(r= -1∧∀x∈xs,g x=false)∨∃i:Nat,i<xs.length∧r=i∧g (ax xs i)=true∧∀j,j<i->g (ax xs j)=false):=by
 unfold Ff
 refine a8.loop xs.length (λk s=>s=(k:Int)∧∀j,j<k->g (ax xs j)=false) (by omega) ⟨rfl,λj aC=>by omega⟩ (λk s hk aq=>?_) (λs aq=>?_)
 ·obtain⟨av,aS⟩:=aq;subst av
  refine a8.cond (λ_=>?_) (λh=>by simp at h;omega)
  refine .idx I hk (.eq (aW _ (by rw[dz xs hk];exact j0 hk)) (.cond (λh=>.ret ?_) (λh=>.ret ⟨dB (by omega),λj aC=>?_⟩)))
  ·exact .ret (.inr ⟨k,hk,rfl,h,aS⟩)
  by_cases uR:j=k
  ·subst uR;exact h
  exact aS j (by omega)
 obtain⟨av,aS⟩:=aq;subst av
 refine⟨_,by simp;rfl,?_⟩
 refine .ret (.inl ⟨rfl,λx au=>?_⟩)
 obtain⟨j,aC,rfl⟩:=xK.1 au
 rw[<-dz xs aC];exact aS j aC
def afo{xs:aa jl}{f:jl->aE Bool}{g:jl->Bool}(aW:∀x∈xs,f x=some (g x))(an:xs.length<2^62):
 a8 (Fg xs f) (λr=>(r= -1∧∀x∈xs,g x=false)∨∃i:Nat,i<xs.length∧r=i∧g (ax xs i)=true∧∀j,j<i->g (ax xs j)=false):=by
 unfold Fg
 refine a8.loop xs.length (λk s=>s=(k:Int)∧∀j,j<k->g (ax xs j)=false) (by omega) ⟨rfl,λj aC=>by omega⟩ (λk s hk aq=>?_) (λs aq=>?_)
 ·obtain⟨av,aS⟩:=aq;subst av
  refine a8.cond (λ_=>?_) (λh=>by simp at h;omega)
  refine .idx I hk (.eq (aW _ (by rw[dz xs hk];exact j0 hk)) (.cond (λh=>.ret ?_) (λh=>.ret ⟨dB (by omega),λj aC=>?_⟩)))
  ·exact .ret (.inr ⟨k,hk,rfl,h,aS⟩)
  by_cases uR:j=k
  ·subst uR;exact h
  exact aS j (by omega)
 obtain⟨av,aS⟩:=aq;subst av
 refine⟨_,by simp;rfl,?_⟩
 refine .ret (.inl ⟨rfl,λx au=>?_⟩)
 obtain⟨j,aC,rfl⟩:=xK.1 au
 rw[<-dz xs aC];exact aS j aC
def PK{s:aZ}(h:b7 s){k:Nat}(hk:k<4):a8 (z6 s ((k:Int)+1)) (λr=>r=(k:Int)):=by
 unfold z6;refine(afn (g:=λt=>t.b6==(k:Int)+1) (λx au=>rfl) (by rw[h.lN];omega)).bind λr aG=>.ret ?_;have c4:k<s.bK.length:=by rw[h.lN];exact hk
 rcases aG with⟨_,aG⟩|⟨i,h1,ad,aB,aV⟩
 ·have:=aG (ax s.bK k) (by rw[dz _ c4];exact j0 c4);simp only[(h.fF hk).1,FW]at this;cases this
 have ba:=(h.fF (show i<4 by have:=h.lN;omega)).1;simp only[ba,ni]at aB;omega
def Ws{s:aZ}(h:b7 s){k:Nat}(hk:k<9):a8 (C8 s ((k:Int)+1)) (λr=>r=(k:Int)):=by
 unfold C8;refine(afo (g:=λt=>t.b6==(k:Int)+1) (λx au=>rfl) (by rw[h.vI];omega)).bind λr aG=>.ret ?_;have c4:k<s.gZ.length:=by rw[h.vI];exact hk
 rcases aG with⟨_,aG⟩|⟨i,h1,ad,aB,aV⟩
 ·have:=aG (ax s.gZ k) (by rw[dz _ c4];exact j0 c4);simp only[(h.xq hk).1,FW]at this;cases this
 have ba:=(h.xq (show i<9 by have:=h.vI;omega)).1;simp only[ba,ni]at aB;omega
def XJ(l:aa Int){k:Nat}(hk:k<l.length)(an:l.length<2^30)(h:∀j,j<l.length->ax l j=(j:Int)+1):a8 (wo l ((k:Int)+1)) (λr=>r=(k:Int)):=by
 unfold wo;refine a8.loop k (λj s=>s=(j:Int)) (by omega) I (λj i aC aq=>?_) (λi aq=>?_)
 ·subst aq;refine a8.cond (λ_=>?_) (λh=>by simp at h;omega);refine .idx I (by omega) (.cond (λag=>?_) (λag=>.ret (dB (by omega))));rw[h j (by omega),ni]at ag;omega
 subst aq;have h1:decide ((k:Int)<(l.length:Int))=true:=by simp;omega
 have ad:(ax l k==(k:Int)+1)=true:=by rw[h k hk];simp
 rw[h1];simp only[cond_true];rw[kS (by omega)];simp only[Option.bind_some,ad,cond_true];exact⟨_,rfl,.ret I⟩
def PL{s:aZ}(h:b7 s){k:Nat}(hk:k<4):a8 (xZ s ((k:Int)+1)) (λr=>r=(k:Int)):=by
 unfold xZ;refine(Ms h).bind λy aR=>?_;have an:=h.lN;rw[aR.tables];refine(XJ _ (by simp;omega) (by simp;omega) λj aC=>?_).bind λr aG=>.ret aG;rw[Ay _ (by simpa using aC)];exact(h.fF (by simp at aC;omega)).1
def agK{s:aZ}(h:b7 s){k:Nat}(hk:k<9):a8 (G0 s ((k:Int)+1)) (λr=>r=(k:Int)):=by
 unfold G0;refine(Ms h).bind λy aR=>?_;have an:=h.vI;rw[aR.fields];refine(XJ _ (by simp;omega) (by simp;omega) λj aC=>?_).bind λr aG=>.ret aG;rw[Ay _ (by simpa using aC)];exact(h.xq (by simp at aC;omega)).1
def Ss{key:dD}{j:Nat}(h:key.jo=(j:Int)+1):hG key=ax vJ j:=by unfold hG;rw[h];congr 1;omega
def ahg{s:aZ}(h:b7 s){t:cy}{i:Nat}(aq:i<t.cn.length)(hk:nv (ax t.cn i)):a8 (G6 s t (i:Int)) (λr=>r=hG (ax t.cn i)):=by
 obtain⟨j,aC,aW,_⟩:=hk;unfold G6 Lh;refine .idx I aq ?_;rw[Ss aW,aW];refine .bind (P:=λr=>r=ax vJ j) ((agK h aC).bind λy aR=>.idx aR (by rw[h.vI];exact aC) (.ret (h.xq aC).2)) λy aR=>.ret aR
def lead(n k:Int)(j:Nat):Bool:=decide ((j:Int)<n)&&decide (n-max 0 (min k n)<=(j:Int))
def WJ(n k:Int)(bC:0<=n)(h1:n<=128):a8 (C9 n k) (λr=> ∀j,j<128->cq r j=lead n k j):=by
 unfold C9 Dg;have e:min (max 0 n) 128=n:=by omega
 rw[e];have aS:bm (n-min (max 0 k) n)=n-min (max 0 k) n:=gQ (by omega) (by omega);refine .eq I ((QN n).bind λa aY=>?_);rw[aS];refine(QN _).bind λb hb=>(akq a b).bind λr aG=>.ret λj aC=>?_;rw[aG j aC,aY j aC,hb j aC];unfold lead;by_cases p:(j:Int)<n
 ·rw[q9 p];by_cases q:(j:Int)<n-min (max 0 k) n
  ·rw[q9 q,sT (by omega)];rfl
  rw[sT q,q9 (by omega)];rfl
 rw[sT p,sT (by omega)];rfl
def nv.hG{key:dD}(h:nv key):4<=Go.Proofs.YtppgfphgdogpeaaGreat.hG key∧Go.Proofs.YtppgfphgdogpeaaGreat.hG key<=32:=by
 obtain⟨j,aC,aW,_,_,h1,ad,_⟩:=h;rw[Ss aW];exact⟨h1,ad⟩
def akt{v w:aN}:decide (v=w)=true↔∀j,j<128->cq v j=cq w j:=by
 rw[e2];exact⟨λh j _=>by rw[h],Ih⟩
def ah3(c:dM)(ag:hc c):a8 (GB c) (λr=>hc r.2):=by
 unfold GB;refine a8.loop 4 (λk st=>st.1=(k:Int)∧hc st.2.2) (by omega) ⟨rfl,ag⟩ (λk st hk aq=>?_) (λst aq=>?_)
 ·obtain⟨i,p,Cc⟩:=st;obtain⟨av,aS⟩:=aq;simp only at av aS;subst av;refine a8.cond (λ_=>?_) (λh=>by simp at h;omega);refine .bind (gO _ 256 aS (by omega)) λao h1=>.eq I (.idx I hk (.bind (gO _ 4 h1.1 (by omega)) λaF ad=>?_));refine .bind (P:=λm=>hc m.1) (.cond (λ_=>?_) λ_=>.ret ad.1) λm1 bS=>.ret ⟨dB (by omega),bS⟩;exact .idx I hk (.bind (gO _ 256 ad.1 (by omega)) λbg aB=>.eq I (.idx I hk (.eq I (.ret aB.1))))
 obtain⟨i,p,Cc⟩:=st;obtain⟨av,aS⟩:=aq;simp only at av aS;subst av;refine⟨_,rfl,?_⟩;exact .ret aS
def ahh(e:bl)(p:Vector aN 4)(an:e.bP.length<2^30):a8 (G9 e p) (λ_=>True):=by
 unfold G9;refine a8.loop e.bP.length (λk st=>st.1=(k:Int)) (by omega) I (λk st hk aq=>?_) (λst aq=>?_)
 ·obtain⟨i,p⟩:=st;simp only at aq;subst aq;refine a8.cond (λ_=>?_) (λh=>by simp at h;omega);refine .idx I hk (.cond (λ_=>.ret (dB (by omega))) λbV=>?_);simp only[OA,nP]at bV;have jw:k<4:=by have:=bV.1;omega
  refine .bind (P:=λ_=>True) (.cond (λ_=>.idx I jw (.eq I (.idx I jw (.eq I (.idx I jw (.idx I jw (.eq I (.ret lJ)))))))) λ_=>.eq I ?_) λ_ _=>.ret (dB (by omega));exact .bind (P:=λ_=>True) (.cond (λ_=>.idx I jw (.eq I (.eq I (.idx I jw (.eq I (.ret lJ)))))) λ_=>.idx I jw (.ret lJ)) λ_ _=>.ret lJ
 obtain⟨i,p⟩:=st;simp only at aq;subst aq;refine⟨_,by simp;rfl,?_⟩;exact .ret lJ
def l2(a b:aN):Bool:=decide (a.dX<b.dX)||(a.dX==b.dX&&decide (a.cI<b.cI))
def H0{a b:aN}:l2 a b=true↔a.dX<b.dX∨(a.dX=b.dX∧a.cI<b.cI):=by simp[l2]
def Ao(a:aN):l2 a a=false:=by simp[l2]
def Dx{a b:aN}(h:l2 a b=true):l2 b a=false:=by
 rw[pN];intro ad;rw[H0]at h ad;simp only[zU,BitVec.toNat_eq]at h ad;omega
def ahi{x y i:Nat}(h1:x.testBit i=false)(ad:y.testBit i=true)(aB:∀j,i<j->x.testBit j=y.testBit j):x<y:=by
 have aV:x/2^(i+1)=y/2^(i+1):=Nat.eq_of_testBit_eq λj=>by
  rw[US,US];exact aB _ (by omega)
 rw[Nat.testBit_eq_decide_div_mod_eq]at h1 ad;simp only[nP,e2]at h1 ad;rw[Nat.pow_succ,<-U1,<-U1]at aV;have ba:x/2^i<y/2^i:=by omega
 exact Nat.lt_of_div_lt_div ba
def YG{x y:BitVec 64}{i:Nat}(h1:x.getLsbD i=false)(ad:y.getLsbD i=true)(aB:∀j,i<j->j<64->x.getLsbD j=y.getLsbD j):x<y:=by
 rw[zU];refine ahi h1 ad λj aC=>?_;by_cases mx:j<64
 ·exact aB j aC mx
 show x.getLsbD j=y.getLsbD j;rw[zD _ _ (by omega),zD _ _ (by omega)]
def XK{a b:aN}{i:Nat}(aq:i<128)(h1:cq a i=false)(ad:cq b i=true)(aB:∀j,i<j->j<128->cq a j=cq b j):l2 a b=true:=by
 rw[H0];by_cases h:i<64
 ·right;unfold cq at h1 ad;rw[bh h]at h1 ad;constructor
  ·apply zy;intro j aC;have:=aB (j+64) (by omega) (by omega);unfold cq at this;rw[bf (by omega),bf (by omega)]at this;simpa using this
  refine YG h1 ad λj aC mx=>?_;have:=aB j aC (by omega);unfold cq at this;rwa[bh mx,bh mx]at this
 left;unfold cq at h1 ad;rw[bf h]at h1 ad;refine YG h1 ad λj aC mx=>?_;have:=aB (j+64) (by omega) (by omega);unfold cq at this;rw[bf (by omega),bf (by omega)]at this;simpa using this
def WK(a b:aN):a8 (re a b) (λr=>(r<0↔l2 a b=true)∧(r=0↔a=b)∧(-1<=r∧r<=1)):=by
 unfold re;refine .cond (λh=>.ret ?_) λh=>.eq I (.cond (λad=>.ret ?_) λad=>.ret ?_)
 ·simp only[e2]at h;subst h;simp[Ao]
 ·simp only[nP]at h;exact⟨⟨λ_=>ad,λ_=>by omega⟩,⟨λaB=>by omega,λaB=>absurd aB h⟩,by omega,by omega⟩
 simp only[nP]at h;have l0:l2 a b=false:=ad;exact⟨⟨λaB=>by omega,λaB=>by rw[l0]at aB;cases aB⟩,⟨λaB=>by omega,λaB=>absurd aB h⟩,by omega,by omega⟩
def Lt(a b:aN):a8 (rh a b) (λr=>(r>0↔l2 b a=true)∧(r<0↔l2 a b=true)):=by
 unfold rh;refine(DI a).bind λx au=>(DI b).bind λy aR=>?_;refine a8.loop 128 (λk s=>s=127-(k:Int)∧∀j,128<=j+k->j<128->cq a j=cq b j) (by omega) ⟨rfl,λj h1 ad=>by omega⟩ (λk s hk aq=>?_) (λs aq=>?_)
 ·obtain⟨rfl,aS⟩:=aq;refine a8.cond (λ_=>?_) (λh=>by simp at h;omega);have qb:(127-(k:Int))=((127-k:Nat):Int):=by omega
  have yL:127-k<128:=by omega
  refine .idx qb yL (.idx qb yL ?_);rw[au _ yL,aR _ yL];refine .cond (λdi=>.idx qb yL ?_) λheq=>.ret ⟨?_,λj h1 ad=>?_⟩
  ·have heq:∀j,127-k<j->j<128->cq a j=cq b j:=λj h1 ad=>aS j (by omega) ad;rw[aR _ yL];refine .cond (λhb=>.ret (.ret ?_)) λhb=>.ret (.ret ?_)
   ·have aY:cq a (127-k)=false:=by rw[hb]at di;simpa using di
    have:=XK yL aY hb heq;exact⟨⟨λh=>by simp at h,λh=>by rw[Dx this]at h;cases h⟩,λ_=>this,λ_=>by simp⟩
   have aY:cq a (127-k)=true:=by rw[hb]at di;simpa using di
   have:=XK yL hb aY λj h1 ad=>(heq j h1 ad).symm;exact⟨⟨λ_=>this,λ_=>by simp⟩,λh=>by simp at h,λh=>by rw[Dx this]at h;cases h⟩
  ·rw[gQ (by omega) (by omega)];omega
  by_cases aC:j=127-k
  ·subst aC;simpa using heq
  exact aS j (by omega) ad
 obtain⟨rfl,aS⟩:=aq;refine⟨_,rfl,?_⟩;have:a=b:=Ih λj aC=>aS j (by omega) aC;subst this;refine .ret ⟨?_,?_⟩ <;> simp[Ao]
end Go.Proofs.YtppgfphgdogpeaaGreat
namespace Gv
structure uS{α:Type}(b:α->α->Bool):Prop where
 asymm:∀x y,b x y=true->b y x=false
 trans:∀x y z,b x y=true->b y z=true->b x z=true
def ins{α:Type}(b:α->α->Bool):aa α->α->aa α
 |[],x=>[x]
 |a::l,x=>if b a x=true then a::ins b l x else x::a::l
def eX{α:Type}(b:α->α->Bool)(l:aa α):aa α:=l.foldl (ins b) []
def l3{α:Type}(b:α->α->Bool):aa α->α->Nat
 |[],_=>0
 |a::l,x=>if b a x=true then l3 b l x+1 else 0
def BS{α:Type}(b:α->α->Bool)(x y:α):Prop:=b x y=true∨b y x=true
variable{α:Type}{b:α->α->Bool}
def XL(a:α)(l:aa α)(x:α):ins b (a::l) x=if b a x=true then a::ins b l x else x::a::l:=rfl
def RF:∀{l:aa α} {x:α},l3 b l x<=l.length
 |[],_=>iS _
 | a::l,x=>by
   have:=RF (l:=l) (x:=x);unfold l3;split <;> simp <;> omega
def Zi:∀(l:aa α) (x:α),ins b l x=l.take (l3 b l x)++x::l.drop (l3 b l x)
 |[],x=>rfl
 | a::l,x=>by
   unfold ins l3;split
   ·rw[Zi l x];rfl
   rfl
def Qi:∀(l:aa α) (x:α),(ins b l x).Perm (x::l)
 |[],x=>KZ _
 | a::l,x=>by
   unfold ins;split
   ·exact((Qi l x).cons a).trans (List.Perm.swap x a l)
   exact KZ _
def aku{l:aa α}{x y:α}:y∈ins b l x↔y=x∨y∈l:=by
 rw[(Qi l x).mem_iff];simp
def H2(l:aa α)(x:α):eX b (l++[x])=ins b (eX b l) x:=by
 simp[eX,List.foldl_append]
def QO(l:aa α):(eX b l).Perm l:=by
 have key:∀(l m:aa α),(l.foldl (ins b) m).Perm (m++l):=by
  intro l;induction l with
  |nil=>intro m;simp
  | cons a l cg=>
    intro m
    refine(cg (ins b m a)).trans ?_
    refine((Qi m a).append_right l).trans ?_
    exact(sS (a:=a) (l₁:=m) (l₂:=l)).symm
 exact key l []
def rr{l:aa α}{y:α}:y∈eX b l↔y∈l:=(QO l).mem_iff
def alx{l:aa α}:(eX b l).length=l.length:=(QO l).length_eq
def WL(hb:uS b):∀{l:aa α} {x:α},l.Pairwise (λx y=>b x y=true)->(∀a∈l,BS b a x)->(ins b l x).Pairwise (λx y=>b x y=true)
 |[],x,_,_=>by simp[ins]
 | a::l,x,hs,bD=>by
   obtain⟨h1,ad⟩:=kz.1 hs;unfold ins;split
   ·rename_i qW;refine kz.2 ⟨λc ag=>?_,WL hb ad λa aY=>bD a (by simp[aY])⟩;rcases aku.1 ag with rfl|ag
    ·exact qW
    exact h1 c ag
   rename_i qW;have zd:b x a=true:=(bD a (by simp)).resolve_left qW;refine kz.2 ⟨λc ag=>?_,hs⟩;rcases dP.1 ag with rfl|ag
   ·exact zd
   exact hb.trans _ _ _ zd (h1 c ag)
def XM(hb:uS b){p:α->Bool}:∀{l:aa α} {x:α},l.Pairwise (λx y=>b x y=true)->(∀a∈l,BS b a x)->
 (ins b l x).find? p=if p x=true then(match l.find? p with |none=>some x|some c=>if b x c=true then some x else some c)else l.find? p
 | [],x,_,_=>by
   unfold ins;by_cases hp:p x=true
   ·simp[hp]
   simp only[jk]at hp;simp[hp]
 | a::l,x,hs,bD=>by
   obtain⟨h1,ad⟩:=kz.1 hs;unfold ins;by_cases qW:b a x=true
   ·rw[bh qW];by_cases NS:p a=true
    ·rw[Fh NS,Fh NS];simp[hb.asymm _ _ qW]
    rw[Ck NS,Ck NS];exact XM hb ad λa aY=>bD a (by simp[aY])
   rw[bf qW];have zd:b x a=true:=(bD a (by simp)).resolve_left qW;by_cases hp:p x=true
   ·rw [Fh hp,bh hp];cases aW:(a::l).find? p with
    |none=>rfl
    | some c=>
      have ag:=Ch aW
      have:b x c=true:=by
       rcases dP.1 ag with rfl|ag
       ·exact zd
       exact hb.trans _ _ _ zd (h1 c ag)
      simp[this]
   rw[Ck hp,bf hp]
def ah4{l:aa α}{x:α}(h:∀c∈l,b c x=false):ins b l x=x::l:=by
 cases l with
 |nil=>rfl
 |cons a l=>unfold ins;rw[bf (by simp[h a (by simp)])]
def WM(hb:uS b){q:α->Bool}:∀{l:aa α} {x:α},l.Pairwise (λx y=>b x y=true)->(∀a∈l,BS b a x)->
 (ins b l x).filter q=if q x=true then ins b (l.filter q) x else l.filter q
 | [],x,_,_=>by
   show [x].filter q=if q x=true then [x]else [];by_cases hp:q x=true
   ·simp[hp]
   simp only[jk]at hp;simp[hp]
 | a::l,x,hs,bD=>by
   obtain⟨h1,ad⟩:=kz.1 hs;have cg:=WM hb (q:=q) (x:=x) ad λa aY=>bD a (by simp[aY]);rw[XL];by_cases qW:b a x=true
   ·rw[bh qW];by_cases pD:q a=true
    ·rw[xI pD,xI pD,cg];by_cases hq:q x=true
     ·rw[bh hq,bh hq,XL,bh qW]
     rw[bf hq,bf hq]
    rw[vb pD,vb pD,cg]
   rw[bf qW];have zd:b x a=true:=(bD a (by simp)).resolve_left qW;by_cases hq:q x=true
   ·rw[xI hq,bh hq,ah4];intro c ag;have nJ:=(tV.1 ag).1;refine hb.asymm _ _ ?_;rcases dP.1 nJ with rfl|nJ
    ·exact zd
    exact hb.trans _ _ _ zd (h1 c nJ)
   rw[vb hq,bf hq]
def xa(b:α->α->Bool)(l:aa α):Prop:=l.Pairwise (BS b)
def xa.snoc{l:aa α}{x:α}(h:xa b (l++[x])):xa b l∧∀a∈l,BS b a x:=by
 unfold xa at *;rw[wa]at h;exact⟨h.1,λa aY=>h.2.2 a aY x (by simp)⟩
def XN{P:aa α->Prop}(bC:P [])(h1:∀l x,P l->P (l++[x]))(l:aa α):P l:=by
 have:∀r:aa α,P r.reverse:=by
  intro r;induction r with
  |nil=>exact bC
  |cons a r cg=>rw[List.reverse_cons];exact h1 _ _ cg
 have:=this l.reverse;rwa[List.reverse_reverse]at this
def HH(hb:uS b){l:aa α}(h:xa b l):(eX b l).Pairwise (λx y=>b x y=true):=by
 induction l using XN with
 |bC=>exact List.Pairwise.nil
 | h1 l x cg=>
   obtain⟨h1,ad⟩:=h.snoc
   rw[H2]
   exact WL hb (cg h1) λa aY=>ad a (rr.1 aY)
def ah5(hb:uS b){q:α->Bool}{l:aa α}(h:xa b l):(eX b l).filter q=eX b (l.filter q):=by
 induction l using XN with
 |bC=>rfl
 | h1 l x cg=>
   obtain⟨h1,ad⟩:=h.snoc
   rw[H2,WM hb (HH hb h1) λa aY=>ad a (rr.1 aY),cg h1,mG]
   by_cases hq:q x=true
   ·rw[bh hq,xI hq,List.filter_nil,H2]
   rw[bf hq,vb hq,List.filter_nil,ot]
def RG[Inhabited α](hb:uS b):∀{l:aa α} {x:α} {k:Nat},l.Pairwise (λx y=>b x y=true)->k<l.length->(b (ax l k) x=true↔k<l3 b l x)
 |[],x,k,_,hk=>by simp at hk
 | a::l,x,k,hs,hk=>by
   obtain⟨h1,ad⟩:=kz.1 hs;unfold l3;cases k with
   | zero=>
     have:ax (a::l) 0=a:=rfl
     rw[this]
     split <;> simp_all
   | succ k=>
     have kI:k<l.length:=by simpa using hk
     have he:ax (a::l) (k+1)=ax l k:=by rw[dz _ hk,dz _ kI];rfl
     rw[he,RG hb ad kI]
     split
     ·omega
     rename_i qW
     constructor
     ·intro b9
      have ba:=(RG hb ad kI).2 b9
      have bq:=h1 (ax l k) (by rw[dz _ kI];exact j0 _)
      exact absurd (hb.trans _ _ _ bq ba) qW
     intro h;omega
end Gv
namespace Go.Proofs.YtppgfphgdogpeaaGreat
open Go Gv
def afT{xs:aa dD}{f:dD->aE Bool}{g:dD->Bool}(aW:∀x∈xs,f x=some (g x))(an:xs.length<2^62):
 a8 (Fk xs f) (λr=>(r= -1∧∀x∈xs,g x=false)∨∃i:Nat,i<xs.length∧r=i∧g (ax xs i)=true∧∀j,j<i->g (ax xs j)=false):=by
 unfold Fk
 refine a8.loop xs.length (λk s=>s=(k:Int)∧∀j,j<k->g (ax xs j)=false) (by omega) ⟨rfl,λj aC=>by omega⟩ (λk s hk aq=>?_) (λs aq=>?_)
 ·obtain⟨av,aS⟩:=aq;subst av
  refine a8.cond (λ_=>?_) (λh=>by simp at h;omega)
  refine .idx I hk (.eq (aW _ (by rw[dz xs hk];exact j0 hk)) (.cond (λh=>.ret ?_) (λh=>.ret ⟨dB (by omega),λj aC=>?_⟩)))
  ·exact .ret (.inr ⟨k,hk,rfl,h,aS⟩)
  by_cases uR:j=k
  ·subst uR;exact h
  exact aS j (by omega)
 obtain⟨av,aS⟩:=aq;subst av
 refine⟨_,by simp;rfl,?_⟩
 refine .ret (.inl ⟨rfl,λx au=>?_⟩)
 obtain⟨j,aC,rfl⟩:=xK.1 au
 rw[<-dz xs aC];exact aS j aC
def _root_.Gv.a8.get{β:Type}{m:aE β}{v:β}(h:a8 m (λr=>r=v)):m=some v:=by
 obtain⟨r,h1,rfl⟩:=h;exact h1
def YH(a b:aN):l2 a b=true∨a=b∨l2 b a=true:=by
 rw[H0,H0];rcases a with⟨avc,EZ⟩;rcases b with⟨avd,ave⟩;simp only[zU,aN.mk.injEq,<-BitVec.toNat_inj];omega
def na(kind b:Int)(m:cG)(x:aN):Bool:=
 if m.gp=false then true
 else if kind=1 then decide (x=m.cc)
 else if kind=2 then(List.range 128).all λj=> !lead b m.er j||(cq x j==cq m.cc j)
 else if kind=3 then decide (w8 x m.hx=m.cc)
 else !l2 x m.cc&& !l2 m.lr x
def ahj{key:dD}(hk:nv key)(m:cG)(x:aN):He m key.dQ (hG key) x=some (na key.dQ (hG key) m x):=by
 have hb:=hk.hG;obtain⟨_,_,_,aJ,fo,_⟩:=hk;refine a8.get ?_;unfold He na;refine .cond (λhp=>.ret ?_) λhp=>?_
 ·simp only[r1]at hp;rw[bh hp];simp;omega
 simp only[KB]at hp;rw[bf (by simp[hp])];refine .cond (λh1=>.ret ?_) λh1=>.cond (λad=>?_) λad=>.cond (λaB=>?_) λaB=>?_
 ·rw[bh (by simpa using h1)]
 ·rw[bf (by simpa using h1),bh (by simpa using ad)];refine(WJ _ _ (by omega) (by omega)).bind λao av=>.eq (and_eq _ _) (.eq (and_eq _ _) (.ret ?_));rw[kQ,akt,lk];constructor
  ·intro h j aC;have pA:=lF.1 aC;have:=h j pA;rw[DH,DH,av j pA]at this;cases an:lead (hG key) m.er j
   ·rfl
   rw[an]at this;simpa using this
  intro h j aC;have:=h j (lF.2 aC);rw[DH,DH,av j aC];cases an:lead (hG key) m.er j
  ·simp
  rw[an]at this;simpa using this
 ·rw[bf (by simpa using h1),bf (by simpa using ad),bh (by simpa using aB)];exact .eq (and_eq _ _) (.ret I)
 have jw:key.dQ=4:=by simp only[Fp]at h1 ad aB;omega
 rw[bf (by simpa using h1),bf (by simpa using ad),bf (by simpa using aB)];refine .cond (λ_=>?_) λh=>by rw[jw]at h;cases h
 refine(WK _ _).bind λcd ⟨bX,a2,a3⟩=>.b1 (P:=λr=>(r<0↔l2 x m.lr=true)∧(r=0↔x=m.lr)∧ -1<=r∧r<=1) (λ_=>WK _ _) λcj bq=>.ret ?_;have et:decide (cd<=0)= !l2 x m.cc:=by
  rw[kQ,e2,r1];rcases YH m.cc x with h|h|h
  ·have:=bX.2 h;rw[Dx h];simp;omega
  ·have:=a2.2 h;rw[h,Ao];simp;omega
  rw[h];simp;have c0: ¬cd<0:=λbT=>by rw[Dx h]at bX;simpa using bX.1 bT
  have db:cd≠0:=λbT=>by rw[a2.1 bT,Ao]at h;cases h
  omega
 rw[et];cases au:l2 x m.cc
 ·rw[et,au]at bq;obtain⟨dL,eF,jA⟩:=bq I;simp only[KY,qp];rw[kQ,e2,r1];rcases YH x m.lr with h|h|h
  ·have:=dL.2 h;rw[Dx h];simp;omega
  ·have:=eF.2 h;rw[h,Ao];simp;omega
  rw[h];simp;have c0: ¬cj<0:=λbT=>by rw[Dx h]at dL;simpa using dL.1 bT
  have db:cj≠0:=λbT=>by rw[eF.1 bT,Ao]at h;cases h
  omega
 simp
def ahk{key:dD}(hk:nv key){m:cG}(hm:sh key.dQ (hG key) m)(x:aN):Hd m key.dQ (hG key) x=some (na key.dQ (hG key) m x):=by
 have hb:=hk.hG;obtain⟨_,_,_,aJ,fo,_⟩:=hk;refine a8.get ?_;unfold Hd na;refine .cond (λhp=>.ret ?_) λhp=>?_
 ·simp only[r1]at hp;rw[bh hp];simp;omega
 simp only[KB]at hp;rw[bf (by simp[hp])];refine .cond (λh1=>.ret ?_) λh1=>.cond (λad=>?_) λad=>.cond (λaB=>?_) λaB=>?_
 ·rw[bh (by simpa using h1)]
 ·rw [bf (by simpa using h1),bh (by simpa using ad)];have ada:=hm.TT (by simpa using ad) hp;have aup:=hm.pre.2;refine(DI _).bind λao av=>(DI _).bind λaF aS=>?_;rw[gQ (by omega) (by omega)];refine a8.loop m.er.toNat (λr s=>s=hG key-m.er+(r:Int)∧∀j:Nat,j<128->hG key-m.er<=(j:Int)->(j:Int)<hG key-m.er+(r:Int)->cq x j=cq m.cc j) (by omega) ⟨by simp,λj aC h1 ad=>by omega⟩ (λr s aG hs=>?_) (λs hs=>?_)
  ·obtain⟨rfl,hs⟩:=hs;refine .cond (λ_=>?_) (λh=>by simp at h;omega);by_cases bC:0<=hG key-m.er+(r:Int)
   ·obtain⟨j,aC⟩:=pK bC;rw[aC];have Iw:j<128:=by omega
    refine .b1 (P:=λk=>k=j) (λ_=>⟨j,kS Iw,rfl⟩) λaJ cT=>.b1 (P:=λk=>k=j) (λ_=>⟨j,kS Iw,rfl⟩) λbx c4=>.eq I ?_;have q1:(decide ((j:Int)>=0)&&decide ((j:Int)<128))=true:=by simp;omega
    rw[cT q1,c4 q1,q1,qp,av j Iw,aS j Iw];refine .cond (λdi=>.ret ?_) λheq=>.ret ⟨by rw[gQ (by omega) (by omega)];omega,λi aq aB aV=>?_⟩
    ·simp only[Sum.elim_inr];refine .ret ?_;refine(pN.2 λn1=>?_).symm;have:=lk.1 n1 j (lF.2 Iw);have an:lead (hG key) m.er j=true:=by unfold lead;simp;omega
     rw[an]at this;simp at this di;exact di this
    by_cases gh:i=j
    ·subst gh;simpa using heq
    exact hs i aq aB (by omega)
   have ku:(decide (hG key-m.er+(r:Int)>=0)&&decide (hG key-m.er+(r:Int)<128))=false:=by simp;omega
   refine .b1 (P:=λ_=>True) (λh=>by rw[ku]at h;cases h) λaJ _=>.b1 (P:=λ_=>True) (λh=>by rw[ku]at h;cases h) λbx _=>.eq rfl ?_;rw[ku,Bool.false_and];refine .cond (λh=>by cases h) λ_=>.ret ⟨by rw[gQ (by omega) (by omega)];omega,λi aq aB aV=>hs i aq aB (by omega)⟩
  obtain⟨rfl,hs⟩:=hs;have oL:decide (hG key-m.er+(m.er.toNat:Int)<hG key)=false:=by simp;omega
  rw[oL];refine⟨_,rfl,?_⟩;simp only[Sum.elim_inl];refine .ret ?_;refine(lk.2 λj aC=>?_).symm;have pA:=lF.1 aC;cases an:lead (hG key) m.er j
  ·rfl
  unfold lead at an;simp only[gm,e2]at an;have:=hs j pA (by omega) (by omega);simp[this]
 ·rw[bf (by simpa using h1),bf (by simpa using ad),bh (by simpa using aB)];refine(ah0 _ _).bind λy aR=>.ret ?_;rw[aR]
 have jw:key.dQ=4:=by simp only[Fp]at h1 ad aB;omega
 rw[bf (by simpa using h1),bf (by simpa using ad),bf (by simpa using aB)];refine .cond (λ_=>?_) λh=>by rw[jw]at h;cases h
 refine(Lt _ _).bind λcd ⟨bX,a2⟩=>.b1 (P:=λr=>(r>0↔l2 m.lr x=true)∧(r<0↔l2 x m.lr=true)) (λ_=>Lt _ _) λcj bq=>.ret ?_;have et:decide (cd<=0)= !l2 x m.cc:=by
  rw[kQ,e2,r1,<-jk,<-bX];omega
 rw[et];cases au:l2 x m.cc
 ·rw[et,au]at bq;obtain⟨dL,eF⟩:=bq I;simp only[KY,qp];rw[kQ,e2,r1,<-jk,<-dL];omega
 simp
def mt(s:aZ)(k:Nat)(p:Vector aN 4)(e:bl):Bool:=
 (List.range (ax s.bK k).cn.length).all λi=>na (ax (ax s.bK k).cn i).dQ (hG (ax (ax s.bK k).cn i)) (ax e.bP i) (bE p i)
def ahl{s:aZ}(h:b7 s){key:dD}(hk:nv key):Hc s key=some (hG key):=by
 obtain⟨j,aC,aW,_⟩:=hk;refine a8.get ?_;unfold Hc;rw[aW];refine(Ws h aC).bind λr aG=>?_;subst aG;rw[show decide ((j:Int)<0)=false from sT (by omega),cond_false];refine .idx I (by have:=h.vI;omega) (.ret ?_);rw[(h.xq aC).2,Ss aW]
def Xd{s:aZ}(h:b7 s){k:Nat}(hk:k<4){e:bl}(he:e.bG=(k:Int)+1):Dl s e=some (ax s.bK k,true):=by
 refine a8.get ?_;unfold Dl;rw[he];refine(PK h hk).bind λr aG=>?_;subst aG;rw[show decide ((k:Int)<0)=false from sT (by omega),cond_false];exact .idx I (by have:=h.lN;omega) (.ret I)
def Zj{n i:Nat}{f:Nat->Bool}(h:∀c,c<n->f c=true)(aM:i=n):(List.range i).all f=true:=by
 subst aM;exact lk.2 λc ag=>h c (lF.1 ag)
def Zk{n i:Nat}{f:Nat->Bool}(aq:i<n)(h:f i=false):(List.range n).all f=false:=by
 rw[pN];intro h1;have:=lk.1 h1 i (lF.2 aq);rw[h]at this;cases this
def agL{s:aZ}(h:b7 s){k:Nat}(hk:k<4){e:bl}(he:fE s k e)(p:Vector aN 4):Dc s e p=some (mt s k p e):=by
 obtain⟨t1,⟨t2,t3⟩,t4,_⟩:=h.fF hk;refine a8.get ?_;unfold Dc mt;refine .eq (Xd h hk he.fF) (.cond (λh=>by cases h) λ_=>?_);have hm:=he.len;simp only;refine a8.loop (ax s.bK k).cn.length (λi st=>st=(i:Int)∧∀c,c<i->na (ax (ax s.bK k).cn c).dQ (hG (ax (ax s.bK k).cn c)) (ax e.bP c) (bE p c)=true) (by omega) ⟨rfl,λc ag=>by omega⟩ (λi st aq hs=>?_) (λst hs=>?_)
 ·obtain⟨rfl,hs⟩:=hs;have qb:nv (ax (ax s.bK k).cn i):=t4 _ (by rw[dz _ aq];exact j0 aq);refine .cond (λ_=>?_) (λh=>by simp at h;omega);refine .idx I aq ?_;have ku:(decide ((i:Int)>=(e.bP.length:Int))||decide ((i:Int)>=4))=false:=by simp;omega
  rw[ku];refine .b1 (P:=λc=>c=i) (λ_=>⟨i,kS (by omega),rfl⟩) λbx aS=>.b1 (P:=λc=>c=hG (ax (ax s.bK k).cn i)) (λ_=>⟨_,ahl h qb,rfl⟩) λaF cM=>.b1 (P:=λc=>c=i) (λ_=>⟨i,kS (by omega),rfl⟩) λcB eW=>?_;rw[aS I,cM I,eW I];refine .b1 (P:=λc=>c=na (ax (ax s.bK k).cn i).dQ (hG (ax (ax s.bK k).cn i)) (ax e.bP i) (bE p i)) (λ_=>⟨_,ahj qb _ _,rfl⟩) λbg jY=>.eq I ?_;rw[jY I,r3];refine .cond (λaM=>.ret ?_) λaR=>.ret ⟨dB (by omega),λc ag=>?_⟩
  ·simp only[Sum.elim_inr];exact .ret (Zk aq (by simpa using aM)).symm
  by_cases TX:c=i
  ·subst TX;simpa using aR
  exact hs c (by omega)
 obtain⟨rfl,hs⟩:=hs;rw[show decide (((ax s.bK k).cn.length:Int)<((ax s.bK k).cn.length:Int))=false by simp];refine⟨_,rfl,?_⟩;simp only[Sum.elim_inl];exact .ret (Zj hs I).symm
def agM{s:aZ}(h:b7 s){k:Nat}(hk:k<4){e:bl}(he:fE s k e)(p:Vector aN 4):G7 s e p=some (mt s k p e):=by
 obtain⟨t1,⟨t2,t3⟩,t4,_⟩:=h.fF hk;refine a8.get ?_;unfold G7 mt;rw[he.fF];refine(PL h hk).bind λr aG=>?_;subst aG;refine .idx I (by have:=h.lN;omega) ?_;have hm:=he.len;refine a8.loop (ax s.bK k).cn.length (λi st=>st=(i:Int)∧∀c,c<i->na (ax (ax s.bK k).cn c).dQ (hG (ax (ax s.bK k).cn c)) (ax e.bP c) (bE p c)=true) (by omega) ⟨rfl,λc ag=>by omega⟩ (λi st aq hs=>?_) (λst hs=>?_)
 ·obtain⟨rfl,hs⟩:=hs;have qb:nv (ax (ax s.bK k).cn i):=t4 _ (by rw[dz _ aq];exact j0 aq);refine .cond (λ_=>?_) (λh=>by simp at h;omega);refine .idx I aq (.idx I (by omega) ((ahg h aq qb).bind λaF cM=>.idx I (by omega) ?_));rw[cM];refine .eq (ahk qb (he.xu i aq) _) (.cond (λaM=>.ret ?_) λaR=>.ret ⟨dB (by omega),λc ag=>?_⟩)
  ·simp only[Sum.elim_inr];exact .ret (Zk aq (by simpa using aM)).symm
  by_cases TX:c=i
  ·subst TX;simpa using aR
  exact hs c (by omega)
 obtain⟨rfl,hs⟩:=hs;rw[show decide (((ax s.bK k).cn.length:Int)<((ax s.bK k).cn.length:Int))=false by simp];refine⟨_,rfl,?_⟩;simp only[Sum.elim_inl];exact .ret (Zj hs I).symm
def xv:aa dD->aa cG->Int
 |key::ks,m::ms=>if key.dQ=2 then m.er else xv ks ms
 |_,_=>0
def Mt:∀{ks:aa dD} {ms:aa cG} {i:Nat},ms.length=ks.length->i<ks.length->(ax ks i).dQ=2->(∀j,j<i->(ax ks j).dQ≠2)->xv ks ms=(ax ms i).er
 |[],_,i,_,aq,_,_=>by simp at aq
 |key::ks,[],i,an,_,_,_=>by simp at an
 | key::ks,m::ms,0,_,_,ad,_=>by
   have:(ax (key::ks) 0)=key:=rfl;rw[this]at ad;unfold xv;rw[bh ad];rfl
 | key::ks,m::ms,i+1,an,aq,ad,aM=>by
   have bC:=aM 0 (by omega);have:(ax (key::ks) 0)=key:=rfl;rw[this]at bC;unfold xv;rw[bf bC];have bu:∀{β:Type} [Inhabited β] (x:β) (l:aa β) (n:Nat),ax (x::l) (n+1)=ax l n:=λx l n=>by simp[ax]
   rw[bu]at ad⊢;exact Mt (by simpa using an) (by simpa using aq) ad λj aC=>by have:=aM (j+1) (by omega);rwa[bu]at this
def RH:∀{ks:aa dD} {ms:aa cG},(∀key∈ks,key.dQ≠2)->xv ks ms=0
 |[],_,_=>by unfold xv;rfl
 |key::ks,[],_=>by unfold xv;rfl
 | key::ks,m::ms,aM=>by
   unfold xv;rw[bf (aM key (by simp))];exact RH λk hk=>aM k (by simp[hk])
def ji(s:aZ)(k:Nat)(e:bl):Int:=xv (ax s.bK k).cn e.bP
def WN{s:aZ}(h:b7 s){k:Nat}(hk:k<4){e:bl}(he:fE s k e):Di s e=some (ji s k e):=by
 obtain⟨t1,⟨t2,t3⟩,t4,_⟩:=h.fF hk;have hm:=he.len;refine a8.get ?_;unfold Di ji;refine .eq (Xd h hk he.fF) ?_;simp only;refine(afT (g:=λkey=>key.dQ==2) (λx au=>rfl) (by omega)).bind λr aG=>.eq I ?_;rcases aG with⟨rfl,aG⟩|⟨i,h1,rfl,aB,aV⟩
 ·refine .cond (λ_=>.ret ?_) (λh=>by simp at h);rw[RH λkey k8=>by simpa using aG key k8]
 have bV:(!true||decide ((i:Int)<0)||decide ((i:Int)>=(e.bP.length:Int)))=false:=by simp;omega
 rw[bV,cond_false];refine .idx I (by omega) (.ret ?_);rw[Mt hm h1 (by simpa using aB) λj aC=>by simpa using aV j aC]
def WO{s:aZ}(h:b7 s){k:Nat}(hk:k<4){e:bl}(he:fE s k e):Dj s e=some (ji s k e):=by
 obtain⟨t1,⟨t2,t3⟩,t4,_⟩:=h.fF hk;have hm:=he.len;refine a8.get ?_;unfold Dj ji;rw[he.fF];refine(PL h hk).bind λr aG=>?_;subst aG;rw[show decide ((k:Int)<0)=false from sT (by omega),cond_false];refine .idx I (by have:=h.lN;omega) ?_;refine a8.loop (ax s.bK k).cn.length (λi st=>st=(i:Int)∧∀j,j<i->(ax (ax s.bK k).cn j).dQ≠2) (by omega) ⟨rfl,λj aC=>by omega⟩ (λi st aq hs=>?_) (λst hs=>?_)
 ·obtain⟨rfl,hs⟩:=hs;refine .cond (λ_=>?_) (λh=>by simp at h;omega);refine .idx I aq (.eq I (.cond (λag=>?_) λag=>.ret ⟨dB (by omega),λj aC=>?_⟩))
  ·simp only[gm,ni]at ag;refine .idx I (by omega) (.ret ?_);simp only[Sum.elim_inr];exact .ret (Mt hm aq ag.1 hs).symm
  by_cases jN:j=i
  ·subst jN;have hd:decide ((j:Int)<(e.bP.length:Int))=true:=by simp;omega
   rw[hd,zV]at ag;simpa using ag
  exact hs j (by omega)
 obtain⟨rfl,hs⟩:=hs;rw[show decide (((ax s.bK k).cn.length:Int)<((ax s.bK k).cn.length:Int))=false by simp];refine⟨_,rfl,?_⟩;simp only[Sum.elim_inl];refine .ret (RH λkey k8=>?_).symm;obtain⟨j,aC,rfl⟩:=xK.1 k8;rw[<-dz _ aC];exact hs j aC
def eS(s:aZ)(k:Nat)(a c:aH):Bool:=
 decide (c.aX.gI<a.aX.gI∨(a.aX.gI=c.aX.gI∧(ji s k c.aX<ji s k a.aX∨(ji s k a.aX=ji s k c.aX∧c.b0<a.b0))))
def uj(s:aZ)(k:Nat):uS (eS s k)where
 asymm x y h:=by
  unfold eS at *;rw[e2]at h;rw[nP];omega
 trans x y z h cU:=by
  unfold eS at *;rw[e2]at *;omega
def aly{s:aZ}{k:Nat}{a c:aH}(h:a.b0≠c.b0):BS (eS s k) a c:=by
 unfold BS eS;rw[e2,e2];omega
def eP(x y:Int):Int:=if x<y then -1 else if y<x then 1 else 0
def wQ(x y:Int):rb x y=some (eP x y):=by
 unfold rb G1 eP;have:∀z:Int,(z !=z)=false:=λz=>by simp
 rw[this,this];simp only[Option.bind_some,cond_false];by_cases h1:x<y
 ·simp[h1]
 by_cases ad:y<x
 ·simp[h1,ad]
 simp[h1,ad]
def ai6(a c d:Int):wq [a,c,d]=some (if a≠0 then a else if c≠0 then c else d):=by
 refine a8.get ?_;unfold wq;refine a8.loop 3 (λi st=>st=(i:Int)∧∀j,j<i->ax [a,c,d] j=0) (by omega) ⟨rfl,λj aC=>by omega⟩ (λi st aq hs=>?_) (λst hs=>?_)
 ·obtain⟨rfl,hs⟩:=hs;refine .cond (λ_=>?_) (λh=>by simp at h;omega);refine .idx I (by simpa using aq) (.cond (λag=>.ret ?_) λag=>.ret ⟨dB (by omega),λj aC=>?_⟩)
  ·simp only[Sum.elim_inr];refine .ret ?_;have bC:=hs 0;have h1:=hs 1;rcases (show i=0∨i=1∨i=2 by omega)with rfl|rfl|rfl
   ·have:a≠0:=by simpa[ax]using ag
    rw[bh this];rfl
   ·have:c≠0:=by simpa[ax]using ag
    have TY:a=0:=by simpa[ax]using bC (by omega)
    rw[bf (by simpa using TY),bh this];rfl
   have TY:a=0:=by simpa[ax]using bC (by omega)
   have asL:c=0:=by simpa[ax]using h1 (by omega)
   rw[bf (by simpa using TY),bf (by simpa using asL)];rfl
  by_cases jN:j=i
  ·subst jN;simpa using ag
  exact hs j (by omega)
 obtain⟨rfl,hs⟩:=hs;refine⟨_,rfl,?_⟩;simp only[Sum.elim_inl];refine .ret ?_;have bC:a=0:=by simpa[ax]using hs 0 (by omega)
 have h1:c=0:=by simpa[ax]using hs 1 (by omega)
 have ad:d=0:=by simpa[ax]using hs 2 (by omega)
 simp[bC,h1,ad]
def Xe{s:aZ}(h:b7 s){k:Nat}(hk:k<4){a c:aH}(aY:fE s k a.aX)(ag:fE s k c.aX):Dn s a c=some (eS s k a c):=by
 unfold Dn eS;rw[wQ,Option.bind_some,WN h hk aY,Option.bind_some,WN h hk ag,Option.bind_some,wQ,Option.bind_some,wQ,Option.bind_some,ai6,Option.bind_some];congr 1;rw[q7];unfold eP;split <;> split <;> (repeat' split) <;> omega
def ah6{s:aZ}(h:b7 s){k:Nat}(hk:k<4){a c:aH}(aY:fE s k a.aX)(ag:fE s k c.aX):Hj s a c=some (eS s k a c):=by
 refine a8.get ?_;unfold Hj eS;refine .cond (λh1=>.ret ?_) λh1=>.eq (WO h hk aY) (.eq (WO h hk ag) (.cond (λad=>.ret ?_) λad=>.ret ?_))
 ·rw[q7];simp at h1;omega
 ·rw[q7];simp at h1 ad;omega
 rw[q7];simp at h1 ad;omega
def aei{xs:aa aH}{f:aH->aE Bool}{g:aH->Bool}(aW:∀x∈xs,f x=some (g x))(an:xs.length<2^62):
 a8 (zx xs f) (λr=>(r= -1∧∀x∈xs,g x=false)∨∃i:Nat,i<xs.length∧r=i∧g (ax xs i)=true∧∀j,j<i->g (ax xs j)=false):=by
 unfold zx
 refine a8.loop xs.length (λk s=>s=(k:Int)∧∀j,j<k->g (ax xs j)=false) (by omega) ⟨rfl,λj aC=>by omega⟩ (λk s hk aq=>?_) (λs aq=>?_)
 ·obtain⟨av,aS⟩:=aq;subst av
  refine a8.cond (λ_=>?_) (λh=>by simp at h;omega)
  refine .idx I hk (.eq (aW _ (by rw[dz xs hk];exact j0 hk)) (.cond (λh=>.ret ?_) (λh=>.ret ⟨dB (by omega),λj aC=>?_⟩)))
  ·exact .ret (.inr ⟨k,hk,rfl,h,aS⟩)
  by_cases uR:j=k
  ·subst uR;exact h
  exact aS j (by omega)
 obtain⟨av,aS⟩:=aq;subst av
 refine⟨_,by simp;rfl,?_⟩
 refine .ret (.inl ⟨rfl,λx au=>?_⟩)
 obtain⟨j,aC,rfl⟩:=xK.1 au
 rw[<-dz xs aC];exact aS j aC
structure kq(s:aZ)(k:Nat)(i:aH):Prop where
 dr:fE s k i.aX
def akv{i:aH}(h1:i.aX.bP.length<=1000)(ad:i.aX.fM.length<=1000):rf i=some i:=by
 unfold rf Lp Ky Kz;rw[gz _ _ (by simp;omega) (by omega),gz _ _ (by simp;omega) (by omega)];rfl
def DU{s:aZ}(h:b7 s){k:Nat}(hk:k<4){i:aH}(aq:kq s k i):rf i=some i:=by
 have h1:=aq.dr.len;have ad:=aq.dr.args;have aB:=(h.fF hk).2.1.2;exact akv (by omega) (by omega)
def j7(l:aa aH)(n:Int):Bool:=l.any λc=>c.b0==n
def aaR(x:eh)(n:Int)(an:x.cz.length<=1000):a8 ((zx x.cz (λa0=>zI a0 n)).bind λao=>some ao) (λr=>(r= -1∧j7 x.cz n=false)∨∃i:Nat,i<x.cz.length∧r=i∧(ax x.cz i).b0=n∧j7 x.cz n=true∧∀j,j<i->(ax x.cz j).b0≠n):=by
 refine(aei (g:=λc=>c.b0==n) (λc ag=>rfl) (by omega)).bind λr aG=>.ret ?_;rcases aG with⟨h1,ad⟩|⟨i,h1,ad,aB,aV⟩
 ·exact .inl ⟨h1,by unfold j7;rw[wc];exact λc ag=>by simp[ad c ag]⟩
 refine .inr ⟨i,h1,ad,by simpa using aB,?_,λj aC=>by simpa using aV j aC⟩;unfold j7;rw[oo];exact⟨ax x.cz i,by rw[dz _ h1];exact j0 _,aB⟩
def ai7{s:aZ}(h:b7 s){k:Nat}(hk:k<4){x:eh}(au:x.mh=s){a c:aH}(aY:kq s k a)(ag:kq s k c):
 a8 (Cw x a c) (λr=>r<0↔eS s k a c=true):=by
 unfold Cw
 rw[au]
 refine .eq (Xe h hk aY.dr ag.dr) (.cond (λhb=>.ret ⟨λ_=>hb,λ_=>by omega⟩) λhb=>.eq (Xe h hk ag.dr aY.dr) (.cond (λ_=>.ret ?_) λ_=>.ret ?_))
 ·rw[hb];simp
 rw[hb];simp
def alz{i j:Nat}(h:i+j<2^62):bm ((BitVec.ofInt 64 (bm ((i:Int)+(j:Int)))) >>> (1#64).toNat).toNat=(((i+j)/2:Nat):Int):=by
 rw[show(i:Int)+(j:Int)=((i+j:Nat):Int) by omega,gQ (x:=((i+j:Nat):Int)) (by omega) (by omega)];have:((BitVec.ofInt 64 ((i+j:Nat):Int)) >>> (1#64).toNat).toNat=(i+j)/2:=by
  rw[Ko,s8 (by omega)];rw[show(1#64).toNat=1 from rfl,Km,Nat.pow_one]
 rw[this,gQ (by omega) (by omega)]
def ah7{l:aa aH}{x:aH}{b:aH->aH->Bool}(hb:uS b)(hs:l.Pairwise (λx y=>b x y=true))(an:l.length<=1000)
 {f:aH->aH->aE Int} (aW:∀a∈l,a8 (f a x) (λr=>r<0↔b a x=true)):
 a8 (E8 l x f) (λr=>r.1=(l3 b l x:Int)):=by
 unfold E8
 have e7:=RF (b:=b) (l:=l) (x:=x)
 have yH:∀h,h<l.length->ax l h∈l:=λh bT=>by rw[dz _ bT];exact j0 _
 have oL:∀q:Bool,a8 ((b1 (decide (((l3 b l x:Nat):Int)<(l.length:Int))) true (idx l.length ((l3 b l x:Nat):Int))).bind λbx=>
  (b1 (decide (((l3 b l x:Nat):Int)<(l.length:Int))) true (f (ax l bx) x)).bind λaF=>some (((l3 b l x:Nat):Int),(decide (((l3 b l x:Nat):Int)<(l.length:Int)))&&(aF==0))) (λr=>r.1=(l3 b l x:Int)):=λ_=>by
  refine .b1 (P:=λc=>c=l3 b l x) (λh=>⟨_,kS (by simpa using h),rfl⟩) λbx ad=>.b1 (P:=λ_=>True) (λh=>?_) λaF _=>.ret I
  rw[ad h]
  exact(aW _ (yH _ (by simpa using h))).mono λ_ _=>trivial
 refine a8.loop l.length (λr st=> ∃i j:Nat,st=((i:Int),(j:Int))∧i<=l3 b l x∧l3 b l x<=j∧j<=l.length∧j-i<=l.length-r) (by omega) ⟨0,l.length,rfl,by omega,by omega,by omega,by omega⟩ (λr st aG b5=>?_) (λst b5=>?_)
 ·obtain⟨i,j,rfl,h1,ad,aB,aV⟩:=b5
  refine .cond (λag=>?_) λag=>.ret ?_
  ·have gh:i<j:=by simpa using ag
   rw[alz (by omega)]
   have hm:(i+j)/2<l.length:=by omega
   refine .idx I hm ((aW _ (yH _ hm)).bind λao bs=>?_)
   have b9:=RG hb (x:=x) hs hm
   refine .bind (P:=λm=> ∃i j:Nat,m=((i:Int),(j:Int))∧i<=l3 b l x∧l3 b l x<=j∧j<=l.length∧j-i<=l.length-(r+1)) (.cond (λaR=>.eq I (.ret ?_)) λaR=>.ret ?_) λm hm=>.ret ?_
   ·have:=b9.1 (bs.1 (by simpa using aR))
    refine⟨(i+j)/2+1,j,?_,by omega,ad,aB,by omega⟩
    simp only[dB (show(i+j)/2<2^62 by omega)]
   ·have: ¬(i+j)/2<l3 b l x:=λbT=>by
     have:=bs.2 (b9.2 bT);simp at aR;omega
    exact⟨i,(i+j)/2,rfl,h1,by omega,by omega,by omega⟩
   obtain⟨sL,pI,rfl,ba⟩:=hm
   exact⟨sL,pI,rfl,ba⟩
  have gh: ¬i<j:=by simpa using ag
  have:i=l3 b l x:=by omega
  subst this
  exact oL true
 obtain⟨i,j,rfl,h1,ad,aB,aV⟩:=b5
 have gh:i=l3 b l x:=by omega
 have ag:decide ((i:Int)<(j:Int))=false:=by simp;omega
 simp only[ag,cond_false]
 refine⟨_,rfl,?_⟩
 subst gh
 exact oL true
structure kr(s:aZ)(k:Nat)(l:List aH):Prop where
 ok:∀i∈l,kq s k i
 num:l.Pairwise λa c=>a.b0≠c.b0
 len:l.length<=900
def kr.ze{s:aZ}{k:Nat}{l:aa aH}(h:kr s k l):xa (eS s k) l:=h.num.imp λbT=>aly bT
def kr.eX{s:aZ}{k:Nat}{l:aa aH}(h:kr s k l):(∀i∈eX (eS s k) l,kq s k i)∧(eX (eS s k) l).length<=900:=
 ⟨λi aq=>h.ok i (rr.1 aq),by rw[alx];exact h.len⟩
def L8{s:aZ}{k:Nat}{l:aa aH}{n:Int}:j7 (eX (eS s k) l) n=j7 l n:=by
 unfold j7;rw[kQ,oo,oo];exact⟨λ⟨c,h1,ad⟩=>⟨c,rr.1 h1,ad⟩,λ⟨c,h1,ad⟩=>⟨c,rr.2 h1,ad⟩⟩
def YI{l:aa aH}{n:Int}(h:j7 l n=false):∀c∈l,c.b0≠n:=λc ag=>by
 unfold j7 at h;rw[wc]at h;simpa using h c ag
def kr.snoc{s:aZ}{k:Nat}{l:aa aH}(h:kr s k l){i:aH}(aq:kq s k i)(aM:j7 l i.b0=false)(an:l.length<900):kr s k (l++[i])where
 ok c ag:=by
  rcases cF.1 ag with ag|ag
  ·exact h.ok c ag
  rw[hT.1 ag];exact aq
 num:=by
  rw[wa];exact⟨h.num,by simp,λa aY c ag=>by rw[hT.1 ag];exact YI aM a aY⟩
 len:=by simp;omega
def rB(s:aZ)(k:Nat)(l:aa aH):eh:= {mh:=s,cz:=eX (eS s k) l}
def alA{s:aZ}(h:b7 s){k:Nat}(hk:k<4){l:aa aH}(an:kr s k l){i:aH}(aq:kq s k i)(hlen:l.length<900):
 FT (rB s k l) i=some (!j7 l i.b0,if j7 l i.b0=true then rB s k l else rB s k (l++[i])):=by
 refine a8.get ?_
 unfold FT
 obtain⟨ky,hg⟩:=an.eX
 refine .b1 (λ_=>aaR (rB s k l) _ (by show(eX _ l).length<=1000;omega)) λao h1=>?_
 have h1:=h1 I
 rw[r3]
 rcases h1 with⟨rfl,ad⟩|⟨j,ad,rfl,aB,aV,ba⟩
 ·have l0:j7 l i.b0=false:=by rw[<-ad];exact L8.symm
  refine .cond (λag=>by simp at ag) λ_=>?_
  refine(ah7 (b:=eS s k) (uj s k) (HH (uj s k) an.ze) (by omega) λa aY=>ai7 h hk I (ky a aY) aq).bind λaF b2=>.eq (DU h hk aq) ?_
  rw[b2]
  unfold Kk
  have e7:=RF (b:=eS s k) (l:=eX (eS s k) l) (x:=i)
  refine .eq (a:=eX (eS s k) (l++[i])) ?_ (.ret ?_)
  ·show IL 88 (eX (eS s k) l) _ _=_
   unfold IL
   have uG:maxLen=9223372036854775807:=rfl
   rw[bh ⟨by omega,by omega,by simp,by simp <;> omega,by simp <;> omega⟩,H2,Zi]
   simp
  rw[l0];rfl
 have ES:j7 l i.b0=true:=by rw[<-aV];exact L8.symm
 refine .cond (λ_=>.ret ?_) λag=>by simp at ag <;> omega
 rw[ES];rfl
def ah8{s:aZ}(h:b7 s){k:Nat}(hk:k<4){l:aa aH}(an:kr s k l)(p:Vector aN 4):
 Co (rB s k l) p=some (match (eX (eS s k) l).find? (λc=>mt s k p c.aX)with |some c=>(c,true)|none=>(default,false)):=by
 refine a8.get ?_
 obtain⟨ky,hg⟩:=an.eX
 unfold Co
 refine .eq (a:=p) I ?_
 unfold E9
 have Jt:∀i (aq:i<(eX (eS s k) l).length),Dc s (ax (eX (eS s k) l) i).aX p=some (mt s k p (ax (eX (eS s k) l) i).aX)∧rf (ax (eX (eS s k) l) i)=some (ax (eX (eS s k) l) i):=λi aq=>by
  have hm:=ky (ax (eX (eS s k) l) i) (by rw[dz _ aq];exact j0 _);exact⟨agL h hk hm.dr p,DU h hk hm⟩
 show a8 ((Option.bind (Option.bind (dh c9 _ _) _) _)) _
 rw[Option.bind_assoc]
 refine a8.loop (eX (eS s k) l).length (λi st=>st=((i:Int),())∧∀j,j<i->mt s k p (ax (eX (eS s k) l) j).aX=false) (by omega) ⟨rfl,λj aC=>by omega⟩ (λi st aq hs=>?_) (λst hs=>?_)
 ·obtain⟨rfl,hs⟩:=hs
  obtain⟨g1,g2⟩:=Jt i aq
  refine .cond (λ_=>?_) (λag=>by simp[rB]at ag;omega)
  refine .idx I aq (.eq g1 (.cond (λhm=>.eq (a:=(Sum.inr (true,ax (eX (eS s k) l) i):Unit⊕(Bool×aH))) (by show Option.bind (rf (ax (eX (eS s k) l) i)) _=_;rw[g2];rfl) (.ret ?_)) λhm=>.ret ⟨?_,λj aC=>?_⟩))
  ·refine .ret ?_
   rw[QJ (xs:=eX (eS s k) l) (p:=λc=>mt s k p c.aX) aq hm hs]
  ·rw[dB (by omega)]
  by_cases jN:j=i
  ·subst jN;exact hm
  exact hs j (by omega)
 obtain⟨rfl,hs⟩:=hs
 have ag:decide (((eX (eS s k) l).length:Int)<((rB s k l).cz.length:Int))=false:=by simp[rB]
 simp only[ag,cond_false]
 refine⟨_,rfl,.ret ?_⟩
 rw[QK λc ag=>?_]
 obtain⟨j,aC,rfl⟩:=xK.1 ag
 rw[<-dz _ aC];exact hs j aC
def ahm{s:aZ}(h:b7 s){k:Nat}(hk:k<4){l:aa aH}(an:∀i∈l,kq s k i)(aM:l.length<=1000):Dq l=some l:=by
 refine a8.get ?_;unfold Dq;refine a8.loop l.length (λi st=>st=((i:Int),l.take i)) (by omega) I (λi st aq hs=>?_) (λst hs=>?_)
 ·subst hs;refine .cond (λ_=>?_) (λag=>by simp at ag;omega);refine .idx I aq (.eq (DU h hk (an _ (by rw[dz _ aq];exact j0 _))) (.eq (gz _ _ (by simp;omega) (by omega)) (.ret ?_)));rw[dB (by omega),mK l aq]
 subst hs;refine⟨_,by simp;rfl,.ret ?_⟩;simp
def alB{s:aZ}(h:b7 s){k:Nat}(hk:k<4){l:aa aH}(an:kr s k l):FQ (rB s k l)=some (eX (eS s k) l):=by
 unfold FQ;obtain⟨ky,hg⟩:=an.eX;show Option.bind (Dq (eX (eS s k) l)) _=_;rw[ahm h hk ky (by omega)];rfl
def LJ(v:aN):rh v v=some 0:=by
 obtain⟨r,h1,ad,aB⟩:=Lt v v;rw[Ao]at ad aB;have:r=0:=by
  have bX: ¬r>0:=λh=>by simpa using ad.1 h
  have a2: ¬r<0:=λh=>by simpa using aB.1 h
  omega
 rw[h1,this]
def agN(m:cG):Ad m m=some 0:=by
 unfold Ad;rw[LJ,LJ,LJ];simp
def HI(n:Int):r4 n n=some 0:=by
 unfold r4;simp
def agm(l:aa cG)(an:l.length<=1000):x0 l l=some 0:=by
 refine a8.get ?_;unfold x0;refine a8.loop l.length (λi st=>st=(i:Int)) (by omega) I (λi st aq hs=>?_) (λst hs=>?_)
 ·subst hs;refine .cond (λ_=>?_) (λag=>by simp at ag;omega);exact .idx I aq (.idx I aq (.eq (agN _) (.cond (λag=>by simp at ag) λ_=>.ret (dB (by omega)))))
 subst hs;refine⟨_,by simp;rfl,?_⟩;simp only[Sum.elim_inl];exact .eq (HI _) (.ret I)
def agv(l:aa aN)(an:l.length<=1000):Aa l l=some 0:=by
 refine a8.get ?_;unfold Aa;refine a8.loop l.length (λi st=>st=(i:Int)) (by omega) I (λi st aq hs=>?_) (λst hs=>?_)
 ·subst hs;refine .cond (λ_=>?_) (λag=>by simp at ag;omega);exact .idx I aq (.idx I aq (.eq (LJ _) (.cond (λag=>by simp at ag) λ_=>.ret (dB (by omega)))))
 subst hs;refine⟨_,by simp;rfl,?_⟩;simp only[Sum.elim_inl];exact .eq (HI _) (.ret I)
def ah9{e:bl}(h1:e.bP.length<=1000)(ad:e.fM.length<=1000):wm e e=some 0:=by
 unfold wm;rw[HI,Option.bind_some,HI,Option.bind_some,agm _ h1,Option.bind_some,HI,Option.bind_some];refine a8.get ?_;refine a8.loop 4 (λi st=>st=(i:Int)) (by omega) I (λi st aq hs=>?_) (λst hs=>?_)
 ·subst hs;refine .cond (λ_=>?_) (λag=>by simp at ag;omega);have bC:ax [(0:Int),0,0,0] i=0:=by
   rcases (show i=0∨i=1∨i=2∨i=3 by omega)with rfl|rfl|rfl|rfl <;> rfl
  refine .idx I (by simpa using aq) (.cond (λag=>by rw[bC]at ag;simp at ag) λ_=>.ret (dB (by omega)))
 subst hs;refine⟨_,rfl,?_⟩;simp only[Sum.elim_inl];exact .eq (agv _ ad) (.ret I)
def P2{i:aH}(h1:i.aX.bP.length<=1000)(ad:i.aX.fM.length<=1000):wu i i=some true:=by
 unfold wu Li;rw[ah9 h1 ad];simp
def kq.small{s:aZ}(h:b7 s){k:Nat}(hk:k<4){i:aH}(aq:kq s k i):i.aX.bP.length<=1000∧i.aX.fM.length<=1000:=by
 have h1:=aq.dr.len;have ad:=aq.dr.args;have aB:=(h.fF hk).2.1.2;exact⟨by omega,by omega⟩
def Lk{l:aa aH}(an:∀i∈l,i.aX.bP.length<=1000∧i.aX.fM.length<=1000)(aM:l.length<=1000):z8 l l=some true:=by
 refine a8.get ?_;unfold z8;refine .cond (λag=>by simp at ag) λ_=>?_;refine a8.loop l.length (λi st=>st=(i:Int)) (by omega) I (λi st aq hs=>?_) (λst hs=>?_)
 ·subst hs;refine .cond (λ_=>?_) (λag=>by simp at ag;omega);have:=an (ax l i) (by rw[dz _ aq];exact j0 _);exact .idx I aq (.idx I aq (.eq (P2 this.1 this.2) (.cond (λag=>by simp at ag) λ_=>.ret (dB (by omega)))))
 subst hs;refine⟨_,by simp;rfl,?_⟩;simp only[Sum.elim_inl];exact .ret I
def jg(o:aE aH):aH×Bool:=match o with |some c=>(c,true)|none=>(default,false)
def akw{s:aZ}(h:b7 s){k:Nat}(hk:k<4){l:aa aH}(an:kr s k l)(p:Vector aN 4):
 Hr s l p=some (jg ((eX (eS s k) l).find? (λc=>mt s k p c.aX))):=by
 refine a8.get ?_
 unfold Hr
 have hlen:=an.len
 refine a8.loop l.length (λi st=>st=((jg ((eX (eS s k) (l.take i)).find? (λc=>mt s k p c.aX))).2,(i:Int),(jg ((eX (eS s k) (l.take i)).find? (λc=>mt s k p c.aX))).1)) (by omega) I (λi st aq hs=>?_) (λst hs=>?_)
 ·subst hs
  refine .cond (λ_=>?_) (λag=>by simp at ag;omega)
  have au:kq s k (ax l i):=an.ok _ (by rw[dz _ aq];exact j0 _)
  refine .idx I aq (.eq (agM h hk au.dr p) ?_)
  have NB:xa (eS s k) (l.take (i+1)):=an.ze.sublist (List.take_sublist _ _)
  rw[mK l aq]at NB
  obtain⟨dv,eV⟩:=NB.snoc
  have aW:=XM (uj s k) (p:=λc=>mt s k p c.aX) (x:=ax l i) (HH (uj s k) dv) λa aY=>eV a (rr.1 aY)
  rw[<-H2,<-mK l aq]at aW
  have yH:∀c,(eX (eS s k) (l.take i)).find? (λc=>mt s k p c.aX)=some c->kq s k c:=λc ag=>an.ok c (List.mem_of_mem_take (rr.1 (Ch ag)))
  rw[aW]
  cases hm:mt s k p (ax l i).aX
  ·refine .b1 (P:=λ_=>True) (λag=>by simp at ag) λaF _=>?_
   refine .eq I (.ret ?_)
   simp only[dB (show i<2^62 by omega)]
   simp
  cases asM:(eX (eS s k) (l.take i)).find? (λc=>mt s k p c.aX)with
  | none=>
    refine .b1 (P:=λ_=>True) (λag=>by simp[jg]at ag) λaF _=>?_
    refine .eq (a:=(true,ax l i)) (by simp[jg]) (.ret ?_)
    simp only[dB (show i<2^62 by omega)]
    simp[jg]
  | some c=>
    refine .b1 (P:=λr=>r=eS s k (ax l i) c) (λag=>⟨_,ah6 h hk au.dr (yH c asM).dr,rfl⟩) λaF ad=>?_
    rw[ad (by simp[jg])]
    cases adb:eS s k (ax l i) c
    ·refine .eq (a:=(true,c)) (by simp[jg]) (.ret ?_)
     simp only[dB (show i<2^62 by omega)]
     simp[jg,adb]
    refine .eq (a:=(true,ax l i)) (by simp[jg]) (.ret ?_)
    simp only[dB (show i<2^62 by omega)]
    simp[jg,adb]
 subst hs
 refine⟨_,by simp;rfl,.ret ?_⟩
 simp
def ahn{s:aZ}(h:b7 s){k:Nat}(hk:k<4){l:aa aH}(an:kr s k l)(p:Vector aN 4):
 Co (rB s k l) p=some (jg ((eX (eS s k) l).find? (λc=>mt s k p c.aX))):=by
 rw[ah8 h hk an];unfold jg;cases List.find? (λc=>mt s k p c.aX) (eX (eS s k) l) <;> rfl
def aia{s:aZ}(h:b7 s){k:Nat}(hk:k<4){l:aa aH}(an:∀i∈l,kq s k i)(q:aH->Bool):
 (jg (l.find? q)).1.aX.bP.length<=1000∧(jg (l.find? q)).1.aX.fM.length<=1000:=by
 cases aW:l.find? q with
 |none=>exact⟨vg _,vg _⟩
 |some c=>exact(an c (Ch aW)).small h hk
def XO(c:dM):a8 (Ga c) (λ_=>True):=by
 unfold Ga;first|exact .ret lJ|exact .eq I (.ret lJ)
structure kT(hp:aL Cell)(t:Nat)(g:List Bool->Option Int):Prop where
 ok:∃c,gD hp t=some c∧c.hy=32∧rq hp c.eQ∧∀bd,cont hp c.eQ bd=g bd
def Own(hp:aL Cell)(t q:Nat):Prop:=q=t∨∃c bd,gD hp t=some c∧c3 hp c.eQ bd=some q
def dT(v:aN)(n:Nat):aa Bool:=(List.range n).map λi=>cq v (31-i)
def HD(v:aN)(n:Nat):dT v (n+1)=dT v n++[cq v (31-n)]:=by simp[dT,F8]
def HE(v:aN):dT v 0=[]:=rfl
def Xf{hp:aL Cell}{t:Nat}{c:hW}(ag:gD hp t=some c)(hb:c.hy=32){n:Nat}(aM:n<=32){v:aN}(bc:∀j,j<128->cq v j=true->lead 32 n j=true):
 CT hp (some t) v n=some true:=by
 refine a8.get ?_
 unfold CT
 have av:(Option.isSome (some t)&&decide ((n:Int)>=0))=true:=by simp
 have aS:decide ((n:Int)<=c.hy)=true:=by rw[hb];simp;omega
 refine .b1 (P:=λr=>r=t) (λ_=>⟨t,rfl,rfl⟩) λbz h1=>?_
 rw[h1 av]
 refine .b1 (P:=λr=>r=c) (λ_=>⟨c,ag,rfl⟩) λc1 ad=>?_
 rw[ad av]
 rw[av,aS]
 refine .b1 (P:=λr=>r=t) (λ_=>⟨t,rfl,rfl⟩) λcE aB=>?_
 rw[aB I]
 refine .b1 (P:=λr=>r=c) (λ_=>⟨c,ag,rfl⟩) λc2 aV=>?_
 rw[aV I,hb]
 refine .b1 (λ_=>WJ 32 n (by decide) (by decide)) λao ba=>?_
 refine .b1 (P:=λr=>r=w8 v ao) (λ_=>⟨_,and_eq v ao,rfl⟩) λaF bq=>?_
 refine .eq I (.ret ?_)
 have:aF=v:=by
  rw[bq I];refine Ih λj aC=>?_;rw[DH,ba I j aC];cases e:cq v j with
  |false=>rfl
  |true=>rw[bc j aC e];rfl
 rw[this];simp
def Zl{v:aN}{i:Nat}(aq:i<32):a8 (Aj v (bm ((bm ((32:Int)-1))-(i:Int)))) (λr=>r=cq v (31-i)):=by
 have e:bm ((bm ((32:Int)-1))-(i:Int))=((31-i:Nat):Int):=by
  rw[show bm ((32:Int)-1)=31 from by rw[gQ (by decide) (by decide)];rfl,gQ (by omega) (by omega)];omega
 rw[e];refine(alw v _).mono λr aG=>?_;rw[aG];have:decide (0<=((31-i:Nat):Int)∧((31-i:Nat):Int)<128)=true:=by rw[e2];omega
 rw[this,qp];rfl
def Zm(b:Bool):(cond b (some (1:Int)) (some 0))=some ((gb b:Nat):Int):=by cases b <;> rfl
def St{σ ε:Type}{hp:aL Cell}{t:Nat}{c:hW}(ag:gD hp t=some c)(hb:c.hy=32)(v:aN){n:Nat}(aM:n<=32){step:Int->σ->aE (σ⊕ε)}{cb:σ}{P:σ⊕ε->Prop}(gi:Nat->σ->Prop)(bC:gi 0 cb)
 (hs:∀i s,i<n->gi i s->a8 (step ((gb (cq v (31-i)):Nat):Int) s) (λr=>match r with | .inl cv=>gi (i+1) cv| .inr e=>P (.inr e))) (he:∀s,gi n s->P (.inl s)):a8 (tU hp n v (some t) step cb) P:=by
 unfold tU
 refine a8.loop n (λi s=>s.1=(i:Int)∧gi i s.2) (by omega) ⟨rfl,bC⟩ (λi s aq jx=>?_) (λs jx=>?_)
 ·obtain⟨j,s⟩:=s;obtain⟨av,aS⟩:=jx
  simp only at av aS;subst av
  refine a8.cond (λ_=>?_) (λh=>by simp at h;omega)
  refine .eq I (.eq ag ?_)
  rw[hb]
  refine(Zl (by omega)).bind λao h1=>.eq (Zm ao) ?_
  rw[h1]
  refine(hs i s aq aS).bind λr aG=>?_
  cases r with
  |inl cv=>exact .ret ⟨dB (by omega),aG⟩
  |inr e=>exact .ret (.ret aG)
 obtain⟨j,s⟩:=s;obtain⟨av,aS⟩:=jx
 simp only at av aS;subst av
 refine⟨_,by simp;rfl,?_⟩
 exact .ret (he s aS)
def an8{σ ε:Type}{t:Nat}(v:aN){n:Nat}(aM:n<=32){hq:σ->aL Cell}{step:Int->σ->aj (σ⊕ε)}{cb:σ}{P:σ⊕ε->Prop}(gi:Nat->σ->Prop)(bC:gi 0 cb)(nf:∀i s,gi i s->∃c,gD (hq s) t=some c∧c.hy=32)
 (hs:∀i s,i<n->gi i s->cQ (step ((gb (cq v (31-i)):Nat):Int) s) (λr=>match r with | .inl cv=>gi (i+1) cv| .inr e=>P (.inr e))) (he:∀s,gi n s->P (.inl s)):cQ (zQ n v (some t) hq step cb) P:=by
 unfold zQ
 refine .bind (P:=λe=>match e with | .inl e=>P (.inl e.2.2)| .inr e=>P (.inr e.2.2.2.2.2.2)) (cQ.loop n (λi s=>s.1=(i:Int)∧gi i s.2) (by omega) ⟨rfl,bC⟩ (λi s aq jx=>?_) (λs jx=>?_)) λe h=>?_
 ·obtain⟨j,s⟩:=s;obtain⟨av,aS⟩:=jx
  simp only at av aS;subst av
  refine cQ.cond (λ_=>?_) (λh=>by simp at h;omega)
  obtain⟨c,ag,hb⟩:=nf i s aS
  refine .eq I (.eq ag ?_)
  rw[hb]
  refine .gX (Zl (by omega)) λao h1=>.eq (Zm ao) ?_
  rw[h1]
  refine .bind (hs i s aq aS) λr aG=>?_
  cases r with
  |inl cv=>exact .ret ⟨dB (by omega),aG⟩
  |inr e=>exact .ret aG
 ·obtain⟨j,s⟩:=s;obtain⟨av,aS⟩:=jx
  simp only at av aS;subst av
  refine cQ.cond (λh=>by simp at h) λ_=>.ret (he s aS)
 cases e with
 |inl e=>exact .ret h
 |inr e=>exact .ret h
def XP{hp:aL Cell}{t:Nat}{c:hW}(ag:gD hp t=some c)(hb:c.hy=32)(bD:rq hp c.eQ){n:Nat}(aM:n<=32){v:aN}(bc:∀j,j<128->cq v j=true->lead 32 n j=true):
 C4 hp (some t) v n=some (c3 hp c.eQ (dT v n)):=by
 refine a8.get ?_
 unfold C4
 refine .eq (Xf ag hb aM bc) (.cond (λh=>by cases h) λ_=>.eq rfl (.eq ag (.eq rfl ?_)))
 show a8 (Option.bind (tU hp (n:Int) v (some t) _ _) _) _
 refine a8.bind (P:=λe:Ref⊕(Ref×Ref)=>e.elim (λs=>s=c3 hp c.eQ (dT v n)) (λq=>q.2=c3 hp c.eQ (dT v n))) (St ag hb v aM (λi s=>s=c3 hp c.eQ (dT v i)) o9.symm (λi s aq hs=>?_) (λs hs=>hs)) λe he=>?_
 ·refine .cond (λh=>.ret ?_) λh=>?_
  ·rw[Kn]at h
   have av:dT v n=dT v i++(dT v n).drop i:=by
    have:dT v i=(dT v n).take i:=by unfold dT;rw[<-Pe,O6];congr 2;omega
    rw[this,gw]
   show(none:Ref)=_
   rw[av,oy,<-hs,h,hY]
  cases s with
  |none=>simp at h
  | some p=>
    obtain⟨c1,h1⟩:=bD.reads _ _ hs.symm
    refine .eq I (.idx I (by cases cq v (31-i) <;> decide) (.eq h1 (.ret ?_)))
    show bE c1.dF _=_
    rw[HD,oy,<-hs,iZ h1,o9]
 cases e with
 |inl s=>exact .ret he
 |inr q=>exact .ret he
def Zn{hp:aL Cell}{t:Nat}{g:aa Bool->aE Int}(h:kT hp t g){n:Nat}(aM:n<=32){v:aN}(bc:∀j,j<128->cq v j=true->lead 32 n j=true):
 z7 hp (some t) v n=some (match g (dT v n)with |none=>(0,false)|some id=>(id,true)):=by
 obtain⟨c,ag,hb,bD,bu⟩:=h.ok
 refine a8.get ?_
 unfold z7
 refine .eq (XP ag hb bD aM bc) ?_
 rw[<-bu]
 cases e:c3 hp c.eQ (dT v n)with
 | none=>
   rw[mj e]
   refine .b1 (P:=λ_=>True) (λh=>by cases h) λo _=>.b1 (P:=λ_=>True) (λh=>by cases h) λo _=>.cond (λ_=>.ret rfl) λh=>by cases h
 | some p=>
   obtain⟨d,hd⟩:=bD.reads _ _ e
   rw[lY e hd]
   refine .b1 (P:=λr=>r=p) (λ_=>⟨p,rfl,rfl⟩) λo h1=>?_
   rw[h1 I]
   refine .b1 (P:=λr=>r=d) (λ_=>⟨d,hd,rfl⟩) λc1 ad=>?_
   rw[ad I]
   refine .cond (λh=>?_) λh=>?_
   ·have:d.gP=false:=by simpa using h
    rw[this];exact .ret I
   have:d.gP=true:=by simpa using h
   rw[this];exact .eq I (.eq hd (.ret I))
structure Nd(l4 hp:aL Cell)(t:Nat)(g:List Bool->Option Int)(r:Nat):Prop where
 cell:∃c,gD hp t=some c∧c.hy=32∧c.eQ=some r
 tree:rq hp (some r)
 cont:∀bd,cont hp (some r) bd=g bd
 keeps:fp l4 hp (Own l4 t)
 own:∀bd q,c3 hp (some r) bd=some q->Own l4 t q∨q∉eb l4
def HJ{hp:aL Cell}{a t:Nat}{k:Cell}(aY:a∉eb hp)(h:pat hp t=some k):a≠t:=λe=>aY (e▸ki h)
def XQ{hp:aL Cell}{a:Nat}{x:e9}:cS ((a,.h2 x)::hp) a=some x:=by rw[s3,lq,bh I]
def aho{hp:aL Cell}{a:Nat}(aY:a∉eb hp):cS hp a=none:=by unfold cS;rw[ai3 aY]
def DA{hp:aL Cell}{p:Nat}{k:Cell}{x:e9}(h:pat hp p=some k):cS (cL hp p (.h2 x)) p=some x:=by rw[s3,tc h]
def x8{hp:aL Cell}{p q:Nat}{k:Cell}(h:p≠q):cS (cL hp p k) q=cS hp q:=Al (nm h)
def Wt{hp:aL Cell}{a q:Nat}{k:Cell}(h:a≠q):cS ((a,k)::hp) q=cS hp q:=Al (by rw[lq,bf h])
def XR{hp:aL Cell}{p:Nat}{k:Cell}{x:hW}(h:pat hp p=some k):gD (cL hp p (.lM x)) p=some x:=by rw[wy,tc h]
def Lu{hp:aL Cell}{p q:Nat}{k:Cell}(h:p≠q):gD (cL hp p k) q=gD hp q:=Lq (nm h)
def Wu{hp:aL Cell}{a q:Nat}{k:Cell}(h:a≠q):gD ((a,k)::hp) q=gD hp q:=Lq (by rw[lq,bf h])
def MV{hp:aL Cell}{p t:Nat}{x:e9}{c:hW}(h1:cS hp p=some x)(ad:gD hp t=some c):p≠t:=λe=>by
 subst e;rw[s3]at h1;rw[wy,h1]at ad;cases ad
def alC{hp:aL Cell}{t:Nat}{g:aa Bool->aE Int}{c:hW}(ag:gD hp t=some c)(hb:c.hy=32)(bD:rq hp c.eQ)(bu:∀bd,cont hp c.eQ bd=g bd):
 cQ (cond c.eQ.isNone (
     aj.bind (aj.mk hp (Cell.h2 (default:e9))) λa2=>
     aj.bind (aj.of (gD a2.2 t)) λzi=>
     aj.bind (aj.of (some (cL a2.2 t (Cell.lM ({zi with eQ:=(some a2.1:Ref)}:hW))))) λvO=>
     aj.ret vO) (aj.ret hp)) (λbQ=> ∃r,Nd hp bQ t g r):=by
 have iB:=wy.1 ag
 refine .cond (λh=>.mk λa aY=>?_) λh=>?_
 ·have aG:c.eQ=none:=by rw[Kn]at h;exact h
  have ade:=HJ aY iB
  have EB:gD ((a,Cell.h2 default)::hp) t=some c:=by rw[Wu ade];exact ag
  refine .eq EB (.eq I (.ret ⟨a,?_⟩))
  have aM:cS (cL ((a,Cell.h2 default)::hp) t (.lM {c with eQ:=some a})) a=some default:=by
   rw[x8 ade.symm,XQ]
  have aW:=Xc aM
  refine⟨⟨_,XR (wy.1 EB),hb,rfl⟩,⟨λbd p h1=>?_,λbd cs p h1 ad=>?_,λbd p h1=>?_⟩,λbd=>?_,?_,λbd q h1=>?_⟩
  ·rw[aW]at h1
   split at h1
   ·cases h1;exact⟨_,aM⟩
   cases h1
  ·rw[aW]at h1 ad
   split at h1 <;> split at ad
   ·rename_i av aS;rw[av,aS]
   ·cases ad
   ·cases h1
   cases h1
  ·rw[aW]at h1
   split at h1
   ·rename_i e;rw[e];exact vg _
   cases h1
  ·rw[<-bu,aG,mj hY]
   by_cases e:bd=[]
   ·rw[lY (by rw[aW,bh e]) aM];rfl
   rw[mj (by rw[aW,bf e])]
  ·exact(fp.mk' aY).trans (own':=λq=>q=t) (fp.up (own:=λq=>q=t) I) λq _ h1=>.inl h1
  rw[aW]at h1
  split at h1
  ·cases h1;exact .inr aY
  cases h1
 cases aG:c.eQ with
 |none=>rw[aG]at h;cases h
 | some r=>
   rw[aG]at bD bu
   exact .ret ⟨r,⟨c,ag,hb,aG⟩,bD,bu,.refl,λbd q h1=>.inl (.inr ⟨c,bd,ag,by rw[aG];exact h1⟩)⟩
def an9{hp:aL Cell}{t:Nat}{g:aa Bool->aE Int}(h:kT hp t g){n:Nat}(aM:n<=32){v:aN}(bc:∀j,j<128->cq v j=true->lead 32 n j=true)(id:Int)(fJ:g (dT v n)=none):
 cQ (Dd hp (some t) v n id) (λr=>r.1=true∧kT r.2 t (λbd=>if bd=dT v n then some id else g bd)∧fp hp r.2 (Own hp t)∧∀q,Own r.2 t q->Own hp t q∨q∉eb hp):=by
 obtain⟨c,ag,hb,bD,bu⟩:=h.ok
 unfold Dd
 refine .eq (Xf ag hb aM bc) (.cond (λh=>by cases h) λ_=>.eq (XP ag hb bD aM bc) ?_)
 refine .b1 (P:=λo=>c3 hp c.eQ (dT v n)=some o) (λh1=>?_) λbz h1=>?_
 ·cases e:c3 hp c.eQ (dT v n)with
  |none=>rw[e]at h1;cases h1
  |some p=>exact⟨p,rfl,rfl⟩
 refine .b1 (P:=λd=>cS hp bz=some d) (λad=>?_) λc1 ad=>?_
 ·obtain⟨d,hd⟩:=bD.reads _ _ (h1 ad)
  exact⟨d,hd,hd⟩
 refine .cond (λaB=>?_) λ_=>?_
 ·simp only[gm]at aB
  rw[<-bu,lY (h1 aB.1) (ad aB.1),aB.2]at fJ
  cases fJ
 refine .eq I (.eq ag (.bind (alC ag hb bD bu) λm1 bS=>?_))
 obtain⟨r,bS⟩:=bS
 obtain⟨eE,lb,auK,TH⟩:=bS.cell
 refine .eq lb (.eq I ?_)
 show cQ (aj.bind (zQ (n:Int) v (some t) _ _ _) _) _
 refine .bind (P:=λe:(Ref×aL Cell)⊕Empty=> ∃p cZ,e=.inl (some p,cZ)∧c3 cZ (some r) (dT v n)=some p∧Nd hp cZ t g r) (an8 v aM (λi s=> ∃p,s.1=some p∧c3 s.2 (some r) (dT v i)=some p∧Nd hp s.2 t g r) ⟨r,TH,o9,bS⟩ (λi s aq=>?_) (λi s aq hs=>?_) (λs hs=>?_)) λe he=>?_
 ·obtain⟨p,_,_,hm⟩:=aq
  obtain⟨d,aV,ba,_⟩:=hm.cell
  exact⟨d,aV,ba⟩
 ·obtain⟨asN,cZ⟩:=s
  obtain⟨p,av,aS,hm⟩:=hs
  simp only at av aS hm
  subst av
  obtain⟨d,hd⟩:=hm.tree.reads _ _ aS
  have b9:gb (cq v (31-i))<2:=by cases cq v (31-i) <;> decide
  refine .eq I (.idx I b9 (.eq hd ?_))
  refine .bind (P:=λiQ=> ∃q oi,cS iQ p=some oi∧bE oi.dF (gb (cq v (31-i)))=some q∧c3 iQ (some r) (dT v i)=some p∧Nd hp iQ t g r) (.cond (λbq=>.mk λa aY=>?_) λbq=>.ret ?_) λiQ c0=>?_
  ·have sF:bE d.dF (gb (cq v (31-i)))=none:=by rw[Kn]at bq;exact bq
   have adf:=HJ aY (s3.1 hd)
   have gf:cS ((a,Cell.h2 default)::cZ) p=some d:=by rw[Wt adf];exact hd
   refine .idx I b9 (.eq gf (.eq I (.ret ?_)))
   have e7:cS (cL ((a,Cell.h2 default)::cZ) p (.h2 {d with dF:=dJ d.dF (gb (cq v (31-i))) (some a)})) a=some default:=by
    rw[x8 adf.symm,XQ]
   have bZ:cS (cL ((a,Cell.h2 default)::cZ) p (.h2 {d with dF:=dJ d.dF (gb (cq v (31-i))) (some a)})) p=some {d with dF:=dJ d.dF (gb (cq v (31-i))) (some a)}:=DA (s3.1 gf)
   obtain⟨g1,g2,g3⟩:=grow (by unfold dT;simp;omega) hm.tree aS hd sF (aho aY) bZ e7 λq jO rK=>by rw[x8 jO.symm,Wt rK.symm]
   have IW:Own hp t p∨p∉eb hp:=hm.own _ _ aS
   refine⟨a,_,bZ,by rw[jF _ _ b9,bh I],by rw[g2,bf (λe=>by have:=eG List.length e;simp at this)];exact aS,?_,g1,λbd=>by rw[g3,hm.cont],?_,λbd q hq=>?_⟩
   ·obtain⟨d4,aV,ba,db⟩:=hm.cell
    have iB:=MV hd aV
    exact⟨d4,by rw[Lu iB,Wu (HJ aY (wy.1 aV))];exact aV,ba,db⟩
   ·refine hm.keeps.trans (own':=λq=>q=p) ((fp.mk' aY).trans (own':=λq=>q=p) (fp.up (own:=λq=>q=p) I) λq _ dE=>dE) λq hq dE=>?_
    subst dE
    exact IW.resolve_right λn5=>n5 hq
   rw[g2]at hq
   split at hq
   ·cases hq;exact .inr λdE=>aY (hm.keeps.keys _ dE)
   exact hm.own _ _ hq
  ·cases sF:bE d.dF (gb (cq v (31-i)))with
   |none=>rw[sF]at bq;cases bq
   |some q=>exact⟨q,d,hd,sF,aS,hm⟩
  obtain⟨q,oi,db,dE,n5,sE⟩:=c0
  refine .idx I b9 (.eq db (.ret ⟨q,dE,?_,sE⟩))
  show c3 iQ (some r) (dT v (i+1))=some q
  rw[HD,oy,n5,iZ db,dE,o9]
 ·obtain⟨asN,cZ⟩:=s
  obtain⟨p,av,aS,hm⟩:=hs
  simp only at av aS hm
  subst av
  exact⟨p,cZ,rfl,aS,hm⟩
 obtain⟨p,cZ,rfl,aS,hm⟩:=he
 obtain⟨d,hd⟩:=hm.tree.reads _ _ aS
 have TZ:=s3.1 hd
 refine .eq I (.eq hd (.eq I (.eq I ?_)))
 have gf:cS (cL cZ p (.h2 {d with gP:=true})) p=some {d with gP:=true}:=DA TZ
 refine .eq gf (.eq I (.ret ?_))
 have xh:cS (cL (cL cZ p (.h2 {d with gP:=true})) p (.h2 {d with gP:=true,j5:=id})) p=some {d with gP:=true,j5:=id}:=DA (s3.1 gf)
 obtain⟨s1,s2⟩:=ace hm.tree aS hd xh I λq hq=>by rw[x8 hq.symm,x8 hq.symm]
 obtain⟨d4,aV,ba,db⟩:=hm.cell
 have iB:=MV hd aV
 have ES:gD (cL (cL cZ p (.h2 {d with gP:=true})) p (.h2 {d with gP:=true,j5:=id})) t=some d4:=by rw[Lu iB,Lu iB];exact aV
 have IW:Own hp t p∨p∉eb hp:=hm.own _ _ aS
 refine⟨rfl,⟨d4,ES,ba,by rw[db];exact s1,λbd=>?_⟩,?_,λq hq=>?_⟩
 ·rw[db,s2,hm.cont];rfl
 ·refine hm.keeps.trans (own':=λq=>q=p) ((fp.up (own:=λq=>q=p) I).trans (own':=λq=>q=p) (fp.up (own:=λq=>q=p) I) λq _ dE=>dE) λq hq dE=>?_
  subst dE
  exact IW.resolve_right λn5=>n5 hq
 rcases hq with rfl|⟨gG,bd,h1,ad⟩
 ·exact .inl (.inl I)
 rw[ES]at h1;cases h1
 rw[db,HS hd xh I (λq hq=>by rw[x8 hq.symm,x8 hq.symm])]at ad
 exact hm.own _ _ ad
def le_toNat{x:BitVec 64}{k:Nat}(hk:k<2^64):decide (x>=BitVec.ofNat 64 k)=decide (k<=x.toNat):=by
 rw[q7,ge_iff_le,CS,KA,zO hk]
def aib(x:BitVec 64)(h:x.toNat<2^32):a8 (CX x) (λr=>r<=32):=by
 unfold CX;refine .bind (P:=λm=>m=(x,0)) (.cond (λag=>?_) λ_=>.ret I) λm1 h1=>?_
 ·rw[le_toNat (by decide)]at ag;simp at ag;omega
 subst h1;refine .bind (P:=λm=>m.1.toNat<65536∧0<=m.2∧m.2<=16) (.cond (λag=>.ret ⟨?_,?_⟩) λag=>.ret ⟨?_,xY 0,by show(0:Int)<=16;decide⟩) λm2 ad=>?_
 ·rw[Ko,show(16#64).toNat=16 from rfl,Km];simp only;omega
 ·rw[show bm ((0:Int)+16)=16 from by rw[gQ (by decide) (by decide)];rfl];exact⟨by show(0:Int)<=16;decide,xY 16⟩
 ·rw[le_toNat (by decide)]at ag;simp at ag;exact ag
 refine .bind (P:=λm=>m.1.toNat<256∧0<=m.2∧m.2<=24) (.cond (λag=>.ret ⟨?_,?_⟩) λag=>.ret ⟨?_,ad.2.1,by have:=ad.2.2;simp only;omega⟩) λm3 aB=>?_
 ·rw[Ko,show(8#64).toNat=8 from rfl,Km];have:=ad.1;omega
 ·have:=ad.2;rw[gQ (by omega) (by omega)];constructor <;> omega
 ·rw[le_toNat (by decide)]at ag;simp at ag;exact ag
 obtain⟨aB,aV,ba⟩:=aB;have key:∀k:Fin 256,∃y,IN (ByteArray.mk (List.toArray (List.append (List.append [0,1,2,2,3,3,3,3,4,4,4,4,4,4,4,4,5,5,5,5,5,5,5,5,5,5,5,5,5,5,5,5,6,6,6,6,6,6,6,6,6,6,6,6,6,6,6,6,6,6,6,6,6,6,6,6,6,6,6,6,6,6,6,6] [7,7,7,7,7,7,7,7,7,7,7,7,7,7,7,7,7,7,7,7,7,7,7,7,7,7,7,7,7,7,7,7,7,7,7,7,7,7,7,7,7,7,7,7,7,7,7,7,7,7,7,7,7,7,7,7,7,7,7,7,7,7,7,7]) (List.append [8,8,8,8,8,8,8,8,8,8,8,8,8,8,8,8,8,8,8,8,8,8,8,8,8,8,8,8,8,8,8,8,8,8,8,8,8,8,8,8,8,8,8,8,8,8,8,8,8,8,8,8,8,8,8,8,8,8,8,8,8,8,8,8] [8,8,8,8,8,8,8,8,8,8,8,8,8,8,8,8,8,8,8,8,8,8,8,8,8,8,8,8,8,8,8,8,8,8,8,8,8,8,8,8,8,8,8,8,8,8,8,8,8,8,8,8,8,8,8,8,8,8,8,8,8,8,8,8])))) ((k.1:Nat):Int)=some y∧y.toNat<=8:=by
  intro k;have h1:(match IN (ByteArray.mk (List.toArray (List.append (List.append [0,1,2,2,3,3,3,3,4,4,4,4,4,4,4,4,5,5,5,5,5,5,5,5,5,5,5,5,5,5,5,5,6,6,6,6,6,6,6,6,6,6,6,6,6,6,6,6,6,6,6,6,6,6,6,6,6,6,6,6,6,6,6,6] [7,7,7,7,7,7,7,7,7,7,7,7,7,7,7,7,7,7,7,7,7,7,7,7,7,7,7,7,7,7,7,7,7,7,7,7,7,7,7,7,7,7,7,7,7,7,7,7,7,7,7,7,7,7,7,7,7,7,7,7,7,7,7,7]) (List.append [8,8,8,8,8,8,8,8,8,8,8,8,8,8,8,8,8,8,8,8,8,8,8,8,8,8,8,8,8,8,8,8,8,8,8,8,8,8,8,8,8,8,8,8,8,8,8,8,8,8,8,8,8,8,8,8,8,8,8,8,8,8,8,8] [8,8,8,8,8,8,8,8,8,8,8,8,8,8,8,8,8,8,8,8,8,8,8,8,8,8,8,8,8,8,8,8,8,8,8,8,8,8,8,8,8,8,8,8,8,8,8,8,8,8,8,8,8,8,8,8,8,8,8,8,8,8,8,8])))) ((k.1:Nat):Int)with |some y=>decide (y.toNat<=8)|none=>false)=true:=by
   revert k;decide +kernel
  split at h1
  ·rename_i y e;exact⟨y,e,by simpa using h1⟩
  cases h1
 obtain⟨y,av,aS⟩:=key ⟨(m3.1.setWidth 8).toNat,(m3.1.setWidth 8).isLt⟩;refine .eq av (.ret ?_);rw[gQ (by omega) (by omega)];omega
def Small(v:aN):Prop:=∀j,j<128->cq v j=true->j<32
def akx{v:aN}(h:Small v):Hq v 32=some true:=by
 refine a8.get ?_;have gE:v.dX=0#64:=by
  apply zy;intro i aq;have h1:=h (64+i) (by omega);unfold cq at h1;rw[bf (by omega),show 64+i-64=i by omega]at h1;rw[Cp];cases e:v.dX.getLsbD i with
  |false=>rfl
  |true=>have:=h1 e;omega
 have hP:v.cI.toNat<2^32:=by
  refine Nat.lt_pow_two_of_testBit _ λi aq=>?_;cases e:v.cI.toNat.testBit i with
  |false=>rfl
  | true=>
    have b9:i<64:=by
     rcases sW i 64 with h1|h1
     ·exact h1
     rw[Nat.testBit_lt_two_pow (rZ v.cI.isLt (Vc (by decide) h1))]at e;cases e
    have:=h i (by omega) (by unfold cq;rw[bh b9,BitVec.getLsbD,e])
    omega
 unfold Hq Ln;rw[gE];refine .bind (P:=λr=>r<=32) (.cond (λag=>by simp at ag) λ_=>(aib _ hP).bind λy aR=>.ret aR) λy aR=>.ret ?_;rw[q9 aR]
def lD(g:aa Bool->aE Int)(v:aN):Nat->aE (Nat×Int)
 |0=>(g []).map λid=>(0,id)
 | k+1=>match g (dT v (k+1))with
   |some id=>some (k+1,id)
   |none=>lD g v k
def enc:aE (Nat×Int)->Int×Int×Bool
 |none=>(0,0,false)
 |some (n,id)=>((n:Int),id,true)
def XS{hp:aL Cell}{root:Ref}(bD:rq hp root)(bd:aa Bool)(d:Nat)(o:aE (Nat×Int)):
 zH hp (c3 hp root bd) d (enc o).1 (enc o).2.1 (enc o).2.2=some (enc (match cont hp root bd with |some id=>some (d,id)|none=>o)):=by
 refine a8.get ?_
 unfold zH
 cases e:c3 hp root bd with
 | none=>
   rw[mj e]
   refine .b1 (P:=λ_=>True) (λh=>by cases h) λo _=>.b1 (P:=λ_=>True) (λh=>by cases h) λo _=>.eq rfl (.ret rfl)
 | some p=>
   obtain⟨c,ag⟩:=bD.reads _ _ e
   rw[lY e ag]
   refine .b1 (P:=λr=>r=p) (λ_=>⟨p,rfl,rfl⟩) λbz h1=>?_
   rw[h1 I]
   refine .b1 (P:=λr=>r=c) (λ_=>⟨c,ag,rfl⟩) λc1 ad=>?_
   rw[ad I]
   cases hu:c.gP with
   |true=>exact .eq (a:=((d:Int),c.j5,true)) (by simp[ag]) (.ret I)
   |false=>exact .eq I (.ret I)
def ahp{hp:aL Cell}{t:Nat}{g:aa Bool->aE Int}(h:kT hp t g){v:aN}(bc:Small v):GC hp (some t) v=some (enc (lD g v 32)):=by
 obtain⟨c,ag,hb,bD,bu⟩:=h.ok;refine a8.get ?_;unfold GC;refine .b1 (P:=λr=>r=t) (λ_=>⟨t,rfl,rfl⟩) λbz h1=>?_;rw[h1 I];refine .b1 (P:=λr=>r=c) (λ_=>⟨c,ag,rfl⟩) λc1 ad=>?_;rw[ad I,hb];refine .b1 (P:=λr=>r=true) (λ_=>⟨true,akx bc,rfl⟩) λao aB=>?_;rw[aB I];refine .cond (λag=>by cases ag) λ_=>.eq rfl (.eq ag ?_);have v0:zH hp c.eQ 0 0 0 false=some (enc (lD g v 0)):=by
  have:=XS bD [] 0 none;rw[o9,bu]at this;refine this.trans ?_;unfold lD;cases g [] <;> rfl
 rw[hb];refine .eq v0 (.eq I ?_);show a8 (Option.bind (tU hp ((32:Nat):Int) v (some t) _ _) _) _;refine a8.bind (P:=λe:(Ref×Int×Int×Int×Bool)⊕(Ref×Int×Int×Int×Bool)=>e.elim (λs=>s.2.2=enc (lD g v 32)) (λq=>q.2.2=enc (lD g v 32)))
  (St ag hb v (iS 32) (λi s=>s=(c3 hp c.eQ (dT v i),(i:Int),enc (lD g v i))) (by rw[HE,o9];rfl) (λi s aq hs=>?_) (λs hs=>by rw[hs];rfl)) λe he=>?_
 ·subst hs;refine .cond (λh=>.ret ?_) λh=>?_
  ·have aM:c3 hp c.eQ (dT v i)=none:=by
    simp only[Kn]at h;exact h
   have key:∀k,lD g v (i+k)=lD g v i:=λk=>by
    induction k with
    |zero=>rfl
    | succ k cg=>
      have av:dT v (i+k+1)=dT v i++(dT v (i+k+1)).drop i:=by
       have:dT v i=(dT v (i+k+1)).take i:=by unfold dT;rw[<-Pe,O6];congr 2;omega
       rw[this,gw]
      have:g (dT v (i+k+1))=none:=by
       rw[<-bu,mj];rw[av,oy,aM,hY]
      show(match g (dT v (i+k+1))with |some id=>some (i+k+1,id)|none=>lD g v (i+k))=_
      rw[this];exact cg
   show enc (lD g v i)=enc (lD g v 32);have:=key (32-i);rw[show i+(32-i)=32 by omega]at this;rw[this]
  cases e:c3 hp c.eQ (dT v i)with
  |none=>simp[e]at h
  | some p=>
    obtain⟨d,hd⟩:=bD.reads _ _ e
    refine .eq I (.idx I (by cases cq v (31-i) <;> decide) (.eq hd ?_))
    have sF:bE d.dF (gb (cq v (31-i)))=c3 hp c.eQ (dT v (i+1)):=by rw[HD,oy,e,iZ hd,o9]
    have hw:bm ((i:Int)+1)=((i+1:Nat):Int):=dB (by omega)
    simp only[sF,hw]
    refine .eq (XS bD (dT v (i+1)) (i+1) (lD g v i)) (.ret ?_)
    rw[bu]
    rfl
 cases e with
 |inl s=>exact .ret he
 |inr q=>exact .ret he
def b7.NT{s:aZ}(h:b7 s):∃dL eF jA,∀k,k<4->rA (ax s.bK k)=ax (w7 dL eF jA) k:=by
 obtain⟨dL,eF,jA,e⟩:=h.tables;refine⟨dL,eF,jA,λk hk=>?_⟩;rw[<-e,Ay rA (by rw[h.lN];exact hk)]
def Ar(t:cy){r:Int×Int}(ks:aa dD)(hk:t.cn=ks)(h:Df {(default:cy)with cn:=ks} =some r):Df t=some r:=by
 subst hk;exact h
def rX(k:Nat):Int:=ax [1,2,3,3] k
def aic{s:aZ}(h:b7 s){k:Nat}(hk:k<4):a8 (Df (ax s.bK k)) (λr=>r.1=rX k∧(k=1->r.2=0)):=by
 obtain⟨dL,eF,jA,e⟩:=h.NT;have e:=e k hk;have hj:(ax s.bK k).cn=(ax (w7 dL eF jA) k).2.2:=eG (·.2.2) e;have:k=0∨k=1∨k=2∨k=3:=by omega
 rcases this with rfl|rfl|rfl|rfl
 ·exact⟨_,Ar _ [sK] hj I,rfl,λh=>by simp at h⟩
 ·cases dL
  ·exact⟨_,Ar _ [Cb] hj I,rfl,λ_=>rfl⟩
  exact⟨_,Ar _ [Cb,N9] hj I,rfl,λ_=>rfl⟩
 ·cases eF
  ·exact⟨_,Ar _ [Kc,JM] hj I,rfl,λh=>by simp at h⟩
  exact⟨_,Ar _ [Kc,JM,UC] hj I,rfl,λh=>by simp at h⟩
 cases jA
 ·exact⟨_,Ar _ [Kd] hj I,rfl,λh=>by simp at h⟩
 exact⟨_,Ar _ [Kd,UD,Cb] hj I,rfl,λh=>by simp at h⟩
structure Et(s:aZ)(k:Nat)(l4 hp:aL Cell)(p:Nat):Prop where
 cell:∃c m,jb hp p=some c∧c.wO=rX k∧c.vt=((ax s.bK k).cn.length:Int)∧c.pU=⟨some m⟩∧mT hp m=some []∧
  (k=0->∃q m2,c.nn=.pn ⟨some q⟩∧nY hp q=some ⟨⟨some m2⟩⟩∧nu hp m2=some []∧q∉eb l4∧m2∉eb l4)∧
  (k=1->∃m3,c.nn=.po ⟨0,32,⟨some m3⟩⟩∧lK hp m3=some []∧m3∉eb l4)∧
  (2<=k->∃q key cap,c.nn=.pq ⟨some q⟩∧ry hp q=some (({mh:=s,cz:=[]}:eh),key,cap)∧q∉eb l4)∧
  p∉eb l4∧m∉eb l4∧(∀q,q∈eb l4->q∈eb hp)∧∀q,q∈eb l4->pat hp q=pat l4 q
def aoa{s:aZ}(h:b7 s){k:Nat}(hk:k<4)(hp:aL Cell):cQ (Ds hp s ((k:Int)+1)) (λr=> ∃p,r.1=some p∧Et s k hp r.2 p):=by
 unfold Ds;refine .gX (PK h hk) λao av=>?_;subst av;refine .cond (λag=>by simp at ag;omega) λ_=>?_;refine .idx I (by rw[h.lN];exact hk) (.gX (aic h hk) λaF ad=>.mk λm hm=>.eq I (.mk λp bQ=>?_));obtain⟨atQ,key⟩:=aF;obtain⟨ad,aB⟩:=ad;simp only at ad aB bQ;subst ad;have nI:p≠m:=λe=>by subst e;simp[eb]at bQ
 have:k=0∨k=1∨2<=k:=by omega
 rcases this with rfl|rfl|c4
 ·have e:(rX 0==1)=true:=rfl;simp only[e,cond_true];unfold Ll;refine .bind (P:=λcZ=>Et s 0 hp cZ p) (.bind (P:=λr=> ∃q m2,r=((some q:Ref),(q,Cell.Ea ⟨⟨some m2⟩⟩)::(m2,Cell.rC [])::(p,_)::(m,Cell.mn [])::hp)∧m2∉eb ((p,_)::(m,Cell.mn [])::hp)∧q∉eb ((m2,Cell.rC [])::(p,_)::(m,Cell.mn [])::hp)) (.mk λm2 c6=>.mk λq hq=>.ret ⟨q,m2,rfl,c6,hq⟩) λbg aV=>?_) λcZ ba=>.ret ⟨p,rfl,ba⟩;obtain⟨q,m2,rfl,c6,hq⟩:=aV;simp only[eb,nS,dP,x5]at c6 hq bQ;refine .eq (by simp[jb,pat,hq.1,hq.2,c6.1,hq.2.2.1,x4];rfl) (.eq I (.ret ?_));refine⟨{wO:=rX 0,vt:=((ax s.bK 0).cn.length:Int),nn:=.pn ⟨some q⟩,pU:=⟨some m⟩},m,?_,rfl,rfl,rfl,?_,?_,λag=>by simp at ag,λag=>by simp at ag,bQ.2,hm,λx au=>by rw[sa];exact gx _ (gx _ (gx _ (gx _ au))),λx au=>?_⟩
  ·simp[jb,pat,cL,hq.1,hq.2,c6.1,hq.2.2.1]
  ·simp[mT,pat,cL,hq.1,hq.2,c6.1,hq.2.2.1,c6.2.1,bQ.1]
  ·intro _;refine⟨q,m2,rfl,?_,?_,hq.2.2.2,c6.2.2⟩
   ·simp[nY,pat,cL,hq.1,hq.2,c6.1,hq.2.2.1,c6.2.1,bQ.1]
   simp[nu,pat,cL,hq.1,hq.2,c6.1,hq.2.2.1,c6.2.1,bQ.1]
  have mC:q≠x:=λe=>hq.2.2.2 (by rw[e];exact au);have E5:m2≠x:=λe=>c6.2.2 (by rw[e];exact au);have Ke:p≠x:=λe=>bQ.2 (by rw[e];exact au);have Kf:m≠x:=λe=>hm (by rw[e];exact au);simp[HY,pat,mC,E5,Ke,Kf]
 ·have e:(rX 1==1)=false:=rfl;have aS:(rX 1==2)=true:=rfl;simp only[e,aS,cond_true,cond_false];have aB:=aB I;subst aB;obtain⟨t1,⟨t2,t3⟩,t4,_⟩:=h.fF hk;have aW:(ax (ax s.bK 1).cn 0).jo=((6:Nat):Int)+1:=by
   obtain⟨dL,eF,jA,e⟩:=h.NT;have e:=eG (·.2.2) (e 1 hk);show(ax (rA (ax s.bK 1)).2.2 0).jo=_;rw[e];cases dL <;> rfl
  refine .bind (P:=λcZ=>Et s 1 hp cZ p) (.bind (P:=λcZ=>Et s 1 hp cZ p) ?_ λ_ bq=>.ret bq) λcZ ba=>.ret ⟨p,rfl,ba⟩;refine .idx (k:=0) I (by omega) ?_;simp only[aW];refine .gX (Ws h (show 6<9 by decide)) λbw eW=>?_;subst eW;refine .gX (P:=λr=>r=32) (.cond (λ_=>.idx I (by rw[h.vI];decide) (.ret (h.xq (show 6<9 by decide)).2)) (λag=>by simp at ag)) λb hb=>?_;subst hb;refine .mk λm3 fZ=>?_;simp only[eb,nS,dP,x5]at fZ bQ;refine .eq I (.eq (by simp[jb,pat,fZ.1];rfl) (.eq I (.ret ?_)));refine⟨{wO:=rX 1,vt:=((ax s.bK 1).cn.length:Int),nn:=.po ⟨0,32,⟨some m3⟩⟩,pU:=⟨some m⟩},m,?_,rfl,rfl,rfl,?_,λag=>by simp at ag,?_,λag=>by simp at ag,bQ.2,hm,λx au=>by rw[sa];exact gx _ (gx _ (gx _ au)),λx au=>?_⟩
  ·simp[jb,pat,cL,fZ.1]
  ·simp[mT,pat,cL,fZ.1,fZ.2.1,bQ.1]
  ·intro _;refine⟨m3,rfl,?_,fZ.2.2⟩;simp[lK,pat,cL,fZ.1,fZ.2.1,bQ.1]
  have mC:m3≠x:=λe=>fZ.2.2 (by rw[e];exact au);have Ke:p≠x:=λe=>bQ.2 (by rw[e];exact au);have Kf:m≠x:=λe=>hm (by rw[e];exact au);simp[HY,pat,mC,Ke,Kf]
 have e:(rX k==1)=false:=by
  have:k=2∨k=3:=by omega
  rcases this with rfl|rfl <;> rfl
 have aS:(rX k==2)=false:=by
  have:k=2∨k=3:=by omega
  rcases this with rfl|rfl <;> rfl
 simp only[e,aS,cond_true,cond_false];refine .bind (P:=λcZ=>Et s k hp cZ p) (.bind (P:=λcZ=>Et s k hp cZ p) ?_ λ_ bq=>.ret bq) λcZ ba=>.ret ⟨p,rfl,ba⟩;refine .eq I (.any λeI=>.mk λq hq=>?_);simp only[eb,nS,dP,x5]at hq bQ;refine .eq (by simp[jb,pat,hq.1];rfl) (.eq I (.ret ?_));refine⟨{wO:=rX k,vt:=((ax s.bK k).cn.length:Int),nn:=.pq ⟨some q⟩,pU:=⟨some m⟩},m,?_,rfl,rfl,rfl,?_,λag=>by omega,λag=>by omega,λ_=>⟨q,eI.1,eI.2,rfl,?_,hq.2.2⟩,bQ.2,hm,λx au=>by rw[sa];exact gx _ (gx _ (gx _ au)),λx au=>?_⟩
 ·simp[jb,pat,cL,hq.1]
 ·simp[mT,pat,cL,hq.1,hq.2.1,bQ.1]
 ·simp[ry,pat,cL,hq.1]
 have mC:q≠x:=λe=>hq.2.2 (by rw[e];exact au);have Ke:p≠x:=λe=>bQ.2 (by rw[e];exact au);have Kf:m≠x:=λe=>hm (by rw[e];exact au);simp[HY,pat,mC,Ke,Kf]
def XT{α:Type}{b:α->α->Bool}(hb:uS b){q:α->Bool}:∀{l:aa α} {c:α},l.Pairwise (λx y=>b x y=true)->c∈l->q c=true->(∀d∈l,q d=true->d=c∨b c d=true)->l.find? q=some c
 |[],c,_,ag,_,_=>by cases ag
 | a::l,c,hs,ag,hq,hd=>by
   obtain⟨h1,ad⟩:=kz.1 hs;by_cases pD:q a=true
   ·rw[Fh pD];rcases hd a (by simp) pD with h|h
    ·rw[h]
    rcases dP.1 ag with aB|aB
    ·rw[aB]
    have:=hb.asymm _ _ (h1 c aB);rw[this]at h;cases h
   rw[Ck pD];rcases dP.1 ag with aB|aB
   ·rw[aB]at hq;exact absurd hq pD
   exact XT hb ad aB hq λd hd' T0=>hd d (by simp[hd']) T0
def L9{α:Type}{b:α->α->Bool}(hb:uS b){q:α->Bool}{l:aa α}{c:α}(h:xa b l)(ag:c∈l)(hq:q c=true)(hd:∀d∈l,q d=true->d=c∨b c d=true):(eX b l).find? q=some c:=
 XT hb (HH hb h) (rr.2 ag) hq λd hd'=>hd d (rr.1 hd')
def QP{α:Type}{b:α->α->Bool}{q:α->Bool}{l:aa α}(hd:∀d∈l,q d=false):(eX b l).find? q=none:=by
 rw[xL];intro x au;rw[hd x (rr.1 au)];simp
def kr.uniq{s:aZ}{k:Nat}:∀{l:aa aH},kr s k l->∀{a c:aH},a∈l->c∈l->a.b0=c.b0->a=c:=λ{l} h {a c} aY ag e=>by
 have aM:=h.num;clear h;induction l with
 |nil=>cases aY
 | cons x l cg=>
   obtain⟨h1,ad⟩:=kz.1 aM
   rcases dP.1 aY with g1|g1 <;> rcases dP.1 ag with g2|g2
   ·rw[g1,g2]
   ·rw[g1]at e;exact absurd e (h1 c g2)
   ·rw[g2]at e;exact absurd e.symm (h1 a g1)
   exact cg g1 g2 ad
def b7.MW{s:aZ}(h:b7 s):(ax s.bK 0).cn=[sK]:=by
 obtain⟨dL,eF,jA,e⟩:=h.NT;exact eG (·.2.2) (e 0 (by decide))
def b7.Ix{s:aZ}(h:b7 s):∃b,(ax s.bK 1).cn=pZ b:=by
 obtain⟨dL,eF,jA,e⟩:=h.NT;exact⟨dL,eG (·.2.2) (e 1 (by decide))⟩
def jj(s:aZ)(k:Nat):Nat:=(ax s.bK k).cn.length
def YJ{α:Type}[Inhabited α]{n:Nat}{f:Fin n->α}{j:Nat}(h:j<n):bE (Vector.ofFn f) j=f ⟨j,h⟩:=by unfold bE;simp[h]
def fq(e:bl):Vector aN 4:=Vector.ofFn λi=>if i.1<e.bP.length then(ax e.bP i.1).cc else default
def ng(n:Nat)(p:Vector aN 4):Vector aN 4:=Vector.ofFn λi=>if i.1<n then bE p i.1 else default
def hI(p:Vector aN 4):Vector aN 4:=dJ p 0 default
def ow{e:bl}{j:Nat}(h:j<4):bE (fq e) j=if j<e.bP.length then(ax e.bP j).cc else default:=YJ h
def qy{n:Nat}{p:Vector aN 4}{j:Nat}(h:j<4):bE (ng n p) j=if j<n then bE p j else default:=YJ h
def Ma{p:Vector aN 4}{j:Nat}:bE (hI p) j=if j=0 then default else bE p j:=by unfold hI;rw[jF _ _ (by decide)]
def IX{v w:Vector aN 4}:v=w↔bE v 0=bE w 0∧bE v 1=bE w 1∧bE v 2=bE w 2∧bE v 3=bE w 3:=by
 refine⟨λh=>by rw[h];exact⟨rfl,rfl,rfl,rfl⟩,λ⟨bC,h1,ad,aB⟩=>Qg λj aC=>?_⟩;rcases (show j=0∨j=1∨j=2∨j=3 by omega)with rfl|rfl|rfl|rfl <;> assumption
def QQ{s:aZ}(h:b7 s){e:bl}(he:fE s 0 e)(p:Vector aN 4):mt s 0 p e=true↔ng (jj s 0) p=fq e:=by
 have an:=he.len;have hm:=he.xu 0;unfold mt jj;rw[h.MW]at an hm⊢;have hm:=(hm (by decide)).NP I;have hm:(ax e.bP 0).gp=true:=hm;have av:e.bP.length=1:=an;have hr:((List.range [sK].length).all λi=>na (ax [sK] i).dQ (hG (ax [sK] i)) (ax e.bP i) (bE p i))=decide (bE p 0=(ax e.bP 0).cc):=by
  show(na 1 (hG sK) (ax e.bP 0) (bE p 0)&&true)=_;unfold na;rw[hm];simp
 rw[hr,e2,IX];simp only[qy (show 0<4 by decide),qy (show 1<4 by decide),qy (show 2<4 by decide),qy (show 3<4 by decide),ow (show 0<4 by decide),ow (show 1<4 by decide),ow (show 2<4 by decide),ow (show 3<4 by decide),av];simp
def aob{s:aZ}(h:b7 s){l:aa aH}(an:kr s 0 l)(p:Vector aN 4){o:aE Int}(a6:∀n,o=some n↔∃i∈l,fq i.aX=ng (jj s 0) p∧i.b0=n):
 (∀n,o=some n->∃i∈l,i.b0=n∧(eX (eS s 0) l).find? (λc=>mt s 0 p c.aX)=some i)∧(o=none->(eX (eS s 0) l).find? (λc=>mt s 0 p c.aX)=none):=by
 constructor
 rotate_left
 ·intro aM
  subst aM
  refine QP λd hd=>?_
  rw[pN]
  intro hm
  have:=(a6 d.b0).2 ⟨d,hd,((QQ h (an.ok d hd).dr p).1 hm).symm,rfl⟩
  cases this
 intro n aM
 subst aM
 obtain⟨i,aq,h1,ad⟩:=(a6 n).1 I
 refine⟨i,aq,ad,L9 (uj s 0) an.ze aq ((QQ h (an.ok i aq).dr p).2 h1.symm) λd hd hm=>.inl ?_⟩
 have aB:=(a6 d.b0).2 ⟨d,hd,((QQ h (an.ok d hd).dr p).1 hm).symm,rfl⟩
 have aB:n=d.b0:=by simpa using aB
 exact an.uniq hd aq (by rw[ad,aB])
def ai8{v w:aN}{n m:Nat}:dT v n=dT w m↔n=m∧∀i,i<n->cq v (31-i)=cq w (31-i):=by
 unfold dT;constructor
 ·intro h;have an:=eG List.length h;simp only[k1,List.length_range]at an;subst an;refine⟨rfl,λi aq=>?_⟩;have:=eG (·[i]?) h;simpa[aq]using this
 rintro ⟨rfl,h⟩;exact Fu λi aq=>h i (lF.1 aq)
def ly(e:bl):aa Bool:=dT (ax e.bP 0).cc (ax e.bP 0).er.toNat
def yM{s:aZ}(h:b7 s){e:bl}(he:fE s 1 e):sh 2 32 (ax e.bP 0):=by
 have hm:=he.xu 0;obtain⟨b,hb⟩:=h.Ix;rw[hb]at hm;cases b
 ·exact hm (by decide)
 exact hm (by decide)
def DV{k:Int}(bC:0<=k)(h1:k<=32){j:Nat}:lead 32 k j=true↔32-k<=(j:Int)∧j<32:=by
 unfold lead;rw[gm,e2,e2];omega
def QR{m:cG}(hm:sh 2 32 m){v:aN}{n:Nat}(aM:n<=32):dT m.cc m.er.toNat=dT v n↔m.er=n∧∀j,j<128->lead 32 m.er j=true->cq v j=cq m.cc j:=by
 have hp:=hm.pre;rw[ai8];constructor
 ·rintro ⟨h1,ad⟩;refine⟨by omega,λj aC an=>?_⟩;rw[DV hp.1 hp.2]at an;have:=ad (31-j) (by omega);rw[show 31-(31-j)=j by omega]at this;exact this.symm
 rintro ⟨h1,ad⟩;refine⟨by omega,λi aq=>?_⟩;exact(ad (31-i) (by omega) ((DV hp.1 hp.2).2 (by omega))).symm
def YK{s:aZ}(h:b7 s){e:bl}(he:fE s 1 e)(p:Vector aN 4):mt s 1 p e=true↔
 hI (ng (jj s 1) p)=hI (fq e)∧∀j,j<128->lead 32 (ax e.bP 0).er j=true->cq (bE p 0) j=cq (ax e.bP 0).cc j:=by
 have an:=he.len
 have hm:=he.xu 1
 have h8:=yM h he
 obtain⟨b,hb⟩:=h.Ix
 unfold mt jj
 rw[hb]at an hm⊢
 have hr:na 2 32 (ax e.bP 0) (bE p 0)=true↔∀j,j<128->lead 32 (ax e.bP 0).er j=true->cq (bE p 0) j=cq (ax e.bP 0).cc j:=by
  unfold na;by_cases hp:(ax e.bP 0).gp=false
  ·rw[bh hp,h8.off hp];refine⟨λ_ j aC an=>?_,λ_=>rfl⟩;have:lead 32 (default:cG).er j=true:=an;rw[DV (by decide) (by decide)]at this;have bC:(default:cG).er=0:=rfl;rw[bC]at this;omega
  rw[bf hp,bf (by decide),bh I,lk];refine⟨λh1 j aC an=>?_,λh1 j aC=>?_⟩
  ·have:=h1 j (lF.2 aC);rw[an]at this;simpa using this
  cases an:lead 32 (ax e.bP 0).er j
  ·rfl
  simp[h1 j (lF.1 aC) an]
 cases b
 ·have av:e.bP.length=1:=an
  have aS:((List.range (pZ false).length).all λi=>na (ax (pZ false) i).dQ (hG (ax (pZ false) i)) (ax e.bP i) (bE p i))=na 2 32 (ax e.bP 0) (bE p 0):=by
   show(na 2 32 (ax e.bP 0) (bE p 0)&&true)=_;rw[zV]
  rw[aS,hr,IX]
  simp only[Ma,qy (show 0<4 by decide),qy (show 1<4 by decide),qy (show 2<4 by decide),qy (show 3<4 by decide),ow (show 0<4 by decide),ow (show 1<4 by decide),ow (show 2<4 by decide),ow (show 3<4 by decide),av]
  simp[pZ]
 have av:e.bP.length=2:=an
 have bS:(ax e.bP 1).gp=true:=(hm (by decide)).NP I
 have aS:((List.range (pZ true).length).all λi=>na (ax (pZ true) i).dQ (hG (ax (pZ true) i)) (ax e.bP i) (bE p i))=(na 2 32 (ax e.bP 0) (bE p 0)&&decide (bE p 1=(ax e.bP 1).cc)):=by
  show(na 2 32 (ax e.bP 0) (bE p 0)&&(na 1 (hG N9) (ax e.bP 1) (bE p 1)&&true))=_;rw[zV];congr 1;unfold na;rw[bS];simp
 rw[aS,gm,hr,IX,e2]
 simp only[Ma,qy (show 0<4 by decide),qy (show 1<4 by decide),qy (show 2<4 by decide),qy (show 3<4 by decide),ow (show 0<4 by decide),ow (show 1<4 by decide),ow (show 2<4 by decide),ow (show 3<4 by decide),av]
 simp[pZ,And.comm]
def YL{g:aa Bool->aE Int}{v:aN}:∀{m n:Nat} {id:Int},lD g v m=some (n,id)->n<=m∧g (dT v n)=some id∧∀k,n<k->k<=m->g (dT v k)=none
 | 0,n,id,h=>by
   unfold lD at h;cases bu:g []with
   |none=>rw[bu]at h;cases h
   | some x=>
     rw[bu]at h;cases h
     exact⟨iS 0,by rw[HE];exact bu,λk h1 ad=>by omega⟩
 | m+1,n,id,h=>by
   unfold lD at h;cases bu:g (dT v (m+1))with
   | none=>
     rw[bu]at h
     obtain⟨h1,ad,aB⟩:=YL h
     refine⟨by omega,ad,λk aV ba=>?_⟩
     by_cases hk:k=m+1
     ·rw[hk];exact bu
     exact aB k aV (by omega)
   | some x=>
     rw[bu]at h;cases h
     exact⟨iS _,bu,λk h1 ad=>by omega⟩
def YM{g:aa Bool->aE Int}{v:aN}:∀{m:Nat},lD g v m=none->∀k,k<=m->g (dT v k)=none
 | 0,h,k,hk=>by
   have:k=0:=by omega
   subst this;unfold lD at h;cases bu:g []with
   |none=>rw[HE];exact bu
   |some x=>rw[bu]at h;cases h
 | m+1,h,k,hk=>by
   unfold lD at h;cases bu:g (dT v (m+1))with
   | none=>
     rw[bu]at h
     by_cases BK:k=m+1
     ·rw[BK];exact bu
     exact YM h k (by omega)
   |some x=>rw[bu]at h;cases h
def adg{s:aZ}(h:b7 s){e:bl}(he:fE s 1 e):ji s 1 e=(ax e.bP 0).er:=by
 have an:=he.len;unfold ji;obtain⟨b,hb⟩:=h.Ix;rw[hb]at an⊢;refine Mt (i:=0) an ?_ ?_ λj aC=>by omega
 ·cases b <;> decide
 cases b <;> rfl
def Nf{s:aZ}(h:b7 s){e:bl}(he:fE s 1 e):e.gI=0:=by
 refine he.pri λi aq=>?_;obtain⟨b,hb⟩:=h.Ix;rw[hb]at aq⊢;cases b
 ·have:i=0:=by have:i<1:=aq;omega
  subst this;decide
 have:i=0∨i=1:=by have:i<2:=aq;omega
 rcases this with rfl|rfl <;> decide
def aaS{s:aZ}(h:b7 s){l:aa aH}(an:kr s 1 l)(p:Vector aN 4){g:aa Bool->aE Int}{v:aN}(bc:∀j,j<128->cq v j=(cq (bE p 0) j&&decide (j<32)))
 (bu:∀bd n,g bd=some n↔∃i∈l,hI (fq i.aX)=hI (ng (jj s 1) p)∧ly i.aX=bd∧i.b0=n):
 match lD g v 32 with |some r=> ∃i∈l,i.b0=r.2∧(eX (eS s 1) l).find? (λc=>mt s 1 p c.aX)=some i|none=>(eX (eS s 1) l).find? (λc=>mt s 1 p c.aX)=none:=by
 have qT:∀k j,j<128->lead 32 k j=true->cq v j=cq (bE p 0) j:=λk j aC hk=>by
  rw[bc j aC];unfold lead at hk;rw[gm,e2]at hk;rw[q9 (show j<32 by omega),zV]
 have ET:∀d∈l,mt s 1 p d.aX=true->∃n:Nat,n<=32∧(ax d.aX.bP 0).er=n∧g (dT v n)=some d.b0:=λd hd hm=>by
  have he:=(an.ok d hd).dr;have h8:=yM h he;have hp:=h8.pre;obtain⟨n,aM⟩:=pK hp.1;obtain⟨h1,ad⟩:=(YK h he p).1 hm;refine⟨n,by omega,aM,(bu _ _).2 ⟨d,hd,h1.symm,?_,rfl⟩⟩;exact(QR h8 (by omega)).2 ⟨aM,λj aC JN=>by rw[qT _ j aC JN];exact ad j aC JN⟩
 cases e:lD g v 32 with
 | none=>
   refine QP λd hd=>?_
   rw[pN]
   intro hm
   obtain⟨n,aM,_,ad⟩:=ET d hd hm
   rw[YM e n aM]at ad;cases ad
 | some r=>
   obtain⟨n,id⟩:=r
   obtain⟨h1,ad,aB⟩:=YL e
   obtain⟨i,aq,g1,g2,g3⟩:=(bu _ _).1 ad
   have he:=(an.ok i aq).dr
   obtain⟨g4,g5⟩:=(QR (yM h he) h1).1 g2
   have TF:mt s 1 p i.aX=true:=(YK h he p).2 ⟨g1.symm,λj aC JN=>by rw[<-qT _ j aC JN];exact g5 j aC JN⟩
   refine⟨i,aq,g3,L9 (uj s 1) an.ze aq TF λd hd hm=>?_⟩
   have adh:=(an.ok d hd).dr
   obtain⟨m,bS,c6,fZ⟩:=ET d hd hm
   have vL:m<=n:=by
    rcases sW n m with b9|uJ
    ·rw[aB m b9 bS]at fZ;cases fZ
    exact uJ
   by_cases SH:m=n
   ·subst SH
    rw[ad]at fZ
    have:id=d.b0:=by simpa using fZ
    exact .inl (an.uniq hd aq (by rw[g3,this]))
   right
   unfold eS
   rw[e2,adg h he,adg h adh,Nf h he,Nf h adh,c6,g4]
   omega
def Own.iff{hp hp':aL Cell}{t:Nat}{c:hW}(ag:gD hp t=some c)(h:∀q,Own hp t q->pat hp' q=pat hp q):gD hp' t=some c∧(∀bd,c3 hp' c.eQ bd=c3 hp c.eQ bd)∧∀q,Own hp' t q↔Own hp t q:=by
 have h1:gD hp' t=some c:=by rw[Lq (h t (.inl I))];exact ag
 have ad:∀bd,c3 hp' c.eQ bd=c3 hp c.eQ bd:=λbd=>Xb λp cs hp=>Al (h p (.inr ⟨c,cs,ag,hp⟩));refine⟨h1,ad,λq=>⟨λhq=>?_,λhq=>?_⟩⟩
 ·rcases hq with rfl|⟨gG,bd,g1,g2⟩
  ·exact .inl I
  rw[h1]at g1;cases g1;rw[ad]at g2;exact .inr ⟨c,bd,ag,g2⟩
 rcases hq with rfl|⟨gG,bd,g1,g2⟩
 ·exact .inl I
 rw[ag]at g1;cases g1;exact .inr ⟨c,bd,h1,by rw[ad];exact g2⟩
def kT.congr{hp hp':aL Cell}{t:Nat}{g:aa Bool->aE Int}(h:kT hp t g)(aY:∀q,Own hp t q->pat hp' q=pat hp q):kT hp' t g∧∀q,Own hp' t q↔Own hp t q:=by
 obtain⟨c,ag,hb,bD,bu⟩:=h.ok;obtain⟨h1,ad,aB⟩:=Own.iff ag aY;refine⟨⟨⟨c,h1,hb,⟨λbd p hp=>?_,λbd cs p g1 g2=>?_,λbd p g1=>bD.dep bd p (by rw[<-ad];exact g1)⟩,λbd=>?_⟩⟩,aB⟩
 ·rw[ad]at hp;obtain⟨d,hd⟩:=bD.reads bd p hp;exact⟨d,by rw[Al (aY p (.inr ⟨c,bd,ag,hp⟩))];exact hd⟩
 ·rw[ad]at g1 g2;exact bD.inj bd cs p g1 g2
 rw[<-bu];cases e:c3 hp c.eQ bd with
 |none=>rw[mj e,mj (by rw[ad];exact e)]
 | some p=>
   obtain⟨d,hd⟩:=bD.reads bd p e
   rw[lY e hd,lY (by rw[ad];exact e) (by rw[Al (aY p (.inr ⟨c,bd,ag,e⟩))];exact hd)]
def kT.AQ{hp:aL Cell}{t:Nat}{g:aa Bool->aE Int}(h:kT hp t g){q:Nat}(hq:Own hp t q):q∈eb hp:=by
 obtain⟨c,ag,hb,bD,bu⟩:=h.ok;rcases hq with rfl|⟨gG,bd,g1,g2⟩
 ·exact ki (wy.1 ag)
 rw[ag]at g1;cases g1;obtain⟨d,hd⟩:=bD.reads bd q g2;exact ki (s3.1 hd)
def kT.Mu{hp:aL Cell}{t:Nat}{g:aa Bool->aE Int}(h:kT hp t g){q:Nat}(hq:Own hp t q):(∃c,pat hp q=some (.lM c))∨∃c,pat hp q=some (.h2 c):=by
 obtain⟨c,ag,hb,bD,bu⟩:=h.ok;rcases hq with rfl|⟨gG,bd,g1,g2⟩
 ·exact .inl ⟨c,wy.1 ag⟩
 rw[ag]at g1;cases g1;obtain⟨d,hd⟩:=bD.reads bd q g2;exact .inr ⟨d,s3.1 hd⟩
def fG(a c:bl):Bool:=decide (a.bG=c.bG∧a.bP=c.bP∧a.gI=c.gI)
def td{a c:bl}:fG a c=true↔a.bG=c.bG∧a.bP=c.bP∧a.gI=c.gI:=by unfold fG;rw[e2]
def oz(a:bl):fG a a=true:=td.2 ⟨rfl,rfl,rfl⟩
def s9(a c:bl):fG a c=fG c a:=by
 rw[kQ,td,td];exact⟨λ⟨x,y,z⟩=>⟨x.symm,y.symm,z.symm⟩,λ⟨x,y,z⟩=>⟨x.symm,y.symm,z.symm⟩⟩
def s6{a c d:bl}(h1:fG a c=true)(ad:fG c d=true):fG a d=true:=by
 rw[td]at *;exact⟨h1.1.trans ad.1,h1.2.1.trans ad.2.1,h1.2.2.trans ad.2.2⟩
def QS{a c:cG}(h1:a.gp=c.gp)(ad:a.cc=c.cc)(aB:a.hx=c.hx)(aV:a.er=c.er)(ba:a.lr=c.lr):a=c:=by
 cases a;cases c;simp_all
def YN{b:Int}{m sM:cG}(h:sh 1 b m)(cU:sh 1 b sM)(e:m.cc=sM.cc):m=sM:=
 QS (by rw[h.NP I,cU.NP I]) e (by rw[h.iA (by decide),cU.iA (by decide)]) (by rw[h.ac9 (by decide),cU.ac9 (by decide)]) (by rw[h.NQ (by decide),cU.NQ (by decide)])
def aky{m sM:cG}(h:sh 2 32 m)(cU:sh 2 32 sM)(e:dT m.cc m.er.toNat=dT sM.cc sM.er.toNat):m=sM:=by
 have hp:=h.pre;have hp':=cU.pre;obtain⟨n,aM⟩:=pK hp'.1;rw[aM,Int.toNat_natCast]at e;obtain⟨av,aS⟩:=(QR h (by omega)).1 e;have cM:m.er=sM.er:=by omega
 have ada:m.gp=sM.gp:=by
  cases g1:m.gp <;> cases g2:sM.gp
  ·rfl
  ·have:=cU.TT I g2;have:=h.off g1;have bC:(default:cG).er=0:=rfl;rw[this,bC]at cM;omega
  ·have:=h.TT I g1;have:=cU.off g2;have bC:(default:cG).er=0:=rfl;rw[this,bC]at cM;omega
  rfl
 refine QS ada (Ih λj aC=>?_) (by rw[h.iA (by decide),cU.iA (by decide)]) cM (by rw[h.NQ (by decide),cU.NQ (by decide)]);cases an:lead 32 m.er j with
 |true=>exact(aS j aC an).symm
 | false=>
   have py:cq m.cc j=false:=by
    rw[pN];intro bc;have:=h.TU I j aC bc;rw[(DV hp.1 hp.2).2 this]at an;cases an
   have uL:cq sM.cc j=false:=by
    rw[pN];intro bc;have:=cU.TU I j aC bc;rw[cM,(DV hp'.1 hp'.2).2 this]at an;cases an
   rw[py,uL]
def Ng{α:Type}[Inhabited α]{l:aa α}(h:l.length=1):l=[ax l 0]:=by
 match l,h with
 |[x],_=>rfl
def acg{α:Type}[Inhabited α]{l:aa α}(h:l.length=2):l=[ax l 0,ax l 1]:=by
 match l,h with
 |[x,y],_=>rfl
def JO{s:aZ}(h:b7 s){a c:bl}(aY:fE s 0 a)(ag:fE s 0 c):fG a c=true↔fq a=fq c:=by
 rw[td];have bI:=aY.len;have lc:=ag.len;have Kg:=aY.xu 0;have ql:=ag.xu 0;have Ob:=aY.pri;have Oc:=ag.pri;rw[h.MW]at bI lc Kg ql Ob Oc;have hk:∀i,i<[sK].length->(ax [sK] i).dQ<=2:=by decide
 refine⟨λ⟨h1,ad,aB⟩=>by unfold fq;rw[ad],λe=>⟨by rw[aY.fF,ag.fF],?_,by rw[Ob hk,Oc hk]⟩⟩;have hr:=(IX.1 e).1;rw[ow (by decide),ow (by decide),bI,lc]at hr;have hr:(ax a.bP 0).cc=(ax c.bP 0).cc:=hr;rw[Ng (l:=a.bP) bI,Ng (l:=c.bP) lc,YN (Kg (by decide)) (ql (by decide)) hr]
def EU{s:aZ}(h:b7 s){a c:bl}(aY:fE s 1 a)(ag:fE s 1 c):fG a c=true↔hI (fq a)=hI (fq c)∧ly a=ly c:=by
 rw[td];have bI:=aY.len;have lc:=ag.len;have Kg:=aY.xu 1;have ql:=ag.xu 1;have Ob:=Nf h aY;have Oc:=Nf h ag;have m0:=yM h aY;have asO:=yM h ag;obtain⟨b,hb⟩:=h.Ix;rw[hb]at bI lc Kg ql;refine⟨λ⟨h1,ad,aB⟩=>by unfold fq ly;rw[ad];exact⟨rfl,rfl⟩,λ⟨e,e'⟩=>⟨by rw[aY.fF,ag.fF],?_,by rw[Ob,Oc]⟩⟩;have bC:=aky m0 asO e';cases b
 ·rw[Ng (l:=a.bP) bI,Ng (l:=c.bP) lc,bC]
 have av:=(IX.1 e).2.1;rw[Ma,Ma,bf (by decide),bf (by decide),ow (by decide),ow (by decide),bI,lc]at av;have av:(ax a.bP 1).cc=(ax c.bP 1).cc:=av;rw[acg (l:=a.bP) bI,acg (l:=c.bP) lc,bC,YN (Kg (by decide)) (ql (by decide)) av]
structure ia(s:aZ)(k:Nat)(l:List aH):Prop where
 ok:kr s k l
 key:l.Pairwise λa c=>fG a.aX c.aX=false
def ia.uniq{s:aZ}{k:Nat}{l:aa aH}(h:ia s k l){a c:aH}(aY:a∈l)(ag:c∈l)(e:fG a.aX c.aX=true):a=c:=by
 have aM:=h.key;clear h;induction l with
 |nil=>cases aY
 | cons x l cg=>
   obtain⟨h1,ad⟩:=kz.1 aM
   rcases dP.1 aY with g1|g1 <;> rcases dP.1 ag with g2|g2
   ·rw[g1,g2]
   ·rw[g1,h1 c g2]at e;cases e
   ·rw[g2,s9,h1 a g1]at e;cases e
   exact cg g1 g2 ad
def dw(l:aa aH)(e:bl):aE aH:=l.find? λi=>fG i.aX e
def o7{l:aa aH}{e:bl}{i:aH}(h:dw l e=some i):i∈l∧fG i.aX e=true:=by
 unfold dw at h;have ad:=O5 h;exact⟨Ch h,ad⟩
def uc{l:aa aH}{e:bl}(h:dw l e=none):∀i∈l,fG i.aX e=false:=λi aq=>by
 have:=xL.1 h i aq;simpa using this
def ia.RI{s:aZ}{k:Nat}{l:aa aH}(h:ia s k l){e:bl}{i:aH}(aq:i∈l)(hk:fG i.aX e=true):dw l e=some i:=by
 cases aW:dw l e with
 |none=>rw[uc aW i aq]at hk;cases hk
 | some c=>
   obtain⟨h1,ad⟩:=o7 aW
   rw[h.uniq h1 aq (s6 ad (by rw[s9];exact hk))]
def q3(o:aE aH):Int×Bool:=match o with |some i=>(i.b0,true)|none=>(0,false)
def YO{i:aH}{n:Int}(h:i.b0=n):q3 (some i)=(n,true):=by rw[<-h];rfl
def pJ{α β:Type}(l:aa (α×β)):Prop:=l.Pairwise λa c=>a.1≠c.1
def XU{α β:Type}[DecidableEq α]:∀{l:aa (α×β)} {x:α} {v:β} {a:α×β},a∈gS l x v->a.1=x∨a∈l
 | [],x,v,a,h=>by
   have:a=(x,v):=by simpa[gS]using h
   rw[this];exact .inl I
 | (k,w)::r,x,v,a,h=>by
   unfold gS at h;split at h
   ·rcases dP.1 h with h|h
    ·rw[h];exact .inl I
    exact .inr (by simp[h])
   rcases dP.1 h with h|h
   ·exact .inr (by simp[h])
   exact(XU h).imp id λh=>gx _ h
def pJ.put{α β:Type}[DecidableEq α]:∀{l:aa (α×β)} {x:α} {v:β},pJ l->pJ (gS l x v)
 |[],x,v,_=>by unfold gS pJ;simp
 | (k,w)::r,x,v,h=>by
   obtain⟨h1,ad⟩:=kz.1 h;unfold gS;split
   ·rename_i e;refine kz.2 ⟨λa aY=>?_,ad⟩;have:=h1 a aY;rw[e];exact this
   rename_i e;refine kz.2 ⟨λa aY=>?_,pJ.put ad⟩;rcases XU aY with g|g
   ·rw[g];exact λe'=>e e'.symm
   exact h1 a g
def XV{α β:Type}[DecidableEq α]:∀{l:aa (α×β)} {x:α} {a:α×β},a∈ju l x->a∈l
 |[],x,a,h=>by cases h
 | (k,w)::r,x,a,h=>by
   unfold ju at h;split at h
   ·exact gx _ h
   rcases dP.1 h with h|h
   ·simp[h]
   exact gx _ (XV h)
def pJ.del{α β:Type}[DecidableEq α]:∀{l:aa (α×β)} {x:α},pJ l->pJ (ju l x)
 |[],x,_=>by unfold ju pJ;exact .nil
 | (k,w)::r,x,h=>by
   obtain⟨h1,ad⟩:=kz.1 h;unfold ju;split
   ·exact ad
   exact kz.2 ⟨λa aY=>h1 a (XV aY),pJ.del ad⟩
def YP{α β:Type}[DecidableEq α]:∀{l:aa (α×β)} {x:α},(∀a∈l,a.1≠x)->dG l x=none
 |[],_,_=>rfl
 | (k,w)::r,x,h=>by
   unfold dG;rw[bf λe=>h (k,w) (by simp) e.symm,YP λa aY=>h a (by simp[aY])]
def Dy{α β:Type}[DecidableEq α]:∀{l:aa (α×β)} {x y:α},pJ l->dG (ju l x) y=if y=x then none else dG l y
 | [],x,y,_=>by
   show none=if y=x then none else none;split <;> rfl
 | (k,w)::r,x,y,h=>by
   obtain⟨h1,ad⟩:=kz.1 h;unfold ju;by_cases e:x=k
   ·rw[bh e];by_cases aS:y=x
    ·rw[bh aS,aS,e];exact YP λa aY=>(h1 a aY).symm
    rw[bf aS];show _=if y=k then _ else _;rw[bf (by rw[<-e];exact aS)]
   rw[bf e];show(if y=k then some w else dG (ju r x) y)=_;by_cases aS:y=k
   ·rw[bh aS,bf (by rw[aS];exact λcM=>e cM.symm)];show _=if y=k then _ else _;rw[bh aS]
   rw[bf aS,Dy ad];show _=if y=x then none else if y=k then _ else _;rw[bf aS]
structure AR(s:aZ)(hp:aL Cell)(q:Nat)(l:List aH)(own:Nat->Prop):Prop where
 ok:∃m em,nY hp q=some ⟨⟨some m⟩⟩∧nu hp m=some em∧own q∧own m∧(∀c5 n,dG em c5=some n↔∃i∈l,fq i.aX=c5∧i.b0=n)∧pJ em
structure pc(s:aZ)(hp:aL Cell)(m:Nat)(l:List aH)(own:Nat->Prop):Prop where
 ok:∃em,lK hp m=some em∧own m∧
  (∀c5 r,dG em c5=some r->∃t g,r=some t∧kT hp t g∧(∀q,Own hp t q->own q)∧∀bd n,g bd=some n↔∃i∈l,hI (fq i.aX)=c5∧ly i.aX=bd∧i.b0=n)∧
  (∀c5,dG em c5=none->∀i∈l,hI (fq i.aX)≠c5)∧
  (∀c5 lS t gk,dG em c5=some (some t)->dG em lS=some (some gk)->c5≠lS->∀q,Own hp t q->¬Own hp gk q)∧pJ em
structure AS(s:aZ)(k:Nat)(hp:aL Cell)(q:Nat)(l:List aH)(own:Nat->Prop):Prop where
 ok:∃key cap,ry hp q=some (rB s k l,key,cap)∧own q
def tj(s:aZ)(k:Nat)(hp:aL Cell)(f:iK)(l:aa aH)(own:Nat->Prop):Prop:=
 (k=0∧∃q,f=.pn ⟨some q⟩∧AR s hp q l own)∨(k=1∧∃m,f=.po ⟨0,32,⟨some m⟩⟩∧pc s hp m l own)∨(2<=k∧∃q,f=.pq ⟨some q⟩∧AS s k hp q l own)
def PM{hp hp':aL Cell}{p:Nat}(h:pat hp' p=pat hp p):nY hp' p=nY hp p:=by unfold nY;rw[h]
def agO{hp hp':aL Cell}{p:Nat}(h:pat hp' p=pat hp p):nu hp' p=nu hp p:=by unfold nu;rw[h]
def Lv{hp hp':aL Cell}{p:Nat}(h:pat hp' p=pat hp p):lK hp' p=lK hp p:=by unfold lK;rw[h]
def agP{hp hp':aL Cell}{p:Nat}(h:pat hp' p=pat hp p):ry hp' p=ry hp p:=by unfold ry;rw[h]
def agQ{hp hp':aL Cell}{p:Nat}(h:pat hp' p=pat hp p):jb hp' p=jb hp p:=by unfold jb;rw[h]
def agR{hp hp':aL Cell}{p:Nat}(h:pat hp' p=pat hp p):mT hp' p=mT hp p:=by unfold mT;rw[h]
def tj.congr{s:aZ}{k:Nat}{hp hp':aL Cell}{f:iK}{l:aa aH}{own:Nat->Prop}(h:tj s k hp f l own){own':Nat->Prop}(a6:∀q,q∈eb hp->own q->own' q)(aY:∀q,own q->pat hp' q=pat hp q):tj s k hp' f l own':=by
 rcases h with⟨rfl,q,rfl,h⟩|⟨rfl,m,rfl,h⟩|⟨hk,q,rfl,h⟩
 ·obtain⟨m,em,h1,ad,aB,aV,ba,kn⟩:=h.ok;refine .inl ⟨rfl,q,rfl,⟨m,em,by rw[PM (aY q aB)];exact h1,by rw[agO (aY m aV)];exact ad,a6 q (ki (Ii h1)) aB,a6 m (ki (vo ad)) aV,ba,kn⟩⟩
 ·obtain⟨em,h1,ad,aB,aV,ba,kn⟩:=h.ok;have key:∀c5 r,dG em c5=some r->∃t g,r=some t∧kT hp t g∧kT hp' t g∧(∀q,Own hp t q->own q)∧(∀q,Own hp' t q↔Own hp t q)∧∀bd n,g bd=some n↔∃i∈l,hI (fq i.aX)=c5∧ly i.aX=bd∧i.b0=n:=λc5 r aG=>by
   obtain⟨t,g,rfl,g1,g2,g3⟩:=aB c5 r aG;obtain⟨g4,g5⟩:=g1.congr λq hq=>aY q (g2 q hq);exact⟨t,g,rfl,g1,g4,g2,g5,g3⟩
  refine .inr (.inl ⟨rfl,m,rfl,⟨em,by rw[Lv (aY m ad)];exact h1,a6 m (ki (pa h1)) ad,λc5 r aG=>?_,aV,λc5 lS t gk bD BT di q hq=>?_,kn⟩⟩)
  ·obtain⟨t,g,rfl,g0,g1,g2,g3,g4⟩:=key c5 r aG;exact⟨t,g,rfl,g1,λq hq=>a6 q (g0.AQ ((g3 q).1 hq)) (g2 q ((g3 q).1 hq)),g4⟩
  obtain⟨_,g,e,g0,g1,g2,g3,g4⟩:=key c5 _ bD;obtain⟨_,ek,e',auL,asP,asQ,asR,auM⟩:=key lS _ BT;cases e;cases e';rw[asR];exact ba c5 lS t gk bD BT di q ((g3 q).1 hq)
 obtain⟨key,cap,h1,ad⟩:=h.ok;exact .inr (.inr ⟨hk,q,rfl,⟨key,cap,by rw[agP (aY q ad)];exact h1,a6 q (ki (yj h1)) ad⟩⟩)
def Mb{e:bl}(an:e.bP.length<=4):x3 e=some (fq e):=by
 refine a8.get ?_;unfold x3;refine .eq (a:=e.bP) (by unfold mQ;rw[bh ⟨by omega,by omega,by omega⟩,Int.toNat_zero,wh,Nat.sub_zero,pL (by omega)]) ?_;refine a8.loop e.bP.length (λi st=>st.1=(i:Int)∧∀j,j<4->bE st.2 j=if j<i then(ax e.bP j).cc else default) (by omega) ⟨rfl,λj aC=>by rw[Lj];rfl⟩ (λi st aq hs=>?_) (λst hs=>?_)
 ·obtain⟨j,v⟩:=st;obtain⟨av,aS⟩:=hs;simp only at av aS;subst av;refine .cond (λ_=>?_) (λag=>by simp at ag;omega);refine .idx I aq (.idx I (by omega) (.ret ⟨dB (by omega),λj aC=>?_⟩));rw[jF _ _ (by omega)];by_cases jN:j=i
  ·rw[bh jN,bh (by omega),jN]
  rw[bf jN,aS j aC];by_cases h:j<i
  ·rw[bh h,bh (by omega)]
  rw[bf h,bf (by omega)]
 obtain⟨j,v⟩:=st;obtain⟨av,aS⟩:=hs;simp only at av aS;subst av;refine⟨_,by simp;rfl,.ret ?_⟩;exact Qg λj aC=>by rw[aS j aC,ow aC]
def fE.Nh{s:aZ}(h:b7 s){k:Nat}(hk:k<4){e:bl}(he:fE s k e):e.bP.length<=4∧1<=e.bP.length:=by
 have:=(h.fF hk).2.1;rw[he.len];omega
def ai9{a c:aa cG}(an:a.length<=1000):Fw a c=some (decide (a=c)):=by
 refine a8.get ?_;unfold Fw;refine .cond (λh=>.ret ?_) λh=>?_
 ·have:a≠c:=λe=>by rw[e]at h;simp at h
  simp[this]
 have nG:c.length=a.length:=by
  have:(a.length:Int)=c.length:=by simpa using h
  omega
 refine a8.loop a.length (λi st=>st=(i:Int)∧∀j,j<i->ax a j=ax c j) (by omega) ⟨rfl,λj aC=>by omega⟩ (λi st aq hs=>?_) (λst hs=>?_)
 ·obtain⟨rfl,hs⟩:=hs;refine .cond (λ_=>?_) (λag=>by simp at ag;omega);refine .idx I aq (.idx I (by omega) (.cond (λdi=>.ret ?_) λhe=>.ret ⟨dB (by omega),λj aC=>?_⟩))
  ·simp only[Sum.elim_inr];refine .ret ?_;have:a≠c:=λe=>by rw[e]at di;simp at di
   simp[this]
  by_cases jN:j=i
  ·subst jN;simpa using he
  exact hs j (by omega)
 obtain⟨rfl,hs⟩:=hs;refine⟨_,by simp;rfl,?_⟩;simp only[Sum.elim_inl];refine .ret ?_;have:a=c:=FV nG.symm λj h1 ad=>by
  have:=hs j h1;rwa[dz _ h1,dz _ ad]at this
 simp[this]
def ahq{a c:bl}(an:a.bP.length<=1000):G2 a c=some (fG a c):=by
 refine a8.get ?_;unfold G2 fG;refine .b1 (P:=λr=>r=decide (a.bP=c.bP)) (λ_=>⟨_,ai9 an,rfl⟩) λy aR=>.ret ?_;by_cases h:a.bG=c.bG
 ·rw[aR (by simpa using h)];rw[kQ];simp[h]
 simp[h]
def aoc{s:aZ}(h:b7 s){hp:aL Cell}{q:Nat}{l:aa aH}{own:Nat->Prop}(hq:AR s hp q l own)(an:ia s 0 l){e:bl}(he:fE s 0 e):Gy hp ⟨some q⟩ e=some (q3 (dw l e)):=by
 obtain⟨m,em,h1,ad,_,_,ba,_⟩:=hq.ok;refine a8.get ?_;unfold Gy xW;refine .eq (Mb (he.Nh h (by decide)).1) ?_;have hm:dG em (fq e)=(dw l e).map (·.b0):=by
  cases aW:dw l e with
  | none=>
    cases bu:dG em (fq e)with
    |none=>rfl
    | some n=>
      obtain⟨i,aq,bq,_⟩:=(ba _ _).1 bu
      have:=uc aW i aq
      rw[(JO h (an.ok.ok i aq).dr he).2 bq]at this;cases this
  | some i=>
    obtain⟨aq,hk⟩:=o7 aW
    exact(ba _ _).2 ⟨i,aq,(JO h (an.ok.ok i aq).dr he).1 hk,rfl⟩
 refine .eq (a:=q3 (dw l e)) ?_ (.ret I);show(nY hp q).bind _=_;rw[h1];show(nu hp m).bind _=_;rw[ad];show some ((dG em (fq e)).getD default,(dG em (fq e)).isSome)=_;rw[hm];cases dw l e <;> rfl
def QT{s:aZ}(h:b7 s){e:bl}(he:fE s 1 e)(m:fj):zJ ⟨0,32,m⟩ e=some (hI (fq e),(ax e.bP 0).cc,(ax e.bP 0).er):=by
 have an:=he.Nh h (by decide);refine a8.get ?_;unfold zJ Cu;refine .eq (Mb an.1) (.eq (a:=(hI (fq e),bE (fq e) 0)) I (.cond (λag=>by have ag:(0:Int)>=(e.bP.length:Int):=xM ag;omega) λ_=>.idx (k:=0) I (by omega) (.ret ?_)));rw[ow (by decide),bh (by omega)]
def Qj{m:cG}(h:sh 2 32 m):∀j,j<128->cq m.cc j=true->lead 32 m.er j=true:=λj aC bc=>
 (DV h.pre.1 h.pre.2).2 (h.TU I j aC bc)
def aod{s:aZ}(h:b7 s){hp:aL Cell}{m:Nat}{l:aa aH}{own:Nat->Prop}(hq:pc s hp m l own)(an:ia s 1 l){e:bl}(he:fE s 1 e):F3 hp ⟨0,32,⟨some m⟩⟩ e=some (q3 (dw l e)):=by
 obtain⟨em,h1,_,aB,aV,_⟩:=hq.ok;have h8:=yM h he;refine a8.get ?_;unfold F3;refine .eq (QT h he _) (.eq I (.eq h1 (.eq I ?_)));obtain⟨n,aM⟩:=pK h8.pre.1;have IY:n<=32:=by have:=h8.pre.2;omega
 have yz:=Qj h8;refine .eq (a:=q3 (dw l e)) ?_ (.ret I);simp only;cases aG:dG em (hI (fq e))with
 | none=>
   have aW:dw l e=none:=by
    cases aW:dw l e with
    |none=>rfl
    | some i=>
      obtain⟨aq,hk⟩:=o7 aW
      exact absurd ((EU h (an.ok.ok i aq).dr he).1 hk).1 (aV _ aG i aq)
   rw[aW];rfl
 | some r=>
   obtain⟨t,g,rfl,g1,_,g3⟩:=aB _ _ aG
   have bu:g (ly e)=(dw l e).map (·.b0):=by
    cases aW:dw l e with
    | none=>
      cases T1:g (ly e)with
      |none=>rfl
      | some n=>
        obtain⟨i,aq,bq,c0,_⟩:=(g3 _ _).1 T1
        have:=uc aW i aq
        rw[(EU h (an.ok.ok i aq).dr he).2 ⟨bq,c0⟩]at this;cases this
    | some i=>
      obtain⟨aq,hk⟩:=o7 aW
      obtain⟨bq,c0⟩:=(EU h (an.ok.ok i aq).dr he).1 hk
      exact(g3 _ _).2 ⟨i,aq,bq,c0,rfl⟩
   rw[aM]at yz⊢
   show z7 hp (some t) _ (n:Int)=_
   rw[Zn g1 IY yz]
   have hp':dT (ax e.bP 0).cc n=ly e:=by unfold ly;rw[aM];rfl
   rw[hp',bu]
   cases dw l e <;> rfl
def aoe{s:aZ}(h:b7 s){k:Nat}(hk:k<4){hp:aL Cell}{q:Nat}{l:aa aH}{own:Nat->Prop}(hq:AS s k hp q l own)(an:ia s k l){e:bl}(he:fE s k e):GD hp ⟨some q⟩ e=some (q3 (dw l e)):=by
 obtain⟨key,cap,h1,_⟩:=hq.ok;refine a8.get ?_;unfold GD;refine .eq I (.eq h1 (.eq (alB h hk an.ok) ?_));obtain⟨ky,hg⟩:=an.ok.eX;have aW:dw l e=(eX (eS s k) l).find? λi=>fG i.aX e:=by
  cases aW:dw l e with
  | none=>
    symm
    rw[xL]
    intro x au
    rw[uc aW x (rr.1 au)];simp
  | some i=>
    obtain⟨aq,rN⟩:=o7 aW
    exact(L9 (uj s k) an.ok.ze aq rN λd hd asS=>.inl (an.uniq hd aq (s6 asS (by rw[s9];exact rN)))).symm
 rw[aW];refine a8.loop (eX (eS s k) l).length (λi st=>st=(i:Int)∧∀j,j<i->fG (ax (eX (eS s k) l) j).aX e=false) (by omega) ⟨rfl,λj aC=>by omega⟩ (λi st aq hs=>?_) (λst hs=>?_)
 ·obtain⟨rfl,hs⟩:=hs;refine .cond (λ_=>?_) (λag=>by simp at ag;omega);have hm:=ky (ax (eX (eS s k) l) i) (by rw[dz _ aq];exact j0 _);refine .idx I aq (.eq (ahq (hm.small h hk).1) (.cond (λag=>.ret ?_) λag=>.ret ⟨dB (by omega),λj aC=>?_⟩))
  ·simp only[Sum.elim_inr];refine .ret ?_;rw[QJ (p:=λi=>fG i.aX e) aq ag hs];rfl
  by_cases jN:j=i
  ·subst jN;exact ag
  exact hs j (by omega)
 obtain⟨rfl,hs⟩:=hs;refine⟨_,by simp;rfl,?_⟩;simp only[Sum.elim_inl];refine .ret ?_;rw[QK λc ag=>?_]
 ·rfl
 obtain⟨j,aC,rfl⟩:=xK.1 ag;rw[<-dz _ aC];exact hs j aC
def aaT{s:aZ}(h:b7 s){k:Nat}(hk:k<4){hp:aL Cell}{f:iK}{l:aa aH}{own:Nat->Prop}(hq:tj s k hp f l own)(an:ia s k l){e:bl}(he:fE s k e):KX hp f e=some (q3 (dw l e)):=by
 rcases hq with⟨rfl,q,rfl,hq⟩|⟨rfl,m,rfl,hq⟩|⟨c4,q,rfl,hq⟩
 ·exact aoc h hq an he
 ·exact aod h hq an he
 exact aoe h hk hq an he
def j9(s:aZ)(k:Nat)(l:aa aH)(p:Vector aN 4):aE aH:=(eX (eS s k) l).find? λc=>mt s k p c.aX
def YQ{s:aZ}{k:Nat}{l:aa aH}{p:Vector aN 4}{i:aH}(h:j9 s k l p=some i):i∈l:=by
 unfold j9 at h;exact rr.1 (Ch h)
def aof{s:aZ}(h:b7 s){k:Nat}(hk:k<4)(p:Vector aN 4)(e:bl):mt s k (ng (jj s k) p) e=mt s k p e:=by
 unfold mt;rw[kQ,lk,lk];have an:=(h.fF hk).2.1;have key:∀i∈List.range (ax s.bK k).cn.length,bE (ng (jj s k) p) i=bE p i:=λi aq=>by
  have:=lF.1 aq;rw[qy (by omega),bh (show i<jj s k from this)]
 exact⟨λh1 i aq=>by have:=h1 i aq;rwa[key i aq]at this,λh1 i aq=>by rw[key i aq];exact h1 i aq⟩
def aog{s:aZ}(h:b7 s){hp:aL Cell}{q:Nat}{l:aa aH}{own:Nat->Prop}(hq:AR s hp q l own)(an:ia s 0 l)(p:Vector aN 4):FX hp ⟨some q⟩ (ng (jj s 0) p)=some (q3 (j9 s 0 l p)):=by
 obtain⟨m,em,h1,ad,_,_,ba,_⟩:=hq.ok;have hb:=aob h an.ok p (o:=dG em (ng (jj s 0) p)) λn=>ba _ n;refine a8.get ?_;unfold FX xW;refine .eq (a:=q3 (j9 s 0 l p)) ?_ (.ret I);show(nY hp q).bind _=_;rw[h1];show(nu hp m).bind _=_;rw[ad];show some ((dG em (ng (jj s 0) p)).getD default,(dG em (ng (jj s 0) p)).isSome)=_;cases bu:dG em (ng (jj s 0) p)with
 | none=>
   have hb:j9 s 0 l p=none:=hb.2 bu
   rw[hb];rfl
 | some n=>
   obtain⟨i,_,av,aS⟩:=hb.1 n bu
   have aS:j9 s 0 l p=some i:=aS
   rw[aS,YO av];rfl
def aaU{g:aa Bool->aE Int}(h:∀bd,g bd=none)(v:aN):∀m,lD g v m=none
 |0=>by unfold lD;rw[h];rfl
 |m+1=>by unfold lD;rw[h];exact aaU h v m
def aoh{s:aZ}(h:b7 s){hp:aL Cell}{m:Nat}{l:aa aH}{own:Nat->Prop}(hq:pc s hp m l own)(an:ia s 1 l)(p:Vector aN 4):FH hp ⟨0,32,⟨some m⟩⟩ (ng (jj s 1) p)=some (q3 (j9 s 1 l p)):=by
 obtain⟨em,h1,_,aB,aV,_⟩:=hq.ok;have aM:1<=jj s 1:=(h.fF (show 1<4 by decide)).2.1.1;refine a8.get ?_;unfold FH Cu;refine .eq (a:=(hI (ng (jj s 1) p),bE p 0)) (by show some (hI (ng (jj s 1) p),bE (ng (jj s 1) p) 0)=_;rw[qy (by decide),bh (by omega)]) (.eq I (.eq h1 (.eq I ((QN 32).bind λaF aS=>.eq (and_eq _ _) ?_))));simp only;have bc:∀j,j<128->cq (w8 (bE p 0) aF) j=(cq (bE p 0) j&&decide (j<32)):=λj aC=>by
  rw[DH,aS j aC];congr 1;rw[q7];omega
 cases aG:dG em (hI (ng (jj s 1) p))with
 | none=>
   have hb:=aaS h an.ok p bc (g:=λ_=>none) λbd n=>⟨λh=>(by cases h),λ⟨i,aq,bq,_⟩=>absurd bq (aV _ aG i aq)⟩
   rw[aaU (λ_=>rfl)]at hb
   have hb:j9 s 1 l p=none:=hb
   rw[hb]
   exact .eq I (.ret I)
 | some r=>
   obtain⟨t,g,rfl,g1,_,g3⟩:=aB _ _ aG
   have hb:=aaS h an.ok p bc g3
   have hs:Small (w8 (bE p 0) aF):=λj aC hb=>by
    rw[bc j aC,gm,e2]at hb;exact hb.2
   refine .eq (ahp g1 hs) (.ret ?_)
   cases NU:lD g (w8 (bE p 0) aF) 32 with
   | none=>
     rw[NU]at hb
     have hb:j9 s 1 l p=none:=hb
     rw[hb];rfl
   | some r=>
     rw[NU]at hb
     obtain⟨i,_,av,cM⟩:=hb
     have cM:j9 s 1 l p=some i:=cM
     rw[cM,YO av];rfl
def aoi{s:aZ}(h:b7 s){k:Nat}(hk:k<4){hp:aL Cell}{q:Nat}{l:aa aH}{own:Nat->Prop}(hq:AS s k hp q l own)(an:ia s k l)(p:Vector aN 4):F5 hp ⟨some q⟩ (ng (jj s k) p)=some (q3 (j9 s k l p)):=by
 obtain⟨key,cap,h1,_⟩:=hq.ok;refine a8.get ?_;unfold F5;refine .eq I (.eq h1 (.eq (ahn h hk an.ok _) (.ret ?_)));have:((eX (eS s k) l).find? λc=>mt s k (ng (jj s k) p) c.aX)=j9 s k l p:=by
  unfold j9;congr 1;funext c;exact aof h hk p c.aX
 rw[this];cases j9 s k l p <;> rfl
def aoj{s:aZ}(h:b7 s){k:Nat}(hk:k<4){hp:aL Cell}{f:iK}{l:aa aH}{own:Nat->Prop}(hq:tj s k hp f l own)(an:ia s k l)(p:Vector aN 4):OW hp f (ng (jj s k) p)=some (q3 (j9 s k l p)):=by
 rcases hq with⟨rfl,q,rfl,hq⟩|⟨rfl,m,rfl,hq⟩|⟨c4,q,rfl,hq⟩
 ·exact aog h hq an p
 ·exact aoh h hq an p
 exact aoi h hk hq an p
def oF(own:Nat->Prop)(hp hp':aL Cell)(q:Nat):Prop:=own q∨(q∉eb hp∧q∈eb hp')
def XW{hp:aL Cell}{p:Nat}{k:Cell}{x:aa (Vector aN 4×Int)}(h:pat hp p=some k):nu (cL hp p (.rC x)) p=some x:=by unfold nu;rw[tc h]
def XX{hp:aL Cell}{p:Nat}{k:Cell}{x:aa (Vector aN 4×Ref)}(h:pat hp p=some k):lK (cL hp p (.oH x)) p=some x:=by unfold lK;rw[tc h]
def aro{s:aZ}(h:b7 s){hp:aL Cell}{q:Nat}{l:aa aH}{own:Nat->Prop}(hq:AR s hp q l own)(an:ia s 0 l){i:aH}(aq:kq s 0 i)(aW:dw l i.aX=none):
 a8 (GJ hp ⟨some q⟩ i) (λhp'=>AR s hp' q (l++[i]) (oF own hp hp')∧fp hp hp' own):=by
 obtain⟨m,em,h1,ad,aB,aV,ba,kn⟩:=hq.ok
 have fJ:dG em (fq i.aX)=none:=by
  cases bu:dG em (fq i.aX)with
  |none=>rfl
  | some n=>
    obtain⟨c,ag,bq,_⟩:=(ba _ _).1 bu
    have:=uc aW c ag
    rw[(JO h (an.ok.ok c ag).dr aq.dr).2 bq]at this;cases this
 unfold GJ La
 refine .eq (Mb (aq.dr.Nh h (by decide)).1) ?_
 refine .eq (a:=(true,cL hp m (Cell.rC (gS em (fq i.aX) i.b0)))) ?_ (.ret ?_)
 ·show(nY hp q).bind _=_
  rw[h1]
  show(nu hp m).bind _=_
  rw[ad]
  show cond (dG em (fq i.aX)).isSome _ _=_
  rw[fJ]
  show(nY hp q).bind _=_
  rw[h1]
  show(nu hp m).bind _=_
  rw[ad];rfl
 have BU:q≠m:=λe=>by
  subst e;have:=Ii h1;rw[vo ad]at this;cases this
 refine⟨⟨m,_,by rw[PM (nm BU.symm)];exact h1,XW (vo ad),.inl aB,.inl aV,λc5 n=>?_,kn.put⟩,.up aV⟩
 rw[wx]
 by_cases iB:c5=fq i.aX
 ·rw[bh iB]
  constructor
  ·intro e
   cases e
   exact⟨i,by simp,iB.symm,rfl⟩
  rintro ⟨c,ag,bq,c0⟩
  rcases cF.1 ag with ag|ag
  ·have:=(ba _ _).2 ⟨c,ag,bq,c0⟩
   rw[iB,fJ]at this;cases this
  rw[hT.1 ag]at c0;rw[c0]
 rw[bf iB,ba]
 constructor
 ·rintro ⟨c,ag,bq⟩;exact⟨c,by simp[ag],bq⟩
 rintro ⟨c,ag,bq,c0⟩
 rcases cF.1 ag with ag|ag
 ·exact⟨c,ag,bq,c0⟩
 rw[hT.1 ag]at bq;exact absurd bq.symm iB
def arp{s:aZ}(h:b7 s){hp:aL Cell}{m:Nat}{l:aa aH}{own:Nat->Prop}(hq:pc s hp m l own)(hf:∀q,own q->q∈eb hp)(an:ia s 1 l){i:aH}(aq:kq s 1 i)(aW:dw l i.aX=none)
 {em:aa (Vector aN 4×Ref)} (oQ:lK hp m=some em) {t:Nat} (bD:dG em (hI (fq i.aX))=some (some t)):
 cQ (Dd hp (some t) (ax i.aX.bP 0).cc (ax i.aX.bP 0).er i.b0) (λr=>pc s r.2 m (l++[i]) (oF own hp r.2)∧fp hp r.2 own):=by
 obtain⟨asT,h1,ad,aB,aV,ba,kn⟩:=hq.ok
 rw[oQ]at h1;cases h1
 have h8:=yM h aq.dr
 obtain⟨gk,g,e,g1,g2,g3⟩:=aB _ _ bD
 cases e
 obtain⟨n,aM⟩:=pK h8.pre.1
 have IY:n<=32:=by have:=h8.pre.2;omega
 have yz:=Qj h8
 have hp':dT (ax i.aX.bP 0).cc n=ly i.aX:=by unfold ly;rw[aM];rfl
 have fJ:g (ly i.aX)=none:=by
  cases T1:g (ly i.aX)with
  |none=>rfl
  | some n=>
    obtain⟨c,ag,bq,c0,_⟩:=(g3 _ _).1 T1
    have:=uc aW c ag
    rw[(EU h (an.ok.ok c ag).dr aq.dr).2 ⟨bq,c0⟩]at this;cases this
 rw[aM]at yz⊢
 refine(an9 g1 IY yz i.b0 (by rw[hp'];exact fJ)).mono λr aG=>?_
 obtain⟨_,ky,hg,rS⟩:=aG
 rw[hp']at ky
 have ET:∀q,Own hp t q->q≠m:=λq T2 e=>by
  have:=pa oQ;rw[<-e]at this;rcases g1.Mu T2 with⟨c,ag⟩|⟨c,ag⟩ <;> rw[ag]at this <;> cases this
 have nI:pat r.2 m=pat hp m:=hg.rest m (ki (pa oQ)) λhq=>ET m hq I
 have vw:∀c5 gk,c5≠hI (fq i.aX)->dG em c5=some (some gk)->∃ek,kT hp gk ek∧kT r.2 gk ek∧(∀q,Own hp gk q->own q)∧(∀q,Own r.2 gk q↔Own hp gk q)∧∀bd n,ek bd=some n↔∃i∈l,hI (fq i.aX)=c5∧ly i.aX=bd∧i.b0=n:=λc5 gk di aG=>by
  obtain⟨asU,ek,e,bX,a2,a3⟩:=aB c5 _ aG;cases e;obtain⟨dL,eF⟩:=bX.congr (hp':=r.2) λq hq=>hg.rest q (bX.AQ hq) λqS=>ba _ _ _ _ bD aG di.symm q qS hq;exact⟨ek,bX,dL,a2,eF,a3⟩
 have IW:∀q,Own r.2 t q->oF own hp r.2 q:=λq hq=>by
  rcases rS q hq with bq|bq
  ·exact .inl (g2 q bq)
  exact .inr ⟨bq,ky.AQ hq⟩
 refine⟨⟨em,by rw[Lv nI];exact oQ,.inl ad,λc5 lW kp=>?_,λc5 iB c ag=>?_,λc5 lS t1 t2 lh l5 di q jO rK=>?_,kn⟩,⟨hg.keys,λq hq fJ=>hg.rest q hq λqS=>fJ (g2 q qS)⟩⟩
 ·by_cases iB:c5=hI (fq i.aX)
  ·subst iB
   rw[bD]at kp;cases kp
   refine⟨t,_,rfl,ky,IW,λbd rV=>?_⟩
   by_cases nb:bd=ly i.aX
   ·simp only[bh nb]
    constructor
    ·intro e;cases e
     exact⟨i,by simp,rfl,nb.symm,rfl⟩
    rintro ⟨c,ag,bq,c0,db⟩
    rcases cF.1 ag with ag|ag
    ·have:=(g3 _ _).2 ⟨c,ag,bq,c0,db⟩
     rw[nb,fJ]at this;cases this
    rw[hT.1 ag]at db;rw[db]
   simp only[bf nb]
   rw[g3]
   constructor
   ·rintro ⟨c,ag,bq⟩;exact⟨c,by simp[ag],bq⟩
   rintro ⟨c,ag,bq,c0,db⟩
   rcases cF.1 ag with ag|ag
   ·exact⟨c,ag,bq,c0,db⟩
   rw[hT.1 ag]at c0;exact absurd c0.symm nb
  obtain⟨gk,ek,e,_⟩:=aB c5 lW kp
  subst e
  obtain⟨BV,bX,a2,a3,a4,a5⟩:=vw c5 gk iB kp
  refine⟨gk,BV,rfl,a2,λq hq=>.inl (a3 q ((a4 q).1 hq)),λbd rV=>?_⟩
  rw[a5]
  constructor
  ·rintro ⟨c,ag,bq⟩;exact⟨c,by simp[ag],bq⟩
  rintro ⟨c,ag,bq,c0⟩
  rcases cF.1 ag with ag|ag
  ·exact⟨c,ag,bq,c0⟩
  rw[hT.1 ag]at bq;exact absurd bq.symm iB
 ·rcases cF.1 ag with ag|ag
  ·exact aV c5 iB c ag
  rw[hT.1 ag]
  intro e
  rw[<-e,bD]at iB;cases iB
 
 have Zo:∀c5 gk,c5≠hI (fq i.aX)->dG em c5=some (some gk)->∀q,Own r.2 t q->¬Own r.2 gk q:=λc5 gk di aG q hq qS=>by
  obtain⟨BV,bX,a2,a3,a4,a5⟩:=vw c5 gk di aG;have qS:=(a4 q).1 qS;rcases rS q hq with bq|bq
  ·exact ba _ _ _ _ bD aG di.symm q bq qS
  exact bq (bX.AQ qS)
 by_cases av:c5=hI (fq i.aX)
 ·subst av
  rw[bD]at lh;cases lh
  exact Zo lS t2 di.symm l5 q jO rK
 by_cases aS:lS=hI (fq i.aX)
 ·subst aS
  rw[bD]at l5;cases l5
  exact Zo c5 t1 av lh q rK jO
 obtain⟨_,_,_,_,a4,_⟩:=vw c5 t1 av lh
 obtain⟨_,_,_,_,Oa,_⟩:=vw lS t2 aS l5
 exact ba _ _ _ _ lh l5 di q ((a4 q).1 jO) ((Oa q).1 rK)
def agn{own:Nat->Prop}{bC h1 ad:aL Cell}{q:Nat}(hk:∀q,q∈eb bC->q∈eb h1)(c4:∀q,q∈eb h1->q∈eb ad)(h:oF (oF own bC h1) h1 ad q):oF own bC ad q:=by
 rcases h with(h|⟨h,cU⟩)|⟨h,cU⟩
 ·exact .inl h
 ·exact .inr ⟨h,c4 q cU⟩
 exact .inr ⟨λaB=>h (hk q aB),cU⟩
def pc.mono{s:aZ}{hp:aL Cell}{m:Nat}{l:aa aH}{own own':Nat->Prop}(h:pc s hp m l own)(a6:∀q,own q->own' q):pc s hp m l own':=by
 obtain⟨em,h1,ad,aB,aV,ba,kn⟩:=h.ok;exact⟨em,h1,a6 m ad,λc5 r aG=>by obtain⟨t,g,e,a,b,c⟩:=aB c5 r aG;exact⟨t,g,e,a,λq hq=>a6 q (b q hq),c⟩,aV,ba,kn⟩
def fp.grow{bC h1 ad:aL Cell}{own:Nat->Prop}(a:fp bC h1 own)(b:fp h1 ad (oF own bC h1)):fp bC ad own:=
 a.trans b λq hq h=>h.elim (λh=>h) λh=>absurd hq h.1
def arq{s:aZ}{hp:aL Cell}{m:Nat}{l:aa aH}{own:Nat->Prop}(hq:pc s hp m l own)
 {em:aa (Vector aN 4×Ref)} (oQ:lK hp m=some em) {c5:Vector aN 4} (fJ:dG em c5=none) {a:Nat} (aY:a∉eb hp) {z:hW} (bV:z.hy=32) (aG:z.eQ=none):
 pc s (cL ((a,Cell.lM z)::hp) m (.oH (gS em c5 (some a)))) m l (oF own hp (cL ((a,Cell.lM z)::hp) m (.oH (gS em c5 (some a)))))∧fp hp (cL ((a,Cell.lM z)::hp) m (.oH (gS em c5 (some a)))) own∧
  lK (cL ((a,Cell.lM z)::hp) m (.oH (gS em c5 (some a)))) m=some (gS em c5 (some a)):=by
 obtain⟨asT,h1,ad,aB,aV,ba,kn⟩:=hq.ok
 rw[oQ]at h1;cases h1
 have nI:=pa oQ
 have adi:=HJ aY nI
 have bS:pat ((a,Cell.lM z)::hp) m=some (.oH em):=by rw[lq,bf adi];exact nI
 generalize bZ:cL ((a,Cell.lM z)::hp) m (.oH (gS em c5 (some a)))=bQ
 have g1:lK bQ m=some (gS em c5 (some a)):=by rw[<-bZ];exact XX bS
 have g2:pat bQ a=some (.lM z):=by rw[<-bZ,nm adi.symm,lq,bh I]
 have g3:∀q,q≠m->q≠a->pat bQ q=pat hp q:=λq BU pD=>by rw[<-bZ,nm BU.symm,lq,bf pD.symm]
 have hk:fp hp bQ own:=by
  rw[<-bZ];exact(fp.mk' (own:=own) aY).trans (fp.up ad) λq _ h=>h
 have adj:gD bQ a=some z:=wy.2 g2
 have aok:kT bQ a (λ_=>none):=⟨z,adj,bV,by rw[aG];exact⟨λbd p h=>(by rw[hY]at h;cases h),λbd cs p h _=>(by rw[hY]at h;cases h),λbd p h=>(by rw[hY]at h;cases h)⟩,λbd=>by rw[aG];exact mj hY⟩
 have Su:∀q,Own bQ a q->q=a:=λq tG=>by
  rcases tG with h|⟨c,bd,bq,c0⟩
  ·exact h
  rw[adj]at bq;cases bq;rw[aG,hY]at c0;cases c0
 have hold:∀t g,kT hp t g->kT bQ t g∧∀q,Own bQ t q↔Own hp t q:=λt g bD=>bD.congr λq tG=>by
  refine g3 q (λe=>?_) λe=>aY (by rw[<-e];exact bD.AQ tG);rw[<-e]at nI;rcases bD.Mu tG with⟨c,ag⟩|⟨c,ag⟩ <;> rw[ag]at nI <;> cases nI
 refine⟨⟨_,g1,.inl ad,λlS r kp=>?_,λlS kp=>?_,λT3 NV t1 t2 lh l5 di q jO rK=>?_,kn.put⟩,hk,g1⟩
 ·rw[wx]at kp
  by_cases e:lS=c5
  ·rw[bh e]at kp;cases kp
   exact⟨a,_,rfl,aok,λq tG=>by rw[Su q tG];exact .inr ⟨aY,ki g2⟩,λbd n=>⟨λh=>(by cases h),λ⟨i,aq,bq,_⟩=>absurd (bq.trans e) (aV c5 fJ i aq)⟩⟩
  rw[bf e]at kp
  obtain⟨t,g,rfl,bX,a2,a3⟩:=aB lS r kp
  obtain⟨dL,eF⟩:=hold t g bX
  exact⟨t,g,rfl,dL,λq tG=>.inl (a2 q ((eF q).1 tG)),a3⟩
 ·rw[wx]at kp
  by_cases e:lS=c5
  ·rw[bh e]at kp;cases kp
  rw[bf e]at kp;exact aV lS kp
 rw[wx]at lh l5
 have au:∀lS gk,dG em lS=some (some gk)->∀q,q=a->¬Own bQ gk q:=λlS gk BT q e tG=>by
  obtain⟨t,g,e',bX,_⟩:=aB lS _ BT;cases e';have:=(hold gk g bX).2 q |>.1 tG;exact aY (by rw[<-e];exact bX.AQ this)
 by_cases av:T3=c5
 ·rw[bh av]at lh;cases lh
  by_cases aS:NV=c5
  ·exact di (av.trans aS.symm)
  rw[bf aS]at l5
  exact au NV t2 l5 q (Su q jO) rK
 rw[bf av]at lh
 by_cases aS:NV=c5
 ·rw[bh aS]at l5;cases l5
  exact au T3 t1 lh q (Su q rK) jO
 rw[bf aS]at l5
 obtain⟨t,g,e',bX,_⟩:=aB T3 _ lh
 cases e'
 obtain⟨gk,ek,TC,asV,_⟩:=aB NV _ l5
 cases TC
 exact ba _ _ _ _ lh l5 di q (((hold _ _ bX).2 q).1 jO) (((hold _ _ asV).2 q).1 rK)
def aol{s:aZ}(h:b7 s){hp:aL Cell}{m:Nat}{l:aa aH}{own:Nat->Prop}(hq:pc s hp m l own)(hf:∀q,own q->q∈eb hp)(an:ia s 1 l){i:aH}(aq:kq s 1 i)(aW:dw l i.aX=none):
 cQ (Gi hp ⟨0,32,⟨some m⟩⟩ i) (λhp'=>pc s hp' m (l++[i]) (oF own hp hp')∧fp hp hp' own):=by
 obtain⟨em,oQ,ad,aB,aV,ba,_⟩:=hq.ok
 unfold Gi
 refine .eq (QT h aq.dr _) (.eq I (.eq oQ (.eq I ?_)))
 simp only
 refine .bind (P:=λm1=>pc s m1 m l (oF own hp m1)∧fp hp m1 own∧∃T4 t,lK m1 m=some T4∧dG T4 (hI (fq i.aX))=some (some t)) (.cond (λag=>?_) λag=>.ret ?_) λm1 bS=>?_
 ·have fJ:dG em (hI (fq i.aX))=none:=by
   cases bu:dG em (hI (fq i.aX))with
   |none=>rfl
   | some r=>
     obtain⟨t,_,rfl,_⟩:=aB _ _ bu
     rw[bu]at ag;cases ag
  unfold Ly
  refine .bind (P:=λr=> ∃a,a∉eb hp∧r=((some a:Ref),(a,Cell.lM ({(default:hW)with hy:=32}))::hp)) (.eq I (.mk λa aY=>.ret ⟨a,aY,rfl⟩)) λbg bq=>?_
  obtain⟨a,aY,rfl⟩:=bq
  have lb:lK ((a,Cell.lM ({(default:hW)with hy:=32}))::hp) m=some em:=(Lv (hp:=hp) (by rw[lq,bf (HJ aY (pa oQ))])).trans oQ
  obtain⟨g1,g2,g3⟩:=arq hq oQ fJ aY (z:= {(default:hW)with hy:=32}) I I
  refine .eq lb (.eq I (.ret ⟨g1,g2,_,a,g3,by rw[wx,bh I]⟩))
 ·cases bu:dG em (hI (fq i.aX))with
  |none=>rw[bu]at ag;cases ag
  | some r=>
    obtain⟨t,_,rfl,_⟩:=aB _ _ bu
    exact⟨hq.mono λq hq=>.inl hq,.refl,em,t,oQ,bu⟩
 obtain⟨g1,g2,T4,t,g3,g4⟩:=bS
 refine .eq g3 (.eq I ?_)
 simp only[g4]
 refine .bind (arp h g1 (λq hq=>hq.elim (λhq=>g2.keys q (hf q hq)) λhq=>hq.2) an aq aW g3 g4) λr aG=>.ret ?_
 exact⟨aG.1.mono λq hq=>agn g2.keys aG.2.keys hq,g2.grow aG.2⟩
def XY{hp:aL Cell}{p:Nat}{k:Cell}{x:eh}{y:aE Nat}{n:Nat}(h:pat hp p=some k):ry (cL hp p (.vE x y n)) p=some (x,y,n):=by unfold ry;rw[tc h]
def aom{s:aZ}(h:b7 s){k:Nat}(hk:k<4){hp:aL Cell}{q:Nat}{l:aa aH}{own:Nat->Prop}(hq:AS s k hp q l own)(an:ia s k l){i:aH}(aq:kq s k i)(jz:j7 l i.b0=false)(hlen:l.length<900):
 cQ (GO hp ⟨some q⟩ i) (λhp'=>AS s k hp' q (l++[i]) (oF own hp hp')∧fp hp hp' own):=by
 obtain⟨key,cap,h1,ad⟩:=hq.ok
 unfold GO
 refine .eq I (.eq h1 (.eq (alA h hk an.ok aq hlen) (.any λaw=>.eq I (.ret ?_))))
 rw[jz]
 exact⟨⟨aw.1,aw.2,XY (yj h1),.inl ad⟩,.up ad⟩
def aon{s:aZ}(h:b7 s){k:Nat}(hk:k<4){hp:aL Cell}{f:iK}{l:aa aH}{own:Nat->Prop}(hq:tj s k hp f l own)(hf:∀q,own q->q∈eb hp)(an:ia s k l){i:aH}(aq:kq s k i)(aW:dw l i.aX=none)(jz:j7 l i.b0=false)(hlen:l.length<900):
 cQ (Pd hp f i) (λhp'=>tj s k hp' f (l++[i]) (oF own hp hp')∧fp hp hp' own):=by
 rcases hq with⟨rfl,q,rfl,hq⟩|⟨rfl,m,rfl,hq⟩|⟨c4,q,rfl,hq⟩
 ·exact cQ.of ((aro h hq an aq aW).mono λhp' aG=>⟨.inl ⟨rfl,q,rfl,aG.1⟩,aG.2⟩)
 ·exact(aol h hq hf an aq aW).mono λhp' aG=>⟨.inr (.inl ⟨rfl,m,rfl,aG.1⟩),aG.2⟩
 exact(aom h hk hq an aq jz hlen).mono λhp' aG=>⟨.inr (.inr ⟨c4,q,rfl,aG.1⟩),aG.2⟩
def Qk{α β:Type}[DecidableEq α]:∀{l:aa (α×β)} {x:α} {v:β},dG l x=some v->(x,v)∈l
 |[],_,_,h=>by cases h
 | (k,w)::r,x,v,h=>by
   unfold dG at h;split at h
   ·rename_i e;cases h;rw[e];simp
   exact gx _ (Qk h)
def YR{α β:Type}[DecidableEq α]:∀{l:aa (α×β)} {x:α} {v:β},l.Pairwise (λa c=>a.1≠c.1)->(x,v)∈l->dG l x=some v
 |[],_,_,_,h=>by cases h
 | (k,w)::r,x,v,aM,h=>by
   obtain⟨h1,ad⟩:=kz.1 aM;unfold dG;rcases dP.1 h with h|h
   ·cases h;rw[bh I]
   rw[bf (λe=>h1 _ h e.symm),YR ad h]
def XZ{α β:Type}[DecidableEq α]:∀{l:aa (α×β)} {x:α} {v:β},dG l x=none->gS l x v=l++[(x,v)]
 |[],_,_,_=>rfl
 | (k,w)::r,x,v,h=>by
   unfold dG at h;split at h
   ·cases h
   rename_i e;show(if x=k then _ else _)=_;rw[bf e,XZ h];rfl
def xb(em:aa (Int×aH))(l:aa aH):Prop:=em.Perm (l.map λi=>(i.b0,i))
def xb.get{s:aZ}{k:Nat}{em:aa (Int×aH)}{l:aa aH}(h:xb em l)(an:kr s k l)(n:Int)(i:aH):dG em n=some i↔i∈l∧i.b0=n:=by
 have hd:em.Pairwise (λa c=>a.1≠c.1):=by
  refine(h.pairwise_iff λbT=>x4 bT).2 ?_;rw[Cs];exact an.num.imp λbT=>bT
 have hm:(n,i)∈em↔i∈l∧i.b0=n:=by
  rw[h.mem_iff,ic];constructor
  ·rintro ⟨c,ag,e⟩;cases e;exact⟨ag,rfl⟩
  rintro ⟨aq,rfl⟩;exact⟨i,aq,rfl⟩
 rw[<-hm];exact⟨Qk,YR hd⟩
def xb.no{s:aZ}{k:Nat}{em:aa (Int×aH)}{l:aa aH}(h:xb em l)(an:kr s k l)(n:Int):(dG em n).isSome=j7 l n:=by
 rw[kQ,Ci];unfold j7;rw[oo];constructor
 ·rintro ⟨i,aq⟩;obtain⟨h1,ad⟩:=(h.get an n i).1 aq;exact⟨i,h1,by simpa using ad⟩
 rintro ⟨i,aq,ad⟩;exact⟨i,(h.get an n i).2 ⟨aq,by simpa using ad⟩⟩
structure lO(s:aZ)(k:Nat)(hp:aL Cell)(p:Nat)(l:List aH)(own:Nat->Prop):Prop where
 gd:ia s k l
 cell:∃f m em,jb hp p=some ⟨rX k,(jj s k:Int),f,⟨some m⟩⟩∧mT hp m=some em∧own p∧own m∧xb em l∧tj s k hp f l (λq=>own q∧q≠m∧q≠p)
 pE:∀q,own q->q∈eb hp
def lO.congr{s:aZ}{k:Nat}{hp hp':aL Cell}{p:Nat}{l:aa aH}{own:Nat->Prop}(h:lO s k hp p l own)(hk:∀q,q∈eb hp->q∈eb hp')(aY:∀q,own q->pat hp' q=pat hp q):lO s k hp' p l own:=by
 obtain⟨f,m,em,h1,ad,aB,aV,ba,bq⟩:=h.cell;exact⟨h.gd,⟨f,m,em,by rw[agQ (aY p aB)];exact h1,by rw[agR (aY m aV)];exact ad,aB,aV,ba,bq.congr (λq _ hq=>hq) λq hq=>aY q hq.1⟩,λq hq=>hk q (h.pE q hq)⟩
def lO.mU{s:aZ}{k:Nat}{hp hp':aL Cell}{p:Nat}{l:aa aH}{own own':Nat->Prop}(h:lO s k hp p l own)(hk:fp hp hp' own')(hd:∀q,own q->¬own' q):lO s k hp' p l own:=
 h.congr hk.keys λq hq=>hk.rest q (h.pE q hq) (hd q hq)
def entry_eq{s:aZ}(h:b7 s){k:Nat}(hk:k<4){hp:aL Cell}{p:Nat}{l:aa aH}{own:Nat->Prop}(au:lO s k hp p l own){o:aE aH}(a6:∀i,o=some i->i∈l):CQ hp (some p) (q3 o).1 (q3 o).2=some (jg o):=by
 obtain⟨f,m,em,h1,ad,aB,aV,ba,bq⟩:=au.cell;refine a8.get ?_;unfold CQ;cases o with
 |none=>exact .cond (λ_=>.ret I) λag=>by cases ag
 | some i=>
   have aq:=a6 i I
   refine .cond (λag=>by cases ag) λ_=>.eq rfl (.eq h1 (.eq rfl (.eq ad (.eq rfl ?_))))
   have bu:dG em i.b0=some i:=(ba.get au.gd.ok _ _).2 ⟨aq,rfl⟩
   show a8 (Option.bind (rf ((dG em i.b0).getD default)) _) _
   rw[bu]
   exact .eq (DU h hk (au.gd.ok.ok i aq)) (.ret I)
def QU{s:aZ}(h:b7 s){k:Nat}(hk:k<4){hp:aL Cell}{p:Nat}{l:aa aH}{own:Nat->Prop}(au:lO s k hp p l own){e:bl}(he:fE s k e):zX hp (some p) e=some (jg (dw l e)):=by
 obtain⟨f,m,em,h1,ad,aB,aV,ba,bq⟩:=au.cell;refine a8.get ?_;unfold zX;refine .cond (λag=>by cases ag) λ_=>.eq rfl (.eq h1 (.eq (aaT h hk bq au.gd he) (.eq (entry_eq h hk au λi aq=>(o7 aq).1) (.ret rfl))))
def aid{s:aZ}(h:b7 s){k:Nat}(hk:k<4){hp:aL Cell}{p:Nat}{l:aa aH}{own:Nat->Prop}(au:lO s k hp p l own)(c5:Vector aN 4):Gl hp (some p) c5=some (jg (j9 s k l c5)):=by
 obtain⟨f,m,em,h1,ad,aB,aV,ba,bq⟩:=au.cell;refine a8.get ?_;unfold Gl;refine .cond (λag=>by cases ag) λ_=>?_;refine a8.loop 4 (λi st=>st.1=(i:Int)∧∀j,j<4->bE st.2 j=if j<i then(if j<jj s k then bE c5 j else default)else bE c5 j) (by decide) ⟨rfl,λj aC=>rfl⟩ (λi st aq hs=>?_) (λst hs=>?_)
 ·obtain⟨j,v⟩:=st;obtain⟨av,aS⟩:=hs;simp only at av aS;subst av;refine .cond (λ_=>.eq I (.eq h1 ?_)) (λag=>by simp at ag;omega);refine .bind (P:=λzl=> ∀j,j<4->bE zl j=if j<i+1 then(if j<jj s k then bE c5 j else default)else bE c5 j) (.cond (λag=>.idx I aq (.ret λj aC=>?_)) λag=>.ret λj aC=>?_) λzl p9=>.ret ⟨dB (by omega),p9⟩
  ·have ag:jj s k<=i:=by simp at ag;omega
   rw[jF _ _ aq];by_cases jN:j=i
   ·rw[bh jN,bh (show j<i+1 by omega),bf (show ¬j<jj s k by omega)]
   rw[bf jN,aS j aC];by_cases b9:j<i
   ·rw[bh b9,bh (show j<i+1 by omega)]
   rw[bf b9,bf (show ¬j<i+1 by omega)]
  have ag:i<jj s k:=by simp at ag;omega
  rw[aS j aC];by_cases jN:j=i
  ·rw[bf (show ¬j<i by omega),bh (show j<i+1 by omega),bh (show j<jj s k by omega)]
  by_cases b9:j<i
  ·rw[bh b9,bh (show j<i+1 by omega)]
  rw[bf b9,bf (show ¬j<i+1 by omega)]
 obtain⟨j,v⟩:=st;obtain⟨av,aS⟩:=hs;simp only at av aS;subst av;refine⟨_,by simp;rfl,?_⟩;have bc:v=ng (jj s k) c5:=Qg λj aC=>by rw[aS j aC,bh aC,qy aC]
 subst bc;exact .eq I (.eq h1 (.eq (aoj h hk bq au.gd c5) (.eq (entry_eq h hk au λi aq=>YQ aq) (.ret I))))
def alD{s:aZ}{k:Nat}{hp:aL Cell}{p:Nat}{l:aa aH}{own:Nat->Prop}(au:lO s k hp p l own):GQ hp (some p)=some (l.length:Int):=by
 obtain⟨f,m,em,h1,ad,aB,aV,ba,bq⟩:=au.cell;have an:em.length=l.length:=by rw[ba.length_eq,k1]
 refine a8.get ?_;unfold GQ;refine .cond (λag=>by cases ag) λ_=>.eq rfl (.eq h1 (.eq rfl (.eq ad ?_)));rw[an];first|exact .ret I|exact .eq I (.ret I)
def lO.mono{s:aZ}{k:Nat}{hp:aL Cell}{p:Nat}{l:aa aH}{own own':Nat->Prop}(h:lO s k hp p l own)(a6:∀q,own q->own' q)(aq:∀q,own' q->q∈eb hp):lO s k hp p l own':=by
 obtain⟨f,m,em,h1,ad,aB,aV,ba,bq⟩:=h.cell;exact⟨h.gd,⟨f,m,em,h1,ad,a6 p aB,a6 m aV,ba,bq.congr (λq _ hq=>⟨a6 q hq.1,hq.2⟩) λq hq=>rfl⟩,aq⟩
def ia.nil{s:aZ}{k:Nat}:ia s k []:=⟨⟨λi aq=>by(cases aq),.nil,by simp⟩,.nil⟩
def EV:Nat->Prop:=λ_=>False
def alE{s:aZ}(h:b7 s){k:Nat}(hk:k<4)(hp:aL Cell):cQ (Ds hp s ((k:Int)+1)) (λr=> ∃p,r.1=some p∧lO s k r.2 p [] (oF EV hp r.2)∧fp hp r.2 EV):=by
 refine(aoa h hk hp).mono λr aG=>?_;obtain⟨p,e,aG⟩:=aG;obtain⟨c,m,h1,ad,aB,aV,ba,bq,c0,db,dE,n5,sE,BR⟩:=aG.cell;obtain⟨atQ,ks,f,cf⟩:=c;simp only at ad aB aV bq c0 db;subst ad aB aV;have hm:=uh ba;have hp':=AJ h1;refine⟨p,e,⟨ia.nil,⟨f,m,[],h1,ba,.inr ⟨dE,ki hp'⟩,.inr ⟨n5,ki hm⟩,KZ _,?_⟩,λq hq=>hq.elim (λh=>h.elim) λh=>h.2⟩,⟨sE,λq hq _=>BR q hq⟩⟩;have key:∀q c,pat r.2 q=some c->(∀x,c≠ .mn x)->(∀x,c≠ .qH x)->q∉eb hp->oF EV hp r.2 q∧q≠m∧q≠p:=λq c ag mC E5 aM=>
  ⟨.inr ⟨aM,ki ag⟩,λe=>by rw[e,hm]at ag;cases ag;exact mC _ I,λe=>by rw[e,hp']at ag;cases ag;exact E5 _ I⟩
 have:k=0∨k=1∨2<=k:=by omega
 rcases this with rfl|rfl|c4
 ·obtain⟨q,m2,rfl,g1,g2,g3,g4⟩:=bq I;exact .inl ⟨rfl,q,rfl,⟨m2,[],g1,g2,key q _ (Ii g1) (λ_ h=>by cases h) (λ_ h=>by cases h) g3,key m2 _ (vo g2) (λ_ h=>by cases h) (λ_ h=>by cases h) g4,λc5 n=>⟨λh=>(by cases h),λ⟨i,aq,_⟩=>(by cases aq)⟩,.nil⟩⟩
 ·obtain⟨m3,rfl,g1,g2⟩:=c0 I;exact .inr (.inl ⟨rfl,m3,rfl,⟨[],g1,key m3 _ (pa g1) (λ_ h=>by cases h) (λ_ h=>by cases h) g2,λc5 r h=>(by cases h),λc5 _ i aq=>(by cases aq),λc5 lS t gk h=>(by cases h),.nil⟩⟩)
 obtain⟨q,atS,cap,rfl,g1,g2⟩:=db c4;exact .inr (.inr ⟨c4,q,rfl,⟨atS,cap,g1,key q _ (yj g1) (λ_ h=>by cases h) (λ_ h=>by cases h) g2⟩⟩)
def ia.snoc{s:aZ}{k:Nat}{l:aa aH}(h:ia s k l){i:aH}(aq:kq s k i)(aW:dw l i.aX=none)(aM:j7 l i.b0=false)(an:l.length<900):ia s k (l++[i])where
 ok:=h.ok.snoc aq aM an
 key:=by
  rw[wa];exact⟨h.key,by simp,λa aY c ag=>by rw[hT.1 ag];exact uc aW a aY⟩
def aja{hp:aL Cell}{p:Nat}{k:Cell}{x:aa (Int×aH)}(h:pat hp p=some k):mT (cL hp p (.mn x)) p=some x:=by unfold mT;rw[tc h]
def Zp(o:aE aH):(q3 o).2=o.isSome:=by cases o <;> rfl
def qX(l:aa aH)(i:aH):Bool:=(dw l i.aX).isNone&& !j7 l i.b0
def added(l:aa aH)(i:aH):aa aH:=if qX l i=true then l++[i]else l
def RJ{s:aZ}(h:b7 s){k:Nat}(hk:k<4){hp:aL Cell}{p:Nat}{l:aa aH}{own:Nat->Prop}(au:lO s k hp p l own){i:aH}(aq:kq s k i)(hlen:l.length<900):
 cQ (z1 hp (some p) i) (λr=>r.1=qX l i∧lO s k r.2 p (added l i) (oF own hp r.2)∧fp hp r.2 own):=by
 obtain⟨f,m,em,h1,ad,aB,aV,ba,bq⟩:=au.cell
 have hm:=uh ad
 have hp':=AJ h1
 have nI:p≠m:=λe=>by rw[e,hm]at hp';cases hp'
 have fJ:=ba.no au.gd.ok i.b0
 unfold z1
 refine .cond (λag=>by cases ag) λ_=>.eq rfl (.eq h1 (.eq rfl (.eq ad (.eq rfl (.eq rfl (.eq h1 (.eq (aaT h hk bq au.gd aq.dr) (.cond (λag=>.ret ?_) λag=>?_))))))))
 ·rw[fJ,Zp,qo]at ag
  have bD:qX l i=false:=by
   unfold qX;rcases ag with ag|ag
   ·cases aW:dw l i.aX with
    |none=>rw[aW]at ag;cases ag
    |some _=>rfl
   rw[ag];simp
  refine⟨bD.symm,?_,.refl⟩
  unfold added
  rw[bD]
  exact au.mono (λq hq=>.inl hq) λq hq=>hq.elim (au.pE q) λhq=>absurd hq.2 hq.1
 rw[fJ,Zp,OA]at ag
 obtain⟨c1,c2⟩:=ag
 have aW:dw l i.aX=none:=by
  cases aW:dw l i.aX with
  |none=>rfl
  |some _=>rw[aW]at c1;cases c1
 have bD:qX l i=true:=by unfold qX;rw[aW,c2];rfl
 have bu:dG em i.b0=none:=by
  cases bu:dG em i.b0 with
  |none=>rfl
  |some _=>rw[bu,c2]at fJ;cases fJ
 have aw:pat (cL hp m (Cell.mn (gS em i.b0 i))) p=some (.qH ⟨rX k,(jj s k:Int),f,⟨some m⟩⟩):=by rw[nm nI.symm];exact hp'
 have f1:tj s k (cL hp m (Cell.mn (gS em i.b0 i))) f l (λq=>own q∧q≠m∧q≠p):=bq.congr (λq _ hq=>hq) λq hq=>nm hq.2.1.symm
 refine .eq I (.eq h1 (.eq (DU h hk aq) (.eq I (.eq ad (.eq I (.eq (by unfold jb;rw[aw]) (.bind (aon h hk f1 (λq hq=>by rw[sa];exact au.pE q hq.1) au.gd aq aW c2 hlen) λiQ aG=>.ret ⟨bD.symm,?_,?_⟩)))))))
 ·obtain⟨ky,hg⟩:=aG
  have bX:pat iQ p=some (.qH ⟨rX k,(jj s k:Int),f,⟨some m⟩⟩):=by rw[hg.rest p (ki aw) (λhq=>hq.2.2 I)];exact aw
  have a2:pat iQ m=some (.mn (gS em i.b0 i)):=by
   have:pat (cL hp m (Cell.mn (gS em i.b0 i))) m=some (.mn (gS em i.b0 i)):=tc hm;rw[hg.rest m (ki this) (λhq=>hq.2.1 I)];exact this
  unfold added
  rw[bh bD]
  refine⟨au.gd.snoc aq aW c2 hlen,⟨f,m,_,by unfold jb;rw[bX],by unfold mT;rw[a2],.inl aB,.inl aV,?_,ky.congr (λq _ hq=>?_) λq _=>rfl⟩,λq hq=>?_⟩
  ·unfold xb
   rw[XZ bu,mI]
   exact List.Perm.append_right _ ba
  ·rcases hq with hq|⟨g1,g2⟩
   ·exact⟨.inl hq.1,hq.2⟩
   rw[sa]at g1
   exact⟨.inr ⟨g1,g2⟩,λe=>g1 (e▸ki hm),λe=>g1 (e▸ki hp')⟩
  rcases hq with hq|hq
  ·exact hg.keys q (by rw[sa];exact au.pE q hq)
  exact hq.2
 exact(fp.up (own:=own) aV).trans aG.2 λq _ hq=>hq.1
def QV{hp hp':aL Cell}{root:Ref}{ws:aa Bool}{b:Bool}{p q:Nat}{c xF:e9}(bD:rq hp root)(hw:c3 hp root ws=some p)(ag:cS hp p=some c)(hq:bE c.dF (gb b)=some q)(pC:cS hp q=some xF)(an:∀x,bE xF.dF (gb x)=none)
 (bQ:cS hp' p=some {c with dF:=dJ c.dF (gb b) none}) (iQ:∀x,x≠p->cS hp' x=cS hp x):
 ∀(bd us:aa Bool) (r:Nat),c3 hp root us=some r->us≠ws++[b]->c3 hp' (some r) bd=if us++bd=ws++[b]then none else c3 hp (some r) bd
 | [],us,r,hu,di=>by
   rw[ot,bf di];rfl
 | x::xs,us,r,hu,di=>by
   obtain⟨UF,xw⟩:=bD.reads us r hu;by_cases pB:r=p
   ·subst pB;have TQ:=bD.inj us ws r hu hw;subst TQ;rw[ag]at xw;cases xw;rw[iZ bQ,iZ ag];simp only;have b9:gb b<2:=by cases b <;> decide
    rw[jF _ _ b9];by_cases BQ:x=b
    ·subst BQ;rw[bh I,hq,hY];by_cases h:xs=[]
     ·subst h;rw[bh I]
     have fJ: ¬us++x::xs=us++[x]:=λe=>h (by have:=Kp e;simpa using this);rw[bf fJ];cases xs with
     |nil=>exact absurd I h
     |cons y ys=>rw[iZ pC,an,hY]
    have asW: ¬gb x=gb b:=λe=>BQ (by cases x <;> cases b <;> first|rfl|cases e);have fJ:∀ys,¬us++x::ys=us++[b]:=λys e=>BQ (by have:=Kp e;simpa using (List.cons.inj this).1);rw[bf asW,bf (fJ xs)];cases e:bE c.dF (gb x)with
    |none=>rw[hY,hY]
    | some lW=>
      have px:c3 hp root (us++[x])=some lW:=by rw[oy,hu,iZ ag,e,o9]
      rw[QV bD hw ag hq pC an bQ iQ xs (us++[x]) lW px (fJ []),iJ,List.singleton_append,bf (fJ xs)]
   have h1:cS hp' r=some UF:=by rw[iQ r pB];exact xw
   rw[iZ h1,iZ xw];have ars:us++[x]≠ws++[b]:=λe=>by
    have:=Ow e I;subst this;rw[hu]at hw;cases hw;exact pB I
   cases e:bE UF.dF (gb x)with
   |none=>rw[hY,hY];split <;> rfl
   | some lW=>
     have px:c3 hp root (us++[x])=some lW:=by rw[oy,hu,iZ xw,e,o9]
     rw[QV bD hw ag hq pC an bQ iQ xs (us++[x]) lW px ars,iJ,List.singleton_append]
def cut{hp hp':aL Cell}{r:Nat}{ws:aa Bool}{b:Bool}{p q:Nat}{c xF:e9}(bD:rq hp (some r))(hw:c3 hp (some r) ws=some p)(ag:cS hp p=some c)(hq:bE c.dF (gb b)=some q)(pC:cS hp q=some xF)(an:∀x,bE xF.dF (gb x)=none)(hu:xF.gP=false)
 (bQ:cS hp' p=some {c with dF:=dJ c.dF (gb b) none}) (iQ:∀x,x≠p->cS hp' x=cS hp x):
 rq hp' (some r)∧(∀bd,c3 hp' (some r) bd=if bd=ws++[b]then none else c3 hp (some r) bd)∧∀bd,cont hp' (some r) bd=cont hp (some r) bd:=by
 have aW:∀bd,c3 hp' (some r) bd=if bd=ws++[b]then none else c3 hp (some r) bd:=λbd=>QV bD hw ag hq pC an bQ iQ bd [] r I (by simp)
 have TR:c3 hp (some r) (ws++[b])=some q:=by rw[oy,hw,iZ ag,hq,o9]
 refine⟨⟨λbd x h=>?_,λbd cs x h1 ad=>?_,λbd x h=>?_⟩,aW,λbd=>?_⟩
 ·rw[aW]at h
  split at h
  ·cases h
  obtain⟨gG,h1⟩:=bD.reads bd x h
  by_cases e:x=p
  ·subst e;exact⟨_,bQ⟩
  exact⟨gG,by rw[iQ x e];exact h1⟩
 ·rw[aW]at h1 ad
  split at h1 <;> split at ad
  ·cases h1
  ·cases h1
  ·cases ad
  exact bD.inj bd cs x h1 ad
 ·rw[aW]at h
  split at h
  ·cases h
  exact bD.dep bd x h
 by_cases e:bd=ws++[b]
 ·subst e
  rw[mj (by rw[aW,bh I]),lY TR pC,hu];rfl
 have xp:c3 hp' (some r) bd=c3 hp (some r) bd:=by rw[aW,bf e]
 cases h:c3 hp (some r) bd with
 |none=>rw[mj h,mj (xp.trans h)]
 | some x=>
   obtain⟨gG,h1⟩:=bD.reads bd x h
   by_cases eq:x=p
   ·subst eq
    rw[ag]at h1;cases h1
    rw[lY h ag,lY (xp.trans h) bQ]
   rw[lY h h1,lY (xp.trans h) (by rw[iQ x eq];exact h1)]
structure S8(l4 hp:aL Cell)(t:Nat)(g:List Bool->Option Int)(r:Nat):Prop where
 cell:∃c,gD hp t=some c∧c.hy=32∧c.eQ=some r
 tree:rq hp (some r)
 cont:∀bd,cont hp (some r) bd=g bd
 keeps:fp l4 hp (Own l4 t)
 own:∀bd q,c3 hp (some r) bd=some q->Own l4 t q
def empty_eq{hp:aL Cell}{p:Nat}{c:e9}(h:cS hp p=some c):CW hp (some p)=some (!c.gP&&decide (c.dF=default)):=by
 refine a8.get ?_;unfold CW;refine .eq I (.eq h ?_);refine .b1 (P:=λr=>r=p) (λ_=>⟨p,rfl,rfl⟩) λo h1=>?_;refine .b1 (P:=λr=>r=c) (λad=>⟨c,by rw[h1 ad];exact h,rfl⟩) λc2 ad=>.ret ?_;cases hu:c.gP with
 |true=>rfl
 |false=>rw[ad (by rw[hu];rfl)]
def aie(v:aN)(n:Nat):(dT v n).length=n:=by unfold dT;simp
def aif(v:aN){i n:Nat}(h:i<=n):dT v n=dT v i++(dT v n).drop i:=by
 have:dT v i=(dT v n).take i:=by unfold dT;rw[<-Pe,O6];congr 2;omega
 rw[this,gw]
def Mc{hp:aL Cell}{r:Ref}{v:aN}{i n:Nat}(h:i<=n){p:Nat}(hp':c3 hp r (dT v n)=some p):∃q,c3 hp r (dT v i)=some q:=by
 rw[aif v h,oy]at hp';cases e:c3 hp r (dT v i)with
 |none=>rw[e,hY]at hp';cases hp'
 |some q=>exact⟨q,rfl⟩
def aih{hp:aL Cell}{t:Nat}{g:aa Bool->aE Int}(h:kT hp t g){n:Nat}(aM:n<=32){v:aN}(bc:∀j,j<128->cq v j=true->lead 32 n j=true){id:Int}(bu:g (dT v n)=some id):
 a8 (CU hp (some t) v n) (λr=>r.1=true∧kT r.2 t (λbd=>if bd=dT v n then none else g bd)∧fp hp r.2 (Own hp t)∧∀q,Own r.2 t q->Own hp t q):=by
 obtain⟨c,ag,hb,bD,T5⟩:=h.ok
 have art:∃p,c3 hp c.eQ (dT v n)=some p:=by
  cases e:c3 hp c.eQ (dT v n)with
  |none=>rw[<-T5,mj e]at bu;cases bu
  |some p=>exact⟨p,rfl⟩
 obtain⟨zu,lg⟩:=art
 have aoo:∃r,c.eQ=some r:=by
  obtain⟨q,hq⟩:=Mc (vg n) lg;rw[HE,o9]at hq;exact⟨q,hq⟩
 obtain⟨r,aG⟩:=aoo
 rw[aG]at bD T5 lg
 unfold CU
 refine .eq (Zn h aM bc) ?_
 rw[bu]
 refine .cond (λag=>by cases ag) λ_=>.eq rfl (.eq ag (.eq rfl ?_))
 rw[aG]
 show a8 (Option.bind (tU hp (n:Int) v (some t) _ _) _) _
 refine a8.bind (P:=λe:(aa Int×aa Ref)⊕Empty=> ∃bits qc,e=.inl (bits,qc)∧qc.length=n+1∧bits.length=n∧(∀j,j<=n->ax qc j=c3 hp (some r) (dT v j))∧∀j,j<n->ax bits j=((gb (cq v (31-j)):Nat):Int))
  (St ag hb v aM (λi s=> ∃bits qc,s=(bits,qc)∧qc.length=i+1∧bits.length=i∧(∀j,j<=i->ax qc j=c3 hp (some r) (dT v j))∧∀j,j<i->ax bits j=((gb (cq v (31-j)):Nat):Int)) ⟨[],[some r],rfl,rfl,rfl,λj aC=>?_,λj aC=>by omega⟩ (λi s aq hs=>?_) (λs hs=>?_)) λe he=>?_
 ·have:j=0:=by omega
  subst this
  rw[HE,o9];rfl
 ·obtain⟨bits,qc,rfl,h1,ad,aB,aV⟩:=hs
  obtain⟨q,hq⟩:=Mc (show i<=n by omega) lg
  obtain⟨d,hd⟩:=bD.reads _ _ hq
  have hw:bm ((qc.length:Int)-1)=(i:Int):=by rw[gQ (by omega) (by omega)];omega
  simp only[hw]
  have b9:gb (cq v (31-i))<2:=by cases cq v (31-i) <;> decide
  refine .idx I (by omega) (.eq (a:=q) (by rw[aB i (iS _)];exact hq) (.idx I b9 (.eq hd (.eq (gz _ _ (by simp;omega) (by omega)) (.eq (gz _ _ (by simp;omega) (by omega)) (.ret ⟨_,_,rfl,by simp;omega,by simp;omega,λj aC=>?_,λj aC=>?_⟩))))))
  ·rw[LI]
   by_cases jN:j=qc.length
   ·rw[bh jN,show j=i+1 by omega,HD,oy,hq,iZ hd,o9]
   rw[bf jN];exact aB j (by omega)
  rw[LI]
  by_cases jN:j=bits.length
  ·rw[bh jN,show j=i by omega]
  rw[bf jN];exact aV j (by omega)
 ·exact⟨s.1,s.2,by obtain⟨bits,qc,rfl,_⟩:=hs;rfl,by obtain⟨bits,qc,rfl,h⟩:=hs;exact h⟩
 obtain⟨bits,qc,rfl,h1,ad,aB,aV⟩:=he
 simp only[Sum.elim_inl]
 obtain⟨d,hd⟩:=bD.reads _ _ lg
 have TZ:=s3.1 hd
 have gf:cS (cL hp zu (.h2 {d with gP:=false})) zu=some {d with gP:=false}:=DA TZ
 refine .idx I (by omega) (.eq (a:=zu) (by rw[aB n (iS _)];exact lg) (.eq hd (.eq I (.eq gf (.eq I ?_)))))
 generalize bZ:cL (cL hp zu (.h2 {d with gP:=false})) zu (.h2 {d with gP:=false,j5:=0})=cZ
 have iB:=MV hd ag
 have xh:cS cZ zu=some {d with gP:=false,j5:=0}:=by rw[<-bZ];exact DA (s3.1 gf)
 have S9:∀q,q≠zu->pat cZ q=pat hp q:=λq hq=>by rw[<-bZ,nm hq.symm,nm hq.symm]
 obtain⟨s1,s2⟩:=ace bD lg hd xh I λq hq=>Al (S9 q hq)
 have adM:=HS hd xh I λq hq=>Al (S9 q hq)
 have asX:gD cZ t=some c:=by rw[Lq (S9 t iB.symm)];exact ag
 have aaV:Own hp t zu:=.inr ⟨c,_,ag,by rw[aG];exact lg⟩
 have c4:fp hp cZ (Own hp t):=by
  rw[<-bZ];exact(fp.up (own:=Own hp t) aaV).trans (fp.up aaV) λq _ h=>h
 have m0:S8 hp cZ t (λbd=>if bd=dT v n then none else g bd) r:=⟨⟨c,asX,hb,aG⟩,s1,λbd=>by
  rw[s2];by_cases e:bd=dT v n
  ·rw[bh e];simp only[bh e];rfl
  rw[bf e];simp only[bf e];exact T5 bd,c4,λbd q hq=>.inr ⟨c,bd,ag,by rw[aG,<-adM];exact hq⟩⟩
 have yW:bm ((n:Int)-1)=(n:Int)-1:=gQ (by omega) (by omega)
 rw[yW]
 refine a8.bind (P:=λaS=>S8 hp aS.2.2 t (λbd=>if bd=dT v n then none else g bd) r) (a8.jJ n (λi st=> ∃hq,st=((n:Int)-1-(i:Int),hq)∧S8 hp hq t (λbd=>if bd=dT v n then none else g bd) r∧∀j,j+i<=n->c3 hq (some r) (dT v j)=ax qc j) (by omega) ⟨cZ,by simp,m0,λj aC=>by rw[adM,aB j (by omega)]⟩ (λi st aq hs=>?_) (λst hs=>?_)) λaS oR=>?_
 ·obtain⟨hq,rfl,hm,Ta⟩:=hs
  have av:(n:Int)-1-(i:Int)=((n-1-i:Nat):Int):=by omega
  have aS:bm ((n:Int)-1-(i:Int)+1)=((n-i:Nat):Int):=by rw[gQ (by omega) (by omega)];omega
  have cM:bm ((n:Int)-1-(i:Int)-1)=(n:Int)-1-((i+1:Nat):Int):=by rw[gQ (by omega) (by omega)];omega
  simp only[aS,cM]
  have uJ:decide ((n:Int)-1-(i:Int)>=0)=true:=by rw[e2];omega
  simp only[uJ]
  have jO:=Ta (n-i) (by omega)
  have JP:=Ta (n-1-i) (by omega)
  obtain⟨ai,iF⟩:=Mc (show n-i<=n by omega) lg
  obtain⟨ab,BA⟩:=Mc (show n-1-i<=n by omega) lg
  rw[aB _ (by omega),iF]at jO
  rw[aB _ (by omega),BA]at JP
  obtain⟨c1,dv⟩:=hm.tree.reads _ _ jO
  obtain⟨o2,BB⟩:=hm.tree.reads _ _ JP
  refine .b1 (P:=λfo=>fo=n-i) (λ_=>⟨_,kS (by omega),rfl⟩) λfo jw=>?_
  rw[jw I]
  have ED:ax qc (n-i)=some ai:=by rw[aB _ (by omega)];exact iF
  have asY:ax qc (n-1-i)=some ab:=by rw[aB _ (by omega)];exact BA
  refine .b1 (P:=λy=>y=(!c1.gP&&decide (c1.dF=default))) (λ_=>⟨_,by rw[ED];exact empty_eq dv,rfl⟩) λcd hB=>.cond (λbV=>?_) λbV=>.ret hm
  rw[qp,hB I,gm,r1,e2]at bV
  obtain⟨bp,z2⟩:=bV
  have b9:gb (cq v (31-(n-1-i)))<2:=by cases cq v (31-(n-1-i)) <;> decide
  have aop:dT v (n-i)=dT v (n-1-i)++[cq v (31-(n-1-i))]:=by rw[<-HD,show n-1-i+1=n-i by omega]
  have sF:bE o2.dF (gb (cq v (31-(n-1-i))))=some ai:=by
   rw[aop,oy,JP,iZ BB,o9]at jO;exact jO
  have l4:=s3.1 BB
  refine .idx av (by omega) (.idx av (by omega) (.eq asY (.idx (aV _ (by omega)) b9 (.eq BB (.eq I (.ret ?_))))))
  obtain⟨g1,g2,g3⟩:=cut (hp':=cL hq ab (.h2 {o2 with dF:=dJ o2.dF (gb (cq v (31-(n-1-i)))) none})) hm.tree JP BB sF dv (λx=>by rw[z2,Lj];rfl) bp (DA l4) λx au=>x8 au.symm
  obtain⟨gG,bX,a2,a3⟩:=hm.cell
  have aoq:=hm.own _ _ JP
  refine⟨_,rfl,⟨⟨gG,by rw[Lu (MV BB bX)];exact bX,a2,a3⟩,g1,λbd=>by rw[g3];exact hm.cont bd,hm.keeps.trans (fp.up aoq) λq _ h=>h,λbd q nb=>?_⟩,λj aC=>?_⟩
  ·rw[g2]at nb
   split at nb
   ·cases nb
   exact hm.own bd q nb
  rw[g2,bf (λe=>by have:=eG List.length e;simp only[gH,aie,List.length_singleton]at this;omega)]
  exact Ta j (by omega)
 ·obtain⟨hq,rfl,hm,_⟩:=hs
  have uJ:decide ((n:Int)-1-(n:Int)>=0)=false:=by rw[nP];omega
  simp only[uJ]
  refine .b1 (P:=λ_=>True) (λag=>by cases ag) λ_ _=>.b1 (P:=λ_=>True) (λag=>by cases ag) λ_ _=>.cond (λag=>by cases ag) λ_=>.ret hm
 obtain⟨kb,bX,a2,a3⟩:=oR.cell
 refine .eq bX ?_
 rw[a3]
 obtain⟨UF,xw⟩:=oR.tree.reads [] r I
 refine .eq (empty_eq xw) (.bind (P:=λm1=>kT m1 t (λbd=>if bd=dT v n then none else g bd)∧fp hp m1 (Own hp t)∧∀q,Own m1 t q->Own hp t q) (.cond (λbV=>.eq I (.ret ?_)) λ_=>.ret ?_) λm1 bS=>.ret ⟨rfl,bS⟩)
 ·rw[gm,r1,e2]at bV
  obtain⟨bp,z2⟩:=bV
  have NM:gD (cL aS.2.2 t (.lM {kb with eQ:=none})) t=some {kb with eQ:=none}:=XR (wy.1 bX)
  refine⟨⟨_,NM,a2,⟨λbd p h=>(by rw[hY]at h;cases h),λbd cs p h=>(by rw[hY]at h;cases h),λbd p h=>(by rw[hY]at h;cases h)⟩,λbd=>?_⟩,oR.keeps.trans (fp.up (own:=Own hp t) (.inl I)) λq _ h=>h,λq hq=>?_⟩
  ·rw[mj hY,<-oR.cont]
   cases bd with
   |nil=>rw[lY (p:=r) I xw,bp];rfl
   |cons b bd=>rw[mj];rw[iZ xw,z2,Lj];exact hY
  rcases hq with rfl|⟨gG,bd,dL,eF⟩
  ·exact .inl I
  rw[NM]at dL;cases dL
  rw[hY]at eF;cases eF
 refine⟨⟨kb,bX,a2,by rw[a3];exact oR.tree,λbd=>by rw[a3];exact oR.cont bd⟩,oR.keeps,λq hq=>?_⟩
 rcases hq with rfl|⟨gG,bd,dL,eF⟩
 ·exact .inl I
 rw[bX]at dL;cases dL
 rw[a3]at eF
 exact oR.own bd q eF
def l6(hp:aL Cell):Nat->Ref->aa Int
 |0,_=>[]
 |_+1,none=>[]
 | n+1,some p=>match cS hp p with
   |none=>[]
   |some c=>(bif c.gP then [c.j5]else [])++(l6 hp n (bE c.dF 0)++l6 hp n (bE c.dF 1))
def Mv{hp:aL Cell}{n p:Nat}{c:e9}(h:cS hp p=some c):l6 hp (n+1) (some p)=(bif c.gP then [c.j5]else [])++(l6 hp n (bE c.dF 0)++l6 hp n (bE c.dF 1)):=by
 show(match cS hp p with |none=>[]|some c=>_)=_;rw[h]
def wz{hp:aL Cell}{p:Nat}{c:e9}(h:cS hp p=some c)(b:Bool)(bd:aa Bool):cont hp (some p) (b::bd)=cont hp (bE c.dF (gb b)) bd:=by
 unfold cont;rw[iZ h]
def Az{hp:aL Cell}:∀{n:Nat} {r:Ref} {id:Int},id∈l6 hp n r->∃bd,cont hp r bd=some id
 |0,_,_,h=>by cases h
 |_+1,none,_,h=>by cases h
 | n+1,some p,id,h=>by
   cases ag:cS hp p with
   | none=>
     have:l6 hp (n+1) (some p)=[]:=by
      show(match cS hp p with |none=>[]|some c=>_)=_;rw[ag]
     rw[this]at h;cases h
   | some c=>
     rw[Mv ag]at h
     rcases cF.1 h with h|h
     ·refine⟨[],?_⟩
      rw[lY (p:=p) I ag]
      cases hu:c.gP with
      |true=>rw[hu]at h;rw[hT.1 h];rfl
      |false=>rw[hu]at h;cases h
     rcases cF.1 h with h|h
     ·obtain⟨bd,nb⟩:=Az h
      exact⟨false::bd,by rw[wz ag];exact nb⟩
     obtain⟨bd,nb⟩:=Az h
     exact⟨true::bd,by rw[wz ag];exact nb⟩
def X0{hp:aL Cell}:∀{n:Nat} {r:Ref} {id:Int} {bd:aa Bool},bd.length<n->cont hp r bd=some id->id∈l6 hp n r
 |0,_,_,_,an,_=>by omega
 |n+1,none,id,bd,_,h=>by rw[mj hY]at h;cases h
 | n+1,some p,id,bd,an,h=>by
   cases ag:cS hp p with
   | none=>
     exfalso
     cases bd with
     | nil=>
       unfold cont at h
       have:c3 hp (some p) []=some p:=rfl
       rw[this]at h
       simp only[ag]at h;cases h
     | cons b bd=>
       have:c3 hp (some p) (b::bd)=none:=by
        show(match cS hp p with |none=>none|some c=>c3 hp (bE c.dF (gb b)) bd)=none;rw[ag]
       rw[mj this]at h;cases h
   | some c=>
     rw[Mv ag]
     cases bd with
     | nil=>
       rw[lY (p:=p) I ag]at h
       cases hu:c.gP with
       | true=>
         rw[hu]at h
         have:c.j5=id:=by simpa using h
         rw[this];simp
       |false=>rw[hu]at h;cases h
     | cons b bd=>
       rw[wz ag]at h
       have kJ:bd.length<n:=by simp at an;omega
       have:=X0 kJ h
       cases b
       ·exact Cl _ (Fo _ this)
       exact Cl _ (Cl _ this)
def Xg{hp:aL Cell}:∀{n:Nat} {r:Ref},(∀bd cs id,cont hp r bd=some id->cont hp r cs=some id->bd=cs)->(l6 hp n r).Nodup
 |0,_,_=>Pa
 |_+1,none,_=>Pa
 | n+1,some p,h=>by
   cases ag:cS hp p with
   | none=>
     have:l6 hp (n+1) (some p)=[]:=by
      show(match cS hp p with |none=>[]|some c=>_)=_;rw[ag]
     rw[this];exact Pa
   | some c=>
     rw[Mv ag]
     have hb:∀b,(l6 hp n (bE c.dF (gb b))).Nodup:=λb=>Xg λbd cs id h1 ad=>by
      have:=h (b::bd) (b::cs) id (by rw[wz ag];exact h1) (by rw[wz ag];exact ad);simpa using this
     rw[q5,q5]
     refine⟨by cases c.gP <;> simp,⟨hb false,hb true,λa aY gG nJ e=>?_⟩,λa aY gG nJ e=>?_⟩
     ·subst e
      obtain⟨bd,h1⟩:=Az aY
      obtain⟨cs,ad⟩:=Az nJ
      have:=h (false::bd) (true::cs) a (by rw[wz ag];exact h1) (by rw[wz ag];exact ad)
      simp at this
     subst e
     cases hu:c.gP with
     |false=>rw[hu]at aY;cases aY
     | true=>
       rw[hu]at aY
       have aY:a=c.j5:=hT.1 aY
       have bC:cont hp (some p) []=some a:=by rw[lY (p:=p) I ag,hu,aY];rfl
       rcases cF.1 nJ with h1|h1
       ·obtain⟨bd,h1⟩:=Az h1
        have:=h [] (false::bd) a bC (by rw[wz ag];exact h1)
        cases this
       obtain⟨bd,h1⟩:=Az h1
       have:=h [] (true::bd) a bC (by rw[wz ag];exact h1)
       cases this
def X1:∀{l m:aa Int},l.Nodup->(∀x∈l,x∈m)->l.length<=m.length
 |[],m,_,_=>vg _
 | x::l,m,aM,h=>by
   obtain⟨h1,ad⟩:=pP.1 aM;have au:=h x (by simp);have:=X1 (m:=m.erase x) ad λy aR=>(Va λe=>h1 (by rw[<-e];exact aR)).2 (h y (by simp[aR]));rw[UR au]at this;have hp:=U0 au;simp only[List.length_cons];omega
def aii(v:aN)(n:Int):a8 (Hn v n) (λ_=>True):=by
 unfold Hn;exact .cond (λ_=>.ret lJ) λ_=>.cond (λ_=>.eq I (.ret lJ)) λ_=>.eq I (.eq I (.ret lJ))
def QW{hp:aL Cell}{t:Nat}{c:hW}(ag:gD hp t=some c):∀(d f:Nat) (r:Ref) (aT:aN) (cR:Int) (ka:aa fC),d<f->(∀bd p,c3 hp r bd=some p->bd.length<d)->(∀bd p,c3 hp r bd=some p->∃c,cS hp p=some c)->ka.length+(l6 hp d r).length<=20000->
 a8 (zC f hp (some t) r aT cR ka) (λo=>o.length=ka.length+(l6 hp d r).length)
 |d,0,r,aT,cR,ka,aW,_,_,_=>by omega
 |0,f+1,none,aT,cR,ka,aW,hd,aG,an=>⟨ka,rfl,rfl⟩
 |0,f+1,some p,aT,cR,ka,aW,hd,aG,an=>by have:=hd [] p I;simp at this
 |d+1,f+1,none,aT,cR,ka,aW,hd,aG,an=>⟨ka,rfl,rfl⟩
 | d+1,f+1,some p,aT,cR,ka,aW,hd,aG,an=>by
   obtain⟨e,he⟩:=aG [] p I;rw[Mv he]at an⊢;simp only[gH]at an⊢;have sF:∀b,(∀bd q,c3 hp (bE e.dF (gb b)) bd=some q->bd.length<d)∧∀bd q,c3 hp (bE e.dF (gb b)) bd=some q->∃c,cS hp q=some c:=λb=>⟨λbd q hq=>by
    have:=hd (b::bd) q (by rw[iZ he];exact hq);simp at this;omega,λbd q hq=>aG (b::bd) q (by rw[iZ he];exact hq)⟩
   show a8 (cond (some p:Ref).isNone (some ka) _) _;refine .cond (λag=>by cases ag) λ_=>?_;refine .bind (P:=λy=>y.length=ka.length+(bif e.gP then [e.j5]else []).length) ?_ λao bs=>?_
   ·unfold KK;refine .eq I (.eq he ?_);cases hu:e.gP with
    | true=>
      rw[hu]at an
      simp only[cond_true,List.length_singleton]at an
      refine .eq (a:=ka++[{cc:=aT,Av:=cR,b6:=e.j5}]) ?_ (.ret (by simp))
      show(eZ 32 ka _).bind _=_
      rw[gz _ _ (by simp;omega) (by omega)];rfl
    |false=>exact .eq I (.ret (by simp))
   refine .eq I (.eq he (.bind (QW ag d f _ aT (bm (cR+1)) ao (by omega) (sF false).1 (sF false).2 (by rw[bs];show _+_+(l6 hp d (bE e.dF 0)).length<=_;omega)) λaF b2=>?_));have b2:aF.length=ao.length+(l6 hp d (bE e.dF 0)).length:=b2;refine .eq I (.eq I (.eq ag (.bind (aii _ _) λbw _=>.eq I (.bind (QW ag d f _ _ (bm (cR+1)) aF (by omega) (sF true).1 (sF true).2 (by rw[b2,bs];show _+_+_+(l6 hp d (bE e.dF 1)).length<=_;omega)) λcj ih=>.ret ?_))));have ih:cj.length=aF.length+(l6 hp d (bE e.dF 1)).length:=ih;rw[ih,b2,bs];omega
def alF{hp:aL Cell}{t:Nat}{g:aa Bool->aE Int}(h:kT hp t g)(aq:∀bd cs id,g bd=some id->g cs=some id->bd=cs)(m:aa Int)(hm:∀bd id,g bd=some id->id∈m)(an:m.length<=20000):a8 (Da hp (some t)) (λr=>r=0->∀bd,g bd=none):=by
 obtain⟨c,ag,hb,bD,bu⟩:=h.ok;have aM:(l6 hp 33 c.eQ).Nodup:=Xg λbd cs id h1 ad=>aq bd cs id (by rw[<-bu];exact h1) (by rw[<-bu];exact ad);have hle:(l6 hp 33 c.eQ).length<=m.length:=X1 aM λx au=>by
  obtain⟨bd,nb⟩:=Az au;exact hm bd x (by rw[<-bu];exact nb)
 unfold Da Le Kq;refine .bind (P:=λy=>y.length=(l6 hp 33 c.eQ).length) (.bind (P:=λy=>y.length=(l6 hp 33 c.eQ).length) (.bind (P:=λy=>y.length=(l6 hp 33 c.eQ).length) (.cond (λ_=>.eq I (.eq ag ((show a8 (OE hp (some t) c.eQ default 0 []) _ from QW ag 33 c9 c.eQ default 0 [] (by unfold c9;omega) (λbd p hp=>by have:=bD.dep bd p hp;omega) bD.reads (by simp;omega)).bind λy aR=>.ret (by simpa using aR)))) λag=>by cases ag) λy aR=>.ret aR) λy aR=>.ret aR) λy aR=>.ret λbC bd=>?_;have bC:(l6 hp 33 c.eQ).length=0:=by rw[<-aR];have:(y.length:Int)=0:=bC;omega
 cases asZ:g bd with
 |none=>rfl
 | some id=>
   have T6:cont hp c.eQ bd=some id:=by rw[bu];exact asZ
   have hlen:bd.length<33:=by
    cases aW:c3 hp c.eQ bd with
    |none=>rw[mj aW]at T6;cases T6
    |some p=>have:=bD.dep bd p aW;omega
   have:=X0 hlen T6
   rw[Oi bC]at this;cases this
def ajb(x:eh)(n:Int)(an:x.cz.length<=1000):a8 (KE x n) (λr=>(r= -1∧j7 x.cz n=false)∨∃i:Nat,i<x.cz.length∧r=i∧(ax x.cz i).b0=n∧j7 x.cz n=true∧∀j,j<i->(ax x.cz j).b0≠n):=aaR x n an
def akz{l:aa aH}{n:Int}{i:Nat}(aM:l.Pairwise λa c=>a.b0≠c.b0)(aq:i<l.length)(h:(ax l i).b0=n):
 l.take i++l.drop (i+1)=l.filter (λc=>c.b0 !=n):=by
 rw[dz _ aq]at h
 have xt:l=l.take i++l[i]::l.drop (i+1):=by rw[Oq,gw]
 rw[xt,wa]at aM
 obtain⟨h1,ad,aB⟩:=aM
 obtain⟨aV,ba⟩:=kz.1 ad
 conv=>rhs;rw[xt]
 rw[mG,vb (by simp[h])]
 congr 1
 ·exact(sQ.2 λc ag=>by have:=aB c ag l[i] jC;rw[h]at this;simpa using this).symm
 exact(sQ.2 λc ag=>by have:=aV c ag;rw[h]at this;simp;exact λe=>this e.symm).symm
def kr.filter{s:aZ}{k:Nat}{l:aa aH}(h:kr s k l)(q:aH->Bool):kr s k (l.filter q)where
 ok i aq:=h.ok i (tV.1 aq).1
 num:=h.num.sublist Kv
 len:=mg (vc _ _) h.len
def aij{s:aZ}{k:Nat}{l:aa aH}(an:kr s k l)(n:Int):
 Fq (rB s k l) n=some (j7 l n,rB s k (l.filter λc=>c.b0 !=n)):=by
 refine a8.get ?_
 unfold Fq
 obtain⟨ky,hg⟩:=an.eX
 refine(ajb (rB s k l) n (by show(eX _ l).length<=1000;omega)).bind λao h1=>?_
 rcases h1 with⟨rfl,ad⟩|⟨j,ad,rfl,aB,aV,ba⟩
 ·have l0:j7 l n=false:=by rw[<-ad];exact L8.symm
  refine .cond (λ_=>.ret ?_) λag=>by simp at ag
  rw[l0,sQ.2 λc ag=>by simpa using YI l0 c ag]
 have ES:j7 l n=true:=by rw[<-aV];exact L8.symm
 refine .cond (λag=>by simp at ag;omega) λ_=>?_
 have aC:j<(eX (eS s k) l).length:=ad
 refine .eq (a:=eX (eS s k) (l.filter λc=>c.b0 !=n)) ?_ (.ret ?_)
 ·show IM (eX (eS s k) l) _ _=_
  unfold IM
  rw[dB (by omega),bh ⟨by omega,by omega,by omega⟩]
  have TI:(eX (eS s k) l).Pairwise λa c=>a.b0≠c.b0:=((QO l).symm.pairwise_iff λbT=>λe=>bT e.symm).1 an.num
  rw[<-ah5 (uj s k) an.ze,<-akz TI aC aB]
  simp
 rw[ES];rfl
def da(l:aa aH)(e:bl):aa aH:=l.filter λc=> !fG c.aX e
def nV{l:aa aH}{e:bl}{c:aH}:c∈da l e↔c∈l∧fG c.aX e=false:=by
 unfold da;rw[tV];simp
def ia.da{s:aZ}{k:Nat}{l:aa aH}(h:ia s k l)(e:bl):ia s k (Go.Proofs.YtppgfphgdogpeaaGreat.da l e):=
 ⟨h.ok.filter _,h.key.sublist Kv⟩
def LR{s:aZ}{k:Nat}{l:aa aH}(h:ia s k l){e:bl}{i:aH}(aq:i∈l)(hk:fG i.aX e=true):da l e=l.filter λc=>c.b0 !=i.b0:=by
 unfold da;refine List.filter_congr λc ag=>?_;by_cases av:c=i
 ·rw[av,hk];simp
 have h1:fG c.aX e=false:=by
  rw[pN];intro ad;exact av (h.uniq ag aq (s6 ad (by rw[s9];exact hk)))
 have ad:c.b0≠i.b0:=λad=>av (h.ok.uniq ag aq ad);rw[h1];simp[ad]
def aru{s:aZ}(h:b7 s){hp:aL Cell}{q:Nat}{l:aa aH}{own:Nat->Prop}(hq:AR s hp q l own)(an:ia s 0 l){i:aH}(aq:i∈l):
 a8 (FZ hp ⟨some q⟩ i) (λhp'=>AR s hp' q (da l i.aX) own∧fp hp hp' own):=by
 obtain⟨m,em,h1,ad,aB,aV,ba,kn⟩:=hq.ok
 have iz:=(an.ok.ok i aq).dr
 have bu:dG em (fq i.aX)=some i.b0:=(ba _ _).2 ⟨i,aq,rfl,rfl⟩
 unfold FZ KW xW
 refine .eq (Mb (iz.Nh h (by decide)).1) ?_
 refine .eq (a:=(true,cL hp m (Cell.rC (ju em (fq i.aX))))) ?_ (.ret ?_)
 ·show((nY hp q).bind _).bind _=_
  rw[h1]
  show((nu hp m).bind _).bind _=_
  rw[ad]
  show cond (!(dG em (fq i.aX)).isSome) _ _=_
  rw[bu]
  show(nY hp q).bind _=_
  rw[h1]
  show(nu hp m).bind _=_
  rw[ad];rfl
 have BU:q≠m:=λe=>by
  subst e;have:=Ii h1;rw[vo ad]at this;cases this
 refine⟨⟨m,_,by rw[PM (nm BU.symm)];exact h1,XW (vo ad),aB,aV,λc5 n=>?_,kn.del⟩,.up aV⟩
 rw[Dy kn]
 by_cases iB:c5=fq i.aX
 ·rw[bh iB]
  refine⟨λe=>(by cases e),λ⟨c,ag,bq,c0⟩=>?_⟩
  obtain⟨g1,g2⟩:=nV.1 ag
  rw[(JO h (an.ok.ok c g1).dr iz).2 (bq.trans iB)]at g2;cases g2
 rw[bf iB,ba]
 constructor
 ·rintro ⟨c,ag,bq,c0⟩
  refine⟨c,nV.2 ⟨ag,?_⟩,bq,c0⟩
  rw[pN];intro db
  exact iB (by rw[<-bq];exact(JO h (an.ok.ok c ag).dr iz).1 db)
 rintro ⟨c,ag,bq⟩
 exact⟨c,(nV.1 ag).1,bq⟩
def arv{s:aZ}(h:b7 s){hp:aL Cell}{m:Nat}{l:aa aH}{own:Nat->Prop}(hq:pc s hp m l own)(an:ia s 1 l){i:aH}(aq:i∈l):
 a8 (FI hp ⟨0,32,⟨some m⟩⟩ i) (λhp'=>pc s hp' m (da l i.aX) own∧fp hp hp' own):=by
 obtain⟨em,oQ,ad,aB,aV,ba,kn⟩:=hq.ok
 have iz:=(an.ok.ok i aq).dr
 have h8:=yM h iz
 have bD:∃t,dG em (hI (fq i.aX))=some (some t):=by
  cases bu:dG em (hI (fq i.aX))with
  |none=>exact absurd I (aV _ bu i aq)
  |some r=>obtain⟨t,g,rfl,_⟩:=aB _ _ bu;exact⟨t,rfl⟩
 obtain⟨t,bD⟩:=bD
 obtain⟨gk,g,e,g1,g2,g3⟩:=aB _ _ bD
 cases e
 obtain⟨n,aM⟩:=pK h8.pre.1
 have IY:n<=32:=by have:=h8.pre.2;omega
 have yz:=Qj h8
 have hp':dT (ax i.aX.bP 0).cc n=ly i.aX:=by unfold ly;rw[aM];rfl
 have as0:g (ly i.aX)=some i.b0:=(g3 _ _).2 ⟨i,aq,rfl,rfl,rfl⟩
 have adk:∀c∈l,hI (fq c.aX)=hI (fq i.aX)->(fG c.aX i.aX=false↔ly c.aX≠ly i.aX):=λc ag au=>by
  rw[pN,ne_eq,EU h (an.ok.ok c ag).dr iz];exact⟨λh1 ad=>h1 ⟨au,ad⟩,λh1 ad=>h1 ad.2⟩
 have mu:∀c∈l,hI (fq c.aX)≠hI (fq i.aX)->fG c.aX i.aX=false:=λc ag au=>by
  rw[pN,ne_eq,EU h (an.ok.ok c ag).dr iz];exact λh1=>au h1.1
 unfold FI
 refine .eq (QT h iz _) (.eq I (.eq oQ (.eq I ?_)))
 simp only[bD]
 rw[aM]at yz⊢
 refine(show a8 (CU hp (some t) (ax i.aX.bP 0).cc (n:Int)) _ from aih g1 IY yz (by rw[hp'];exact as0)).bind λaF aG=>?_
 obtain⟨_,ky,hg,rS⟩:=aG
 rw[hp']at ky
 obtain⟨auN,cZ⟩:=aF
 simp only at ky hg rS⊢
 have ET:∀q,Own hp t q->q≠m:=λq T2 e=>by
  have:=pa oQ;rw[<-e]at this;rcases g1.Mu T2 with⟨c,ag⟩|⟨c,ag⟩ <;> rw[ag]at this <;> cases this
 have nI:pat cZ m=pat hp m:=hg.rest m (ki (pa oQ)) λhq=>ET m hq I
 have Tb:lK cZ m=some em:=by rw[Lv nI];exact oQ
 have IZ:∀bd rV,(if bd=ly i.aX then none else g bd)=some rV↔∃c∈da l i.aX,hI (fq c.aX)=hI (fq i.aX)∧ly c.aX=bd∧c.b0=rV:=λbd rV=>by
  by_cases nb:bd=ly i.aX
  ·rw[bh nb];refine⟨λe=>(by cases e),λ⟨c,ag,bq,c0,_⟩=>?_⟩;obtain⟨bX,a2⟩:=nV.1 ag;exact absurd (c0.trans nb) ((adk c bX bq).1 a2)
  rw[bf nb,g3];constructor
  ·rintro ⟨c,ag,bq,c0,db⟩;exact⟨c,nV.2 ⟨ag,(adk c ag bq).2 λe=>nb (c0.symm.trans e)⟩,bq,c0,db⟩
  rintro ⟨c,ag,bq⟩;exact⟨c,(nV.1 ag).1,bq⟩
 have vw:∀c5 gk,c5≠hI (fq i.aX)->dG em c5=some (some gk)->∃ek,kT hp gk ek∧kT cZ gk ek∧(∀q,Own hp gk q->own q)∧(∀q,Own cZ gk q↔Own hp gk q)∧∀bd n,ek bd=some n↔∃c∈da l i.aX,hI (fq c.aX)=c5∧ly c.aX=bd∧c.b0=n:=λc5 gk di aG=>by
  obtain⟨asU,ek,e,bX,a2,a3⟩:=aB c5 _ aG;cases e;obtain⟨dL,eF⟩:=bX.congr (hp':=cZ) λq hq=>hg.rest q (bX.AQ hq) λqS=>ba _ _ _ _ bD aG di.symm q qS hq;refine⟨ek,bX,dL,a2,eF,λbd n=>?_⟩;rw[a3];constructor
  ·rintro ⟨c,ag,bq,c0⟩;exact⟨c,nV.2 ⟨ag,mu c ag (by rw[bq];exact di)⟩,bq,c0⟩
  rintro ⟨c,ag,bq⟩;exact⟨c,(nV.1 ag).1,bq⟩
 have c4:fp hp cZ own:=⟨hg.keys,λq hq fJ=>hg.rest q hq λqS=>fJ (g2 q qS)⟩
 have bZ:pc s cZ m (da l i.aX) own:=by
  refine⟨em,Tb,ad,λc5 lW kp=>?_,λc5 iB c ag=>aV c5 iB c (nV.1 ag).1,λc5 lS t1 t2 lh l5 di q jO rK=>?_,kn⟩
  ·by_cases iB:c5=hI (fq i.aX)
   ·subst iB;rw[bD]at kp;cases kp;exact⟨t,_,rfl,ky,λq hq=>g2 q (rS q hq),IZ⟩
   obtain⟨gk,ek,e,_⟩:=aB c5 lW kp;subst e;obtain⟨BV,bX,a2,a3,a4,a5⟩:=vw c5 gk iB kp;exact⟨gk,BV,rfl,a2,λq hq=>a3 q ((a4 q).1 hq),a5⟩
  have hf:∀c5 t1,dG em c5=some (some t1)->∀q,Own cZ t1 q->Own hp t1 q:=λc5 t1 lh q jO=>by
   by_cases av:c5=hI (fq i.aX)
   ·subst av;rw[bD]at lh;cases lh;exact rS q jO
   obtain⟨_,_,_,_,a4,_⟩:=vw c5 t1 av lh;exact(a4 q).1 jO
  exact ba _ _ _ _ lh l5 di q (hf c5 t1 lh q jO) (hf lS t2 l5 q rK)
 refine .eq Tb (.eq I ?_)
 simp only[bD]
 refine(show a8 (Da cZ (some t)) _ from alF ky (λbd cs id h1 ad=>?_) (l.map (·.b0)) (λbd id h1=>?_) (by rw[k1];have:=an.ok.len;omega)).bind λbg bq=>?_
 ·obtain⟨c,ag,_,dL,eF⟩:=(IZ _ _).1 h1
  obtain⟨d,hd,_,d1,d2⟩:=(IZ _ _).1 ad
  have:=an.ok.uniq (nV.1 ag).1 (nV.1 hd).1 (eF.trans d2.symm)
  rw[<-dL,<-d1,this]
 ·obtain⟨c,ag,_,dL,eF⟩:=(IZ _ _).1 h1
  exact ic.2 ⟨c,(nV.1 ag).1,eF⟩
 refine .bind (P:=λhp'=>pc s hp' m (da l i.aX) own∧fp hp hp' own) (.cond (λbV=>.eq I (.ret ?_)) λ_=>.ret ⟨bZ,c4⟩) λm1 bS=>.ret bS
 have bq:=bq (by simpa using bV)
 have Eu:=pa Tb
 have Tc:∀gk ek,kT cZ gk ek->kT (cL cZ m (Cell.oH (ju em (hI (fq i.aX))))) gk ek∧∀q,Own (cL cZ m (Cell.oH (ju em (hI (fq i.aX))))) gk q↔Own cZ gk q:=λgk ek BT=>BT.congr λq tG=>nm λe=>by
  rw[e]at Eu;rcases BT.Mu tG with⟨c,ag⟩|⟨c,ag⟩ <;> rw[ag]at Eu <;> cases Eu
 refine⟨⟨_,XX Eu,ad,λc5 lW kp=>?_,λc5 iB c ag=>?_,λc5 lS t1 t2 lh l5 di q jO rK=>?_,kn.del⟩,c4.trans (fp.up ad) λq _ hq=>hq⟩
 ·rw[Dy kn]at kp
  split at kp
  ·cases kp
  rename_i iB
  obtain⟨gk,ek,e,_⟩:=aB c5 lW kp
  subst e
  obtain⟨BV,bX,a2,a3,a4,a5⟩:=vw c5 gk iB kp
  obtain⟨dL,eF⟩:=Tc gk BV a2
  exact⟨gk,BV,rfl,dL,λq hq=>a3 q ((a4 q).1 ((eF q).1 hq)),a5⟩
 ·rw[Dy kn]at iB
  split at iB
  ·rename_i e
   intro au
   have:=(IZ _ _).2 ⟨c,ag,au.trans e,rfl,rfl⟩
   rw[bq]at this;cases this
  exact aV c5 iB c (nV.1 ag).1
 rw[Dy kn]at lh l5
 split at lh
 ·cases lh
 split at l5
 ·cases l5
 rename_i av aS
 obtain⟨asP,bX,a2,a3,a4,_⟩:=vw c5 t1 av lh
 obtain⟨asQ,dL,eF,jA,Oa,_⟩:=vw lS t2 aS l5
 exact ba _ _ _ _ lh l5 di q ((a4 q).1 (((Tc t1 _ a2).2 q).1 jO)) ((Oa q).1 (((Tc t2 _ eF).2 q).1 rK))
def srem{s:aZ}{k:Nat}{hp:aL Cell}{q:Nat}{l:aa aH}{own:Nat->Prop}(hq:AS s k hp q l own)(an:ia s k l){i:aH}(aq:i∈l):
 cQ (F1 hp ⟨some q⟩ i) (λhp'=>AS s k hp' q (da l i.aX) own∧fp hp hp' own):=by
 obtain⟨key,cap,h1,ad⟩:=hq.ok
 unfold F1
 refine .eq I (.eq h1 (.eq (aij an.ok _) (.any λaw=>.eq I (.ret ?_))))
 rw[LR an aq (oz _)]
 exact⟨⟨aw.1,aw.2,XY (yj h1),ad⟩,.up ad⟩
def arw{s:aZ}(h:b7 s){k:Nat}{hp:aL Cell}{f:iK}{l:aa aH}{own:Nat->Prop}(hq:tj s k hp f l own)(an:ia s k l){i:aH}(aq:i∈l):
 cQ (OV hp f i) (λhp'=>tj s k hp' f (da l i.aX) own∧fp hp hp' own):=by
 rcases hq with⟨rfl,q,rfl,hq⟩|⟨rfl,m,rfl,hq⟩|⟨c4,q,rfl,hq⟩
 ·exact cQ.of ((aru h hq an aq).mono λhp' aG=>⟨.inl ⟨rfl,q,rfl,aG.1⟩,aG.2⟩)
 ·exact cQ.of ((arv h hq an aq).mono λhp' aG=>⟨.inr (.inl ⟨rfl,m,rfl,aG.1⟩),aG.2⟩)
 exact(srem hq an aq).mono λhp' aG=>⟨.inr (.inr ⟨c4,q,rfl,aG.1⟩),aG.2⟩
def Wv{α β:Type}[DecidableEq α]:∀{l:aa (α×β)} {x:α},pJ l->ju l x=l.filter λa=>decide (a.1≠x)
 |[],_,_=>rfl
 | (k,w)::r,x,h=>by
   obtain⟨h1,ad⟩:=kz.1 h;unfold ju;by_cases e:x=k
   ·rw[bh e,vb (by simp[e])];exact(sQ.2 λa aY=>by simpa using λe'=>h1 a aY (by rw[<-e,e'])).symm
   rw[bf e,xI (by simpa using λe'=>e e'.symm),Wv ad]
def xb.hR{s:aZ}{k:Nat}{em:aa (Int×aH)}{l:aa aH}(h:xb em l)(an:kr s k l):pJ em:=by
 refine(h.pairwise_iff λbT=>x4 bT).2 ?_;rw[Cs];exact an.num.imp λbT=>bT
def aik{s:aZ}(h:b7 s){k:Nat}(hk:k<4){hp:aL Cell}{p:Nat}{l:aa aH}{own:Nat->Prop}(au:lO s k hp p l own){e:bl}(he:fE s k e):
 cQ (Gk hp (some p) e) (λr=>(r.1,r.2.1)=jg (dw l e)∧lO s k r.2.2 p (da l e) own∧fp hp r.2.2 own):=by
 obtain⟨f,m,em,h1,ad,aB,aV,ba,bq⟩:=au.cell
 have hm:=uh ad
 have hp':=AJ h1
 have nI:p≠m:=λe=>by rw[e,hm]at hp';cases hp'
 unfold Gk
 refine .eq (QU h hk au he) ?_
 refine .bind (P:=λm1=>lO s k m1 p (da l e) own∧fp hp m1 own) (.cond (λag=>?_) λag=>.ret ?_) λm1 bS=>.ret ⟨rfl,bS⟩
 ·cases aW:dw l e with
  |none=>rw[aW]at ag;cases ag
  | some i=>
    obtain⟨aq,rN⟩:=o7 aW
    have as1:da l i.aX=da l e:=by
     rw[LR au.gd aq (oz _),LR au.gd aq rN]
    refine .eq I (.eq h1 (.bind (arw h bq au.gd aq) λcZ aG=>?_))
    obtain⟨ky,hg⟩:=aG
    have ky:tj s k cZ f (da l i.aX) (λq=>own q∧q≠m∧q≠p):=ky
    rw[as1]at ky
    show cQ (aj.bind (aj.of (jb cZ p)) λc2=>aj.bind (aj.of c2.pU.p) λcE=>aj.bind (aj.of (mT cZ cE)) λeE=>aj.bind (aj.of (some (cL cZ cE (Cell.mn (ju eE i.b0))))) λbQ=>aj.ret bQ) _
    have bX:pat cZ p=some (.qH ⟨rX k,(jj s k:Int),f,⟨some m⟩⟩):=by rw[hg.rest p (ki hp') (λhq=>hq.2.2 I)];exact hp'
    have a2:pat cZ m=some (.mn em):=by rw[hg.rest m (ki hm) (λhq=>hq.2.1 I)];exact hm
    refine .eq (by unfold jb;rw[bX]) (.eq I (.eq (by unfold mT;rw[a2]) (.eq I (.ret ?_))))
    have as2:fp hp cZ own:=⟨hg.keys,λq hq fJ=>hg.rest q hq λh=>fJ h.1⟩
    have qb:fp hp (cL cZ m (Cell.mn (ju em i.b0))) own:=as2.trans (fp.up (own:=own) aV) λq _ hq=>hq
    refine⟨⟨au.gd.da e,⟨f,m,_,by unfold jb;rw[nm nI.symm,bX],aja a2,aB,aV,?_,ky.congr (λq _ hq=>hq) λq hq=>nm hq.2.1.symm⟩,λq hq=>qb.keys q (au.pE q hq)⟩,qb⟩
    unfold xb
    rw[Wv (ba.hR au.gd.ok),LR au.gd aq rN]
    refine(ba.filter _).trans ?_
    rw[O4]
    have:((λa:Int×aH=>decide (a.1≠i.b0)) ∘ λc:aH=>(c.b0,c))=λc=>c.b0 !=i.b0:=by
     funext c;show decide (c.b0≠i.b0)=_;by_cases e:c.b0=i.b0 <;> simp[e]
    rw[this]
 have aW:dw l e=none:=by
  cases aW:dw l e with
  |none=>rfl
  |some i=>rw[aW]at ag;cases ag
 have:da l e=l:=by
  unfold da;exact sQ.2 λc ag=>by rw[uc aW c ag];rfl
 rw[this]
 exact⟨au,.refl⟩
end Go.Proofs.YtppgfphgdogpeaaGreat
