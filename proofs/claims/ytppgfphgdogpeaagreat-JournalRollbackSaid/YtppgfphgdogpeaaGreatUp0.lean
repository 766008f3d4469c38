/-
  What the programs compute, in plain Lean. Conditions: none.
-/
import Derived.Test.YtppgfphgdogpeaaGreatUl0
import Derived.Test.YtppgfphgdogpeaaGreatUl1
import Derived.Test.YtppgfphgdogpeaaGreatUd
set_option linter.defProp false
set_option linter.unusedVariables false
set_option linter.unusedSimpArgs false
set_option maxRecDepth 100000
namespace Gv
open Go
def X4{σ ε:Type}{body:σ->aD (σ⊕ε)}{Q:ε->Prop}{b9:σ}(m:Nat)(gh:Nat->σ->Prop)
 (hm:m<2^80) (bC:gh 0 b9)
 (hs:∀k s,k<m->gh k s->(∃cq,body s=some (.inl cq)∧gh (k+1) cq)∨(∃e,body s=some (.inr e)∧Q e))
 (he:∀s,gh m s->∃e,body s=some (.inr e)∧Q e):∃e,c8 c3 body b9=some e∧Q e:=by
 have key:∀n k s,k<=m->m-k<n->gh k s->∃e,c8 n body s=some e∧Q e:=by
  intro n;induction n with
  |zero=>intro k s _ h;omega
  | succ n cj=>
    intro k s hk aM aq
    by_cases BW:k=m
    ·subst BW
     obtain⟨e,h1,ad⟩:=he s aq
     exact⟨e,by simp[c8,h1],ad⟩
    rcases hs k s (by omega) aq with⟨cq,h1,ad⟩|⟨e,h1,ad⟩
    ·obtain⟨e,az,aV⟩:=cj (k+1) cq (by omega) (by omega) ad
     exact⟨e,by simp[c8,h1,az],aV⟩
    exact⟨e,by simp[c8,h1],ad⟩
 exact key c3 0 b9 (by omega) (by unfold c3;omega) bC
def ba{β:Type}(m:aD β)(P:β->Prop):Prop:=∃r,m=some r∧P r
def ba.ret{β:Type}{P:β->Prop}{r:β}(h:P r):ba (some r) P:=⟨r,rfl,h⟩
def ba.bind{α β:Type}{m:aD α}{f:α->aD β}{P:α->Prop}{Q:β->Prop}(h:ba m P)(k:∀a,P a->ba (f a) Q):ba (m.bind f) Q:=by
 obtain⟨a,h1,ad⟩:=h;rw[h1];exact k a ad
def ba.eq{α β:Type}{m:aD α}{a:α}{f:α->aD β}{Q:β->Prop}(h:m=some a)(k:ba (f a) Q):ba (m.bind f) Q:=by
 rw[h];exact k
def ba.mono{β:Type}{m:aD β}{P Q:β->Prop}(h:ba m P)(k:∀a,P a->Q a):ba m Q:=by
 obtain⟨a,h1,ad⟩:=h;exact⟨a,h1,k a ad⟩
def ba.of_eq{β:Type}{m:aD β}{r:β}{P:β->Prop}(h:ba m P)(k:m=some r):P r:=by
 obtain⟨a,h1,ad⟩:=h;rw[k]at h1;cases h1;exact ad
def ba.cond{β:Type}{b:Bool}{m n:aD β}{P:β->Prop}(h1:b=true->ba m P)(ad:b=false->ba n P):ba (cond b m n) P:=by
 cases b
 ·exact ad I
 exact h1 I
def ba.bV{α β:Type}[Inhabited α]{b w:Bool}{m:aD α}{f:α->aD β}{P:α->Prop}{Q:β->Prop}(h:b=w->ba m P)(k:∀a,(b=w->P a)->ba (f a) Q):ba ((bV b w m).bind f) Q:=by
 unfold Gv.bV;by_cases hb:b=w
 ·rw[bh hb];exact(h hb).bind λa aY=>k a λ_=>aY
 rw[bf hb];exact k default λh=>absurd h hb
def ba.loop{σ ε β:Type}{body:σ->aD (σ⊕ε)}{f:ε->aD β}{P:β->Prop}{b9:σ}(m:Nat)(gh:Nat->σ->Prop)
 (hm:m<2^80) (bC:gh 0 b9)
 (hs:∀k s,k<m->gh k s->ba (body s) (λx=>match x with | .inl cq=>gh (k+1) cq| .inr e=>ba (f e) P))
 (he:∀s,gh m s->∃e,body s=some (.inr e)∧ba (f e) P):ba ((c8 c3 body b9).bind f) P:=by
 obtain⟨e,h1,ad⟩:=X4 (Q:=λe=>ba (f e) P) m gh hm bC (λk s hk aq=>by
  obtain⟨r,h1,ad⟩:=hs k s hk aq;cases r with
  |inl cq=>exact .inl ⟨cq,h1,ad⟩
  |inr e=>exact .inr ⟨e,h1,ad⟩) he
 rw[h1];exact ad
def ba.jH{σ ε:Type}{body:σ->aD (σ⊕ε)}{P:ε->Prop}{b9:σ}(m:Nat)(gh:Nat->σ->Prop)
 (hm:m<2^80) (bC:gh 0 b9)
 (hs:∀k s,k<m->gh k s->ba (body s) (λx=>match x with | .inl cq=>gh (k+1) cq| .inr e=>P e))
 (he:∀s,gh m s->ba (body s) (λx=>match x with | .inl _=>False| .inr e=>P e)):ba (c8 c3 body b9) P:=by
 obtain⟨e,h1,ad⟩:=X4 (Q:=P) m gh hm bC (λk s hk aq=>by
  obtain⟨r,h1,ad⟩:=hs k s hk aq;cases r with
  |inl cq=>exact .inl ⟨cq,h1,ad⟩
  |inr e=>exact .inr ⟨e,h1,ad⟩) λs aq=>by
  obtain⟨r,h1,ad⟩:=he s aq;cases r with
  |inl cq=>exact ad.elim
  |inr e=>exact⟨e,h1,ad⟩
 exact⟨e,h1,ad⟩
def ba.idx{β:Type}{n:Nat}{i:Int}{k:Nat}{f:Nat->aD β}{Q:β->Prop}(aq:i=k)(hk:k<n)(h:ba (f k) Q):ba ((Gv.idx n i).bind f) Q:=by
 subst aq;have:Gv.idx n (k:Int)=some k:=by unfold Gv.idx;rw[bh (by omega)];simp
 rw[this];exact h
def jE{α:Type}[Inhabited α]{n:Nat}(v:Vector α n){k:Nat}(x:α)(hk:k<n)(j:Nat):bG (dK v k x) j=if j=k then x else bG v j:=by
 unfold bG dK;by_cases h:j=k
 ·subst h;simp[hk]
 rw[bf h,Vector.getElem?_setIfInBounds_ne (by omega)]
def Qr{α:Type}[Inhabited α]{n:Nat}{v w:Vector α n}(h:∀j,j<n->bG v j=bG w j):v=w:=by
 apply Vector.ext;intro i aq;have:=h i aq;simpa[bG,aq]using this
def Lw{α:Type}[Inhabited α]{n:Nat}(j:Nat):bG (default:Vector α n) j=default:=by
 show bG (Vector.replicate n default) j=default;unfold bG;by_cases h:j<n <;> simp[h]
def kk{n k:Nat}(h:k<n):idx n (k:Int)=some k:=by
 unfold idx;rw[bh (by omega)];simp
def wM{n:Nat}{i:Int}(h:0<=i)(cW:i<n):idx n i=some i.toNat:=by
 unfold idx;rw[bh ⟨h,cW⟩]
def dA{k:Nat}(h:k<2^62):bm ((k:Int)+1)=((k+1:Nat):Int):=by
 rw[gN (by omega) (by omega)];simp
def s8{k:Nat}(h:k<2^64):(BitVec.ofInt 64 (k:Int)).toNat=k:=by
 simp;omega
def Y2(x:BitVec 64):((x&&&1#64)==1#64)=x.getLsbD 0:=by
 rw[BitVec.and_one_eq_setWidth_ofBool_getLsbD];cases x.getLsbD 0 <;> rfl
def ajD(x:BitVec 64)(n:Nat):(((x >>> n)&&&1#64)==1#64)=x.getLsbD n:=by
 rw[Y2];simp
def Xx(k j:Nat):((1#64) <<< k).getLsbD j=(decide (j=k)&&decide (j<64)):=by
 rw[Vc];by_cases h:j=k
 ·subst h;simp
 have:(1#64).getLsbD (j-k)=decide (j-k=0):=by
  rw[BitVec.getLsbD_one];simp
 rw[this];by_cases ad:j<k
 ·simp[ad,h]
 have: ¬(j-k=0):=by omega
 simp[h,this]
def AL{α β:Type}[Inhabited α][Inhabited β](f:α->β){l:aa α}{k:Nat}(hk:k<l.length):ax (l.map f) k=f (ax l k):=by
 rw[dh l hk,dh _ (by simpa using hk),o4]
def mM{α:Type}[Inhabited α](l:aa α){k:Nat}(hk:k<l.length):l.take (k+1)=l.take k++[ax l k]:=by
 rw[CI,o2 hk,dh l hk];rfl
def QU{α:Type}[Inhabited α]{xs:aa α}{p:α->Bool}{k:Nat}(hk:k<xs.length)(hp:p (ax xs k)=true)(aB:∀j,j<k->p (ax xs j)=false):xs.find? p=some (ax xs k):=by
 rw[List.find?_eq_some_iff_getElem];refine⟨hp,k,hk,(dh xs hk).symm,λj uW=>?_⟩;have:=aB j uW;rw[dh xs (by omega)]at this;simp[this]
def QV{α:Type}{xs:aa α}{p:α->Bool}(h:∀x∈xs,p x=false):xs.find? p=none:=
 xO.2 λx au=>by simp[h x au]
def aiz{α ε β:Type}[Inhabited α](xs:aa α)(p:α->Bool){body:Int->aD (Int⊕ε)}{f:ε->aD β}{P:β->Prop}(al:xs.length<2^62)
 (Jy:∀k:Nat,k<xs.length->p (ax xs k)=false->body k=some (.inl (bm ((k:Int)+1))))
 (al7:∀k:Nat,k<xs.length->xs.find? p=some (ax xs k)->p (ax xs k)=true->∃e,body k=some (.inr e)∧ba (f e) P)
 (oK:xs.find? p=none->∃e,body (xs.length:Int)=some (.inr e)∧ba (f e) P):ba ((c8 c3 body 0).bind f) P:=by
 refine ba.loop xs.length (λk s=>s=(k:Int)∧∀j,j<k->p (ax xs j)=false) (by omega) ⟨rfl,λj aB=>by omega⟩ (λk s hk aq=>?_) (λs aq=>?_)
 ·obtain⟨rfl,aS⟩:=aq
  by_cases hp:p (ax xs k)=true
  ·obtain⟨e,h1,ad⟩:=al7 k hk (QU hk hp aS) hp
   rw[h1];exact .ret ad
  simp only[jl]at hp
  rw[Jy k hk hp]
  refine .ret ⟨dA (by omega),λj aB=>?_⟩
  by_cases uW:j=k
  ·subst uW;exact hp
  exact aS j (by omega)
 obtain⟨rfl,aS⟩:=aq
 refine oK (QV λx au=>?_)
 obtain⟨j,aB,rfl⟩:=xN.1 au
 rw[<-dh xs aB];exact aS j aB
def cO{α:Type}(m:aj α)(P:α->Prop):Prop:=∀Q:α->Prop,(∀r,P r->Q r)->m Q
def cO.run{α:Type}{m:aj α}{P:α->Prop}(h:cO m P):m P:=h P λ_ h=>h
def cO.ret{α:Type}{P:α->Prop}{x:α}(h:P x):cO (aj.ret x) P:=λQ k=>k x h
def cO.bind{α β:Type}{m:aj α}{f:α->aj β}{P:α->Prop}{vg:β->Prop}(h:cO m P)(k:∀r,P r->cO (f r) vg):cO (aj.bind m f) vg:=λQ hq=>h _ λr aG=>k r aG Q hq
def cO.of{α:Type}{o:aD α}{P:α->Prop}(h:ba o P):cO (aj.of o) P:=λQ hq=>let⟨r,h1,ad⟩:=h; ⟨r,h1,hq r ad⟩
def cO.hc{α β:Type}{o:aD α}{f:α->aj β}{P:α->Prop}{vg:β->Prop}(h:ba o P)(k:∀r,P r->cO (f r) vg):cO (aj.bind (aj.of o) f) vg:=.bind (.of h) k
def cO.eq{α β:Type}{o:aD α}{a:α}{f:α->aj β}{vg:β->Prop}(h:o=some a)(k:cO (f a) vg):cO (aj.bind (aj.of o) f) vg:=λQ hq=>⟨a,h,k Q hq⟩
def cO.mono{α:Type}{m:aj α}{P vg:α->Prop}(h:cO m P)(k:∀r,P r->vg r):cO m vg:=λQ hq=>h Q λr aG=>hq r (k r aG)
def cO.cond{α:Type}{b:Bool}{m n:aj α}{P:α->Prop}(h1:b=true->cO m P)(ad:b=false->cO n P):cO (cond b m n) P:=by
 cases b
 ·exact ad I
 exact h1 I
def cO.bV{α β:Type}[Inhabited α]{b w:Bool}{m:aD α}{f:α->aj β}{P:α->Prop}{Q:β->Prop}(h:b=w->ba m P)(k:∀a,(b=w->P a)->cO (f a) Q):cO (aj.bind (aj.of (bV b w m)) f) Q:=by
 unfold Gv.bV;by_cases hb:b=w
 ·rw[bh hb];exact .hc (h hb) λa aY=>k a λ_=>aY
 rw[bf hb];exact .eq I (k default λh=>absurd h hb)
def cO.idx{β:Type}{n:Nat}{i:Int}{k:Nat}{f:Nat->aj β}{Q:β->Prop}(aq:i=k)(hk:k<n)(h:cO (f k) Q):cO (aj.bind (aj.of (Gv.idx n i)) f) Q:=by
 subst aq;exact .eq (kk hk) h
def cO.mk{bM β:Type}{hp:aL bM}{c:bM}{f:Nat×aL bM->aj β}{P:β->Prop}(k:∀p,p∉eb hp->cO (f (p,(p,c)::hp)) P):cO (aj.bind (aj.mk hp c) f) P:=λQ hq=>λa aY=>by
 obtain⟨p,hp'⟩:=a;obtain⟨h1,ad⟩:=aY;simp only at h1 ad;subst ad;exact k p h1 Q hq
def cO.any{α β:Type}{f:α->aj β}{P:β->Prop}(k:∀x,cO (f x) P):cO (aj.bind (aj.any α) f) P:=λQ hq x=>k x Q hq
def cO.loop{σ ε:Type}{body:σ->aj (σ⊕ε)}{P:ε->Prop}{b9:σ}(m:Nat)(gh:Nat->σ->Prop)(hm:m<2^80)(bC:gh 0 b9)
 (hs:∀k s,k<m->gh k s->cO (body s) (λx=>match x with | .inl cq=>gh (k+1) cq| .inr e=>P e))
 (he:∀s,gh m s->cO (body s) (λx=>match x with | .inl _=>False| .inr e=>P e)):cO (nZ c3 body b9) P:=by
 have key:∀n k s,k<=m->m-k<n->gh k s->cO (nZ n body s) P:=by
  intro n;induction n with
  |zero=>intro k s _ h;omega
  | succ n cj=>
    intro k s hk aM aq Q hq
    by_cases BW:k=m
    ·subst BW
     exact he s aq _ λr aG=>by
      cases r with
      |inl cq=>exact aG.elim
      |inr e=>exact hq e aG
    exact hs k s (by omega) aq _ λr aG=>by
     cases r with
     |inl cq=>exact cj (k+1) cq (by omega) (by omega) aG Q hq
     |inr e=>exact hq e aG
 exact key c3 0 b9 (by omega) (by unfold c3;omega) bC
def lp{bM:Type}{hp:aL bM}{p q:Nat}{k:bM}:pat ((p,k)::hp) q=if p=q then some k else pat hp q:=rfl
def ajE{bM:Type}{hp:aL bM}{p:Nat}(h:p∉eb hp):pat hp p=none:=by
 cases e:pat hp p with
 |none=>rfl
 |some k=>exact absurd (kj e) h
def te{bM:Type}{hp:aL bM}{p:Nat}{k k':bM}(h:pat hp p=some k'):pat (cJ hp p k) p=some k:=by rw[H3,bh I,h];rfl
def nr{bM:Type}{hp:aL bM}{p q:Nat}{k:bM}(h:p≠q):pat (cJ hp p k) q=pat hp q:=by rw[H3,bf h]
def wC{α β:Type}[DecidableEq α]{l:aa (α×β)}{x y:α}{v:β}:dG (gP l x v) y=if y=x then some v else dG l y:=by
 induction l with
 | nil=>
   show(if y=x then some v else dG [] y)=_
   rfl
 | cons a r cj=>
   obtain⟨k,w⟩:=a
   simp only[gP]
   by_cases h:x=k
   ·rw[bh h]
    simp only[dG]
    by_cases ad:y=x
    ·simp[ad]
    simp[ad,show ¬y=k from λe=>ad (by rw[e,h])]
   rw[bf h]
   simp only[dG]
   by_cases ad:y=k
   ·subst ad;simp[show ¬y=x from λe=>h e.symm]
   rw[bf ad,cj,bf ad]
end Gv
namespace Go.Proofs.YtppgfphgdogpeaaGreat
open Go Gv
def gb(b:Bool):Nat:=bif b then 1 else 0
def c4(hp:aL Cell):Ref->aa Bool->Ref
 |none,_=>none
 |some p,[]=>some p
 | some p,b::bd=>match cV hp p with
   |none=>none
   |some c=>c4 hp (bG c.dF (gb b)) bd
def hZ{hp:aL Cell}{bd:aa Bool}:c4 hp none bd=none:=by cases bd <;> rfl
def o9{hp:aL Cell}{r:Ref}:c4 hp r []=r:=by cases r <;> rfl
def ja{hp:aL Cell}{p:Nat}{c:fc}{b:Bool}{bd:aa Bool}(h:cV hp p=some c):c4 hp (some p) (b::bd)=c4 hp (bG c.dF (gb b)) bd:=by
 show(match cV hp p with |none=>none|some c=>c4 hp (bG c.dF (gb b)) bd)=_;rw[h]
def oA{hp:aL Cell}:∀{r:Ref} {bd cs:aa Bool},c4 hp r (bd++cs)=c4 hp (c4 hp r bd) cs
 |none,bd,cs=>by rw[hZ,hZ,hZ]
 |some p,[],cs=>by rw[List.nil_append,o9]
 | some p,b::bd,cs=>by
   cases e:cV hp p with
   | none=>
     have h1:∀xs,c4 hp (some p) (b::xs)=none:=λxs=>by
      show(match cV hp p with |none=>none|some c=>c4 hp (bG c.dF (gb b)) xs)=_;rw[e]
     rw[List.cons_append,h1,h1,hZ]
   |some c=>rw[List.cons_append,ja e,ja e,oA]
def Xy{hp hp':aL Cell}:∀{r:Ref} {bd:aa Bool},(∀p cs,c4 hp r cs=some p->cV hp' p=cV hp p)->c4 hp' r bd=c4 hp r bd
 |none,bd,_=>by rw[hZ,hZ]
 |some p,[],_=>rfl
 | some p,b::bd,h=>by
   have bC:=h p [] I;show(match cV hp' p with |none=>none|some c=>c4 hp' (bG c.dF (gb b)) bd)=(match cV hp p with |none=>none|some c=>c4 hp (bG c.dF (gb b)) bd);rw[bC];cases e:cV hp p with
   |none=>rfl
   | some c=>
     refine Xy λq cs hq=>h q (b::cs) ?_
     rw[ja e];exact hq
structure rv(hp:aL Cell)(root:Ref):Prop where
 reads:∀bd p,c4 hp root bd=some p->∃c,cV hp p=some c
 inj:∀bd cs p,c4 hp root bd=some p->c4 hp root cs=some p->bd=cs
 dep:∀bd p,c4 hp root bd=some p->bd.length<=32
def cont(hp:aL Cell)(root:Ref)(bd:aa Bool):aD Int:=match c4 hp root bd with
 |none=>none
 | some p=>match cV hp p with
   |none=>none
   |some c=>bif c.gM then some c.j6 else none
def lZ{hp:aL Cell}{root:Ref}{bd:aa Bool}{p:Nat}{c:fc}(h:c4 hp root bd=some p)(ae:cV hp p=some c):cont hp root bd=bif c.gM then some c.j6 else none:=by
 unfold cont;rw[h];simp only[ae]
def mn{hp:aL Cell}{root:Ref}{bd:aa Bool}(h:c4 hp root bd=none):cont hp root bd=none:=by
 unfold cont;rw[h]
def s3{hp:aL Cell}{p:Nat}{c:fc}:cV hp p=some c↔pat hp p=some (.h3 c):=by
 refine⟨sg,λh=>?_⟩;unfold cV;rw[h]
def wD{hp:aL Cell}{p:Nat}{c:hY}:gD hp p=some c↔pat hp p=some (.lO c):=by
 refine⟨wP,λh=>?_⟩;unfold gD;rw[h]
def Ay{hp hp':aL Cell}{p:Nat}(h:pat hp' p=pat hp p):cV hp' p=cV hp p:=by unfold cV;rw[h]
def LD{hp hp':aL Cell}{p:Nat}(h:pat hp' p=pat hp p):gD hp' p=gD hp p:=by unfold gD;rw[h]
structure fr(hp hp':aL Cell)(own:Nat->Prop):Prop where
 keys:∀q,q∈eb hp->q∈eb hp'
 rest:∀q,q∈eb hp->¬own q->pat hp' q=pat hp q
def fr.refl{hp:aL Cell}{own:Nat->Prop}:fr hp hp own:=⟨λ_ h=>h,λ_ _ _=>rfl⟩
def fr.mk'{hp:aL Cell}{own:Nat->Prop}{a:Nat}{k:Cell}(aY:a∉eb hp):fr hp ((a,k)::hp) own:=
 ⟨λq h=>gA _ h,λq h _=>by rw[lp,bf (λe:a=q=>aY (by rw[e];exact h))]⟩
def fr.up{hp:aL Cell}{own:Nat->Prop}{p:Nat}{k:Cell}(hp':own p):fr hp (cJ hp p k) own:=
 ⟨λq h=>by rw[sf];exact h,λq h hq=>nr (λe:p=q=>hq (by rw[<-e];exact hp'))⟩
def fr.trans{h1 ad az:aL Cell}{own own':Nat->Prop}(a:fr h1 ad own)(b:fr ad az own')(a6:∀q,q∈eb h1->own' q->own q):fr h1 az own:=
 ⟨λq h=>b.keys q (a.keys q h),λq h hq=>by rw[b.rest q (a.keys q h) λcW=>hq (a6 q h cW),a.rest q h hq]⟩
def aiA(b:Bool):bG (default:fc).dF (gb b)=none:=by cases b <;> rfl
def Xz{hp:aL Cell}{a:Nat}(h:cV hp a=some (default:fc)):∀bd,c4 hp (some a) bd=if bd=[]then some a else none
 |[]=>rfl
 |b::bd=>by rw[ja h,aiA,hZ];rfl
def Qs{hp hp':aL Cell}{root:Ref}{ws:aa Bool}{b:Bool}{p a:Nat}{c:fc}(bD:rv hp root)(hw:c4 hp root ws=some p)(ae:cV hp p=some c)(aM:bG c.dF (gb b)=none)(aY:cV hp a=none)
 (bQ:cV hp' p=some {c with dF:=dK c.dF (gb b) (some a)}) (cZ:cV hp' a=some default) (iS:∀q,q≠p->q≠a->cV hp' q=cV hp q):
 ∀(bd us:aa Bool) (q:Nat),c4 hp root us=some q->c4 hp' (some q) bd=if us++bd=ws++[b]then some a else c4 hp (some q) bd
 | [],us,q,hu=>by
   have: ¬us++[]=ws++[b]:=λe=>by
    rw[ov]at e;rw[e,oA,hw,ja ae,aM,hZ]at hu;cases hu
   rw[bf this];rfl
 | x::xs,us,q,hu=>by
   obtain⟨xI,py⟩:=bD.reads us q hu;have pz:q≠a:=λe=>by rw[e,aY]at py;cases py
   by_cases JQ:q=p
   ·subst JQ;have Ub:=bD.inj us ws q hu hw;subst Ub;rw[ae]at py;cases py;rw[ja bQ,ja ae];simp only;have ca:gb b<2:=by cases b <;> decide
    rw[jE _ _ ca];by_cases B3:x=b
    ·subst B3;rw[bh I,aM,hZ,Xz cZ];by_cases h:xs=[]
     ·subst h;rw[bh I,bh I]
     rw[bf h,bf λe=>h ?_];have:=Kv e;simpa using this
    have df: ¬gb x=gb b:=λe=>B3 (by cases x <;> cases b <;> first|rfl|cases e);have fK: ¬us++x::xs=us++[b]:=λe=>B3 (by have:=Kv e;simpa using (List.cons.inj this).1);rw[bf df,bf fK];cases e:bG c.dF (gb x)with
    |none=>rw[hZ,hZ]
    | some oW=>
      have ps:c4 hp root (us++[x])=some oW:=by rw[oA,hu,ja ae,e,o9]
      rw[Qs bD hw ae aM aY bQ cZ iS xs (us++[x]) oW ps,iJ,List.singleton_append,bf fK]
   have h1:cV hp' q=some xI:=by rw[iS q JQ pz];exact py
   rw[ja h1,ja py];cases e:bG xI.dF (gb x)with
   | none=>
     have fK: ¬us++x::xs=ws++[b]:=λaS=>by
      have ata:c4 hp root (us++[x])=none:=by rw[oA,hu,ja py,e,hZ]
      rcases List.eq_nil_or_concat xs with rfl|⟨ys,y,rfl⟩
      ·have:=(OB aS I);subst this;rw[hu]at hw;cases hw;exact JQ I
      have az:us++x::ys=ws:=by
       have:(us++x::ys)++[y]=ws++[b]:=by simpa using aS
       exact OB this I
      rw[<-az,show us++x::ys=(us++[x])++ys by simp,oA,ata,hZ]at hw;cases hw
     rw[hZ,hZ,bf fK]
   | some oW=>
     have ps:c4 hp root (us++[x])=some oW:=by rw[oA,hu,ja py,e,o9]
     rw[Qs bD hw ae aM aY bQ cZ iS xs (us++[x]) oW ps,iJ,List.singleton_append]
def grow{hp hp':aL Cell}{r:Nat}{ws:aa Bool}(hd:ws.length<32){b:Bool}{p a:Nat}{c:fc}(bD:rv hp (some r))(hw:c4 hp (some r) ws=some p)(ae:cV hp p=some c)(aM:bG c.dF (gb b)=none)(aY:cV hp a=none)
 (bQ:cV hp' p=some {c with dF:=dK c.dF (gb b) (some a)}) (cZ:cV hp' a=some default) (iS:∀q,q≠p->q≠a->cV hp' q=cV hp q):
 rv hp' (some r)∧(∀bd,c4 hp' (some r) bd=if bd=ws++[b]then some a else c4 hp (some r) bd)∧∀bd,cont hp' (some r) bd=cont hp (some r) bd:=by
 have aW:∀bd,c4 hp' (some r) bd=if bd=ws++[b]then some a else c4 hp (some r) bd:=λbd=>Qs bD hw ae aM aY bQ cZ iS bd [] r I
 have NS:∀bd,c4 hp (some r) bd≠some a:=λbd h=>by
  obtain⟨c,h1⟩:=bD.reads bd a h;rw[aY]at h1;cases h1
 have Uc:c4 hp (some r) (ws++[b])=none:=by rw[oA,hw,ja ae,aM,hZ]
 refine⟨⟨λbd q h=>?_,λbd cs q h1 ad=>?_,λbd q h=>?_⟩,aW,λbd=>?_⟩
 ·rw[aW]at h
  split at h
  ·cases h;exact⟨_,cZ⟩
  obtain⟨gy,h1⟩:=bD.reads bd q h
  by_cases e:q=p
  ·subst e;exact⟨_,bQ⟩
  exact⟨gy,by rw[iS q e λaS=>NS bd (aS▸h)];exact h1⟩
 ·rw[aW]at h1 ad
  split at h1 <;> split at ad
  ·rename_i ar aS;rw[ar,aS]
  ·cases h1;exact absurd ad (NS cs)
  ·cases ad;exact absurd h1 (NS bd)
  exact bD.inj bd cs q h1 ad
 ·rw[aW]at h
  split at h
  ·rename_i e;rw[e];simp;omega
  exact bD.dep bd q h
 by_cases e:bd=ws++[b]
 ·subst e
  rw[mn Uc,lZ (by rw[aW,bh I]) cZ];rfl
 have xu:c4 hp' (some r) bd=c4 hp (some r) bd:=by rw[aW,bf e]
 cases h:c4 hp (some r) bd with
 |none=>rw[mn h,mn (xu.trans h)]
 | some q=>
   obtain⟨gy,h1⟩:=bD.reads bd q h
   by_cases eq:q=p
   ·subst eq
    rw[ae]at h1;cases h1
    rw[lZ h ae,lZ (xu.trans h) bQ]
   rw[lZ h h1,lZ (xu.trans h) (by rw[iS q eq λaS=>NS bd (aS▸h)];exact h1)]
def HW{hp hp':aL Cell}{p:Nat}{c gy:fc}(ae:cV hp p=some c)(nJ:cV hp' p=some gy)(he:gy.dF=c.dF)(h:∀q,q≠p->cV hp' q=cV hp q):∀(bd:aa Bool) (r:Ref),c4 hp' r bd=c4 hp r bd
 |bd,none=>by rw[hZ,hZ]
 |[],some q=>rfl
 | b::bd,some q=>by
   by_cases e:q=p
   ·subst e;rw[ja ae,ja nJ,he];exact HW ae nJ he h bd _
   cases aS:cV hp q with
   | none=>
     show(match cV hp' q with |none=>none|some c=>c4 hp' (bG c.dF (gb b)) bd)=(match cV hp q with |none=>none|some c=>c4 hp (bG c.dF (gb b)) bd)
     rw[h q e,aS]
   |some d=>rw[ja aS,ja (by rw[h q e];exact aS)];exact HW ae nJ he h bd _
def acH{hp hp':aL Cell}{root:Ref}{ws:aa Bool}{p:Nat}{c gy:fc}(bD:rv hp root)(hw:c4 hp root ws=some p)(ae:cV hp p=some c)(nJ:cV hp' p=some gy)(he:gy.dF=c.dF)(h:∀q,q≠p->cV hp' q=cV hp q):
 rv hp' root∧∀bd,cont hp' root bd=if bd=ws then(bif gy.gM then some gy.j6 else none)else cont hp root bd:=by
 have aW:=HW ae nJ he h
 refine⟨⟨λbd q hq=>?_,λbd cs q h1 ad=>bD.inj bd cs q (by rw[<-aW];exact h1) (by rw[<-aW];exact ad),λbd q hq=>bD.dep bd q (by rw[<-aW];exact hq)⟩,λbd=>?_⟩
 ·rw[aW]at hq
  obtain⟨d,h1⟩:=bD.reads bd q hq
  by_cases e:q=p
  ·subst e;exact⟨_,nJ⟩
  exact⟨d,by rw[h q e];exact h1⟩
 by_cases e:bd=ws
 ·subst e;rw[bh I,lZ (by rw[aW];exact hw) nJ]
 rw[bf e]
 cases h1:c4 hp root bd with
 |none=>rw[mn h1,mn (by rw[aW];exact h1)]
 | some q=>
   obtain⟨d,ad⟩:=bD.reads bd q h1
   have JQ:q≠p:=λaS=>e (bD.inj bd ws p (aS▸h1) hw)
   rw[lZ h1 ad,lZ (by rw[aW];exact h1) (by rw[h q JQ];exact ad)]
def gq{α:Type}{b:Nat}(xs ys:aa α)(h:xs.length+ys.length<=1000000)(hb:b<=100000):eM b xs ys=some (xs++ys):=by
 unfold eM;rw[bh];unfold maxLen;refine⟨mi (Nat.mul_le_mul h hb) (by omega),by omega⟩
def gZ(c:dx):Prop:=0<=c.w5∧c.cz.length<=1000
def QW(l:aa (BitVec 8))(n:Int)(bC:0<=n)(h1:n<=1000):ba (Ar l n) gZ:=by
 unfold Ar;refine .eq (a:=(l.drop 0).take ((min (l.length:Int) n).toNat-0)) ?_ (.ret ⟨x2 0,?_⟩)
 ·unfold mR;rw[bh ⟨by omega,by omega,by omega⟩];rfl
 simp only[eZ,ke];omega
def gL(c:dx)(n:Int)(ae:gZ c)(aM:1<=n):ba (fU c n) (λr=>gZ r.2∧0<=r.1∧r.1<n∧r.1<256):=by
 unfold fU Ld;obtain⟨l,a⟩:=c;obtain⟨bC,h1⟩:=ae;simp only at bC h1;obtain⟨k,rfl⟩:=pG bC;refine .eq I (.cond (λ_=>.ret ⟨⟨bC,h1⟩,by omega,by omega,by omega⟩) λh=>?_);simp only[OF,KH,e5,nQ]at h;have ar:bm ((k:Int)+1)=((k+1:Nat):Int):=dA (by omega);simp only[ar];have aS:bm (((k+1:Nat):Int)-1)=(k:Int):=by rw[gN (by omega) (by omega)];omega
 rw[aS];refine .idx I (by omega) (.eq (by unfold so;rw[bf (by omega)]) (.ret ⟨⟨by simp only;omega,h1⟩,?_,?_,?_⟩))
 ·exact O9 _ (by omega)
 ·exact FW _ (by omega)
 simp only;have az:(ax l k).toNat<256:=(ax l k).isLt;obtain⟨m,rfl⟩:=pG (show 0<=n by omega);have aV:(((ax l k).toNat:Int)).tmod m=(((ax l k).toNat % m:Nat):Int):=(Int.ofNat_tmod _ _).symm;have bc:=Nat.mod_le (ax l k).toNat m;omega
def qt(c:dx)(ae:gZ c):ba (nU c) (λr=>gZ r.2):=by
 unfold nU;exact .bind (gL c 2 ae (by omega)) λy h=>.ret h.1
def ahN(c:dx)(ae:gZ c):ba (Gw c) (λr=>gZ r.2∧r.1.length=3):=by
 unfold Gw;refine .bind (gL c 4 ae (by omega)) λao h1=>?_;refine .eq (wM h1.2.1 (by simpa using h1.2.2.1)) (.eq I (.eq I (.bind (qt _ h1.1) λaE ad=>?_)));refine .bind (P:=λm=>gZ m.1) (.cond (λ_=>?_) (λ_=>.ret ad)) λm1 bR=>?_
 ·refine .bind (gL _ 2 ad (by omega)) λcd bq=>.eq I (.bind (gL _ 4 bq.1 (by omega)) λcA c7=>?_);exact .eq (wM c7.2.1 (by simpa using c7.2.2.1)) (.eq I (.eq (gq _ _ (by simp) (by omega)) (.ret c7.1)))
 refine .bind (gL _ 4 bR (by omega)) λbg az=>.eq (wM az.2.1 (by simpa using az.2.2.1)) (.eq I (.eq I ?_));refine .bind (gL _ 3 az.1 (by omega)) λbt aV=>?_;refine .bind (P:=λm=>gZ m.1) (.cond (λ_=>?_) (λ_=>.ret aV.1)) λm2 c6=>.ret ⟨c6,rfl⟩;exact .bind (gL _ 3 aV.1 (by omega)) λb3 bc=>.eq I (.ret bc.1)
def uy(a:fV):Int×aa Int:=(a.cb,a.mO.map (·.jG))
def EP:aa (Int×aa Int):=[(1,[]),(2,[]),(3,[16]),(4,[4]),(5,[4,12]),(6,[])]
def ajF{α β:Type}[Inhabited α](f:α->β)(l:aa α)(k:Nat)(x:α)(h:f x=f (ax l k)):(ix l k x).map f=l.map f:=by
 unfold ix;apply Gf
 ·simp
 intro i h1 ad;simp only[kQ,xS]at h1;simp only[o4,List.getElem_set];split
 ·rename_i e;subst e;rw[h,dh l h1]
 rfl
def LR{α β:Type}[Inhabited α](f:α->β){l:aa α}{k:Nat}{x:α}{r:aa β}(h:f x=f (ax l k))(al:l.map f=r):(ix l k x).map f=r:=(ajF f l k x h).trans al
def ahi(c:dx)(ae:gZ c):ba (Gi c) (λr=>gZ r.2∧r.1.map uy=EP):=by
 unfold Gi;refine .eq I (.eq I (.eq I (.eq I (.eq I (.eq I (.eq I (.eq I (.eq I (.eq I (.eq I (.eq I (.eq I ?_))))))))))));refine .bind (gL _ 2 ae (by omega)) λao h1=>.eq I (.bind (gL _ 256 h1.1 (by omega)) λaE ad=>.eq I (.eq I (.eq I ?_)));refine .bind (qt _ ad.1) λbg az=>?_;refine .bind (P:=λm=>m.map uy=EP) (.cond (λ_=>?_) (λ_=>.ret I)) λm1 bR=>?_
 ·exact .idx (k:=2) I (by simp) (.eq I (.ret (LR uy I I)))
 refine .bind (qt _ az) λbt aV=>.bind (P:=λm=>m.map uy=EP) (.cond (λ_=>?_) (λ_=>.ret bR)) λm2 c6=>.ret ⟨aV,c6⟩;have al:m1.length=6:=by rw[<-kQ (f:=uy),bR];rfl
 exact .idx (k:=4) I (by omega) (.eq I (.ret (LR uy I bR)))
def sK:dC:= {dt:=ByteArray.mk #[97],jq:=4,dQ:=1}
def Cn:dC:= {dt:=ByteArray.mk #[100],jq:=7,dQ:=2}
def Oe:dC:= {dt:=ByteArray.mk #[109],jq:=3,dQ:=1}
def Ki:dC:= {dt:=ByteArray.mk #[101],jq:=6,dQ:=3}
def JR:dC:= {dt:=ByteArray.mk #[97],jq:=4,dQ:=3}
def UY:dC:= {dt:=ByteArray.mk #[98],jq:=5,dQ:=1}
def Kj:dC:= {dt:=ByteArray.mk #[102],jq:=8,dQ:=4}
def UZ:dC:= {dt:=ByteArray.mk #[103],jq:=9,dQ:=1}
def rC(t:cy):Int×aa Int×aa dC:=(t.cb,t.dY,t.cr)
def pV(b:Bool):aa dC:=if b then [Cn,Oe]else [Cn]
def Bf(b:Bool):aa dC:=if b then [Ki,JR,UY]else [Ki,JR]
def Bg(b:Bool):aa dC:=if b then [Kj,UZ,Cn]else [Kj]
def xa(dM eF jA:Bool):aa (Int×aa Int×aa dC):=
 [(1,[1,2,4],[sK]),(2,[1,2,3,4],pV dM),(3,[1,2,3,5,6],Bf eF),(4,[1,3,5],Bg jA)]
def ahO(c:dx)(ae:gZ c):ba (Gx c) (λr=>gZ r.2∧(∀x∈r.1.map (·.ij),2<=x∧x<=12)∧∃dM eF jA,r.1.map rC=xa dM eF jA):=by
 unfold Gx;refine .eq I (.bind (gL _ 2 ae (by omega)) λao h1=>.bind (gL _ 5 h1.1 (by omega)) λaE ad=>.eq I (.eq I ?_));refine .bind (gL _ 6 ad.1 (by omega)) λbg az=>.bind (qt _ az.1) λbt aV=>?_;refine .bind (P:=λm=>(m.1.cb=2∧m.1.dY=[1,2,3,4]∧m.1.ij=bm (3+bg.1))∧∃b,m.2=pV b) (.cond (λ_=>?_) (λ_=>.ret ⟨⟨rfl,rfl,rfl⟩,false,rfl⟩)) λm1 bR=>?_
 ·exact .eq I (.eq (gq _ _ (by simp) (by omega)) (.ret ⟨⟨rfl,rfl,rfl⟩,true,rfl⟩))
 refine .eq I (.eq I (.bind (gL _ 6 aV (by omega)) λb3 bc=>.bind (qt _ bc.1) λcd bq=>?_));refine .bind (P:=λm=>(m.1.cb=3∧m.1.dY=[1,2,3,5,6]∧m.1.ij=bm (4+b3.1))∧∃b,m.2=Bf b) (.cond (λ_=>?_) (λ_=>.ret ⟨⟨rfl,rfl,rfl⟩,false,rfl⟩)) λm2 c6=>?_
 ·exact .eq I (.eq (gq _ _ (by simp) (by omega)) (.ret ⟨⟨rfl,rfl,rfl⟩,true,rfl⟩))
 refine .eq I (.bind (gL _ 5 bq (by omega)) λcA c7=>.bind (qt _ c7.1) λb4 c9=>?_);refine .bind (P:=λm=>(m.1.cb=4∧m.1.dY=[1,3,5]∧m.1.ij=bm (3+cA.1))∧∃b,m.2=Bg b) (.cond (λ_=>?_) (λ_=>.ret ⟨⟨rfl,rfl,rfl⟩,false,rfl⟩)) λm3 fZ=>?_
 ·exact .eq I (.eq I (.eq (gq _ _ (by simp) (by omega)) (.ret ⟨⟨rfl,rfl,rfl⟩,true,rfl⟩)))
 refine .eq I (.eq I (.eq I (.eq I (.eq I ?_))));obtain⟨⟨bX,a2,a4⟩,dM,a3⟩:=bR;obtain⟨⟨c1,c2,iH⟩,eF,eE⟩:=c6;obtain⟨⟨d1,d2,d4⟩,jA,d3⟩:=fZ;refine ba.loop 4 (λk s=>s.1=(k:Int)∧s.2.1.map rC=xa dM eF jA∧gZ s.2.2∧s.2.1.map (·.ij)=[bm (2+aE.1),bm (3+bg.1),bm (4+b3.1),bm (3+cA.1)]) (by omega) ⟨rfl,?_,c9,?_⟩ (λk s hk aq=>?_) (λs aq=>?_)
 ·simp only[nT,Le,rC,bX,a2,a3,c1,c2,eE,d1,d2,d3,xa];rfl
 ·simp only[nT,Le,a4,iH,d4]
 ·obtain⟨i,dB,Co⟩:=s;obtain⟨ar,aS,cE,eK⟩:=aq;simp only at ar aS cE eK;subst ar;refine ba.cond (λ_=>?_) (λh=>by simp at h;omega);have al:dB.length=4:=by rw[<-kQ (f:=rC),aS];rfl
  refine .idx I (by simpa using hk) (.bind (gL _ 3 cE (by omega)) λdH dD=>.eq (wM dD.2.1 ?_) (.idx I (by simp only;omega) (.eq I (.ret ⟨dA (by omega),?_,dD.1,?_⟩))))
  ·have oa:=dD.2.2.1;have:k=0∨k=1∨k=2∨k=3:=by omega
   rcases this with rfl|rfl|rfl|rfl <;> exact oa
  ·exact LR rC I aS
  exact LR cy.ij I eK
 obtain⟨i,dB,Co⟩:=s;obtain⟨ar,aS,cE,eK⟩:=aq;simp only at ar aS cE eK;subst ar;refine⟨_,rfl,?_⟩;refine .ret ⟨cE,λx au=>?_,dM,eF,jA,aS⟩;rw[eK]at au;have g2:=ad.2;have g3:=az.2;have g5:=bc.2;have g7:=c7.2;simp only[dP,vk,vo]at au;rcases au with rfl|rfl|rfl|rfl <;> (rw[gN (by omega) (by omega)];omega)
def Y3(n:Nat)(h:n<=1000):BI (α:=Bool) 1 (n:Int)=some (List.replicate n default):=by
 unfold BI;rw[bh ⟨by omega,by omega,by omega⟩];simp
def aiB(c:dx)(dB:aa cy)(ae:gZ c)(al:dB.length<=1000)(hk:∀t∈dB,t.cr.length<=1000):ba (z7 c dB) (λr=>gZ r.2∧r.1.map (·.cb)=[1,2,7]):=by
 unfold z7;refine .bind (gL _ 3 ae (by omega)) λao h1=>.bind (gL _ 6 h1.1 (by omega)) λaE ad=>.bind (gL _ 6 ad.1 (by omega)) λbg az=>.bind (gL _ 4 az.1 (by omega)) λbt aV=>?_;refine ba.loop dB.length (λk s=>s.1=(k:Int)∧gZ s.2.2.2.1∧s.2.2.1.length<=k∧s.2.2.2.2.2.1.length<=k∧s.2.2.2.2.2.2.2.length<=k∧s.2.1.cb=7∧s.2.2.2.2.1.cb=2∧s.2.2.2.2.2.2.1.cb=1) (by omega) ⟨rfl,aV.1,by simp,by simp,by simp,rfl,rfl,rfl⟩ (λk s qb aq=>?_) (λs aq=>?_)
 ·obtain⟨i,ky,g1,Co,hf,g2,rX,g3⟩:=s;obtain⟨ar,aS,cE,eK,jY,i1,i2,i3⟩:=aq;simp only at ar aS cE eK jY i1 i2 i3;subst ar;refine ba.cond (λ_=>?_) (λh=>by simp at h;omega);have acI:(ax dB k).cr.length<=1000:=hk _ (by rw[dh dB qb];exact j0 qb);refine .idx I qb (.eq (Y3 _ acI) (.eq (Y3 _ acI) ?_));refine ba.loop (ax dB k).cr.length (λj s=>s.1=(j:Int)∧s.2.1.length=(ax dB k).cr.length∧s.2.2.1.length=(ax dB k).cr.length∧gZ s.2.2.2) (by omega) ⟨rfl,by simp,by simp,aS⟩ (λj s aB aq=>?_) (λs aq=>?_)
  ·obtain⟨i,dM,eF,atb⟩:=s;obtain⟨f1,f2,f3,f4⟩:=aq;simp only at f1 f2 f3 f4;subst f1;refine ba.cond (λ_=>?_) (λh=>by simp at h;omega);exact .bind (gL _ 4 f4 (by omega)) λcA c7=>.idx I (by simp only;omega) (.idx I (by simp only;omega) (.ret ⟨dA (by omega),by simp[ix,f2],by simp[ix,f3],c7.1⟩))
  obtain⟨i,dM,eF,atb⟩:=s;obtain⟨f1,f2,f3,f4⟩:=aq;simp only at f1 f2 f3 f4;subst f1;refine⟨_,by simp;rfl,?_⟩;refine .eq I (.eq (gq _ _ (by simp;omega) (by omega)) (.bind (gL _ 4 f4 (by omega)) λdH dD=>?_));refine .bind (P:=λm=>gZ m.1∧m.2.2.length<=k+1∧m.2.1.cb=2) (.cond (λ_=>?_) (λ_=>.ret ⟨dD.1,by simp only;omega,i2⟩)) λm1 bR=>?_
  ·exact .bind (gL _ 4 dD.1 (by omega)) λiX v8=>.bind (qt _ v8.1) λrM B4=>.eq I (.eq (gq _ _ (by simp;omega) (by omega)) (.ret ⟨B4,by simp;omega,i2⟩))
  refine .bind (qt _ bR.1) λfH oa=>?_;refine .bind (P:=λm=>gZ m.1∧m.2.2.length<=k+1∧m.2.1.cb=7) (.cond (λ_=>?_) (λ_=>.ret ⟨oa,by simp only;omega,i1⟩)) λm2 c6=>?_
  ·exact .bind (qt _ oa) λhl wa=>.bind (qt _ wa) λhn zi=>.eq I (.eq (gq _ _ (by simp;omega) (by omega)) (.ret ⟨zi,by simp;omega,i1⟩))
  exact .ret ⟨dA (by omega),c6.1,c6.2.1,bR.2.1,by simp;omega,c6.2.2,bR.2.2,i3⟩
 obtain⟨i,ky,g1,Co,hf,g2,rX,g3⟩:=s;obtain⟨ar,aS,cE,eK,jY,i1,i2,i3⟩:=aq;simp only at ar aS cE eK jY i1 i2 i3;subst ar;refine⟨_,by simp;rfl,?_⟩;exact .eq I (.eq I (.ret ⟨aS,by simp only[nT,Le,i1,i2,i3]⟩))
def Tl:aa (Int×Int):=[(1,16),(2,16),(3,8),(4,4),(5,4),(6,8),(7,32),(8,12),(9,4)]
def IA(f:jm):Int×Int:=(f.cb,f.jG)
structure b7(s:aZ):Prop where
 fields:s.gW.map IA=Tl
 headers:s.pN.length=3
 ZF:s.qq.length=3
 QX:s.dY.map uy=EP
 tables:∃dM eF jA,s.bL.map rC=xa dM eF jA
 Ew:s.e0.map (·.cb)=[1,2,7]
 aoC:∀x∈s.bL.map (·.ij),2<=x∧x<=12
def b7.pn{s:aZ}(h:b7 s):s.e0.length=3:=by rw[<-kQ (f:=(·.cb)),h.Ew];rfl
def b7.vO{s:aZ}(h:b7 s):s.gW.length=9:=by rw[<-kQ (f:=IA),h.fields];rfl
def b7.lP{s:aZ}(h:b7 s):s.bL.length=4:=by obtain⟨dM,eF,jA,h1⟩:=h.tables;rw[<-kQ (f:=rC),h1];rfl
def b7.Tm{s:aZ}(h:b7 s):s.dY.length=6:=by rw[<-kQ (f:=uy),h.QX];rfl
def W5(c:dx)(ae:gZ c):ba (xT c) (λr=>b7 r.1∧gZ r.2):=by
 unfold xT;refine .bind (gL _ 8 ae (by omega)) λao h1=>.bind (gL _ 30 h1.1 (by omega)) λaE ad=>?_;refine .eq I (.eq I (.eq I (.eq I (.eq I (.eq I (.eq I (.eq I (.eq I (.eq I (.eq I (.eq I ?_)))))))))));refine .bind (ahN _ ad.1) λbg az=>.bind (ahi _ az.1) λbt aV=>.bind (ahO _ aV.1) λb3 bc=>.eq I (.eq I ?_);obtain⟨atc,ee,dM,eF,jA,bc⟩:=bc;have al:b3.1.length=4:=by rw[<-kQ (f:=rC),bc];rfl
 have aoD:∀t∈b3.1,t.cr.length<=1000:=λt bD=>by
  have bq:rC t∈xa dM eF jA:=bc▸List.mem_map_of_mem bD;have c7:∀p∈xa dM eF jA,p.2.2.length<=1000:=by
   intro p hp;simp only[xa,dP,vk,vo]at hp;rcases hp with rfl|rfl|rfl|rfl
   ·simp
   ·cases dM <;> simp[pV]
   ·cases eF <;> simp[Bf]
   cases jA <;> simp[Bg]
  exact c7 _ bq
 refine .bind (aiB _ _ atc (by simp only;omega) aoD) λcd bq=>.eq I (.bind (qt _ bq.1) λcA c7=>?_);let Inv (s:aZ):Prop:=s.gW.map IA=Tl∧s.pN.length=3∧s.qq.length=3∧s.dY.map uy=EP∧s.bL=b3.1∧s.e0.map (·.cb)=[1,2,7];have hinv:∀(st:aa hX) (Ft:aa fD) (s:aZ),Inv s->Inv {s with sb:=st,di:=Ft}:=λst Ft s h=>h;refine .bind (P:=λ_=>True) (.cond (λ_=>.eq (gq _ _ (by simp) (by omega)) (.ret lL)) (λ_=>.ret lL)) λm1 _=>?_;refine .bind (qt _ c7) λb4 c9=>?_;refine .bind (P:=λm=>Inv m.1∧m.2.length<=10) (.cond (λ_=>.eq I (.eq (gq _ _ (by simp) (by omega)) (.ret ⟨⟨rfl,rfl,az.2,aV.2,rfl,bq.2⟩,by simp⟩))) (λ_=>.ret ⟨⟨rfl,rfl,az.2,aV.2,rfl,bq.2⟩,by simp⟩)) λm2 c6=>?_;refine .bind (qt _ c9) λdH dD=>?_;refine .bV (P:=λ_=>True) (λ_=>⟨2,kk (k:=2) (by rw[c6.1.2.2.2.2.1];omega),trivial⟩) λaI _=>?_;refine .bind (P:=λm=>Inv m.1∧m.2.length<=11) (.cond (λ_=>.eq I (.eq (gq _ _ (by have:=c6.2;simp;omega) (by omega)) (.ret ⟨c6.1,by have:=c6.2;simp;omega⟩))) (λ_=>.ret ⟨c6.1,by have:=c6.2;simp only;omega⟩)) λm3 fZ=>?_;refine .bind (qt _ dD) λfH oa=>?_;refine .bV (P:=λ_=>True) (λ_=>⟨3,kk (k:=3) (by rw[fZ.1.2.2.2.2.1];omega),trivial⟩) λbu _=>?_;refine .bind (P:=λm=>Inv m.1∧m.2.length<=13) (.cond (λ_=>.eq I (.eq I (.eq (gq _ _ (by have:=fZ.2;simp;omega) (by omega)) (.ret ⟨fZ.1,by have:=fZ.2;simp;omega⟩)))) (λ_=>.ret ⟨fZ.1,by have:=fZ.2;simp only;omega⟩)) λm4 Ja=>?_;obtain⟨⟨i1,i2,i3,i4,i5,i6⟩,_⟩:=Ja;exact .eq I (.ret ⟨⟨i1,i2,i3,i4,⟨dM,eF,jA,by simp only[i5];exact bc⟩,i6,by simp only[i5];exact ee⟩,oa⟩)
def b7.size{s:aZ}(h:b7 s){k:Nat}(hk:k<4):2<=(ax s.bL k).ij∧(ax s.bL k).ij<=12:=by
 have al:=h.lP;exact h.aoC _ (ig.2 ⟨_,by rw[dh _ (by omega)];exact j0 _,rfl⟩)
def akZ(x:Int)(n:Int)(h1:1<=n)(ad:n<=1000000):ba (DP x n) (λr=>0<=r∧r<n):=by
 unfold DP;refine .cond (λh=>by simp at h;omega) λ_=>?_;have hm:∀y:Int,so y n=some (y.tmod n):=λy=>by unfold so;rw[bf (by omega)]
 refine .eq (hm _) ?_;have az:=FW x (show 0<n by omega);have aV: -n<x.tmod n:=by
  have:=FW (-x) (show 0<n by omega);rw[Int.neg_tmod]at this;omega
 rw[gN (by omega) (by omega)];exact .eq (hm _) (.ret ⟨O9 _ (by omega),FW _ (by omega)⟩)
def ct(v:aN)(i:Nat):Bool:=if i<64 then v.cI.getLsbD i else v.dZ.getLsbD (i-64)
def Im{v w:aN}(h:∀j,j<128->ct v j=ct w j):v=w:=by
 cases v with |mk auf aug=>cases w with |mk auh wl=>
 have h1:auf=auh:=by
  apply zF;intro i aq;have:=h (i+64) (by omega);simpa[ct,show ¬(i+64<64) by omega]using this
 have ad:aug=wl:=by
  apply zF;intro i aq;have:=h i (by omega);simpa[ct,aq]using this
 rw[h1,ad]
def D3(j:Nat):ct default j=false:=by
 unfold ct;split <;> exact CC
def xb(x y:aN):aN:= {dZ:=x.dZ&&&y.dZ,cI:=x.cI&&&y.cI}
def adH(x y:aN):aN:= {dZ:=x.dZ|||y.dZ,cI:=x.cI|||y.cI}
def Tn(x y:aN):aN:= {dZ:=x.dZ ^^^ y.dZ,cI:=x.cI ^^^ y.cI}
@[simp] theorem D4 (x y:aN) (j:Nat):ct (xb x y) j=(ct x j&&ct y j):=by unfold ct xb;split <;> simp
@[simp] theorem auu (x y:aN) (j:Nat):ct (adH x y) j=(ct x j||ct y j):=by unfold ct adH;split <;> simp
@[simp] theorem ak0 (x y:aN) (j:Nat):ct (Tn x y) j=(ct x j ^^ ct y j):=by unfold ct Tn;split <;> simp
def and_eq(x y:aN):ya x y=some (xb x y):=rfl
def xor_eq(x y:aN):Hz x y=some (Tn x y):=rfl
def D5(x:aN):ba (vq x) (λr=> ∀j,j<128->bG r j=ct x j):=by
 unfold vq;refine ba.loop 64 (λk s=>s.1=k∧∀j,j<128->bG s.2 j=(decide (j % 64<k)&&ct x j)) (by omega)
  ⟨rfl,λj aB=>by simp[Lw]⟩ (λk s hk aq=>?_) (λs aq=>?_)
 ·obtain⟨i,v⟩:=s;obtain⟨h1,ad⟩:=aq;simp only at h1 ad;subst h1;have ar:bm ((k:Int)+64)=((k+64:Nat):Int):=by rw[gN (by omega) (by omega)];simp
  refine ba.cond (λ_=>?_) (λh=>by simp at h;omega);refine ba.idx I (show k<128 by omega) (.eq I (.idx ar (show k+64<128 by omega) (.eq I (.ret ⟨dA (by omega),λj aB=>?_⟩))));simp only[jE _ _ (show k<128 by omega),jE _ _ (show k+64<128 by omega),s8 (show k<2^64 by omega),ajD,ad j aB];by_cases rN:j=k+64
  ·subst rN;have h1:(k+64) % 64<k+1:=by omega
   have ad: ¬(k+64<64):=by omega
   simp only[ct,h1,ad,lY,ow,G6,qo,Nat.add_sub_cancel]
  by_cases mA:j=k
  ·subst mA;have:j % 64<j+1:=by omega
   simp[ct,this,hk]
  rw[bf rN,bf mA];congr 1;rw[ra];omega
 obtain⟨i,v⟩:=s;obtain⟨h1,ad⟩:=aq;simp only at h1 ad;subst h1;refine⟨_,rfl,.ret λj aB=>?_⟩;have:j % 64<64:=by omega
 simp[ad j aB,this]
def ak1(x:Vector Bool 128):ba (Hs x) (λr=> ∀j,j<128->ct r j=bG x j):=by
 unfold Hs;refine ba.loop 64 (λk s=>s.1=k∧∀j,j<128->ct s.2 j=(decide (j % 64<k)&&bG x j)) (by omega)
  ⟨rfl,λj aB=>by simp[D3]⟩ (λk s hk aq=>?_) (λs aq=>?_)
 ·obtain⟨i,v⟩:=s;obtain⟨h1,ad⟩:=aq;simp only at h1 ad;subst h1;have ar:bm ((k:Int)+64)=((k+64:Nat):Int):=by rw[gN (by omega) (by omega)];simp
  refine ba.cond (λ_=>?_) (λh=>by simp at h;omega);refine ba.idx I (show k<128 by omega) (.bind (P:=λw=> ∀j,j<128->ct w j=(ct v j||(bG x k&&decide (j=k)))) (.cond (λhb=>.ret λj aB=>?_) (λhb=>.ret λj aB=>by simp[hb])) λw hw=>?_)
  ·simp only[ct,s8 (show k<2^64 by omega),OV,Xx,hb,qo];split
   ·rename_i h;simp[h]
   have:j≠k:=by omega
   simp[this]
  refine .idx ar (show k+64<128 by omega) (.bind (P:=λu=> ∀j,j<128->ct u j=(ct w j||(bG x (k+64)&&decide (j=k+64)))) (.cond (λhb=>.ret λj aB=>?_) (λhb=>.ret λj aB=>by simp[hb])) λu hu=>.ret ⟨dA (by omega),λj aB=>?_⟩)
  ·simp only[ct,s8 (show k<2^64 by omega),OV,Xx,hb,qo];split
   ·have:j≠k+64:=by omega
    simp[this]
   have:(j-64=k)↔j=k+64:=by omega
   have bq:j-64<64:=by omega
   simp[this,bq]
  simp only[hu j aB,hw j aB,ad j aB];by_cases rN:j=k+64
  ·subst rN;simp[zX hk]
  by_cases mA:j=k
  ·subst mA;have h1:j % 64<j+1:=by omega
   have ad: ¬(j % 64<j):=by omega
   simp[h1,ad]
  have h1:(j % 64<k+1)↔j % 64<k:=by omega
  simp[h1,rN,mA]
 obtain⟨i,v⟩:=s;obtain⟨h1,ad⟩:=aq;simp only at h1 ad;subst h1;refine⟨_,rfl,.ret λj aB=>?_⟩;have:j % 64<64:=by omega
 simp[ad j aB,this]
def aiC(x y:aN):ba (HA x y) (λr=>r=xb x y):=by
 unfold HA;refine(D5 x).bind λa aY=>(D5 y).bind λb hb=>?_;refine ba.loop 128 (λk s=>s.1=k∧∀j,j<128->bG s.2 j=(ct x j&&(decide (k<=j)||ct y j))) (by omega)
  ⟨rfl,λj aB=>by simp[aY j aB]⟩ (λk s hk aq=>?_) (λs aq=>?_)
 ·obtain⟨i,v⟩:=s;obtain⟨h1,ad⟩:=aq;simp only at h1 ad;subst h1;refine ba.cond (λ_=>?_) (λh=>by simp at h;omega);refine .idx I hk (.bV (P:=λq=>q=k) (λ_=>⟨k,kk hk,rfl⟩) λq hq=>.idx I hk (.ret ⟨dA (by omega),λj aB=>?_⟩));simp only[jE _ _ hk];by_cases rN:j=k
  ·subst rN;have az:=ad j aB;have aV: ¬(j+1<=j):=by omega
   cases bb:bG v j
   ·simp[bb]at az;simp[az,aV]
   simp[bb]at az;rw[hq bb,hb j aB];simp[az,aV]
  have aV:(k+1<=j)↔k<=j:=by omega
  simp[rN,ad j aB,aV]
 obtain⟨i,v⟩:=s;obtain⟨h1,ad⟩:=aq;simp only at h1 ad;subst h1;refine⟨_,rfl,(ak1 v).bind λr aG=>.ret (Im λj aB=>?_)⟩;have: ¬(128<=j):=by omega
 simp[aG j aB,ad j aB,this]
def X5(v:aN)(n:Nat)(aM:n<2^62):ba (DI v n) (λr=> ∀j,j<128->ct r j=ct v (j+n)):=by
 unfold DI;refine .cond (λh=>.ret λj aB=>?_) (λh=>.cond (λcW=>.eq I (.ret λj aB=>?_)) (λcW=>.eq I (.eq I (.ret λj aB=>?_))))
 ·have:n=0:=by simp at h;omega
  simp[this]
 ·simp only[e5]at cW;have ar:bm ((n:Int)-64)=((n-64:Nat):Int):=by rw[gN (by omega) (by omega)];omega
  rw[ar,s8 (by omega)];unfold ct;by_cases aB:j<64
  ·rw[bh aB,bf (by omega)];simp only[Oq];congr 1;omega
  rw[bf aB,bf (by omega)];rw[show(default:aN).dZ=0#64 from rfl,CC,zK _ _ (by omega)]
 simp only[nQ]at h cW;have ar:bm (64-(n:Int))=((64-n:Nat):Int):=by rw[gN (by omega) (by omega)];omega
 rw[ar,s8 (by omega),s8 (by omega)];unfold ct;by_cases aB:j<64
 ·rw[bh aB];simp only[OV,Oq,Vc];by_cases az:j+n<64
  ·rw[bh az];have:j<64-n:=by omega
   simp[this,Py]
  rw[bf az,zK _ (n+j) (by omega)];have: ¬(j<64-n):=by omega
  simp only[aB,this,G6,PA,qo,K4,r9];congr 1;omega
 rw[bf aB,bf (by omega)];simp only[Oq];congr 1;omega
def al8(v:aN)(i:Int):ba (Av v i) (λr=>r=(decide (0<=i∧i<128)&&ct v i.toNat)):=by
 unfold Av;refine .bV (P:=λr=> ∀j,j<128->ct r j=ct v (j+i.toNat)) (λh=>?_) λy aT=>.eq I (.ret ?_)
 ·simp at h;obtain⟨n,rfl⟩:=pG h.1;exact X5 v n (by omega)
 by_cases h:0<=i∧i<128
 ·have h1:(decide (i>=0)&&decide (i<128))=true:=by simp;omega
  rw[h1,Y2];have:=aT h1 0 (by omega);rw[show ct y 0=y.cI.getLsbD 0 from rfl,kR]at this;rw[this,re h]
 have h1:(decide (i>=0)&&decide (i<128))=false:=by simp;omega
 simp[h1,h]
def ak2(x y:aN):ba (Hz x y) (λr=> ∀j,j<128->ct r j=(ct x j ^^ ct y j)):=⟨_,xor_eq x y,λj _=>ak0 x y j⟩
def QY(n:Int):ba (Ap n) (λr=> ∀j,j<128->ct r j=decide ((j:Int)<n)):=by
 unfold Ap DD;refine .eq I (.eq I ?_);have hm:bm (128-min (max 0 n) 128)=((128-min (max 0 n) 128).toNat:Int):=by rw[gN (by omega) (by omega)];omega
 rw[hm];refine(X5 _ _ (by omega)).bind λr aG=>.ret λj aB=>?_;rw[aG j aB];have n3:∀i,ct {dZ:=18446744073709551615#64,cI:=18446744073709551615#64} i=decide (i<128):=by
  intro i;have a6:(18446744073709551615#64)=BitVec.allOnes 64:=by rfl
  unfold ct;simp only[a6,BitVec.getLsbD_allOnes];by_cases h:i<64
  ·simp[h];omega
  simp[h];omega
 rw[n3,ra];omega
def vP:aa Int:=[16,16,8,4,4,8,32,12,4]
def b7.xv{s:aZ}(h:b7 s){k:Nat}(hk:k<9):(ax s.gW k).cb=(k:Int)+1∧(ax s.gW k).jG=ax vP k:=by
 have h1:=AL IA (l:=s.gW) (k:=k) (by rw[h.vO];exact hk);rw[h.fields]at h1;have ad:ax Tl k=((k:Int)+1,ax vP k):=by
  have:k=0∨k=1∨k=2∨k=3∨k=4∨k=5∨k=6∨k=7∨k=8:=by omega
  rcases this with rfl|rfl|rfl|rfl|rfl|rfl|rfl|rfl|rfl <;> rfl
 rw[ad]at h1;simp only[IA,Lc]at h1;exact⟨h1.1.symm,h1.2.symm⟩
def xc:aa (aa Int):=[[],[],[16],[4],[4,12],[]]
def b7.act{s:aZ}(h:b7 s){k:Nat}(hk:k<6):(ax s.dY k).cb=(k:Int)+1∧(ax s.dY k).mO.map (·.jG)=ax xc k:=by
 have h1:=AL uy (l:=s.dY) (k:=k) (by rw[h.Tm];exact hk);rw[h.QX]at h1;have ad:ax EP k=((k:Int)+1,ax xc k):=by
  have:k=0∨k=1∨k=2∨k=3∨k=4∨k=5:=by omega
  rcases this with rfl|rfl|rfl|rfl|rfl|rfl <;> rfl
 rw[ad]at h1;simp only[uy,Lc]at h1;exact⟨h1.1.symm,h1.2.symm⟩
def nx(key:dC):Prop:=∃j:Nat,j<9∧key.jq=(j:Int)+1∧1<=key.dQ∧key.dQ<=4∧4<=ax vP j∧ax vP j<=32∧(key.dQ=2->j=6)
def hK(key:dC):Int:=ax vP (key.jq-1).toNat
def b7.fF{s:aZ}(h:b7 s){k:Nat}(hk:k<4):(ax s.bL k).cb=(k:Int)+1∧
 (1<=(ax s.bL k).cr.length∧(ax s.bL k).cr.length<=3)∧(∀key∈(ax s.bL k).cr,nx key)∧
 (1<=(ax s.bL k).dY.length∧(ax s.bL k).dY.length<=5)∧(∀a∈(ax s.bL k).dY,1<=a∧a<=6):=by
 obtain⟨dM,eF,jA,bD⟩:=h.tables
 have h1:=AL rC (l:=s.bL) (k:=k) (by rw[h.lP];exact hk)
 rw[bD]at h1
 have ad:∀p:Int×aa Int×aa dC,p=rC (ax s.bL k)->p.1=(k:Int)+1->(1<=p.2.2.length∧p.2.2.length<=3)->(∀key∈p.2.2,nx key)->
  (1<=p.2.1.length∧p.2.1.length<=5)->(∀a∈p.2.1,1<=a∧a<=6)->(ax s.bL k).cb=(k:Int)+1∧
  (1<=(ax s.bL k).cr.length∧(ax s.bL k).cr.length<=3)∧(∀key∈(ax s.bL k).cr,nx key)∧
  (1<=(ax s.bL k).dY.length∧(ax s.bL k).dY.length<=5)∧(∀a∈(ax s.bL k).dY,1<=a∧a<=6):=by
  rintro p rfl a b c d e
  exact⟨a,b,c,d,e⟩
 have a0:(1<=([1,2,4]:aa Int).length∧([1,2,4]:aa Int).length<=5)∧∀a∈([1,2,4]:aa Int),1<=a∧a<=6:=by decide
 have bX:(1<=([1,2,3,4]:aa Int).length∧([1,2,3,4]:aa Int).length<=5)∧∀a∈([1,2,3,4]:aa Int),1<=a∧a<=6:=by decide
 have a2:(1<=([1,2,3,5,6]:aa Int).length∧([1,2,3,5,6]:aa Int).length<=5)∧∀a∈([1,2,3,5,6]:aa Int),1<=a∧a<=6:=by decide
 have a3:(1<=([1,3,5]:aa Int).length∧([1,3,5]:aa Int).length<=5)∧∀a∈([1,3,5]:aa Int),1<=a∧a<=6:=by decide
 have aoE:nx sK:=⟨3,by decide,rfl,by decide,by decide,by decide,by decide,by decide⟩
 have ZG:nx JR:=⟨3,by decide,rfl,by decide,by decide,by decide,by decide,by decide⟩
 have aoF:nx UY:=⟨4,by decide,rfl,by decide,by decide,by decide,by decide,by decide⟩
 have SE:nx Cn:=⟨6,by decide,rfl,by decide,by decide,by decide,by decide,by decide⟩
 have aoG:nx Oe:=⟨2,by decide,rfl,by decide,by decide,by decide,by decide,by decide⟩
 have abe:nx Ki:=⟨5,by decide,rfl,by decide,by decide,by decide,by decide,by decide⟩
 have abf:nx Kj:=⟨7,by decide,rfl,by decide,by decide,by decide,by decide,by decide⟩
 have aoH:nx UZ:=⟨8,by decide,rfl,by decide,by decide,by decide,by decide,by decide⟩
 have:k=0∨k=1∨k=2∨k=3:=by omega
 rcases this with rfl|rfl|rfl|rfl
 ·refine ad _ h1 I (show 1<= [sK].length∧[sK].length<=3 by decide) ?_ a0.1 a0.2
  intro key k6
  rcases hx.1 k6 with rfl
  exact aoE
 ·refine ad _ h1 I ?_ ?_ bX.1 bX.2
  ·show 1<=(pV dM).length∧(pV dM).length<=3
   cases dM <;> decide
  intro key k6
  replace k6:key∈pV dM:=k6
  cases dM <;> simp only[pV,dP,vk,vo,lY,ow,sR]at k6
  ·subst k6;exact SE
  rcases k6 with rfl|rfl;exact SE;exact aoG
 ·refine ad _ h1 I ?_ ?_ a2.1 a2.2
  ·show 1<=(Bf eF).length∧(Bf eF).length<=3
   cases eF <;> decide
  intro key k6
  replace k6:key∈Bf eF:=k6
  cases eF <;> simp only[Bf,dP,vk,vo,lY,ow,sR]at k6
  ·rcases k6 with rfl|rfl;exact abe;exact ZG
  rcases k6 with rfl|rfl|rfl;exact abe;exact ZG;exact aoF
 refine ad _ h1 I ?_ ?_ a3.1 a3.2
 ·show 1<=(Bg jA).length∧(Bg jA).length<=3
  cases jA <;> decide
 intro key k6
 replace k6:key∈Bg jA:=k6
 cases jA <;> simp only[Bg,dP,vk,vo,lY,ow,sR]at k6
 ·subst k6;exact abf
 rcases k6 with rfl|rfl|rfl;exact abf;exact aoH;exact SE
def ahP{s:aZ}(h:b7 s){j:Nat}(aB:j<9):ba (Hh s ((j:Int)+1)) (λr=>r=ax vP j):=by
 unfold Hh;have al:=h.vO;refine ba.loop j (λk s=>s=(k:Int)) (by omega) I (λk i hk aq=>?_) (λi aq=>?_)
 ·subst aq;refine ba.cond (λ_=>?_) (λh=>by simp at h;omega);refine .idx I (by omega) (.cond (λae=>?_) (λae=>.ret (dA (by omega))));have:=(h.xv (show k<9 by omega)).1;simp only[this,nm]at ae;omega
 subst aq;have h1:decide ((j:Int)<(s.gW.length:Int))=true:=by simp;omega
 have ad:((ax s.gW j).cb==(j:Int)+1)=true:=by rw[(h.xv aB).1];simp
 rw[h1];simp only[cond_true];rw[kk (by omega)];simp only[Option.bind_some,ad,cond_true];exact⟨_,rfl,.ret (h.xv aB).2⟩
def WQ{s:aZ}(h:b7 s){j:Nat}(aB:j<6):ba (Dp s ((j:Int)+1)) (λr=>r=ax s.dY j):=by
 unfold Dp;have al:=h.Tm;refine ba.loop j (λk s=>s=(k:Int)) (by omega) I (λk i hk aq=>?_) (λi aq=>?_)
 ·subst aq;refine ba.cond (λ_=>?_) (λh=>by simp at h;omega);refine .idx I (by omega) (.cond (λae=>?_) (λae=>.ret (dA (by omega))));have:=(h.act (show k<6 by omega)).1;simp only[this,nm]at ae;omega
 subst aq;have h1:decide ((j:Int)<(s.dY.length:Int))=true:=by simp;omega
 have ad:((ax s.dY j).cb==(j:Int)+1)=true:=by rw[(h.act aB).1];simp
 rw[h1];simp only[cond_true];rw[kk (by omega)];simp only[Option.bind_some,ad,cond_true];exact⟨_,rfl,.ret I⟩
def HX{n:Nat}(aM:n<64)(j:Nat):(((1#64) <<< n)-1#64).getLsbD j=decide (j<n):=by
 have h1:(((1#64) <<< n)-1#64).toNat=2^n-1:=by
  have ad:((1#64) <<< n).toNat=2^n:=by
   rw[Vh,KG,Nat.shiftLeft_eq];have:=Vy (show 1<2 by omega) aM;rw[show(1 % 2^64:Nat)=1 from rfl,Li];exact zX this
  have az:1<=2^n:=Nat.one_le_two_pow;have aV:=Vy (show 1<2 by omega) aM;rw[BitVec.toNat_sub,ad];simp only[KG];omega
 rw[<-BitVec.testBit_toNat,h1,Nat.testBit_two_pow_sub_one]
def RO(x:aN)(n:Int)(bC:0<=n)(h1:n<1000):ba (As x n) (λr=> ∀j,j<128->ct r j=(ct x j&&decide ((j:Int)<n))):=by
 unfold As;obtain⟨m,rfl⟩:=pG bC;refine .cond (λh=>.ret λj aB=>?_) λh=>.cond (λcW=>.eq I (.ret λj aB=>?_)) λcW=>.cond (λUd=>.ret λj aB=>?_) λUd=>.eq I (.eq I (.ret λj aB=>?_))
 ·simp only[e5]at h;have:decide ((j:Int)<(m:Int))=true:=by simp;omega
  rw[this,Ab]
 ·simp only[e5,nQ]at h cW;have e:bm ((m:Int)-64)=((m-64:Nat):Int):=by rw[gN (by omega) (by omega)];omega
  simp only[ct,e,s8 (show m-64<2^64 by omega),CF,HX (show m-64<64 by omega)];split
  ·have:decide ((j:Int)<(m:Int))=true:=by simp;omega
   rw[this,Ab]
  congr 1;rw[ra];omega
 ·simp only[e5]at Ud;have:decide ((j:Int)<(m:Int))=false:=by simp;omega
  rw[D3,this,Bool.and_false]
 simp only[e5,nQ]at h cW Ud;simp only[ct,s8 (show m<2^64 by omega),CF,HX (show m<64 by omega)];split
 ·congr 1;rw[ra];omega
 have:decide ((j:Int)<(m:Int))=false:=by simp;omega
 rw[this,Bool.and_false];exact CC
def abg(w:BitVec 64)(j:Nat):ct {(default:aN)with cI:=w} j=w.getLsbD j:=by
 unfold ct;split
 ·rfl
 rw[zK w j (by omega)];exact CC
structure sm(kind b:Int)(m:cG):Prop where
 off:m.gp=false->m=default
 NT:kind=1->m.gp=true
 low:kind=1->∀j,j<128->ct m.b6 j=true->(j:Int)<b
 au8:kind=3->∀j,j<128->ct m.hz j=true->(j:Int)<b
 au9:kind=3->∀j,j<128->ct m.b6 j=true->ct m.hz j=true
 pre:0<=m.ep∧m.ep<=32
 Ue:kind=2->m.gp=true->1<=m.ep
 adI:kind≠2->m.ep=0
 iA:kind≠3->m.hz=default
 ava:kind=3->m.gp=true->m.hz≠default
 avb:kind=4->m.gp=true->m.b6.dZ=m.lq.dZ∧m.b6.cI<=m.lq.cI
 Uf:kind=2->∀j,j<128->ct m.b6 j=true->32-m.ep<=(j:Int)∧j<32
 NU:kind≠4->m.lq=default
def IY:(0:Int)<=0∧(0:Int)<=32:=⟨x2 0,by decide⟩
def Qc{kind b:Int}(h:kind≠1):sm kind b default:=
 ⟨λ_=>rfl,λk=>absurd k h,λk=>absurd k h,λ_ j _ bb=>(by rw[show(default:cG).hz=default from rfl,D3]at bb;cases bb),
  λ_ j _ bb=>(by rw[show(default:cG).b6=default from rfl,D3]at bb;cases bb),
  IY,λ_ k=>(by cases k),λ_=>rfl,λ_=>rfl,λ_ k=>(by cases k),λ_ k=>(by cases k),
  λ_ j _ bb=>(by rw[show(default:cG).b6=default from rfl,D3]at bb;cases bb),λ_=>rfl⟩
def ak3{a x y:BitVec 64}(h1:a<=x)(ad:a<=y):a<=Bp x y:=by
 unfold Bp;split <;> assumption
def ak4{v:aN}{b c:Int}(hb:0<=b∧b<=32)(ae:0<=c∧c<256)(bb:∀j,j<128->ct v j=true->(j:Int)<b):
 v.dZ=0#64∧v.cI<=Bp (v.cI+BitVec.ofInt 64 c) (((1#64) <<< (BitVec.ofInt 64 b).toNat)-(1#64)):=by
 have gE:v.dZ=0#64:=by
  apply zF;intro i aq;have h:=bb (64+i) (by omega);unfold ct at h;rw[bf (by omega),Nat.add_sub_cancel_left]at h;rw[CC];cases au:v.dZ.getLsbD i
  ·rfl
  have:=h au;omega
 obtain⟨n,rfl⟩:=pG hb.1
 have aM:n<=32:=by omega
 have B0:(BitVec.ofInt 64 (n:Int)).toNat=n:=s8 (by omega)
 rw[B0]
 have abh:v.cI<=((1#64) <<< n)-1#64:=by
  have hand:v.cI&&&(((1#64) <<< n)-1#64)=v.cI:=by
   apply zF;intro i aq;rw[CF,HX (by omega)];have h:=bb i (by omega);unfold ct at h;rw[bh aq]at h;cases au:v.cI.getLsbD i
   ·rfl
   have:=h au;simp;omega
  rw[<-hand];rw[De,BitVec.toNat_and];exact Nat.and_le_right
 have oU:(((1#64) <<< n)-1#64).toNat<2^33:=by
  have NV:(((1#64) <<< n)-1#64)&&&(((1#64) <<< 32)-1#64)=(((1#64) <<< n)-1#64):=by
   apply zF;intro i aq;rw[CF,HX (by omega),HX (by omega)];simp;omega
  rw[<-NV,BitVec.toNat_and];exact Nat.lt_of_le_of_lt Nat.and_le_right (by decide)
 refine⟨gE,ak3 ?_ abh⟩
 rw[De]at abh⊢
 obtain⟨m,rfl⟩:=pG ae.1
 rw[BitVec.toNat_add,s8 (by omega),zX (by omega)]
 omega
def ajG(x:BitVec 64){n:Int}(h1:1<=n)(ad:n<=32){i:Nat}(aq:i<128)
 (bb:ct {(default:aN)with cI:=x&&&((((1#64) <<< (BitVec.ofInt 64 32).toNat)-(1#64))-(((1#64) <<< (BitVec.ofInt 64 (bm (32-n))).toNat)-(1#64)))} i=true):32-n<=(i:Int)∧i<32:=by
 rw[abg,CF,gl]at bb
 have az:=bb.2
 obtain⟨k,hk⟩:=pG (show 0<=32-n by omega)
 have c0:k<32:=by omega
 have e:bm (32-n)=(k:Int):=by rw[hk,gN (by omega) (by omega)]
 rw[e,s8 (by omega)]at az
 have Ug:i<64:=by
  rcases sW i 64 with h|h
  ·exact h
  rw[zK _ i h]at az;cases az
 have key:∀(k:Fin 32) (i:Fin 64),((((1#64) <<< (BitVec.ofInt 64 32).toNat)-(1#64))-(((1#64) <<< k.1)-(1#64))).getLsbD i.1=true->k.1<=i.1∧i.1<32:=by decide +kernel
 have:=key ⟨k,c0⟩ ⟨i,Ug⟩ az
 simp only at this
 omega
def aiD(c:dx){s:aZ}(key:dC)(ae:gZ c)(h:b7 s)(hk:nx key):
 ba (GQ c s key) (λr=>gZ r.2∧sm key.dQ (hK key) r.1):=by
 obtain⟨j,aB,aW,aI,e2,Of,atd,c0⟩:=hk
 have hb:hK key=ax vP j:=by unfold hK;rw[aW];congr 1;omega
 unfold GQ
 rw[aW]
 refine(ahP h aB).bind λao ar=>?_
 rw[hb]
 subst ar
 generalize eB:ax vP j=b at *
 refine .bind (gL _ 256 ae (by omega)) λaE ad=>.bind (gL _ 16 ad.1 (by omega)) λbg az=>.eq I (.bind (gL _ 16 az.1 (by omega)) λbt aV=>.eq I ?_)
 refine .bind (RO _ b (by omega) (by omega)) λb3 bc=>?_
 refine .cond (λq=>?_) λq=>?_
 ·have q:key.dQ=2:=by simpa using q
  refine .bind (gL _ 5 aV.1 (by omega)) λcd bq=>.cond (λ_=>?_) λ_=>.ret ⟨bq.1,Qc (by omega)⟩
  refine .bind (gL _ b bq.1 (by omega)) λcA c7=>.bind (gL _ 5 c7.1 (by omega)) λb4 c9=>?_
  refine .eq (wM c9.2.1 (by simpa using c9.2.2.1)) ?_
  have lb:1<=ax [b,8,16,1,bm (1+cA.1)] b4.1.toNat∧ax [b,8,16,1,bm (1+cA.1)] b4.1.toNat<=32:=by
   have ca:b4.1.toNat<[b,8,16,1,bm (1+cA.1)].length:=by have:=c9.2.1;have:=c9.2.2.1;simp;omega
   have hm:=j0 ca;rw[<-dh _ ca]at hm;have hw:bm (1+cA.1)=1+cA.1:=gN (by have:=c7.2.1;omega) (by have:=c7.2.2.1;omega);have:=c7.2.1;have:=c7.2.2.1;simp only[dP,vk,vo]at hm;rcases hm with hm|hm|hm|hm|hm <;> rw[hm] <;> omega
  unfold Lt
  refine .eq I (.eq I (.eq I (.ret ⟨c9.1,λh=>(by cases h),λh=>(by omega),λh=>by omega,λh=>(by omega),λh=>(by omega),⟨by have:=lb.1;show 0<=ax _ _;omega,lb.2⟩,λ_ _=>lb.1,λh=>absurd q h,λ_=>rfl,λh=>(by omega),λh=>(by omega),λ_ i aq bb=>?_,λ_=>rfl⟩)))
  have NV:b=32:=by rw[<-eB,c0 q];rfl
  rw[NV]at lb bb
  rw[NV]
  exact ajG _ lb.1 lb.2 aq bb
 refine .cond (λeJ=>?_) λeJ=>?_
 ·have eJ:key.dQ=3:=by simpa using eJ
  refine .bind (gL _ 256 aV.1 (by omega)) λfH oa=>.bind (gL _ 5 oa.1 (by omega)) λhl wa=>?_
  refine .eq (wM wa.2.1 (by simpa using wa.2.2.1)) (.eq I (.bind (RO _ b (by omega) (by omega)) λhn zi=>?_))
  refine .cond (λUh=>?_) λ_=>.ret ⟨wa.1,Qc (by omega)⟩
  refine .eq I (.eq I (.ret ⟨wa.1,λh=>(by cases h),λh=>(by omega),λh=>by omega,λ_ i aq bb=>?_,λ_ i aq bb=>?_,IY,λh=>(by omega),λ_=>rfl,λh=>absurd eJ h,λ_ _ hd=>?_,λh=>(by omega),λh=>(by omega),λ_=>rfl⟩))
  ·have uX:=zi i aq
   simp only at bb
   rw[bb]at uX
   have:=uX.symm
   simp only[gl,e5]at this
   exact this.2
  ·simp only at bb⊢
   rw[abg,CF,gl]at bb
   have Ug:i<64:=by
    rcases sW i 64 with h|h
    ·exact h
    rw[zK _ i h]at bb;cases bb.1
   unfold ct;rw[bh Ug];exact bb.2
  have hd':hn=default:=hd
  rw[hd']at Uh;simp at Uh
  exact Uh I
 refine .cond (λht=>?_) λht=>?_
 ·have ht:key.dQ=4:=by simpa using ht
  refine .bind (gL _ 256 aV.1 (by omega)) λgv uX=>.eq I (.bind (gL _ 5 uX.1 (by omega)) λiX v8=>.eq I (.cond (λ_=>?_) λ_=>.ret ⟨v8.1,Qc (by omega)⟩))
  have xw:=ak4 (v:=b3) (b:=b) (c:=gv.1) ⟨by omega,atd⟩ ⟨uX.2.1,uX.2.2.1⟩ λi aq bb=>by
   have B4:=bc i aq;rw[bb]at B4;have:=B4.symm;simp only[gl,e5]at this;exact this.2
  exact .eq I (.ret ⟨v8.1,λh=>(by cases h),λh=>(by omega),λh=>by omega,λh=>(by omega),λh=>(by omega),IY,λh=>(by omega),λ_=>rfl,λ_=>rfl,λh=>(by omega),λ_ _=>xw,λh=>(by omega),λh=>absurd ht h⟩)
 have aw:key.dQ=1:=by
  simp only[FN]at q eJ ht;omega
 refine .eq I (.ret ⟨aV.1,λh=>(by cases h),λ_=>rfl,λ_ i aq bb=>?_,λh=>(by omega),λh=>(by omega),IY,λh=>(by omega),λ_=>rfl,λ_=>rfl,λh=>(by omega),λh=>(by omega),λh=>(by omega),λ_=>rfl⟩)
 have uX:=bc i aq
 simp only at bb
 rw[bb]at uX
 have:=uX.symm
 simp only[gl,e5]at this
 exact this.2
structure fE(s:aZ)(k:Nat)(e:bl):Prop where
 fF:e.bF=(k:Int)+1
 len:e.bP.length=(ax s.bL k).cr.length
 xx:∀i,i<(ax s.bL k).cr.length->sm (ax (ax s.bL k).cr i).dQ (hK (ax (ax s.bL k).cr i)) (ax e.bP i)
 args:e.fN.length<=10
 pri:(∀i,i<(ax s.bL k).cr.length->(ax (ax s.bL k).cr i).dQ<=2)->e.gG=0
def LS{α:Type}[Inhabited α](l:aa α)(x:α)(i:Nat):ax (l++[x]) i=if i=l.length then x else ax l i:=by
 unfold ax;by_cases h:i=l.length
 ·subst h;simp
 rw[bf h];rcases sW i l.length with h1|h1
 ·rw[Ou h1]
 rw[OE (by simp;omega),OE h1]
def aiE(c:dx){s:aZ}(x:Int)(ae:gZ c)(h:b7 s):
 ba (z8 c s x) (λr=>gZ r.2∧∃k:Nat,k<4∧DP x (s.bL.length:Int)=some (k:Int)∧fE s k r.1):=by
 unfold z8
 obtain⟨ao,ar,bC,h1⟩:=akZ x (s.bL.length:Int) (by rw[h.lP];omega) (by rw[h.lP];omega)
 obtain⟨k,rfl⟩:=pG bC
 have hk:k<4:=by have:=h.lP;omega
 obtain⟨t1,⟨t2,t3⟩,t4,⟨t5,t6⟩,t7⟩:=h.fF hk
 refine .eq ar (.idx I (by have:=h.lP;omega) ?_)
 refine ba.loop (ax s.bL k).cr.length (λi st=>st.1=(i:Int)∧st.2.1.bF=(k:Int)+1∧st.2.2.1.length=i∧gZ st.2.2.2∧
  (∀j,j<i->sm (ax (ax s.bL k).cr j).dQ (hK (ax (ax s.bL k).cr j)) (ax st.2.2.1 j))∧((∀j,j<i->(ax (ax s.bL k).cr j).dQ<=2)->st.2.1.gG=0)) (by omega) ⟨rfl,t1,rfl,ae,λj aB=>by omega,λ_=>rfl⟩ (λi st aq hs=>?_) (λst hs=>?_)
 ·obtain⟨sL,e,ms,Co⟩:=st;obtain⟨aS,cE,eK,jY,ma,zA⟩:=hs
  simp only at aS cE eK jY ma zA;subst aS
  refine ba.cond (λ_=>?_) (λh=>by simp at h;omega)
  refine .idx I aq (.bind (aiD _ _ jY h (t4 _ (by rw[dh _ aq];exact j0 aq))) λaE ad=>.eq (gq _ _ (by simp;omega) (by omega)) (.eq I ?_))
  refine .bind (P:=λm=>m.1.bF=(k:Int)+1∧gZ m.2∧((ax (ax s.bL k).cr i).dQ<=2->m.1.gG=e.gG)) (.cond (λbU=>.bind (gL _ 5 ad.1 (by omega)) λbt aV=>.eq I (.ret ⟨cE,aV.1,λh=>by simp at bU;omega⟩)) (λ_=>.ret ⟨cE,ad.1,λ_=>rfl⟩)) λm1 bR=>?_
  refine .ret ⟨dA (by omega),bR.1,by simp;omega,bR.2.1,λj aB=>?_,λh=>?_⟩
  ·simp only[LS]
   by_cases mA:j=ms.length
   ·rw[bh mA];rw[mA,eK];exact ad.2
   rw[bf mA];exact ma j (by omega)
  exact(bR.2.2 (h i (by omega))).trans (zA λj aB=>h j (by omega))
 obtain⟨sL,e,ms,Co⟩:=st;obtain⟨aS,cE,eK,jY,ma,zA⟩:=hs
 simp only at aS cE eK jY ma zA;subst aS
 refine⟨_,by simp;rfl,?_⟩
 refine .bind (gL _ _ jY (by omega)) λb3 bc=>?_
 refine .eq (wM bc.2.1 bc.2.2.1) (.eq I ?_)
 have aY:1<=ax (ax s.bL k).dY b3.1.toNat∧ax (ax s.bL k).dY b3.1.toNat<=6:=t7 _ (by
  have ca:b3.1.toNat<(ax s.bL k).dY.length:=by have:=bc.2.1;have:=bc.2.2.1;omega
  rw[dh _ ca];exact j0 ca)
 obtain⟨a,eX⟩:=pG (show 0<=ax (ax s.bL k).dY b3.1.toNat-1 by omega)
 have ate:ax (ax s.bL k).dY b3.1.toNat=(a:Int)+1:=by omega
 simp only[ate]
 refine .bind (WQ h (show a<6 by omega)) λcd bq=>?_
 obtain⟨bk,bo⟩:=h.act (show a<6 by omega)
 rw[<-bq]at bo
 have hp:cd.mO.length<=10∧∀i,i<cd.mO.length->0<=(ax cd.mO i).jG∧(ax cd.mO i).jG<1000:=by
  have hq:∀l∈xc,l.length<=10∧∀b∈l,0<=b∧b<1000:=by decide
  have hm:ax xc a∈xc:=by rw[dh xc (show a<xc.length by simp[xc];omega)];exact j0 _
  obtain⟨aw,cH⟩:=hq _ hm;rw[<-bo]at aw cH;refine⟨by simpa using aw,λi aq=>cH _ ?_⟩;rw[dh _ aq];exact ig.2 ⟨_,j0 aq,rfl⟩
 refine ba.loop cd.mO.length (λi st=>st.1=(i:Int)∧st.2.1.bF=(k:Int)+1∧st.2.2.1.length=i∧gZ st.2.2.2∧st.2.1.gG=e.gG) (by omega) ⟨rfl,cE,rfl,bc.1,rfl⟩ (λi st aq hs=>?_) (λst hs=>?_)
 ·obtain⟨sL,e',vs,atf⟩:=st;obtain⟨f2,f3,f4,f5,f6⟩:=hs
  simp only at f2 f3 f4 f5 f6;subst f2
  refine ba.cond (λ_=>?_) (λh=>by simp at h;omega)
  refine .idx I aq (.bind (gL _ 256 f5 (by omega)) λcA c7=>.eq I (.bind (RO _ _ (hp.2 i aq).1 (hp.2 i aq).2) λb4 c9=>.eq (gq _ _ (by have:=hp.1;simp;omega) (by omega)) (.ret ⟨dA (by have:=hp.1;omega),f3,by simp;omega,c7.1,f6⟩)))
 obtain⟨sL,e',vs,atf⟩:=st;obtain⟨f2,f3,f4,f5,f6⟩:=hs
 simp only at f2 f3 f4 f5 f6;subst f2
 refine⟨_,by simp;rfl,?_⟩
 exact .eq I (.ret ⟨f5,k,hk,ar,f3,eK,ma,by show vs.length<=10;have:=hp.1;omega,λh=>f6.trans (zA h)⟩)
structure aoI(s:aZ)(r:Vector (List Int) 6):Prop where
 fields:bG r 0=s.gW.map (·.cb)
 headers:bG r 1=s.pN.map (·.cb)
 ZF:bG r 2=s.qq.map (·.cb)
 QX:bG r 3=s.dY.map (·.cb)
 tables:bG r 4=s.bL.map (·.cb)
 Ew:bG r 5=s.e0.map (·.cb)
def ME{s:aZ}(h:b7 s):ba (Au s) (aoI s):=by
 unfold Au;have Ce:=h.vO;have UN:=h.headers;have aek:=h.ZF;have U0:=h.Tm;have avE:=h.lP;have avF:=h.pn;refine ba.loop s.gW.length (λk st=>st.1=(k:Int)∧st.2.1=(s.gW.take k).map (·.cb)) (by omega) ⟨rfl,rfl⟩ (λk st hk aq=>?_) (λst aq=>?_)
 ·obtain⟨i,a,v⟩:=st;obtain⟨ar,aS⟩:=aq;simp only at ar aS;subst ar;subst aS;refine ba.cond (λ_=>?_) (λh=>by simp at h;omega);exact .idx I hk (.eq (gq _ _ (by simp;omega) (by omega)) (.ret ⟨dA (by omega),by rw[mM _ hk,mh];rfl⟩))
 obtain⟨i,a0,v⟩:=st;obtain⟨ar,aS⟩:=aq;simp only at ar aS;subst ar;subst aS;refine⟨_,by simp only[show decide ((s.gW.length:Int)<(s.gW.length:Int))=false by simp,cond_false];rfl,?_⟩;refine ba.loop s.pN.length (λk st=>st.1=(k:Int)∧st.2.1=(s.pN.take k).map (·.cb)) (by omega) ⟨rfl,rfl⟩ (λk st hk aq=>?_) (λst aq=>?_)
 ·obtain⟨i,a,v⟩:=st;obtain⟨ar,aS⟩:=aq;simp only at ar aS;subst ar;subst aS;refine ba.cond (λ_=>?_) (λh=>by simp at h;omega);exact .idx I hk (.eq (gq _ _ (by simp;omega) (by omega)) (.ret ⟨dA (by omega),by rw[mM _ hk,mh];rfl⟩))
 obtain⟨i,bX,v⟩:=st;obtain⟨ar,aS⟩:=aq;simp only at ar aS;subst ar;subst aS;refine⟨_,by simp only[show decide ((s.pN.length:Int)<(s.pN.length:Int))=false by simp,cond_false];rfl,?_⟩;refine ba.loop s.qq.length (λk st=>st.1=(k:Int)∧st.2.1=(s.qq.take k).map (·.cb)) (by omega) ⟨rfl,rfl⟩ (λk st hk aq=>?_) (λst aq=>?_)
 ·obtain⟨i,a,v⟩:=st;obtain⟨ar,aS⟩:=aq;simp only at ar aS;subst ar;subst aS;refine ba.cond (λ_=>?_) (λh=>by simp at h;omega);exact .idx I hk (.eq (gq _ _ (by simp;omega) (by omega)) (.ret ⟨dA (by omega),by rw[mM _ hk,mh];rfl⟩))
 obtain⟨i,a2,v⟩:=st;obtain⟨ar,aS⟩:=aq;simp only at ar aS;subst ar;subst aS;refine⟨_,by simp only[show decide ((s.qq.length:Int)<(s.qq.length:Int))=false by simp,cond_false];rfl,?_⟩;refine ba.loop s.dY.length (λk st=>st.1=(k:Int)∧st.2.1=(s.dY.take k).map (·.cb)) (by omega) ⟨rfl,rfl⟩ (λk st hk aq=>?_) (λst aq=>?_)
 ·obtain⟨i,a,v⟩:=st;obtain⟨ar,aS⟩:=aq;simp only at ar aS;subst ar;subst aS;refine ba.cond (λ_=>?_) (λh=>by simp at h;omega);exact .idx I hk (.eq (gq _ _ (by simp;omega) (by omega)) (.ret ⟨dA (by omega),by rw[mM _ hk,mh];rfl⟩))
 obtain⟨i,a3,v⟩:=st;obtain⟨ar,aS⟩:=aq;simp only at ar aS;subst ar;subst aS;refine⟨_,by simp only[show decide ((s.dY.length:Int)<(s.dY.length:Int))=false by simp,cond_false];rfl,?_⟩;refine ba.loop s.bL.length (λk st=>st.1=(k:Int)∧st.2.1=(s.bL.take k).map (·.cb)) (by omega) ⟨rfl,rfl⟩ (λk st hk aq=>?_) (λst aq=>?_)
 ·obtain⟨i,a,v⟩:=st;obtain⟨ar,aS⟩:=aq;simp only at ar aS;subst ar;subst aS;refine ba.cond (λ_=>?_) (λh=>by simp at h;omega);exact .idx I hk (.eq (gq _ _ (by simp;omega) (by omega)) (.ret ⟨dA (by omega),by rw[mM _ hk,mh];rfl⟩))
 obtain⟨i,a4,v⟩:=st;obtain⟨ar,aS⟩:=aq;simp only at ar aS;subst ar;subst aS;refine⟨_,by simp only[show decide ((s.bL.length:Int)<(s.bL.length:Int))=false by simp,cond_false];rfl,?_⟩;refine ba.loop s.e0.length (λk st=>st.1=(k:Int)∧st.2.1=(s.e0.take k).map (·.cb)) (by omega) ⟨rfl,rfl⟩ (λk st hk aq=>?_) (λst aq=>?_)
 ·obtain⟨i,a,v⟩:=st;obtain⟨ar,aS⟩:=aq;simp only at ar aS;subst ar;subst aS;refine ba.cond (λ_=>?_) (λh=>by simp at h;omega);exact .idx I hk (.eq (gq _ _ (by simp;omega) (by omega)) (.ret ⟨dA (by omega),by rw[mM _ hk,mh];rfl⟩))
 obtain⟨i,a5,v⟩:=st;obtain⟨ar,aS⟩:=aq;simp only at ar aS;subst ar;subst aS;refine⟨_,by simp only[show decide ((s.e0.length:Int)<(s.e0.length:Int))=false by simp,cond_false];rfl,?_⟩;refine .eq I (.ret ⟨?_,?_,?_,?_,?_,?_⟩)
 ·simp only[iD];rw[jE _ _ (by omega),bf (by omega),jE _ _ (by omega),bf (by omega),jE _ _ (by omega),bf (by omega),jE _ _ (by omega),bf (by omega),jE _ _ (by omega),bf (by omega),jE _ _ (by omega),bh I]
 ·simp only[iD];rw[jE _ _ (by omega),bf (by omega),jE _ _ (by omega),bf (by omega),jE _ _ (by omega),bf (by omega),jE _ _ (by omega),bf (by omega),jE _ _ (by omega),bh I]
 ·simp only[iD];rw[jE _ _ (by omega),bf (by omega),jE _ _ (by omega),bf (by omega),jE _ _ (by omega),bf (by omega),jE _ _ (by omega),bh I]
 ·simp only[iD];rw[jE _ _ (by omega),bf (by omega),jE _ _ (by omega),bf (by omega),jE _ _ (by omega),bh I]
 ·simp only[iD];rw[jE _ _ (by omega),bf (by omega),jE _ _ (by omega),bh I]
 simp only[iD];rw[jE _ _ (by omega),bh I]
def ZH(l:aa Int)(x:Int)(al:l.length<2^30):ba (wz l x) (λr=>(r= -1∧x∉l)∨∃k:Nat,k<l.length∧r=(k:Int)∧ax l k=x):=by
 unfold wz;refine aiz l (λy=>y==x) (by omega) (λk hk hp=>?_) (λk hk hq hp=>?_) (λhq=>?_)
 ·simp only[show decide ((k:Int)<(l.length:Int))=true by simp;omega,cond_true,kk hk,Option.bind_some,hp,cond_false]
 ·refine⟨_,by simp only[show decide ((k:Int)<(l.length:Int))=true by simp;omega,cond_true,kk hk,Option.bind_some,hp];rfl,?_⟩;exact .ret (.inr ⟨k,hk,rfl,by simpa using hp⟩)
 refine⟨_,by simp only[show decide ((l.length:Int)<(l.length:Int))=false by simp,cond_false];rfl,?_⟩;refine .ret (.inl ⟨rfl,λau=>?_⟩);have:=xO.1 hq x au;simp at this
def afZ{xs:aa cy}{f:cy->aD Bool}{g:cy->Bool}(aW:∀x∈xs,f x=some (g x))(al:xs.length<2^62):
 ba (FE xs f) (λr=>(r= -1∧∀x∈xs,g x=false)∨∃i:Nat,i<xs.length∧r=i∧g (ax xs i)=true∧∀j,j<i->g (ax xs j)=false):=by
 unfold FE
 refine ba.loop xs.length (λk s=>s=(k:Int)∧∀j,j<k->g (ax xs j)=false) (by omega) ⟨rfl,λj aB=>by omega⟩ (λk s hk aq=>?_) (λs aq=>?_)
 ·obtain⟨ar,aS⟩:=aq;subst ar
  refine ba.cond (λ_=>?_) (λh=>by simp at h;omega)
  refine .idx I hk (.eq (aW _ (by rw[dh xs hk];exact j0 hk)) (.cond (λh=>.ret ?_) (λh=>.ret ⟨dA (by omega),λj aB=>?_⟩)))
  ·exact .ret (.inr ⟨k,hk,rfl,h,aS⟩)
  by_cases uW:j=k
  ·subst uW;exact h
  exact aS j (by omega)
 obtain⟨ar,aS⟩:=aq;subst ar
 refine⟨_,by simp;rfl,?_⟩
 refine .ret (.inl ⟨rfl,λx au=>?_⟩)
 obtain⟨j,aB,rfl⟩:=xN.1 au
 rw[<-dh xs aB];exact aS j aB
def af0{xs:aa jm}{f:jm->aD Bool}{g:jm->Bool}(aW:∀x∈xs,f x=some (g x))(al:xs.length<2^62):
 ba (FF xs f) (λr=>(r= -1∧∀x∈xs,g x=false)∨∃i:Nat,i<xs.length∧r=i∧g (ax xs i)=true∧∀j,j<i->g (ax xs j)=false):=by
 unfold FF
 refine ba.loop xs.length (λk s=>s=(k:Int)∧∀j,j<k->g (ax xs j)=false) (by omega) ⟨rfl,λj aB=>by omega⟩ (λk s hk aq=>?_) (λs aq=>?_)
 ·obtain⟨ar,aS⟩:=aq;subst ar
  refine ba.cond (λ_=>?_) (λh=>by simp at h;omega)
  refine .idx I hk (.eq (aW _ (by rw[dh xs hk];exact j0 hk)) (.cond (λh=>.ret ?_) (λh=>.ret ⟨dA (by omega),λj aB=>?_⟩)))
  ·exact .ret (.inr ⟨k,hk,rfl,h,aS⟩)
  by_cases uW:j=k
  ·subst uW;exact h
  exact aS j (by omega)
 obtain⟨ar,aS⟩:=aq;subst ar
 refine⟨_,by simp;rfl,?_⟩
 refine .ret (.inl ⟨rfl,λx au=>?_⟩)
 obtain⟨j,aB,rfl⟩:=xN.1 au
 rw[<-dh xs aB];exact aS j aB
def PV{s:aZ}(h:b7 s){k:Nat}(hk:k<4):ba (Aj s ((k:Int)+1)) (λr=>r=(k:Int)):=by
 unfold Aj;refine(afZ (g:=λt=>t.cb==(k:Int)+1) (λx au=>rfl) (by rw[h.lP];omega)).bind λr aG=>.ret ?_;have c0:k<s.bL.length:=by rw[h.lP];exact hk
 rcases aG with⟨_,aG⟩|⟨i,h1,ad,az,aV⟩
 ·have:=aG (ax s.bL k) (by rw[dh _ c0];exact j0 c0);simp only[(h.fF hk).1,Gg]at this;cases this
 have bc:=(h.fF (show i<4 by have:=h.lP;omega)).1;simp only[bc,nm]at az;omega
def WR{s:aZ}(h:b7 s){k:Nat}(hk:k<9):ba (Dv s ((k:Int)+1)) (λr=>r=(k:Int)):=by
 unfold Dv;refine(af0 (g:=λt=>t.cb==(k:Int)+1) (λx au=>rfl) (by rw[h.vO];omega)).bind λr aG=>.ret ?_;have c0:k<s.gW.length:=by rw[h.vO];exact hk
 rcases aG with⟨_,aG⟩|⟨i,h1,ad,az,aV⟩
 ·have:=aG (ax s.gW k) (by rw[dh _ c0];exact j0 c0);simp only[(h.xv hk).1,Gg]at this;cases this
 have bc:=(h.xv (show i<9 by have:=h.vO;omega)).1;simp only[bc,nm]at az;omega
def X6(l:aa Int){k:Nat}(hk:k<l.length)(al:l.length<2^30)(h:∀j,j<l.length->ax l j=(j:Int)+1):ba (wz l ((k:Int)+1)) (λr=>r=(k:Int)):=by
 unfold wz;refine ba.loop k (λj s=>s=(j:Int)) (by omega) I (λj i aB aq=>?_) (λi aq=>?_)
 ·subst aq;refine ba.cond (λ_=>?_) (λh=>by simp at h;omega);refine .idx I (by omega) (.cond (λae=>?_) (λae=>.ret (dA (by omega))));rw[h j (by omega),nm]at ae;omega
 subst aq;have h1:decide ((k:Int)<(l.length:Int))=true:=by simp;omega
 have ad:(ax l k==(k:Int)+1)=true:=by rw[h k hk];simp
 rw[h1];simp only[cond_true];rw[kk (by omega)];simp only[Option.bind_some,ad,cond_true];exact⟨_,rfl,.ret I⟩
def PW{s:aZ}(h:b7 s){k:Nat}(hk:k<4):ba (x3 s ((k:Int)+1)) (λr=>r=(k:Int)):=by
 unfold x3;refine(ME h).bind λy aT=>?_;have al:=h.lP;rw[aT.tables];refine(X6 _ (by simp;omega) (by simp;omega) λj aB=>?_).bind λr aG=>.ret aG;rw[AL _ (by simpa using aB)];exact(h.fF (by simp at aB;omega)).1
def ahj{s:aZ}(h:b7 s){k:Nat}(hk:k<9):ba (G9 s ((k:Int)+1)) (λr=>r=(k:Int)):=by
 unfold G9;refine(ME h).bind λy aT=>?_;have al:=h.vO;rw[aT.fields];refine(X6 _ (by simp;omega) (by simp;omega) λj aB=>?_).bind λr aG=>.ret aG;rw[AL _ (by simpa using aB)];exact(h.xv (by simp at aB;omega)).1
def SF{key:dC}{j:Nat}(h:key.jq=(j:Int)+1):hK key=ax vP j:=by unfold hK;rw[h];congr 1;omega
def ahQ{s:aZ}(h:b7 s){t:cy}{i:Nat}(aq:i<t.cr.length)(hk:nx (ax t.cr i)):ba (Hf s t (i:Int)) (λr=>r=hK (ax t.cr i)):=by
 obtain⟨j,aB,aW,_⟩:=hk;unfold Hf Lu;refine .idx I aq ?_;rw[SF aW,aW];refine .bind (P:=λr=>r=ax vP j) ((ahj h aB).bind λy aT=>.idx aT (by rw[h.vO];exact aB) (.ret (h.xv aB).2)) λy aT=>.ret aT
def lead(n k:Int)(j:Nat):Bool:=decide ((j:Int)<n)&&decide (n-max 0 (min k n)<=(j:Int))
def W6(n k:Int)(bC:0<=n)(h1:n<=128):ba (Dw n k) (λr=> ∀j,j<128->ct r j=lead n k j):=by
 unfold Dw DD;have e:min (max 0 n) 128=n:=by omega
 rw[e];have aS:bm (n-min (max 0 k) n)=n-min (max 0 k) n:=gN (by omega) (by omega);refine .eq I ((QY n).bind λa aY=>?_);rw[aS];refine(QY _).bind λb hb=>(ak2 a b).bind λr aG=>.ret λj aB=>?_;rw[aG j aB,aY j aB,hb j aB];unfold lead;by_cases p:(j:Int)<n
 ·rw[re p];by_cases q:(j:Int)<n-min (max 0 k) n
  ·rw[re q,sT (by omega)];rfl
  rw[sT q,re (by omega)];rfl
 rw[sT p,sT (by omega)];rfl
def nx.hK{key:dC}(h:nx key):4<=Go.Proofs.YtppgfphgdogpeaaGreat.hK key∧Go.Proofs.YtppgfphgdogpeaaGreat.hK key<=32:=by
 obtain⟨j,aB,aW,_,_,h1,ad,_⟩:=h;rw[SF aW];exact⟨h1,ad⟩
def ak5{v w:aN}:decide (v=w)=true↔∀j,j<128->ct v j=ct w j:=by
 rw[e5];exact⟨λh j _=>by rw[h],Im⟩
def aiF(c:dx)(ae:gZ c):ba (Dc c) (λr=>gZ r.2):=by
 unfold Dc;refine ba.loop 4 (λk st=>st.1=(k:Int)∧gZ st.2.2) (by omega) ⟨rfl,ae⟩ (λk st hk aq=>?_) (λst aq=>?_)
 ·obtain⟨i,p,Co⟩:=st;obtain⟨ar,aS⟩:=aq;simp only at ar aS;subst ar;refine ba.cond (λ_=>?_) (λh=>by simp at h;omega);refine .bind (gL _ 256 aS (by omega)) λao h1=>.eq I (.idx I hk (.bind (gL _ 4 h1.1 (by omega)) λaE ad=>?_));refine .bind (P:=λm=>gZ m.1) (.cond (λ_=>?_) λ_=>.ret ad.1) λm1 bR=>.ret ⟨dA (by omega),bR⟩;exact .idx I hk (.bind (gL _ 256 ad.1 (by omega)) λbg az=>.eq I (.idx I hk (.eq I (.ret az.1))))
 obtain⟨i,p,Co⟩:=st;obtain⟨ar,aS⟩:=aq;simp only at ar aS;subst ar;refine⟨_,rfl,?_⟩;exact .ret aS
def ahR(e:bl)(p:Vector aN 4)(al:e.bP.length<2^30):ba (DE e p) (λ_=>True):=by
 unfold DE;refine ba.loop e.bP.length (λk st=>st.1=(k:Int)) (by omega) I (λk st hk aq=>?_) (λst aq=>?_)
 ·obtain⟨i,p⟩:=st;simp only at aq;subst aq;refine ba.cond (λ_=>?_) (λh=>by simp at h;omega);refine .idx I hk (.cond (λ_=>.ret (dA (by omega))) λbU=>?_);simp only[OF,nQ]at bU;have jw:k<4:=by have:=bU.1;omega
  refine .bind (P:=λ_=>True) (.cond (λ_=>.idx I jw (.eq I (.idx I jw (.eq I (.idx I jw (.idx I jw (.eq I (.ret lL)))))))) λ_=>.eq I ?_) λ_ _=>.ret (dA (by omega));exact .bind (P:=λ_=>True) (.cond (λ_=>.idx I jw (.eq I (.eq I (.idx I jw (.eq I (.ret lL)))))) λ_=>.idx I jw (.ret lL)) λ_ _=>.ret lL
 obtain⟨i,p⟩:=st;simp only at aq;subst aq;refine⟨_,by simp;rfl,?_⟩;exact .ret lL
def l4(a b:aN):Bool:=decide (a.dZ<b.dZ)||(a.dZ==b.dZ&&decide (a.cI<b.cI))
def H5{a b:aN}:l4 a b=true↔a.dZ<b.dZ∨(a.dZ=b.dZ∧a.cI<b.cI):=by simp[l4]
def AB(a:aN):l4 a a=false:=by simp[l4]
def DU{a b:aN}(h:l4 a b=true):l4 b a=false:=by
 rw[pJ];intro ad;rw[H5]at h ad;simp only[Aa,BitVec.toNat_eq]at h ad;omega
def ahS{x y i:Nat}(h1:x.testBit i=false)(ad:y.testBit i=true)(az:∀j,i<j->x.testBit j=y.testBit j):x<y:=by
 have aV:x/2^(i+1)=y/2^(i+1):=Nat.eq_of_testBit_eq λj=>by
  rw[Ve,Ve];exact az _ (by omega)
 rw[Nat.testBit_eq_decide_div_mod_eq]at h1 ad;simp only[nQ,e5]at h1 ad;rw[Nat.pow_succ,<-Vm,<-Vm]at aV;have bc:x/2^i<y/2^i:=by omega
 exact Nat.lt_of_div_lt_div bc
def Y4{x y:BitVec 64}{i:Nat}(h1:x.getLsbD i=false)(ad:y.getLsbD i=true)(az:∀j,i<j->j<64->x.getLsbD j=y.getLsbD j):x<y:=by
 rw[Aa];refine ahS h1 ad λj aB=>?_;by_cases mA:j<64
 ·exact az j aB mA
 show x.getLsbD j=y.getLsbD j;rw[zK _ _ (by omega),zK _ _ (by omega)]
def X7{a b:aN}{i:Nat}(aq:i<128)(h1:ct a i=false)(ad:ct b i=true)(az:∀j,i<j->j<128->ct a j=ct b j):l4 a b=true:=by
 rw[H5];by_cases h:i<64
 ·right;unfold ct at h1 ad;rw[bh h]at h1 ad;constructor
  ·apply zF;intro j aB;have:=az (j+64) (by omega) (by omega);unfold ct at this;rw[bf (by omega),bf (by omega)]at this;simpa using this
  refine Y4 h1 ad λj aB mA=>?_;have:=az j aB (by omega);unfold ct at this;rwa[bh mA,bh mA]at this
 left;unfold ct at h1 ad;rw[bf h]at h1 ad;refine Y4 h1 ad λj aB mA=>?_;have:=az (j+64) (by omega) (by omega);unfold ct at this;rw[bf (by omega),bf (by omega)]at this;simpa using this
def W7(a b:aN):ba (ri a b) (λr=>(r<0↔l4 a b=true)∧(r=0↔a=b)∧(-1<=r∧r<=1)):=by
 unfold ri;refine .cond (λh=>.ret ?_) λh=>.eq I (.cond (λad=>.ret ?_) λad=>.ret ?_)
 ·simp only[e5]at h;subst h;simp[AB]
 ·simp only[nQ]at h;exact⟨⟨λ_=>ad,λ_=>by omega⟩,⟨λaz=>by omega,λaz=>absurd az h⟩,by omega,by omega⟩
 simp only[nQ]at h;have l3:l4 a b=false:=ad;exact⟨⟨λaz=>by omega,λaz=>by rw[l3]at az;cases az⟩,⟨λaz=>by omega,λaz=>absurd az h⟩,by omega,by omega⟩
def LF(a b:aN):ba (rk a b) (λr=>(r>0↔l4 b a=true)∧(r<0↔l4 a b=true)):=by
 unfold rk;refine(D5 a).bind λx au=>(D5 b).bind λy aT=>?_;refine ba.loop 128 (λk s=>s=127-(k:Int)∧∀j,128<=j+k->j<128->ct a j=ct b j) (by omega) ⟨rfl,λj h1 ad=>by omega⟩ (λk s hk aq=>?_) (λs aq=>?_)
 ·obtain⟨rfl,aS⟩:=aq;refine ba.cond (λ_=>?_) (λh=>by simp at h;omega);have qb:(127-(k:Int))=((127-k:Nat):Int):=by omega
  have yS:127-k<128:=by omega
  refine .idx qb yS (.idx qb yS ?_);rw[au _ yS,aT _ yS];refine .cond (λdf=>.idx qb yS ?_) λheq=>.ret ⟨?_,λj h1 ad=>?_⟩
  ·have heq:∀j,127-k<j->j<128->ct a j=ct b j:=λj h1 ad=>aS j (by omega) ad;rw[aT _ yS];refine .cond (λhb=>.ret (.ret ?_)) λhb=>.ret (.ret ?_)
   ·have aY:ct a (127-k)=false:=by rw[hb]at df;simpa using df
    have:=X7 yS aY hb heq;exact⟨⟨λh=>by simp at h,λh=>by rw[DU this]at h;cases h⟩,λ_=>this,λ_=>by simp⟩
   have aY:ct a (127-k)=true:=by rw[hb]at df;simpa using df
   have:=X7 yS hb aY λj h1 ad=>(heq j h1 ad).symm;exact⟨⟨λ_=>this,λ_=>by simp⟩,λh=>by simp at h,λh=>by rw[DU this]at h;cases h⟩
  ·rw[gN (by omega) (by omega)];omega
  by_cases aB:j=127-k
  ·subst aB;simpa using heq
  exact aS j (by omega) ad
 obtain⟨rfl,aS⟩:=aq;refine⟨_,rfl,?_⟩;have:a=b:=Im λj aB=>aS j (by omega) aB;subst this;refine .ret ⟨?_,?_⟩ <;> simp[AB]
end Go.Proofs.YtppgfphgdogpeaaGreat
namespace Gv
structure uY{α:Type}(b:α->α->Bool):Prop where
 asymm:∀x y,b x y=true->b y x=false
 trans:∀x y z,b x y=true->b y z=true->b x z=true
def ins{α:Type}(b:α->α->Bool):aa α->α->aa α
 |[],x=>[x]
 |a::l,x=>if b a x=true then a::ins b l x else x::a::l
def eY{α:Type}(b:α->α->Bool)(l:aa α):aa α:=l.foldl (ins b) []
def l5{α:Type}(b:α->α->Bool):aa α->α->Nat
 |[],_=>0
 |a::l,x=>if b a x=true then l5 b l x+1 else 0
def B5{α:Type}(b:α->α->Bool)(x y:α):Prop:=b x y=true∨b y x=true
variable{α:Type}{b:α->α->Bool}
def X8(a:α)(l:aa α)(x:α):ins b (a::l) x=if b a x=true then a::ins b l x else x::a::l:=rfl
def RP:∀{l:aa α} {x:α},l5 b l x<=l.length
 |[],_=>iV _
 | a::l,x=>by
   have:=RP (l:=l) (x:=x);unfold l5;split <;> simp <;> omega
def ZI:∀(l:aa α) (x:α),ins b l x=l.take (l5 b l x)++x::l.drop (l5 b l x)
 |[],x=>rfl
 | a::l,x=>by
   unfold ins l5;split
   ·rw[ZI l x];rfl
   rfl
def Qt:∀(l:aa α) (x:α),(ins b l x).Perm (x::l)
 |[],x=>K5 _
 | a::l,x=>by
   unfold ins;split
   ·exact((Qt l x).cons a).trans (List.Perm.swap x a l)
   exact K5 _
def ak6{l:aa α}{x y:α}:y∈ins b l x↔y=x∨y∈l:=by
 rw[(Qt l x).mem_iff];simp
def H6(l:aa α)(x:α):eY b (l++[x])=ins b (eY b l) x:=by
 simp[eY,List.foldl_append]
def QZ(l:aa α):(eY b l).Perm l:=by
 have key:∀(l m:aa α),(l.foldl (ins b) m).Perm (m++l):=by
  intro l;induction l with
  |nil=>intro m;simp
  | cons a l cj=>
    intro m
    refine(cj (ins b m a)).trans ?_
    refine((Qt m a).append_right l).trans ?_
    exact(sS (a:=a) (l₁:=m) (l₂:=l)).symm
 exact key l []
def ry{l:aa α}{y:α}:y∈eY b l↔y∈l:=(QZ l).mem_iff
def al9{l:aa α}:(eY b l).length=l.length:=(QZ l).length_eq
def W8(hb:uY b):∀{l:aa α} {x:α},l.Pairwise (λx y=>b x y=true)->(∀a∈l,B5 b a x)->(ins b l x).Pairwise (λx y=>b x y=true)
 |[],x,_,_=>by simp[ins]
 | a::l,x,hs,bD=>by
   obtain⟨h1,ad⟩:=kz.1 hs;unfold ins;split
   ·rename_i qY;refine kz.2 ⟨λc ae=>?_,W8 hb ad λa aY=>bD a (by simp[aY])⟩;rcases ak6.1 ae with rfl|ae
    ·exact qY
    exact h1 c ae
   rename_i qY;have zj:b x a=true:=(bD a (by simp)).resolve_left qY;refine kz.2 ⟨λc ae=>?_,hs⟩;rcases dP.1 ae with rfl|ae
   ·exact zj
   exact hb.trans _ _ _ zj (h1 c ae)
def X9(hb:uY b){p:α->Bool}:∀{l:aa α} {x:α},l.Pairwise (λx y=>b x y=true)->(∀a∈l,B5 b a x)->
 (ins b l x).find? p=if p x=true then(match l.find? p with |none=>some x|some c=>if b x c=true then some x else some c)else l.find? p
 | [],x,_,_=>by
   unfold ins;by_cases hp:p x=true
   ·simp[hp]
   simp only[jl]at hp;simp[hp]
 | a::l,x,hs,bD=>by
   obtain⟨h1,ad⟩:=kz.1 hs;unfold ins;by_cases qY:b a x=true
   ·rw[bh qY];by_cases NW:p a=true
    ·rw[FG NW,FG NW];simp[hb.asymm _ _ qY]
    rw[Cx NW,Cx NW];exact X9 hb ad λa aY=>bD a (by simp[aY])
   rw[bf qY];have zj:b x a=true:=(bD a (by simp)).resolve_left qY;by_cases hp:p x=true
   ·rw [FG hp,bh hp];cases aW:(a::l).find? p with
    |none=>rfl
    | some c=>
      have ae:=Cu aW
      have:b x c=true:=by
       rcases dP.1 ae with rfl|ae
       ·exact zj
       exact hb.trans _ _ _ zj (h1 c ae)
      simp[this]
   rw[Cx hp,bf hp]
def aiG{l:aa α}{x:α}(h:∀c∈l,b c x=false):ins b l x=x::l:=by
 cases l with
 |nil=>rfl
 |cons a l=>unfold ins;rw[bf (by simp[h a (by simp)])]
def W9(hb:uY b){q:α->Bool}:∀{l:aa α} {x:α},l.Pairwise (λx y=>b x y=true)->(∀a∈l,B5 b a x)->
 (ins b l x).filter q=if q x=true then ins b (l.filter q) x else l.filter q
 | [],x,_,_=>by
   show [x].filter q=if q x=true then [x]else [];by_cases hp:q x=true
   ·simp[hp]
   simp only[jl]at hp;simp[hp]
 | a::l,x,hs,bD=>by
   obtain⟨h1,ad⟩:=kz.1 hs;have cj:=W9 hb (q:=q) (x:=x) ad λa aY=>bD a (by simp[aY]);rw[X8];by_cases qY:b a x=true
   ·rw[bh qY];by_cases pz:q a=true
    ·rw[xL pz,xL pz,cj];by_cases hq:q x=true
     ·rw[bh hq,bh hq,X8,bh qY]
     rw[bf hq,bf hq]
    rw[vi pz,vi pz,cj]
   rw[bf qY];have zj:b x a=true:=(bD a (by simp)).resolve_left qY;by_cases hq:q x=true
   ·rw[xL hq,bh hq,aiG];intro c ae;have nJ:=(tZ.1 ae).1;refine hb.asymm _ _ ?_;rcases dP.1 nJ with rfl|nJ
    ·exact zj
    exact hb.trans _ _ _ zj (h1 c nJ)
   rw[vi hq,bf hq]
def xd(b:α->α->Bool)(l:aa α):Prop:=l.Pairwise (B5 b)
def xd.snoc{l:aa α}{x:α}(h:xd b (l++[x])):xd b l∧∀a∈l,B5 b a x:=by
 unfold xd at *;rw[wi]at h;exact⟨h.1,λa aY=>h.2.2 a aY x (by simp)⟩
def Ya{P:aa α->Prop}(bC:P [])(h1:∀l x,P l->P (l++[x]))(l:aa α):P l:=by
 have:∀r:aa α,P r.reverse:=by
  intro r;induction r with
  |nil=>exact bC
  |cons a r cj=>rw[List.reverse_cons];exact h1 _ _ cj
 have:=this l.reverse;rwa[List.reverse_reverse]at this
def HL(hb:uY b){l:aa α}(h:xd b l):(eY b l).Pairwise (λx y=>b x y=true):=by
 induction l using Ya with
 |bC=>exact List.Pairwise.nil
 | h1 l x cj=>
   obtain⟨h1,ad⟩:=h.snoc
   rw[H6]
   exact W8 hb (cj h1) λa aY=>ad a (ry.1 aY)
def aiH(hb:uY b){q:α->Bool}{l:aa α}(h:xd b l):(eY b l).filter q=eY b (l.filter q):=by
 induction l using Ya with
 |bC=>rfl
 | h1 l x cj=>
   obtain⟨h1,ad⟩:=h.snoc
   rw[H6,W9 hb (HL hb h1) λa aY=>ad a (ry.1 aY),cj h1,mJ]
   by_cases hq:q x=true
   ·rw[bh hq,xL hq,List.filter_nil,H6]
   rw[bf hq,vi hq,List.filter_nil,ov]
def RQ[Inhabited α](hb:uY b):∀{l:aa α} {x:α} {k:Nat},l.Pairwise (λx y=>b x y=true)->k<l.length->(b (ax l k) x=true↔k<l5 b l x)
 |[],x,k,_,hk=>by simp at hk
 | a::l,x,k,hs,hk=>by
   obtain⟨h1,ad⟩:=kz.1 hs;unfold l5;cases k with
   | zero=>
     have:ax (a::l) 0=a:=rfl
     rw[this]
     split <;> simp_all
   | succ k=>
     have kJ:k<l.length:=by simpa using hk
     have he:ax (a::l) (k+1)=ax l k:=by rw[dh _ hk,dh _ kJ];rfl
     rw[he,RQ hb ad kJ]
     split
     ·omega
     rename_i qY
     constructor
     ·intro ca
      have bc:=(RQ hb ad kJ).2 ca
      have bq:=h1 (ax l k) (by rw[dh _ kJ];exact j0 _)
      exact absurd (hb.trans _ _ _ bq bc) qY
     intro h;omega
end Gv
namespace Go.Proofs.YtppgfphgdogpeaaGreat
open Go Gv
def agz{xs:aa dC}{f:dC->aD Bool}{g:dC->Bool}(aW:∀x∈xs,f x=some (g x))(al:xs.length<2^62):
 ba (FJ xs f) (λr=>(r= -1∧∀x∈xs,g x=false)∨∃i:Nat,i<xs.length∧r=i∧g (ax xs i)=true∧∀j,j<i->g (ax xs j)=false):=by
 unfold FJ
 refine ba.loop xs.length (λk s=>s=(k:Int)∧∀j,j<k->g (ax xs j)=false) (by omega) ⟨rfl,λj aB=>by omega⟩ (λk s hk aq=>?_) (λs aq=>?_)
 ·obtain⟨ar,aS⟩:=aq;subst ar
  refine ba.cond (λ_=>?_) (λh=>by simp at h;omega)
  refine .idx I hk (.eq (aW _ (by rw[dh xs hk];exact j0 hk)) (.cond (λh=>.ret ?_) (λh=>.ret ⟨dA (by omega),λj aB=>?_⟩)))
  ·exact .ret (.inr ⟨k,hk,rfl,h,aS⟩)
  by_cases uW:j=k
  ·subst uW;exact h
  exact aS j (by omega)
 obtain⟨ar,aS⟩:=aq;subst ar
 refine⟨_,by simp;rfl,?_⟩
 refine .ret (.inl ⟨rfl,λx au=>?_⟩)
 obtain⟨j,aB,rfl⟩:=xN.1 au
 rw[<-dh xs aB];exact aS j aB
def _root_.Gv.ba.get{β:Type}{m:aD β}{v:β}(h:ba m (λr=>r=v)):m=some v:=by
 obtain⟨r,h1,rfl⟩:=h;exact h1
def Y5(a b:aN):l4 a b=true∨a=b∨l4 b a=true:=by
 rw[H5,H5];rcases a with⟨avG,Fo⟩;rcases b with⟨avH,avI⟩;simp only[Aa,aN.mk.injEq,<-BitVec.toNat_inj];omega
def nc(kind b:Int)(m:cG)(x:aN):Bool:=
 if m.gp=false then true
 else if kind=1 then decide (x=m.b6)
 else if kind=2 then(List.range 128).all λj=> !lead b m.ep j||(ct x j==ct m.b6 j)
 else if kind=3 then decide (xb x m.hz=m.b6)
 else !l4 x m.b6&& !l4 m.lq x
def ahT{key:dC}(hk:nx key)(m:cG)(x:aN):Hm m key.dQ (hK key) x=some (nc key.dQ (hK key) m x):=by
 have hb:=hk.hK;obtain⟨_,_,_,aI,e2,_⟩:=hk;refine ba.get ?_;unfold Hm nc;refine .cond (λhp=>.ret ?_) λhp=>?_
 ·simp only[r7]at hp;rw[bh hp];simp;omega
 simp only[KH]at hp;rw[bf (by simp[hp])];refine .cond (λh1=>.ret ?_) λh1=>.cond (λad=>?_) λad=>.cond (λaz=>?_) λaz=>?_
 ·rw[bh (by simpa using h1)]
 ·rw[bf (by simpa using h1),bh (by simpa using ad)];refine(W6 _ _ (by omega) (by omega)).bind λao ar=>.eq (and_eq _ _) (.eq (and_eq _ _) (.ret ?_));rw[kP,ak5,lj];constructor
  ·intro h j aB;have pw:=lH.1 aB;have:=h j pw;rw[D4,D4,ar j pw]at this;cases al:lead (hK key) m.ep j
   ·rfl
   rw[al]at this;simpa using this
  intro h j aB;have:=h j (lH.2 aB);rw[D4,D4,ar j aB];cases al:lead (hK key) m.ep j
  ·simp
  rw[al]at this;simpa using this
 ·rw[bf (by simpa using h1),bf (by simpa using ad),bh (by simpa using az)];exact .eq (and_eq _ _) (.ret I)
 have jw:key.dQ=4:=by simp only[FN]at h1 ad az;omega
 rw[bf (by simpa using h1),bf (by simpa using ad),bf (by simpa using az)];refine .cond (λ_=>?_) λh=>by rw[jw]at h;cases h
 refine(W7 _ _).bind λb3 ⟨bX,a2,a3⟩=>.bV (P:=λr=>(r<0↔l4 x m.lq=true)∧(r=0↔x=m.lq)∧ -1<=r∧r<=1) (λ_=>W7 _ _) λcd bq=>.ret ?_;have ei:decide (b3<=0)= !l4 x m.b6:=by
  rw[kP,e5,r7];rcases Y5 m.b6 x with h|h|h
  ·have:=bX.2 h;rw[DU h];simp;omega
  ·have:=a2.2 h;rw[h,AB];simp;omega
  rw[h];simp;have c7: ¬b3<0:=λbW=>by rw[DU h]at bX;simpa using bX.1 bW
  have c9:b3≠0:=λbW=>by rw[a2.1 bW,AB]at h;cases h
  omega
 rw[ei];cases au:l4 x m.b6
 ·rw[ei,au]at bq;obtain⟨dM,eF,jA⟩:=bq I;simp only[K4,qo];rw[kP,e5,r7];rcases Y5 x m.lq with h|h|h
  ·have:=dM.2 h;rw[DU h];simp;omega
  ·have:=eF.2 h;rw[h,AB];simp;omega
  rw[h];simp;have c7: ¬cd<0:=λbW=>by rw[DU h]at dM;simpa using dM.1 bW
  have c9:cd≠0:=λbW=>by rw[eF.1 bW,AB]at h;cases h
  omega
 simp
def ahU{key:dC}(hk:nx key){m:cG}(hm:sm key.dQ (hK key) m)(x:aN):Hl m key.dQ (hK key) x=some (nc key.dQ (hK key) m x):=by
 have hb:=hk.hK;obtain⟨_,_,_,aI,e2,_⟩:=hk;refine ba.get ?_;unfold Hl nc;refine .cond (λhp=>.ret ?_) λhp=>?_
 ·simp only[r7]at hp;rw[bh hp];simp;omega
 simp only[KH]at hp;rw[bf (by simp[hp])];refine .cond (λh1=>.ret ?_) λh1=>.cond (λad=>?_) λad=>.cond (λaz=>?_) λaz=>?_
 ·rw[bh (by simpa using h1)]
 ·rw [bf (by simpa using h1),bh (by simpa using ad)];have adJ:=hm.Ue (by simpa using ad) hp;have auS:=hm.pre.2;refine(D5 _).bind λao ar=>(D5 _).bind λaE aS=>?_;rw[gN (by omega) (by omega)];refine ba.loop m.ep.toNat (λr s=>s=hK key-m.ep+(r:Int)∧∀j:Nat,j<128->hK key-m.ep<=(j:Int)->(j:Int)<hK key-m.ep+(r:Int)->ct x j=ct m.b6 j) (by omega) ⟨by simp,λj aB h1 ad=>by omega⟩ (λr s aG hs=>?_) (λs hs=>?_)
  ·obtain⟨rfl,hs⟩:=hs;refine .cond (λ_=>?_) (λh=>by simp at h;omega);by_cases bC:0<=hK key-m.ep+(r:Int)
   ·obtain⟨j,aB⟩:=pG bC;rw[aB];have IB:j<128:=by omega
    refine .bV (P:=λk=>k=j) (λ_=>⟨j,kk IB,rfl⟩) λaI cQ=>.bV (P:=λk=>k=j) (λ_=>⟨j,kk IB,rfl⟩) λbu c0=>.eq I ?_;have q4:(decide ((j:Int)>=0)&&decide ((j:Int)<128))=true:=by simp;omega
    rw[cQ q4,c0 q4,q4,qo,ar j IB,aS j IB];refine .cond (λdf=>.ret ?_) λheq=>.ret ⟨by rw[gN (by omega) (by omega)];omega,λi aq az aV=>?_⟩
    ·simp only[Sum.elim_inr];refine .ret ?_;refine(pJ.2 λn3=>?_).symm;have:=lj.1 n3 j (lH.2 IB);have al:lead (hK key) m.ep j=true:=by unfold lead;simp;omega
     rw[al]at this;simp at this df;exact df this
    by_cases gf:i=j
    ·subst gf;simpa using heq
    exact hs i aq az (by omega)
   have ku:(decide (hK key-m.ep+(r:Int)>=0)&&decide (hK key-m.ep+(r:Int)<128))=false:=by simp;omega
   refine .bV (P:=λ_=>True) (λh=>by rw[ku]at h;cases h) λaI _=>.bV (P:=λ_=>True) (λh=>by rw[ku]at h;cases h) λbu _=>.eq rfl ?_;rw[ku,Bool.false_and];refine .cond (λh=>by cases h) λ_=>.ret ⟨by rw[gN (by omega) (by omega)];omega,λi aq az aV=>hs i aq az (by omega)⟩
  obtain⟨rfl,hs⟩:=hs;have oK:decide (hK key-m.ep+(m.ep.toNat:Int)<hK key)=false:=by simp;omega
  rw[oK];refine⟨_,rfl,?_⟩;simp only[Sum.elim_inl];refine .ret ?_;refine(lj.2 λj aB=>?_).symm;have pw:=lH.1 aB;cases al:lead (hK key) m.ep j
  ·rfl
  unfold lead at al;simp only[gl,e5]at al;have:=hs j pw (by omega) (by omega);simp[this]
 ·rw[bf (by simpa using h1),bf (by simpa using ad),bh (by simpa using az)];refine(aiC _ _).bind λy aT=>.ret ?_;rw[aT]
 have jw:key.dQ=4:=by simp only[FN]at h1 ad az;omega
 rw[bf (by simpa using h1),bf (by simpa using ad),bf (by simpa using az)];refine .cond (λ_=>?_) λh=>by rw[jw]at h;cases h
 refine(LF _ _).bind λb3 ⟨bX,a2⟩=>.bV (P:=λr=>(r>0↔l4 m.lq x=true)∧(r<0↔l4 x m.lq=true)) (λ_=>LF _ _) λcd bq=>.ret ?_;have ei:decide (b3<=0)= !l4 x m.b6:=by
  rw[kP,e5,r7,<-jl,<-bX];omega
 rw[ei];cases au:l4 x m.b6
 ·rw[ei,au]at bq;obtain⟨dM,eF⟩:=bq I;simp only[K4,qo];rw[kP,e5,r7,<-jl,<-dM];omega
 simp
def mt(s:aZ)(k:Nat)(p:Vector aN 4)(e:bl):Bool:=
 (List.range (ax s.bL k).cr.length).all λi=>nc (ax (ax s.bL k).cr i).dQ (hK (ax (ax s.bL k).cr i)) (ax e.bP i) (bG p i)
def ahV{s:aZ}(h:b7 s){key:dC}(hk:nx key):Hk s key=some (hK key):=by
 obtain⟨j,aB,aW,_⟩:=hk;refine ba.get ?_;unfold Hk;rw[aW];refine(WR h aB).bind λr aG=>?_;subst aG;rw[show decide ((j:Int)<0)=false from sT (by omega),cond_false];refine .idx I (by have:=h.vO;omega) (.ret ?_);rw[(h.xv aB).2,SF aW]
def XA{s:aZ}(h:b7 s){k:Nat}(hk:k<4){e:bl}(he:e.bF=(k:Int)+1):DJ s e=some (ax s.bL k,true):=by
 refine ba.get ?_;unfold DJ;rw[he];refine(PV h hk).bind λr aG=>?_;subst aG;rw[show decide ((k:Int)<0)=false from sT (by omega),cond_false];exact .idx I (by have:=h.lP;omega) (.ret I)
def ZJ{n i:Nat}{f:Nat->Bool}(h:∀c,c<n->f c=true)(aM:i=n):(List.range i).all f=true:=by
 subst aM;exact lj.2 λc ae=>h c (lH.1 ae)
def ZK{n i:Nat}{f:Nat->Bool}(aq:i<n)(h:f i=false):(List.range n).all f=false:=by
 rw[pJ];intro h1;have:=lj.1 h1 i (lH.2 aq);rw[h]at this;cases this
def ahk{s:aZ}(h:b7 s){k:Nat}(hk:k<4){e:bl}(he:fE s k e)(p:Vector aN 4):Dz s e p=some (mt s k p e):=by
 obtain⟨t1,⟨t2,t3⟩,t4,_⟩:=h.fF hk;refine ba.get ?_;unfold Dz mt;refine .eq (XA h hk he.fF) (.cond (λh=>by cases h) λ_=>?_);have hm:=he.len;simp only;refine ba.loop (ax s.bL k).cr.length (λi st=>st=(i:Int)∧∀c,c<i->nc (ax (ax s.bL k).cr c).dQ (hK (ax (ax s.bL k).cr c)) (ax e.bP c) (bG p c)=true) (by omega) ⟨rfl,λc ae=>by omega⟩ (λi st aq hs=>?_) (λst hs=>?_)
 ·obtain⟨rfl,hs⟩:=hs;have qb:nx (ax (ax s.bL k).cr i):=t4 _ (by rw[dh _ aq];exact j0 aq);refine .cond (λ_=>?_) (λh=>by simp at h;omega);refine .idx I aq ?_;have ku:(decide ((i:Int)>=(e.bP.length:Int))||decide ((i:Int)>=4))=false:=by simp;omega
  rw[ku];refine .bV (P:=λc=>c=i) (λ_=>⟨i,kk (by omega),rfl⟩) λbu aS=>.bV (P:=λc=>c=hK (ax (ax s.bL k).cr i)) (λ_=>⟨_,ahV h qb,rfl⟩) λaE cE=>.bV (P:=λc=>c=i) (λ_=>⟨i,kk (by omega),rfl⟩) λcB eK=>?_;rw[aS I,cE I,eK I];refine .bV (P:=λc=>c=nc (ax (ax s.bL k).cr i).dQ (hK (ax (ax s.bL k).cr i)) (ax e.bP i) (bG p i)) (λ_=>⟨_,ahT qb _ _,rfl⟩) λbg jY=>.eq I ?_;rw[jY I,r9];refine .cond (λaM=>.ret ?_) λaT=>.ret ⟨dA (by omega),λc ae=>?_⟩
  ·simp only[Sum.elim_inr];exact .ret (ZK aq (by simpa using aM)).symm
  by_cases Ui:c=i
  ·subst Ui;simpa using aT
  exact hs c (by omega)
 obtain⟨rfl,hs⟩:=hs;rw[show decide (((ax s.bL k).cr.length:Int)<((ax s.bL k).cr.length:Int))=false by simp];refine⟨_,rfl,?_⟩;simp only[Sum.elim_inl];exact .ret (ZJ hs I).symm
def ahl{s:aZ}(h:b7 s){k:Nat}(hk:k<4){e:bl}(he:fE s k e)(p:Vector aN 4):Hg s e p=some (mt s k p e):=by
 obtain⟨t1,⟨t2,t3⟩,t4,_⟩:=h.fF hk;refine ba.get ?_;unfold Hg mt;rw[he.fF];refine(PW h hk).bind λr aG=>?_;subst aG;refine .idx I (by have:=h.lP;omega) ?_;have hm:=he.len;refine ba.loop (ax s.bL k).cr.length (λi st=>st=(i:Int)∧∀c,c<i->nc (ax (ax s.bL k).cr c).dQ (hK (ax (ax s.bL k).cr c)) (ax e.bP c) (bG p c)=true) (by omega) ⟨rfl,λc ae=>by omega⟩ (λi st aq hs=>?_) (λst hs=>?_)
 ·obtain⟨rfl,hs⟩:=hs;have qb:nx (ax (ax s.bL k).cr i):=t4 _ (by rw[dh _ aq];exact j0 aq);refine .cond (λ_=>?_) (λh=>by simp at h;omega);refine .idx I aq (.idx I (by omega) ((ahQ h aq qb).bind λaE cE=>.idx I (by omega) ?_));rw[cE];refine .eq (ahU qb (he.xx i aq) _) (.cond (λaM=>.ret ?_) λaT=>.ret ⟨dA (by omega),λc ae=>?_⟩)
  ·simp only[Sum.elim_inr];exact .ret (ZK aq (by simpa using aM)).symm
  by_cases Ui:c=i
  ·subst Ui;simpa using aT
  exact hs c (by omega)
 obtain⟨rfl,hs⟩:=hs;rw[show decide (((ax s.bL k).cr.length:Int)<((ax s.bL k).cr.length:Int))=false by simp];refine⟨_,rfl,?_⟩;simp only[Sum.elim_inl];exact .ret (ZJ hs I).symm
def xy:aa dC->aa cG->Int
 |key::ks,m::ms=>if key.dQ=2 then m.ep else xy ks ms
 |_,_=>0
def MF:∀{ks:aa dC} {ms:aa cG} {i:Nat},ms.length=ks.length->i<ks.length->(ax ks i).dQ=2->(∀j,j<i->(ax ks j).dQ≠2)->xy ks ms=(ax ms i).ep
 |[],_,i,_,aq,_,_=>by simp at aq
 |key::ks,[],i,al,_,_,_=>by simp at al
 | key::ks,m::ms,0,_,_,ad,_=>by
   have:(ax (key::ks) 0)=key:=rfl;rw[this]at ad;unfold xy;rw[bh ad];rfl
 | key::ks,m::ms,i+1,al,aq,ad,aM=>by
   have bC:=aM 0 (by omega);have:(ax (key::ks) 0)=key:=rfl;rw[this]at bC;unfold xy;rw[bf bC];have bz:∀{β:Type} [Inhabited β] (x:β) (l:aa β) (n:Nat),ax (x::l) (n+1)=ax l n:=λx l n=>by simp[ax]
   rw[bz]at ad⊢;exact MF (by simpa using al) (by simpa using aq) ad λj aB=>by have:=aM (j+1) (by omega);rwa[bz]at this
def RR:∀{ks:aa dC} {ms:aa cG},(∀key∈ks,key.dQ≠2)->xy ks ms=0
 |[],_,_=>by unfold xy;rfl
 |key::ks,[],_=>by unfold xy;rfl
 | key::ks,m::ms,aM=>by
   unfold xy;rw[bf (aM key (by simp))];exact RR λk hk=>aM k (by simp[hk])
def jj(s:aZ)(k:Nat)(e:bl):Int:=xy (ax s.bL k).cr e.bP
def Xa{s:aZ}(h:b7 s){k:Nat}(hk:k<4){e:bl}(he:fE s k e):DG s e=some (jj s k e):=by
 obtain⟨t1,⟨t2,t3⟩,t4,_⟩:=h.fF hk;have hm:=he.len;refine ba.get ?_;unfold DG jj;refine .eq (XA h hk he.fF) ?_;simp only;refine(agz (g:=λkey=>key.dQ==2) (λx au=>rfl) (by omega)).bind λr aG=>.eq I ?_;rcases aG with⟨rfl,aG⟩|⟨i,h1,rfl,az,aV⟩
 ·refine .cond (λ_=>.ret ?_) (λh=>by simp at h);rw[RR λkey k6=>by simpa using aG key k6]
 have bU:(!true||decide ((i:Int)<0)||decide ((i:Int)>=(e.bP.length:Int)))=false:=by simp;omega
 rw[bU,cond_false];refine .idx I (by omega) (.ret ?_);rw[MF hm h1 (by simpa using az) λj aB=>by simpa using aV j aB]
def Xb{s:aZ}(h:b7 s){k:Nat}(hk:k<4){e:bl}(he:fE s k e):DH s e=some (jj s k e):=by
 obtain⟨t1,⟨t2,t3⟩,t4,_⟩:=h.fF hk;have hm:=he.len;refine ba.get ?_;unfold DH jj;rw[he.fF];refine(PW h hk).bind λr aG=>?_;subst aG;rw[show decide ((k:Int)<0)=false from sT (by omega),cond_false];refine .idx I (by have:=h.lP;omega) ?_;refine ba.loop (ax s.bL k).cr.length (λi st=>st=(i:Int)∧∀j,j<i->(ax (ax s.bL k).cr j).dQ≠2) (by omega) ⟨rfl,λj aB=>by omega⟩ (λi st aq hs=>?_) (λst hs=>?_)
 ·obtain⟨rfl,hs⟩:=hs;refine .cond (λ_=>?_) (λh=>by simp at h;omega);refine .idx I aq (.eq I (.cond (λae=>?_) λae=>.ret ⟨dA (by omega),λj aB=>?_⟩))
  ·simp only[gl,nm]at ae;refine .idx I (by omega) (.ret ?_);simp only[Sum.elim_inr];exact .ret (MF hm aq ae.1 hs).symm
  by_cases jK:j=i
  ·subst jK;have hd:decide ((j:Int)<(e.bP.length:Int))=true:=by simp;omega
   rw[hd,Ab]at ae;simpa using ae
  exact hs j (by omega)
 obtain⟨rfl,hs⟩:=hs;rw[show decide (((ax s.bL k).cr.length:Int)<((ax s.bL k).cr.length:Int))=false by simp];refine⟨_,rfl,?_⟩;simp only[Sum.elim_inl];refine .ret (RR λkey k6=>?_).symm;obtain⟨j,aB,rfl⟩:=xN.1 k6;rw[<-dh _ aB];exact hs j aB
def eR(s:aZ)(k:Nat)(a c:aH):Bool:=
 decide (c.aX.gG<a.aX.gG∨(a.aX.gG=c.aX.gG∧(jj s k c.aX<jj s k a.aX∨(jj s k a.aX=jj s k c.aX∧c.b0<a.b0))))
def ur(s:aZ)(k:Nat):uY (eR s k)where
 asymm x y h:=by
  unfold eR at *;rw[e5]at h;rw[nQ];omega
 trans x y z h cW:=by
  unfold eR at *;rw[e5]at *;omega
def ama{s:aZ}{k:Nat}{a c:aH}(h:a.b0≠c.b0):B5 (eR s k) a c:=by
 unfold B5 eR;rw[e5,e5];omega
def eP(x y:Int):Int:=if x<y then -1 else if y<x then 1 else 0
def wS(x y:Int):rh x y=some (eP x y):=by
 unfold rh Ha eP;have:∀z:Int,(z !=z)=false:=λz=>by simp
 rw[this,this];simp only[Option.bind_some,cond_false];by_cases h1:x<y
 ·simp[h1]
 by_cases ad:y<x
 ·simp[h1,ad]
 simp[h1,ad]
def ajH(a c d:Int):wA [a,c,d]=some (if a≠0 then a else if c≠0 then c else d):=by
 refine ba.get ?_;unfold wA;refine ba.loop 3 (λi st=>st=(i:Int)∧∀j,j<i->ax [a,c,d] j=0) (by omega) ⟨rfl,λj aB=>by omega⟩ (λi st aq hs=>?_) (λst hs=>?_)
 ·obtain⟨rfl,hs⟩:=hs;refine .cond (λ_=>?_) (λh=>by simp at h;omega);refine .idx I (by simpa using aq) (.cond (λae=>.ret ?_) λae=>.ret ⟨dA (by omega),λj aB=>?_⟩)
  ·simp only[Sum.elim_inr];refine .ret ?_;have bC:=hs 0;have h1:=hs 1;rcases (show i=0∨i=1∨i=2 by omega)with rfl|rfl|rfl
   ·have:a≠0:=by simpa[ax]using ae
    rw[bh this];rfl
   ·have:c≠0:=by simpa[ax]using ae
    have Uj:a=0:=by simpa[ax]using bC (by omega)
    rw[bf (by simpa using Uj),bh this];rfl
   have Uj:a=0:=by simpa[ax]using bC (by omega)
   have atg:c=0:=by simpa[ax]using h1 (by omega)
   rw[bf (by simpa using Uj),bf (by simpa using atg)];rfl
  by_cases jK:j=i
  ·subst jK;simpa using ae
  exact hs j (by omega)
 obtain⟨rfl,hs⟩:=hs;refine⟨_,rfl,?_⟩;simp only[Sum.elim_inl];refine .ret ?_;have bC:a=0:=by simpa[ax]using hs 0 (by omega)
 have h1:c=0:=by simpa[ax]using hs 1 (by omega)
 have ad:d=0:=by simpa[ax]using hs 2 (by omega)
 simp[bC,h1,ad]
def XB{s:aZ}(h:b7 s){k:Nat}(hk:k<4){a c:aH}(aY:fE s k a.aX)(ae:fE s k c.aX):DL s a c=some (eR s k a c):=by
 unfold DL eR;rw[wS,Option.bind_some,Xa h hk aY,Option.bind_some,Xa h hk ae,Option.bind_some,wS,Option.bind_some,wS,Option.bind_some,ajH,Option.bind_some];congr 1;rw[ra];unfold eP;split <;> split <;> (repeat' split) <;> omega
def aiI{s:aZ}(h:b7 s){k:Nat}(hk:k<4){a c:aH}(aY:fE s k a.aX)(ae:fE s k c.aX):Hq s a c=some (eR s k a c):=by
 refine ba.get ?_;unfold Hq eR;refine .cond (λh1=>.ret ?_) λh1=>.eq (Xb h hk aY) (.eq (Xb h hk ae) (.cond (λad=>.ret ?_) λad=>.ret ?_))
 ·rw[ra];simp at h1;omega
 ·rw[ra];simp at h1 ad;omega
 rw[ra];simp at h1 ad;omega
def aeR{xs:aa aH}{f:aH->aD Bool}{g:aH->Bool}(aW:∀x∈xs,f x=some (g x))(al:xs.length<2^62):
 ba (zE xs f) (λr=>(r= -1∧∀x∈xs,g x=false)∨∃i:Nat,i<xs.length∧r=i∧g (ax xs i)=true∧∀j,j<i->g (ax xs j)=false):=by
 unfold zE
 refine ba.loop xs.length (λk s=>s=(k:Int)∧∀j,j<k->g (ax xs j)=false) (by omega) ⟨rfl,λj aB=>by omega⟩ (λk s hk aq=>?_) (λs aq=>?_)
 ·obtain⟨ar,aS⟩:=aq;subst ar
  refine ba.cond (λ_=>?_) (λh=>by simp at h;omega)
  refine .idx I hk (.eq (aW _ (by rw[dh xs hk];exact j0 hk)) (.cond (λh=>.ret ?_) (λh=>.ret ⟨dA (by omega),λj aB=>?_⟩)))
  ·exact .ret (.inr ⟨k,hk,rfl,h,aS⟩)
  by_cases uW:j=k
  ·subst uW;exact h
  exact aS j (by omega)
 obtain⟨ar,aS⟩:=aq;subst ar
 refine⟨_,by simp;rfl,?_⟩
 refine .ret (.inl ⟨rfl,λx au=>?_⟩)
 obtain⟨j,aB,rfl⟩:=xN.1 au
 rw[<-dh xs aB];exact aS j aB
structure kq(s:aZ)(k:Nat)(i:aH):Prop where
 dp:fE s k i.aX
def ak7{i:aH}(h1:i.aX.bP.length<=1000)(ad:i.aX.fN.length<=1000):rj i=some i:=by
 unfold rj LC KE KF;rw[gq _ _ (by simp;omega) (by omega),gq _ _ (by simp;omega) (by omega)];rfl
def Eg{s:aZ}(h:b7 s){k:Nat}(hk:k<4){i:aH}(aq:kq s k i):rj i=some i:=by
 have h1:=aq.dp.len;have ad:=aq.dp.args;have az:=(h.fF hk).2.1.2;exact ak7 (by omega) (by omega)
def j7(l:aa aH)(n:Int):Bool:=l.any λc=>c.b0==n
def abi(x:eh)(n:Int)(al:x.cz.length<=1000):ba ((zE x.cz (λa0=>zR a0 n)).bind λao=>some ao) (λr=>(r= -1∧j7 x.cz n=false)∨∃i:Nat,i<x.cz.length∧r=i∧(ax x.cz i).b0=n∧j7 x.cz n=true∧∀j,j<i->(ax x.cz j).b0≠n):=by
 refine(aeR (g:=λc=>c.b0==n) (λc ae=>rfl) (by omega)).bind λr aG=>.ret ?_;rcases aG with⟨h1,ad⟩|⟨i,h1,ad,az,aV⟩
 ·exact .inl ⟨h1,by unfold j7;rw[wk];exact λc ae=>by simp[ad c ae]⟩
 refine .inr ⟨i,h1,ad,by simpa using az,?_,λj aB=>by simpa using aV j aB⟩;unfold j7;rw[ot];exact⟨ax x.cz i,by rw[dh _ h1];exact j0 _,az⟩
def ajI{s:aZ}(h:b7 s){k:Nat}(hk:k<4){x:eh}(au:x.mj=s){a c:aH}(aY:kq s k a)(ae:kq s k c):
 ba (CM x a c) (λr=>r<0↔eR s k a c=true):=by
 unfold CM
 rw[au]
 refine .eq (XB h hk aY.dp ae.dp) (.cond (λhb=>.ret ⟨λ_=>hb,λ_=>by omega⟩) λhb=>.eq (XB h hk ae.dp aY.dp) (.cond (λ_=>.ret ?_) λ_=>.ret ?_))
 ·rw[hb];simp
 rw[hb];simp
def amb{i j:Nat}(h:i+j<2^62):bm ((BitVec.ofInt 64 (bm ((i:Int)+(j:Int)))) >>> (1#64).toNat).toNat=(((i+j)/2:Nat):Int):=by
 rw[show(i:Int)+(j:Int)=((i+j:Nat):Int) by omega,gN (x:=((i+j:Nat):Int)) (by omega) (by omega)];have:((BitVec.ofInt 64 ((i+j:Nat):Int)) >>> (1#64).toNat).toNat=(i+j)/2:=by
  rw[Ku,s8 (by omega)];rw[show(1#64).toNat=1 from rfl,Ks,Nat.pow_one]
 rw[this,gN (by omega) (by omega)]
def aiJ{l:aa aH}{x:aH}{b:aH->aH->Bool}(hb:uY b)(hs:l.Pairwise (λx y=>b x y=true))(al:l.length<=1000)
 {f:aH->aH->aD Int} (aW:∀a∈l,ba (f a x) (λr=>r<0↔b a x=true)):
 ba (Fy l x f) (λr=>r.1=(l5 b l x:Int)):=by
 unfold Fy
 have eX:=RP (b:=b) (l:=l) (x:=x)
 have yN:∀h,h<l.length->ax l h∈l:=λh bW=>by rw[dh _ bW];exact j0 _
 have oK:∀q:Bool,ba ((bV (decide (((l5 b l x:Nat):Int)<(l.length:Int))) true (idx l.length ((l5 b l x:Nat):Int))).bind λbu=>
  (bV (decide (((l5 b l x:Nat):Int)<(l.length:Int))) true (f (ax l bu) x)).bind λaE=>some (((l5 b l x:Nat):Int),(decide (((l5 b l x:Nat):Int)<(l.length:Int)))&&(aE==0))) (λr=>r.1=(l5 b l x:Int)):=λ_=>by
  refine .bV (P:=λc=>c=l5 b l x) (λh=>⟨_,kk (by simpa using h),rfl⟩) λbu ad=>.bV (P:=λ_=>True) (λh=>?_) λaE _=>.ret I
  rw[ad h]
  exact(aW _ (yN _ (by simpa using h))).mono λ_ _=>trivial
 refine ba.loop l.length (λr st=> ∃i j:Nat,st=((i:Int),(j:Int))∧i<=l5 b l x∧l5 b l x<=j∧j<=l.length∧j-i<=l.length-r) (by omega) ⟨0,l.length,rfl,by omega,by omega,by omega,by omega⟩ (λr st aG b1=>?_) (λst b1=>?_)
 ·obtain⟨i,j,rfl,h1,ad,az,aV⟩:=b1
  refine .cond (λae=>?_) λae=>.ret ?_
  ·have gf:i<j:=by simpa using ae
   rw[amb (by omega)]
   have hm:(i+j)/2<l.length:=by omega
   refine .idx I hm ((aW _ (yN _ hm)).bind λao br=>?_)
   have ca:=RQ hb (x:=x) hs hm
   refine .bind (P:=λm=> ∃i j:Nat,m=((i:Int),(j:Int))∧i<=l5 b l x∧l5 b l x<=j∧j<=l.length∧j-i<=l.length-(r+1)) (.cond (λaT=>.eq I (.ret ?_)) λaT=>.ret ?_) λm hm=>.ret ?_
   ·have:=ca.1 (br.1 (by simpa using aT))
    refine⟨(i+j)/2+1,j,?_,by omega,ad,az,by omega⟩
    simp only[dA (show(i+j)/2<2^62 by omega)]
   ·have: ¬(i+j)/2<l5 b l x:=λbW=>by
     have:=br.2 (ca.2 bW);simp at aT;omega
    exact⟨i,(i+j)/2,rfl,h1,by omega,by omega,by omega⟩
   obtain⟨sL,pE,rfl,bc⟩:=hm
   exact⟨sL,pE,rfl,bc⟩
  have gf: ¬i<j:=by simpa using ae
  have:i=l5 b l x:=by omega
  subst this
  exact oK true
 obtain⟨i,j,rfl,h1,ad,az,aV⟩:=b1
 have gf:i=l5 b l x:=by omega
 have ae:decide ((i:Int)<(j:Int))=false:=by simp;omega
 simp only[ae,cond_false]
 refine⟨_,rfl,?_⟩
 subst gf
 exact oK true
structure kr(s:aZ)(k:Nat)(l:List aH):Prop where
 ok:∀i∈l,kq s k i
 num:l.Pairwise λa c=>a.b0≠c.b0
 len:l.length<=900
def kr.zk{s:aZ}{k:Nat}{l:aa aH}(h:kr s k l):xd (eR s k) l:=h.num.imp λbW=>ama bW
def kr.eY{s:aZ}{k:Nat}{l:aa aH}(h:kr s k l):(∀i∈eY (eR s k) l,kq s k i)∧(eY (eR s k) l).length<=900:=
 ⟨λi aq=>h.ok i (ry.1 aq),by rw[al9];exact h.len⟩
def Mi{s:aZ}{k:Nat}{l:aa aH}{n:Int}:j7 (eY (eR s k) l) n=j7 l n:=by
 unfold j7;rw[kP,ot,ot];exact⟨λ⟨c,h1,ad⟩=>⟨c,ry.1 h1,ad⟩,λ⟨c,h1,ad⟩=>⟨c,ry.2 h1,ad⟩⟩
def Y6{l:aa aH}{n:Int}(h:j7 l n=false):∀c∈l,c.b0≠n:=λc ae=>by
 unfold j7 at h;rw[wk]at h;simpa using h c ae
def kr.snoc{s:aZ}{k:Nat}{l:aa aH}(h:kr s k l){i:aH}(aq:kq s k i)(aM:j7 l i.b0=false)(al:l.length<900):kr s k (l++[i])where
 ok c ae:=by
  rcases cF.1 ae with ae|ae
  ·exact h.ok c ae
  rw[hx.1 ae];exact aq
 num:=by
  rw[wi];exact⟨h.num,by simp,λa aY c ae=>by rw[hx.1 ae];exact Y6 aM a aY⟩
 len:=by simp;omega
def rD(s:aZ)(k:Nat)(l:aa aH):eh:= {mj:=s,cz:=eY (eR s k) l}
def amc{s:aZ}(h:b7 s){k:Nat}(hk:k<4){l:aa aH}(al:kr s k l){i:aH}(aq:kq s k i)(hlen:l.length<900):
 Ge (rD s k l) i=some (!j7 l i.b0,if j7 l i.b0=true then rD s k l else rD s k (l++[i])):=by
 refine ba.get ?_
 unfold Ge
 obtain⟨ky,hf⟩:=al.eY
 refine .bV (λ_=>abi (rD s k l) _ (by show(eY _ l).length<=1000;omega)) λao h1=>?_
 have h1:=h1 I
 rw[r9]
 rcases h1 with⟨rfl,ad⟩|⟨j,ad,rfl,az,aV,bc⟩
 ·have l3:j7 l i.b0=false:=by rw[<-ad];exact Mi.symm
  refine .cond (λae=>by simp at ae) λ_=>?_
  refine(aiJ (b:=eR s k) (ur s k) (HL (ur s k) al.zk) (by omega) λa aY=>ajI h hk I (ky a aY) aq).bind λaE bZ=>.eq (Eg h hk aq) ?_
  rw[bZ]
  unfold Kq
  have eX:=RP (b:=eR s k) (l:=eY (eR s k) l) (x:=i)
  refine .eq (a:=eY (eR s k) (l++[i])) ?_ (.ret ?_)
  ·show IS 88 (eY (eR s k) l) _ _=_
   unfold IS
   have uL:maxLen=9223372036854775807:=rfl
   rw[bh ⟨by omega,by omega,by simp,by simp <;> omega,by simp <;> omega⟩,H6,ZI]
   simp
  rw[l3];rfl
 have Fg:j7 l i.b0=true:=by rw[<-aV];exact Mi.symm
 refine .cond (λ_=>.ret ?_) λae=>by simp at ae <;> omega
 rw[Fg];rfl
def aiK{s:aZ}(h:b7 s){k:Nat}(hk:k<4){l:aa aH}(al:kr s k l)(p:Vector aN 4):
 CB (rD s k l) p=some (match (eY (eR s k) l).find? (λc=>mt s k p c.aX)with |some c=>(c,true)|none=>(default,false)):=by
 refine ba.get ?_
 obtain⟨ky,hf⟩:=al.eY
 unfold CB
 refine .eq (a:=p) I ?_
 unfold Fz
 have Jy:∀i (aq:i<(eY (eR s k) l).length),Dz s (ax (eY (eR s k) l) i).aX p=some (mt s k p (ax (eY (eR s k) l) i).aX)∧rj (ax (eY (eR s k) l) i)=some (ax (eY (eR s k) l) i):=λi aq=>by
  have hm:=ky (ax (eY (eR s k) l) i) (by rw[dh _ aq];exact j0 _);exact⟨ahk h hk hm.dp p,Eg h hk hm⟩
 show ba ((Option.bind (Option.bind (c8 c3 _ _) _) _)) _
 rw[Option.bind_assoc]
 refine ba.loop (eY (eR s k) l).length (λi st=>st=((i:Int),())∧∀j,j<i->mt s k p (ax (eY (eR s k) l) j).aX=false) (by omega) ⟨rfl,λj aB=>by omega⟩ (λi st aq hs=>?_) (λst hs=>?_)
 ·obtain⟨rfl,hs⟩:=hs
  obtain⟨g1,g2⟩:=Jy i aq
  refine .cond (λ_=>?_) (λae=>by simp[rD]at ae;omega)
  refine .idx I aq (.eq g1 (.cond (λhm=>.eq (a:=(Sum.inr (true,ax (eY (eR s k) l) i):Unit⊕(Bool×aH))) (by show Option.bind (rj (ax (eY (eR s k) l) i)) _=_;rw[g2];rfl) (.ret ?_)) λhm=>.ret ⟨?_,λj aB=>?_⟩))
  ·refine .ret ?_
   rw[QU (xs:=eY (eR s k) l) (p:=λc=>mt s k p c.aX) aq hm hs]
  ·rw[dA (by omega)]
  by_cases jK:j=i
  ·subst jK;exact hm
  exact hs j (by omega)
 obtain⟨rfl,hs⟩:=hs
 have ae:decide (((eY (eR s k) l).length:Int)<((rD s k l).cz.length:Int))=false:=by simp[rD]
 simp only[ae,cond_false]
 refine⟨_,rfl,.ret ?_⟩
 rw[QV λc ae=>?_]
 obtain⟨j,aB,rfl⟩:=xN.1 ae
 rw[<-dh _ aB];exact hs j aB
def ahW{s:aZ}(h:b7 s){k:Nat}(hk:k<4){l:aa aH}(al:∀i∈l,kq s k i)(aM:l.length<=1000):DN l=some l:=by
 refine ba.get ?_;unfold DN;refine ba.loop l.length (λi st=>st=((i:Int),l.take i)) (by omega) I (λi st aq hs=>?_) (λst hs=>?_)
 ·subst hs;refine .cond (λ_=>?_) (λae=>by simp at ae;omega);refine .idx I aq (.eq (Eg h hk (al _ (by rw[dh _ aq];exact j0 _))) (.eq (gq _ _ (by simp;omega) (by omega)) (.ret ?_)));rw[dA (by omega),mM l aq]
 subst hs;refine⟨_,by simp;rfl,.ret ?_⟩;simp
def amd{s:aZ}(h:b7 s){k:Nat}(hk:k<4){l:aa aH}(al:kr s k l):Gd (rD s k l)=some (eY (eR s k) l):=by
 unfold Gd;obtain⟨ky,hf⟩:=al.eY;show Option.bind (DN (eY (eR s k) l)) _=_;rw[ahW h hk ky (by omega)];rfl
def LU(v:aN):rk v v=some 0:=by
 obtain⟨r,h1,ad,az⟩:=LF v v;rw[AB]at ad az;have:r=0:=by
  have bX: ¬r>0:=λh=>by simpa using ad.1 h
  have a2: ¬r<0:=λh=>by simpa using az.1 h
  omega
 rw[h1,this]
def ahm(m:cG):Ao m m=some 0:=by
 unfold Ao;rw[LU,LU,LU];simp
def HM(n:Int):sa n n=some 0:=by
 unfold sa;simp
def agV(l:aa cG)(al:l.length<=1000):x4 l l=some 0:=by
 refine ba.get ?_;unfold x4;refine ba.loop l.length (λi st=>st=(i:Int)) (by omega) I (λi st aq hs=>?_) (λst hs=>?_)
 ·subst hs;refine .cond (λ_=>?_) (λae=>by simp at ae;omega);exact .idx I aq (.idx I aq (.eq (ahm _) (.cond (λae=>by simp at ae) λ_=>.ret (dA (by omega)))))
 subst hs;refine⟨_,by simp;rfl,?_⟩;simp only[Sum.elim_inl];exact .eq (HM _) (.ret I)
def ag4(l:aa aN)(al:l.length<=1000):Al l l=some 0:=by
 refine ba.get ?_;unfold Al;refine ba.loop l.length (λi st=>st=(i:Int)) (by omega) I (λi st aq hs=>?_) (λst hs=>?_)
 ·subst hs;refine .cond (λ_=>?_) (λae=>by simp at ae;omega);exact .idx I aq (.idx I aq (.eq (LU _) (.cond (λae=>by simp at ae) λ_=>.ret (dA (by omega)))))
 subst hs;refine⟨_,by simp;rfl,?_⟩;simp only[Sum.elim_inl];exact .eq (HM _) (.ret I)
def aiL{e:bl}(h1:e.bP.length<=1000)(ad:e.fN.length<=1000):wx e e=some 0:=by
 unfold wx;rw[HM,Option.bind_some,HM,Option.bind_some,agV _ h1,Option.bind_some,HM,Option.bind_some];refine ba.get ?_;refine ba.loop 4 (λi st=>st=(i:Int)) (by omega) I (λi st aq hs=>?_) (λst hs=>?_)
 ·subst hs;refine .cond (λ_=>?_) (λae=>by simp at ae;omega);have bC:ax [(0:Int),0,0,0] i=0:=by
   rcases (show i=0∨i=1∨i=2∨i=3 by omega)with rfl|rfl|rfl|rfl <;> rfl
  refine .idx I (by simpa using aq) (.cond (λae=>by rw[bC]at ae;simp at ae) λ_=>.ret (dA (by omega)))
 subst hs;refine⟨_,rfl,?_⟩;simp only[Sum.elim_inl];exact .eq (ag4 _ ad) (.ret I)
def Qd{i:aH}(h1:i.aX.bP.length<=1000)(ad:i.aX.fN.length<=1000):ud i i=some true:=by
 unfold ud Lv;rw[aiL h1 ad];simp
def kq.small{s:aZ}(h:b7 s){k:Nat}(hk:k<4){i:aH}(aq:kq s k i):i.aX.bP.length<=1000∧i.aX.fN.length<=1000:=by
 have h1:=aq.dp.len;have ad:=aq.dp.args;have az:=(h.fF hk).2.1.2;exact⟨by omega,by omega⟩
def Ly{l:aa aH}(al:∀i∈l,i.aX.bP.length<=1000∧i.aX.fN.length<=1000)(aM:l.length<=1000):wy l l=some true:=by
 refine ba.get ?_;unfold wy;refine .cond (λae=>by simp at ae) λ_=>?_;refine ba.loop l.length (λi st=>st=(i:Int)) (by omega) I (λi st aq hs=>?_) (λst hs=>?_)
 ·subst hs;refine .cond (λ_=>?_) (λae=>by simp at ae;omega);have:=al (ax l i) (by rw[dh _ aq];exact j0 _);exact .idx I aq (.idx I aq (.eq (Qd this.1 this.2) (.cond (λae=>by simp at ae) λ_=>.ret (dA (by omega)))))
 subst hs;refine⟨_,by simp;rfl,?_⟩;simp only[Sum.elim_inl];exact .ret I
def jh(o:aD aH):aH×Bool:=match o with |some c=>(c,true)|none=>(default,false)
def ak8{s:aZ}(h:b7 s){k:Nat}(hk:k<4){l:aa aH}(al:kr s k l)(p:Vector aN 4):
 DO s l p=some (jh ((eY (eR s k) l).find? (λc=>mt s k p c.aX))):=by
 refine ba.get ?_
 unfold DO
 have hlen:=al.len
 refine ba.loop l.length (λi st=>st=((jh ((eY (eR s k) (l.take i)).find? (λc=>mt s k p c.aX))).2,(i:Int),(jh ((eY (eR s k) (l.take i)).find? (λc=>mt s k p c.aX))).1)) (by omega) I (λi st aq hs=>?_) (λst hs=>?_)
 ·subst hs
  refine .cond (λ_=>?_) (λae=>by simp at ae;omega)
  have au:kq s k (ax l i):=al.ok _ (by rw[dh _ aq];exact j0 _)
  refine .idx I aq (.eq (ahl h hk au.dp p) ?_)
  have NJ:xd (eR s k) (l.take (i+1)):=al.zk.sublist (List.take_sublist _ _)
  rw[mM l aq]at NJ
  obtain⟨dv,eW⟩:=NJ.snoc
  have aW:=X9 (ur s k) (p:=λc=>mt s k p c.aX) (x:=ax l i) (HL (ur s k) dv) λa aY=>eW a (ry.1 aY)
  rw[<-H6,<-mM l aq]at aW
  have yN:∀c,(eY (eR s k) (l.take i)).find? (λc=>mt s k p c.aX)=some c->kq s k c:=λc ae=>al.ok c (List.mem_of_mem_take (ry.1 (Cu ae)))
  rw[aW]
  cases hm:mt s k p (ax l i).aX
  ·refine .bV (P:=λ_=>True) (λae=>by simp at ae) λaE _=>?_
   refine .eq I (.ret ?_)
   simp only[dA (show i<2^62 by omega)]
   simp
  cases ath:(eY (eR s k) (l.take i)).find? (λc=>mt s k p c.aX)with
  | none=>
    refine .bV (P:=λ_=>True) (λae=>by simp[jh]at ae) λaE _=>?_
    refine .eq (a:=(true,ax l i)) (by simp[jh]) (.ret ?_)
    simp only[dA (show i<2^62 by omega)]
    simp[jh]
  | some c=>
    refine .bV (P:=λr=>r=eR s k (ax l i) c) (λae=>⟨_,aiI h hk au.dp (yN c ath).dp,rfl⟩) λaE ad=>?_
    rw[ad (by simp[jh])]
    cases adK:eR s k (ax l i) c
    ·refine .eq (a:=(true,c)) (by simp[jh]) (.ret ?_)
     simp only[dA (show i<2^62 by omega)]
     simp[jh,adK]
    refine .eq (a:=(true,ax l i)) (by simp[jh]) (.ret ?_)
    simp only[dA (show i<2^62 by omega)]
    simp[jh,adK]
 subst hs
 refine⟨_,by simp;rfl,.ret ?_⟩
 simp
def ahX{s:aZ}(h:b7 s){k:Nat}(hk:k<4){l:aa aH}(al:kr s k l)(p:Vector aN 4):
 CB (rD s k l) p=some (jh ((eY (eR s k) l).find? (λc=>mt s k p c.aX))):=by
 rw[aiK h hk al];unfold jh;cases List.find? (λc=>mt s k p c.aX) (eY (eR s k) l) <;> rfl
def aiM{s:aZ}(h:b7 s){k:Nat}(hk:k<4){l:aa aH}(al:∀i∈l,kq s k i)(q:aH->Bool):
 (jh (l.find? q)).1.aX.bP.length<=1000∧(jh (l.find? q)).1.aX.fN.length<=1000:=by
 cases aW:l.find? q with
 |none=>exact⟨vn _,vn _⟩
 |some c=>exact(al c (Cu aW)).small h hk
def Yb(c:dx):ba (Gu c) (λ_=>True):=by
 unfold Gu;first|exact .ret lL|exact .eq I (.ret lL)
structure kS(hp:aL Cell)(t:Nat)(g:List Bool->Option Int):Prop where
 ok:∃c,gD hp t=some c∧c.hA=32∧rv hp c.eQ∧∀bd,cont hp c.eQ bd=g bd
def Own(hp:aL Cell)(t q:Nat):Prop:=q=t∨∃c bd,gD hp t=some c∧c4 hp c.eQ bd=some q
def dT(v:aN)(n:Nat):aa Bool:=(List.range n).map λi=>ct v (31-i)
def HH(v:aN)(n:Nat):dT v (n+1)=dT v n++[ct v (31-n)]:=by simp[dT,Gs]
def HI(v:aN):dT v 0=[]:=rfl
def XC{hp:aL Cell}{t:Nat}{c:hY}(ae:gD hp t=some c)(hb:c.hA=32){n:Nat}(aM:n<=32){v:aN}(bb:∀j,j<128->ct v j=true->lead 32 n j=true):
 Df hp (some t) v n=some true:=by
 refine ba.get ?_
 unfold Df
 have ar:(Option.isSome (some t)&&decide ((n:Int)>=0))=true:=by simp
 have aS:decide ((n:Int)<=c.hA)=true:=by rw[hb];simp;omega
 refine .bV (P:=λr=>r=t) (λ_=>⟨t,rfl,rfl⟩) λbA h1=>?_
 rw[h1 ar]
 refine .bV (P:=λr=>r=c) (λ_=>⟨c,ae,rfl⟩) λc1 ad=>?_
 rw[ad ar]
 rw[ar,aS]
 refine .bV (P:=λr=>r=t) (λ_=>⟨t,rfl,rfl⟩) λcC az=>?_
 rw[az I]
 refine .bV (P:=λr=>r=c) (λ_=>⟨c,ae,rfl⟩) λc2 aV=>?_
 rw[aV I,hb]
 refine .bV (λ_=>W6 32 n (by decide) (by decide)) λao bc=>?_
 refine .bV (P:=λr=>r=xb v ao) (λ_=>⟨_,and_eq v ao,rfl⟩) λaE bq=>?_
 refine .eq I (.ret ?_)
 have:aE=v:=by
  rw[bq I];refine Im λj aB=>?_;rw[D4,bc I j aB];cases e:ct v j with
  |false=>rfl
  |true=>rw[bb j aB e];rfl
 rw[this];simp
def ZL{v:aN}{i:Nat}(aq:i<32):ba (Av v (bm ((bm ((32:Int)-1))-(i:Int)))) (λr=>r=ct v (31-i)):=by
 have e:bm ((bm ((32:Int)-1))-(i:Int))=((31-i:Nat):Int):=by
  rw[show bm ((32:Int)-1)=31 from by rw[gN (by decide) (by decide)];rfl,gN (by omega) (by omega)];omega
 rw[e];refine(al8 v _).mono λr aG=>?_;rw[aG];have:decide (0<=((31-i:Nat):Int)∧((31-i:Nat):Int)<128)=true:=by rw[e5];omega
 rw[this,qo];rfl
def ZM(b:Bool):(cond b (some (1:Int)) (some 0))=some ((gb b:Nat):Int):=by cases b <;> rfl
def SG{σ ε:Type}{hp:aL Cell}{t:Nat}{c:hY}(ae:gD hp t=some c)(hb:c.hA=32)(v:aN){n:Nat}(aM:n<=32){step:Int->σ->aD (σ⊕ε)}{b9:σ}{P:σ⊕ε->Prop}(gh:Nat->σ->Prop)(bC:gh 0 b9)
 (hs:∀i s,i<n->gh i s->ba (step ((gb (ct v (31-i)):Nat):Int) s) (λr=>match r with | .inl cq=>gh (i+1) cq| .inr e=>P (.inr e))) (he:∀s,gh n s->P (.inl s)):ba (tY hp n v (some t) step b9) P:=by
 unfold tY
 refine ba.loop n (λi s=>s.1=(i:Int)∧gh i s.2) (by omega) ⟨rfl,bC⟩ (λi s aq jx=>?_) (λs jx=>?_)
 ·obtain⟨j,s⟩:=s;obtain⟨ar,aS⟩:=jx
  simp only at ar aS;subst ar
  refine ba.cond (λ_=>?_) (λh=>by simp at h;omega)
  refine .eq I (.eq ae ?_)
  rw[hb]
  refine(ZL (by omega)).bind λao h1=>.eq (ZM ao) ?_
  rw[h1]
  refine(hs i s aq aS).bind λr aG=>?_
  cases r with
  |inl cq=>exact .ret ⟨dA (by omega),aG⟩
  |inr e=>exact .ret (.ret aG)
 obtain⟨j,s⟩:=s;obtain⟨ar,aS⟩:=jx
 simp only at ar aS;subst ar
 refine⟨_,by simp;rfl,?_⟩
 exact .ret (he s aS)
def aoJ{σ ε:Type}{t:Nat}(v:aN){n:Nat}(aM:n<=32){hq:σ->aL Cell}{step:Int->σ->aj (σ⊕ε)}{b9:σ}{P:σ⊕ε->Prop}(gh:Nat->σ->Prop)(bC:gh 0 b9)(ni:∀i s,gh i s->∃c,gD (hq s) t=some c∧c.hA=32)
 (hs:∀i s,i<n->gh i s->cO (step ((gb (ct v (31-i)):Nat):Int) s) (λr=>match r with | .inl cq=>gh (i+1) cq| .inr e=>P (.inr e))) (he:∀s,gh n s->P (.inl s)):cO (z1 n v (some t) hq step b9) P:=by
 unfold z1
 refine .bind (P:=λe=>match e with | .inl e=>P (.inl e.2.2)| .inr e=>P (.inr e.2.2.2.2.2.2)) (cO.loop n (λi s=>s.1=(i:Int)∧gh i s.2) (by omega) ⟨rfl,bC⟩ (λi s aq jx=>?_) (λs jx=>?_)) λe h=>?_
 ·obtain⟨j,s⟩:=s;obtain⟨ar,aS⟩:=jx
  simp only at ar aS;subst ar
  refine cO.cond (λ_=>?_) (λh=>by simp at h;omega)
  obtain⟨c,ae,hb⟩:=ni i s aS
  refine .eq I (.eq ae ?_)
  rw[hb]
  refine .hc (ZL (by omega)) λao h1=>.eq (ZM ao) ?_
  rw[h1]
  refine .bind (hs i s aq aS) λr aG=>?_
  cases r with
  |inl cq=>exact .ret ⟨dA (by omega),aG⟩
  |inr e=>exact .ret aG
 ·obtain⟨j,s⟩:=s;obtain⟨ar,aS⟩:=jx
  simp only at ar aS;subst ar
  refine cO.cond (λh=>by simp at h) λ_=>.ret (he s aS)
 cases e with
 |inl e=>exact .ret h
 |inr e=>exact .ret h
def Yc{hp:aL Cell}{t:Nat}{c:hY}(ae:gD hp t=some c)(hb:c.hA=32)(bD:rv hp c.eQ){n:Nat}(aM:n<=32){v:aN}(bb:∀j,j<128->ct v j=true->lead 32 n j=true):
 Dr hp (some t) v n=some (c4 hp c.eQ (dT v n)):=by
 refine ba.get ?_
 unfold Dr
 refine .eq (XC ae hb aM bb) (.cond (λh=>by cases h) λ_=>.eq rfl (.eq ae (.eq rfl ?_)))
 show ba (Option.bind (tY hp (n:Int) v (some t) _ _) _) _
 refine ba.bind (P:=λe:Ref⊕(Ref×Ref)=>e.elim (λs=>s=c4 hp c.eQ (dT v n)) (λq=>q.2=c4 hp c.eQ (dT v n))) (SG ae hb v aM (λi s=>s=c4 hp c.eQ (dT v i)) o9.symm (λi s aq hs=>?_) (λs hs=>hs)) λe he=>?_
 ·refine .cond (λh=>.ret ?_) λh=>?_
  ·rw[Kt]at h
   have ar:dT v n=dT v i++(dT v n).drop i:=by
    have:dT v i=(dT v n).take i:=by unfold dT;rw[<-Pl,Pc];congr 2;omega
    rw[this,gz]
   show(none:Ref)=_
   rw[ar,oA,<-hs,h,hZ]
  cases s with
  |none=>simp at h
  | some p=>
    obtain⟨c1,h1⟩:=bD.reads _ _ hs.symm
    refine .eq I (.idx I (by cases ct v (31-i) <;> decide) (.eq h1 (.ret ?_)))
    show bG c1.dF _=_
    rw[HH,oA,<-hs,ja h1,o9]
 cases e with
 |inl s=>exact .ret he
 |inr q=>exact .ret he
def ZN{hp:aL Cell}{t:Nat}{g:aa Bool->aD Int}(h:kS hp t g){n:Nat}(aM:n<=32){v:aN}(bb:∀j,j<128->ct v j=true->lead 32 n j=true):
 Ak hp (some t) v n=some (match g (dT v n)with |none=>(0,false)|some id=>(id,true)):=by
 obtain⟨c,ae,hb,bD,bz⟩:=h.ok
 refine ba.get ?_
 unfold Ak
 refine .eq (Yc ae hb bD aM bb) ?_
 rw[<-bz]
 cases e:c4 hp c.eQ (dT v n)with
 | none=>
   rw[mn e]
   refine .bV (P:=λ_=>True) (λh=>by cases h) λo _=>.bV (P:=λ_=>True) (λh=>by cases h) λo _=>.cond (λ_=>.ret rfl) λh=>by cases h
 | some p=>
   obtain⟨d,hd⟩:=bD.reads _ _ e
   rw[lZ e hd]
   refine .bV (P:=λr=>r=p) (λ_=>⟨p,rfl,rfl⟩) λo h1=>?_
   rw[h1 I]
   refine .bV (P:=λr=>r=d) (λ_=>⟨d,hd,rfl⟩) λc1 ad=>?_
   rw[ad I]
   refine .cond (λh=>?_) λh=>?_
   ·have:d.gM=false:=by simpa using h
    rw[this];exact .ret I
   have:d.gM=true:=by simpa using h
   rw[this];exact .eq I (.eq hd (.ret I))
structure Np(l6 hp:aL Cell)(t:Nat)(g:List Bool->Option Int)(r:Nat):Prop where
 cell:∃c,gD hp t=some c∧c.hA=32∧c.eQ=some r
 tree:rv hp (some r)
 cont:∀bd,cont hp (some r) bd=g bd
 keeps:fr l6 hp (Own l6 t)
 own:∀bd q,c4 hp (some r) bd=some q->Own l6 t q∨q∉eb l6
def HN{hp:aL Cell}{a t:Nat}{k:Cell}(aY:a∉eb hp)(h:pat hp t=some k):a≠t:=λe=>aY (e▸kj h)
def Yd{hp:aL Cell}{a:Nat}{x:fc}:cV ((a,.h3 x)::hp) a=some x:=by rw[s3,lp,bh I]
def ahY{hp:aL Cell}{a:Nat}(aY:a∉eb hp):cV hp a=none:=by unfold cV;rw[ajE aY]
def DX{hp:aL Cell}{p:Nat}{k:Cell}{x:fc}(h:pat hp p=some k):cV (cJ hp p (.h3 x)) p=some x:=by rw[s3,te h]
def yc{hp:aL Cell}{p q:Nat}{k:Cell}(h:p≠q):cV (cJ hp p k) q=cV hp q:=Ay (nr h)
def WS{hp:aL Cell}{a q:Nat}{k:Cell}(h:a≠q):cV ((a,k)::hp) q=cV hp q:=Ay (by rw[lp,bf h])
def Ye{hp:aL Cell}{p:Nat}{k:Cell}{x:hY}(h:pat hp p=some k):gD (cJ hp p (.lO x)) p=some x:=by rw[wD,te h]
def LG{hp:aL Cell}{p q:Nat}{k:Cell}(h:p≠q):gD (cJ hp p k) q=gD hp q:=LD (nr h)
def WT{hp:aL Cell}{a q:Nat}{k:Cell}(h:a≠q):gD ((a,k)::hp) q=gD hp q:=LD (by rw[lp,bf h])
def M6{hp:aL Cell}{p t:Nat}{x:fc}{c:hY}(h1:cV hp p=some x)(ad:gD hp t=some c):p≠t:=λe=>by
 subst e;rw[s3]at h1;rw[wD,h1]at ad;cases ad
def ame{hp:aL Cell}{t:Nat}{g:aa Bool->aD Int}{c:hY}(ae:gD hp t=some c)(hb:c.hA=32)(bD:rv hp c.eQ)(bz:∀bd,cont hp c.eQ bd=g bd):
 cO (cond c.eQ.isNone (
     aj.bind (aj.mk hp (Cell.h3 (default:fc))) λa2=>
     aj.bind (aj.of (gD a2.2 t)) λzo=>
     aj.bind (aj.of (some (cJ a2.2 t (Cell.lO ({zo with eQ:=(some a2.1:Ref)}:hY))))) λvU=>
     aj.ret vU) (aj.ret hp)) (λbQ=> ∃r,Np hp bQ t g r):=by
 have iB:=wD.1 ae
 refine .cond (λh=>.mk λa aY=>?_) λh=>?_
 ·have aG:c.eQ=none:=by rw[Kt]at h;exact h
  have adL:=HN aY iB
  have EY:gD ((a,Cell.h3 default)::hp) t=some c:=by rw[WT adL];exact ae
  refine .eq EY (.eq I (.ret ⟨a,?_⟩))
  have aM:cV (cJ ((a,Cell.h3 default)::hp) t (.lO {c with eQ:=some a})) a=some default:=by
   rw[yc adL.symm,Yd]
  have aW:=Xz aM
  refine⟨⟨_,Ye (wD.1 EY),hb,rfl⟩,⟨λbd p h1=>?_,λbd cs p h1 ad=>?_,λbd p h1=>?_⟩,λbd=>?_,?_,λbd q h1=>?_⟩
  ·rw[aW]at h1
   split at h1
   ·cases h1;exact⟨_,aM⟩
   cases h1
  ·rw[aW]at h1 ad
   split at h1 <;> split at ad
   ·rename_i ar aS;rw[ar,aS]
   ·cases ad
   ·cases h1
   cases h1
  ·rw[aW]at h1
   split at h1
   ·rename_i e;rw[e];exact vn _
   cases h1
  ·rw[<-bz,aG,mn hZ]
   by_cases e:bd=[]
   ·rw[lZ (by rw[aW,bh e]) aM];rfl
   rw[mn (by rw[aW,bf e])]
  ·exact(fr.mk' aY).trans (own':=λq=>q=t) (fr.up (own:=λq=>q=t) I) λq _ h1=>.inl h1
  rw[aW]at h1
  split at h1
  ·cases h1;exact .inr aY
  cases h1
 cases aG:c.eQ with
 |none=>rw[aG]at h;cases h
 | some r=>
   rw[aG]at bD bz
   exact .ret ⟨r,⟨c,ae,hb,aG⟩,bD,bz,.refl,λbd q h1=>.inl (.inr ⟨c,bd,ae,by rw[aG];exact h1⟩)⟩
def aoK{hp:aL Cell}{t:Nat}{g:aa Bool->aD Int}(h:kS hp t g){n:Nat}(aM:n<=32){v:aN}(bb:∀j,j<128->ct v j=true->lead 32 n j=true)(id:Int)(fK:g (dT v n)=none):
 cO (DA hp (some t) v n id) (λr=>r.1=true∧kS r.2 t (λbd=>if bd=dT v n then some id else g bd)∧fr hp r.2 (Own hp t)∧∀q,Own r.2 t q->Own hp t q∨q∉eb hp):=by
 obtain⟨c,ae,hb,bD,bz⟩:=h.ok
 unfold DA
 refine .eq (XC ae hb aM bb) (.cond (λh=>by cases h) λ_=>.eq (Yc ae hb bD aM bb) ?_)
 refine .bV (P:=λo=>c4 hp c.eQ (dT v n)=some o) (λh1=>?_) λbA h1=>?_
 ·cases e:c4 hp c.eQ (dT v n)with
  |none=>rw[e]at h1;cases h1
  |some p=>exact⟨p,rfl,rfl⟩
 refine .bV (P:=λd=>cV hp bA=some d) (λad=>?_) λc1 ad=>?_
 ·obtain⟨d,hd⟩:=bD.reads _ _ (h1 ad)
  exact⟨d,hd,hd⟩
 refine .cond (λaz=>?_) λ_=>?_
 ·simp only[gl]at az
  rw[<-bz,lZ (h1 az.1) (ad az.1),az.2]at fK
  cases fK
 refine .eq I (.eq ae (.bind (ame ae hb bD bz) λm1 bR=>?_))
 obtain⟨r,bR⟩:=bR
 obtain⟨eE,k8,avc,T2⟩:=bR.cell
 refine .eq k8 (.eq I ?_)
 show cO (aj.bind (z1 (n:Int) v (some t) _ _ _) _) _
 refine .bind (P:=λe:(Ref×aL Cell)⊕Empty=> ∃p cZ,e=.inl (some p,cZ)∧c4 cZ (some r) (dT v n)=some p∧Np hp cZ t g r) (aoJ v aM (λi s=> ∃p,s.1=some p∧c4 s.2 (some r) (dT v i)=some p∧Np hp s.2 t g r) ⟨r,T2,o9,bR⟩ (λi s aq=>?_) (λi s aq hs=>?_) (λs hs=>?_)) λe he=>?_
 ·obtain⟨p,_,_,hm⟩:=aq
  obtain⟨d,aV,bc,_⟩:=hm.cell
  exact⟨d,aV,bc⟩
 ·obtain⟨ati,cZ⟩:=s
  obtain⟨p,ar,aS,hm⟩:=hs
  simp only at ar aS hm
  subst ar
  obtain⟨d,hd⟩:=hm.tree.reads _ _ aS
  have ca:gb (ct v (31-i))<2:=by cases ct v (31-i) <;> decide
  refine .eq I (.idx I ca (.eq hd ?_))
  refine .bind (P:=λiS=> ∃q oj,cV iS p=some oj∧bG oj.dF (gb (ct v (31-i)))=some q∧c4 iS (some r) (dT v i)=some p∧Np hp iS t g r) (.cond (λbq=>.mk λa aY=>?_) λbq=>.ret ?_) λiS c7=>?_
  ·have l7:bG d.dF (gb (ct v (31-i)))=none:=by rw[Kt]at bq;exact bq
   have adM:=HN aY (s3.1 hd)
   have gw:cV ((a,Cell.h3 default)::cZ) p=some d:=by rw[WS adM];exact hd
   refine .idx I ca (.eq gw (.eq I (.ret ?_)))
   have eX:cV (cJ ((a,Cell.h3 default)::cZ) p (.h3 {d with dF:=dK d.dF (gb (ct v (31-i))) (some a)})) a=some default:=by
    rw[yc adM.symm,Yd]
   have cc:cV (cJ ((a,Cell.h3 default)::cZ) p (.h3 {d with dF:=dK d.dF (gb (ct v (31-i))) (some a)})) p=some {d with dF:=dK d.dF (gb (ct v (31-i))) (some a)}:=DX (s3.1 gw)
   obtain⟨g1,g2,g3⟩:=grow (by unfold dT;simp;omega) hm.tree aS hd l7 (ahY aY) cc eX λq jL rO=>by rw[yc jL.symm,WS rO.symm]
   have IZ:Own hp t p∨p∉eb hp:=hm.own _ _ aS
   refine⟨a,_,cc,by rw[jE _ _ ca,bh I],by rw[g2,bf (λe=>by have:=eI List.length e;simp at this)];exact aS,?_,g1,λbd=>by rw[g3,hm.cont],?_,λbd q hq=>?_⟩
   ·obtain⟨d4,aV,bc,c9⟩:=hm.cell
    have iB:=M6 hd aV
    exact⟨d4,by rw[LG iB,WT (HN aY (wD.1 aV))];exact aV,bc,c9⟩
   ·refine hm.keeps.trans (own':=λq=>q=p) ((fr.mk' aY).trans (own':=λq=>q=p) (fr.up (own:=λq=>q=p) I) λq _ dD=>dD) λq hq dD=>?_
    subst dD
    exact IZ.resolve_right λoa=>oa hq
   rw[g2]at hq
   split at hq
   ·cases hq;exact .inr λdD=>aY (hm.keeps.keys _ dD)
   exact hm.own _ _ hq
  ·cases l7:bG d.dF (gb (ct v (31-i)))with
   |none=>rw[l7]at bq;cases bq
   |some q=>exact⟨q,d,hd,l7,aS,hm⟩
  obtain⟨q,oj,c9,dD,oa,wa⟩:=c7
  refine .idx I ca (.eq c9 (.ret ⟨q,dD,?_,wa⟩))
  show c4 iS (some r) (dT v (i+1))=some q
  rw[HH,oA,oa,ja c9,dD,o9]
 ·obtain⟨ati,cZ⟩:=s
  obtain⟨p,ar,aS,hm⟩:=hs
  simp only at ar aS hm
  subst ar
  exact⟨p,cZ,rfl,aS,hm⟩
 obtain⟨p,cZ,rfl,aS,hm⟩:=he
 obtain⟨d,hd⟩:=hm.tree.reads _ _ aS
 have Uk:=s3.1 hd
 refine .eq I (.eq hd (.eq I (.eq I ?_)))
 have gw:cV (cJ cZ p (.h3 {d with gM:=true})) p=some {d with gM:=true}:=DX Uk
 refine .eq gw (.eq I (.ret ?_))
 have xk:cV (cJ (cJ cZ p (.h3 {d with gM:=true})) p (.h3 {d with gM:=true,j6:=id})) p=some {d with gM:=true,j6:=id}:=DX (s3.1 gw)
 obtain⟨s1,s2⟩:=acH hm.tree aS hd xk I λq hq=>by rw[yc hq.symm,yc hq.symm]
 obtain⟨d4,aV,bc,c9⟩:=hm.cell
 have iB:=M6 hd aV
 have Fg:gD (cJ (cJ cZ p (.h3 {d with gM:=true})) p (.h3 {d with gM:=true,j6:=id})) t=some d4:=by rw[LG iB,LG iB];exact aV
 have IZ:Own hp t p∨p∉eb hp:=hm.own _ _ aS
 refine⟨rfl,⟨d4,Fg,bc,by rw[c9];exact s1,λbd=>?_⟩,?_,λq hq=>?_⟩
 ·rw[c9,s2,hm.cont];rfl
 ·refine hm.keeps.trans (own':=λq=>q=p) ((fr.up (own:=λq=>q=p) I).trans (own':=λq=>q=p) (fr.up (own:=λq=>q=p) I) λq _ dD=>dD) λq hq dD=>?_
  subst dD
  exact IZ.resolve_right λoa=>oa hq
 rcases hq with rfl|⟨gy,bd,h1,ad⟩
 ·exact .inl (.inl I)
 rw[Fg]at h1;cases h1
 rw[c9,HW hd xk I (λq hq=>by rw[yc hq.symm,yc hq.symm])]at ad
 exact hm.own _ _ ad
def le_toNat{x:BitVec 64}{k:Nat}(hk:k<2^64):decide (x>=BitVec.ofNat 64 k)=decide (k<=x.toNat):=by
 rw[ra,ge_iff_le,De,KG,zX hk]
def aiN(x:BitVec 64)(h:x.toNat<2^32):ba (Dj x) (λr=>r<=32):=by
 unfold Dj;refine .bind (P:=λm=>m=(x,0)) (.cond (λae=>?_) λ_=>.ret I) λm1 h1=>?_
 ·rw[le_toNat (by decide)]at ae;simp at ae;omega
 subst h1;refine .bind (P:=λm=>m.1.toNat<65536∧0<=m.2∧m.2<=16) (.cond (λae=>.ret ⟨?_,?_⟩) λae=>.ret ⟨?_,x2 0,by show(0:Int)<=16;decide⟩) λm2 ad=>?_
 ·rw[Ku,show(16#64).toNat=16 from rfl,Ks];simp only;omega
 ·rw[show bm ((0:Int)+16)=16 from by rw[gN (by decide) (by decide)];rfl];exact⟨by show(0:Int)<=16;decide,x2 16⟩
 ·rw[le_toNat (by decide)]at ae;simp at ae;exact ae
 refine .bind (P:=λm=>m.1.toNat<256∧0<=m.2∧m.2<=24) (.cond (λae=>.ret ⟨?_,?_⟩) λae=>.ret ⟨?_,ad.2.1,by have:=ad.2.2;simp only;omega⟩) λm3 az=>?_
 ·rw[Ku,show(8#64).toNat=8 from rfl,Ks];have:=ad.1;omega
 ·have:=ad.2;rw[gN (by omega) (by omega)];constructor <;> omega
 ·rw[le_toNat (by decide)]at ae;simp at ae;exact ae
 obtain⟨az,aV,bc⟩:=az;have key:∀k:Fin 256,∃y,IU (ByteArray.mk (List.toArray (List.append (List.append [0,1,2,2,3,3,3,3,4,4,4,4,4,4,4,4,5,5,5,5,5,5,5,5,5,5,5,5,5,5,5,5,6,6,6,6,6,6,6,6,6,6,6,6,6,6,6,6,6,6,6,6,6,6,6,6,6,6,6,6,6,6,6,6] [7,7,7,7,7,7,7,7,7,7,7,7,7,7,7,7,7,7,7,7,7,7,7,7,7,7,7,7,7,7,7,7,7,7,7,7,7,7,7,7,7,7,7,7,7,7,7,7,7,7,7,7,7,7,7,7,7,7,7,7,7,7,7,7]) (List.append [8,8,8,8,8,8,8,8,8,8,8,8,8,8,8,8,8,8,8,8,8,8,8,8,8,8,8,8,8,8,8,8,8,8,8,8,8,8,8,8,8,8,8,8,8,8,8,8,8,8,8,8,8,8,8,8,8,8,8,8,8,8,8,8] [8,8,8,8,8,8,8,8,8,8,8,8,8,8,8,8,8,8,8,8,8,8,8,8,8,8,8,8,8,8,8,8,8,8,8,8,8,8,8,8,8,8,8,8,8,8,8,8,8,8,8,8,8,8,8,8,8,8,8,8,8,8,8,8])))) ((k.1:Nat):Int)=some y∧y.toNat<=8:=by
  intro k;have h1:(match IU (ByteArray.mk (List.toArray (List.append (List.append [0,1,2,2,3,3,3,3,4,4,4,4,4,4,4,4,5,5,5,5,5,5,5,5,5,5,5,5,5,5,5,5,6,6,6,6,6,6,6,6,6,6,6,6,6,6,6,6,6,6,6,6,6,6,6,6,6,6,6,6,6,6,6,6] [7,7,7,7,7,7,7,7,7,7,7,7,7,7,7,7,7,7,7,7,7,7,7,7,7,7,7,7,7,7,7,7,7,7,7,7,7,7,7,7,7,7,7,7,7,7,7,7,7,7,7,7,7,7,7,7,7,7,7,7,7,7,7,7]) (List.append [8,8,8,8,8,8,8,8,8,8,8,8,8,8,8,8,8,8,8,8,8,8,8,8,8,8,8,8,8,8,8,8,8,8,8,8,8,8,8,8,8,8,8,8,8,8,8,8,8,8,8,8,8,8,8,8,8,8,8,8,8,8,8,8] [8,8,8,8,8,8,8,8,8,8,8,8,8,8,8,8,8,8,8,8,8,8,8,8,8,8,8,8,8,8,8,8,8,8,8,8,8,8,8,8,8,8,8,8,8,8,8,8,8,8,8,8,8,8,8,8,8,8,8,8,8,8,8,8])))) ((k.1:Nat):Int)with |some y=>decide (y.toNat<=8)|none=>false)=true:=by
   revert k;decide +kernel
  split at h1
  ·rename_i y e;exact⟨y,e,by simpa using h1⟩
  cases h1
 obtain⟨y,ar,aS⟩:=key ⟨(m3.1.setWidth 8).toNat,(m3.1.setWidth 8).isLt⟩;refine .eq ar (.ret ?_);rw[gN (by omega) (by omega)];omega
def Small(v:aN):Prop:=∀j,j<128->ct v j=true->j<32
def ak9{v:aN}(h:Small v):Hw v 32=some true:=by
 refine ba.get ?_;have gE:v.dZ=0#64:=by
  apply zF;intro i aq;have h1:=h (64+i) (by omega);unfold ct at h1;rw[bf (by omega),show 64+i-64=i by omega]at h1;rw[CC];cases e:v.dZ.getLsbD i with
  |false=>rfl
  |true=>have:=h1 e;omega
 have hS:v.cI.toNat<2^32:=by
  refine Nat.lt_pow_two_of_testBit _ λi aq=>?_;cases e:v.cI.toNat.testBit i with
  |false=>rfl
  | true=>
    have ca:i<64:=by
     rcases sW i 64 with h1|h1
     ·exact h1
     rw[Nat.testBit_lt_two_pow (r6 v.cI.isLt (Vx (by decide) h1))]at e;cases e
    have:=h i (by omega) (by unfold ct;rw[bh ca,BitVec.getLsbD,e])
    omega
 unfold Hw LB;rw[gE];refine .bind (P:=λr=>r<=32) (.cond (λae=>by simp at ae) λ_=>(aiN _ hS).bind λy aT=>.ret aT) λy aT=>.ret ?_;rw[re aT]
def lF(g:aa Bool->aD Int)(v:aN):Nat->aD (Nat×Int)
 |0=>(g []).map λid=>(0,id)
 | k+1=>match g (dT v (k+1))with
   |some id=>some (k+1,id)
   |none=>lF g v k
def enc:aD (Nat×Int)->Int×Int×Bool
 |none=>(0,0,false)
 |some (n,id)=>((n:Int),id,true)
def Yf{hp:aL Cell}{root:Ref}(bD:rv hp root)(bd:aa Bool)(d:Nat)(o:aD (Nat×Int)):
 zQ hp (c4 hp root bd) d (enc o).1 (enc o).2.1 (enc o).2.2=some (enc (match cont hp root bd with |some id=>some (d,id)|none=>o)):=by
 refine ba.get ?_
 unfold zQ
 cases e:c4 hp root bd with
 | none=>
   rw[mn e]
   refine .bV (P:=λ_=>True) (λh=>by cases h) λo _=>.bV (P:=λ_=>True) (λh=>by cases h) λo _=>.eq rfl (.ret rfl)
 | some p=>
   obtain⟨c,ae⟩:=bD.reads _ _ e
   rw[lZ e ae]
   refine .bV (P:=λr=>r=p) (λ_=>⟨p,rfl,rfl⟩) λbA h1=>?_
   rw[h1 I]
   refine .bV (P:=λr=>r=c) (λ_=>⟨c,ae,rfl⟩) λc1 ad=>?_
   rw[ad I]
   cases hu:c.gM with
   |true=>exact .eq (a:=((d:Int),c.j6,true)) (by simp[ae]) (.ret I)
   |false=>exact .eq I (.ret I)
def ahZ{hp:aL Cell}{t:Nat}{g:aa Bool->aD Int}(h:kS hp t g){v:aN}(bb:Small v):GR hp (some t) v=some (enc (lF g v 32)):=by
 obtain⟨c,ae,hb,bD,bz⟩:=h.ok;refine ba.get ?_;unfold GR;refine .bV (P:=λr=>r=t) (λ_=>⟨t,rfl,rfl⟩) λbA h1=>?_;rw[h1 I];refine .bV (P:=λr=>r=c) (λ_=>⟨c,ae,rfl⟩) λc1 ad=>?_;rw[ad I,hb];refine .bV (P:=λr=>r=true) (λ_=>⟨true,ak9 bb,rfl⟩) λao az=>?_;rw[az I];refine .cond (λae=>by cases ae) λ_=>.eq rfl (.eq ae ?_);have v0:zQ hp c.eQ 0 0 0 false=some (enc (lF g v 0)):=by
  have:=Yf bD [] 0 none;rw[o9,bz]at this;refine this.trans ?_;unfold lF;cases g [] <;> rfl
 rw[hb];refine .eq v0 (.eq I ?_);show ba (Option.bind (tY hp ((32:Nat):Int) v (some t) _ _) _) _;refine ba.bind (P:=λe:(Ref×Int×Int×Int×Bool)⊕(Ref×Int×Int×Int×Bool)=>e.elim (λs=>s.2.2=enc (lF g v 32)) (λq=>q.2.2=enc (lF g v 32)))
  (SG ae hb v (iV 32) (λi s=>s=(c4 hp c.eQ (dT v i),(i:Int),enc (lF g v i))) (by rw[HI,o9];rfl) (λi s aq hs=>?_) (λs hs=>by rw[hs];rfl)) λe he=>?_
 ·subst hs;refine .cond (λh=>.ret ?_) λh=>?_
  ·have aM:c4 hp c.eQ (dT v i)=none:=by
    simp only[Kt]at h;exact h
   have key:∀k,lF g v (i+k)=lF g v i:=λk=>by
    induction k with
    |zero=>rfl
    | succ k cj=>
      have ar:dT v (i+k+1)=dT v i++(dT v (i+k+1)).drop i:=by
       have:dT v i=(dT v (i+k+1)).take i:=by unfold dT;rw[<-Pl,Pc];congr 2;omega
       rw[this,gz]
      have:g (dT v (i+k+1))=none:=by
       rw[<-bz,mn];rw[ar,oA,aM,hZ]
      show(match g (dT v (i+k+1))with |some id=>some (i+k+1,id)|none=>lF g v (i+k))=_
      rw[this];exact cj
   show enc (lF g v i)=enc (lF g v 32);have:=key (32-i);rw[show i+(32-i)=32 by omega]at this;rw[this]
  cases e:c4 hp c.eQ (dT v i)with
  |none=>simp[e]at h
  | some p=>
    obtain⟨d,hd⟩:=bD.reads _ _ e
    refine .eq I (.idx I (by cases ct v (31-i) <;> decide) (.eq hd ?_))
    have l7:bG d.dF (gb (ct v (31-i)))=c4 hp c.eQ (dT v (i+1)):=by rw[HH,oA,e,ja hd,o9]
    have hw:bm ((i:Int)+1)=((i+1:Nat):Int):=dA (by omega)
    simp only[l7,hw]
    refine .eq (Yf bD (dT v (i+1)) (i+1) (lF g v i)) (.ret ?_)
    rw[bz]
    rfl
 cases e with
 |inl s=>exact .ret he
 |inr q=>exact .ret he
def b7.NX{s:aZ}(h:b7 s):∃dM eF jA,∀k,k<4->rC (ax s.bL k)=ax (xa dM eF jA) k:=by
 obtain⟨dM,eF,jA,e⟩:=h.tables;refine⟨dM,eF,jA,λk hk=>?_⟩;rw[<-e,AL rC (by rw[h.lP];exact hk)]
def AF(t:cy){r:Int×Int}(ks:aa dC)(hk:t.cr=ks)(h:DC {(default:cy)with cr:=ks} =some r):DC t=some r:=by
 subst hk;exact h
def r3(k:Nat):Int:=ax [1,2,3,3] k
def aiO{s:aZ}(h:b7 s){k:Nat}(hk:k<4):ba (DC (ax s.bL k)) (λr=>r.1=r3 k∧(k=1->r.2=0)):=by
 obtain⟨dM,eF,jA,e⟩:=h.NX;have e:=e k hk;have ho:(ax s.bL k).cr=(ax (xa dM eF jA) k).2.2:=eI (·.2.2) e;have:k=0∨k=1∨k=2∨k=3:=by omega
 rcases this with rfl|rfl|rfl|rfl
 ·exact⟨_,AF _ [sK] ho I,rfl,λh=>by simp at h⟩
 ·cases dM
  ·exact⟨_,AF _ [Cn] ho I,rfl,λ_=>rfl⟩
  exact⟨_,AF _ [Cn,Oe] ho I,rfl,λ_=>rfl⟩
 ·cases eF
  ·exact⟨_,AF _ [Ki,JR] ho I,rfl,λh=>by simp at h⟩
  exact⟨_,AF _ [Ki,JR,UY] ho I,rfl,λh=>by simp at h⟩
 cases jA
 ·exact⟨_,AF _ [Kj] ho I,rfl,λh=>by simp at h⟩
 exact⟨_,AF _ [Kj,UZ,Cn] ho I,rfl,λh=>by simp at h⟩
structure ER(s:aZ)(k:Nat)(l6 hp:aL Cell)(p:Nat):Prop where
 cell:∃c m,jc hp p=some c∧c.wR=r3 k∧c.vA=((ax s.bL k).cr.length:Int)∧c.pO=⟨some m⟩∧mV hp m=some []∧
  (k=0->∃q m2,c.ns=.pg ⟨some q⟩∧n0 hp q=some ⟨⟨some m2⟩⟩∧nw hp m2=some []∧q∉eb l6∧m2∉eb l6)∧
  (k=1->∃m3,c.ns=.ph ⟨0,32,⟨some m3⟩⟩∧lM hp m3=some []∧m3∉eb l6)∧
  (2<=k->∃q key cap,c.ns=.pj ⟨some q⟩∧rB hp q=some (({mj:=s,cz:=[]}:eh),key,cap)∧q∉eb l6)∧
  p∉eb l6∧m∉eb l6∧(∀q,q∈eb l6->q∈eb hp)∧∀q,q∈eb l6->pat hp q=pat l6 q
def aoL{s:aZ}(h:b7 s){k:Nat}(hk:k<4)(hp:aL Cell):cO (DQ hp s ((k:Int)+1)) (λr=> ∃p,r.1=some p∧ER s k hp r.2 p):=by
 unfold DQ;refine .hc (PV h hk) λao ar=>?_;subst ar;refine .cond (λae=>by simp at ae;omega) λ_=>?_;refine .idx I (by rw[h.lP];exact hk) (.hc (aiO h hk) λaE ad=>.mk λm hm=>.eq I (.mk λp bQ=>?_));obtain⟨aui,key⟩:=aE;obtain⟨ad,az⟩:=ad;simp only at ad az bQ;subst ad;have nI:p≠m:=λe=>by subst e;simp[eb]at bQ
 have:k=0∨k=1∨2<=k:=by omega
 rcases this with rfl|rfl|c0
 ·have e:(r3 0==1)=true:=rfl;simp only[e,cond_true];unfold Lz;refine .bind (P:=λcZ=>ER s 0 hp cZ p) (.bind (P:=λr=> ∃q m2,r=((some q:Ref),(q,Cell.Ey ⟨⟨some m2⟩⟩)::(m2,Cell.rE [])::(p,_)::(m,Cell.mr [])::hp)∧m2∉eb ((p,_)::(m,Cell.mr [])::hp)∧q∉eb ((m2,Cell.rE [])::(p,_)::(m,Cell.mr [])::hp)) (.mk λm2 c6=>.mk λq hq=>.ret ⟨q,m2,rfl,c6,hq⟩) λbg aV=>?_) λcZ bc=>.ret ⟨p,rfl,bc⟩;obtain⟨q,m2,rfl,c6,hq⟩:=aV;simp only[eb,nT,dP,x9]at c6 hq bQ;refine .eq (by simp[jc,pat,hq.1,hq.2,c6.1,hq.2.2.1,x8];rfl) (.eq I (.ret ?_));refine⟨{wR:=r3 0,vA:=((ax s.bL 0).cr.length:Int),ns:=.pg ⟨some q⟩,pO:=⟨some m⟩},m,?_,rfl,rfl,rfl,?_,?_,λae=>by simp at ae,λae=>by simp at ae,bQ.2,hm,λx au=>by rw[sf];exact gA _ (gA _ (gA _ (gA _ au))),λx au=>?_⟩
  ·simp[jc,pat,cJ,hq.1,hq.2,c6.1,hq.2.2.1]
  ·simp[mV,pat,cJ,hq.1,hq.2,c6.1,hq.2.2.1,c6.2.1,bQ.1]
  ·intro _;refine⟨q,m2,rfl,?_,?_,hq.2.2.2,c6.2.2⟩
   ·simp[n0,pat,cJ,hq.1,hq.2,c6.1,hq.2.2.1,c6.2.1,bQ.1]
   simp[nw,pat,cJ,hq.1,hq.2,c6.1,hq.2.2.1,c6.2.1,bQ.1]
  have mF:q≠x:=λe=>hq.2.2.2 (by rw[e];exact au);have Fv:m2≠x:=λe=>c6.2.2 (by rw[e];exact au);have Kk:p≠x:=λe=>bQ.2 (by rw[e];exact au);have Kl:m≠x:=λe=>hm (by rw[e];exact au);simp[H3,pat,mF,Fv,Kk,Kl]
 ·have e:(r3 1==1)=false:=rfl;have aS:(r3 1==2)=true:=rfl;simp only[e,aS,cond_true,cond_false];have az:=az I;subst az;obtain⟨t1,⟨t2,t3⟩,t4,_⟩:=h.fF hk;have aW:(ax (ax s.bL 1).cr 0).jq=((6:Nat):Int)+1:=by
   obtain⟨dM,eF,jA,e⟩:=h.NX;have e:=eI (·.2.2) (e 1 hk);show(ax (rC (ax s.bL 1)).2.2 0).jq=_;rw[e];cases dM <;> rfl
  refine .bind (P:=λcZ=>ER s 1 hp cZ p) (.bind (P:=λcZ=>ER s 1 hp cZ p) ?_ λ_ bq=>.ret bq) λcZ bc=>.ret ⟨p,rfl,bc⟩;refine .idx (k:=0) I (by omega) ?_;simp only[aW];refine .hc (WR h (show 6<9 by decide)) λbt eK=>?_;subst eK;refine .hc (P:=λr=>r=32) (.cond (λ_=>.idx I (by rw[h.vO];decide) (.ret (h.xv (show 6<9 by decide)).2)) (λae=>by simp at ae)) λb hb=>?_;subst hb;refine .mk λm3 fZ=>?_;simp only[eb,nT,dP,x9]at fZ bQ;refine .eq I (.eq (by simp[jc,pat,fZ.1];rfl) (.eq I (.ret ?_)));refine⟨{wR:=r3 1,vA:=((ax s.bL 1).cr.length:Int),ns:=.ph ⟨0,32,⟨some m3⟩⟩,pO:=⟨some m⟩},m,?_,rfl,rfl,rfl,?_,λae=>by simp at ae,?_,λae=>by simp at ae,bQ.2,hm,λx au=>by rw[sf];exact gA _ (gA _ (gA _ au)),λx au=>?_⟩
  ·simp[jc,pat,cJ,fZ.1]
  ·simp[mV,pat,cJ,fZ.1,fZ.2.1,bQ.1]
  ·intro _;refine⟨m3,rfl,?_,fZ.2.2⟩;simp[lM,pat,cJ,fZ.1,fZ.2.1,bQ.1]
  have mF:m3≠x:=λe=>fZ.2.2 (by rw[e];exact au);have Kk:p≠x:=λe=>bQ.2 (by rw[e];exact au);have Kl:m≠x:=λe=>hm (by rw[e];exact au);simp[H3,pat,mF,Kk,Kl]
 have e:(r3 k==1)=false:=by
  have:k=2∨k=3:=by omega
  rcases this with rfl|rfl <;> rfl
 have aS:(r3 k==2)=false:=by
  have:k=2∨k=3:=by omega
  rcases this with rfl|rfl <;> rfl
 simp only[e,aS,cond_true,cond_false];refine .bind (P:=λcZ=>ER s k hp cZ p) (.bind (P:=λcZ=>ER s k hp cZ p) ?_ λ_ bq=>.ret bq) λcZ bc=>.ret ⟨p,rfl,bc⟩;refine .eq I (.any λeJ=>.mk λq hq=>?_);simp only[eb,nT,dP,x9]at hq bQ;refine .eq (by simp[jc,pat,hq.1];rfl) (.eq I (.ret ?_));refine⟨{wR:=r3 k,vA:=((ax s.bL k).cr.length:Int),ns:=.pj ⟨some q⟩,pO:=⟨some m⟩},m,?_,rfl,rfl,rfl,?_,λae=>by omega,λae=>by omega,λ_=>⟨q,eJ.1,eJ.2,rfl,?_,hq.2.2⟩,bQ.2,hm,λx au=>by rw[sf];exact gA _ (gA _ (gA _ au)),λx au=>?_⟩
 ·simp[jc,pat,cJ,hq.1]
 ·simp[mV,pat,cJ,hq.1,hq.2.1,bQ.1]
 ·simp[rB,pat,cJ,hq.1]
 have mF:q≠x:=λe=>hq.2.2 (by rw[e];exact au);have Kk:p≠x:=λe=>bQ.2 (by rw[e];exact au);have Kl:m≠x:=λe=>hm (by rw[e];exact au);simp[H3,pat,mF,Kk,Kl]
def Yg{α:Type}{b:α->α->Bool}(hb:uY b){q:α->Bool}:∀{l:aa α} {c:α},l.Pairwise (λx y=>b x y=true)->c∈l->q c=true->(∀d∈l,q d=true->d=c∨b c d=true)->l.find? q=some c
 |[],c,_,ae,_,_=>by cases ae
 | a::l,c,hs,ae,hq,hd=>by
   obtain⟨h1,ad⟩:=kz.1 hs;by_cases pz:q a=true
   ·rw[FG pz];rcases hd a (by simp) pz with h|h
    ·rw[h]
    rcases dP.1 ae with az|az
    ·rw[az]
    have:=hb.asymm _ _ (h1 c az);rw[this]at h;cases h
   rw[Cx pz];rcases dP.1 ae with az|az
   ·rw[az]at hq;exact absurd hq pz
   exact Yg hb ad az hq λd hd' Ul=>hd d (by simp[hd']) Ul
def Mj{α:Type}{b:α->α->Bool}(hb:uY b){q:α->Bool}{l:aa α}{c:α}(h:xd b l)(ae:c∈l)(hq:q c=true)(hd:∀d∈l,q d=true->d=c∨b c d=true):(eY b l).find? q=some c:=
 Yg hb (HL hb h) (ry.2 ae) hq λd hd'=>hd d (ry.1 hd')
def Q0{α:Type}{b:α->α->Bool}{q:α->Bool}{l:aa α}(hd:∀d∈l,q d=false):(eY b l).find? q=none:=by
 rw[xO];intro x au;rw[hd x (ry.1 au)];simp
def kr.uniq{s:aZ}{k:Nat}:∀{l:aa aH},kr s k l->∀{a c:aH},a∈l->c∈l->a.b0=c.b0->a=c:=λ{l} h {a c} aY ae e=>by
 have aM:=h.num;clear h;induction l with
 |nil=>cases aY
 | cons x l cj=>
   obtain⟨h1,ad⟩:=kz.1 aM
   rcases dP.1 aY with g1|g1 <;> rcases dP.1 ae with g2|g2
   ·rw[g1,g2]
   ·rw[g1]at e;exact absurd e (h1 c g2)
   ·rw[g2]at e;exact absurd e.symm (h1 a g1)
   exact cj g1 g2 ad
def b7.M7{s:aZ}(h:b7 s):(ax s.bL 0).cr=[sK]:=by
 obtain⟨dM,eF,jA,e⟩:=h.NX;exact eI (·.2.2) (e 0 (by decide))
def b7.IC{s:aZ}(h:b7 s):∃b,(ax s.bL 1).cr=pV b:=by
 obtain⟨dM,eF,jA,e⟩:=h.NX;exact⟨dM,eI (·.2.2) (e 1 (by decide))⟩
def jk(s:aZ)(k:Nat):Nat:=(ax s.bL k).cr.length
def Y7{α:Type}[Inhabited α]{n:Nat}{f:Fin n->α}{j:Nat}(h:j<n):bG (Vector.ofFn f) j=f ⟨j,h⟩:=by unfold bG;simp[h]
def ft(e:bl):Vector aN 4:=Vector.ofFn λi=>if i.1<e.bP.length then(ax e.bP i.1).b6 else default
def nj(n:Nat)(p:Vector aN 4):Vector aN 4:=Vector.ofFn λi=>if i.1<n then bG p i.1 else default
def hL(p:Vector aN 4):Vector aN 4:=dK p 0 default
def oy{e:bl}{j:Nat}(h:j<4):bG (ft e) j=if j<e.bP.length then(ax e.bP j).b6 else default:=Y7 h
def qx{n:Nat}{p:Vector aN 4}{j:Nat}(h:j<4):bG (nj n p) j=if j<n then bG p j else default:=Y7 h
def Mk{p:Vector aN 4}{j:Nat}:bG (hL p) j=if j=0 then default else bG p j:=by unfold hL;rw[jE _ _ (by decide)]
def I0{v w:Vector aN 4}:v=w↔bG v 0=bG w 0∧bG v 1=bG w 1∧bG v 2=bG w 2∧bG v 3=bG w 3:=by
 refine⟨λh=>by rw[h];exact⟨rfl,rfl,rfl,rfl⟩,λ⟨bC,h1,ad,az⟩=>Qr λj aB=>?_⟩;rcases (show j=0∨j=1∨j=2∨j=3 by omega)with rfl|rfl|rfl|rfl <;> assumption
def Q1{s:aZ}(h:b7 s){e:bl}(he:fE s 0 e)(p:Vector aN 4):mt s 0 p e=true↔nj (jk s 0) p=ft e:=by
 have al:=he.len;have hm:=he.xx 0;unfold mt jk;rw[h.M7]at al hm⊢;have hm:=(hm (by decide)).NT I;have hm:(ax e.bP 0).gp=true:=hm;have ar:e.bP.length=1:=al;have hv:((List.range [sK].length).all λi=>nc (ax [sK] i).dQ (hK (ax [sK] i)) (ax e.bP i) (bG p i))=decide (bG p 0=(ax e.bP 0).b6):=by
  show(nc 1 (hK sK) (ax e.bP 0) (bG p 0)&&true)=_;unfold nc;rw[hm];simp
 rw[hv,e5,I0];simp only[qx (show 0<4 by decide),qx (show 1<4 by decide),qx (show 2<4 by decide),qx (show 3<4 by decide),oy (show 0<4 by decide),oy (show 1<4 by decide),oy (show 2<4 by decide),oy (show 3<4 by decide),ar];simp
def aoM{s:aZ}(h:b7 s){l:aa aH}(al:kr s 0 l)(p:Vector aN 4){o:aD Int}(a6:∀n,o=some n↔∃i∈l,ft i.aX=nj (jk s 0) p∧i.b0=n):
 (∀n,o=some n->∃i∈l,i.b0=n∧(eY (eR s 0) l).find? (λc=>mt s 0 p c.aX)=some i)∧(o=none->(eY (eR s 0) l).find? (λc=>mt s 0 p c.aX)=none):=by
 constructor
 rotate_left
 ·intro aM
  subst aM
  refine Q0 λd hd=>?_
  rw[pJ]
  intro hm
  have:=(a6 d.b0).2 ⟨d,hd,((Q1 h (al.ok d hd).dp p).1 hm).symm,rfl⟩
  cases this
 intro n aM
 subst aM
 obtain⟨i,aq,h1,ad⟩:=(a6 n).1 I
 refine⟨i,aq,ad,Mj (ur s 0) al.zk aq ((Q1 h (al.ok i aq).dp p).2 h1.symm) λd hd hm=>.inl ?_⟩
 have az:=(a6 d.b0).2 ⟨d,hd,((Q1 h (al.ok d hd).dp p).1 hm).symm,rfl⟩
 have az:n=d.b0:=by simpa using az
 exact al.uniq hd aq (by rw[ad,az])
def ajJ{v w:aN}{n m:Nat}:dT v n=dT w m↔n=m∧∀i,i<n->ct v (31-i)=ct w (31-i):=by
 unfold dT;constructor
 ·intro h;have al:=eI List.length h;simp only[kQ,List.length_range]at al;subst al;refine⟨rfl,λi aq=>?_⟩;have:=eI (·[i]?) h;simpa[aq]using this
 rintro ⟨rfl,h⟩;exact FR λi aq=>h i (lH.1 aq)
def lz(e:bl):aa Bool:=dT (ax e.bP 0).b6 (ax e.bP 0).ep.toNat
def yT{s:aZ}(h:b7 s){e:bl}(he:fE s 1 e):sm 2 32 (ax e.bP 0):=by
 have hm:=he.xx 0;obtain⟨b,hb⟩:=h.IC;rw[hb]at hm;cases b
 ·exact hm (by decide)
 exact hm (by decide)
def Eh{k:Int}(bC:0<=k)(h1:k<=32){j:Nat}:lead 32 k j=true↔32-k<=(j:Int)∧j<32:=by
 unfold lead;rw[gl,e5,e5];omega
def Q2{m:cG}(hm:sm 2 32 m){v:aN}{n:Nat}(aM:n<=32):dT m.b6 m.ep.toNat=dT v n↔m.ep=n∧∀j,j<128->lead 32 m.ep j=true->ct v j=ct m.b6 j:=by
 have hp:=hm.pre;rw[ajJ];constructor
 ·rintro ⟨h1,ad⟩;refine⟨by omega,λj aB al=>?_⟩;rw[Eh hp.1 hp.2]at al;have:=ad (31-j) (by omega);rw[show 31-(31-j)=j by omega]at this;exact this.symm
 rintro ⟨h1,ad⟩;refine⟨by omega,λi aq=>?_⟩;exact(ad (31-i) (by omega) ((Eh hp.1 hp.2).2 (by omega))).symm
def Y8{s:aZ}(h:b7 s){e:bl}(he:fE s 1 e)(p:Vector aN 4):mt s 1 p e=true↔
 hL (nj (jk s 1) p)=hL (ft e)∧∀j,j<128->lead 32 (ax e.bP 0).ep j=true->ct (bG p 0) j=ct (ax e.bP 0).b6 j:=by
 have al:=he.len
 have hm:=he.xx 1
 have h8:=yT h he
 obtain⟨b,hb⟩:=h.IC
 unfold mt jk
 rw[hb]at al hm⊢
 have hv:nc 2 32 (ax e.bP 0) (bG p 0)=true↔∀j,j<128->lead 32 (ax e.bP 0).ep j=true->ct (bG p 0) j=ct (ax e.bP 0).b6 j:=by
  unfold nc;by_cases hp:(ax e.bP 0).gp=false
  ·rw[bh hp,h8.off hp];refine⟨λ_ j aB al=>?_,λ_=>rfl⟩;have:lead 32 (default:cG).ep j=true:=al;rw[Eh (by decide) (by decide)]at this;have bC:(default:cG).ep=0:=rfl;rw[bC]at this;omega
  rw[bf hp,bf (by decide),bh I,lj];refine⟨λh1 j aB al=>?_,λh1 j aB=>?_⟩
  ·have:=h1 j (lH.2 aB);rw[al]at this;simpa using this
  cases al:lead 32 (ax e.bP 0).ep j
  ·rfl
  simp[h1 j (lH.1 aB) al]
 cases b
 ·have ar:e.bP.length=1:=al
  have aS:((List.range (pV false).length).all λi=>nc (ax (pV false) i).dQ (hK (ax (pV false) i)) (ax e.bP i) (bG p i))=nc 2 32 (ax e.bP 0) (bG p 0):=by
   show(nc 2 32 (ax e.bP 0) (bG p 0)&&true)=_;rw[Ab]
  rw[aS,hv,I0]
  simp only[Mk,qx (show 0<4 by decide),qx (show 1<4 by decide),qx (show 2<4 by decide),qx (show 3<4 by decide),oy (show 0<4 by decide),oy (show 1<4 by decide),oy (show 2<4 by decide),oy (show 3<4 by decide),ar]
  simp[pV]
 have ar:e.bP.length=2:=al
 have bR:(ax e.bP 1).gp=true:=(hm (by decide)).NT I
 have aS:((List.range (pV true).length).all λi=>nc (ax (pV true) i).dQ (hK (ax (pV true) i)) (ax e.bP i) (bG p i))=(nc 2 32 (ax e.bP 0) (bG p 0)&&decide (bG p 1=(ax e.bP 1).b6)):=by
  show(nc 2 32 (ax e.bP 0) (bG p 0)&&(nc 1 (hK Oe) (ax e.bP 1) (bG p 1)&&true))=_;rw[Ab];congr 1;unfold nc;rw[bR];simp
 rw[aS,gl,hv,I0,e5]
 simp only[Mk,qx (show 0<4 by decide),qx (show 1<4 by decide),qx (show 2<4 by decide),qx (show 3<4 by decide),oy (show 0<4 by decide),oy (show 1<4 by decide),oy (show 2<4 by decide),oy (show 3<4 by decide),ar]
 simp[pV,And.comm]
def Y9{g:aa Bool->aD Int}{v:aN}:∀{m n:Nat} {id:Int},lF g v m=some (n,id)->n<=m∧g (dT v n)=some id∧∀k,n<k->k<=m->g (dT v k)=none
 | 0,n,id,h=>by
   unfold lF at h;cases bz:g []with
   |none=>rw[bz]at h;cases h
   | some x=>
     rw[bz]at h;cases h
     exact⟨iV 0,by rw[HI];exact bz,λk h1 ad=>by omega⟩
 | m+1,n,id,h=>by
   unfold lF at h;cases bz:g (dT v (m+1))with
   | none=>
     rw[bz]at h
     obtain⟨h1,ad,az⟩:=Y9 h
     refine⟨by omega,ad,λk aV bc=>?_⟩
     by_cases hk:k=m+1
     ·rw[hk];exact bz
     exact az k aV (by omega)
   | some x=>
     rw[bz]at h;cases h
     exact⟨iV _,bz,λk h1 ad=>by omega⟩
def Za{g:aa Bool->aD Int}{v:aN}:∀{m:Nat},lF g v m=none->∀k,k<=m->g (dT v k)=none
 | 0,h,k,hk=>by
   have:k=0:=by omega
   subst this;unfold lF at h;cases bz:g []with
   |none=>rw[HI];exact bz
   |some x=>rw[bz]at h;cases h
 | m+1,h,k,hk=>by
   unfold lF at h;cases bz:g (dT v (m+1))with
   | none=>
     rw[bz]at h
     by_cases BW:k=m+1
     ·rw[BW];exact bz
     exact Za h k (by omega)
   |some x=>rw[bz]at h;cases h
def adN{s:aZ}(h:b7 s){e:bl}(he:fE s 1 e):jj s 1 e=(ax e.bP 0).ep:=by
 have al:=he.len;unfold jj;obtain⟨b,hb⟩:=h.IC;rw[hb]at al⊢;refine MF (i:=0) al ?_ ?_ λj aB=>by omega
 ·cases b <;> decide
 cases b <;> rfl
def Nq{s:aZ}(h:b7 s){e:bl}(he:fE s 1 e):e.gG=0:=by
 refine he.pri λi aq=>?_;obtain⟨b,hb⟩:=h.IC;rw[hb]at aq⊢;cases b
 ·have:i=0:=by have:i<1:=aq;omega
  subst this;decide
 have:i=0∨i=1:=by have:i<2:=aq;omega
 rcases this with rfl|rfl <;> decide
def abj{s:aZ}(h:b7 s){l:aa aH}(al:kr s 1 l)(p:Vector aN 4){g:aa Bool->aD Int}{v:aN}(bb:∀j,j<128->ct v j=(ct (bG p 0) j&&decide (j<32)))
 (bz:∀bd n,g bd=some n↔∃i∈l,hL (ft i.aX)=hL (nj (jk s 1) p)∧lz i.aX=bd∧i.b0=n):
 match lF g v 32 with |some r=> ∃i∈l,i.b0=r.2∧(eY (eR s 1) l).find? (λc=>mt s 1 p c.aX)=some i|none=>(eY (eR s 1) l).find? (λc=>mt s 1 p c.aX)=none:=by
 have qV:∀k j,j<128->lead 32 k j=true->ct v j=ct (bG p 0) j:=λk j aB hk=>by
  rw[bb j aB];unfold lead at hk;rw[gl,e5]at hk;rw[re (show j<32 by omega),Ab]
 have Fh:∀d∈l,mt s 1 p d.aX=true->∃n:Nat,n<=32∧(ax d.aX.bP 0).ep=n∧g (dT v n)=some d.b0:=λd hd hm=>by
  have he:=(al.ok d hd).dp;have h8:=yT h he;have hp:=h8.pre;obtain⟨n,aM⟩:=pG hp.1;obtain⟨h1,ad⟩:=(Y8 h he p).1 hm;refine⟨n,by omega,aM,(bz _ _).2 ⟨d,hd,h1.symm,?_,rfl⟩⟩;exact(Q2 h8 (by omega)).2 ⟨aM,λj aB JS=>by rw[qV _ j aB JS];exact ad j aB JS⟩
 cases e:lF g v 32 with
 | none=>
   refine Q0 λd hd=>?_
   rw[pJ]
   intro hm
   obtain⟨n,aM,_,ad⟩:=Fh d hd hm
   rw[Za e n aM]at ad;cases ad
 | some r=>
   obtain⟨n,id⟩:=r
   obtain⟨h1,ad,az⟩:=Y9 e
   obtain⟨i,aq,g1,g2,g3⟩:=(bz _ _).1 ad
   have he:=(al.ok i aq).dp
   obtain⟨g4,g5⟩:=(Q2 (yT h he) h1).1 g2
   have T0:mt s 1 p i.aX=true:=(Y8 h he p).2 ⟨g1.symm,λj aB JS=>by rw[<-qV _ j aB JS];exact g5 j aB JS⟩
   refine⟨i,aq,g3,Mj (ur s 1) al.zk aq T0 λd hd hm=>?_⟩
   have adO:=(al.ok d hd).dp
   obtain⟨m,bR,c6,fZ⟩:=Fh d hd hm
   have vR:m<=n:=by
    rcases sW n m with ca|uO
    ·rw[az m ca bR]at fZ;cases fZ
    exact uO
   by_cases SX:m=n
   ·subst SX
    rw[ad]at fZ
    have:id=d.b0:=by simpa using fZ
    exact .inl (al.uniq hd aq (by rw[g3,this]))
   right
   unfold eR
   rw[e5,adN h he,adN h adO,Nq h he,Nq h adO,c6,g4]
   omega
def Own.iff{hp hp':aL Cell}{t:Nat}{c:hY}(ae:gD hp t=some c)(h:∀q,Own hp t q->pat hp' q=pat hp q):gD hp' t=some c∧(∀bd,c4 hp' c.eQ bd=c4 hp c.eQ bd)∧∀q,Own hp' t q↔Own hp t q:=by
 have h1:gD hp' t=some c:=by rw[LD (h t (.inl I))];exact ae
 have ad:∀bd,c4 hp' c.eQ bd=c4 hp c.eQ bd:=λbd=>Xy λp cs hp=>Ay (h p (.inr ⟨c,cs,ae,hp⟩));refine⟨h1,ad,λq=>⟨λhq=>?_,λhq=>?_⟩⟩
 ·rcases hq with rfl|⟨gy,bd,g1,g2⟩
  ·exact .inl I
  rw[h1]at g1;cases g1;rw[ad]at g2;exact .inr ⟨c,bd,ae,g2⟩
 rcases hq with rfl|⟨gy,bd,g1,g2⟩
 ·exact .inl I
 rw[ae]at g1;cases g1;exact .inr ⟨c,bd,h1,by rw[ad];exact g2⟩
def kS.congr{hp hp':aL Cell}{t:Nat}{g:aa Bool->aD Int}(h:kS hp t g)(aY:∀q,Own hp t q->pat hp' q=pat hp q):kS hp' t g∧∀q,Own hp' t q↔Own hp t q:=by
 obtain⟨c,ae,hb,bD,bz⟩:=h.ok;obtain⟨h1,ad,az⟩:=Own.iff ae aY;refine⟨⟨⟨c,h1,hb,⟨λbd p hp=>?_,λbd cs p g1 g2=>?_,λbd p g1=>bD.dep bd p (by rw[<-ad];exact g1)⟩,λbd=>?_⟩⟩,az⟩
 ·rw[ad]at hp;obtain⟨d,hd⟩:=bD.reads bd p hp;exact⟨d,by rw[Ay (aY p (.inr ⟨c,bd,ae,hp⟩))];exact hd⟩
 ·rw[ad]at g1 g2;exact bD.inj bd cs p g1 g2
 rw[<-bz];cases e:c4 hp c.eQ bd with
 |none=>rw[mn e,mn (by rw[ad];exact e)]
 | some p=>
   obtain⟨d,hd⟩:=bD.reads bd p e
   rw[lZ e hd,lZ (by rw[ad];exact e) (by rw[Ay (aY p (.inr ⟨c,bd,ae,e⟩))];exact hd)]
def kS.A2{hp:aL Cell}{t:Nat}{g:aa Bool->aD Int}(h:kS hp t g){q:Nat}(hq:Own hp t q):q∈eb hp:=by
 obtain⟨c,ae,hb,bD,bz⟩:=h.ok;rcases hq with rfl|⟨gy,bd,g1,g2⟩
 ·exact kj (wD.1 ae)
 rw[ae]at g1;cases g1;obtain⟨d,hd⟩:=bD.reads bd q g2;exact kj (s3.1 hd)
def kS.MG{hp:aL Cell}{t:Nat}{g:aa Bool->aD Int}(h:kS hp t g){q:Nat}(hq:Own hp t q):(∃c,pat hp q=some (.lO c))∨∃c,pat hp q=some (.h3 c):=by
 obtain⟨c,ae,hb,bD,bz⟩:=h.ok;rcases hq with rfl|⟨gy,bd,g1,g2⟩
 ·exact .inl ⟨c,wD.1 ae⟩
 rw[ae]at g1;cases g1;obtain⟨d,hd⟩:=bD.reads bd q g2;exact .inr ⟨d,s3.1 hd⟩
def fG(a c:bl):Bool:=decide (a.bF=c.bF∧a.bP=c.bP∧a.gG=c.gG)
def tf{a c:bl}:fG a c=true↔a.bF=c.bF∧a.bP=c.bP∧a.gG=c.gG:=by unfold fG;rw[e5]
def oB(a:bl):fG a a=true:=tf.2 ⟨rfl,rfl,rfl⟩
def s9(a c:bl):fG a c=fG c a:=by
 rw[kP,tf,tf];exact⟨λ⟨x,y,z⟩=>⟨x.symm,y.symm,z.symm⟩,λ⟨x,y,z⟩=>⟨x.symm,y.symm,z.symm⟩⟩
def s6{a c d:bl}(h1:fG a c=true)(ad:fG c d=true):fG a d=true:=by
 rw[tf]at *;exact⟨h1.1.trans ad.1,h1.2.1.trans ad.2.1,h1.2.2.trans ad.2.2⟩
def Q3{a c:cG}(h1:a.gp=c.gp)(ad:a.b6=c.b6)(az:a.hz=c.hz)(aV:a.ep=c.ep)(bc:a.lq=c.lq):a=c:=by
 cases a;cases c;simp_all
def Zb{b:Int}{m sM:cG}(h:sm 1 b m)(cW:sm 1 b sM)(e:m.b6=sM.b6):m=sM:=
 Q3 (by rw[h.NT I,cW.NT I]) e (by rw[h.iA (by decide),cW.iA (by decide)]) (by rw[h.adI (by decide),cW.adI (by decide)]) (by rw[h.NU (by decide),cW.NU (by decide)])
def ala{m sM:cG}(h:sm 2 32 m)(cW:sm 2 32 sM)(e:dT m.b6 m.ep.toNat=dT sM.b6 sM.ep.toNat):m=sM:=by
 have hp:=h.pre;have hp':=cW.pre;obtain⟨n,aM⟩:=pG hp'.1;rw[aM,Int.toNat_natCast]at e;obtain⟨ar,aS⟩:=(Q2 h (by omega)).1 e;have cE:m.ep=sM.ep:=by omega
 have adJ:m.gp=sM.gp:=by
  cases g1:m.gp <;> cases g2:sM.gp
  ·rfl
  ·have:=cW.Ue I g2;have:=h.off g1;have bC:(default:cG).ep=0:=rfl;rw[this,bC]at cE;omega
  ·have:=h.Ue I g1;have:=cW.off g2;have bC:(default:cG).ep=0:=rfl;rw[this,bC]at cE;omega
  rfl
 refine Q3 adJ (Im λj aB=>?_) (by rw[h.iA (by decide),cW.iA (by decide)]) cE (by rw[h.NU (by decide),cW.NU (by decide)]);cases al:lead 32 m.ep j with
 |true=>exact(aS j aB al).symm
 | false=>
   have pt:ct m.b6 j=false:=by
    rw[pJ];intro bb;have:=h.Uf I j aB bb;rw[(Eh hp.1 hp.2).2 this]at al;cases al
   have uQ:ct sM.b6 j=false:=by
    rw[pJ];intro bb;have:=cW.Uf I j aB bb;rw[cE,(Eh hp'.1 hp'.2).2 this]at al;cases al
   rw[pt,uQ]
def Nr{α:Type}[Inhabited α]{l:aa α}(h:l.length=1):l=[ax l 0]:=by
 match l,h with
 |[x],_=>rfl
def acJ{α:Type}[Inhabited α]{l:aa α}(h:l.length=2):l=[ax l 0,ax l 1]:=by
 match l,h with
 |[x,y],_=>rfl
def JT{s:aZ}(h:b7 s){a c:bl}(aY:fE s 0 a)(ae:fE s 0 c):fG a c=true↔ft a=ft c:=by
 rw[tf];have bI:=aY.len;have lc:=ae.len;have Km:=aY.xx 0;have ql:=ae.xx 0;have Og:=aY.pri;have Oh:=ae.pri;rw[h.M7]at bI lc Km ql Og Oh;have hk:∀i,i<[sK].length->(ax [sK] i).dQ<=2:=by decide
 refine⟨λ⟨h1,ad,az⟩=>by unfold ft;rw[ad],λe=>⟨by rw[aY.fF,ae.fF],?_,by rw[Og hk,Oh hk]⟩⟩;have hv:=(I0.1 e).1;rw[oy (by decide),oy (by decide),bI,lc]at hv;have hv:(ax a.bP 0).b6=(ax c.bP 0).b6:=hv;rw[Nr (l:=a.bP) bI,Nr (l:=c.bP) lc,Zb (Km (by decide)) (ql (by decide)) hv]
def Fi{s:aZ}(h:b7 s){a c:bl}(aY:fE s 1 a)(ae:fE s 1 c):fG a c=true↔hL (ft a)=hL (ft c)∧lz a=lz c:=by
 rw[tf];have bI:=aY.len;have lc:=ae.len;have Km:=aY.xx 1;have ql:=ae.xx 1;have Og:=Nq h aY;have Oh:=Nq h ae;have m0:=yT h aY;have atj:=yT h ae;obtain⟨b,hb⟩:=h.IC;rw[hb]at bI lc Km ql;refine⟨λ⟨h1,ad,az⟩=>by unfold ft lz;rw[ad];exact⟨rfl,rfl⟩,λ⟨e,e'⟩=>⟨by rw[aY.fF,ae.fF],?_,by rw[Og,Oh]⟩⟩;have bC:=ala m0 atj e';cases b
 ·rw[Nr (l:=a.bP) bI,Nr (l:=c.bP) lc,bC]
 have ar:=(I0.1 e).2.1;rw[Mk,Mk,bf (by decide),bf (by decide),oy (by decide),oy (by decide),bI,lc]at ar;have ar:(ax a.bP 1).b6=(ax c.bP 1).b6:=ar;rw[acJ (l:=a.bP) bI,acJ (l:=c.bP) lc,bC,Zb (Km (by decide)) (ql (by decide)) ar]
structure ic(s:aZ)(k:Nat)(l:List aH):Prop where
 ok:kr s k l
 key:l.Pairwise λa c=>fG a.aX c.aX=false
def ic.uniq{s:aZ}{k:Nat}{l:aa aH}(h:ic s k l){a c:aH}(aY:a∈l)(ae:c∈l)(e:fG a.aX c.aX=true):a=c:=by
 have aM:=h.key;clear h;induction l with
 |nil=>cases aY
 | cons x l cj=>
   obtain⟨h1,ad⟩:=kz.1 aM
   rcases dP.1 aY with g1|g1 <;> rcases dP.1 ae with g2|g2
   ·rw[g1,g2]
   ·rw[g1,h1 c g2]at e;cases e
   ·rw[g2,s9,h1 a g1]at e;cases e
   exact cj g1 g2 ad
def dw(l:aa aH)(e:bl):aD aH:=l.find? λi=>fG i.aX e
def o7{l:aa aH}{e:bl}{i:aH}(h:dw l e=some i):i∈l∧fG i.aX e=true:=by
 unfold dw at h;have ad:=Pb h;exact⟨Cu h,ad⟩
def uh{l:aa aH}{e:bl}(h:dw l e=none):∀i∈l,fG i.aX e=false:=λi aq=>by
 have:=xO.1 h i aq;simpa using this
def ic.RS{s:aZ}{k:Nat}{l:aa aH}(h:ic s k l){e:bl}{i:aH}(aq:i∈l)(hk:fG i.aX e=true):dw l e=some i:=by
 cases aW:dw l e with
 |none=>rw[uh aW i aq]at hk;cases hk
 | some c=>
   obtain⟨h1,ad⟩:=o7 aW
   rw[h.uniq h1 aq (s6 ad (by rw[s9];exact hk))]
def q6(o:aD aH):Int×Bool:=match o with |some i=>(i.b0,true)|none=>(0,false)
def Zc{i:aH}{n:Int}(h:i.b0=n):q6 (some i)=(n,true):=by rw[<-h];rfl
def pF{α β:Type}(l:aa (α×β)):Prop:=l.Pairwise λa c=>a.1≠c.1
def Yh{α β:Type}[DecidableEq α]:∀{l:aa (α×β)} {x:α} {v:β} {a:α×β},a∈gP l x v->a.1=x∨a∈l
 | [],x,v,a,h=>by
   have:a=(x,v):=by simpa[gP]using h
   rw[this];exact .inl I
 | (k,w)::r,x,v,a,h=>by
   unfold gP at h;split at h
   ·rcases dP.1 h with h|h
    ·rw[h];exact .inl I
    exact .inr (by simp[h])
   rcases dP.1 h with h|h
   ·exact .inr (by simp[h])
   exact(Yh h).imp id λh=>gA _ h
def pF.put{α β:Type}[DecidableEq α]:∀{l:aa (α×β)} {x:α} {v:β},pF l->pF (gP l x v)
 |[],x,v,_=>by unfold gP pF;simp
 | (k,w)::r,x,v,h=>by
   obtain⟨h1,ad⟩:=kz.1 h;unfold gP;split
   ·rename_i e;refine kz.2 ⟨λa aY=>?_,ad⟩;have:=h1 a aY;rw[e];exact this
   rename_i e;refine kz.2 ⟨λa aY=>?_,pF.put ad⟩;rcases Yh aY with g|g
   ·rw[g];exact λe'=>e e'.symm
   exact h1 a g
def Yi{α β:Type}[DecidableEq α]:∀{l:aa (α×β)} {x:α} {a:α×β},a∈ju l x->a∈l
 |[],x,a,h=>by cases h
 | (k,w)::r,x,a,h=>by
   unfold ju at h;split at h
   ·exact gA _ h
   rcases dP.1 h with h|h
   ·simp[h]
   exact gA _ (Yi h)
def pF.del{α β:Type}[DecidableEq α]:∀{l:aa (α×β)} {x:α},pF l->pF (ju l x)
 |[],x,_=>by unfold ju pF;exact .nil
 | (k,w)::r,x,h=>by
   obtain⟨h1,ad⟩:=kz.1 h;unfold ju;split
   ·exact ad
   exact kz.2 ⟨λa aY=>h1 a (Yi aY),pF.del ad⟩
def Zd{α β:Type}[DecidableEq α]:∀{l:aa (α×β)} {x:α},(∀a∈l,a.1≠x)->dG l x=none
 |[],_,_=>rfl
 | (k,w)::r,x,h=>by
   unfold dG;rw[bf λe=>h (k,w) (by simp) e.symm,Zd λa aY=>h a (by simp[aY])]
def DV{α β:Type}[DecidableEq α]:∀{l:aa (α×β)} {x y:α},pF l->dG (ju l x) y=if y=x then none else dG l y
 | [],x,y,_=>by
   show none=if y=x then none else none;split <;> rfl
 | (k,w)::r,x,y,h=>by
   obtain⟨h1,ad⟩:=kz.1 h;unfold ju;by_cases e:x=k
   ·rw[bh e];by_cases aS:y=x
    ·rw[bh aS,aS,e];exact Zd λa aY=>(h1 a aY).symm
    rw[bf aS];show _=if y=k then _ else _;rw[bf (by rw[<-e];exact aS)]
   rw[bf e];show(if y=k then some w else dG (ju r x) y)=_;by_cases aS:y=k
   ·rw[bh aS,bf (by rw[aS];exact λcE=>e cE.symm)];show _=if y=k then _ else _;rw[bh aS]
   rw[bf aS,DV ad];show _=if y=x then none else if y=k then _ else _;rw[bf aS]
structure A3(s:aZ)(hp:aL Cell)(q:Nat)(l:List aH)(own:Nat->Prop):Prop where
 ok:∃m em,n0 hp q=some ⟨⟨some m⟩⟩∧nw hp m=some em∧own q∧own m∧(∀c5 n,dG em c5=some n↔∃i∈l,ft i.aX=c5∧i.b0=n)∧pF em
structure pb(s:aZ)(hp:aL Cell)(m:Nat)(l:List aH)(own:Nat->Prop):Prop where
 ok:∃em,lM hp m=some em∧own m∧
  (∀c5 r,dG em c5=some r->∃t g,r=some t∧kS hp t g∧(∀q,Own hp t q->own q)∧∀bd n,g bd=some n↔∃i∈l,hL (ft i.aX)=c5∧lz i.aX=bd∧i.b0=n)∧
  (∀c5,dG em c5=none->∀i∈l,hL (ft i.aX)≠c5)∧
  (∀c5 lV t gj,dG em c5=some (some t)->dG em lV=some (some gj)->c5≠lV->∀q,Own hp t q->¬Own hp gj q)∧pF em
structure A4(s:aZ)(k:Nat)(hp:aL Cell)(q:Nat)(l:List aH)(own:Nat->Prop):Prop where
 ok:∃key cap,rB hp q=some (rD s k l,key,cap)∧own q
def tn(s:aZ)(k:Nat)(hp:aL Cell)(f:iK)(l:aa aH)(own:Nat->Prop):Prop:=
 (k=0∧∃q,f=.pg ⟨some q⟩∧A3 s hp q l own)∨(k=1∧∃m,f=.ph ⟨0,32,⟨some m⟩⟩∧pb s hp m l own)∨(2<=k∧∃q,f=.pj ⟨some q⟩∧A4 s k hp q l own)
def PX{hp hp':aL Cell}{p:Nat}(h:pat hp' p=pat hp p):n0 hp' p=n0 hp p:=by unfold n0;rw[h]
def ahn{hp hp':aL Cell}{p:Nat}(h:pat hp' p=pat hp p):nw hp' p=nw hp p:=by unfold nw;rw[h]
def LH{hp hp':aL Cell}{p:Nat}(h:pat hp' p=pat hp p):lM hp' p=lM hp p:=by unfold lM;rw[h]
def aho{hp hp':aL Cell}{p:Nat}(h:pat hp' p=pat hp p):rB hp' p=rB hp p:=by unfold rB;rw[h]
def ahp{hp hp':aL Cell}{p:Nat}(h:pat hp' p=pat hp p):jc hp' p=jc hp p:=by unfold jc;rw[h]
def ahq{hp hp':aL Cell}{p:Nat}(h:pat hp' p=pat hp p):mV hp' p=mV hp p:=by unfold mV;rw[h]
def tn.congr{s:aZ}{k:Nat}{hp hp':aL Cell}{f:iK}{l:aa aH}{own:Nat->Prop}(h:tn s k hp f l own){own':Nat->Prop}(a6:∀q,q∈eb hp->own q->own' q)(aY:∀q,own q->pat hp' q=pat hp q):tn s k hp' f l own':=by
 rcases h with⟨rfl,q,rfl,h⟩|⟨rfl,m,rfl,h⟩|⟨hk,q,rfl,h⟩
 ·obtain⟨m,em,h1,ad,az,aV,bc,ko⟩:=h.ok;refine .inl ⟨rfl,q,rfl,⟨m,em,by rw[PX (aY q az)];exact h1,by rw[ahn (aY m aV)];exact ad,a6 q (kj (Io h1)) az,a6 m (kj (vw ad)) aV,bc,ko⟩⟩
 ·obtain⟨em,h1,ad,az,aV,bc,ko⟩:=h.ok;have key:∀c5 r,dG em c5=some r->∃t g,r=some t∧kS hp t g∧kS hp' t g∧(∀q,Own hp t q->own q)∧(∀q,Own hp' t q↔Own hp t q)∧∀bd n,g bd=some n↔∃i∈l,hL (ft i.aX)=c5∧lz i.aX=bd∧i.b0=n:=λc5 r aG=>by
   obtain⟨t,g,rfl,g1,g2,g3⟩:=az c5 r aG;obtain⟨g4,g5⟩:=g1.congr λq hq=>aY q (g2 q hq);exact⟨t,g,rfl,g1,g4,g2,g5,g3⟩
  refine .inr (.inl ⟨rfl,m,rfl,⟨em,by rw[LH (aY m ad)];exact h1,a6 m (kj (pa h1)) ad,λc5 r aG=>?_,aV,λc5 lV t gj bD B6 df q hq=>?_,ko⟩⟩)
  ·obtain⟨t,g,rfl,g0,g1,g2,g3,g4⟩:=key c5 r aG;exact⟨t,g,rfl,g1,λq hq=>a6 q (g0.A2 ((g3 q).1 hq)) (g2 q ((g3 q).1 hq)),g4⟩
  obtain⟨_,g,e,g0,g1,g2,g3,g4⟩:=key c5 _ bD;obtain⟨_,ed,e',avd,atk,atl,atm,ave⟩:=key lV _ B6;cases e;cases e';rw[atm];exact bc c5 lV t gj bD B6 df q ((g3 q).1 hq)
 obtain⟨key,cap,h1,ad⟩:=h.ok;exact .inr (.inr ⟨hk,q,rfl,⟨key,cap,by rw[aho (aY q ad)];exact h1,a6 q (kj (yp h1)) ad⟩⟩)
def Ml{e:bl}(al:e.bP.length<=4):x7 e=some (ft e):=by
 refine ba.get ?_;unfold x7;refine .eq (a:=e.bP) (by unfold mR;rw[bh ⟨by omega,by omega,by omega⟩,Int.toNat_zero,wq,Nat.sub_zero,pH (by omega)]) ?_;refine ba.loop e.bP.length (λi st=>st.1=(i:Int)∧∀j,j<4->bG st.2 j=if j<i then(ax e.bP j).b6 else default) (by omega) ⟨rfl,λj aB=>by rw[Lw];rfl⟩ (λi st aq hs=>?_) (λst hs=>?_)
 ·obtain⟨j,v⟩:=st;obtain⟨ar,aS⟩:=hs;simp only at ar aS;subst ar;refine .cond (λ_=>?_) (λae=>by simp at ae;omega);refine .idx I aq (.idx I (by omega) (.ret ⟨dA (by omega),λj aB=>?_⟩));rw[jE _ _ (by omega)];by_cases jK:j=i
  ·rw[bh jK,bh (by omega),jK]
  rw[bf jK,aS j aB];by_cases h:j<i
  ·rw[bh h,bh (by omega)]
  rw[bf h,bf (by omega)]
 obtain⟨j,v⟩:=st;obtain⟨ar,aS⟩:=hs;simp only at ar aS;subst ar;refine⟨_,by simp;rfl,.ret ?_⟩;exact Qr λj aB=>by rw[aS j aB,oy aB]
def fE.Ns{s:aZ}(h:b7 s){k:Nat}(hk:k<4){e:bl}(he:fE s k e):e.bP.length<=4∧1<=e.bP.length:=by
 have:=(h.fF hk).2.1;rw[he.len];omega
def ajK{a c:aa cG}(al:a.length<=1000):FT a c=some (decide (a=c)):=by
 refine ba.get ?_;unfold FT;refine .cond (λh=>.ret ?_) λh=>?_
 ·have:a≠c:=λe=>by rw[e]at h;simp at h
  simp[this]
 have nG:c.length=a.length:=by
  have:(a.length:Int)=c.length:=by simpa using h
  omega
 refine ba.loop a.length (λi st=>st=(i:Int)∧∀j,j<i->ax a j=ax c j) (by omega) ⟨rfl,λj aB=>by omega⟩ (λi st aq hs=>?_) (λst hs=>?_)
 ·obtain⟨rfl,hs⟩:=hs;refine .cond (λ_=>?_) (λae=>by simp at ae;omega);refine .idx I aq (.idx I (by omega) (.cond (λdf=>.ret ?_) λhe=>.ret ⟨dA (by omega),λj aB=>?_⟩))
  ·simp only[Sum.elim_inr];refine .ret ?_;have:a≠c:=λe=>by rw[e]at df;simp at df
   simp[this]
  by_cases jK:j=i
  ·subst jK;simpa using he
  exact hs j (by omega)
 obtain⟨rfl,hs⟩:=hs;refine⟨_,by simp;rfl,?_⟩;simp only[Sum.elim_inl];refine .ret ?_;have:a=c:=Gf nG.symm λj h1 ad=>by
  have:=hs j h1;rwa[dh _ h1,dh _ ad]at this
 simp[this]
def ah0{a c:bl}(al:a.bP.length<=1000):Hb a c=some (fG a c):=by
 refine ba.get ?_;unfold Hb fG;refine .bV (P:=λr=>r=decide (a.bP=c.bP)) (λ_=>⟨_,ajK al,rfl⟩) λy aT=>.ret ?_;by_cases h:a.bF=c.bF
 ·rw[aT (by simpa using h)];rw[kP];simp[h]
 simp[h]
def aoN{s:aZ}(h:b7 s){hp:aL Cell}{q:Nat}{l:aa aH}{own:Nat->Prop}(hq:A3 s hp q l own)(al:ic s 0 l){e:bl}(he:fE s 0 e):GO hp ⟨some q⟩ e=some (q6 (dw l e)):=by
 obtain⟨m,em,h1,ad,_,_,bc,_⟩:=hq.ok;refine ba.get ?_;unfold GO x0;refine .eq (Ml (he.Ns h (by decide)).1) ?_;have hm:dG em (ft e)=(dw l e).map (·.b0):=by
  cases aW:dw l e with
  | none=>
    cases bz:dG em (ft e)with
    |none=>rfl
    | some n=>
      obtain⟨i,aq,bq,_⟩:=(bc _ _).1 bz
      have:=uh aW i aq
      rw[(JT h (al.ok.ok i aq).dp he).2 bq]at this;cases this
  | some i=>
    obtain⟨aq,hk⟩:=o7 aW
    exact(bc _ _).2 ⟨i,aq,(JT h (al.ok.ok i aq).dp he).1 hk,rfl⟩
 refine .eq (a:=q6 (dw l e)) ?_ (.ret I);show(n0 hp q).bind _=_;rw[h1];show(nw hp m).bind _=_;rw[ad];show some ((dG em (ft e)).getD default,(dG em (ft e)).isSome)=_;rw[hm];cases dw l e <;> rfl
def Q4{s:aZ}(h:b7 s){e:bl}(he:fE s 1 e)(m:fl):zS ⟨0,32,m⟩ e=some (hL (ft e),(ax e.bP 0).b6,(ax e.bP 0).ep):=by
 have al:=he.Ns h (by decide);refine ba.get ?_;unfold zS CJ;refine .eq (Ml al.1) (.eq (a:=(hL (ft e),bG (ft e) 0)) I (.cond (λae=>by have ae:(0:Int)>=(e.bP.length:Int):=xP ae;omega) λ_=>.idx (k:=0) I (by omega) (.ret ?_)));rw[oy (by decide),bh (by omega)]
def Qu{m:cG}(h:sm 2 32 m):∀j,j<128->ct m.b6 j=true->lead 32 m.ep j=true:=λj aB bb=>
 (Eh h.pre.1 h.pre.2).2 (h.Uf I j aB bb)
def aoO{s:aZ}(h:b7 s){hp:aL Cell}{m:Nat}{l:aa aH}{own:Nat->Prop}(hq:pb s hp m l own)(al:ic s 1 l){e:bl}(he:fE s 1 e):Gn hp ⟨0,32,⟨some m⟩⟩ e=some (q6 (dw l e)):=by
 obtain⟨em,h1,_,az,aV,_⟩:=hq.ok;have h8:=yT h he;refine ba.get ?_;unfold Gn;refine .eq (Q4 h he _) (.eq I (.eq h1 (.eq I ?_)));obtain⟨n,aM⟩:=pG h8.pre.1;have I1:n<=32:=by have:=h8.pre.2;omega
 have yF:=Qu h8;refine .eq (a:=q6 (dw l e)) ?_ (.ret I);simp only;cases aG:dG em (hL (ft e))with
 | none=>
   have aW:dw l e=none:=by
    cases aW:dw l e with
    |none=>rfl
    | some i=>
      obtain⟨aq,hk⟩:=o7 aW
      exact absurd ((Fi h (al.ok.ok i aq).dp he).1 hk).1 (aV _ aG i aq)
   rw[aW];rfl
 | some r=>
   obtain⟨t,g,rfl,g1,_,g3⟩:=az _ _ aG
   have bz:g (lz e)=(dw l e).map (·.b0):=by
    cases aW:dw l e with
    | none=>
      cases Um:g (lz e)with
      |none=>rfl
      | some n=>
        obtain⟨i,aq,bq,c7,_⟩:=(g3 _ _).1 Um
        have:=uh aW i aq
        rw[(Fi h (al.ok.ok i aq).dp he).2 ⟨bq,c7⟩]at this;cases this
    | some i=>
      obtain⟨aq,hk⟩:=o7 aW
      obtain⟨bq,c7⟩:=(Fi h (al.ok.ok i aq).dp he).1 hk
      exact(g3 _ _).2 ⟨i,aq,bq,c7,rfl⟩
   rw[aM]at yF⊢
   show Ak hp (some t) _ (n:Int)=_
   rw[ZN g1 I1 yF]
   have hp':dT (ax e.bP 0).b6 n=lz e:=by unfold lz;rw[aM];rfl
   rw[hp',bz]
   cases dw l e <;> rfl
def aoP{s:aZ}(h:b7 s){k:Nat}(hk:k<4){hp:aL Cell}{q:Nat}{l:aa aH}{own:Nat->Prop}(hq:A4 s k hp q l own)(al:ic s k l){e:bl}(he:fE s k e):GS hp ⟨some q⟩ e=some (q6 (dw l e)):=by
 obtain⟨key,cap,h1,_⟩:=hq.ok;refine ba.get ?_;unfold GS;refine .eq I (.eq h1 (.eq (amd h hk al.ok) ?_));obtain⟨ky,hf⟩:=al.ok.eY;have aW:dw l e=(eY (eR s k) l).find? λi=>fG i.aX e:=by
  cases aW:dw l e with
  | none=>
    symm
    rw[xO]
    intro x au
    rw[uh aW x (ry.1 au)];simp
  | some i=>
    obtain⟨aq,rR⟩:=o7 aW
    exact(Mj (ur s k) al.ok.zk aq rR λd hd atn=>.inl (al.uniq hd aq (s6 atn (by rw[s9];exact rR)))).symm
 rw[aW];refine ba.loop (eY (eR s k) l).length (λi st=>st=(i:Int)∧∀j,j<i->fG (ax (eY (eR s k) l) j).aX e=false) (by omega) ⟨rfl,λj aB=>by omega⟩ (λi st aq hs=>?_) (λst hs=>?_)
 ·obtain⟨rfl,hs⟩:=hs;refine .cond (λ_=>?_) (λae=>by simp at ae;omega);have hm:=ky (ax (eY (eR s k) l) i) (by rw[dh _ aq];exact j0 _);refine .idx I aq (.eq (ah0 (hm.small h hk).1) (.cond (λae=>.ret ?_) λae=>.ret ⟨dA (by omega),λj aB=>?_⟩))
  ·simp only[Sum.elim_inr];refine .ret ?_;rw[QU (p:=λi=>fG i.aX e) aq ae hs];rfl
  by_cases jK:j=i
  ·subst jK;exact ae
  exact hs j (by omega)
 obtain⟨rfl,hs⟩:=hs;refine⟨_,by simp;rfl,?_⟩;simp only[Sum.elim_inl];refine .ret ?_;rw[QV λc ae=>?_]
 ·rfl
 obtain⟨j,aB,rfl⟩:=xN.1 ae;rw[<-dh _ aB];exact hs j aB
def abk{s:aZ}(h:b7 s){k:Nat}(hk:k<4){hp:aL Cell}{f:iK}{l:aa aH}{own:Nat->Prop}(hq:tn s k hp f l own)(al:ic s k l){e:bl}(he:fE s k e):K3 hp f e=some (q6 (dw l e)):=by
 rcases hq with⟨rfl,q,rfl,hq⟩|⟨rfl,m,rfl,hq⟩|⟨c0,q,rfl,hq⟩
 ·exact aoN h hq al he
 ·exact aoO h hq al he
 exact aoP h hk hq al he
def j8(s:aZ)(k:Nat)(l:aa aH)(p:Vector aN 4):aD aH:=(eY (eR s k) l).find? λc=>mt s k p c.aX
def Ze{s:aZ}{k:Nat}{l:aa aH}{p:Vector aN 4}{i:aH}(h:j8 s k l p=some i):i∈l:=by
 unfold j8 at h;exact ry.1 (Cu h)
def aoQ{s:aZ}(h:b7 s){k:Nat}(hk:k<4)(p:Vector aN 4)(e:bl):mt s k (nj (jk s k) p) e=mt s k p e:=by
 unfold mt;rw[kP,lj,lj];have al:=(h.fF hk).2.1;have key:∀i∈List.range (ax s.bL k).cr.length,bG (nj (jk s k) p) i=bG p i:=λi aq=>by
  have:=lH.1 aq;rw[qx (by omega),bh (show i<jk s k from this)]
 exact⟨λh1 i aq=>by have:=h1 i aq;rwa[key i aq]at this,λh1 i aq=>by rw[key i aq];exact h1 i aq⟩
def aoR{s:aZ}(h:b7 s){hp:aL Cell}{q:Nat}{l:aa aH}{own:Nat->Prop}(hq:A3 s hp q l own)(al:ic s 0 l)(p:Vector aN 4):Gh hp ⟨some q⟩ (nj (jk s 0) p)=some (q6 (j8 s 0 l p)):=by
 obtain⟨m,em,h1,ad,_,_,bc,_⟩:=hq.ok;have hb:=aoM h al.ok p (o:=dG em (nj (jk s 0) p)) λn=>bc _ n;refine ba.get ?_;unfold Gh x0;refine .eq (a:=q6 (j8 s 0 l p)) ?_ (.ret I);show(n0 hp q).bind _=_;rw[h1];show(nw hp m).bind _=_;rw[ad];show some ((dG em (nj (jk s 0) p)).getD default,(dG em (nj (jk s 0) p)).isSome)=_;cases bz:dG em (nj (jk s 0) p)with
 | none=>
   have hb:j8 s 0 l p=none:=hb.2 bz
   rw[hb];rfl
 | some n=>
   obtain⟨i,_,ar,aS⟩:=hb.1 n bz
   have aS:j8 s 0 l p=some i:=aS
   rw[aS,Zc ar];rfl
def abl{g:aa Bool->aD Int}(h:∀bd,g bd=none)(v:aN):∀m,lF g v m=none
 |0=>by unfold lF;rw[h];rfl
 |m+1=>by unfold lF;rw[h];exact abl h v m
def aoS{s:aZ}(h:b7 s){hp:aL Cell}{m:Nat}{l:aa aH}{own:Nat->Prop}(hq:pb s hp m l own)(al:ic s 1 l)(p:Vector aN 4):F2 hp ⟨0,32,⟨some m⟩⟩ (nj (jk s 1) p)=some (q6 (j8 s 1 l p)):=by
 obtain⟨em,h1,_,az,aV,_⟩:=hq.ok;have aM:1<=jk s 1:=(h.fF (show 1<4 by decide)).2.1.1;refine ba.get ?_;unfold F2 CJ;refine .eq (a:=(hL (nj (jk s 1) p),bG p 0)) (by show some (hL (nj (jk s 1) p),bG (nj (jk s 1) p) 0)=_;rw[qx (by decide),bh (by omega)]) (.eq I (.eq h1 (.eq I ((QY 32).bind λaE aS=>.eq (and_eq _ _) ?_))));simp only;have bb:∀j,j<128->ct (xb (bG p 0) aE) j=(ct (bG p 0) j&&decide (j<32)):=λj aB=>by
  rw[D4,aS j aB];congr 1;rw[ra];omega
 cases aG:dG em (hL (nj (jk s 1) p))with
 | none=>
   have hb:=abj h al.ok p bb (g:=λ_=>none) λbd n=>⟨λh=>(by cases h),λ⟨i,aq,bq,_⟩=>absurd bq (aV _ aG i aq)⟩
   rw[abl (λ_=>rfl)]at hb
   have hb:j8 s 1 l p=none:=hb
   rw[hb]
   exact .eq I (.ret I)
 | some r=>
   obtain⟨t,g,rfl,g1,_,g3⟩:=az _ _ aG
   have hb:=abj h al.ok p bb g3
   have hs:Small (xb (bG p 0) aE):=λj aB hb=>by
    rw[bb j aB,gl,e5]at hb;exact hb.2
   refine .eq (ahZ g1 hs) (.ret ?_)
   cases NY:lF g (xb (bG p 0) aE) 32 with
   | none=>
     rw[NY]at hb
     have hb:j8 s 1 l p=none:=hb
     rw[hb];rfl
   | some r=>
     rw[NY]at hb
     obtain⟨i,_,ar,cE⟩:=hb
     have cE:j8 s 1 l p=some i:=cE
     rw[cE,Zc ar];rfl
def aoT{s:aZ}(h:b7 s){k:Nat}(hk:k<4){hp:aL Cell}{q:Nat}{l:aa aH}{own:Nat->Prop}(hq:A4 s k hp q l own)(al:ic s k l)(p:Vector aN 4):Gp hp ⟨some q⟩ (nj (jk s k) p)=some (q6 (j8 s k l p)):=by
 obtain⟨key,cap,h1,_⟩:=hq.ok;refine ba.get ?_;unfold Gp;refine .eq I (.eq h1 (.eq (ahX h hk al.ok _) (.ret ?_)));have:((eY (eR s k) l).find? λc=>mt s k (nj (jk s k) p) c.aX)=j8 s k l p:=by
  unfold j8;congr 1;funext c;exact aoQ h hk p c.aX
 rw[this];cases j8 s k l p <;> rfl
def aoU{s:aZ}(h:b7 s){k:Nat}(hk:k<4){hp:aL Cell}{f:iK}{l:aa aH}{own:Nat->Prop}(hq:tn s k hp f l own)(al:ic s k l)(p:Vector aN 4):O2 hp f (nj (jk s k) p)=some (q6 (j8 s k l p)):=by
 rcases hq with⟨rfl,q,rfl,hq⟩|⟨rfl,m,rfl,hq⟩|⟨c0,q,rfl,hq⟩
 ·exact aoR h hq al p
 ·exact aoS h hq al p
 exact aoT h hk hq al p
def oF(own:Nat->Prop)(hp hp':aL Cell)(q:Nat):Prop:=own q∨(q∉eb hp∧q∈eb hp')
def Yj{hp:aL Cell}{p:Nat}{k:Cell}{x:aa (Vector aN 4×Int)}(h:pat hp p=some k):nw (cJ hp p (.rE x)) p=some x:=by unfold nw;rw[te h]
def Yk{hp:aL Cell}{p:Nat}{k:Cell}{x:aa (Vector aN 4×Ref)}(h:pat hp p=some k):lM (cJ hp p (.oG x)) p=some x:=by unfold lM;rw[te h]
def arZ{s:aZ}(h:b7 s){hp:aL Cell}{q:Nat}{l:aa aH}{own:Nat->Prop}(hq:A3 s hp q l own)(al:ic s 0 l){i:aH}(aq:kq s 0 i)(aW:dw l i.aX=none):
 ba (GY hp ⟨some q⟩ i) (λhp'=>A3 s hp' q (l++[i]) (oF own hp hp')∧fr hp hp' own):=by
 obtain⟨m,em,h1,ad,az,aV,bc,ko⟩:=hq.ok
 have fK:dG em (ft i.aX)=none:=by
  cases bz:dG em (ft i.aX)with
  |none=>rfl
  | some n=>
    obtain⟨c,ae,bq,_⟩:=(bc _ _).1 bz
    have:=uh aW c ae
    rw[(JT h (al.ok.ok c ae).dp aq.dp).2 bq]at this;cases this
 unfold GY Lh
 refine .eq (Ml (aq.dp.Ns h (by decide)).1) ?_
 refine .eq (a:=(true,cJ hp m (Cell.rE (gP em (ft i.aX) i.b0)))) ?_ (.ret ?_)
 ·show(n0 hp q).bind _=_
  rw[h1]
  show(nw hp m).bind _=_
  rw[ad]
  show cond (dG em (ft i.aX)).isSome _ _=_
  rw[fK]
  show(n0 hp q).bind _=_
  rw[h1]
  show(nw hp m).bind _=_
  rw[ad];rfl
 have B7:q≠m:=λe=>by
  subst e;have:=Io h1;rw[vw ad]at this;cases this
 refine⟨⟨m,_,by rw[PX (nr B7.symm)];exact h1,Yj (vw ad),.inl az,.inl aV,λc5 n=>?_,ko.put⟩,.up aV⟩
 rw[wC]
 by_cases iB:c5=ft i.aX
 ·rw[bh iB]
  constructor
  ·intro e
   cases e
   exact⟨i,by simp,iB.symm,rfl⟩
  rintro ⟨c,ae,bq,c7⟩
  rcases cF.1 ae with ae|ae
  ·have:=(bc _ _).2 ⟨c,ae,bq,c7⟩
   rw[iB,fK]at this;cases this
  rw[hx.1 ae]at c7;rw[c7]
 rw[bf iB,bc]
 constructor
 ·rintro ⟨c,ae,bq⟩;exact⟨c,by simp[ae],bq⟩
 rintro ⟨c,ae,bq,c7⟩
 rcases cF.1 ae with ae|ae
 ·exact⟨c,ae,bq,c7⟩
 rw[hx.1 ae]at bq;exact absurd bq.symm iB
def ar0{s:aZ}(h:b7 s){hp:aL Cell}{m:Nat}{l:aa aH}{own:Nat->Prop}(hq:pb s hp m l own)(ha:∀q,own q->q∈eb hp)(al:ic s 1 l){i:aH}(aq:kq s 1 i)(aW:dw l i.aX=none)
 {em:aa (Vector aN 4×Ref)} (oP:lM hp m=some em) {t:Nat} (bD:dG em (hL (ft i.aX))=some (some t)):
 cO (DA hp (some t) (ax i.aX.bP 0).b6 (ax i.aX.bP 0).ep i.b0) (λr=>pb s r.2 m (l++[i]) (oF own hp r.2)∧fr hp r.2 own):=by
 obtain⟨ato,h1,ad,az,aV,bc,ko⟩:=hq.ok
 rw[oP]at h1;cases h1
 have h8:=yT h aq.dp
 obtain⟨gj,g,e,g1,g2,g3⟩:=az _ _ bD
 cases e
 obtain⟨n,aM⟩:=pG h8.pre.1
 have I1:n<=32:=by have:=h8.pre.2;omega
 have yF:=Qu h8
 have hp':dT (ax i.aX.bP 0).b6 n=lz i.aX:=by unfold lz;rw[aM];rfl
 have fK:g (lz i.aX)=none:=by
  cases Um:g (lz i.aX)with
  |none=>rfl
  | some n=>
    obtain⟨c,ae,bq,c7,_⟩:=(g3 _ _).1 Um
    have:=uh aW c ae
    rw[(Fi h (al.ok.ok c ae).dp aq.dp).2 ⟨bq,c7⟩]at this;cases this
 rw[aM]at yF⊢
 refine(aoK g1 I1 yF i.b0 (by rw[hp'];exact fK)).mono λr aG=>?_
 obtain⟨_,ky,hf,rX⟩:=aG
 rw[hp']at ky
 have Fh:∀q,Own hp t q->q≠m:=λq Un e=>by
  have:=pa oP;rw[<-e]at this;rcases g1.MG Un with⟨c,ae⟩|⟨c,ae⟩ <;> rw[ae]at this <;> cases this
 have nI:pat r.2 m=pat hp m:=hf.rest m (kj (pa oP)) λhq=>Fh m hq I
 have vD:∀c5 gj,c5≠hL (ft i.aX)->dG em c5=some (some gj)->∃ed,kS hp gj ed∧kS r.2 gj ed∧(∀q,Own hp gj q->own q)∧(∀q,Own r.2 gj q↔Own hp gj q)∧∀bd n,ed bd=some n↔∃i∈l,hL (ft i.aX)=c5∧lz i.aX=bd∧i.b0=n:=λc5 gj df aG=>by
  obtain⟨atp,ed,e,bX,a2,a3⟩:=az c5 _ aG;cases e;obtain⟨dM,eF⟩:=bX.congr (hp':=r.2) λq hq=>hf.rest q (bX.A2 hq) λqU=>bc _ _ _ _ bD aG df.symm q qU hq;exact⟨ed,bX,dM,a2,eF,a3⟩
 have IZ:∀q,Own r.2 t q->oF own hp r.2 q:=λq hq=>by
  rcases rX q hq with bq|bq
  ·exact .inl (g2 q bq)
  exact .inr ⟨bq,ky.A2 hq⟩
 refine⟨⟨em,by rw[LH nI];exact oP,.inl ad,λc5 lX kp=>?_,λc5 iB c ae=>?_,λc5 lV t1 t2 lf l8 df q jL rO=>?_,ko⟩,⟨hf.keys,λq hq fK=>hf.rest q hq λqU=>fK (g2 q qU)⟩⟩
 ·by_cases iB:c5=hL (ft i.aX)
  ·subst iB
   rw[bD]at kp;cases kp
   refine⟨t,_,rfl,ky,IZ,λbd r1=>?_⟩
   by_cases nd:bd=lz i.aX
   ·simp only[bh nd]
    constructor
    ·intro e;cases e
     exact⟨i,by simp,rfl,nd.symm,rfl⟩
    rintro ⟨c,ae,bq,c7,c9⟩
    rcases cF.1 ae with ae|ae
    ·have:=(g3 _ _).2 ⟨c,ae,bq,c7,c9⟩
     rw[nd,fK]at this;cases this
    rw[hx.1 ae]at c9;rw[c9]
   simp only[bf nd]
   rw[g3]
   constructor
   ·rintro ⟨c,ae,bq⟩;exact⟨c,by simp[ae],bq⟩
   rintro ⟨c,ae,bq,c7,c9⟩
   rcases cF.1 ae with ae|ae
   ·exact⟨c,ae,bq,c7,c9⟩
   rw[hx.1 ae]at c7;exact absurd c7.symm nd
  obtain⟨gj,ed,e,_⟩:=az c5 lX kp
  subst e
  obtain⟨B8,bX,a2,a3,a4,a5⟩:=vD c5 gj iB kp
  refine⟨gj,B8,rfl,a2,λq hq=>.inl (a3 q ((a4 q).1 hq)),λbd r1=>?_⟩
  rw[a5]
  constructor
  ·rintro ⟨c,ae,bq⟩;exact⟨c,by simp[ae],bq⟩
  rintro ⟨c,ae,bq,c7⟩
  rcases cF.1 ae with ae|ae
  ·exact⟨c,ae,bq,c7⟩
  rw[hx.1 ae]at bq;exact absurd bq.symm iB
 ·rcases cF.1 ae with ae|ae
  ·exact aV c5 iB c ae
  rw[hx.1 ae]
  intro e
  rw[<-e,bD]at iB;cases iB
 
 have ZO:∀c5 gj,c5≠hL (ft i.aX)->dG em c5=some (some gj)->∀q,Own r.2 t q->¬Own r.2 gj q:=λc5 gj df aG q hq qU=>by
  obtain⟨B8,bX,a2,a3,a4,a5⟩:=vD c5 gj df aG;have qU:=(a4 q).1 qU;rcases rX q hq with bq|bq
  ·exact bc _ _ _ _ bD aG df.symm q bq qU
  exact bq (bX.A2 qU)
 by_cases ar:c5=hL (ft i.aX)
 ·subst ar
  rw[bD]at lf;cases lf
  exact ZO lV t2 df.symm l8 q jL rO
 by_cases aS:lV=hL (ft i.aX)
 ·subst aS
  rw[bD]at l8;cases l8
  exact ZO c5 t1 ar lf q rO jL
 obtain⟨_,_,_,_,a4,_⟩:=vD c5 t1 ar lf
 obtain⟨_,_,_,_,Of,_⟩:=vD lV t2 aS l8
 exact bc _ _ _ _ lf l8 df q ((a4 q).1 jL) ((Of q).1 rO)
def agW{own:Nat->Prop}{bC h1 ad:aL Cell}{q:Nat}(hk:∀q,q∈eb bC->q∈eb h1)(c0:∀q,q∈eb h1->q∈eb ad)(h:oF (oF own bC h1) h1 ad q):oF own bC ad q:=by
 rcases h with(h|⟨h,cW⟩)|⟨h,cW⟩
 ·exact .inl h
 ·exact .inr ⟨h,c0 q cW⟩
 exact .inr ⟨λaz=>h (hk q az),cW⟩
def pb.mono{s:aZ}{hp:aL Cell}{m:Nat}{l:aa aH}{own own':Nat->Prop}(h:pb s hp m l own)(a6:∀q,own q->own' q):pb s hp m l own':=by
 obtain⟨em,h1,ad,az,aV,bc,ko⟩:=h.ok;exact⟨em,h1,a6 m ad,λc5 r aG=>by obtain⟨t,g,e,a,b,c⟩:=az c5 r aG;exact⟨t,g,e,a,λq hq=>a6 q (b q hq),c⟩,aV,bc,ko⟩
def fr.grow{bC h1 ad:aL Cell}{own:Nat->Prop}(a:fr bC h1 own)(b:fr h1 ad (oF own bC h1)):fr bC ad own:=
 a.trans b λq hq h=>h.elim (λh=>h) λh=>absurd hq h.1
def ar1{s:aZ}{hp:aL Cell}{m:Nat}{l:aa aH}{own:Nat->Prop}(hq:pb s hp m l own)
 {em:aa (Vector aN 4×Ref)} (oP:lM hp m=some em) {c5:Vector aN 4} (fK:dG em c5=none) {a:Nat} (aY:a∉eb hp) {z:hY} (bU:z.hA=32) (aG:z.eQ=none):
 pb s (cJ ((a,Cell.lO z)::hp) m (.oG (gP em c5 (some a)))) m l (oF own hp (cJ ((a,Cell.lO z)::hp) m (.oG (gP em c5 (some a)))))∧fr hp (cJ ((a,Cell.lO z)::hp) m (.oG (gP em c5 (some a)))) own∧
  lM (cJ ((a,Cell.lO z)::hp) m (.oG (gP em c5 (some a)))) m=some (gP em c5 (some a)):=by
 obtain⟨ato,h1,ad,az,aV,bc,ko⟩:=hq.ok
 rw[oP]at h1;cases h1
 have nI:=pa oP
 have adP:=HN aY nI
 have bR:pat ((a,Cell.lO z)::hp) m=some (.oG em):=by rw[lp,bf adP];exact nI
 generalize cc:cJ ((a,Cell.lO z)::hp) m (.oG (gP em c5 (some a)))=bQ
 have g1:lM bQ m=some (gP em c5 (some a)):=by rw[<-cc];exact Yk bR
 have g2:pat bQ a=some (.lO z):=by rw[<-cc,nr adP.symm,lp,bh I]
 have g3:∀q,q≠m->q≠a->pat bQ q=pat hp q:=λq B7 pz=>by rw[<-cc,nr B7.symm,lp,bf pz.symm]
 have hk:fr hp bQ own:=by
  rw[<-cc];exact(fr.mk' (own:=own) aY).trans (fr.up ad) λq _ h=>h
 have adQ:gD bQ a=some z:=wD.2 g2
 have aoV:kS bQ a (λ_=>none):=⟨z,adQ,bU,by rw[aG];exact⟨λbd p h=>(by rw[hZ]at h;cases h),λbd cs p h _=>(by rw[hZ]at h;cases h),λbd p h=>(by rw[hZ]at h;cases h)⟩,λbd=>by rw[aG];exact mn hZ⟩
 have SH:∀q,Own bQ a q->q=a:=λq tM=>by
  rcases tM with h|⟨c,bd,bq,c7⟩
  ·exact h
  rw[adQ]at bq;cases bq;rw[aG,hZ]at c7;cases c7
 have hold:∀t g,kS hp t g->kS bQ t g∧∀q,Own bQ t q↔Own hp t q:=λt g bD=>bD.congr λq tM=>by
  refine g3 q (λe=>?_) λe=>aY (by rw[<-e];exact bD.A2 tM);rw[<-e]at nI;rcases bD.MG tM with⟨c,ae⟩|⟨c,ae⟩ <;> rw[ae]at nI <;> cases nI
 refine⟨⟨_,g1,.inl ad,λlV r kp=>?_,λlV kp=>?_,λUo NZ t1 t2 lf l8 df q jL rO=>?_,ko.put⟩,hk,g1⟩
 ·rw[wC]at kp
  by_cases e:lV=c5
  ·rw[bh e]at kp;cases kp
   exact⟨a,_,rfl,aoV,λq tM=>by rw[SH q tM];exact .inr ⟨aY,kj g2⟩,λbd n=>⟨λh=>(by cases h),λ⟨i,aq,bq,_⟩=>absurd (bq.trans e) (aV c5 fK i aq)⟩⟩
  rw[bf e]at kp
  obtain⟨t,g,rfl,bX,a2,a3⟩:=az lV r kp
  obtain⟨dM,eF⟩:=hold t g bX
  exact⟨t,g,rfl,dM,λq tM=>.inl (a2 q ((eF q).1 tM)),a3⟩
 ·rw[wC]at kp
  by_cases e:lV=c5
  ·rw[bh e]at kp;cases kp
  rw[bf e]at kp;exact aV lV kp
 rw[wC]at lf l8
 have au:∀lV gj,dG em lV=some (some gj)->∀q,q=a->¬Own bQ gj q:=λlV gj B6 q e tM=>by
  obtain⟨t,g,e',bX,_⟩:=az lV _ B6;cases e';have:=(hold gj g bX).2 q |>.1 tM;exact aY (by rw[<-e];exact bX.A2 this)
 by_cases ar:Uo=c5
 ·rw[bh ar]at lf;cases lf
  by_cases aS:NZ=c5
  ·exact df (ar.trans aS.symm)
  rw[bf aS]at l8
  exact au NZ t2 l8 q (SH q jL) rO
 rw[bf ar]at lf
 by_cases aS:NZ=c5
 ·rw[bh aS]at l8;cases l8
  exact au Uo t1 lf q (SH q rO) jL
 rw[bf aS]at l8
 obtain⟨t,g,e',bX,_⟩:=az Uo _ lf
 cases e'
 obtain⟨gj,ed,TX,atq,_⟩:=az NZ _ l8
 cases TX
 exact bc _ _ _ _ lf l8 df q (((hold _ _ bX).2 q).1 jL) (((hold _ _ atq).2 q).1 rO)
def aoW{s:aZ}(h:b7 s){hp:aL Cell}{m:Nat}{l:aa aH}{own:Nat->Prop}(hq:pb s hp m l own)(ha:∀q,own q->q∈eb hp)(al:ic s 1 l){i:aH}(aq:kq s 1 i)(aW:dw l i.aX=none):
 cO (GC hp ⟨0,32,⟨some m⟩⟩ i) (λhp'=>pb s hp' m (l++[i]) (oF own hp hp')∧fr hp hp' own):=by
 obtain⟨em,oP,ad,az,aV,bc,_⟩:=hq.ok
 unfold GC
 refine .eq (Q4 h aq.dp _) (.eq I (.eq oP (.eq I ?_)))
 simp only
 refine .bind (P:=λm1=>pb s m1 m l (oF own hp m1)∧fr hp m1 own∧∃Up t,lM m1 m=some Up∧dG Up (hL (ft i.aX))=some (some t)) (.cond (λae=>?_) λae=>.ret ?_) λm1 bR=>?_
 ·have fK:dG em (hL (ft i.aX))=none:=by
   cases bz:dG em (hL (ft i.aX))with
   |none=>rfl
   | some r=>
     obtain⟨t,_,rfl,_⟩:=az _ _ bz
     rw[bz]at ae;cases ae
  unfold LJ
  refine .bind (P:=λr=> ∃a,a∉eb hp∧r=((some a:Ref),(a,Cell.lO ({(default:hY)with hA:=32}))::hp)) (.eq I (.mk λa aY=>.ret ⟨a,aY,rfl⟩)) λbg bq=>?_
  obtain⟨a,aY,rfl⟩:=bq
  have k8:lM ((a,Cell.lO ({(default:hY)with hA:=32}))::hp) m=some em:=(LH (hp:=hp) (by rw[lp,bf (HN aY (pa oP))])).trans oP
  obtain⟨g1,g2,g3⟩:=ar1 hq oP fK aY (z:= {(default:hY)with hA:=32}) I I
  refine .eq k8 (.eq I (.ret ⟨g1,g2,_,a,g3,by rw[wC,bh I]⟩))
 ·cases bz:dG em (hL (ft i.aX))with
  |none=>rw[bz]at ae;cases ae
  | some r=>
    obtain⟨t,_,rfl,_⟩:=az _ _ bz
    exact⟨hq.mono λq hq=>.inl hq,.refl,em,t,oP,bz⟩
 obtain⟨g1,g2,Up,t,g3,g4⟩:=bR
 refine .eq g3 (.eq I ?_)
 simp only[g4]
 refine .bind (ar0 h g1 (λq hq=>hq.elim (λhq=>g2.keys q (ha q hq)) λhq=>hq.2) al aq aW g3 g4) λr aG=>.ret ?_
 exact⟨aG.1.mono λq hq=>agW g2.keys aG.2.keys hq,g2.grow aG.2⟩
def Yl{hp:aL Cell}{p:Nat}{k:Cell}{x:eh}{y:aD Nat}{n:Nat}(h:pat hp p=some k):rB (cJ hp p (.vL x y n)) p=some (x,y,n):=by unfold rB;rw[te h]
def aoX{s:aZ}(h:b7 s){k:Nat}(hk:k<4){hp:aL Cell}{q:Nat}{l:aa aH}{own:Nat->Prop}(hq:A4 s k hp q l own)(al:ic s k l){i:aH}(aq:kq s k i)(jz:j7 l i.b0=false)(hlen:l.length<900):
 cO (G0 hp ⟨some q⟩ i) (λhp'=>A4 s k hp' q (l++[i]) (oF own hp hp')∧fr hp hp' own):=by
 obtain⟨key,cap,h1,ad⟩:=hq.ok
 unfold G0
 refine .eq I (.eq h1 (.eq (amc h hk al.ok aq hlen) (.any λaw=>.eq I (.ret ?_))))
 rw[jz]
 exact⟨⟨aw.1,aw.2,Yl (yp h1),.inl ad⟩,.up ad⟩
def aoY{s:aZ}(h:b7 s){k:Nat}(hk:k<4){hp:aL Cell}{f:iK}{l:aa aH}{own:Nat->Prop}(hq:tn s k hp f l own)(ha:∀q,own q->q∈eb hp)(al:ic s k l){i:aH}(aq:kq s k i)(aW:dw l i.aX=none)(jz:j7 l i.b0=false)(hlen:l.length<900):
 cO (Pk hp f i) (λhp'=>tn s k hp' f (l++[i]) (oF own hp hp')∧fr hp hp' own):=by
 rcases hq with⟨rfl,q,rfl,hq⟩|⟨rfl,m,rfl,hq⟩|⟨c0,q,rfl,hq⟩
 ·exact cO.of ((arZ h hq al aq aW).mono λhp' aG=>⟨.inl ⟨rfl,q,rfl,aG.1⟩,aG.2⟩)
 ·exact(aoW h hq ha al aq aW).mono λhp' aG=>⟨.inr (.inl ⟨rfl,m,rfl,aG.1⟩),aG.2⟩
 exact(aoX h hk hq al aq jz hlen).mono λhp' aG=>⟨.inr (.inr ⟨c0,q,rfl,aG.1⟩),aG.2⟩
def Qv{α β:Type}[DecidableEq α]:∀{l:aa (α×β)} {x:α} {v:β},dG l x=some v->(x,v)∈l
 |[],_,_,h=>by cases h
 | (k,w)::r,x,v,h=>by
   unfold dG at h;split at h
   ·rename_i e;cases h;rw[e];simp
   exact gA _ (Qv h)
def Zf{α β:Type}[DecidableEq α]:∀{l:aa (α×β)} {x:α} {v:β},l.Pairwise (λa c=>a.1≠c.1)->(x,v)∈l->dG l x=some v
 |[],_,_,_,h=>by cases h
 | (k,w)::r,x,v,aM,h=>by
   obtain⟨h1,ad⟩:=kz.1 aM;unfold dG;rcases dP.1 h with h|h
   ·cases h;rw[bh I]
   rw[bf (λe=>h1 _ h e.symm),Zf ad h]
def Ym{α β:Type}[DecidableEq α]:∀{l:aa (α×β)} {x:α} {v:β},dG l x=none->gP l x v=l++[(x,v)]
 |[],_,_,_=>rfl
 | (k,w)::r,x,v,h=>by
   unfold dG at h;split at h
   ·cases h
   rename_i e;show(if x=k then _ else _)=_;rw[bf e,Ym h];rfl
def xe(em:aa (Int×aH))(l:aa aH):Prop:=em.Perm (l.map λi=>(i.b0,i))
def xe.get{s:aZ}{k:Nat}{em:aa (Int×aH)}{l:aa aH}(h:xe em l)(al:kr s k l)(n:Int)(i:aH):dG em n=some i↔i∈l∧i.b0=n:=by
 have hd:em.Pairwise (λa c=>a.1≠c.1):=by
  refine(h.pairwise_iff λbW=>x8 bW).2 ?_;rw[CH];exact al.num.imp λbW=>bW
 have hm:(n,i)∈em↔i∈l∧i.b0=n:=by
  rw[h.mem_iff,ig];constructor
  ·rintro ⟨c,ae,e⟩;cases e;exact⟨ae,rfl⟩
  rintro ⟨aq,rfl⟩;exact⟨i,aq,rfl⟩
 rw[<-hm];exact⟨Qv,Zf hd⟩
def xe.no{s:aZ}{k:Nat}{em:aa (Int×aH)}{l:aa aH}(h:xe em l)(al:kr s k l)(n:Int):(dG em n).isSome=j7 l n:=by
 rw[kP,Cv];unfold j7;rw[ot];constructor
 ·rintro ⟨i,aq⟩;obtain⟨h1,ad⟩:=(h.get al n i).1 aq;exact⟨i,h1,by simpa using ad⟩
 rintro ⟨i,aq,ad⟩;exact⟨i,(h.get al n i).2 ⟨aq,by simpa using ad⟩⟩
structure lQ(s:aZ)(k:Nat)(hp:aL Cell)(p:Nat)(l:List aH)(own:Nat->Prop):Prop where
 gd:ic s k l
 cell:∃f m em,jc hp p=some ⟨r3 k,(jk s k:Int),f,⟨some m⟩⟩∧mV hp m=some em∧own p∧own m∧xe em l∧tn s k hp f l (λq=>own q∧q≠m∧q≠p)
 pA:∀q,own q->q∈eb hp
def lQ.congr{s:aZ}{k:Nat}{hp hp':aL Cell}{p:Nat}{l:aa aH}{own:Nat->Prop}(h:lQ s k hp p l own)(hk:∀q,q∈eb hp->q∈eb hp')(aY:∀q,own q->pat hp' q=pat hp q):lQ s k hp' p l own:=by
 obtain⟨f,m,em,h1,ad,az,aV,bc,bq⟩:=h.cell;exact⟨h.gd,⟨f,m,em,by rw[ahp (aY p az)];exact h1,by rw[ahq (aY m aV)];exact ad,az,aV,bc,bq.congr (λq _ hq=>hq) λq hq=>aY q hq.1⟩,λq hq=>hk q (h.pA q hq)⟩
def lQ.mW{s:aZ}{k:Nat}{hp hp':aL Cell}{p:Nat}{l:aa aH}{own own':Nat->Prop}(h:lQ s k hp p l own)(hk:fr hp hp' own')(hd:∀q,own q->¬own' q):lQ s k hp' p l own:=
 h.congr hk.keys λq hq=>hk.rest q (h.pA q hq) (hd q hq)
def entry_eq{s:aZ}(h:b7 s){k:Nat}(hk:k<4){hp:aL Cell}{p:Nat}{l:aa aH}{own:Nat->Prop}(au:lQ s k hp p l own){o:aD aH}(a6:∀i,o=some i->i∈l):Da hp (some p) (q6 o).1 (q6 o).2=some (jh o):=by
 obtain⟨f,m,em,h1,ad,az,aV,bc,bq⟩:=au.cell;refine ba.get ?_;unfold Da;cases o with
 |none=>exact .cond (λ_=>.ret I) λae=>by cases ae
 | some i=>
   have aq:=a6 i I
   refine .cond (λae=>by cases ae) λ_=>.eq rfl (.eq h1 (.eq rfl (.eq ad (.eq rfl ?_))))
   have bz:dG em i.b0=some i:=(bc.get au.gd.ok _ _).2 ⟨aq,rfl⟩
   show ba (Option.bind (rj ((dG em i.b0).getD default)) _) _
   rw[bz]
   exact .eq (Eg h hk (au.gd.ok.ok i aq)) (.ret I)
def Q5{s:aZ}(h:b7 s){k:Nat}(hk:k<4){hp:aL Cell}{p:Nat}{l:aa aH}{own:Nat->Prop}(au:lQ s k hp p l own){e:bl}(he:fE s k e):Ae hp (some p) e=some (jh (dw l e)):=by
 obtain⟨f,m,em,h1,ad,az,aV,bc,bq⟩:=au.cell;refine ba.get ?_;unfold Ae;refine .cond (λae=>by cases ae) λ_=>.eq rfl (.eq h1 (.eq (abk h hk bq au.gd he) (.eq (entry_eq h hk au λi aq=>(o7 aq).1) (.ret rfl))))
def aiP{s:aZ}(h:b7 s){k:Nat}(hk:k<4){hp:aL Cell}{p:Nat}{l:aa aH}{own:Nat->Prop}(au:lQ s k hp p l own)(c5:Vector aN 4):GF hp (some p) c5=some (jh (j8 s k l c5)):=by
 obtain⟨f,m,em,h1,ad,az,aV,bc,bq⟩:=au.cell;refine ba.get ?_;unfold GF;refine .cond (λae=>by cases ae) λ_=>?_;refine ba.loop 4 (λi st=>st.1=(i:Int)∧∀j,j<4->bG st.2 j=if j<i then(if j<jk s k then bG c5 j else default)else bG c5 j) (by decide) ⟨rfl,λj aB=>rfl⟩ (λi st aq hs=>?_) (λst hs=>?_)
 ·obtain⟨j,v⟩:=st;obtain⟨ar,aS⟩:=hs;simp only at ar aS;subst ar;refine .cond (λ_=>.eq I (.eq h1 ?_)) (λae=>by simp at ae;omega);refine .bind (P:=λzr=> ∀j,j<4->bG zr j=if j<i+1 then(if j<jk s k then bG c5 j else default)else bG c5 j) (.cond (λae=>.idx I aq (.ret λj aB=>?_)) λae=>.ret λj aB=>?_) λzr p9=>.ret ⟨dA (by omega),p9⟩
  ·have ae:jk s k<=i:=by simp at ae;omega
   rw[jE _ _ aq];by_cases jK:j=i
   ·rw[bh jK,bh (show j<i+1 by omega),bf (show ¬j<jk s k by omega)]
   rw[bf jK,aS j aB];by_cases ca:j<i
   ·rw[bh ca,bh (show j<i+1 by omega)]
   rw[bf ca,bf (show ¬j<i+1 by omega)]
  have ae:i<jk s k:=by simp at ae;omega
  rw[aS j aB];by_cases jK:j=i
  ·rw[bf (show ¬j<i by omega),bh (show j<i+1 by omega),bh (show j<jk s k by omega)]
  by_cases ca:j<i
  ·rw[bh ca,bh (show j<i+1 by omega)]
  rw[bf ca,bf (show ¬j<i+1 by omega)]
 obtain⟨j,v⟩:=st;obtain⟨ar,aS⟩:=hs;simp only at ar aS;subst ar;refine⟨_,by simp;rfl,?_⟩;have bb:v=nj (jk s k) c5:=Qr λj aB=>by rw[aS j aB,bh aB,qx aB]
 subst bb;exact .eq I (.eq h1 (.eq (aoU h hk bq au.gd c5) (.eq (entry_eq h hk au λi aq=>Ze aq) (.ret I))))
def amf{s:aZ}{k:Nat}{hp:aL Cell}{p:Nat}{l:aa aH}{own:Nat->Prop}(au:lQ s k hp p l own):G2 hp (some p)=some (l.length:Int):=by
 obtain⟨f,m,em,h1,ad,az,aV,bc,bq⟩:=au.cell;have al:em.length=l.length:=by rw[bc.length_eq,kQ]
 refine ba.get ?_;unfold G2;refine .cond (λae=>by cases ae) λ_=>.eq rfl (.eq h1 (.eq rfl (.eq ad ?_)));rw[al];first|exact .ret I|exact .eq I (.ret I)
def lQ.mono{s:aZ}{k:Nat}{hp:aL Cell}{p:Nat}{l:aa aH}{own own':Nat->Prop}(h:lQ s k hp p l own)(a6:∀q,own q->own' q)(aq:∀q,own' q->q∈eb hp):lQ s k hp p l own':=by
 obtain⟨f,m,em,h1,ad,az,aV,bc,bq⟩:=h.cell;exact⟨h.gd,⟨f,m,em,h1,ad,a6 p az,a6 m aV,bc,bq.congr (λq _ hq=>⟨a6 q hq.1,hq.2⟩) λq hq=>rfl⟩,aq⟩
def ic.nil{s:aZ}{k:Nat}:ic s k []:=⟨⟨λi aq=>by(cases aq),.nil,by simp⟩,.nil⟩
def Fj:Nat->Prop:=λ_=>False
def amg{s:aZ}(h:b7 s){k:Nat}(hk:k<4)(hp:aL Cell):cO (DQ hp s ((k:Int)+1)) (λr=> ∃p,r.1=some p∧lQ s k r.2 p [] (oF Fj hp r.2)∧fr hp r.2 Fj):=by
 refine(aoL h hk hp).mono λr aG=>?_;obtain⟨p,e,aG⟩:=aG;obtain⟨c,m,h1,ad,az,aV,bc,bq,c7,c9,dD,oa,wa,zi⟩:=aG.cell;obtain⟨aui,ks,f,ck⟩:=c;simp only at ad az aV bq c7 c9;subst ad az aV;have hm:=uo bc;have hp':=AV h1;refine⟨p,e,⟨ic.nil,⟨f,m,[],h1,bc,.inr ⟨dD,kj hp'⟩,.inr ⟨oa,kj hm⟩,K5 _,?_⟩,λq hq=>hq.elim (λh=>h.elim) λh=>h.2⟩,⟨wa,λq hq _=>zi q hq⟩⟩;have key:∀q c,pat r.2 q=some c->(∀x,c≠ .mr x)->(∀x,c≠ .qI x)->q∉eb hp->oF Fj hp r.2 q∧q≠m∧q≠p:=λq c ae mF Fv aM=>
  ⟨.inr ⟨aM,kj ae⟩,λe=>by rw[e,hm]at ae;cases ae;exact mF _ I,λe=>by rw[e,hp']at ae;cases ae;exact Fv _ I⟩
 have:k=0∨k=1∨2<=k:=by omega
 rcases this with rfl|rfl|c0
 ·obtain⟨q,m2,rfl,g1,g2,g3,g4⟩:=bq I;exact .inl ⟨rfl,q,rfl,⟨m2,[],g1,g2,key q _ (Io g1) (λ_ h=>by cases h) (λ_ h=>by cases h) g3,key m2 _ (vw g2) (λ_ h=>by cases h) (λ_ h=>by cases h) g4,λc5 n=>⟨λh=>(by cases h),λ⟨i,aq,_⟩=>(by cases aq)⟩,.nil⟩⟩
 ·obtain⟨m3,rfl,g1,g2⟩:=c7 I;exact .inr (.inl ⟨rfl,m3,rfl,⟨[],g1,key m3 _ (pa g1) (λ_ h=>by cases h) (λ_ h=>by cases h) g2,λc5 r h=>(by cases h),λc5 _ i aq=>(by cases aq),λc5 lV t gj h=>(by cases h),.nil⟩⟩)
 obtain⟨q,auj,cap,rfl,g1,g2⟩:=c9 c0;exact .inr (.inr ⟨c0,q,rfl,⟨auj,cap,g1,key q _ (yp g1) (λ_ h=>by cases h) (λ_ h=>by cases h) g2⟩⟩)
def ic.snoc{s:aZ}{k:Nat}{l:aa aH}(h:ic s k l){i:aH}(aq:kq s k i)(aW:dw l i.aX=none)(aM:j7 l i.b0=false)(al:l.length<900):ic s k (l++[i])where
 ok:=h.ok.snoc aq aM al
 key:=by
  rw[wi];exact⟨h.key,by simp,λa aY c ae=>by rw[hx.1 ae];exact uh aW a aY⟩
def ajL{hp:aL Cell}{p:Nat}{k:Cell}{x:aa (Int×aH)}(h:pat hp p=some k):mV (cJ hp p (.mr x)) p=some x:=by unfold mV;rw[te h]
def ZP(o:aD aH):(q6 o).2=o.isSome:=by cases o <;> rfl
def qZ(l:aa aH)(i:aH):Bool:=(dw l i.aX).isNone&& !j7 l i.b0
def added(l:aa aH)(i:aH):aa aH:=if qZ l i=true then l++[i]else l
def RT{s:aZ}(h:b7 s){k:Nat}(hk:k<4){hp:aL Cell}{p:Nat}{l:aa aH}{own:Nat->Prop}(au:lQ s k hp p l own){i:aH}(aq:kq s k i)(hlen:l.length<900):
 cO (Ah hp (some p) i) (λr=>r.1=qZ l i∧lQ s k r.2 p (added l i) (oF own hp r.2)∧fr hp r.2 own):=by
 obtain⟨f,m,em,h1,ad,az,aV,bc,bq⟩:=au.cell
 have hm:=uo ad
 have hp':=AV h1
 have nI:p≠m:=λe=>by rw[e,hm]at hp';cases hp'
 have fK:=bc.no au.gd.ok i.b0
 unfold Ah
 refine .cond (λae=>by cases ae) λ_=>.eq rfl (.eq h1 (.eq rfl (.eq ad (.eq rfl (.eq rfl (.eq h1 (.eq (abk h hk bq au.gd aq.dp) (.cond (λae=>.ret ?_) λae=>?_))))))))
 ·rw[fK,ZP,qn]at ae
  have bD:qZ l i=false:=by
   unfold qZ;rcases ae with ae|ae
   ·cases aW:dw l i.aX with
    |none=>rw[aW]at ae;cases ae
    |some _=>rfl
   rw[ae];simp
  refine⟨bD.symm,?_,.refl⟩
  unfold added
  rw[bD]
  exact au.mono (λq hq=>.inl hq) λq hq=>hq.elim (au.pA q) λhq=>absurd hq.2 hq.1
 rw[fK,ZP,OF]at ae
 obtain⟨c1,c2⟩:=ae
 have aW:dw l i.aX=none:=by
  cases aW:dw l i.aX with
  |none=>rfl
  |some _=>rw[aW]at c1;cases c1
 have bD:qZ l i=true:=by unfold qZ;rw[aW,c2];rfl
 have bz:dG em i.b0=none:=by
  cases bz:dG em i.b0 with
  |none=>rfl
  |some _=>rw[bz,c2]at fK;cases fK
 have aw:pat (cJ hp m (Cell.mr (gP em i.b0 i))) p=some (.qI ⟨r3 k,(jk s k:Int),f,⟨some m⟩⟩):=by rw[nr nI.symm];exact hp'
 have f1:tn s k (cJ hp m (Cell.mr (gP em i.b0 i))) f l (λq=>own q∧q≠m∧q≠p):=bq.congr (λq _ hq=>hq) λq hq=>nr hq.2.1.symm
 refine .eq I (.eq h1 (.eq (Eg h hk aq) (.eq I (.eq ad (.eq I (.eq (by unfold jc;rw[aw]) (.bind (aoY h hk f1 (λq hq=>by rw[sf];exact au.pA q hq.1) au.gd aq aW c2 hlen) λiS aG=>.ret ⟨bD.symm,?_,?_⟩)))))))
 ·obtain⟨ky,hf⟩:=aG
  have bX:pat iS p=some (.qI ⟨r3 k,(jk s k:Int),f,⟨some m⟩⟩):=by rw[hf.rest p (kj aw) (λhq=>hq.2.2 I)];exact aw
  have a2:pat iS m=some (.mr (gP em i.b0 i)):=by
   have:pat (cJ hp m (Cell.mr (gP em i.b0 i))) m=some (.mr (gP em i.b0 i)):=te hm;rw[hf.rest m (kj this) (λhq=>hq.2.1 I)];exact this
  unfold added
  rw[bh bD]
  refine⟨au.gd.snoc aq aW c2 hlen,⟨f,m,_,by unfold jc;rw[bX],by unfold mV;rw[a2],.inl az,.inl aV,?_,ky.congr (λq _ hq=>?_) λq _=>rfl⟩,λq hq=>?_⟩
  ·unfold xe
   rw[Ym bz,mh]
   exact List.Perm.append_right _ bc
  ·rcases hq with hq|⟨g1,g2⟩
   ·exact⟨.inl hq.1,hq.2⟩
   rw[sf]at g1
   exact⟨.inr ⟨g1,g2⟩,λe=>g1 (e▸kj hm),λe=>g1 (e▸kj hp')⟩
  rcases hq with hq|hq
  ·exact hf.keys q (by rw[sf];exact au.pA q hq)
  exact hq.2
 exact(fr.up (own:=own) aV).trans aG.2 λq _ hq=>hq.1
def Q6{hp hp':aL Cell}{root:Ref}{ws:aa Bool}{b:Bool}{p q:Nat}{c xI:fc}(bD:rv hp root)(hw:c4 hp root ws=some p)(ae:cV hp p=some c)(hq:bG c.dF (gb b)=some q)(py:cV hp q=some xI)(al:∀x,bG xI.dF (gb x)=none)
 (bQ:cV hp' p=some {c with dF:=dK c.dF (gb b) none}) (iS:∀x,x≠p->cV hp' x=cV hp x):
 ∀(bd us:aa Bool) (r:Nat),c4 hp root us=some r->us≠ws++[b]->c4 hp' (some r) bd=if us++bd=ws++[b]then none else c4 hp (some r) bd
 | [],us,r,hu,df=>by
   rw[ov,bf df];rfl
 | x::xs,us,r,hu,df=>by
   obtain⟨U1,xz⟩:=bD.reads us r hu;by_cases px:r=p
   ·subst px;have Ub:=bD.inj us ws r hu hw;subst Ub;rw[ae]at xz;cases xz;rw[ja bQ,ja ae];simp only;have ca:gb b<2:=by cases b <;> decide
    rw[jE _ _ ca];by_cases B3:x=b
    ·subst B3;rw[bh I,hq,hZ];by_cases h:xs=[]
     ·subst h;rw[bh I]
     have fK: ¬us++x::xs=us++[x]:=λe=>h (by have:=Kv e;simpa using this);rw[bf fK];cases xs with
     |nil=>exact absurd I h
     |cons y ys=>rw[ja py,al,hZ]
    have atr: ¬gb x=gb b:=λe=>B3 (by cases x <;> cases b <;> first|rfl|cases e);have fK:∀ys,¬us++x::ys=us++[b]:=λys e=>B3 (by have:=Kv e;simpa using (List.cons.inj this).1);rw[bf atr,bf (fK xs)];cases e:bG c.dF (gb x)with
    |none=>rw[hZ,hZ]
    | some lX=>
      have ps:c4 hp root (us++[x])=some lX:=by rw[oA,hu,ja ae,e,o9]
      rw[Q6 bD hw ae hq py al bQ iS xs (us++[x]) lX ps (fK []),iJ,List.singleton_append,bf (fK xs)]
   have h1:cV hp' r=some U1:=by rw[iS r px];exact xz
   rw[ja h1,ja xz];have ar2:us++[x]≠ws++[b]:=λe=>by
    have:=OB e I;subst this;rw[hu]at hw;cases hw;exact px I
   cases e:bG U1.dF (gb x)with
   |none=>rw[hZ,hZ];split <;> rfl
   | some lX=>
     have ps:c4 hp root (us++[x])=some lX:=by rw[oA,hu,ja xz,e,o9]
     rw[Q6 bD hw ae hq py al bQ iS xs (us++[x]) lX ps ar2,iJ,List.singleton_append]
def cut{hp hp':aL Cell}{r:Nat}{ws:aa Bool}{b:Bool}{p q:Nat}{c xI:fc}(bD:rv hp (some r))(hw:c4 hp (some r) ws=some p)(ae:cV hp p=some c)(hq:bG c.dF (gb b)=some q)(py:cV hp q=some xI)(al:∀x,bG xI.dF (gb x)=none)(hu:xI.gM=false)
 (bQ:cV hp' p=some {c with dF:=dK c.dF (gb b) none}) (iS:∀x,x≠p->cV hp' x=cV hp x):
 rv hp' (some r)∧(∀bd,c4 hp' (some r) bd=if bd=ws++[b]then none else c4 hp (some r) bd)∧∀bd,cont hp' (some r) bd=cont hp (some r) bd:=by
 have aW:∀bd,c4 hp' (some r) bd=if bd=ws++[b]then none else c4 hp (some r) bd:=λbd=>Q6 bD hw ae hq py al bQ iS bd [] r I (by simp)
 have Uc:c4 hp (some r) (ws++[b])=some q:=by rw[oA,hw,ja ae,hq,o9]
 refine⟨⟨λbd x h=>?_,λbd cs x h1 ad=>?_,λbd x h=>?_⟩,aW,λbd=>?_⟩
 ·rw[aW]at h
  split at h
  ·cases h
  obtain⟨gy,h1⟩:=bD.reads bd x h
  by_cases e:x=p
  ·subst e;exact⟨_,bQ⟩
  exact⟨gy,by rw[iS x e];exact h1⟩
 ·rw[aW]at h1 ad
  split at h1 <;> split at ad
  ·cases h1
  ·cases h1
  ·cases ad
  exact bD.inj bd cs x h1 ad
 ·rw[aW]at h
  split at h
  ·cases h
  exact bD.dep bd x h
 by_cases e:bd=ws++[b]
 ·subst e
  rw[mn (by rw[aW,bh I]),lZ Uc py,hu];rfl
 have xu:c4 hp' (some r) bd=c4 hp (some r) bd:=by rw[aW,bf e]
 cases h:c4 hp (some r) bd with
 |none=>rw[mn h,mn (xu.trans h)]
 | some x=>
   obtain⟨gy,h1⟩:=bD.reads bd x h
   by_cases eq:x=p
   ·subst eq
    rw[ae]at h1;cases h1
    rw[lZ h ae,lZ (xu.trans h) bQ]
   rw[lZ h h1,lZ (xu.trans h) (by rw[iS x eq];exact h1)]
structure To(l6 hp:aL Cell)(t:Nat)(g:List Bool->Option Int)(r:Nat):Prop where
 cell:∃c,gD hp t=some c∧c.hA=32∧c.eQ=some r
 tree:rv hp (some r)
 cont:∀bd,cont hp (some r) bd=g bd
 keeps:fr l6 hp (Own l6 t)
 own:∀bd q,c4 hp (some r) bd=some q->Own l6 t q
def empty_eq{hp:aL Cell}{p:Nat}{c:fc}(h:cV hp p=some c):Di hp (some p)=some (!c.gM&&decide (c.dF=default)):=by
 refine ba.get ?_;unfold Di;refine .eq I (.eq h ?_);refine .bV (P:=λr=>r=p) (λ_=>⟨p,rfl,rfl⟩) λo h1=>?_;refine .bV (P:=λr=>r=c) (λad=>⟨c,by rw[h1 ad];exact h,rfl⟩) λc2 ad=>.ret ?_;cases hu:c.gM with
 |true=>rfl
 |false=>rw[ad (by rw[hu];rfl)]
def aiQ(v:aN)(n:Nat):(dT v n).length=n:=by unfold dT;simp
def aiR(v:aN){i n:Nat}(h:i<=n):dT v n=dT v i++(dT v n).drop i:=by
 have:dT v i=(dT v n).take i:=by unfold dT;rw[<-Pl,Pc];congr 2;omega
 rw[this,gz]
def Mm{hp:aL Cell}{r:Ref}{v:aN}{i n:Nat}(h:i<=n){p:Nat}(hp':c4 hp r (dT v n)=some p):∃q,c4 hp r (dT v i)=some q:=by
 rw[aiR v h,oA]at hp';cases e:c4 hp r (dT v i)with
 |none=>rw[e,hZ]at hp';cases hp'
 |some q=>exact⟨q,rfl⟩
def aiS{hp:aL Cell}{t:Nat}{g:aa Bool->aD Int}(h:kS hp t g){n:Nat}(aM:n<=32){v:aN}(bb:∀j,j<128->ct v j=true->lead 32 n j=true){id:Int}(bz:g (dT v n)=some id):
 ba (Dg hp (some t) v n) (λr=>r.1=true∧kS r.2 t (λbd=>if bd=dT v n then none else g bd)∧fr hp r.2 (Own hp t)∧∀q,Own r.2 t q->Own hp t q):=by
 obtain⟨c,ae,hb,bD,Uq⟩:=h.ok
 have ar3:∃p,c4 hp c.eQ (dT v n)=some p:=by
  cases e:c4 hp c.eQ (dT v n)with
  |none=>rw[<-Uq,mn e]at bz;cases bz
  |some p=>exact⟨p,rfl⟩
 obtain⟨zB,lb⟩:=ar3
 have aoZ:∃r,c.eQ=some r:=by
  obtain⟨q,hq⟩:=Mm (vn n) lb;rw[HI,o9]at hq;exact⟨q,hq⟩
 obtain⟨r,aG⟩:=aoZ
 rw[aG]at bD Uq lb
 unfold Dg
 refine .eq (ZN h aM bb) ?_
 rw[bz]
 refine .cond (λae=>by cases ae) λ_=>.eq rfl (.eq ae (.eq rfl ?_))
 rw[aG]
 show ba (Option.bind (tY hp (n:Int) v (some t) _ _) _) _
 refine ba.bind (P:=λe:(aa Int×aa Ref)⊕Empty=> ∃bits qc,e=.inl (bits,qc)∧qc.length=n+1∧bits.length=n∧(∀j,j<=n->ax qc j=c4 hp (some r) (dT v j))∧∀j,j<n->ax bits j=((gb (ct v (31-j)):Nat):Int))
  (SG ae hb v aM (λi s=> ∃bits qc,s=(bits,qc)∧qc.length=i+1∧bits.length=i∧(∀j,j<=i->ax qc j=c4 hp (some r) (dT v j))∧∀j,j<i->ax bits j=((gb (ct v (31-j)):Nat):Int)) ⟨[],[some r],rfl,rfl,rfl,λj aB=>?_,λj aB=>by omega⟩ (λi s aq hs=>?_) (λs hs=>?_)) λe he=>?_
 ·have:j=0:=by omega
  subst this
  rw[HI,o9];rfl
 ·obtain⟨bits,qc,rfl,h1,ad,az,aV⟩:=hs
  obtain⟨q,hq⟩:=Mm (show i<=n by omega) lb
  obtain⟨d,hd⟩:=bD.reads _ _ hq
  have hw:bm ((qc.length:Int)-1)=(i:Int):=by rw[gN (by omega) (by omega)];omega
  simp only[hw]
  have ca:gb (ct v (31-i))<2:=by cases ct v (31-i) <;> decide
  refine .idx I (by omega) (.eq (a:=q) (by rw[az i (iV _)];exact hq) (.idx I ca (.eq hd (.eq (gq _ _ (by simp;omega) (by omega)) (.eq (gq _ _ (by simp;omega) (by omega)) (.ret ⟨_,_,rfl,by simp;omega,by simp;omega,λj aB=>?_,λj aB=>?_⟩))))))
  ·rw[LS]
   by_cases jK:j=qc.length
   ·rw[bh jK,show j=i+1 by omega,HH,oA,hq,ja hd,o9]
   rw[bf jK];exact az j (by omega)
  rw[LS]
  by_cases jK:j=bits.length
  ·rw[bh jK,show j=i by omega]
  rw[bf jK];exact aV j (by omega)
 ·exact⟨s.1,s.2,by obtain⟨bits,qc,rfl,_⟩:=hs;rfl,by obtain⟨bits,qc,rfl,h⟩:=hs;exact h⟩
 obtain⟨bits,qc,rfl,h1,ad,az,aV⟩:=he
 simp only[Sum.elim_inl]
 obtain⟨d,hd⟩:=bD.reads _ _ lb
 have Uk:=s3.1 hd
 have gw:cV (cJ hp zB (.h3 {d with gM:=false})) zB=some {d with gM:=false}:=DX Uk
 refine .idx I (by omega) (.eq (a:=zB) (by rw[az n (iV _)];exact lb) (.eq hd (.eq I (.eq gw (.eq I ?_)))))
 generalize cc:cJ (cJ hp zB (.h3 {d with gM:=false})) zB (.h3 {d with gM:=false,j6:=0})=cZ
 have iB:=M6 hd ae
 have xk:cV cZ zB=some {d with gM:=false,j6:=0}:=by rw[<-cc];exact DX (s3.1 gw)
 have Tp:∀q,q≠zB->pat cZ q=pat hp q:=λq hq=>by rw[<-cc,nr hq.symm,nr hq.symm]
 obtain⟨s1,s2⟩:=acH bD lb hd xk I λq hq=>Ay (Tp q hq)
 have ael:=HW hd xk I λq hq=>Ay (Tp q hq)
 have att:gD cZ t=some c:=by rw[LD (Tp t iB.symm)];exact ae
 have abm:Own hp t zB:=.inr ⟨c,_,ae,by rw[aG];exact lb⟩
 have c0:fr hp cZ (Own hp t):=by
  rw[<-cc];exact(fr.up (own:=Own hp t) abm).trans (fr.up abm) λq _ h=>h
 have m0:To hp cZ t (λbd=>if bd=dT v n then none else g bd) r:=⟨⟨c,att,hb,aG⟩,s1,λbd=>by
  rw[s2];by_cases e:bd=dT v n
  ·rw[bh e];simp only[bh e];rfl
  rw[bf e];simp only[bf e];exact Uq bd,c0,λbd q hq=>.inr ⟨c,bd,ae,by rw[aG,<-ael];exact hq⟩⟩
 have y2:bm ((n:Int)-1)=(n:Int)-1:=gN (by omega) (by omega)
 rw[y2]
 refine ba.bind (P:=λaS=>To hp aS.2.2 t (λbd=>if bd=dT v n then none else g bd) r) (ba.jH n (λi st=> ∃hq,st=((n:Int)-1-(i:Int),hq)∧To hp hq t (λbd=>if bd=dT v n then none else g bd) r∧∀j,j+i<=n->c4 hq (some r) (dT v j)=ax qc j) (by omega) ⟨cZ,by simp,m0,λj aB=>by rw[ael,az j (by omega)]⟩ (λi st aq hs=>?_) (λst hs=>?_)) λaS oQ=>?_
 ·obtain⟨hq,rfl,hm,Tq⟩:=hs
  have ar:(n:Int)-1-(i:Int)=((n-1-i:Nat):Int):=by omega
  have aS:bm ((n:Int)-1-(i:Int)+1)=((n-i:Nat):Int):=by rw[gN (by omega) (by omega)];omega
  have cE:bm ((n:Int)-1-(i:Int)-1)=(n:Int)-1-((i+1:Nat):Int):=by rw[gN (by omega) (by omega)];omega
  simp only[aS,cE]
  have uO:decide ((n:Int)-1-(i:Int)>=0)=true:=by rw[e5];omega
  simp only[uO]
  have jL:=Tq (n-i) (by omega)
  have JU:=Tq (n-1-i) (by omega)
  obtain⟨ai,iE⟩:=Mm (show n-i<=n by omega) lb
  obtain⟨ab,BM⟩:=Mm (show n-1-i<=n by omega) lb
  rw[az _ (by omega),iE]at jL
  rw[az _ (by omega),BM]at JU
  obtain⟨c1,dv⟩:=hm.tree.reads _ _ jL
  obtain⟨o0,BN⟩:=hm.tree.reads _ _ JU
  refine .bV (P:=λe2=>e2=n-i) (λ_=>⟨_,kk (by omega),rfl⟩) λe2 jw=>?_
  rw[jw I]
  have E0:ax qc (n-i)=some ai:=by rw[az _ (by omega)];exact iE
  have atu:ax qc (n-1-i)=some ab:=by rw[az _ (by omega)];exact BM
  refine .bV (P:=λy=>y=(!c1.gM&&decide (c1.dF=default))) (λ_=>⟨_,by rw[E0];exact empty_eq dv,rfl⟩) λb3 hC=>.cond (λbU=>?_) λbU=>.ret hm
  rw[qo,hC I,gl,r7,e5]at bU
  obtain⟨bp,z2⟩:=bU
  have ca:gb (ct v (31-(n-1-i)))<2:=by cases ct v (31-(n-1-i)) <;> decide
  have ao0:dT v (n-i)=dT v (n-1-i)++[ct v (31-(n-1-i))]:=by rw[<-HH,show n-1-i+1=n-i by omega]
  have l7:bG o0.dF (gb (ct v (31-(n-1-i))))=some ai:=by
   rw[ao0,oA,JU,ja BN,o9]at jL;exact jL
  have l6:=s3.1 BN
  refine .idx ar (by omega) (.idx ar (by omega) (.eq atu (.idx (aV _ (by omega)) ca (.eq BN (.eq I (.ret ?_))))))
  obtain⟨g1,g2,g3⟩:=cut (hp':=cJ hq ab (.h3 {o0 with dF:=dK o0.dF (gb (ct v (31-(n-1-i)))) none})) hm.tree JU BN l7 dv (λx=>by rw[z2,Lw];rfl) bp (DX l6) λx au=>yc au.symm
  obtain⟨gy,bX,a2,a3⟩:=hm.cell
  have ao1:=hm.own _ _ JU
  refine⟨_,rfl,⟨⟨gy,by rw[LG (M6 BN bX)];exact bX,a2,a3⟩,g1,λbd=>by rw[g3];exact hm.cont bd,hm.keeps.trans (fr.up ao1) λq _ h=>h,λbd q nd=>?_⟩,λj aB=>?_⟩
  ·rw[g2]at nd
   split at nd
   ·cases nd
   exact hm.own bd q nd
  rw[g2,bf (λe=>by have:=eI List.length e;simp only[gJ,aiQ,List.length_singleton]at this;omega)]
  exact Tq j (by omega)
 ·obtain⟨hq,rfl,hm,_⟩:=hs
  have uO:decide ((n:Int)-1-(n:Int)>=0)=false:=by rw[nQ];omega
  simp only[uO]
  refine .bV (P:=λ_=>True) (λae=>by cases ae) λ_ _=>.bV (P:=λ_=>True) (λae=>by cases ae) λ_ _=>.cond (λae=>by cases ae) λ_=>.ret hm
 obtain⟨kb,bX,a2,a3⟩:=oQ.cell
 refine .eq bX ?_
 rw[a3]
 obtain⟨U1,xz⟩:=oQ.tree.reads [] r I
 refine .eq (empty_eq xz) (.bind (P:=λm1=>kS m1 t (λbd=>if bd=dT v n then none else g bd)∧fr hp m1 (Own hp t)∧∀q,Own m1 t q->Own hp t q) (.cond (λbU=>.eq I (.ret ?_)) λ_=>.ret ?_) λm1 bR=>.ret ⟨rfl,bR⟩)
 ·rw[gl,r7,e5]at bU
  obtain⟨bp,z2⟩:=bU
  have NR:gD (cJ aS.2.2 t (.lO {kb with eQ:=none})) t=some {kb with eQ:=none}:=Ye (wD.1 bX)
  refine⟨⟨_,NR,a2,⟨λbd p h=>(by rw[hZ]at h;cases h),λbd cs p h=>(by rw[hZ]at h;cases h),λbd p h=>(by rw[hZ]at h;cases h)⟩,λbd=>?_⟩,oQ.keeps.trans (fr.up (own:=Own hp t) (.inl I)) λq _ h=>h,λq hq=>?_⟩
  ·rw[mn hZ,<-oQ.cont]
   cases bd with
   |nil=>rw[lZ (p:=r) I xz,bp];rfl
   |cons b bd=>rw[mn];rw[ja xz,z2,Lw];exact hZ
  rcases hq with rfl|⟨gy,bd,dM,eF⟩
  ·exact .inl I
  rw[NR]at dM;cases dM
  rw[hZ]at eF;cases eF
 refine⟨⟨kb,bX,a2,by rw[a3];exact oQ.tree,λbd=>by rw[a3];exact oQ.cont bd⟩,oQ.keeps,λq hq=>?_⟩
 rcases hq with rfl|⟨gy,bd,dM,eF⟩
 ·exact .inl I
 rw[bX]at dM;cases dM
 rw[a3]at eF
 exact oQ.own bd q eF
def l9(hp:aL Cell):Nat->Ref->aa Int
 |0,_=>[]
 |_+1,none=>[]
 | n+1,some p=>match cV hp p with
   |none=>[]
   |some c=>(bif c.gM then [c.j6]else [])++(l9 hp n (bG c.dF 0)++l9 hp n (bG c.dF 1))
def MH{hp:aL Cell}{n p:Nat}{c:fc}(h:cV hp p=some c):l9 hp (n+1) (some p)=(bif c.gM then [c.j6]else [])++(l9 hp n (bG c.dF 0)++l9 hp n (bG c.dF 1)):=by
 show(match cV hp p with |none=>[]|some c=>_)=_;rw[h]
def wE{hp:aL Cell}{p:Nat}{c:fc}(h:cV hp p=some c)(b:Bool)(bd:aa Bool):cont hp (some p) (b::bd)=cont hp (bG c.dF (gb b)) bd:=by
 unfold cont;rw[ja h]
def AM{hp:aL Cell}:∀{n:Nat} {r:Ref} {id:Int},id∈l9 hp n r->∃bd,cont hp r bd=some id
 |0,_,_,h=>by cases h
 |_+1,none,_,h=>by cases h
 | n+1,some p,id,h=>by
   cases ae:cV hp p with
   | none=>
     have:l9 hp (n+1) (some p)=[]:=by
      show(match cV hp p with |none=>[]|some c=>_)=_;rw[ae]
     rw[this]at h;cases h
   | some c=>
     rw[MH ae]at h
     rcases cF.1 h with h|h
     ·refine⟨[],?_⟩
      rw[lZ (p:=p) I ae]
      cases hu:c.gM with
      |true=>rw[hu]at h;rw[hx.1 h];rfl
      |false=>rw[hu]at h;cases h
     rcases cF.1 h with h|h
     ·obtain⟨bd,nd⟩:=AM h
      exact⟨false::bd,by rw[wE ae];exact nd⟩
     obtain⟨bd,nd⟩:=AM h
     exact⟨true::bd,by rw[wE ae];exact nd⟩
def Yn{hp:aL Cell}:∀{n:Nat} {r:Ref} {id:Int} {bd:aa Bool},bd.length<n->cont hp r bd=some id->id∈l9 hp n r
 |0,_,_,_,al,_=>by omega
 |n+1,none,id,bd,_,h=>by rw[mn hZ]at h;cases h
 | n+1,some p,id,bd,al,h=>by
   cases ae:cV hp p with
   | none=>
     exfalso
     cases bd with
     | nil=>
       unfold cont at h
       have:c4 hp (some p) []=some p:=rfl
       rw[this]at h
       simp only[ae]at h;cases h
     | cons b bd=>
       have:c4 hp (some p) (b::bd)=none:=by
        show(match cV hp p with |none=>none|some c=>c4 hp (bG c.dF (gb b)) bd)=none;rw[ae]
       rw[mn this]at h;cases h
   | some c=>
     rw[MH ae]
     cases bd with
     | nil=>
       rw[lZ (p:=p) I ae]at h
       cases hu:c.gM with
       | true=>
         rw[hu]at h
         have:c.j6=id:=by simpa using h
         rw[this];simp
       |false=>rw[hu]at h;cases h
     | cons b bd=>
       rw[wE ae]at h
       have kK:bd.length<n:=by simp at al;omega
       have:=Yn kK h
       cases b
       ·exact Cy _ (FM _ this)
       exact Cy _ (Cy _ this)
def XD{hp:aL Cell}:∀{n:Nat} {r:Ref},(∀bd cs id,cont hp r bd=some id->cont hp r cs=some id->bd=cs)->(l9 hp n r).Nodup
 |0,_,_=>Ph
 |_+1,none,_=>Ph
 | n+1,some p,h=>by
   cases ae:cV hp p with
   | none=>
     have:l9 hp (n+1) (some p)=[]:=by
      show(match cV hp p with |none=>[]|some c=>_)=_;rw[ae]
     rw[this];exact Ph
   | some c=>
     rw[MH ae]
     have hb:∀b,(l9 hp n (bG c.dF (gb b))).Nodup:=λb=>XD λbd cs id h1 ad=>by
      have:=h (b::bd) (b::cs) id (by rw[wE ae];exact h1) (by rw[wE ae];exact ad);simpa using this
     rw[q8,q8]
     refine⟨by cases c.gM <;> simp,⟨hb false,hb true,λa aY gy nJ e=>?_⟩,λa aY gy nJ e=>?_⟩
     ·subst e
      obtain⟨bd,h1⟩:=AM aY
      obtain⟨cs,ad⟩:=AM nJ
      have:=h (false::bd) (true::cs) a (by rw[wE ae];exact h1) (by rw[wE ae];exact ad)
      simp at this
     subst e
     cases hu:c.gM with
     |false=>rw[hu]at aY;cases aY
     | true=>
       rw[hu]at aY
       have aY:a=c.j6:=hx.1 aY
       have bC:cont hp (some p) []=some a:=by rw[lZ (p:=p) I ae,hu,aY];rfl
       rcases cF.1 nJ with h1|h1
       ·obtain⟨bd,h1⟩:=AM h1
        have:=h [] (false::bd) a bC (by rw[wE ae];exact h1)
        cases this
       obtain⟨bd,h1⟩:=AM h1
       have:=h [] (true::bd) a bC (by rw[wE ae];exact h1)
       cases this
def Yo:∀{l m:aa Int},l.Nodup->(∀x∈l,x∈m)->l.length<=m.length
 |[],m,_,_=>vn _
 | x::l,m,aM,h=>by
   obtain⟨h1,ad⟩:=pK.1 aM;have au:=h x (by simp);have:=Yo (m:=m.erase x) ad λy aT=>(Vv λe=>h1 (by rw[<-e];exact aT)).2 (h y (by simp[aT]));rw[Vd au]at this;have hp:=Vl au;simp only[List.length_cons];omega
def aiT(v:aN)(n:Int):ba (Ht v n) (λ_=>True):=by
 unfold Ht;exact .cond (λ_=>.ret lL) λ_=>.cond (λ_=>.eq I (.ret lL)) λ_=>.eq I (.eq I (.ret lL))
def Q7{hp:aL Cell}{t:Nat}{c:hY}(ae:gD hp t=some c):∀(d f:Nat) (r:Ref) (aR:aN) (cT:Int) (ka:aa fC),d<f->(∀bd p,c4 hp r bd=some p->bd.length<d)->(∀bd p,c4 hp r bd=some p->∃c,cV hp p=some c)->ka.length+(l9 hp d r).length<=20000->
 ba (zJ f hp (some t) r aR cT ka) (λo=>o.length=ka.length+(l9 hp d r).length)
 |d,0,r,aR,cT,ka,aW,_,_,_=>by omega
 |0,f+1,none,aR,cT,ka,aW,hd,aG,al=>⟨ka,rfl,rfl⟩
 |0,f+1,some p,aR,cT,ka,aW,hd,aG,al=>by have:=hd [] p I;simp at this
 |d+1,f+1,none,aR,cT,ka,aW,hd,aG,al=>⟨ka,rfl,rfl⟩
 | d+1,f+1,some p,aR,cT,ka,aW,hd,aG,al=>by
   obtain⟨e,he⟩:=aG [] p I;rw[MH he]at al⊢;simp only[gJ]at al⊢;have l7:∀b,(∀bd q,c4 hp (bG e.dF (gb b)) bd=some q->bd.length<d)∧∀bd q,c4 hp (bG e.dF (gb b)) bd=some q->∃c,cV hp q=some c:=λb=>⟨λbd q hq=>by
    have:=hd (b::bd) q (by rw[ja he];exact hq);simp at this;omega,λbd q hq=>aG (b::bd) q (by rw[ja he];exact hq)⟩
   show ba (cond (some p:Ref).isNone (some ka) _) _;refine .cond (λae=>by cases ae) λ_=>?_;refine .bind (P:=λy=>y.length=ka.length+(bif e.gM then [e.j6]else []).length) ?_ λao br=>?_
   ·unfold KP;refine .eq I (.eq he ?_);cases hu:e.gM with
    | true=>
      rw[hu]at al
      simp only[cond_true,List.length_singleton]at al
      refine .eq (a:=ka++[{b6:=aR,AI:=cT,cb:=e.j6}]) ?_ (.ret (by simp))
      show(eM 32 ka _).bind _=_
      rw[gq _ _ (by simp;omega) (by omega)];rfl
    |false=>exact .eq I (.ret (by simp))
   refine .eq I (.eq he (.bind (Q7 ae d f _ aR (bm (cT+1)) ao (by omega) (l7 false).1 (l7 false).2 (by rw[br];show _+_+(l9 hp d (bG e.dF 0)).length<=_;omega)) λaE bZ=>?_));have bZ:aE.length=ao.length+(l9 hp d (bG e.dF 0)).length:=bZ;refine .eq I (.eq I (.eq ae (.bind (aiT _ _) λbt _=>.eq I (.bind (Q7 ae d f _ _ (bm (cT+1)) aE (by omega) (l7 true).1 (l7 true).2 (by rw[bZ,br];show _+_+_+(l9 hp d (bG e.dF 1)).length<=_;omega)) λcd im=>.ret ?_))));have im:cd.length=aE.length+(l9 hp d (bG e.dF 1)).length:=im;rw[im,bZ,br];omega
def amh{hp:aL Cell}{t:Nat}{g:aa Bool->aD Int}(h:kS hp t g)(aq:∀bd cs id,g bd=some id->g cs=some id->bd=cs)(m:aa Int)(hm:∀bd id,g bd=some id->id∈m)(al:m.length<=20000):ba (Dx hp (some t)) (λr=>r=0->∀bd,g bd=none):=by
 obtain⟨c,ae,hb,bD,bz⟩:=h.ok;have aM:(l9 hp 33 c.eQ).Nodup:=XD λbd cs id h1 ad=>aq bd cs id (by rw[<-bz];exact h1) (by rw[<-bz];exact ad);have hle:(l9 hp 33 c.eQ).length<=m.length:=Yo aM λx au=>by
  obtain⟨bd,nd⟩:=AM au;exact hm bd x (by rw[<-bz];exact nd)
 unfold Dx Ll Ky;refine .bind (P:=λy=>y.length=(l9 hp 33 c.eQ).length) (.bind (P:=λy=>y.length=(l9 hp 33 c.eQ).length) (.bind (P:=λy=>y.length=(l9 hp 33 c.eQ).length) (.cond (λ_=>.eq I (.eq ae ((show ba (OJ hp (some t) c.eQ default 0 []) _ from Q7 ae 33 c3 c.eQ default 0 [] (by unfold c3;omega) (λbd p hp=>by have:=bD.dep bd p hp;omega) bD.reads (by simp;omega)).bind λy aT=>.ret (by simpa using aT)))) λae=>by cases ae) λy aT=>.ret aT) λy aT=>.ret aT) λy aT=>.ret λbC bd=>?_;have bC:(l9 hp 33 c.eQ).length=0:=by rw[<-aT];have:(y.length:Int)=0:=bC;omega
 cases atv:g bd with
 |none=>rfl
 | some id=>
   have Ur:cont hp c.eQ bd=some id:=by rw[bz];exact atv
   have hlen:bd.length<33:=by
    cases aW:c4 hp c.eQ bd with
    |none=>rw[mn aW]at Ur;cases Ur
    |some p=>have:=bD.dep bd p aW;omega
   have:=Yn hlen Ur
   rw[Oo bC]at this;cases this
def ajM(x:eh)(n:Int)(al:x.cz.length<=1000):ba (KK x n) (λr=>(r= -1∧j7 x.cz n=false)∨∃i:Nat,i<x.cz.length∧r=i∧(ax x.cz i).b0=n∧j7 x.cz n=true∧∀j,j<i->(ax x.cz j).b0≠n):=abi x n al
def alb{l:aa aH}{n:Int}{i:Nat}(aM:l.Pairwise λa c=>a.b0≠c.b0)(aq:i<l.length)(h:(ax l i).b0=n):
 l.take i++l.drop (i+1)=l.filter (λc=>c.b0 !=n):=by
 rw[dh _ aq]at h
 have xw:l=l.take i++l[i]::l.drop (i+1):=by rw[Ox,gz]
 rw[xw,wi]at aM
 obtain⟨h1,ad,az⟩:=aM
 obtain⟨aV,bc⟩:=kz.1 ad
 conv=>rhs;rw[xw]
 rw[mJ,vi (by simp[h])]
 congr 1
 ·exact(sQ.2 λc ae=>by have:=az c ae l[i] jC;rw[h]at this;simpa using this).symm
 exact(sQ.2 λc ae=>by have:=aV c ae;rw[h]at this;simp;exact λe=>this e.symm).symm
def kr.filter{s:aZ}{k:Nat}{l:aa aH}(h:kr s k l)(q:aH->Bool):kr s k (l.filter q)where
 ok i aq:=h.ok i (tZ.1 aq).1
 num:=h.num.sublist KB
 len:=mi (vj _ _) h.len
def aiU{s:aZ}{k:Nat}{l:aa aH}(al:kr s k l)(n:Int):
 FO (rD s k l) n=some (j7 l n,rD s k (l.filter λc=>c.b0 !=n)):=by
 refine ba.get ?_
 unfold FO
 obtain⟨ky,hf⟩:=al.eY
 refine(ajM (rD s k l) n (by show(eY _ l).length<=1000;omega)).bind λao h1=>?_
 rcases h1 with⟨rfl,ad⟩|⟨j,ad,rfl,az,aV,bc⟩
 ·have l3:j7 l n=false:=by rw[<-ad];exact Mi.symm
  refine .cond (λ_=>.ret ?_) λae=>by simp at ae
  rw[l3,sQ.2 λc ae=>by simpa using Y6 l3 c ae]
 have Fg:j7 l n=true:=by rw[<-aV];exact Mi.symm
 refine .cond (λae=>by simp at ae;omega) λ_=>?_
 have aB:j<(eY (eR s k) l).length:=ad
 refine .eq (a:=eY (eR s k) (l.filter λc=>c.b0 !=n)) ?_ (.ret ?_)
 ·show IT (eY (eR s k) l) _ _=_
  unfold IT
  rw[dA (by omega),bh ⟨by omega,by omega,by omega⟩]
  have T3:(eY (eR s k) l).Pairwise λa c=>a.b0≠c.b0:=((QZ l).symm.pairwise_iff λbW=>λe=>bW e.symm).1 al.num
  rw[<-aiH (ur s k) al.zk,<-alb T3 aB az]
  simp
 rw[Fg];rfl
def db(l:aa aH)(e:bl):aa aH:=l.filter λc=> !fG c.aX e
def nW{l:aa aH}{e:bl}{c:aH}:c∈db l e↔c∈l∧fG c.aX e=false:=by
 unfold db;rw[tZ];simp
def ic.db{s:aZ}{k:Nat}{l:aa aH}(h:ic s k l)(e:bl):ic s k (Go.Proofs.YtppgfphgdogpeaaGreat.db l e):=
 ⟨h.ok.filter _,h.key.sublist KB⟩
def L3{s:aZ}{k:Nat}{l:aa aH}(h:ic s k l){e:bl}{i:aH}(aq:i∈l)(hk:fG i.aX e=true):db l e=l.filter λc=>c.b0 !=i.b0:=by
 unfold db;refine List.filter_congr λc ae=>?_;by_cases ar:c=i
 ·rw[ar,hk];simp
 have h1:fG c.aX e=false:=by
  rw[pJ];intro ad;exact ar (h.uniq ae aq (s6 ad (by rw[s9];exact hk)))
 have ad:c.b0≠i.b0:=λad=>ar (h.ok.uniq ae aq ad);rw[h1];simp[ad]
def ar4{s:aZ}(h:b7 s){hp:aL Cell}{q:Nat}{l:aa aH}{own:Nat->Prop}(hq:A3 s hp q l own)(al:ic s 0 l){i:aH}(aq:i∈l):
 ba (Gj hp ⟨some q⟩ i) (λhp'=>A3 s hp' q (db l i.aX) own∧fr hp hp' own):=by
 obtain⟨m,em,h1,ad,az,aV,bc,ko⟩:=hq.ok
 have iz:=(al.ok.ok i aq).dp
 have bz:dG em (ft i.aX)=some i.b0:=(bc _ _).2 ⟨i,aq,rfl,rfl⟩
 unfold Gj K2 x0
 refine .eq (Ml (iz.Ns h (by decide)).1) ?_
 refine .eq (a:=(true,cJ hp m (Cell.rE (ju em (ft i.aX))))) ?_ (.ret ?_)
 ·show((n0 hp q).bind _).bind _=_
  rw[h1]
  show((nw hp m).bind _).bind _=_
  rw[ad]
  show cond (!(dG em (ft i.aX)).isSome) _ _=_
  rw[bz]
  show(n0 hp q).bind _=_
  rw[h1]
  show(nw hp m).bind _=_
  rw[ad];rfl
 have B7:q≠m:=λe=>by
  subst e;have:=Io h1;rw[vw ad]at this;cases this
 refine⟨⟨m,_,by rw[PX (nr B7.symm)];exact h1,Yj (vw ad),az,aV,λc5 n=>?_,ko.del⟩,.up aV⟩
 rw[DV ko]
 by_cases iB:c5=ft i.aX
 ·rw[bh iB]
  refine⟨λe=>(by cases e),λ⟨c,ae,bq,c7⟩=>?_⟩
  obtain⟨g1,g2⟩:=nW.1 ae
  rw[(JT h (al.ok.ok c g1).dp iz).2 (bq.trans iB)]at g2;cases g2
 rw[bf iB,bc]
 constructor
 ·rintro ⟨c,ae,bq,c7⟩
  refine⟨c,nW.2 ⟨ae,?_⟩,bq,c7⟩
  rw[pJ];intro c9
  exact iB (by rw[<-bq];exact(JT h (al.ok.ok c ae).dp iz).1 c9)
 rintro ⟨c,ae,bq⟩
 exact⟨c,(nW.1 ae).1,bq⟩
def ar5{s:aZ}(h:b7 s){hp:aL Cell}{m:Nat}{l:aa aH}{own:Nat->Prop}(hq:pb s hp m l own)(al:ic s 1 l){i:aH}(aq:i∈l):
 ba (F3 hp ⟨0,32,⟨some m⟩⟩ i) (λhp'=>pb s hp' m (db l i.aX) own∧fr hp hp' own):=by
 obtain⟨em,oP,ad,az,aV,bc,ko⟩:=hq.ok
 have iz:=(al.ok.ok i aq).dp
 have h8:=yT h iz
 have bD:∃t,dG em (hL (ft i.aX))=some (some t):=by
  cases bz:dG em (hL (ft i.aX))with
  |none=>exact absurd I (aV _ bz i aq)
  |some r=>obtain⟨t,g,rfl,_⟩:=az _ _ bz;exact⟨t,rfl⟩
 obtain⟨t,bD⟩:=bD
 obtain⟨gj,g,e,g1,g2,g3⟩:=az _ _ bD
 cases e
 obtain⟨n,aM⟩:=pG h8.pre.1
 have I1:n<=32:=by have:=h8.pre.2;omega
 have yF:=Qu h8
 have hp':dT (ax i.aX.bP 0).b6 n=lz i.aX:=by unfold lz;rw[aM];rfl
 have atw:g (lz i.aX)=some i.b0:=(g3 _ _).2 ⟨i,aq,rfl,rfl,rfl⟩
 have adR:∀c∈l,hL (ft c.aX)=hL (ft i.aX)->(fG c.aX i.aX=false↔lz c.aX≠lz i.aX):=λc ae au=>by
  rw[pJ,ne_eq,Fi h (al.ok.ok c ae).dp iz];exact⟨λh1 ad=>h1 ⟨au,ad⟩,λh1 ad=>h1 ad.2⟩
 have mw:∀c∈l,hL (ft c.aX)≠hL (ft i.aX)->fG c.aX i.aX=false:=λc ae au=>by
  rw[pJ,ne_eq,Fi h (al.ok.ok c ae).dp iz];exact λh1=>au h1.1
 unfold F3
 refine .eq (Q4 h iz _) (.eq I (.eq oP (.eq I ?_)))
 simp only[bD]
 rw[aM]at yF⊢
 refine(show ba (Dg hp (some t) (ax i.aX.bP 0).b6 (n:Int)) _ from aiS g1 I1 yF (by rw[hp'];exact atw)).bind λaE aG=>?_
 obtain⟨_,ky,hf,rX⟩:=aG
 rw[hp']at ky
 obtain⟨avf,cZ⟩:=aE
 simp only at ky hf rX⊢
 have Fh:∀q,Own hp t q->q≠m:=λq Un e=>by
  have:=pa oP;rw[<-e]at this;rcases g1.MG Un with⟨c,ae⟩|⟨c,ae⟩ <;> rw[ae]at this <;> cases this
 have nI:pat cZ m=pat hp m:=hf.rest m (kj (pa oP)) λhq=>Fh m hq I
 have Tr:lM cZ m=some em:=by rw[LH nI];exact oP
 have I2:∀bd r1,(if bd=lz i.aX then none else g bd)=some r1↔∃c∈db l i.aX,hL (ft c.aX)=hL (ft i.aX)∧lz c.aX=bd∧c.b0=r1:=λbd r1=>by
  by_cases nd:bd=lz i.aX
  ·rw[bh nd];refine⟨λe=>(by cases e),λ⟨c,ae,bq,c7,_⟩=>?_⟩;obtain⟨bX,a2⟩:=nW.1 ae;exact absurd (c7.trans nd) ((adR c bX bq).1 a2)
  rw[bf nd,g3];constructor
  ·rintro ⟨c,ae,bq,c7,c9⟩;exact⟨c,nW.2 ⟨ae,(adR c ae bq).2 λe=>nd (c7.symm.trans e)⟩,bq,c7,c9⟩
  rintro ⟨c,ae,bq⟩;exact⟨c,(nW.1 ae).1,bq⟩
 have vD:∀c5 gj,c5≠hL (ft i.aX)->dG em c5=some (some gj)->∃ed,kS hp gj ed∧kS cZ gj ed∧(∀q,Own hp gj q->own q)∧(∀q,Own cZ gj q↔Own hp gj q)∧∀bd n,ed bd=some n↔∃c∈db l i.aX,hL (ft c.aX)=c5∧lz c.aX=bd∧c.b0=n:=λc5 gj df aG=>by
  obtain⟨atp,ed,e,bX,a2,a3⟩:=az c5 _ aG;cases e;obtain⟨dM,eF⟩:=bX.congr (hp':=cZ) λq hq=>hf.rest q (bX.A2 hq) λqU=>bc _ _ _ _ bD aG df.symm q qU hq;refine⟨ed,bX,dM,a2,eF,λbd n=>?_⟩;rw[a3];constructor
  ·rintro ⟨c,ae,bq,c7⟩;exact⟨c,nW.2 ⟨ae,mw c ae (by rw[bq];exact df)⟩,bq,c7⟩
  rintro ⟨c,ae,bq⟩;exact⟨c,(nW.1 ae).1,bq⟩
 have c0:fr hp cZ own:=⟨hf.keys,λq hq fK=>hf.rest q hq λqU=>fK (g2 q qU)⟩
 have cc:pb s cZ m (db l i.aX) own:=by
  refine⟨em,Tr,ad,λc5 lX kp=>?_,λc5 iB c ae=>aV c5 iB c (nW.1 ae).1,λc5 lV t1 t2 lf l8 df q jL rO=>?_,ko⟩
  ·by_cases iB:c5=hL (ft i.aX)
   ·subst iB;rw[bD]at kp;cases kp;exact⟨t,_,rfl,ky,λq hq=>g2 q (rX q hq),I2⟩
   obtain⟨gj,ed,e,_⟩:=az c5 lX kp;subst e;obtain⟨B8,bX,a2,a3,a4,a5⟩:=vD c5 gj iB kp;exact⟨gj,B8,rfl,a2,λq hq=>a3 q ((a4 q).1 hq),a5⟩
  have ha:∀c5 t1,dG em c5=some (some t1)->∀q,Own cZ t1 q->Own hp t1 q:=λc5 t1 lf q jL=>by
   by_cases ar:c5=hL (ft i.aX)
   ·subst ar;rw[bD]at lf;cases lf;exact rX q jL
   obtain⟨_,_,_,_,a4,_⟩:=vD c5 t1 ar lf;exact(a4 q).1 jL
  exact bc _ _ _ _ lf l8 df q (ha c5 t1 lf q jL) (ha lV t2 l8 q rO)
 refine .eq Tr (.eq I ?_)
 simp only[bD]
 refine(show ba (Dx cZ (some t)) _ from amh ky (λbd cs id h1 ad=>?_) (l.map (·.b0)) (λbd id h1=>?_) (by rw[kQ];have:=al.ok.len;omega)).bind λbg bq=>?_
 ·obtain⟨c,ae,_,dM,eF⟩:=(I2 _ _).1 h1
  obtain⟨d,hd,_,d1,d2⟩:=(I2 _ _).1 ad
  have:=al.ok.uniq (nW.1 ae).1 (nW.1 hd).1 (eF.trans d2.symm)
  rw[<-dM,<-d1,this]
 ·obtain⟨c,ae,_,dM,eF⟩:=(I2 _ _).1 h1
  exact ig.2 ⟨c,(nW.1 ae).1,eF⟩
 refine .bind (P:=λhp'=>pb s hp' m (db l i.aX) own∧fr hp hp' own) (.cond (λbU=>.eq I (.ret ?_)) λ_=>.ret ⟨cc,c0⟩) λm1 bR=>.ret bR
 have bq:=bq (by simpa using bU)
 have ES:=pa Tr
 have Ts:∀gj ed,kS cZ gj ed->kS (cJ cZ m (Cell.oG (ju em (hL (ft i.aX))))) gj ed∧∀q,Own (cJ cZ m (Cell.oG (ju em (hL (ft i.aX))))) gj q↔Own cZ gj q:=λgj ed B6=>B6.congr λq tM=>nr λe=>by
  rw[e]at ES;rcases B6.MG tM with⟨c,ae⟩|⟨c,ae⟩ <;> rw[ae]at ES <;> cases ES
 refine⟨⟨_,Yk ES,ad,λc5 lX kp=>?_,λc5 iB c ae=>?_,λc5 lV t1 t2 lf l8 df q jL rO=>?_,ko.del⟩,c0.trans (fr.up ad) λq _ hq=>hq⟩
 ·rw[DV ko]at kp
  split at kp
  ·cases kp
  rename_i iB
  obtain⟨gj,ed,e,_⟩:=az c5 lX kp
  subst e
  obtain⟨B8,bX,a2,a3,a4,a5⟩:=vD c5 gj iB kp
  obtain⟨dM,eF⟩:=Ts gj B8 a2
  exact⟨gj,B8,rfl,dM,λq hq=>a3 q ((a4 q).1 ((eF q).1 hq)),a5⟩
 ·rw[DV ko]at iB
  split at iB
  ·rename_i e
   intro au
   have:=(I2 _ _).2 ⟨c,ae,au.trans e,rfl,rfl⟩
   rw[bq]at this;cases this
  exact aV c5 iB c (nW.1 ae).1
 rw[DV ko]at lf l8
 split at lf
 ·cases lf
 split at l8
 ·cases l8
 rename_i ar aS
 obtain⟨atk,bX,a2,a3,a4,_⟩:=vD c5 t1 ar lf
 obtain⟨atl,dM,eF,jA,Of,_⟩:=vD lV t2 aS l8
 exact bc _ _ _ _ lf l8 df q ((a4 q).1 (((Ts t1 _ a2).2 q).1 jL)) ((Of q).1 (((Ts t2 _ eF).2 q).1 rO))
def srem{s:aZ}{k:Nat}{hp:aL Cell}{q:Nat}{l:aa aH}{own:Nat->Prop}(hq:A4 s k hp q l own)(al:ic s k l){i:aH}(aq:i∈l):
 cO (Gl hp ⟨some q⟩ i) (λhp'=>A4 s k hp' q (db l i.aX) own∧fr hp hp' own):=by
 obtain⟨key,cap,h1,ad⟩:=hq.ok
 unfold Gl
 refine .eq I (.eq h1 (.eq (aiU al.ok _) (.any λaw=>.eq I (.ret ?_))))
 rw[L3 al aq (oB _)]
 exact⟨⟨aw.1,aw.2,Yl (yp h1),ad⟩,.up ad⟩
def ar6{s:aZ}(h:b7 s){k:Nat}{hp:aL Cell}{f:iK}{l:aa aH}{own:Nat->Prop}(hq:tn s k hp f l own)(al:ic s k l){i:aH}(aq:i∈l):
 cO (O1 hp f i) (λhp'=>tn s k hp' f (db l i.aX) own∧fr hp hp' own):=by
 rcases hq with⟨rfl,q,rfl,hq⟩|⟨rfl,m,rfl,hq⟩|⟨c0,q,rfl,hq⟩
 ·exact cO.of ((ar4 h hq al aq).mono λhp' aG=>⟨.inl ⟨rfl,q,rfl,aG.1⟩,aG.2⟩)
 ·exact cO.of ((ar5 h hq al aq).mono λhp' aG=>⟨.inr (.inl ⟨rfl,m,rfl,aG.1⟩),aG.2⟩)
 exact(srem hq al aq).mono λhp' aG=>⟨.inr (.inr ⟨c0,q,rfl,aG.1⟩),aG.2⟩
def WU{α β:Type}[DecidableEq α]:∀{l:aa (α×β)} {x:α},pF l->ju l x=l.filter λa=>decide (a.1≠x)
 |[],_,_=>rfl
 | (k,w)::r,x,h=>by
   obtain⟨h1,ad⟩:=kz.1 h;unfold ju;by_cases e:x=k
   ·rw[bh e,vi (by simp[e])];exact(sQ.2 λa aY=>by simpa using λe'=>h1 a aY (by rw[<-e,e'])).symm
   rw[bf e,xL (by simpa using λe'=>e e'.symm),WU ad]
def xe.h9{s:aZ}{k:Nat}{em:aa (Int×aH)}{l:aa aH}(h:xe em l)(al:kr s k l):pF em:=by
 refine(h.pairwise_iff λbW=>x8 bW).2 ?_;rw[CH];exact al.num.imp λbW=>bW
def aiV{s:aZ}(h:b7 s){k:Nat}(hk:k<4){hp:aL Cell}{p:Nat}{l:aa aH}{own:Nat->Prop}(au:lQ s k hp p l own){e:bl}(he:fE s k e):
 cO (GD hp (some p) e) (λr=>(r.1,r.2.1)=jh (dw l e)∧lQ s k r.2.2 p (db l e) own∧fr hp r.2.2 own):=by
 obtain⟨f,m,em,h1,ad,az,aV,bc,bq⟩:=au.cell
 have hm:=uo ad
 have hp':=AV h1
 have nI:p≠m:=λe=>by rw[e,hm]at hp';cases hp'
 unfold GD
 refine .eq (Q5 h hk au he) ?_
 refine .bind (P:=λm1=>lQ s k m1 p (db l e) own∧fr hp m1 own) (.cond (λae=>?_) λae=>.ret ?_) λm1 bR=>.ret ⟨rfl,bR⟩
 ·cases aW:dw l e with
  |none=>rw[aW]at ae;cases ae
  | some i=>
    obtain⟨aq,rR⟩:=o7 aW
    have atx:db l i.aX=db l e:=by
     rw[L3 au.gd aq (oB _),L3 au.gd aq rR]
    refine .eq I (.eq h1 (.bind (ar6 h bq au.gd aq) λcZ aG=>?_))
    obtain⟨ky,hf⟩:=aG
    have ky:tn s k cZ f (db l i.aX) (λq=>own q∧q≠m∧q≠p):=ky
    rw[atx]at ky
    show cO (aj.bind (aj.of (jc cZ p)) λc2=>aj.bind (aj.of c2.pO.p) λcC=>aj.bind (aj.of (mV cZ cC)) λeE=>aj.bind (aj.of (some (cJ cZ cC (Cell.mr (ju eE i.b0))))) λbQ=>aj.ret bQ) _
    have bX:pat cZ p=some (.qI ⟨r3 k,(jk s k:Int),f,⟨some m⟩⟩):=by rw[hf.rest p (kj hp') (λhq=>hq.2.2 I)];exact hp'
    have a2:pat cZ m=some (.mr em):=by rw[hf.rest m (kj hm) (λhq=>hq.2.1 I)];exact hm
    refine .eq (by unfold jc;rw[bX]) (.eq I (.eq (by unfold mV;rw[a2]) (.eq I (.ret ?_))))
    have aty:fr hp cZ own:=⟨hf.keys,λq hq fK=>hf.rest q hq λh=>fK h.1⟩
    have qb:fr hp (cJ cZ m (Cell.mr (ju em i.b0))) own:=aty.trans (fr.up (own:=own) aV) λq _ hq=>hq
    refine⟨⟨au.gd.db e,⟨f,m,_,by unfold jc;rw[nr nI.symm,bX],ajL a2,az,aV,?_,ky.congr (λq _ hq=>hq) λq hq=>nr hq.2.1.symm⟩,λq hq=>qb.keys q (au.pA q hq)⟩,qb⟩
    unfold xe
    rw[WU (bc.h9 au.gd.ok),L3 au.gd aq rR]
    refine(bc.filter _).trans ?_
    rw[Pa]
    have:((λa:Int×aH=>decide (a.1≠i.b0)) ∘ λc:aH=>(c.b0,c))=λc=>c.b0 !=i.b0:=by
     funext c;show decide (c.b0≠i.b0)=_;by_cases e:c.b0=i.b0 <;> simp[e]
    rw[this]
 have aW:dw l e=none:=by
  cases aW:dw l e with
  |none=>rfl
  |some i=>rw[aW]at ae;cases ae
 have:db l e=l:=by
  unfold db;exact sQ.2 λc ae=>by rw[uh aW c ae];rfl
 rw[this]
 exact⟨au,.refl⟩
end Go.Proofs.YtppgfphgdogpeaaGreat
