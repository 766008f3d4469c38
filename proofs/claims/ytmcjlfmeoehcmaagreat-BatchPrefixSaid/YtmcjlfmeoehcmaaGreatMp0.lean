/-
  What the programs compute, in plain Lean. Conditions: none.
-/
import Derived.Test.YtmcjlfmeoehcmaaGreatMl0
import Derived.Test.YtmcjlfmeoehcmaaGreatMl1
import Derived.Test.YtmcjlfmeoehcmaaGreatMd
set_option linter.defProp false
set_option linter.unusedVariables false
set_option linter.unusedSimpArgs false
set_option maxRecDepth 100000
namespace Gv
open Go
open List renaming length->u
open Option renaming some->w,none->Y
open Decidable renaming decide->S
open Bool renaming true->T,false->U
open Inhabited renaming default->V
open ag renaming bind->a',of->b1,ret->cr
open BitVec renaming ofInt->bB
def WO{h j:aB}{d:h->aw (h⊕j)}{Q:j->Prop}{i:h}(e:Nat)(f:Nat->h->Prop)
 (n:e<2^80) (l:f 0 i)
 (o:∀c b,c<e->f c b->(∃k,d b=w (.inl k)∧f (c+1) k)∨(∃a,d b=w (.inr a)∧Q a))
 (p:∀b,f e b->∃a,d b=w (.inr a)∧Q a):∃a,cj bX d i=w a∧Q a:=by
 have m:∀g c b,c<=e->e-c<g->f c b->∃a,cj g d b=w a∧Q a:=by
  intro g;induction g with
  |zero=>omega
  | succ g q=>
    grind[cj]
 exact m bX 0 i (by omega) (by simp_all[bX]) l
def aM{a:aB}(c:aw a)(d:a->Prop):Prop:=∃b,c=w b∧d b
def aM.ret{b:aB}{c:b->Prop}{a:b}(d:c a):aM (w a) c:=⟨a,rfl,d⟩
def aM.bind{au b:aB}{c:aw au}{d:au->aw b}{P:au->Prop}{e:b->Prop}(f:aM c P)(g:∀a,P a->aM (d a) e):aM (c.bind d) e:=by
 obtain⟨a,h,i⟩:=f;simp_all
def aM.eq{au b:aB}{c:aw au}{a:au}{d:au->aw b}{e:b->Prop}(f:c=w a)(g:aM (d a) e):aM (c.bind d) e:=by
 simp_all
def aM.mono{b:aB}{c:aw b}{d e:b->Prop}(f:aM c d)(g:∀a,d a->e a):aM c e:=by
 obtain⟨a,h,i⟩:=f;exact⟨a,h,g a i⟩
def aM.of_eq{a:aB}{b:aw a}{c:a}{d:a->Prop}(e:aM b d)(f:b=w c):d c:=by
 obtain⟨g,h,i⟩:=e;simp_all
def aM.cond{c:aB}{b:aI}{d e:aw c}{a:c->Prop}(f:b=T->aM d a)(g:b=U->aM e a):aM (cond b d e) a:=by
 grind
theorem aM.bs{au d:aB}[Inhabited au]{b a:aI}{e:aw au}{f:au->aw d}{P:au->Prop}{g:d->Prop}(i:b=a->aM e P)(j:∀c,(b=a->P c)->aM (f c) g):aM ((bs b a e).bind f) g:=by
 unfold Gv.bs;by_cases h:b=a
 ·rw[bT h];exact(i h).bind λc k=>j c λ_=>k
 simp_all
def aM.loop{e j k:aB}{i:e->aw (e⊕j)}{f:j->aw k}{g:k->Prop}{l:e}(h:Nat)(c:Nat->e->Prop)
 (m:h<2^80) (n:c 0 l)
 (o:∀d a,d<h->c d a->aM (i a) (λp=>match p with | .inl q=>c (d+1) q| .inr b=>aM (f b) g))
 (r:∀a,c h a->∃b,i a=w (.inr b)∧aM (f b) g):aM ((cj bX i l).bind f) g:=by
 obtain⟨b,A,B⟩:=WO (Q:=λb=>aM (f b) g) h c m n (λd a C D=>by
  obtain⟨E,A,B⟩:=o d a C D;grind) r
 simp_all
def aM.gC{e n:aB}{j:e->aw (e⊕n)}{f:n->Prop}{o:e}(g:Nat)(c:Nat->e->Prop)
 (q:g<2^80) (r:c 0 o)
 (A:∀d a,d<g->c d a->aM (j a) (λk=>match k with | .inl l=>c (d+1) l| .inr b=>f b))
 (B:∀a,c g a->aM (j a) (λk=>match k with | .inl _=>False| .inr b=>f b)):aM (cj bX j o) f:=by
 obtain⟨b,h,i⟩:=WO (Q:=f) g c q r (λd a C m=>by
  obtain⟨p,h,i⟩:=A d a C m;cases p with
  |inl l=>exact .inl ⟨l,h,i⟩
  |inr b=>simp_all) λa m=>by
  obtain⟨p,h,i⟩:=B a m;grind
 exact⟨b,h,i⟩
theorem aM.idx{b:aB}{a:Nat}{c:Int}{k:Nat}{d:Nat->aw b}{e:b->Prop}(f:c=k)(h:k<a)(g:aM (d k) e):aM ((Gv.idx a c).bind d) e:=by
 subst f;have:Gv.idx a (k:Int)=w k:=by unfold Gv.idx;rw[bT (by omega)];simp
 rw[this];exact g
def nn{au:aB}[Inhabited au]{c:Nat}(d:ck au c){a:Nat}(e:au)(f:a<c)(b:Nat):cu (fC d a e) b=if b=a then e else cu d b:=by
 grind[cu,fC]
def WQ{au:aB}[Inhabited au]{b:Nat}{c d:ck au b}(e:∀a,a<b->cu c a=cu d a):c=d:=by
 grind[cu]
theorem Cs{au:aB}[Inhabited au]{a:Nat}(b:Nat):cu (V:ck au a) b=V:=by
 show cu (Vector.replicate a V) b=V;grind[cu]
def lo{a k:Nat}(b:k<a):idx a (k:Int)=w k:=by
 unfold idx;rw[bT (by omega)];simp
def mj{b:Nat}{a:Int}(c:0<=a)(d:a<b):idx b a=w a.toNat:=by
 unfold idx;rw[bT ⟨c,d⟩]
theorem cZ{a:Nat}(b:a<2^62):aV ((a:Int)+1)=((a+1:Nat):Int):=by
 grind[eU]
def tr{a:Nat}(b:a<2^64):(bB 64 (a:Int)).toNat=a:=by
 simp_all
theorem XS(a:cE 64):((a&&&1#64)==1#64)=a.getLsbD 0:=by
 grind[BitVec.and_one_eq_setWidth_ofBool_getLsbD]
def ai3(a:cE 64)(b:Nat):(((a >>> b)&&&1#64)==1#64)=a.getLsbD b:=by
 grind[XS]
def VW(b a:Nat):((1#64) <<< b).getLsbD a=(S (a=b)&&S (a<64)):=by
 grind
def uF{au a:aB}[Inhabited au][Inhabited a](b:au->a){l:R au}{k:Nat}(c:k<u l):al (l.map b) k=b (al l k):=by
 simp_all[dI,xi]
theorem mL{au:aB}[Inhabited au](a:R au){b:Nat}(c:b<u a):a.take (b+1)=a.take b++[al a b]:=by
 grind[List.take_add_one,List.getElem?_eq_getElem,dI]
def XT{au:aB}[Inhabited au]{a:R au}{p:au->aI}{b:Nat}(d:b<u a)(e:p (al a b)=T)(f:∀c,c<b->p (al a c)=U):a.find? p=w (al a b):=by
 grind[List.find?_eq_some_iff_getElem,dI]
def XU{au:aB}{a:R au}{b:au->aI}(d:∀c∈a,b c=U):a.find? b=Y:=
 Ex.2 λc e=>by simp_all
def ahX{au m n:aB}[Inhabited au](b:R au)(c:au->aI){f:Int->aw (Int⊕m)}{h:m->aw n}{i:n->Prop}(E:u b<2^62)
 (q:∀a:Nat,a<u b->c (al b a)=U->f a=w (.inl (aV ((a:Int)+1))))
 (r:∀a:Nat,a<u b->b.find? c=w (al b a)->c (al b a)=T->∃d,f a=w (.inr d)∧aM (h d) i)
 (A:b.find? c=Y->∃d,f (u b:Int)=w (.inr d)∧aM (h d) i):aM ((cj bX f 0).bind h) i:=by
 refine aM.loop (u b) (λa j=>j=(a:Int)∧∀e,e<a->c (al b e)=U) (by omega) ⟨rfl,λe o=>by omega⟩ (λa j k l=>?_) (λj l=>?_)
 ·obtain⟨rfl,p⟩:=l
  by_cases g:c (al b a)=T
  ·obtain⟨d,B,C⟩:=r a k (XT k g p) g
   rw[B];exact .ret C
  simp only[qc]at g
  rw[q a k g]
  refine .ret ⟨cZ (by omega),λe o=>?_⟩
  grind
 obtain⟨rfl,p⟩:=l
 refine A (XU λF D=>?_)
 obtain⟨e,o,rfl⟩:=vw.1 D
 simp_all[dI]
def cB{au:aB}(c:ag au)(d:au->Prop):Prop:=∀a:au->Prop,(∀b,d b->a b)->c a
theorem cB.run{au:aB}{c:ag au}{a:au->Prop}(b:cB c a):c a:=b a λ_ b=>b
def cB.ret{au:aB}{b:au->Prop}{a:au}(c:b a):cB (cr a) b:=λe d=>d a c
def cB.bind{au b:aB}{c:ag au}{d:au->ag b}{P:au->Prop}{e:b->Prop}(f:cB c P)(g:∀a,P a->cB (d a) e):cB (a' c d) e:=λh i=>f _ λa aF=>g a aF h i
def cB.of{au:aB}{a:aw au}{b:au->Prop}(d:aM a b):cB (b1 a) b:=λh e=>let⟨c,f,g⟩:=d; ⟨c,f,e c g⟩
def cB.kZ{au a:aB}{b:aw au}{c:au->ag a}{P:au->Prop}{d:a->Prop}(f:aM b P)(g:∀e,P e->cB (c e) d):cB (a' (b1 b) c) d:=.bind (.of f) g
def cB.eq{au b:aB}{c:aw au}{a:au}{d:au->ag b}{e:b->Prop}(f:c=w a)(g:cB (d a) e):cB (a' (b1 c) d) e:=λh i=>⟨a,f,g h i⟩
def cB.mono{au:aB}{b:ag au}{c d:au->Prop}(e:cB b c)(f:∀a,c a->d a):cB b d:=λg h=>e g λa aF=>h a (f a aF)
def cB.cond{au:aB}{b:aI}{c d:ag au}{a:au->Prop}(e:b=T->cB c a)(f:b=U->cB d a):cB (cond b c d) a:=by
 cases b
 ·exact f o
 exact e o
theorem cB.bs{au f:aB}[Inhabited au]{b a:aI}{g:aw au}{h:au->ag f}{P:au->Prop}{i:f->Prop}(e:b=a->aM g P)(j:∀c,(b=a->P c)->cB (h c) i):cB (a' (b1 (bs b a g)) h) i:=by
 unfold Gv.bs;by_cases d:b=a
 ·rw[bT d];exact .kZ (e d) λc k=>j c λ_=>k
 rw[bU d];exact .eq o (j V λe=>absurd e d)
theorem cB.idx{a:aB}{b:Nat}{c:Int}{k:Nat}{d:Nat->ag a}{e:a->Prop}(f:c=k)(g:k<b)(h:cB (d k) e):cB (a' (b1 (Gv.idx b c)) d) e:=by
 subst f;exact .eq (lo g) h
def cB.mk{b d:aB}{c:aL b}{e:b}{f:Nat×aL b->ag d}{g:d->Prop}(j:∀a,a∉dy c->cB (f (a,(a,e)::c)) g):cB (a' (ag.mk c e) f) g:=λk l=>λm n=>by
 obtain⟨a,o⟩:=m;obtain⟨h,i⟩:=n;simp only at h i;subst i;exact j a h k l
def cB.any{au b:aB}{c:au->ag b}{d:b->Prop}(e:∀a,cB (c a) d):cB (a' (ag.any au) c) d:=λf g a=>e a f g
def cB.loop{g o:aB}{h:g->ag (g⊕o)}{i:o->Prop}{k:g}(d:Nat)(e:Nat->g->Prop)(F:d<2^80)(q:e 0 k)
 (r:∀a b,a<d->e a b->cB (h b) (λl=>match l with | .inl j=>e (a+1) j| .inr c=>i c))
 (A:∀b,e d b->cB (h b) (λl=>match l with | .inl _=>False| .inr c=>i c)):cB (mr bX h k) i:=by
 have B:∀f a b,a<=d->d-a<f->e a b->cB (mr f h b) i:=by
  intro f;induction f with
  |zero=>intro a b _ G;omega
  | succ f C=>
    intro a b H aQ p D m
    by_cases E:a=d
    ·subst E
     exact A b p _ λn aF=>by
      cases n with
      |inl j=>exact aF.elim
      |inr c=>exact m c aF
    exact r a b (by omega) p _ λn aF=>by
     cases n with
     |inl j=>exact C (a+1) j (by omega) (by omega) aF D m
     |inr c=>exact m c aF
 exact B bX 0 k (by omega) (by unfold bX;omega) q
def nr{b:aB}{c:aL b}{d a:Nat}{e:b}:pat ((d,e)::c) a=if d=a then w e else pat c a:=rfl
def ai4{c:aB}{a:aL c}{b:Nat}(d:b∉dy a):pat a b=Y:=by
 cases e:pat a b with
 |none=>rfl
 |some f=>exact absurd (ji e) d
def ss{b:aB}{c:aL b}{a:Nat}{d e:b}(f:pat c a=w e):pat (cS c a d) a=w d:=by rw[GM,bT o,f];rfl
theorem mN{b:aB}{c:aL b}{d a:Nat}{e:b}(f:d≠a):pat (cS c d e) a=pat c a:=by rw[GM,bU f]
def vQ{au i:aB}[DecidableEq au]{e:R (au×i)}{c a:au}{f:i}:dU (fB e c f) a=if a=c then w f else dU e a:=by
 induction e with
 | nil=>
   show(if a=c then w f else dU [] a)=_
   rfl
 | cons j l k=>
   obtain⟨g,m⟩:=j
   simp only[fB]
   by_cases d:c=g
   ·rw[bT d]
    simp only[dU]
    by_cases b:a=c
    ·simp[b]
    simp[b,show ¬a=g from λh=>b (by rw[h,d])]
   rw[bU d]
   simp only[dU]
   by_cases b:a=g
   ·subst b;simp[show ¬a=c from λh=>d h.symm]
   rw[bU b,k,bU b]
end Gv
namespace Go.Proofs.YtmcjlfmeoehcmaaGreat
open Go Gv
open List renaming length->u,singleton_append->bY,cons_append->ca
open Option renaming some->w,bind_some->W,none->Y
open Decidable renaming decide->S
open Bool renaming true->T,false->U,and_false->cn
open Inhabited renaming default->V
open BitVec renaming ofInt->bB,toNat_and->cb
open _root_.ByteArray renaming mk->bL
open True renaming intro->b5
open Nat renaming and_le_right->cd
def gh(b:aI):Nat:=bif b then 1 else 0
def dD(c:aL Cell):Ref->R aI->Ref
 |none,_=>Y
 |some a,[]=>w a
 | some a,b::d=>match dp c a with
   |none=>Y
   |some e=>dD c (cu e.eI (gh b)) d
theorem iR{b:aL Cell}{a:R aI}:dD b Y a=Y:=by cases a <;> rfl
theorem so{b:aL Cell}{a:Ref}:dD b a []=a:=by cases a <;> rfl
theorem iS{a:aL Cell}{d:Nat}{c:fJ}{b:aI}{e:R aI}(f:dp a d=w c):dD a (w d) (b::e)=dD a (cu c.eI (gh b)) e:=by
 show(match dp a d with |none=>Y|some c=>dD a (cu c.eI (gh b)) e)=_;rw[f]
theorem oP{a:aL Cell}:∀{h:Ref} {d c:R aI},dD a h (d++c)=dD a (dD a h d) c
 |none,d,c=>by simp_all[iR]
 |some e,[],c=>by rfl
 | some e,b::d,c=>by
   cases f:dp a e with
   | none=>
     have i:∀g,dD a (w e) (b::g)=Y:=λg=>by
      show(match dp a e with |none=>Y|some j=>dD a (cu j.eI (gh b)) g)=_;rw[f]
     rw[ca,i,i,iR]
   |some j=>rw[ca,iS f,iS f,oP]
def VX{c e:aL Cell}:∀{g:Ref} {d:R aI},(∀a h,dD c g h=w a->dp e a=dp c a)->dD e g d=dD c g d
 |none,d,_=>by simp_all[iR]
 |some a,[],_=>rfl
 | some a,b::d,i=>by
   have j:=i a [] o;show(match dp e a with |none=>Y|some f=>dD e (cu f.eI (gh b)) d)=(match dp c a with |none=>Y|some f=>dD c (cu f.eI (gh b)) d);rw[j];cases l:dp c a with
   |none=>rfl
   | some f=>
     refine VX λk h m=>i k (b::h) ?_
     simp_all[iS]
structure rp(aC:aL Cell)(root:Ref):Prop where
 reads:∀lf p,dD aC root lf=w p->∃c,dp aC p=w c
 inj:∀lf cs p,dD aC root lf=w p->dD aC root cs=w p->lf=cs
 dep:∀lf p,dD aC root lf=w p->lf.length<=32
def cont(a:aL Cell)(c:Ref)(d:R aI):aw Int:=match dD a c d with
 |none=>Y
 | some e=>match dp a e with
   |none=>Y
   |some b=>bif b.ib then w b.lO else Y
theorem ml{a:aL Cell}{c:Ref}{d:R aI}{p:Nat}{b:fJ}(e:dD a c d=w p)(f:dp a p=w b):cont a c d=bif b.ib then w b.lO else Y:=by
 simp_all[cont]
theorem nY{a:aL Cell}{b:Ref}{c:R aI}(d:dD a b c=Y):cont a b c=Y:=by
 simp_all[cont]
def sk{a:aL Cell}{b:Nat}{c:fJ}:dp a b=w c↔pat a b=w (.iK c):=by
 refine⟨rl,λd=>?_⟩;unfold dp;rw[d]
def vR{a:aL Cell}{b:Nat}{c:h6}:gK a b=w c↔pat a b=w (.lz c):=by
 refine⟨xW,λd=>?_⟩;unfold gK;rw[d]
def zS{b c:aL Cell}{a:Nat}(d:pat c a=pat b a):dp c a=dp b a:=by unfold dp;rw[d]
theorem Kn{b c:aL Cell}{a:Nat}(d:pat c a=pat b a):gK c a=gK b a:=by unfold gK;rw[d]
structure eK(aC dt:aL Cell)(own:Nat->Prop):Prop where
 keys:∀q,q∈dy aC->q∈dy dt
 rest:∀q,q∈dy aC->¬own q->pat dt q=pat aC q
def eK.refl{a:aL Cell}{b:Nat->Prop}:eK a a b:=⟨λ_ c=>c,λ_ _ _=>rfl⟩
def eK.mk'{a:aL Cell}{own:Nat->Prop}{b:Nat}{e:Cell}(f:b∉dy a):eK a ((b,e)::a) own:=
 ⟨λc d=>gO _ d,λc d _=>by rw[nr,bU (λg:b=c=>f (by simp_all))]⟩
def eK.up{b:aL Cell}{own:Nat->Prop}{a:Nat}{d:Cell}(g:own a):eK b (cS b a d) own:=
 ⟨λc e=>by simp_all[qo],λc e f=>mN (λh:a=c=>f (by simp_all))⟩
def eK.trans{d g h:aL Cell}{e AH:Nat->Prop}(f:eK d g e)(b:eK g h AH)(j:∀a,a∈dy d->AH a->e a):eK d h e:=
 ⟨λa c=>b.keys a (f.keys a c),λa c i=>by rw[b.rest a (f.keys a c) λk=>i (j a c k),f.rest a c i]⟩
def ahY(b:aI):cu (V:fJ).eI (gh b)=Y:=by cases b <;> rfl
def VY{d:aL Cell}{a:Nat}(e:dp d a=w (V:fJ)):∀c,dD d (w a) c=if c=[]then w a else Y
 |[]=>rfl
 |b::c=>by simp_all[iS,ahY,iR]
def PD{e j:aL Cell}{g:Ref}{f:R aI}{b:aI}{k h:Nat}{l:fJ}(q:rp e g)(m:dD e g f=w k)(r:dp e k=w l)(aQ:cu l.eI (gh b)=Y)(H:dp e h=Y)
 (B:dp j k=w {l with eI:=fC l.eI (gh b) (w h)}) (I:dp j h=w V) (J:∀d,d≠k->d≠h->dp j d=dp e d):
 ∀(C a:R aI) (d:Nat),dD e g a=w d->dD j (w d) C=if a++C=f++[b]then w h else dD e (w d) C
 | [],a,d,D=>by
   have: ¬a++[]=f++[b]:=λi=>by
    simp_all[qe,oP,iS,aQ,iR]
   rw[bU this];rfl
 | c::n,a,d,D=>by
   obtain⟨K,E⟩:=q.reads a d D;have ad:d≠h:=λi=>by simp_all
   by_cases M:d=k
   ·subst M;have N:=q.inj a f d D m;subst N;rw[r]at E;cases E;rw[iS B,iS r];simp only;have O:gh b<2:=by cases b <;> decide
    rw[nn _ _ O];by_cases L:c=b
    ·simp_all[bT,aQ,iR,VY,bU]
    have P: ¬gh c=gh b:=λi=>L (by cases c <;> cases b <;> first|rfl|cases i);have F: ¬a++c::n=a++[b]:=λi=>L (by simp_all);rw[bU P,bU F];cases i:cu l.eI (gh c)with
    |none=>simp_all[iR]
    | some p=>
      have G:dD e g (a++[c])=w p:=by simp_all[oP,iS,so]
      rw[PD q m r aQ H B I J n (a++[c]) p G,mI,bY,bU F]
   have Q:dp j d=w K:=by simp_all
   rw[iS Q,iS E];cases i:cu K.eI (gh c)with
   | none=>
     have F: ¬a++c::n=f++[b]:=λae=>by
      have aa:dD e g (a++[c])=Y:=by simp_all[oP,iS,iR]
      rcases List.eq_nil_or_concat n with rfl|⟨A,ab,rfl⟩
      ·simp_all
      have ac:a++c::A=f:=by
       have:(a++c::A)++[ab]=f++[b]:=by simp_all
       exact S3 this o
      rw[<-ac,show a++c::A=(a++[c])++A by simp,oP,aa,iR]at m;cases m
     simp_all[iR,bU]
   | some p=>
     have G:dD e g (a++[c])=w p:=by simp_all[oP,iS,so]
     rw[PD q m r aQ H B I J n (a++[c]) p G,mI,bY]
def grow{f g:aL Cell}{c:Nat}{j:R aI}(aq:u j<32){b:aI}{l h:Nat}{m:fJ}(k:rp f (w c))(A:dD f (w c) j=w l)(B:dp f l=w m)(aQ:cu m.eI (gh b)=Y)(C:dp f h=Y)
 (D:dp g l=w {m with eI:=fC m.eI (gh b) (w h)}) (q:dp g h=w V) (r:∀d,d≠l->d≠h->dp g d=dp f d):
 rp g (w c)∧(∀a,dD g (w c) a=if a=j++[b]then w h else dD f (w c) a)∧∀a,cont g (w c) a=cont f (w c) a:=by
 have n:∀a,dD g (w c) a=if a=j++[b]then w h else dD f (w c) a:=λa=>PD k A B aQ C D q r a [] c o
 have E:∀a,dD f (w c) a≠w h:=λa e=>by
  obtain⟨m,i⟩:=k.reads a h e;simp_all
 have F:dD f (w c) (j++[b])=Y:=by simp_all[oP,iS,aQ,iR]
 refine⟨⟨λa d e=>?_,λa G d i p=>?_,λa d e=>?_⟩,n,λa=>?_⟩
 ·rw[n]at e
  split at e
  ·simp_all
  obtain⟨H,i⟩:=k.reads a d e
  grind
 ·rw[n]at i p
  split at i <;> split at p
  ·simp_all
  ·simp_all
  ·simp_all
  exact k.inj a G d i p
 ·rw[n]at e
  split at e
  ·grind
  exact k.dep a d e
 by_cases I:a=j++[b]
 ·subst I
  rw[nY F,ml (by simp_all) q];rfl
 have J:dD g (w c) a=dD f (w c) a:=by simp_all
 cases e:dD f (w c) a with
 |none=>simp_all[nY]
 | some d=>
   obtain⟨H,i⟩:=k.reads a d e
   by_cases K:d=l
   ·simp_all[ml]
   rw[ml e i,ml (J.trans e) (by rw[r d K λL=>E a (L▸e)];exact i)]
def GF{d f:aL Cell}{g:Nat}{e l:fJ}(h:dp d g=w e)(i:dp f g=w l)(j:l.eI=e.eI)(k:∀a,a≠g->dp f a=dp d a):∀(c:R aI) (m:Ref),dD f m c=dD d m c
 |c,Y=>by simp_all[iR]
 |[],w a=>rfl
 | b::c,w a=>by
   by_cases n:a=g
   ·subst n;rw[iS h,iS i,j];exact GF h i j k c _
   cases o:dp d a with
   | none=>
     show(match dp f a with |none=>Y|some e=>dD f (cu e.eI (gh b)) c)=(match dp d a with |none=>Y|some e=>dD d (cu e.eI (gh b)) c)
     simp_all
   |some p=>rw[iS o,iS (by rw[k a n];exact o)];exact GF h i j k c _
def aa9{c g:aL Cell}{d:Ref}{h:R aI}{e:Nat}{l i:fJ}(f:rp c d)(n:dD c d h=w e)(o:dp c e=w l)(p:dp g e=w i)(q:i.eI=l.eI)(r:∀b,b≠e->dp g b=dp c b):
 rp g d∧∀a,cont g d a=if a=h then(bif i.ib then w i.lO else Y)else cont c d a:=by
 have A:=GF o p q r
 refine⟨⟨λa b k=>?_,λa B b j C=>f.inj a B b (by simp_all) (by simp_all),λa b k=>f.dep a b (by simp_all)⟩,λa=>?_⟩
 ·rw[A]at k
  obtain⟨D,j⟩:=f.reads a b k
  grind
 by_cases m:a=h
 ·simp_all[bT,ml]
 rw[bU m]
 cases j:dD c d a with
 |none=>simp_all[nY]
 | some b=>
   obtain⟨D,C⟩:=f.reads a b j
   have F:b≠e:=λE=>m (f.inj a h e (E▸j) n)
   simp_all[ml]
theorem eS{au:aB}{b:Nat}(a c:R au)(d:u a+u c<=1000000)(e:b<=100000):dA b a c=w (a++c):=by
 unfold dA;rw[bT];unfold maxLen;refine⟨mK (Nat.mul_le_mul d e) (by omega),by omega⟩
def gv(a:dB):Prop:=0<=a.du∧u a.cw<=1000
def K8(c:R (cE 8))(b:Int)(d:0<=b)(e:b<=1000):aM (uz c b) gv:=by
 unfold uz;refine .eq (a:=(c.drop 0).take ((min (u c:Int) b).toNat-0)) ?_ (.ret ⟨oD 0,?_⟩)
 ·grind[kF]
 grind
def gV(e:dB)(c:Int)(i:gv e)(aQ:1<=c):aM (gi e c) (λd=>gv d.2∧0<=d.1∧d.1<c∧d.1<256):=by
 unfold gi Jh;obtain⟨b,m⟩:=e;obtain⟨f,g⟩:=i;simp only at f g;obtain⟨a,rfl⟩:=mE f;refine .eq o (.cond (λ_=>.ret ⟨⟨f,g⟩,by omega,by omega,by omega⟩) λj=>?_);simp only[Em,Bool.not_eq_false',ik,qb]at j;have k:aV ((a:Int)+1)=((a+1:Nat):Int):=cZ (by omega);simp only[k];have l:aV (((a+1:Nat):Int)-1)=(a:Int):=by grind[eU]
 rw[l];refine .idx o (by omega) (.eq (by unfold rB;rw[bU (by omega)]) (.ret ⟨⟨by grind,g⟩,?_,?_,?_⟩))
 ·grind
 ·exact Ew _ (by omega)
 simp only;have n:(al b a).toNat<256:=(al b a).isLt;obtain⟨h,rfl⟩:=mE (show 0<=c by omega);have p:(((al b a).toNat:Int)).tmod h=(((al b a).toNat % h:Nat):Int):=(Int.ofNat_tmod _ _).symm;have q:=Nat.mod_le (al b a).toNat h;omega
def pz(a:dB)(b:gv a):aM (lj a) (λc=>gv c.2):=by
 unfold lj;exact .bind (gV a 2 b (by omega)) λe d=>.ret d.1
def Vr(a:dB)(i:gv a):aM (EU a) (λc=>gv c.2∧u c.1=3):=by
 unfold EU;refine .bind (gV a 4 i (by omega)) λn d=>?_;refine .eq (mj d.2.1 (by simp_all)) (.eq o (.eq o (.bind (pz _ d.1) λp e=>?_)));refine .bind (P:=λb=>gv b.1) (.cond (λ_=>?_) (λ_=>.ret e)) λq j=>?_
 ·refine .bind (gV _ 2 e (by omega)) λr k=>.eq o (.bind (gV _ 4 k.1 (by omega)) λA f=>?_);exact .eq (mj f.2.1 (by simp_all)) (.eq o (.eq (eS _ _ (by simp) (by omega)) (.ret f.1)))
 refine .bind (gV _ 4 j (by omega)) λB g=>.eq (mj g.2.1 (by simp_all)) (.eq o (.eq o ?_));refine .bind (gV _ 3 g.1 (by omega)) λC h=>?_;refine .bind (P:=λb=>gv b.1) (.cond (λ_=>?_) (λ_=>.ret h.1)) λD l=>.ret ⟨l,rfl⟩;exact .bind (gV _ 3 h.1 (by omega)) λE m=>.eq o (.ret m.1)
def qv(a:eP):Int×R Int:=(a.cA,a.e2.map (·.hz))
def AI:R (Int×R Int):=[(1,[]),(2,[]),(3,[16]),(4,[4]),(5,[4,12]),(6,[])]
def ai5{au e:aB}[Inhabited au](a:au->e)(b:R au)(c:Nat)(d:au)(f:a d=a (al b c)):(eZ b c d).map a=b.map a:=by
 unfold eZ;apply EJ
 ·simp
 simp_all[lY,vC,xi,List.getElem_set,dI]
def Kz{au e:aB}[Inhabited au](a:au->e){b:R au}{c:Nat}{d:au}{f:R e}(g:a d=a (al b c))(h:b.map a=f):(eZ b c d).map a=f:=(ai5 a b c d g).trans h
def U6(c:dB)(e:gv c):aM (vz c) (λd=>gv d.2∧d.1.map qv=AI):=by
 unfold vz;refine .eq o (.eq o (.eq o (.eq o (.eq o (.eq o (.eq o (.eq o (.eq o (.eq o (.eq o (.eq o (.eq o ?_))))))))))));refine .bind (gV _ 2 e (by omega)) λn g=>.eq o (.bind (gV _ 256 g.1 (by omega)) λp h=>.eq o (.eq o (.eq o ?_)));refine .bind (pz _ h.1) λq i=>?_;refine .bind (P:=λa=>a.map qv=AI) (.cond (λ_=>?_) (λ_=>.ret o)) λj b=>?_
 ·exact .idx (k:=2) o (by simp) (.eq o (.ret (Kz qv o o)))
 refine .bind (pz _ i) λr l=>.bind (P:=λa=>a.map qv=AI) (.cond (λ_=>?_) (λ_=>.ret b)) λA m=>.ret ⟨l,m⟩;have B:u j=6:=by rw[<-lY (f:=qv),b];rfl
 exact .idx (k:=4) o (by omega) (.eq o (.ret (Kz qv o b)))
def rQ:eu:= {bW:=bL #[97],im:=4,cO:=1}
def vr:eu:= {bW:=bL #[100],im:=7,cO:=2}
def MP:eu:= {bW:=bL #[109],im:=3,cO:=1}
def A5:eu:= {bW:=bL #[101],im:=6,cO:=3}
def AX:eu:= {bW:=bL #[97],im:=4,cO:=3}
def MQ:eu:= {bW:=bL #[98],im:=5,cO:=1}
def A6:eu:= {bW:=bL #[102],im:=8,cO:=4}
def MR:eu:= {bW:=bL #[103],im:=9,cO:=1}
def nx(a:dc):Int×R Int×R eu:=(a.cA,a.cM,a.bS)
def yn(b:aI):R eu:=if b then [vr,MP]else [vr]
def AB(b:aI):R eu:=if b then [A5,AX,MQ]else [A5,AX]
def AD(b:aI):R eu:=if b then [A6,MR,vr]else [A6]
def tJ(a b c:aI):R (Int×R Int×R eu):=
 [(1,[1,2,4],[rQ]),(2,[1,2,3,4],yn a),(3,[1,2,3,5,6],AB b),(4,[1,3,5],AD c)]
def Vs(r:dB)(I:gv r):aM (zf r) (λl=>gv l.2∧(∀m∈l.1.map (·.gA),2<=m∧m<=16)∧∃i j k,l.1.map nx=tJ i j k):=by
 unfold zf;refine .eq o (.bind (gV _ 2 I (by omega)) λam J=>.bind (gV _ 5 J.1 (by omega)) λK A=>.eq o (.eq o ?_));refine .bind (gV _ 6 A.1 (by omega)) λB C=>.bind (pz _ C.1) λan L=>?_;refine .bind (P:=λa=>(a.1.cA=2∧a.1.cM=[1,2,3,4]∧a.1.gA=aV (3+B.1))∧∃b,a.2=yn b) (.cond (λ_=>?_) (λ_=>.ret ⟨⟨rfl,rfl,rfl⟩,U,rfl⟩)) λao M=>?_
 ·exact .eq o (.eq (eS _ _ (by simp) (by omega)) (.ret ⟨⟨rfl,rfl,rfl⟩,T,rfl⟩))
 refine .eq o (.eq o (.bind (gV _ 6 L (by omega)) λD E=>.bind (pz _ E.1) λap N=>?_));refine .bind (P:=λa=>(a.1.cA=3∧a.1.cM=[1,2,3,5,6]∧a.1.gA=aV (4+D.1))∧∃b,a.2=AB b) (.cond (λ_=>?_) (λ_=>.ret ⟨⟨rfl,rfl,rfl⟩,U,rfl⟩)) λaq O=>?_
 ·exact .eq o (.eq (eS _ _ (by simp) (by omega)) (.ret ⟨⟨rfl,rfl,rfl⟩,T,rfl⟩))
 refine .eq o (.bind (gV _ 5 N (by omega)) λF G=>.bind (pz _ G.1) λar Q=>?_);refine .bind (P:=λa=>(a.1.cA=4∧a.1.cM=[1,3,5]∧a.1.gA=aV (3+F.1))∧∃b,a.2=AD b) (.cond (λ_=>?_) (λ_=>.ret ⟨⟨rfl,rfl,rfl⟩,U,rfl⟩)) λau R=>?_
 ·exact .eq o (.eq o (.eq (eS _ _ (by simp) (by omega)) (.ret ⟨⟨rfl,rfl,rfl⟩,T,rfl⟩)))
 refine .eq o (.eq o (.eq o (.eq o (.eq o ?_))));obtain⟨⟨aa,ab,av⟩,i,ac⟩:=M;obtain⟨⟨ad,ae,aw⟩,j,af⟩:=O;obtain⟨⟨ag,ah,ax⟩,k,ai⟩:=R;refine aM.loop 4 (λd c=>c.1=(d:Int)∧c.2.1.map nx=tJ i j k∧gv c.2.2∧c.2.1.map (·.gA)=[aV (2+K.1),aV (3+B.1),aV (4+D.1),aV (3+F.1)]) (by omega) ⟨rfl,?_,Q,?_⟩ (λd c ay n=>?_) (λc n=>?_)
 ·simp only[pv,List.map_nil,nx,aa,ab,ac,ad,ae,af,ag,ah,ai,tJ];rfl
 ·simp_all
 ·obtain⟨aj,H,ak⟩:=c;obtain⟨e,f,g,h⟩:=n;simp only at e f g h;subst e;refine aM.cond (λ_=>?_) (λaz=>by grind);have aA:u H=4:=by grind[List.length_map]
  refine .idx o (by omega) (.bind (gV _ 3 g (by omega)) λaB p=>.eq (mj p.2.1 ?_) (.idx o (by simp_all) (.eq o (.ret ⟨cZ (by omega),?_,p.1,?_⟩))))
  ·have al:=p.2.2.1;have:d=0∨d=1∨d=2∨d=3:=by omega
   rcases this with rfl|rfl|rfl|rfl <;> exact al
  ·exact Kz nx o f
  exact Kz dc.gA o h
 obtain⟨aj,H,ak⟩:=c;obtain⟨e,f,g,h⟩:=n;simp only at e f g h;subst e;refine⟨_,rfl,?_⟩;refine .ret ⟨g,λm q=>?_,i,j,k,f⟩;rw[h]at q;have aC:=A.2;have aD:=C.2;have aE:=E.2;have aF:=G.2;simp only[fj,s0,tj]at q;rcases q with rfl|rfl|rfl|rfl <;> (grind[eU])
def XV(a:Nat)(b:a<=1000):tQ (au:=aI) 1 (a:Int)=w (List.replicate a V):=by
 grind[tQ]
def ahZ(D:dB)(c:R dc)(J:gv D)(au:u c<=1000)(K:∀L∈c,u L.bS<=1000):aM (s9 D c) (λE=>gv E.2∧E.1.map (·.cA)=[1,2,7]):=by
 unfold s9;refine .bind (gV _ 3 J (by omega)) λav M=>.bind (gV _ 6 M.1 (by omega)) λaw N=>.bind (gV _ 6 N.1 (by omega)) λax O=>.bind (gV _ 4 O.1 (by omega)) λay Q=>?_;refine aM.loop (u c) (λb a=>a.1=(b:Int)∧gv a.2.2.2.1∧u a.2.2.1<=b∧u a.2.2.2.2.2.1<=b∧u a.2.2.2.2.2.2.2<=b∧a.2.1.cA=7∧a.2.2.2.2.1.cA=2∧a.2.2.2.2.2.2.1.cA=1) (by omega) ⟨rfl,Q.1,by simp,by simp,by simp,rfl,rfl,rfl⟩ (λb a aa d=>?_) (λa d=>?_)
 ·obtain⟨m,ab,ac,ad,ae,af,ag,ah⟩:=a;obtain⟨f,g,n,p,q,h,i,l⟩:=d;simp only at f g n p q h i l;subst f;refine aM.cond (λ_=>?_) (λai=>by simp_all);have F:u (al c b).bS<=1000:=K _ (by simp_all[dI]);refine .idx o aa (.eq (XV _ F) (.eq (XV _ F) ?_));refine aM.loop (u (al c b).bS) (λG a=>a.1=(G:Int)∧u a.2.1=u (al c b).bS∧u a.2.2.1=u (al c b).bS∧gv a.2.2.2) (by omega) ⟨rfl,by simp,by simp,g⟩ (λG a az d=>?_) (λa d=>?_)
  ·obtain⟨m,aj,ak,am⟩:=a;obtain⟨j,r,A,k⟩:=d;simp only at j r A k;subst j;refine aM.cond (λ_=>?_) (λai=>by simp_all);exact .bind (gV _ 4 k (by omega)) λaA an=>.idx o (by simp_all) (.idx o (by simp_all) (.ret ⟨cZ (by omega),by grind[eZ],by grind[eZ],an.1⟩))
  obtain⟨m,aj,ak,am⟩:=a;obtain⟨j,r,A,k⟩:=d;simp only at j r A k;subst j;refine⟨_,by simp;rfl,?_⟩;refine .eq o (.eq (eS _ _ (by grind) (by omega)) (.bind (gV _ 4 k (by omega)) λaB H=>?_));refine .bind (P:=λe=>gv e.1∧u e.2.2<=b+1∧e.2.1.cA=2) (.cond (λ_=>?_) (λ_=>.ret ⟨H.1,by grind,i⟩)) λaC B=>?_
  ·exact .bind (gV _ 4 H.1 (by omega)) λaD ao=>.bind (pz _ ao.1) λaE ap=>.eq o (.eq (eS _ _ (by grind) (by omega)) (.ret ⟨ap,by simp_all,i⟩))
  refine .bind (pz _ B.1) λaF I=>?_;refine .bind (P:=λe=>gv e.1∧u e.2.2<=b+1∧e.2.1.cA=7) (.cond (λ_=>?_) (λ_=>.ret ⟨I,by grind,h⟩)) λaG C=>?_
  ·exact .bind (pz _ I) λaH aq=>.bind (pz _ aq) λaI ar=>.eq o (.eq (eS _ _ (by grind) (by omega)) (.ret ⟨ar,by simp_all,h⟩))
  exact .ret ⟨cZ (by omega),C.1,C.2.1,B.2.1,by simp_all,C.2.2,B.2.2,l⟩
 obtain⟨m,ab,ac,ad,ae,af,ag,ah⟩:=a;obtain⟨f,g,n,p,q,h,i,l⟩:=d;simp only at f g n p q h i l;subst f;refine⟨_,by simp;rfl,?_⟩;exact .eq o (.eq o (.ret ⟨g,by simp_all⟩))
def RU:R (Int×Int):=[(1,16),(2,16),(3,8),(4,4),(5,4),(6,8),(7,32),(8,12),(9,4)]
def Dl(a:ja):Int×Int:=(a.cA,a.hz)
structure ch(s:aU):Prop where
 fields:s.gu.map Dl=RU
 headers:s.oH.length=3
 QE:s.oJ.length=3
 Ai:s.cM.map qv=AI
 tables:∃pY yH ab1,s.bK.map nx=tJ pY yH ab1
 Dm:s.eo.map (·.cA)=[1,2,7]
 apd:∀x∈s.bK.map (·.gA),2<=x∧x<=64
def ch.o8{a:aU}(b:ch a):u a.eo=3:=by rw[<-lY (f:=(·.cA)),b.Dm];rfl
def ch.sL{a:aU}(b:ch a):u a.gu=9:=by rw[<-lY (f:=Dl),b.fields];rfl
def ch.jM{a:aU}(b:ch a):u a.bK=4:=by obtain⟨d,e,g,c⟩:=b.tables;rw[<-lY (f:=nx),c];rfl
def ch.yz{a:aU}(b:ch a):u a.cM=6:=by rw[<-lY (f:=qv),b.Ai];rfl
def O7(q:dB)(E:gv q):aM (oB q) (λr=>ch r.1∧gv r.2):=by
 unfold oB;refine .bind (gV _ 8 E (by omega)) λaf F=>.bind (gV _ 30 F.1 (by omega)) λag G=>?_;refine .eq o (.eq o (.eq o (.eq o (.eq o (.eq o (.eq o (.eq o (.eq o (.eq o (.eq o (.eq o ?_)))))))))));refine .bind (Vr _ G.1) λah g=>.bind (U6 _ g.1) λai h=>.bind (Vs _ h.1) λi e=>.eq o (.eq o ?_);obtain⟨H,aj,j,l,m,e⟩:=e;have ak:u i.1=4:=by rw[<-lY (f:=nx),e];rfl
 have I:∀n∈i.1,u n.bS<=1000:=λn J=>by
  have c:nx n∈tJ j l m:=e▸List.mem_map_of_mem J;have p:∀K∈tJ j l m,u K.2.2<=1000:=by
   grind[tJ,yn,AB,AD]
  exact p _ c
 refine .bind (ahZ _ _ H (by simp_all) I) λal c=>.eq o (.bind (pz _ c.1) λam p=>?_);let d (a:aU):Prop:=a.gu.map Dl=RU∧u a.oH=3∧u a.oJ=3∧a.cM.map qv=AI∧a.bK=i.1∧a.eo.map (·.cA)=[1,2,7];have an:∀(A:R iz) (B:R fz) (a:aU),d a->d {a with xM:=A,dh:=B}:=λA B a L=>L;refine .bind (P:=λ_=>True) (.cond (λ_=>.eq (eS _ _ (by simp) (by omega)) (.ret bo)) (λ_=>.ret bo)) λao _=>?_;refine .bind (pz _ p) λap M=>?_;refine .bind (P:=λb=>d b.1∧u b.2<=10) (.cond (λ_=>.eq o (.eq (eS _ _ (by simp) (by omega)) (.ret ⟨⟨rfl,rfl,g.2,h.2,rfl,c.2⟩,by simp⟩))) (λ_=>.ret ⟨⟨rfl,rfl,g.2,h.2,rfl,c.2⟩,by simp⟩)) λaq C=>?_;refine .bind (pz _ M) λar N=>?_;refine .bs (P:=λ_=>True) (λ_=>⟨2,lo (k:=2) (by grind),b5⟩) λau _=>?_;refine .bind (P:=λb=>d b.1∧u b.2<=11) (.cond (λ_=>.eq o (.eq (eS _ _ (by grind) (by omega)) (.ret ⟨C.1,by simp_all⟩))) (λ_=>.ret ⟨C.1,by grind⟩)) λav D=>?_;refine .bind (pz _ N) λaw O=>?_;refine .bs (P:=λ_=>True) (λ_=>⟨3,lo (k:=3) (by grind),b5⟩) λax _=>?_;refine .bind (P:=λb=>d b.1∧u b.2<=13) (.cond (λ_=>.eq o (.eq o (.eq (eS _ _ (by grind) (by omega)) (.ret ⟨D.1,by simp_all⟩)))) (λ_=>.ret ⟨D.1,by grind⟩)) λay Q=>?_;obtain⟨⟨aa,ab,ac,ad,az,ae⟩,_⟩:=Q;exact .eq o (.ret ⟨⟨aa,ab,ac,ad,⟨j,l,m,by simp_all⟩,ae,by grind⟩,O⟩)
def akL(b:Int)(a:Int)(f:1<=a)(g:a<=1000000):aM (Gf b a) (λd=>0<=d∧d<a):=by
 unfold Gf;refine .cond (λh=>by grind) λ_=>?_;have e:∀c:Int,rB c a=w (c.tmod a):=λc=>by grind[rB]
 refine .eq (e _) ?_;have i:=Ew b (show 0<a by omega);have j: -a<b.tmod a:=by
  have:=Ew (-b) (show 0<a by omega);rw[Int.neg_tmod]at this;omega
 rw[eU (by omega) (by omega)];exact .eq (e _) (.ret ⟨Int.tmod_nonneg _ (by omega),Ew _ (by omega)⟩)
def cY(b:aW)(a:Nat):aI:=if a<64 then b.df.getLsbD a else b.ep.getLsbD (a-64)
def Lu{b c:aW}(e:∀d,d<128->cY b d=cY c d):b=c:=by
 cases b with |mk g h=>cases c with |mk i j=>
 have k:g=i:=by
  apply Be;intro a f;have:=e (a+64) (by omega);simpa[cY,show ¬(a+64<64) by omega]using this
 have l:h=j:=by
  apply Be;intro a f;have:=e a (by omega);simpa[cY,f]using this
 rw[k,l]
def GO(a:Nat):cY V a=U:=by
 unfold cY;split <;> exact Is
def Hw(a b:aW):aW:= {ep:=a.ep&&&b.ep,df:=a.df&&&b.df}
def abH(a b:aW):aW:= {ep:=a.ep|||b.ep,df:=a.df|||b.df}
def RV(a b:aW):aW:= {ep:=a.ep ^^^ b.ep,df:=a.df ^^^ b.df}
@[simp] theorem akM (b c:aW) (a:Nat):cY (Hw b c) a=(cY b a&&cY c a):=by unfold cY Hw;split <;> simp
@[simp] theorem asK (b c:aW) (a:Nat):cY (abH b c) a=(cY b a||cY c a):=by unfold cY abH;split <;> simp
@[simp] theorem akN (b c:aW) (a:Nat):cY (RV b c) a=(cY b a ^^ cY c a):=by unfold cY RV;split <;> simp
def and_eq(a b:aW):Cu a b=w (Hw a b):=rfl
def xor_eq(a b:aW):Kj a b=w (RV a b):=rfl
def v8(g:aW):aM (si g) (λk=> ∀a,a<128->cu k a=cY g a):=by
 unfold si;refine aM.loop 64 (λb e=>e.1=b∧∀a,a<128->cu e.2 a=(S (a % 64<b)&&cY g a)) (by omega)
  ⟨rfl,λa f=>by simp[Cs]⟩ (λb e l h=>?_) (λe h=>?_)
 ·obtain⟨m,n⟩:=e;obtain⟨c,d⟩:=h;simp only at c d;subst c;have p:aV ((b:Int)+64)=((b+64:Nat):Int):=by rw[eU (by omega) (by omega)];simp
  refine aM.cond (λ_=>?_) (λq=>by simp at q;omega);refine aM.idx o (show b<128 by omega) (.eq o (.idx p (show b+64<128 by omega) (.eq o (.ret ⟨cZ (by omega),λa f=>?_⟩))));simp only[nn _ _ (show b<128 by omega),nn _ _ (show b+64<128 by omega),tr (show b<2^64 by omega),ai3,d a f];by_cases i:a=b+64
  ·subst i;have c:(b+64) % 64<b+1:=by omega
   have d: ¬(b+64<64):=by omega
   simp only[cY,c,d,l7,nV,Js,tb,Nat.add_sub_cancel]
  by_cases j:a=b
  ·subst j;have:a % 64<a+1:=by omega
   simp[cY,this,l]
  rw[bU i,bU j];congr 1;rw[BD];omega
 obtain⟨m,n⟩:=e;obtain⟨c,d⟩:=h;simp only at c d;subst c;refine⟨_,rfl,.ret λa f=>?_⟩;have:a % 64<64:=by omega
 simp[d a f,this]
def GP(h:ck aI 128):aM (xE h) (λq=> ∀a,a<128->cY q a=cu h a):=by
 unfold xE;refine aM.loop 64 (λb g=>g.1=b∧∀a,a<128->cY g.2 a=(S (a % 64<b)&&cu h a)) (by omega)
  ⟨rfl,λa c=>by simp[GO]⟩ (λb g r i=>?_) (λg i=>?_)
 ·obtain⟨A,l⟩:=g;obtain⟨d,e⟩:=i;simp only at d e;subst d;have B:aV ((b:Int)+64)=((b+64:Nat):Int):=by rw[eU (by omega) (by omega)];simp
  refine aM.cond (λ_=>?_) (λj=>by simp at j;omega);refine aM.idx o (show b<128 by omega) (.bind (P:=λk=> ∀a,a<128->cY k a=(cY l a||(cu h b&&S (a=b)))) (.cond (λf=>.ret λa c=>?_) (λf=>.ret λa c=>by simp[f])) λk C=>?_)
  ·simp only[cY,tr (show b<2^64 by omega),Nz,VW,f,tb];split
   ·rename_i j;simp[j]
   have:a≠b:=by omega
   simp[this]
  refine .idx B (show b+64<128 by omega) (.bind (P:=λm=> ∀a,a<128->cY m a=(cY k a||(cu h (b+64)&&S (a=b+64)))) (.cond (λf=>.ret λa c=>?_) (λf=>.ret λa c=>by simp[f])) λm D=>.ret ⟨cZ (by omega),λa c=>?_⟩)
  ·simp only[cY,tr (show b<2^64 by omega),Nz,VW,f,tb];split
   ·have:a≠b+64:=by omega
    simp[this]
   have:(a-64=b)↔a=b+64:=by omega
   have E:a-64<64:=by omega
   simp[this,E]
  simp only[D a c,C a c,e a c];by_cases n:a=b+64
  ·subst n;simp[IQ r]
  by_cases p:a=b
  ·subst p;have d:a % 64<a+1:=by omega
   have e: ¬(a % 64<a):=by omega
   simp[d,e]
  have d:(a % 64<b+1)↔a % 64<b:=by omega
  simp[d,n,p]
 obtain⟨A,l⟩:=g;obtain⟨d,e⟩:=i;simp only at d e;subst d;refine⟨_,rfl,.ret λa c=>?_⟩;have:a % 64<64:=by omega
 simp[e a c,this]
def ah0(h i:aW):aM (Kl h i) (λq=>q=Hw h i):=by
 unfold Kl;refine(v8 h).bind λG B=>(v8 i).bind λb C=>?_;refine aM.loop 128 (λc e=>e.1=c∧∀a,a<128->cu e.2 a=(cY h a&&(S (c<=a)||cY i a))) (by omega)
  ⟨rfl,λa d=>by simp[B a d]⟩ (λc e j m=>?_) (λe m=>?_)
 ·obtain⟨D,n⟩:=e;obtain⟨g,f⟩:=m;simp only at g f;subst g;refine aM.cond (λ_=>?_) (λE=>by simp at E;omega);refine .idx o j (.bs (P:=λr=>r=c) (λ_=>⟨c,lo j,rfl⟩) λr F=>.idx o j (.ret ⟨cZ (by omega),λa d=>?_⟩));simp only[nn _ _ j];by_cases A:a=c
  ·subst A;have k:=f a d;have l: ¬(a+1<=a):=by omega
   cases p:cu n a
   ·simp[p]at k;simp[k,l]
   simp[p]at k;rw[F p,C a d];simp[k,l]
  have l:(c+1<=a)↔c<=a:=by omega
  simp[A,f a d,l]
 obtain⟨D,n⟩:=e;obtain⟨g,f⟩:=m;simp only at g f;subst g;refine⟨_,rfl,(GP n).bind λq aF=>.ret (Lu λa d=>?_)⟩;have: ¬(128<=a):=by omega
 simp[aF a d,f a d,this]
def WR(g:aW)(a:Nat)(aQ:a<2^62):aM (F4 g a) (λi=> ∀b,b<128->cY i b=cY g (b+a)):=by
 unfold F4;refine .cond (λd=>.ret λb c=>?_) (λd=>.cond (λe=>.eq o (.ret λb c=>?_)) (λe=>.eq o (.eq o (.ret λb c=>?_))))
 ·have:a=0:=by simp at d;omega
  simp[this]
 ·simp only[ik]at e;have f:aV ((a:Int)-64)=((a-64:Nat):Int):=by rw[eU (by omega) (by omega)];omega
  rw[f,tr (by omega)];unfold cY;by_cases c:b<64
  ·rw[bT c,bU (by omega)];simp only[M0];congr 1;omega
  rw[bU c,bU (by omega)];rw[show(V:aW).ep=0#64 from rfl,Is,Nh _ _ (by omega)]
 simp only[qb]at d e;have f:aV (64-(a:Int))=((64-a:Nat):Int):=by rw[eU (by omega) (by omega)];omega
 rw[f,tr (by omega),tr (by omega)];unfold cY;by_cases c:b<64
 ·rw[bT c];simp only[Nz,M0,BitVec.getLsbD_shiftLeft];by_cases h:b+a<64
  ·rw[bT h];have:b<64-a:=by omega
   simp[this,Nat.add_comm]
  rw[bU h,Nh _ (a+b) (by omega)];have: ¬(b<64-a):=by omega
  simp only[c,this,Js,Fw,tb,Bool.not_false,vF];congr 1;omega
 rw[bU c,bU (by omega)];simp only[M0];congr 1;omega
def alV(c:aW)(a:Int):aM (Cw c a) (λe=>e=(S (0<=a∧a<128)&&cY c a.toNat)):=by
 unfold Cw;refine .bs (P:=λe=> ∀f,f<128->cY e f=cY c (f+a.toNat)) (λb=>?_) λg h=>.eq o (.ret ?_)
 ·simp at b;obtain⟨i,rfl⟩:=mE b.1;exact WR c i (by omega)
 by_cases b:0<=a∧a<128
 ·have d:(S (a>=0)&&S (a<128))=T:=by simp;omega
  rw[d,XS];have:=h d 0 (by omega);rw[show cY g 0=g.df.getLsbD 0 from rfl,kx]at this;rw[this,xl b]
 have d:(S (a>=0)&&S (a<128))=U:=by simp;omega
 simp[d,b]
def XW(b c:aW):aM (Cu b c) (λd=> ∀a,a<128->cY d a=(cY b a&&cY c a)):=⟨_,and_eq b c,λa _=>akM b c a⟩
def akO(b c:aW):aM (Kj b c) (λd=> ∀a,a<128->cY d a=(cY b a ^^ cY c a)):=⟨_,xor_eq b c,λa _=>akN b c a⟩
def K9(b:Int):aM (zN b) (λd=> ∀a,a<128->cY d a=S ((a:Int)<b)):=by
 unfold zN FW;refine .eq o (.eq o ?_);have f:aV (128-min (max 0 b) 128)=((128-min (max 0 b) 128).toNat:Int):=by rw[eU (by omega) (by omega)];omega
 rw[f];refine(WR _ _ (by omega)).bind λd aF=>.ret λa g=>?_;rw[aF a g];have h:∀c,cY {ep:=18446744073709551615#64,df:=18446744073709551615#64} c=S (c<128):=by
  intro c;have i:(18446744073709551615#64)=BitVec.allOnes 64:=by rfl
  unfold cY;simp only[i,BitVec.getLsbD_allOnes];by_cases e:c<64
  ·simp[e];omega
  simp[e];omega
 rw[h,BD];omega
def u9:R Int:=[16,16,8,4,4,8,32,12,4]
def ch.vf{a:aU}(b:ch a){k:Nat}(c:k<9):(al a.gu k).cA=(k:Int)+1∧(al a.gu k).hz=al u9 k:=by
 have d:=uF Dl (l:=a.gu) (k:=k) (by rw[b.sL];exact c);rw[b.fields]at d;have e:al RU k=((k:Int)+1,al u9 k):=by
  have:k=0∨k=1∨k=2∨k=3∨k=4∨k=5∨k=6∨k=7∨k=8:=by omega
  rcases this with rfl|rfl|rfl|rfl|rfl|rfl|rfl|rfl|rfl <;> rfl
 simp_all[Dl,zp]
def AJ:R (R Int):=[[],[],[16],[4],[4,12],[]]
def ch.act{a:aU}(b:ch a){k:Nat}(c:k<6):(al a.cM k).cA=(k:Int)+1∧(al a.cM k).e2.map (·.hz)=al AJ k:=by
 have d:=uF qv (l:=a.cM) (k:=k) (by rw[b.yz];exact c);rw[b.Ai]at d;have e:al AI k=((k:Int)+1,al AJ k):=by
  have:k=0∨k=1∨k=2∨k=3∨k=4∨k=5:=by omega
  rcases this with rfl|rfl|rfl|rfl|rfl|rfl <;> rfl
 simp_all[qv,zp]
def mu(b:eu):Prop:=∃a:Nat,a<9∧b.im=(a:Int)+1∧1<=b.cO∧b.cO<=4∧4<=al u9 a∧al u9 a<=32∧(b.cO=2->a=6)
def rR(a:eu):Int:=al u9 (a.im-1).toNat
def ch.ev{c:aU}(n:ch c){k:Nat}(B:k<4):(al c.bK k).cA=(k:Int)+1∧
 (1<=u (al c.bK k).bS∧u (al c.bK k).bS<=3)∧(∀e∈(al c.bK k).bS,mu e)∧
 (1<=u (al c.bK k).cM∧u (al c.bK k).cM<=5)∧(∀a∈(al c.bK k).cM,1<=a∧a<=6):=by
 obtain⟨g,h,i,C⟩:=n.tables
 have j:=uF nx (l:=c.bK) (k:=k) (by rw[n.jM];exact B)
 rw[C]at j
 have m:∀f:Int×R Int×R eu,f=nx (al c.bK k)->f.1=(k:Int)+1->(1<=u f.2.2∧u f.2.2<=3)->(∀e∈f.2.2,mu e)->
  (1<=u f.2.1∧u f.2.1<=5)->(∀a∈f.2.1,1<=a∧a<=6)->(al c.bK k).cA=(k:Int)+1∧
  (1<=u (al c.bK k).bS∧u (al c.bK k).bS<=3)∧(∀e∈(al c.bK k).bS,mu e)∧
  (1<=u (al c.bK k).cM∧u (al c.bK k).cM<=5)∧(∀a∈(al c.bK k).cM,1<=a∧a<=6):=by
  rintro f rfl a b D E F
  exact⟨a,b,D,E,F⟩
 have p:(1<=u ([1,2,4]:R Int)∧u ([1,2,4]:R Int)<=5)∧∀a∈([1,2,4]:R Int),1<=a∧a<=6:=by decide
 have q:(1<=u ([1,2,3,4]:R Int)∧u ([1,2,3,4]:R Int)<=5)∧∀a∈([1,2,3,4]:R Int),1<=a∧a<=6:=by decide
 have r:(1<=u ([1,2,3,5,6]:R Int)∧u ([1,2,3,5,6]:R Int)<=5)∧∀a∈([1,2,3,5,6]:R Int),1<=a∧a<=6:=by decide
 have A:(1<=u ([1,3,5]:R Int)∧u ([1,3,5]:R Int)<=5)∧∀a∈([1,3,5]:R Int),1<=a∧a<=6:=by decide
 have G:mu rQ:=⟨3,by decide,rfl,by decide,by decide,by decide,by decide,by decide⟩
 have H:mu AX:=⟨3,by decide,rfl,by decide,by decide,by decide,by decide,by decide⟩
 have I:mu MQ:=⟨4,by decide,rfl,by decide,by decide,by decide,by decide,by decide⟩
 have J:mu vr:=⟨6,by decide,rfl,by decide,by decide,by decide,by decide,by decide⟩
 have K:mu MP:=⟨2,by decide,rfl,by decide,by decide,by decide,by decide,by decide⟩
 have L:mu A5:=⟨5,by decide,rfl,by decide,by decide,by decide,by decide,by decide⟩
 have M:mu A6:=⟨7,by decide,rfl,by decide,by decide,by decide,by decide,by decide⟩
 have N:mu MR:=⟨8,by decide,rfl,by decide,by decide,by decide,by decide,by decide⟩
 have:k=0∨k=1∨k=2∨k=3:=by omega
 rcases this with rfl|rfl|rfl|rfl
 ·refine m _ j o (show 1<= [rQ].length∧[rQ].length<=3 by decide) ?_ p.1 p.2
  intro e d
  rcases mF.1 d with rfl
  omega
 ·refine m _ j o ?_ ?_ q.1 q.2
  ·show 1<=u (yn g)∧u (yn g)<=3
   cases g <;> decide
  intro e d
  replace d:e∈yn g:=d
  cases g <;> simp only[yn,fj,s0,tj,l7,nV,qP]at d
  ·simp_all
  grind
 ·refine m _ j o ?_ ?_ r.1 r.2
  ·show 1<=u (AB h)∧u (AB h)<=3
   cases h <;> decide
  intro e d
  replace d:e∈AB h:=d
  cases h <;> simp only[AB,fj,s0,tj,l7,nV,qP]at d
  ·grind
  grind
 refine m _ j o ?_ ?_ A.1 A.2
 ·show 1<=u (AD i)∧u (AD i)<=3
  cases i <;> decide
 intro e d
 replace d:e∈AD i:=d
 cases i <;> simp only[AD,fj,s0,tj,l7,nV,qP]at d
 ·simp_all
 grind
def ag8{b:aU}(c:ch b){a:Nat}(f:a<9):aM (JN b ((a:Int)+1)) (λg=>g=al u9 a):=by
 unfold JN;have l:=c.sL;refine aM.loop a (λd b=>b=(d:Int)) (by omega) o (λd h m e=>?_) (λh e=>?_)
 ·subst e;refine aM.cond (λ_=>?_) (λc=>by grind);refine .idx o (by omega) (.cond (λi=>?_) (λi=>.ret (cZ (by omega))));have:=(c.vf (show d<9 by omega)).1;grind
 subst e;have j:S ((a:Int)<(u b.gu:Int))=T:=by grind
 have k:((al b.gu a).cA==(a:Int)+1)=T:=by rw[(c.vf f).1];simp
 rw[j];simp only[cond_true];rw[lo (by omega)];simp only[W,k,cond_true];exact⟨_,rfl,.ret (c.vf f).2⟩
def U7{a:aU}(c:ch a){b:Nat}(f:b<6):aM (FE a ((b:Int)+1)) (λg=>g=al a.cM b):=by
 unfold FE;have l:=c.yz;refine aM.loop b (λd a=>a=(d:Int)) (by omega) o (λd h m e=>?_) (λh e=>?_)
 ·subst e;refine aM.cond (λ_=>?_) (λc=>by grind);refine .idx o (by omega) (.cond (λi=>?_) (λi=>.ret (cZ (by omega))));have:=(c.act (show d<6 by omega)).1;grind
 subst e;have j:S ((b:Int)<(u a.cM:Int))=T:=by grind
 have k:((al a.cM b).cA==(b:Int)+1)=T:=by rw[(c.act f).1];simp
 rw[j];simp only[cond_true];rw[lo (by omega)];simp only[W,k,cond_true];exact⟨_,rfl,.ret o⟩
def GG{a:Nat}(aQ:a<64)(b:Nat):(((1#64) <<< a)-1#64).getLsbD b=S (b<a):=by
 have c:(((1#64) <<< a)-1#64).toNat=2^a-1:=by
  have d:((1#64) <<< a).toNat=2^a:=by
   rw[SX,Nw,Nat.shiftLeft_eq];have:=Nat.pow_lt_pow_right (show 1<2 by omega) aQ;simp_all
  grind
 rw[<-BitVec.testBit_toNat,c,Nat.testBit_two_pow_sub_one]
def QF(g:aW)(c:Int)(i:0<=c)(l:c<1000):aM (Ct g c) (λj=> ∀a,a<128->cY j a=(cY g a&&S ((a:Int)<c))):=by
 unfold Ct;obtain⟨b,rfl⟩:=mE i;refine .cond (λd=>.ret λa e=>?_) λd=>.cond (λf=>.eq o (.ret λa e=>?_)) λf=>.cond (λh=>.ret λa e=>?_) λh=>.eq o (.eq o (.ret λa e=>?_))
 ·grind
 ·simp only[ik,qb]at d f;have k:aV ((b:Int)-64)=((b-64:Nat):Int):=by grind[eU]
  simp only[cY,k,tr (show b-64<2^64 by omega),Bn,GG (show b-64<64 by omega)];grind
 ·simp_all[ik,GO,cn]
 simp only[ik,qb]at d f h;simp only[cY,tr (show b<2^64 by omega),Bn,GG (show b<64 by omega)];split
 ·simp_all
 have:S ((a:Int)<(b:Int))=U:=by grind
 rw[this,cn];exact Is
def Z7(a:cE 64)(b:Nat):cY {(V:aW)with df:=a} b=a.getLsbD b:=by
 unfold cY;split
 ·rfl
 rw[Nh a b (by omega)];exact Is
structure sB(kind b:Int)(m:cJ):Prop where
 off:m.fO=U->m=V
 abI:kind=1->m.fO=T
 low:kind=1->∀j,j<128->cY m.b2 j=T->(j:Int)<b
 as2:kind=3->∀j,j<128->cY m.fZ j=T->(j:Int)<b
 as3:kind=3->∀j,j<128->cY m.b2 j=T->cY m.fZ j=T
 pre:0<=m.eT∧m.eT<=32
 abJ:kind=2->m.fO=T->1<=m.eT
 abK:kind≠2->m.eT=0
 hE:kind≠3->m.fZ=V
 as4:kind=3->m.fO=T->m.fZ≠V
 as5:kind=4->m.fO=T->m.b2.ep=m.jU.ep∧m.b2.df<=m.jU.df
 Sl:kind=2->∀j,j<128->cY m.b2 j=T->32-m.eT<=(j:Int)∧j<32
 MD:kind≠4->m.jU=V
def Hx:(0:Int)<=0∧(0:Int)<=32:=⟨oD 0,by decide⟩
def Pm{d b:Int}(e:d≠1):sB d b V:=
 ⟨λ_=>rfl,λa=>absurd a e,λa=>absurd a e,λ_ f _ c=>(by rw[show(V:cJ).fZ=V from rfl,GO]at c;cases c),
  λ_ f _ c=>(by rw[show(V:cJ).b2=V from rfl,GO]at c;cases c),
  Hx,λ_ a=>(by cases a),λ_=>rfl,λ_=>rfl,λ_ a=>(by cases a),λ_ a=>(by cases a),
  λ_ f _ c=>(by rw[show(V:cJ).b2=V from rfl,GO]at c;cases c),λ_=>rfl⟩
def akP{a b c:cE 64}(d:a<=b)(e:a<=c):a<=yv b c:=by
 grind[yv]
def akQ{v:aW}{b c:Int}(h:0<=b∧b<=32)(i:0<=c∧c<256)(j:∀d,d<128->cY v d=T->(d:Int)<b):
 v.ep=0#64∧v.df<=yv (v.df+bB 64 c) (((1#64) <<< (bB 64 b).toNat)-(1#64)):=by
 have k:v.ep=0#64:=by
  apply Be;intro e f;have o:=j (64+e) (by omega);grind[cY]
 obtain⟨a,rfl⟩:=mE h.1
 have aQ:a<=32:=by omega
 have l:(bB 64 (a:Int)).toNat=a:=tr (by omega)
 rw[l]
 have g:v.df<=((1#64) <<< a)-1#64:=by
  have m:v.df&&&(((1#64) <<< a)-1#64)=v.df:=by
   apply Be;intro e f;rw[Bn,GG (by omega)];grind[cY]
  rw[<-m];rw[BO,cb];exact cd
 have p:(((1#64) <<< a)-1#64).toNat<2^33:=by
  have n:(((1#64) <<< a)-1#64)&&&(((1#64) <<< 32)-1#64)=(((1#64) <<< a)-1#64):=by
   apply Be;intro e f;rw[Bn,GG (by omega),GG (by omega)];grind
  rw[<-n,cb];exact Nat.lt_of_le_of_lt cd (by decide)
 refine⟨k,akP ?_ g⟩
 rw[BO]at g⊢
 obtain⟨q,rfl⟩:=mE i.1
 grind
def ai6(f:cE 64){b:Int}(k:1<=b)(l:b<=32){a:Nat}(m:a<128)
 (d:cY {(V:aW)with df:=f&&&((((1#64) <<< (bB 64 32).toNat)-(1#64))-(((1#64) <<< (bB 64 (aV (32-b))).toNat)-(1#64)))} a=T):32-b<=(a:Int)∧a<32:=by
 rw[Z7,Bn,hx]at d
 have e:=d.2
 obtain⟨c,n⟩:=mE (show 0<=32-b by omega)
 have g:c<32:=by omega
 have h:aV (32-b)=(c:Int):=by grind[eU]
 rw[h,tr (by omega)]at e
 have i:a<64:=by
  grind
 have j:∀(c:Fin 32) (a:Fin 64),((((1#64) <<< (bB 64 32).toNat)-(1#64))-(((1#64) <<< c.1)-(1#64))).getLsbD a.1=T->c.1<=a.1∧a.1<32:=by decide +kernel
 have:=j ⟨c,g⟩ ⟨a,i⟩ e
 simp_all
def ah1(c:dB){C:aU}(d:eu)(K:gv c)(a:ch C)(L:mu d):
 aM (E8 c C d) (λD=>gv D.2∧sB d.cO (rR d) D.1):=by
 obtain⟨E,M,N,aj,ak,am,O,P⟩:=L
 have Q:rR d=al u9 E:=by simp_all[rR]
 unfold E8
 rw[N]
 refine(ag8 a M).bind λan R=>?_
 rw[Q]
 subst R
 generalize aa:al u9 E=b at *
 refine .bind (gV _ 256 K (by omega)) λao ab=>.bind (gV _ 16 ab.1 (by omega)) λap ac=>.eq o (.bind (gV _ 16 ac.1 (by omega)) λar j=>.eq o ?_)
 refine .bind (QF _ b (by omega) (by omega)) λad au=>?_
 refine .cond (λk=>?_) λk=>?_
 ·have k:d.cO=2:=by simp_all
  refine .bind (gV _ 5 j.1 (by omega)) λav F=>.cond (λ_=>?_) λ_=>.ret ⟨F.1,Pm (by omega)⟩
  refine .bind (gV _ b F.1 (by omega)) λg m=>.bind (gV _ 5 m.1 (by omega)) λn G=>?_
  refine .eq (mj G.2.1 (by simp_all)) ?_
  have h:1<=al [b,8,16,1,aV (1+g.1)] n.1.toNat∧al [b,8,16,1,aV (1+g.1)] n.1.toNat<=32:=by
   have H:n.1.toNat<[b,8,16,1,aV (1+g.1)].length:=by simp_all
   have e:=sZ H;rw[<-dI _ H]at e;have aw:aV (1+g.1)=1+g.1:=eU (by omega) (by omega);have:=m.2.1;have:=m.2.2.1;simp only[fj,s0,tj]at e;rcases e with e|e|e|e|e <;> rw[e] <;> omega
  unfold OM
  refine .eq o (.eq o (.eq o (.ret ⟨G.1,λa=>(by cases a),λa=>(by omega),λa=>by omega,λa=>(by omega),λa=>(by omega),⟨by grind,h.2⟩,λ_ _=>h.1,λa=>absurd k a,λ_=>rfl,λa=>(by omega),λa=>(by omega),λ_ l i f=>?_,λ_=>rfl⟩)))
  have I:b=32:=by rw[<-aa,P k];rfl
  rw[I]at h f
  rw[I]
  exact ai6 _ h.1 h.2 i f
 refine .cond (λp=>?_) λp=>?_
 ·have p:d.cO=3:=by simp_all
  refine .bind (gV _ 256 j.1 (by omega)) λax ae=>.bind (gV _ 5 ae.1 (by omega)) λay q=>?_
  refine .eq (mj q.2.1 (by simp_all)) (.eq o (.bind (QF _ b (by omega) (by omega)) λaf az=>?_))
  refine .cond (λr=>?_) λ_=>.ret ⟨q.1,Pm (by omega)⟩
  refine .eq o (.eq o (.ret ⟨q.1,λa=>(by cases a),λa=>(by omega),λa=>by omega,λ_ l i f=>?_,λ_ l i f=>?_,Hx,λa=>(by omega),λ_=>rfl,λa=>absurd p a,λ_ _ aq=>?_,λa=>(by omega),λa=>(by omega),λ_=>rfl⟩))
  ·simp_all
  ·simp only at f⊢
   rw[Z7,Bn,hx]at f
   grind[cY]
  have ag:af=V:=aq
  rw[ag]at r;simp at r
  exact r o
 refine .cond (λA=>?_) λA=>?_
 ·have A:d.cO=4:=by simp_all
  refine .bind (gV _ 256 j.1 (by omega)) λah B=>.eq o (.bind (gV _ 5 B.1 (by omega)) λaA J=>.eq o (.cond (λ_=>?_) λ_=>.ret ⟨J.1,Pm (by omega)⟩))
  have ai:=akQ (v:=ad) (b:=b) (c:=ah.1) ⟨by omega,O⟩ ⟨B.2.1,B.2.2.1⟩ λl i f=>by
   simp_all
  exact .eq o (.ret ⟨J.1,λa=>(by cases a),λa=>(by omega),λa=>by omega,λa=>(by omega),λa=>(by omega),Hx,λa=>(by omega),λ_=>rfl,λ_=>rfl,λa=>(by omega),λ_ _=>ai,λa=>(by omega),λa=>absurd A a⟩)
 have aB:d.cO=1:=by
  grind
 refine .eq o (.ret ⟨j.1,λa=>(by cases a),λ_=>rfl,λ_ l i f=>?_,λa=>(by omega),λa=>(by omega),Hx,λa=>(by omega),λ_=>rfl,λ_=>rfl,λa=>(by omega),λa=>(by omega),λa=>(by omega),λ_=>rfl⟩)
 simp_all
structure fu(s:aU)(k:Nat)(e:bg):Prop where
 ev:e.bZ=(k:Int)+1
 len:e.cp.length=(al s.bK k).bS.length
 wY:∀i,i<(al s.bK k).bS.length->sB (al (al s.bK k).bS i).cO (rR (al (al s.bK k).bS i)) (al e.cp i)
 args:e.eX.length<=10
 pri:(∀i,i<(al s.bK k).bS.length->(al (al s.bK k).bS i).cO<=2)->e.gk=0
def CE{au:aB}[Inhabited au](a:R au)(c:au)(b:Nat):al (a++[c]) b=if b=u a then c else al a b:=by
 grind[al]
def ah2(L:dB){e:aU}(F:Int)(ac:gv L)(f:ch e):
 aM (zm L e F) (λM=>gv M.2∧∃c:Nat,c<4∧Gf F (u e.bK:Int)=w (c:Int)∧fu e c M.1):=by
 unfold zm
 obtain⟨ax,N,ad,ay⟩:=akL F (u e.bK:Int) (by rw[f.jM];omega) (by rw[f.jM];omega)
 obtain⟨c,rfl⟩:=mE ad
 have O:c<4:=by have:=f.jM;omega
 obtain⟨ae,⟨az,aA⟩,af,⟨aB,aC⟩,ag⟩:=f.ev O
 refine .eq N (.idx o (by omega) ?_)
 refine aM.loop (u (al e.bK c).bS) (λd a=>a.1=(d:Int)∧a.2.1.bZ=(c:Int)+1∧u a.2.2.1=d∧gv a.2.2.2∧
  (∀g,g<d->sB (al (al e.bK c).bS g).cO (rR (al (al e.bK c).bS g)) (al a.2.2.1 g))∧((∀g,g<d->(al (al e.bK c).bS g).cO<=2)->a.2.1.gk=0)) (by omega) ⟨rfl,ae,rfl,ac,λg ah=>by omega,λ_=>rfl⟩ (λd a j h=>?_) (λa h=>?_)
 ·obtain⟨G,H,ai,aj⟩:=a;obtain⟨k,i,A,l,B,C⟩:=h
  simp only at k i A l B C;subst k
  refine aM.cond (λ_=>?_) (λf=>by simp_all)
  refine .idx o j (.bind (ah1 _ _ l f (af _ (by simp_all[dI]))) λaD Q=>.eq (eS _ _ (by grind) (by omega)) (.eq o ?_))
  refine .bind (P:=λI=>I.1.bZ=(c:Int)+1∧gv I.2∧((al (al e.bK c).bS d).cO<=2->I.1.gk=H.gk)) (.cond (λaE=>.bind (gV _ 5 Q.1 (by omega)) λaF ak=>.eq o (.ret ⟨i,ak.1,λf=>by grind⟩)) (λ_=>.ret ⟨i,Q.1,λ_=>rfl⟩)) λaG R=>?_
  refine .ret ⟨cZ (by omega),R.1,by simp_all,R.2.1,λg ah=>?_,λf=>?_⟩
  ·simp only[CE]
   grind
  grind
 obtain⟨G,H,ai,aj⟩:=a;obtain⟨k,i,A,l,B,C⟩:=h
 simp only at k i A l B C;subst k
 refine⟨_,by simp;rfl,?_⟩
 refine .bind (gV _ _ l (by omega)) λD J=>?_
 refine .eq (mj J.2.1 J.2.2.1) (.eq o ?_)
 have aH:1<=al (al e.bK c).cM D.1.toNat∧al (al e.bK c).cM D.1.toNat<=6:=ag _ (by
  simp_all[dI])
 obtain⟨E,aI⟩:=mE (show 0<=al (al e.bK c).cM D.1.toNat-1 by omega)
 have am:al (al e.bK c).cM D.1.toNat=(E:Int)+1:=by omega
 simp only[am]
 refine .bind (U7 f (show E<6 by omega)) λm an=>?_
 obtain⟨aJ,ao⟩:=f.act (show E<6 by omega)
 rw[<-an]at ao
 have aa:u m.e2<=10∧∀d,d<u m.e2->0<=(al m.e2 d).hz∧(al m.e2 d).hz<1000:=by
  have ap:∀ab∈AJ,u ab<=10∧∀b∈ab,0<=b∧b<1000:=by decide
  have aq:al AJ E∈AJ:=by grind[dI,AJ]
  obtain⟨aK,aL⟩:=ap _ aq;grind[dI]
 refine aM.loop (u m.e2) (λd a=>a.1=(d:Int)∧a.2.1.bZ=(c:Int)+1∧u a.2.2.1=d∧gv a.2.2.2∧a.2.1.gk=H.gk) (by omega) ⟨rfl,i,rfl,J.1,rfl⟩ (λd a j h=>?_) (λa h=>?_)
 ·obtain⟨G,ar,au,av⟩:=a;obtain⟨n,p,K,q,r⟩:=h
  simp only at n p K q r;subst n
  refine aM.cond (λ_=>?_) (λf=>by simp_all)
  refine .idx o j (.bind (gV _ 256 q (by omega)) λaN aw=>.eq o (.bind (QF _ _ (aa.2 d j).1 (aa.2 d j).2) λaO aP=>.eq (eS _ _ (by grind) (by omega)) (.ret ⟨cZ (by omega),p,by simp_all,aw.1,r⟩)))
 obtain⟨G,ar,au,av⟩:=a;obtain⟨n,p,K,q,r⟩:=h
 simp only at n p K q r;subst n
 refine⟨_,by simp;rfl,?_⟩
 exact .eq o (.ret ⟨q,c,O,N,p,A,B,by simp_all,λf=>r.trans (C f)⟩)
structure ape(s:aU)(r:Vector (List Int) 6):Prop where
 fields:cu r 0=s.gu.map (·.cA)
 headers:cu r 1=s.oH.map (·.cA)
 QE:cu r 2=s.oJ.map (·.cA)
 Ai:cu r 3=s.cM.map (·.cA)
 tables:cu r 4=s.bK.map (·.cA)
 Dm:cu r 5=s.eo.map (·.cA)
def Lv{d:aU}(g:ch d):aM (zQ d) (ape d):=by
 unfold zQ;have l:=g.sL;have m:=g.headers;have n:=g.QE;have p:=g.yz;have q:=g.jM;have r:=g.o8;refine aM.loop (u d.gu) (λe a=>a.1=(e:Int)∧a.2.1=(d.gu.take e).map (·.cA)) (by omega) ⟨rfl,rfl⟩ (λe a h f=>?_) (λa f=>?_)
 ·obtain⟨i,k,j⟩:=a;obtain⟨b,c⟩:=f;simp only at b c;subst b;subst c;refine aM.cond (λ_=>?_) (λg=>by grind);exact .idx o h (.eq (eS _ _ (by grind) (by omega)) (.ret ⟨cZ (by omega),by simp_all[mL,pt]⟩))
 obtain⟨i,A,j⟩:=a;obtain⟨b,c⟩:=f;simp only at b c;subst b;subst c;refine⟨_,by simp only[show S ((u d.gu:Int)<(u d.gu:Int))=U by simp,cond_false];rfl,?_⟩;refine aM.loop (u d.oH) (λe a=>a.1=(e:Int)∧a.2.1=(d.oH.take e).map (·.cA)) (by omega) ⟨rfl,rfl⟩ (λe a h f=>?_) (λa f=>?_)
 ·obtain⟨i,k,j⟩:=a;obtain⟨b,c⟩:=f;simp only at b c;subst b;subst c;refine aM.cond (λ_=>?_) (λg=>by grind);exact .idx o h (.eq (eS _ _ (by grind) (by omega)) (.ret ⟨cZ (by omega),by simp_all[mL,pt]⟩))
 obtain⟨i,B,j⟩:=a;obtain⟨b,c⟩:=f;simp only at b c;subst b;subst c;refine⟨_,by simp only[show S ((u d.oH:Int)<(u d.oH:Int))=U by simp,cond_false];rfl,?_⟩;refine aM.loop (u d.oJ) (λe a=>a.1=(e:Int)∧a.2.1=(d.oJ.take e).map (·.cA)) (by omega) ⟨rfl,rfl⟩ (λe a h f=>?_) (λa f=>?_)
 ·obtain⟨i,k,j⟩:=a;obtain⟨b,c⟩:=f;simp only at b c;subst b;subst c;refine aM.cond (λ_=>?_) (λg=>by grind);exact .idx o h (.eq (eS _ _ (by grind) (by omega)) (.ret ⟨cZ (by omega),by simp_all[mL,pt]⟩))
 obtain⟨i,C,j⟩:=a;obtain⟨b,c⟩:=f;simp only at b c;subst b;subst c;refine⟨_,by simp only[show S ((u d.oJ:Int)<(u d.oJ:Int))=U by simp,cond_false];rfl,?_⟩;refine aM.loop (u d.cM) (λe a=>a.1=(e:Int)∧a.2.1=(d.cM.take e).map (·.cA)) (by omega) ⟨rfl,rfl⟩ (λe a h f=>?_) (λa f=>?_)
 ·obtain⟨i,k,j⟩:=a;obtain⟨b,c⟩:=f;simp only at b c;subst b;subst c;refine aM.cond (λ_=>?_) (λg=>by grind);exact .idx o h (.eq (eS _ _ (by grind) (by omega)) (.ret ⟨cZ (by omega),by simp_all[mL,pt]⟩))
 obtain⟨i,D,j⟩:=a;obtain⟨b,c⟩:=f;simp only at b c;subst b;subst c;refine⟨_,by simp only[show S ((u d.cM:Int)<(u d.cM:Int))=U by simp,cond_false];rfl,?_⟩;refine aM.loop (u d.bK) (λe a=>a.1=(e:Int)∧a.2.1=(d.bK.take e).map (·.cA)) (by omega) ⟨rfl,rfl⟩ (λe a h f=>?_) (λa f=>?_)
 ·obtain⟨i,k,j⟩:=a;obtain⟨b,c⟩:=f;simp only at b c;subst b;subst c;refine aM.cond (λ_=>?_) (λg=>by grind);exact .idx o h (.eq (eS _ _ (by grind) (by omega)) (.ret ⟨cZ (by omega),by simp_all[mL,pt]⟩))
 obtain⟨i,E,j⟩:=a;obtain⟨b,c⟩:=f;simp only at b c;subst b;subst c;refine⟨_,by simp only[show S ((u d.bK:Int)<(u d.bK:Int))=U by simp,cond_false];rfl,?_⟩;refine aM.loop (u d.eo) (λe a=>a.1=(e:Int)∧a.2.1=(d.eo.take e).map (·.cA)) (by omega) ⟨rfl,rfl⟩ (λe a h f=>?_) (λa f=>?_)
 ·obtain⟨i,k,j⟩:=a;obtain⟨b,c⟩:=f;simp only at b c;subst b;subst c;refine aM.cond (λ_=>?_) (λg=>by grind);exact .idx o h (.eq (eS _ _ (by grind) (by omega)) (.ret ⟨cZ (by omega),by simp_all[mL,pt]⟩))
 obtain⟨i,F,j⟩:=a;obtain⟨b,c⟩:=f;simp only at b c;subst b;subst c;refine⟨_,by simp only[show S ((u d.eo:Int)<(u d.eo:Int))=U by simp,cond_false];rfl,?_⟩;refine .eq o (.ret ⟨?_,?_,?_,?_,?_,?_⟩)
 ·simp only[mJ];simp_all[nn,bU,bT]
 ·simp only[mJ];simp_all[nn,bU,bT]
 ·simp only[mJ];simp_all[nn,bU,bT]
 ·simp only[mJ];simp_all[nn,bU,bT]
 ·simp only[mJ];simp_all[nn,bU,bT]
 simp only[mJ];simp_all[nn,bT]
def YA(a:R Int)(c:Int)(i:u a<2^30):aM (vN a c) (λf=>(f= -1∧c∉a)∨∃b:Nat,b<u a∧f=(b:Int)∧al a b=c):=by
 unfold vN;refine ahX a (λg=>g==c) (by omega) (λb d e=>?_) (λb d h e=>?_) (λh=>?_)
 ·simp only[show S ((b:Int)<(u a:Int))=T by simp_all,cond_true,lo d,W,e,cond_false]
 ·refine⟨_,by simp only[show S ((b:Int)<(u a:Int))=T by simp_all,cond_true,lo d,W,e];rfl,?_⟩;exact .ret (.inr ⟨b,d,rfl,by simp_all⟩)
 refine⟨_,by simp only[show S ((u a:Int)<(u a:Int))=U by simp,cond_false];rfl,?_⟩;refine .ret (.inl ⟨rfl,λj=>?_⟩);grind
def aei{a:R dc}{n:dc->aw aI}{g:dc->aI}(q:∀c∈a,n c=w (g c))(B:u a<2^62):
 aM (D9 a n) (λp=>(p= -1∧∀c∈a,g c=U)∨∃f:Nat,f<u a∧p=f∧g (al a f)=T∧∀b,b<f->g (al a b)=U):=by
 unfold D9
 refine aM.loop (u a) (λd k=>k=(d:Int)∧∀b,b<d->g (al a b)=U) (by omega) ⟨rfl,λb h=>by omega⟩ (λd k i l=>?_) (λk l=>?_)
 ·obtain⟨m,j⟩:=l;subst m
  refine aM.cond (λ_=>?_) (λe=>by simp at e;omega)
  refine .idx o i (.eq (q _ (by rw[dI a i];exact sZ i)) (.cond (λe=>.ret ?_) (λe=>.ret ⟨cZ (by omega),λb h=>?_⟩)))
  ·exact .ret (.inr ⟨d,i,rfl,e,j⟩)
  by_cases r:b=d
  ·subst r;exact e
  exact j b (by omega)
 obtain⟨m,j⟩:=l;subst m
 refine⟨_,by simp;rfl,?_⟩
 refine .ret (.inl ⟨rfl,λc A=>?_⟩)
 obtain⟨b,h,rfl⟩:=vw.1 A
 rw[<-dI a h];exact j b h
def aej{a:R ja}{n:ja->aw aI}{g:ja->aI}(q:∀c∈a,n c=w (g c))(B:u a<2^62):
 aM (Ea a n) (λp=>(p= -1∧∀c∈a,g c=U)∨∃f:Nat,f<u a∧p=f∧g (al a f)=T∧∀b,b<f->g (al a b)=U):=by
 unfold Ea
 refine aM.loop (u a) (λd k=>k=(d:Int)∧∀b,b<d->g (al a b)=U) (by omega) ⟨rfl,λb h=>by omega⟩ (λd k i l=>?_) (λk l=>?_)
 ·obtain⟨m,j⟩:=l;subst m
  refine aM.cond (λ_=>?_) (λe=>by simp at e;omega)
  refine .idx o i (.eq (q _ (by rw[dI a i];exact sZ i)) (.cond (λe=>.ret ?_) (λe=>.ret ⟨cZ (by omega),λb h=>?_⟩)))
  ·exact .ret (.inr ⟨d,i,rfl,e,j⟩)
  by_cases r:b=d
  ·subst r;exact e
  exact j b (by omega)
 obtain⟨m,j⟩:=l;subst m
 refine⟨_,by simp;rfl,?_⟩
 refine .ret (.inl ⟨rfl,λc A=>?_⟩)
 obtain⟨b,h,rfl⟩:=vw.1 A
 rw[<-dI a h];exact j b h
def Cy{c:aU}(b:ch c){a:Nat}(d:a<4):aM (vK c ((a:Int)+1)) (λe=>e=(a:Int)):=by
 unfold vK;refine(aei (g:=λf=>f.cA==(a:Int)+1) (λi j=>rfl) (by rw[b.jM];omega)).bind λe aF=>.ret ?_;have k:a<u c.bK:=by rw[b.jM];exact d
 rcases aF with⟨_,aF⟩|⟨h,l,m,n,o⟩
 ·have:=aF (al c.bK a) (by simp_all[dI]);simp only[(b.ev d).1,NK]at this;grind
 have p:=(b.ev (show h<4 by have:=b.jM;omega)).1;simp_all
def OZ{c:aU}(b:ch c){a:Nat}(d:a<9):aM (B4 c ((a:Int)+1)) (λe=>e=(a:Int)):=by
 unfold B4;refine(aej (g:=λf=>f.cA==(a:Int)+1) (λi j=>rfl) (by rw[b.sL];omega)).bind λe aF=>.ret ?_;have k:a<u c.gu:=by rw[b.sL];exact d
 rcases aF with⟨_,aF⟩|⟨h,l,m,n,o⟩
 ·have:=aF (al c.gu a) (by simp_all[dI]);simp only[(b.vf d).1,NK]at this;grind
 have p:=(b.vf (show h<9 by have:=b.sL;omega)).1;simp_all
def WS(a:R Int){b:Nat}(l:b<u a)(m:u a<2^30)(e:∀c,c<u a->al a c=(c:Int)+1):aM (vN a ((b:Int)+1)) (λf=>f=(b:Int)):=by
 unfold vN;refine aM.loop b (λc g=>g=(c:Int)) (by omega) o (λc h n d=>?_) (λh d=>?_)
 ·subst d;refine aM.cond (λ_=>?_) (λe=>by grind);refine .idx o (by omega) (.cond (λi=>?_) (λi=>.ret (cZ (by omega))));grind
 subst d;have j:S ((b:Int)<(u a:Int))=T:=by simp_all
 have k:(al a b==(b:Int)+1)=T:=by simp_all
 rw[j];simp only[cond_true];rw[lo (by omega)];simp only[W,k,cond_true];exact⟨_,rfl,.ret o⟩
def Gn{c:aU}(a:ch c){b:Nat}(f:b<4):aM (xw c ((b:Int)+1)) (λd=>d=(b:Int)):=by
 unfold xw;refine(Lv a).bind λg e=>?_;have h:=a.jM;rw[e.tables];refine(WS _ (by simp_all) (by simp_all) λi j=>?_).bind λd aF=>.ret aF;rw[uF _ (by simp_all)];exact(a.ev (by simp_all)).1
def U8{c:aU}(a:ch c){b:Nat}(f:b<9):aM (FQ c ((b:Int)+1)) (λd=>d=(b:Int)):=by
 unfold FQ;refine(Lv a).bind λg e=>?_;have h:=a.sL;rw[e.fields];refine(WS _ (by simp_all) (by simp_all) λi j=>?_).bind λd aF=>.ret aF;rw[uF _ (by simp_all)];exact(a.vf (by simp_all)).1
theorem Rx{a:eu}{b:Nat}(c:a.im=(b:Int)+1):rR a=al u9 b:=by simp_all[rR]
def ag9{g:aU}(c:ch g){a:dc}{b:Nat}(i:b<u a.bS)(j:mu (al a.bS b)):aM (JI g a (b:Int)) (λd=>d=rR (al a.bS b)):=by
 obtain⟨k,e,h,_⟩:=j;unfold JI OP;refine .idx o i ?_;rw[Rx h,h];refine .bind (P:=λd=>d=al u9 k) ((U8 c e).bind λl f=>.idx f (by rw[c.sL];exact e) (.ret (c.vf e).2)) λl f=>.ret f
def lead(a c:Int)(b:Nat):aI:=S ((b:Int)<a)&&S (a-max 0 (min c a)<=(b:Int))
def Vt(a c:Int)(i:0<=a)(j:a<=128):aM (FN a c) (λe=> ∀d,d<128->cY e d=lead a c d):=by
 unfold FN FW;have f:min (max 0 a) 128=a:=by omega
 rw[f];have g:aV (a-min (max 0 c) a)=a-min (max 0 c) a:=eU (by omega) (by omega);refine .eq o ((K9 a).bind λh k=>?_);rw[g];refine(K9 _).bind λb l=>(akO h b).bind λe aF=>.ret λd m=>?_;grind[lead]
def U9(e:Int)(m:0<=e)(b:e<=128):aM (Ga e) (λi=> ∀a,a<128->cY i a=S ((a:Int)<e)):=by
 unfold Ga;obtain⟨d,rfl⟩:=mE m;have j:uy (d:Int)=w (d:Int):=by grind[uy]
 refine aM.loop d (λf c=>c.1=f∧∀a,a<128->cu c.2 a=S (a<f)) (by omega)
  ⟨rfl,λa k=>by simp[Cs]⟩ (λf c q g=>?_) (λc g=>?_)
 ·obtain⟨n,l⟩:=c;obtain⟨b,h⟩:=g;simp only at b h;subst b;refine .eq j ?_;refine aM.cond (λ_=>?_) (λr=>by simp_all);refine .idx o (by omega) (.ret ⟨cZ (by omega),λa k=>?_⟩);simp only[nn _ _ (show f<128 by omega)];grind
 obtain⟨n,l⟩:=c;obtain⟨b,h⟩:=g;simp only at b h;subst b;have p:S ((d:Int)<(d:Int))=U:=by simp
 rw[j];simp only[W,p,cond_false];refine⟨_,rfl,?_⟩;refine(GP l).bind λi aF=>.ret λa k=>?_;simp_all
def afW(g h:Int)(n:0<=g)(d:g<=128):aM (JF g h) (λk=> ∀a,a<128->cY k a=lead g h a):=by
 unfold JF;obtain⟨b,rfl⟩:=mE n;have p:uy (b:Int)=w (b:Int):=by grind[uy]
 refine .eq p ?_;obtain⟨c,B⟩:=mE (show 0<=(b:Int)-max 0 (min h b) by omega);have q:aV ((b:Int)-max 0 (min h b))=(c:Int):=by grind[eU]
 rw[q];refine aM.loop (b-c) (λf e=>e.1=((c+f:Nat):Int)∧∀a,a<128->cu e.2 a=(S (c<=a)&&S (a<c+f))) (by omega)
  ⟨rfl,λa l=>?_⟩ (λf e C i=>?_) (λe i=>?_)
 ·simp_all[Cs,xl,zd]
 ·obtain⟨r,m⟩:=e;obtain⟨d,j⟩:=i;simp only at d j;subst d;refine aM.cond (λ_=>?_) (λD=>by grind);refine .idx o (show c+f<128 by omega) (.ret ⟨cZ (by omega),λa l=>?_⟩);simp only[nn _ _ (show c+f<128 by omega)];grind
 obtain⟨r,m⟩:=e;obtain⟨d,j⟩:=i;simp only at d j;subst d;have A:S (((c+(b-c):Nat):Int)<(b:Int))=U:=by grind
 rw[A];refine⟨_,rfl,(GP m).bind λk aF=>.ret λa l=>?_⟩;grind[lead]
def agB(a b:aW):aM (qZ a b) (λ_=>True):=by
 unfold qZ;exact .cond (λ_=>.ret bo) λ_=>.eq o (.cond (λ_=>.ret bo) λ_=>.ret bo)
def vg(a b:aW):aI:=S (a.ep<b.ep)||(a.ep==b.ep&&S (a.df<b.df))
theorem P6{a b:aW}:vg a b=T↔a.ep<b.ep∨(a.ep=b.ep∧a.df<b.df):=by simp[vg]
def aha(a:aW):vg a a=U:=by simp[vg]
def VZ{a b:aW}(c:vg a b=T):vg b a=U:=by
 rw[rY];grind[P6,BitVec.lt_def,BitVec.toNat_eq]
def ahb{b c a:Nat}(e:b.testBit a=U)(f:c.testBit a=T)(i:∀d,a<d->b.testBit d=c.testBit d):b<c:=by
 have g:b/2^(a+1)=c/2^(a+1):=Nat.eq_of_testBit_eq λd=>by
  grind
 rw[Nat.testBit_eq_decide_div_mod_eq]at e f;simp only[qb,ik]at e f;rw[Nat.pow_succ,<-S0,<-S0]at g;have h:b/2^a<c/2^a:=by omega
 exact Nat.lt_of_div_lt_div h
def XX{b c:cE 64}{d:Nat}(e:b.getLsbD d=U)(f:c.getLsbD d=T)(g:∀a,d<a->a<64->b.getLsbD a=c.getLsbD a):b<c:=by
 rw[zo];refine ahb e f λa h=>?_;by_cases i:a<64
 ·grind
 show b.getLsbD a=c.getLsbD a;simp_all
def WT{f b:aW}{e:Nat}(k:e<128)(c:cY f e=U)(d:cY b e=T)(g:∀a,e<a->a<128->cY f a=cY b a):vg f b=T:=by
 rw[P6];by_cases h:e<64
 ·right;unfold cY at c d;rw[bT h]at c d;constructor
  ·apply Be;intro a i;have:=g (a+64) (by omega) (by omega);simp_all[cY,bU]
  refine XX c d λa i j=>?_;grind[cY]
 left;unfold cY at c d;rw[bU h]at c d;refine XX c d λa i j=>?_;have:=g (a+64) (by omega) (by omega);simp_all[cY,bU]
def O0(c b:aW):aM (te c b) (λo=>(o>0↔vg b c=T)∧(o<0↔vg c b=T)):=by
 unfold te;refine(v8 c).bind λA q=>(v8 b).bind λB p=>?_;refine aM.loop 128 (λd h=>h=127-(d:Int)∧∀a,128<=a+d->a<128->cY c a=cY b a) (by omega) ⟨rfl,λa g f=>by omega⟩ (λd h C i=>?_) (λh i=>?_)
 ·obtain⟨rfl,j⟩:=i;refine aM.cond (λ_=>?_) (λD=>by grind);have k:(127-(d:Int))=((127-d:Nat):Int):=by omega
  have e:127-d<128:=by omega
  refine .idx k e (.idx k e ?_);rw[q _ e,p _ e];refine .cond (λE=>.idx k e ?_) λl=>.ret ⟨?_,λa g f=>?_⟩
  ·have l:∀a,127-d<a->a<128->cY c a=cY b a:=λa g f=>j a (by omega) f;rw[p _ e];refine .cond (λm=>.ret (.ret ?_)) λm=>.ret (.ret ?_)
   ·have n:cY c (127-d)=U:=by simp_all
    have:=WT e n m l;simp_all[VZ]
   have n:cY c (127-d)=T:=by simp_all
   have:=WT e m n λa g f=>(l a g f).symm;simp_all[VZ]
  ·grind[eU]
  grind
 obtain⟨rfl,j⟩:=i;refine⟨_,rfl,?_⟩;have:c=b:=Lu λa r=>j a (by omega) r;subst this;refine .ret ⟨?_,?_⟩ <;> simp[aha]
end Go.Proofs.YtmcjlfmeoehcmaaGreat
namespace Gv
open List renaming length->u,filter_nil->cl
open Bool renaming true->T,false->U
structure wZ{au:Type}(b:au->au->Bool):Prop where
 asymm:∀x y,b x y=T->b y x=U
 trans:∀x y z,b x y=T->b y z=T->b x z=T
def ins{au:aB}(b:au->au->aI):R au->au->R au
 |[],a=>[a]
 |c::d,a=>if b c a=T then c::ins b d a else a::c::d
def iQ{au:aB}(b:au->au->aI)(a:R au):R au:=a.foldl (ins b) []
def k1{au:aB}(b:au->au->aI):R au->au->Nat
 |[],_=>0
 |c::d,a=>if b c a=T then k1 b d a+1 else 0
def DM{au:aB}(b:au->au->aI)(a c:au):Prop:=b a c=T∨b c a=T
variable{au:aB}{b:au->au->aI}
def WU(a:au)(d:R au)(c:au):ins b (a::d) c=if b a c=T then a::ins b d c else c::a::d:=rfl
def QG:∀{l:R au} {x:au},k1 b l x<=u l
 |[],_=>jT _
 | a::l,x=>by
   have:=QG (l:=l) (x:=x);grind[k1]
def YB:∀(a:R au) (c:au),ins b a c=a.take (k1 b a c)++c::a.drop (k1 b a c)
 |[],c=>rfl
 | d::a,c=>by
   unfold ins k1;split
   ·rw[YB a c];rfl
   rfl
def PE:∀(c:R au) (a:au),(ins b c a).Perm (a::c)
 |[],a=>NW _
 | d::c,a=>by
   unfold ins;split
   ·exact((PE c a).cons d).trans (List.Perm.swap a d c)
   rfl
def akR{a:R au}{c d:au}:d∈ins b a c↔d=c∨d∈a:=by
 rw[(PE a c).mem_iff];simp
def La(a:R au)(c:au):iQ b (a++[c])=ins b (iQ b a) c:=by
 grind[iQ]
def P7(c:R au):(iQ b c).Perm c:=by
 have e:∀(c d:R au),(c.foldl (ins b) d).Perm (d++c):=by
  intro c;induction c with
  |nil=>simp_all
  | cons a c f=>
    intro d
    refine(f (ins b d a)).trans ?_
    refine((PE d a).append_right c).trans ?_
    exact(vy (a:=a) (l₁:=d) (l₂:=c)).symm
 exact e c []
def yc{a:R au}{c:au}:c∈iQ b a↔c∈a:=(P7 a).mem_iff
def alW{a:R au}:u (iQ b a)=u a:=(P7 a).length_eq
def Vu(h:wZ b):∀{e:R au} {a:au},e.Pairwise (λa f=>b a f=T)->(∀c∈e,DM b c a)->(ins b e a).Pairwise (λa f=>b a f=T)
 |[],a,_,_=>by simp[ins]
 | c::e,a,i,j=>by
   obtain⟨m,n⟩:=lh.1 i;unfold ins;split
   ·rename_i g;refine lh.2 ⟨λk d=>?_,Vu h n λc o=>j c (by simp[o])⟩;rcases akR.1 d with rfl|d
    ·exact g
    simp_all
   rename_i g;have l:b a c=T:=(j c (by simp)).resolve_left g;refine lh.2 ⟨λk d=>?_,i⟩;rcases fj.1 d with rfl|d
   ·exact l
   exact h.trans _ _ _ l (m k d)
def ah3{a:R au}{c:au}(d:∀e∈a,b e c=U):ins b a c=c::a:=by
 cases a with
 |nil=>rfl
 |cons f a=>unfold ins;rw[bU (by simp[d f (by simp)])]
def Vv(f:wZ b){q:au->aI}:∀{c:R au} {x:au},c.Pairwise (λx k=>b x k=T)->(∀a∈c,DM b a x)->
 (ins b c x).filter q=if q x=T then ins b (c.filter q) x else c.filter q
 | [],x,_,_=>by
   show [x].filter q=if q x=T then [x]else [];grind
 | a::c,x,l,h=>by
   obtain⟨m,n⟩:=lh.1 l;have o:=Vv f (q:=q) (x:=x) n λa p=>h a (by simp[p]);rw[WU];by_cases e:b a x=T
   ·rw[bT e];by_cases i:q a=T
    ·rw[Bf i,Bf i,o];by_cases d:q x=T
     ·rw[bT d,bT d,WU,bT e]
     simp_all
    simp_all
   rw[bU e];have j:b x a=T:=(h a (by simp)).resolve_left e;by_cases d:q x=T
   ·rw[Bf d,bT d,ah3];intro r A;have g:=(uk.1 A).1;refine f.asymm _ _ ?_;rcases fj.1 g with rfl|g
    ·exact j
    exact f.trans _ _ _ j (m r g)
   simp_all
def yA(b:au->au->aI)(a:R au):Prop:=a.Pairwise (DM b)
def yA.snoc{a:R au}{c:au}(e:yA b (a++[c])):yA b a∧∀d∈a,DM b d c:=by
 simp_all[yA,xd]
def WV{P:R au->Prop}(iN:P [])(h1:∀l x,P l->P (l++[x]))(l:R au):P l:=by
 have:∀r:R au,P r.reverse:=by
  intro r;induction r with
  |nil=>exact iN
  |cons a r as6=>simp_all
 have:=this l.reverse;simp_all
def Pn(d:wZ b){a:R au}(e:yA b a):(iQ b a).Pairwise (λc f=>b c f=T):=by
 induction a using WV with
 |iN=>exact List.Pairwise.nil
 | h1 a c g=>
   obtain⟨h1,h⟩:=e.snoc
   rw[La]
   exact Vu d (g h1) λi j=>h i (yc.1 j)
def ah4(d:wZ b){c:au->aI}{a:R au}(f:yA b a):(iQ b a).filter c=iQ b (a.filter c):=by
 induction a using WV with
 |iN=>rfl
 | h1 a g h=>
   obtain⟨h1,i⟩:=f.snoc
   rw[La,Vv d (Pn d h1) λj k=>i j (yc.1 k),h h1,oy]
   by_cases e:c g=T
   ·rw[bT e,Bf e,cl,La]
   simp_all
def QH[Inhabited au](e:wZ b):∀{c:R au} {x:au} {a:Nat},c.Pairwise (λx i=>b x i=T)->a<u c->(b (al c a) x=T↔a<k1 b c x)
 |[],x,a,_,f=>by grind
 | g::c,x,a,j,f=>by
   obtain⟨k,h⟩:=lh.1 j;unfold k1;cases a with
   | zero=>
     have:al (g::c) 0=g:=rfl
     rw[this]
     split <;> simp_all
   | succ a=>
     have d:a<u c:=by simpa using f
     have l:al (g::c) (a+1)=al c a:=by rw[dI _ f,dI _ d];rfl
     rw[l,QH e h d]
     split
     ·omega
     rename_i m
     constructor
     ·intro n
      have o:=(QH e h d).2 n
      have p:=k (al c a) (by rw[dI _ d];exact sZ _)
      exact absurd (e.trans _ _ _ p o) m
     intro q;omega
end Gv
namespace Go.Proofs.YtmcjlfmeoehcmaaGreat
open Go Gv
open List renaming length->u,range->bQ,singleton_append->bY,length_singleton->b4,find?_append->b7,append_assoc->b',length_drop->ce,filter_cons->ci,filter_nil->cl,take_range->cm,nodup_nil->co,map_take->cq
open Option renaming some->w,bind_some->W,none->Y,bind->b3
open Decidable renaming decide->S
open Bool renaming true->T,false->U
open Inhabited renaming default->V
open Sum renaming elim_inl->Z,elim_inr->bP
open ag renaming bind->a',of->b1,ret->cr
open BitVec renaming ofInt->bB
open True renaming intro->b5
open Vector renaming ofFn->cv
def Uk{a:R eu}{n:eu->aw aI}{g:eu->aI}(q:∀c∈a,n c=w (g c))(B:u a<2^62):
 aM (Bi a n) (λp=>(p= -1∧∀c∈a,g c=U)∨∃f:Nat,f<u a∧p=f∧g (al a f)=T∧∀b,b<f->g (al a b)=U):=by
 unfold Bi
 refine aM.loop (u a) (λd k=>k=(d:Int)∧∀b,b<d->g (al a b)=U) (by omega) ⟨rfl,λb h=>by omega⟩ (λd k i l=>?_) (λk l=>?_)
 ·obtain⟨m,j⟩:=l;subst m
  refine aM.cond (λ_=>?_) (λe=>by simp at e;omega)
  refine .idx o i (.eq (q _ (by rw[dI a i];exact sZ i)) (.cond (λe=>.ret ?_) (λe=>.ret ⟨cZ (by omega),λb h=>?_⟩)))
  ·exact .ret (.inr ⟨d,i,rfl,e,j⟩)
  by_cases r:b=d
  ·subst r;exact e
  exact j b (by omega)
 obtain⟨m,j⟩:=l;subst m
 refine⟨_,by simp;rfl,?_⟩
 refine .ret (.inl ⟨rfl,λc A=>?_⟩)
 obtain⟨b,h,rfl⟩:=vw.1 A
 rw[<-dI a h];exact j b h
def _root_.Gv.aM.get{a:aB}{b:aw a}{c:a}(e:aM b (λd=>d=c)):b=w c:=by
 obtain⟨d,f,rfl⟩:=e;exact f
def ahc{c:aU}(a:ch c){b:eu}(f:mu b):FX c b=w (rR b):=by
 obtain⟨g,d,e,_⟩:=f;refine aM.get ?_;unfold FX;rw[e];refine(OZ a d).bind λh aF=>?_;subst aF;rw[show S ((g:Int)<0)=U from zd (by omega),cond_false];refine .idx o (by have:=a.sL;omega) (.ret ?_);rw[(a.vf d).2,Rx e]
def Po{b:aU}(c:ch b){a:Nat}(e:a<4){d:bg}(f:d.bZ=(a:Int)+1):Ch b d=w (al b.bK a,T):=by
 refine aM.get ?_;unfold Ch;rw[f];refine(Cy c e).bind λg aF=>?_;subst aF;rw[show S ((a:Int)<0)=U from zd (by omega),cond_false];exact .idx o (by have:=c.jM;omega) (.ret o)
def AY:R eu->R cJ->Int
 |a::aP,b::c=>if a.cO=2 then b.eT else AY aP c
 |_,_=>0
theorem YC:∀{aP:R eu} {c:R cJ} {a:Nat},u c=u aP->a<u aP->(al aP a).cO=2->(∀e,e<a->(al aP e).cO≠2)->AY aP c=(al c a).eT
 |[],_,a,_,k,_,_=>by grind
 |b::aP,[],a,l,_,_,_=>by rfl
 | b::aP,m::c,0,_,_,d,_=>by
   have:(al (b::aP) 0)=b:=rfl;rw[this]at d;unfold AY;rw[bT d];rfl
 | b::aP,m::c,a+1,l,k,d,aQ=>by
   have i:=aQ 0 (by omega);have:(al (b::aP) 0)=b:=rfl;rw[this]at i;unfold AY;rw[bU i];have n:∀{f:aB} [Inhabited f] (j:f) (g:R f) (h:Nat),al (j::g) (h+1)=al g h:=λj g h=>by rfl
   rw[n]at d⊢;exact YC (by simp_all) (by simp_all) d λe o=>by grind
def YD:∀{aP:R eu} {b:R cJ},(∀a∈aP,a.cO≠2)->AY aP b=0
 |[],_,_=>by rfl
 |a::aP,[],_=>by rfl
 | a::aP,e::b,aQ=>by
   unfold AY;rw[bU (aQ a (by simp))];exact YD λc d=>aQ c (by simp[d])
def jD(a:aU)(b:Nat)(c:bg):Int:=AY (al a.bK b).bS c.cp
def Vw{a:aU}(b:ch a){d:Nat}(e:d<4){c:bg}(f:fu a d c):F2 a c=w (jD a d c):=by
 obtain⟨k,⟨l,m⟩,n,_⟩:=b.ev e;have p:=f.len;refine aM.get ?_;unfold F2 jD;refine .eq (Po b e f.ev) ?_;simp only;refine(Uk (g:=λi=>i.cO==2) (λq r=>rfl) (by omega)).bind λA aF=>.eq o ?_;rcases aF with⟨rfl,aF⟩|⟨h,B,rfl,C,D⟩
 ·refine .cond (λ_=>.ret ?_) (λb=>by simp at b);simp_all[YD]
 have j:(!true||decide ((h:Int)<0)||decide ((h:Int)>=(u c.cp:Int)))=U:=by simp_all
 rw[j,cond_false];refine .idx o (by omega) (.ret ?_);grind[YC]
def ju(c:aU)(d:Nat)(a b:aJ):aI:=
 decide (b.aS.gk<a.aS.gk∨(a.aS.gk=b.aS.gk∧(jD c d b.aS<jD c d a.aS∨(jD c d a.aS=jD c d b.aS∧b.ct<a.ct))))
def Lw(s:aU)(k:Nat):wZ (ju s k)where
 asymm x y h:=by
  grind[ju]
 trans x y z h oi:=by
  grind[ju]
def alX{c:aU}{d:Nat}{a b:aJ}(e:a.ct≠b.ct):DM (ju c d) a b:=by
 grind[DM,ju]
def eB(a b:Int):Int:=if a<b then -1 else if b<a then 1 else 0
def wv(a b:Int):qY a b=w (eB a b):=by
 grind[qY,JD,eB]
def ai7(b c d:Int):xD [b,c,d]=w (if b≠0 then b else if c≠0 then c else d):=by
 refine aM.get ?_;unfold xD;refine aM.loop 3 (λf g=>g=(f:Int)∧∀e,e<f->al [b,c,d] e=0) (by omega) ⟨rfl,λe h=>by omega⟩ (λf g k a=>?_) (λg a=>?_)
 ·obtain⟨rfl,a⟩:=a;refine .cond (λ_=>?_) (λl=>by grind);refine .idx o (by omega) (.cond (λi=>.ret ?_) λi=>.ret ⟨cZ (by omega),λe h=>?_⟩)
  ·simp only[bP];refine .ret ?_;have j:=a 0;grind[al]
  grind
 obtain⟨rfl,a⟩:=a;refine⟨_,rfl,?_⟩;simp only[Z];refine .ret ?_;have j:b=0:=by simpa[al]using a 0 (by omega)
 have m:c=0:=by simpa[al]using a 1 (by omega)
 have n:d=0:=by simpa[al]using a 2 (by omega)
 omega
def V0{a:aU}(e:ch a){b:Nat}(f:b<4){c d:aJ}(g:fu a b c.aS)(h:fu a b d.aS):F6 a c d=w (ju a b c d):=by
 unfold F6 ju;rw[wv,W,Vw e f g,W,Vw e f h,W,wv,W,wv,W,ai7,W];congr 1;grind[eB]
def acY{a:R aJ}{n:aJ->aw aI}{g:aJ->aI}(q:∀c∈a,n c=w (g c))(B:u a<2^62):
 aM (yU a n) (λp=>(p= -1∧∀c∈a,g c=U)∨∃f:Nat,f<u a∧p=f∧g (al a f)=T∧∀b,b<f->g (al a b)=U):=by
 unfold yU
 refine aM.loop (u a) (λd k=>k=(d:Int)∧∀b,b<d->g (al a b)=U) (by omega) ⟨rfl,λb h=>by omega⟩ (λd k i l=>?_) (λk l=>?_)
 ·obtain⟨m,j⟩:=l;subst m
  refine aM.cond (λ_=>?_) (λe=>by simp at e;omega)
  refine .idx o i (.eq (q _ (by rw[dI a i];exact sZ i)) (.cond (λe=>.ret ?_) (λe=>.ret ⟨cZ (by omega),λb h=>?_⟩)))
  ·exact .ret (.inr ⟨d,i,rfl,e,j⟩)
  by_cases r:b=d
  ·subst r;exact e
  exact j b (by omega)
 obtain⟨m,j⟩:=l;subst m
 refine⟨_,by simp;rfl,?_⟩
 refine .ret (.inl ⟨rfl,λc A=>?_⟩)
 obtain⟨b,h,rfl⟩:=vw.1 A
 rw[<-dI a h];exact j b h
structure kp(s:aU)(k:Nat)(i:aJ):Prop where
 dS:fu s k i.aS
def akS{a:aJ}(b:u a.aS.cp<=1000)(c:u a.aS.eX<=1000):uv a=w a:=by
 unfold uv OV Ns Nt;rw[eS _ _ (by grind) (by omega),eS _ _ (by grind) (by omega)];rfl
def G2{b:aU}(e:ch b){c:Nat}(f:c<4){a:aJ}(d:kp b c a):uv a=w a:=by
 have g:=d.dS.len;have h:=d.dS.args;have i:=(e.ev f).2.1.2;exact akS (by omega) (by omega)
def jk(a:R aJ)(b:Int):aI:=a.any λc=>c.ct==b
def Z8(a:fT)(b:Int)(j:u a.cw<=1000):aM ((yU a.cw (λh=>y0 h b)).bind λi=>w i) (λd=>(d= -1∧jk a.cw b=U)∨∃c:Nat,c<u a.cw∧d=c∧(al a.cw c).ct=b∧jk a.cw b=T∧∀e,e<c->(al a.cw e).ct≠b):=by
 refine(acY (g:=λf=>f.ct==b) (λf k=>rfl) (by omega)).bind λd aF=>.ret ?_;grind[jk,List.any_eq_false,List.any_eq_true,dI]
def ai8{a:aU}(e:ch a){b:Nat}(f:b<4){g:fT}(k:g.mO=a){c d:aJ}(h:kp a b c)(i:kp a b d):
 aM (Bx g c d) (λl=>l<0↔ju a b c d=T):=by
 unfold Bx
 rw[k]
 refine .eq (V0 e f h.dS i.dS) (.cond (λj=>.ret ⟨λ_=>j,λ_=>by omega⟩) λj=>.eq (V0 e f i.dS h.dS) (.cond (λ_=>.ret ?_) λ_=>.ret ?_))
 ·simp_all
 simp_all
def alY{a b:Nat}(c:a+b<2^62):aV ((bB 64 (aV ((a:Int)+(b:Int)))) >>> (1#64).toNat).toNat=(((a+b)/2:Nat):Int):=by
 rw[show(a:Int)+(b:Int)=((a+b:Nat):Int) by omega,eU (x:=((a+b:Nat):Int)) (by omega) (by omega)];have:((bB 64 ((a+b:Nat):Int)) >>> (1#64).toNat).toNat=(a+b)/2:=by
  rw[SU,tr (by omega)];rfl
 grind[eU]
def ah5{l:R aJ}{x:aJ}{b:aJ->aJ->aI}(E:wZ b)(F:l.Pairwise (λx G=>b x G=T))(N:u l<=1000)
 {h:aJ->aJ->aw Int} (m:∀n∈l,aM (h n x) (λd=>d<0↔b n x=T)):
 aM (D4 l x h) (λd=>d.1=(k1 b l x:Int)):=by
 unfold D4
 have O:=QG (b:=b) (l:=l) (x:=x)
 have p:∀e,e<u l->al l e∈l:=λe H=>by simp_all[dI]
 have Q:∀aa:aI,aM ((bs (S (((k1 b l x:Nat):Int)<(u l:Int))) T (idx (u l) ((k1 b l x:Nat):Int))).bind λq=>
  (bs (S (((k1 b l x:Nat):Int)<(u l:Int))) T (h (al l q) x)).bind λr=>w (((k1 b l x:Nat):Int),(S (((k1 b l x:Nat):Int)<(u l:Int)))&&(r==0))) (λd=>d.1=(k1 b l x:Int)):=λ_=>by
  refine .bs (P:=λI=>I=k1 b l x) (λe=>⟨_,lo (by simp_all),rfl⟩) λq f=>.bs (P:=λ_=>True) (λe=>?_) λr _=>.ret o
  rw[f e]
  exact(m _ (p _ (by simp_all))).mono λ_ _=>trivial
 refine aM.loop (u l) (λd i=> ∃a c:Nat,i=((a:Int),(c:Int))∧a<=k1 b l x∧k1 b l x<=c∧c<=u l∧c-a<=u l-d) (by omega) ⟨0,u l,rfl,by omega,by omega,by omega,by omega⟩ (λd i aF j=>?_) (λi j=>?_)
 ·obtain⟨a,c,rfl,A,f,B,J⟩:=j
  refine .cond (λk=>?_) λk=>.ret ?_
  ·have C:a<c:=by simp_all
   rw[alY (by omega)]
   have g:(a+c)/2<u l:=by omega
   refine .idx o g ((m _ (p _ g)).bind λab K=>?_)
   have L:=QH E (x:=x) F g
   refine .bind (P:=λD=> ∃a c:Nat,D=((a:Int),(c:Int))∧a<=k1 b l x∧k1 b l x<=c∧c<=u l∧c-a<=u l-(d+1)) (.cond (λM=>.eq o (.ret ?_)) λM=>.ret ?_) λD g=>.ret ?_
   ·have:=L.1 (K.1 (by simp_all))
    refine⟨(a+c)/2+1,c,?_,by omega,f,B,by omega⟩
    simp only[cZ (show(a+c)/2<2^62 by omega)]
   ·have: ¬(a+c)/2<k1 b l x:=λH=>by
     simp_all
    exact⟨a,(a+c)/2,rfl,A,by omega,by omega,by omega⟩
   omega
  have C: ¬a<c:=by simp_all
  have:a=k1 b l x:=by omega
  simp_all
 obtain⟨a,c,rfl,A,f,B,J⟩:=j
 have C:a=k1 b l x:=by omega
 have k:S ((a:Int)<(c:Int))=U:=by grind
 simp only[k,cond_false]
 simp_all
structure lS(s:aU)(k:Nat)(l:List aJ):Prop where
 ok:∀i∈l,kp s k i
 num:l.Pairwise λa c=>a.ct≠c.ct
 len:l.length<=900
def lS.Sm{a:aU}{b:Nat}{c:R aJ}(d:lS a b c):yA (ju a b) c:=d.num.imp λe=>alX e
theorem lS.iQ{a:aU}{b:Nat}{c:R aJ}(e:lS a b c):(∀d∈iQ (ju a b) c,kp a b d)∧u (iQ (ju a b) c)<=900:=
 ⟨λd f=>e.ok d (yc.1 f),by rw[alW];exact e.len⟩
def Lb{f:aU}{g:Nat}{d:R aJ}{e:Int}:jk (iQ (ju f g) d) e=jk d e:=by
 unfold jk;rw[kW,oA,oA];exact⟨λ⟨a,b,c⟩=>⟨a,yc.1 b,c⟩,λ⟨a,b,c⟩=>⟨a,yc.2 b,c⟩⟩
def XY{a:R aJ}{b:Int}(d:jk a b=U):∀c∈a,c.ct≠b:=λc e=>by
 simp_all[jk,Bt]
def lS.snoc{s:aU}{k:Nat}{l:R aJ}(h:lS s k l){i:aJ}(pg:kp s k i)(aQ:jk l i.ct=U)(jq:u l<900):lS s k (l++[i])where
 ok c nH:=by
  rcases eN.1 nH with nH|nH
  ·exact h.ok c nH
  simp_all
 num:=by
  rw[xd];exact⟨h.num,by simp,λa sU c nH=>by rw[mF.1 nH];exact XY aQ a sU⟩
 len:=by grind
def wK(a:aU)(b:Nat)(c:R aJ):fT:= {mO:=a,cw:=iQ (ju a b) c}
def alZ{c:aU}(g:ch c){d:Nat}(h:d<4){l:R aJ}(i:lS c d l){e:aJ}(j:kp c d e)(B:u l<900):
 EI (wK c d l) e=w (!jk l e.ct,if jk l e.ct=T then wK c d l else wK c d (l++[e])):=by
 refine aM.get ?_
 unfold EI
 obtain⟨n,C⟩:=i.iQ
 refine .bs (λ_=>Z8 (wK c d l) _ (by show(iQ _ l).length<=1000;omega)) λD f=>?_
 have f:=f o
 rw[vF]
 rcases f with⟨rfl,k⟩|⟨E,k,rfl,F,p,G⟩
 ·have q:jk l e.ct=U:=by rw[<-k];exact Lb.symm
  refine .cond (λm=>by grind) λ_=>?_
  refine(ah5 (b:=ju c d) (Lw c d) (Pn (Lw c d) i.Sm) (by omega) λa r=>ai8 g h o (n a r) j).bind λH A=>.eq (G2 g h j) ?_
  rw[A]
  unfold Ig
  have I:=QG (b:=ju c d) (l:=iQ (ju c d) l) (x:=e)
  refine .eq (a:=iQ (ju c d) (l++[e])) ?_ (.ret ?_)
  ·show Hq 88 (iQ (ju c d) l) _ _=_
   unfold Hq
   have J:maxLen=9223372036854775807:=rfl
   rw[bT ⟨by omega,by omega,by simp,by grind,by grind⟩,La,YB]
   simp
  rw[q];rfl
 have K:jk l e.ct=T:=by rw[<-p];exact Lb.symm
 refine .cond (λ_=>.ret ?_) λm=>by simp at m <;> omega
 simp_all
theorem ahd{e:aU}(g:ch e){f:Nat}(h:f<4){a:R aJ}(i:∀b∈a,kp e f b)(aQ:u a<=1000):Co a=w a:=by
 refine aM.get ?_;unfold Co;refine aM.loop (u a) (λb c=>c=((b:Int),a.take b)) (by omega) o (λb c j d=>?_) (λc d=>?_)
 ·subst d;refine .cond (λ_=>?_) (λk=>by simp_all);refine .idx o j (.eq (G2 g h (i _ (by simp_all[dI]))) (.eq (eS _ _ (by grind) (by omega)) (.ret ?_)));grind[cZ,mL]
 subst d;refine⟨_,by simp;rfl,.ret ?_⟩;simp
def al0{a:aU}(e:ch a){b:Nat}(f:b<4){c:R aJ}(d:lS a b c):EH (wK a b c)=w (iQ (ju a b) c):=by
 unfold EH;obtain⟨g,h⟩:=d.iQ;show b3 (Co (iQ (ju a b) c)) _=_;grind[ahd]
def V1(a:aW):te a a=w 0:=by
 obtain⟨b,c,d,e⟩:=O0 a a;grind
def agC(a:cJ):Ci a a=w 0:=by
 simp_all[Ci,V1]
def Gx(a:Int):sg a a=w 0:=by
 simp_all[sg]
def afX(a:R cJ)(g:u a<=1000):zH a a=w 0:=by
 refine aM.get ?_;unfold zH;refine aM.loop (u a) (λd b=>b=(d:Int)) (by omega) o (λd b e c=>?_) (λb c=>?_)
 ·subst c;refine .cond (λ_=>?_) (λf=>by simp_all);exact .idx o e (.idx o e (.eq (agC _) (.cond (λf=>by grind) λ_=>.ret (cZ (by omega)))))
 subst c;refine⟨_,by simp;rfl,?_⟩;simp only[Z];exact .eq (Gx _) (.ret o)
def af9(a:R aW)(g:u a<=1000):Ce a a=w 0:=by
 refine aM.get ?_;unfold Ce;refine aM.loop (u a) (λd b=>b=(d:Int)) (by omega) o (λd b e c=>?_) (λb c=>?_)
 ·subst c;refine .cond (λ_=>?_) (λf=>by simp_all);exact .idx o e (.idx o e (.eq (V1 _) (.cond (λf=>by grind) λ_=>.ret (cZ (by omega)))))
 subst c;refine⟨_,by simp;rfl,?_⟩;simp only[Z];exact .eq (Gx _) (.ret o)
def ah6{b:bg}(e:u b.cp<=1000)(f:u b.eX<=1000):vL b b=w 0:=by
 unfold vL;rw[Gx,W,Gx,W,afX _ e,W,Gx,W];refine aM.get ?_;refine aM.loop 4 (λa c=>c=(a:Int)) (by omega) o (λa c h d=>?_) (λc d=>?_)
 ·subst d;refine .cond (λ_=>?_) (λg=>by grind);have i:al [(0:Int),0,0,0] a=0:=by
   rcases (show a=0∨a=1∨a=2∨a=3 by omega)with rfl|rfl|rfl|rfl <;> rfl
  refine .idx o (by omega) (.cond (λg=>by simp_all) λ_=>.ret (cZ (by omega)))
 subst d;refine⟨_,rfl,?_⟩;simp only[Z];exact .eq (af9 _ f) (.ret o)
def ah7{a:aJ}(b:u a.aS.cp<=1000)(c:u a.aS.eX<=1000):Ke a a=w T:=by
 simp_all[Ke,OQ,ah6]
def kp.small{b:aU}(e:ch b){c:Nat}(f:c<4){a:aJ}(d:kp b c a):u a.aS.cp<=1000∧u a.aS.eX<=1000:=by
 have g:=d.dS.len;have h:=d.dS.args;have i:=(e.ev f).2.1.2;omega
def aga{a:R aJ}(g:∀b∈a,u b.aS.cp<=1000∧u b.aS.eX<=1000)(aQ:u a<=1000):JL a a=w T:=by
 refine aM.get ?_;unfold JL;refine .cond (λe=>by grind) λ_=>?_;refine aM.loop (u a) (λb c=>c=(b:Int)) (by omega) o (λb c f d=>?_) (λc d=>?_)
 ·subst d;refine .cond (λ_=>?_) (λe=>by simp_all);have:=g (al a b) (by simp_all[dI]);exact .idx o f (.idx o f (.eq (ah7 this.1 this.2) (.cond (λe=>by grind) λ_=>.ret (cZ (by omega)))))
 subst d;refine⟨_,by simp;rfl,?_⟩;simp only[Z];exact .ret o
def w0(a:aw aJ):aJ×aI:=match a with |some b=>(b,T)|none=>(V,U)
structure kh(aC:aL Cell)(t:Nat)(g:List Bool->Option Int):Prop where
 ok:∃c,gK aC t=w c∧c.iB=32∧rp aC c.fQ∧∀lf,cont aC c.fQ lf=g lf
def Own(a:aL Cell)(b c:Nat):Prop:=c=b∨∃d e,gK a b=w d∧dD a d.fQ e=w c
def fq(a:aW)(b:Nat):R aI:=(bQ b).map λc=>cY a (31-c)
theorem Kv(a:aW)(b:Nat):fq a (b+1)=fq a b++[cY a (31-b)]:=by simp[fq,ES]
def ahe(a:aW):fq a 0=[]:=rfl
def V2{h:aL Cell}{b:Nat}{c:h6}(i:gK h b=w c)(k:c.iB=32){d:Nat}(aQ:d<=32){e:aW}(B:∀f,f<128->cY e f=T->lead 32 d f=T):
 BT h (w b) e d=w T:=by
 refine aM.get ?_
 unfold BT
 have g:(Option.isSome (w b)&&S ((d:Int)>=0))=T:=by simp
 have l:S ((d:Int)<=c.iB)=T:=by grind
 refine .bs (P:=λa=>a=b) (λ_=>⟨b,rfl,rfl⟩) λC m=>?_
 rw[m g]
 refine .bs (P:=λa=>a=c) (λ_=>⟨c,i,rfl⟩) λD n=>?_
 rw[n g]
 rw[g,l]
 refine .bs (P:=λa=>a=b) (λ_=>⟨b,rfl,rfl⟩) λE p=>?_
 rw[p o]
 refine .bs (P:=λa=>a=c) (λ_=>⟨c,i,rfl⟩) λF q=>?_
 rw[q o,k]
 refine .bs (λ_=>Vt 32 d (by decide) (by decide)) λj G=>?_
 refine .bs (P:=λa=>a=Hw e j) (λ_=>⟨_,and_eq e j,rfl⟩) λr A=>?_
 refine .eq o (.ret ?_)
 have:r=e:=by
  rw[A o];refine Lu λf H=>?_;simp_all
 grind
def YE{b:aW}{a:Nat}(e:a<32):aM (Cw b (aV ((aV ((32:Int)-1))-(a:Int)))) (λc=>c=cY b (31-a)):=by
 have d:aV ((aV ((32:Int)-1))-(a:Int))=((31-a:Nat):Int):=by
  grind[eU]
 rw[d];refine(alV b _).mono λc aF=>?_;rw[aF];grind
def YF(b:aI):(cond b (w (1:Int)) (w 0))=w ((gh b:Nat):Int):=by cases b <;> rfl
def Z9{c k:aB}{l:aL Cell}{m:Nat}{n:h6}(C:gK l m=w n)(D:n.iB=32)(p:aW){d:Nat}(aQ:d<=32){q:Int->c->aw (c⊕k)}{r:c}{h:c⊕k->Prop}(e:Nat->c->Prop)(E:e 0 r)
 (F:∀b a,b<d->e b a->aM (q ((gh (cY p (31-b)):Nat):Int) a) (λi=>match i with | .inl A=>e (b+1) A| .inr B=>h (.inr B))) (G:∀a,e d a->h (.inl a)):aM (vB l d p (w m) q r) h:=by
 unfold vB
 refine aM.loop d (λb a=>a.1=(b:Int)∧e b a.2) (by omega) ⟨rfl,E⟩ (λb a H j=>?_) (λa j=>?_)
 ·obtain⟨I,a⟩:=a;obtain⟨f,g⟩:=j
  simp only at f g;subst f
  refine aM.cond (λ_=>?_) (λL=>by simp_all)
  refine .eq o (.eq C ?_)
  rw[D]
  refine(YE (by omega)).bind λJ K=>.eq (YF J) ?_
  rw[K]
  refine(F b a H g).bind λi aF=>?_
  cases i with
  |inl A=>exact .ret ⟨cZ (by omega),aF⟩
  |inr B=>exact .ret (.ret aF)
 obtain⟨I,a⟩:=a;obtain⟨f,g⟩:=j
 simp only at f g;subst f
 refine⟨_,by simp;rfl,?_⟩
 exact .ret (G a g)
def apf{d m:aB}{n:Nat}(p:aW){g:Nat}(aQ:g<=32){q:d->aL Cell}{r:Int->d->ag (d⊕m)}{A:d}{P:d⊕m->Prop}(e:Nat->d->Prop)(C:e 0 A)(D:∀b a,e b a->∃j,gK (q a) n=w j∧j.iB=32)
 (E:∀b a,b<g->e b a->cB (r ((gh (cY p (31-b)):Nat):Int) a) (λk=>match k with | .inl B=>e (b+1) B| .inr c=>P (.inr c))) (F:∀a,e g a->P (.inl a)):cB (zl g p (w n) q r A) P:=by
 unfold zl
 refine .bind (P:=λc=>match c with | .inl c=>P (.inl c.2.2)| .inr c=>P (.inr c.2.2.2.2.2.2)) (cB.loop g (λb a=>a.1=(b:Int)∧e b a.2) (by omega) ⟨rfl,C⟩ (λb a G l=>?_) (λa l=>?_)) λc h=>?_
 ·obtain⟨H,a⟩:=a;obtain⟨i,f⟩:=l
  simp only at i f;subst i
  refine cB.cond (λ_=>?_) (λh=>by simp_all)
  obtain⟨j,I,J⟩:=D b a f
  refine .eq o (.eq I ?_)
  rw[J]
  refine .kZ (YE (by omega)) λK L=>.eq (YF K) ?_
  rw[L]
  refine .bind (E b a G f) λk aF=>?_
  cases k with
  |inl B=>exact .ret ⟨cZ (by omega),aF⟩
  |inr c=>exact .ret aF
 ·obtain⟨H,a⟩:=a;obtain⟨i,f⟩:=l
  simp only at i f;subst i
  refine cB.cond (λh=>by simp at h) λ_=>.ret (F a f)
 cases c with
 |inl c=>exact .ret h
 |inr c=>exact .ret h
def WW{c:aL Cell}{h:Nat}{d:h6}(i:gK c h=w d)(m:d.iB=32)(q:rp c d.fQ){b:Nat}(aQ:b<=32){a:aW}(r:∀j,j<128->cY a j=T->lead 32 b j=T):
 B3 c (w h) a b=w (dD c d.fQ (fq a b)):=by
 refine aM.get ?_
 unfold B3
 refine .eq (V2 i m aQ r) (.cond (λg=>by cases g) λ_=>.eq rfl (.eq i (.eq rfl ?_)))
 show aM (b3 (vB c (b:Int) a (w h) _ _) _) _
 refine aM.bind (P:=λk:Ref⊕(Ref×Ref)=>k.elim (λe=>e=dD c d.fQ (fq a b)) (λn=>n.2=dD c d.fQ (fq a b))) (Z9 i m a aQ (λf e=>e=dD c d.fQ (fq a f)) so.symm (λf e B l=>?_) (λe l=>l)) λk p=>?_
 ·refine .cond (λg=>.ret ?_) λg=>?_
  ·rw[SS]at g
   have C:fq a b=fq a f++(fq a b).drop f:=by
    have:fq a f=(fq a b).take f:=by unfold fq;rw[<-cq,cm];grind
    simp_all
   grind[oP,iR]
  cases e with
  |none=>simp at g
  | some D=>
    obtain⟨E,A⟩:=q.reads _ _ l.symm
    refine .eq o (.idx o (by cases cY a (31-f) <;> decide) (.eq A (.ret ?_)))
    grind[Kv,oP,iS,so]
 cases k with
 |inl e=>exact .ret p
 |inr n=>exact .ret p
def YG{e:aL Cell}{i:Nat}{j:R aI->aw Int}(a:kh e i j){b:Nat}(aQ:b<=32){c:aW}(n:∀f,f<128->cY c f=T->lead 32 b f=T):
 zI e (w i) c b=w (match j (fq c b)with |none=>(0,U)|some p=>(p,T)):=by
 obtain⟨q,r,A,k,B⟩:=a.ok
 refine aM.get ?_
 unfold zI
 refine .eq (WW r A k aQ n) ?_
 rw[<-B]
 cases g:dD e q.fQ (fq c b)with
 | none=>
   rw[nY g]
   refine .bs (P:=λ_=>True) (λa=>by cases a) λl _=>.bs (P:=λ_=>True) (λa=>by cases a) λl _=>.cond (λ_=>.ret rfl) λa=>by cases a
 | some m=>
   obtain⟨d,aq⟩:=k.reads _ _ g
   rw[ml g aq]
   refine .bs (P:=λh=>h=m) (λ_=>⟨m,rfl,rfl⟩) λl C=>?_
   rw[C o]
   refine .bs (P:=λh=>h=d) (λ_=>⟨d,aq,rfl⟩) λE D=>?_
   rw[D o]
   refine .cond (λa=>?_) λa=>?_
   ·have:d.ib=U:=by simp_all
    rw[this];exact .ret o
   have:d.ib=T:=by simp_all
   rw[this];exact .eq o (.eq aq (.ret o))
structure Ms(nG aC:aL Cell)(t:Nat)(g:List Bool->Option Int)(r:Nat):Prop where
 cell:∃c,gK aC t=w c∧c.iB=32∧c.fQ=w r
 tree:rp aC (w r)
 cont:∀lf,cont aC (w r) lf=g lf
 keeps:eK nG aC (Own nG t)
 own:∀lf q,dD aC (w r) lf=w q->Own nG t q∨q∉dy nG
def Gy{a:aL Cell}{b c:Nat}{d:Cell}(e:b∉dy a)(f:pat a c=w d):b≠c:=λg=>e (g▸ji f)
theorem WX{c:aL Cell}{a:Nat}{b:fJ}:dp ((a,.iK b)::c) a=w b:=by rw[sk,nr,bT o]
def ahf{a:aL Cell}{b:Nat}(c:b∉dy a):dp a b=Y:=by simp_all[dp,ai4]
def CK{b:aL Cell}{a:Nat}{d:Cell}{c:fJ}(e:pat b a=w d):dp (cS b a (.iK c)) a=w c:=by rw[sk,ss e]
theorem Cz{b:aL Cell}{c a:Nat}{d:Cell}(e:c≠a):dp (cS b c d) a=dp b a:=zS (mN e)
theorem Va{b:aL Cell}{c a:Nat}{d:Cell}(e:c≠a):dp ((c,d)::b) a=dp b a:=zS (by rw[nr,bU e])
def WY{b:aL Cell}{a:Nat}{d:Cell}{c:h6}(e:pat b a=w d):gK (cS b a (.lz c)) a=w c:=by rw[vR,ss e]
def O1{b:aL Cell}{c a:Nat}{d:Cell}(e:c≠a):gK (cS b c d) a=gK b a:=Kn (mN e)
def Vb{b:aL Cell}{c a:Nat}{d:Cell}(e:c≠a):gK ((c,d)::b) a=gK b a:=Kn (by rw[nr,bU e])
def L2{a:aL Cell}{b c:Nat}{d:fJ}{e:h6}(f:dp a b=w d)(g:gK a c=w e):b≠c:=λh=>by
 simp_all[sk,vR]
def al1{c:aL Cell}{d:Nat}{l:R aI->aw Int}{a:h6}(h:gK c d=w a)(m:a.iB=32)(n:rp c a.fQ)(i:∀b,cont c a.fQ b=l b):
 cB (cond a.fQ.isNone (
     a' (ag.mk c (Cell.iK (V:fJ))) λj=>
     a' (b1 (gK j.2 d)) λA=>
     a' (b1 (w (cS j.2 d (Cell.lz ({A with fQ:=(w j.1:Ref)}:h6))))) λB=>
     cr B) (cr c)) (λC=> ∃k,Ms c C d l k):=by
 have D:=vR.1 h
 refine .cond (λE=>.mk λg p=>?_) λE=>?_
 ·have aF:a.fQ=Y:=by simp_all
  have F:=Gy p D
  have q:gK ((g,Cell.iK V)::c) d=w a:=by simp_all[Vb]
  refine .eq q (.eq o (.ret ⟨g,?_⟩))
  have aQ:dp (cS ((g,Cell.iK V)::c) d (.lz {a with fQ:=w g})) g=w V:=by
   grind[Cz,WX]
  have G:=VY aQ
  refine⟨⟨_,WY (vR.1 q),m,rfl⟩,⟨λb r e=>?_,λb H r e I=>?_,λb r e=>?_⟩,λb=>?_,?_,λb f e=>?_⟩
  ·simp_all
  ·simp_all
  ·simp_all
  ·rw[<-i,aF,nY iR]
   by_cases J:b=[]
   ·rw[ml (by simp_all) aQ];rfl
   simp_all[nY,bU]
  ·exact(eK.mk' p).trans (AH:=λf=>f=d) (eK.up (own:=λf=>f=d) o) λf _ e=>.inl e
  simp_all
 cases aF:a.fQ with
 |none=>simp_all
 | some k=>
   rw[aF]at n i
   exact .ret ⟨k,⟨a,h,m,aF⟩,n,i,.refl,λb f e=>.inl (.inr ⟨a,b,h,by simp_all⟩)⟩
def apg{f:aL Cell}{g:Nat}{r:R aI->aw Int}(N:kh f g r){l:Nat}(aQ:l<=32){d:aW}(ae:∀O,O<128->cY d O=T->lead 32 l O=T)(D:Int)(aM:r (fq d l)=Y):
 cB (B7 f (w g) d l D) (λh=>h.1=T∧kh h.2 g (λA=>if A=fq d l then w D else r A)∧eK f h.2 (Own f g)∧∀b,Own h.2 g b->Own f g b∨b∉dy f):=by
 obtain⟨af,I,Q,aa,ap⟩:=N.ok
 unfold B7
 refine .eq (V2 I Q aQ ae) (.cond (λN=>by cases N) λ_=>.eq (WW I Q aa aQ ae) ?_)
 refine .bs (P:=λar=>dD f af.fQ (fq d l)=w ar) (λE=>?_) λau E=>?_
 ·cases ab:dD f af.fQ (fq d l)with
  |none=>simp_all
  |some a=>exact⟨a,rfl,rfl⟩
 refine .bs (P:=λc=>dp f au=w c) (λF=>?_) λaN F=>?_
 ·obtain⟨c,aq⟩:=aa.reads _ _ (E F)
  exact⟨c,aq,aq⟩
 refine .cond (λav=>?_) λ_=>?_
 ·simp only[hx]at av
  grind[ml]
 refine .eq o (.eq I (.bind (al1 I Q aa ap) λaO J=>?_))
 obtain⟨h,J⟩:=J
 obtain⟨aP,ax,aR,ay⟩:=J.cell
 refine .eq ax (.eq o ?_)
 show cB (a' (zl (l:Int) d (w g) _ _ _) _) _
 refine .bind (P:=λab:(Ref×aL Cell)⊕Empty=> ∃a j,ab=.inl (w a,j)∧dD j (w h) (fq d l)=w a∧Ms f j g r h) (apf d aQ (λi q=> ∃a,q.1=w a∧dD q.2 (w h) (fq d i)=w a∧Ms f q.2 g r h) ⟨h,ay,so,J⟩ (λi q ah=>?_) (λi q ah ai=>?_) (λq ai=>?_)) λab az=>?_
 ·obtain⟨a,_,_,e⟩:=ah
  obtain⟨c,B,K,_⟩:=e.cell
  simp_all
 ·obtain⟨aS,j⟩:=q
  obtain⟨a,aj,n,e⟩:=ai
  simp only at aj n e
  subst aj
  obtain⟨c,aq⟩:=e.tree.reads _ _ n
  have ac:gh (cY d (31-i))<2:=by cases cY d (31-i) <;> decide
  refine .eq o (.idx o ac (.eq aq ?_))
  refine .bind (P:=λL=> ∃b ad,dp L a=w ad∧cu ad.eI (gh (cY d (31-i)))=w b∧dD L (w h) (fq d i)=w a∧Ms f L g r h) (.cond (λaA=>.mk λp G=>?_) λaA=>.ret ?_) λL aB=>?_
  ·have ak:cu c.eI (gh (cY d (31-i)))=Y:=by simp_all
   have aT:=Gy G (sk.1 aq)
   have H:dp ((p,Cell.iK V)::j) a=w c:=by simp_all[Va]
   refine .idx o ac (.eq H (.eq o (.ret ?_)))
   have aC:dp (cS ((p,Cell.iK V)::j) a (.iK {c with eI:=fC c.eI (gh (cY d (31-i))) (w p)})) p=w V:=by
    grind[Cz,WX]
   have al:dp (cS ((p,Cell.iK V)::j) a (.iK {c with eI:=fC c.eI (gh (cY d (31-i))) (w p)})) a=w {c with eI:=fC c.eI (gh (cY d (31-i))) (w p)}:=CK (sk.1 H)
   obtain⟨aD,aE,aF⟩:=grow (by grind[fq]) e.tree n aq ak (ahf G) al aC λb aU aV=>by grind[Cz,Va]
   have aG:Own f g a∨a∉dy f:=e.own _ _ n
   refine⟨p,_,al,by simp_all[nn,bT],by simp_all,?_,aD,λA=>by rw[aF,e.cont],?_,λA b k=>?_⟩
   ·obtain⟨M,B,K,C⟩:=e.cell
    have am:=L2 aq B
    exact⟨M,by rw[O1 am,Vb (Gy G (vR.1 B))];exact B,K,C⟩
   ·refine e.keeps.trans (AH:=λb=>b=a) ((eK.mk' G).trans (AH:=λb=>b=a) (eK.up (own:=λb=>b=a) o) λb _ m=>m) λb k m=>?_
    simp_all
   rw[aE]at k
   split at k
   ·cases k;exact .inr λm=>G (e.keeps.keys _ m)
   exact e.own _ _ k
  ·cases ak:cu c.eI (gh (cY d (31-i)))with
   |none=>simp_all
   |some b=>simp_all
  obtain⟨b,ad,C,m,aX,aH⟩:=aB
  refine .idx o ac (.eq C (.ret ⟨b,m,?_,aH⟩))
  simp_all[Kv,oP,iS,so]
 ·grind
 obtain⟨a,j,rfl,n,e⟩:=az
 obtain⟨c,aq⟩:=e.tree.reads _ _ n
 have aJ:=sk.1 aq
 refine .eq o (.eq aq (.eq o (.eq o ?_)))
 have H:dp (cS j a (.iK {c with ib:=T})) a=w {c with ib:=T}:=CK aJ
 refine .eq H (.eq o (.ret ?_))
 have an:dp (cS (cS j a (.iK {c with ib:=T})) a (.iK {c with ib:=T,lO:=D})) a=w {c with ib:=T,lO:=D}:=CK (sk.1 H)
 obtain⟨aY,aK⟩:=aa9 e.tree n aq an o λb k=>by grind[Cz]
 obtain⟨M,B,K,C⟩:=e.cell
 have am:=L2 aq B
 have ao:gK (cS (cS j a (.iK {c with ib:=T})) a (.iK {c with ib:=T,lO:=D})) g=w M:=by simp_all[O1]
 have aG:Own f g a∨a∉dy f:=e.own _ _ n
 refine⟨rfl,⟨M,ao,K,by simp_all,λA=>?_⟩,?_,λb k=>?_⟩
 ·rw[C,aK,e.cont];rfl
 ·refine e.keeps.trans (AH:=λb=>b=a) ((eK.up (own:=λb=>b=a) o).trans (AH:=λb=>b=a) (eK.up (own:=λb=>b=a) o) λb _ m=>m) λb k m=>?_
  simp_all
 rcases k with rfl|⟨aZ,A,E,F⟩
 ·exact .inl (.inl o)
 rw[ao]at E;cases E
 rw[C,GF aq an o (λb k=>by grind[Cz])]at F
 exact e.own _ _ F
def ch.ME{e:aU}(f:ch e):∃b c d,∀a,a<4->nx (al e.bK a)=al (tJ b c d) a:=by
 obtain⟨b,c,d,g⟩:=f.tables;refine⟨b,c,d,λa h=>?_⟩;rw[<-g,uF nx (by rw[f.jM];exact h)]
def Aa(a:dc){b:Int×Int}(aP:R eu)(c:a.bS=aP)(d:FV {(V:dc)with bS:=aP} =w b):FV a=w b:=by
 subst c;exact d
def qL(a:Nat):Int:=al [1,2,3,3] a
def ah8{d:aU}(a:ch d){b:Nat}(j:b<4):aM (FV (al d.bK b)) (λf=>f.1=qL b∧(b=1->f.2=0)):=by
 obtain⟨g,h,i,e⟩:=a.ME;have e:=e b j;have c:(al d.bK b).bS=(al (tJ g h i) b).2.2:=eO (·.2.2) e;have:b=0∨b=1∨b=2∨b=3:=by omega
 rcases this with rfl|rfl|rfl|rfl
 ·exact⟨_,Aa _ [rQ] c o,rfl,λa=>by simp at a⟩
 ·cases g
  ·exact⟨_,Aa _ [vr] c o,rfl,λ_=>rfl⟩
  exact⟨_,Aa _ [vr,MP] c o,rfl,λ_=>rfl⟩
 ·cases h
  ·exact⟨_,Aa _ [A5,AX] c o,rfl,λa=>by simp at a⟩
  exact⟨_,Aa _ [A5,AX,MQ] c o,rfl,λa=>by simp at a⟩
 cases i
 ·exact⟨_,Aa _ [A6] c o,rfl,λa=>by simp at a⟩
 exact⟨_,Aa _ [A6,MR,vr] c o,rfl,λa=>by simp at a⟩
structure DE(s:aU)(k:Nat)(nG aC:aL Cell)(p:Nat):Prop where
 cell:∃c m,jc aC p=w c∧c.wg=qL k∧c.wi=((al s.bK k).bS.length:Int)∧c.oG=⟨w m⟩∧lL aC m=w []∧
  (k=0->∃q m2,c.oK=.qx ⟨w q⟩∧pH aC q=w ⟨⟨w m2⟩⟩∧oW aC m2=w []∧q∉dy nG∧m2∉dy nG)∧
  (k=1->∃m3,c.oK=.qy ⟨0,32,⟨w m3⟩⟩∧kX aC m3=w []∧m3∉dy nG)∧
  (2<=k->∃q key cap,c.oK=.qz ⟨w q⟩∧ru aC q=w (({mO:=s,cw:=[]}:fT),key,cap)∧q∉dy nG)∧
  p∉dy nG∧m∉dy nG∧(∀q,q∈dy nG->q∈dy aC)∧∀q,q∈dy nG->pat aC q=pat nG q
def aph{e:aU}(p:ch e){k:Nat}(B:k<4)(j:aL Cell):cB (Cv j e ((k:Int)+1)) (λr=> ∃c,r.1=w c∧DE e k j r.2 c):=by
 unfold Cv;refine .kZ (Cy p B) λad N=>?_;subst N;refine .cond (λq=>by grind) λ_=>?_;refine .idx o (by rw[p.jM];exact B) (.kZ (ah8 p B) λO D=>.mk λl G=>.eq o (.mk λc m=>?_));obtain⟨ae,af⟩:=O;obtain⟨D,E⟩:=D;simp only at D E m;subst D;have ag:c≠l:=λa=>by simp_all[dy]
 have:k=0∨k=1∨2<=k:=by omega
 rcases this with rfl|rfl|ah
 ·have a:(qL 0==1)=T:=rfl;simp only[a,cond_true];unfold Kh;refine .bind (P:=λh=>DE e 0 j h c) (.bind (P:=λr=> ∃f n,r=((w f:Ref),(f,Cell.Dr ⟨⟨w n⟩⟩)::(n,Cell.qw [])::(c,_)::(l,Cell.lv [])::j)∧n∉dy ((c,_)::(l,Cell.lv [])::j)∧f∉dy ((n,Cell.qw [])::(c,_)::(l,Cell.lv [])::j)) (.mk λn A=>.mk λf g=>.ret ⟨f,n,rfl,A,g⟩) λai Q=>?_) λh C=>.ret ⟨c,rfl,C⟩;obtain⟨f,n,rfl,A,g⟩:=Q;simp only[dy,pv,fj,Cq]at A g m;refine .eq (by simp[jc,pat,g.1,g.2,A.1,g.2.2.1,Cm];rfl) (.eq o (.ret ?_));refine⟨{wg:=qL 0,wi:=(u (al e.bK 0).bS:Int),oK:=.qx ⟨w f⟩,oG:=⟨w l⟩},l,?_,rfl,rfl,rfl,?_,?_,λq=>by omega,λq=>by omega,m.2,G,λi d=>by rw[qo];exact gO _ (gO _ (gO _ (gO _ d))),λi d=>?_⟩
  ·simp_all[jc,pat,cS]
  ·simp_all[lL,pat,cS]
  ·intro _;refine⟨f,n,rfl,?_,?_,g.2.2.2,A.2.2⟩
   ·simp_all[pH,pat,cS]
   simp_all[oW,pat,cS]
  have K:f≠i:=λa=>g.2.2.2 (by rw[a];exact d);have aj:n≠i:=λa=>A.2.2 (by rw[a];exact d);have L:c≠i:=λa=>m.2 (by rw[a];exact d);grind[GM,pat]
 ·have a:(qL 1==1)=U:=rfl;have H:(qL 1==2)=T:=rfl;simp only[a,H,cond_true,cond_false];have E:=E o;subst E;obtain⟨ak,⟨am,an⟩,ao,_⟩:=p.ev B;have R:(al (al e.bK 1).bS 0).im=((6:Nat):Int)+1:=by
   obtain⟨aa,ap,aq,a⟩:=p.ME;have a:=eO (·.2.2) (a 1 B);show(al (nx (al e.bK 1)).2.2 0).im=_;rw[a];cases aa <;> rfl
  refine .bind (P:=λh=>DE e 1 j h c) (.bind (P:=λh=>DE e 1 j h c) ?_ λ_ I=>.ret I) λh C=>.ret ⟨c,rfl,C⟩;refine .idx (k:=0) o (by omega) ?_;simp only[R];refine .kZ (OZ p (show 6<9 by decide)) λar ab=>?_;subst ab;refine .kZ (P:=λr=>r=32) (.cond (λ_=>.idx o (by rw[p.sL];decide) (.ret (p.vf (show 6<9 by decide)).2)) (λq=>by grind)) λb ac=>?_;subst ac;refine .mk λJ F=>?_;simp only[dy,pv,fj,Cq]at F m;refine .eq o (.eq (by simp[jc,pat,F.1];rfl) (.eq o (.ret ?_)));refine⟨{wg:=qL 1,wi:=(u (al e.bK 1).bS:Int),oK:=.qy ⟨0,32,⟨w J⟩⟩,oG:=⟨w l⟩},l,?_,rfl,rfl,rfl,?_,λq=>by omega,?_,λq=>by omega,m.2,G,λi d=>by rw[qo];exact gO _ (gO _ (gO _ d)),λi d=>?_⟩
  ·simp_all[jc,pat,cS]
  ·simp_all[lL,pat,cS]
  ·intro _;refine⟨J,rfl,?_,F.2.2⟩;simp_all[kX,pat,cS]
  have K:J≠i:=λa=>F.2.2 (by rw[a];exact d);have L:c≠i:=λa=>m.2 (by rw[a];exact d);grind[GM,pat]
 have a:(qL k==1)=U:=by
  have:k=2∨k=3:=by omega
  rcases this with rfl|rfl <;> rfl
 have H:(qL k==2)=U:=by
  have:k=2∨k=3:=by omega
  rcases this with rfl|rfl <;> rfl
 simp only[a,H,cond_true,cond_false];refine .bind (P:=λh=>DE e k j h c) (.bind (P:=λh=>DE e k j h c) ?_ λ_ I=>.ret I) λh C=>.ret ⟨c,rfl,C⟩;refine .eq o (.any λM=>.mk λf g=>?_);simp only[dy,pv,fj,Cq]at g m;refine .eq (by simp[jc,pat,g.1];rfl) (.eq o (.ret ?_));refine⟨{wg:=qL k,wi:=(u (al e.bK k).bS:Int),oK:=.qz ⟨w f⟩,oG:=⟨w l⟩},l,?_,rfl,rfl,rfl,?_,λq=>by omega,λq=>by omega,λ_=>⟨f,M.1,M.2,rfl,?_,g.2.2⟩,m.2,G,λi d=>by rw[qo];exact gO _ (gO _ (gO _ d)),λi d=>?_⟩
 ·simp_all[jc,pat,cS]
 ·simp_all[lL,pat,cS]
 ·simp_all[ru,pat,cS]
 have K:f≠i:=λa=>g.2.2 (by rw[a];exact d);have L:c≠i:=λa=>m.2 (by rw[a];exact d);grind[GM,pat]
def WZ{au:aB}{b:au->au->aI}(i:wZ b){f:au->aI}:∀{d:R au} {a:au},d.Pairwise (λl m=>b l m=T)->a∈d->f a=T->(∀e∈d,f e=T->e=a∨b a e=T)->d.find? f=w a
 |[],a,_,g,_,_=>by cases g
 | j::d,a,n,g,o,aq=>by
   obtain⟨p,q⟩:=lh.1 n;by_cases h:f j=T
   ·rw[List.find?_cons_of_pos h];rcases aq j (by simp) h with k|k
    ·rw[k]
    rcases fj.1 g with c|c
    ·rw[c]
    have:=i.asymm _ _ (p a c);simp_all
   rw[List.find?_cons_of_neg h];rcases fj.1 g with c|c
   ·simp_all
   exact WZ i q c o λe A r=>aq e (by grind) r
def akT{au:aB}{b:au->au->aI}(f:wZ b){e:au->aI}{d:R au}{a:au}(g:yA b d)(h:a∈d)(i:e a=T)(aq:∀c∈d,e c=T->c=a∨b a c=T):(iQ b d).find? e=w a:=
 WZ f (Pn f g) (yc.2 h) i λc j=>aq c (yc.1 j)
def lS.uniq{f:aU}{g:Nat}:∀{a:R aJ},lS f g a->∀{b c:aJ},b∈a->c∈a->b.ct=c.ct->b=c:=λ{a} d {b c} e h k=>by
 have aQ:=d.num;clear d;induction a with
 |nil=>cases e
 | cons l a m=>
   obtain⟨n,o⟩:=lh.1 aQ
   rcases fj.1 e with i|i <;> rcases fj.1 h with j|j
   ·simp_all
   ·simp_all
   ·grind
   simp_all
def ch.Ry{a:aU}(b:ch a):(al a.bK 0).bS=[rQ]:=by
 obtain⟨d,e,f,c⟩:=b.ME;exact eO (·.2.2) (c 0 (by decide))
def ch.Rz{a:aU}(c:ch a):∃b,(al a.bK 1).bS=yn b:=by
 obtain⟨d,f,g,e⟩:=c.ME;exact⟨d,eO (·.2.2) (e 1 (by decide))⟩
def MS(a:aU)(b:Nat):Nat:=u (al a.bK b).bS
def akU{au:aB}[Inhabited au]{b:Nat}{c:Fin b->au}{a:Nat}(d:a<b):cu (cv c) a=c ⟨a,d⟩:=by simp_all[cu]
def fV(a:bg):ck aW 4:=cv λb=>if b.1<u a.cp then(al a.cp b.1).b2 else V
def iF(a:ck aW 4):ck aW 4:=fC a 0 V
def CL{b:bg}{a:Nat}(c:a<4):cu (fV b) a=if a<u b.cp then(al b.cp a).b2 else V:=akU c
def XZ{b:ck aW 4}{a:Nat}:cu (iF b) a=if a=0 then V else cu b a:=by simp_all[iF,nn]
def aba{a b:ck aW 4}:a=b↔cu a 0=cu b 0∧cu a 1=cu b 1∧cu a 2=cu b 2∧cu a 3=cu b 3:=by
 refine⟨λd=>by simp_all,λ⟨e,f,g,h⟩=>WQ λc i=>?_⟩;rcases (show c=0∨c=1∨c=2∨c=3 by omega)with rfl|rfl|rfl|rfl <;> assumption
def ai9{c d:aW}{a e:Nat}:fq c a=fq d e↔a=e∧∀b,b<a->cY c (31-b)=cY d (31-b):=by
 unfold fq;constructor
 ·intro f;have g:=eO u f;simp only[lY,IH]at g;simp_all
 simp_all
def k2(a:bg):R aI:=fq (al a.cp 0).b2 (al a.cp 0).eT.toNat
def Hy{c:aU}(e:ch c){d:bg}(f:fu c 1 d):sB 2 32 (al d.cp 0):=by
 have a:=f.wY 0;obtain⟨b,g⟩:=e.Rz;rw[g]at a;cases b
 ·exact a (by decide)
 exact a (by decide)
def G3{a:Int}(c:0<=a)(d:a<=32){b:Nat}:lead 32 a b=T↔32-a<=(b:Int)∧b<32:=by
 grind[lead]
def akV{a:cJ}(g:sB 2 32 a){f:aW}{d:Nat}(aQ:d<=32):fq a.b2 a.eT.toNat=fq f d↔a.eT=d∧∀b,b<128->lead 32 a.eT b=T->cY f b=cY a.b2 b:=by
 have c:=g.pre;rw[ai9];constructor
 ·rintro ⟨h,e⟩;refine⟨by omega,λb k i=>?_⟩;rw[G3 c.1 c.2]at i;have:=e (31-b) (by omega);grind
 rintro ⟨h,e⟩;refine⟨by omega,λj l=>?_⟩;exact(e (31-j) (by omega) ((G3 c.1 c.2).2 (by omega))).symm
def abb{d:aU}(f:ch d){e:bg}(g:fu d 1 e):e.gk=0:=by
 refine g.pri λa c=>?_;obtain⟨b,h⟩:=f.Rz;rw[h]at c⊢;cases b
 ·have:a=0:=by have:a<1:=c;omega
  subst this;decide
 have:a=0∨a=1:=by have:a<2:=c;omega
 rcases this with rfl|rfl <;> decide
def Own.iff{c f:aL Cell}{d:Nat}{a:h6}(h:gK c d=w a)(l:∀e,Own c d e->pat f e=pat c e):gK f d=w a∧(∀b,dD f a.fQ b=dD c a.fQ b)∧∀e,Own f d e↔Own c d e:=by
 have i:gK f d=w a:=by rw[Kn (l d (.inl o))];exact h
 have m:∀b,dD f a.fQ b=dD c a.fQ b:=λb=>VX λn p c=>zS (l n (.inr ⟨a,p,h,c⟩));refine⟨i,m,λe=>⟨λj=>?_,λj=>?_⟩⟩
 ·rcases j with rfl|⟨q,b,g,k⟩
  ·exact .inl o
  rw[i]at g;cases g;rw[m]at k;exact .inr ⟨a,b,h,k⟩
 rcases j with rfl|⟨q,b,g,k⟩
 ·exact .inl o
 rw[h]at g;cases g;exact .inr ⟨a,b,i,by simp_all⟩
def kh.congr{b dt:aL Cell}{e:Nat}{m:R aI->aw Int}(p:kh b e m)(i:∀d,Own b e d->pat dt d=pat b d):kh dt e m∧∀d,Own dt e d↔Own b e d:=by
 obtain⟨f,j,q,g,r⟩:=p.ok;obtain⟨A,k,B⟩:=Own.iff j i;refine⟨⟨⟨f,A,q,⟨λa c b=>?_,λa C c l n=>?_,λa c l=>g.dep a c (by simp_all)⟩,λa=>?_⟩⟩,B⟩
 ·rw[k]at b;obtain⟨o,aq⟩:=g.reads a c b;exact⟨o,by rw[zS (i c (.inr ⟨f,a,j,b⟩))];exact aq⟩
 ·rw[k]at l n;exact g.inj a C c l n
 rw[<-r];cases h:dD b f.fQ a with
 |none=>simp_all[nY]
 | some c=>
   obtain⟨o,aq⟩:=g.reads a c h
   rw[ml h aq,ml (by rw[k];exact h) (by rw[zS (i c (.inr ⟨f,a,j,h⟩))];exact aq)]
def kh.C6{a:aL Cell}{c:Nat}{f:R aI->aw Int}(g:kh a c f){b:Nat}(h:Own a c b):b∈dy a:=by
 obtain⟨l,d,m,i,n⟩:=g.ok;rcases h with rfl|⟨o,j,e,k⟩
 ·exact ji (vR.1 d)
 rw[d]at e;cases e;obtain⟨p,aq⟩:=i.reads j b k;exact ji (sk.1 aq)
def kh.Lx{b:aL Cell}{d:Nat}{g:R aI->aw Int}(h:kh b d g){c:Nat}(i:Own b d c):(∃a,pat b c=w (.lz a))∨∃a,pat b c=w (.iK a):=by
 obtain⟨a,e,n,j,o⟩:=h.ok;rcases i with rfl|⟨p,k,f,l⟩
 ·exact .inl ⟨a,vR.1 e⟩
 rw[e]at f;cases f;obtain⟨m,aq⟩:=j.reads k c l;exact .inr ⟨m,sk.1 aq⟩
def fE(a b:bg):aI:=S (a.bZ=b.bZ∧a.cp=b.cp∧a.gk=b.gk)
def su{a b:bg}:fE a b=T↔a.bZ=b.bZ∧a.cp=b.cp∧a.gk=b.gk:=by simp_all[fE,ik]
def nu(a:bg):fE a a=T:=su.2 ⟨rfl,rfl,rfl⟩
theorem sq(a b:bg):fE a b=fE b a:=by
 rw[kW,su,su];grind
theorem sn{a b c:bg}(d:fE a b=T)(e:fE b c=T):fE a c=T:=by
 simp_all[su]
def P8{a b:cJ}(c:a.fO=b.fO)(d:a.b2=b.b2)(e:a.fZ=b.fZ)(f:a.eT=b.eT)(g:a.jU=b.jU):a=b:=by
 cases a;simp_all
def X0{b:Int}{d e:cJ}(a:sB 1 b d)(c:sB 1 b e)(f:d.b2=e.b2):d=e:=
 P8 (by rw[a.abI o,c.abI o]) f (by rw[a.hE (by decide),c.hE (by decide)]) (by rw[a.abK (by decide),c.abK (by decide)]) (by rw[a.MD (by decide),c.MD (by decide)])
def akW{a b:cJ}(c:sB 2 32 a)(d:sB 2 32 b)(i:fq a.b2 a.eT.toNat=fq b.b2 b.eT.toNat):a=b:=by
 have j:=c.pre;have g:=d.pre;obtain⟨r,aQ⟩:=mE g.1;rw[aQ,Int.toNat_natCast]at i;obtain⟨A,B⟩:=(akV c (by omega)).1 i;have k:a.eT=b.eT:=by omega
 have p:a.fO=b.fO:=by
  cases l:a.fO <;> cases m:b.fO
  ·rfl
  ·have:=d.abJ o m;have:=c.off l;have q:(V:cJ).eT=0:=rfl;grind
  ·have:=c.abJ o l;have:=d.off m;have q:(V:cJ).eT=0:=rfl;grind
  rfl
 refine P8 p (Lu λe n=>?_) (by rw[c.hE (by decide),d.hE (by decide)]) k (by rw[c.MD (by decide),d.MD (by decide)]);cases f:lead 32 a.eT e with
 |true=>simp_all
 | false=>
   have C:cY a.b2 e=U:=by
    rw[rY];intro h;have:=c.Sl o e n h;rw[(G3 j.1 j.2).2 this]at f;cases f
   have D:cY b.b2 e=U:=by
    rw[rY];intro h;have:=d.Sl o e n h;rw[k,(G3 g.1 g.2).2 this]at f;cases f
   simp_all
def Mt{au:aB}[Inhabited au]{l:R au}(a:u l=1):l=[al l 0]:=by
 match l,a with
 |[b],_=>rfl
def abc{au:aB}[Inhabited au]{l:R au}(a:u l=2):l=[al l 0,al l 1]:=by
 match l,a with
 |[b,c],_=>rfl
def HX{f:aU}(j:ch f){a b:bg}(c:fu f 0 a)(d:fu f 0 b):fE a b=T↔fV a=fV b:=by
 rw[su];have g:=c.len;have lc:=d.len;have h:=c.wY 0;have pk:=d.wY 0;have k:=c.pri;have m:=d.pri;rw[j.Ry]at g lc h pk k m;have o:∀i,i<[rQ].length->(al [rQ] i).cO<=2:=by decide
 refine⟨λ⟨p,q,r⟩=>by simp_all[fV],λn=>⟨by rw[c.ev,d.ev],?_,by simp_all⟩⟩;have e:=(aba.1 n).1;rw[CL (by decide),CL (by decide),g,lc]at e;have e:(al a.cp 0).b2=(al b.cp 0).b2:=e;rw[Mt (l:=a.cp) g,Mt (l:=b.cp) lc,X0 (h (by decide)) (pk (by decide)) e]
def DN{i:aU}(d:ch i){a c:bg}(e:fu i 1 a)(f:fu i 1 c):fE a c=T↔iF (fV a)=iF (fV c)∧k2 a=k2 c:=by
 rw[su];have g:=e.len;have lc:=f.len;have j:=e.wY 1;have pk:=f.wY 1;have r:=abb d e;have A:=abb d f;have m:=Hy d e;have n:=Hy d f;obtain⟨b,o⟩:=d.Rz;rw[o]at g lc j pk;refine⟨λ⟨B,C,D⟩=>by simp_all[fV,k2],λ⟨p,q⟩=>⟨by rw[e.ev,f.ev],?_,by omega⟩⟩;have k:=akW m n q;cases b
 ·rw[Mt (l:=a.cp) g,Mt (l:=c.cp) lc,k]
 have h:=(aba.1 p).2.1;rw[XZ,XZ,bU (by decide),bU (by decide),CL (by decide),CL (by decide),g,lc]at h;have h:(al a.cp 1).b2=(al c.cp 1).b2:=h;rw[abc (l:=a.cp) g,abc (l:=c.cp) lc,k,X0 (j (by decide)) (pk (by decide)) h]
structure ix(s:aU)(k:Nat)(l:List aJ):Prop where
 ok:lS s k l
 key:l.Pairwise λa c=>fE a.aS c.aS=U
def ix.uniq{f:aU}{g:Nat}{a:R aJ}(d:ix f g a){b c:aJ}(e:b∈a)(h:c∈a)(k:fE b.aS c.aS=T):b=c:=by
 have aQ:=d.key;clear d;induction a with
 |nil=>cases e
 | cons l a m=>
   obtain⟨n,o⟩:=lh.1 aQ
   rcases fj.1 e with i|i <;> rcases fj.1 h with j|j
   ·simp_all
   ·simp_all
   ·grind[sq]
   simp_all
def dM(a:R aJ)(b:bg):aw aJ:=a.find? λc=>fE c.aS b
def mP{b:R aJ}{c:bg}{a:aJ}(d:dM b c=w a):a∈b∧fE a.aS c=T:=by
 grind[dM]
theorem tp{b:R aJ}{c:bg}(d:dM b c=Y):∀a∈b,fE a.aS c=U:=λa e=>by
 have:=Ex.1 d a e;simp_all
def ix.YH{d:aU}{e:Nat}{a:R aJ}(f:ix d e a){b:bg}{c:aJ}(g:c∈a)(k:fE c.aS b=T):dM a b=w c:=by
 cases h:dM a b with
 |none=>grind[tp]
 | some l=>
   obtain⟨i,j⟩:=mP h
   rw[f.uniq i g (sn j (by simp_all[sq]))]
def iy(a:aw aJ):Int×aI:=match a with |some b=>(b.ct,T)|none=>(0,U)
def ou{au a:aB}(b:R (au×a)):Prop:=b.Pairwise λc d=>c.1≠d.1
def W0{au d:aB}[DecidableEq au]:∀{f:R (au×d)} {c:au} {e:d} {b:au×d},b∈fB f c e->b.1=c∨b∈f
 | [],c,e,b,a=>by
   simp_all[fB]
 | (g,h)::i,c,e,b,a=>by
   unfold fB at a;split at a
   ·grind
   rcases fj.1 a with a|a
   ·simp_all
   exact(W0 a).imp id λa=>gO _ a
def ou.put{au c:aB}[DecidableEq au]:∀{d:R (au×c)} {a:au} {b:c},ou d->ou (fB d a b)
 |[],a,b,_=>by simp_all[fB,ou]
 | (k,l)::m,a,b,g=>by
   obtain⟨n,e⟩:=lh.1 g;unfold fB;split
   ·rename_i h;refine lh.2 ⟨λi f=>?_,e⟩;grind
   rename_i h;refine lh.2 ⟨λi f=>?_,ou.put e⟩;rcases W0 f with j|j
   ·grind
   grind
def W1{au d:aB}[DecidableEq au]:∀{e:R (au×d)} {c:au} {b:au×d},b∈iT e c->b∈e
 |[],c,b,a=>by cases a
 | (f,g)::h,c,b,a=>by
   unfold iT at a;split at a
   ·simp_all
   rcases fj.1 a with a|a
   ·simp[a]
   exact gO _ (W1 a)
def ou.del{au d:aB}[DecidableEq au]:∀{b:R (au×d)} {a:au},ou b->ou (iT b a)
 |[],a,_=>by simp_all[iT,ou]
 | (i,j)::k,a,e=>by
   obtain⟨f,c⟩:=lh.1 e;unfold iT;split
   ·exact c
   exact lh.2 ⟨λg h=>f g (W1 h),ou.del c⟩
def X1{au e:aB}[DecidableEq au]:∀{c:R (au×e)} {a:au},(∀b∈c,b.1≠a)->dU c a=Y
 |[],_,_=>rfl
 | (f,g)::j,a,d=>by
   unfold dU;rw[bU λh=>d (f,g) (by simp) h.symm,X1 λb i=>d b (by simp[i])]
theorem CF{au g:aB}[DecidableEq au]:∀{e:R (au×g)} {b a:au},ou e->dU (iT e b) a=if a=b then Y else dU e a
 | [],b,a,_=>by
   show Y=if a=b then Y else Y;split <;> rfl
 | (c,h)::i,b,a,j=>by
   obtain⟨k,l⟩:=lh.1 j;unfold iT;by_cases f:b=c
   ·rw[bT f];by_cases d:a=b
    ·rw[bT d,d,f];exact X1 λm n=>(k m n).symm
    rw[bU d];show _=if a=c then _ else _;simp_all
   rw[bU f];show(if a=c then w h else dU (iT i b) a)=_;by_cases d:a=c
   ·rw[bT d,bU (by grind)];show _=if a=c then _ else _;simp_all
   rw[bU d,CF l];show _=if a=b then Y else if a=c then _ else _;simp_all
structure C7(s:aU)(aC:aL Cell)(q:Nat)(l:List aJ)(own:Nat->Prop):Prop where
 ok:∃m em,pH aC q=w ⟨⟨w m⟩⟩∧oW aC m=w em∧own q∧own m∧(∀ud n,dU em ud=w n↔∃i∈l,fV i.aS=ud∧i.ct=n)∧ou em
structure oS(s:aU)(aC:aL Cell)(m:Nat)(l:List aJ)(own:Nat->Prop):Prop where
 ok:∃em,kX aC m=w em∧own m∧
  (∀ud r,dU em ud=w r->∃t g,r=w t∧kh aC t g∧(∀q,Own aC t q->own q)∧∀lf n,g lf=w n↔∃i∈l,iF (fV i.aS)=ud∧k2 i.aS=lf∧i.ct=n)∧
  (∀ud,dU em ud=Y->∀i∈l,iF (fV i.aS)≠ud)∧
  (∀ud abL t ab8,dU em ud=w (w t)->dU em abL=w (w ab8)->ud≠abL->∀q,Own aC t q->¬Own aC ab8 q)∧ou em
structure C8(s:aU)(k:Nat)(aC:aL Cell)(q:Nat)(l:List aJ)(own:Nat->Prop):Prop where
 ok:∃key cap,ru aC q=w (wK s k l,key,cap)∧own q
def tD(c:aU)(b:Nat)(d:aL Cell)(e:jF)(f:R aJ)(g:Nat->Prop):Prop:=
 (b=0∧∃a,e=.qx ⟨w a⟩∧C7 c d a f g)∨(b=1∧∃h,e=.qy ⟨0,32,⟨w h⟩⟩∧oS c d h f g)∨(2<=b∧∃a,e=.qz ⟨w a⟩∧C8 c b d a f g)
def O2{b c:aL Cell}{a:Nat}(d:pat c a=pat b a):pH c a=pH b a:=by simp_all[pH]
def agD{b c:aL Cell}{a:Nat}(d:pat c a=pat b a):oW c a=oW b a:=by simp_all[oW]
theorem Ko{aC b:aL Cell}{a:Nat}(c:pat b a=pat aC a):kX b a=kX aC a:=by simp_all[kX]
def agE{b c:aL Cell}{a:Nat}(d:pat c a=pat b a):ru c a=ru b a:=by simp_all[ru]
theorem agF{b c:aL Cell}{a:Nat}(d:pat c a=pat b a):jc c a=jc b a:=by simp_all[jc]
theorem agG{b c:aL Cell}{a:Nat}(d:pat c a=pat b a):lL c a=lL b a:=by simp_all[lL]
def tD.congr{H:aU}{I:Nat}{i dt:aL Cell}{J:jF}{C:R aJ}{n:Nat->Prop}(e:tD H I i J C n){K:Nat->Prop}(k:∀a,a∈dy i->n a->K a)(l:∀a,n a->pat dt a=pat i a):tD H I dt J C K:=by
 rcases e with⟨rfl,a,rfl,e⟩|⟨rfl,f,rfl,e⟩|⟨O,a,rfl,e⟩
 ·obtain⟨f,o,c,d,p,q,L,D⟩:=e.ok;refine .inl ⟨rfl,a,rfl,⟨f,o,by rw[O2 (l a p)];exact c,by rw[agD (l f q)];exact d,k a (ji (G4 c)) p,k f (ji (uR d)) q,L,D⟩⟩
 ·obtain⟨o,c,d,p,q,L,D⟩:=e.ok;have E:∀g j,dU o g=w j->∃b h,j=w b∧kh i b h∧kh dt b h∧(∀a,Own i b a->n a)∧(∀a,Own dt b a↔Own i b a)∧∀M N,h M=w N↔∃F∈C,iF (fV F.aS)=g∧k2 F.aS=M∧F.ct=N:=λg j aF=>by
   obtain⟨b,h,rfl,r,A,B⟩:=p g j aF;obtain⟨G,P⟩:=r.congr λa m=>l a (A a m);exact⟨b,h,rfl,r,G,A,P,B⟩
  refine .inr (.inl ⟨rfl,f,rfl,⟨o,by rw[Ko (l f d)];exact c,k f (ji (oR c)) d,λg j aF=>?_,q,λg ab b ac ad ae af a m=>?_,D⟩⟩)
  ·obtain⟨b,h,rfl,Q,r,A,B,G⟩:=E g j aF;exact⟨b,h,rfl,r,λa m=>k a (Q.C6 ((B a).1 m)) (A a ((B a).1 m)),G⟩
  grind
 obtain⟨E,aa,c,d⟩:=e.ok;exact .inr (.inr ⟨O,a,rfl,⟨E,aa,by rw[agE (l a d)];exact c,k a (ji (Ao c)) d⟩⟩)
def Lc{c:bg}(l:u c.cp<=4):zM c=w (fV c):=by
 refine aM.get ?_;unfold zM;refine .eq (a:=c.cp) (by unfold kF;rw[bT ⟨by omega,by omega,by omega⟩,Int.toNat_zero,xp,Nat.sub_zero,rS (by omega)]) ?_;refine aM.loop (u c.cp) (λf d=>d.1=(f:Int)∧∀b,b<4->cu d.2 b=if b<f then(al c.cp b).b2 else V) (by omega) ⟨rfl,λb i=>by grind[Cs]⟩ (λf d j g=>?_) (λd g=>?_)
 ·obtain⟨b,k⟩:=d;obtain⟨e,h⟩:=g;simp only at e h;subst e;refine .cond (λ_=>?_) (λm=>by simp_all);refine .idx o j (.idx o (by omega) (.ret ⟨cZ (by omega),λb i=>?_⟩));rw[nn _ _ (by omega)];grind
 obtain⟨b,k⟩:=d;obtain⟨e,h⟩:=g;simp only at e h;subst e;refine⟨_,by simp;rfl,.ret ?_⟩;exact WQ λb i=>by simp_all[CL]
def fu.Mu{b:aU}(d:ch b){c:Nat}(e:c<4){a:bg}(f:fu b c a):u a.cp<=4∧1<=u a.cp:=by
 have:=(d.ev e).2.1;rw[f.len];omega
def aja{a c:R cJ}(k:u a<=1000):Ix a c=w (S (a=c)):=by
 refine aM.get ?_;unfold Ix;refine .cond (λg=>.ret ?_) λg=>?_
 ·grind
 have h:u c=u a:=by
  grind
 refine aM.loop (u a) (λe f=>f=(e:Int)∧∀b,b<e->al a b=al c b) (by omega) ⟨rfl,λb i=>by omega⟩ (λe f j d=>?_) (λf d=>?_)
 ·obtain⟨rfl,d⟩:=d;refine .cond (λ_=>?_) (λl=>by simp_all);refine .idx o j (.idx o (by omega) (.cond (λm=>.ret ?_) λn=>.ret ⟨cZ (by omega),λb i=>?_⟩))
  ·simp only[bP];refine .ret ?_;grind
  grind
 obtain⟨rfl,d⟩:=d;refine⟨_,by simp;rfl,?_⟩;simp only[Z];refine .ret ?_;have:a=c:=EJ h.symm λb p q=>by
  simp_all[dI]
 simp_all
def ahg{a b:bg}(c:u a.cp<=1000):JE a b=w (fE a b):=by
 refine aM.get ?_;unfold JE fE;refine .bs (P:=λd=>d=S (a.cp=b.cp)) (λ_=>⟨_,aja c,rfl⟩) λe f=>.ret ?_;grind
def api{f:aU}(i:ch f){g:aL Cell}{j:Nat}{c:R aJ}{p:Nat->Prop}(q:C7 f g j c p)(l:ix f 0 c){b:bg}(k:fu f 0 b):Ff g ⟨w j⟩ b=w (iy (dM c b)):=by
 obtain⟨r,h,A,B,_,_,m,_⟩:=q.ok;refine aM.get ?_;unfold Ff BY;refine .eq (Lc (k.Mu i (by decide)).1) ?_;have C:dU h (fV b)=(dM c b).map (·.ct):=by
  cases n:dM c b with
  | none=>
    cases D:dU h (fV b)with
    |none=>rfl
    | some G=>
      obtain⟨d,e,E,_⟩:=(m _ _).1 D
      have:=tp n d e
      rw[(HX i (l.ok.ok d e).dS k).2 E]at this;grind
  | some d=>
    obtain⟨e,F⟩:=mP n
    exact(m _ _).2 ⟨d,e,(HX i (l.ok.ok d e).dS k).1 F,rfl⟩
 refine .eq (a:=iy (dM c b)) ?_ (.ret o);show(pH g j).bind _=_;rw[A];show(oW g r).bind _=_;rw[B];show w ((dU h (fV b)).getD V,(dU h (fV b)).isSome)=_;rw[C];cases dM c b <;> rfl
def P9{c:aU}(d:ch c){b:bg}(e:fu c 1 b)(f:gb):Br ⟨0,32,f⟩ b=w (iF (fV b),(al b.cp 0).b2,(al b.cp 0).eT):=by
 have g:=e.Mu d (by decide);refine aM.get ?_;unfold Br ND;refine .eq (Lc g.1) (.eq (a:=(iF (fV b),cu (fV b) 0)) o (.cond (λh=>by simp_all) λ_=>.idx (k:=0) o (by omega) (.ret ?_)));simp_all[CL,bT]
def PF{b:cJ}(c:sB 2 32 b):∀a,a<128->cY b.b2 a=T->lead 32 b.eT a=T:=λa d e=>
 (G3 c.pre.1 c.pre.2).2 (c.Sl o a d e)
def apj{i:aU}(g:ch i){k:aL Cell}{p:Nat}{c:R aJ}{C:Nat->Prop}(D:oS i k p c C)(l:ix i 1 c){b:bg}(h:fu i 1 b):EO k ⟨0,32,⟨w p⟩⟩ b=w (iy (dM c b)):=by
 obtain⟨E,F,_,G,H,_⟩:=D.ok;have m:=Hy g h;refine aM.get ?_;unfold EO;refine .eq (P9 g h _) (.eq o (.eq F (.eq o ?_)));obtain⟨j,aQ⟩:=mE m.pre.1;have I:j<=32:=by have:=m.pre.2;omega
 have q:=PF m;refine .eq (a:=iy (dM c b)) ?_ (.ret o);simp only;cases aF:dU E (iF (fV b))with
 | none=>
   have f:dM c b=Y:=by
    cases f:dM c b with
    |none=>rfl
    | some d=>
      obtain⟨e,n⟩:=mP f
      exact absurd ((DN g (l.ok.ok d e).dS h).1 n).1 (H _ aF d e)
   rw[f];rfl
 | some P=>
   obtain⟨J,r,rfl,K,_,L⟩:=G _ _ aF
   have M:r (k2 b)=(dM c b).map (·.ct):=by
    cases f:dM c b with
    | none=>
      cases N:r (k2 b)with
      |none=>rfl
      | some j=>
        obtain⟨d,e,A,B,_⟩:=(L _ _).1 N
        have:=tp f d e
        rw[(DN g (l.ok.ok d e).dS h).2 ⟨A,B⟩]at this;grind
    | some d=>
      obtain⟨e,n⟩:=mP f
      obtain⟨A,B⟩:=(DN g (l.ok.ok d e).dS h).1 n
      grind
   rw[aQ]at q⊢
   show zI k (w J) _ (j:Int)=_
   rw[YG K I q]
   have O:fq (al b.cp 0).b2 j=k2 b:=by simp_all[k2,aQ]
   rw[O,M]
   cases dM c b <;> rfl
def apk{a:aU}(m:ch a){b:Nat}(n:b<4){q:aL Cell}{r:Nat}{c:R aJ}{B:Nat->Prop}(C:C8 a b q r c B)(j:ix a b c){e:bg}(K:fu a b e):Fi q ⟨w r⟩ e=w (iy (dM c e)):=by
 obtain⟨L,M,D,_⟩:=C.ok;refine aM.get ?_;unfold Fi;refine .eq o (.eq D (.eq (al0 m n j.ok) ?_));obtain⟨E,N⟩:=j.ok.iQ;have k:dM c e=(iQ (ju a b) c).find? λd=>fE d.aS e:=by
  cases k:dM c e with
  | none=>
    symm
    rw[Ex]
    intro F G
    rw[tp k F (yc.1 G)];simp
  | some d=>
    obtain⟨g,H⟩:=mP k
    exact(akT (Lw a b) j.ok.Sm g H λO aq I=>.inl (j.uniq aq g (sn I (by simp_all[sq])))).symm
 rw[k];refine aM.loop (u (iQ (ju a b) c)) (λd l=>l=(d:Int)∧∀h,h<d->fE (al (iQ (ju a b) c) h).aS e=U) (by omega) ⟨rfl,λh A=>by omega⟩ (λd l g f=>?_) (λl f=>?_)
 ·obtain⟨rfl,f⟩:=f;refine .cond (λ_=>?_) (λi=>by simp_all);have J:=E (al (iQ (ju a b) c) d) (by simp_all[dI]);refine .idx o g (.eq (ahg (J.small m n).1) (.cond (λi=>.ret ?_) λi=>.ret ⟨cZ (by omega),λh A=>?_⟩))
  ·simp only[bP];refine .ret ?_;rw[XT (p:=λd=>fE d.aS e) g i f];rfl
  grind
 obtain⟨rfl,f⟩:=f;refine⟨_,by simp;rfl,?_⟩;simp only[Z];refine .ret ?_;rw[XU λP i=>?_]
 ·rfl
 obtain⟨h,A,rfl⟩:=vw.1 i;simp_all[dI]
def aaa{b:aU}(d:ch b){c:Nat}(k:c<4){i:aL Cell}{j:jF}{e:R aJ}{l:Nat->Prop}(a:tD b c i j e l)(f:ix b c e){g:bg}(h:fu b c g):I5 i j g=w (iy (dM e g)):=by
 rcases a with⟨rfl,m,rfl,a⟩|⟨rfl,n,rfl,a⟩|⟨o,m,rfl,a⟩
 ·exact api d a f h
 ·exact apj d a f h
 exact apk d k a f h
def ny(b:Nat->Prop)(c d:aL Cell)(a:Nat):Prop:=b a∨(a∉dy c∧a∈dy d)
def W2{b:aL Cell}{a:Nat}{d:Cell}{c:R (ck aW 4×Int)}(e:pat b a=w d):oW (cS b a (.qw c)) a=w c:=by simp_all[oW,ss]
def W3{b:aL Cell}{a:Nat}{d:Cell}{c:R (ck aW 4×Ref)}(e:pat b a=w d):kX (cS b a (.nz c)) a=w c:=by simp_all[kX,ss]
def arF{c:aU}(k:ch c){d:aL Cell}{e:Nat}{f:R aJ}{g:Nat->Prop}(r:C7 c d e f g)(A:ix c 0 f){b:aJ}(l:kp c 0 b)(B:dM f b.aS=Y):
 aM (Fs d ⟨w e⟩ b) (λh=>C7 c h e (f++[b]) (ny g d h)∧eK d h g):=by
 obtain⟨i,j,m,n,C,o,D,E⟩:=r.ok
 have K:dU j (fV b.aS)=Y:=by
  cases F:dU j (fV b.aS)with
  |none=>rfl
  | some G=>
    obtain⟨p,q,H,_⟩:=(D _ _).1 F
    have:=tp B p q
    rw[(HX k (A.ok.ok p q).dS l.dS).2 H]at this;grind
 unfold Fs Jn
 refine .eq (Lc (l.dS.Mu k (by decide)).1) ?_
 refine .eq (a:=(T,cS d i (Cell.qw (fB j (fV b.aS) b.ct)))) ?_ (.ret ?_)
 ·simp_all
 have I:e≠i:=λJ=>by
  subst J;have:=G4 m;rw[uR n]at this;cases this
 refine⟨⟨i,_,by rw[O2 (mN I.symm)];exact m,W2 (uR n),.inl C,.inl o,λL G=>?_,E.put⟩,.up o⟩
 rw[vQ]
 grind
def arG{m:aU}(K:ch m){f:aL Cell}{h:Nat}{n:R aJ}{j:Nat->Prop}(e:oS m f h n j)(aB:∀a,j a->a∈dy f)(ah:ix m 1 n){b:aJ}(L:kp m 1 b)(ai:dM n b.aS=Y)
 {p:R (ck aW 4×Ref)} (E:kX f h=w p) {q:Nat} (M:dU p (iF (fV b.aS))=w (w q)):
 cB (B7 f (w q) (al b.aS.cp 0).b2 (al b.aS.cp 0).eT b.ct) (λg=>oS m g.2 h (n++[b]) (ny j f g.2)∧eK f g.2 j):=by
 obtain⟨aC,N,aj,F,aD,ak,am⟩:=e.ok
 rw[E]at N;cases N
 have G:=Hy K L.dS
 obtain⟨d,O,i,P,Q,an⟩:=F _ _ M
 cases i
 obtain⟨k,aQ⟩:=mE G.pre.1
 have ao:k<=32:=by have:=G.pre.2;omega
 have aa:=PF G
 have dt:fq (al b.aS.cp 0).b2 k=k2 b.aS:=by simp_all[k2,aQ]
 have ab:O (k2 b.aS)=Y:=by
  cases ap:O (k2 b.aS)with
  |none=>rfl
  | some k=>
    obtain⟨r,l,A,aq,_⟩:=(an _ _).1 ap
    have:=tp ai r l
    rw[(DN K (ah.ok.ok r l).dS L.dS).2 ⟨A,aq⟩]at this;grind
 rw[aQ]at aa⊢
 refine(apg P ao aa b.ct (by simp_all)).mono λg aF=>?_
 obtain⟨_,ac,C,ar⟩:=aF
 rw[dt]at ac
 have au:∀a,Own f q a->a≠h:=λa av i=>by
  have:=oR E;rw[<-i]at this;rcases P.Lx av with⟨r,l⟩|⟨r,l⟩ <;> rw[l]at this <;> cases this
 have aE:pat g.2 h=pat f h:=C.rest h (ji (oR E)) λe=>au h e o
 have aw:∀c d,c≠iF (fV b.aS)->dU p c=w (w d)->∃B,kh f d B∧kh g.2 d B∧(∀a,Own f d a->j a)∧(∀a,Own g.2 d a↔Own f d a)∧∀H k,B H=w k↔∃b∈n,iF (fV b.aS)=c∧k2 b.aS=H∧b.ct=k:=λc d I aF=>by
  obtain⟨aG,B,i,J,ad,ae⟩:=F c _ aF;cases i;obtain⟨aH,aI⟩:=J.congr (dt:=g.2) λa e=>C.rest a (J.C6 e) λD=>ak _ _ _ _ M aF I.symm a D e;grind
 have aK:∀a,Own g.2 q a->ny j f g.2 a:=λa e=>by
  rcases ar a e with A|A
  ·exact .inl (Q a A)
  exact .inr ⟨A,ac.C6 e⟩
 refine⟨⟨p,by grind[Ko],.inl aj,λc ax af=>?_,λc ag r l=>?_,λc ay aM aN aO aP I a aR aS=>?_,am⟩,⟨C.keys,λa e ab=>C.rest a e λD=>ab (Q a D)⟩⟩
 ·by_cases ag:c=iF (fV b.aS)
  ·grind
  obtain⟨d,B,i,_⟩:=F c ax af
  subst i
  obtain⟨az,J,ad,ae,aA,aT⟩:=aw c d ag af
  refine⟨d,az,rfl,ad,λa e=>.inl (ae a ((aA a).1 e)),λH aV=>?_⟩
  grind
 ·grind
 
 have aX:∀c d,c≠iF (fV b.aS)->dU p c=w (w d)->∀a,Own g.2 q a->¬Own g.2 d a:=λc d I aF a e D=>by
  grind
 by_cases aY:c=iF (fV b.aS)
 ·grind
 by_cases aZ:ay=iF (fV b.aS)
 ·grind
 grind
def afY{g:Nat->Prop}{d c e:aL Cell}{a:Nat}(h:∀a,a∈dy d->a∈dy c)(i:∀a,a∈dy c->a∈dy e)(b:ny (ny g d c) c e a):ny g d e a:=by
 rcases b with(b|⟨b,f⟩)|⟨b,f⟩
 ·exact .inl b
 ·exact .inr ⟨b,i a f⟩
 exact .inr ⟨λj=>b (h a j),f⟩
def oS.mono{b:aU}{c:aL Cell}{a:Nat}{d:R aJ}{e f:Nat->Prop}(h:oS b c a d e)(i:∀g,e g->f g):oS b c a d f:=by
 obtain⟨j,k,l,p,m,n,o⟩:=h.ok;exact⟨j,k,i a l,λq r aF=>by grind,m,n,o⟩
def eK.grow{c d f:aL Cell}{e:Nat->Prop}(g:eK c d e)(b:eK d f (ny e c d)):eK c f e:=
 g.trans b λi h a=>a.elim (λa=>a) λa=>absurd h a.1
def arH{E:aU}{c:aL Cell}{d:Nat}{F:R aJ}{own:Nat->Prop}(aa:oS E c d F own)
 {e:R (ck aW 4×Ref)} (G:kX c d=w e) {f:ck aW 4} (ab:dU e f=Y) {b:Nat} (p:b∉dy c) {z:h6} (ac:z.iB=32) (aF:z.fQ=Y):
 oS E (cS ((b,Cell.lz z)::c) d (.nz (fB e f (w b)))) d F (ny own c (cS ((b,Cell.lz z)::c) d (.nz (fB e f (w b)))))∧eK c (cS ((b,Cell.lz z)::c) d (.nz (fB e f (w b)))) own∧
  kX (cS ((b,Cell.lz z)::c) d (.nz (fB e f (w b)))) d=w (fB e f (w b)):=by
 obtain⟨aB,H,I,J,ad,aC,ae⟩:=aa.ok
 rw[G]at H;cases H
 have r:=oR G
 have af:=Gy p r
 have ag:pat ((b,Cell.lz z)::c) d=w (.nz e):=by simp_all[nr,bU]
 generalize A:cS ((b,Cell.lz z)::c) d (.nz (fB e f (w b)))=g
 have K:kX g d=w (fB e f (w b)):=by rw[<-A];exact W3 ag
 have L:pat g b=w (.lz z):=by rw[<-A,mN af.symm,nr,bT o]
 have ah:∀a,a≠d->a≠b->pat g a=pat c a:=λa ai aj=>by rw[<-A,mN ai.symm,nr,bU aj.symm]
 have ak:eK c g own:=by
  rw[<-A];exact(eK.mk' (own:=own) p).trans (eK.up I) λa _ k=>k
 have al:gK g b=w z:=vR.2 L
 have am:kh g b (λ_=>Y):=⟨z,al,ac,by rw[aF];exact⟨λq M k=>(by simp_all[iR]),λq aD M k _=>(by simp_all[iR]),λq M k=>(by simp_all[iR])⟩,λq=>by rw[aF];exact nY iR⟩
 have an:∀a,Own g b a->a=b:=λa h=>by
  rcases h with k|⟨N,q,O,aE⟩
  ·exact k
  simp_all[aF,iR]
 have P:∀i l,kh c i l->kh g i l∧∀a,Own g i a↔Own c i a:=λi l D=>D.congr λa h=>by
  refine ah a (λj=>?_) λj=>p (by rw[<-j];exact D.C6 h);rw[<-j]at r;rcases D.Lx h with⟨N,Q⟩|⟨N,Q⟩ <;> rw[Q]at r <;> cases r
 refine⟨⟨_,K,.inl I,λm ao n=>?_,λm n=>?_,λaG aH aI aK ap aq aM a aN aO=>?_,ae.put⟩,ak,K⟩
 ·rw[vQ]at n
  by_cases j:m=f
  ·rw[bT j]at n;cases n
   exact⟨b,_,rfl,am,λa h=>by rw[an a h];exact .inr ⟨p,ji L⟩,λq aP=>⟨λk=>(by cases k),λ⟨ar,au,O,_⟩=>absurd (O.trans j) (ad f ab ar au)⟩⟩
  rw[bU j]at n
  obtain⟨i,l,rfl,B,av,aw⟩:=J m ao n
  obtain⟨ax,ay⟩:=P i l B
  exact⟨i,l,rfl,ax,λa h=>.inl (av a ((ay a).1 h)),aw⟩
 ·rw[vQ]at n
  grind
 rw[vQ]at ap aq
 have aQ:∀m C,dU e m=w (w C)->∀a,a=b->¬Own g C a:=λm C az a j h=>by
  obtain⟨i,l,aA,B,_⟩:=J m _ az;cases aA;have:=(P C l B).2 a |>.1 h;exact p (by rw[<-j];exact B.C6 this)
 grind
def apl{e:aU}(D:ch e){aC:aL Cell}{f:Nat}{h:R aJ}{g:Nat->Prop}(a:oS e aC f h g)(G:∀d,g d->d∈dy aC)(H:ix e 1 h){b:aJ}(E:kp e 1 b)(I:dM h b.aS=Y):
 cB (E0 aC ⟨0,32,⟨w f⟩⟩ b) (λr=>oS e r f (h++[b]) (ny g aC r)∧eK aC r g):=by
 obtain⟨i,j,Q,J,aa,ab,_⟩:=a.ok
 unfold E0
 refine .eq (P9 D E.dS _) (.eq o (.eq j (.eq o ?_)))
 simp only
 refine .bind (P:=λk=>oS e k f h (ny g aC k)∧eK aC k g∧∃A m,kX k f=w A∧dU A (iF (fV b.aS))=w (w m)) (.cond (λK=>?_) λK=>.ret ?_) λk L=>?_
 ·have M:dU i (iF (fV b.aS))=Y:=by
   cases B:dU i (iF (fV b.aS))with
   |none=>rfl
   | some n=>
     grind
  unfold Kr
  refine .bind (P:=λn=> ∃c,c∉dy aC∧n=((w c:Ref),(c,Cell.lz ({(V:h6)with iB:=32}))::aC)) (.eq o (.mk λc p=>.ret ⟨c,p,rfl⟩)) λac N=>?_
  obtain⟨c,p,rfl⟩:=N
  have O:kX ((c,Cell.lz ({(V:h6)with iB:=32}))::aC) f=w i:=(Ko (aC:=aC) (by rw[nr,bU (Gy p (oR j))])).trans j
  obtain⟨C,l,q⟩:=arH a j M p (z:= {(V:h6)with iB:=32}) o o
  refine .eq O (.eq o (.ret ⟨C,l,_,c,q,by rw[vQ,bT o]⟩))
 ·cases B:dU i (iF (fV b.aS))with
  |none=>grind
  | some n=>
    obtain⟨m,_,rfl,_⟩:=J _ _ B
    exact⟨a.mono λd a=>.inl a,.refl,i,m,j,B⟩
 obtain⟨C,l,A,m,q,F⟩:=L
 refine .eq q (.eq o ?_)
 simp only[F]
 refine .bind (arG D C (λd a=>a.elim (λa=>l.keys d (G d a)) λa=>a.2) H E I q F) λn aF=>.ret ?_
 exact⟨aF.1.mono λd a=>afY l.keys aF.2.keys a,l.grow aF.2⟩
def W4{b:aL Cell}{a:Nat}{f:Cell}{c:fT}{d:aw Nat}{e:Nat}(g:pat b a=w f):ru (cS b a (.u6 c d e)) a=w (c,d,e):=by simp_all[ru,ss]
def apm{a:aU}(l:ch a){b:Nat}(m:b<4){d:aL Cell}{f:Nat}{c:R aJ}{g:Nat->Prop}(n:C8 a b d f c g)(p:ix a b c){e:aJ}(q:kp a b e)(r:jk c e.ct=U)(A:u c<900):
 cB (Fu d ⟨w f⟩ e) (λh=>C8 a b h f (c++[e]) (ny g d h)∧eK d h g):=by
 obtain⟨B,C,i,j⟩:=n.ok
 unfold Fu
 refine .eq o (.eq i (.eq (alZ l m p.ok q A) (.any λk=>.eq o (.ret ?_))))
 rw[r]
 exact⟨⟨k.1,k.2,W4 (Ao i),.inl j⟩,.up j⟩
def apn{e:aU}(j:ch e){f:Nat}(o:f<4){g:aL Cell}{k:jF}{b:R aJ}{i:Nat->Prop}(a:tD e f g k b i)(p:∀c,i c->c∈dy g)(l:ix e f b){h:aJ}(m:kp e f h)(n:dM b h.aS=Y)(q:jk b h.ct=U)(r:u b<900):
 cB (N1 g k h) (λd=>tD e f d k (b++[h]) (ny i g d)∧eK g d i):=by
 rcases a with⟨rfl,c,rfl,a⟩|⟨rfl,A,rfl,a⟩|⟨B,c,rfl,a⟩
 ·exact cB.of ((arF j a l m n).mono λd aF=>⟨.inl ⟨rfl,c,rfl,aF.1⟩,aF.2⟩)
 ·exact(apl j a p l m n).mono λd aF=>⟨.inr (.inl ⟨rfl,A,rfl,aF.1⟩),aF.2⟩
 exact(apm j o a l m q r).mono λd aF=>⟨.inr (.inr ⟨B,c,rfl,aF.1⟩),aF.2⟩
def PG{au d:aB}[DecidableEq au]:∀{e:R (au×d)} {b:au} {c:d},dU e b=w c->(b,c)∈e
 |[],_,_,a=>by cases a
 | (f,g)::h,b,c,a=>by
   unfold dU at a;split at a
   ·simp_all
   exact gO _ (PG a)
def X2{au e:aB}[DecidableEq au]:∀{b:R (au×e)} {c:au} {d:e},b.Pairwise (λf g=>f.1≠g.1)->(c,d)∈b->dU b c=w d
 |[],_,_,_,a=>by cases a
 | (k,l)::m,c,d,aQ,a=>by
   obtain⟨h,i⟩:=lh.1 aQ;unfold dU;rcases fj.1 a with a|a
   ·simp_all
   rw[bU (λj=>h _ a j.symm),X2 i a]
def W5{au e:aB}[DecidableEq au]:∀{c:R (au×e)} {a:au} {d:e},dU c a=Y->fB c a d=c++[(a,d)]
 |[],_,_,_=>rfl
 | (f,h)::i,a,d,b=>by
   unfold dU at b;split at b
   ·cases b
   rename_i g;show(if a=f then _ else _)=_;rw[bU g,W5 b];rfl
def wO(b:R (Int×aJ))(c:R aJ):Prop:=b.Perm (c.map λa=>(a.ct,a))
def wO.get{g:aU}{h:Nat}{b:R (Int×aJ)}{c:R aJ}(f:wO b c)(i:lS g h c)(d:Int)(a:aJ):dU b d=w a↔a∈c∧a.ct=d:=by
 have aq:b.Pairwise (λj k=>j.1≠k.1):=by
  refine(f.pairwise_iff λe=>Cm e).2 ?_;rw[Bv];exact i.num.imp λe=>e
 have l:(d,a)∈b↔a∈c∧a.ct=d:=by
  rw[f.mem_iff,lk];simp_all
 rw[<-l];exact⟨PG,X2 aq⟩
def wO.no{h:aU}{i:Nat}{e:R (Int×aJ)}{c:R aJ}(f:wO e c)(g:lS h i c)(a:Int):(dU e a).isSome=jk c a:=by
 rw[kW,Bd];unfold jk;rw[oA];constructor
 ·rintro ⟨b,d⟩;obtain⟨k,j⟩:=(f.get g a b).1 d;grind
 rintro ⟨b,d,j⟩;exact⟨b,(f.get g a b).2 ⟨d,by simp_all⟩⟩
structure ko(s:aU)(k:Nat)(aC:aL Cell)(p:Nat)(l:List aJ)(own:Nat->Prop):Prop where
 fW:ix s k l
 cell:∃f m em,jc aC p=w ⟨qL k,(MS s k:Int),f,⟨w m⟩⟩∧lL aC m=w em∧own p∧own m∧wO em l∧tD s k aC f l (λq=>own q∧q≠m∧q≠p)
 lD:∀q,own q->q∈dy aC
def ko.G5{e:aU}{f:Nat}{g c:aL Cell}{h:Nat}{i:R aJ}{b:Nat->Prop}(j:ko e f g h i b)(k:∀a,b a->a∈dy c)(l:∀a,b a->pat c a=pat g a):ko e f c h i b:=by
 obtain⟨m,n,o,B,C,p,q,r,A⟩:=j.cell;exact⟨j.fW,⟨m,n,o,by grind[agF],by grind[agG],p,q,r,A.congr (λa _ d=>d) λa d=>l a d.1⟩,k⟩
def ko.congr{d:aU}{e:Nat}{b dt:aL Cell}{f:Nat}{g:R aJ}{c:Nat->Prop}(h:ko d e b f g c)(i:∀a,a∈dy b->a∈dy dt)(j:∀a,c a->pat dt a=pat b a):ko d e dt f g c:=h.G5 (λa k=>i a (h.lD a k)) j
def ko.kS{c:aU}{d:Nat}{e f:aL Cell}{g:Nat}{h:R aJ}{b i:Nat->Prop}(j:ko c d e g h b)(k:eK e f i)(aq:∀a,b a->¬i a):ko c d f g h b:=
 j.congr k.keys λa l=>k.rest a (j.lD a l) (aq a l)
def entry_eq{e:aU}(l:ch e){f:Nat}(m:f<4){g:aL Cell}{h:Nat}{i:R aJ}{n:Nat->Prop}(c:ko e f g h i n){b:aw aJ}(p:∀a,b=w a->a∈i):Fh g (w h) (iy b).1 (iy b).2=w (w0 b):=by
 obtain⟨C,D,j,q,r,E,F,A,G⟩:=c.cell;refine aM.get ?_;unfold Fh;cases b with
 |none=>exact .cond (λ_=>.ret o) λd=>by cases d
 | some a=>
   have k:=p a o
   refine .cond (λd=>by cases d) λ_=>.eq rfl (.eq q (.eq rfl (.eq r (.eq rfl ?_))))
   have B:dU j a.ct=w a:=(A.get c.fW.ok _ _).2 ⟨k,rfl⟩
   show aM (b3 (uv ((dU j a.ct).getD V)) _) _
   rw[B]
   exact .eq (G2 l m (c.fW.ok.ok a k)) (.ret o)
def Qa{a:aU}(e:ch a){b:Nat}(f:b<4){g:aL Cell}{h:Nat}{i:R aJ}{j:Nat->Prop}(c:ko a b g h i j){d:bg}(k:fu a b d):zy g (w h) d=w (w0 (dM i d)):=by
 obtain⟨p,q,r,l,A,B,C,D,m⟩:=c.cell;refine aM.get ?_;unfold zy;refine .cond (λn=>by cases n) λ_=>.eq rfl (.eq l (.eq (aaa e f m c.fW k) (.eq (entry_eq e f c λE o=>(mP o).1) (.ret rfl))))
def al2{d:aU}{e:Nat}{b:aL Cell}{c:Nat}{a:R aJ}{f:Nat->Prop}(g:ko d e b c a f):FA b (w c)=w (u a:Int):=by
 obtain⟨j,k,h,l,m,n,o,i,p⟩:=g.cell;have q:u h=u a:=by rw[i.length_eq,lY]
 simp_all[FA]
def ko.mono{g:aU}{h:Nat}{b:aL Cell}{c:Nat}{i:R aJ}{j d:Nat->Prop}(k:ko g h b c i j)(e:∀a,j a->d a)(m:∀a,d a->a∈dy b):ko g h b c i d:=by
 obtain⟨n,l,o,p,q,r,A,B,C⟩:=k.cell;exact⟨k.fW,⟨n,l,o,p,q,e c r,e l A,B,C.congr (λa _ f=>⟨e a f.1,f.2⟩) λa f=>rfl⟩,m⟩
def ix.nil{a:aU}{b:Nat}:ix a b []:=⟨⟨λc d=>by grind,.nil,by simp⟩,.nil⟩
def rJ:Nat->Prop:=λ_=>False
def al3{k:aU}(a:ch k){e:Nat}(L:e<4)(f:aL Cell):cB (Cv f k ((e:Int)+1)) (λc=> ∃i,c.1=w i∧ko k e c.2 i [] (ny rJ f c.2)∧eK f c.2 rJ):=by
 refine(aph a L f).mono λc aF=>?_;obtain⟨i,l,aF⟩:=aF;obtain⟨g,r,A,B,C,D,E,F,G,H,M,N,O,P⟩:=aF.cell;obtain⟨ah,aP,Q,ai⟩:=g;simp only at B C D F G H;subst B C D;have R:=tu E;have aa:=An A;refine⟨i,l,⟨ix.nil,⟨Q,r,[],A,E,.inr ⟨M,ji aa⟩,.inr ⟨N,ji R⟩,NW _,?_⟩,λb m=>m.elim (λa=>a.elim) λa=>a.2⟩,⟨O,λb m _=>P b m⟩⟩;have j:∀b g,pat c.2 b=w g->(∀n,g≠ .lv n)->(∀n,g≠ .sG n)->b∉dy f->ny rJ f c.2 b∧b≠r∧b≠i:=λb g ab aj ak aQ=>
  ⟨.inr ⟨aQ,ji ab⟩,λl=>by grind,λl=>by grind⟩
 have:e=0∨e=1∨2<=e:=by omega
 rcases this with rfl|rfl|I
 ·obtain⟨b,J,rfl,d,h,ac,ad⟩:=F o;exact .inl ⟨rfl,b,rfl,⟨J,[],d,h,j b _ (G4 d) (λ_ a=>by cases a) (λ_ a=>by cases a) ac,j J _ (uR h) (λ_ a=>by cases a) (λ_ a=>by cases a) ad,λp al=>⟨λa=>(by cases a),λ⟨ae,q,_⟩=>(by cases q)⟩,.nil⟩⟩
 ·obtain⟨K,rfl,d,h⟩:=G o;exact .inr (.inl ⟨rfl,K,rfl,⟨[],d,j K _ (oR d) (λ_ a=>by cases a) (λ_ a=>by cases a) h,λp c a=>(by cases a),λp _ ae q=>(by cases q),λp am an ao a=>(by cases a),.nil⟩⟩)
 obtain⟨b,af,ag,rfl,d,h⟩:=H I;exact .inr (.inr ⟨I,b,rfl,⟨af,ag,d,j b _ (Ao d) (λ_ a=>by cases a) (λ_ a=>by cases a) h⟩⟩)
def ix.snoc{s:aU}{k:Nat}{l:R aJ}(h:ix s k l){i:aJ}(pg:kp s k i)(pW:dM l i.aS=Y)(aQ:jk l i.ct=U)(jq:u l<900):ix s k (l++[i])where
 ok:=h.ok.snoc pg aQ jq
 key:=by
  rw[xd];exact⟨h.key,by simp,λa sU c nH=>by rw[mF.1 nH];exact tp pW a sU⟩
def ajb{b:aL Cell}{a:Nat}{d:Cell}{c:R (Int×aJ)}(e:pat b a=w d):lL (cS b a (.lv c)) a=w c:=by simp_all[lL,ss]
def YI(a:aw aJ):(iy a).2=a.isSome:=by cases a <;> rfl
def pd(a:R aJ)(b:aJ):aI:=(dM a b.aS).isNone&& !jk a b.ct
def added(a:R aJ)(b:aJ):R aJ:=if pd a b=T then a++[b]else a
def QI{j:aU}(C:ch j){e:Nat}(D:e<4){k:aL Cell}{i:Nat}{f:R aJ}{own:Nat->Prop}(g:ko j e k i f own){b:aJ}(n:kp j e b)(I:u f<900):
 cB (zD k (w i) b) (λp=>p.1=pd f b∧ko j e p.2 i (added f b) (ny own k p.2)∧eK k p.2 own):=by
 obtain⟨q,d,l,r,E,Q,J,K,L⟩:=g.cell
 have M:=tu E
 have aa:=An r
 have ag:i≠d:=λA=>by simp_all
 have N:=K.no g.fW.ok b.ct
 unfold zD
 refine .cond (λh=>by cases h) λ_=>.eq rfl (.eq r (.eq rfl (.eq E (.eq rfl (.eq rfl (.eq r (.eq (aaa C D L g.fW n.dS) (.cond (λh=>.ret ?_) λh=>?_))))))))
 ·rw[N,YI,qV]at h
  have m:pd f b=U:=by
   unfold pd;rcases h with h|h
   ·cases F:dM f b.aS with
    |none=>simp_all
    |some _=>rfl
   simp_all
  refine⟨m.symm,?_,.refl⟩
  unfold added
  rw[m]
  exact g.mono (λc a=>.inl a) λc a=>a.elim (g.lD c) λa=>absurd a.2 a.1
 rw[N,YI,Em]at h
 obtain⟨ah,O⟩:=h
 have F:dM f b.aS=Y:=by
  simp_all
 have m:pd f b=T:=by simp_all[pd]
 have ab:dU l b.ct=Y:=by
  simp_all
 have G:pat (cS k d (Cell.lv (fB l b.ct b))) i=w (.sG ⟨qL e,(MS j e:Int),q,⟨w d⟩⟩):=by grind[mN]
 have ac:tD j e (cS k d (Cell.lv (fB l b.ct b))) q f (λc=>own c∧c≠d∧c≠i):=L.congr (λc _ a=>a) λc a=>mN a.2.1.symm
 refine .eq o (.eq r (.eq (G2 C D n) (.eq o (.eq E (.eq o (.eq (by unfold jc;rw[G]) (.bind (apn C D ac (λc a=>by rw[qo];exact g.lD c a.1) g.fW n F O I) λP aF=>.ret ⟨m.symm,?_,?_⟩)))))))
 ·obtain⟨ad,H⟩:=aF
  have ai:pat P i=w (.sG ⟨qL e,(MS j e:Int),q,⟨w d⟩⟩):=by rw[H.rest i (ji G) (λa=>a.2.2 o)];exact G
  have ae:pat P d=w (.lv (fB l b.ct b)):=by
   have:pat (cS k d (Cell.lv (fB l b.ct b))) d=w (.lv (fB l b.ct b)):=ss M;rw[H.rest d (ji this) (λa=>a.2.1 o)];omega
  unfold added
  rw[bT m]
  refine⟨g.fW.snoc n F O I,⟨q,d,_,by simp_all[jc],by unfold lL;rw[ae],.inl Q,.inl J,?_,ad.congr (λc _ a=>?_) λc _=>rfl⟩,λc a=>?_⟩
  ·unfold wO
   rw[W5 ab,pt]
   exact List.Perm.append_right _ K
  ·rcases a with a|⟨B,af⟩
   ·exact⟨.inl a.1,a.2⟩
   rw[qo]at B
   exact⟨.inr ⟨B,af⟩,λA=>B (A▸ji M),λA=>B (A▸ji aa)⟩
  rcases a with a|a
  ·exact H.keys c (by rw[qo];exact g.lD c a)
  simp_all
 exact(eK.up (own:=own) J).trans aF.2 λc _ a=>a.1
def Qb{f A:aL Cell}{i:Ref}{j:R aI}{b:aI}{k M:Nat}{l N:fJ}(B:rp f i)(m:dD f i j=w k)(n:dp f k=w l)(C:cu l.eI (gh b)=w M)(D:dp f M=w N)(E:∀a,cu N.eI (gh a)=Y)
 (F:dp A k=w {l with eI:=fC l.eI (gh b) Y}) (G:∀a,a≠k->dp A a=dp f a):
 ∀(H c:R aI) (e:Nat),dD f i c=w e->c≠j++[b]->dD A (w e) H=if c++H=j++[b]then Y else dD f (w e) H
 | [],c,e,h,O=>by
   rw[qe,bU O];rfl
 | a::g,c,e,h,O=>by
   obtain⟨P,p⟩:=B.reads c e h;by_cases od:e=k
   ·subst od;have Q:=B.inj c j e h m;subst Q;rw[n]at p;cases p;rw[iS F,iS n];simp only;have aa:gh b<2:=by cases b <;> decide
    rw[nn _ _ aa];by_cases I:a=b
    ·subst I;rw[bT o,C,iR];by_cases J:g=[]
     ·subst J;rw[bT o]
     have q: ¬c++a::g=c++[a]:=λd=>J (by have:=SV d;simpa using this);rw[bU q];cases g with
     |nil=>exact absurd o J
     |cons ae K=>rw[iS D,E,iR]
    have ab: ¬gh a=gh b:=λd=>I (by cases a <;> cases b <;> first|rfl|cases d);have q:∀K,¬c++a::K=c++[b]:=λK d=>I (by have:=SV d;simpa using (List.cons.inj this).1);rw[bU ab,bU (q g)];cases d:cu l.eI (gh a)with
    |none=>rw[iR,iR]
    | some r=>
      have L:dD f i (c++[a])=w r:=by rw[oP,h,iS n,d,so]
      rw[Qb B m n C D E F G g (c++[a]) r L (q []),mI,bY,bU (q g)]
   have ac:dp A e=w P:=by rw[G e od];exact p
   rw[iS ac,iS p];have ad:c++[a]≠j++[b]:=λd=>by
    have:=S3 d o;subst this;rw[h]at m;cases m;exact od o
   cases d:cu P.eI (gh a)with
   |none=>rw[iR,iR];split <;> rfl
   | some r=>
     have L:dD f i (c++[a])=w r:=by rw[oP,h,iS p,d,so]
     rw[Qb B m n C D E F G g (c++[a]) r L ad,mI,bY]
def cut{g dt:aL Cell}{e:Nat}{j:R aI}{b:aI}{h q:Nat}{m r:fJ}(k:rp g (w e))(D:dD g (w e) j=w h)(n:dp g h=w m)(E:cu m.eI (gh b)=w q)(F:dp g q=w r)(I:∀c,cu r.eI (gh c)=Y)(J:r.ib=U)
 (A:dp dt h=w {m with eI:=fC m.eI (gh b) Y}) (B:∀c,c≠h->dp dt c=dp g c):
 rp dt (w e)∧(∀a,dD dt (w e) a=if a=j++[b]then Y else dD g (w e) a)∧∀a,cont dt (w e) a=cont g (w e) a:=by
 have i:∀a,dD dt (w e) a=if a=j++[b]then Y else dD g (w e) a:=λa=>Qb k D n E F I A B a [] e o (by simp)
 have K:dD g (w e) (j++[b])=w q:=by rw[oP,D,iS n,E,so]
 refine⟨⟨λa c d=>?_,λa L c f p=>?_,λa c d=>?_⟩,i,λa=>?_⟩
 ·rw[i]at d
  split at d
  ·cases d
  obtain⟨G,f⟩:=k.reads a c d
  by_cases l:c=h
  ·subst l;exact⟨_,A⟩
  exact⟨G,by rw[B c l];exact f⟩
 ·rw[i]at f p
  split at f <;> split at p
  ·cases f
  ·cases f
  ·cases p
  exact k.inj a L c f p
 ·rw[i]at d
  split at d
  ·cases d
  exact k.dep a c d
 by_cases l:a=j++[b]
 ·subst l
  rw[nY (by rw[i,bT o]),ml K F,J];rfl
 have C:dD dt (w e) a=dD g (w e) a:=by rw[i,bU l]
 cases d:dD g (w e) a with
 |none=>rw[nY d,nY (C.trans d)]
 | some c=>
   obtain⟨G,f⟩:=k.reads a c d
   by_cases H:c=h
   ·subst H
    rw[n]at f;cases f
    rw[ml d n,ml (C.trans d) A]
   rw[ml d f,ml (C.trans d) (by rw[B c H];exact f)]
structure RW(nG aC:aL Cell)(t:Nat)(g:List Bool->Option Int)(r:Nat):Prop where
 cell:∃c,gK aC t=w c∧c.iB=32∧c.fQ=w r
 tree:rp aC (w r)
 cont:∀lf,cont aC (w r) lf=g lf
 keeps:eK nG aC (Own nG t)
 own:∀lf q,dD aC (w r) lf=w q->Own nG t q
def empty_eq{d:aL Cell}{b:Nat}{a:fJ}(e:dp d b=w a):BX d (w b)=w (!a.ib&&S (a.eI=V)):=by
 refine aM.get ?_;unfold BX;refine .eq o (.eq e ?_);refine .bs (P:=λc=>c=b) (λ_=>⟨b,rfl,rfl⟩) λg h=>?_;refine .bs (P:=λc=>c=a) (λf=>⟨a,by simp_all,rfl⟩) λi f=>.ret ?_;grind
theorem ah9(b:aW)(a:Nat):u (fq b a)=a:=by simp_all[fq]
def aia(a:aW){b c:Nat}(d:b<=c):fq a c=fq a b++(fq a c).drop b:=by
 have:fq a b=(fq a c).take b:=by unfold fq;rw[<-cq,cm];simp_all
 simp_all
def Ld{b:aL Cell}{c:Ref}{a:aW}{d e:Nat}(g:d<=e){h:Nat}(i:dD b c (fq a e)=w h):∃f,dD b c (fq a d)=w f:=by
 rw[aia a g,oP]at i;cases j:dD b c (fq a d)with
 |none=>simp_all[iR]
 |some f=>simp_all
def aib{i:aL Cell}{j:Nat}{E:R aI->aw Int}(q:kh i j E){c:Nat}(aQ:c<=32){g:aW}(aS:∀f,f<128->cY g f=T->lead 32 c f=T){aT:Int}(aU:E (fq g c)=w aT):
 aM (BV i (w j) g c) (λl=>l.1=T∧kh l.2 j (λe=>if e=fq g c then Y else E e)∧eK i l.2 (Own i j)∧∀h,Own l.2 j h->Own i j h):=by
 obtain⟨F,n,av,O,aX⟩:=q.ok
 have aY:∃p,dD i F.fQ (fq g c)=w p:=by
  cases Q:dD i F.fQ (fq g c)with
  |none=>grind[nY]
  |some p=>simp_all
 obtain⟨B,C⟩:=aY
 have aZ:∃l,F.fQ=w l:=by
  obtain⟨h,k⟩:=Ld (zC c) C;simp_all[ahe,so]
 obtain⟨l,aF⟩:=aZ
 rw[aF]at O aX C
 unfold BV
 refine .eq (YG q aQ aS) ?_
 rw[aU]
 refine .cond (λn=>by cases n) λ_=>.eq rfl (.eq n (.eq rfl ?_))
 rw[aF]
 show aM (b3 (vB i (c:Int) g (w j) _ _) _) _
 refine aM.bind (P:=λQ:(R Int×R Ref)⊕Empty=> ∃A m,Q=.inl (A,m)∧u m=c+1∧u A=c∧(∀f,f<=c->al m f=dD i (w l) (fq g f))∧∀f,f<c->al A f=((gh (cY g (31-f)):Nat):Int))
  (Z9 n av g aQ (λd af=> ∃A m,af=(A,m)∧u m=d+1∧u A=d∧(∀f,f<=d->al m f=dD i (w l) (fq g f))∧∀f,f<d->al A f=((gh (cY g (31-f)):Nat):Int)) ⟨[],[w l],rfl,rfl,rfl,λf M=>?_,λf M=>by omega⟩ (λd af a0 H=>?_) (λaf H=>?_)) λQ a1=>?_
 ·have:f=0:=by omega
  subst this
  rfl
 ·obtain⟨A,m,rfl,a2,a3,ag,ax⟩:=H
  obtain⟨h,k⟩:=Ld (show d<=c by omega) C
  obtain⟨I,aq⟩:=O.reads _ _ k
  have a4:aV ((u m:Int)-1)=(d:Int):=by grind[eU]
  simp only[a4]
  have ah:gh (cY g (31-d))<2:=by cases cY g (31-d) <;> decide
  refine .idx o (by omega) (.eq (a:=h) (by simp_all) (.idx o ah (.eq aq (.eq (eS _ _ (by grind) (by omega)) (.eq (eS _ _ (by grind) (by omega)) (.ret ⟨_,_,rfl,by simp_all,by simp_all,λf M=>?_,λf M=>?_⟩))))))
  ·rw[CE]
   by_cases br:f=u m
   ·simp_all[bT,Kv,oP,iS,so]
   grind
  rw[CE]
  grind
 ·simp_all
 obtain⟨A,m,rfl,a2,a3,ag,ax⟩:=a1
 simp only[Z]
 obtain⟨I,aq⟩:=O.reads _ _ C
 have a5:=sk.1 aq
 have ay:dp (cS i B (.iK {I with ib:=U})) B=w {I with ib:=U}:=CK a5
 refine .idx o (by omega) (.eq (a:=B) (by simp_all) (.eq aq (.eq o (.eq ay (.eq o ?_)))))
 generalize az:cS (cS i B (.iK {I with ib:=U})) B (.iK {I with ib:=U,lO:=0})=J
 have bs:=L2 aq n
 have aA:dp J B=w {I with ib:=U,lO:=0}:=by rw[<-az];exact CK (sk.1 ay)
 have aB:∀h,h≠B->pat J h=pat i h:=λh k=>by grind[mN]
 obtain⟨a6,bt⟩:=aa9 O C aq aA o λh k=>zS (aB h k)
 have bu:=GF aq aA o λh k=>zS (aB h k)
 have a7:gK J j=w F:=by grind[Kn]
 have aC:Own i j B:=.inr ⟨F,_,n,by rw[aF];exact C⟩
 have a8:eK i J (Own i j):=by
  rw[<-az];exact(eK.up (own:=Own i j) aC).trans (eK.up aC) λh _ q=>q
 have a9:RW i J j (λe=>if e=fq g c then Y else E e) l:=⟨⟨F,a7,av,aF⟩,a6,λe=>by
  simp_all,a8,λe h k=>.inr ⟨F,e,n,by simp_all⟩⟩
 have a_:aV ((c:Int)-1)=(c:Int)-1:=eU (by omega) (by omega)
 rw[a_]
 refine aM.bind (P:=λN=>RW i N.2.2 j (λe=>if e=fq g c then Y else E e) l) (aM.gC c (λd ai=> ∃k,ai=((c:Int)-1-(d:Int),k)∧RW i k j (λe=>if e=fq g c then Y else E e) l∧∀f,f+d<=c->dD k (w l) (fq g f)=al m f) (by omega) ⟨J,by simp,a9,λf M=>by simp_all⟩ (λd ai a0 H=>?_) (λai H=>?_)) λN D=>?_
 ·obtain⟨k,rfl,r,aD⟩:=H
  have aE:(c:Int)-1-(d:Int)=((c-1-d:Nat):Int):=by omega
  have N:aV ((c:Int)-1-(d:Int)+1)=((c-d:Nat):Int):=by grind[eU]
  have ba:aV ((c:Int)-1-(d:Int)-1)=(c:Int)-1-((d+1:Nat):Int):=by grind[eU]
  simp only[N,ba]
  have aj:S ((c:Int)-1-(d:Int)>=0)=T:=by simp_all
  simp only[aj]
  have aG:=aD (c-d) (by omega)
  have aa:=aD (c-1-d) (by omega)
  obtain⟨aH,bb⟩:=Ld (show c-d<=c by omega) C
  obtain⟨aJ,bc⟩:=Ld (show c-1-d<=c by omega) C
  rw[ag _ (by omega),bb]at aG
  rw[ag _ (by omega),bc]at aa
  obtain⟨aK,aN⟩:=r.tree.reads _ _ aG
  obtain⟨ak,ab⟩:=r.tree.reads _ _ aa
  refine .bs (P:=λaO=>aO=c-d) (λ_=>⟨_,lo (by omega),rfl⟩) λaO bd=>?_
  rw[bd o]
  have be:al m (c-d)=w aH:=by simp_all
  have bf:al m (c-1-d)=w aJ:=by grind
  refine .bs (P:=λbg=>bg=(!aK.ib&&S (aK.eI=V))) (λ_=>⟨_,by rw[be];exact empty_eq aN,rfl⟩) λbv bh=>.cond (λK=>?_) λK=>.ret r
  rw[tb,bh o,hx,xf,ik]at K
  obtain⟨am,aP⟩:=K
  have ah:gh (cY g (31-(c-1-d)))<2:=by cases cY g (31-(c-1-d)) <;> decide
  have bw:fq g (c-d)=fq g (c-1-d)++[cY g (31-(c-1-d))]:=by grind[Kv]
  have bi:cu ak.eI (gh (cY g (31-(c-1-d))))=w aH:=by
   simp_all[oP,iS,so]
  have bj:=sk.1 ab
  refine .idx aE (by omega) (.idx aE (by omega) (.eq bf (.idx (ax _ (by omega)) ah (.eq ab (.eq o (.ret ?_))))))
  obtain⟨bk,aR,bl⟩:=cut (dt:=cS k aJ (.iK {ak with eI:=fC ak.eI (gh (cY g (31-(c-1-d)))) Y})) r.tree aa ab bi aN (λbm=>by grind[Cs]) am (CK bj) λbm bn=>Cz bn.symm
  obtain⟨an,G,ac,L⟩:=r.cell
  have bo:=r.own _ _ aa
  refine⟨_,rfl,⟨⟨an,by rw[O1 (L2 ab G)];exact G,ac,L⟩,bk,λe=>by rw[bl];exact r.cont e,r.keeps.trans (eK.up bo) λh _ q=>q,λe h ad=>?_⟩,λf M=>?_⟩
  ·rw[aR]at ad
   split at ad
   ·cases ad
   exact r.own e h ad
  rw[aR,bU (λQ=>by grind[List.length_append,ah9,b4])]
  grind
 ·obtain⟨k,rfl,r,_⟩:=H
  have aj:S ((c:Int)-1-(c:Int)>=0)=U:=by grind
  simp only[aj]
  refine .bs (P:=λ_=>True) (λn=>by cases n) λ_ _=>.bs (P:=λ_=>True) (λn=>by cases n) λ_ _=>.cond (λn=>by cases n) λ_=>.ret r
 obtain⟨ao,G,ac,L⟩:=D.cell
 refine .eq G ?_
 rw[L]
 obtain⟨bx,ap⟩:=D.tree.reads [] l o
 refine .eq (empty_eq ap) (.bind (P:=λae=>kh ae j (λe=>if e=fq g c then Y else E e)∧eK i ae (Own i j)∧∀h,Own ae j h->Own i j h) (.cond (λK=>.eq o (.ret ?_)) λ_=>.ret ?_) λae bp=>.ret ⟨rfl,bp⟩)
 ·rw[hx,xf,ik]at K
  obtain⟨am,aP⟩:=K
  have bq:gK (cS N.2.2 j (.lz {ao with fQ:=Y})) j=w {ao with fQ:=Y}:=WY (vR.1 G)
  refine⟨⟨_,bq,ac,⟨λe p q=>(by simp_all[iR]),λe bz p q=>(by simp_all[iR]),λe p q=>(by simp_all[iR])⟩,λe=>?_⟩,D.keeps.trans (eK.up (own:=Own i j) (.inl o)) λh _ q=>q,λh k=>?_⟩
  ·rw[nY iR,<-D.cont]
   cases e with
   |nil=>rw[ml (p:=l) o ap,am];rfl
   |cons b e=>rw[nY];rw[iS ap,aP,Cs];exact iR
  rcases k with rfl|⟨an,e,ar,au⟩
  ·exact .inl o
  grind[iR]
 refine⟨⟨ao,G,ac,by rw[L];exact D.tree,λe=>by rw[L];exact D.cont e⟩,D.keeps,λh k=>?_⟩
 rcases k with rfl|⟨an,e,ar,au⟩
 ·exact .inl o
 rw[G]at ar;cases ar
 rw[L]at au
 exact D.own e h au
def mA(b:aL Cell):Nat->Ref->R Int
 |0,_=>[]
 |_+1,Y=>[]
 | c+1,w d=>match dp b d with
   |none=>[]
   |some a=>(bif a.ib then [a.lO]else [])++(mA b c (cu a.eI 0)++mA b c (cu a.eI 1))
def Ly{b:aL Cell}{c d:Nat}{a:fJ}(e:dp b d=w a):mA b (c+1) (w d)=(bif a.ib then [a.lO]else [])++(mA b c (cu a.eI 0)++mA b c (cu a.eI 1)):=by
 show(match dp b d with |none=>[]|some a=>_)=_;rw[e]
def vS{a:aL Cell}{c:Nat}{d:fJ}(f:dp a c=w d)(b:aI)(e:R aI):cont a (w c) (b::e)=cont a (cu d.eI (gh b)) e:=by
 simp_all[cont,iS]
def Af{b:aL Cell}:∀{e:Nat} {h:Ref} {f:Int},f∈mA b e h->∃c,cont b h c=w f
 |0,_,_,a=>by cases a
 |_+1,Y,_,a=>by cases a
 | e+1,w p,f,a=>by
   cases d:dp b p with
   | none=>
     have:mA b (e+1) (w p)=[]:=by
      show(match dp b p with |none=>[]|some i=>_)=_;rw[d]
     simp_all
   | some i=>
     rw[Ly d]at a
     rcases eN.1 a with a|a
     ·refine⟨[],?_⟩
      rw[ml (p:=p) o d]
      grind
     rcases eN.1 a with a|a
     ·obtain⟨c,g⟩:=Af a
      exact⟨U::c,by rw[vS d];exact g⟩
     obtain⟨c,g⟩:=Af a
     exact⟨T::c,by rw[vS d];exact g⟩
def W6{c:aL Cell}:∀{e:Nat} {h:Ref} {f:Int} {a:R aI},u a<e->cont c h a=w f->f∈mA c e h
 |0,_,_,_,j,_=>by omega
 |e+1,Y,f,a,_,d=>by rw[nY iR]at d;cases d
 | e+1,w p,f,a,j,d=>by
   cases g:dp c p with
   | none=>
     exfalso
     cases a with
     | nil=>
       unfold cont at d
       have:dD c (w p) []=w p:=rfl
       simp_all
     | cons b a=>
       have:dD c (w p) (b::a)=Y:=by
        show(match dp c p with |none=>Y|some i=>dD c (cu i.eI (gh b)) a)=Y;rw[g]
       simp_all[nY]
   | some i=>
     rw[Ly g]
     cases a with
     | nil=>
       rw[ml (p:=p) o g]at d
       grind
     | cons b a=>
       rw[vS g]at d
       have k:u a<e:=by simp_all
       have:=W6 k d
       cases b
       ·exact Bh _ (En _ this)
       exact Bh _ (Bh _ this)
def V3{d:aL Cell}:∀{j:Nat} {m:Ref},(∀a f k,cont d m a=w k->cont d m f=w k->a=f)->(mA d j m).Nodup
 |0,_,_=>co
 |_+1,Y,_=>co
 | j+1,w p,l=>by
   cases e:dp d p with
   | none=>
     have:mA d (j+1) (w p)=[]:=by
      show(match dp d p with |none=>[]|some i=>_)=_;rw[e]
     simp_all
   | some i=>
     rw[Ly e]
     have r:∀b,(mA d j (cu i.eI (gh b))).Nodup:=λb=>V3 λa f k c A=>by
      have:=l (b::a) (b::f) k (by simp_all[vS]) (by simp_all[vS]);simp_all
     rw[rZ,rZ]
     refine⟨by cases i.ib <;> simp,⟨r U,r T,λg h D n q=>?_⟩,λg h D n q=>?_⟩
     ·subst q
      obtain⟨a,c⟩:=Af h
      obtain⟨f,A⟩:=Af n
      have:=l (U::a) (T::f) g (by rw[vS e];exact c) (by rw[vS e];exact A)
      simp_all
     subst q
     cases B:i.ib with
     |false=>simp_all
     | true=>
       rw[B]at h
       have h:g=i.lO:=mF.1 h
       have C:cont d (w p) []=w g:=by rw[ml (p:=p) o e,B,h];rfl
       rcases eN.1 n with c|c
       ·obtain⟨a,c⟩:=Af c
        have:=l [] (U::a) g C (by rw[vS e];exact c)
        grind
       obtain⟨a,c⟩:=Af c
       have:=l [] (T::a) g C (by rw[vS e];exact c)
       grind
def W7:∀{a m:R Int},a.Nodup->(∀b∈a,b∈m)->u a<=u m
 |[],m,_,_=>zC _
 | b::a,m,aQ,c=>by
   obtain⟨d,e⟩:=s7.1 aQ;have h:=c b (by simp);have:=W7 (m:=m.erase b) e λf g=>(Tc λi=>d (by simp_all)).2 (c f (by simp[g]));grind
def aic(a:aW)(b:Int):aM (J8 a b) (λ_=>True):=by
 unfold J8;exact .cond (λ_=>.ret bo) λ_=>.cond (λ_=>.eq o (.ret bo)) λ_=>.eq o (.eq o (.ret bo))
def Qc{e:aL Cell}{C:Nat}{p:h6}(q:gK e C=w p):∀(f i:Nat) (n:Ref) (j:aW) (g:Int) (c:R fX),f<i->(∀d h,dD e n d=w h->u d<f)->(∀d h,dD e n d=w h->∃p,dp e h=w p)->u c+u (mA e f n)<=20000->
 aM (yV i e (w C) n j g c) (λG=>u G=u c+u (mA e f n))
 |f,0,n,j,g,c,r,_,_,_=>by omega
 |0,i+1,Y,j,g,c,r,aq,aF,l=>⟨c,rfl,rfl⟩
 |0,i+1,w h,j,g,c,r,aq,aF,l=>by have:=aq [] h o;omega
 |f+1,i+1,Y,j,g,c,r,aq,aF,l=>⟨c,rfl,rfl⟩
 | f+1,i+1,w h,j,g,c,r,aq,aF,l=>by
   obtain⟨m,B⟩:=aF [] h o;rw[Ly B]at l⊢;simp only[lI]at l⊢;have A:∀b,(∀d k,dD e (cu m.eI (gh b)) d=w k->u d<f)∧∀d k,dD e (cu m.eI (gh b)) d=w k->∃p,dp e k=w p:=λb=>⟨λd k H=>by
    have:=aq (b::d) k (by simp_all[iS]);simp_all,λd k H=>aF (b::d) k (by simp_all[iS])⟩
   show aM (cond (w h:Ref).isNone (w c) _) _;refine .cond (λq=>by cases q) λ_=>?_;refine .bind (P:=λI=>u I=u c+u (bif m.ib then [m.lO]else [])) ?_ λD K=>?_
   ·unfold IK;refine .eq o (.eq B ?_);cases J:m.ib with
    | true=>
      rw[J]at l
      simp only[cond_true,b4]at l
      refine .eq (a:=c++[{b2:=j,CG:=g,cA:=m.lO}]) ?_ (.ret (by simp))
      grind[eS]
    |false=>exact .eq o (.ret (by simp))
   refine .eq o (.eq B (.bind (Qc q f i _ j (aV (g+1)) D (by omega) (A U).1 (A U).2 (by omega)) λE F=>?_));have F:u E=u D+u (mA e f (cu m.eI 0)):=F;refine .eq o (.eq o (.eq q (.bind (aic _ _) λL _=>.eq o (.bind (Qc q f i _ _ (aV (g+1)) E (by omega) (A T).1 (A T).2 (by omega)) λM N=>.ret ?_))));omega
def al4{b:aL Cell}{j:Nat}{g:R aI->aw Int}(p:kh b j g)(q:∀a h e,g a=w e->g h=w e->a=h)(k:R Int)(E:∀a e,g a=w e->e∈k)(F:u k<=20000):aM (B6 b (w j)) (λr=>r=0->∀a,g a=Y):=by
 obtain⟨c,i,G,l,H⟩:=p.ok;have aQ:(mA b 33 c.fQ).Nodup:=V3 λa h e I J=>q a h e (by simp_all) (by simp_all);have K:u (mA b 33 c.fQ)<=u k:=W7 aQ λL A=>by
  obtain⟨a,M⟩:=Af A;grind
 unfold B6 JH Im;refine .bind (P:=λd=>u d=u (mA b 33 c.fQ)) (.bind (P:=λd=>u d=u (mA b 33 c.fQ)) (.bind (P:=λd=>u d=u (mA b 33 c.fQ)) (.cond (λ_=>.eq o (.eq i ((show aM (Nj b (w j) c.fQ V 0 []) _ from Qc i 33 bX c.fQ V 0 [] (by unfold bX;omega) (λa m b=>by have:=l.dep a m b;omega) l.reads (by simp;omega)).bind λd f=>.ret (by simpa using f)))) λi=>by cases i) λd f=>.ret f) λd f=>.ret f) λd f=>.ret λn a=>?_;have n:u (mA b 33 c.fQ)=0:=by rw[<-f];have:(u d:Int)=0:=n;omega
 cases N:g a with
 |none=>rfl
 | some e=>
   have B:cont b c.fQ a=w e:=by simp_all
   have C:u a<33:=by
    cases D:dD b c.fQ a with
    |none=>simp_all[nY]
    |some m=>have:=l.dep a m D;omega
   have:=W6 C B
   simp_all
def ajc(a:fT)(b:Int)(f:u a.cw<=1000):aM (IC a b) (λd=>(d= -1∧jk a.cw b=U)∨∃c:Nat,c<u a.cw∧d=c∧(al a.cw c).ct=b∧jk a.cw b=T∧∀e,e<c->(al a.cw e).ct≠b):=Z8 a b f
def akX{a:R aJ}{f:Int}{b:Nat}(aQ:a.Pairwise λh c=>h.ct≠c.ct)(i:b<u a)(d:(al a b).ct=f):
 a.take b++a.drop (b+1)=a.filter (λc=>c.ct !=f):=by
 rw[dI _ i]at d
 have g:a=a.take b++a[b]::a.drop (b+1):=by rw[SY,rT]
 rw[g,xd]at aQ
 obtain⟨n,j,k⟩:=aQ
 obtain⟨l,o⟩:=lh.1 j
 conv=>rhs;rw[g]
 rw[oy,M5 (by simp[d])]
 congr 1
 ·exact(rU.2 λc e=>by have:=k c e a[b] jS;rw[d]at this;simpa using this).symm
 exact(rU.2 λc e=>by have:=l c e;rw[d]at this;simp;exact λm=>this m.symm).symm
def lS.filter{s:aU}{k:Nat}{l:R aJ}(h:lS s k l)(q:aJ->aI):lS s k (l.filter q)where
 ok i pg:=h.ok i (uk.1 pg).1
 num:=h.num.sublist Nn
 len:=mK (Ik _ _) h.len
def aid{c:aU}{d:Nat}{b:R aJ}(h:lS c d b)(e:Int):
 Ep (wK c d b) e=w (jk b e,wK c d (b.filter λf=>f.ct !=e)):=by
 refine aM.get ?_
 unfold Ep
 obtain⟨B,C⟩:=h.iQ
 refine(ajc (wK c d b) e (by show(iQ _ b).length<=1000;omega)).bind λD k=>?_
 rcases k with⟨rfl,i⟩|⟨l,i,rfl,m,n,E⟩
 ·have j:jk b e=U:=by rw[<-i];exact Lb.symm
  refine .cond (λ_=>.ret ?_) λg=>by simp at g
  rw[j,rU.2 λf g=>by simpa using XY j f g]
 have o:jk b e=T:=by rw[<-n];exact Lb.symm
 refine .cond (λg=>by simp at g;omega) λ_=>?_
 have p:l<u (iQ (ju c d) b):=i
 refine .eq (a:=iQ (ju c d) (b.filter λf=>f.ct !=e)) ?_ (.ret ?_)
 ·show Hr (iQ (ju c d) b) _ _=_
  unfold Hr
  rw[cZ (by omega),bT ⟨by omega,by omega,by omega⟩]
  have q:(iQ (ju c d) b).Pairwise λa f=>a.ct≠f.ct:=((P7 b).symm.pairwise_iff λr=>λA=>r A.symm).1 h.num
  rw[<-ah4 (Lw c d) h.Sm,<-akX q p m]
  simp
 rw[o];rfl
def dx(a:R aJ)(b:bg):R aJ:=a.filter λc=> !fE c.aS b
def mg{b:R aJ}{c:bg}{a:aJ}:a∈dx b c↔a∈b∧fE a.aS c=U:=by
 simp_all[dx,uk]
theorem ix.dx{a:aU}{b:Nat}{c:R aJ}(d:ix a b c)(e:bg):ix a b (Go.Proofs.YtmcjlfmeoehcmaaGreat.dx c e):=
 ⟨d.ok.filter _,d.key.sublist Nn⟩
def KH{j:aU}{k:Nat}{c:R aJ}(f:ix j k c){e:bg}{a:aJ}(g:a∈c)(l:fE a.aS e=T):dx c e=c.filter λb=>b.ct !=a.ct:=by
 unfold dx;refine List.filter_congr λb h=>?_;by_cases i:b=a
 ·simp_all
 have m:fE b.aS e=U:=by
  rw[rY];intro d;exact i (f.uniq h g (sn d (by simp_all[sq])))
 have d:b.ct≠a.ct:=λd=>i (f.ok.uniq h g d);simp_all
def arI{h:aU}(l:ch h){c:aL Cell}{g:Nat}{i:R aJ}{m:Nat->Prop}(I:C7 h c g i m)(n:ix h 0 i){b:aJ}(r:b∈i):
 aM (EM c ⟨w g⟩ b) (λA=>C7 h A g (dx i b.aS) m∧eK c A m):=by
 obtain⟨j,B,o,C,J,D,E,F⟩:=I.ok
 have p:=(n.ok.ok b r).dS
 have O:dU B (fV b.aS)=w b.ct:=(E _ _).2 ⟨b,r,rfl,rfl⟩
 unfold EM I4 BY
 refine .eq (Lc (p.Mu l (by decide)).1) ?_
 refine .eq (a:=(T,cS c j (Cell.qw (iT B (fV b.aS))))) ?_ (.ret ?_)
 ·show((pH c g).bind _).bind _=_
  rw[o]
  show((oW c j).bind _).bind _=_
  grind
 have K:g≠j:=λq=>by
  subst q;have:=G4 o;rw[uR C]at this;cases this
 refine⟨⟨j,_,by rw[O2 (mN K.symm)];exact o,W2 (uR C),J,D,λL P=>?_,F.del⟩,.up D⟩
 rw[CF F]
 by_cases k:L=fV b.aS
 ·rw[bT k]
  refine⟨λq=>(by cases q),λ⟨d,e,f,G⟩=>?_⟩
  obtain⟨M,H⟩:=mg.1 e
  rw[(HX l (n.ok.ok d M).dS p).2 (f.trans k)]at H;cases H
 rw[bU k,E]
 constructor
 ·rintro ⟨d,e,f,G⟩
  refine⟨d,mg.2 ⟨e,?_⟩,f,G⟩
  rw[rY];intro N
  exact k (by rw[<-f];exact(HX l (n.ok.ok d e).dS p).1 N)
 rintro ⟨d,e,f⟩
 exact⟨d,(mg.1 e).1,f⟩
def arJ{B:aU}(K:ch B){j:aL Cell}{g:Nat}{l:R aJ}{q:Nat->Prop}(n:oS B j g l q)(F:ix B 1 l){b:aJ}(ak:b∈l):
 aM (EB j ⟨0,32,⟨w g⟩⟩ b) (λdt=>oS B dt g (dx l b.aS) q∧eK j dt q):=by
 obtain⟨r,O,G,am,an,aC,Q⟩:=n.ok
 have L:=(F.ok.ok b ak).dS
 have aa:=Hy K L
 have C:∃H,dU r (iF (fV b.aS))=w (w H):=by
  cases a6:dU r (iF (fV b.aS))with
  |none=>grind
  |some a7=>grind
 obtain⟨H,C⟩:=C
 obtain⟨f,ao,h,ap,aD,ar⟩:=am _ _ C
 cases h
 obtain⟨A,aQ⟩:=mE aa.pre.1
 have aE:A<=32:=by have:=aa.pre.2;omega
 have au:=PF aa
 have dt:fq (al b.aS.cp 0).b2 A=k2 b.aS:=by simp_all[k2,aQ]
 have aG:ao (k2 b.aS)=w b.ct:=(ar _ _).2 ⟨b,ak,rfl,rfl,rfl⟩
 have aH:∀a∈l,iF (fV a.aS)=iF (fV b.aS)->(fE a.aS b.aS=U↔k2 a.aS≠k2 b.aS):=λa c ab=>by
  rw[rY,ne_eq,DN K (F.ok.ok a c).dS L];simp_all
 have aI:∀a∈l,iF (fV a.aS)≠iF (fV b.aS)->fE a.aS b.aS=U:=λa c ab=>by
  rw[rY,ne_eq,DN K (F.ok.ok a c).dS L];simp_all
 unfold EB
 refine .eq (P9 K L _) (.eq o (.eq O (.eq o ?_)))
 simp only[C]
 rw[aQ]at au⊢
 refine(show aM (BV j (w H) (al b.aS.cp 0).b2 (A:Int)) _ from aib ap aE au (by rw[dt];exact aG)).bind λaK aF=>?_
 obtain⟨_,ac,I,aN⟩:=aF
 rw[dt]at ac
 obtain⟨a8,i⟩:=aK
 simp only at ac I aN⊢
 have aO:∀d,Own j H d->d≠g:=λd aP h=>by
  have:=oR O;rw[<-h]at this;rcases ap.Lx aP with⟨a,c⟩|⟨a,c⟩ <;> rw[c]at this <;> cases this
 have a9:pat i g=pat j g:=I.rest g (ji (oR O)) λn=>aO g n o
 have ad:kX i g=w r:=by grind[Ko]
 have ae:∀m af,(if m=k2 b.aS then Y else ao m)=w af↔∃a∈dx l b.aS,iF (fV a.aS)=iF (fV b.aS)∧k2 a.aS=m∧a.ct=af:=λm af=>by
  by_cases ag:m=k2 b.aS
  ·rw[bT ag];refine⟨λh=>(by cases h),λ⟨a,c,k,J,_⟩=>?_⟩;obtain⟨M,av⟩:=mg.1 c;simp_all
  rw[bU ag,ar];constructor
  ·rintro ⟨a,c,k,J,aR⟩;exact⟨a,mg.2 ⟨c,(aH a c k).2 λh=>ag (J.symm.trans h)⟩,k,J,aR⟩
  rintro ⟨a,c,k⟩;exact⟨a,(mg.1 c).1,k⟩
 have a_:∀e f,e≠iF (fV b.aS)->dU r e=w (w f)->∃p,kh j f p∧kh i f p∧(∀d,Own j f d->q d)∧(∀d,Own i f d↔Own j f d)∧∀m A,p m=w A↔∃a∈dx l b.aS,iF (fV a.aS)=e∧k2 a.aS=m∧a.ct=A:=λe f ah aF=>by
  obtain⟨ba,p,h,M,av,aS⟩:=am e _ aF;cases h;obtain⟨aw,ai⟩:=M.congr (dt:=i) λd n=>I.rest d (M.C6 n) λaj=>aC _ _ _ _ C aF ah.symm d aj n;refine⟨p,M,aw,av,ai,λm A=>?_⟩;rw[aS];constructor
  ·rintro ⟨a,c,k,J⟩;exact⟨a,mg.2 ⟨c,aI a c (by simp_all)⟩,k,J⟩
  rintro ⟨a,c,k⟩;exact⟨a,(mg.1 c).1,k⟩
 have ax:eK j i q:=⟨I.keys,λd n aT=>I.rest d n λaj=>aT (aD d aj)⟩
 have aV:oS B i g (dx l b.aS) q:=by
  refine⟨r,ad,G,λe aW aX=>?_,λe D a c=>an e D a (mg.1 c).1,λe aY E aZ ay a0 ah d az a1=>?_,Q⟩
  ·by_cases D:e=iF (fV b.aS)
   ·grind
   grind
  have bb:∀e E,dU r e=w (w E)->∀d,Own i E d->Own j E d:=λe E ay d az=>by
   by_cases bc:e=iF (fV b.aS)
   ·simp_all
   grind
  grind
 refine .eq ad (.eq o ?_)
 simp only[C]
 refine(show aM (B6 i (w H)) _ from al4 ac (λm bd a2 aA G=>?_) (l.map (·.ct)) (λm a2 aA=>?_) (by rw[lY];have:=F.ok.len;omega)).bind λbe k=>?_
 ·obtain⟨a,c,_,aw,ai⟩:=(ae _ _).1 aA
  obtain⟨bf,aq,_,bg,a3⟩:=(ae _ _).1 G
  have:=F.ok.uniq (mg.1 c).1 (mg.1 aq).1 (ai.trans a3.symm)
  simp_all
 ·grind
 refine .bind (P:=λdt=>oS B dt g (dx l b.aS) q∧eK j dt q) (.cond (λbh=>.eq o (.ret ?_)) λ_=>.ret ⟨aV,ax⟩) λbi a4=>.ret a4
 have k:=k (by simp_all)
 have N:=oR ad
 have bj:∀f p,kh i f p->kh (cS i g (Cell.nz (iT r (iF (fV b.aS))))) f p∧∀d,Own (cS i g (Cell.nz (iT r (iF (fV b.aS))))) f d↔Own i f d:=λf p aB=>aB.congr λd a5=>mN λh=>by
  rw[h]at N;rcases aB.Lx a5 with⟨a,c⟩|⟨a,c⟩ <;> rw[c]at N <;> cases N
 refine⟨⟨_,W3 N,G,λe aW aX=>?_,λe D a c=>?_,λe aY E aZ ay a0 ah d az a1=>?_,Q.del⟩,ax.trans (eK.up G) λd _ n=>n⟩
 ·grind[CF]
 ·rw[CF Q]at D
  split at D
  ·rename_i h
   intro ab
   have:=(ae _ _).2 ⟨a,c,ab.trans h,rfl,rfl⟩
   simp_all
  exact an e D a (mg.1 c).1
 grind[CF]
def srem{b:aU}{c:Nat}{d:aL Cell}{e:Nat}{a:R aJ}{f:Nat->Prop}(m:C8 b c d e a f)(h:ix b c a){g:aJ}(n:g∈a):
 cB (EN d ⟨w e⟩ g) (λi=>C8 b c i e (dx a g.aS) f∧eK d i f):=by
 obtain⟨p,q,j,k⟩:=m.ok
 unfold EN
 refine .eq o (.eq j (.eq (aid h.ok _) (.any λl=>.eq o (.ret ?_))))
 rw[KH h n (nu _)]
 exact⟨⟨l.1,l.2,W4 (Ao j),k⟩,.up k⟩
def arK{c:aU}(m:ch c){e:Nat}{f:aL Cell}{g:jF}{d:R aJ}{h:Nat->Prop}(a:tD c e f g d h)(i:ix c e d){j:aJ}(k:j∈d):
 cB (NG f g j) (λb=>tD c e b g (dx d j.aS) h∧eK f b h):=by
 rcases a with⟨rfl,l,rfl,a⟩|⟨rfl,n,rfl,a⟩|⟨o,l,rfl,a⟩
 ·exact cB.of ((arI m a i k).mono λb aF=>⟨.inl ⟨rfl,l,rfl,aF.1⟩,aF.2⟩)
 ·exact cB.of ((arJ m a i k).mono λb aF=>⟨.inr (.inl ⟨rfl,n,rfl,aF.1⟩),aF.2⟩)
 exact(srem a i k).mono λb aF=>⟨.inr (.inr ⟨o,l,rfl,aF.1⟩),aF.2⟩
def Vc{au e:aB}[DecidableEq au]:∀{b:R (au×e)} {a:au},ou b->iT b a=b.filter λd=>decide (d.1≠a)
 |[],_,_=>rfl
 | (f,i)::j,a,g=>by
   obtain⟨k,h⟩:=lh.1 g;unfold iT;by_cases c:a=f
   ·rw[bT c,M5 (by simp[c])];exact(rU.2 λd l=>by grind).symm
   rw[bU c,Bf (by grind),Vc h]
def wO.hg{d:aU}{e:Nat}{b:R (Int×aJ)}{c:R aJ}(f:wO b c)(g:lS d e c):ou b:=by
 refine(f.pairwise_iff λa=>Cm a).2 ?_;rw[Bv];exact g.num.imp λa=>a
def aie{i:aU}(q:ch i){g:Nat}(Q:g<4){l:aL Cell}{f:Nat}{b:R aJ}{own:Nat->Prop}(e:ko i g l f b own){c:bg}(aa:fu i g c):
 cB (E1 l (w f) c) (λr=>(r.1,r.2.1)=w0 (dM b c)∧ko i g r.2.2 f (dx b c) own∧eK l r.2.2 own):=by
 obtain⟨D,j,F,G,ab,ac,H,I,ad⟩:=e.cell
 have J:=tu ab
 have K:=An G
 have ao:f≠j:=λc=>by simp_all
 unfold E1
 refine .eq (Qa q Q e aa) ?_
 refine .bind (P:=λE=>ko i g E f (dx b c) own∧eK l E own) (.cond (λm=>?_) λm=>.ret ?_) λE ae=>.ret ⟨rfl,ae⟩
 ·cases n:dM b c with
  |none=>rw[n]at m;cases m
  | some k=>
    obtain⟨A,L⟩:=mP n
    have af:dx b k.aS=dx b c:=by
     rw[KH e.fW A (nu _),KH e.fW A L]
    refine .eq o (.eq G (.bind (arK q ad e.fW A) λh aF=>?_))
    obtain⟨B,C⟩:=aF
    have B:tD i g h D (dx b k.aS) (λd=>own d∧d≠j∧d≠f):=B
    rw[af]at B
    show cB (a' (b1 (jc h f)) λah=>a' (b1 ah.oG.p) λM=>a' (b1 (lL h M)) λai=>a' (b1 (w (cS h M (Cell.lv (iT ai k.ct))))) λaj=>cr aj) _
    have ak:pat h f=w (.sG ⟨qL g,(MS i g:Int),D,⟨w j⟩⟩):=by rw[C.rest f (ji K) (λa=>a.2.2 o)];exact K
    have N:pat h j=w (.lv F):=by rw[C.rest j (ji J) (λa=>a.2.1 o)];exact J
    refine .eq (by unfold jc;rw[ak]) (.eq o (.eq (by unfold lL;rw[N]) (.eq o (.ret ?_))))
    have al:eK l h own:=⟨C.keys,λd a am=>C.rest d a λq=>am q.1⟩
    have O:eK l (cS h j (Cell.lv (iT F k.ct))) own:=al.trans (eK.up (own:=own) H) λd _ a=>a
    refine⟨⟨e.fW.dx c,⟨D,j,_,by grind[jc,mN],ajb N,ac,H,?_,B.congr (λd _ a=>a) λd a=>mN a.2.1.symm⟩,λd a=>O.keys d (e.lD d a)⟩,O⟩
    unfold wO
    rw[Vc (I.hg e.fW.ok),KH e.fW A L]
    refine(I.filter _).trans ?_
    rw[NO]
    have:((λan:Int×aJ=>decide (an.1≠k.ct)) ∘ λp:aJ=>(p.ct,p))=λp=>p.ct !=k.ct:=by
     grind
    rw[this]
 have n:dM b c=Y:=by
  cases n:dM b c with
  |none=>rfl
  |some k=>rw[n]at m;cases m
 have:dx b c=b:=by
  unfold dx;exact rU.2 λp m=>by grind[tp]
 rw[this]
 exact⟨e,.refl⟩
theorem CA{b c:aL Cell}{a:Nat}(d:pat c a=pat b a):jd c a=jd b a:=by simp_all[jd]
theorem CB{b c:aL Cell}{a:Nat}(d:pat c a=pat b a):lu c a=lu b a:=by simp_all[lu]
def ajd{b:aL Cell}{a:Nat}{d:Cell}{c:ll}(e:pat b a=w d):jd (cS b a (.sI c)) a=w c:=by simp_all[jd,ss]
def aje{b:aL Cell}{a:Nat}{d:Cell}{c:R (Int×Ref)}(e:pat b a=w d):lu (cS b a (.sH c)) a=w c:=by simp_all[lu,ss]
structure oT(s:aU)(aC:aL Cell)(p m:Nat)(yO:List (Int×Ref))(n:Nat)(ls:Nat->List aJ)(own:Nat->Nat->Prop):Prop where
 has:∀k,k<n->∃q,dU yO ((k:Int)+1)=w (w q)∧ko s k aC q (ls k) (own k)
 no:∀x:Int,x<1∨(n:Int)<x->dU yO x=Y
 HY:∀k ng,k<n->ng<n->k≠ng->∀q,own k q->¬own ng q
 out:∀k,k<n->¬own k p∧¬own k m
def oT.G5{h:aU}{i f:aL Cell}{j k:Nat}{l:R (Int×Ref)}{c:Nat}{m:Nat->R aJ}{d:Nat->Nat->Prop}(e:oT h i j k l c m d)(n:∀a,a<c->∀b,d a b->b∈dy f)(o:∀a,a<c->∀b,d a b->pat f b=pat i b):oT h f j k l c m d:=
 ⟨λa g=>by obtain⟨b,p,q⟩:=e.has a g;exact⟨b,p,q.G5 (n a g) (o a g)⟩,e.no,e.HY,e.out⟩
def oT.congr{f:aU}{c dt:aL Cell}{g h:Nat}{i:R (Int×Ref)}{d:Nat}{j:Nat->R aJ}{e:Nat->Nat->Prop}(k:oT f c g h i d j e)(l:∀a,a∈dy c->a∈dy dt)(m:∀b,b<d->∀a,e b a->pat dt a=pat c a):oT f dt g h i d j e:=k.G5 (λb n a o=>by obtain⟨_,_,p⟩:=k.has b n;exact l a (p.lD a o)) m
structure va(s:aU)(aC:aL Cell)(p:Nat)(ls:Nat->List aJ)(next:Int):Prop where
 cell:∃m yO own,jd aC p=w ⟨s,⟨w m⟩,next⟩∧lu aC m=w yO∧oT s aC p m yO 4 ls own
def eD(b:Nat->R aJ)(c:Nat)(d:R aJ):Nat->R aJ:=λa=>if a=c then d else b a
def KI{d:aU}{b:aL Cell}{e:Nat}{f:Nat->R aJ}{h:Int}(i:va d b e f h){a:Nat}(j:a<4):∃c g,qX b (w e) ((a:Int)+1)=w (w c)∧ko d a b c (f a) g:=by
 obtain⟨l,m,g,n,o,k⟩:=i.cell;obtain⟨c,p,q⟩:=k.has a j;grind[qX]
def ajf{d:aU}{b:aL Cell}{c:Nat}{e:Nat->R aJ}{f:Int}(g:va d b c e f){a:Int}(l:a<1∨4<a):qX b (w c) a=w Y:=by
 obtain⟨m,n,o,h,i,j⟩:=g.cell;refine aM.get ?_;unfold qX;refine .cond (λk=>by cases k) λ_=>.eq rfl (.eq h (.eq rfl (.eq i (.eq rfl (.ret ?_)))));rw[j.no a (by omega)];rfl
def X3{a:aU}(i:ch a){d:aL Cell}{e:Nat}{f:Nat->R aJ}{j:Int}(k:va a d e f j){b:Nat}(g:b<4){c:bg}(h:fu a b c):zz d (w e) c=w (w0 (dM (f b) c)):=by
 obtain⟨n,p,l,m⟩:=KI k g;refine aM.get ?_;unfold zz;rw[h.ev];exact .eq l (.eq (Qa i g m h) (.ret o))
def akY{a:aU}(c:ch a){d:aL Cell}{e:Nat}{g:Nat->R aJ}{h:Int}(i:va a d e g h){b:Nat}(f:b<4):Ft d (w e) ((b:Int)+1)=w (al a.bK b).gA:=by
 obtain⟨l,m,n,j,p,q⟩:=i.cell;refine aM.get ?_;unfold Ft;refine .eq o (.eq j ((Cy c f).bind λr k=>?_));subst k;exact .idx o (by rw[c.jM];exact f) (.ret o)
def akZ{d:aU}{a:aL Cell}{b:Nat}{e:Nat->R aJ}{c:Int}(f:va d a b e c):Fl a (w b)=w c:=by
 obtain⟨g,h,i,j,k,l⟩:=f.cell;simp_all[Fl]
def X4(a:aw aJ):(w0 a).2=a.isSome:=by cases a <;> rfl
def oT.change{h:aU}{i j:aL Cell}{k:Nat}{B:Nat->R aJ}{C:Int}{f:Nat}{l:R (Int×Ref)}{m:Nat->Nat->Prop}(D:jd i k=w ⟨h,⟨w f⟩,C⟩)(E:lu i f=w l)(d:oT h i k f l 4 B m){b:Nat}(n:b<4){F:Nat}(af:dU l ((b:Int)+1)=w (w F)){G:R aJ}{o:Nat->Prop}
 (H:ko h b j F G o) (O:∀c,o c->m b c∨c∉dy i) (p:eK i j (m b)):jd j k=w ⟨h,⟨w f⟩,C⟩∧lu j f=w l∧oT h j k f l 4 (eD B b G) (λa=>if a=b then o else m a):=by
 have P:=ji (uO D)
 have Q:=ji (wj E)
 have aa:=(d.out b n).1
 have ab:=(d.out b n).2
 refine⟨by rw[CA (p.rest k P aa)];exact D,by rw[CB (p.rest f Q ab)];exact E,⟨λa e=>?_,d.no,λa I e ac q c J K=>?_,λa e=>?_⟩⟩
 ·by_cases g:a=b
  ·simp_all[eD,bT]
  obtain⟨L,M,r⟩:=d.has a e
  refine⟨L,M,?_⟩
  unfold eD
  rw[bU g,bU g]
  exact r.kS p λc H=>d.HY a b e n g c H
 ·have ag:∀a,a<4->a≠b->o c->¬m a c:=λa e q ad N=>by
   obtain⟨L,M,r⟩:=d.has a e;rcases O c ad with A|A
   ·exact d.HY a b e n q c N A
   exact A (r.lD c N)
  by_cases g:a=b
  ·grind
  rw[bU g]at J
  by_cases ae:I=b
  ·simp_all
  rw[bU ae]at K;exact d.HY a I e ac q c J K
 by_cases g:a=b
 ·grind
 rw[bU g];exact d.out a e
def eK.trans'{e b f:aL Cell}(d:eK e b rJ)(g:eK b f rJ):eK e f rJ:=⟨λa c=>g.keys a (d.keys a c),λa c h=>(g.rest a (d.keys a c) h).trans (d.rest a c h)⟩
def ak0{m:aU}(L:ch m)(p:aL Cell):cB (Gh p m) (λF=> ∃g c h i,F.1=w g∧(jd F.2 g=w ⟨m,⟨w c⟩,1⟩∧lu F.2 c=w h∧oT m F.2 g c h 4 (λ_=>[]) i)∧eK p F.2 rJ∧g∉dy p∧c∉dy p∧∀n,n<4->∀k,i n k->k∉dy p):=by
 unfold Gh;refine .mk λc R=>.eq o (.mk λg M=>?_);simp only at M⊢;have aA:g≠c:=λe=>M (by rw[e];exact jS);have af:jd ((g,Cell.sI ⟨m,⟨w c⟩,1⟩)::(c,Cell.sH [])::p) g=w ⟨m,⟨w c⟩,1⟩:=by simp_all[jd,nr,bT]
 have al:lu ((g,Cell.sI ⟨m,⟨w c⟩,1⟩)::(c,Cell.sH [])::p) c=w []:=by simp_all[lu,nr,bU,bT]
 refine .eq af ?_;simp only;refine .bind (P:=λG=> ∃h i,jd G g=w ⟨m,⟨w c⟩,1⟩∧lu G c=w h∧oT m G g c h 4 (λ_=>[]) i∧eK p G rJ∧∀n,n<4->∀k,i n k->k∉dy p)
  (cB.loop 4 (λj aa=> ∃l h i,aa=((j:Int),l)∧jd l g=w ⟨m,⟨w c⟩,1⟩∧lu l c=w h∧(eK p l rJ∧∀n,n<j->∀k,i n k->k∉dy p)∧oT m l g c h j (λ_=>[]) i) (by omega) ⟨_,[],λ_ _=>False,rfl,af,al,⟨(eK.mk' R).trans' (eK.mk' M),λn q=>by omega⟩,⟨λn q=>by omega,λ_ _=>rfl,λn aB q=>by omega,λn q=>by omega⟩⟩ (λj aa ag ab=>?_) (λaa ab=>?_)) λG H=>.ret ?_
 ·obtain⟨l,h,i,rfl,I,N,⟨E,aC⟩,r⟩:=ab;have ah:=uO I;have ac:=wj N;refine .cond (λ_=>.idx o (by simp_all) (.eq I ?_)) λam=>by have:=L.jM;grind
  rw[(L.ev ag).1];refine .bind (al3 L ag l) λan H=>?_;obtain⟨k,e,f,q⟩:=H;obtain⟨aD,B⟩:=an;simp only at e f q;subst e;have ai:jd B g=w ⟨m,⟨w c⟩,1⟩:=by rw[CA (q.rest g (ji ah) id)];exact I
  have aj:lu B c=w h:=by rw[CB (q.rest c (ji ac) id)];exact N
  have O:=wj aj;refine .eq (a:=()) (by unfold HG;rw[bT ai]) (.eq o (.eq aj (.eq o (.ret ?_))));have aE:c≠g:=λe=>by rw[e]at O;rw[uO ai]at O;cases O
  have ad:∀b,b≠c->pat (cS B c (Cell.sH (fB h ((j:Int)+1) (w k)))) b=pat B b:=λb f=>mN f.symm;have ao:∀d,d<j->∀b,i d b->pat (cS B c (Cell.sH (fB h ((j:Int)+1) (w k)))) b=pat l b:=λd C b f=>by
   obtain⟨ae,_,J⟩:=r.has d C;rw[ad b λe=>(r.out d C).2 (e▸f)];exact q.rest b (J.lD b f) id
  have K:∀b,ny rJ l B b->b∉dy l:=λb f=>f.elim (λA=>A.elim) λA=>A.1;refine⟨_,fB h ((j:Int)+1) (w k),λd=>if d=j then ny rJ l B else i d,by grind[cZ],by grind[CA],aje O,⟨⟨λb f=>by rw[qo];exact q.keys b (E.keys b f),λb f _=>by rw[ad b λe=>R (e▸f),q.rest b (E.keys b f) id,E.rest b f id]⟩,λd C b D Q=>?_⟩,⟨λd C=>?_,λb f=>?_,λd ak C aF ap b D Q=>?_,λd C=>?_⟩⟩
  ·by_cases e:d=j
   ·simp only[bT e]at D;exact K b D (E.keys b Q)
   grind
  ·by_cases e:d=j
   ·subst e;refine⟨k,by rw[vQ,bT o],?_⟩;rw[bT o];exact f.congr (λb f=>by simp_all[qo]) λb D=>ad b λe=>K b D (e▸ji ac)
   obtain⟨ae,aq,J⟩:=r.has d (by omega);refine⟨ae,by rw[vQ,bU (by omega)];exact aq,?_⟩;rw[bU e];exact J.congr (λb f=>by rw[qo];exact q.keys b f) (ao d (by omega))
  ·rw[vQ,bU (by omega)];exact r.no b (by omega)
  ·have aG:∀d,d<j->ny rJ l B b->¬i d b:=λd C H ar=>by
    obtain⟨ae,_,J⟩:=r.has d C;exact K b H (J.lD b ar)
   by_cases e:d=j
   ·grind
   rw[bU e]at D;by_cases au:ak=j
   ·grind
   rw[bU au]at Q;exact r.HY d ak (by omega) (by omega) ap b D Q
  by_cases e:d=j
  ·rw[bT e];exact⟨λA=>K g A (ji ah),λA=>K c A (ji ac)⟩
  rw[bU e];exact r.out d (by omega)
 ·obtain⟨l,h,i,rfl,I,N,E,r⟩:=ab;refine .cond (λam=>by have:=L.jM;simp_all) λ_=>.ret ⟨h,i,I,N,r,E⟩
 obtain⟨h,i,av,aw,ax,ay,az⟩:=H;exact⟨g,c,h,i,rfl,⟨av,aw,ax⟩,ay,λA=>M (gO _ A),R,az⟩
def ajg{c:R aJ}{a:bg}{b:aJ}(d:dM c a=Y)(e:fE b.aS a=T):dM (c++[b]) a=w b:=by
 unfold dM at d⊢;rw[b7,d,Option.none_or];simp[e]
theorem il{c:Nat->R aJ}{a:Nat}{b:R aJ}:eD c a b a=b:=by unfold eD;rw[bT o]
theorem kc{b:Nat->R aJ}{c a:Nat}{d:R aJ}(e:a≠c):eD b c d a=b a:=by unfold eD;rw[bU e]
def GH(a:R aJ)(b:bg):u (dx a b)<=u a:=Ik _ _
structure lH{au:Type}(f:au->au->Int):Prop where
 neg:∀x y,f x y<0↔0<f y x
 lV:∀x y z,f x y<=0->f y z<=0->f x z<=0
def lH.self{au:aB}{b:au->au->Int}(c:lH b)(a:au):b a a=0:=by have:=c.neg a a;omega
def lH.on{au a:aB}{d:a->a->Int}(e:lH d)(f:au->a):lH (λb c=>d (f b) (f c)):=⟨λb c=>e.neg _ _,λb c g=>e.lV _ _ _⟩
def lH.rev{au:aB}{c:au->au->Int}(d:lH c):lH (λa b=>c b a):=⟨λa b=>d.neg b a,λa b e f g=>d.lV e b a g f⟩
def jo{au:aB}(c d:au->au->Int)(a b:au):Int:=if c a b=0 then d a b else c a b
def vU{au:aB}{c d:au->au->Int}{a b:au}(e:jo c d a b=0):c a b=0∧d a b=0:=by
 grind[jo]
theorem lH.jo{au:aB}{f g:au->au->Int}(h:lH f)(k:lH g):lH (Go.Proofs.YtmcjlfmeoehcmaaGreat.jo f g)where
 neg x y:=by
  unfold Go.Proofs.YtmcjlfmeoehcmaaGreat.jo;have h1:=h.neg x y;have fx:=h.neg y x;by_cases e:f x y=0
  ·rw[bT e,bT (by omega)];exact k.neg x y
  omega
 lV x y z:=by
  unfold Go.Proofs.YtmcjlfmeoehcmaaGreat.jo;intro h1 fx;have sS:f x y<=0:=by by_cases e:f x y=0 <;> simp[e]at h1 <;> omega
  have a2:f y z<=0:=by by_cases e:f y z=0 <;> simp[e]at fx <;> omega
  have a3:=h.lV x y z sS a2;by_cases e:f x z=0
  ·have abX:f z x<=0:=by have:=h.neg x z;omega
   have pY:=h.lV z x y abX sS;have yH:=h.lV y z x a2 abX;have c1:f y z=0:=by have:=h.neg y z;omega
   have c2:f x y=0:=by have:=h.neg x y;omega
   rw[bT c2]at h1;rw[bT c1]at fx;rw[bT e];exact k.lV x y z h1 fx
  omega
def Hk{a b:Int}:eB a b<0↔a<b:=by grind[eB]
def Dn{a b:Int}:0<eB a b↔b<a:=by grind[eB]
def kg{a b:Int}:eB a b=0↔a=b:=by grind[eB]
def sC:lH eB:=⟨λa c=>by rw[Hk,Dn],λa c d e f=>by
 have g:= @Dn a c;have b:= @Dn c d;have h:= @Dn a d;omega⟩
def lc{au:aB}(a:au->au->Int):R au->R au->Int
 |[],[]=>0
 |[],_::_=> -1
 |_::_,[]=>1
 |c::d,b::e=>if a c b=0 then lc a d e else a c b
def YJ{au:aB}{a:au->au->Int}(c:lH a):∀(e f:R au),lc a e f<0↔0<lc a f e
 |[],[]=>by simp[lc]
 |[],_::_=>by simp[lc]
 |_::_,[]=>by simp[lc]
 | d::g,b::h=>by
   have j:=c.neg d b;have k:=c.neg b d;unfold lc;by_cases i:a d b=0
   ·rw[bT i,bT (by omega)];exact YJ c g h
   omega
def aab{au:aB}{a:au->au->Int}(e:lH a):∀(i j k:R au),lc a i j<=0->lc a j k<=0->lc a i k<=0
 |[],_,[],_,_=>by simp[lc]
 |[],_,_::_,_,_=>by simp[lc]
 |_::_,[],_,f,_=>by simp_all[lc]
 |_::_,_::_,[],_,g=>by simp_all[lc]
 | c::o,b::p,d::q,f,g=>by
   unfold lc at f g⊢;have l:a c b<=0:=by by_cases h:a c b=0 <;> simp[h]at f <;> omega
   have m:a b d<=0:=by by_cases h:a b d=0 <;> simp[h]at g <;> omega
   have B:=e.lV c b d l m;by_cases h:a c d=0
   ·have n:a d c<=0:=by have:=e.neg c d;omega
    have C:=e.lV d c b n l;have D:=e.lV b d c m n;have r:a b d=0:=by have:=e.neg b d;omega
    have A:a c b=0:=by have:=e.neg c b;omega
    rw[bT A]at f;rw[bT r]at g;rw[bT h];exact aab e o p q f g
   omega
def RA{au:aB}{a:au->au->Int}(b:lH a):lH (lc a):=⟨YJ b,aab b⟩
def Qd{au:aB}{e:au->au->Int}(f:∀c b,e c b=0->c=b):∀{g h:R au},lc e g h=0->g=h
 |[],[],_=>rfl
 |[],_::_,a=>by grind[lc]
 |_::_,[],a=>by grind[lc]
 | c::i,b::j,a=>by
   unfold lc at a;split at a
   ·rename_i d;rw[f c b d,Qd f a]
   rename_i d;exact absurd a d
def gy(a:aW):Int:=((a.ep.toNat*18446744073709551616+a.df.toNat:Nat):Int)
def Ar{a c:aW}(d:gy a=gy c):a=c:=by
 obtain⟨e,b⟩:=a;obtain⟨f,g⟩:=c;unfold gy at d;simp only at d;first
 | (have h:=e.isLt;have i:=b.isLt;have j:=f.isLt;have k:=g.isLt
    have l:e=f:=xc (by omega)
    have m:b=g:=xc (by omega)
    simp_all)
def Qe(a b:aW):qZ a b=w (eB (gy a) (gy b)):=by
 unfold qZ;by_cases c:a=b
 ·subst c;simp only[Js,cond_true];rw[kg.2 o]
 simp only[c,Fw,cond_false,W];have g:gy a≠gy b:=λe=>c (Ar e);have f:((S (a.ep<b.ep))||((a.ep==b.ep)&&(S (a.df<b.df))))=S (gy a<gy b):=by
  rw[kW];simp only[qV,hx,ik,l1,zo];unfold gy;have h:=a.ep.isLt;have i:=a.df.isLt;have j:=b.ep.isLt;have k:=b.df.isLt;constructor
  ·grind
  intro e;by_cases l:a.ep.toNat<b.ep.toNat
  ·omega
  have:a.ep.toNat=b.ep.toNat:=by omega
  exact .inr ⟨xc this,by omega⟩
 rw[f];unfold eB;by_cases d:gy a<gy b
 ·simp[d]
 rw[zd d,bU d,bT (by omega)];rfl
def jl:R Int->Int
 |[]=>0
 |a::b=>if a=0 then jl b else a
def V4{a:R Int}(k:u a<=1000):xD a=w (jl a):=by
 refine aM.get ?_;unfold xD;refine .bind (P:=λe=>(∃c,e=.inl c∧jl a=0)∨∃c:Int,e=.inr c∧c=jl a)
  (aM.gC (u a) (λd f=>f=(d:Int)∧jl a=jl (a.drop d)) (by omega) ⟨rfl,rfl⟩ (λd f g b=>?_) (λf b=>?_)) λe j=>?_
 ·obtain⟨rfl,b⟩:=b;rw[qa g]at b;have b:jl a=if a[d]=0 then jl (a.drop (d+1))else a[d]:=b;refine .cond (λ_=>.idx o g ?_) λh=>by simp_all
  rw[dI _ g];refine .cond (λh=>.ret (.inr ⟨_,rfl,?_⟩)) λh=>.ret ⟨cZ (by omega),?_⟩
  ·simp_all
  simp_all
 ·obtain⟨rfl,b⟩:=b;refine .cond (λh=>by grind) λ_=>.ret (.inl ⟨_,rfl,?_⟩);rw[b,sa];rfl
 rcases j with⟨c,rfl,i⟩|⟨c,rfl,i⟩
 ·simp only[Z];exact .ret i.symm
 simp only[bP];exact .ret i
def ady{e:cJ->cJ->Int}{m:cJ->cJ->aw Int}(q:∀n b,m n b=w (e n b)){c a:R cJ}(C:u c<=100000)(D:u a<=100000):D5 c a m=w (lc e c a):=by
 refine aM.get ?_;unfold D5;refine .bind (P:=λk=>(∃h,k=.inl h∧lc e c a=if u c<u a then -1 else 0)∨∃h:Int,k=.inr h∧h=lc e c a)
  (aM.gC (u c) (λd l=>l=(d:Int)∧d<=u a∧lc e c a=lc e (c.drop d) (a.drop d)) (by omega) ⟨rfl,by omega,rfl⟩ (λd l i f=>?_) (λl f=>?_)) λk r=>?_
 ·obtain⟨rfl,A,f⟩:=f;refine .cond (λ_=>.idx o i (.cond (λg=>.ret (.inr ⟨_,rfl,?_⟩)) λg=>?_)) λg=>by simp_all
  ·have g:u a<=d:=by simp_all
   rw[f,qa i,Ed g];rfl
  have j:d<u a:=by simp_all
  rw[qa i,qa j]at f;refine .idx o j (.eq (q _ _) ?_);rw[dI _ i,dI _ j];have f:lc e c a=if e c[d] a[d]=0 then lc e (c.drop (d+1)) (a.drop (d+1))else e c[d] a[d]:=f;refine .cond (λg=>.ret (.inr ⟨_,rfl,?_⟩)) λg=>.ret ⟨cZ (by omega),j,?_⟩
  ·simp_all
  simp_all
 ·obtain⟨rfl,A,f⟩:=f;refine .cond (λg=>by grind) λ_=>.ret (.inl ⟨_,rfl,?_⟩);rw[f,sa];cases aq:a.drop (u c) with
  | nil=>
    have:=Io.1 aq
    rw[bU (by omega)];rfl
  | cons E B=>
    have:u a-u c=u B+1:=by grind[ce]
    rw[bT (by omega)];rfl
 rcases r with⟨h,rfl,p⟩|⟨h,rfl,p⟩
 ·simp only[Z];refine .cond (λg=>.ret ?_) λg=>.ret ?_
  ·simp_all
  simp_all
 simp only[bP];exact .ret p
def adz{e:aW->aW->Int}{m:aW->aW->aw Int}(q:∀n b,m n b=w (e n b)){c a:R aW}(C:u c<=100000)(D:u a<=100000):D6 c a m=w (lc e c a):=by
 refine aM.get ?_;unfold D6;refine .bind (P:=λk=>(∃h,k=.inl h∧lc e c a=if u c<u a then -1 else 0)∨∃h:Int,k=.inr h∧h=lc e c a)
  (aM.gC (u c) (λd l=>l=(d:Int)∧d<=u a∧lc e c a=lc e (c.drop d) (a.drop d)) (by omega) ⟨rfl,by omega,rfl⟩ (λd l i f=>?_) (λl f=>?_)) λk r=>?_
 ·obtain⟨rfl,A,f⟩:=f;refine .cond (λ_=>.idx o i (.cond (λg=>.ret (.inr ⟨_,rfl,?_⟩)) λg=>?_)) λg=>by simp_all
  ·have g:u a<=d:=by simp_all
   rw[f,qa i,Ed g];rfl
  have j:d<u a:=by simp_all
  rw[qa i,qa j]at f;refine .idx o j (.eq (q _ _) ?_);rw[dI _ i,dI _ j];have f:lc e c a=if e c[d] a[d]=0 then lc e (c.drop (d+1)) (a.drop (d+1))else e c[d] a[d]:=f;refine .cond (λg=>.ret (.inr ⟨_,rfl,?_⟩)) λg=>.ret ⟨cZ (by omega),j,?_⟩
  ·simp_all
  simp_all
 ·obtain⟨rfl,A,f⟩:=f;refine .cond (λg=>by grind) λ_=>.ret (.inl ⟨_,rfl,?_⟩);rw[f,sa];cases aq:a.drop (u c) with
  | nil=>
    have:=Io.1 aq
    rw[bU (by omega)];rfl
  | cons E B=>
    have:u a-u c=u B+1:=by grind[ce]
    rw[bT (by omega)];rfl
 rcases r with⟨h,rfl,p⟩|⟨h,rfl,p⟩
 ·simp only[Z];refine .cond (λg=>.ret ?_) λg=>.ret ?_
  ·simp_all
  simp_all
 simp only[bP];exact .ret p
def mB(a:cJ):Int:=if a.fO=T then 1 else 0
def al5(a:cJ):FK a=w (mB a):=by
 grind[FK,mB]
def pk:cJ->cJ->Int:=jo (λa b=>eB (mB a) (mB b)) (jo (λa b=>eB (gy a.b2) (gy b.b2)) (jo (λa b=>eB (gy a.fZ) (gy b.fZ)) (jo (λa b=>eB a.eT b.eT) (λa b=>eB (gy a.jU) (gy b.jU)))))
def RB:lH pk:=(sC.on mB).jo ((sC.on λa:cJ=>gy a.b2).jo ((sC.on λa:cJ=>gy a.fZ).jo ((sC.on λa:cJ=>a.eT).jo (sC.on λa:cJ=>gy a.jU))))
def X5{b c:cJ}(a:pk b c=0):b=c:=by
 obtain⟨d,a⟩:=vU a;obtain⟨e,a⟩:=vU a;obtain⟨f,a⟩:=vU a;obtain⟨g,h⟩:=vU a;refine P8 ?_ (Ar (kg.1 e)) (Ar (kg.1 f)) (kg.1 g) (Ar (kg.1 h));have:=kg.1 d;grind[mB]
def abd(c b d e a:Int):jl [c,b,d,e,a]=if c=0 then(if b=0 then(if d=0 then(if e=0 then a else e)else d)else b)else c:=by
 have:(if a=0 then 0 else a)=a:=by split <;> omega
 show(if c=0 then(if b=0 then(if d=0 then(if e=0 then(if a=0 then 0 else a)else e)else d)else b)else c)=_;rw[this]
def agH(a b:cJ):EX a b=w (pk a b):=by
 unfold EX;by_cases c:a=b
 ·subst c;simp only[Js,cond_true];rw[RB.self]
 simp only[c,Fw,cond_false,al5,wv,Qe,W];rw[V4 (by simp),abd];rfl
def ue:bg->bg->Int:=jo (λa b=>eB a.bZ b.bZ) (jo (λa b=>eB b.gk a.gk) (jo (λa b=>lc pk a.cp b.cp) (jo (λa b=>eB a.dR b.dR) (λa b=>lc (λc d=>eB (gy c) (gy d)) a.eX b.eX))))
def apo:lH ue:=(sC.on λa:bg=>a.bZ).jo ((sC.on λa:bg=>a.gk).rev.jo (((RA RB).on λa:bg=>a.cp).jo ((sC.on λa:bg=>a.dR).jo ((RA (sC.on gy)).on λa:bg=>a.eX))))
def apq{x y:bg}(a:ue x y=0):fE x y=T:=by
 obtain⟨c,a⟩:=vU a;obtain⟨d,a⟩:=vU a;obtain⟨e,a⟩:=vU a;exact su.2 ⟨kg.1 c,Qd (λf b=>X5) e,(kg.1 d).symm⟩
def ak1{a b:bg}(c:u a.cp<=1000)(d:u b.cp<=1000)(e:u a.eX<=1000)(f:u b.eX<=1000):JK a b=w (ue a b):=by
 unfold JK;rw[wv,wv,wv,ady agH (by omega) (by omega),adz Qe (by omega) (by omega)];simp only[W];rw[V4 (by simp),abd];rfl
def Gz{au:aB}[Inhabited au]{a:R au}{b:Nat}{d:au}(e:b<u a)(c:Nat):al (eZ a b d) c=if c=b then d else al a c:=by
 grind[al,eZ]
def W8{h:aJ->aJ->Int}(k:lH h):∀{f i:R aJ},f.Perm i->f.Pairwise (λa b=>h a b<=0)->i.Pairwise (λa b=>h a b<=0)->(∀a∈f,∀b∈f,h a b=0->a=b)->f=i
 |[],i,d,_,_,_=>d.nil_eq
 |c::l,[],d,_,_,_=>by simp_all
 | c::l,e::o,d,p,q,m=>by
   obtain⟨r,A⟩:=lh.1 p;obtain⟨B,C⟩:=lh.1 q;have g:c=e:=by
    have j:c∈e::o:=d.mem_iff.1 jS;have n:e∈c::l:=d.mem_iff.2 jS;rcases fj.1 j with g|j
    ·exact g
    rcases fj.1 n with g|D
    ·exact g.symm
    refine m c jS e n ?_;have G:=r e D;have H:=B c j;have:=k.neg c e;omega
   subst g;rw[W8 k (List.perm_cons c |>.1 d) A C λa E b F=>m a (gO _ E) b (gO _ F)]
def _root_.Gv.cB.next{b:aB}{n:Nat}{c:R Nat}{d:aw Nat->ag b}{e:b->Prop}(f:∀a,A1 n c a->cB (d a) e):cB (a' (ag.next n c) d) e:=λg h a i=>f a i g h
def _root_.Gv.cB.wx{a:aB}{d:R a}{f:a->a->aw Int}{c:a->a->Int}(h:yE c)(i:u d<4611686018427387904)(j:∀e∈d,∀b∈d,f e b=w (c e b)):cB (ag.wx d f) (λg=>g.Perm d∧g.Pairwise (λe b=>c e b<=0)):=λo k=>⟨c,h,i,j,λl m n=>k l ⟨m,n⟩⟩
structure Met(n:Nat)(sN:List Nat):Prop where
 one:sN.Nodup
 lt:∀q∈sN,q<n
def Met.more{c:Nat}{d:R Nat}{e:Nat}(f:Met c d)(h:e<c∧e∉d):Met c (d++[e]):=
 ⟨by rw[rZ];exact⟨f.one,by simp,λg a b i j=>by simp_all⟩,λg a=>by
  rcases eN.1 a with a|a
  ·exact f.lt g a
  simp_all⟩
def Met.perm{a:Nat}{b:R Nat}(d:Met a b)(g:∀e,e<a->e∈b):b.Perm (bQ a):=
 (SQ d.one List.nodup_range).2 λf=>⟨λc=>qW.2 (d.lt f c),λc=>g f (qW.1 c)⟩
def Met.full{a:Nat}{b:R Nat}(f:Met a b)(i:u b=a){d:Nat}(g:d<a):d∈b:=by
 false_or_by_contra;rename_i j;have c:b.Perm ((bQ a).filter λe=>decide (e∈b)):=(SQ f.one (List.nodup_range.filter _)).2 λh=>by
  rw[uk,qW,ik];exact⟨λc=>⟨f.lt h c,c⟩,λc=>c.2⟩
 have k:=c.length_eq;have l:u ((bQ a).filter λe=>decide (e∈b))<u (bQ a):=List.length_filter_lt_length_iff_exists.2 ⟨d,qW.2 g,by simp_all⟩;simp_all
def V5{au:aB}[Inhabited au](a:R au):(bQ (u a)).map (λb=>al a b)=a:=by
 apply EJ
 ·simp
 simp_all[xi,Nx,dI]
def oe(a b:aJ):Int:=ue a.aS b.aS
def G6:lH oe:=apo.on λa:aJ=>a.aS
def aac{F:aU}(G:ch F){H:Nat}(I:H<4){p:aL Cell}{J:Nat}{g:R aJ}{aa:Nat->Prop}(K:ko F H p J g aa)(ag:u g<=900):
 cB (B0 p (w J)) (λq=>q.2=p∧q.1.Perm g∧q.1.Pairwise (λf b=>oe f b<=0)):=by
 obtain⟨ah,ai,a,ab,ac,aj,ak,r,am⟩:=K.cell
 have L:=K.fW.ok
 have an:u a=u g:=by rw[r.length_eq,lY]
 have ad:∀d,d<u a->(al a d).2∈g:=λd ao=>by
  have ae:al a d∈a:=by simp_all[dI]
  obtain⟨A,ap,m⟩:=lk.1 (r.mem_iff.1 ae);grind
 have M:∀e,Met (u a) e->(∀l,l<u a->l∈e)->(e.map λd=>(al a d).2).Perm g:=λe h k=>by
  refine((h.perm k).map _).trans ?_;have:(bQ (u a)).map (λd=>(al a d).2)=a.map (·.2):=by
   rw[show(bQ (u a)).map (λd=>(al a d).2)=((bQ (u a)).map (λd=>al a d)).map (·.2) by simp_all,V5]
  rw[this];refine(r.map (·.2)).trans ?_;rw[uu,show((λaf:Int×aJ=>af.2) ∘ λA:aJ=>(A.ct,A))=id from rfl,List.map_id]
 unfold B0
 refine .cond (λi=>by cases i) λ_=>.eq rfl (.eq ab (.eq rfl (.eq ac ?_)))
 refine .bind (P:=λm=>m.2.Perm g) (cB.loop (u a) (λl B=> ∃e,B=(e,e.map λd=>(al a d).2)∧u e=l∧Met (u a) e) (by omega) ⟨[],rfl,rfl,.nil,by simp⟩ (λl B aq C=>?_) (λB C=>?_)) λm D=>?_
 ·obtain⟨e,rfl,N,h⟩:=C
  refine .next λE j=>?_
  cases E with
  |none=>exact .cond (λi=>by cases i) λ_=>.ret (M e h j)
  | some d=>
    refine .cond (λ_=>.eq o (.eq (G2 G I (L.ok _ (ad d j.1))) (.eq (eS _ _ (by grind) (by omega)) (.ret ⟨e++[d],?_,by grind,h.more j⟩)))) λi=>by cases i
    simp_all
 ·obtain⟨e,rfl,N,h⟩:=C
  refine .next λE j=>?_
  cases E with
  |none=>exact .cond (λi=>by cases i) λ_=>.ret (M e h j)
  |some d=>exact absurd (h.full N j.1) j.2
 have n:∀f∈m.2,u f.aS.cp<=1000∧u f.aS.eX<=1000:=λf k=>(L.ok f (D.mem_iff.1 k)).small G I
 have ar:=D.length_eq
 refine .bind (cB.wx (c:=oe) ⟨G6.neg,G6.lV⟩ (by omega) λf k b O=>?_) λau Q=>.ret ⟨rfl,Q.1.trans D,Q.2⟩
 unfold IY
 rw[ak1 (n f k).1 (n b O).1 (n f k).2 (n b O).2]
 rfl
def L3(d:Nat->R aJ)(c:Nat)(a:R aJ):Prop:=if c=0 then a=[]else a.Perm (d (c-1))∧a.Pairwise (λe b=>oe e b<=0)
def ajh{e:aU}(i:ch e){c:aL Cell}{f:Nat}{d:Nat->R aJ}{j:Int}(g:va e c f d j){x:Nat}(p:x<=4)(k:∀a,a<4->u (d a)<=12):
 cB (xq c (w f) (x:Int)) (λb=>b.2=c∧L3 d x b.1):=by
 unfold xq
 by_cases h:x=0
 ·subst h
  refine .eq (ajf g (by omega)) ?_
  unfold B0
  exact .bind (P:=λb=>b=([],c)) (.cond (λ_=>.ret o) λl=>by cases l) λb aF=>.ret (by rw[aF];exact⟨rfl,by unfold L3;rw[bT o]⟩)
 obtain⟨a,rfl⟩:∃a,x=a+1:=⟨x-1,by omega⟩
 obtain⟨q,r,m,n⟩:=KI g (show a<4 by omega)
 rw[show((a+1:Nat):Int)=(a:Int)+1 by omega]
 refine .eq m (.bind (aac i (show a<4 by omega) n (mK (k a (by omega)) (by omega))) λb aF=>.ret ⟨aF.1,?_⟩)
 unfold L3;rw[bU h];exact aF.2
def va.fW{b:aU}{d:aL Cell}{e:Nat}{c:Nat->R aJ}{f:Int}(g:va b d e c f){a:Nat}(h:a<4):ix b a (c a):=by
 obtain⟨j,k,_,i⟩:=KI g h;exact i.fW
def Pp{a:Nat->R aJ}{b:Nat}:eD a b (a b)=a:=by
 funext j;unfold eD;split
 ·rename_i c;rw[c]
 rfl
def ku(a b:Int):Prop:=(a<0↔b<0)∧(0<a↔0<b)
def ku.zero{a b:Int}(c:ku a b):a=0↔b=0:=by
 obtain⟨d,e⟩:=c;omega
def ku.refl(a:Int):ku a a:=⟨Iff.rfl,Iff.rfl⟩
def Lz{au:aB}{f c:au->au->Int}{a b:au}(d:f a b=0):jo f c a b=c a b:=by simp_all[jo,bT]
def LA{au:aB}{f c:au->au->Int}{a b:au}(d:f a b≠0):jo f c a b=f a b:=by simp_all[jo,bU]
def al6{a b:aW}:vg a b=T↔gy a<gy b:=by
 rw[P6];simp only[zo];unfold gy;have c:=a.ep.isLt;have d:=a.df.isLt;have e:=b.ep.isLt;have f:=b.df.isLt;constructor
 ·grind
 intro g;by_cases h:a.ep.toNat<b.ep.toNat
 ·omega
 have:a.ep.toNat=b.ep.toNat:=by omega
 exact .inr ⟨xc this,by omega⟩
def GQ(a b:aW):aM (te a b) (λc=>ku c (eB (gy a) (gy b))):=by
 refine(O0 a b).mono λc aF=>?_;obtain⟨d,e⟩:=aF;rw[al6]at d e;exact⟨by simp_all[Hk],by simp_all[Dn]⟩
def GR(a b:Int):sg a b=w (eB a b):=by
 grind[sg,eB]
def aif(b a:cJ):aM (Ci b a) (λd=>ku d (pk b a)):=by
 unfold Ci pk;by_cases g:b.fO=a.fO
 ·have h:eB (mB b) (mB a)=0:=kg.2 (by simp_all[mB]);rw[show(b.fO !=a.fO)=U by simp[g]];refine .cond (λc=>by grind) λ_=>.cond (λc=>by cases c) λ_=>?_;rw[Lz (f:=λb a=>eB (mB b) (mB a)) h];refine .cond (λc=>(GQ _ _).bind λd aF=>.ret ?_) λc=>?_
  ·rw[LA]
   ·exact aF
   intro e;have:=Ar (kg.1 e);simp_all
  have i:b.b2=a.b2:=by simp_all
  rw[Lz (f:=λb a:cJ=>eB (gy b.b2) (gy a.b2)) (show eB (gy b.b2) (gy a.b2)=0 by rw[i];exact kg.2 o)];refine .cond (λc=>(GQ _ _).bind λd aF=>.ret ?_) λc=>?_
  ·rw[LA]
   ·exact aF
   intro e;have:=Ar (kg.1 e);simp_all
  have j:b.fZ=a.fZ:=by simp_all
  rw[Lz (f:=λb a:cJ=>eB (gy b.fZ) (gy a.fZ)) (show eB (gy b.fZ) (gy a.fZ)=0 by rw[j];exact kg.2 o)];refine .cond (λc=>.eq (GR _ _) (.ret ?_)) λc=>?_
  ·rw[LA]
   ·exact ku.refl _
   intro e;have:=kg.1 e;simp_all
  have k:b.eT=a.eT:=by simp_all
  rw[Lz (f:=λb a:cJ=>eB b.eT a.eT) (show eB b.eT a.eT=0 by rw[k];exact kg.2 o)];exact(GQ _ _).bind λd aF=>.ret aF
 rw[show(b.fO !=a.fO)=T by simp[g]];have l:eB (mB b) (mB a)=if a.fO=T then -1 else 1:=by
  grind[mB,eB]
 have m:eB (mB b) (mB a)≠0:=by omega
 rw[LA (f:=λb a=>eB (mB b) (mB a)) m];show aM _ (λd=>ku d (eB (mB b) (mB a)));rw[l];refine .cond (λc=>.ret ?_) λc=>.cond (λ_=>.ret ?_) λc=>by cases c
 ·rw[bT (by simp_all)];exact ku.refl _
 rw[bU (by simp_all)];exact ku.refl _
def X6{au:aB}[Inhabited au]{f:au->au->Int}{A:au->au->aw Int}(D:∀B b,aM (A B b) (λg=>ku g (f B b))){a c:R au}(K:u a<=100000)(L:u c<=100000):
 aM ((cj (bb:=Int) (bp:=bG⊕Int) bX (λi=>
 cond ((S (i<(u a:Int)))&&(S (i<(u c:Int)))) (
  (idx (u a) i).bind λE=>
  (idx (u c) i).bind λF=>
  (A (al a E) (al c F)).bind λC=>
  cond (C !=0) (
   w (.inr (Sum.inr C))) (
   w (.inl (aV (i+1))))) (
  w (.inr (Sum.inl ())))) 0).bind λk=>
 Sum.elim (λk=>
  (sg (u a:Int) (u c:Int)).bind λG=>
  w G) (λk=>
 w k) k) (λg=>ku g (lc f a c)):=by
 refine .bind (P:=λl=>(∃h,l=.inl h∧lc f a c=eB (u a:Int) (u c:Int))∨∃h:Int,l=.inr h∧ku h (lc f a c))
  (aM.gC (min (u a) (u c)) (λd m=>m=(d:Int)∧lc f a c=lc f (a.drop d) (c.drop d)) (by omega) ⟨rfl,rfl⟩ (λd m M e=>?_) (λm e=>?_)) λl H=>?_
 ·obtain⟨rfl,e⟩:=e
  have n:d<u a:=by omega
  have p:d<u c:=by omega
  refine .cond (λ_=>?_) λq=>by
   simp_all
  rw[qa n,qa p]at e
  refine .idx o n (.idx o p ((D _ _).bind λg aF=>?_))
  rw[dI _ n,dI _ p]at aF
  have e:lc f a c=if f a[d] c[d]=0 then lc f (a.drop (d+1)) (c.drop (d+1))else f a[d] c[d]:=e
  refine .cond (λq=>.ret (.inr ⟨_,rfl,?_⟩)) λq=>.ret ⟨cZ (by omega),?_⟩
  ·have:g≠0:=by simp_all
   rw[e,bU (λj=>this (aF.zero.2 j))];exact aF
  have:g=0:=by simp_all
  rw[e,bT (aF.zero.1 this)]
 ·obtain⟨rfl,e⟩:=e
  refine .cond (λq=>by
   grind) λ_=>.ret (.inl ⟨_,rfl,?_⟩)
  rw[e]
  rcases ED (u a) (u c) with j|j|j
  ·rw[show min (u a) (u c)=u a by omega,sa]
   cases aq:c.drop (u a) with
   |nil=>have:=Io.1 aq;omega
   | cons I J=>
     unfold eB
     rw[bT (by omega)];rfl
  ·rw[show min (u a) (u c)=u a by omega,sa,j,sa,kg.2 o];rfl
  rw[show min (u a) (u c)=u c by omega,sa]
  cases aq:a.drop (u c) with
  |nil=>have:=Io.1 aq;omega
  | cons I J=>
    unfold eB
    rw[bU (by omega),bT (by omega)];rfl
 rcases H with⟨h,rfl,r⟩|⟨h,rfl,r⟩
 ·simp only[Z]
  refine .eq (GR _ _) (.ret ?_)
  rw[r];exact ku.refl _
 simp only[bP]
 exact .ret r
def Vd{a b:R cJ}(d:u a<=1000)(e:u b<=1000):aM (zH a b) (λc=>ku c (lc pk a b)):=by
 unfold zH;exact X6 aif (by omega) (by omega)
def ahh{a b:R aW}(f:u a<=1000)(g:u b<=1000):aM (Ce a b) (λc=>ku c (lc (λd e=>eB (gy d) (gy e)) a b)):=by
 unfold Ce;exact X6 GQ (by omega) (by omega)
def aih{l:R Int}(j:u l<=1000):aM (cj (bb:=Int) (bp:=bG⊕Int) bX (λd=>
 cond (S (d<(u l:Int))) (
  (idx (u l) d).bind λh=>
  cond ((al l h) !=0) (
   w (.inr (Sum.inr (al l h)))) (
   w (.inl (aV (d+1))))) (
  w (.inr (Sum.inl ())))) 0) (λi=>(∃c,i=.inl c∧jl l=0)∨∃c:Int,i=.inr c∧c=jl l∧jl l≠0):=by
 refine aM.gC (u l) (λb e=>e=(b:Int)∧jl l=jl (l.drop b)) (by omega) ⟨rfl,rfl⟩ (λb e f a=>?_) (λe a=>?_)
 ·obtain⟨rfl,a⟩:=a
  rw[qa f]at a
  have a:jl l=if l[b]=0 then jl (l.drop (b+1))else l[b]:=a
  refine .cond (λ_=>.idx o f ?_) λg=>by simp_all
  rw[dI _ f]
  refine .cond (λg=>.ret (.inr ⟨_,rfl,?_⟩)) λg=>.ret ⟨cZ (by omega),?_⟩
  ·simp_all
  simp_all
 obtain⟨rfl,a⟩:=a
 refine .cond (λg=>by grind) λ_=>.ret (.inl ⟨_,rfl,?_⟩)
 rw[a,sa];rfl
def arL(c b d a:Int):jl [c,b,d,a]=if c=0 then(if b=0 then(if d=0 then a else d)else b)else c:=by
 have aq:jl [a]=a:=by
  show(if a=0 then 0 else a)=a;omega
 show(if c=0 then(if b=0 then(if d=0 then jl [a]else d)else b)else c)=_;rw[aq]
def apr{b c i f d v j:Int}(m:ku i f)(a:j=if b=0 then(if c=0 then(if i=0 then d else i)else c)else b):
 (j≠0->ku j (if b=0 then(if c=0 then(if f=0 then(if d=0 then v else d)else f)else c)else b))∧(j=0->(if b=0 then(if c=0 then(if f=0 then(if d=0 then v else d)else f)else c)else b)=v):=by
 have n:=m.zero
 by_cases e:b=0
 ·rw[bT e]at a
  by_cases g:c=0
  ·rw[bT g]at a
   by_cases k:i=0
   ·rw[bT k]at a
    rw[bT e,bT g,bT (n.1 k)]
    by_cases l:d=0
    ·omega
    rw[bU l,a];exact⟨λ_=>ku.refl _,λh=>absurd h l⟩
   simp_all
  rw[bU g]at a
  rw[bT e,bU g,a]
  exact⟨λ_=>ku.refl _,λh=>absurd h g⟩
 rw[bU e]at a
 rw[bU e,a]
 exact⟨λ_=>ku.refl _,λh=>absurd h e⟩
def ak2{a b:bg}(f:u a.cp<=1000)(g:u b.cp<=1000)(h:u a.eX<=1000)(i:u b.eX<=1000):aM (vL a b) (λd=>ku d (ue a b)):=by
 unfold vL;refine .eq (GR _ _) (.eq (GR _ _) ((Vd f g).bind λe j=>.eq (GR _ _) ((aih (l:=[eB a.bZ b.bZ,eB b.gk a.gk,e,eB a.dR b.dR]) (by simp)).bind λr k=>?_)));have m:ue a b=if eB a.bZ b.bZ=0 then(if eB b.gk a.gk=0 then(if lc pk a.cp b.cp=0 then(if eB a.dR b.dR=0 then lc (λv c=>eB (gy v) (gy c)) a.eX b.eX else eB a.dR b.dR)else lc pk a.cp b.cp)else eB b.gk a.gk)else eB a.bZ b.bZ:=rfl;obtain⟨n,o⟩:=apr (v:=lc (λv c=>eB (gy v) (gy c)) a.eX b.eX) j (arL (eB a.bZ b.bZ) (eB b.gk a.gk) e (eB a.dR b.dR));rw[<-m]at n o;rcases k with⟨p,rfl,q⟩|⟨p,rfl,A,q⟩
 ·simp only[Z];refine(ahh h i).bind λd aF=>.ret ?_;grind
 simp only[bP];refine .ret ?_;simp_all
def W9{b c:bg}(g:u b.cp<=1000)(h:u c.cp<=1000):FU b c=w (fE b c):=by
 refine aM.get ?_;unfold FU;refine .bs (P:=λf=>ku f (lc pk b.cp c.cp)) (λ_=>Vd g h) λf aF=>.eq o (.ret ?_);rw[kW,su];simp only[hx,l1]at aF⊢;constructor
 ·rintro ⟨⟨a,d⟩,e⟩;exact⟨a,Qd (λ_ _=>X5) ((aF ⟨a,d⟩).zero.1 e),d⟩
 rintro ⟨a,d,e⟩;exact⟨⟨a,e⟩,(aF ⟨a,e⟩).zero.2 (by rw[d];exact(RA RB).self _)⟩
def dq(a:Nat->R aJ):R aJ:=a 0++a 1++a 2++a 3
def PH{a:Nat->R aJ}{b:aJ}:b∈dq a↔∃c,c<4∧b∈a c:=by
 grind[dq]
def xK{c d:Nat->R aJ}(a:∀b,b<4->(c b).Perm (d b)):(dq c).Perm (dq d):=
 (((a 0 (by decide)).append (a 1 (by decide))).append (a 2 (by decide))).append (a 3 (by decide))
def nX{ls:Nat->R aJ}{k:Nat}(b:k<4)(a:aJ):(dq ls++[a]).Perm (dq (eD ls k (ls k++[a]))):=by
 grind[dq,b',il,kc]
structure nC(s:aU)(ls:Nat->List aJ):Prop where
 fW:∀k,k<4->ix s k (ls k)
 len:∀k,k<4->(ls k).length<=12
structure jX(s:aU)(y:cR)(ls:Nat->List aJ)(next:Int):Prop where
 qH:y.jA=s
 num:y.jm=next
 AZ:y.b8.Pairwise (λa b=>oe a b<=0)
 sP:y.b8.Perm (dq ls)
def jX.len{b:aU}{c:cR}{d:Nat->R aJ}{e:Int}(f:jX b c d e)(a:nC b d):u c.b8<=48:=by
 rw[f.sP.length_eq];unfold dq;have g:=a.len 0 (by decide);have h:=a.len 1 (by decide);have i:=a.len 2 (by decide);have j:=a.len 3 (by decide);grind
def jX.mem{e:aU}{a:cR}{b:Nat->R aJ}{f:Int}(g:jX e a b f){c:aJ}:c∈a.b8↔∃d,d<4∧c∈b d:=by
 rw[g.sP.mem_iff,PH]
def jX.dS{d:aU}{f:cR}{e:Nat->R aJ}{h:Int}(i:jX d f e h)(j:nC d e){b:aJ}(c:b∈f.b8):∃a,a<4∧b∈e a∧kp d a b:=by
 obtain⟨a,g,c⟩:=i.mem.1 c;exact⟨a,g,c,(j.fW a g).ok.ok b c⟩
def jX.small{a:aU}(f:ch a){d:cR}{e:Nat->R aJ}{g:Int}(h:jX a d e g)(i:nC a e){b:aJ}(c:b∈d.b8):u b.aS.cp<=1000∧u b.aS.eX<=1000:=by
 obtain⟨k,j,_,c⟩:=h.dS i c;exact c.small f j
theorem jX.dM{b:aU}(r:ch b){i:cR}{c:Nat->R aJ}{l:Int}(j:jX b i c l)(m:nC b c){a:Nat}(n:a<4){d:bg}(o:fu b a d):(i.b8.any λe=>fE e.aS d)=(Go.Proofs.YtmcjlfmeoehcmaaGreat.dM (c a) d).isSome:=by
 rw[kW,oA];constructor
 ·rintro ⟨e,g,h⟩;obtain⟨k,A,B,p⟩:=j.dS m g;have q:=(su.1 h).1;rw[p.dS.ev,o.ev]at q;have:k=a:=by omega
  subst this;cases f:Go.Proofs.YtmcjlfmeoehcmaaGreat.dM (c k) d with
  |some _=>rfl
  |none=>grind[tp]
 intro f;obtain⟨e,f⟩:=Bd.1 f;obtain⟨g,h⟩:=mP f;exact⟨e,j.mem.2 ⟨a,n,g⟩,h⟩
def RX(a:cR)(b:Int):R aJ:=a.b8.filter λc=>c.aS.bZ==b
def aii{a:cR}{b:Int}(m:u a.b8<=1000):Fa a b=w (RX a b):=by
 refine aM.get ?_;unfold Fa;refine .bind (P:=λh=>h=RX a b) (aM.gC (u a.b8) (λc e=>e=((c:Int),(a.b8.take c).filter λd=>d.aS.bZ==b)) (by omega) o (λc e j f=>?_) (λe f=>?_)) λh k=>.ret k
 ·subst f;have l:=Ik (λd:aJ=>d.aS.bZ==b) (a.b8.take c);rw[oz]at l;refine .cond (λ_=>.idx o j (.bind (P:=λi=>i=(a.b8.take (c+1)).filter λd=>d.aS.bZ==b) (.cond (λg=>.eq (eS _ _ (by grind) (by omega)) (.ret ?_)) λg=>.ret ?_) λi n=>.ret ?_)) λg=>by simp_all
  ·simp_all[mL,oy,ci,l7,cl]
  ·simp_all[mL,oy,ci,qe]
  grind[cZ]
 subst f;refine .cond (λg=>by grind) λ_=>.ret ?_;show List.filter _ (List.take _ _)=_;rw[mJ];rfl
def aij{g:aU}{h:cR}{c:Nat->R aJ}{l:Int}(m:jX g h c l)(i:nC g c){a:Nat}(p:a<4):(RX h ((a:Int)+1)).Perm (c a):=by
 refine(m.sP.filter _).trans ?_;have d:∀b,b<4->(c b).filter (λn=>n.aS.bZ==(a:Int)+1)=if b=a then c b else []:=λb j=>by
  by_cases k:b=a
  ·subst k;rw[bT o];exact rU.2 λe f=>by rw[((i.fW b j).ok.ok e f).dS.ev];simp
  rw[bU k];exact M9.2 λe f=>by rw[((i.fW b j).ok.ok e f).dS.ev];grind
 unfold dq;rw[oy,oy,oy,d 0 (by decide),d 1 (by decide),d 2 (by decide),d 3 (by decide)];have:a=0∨a=1∨a=2∨a=3:=by omega
 rcases this with rfl|rfl|rfl|rfl <;> simp
def YK{a b:bg}:(a.bZ<b.bZ->ue a b<0)∧(b.bZ<a.bZ->0<ue a b):=by
 have e:ue a b=if eB a.bZ b.bZ=0 then _ else eB a.bZ b.bZ:=rfl;constructor
 ·intro c;rw[e,bU (λd=>by have:=kg.1 d;omega)];exact Hk.2 c
 intro c;rw[e,bU (λd=>by have:=kg.1 d;omega)];exact Dn.2 c
def GA{a:aU}(e:ch a){c:cR}(f:c.jA=a){b:Nat}(g:b<4){d:bg}(h:fu a b d):vE c d=w (b:Int):=by
 refine aM.get ?_;unfold vE;rw[f,h.ev];exact(Gn e g).bind λi aF=>.ret aF
def X7{m:aU}(f:ch m){c:cR}{F:Nat->R aJ}{L:Int}(j:jX m c F L)(G:nC m F){k:Nat}(r:k<4){i:aJ}(n:kp m k i):
 aM (BZ c i) (λh=>h.jA=c.jA∧h.jm=c.jm∧h.b8.Pairwise (λa b=>oe a b<=0)∧h.b8.Perm (c.b8++[i])):=by
 have ak:=j.len G
 unfold BZ
 refine .bind (P:=λA=> ∃d:Nat,d<=u c.b8∧A=(d:Int)∧(∀a∈c.b8.take d,oe a i<=0)∧(∀aQ:d<u c.b8,0<oe (c.b8[d]) i))
  (aM.gC (u c.b8) (λe B=>B=(e:Int)∧∀a∈c.b8.take e,oe a i<=0) (by omega) ⟨rfl,λa M=>by grind⟩ (λe B H f=>?_) (λB f=>?_)) λA N=>?_
 ·obtain⟨rfl,C⟩:=f
  have O:al c.b8 e∈c.b8:=by simp_all[dI]
  obtain⟨g,D,_,p⟩:=j.dS G O
  have am:ku 1 1:=ku.refl 1
  refine .cond (λ_=>?_) λl=>by simp_all
  refine .idx o H (.eq (GA f j.qH D p.dS) (.eq (GA f j.qH r n.dS) ?_))
  refine .bs (P:=λQ=>Q=e) (λ_=>⟨e,lo H,rfl⟩) λan aa=>?_
  refine .bs (P:=λh=>ku h (oe (al c.b8 e) i)) (λl=>by
   rw[aa l];exact ak2 (p.small f D).1 (n.small f r).1 (p.small f D).2 (n.small f r).2) λab E=>?_
  have ac:((S ((g:Int)>(k:Int)))||(((g:Int)==(k:Int))&&(S (ab>0))))=S (0<oe (al c.b8 e) i):=by
   obtain⟨ad,ae⟩:=YK (a:=(al c.b8 e).aS) (b:=i.aS);rw[p.dS.ev,n.dS.ev]at ad ae;have ao:oe (al c.b8 e) i=ue (al c.b8 e).aS i.aS:=rfl;rcases ED g k with ap|af|ar
   ·grind
   ·subst af;have E:=E (by simp);rw[zd (show ¬(g:Int)>(g:Int) by omega),show((g:Int)==(g:Int))=T by simp,vF,tb];exact BD.2 E.2
   simp_all
  rw[ac]
  refine .cond (λl=>.ret ⟨e,by omega,rfl,C,λaQ=>?_⟩) λl=>.ret ⟨cZ (by omega),λa M=>?_⟩
  ·simp_all[dI]
  grind[mL]
 ·obtain⟨rfl,C⟩:=f
  exact .cond (λl=>by grind) λ_=>.ret ⟨u c.b8,jT _,rfl,C,λaQ=>absurd aQ (Fk _)⟩
 obtain⟨d,aQ,rfl,au,ag⟩:=N
 have av:i=i:=rfl
 refine .eq (a:=c.b8.take d) (by simp_all[kF,bT]) ?_
 refine .eq (eS _ _ (by grind) (by omega)) (.eq (eS _ _ (by grind) (by omega)) (.eq (a:=c.b8.drop d) (by simp_all[kF,bT,rS]) (.eq (eS _ _ (by grind) (by omega)) (.ret ?_))))
 simp only[List.nil_append]
 have I:c.b8.Pairwise (λa b=>oe a b<=0):=j.AZ
 refine⟨b5,b5,?_,?_⟩
 ·have aw:∀b∈c.b8.drop d,oe i b<=0:=λb q=>by
   have J:d<u c.b8:=by
    grind
   have ah:=ag J;have ai:oe i c.b8[d]<=0:=by have:=(G6.neg i c.b8[d]).2 ah;omega
   have aq:c.b8.drop d=c.b8[d]::c.b8.drop (d+1):=qa J;rw[aq]at q;rcases fj.1 q with A|q
   ·grind
   have K:=I.sublist (List.drop_sublist d _);rw[aq]at K;exact G6.lV _ _ _ ai ((lh.1 K).1 b q)
  have aj:=I
  rw[<-rT d c.b8,xd]at aj
  grind
 grind[b',List.take_append_drop]
def wP(a:Nat->R aJ):Nat->R aJ
 |0=>[]
 |b+1=>wP a b++a b
def Xa{d:Nat->R aJ}{e:aJ}:∀{b},e∈wP d b->∃c,c<b∧e∈d c
 |0,a=>by cases a
 | b+1,a=>by
   rcases eN.1 a with a|a
   ·obtain⟨c,f,g⟩:=Xa a;grind
   grind
def Xb{b:Nat->R aJ}(d:∀c,c<4->u (b c)<=12):∀a,a<=4->u (wP b a)<=12*a
 |0,_=>jT 0
 | a+1,e=>by
   have:=Xb d a (by omega);grind[wP]
def al7{g:aU}(l:ch g){f:aL Cell}{n:Nat}{h:Nat->R aJ}{F:Int}{y:cR}(G:va g f n h F)(aF:jX g y h F)(d:nC g h):cB (B1 f (w n)) (λM=>M=(y.b8,f)):=by
 obtain⟨ak,am,an,N,ao,ap⟩:=G.cell;unfold B1;refine .cond (λp=>by cases p) λ_=>.eq rfl (.eq N ?_);refine .bind (P:=λH=>H=(y.b8,f)) (cB.loop 4 (λk q=> ∃e,q=((k:Int),e,f)∧e.Perm (wP h k)∧e.Pairwise (λa b=>oe a b<=0)) (by decide) ⟨[],rfl,.refl _,.nil⟩ (λk q r A=>?_) (λq A=>?_)) λH O=>.ret (by rw[O])
 ·obtain⟨e,rfl,i,B⟩:=A;have Q:=(l.ev r).1;have aa:=l.jM;refine .cond (λ_=>?_) λp=>by grind
  refine .idx (k:=k) o (by simp_all) ?_;show cB (a' (xq f (w n) (al g.bK k).cA) λI=>_) _;rw[Q,show(k:Int)+1=((k+1:Nat):Int) by omega];refine .bind (ajh l G (x:=k+1) (by omega) d.len) λI ab=>?_;obtain⟨C,aq⟩:=I;obtain⟨J,c⟩:=ab;simp only at J c;subst J;unfold L3 at c;rw[bU (by omega)]at c;have c:C.Perm (h k)∧C.Pairwise (λa b=>oe a b<=0):=c;have ar:=i.length_eq;have au:=Xb d.len k (by omega);have av:=c.1.length_eq;have aw:=d.len k r;refine .eq (eS _ _ (by grind) (by omega)) (.ret ⟨e++C,by grind[eU],i.append c.1,?_⟩);rw[xd];refine⟨B,c.2,λa j b D=>?_⟩;obtain⟨m,K,j⟩:=Xa (i.mem_iff.1 j);have ax:=((d.fW m (by omega)).ok.ok a j).dS.ev;have ay:=((d.fW k r).ok.ok b (c.1.mem_iff.1 D)).dS.ev;have:=(YK (a:=a.aS) (b:=b.aS)).1 (by omega);show ue a.aS b.aS<=0;omega
 obtain⟨e,rfl,i,B⟩:=A;have aa:=l.jM;refine .cond (λp=>by simp_all) λ_=>.ret ?_;have E:e.Perm y.b8:=i.trans aF.sP.symm;have:e=y.b8:=W8 G6 E B aF.AZ λa j b D ac=>by
  obtain⟨m,K,ad,ae⟩:=aF.dS d (E.mem_iff.1 j);obtain⟨af,az,ah,ai⟩:=aF.dS d (E.mem_iff.1 D);have L:=apq (x:=a.aS) (y:=b.aS) ac;have aj:=(su.1 L).1;rw[ae.dS.ev,ai.dS.ev]at aj;have:m=af:=by omega
  subst this;exact(d.fW m K).uniq ad ah L
 rw[this]
def aji{c:aU}{d:Nat}{e f:R aJ}(a:lS c d e)(b:f.Perm e):lS c d f:=
 ⟨λg h=>a.ok g (b.mem_iff.1 h),(b.pairwise_iff λi=>Cm i).2 a.num,by rw[b.length_eq];exact a.len⟩
def re{c:Nat->R aJ}{a:Nat}{d b:R aJ}:eD (eD c a d) a b=eD c a b:=by
 grind[eD]
def Le{a:R aJ}{b:bg}(c:dM a b=Y):dx a b=a:=by
 unfold dx;exact rU.2 λd e=>by grind[tp]
def Pq{b:R aJ}{a:bg}{c:aJ}(d:fE c.aS a=T):dx (b++[c]) a=dx b a:=by
 simp_all[dx,oy]
def uB{i:aU}{j:Nat}{d:R aJ}(k:ix i j d){a:bg}{e:aJ}(l:e∈d)(p:fE e.aS a=T):(dx d a++[e]).Perm d:=by
 obtain⟨g,b,rfl⟩:=List.append_of_mem l;have h:=k.key;rw[xd]at h;obtain⟨_,m,n⟩:=h;have q:dx g a=g:=rU.2 λc f=>by
  have o:=n c f e jS;have:fE c.aS a=U:=by
   rw[rY];grind[sn,sq]
  simp_all
 have r:dx b a=b:=rU.2 λc f=>by
  have o:=(lh.1 m).1 c f;have:fE c.aS a=U:=by
   rw[rY];grind[sn,sq]
  simp_all
 grind[dx]
def PI{g:aU}{h:Nat}{a:R aJ}(j:ix g h a){b:bg}{c i:aJ}(k:c∈a)(n:fE c.aS b=T)(o:fE i.aS b=T)(aQ:i.ct=c.ct):pd (dx a b) i=T:=by
 have p:dM (dx a b) i.aS=Y:=by
  cases l:dM (dx a b) i.aS with
  |none=>rfl
  | some f=>
    obtain⟨d,q⟩:=mP l
    have:=(mg.1 d).2
    grind[sn]
 have r:jk (dx a b) i.ct=U:=by
  rw[rY];intro e;unfold jk at e;rw[oA]at e;obtain⟨f,d,A⟩:=e;obtain⟨m,B⟩:=mg.1 d;have:f=c:=j.ok.uniq m k (by simp_all);simp_all
 simp_all[pd]
def Xc{d:R aJ}{a:bg}{b:aJ}(f:fE b.aS a=T){c:bg}(aq:fE c a=T):dM (dx d a++[b]) c=w b:=by
 unfold dM;rw[b7];have h:(dx d a).find? (λe=>fE e.aS c)=Y:=by
  rw[Ex];intro e g;have:=(mg.1 g).2;grind[sn]
 have i:fE b.aS c=T:=sn f (by simp_all[sq]);grind
def aik{c:R aJ}{a:bg}{d:aJ}(e:fE d.aS a=T){b:bg}(aq:fE b a=T):dx (dx c a++[d]) b=dx c a:=by
 rw[Pq (sn e (by simp_all[sq]))];exact rU.2 λf g=>by
  have:=(mg.1 g).2;have h:fE f.aS b=U:=by
   rw[rY];grind[sn]
  simp_all
structure qM(X:Nat->Prop)(aC dt:aL Cell):Prop where
 at_:∀q,X q->pat dt q=pat aC q
 keys:∀q,q∈dy aC->q∈dy dt
def qM.trans{d:Nat->Prop}{e b f:aL Cell}(g:qM d e b)(h:qM d b f):qM d e f:=⟨λa c=>(h.at_ a c).trans (g.at_ a c),λa c=>h.keys a (g.keys a c)⟩
structure jN(X:Nat->Prop)(s:aU)(aC:aL Cell)(p:Nat)(ls:Nat->List aJ)(next:Int):Prop where
 cell:∃m yO own,jd aC p=w ⟨s,⟨w m⟩,next⟩∧lu aC m=w yO∧oT s aC p m yO 4 ls own∧(¬X p∧¬X m)∧∀k,k<4->∀q,own k q->¬X q
 lD:∀q,X q->q∈dy aC
def jN.ok{f:Nat->Prop}{a:aU}{b:aL Cell}{c:Nat}{d:Nat->R aJ}{e:Int}(g:jN f a b c d e):va a b c d e:=by
 obtain⟨h,i,j,k,l,m,_⟩:=g.cell;exact⟨h,i,j,k,l,m⟩
def jN.off{d:Nat->Prop}{h:aU}{e f:aL Cell}{i:Nat}{j:Nat->R aJ}{k:Int}(l:jN d h e i j k)(n:∀a,¬d a->pat f a=pat e a)(c:∀a,a∈dy e->a∈dy f):jN d h f i j k:=by
 obtain⟨o,p,q,D,E,r,⟨A,B⟩,m⟩:=l.cell;exact⟨⟨o,p,q,by grind[CA],by grind[CB],r.congr c λC c b g=>n b (m C c b g),⟨A,B⟩,m⟩,
  λb g=>c b (l.lD b g)⟩
def jN.change{e:Nat->Prop}{h:aU}{d i:aL Cell}{j:Nat}{n:Nat->R aJ}{o:Int}{f:Nat}{k:R (Int×Ref)}{l:Nat->Nat->Prop}(p:∀c,e c->c∈dy d)(B:jd d j=w ⟨h,⟨w f⟩,o⟩)(C:lu d f=w k)(D:oT h d j f k 4 n l)
 (E: ¬e j∧¬e f) (F:∀b,b<4->∀c,l b c->¬e c) {b:Nat} (q:b<4) {c:Nat} (G:dU k ((b:Int)+1)=w (w c)) {r:R aJ} {A:Nat->Prop}
 (H:ko h b i c r A) (I:∀a,A a->l b a∨a∉dy d) (m:eK d i (l b)):jN e h i j (eD n b r) o∧qM e d i:=by
 obtain⟨J,K,L⟩:=oT.change B C D q G H I m
 refine⟨⟨⟨f,k,_,J,K,L,E,λN O a g P=>?_⟩,λa g=>m.keys a (p a g)⟩,⟨λa g=>m.rest a (p a g) λM=>F b q a M g,m.keys⟩⟩
 grind
def jN.next'{e:Nat->Prop}{k:aU}{b:aL Cell}{a:Nat}{l:Nat->R aJ}{B:Int}(m:jN e k b a l B)(f:Int){g:ll}(n:jd b a=w g):jN e k (cS b a (Cell.sI {g with pD:=f})) a l f∧qM e b (cS b a (Cell.sI {g with pD:=f})):=by
 obtain⟨o,C,D,p,q,r,A,E⟩:=m.cell;rw[p]at n;cases n;have h:=uO p;have F:a≠o:=λc=>by rw[c,wj q]at h;cases h
 exact⟨⟨⟨o,C,D,ajd h,by rw[CB (mN F)];exact q,r.congr (λG i=>by rw[qo];exact i) λH I G i=>mN λc=>(r.out H I).1 (c▸i),A,E⟩,λj d=>by rw[qo];exact m.lD j d⟩,
  ⟨λj d=>mN λc=>A.1 (c▸d),λj d=>by rw[qo];exact d⟩⟩
def PJ{g:aU}{a:aL Cell}{b c:Nat}{d:R (Int×Ref)}{h:Int}(i:jd a b=w ⟨g,⟨w c⟩,h⟩)(j:lu a c=w d){e:Int}{f:Nat}(k:dU d e=w (w f)):qX a (w b) e=w (w f):=by
 simp_all[qX]
def ajj{l:Nat->Prop}{d:aU}(m:ch d){g:aL Cell}{n:Nat}{c:Nat->R aJ}{b:Int}(h:jN l d g n c b){a:Nat}(i:a<4){e:bg}(p:fu d a e)(j:Int)(ab:∀G∈c a,G.ct<b)(H:u (c a)<900)(aQ:0<=b∧b<1000000):
 cB (E2 g (w n) e j) (λf=>
  if (dM (c a) e).isSome=T then f=(0,17,g)else if (al d.bK a).gA<=(u (c a):Int)then f=(0,18,g)
  else f.1=b∧f.2.1=0∧jN l d f.2.2 n (eD c a (c a++[{aS:=e,ct:=b,dL:=j}])) (b+1)∧qM l g f.2.2):=by
 obtain⟨ac,ad,ae,q,C,D,I,J⟩:=h.cell
 obtain⟨af,E,r⟩:=D.has a i
 unfold E2
 rw[p.ev]
 refine .eq (PJ q C E) (.cond (λA=>by cases A) λ_=>.eq (Qa m i r p) ?_)
 rw[X4]
 refine .cond (λA=>.ret (by simp_all)) λA=>.eq (al2 r) (.eq (akY m h.ok i) (.cond (λB=>.ret ?_) λB=>?_))
 ·simp_all
 have B: ¬(al d.bK a).gA<=(u (c a):Int):=by simp_all
 have ag:dM (c a) e=Y:=by
  simp_all
 have K:kp d a ({aS:=e,ct:=b,dL:=j}:aJ):=⟨p⟩
 have ah:jk (c a) b=U:=by
  grind[jk]
 have L:pd (c a) ({aS:=e,ct:=b,dL:=j}:aJ)=T:=by
  simp_all[pd]
 refine .eq o (.eq q (.eq o (.bind (QI m i r K H) λai M=>?_)))
 obtain⟨_,N,O⟩:=M
 obtain⟨k,P⟩:=jN.change h.lD q C D I J i E N (λaj Q=>Q.imp id λh=>h.1) O
 unfold added at k
 rw[bT L]at k
 obtain⟨ak,am,an,F,_⟩:=k.cell
 refine .eq F (.eq o (.ret ?_))
 rw[bU (by simp_all),bU B]
 have aa:aV (b+1)=b+1:=eU (by omega) (by omega)
 have:=k.next' (b+1) F
 simp only[aa]
 exact⟨b5,b5,this.1,P.trans this.2⟩
def KJ{h:Nat->Prop}{f:aU}(G:ch f){i:aL Cell}{j:Nat}{b:Nat->R aJ}{m:Int}(n:jN h f i j b m){a:Nat}(k:a<4){c:bg}(o:fu f a c):
 cB (xo i (w j) c) (λe=>(match dM (b a) c with |some p=>(e.1,e.2.1)=(p,0)|none=>(e.1,e.2.1)=(V,16))∧jN h f e.2.2 j (eD b a (dx (b a) c)) m∧qM h i e.2.2):=by
 obtain⟨O,P,Q,q,r,A,H,I⟩:=n.cell
 obtain⟨aa,B,J⟩:=A.has a k
 unfold xo
 rw[o.ev]
 refine .eq (PJ q r B) (.cond (λd=>by cases d) λ_=>.bind (aie G k J o) λC K=>?_)
 obtain⟨D,L,M⟩:=K
 have E:=jN.change n.lD q r A H I k B L (λab N=>.inl N) M
 have l:C.1=(w0 (dM (b a) c)).1:=eO Prod.fst D
 have g:C.2.1=(w0 (dM (b a) c)).2:=eO Prod.snd D
 cases F:dM (b a) c with
 | none=>
   rw[F]at l g
   refine .cond (λ_=>.ret ⟨rfl,E⟩) λd=>by rw[g]at d;cases d
 | some p=>
   rw[F]at l g
   refine .cond (λd=>by rw[g]at d;cases d) λ_=>.ret ⟨?_,E⟩
   rw[l];rfl
def ajk{h:Nat->Prop}{f:aU}(E:ch f){k:aL Cell}{l:Nat}{d:Nat->R aJ}{q:Int}(m:jN h f k l d q){b:Nat}(i:b<4){c:bg}(r:fu f b c)(aj:u (d b)<900):
 cB (E5 k (w l) c) (λe=>match dM (d b) c with
  |some j=>e.1=j∧e.2.1=0∧jN h f e.2.2 l (eD d b (dx (d b) c++[{aS:=c,ct:=j.ct,dL:=j.dL}])) q∧qM h k e.2.2
  |none=>e.2.1=16∧jN h f e.2.2 l (eD d b (dx (d b) c)) q∧qM h k e.2.2):=by
 have K:=m.ok.fW i
 unfold E5
 refine .bind (KJ E m i r) λL n=>?_
 obtain⟨a,F,ak⟩:=L
 obtain⟨g,p,A⟩:=n
 simp only at g p A⊢
 cases B:dM (d b) c with
 | none=>
   rw[B]at g
   have C:F=16:=eO Prod.snd g
   subst C
   exact .cond (λ_=>.ret ⟨rfl,p,A⟩) λM=>by grind
 | some j=>
   rw[B]at g
   have N:a=j:=eO Prod.fst g
   have C:F=0:=eO Prod.snd g
   subst N C
   refine .cond (λM=>by grind) λ_=>?_
   obtain⟨O,P⟩:=mP B
   obtain⟨al,am,an,n,G,H,Q,aa⟩:=p.cell
   obtain⟨ab,I,J⟩:=H.has b i
   rw[il]at J
   have ac:kp f b ({aS:=c,ct:=a.ct,dL:=a.dL}:aJ):=⟨r⟩
   have ad:pd (dx (d b) c) ({aS:=c,ct:=a.ct,dL:=a.dL}:aJ)=T:=PI K O P (nu _) o
   refine .eq o (.eq n (.eq o (.eq G (.eq (a:=w ab) (by rw[r.ev,I];rfl) (.eq o (.bind (QI E i J ac (by have:=GH (d b) c;omega)) λao ae=>.ret ?_))))))
   obtain⟨_,af,ag⟩:=ae
   obtain⟨D,ah⟩:=jN.change p.lD n G H Q aa i I af (λap ai=>ai.imp id λm=>m.1) ag
   unfold added at D
   rw[bT ad,re]at D
   exact⟨rfl,rfl,D,A.trans ah⟩
def ail{f:Nat->Prop}{c:aU}(r:ch c){g:aL Cell}{h:Nat}{b:Nat->R aJ}{l:Int}(d:jN f c g h b l){a:Nat}(i:a<4){e:aJ}(m:kp c a e)(A:u (b a)<900):
 cB (EP g (w h) e) (λj=>j.1=pd (b a) e∧jN f c j.2 h (eD b a (added (b a) e)) l∧qM f g j.2):=by
 obtain⟨F,G,H,n,o,p,B,C⟩:=d.cell
 obtain⟨I,q,D⟩:=p.has a i
 unfold EP
 rw[m.dS.ev]
 refine .eq (PJ n o q) (.bind (QI r i D m A) λJ k=>.ret ⟨k.1,?_⟩)
 exact jN.change d.lD n o p B C i q k.2.1 (λK E=>E.imp id λd=>d.1) k.2.2
def Vx{a:Nat->Prop}{e:aU}{b:aL Cell}{c:Nat}{f:Nat->R aJ}{k:Int}(h:jN a e b c f k)(g:Int):aM (Bw b (w c) g) (λi=>jN a e i c f (max 1 g)∧qM a b i):=by
 obtain⟨d,n,p,j,_⟩:=h.cell;unfold Bw;exact .bind (P:=λd=>jN a e d c f (max 1 g)∧qM a b d) (.cond (λ_=>.eq o (.eq j (.eq o (.ret (h.next' _ j))))) λl=>by cases l) λd m=>.ret m
end Go.Proofs.YtmcjlfmeoehcmaaGreat
