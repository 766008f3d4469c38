/-
  What the programs compute, in plain Lean. Conditions: none.
-/
import Derived.Test.YtmcjlfmeoehcmaaGreatMp0
import Derived.Test.YtmcjlfmeoehcmaaGreatMd
set_option linter.defProp false
set_option linter.unusedVariables false
set_option linter.unusedSimpArgs false
set_option maxRecDepth 100000
namespace Go.Proofs.YtmcjlfmeoehcmaaGreat
open Go Gv
open List renaming length->S,getElem?_eq_getElem->b4,length_cons->b7,take_add_one->b',range->ca,length_nil->cb,take_length->ci,take_zero->co,filter_nil->cF
open Option renaming some->U,bind_some->b5,none->cn
open Decidable renaming decide->V
open _root_.ByteArray renaming mk->W
open Bool renaming true->X,false->Z
open aM renaming loop->a',gC->bY,cond->cs
open Inhabited renaming default->b1
open ag renaming bind->b3,ret->cv,of->c0
open Sum renaming elim_inl->cd,elim_inr->cl
open cB renaming loop->ce
open True renaming intro->cq
open Int renaming toNat_natCast->cr,lt_irrefl->c2,zero_add->c3
def hf{a:aB}(c:aw a)(P:a->Prop):Prop:=∀b,c=U b->P b
def hf.bind{c f:aB}{d:aw c}{g:c->aw f}{P:c->Prop}{h:f->Prop}(j:hf d P)(k:∀b,P b->hf (g b) h):hf (d.bind g) h:=λb e=>by
 cases i:d with
 |none=>simp_all
 |some a=>rw[i]at e;exact k a (j a i) b e
def hf.skip{b c:aB}{f:aw b}{d:b->aw c}{e:c->Prop}(k:∀a,hf (d a) e):hf (f.bind d) e:=.bind (P:=λ_=>True) (λ_ _=>trivial) λa _=>k a
def hf.ret{b:aB}{a:b}{P:b->Prop}(c:P a):hf (U a) P:=λd e=>by simp_all
def hf.eq{b c:aB}{a:b}{d:b->aw c}{e:c->Prop}(k:hf (d a) e):hf ((U a).bind d) e:=k
def hf.cond{a:aB}{b:aI}{c d:aw a}{P:a->Prop}(e:b=X->hf c P)(f:b=Z->hf d P):hf (cond b c d) P:=by
 grind
theorem hf.bs{a:aB}[Inhabited a]{b w:aI}{d:aw a}{P:a->Prop}(f:hf d P):hf (bs b w d) (λc=>b=w->P c):=λc e g=>by
 unfold Gv.bs at e;rw[bT g]at e;exact f c e
theorem hf.idx{a:Nat}{b:Int}:hf (idx a b) (λk=>(k:Int)=b∧k<a):=λk e=>by
 obtain⟨c,d⟩:=cz e;omega
def hf.loop{b h:aB}{d:b->aw (b⊕h)}{P:h->Prop}{f:Nat}{a:b}(g:b->Prop)(l:g a)(m:∀s,g s->hf (d s) (λc=>match c with | .inl i=>g i| .inr e=>P e)):hf (cj f d a) P:=by
 induction f generalizing a with
 |zero=>intro j e;cases e
 | succ f n=>
   intro j e
   simp only[cj]at e
   cases k:d a with
   |none=>simp_all
   | some c=>
     rw[k]at e
     have:=m a l c k
     cases c with
     |inl i=>exact n this j e
     |inr y=>simp_all
def aM.par{c:aB}{b:aw c}{P d:c->Prop}(f:aM b P)(k:hf b d):aM b (λa=>P a∧d a):=by
 obtain⟨a,e,g⟩:=f;exact⟨a,e,g,k a e⟩
def xV{d:aB}{b:Nat}{a ek:R d}:hf (dA b a ek) (λc=>c=a++ek):=λc e=>by
 simp_all[dA]
def Ag(c:dB)(a:Int)(aQ:0<a):hf (gi c a) (λb=>0<=b.1∧b.1<a):=by
 unfold gi;refine .skip λ_=>.cond (λ_=>.ret ⟨oD 0,aQ⟩) λ_=>.bind .idx λk _=>.bind (P:=λy=>0<=y∧y<a) (λy e=>?_) λy d=>.ret d;unfold rB at e;split at e
 ·cases e
 cases e;exact⟨Int.tmod_nonneg _ (by omega),Ew _ aQ⟩
def Hz(s:aU)(a:fz):Prop:=
 a.l8=1∧a.ql=0∧((a.bZ=2∧a.dR=4∧a.vY=0)∨(a.bZ=3∧a.dR=0∧a.gB=2∧S (al s.bK 2).bS=3)∨
   (a.bZ=4∧a.dR=0∧a.gB=1∧S (al s.bK 3).bS=3)∨(a.bZ=4∧a.dR=5∧a.vY=0))
structure hC(s:aU):Prop where
 refs:∀r∈s.dh,Hz s r
 o8:s.dh.length<=4
 quo:∀x∈s.eo,0<=x.jw
 all:(al s.eo 0).jw=40
def aim(h:dB)(cI:R dc):hf (s9 h cI) (λd=>(∀f∈d.1,0<=f.jw)∧(al d.1 0).jw=40):=by
 unfold s9;refine .skip λ_=>.bind (Ag _ _ (by omega)) λl g=>.skip λm=>.bind (Ag _ _ (by omega)) λn i=>?_;refine .bind (P:=λe=>0<=e.1.jw∧0<=e.2.2.2.1.jw∧e.2.2.2.2.2.1.jw=40) (.loop (λb=>0<=b.2.1.jw∧0<=b.2.2.2.2.1.jw∧b.2.2.2.2.2.2.1.jw=40) ⟨i.1,?_,rfl⟩ λb a=>?_) λe j=>.eq (.eq (.ret ⟨λf o=>?_,j.2.2⟩))
 ·grind[eU]
 ·refine .cond (λ_=>.skip λp=>.skip λq=>.skip λr=>.skip λA=>.eq (.skip λB=>.skip λC=>?_)) λ_=>.ret a;refine .bind (P:=λc=>0<=c.2.1.jw) (.cond (λ_=>.skip λ_=>.skip λ_=>.eq (.skip λ_=>.ret a.2.1)) λ_=>.ret a.2.1) λD k=>.skip λE=>?_;exact .bind (P:=λc=>0<=c.2.1.jw) (.cond (λ_=>.skip λ_=>.skip λ_=>.eq (.skip λ_=>.ret a.1)) λ_=>.ret a.1) λF g=>.ret ⟨g,k,a.2.2⟩
 grind
def Vy(B:dB):hf (oB B) (λa=>hC a.1):=by
 unfold oB;refine .skip λI=>.skip λJ=>.eq (.eq (.eq (.eq (.eq (.eq (.eq (.eq (.eq (.eq (.eq (.eq (.skip λK=>.skip λL=>.skip λd=>.eq (.eq (.bind (aim _ _) λl M=>.eq (.skip λN=>.skip λO=>.skip λQ=>?_)))))))))))))));refine .bind (P:=λe=>e.1.bK=d.1∧e.1.eo=l.1∧(e.2=[]∨e.2=[({(b1:fz)with bZ:=2,dR:=4,l8:=1}:fz)])) (.cond (λ_=>.eq (.bind xV λy f=>.ret ⟨rfl,rfl,.inr f⟩)) λ_=>.ret ⟨rfl,rfl,.inl o⟩) λe g=>?_;obtain⟨m,r,g⟩:=g;refine .skip λR=>.bind (.bs .idx) λC D=>?_;refine .bind (P:=λh=>h.1.bK=d.1∧h.1.eo=l.1∧S h.2<=2∧∀s:aU,s.bK=d.1->∀a∈h.2,Hz s a) (.cond (λc=>.eq (.bind xV λy f=>.ret ⟨m,r,?_,?_⟩)) λ_=>.ret ⟨m,r,?_,?_⟩) λh n=>?_
 ·grind
 ·subst f;intro s k a aF;simp only[hx,l1]at c;have i:=D c.1;have i:C=2:=by omega
  subst i;rw[m,<-k]at c;simp only[eN,mF]at aF;rcases aF with aF|rfl
  ·rcases g with b|b
   ·simp_all
   rw[b,mF]at aF;subst aF;exact⟨rfl,rfl,.inl ⟨rfl,rfl,rfl⟩⟩
  exact⟨rfl,rfl,.inr (.inl ⟨rfl,rfl,rfl,by omega⟩)⟩
 ·rcases g with b|b <;> simp[b]
 ·intro s k a aF;rcases g with b|b
  ·simp_all
  rw[b,mF]at aF;subst aF;exact⟨rfl,rfl,.inl ⟨rfl,rfl,rfl⟩⟩
 obtain⟨p,A,aa,n⟩:=n;refine .skip λab=>.bind (.bs .idx) λE F=>?_;refine .bind (P:=λj=>j.1.bK=d.1∧j.1.eo=l.1∧S j.2<=4∧∀s:aU,s.bK=d.1->∀a∈j.2,Hz s a) (.cond (λc=>.eq (.eq (.bind xV λy f=>.ret ⟨p,A,?_,?_⟩))) λ_=>.ret ⟨p,A,by grind,n⟩) λj q=>?_
 ·simp_all
 ·subst f;intro s k a aF;simp only[hx,l1]at c;have i:=F c.1;have i:E=3:=by omega
  subst i;rw[p,<-k]at c;simp only[eN,fj,mF,s0,tj]at aF;rcases aF with aF|rfl|rfl
  ·simp_all
  ·exact⟨rfl,rfl,.inr (.inr (.inl ⟨rfl,rfl,rfl,by omega⟩))⟩
  exact⟨rfl,rfl,.inr (.inr (.inr ⟨rfl,rfl,rfl⟩))⟩
 obtain⟨G,ac,H,q⟩:=q;exact .eq (.ret ⟨λa aF=>q _ G a aF,H,λad ae=>by simp_all,by simp_all⟩)
def kY(e:bg):Prop:=e.dR=4∨e.dR=5->1<=S e.eX
def agb{s:aU}(f:ch s){b:Int}:hf (FE s b) (λa=>b=4∨b=5->1<=S a.e2):=λj e d=>by
 have g:∀c:Nat,c<6->b=(c:Int)+1->j.e2.map (·.hz)=al AJ c:=λc h k=>by
  subst k;obtain⟨m,i,l⟩:=U7 f h;rw[e]at i;cases i;rw[l];exact(f.act h).2
 rcases d with d|d
 ·have:=eO S (g 3 (by omega) (by omega));rw[lY]at this;rw[this];decide
 have:=eO S (g 4 (by omega) (by omega));rw[lY]at this;rw[this];decide
def ain(f:dB){s:aU}(g:ch s)(h:Int):hf (zm f s h) (λi=>kY i.1):=by
 unfold zm;refine .skip λk=>.skip λb=>.skip λl=>.skip λm=>.skip λc=>.eq (.bind (agb g) λj n=>?_);refine .bind (P:=λe=>e.1.dR=al (al s.bK b).cM c∧(1<=S j.e2->1<=S e.2.1)) (.loop (λa=>a.2.1.dR=al (al s.bK b).cM c∧(a.1=0∨1<=S a.2.2.1)) ⟨rfl,.inl o⟩ λa d=>?_) λe p=>.eq (.ret λq=>?_)
 ·refine .cond (λ_=>.skip λr=>.skip λA=>.eq (.skip λB=>.bind xV λC D=>.ret ⟨d.1,.inr ?_⟩)) λE=>.ret ⟨d.1,λF=>?_⟩
  ·simp_all
  grind
 simp_all
def rx(a:Int):aw Nat:=if a=1 then U 0 else if a=2 then U 1 else if a=7 then U 2 else cn
def ch.AU{s:aU}(b:ch s){a:Nat}(c:a<3):(al s.eo a).cA=al [1,2,7] a:=by
 have d:=b.o8;have:=b.Dm;have e:(s.eo.map (·.cA))[a]? =([1,2,7]:R Int)[a]? :=by rw[this]
 rw[List.getElem?_map,vt (show a<S s.eo by omega),vt (show a<S ([1,2,7]:R Int) from c)]at e;rw[dI _ (show a<S s.eo by omega),dI _ (show a<S ([1,2,7]:R Int) from c)];exact I0 e
def As{b:Int}{a:Nat}(d:a<3):al [(1:Int),2,7] a=b↔rx b=U a:=by
 have c:a=0∨a=1∨a=2:=by omega
 unfold rx;rcases c with rfl|rfl|rfl
 ·show(1:Int)=b↔_;grind
 ·show(2:Int)=b↔_;grind
 show(7:Int)=b↔_;grind
def Dp{b:Int}{a:Nat}(c:rx b=U a):a<3:=by
 grind[rx]
structure qI(s:aU)(aC:aL Cell)(p:Nat)(N:Int->Int):Prop where
 cell:∃nb,n1 aC p=U ⟨s.eo,nb⟩∧∀j,j<3->cu nb j=N (al [1,2,7] j)
theorem agI{aC dt:aL Cell}{p:Nat}(a:pat dt p=pat aC p):n1 dt p=n1 aC p:=by simp_all[n1]
def ajl{aC:aL Cell}{p:Nat}{k:Cell}{a:jE}(b:pat aC p=U k):n1 (cS aC p (.uZ a)) p=U a:=by simp_all[n1,ss]
def qI.congr{s:aU}{aC dt:aL Cell}{p:Nat}{N:Int->Int}(a:qI s aC p N)(e:pat dt p=pat aC p):qI s dt p N:=by
 obtain⟨b,d,c⟩:=a.cell;exact⟨b,by grind[agI],c⟩
def nR(a:Int):Int:=match rx a with |some b=>(b:Int)|none=> -1
def YL{s:aU}(g:ch s){aC:aL Cell}{p:Nat}{N:Int->Int}(j:qI s aC p N)(c:Int):BI aC (U p) c=U (nR c):=by
 obtain⟨q,k,r⟩:=j.cell;have A:=g.o8;refine aM.get ?_;unfold BI;refine .cond (λa=>by cases a) λ_=>.eq rfl (.eq k (.bind (P:=λe=>e=nR c) (bY 3 (λd h=>h=(d:Int)∧∀b,b<d->rx c≠U b) (by omega) ⟨rfl,λb l=>by omega⟩ (λd h f i=>?_) (λh i=>?_)) λe m=>.ret m))
 ·obtain⟨rfl,aQ⟩:=i;refine cs (λ_=>.idx o (by simp_all) (.cond (λa=>?_) λa=>?_)) λa=>by grind
  ·simp only[l1,g.AU f]at a;have:=(As f).1 a;exact .ret (by simp_all[nR])
  refine .ret ⟨cZ (by omega),λb l e=>?_⟩;by_cases n:b=d
  ·subst n;rw[<-As f,<-g.AU f]at e;simp_all
  grind
 obtain⟨rfl,aQ⟩:=i;refine cs (λa=>by simp_all) λ_=>.ret ?_;show(-1:Int)=nR c;unfold nR;cases e:rx c with
 |none=>rfl
 |some b=>exact absurd e (aQ b (Dp e))
def bump(N:Int->Int)(a:Int)(b:Int):Int->Int:=λy=>if y=a then N a+b else N y
theorem qI.bump{s:aU}{aC:aL Cell}{p:Nat}{N:Int->Int}{b:ck Int 6}(i:n1 aC p=U ⟨s.eo,b⟩)(j:∀a,a<3->cu b a=N (al [1,2,7] a)){c:Int}{a:Nat}(f:rx c=U a)(g:Int):
 qI s (cS aC p (Cell.uZ ⟨s.eo,fC b a (N c+g)⟩)) p (Go.Proofs.YtmcjlfmeoehcmaaGreat.bump N c g):=by
 refine⟨_,ajl (uQ i),λh d=>?_⟩
 have l:=Dp f
 unfold Go.Proofs.YtmcjlfmeoehcmaaGreat.bump
 by_cases e:h=a
 ·subst e
  rw[nn _ _ (by omega),bT o,bT ((As d).2 f)]
 rw[nn _ _ (by omega),bU e,bU (λk=>e (by have:=(As d).1 k;simp_all)),j h d]
def room(s:aU)(N:Int->Int)(a:Int):aI:=match rx a with |some b=>decide (N a<(al s.eo b).jw)|none=>Z
def aad{s:aU}(h:ch s){aC:aL Cell}{p:Nat}{N:Int->Int}(i:qI s aC p N)(m:∀b,0<=N b∧N b<100000)(b:Int):
 aM (BM aC (U p) b) (λf=>if room s N b=X then f.1=X∧(∃n,f.2=cS aC p n)∧qI s f.2 p (bump N b 1)else f=(Z,aC)):=by
 obtain⟨g,j,k⟩:=i.cell
 have B:=h.o8
 unfold BM
 refine .eq (YL h i b) ?_
 cases aF:rx b with
 | none=>
   have e:nR b= -1:=by simp_all[nR,aF]
   have d:room s N b=Z:=by simp_all[room,aF]
   rw[e,d]
   exact .ret o
 | some c=>
   have l:=Dp aF
   have e:nR b=(c:Int):=by simp_all[nR,aF]
   have q:cu g c=N b:=by rw[k c l,(As l).2 aF]
   rw[e]
   have aq:V ((c:Int)<0)=Z:=by simp
   simp only[aq]
   refine .eq (a:=p) o (.eq (a:=c) (by unfold bs;rw[bT o];exact lo (by omega)) (.eq (a:=⟨s.eo,g⟩) (by simp_all[bs,bT]) (.eq (a:=p) o (.eq (a:=⟨s.eo,g⟩) (by simp_all[bs,bT])
    (.eq (a:=c) (by unfold bs;rw[bT o];exact lo (by simp_all)) (.eq o (.cond (λr=>?_) λr=>?_)))))))
   ·have d:room s N b=Z:=by simp_all[room,aF,vF,ik]
    rw[d];exact .ret o
   have d:room s N b=X:=by simp_all[room,aF,vF,qb]
   rw[d]
   refine .eq (a:=p) o (.idx o (by omega) (.eq j (.idx o (by omega) (.eq o (.ret ⟨rfl,⟨_,rfl⟩,?_⟩)))))
   have A:aV (cu g c+1)=N b+1:=by rw[q];have:=m b;exact eU (by omega) (by omega)
   simp only[A]
   exact qI.bump j k aF 1
def YM{s:aU}(k:ch s){aC:aL Cell}{p:Nat}{N:Int->Int}(f:qI s aC p N){b:Int}{c:Nat}(aF:rx b=U c)(r:0<N b∧N b<100000):
 aM (BJ aC (U p) b) (λg=>(∃l,g.2=cS aC p l)∧qI s g.2 p (bump N b (-1))):=by
 obtain⟨d,h,i⟩:=f.cell
 have j:=Dp aF
 have e:nR b=(c:Int):=by simp_all[nR,aF]
 have m:cu d c=N b:=by rw[i c j,(As j).2 aF]
 unfold BJ
 refine .eq (YL k f b) ?_
 rw[e]
 have aq:V ((c:Int)<0)=Z:=by simp
 simp only[aq]
 refine .eq (a:=p) o (.eq (a:=c) (by unfold bs;rw[bT o];exact lo (by omega)) (.eq (a:=⟨s.eo,d⟩) (by simp_all[bs,bT]) (.cond (λn=>?_) λn=>?_)))
 ·simp_all
 refine .eq (a:=p) o (.idx o (by omega) (.eq h (.idx o (by omega) (.eq o (.ret ⟨⟨_,rfl⟩,?_⟩)))))
 have q:aV (cu d c-1)=N b+ -1:=by rw[m];exact eU (by omega) (by omega)
 simp only[q]
 exact qI.bump h i aF (-1)
def kq(e:bg)(a:fz):R cQ:=
 if a.bZ=e.bZ then(if a.dR=0 then [⟨a.l8,a.ql,(al e.cp a.gB.toNat).b2⟩]else if a.dR=e.dR then [⟨a.l8,a.ql,al e.eX a.vY.toNat⟩]else [])else []
def gd(s:aU)(e:bg):R cQ:=s.dh.flatMap (kq e)
def sQ(e:bg):cQ:=⟨1,0,(al e.cp 0).b2⟩
def gF(s:aU)(e:bg):R cQ:=if e.bZ=1∧s.dh≠[]then [sQ e]else []
def tV(s:aU)(e:bg):Prop:=(∃k,k<4∧fu s k e)∧kY e
def Qf(e:bg)(a:fz):S (kq e a)<=1:=by
 grind[kq]
def KK{a d:aB}{b:a->R d}(e:∀c,S (b c)<=1):∀l:R a,S (l.flatMap b)<=S l
 |[]=>by simp
 | c::l=>by
   have:=KK e l;grind
def CR{s:aU}(aF:hC s)(e:bg):S (gd s e)<=4:=mK (KK (Qf e) _) aF.o8
def tV.abe{s:aU}(a:ch s){e:bg}(b:tV s e):1<=S e.cp∧S e.cp<=1000:=by
 obtain⟨⟨k,c,d⟩,_⟩:=b;have f:=d.len;have g:=(a.ev c).2.1;omega
def YN{s:aU}{e:bg}(c:tV s e){a:fz}(aF:Hz s a)(i:a.bZ=e.bZ)(j:a.dR=0):a.gB=(a.gB.toNat:Int)∧a.gB.toNat<S e.cp:=by
 obtain⟨⟨k,l,b⟩,_⟩:=c;have m:=b.len;have n:=b.ev;rcases aF.2.2 with⟨_,d,_⟩|⟨f,_,g,h⟩|⟨f,_,g,h⟩|⟨_,d,_⟩
 ·omega
 ·grind
 ·grind
 omega
def YO{s:aU}{e:bg}(d:tV s e){a:fz}(aF:Hz s a)(f:a.dR≠0)(g:a.dR=e.dR):a.vY=0∧0<S e.eX:=by
 rcases aF.2.2 with⟨_,b,c⟩|⟨_,b,_⟩|⟨_,b,_⟩|⟨_,b,c⟩
 ·exact⟨c,d.2 (.inl (by omega))⟩
 ·omega
 ·omega
 exact⟨c,d.2 (.inr (by omega))⟩
def V6{b e:aB}[Inhabited b](c:b->R e){l:R b}{a:Nat}(d:a<S l):(l.take (a+1)).flatMap c=(l.take a).flatMap c++c (al l a):=by
 rw[acX,vt d,dI _ d,List.flatMap_append];simp
def qj{a:aB}[Inhabited a]{l:R a}{b:Nat}(c:b<S l):al l b∈l:=by simp_all[dI]
def Vz{e:bg}{k:Nat}(a:k<S e.cp):F0 e (k:Int)=U (al e.cp k).b2:=by
 refine aM.get ?_;unfold F0;refine .cond (λb=>?_) λ_=>.idx o a (.ret o);grind
def agJ{e:bg}(a:0<S e.eX):JB e 0=U (al e.eX 0):=by
 refine aM.get ?_;unfold JB;refine .cond (λb=>?_) λ_=>.idx (k:=0) o a (.ret o);simp_all
def ajm{s:aU}(aF:hC s){e:bg}(m:tV s e):Ka s e=U (gd s e):=by
 refine aM.get ?_;unfold Ka;have A:=aF.o8;refine .bind (P:=λn=>n=gd s e) (bY (S s.dh) (λa f=>f=((a:Int),(s.dh.take a).flatMap (kq e))) (by omega) o (λa f g h=>?_) λf h=>?_) λn r=>.ret r
 ·subst h;refine .cond (λ_=>.idx o g ?_) λi=>by simp_all
  have p:=aF.refs _ (qj g);have B:S ((s.dh.take a).flatMap (kq e))<=4:=mK (KK (Qf e) _) (by grind);refine .bind (P:=λb=>b=(s.dh.take (a+1)).flatMap (kq e)) ?_ λb d=>.ret (by grind[cZ]);rw[V6 _ g];refine .cond (λi=>.ret ?_) λi=>.bind (P:=λb=>b=(s.dh.take a).flatMap (kq e)++kq e (al s.dh a)) (.cond (λc=>?_) λc=>.bind (P:=λb=>b=(s.dh.take a).flatMap (kq e)++kq e (al s.dh a)) (.cond (λj=>?_) λj=>.ret ?_) λb d=>.ret d) λb d=>.ret d
  ·simp_all[kq,bU]
  ·have q:(al s.dh a).bZ=e.bZ:=by simp_all
   have c:(al s.dh a).dR=0:=by simp_all
   obtain⟨k,l⟩:=YN m p q c;rw[k];refine .eq (Vz l) (.eq o (.eq (eS _ _ (by grind) (by omega)) (.ret ?_)));grind[kq]
  ·have q:(al s.dh a).bZ=e.bZ:=by simp_all
   have c: ¬(al s.dh a).dR=0:=by simp_all
   have j:(al s.dh a).dR=e.dR:=by simp_all
   obtain⟨k,l⟩:=YO m p c j;rw[k];refine .eq (agJ l) (.eq o (.eq (eS _ _ (by grind) (by omega)) (.ret ?_)));simp_all[kq,bT,bU]
  simp_all[kq,bT,bU]
 subst h;exact .cond (λi=>by grind) λ_=>.ret (by simp_all[gd])
def ak3{l:R cQ}(m:S l<=1000)(b:cQ):aM (D8 l b) (λk=>k=V (b∈l)):=by
 unfold D8 Nf;refine .bind (P:=λy=>(0<=y)↔b∈l) ?_ λy n=>.ret (by simp_all);refine a' (S l) (λd f=>f=(d:Int)∧∀a,a<d->b≠al l a) (by omega) ⟨rfl,λa h=>by omega⟩ (λd f i g=>?_) λf g=>?_
 ·obtain⟨rfl,aQ⟩:=g;refine .cond (λ_=>.idx o i (.cond (λc=>.ret (.ret ?_)) λc=>.ret ⟨cZ (by omega),λa h=>?_⟩)) λc=>by simp_all
  ·exact⟨λ_=>by rw[uj c];exact qj i,λ_=>by omega⟩
  grind
 obtain⟨rfl,aQ⟩:=g;have c:V ((S l:Int)<(S l:Int))=Z:=by simp
 refine⟨.inl (),by simp_all,.ret ⟨λj=>by omega,λj=>?_⟩⟩;obtain⟨a,h,e⟩:=yY j;grind[dI]
def agK{s:aU}(l:ch s)(aF:hC s){e:bg}(m:tV s e):JG s e=U (gF s e):=by
 refine aM.get ?_;unfold JG;have q:=aF.o8;have n:=m.abe l;refine .bind (P:=λg=>g=gF s e) (bY (S s.dh) (λa c=>c=((a:Int),if e.bZ=1∧a≠0 then [sQ e]else [])) (by omega) (by simp) (λa c h d=>?_) λc d=>?_) λg p=>.ret p
 ·subst d;have i:=aF.refs _ (qj h);have r:S (if e.bZ=1∧a≠0 then [sQ e]else [])<=1:=by split <;> simp
  refine .cond (λ_=>.idx o h ?_) λb=>by simp_all
  rw[i.1,i.2.1];refine .eq (Vz (k:=0) (by omega)) (.eq o (.bs (λ_=>ak3 (by grind) _) λy f=>?_));refine .bind (P:=λj=>j=if e.bZ=1∧a+1≠0 then [sQ e]else []) (.cond (λb=>?_) λb=>.ret ?_) λj n=>.ret (by grind[cZ])
  ·simp only[hx,l1,xf]at b;have f:=f (by simp_all);rw[b.2]at f;have:a=0:=by
    simp_all[bT,sQ]
   subst this;refine .eq (eS _ _ (by simp) (by omega)) (.ret ?_);rw[bU (by simp),bT ⟨b.1.symm,by omega⟩];rfl
  grind
 subst d;refine .cond (λb=>by grind) λ_=>.ret ?_;simp_all[gF,M6]
structure kT(m:Nat)(aC dt:aL Cell):Prop where
 at_:∀q,q≠m->pat dt q=pat aC q
 keys:∀q,q∈dy aC->q∈dy dt
def kT.refl{a:Nat}{aC:aL Cell}:kT a aC aC:=⟨λ_ _=>rfl,λ_ b=>b⟩
def kT.trans{d:Nat}{a b e:aL Cell}(f:kT d a b)(k:kT d b e):kT d a e:=⟨λq c=>(k.at_ q c).trans (f.at_ q c),λq c=>k.keys q (f.keys q c)⟩
def kT.up{a:Nat}{aC:aL Cell}{c:Cell}:kT a aC (cS aC a c):=⟨λq b=>mN λe=>b e.symm,λq b=>by simp_all[qo]⟩
theorem agL{aC dt:aL Cell}{p:Nat}(a:pat dt p=pat aC p):pJ dt p=pJ aC p:=by simp_all[pJ]
def Ve{aC dt:aL Cell}{p:Nat}(a:pat dt p=pat aC p):pI dt p=pI aC p:=by simp_all[pI]
def Xd{aC:aL Cell}{p:Nat}{k:Cell}{a:R (cQ×kN)}(b:pat aC p=U k):pJ (cS aC p (.sD a)) p=U a:=by simp_all[pJ,ss]
structure lE(s:aU)(aC:aL Cell)(p m:Nat)(A B:cQ->Int):Prop where
 cell:pI aC p=U ⟨s,⟨U m⟩⟩
 map:∃jt,pJ aC m=U jt∧ou jt∧∀t,dU jt t=if A t=0∧B t=0 then cn else U ⟨A t,B t⟩
def lE.ne{s:aU}{aC:aL Cell}{p a:Nat}{A B:cQ->Int}(b:lE s aC p a A B):p≠a:=λe=>by
 obtain⟨f,d,_⟩:=b.map;have c:=QJ b.cell;rw[e,uP d]at c;cases c
def lE.congr{s:aU}{aC dt:aL Cell}{p a:Nat}{A B:cQ->Int}(b:lE s aC p a A B)(c:pat dt p=pat aC p)(d:pat dt a=pat aC a):lE s dt p a A B:=
 ⟨by rw[Ve c];exact b.cell,by obtain⟨e,f,g⟩:=b.map;grind[agL]⟩
def lT(A:cQ->Int)(t:cQ)(b:Int):cQ->Int:=λa=>if a=t then A a+b else A a
def rK(A:cQ->Int)(k:Int):Prop:=∀t, -k<=A t∧A t<=k
def X8{s:aU}{aC:aL Cell}{p c:Nat}{A B:cQ->Int}(f:lE s aC p c A B)(r:rK A 200000)(C:rK B 200000)(t:cQ){d k:Int}(aQ: -1<=d∧d<=1)(F: -1<=k∧k<=1):
 aM (BL aC (U p) t d k) (λj=>kT c aC j∧lE s j p c (lT A t d) (lT B t k)):=by
 obtain⟨D,g,h,i⟩:=f.map
 unfold BL
 refine .eq (a:=p) o (.eq f.cell (.eq (a:=c) o (.eq g (.eq o (.eq o ?_)))))
 have E:(dU D t).getD b1=(⟨A t,B t⟩:kN):=by
  rw[i];split
  ·rename_i b;rw[b.1,b.2];rfl
  rfl
 rw[E]
 have G:=r t
 have H:=C t
 have sX:aV (A t+d)=A t+d:=eU (by omega) (by omega)
 have yM:aV (B t+k)=B t+k:=eU (by omega) (by omega)
 simp only[sX,yM]
 have l:∀m,pI (cS aC c m) p=U ⟨s,⟨U c⟩⟩:=λm=>by rw[Ve (mN f.ne.symm)];exact f.cell
 refine .cond (λb=>?_) λb=>?_
 ·have b:=uj b
  have I:A t+d=0:=eO kN.rh b
  have J:B t+k=0:=eO kN.q0 b
  refine .eq (a:=p) o (.eq f.cell (.eq (a:=c) o (.eq g (.eq o (.ret ⟨.up,l _,_,Xd (uP g),h.del,λn=>?_⟩)))))
  rw[CF h,i]
  grind[lT]
 have b:=of_decide_eq_false b
 refine .eq (a:=p) o (.eq f.cell (.eq (a:=c) o (.eq g (.eq o (.ret ⟨.up,l _,_,Xd (uP g),h.put,λn=>?_⟩)))))
 rw[vQ,i]
 unfold lT
 by_cases e:n=t
 ·subst e;rw[bT o,bT o,bT o,bU λq=>b (by rw[q.1,q.2];rfl)]
 simp_all
def eV(A:cQ->Int)(l:R cQ)(a:Int):cQ->Int:=λt=>A t+a*(l.count t:Int)
def KL{A:cQ->Int}{a:Int}:eV A [] a=A:=by grind[eV]
def KA{A:cQ->Int}{l:R cQ}{b:cQ}{a:Int}:lT (eV A l a) b a=eV A (l++[b]) a:=by
 funext t;unfold lT eV;rw[List.count_append,List.count_singleton];grind
def KM{A:cQ->Int}{a:cQ}:lT A a 0=A:=by grind[lT]
def rK.mono{A:cQ->Int}{k a:Int}(b:rK A k)(c:k<=a):rK A a:=λt=>by have:=b t;omega
def V7{A:cQ->Int}{l:R cQ}{a k:Int}(b:rK A k)(c:S l<=10)(aQ:a=1∨a= -1):rK (eV A l a) (k+10):=λt=>by
 have d:=b t;grind[eV]
def PK{A:cQ->Int}{l:R cQ}{a:Int}(b:rK A 100000)(c:S l<=10)(aQ:a=1∨a= -1):rK (eV A l a) 200000:=λt=>by
 have d:=b t;grind[eV]
def Pr{b:aB}[Inhabited b]{l:R b}{a:Nat}(c:a<S l):l.take (a+1)=l.take a++[al l a]:=by
 grind[b',b4,dI]
def CS{s:aU}(K:ch s)(aF:hC s){aC:aL Cell}{p d:Nat}{A B:cQ->Int}(L:lE s aC p d A B)(F:rK A 100000)(G:rK B 100000){e:bg}(H:tV s e){c:Int}(aQ:c=1∨c= -1):
 aM (BN aC (U p) e c) (λI=>kT d aC I∧lE s I p d (eV A (gd s e) c) (eV B (gF s e) c)):=by
 have O:=CR aF e
 have Q:S (gF s e)<=1:=by grind[gF]
 have J: -1<=c∧c<=1:=by omega
 unfold BN
 refine .cond (λl=>by cases l) λ_=>.eq (a:=p) o (.eq L.cell (.eq (ajm aF H) ?_))
 refine .bind (P:=λn=>kT d aC n∧lE s n p d (eV A (gd s e) c) B) (bY (S (gd s e)) (λh b=>b.1=(h:Int)∧kT d aC b.2∧lE s b.2 p d (eV A ((gd s e).take h) c) B) (by omega) ⟨rfl,.refl,by simp_all[co,KL]⟩ (λh b q i=>?_) λb i=>?_) λn M=>?_
 ·obtain⟨r,C⟩:=b;obtain⟨f,j,g⟩:=i
  simp only at f j g;subst f
  refine .cond (λ_=>.idx o q (.bind (X8 g (PK F (by grind) aQ) (λt=>by have:=G t;omega) _ J (by omega)) λy D=>.ret ⟨cZ (by omega),j.trans D.1,?_⟩)) λl=>by simp_all
  simp_all[KA,KM,Pr]
 ·obtain⟨r,C⟩:=b;obtain⟨f,j,g⟩:=i
  simp only at f j g;subst f
  rw[mJ]at g
  exact .cond (λl=>by grind) λ_=>.ret ⟨j,g⟩
 obtain⟨j,g⟩:=M
 refine .eq g.cell (.eq (agK K aF H) ?_)
 refine .bind (P:=λE=>kT d aC E∧lE s E p d (eV A (gd s e) c) (eV B (gF s e) c)) (bY (S (gF s e)) (λh b=>b.1=(h:Int)∧kT d aC b.2∧lE s b.2 p d (eV A (gd s e) c) (eV B ((gF s e).take h) c)) (by omega) ⟨rfl,j,by simp_all[co,KL]⟩ (λh b q i=>?_) λb i=>?_) λE N=>.ret N
 ·obtain⟨r,C⟩:=b;obtain⟨f,m,k⟩:=i
  simp only at f m k;subst f
  refine .cond (λ_=>.idx o q (.bind (X8 k (PK F (by omega) aQ) (PK G (by grind) aQ) _ (by omega) J) λy D=>.ret ⟨cZ (by omega),m.trans D.1,?_⟩)) λl=>by simp_all
  simp_all[KA,KM,Pr]
 obtain⟨r,C⟩:=b;obtain⟨f,m,k⟩:=i
 simp only at f m k;subst f
 rw[mJ]at k
 exact .cond (λl=>by grind) λ_=>.ret ⟨m,k⟩
theorem Kp{aC dt:aL Cell}{p:Nat}(a:pat dt p=pat aC p):hN dt p=hN aC p:=by simp_all[hN]
def ajn{aC:aL Cell}{p:Nat}{k:Cell}{b:gG}{a:aw Nat}{c:Nat}(d:pat aC p=U k):hN (cS aC p (.mw b a c)) p=U (b,a,c):=by simp_all[hN,ss]
structure kV where
 x:Nat
 t:Nat
 r:Nat
 m:Nat
 q:Nat
 y:Nat->Prop:=λ_=>False
 f:Nat->Option Cell:=λ_=>cn
def yQ(P:kV)(q:Nat):Prop:=q=P.x∨q=P.r∨q=P.m∨q=P.q∨P.y q
structure ih(s:aU)(aC:aL Cell)(P:kV)(ls:Nat->List aJ)(next:Int)(bQ:List gq)(A B:cQ->Int)(N:Int->Int):Prop where
 st:∃k c,hN aC P.x=U (⟨U P.t,U P.r,U P.q,bQ⟩,k,c)
 kJ:jN (yQ P) s aC P.t ls next
 nb:lE s aC P.r P.m A B
 quo:qI s aC P.q N
 pe:∀q,P.y q->pat aC q=P.f q∧q≠P.x∧q≠P.r∧q≠P.m∧q≠P.q
section
variable{s:aU}{aC dt:aL Cell}{P:kV}{ls hG:Nat->R aJ}{next next':Int}{bQ og:R gq}{A B fh Ib:cQ->Int}{N Ic:Int->Int}
def ih.ne(a:ih s aC P ls next bQ A B N):(P.x≠P.r∧P.x≠P.m∧P.x≠P.q)∧P.r≠P.m∧P.r≠P.q∧P.m≠P.q:=by
 obtain⟨k,e,b⟩:=a.st;obtain⟨f,c,_⟩:=a.nb.map;obtain⟨g,d,_⟩:=a.quo.cell;have h:=pE b;have i:=uP c;have j:=QJ a.nb.cell;have l:=uQ d;grind
def ih.wQ(h:ih s aC P ls next bQ A B N)(k:jN (yQ P) s dt P.t hG next'∧qM (yQ P) aC dt):ih s dt P hG next' bQ A B N where
 st:=by obtain⟨a,c,h1⟩:=h.st;exact⟨a,c,by rw[Kp (k.2.at_ _ (.inl o))];exact h1⟩
 kJ:=k.1
 nb:=h.nb.congr (k.2.at_ _ (.inr (.inl o))) (k.2.at_ _ (.inr (.inr (.inl o))))
 quo:=h.quo.congr (k.2.at_ _ (.inr (.inr (.inr (.inl o)))))
 pe q iD:=⟨(k.2.at_ _ (.inr (.inr (.inr (.inr iD))))).trans (h.pe q iD).1,(h.pe q iD).2⟩
def ih.only(b:ih s aC P ls next bQ A B N){q:Nat}(c:yQ P q)(a:kT q aC dt):jN (yQ P) s dt P.t ls next:=b.kJ.off (λd f=>a.at_ d λe=>f (e▸c)) a.keys
def ih.ref(h:ih s aC P ls next bQ A B N)(k:kT P.m aC dt∧lE s dt P.r P.m fh Ib):ih s dt P ls next bQ fh Ib N where
 st:=by obtain⟨a,c,h1⟩:=h.st;exact⟨a,c,by rw[Kp (k.1.at_ _ h.ne.1.2.1)];exact h1⟩
 kJ:=h.only (.inr (.inr (.inl o))) k.1
 nb:=k.2
 quo:=h.quo.congr (k.1.at_ _ λe=>h.ne.2.2.2 e.symm)
 pe q iD:=⟨(k.1.at_ _ (h.pe q iD).2.2.2.1).trans (h.pe q iD).1,(h.pe q iD).2⟩
def ih.MT(b:ih s aC P ls next bQ A B N)(k:∃c,dt=cS aC P.q c)(f:qI s dt P.q Ic):ih s dt P ls next bQ A B Ic:=by
 obtain⟨c,rfl⟩:=k;have d:kT P.q aC (cS aC P.q c):=.up;exact⟨by obtain⟨a,c,g⟩:=b.st;exact⟨a,c,by rw[Kp (d.at_ _ b.ne.1.2.2)];exact g⟩,b.only (.inr (.inr (.inr (.inl o)))) d,
  b.nb.congr (d.at_ _ b.ne.2.2.1) (d.at_ _ b.ne.2.2.2),f,λq e=>⟨(d.at_ _ (b.pe q e).2.2.2.2).trans (b.pe q e).1,(b.pe q e).2⟩⟩
def ih.DO(b:ih s aC P ls next bQ A B N)(a:aw Nat)(d:Nat):ih s (cS aC P.x (.mw ⟨U P.t,U P.r,U P.q,og⟩ a d)) P ls next og A B N:=by
 have c:kT P.x aC (cS aC P.x (.mw ⟨U P.t,U P.r,U P.q,og⟩ a d)):=.up;obtain⟨g,h,f⟩:=b.st;exact⟨⟨a,d,ajn (pE f)⟩,b.only (.inl o) c,b.nb.congr (c.at_ _ b.ne.1.1.symm) (c.at_ _ b.ne.1.2.1.symm),b.quo.congr (c.at_ _ b.ne.1.2.2.symm),λq e=>⟨(c.at_ _ (b.pe q e).2.1).trans (b.pe q e).1,(b.pe q e).2⟩⟩
def Qg(d:S bQ<=1000)(k:nA)(a b c:Ref):yZ ⟨a,b,c,bQ⟩ k=U ⟨a,b,c,bQ++[⟨k⟩]⟩:=by
 grind[yZ,eS]
structure yR(A B:cQ->Int)(N:Int->Int)(bQ:List gq):Prop where
 a:rK A 1000
 b:rK B 1000
 n:∀x,0<=N x∧N x<1000
 j:bQ.length<=1000
def Xe(i:ch s)(aF:hC s)(E:ih s aC P ls next bQ A B N)(l:yR A B N bQ){k:Nat}(m:k<4){e:bg}(n:fu s k e)(R:kY e)(vs:Int)(aa:∀ab∈ls k,ab.ct<next)(ac:S (ls k)<900)(aQ:1<=next∧next<1000000):
 cB (BA aC (U P.x) e vs) (λf=>
  if (dM (ls k) e).isSome=X then f=(17,aC)else if (al s.bK k).gA<=(S (ls k):Int)then f=(18,aC)
  else if room s N vs=X then f.1=0∧ih s f.2 P (eD ls k (ls k++[{aS:=e,ct:=next,dL:=vs}])) (next+1) (bQ++[⟨.yt (U P.x) {aS:=e,ct:=next,dL:=vs} next vs⟩]) (eV A (gd s e) 1) (eV B (gF s e) 1) (bump N vs 1)
  else f.1=19∧ih s f.2 P (eD ls k (ls k)) next bQ A B N):=by
 obtain⟨ar,au,ad⟩:=E.st
 unfold BA
 refine .cond (λc=>by cases c) λ_=>.eq (a:=P.x) o (.eq ad (.bind (ajj i E.kJ m n vs aa ac ⟨by omega,aQ.2⟩) λae b=>?_))
 by_cases p:(dM (ls k) e).isSome=X
 ·rw[bT p]at b
  subst b
  exact .cond (λ_=>.ret (by simp_all)) λc=>by grind
 rw[bU p]at b
 by_cases q:(al s.bK k).gA<=(S (ls k):Int)
 ·rw[bT q]at b
  subst b
  exact .cond (λ_=>.ret (by simp_all)) λc=>by grind
 rw[bU q]at b
 obtain⟨k6,av,af⟩:=ae
 obtain⟨r,H,I,J⟩:=b
 simp only at r H I J
 subst H
 have r:=r.symm
 subst r
 have g:=E.wQ ⟨I,J⟩
 refine .cond (λc=>by grind) λ_=>?_
 have K:dM (ls k) e=cn:=by
  simp_all
 obtain⟨aw,ax,b⟩:=g.st
 have C:=X3 i g.kJ.ok m n
 rw[il,ajg K (nu e)]at C
 replace C:zz af (U P.t) e=U (({aS:=e,ct:=next,dL:=vs}:aJ),X):=C
 refine .eq (a:=P.x) o (.eq b (.eq C (.eq (a:=P.x) o (.eq b (.kZ (aad i g.quo (λag=>by have:=l.n ag;omega) vs) λah h=>?_)))))
 by_cases D:room s N vs=X
 ·rw[bT D]at h
  obtain⟨ay,ai⟩:=ah
  obtain⟨L,M,O⟩:=h
  simp only at L M O
  subst L
  have d:=g.MT M O
  obtain⟨aj,ak,F⟩:=d.st
  refine .cond (λc=>by cases c) λ_=>.eq F (.kZ (P:=λG=>kT P.m ai G∧lE s G P.r P.m (eV A (gd s e) 1) (eV B (gF s e) 1)) ?_ λG am=>?_)
  ·exact .bind (CS i aF d.nb (l.a.mono (by omega)) (l.b.mono (by omega)) ⟨⟨k,m,n⟩,R⟩ (.inl o)) λy an=>.ret an
  have j:=d.ref am
  obtain⟨az,aA,h⟩:=j.st
  refine .eq h (.eq (Qg l.j _ _ _ _) (.any λQ=>.eq o (.ret ?_)))
  rw[bU p,bU q,bT D]
  exact⟨rfl,j.DO Q.1 Q.2⟩
 rw[bU D]at h
 subst h
 refine .cond (λ_=>?_) λc=>by cases c
 refine .eq b (.bind (KJ i g.kJ m n) λao ap=>?_)
 obtain⟨aB,aD,aE⟩:=ao
 have d:=g.wQ ap.2
 simp only at d
 obtain⟨aj,ak,F⟩:=d.st
 refine .eq F (.kZ (Vx d.kJ next) λaG aq=>.ret ?_)
 have j:=d.wQ aq
 rw[bU p,bU q,bU D]
 refine⟨rfl,?_⟩
 rw[re,il,Pq (nu e),Le K,show max 1 next=next by omega]at j
 exact j
def V8(i:ch s)(aF:hC s)(f:ih s aC P ls next bQ A B N)(j:yR A B N bQ){k:Nat}(g:k<4){e:bg}(m:fu s k e)(F:kY e)(G:∀b∈ls k,kY b.aS)(H:S (ls k)<900):
 cB (Bs aC (U P.x) e) (λh=>match dM (ls k) e with
  |some b=>h.1=b.aS∧h.2.2.1=0∧ih s h.2.2.2 P (eD ls k (dx (ls k) e++[{aS:=e,ct:=b.ct,dL:=b.dL}])) next bQ (eV (eV A (gd s b.aS) (-1)) (gd s e) 1) (eV (eV B (gF s b.aS) (-1)) (gF s e) 1) N
  |none=>h.2.2.1=16∧ih s h.2.2.2 P (eD ls k (dx (ls k) e)) next bQ A B N):=by
 obtain⟨ab,ac,I⟩:=f.st
 have J:=f.kJ.ok.fW g
 unfold Bs
 refine .eq (a:=P.x) o (.eq I (.bind (ajk i f.kJ g m H) λK c=>?_))
 obtain⟨ad,ae,L⟩:=K
 cases n:dM (ls k) e with
 | none=>
   rw[n]at c
   obtain⟨d,c⟩:=c
   simp only at d c;subst d
   exact .cond (λ_=>.ret ⟨rfl,f.wQ c⟩) λM=>by grind
 | some b=>
   rw[n]at c
   obtain⟨d,r,c⟩:=c
   simp only at d r c;subst r
   have d:=d.symm
   subst d
   have l:=f.wQ c
   obtain⟨af,ag,C⟩:=l.st
   obtain⟨D,ah⟩:=mP n
   have E:=X3 i l.kJ.ok g m
   rw[il,Xc (nu e) (nu e)]at E
   refine .cond (λM=>by grind) λ_=>.eq (a:=P.x) o (.eq C (.eq E (.eq (a:=P.x) o (.eq C (.kZ (P:=λy=>kT P.m L y∧lE s y P.r P.m (eV A (gd s b.aS) (-1)) (eV B (gF s b.aS) (-1))) ?_ λO Q=>?_)))))
   ·exact .bind (CS i aF l.nb (j.a.mono (by omega)) (j.b.mono (by omega)) ⟨⟨k,g,(J.ok.ok b D).dS⟩,G b D⟩ (.inr o)) λy p=>.ret p
   have q:=l.ref Q
   obtain⟨ai,aj,R⟩:=q.st
   have ak:=CR aF b.aS
   have al:S (gF s b.aS)<=1:=by grind[gF]
   refine .eq R (.kZ (P:=λy=>kT P.m O y∧lE s y P.r P.m (eV (eV A (gd s b.aS) (-1)) (gd s e) 1) (eV (eV B (gF s b.aS) (-1)) (gF s e) 1)) ?_ λam aa=>.ret ⟨rfl,rfl,q.ref aa⟩)
   exact .bind (CS i aF q.nb ((V7 j.a (by omega) (.inr o)).mono (by omega)) ((V7 j.b (by omega) (.inr o)).mono (by omega)) ⟨⟨k,g,m⟩,F⟩ (.inl o)) λy p=>.ret p
def ajo(l:ch s)(aF:hC s)(m:ih s aC P ls next bQ A B N)(h:yR A B N bQ){k:Nat}(n:k<4){e:bg}(p:fu s k e)(r:kY e)(C:∀c∈ls k,kY c.aS)(D:S (ls k)<900):
 cB (BC aC (U P.x) e) (λf=>match dM (ls k) e with
  |some c=>f.1=0∧ih s f.2 P (eD ls k (dx (ls k) e++[{aS:=e,ct:=c.ct,dL:=c.dL}])) next (bQ++[⟨.wL (U P.x) c.aS⟩]) (eV (eV A (gd s c.aS) (-1)) (gd s e) 1) (eV (eV B (gF s c.aS) (-1)) (gF s e) 1) N
  |none=>f.1=16∧ih s f.2 P (eD ls k (dx (ls k) e)) next bQ A B N):=by
 unfold BC
 refine .cond (λg=>by cases g) λ_=>.bind (V8 l aF m h n p r C D) λE b=>?_
 obtain⟨G,k6,H,I⟩:=E
 cases i:dM (ls k) e with
 | none=>
   rw[i]at b
   obtain⟨d,b⟩:=b
   simp only at d b;subst d
   exact .cond (λ_=>.ret ⟨rfl,b⟩) λg=>by grind
 | some c=>
   rw[i]at b
   obtain⟨d,j,b⟩:=b
   simp only at d j b;subst j d
   obtain⟨J,K,F⟩:=b.st
   exact .cond (λg=>by grind) λ_=>.eq (a:=P.x) o (.eq F (.eq (Qg h.j _ _ _ _) (.any λq=>.eq o (.ret ⟨rfl,b.DO q.1 q.2⟩))))
def Xf(i:ch s)(aF:hC s)(f:ih s aC P ls next bQ A B N)(g:yR A B N bQ){k:Nat}(j:k<4){e:bg}(H:fu s k e)(I:∀b∈ls k,kY b.aS∧(rx b.dL).isSome=X∧0<N b.dL):
 cB (BB aC (U P.x) e) (λh=>match dM (ls k) e with
  |some b=>h.1=0∧ih s h.2 P (eD ls k (dx (ls k) e)) next (bQ++[⟨.yu (U P.x) b⟩]) (eV A (gd s b.aS) (-1)) (eV B (gF s b.aS) (-1)) (bump N b.dL (-1))
  |none=>h.1=16∧ih s h.2 P (eD ls k (dx (ls k) e)) next bQ A B N):=by
 obtain⟨ah,ai,J⟩:=f.st
 have K:=f.kJ.ok.fW j
 unfold BB
 refine .cond (λl=>by cases l) λ_=>.eq (a:=P.x) o (.eq J (.bind (KJ i f.kJ j H) λL c=>?_))
 obtain⟨M,D,O⟩:=L
 obtain⟨c,m⟩:=c
 have d:=f.wQ m
 simp only at c d
 cases n:dM (ls k) e with
 | none=>
   rw[n]at c
   have p:D=16:=eO Prod.snd c
   subst p
   exact .cond (λ_=>.ret ⟨rfl,d⟩) λl=>by grind
 | some b=>
   rw[n]at c
   have r:M=b:=eO Prod.fst c
   have p:D=0:=eO Prod.snd c
   subst p
   have r:=r.symm
   subst r
   obtain⟨E,_⟩:=mP n
   obtain⟨Q,R,aa⟩:=I b E
   obtain⟨aj,ab⟩:=Bd.1 R
   obtain⟨ak,al,ac⟩:=d.st
   refine .cond (λl=>by grind) λ_=>.eq (a:=P.x) o (.eq ac (.kZ (P:=λy=>kT P.m O y∧lE s y P.r P.m (eV A (gd s b.aS) (-1)) (eV B (gF s b.aS) (-1))) ?_ λam m=>?_))
   ·exact .bind (CS i aF d.nb (g.a.mono (by omega)) (g.b.mono (by omega)) ⟨⟨k,j,(K.ok.ok b E).dS⟩,Q⟩ (.inr o)) λy ad=>.ret ad
   have C:=d.ref m
   obtain⟨an,ao,ae⟩:=C.st
   have af:N b.dL<100000:=by have:=g.n b.dL;omega
   refine .eq ae (.kZ (YM i C.quo ab ⟨aa,af⟩) λap F=>?_)
   have G:=C.MT F.1 F.2
   obtain⟨aq,ar,ag⟩:=G.st
   exact .eq ag (.eq (Qg g.j _ _ _ _) (.any λq=>.eq o (.ret ⟨rfl,G.DO q.1 q.2⟩)))
def ajp(c:ch s)(aF:hC s)(d:ih s aC P ls next bQ A B N)(e:yR A B N bQ){k:Nat}(j:k<4){b:aJ}(l:kp s k b)(n:kY b.aS){p:Nat}(q:rx b.dL=U p)(r:0<N b.dL)(f:Int):
 cB (Ek aC (U P.x) b f b.dL) (λC=>ih s C P (eD ls k (dx (ls k) b.aS)) (max 1 f) bQ (eV A (gd s b.aS) (-1)) (eV B (gF s b.aS) (-1)) (bump N b.dL (-1))):=by
 obtain⟨O,Q,D⟩:=d.st
 unfold Ek
 refine .eq (a:=P.x) o (.eq D (.bind (KJ c d.kJ j l.dS) λR E=>?_))
 have g:=d.wQ E.2
 obtain⟨aa,ab,F⟩:=g.st
 refine .eq F (.kZ (Vx g.kJ f) λG H=>?_)
 have h:=g.wQ H
 obtain⟨ac,ad,I⟩:=h.st
 refine .eq I (.kZ (P:=λy=>kT P.m G y∧lE s y P.r P.m (eV A (gd s b.aS) (-1)) (eV B (gF s b.aS) (-1))) ?_ λae J=>?_)
 ·exact .bind (CS c aF h.nb (e.a.mono (by omega)) (e.b.mono (by omega)) ⟨⟨k,j,l.dS⟩,n⟩ (.inr o)) λy K=>.ret K
 have i:=h.ref J
 obtain⟨af,ag,L⟩:=i.st
 have M:N b.dL<100000:=by have:=e.n b.dL;omega
 exact .eq L (.kZ (YM c i.quo q ⟨r,M⟩) λah m=>.ret (i.MT m.1 m.2))
def ajq(d:ch s)(aF:hC s)(e:ih s aC P ls next bQ A B N)(f:yR A B N bQ){k:Nat}(i:k<4){b:aJ}(j:kp s k b)(l:kY b.aS)(m:room s N b.dL=X)(n:pd (ls k) b=X)(p:S (ls k)<900):
 cB (Bj aC (U P.x) b) (λq=>ih s q P (eD ls k (ls k++[b])) next bQ (eV A (gd s b.aS) 1) (eV B (gF s b.aS) 1) (bump N b.dL 1)):=by
 obtain⟨J,K,r⟩:=e.st
 unfold Bj
 refine .eq (a:=P.x) o (.eq r (.bind (ail d e.kJ i j p) λC D=>?_))
 have c:=e.wQ D.2
 unfold added at c
 rw[bT n]at c
 obtain⟨L,M,E⟩:=c.st
 refine .eq E (.kZ (P:=λy=>kT P.m C.2 y∧lE s y P.r P.m (eV A (gd s b.aS) 1) (eV B (gF s b.aS) 1)) ?_ λO F=>?_)
 ·exact .bind (CS d aF c.nb (f.a.mono (by omega)) (f.b.mono (by omega)) ⟨⟨k,i,j.dS⟩,l⟩ (.inl o)) λy G=>.ret G
 have g:=c.ref F
 obtain⟨Q,R,H⟩:=g.st
 refine .eq H (.kZ (aad d g.quo (λI=>by have:=f.n I;omega) b.dL) λaa h=>.ret ?_)
 rw[bT m]at h
 exact g.MT h.2.1 h.2.2
end
section
variable{s:aU}{y:cR}{ls:Nat->R aJ}{next:Int}
def ak4{e:bg}(m:S y.b8<=1000)(h:∀b∈y.b8,S b.aS.cp<=1000)(i:S e.cp<=1000):aM (xr y e) (λj=>j=w0 (y.b8.find? λb=>fE b.aS e)):=by
 unfold xr;refine a' (S y.b8) (λa d=>d=(a:Int)∧((y.b8.take a).find? λb=>fE b.aS e)=cn) (by omega) ⟨rfl,rfl⟩ (λa d g c=>?_) (λd c=>?_)
 ·obtain⟨rfl,c⟩:=c;have k:al y.b8 a∈y.b8:=by simp_all[dI]
  have n:y.b8=(y.b8.take a++[al y.b8 a])++y.b8.drop (a+1):=by rw[<-mL _ g,rT]
  refine .cond (λ_=>.idx o g (.eq (W9 (h _ k) i) (.cond (λf=>.ret (.ret ?_)) λf=>.ret ⟨cZ (by omega),?_⟩))) λf=>by grind
  ·have l:y.b8.find? (λb=>fE b.aS e)=U (al y.b8 a):=by
    grind
   rw[l];rfl
  grind
 obtain⟨rfl,c⟩:=c;have f:V ((S y.b8:Int)<(S y.b8:Int))=Z:=by simp
 rw[mJ]at c;exact⟨.inl (),by simp_all,.ret (by rw[c];rfl)⟩
def QK(d:ch s)(c:jX s y ls next)(a:nC s ls){k:Nat}(h:k<4){e:bg}(f:fu s k e):xr y e=U (w0 (dM (ls k) e)):=by
 refine aM.get ((ak4 (by have:=c.len a;omega) (λb g=>(c.small d a g).1) (by have:=f.len;have:=(d.ev h).2.1;omega)).mono λp aF=>?_);rw[aF];congr 1;have q:=c.dM d a h f;cases i:y.b8.find? λb=>fE b.aS e with
 | none=>
   have:(y.b8.any λb=>fE b.aS e)=Z:=by grind
   simp_all
 | some b=>
   have j:=List.find?_some i
   obtain⟨l,m,g,n⟩:=c.dS a (List.mem_of_find?_eq_some i)
   have o:=(su.1 j).1
   rw[n.dS.ev,f.ev]at o
   have:l=k:=by omega
   subst this
   exact((a.fW l m).YH g j).symm
def YP{e:bg}(p:S y.b8<=1000)(i:∀j∈y.b8,S j.aS.cp<=1000)(k:S e.cp<=1000):BU y e=U {y with b8:=dx y.b8 e}:=by
 refine aM.get ?_;unfold BU;refine .bind (P:=λf=>f=dx y.b8 e) (bY (S y.b8) (λa b=>b=((a:Int),dx (y.b8.take a) e)) (by omega) o (λa b l c=>?_) (λb c=>?_)) λf m=>.ret (by rw[m])
 ·subst c;have g:al y.b8 a∈y.b8:=by simp_all[dI]
  have n:=GH (y.b8.take a) e;rw[oz]at n;refine .cond (λ_=>.idx o l (.eq (W9 (i _ g) k) (.bind (P:=λh=>h=dx (y.b8.take (a+1)) e) (.cond (λd=>.eq (eS _ _ (by grind) (by omega)) (.ret ?_)) λd=>.ret ?_) λh g=>.ret (by grind[cZ])))) λd=>by simp_all
  ·simp_all[mL,dx,oy,Bf,cF]
  simp_all[mL,dx,oy,M5,cF,qe]
 subst c;refine .cond (λd=>by grind) λ_=>.ret ?_;simp_all
def aio{s:aU}{ls:Nat->R aJ}(c:nC s ls){k:Nat}(l:k<4){e:bg}(d:fu s k e):dx (dq ls) e=dq (eD ls k (dx (ls k) e)):=by
 have m:∀a,a<4->dx (ls a) e=eD ls k (dx (ls k) e) a:=λa f=>by
  by_cases g:a=k
  ·simp_all[il]
  rw[kc g];refine rU.2 λb h=>?_;have i:=((c.fW a f).ok.ok b h).dS.ev;have:fE b.aS e=Z:=by
   rw[rY];intro j;have:=(su.1 j).1;rw[i,d.ev]at this;omega
  simp_all
 grind[dq,dx]
theorem jX.dx(a:jX s y ls next)(b:nC s ls){k:Nat}(c:k<4){e:bg}(d:fu s k e):jX s {y with b8:=Go.Proofs.YtmcjlfmeoehcmaaGreat.dx y.b8 e} (eD ls k (Go.Proofs.YtmcjlfmeoehcmaaGreat.dx (ls k) e)) next:=
 ⟨a.qH,a.num,a.AZ.sublist Nn,by rw[<-aio b c d];exact a.sP.filter _⟩
theorem nC.dx(d:nC s ls){k:Nat}(e:bg):nC s (eD ls k (Go.Proofs.YtmcjlfmeoehcmaaGreat.dx (ls k) e)):=by
 refine⟨λa b=>?_,λa b=>?_⟩
 ·by_cases c:a=k
  ·subst c;rw[il];exact(d.fW a b).dx e
  rw[kc c];exact d.fW a b
 by_cases c:a=k
 ·subst c;rw[il];exact mK (GH _ _) (d.len a b)
 rw[kc c];exact d.len a b
def Xg(b:ch s)(a:jX s y ls next)(c:nC s ls){k:Nat}(d:k<4){e:bg}(f:fu s k e):
 aM (xn y e) (λg=>match dM (ls k) e with |some i=>g.2.1=0∧jX s g.2.2 (eD ls k (dx (ls k) e)) next|none=>g.2.1=16∧g.2.2=y):=by
 unfold xn
 refine .eq (GA b a.qH d f) (.cond (λh=>by grind) λ_=>.eq (QK b a c d f) ?_)
 cases l:dM (ls k) e with
 |none=>exact .cond (λ_=>.ret ⟨rfl,rfl⟩) λh=>by cases h
 | some i=>
   refine .cond (λh=>by cases h) λ_=>.eq (YP (by have:=a.len c;omega) (λi j=>(a.small b c j).1) (by have:=f.len;have:=(b.ev d).2.1;omega)) (.ret ⟨rfl,a.dx c d f⟩)
def Xh(c:ch s)(a:jX s y ls next)(d:nC s ls){k:Nat}(b:k<4){e:bg}(f:fu s k e):
 aM (xm y e) (λg=>match dM (ls k) e with |some i=>g.2.1=0∧jX s g.2.2 (eD ls k (dx (ls k) e++[{aS:=e,ct:=i.ct,dL:=i.dL}])) next|none=>g.2.1=16∧g.2.2=y):=by
 unfold xm
 refine .eq (GA c a.qH b f) (.cond (λh=>by grind) λ_=>.eq (QK c a d b f) ?_)
 cases n:dM (ls k) e with
 |none=>exact .cond (λ_=>.ret ⟨rfl,rfl⟩) λh=>by cases h
 | some i=>
   refine .cond (λh=>by cases h) λ_=>.eq (YP (by have:=a.len d;omega) (λi m=>(a.small c d m).1) (by have:=f.len;have:=(c.ev b).2.1;omega)) (.eq o ?_)
   have l:=a.dx d b f
   refine .bind (X7 c l (d.dx e) b (i:=⟨e,i.ct,i.dL⟩) ⟨f⟩) λp j=>.ret ⟨rfl,j.1.trans a.qH,j.2.1.trans a.num,j.2.2.1,?_⟩
   have aC:=nX (ls:=eD ls k (dx (ls k) e)) b ({aS:=e,ct:=i.ct,dL:=i.dL}:aJ)
   rw[il,re]at aC
   exact(j.2.2.2.trans (l.sP.append_right _)).trans aC
def ajr(d:ch s)(a:jX s y ls next)(f:nC s ls){k:Nat}(c:k<4){e:bg}(g:fu s k e)(i:Int)(aQ:0<=next∧next<1000000):
 aM (EZ y e i) (λh=>if (dM (ls k) e).isSome=X then h.2.1=17 else if (al s.bK k).gA<=(S (ls k):Int)then h.2.1=18
  else h.2.1=0∧jX s h.2.2 (eD ls k (ls k++[{aS:=e,ct:=next,dL:=i}])) (next+1)):=by
 have B:=a.len f
 have j:kp s k {aS:=e,ct:=next,dL:=i}:=⟨g⟩
 unfold EZ
 refine .eq (GA d a.qH c g) (.cond (λb=>by grind) λ_=>.eq (QK d a f c g) ?_)
 rw[X4]
 refine .cond (λb=>.ret (by simp_all)) λb=>?_
 rw[b,g.ev,a.qH]
 refine .eq (aii (by omega)) (.idx o (by rw[d.jM];exact c) ?_)
 have l:=(aij a f c).length_eq
 rw[l]
 refine .cond (λb=>.ret ?_) λb=>?_
 ·simp_all
 have b: ¬(al s.bK k).gA<=(S (ls k):Int):=by simp_all
 rw[a.num]
 refine(X7 d a f c j).bind λm n=>.ret ?_
 rw[bU (by simp),bU b]
 obtain⟨p,q,r,A⟩:=n
 refine⟨rfl,p.trans a.qH,?_,r,(A.trans (a.sP.append_right _)).trans (nX c _)⟩
 show aV (m.jm+1)=next+1
 rw[q,a.num,eU] <;> omega
def gW(L:R aJ)(a:Int):Int:=((L.countP λb=>b.dL==a:Nat):Int)
def ak5(a:Int)(k:S y.b8<=1000):FO y a=U (gW y.b8 a):=by
 refine aM.get ?_;unfold FO;refine .bind (P:=λe=>e=gW y.b8 a) (bY (S y.b8) (λb d=>d=(gW (y.b8.take b) a,(b:Int))) (by omega) o (λb d g f=>?_) (λd f=>?_)) λe i=>.ret i
 ·subst f;have l:(y.b8.take b).countP (λj=>j.dL==a)<=1000:=mK List.countP_le_length (by grind);refine .cond (λ_=>.idx o g (.bind (P:=λh=>h=gW (y.b8.take (b+1)) a) (.cond (λc=>.ret ?_) λc=>.ret ?_) λh m=>.ret (by grind[cZ]))) λc=>by simp_all
  ·rw[mL _ g];unfold gW;rw[To,S5,c];exact cZ (by omega)
  simp_all[mL,gW,To,S5]
 subst f;refine .cond (λc=>by grind) λ_=>.ret ?_;simp_all
def LB(b:ch s)(a:Int):zJ s a=U (nR a):=by
 refine aM.get ?_;unfold zJ;refine(Lv b).bind λg c=>?_;rw[c.Dm,b.Dm];refine(YA [1,2,7] a (by simp)).bind λh d=>.ret ?_;rcases d with⟨rfl,aQ⟩|⟨k,e,rfl,f⟩
 ·grind[nR,rx]
 unfold nR;rw[(As e).1 f]
def YQ(a:S y.b8<=1000):BS y=U y:=by
 unfold BS;rw[eS _ _ (by grind) (by omega)];rfl
def VA(h:ch s)(f:jX s y ls next)(l:nC s ls){k:Nat}(q:k<4){e:bg}(r:fu s k e)(b:Int)(aQ:0<=next∧next<1000000):
 aM (xA y e b) (λd=>if (dM (ls k) e).isSome=X then d=(17,y)else if (al s.bK k).gA<=(S (ls k):Int)then d=(18,y)
  else if room s (gW (dq ls)) b=X then d.1=0∧jX s d.2 (eD ls k (ls k++[{aS:=e,ct:=next,dL:=b}])) (next+1)else d=(19,y)):=by
 have D:=f.len l
 unfold xA
 refine .eq (YQ (by omega)) (.bind (ajr h f l q r b aQ) λA c=>?_)
 obtain⟨E,F,gI⟩:=A
 by_cases m:(dM (ls k) e).isSome=X
 ·rw[bT m]at c
  simp only at c;subst c
  exact .cond (λ_=>.ret (by simp_all)) λg=>by grind
 rw[bU m]at c
 by_cases n:(al s.bK k).gA<=(S (ls k):Int)
 ·rw[bT n]at c
  simp only at c;subst c
  exact .cond (λ_=>.ret (by simp_all)) λg=>by grind
 rw[bU n]at c
 obtain⟨p,c⟩:=c
 simp only at p c;subst p
 refine .cond (λg=>by grind) λ_=>?_
 rw[f.qH]
 have B:gW y.b8=gW (dq ls):=by funext x;unfold gW;rw[f.sP.countP_eq]
 refine .eq (LB h b) ?_
 rw[ak5 b (by omega),B]
 cases aF:rx b with
 | none=>
   have i:nR b= -1:=by simp_all[nR,aF]
   have G:room s (gW (dq ls)) b=Z:=by simp_all[room,aF]
   rw[i]
   exact .ret (by simp_all)
 | some j=>
   have C:=Dp aF
   have i:nR b=(j:Int):=by simp_all[nR,aF]
   have aq:V ((j:Int)<0)=Z:=by simp
   rw[i]
   simp only[aq]
   refine .eq (a:=gW (dq ls) b) o (.eq (a:=j) (by unfold bs;rw[bT o];exact lo (by rw[h.o8];exact C)) (.eq o (.cond (λg=>.ret ?_) λg=>.ret ?_)))
   ·simp_all[bU,room,aF,vF,ik]
   simp_all[bU,bT,room,aF,vF,qb]
end
def iJ(s:aU)(L:R aJ)(t:cQ):Int:=(((L.flatMap λa=>gd s a.aS).count t:Nat):Int)
def fU(s:aU)(L:R aJ)(t:cQ):Int:=(((L.flatMap λa=>gF s a.aS).count t:Nat):Int)
section
variable{s:aU}{L aD:R aJ}
def zV(a:L.Perm aD):iJ s L=iJ s aD:=by grind[iJ]
def zW(a:L.Perm aD):fU s L=fU s aD:=by grind[fU]
def oI(a:L.Perm aD):gW L=gW aD:=by funext x;unfold gW;rw[a.countP_eq]
def zX{i:aJ}:eV (iJ s L) (gd s i.aS) 1=iJ s (L++[i]):=by
 grind[iJ,eV]
def zY{i:aJ}:eV (fU s L) (gF s i.aS) 1=fU s (L++[i]):=by
 grind[fU,eV]
def py{a:aJ}:bump (gW L) a.dL 1=gW (L++[a]):=by
 grind[gW,bump]
def V9{A:cQ->Int}{l:R cQ}:eV (eV A l 1) l (-1)=A:=by grind[eV]
def aip{N:Int->Int}{a:Int}:bump (bump N a 1) a (-1)=N:=by
 grind[bump]
def Gr{a:aJ}(b:(aD++[a]).Perm L):eV (iJ s L) (gd s a.aS) (-1)=iJ s aD:=by rw[<-zV b,<-zX,V9]
def Gs{a:aJ}(b:(aD++[a]).Perm L):eV (fU s L) (gF s a.aS) (-1)=fU s aD:=by rw[<-zW b,<-zY,V9]
def Ps{a:aJ}(b:(aD++[a]).Perm L):bump (gW L) a.dL (-1)=gW aD:=by rw[<-oI b,<-py,aip]
def Xi{a:aJ}(b:a∈L):0<gW L a.dL:=by
 unfold gW;have:0<L.countP λc=>c.dL==a.dL:=List.countP_pos_iff.2 ⟨a,b,by simp⟩;omega
end
def nD(a b:Nat->R aJ):Prop:=∀k,k<4->(a k).Perm (b k)
def nD.refl{a:Nat->R aJ}:nD a a:=λ_ _=>.refl _
def nD.symm{a b:Nat->R aJ}(c:nD a b):nD b a:=λk d=>(c k d).symm
def nD.trans{a b c:Nat->R aJ}(f:nD a b)(k:nD b c):nD a c:=λd e=>(f d e).trans (k d e)
structure fH(s:aU)(ls:Nat->List aJ)(next:Int)(y:cR):Prop where
 r:jX s y ls next
 ok:nC s ls
 arg:∀k,k<4->∀i∈ls k,kY i.aS∧(rx i.dL).isSome=X∧i.ct<next
 quo:∀x j,rx x=U j->gW (dq ls) x<=(al s.eo j).jw
 A7:1<=next
def ak6{s:aU}{k:Nat}{l c:R aJ}(d:ix s k l)(p:c.Perm l):ix s k c:=
 ⟨aji d.ok p,d.key.perm p.symm λ{a b} e=>by simp_all[sq]⟩
def fH.perm{s:aU}{ls hG:Nat->R aJ}{next:Int}{y:cR}(h:fH s ls next y)(p:nD hG ls):fH s hG next y where
 r:=⟨h.r.qH,h.r.num,h.r.AZ,h.r.sP.trans (xK p.symm)⟩
 ok:=⟨λk hk=>ak6 (h.ok.fW k hk) (p k hk),λk hk=>by rw[(p k hk).length_eq];exact h.ok.len k hk⟩
 arg k hk i pg:=h.arg k hk i ((p k hk).mem_iff.1 pg)
 quo x j vn:=by rw[oI (xK p)];exact h.quo x j vn
 A7:=h.A7
def fH.abf{s:aU}{ls:Nat->R aJ}{next:Int}{y:cR}(a:fH s ls next y):S (dq ls)<=48:=by rw[<-a.r.sP.length_eq];exact a.r.len a.ok
def Ab{b d:aB}{f:b->R d}{n:Nat}(c:∀a,S (f a)<=n):∀l:R b,S (l.flatMap f)<=n*S l
 |[]=>by simp
 | a::l=>by
   have:=Ab c l;have:=c a;rw[List.flatMap_cons,lI,b7,Nat.mul_add];omega
def RC{s:aU}(aF:hC s){ls:Nat->R aJ}{bQ:R gq}(fx:S (dq ls)<=48)(vn:S bQ<=1000):yR (iJ s (dq ls)) (fU s (dq ls)) (gW (dq ls)) bQ where
 a t:=by
   have h1:=Ab (f:=λi:aJ=>gd s i.aS) (n:=4) (λi=>CR aF _) (dq ls);grind[iJ]
 b t:=by
   have h1:=Ab (f:=λi:aJ=>gF s i.aS) (n:=1) (λi=>by grind[gF]) (dq ls);grind[fU]
 n x:=by
   grind[gW]
 j:=vn
def fH.MU{s:aU}(aF:hC s){ls:Nat->R aJ}{next:Int}{y:cR}(a:fH s ls next y){bQ:R gq}(b:S bQ<=1000):yR (iJ s (dq ls)) (fU s (dq ls)) (gW (dq ls)) bQ:=RC aF a.abf b
abbrev fS(s:aU)(aC:aL Cell)(P:kV)(ls:Nat->R aJ)(next:Int)(bQ:R gq):Prop:=ih s aC P ls next bQ (iJ s (dq ls)) (fU s (dq ls)) (gW (dq ls))
inductive A0(s:aU)(jD:Nat)(ls:Nat->List aJ)(next:Int):gq->(Nat->List aJ)->Int->Prop
 |ins {k:Nat} {i:aJ} (hk:k<4) (pg:kp s k i) (sU:kY i.aS) (pW:dM (ls k) i.aS=cn):A0 s jD ls next ⟨.yt (U jD) i next i.dL⟩ (eD ls k (ls k++[i])) (next+1)
 |mod {k:Nat} {i:aJ} {e:bg} (hk:k<4) (pg:i∈ls k) (he:fu s k e) (sU:kY e) (aR:fE i.aS e=X):A0 s jD ls next ⟨.wL (U jD) i.aS⟩ (eD ls k (dx (ls k) e++[{aS:=e,ct:=i.ct,dL:=i.dL}])) next
 |del {k:Nat} {i:aJ} (hk:k<4) (pg:i∈ls k):A0 s jD ls next ⟨.yu (U jD) i⟩ (eD ls k (dx (ls k) i.aS)) next
def X9{l:R aJ}{e b:bg}(c:fE e b=X):dx l e=dx l b:=List.filter_congr λd _=>by
 congr 1;rw[kW];exact⟨λa=>sn a c,λa=>sn a (by simp_all[sq])⟩
def VB{l a:R aJ}{e:bg}(p:l.Perm a):(dx l e).Perm (dx a e):=p.filter _
def Xj{s:aU}{k:Nat}{l a:R aJ}(d:ix s k a)(p:l.Perm a)(e:bg):dM l e=dM a e:=by
 cases f:dM l e with
 | some g=>
   obtain⟨b,c⟩:=mP f
   exact(d.YH (p.mem_iff.1 b) c).symm
 | none=>
   cases h:dM a e with
   |none=>rfl
   | some g=>
     obtain⟨b,c⟩:=mP h
     grind[tp]
section
variable{s:aU}{aC:aL Cell}{P:kV}{ls hG bP:Nat->R aJ}{next next':Int}{bQ:R gq}{y gI:cR}{ph:gq}
def ih.to{A B fh Ib:cQ->Int}{N Ic:Int->Int}(a:ih s aC P ls next bQ A B N)(b:A=fh)(c:B=Ib)(aQ:N=Ic):ih s aC P ls next bQ fh Ib Ic:=by simp_all
def al8(q:ch s)(aF:hC s)(r:fS s aC P bP next' bQ)(h:S bQ<=1000)(O:A0 s P.x ls next ph hG next')(f:fH s ls next y)(F:fH s hG next' gI)(p:nD bP hG):
 cB (OR aC ph.C4) (λA=> ∃G,fS s A P G next bQ∧nD G ls):=by
 have l:=F.perm p
 have B:=l.MU aF h
 cases O with
 | @ins k i a g H Q=>
   have d:=p k a
   rw[il]at d
   have C:i∈bP k:=d.mem_iff.2 (by simp)
   have R:i∈dq bP:=PH.2 ⟨k,a,C⟩
   obtain⟨b,D⟩:=Bd.1 (l.arg k a i C).2.1
   refine(ajp q aF r B a g H D (Xi R) next).mono λA I=>⟨eD bP k (dx (bP k) i.aS),?_,?_⟩
   ·have j:(dq (eD bP k (dx (bP k) i.aS))++[i]).Perm (dq bP):=by
     have c:=nX (ls:=eD bP k (dx (bP k) i.aS)) a i;rw[il,re]at c;refine c.trans (xK λb h=>?_);by_cases e:b=k
     ·subst e;rw[il];exact uB (l.ok.fW b a) C (nu _)
     grind[kc]
    have aa:max 1 next=next:=by have:=f.A7;omega
    rw[aa]at I
    exact I.to (Gr j) (Gs j) (Ps j)
   intro b h
   by_cases e:b=k
   ·subst e
    rw[il]
    have c:=VB (e:=i.aS) d
    rw[Pq (nu _),Le Q]at c
    exact c
   rw[kc e]
   have c:=p b h
   simp_all[kc]
 | @mod k i e a g ag H J=>
   have d:=p k a
   rw[il]at d
   have E:=(f.ok.fW k a).ok.ok i g
   have K:fE e i.aS=X:=by simp_all[sq]
   have L:dM (bP k) i.aS=U {aS:=e,ct:=i.ct,dL:=i.dL}:=by
    rw[Xj (by have:=F.ok.fW k a;rw[il]at this;omega) d];exact Xc (nu e) J
   obtain⟨ab,_⟩:=mP L
   show cB (El aC (U P.x) i.aS) _
   unfold El
   refine .bind (V8 q aF r B a E.dS (f.arg k a i g).1 (λac ad=>(l.arg k a ac ad).1) (by have:=l.ok.len k a;omega)) λah M=>.ret ?_
   rw[L]at M
   obtain⟨_,_,m⟩:=M
   simp only at m
   have j:(dq (eD bP k (dx (bP k) i.aS))++[({aS:=e,ct:=i.ct,dL:=i.dL}:aJ)]).Perm (dq bP):=by
    have c:=nX (ls:=eD bP k (dx (bP k) i.aS)) a ({aS:=e,ct:=i.ct,dL:=i.dL}:aJ);rw[il,re]at c;refine c.trans (xK λb h=>?_);by_cases e:b=k
    ·subst e;rw[il];exact uB (l.ok.fW b a) ab K
    grind[kc]
   have n:=nX (ls:=eD bP k (dx (bP k) i.aS)) a i
   rw[il,re]at n
   refine⟨_,m.to ?_ ?_ ?_,?_⟩
   ·have:=Gr (s:=s) j
    rw[this,zX (i:=i)];exact zV n
   ·have:=Gs (s:=s) j
    rw[this,zY (i:=i)];exact zW n
   ·rw[<-oI j,<-oI n,<-py,<-py]
   intro b h
   by_cases N:b=k
   ·subst N
    rw[il]
    have c:=VB (e:=i.aS) d
    rw[aik (nu e) J,X9 K]at c
    exact(c.append_right _).trans (uB (f.ok.fW b a) g (nu _))
   rw[kc N]
   have c:=p b h
   simp_all[kc]
 | @del k i a g=>
   have d:=p k a
   rw[il]at d
   have E:=(f.ok.fW k a).ok.ok i g
   have j:(dq bP++[i]).Perm (dq ls):=by
    refine(nX a i).trans (xK λb h=>?_);by_cases e:b=k
    ·subst e;rw[il];exact(d.append_right _).trans (uB (f.ok.fW b a) g (nu _))
    rw[kc e];have c:=p b h;simp_all[kc]
   have ae:pd (bP k) i=X:=by
    have c:=PI (f.ok.fW k a) g (nu i.aS) (nu i.aS) o;unfold pd jk at c⊢;rw[Xj ((f.ok.fW k a).dx i.aS) d,d.any_eq];exact c
   have af:room s (gW (dq bP)) i.dL=X:=by
    obtain⟨b,D⟩:=Bd.1 (f.arg k a i g).2.1;have c:=f.quo _ b D;rw[<-oI j,<-py]at c;grind[bump,room]
   show cB (Bj aC (U P.x) i) _
   refine(ajq q aF r B a E (f.arg k a i g).1 af ae (by have:=l.ok.len k a;omega)).mono λA m=>⟨eD bP k (bP k++[i]),m.to ?_ ?_ ?_,?_⟩
   ·rw[zX];exact zV (nX a i)
   ·rw[zY];exact zW (nX a i)
   ·rw[py];exact oI (nX a i)
   intro b h
   by_cases e:b=k
   ·subst e
    rw[il]
    exact(d.append_right _).trans (uB (f.ok.fW b a) g (nu _))
   rw[kc e]
   have c:=p b h
   simp_all[kc]
end
def YR{s:aU}(H:ch s)(aF:hC s)(aC:aL Cell){Y:Nat->Prop}(I:∀q,Y q->q∈dy aC):cB (xC aC s) (λd=> ∃P:kV,d.1=U P.x∧fS s d.2 P (λ_=>[]) 1 []∧P.y=Y∧P.f=pat aC∧eK aC d.2 rJ):=by
 have ad:=H.o8;unfold xC;refine .bind (ak0 H aC) λae j=>?_;obtain⟨t,af,ag,J,K,⟨L,M,D⟩,l,ah,ai,aj⟩:=j;obtain⟨ar,g⟩:=ae;simp only at K L M D l;subst K;unfold Kq Ki;refine .bind (P:=λN=> ∃f d,d≠f∧f∉dy g∧d∉dy g∧N=(U d,(d,Cell.AE ⟨s,⟨U f⟩⟩)::(f,Cell.sD [])::g)) (.mk λf o=>.mk λd aF=>.ret ⟨f,d,?_,o,?_,rfl⟩) λN ak=>?_
 ·exact λe=>aF (by rw[e];exact jS)
 ·exact λh=>aF (gO _ h)
 obtain⟨f,d,au,o,O,rfl⟩:=ak;refine .bind (P:=λQ=> ∃q,q≠d∧q≠f∧q∉dy g∧Q=(U q,(q,Cell.uZ {(b1:jE)with qk:=s.eo})::(d,Cell.AE ⟨s,⟨U f⟩⟩)::(f,Cell.sD [])::g)) (.eq (a:=s.eo) ?_ (.mk λq E=>.ret ⟨q,?_,?_,?_,rfl⟩)) λQ al=>?_
 ·unfold kF;rw[bT ⟨by omega,by omega,by omega⟩,ad];grind[ci]
 ·exact λe=>E (by rw[e];exact jS)
 ·exact λe=>E (by rw[e];exact gO _ jS)
 ·exact λh=>E (gO _ (gO _ h))
 obtain⟨q,av,aw,R,rfl⟩:=al;refine .any λaa=>.mk λi n=>.ret ⟨⟨i,t,d,f,q,Y,pat aC⟩,rfl,?_⟩;simp only at n⊢;have ax:i≠q:=λe=>n (by rw[e];exact jS);have ay:i≠d:=λe=>n (by rw[e];exact gO _ jS);have az:i≠f:=λe=>n (by rw[e];exact gO _ (gO _ jS));have ab:i∉dy g:=λh=>n (gO _ (gO _ (gO _ h)));have am:∀b,Y b->b∈dy g:=λb c=>l.keys b (I b c);have F:∀b p r A B,b∈dy g->pat ((i,p)::(q,r)::(d,A)::(f,B)::g) b=pat g b:=λb p r A B c=>by
  rw[nr,bU (λe:i=b=>ab (by simp_all)),nr,bU (λe:q=b=>R (by simp_all)),nr,bU (λe:d=b=>O (by simp_all)),nr,bU (λe:f=b=>o (by simp_all))]
 have an:=ji (uO L);have ao:=ji (wj M);have ac:∀k,k<4->∀b,J k b->b∈dy g:=λk m b c=>by obtain⟨_,_,ap⟩:=D.has k m;exact ap.lD b c
 have G:∀b,yQ ⟨i,t,d,f,q,Y,pat aC⟩ b->(b∈dy g->b∈dy aC):=λb c aA=>by
  rcases c with rfl|rfl|rfl|rfl|c
  ·simp_all
  ·simp_all
  ·simp_all
  ·simp_all
  simp_all
 have aq:∀b p r A B,b∈dy g->b∈dy ((i,p)::(q,r)::(d,A)::(f,B)::g):=λb _ _ _ _ c=>gO _ (gO _ (gO _ (gO _ c)));refine⟨⟨⟨aa.1,aa.2,?_⟩,⟨⟨af,ag,J,?_,?_,D.congr (λb c=>?_) λk m b c=>F b _ _ _ _ (ac k m b c),⟨λh=>ah (G _ h an),λh=>ai (G _ h ao)⟩,λk m b c h=>aj k m b c (G b h (ac k m b c))⟩,λb c=>?_⟩,⟨?_,[],?_,.nil,λt=>?_⟩,⟨(b1:jE).kC,?_,λC aB=>?_⟩,λb c=>?_⟩,cq,cq,⟨λb c=>aq b _ _ _ _ (l.keys b c),λb c _=>(F b _ _ _ _ (l.keys b c)).trans (l.rest b c id)⟩⟩
 ·simp_all[hN,nr,bT]
 ·grind[CA]
 ·grind[CB]
 ·simp_all
 ·rcases c with rfl|rfl|rfl|rfl|c
  ·exact jS
  ·exact gO _ (gO _ jS)
  ·exact gO _ (gO _ (gO _ jS))
  ·exact gO _ jS
  simp_all
 ·simp_all[pI,nr,bU,bT]
 ·simp_all[pJ,nr,bU,bT]
 ·rfl
 ·simp_all[n1,nr,bU,bT]
 ·show cu (b1:ck Int 6) C=0;have:C=0∨C=1∨C=2:=by omega
  rcases this with rfl|rfl|rfl <;> rfl
 have j:=am b c;exact⟨(F b _ _ _ _ j).trans (l.rest b (I b c) id),λe:b=i=>ab (e▸j),λe:b=d=>O (e▸j),λe:b=f=>o (e▸j),λe:b=q=>R (e▸j)⟩
def aps{s:aU}(c:ch s)(aF:hC s)(aC:aL Cell):cB (xC aC s) (λa=> ∃P:kV,a.1=U P.x∧fS s a.2 P (λ_=>[]) 1 []):=
 (YR c aF aC (Y:=λ_=>False) λ_ b=>b.elim).mono λa ⟨P,e,b,_⟩=>⟨P,e,b⟩
inductive po(s:aU)(jD:Nat):List gq->List cR->(Nat->List aJ)->Int->Prop
 |nil {ls:Nat->List aJ} {next:Int} {y:cR} (h:fH s ls next y):po s jD [] [y] ls next
 |snoc {bQ:List gq} {ek:List cR} {ls abM hG:Nat->List aJ} {next next':Int} {ph:gq} {gI:cR} (h:po s jD bQ ek ls next) (p:nD abM ls) (u:A0 s jD abM next ph hG next') (oi:fH s hG next' gI):
  po s jD (bQ++[ph]) (ek++[gI]) hG next'
section
variable{s:aU}{aC:aL Cell}{P:kV}{ls bP:Nat->R aJ}{next:Int}{bQ:R gq}{ek:R cR}{y:cR}{jD:Nat}
def po.len(a:po s jD bQ ek ls next):S ek=S bQ+1:=by
 induction a with
 |nil _=>rfl
 |snoc _ _ _ _ b=>simp_all
def po.last(a:po s jD bQ ek ls next):fH s ls next (al ek (S bQ)):=by
 cases a with
 |nil a=>exact a
 | snoc a p c b=>
   rw[CE,bT (by rw[lI,a.len];rfl)]
   exact b
def po.back{ph:gq}(a:po s jD (bQ++[ph]) ek ls next):∃b c d,po s jD bQ (ek.take (S bQ+1)) b d∧nD c b∧A0 s jD c d ph ls next:=by
 generalize f:bQ++[ph]=asG at a;cases a with
 |nil _=>simp_all
 | snoc a p g h=>
   obtain⟨rfl,e⟩:=List.append_inj' f o
   cases e
   refine⟨_,_,_,?_,p,g⟩
   rw[<-a.len,I6];exact a
def al9(D:ch s)(aF:hC s)(ad:fS s aC P bP next bQ)(ae:S bQ<=1000)(E:po s P.x bQ ek ls next)(p:nD bP ls)(h:Int):
 cB (Bm aC (U P.x) h) (λF=> ∃d hG next',fS s F P d next' (bQ.take (max 0 h).toNat)∧po s P.x (bQ.take (max 0 h).toNat) (ek.take ((max 0 h).toNat+1)) hG next'∧nD d hG):=by
 generalize aQ:(max 0 h).toNat=i
 have af:max 0 h=(i:Int):=by omega
 have ag:=E.len
 unfold Bm
 refine .bind (P:=λe=> ∃d hG next',fS s e P d next' (bQ.take i)∧po s P.x (bQ.take i) (ek.take (i+1)) hG next'∧nD d hG) (ce (S bQ-i) (λf m=> ∃d hG next',fS s m P d next' (bQ.take (S bQ-f))∧po s P.x (bQ.take (S bQ-f)) (ek.take (S bQ-f+1)) hG next'∧nD d hG) (by omega) ⟨bP,ls,next,by simp_all,by grind,p⟩ (λf m ah g=>?_) λm g=>?_) λe G=>.ret G
 ·obtain⟨d,hG,next',j,l,q⟩:=g
  obtain⟨a,b,g⟩:=j.st
  have r:S (bQ.take (S bQ-f))=S bQ-f:=by simp_all
  obtain⟨c,aq⟩:∃c,S bQ-f=c+1:=⟨S bQ-f-1,by omega⟩
  rw[aq]at j l g r
  have A:aV ((S (bQ.take (c+1)):Int)-1)=(c:Int):=by grind[eU]
  refine .eq (a:=P.x) o (.eq g (.eq o (.cond (λ_=>?_) λH=>?_)))
  ·refine .idx (k:=c) A (by simp_all) (.idx (k:=c) A (by grind) (.eq o (.eq o ?_)))
   have B:c<S bQ:=by omega
   have I:bQ.take (c+1)=bQ.take c++[al bQ c]:=Pr B
   have J:(bQ.take (c+1)).take c=bQ.take c:=by simp_all
   have K:al (bQ.take (c+1)) c=al bQ c:=by rw[dI _ (by rw[r];omega),dI _ B,EC]
   simp only[J,K]
   rw[I]at l
   obtain⟨L,ai,M,n,C,N⟩:=l.back
   have O:S (bQ.take c)=c:=by simp_all
   rw[O,sb,qU (by omega)]at n
   have Q:=n.last.perm C
   refine .bind (al8 D aF (j.DO (og:=bQ.take c) a b) (by omega) N Q l.last q) λaj R=>.ret ?_
   obtain⟨aa,ab,ac⟩:=R
   rw[show S bQ-(f+1)=c by omega]
   exact⟨aa,L,M,ab,n,ac.trans C⟩
  grind
 obtain⟨d,hG,next',j,l,q⟩:=g
 obtain⟨a,b,g⟩:=j.st
 refine .eq (a:=P.x) o (.eq g (.eq o (.cond (λH=>?_) λ_=>.ret ?_)))
 ·grind
 grind
end
section
variable{s:aU}{aC dt:aL Cell}{P qN nS:kV}{ls sW oq:Nat->R aJ}{next k6 jQ:Int}{bQ as7 asG:R gq}{A B:cQ->Int}{N:Int->Int}
def wR(s:aU)(aC:aL Cell)(P:kV)(ls:Nat->R aJ)(next:Int)(bQ:R gq)(a:Nat->Prop):Prop:=
 ∀(dt:aL Cell) (b:Nat->Prop),(∀q,a q->pat dt q=pat aC q∧q∈dy dt)->(∀q,b q->q∈dy dt∧¬a q)->fS s dt {P with y:=b,f:=pat dt} ls next bQ
def ih.RY(c:fS s aC P ls next bQ):∃l:Nat->Prop,(∀q,l q->q∈dy aC∧¬P.y q)∧wR s aC P ls next bQ l:=by
 obtain⟨m,A,j,B,C,n,⟨D,E⟩,F⟩:=c.kJ.cell;have H:=c.ne;have G:∀k,k<4->∀q,j k q->q∈dy aC:=λk e q d=>by obtain⟨_,_,i⟩:=n.has k e;exact i.lD q d
 refine⟨λq=>(q=P.x∨q=P.r∨q=P.m∨q=P.q)∨q=P.t∨q=m∨∃k,k<4∧j k q,λq d=>?_,λdt p h I=>?_⟩
 ·rcases d with d|rfl|rfl|⟨k,e,d⟩
  ·refine⟨c.kJ.lD q ?_,λg=>?_⟩
   ·rcases d with c|c|c|c
    ·exact .inl c
    ·exact .inr (.inl c)
    ·exact .inr (.inr (.inl c))
    exact .inr (.inr (.inr (.inl c)))
   obtain⟨_,a,b,r,J⟩:=c.pe q g;omega
  ·exact⟨ji (uO B),λg=>D (.inr (.inr (.inr (.inr g))))⟩
  ·exact⟨ji (wj C),λg=>E (.inr (.inr (.inr (.inr g))))⟩
  exact⟨G k e q d,λg=>F k e q d (.inr (.inr (.inr (.inr g))))⟩
 have K:∀q,yQ {P with y:=p,f:=pat dt} q->yQ P q∨p q:=λq d=>by
  rcases d with c|c|c|c|c
  ·exact .inl (.inl c)
  ·exact .inl (.inr (.inl c))
  ·exact .inl (.inr (.inr (.inl c)))
  ·exact .inl (.inr (.inr (.inr (.inl c))))
  simp_all
 obtain⟨a,r,L⟩:=c.st;refine⟨⟨a,r,?_⟩,⟨⟨m,A,j,?_,?_,n.G5 (λk e q d=>(h q (.inr (.inr (.inr ⟨k,e,d⟩)))).2) λk e q d=>(h q (.inr (.inr (.inr ⟨k,e,d⟩)))).1,⟨λi=>?_,λi=>?_⟩,λk e q d i=>?_⟩,λq d=>?_⟩,c.nb.congr (h _ (.inl (.inr (.inl o)))).1 (h _ (.inl (.inr (.inr (.inl o))))).1,c.quo.congr (h _ (.inl (.inr (.inr (.inr o))))).1,λq d=>⟨rfl,?_⟩⟩
 ·grind[Kp]
 ·grind[CA]
 ·grind[CB]
 ·grind
 ·grind
 ·grind
 ·rcases d with c|c|c|c|c
  ·simp_all
  ·simp_all
  ·simp_all
  ·simp_all
  simp_all
 simp_all
structure ug(s:aU)(aC:aL Cell)(ast asu:Nat)(sW:Nat->List aJ)(k6:Int)(oq:Nat->List aJ)(jQ:Int):Prop where
 h:∃qN nS:kV,qN.x=ast∧nS.x=asu∧∃ab9 SI:Nat->Prop,(∀q,ab9 q->q∈dy aC∧¬SI q)∧(∀q,SI q->q∈dy aC)∧wR s aC qN sW k6 [] ab9∧wR s aC nS oq jQ [] SI
def ug.swap{e f:Nat}(d:ug s aC e f sW k6 oq jQ):ug s aC f e oq jQ sW k6:=by
 obtain⟨qN,nS,g,h,i,j,a,b,k,l⟩:=d.h;exact⟨nS,qN,h,g,j,i,λq c=>⟨b q c,λd=>(a q d).2 c⟩,λq c=>(a q c).1,l,k⟩
def wR.asH{a:Nat->Prop}(c:wR s aC P ls next bQ a)(d:∀q,a q->q∈dy aC)(b:Nat->Prop)(e:∀q,b q->q∈dy aC∧¬a q):fS s aC {P with y:=b,f:=pat aC} ls next bQ:=c aC b (λq g=>⟨rfl,d q g⟩) e
def wR.to{c:Nat->Prop}(e:wR s aC P ls next bQ c)(f:∀q,c q->pat dt q=pat aC q):wR s dt P ls next bQ c:=λg h a b=>e g h (λq d=>⟨(a q d).1.trans (f q d),(a q d).2⟩) b
def ug.one{e k:Nat}(g:ug s aC e k sW k6 oq jQ):∃P:kV,P.x=e∧fS s aC P sW k6 []∧∀(dt:aL Cell) (h:Nat->R aJ) (i:Int),fS s dt P h i []->ug s dt e k h i oq jQ:=by
 obtain⟨qN,nS,l,m,D,d,a,b,n,o⟩:=g.h;refine⟨{qN with y:=d,f:=pat aC},l,n.asH (λq c=>(a q c).1) d λq c=>⟨b q c,λg=>(a q g).2 c⟩,λdt h i j=>?_⟩;obtain⟨p,r,A⟩:=j.RY;have B:=λq c=>(j.pe q c).1;have C:∀q,d q->q∈dy dt:=λq c=>j.kJ.lD q (.inr (.inr (.inr (.inr c))));exact⟨{qN with y:=d,f:=pat aC},nS,l,m,p,d,r,C,A,o.to B⟩
end
def aek{a:R eR}{m:eR->aw aI}{g:eR->aI}(p:∀c∈a,m c=U (g c))(A:S a<2^62):
 aM (Eb a m) (λn=>(n= -1∧∀c∈a,g c=Z)∨∃e:Nat,e<S a∧n=e∧g (al a e)=X∧∀b,b<e->g (al a b)=Z):=by
 unfold Eb
 refine a' (S a) (λk s=>s=(k:Int)∧∀b,b<k->g (al a b)=Z) (by omega) ⟨rfl,λb f=>by omega⟩ (λk s h j=>?_) (λs j=>?_)
 ·obtain⟨l,i⟩:=j;subst l
  refine cs (λ_=>?_) (λd=>by simp at d;omega)
  refine .idx o h (.eq (p _ (by rw[dI a h];exact sZ h)) (.cond (λd=>.ret ?_) (λd=>.ret ⟨cZ (by omega),λb f=>?_⟩)))
  ·exact .ret (.inr ⟨k,h,rfl,d,i⟩)
  by_cases q:b=k
  ·subst q;exact d
  exact i b (by omega)
 obtain⟨l,i⟩:=j;subst l
 refine⟨_,by simp;rfl,?_⟩
 refine .ret (.inl ⟨rfl,λc r=>?_⟩)
 obtain⟨b,f,rfl⟩:=vw.1 r
 rw[<-dI a f];exact i b f
def adT{a:R eP}{m:eP->aw aI}{g:eP->aI}(p:∀c∈a,m c=U (g c))(A:S a<2^62):
 aM (D7 a m) (λn=>(n= -1∧∀c∈a,g c=Z)∨∃e:Nat,e<S a∧n=e∧g (al a e)=X∧∀b,b<e->g (al a b)=Z):=by
 unfold D7
 refine a' (S a) (λk s=>s=(k:Int)∧∀b,b<k->g (al a b)=Z) (by omega) ⟨rfl,λb f=>by omega⟩ (λk s h j=>?_) (λs j=>?_)
 ·obtain⟨l,i⟩:=j;subst l
  refine cs (λ_=>?_) (λd=>by simp at d;omega)
  refine .idx o h (.eq (p _ (by rw[dI a h];exact sZ h)) (.cond (λd=>.ret ?_) (λd=>.ret ⟨cZ (by omega),λb f=>?_⟩)))
  ·exact .ret (.inr ⟨k,h,rfl,d,i⟩)
  by_cases q:b=k
  ·subst q;exact d
  exact i b (by omega)
 obtain⟨l,i⟩:=j;subst l
 refine⟨_,by simp;rfl,?_⟩
 refine .ret (.inl ⟨rfl,λc r=>?_⟩)
 obtain⟨b,f,rfl⟩:=vw.1 r
 rw[<-dI a f];exact i b f
def aeN{a:R dX}{m:dX->aw aI}{g:dX->aI}(p:∀c∈a,m c=U (g c))(A:S a<2^62):
 aM (Ee a m) (λn=>(n= -1∧∀c∈a,g c=Z)∨∃e:Nat,e<S a∧n=e∧g (al a e)=X∧∀b,b<e->g (al a b)=Z):=by
 unfold Ee
 refine a' (S a) (λk s=>s=(k:Int)∧∀b,b<k->g (al a b)=Z) (by omega) ⟨rfl,λb f=>by omega⟩ (λk s h j=>?_) (λs j=>?_)
 ·obtain⟨l,i⟩:=j;subst l
  refine cs (λ_=>?_) (λd=>by simp at d;omega)
  refine .idx o h (.eq (p _ (by rw[dI a h];exact sZ h)) (.cond (λd=>.ret ?_) (λd=>.ret ⟨cZ (by omega),λb f=>?_⟩)))
  ·exact .ret (.inr ⟨k,h,rfl,d,i⟩)
  by_cases q:b=k
  ·subst q;exact d
  exact i b (by omega)
 obtain⟨l,i⟩:=j;subst l
 refine⟨_,by simp;rfl,?_⟩
 refine .ret (.inl ⟨rfl,λc r=>?_⟩)
 obtain⟨b,f,rfl⟩:=vw.1 r
 rw[<-dI a f];exact i b f
def KN{s:cC}{a:Nat}(b:a<s.size):aM (mW s (a:Int)) (λ_=>True):=by
 unfold mW;rw[bT (by omega),cr,getElem?_pos s a b];exact⟨_,rfl,cq⟩
def oQ{a:Nat}{k:Nat}(c:k<a):aM (Gv.idx a (k:Int)) (λb=>b=k):=by
 unfold Gv.idx;rw[bT (by omega)];exact⟨_,rfl,by simp⟩
def Wa(a:cE 64):aM (Fy a) (λ_=>True):=by
 unfold Fy;refine .bind (P:=λ_=>True) (.cond (λ_=>.ret bo) λ_=>.ret bo) λc _=>.bind (P:=λ_=>True) (.cond (λ_=>.ret bo) λ_=>.ret bo) λd _=>.bind (P:=λ_=>True) (.cond (λ_=>.ret bo) λ_=>.ret bo) λb _=>(KN ?_).bind λ_ _=>.ret bo;exact qQ (b.1.setWidth 8).isLt (by decide)
def ajs(a:aW):aM (Kk a) (λ_=>True):=by
 unfold Kk;exact .cond (λ_=>(Wa _).bind λ_ _=>.ret bo) λ_=>(Wa _).bind λ_ _=>.ret bo
def KO(a:aW)(b:Int):aM (zO a b) (λ_=>True):=by
 unfold zO;exact(ajs a).bind λ_ _=>.ret bo
def ahi(a:cJ)(k:Int):aM (JO a k) (λ_=>True):=by
 unfold JO ON;refine .cond (λ_=>.ret bo) λ_=>.bind (P:=λ_=>True) ?_ λ_ _=>.ret bo;refine .eq o (.bind (P:=λ_=>True) (.cond (λ_=>.ret bo) λ_=>?_) λ_ _=>.ret bo);refine .bind (P:=λ_=>True) (.cond (λ_=>.ret bo) λ_=>?_) λ_ _=>.ret bo;exact .bind (P:=λ_=>True) (.cond (λ_=>.ret bo) λ_=>.ret bo) λ_ _=>.ret bo
def ahj(a:cJ)(k b:Int)(c:0<=b)(d:b<=128):aM (FZ a k b) (λ_=>True):=by
 unfold FZ;refine(KO _ _).bind λe _=>.bs (P:=λ_=>True) (λ_=>KO _ _) λf _=>.bs (P:=λ_=>True) (λ_=>KO _ _) λg _=>.cond (λ_=>.ret bo) λ_=>.cond (λ_=>?_) λ_=>.cond (λ_=>?_) λ_=>.cond (λ_=>?_) λ_=>.ret bo
 ·exact .bs (λ_=>Vt _ _ c d) λh _=>.bs (λ_=>XW _ _) λi _=>.eq o (.ret bo)
 ·exact .bs (λ_=>XW _ _) λj _=>.eq o (.ret bo)
 exact .bs (λ_=>K9 _) λl _=>.eq o ((agB _ _).bind λm _=>.ret bo)
def afZ(l:R Int)(b:Int)(d:S l<2^30):aM (Jj l b) (λ_=>True):=by
 unfold Jj;refine a' (S l) (λk s=>s=(k:Int)) (by omega) o (λk s c a=>?_) λs a=>?_
 ·subst a;refine .cond (λ_=>.idx o c (.cond (λ_=>.ret (.ret bo)) λ_=>.ret (cZ (by omega)))) λe=>by simp_all
 subst a;refine⟨_,by simp;rfl,?_⟩;exact .ret bo
def Ow(l:R Int)(a:Int)(b:S l<2^30):aM (BE l a) (λ_=>True):=by
 unfold BE;exact(afZ l a b).bind λ_ _=>.ret bo
def aM.aae{b d:aB}{c:aw b}{e:b->aw d}{P:b->Prop}{f:d->Prop}(g:aM c P)(k:∀a,c=U a->P a->aM (e a) f):aM (c.bind e) f:=by
 obtain⟨a,rfl,h⟩:=g;simp_all
def abg(a:cC)(l:R fY):Prop:=aM (B9 a l) (λc=> ∀b,S b<=4000->aM (zP c.1 b) (λ_=>True))
structure AK(s:aU):Prop where
 D1:∀r∈s.eo,r.iH.length<2^30∧r.cM.length<2^30
 lV:∀t∈s.bK,∀l,zB t=U l->abg t.iZ l
 asv:∀a∈s.cM,∀l,zx a=U l->abg a.iZ l
section
variable{s:aU}{k:Nat}{e:bg}
def RD{a:eu}(b:mu a):0<=rR a∧rR a<=128:=by
 obtain⟨c,d,e,_,_,f,g,_⟩:=b;grind[Rx]
def agc(b:ch s)(c:k<4)(h:fu s k e):aM (Jw s e) (λ_=>True):=by
 unfold Jw;have p:=(b.ev c).2.2.1;have B:=(b.ev c).2.1;have aQ:=h.len;refine .eq (Po b c h.ev) (.cond (λa=>by simp at a) λ_=>.cond (λ_=>.ret bo) λ_=>?_);refine a' (S e.cp) (λk s=>s=(k:Int)) (by omega) o (λi q r d=>?_) λq d=>?_
 ·subst d;have f:i<S (al s.bK k).bS:=by omega
  have j:mu (al (al s.bK k).bS i):=p _ (by simp_all[dI]);refine .cond (λ_=>.idx o r (.idx o f ((ahi _ _).bind λC _=>.cond (λ_=>.ret (.ret bo)) λ_=>?_))) λa=>by simp_all
  refine .bs (λ_=>oQ f) λD E=>.bs (λ_=>oQ f) λF A=>?_;refine .bs (P:=λl=>0<=l∧l<=128) (λa=>by rw[A a];exact⟨_,ahc b j,RD j⟩) λG m=>?_;exact .bs (P:=λ_=>True) (λa=>ahj _ _ _ (m a).1 (m a).2) λH _=>.cond (λ_=>.ret (.ret bo)) λ_=>.ret (cZ (by omega))
 subst d;refine⟨_,by simp;rfl,?_⟩;refine .bind (P:=λ_=>True) ?_ λI _=>.bind (P:=λ_=>True) (.cond (λ_=>.ret bo) λ_=>.ret bo) λJ _=>.cond (λ_=>.ret bo) λ_=>.ret bo;unfold OC Ii;exact .bind (P:=λ_=>True) ((Uk (g:=λn=>n.cO==3||n.cO==4) (λK L=>rfl) (by grind)).bind λ_ _=>.ret bo) λ_ _=>.ret bo
def O8(c:ch s)(a:Int):aM (Cd s a) (λy=>y<0∨∃b:Nat,b<S s.eo∧y=b):=by
 unfold Cd;have d:=c.o8;refine(aeN (g:=λt=>t.cA==a) (λ_ _=>rfl) (by omega)).bind λy e=>.ret ?_;grind
def Vf(d:ch s)(aF:AK s)(c t:Int):aM (FL s c t) (λ_=>True):=by
 unfold FL;refine(O8 d c).bind λh a=>.cond (λ_=>.ret bo) λe=>?_;rcases a with a|⟨f,a,rfl⟩
 ·simp_all
 have i:=(aF.D1 (al s.eo f) (by simp_all[dI])).1;refine .idx o a ((aek (g:=λg=>g.bZ==t) (λ_ _=>rfl) (by omega)).bind λj b=>.cond (λ_=>.ret bo) λe=>?_);rcases b with⟨b,_⟩|⟨k,b,rfl,_⟩
 ·simp_all
 exact .idx o a (.idx o b (.ret bo))
def ajt(e:ch s)(aF:AK s)(c a:Int):aM (J5 s c a) (λ_=>True):=by
 unfold J5;refine(O8 e c).bind λg b=>?_;rcases b with b|⟨f,b,rfl⟩
 ·exact .bs (P:=λ_=>True) (λd=>by grind) λ_ _=>.bs (P:=λ_=>True) (λd=>by grind) λ_ _=>.ret bo
 have h:=(aF.D1 (al s.eo f) (by simp_all[dI])).2;exact .bs (λ_=>oQ b) λi j=>.bs (λd=>Ow _ _ (by simp_all)) λ_ _=>.ret bo
def agM(a:eR)(b:Nat):aM (JA a (b:Int)) (λ_=>True):=by
 unfold JA;exact .bs (λc=>oQ (by simp_all)) λ_ _=>.ret bo
def U1(c:ch s)(a:Int):aM (FF s a) (λy=>y<0∨∃b:Nat,b<S s.cM∧y=b):=by
 unfold FF;have d:=c.yz;refine(adT (g:=λt=>t.cA==a) (λ_ _=>rfl) (by omega)).bind λy e=>.ret ?_;grind
def afq(b:ch s)(d:k<4)(f:fu s k e):aM (Jc s e) (λ_=>True):=by
 unfold Jc;have l:=f.args;have m:=(b.ev d).2.2.2.1;refine .eq (Po b d f.ev) ((U1 b _).bind λn a=>.bs (λ_=>Ow _ _ (by grind)) λp q=>.cond (λ_=>.ret bo) λg=>?_);rcases a with a|⟨h,a,rfl⟩
 ·simp_all
 refine .idx o a (.eq o (.cond (λ_=>.ret bo) λaC=>?_));have aC:S e.eX=S (al s.cM h).e2:=by grind
 refine a' (S e.eX) (λk s=>s=(k:Int)) (by omega) o (λr i j c=>?_) λi c=>?_
 ·subst c;exact .cond (λ_=>.idx o j (.idx o (by omega) ((KO _ _).bind λA _=>.cond (λ_=>.ret (.ret bo)) λ_=>.ret (cZ (by omega))))) λg=>by simp_all
 subst c;refine⟨_,by simp;rfl,?_⟩;exact .ret bo
def aiq(b:ch s)(aF:AK s)(c:Int)(g:S e.cp<2^30):aM (zv s c e) (λ_=>True):=by
 unfold zv;refine(Vf b aF _ _).bind λh _=>?_;refine a' (S e.cp) (λk s=>s=(k:Int)) (by omega) o (λi d f a=>?_) λd a=>?_
 ·subst a;refine .cond (λ_=>.idx o f (.bs (P:=λ_=>True) (λ_=>agM _ _) λj _=>.cond (λ_=>.ret (.ret bo)) λ_=>.ret (cZ (by omega)))) λl=>by simp_all
 subst a;refine⟨_,by simp;rfl,?_⟩;exact .ret bo
def Wb{l:R (kr _ Int)}(f:S l<2^30)(b:∀c∈l,aM c.r (λ_=>True)):aM (Cf l) (λ_=>True):=by
 unfold Cf;refine a' (S l) (λk s=>s=(k:Int)) (by omega) o (λg d e a=>?_) λd a=>?_
 ·subst a;refine .cond (λ_=>.idx o e ((b _ (by simp_all[dI])).bind λh _=>.cond (λ_=>.ret (.ret bo)) λ_=>.ret (cZ (by omega)))) λb=>by simp_all
 subst a;refine⟨_,by simp;rfl,?_⟩;exact .ret bo
def zZ{a:kr _ aI}(b:Int)(c:aM a.r (λ_=>True)):aM (uq a b) (λ_=>True):=by
 unfold uq;exact c.bind λ_ _=>.cond (λ_=>.ret bo) λ_=>.ret bo
def Xk{a:aB}(l:R a){k:Nat}(b:k<=S l):kF l 0 (k:Int)=U (l.take k):=by
 simp_all[kF,bT]
def afB(a:Int):aM (Jk a) (λb=>S b<=2):=by
 unfold Jk;refine .cond (λ_=>.ret (by simp)) λ_=>.cond (λ_=>.eq o (.ret (by simp))) λ_=>.cond (λ_=>.eq o (.ret (by simp))) λ_=>.cond (λ_=>.ret (by simp)) λ_=>.ret (by simp)
def UN(t:dc)(p:S t.bS<=1000):aM (zB t) (λh=>1<=S h∧S h<=2*S t.bS+1):=by
 unfold zB;refine a' (S t.bS) (λk s=>s.1=(k:Int)∧S s.2<=2*k) (by omega) ⟨rfl,by simp⟩ (λq c i d=>?_) λc d=>?_
 ·obtain⟨a,l⟩:=c;obtain⟨b,e⟩:=d;simp only at b e;subst b;refine .cond (λ_=>.idx o i ((afB _).bind λj r=>?_)) λm=>by simp_all
  refine a' (S j) (λk s=>s.1=(k:Int)∧S s.2=S l+k) (by omega) ⟨rfl,by simp⟩ (λA c d f=>?_) λc f=>?_
  ·obtain⟨a,n⟩:=c;obtain⟨b,g⟩:=f;simp only at b g;subst b;exact .cond (λ_=>.idx o d (.eq o (.eq (eS _ _ (by grind) (by omega)) (.ret ⟨cZ (by omega),by grind⟩)))) λm=>by simp_all
  obtain⟨a,n⟩:=c;obtain⟨b,g⟩:=f;simp only at b g;subst b;refine⟨_,by simp;rfl,?_⟩;exact .ret ⟨cZ (by omega),by grind⟩
 obtain⟨a,l⟩:=c;obtain⟨b,e⟩:=d;simp only at b e;subst b;refine⟨_,by simp;rfl,?_⟩;exact .eq o (.eq (eS _ _ (by grind) (by omega)) (.ret ⟨by simp,by simp_all⟩))
def air(c:cJ)(a:cC)(b:Int):aM (J7 c a b) (λ_=>True):=by
 unfold J7 FM xH;exact .eq o (.cond (λ_=>.eq o (.ret bo)) λ_=>.cond (λ_=>.ret bo) λ_=>.cond (λ_=>.cond (λ_=>(K9 _).bind λ_ _=>.ret bo) λ_=>.ret bo) λ_=>.ret bo)
def agN(a:ch s){b:eu}(c:mu b):aM (JV s b.im) (λ_=>True):=by
 obtain⟨f,d,e,_⟩:=c;unfold JV;rw[e];refine(OZ a d).bind λg aF=>.cond (λ_=>.ret bo) λ_=>?_;subst aF;exact .idx o (by have:=a.sL;omega) (.ret bo)
def aju(g:ch s)(m:k<4)(F:S e.cp<2^30):aM (Gi s (al s.bK k) e) (λq=>S q<=4000):=by
 unfold Gi;have r:=(g.ev m).2.2.1;have aQ:=(g.ev m).2.1;refine a' (S (al s.bK k).bS) (λk s=>s.1=(k:Int)∧S s.2<=3*k) (by omega) ⟨rfl,by simp⟩ (λA c B f=>?_) λc f=>?_
 ·obtain⟨a,l⟩:=c;obtain⟨b,h⟩:=f;simp only at b h;subst b;have C:mu (al (al s.bK k).bS A):=r _ (by simp_all[dI]);refine .cond (λ_=>.idx o B (.bind (P:=λ_=>True) (.cond (λn=>.idx o (by simp_all) (.ret bo)) λ_=>.ret bo) λG _=>.eq o ((UN _ (by simp)).bind λd H=>?_))) λn=>by simp_all
  have I:S d<=3:=by simp_all
  have D:aV ((S d:Int)-1)=((S d-1:Nat):Int):=by rw[eU] <;> omega
  rw[D];refine .eq (Xk _ (by omega)) ?_;refine a' (S (d.take (S d-1))) (λk s=>s.1=(k:Int)∧S s.2=S l+k) (by grind) ⟨rfl,by simp⟩ (λJ c f i=>?_) λc i=>?_
  ·obtain⟨a,E⟩:=c;obtain⟨b,j⟩:=i;simp only at b j;subst b;have p:=f;simp at p;exact .cond (λ_=>.idx o f ((agN g C).bind λK _=>(air _ _ _).bind λL _=>.eq o (.eq (eS _ _ (by grind) (by omega)) (.ret ⟨cZ (by omega),by grind⟩)))) λn=>by simp_all
  obtain⟨a,E⟩:=c;obtain⟨b,j⟩:=i;simp only at b j;subst b;refine⟨_,by simp only[c2,Fw,cond_false];rfl,?_⟩;have p:S (d.take (S d-1))<=2:=by simp_all
  exact .ret ⟨cZ (by omega),by grind⟩
 obtain⟨a,l⟩:=c;obtain⟨b,h⟩:=f;simp only at b h;subst b;refine⟨_,by simp only[c2,Fw,cond_false];rfl,?_⟩;unfold FM xH;exact .eq o (.eq o (.eq (eS _ _ (by grind) (by omega)) (.ret (by grind))))
def UI(a:eP)(i:S a.e2<=1000):aM (zx a) (λg=>S g<=S a.e2):=by
 unfold zx;refine a' (S a.e2) (λk s=>s.1=(k:Int)∧S s.2<=k) (by omega) ⟨rfl,by simp⟩ (λj e h f=>?_) λe f=>?_
 ·obtain⟨b,l⟩:=e;obtain⟨c,d⟩:=f;simp only at c d;subst c;exact .cond (λ_=>.idx o h (.eq o (.eq (eS _ _ (by grind) (by omega)) (.ret ⟨cZ (by omega),by simp_all⟩)))) λm=>by simp_all
 obtain⟨b,l⟩:=e;obtain⟨c,d⟩:=f;simp only at c d;subst c;refine⟨_,by simp;rfl,?_⟩;exact .ret d
def agd(a:eP)(g:R aW)(h:S a.e2<=1000):aM (FR a g) (λi=>S i<=4000):=by
 unfold FR;refine(UI a h).bind λj p=>?_;refine a' (S j) (λk s=>s.1=(k:Int)∧S s.2<=k) (by omega) ⟨rfl,by simp⟩ (λq d m e=>?_) λd e=>?_
 ·obtain⟨b,l⟩:=d;obtain⟨c,f⟩:=e;simp only at c f;subst c;refine .cond (λ_=>.idx o m (.eq o (.bind (P:=λ_=>True) (.cond (λn=>.idx o (by simp_all) (.ret bo)) λ_=>.ret bo) λr _=>?_))) λn=>by simp_all
  exact .eq (eS _ _ (by grind) (by omega)) (.ret ⟨cZ (by omega),by simp_all⟩)
 obtain⟨b,l⟩:=d;obtain⟨c,f⟩:=e;simp only at c f;subst c;refine⟨_,by simp;rfl,?_⟩;exact .ret (by omega)
def ahk(b:ch s)(aF:AK s)(d:k<4)(j:fu s k e):aM (J2 s e) (λ_=>True):=by
 unfold J2;have aQ:=(b.ev d).2.1;have g:k<S s.bK:=by rw[b.jM];exact d
 have p:S e.cp<2^30:=by have:=j.len;omega
 rw[j.ev];refine(Cy b d).bind λf q=>.cond (λ_=>.ret bo) λ_=>?_;subst q;refine .idx o g (.idx o g (aM.aae (UN _ (by omega)) λG r _=>(aF.lV _ (by simp_all[dI]) _ r).bind λH A=>?_));refine .bs (λ_=>oQ g) λI B=>.bs (P:=λf=>S f<=4000) (λa=>by rw[B a];exact aju b d p) λJ C=>.bs (λa=>A _ (C a)) λK L=>.cond (λ_=>.ret bo) λ_=>.cond (λ_=>.ret bo) λ_=>?_;refine(U1 b _).bind λM c=>.cond (λ_=>.ret bo) λa=>?_;rcases c with c|⟨h,c,rfl⟩
 ·simp_all
 have aC:S (al s.cM h).e2<=1000:=by
  have D:=uF qv (l:=s.cM) (k:=h) c;rw[b.Ai]at D;have i:∀m,m<6->S (al AI m).2<=1000:=by decide
  have n:=i h (by have:=b.yz;omega);simp_all[qv]
 refine .idx o c (.idx o c (aM.aae (UI _ aC) λN E _=>(aF.asv _ (by simp_all[dI]) _ E).bind λO i=>?_));exact .bs (λ_=>oQ c) λQ n=>.bs (P:=λf=>S f<=4000) (λa=>by rw[n a];exact agd _ _ aC) λR F=>.bs (λa=>i _ (F a)) λaa _=>.ret bo
def abh(s:aU)(a:Int)(e:bg):aw Int:=
 Cf [⟨uq ⟨zt s a⟩ 21⟩,⟨uq ⟨zq s e⟩ 6⟩,⟨uq ⟨zu s a e⟩ 21⟩,⟨zw s e⟩,⟨uq ⟨zv s a e⟩ 21⟩]
def ajv(a:ch s)(aF:AK s)(c:k<4)(d:fu s k e)(b:Int):aM (abh s b e) (λ_=>True):=by
 unfold abh;have g:S e.cp<2^30:=by have:=d.len;have:=(a.ev c).2.1;omega
 refine Wb (by simp) λh f=>?_;simp only[fj,s0,tj]at f;rcases f with rfl|rfl|rfl|rfl|rfl
 ·refine zZ _ ?_;show aM (zt s b) _;unfold zt;exact(O8 a b).bind λ_ _=>.ret bo
 ·refine zZ _ ?_;show aM (zq s e) _;unfold zq;rw[d.ev];exact(Cy a c).bind λ_ _=>.ret bo
 ·refine zZ _ ?_;show aM (zu s b e) _;unfold zu;exact(Vf a aF _ _).bind λ_ _=>.ret bo
 ·show aM (zw s e) _;unfold zw;exact(agc a c d).bind λ_ _=>.ret bo
 exact zZ _ (aiq a aF b g)
def ahl(a:ch s)(aF:AK s)(b:k<4)(d:Int)(c:eQ)(e:fu s k c.aS):aM (tg s d c) (λ_=>True):=by
 unfold tg;refine .eq o (.eq o (.eq o (.eq o (.eq o ((ajv a aF b e d).bind λi _=>.cond (λ_=>.ret bo) λ_=>.eq o (.cond (λ_=>.ret bo) λ_=>.cond (λ_=>.ret bo) λ_=>.eq o (.eq o (.eq o (.bind (P:=λ_=>True) (Wb (by simp) λj f=>?_) λ_ _=>.ret bo)))))))));simp only[fj,s0,tj]at f;have g:k<S s.bK:=by rw[a.jM];exact b
 rcases f with rfl|rfl|rfl|rfl
 ·refine zZ _ ?_;show aM (BP s c.aS) _;unfold BP;rw[e.ev];refine(Cy a b).bind λd h=>?_;subst h;exact .idx o g ((Ow _ _ (by have:=(a.ev b).2.2.2.1;omega)).bind λ_ _=>.ret bo)
 ·refine zZ _ ?_;show aM (BQ s d c.aS) _;unfold BQ;exact(ajt a aF _ _).bind λ_ _=>.ret bo
 ·show aM (BR s c.aS) _;unfold BR;exact(afq a b e).bind λ_ _=>.ret bo
 refine zZ _ ?_;show aM (BW s c.aS) _;unfold BW;exact(ahk a aF b e).bind λ_ _=>.ret bo
end
def HZ{a:aB}{b:aw a}{P:a->Prop}(c:aM b P):hf b P:=λd e=>by
 obtain⟨f,g,h⟩:=c;simp_all
structure vb(s:aU):Prop where
 p2:2<=s.kB∧s.kB<=9
 act:(al s.cM 0).iZ=W #[]
 Sn:(al s.eo 0).cM=[1,2,3,4,5,6]
 D1:∃g1 g2 g3,(al s.eo 0).iH=[⟨1,X,X,[X]⟩,g1,g2,g3]
def age(b:dB):hf (vz b) (λc=>(al c.1 0).iZ=W #[]):=by
 unfold vz;iterate 13 refine .eq ?_
 refine .skip λg=>.eq (.skip λh=>.eq (.eq (.eq (.skip λi=>?_))));refine .bind (P:=λa=>(al a 0).iZ=W #[]) (.cond (λ_=>.bind .idx λk d=>.eq (.ret ?_)) λ_=>.ret o) λj e=>.skip λl=>.bind (P:=λa=>(al a 0).iZ=W #[]) (.cond (λ_=>.bind .idx λk d=>.eq (.ret ?_)) λ_=>.ret e) λm f=>.ret f
 ·have:k=2:=by omega
  subst this;rfl
 have:k=4:=by omega
 simp_all[Gz,bU]
def ahm(h:dB)(aj:gv h)(cI:R dc)(ak:S cI=4)(K:∀k,k<4->S (al cI k).bS<=1000)(L:(al cI 0).cA=1)(M:S (al cI 0).bS=1):
 hf (s9 h cI) (λF=>(al F.1 0).cM=[1,2,3,4,5,6]∧∃o p f,(al F.1 0).iH=[⟨1,X,X,[X]⟩,o,p,f]):=by
 unfold s9
 refine .skip λ_=>.skip λ_=>.skip λam=>.skip λan=>?_
 refine .bind (P:=λe=>e.2.2.2.2.2.1.cM=[1,2,3,4,5,6]∧∃o p f,e.2.2.2.2.2.2=[⟨1,X,X,[X]⟩,o,p,f]) (.loop (λg=>g.2.2.2.2.2.2.1.cM=[1,2,3,4,5,6]∧∃k:Nat,g.1=(k:Int)∧k<=4∧S g.2.2.2.2.2.2.2=k∧(0<k->al g.2.2.2.2.2.2.2 0=⟨1,X,X,[X]⟩)) ⟨rfl,0,rfl,by omega,rfl,λN=>absurd N (by decide)⟩ λg O=>?_) λe Q=>.eq (.eq (.ret Q))
 obtain⟨ao,ap,o,aq,ar,p,au,f⟩:=g
 obtain⟨D,k,G,H,q,I⟩:=O
 simp only at D G q I;subst G
 refine .cond (λr=>?_) λr=>.ret ⟨D,?_⟩
 ·have aa:k<4:=by grind
  refine .bind .idx λi av=>?_
  have:i=k:=by omega
  subst this
  refine .bind (P:=λy:R aI=>S y=S (al cI i).bS) (λy e=>?_) λj J=>.skip λaw=>?_
  ·grind[tQ]
  refine .bind (P:=λe=> ∀c,c<S j->al e.2.1 c=X∧S e.2.1=S j) (.loop (λm=>S m.2.2.1=S j∧∃d:Nat,m.1=(d:Int)∧d<=S j∧∀c,c<d->al m.2.2.1 c=X) ⟨rfl,0,rfl,by omega,λc E=>absurd E (by omega)⟩ λm ab=>?_) λA ac=>?_
  ·obtain⟨ax,ay,az,aA⟩:=m
   obtain⟨ad,d,A,aB,E⟩:=ab
   simp only at ad A E;subst A
   refine .cond (λr=>?_) λr=>.ret λc ae=>?_
   ·have aC:d<S j:=by grind
    refine .skip λaD=>.bind .idx λaf aE=>.skip λaF=>.ret ⟨by grind[eZ],d+1,?_,by omega,λc ae=>?_⟩
    ·have:=K i aa
     exact cZ (by omega)
    have:af=d:=by omega
    subst this
    rw[Gz (by omega)]
    grind
   grind
  refine .eq (.bind xV λaG ag=>.skip λaH=>.skip λaJ=>.skip λaK=>.skip λaL=>.ret ⟨D,i+1,cZ (by omega),by omega,?_,λ_=>?_⟩)
  ·grind
  subst ag
  rw[CE]
  by_cases ah:i=0
  ·subst ah
   rw[bT q.symm]
   rw[M]at J
   obtain⟨B,C⟩:=ac 0 (by omega)
   rw[L]
   rw[J]at C
   generalize A.2.1=l at B C
   cases l with
   |nil=>cases C
   | cons a t=>
     cases t with
     |nil=>have B:a=X:=B;rw[B]
     |cons _ _=>cases C
  grind
 simp only[qb]at r
 have H:k=4:=by omega
 have n:=I (by omega)
 show ∃a b h,f=_
 rw[H]at q
 match f,q,n with
 |[a,b,h,ai],_,n=>exact⟨b,h,ai,by have n:a=_:=n;rw[n]⟩
def agO(j:dB)(o:gv j):hf (oB j) (λp=>vb p.1):=by
 unfold oB;refine .bind (HZ (gV _ 8 o (by omega))) λm q=>.bind (HZ (gV _ 30 q.1 (by omega))) λG c=>?_;refine .eq (.eq (.eq (.eq (.eq (.eq (.eq (.eq (.eq (.eq (.eq (.eq ?_)))))))))));refine .bind (HZ (Vr _ c.1)) λH d=>.bind (HZ (aM.par (U6 _ d.1) (age _))) λI a=>.bind (HZ (Vs _ a.1.1)) λb g=>.eq (.eq ?_);obtain⟨r,_,A,B,C,g⟩:=g;have D:S b.1=4:=by rw[<-lY (f:=nx),g];rfl
 have E:∀k,k<4->S (al b.1 k).bS<=1000:=λk J=>by
  have e:=uF nx (l:=b.1) (k:=k) (by omega);rw[g]at e;rw[<-show _=(al b.1 k).bS from eO (·.2.2) e];have:k=0∨k=1∨k=2∨k=3:=by omega
  cases A <;> cases B <;> cases C <;> rcases this with rfl|rfl|rfl|rfl <;> decide
 have e:=uF nx (l:=b.1) (k:=0) (by omega);rw[g]at e;have F:(al b.1 0).cA=1:=(eO (·.1) e).symm;have K:(al b.1 0).bS=[rQ]:=(eO (·.2.2) e).symm;refine .bind (ahm _ r b.1 D E F (by simp_all)) λL i=>.eq (.skip λM=>.skip λN=>.skip λO=>?_);have n:2<=aV (2+m.1)∧aV (2+m.1)<=9:=by
  grind[eU]
 refine .bind (P:=λh=>vb h.1) (.cond (λ_=>.eq (.skip λy=>.ret ⟨n,a.2,i.1,i.2⟩)) λ_=>.ret ⟨n,a.2,i.1,i.2⟩) λQ c=>.skip λR=>.skip λaa=>?_;refine .bind (P:=λh=>vb h.1) (.cond (λ_=>.eq (.skip λy=>.ret ⟨c.p2,c.act,c.Sn,c.D1⟩)) λ_=>.ret c) λab d=>.skip λac=>.skip λad=>?_;refine .bind (P:=λh=>vb h.1) (.cond (λ_=>.eq (.eq (.skip λy=>.ret ⟨d.p2,d.act,d.Sn,d.D1⟩))) λ_=>.ret d) λae a=>.eq (.ret ⟨a.p2,a.act,a.Sn,a.D1⟩)
def SJ(a:Nat):aW:= {(b1:aW)with df:=BitVec.ofInt 64 (a:Int)}
def lW(a:Nat):bg:= {(b1:bg)with bZ:=1,cp:=[({(b1:cJ)with fO:=X,b2:=SJ a}:cJ)],dR:=1}
def ama:∀w:Fin 16,∀a:Fin 128,cY (SJ w.1) a.1=X->(a.1:Int)<rR rQ:=by decide +kernel
def aaf{s:aU}(a:ch s){w:Nat}(b:w<16):fu s 0 (lW w):=by
 refine⟨rfl,by rw[a.Ry];rfl,λc d=>?_,by show 0<=10;decide,λ_=>rfl⟩;rw[a.Ry]at d⊢;have:c=0:=by simp_all
 subst this;show sB 1 (rR rQ) {(b1:cJ)with fO:=X,b2:=SJ w};exact⟨λa=>(by cases a),λ_=>rfl,λ_ e f g=>ama ⟨w,b⟩ ⟨e,f⟩ g,λa=>(by cases a),λa=>(by cases a),Hx,λa=>(by cases a),λ_=>rfl,λ_=>rfl,λa=>(by cases a),λa=>(by cases a),λa=>(by cases a),λ_=>rfl⟩
def asf{c d:aB}{e:c->d}{l:R c}{a b i j:d}(f:l.map e=[a,b,i,j]):∃w g y h,l=[w,g,y,h]∧e w=a:=by
 match l,f with
 |[w,g,y,h],f=>simp_all
def asg{d f:aB}{g:d->f}{l:R d}{a b k m e n:f}(h:l.map g=[a,b,k,m,e,n]):∃c v w i y j,l=[c,v,w,i,y,j]∧g c=a:=by
 match l,h with
 |[c,v,w,i,y,j],h=>simp_all
def ash{d e:aB}{f:d->e}{l:R d}{a b h:e}(g:l.map f=[a,b,h]):∃c v w,l=[c,v,w]∧f c=a:=by
 match l,g with
 |[c,v,w],g=>simp_all
def asi{f g:aB}{c:f->g}{l:R f}{a b h i q r A B C:g}(j:l.map c=[a,b,h,i,q,r,A,B,C]):∃d v w e k m n o p,l=[d,v,w,e,k,m,n,o,p]∧c d=a∧c v=b∧c w=h∧c e=i:=by
 match l,j with
 |[d,v,w,e,k,m,n,o,p],j=>grind
def asj(k6 jQ a b:cC)(c d e f g:ja)(aq:R mM)(h:R hl)(i:cC)(j:R jG)(k l m n o:eP)(p:cC)(q:Int)(r:R aW)(A:Int)(B C D:dc)
    (eB:R iz) (E:cC) (F G H:eR) (I:Int) (J:aI) (K L:dX) (M:R fz) (N O:Int):aU:=
 ⟨[⟨1,k6,16⟩,⟨2,jQ,16⟩,⟨3,a,8⟩,⟨4,b,4⟩,c,d,e,f,g],aq,h,[⟨1,i,[],j,W #[]⟩,k,l,m,n,o],[⟨1,p,[rQ],[1,2,4],q,r,A,W #[]⟩,B,C,D],eB,
   [⟨1,E,[⟨1,X,X,[X]⟩,F,G,H],[1,2,3,4,5,6],I,J⟩,K,L],M,N,O⟩
def YS{s:aU}(an:ch s)(ao:vb s)(b:(al s.bK 0).iZ=W #[]):∃k6 jQ f g h i j k l aq m n o p q r A B C D E F G H I eB J K L M N O P Q R aa ab,
 s=asj k6 jQ f g h i j k l aq m n o p q r A B C D E F G H I eB J K L M N O P Q R aa ab:=by
 obtain⟨aw,aq,m,ax,cI,eB,ay,R,aa,ab⟩:=s
 obtain⟨ad,az,aA,ae,⟨aB,aC,aD,af⟩,ag,aE⟩:=an
 obtain⟨aF,c,d,K,L,M,e⟩:=ao
 simp only at ad ae af ag c d e b
 obtain⟨⟨aG,k6,sX⟩,⟨aH,jQ,yM⟩,⟨aI,f,aJ⟩,⟨aK,g,aL⟩,h,i,j,k,l,rfl,ah,ai,aj,ak⟩:=asi ad
 obtain⟨⟨aM,n,aN,o,ap⟩,p,q,r,A,B,rfl,a⟩:=asg ae
 obtain⟨⟨aO,C,aP,aQ,D,E,F,ar⟩,G,H,I,rfl,am⟩:=asf af
 obtain⟨⟨au,J,rg,av,N,O⟩,P,Q,rfl,ac⟩:=ash ag
 simp only[Dl,zp]at ah ai aj ak
 simp only[qv,zp]at a
 simp only[nx,zp]at am
 obtain⟨rfl,rfl⟩:=ah
 obtain⟨rfl,rfl⟩:=ai
 obtain⟨rfl,rfl⟩:=aj
 obtain⟨rfl,rfl⟩:=ak
 obtain⟨rfl,a⟩:=a
 obtain⟨rfl,rfl,rfl⟩:=am
 have a:=List.map_eq_nil_iff.1 a
 subst a
 have c:ap=_:=c
 have d:av=_:=d
 have e:rg=_:=e
 have b:ar=_:=b
 have ac:au=_:=ac
 subst c d e b ac
 exact⟨k6,jQ,f,g,h,i,j,k,l,aq,m,n,o,p,q,r,A,B,C,D,E,F,G,H,I,eB,J,K,L,M,N,O,P,Q,R,aa,ab,rfl⟩
def ak7{P:Nat->Prop}(b:P 0∧P 1∧P 2∧P 3∧P 4∧P 5∧P 6∧P 7∧P 8∧P 9){a:Nat}(c:a<10):P a:=by
 have:a=0∨a=1∨a=2∨a=3∨a=4∨a=5∨a=6∨a=7∨a=8∨a=9:=by omega
 grind
def ahn{s:aU}(b:ch s)(c:vb s)(d:(al s.bK 0).iZ=W #[]){a:Nat}(e:a<10):tg s 1 ⟨1,lW a⟩=U 0:=by
 obtain⟨k6,jQ,f,g,h,i,j,k,l,aq,m,n,o,p,q,r,A,B,C,D,E,F,G,H,I,eB,J,K,L,M,N,O,Q,R,aa,ab,ac,rfl⟩:=YS b c d;refine ak7 (P:=λa=>tg _ 1 ⟨1,lW a⟩=U 0) ⟨?_,?_,?_,?_,?_,?_,?_,?_,?_,?_⟩ e <;> kernel_rfl
def aho{s:aU}(a:ch s)(b:vb s)(c:(al s.bK 0).iZ=W #[]):tg s 1 ⟨3,{lW 0 with dR:=0}⟩=U 0:=by
 obtain⟨k6,jQ,d,e,f,g,h,i,j,aq,k,l,m,n,o,p,q,r,A,B,C,D,E,F,G,eB,H,I,J,K,L,M,N,O,P,Q,R,rfl⟩:=YS a b c;rfl
def Wc{b:aB}{a:aw b}{c:b}(d:a.isSome=X):a=U (a.getD c):=by cases a with |none=>cases d|some _=>rfl
def DP:dB:=(uz ([]:R (cE 8)) 0).getD b1
def QL:uz ([]:R (cE 8)) 0=U DP:=Wc (by kernel_rfl)
def abN:aU×dB:=(oB DP).getD b1
def LC:oB DP=U abN:=Wc (by kernel_rfl)
def w1:aU:=abN.1
section
variable{s:aU}{aC:aL Cell}{P:kV}{ls bP:Nat->R aJ}{next:Int}{bQ:R gq}{ek:R cR}{y:cR}{jD:Nat}
variable{A B:cQ->Int}{N:Int->Int}
def A8(s:aU):Prop:=∀k,k<4->(al s.bK k).gA<=12
def HA(s:aU)(P:kV)(bP:Nat->R aJ)(next:Int)(bQ:R gq)(y:cR)(a b:Int)(gI:cR)(dt:aL Cell):Prop:=
 a=b∧((b=0∧∃ph c next',fS s dt P c next' (bQ++[ph])∧A0 s P.x bP next ph c next'∧fH s c next' gI∧next'<=next+1)∨(b≠0∧fS s dt P bP next bQ∧gI=y))
def fH.Sp(d:fH s bP next y){next':Int}(aQ:next<=next'){gI:cR}{k:Nat}(j:k<4){l:R aJ}(h:fS s aC P (eD bP k l) next' bQ)(aF:jX s gI (eD bP k l) next')(m:S l<=12)
 (n:∀b∈l,kY b.aS∧(rx b.dL).isSome=X∧b.ct<next') (i:∀g a,rx g=U a->gW (dq (eD bP k l)) g<=(al s.eo a).jw):fH s (eD bP k l) next' gI:=by
 refine⟨aF,⟨λa c=>h.kJ.ok.fW c,λa c=>?_⟩,λa c=>?_,i,by have:=d.A7;omega⟩
 ·by_cases e:a=k
  ·simp_all[il]
  rw[kc e];exact d.ok.len a c
 by_cases e:a=k
 ·simp_all[il]
 rw[kc e];exact λb f=>⟨(d.arg a c b f).1,(d.arg a c b f).2.1,by have:=(d.arg a c b f).2.2;omega⟩
def apt(p:ch s)(I:A8 s)(aF:hC s)(l:fS s aC P bP next bQ)(d:fH s bP next y)(q:S bQ<=1000)(aQ:next<100000){k:Nat}(f:k<4){e:bg}(m:fu s k e)(r:kY e)(a:Int):
 cB (b3 (BA aC (U P.x) e a) λA=>b3 (c0 (xA y e a)) λB=>cv (A,B)) (λh=>HA s P bP next bQ y h.1.1 h.2.1 h.2.2 h.1.2):=by
 have J:=d.A7
 have R:=d.ok.len k f
 refine .bind (Xe p aF l (d.MU aF q) f m r a (λi g=>(d.arg k f i g).2.2) (by omega) ⟨J,by omega⟩) λA b=>.kZ (VA p d.r d.ok f m a ⟨by omega,by omega⟩) λB c=>.ret ?_
 by_cases C:(dM (bP k) e).isSome=X
 ·rw[bT C]at b c
  subst b c
  exact⟨rfl,.inr ⟨by simp,l,rfl⟩⟩
 rw[bU C]at b c
 by_cases D:(al s.bK k).gA<=(S (bP k):Int)
 ·rw[bT D]at b c
  subst b c
  exact⟨rfl,.inr ⟨by simp,l,rfl⟩⟩
 rw[bU D]at b c
 have aa:=I k f
 by_cases E:room s (gW (dq bP)) a=X
 ·rw[bT E]at b c
  obtain⟨n,j⟩:=b
  obtain⟨F,K⟩:=c
  have aC:=nX (ls:=bP) f ({aS:=e,ct:=next,dL:=a}:aJ)
  have G:=j.to (zX.trans (zV aC)) (zY.trans (zW aC)) (py.trans (oI aC))
  have L:dM (bP k) e=cn:=by
   simp_all
  have M:∃o,rx a=U o∧gW (dq bP) a<(al s.eo o).jw:=by
   grind[room]
  obtain⟨o,q,ab⟩:=M
  refine⟨n.trans F.symm,.inl ⟨F,_,_,_,G,.ins (i:=⟨e,next,a⟩) f ⟨m⟩ r L,d.Sp (by omega) f G K (by grind) (λi g=>?_) (λH N O=>?_),oD _⟩⟩
  ·rcases eN.1 g with g|g
   ·have:=d.arg k f i g
    grind
   grind
  rw[<-oI aC,<-py]
  unfold bump
  by_cases Q:H=a
  ·grind
  rw[bU Q];exact d.quo H N O
 rw[bU E]at b c
 obtain⟨n,j⟩:=b
 subst c
 rw[Pp]at j
 exact⟨n,.inr ⟨by simp,j,rfl⟩⟩
def apu(A:ch s)(aF:hC s)(I:fS s aC P bP next bQ)(c:fH s bP next y)(g:S bQ<=1000){k:Nat}(b:k<4){e:bg}(n:fu s k e)(B:kY e):
 cB (b3 (BC aC (U P.x) e) λo=>b3 (c0 (xm y e)) λC=>cv (o,C)) (λh=>HA s P bP next bQ y h.1.1 h.2.2.1 h.2.2.2 h.1.2):=by
 have R:=c.ok.len k b
 refine .bind (ajo A aF I (c.MU aF g) b n B (λa J=>(c.arg k b a J).1) (by omega)) λo d=>.kZ (Xh A c.r c.ok b n) λC f=>.ret ?_
 cases i:dM (bP k) e with
 | none=>
   rw[i]at d f
   rw[Le i,Pp]at d
   exact⟨d.1.trans f.1.symm,.inr ⟨by simp_all,d.2,f.2⟩⟩
 | some a=>
   rw[i]at d f
   obtain⟨K,L⟩:=d
   obtain⟨D,M⟩:=f
   obtain⟨j,p⟩:=mP i
   have E:=c.ok.fW k b
   have q:(dq (eD bP k (dx (bP k) e))++[a]).Perm (dq bP):=by
    have F:=nX (ls:=eD bP k (dx (bP k) e)) b a;rw[il,re]at F;refine F.trans (xK λr g=>?_);by_cases N:r=k
    ·subst N;rw[il];exact uB E j p
    grind[kc]
   have l:=nX (ls:=eD bP k (dx (bP k) e)) b ({aS:=e,ct:=a.ct,dL:=a.dL}:aJ)
   rw[il,re]at l
   have G:gW (dq bP)=gW (dq (eD bP k (dx (bP k) e++[({aS:=e,ct:=a.ct,dL:=a.dL}:aJ)]))):=by
    rw[<-oI q,<-oI l,<-py,<-py]
   have H:fS s o.2 P (eD bP k (dx (bP k) e++[{aS:=e,ct:=a.ct,dL:=a.dL}])) next (bQ++[⟨.wL (U P.x) a.aS⟩]):=L.to (by rw[Gr q];exact zX.trans (zV l)) (by rw[Gs q];exact zY.trans (zW l)) G
   have aa:=c.arg k b a j
   refine⟨K.trans D.symm,.inl ⟨D,_,_,_,H,.mod b j n B p,c.Sp (oD _) b H M ?_ (λO m=>?_) (λQ r g=>by rw[<-G];exact c.quo Q r g),by omega⟩⟩
   ·have:=(uB E j p).length_eq
    simp_all
   rcases eN.1 m with m|m
   ·exact c.arg k b O (mg.1 m).1
   simp_all
def apv(n:ch s)(aF:hC s)(F:fS s aC P bP next bQ)(b:fH s bP next y)(g:S bQ<=1000){k:Nat}(a:k<4){e:bg}(o:fu s k e):
 cB (b3 (BB aC (U P.x) e) λp=>b3 (c0 (xn y e)) λq=>cv (p,q)) (λh=>HA s P bP next bQ y h.1.1 h.2.2.1 h.2.2.2 h.1.2):=by
 have G:=b.ok.len k a
 refine .bind (Xf n aF F (b.MU aF g) a o λc l=>⟨(b.arg k a c l).1,(b.arg k a c l).2.1,Xi (PH.2 ⟨k,a,l⟩)⟩) λp d=>.kZ (Xg n b.r b.ok a o) λq f=>.ret ?_
 cases i:dM (bP k) e with
 | none=>
   rw[i]at d f
   rw[Le i,Pp]at d
   exact⟨d.1.trans f.1.symm,.inr ⟨by simp_all,d.2,f.2⟩⟩
 | some c=>
   rw[i]at d f
   obtain⟨H,r⟩:=d
   obtain⟨A,B⟩:=f
   obtain⟨C,O⟩:=mP i
   have I:=b.ok.fW k a
   have J:fE e c.aS=X:=by simp_all[sq]
   rw[X9 J]at r B
   have j:(dq (eD bP k (dx (bP k) c.aS))++[c]).Perm (dq bP):=by
    have D:=nX (ls:=eD bP k (dx (bP k) c.aS)) a c;rw[il,re]at D;refine D.trans (xK λm g=>?_);by_cases K:m=k
    ·subst K;rw[il];exact uB I C (nu _)
    grind[kc]
   have E:=r.to (Gr j) (Gs j) (Ps j)
   refine⟨H.trans A.symm,.inl ⟨A,_,_,_,E,.del a C,b.Sp (oD _) a E B (mK (GH _ _) G) (λL M=>b.arg k a L (mg.1 M).1) (λN m g=>?_),by omega⟩⟩
   have:=b.quo N m g
   rw[<-oI j,<-py]at this
   grind[bump]
end
def cB.jl{f d:aB}{h:ag f}{j:aw d}{v:d}{P:f×d->Prop}(k:j=U v)(l:cB (b3 h λa=>b3 (c0 j) λb=>cv (a,b)) P):cB h (λa=>P (a,v)):=λg m=>by
 subst k;have n:=l (λc=>c.2=v->g c.1) (λc aF e=>m c.1 (by grind));have e:(λa=>(b3 (c0 (U v)) λb=>cv (a,b)) (λc:f×d=>c.2=v->g c.1))=g:=by
  funext a;refine propext ⟨λ⟨b,p,i⟩=>?_,λi=>⟨v,rfl,λ_=>i⟩⟩;cases p;exact i o
 have q:h (λa=>(b3 (c0 (U v)) λb=>cv (a,b)) (λc:f×d=>c.2=v->g c.1)):=n;simp_all
section
variable{s:aU}{aC:aL Cell}{P:kV}{ls bP:Nat->R aJ}{next:Int}{bQ:R gq}{ek:R cR}{y:cR}{jD:Nat}
def Pt(c:fS s aC P bP next bQ):Bo aC (U P.x)=U (U P.t):=by
 obtain⟨a,b,d⟩:=c.st;simp_all[Bo]
def QM(a:fS s aC P bP next bQ):ze aC (U P.x)=U next:=by
 refine aM.get ?_;unfold ze;exact .eq (Pt a) (.eq (akZ a.kJ.ok) (.ret o))
def aag(d:ch s)(a:fS s aC P bP next bQ)(b:fH s bP next y):cB (tc aC (U P.x)) (λc=>c=(y.b8,aC)):=by
 unfold tc;refine .eq (Pt a) (.bind (al7 d a.kJ.ok b.r b.ok) λc aF=>.ret ?_);omega
def apw(b:ch s)(aF:hC s):fH s (λ_=>[]) 1 ⟨s,[],1⟩:=by
 refine⟨⟨rfl,rfl,.nil,.refl _⟩,⟨λk a=>⟨⟨λc d=>by grind,.nil,by simp⟩,.nil⟩,λk a=>by simp⟩,λk a c d=>by grind,λg e f=>?_,by simp⟩;have:=aF.quo _ (qj (show e<S s.eo by rw[b.o8];exact Dp f));exact this
end
def jR:cQ->cQ->Int:=jo (λa y=>eB a.bZ y.bZ) (jo (λa y=>eB a.gB y.gB) (λa y=>eB (gy a.b2) (gy y.b2)))
def yo:lH jR:=(sC.on λa:cQ=>a.bZ).jo ((sC.on λa:cQ=>a.gB).jo (sC.on λa:cQ=>gy a.b2))
def Qh{c y:cQ}(e:jR c y=0):c=y:=by
 obtain⟨f,d⟩:=vU e;obtain⟨d,g⟩:=vU d;have h:=kg.1 f;have i:=kg.1 d;have j:=Ar (kg.1 g);obtain⟨a,b,k⟩:=c;simp_all
def apx{a y b:cQ}(c:jR a y<0)(d:jR y b<0):jR a b<0:=by
 have f:=yo.lV a y b (by omega) (by omega);by_cases e:jR a b=0
 ·have:=Qh e;subst this;have:=yo.neg a y;omega
 omega
def apy{l:R Int}(i:S l<=1000):J9 l=U (jl l):=by
 refine aM.get ?_;unfold J9;refine .bind (P:=λe=>(∃q,e=.inl q∧jl l=0)∨∃q:Int,e=.inr q∧q=jl l)
  (bY (S l) (λb c=>c=(b:Int)∧jl l=jl (l.drop b)) (by omega) ⟨rfl,rfl⟩ (λb c d a=>?_) (λc a=>?_)) λe h=>?_
 ·obtain⟨rfl,a⟩:=a;rw[qa d]at a;have a:jl l=if l[b]=0 then jl (l.drop (b+1))else l[b]:=a;refine .cond (λ_=>.idx o d ?_) λf=>by simp_all
  rw[dI _ d];refine .cond (λf=>.ret (.inr ⟨_,rfl,?_⟩)) λf=>.ret ⟨cZ (by omega),?_⟩
  ·simp_all
  simp_all
 ·obtain⟨rfl,a⟩:=a;refine .cond (λf=>by grind) λ_=>.ret (.inl ⟨_,rfl,?_⟩);rw[a,sa];rfl
 rcases h with⟨q,rfl,g⟩|⟨q,rfl,g⟩
 ·simp only[cd];exact .ret g.symm
 simp only[cl];exact .ret g
def amc(a b:jh):EL a b=U (jR a.dN b.dN):=by
 unfold EL;rw[wv,wv,Qe];simp only[b5];rw[apy (by simp)];simp only[b5,jl,jR,jo];congr 1;omega
structure Ie(T:List cQ)(N M:List Int)(A B:cQ->Int):Prop where
 AZ:T.Pairwise (λa b=>jR a b<0)
 mem:∀x,x∈T↔¬(A x=0∧B x=0)
 n:N=T.map A
 m:M=T.map B
def Qi{c d:aB}[DecidableEq c]:∀{l:R (c×d)} {a:c} {v:d},ou l->(a,v)∈l->dU l a=U v
 | (k,w)::f,a,v,g,b=>by
   obtain⟨h,i⟩:=lh.1 g;show(if a=k then U w else dU f a)=U v;rcases fj.1 b with e|b
   ·simp_all
   have:k≠a:=h (a,v) b;rw[bU (Cm this)];exact Qi i b
def amd{s:aU}{aC:aL Cell}{p n:Nat}{A B:cQ->Int}(G:lE s aC p n A B)(aa:∀H,pJ aC n=U H->S H<=1000):
 cB (FB aC (U p)) (λk=>k.2=aC∧S k.1<=1000∧Ie (k.1.map (·.dN)) (k.1.map (·.j2)) (k.1.map (·.ka)) A B):=by
 obtain⟨f,I,J,K⟩:=G.map
 have ag:=aa f I
 let r:Nat->jh:=λq=>⟨(al f q).1,(al f q).2.rh,(al f q).2.q0⟩
 have L:∀g,Met (S f) g->(∀l,l<S f->l∈g)->(g.map r).Perm (f.map λd=>(⟨d.1,d.2.rh,d.2.q0⟩:jh)):=λg i ab=>by
  refine((i.perm ab).map _).trans ?_;rw[show(ca (S f)).map r=((ca (S f)).map (λq=>al f q)).map (λd=>(⟨d.1,d.2.rh,d.2.q0⟩:jh)) by rw[uu];rfl,V5]
 unfold FB
 refine .cond (λh=>by cases h) λ_=>.eq rfl (.eq G.cell (.eq (a:=n) o (.eq I ?_)))
 refine .bind (P:=λe=>e.2.Perm (f.map λd=>(⟨d.1,d.2.rh,d.2.q0⟩:jh))) (ce (S f) (λl C=> ∃g,C=(g,g.map r)∧S g=l∧Met (S f) g) (by omega) ⟨[],rfl,rfl,.nil,by simp⟩ (λl C ah D=>?_) (λC D=>?_)) λe M=>?_
 ·obtain⟨g,rfl,N,i⟩:=D
  refine .next λE j=>?_
  cases E with
  |none=>exact .cond (λh=>by cases h) λ_=>.ret (L g i j)
  | some q=>
    refine .cond (λ_=>.eq o (.eq o (.eq (eS _ _ (by grind) (by omega)) (.ret ⟨g++[q],?_,by grind,i.more j⟩)))) λh=>by cases h
    grind
 ·obtain⟨g,rfl,N,i⟩:=D
  refine .next λE j=>?_
  cases E with
  |none=>exact .cond (λh=>by cases h) λ_=>.ret (L g i j)
  |some q=>exact absurd (i.full N j.1) j.2
 have ac:=M.length_eq
 rw[lY]at ac
 refine .bind (cB.wx (c:=λa b=>jR a.dN b.dN) ⟨λd y=>yo.neg _ _,λd y ai=>yo.lV _ _ _⟩ (by omega) λa _ b _=>amc a b) λy O=>.ret ?_
 have Q:y.Perm (f.map λd=>(⟨d.1,d.2.rh,d.2.q0⟩:jh)):=O.1.trans M
 have R:(y.map (·.dN)).Perm (f.map (·.1)):=by
  have:=Q.map (·.dN);rwa[uu]at this
 have aj:∀c∈y,∃d∈f,c=⟨d.1,d.2.rh,d.2.q0⟩:=λc h=>by
  grind
 have i:∀d∈f,¬(A d.1=0∧B d.1=0)∧d.2=⟨A d.1,B d.1⟩:=λd F=>by
  have m:=K d.1;rw[Qi J F]at m;simp_all
 have ad:(y.map (·.dN)).Nodup:=R.nodup_iff.2 (Bv.2 J)
 refine⟨rfl,(by have:=Q.length_eq;simp_all),⟨?_,λd=>?_,?_,?_⟩⟩
 ·have ae:(y.map (·.dN)).Pairwise (λa b=>jR a b<=0):=Bv.2 O.2
  refine(ae.and ad).imp λ{a b} af=>?_
  have:jR a b≠0:=λe=>af.2 (Qh e)
  omega
 ·rw[R.mem_iff,lk]
  constructor
  ·grind
  intro F
  have m:=K d
  rw[bU F]at m
  exact⟨_,PG m,rfl⟩
 ·rw[uu]
  refine It λc h=>?_
  grind
 rw[uu]
 refine It λc h=>?_
 grind
def ut(t:fN):cQ:=⟨t.bZ,t.gB,t.b2⟩
def ame{a b:fN}(c:ut a=ut b):a=b:=by
 obtain⟨d,y,e⟩:=a;obtain⟨f,gI,g⟩:=b;cases c;rfl
def ais(a b:fN):F1 a b=U (V (jR (ut a) (ut b)<0)):=by
 refine aM.get ?_;unfold F1;have e:jR (ut a) (ut b)=if eB a.bZ b.bZ=0 then(if eB a.gB b.gB=0 then eB (gy a.b2) (gy b.b2)else eB a.gB b.gB)else eB a.bZ b.bZ:=rfl;rw[e];refine .cond (λc=>.ret ?_) λc=>.cond (λaq=>.ret ?_) λaq=>(GQ _ _).bind λf aF=>.ret ?_
 ·have c:a.bZ≠b.bZ:=by simp_all
  rw[bU λd=>c (kg.1 d),BD,Hk]
 ·have c:a.bZ=b.bZ:=by simp_all
  have aq:a.gB≠b.gB:=by simp_all
  rw[bT (kg.2 c),bU λd=>aq (kg.1 d),BD,Hk]
 have c:a.bZ=b.bZ:=by simp_all
 have aq:a.gB=b.gB:=by simp_all
 rw[bT (kg.2 c),bT (kg.2 aq),BD];exact aF.1
def uh(a:R gr):R cQ:=a.map λb=>ut b.dN
def nT(a:R gr)(A B:cQ->Int):Prop:=Ie (uh a) (a.map (·.j2)) (a.map (·.ka)) A B
def ajw{c:aB}{d:c->c->Prop}{a b:R c}{e:c}(g:(a++b).Pairwise d)(h:∀f∈a,d f e)(i:∀f∈b,d e f):(a++e::b).Pairwise d:=by
 simp_all[xd]
def ait{b:aB}[Inhabited b]{l:R b}{a:Nat}(c:a<S l)(v:b):eZ l a v=l.take a++v::l.drop (a+1):=by unfold eZ;exact List.set_eq_take_append_cons_drop .. |>.trans (bT c)
theorem ahp{b:aB}[Inhabited b]{l:R b}{a:Nat}(c:a<S l):l=l.take a++al l a::l.drop (a+1):=by
 grind[List.take_append_drop,List.drop_eq_getElem_cons,dI]
def nT.el{b:R gr}{A B:cQ->Int}(c:nT b A B){a:gr}(d:a∈b):a.j2=A (ut a.dN)∧a.ka=B (ut a.dN):=by
 have e:=c.n;have f:=c.m;simp_all[uh,uu]
def nT.ins{a i b:R gr}{A B:cQ->Int}(h:nT (a++i++b) A B){t:fN}{g p:Int}(r:g=1∧p=0∨g=0∧p=1)(m:∀f,0<=A f∧A f<=100000)(n:∀f,0<=B f∧B f<=100000)
 (C:∀c∈i,c.dN=t) (D:∀c∈a,jR (ut c.dN) (ut t)<0) (E:∀c∈b,jR (ut t) (ut c.dN)<0):nT (a++⟨t,A (ut t)+g,B (ut t)+p⟩::b) (lT A (ut t) g) (lT B (ut t) p):=by
 have F:∀j,jR j j=0:=yo.self
 have k6:∀c∈a,ut c.dN≠ut t:=λc d e=>by grind
 have jQ:∀c∈b,ut c.dN≠ut t:=λc d e=>by grind
 have k:∀c∈a++⟨t,A (ut t)+g,B (ut t)+p⟩::b,c.j2=lT A (ut t) g (ut c.dN)∧c.ka=lT B (ut t) p (ut c.dN):=λc d=>by
  unfold lT;rcases eN.1 d with d|d
  ·rw[bU (k6 c d),bU (k6 c d)];exact h.el (En _ (En _ d))
  rcases fj.1 d with rfl|d
  ·simp_all
  rw[bU (jQ c d),bU (jQ c d)];exact h.el (Bh _ d)
 refine⟨?_,λf=>?_,?_,?_⟩
 ·unfold uh
  rw[pt,pv]
  refine ajw ?_ (λc d=>?_) λc d=>?_
  ·have G:=h.AZ
   grind[uh]
  ·grind
  grind
 ·have H:=m f
  have I:=n f
  have l:=h.mem f
  unfold uh at l⊢
  simp only[pt,pv,eN,fj]at l⊢
  by_cases e:f=ut t
  ·have o:lT A (ut t) g f=A f+g:=bT e
   have q:lT B (ut t) p f=B f+p:=bT e
   grind
  have o:lT A (ut t) g f=A f:=bU e
  have q:lT B (ut t) p f=B f:=bU e
  grind
 ·unfold uh;rw[uu];exact It λc d=>(k c d).1
 unfold uh;rw[uu];exact It λc d=>(k c d).2
def ajx{a:aB}(l:R a){k:Nat}(b:k<=S l):kF l 0 (k:Int)=U (l.take k):=by
 simp_all[kF,bT]
def ajy{a:aB}(l:R a){k:Nat}(b:k<=S l):kF l (k:Int) (S l:Int)=U (l.drop k):=by
 simp_all[kF,bT,cr,iG,rS,qT]
def put_eq{b:R gr}{A B:cQ->Int}(D:nT b A B)(t:fN){f p:Int}(O:f=1∧p=0∨f=0∧p=1)(ax:S b<=1000)(E:∀m,0<=A m∧A m<=100000)(F:∀m,0<=B m∧B m<=100000):
 aM (Cj b t f p) (λn=>S n<=S b+1∧nT n (lT A (ut t) f) (lT B (ut t) p)):=by
 have ae:∀c g,c<g->g<S b->jR (ut (al b c).dN) (ut (al b g).dN)<0:=λc g af G=>by
  have:=SR.1 (Bv.1 D.AZ) c g (by omega) G af;grind[dI]
 have H:∀c,c<=S b->(∀q,q<c->jR (ut (al b q).dN) (ut t)<0)->∀h∈b.take c,jR (ut h.dN) (ut t)<0:=λc l r h d=>by
  obtain⟨q,I,e⟩:=yY d;rw[oz]at I;rw[EC]at e;have:=r q (by omega);rw[dI _ (by omega:q<S b),e]at this;exact this
 have Q:∀c k,c<S b->k<=S b->(∀q,k<=q->q<S b->jR (ut t) (ut (al b q).dN)<0)->∀h∈b.drop k,jR (ut t) (ut h.dN)<0:=λc k _ ay r h d=>by
  obtain⟨q,I,e⟩:=yY d;rw[qT]at I;rw[List.getElem_drop]at e;have:=r (k+q) (by omega) (by omega);grind[dI]
 unfold Cj
 refine .bind (P:=λe=> ∃c:Nat,e=(c:Int)∧c<=S b∧(∀q,q<c->jR (ut (al b q).dN) (ut t)<0)∧(c<S b->¬jR (ut (al b c).dN) (ut t)<0))
  (bY (S b) (λg J=>J=(g:Int)∧∀q,q<g->jR (ut (al b q).dN) (ut t)<0) (by omega) ⟨rfl,λq r=>by omega⟩ (λg J G j=>?_) (λJ j=>?_)) λe ag=>?_
 ·obtain⟨rfl,j⟩:=j
  have d:V ((g:Int)<(S b:Int))=X:=by simp_all
  rw[d]
  refine .eq (a:=g) (by unfold bs;rw[bT o];exact lo G) (.eq (a:=V (jR (ut (al b g).dN) (ut t)<0)) (by unfold bs;rw[bT o];exact ais _ _) ?_)
  refine .cond (λaa=>.ret ⟨cZ (by omega),λq r=>?_⟩) λaa=>.ret ⟨g,rfl,by omega,j,λ_=>by simp_all⟩
  grind
 ·obtain⟨rfl,j⟩:=j
  have d:V ((S b:Int)<(S b:Int))=Z:=by simp
  rw[d]
  refine .eq (a:=b1) (by rfl) (.eq (a:=b1) (by rfl) (.cond (λaa=>by grind) λ_=>.ret ⟨S b,rfl,jT _,j,λab=>by omega⟩))
 obtain⟨c,ah,l,K,ai⟩:=ag
 rw[ah]
 have aj:(∀h∈b.drop c,jR (ut t) (ut h.dN)<0)->aM ((kF b 0 (c:Int)).bind λak=>(dA 48 ([]:R gr) ak).bind λam=>(dA 48 am [{dN:=t,j2:=f,ka:=p:gr}]).bind λan=>(kF b (c:Int) (S b)).bind λao=>(dA 48 an ao).bind λap=>U ap) (λn=>S n<=S b+1∧nT n (lT A (ut t) f) (lT B (ut t) p)):=λaq=>by
  have ar: ¬ut t∈uh b:=λau=>by
   obtain⟨h,d,e⟩:=lk.1 au;rw[<-rT c b]at d;rcases eN.1 d with d|d
   ·have:=H c l K h d;rw[e,yo.self]at this;omega
   have:=aq h d;rw[e,yo.self]at this;omega
  have ac:A (ut t)=0∧B (ut t)=0:=Decidable.not_not.1 λab=>ar ((D.mem _).2 ab);have L:nT (b.take c++[]++b.drop c) A B:=by simp_all
  have:=L.ins O E F (λh d=>by cases d) (H c l K) aq;rw[ac.1,ac.2,c3,c3]at this;refine .eq (ajx b l) (.eq (eS _ _ (by grind) (by omega)) (.eq (eS _ _ (by grind) (by omega)) (.eq (ajy b l) (.eq (eS _ _ (by grind) (by omega)) (.ret ⟨?_,?_⟩)))))
  ·grind
  simp_all
 by_cases i:c<S b
 ·have d:V ((c:Int)<(S b:Int))=X:=by simp_all
  rw[d]
  refine .eq (a:=c) (by unfold bs;rw[bT o];exact lo i) (.eq o ?_)
  simp only[tb]
  have az:=ai i
  refine .cond (λC=>?_) λC=>?_
  ·have C:(al b c).dN=t:=by simp_all
   have aA:=E (ut t)
   have aB:=F (ut t)
   have aQ:=D.el (qj i)
   rw[C]at aQ
   have sX:aV ((al b c).j2+f)=A (ut t)+f:=by rw[aQ.1];exact eU (by omega) (by omega)
   have yM:aV ((al b c).ka+p)=B (ut t)+p:=by rw[aQ.2];exact eU (by omega) (by omega)
   refine .idx o i (.idx o i (.idx o i (.eq o (.idx o (by simp_all[eZ]) (.eq o (.ret ?_))))))
   have av:eZ (eZ b c {al b c with j2:=aV ((al b c).j2+f)}) c {al (eZ b c {al b c with j2:=aV ((al b c).j2+f)}) c with ka:=aV ((al b c).ka+p)} =b.take c++⟨t,A (ut t)+f,B (ut t)+p⟩::b.drop (c+1):=by
    rw[Gz i,bT o,sX,yM];have:eZ (eZ b c {al b c with j2:=A (ut t)+f}) c { {al b c with j2:=A (ut t)+f}with ka:=B (ut t)+p} =eZ b c ⟨(al b c).dN,A (ut t)+f,B (ut t)+p⟩:=by simp_all[eZ,List.set_set]
    simp_all[ait]
   rw[av]
   have L:nT (b.take c++[al b c]++b.drop (c+1)) A B:=by grind[List.append_assoc,List.singleton_append,ahp]
   refine⟨by grind,L.ins O E F (λh d=>by simp_all) (H c l K) (Q c (c+1) i (by omega) λq M N=>?_)⟩
   grind
  have C:(al b c).dN≠t:=by simp_all
  have aw:jR (ut t) (ut (al b c).dN)<0:=by
   have M:=yo.neg (ut t) (ut (al b c).dN);have N:jR (ut (al b c).dN) (ut t)≠0:=λe=>C (ame (Qh e));omega
  refine aj (Q c c i (by omega) λq M N=>?_)
  rcases Nat.lt_or_eq_of_le M with ad|ad
  ·exact apx aw (ae c q ad N)
  simp_all
 grind[bs]
def rt(t:cQ):fN:=⟨t.bZ,t.gB,t.b2⟩
def aah(t:cQ):ut (rt t)=t:=rfl
def ahq{s:aU}(aF:hC s){e:bg}(q:tV s e):JX s e=U ((gd s e).map rt):=by
 refine aM.get ?_;unfold JX;have C:=aF.o8;refine .bind (P:=λr=>r=(gd s e).map rt) (bY (S s.dh) (λb j=>j=((b:Int),((s.dh.take b).flatMap (kq e)).map rt)) (by omega) o (λb j l m=>?_) λj m=>?_) λr B=>.ret B
 ·subst m;refine .cond (λ_=>.idx o l ?_) λn=>by simp_all
  have A:=aF.refs _ (qj l);have D:S (((s.dh.take b).flatMap (kq e)).map rt)<=4:=by rw[lY];exact mK (KK (Qf e) _) (by grind)
  refine .bind (P:=λc=>c=((s.dh.take (b+1)).flatMap (kq e)).map rt) ?_ λc f=>.ret (by grind[cZ]);rw[V6 _ l,pt];refine .cond (λn=>.ret ?_) λn=>.bind (P:=λc=>c=((s.dh.take b).flatMap (kq e)).map rt++(kq e (al s.dh b)).map rt) (.cond (λd=>?_) λd=>.bind (P:=λc=>c=((s.dh.take b).flatMap (kq e)).map rt++(kq e (al s.dh b)).map rt) (.cond (λg=>?_) λg=>.ret ?_) λc f=>.ret f) λc f=>.ret f
  ·simp_all[kq,bU]
  ·have h:(al s.dh b).bZ=e.bZ:=by simp_all
   have d:(al s.dh b).dR=0:=by simp_all
   obtain⟨i,p⟩:=YN q A h d;rw[i];refine .eq (a:=(al s.dh b).gB.toNat) (lo p) (.eq o (.eq (eS _ _ (by grind) (by omega)) (.ret ?_)));unfold kq;rw[bT h,bT d];rfl
  ·have h:(al s.dh b).bZ=e.bZ:=by simp_all
   have d: ¬(al s.dh b).dR=0:=by simp_all
   have g:(al s.dh b).dR=e.dR:=by simp_all
   obtain⟨i,p⟩:=YO q A d g;rw[i];refine .eq (a:=0) (lo (k:=0) p) (.eq o (.eq (eS _ _ (by grind) (by omega)) (.ret ?_)));unfold kq;rw[bT h,bU d,bT g,i];rfl
  simp_all[kq,bT,bU]
 subst m;exact .cond (λn=>by grind) λ_=>.ret (by simp_all[gd])
def af0{s:aU}(A:ch s)(aF:hC s){e:bg}(B:tV s e):Ju s e=U ((gF s e).map rt):=by
 refine aM.get ?_;unfold Ju;have F:=aF.o8;have l:=B.abe A;refine .bind (P:=λf=>f=(gF s e).map rt) (bY (S s.dh) (λh b=>b=((h:Int),if e.bZ=1∧h≠0 then [rt (sQ e)]else [])) (by omega) (by simp) (λh b p d=>?_) λb d=>?_) λf i=>.ret i
 ·subst d;have q:=aF.refs _ (qj p);have G:S (if e.bZ=1∧h≠0 then [rt (sQ e)]else [])<=1:=by split <;> simp
  refine .cond (λ_=>.idx o p ?_) λc=>by simp_all
  rw[q.1,q.2.1];refine .cond (λc=>.ret ?_) λc=>.eq (a:=0) (lo (k:=0) (by omega)) (.eq o ?_)
  ·have c:e.bZ≠1:=by
    grind
   rw[cZ (by omega),bU (λn=>c n.1),bU (λn=>c n.1)]
  have c:e.bZ=1:=by
   simp_all
  by_cases r:h=0
  ·subst r;rw[bU (by simp)];refine .bind (P:=λf=>f=Z) (bY 0 (λg b=>b=(Z,(g:Int))) (by omega) o (λg b C _=>by omega) λb d=>?_) λf i=>?_
   ·subst d;exact .cond (λm=>by grind) λ_=>.ret o
   rw[i];refine .bind (P:=λj=>j=[rt (sQ e)]) (.cond (λ_=>.eq (eS _ _ (by simp) (by omega)) (.ret o)) λm=>by grind) λj l=>.ret ?_;rw[l,bT ⟨c,by omega⟩];rfl
  rw[bT ⟨c,r⟩];refine .bind (P:=λf=>f=X) (bY 1 (λg b=>b=(V (g≠0),(g:Int))) (by omega) o (λg b C d=>?_) λb d=>?_) λf i=>?_
  ·subst d;have:g=0:=by omega
   subst this;refine .cond (λ_=>.idx (k:=0) o (by simp) (.ret ?_)) λm=>by grind
   have D:al [rt (sQ e)] 0=rt (sQ e):=rfl;rw[D];have E:rt (sQ e)=⟨1,0,(al e.cp 0).b2⟩:=rfl;rw[E];simp[cZ];rfl
  ·subst d;exact .cond (λm=>by grind) λ_=>.ret o
  rw[i];refine .bind (P:=λj=>j=[rt (sQ e)]) (.cond (λm=>by grind) λ_=>.ret o) λj l=>.ret ?_;rw[l,cZ (by omega),bT ⟨c,by omega⟩]
 subst d;refine .cond (λc=>by grind) λ_=>.ret ?_;grind[gF]
def Qj(s:aU)(e:bg):S (gF s e)<=1:=by grind[gF]
def Xl{s:aU}(aF:hC s)(L:R aJ)(t:cQ):0<=iJ s L t∧iJ s L t<=4*S L:=by
 have b:=Ab (f:=λa:aJ=>gd s a.aS) (n:=4) (λa=>CR aF _) L;grind[iJ]
def ajz{s:aU}(L:R aJ)(t:cQ):0<=fU s L t∧fU s L t<=S L:=by
 have b:=Ab (f:=λa:aJ=>gF s a.aS) (n:=1) (λa=>Qj s _) L;grind[fU]
def Qk{A:cQ->Int}{l:R cQ}{a:Int}{n:Nat}(b:∀t,0<=A t∧A t<=a)(c:S l<=n)(t:cQ):0<=eV A l 1 t∧eV A l 1 t<=a+n:=by
 grind[eV]
def ajA{s:aU}(D:ch s)(aF:hC s){L:R aJ}(E:∀a∈L,tV s a.aS)(aa:S L<=100):
 aM (Km s (L.map (·.aS))) (λm=>S m<=1000∧nT m (iJ s L) (fU s L)):=by
 unfold Km
 have ab:nT [] (iJ s []) (fU s []):=⟨.nil,λg=>by simp[uh,iJ,fU],rfl,rfl⟩
 have F:(L.map (·.aS)).length=S L:=lY ..
 rw[F]
 refine .bind (P:=λe=>S e<=1000∧nT e (iJ s L) (fU s L)) (bY (S L) (λa b=>b.1=(a:Int)∧S b.2<=5*a∧nT b.2 (iJ s (L.take a)) (fU s (L.take a))) (by omega) ⟨rfl,by simp,by simp_all⟩ (λa b A d=>?_) λb d=>?_) λe G=>.ret G
 ·obtain⟨H,m⟩:=b
  obtain⟨rfl,I,J⟩:=d
  have K:al (L.map (·.aS)) a=(al L a).aS:=by simp_all[dI,xi]
  have B:=E _ (qj A)
  have ac:L.take (a+1)=L.take a++[al L a]:=by grind[b',b4,dI]
  have C:∀t,0<=iJ s (L.take a) t∧iJ s (L.take a) t<=400:=λt=>by have:=Xl aF (L.take a) t;grind
  have M:∀t,0<=fU s (L.take a) t∧fU s (L.take a) t<=100:=λt=>by have:=ajz (s:=s) (L.take a) t;grind
  have N:=CR aF (al L a).aS
  have ad:=Qj s (al L a).aS
  refine .cond (λ_=>.idx o A ?_) λi=>by simp_all
  rw[K]
  refine .eq (ahq aF B) ?_
  refine .bind (P:=λe=>S e<=5*a+4∧nT e (eV (iJ s (L.take a)) (gd s (al L a).aS) 1) (fU s (L.take a))) (bY (S (gd s (al L a).aS)) (λc b=>b.1=(c:Int)∧S b.2<=5*a+c∧nT b.2 (eV (iJ s (L.take a)) ((gd s (al L a).aS).take c) 1) (fU s (L.take a))) (by omega) ⟨rfl,by omega,by simp_all[KL]⟩ (λc b O d=>?_) λb d=>?_) λae af=>?_
  ·obtain⟨p,h⟩:=b
   obtain⟨rfl,f,j⟩:=d
   have f:S h<=_:=f
   refine .cond (λ_=>.idx (k:=c) o (by simp_all) ?_) λi=>by simp_all
   have q:al ((gd s (al L a).aS).map rt) c=rt (al (gd s (al L a).aS) c):=by simp_all[dI,xi]
   rw[q]
   refine(put_eq j _ (.inl ⟨rfl,rfl⟩) (by omega) (λg=>?_) (λg=>?_)).bind λQ r=>.ret ⟨cZ (by omega),by grind,?_⟩
   ·have:=Qk (l:=(gd s (al L a).aS).take c) (n:=4) C (by grind) g;omega
   ·grind
   have:=r.2
   rw[aah,KA,KM]at this
   grind[b',b4,dI]
  ·obtain⟨p,h⟩:=b
   obtain⟨rfl,f,j⟩:=d
   have f:S h<=_:=f
   refine .cond (λi=>by grind) λ_=>.ret ⟨by omega,?_⟩
   simp_all
  refine .eq (af0 D aF B) ?_
  refine .bind (P:=λe=>S e<=5*a+5∧nT e (eV (iJ s (L.take a)) (gd s (al L a).aS) 1) (eV (fU s (L.take a)) (gF s (al L a).aS) 1)) (bY (S (gF s (al L a).aS)) (λc b=>b.1=(c:Int)∧S b.2<=5*a+4+c∧nT b.2 (eV (iJ s (L.take a)) (gd s (al L a).aS) 1) (eV (fU s (L.take a)) ((gF s (al L a).aS).take c) 1)) (by omega) ⟨rfl,by simp_all,by simp_all[KL]⟩ (λc b O d=>?_) λb d=>?_) λag ah=>.ret ⟨cZ (by omega),by grind,?_⟩
  ·obtain⟨p,h⟩:=b
   obtain⟨rfl,f,j⟩:=d
   have f:S h<=_:=f
   refine .cond (λ_=>.idx (k:=c) o (by simp_all) ?_) λi=>by simp_all
   have q:al ((gF s (al L a).aS).map rt) c=rt (al (gF s (al L a).aS) c):=by simp_all[dI,xi]
   rw[q]
   refine(put_eq j _ (.inr ⟨rfl,rfl⟩) (by omega) (λg=>?_) (λg=>?_)).bind λQ r=>.ret ⟨cZ (by omega),by grind,?_⟩
   ·have:=Qk (l:=gd s (al L a).aS) (n:=4) C N g;omega
   ·have:=Qk (l:=(gF s (al L a).aS).take c) (n:=1) M (by grind) g;omega
   have:=r.2
   rw[aah,KA,KM]at this
   grind[b',b4,dI]
  ·obtain⟨p,h⟩:=b
   obtain⟨rfl,f,j⟩:=d
   have f:S h<=_:=f
   refine .cond (λi=>by grind) λ_=>.ret ⟨by omega,?_⟩
   simp_all
  simp_all[zX,zY]
 obtain⟨H,m⟩:=b
 obtain⟨rfl,I,J⟩:=d
 refine .cond (λi=>by grind) λ_=>.ret ⟨by omega,?_⟩
 simp_all
def YT{b:aB}[DecidableEq b]:∀{l D0:R b},l.Nodup->(∀a∈l,a∈D0)->S l<=S D0
 |[],_,_,_=>by simp
 | a::h,D0,aQ,c=>by
   obtain⟨d,f⟩:=s7.1 aQ;have i:=c a jS;have j:=YT f (D0:=D0.erase a) λy g=>(Tc (λe=>d (by simp_all))).2 (c y (gO _ g));grind
section
variable{s:aU}{aC:aL Cell}{P:kV}{bP:Nat->R aJ}{next:Int}{bQ:R gq}{y:cR}
def fH.asl(a:fH s bP next y){b:aJ}(d:b∈y.b8):tV s b.aS:=by
 obtain⟨k,c,e,f⟩:=a.r.dS a.ok d;exact⟨⟨k,c,f.dS⟩,(a.arg k c b e).1⟩
def amf(aF:hC s)(g:fS s aC P bP next bQ)(o:S (dq bP)<=48):∀b,pJ aC P.m=U b->S b<=1000:=λb c=>by
 obtain⟨p,h,d,i⟩:=g.nb.map;rw[h]at c;cases c;have q:=YT (l:=b.map (·.1)) (D0:=((dq bP).flatMap λa=>gd s a.aS)++((dq bP).flatMap λa=>gF s a.aS)) (Bv.2 d) λt j=>by
  obtain⟨k,m,rfl⟩:=lk.1 j;have e:=i k.1;rw[Qi d m]at e;grind[iJ,fU]
 have e:=Ab (f:=λa:aJ=>gd s a.aS) (n:=4) (λa=>CR aF _) (dq bP);have r:=Ab (f:=λa:aJ=>gF s a.aS) (n:=1) (λa=>Qj s _) (dq bP);grind
def YU(aF:hC s)(l:fS s aC P bP next bQ)(A:S (dq bP)<=48):
 cB (Bl aC (U P.x)) (λg=>g.2=aC∧S g.1<=1000∧∃j N m,Ie j N m (iJ s (dq bP)) (fU s (dq bP))∧g.1=j.filter λk=>decide (fU s (dq bP) k=0)):=by
 obtain⟨a,b,B⟩:=l.st
 unfold Bl IM
 refine .cond (λf=>by cases f) λ_=>.eq rfl (.eq B (.bind (P:=λg=>g.2=aC∧S g.1<=1000∧∃j N m,Ie j N m (iJ s (dq bP)) (fU s (dq bP))∧g.1=j.filter λk=>decide (fU s (dq bP) k=0)) (.bind (amd l.nb (amf aF l A)) λd h=>?_) λg aF=>.ret aF))
 obtain⟨d,dt⟩:=d
 obtain⟨rfl,C,h⟩:=h
 simp only at h C
 have D:∀c∈d,c.j2=iJ s (dq bP) c.dN∧c.ka=fU s (dq bP) c.dN:=λc f=>by
  have E:=h.n;have F:=h.m;simp_all
 have G:∀c∈d,((V (c.j2>0))&&(c.ka==0))=V (fU s (dq bP) c.dN=0):=λc f=>by
  obtain⟨E,F⟩:=D c f;have J:=(h.mem c.dN).1 (lk.2 ⟨c,f,rfl⟩);have K:=Xl aF (dq bP) c.dN;grind
 have H:((d.map (·.dN)).filter λk=>decide (fU s (dq bP) k=0))=(d.filter λc=>decide (fU s (dq bP) c.dN=0)).map (·.dN):=by rw[NO];rfl
 refine .kZ (P:=λe=>e=(d.filter λc=>decide (fU s (dq bP) c.dN=0)).map (·.dN)) (bY (S d) (λi n=>n=((i:Int),((d.take i).filter λc=>decide (fU s (dq bP) c.dN=0)).map (·.dN))) (by omega) o (λi n p q=>?_) λn q=>?_) λe I=>.ret ⟨rfl,?_,_,_,_,h,I.trans H.symm⟩
 ·subst q
  have L:(((d.take i).filter λc=>decide (fU s (dq bP) c.dN=0)).map (·.dN)).length<=1000:=by
   grind
  refine .cond (λ_=>.idx o p (.eq o ?_)) λf=>by simp_all
  rw[G _ (qj p),mL _ p,oy,pt]
  refine .bind (P:=λr=>r=((d.take i).filter λc=>decide (fU s (dq bP) c.dN=0)).map (·.dN)++([al d i].filter λc=>decide (fU s (dq bP) c.dN=0)).map (·.dN)) (.cond (λf=>.eq (eS _ _ (by grind) (by omega)) (.ret ?_)) λf=>.ret ?_) λr M=>.ret (by grind[cZ])
  ·simp_all
  simp_all
 ·subst q
  refine .cond (λf=>by grind) λ_=>.ret ?_
  simp_all
 grind
def agf(h:S y.b8<=1000):FP y=U (y.b8.map (·.aS)):=by
 refine aM.get ?_;unfold FP;refine .bind (P:=λe=>e=y.b8.map (·.aS)) (bY (S y.b8) (λa b=>b=((a:Int),(y.b8.take a).map (·.aS))) (by omega) o (λa b d c=>?_) λb c=>?_) λe f=>.ret f
 ·subst c;refine .cond (λ_=>.idx o d (.eq (eS _ _ (by grind) (by omega)) (.ret ?_))) λg=>by simp_all
  rw[cZ (by omega),mL _ d,pt];rfl
 subst c;exact .cond (λg=>by grind) λ_=>.ret (by simp_all)
def aiu(p:ch s)(aF:hC s)(d:fH s bP next y):aM (Jy s (y.b8.map (·.aS))) (λl=>S l<=1000∧∃m N q,Ie m N q (iJ s (dq bP)) (fU s (dq bP))∧l.map ut=m.filter λi=>decide (fU s (dq bP) i=0)):=by
 have A:=d.r.len d.ok;unfold Jy;refine(ajA p aF (λc f=>d.asl f) (by omega)).bind λb g=>?_;rw[zV d.r.sP,zW d.r.sP]at g;obtain⟨B,g⟩:=g;have r:∀a∈b,(a.ka==0)=V (fU s (dq bP) (ut a.dN)=0):=λa h=>by
  rw[(g.el h).2];rfl
 have C:((uh b).filter λi=>decide (fU s (dq bP) i=0))=(b.filter λa=>decide (fU s (dq bP) (ut a.dN)=0)).map λa=>ut a.dN:=by unfold uh;rw[NO];rfl
 refine .bind (P:=λe=>e=(b.filter λa=>decide (fU s (dq bP) (ut a.dN)=0)).map (·.dN)) (bY (S b) (λc j=>j=((c:Int),((b.take c).filter λa=>decide (fU s (dq bP) (ut a.dN)=0)).map (·.dN))) (by omega) o (λc j f k=>?_) λj k=>?_) λe D=>.ret ⟨?_,_,_,_,g,?_⟩
 ·subst k;have E:(((b.take c).filter λa=>decide (fU s (dq bP) (ut a.dN)=0)).map (·.dN)).length<=1000:=by
   grind
  refine .cond (λ_=>.idx o f ?_) λh=>by simp_all
  rw[r _ (qj f),mL _ f,oy,pt];refine .bind (P:=λn=>n=((b.take c).filter λa=>decide (fU s (dq bP) (ut a.dN)=0)).map (·.dN)++([al b c].filter λa=>decide (fU s (dq bP) (ut a.dN)=0)).map (·.dN)) (.cond (λh=>.eq (eS _ _ (by grind) (by omega)) (.ret ?_)) λh=>.ret ?_) λn F=>.ret (by grind[cZ])
  ·simp_all
  simp_all
 ·subst k;refine .cond (λh=>by grind) λ_=>.ret ?_;simp_all
 ·grind
 simp_all
end
def sM(a:Nat):aJ:= {aS:=lW a,ct:=(a:Int)+1,dL:=1}
def iU(a:Nat):Nat->R aJ:=eD (λ_=>[]) 0 ((ca a).map sM)
def ajB:iU 0=λ_=>[]:=by funext j;simp_all[iU,eD]
theorem yd(a:Nat):iU a 0=(ca a).map sM:=il
def Ql(a:Nat):dq (iU a)=(ca a).map sM:=by
 unfold dq;rw[yd,show iU a 1=[]from kc (by decide),show iU a 2=[]from kc (by decide),show iU a 3=[]from kc (by decide),qe,qe,qe]
def PL(a:Nat):S (dq (iU a))=a:=by rw[Ql,lY,IH]
def ajC(a:Nat):eD (iU a) 0 (iU a 0++[sM a])=iU (a+1):=by
 rw[yd];simp_all[iU,re,ES,pt]
def asm:∀a b:Fin 16,fE (lW a.1) (lW b.1)=V (a.1=b.1):=by decide +kernel
def Lf{a:Nat}{b:aJ}(d:b∈(ca a).map sM):∃c,c<a∧b=sM c:=by
 grind
theorem arM{a:Nat}(c:a<16):dM (iU a 0) (lW a)=cn:=by
 rw[yd];unfold dM;refine Ex.2 λe d=>?_;obtain⟨b,f,rfl⟩:=Lf d;rw[show fE (sM b).aS (lW a)=V (b=a)from asm ⟨b,by omega⟩ ⟨a,c⟩];grind
def abi(b:Nat):kY (lW b):=λa=>by rcases a with a|a <;> cases a
section
variable{s:aU}{aC:aL Cell}{P:kV}{bP:Nat->R aJ}{next:Int}{bQ:R gq}
def arN(aF:hC s)(c:Nat):gd s (lW c)=[]:=by
 unfold gd;refine Ij.2 λb d=>?_;have a:=aF.refs b d;unfold kq;rw[bU];intro e;have f:b.bZ=(1:Int):=e;rcases a.2.2 with a|a|a|a <;> omega
def apz(a:ch s)(aF:hC s)(f:vb s)(g:(al s.bK 0).iZ=W #[]){i:Nat}(h:i<10)(q:(i:Int)<(al s.bK 0).gA)(j:fS s aC P (iU i) ((i:Int)+1) bQ)(l:S bQ<=i):
 cB (uw aC (U P.x) s 1 ⟨1,lW i⟩) (λb=>b.1=0∧∃og,S og<=i+1∧fS s b.2 P (iU (i+1)) ((i:Int)+1+1) og):=by
 have r:=PL i
 have A:gW (dq (iU i)) 1<=(i:Int):=by
  grind[gW]
 have m:room s (gW (dq (iU i))) 1=X:=by
  show V (gW (dq (iU i)) 1<(al s.eo 0).jw)=X;rw[aF.all];grind
 unfold uw
 refine .eq (ahn a f g h) (.cond (λc=>by cases c) λ_=>.cond (λ_=>.bind (Xe a aF j (RC aF (by omega) (by omega)) (k:=0) (by decide) (aaf a (by omega)) (abi i) 1 (λB d=>?_) (by grind[yd,List.length_map,List.length_range]) ⟨by omega,by omega⟩) λb e=>.ret ?_) λc=>by cases c)
 ·rw[yd]at d
  obtain⟨n,l,rfl⟩:=Lf d
  show(n:Int)+1<i+1
  omega
 rw[bU (by grind[arM]),bU (by simp_all[yd,lY,IH]),bT m]at e
 obtain⟨C,o⟩:=e
 have aC:=nX (ls:=iU i) (k:=0) (by decide) (sM i)
 have p:=o.to (zX.trans (zV aC)) (zY.trans (zW aC)) (py.trans (oI aC))
 rw[show({aS:=lW i,ct:=(i:Int)+1,dL:=1}:aJ)=sM i from rfl,ajC]at p
 grind
def apA(c:ch s)(aF:hC s)(j:vb s)(l:(al s.bK 0).iZ=W #[])(m:fS s aC P (iU 1) 2 bQ)(n:S bQ<=1):
 cB (uw aC (U P.x) s 1 ⟨3,{lW 0 with dR:=0}⟩) (λd=>d.1=0∧∃og,S og<=2∧fS s d.2 P (iU 0) 2 og):=by
 have a:=aaf c (w:=0) (by decide)
 unfold uw
 refine .eq (aho c j l) (.cond (λb=>by cases b) λ_=>.cond (λb=>by cases b) λ_=>.cond (λb=>by cases b) λ_=>.bind (Xf c aF m (RC aF (by simp_all[PL]) (by omega)) (k:=0) (by decide) (e:= {lW 0 with dR:=0}) ⟨a.ev,a.len,a.wY,a.args,a.pri⟩ λA h=>?_) λd i=>.ret ?_)
 ·rw[yd]at h
  obtain⟨o,n,rfl⟩:=Lf h
  refine⟨abi o,rfl,?_⟩
  rw[Ql]
  show(0:Int)<gW ((ca 1).map sM) 1
  decide
 rw[show dM (iU 1 0) {lW 0 with dR:=0} =U (sM 0) by rfl]at i
 obtain⟨p,f⟩:=i
 have q:dx (iU 1 0) {lW 0 with dR:=0} =[]:=by rfl
 rw[q]at f
 have r:eD (iU 1) 0 []=iU 0:=by simp_all[iU,re]
 rw[r]at f
 have g:(dq (iU 0)++[sM 0]).Perm (dq (iU 1)):=by rfl
 exact⟨p,_,by simp_all,f.to (Gr g) (Gs g) (Ps g)⟩
def ak8(aF:hC s){l:R eQ}(bP:Nat->Nat->R aJ)(g:Nat->Int)(aa:(S l:Int)<=s.kB)(ab:s.kB<=9)(m:fS s aC P (bP 0) (g 0) [])
 (A:∀b dt bQ,b<S l->S bQ<=b->fS s dt P (bP b) (g b) bQ->cB (uw dt (U P.x) s 1 (al l b)) (λc=>c.1=0∧∃og,S og<=b+1∧fS s c.2 P (bP (b+1)) (g (b+1)) og))
 (aQ:S (dq (bP (S l)))<=48) (aq:∀b∈dq (bP (S l)),gd s b.aS=[]):
 cB (px aC (U P.x) s 1 l) (λc=>c.1=0∧c.2.1=0∧fS s c.2.2 P (bP (S l)) (g (S l)) []):=by
 obtain⟨ac,ad,B⟩:=m.st
 unfold px
 refine .cond (λf=>by grind) λ_=>.eq (a:=P.x) o (.eq B (.eq (a:=0) o ?_))
 refine .bind (P:=λe=> ∃q:aL Cell,e=.inl q∧∃bQ,fS s q P (bP (S l)) (g (S l)) bQ) (ce (S l) (λb h=>h.1=(b:Int)∧∃bQ,S bQ<=b∧fS s h.2 P (bP b) (g b) bQ) (by omega) ⟨rfl,[],jT 0,m⟩ (λb h n j=>?_) λh j=>?_) λe C=>?_
 ·obtain⟨D,dt⟩:=h
  obtain⟨i,bQ,p,d⟩:=j
  simp only at i d;subst i
  refine .cond (λ_=>.idx o n (.bind (A b dt bQ n p d) λy E=>?_)) λf=>by simp_all
  obtain⟨F,og,G,H⟩:=E
  rw[F]
  exact .cond (λf=>by cases f) λ_=>.ret ⟨cZ (by omega),og,G,H⟩
 ·obtain⟨D,dt⟩:=h
  obtain⟨i,bQ,p,d⟩:=j
  simp only at i d;subst i
  exact .cond (λf=>by grind) λ_=>.ret ⟨_,rfl,bQ,d⟩
 obtain⟨q,rfl,bQ,d⟩:=C
 simp only[cd]
 refine .bind (YU aF d aQ) λk I=>?_
 obtain⟨k,dt⟩:=k
 obtain⟨rfl,_,ae,N,af,J,r⟩:=I
 simp only at r
 have K:∀t,iJ s (dq (bP (S l))) t=0:=λt=>by
  unfold iJ;rw[Ij.2 aq];rfl
 have L:k=[]:=by
  rw[r];refine M9.2 λt M O=>?_;exact(J.mem t).1 M ⟨K t,uj O⟩
 subst L
 obtain⟨ag,ah,Q⟩:=d.st
 refine .cond (λf=>by cases f) λ_=>.bind (P:=λc=>fS s c P (bP (S l)) (g (S l)) []) ?_ λc aF=>.ret ⟨rfl,rfl,aF⟩
 unfold xt
 exact .cond (λf=>by cases f) λ_=>.eq (a:=P.x) o (.eq Q (.eq o (.any λq=>.eq o (.ret (d.DO q.1 q.2)))))
def ak9(c:ch s)(i:fS s aC P bP next bQ)(r:∀k,k<4->S (bP k)<=48):cB (tc aC (U P.x)) (λa=>a.2=aC∧S a.1=S (dq bP)):=by
 unfold tc;refine .eq (Pt i) (.bind (P:=λa=>a.2=aC∧S a.1=S (dq bP)) ?_ λa aF=>.ret aF);have j:=i.kJ.ok;obtain⟨H,I,J,A,K,L⟩:=j.cell;unfold B1;refine .cond (λf=>by cases f) λ_=>.eq rfl (.eq A ?_);refine .bind (P:=λe=>e.2=aC∧S e.1=S (wP bP 4)) (ce 4 (λk g=> ∃b,g=((k:Int),b,aC)∧S b=S (wP bP k)∧S b<=48*k) (by decide) ⟨[],rfl,rfl,by simp⟩ (λk g d h=>?_) (λg h=>?_)) λe l=>.ret ⟨l.1,?_⟩
 ·obtain⟨b,rfl,m,M⟩:=h;have B:=(c.ev d).1;have C:=c.jM;refine .cond (λ_=>?_) λf=>by grind
  refine .idx (k:=k) o (by simp_all) ?_;show cB (b3 (xq aC (U P.t) (al s.bK k).cA) λn=>_) _;rw[B];obtain⟨q,N,D,E⟩:=KI j d;have O:=r k d;unfold xq;refine .bind (P:=λa=>a.2=aC∧S a.1=S (bP k)) (.eq D (.bind (aac c d E (by omega)) λa aF=>.ret ⟨aF.1,aF.2.1.length_eq⟩)) λn F=>?_;obtain⟨Q,dt⟩:=n;obtain⟨p,G⟩:=F;simp only at p G;subst p;refine .eq (eS _ _ (by grind) (by omega)) (.ret ⟨_,by rw[cZ (by omega)],?_,?_⟩)
  ·simp_all[lI,wP]
  grind
 ·obtain⟨b,rfl,m,_⟩:=h;have C:=c.jM;refine .cond (λf=>?_) λ_=>.ret ⟨rfl,m⟩;simp_all
 simp_all[l,dq,wP]
end
def amg(a:Nat)(b:a<=48):∀k,k<4->S (iU a k)<=48:=λk c=>by
 by_cases e:k=0
 ·simp_all[yd,lY,IH]
 rw[show iU a k=[]from kc e];simp
def amh{s:aU}(aF:hC s)(c:Nat):∀a∈dq (iU c),gd s a.aS=[]:=λa b=>by
 rw[Ql]at b;obtain⟨d,_,rfl⟩:=Lf b;exact arN aF d
def Wd(aC:aL Cell):cB (Cl aC) (λb=>b.1=X):=by
 have r:=(K8 [] 0 (by decide) (by decide)).of_eq QL;have e:ch w1:=(((O7 DP ((K8 [] 0 (by decide) (by decide)).of_eq QL)).of_eq LC).1);have aF:hC w1:=Vy DP _ LC;have f:vb w1:=agO DP r _ LC;have j:(al w1.bK 0).iZ=W #[]:=by rfl
 have H:(2:Int)<=(al w1.bK 0).gA:=by decide +kernel
 unfold Cl;refine .eq QL (.eq LC ?_);show cB (b3 (xC aC w1) _) _;refine .bind (aps e aF aC) λA B=>?_;obtain⟨P,k,g⟩:=B;obtain⟨I,C⟩:=A;simp only at k g;subst k;refine .eq (a:=lW 0) (by rfl) (.eq (a:=(⟨3,{lW 0 with dR:=0}⟩:eQ)) o ?_);rw[<-ajB]at g;show cB (b3 (px C (U P.x) w1 1 [⟨1,lW 0⟩,⟨3,{lW 0 with dR:=0}⟩]) _) _;refine .bind (ak8 aF (λi=>iU (if i=1 then 1 else 0)) (λi=>if i=0 then 1 else 2) f.p2.1 f.p2.2 g (λi dt bQ J l m=>?_) (by decide) (amh aF _)) λD h=>?_
 ·have:i=0∨i=1:=by grind
  rcases this with rfl|rfl
  ·exact apz e aF f j (i:=0) (by decide) (by omega) m l
  exact apA e aF f j m l
 obtain⟨K,L,n⟩:=D;obtain⟨p,q,c⟩:=h;simp only at p q;subst p q;have c:fS w1 n P (iU 0) 2 []:=c;obtain⟨M,N,h⟩:=c.st;refine .bind (P:=λb=>b.2=n∧S b.1=0) (.cond (λ_=>(ak9 e c (amg 0 (by decide))).mono λb aF=>⟨aF.1,aF.2.trans (PL 0)⟩) λE=>by cases E) λF d=>?_;obtain⟨G,O⟩:=F;obtain⟨rfl,d⟩:=d;have d:G=[]:=MY d;subst d;exact .eq (a:=(2:Int)) (show bs X X _=_ from(bT o).trans (QM c)) (.eq (a:=X) o (.eq (a:=P.x) o (.eq (a:=_) (show bs X X _=U _ from(bT o).trans h) (.eq (a:=(0:Int)) o (.ret o)))))
section
variable{s:aU}{aC:aL Cell}{P:kV}{ls bP:Nat->R aJ}{next:Int}{bQ:R gq}
end
section
variable{s:aU}{b:aI}{w:Nat}{aC:aL Cell}{P:kV}
end
section
variable{s:aU}{aC:aL Cell}{P:kV}{ls bP:Nat->R aJ}{next:Int}{bQ:R gq}
end
section
variable{s:aU}{aC:aL Cell}{P:kV}{bP ls:Nat->R aJ}{next:Int}{bQ:R gq}{ek:R cR}{y gI:cR}
def fH.doc(d:fH s bP next y){next':Int}(aQ:next<=next'){k:Nat}(i:k<4){l:R aJ}(aF:jX s gI (eD bP k l) next')(j:ix s k l)(m:S l<=12)
 (n:∀b∈l,kY b.aS∧(rx b.dL).isSome=X∧b.ct<next') (h:∀g a,rx g=U a->gW (dq (eD bP k l)) g<=(al s.eo a).jw):fH s (eD bP k l) next' gI:=by
 refine⟨aF,⟨λa c=>?_,λa c=>?_⟩,λa c=>?_,h,by have:=d.A7;omega⟩
 ·by_cases e:a=k
  ·simp_all[il]
  rw[kc e];exact d.ok.fW a c
 ·by_cases e:a=k
  ·simp_all[il]
  rw[kc e];exact d.ok.len a c
 by_cases e:a=k
 ·simp_all[il]
 rw[kc e];exact λb f=>⟨(d.arg a c b f).1,(d.arg a c b f).2.1,by have:=(d.arg a c b f).2.2;omega⟩
def nQ(s:aU)(next:Int)(y:cR)(e:Int)(gI:cR):Prop:=
 (e=0∧∃a next',fH s a next' gI∧next'<=next+1)∨(e≠0∧gI=y)
def Ya(q:ch s)(r:A8 s)(b:fH s bP next y)(aQ:next<100000){k:Nat}(c:k<4){e:bg}(j:fu s k e)(H:kY e)(d:Int):
 aM (xA y e d) (λg=>nQ s next y g.1 g.2):=by
 have I:=b.A7
 have J:=b.ok.len k c
 refine(VA q b.r b.ok c j d ⟨by omega,by omega⟩).mono λg a=>?_
 by_cases l:(dM (bP k) e).isSome=X
 ·rw[bT l]at a;subst a;exact .inr ⟨by simp,rfl⟩
 rw[bU l]at a
 by_cases m:(al s.bK k).gA<=(S (bP k):Int)
 ·rw[bT m]at a;subst a;exact .inr ⟨by simp,rfl⟩
 rw[bU m]at a
 have K:=r k c
 by_cases n:room s (gW (dq bP)) d=X
 ·rw [bT n]at a
  obtain⟨A,B⟩:=a
  have aC:=nX (ls:=bP) c ({aS:=e,ct:=next,dL:=d}:aJ)
  have C:dM (bP k) e=cn:=by
   simp_all
  have D:∃h,rx d=U h∧gW (dq bP) d<(al s.eo h).jw:=by
   grind[room]
  obtain⟨h,L,M⟩:=D
  refine .inl ⟨A,_,_,b.doc (by omega) c B ((b.ok.fW k c).snoc ⟨j⟩ C ?_ (by omega)) (by grind) (λi f=>?_) (λo E F=>?_),oD _⟩
  ·cases p:jk (bP k) next with
   |false=>rfl
   | true=>
     unfold jk at p
     obtain⟨i,f,N⟩:=oA.1 p
     have:=(b.arg k c i f).2.2
     simp_all
  ·rcases eN.1 f with f|f
   ·have:=b.arg k c i f
    grind
   grind
  rw[<-oI aC,<-py]
  unfold bump
  by_cases G:o=d
  ·grind
  rw[bU G];exact b.quo o E F
 rw[bU n]at a
 subst a;exact .inr ⟨by simp,rfl⟩
def We(f:fH s bP next y){k:Nat}(b:k<4){e:bg}{a:aJ}(g:dM (bP k) e=U a):(dq (eD bP k (dx (bP k) e))++[a]).Perm (dq bP):=by
 obtain⟨h,i⟩:=mP g;have c:=nX (ls:=eD bP k (dx (bP k) e)) b a;rw[il,re]at c;refine c.trans (xK λd l=>?_);by_cases j:d=k
 ·subst j;rw[il];exact uB (f.ok.fW d b) h i
 grind[kc]
def Yb(r:ch s)(a:fH s bP next y){k:Nat}(b:k<4){e:bg}(m:fu s k e)(I:kY e):
 aM (xm y e) (λh=>nQ s next y h.2.1 h.2.2):=by
 refine(Xh r a.r a.ok b m).mono λh c=>?_
 cases d:dM (bP k) e with
 |none=>rw[d]at c;exact .inr ⟨by omega,c.2⟩
 | some i=>
   rw[d]at c
   obtain⟨A,B⟩:=c
   obtain⟨j,n⟩:=mP d
   have l:=a.ok.fW k b
   have C:=We a b d
   have p:=nX (ls:=eD bP k (dx (bP k) e)) b ({aS:=e,ct:=i.ct,dL:=i.dL}:aJ)
   rw[il,re]at p
   have D:gW (dq bP)=gW (dq (eD bP k (dx (bP k) e++[({aS:=e,ct:=i.ct,dL:=i.dL}:aJ)]))):=by
    rw[<-oI C,<-oI p,<-py,<-py]
   have J:=a.arg k b i j
   have q:=(uB l j n).length_eq
   have K:=a.ok.len k b
   rw[lI]at q
   simp only[b7,cb]at q
   have f:=PI l j n (i:= {aS:=e,ct:=i.ct,dL:=i.dL}) (nu e) o
   unfold pd at f
   simp only[hx,xf,SS]at f
   refine .inl ⟨A,_,_,a.doc (oD _) b B ((l.dx e).snoc ⟨m⟩ f.1 f.2 (by omega)) ?_ (λE g=>?_) (λF G H=>by rw[<-D];exact a.quo F G H),by omega⟩
   ·simp_all
   rcases eN.1 g with g|g
   ·exact a.arg k b E (mg.1 g).1
   simp_all
def Yc(g:ch s)(a:fH s bP next y){k:Nat}(b:k<4){e:bg}(h:fu s k e):
 aM (xn y e) (λd=>nQ s next y d.2.1 d.2.2):=by
 refine(Xg g a.r a.ok b h).mono λd c=>?_
 cases f:dM (bP k) e with
 |none=>rw[f]at c;exact .inr ⟨by omega,c.2⟩
 | some r=>
   rw[f]at c
   obtain⟨i,j⟩:=c
   have l:=We a b f
   refine .inl ⟨i,_,_,a.doc (oD _) b j ((a.ok.fW k b).dx e) (mK (GH _ _) (a.ok.len k b)) (λm n=>a.arg k b m (mg.1 n).1) (λo p q=>?_),by omega⟩
   have:=a.quo o p q
   rw[<-oI l,<-py]at this
   grind[bump]
structure pT(s:aU)(u:eQ):Prop where
 dS:∃k,k<4∧fu s k u.aS
 arg:kY u.aS
def Mv(y:cR)(role:Int)(a:eQ):aw (Int×cR):=
 cond (a.cO==1) (xA y a.aS role) (cond (a.cO==2) ((xm y a.aS).map (·.2)) ((xn y a.aS).map (·.2)))
def tK(s:aU)(y:cR)(role:Int)(a:eQ):aw (Int×cR):=
 (tg s role a).bind λp=>if p=0 then Mv y role a else U (p,y)
def apB(e:ch s)(r:A8 s)(aF:hC s)(j:fS s aC P bP next bQ)(f:fH s bP next y)(m:S bQ<=1000)(aQ:next<100000){l:eQ}(i:pT s l){role:Int}(A:aM (tg s role l) λ_=>True):
 cB (uw aC (U P.x) s role l) (λb=> ∃gI,tK s y role l=U (b.1,gI)∧HA s P bP next bQ y b.1 b.1 gI b.2):=by
 obtain⟨p,B,_⟩:=A
 obtain⟨k,g,h⟩:=i.dS
 unfold uw tK
 rw[B]
 by_cases n:p=0
 ·subst n
  simp only[b5,bT]
  refine .eq o (.cond (λd=>by cases d) λ_=>.cond (λd=>?_) λd=>.cond (λq=>?_) λq=>?_)
  ·obtain⟨a,c,_⟩:=Ya e r f aQ g h i.arg role
   refine .bind (cB.jl c (apt e r aF j f m aQ g h i.arg role)) λb aq=>.ret ⟨a.2,?_,?_⟩
   ·unfold Mv;rw[d,c];show U a=_;rw[show b.1=a.1 from aq.1]
   have:=aq.1;simp_all
  ·obtain⟨a,c,_⟩:=Yb e f g h i.arg
   refine .bind (cB.jl c (apu e aF j f m g h i.arg)) λb aq=>.ret ⟨a.2.2,?_,?_⟩
   ·unfold Mv;rw[d,q,c];show U a.2=_;rw[show b.1=a.2.1 from aq.1]
   exact⟨rfl,by rw[show b.1=a.2.1 from aq.1];exact aq.2⟩
  obtain⟨a,c,_⟩:=Yc e f g h
  refine .bind (cB.jl c (apv e aF j f m g h)) λb aq=>.ret ⟨a.2.2,?_,?_⟩
  ·unfold Mv;rw[d,q,c];show U a.2=_;rw[show b.1=a.2.1 from aq.1]
  exact⟨rfl,by rw[show b.1=a.2.1 from aq.1];exact aq.2⟩
 simp only[b5,bU n]
 exact .eq o (.cond (λ_=>.ret ⟨y,rfl,rfl,.inr ⟨n,j,rfl⟩⟩) λd=>by simp_all)
def ajD{b:aB}[Inhabited b]{l c:R b}{a:Nat}(d:a<S l):al (l++c) a=al l a:=by
 simp_all[al,List.getElem?_append_left]
def ala(aF:hC s)(j:s.dh=[])(b:fS s aC P bP next bQ)(aQ:S (dq bP)<=48):cB (Bl aC (U P.x)) (λa=>a.2=aC∧a.1=[]):=by
 refine(YU aF b aQ).mono λa ⟨c,_,k,N,l,d,f⟩=>⟨c,?_⟩;rw[f,M9];intro t g;exfalso;apply (d.mem t).1 g;have e:∀e:bg,gd s e=[]:=λe=>by simp_all[gd]
 have h:∀e:bg,gF s e=[]:=λe=>by simp_all[gF,bU]
 refine⟨?_,?_⟩
 ·unfold iJ;rw[Ij.2 λi _=>e _];rfl
 unfold fU;rw[Ij.2 λi _=>h _];rfl
def sR(s:aU)(role:Int)(b:aw cR)(c:eQ):aw cR:=
 b.bind λy=>(tK s y role c).bind λa=>if a.1=0 then U a.2 else cn
def lF(s:aU)(role:Int)(y:cR)(l:R eQ)(a:cR):Prop:=l.foldl (sR s role) (U y)=U a
def lF.nil{role:Int}:lF s role y [] y:=rfl
def lF.snoc{role:Int}{a b:cR}{l:R eQ}{c:eQ}(d:lF s role y l a)(e:tK s a role c=U (0,b)):lF s role y (l++[c]) b:=by
 have d:l.foldl (sR s role) (U y)=U a:=d;show(l++[c]).foldl (sR s role) (U y)=U b;simp_all[Ez,sR]
def lF.pU{role:Int}{a b:cR}{l:R eQ}(c:lF s role y l a)(k:lF s role y l b):a=b:=I0 (vM (Eq.symm c) k)
def DQ(s:aU)(role:Int)(y:cR)(l:R eQ)(b e:Int)(gI:cR):Prop:=
 (b=0∧e=0∧lF s role y l gI)∨(e≠0∧gI=y∧∃a c d,a<S l∧b=(a:Int)∧lF s role y (l.take a) c∧tK s c role (al l a)=U (e,d))
def VC{l:R eQ}{a:Nat}(b:a<S l):l.take (a+1)=l.take a++[al l a]:=mL l b
def H0(s:aU)(P:kV)(role:Int)(y:cR)(l:R eQ)(next:Int)(a:Nat)(bQ:R gq)(aC:aL Cell):Prop:=
 ∃c b next' ek,lF s role y (l.take a) c∧fS s aC P b next' bQ∧po s P.x bQ ek b next'∧fH s b next' c∧S bQ=a∧al ek 0=y∧0<S ek∧next'<=next+a
def ami(j:ch s)(aF:hC s){role:Int}{l:R eQ}{i:Nat}(r:i<=100)(k:H0 s P role y l next i bQ aC):cB (Bm aC (U P.x) 0) (λd=> ∃b next',fS s d P b next' []∧fH s b next' y∧next'=y.jm):=by
 obtain⟨A,b,next',ek,B,m,f,C,D,n,E,F⟩:=k;refine(al9 j aF m (by omega) f .refl 0).mono λd ⟨o,lc,iy,g,h,p⟩=>?_;have q:(max (0:Int) 0).toNat=0:=rfl;rw[q,co]at g h;have c:=h.last;have G:=f.len;have e:al (ek.take (0+1)) (S ([]:R gq))=y:=by
  rw[<-n];cases ek with
  |nil=>rfl
  |cons a t=>rfl
 rw[e]at c;exact⟨o,iy,g,c.perm p,c.r.num.symm⟩
def ajE{role:Int}{l:R eQ}{a:Nat}(e:a<S l){b gI:cR}{c:Nat->R aJ}{next':Int}{dt:aL Cell}
 (f:lF s role y (l.take a) b) (g:po s P.x bQ ek c next') (h:S bQ=a) (n:al ek 0=y) (o:0<S ek) (p:next'<=next+a)
 (i:tK s b role (al l a)=U (0,gI)) (aq:HA s P c next' bQ b 0 0 gI dt):∃og,H0 s P role y l next (a+1) og dt:=by
 rcases aq.2 with⟨_,ph,j,iy,k,m,d,q⟩|⟨r,_⟩
 ·refine⟨bQ++[ph],gI,j,iy,ek++[gI],?_,k,.snoc g .refl m d,d,by simp[h],?_,by simp,by omega⟩
  ·rw[VC e];exact .snoc f i
  simp_all[ajD]
 omega
def alb(J:ch s)(ab:A8 s)(aF:hC s)(ac:s.dh=[])(K:fS s aC P bP next [])(B:fH s bP next y)(aQ:next<90000){role:Int}{l:R eQ}(aw:(S l:Int)<=s.kB)(ax:S l<=100)
 (ad:∀L∈l,pT s L∧aM (tg s role L) λ_=>True):
 cB (px aC (U P.x) s role l) (λb=> ∃gI c next',DQ s role y l b.1 b.2.1 gI∧fS s b.2.2 P c next' []∧fH s c next' gI∧next'<=next+S l):=by
 obtain⟨ay,az,M⟩:=K.st
 have aA:y.jm=next:=B.r.num
 unfold px
 refine .cond (λd=>by grind) λ_=>.eq (a:=P.x) o (.eq M (.eq (a:=0) o ?_))
 refine .bind (P:=λe=>match e with
  | .inl q=> ∃bQ,H0 s P role y l next (S l) bQ q
  | .inr q=>q.2.2≠0∧∃n f C bQ,n<S l∧q.1=(n:Int)∧H0 s P role y l next n bQ q.2.1∧lF s role y (l.take n) f∧tK s f role (al l n)=U (q.2.2,C))
  (ce (S l) (λi h=>h.1=(i:Int)∧∃bQ,H0 s P role y l next i bQ h.2) (by omega) ⟨rfl,[],y,bP,next,[y],.nil,K,.nil B,B,rfl,rfl,by simp,by simp⟩ (λi h r g=>?_) λh g=>?_) λe N=>?_
 ·obtain⟨ae,dt⟩:=h
  obtain⟨k,bQ,f,c,next',ek,A,j,D,m,E,F,G,H⟩:=g
  simp only at k j;subst k
  obtain⟨af,ag⟩:=ad _ (qj r)
  refine .cond (λ_=>.idx o r (.bind (apB J ab aF j m (by omega) (by omega) af ag) λb aq=>?_)) λd=>by simp_all
  obtain⟨e,aB⟩:=b
  obtain⟨gI,I,aq⟩:=aq
  simp only at aq I
  refine .cond (λd=>.ret ?_) λd=>.ret ?_
  ·have p:e≠0:=by simp_all
   rcases aq.2 with⟨M,_⟩|⟨_,ah,_⟩
   ·omega
   exact⟨p,i,f,gI,bQ,r,rfl,⟨f,c,next',ek,A,ah,D,m,E,F,G,H⟩,A,I⟩
  have p:e=0:=by simp_all
  subst p
  exact⟨cZ (by omega),ajE r A D E F G H I aq⟩
 ·obtain⟨ae,dt⟩:=h
  obtain⟨k,g⟩:=g
  simp only at k;subst k
  exact .cond (λd=>by grind) λ_=>.ret g
 rcases e with q|q
 ·obtain⟨bQ,f,c,next',ek,A,j,D,m,E,F,G,H⟩:=N
  simp only[cd]
  refine .bind (ala aF ac j m.abf) λO ai=>?_
  obtain⟨O,dt⟩:=O
  obtain⟨Q,aa⟩:=ai
  simp only at Q aa
  subst Q aa
  obtain⟨aD,aE,g⟩:=j.st
  refine .cond (λd=>by cases d) λ_=>.bind (P:=λb=>fS s b P c next' []) ?_ λb aj=>.ret ⟨f,c,next',.inl ⟨rfl,rfl,by simp_all⟩,aj,m,by omega⟩
  unfold xt
  exact .cond (λd=>by cases d) λ_=>.eq (a:=P.x) o (.eq g (.eq o (.any λq=>.eq o (.ret (j.DO q.1 q.2)))))
 obtain⟨p,n,f,C,bQ,ak,am,an,ao,ap⟩:=N
 simp only[cl]
 refine .bind (P:=λb=> ∃c next',fS s b P c next' []∧fH s c next' y∧next'=y.jm) ?_ λb ⟨ar,iy,au,av,aG⟩=>.ret ⟨y,ar,iy,.inr ⟨p,rfl,n,f,C,ak,am,ao,ap⟩,au,av,by omega⟩
 unfold xt
 exact .cond (λ_=>.bind (ami J aF (by omega) an) λb aF=>.ret aF) λd=>by simp_all
end
def Dq{b d:aB}{c:aw b}{e:b->ag d}{P:b->Prop}{f:d->Prop}(h:aM c P)(k:∀a,c=U a->P a->cB (e a) f):cB (b3 (c0 c) e) f:=by
 obtain⟨a,g,i⟩:=h;exact .eq g (k a g i)
section
variable{s:aU}{bP:Nat->R aJ}{next:Int}{y:cR}
def alc(c:ch s)(h:A8 s)(b:fH s bP next y)(aQ:next<100000){d:eQ}(e:pT s d){role:Int}(i:aM (zK s role d) λ_=>True):aM (Gm y role d) (λa=>nQ s next y a.1 a.2):=by
 obtain⟨k,f,g⟩:=e.dS;unfold Gm;rw[b.r.qH];refine i.bind λp _=>.cond (λj=>.ret (.inr ⟨by simp_all,rfl⟩)) λ_=>?_;refine .bind (P:=λa=>nQ s next y a.1 a.2) (.cond (λ_=>(Ya c h b aQ f g e.arg role).bind λa aF=>.ret aF) λ_=>.bind (P:=λa=>nQ s next y a.1 a.2) (.cond (λ_=>(Yb c b f g e.arg).bind λa aF=>.ret aF) λ_=>(Yc c b f g).bind λa aF=>.ret aF) λa aF=>.ret aF) λa aF=>.ret aF
def aiv(i:ch s)(A:A8 s)(aF:hC s)(b:fH s bP next y)(aQ:next<90000){role:Int}{l:R eQ}(H:S l<=100)(B:∀j∈l,pT s j∧aM (zK s role j) λ_=>True):
 aM (Ck y role l) (λk=> ∃d next',fH s d next' k.2.2∧next'<=next+S l):=by
 have I:=b.r.len b.ok
 unfold Ck
 refine .cond (λ_=>.ret ⟨bP,next,b,by omega⟩) λ_=>.eq (YQ (by omega)) ?_
 refine .bind (P:=λe=>match e with
  | .inl q=> ∃d next',fH s d next' q∧next'<=next+S l
  | .inr _=>True) (bY (S l) (λh c=>c.1=(h:Int)∧∃d next',fH s d next' c.2∧next'<=next+h) (by omega) ⟨rfl,bP,next,b,by simp⟩ (λh c m f=>?_) λc f=>?_) λe C=>?_
 ·obtain⟨D,E⟩:=c
  obtain⟨g,n,iy,a,p⟩:=f
  simp only at g a;subst g
  obtain⟨F,G⟩:=B _ (qj m)
  refine .cond (λ_=>.idx o m ((alc i A a (by omega) F G).bind λk aq=>.cond (λ_=>.ret bo) λr=>.ret ⟨cZ (by omega),?_⟩)) λr=>by simp_all
  rcases aq with⟨_,lc,J,K,L⟩|⟨M,_⟩
  ·grind
  simp_all
 ·obtain⟨D,E⟩:=c
  obtain⟨g,f⟩:=f
  simp only at g;subst g
  exact .cond (λr=>by grind) λ_=>.ret f
 rcases e with q|q
 ·obtain⟨n,iy,a,p⟩:=C
  have N:=a.r.len a.ok
  simp only[cd]
  refine .eq (agf (by omega)) ?_
  rw[a.r.qH]
  exact(aiu i aF a).bind λO _=>.cond (λ_=>.ret ⟨bP,next,b,by omega⟩) λ_=>.ret ⟨n,iy,a,p⟩
 simp only[cl]
 exact .ret ⟨bP,next,b,by omega⟩
def ahr(e:ch s){d:dB}(j:gv d):aM (zk d s) (λf=>gv f.2∧pT s f.1):=by
 unfold zk;refine .bind (gV d 4 j (by omega)) λr g=>.bind (P:=λ_=>True) ⟨_,mj g.2.1 (by simp_all),cq⟩ λA _=>.bind (gV _ 4 g.1 (by omega)) λb l=>.bind (aM.par (ah2 b.2 b.1 l.1 e) (ain b.2 e b.1)) λB m=>.eq o ?_;obtain⟨⟨n,k,h,_,a⟩,p⟩:=m;refine .bind (P:=λi=>pT s i) (.cond (λ_=>.eq o (.eq o (.ret ⟨⟨k,h,a.ev,a.len,a.wY,by simp,a.pri⟩,λc=>by rcases c with c|c <;> cases c⟩))) λ_=>.ret ⟨⟨k,h,a⟩,p⟩) λi q=>.ret ⟨n,q⟩
def Sq(y:cR)(b:aI)(d:dB)(a:eQ):aw (dB×eQ):=
 cond b (
  (gi d (S y.b8:Int)).bind λe=>
  (idx (S y.b8) e.1).bind λc=>
  (cond (a.cO==3) (
   (U (({({((al y.b8 c).aS)with dR:=0}:bg)with eX:=([]:R aW)}:bg))).bind λf=>
   U f) (
   (cond ((((al y.b8 c).aS).bZ)==a.aS.bZ) (
    (U (({((al y.b8 c).aS)with dR:=a.aS.dR}:bg))).bind λg=>
    U ({g with eX:=a.aS.eX}:bg)) (
    U ((al y.b8 c).aS))).bind λh=>
   U h)).bind λi=>
  U (e.2,({a with aS:=i}:eQ))) (
  U (d,a))
def Sr(y:cR)(c:dB):aw (dB×eQ):=
 (zk c y.jA).bind λa=>(cond (V ((V ((S y.b8:Int)>0))=X)) (lj a.2) (U (b1,a.2))).bind λb=>Sq y ((V ((S y.b8:Int)>0))&&b.1) b.2 a.1
def H2(y:cR)(c:dB):Nat->aw (dB×R eQ)
 |0=>U (c,[])
 |k+1=>(H2 y c k).bind λa=>(Sr y a.1).bind λb=>U (b.1,a.2++[b.2])
def Ss(y:cR)(b:dB)(c:Int):aw (dB×R eQ):=
 (gi b (aV (c+1))).bind λa=>H2 y a.2 a.1.toNat
def ald(E:ch s)(h:fH s bP next y){b:aI}(q:b=X->0<S y.b8){l:dB}(m:gv l){n:eQ}(i:pT s n):aM (Sq y b l n) (λp=>gv p.1∧pT s p.2):=by
 unfold Sq;refine .cond (λd=>?_) λ_=>.ret ⟨m,i⟩;have F:=q d;obtain⟨G,H,r⟩:=i.dS;refine .bind (gV _ _ m (by omega)) λA j=>.eq (mj j.2.1 j.2.2.1) ?_;have B:A.1.toNat<S y.b8:=by omega
 obtain⟨e,f,C,a⟩:=h.r.dS h.ok (qj B);have D:=(h.arg e f _ C).1;refine .bind (P:=λc=>(∃k,k<4∧fu s k c)∧kY c) (.cond (λ_=>.eq o (.ret ⟨⟨e,f,a.dS.ev,a.dS.len,a.dS.wY,by simp,a.dS.pri⟩,λd=>by rcases d with d|d <;> cases d⟩)) λ_=>.bind (P:=λc=>(∃k,k<4∧fu s k c)∧kY c) (.cond (λ_=>.eq o (.ret ⟨⟨e,f,a.dS.ev,a.dS.len,a.dS.wY,r.args,a.dS.pri⟩,i.arg⟩)) λ_=>.ret ⟨⟨e,f,a.dS⟩,D⟩) λc g=>.ret g) λc g=>.ret ⟨j.1,g.1,g.2⟩
def Wf(F:ch s)(l:fH s bP next y)(aC:aL Cell){m:dB}(A:gv m){d:Int}(aQ:0<=d∧d<=100):
 cB (B5 aC m y d) (λa=>Ss y m d=U (a.2.1,a.1)∧a.2.2=aC∧gv a.2.1∧(S a.1:Int)<=d∧∀f∈a.1,pT s f):=by
 unfold B5
 have K:aV (d+1)=d+1:=eU (by omega) (by omega)
 refine Dq (gV m _ A (by omega)) λn aj B=>?_
 obtain⟨B,G,L,_⟩:=B
 rw[K]at L
 obtain⟨g,M⟩:∃g:Nat,n.1=(g:Int):=⟨n.1.toNat,by omega⟩
 have ak:=l.r.len l.ok
 refine .bind (P:=λe=>H2 y n.2 g=U (e.1,e.2)∧gv e.1∧S e.2=g∧∀f∈e.2,pT s f) (ce g (λo c=>c.1=(g:Int)-(o:Int)∧H2 y n.2 o=U (c.2.1,c.2.2)∧gv c.2.1∧S c.2.2=o∧∀f∈c.2.2,pT s f) (by omega) ⟨by simp[M],rfl,B,rfl,λf N=>by grind⟩ (λo c al C=>?_) λc C=>?_) λe D=>.ret ⟨?_,rfl,D.2.1,by grind,D.2.2.2⟩
 ·obtain⟨O,E,sW⟩:=c
  obtain⟨h,p,i,j,q⟩:=C
  simp only at h p i j q;subst h
  refine .cond (λ_=>?_) λA=>by simp_all
  have Q:aM (zk E y.jA) (λa=>gv a.2∧pT s a.1):=by rw[l.r.qH];exact ahr F i
  refine Dq Q λr R G=>?_
  obtain⟨H,aa⟩:=G
  have ab:aM (cond (V ((V ((S y.b8:Int)>0))=X)) (lj r.2) (U (b1,r.2))) (λa=>gv a.2):=.cond (λ_=>pz _ H) λ_=>.ret H
  refine .bind (P:=λa=>(cond (V ((V ((S y.b8:Int)>0))=X)) (lj r.2) (U (b1,r.2)))=U a∧gv a.2) ?_ λac ad=>?_
  ·obtain⟨a,k,I⟩:=ab
   cases J:V ((V ((S y.b8:Int)>0))=X)with
   |true=>rw[J]at k;exact .of ⟨a,k,k,I⟩
   |false=>rw[J]at k;cases k;exact .ret ⟨rfl,I⟩
  obtain⟨ae,af⟩:=ad
  refine Dq (ald F l (b:=(V ((S y.b8:Int)>0))&&ac.1) (λam=>by simp_all) af aa) λag ah ai=>?_
  refine .eq (eS _ _ (by grind) (by omega)) (.ret ⟨?_,?_,ai.1,by simp[j],λf N=>?_⟩)
  ·grind[eU]
  ·have:Sr y E=U ag:=by unfold Sr;rw[R];simp only[b5];rw[ae];exact ah
   simp_all[H2,b5]
  grind
 ·obtain⟨O,E,sW⟩:=c
  obtain⟨h,p,i,j,q⟩:=C
  simp only at h p i j q;subst h
  exact .cond (λA=>by grind) λ_=>.ret ⟨p,i,j,q⟩
 simp_all[Ss,D]
end
section
variable{s:aU}{role:Int}{y v v1 v2:cR}{l:R eQ}
def KP:∀l:R eQ,l.foldl (sR s role) cn=cn
 |[]=>rfl
 |_::t=>KP t
def lF.pre{a b:R eQ}{d:eQ}(c:lF s role y (a++d::b) v):∃f g,lF s role y a f∧tK s f role d=U (0,g):=by
 have c:(a++d::b).foldl (sR s role) (U y)=U v:=c;rw[Ez,List.foldl_cons]at c;cases h:a.foldl (sR s role) (U y)with
 |none=>rw[h]at c;rw[show sR s role cn d=cn from rfl,KP]at c;cases c
 | some f=>
   rw[h]at c
   cases i:tK s f role d with
   |none=>simp_all[sR,KP]
   | some j=>
     obtain⟨e,g⟩:=j
     by_cases k:e=0
     ·subst k;exact⟨f,g,h,i⟩
     simp_all[sR,KP]
def lF.at{a b:Nat}(aQ:a<b)(h:b<=S l)(c:lF s role y (l.take b) v):∃d f,lF s role y (l.take a) d∧tK s d role (al l a)=U (0,f):=by
 have e:l.take b=l.take a++al l a::(l.take b).drop (a+1):=by
  have g:(l.take b).take a=l.take a:=by grind
  conv=>lhs;rw[<-rT a (l.take b)]
  rw[g,qa (by rw[oz];omega),EC,dI _ (by omega)]
 rw[e]at c;exact c.pre
def DQ.pU{i e j m:Int}(d:DQ s role v l i e v1)(k:DQ s role v l j m v2):i=j∧e=m∧v1=v2:=by
 have E:∀{a b:Nat} {c f n:cR} {e:Int},a<b->b<=S l->e≠0->lF s role v (l.take a) c->tK s c role (al l a)=U (e,f)->lF s role v (l.take b) n->False:=λ{a b c f n e} aQ o p g q r=>by
  obtain⟨A,B,C,F⟩:=r.at aQ o;have:=g.pU C;simp_all
 rcases d with⟨rfl,rfl,d⟩|⟨p,rfl,a,c,f,aQ,rfl,g,q⟩ <;> rcases k with⟨rfl,rfl,k⟩|⟨G,rfl,b,A,B,o,rfl,D,H⟩
 ·exact⟨rfl,rfl,d.pU k⟩
 ·grind[ci]
 ·grind[ci]
 rcases ED a b with h|h|h
 ·grind
 ·subst h;have:=g.pU D;simp_all
 grind
def H3(s:aU)(role:Int)(y:cR)(l:R eQ)(a e:Int)(gI:cR):Prop:=
 (s.kB<(S l:Int)∧a=0∧e=24∧gI=y)∨((S l:Int)<=s.kB∧DQ s role y l a e gI)
def H3.pU{b e c d:Int}(a:H3 s role v l b e v1)(k:H3 s role v l c d v2):b=c∧e=d∧v1=v2:=by
 rcases a with⟨f,rfl,rfl,rfl⟩|⟨f,a⟩ <;> rcases k with⟨g,rfl,rfl,rfl⟩|⟨g,k⟩
 ·simp_all
 ·omega
 ·omega
 exact a.pU k
def DR(a:dB):aI:=V (a.du<(S a.cw:Int))
def tW(s:aU)(f:dB):Nat->cR->dB->cR->Prop
 |0,y,b,v=>y=⟨s,[],1⟩∧b=f∧v=⟨s,[],1⟩
 |k+1,y,b,v=> ∃c d g l a h e,tW s f k c d g∧DR d=X∧Ss c d 4=U (b,l)∧Ck c 1 l=U a∧a.2.2=y∧H3 s 1 g l h e v
def tW.pU{n:dB}:∀{k:Nat} {y o v gI p q},tW s n k y o v->tW s n k gI p q->y=gI∧o=p∧v=q
 |0,_,_,_,_,_,_,⟨d,r,g⟩,⟨h,A,c⟩=>⟨d.trans h.symm,r.trans A.symm,g.trans c.symm⟩
 | k+1,_,_,_,_,_,_,⟨atc,c1,v0,l,a,i,e,d,r,g,nJ,nM,lU⟩,⟨z0,d1,atd,m,b,j,f,h,A,c,iw,lG,nd⟩=>by
   obtain⟨rfl,rfl,rfl⟩:=d.pU h;rw[g]at c;cases c;rw[nJ]at iw;cases iw;exact⟨nM.symm.trans lG,rfl,(lU.pU nd).2.2⟩
def H4(s:aU)(b:dB)(y:cR)(a:dB)(v:cR):Prop:=∃k,k<=6∧tW s b k y a v∧(k<6->DR a=Z)
def tW.low{d:dB}:∀{k b:Nat} {y h v},tW s d k y h v->b<k->∃f c g,tW s d b f c g∧DR c=X
 | k+1,b,_,_,_,⟨f,c,g,l,a,j,e,i,m,n,o,p,q⟩,r=>by
   by_cases A:b=k
   ·grind
   exact i.low (by omega)
def H4.pU{f a d:dB}{y gI v e:cR}(i:H4 s f y a v)(k:H4 s f gI d e):y=gI∧a=d∧v=e:=by
 have q:∀{b c:Nat} {y a v gI d e},b<c->c<=6->tW s f b y a v->(b<6->DR a=Z)->tW s f c gI d e->False:=λ{b c y a v gI d e} j l g m n=>by
  obtain⟨r,A,B,o,C⟩:=n.low j;obtain⟨_,rfl,_⟩:=g.pU o;grind
 obtain⟨b,D,g,m⟩:=i;obtain⟨c,l,p,E⟩:=k;rcases ED b c with h|h|h
 ·grind
 ·subst h;exact g.pU p
 grind
end
structure HB(s:aU):Prop where
 aR:ch s
 MH:A8 s
 aF:hC s
 A2:s.dh=[]
 p2:2<=s.kB∧s.kB<=9
 pm:∀u,pT s u->aM (tg s 1 u) λ_=>True
 asI:∀u,pT s u->aM (zK s 1 u) λ_=>True
section
variable{s:aU}{aC:aL Cell}{P:kV}{bP:Nat->R aJ}{next:Int}{y v:cR}
def Qm(a:HB s)(e:fS s aC P bP next [])(f:fH s bP next v)(aQ:next<90000){l:R eQ}(k:S l<=100)(g:∀b∈l,pT s b):
 cB (px aC (U P.x) s 1 l) (λc=> ∃d h next',H3 s 1 v l c.1 c.2.1 d∧fS s c.2.2 P h next' []∧fH s h next' d∧next'<=next+S l):=by
 by_cases i:(S l:Int)<=s.kB
 ·exact(alb a.aR a.MH a.aF a.A2 e f aQ i k λb j=>⟨g b j,a.pm b (g b j)⟩).mono λc ⟨d,m,iy,n,o⟩=>⟨d,m,iy,.inr ⟨i,n⟩,o⟩
 unfold px
 exact .cond (λ_=>.ret ⟨v,bP,next,.inl ⟨by omega,rfl,rfl,rfl⟩,e,f,by omega⟩) λp=>by simp_all
def Wg(b:HB s)(aC:aL Cell){Y:Nat->Prop}(Q:∀q,Y q->q∈dy aC){k:dB}(R:gv k):
 cB (Ca aC s k) (λg=> ∃P v bP next h2 iy,g.1=U P.x∧P.y=Y∧P.f=pat aC∧fS s g.2.2.2 P bP next []∧fH s bP next v∧next<=25∧H4 s k g.2.1 g.2.2.1 v∧gv g.2.2.1∧fH s h2 iy g.2.1∧iy<=25):=by
 have D:=apw b.aR b.aF
 unfold Ca
 refine .bind (YR b.aR b.aF aC Q) λE m=>?_
 obtain⟨P,F,m,aa,ab,_⟩:=m
 obtain⟨E,aD⟩:=E
 simp only at F m;subst F
 refine .eq (a:=(⟨s,[],1⟩:cR)) o ?_
 refine .bind (P:=λe=> ∃v bP next h2 iy,fS s e.2.2 P bP next []∧fH s bP next v∧next<=25∧H4 s k e.1 e.2.1 v∧gv e.2.1∧fH s h2 iy e.1∧iy<=25)
  (ce 6 (λd c=>c.1=(d:Int)∧∃v bP next h2 iy,tW s k d c.2.1 c.2.2.1 v∧gv c.2.2.1∧fS s c.2.2.2 P bP next []∧fH s bP next v∧next<=1+4*d∧fH s h2 iy c.2.1∧iy<=1+4*d) (by omega) ⟨rfl,⟨s,[],1⟩,_,1,_,1,⟨rfl,rfl,rfl⟩,R,m,D,by simp,D,by simp⟩ (λd c aE A=>?_) λc A=>?_) λe ac=>?_
 ·obtain⟨ad,G,n,H⟩:=c
  obtain⟨l,v,bP,next,h2,iy,h,i,j,p,ae,f,af⟩:=A
  simp only at l h i j f;subst l
  refine .eq (a:=DR n) (by show bs (V ((d:Int)<6)) X _=_;rw[xl (by omega)];rfl) ?_
  show cB (cond (V ((d:Int)<6)&&DR n) _ _) _
  rw[xl (by omega),tb]
  refine .cond (λB=>?_) λB=>.ret ⟨v,bP,next,h2,iy,j,p,by omega,⟨d,by omega,h,λ_=>B⟩,i,f,by omega⟩
  refine .bind (Wf b.aR f H i (by omega)) λag ah=>?_
  obtain⟨ai,aF,aG⟩:=ag
  obtain⟨I,J,K,aj,r⟩:=ah
  simp only at I J K aj r;subst J
  refine .bind (Qm b j p (by omega) (by grind) r) λak al=>?_
  obtain⟨am,an,aH⟩:=ak
  obtain⟨ao,lc,ap,L,M,aq,ar⟩:=al
  simp only at L M ar
  refine Dq (aiv b.aR b.MH b.aF f (by omega) (role:=1) (by grind) λC N=>⟨r C N,b.asI C (r C N)⟩) λau av aw=>?_
  obtain⟨ax,ay,az,aA⟩:=aw
  simp only at aA
  exact .ret ⟨cZ (by omega),ao,lc,ap,ax,ay,⟨G,n,v,ai,au,am,an,h,B,I,av,rfl,L⟩,K,M,aq,by omega,az,by omega⟩
 ·obtain⟨ad,G,n,H⟩:=c
  obtain⟨l,v,bP,next,h2,iy,h,i,j,p,ae,f,af⟩:=A
  simp only at l h i j f;subst l
  refine .eq (a:=Z) o (.cond (λaB=>by cases aB) λ_=>.ret ⟨v,bP,next,h2,iy,j,p,by omega,⟨6,by omega,h,λO=>by omega⟩,i,f,by omega⟩)
 obtain⟨v,bP,next,h2,iy,O⟩:=ac
 exact .ret ⟨P,v,bP,next,h2,iy,rfl,aa,ab,O⟩
def ug.mk'{qN nS:kV}{sW oq:Nat->R aJ}{k6 jQ:Int}{c:aL Cell}{b:Nat->Prop}(m:∀q,b q->q∈dy c)(g:wR s c qN sW k6 [] b)(d:fS s aC nS oq jQ [])(e:nS.y=b)(n:nS.f=pat c):ug s aC qN.x nS.x sW k6 oq jQ:=by
 obtain⟨h,f,i⟩:=d.RY;have j:∀q,b q->pat aC q=pat c q:=λq a=>by have:=(d.pe q (e▸a)).1;simp_all
 have k:∀q,b q->q∈dy aC:=λq a=>d.kJ.lD q (.inr (.inr (.inr (.inr (e▸a)))));exact⟨qN,nS,rfl,rfl,b,h,λq a=>⟨k q a,λl=>(f q l).2 (e▸a)⟩,λq a=>(f q a).1,g.to j,i⟩
def af1(aC:aL Cell)(ad ae:R (cE 8))(aI:∀af,gv af->hf (oB af) λg=>HB {g.1 with dh:=[]}):cB (Fj aC ad ae) (λg=>g.1=X):=by
 unfold Fj;refine .kZ (K8 ad 120 (by omega) (by omega)) λah ai=>Dq (O7 ah ai) λr aJ _=>?_;have d:HB ({r.1 with dh:=([]:R fz)}:aU):=aI ah ai _ aJ;refine Dq (K8 ae 220 (by omega) (by omega)) λbl aK aj=>?_;have bm:r.1.kB<=9:=d.p2.2;have bn:2<=r.1.kB:=d.p2.1;generalize bo:({r.1 with dh:=([]:R fz)}:aU)=s at d⊢;have ak:s.kB=r.1.kB:=by grind
 refine .bind (Wg d aC (Y:=λ_=>False) (λq h=>h.elim) aj) λaM aN=>?_;obtain⟨bp,ek,bq,aO⟩:=aM;obtain⟨qN,v,sW,k6,br,iy,am,_,_,an,aP,bs,ao,ap,aq,bt⟩:=aN;simp only at am an ao ap aq;subst am;refine .eq aK ?_;obtain⟨aR,F,K⟩:=an.RY;refine .bind (Wg d aO (Y:=aR) (λq h=>(F q h).1) aj) λaS aT=>?_;obtain⟨bu,bv,bw,aV⟩:=aS;obtain⟨nS,bx,oq,jQ,bz,bA,ar,aW,aX,au,aY,bB,av,_,_,_⟩:=aT;simp only at ar au av;subst ar;obtain⟨_,_,rfl⟩:=ao.pU av;have aZ:=ug.mk' (λq h=>(F q h).1) K au aW aX;refine .bind (Wf d.aR aq aV ap (by omega)) λa0 a1=>?_;obtain⟨l,bC,a2⟩:=a0;obtain⟨_,aw,_,a3,L⟩:=a1;simp only at aw a3 L;subst aw;obtain⟨M,ax,a4,a5⟩:=aZ.one;show cB (b3 (px a2 (U qN.x) s 1 l) _) _;rw[<-ax];refine .bind (Qm d a4 aP (by omega) (by omega) L) λa6 a7=>?_;obtain⟨ay,k,bD⟩:=a6;obtain⟨N,az,i,A,aA,aB,bE⟩:=a7;simp only at A aA;have A:DQ s 1 v l ay k N:=by
  rcases A with⟨h,_⟩|⟨_,h⟩
  ·omega
  omega
 have aD:=a5 _ _ _ aA;rw[<-ax]at aD;refine .bind (P:=λe=>match e with
  | .inl q=>ay=0∧k=0∧∃oq jQ,ug s q M.x nS.x az i oq jQ∧fH s oq jQ N
  | .inr q=>q.1=X)
  (ce (S l) (λb m=>m.1=(b:Int)∧∃B oq jQ,lF s 1 v (l.take b) B∧ug s m.2 M.x nS.x az i oq jQ∧fH s oq jQ B∧jQ<=25+b) (by omega) ⟨rfl,v,oq,jQ,rfl,aD,aY,by omega⟩ (λb m n O=>?_) λm O=>?_) λe G=>?_
 ·obtain⟨a8,aE⟩:=m;obtain⟨C,B,Q,D,f,c,aa,a9⟩:=O;simp only at C c;subst C;refine .cond (λ_=>.idx o n ?_) λj=>by simp_all
  obtain⟨a_,ab,H,ba⟩:=c.swap.one;show cB (b3 (px aE (U nS.x) s 1 [al l b]) _) _;rw[<-ab];refine .bind (Qm d H aa (by omega) (by simp) λbF aG=>by rw[mF]at aG;rw[aG];exact L _ (qj n)) λbb bc=>?_;obtain⟨bG,bH,bI⟩:=bb;obtain⟨I,bd,be,p,aH,bf,bJ⟩:=bc;simp only at p aH;have bK:=(ba _ _ _ aH).swap;rcases p with⟨h,_⟩|⟨_,p⟩
  ·grind
  rcases p with⟨rfl,rfl,p⟩|⟨G,rfl,bg,F,K,aQ,rfl,E,J⟩
  ·refine .cond (λj=>by cases j) λ_=>.ret ⟨cZ (by omega),I,bd,be,?_,by simp_all,bf,?_⟩
   ·have f:(l.take b).foldl (sR s 1) (U v)=U B:=f;show(l.take (b+1)).foldl (sR s 1) (U v)=U I;rw[VC n,Ez,f];exact p
   grind
  have bh:bg=0:=by simp_all
  subst bh;have E:U I=U F:=E;cases E;obtain⟨rfl,rfl,_⟩:=A.pU (.inr ⟨G,rfl,b,I,K,n,rfl,f,J⟩);refine .cond (λ_=>?_) λj=>by simp_all
  have ac:(((((0:Nat):Int)==0)&&((b:Int)==(b:Int)))&&(k==k))=X:=by simp
  show cB (b3 (cond (V (((((((0:Nat):Int)==0)&&((b:Int)==(b:Int)))&&(k==k))=X))) _ _) _) _;rw[ac];exact .bind (P:=λg=>g.1=X) (.cond (λ_=>Wd _) λj=>by cases j) λg aF=>.ret (by simp_all)
 ·obtain⟨a8,aE⟩:=m;obtain⟨C,B,Q,D,f,c,aa,a9⟩:=O;simp only at C c;subst C;rw[mJ]at f;obtain⟨rfl,rfl,rfl⟩:=A.pU (.inl ⟨rfl,rfl,f⟩);exact .cond (λj=>by grind) λ_=>.ret ⟨rfl,rfl,Q,D,c,aa⟩
 rcases e with q|q
 ·obtain⟨rfl,rfl,Q,D,f,c⟩:=G;obtain⟨bL,E,J,_⟩:=f.one;obtain⟨a_,ab,H,_⟩:=f.swap.one;have ak:=λb (n:b∈N.b8)=>c.r.small d.aR c.ok n;have bM:=c.r.len c.ok;have bi:i=D:=aB.r.num.symm.trans c.r.num;simp only[cd];show cB (b3 (cond X (tc q (U M.x)) _) _) _;rw[<-E];refine .bind (aag d.aR J aB) λbN bj=>?_;subst bj;show cB (b3 (cond X (tc q (U nS.x)) _) _) _;rw[<-ab];refine .bind (aag d.aR H c) λbO bk=>?_;subst bk;refine .eq (a:=X) (aga ak (by grind)) ?_;refine .eq (a:=i) (QM J) (.eq (a:=D) (QM H) ?_);subst bi;have ac:((((0:Int)==0)&&X)&&(i==i))=X:=by simp
  show cB (b3 (cond (V (((((0:Int)==0)&&X)&&(i==i))=X)) _ _) _) _;rw[ac];exact .bind (P:=λg=>g.1=X) (.cond (λ_=>Wd _) λj=>by cases j) λg aF=>.ret (by simp_all)
 simp only[cl];exact .ret G
end
def Qn(g y:eL):aM (Cn g y) (λ_=>True):=by
 unfold Cn;refine .bind (P:=λ_=>True) (bY 3 (λc a=>a.2.1=(c:Int)∧a.1.toNat<=1) (by omega) ⟨rfl,by decide⟩ (λc a d e=>?_) λa e=>?_) λ_ _=>.ret bo
 ·obtain⟨i,k,j⟩:=a;obtain⟨b,f⟩:=e;simp only at b f;subst b;refine .cond (λ_=>.idx o d (.idx o d (.eq (by unfold GY;rw[bT f]) (.idx o d (.eq o (.ret ⟨cZ (by omega),?_⟩)))))) λh=>by grind
  have l:=(cu g.kE c).isLt;have m:=(cu y.kE c).isLt;grind
 obtain⟨i,k,j⟩:=a;obtain⟨b,f⟩:=e;simp only at b;subst b;exact .cond (λh=>by simp at h) λ_=>.ret bo
def Yd(f:eL):aM (F7 f) (λ_=>True):=by
 unfold F7;refine .bind (P:=λ_=>True) (bY 3 (λc a=>a.1=(c:Int)) (by omega) o (λc a d b=>?_) λa b=>?_) λ_ _=>.eq o ((Qn _ _).bind λ_ _=>.ret bo)
 ·obtain⟨k,g⟩:=a;simp only at b;subst b;exact .cond (λ_=>.idx o d (.idx o d (.eq o (.ret (cZ (by omega)))))) λe=>by grind
 obtain⟨k,g⟩:=a;simp only at b;subst b;exact .cond (λe=>by simp at e) λ_=>.ret bo
def Ye(a y:eL):aM (F8 a y) (λ_=>True):=by
 unfold F8;exact(Yd _).bind λ_ _=>(Qn _ _).bind λ_ _=>.ret bo
def Lg(a y:eL):aM (zF a y) (λ_=>True):=by
 unfold zF;exact .cond (λ_=>.ret bo) λ_=>(Ye _ _).bind λ_ _=>.eq o (.cond (λ_=>.ret bo) λ_=>.ret bo)
def KB{a:dg}(b:a≠ .nil):aM (s6 a) (λ_=>True):=by
 cases a with
 |nil=>simp_all
 |_=>exact⟨_,rfl,cq⟩
def ale(c:Int)(d y:eL):aM (Ks c d y) (λb=>b.2=X->b.1≠ .nil):=by
 unfold Ks;refine .cond (λ_=>(Yd _).bind λ_ _=>.ret (λ_ a=>by cases a)) λ_=>.cond (λ_=>(Qn _ _).bind λ_ _=>.ret (λ_ a=>by cases a)) λ_=>.cond (λ_=>(Ye _ _).bind λ_ _=>.ret (λ_ a=>by cases a)) λ_=>?_;refine .cond (λ_=>(Lg _ _).bind λ_ _=>.ret (λ_ a=>by cases a)) λ_=>.cond (λ_=>(Lg _ _).bind λ_ _=>.ret (λ_ a=>by cases a)) λ_=>.cond (λ_=>(Lg _ _).bind λ_ _=>.ret (λ_ a=>by cases a)) λ_=>?_;exact .cond (λ_=>(Lg _ _).bind λ_ _=>.ret (λ_ a=>by cases a)) λ_=>.ret (λa=>by cases a)
def aiw(a:dg){y:dg}(b:y≠ .nil):aM (F9 a y) (λ_=>True):=by
 unfold F9;exact .cond (λ_=>.eq o (.ret bo)) λ_=>.cond (λ_=>.eq o ((KB b).bind λ_ _=>.ret bo)) λ_=>.ret bo
def agP(g:Int){c y:dg}(h:c≠ .nil)(e:y≠ .nil):aM (JR g c y) (λi=>i≠ .nil):=by
 unfold JR;refine .eq o (.eq o ((ale _ _ _).bind λk j=>.cond (λa=>.ret (j a)) λ_=>?_));have f:=aiw c e;have b:=KB h;have d:=KB e;refine .cond (λ_=>f.bind λ_ _=>.ret (λa=>by cases a)) λ_=>.cond (λ_=>f.bind λ_ _=>.ret (λa=>by cases a)) λ_=>.cond (λ_=>b.bind λ_ _=>.ret (λa=>by cases a)) λ_=>?_;refine .cond (λ_=>b.bind λ_ _=>.bs (λ_=>d) λ_ _=>.ret (λa=>by cases a)) λ_=>.cond (λ_=>b.bind λ_ _=>.bs (λ_=>d) λ_ _=>.ret (λa=>by cases a)) λ_=>?_;exact b.bind λ_ _=>.bs (λ_=>d) λ_ _=>.ret (λa=>by cases a)
def ahs(e:de){b:R h5}(g:S b<=4000):aM (JU e b) (λ_=>True):=by
 unfold JU;refine a' (S b) (λd a=>a=(d:Int)) (by omega) o (λd a f c=>?_) λa c=>?_
 ·subst c;exact .cond (λ_=>.idx o f (.eq o (.cond (λ_=>.eq o (.ret (.ret bo))) λ_=>.ret (cZ (by omega))))) λh=>by simp_all
 subst c;exact⟨.inl (),by simp,.eq o (.ret bo)⟩
def QN(b:Int){l:R dg}(c:∀d∈l,d≠ .nil):aM (zn b l) (λe=>e≠ .nil):=by
 unfold zn;refine .cond (λ_=>.ret (λa=>by cases a)) λa=>?_;simp only[Em,qb]at a;refine .eq (mj (by omega) (by omega)) (.ret (c _ ?_));simp_all[dI]
def Wh{t:R de}(L:S t<=1000){b:R h5}(C:S b<=4000):aM (zP t b) (λ_=>True):=by
 unfold zP;refine .bind (P:=λe=> ∀a∈e.1,a≠ .nil) (bY (S t) (λg h=>h.1=(g:Int)∧S h.2.1=g∧∀a∈h.2.1,a≠ .nil) (by omega) ⟨rfl,rfl,λa i=>by grind⟩ (λg h D p=>?_) λh p=>?_) λe E=>(QN _ E).bind λy F=>(KB F).bind λ_ _=>.ret bo
 ·obtain⟨k,l,G⟩:=h;obtain⟨m,q,j⟩:=p;simp only at m q j;subst m;have n:∀a:dg,a≠ .nil->∀{r:aB} {A:R dg->aw r} {B:r->Prop},(∀c:R dg,(S c=g+1∧∀a∈c,a≠ .nil)->aM (A c) B)->aM ((dA 16 l [a]).bind A) B:=λa i {r A B} H=>.eq (eS _ _ (by grind) (by omega)) (H _ ⟨by simp[q],λc d=>by
   grind⟩)
  refine .cond (λ_=>.idx o D (.bind (P:=λa=>S a.1=g+1∧∀c∈a.1,c≠ .nil) (.cond (λ_=>.eq o (n _ (λf=>by cases f) λc d=>.ret d)) λ_=>.bind (P:=λa=>S a.1=g+1∧∀c∈a.1,c≠ .nil) (.cond (λ_=>.eq o (n _ (λf=>by cases f) λc d=>.ret d)) λ_=>.bind (P:=λa=>S a.1=g+1∧∀c∈a.1,c≠ .nil) (.cond (λ_=>(ahs _ C).bind λ_ _=>n _ (λf=>by cases f) λc d=>.ret d) λ_=>(QN _ j).bind λM I=>(QN _ j).bind λN J=>(agP _ I J).bind λO K=>n _ K λc d=>.ret d) λa i=>.ret i) λa i=>.ret i) λa i=>.ret ⟨cZ (by omega),i⟩)) λf=>by simp_all
 obtain⟨k,l,G⟩:=h;obtain⟨m,q,j⟩:=p;simp only at m j;subst m;exact .cond (λf=>by simp at f) λ_=>.ret j
def kK(a:Nat)(b:gz):Prop:=S b.nq<=a
def KQ(b:aI){l:R Int}{n:Nat}(i:S l<=n)(aQ:n<=1000):aM (xF b l) (kK n):=by
 unfold xF;refine .bind (P:=λe=>S e<=n) (bY (S l) (λf c=>S c+f=S l) (by omega) o (λf c j g=>?_) λc g=>?_) λe h=>.eq o (.ret h)
 ·refine .bs (P:=λ_=>True) (λd=>?_) λk _=>.cond (λd=>.eq (a:=c.take (S c-1)) ?_ (.ret ?_)) λ_=>.ret (by omega)
  ·simp only[ik]at d;refine⟨S c-1,?_,cq⟩;rw[eU (by omega) (by omega),show((S c:Int)-1)=((S c-1:Nat):Int) by omega];exact lo (by omega)
  ·simp only[hx,ik]at d;rw[eU (by omega) (by omega),show((S c:Int)-1)=((S c-1:Nat):Int) by omega];exact Xk _ (by omega)
  grind
 have:c=[]:=MY (by omega);subst this;exact .bs (P:=λ_=>True) (λd=>by simp at d) λ_ _=>.cond (λd=>by simp at d) λ_=>.ret (by simp)
def Qo(b:R Int){a:Int}(c:0<=a):aM (CC b a) (λ_=>True):=by
 unfold CC;exact .cond (λd=>.eq (mj c (by simp_all)) (.ret bo)) λ_=>.ret bo
def ajF{b y:R Int}{c:Nat}(p:S b<=c)(q:S y<=c)(aQ:c<=900):aM (Kb b y) (λi=>S i<=c+1):=by
 unfold Kb;have r:aV (max (S b:Int) (S y:Int)+1)=((max (S b) (S y)+1:Nat):Int):=by grind[eU]
 refine .bind (P:=λe=>S e<=c+1) (bY (max (S b) (S y)+1) (λg a=>a.2.1=(g:Int)∧S a.2.2=g) (by omega) ⟨rfl,rfl⟩ (λg a A h=>?_) λa h=>?_) λe j=>.ret j
 ·obtain⟨m,k,l⟩:=a;obtain⟨d,f⟩:=h;simp only at d f;subst d;refine .eq o (.cond (λ_=>(Qo _ (by simp_all)).bind λ_ _=>(Qo _ (by simp_all)).bind λ_ _=>.eq (by rfl) (.eq (eS _ _ (by grind) (by omega)) (.eq (by rfl) (.ret ⟨cZ (by omega),by simp[f]⟩)))) λn=>by grind)
 obtain⟨m,k,l⟩:=a;obtain⟨d,f⟩:=h;simp only at d f;subst d;exact .eq o (.cond (λn=>by simp_all) λ_=>.ret (by grind))
def Wi{b:R Int}(y:R Int)(p:S b<=1000):aM (F5 b y) (λi=>S i<=S b):=by
 unfold F5;refine .bind (P:=λe=>S e<=S b) (bY (S b) (λf a=>a.2.1=(f:Int)∧S a.2.2=f) (by omega) ⟨rfl,rfl⟩ (λf a j g=>?_) λa g=>?_) λe m=>.ret m
 ·obtain⟨n,k,l⟩:=a;obtain⟨c,d⟩:=g;simp only at c d;subst c;exact .cond (λ_=>.idx o j ((Qo _ (by simp_all)).bind λ_ _=>.bind (P:=λ_=>True) (.cond (λ_=>.ret bo) λ_=>.ret bo) λ_ _=>.eq (eS _ _ (by grind) (by omega)) (.ret ⟨cZ (by omega),by simp[d]⟩))) λh=>by simp_all
 obtain⟨n,k,l⟩:=a;obtain⟨c,d⟩:=g;simp only at c d;subst c;exact .cond (λh=>by simp at h) λ_=>.ret (by simp_all)
def ajG(a y:R Int)(i:S a<=1000):aM (JC a y) (λ_=>True):=by
 unfold JC;refine .cond (λ_=>.cond (λ_=>.ret bo) λ_=>.ret bo) λc=>?_;have c:S a=S y:=by grind
 have g:aV ((S a:Int)-1)=(S a:Int)-1:=eU (by omega) (by omega);rw[g];refine a' (S a) (λb d=>d=(S a:Int)-1-(b:Int)) (by omega) (by simp) (λb d j e=>?_) λd e=>?_
 ·subst e;obtain⟨f,h⟩:∃f:Nat,(S a:Int)-1-(b:Int)=(f:Int):=⟨S a-1-b,by omega⟩;rw[h];refine .cond (λ_=>.idx o (by omega) (.idx o (by omega) (.cond (λ_=>.idx o (by omega) (.idx o (by omega) (.cond (λ_=>.ret (.ret bo)) λ_=>.ret (.ret bo)))) λ_=>.ret ?_))) λc=>by simp at c
  grind[eU]
 subst e;exact⟨.inl (),by grind,.ret bo⟩
def KR{a b:gz}{n:Nat}(c:kK n a)(d:kK n b)(aQ:n<=900):aM (vO a b) (kK (n+1)):=by
 have h:S a.nq<=n:=c;have i:S b.nq<=n:=d;unfold vO;refine .cond (λ_=>(ajF c d aQ).bind λj f=>(KQ _ f (by omega)).bind λe aF=>.ret aF) λ_=>(ajG _ _ (by omega)).bind λ_ _=>.cond (λ_=>(Wi _ (by omega)).bind λy g=>(KQ (n:=n+1) _ (by omega) (by omega)).bind λe aF=>.ret aF) λ_=>(Wi _ (by omega)).bind λy g=>(KQ (n:=n+1) _ (by omega) (by omega)).bind λe aF=>.ret aF
def Xm{a:gz}{b:Nat}(c:kK b a)(aQ:b<=1000):aM (Gj a) (kK b):=by
 unfold Gj;exact(KQ _ c aQ).bind λd aF=>.ret aF
def Xn{a b:gz}{c:Nat}(d:kK c a)(e:kK c b)(aQ:c<=900):aM (Gl a b) (kK (c+1)):=by
 unfold Gl;exact(Xm e (by omega)).bind λy f=>(KR d f aQ).bind λg aF=>.ret aF
def agh{a b:gz}{c:Nat}(d:kK c a)(e:kK c b)(aQ:c<=900):aM (zG a b) (λ_=>True):=by
 unfold zG;exact(Xn d e aQ).bind λy _=>.cond (λ_=>.ret bo) λ_=>.cond (λ_=>.ret bo) λ_=>.ret bo
def abO:tk 0=U ⟨Z,[]⟩:=by rfl
def rI:tk 1=U ⟨Z,[1]⟩:=by rfl
def Wj(v:aW):aM (Gd v) (kK 300):=by
 unfold Gd;refine(v8 v).bind λp _=>.eq abO ?_;refine .bind (P:=kK 300) (bY 128 (λa b=>b.1=127-(a:Int)∧kK (1+2*a) b.2) (by omega) ⟨rfl,by simp[kK]⟩ (λa b q f=>?_) λb f=>?_) λe i=>.ret i
 ·obtain⟨k,j⟩:=b;obtain⟨c,d⟩:=f;simp only at c d;subst c;obtain⟨g,l⟩:∃g:Nat,(127:Int)-(a:Int)=(g:Int):=⟨127-a,by omega⟩;refine .cond (λ_=>(KR d d (by omega)).bind λr m=>.idx l (by omega) (.bind (P:=kK (1+2*(a+1))) (.cond (λ_=>.eq rI ((KR (n:=1+2*a+1) m (by simp[kK]) (by omega)).bind λA aF=>.ret aF)) λ_=>.ret (by grind[kK])) λB o=>.ret ⟨?_,o⟩)) λh=>by simp_all
  grind[eU]
 obtain⟨k,j⟩:=b;obtain⟨c,d⟩:=f;simp only at c d;subst c;exact .cond (λh=>by simp at h) λ_=>.ret (by grind[kK])
def D2(b:Int)(a:dw):Prop:=(0<=a.fr∧0<=a.gm)∧((a.fr<b∧a.gm<b)∨((a.cm=1∨a.cm=2∨a.cm=3)∧a.fr=0∧a.gm=0))
def A9(l:R dw):Prop:=∀a,a<S l->D2 a (al l a)
section
variable{t:R dw}{b:R gj}
def Vg(q:A9 t)(A:S b<=4000):∀{n g:Nat} {a:Int},n<=200->n<=g->0<=a->a<n->a<S t->aM (se g t a b) (kK (300+n))
 |0,_,_,_,_,_,c,_=>by omega
 |n+1,0,_,_,B,_,_,_=>by omega
 | n+1,g+1,a,aQ,B,C,r,h=>by
   have e:∀{i:Int},0<=i->i<a->aM (se g t i b) (kK (300+n)):=λD G=>Vg q A (by omega) (by omega) D (by omega) (by omega);have aq:=q a.toNat (by omega);unfold D2 at aq;have j:∀{d:gz} {k:Nat},k<=300+(n+1)->kK k d->kK (300+(n+1)) d:=λr h=>mK h r;unfold se;refine .eq (mj C h) (.cond (λ_=>(Wj _).bind λd aF=>.ret (j (by omega) aF)) λ_=>.cond (λc=>?_) λ_=>.cond (λc=>?_) λ_=>.cond (λc=>?_) λ_=>?_)
   ·simp only[l1]at c;exact(e (by omega) (by omega)).bind λy f=>(Xm f (by omega)).bind λd aF=>.ret (j (by omega) aF)
   ·simp only[l1]at c;exact(e (by omega) (by omega)).bind λy f=>(e (by omega) (by omega)).bind λE l=>(KR f l (by omega)).bind λd aF=>.ret aF
   ·simp only[l1]at c;exact(e (by omega) (by omega)).bind λy f=>(e (by omega) (by omega)).bind λE l=>(Xn f l (by omega)).bind λd aF=>.ret aF
   refine a' (S b) (λa m=>m=(a:Int)) (by omega) o (λa m F p=>?_) λm p=>?_
   ·subst p;exact .cond (λ_=>.idx o F (.eq o (.cond (λ_=>(Wj _).bind λd aF=>.ret (.ret (j (by omega) aF))) λ_=>.ret (cZ (by omega))))) λc=>by simp_all
   subst p;exact⟨.inl (),by simp,.eq abO (.ret (by simp[kK]))⟩
def Wk(g:A9 t)(q:S t<=200)(j:S b<=4000):∀{m:Nat} {a:Int},0<=a->a<m->a<S t->aM (oF m t a b) (λ_=>True)
 |0,_,_,d,_=>by omega
 | m+1,a,r,E,A=>by
   have c:∀{f:Int},0<=f->f<a->aM (oF m t f b) (λ_=>True):=λh k=>Wk g q j h (by omega) (by omega);have l:∀{f:Int},0<=f->f<S t->aM (FT t f b) (kK 500):=λh k=>Vg (n:=200) g j (by omega) (by simp_all[bX]) h (by omega) k;have aq:=g a.toNat (by omega);unfold D2 at aq;unfold oF;refine .eq (mj r A) (.cond (λ_=>.ret bo) λB=>.cond (λd=>?_) λ_=>.cond (λd=>?_) λ_=>.cond (λd=>?_) λ_=>.cond (λd=>?_) λ_=>?_)
   ·simp only[l1]at d;exact(c (by omega) (by omega)).bind λ_ _=>.ret bo
   ·simp only[l1]at d;exact(c (by omega) (by omega)).bind λ_ _=>.bs (λ_=>c (by omega) (by omega)) λ_ _=>.ret bo
   ·simp only[l1]at d;exact(c (by omega) (by omega)).bind λ_ _=>.bs (λ_=>c (by omega) (by omega)) λ_ _=>.ret bo
   ·simp only[l1]at d;exact(c (by omega) (by omega)).bind λ_ _=>.bs (λ_=>c (by omega) (by omega)) λ_ _=>.ret bo
   simp only[Ip,ne_eq]at B;have i:(al t a.toNat).fr<S t∧(al t a.toNat).gm<S t:=by omega
   refine .eq (mj (by omega) i.1) (.eq o (.cond (λe=>?_) λ_=>(l (by omega) i.1).bind λy C=>(l (by omega) i.2).bind λF D=>(agh C D (by omega)).bind λ_ _=>.cond (λ_=>.ret bo) λ_=>.cond (λ_=>.ret bo) λ_=>.cond (λ_=>.ret bo) λ_=>.cond (λ_=>.ret bo) λ_=>.cond (λ_=>.ret bo) λ_=>.ret bo));have p:(al t a.toNat).fr<a∧(al t a.toNat).gm<a:=by
    grind
   exact(c (by omega) p.1).bind λ_ _=>(c (by omega) p.2).bind λ_ _=>.ret bo
end
def Wl(e:aW){m:Nat}(f:m<=128):aM (Gb e m) (λ_=>True):=by
 unfold Gb;refine(v8 e).bind λg _=>.eq (a:=(m:Int)) (by grind[uy]) (.bind (P:=λ_=>True) (bY (128-m) (λd b=>b.1=((m+d:Nat):Int)) (by omega) o (λd b h c=>?_) λb c=>?_) λi _=>(GP _).bind λ_ _=>.ret bo)
 ·obtain⟨k,v⟩:=b;simp only at c;subst c;exact .cond (λ_=>.idx (k:=d) (by grind[eU]) (by omega) (.idx o (by omega) (.ret (cZ (by omega))))) λf=>by grind
 obtain⟨k,v⟩:=b;simp only at c;subst c;exact .cond (λf=>by simp_all) λ_=>.ret bo
def ajH(a b:ck aI 128)(i:aI):aM (Gg a b i 128) (λ_=>True):=by
 unfold Gg;refine .bind (P:=λ_=>True) (bY 128 (λg c=>c.2.1=(g:Int)) (by omega) o (λg c f d=>?_) λc d=>?_) λ_ _=>.ret bo
 ·obtain⟨j,k,v⟩:=c;simp only at d;subst d;refine .eq (a:=(128:Int)) o (.cond (λ_=>.idx o f (.idx o f (.bind (P:=λ_=>True) (bY 3 (λh c=>c.2=(h:Int)) (by omega) o (λh c l d=>?_) λc d=>?_) λn _=>.eq (by rfl) (.idx o f (.ret (cZ (by omega))))))) λe=>by grind)
  ·obtain⟨m,k⟩:=c;simp only at d;subst d;exact .cond (λ_=>.idx o l (.bind (P:=λ_=>True) (.cond (λ_=>.ret bo) λ_=>.ret bo) λ_ _=>.ret (cZ (by omega)))) λe=>by grind
  obtain⟨m,k⟩:=c;simp only at d;subst d;exact .cond (λe=>by simp at e) λ_=>.ret bo
 obtain⟨j,k,v⟩:=c;simp only at d;subst d;exact .eq (a:=(128:Int)) o (.cond (λe=>by simp at e) λ_=>.ret bo)
def Xo(a y:aW):aM (Gk a y 128) (λ_=>True):=by
 unfold Gk;exact(v8 a).bind λ_ _=>(v8 y).bind λ_ _=>(ajH _ _ _).bind λ_ _=>(GP _).bind λ_ _=>.ret bo
def VD{s:cC}{n:Nat}{a:Int}(b:(n:Int)<=a)(c:a<=s.size):aM (substr s n a) (λd=>d.size<=s.size):=by
 unfold substr;rw[bT ⟨by omega,b,c⟩];exact .ret (by grind[ByteArray.size_extract])
def aix{e:cC}(a:e.size<=400):aM (J0 e) (λ_=>True):=by
 unfold J0;refine .bs (λa=>VD (n:=0) (by omega) (by grind)) λi _=>.eq o (.bind (P:=λm=>m.1.size<=400) (.cond (λj=>(VD (n:=2) (by grind) (by omega)).bind λy g=>.ret (mK g a)) λ_=>.ret a) λh l=>?_);refine .bind (P:=λ_=>True) (bY h.1.size (λf b=>b.1=(f:Int)) (by omega) o (λf b d c=>?_) λb c=>?_) λ_ _=>.ret bo
 ·obtain⟨k,v⟩:=b;simp only at c;subst c;refine .cond (λ_=>(Wl (m:=3) _ (by omega)).bind λ_ _=>(Wl (m:=1) _ (by omega)).bind λ_ _=>.bind (P:=λ_=>True) (.cond (λ_=>.ret bo) λ_=>.ret bo) λp _=>?_) λa=>by simp_all
  exact(KN d).bind λ_ _=>(KN d).bind λ_ _=>.bind (P:=λ_=>True) (.cond (λ_=>(KN d).bind λ_ _=>.ret bo) λ_=>.ret bo) λq _=>(Xo _ _).bind λ_ _=>(Xo _ _).bind λ_ _=>.ret (cZ (by omega))
 obtain⟨k,v⟩:=b;simp only at c;subst c;exact .cond (λa=>by simp at a) λ_=>.ret bo
structure j9(cI:List fI)(p:bf):Prop where
 l:p.cw=cI
 n:cI.length<=400∧∀t∈cI,t.ia.size<=400
 a:0<=p.du∧p.du<=cI.length
 ak:(p.bL.length:Int)<=p.du
 w:p.kH=Z->A9 p.bL
def lg(cI:R fI)(p:bf)(a:Int)(q:bf):Prop:=
 j9 cI q∧p.du<=q.du∧(S q.bL:Int)-S p.bL<=q.du-p.du∧S p.bL<=S q.bL∧(q.kH=Z->p.kH=Z∧0<=a∧a<S q.bL)
def ov(cI:R fI)(c:bf->aw (Int×bf))(a:Int):Prop:=∀p,j9 cI p->a<=p.du->aM (c p) λb=>lg cI p b.1 b.2
def Ba(cI:R fI)(p q:bf):Prop:=j9 cI q∧q.du=p.du+1∧q.bL=p.bL∧p.kH=Z
section
variable{cI:R fI}{p q:bf}{nN:bf->aw (Int×bf)}{a:Int}
def j9.step(a:j9 cI p)(b:p.kH=Z)(d:p.du<S cI):Ba cI p {p with du:=aV (p.du+1)}:=by
 have e:=a.n;have f:=a.a;have g:=a.ak;have c:aV (p.du+1)=p.du+1:=by rw[eU] <;> omega
 rw[c];exact⟨⟨a.l,a.n,by grind,by grind,a.w⟩,rfl,rfl,b⟩
def Lh(a:j9 cI p)(e:cC):aM (xh p e) (λb=>b=X->p.kH=Z∧p.du<cI.length):=by
 unfold xh;have f:=a.a;rw[a.l];obtain⟨c,g⟩:=mE f.1;rw[g];have d:∀{z:aI},((!p.kH)&&decide ((c:Int)<cI.length)&&z)=X->p.kH=Z∧c<cI.length:=λa=>by simp_all
 refine .bs (P:=λ_=>True) (λa=>oQ (d (z:=X) (by simp_all)).2 |>.mono λ_ _=>trivial) λh _=>.eq o (.bs (P:=λ_=>True) (λa=>oQ (d a).2 |>.mono λ_ _=>trivial) λi _=>.ret λa=>?_);simp_all
def vV(c:j9 cI p)(d:cC):aM (qR p d) (λa=>(a.1=Z∧a.2=p)∨(a.1=X∧Ba cI p a.2)):=by
 unfold qR;refine(Lh c d).bind λy b=>.cond (λ_=>.ret (.inl ⟨rfl,rfl⟩)) λe=>?_;have b:=b (by simp_all);exact .eq o (.ret (.inr ⟨rfl,c.step b.1 b.2⟩))
def LD{d:dw}(a:j9 cI q)(i:p.du+1<=q.du)(j:(S q.bL:Int)+1-S p.bL<=q.du-p.du)(k:S p.bL<=S q.bL)(aC:(S p.bL:Int)<=p.du)(f:q.kH=Z->p.kH=Z∧D2 (S q.bL) d):
 aM (mH q d) λb=>lg cI p b.1 b.2∧b.2.du=q.du:=by
 unfold mH
 have l:=a.n;have m:=a.a;have n:=a.ak
 refine .eq (eS _ _ (by grind) (by omega)) (.ret ⟨⟨⟨a.l,a.n,a.a,by grind,λc e g=>?_⟩,by grind,by simp_all,by grind,λc=>⟨(f c).1,?_⟩⟩,rfl⟩)
 ·simp only[lI,b7,cb]at g
  rw[CE]
  by_cases h:e=S q.bL
  ·simp_all
  rw[bU h];exact a.w c e (by omega)
 grind[List.length_append,b7,cb,eU]
def KS{a:dw}(c:Ba cI p q)(aC:j9 cI p)(d:a.cm=1∨a.cm=2∨a.cm=3)(e:a.fr=0∧a.gm=0):aM (mH q a) λb=>lg cI p b.1 b.2:=by
 obtain⟨f,h,i,g⟩:=c;exact(LD f (by omega) (by grind) (by simp_all) aC.ak λ_=>⟨g,⟨by omega,.inr ⟨d,e⟩⟩⟩).mono λb aF=>aF.1
def Yf{a:dw}{d:Int}{b:bf}(aC:j9 cI p)(c:Ba cI p q)(f:lg cI q d b)(m:a.fr=d∧a.gm=0):aM (mH b a) λe=>lg cI p e.1 e.2:=by
 obtain⟨n,o,g,h⟩:=c;obtain⟨i,r,j,k,l⟩:=f;rw[g]at j k;exact(LD i (by omega) (by omega) (by omega) aC.ak λc=>⟨h,by have:=l c;exact⟨by omega,.inl (by omega)⟩⟩).mono λb aF=>aF.1
def GS{a:dw}{f g:Int}{h b:bf}(aC:j9 cI p)(i:lg cI p f q)(c:Ba cI q h)(j:lg cI h g b)(A:a.fr=f∧a.gm=g):aM (mH b a) λd=>lg cI p d.1 d.2∧q.du+1<=d.2.du:=by
 obtain⟨B,C,D,E,e⟩:=i;obtain⟨F,G,k,l⟩:=c;obtain⟨m,H,n,o,r⟩:=j;rw[k]at n o;have e:=e l;exact(LD m (by omega) (by omega) (by omega) aC.ak λc=>⟨e.1,by have:=r c;exact⟨by omega,.inl (by omega)⟩⟩).mono λb aF=>⟨aF.1,by omega⟩
def lg.MV{b:Int}{c:bf}(a:Ba cI p q)(e:lg cI q b c):lg cI p b c:=by
 obtain⟨k,l,f,g⟩:=a;obtain⟨h,m,i,d,j⟩:=e;rw[f]at i d;exact⟨h,by omega,by omega,d,λa=>⟨g,(j a).2⟩⟩
def lg.bad{d e:Int}{c:bf}(a:lg cI p d c):lg cI p e {c with kH:=X}:=⟨⟨a.1.l,a.1.n,a.1.a,a.1.ak,λb=>by cases b⟩,a.2.1,a.2.2.1,a.2.2.2.1,λb=>by cases b⟩
def j9.bad(a:j9 cI p)(b:Int):lg cI p b {p with kH:=X}:=⟨⟨a.l,a.n,a.a,a.ak,λa=>by cases a⟩,oD _,by simp_all,jT _,λa=>by cases a⟩
def agi(aC:j9 cI p)(a:Ba cI p q)(h:cC):aM (Eg q h) λf=>lg cI p f.1 f.2:=by
 unfold Eg;have aQ:=a.1.n;refine(vV a.1 _).bind λi b=>?_;rcases b with⟨d,j⟩|⟨d,b⟩
 ·rw[d,j];exact .cond (λ_=>.eq o ((KS a aC (.inr (.inr o)) ⟨rfl,rfl⟩).bind λy e=>.ret e)) λa=>by cases a
 rw[d];refine .cond (λa=>by cases a) λ_=>?_;have l:=b.1.a;have g:=b.1.l;obtain⟨c,m⟩:=mE l.1;rw[g,m];refine .bs (P:=λ_=>True) (λn=>oQ (by grind) |>.mono λ_ _=>trivial) λr _=>.eq o (.cond (λ_=>.eq o (.ret ((b.1.bad 0).MV b |>.MV a))) λn=>?_);have A:c<S cI:=by grind
 have B:aV ((c:Int)+1)=((c+1:Nat):Int):=cZ (by omega);refine .eq o (.idx (k:=c) (by grind[eU]) (by simp_all) (.eq o ((LD (p:=p) (q:= {i.2 with du:=aV ((c:Int)+1)}) ⟨g,aQ,by grind,?_,b.1.w⟩ ?_ ?_ ?_ aC.ak λ_=>⟨a.2.2.2,⟨⟨oD 0,oD 0⟩,.inr ⟨.inr (.inr o),rfl,rfl⟩⟩⟩).bind λy e=>.ret e.1)));all_goals (obtain⟨C,D,E,F⟩:=a;obtain⟨G,H,I,J⟩:=b;have:=aC.ak;grind)
def ajI(m:ov cI nN (a+1)):ov cI (EA nN) a:=λp aC G=>by
 unfold EA;have aQ:=aC.n;have n:=aC.a;refine .cond (λ_=>.eq o (.ret (aC.bad 0))) λl=>?_;obtain rfl:=aC.l;simp only[Em,Ip,ne_eq]at l;have d:=aC.step l.1 (by omega);have e:∀k,k<S p.cw->(al p.cw k).ia.size<=400:=λk d=>aQ.2 _ (by simp_all[dI]);refine .eq (mj n.1 (by omega)) (.cond (λ_=>.eq o ((aix (e _ (by omega))).bind λH _=>.eq o ((KS d aC (.inl o) ⟨rfl,rfl⟩).bind λy b=>.ret b))) λ_=>.eq o (.cond (λ_=>.eq o (.eq o ((KS d aC (.inr (.inl o)) ⟨rfl,rfl⟩).bind λy b=>.ret b))) λ_=>.eq o (.cond (λ_=>.eq o ((KS d aC (.inr (.inl o)) ⟨rfl,rfl⟩).bind λy b=>.ret b)) λ_=>.cond (λ_=>.eq o ((agi aC d _).bind λy b=>.ret b)) λ_=>?_)));refine(vV aC _).bind λI q=>?_;rcases q with⟨h,r⟩|⟨h,g⟩
 ·rw[h,r];exact .cond (λc=>by cases c) λ_=>.eq rfl (.ret (aC.bad 0))
 rw[h];refine .cond (λ_=>(m _ g.1 (by have:=g.2.1;omega)).bind λA i=>(vV i.1 _).bind λB C=>?_) λc=>by cases c
 rcases C with⟨j,D⟩|⟨j,E⟩
 ·rw[j,D];exact .bind (P:=λf=>f= {A.2 with bL:=[],kH:=X}) (.cond (λ_=>.eq o (.ret o)) λc=>by cases c) λf e=>.ret (by rw[e];exact(i.MV g).bad)
 rw[j];refine .bind (P:=λf=>f= {B.2 with bL:=[]}) (.cond (λc=>by cases c) λ_=>.ret rfl) λf e=>.ret ?_;rw[e];obtain⟨J,K,L,M,N⟩:=i.MV g;obtain⟨F,O,Q,R⟩:=E;exact⟨F,by grind,by grind,by simp_all,λ_=>by simp_all⟩
theorem Wm(g:ov cI nN (a+1)):∀c:Nat,∀p,j9 cI p->a<=p.du->S cI-p.du<c->aM (yX nN c p) λh=>lg cI p h.1 h.2
 |0,p,aC,i,aQ=>by have:=aC.a;omega
 | c+1,p,aC,i,aQ=>by
   unfold yX;refine(vV aC _).bind λj b=>?_;rcases b with⟨d,k⟩|⟨d,b⟩
   ·rw[d,k];exact .cond (λ_=>(ajI g p aC i).bind λy e=>.ret e) λf=>by cases f
   rw[d];have:=b.2.1;exact .cond (λf=>by cases f) λ_=>(Wm g c j.2 b.1 (by omega) (by omega)).bind λm l=>.eq rfl ((Yf aC b l ⟨rfl,rfl⟩).bind λy e=>.ret e)
def Wn(b:ov cI nN (a+1)):ov cI (Iy nN) a:=λp aC c=>Wm b bX p aC c (by have:=aC.a;have:=aC.n;grind[bX])
def SK(cI:R fI)(p:bf)(k:Nat)(a:Int×bf×R dw):Prop:=lg cI p a.1 {a.2.1 with bL:=a.2.2}∧p.du+k<=a.2.1.du
def Xp(g:ov cI nN (a+1)):ov cI (By nN) a:=λp aC l=>by
 unfold By;refine(Wn g p aC l).bind λC h=>.bind (P:=λe=>lg cI p e.1 {e.2.1 with bL:=e.2.2}) (bY 401 (SK cI p) (by decide) ⟨h,by simp only;have:=h.2.1;omega⟩ (λk c D d=>?_) λc d=>?_) λe m=>.ret m
 ·obtain⟨n,q,r⟩:=c;obtain⟨b,i⟩:=d;simp only at b i;refine(Lh b.1 _).bind λE F=>.bs (λ_=>Lh b.1 _) λG H=>.cond (λI=>?_) λ_=>.ret b;refine(Lh b.1 _).bind λJ _=>.bind (P:=λ_=>True) (.cond (λ_=>.ret bo) λ_=>.ret bo) λK _=>.eq o ?_;have j:q.kH=Z∧q.du<S cI:=by
   grind
  have f:=b.1.step j.1 j.2;exact(Wn g _ f.1 (by have:=f.2.1;grind)).bind λL A=>.eq o ((GS aC b f A ⟨rfl,rfl⟩).bind λM B=>.ret ⟨B.1,by grind⟩)
 obtain⟨n,q,r⟩:=c;obtain⟨b,i⟩:=d;have:=b.1.a;have:=b.1.n;have:=aC.a;grind
def agQ(j:ov cI nN (a+1)):ov cI (Ej nN) a:=λp aC l=>by
 unfold Ej;refine(Xp j p aC l).bind λm g=>.eq o ?_;refine a' 6 (λk b=>b.1=(k:Int)∧({b.2.1 with bL:=b.2.2}:bf)=m.2) (by omega) ⟨rfl,rfl⟩ (λk b n h=>?_) λb h=>?_
 ·obtain⟨r,q,A⟩:=b;obtain⟨c,e⟩:=h;simp only at c e;subst c;refine .cond (λ_=>.idx o n ?_) λf=>by grind
  rw[e];refine(vV g.1 _).bind λE d=>?_;rcases d with⟨i,B⟩|⟨i,d⟩
  ·rw[i,B];exact .cond (λf=>by cases f) λ_=>.ret ⟨cZ (by omega),rfl⟩
  rw[i];exact .cond (λ_=>(Xp j _ d.1 (by have:=d.2.1;have:=g.2.1;omega)).bind λF C=>.eq o ((GS aC g d C ⟨rfl,rfl⟩).bind λG D=>.ret (.ret D.1))) λf=>by cases f
 obtain⟨r,q,A⟩:=b;obtain⟨c,e⟩:=h;simp only at c e;subst c;refine⟨_,rfl,.ret ?_⟩;simp_all
theorem Yg(g:ov cI nN (a+1)):∀c:Nat,∀p,j9 cI p->a<=p.du->S cI-p.du<c->aM (za nN c p) λh=>lg cI p h.1 h.2
 |0,p,aC,i,aQ=>by have:=aC.a;omega
 | c+1,p,aC,i,aQ=>by
   unfold za;refine(vV aC _).bind λj b=>?_;rcases b with⟨d,k⟩|⟨d,b⟩
   ·rw[d,k];exact .cond (λ_=>(agQ g p aC i).bind λy e=>.ret e) λf=>by cases f
   rw[d];have:=b.2.1;exact .cond (λf=>by cases f) λ_=>(Yg g c j.2 b.1 (by omega) (by omega)).bind λm l=>.eq rfl ((Yf aC b l ⟨rfl,rfl⟩).bind λy e=>.ret e)
def Yh(b:ov cI nN (a+1)):ov cI (IN nN) a:=λp aC c=>Yg b bX p aC c (by have:=aC.a;have:=aC.n;grind[bX])
def Xq(i:ov cI nN (a+1)):ov cI (Bz nN) a:=λp aC m=>by
 unfold Bz;refine(Yh i p aC m).bind λF j=>.bind (P:=λe=>lg cI p e.1 {e.2.1 with bL:=e.2.2}) (bY 401 (SK cI p) (by decide) ⟨j,by simp only;have:=j.2.1;omega⟩ (λk c G d=>?_) λc d=>?_) λe n=>.ret n
 ·obtain⟨r,q,A⟩:=c;obtain⟨b,l⟩:=d;simp only at b l;refine(vV b.1 _).bind λH B=>?_;rcases B with⟨f,C⟩|⟨f,g⟩
  ·rw[f,C];exact .cond (λh=>by cases h) λ_=>.ret b
  rw[f];exact .cond (λ_=>(Yh i _ g.1 (by have:=g.2.1;grind)).bind λI D=>.eq o ((GS aC b g D ⟨rfl,rfl⟩).bind λJ E=>.ret ⟨E.1,by grind⟩)) λh=>by cases h
 obtain⟨r,q,A⟩:=c;obtain⟨b,l⟩:=d;have:=b.1.a;have:=b.1.n;have:=aC.a;grind
def alf(i:ov cI nN (a+1)):ov cI (ER nN) a:=λp aC m=>by
 unfold ER;refine(Xq i p aC m).bind λF j=>.bind (P:=λe=>lg cI p e.1 {e.2.1 with bL:=e.2.2}) (bY 401 (SK cI p) (by decide) ⟨j,by simp only;have:=j.2.1;omega⟩ (λk c G d=>?_) λc d=>?_) λe n=>.ret n
 ·obtain⟨r,q,A⟩:=c;obtain⟨b,l⟩:=d;simp only at b l;refine(vV b.1 _).bind λH B=>?_;rcases B with⟨f,C⟩|⟨f,g⟩
  ·rw[f,C];exact .cond (λh=>by cases h) λ_=>.ret b
  rw[f];exact .cond (λ_=>(Xq i _ g.1 (by have:=g.2.1;grind)).bind λI D=>.eq o ((GS aC b g D ⟨rfl,rfl⟩).bind λJ E=>.ret ⟨E.1,by grind⟩)) λh=>by cases h
 obtain⟨r,q,A⟩:=c;obtain⟨b,l⟩:=d;have:=b.1.a;have:=b.1.n;have:=aC.a;grind
theorem Vh:∀a:Nat,∀p,j9 cI p->S cI-p.du<a->aM (vu a p) λf=>lg cI p f.1 f.2
 |0,p,aC,aQ=>by have:=aC.a;omega
 | a+1,p,aC,aQ=>by
   unfold vu;have g:ov cI (vu a) (p.du+1):=λq h l=>Vh a q h (by omega);refine(alf g p aC (oD _)).bind λm c=>(vV c.1 _).bind λn b=>?_;rcases b with⟨d,i⟩|⟨d,b⟩
   ·rw[d,i];exact .cond (λ_=>.ret c) λe=>by cases e
   rw[d];exact .cond (λe=>by cases e) λ_=>(g _ b.1 (by have:=b.2.1;have:=c.2.1;omega)).bind λr j=>.eq o ((GS aC c b j ⟨rfl,rfl⟩).bind λy k=>.ret k.1)
def aiy{l:R dw}(D:A9 l)(H:S l<=120):aM (F3 l) (λ_=>True):=by
 unfold F3;refine .bind (P:=λy=>S y=S l) ?_ λI r=>.bind (P:=λe=>S e=S l) (bY (S l) (λa c=>c.1=(a:Int)∧S c.2=S l) (by omega) ⟨rfl,r⟩ (λa c A n=>?_) λc n=>?_) λe J=>.cond (λ_=>.ret bo) λE=>?_
 ·unfold tQ;rw[bT ⟨by omega,by omega,by omega⟩];exact .ret (by simp)
 ·obtain⟨k,v⟩:=c;obtain⟨g,h⟩:=n;simp only at g h;subst g;have aq:=D a A;unfold D2 at aq;have d:∀{j:Int},0<=j->j<=(a:Int)->idx (S v) j=U j.toNat:=λF r=>mj F (by omega);have f:0<=(al l a).fr∧(al l a).fr<=a:=by omega
  have m:0<=(al l a).gm∧(al l a).gm<=a:=by omega
  have p:=d (j:=a) (by omega) (oD _);have q:∀(k:Nat) (B:Int),S (eZ v k B)=S l:=λk B=>by simp_all[eZ,vC]
  refine .cond (λ_=>.idx o A (.bind (P:=λb=>S b=S l) (.cond (λ_=>.ret h) λ_=>?_) λb i=>.ret ⟨cZ (by omega),i⟩)) λC=>by simp_all
  refine .bind (P:=λb=>S b=S l) (.cond (λ_=>.eq (d f.1 f.2) (.eq p (.ret (q _ _)))) λ_=>?_) λb i=>.ret i;exact .bind (P:=λb=>S b=S l) (.cond (λ_=>.eq (d f.1 f.2) (.eq (d m.1 m.2) (.eq p (.ret (q _ _))))) λ_=>.eq (d f.1 f.2) (.eq (d m.1 m.2) (.eq p (.ret (q _ _))))) λb i=>.ret i
 ·obtain⟨k,v⟩:=c;obtain⟨g,h⟩:=n;simp only at g h;subst g;exact .cond (λC=>by simp at C) λ_=>.ret h
 have E:(S l:Int)≠0:=by simp_all
 have G:aV ((S l:Int)-1)=(S l:Int)-1:=by rw[eU] <;> omega
 rw[G];exact .eq (mj (by omega) (by omega)) (.ret bo)
def aiz(f:S cI<=400)(g:∀t∈cI,t.ia.size<=400):aM (J1 cI) (λa=>S a.1<=120∧A9 a.1):=by
 unfold J1;have h:j9 cI {({(b1:bf)with cw:=cI}:bf)with bL:=[]}:=⟨rfl,⟨f,g⟩,⟨oD 0,by show(0:Int)<=_;omega⟩,oD 0,λ_ b c=>by grind⟩;refine(Vh bX _ h (by unfold bX;show(S cI:Int)-0<_;omega)).bind λk i=>.cond (λ_=>.ret ⟨by simp,λb c=>by grind⟩) λd=>?_;simp only[Em]at d;have e:=i.1.w d.1;refine .bs (P:=λ_=>True) (λj=>aiy e (by grind)) λl _=>.cond (λ_=>.ret ⟨by simp,λb c=>by grind⟩) λj=>.ret ⟨by grind,e⟩
def O9(a:dw):aM (Cc a) (λ_=>True):=by
 unfold Cc;refine .bind (P:=λ_=>True) (.cond (λ_=>.ret bo) λ_=>.bind (P:=λ_=>True) (.cond (λ_=>.ret bo) λ_=>.bind (P:=λ_=>True) (.cond (λ_=>.ret bo) λ_=>.bind (P:=λ_=>True) (.cond (λ_=>.ret bo) λ_=>.ret bo) λ_ _=>.ret bo) λ_ _=>.ret bo) λ_ _=>.ret bo) λ_ _=>.cond (λ_=>.ret bo) λ_=>.ret bo
def aiA{l:R dw}{f:R gJ}(g:A9 l)(m:S l<=120)(n:S f<=1000):aM (JZ l f) (λh=>h.2=0->1<=S l):=by
 unfold JZ;refine a' (S l) (λc a=>a=(c:Int)) (by omega) o (λc a d b=>?_) λa b=>?_
 ·subst b;have aq:=g c d;unfold D2 at aq;refine .cond (λ_=>.idx o d (.bind (P:=λ_=>True) ?_ λi _=>.cond (λe=>.ret (.ret λ_=>by omega)) λ_=>.ret (cZ (by omega)))) λe=>by simp_all
  unfold OO;refine .eq (mj (by omega) (by omega)) ((O9 _).bind λi _=>.eq (mj (by omega) (by omega)) ((O9 _).bind λp _=>.bind (P:=λ_=>True) (.cond (λ_=>.ret bo) λ_=>.ret bo) λq _=>.cond (λ_=>.ret bo) λ_=>.cond (λ_=>?_) λ_=>?_))
  ·refine a' (S f) (λc a=>a=(c:Int)) (by omega) o (λc a d b=>?_) λa b=>?_
   ·subst b;exact .cond (λ_=>.idx o d (.eq o (.cond (λ_=>.ret (.ret bo)) λ_=>.ret (cZ (by omega))))) λe=>by simp_all
   subst b;exact⟨.inl (),by simp,.ret bo⟩
  refine .cond (λ_=>.cond (λ_=>.ret bo) λ_=>.ret bo) λ_=>.cond (λ_=>.cond (λ_=>.ret bo) λ_=>.ret bo) λ_=>.bind (P:=λ_=>True) (.cond (λ_=>.ret bo) λ_=>.ret bo) λ_ _=>.cond (λ_=>.cond (λ_=>.ret bo) λ_=>.ret bo) λ_=>?_;exact .bind (P:=λ_=>True) (.cond (λ_=>.ret bo) λ_=>.bind (P:=λ_=>True) (.cond (λ_=>.ret bo) λ_=>.ret bo) λ_ _=>.ret bo) λ_ _=>.bind (P:=λ_=>True) (.cond (λ_=>.ret bo) λ_=>.ret bo) λ_ _=>.cond (λ_=>.ret bo) λ_=>.ret bo
 subst b;refine⟨.inl (),by simp,.cond (λ_=>.ret λe=>by cases e) λj=>?_⟩;have j:(S l:Int)≠0:=by simp_all
 have k:aV ((S l:Int)-1)=(S l:Int)-1:=by rw[eU] <;> omega
 rw[k];exact .eq (mj (by omega) (by omega)) ((O9 _).bind λ_ _=>.cond (λ_=>.ret λ_=>by omega) λ_=>.ret λ_=>by omega)
def Ask(a:R dw×Int):Prop:=a.2=0->A9 a.1∧1<=S a.1∧S a.1<=120
def agj{d:cC}{e:R gJ}(a:aM (Kf d) (λy=>S y.1<=400∧∀t∈y.1,t.ia.size<=400))(g:S e<=1000):aM (B8 d e) Ask:=by
 unfold B8;refine .cond (λ_=>.eq o (.ret λ_=>⟨λh i=>?_,by simp,by simp⟩)) λ_=>a.bind λk f=>.cond (λc=>.ret λa=>?_) λ_=>(aiz f.1 f.2).bind λl b=>.cond (λc=>.ret λa=>?_) λ_=>(aiA b.2 b.1 g).bind λm j=>.cond (λc=>.ret λa=>?_) λc=>.ret λ_=>⟨b.2,j (by simp_all),b.1⟩
 ·simp only[b7,cb]at i;have:h=0:=by omega
  subst this;exact⟨by decide,.inr ⟨.inr (.inl o),rfl,rfl⟩⟩
 all_goals simp_all
end
def D3:R (R cC):=[[W #[],W #[97,32,33,61,32,48],W #[97,32,60,32,49,52,32,38,38,32,97,32,33,61,32,51]],
 [W #[],W #[100,58,58,112,114,101,102,105,120,95,108,101,110,103,116,104,32,62,61,32,56],W #[100,58,58,112,114,101,102,105,120,95,108,101,110,103,116,104,32,61,61,32,51,50,32,45,62,32,100,58,58,118,97,108,117,101,32,62,32,48,120,102,102]],
 [W #[],W #[112,114,105,111,114,105,116,121,32,60,32,49,48,48,32,38,38,32,40,101,58,58,109,97,115,107,32,33,61,32,48,32,124,124,32,97,58,58,109,97,115,107,32,33,61,32,48,41],W #[101,58,58,109,97,115,107,32,61,61,32,48,32,45,62,32,112,114,105,111,114,105,116,121,32,62,32,53]],
 [W #[],W #[102,58,58,104,105,103,104,32,45,32,102,58,58,108,111,119,32,60,61,32,48,120,49,48,48],W #[33,40,102,58,58,108,111,119,32,61,61,32,48,32,38,38,32,102,58,58,104,105,103,104,32,62,32,49,48,48,48,41]]]
def Bb:R (R nm×R cC):=[([],[W #[]]),([],[W #[]]),([{bW:=W #[112,111,114,116],hz:=16}],[W #[],W #[112,111,114,116,32,33,61,32,48]]),
 ([{bW:=W #[120],hz:=4}],[W #[]]),([{bW:=W #[120],hz:=4},{bW:=W #[121],hz:=12}],[W #[],W #[120,32,60,32,121,32,124,124,32,120,32,61,61,32,49,53]]),([],[W #[]])]
def HC{b:aB}(c:b->aI)(d:aw b):aI:=match d with
 |some a=>c a
 |none=>Z
def Xr{c:aB}{d:c->aI}{b:aw c}(e:HC d b=X):aM b (λa=>d a=X):=by
 cases b with
 |none=>cases e
 |some a=>exact⟨a,rfl,e⟩
def Wo{c d:aB}{e:d->aI}{f:aw c}{g:c->aw d}(h:HC e (f.bind g)=X){a:c}(i:f=U a):aM (g a) (λb=>e b=X):=by
 subst i;exact Xr h
def SL:R (R (R eu)):=[[[rQ]],[[vr],[vr,MP]],[[A5,AX],[A5,AX,MQ]],[[A6],[A6,MR,vr]]]
def asn:∀k,k<4->∀a∈al D3 k,∀aP∈al SL k,HC (λb=>decide (S b.1<=1000)) ((zB {(b1:dc)with bS:=aP}).bind λl=>B9 a l)=X:=by decide +kernel
def aso:∀k,k<6->∀a∈(al Bb k).2,HC (λb=>decide (S b.1<=1000)) ((zx {(b1:eP)with e2:=(al Bb k).1}).bind λl=>B9 a l)=X:=by decide +kernel
def scan(a:cC):aI:=HC (λy=>decide (S y.1<=400∧∀t∈y.1,t.ia.size<=400)) (Kf a)
def asq:∀k,k<4->∀a∈al D3 k,scan a=X:=by decide +kernel
def asr:∀k,k<6->∀a∈(al Bb k).2,scan a=X:=by decide +kernel
def YV{b:cC}(a:scan b=X){c:R gJ}(d:S c<=1000):aM (B8 b c) Ask:=agj ((Xr a).mono λ_ a=>uj a) d
def Yi{b:Nat}{a:Int}:hf (tQ (au:=aI) b a) (λc=>(S c:Int)=a):=λc d=>by
 obtain⟨e,_,_,f⟩:=WB d;grind
def SM(cI:R dc)(l:R eR):Prop:=∀a∈l,∃t∈cI,a.bZ=t.cA∧S a.bS=S t.bS
def qO(cI:R dc)(a:Int)(b:dX)(l:R eR):Prop:=S b.cM<=6∧(S l:Int)<=a∧SM cI l
def qO.snoc{cI:R dc}{d:Int}{e f:dX}{l:R eR}(b:qO cI d e l){t:dc}(i:t∈cI){c:eR}(j:c.bZ=t.cA)(k:S c.bS=S t.bS)(g:f.cM=e.cM):qO cI (d+1) f (l++[c]):=
 ⟨by rw[g];exact b.1,by have:=b.2.1;simp_all,λh a=>by
  rcases eN.1 a with a|a
  ·exact b.2.2 h a
  grind⟩
def qO.mono{cI:R dc}{b:Int}{c:dX}{l:R eR}(a:qO cI b c l):qO cI (b+1) c l:=⟨a.1,by have:=a.2.1;omega,a.2.2⟩
def aht(q:dB)(cI:R dc)(G:S cI<=1000):hf (s9 q cI) (λr=> ∀i∈r.1,SM cI i.iH∧S i.iH<=1000∧S i.cM<=6):=by
 unfold s9;refine .skip λ_=>.skip λH=>.skip λI=>.skip λJ=>?_;refine .bind (P:=λe=>qO cI 1000 e.1 e.2.1∧qO cI 1000 e.2.2.2.1 e.2.2.2.2.1∧qO cI 1000 e.2.2.2.2.2.1 e.2.2.2.2.2.2) (.loop (λa=>(0<=a.1∧a.1<=1000)∧qO cI a.1 a.2.1 a.2.2.1∧qO cI a.1 a.2.2.2.2.1 a.2.2.2.2.2.1∧qO cI a.1 a.2.2.2.2.2.2.1 a.2.2.2.2.2.2.2) ⟨⟨by simp,by simp⟩,⟨by simp,by simp,λn f=>by cases f⟩,⟨by simp,by simp,λn f=>by cases f⟩,⟨by simp,by simp,λn f=>by cases f⟩⟩ λa j=>?_) λe A=>.eq (.eq (.ret λi p=>?_))
 ·obtain⟨K,b,c,d⟩:=j;refine .cond (λB=>.bind .idx λg L=>.bind Yi λM N=>.bind Yi λO Q=>?_) λ_=>.ret ⟨⟨b.1,by have:=b.2.1;grind,b.2.2⟩,⟨c.1,by have:=c.2.1;grind,c.2.2⟩,⟨d.1,by have:=d.2.1;grind,d.2.2⟩⟩;simp only[ik]at B;have k:al cI g∈cI:=by simp_all[dI]
  refine .bind (P:=λe=>S e.1=S (al cI g).bS∧S e.2.1=S (al cI g).bS) (.loop (λa=>S a.2.1=S (al cI g).bS∧S a.2.2.1=S (al cI g).bS) ⟨by grind,by grind⟩ λa j=>.cond (λ_=>.skip λ_=>.skip λ_=>.skip λ_=>.ret ⟨by simp_all[eZ,vC],by simp_all[eZ,vC]⟩) λ_=>.ret j) λaa l=>.eq (.bind xV λab C=>.skip λac=>?_);have D:aV (a.1+1)=a.1+1:=by rw[eU] <;> omega
  refine .bind (P:=λh=>qO cI (a.1+1) h.2.1 h.2.2) (.cond (λ_=>.skip λ_=>.skip λ_=>.eq (.bind xV λy m=>.ret ?_)) λ_=>.ret c.mono) λad E=>.skip λae=>.bind (P:=λh=>qO cI (a.1+1) h.2.1 h.2.2) (.cond (λ_=>.skip λ_=>.skip λ_=>.eq (.bind xV λy m=>.ret ?_)) λ_=>.ret b.mono) λaf F=>.ret ?_
  ·simp only;rw[m];exact c.snoc k o l.1 o
  ·simp only;rw[m];exact b.snoc k o l.2 o
  simp only;rw[D,C];exact⟨⟨by omega,by omega⟩,F,E,d.snoc k o l.2 o⟩
 obtain⟨b,c,d⟩:=A;simp only[fj,s0,tj]at p;rcases p with rfl|rfl|rfl
 ·exact⟨d.2.2,by have:=d.2.1;grind,d.1⟩
 ·exact⟨c.2.2,by have:=c.2.1;grind,c.1⟩
 exact⟨b.2.2,by have:=b.2.1;grind,b.1⟩
def Aj{a:aB}[Inhabited a]{l:R a}{k:Nat}(b:k<S l):al l k∈l:=by simp_all[dI]
def agR(m:dB):hf (zf m) (λf=>S f.1=4∧∀k,k<4->(al f.1 k).gA<=12∧(al f.1 k).iZ∈al D3 k):=by
 unfold zf;refine .eq (.skip λaa=>.bind (Ag _ 5 (by omega)) λn ab=>.eq (.eq (.bind (Ag _ 6 (by omega)) λp ac=>.skip λad=>?_)));refine .bind (P:=λb=>b.1.gA=aV (3+p.1)) (.cond (λ_=>.eq (.skip λ_=>.ret o)) λ_=>.ret o) λq r=>.eq (.eq (.bind (Ag _ 6 (by omega)) λA ae=>.skip λaf=>?_));refine .bind (P:=λb=>b.1.gA=aV (4+A.1)) (.cond (λ_=>.eq (.skip λ_=>.ret o)) λ_=>.ret o) λB C=>.eq (.bind (Ag _ 5 (by omega)) λD ag=>.skip λah=>?_);refine .bind (P:=λb=>b.1.gA=aV (3+D.1)) (.cond (λ_=>.eq (.eq (.skip λ_=>.ret o))) λ_=>.ret o) λE F=>.eq (.eq (.eq (.eq (.eq ?_))));refine .bind (P:=λe=>S e.1=4∧∀k,k<4->(al e.1 k).gA<=12∧(al e.1 k).iZ∈al D3 k) (.loop (λa=>S a.2.1=4∧0<=a.1∧a.1<=4∧∀k,k<4->(al a.2.1 k).gA<=12∧((k:Int)<a.1->(al a.2.1 k).iZ∈al D3 k)) ⟨rfl,by simp,by simp,λk c=>⟨?_,λai=>by omega⟩⟩ λa G=>?_) λe H=>.ret H
 ·have:k=0∨k=1∨k=2∨k=3:=by omega
  rcases this with rfl|rfl|rfl|rfl
  ·show aV (2+n.1)<=12;rw[eU] <;> omega
  ·show q.1.gA<=12;rw[r,eU] <;> omega
  ·show B.1.gA<=12;rw[C,eU] <;> omega
  show E.1.gA<=12;rw[F,eU] <;> omega
 obtain⟨g,l,aj⟩:=a;obtain⟨h,I,J,d⟩:=G;simp only at h I J d;refine .cond (λK=>.bind .idx λi ak=>.skip λam=>.bind .idx λan L=>.bind .idx λM N=>.eq (.ret ?_)) λK=>.ret ⟨h,λk c=>⟨(d k c).1,(d k c).2 ?_⟩⟩
 ·obtain⟨O,j⟩:=N;simp only at O j;have Q:i=M:=by omega
  subst Q;have ao:aV (g+1)=g+1:=by rw[eU] <;> omega
  refine⟨by simp_all[eZ,vC],by grind,by grind,λk c=>?_⟩;simp only;rw[Gz j];by_cases R:k=i
  ·subst R;rw[bT o];exact⟨(d k c).1,λ_=>Aj L.2⟩
  grind
 grind
def yS(l:R eP):Prop:=S l=6∧∀k,k<6->(al l k).e2=(al Bb k).1∧(al l k).iZ∈(al Bb k).2
def yS.set{l:R eP}(a:yS l){j:Nat}(d:j<6){x:cC}(e:x∈(al Bb j).2):yS (eZ l j {al l j with iZ:=x}):=by
 refine⟨by simp only[eZ,vC];exact a.1,λk b=>?_⟩;rw[Gz (by rw[a.1];exact d)];by_cases c:k=j
 ·subst c;rw[bT o];exact⟨(a.2 k b).1,e⟩
 rw[bU c];exact a.2 k b
def agk(b:dB):hf (vz b) (λc=>yS c.1):=by
 unfold vz;refine .eq (.eq (.eq (.eq (.eq (.eq (.eq (.eq (.eq (.eq (.eq (.eq (.eq (.skip λh=>.eq (.skip λi=>.eq (.eq (.eq (.skip λl=>?_)))))))))))))))));refine .bind (P:=yS) (.cond (λ_=>.bind .idx λd m=>.eq (.ret ?_)) λ_=>.ret ?_) λn a=>.skip λo=>.bind (P:=yS) (.cond (λ_=>.bind .idx λe p=>.eq (.ret ?_)) λ_=>.ret a) λq f=>.ret f
 ·have:d=2:=by omega
  subst this;refine yS.set (j:=2) ⟨rfl,λk g=>?_⟩ (by omega) (gO _ (jS ..));have:k=0∨k=1∨k=2∨k=3∨k=4∨k=5:=by omega
  rcases this with rfl|rfl|rfl|rfl|rfl|rfl <;> exact⟨rfl,jS ..⟩
 ·refine⟨rfl,λk g=>?_⟩;have:k=0∨k=1∨k=2∨k=3∨k=4∨k=5:=by omega
  rcases this with rfl|rfl|rfl|rfl|rfl|rfl <;> exact⟨rfl,jS ..⟩
 have:e=4:=by omega
 subst this;exact a.set (by omega) (gO _ (jS ..))
structure qA(s:aU):Prop where
 yT:∀k,k<4->(al s.bK k).gA<=12∧(al s.bK k).iZ∈al D3 k
 ac:yS s.cM
 yP:∀x∈s.eo,SM s.bK x.iH∧x.iH.length<=1000∧x.cM.length<=6
 p2:2<=s.kB∧s.kB<=9
def agS(i:dB):hf (oB i) (λj=>qA j.1):=by
 unfold oB;refine .bind (Ag _ 8 (by omega)) λk C=>.skip λD=>.eq (.eq (.eq (.eq (.eq (.eq (.eq (.eq (.eq (.eq (.eq (.eq (.skip λE=>.bind (agk _) λl m=>.bind (agR _) λn o=>.eq (.eq (.bind (aht _ _ (by simp_all)) λp q=>.eq (.skip λF=>.skip λG=>.skip λH=>?_)))))))))))))));have f:∀{r:aB} (a:aU×r),qA a.1->∀c,qA ({a.1 with dh:=c}:aU):=λa d c=>⟨d.yT,d.ac,d.yP,d.p2⟩;have b:∀c,qA ({({({({({(b1:aU)with kB:=aV (2+k.1)}:aU)with cM:=l.1}:aU)with bK:=n.1}:aU)with eo:=p.1}:aU)with dh:=c}:aU):=λc=>⟨o.2,m,q,by grind[eU]⟩;refine .bind (P:=λa=>qA a.1) (.cond (λ_=>.eq (.skip λy=>.ret ⟨(b []).yT,(b []).ac,(b []).yP,(b []).p2⟩)) λ_=>.ret ⟨(b []).yT,(b []).ac,(b []).yP,(b []).p2⟩) λA g=>.skip λI=>.skip λJ=>?_;refine .bind (P:=λa=>qA a.1) (.cond (λ_=>.eq (.skip λy=>.ret (f A g _))) λ_=>.ret g) λB h=>.skip λK=>.skip λL=>?_;exact .bind (P:=λa=>qA a.1) (.cond (λ_=>.eq (.eq (.skip λy=>.ret (f B h _)))) λ_=>.ret h) λM e=>.eq (.ret ⟨e.yT,e.ac,e.yP,e.p2⟩)
theorem ch.aP{s:aU}(d:ch s){k:Nat}(f:k<4):(al s.bK k).bS∈al SL k:=by
 obtain⟨a,b,c,g⟩:=d.tables;have e:=uF nx (l:=s.bK) (k:=k) (by rw[d.jM];exact f);rw[g]at e;have h:(al s.bK k).bS=(al (tJ a b c) k).2.2:=by rw[e];rfl
 rw[h];have i:∀k,k<4->∀a b c,(al (tJ a b c) k).2.2∈al SL k:=by decide
 grind
section
variable{s:aU}{k:Nat}{e:bg}
def ass(f:ch s)(e:qA s):AK s:=by
 refine⟨λg aF=>by have:=e.yP g aF;omega,λt i l d=>?_,λa j l d=>?_⟩
 ·obtain⟨k,c,rfl⟩:=yY i;rw[f.jM]at c;rw[<-dI]at d⊢;exact(Wo (asn k c _ (e.yT k c).2 _ (f.aP c)) d).mono λg aF b h=>Wh (uj aF) h
 obtain⟨k,c,rfl⟩:=yY j;rw[f.yz]at c;rw[<-dI]at d⊢;have aC:=(e.ac.2 k c).1;refine(Wo (aso k c _ (e.ac.2 k c).2) (a:=l) ?_).mono λg aF b h=>Wh (uj aF) h;rw[<-aC];exact d
def Yj{l:R Int}(d:Int)(f:S l<=1000):aM (Gp l d) (λ_=>True):=by
 unfold Gp;refine a' (S l) (λc a=>a=(c:Int)) (by omega) o (λc a e b=>?_) λa b=>?_
 ·subst b;exact .cond (λ_=>.idx o e (.cond (λ_=>.ret (.ret bo)) λ_=>.ret (cZ (by omega)))) λg=>by simp_all
 subst b;exact⟨.inl (),by simp,.ret bo⟩
def agT(a y:aW):aM (xz a y) (λ_=>True):=by
 unfold xz;exact(ah0 a y).bind λ_ _=>.ret bo
def ajJ(e:cJ)(k b:Int)(c:0<=b)(d:b<=128):aM (Jo e k b) (λ_=>True):=by
 unfold Jo;have a:=λf y=>agT f y;refine(U9 b c d).bind λg _=>.cond (λ_=>.ret bo) λ_=>(a _ _).bind λh _=>.bs (λ_=>a _ _) λi _=>.bs (λ_=>a _ _) λj _=>.cond (λ_=>.ret bo) λ_=>?_;refine .cond (λ_=>.bs (λ_=>afW _ _ c d) λl _=>.bs (λ_=>a _ _) λm _=>.ret bo) λ_=>.cond (λ_=>.bs (λ_=>a _ _) λ_ _=>.ret bo) λ_=>?_;exact .cond (λ_=>(O0 _ _).bind λ_ _=>.eq o (.ret bo)) λ_=>.ret bo
def aiB(a:cJ)(k:Int):aM (J4 a k) (λ_=>True):=by
 unfold J4;refine .cond (λ_=>.cond (λ_=>.ret bo) λ_=>.ret bo) λ_=>.eq o (.bind (P:=λ_=>True) (.cond (λ_=>.ret bo) λ_=>?_) λ_ _=>.cond (λ_=>.ret bo) λ_=>.ret bo);exact .bind (P:=λ_=>True) (.cond (λ_=>.ret bo) λ_=>.bind (P:=λ_=>True) (.cond (λ_=>.ret bo) λ_=>.ret bo) λ_ _=>.ret bo) λ_ _=>.ret bo
def ajK{t:dc}(e:S t.bS<=1000):aM (Jz t) (λ_=>True):=by
 unfold Jz;refine a' (S t.bS) (λc a=>a=(c:Int)) (by omega) o (λc a d b=>?_) λa b=>?_
 ·subst b;exact .cond (λ_=>.idx o d (.eq o (.cond (λ_=>.ret (.ret bo)) λ_=>.ret (cZ (by omega))))) λf=>by simp_all
 subst b;exact⟨.inl (),by simp,.ret bo⟩
def af2(a:ch s)(b:k<4)(i:fu s k e):aM (Jx s e) (λ_=>True):=by
 unfold Jx;have j:=(a.ev b).2.2.1;have n:=(a.ev b).2.1;have aQ:=i.len;have l:k<S s.bK:=by rw[a.jM];exact b
 rw[i.ev];refine(Gn a b).bind λp aF=>?_;subst aF;refine .cond (λ_=>.ret bo) λ_=>.idx o l (.eq o (.cond (λ_=>.ret bo) λ_=>?_));refine a' (S (al s.bK k).bS) (λc d=>d=(c:Int)) (by omega) o (λc d f g=>?_) λd g=>?_
 ·subst g;have h:mu (al (al s.bK k).bS c):=j _ (Aj f);refine .cond (λ_=>.idx o f (.idx o (by omega) ((aiB _ _).bind λq _=>.cond (λ_=>.ret (.ret bo)) λ_=>.idx o (by omega) ((ag9 a f h).bind λr m=>?_)))) λA=>by simp_all
  subst m;exact(ajJ _ _ _ (RD h).1 (RD h).2).bind λB _=>.cond (λ_=>.ret (.ret bo)) λ_=>.ret (cZ (by omega))
 subst g;exact⟨.inl (),by simp,(ajK (by omega)).bind λC _=>.eq o (.cond (λ_=>.ret bo) λ_=>.ret bo)⟩
def aiC(d:aW)(f:Int):aM (Kc d f) (λ_=>True):=by
 unfold Kc;refine .bind (P:=λ_=>True) ?_ λ_ _=>.ret bo;unfold OU;refine a' 128 (λa b=>b=127-(a:Int)) (by omega) o (λa b i c=>?_) λb c=>?_
 ·subst c;obtain⟨e,g⟩:∃e:Nat,(127:Int)-(a:Int)=(e:Int):=⟨127-a,by omega⟩;rw[g];refine .cond (λ_=>(v8 d).bind λj _=>.idx o (by omega) (.cond (λ_=>.ret (.ret bo)) λ_=>.ret ?_)) λh=>by simp at h
  grind[eU]
 subst c;exact⟨.inl (),rfl,.ret bo⟩
def agl(a:eP)(l:R aW)(g:S a.e2<=1000):aM (JJ a l) (λ_=>True):=by
 unfold JJ;refine .cond (λ_=>.ret bo) λe=>?_;have e:S l=S a.e2:=by grind
 refine a' (S a.e2) (λd b=>b=(d:Int)) (by omega) o (λd b f c=>?_) λb c=>?_
 ·subst c;exact .cond (λ_=>.idx o f (.idx o (by omega) ((aiC _ _).bind λ_ _=>.cond (λ_=>.ret (.ret bo)) λ_=>.ret (cZ (by omega))))) λh=>by simp_all
 subst c;exact⟨.inl (),by simp,.ret bo⟩
def UO(c:ch s)(a:Int):aM (FI s a) (λb=>(b= -1∧a∉[1,2,3,4,5,6])∨∃k:Nat,k<6∧b=(k:Int)):=by
 unfold FI;refine(Lv c).bind λi d=>?_;have e:s.cM.map (·.cA)=[1,2,3,4,5,6]:=by
  have:=eO (List.map Prod.fst) c.Ai;rw[uu]at this;exact this
 rw[d.Ai,e];exact(YA [1,2,3,4,5,6] a (by simp)).bind λb f=>.ret (f.imp id λ⟨k,g,h,_⟩=>⟨k,g,h⟩)
def Qp(b:qA s){a:Nat}(c:a<6):S (al s.cM a).e2<=1000:=by
 rw[(b.ac.2 a c).1];have d:∀a,a<6->S (al Bb a).1<=1000:=by decide
 simp_all
def afd(a:ch s)(i:qA s)(b:k<4)(j:fu s k e):aM (Jd s e) (λ_=>True):=by
 unfold Jd;have l:=(a.ev b).2.2.2;have m:k<S s.bK:=by rw[a.jM];exact b
 have p:=a.yz;rw[j.ev];refine(Gn a b).bind λq aF=>?_;subst aF;refine .cond (λ_=>.ret bo) λ_=>.idx o m ?_;refine a' (S (al s.bK k).cM) (λg c=>c=(g:Int)) (by omega) o (λg c h d=>?_) λc d=>?_
 ·subst d;have r:=l.2 _ (Aj h);refine .cond (λ_=>.idx o h (.cond (λ_=>.ret (cZ (by omega))) λ_=>(UO a _).bind λA f=>?_)) λB=>by simp_all
  rcases f with⟨_,f⟩|⟨C,n,rfl⟩
  ·exfalso;apply f;simp only[fj,s0,tj];omega
  exact .idx o (by omega) (.eq o (.cond (λ_=>.ret (.ret bo)) λ_=>(agl _ _ (Qp i n)).bind λD _=>.cond (λ_=>.ret (.ret bo)) λ_=>.ret (.ret bo)))
 subst d;exact⟨.inl (),by simp,.ret bo⟩
def aiD(a:ch s){c:eu}(e:mu c):aM (Kd s c) (λd=>0<=d∧d<=128):=by
 obtain⟨h,b,f,_,_,i,j,_⟩:=e;unfold Kd;rw[f];refine(U8 a b).bind λy g=>.cond (λ_=>.ret (by omega)) λ_=>.idx g (by rw[a.sL];exact b) (.ret ?_);rw[(a.vf b).2];omega
def aiE(n:ch s)(r:k<4)(e:bg):aM (Gc s (al s.bK k) e) (λC=>S C<=4000):=by
 unfold Gc;have D:=(n.ev r).2.2.1;have aQ:=(n.ev r).2.1;refine .bind (P:=λb=>S b<=2*S (al s.bK k).bS) (bY (S (al s.bK k).bS) (λc f=>f.1=(c:Int)∧S f.2<=2*c) (by omega) ⟨rfl,by simp⟩ (λc f A p=>?_) λf p=>?_) λb d=>.eq o (.eq o (.eq (eS _ _ (by grind) (by omega)) (.ret (by grind))))
 ·obtain⟨a,l⟩:=f;obtain⟨h,i⟩:=p;simp only at h i;subst h;have j:∀g y:gj,dA 48 l [g,y]=U (l++[g,y]):=λg y=>eS _ _ (by grind) (by omega);have m:∀g y:gj,S (l++[g,y])<=2*(c+1):=λg y=>by grind
  refine .cond (λ_=>.idx o A (.bind (P:=λ_=>True) (.cond (λq=>.idx o (by simp_all) (.ret bo)) λ_=>.ret bo) λE _=>.bind (P:=λ_=>True) (.cond (λ_=>(aiD n (D _ (Aj A))).bind λF B=>(U9 _ B.1 B.2).bind λ_ _=>.ret bo) λ_=>.ret bo) λG _=>?_)) λq=>by simp_all
  refine .bind (P:=λb=>S b<=2*(c+1)) (.cond (λ_=>.eq o (.eq o (.eq (j _ _) (.ret (m _ _))))) λ_=>?_) λb d=>.ret ⟨cZ (by omega),d⟩;refine .bind (P:=λb=>S b<=2*(c+1)) (.cond (λ_=>.eq o (.eq o (.eq o (.eq (j _ _) (.ret (m _ _)))))) λ_=>?_) λb d=>.ret d;refine .bind (P:=λb=>S b<=2*(c+1)) (.cond (λ_=>.eq o (.eq o (.eq (j _ _) (.ret (m _ _))))) λ_=>?_) λb d=>.ret d;exact .bind (P:=λb=>S b<=2*(c+1)) (.cond (λ_=>.eq o (.eq o (.eq (j _ _) (.ret (m _ _))))) λ_=>.ret (by grind)) λb d=>.ret d
 obtain⟨a,l⟩:=f;obtain⟨h,i⟩:=p;simp only at h i;subst h;exact .cond (λq=>by simp at q) λ_=>.ret i
def af3(a:eP)(j:R aW)(p:S a.e2<=1000):aM (FG a j) (λk=>S k<=4000):=by
 unfold FG;refine .bind (P:=λi=>S i<=4000) (bY (S a.e2) (λe c=>c.1=(e:Int)∧S c.2<=e) (by omega) ⟨rfl,by simp⟩ (λe c m f=>?_) λc f=>?_) λi n=>.ret n
 ·obtain⟨b,l⟩:=c;obtain⟨d,g⟩:=f;simp only at d g;subst d;exact .cond (λ_=>.idx o m (.eq o (.bind (P:=λ_=>True) (.cond (λh=>.idx o (by simp_all) (.ret bo)) λ_=>.ret bo) λq _=>.eq (eS _ _ (by grind) (by omega)) (.ret ⟨cZ (by omega),by simp_all⟩)))) λh=>by simp_all
 obtain⟨b,l⟩:=c;obtain⟨d,g⟩:=f;simp only at d g;subst d;exact .cond (λh=>by simp at h) λ_=>.ret (by grind)
def Wp{a:cC}{l:R gJ}{b:R gj}(d:aM (B8 a l) Ask)(e:S b<=4000):aM (Cp a l b) (λ_=>True):=by
 unfold Cp;refine d.bind λc f=>.bs (P:=λ_=>True) (λi=>?_) λ_ _=>.ret bo;unfold OI;obtain⟨g,j,k⟩:=f (by simp_all);have h:aV ((S c.1:Int)-1)=(S c.1:Int)-1:=by rw[eU] <;> omega
 rw[h];exact(Wk (m:=bX) g (by omega) e (by omega) (by grind[bX]) (by omega)).bind λ_ _=>.ret bo
def afC(t:dc)(p:S t.bS<=400):aM (Fx t) (λm=>S m<=1000):=by
 unfold Fx;refine .bind (P:=λb=>S b<=2*S t.bS) (bY (S t.bS) (λc e=>e.1=(c:Int)∧S e.2<=2*c) (by omega) ⟨rfl,by simp⟩ (λc e n j=>?_) λe j=>?_) λb d=>.eq o (.eq (eS _ _ (by grind) (by omega)) (.ret (by grind)))
 ·obtain⟨a,l⟩:=e;obtain⟨f,g⟩:=j;simp only at f g;subst f;have h:∀i y:gJ,aM ((U i).bind λi=>(U y).bind λy=>(dA 32 l [i,y]).bind λy=>U y) (λb=>S b<=2*(c+1)):=λi y=>.eq o (.eq o (.eq (eS _ _ (by grind) (by omega)) (.ret (by grind))));refine .cond (λ_=>.idx o n (.bind (P:=λb=>S b<=2*(c+1)) (.cond (λ_=>h _ _) λ_=>?_) λb d=>.ret ⟨cZ (by omega),d⟩)) λk=>by simp_all
  refine .bind (P:=λb=>S b<=2*(c+1)) (.cond (λ_=>h _ _) λ_=>?_) λb d=>.ret d;refine .bind (P:=λb=>S b<=2*(c+1)) (.cond (λ_=>h _ _) λ_=>?_) λb d=>.ret d;exact .bind (P:=λb=>S b<=2*(c+1)) (.cond (λ_=>h _ _) λ_=>.ret (by grind)) λb d=>.ret d
 obtain⟨a,l⟩:=e;obtain⟨f,g⟩:=j;simp only at f g;subst f;exact .cond (λk=>by simp at k) λ_=>.ret g
def afr(a:eP)(n:S a.e2<=1000):aM (Fq a) (λj=>S j<=1000):=by
 unfold Fq;refine .bind (P:=λh=>S h<=1000) (bY (S a.e2) (λe c=>c.1=(e:Int)∧S c.2<=e) (by omega) ⟨rfl,by simp⟩ (λe c k f=>?_) λc f=>?_) λh m=>.ret m
 ·obtain⟨b,l⟩:=c;obtain⟨d,g⟩:=f;simp only at d g;subst d;exact .cond (λ_=>.idx o k (.eq o (.eq (eS _ _ (by grind) (by omega)) (.ret ⟨cZ (by omega),by simp_all⟩)))) λi=>by simp_all
 obtain⟨b,l⟩:=c;obtain⟨d,g⟩:=f;simp only at d g;subst d;exact .cond (λi=>by simp at i) λ_=>.ret (by grind)
def agU(b:ch s)(g:qA s)(c:k<4)(F:fu s k e):aM (JS s e) (λ_=>True):=by
 unfold JS;have i:k<S s.bK:=by rw[b.jM];exact c
 have O:=b.yz;rw[F.ev];refine(Gn b c).bind λQ aF=>?_;subst aF;have G:V ((k:Int)<0)=Z:=zd (by omega);rw[G];have aQ:=(b.ev c).2.1;refine .bs (λ_=>oQ i) λR j=>.bs (λ_=>oQ i) λaa l=>?_;have j:=j o;have l:=l o;subst j l;refine .bs (λ_=>afC _ (by omega)) λab H=>.bs (λ_=>oQ i) λac m=>?_;have m:=m o;subst m;refine .bs (λ_=>aiE b c e) λad I=>.bs (λ_=>Wp (YV (asq _ c _ (g.yT _ c).2) (H o)) (I o)) λae _=>.cond (λ_=>.ret bo) λ_=>.cond (λ_=>.ret bo) λ_=>(UO b _).bind λaf f=>?_;rcases f with⟨rfl,_⟩|⟨B,h,rfl⟩
 ·have J:V ((-1:Int)>=0)=Z:=rfl;rw[J];have d:∀{n C:aB} [Inhabited n] {K:aw n} {D:n->aw C} {E:C->Prop},(∀a,aM (D a) E)->aM ((bs Z X K).bind D) E:=λp=>.bs (P:=λ_=>True) (λp=>by cases p) λa _=>p a;exact d λ_=>d λ_=>d λ_=>d λ_=>d λ_=>d λ_=>.ret bo
 have q:B<S s.cM:=by omega
 have L:V ((B:Int)>=0)=X:=xl (by omega);rw[L];refine .bs (λ_=>oQ q) λag r=>.bs (λ_=>oQ q) λah f=>?_;have r:=r o;have f:=f o;subst r f;refine .bs (λ_=>afr _ (Qp g h)) λai M=>.bs (λ_=>oQ q) λaj A=>?_;have A:=A o;subst A;exact .bs (λ_=>af3 _ _ (Qp g h)) λak N=>.bs (λ_=>Wp (YV (asr _ h _ (g.ac.2 _ h).2) (M o)) (N o)) λ_ _=>.ret bo
def ahu(a:ch s)(j:qA s)(p:k<4):aM (JY s 1 ((k:Int)+1)) (λy=>y.2=X->S y.1.bS=S (al s.bK k).bS):=by
 unfold JY;have e:0<S s.eo:=by rw[a.o8];decide
 obtain⟨l,q,_⟩:=j.yP _ (Aj e);refine .eq (LB a 1) (.cond (λ_=>.ret λb=>by cases b) λ_=>.idx (k:=0) o e ?_);refine a' (S (al s.eo 0).iH) (λf c=>c=(f:Int)) (by omega) o (λf c g d=>?_) λc d=>?_
 ·subst d;refine .cond (λ_=>.idx o g (.cond (λr=>.ret (.ret λ_=>?_)) λ_=>.ret (cZ (by omega)))) λb=>by simp_all
  obtain⟨t,m,h,n⟩:=l _ (Aj g);obtain⟨A,i,rfl⟩:=yY m;rw[a.jM]at i;rw[<-dI]at h n;rw[(a.ev i).1]at h;grind
 subst d;exact⟨.inl (),by simp,.ret λb=>by cases b⟩
def agV(a:ch s)(d:qA s)(b:k<4){e:eQ}(c:fu s k e.aS):aM (zK s 1 e) (λ_=>True):=by
 unfold zK;have h:0<S s.eo:=by rw[a.o8];decide
 have l:k<S s.bK:=by rw[a.jM];exact b
 have aQ:=c.len;have n:=(a.ev b).2.1;rw[c.ev];refine .eq (LB a 1) (.cond (λ_=>.ret bo) λ_=>(Gn a b).bind λp aF=>?_);subst aF;refine .cond (λ_=>.ret bo) λ_=>(ahu a d b).bind λq i=>.cond (λ_=>.ret bo) λr=>(af2 a b c).bind λA _=>.cond (λ_=>.ret bo) λ_=>?_;have i:=i (by simp_all);refine a' (S e.aS.cp) (λj f=>f=(j:Int)) (by omega) o (λj f m g=>?_) λf g=>?_
 ·subst g;exact .cond (λ_=>.idx o m (.bs (λ_=>oQ (by omega)) λB _=>.cond (λ_=>.ret (.ret bo)) λ_=>.ret (cZ (by omega)))) λC=>by simp_all
 subst g;refine⟨.inl (),by simp,.eq o (.cond (λ_=>.ret bo) λ_=>.cond (λ_=>.ret bo) λ_=>.idx o l ((Yj _ (by have:=(a.ev b).2.2.2.1;omega)).bind λD _=>.cond (λ_=>.ret bo) λ_=>?_))⟩;refine .bind (P:=λ_=>True) ?_ λE _=>.cond (λ_=>.ret bo) λ_=>(afd a d b c).bind λF _=>.cond (λ_=>.ret bo) λ_=>(agU a d b c).bind λG _=>.cond (λ_=>.ret bo) λ_=>.ret bo;unfold OW;exact .eq (LB a 1) (.idx (k:=0) o h ((Yj _ (by have:=(d.yP _ (Aj h)).2.2;omega)).bind λ_ _=>.ret bo))
end
def arO(c:dB)(m:gv c):hf (oB c) λb=>HB {b.1 with dh:=[]}:=λb aF=>by
 have a:=((O7 c m).of_eq aF).1;have j:=Vy c b aF;have e:=agS c b aF;have f:ch {b.1 with dh:=[]}:=⟨a.fields,a.headers,a.QE,a.Ai,a.tables,a.Dm,a.apd⟩;have g:qA {b.1 with dh:=[]}:=⟨e.yT,e.ac,e.yP,e.p2⟩;refine⟨f,λk d=>(g.yT k d).1,⟨λ_ n=>(by cases n),by simp,j.quo,j.all⟩,rfl,g.p2,λl h=>?_,λl h=>?_⟩
 ·obtain⟨k,d,i⟩:=h.dS;exact ahl f (ass f g) d 1 l i
 obtain⟨k,d,i⟩:=h.dS;exact agV f g d i
def afD(a b:_):Fj [] a b (λc=>c.1=X):=(af1 [] a b arO).run
end Go.Proofs.YtmcjlfmeoehcmaaGreat
