/-
  What the programs compute, in plain Lean. Conditions: none.
-/
import Derived.Test.YtppgfphgdogpeaaGreatSp0
import Derived.Test.YtppgfphgdogpeaaGreatSl1
set_option linter.defProp false
set_option linter.unusedVariables false
set_option linter.unusedSimpArgs false
set_option maxRecDepth 100000
namespace Go.Proofs.YtppgfphgdogpeaaGreat
open Go Gv
def Hy{hp hp':aL Cell}{p:Nat}(h:pat hp' p=pat hp p):jU hp' p=jU hp p:=by unfold jU;rw[h]
def Hz{hp hp':aL Cell}{p:Nat}(h:pat hp' p=pat hp p):mS hp' p=mS hp p:=by unfold mS;rw[h]
def ajc{hp:aL Cell}{p:Nat}{k:Cell}{x:lG}(h:pat hp p=some k):jU (cL hp p (.rF x)) p=some x:=by unfold jU;rw[tc h]
def ajd{hp:aL Cell}{p:Nat}{k:Cell}{x:aa (Int×Ref)}(h:pat hp p=some k):mS (cL hp p (.tq x)) p=some x:=by unfold mS;rw[tc h]
structure te(s:aZ)(hp:aL Cell)(p m:Nat)(fr:List (Int×Ref))(n:Nat)(ls:Nat->List aH)(own:Nat->Nat->Prop):Prop where
 has:∀k,k<n->∃q,dG fr ((k:Int)+1)=some (some q)∧lO s k hp q (ls k) (own k)
 no:∀x:Int,x<1∨(n:Int)<x->dG fr x=none
 JQ:∀k k',k<n->k'<n->k≠k'->∀q,own k q->¬own k' q
 out:∀k,k<n->¬own k p∧¬own k m
def te.congr{s:aZ}{hp hp':aL Cell}{p m:Nat}{fr:aa (Int×Ref)}{n:Nat}{ls:Nat->aa aH}{own:Nat->Nat->Prop}(h:te s hp p m fr n ls own)(hk:∀q,q∈eb hp->q∈eb hp')(aY:∀k,k<n->∀q,own k q->pat hp' q=pat hp q):te s hp' p m fr n ls own:=
 ⟨λk kn=>by obtain⟨q,h1,ad⟩:=h.has k kn;exact⟨q,h1,ad.congr hk (aY k kn)⟩,h.no,h.JQ,h.out⟩
structure rG(s:aZ)(hp:aL Cell)(p:Nat)(ls:Nat->List aH)(next:Int):Prop where
 cell:∃m fr own,jU hp p=some ⟨s,⟨some m⟩,next⟩∧mS hp m=some fr∧te s hp p m fr 4 ls own
def fb(ls:Nat->aa aH)(k:Nat)(l:aa aH):Nat->aa aH:=λj=>if j=k then l else ls j
def LS{s:aZ}{hp:aL Cell}{p:Nat}{ls:Nat->aa aH}{next:Int}(h:rG s hp p ls next){k:Nat}(hk:k<4):∃q own,ra hp (some p) ((k:Int)+1)=some (some q)∧lO s k hp q (ls k) own:=by
 obtain⟨m,fr,own,h1,ad,aB⟩:=h.cell;obtain⟨q,aV,ba⟩:=aB.has k hk;refine⟨q,own k,?_,ba⟩;refine a8.get ?_;unfold ra;refine .cond (λag=>by cases ag) λ_=>.eq rfl (.eq h1 (.eq rfl (.eq ad (.eq rfl (.ret ?_)))));rw[aV];rfl
def LU{s:aZ}{hp:aL Cell}{p:Nat}{ls:Nat->aa aH}{next:Int}(h:rG s hp p ls next){x:Int}(au:x<1∨4<x):ra hp (some p) x=some none:=by
 obtain⟨m,fr,own,h1,ad,aB⟩:=h.cell;refine a8.get ?_;unfold ra;refine .cond (λag=>by cases ag) λ_=>.eq rfl (.eq h1 (.eq rfl (.eq ad (.eq rfl (.ret ?_)))));rw[aB.no x (by omega)];rfl
def QX{s:aZ}(hs:b7 s){hp:aL Cell}{p:Nat}{ls:Nat->aa aH}{next:Int}(h:rG s hp p ls next){k:Nat}(hk:k<4){e:bl}(he:fE s k e):xV hp (some p) e=some (jg (dw (ls k) e)):=by
 obtain⟨q,own,h1,ad⟩:=LS h hk;refine a8.get ?_;unfold xV;rw[he.fF];exact .eq h1 (.eq (QU hs hk ad he) (.ret I))
def akA{s:aZ}(hs:b7 s){hp:aL Cell}{p:Nat}{ls:Nat->aa aH}{next:Int}(h:rG s hp p ls next){k:Nat}(hk:k<4):GK hp (some p) ((k:Int)+1)=some (ax s.bK k).ie:=by
 obtain⟨m,fr,own,h1,ad,aB⟩:=h.cell;refine a8.get ?_;unfold GK;refine .eq I (.eq h1 ((PK hs hk).bind λao av=>?_));subst av;exact .idx I (by rw[hs.lN];exact hk) (.ret I)
def akB{s:aZ}{hp:aL Cell}{p:Nat}{ls:Nat->aa aH}{next:Int}(h:rG s hp p ls next):GH hp (some p)=some next:=by
 obtain⟨m,fr,own,h1,ad,aB⟩:=h.cell;refine a8.get ?_;unfold GH;exact .cond (λag=>by cases ag) λ_=>.eq rfl (.eq h1 (.ret rfl))
def YS(o:aE aH):(jg o).2=o.isSome:=by cases o <;> rfl
def te.change{s:aZ}{hp hp':aL Cell}{p:Nat}{ls:Nat->aa aH}{next:Int}{m:Nat}{fr:aa (Int×Ref)}{own:Nat->Nat->Prop}(h1:jU hp p=some ⟨s,⟨some m⟩,next⟩)(ad:mS hp m=some fr)(aB:te s hp p m fr 4 ls own){k:Nat}(hk:k<4){q:Nat}(hq:dG fr ((k:Int)+1)=some (some q)){l:aa aH}{own':Nat->Prop}
 (au:lO s k hp' q l own') (a6:∀x,own' x->own k x∨x∉eb hp) (rO:fp hp hp' (own k)):jU hp' p=some ⟨s,⟨some m⟩,next⟩∧mS hp' m=some fr∧te s hp' p m fr 4 (fb ls k l) (λj=>if j=k then own' else own j):=by
 have l4:=ki (wN h1)
 have h8:=ki (yg ad)
 have bz:=(aB.out k hk).1
 have cE:=(aB.out k hk).2
 refine⟨by rw[Hy (rO.rest p l4 bz)];exact h1,by rw[Hz (rO.rest m h8 cE)];exact ad,⟨λj aC=>?_,aB.no,λj pI aC pA di x iF oc=>?_,λj aC=>?_⟩⟩
 ·by_cases e:j=k
  ·subst e
   refine⟨q,hq,?_⟩
   unfold fb
   rw[bh I,bh I];exact au
  obtain⟨oY,g1,g2⟩:=aB.has j aC
  refine⟨oY,g1,?_⟩
  unfold fb
  rw[bf e,bf e]
  exact g2.mU rO λx au=>aB.JQ j k aC hk e x au
 ·have key:∀j,j<4->j≠k->own' x->¬own j x:=λj aC di aV ba=>by
   obtain⟨oY,g1,g2⟩:=aB.has j aC;rcases a6 x aV with bq|bq
   ·exact aB.JQ j k aC hk di x ba bq
   exact bq (g2.pE x ba)
  by_cases e:j=k
  ·rw[bh e]at iF
   rw[bf (λe'=>di (e.trans e'.symm))]at oc
   exact key pI pA (λe'=>di (e.trans e'.symm)) iF oc
  rw[bf e]at iF
  by_cases e':pI=k
  ·rw[bh e']at oc;exact key j aC e oc iF
  rw[bf e']at oc;exact aB.JQ j pI aC pA di x iF oc
 by_cases e:j=k
 ·rw[bh e]
  refine⟨λh=>?_,λh=>?_⟩
  ·rcases a6 p h with aV|aV
   ·exact bz aV
   exact aV l4
  rcases a6 m h with aV|aV
  ·exact cE aV
  exact aV h8
 rw[bf e];exact aB.out j aC
def alG{s:aZ}(hs:b7 s)(hp:aL Cell):cQ (Hx hp s) (λr=> ∃p,r.1=some p∧rG s r.2 p (λ_=>[]) 1):=by
 unfold Hx;refine .mk λm hm=>.eq I (.mk λp bQ=>?_);simp only at bQ⊢;have nI:p≠m:=λe=>bQ (by rw[e];exact jC);have o2:jU ((p,Cell.rF ⟨s,⟨some m⟩,1⟩)::(m,Cell.tq [])::hp) p=some ⟨s,⟨some m⟩,1⟩:=by unfold jU;rw[lq,bh I]
 have d0:mS ((p,Cell.rF ⟨s,⟨some m⟩,1⟩)::(m,Cell.tq [])::hp) m=some []:=by unfold mS;rw[lq,bf nI,lq,bh I]
 refine .eq o2 ?_;simp only;refine .bind (P:=λav=> ∃fr own,jU av.2.2 p=some ⟨s,⟨some m⟩,1⟩∧mS av.2.2 m=some fr∧te s av.2.2 p m fr 4 (λ_=>[]) own)
  (cQ.loop 4 (λi st=> ∃hp' fr own,st=((i:Int),hp')∧jU hp' p=some ⟨s,⟨some m⟩,1⟩∧mS hp' m=some fr∧te s hp' p m fr i (λ_=>[]) own) (by omega) ⟨_,[],λ_ _=>False,rfl,o2,d0,⟨λk hk=>by omega,λ_ _=>rfl,λk k' hk=>by omega,λk hk=>by omega⟩⟩ (λi st aq b5=>?_) (λst b5=>?_)) λav h1=>.ret ⟨p,rfl,?_⟩
 ·obtain⟨hp',fr,own,rfl,g1,g2,g3⟩:=b5;have y6:=wN g1;have Jz:=yg g2;refine .cond (λ_=>.idx I (by rw[hs.lN];exact aq) (.eq g1 ?_)) λag=>by have:=hs.lN;simp at ag;omega
  rw[(hs.fF aq).1];refine .bind (alE hs aq hp') λao h1=>?_;obtain⟨q,e,au,hk⟩:=h1;obtain⟨as3,cZ⟩:=ao;simp only at e au hk;subst e;have aJ:jU cZ p=some ⟨s,⟨some m⟩,1⟩:=by rw[Hy (hk.rest p (ki y6) id)];exact g1
  have bx:mS cZ m=some fr:=by rw[Hz (hk.rest m (ki Jz) id)];exact g2
  have Ni:=yg bx;refine .eq (a:=()) (by unfold I9;rw[bh aJ]) (.eq I (.eq bx (.eq I (.ret ?_))));have Eu:m≠p:=λe=>by rw[e]at Ni;rw[wN aJ]at Ni;cases Ni
  have y7:∀x,x≠m->pat (cL cZ m (Cell.tq (gS fr ((i:Int)+1) (some q)))) x=pat cZ x:=λx au=>nm au.symm;have hold:∀j,j<i->∀x,own j x->pat (cL cZ m (Cell.tq (gS fr ((i:Int)+1) (some q)))) x=pat hp' x:=λj aC x au=>by
   obtain⟨oY,_,eF⟩:=g3.has j aC;rw[y7 x λe=>(g3.out j aC).2 (e▸au)];exact hk.rest x (eF.pE x au) id
  have tt:∀x,oF EV hp' cZ x->x∉eb hp':=λx au=>au.elim (λh=>h.elim) λh=>h.1;refine⟨_,gS fr ((i:Int)+1) (some q),λj=>if j=i then oF EV hp' cZ else own j,by simp only[dB (show i<2^62 by omega)],by rw[Hy (y7 p Eu.symm)];exact aJ,ajd Ni,⟨λj aC=>?_,λx au=>?_,λj pI aC pA di x iF oc=>?_,λj aC=>?_⟩⟩
  ·by_cases e:j=i
   ·subst e;refine⟨q,by rw[wx,bh I],?_⟩;rw[bh I];exact au.congr (λx au=>by rw[sa];exact au) λx iF=>y7 x λe=>tt x iF (e▸ki Jz)
   obtain⟨oY,dL,eF⟩:=g3.has j (by omega);refine⟨oY,by rw[wx,bf (by omega)];exact dL,?_⟩;rw[bf e];exact eF.congr (λx au=>by rw[sa];exact hk.keys x au) (hold j (by omega))
  ·rw[wx,bf (by omega)];exact g3.no x (by omega)
  ·have key:∀j,j<i->oF EV hp' cZ x->¬own j x:=λj aC h1 ad=>by
    obtain⟨oY,_,eF⟩:=g3.has j aC;exact tt x h1 (eF.pE x ad)
   by_cases e:j=i
   ·rw[bh e]at iF;rw[bf (λe'=>di (e.trans e'.symm))]at oc;exact key pI (by omega) iF oc
   rw[bf e]at iF;by_cases e':pI=i
   ·rw[bh e']at oc;exact key j (by omega) oc iF
   rw[bf e']at oc;exact g3.JQ j pI (by omega) (by omega) di x iF oc
  by_cases e:j=i
  ·rw[bh e];exact⟨λh=>tt p h (ki y6),λh=>tt m h (ki Jz)⟩
  rw[bf e];exact g3.out j (by omega)
 ·obtain⟨hp',fr,own,rfl,g1,g2,g3⟩:=b5;refine .cond (λag=>by have:=hs.lN;simp at ag;omega) λ_=>.ret ⟨fr,own,g1,g2,g3⟩
 obtain⟨fr,own,bX,a2,a3⟩:=h1;exact⟨m,fr,own,bX,a2,a3⟩
def aje{l:aa aH}{e:bl}{i:aH}(h:dw l e=none)(aq:fG i.aX e=true):dw (l++[i]) e=some i:=by
 unfold dw at h⊢;rw[FL,h,Option.none_or];simp[aq]
def EW:bl:= {(default:bl)with bG:=1,bP:=[({(default:cG)with gp:=true}:cG)],eJ:=1}
def RK{s:aZ}(h:b7 s):fE s 0 EW:=by
 refine⟨rfl,by rw[h.MW];rfl,λi aq=>?_,by decide,λ_=>rfl⟩;rw[h.MW]at aq⊢;have:i=0:=by have:i<1:=aq;omega
 subst this;show sh 1 (hG sK) {(default:cG)with gp:=true};have bC:∀j,cq ({(default:cG)with gp:=true}:cG).cc j=false:=λj=>DG j;exact⟨λh=>(by cases h),λ_=>rfl,λ_ j _ bc=>(by rw[bC]at bc;cases bc),λh=>(by cases h),λh=>(by cases h),IV,λh=>(by cases h),λ_=>rfl,λ_=>rfl,λh=>(by cases h),λh=>(by cases h),λh=>(by cases h),λ_=>rfl⟩
def jG{ls:Nat->aa aH}{k:Nat}{l:aa aH}:fb ls k l k=l:=by unfold fb;rw[bh I]
def kj{ls:Nat->aa aH}{k j:Nat}{l:aa aH}(h:j≠k):fb ls k l j=ls j:=by unfold fb;rw[bf h]
def LV(l:aa aH)(e:bl):(da l e).length<=l.length:=vc _ _
structure mF{α:Type}(f:α->α->Int):Prop where
 neg:∀x y,f x y<0↔0<f y x
 oh:∀x y z,f x y<=0->f y z<=0->f x z<=0
def mF.self{α:Type}{f:α->α->Int}(h:mF f)(x:α):f x x=0:=by have:=h.neg x x;omega
def mF.on{α β:Type}{f:β->β->Int}(h:mF f)(g:α->β):mF (λx y=>f (g x) (g y)):=⟨λx y=>h.neg _ _,λx y z=>h.oh _ _ _⟩
def mF.rev{α:Type}{f:α->α->Int}(h:mF f):mF (λx y=>f y x):=⟨λx y=>h.neg y x,λx y z h1 ad=>h.oh z y x ad h1⟩
def jW{α:Type}(f g:α->α->Int)(x y:α):Int:=if f x y=0 then g x y else f x y
def wD{α:Type}{f g:α->α->Int}{x y:α}(h:jW f g x y=0):f x y=0∧g x y=0:=by
 unfold jW at h;split at h
 ·rename_i e;exact⟨e,h⟩
 rename_i e;exact absurd h e
def mF.jW{α:Type}{f g:α->α->Int}(h:mF f)(k:mF g):mF (Go.Proofs.YtppgfphgdogpeaaGreat.jW f g)where
 neg x y:=by
  unfold Go.Proofs.YtppgfphgdogpeaaGreat.jW;have h1:=h.neg x y;have ad:=h.neg y x;by_cases e:f x y=0
  ·rw[bh e,bh (by omega)];exact k.neg x y
  rw[bf e,bf (by omega)];exact h1
 oh x y z:=by
  unfold Go.Proofs.YtppgfphgdogpeaaGreat.jW;intro h1 ad;have bX:f x y<=0:=by by_cases e:f x y=0 <;> simp[e]at h1 <;> omega
  have a2:f y z<=0:=by by_cases e:f y z=0 <;> simp[e]at ad <;> omega
  have a3:=h.oh x y z bX a2;by_cases e:f x z=0
  ·have zm:f z x<=0:=by have:=h.neg x z;have:=h.neg z x;omega
   have dL:=h.oh z x y zm bX;have eF:=h.oh y z x a2 zm;have c1:f y z=0:=by have:=h.neg y z;omega
   have c2:f x y=0:=by have:=h.neg x y;omega
   rw[bh c2]at h1;rw[bh c1]at ad;rw[bh e];exact k.oh x y z h1 ad
  rw[bf e];exact a3
def Iy{x y:Int}:eP x y<0↔x<y:=by unfold eP;split <;> (try split) <;> omega
def D9{x y:Int}:0<eP x y↔y<x:=by unfold eP;split <;> (try split) <;> omega
def k4{x y:Int}:eP x y=0↔x=y:=by unfold eP;split <;> (try split) <;> omega
def tk:mF eP:=⟨λx y=>by rw[Iy,D9],λx y z h1 ad=>by
 have a:= @D9 x y;have b:= @D9 y z;have c:= @D9 x z;omega⟩
def lc{α:Type}(g:α->α->Int):aa α->aa α->Int
 |[],[]=>0
 |[],_::_=> -1
 |_::_,[]=>1
 |a::r,b::t=>if g a b=0 then lc g r t else g a b
def Zq{α:Type}{g:α->α->Int}(h:mF g):∀(x y:aa α),lc g x y<0↔0<lc g y x
 |[],[]=>by simp[lc]
 |[],_::_=>by simp[lc]
 |_::_,[]=>by simp[lc]
 | a::r,b::t=>by
   have h1:=h.neg a b;have ad:=h.neg b a;unfold lc;by_cases e:g a b=0
   ·rw[bh e,bh (by omega)];exact Zq h r t
   rw[bf e,bf (by omega)];exact h1
def aaW{α:Type}{g:α->α->Int}(h:mF g):∀(x y z:aa α),lc g x y<=0->lc g y z<=0->lc g x z<=0
 |[],_,[],_,_=>by simp[lc]
 |[],_,_::_,_,_=>by simp[lc]
 |_::_,[],_,h1,_=>by simp[lc]at h1
 |_::_,_::_,[],_,ad=>by simp[lc]at ad
 | a::r,b::t,c::u,h1,ad=>by
   unfold lc at h1 ad⊢;have bX:g a b<=0:=by by_cases e:g a b=0 <;> simp[e]at h1 <;> omega
   have a2:g b c<=0:=by by_cases e:g b c=0 <;> simp[e]at ad <;> omega
   have a3:=h.oh a b c bX a2;by_cases e:g a c=0
   ·have zm:g c a<=0:=by have:=h.neg a c;have:=h.neg c a;omega
    have dL:=h.oh c a b zm bX;have eF:=h.oh b c a a2 zm;have c1:g b c=0:=by have:=h.neg b c;omega
    have c2:g a b=0:=by have:=h.neg a b;omega
    rw[bh c2]at h1;rw[bh c1]at ad;rw[bh e];exact aaW h r t u h1 ad
   rw[bf e];exact a3
def Sv{α:Type}{g:α->α->Int}(h:mF g):mF (lc g):=⟨Zq h,aaW h⟩
def QY{α:Type}{g:α->α->Int}(h:∀a b,g a b=0->a=b):∀{x y:aa α},lc g x y=0->x=y
 |[],[],_=>rfl
 |[],_::_,e=>by simp[lc]at e
 |_::_,[],e=>by simp[lc]at e
 | a::r,b::t,e=>by
   unfold lc at e;split at e
   ·rename_i av;rw[h a b av,QY h e]
   rename_i av;exact absurd e av
def gC(v:aN):Int:=((v.dX.toNat*18446744073709551616+v.cI.toNat:Nat):Int)
def AT{x y:aN}(h:gC x=gC y):x=y:=by
 obtain⟨a,b⟩:=x;obtain⟨c,d⟩:=y;unfold gC at h;simp only at h;first
 | (have h1:=a.isLt;have ad:=b.isLt;have aB:=c.isLt;have aV:=d.isLt
    have av:a=c:=zB (by omega)
    have aS:b=d:=zB (by omega)
    rw[av,aS])
def QZ(x y:aN):re x y=some (eP (gC x) (gC y)):=by
 unfold re;by_cases e:x=y
 ·subst e;simp only[GV,cond_true];rw[k4.2 I]
 simp only[e,Pt,cond_false,Option.bind_some];have di:gC x≠gC y:=λh=>e (AT h);have b9:((decide (x.dX<y.dX))||((x.dX==y.dX)&&(decide (x.cI<y.cI))))=decide (gC x<gC y):=by
  rw[kQ];simp only[qo,gm,e2,ni,zU];unfold gC;have h1:=x.dX.isLt;have ad:=x.cI.isLt;have aB:=y.dX.isLt;have aV:=y.cI.isLt;constructor
  ·rintro (h|⟨h,cU⟩)
   ·omega
   rw[h];omega
  intro h;by_cases bT:x.dX.toNat<y.dX.toNat
  ·exact .inl bT
  have:x.dX.toNat=y.dX.toNat:=by omega
  exact .inr ⟨zB this,by omega⟩
 rw[b9];unfold eP;by_cases bc:gC x<gC y
 ·simp[bc]
 rw[sT bc,bf bc,bh (by omega)];rfl
def kU:aa Int->Int
 |[]=>0
 |a::r=>if a=0 then kU r else a
def Xh{l:aa Int}(an:l.length<=1000):wq l=some (kU l):=by
 refine a8.get ?_;unfold wq;refine .bind (P:=λe=>(∃q,e=.inl q∧kU l=0)∨∃q:Int×Int×Int×Bool×Bool,e=.inr q∧q.1=kU l)
  (a8.jJ l.length (λj st=>st=(j:Int)∧kU l=kU (l.drop j)) (by omega) ⟨rfl,rfl⟩ (λj st aC hs=>?_) (λst hs=>?_)) λe he=>?_
 ·obtain⟨rfl,hs⟩:=hs;rw[q4 aC]at hs;have hs:kU l=if l[j]=0 then kU (l.drop (j+1))else l[j]:=hs;refine .cond (λ_=>.idx I aC ?_) λag=>by simp at ag;omega
  rw[dz _ aC];refine .cond (λag=>.ret (.inr ⟨_,rfl,?_⟩)) λag=>.ret ⟨dB (by omega),?_⟩
  ·have:l[j]≠0:=by simpa using ag
   rw[hs,bf this]
  have:l[j]=0:=by simpa using ag
  rw[hs,bh this]
 ·obtain⟨rfl,hs⟩:=hs;refine .cond (λag=>by simp at ag) λ_=>.ret (.inl ⟨_,rfl,?_⟩);rw[hs,r2];rfl
 rcases he with⟨q,rfl,hq⟩|⟨q,rfl,hq⟩
 ·simp only[Sum.elim_inl];exact .ret hq.symm
 simp only[Sum.elim_inr];exact .ret hq
def aeK{g:cG->cG->Int}{f:cG->cG->aE Int}(aW:∀a b,f a b=some (g a b)){xs ys:aa cG}(au:xs.length<=100000)(aR:ys.length<=100000):Fa xs ys f=some (lc g xs ys):=by
 refine a8.get ?_;unfold Fa;refine .bind (P:=λe=>(∃q,e=.inl q∧lc g xs ys=if xs.length<ys.length then -1 else 0)∨∃q:Int×Int×Int×Bool×Bool,e=.inr q∧q.1=lc g xs ys)
  (a8.jJ xs.length (λj st=>st=(j:Int)∧j<=ys.length∧lc g xs ys=lc g (xs.drop j) (ys.drop j)) (by omega) ⟨rfl,by omega,rfl⟩ (λj st aC hs=>?_) (λst hs=>?_)) λe he=>?_
 ·obtain⟨rfl,BW,hs⟩:=hs;refine .cond (λ_=>.idx I aC (.cond (λag=>.ret (.inr ⟨_,rfl,?_⟩)) λag=>?_)) λag=>by simp at ag;omega
  ·have ag:ys.length<=j:=by simpa using ag
   rw[hs,q4 aC,zz ag];rfl
  have b9:j<ys.length:=by simpa using ag
  rw[q4 aC,q4 b9]at hs;refine .idx I b9 (.eq (aW _ _) ?_);rw[dz _ aC,dz _ b9];have hs:lc g xs ys=if g xs[j] ys[j]=0 then lc g (xs.drop (j+1)) (ys.drop (j+1))else g xs[j] ys[j]:=hs;refine .cond (λag=>.ret (.inr ⟨_,rfl,?_⟩)) λag=>.ret ⟨dB (by omega),b9,?_⟩
  ·have:g xs[j] ys[j]≠0:=by simpa using ag
   rw[hs,bf this]
  have:g xs[j] ys[j]=0:=by simpa using ag
  rw[hs,bh this]
 ·obtain⟨rfl,BW,hs⟩:=hs;refine .cond (λag=>by simp at ag) λ_=>.ret (.inl ⟨_,rfl,?_⟩);rw[hs,r2];cases hd:ys.drop xs.length with
  | nil=>
    have:=Kt.1 hd
    rw[bf (by omega)];rfl
  | cons z xz=>
    have:ys.length-xs.length=xz.length+1:=by rw[<-ke,hd];rfl
    rw[bh (by omega)];rfl
 rcases he with⟨q,rfl,hq⟩|⟨q,rfl,hq⟩
 ·simp only[Sum.elim_inl];refine .cond (λag=>.ret ?_) λag=>.ret ?_
  ·rw[hq,bh (by simpa using ag)]
  rw[hq,bf (by simpa using ag)]
 simp only[Sum.elim_inr];exact .ret hq
def aeL{g:aN->aN->Int}{f:aN->aN->aE Int}(aW:∀a b,f a b=some (g a b)){xs ys:aa aN}(au:xs.length<=100000)(aR:ys.length<=100000):Fb xs ys f=some (lc g xs ys):=by
 refine a8.get ?_;unfold Fb;refine .bind (P:=λe=>(∃q,e=.inl q∧lc g xs ys=if xs.length<ys.length then -1 else 0)∨∃q:Int×Int×Int×Bool×Bool,e=.inr q∧q.1=lc g xs ys)
  (a8.jJ xs.length (λj st=>st=(j:Int)∧j<=ys.length∧lc g xs ys=lc g (xs.drop j) (ys.drop j)) (by omega) ⟨rfl,by omega,rfl⟩ (λj st aC hs=>?_) (λst hs=>?_)) λe he=>?_
 ·obtain⟨rfl,BW,hs⟩:=hs;refine .cond (λ_=>.idx I aC (.cond (λag=>.ret (.inr ⟨_,rfl,?_⟩)) λag=>?_)) λag=>by simp at ag;omega
  ·have ag:ys.length<=j:=by simpa using ag
   rw[hs,q4 aC,zz ag];rfl
  have b9:j<ys.length:=by simpa using ag
  rw[q4 aC,q4 b9]at hs;refine .idx I b9 (.eq (aW _ _) ?_);rw[dz _ aC,dz _ b9];have hs:lc g xs ys=if g xs[j] ys[j]=0 then lc g (xs.drop (j+1)) (ys.drop (j+1))else g xs[j] ys[j]:=hs;refine .cond (λag=>.ret (.inr ⟨_,rfl,?_⟩)) λag=>.ret ⟨dB (by omega),b9,?_⟩
  ·have:g xs[j] ys[j]≠0:=by simpa using ag
   rw[hs,bf this]
  have:g xs[j] ys[j]=0:=by simpa using ag
  rw[hs,bh this]
 ·obtain⟨rfl,BW,hs⟩:=hs;refine .cond (λag=>by simp at ag) λ_=>.ret (.inl ⟨_,rfl,?_⟩);rw[hs,r2];cases hd:ys.drop xs.length with
  | nil=>
    have:=Kt.1 hd
    rw[bf (by omega)];rfl
  | cons z xz=>
    have:ys.length-xs.length=xz.length+1:=by rw[<-ke,hd];rfl
    rw[bh (by omega)];rfl
 rcases he with⟨q,rfl,hq⟩|⟨q,rfl,hq⟩
 ·simp only[Sum.elim_inl];refine .cond (λag=>.ret ?_) λag=>.ret ?_
  ·rw[hq,bh (by simpa using ag)]
  rw[hq,bf (by simpa using ag)]
 simp only[Sum.elim_inr];exact .ret hq
def nK(m:cG):Int:=if m.gp=true then 1 else 0
def alH(m:cG):C7 m=some (nK m):=by
 unfold C7 nK;cases m.gp <;> rfl
def ql:cG->cG->Int:=jW (λx y=>eP (nK x) (nK y)) (jW (λx y=>eP (gC x.cc) (gC y.cc)) (jW (λx y=>eP (gC x.hx) (gC y.hx)) (jW (λx y=>eP x.er y.er) (λx y=>eP (gC x.lr) (gC y.lr)))))
def Sw:mF ql:=(tk.on nK).jW ((tk.on λx:cG=>gC x.cc).jW ((tk.on λx:cG=>gC x.hx).jW ((tk.on λx:cG=>x.er).jW (tk.on λx:cG=>gC x.lr))))
def YT{x y:cG}(h:ql x y=0):x=y:=by
 obtain⟨h1,h⟩:=wD h;obtain⟨ad,h⟩:=wD h;obtain⟨aB,h⟩:=wD h;obtain⟨aV,ba⟩:=wD h;refine QS ?_ (AT (k4.1 ad)) (AT (k4.1 aB)) (k4.1 aV) (AT (k4.1 ba));have:=k4.1 h1;unfold nK at this;cases au:x.gp <;> cases aR:y.gp <;> simp[au,aR]at this <;> rfl
def ach(a b c d e:Int):kU [a,b,c,d,e]=if a=0 then(if b=0 then(if c=0 then(if d=0 then e else d)else c)else b)else a:=by
 have:(if e=0 then 0 else e)=e:=by split <;> omega
 show(if a=0 then(if b=0 then(if c=0 then(if d=0 then(if e=0 then 0 else e)else d)else c)else b)else a)=_;rw[this]
def agS(x y:cG):Gg x y=some (ql x y):=by
 unfold Gg;by_cases e:x=y
 ·subst e;simp only[GV,cond_true];rw[Sw.self]
 simp only[e,Pt,cond_false,alH,wQ,QZ,Option.bind_some];rw[Xh (by simp),ach];rfl
def va:bl->bl->Int:=jW (λx y=>eP x.bG y.bG) (jW (λx y=>eP y.gI x.gI) (jW (λx y=>lc ql x.bP y.bP) (jW (λx y=>eP x.eJ y.eJ) (λx y=>lc (λv w=>eP (gC v) (gC w)) x.fM y.fM))))
def aor:mF va:=(tk.on λx:bl=>x.bG).jW ((tk.on λx:bl=>x.gI).rev.jW (((Sv Sw).on λx:bl=>x.bP).jW ((tk.on λx:bl=>x.eJ).jW ((Sv (tk.on gC)).on λx:bl=>x.fM))))
def aaX{x y:bl}(h:va x y=0):fG x y=true:=by
 obtain⟨h1,h⟩:=wD h;obtain⟨ad,h⟩:=wD h;obtain⟨aB,h⟩:=wD h;exact td.2 ⟨k4.1 h1,QY (λa b=>YT) aB,(k4.1 ad).symm⟩
def akC{x y:bl}(h1:x.bP.length<=1000)(ad:y.bP.length<=1000)(aB:x.fM.length<=1000)(aV:y.fM.length<=1000):G5 x y=some (va x y):=by
 unfold G5;rw[wQ,wQ,wQ,aeK agS (by omega) (by omega),aeL QZ (by omega) (by omega)];simp only[Option.bind_some];rw[Xh (by simp),ach];rfl
def ail{α:Type}[Inhabited α]{xs:aa α}{k:Nat}{v:α}(hk:k<xs.length)(i:Nat):ax (iw xs k v) i=if i=k then v else ax xs i:=by
 unfold ax iw;by_cases e:i=k
 ·subst e;rw[bh I];simp[hk]
 rw[bf e];simp[xJ (x4 e)]
def Ql{c:aH->aH->Int}(ag:mF c):∀{xs ys:aa aH},xs.Perm ys->xs.Pairwise (λa b=>c a b<=0)->ys.Pairwise (λa b=>c a b<=0)->(∀a∈xs,∀b∈xs,c a b=0->a=b)->xs=ys
 |[],ys,h,_,_,_=>h.nil_eq
 |x::r,[],h,_,_,_=>by have:=h.length_eq;simp at this
 | x::r,y::t,h,h1,ad,aB=>by
   obtain⟨bX,a2⟩:=kz.1 h1;obtain⟨dL,eF⟩:=kz.1 ad;have e:x=y:=by
    have au:x∈y::t:=h.mem_iff.1 jC;have aR:y∈x::r:=h.mem_iff.2 jC;rcases dP.1 au with e|au
    ·exact e
    rcases dP.1 aR with e|sC
    ·exact e.symm
    refine aB x jC y aR ?_;have g1:=bX y sC;have g2:=dL x au;have:=ag.neg x y;omega
   subst e;rw[Ql ag (List.perm_cons x |>.1 h) a2 eF λa aY b hb=>aB a (gx _ aY) b (gx _ hb)]
def _root_.Gv.cQ.next{β:Type}{n:Nat}{vis:aa Nat}{k:aE Nat->aj β}{P:β->Prop}(h:∀j,B3 n vis j->cQ (k j) P):cQ (aj.bind (aj.next n vis) k) P:=λQ hq j aC=>h j aC Q hq
def _root_.Gv.cQ.wS{T:Type}{xs:aa T}{F:T->T->aE Int}{c:T->T->Int}(ag:za c)(an:xs.length<4611686018427387904)(ku:∀a∈xs,∀b∈xs,F a b=some (c a b)):cQ (aj.wS xs F) (λr=>r.Perm xs∧r.Pairwise (λa b=>c a b<=0)):=λQ hq=>⟨c,ag,an,ku,λys h1 ad=>hq ys ⟨h1,ad⟩⟩
structure Met(n:Nat)(vis:List Nat):Prop where
 one:vis.Nodup
 lt:∀q∈vis,q<n
def Met.more{n:Nat}{vis:aa Nat}{q:Nat}(h:Met n vis)(hq:q<n∧q∉vis):Met n (vis++[q]):=
 ⟨by rw[q5];exact⟨h.one,by simp,λa aY b hb e=>by rw[hT.1 hb]at e;exact hq.2 (e▸aY)⟩,λa aY=>by
  rcases cF.1 aY with aY|aY
  ·exact h.lt a aY
  rw[hT.1 aY];exact hq.1⟩
def Met.perm{n:Nat}{vis:aa Nat}(h:Met n vis)(aY:∀j,j<n->j∈vis):vis.Perm (List.range n):=
 (UM h.one List.nodup_range).2 λa=>⟨λh1=>lF.2 (h.lt a h1),λh1=>aY a (lF.1 h1)⟩
def Met.full{n:Nat}{vis:aa Nat}(h:Met n vis)(an:vis.length=n){q:Nat}(hq:q<n):q∈vis:=by
 false_or_by_contra;rename_i fJ;have h1:vis.Perm ((List.range n).filter λx=>decide (x∈vis)):=(UM h.one (List.nodup_range.filter _)).2 λa=>by
  rw[tV,lF,e2];exact⟨λh1=>⟨h.lt a h1,h1⟩,λh1=>h1.2⟩
 have ad:=h1.length_eq;have aB:((List.range n).filter λx=>decide (x∈vis)).length<(List.range n).length:=List.length_filter_lt_length_iff_exists.2 ⟨q,lF.2 hq,by simpa using fJ⟩;rw[List.length_range]at aB;omega
def Xi{α:Type}[Inhabited α](l:aa α):(List.range l.length).map (λq=>ax l q)=l:=by
 apply FV
 ·simp
 intro i h1 ad;simp only[pO,ON];rw[dz _ ad]
def mz(a c:aH):Int:=va a.aX c.aX
def DW:mF mz:=aor.on λi:aH=>i.aX
def aos{s:aZ}(h:b7 s){k:Nat}(hk:k<4){hp:aL Cell}{p:Nat}{l:aa aH}{own:Nat->Prop}(au:lO s k hp p l own)(hlen:l.length<=900):
 cQ (zZ hp (some p)) (λr=>r.2=hp∧r.1.Perm l∧r.1.Pairwise (λa b=>mz a b<=0)):=by
 obtain⟨f,m,em,h1,ad,aB,aV,ba,bq⟩:=au.cell
 have an:=au.gd.ok
 have sx:em.length=l.length:=by rw[ba.length_eq,k1]
 have Em:∀q,q<em.length->(ax em q).2∈l:=λq hq=>by
  have hm:ax em q∈em:=by rw[dz _ hq];exact j0 _
  obtain⟨i,aq,e⟩:=ic.1 (ba.mem_iff.1 hm);rw[<-e];exact aq
 have yG:∀vis,Met em.length vis->(∀j,j<em.length->j∈vis)->(vis.map λq=>(ax em q).2).Perm l:=λvis bc aY=>by
  refine((bc.perm aY).map _).trans ?_;have:(List.range em.length).map (λq=>(ax em q).2)=em.map (·.2):=by
   rw[show(List.range em.length).map (λq=>(ax em q).2)=((List.range em.length).map (λq=>ax em q)).map (·.2) by rw[sV];rfl,Xi]
  rw[this];refine(ba.map (·.2)).trans ?_;rw[sV,show((λx:Int×aH=>x.2) ∘ λi:aH=>(i.b0,i))=id from rfl,List.map_id]
 unfold zZ
 refine .cond (λag=>by cases ag) λ_=>.eq rfl (.eq h1 (.eq rfl (.eq ad ?_)))
 refine .bind (P:=λe=>e.2.2.Perm l) (cQ.loop em.length (λj st=> ∃vis,st=(vis,vis.map λq=>(ax em q).2)∧vis.length=j∧Met em.length vis) (by omega) ⟨[],rfl,rfl,.nil,by simp⟩ (λj st aC hs=>?_) (λst hs=>?_)) λe he=>?_
 ·obtain⟨vis,rfl,qT,bc⟩:=hs
  refine .next λo a6=>?_
  cases o with
  |none=>exact .cond (λag=>by cases ag) λ_=>.ret (yG vis bc a6)
  | some q=>
    refine .cond (λ_=>.eq I (.eq (DU h hk (an.ok _ (Em q a6.1))) (.eq (gz _ _ (by simp;omega) (by omega)) (.ret ⟨vis++[q],?_,by simp[qT],bc.more a6⟩)))) λag=>by cases ag
    rw[mI];rfl
 ·obtain⟨vis,rfl,qT,bc⟩:=hs
  refine .next λo a6=>?_
  cases o with
  |none=>exact .cond (λag=>by cases ag) λ_=>.ret (yG vis bc a6)
  |some q=>exact absurd (bc.full qT a6.1) a6.2
 have oS:∀a∈e.2.2,a.aX.bP.length<=1000∧a.aX.fM.length<=1000:=λa aY=>(an.ok a (he.mem_iff.1 aY)).small h hk
 have hle:=he.length_eq
 refine .bind (cQ.wS (c:=mz) ⟨DW.neg,DW.oh⟩ (by omega) λa aY b hb=>?_) λbg aR=>.ret ⟨rfl,aR.1.trans he,aR.2⟩
 unfold KT
 rw[akC (oS a aY).1 (oS b hb).1 (oS a aY).2 (oS b hb).2]
 rfl
def ajf{s:aZ}{k:Nat}{l l' r lW:aa aH}(an:ia s k l)(hp:l.Perm l')(h1:r.Perm l)(ad:lW.Perm l')(s1:r.Pairwise (λa b=>mz a b<=0))(s2:lW.Pairwise (λa b=>mz a b<=0)):r=lW:=
 Ql DW (h1.trans (hp.trans ad.symm)) s1 s2 λa aY b hb e=>an.uniq (h1.mem_iff.1 aY) (h1.mem_iff.1 hb) (aaX e)
def YU{α:Type}{b:α->α->Bool}(hb:uS b){q:α->Bool}:∀{l:aa α} {c:α},l.Pairwise (λx y=>b x y=true)->l.find? q=some c->∀d∈l,q d=true->d=c∨b c d=true
 |[],c,_,h,_,_,_=>by cases h
 | a::l,c,hs,h,d,hd,hq=>by
   obtain⟨h1,ad⟩:=kz.1 hs;by_cases pD:q a=true
   ·rw[Fh pD]at h;cases h;rcases dP.1 hd with aB|aB
    ·exact .inl aB
    exact .inr (h1 d aB)
   rw[Ck pD]at h;rcases dP.1 hd with aB|aB
   ·rw[aB]at hq;exact absurd hq pD
   exact YU hb ad h d aB hq
def arx{s:aZ}{k:Nat}{l:aa aH}(an:kr s k l){p:Vector aN 4}{c:aH}(h:j9 s k l p=some c):∀d∈l,mt s k p d.aX=true->d=c∨eS s k c d=true:=λd hd hq=>
 YU (uj s k) (HH (uj s k) an.ze) h d (rr.2 hd) hq
def ajg{s:aZ}{k:Nat}{l l':aa aH}(an:kr s k l)(kJ:kr s k l')(hm:∀i,i∈l↔i∈l')(p:Vector aN 4):j9 s k l p=j9 s k l' p:=by
 cases e:j9 s k l p with
 | some c=>
   have hq:mt s k p c.aX=true:=by unfold j9 at e;exact O5 (p:=λc:aH=>mt s k p c.aX) e
   exact(L9 (uj s k) kJ.ze ((hm c).1 (YQ e)) hq λd hd T0=>arx an e d ((hm d).2 hd) T0).symm
 | none=>
   refine(QP λd hd=>?_).symm
   unfold j9 at e
   have:=xL.1 e d (rr.2 ((hm d).2 hd))
   simpa using this
def uu(ls:Nat->aa aH)(x:Nat)(r:aa aH):Prop:=if x=0 then r=[]else r.Perm (ls (x-1))∧r.Pairwise (λa b=>mz a b<=0)
def X2{s:aZ}(hs:b7 s){hp:aL Cell}{p:Nat}{ls:Nat->aa aH}{next:Int}(h:rG s hp p ls next){x:Nat}(au:x<=4)(an:∀k,k<4->(ls k).length<=12):
 cQ (wi hp (some p) (x:Int)) (λr=>r.2=hp∧uu ls x r.1):=by
 unfold wi
 by_cases e:x=0
 ·subst e
  refine .eq (LU h (by omega)) ?_
  unfold zZ
  exact .bind (P:=λr=>r=([],hp)) (.cond (λ_=>.ret I) λag=>by cases ag) λr aG=>.ret (by rw[aG];exact⟨rfl,by unfold uu;rw[bh I]⟩)
 obtain⟨k,rfl⟩:∃k,x=k+1:=⟨x-1,by omega⟩
 obtain⟨q,own,h1,ad⟩:=LS h (show k<4 by omega)
 rw[show((k+1:Nat):Int)=(k:Int)+1 by omega]
 refine .eq h1 (.bind (aos hs (show k<4 by omega) ad (mg (an k (by omega)) (by omega))) λr aG=>.ret ⟨aG.1,?_⟩)
 unfold uu;rw[bf e];exact aG.2
def rG.gd{s:aZ}{hp:aL Cell}{p:Nat}{ls:Nat->aa aH}{next:Int}(h:rG s hp p ls next){k:Nat}(hk:k<4):ia s k (ls k):=by
 obtain⟨q,own,_,ad⟩:=LS h hk;exact ad.gd
def uu.same{s:aZ}(hs:b7 s){hp:aL Cell}{p:Nat}{ls:Nat->aa aH}{next:Int}(h:rG s hp p ls next){x:Nat}(au:x<=4){a c:aa aH}(aY:uu ls x a)(ag:uu ls x c):a=c∧z8 a a=some true:=by
 unfold uu at aY ag;by_cases e:x=0
 ·rw[bh e]at aY ag;rw[aY,ag];exact⟨rfl,Lk (λi aq=>by cases aq) (by simp)⟩
 rw[bf e]at aY ag;have iG:=h.gd (show x-1<4 by omega);refine⟨ajf iG (.refl _) aY.1 ag.1 aY.2 ag.2,Lk (λi aq=>(iG.ok.ok i (aY.1.mem_iff.1 aq)).small hs (by omega)) ?_⟩;have:=aY.1.length_eq;have:=iG.ok.len;omega
def P3{ls:Nat->aa aH}{k:Nat}:fb ls k (ls k)=ls:=by
 funext j;unfold fb;split
 ·rename_i e;rw[e]
 rfl
def lj(r c:Int):Prop:=(r<0↔c<0)∧(0<r↔0<c)
def lj.zero{r c:Int}(h:lj r c):r=0↔c=0:=by
 obtain⟨h1,ad⟩:=h;constructor
 ·intro e;have a: ¬c<0:=λx=>by have:=h1.2 x;omega
  have b: ¬0<c:=λx=>by have:=ad.2 x;omega
  omega
 intro e;have a: ¬r<0:=λx=>by have:=h1.1 x;omega
 have b: ¬0<r:=λx=>by have:=ad.1 x;omega
 omega
def lj.refl(r:Int):lj r r:=⟨Iff.rfl,Iff.rfl⟩
def Mw{α:Type}{f g:α->α->Int}{x y:α}(h:f x y=0):jW f g x y=g x y:=by unfold jW;rw[bh h]
def Mx{α:Type}{f g:α->α->Int}{x y:α}(h:f x y≠0):jW f g x y=f x y:=by unfold jW;rw[bf h]
def alI{a b:aN}:l2 a b=true↔gC a<gC b:=by
 rw[H0];simp only[zU];unfold gC;have h1:=a.dX.isLt;have ad:=a.cI.isLt;have aB:=b.dX.isLt;have aV:=b.cI.isLt;constructor
 ·rintro (h|⟨h,cU⟩)
  ·omega
  rw[h];omega
 intro h;by_cases bT:a.dX.toNat<b.dX.toNat
 ·exact .inl bT
 have:a.dX.toNat=b.dX.toNat:=by omega
 exact .inr ⟨zB this,by omega⟩
def H3(a b:aN):a8 (rh a b) (λr=>lj r (eP (gC a) (gC b))):=by
 refine(Lt a b).mono λr aG=>?_;obtain⟨h1,ad⟩:=aG;rw[alI]at h1 ad;exact⟨by rw[Iy];exact ad,by rw[D9];exact h1⟩
def H4(a b:Int):r4 a b=some (eP a b):=by
 unfold r4 eP;by_cases h:a<b
 ·simp[h]
 by_cases ad:b<a
 ·simp[h,ad]
 simp[h,ad]
def aim(x y:cG):a8 (Ad x y) (λr=>lj r (ql x y)):=by
 unfold Ad ql;by_cases hr:x.gp=y.gp
 ·have z0:eP (nK x) (nK y)=0:=k4.2 (by unfold nK;rw[hr]);rw[show(x.gp !=y.gp)=false by simp[hr]];refine .cond (λag=>by simp at ag) λ_=>.cond (λag=>by cases ag) λ_=>?_;rw[Mw (f:=λx y=>eP (nK x) (nK y)) z0];refine .cond (λag=>(H3 _ _).bind λr aG=>.ret ?_) λag=>?_
  ·rw[Mx]
   ·exact aG
   intro h;have:=AT (k4.1 h);simp[this]at ag
  have av:x.cc=y.cc:=by simpa using ag
  rw[Mw (f:=λx y:cG=>eP (gC x.cc) (gC y.cc)) (show eP (gC x.cc) (gC y.cc)=0 by rw[av];exact k4.2 I)];refine .cond (λag=>(H3 _ _).bind λr aG=>.ret ?_) λag=>?_
  ·rw[Mx]
   ·exact aG
   intro h;have:=AT (k4.1 h);simp[this]at ag
  have aS:x.hx=y.hx:=by simpa using ag
  rw[Mw (f:=λx y:cG=>eP (gC x.hx) (gC y.hx)) (show eP (gC x.hx) (gC y.hx)=0 by rw[aS];exact k4.2 I)];refine .cond (λag=>.eq (H4 _ _) (.ret ?_)) λag=>?_
  ·rw[Mx]
   ·exact lj.refl _
   intro h;have:=k4.1 h;simp[this]at ag
  have cM:x.er=y.er:=by simpa using ag
  rw[Mw (f:=λx y:cG=>eP x.er y.er) (show eP x.er y.er=0 by rw[cM];exact k4.2 I)];exact(H3 _ _).bind λr aG=>.ret aG
 rw[show(x.gp !=y.gp)=true by simp[hr]];have hs:eP (nK x) (nK y)=if y.gp=true then -1 else 1:=by
  unfold nK eP;cases au:x.gp <;> cases aR:y.gp <;> simp_all
 have di:eP (nK x) (nK y)≠0:=by rw[hs];split <;> decide
 rw[Mx (f:=λx y=>eP (nK x) (nK y)) di];show a8 _ (λr=>lj r (eP (nK x) (nK y)));rw[hs];refine .cond (λag=>.ret ?_) λag=>.cond (λ_=>.ret ?_) λag=>by cases ag
 ·rw[bh (by simpa using ag)];exact lj.refl _
 rw[bf (by simpa using ag)];exact lj.refl _
def YV{α:Type}[Inhabited α]{g:α->α->Int}{f:α->α->aE Int}(aW:∀a b,a8 (f a b) (λr=>lj r (g a b))){xs ys:aa α}(au:xs.length<=100000)(aR:ys.length<=100000):
 a8 ((dh (σ:=Int) (ε:=(Int×Bool)⊕(Int×Int×Int×Bool×Bool)) c9 (λs1=>
 cond ((decide (s1<(xs.length:Int)))&&(decide (s1<(ys.length:Int)))) (
  (idx xs.length s1).bind λaJ=>
  (idx ys.length s1).bind λbx=>
  (f (ax xs aJ) (ax ys bx)).bind λao=>
  cond (ao !=0) (
   some (.inr (Sum.inr (ao,s1,ao,(decide (s1<(xs.length:Int)))&&(decide (s1<(ys.length:Int))),ao !=0)))) (
   some (.inl (bm (s1+1))))) (
  some (.inr (Sum.inl (s1,(decide (s1<(xs.length:Int)))&&(decide (s1<(ys.length:Int)))))))) 0).bind λav=>
 Sum.elim (λav=>
  (r4 (xs.length:Int) (ys.length:Int)).bind λaF=>
  some aF) (λav=>
 some av.1) av) (λr=>lj r (lc g xs ys)):=by
 refine .bind (P:=λe=>(∃q,e=.inl q∧lc g xs ys=eP (xs.length:Int) (ys.length:Int))∨∃q:Int×Int×Int×Bool×Bool,e=.inr q∧lj q.1 (lc g xs ys))
  (a8.jJ (min xs.length ys.length) (λj st=>st=(j:Int)∧lc g xs ys=lc g (xs.drop j) (ys.drop j)) (by omega) ⟨rfl,rfl⟩ (λj st aC hs=>?_) (λst hs=>?_)) λe he=>?_
 ·obtain⟨rfl,hs⟩:=hs
  have T7:j<xs.length:=by omega
  have BW:j<ys.length:=by omega
  refine .cond (λ_=>?_) λag=>by
   rw[q9 (show(j:Int)<(xs.length:Int) by omega),q9 (show(j:Int)<(ys.length:Int) by omega)]at ag;cases ag
  rw[q4 T7,q4 BW]at hs
  refine .idx I T7 (.idx I BW ((aW _ _).bind λr aG=>?_))
  rw[dz _ T7,dz _ BW]at aG
  have hs:lc g xs ys=if g xs[j] ys[j]=0 then lc g (xs.drop (j+1)) (ys.drop (j+1))else g xs[j] ys[j]:=hs
  refine .cond (λag=>.ret (.inr ⟨_,rfl,?_⟩)) λag=>.ret ⟨dB (by omega),?_⟩
  ·have:r≠0:=by simpa using ag
   rw[hs,bf (λh=>this (aG.zero.2 h))];exact aG
  have:r=0:=by simpa using ag
  rw[hs,bh (aG.zero.1 this)]
 ·obtain⟨rfl,hs⟩:=hs
  refine .cond (λag=>by
   rw[gm,e2,e2]at ag;omega) λ_=>.ret (.inl ⟨_,rfl,?_⟩)
  rw[hs]
  rcases OS xs.length ys.length with h|h|h
  ·rw[show min xs.length ys.length=xs.length by omega,r2]
   cases hd:ys.drop xs.length with
   |nil=>have:=Kt.1 hd;omega
   | cons z xz=>
     unfold eP
     rw[bh (by omega)];rfl
  ·rw[show min xs.length ys.length=xs.length by omega,r2,h,r2,k4.2 I];rfl
  rw[show min xs.length ys.length=ys.length by omega,r2]
  cases hd:xs.drop ys.length with
  |nil=>have:=Kt.1 hd;omega
  | cons z xz=>
    unfold eP
    rw[bf (by omega),bh (by omega)];rfl
 rcases he with⟨q,rfl,hq⟩|⟨q,rfl,hq⟩
 ·simp only[Sum.elim_inl]
  refine .eq (H4 _ _) (.ret ?_)
  rw[hq];exact lj.refl _
 simp only[Sum.elim_inr]
 exact .ret hq
def Ww{xs ys:aa cG}(au:xs.length<=1000)(aR:ys.length<=1000):a8 (x0 xs ys) (λr=>lj r (lc ql xs ys)):=by
 unfold x0;exact YV aim (by omega) (by omega)
def ahr{xs ys:aa aN}(au:xs.length<=1000)(aR:ys.length<=1000):a8 (Aa xs ys) (λr=>lj r (lc (λv w=>eP (gC v) (gC w)) xs ys)):=by
 unfold Aa;exact YV H3 (by omega) (by omega)
def ain{l:aa Int}(an:l.length<=1000):a8 (dh (σ:=Int) (ε:=(Int×Bool)⊕(Int×Int×Int×Bool×Bool)) c9 (λs1=>
 cond (decide (s1<(l.length:Int))) (
  (idx l.length s1).bind λaJ=>
  cond ((ax l aJ) !=0) (
   some (.inr (Sum.inr (ax l aJ,ax l aJ,s1,decide (s1<(l.length:Int)),(ax l aJ) !=0)))) (
   some (.inl (bm (s1+1))))) (
  some (.inr (Sum.inl (s1,decide (s1<(l.length:Int))))))) 0) (λe=>(∃q,e=.inl q∧kU l=0)∨∃q:Int×Int×Int×Bool×Bool,e=.inr q∧q.1=kU l∧kU l≠0):=by
 refine a8.jJ l.length (λj st=>st=(j:Int)∧kU l=kU (l.drop j)) (by omega) ⟨rfl,rfl⟩ (λj st aC hs=>?_) (λst hs=>?_)
 ·obtain⟨rfl,hs⟩:=hs
  rw[q4 aC]at hs
  have hs:kU l=if l[j]=0 then kU (l.drop (j+1))else l[j]:=hs
  refine .cond (λ_=>.idx I aC ?_) λag=>by simp at ag;omega
  rw[dz _ aC]
  refine .cond (λag=>.ret (.inr ⟨_,rfl,?_⟩)) λag=>.ret ⟨dB (by omega),?_⟩
  ·have:l[j]≠0:=by simpa using ag
   rw[hs,bf this];exact⟨rfl,this⟩
  have:l[j]=0:=by simpa using ag
  rw[hs,bh this]
 obtain⟨rfl,hs⟩:=hs
 refine .cond (λag=>by simp at ag) λ_=>.ret (.inl ⟨_,rfl,?_⟩)
 rw[hs,r2];rfl
def ary(a b c d:Int):kU [a,b,c,d]=if a=0 then(if b=0 then(if c=0 then d else c)else b)else a:=by
 have hd:kU [d]=d:=by
  show(if d=0 then 0 else d)=d;split
  ·rename_i h;exact h.symm
  rfl
 show(if a=0 then(if b=0 then(if c=0 then kU [d]else c)else b)else a)=_;rw[hd]
def aot{t p m zv a v f:Int}(hm:lj m zv)(aW:f=if t=0 then(if p=0 then(if m=0 then a else m)else p)else t):
 (f≠0->lj f (if t=0 then(if p=0 then(if zv=0 then(if a=0 then v else a)else zv)else p)else t))∧(f=0->(if t=0 then(if p=0 then(if zv=0 then(if a=0 then v else a)else zv)else p)else t)=v):=by
 have bV:=hm.zero
 by_cases bD:t=0
 ·rw[bh bD]at aW
  by_cases hp:p=0
  ·rw[bh hp]at aW
   by_cases bC:m=0
   ·rw[bh bC]at aW
    rw[bh bD,bh hp,bh (bV.1 bC)]
    by_cases aY:a=0
    ·rw[bh aY];exact⟨λh=>absurd (aW.trans aY) h,λ_=>rfl⟩
    rw[bf aY,aW];exact⟨λ_=>lj.refl _,λh=>absurd h aY⟩
   rw[bf bC]at aW
   rw[bh bD,bh hp,bf (λh=>bC (bV.2 h)),aW]
   exact⟨λ_=>hm,λh=>absurd h bC⟩
  rw[bf hp]at aW
  rw[bh bD,bf hp,aW]
  exact⟨λ_=>lj.refl _,λh=>absurd h hp⟩
 rw[bf bD]at aW
 rw[bf bD,aW]
 exact⟨λ_=>lj.refl _,λh=>absurd h bD⟩
def akD{x y:bl}(h1:x.bP.length<=1000)(ad:y.bP.length<=1000)(aB:x.fM.length<=1000)(aV:y.fM.length<=1000):a8 (wm x y) (λr=>lj r (va x y)):=by
 unfold wm;refine .eq (H4 _ _) (.eq (H4 _ _) ((Ww h1 ad).bind λbg as4=>.eq (H4 _ _) ((ain (l:=[eP x.bG y.bG,eP y.gI x.gI,bg,eP x.eJ y.eJ]) (by simp)).bind λe he=>?_)));have as5:va x y=if eP x.bG y.bG=0 then(if eP y.gI x.gI=0 then(if lc ql x.bP y.bP=0 then(if eP x.eJ y.eJ=0 then lc (λv w=>eP (gC v) (gC w)) x.fM y.fM else eP x.eJ y.eJ)else lc ql x.bP y.bP)else eP y.gI x.gI)else eP x.bG y.bG:=rfl;obtain⟨aJ,bx⟩:=aot (v:=lc (λv w=>eP (gC v) (gC w)) x.fM y.fM) as4 (ary (eP x.bG y.bG) (eP y.gI x.gI) bg (eP x.eJ y.eJ));rw[<-as5]at aJ bx;rcases he with⟨q,rfl,bC⟩|⟨q,rfl,hq,bC⟩
 ·simp only[Sum.elim_inl];refine(ahr aB aV).bind λr aG=>.ret ?_;rw[bx bC];exact aG
 simp only[Sum.elim_inr];refine .ret ?_;rw[hq];exact aJ bC
def X3{x y:bl}(h1:x.bP.length<=1000)(ad:y.bP.length<=1000):Db x y=some (fG x y):=by
 refine a8.get ?_;unfold Db;refine .b1 (P:=λr=>lj r (lc ql x.bP y.bP)) (λ_=>Ww h1 ad) λr aG=>.eq I (.ret ?_);rw[kQ,td];simp only[gm,ni]at aG⊢;constructor
 ·rintro ⟨⟨av,aS⟩,cM⟩;exact⟨av,QY (λ_ _=>YT) ((aG ⟨av,aS⟩).zero.1 cM),aS⟩
 rintro ⟨av,aS,cM⟩;exact⟨⟨av,cM⟩,(aG ⟨av,cM⟩).zero.2 (by rw[aS];exact(Sv Sw).self _)⟩
def c8(ls:Nat->aa aH):aa aH:=ls 0++ls 1++ls 2++ls 3
def LW{ls:Nat->aa aH}{i:aH}:i∈c8 ls↔∃k,k<4∧i∈ls k:=by
 unfold c8;simp only[cF];constructor
 ·rintro (((h|h)|h)|h)
  ·exact⟨0,by decide,h⟩
  ·exact⟨1,by decide,h⟩
  ·exact⟨2,by decide,h⟩
  exact⟨3,by decide,h⟩
 rintro ⟨k,hk,h⟩;have:k=0∨k=1∨k=2∨k=3:=by omega
 rcases this with rfl|rfl|rfl|rfl
 ·exact .inl (.inl (.inl h))
 ·exact .inl (.inl (.inr h))
 ·exact .inl (.inr h)
 exact .inr h
def As{ls ls':Nat->aa aH}(h:∀k,k<4->(ls k).Perm (ls' k)):(c8 ls).Perm (c8 ls'):=
 (((h 0 (by decide)).append (h 1 (by decide))).append (h 2 (by decide))).append (h 3 (by decide))
def rm{ls:Nat->aa aH}{k:Nat}(hk:k<4)(i:aH):(c8 ls++[i]).Perm (c8 (fb ls k (ls k++[i]))):=by
 unfold c8;have c:∀a b d:aa aH,((a++b)++d).Perm (a++d++b):=λa b d=>by
  rw[iJ,iJ];exact Ov _ nQ
 have:k=0∨k=1∨k=2∨k=3:=by omega
 rcases this with rfl|rfl|rfl|rfl
 ·rw[jG,kj (by decide),kj (by decide),kj (by decide)];exact(c _ _ _).trans (((c _ _ _).trans ((c _ _ _).append_right _)).append_right _)
 ·rw[jG,kj (by decide),kj (by decide),kj (by decide),<-iJ (ls 0)];exact(c _ _ _).trans ((c _ _ _).append_right _)
 ·rw[jG,kj (by decide),kj (by decide),kj (by decide),<-iJ (ls 0++ls 1)];exact c _ _ _
 rw[jG,kj (by decide),kj (by decide),kj (by decide),iJ (ls 0++ls 1++ls 2)]
structure nA(s:aZ)(ls:Nat->List aH):Prop where
 gd:∀k,k<4->ia s k (ls k)
 len:∀k,k<4->(ls k).length<=12
structure j4(s:aZ)(y:cW)(ls:Nat->List aH)(next:Int):Prop where
 oT:y.gK=s
 num:y.ik=next
 vW:y.bN.Pairwise (λa b=>mz a b<=0)
 qd:y.bN.Perm (c8 ls)
def j4.len{s:aZ}{y:cW}{ls:Nat->aa aH}{next:Int}(h:j4 s y ls next)(an:nA s ls):y.bN.length<=48:=by
 rw[h.qd.length_eq];unfold c8;have bC:=an.len 0 (by decide);have h1:=an.len 1 (by decide);have ad:=an.len 2 (by decide);have aB:=an.len 3 (by decide);simp only[gH];omega
def j4.mem{s:aZ}{y:cW}{ls:Nat->aa aH}{next:Int}(h:j4 s y ls next){i:aH}:i∈y.bN↔∃k,k<4∧i∈ls k:=by
 rw[h.qd.mem_iff,LW]
def j4.dr{s:aZ}{y:cW}{ls:Nat->aa aH}{next:Int}(h:j4 s y ls next)(an:nA s ls){i:aH}(aq:i∈y.bN):∃k,k<4∧i∈ls k∧kq s k i:=by
 obtain⟨k,hk,aq⟩:=h.mem.1 aq;exact⟨k,hk,aq,(an.gd k hk).ok.ok i aq⟩
def j4.small{s:aZ}(hs:b7 s){y:cW}{ls:Nat->aa aH}{next:Int}(h:j4 s y ls next)(an:nA s ls){i:aH}(aq:i∈y.bN):i.aX.bP.length<=1000∧i.aX.fM.length<=1000:=by
 obtain⟨k,hk,_,aq⟩:=h.dr an aq;exact aq.small hs hk
def j4.dw{s:aZ}(hs:b7 s){y:cW}{ls:Nat->aa aH}{next:Int}(h:j4 s y ls next)(an:nA s ls){k:Nat}(hk:k<4){e:bl}(he:fE s k e):(y.bN.any λi=>fG i.aX e)=(Go.Proofs.YtppgfphgdogpeaaGreat.dw (ls k) e).isSome:=by
 rw[kQ,oo];constructor
 ·rintro ⟨i,aq,rN⟩;obtain⟨j,aC,gh,as6⟩:=h.dr an aq;have bD:=(td.1 rN).1;rw[as6.dr.fF,he.fF]at bD;have:j=k:=by omega
  subst this;cases aW:Go.Proofs.YtppgfphgdogpeaaGreat.dw (ls j) e with
  |some _=>rfl
  |none=>rw[uc aW i gh]at rN;cases rN
 intro aW;obtain⟨i,aW⟩:=Ci.1 aW;obtain⟨aq,rN⟩:=o7 aW;exact⟨i,h.mem.2 ⟨k,hk,aq⟩,rN⟩
def xc(y:cW)(x:Int):aa aH:=y.bN.filter λi=>i.aX.bG==x
def P4{y:cW}{x:Int}(hlen:y.bN.length<=1000):zR y x=some (xc y x):=by
 refine a8.get ?_;unfold zR;refine .bind (P:=λe=>e.2.2=xc y x) (a8.jJ y.bN.length (λj st=>st=((j:Int),(y.bN.take j).filter λi=>i.aX.bG==x)) (by omega) I (λj st aC hs=>?_) (λst hs=>?_)) λe he=>.ret he
 ·subst hs;have hle:=vc (λi:aH=>i.aX.bG==x) (y.bN.take j);rw[e8]at hle;refine .cond (λ_=>.idx I aC (.bind (P:=λm=>m=(y.bN.take (j+1)).filter λi=>i.aX.bG==x) (.cond (λag=>.eq (gz _ _ (by simp only[List.length_cons,List.length_nil];omega) (by omega)) (.ret ?_)) λag=>.ret ?_) λm hm=>.ret ?_)) λag=>by simp at ag;omega
  ·rw[mK _ aC,mG,show [ax y.bN j].filter (λi=>i.aX.bG==x)=[ax y.bN j]from by simp only[List.filter_cons,ag,lX,List.filter_nil]]
  ·rw[mK _ aC,mG,show [ax y.bN j].filter (λi=>i.aX.bG==x)=[]from by rw[List.filter_cons,ag];rfl,ot]
  rw[hm,dB (by omega)]
 subst hs;refine .cond (λag=>by simp at ag) λ_=>.ret ?_;show List.filter _ (List.take _ _)=_;rw[iD];rfl
def P5{s:aZ}{y:cW}{ls:Nat->aa aH}{next:Int}(h:j4 s y ls next)(an:nA s ls){k:Nat}(hk:k<4):(xc y ((k:Int)+1)).Perm (ls k):=by
 refine(h.qd.filter _).trans ?_;have key:∀j,j<4->(ls j).filter (λi=>i.aX.bG==(k:Int)+1)=if j=k then ls j else []:=λj aC=>by
  by_cases e:j=k
  ·subst e;rw[bh I];exact sQ.2 λc ag=>by rw[((an.gd j aC).ok.ok c ag).dr.fF];simp
  rw[bf e];exact UX.2 λc ag=>by rw[((an.gd j aC).ok.ok c ag).dr.fF];simp;omega
 unfold c8;rw[mG,mG,mG,key 0 (by decide),key 1 (by decide),key 2 (by decide),key 3 (by decide)];have:k=0∨k=1∨k=2∨k=3:=by omega
 rcases this with rfl|rfl|rfl|rfl <;> simp
def akE{s:aZ}{y:cW}{ls:Nat->aa aH}{next:Int}(h:j4 s y ls next)(an:nA s ls){x:Int}(au:x<1∨4<x):xc y x=[]:=
 UX.2 λc ag=>by
  obtain⟨k,hk,_,aq⟩:=h.dr an ag;rw[aq.dr.fF];simp;omega
def ajh{s:aZ}{y:cW}{ls:Nat->aa aH}{next:Int}(h:j4 s y ls next)(x:Int):(xc y x).Pairwise (λa b=>mz a b<=0):=h.vW.sublist Kv
def Zr{a b:bl}:(a.bG<b.bG->va a b<0)∧(b.bG<a.bG->0<va a b):=by
 have h:va a b=if eP a.bG b.bG=0 then _ else eP a.bG b.bG:=rfl;constructor
 ·intro b9;rw[h,bf (λbV=>by have:=k4.1 bV;omega)];exact Iy.2 b9
 intro b9;rw[h,bf (λbV=>by have:=k4.1 bV;omega)];exact D9.2 b9
def HK{s:aZ}(hs:b7 s){y:cW}(aR:y.gK=s){k:Nat}(hk:k<4){e:bl}(he:fE s k e):tX y e=some (k:Int):=by
 refine a8.get ?_;unfold tX;rw[aR,he.fF];exact(PL hs hk).bind λr aG=>.ret aG
def YW{s:aZ}(hs:b7 s){y:cW}{ls:Nat->aa aH}{next:Int}(h:j4 s y ls next)(an:nA s ls){k:Nat}(hk:k<4){i:aH}(aq:kq s k i):
 a8 (CZ y i) (λr=>r.gK=y.gK∧r.ik=y.ik∧r.bN.Pairwise (λa b=>mz a b<=0)∧r.bN.Perm (y.bN++[i])):=by
 have hlen:=h.len an
 unfold CZ
 refine .bind (P:=λe=> ∃n:Nat,n<=y.bN.length∧e.1=(n:Int)∧(∀a∈y.bN.take n,mz a i<=0)∧(∀aM:n<y.bN.length,0<mz (y.bN[n]) i))
  (a8.jJ y.bN.length (λj st=>st=(j:Int)∧∀a∈y.bN.take j,mz a i<=0) (by omega) ⟨rfl,λa aY=>by simp at aY⟩ (λj st aC hs=>?_) (λst hs=>?_)) λe he=>?_
 ·obtain⟨rfl,b5⟩:=hs
  have hm:ax y.bN j∈y.bN:=by rw[dz _ aC];exact j0 _
  obtain⟨k',kI,_,a6⟩:=h.dr an hm
  have q1:lj 1 1:=lj.refl 1
  refine .cond (λ_=>?_) λag=>by simp at ag;omega
  refine .idx I aC (.eq (HK hs h.oT kI a6.dr) (.eq (HK hs h.oT hk aq.dr) ?_))
  refine .b1 (P:=λc=>c=j) (λ_=>⟨j,kS aC,rfl⟩) λbx ad=>?_
  refine .b1 (P:=λr=>lj r (mz (ax y.bN j) i)) (λag=>by
   rw[ad ag];exact akD (a6.small hs kI).1 (aq.small hs hk).1 (a6.small hs kI).2 (aq.small hs hk).2) λbg aB=>?_
  have A4:((decide ((k':Int)>(k:Int)))||(((k':Int)==(k:Int))&&(decide (bg>0))))=decide (0<mz (ax y.bN j) i):=by
   obtain⟨t1,t2⟩:=Zr (a:=(ax y.bN j).aX) (b:=i.aX);rw[a6.dr.fF,aq.dr.fF]at t1 t2;have nf:mz (ax y.bN j) i=va (ax y.bN j).aX i.aX:=rfl;rcases OS k' k with b9|heq|TO
   ·have:=t1 (by omega);rw[sT (show ¬(k':Int)>(k:Int) by omega),show((k':Int)==(k:Int))=false by simp;omega,sT (show ¬0<mz (ax y.bN j) i by rw[nf];omega)];rfl
   ·subst heq;have aB:=aB (by simp);rw[sT (show ¬(k':Int)>(k':Int) by omega),show((k':Int)==(k':Int))=true by simp,r3,qp];exact q7.2 aB.2
   have:=t2 (by omega);rw[q9 (show(k':Int)>(k:Int) by omega),q9 (show 0<mz (ax y.bN j) i by rw[nf];exact this)];rfl
  rw[A4]
  refine .cond (λag=>.ret ⟨j,by omega,rfl,b5,λaM=>?_⟩) λag=>.ret ⟨dB (by omega),λa aY=>?_⟩
  ·rw[<-dz _ aM];exact xM ag
  rw[mK _ aC]at aY
  rcases cF.1 aY with aY|aY
  ·exact b5 a aY
  rw[hT.1 aY]
  have:=KC ag
  omega
 ·obtain⟨rfl,b5⟩:=hs
  exact .cond (λag=>by simp at ag) λ_=>.ret ⟨y.bN.length,iS _,rfl,b5,λaM=>absurd aM (zW _)⟩
 obtain⟨av,aS⟩:=e
 obtain⟨n,aM,rfl,hP,gE⟩:=he
 have iG:i=i:=rfl
 refine .eq (a:=y.bN.take n) (by unfold mQ;rw[bh ⟨by omega,by omega,by omega⟩];simp) ?_
 refine .eq (gz _ _ (by simp;omega) (by omega)) (.eq (gz _ _ (by simp;omega) (by omega)) (.eq (a:=y.bN.drop n) (by unfold mQ;rw[bh ⟨by omega,by omega,by omega⟩,pL (by simp)];rfl) (.eq (gz _ _ (by simp;omega) (by omega)) (.ret ?_))))
 simp only[List.nil_append]
 have xt:y.bN.Pairwise (λa b=>mz a b<=0):=h.vW
 refine⟨trivial,trivial,?_,?_⟩
 ·have n1:∀b∈y.bN.drop n,mz i b<=0:=λb hb=>by
   have p8:n<y.bN.length:=by
    rcases sW n y.bN.length with cU|cU
    ·exact cU
    rw[zz cU]at hb;cases hb
   have bC:=gE p8;have h1:mz i y.bN[n]<=0:=by have:=(DW.neg i y.bN[n]).2 bC;omega
   have hd:y.bN.drop n=y.bN[n]::y.bN.drop (n+1):=q4 p8;rw[hd]at hb;rcases dP.1 hb with e|hb
   ·rw[e];exact h1
   have adl:=xt.sublist (List.drop_sublist n _);rw[hd]at adl;exact DW.oh _ _ _ h1 ((kz.1 adl).1 b hb)
  have AP:=xt
  rw[<-gw n y.bN,wa]at AP
  rw[iJ,wa]
  refine⟨AP.1,?_,λa aY b hb=>?_⟩
  ·rw[List.singleton_append,kz]
   exact⟨n1,AP.2.1⟩
  rw[List.singleton_append]at hb
  rcases dP.1 hb with e|hb
  ·rw[e];exact hP a aY
  exact AP.2.2 a aY b hb
 rw[iJ]
 have ad:(y.bN.take n++(y.bN.drop n++[i]))=y.bN++[i]:=by rw[<-iJ,gw]
 rw[<-ad]
 exact Ov _ nQ
def aji{s:aZ}{hp:aL Cell}{p:Nat}{ls:Nat->aa aH}{next:Int}(h:rG s hp p ls next){x:Int}(au:x<1∨4<x):cQ (wi hp (some p) x) (λr=>r=([],hp)):=by
 unfold wi;refine .eq (LU h au) ?_;unfold zZ;exact .bind (P:=λr=>r=([],hp)) (.cond (λ_=>.ret I) λag=>by cases ag) λr aG=>.ret (by rw[aG])
def I0(ls:Nat->aa aH):Nat->aa aH
 |0=>[]
 |k+1=>I0 ls k++ls k
def X4{ls:Nat->aa aH}{i:aH}:∀{n},i∈I0 ls n->∃k,k<n∧i∈ls k
 |0,h=>by cases h
 | n+1,h=>by
   rcases cF.1 h with h|h
   ·obtain⟨k,hk,aq⟩:=X4 h;exact⟨k,by omega,aq⟩
   exact⟨n,by omega,h⟩
def X5{ls:Nat->aa aH}(an:∀k,k<4->(ls k).length<=12):∀n,n<=4->(I0 ls n).length<=12*n
 |0,_=>iS 0
 | n+1,h=>by
   have:=X5 an n (by omega);have:=an n (by omega);unfold I0;rw[gH];omega
def alJ{s:aZ}(hs:b7 s){hp:aL Cell}{p:Nat}{ls:Nat->aa aH}{next:Int}{y:cW}(h:rG s hp p ls next)(aG:j4 s y ls next)(an:nA s ls):cQ (GS hp (some p)) (λr=>r=(y.bN,hp)):=by
 obtain⟨m,fr,own,h1,ad,aB⟩:=h.cell;unfold GS;refine .cond (λag=>by cases ag) λ_=>.eq rfl (.eq h1 ?_);refine .bind (P:=λe=>e.2.2=(y.bN,hp)) (cQ.loop 4 (λk st=> ∃out,st=((k:Int),out,hp)∧out.Perm (I0 ls k)∧out.Pairwise (λa b=>mz a b<=0)) (by decide) ⟨[],rfl,.refl _,.nil⟩ (λk st hk b5=>?_) (λst b5=>?_)) λe he=>.ret (by rw[he])
 ·obtain⟨out,rfl,bQ,T8⟩:=b5;have T9:=(hs.fF hk).1;have NH:=hs.lN;refine .cond (λ_=>?_) λag=>by simp only[nP]at ag;omega
  refine .idx (k:=k) I (by show k<s.bK.length;omega) ?_;show cQ (aj.bind (wi hp (some p) (ax s.bK k).b6) λao=>_) _;rw[T9,show(k:Int)+1=((k+1:Nat):Int) by omega];refine .bind (X2 hs h (x:=k+1) (by omega) an.len) λao g=>?_;obtain⟨T,hp'⟩:=ao;obtain⟨ge,gt⟩:=g;simp only at ge gt;subst ge;unfold uu at gt;rw[bf (by omega)]at gt;have gt:T.Perm (ls k)∧T.Pairwise (λa b=>mz a b<=0):=gt;have B1:=bQ.length_eq;have Ur:=X5 an.len k (by omega);have adL:=gt.1.length_eq;have UE:=an.len k hk;refine .eq (gz _ _ (by simp only;omega) (by omega)) (.ret ⟨out++T,by rw[gQ (by omega) (by omega)],bQ.append gt.1,?_⟩);rw[wa];refine⟨T8,gt.2,λa aY b hb=>?_⟩;obtain⟨j,aC,aY⟩:=X4 (bQ.mem_iff.1 aY);have atT:=((an.gd j (by omega)).ok.ok a aY).dr.fF;have atU:=((an.gd k hk).ok.ok b (gt.1.mem_iff.1 hb)).dr.fF;have:=(Zr (a:=a.aX) (b:=b.aX)).1 (by rw[atT,atU];omega);show va a.aX b.aX<=0;omega
 obtain⟨out,rfl,bQ,T8⟩:=b5;have NH:=hs.lN;refine .cond (λag=>by simp only[e2]at ag;omega) λ_=>.ret ?_;have Td:out.Perm y.bN:=bQ.trans aG.qd.symm;have:out=y.bN:=Ql DW Td T8 aG.vW λa aY b hb bV=>by
  obtain⟨j,aC,as7,as8⟩:=aG.dr an (Td.mem_iff.1 aY);obtain⟨pI,pA,as9,ata⟩:=aG.dr an (Td.mem_iff.1 hb);have tH:=aaX (x:=a.aX) (y:=b.aX) bV;have bD:=(td.1 tH).1;rw[as8.dr.fF,ata.dr.fF]at bD;have:j=pI:=by omega
  subst this;exact(an.gd j aC).uniq as7 as9 tH
 rw[this]
def X6{s:aZ}{k:Nat}{l l':aa aH}(h:kr s k l)(p:l'.Perm l):kr s k l':=
 ⟨λi aq=>h.ok i (p.mem_iff.1 aq),(p.pairwise_iff λbT=>x4 bT).2 h.num,by rw[p.length_eq];exact h.len⟩
def aio{s:aZ}(hs:b7 s){hp:aL Cell}{p:Nat}{ls:Nat->aa aH}{next:Int}(h:rG s hp p ls next){k:Nat}(hk:k<4)(q:Vector aN 4):Gn hp (some p) ((k:Int)+1) q=some (jg (j9 s k (ls k) q)):=by
 obtain⟨avf,own,h1,ad⟩:=LS h hk;refine a8.get ?_;unfold Gn;exact .eq h1 (.eq (aid hs hk ad q) (.ret I))
def ahs{s:aZ}(hs:b7 s){y:cW}{ls:Nat->aa aH}{next:Int}(aG:j4 s y ls next)(an:nA s ls){k:Nat}(hk:k<4)(q:Vector aN 4):Gj y ((k:Int)+1) q=some (jg (j9 s k (ls k) q)):=by
 have hlen:=aG.len an;have hp:=P5 aG an hk;have hP:=(an.gd k hk).ok;have b9:=X6 hP hp;refine a8.get ?_;unfold Gj;rw[aG.oT];refine .eq (P4 (by omega)) (.eq (akw hs hk b9 q) (.ret ?_));show jg (j9 s k (xc y ((k:Int)+1)) q)=_;rw[ajg b9 hP (λi=>hp.mem_iff)]
def wA{ls:Nat->aa aH}{k:Nat}{a b:aa aH}:fb (fb ls k a) k b=fb ls k b:=by
 funext j;unfold fb;split <;> rfl
def Md{l:aa aH}{e:bl}(h:dw l e=none):da l e=l:=by
 unfold da;exact sQ.2 λc ag=>by rw[uc h c ag];rfl
def P6{l:aa aH}{e:bl}{i:aH}(aq:fG i.aX e=true):da (l++[i]) e=da l e:=by
 unfold da;rw[mG];simp[aq]
def yc{s:aZ}{k:Nat}{l:aa aH}(an:ia s k l){e:bl}{i:aH}(aq:i∈l)(hk:fG i.aX e=true):(da l e++[i]).Perm l:=by
 obtain⟨a,b,rfl⟩:=List.append_of_mem aq;have k8:=an.key;rw[wa]at k8;obtain⟨_,ad,aB⟩:=k8;have aY:da a e=a:=sQ.2 λc ag=>by
  have aV:=aB c ag i jC;have:fG c.aX e=false:=by
   rw[pN];intro ba;rw[s6 ba (by rw[s9];exact hk)]at aV;cases aV
  rw[this];rfl
 have hb:da b e=b:=sQ.2 λc ag=>by
  have aV:=(kz.1 ad).1 c ag;have:fG c.aX e=false:=by
   rw[pN];intro ba;rw[s6 hk (by rw[s9];exact ba)]at aV;cases aV
  rw[this];rfl
 have he:da (a++i::b) e=a++b:=by
  unfold da at aY hb⊢;rw[mG,aY,vb (by rw[hk];simp),hb]
 rw[he,iJ];exact Ov _ nQ
def X7{s:aZ}{k:Nat}{l:aa aH}(an:ia s k l){e:bl}{a i:aH}(aY:a∈l)(hk:fG a.aX e=true)(aq:fG i.aX e=true)(aM:i.b0=a.b0):qX (da l e) i=true:=by
 have h1:dw (da l e) i.aX=none:=by
  cases aW:dw (da l e) i.aX with
  |none=>rfl
  | some c=>
    obtain⟨ag,JE⟩:=o7 aW
    have:=(nV.1 ag).2
    rw[s6 JE aq]at this;cases this
 have ad:j7 (da l e) i.b0=false:=by
  rw[pN];intro bT;unfold j7 at bT;rw[oo]at bT;obtain⟨c,ag,aS⟩:=bT;obtain⟨g1,g2⟩:=nV.1 ag;have:c=a:=an.ok.uniq g1 aY (by rw[<-aM];simpa using aS);rw[this,hk]at g2;cases g2
 unfold qX;rw[h1,ad];rfl
def X8{l:aa aH}{e:bl}{i:aH}(aq:fG i.aX e=true){d:bl}(hd:fG d e=true):dw (da l e++[i]) d=some i:=by
 unfold dw;rw[FL];have h1:(da l e).find? (λc=>fG c.aX d)=none:=by
  rw[xL];intro c ag;have:=(nV.1 ag).2;intro ad;rw[s6 ad hd]at this;cases this
 have ad:fG i.aX d=true:=s6 aq (by rw[s9];exact hd);rw[h1];simp[ad]
def aip{l:aa aH}{e:bl}{i:aH}(aq:fG i.aX e=true){d:bl}(hd:fG d e=true):da (da l e++[i]) d=da l e:=by
 rw[P6 (s6 aq (by rw[s9];exact hd))];exact sQ.2 λc ag=>by
  have:=(nV.1 ag).2;have aB:fG c.aX d=false:=by
   rw[pN];intro ad;rw[s6 ad hd]at this;cases this
  rw[aB];rfl
structure rY(X:Nat->Prop)(hp hp':aL Cell):Prop where
 at_:∀q,X q->pat hp' q=pat hp q
 keys:∀q,q∈eb hp->q∈eb hp'
def rY.trans{X:Nat->Prop}{a b c:aL Cell}(h:rY X a b)(k:rY X b c):rY X a c:=⟨λq hq=>(k.at_ q hq).trans (h.at_ q hq),λq hq=>k.keys q (h.keys q hq)⟩
structure kt(X:Nat->Prop)(s:aZ)(hp:aL Cell)(p:Nat)(ls:Nat->List aH)(next:Int):Prop where
 cell:∃m fr own,jU hp p=some ⟨s,⟨some m⟩,next⟩∧mS hp m=some fr∧te s hp p m fr 4 ls own∧(¬X p∧¬X m)∧∀k,k<4->∀q,own k q->¬X q
 pE:∀q,X q->q∈eb hp
def kt.ok{X:Nat->Prop}{s:aZ}{hp:aL Cell}{p:Nat}{ls:Nat->aa aH}{next:Int}(h:kt X s hp p ls next):rG s hp p ls next:=by
 obtain⟨m,fr,own,h1,ad,aB,_⟩:=h.cell;exact⟨m,fr,own,h1,ad,aB⟩
def kt.off{X:Nat->Prop}{s:aZ}{hp hp':aL Cell}{p:Nat}{ls:Nat->aa aH}{next:Int}(h:kt X s hp p ls next)(ne:∀q,¬X q->pat hp' q=pat hp q)(hk:∀q,q∈eb hp->q∈eb hp'):kt X s hp' p ls next:=by
 obtain⟨m,fr,own,h1,ad,aB,⟨aV,ba⟩,bq⟩:=h.cell;exact⟨⟨m,fr,own,by rw[Hy (ne p aV)];exact h1,by rw[Hz (ne m ba)];exact ad,aB.congr hk λk hk x au=>ne x (bq k hk x au),⟨aV,ba⟩,bq⟩,
  λx au=>hk x (h.pE x au)⟩
def kt.change{X:Nat->Prop}{s:aZ}{hp hp':aL Cell}{p:Nat}{ls:Nat->aa aH}{next:Int}{m:Nat}{fr:aa (Int×Ref)}{own:Nat->Nat->Prop}(aq:∀q,X q->q∈eb hp)(h1:jU hp p=some ⟨s,⟨some m⟩,next⟩)(ad:mS hp m=some fr)(aB:te s hp p m fr 4 ls own)
 (aV: ¬X p∧¬X m) (ba:∀k,k<4->∀q,own k q->¬X q) {k:Nat} (hk:k<4) {q:Nat} (hq:dG fr ((k:Int)+1)=some (some q)) {l:aa aH} {own':Nat->Prop}
 (au:lO s k hp' q l own') (a6:∀x,own' x->own k x∨x∉eb hp) (rO:fp hp hp' (own k)):kt X s hp' p (fb ls k l) next∧rY X hp hp':=by
 obtain⟨g1,g2,g3⟩:=te.change h1 ad aB hk hq au a6 rO
 refine⟨⟨⟨m,fr,_,g1,g2,g3,aV,λj aC x iF og=>?_⟩,λx iF=>rO.keys x (aq x iF)⟩,⟨λx iF=>rO.rest x (aq x iF) λh=>ba k hk x h iF,rO.keys⟩⟩
 by_cases e:j=k
 ·rw[bh e]at iF
  rcases a6 x iF with h|h
  ·exact ba k hk x h og
  exact h (aq x og)
 rw[bf e]at iF;exact ba j aC x iF og
def kt.next'{X:Nat->Prop}{s:aZ}{hp:aL Cell}{p:Nat}{ls:Nat->aa aH}{next:Int}(h:kt X s hp p ls next)(n:Int){c:lG}(ag:jU hp p=some c):kt X s (cL hp p (Cell.rF {c with oA:=n})) p ls n∧rY X hp (cL hp p (Cell.rF {c with oA:=n})):=by
 obtain⟨m,fr,own,h1,ad,aB,aV,ba⟩:=h.cell;rw[h1]at ag;cases ag;have y6:=wN h1;have nI:p≠m:=λe=>by rw[e,yg ad]at y6;cases y6
 exact⟨⟨⟨m,fr,own,ajc y6,by rw[Hz (nm nI)];exact ad,aB.congr (λq hq=>by rw[sa];exact hq) λk hk q hq=>nm λe=>(aB.out k hk).1 (e▸hq),aV,ba⟩,λx au=>by rw[sa];exact h.pE x au⟩,
  ⟨λx au=>nm λe=>aV.1 (e▸au),λx au=>by rw[sa];exact au⟩⟩
def Qm{s:aZ}{hp:aL Cell}{p m:Nat}{fr:aa (Int×Ref)}{next:Int}(h1:jU hp p=some ⟨s,⟨some m⟩,next⟩)(ad:mS hp m=some fr){x:Int}{q:Nat}(aV:dG fr x=some (some q)):ra hp (some p) x=some (some q):=by
 refine a8.get ?_;unfold ra;refine .cond (λag=>by cases ag) λ_=>.eq rfl (.eq h1 (.eq rfl (.eq ad (.eq rfl (.ret ?_)))));rw[aV];rfl
def ajj{X:Nat->Prop}{s:aZ}(hs:b7 s){hp:aL Cell}{p:Nat}{ls:Nat->aa aH}{next:Int}(h:kt X s hp p ls next){k:Nat}(hk:k<4){e:bl}(he:fE s k e)(gM:Int)(Ep:∀i∈ls k,i.b0<next)(hlen:(ls k).length<900)(aM:0<=next∧next<1000000):
 cQ (CH hp (some p) e gM) (λr=>
  if (dw (ls k) e).isSome=true then r=(0,17,hp)else if (ax s.bK k).ie<=((ls k).length:Int)then r=(0,18,hp)
  else r.1=next∧r.2.1=0∧kt X s r.2.2 p (fb ls k (ls k++[{aX:=e,b0:=next,dI:=gM}])) (next+1)∧rY X hp r.2.2):=by
 obtain⟨m,fr,own,h1,ad,aB,og,qh⟩:=h.cell
 obtain⟨q,aV,ba⟩:=aB.has k hk
 unfold CH
 rw[he.fF]
 refine .eq (Qm h1 ad aV) (.cond (λag=>by cases ag) λ_=>.eq (QU hs hk ba he) ?_)
 rw[YS]
 refine .cond (λag=>.ret (by rw[bh ag])) λag=>.eq (alD ba) (.eq (akA hs h.ok hk) (.cond (λee=>.ret ?_) λee=>?_))
 ·rw[bf (by rw[ag];simp),bh (by simpa using ee)]
 have ee: ¬(ax s.bK k).ie<=((ls k).length:Int):=by simpa using ee
 have aW:dw (ls k) e=none:=by
  cases aW:dw (ls k) e with
  |none=>rfl
  |some _=>rw[aW]at ag;cases ag
 have aq:kq s k ({aX:=e,b0:=next,dI:=gM}:aH):=⟨he⟩
 have jz:j7 (ls k) next=false:=by
  unfold j7;rw[wc];intro c n9;have:=Ep c n9;simp;omega
 have bD:qX (ls k) ({aX:=e,b0:=next,dI:=gM}:aH)=true:=by
  unfold qX;simp only[aW,jz];rfl
 refine .eq I (.eq h1 (.eq I (.bind (RJ hs hk ba aq hlen) λcd bq=>?_)))
 obtain⟨_,g2,g3⟩:=bq
 obtain⟨b5,oS⟩:=kt.change h.pE h1 ad aB og qh hk aV g2 (λx au=>au.imp id λh=>h.1) g3
 unfold added at b5
 rw[bh bD]at b5
 obtain⟨sM,auO,own',bX,_⟩:=b5.cell
 refine .eq bX (.eq I (.ret ?_))
 rw[bf (by rw[ag];simp),bf ee]
 have hw:bm (next+1)=next+1:=gQ (by omega) (by omega)
 have:=b5.next' (next+1) bX
 simp only[hw]
 exact⟨trivial,trivial,this.1,oS.trans this.2⟩
def LX{X:Nat->Prop}{s:aZ}(hs:b7 s){hp:aL Cell}{p:Nat}{ls:Nat->aa aH}{next:Int}(h:kt X s hp p ls next){k:Nat}(hk:k<4){e:bl}(he:fE s k e):
 cQ (ve hp (some p) e) (λr=>(match dw (ls k) e with |some i=>(r.1,r.2.1)=(i,0)|none=>(r.1,r.2.1)=(default,16))∧kt X s r.2.2 p (fb ls k (da (ls k) e)) next∧rY X hp r.2.2):=by
 obtain⟨m,fr,own,h1,ad,aB,og,qh⟩:=h.cell
 obtain⟨q,aV,ba⟩:=aB.has k hk
 unfold ve
 rw[he.fF]
 refine .eq (Qm h1 ad aV) (.cond (λag=>by cases ag) λ_=>.bind (aik hs hk ba he) λaF bq=>?_)
 obtain⟨g1,g2,g3⟩:=bq
 have b5:=kt.change h.pE h1 ad aB og qh hk aV g2 (λx au=>.inl au) g3
 have av:aF.1=(jg (dw (ls k) e)).1:=eG Prod.fst g1
 have aS:aF.2.1=(jg (dw (ls k) e)).2:=eG Prod.snd g1
 cases aW:dw (ls k) e with
 | none=>
   rw[aW]at av aS
   refine .cond (λ_=>.ret ⟨rfl,b5⟩) λag=>by rw[aS]at ag;cases ag
 | some i=>
   rw[aW]at av aS
   refine .cond (λag=>by rw[aS]at ag;cases ag) λ_=>.ret ⟨?_,b5⟩
   rw[av];rfl
def ajk{X:Nat->Prop}{s:aZ}(hs:b7 s){hp:aL Cell}{p:Nat}{ls:Nat->aa aH}{next:Int}(h:kt X s hp p ls next){k:Nat}(hk:k<4){e:bl}(he:fE s k e)(hlen:(ls k).length<900):
 cQ (CI hp (some p) e) (λr=>match dw (ls k) e with
  |some i=>r.1=i∧r.2.1=0∧kt X s r.2.2 p (fb ls k (da (ls k) e++[{aX:=e,b0:=i.b0,dI:=i.dI}])) next∧rY X hp r.2.2
  |none=>r.2.1=16∧kt X s r.2.2 p (fb ls k (da (ls k) e)) next∧rY X hp r.2.2):=by
 have iG:=h.ok.gd hk
 unfold CI
 refine .bind (LX hs h hk he) λao h1=>?_
 obtain⟨a,err,bQ⟩:=ao
 obtain⟨g1,g2,gs⟩:=h1
 simp only at g1 g2 gs⊢
 cases aW:dw (ls k) e with
 | none=>
   rw[aW]at g1
   have aS:err=16:=eG Prod.snd g1
   subst aS
   exact .cond (λ_=>.ret ⟨rfl,g2,gs⟩) λag=>by simp at ag
 | some i=>
   rw[aW]at g1
   have av:a=i:=eG Prod.fst g1
   have aS:err=0:=eG Prod.snd g1
   subst av aS
   refine .cond (λag=>by simp at ag) λ_=>?_
   obtain⟨aY,atb⟩:=o7 aW
   obtain⟨m,fr,own,h1,ad,aB,og,qh⟩:=g2.cell
   obtain⟨q,aV,ba⟩:=aB.has k hk
   rw[jG]at ba
   have aq:kq s k ({aX:=e,b0:=a.b0,dI:=a.dI}:aH):=⟨he⟩
   have bD:qX (da (ls k) e) ({aX:=e,b0:=a.b0,dI:=a.dI}:aH)=true:=X7 iG aY atb (oz _) I
   refine .eq I (.eq h1 (.eq I (.eq ad (.eq (a:=some q) (by rw[he.fF,aV];rfl) (.eq I (.bind (RJ hs hk ba aq (by have:=LV (ls k) e;omega)) λaF bq=>.ret ?_))))))
   obtain⟨_,bx,cB⟩:=bq
   obtain⟨b5,oS⟩:=kt.change g2.pE h1 ad aB og qh hk aV bx (λx au=>au.imp id λh=>h.1) cB
   unfold added at b5
   rw[bh bD,wA]at b5
   exact⟨rfl,rfl,b5,gs.trans oS⟩
def aiq{X:Nat->Prop}{s:aZ}(hs:b7 s){hp:aL Cell}{p:Nat}{ls:Nat->aa aH}{next:Int}(h:kt X s hp p ls next){k:Nat}(hk:k<4){i:aH}(aq:kq s k i)(hlen:(ls k).length<900):
 cQ (F7 hp (some p) i) (λr=>r.1=qX (ls k) i∧kt X s r.2 p (fb ls k (added (ls k) i)) next∧rY X hp r.2):=by
 obtain⟨m,fr,own,h1,ad,aB,og,qh⟩:=h.cell
 obtain⟨q,aV,ba⟩:=aB.has k hk
 unfold F7
 rw[aq.dr.fF]
 refine .eq (Qm h1 ad aV) (.bind (RJ hs hk ba aq hlen) λbg bq=>.ret ⟨bq.1,?_⟩)
 exact kt.change h.pE h1 ad aB og qh hk aV bq.2.1 (λx au=>au.imp id λh=>h.1) bq.2.2
def WQ{X:Nat->Prop}{s:aZ}{hp:aL Cell}{p:Nat}{ls:Nat->aa aH}{next:Int}(h:kt X s hp p ls next)(n:Int):a8 (Cv hp (some p) n) (λr=>kt X s r p ls (max 1 n)∧rY X hp r):=by
 obtain⟨m,fr,own,h1,_⟩:=h.cell;unfold Cv;exact .bind (P:=λm=>kt X s m p ls (max 1 n)∧rY X hp m) (.cond (λ_=>.eq I (.eq h1 (.eq I (.ret (h.next' _ h1))))) λag=>by cases ag) λm hm=>.ret hm
def jX{α:Type}(m:aE α)(P:α->Prop):Prop:=∀r,m=some r->P r
def jX.bind{α β:Type}{m:aE α}{f:α->aE β}{P:α->Prop}{Q:β->Prop}(h:jX m P)(k:∀r,P r->jX (f r) Q):jX (m.bind f) Q:=λr e=>by
 cases hm:m with
 |none=>rw[hm]at e;cases e
 |some a=>rw[hm]at e;exact k a (h a hm) r e
def jX.skip{α β:Type}{m:aE α}{f:α->aE β}{Q:β->Prop}(k:∀r,jX (f r) Q):jX (m.bind f) Q:=.bind (P:=λ_=>True) (λ_ _=>trivial) λr _=>k r
def jX.ret{α:Type}{a:α}{P:α->Prop}(h:P a):jX (some a) P:=λr e=>by cases e;exact h
def jX.eq{α β:Type}{a:α}{f:α->aE β}{Q:β->Prop}(k:jX (f a) Q):jX ((some a).bind f) Q:=k
def jX.cond{α:Type}{b:Bool}{m n:aE α}{P:α->Prop}(h1:b=true->jX m P)(ad:b=false->jX n P):jX (cond b m n) P:=by
 cases b
 ·exact ad I
 exact h1 I
def jX.b1{α:Type}[Inhabited α]{b w:Bool}{m:aE α}{P:α->Prop}(h:jX m P):jX (b1 b w m) (λr=>b=w->P r):=λr e hb=>by
 unfold Gv.b1 at e;rw[bh hb]at e;exact h r e
def jX.idx{n:Nat}{i:Int}:jX (idx n i) (λk=>(k:Int)=i∧k<n):=λk e=>by
 obtain⟨h1,ad⟩:=cN e;exact⟨by omega,h1⟩
def jX.loop{σ ε:Type}{body:σ->aE (σ⊕ε)}{P:ε->Prop}{n:Nat}{cb:σ}(gi:σ->Prop)(bC:gi cb)(hb:∀s,gi s->jX (body s) (λx=>match x with | .inl cv=>gi cv| .inr e=>P e)):jX (dh n body cb) P:=by
 induction n generalizing cb with
 |zero=>intro r e;cases e
 | succ n cg=>
   intro r e
   simp only[dh]at e
   cases hm:body cb with
   |none=>rw[hm]at e;cases e
   | some x=>
     rw[hm]at e
     have:=hb cb bC x hm
     cases x with
     |inl cv=>exact cg this r e
     |inr y=>cases e;exact this
def a8.par{α:Type}{m:aE α}{P Q:α->Prop}(h:a8 m P)(k:jX m Q):a8 m (λr=>P r∧Q r):=by
 obtain⟨r,h1,ad⟩:=h;exact⟨r,h1,ad,k r h1⟩
def Me{α:Type}{b:Nat}{xs ys:aa α}:jX (eZ b xs ys) (λr=>r=xs++ys):=λr e=>by
 unfold eZ at e;split at e
 ·cases e;rfl
 cases e
def X9(c:dM)(n:Int)(aM:0<n):jX (fU c n) (λr=>0<=r.1∧r.1<n):=by
 unfold fU;refine .skip λ_=>.cond (λ_=>.ret ⟨xY 0,aM⟩) λ_=>.bind .idx λk _=>.bind (P:=λy=>0<=y∧y<n) (λy e=>?_) λy aR=>.ret aR;unfold vF at e;split at e
 ·cases e
 cases e;exact⟨O3 _ (by omega),FB _ aM⟩
def I1(s:aZ)(r:fD):Prop:=
 r.nk=1∧r.rn=0∧((r.bG=2∧r.eJ=4∧r.wH=0)∨(r.bG=3∧r.eJ=0∧r.fx=2∧(ax s.bK 2).cn.length=3)∨
   (r.bG=4∧r.eJ=0∧r.fx=1∧(ax s.bK 3).cn.length=3)∨(r.bG=4∧r.eJ=5∧r.wH=0))
structure jV(s:aZ):Prop where
 refs:∀r∈s.dj,I1 s r
 ps:s.dj.length<=4
 quo:∀x∈s.eK,0<=x.kg
 all:(ax s.eK 0).kg=40
def air(c:dM)(dC:aa cy):jX (zS c dC) (λr=>(∀x∈r.1,0<=x.kg)∧(ax r.1 0).kg=40):=by
 unfold zS;refine .skip λ_=>.bind (X9 _ _ (by omega)) λaF ad=>.skip λbg=>.bind (X9 _ _ (by omega)) λbw aV=>?_;refine .bind (P:=λe=>0<=e.2.2.1.kg∧0<=e.2.2.2.2.2.1.kg∧e.2.2.2.2.2.2.2.1.kg=40) (.loop (λst=>0<=st.2.1.kg∧0<=st.2.2.2.2.1.kg∧st.2.2.2.2.2.2.1.kg=40) ⟨aV.1,?_,rfl⟩ λst b5=>?_) λe he=>.eq (.eq (.ret ⟨λx au=>?_,he.2.2⟩))
 ·simp only;rw[gQ (by omega) (by omega)];omega
 ·refine .cond (λ_=>.skip λaJ=>.skip λcd=>.skip λcj=>.skip λaS=>.eq (.skip λcA=>.skip λdS=>?_)) λ_=>.ret b5;refine .bind (P:=λm=>0<=m.2.1.kg) (.cond (λ_=>.skip λ_=>.skip λ_=>.eq (.skip λ_=>.ret b5.2.1)) λ_=>.ret b5.2.1) λm1 h1=>.skip λgJ=>?_;exact .bind (P:=λm=>0<=m.2.1.kg) (.cond (λ_=>.skip λ_=>.skip λ_=>.eq (.skip λ_=>.ret b5.1)) λ_=>.ret b5.1) λm2 ad=>.ret ⟨ad,h1,b5.2.2⟩
 simp only[dP,vd,vh]at au;rcases au with rfl|rfl|rfl
 ·show 0<=e.2.2.2.2.2.2.2.1.kg;rw[he.2.2];decide
 ·exact he.2.1
 exact he.1
def WR(c:dM):jX (xQ c) (λr=>jV r.1):=by
 unfold xQ;refine .skip λao=>.skip λaF=>.eq (.eq (.eq (.eq (.eq (.eq (.eq (.eq (.eq (.eq (.eq (.eq (.skip λbg=>.skip λbw=>.skip λcd=>.eq (.eq (.bind (air _ _) λcj bq=>.eq (.skip λcm=>.skip λm1=>.skip λcA=>?_)))))))))))))));refine .bind (P:=λm2=>m2.1.bK=cd.1∧m2.1.eK=cj.1∧(m2.2=[]∨m2.2=[({(default:fD)with bG:=2,eJ:=4,nk:=1}:fD)])) (.cond (λ_=>.eq (.bind Me λy aR=>.ret ⟨rfl,rfl,.inr aR⟩)) λ_=>.ret ⟨rfl,rfl,.inl I⟩) λm2 ad=>?_;obtain⟨av,aS,ad⟩:=ad;refine .skip λdS=>.bind (.b1 .idx) λaJ cT=>?_;refine .bind (P:=λm3=>m3.1.bK=cd.1∧m3.1.eK=cj.1∧m3.2.length<=2∧∀s:aZ,s.bK=cd.1->∀r∈m3.2,I1 s r) (.cond (λag=>.eq (.bind Me λy aR=>.ret ⟨av,aS,?_,?_⟩)) λ_=>.ret ⟨av,aS,?_,?_⟩) λm3 aB=>?_
 ·subst aR;rcases ad with h|h <;> simp[h]
 ·subst aR;intro s hs r aG;simp only[gm,ni]at ag;have hk:=cT ag.1;have hk:aJ=2:=by omega
  subst hk;rw[av,<-hs]at ag;simp only[cF,hT]at aG;rcases aG with aG|rfl
  ·rcases ad with h|h
   ·rw[h]at aG;cases aG
   rw[h,hT]at aG;subst aG;exact⟨rfl,rfl,.inl ⟨rfl,rfl,rfl⟩⟩
  exact⟨rfl,rfl,.inr (.inl ⟨rfl,rfl,rfl,by omega⟩)⟩
 ·rcases ad with h|h <;> simp[h]
 ·intro s hs r aG;rcases ad with h|h
  ·rw[h]at aG;cases aG
  rw[h,hT]at aG;subst aG;exact⟨rfl,rfl,.inl ⟨rfl,rfl,rfl⟩⟩
 obtain⟨cM,eW,adL,aB⟩:=aB;refine .skip λgJ=>.bind (.b1 .idx) λbx c4=>?_;refine .bind (P:=λm4=>m4.1.bK=cd.1∧m4.1.eK=cj.1∧m4.2.length<=4∧∀s:aZ,s.bK=cd.1->∀r∈m4.2,I1 s r) (.cond (λag=>.eq (.eq (.bind Me λy aR=>.ret ⟨cM,eW,?_,?_⟩))) λ_=>.ret ⟨cM,eW,by simp only;omega,aB⟩) λm4 aV=>?_
 ·subst aR;simp only[gH,List.length_cons,List.length_nil];omega
 ·subst aR;intro s hs r aG;simp only[gm,ni]at ag;have hk:=c4 ag.1;have hk:bx=3:=by omega
  subst hk;rw[cM,<-hs]at ag;simp only[cF,dP,hT,vd,vh]at aG;rcases aG with aG|rfl|rfl
  ·exact aB s hs r aG
  ·exact⟨rfl,rfl,.inr (.inr (.inl ⟨rfl,rfl,rfl,by omega⟩))⟩
  exact⟨rfl,rfl,.inr (.inr (.inr ⟨rfl,rfl,rfl⟩))⟩
 obtain⟨jY,l9,UE,aV⟩:=aV;exact .eq (.ret ⟨λr aG=>aV _ jY r aG,UE,λx au=>by simp only[l9]at au;exact bq.1 x au,by simp only[l9];exact bq.2⟩)
def n0(e:bl):Prop:=e.eJ=4∨e.eJ=5->1<=e.fM.length
def agw{s:aZ}(h:b7 s){x:Int}:jX (C2 s x) (λa=>x=4∨x=5->1<=a.mN.length):=λr e au=>by
 have key:∀j:Nat,j<6->x=(j:Int)+1->r.mN.map (·.jH)=ax w9 j:=λj aC aS=>by
  subst aS;obtain⟨lW,h1,ad⟩:=Wr h aC;rw[e]at h1;cases h1;rw[ad];exact(h.act aC).2
 rcases au with au|au
 ·have:=eG List.length (key 3 (by omega) (by omega));rw[k1]at this;rw[this];decide
 have:=eG List.length (key 4 (by omega) (by omega));rw[k1]at this;rw[this];decide
def ais(c:dM){s:aZ}(h:b7 s)(x:Int):jX (zT c s x) (λr=>n0 r.1):=by
 unfold zT;refine .skip λao=>.skip λaJ=>.skip λav=>.skip λcd=>.skip λcB=>.eq (.bind (agw h) λcj bq=>?_);refine .bind (P:=λe=>e.2.2.1.eJ=ax (ax s.bK aJ).dW cB∧(1<=cj.mN.length->1<=e.2.2.2.1.length)) (.loop (λst=>st.2.1.eJ=ax (ax s.bK aJ).dW cB∧(st.1=0∨1<=st.2.2.1.length)) ⟨rfl,.inl I⟩ λst b5=>?_) λe he=>.eq (.ret λaY=>?_)
 ·refine .cond (λ_=>.skip λfo=>.skip λcm=>.eq (.skip λcA=>.bind Me λdS dE=>.ret ⟨b5.1,.inr ?_⟩)) λag=>.ret ⟨b5.1,λan=>?_⟩
  ·subst dE;simp
  rcases b5.2 with bC|bC
  ·have:=KC ag;rw[bC]at this;omega
  exact bC
 simp only[he.1]at aY;exact he.2 (bq aY)
def rx(x:Int):aE Nat:=if x=1 then some 0 else if x=2 then some 1 else if x=7 then some 2 else none
def b7.kK{s:aZ}(h:b7 s){j:Nat}(aC:j<3):(ax s.eK j).b6=ax [1,2,7] j:=by
 have an:=h.ps;have:=h.D8;have e:(s.eK.map (·.b6))[j]? =([1,2,7]:aa Int)[j]? :=by rw[this]
 rw[List.getElem?_map,o4 (show j<s.eK.length by omega),o4 (show j<([1,2,7]:aa Int).length from aC)]at e;rw[dz _ (show j<s.eK.length by omega),dz _ (show j<([1,2,7]:aa Int).length from aC)];exact CA e
def AU{x:Int}{j:Nat}(aC:j<3):ax [(1:Int),2,7] j=x↔rx x=some j:=by
 have h:j=0∨j=1∨j=2:=by omega
 unfold rx;rcases h with rfl|rfl|rfl
 ·show(1:Int)=x↔_;by_cases h1:x=1
  ·simp[h1]
  rw[bf h1];simp only[show ¬(1:Int)=x from λe=>h1 e.symm,false_iff];split
  ·simp
  split <;> simp
 ·show(2:Int)=x↔_;by_cases h1:x=2
  ·simp[h1]
  simp only[show ¬(2:Int)=x from λe=>h1 e.symm,false_iff,bf h1];split
  ·simp
  split <;> simp
 show(7:Int)=x↔_;by_cases h1:x=7
 ·simp[h1]
 simp only[show ¬(7:Int)=x from λe=>h1 e.symm,false_iff,bf h1];split
 ·simp
 split <;> simp
def A7{x:Int}{j:Nat}(h:rx x=some j):j<3:=by
 unfold rx at h;split at h
 ·cases h;omega
 split at h
 ·cases h;omega
 split at h <;> cases h;omega
structure qY(s:aZ)(hp:aL Cell)(p:Nat)(N:Int->Int):Prop where
 cell:∃iR,oE hp p=some ⟨s.eK,iR⟩∧∀j,j<3->bE iR j=N (ax [1,2,7] j)
def agT{hp hp':aL Cell}{p:Nat}(h:pat hp' p=pat hp p):oE hp' p=oE hp p:=by unfold oE;rw[h]
def ajl{hp:aL Cell}{p:Nat}{k:Cell}{x:jS}(h:pat hp p=some k):oE (cL hp p (.tm x)) p=some x:=by unfold oE;rw[tc h]
def qY.congr{s:aZ}{hp hp':aL Cell}{p:Nat}{N:Int->Int}(h:qY s hp p N)(e:pat hp' p=pat hp p):qY s hp' p N:=by
 obtain⟨iR,h1,ad⟩:=h.cell;exact⟨iR,by rw[agT e];exact h1,ad⟩
def o3(x:Int):Int:=match rx x with |some j=>(j:Int)|none=> -1
def Zs{s:aZ}(hs:b7 s){hp:aL Cell}{p:Nat}{N:Int->Int}(h:qY s hp p N)(x:Int):CB hp (some p) x=some (o3 x):=by
 obtain⟨iR,h1,ad⟩:=h.cell;have an:=hs.ps;refine a8.get ?_;unfold CB;refine .cond (λag=>by cases ag) λ_=>.eq rfl (.eq h1 (.bind (P:=λe=>e.1=o3 x) (a8.jJ 3 (λi st=>st=(i:Int)∧∀j,j<i->rx x≠some j) (by omega) ⟨rfl,λj aC=>by omega⟩ (λi st aq b5=>?_) (λst b5=>?_)) λe he=>.ret he))
 ·obtain⟨rfl,aM⟩:=b5;refine a8.cond (λ_=>.idx I (by simp only;omega) (.cond (λag=>?_) λag=>?_)) λag=>by simp only[an]at ag;simp at ag;omega
  ·simp only[ni,hs.kK aq]at ag;have:=(AU aq).1 ag;exact .ret (by unfold o3;rw[this])
  refine .ret ⟨dB (by omega),λj aC e=>?_⟩;by_cases jN:j=i
  ·subst jN;rw[<-AU aq,<-hs.kK aq]at e;rw[e]at ag;simp at ag
  exact aM j (by omega) e
 obtain⟨rfl,aM⟩:=b5;refine a8.cond (λag=>by simp only[an]at ag;simp at ag) λ_=>.ret ?_;show(-1:Int)=o3 x;unfold o3;cases e:rx x with
 |none=>rfl
 |some j=>exact absurd e (aM j (A7 e))
def bump(N:Int->Int)(x:Int)(d:Int):Int->Int:=λy=>if y=x then N x+d else N y
def qY.bump{s:aZ}{hp:aL Cell}{p:Nat}{N:Int->Int}{iR:Vector Int 6}(h1:oE hp p=some ⟨s.eK,iR⟩)(ad:∀j,j<3->bE iR j=N (ax [1,2,7] j)){x:Int}{j:Nat}(aC:rx x=some j)(d:Int):
 qY s (cL hp p (Cell.tm ⟨s.eK,dJ iR j (N x+d)⟩)) p (Go.Proofs.YtppgfphgdogpeaaGreat.bump N x d):=by
 refine⟨_,ajl (vp h1),λi aq=>?_⟩
 have auP:=A7 aC
 unfold Go.Proofs.YtppgfphgdogpeaaGreat.bump
 by_cases e:i=j
 ·subst e
  rw[jF _ _ (by omega),bh I,bh ((AU aq).2 aC)]
 rw[jF _ _ (by omega),bf e,bf (λaS=>e (by have:=(AU aq).1 aS;rw[aC]at this;cases this;rfl)),ad i aq]
def room(s:aZ)(N:Int->Int)(x:Int):Bool:=match rx x with |some j=>decide (N x<(ax s.eK j).kg)|none=>false
def aaY{s:aZ}(hs:b7 s){hp:aL Cell}{p:Nat}{N:Int->Int}(h:qY s hp p N)(jz:∀x,0<=N x∧N x<100000)(x:Int):
 a8 (CO hp (some p) x) (λr=>if room s N x=true then r.1=true∧(∃c,r.2=cL hp p c)∧qY s r.2 p (bump N x 1)else r=(false,hp)):=by
 obtain⟨iR,h1,ad⟩:=h.cell
 have an:=hs.ps
 unfold CO
 refine .eq (Zs hs h x) ?_
 cases aG:rx x with
 | none=>
   have e:o3 x= -1:=by unfold o3;rw[aG]
   have aS:room s N x=false:=by unfold room;rw[aG]
   rw[e,aS]
   exact .ret I
 | some j=>
   have aC:=A7 aG
   have e:o3 x=(j:Int):=by unfold o3;rw[aG]
   have hr:bE iR j=N x:=by rw[ad j aC,(AU aC).2 aG]
   rw[e]
   have hd:decide ((j:Int)<0)=false:=by simp
   simp only[hd]
   refine .eq (a:=p) I (.eq (a:=j) (by unfold b1;rw[bh I];exact kS (by omega)) (.eq (a:=⟨s.eK,iR⟩) (by unfold b1;rw[bh I];exact h1) (.eq (a:=p) I (.eq (a:=⟨s.eK,iR⟩) (by unfold b1;rw[bh I];exact h1)
    (.eq (a:=j) (by unfold b1;rw[bh I];exact kS (by simp only;omega)) (.eq I (.cond (λag=>?_) λag=>?_)))))))
   ·have aS:room s N x=false:=by unfold room;rw[aG];simp only[r3,e2,hr]at ag;simp;omega
    rw[aS];exact .ret I
   have aS:room s N x=true:=by unfold room;rw[aG];simp only[r3,nP,hr]at ag;simp;omega
   rw[aS]
   refine .eq (a:=p) I (.idx I (by omega) (.eq h1 (.idx I (by omega) (.eq I (.ret ⟨rfl,⟨_,rfl⟩,?_⟩)))))
   have hw:bm (bE iR j+1)=N x+1:=by rw[hr];have:=jz x;exact gQ (by omega) (by omega)
   simp only[hw]
   exact qY.bump h1 ad aG 1
def Zt{s:aZ}(hs:b7 s){hp:aL Cell}{p:Nat}{N:Int->Int}(h:qY s hp p N){x:Int}{j:Nat}(aG:rx x=some j)(jz:0<N x∧N x<100000):
 a8 (CC hp (some p) x) (λr=>(∃c,r.2=cL hp p c)∧qY s r.2 p (bump N x (-1))):=by
 obtain⟨iR,h1,ad⟩:=h.cell
 have aC:=A7 aG
 have e:o3 x=(j:Int):=by unfold o3;rw[aG]
 have hr:bE iR j=N x:=by rw[ad j aC,(AU aC).2 aG]
 unfold CC
 refine .eq (Zs hs h x) ?_
 rw[e]
 have hd:decide ((j:Int)<0)=false:=by simp
 simp only[hd]
 refine .eq (a:=p) I (.eq (a:=j) (by unfold b1;rw[bh I];exact kS (by omega)) (.eq (a:=⟨s.eK,iR⟩) (by unfold b1;rw[bh I];exact h1) (.cond (λag=>?_) λag=>?_)))
 ·simp only[r3,ni,hr]at ag;omega
 refine .eq (a:=p) I (.idx I (by omega) (.eq h1 (.idx I (by omega) (.eq I (.ret ⟨⟨_,rfl⟩,?_⟩)))))
 have hw:bm (bE iR j-1)=N x+ -1:=by rw[hr];exact gQ (by omega) (by omega)
 simp only[hw]
 exact qY.bump h1 ad aG (-1)
def aou{s:aZ}(hs:b7 s){hp:aL Cell}{p:Nat}{N:Int->Int}(h:qY s hp p N):a8 (Gu hp (some p)) (λr=>r=[⟨1,N 1⟩,⟨2,N 2⟩,⟨7,N 7⟩]):=by
 obtain⟨iR,h1,ad⟩:=h.cell;have an:=hs.ps;unfold Gu;refine .cond (λag=>by cases ag) λ_=>.eq rfl (.eq h1 (.bind (P:=λe=>e.2.2=(List.range 3).map λj=>(⟨ax [1,2,7] j,N (ax [1,2,7] j)⟩:jD)) (a8.jJ 3 (λi st=>st=((i:Int),(List.range i).map λj=>(⟨ax [1,2,7] j,N (ax [1,2,7] j)⟩:jD))) (by omega) I (λi st aq b5=>?_) (λst b5=>?_)) λe he=>.ret (by rw[he];rfl)))
 ·subst b5;refine a8.cond (λ_=>.idx I (by simp only;omega) (.idx I (by omega) (.eq I (.eq (gz _ _ (by simp;omega) (by omega)) (.ret ?_))))) λag=>by simp only[an]at ag;simp at ag;omega
  simp only;rw[dB (by omega),hs.kK aq,ad i aq,F8,mI];rfl
 subst b5;exact a8.cond (λag=>by simp only[an]at ag;simp at ag) λ_=>.ret I
def lz(e:bl)(r:fD):aa cx:=
 if r.bG=e.bG then(if r.eJ=0 then [⟨r.nk,r.rn,(ax e.bP r.fx.toNat).cc⟩]else if r.eJ=e.eJ then [⟨r.nk,r.rn,ax e.fM r.wH.toNat⟩]else [])else []
def gA(s:aZ)(e:bl):aa cx:=s.dj.flatMap (lz e)
def tI(e:bl):cx:=⟨1,0,(ax e.bP 0).cc⟩
def gu(s:aZ)(e:bl):aa cx:=if e.bG=1∧s.dj≠[]then [tI e]else []
def uT(s:aZ)(e:bl):Prop:=(∃k,k<4∧fE s k e)∧n0 e
def Q0(e:bl)(r:fD):(lz e r).length<=1:=by
 unfold lz;split
 ·split
  ·simp
  split <;> simp
 simp
def LY{α β:Type}{f:α->aa β}(aW:∀x,(f x).length<=1):∀l:aa α,(l.flatMap f).length<=l.length
 |[]=>by simp
 | x::l=>by
   have:=LY aW l;have:=aW x;rw[List.flatMap_cons,gH,List.length_cons];omega
def DJ{s:aZ}(aG:jV s)(e:bl):(gA s e).length<=4:=mg (LY (Q0 e) _) aG.ps
def uT.aci{s:aZ}(hs:b7 s){e:bl}(h:uT s e):1<=e.bP.length∧e.bP.length<=1000:=by
 obtain⟨⟨k,hk,he⟩,_⟩:=h;have h1:=he.len;have ad:=(hs.fF hk).2.1;omega
def Zu{s:aZ}{e:bl}(h:uT s e){r:fD}(aG:I1 s r)(bD:r.bG=e.bG)(aY:r.eJ=0):r.fx=(r.fx.toNat:Int)∧r.fx.toNat<e.bP.length:=by
 obtain⟨⟨k,hk,he⟩,_⟩:=h;have h1:=he.len;have ad:=he.fF;rcases aG.2.2 with⟨_,g,_⟩|⟨g1,_,g2,g3⟩|⟨g1,_,g2,g3⟩|⟨_,g,_⟩
 ·omega
 ·have:k=2:=by omega
  subst this;rw[g2];exact⟨rfl,by rw[h1,g3];decide⟩
 ·have:k=3:=by omega
  subst this;rw[g2];exact⟨rfl,by rw[h1,g3];decide⟩
 omega
def Zv{s:aZ}{e:bl}(h:uT s e){r:fD}(aG:I1 s r)(aY:r.eJ≠0)(hb:r.eJ=e.eJ):r.wH=0∧0<e.fM.length:=by
 rcases aG.2.2 with⟨_,g,g2⟩|⟨_,g,_⟩|⟨_,g,_⟩|⟨_,g,g2⟩
 ·exact⟨g2,h.2 (.inl (by omega))⟩
 ·exact absurd g aY
 ·exact absurd g aY
 exact⟨g2,h.2 (.inr (by omega))⟩
def Xj{α β:Type}[Inhabited α](f:α->aa β){l:aa α}{i:Nat}(aq:i<l.length):(l.take (i+1)).flatMap f=(l.take i).flatMap f++f (ax l i):=by
 rw[Ct,o4 aq,dz _ aq,OF];simp
def r6{α:Type}[Inhabited α]{l:aa α}{i:Nat}(aq:i<l.length):ax l i∈l:=by rw[dz _ aq];exact j0 aq
def WS{e:bl}{k:Nat}(hk:k<e.bP.length):Dh e (k:Int)=some (ax e.bP k).cc:=by
 refine a8.get ?_;unfold Dh;refine .cond (λag=>?_) λ_=>.idx I hk (.ret I);simp only[qo,e2]at ag;omega
def agU{e:bl}(hk:0<e.fM.length):G3 e 0=some (ax e.fM 0):=by
 refine a8.get ?_;unfold G3;refine .cond (λag=>?_) λ_=>.idx (k:=0) I hk (.ret I);simp only[qo,e2]at ag;omega
def ajm{s:aZ}(aG:jV s){e:bl}(he:uT s e):Hp s e=some (gA s e):=by
 refine a8.get ?_;unfold Hp;have an:=aG.ps;refine .bind (P:=λx=>x.2.2=gA s e) (a8.jJ s.dj.length (λi st=>st=((i:Int),(s.dj.take i).flatMap (lz e))) (by omega) I (λi st aq b5=>?_) λst b5=>?_) λx au=>.ret au
 ·subst b5;refine .cond (λ_=>.idx I aq ?_) λag=>by simp at ag;omega
  have uU:=aG.refs _ (r6 aq);have Ua:((s.dj.take i).flatMap (lz e)).length<=4:=mg (LY (Q0 e) _) (by rw[e8];omega);refine .bind (P:=λm=>m=(s.dj.take (i+1)).flatMap (lz e)) ?_ λm hm=>.ret (by rw[hm,dB (by omega)]);rw[Xj _ aq];refine .cond (λag=>.ret ?_) λag=>.bind (P:=λm=>m=(s.dj.take i).flatMap (lz e)++lz e (ax s.dj i)) (.cond (λaY=>?_) λaY=>.bind (P:=λm=>m=(s.dj.take i).flatMap (lz e)++lz e (ax s.dj i)) (.cond (λhb=>?_) λhb=>.ret ?_) λm hm=>.ret hm) λm hm=>.ret hm
  ·unfold lz;rw[bf (by simpa using ag)];simp
  ·have bD:(ax s.dj i).bG=e.bG:=by simpa using ag
   have aY:(ax s.dj i).eJ=0:=by simpa using aY
   obtain⟨g1,g2⟩:=Zu he uU bD aY;rw[g1];refine .eq (WS g2) (.eq I (.eq (gz _ _ (by simp only[List.length_cons,List.length_nil];omega) (by omega)) (.ret ?_)));unfold lz;rw[bh bD,bh aY]
  ·have bD:(ax s.dj i).bG=e.bG:=by simpa using ag
   have aY: ¬(ax s.dj i).eJ=0:=by simpa using aY
   have hb:(ax s.dj i).eJ=e.eJ:=by simpa using hb
   obtain⟨g1,g2⟩:=Zv he uU aY hb;rw[g1];refine .eq (agU g2) (.eq I (.eq (gz _ _ (by simp only[List.length_cons,List.length_nil];omega) (by omega)) (.ret ?_)));unfold lz;rw[bh bD,bf aY,bh hb,g1];rfl
  have bD:(ax s.dj i).bG=e.bG:=by simpa using ag
  have aY: ¬(ax s.dj i).eJ=0:=by simpa using aY
  have hb: ¬(ax s.dj i).eJ=e.eJ:=by simpa using hb
  unfold lz;rw[bh bD,bf aY,bf hb];simp
 subst b5;exact .cond (λag=>by simp at ag) λ_=>.ret (by show _=gA s e;simp[gA])
def akF{l:aa cx}(an:l.length<=1000)(x:cx):a8 (Fc l x) (λr=>r=decide (x∈l)):=by
 unfold Fc Kr;refine .bind (P:=λy=>(0<=y)↔x∈l) ?_ λy aR=>.ret (by simp only[ge_iff_le,aR]);refine a8.loop l.length (λi st=>st=(i:Int)∧∀j,j<i->x≠ax l j) (by omega) ⟨rfl,λj aC=>by omega⟩ (λi st aq b5=>?_) λst b5=>?_
 ·obtain⟨rfl,aM⟩:=b5;refine .cond (λ_=>.idx I aq (.cond (λag=>.ret (.ret ?_)) λag=>.ret ⟨dB (by omega),λj aC=>?_⟩)) λag=>by simp at ag;omega
  ·exact⟨λ_=>by rw[xM ag];exact r6 aq,λ_=>by simp only;omega⟩
  by_cases e:j=i
  ·subst e;exact KC ag
  exact aM j (by omega)
 obtain⟨rfl,aM⟩:=b5;have ag:decide ((l.length:Int)<(l.length:Int))=false:=by simp
 refine⟨.inl ((l.length:Int),false),by rw[ag];rfl,.ret ⟨λh=>by omega,λh=>?_⟩⟩;obtain⟨j,aC,e⟩:=Kw h;exact absurd (by rw[dz _ aC,e]) (aM j aC)
def agV{s:aZ}(hs:b7 s)(aG:jV s){e:bl}(he:uT s e):G4 s e=some (gu s e):=by
 refine a8.get ?_;unfold G4;have an:=aG.ps;have hm:=he.aci hs;refine .bind (P:=λx=>x.2.2=gu s e) (a8.jJ s.dj.length (λi st=>st=((i:Int),if e.bG=1∧i≠0 then [tI e]else [])) (by omega) (by simp) (λi st aq b5=>?_) λst b5=>?_) λx au=>.ret au
 ·subst b5;have uU:=aG.refs _ (r6 aq);have Ua:(if e.bG=1∧i≠0 then [tI e]else []).length<=1:=by split <;> simp
  refine .cond (λ_=>.idx I aq ?_) λag=>by simp at ag;omega
  rw[uU.1,uU.2.1];refine .eq (WS (k:=0) (by omega)) (.eq I (.b1 (λ_=>akF (by simp only;omega) _) λy aR=>?_));refine .bind (P:=λm=>m=if e.bG=1∧i+1≠0 then [tI e]else []) (.cond (λag=>?_) λag=>.ret ?_) λm hm=>.ret (by rw[hm,dB (by omega)])
  ·simp only[gm,ni,r1]at ag;have aR:=aR (by simp[ag.1]);rw[ag.2]at aR;have:i=0:=by
    refine UN λh=>?_;rw[bh ⟨ag.1.symm,h⟩]at aR;simp[tI]at aR
   subst this;refine .eq (gz _ _ (by simp) (by omega)) (.ret ?_);rw[bf (by simp),bh ⟨ag.1.symm,by omega⟩];rfl
  by_cases h1:e.bG=1
  ·have aR:=aR (by simp[h1]);simp only[h1,FW,qp,KB]at ag;rw[ag]at aR;have y8:i≠0:=λh=>by rw[bf (by simp[h])]at aR;simp at aR
   rw[bh ⟨h1,y8⟩,bh ⟨h1,by omega⟩]
  rw[bf λh=>h1 h.1,bf λh=>h1 h.1]
 subst b5;refine .cond (λag=>by simp at ag) λ_=>.ret ?_;show _=gu s e;unfold gu;simp[Fe]
structure lP(m:Nat)(hp hp':aL Cell):Prop where
 at_:∀q,q≠m->pat hp' q=pat hp q
 keys:∀q,q∈eb hp->q∈eb hp'
def lP.refl{m:Nat}{hp:aL Cell}:lP m hp hp:=⟨λ_ _=>rfl,λ_ h=>h⟩
def lP.trans{m:Nat}{a b c:aL Cell}(h:lP m a b)(k:lP m b c):lP m a c:=⟨λq hq=>(k.at_ q hq).trans (h.at_ q hq),λq hq=>k.keys q (h.keys q hq)⟩
def lP.up{m:Nat}{hp:aL Cell}{c:Cell}:lP m hp (cL hp m c):=⟨λq hq=>nm λe=>hq e.symm,λq hq=>by rw[sa];exact hq⟩
def agW{hp hp':aL Cell}{p:Nat}(h:pat hp' p=pat hp p):qE hp' p=qE hp p:=by unfold qE;rw[h]
def Wx{hp hp':aL Cell}{p:Nat}(h:pat hp' p=pat hp p):qD hp' p=qD hp p:=by unfold qD;rw[h]
def Ya{hp:aL Cell}{p:Nat}{k:Cell}{x:aa (cx×k2)}(h:pat hp p=some k):qE (cL hp p (.tl x)) p=some x:=by unfold qE;rw[tc h]
structure mA(s:aZ)(hp:aL Cell)(p m:Nat)(A B:cx->Int):Prop where
 cell:qD hp p=some ⟨s,⟨some m⟩⟩
 map:∃kv,qE hp m=some kv∧pJ kv∧∀t,dG kv t=if A t=0∧B t=0 then none else some ⟨A t,B t⟩
def mA.ne{s:aZ}{hp:aL Cell}{p m:Nat}{A B:cx->Int}(h:mA s hp p m A B):p≠m:=λe=>by
 obtain⟨kv,h1,_⟩:=h.map;have ad:=RL h.cell;rw[e,vr h1]at ad;cases ad
def mA.congr{s:aZ}{hp hp':aL Cell}{p m:Nat}{A B:cx->Int}(h:mA s hp p m A B)(h1:pat hp' p=pat hp p)(ad:pat hp' m=pat hp m):mA s hp' p m A B:=
 ⟨by rw[Wx h1];exact h.cell,by obtain⟨kv,g1,g2⟩:=h.map;exact⟨kv,by rw[agW ad];exact g1,g2⟩⟩
def nc(A:cx->Int)(t:cx)(n:Int):cx->Int:=λx=>if x=t then A x+n else A x
def sG(A:cx->Int)(k:Int):Prop:=∀t, -k<=A t∧A t<=k
def YX{s:aZ}{hp:aL Cell}{p m:Nat}{A B:cx->Int}(h:mA s hp p m A B)(e7:sG A 200000)(eu:sG B 200000)(t:cx){n k:Int}(aM: -1<=n∧n<=1)(hk: -1<=k∧k<=1):
 a8 (CP hp (some p) t n k) (λr=>lP m hp r∧mA s r p m (nc A t n) (nc B t k)):=by
 obtain⟨kv,h1,ad,aB⟩:=h.map
 unfold CP
 refine .eq (a:=p) I (.eq h.cell (.eq (a:=m) I (.eq h1 (.eq I (.eq I ?_)))))
 have hr:(dG kv t).getD default=(⟨A t,B t⟩:k2):=by
  rw[aB];split
  ·rename_i bV;rw[bV.1,bV.2];rfl
  rfl
 rw[hr]
 have bX:=e7 t
 have dL:=eu t
 have u1:bm (A t+n)=A t+n:=gQ (by omega) (by omega)
 have B9:bm (B t+k)=B t+k:=gQ (by omega) (by omega)
 simp only[u1,B9]
 have ag:∀c,qD (cL hp m c) p=some ⟨s,⟨some m⟩⟩:=λc=>by rw[Wx (nm h.ne.symm)];exact h.cell
 refine .cond (λbV=>?_) λbV=>?_
 ·have bV:=xM bV
  have bp:A t+n=0:=eG k2.rl bV
  have z2:B t+k=0:=eG k2.rj bV
  refine .eq (a:=p) I (.eq h.cell (.eq (a:=m) I (.eq h1 (.eq I (.ret ⟨.up,ag _,_,Ya (vr h1),ad.del,λx=>?_⟩)))))
  rw[Dy ad,aB]
  unfold nc
  by_cases e:x=t
  ·subst e;rw[bh I,bh I,bh I,bh ⟨bp,z2⟩]
  rw[bf e,bf e,bf e]
 have bV:=KC bV
 refine .eq (a:=p) I (.eq h.cell (.eq (a:=m) I (.eq h1 (.eq I (.ret ⟨.up,ag _,_,Ya (vr h1),ad.put,λx=>?_⟩)))))
 rw[wx,aB]
 unfold nc
 by_cases e:x=t
 ·subst e;rw[bh I,bh I,bh I,bf λbT=>bV (by rw[bT.1,bT.2];rfl)]
 rw[bf e,bf e,bf e]
def eM(A:cx->Int)(l:aa cx)(n:Int):cx->Int:=λt=>A t+n*(l.count t:Int)
def LZ{A:cx->Int}{n:Int}:eM A [] n=A:=by funext t;simp[eM]
def LK{A:cx->Int}{l:aa cx}{x:cx}{n:Int}:nc (eM A l n) x n=eM A (l++[x]) n:=by
 funext t;unfold nc eM;rw[OR,List.count_singleton];by_cases e:t=x
 ·subst e;rw[bh I];simp only[FW,lX];rw[Int.natCast_add,Int.mul_add];omega
 rw[bf e,bf (by simpa using λh=>e h.symm)];simp
def L0{A:cx->Int}{x:cx}:nc A x 0=A:=by funext t;unfold nc;split <;> simp
def sG.mono{A:cx->Int}{k k':Int}(h:sG A k)(hk:k<=k'):sG A k':=λt=>by have:=h t;omega
def Xk{A:cx->Int}{l:aa cx}{n k:Int}(h:sG A k)(an:l.length<=10)(aM:n=1∨n= -1):sG (eM A l n) (k+10):=λt=>by
 have h1:=h t;have ad:l.count t<=l.length:=zE;unfold eM;rcases aM with rfl|rfl <;> omega
def Qn{A:cx->Int}{l:aa cx}{n:Int}(h:sG A 100000)(an:l.length<=10)(aM:n=1∨n= -1):sG (eM A l n) 200000:=λt=>by
 have h1:=h t;have ad:l.count t<=l.length:=zE;unfold eM;rcases aM with rfl|rfl <;> omega
def P7{α:Type}[Inhabited α]{l:aa α}{i:Nat}(aq:i<l.length):l.take (i+1)=l.take i++[ax l i]:=by
 rw[Ct,o4 aq,dz _ aq];rfl
def DK{s:aZ}(hs:b7 s)(aG:jV s){hp:aL Cell}{p m:Nat}{A B:cx->Int}(h:mA s hp p m A B)(e7:sG A 100000)(eu:sG B 100000){e:bl}(he:uT s e){n:Int}(aM:n=1∨n= -1):
 a8 (CR hp (some p) e n) (λr=>lP m hp r∧mA s r p m (eM A (gA s e) n) (eM B (gu s e) n)):=by
 have an:=DJ aG e
 have nG:(gu s e).length<=1:=by unfold gu;split <;> simp
 have pw: -1<=n∧n<=1:=by omega
 unfold CR
 refine .cond (λag=>by cases ag) λ_=>.eq (a:=p) I (.eq h.cell (.eq (ajm aG he) ?_))
 refine .bind (P:=λx=>lP m hp x.2.2∧mA s x.2.2 p m (eM A (gA s e) n) B) (a8.jJ (gA s e).length (λi st=>st.1=(i:Int)∧lP m hp st.2∧mA s st.2 p m (eM A ((gA s e).take i) n) B) (by omega) ⟨rfl,.refl,by rw[List.take_zero,LZ];exact h⟩ (λi st aq b5=>?_) λst b5=>?_) λx au=>?_
 ·obtain⟨sL,bQ⟩:=st;obtain⟨av,bz,c1⟩:=b5
  simp only at av bz c1;subst av
  refine .cond (λ_=>.idx I aq (.bind (YX c1 (Qn e7 (by rw[e8];omega) aM) (λt=>by have:=eu t;omega) _ pw (by omega)) λy aR=>.ret ⟨dB (by omega),bz.trans aR.1,?_⟩)) λag=>by simp at ag;omega
  have:=aR.2
  rw[LK,L0,<-P7 aq]at this
  exact this
 ·obtain⟨sL,bQ⟩:=st;obtain⟨av,bz,c1⟩:=b5
  simp only at av bz c1;subst av
  rw[iD]at c1
  exact .cond (λag=>by simp at ag) λ_=>.ret ⟨bz,c1⟩
 obtain⟨bz,c1⟩:=au
 refine .eq c1.cell (.eq (agV hs aG he) ?_)
 refine .bind (P:=λz=>lP m hp z.2.2∧mA s z.2.2 p m (eM A (gA s e) n) (eM B (gu s e) n)) (a8.jJ (gu s e).length (λi st=>st.1=(i:Int)∧lP m hp st.2∧mA s st.2 p m (eM A (gA s e) n) (eM B ((gu s e).take i) n)) (by omega) ⟨rfl,bz,by rw[List.take_zero,LZ];exact c1⟩ (λi st aq b5=>?_) λst b5=>?_) λz bV=>.ret bV
 ·obtain⟨sL,bQ⟩:=st;obtain⟨av,cE,c2⟩:=b5
  simp only at av cE c2;subst av
  refine .cond (λ_=>.idx I aq (.bind (YX c2 (Qn e7 (by omega) aM) (Qn eu (by rw[e8];omega) aM) _ (by omega) pw) λy aR=>.ret ⟨dB (by omega),cE.trans aR.1,?_⟩)) λag=>by simp at ag;omega
  have:=aR.2
  rw[LK,L0,<-P7 aq]at this
  exact this
 obtain⟨sL,bQ⟩:=st;obtain⟨av,cE,c2⟩:=b5
 simp only at av cE c2;subst av
 rw[iD]at c2
 exact .cond (λag=>by simp at ag) λ_=>.ret ⟨cE,c2⟩
def PU{hp hp':aL Cell}{p:Nat}(h:pat hp' p=pat hp p):hM hp' p=hM hp p:=by unfold hM;rw[h]
def akG{hp:aL Cell}{p:Nat}{k:Cell}{x:gy}{a:aE Nat}{c:Nat}(h:pat hp p=some k):hM (cL hp p (.oN x a c)) p=some (x,a,c):=by unfold hM;rw[tc h]
structure sN where
 x:Nat
 t:Nat
 r:Nat
 m:Nat
 q:Nat
def E6(P:sN)(q:Nat):Prop:=q=P.x∨q=P.r∨q=P.m∨q=P.q
structure ib(s:aZ)(hp:aL Cell)(P:sN)(ls:Nat->List aH)(next:Int)(js:List gn)(A B:cx->Int)(N:Int->Int):Prop where
 st:∃k c,hM hp P.x=some (⟨some P.t,some P.r,some P.q,js⟩,k,c)
 kW:kt (E6 P) s hp P.t ls next
 iR:mA s hp P.r P.m A B
 quo:qY s hp P.q N
section
variable{s:aZ}{hp hp':aL Cell}{P:sN}{ls ls':Nat->aa aH}{next next':Int}{js js':aa gn}{A B cV Kh:cx->Int}{N zw:Int->Int}
def ib.ne(h:ib s hp P ls next js A B N):(P.x≠P.r∧P.x≠P.m∧P.x≠P.q)∧P.r≠P.m∧P.r≠P.q∧P.m≠P.q:=by
 obtain⟨k,c,h1⟩:=h.st;obtain⟨kv,ad,_⟩:=h.iR.map;obtain⟨u3,aB,_⟩:=h.quo.cell;have av:=rv h1;have aS:=vr ad;have cM:=RL h.iR.cell;have eW:=vp aB;refine⟨⟨λe=>?_,λe=>?_,λe=>?_⟩,λe=>?_,λe=>?_,λe=>?_⟩
 ·rw[e,cM]at av;cases av
 ·rw[e,aS]at av;cases av
 ·rw[e,eW]at av;cases av
 ·rw[e,aS]at cM;cases cM
 ·rw[e,eW]at cM;cases cM
 rw[e,eW]at aS;cases aS
def ib.xd(h:ib s hp P ls next js A B N)(k:kt (E6 P) s hp' P.t ls' next'∧rY (E6 P) hp hp'):ib s hp' P ls' next' js A B N where
 st:=by obtain⟨a,c,h1⟩:=h.st;exact⟨a,c,by rw[PU (k.2.at_ _ (.inl I))];exact h1⟩
 kW:=k.1
 iR:=h.iR.congr (k.2.at_ _ (.inr (.inl I))) (k.2.at_ _ (.inr (.inr (.inl I))))
 quo:=h.quo.congr (k.2.at_ _ (.inr (.inr (.inr I))))
def ib.only(h:ib s hp P ls next js A B N){q:Nat}(hq:E6 P q)(o:lP q hp hp'):kt (E6 P) s hp' P.t ls next:=h.kW.off (λx au=>o.at_ x λe=>au (e▸hq)) o.keys
def ib.ref(h:ib s hp P ls next js A B N)(k:lP P.m hp hp'∧mA s hp' P.r P.m cV Kh):ib s hp' P ls next js cV Kh N where
 st:=by obtain⟨a,c,h1⟩:=h.st;exact⟨a,c,by rw[PU (k.1.at_ _ h.ne.1.2.1)];exact h1⟩
 kW:=h.only (.inr (.inr (.inl I))) k.1
 iR:=k.2
 quo:=h.quo.congr (k.1.at_ _ λe=>h.ne.2.2.2 e.symm)
def ib.Od(h:ib s hp P ls next js A B N)(k:∃c,hp'=cL hp P.q c)(bx:qY s hp' P.q zw):ib s hp' P ls next js A B zw:=by
 obtain⟨c,rfl⟩:=k;have o:lP P.q hp (cL hp P.q c):=.up;exact⟨by obtain⟨a,c,h1⟩:=h.st;exact⟨a,c,by rw[PU (o.at_ _ h.ne.1.2.2)];exact h1⟩,h.only (.inr (.inr (.inr I))) o,
  h.iR.congr (o.at_ _ h.ne.2.2.1) (o.at_ _ h.ne.2.2.2),bx⟩
def ib.NW(h:ib s hp P ls next js A B N)(a:aE Nat)(c:Nat):ib s (cL hp P.x (.oN ⟨some P.t,some P.r,some P.q,js'⟩ a c)) P ls next js' A B N:=by
 have o:lP P.x hp (cL hp P.x (.oN ⟨some P.t,some P.r,some P.q,js'⟩ a c)):=.up;obtain⟨iI,gG,h1⟩:=h.st;exact⟨⟨a,c,akG (rv h1)⟩,h.only (.inl I) o,h.iR.congr (o.at_ _ h.ne.1.1.symm) (o.at_ _ h.ne.1.2.1.symm),h.quo.congr (o.at_ _ h.ne.1.2.2.symm)⟩
def Q1(h:js.length<=1000)(k:ny)(a b c:Ref):zG ⟨a,b,c,js⟩ k=some ⟨a,b,c,js++[⟨k⟩]⟩:=by
 unfold zG;rw[gz _ _ (by simp;omega) (by omega)];rfl
structure Cd(A B:cx->Int)(N:Int->Int)(js:List gn):Prop where
 a:sG A 1000
 b:sG B 1000
 n:∀x,0<=N x∧N x<1000
 j:js.length<=1000
def Yb(hs:b7 s)(aG:jV s)(h:ib s hp P ls next js A B N)(hb:Cd A B N js){k:Nat}(hk:k<4){e:bl}(he:fE s k e)(aY:n0 e)(gM:Int)(Ep:∀i∈ls k,i.b0<next)(hlen:(ls k).length<900)(aM:1<=next∧next<1000000):
 cQ (tT hp (some P.x) e gM) (λr=>
  if (dw (ls k) e).isSome=true then r=(17,hp)else if (ax s.bK k).ie<=((ls k).length:Int)then r=(18,hp)
  else if room s N gM=true then r.1=0∧ib s r.2 P (fb ls k (ls k++[{aX:=e,b0:=next,dI:=gM}])) (next+1) (js++[⟨.yY (some P.x) {aX:=e,b0:=next,dI:=gM} next gM⟩]) (eM A (gA s e) 1) (eM B (gu s e) 1) (bump N gM 1)
  else r.1=19∧ib s r.2 P (fb ls k (ls k)) next js A B N):=by
 obtain⟨a0,o2,bC⟩:=h.st
 unfold tT
 refine .cond (λag=>by cases ag) λ_=>.eq (a:=P.x) I (.eq bC (.bind (ajj hs h.kW hk he gM Ep hlen ⟨by omega,aM.2⟩) λao h1=>?_))
 by_cases aW:(dw (ls k) e).isSome=true
 ·rw[bh aW]at h1
  subst h1
  exact .cond (λ_=>.ret (by rw[bh aW])) λag=>by simp at ag
 rw[bf aW]at h1
 by_cases bV:(ax s.bK k).ie<=((ls k).length:Int)
 ·rw[bh bV]at h1
  subst h1
  exact .cond (λ_=>.ret (by rw[bf aW,bh bV])) λag=>by simp at ag
 rw[bf bV]at h1
 obtain⟨mC,err,bQ⟩:=ao
 obtain⟨av,aS,b5,oS⟩:=h1
 simp only at av aS b5 oS
 subst aS
 have av:=av.symm
 subst av
 have g1:=h.xd ⟨b5,oS⟩
 refine .cond (λag=>by simp at ag) λ_=>?_
 have xo:dw (ls k) e=none:=by
  cases hq:dw (ls k) e with
  |none=>rfl
  |some _=>rw[hq]at aW;exact absurd I aW
 obtain⟨bX,c1,h1⟩:=g1.st
 have BX:=QX hs g1.kW.ok hk he
 rw[jG,aje xo (oz e)]at BX
 replace BX:xV bQ (some P.t) e=some (({aX:=e,b0:=next,dI:=gM}:aH),true):=BX
 refine .eq (a:=P.x) I (.eq h1 (.eq BX (.eq (a:=P.x) I (.eq h1 (.gX (aaY hs g1.quo (λx=>by have:=hb.n x;omega) gM) λbg aB=>?_)))))
 by_cases lf:room s N gM=true
 ·rw[bh lf]at aB
  obtain⟨ok,cZ⟩:=bg
  obtain⟨cM,cB,eI⟩:=aB
  simp only at cM cB eI
  subst cM
  have g2:=g1.Od cB eI
  obtain⟨a2,c2,ad⟩:=g2.st
  refine .cond (λag=>by cases ag) λ_=>.eq ad (.gX (P:=λcj=>lP P.m cZ cj∧mA s cj P.r P.m (eM A (gA s e) 1) (eM B (gu s e) 1)) ?_ λcj bq=>?_)
  ·exact .bind (DK hs aG g2.iR (hb.a.mono (by omega)) (hb.b.mono (by omega)) ⟨⟨k,hk,he⟩,aY⟩ (.inl I)) λy aR=>.ret aR
  have g3:=g2.ref bq
  obtain⟨a3,eE,aB⟩:=g3.st
  refine .eq aB (.eq (Q1 hb.j _ _ _ _) (.any λc7=>.eq I (.ret ?_)))
  rw[bf aW,bf bV,bh lf]
  exact⟨rfl,g3.NW c7.1 c7.2⟩
 rw[bf lf]at aB
 subst aB
 refine .cond (λ_=>?_) λag=>by cases ag
 refine .eq h1 (.bind (LX hs g1.kW hk he) λbw aV=>?_)
 obtain⟨i4,avg,vO⟩:=bw
 have g2:=g1.xd aV.2
 simp only at g2
 obtain⟨a2,c2,ad⟩:=g2.st
 refine .eq ad (.gX (WQ g2.kW next) λcd ba=>.ret ?_)
 have g3:=g2.xd ba
 rw[bf aW,bf bV,bf lf]
 refine⟨rfl,?_⟩
 rw[wA,jG,P6 (oz e),Md xo,show max 1 next=next by omega]at g3
 exact g3
def Xl(hs:b7 s)(aG:jV s)(h:ib s hp P ls next js A B N)(hb:Cd A B N js){k:Nat}(hk:k<4){e:bl}(he:fE s k e)(aY:n0 e)(JR:∀i∈ls k,n0 i.aX)(hlen:(ls k).length<900):
 cQ (zK hp (some P.x) e) (λr=>match dw (ls k) e with
  |some i=>r.1=i.aX∧r.2.2.1=0∧ib s r.2.2.2 P (fb ls k (da (ls k) e++[{aX:=e,b0:=i.b0,dI:=i.dI}])) next js (eM (eM A (gA s i.aX) (-1)) (gA s e) 1) (eM (eM B (gu s i.aX) (-1)) (gu s e) 1) N
  |none=>r.2.2.1=16∧ib s r.2.2.2 P (fb ls k (da (ls k) e)) next js A B N):=by
 obtain⟨a0,o2,bC⟩:=h.st
 have iG:=h.kW.ok.gd hk
 unfold zK
 refine .eq (a:=P.x) I (.eq bC (.bind (ajk hs h.kW hk he hlen) λao h1=>?_))
 obtain⟨i1,err,bQ⟩:=ao
 cases aW:dw (ls k) e with
 | none=>
   rw[aW]at h1
   obtain⟨av,h1⟩:=h1
   simp only at av h1;subst av
   exact .cond (λ_=>.ret ⟨rfl,h.xd h1⟩) λag=>by simp at ag
 | some i=>
   rw[aW]at h1
   obtain⟨av,aS,h1⟩:=h1
   simp only at av aS h1;subst aS
   have av:=av.symm
   subst av
   have g1:=h.xd h1
   obtain⟨bX,c1,aJ⟩:=g1.st
   obtain⟨hm,NJ⟩:=o7 aW
   have BX:=QX hs g1.kW.ok hk he
   rw[jG,X8 (oz e) (oz e)]at BX
   refine .cond (λag=>by simp at ag) λ_=>.eq (a:=P.x) I (.eq aJ (.eq BX (.eq (a:=P.x) I (.eq aJ (.gX (P:=λy=>lP P.m bQ y∧mA s y P.r P.m (eM A (gA s i.aX) (-1)) (eM B (gu s i.aX) (-1))) ?_ λbg aB=>?_)))))
   ·exact .bind (DK hs aG g1.iR (hb.a.mono (by omega)) (hb.b.mono (by omega)) ⟨⟨k,hk,(iG.ok.ok i hm).dr⟩,JR i hm⟩ (.inr I)) λy aR=>.ret aR
   have g2:=g1.ref aB
   obtain⟨a2,c2,bx⟩:=g2.st
   have auQ:=DJ aG i.aX
   have nG:(gu s i.aX).length<=1:=by unfold gu;split <;> simp
   refine .eq bx (.gX (P:=λy=>lP P.m bg y∧mA s y P.r P.m (eM (eM A (gA s i.aX) (-1)) (gA s e) 1) (eM (eM B (gu s i.aX) (-1)) (gu s e) 1)) ?_ λbw aV=>.ret ⟨rfl,rfl,g2.ref aV⟩)
   exact .bind (DK hs aG g2.iR ((Xk hb.a (by omega) (.inr I)).mono (by omega)) ((Xk hb.b (by omega) (.inr I)).mono (by omega)) ⟨⟨k,hk,he⟩,aY⟩ (.inl I)) λy aR=>.ret aR
def ajn(hs:b7 s)(aG:jV s)(h:ib s hp P ls next js A B N)(hb:Cd A B N js){k:Nat}(hk:k<4){e:bl}(he:fE s k e)(aY:n0 e)(JR:∀i∈ls k,n0 i.aX)(hlen:(ls k).length<900):
 cQ (xO hp (some P.x) e) (λr=>match dw (ls k) e with
  |some i=>r.1=0∧ib s r.2 P (fb ls k (da (ls k) e++[{aX:=e,b0:=i.b0,dI:=i.dI}])) next (js++[⟨.xk (some P.x) i.aX⟩]) (eM (eM A (gA s i.aX) (-1)) (gA s e) 1) (eM (eM B (gu s i.aX) (-1)) (gu s e) 1) N
  |none=>r.1=16∧ib s r.2 P (fb ls k (da (ls k) e)) next js A B N):=by
 unfold xO
 refine .cond (λag=>by cases ag) λ_=>.bind (Xl hs aG h hb hk he aY JR hlen) λao h1=>?_
 obtain⟨bz,mC,err,bQ⟩:=ao
 cases aW:dw (ls k) e with
 | none=>
   rw[aW]at h1
   obtain⟨av,h1⟩:=h1
   simp only at av h1;subst av
   exact .cond (λ_=>.ret ⟨rfl,h1⟩) λag=>by simp at ag
 | some i=>
   rw[aW]at h1
   obtain⟨av,aS,h1⟩:=h1
   simp only at av aS h1;subst aS av
   obtain⟨bX,c1,aJ⟩:=h1.st
   exact .cond (λag=>by simp at ag) λ_=>.eq (a:=P.x) I (.eq aJ (.eq (Q1 hb.j _ _ _ _) (.any λq=>.eq I (.ret ⟨rfl,h1.NW q.1 q.2⟩))))
def ajo(hs:b7 s)(aG:jV s)(h:ib s hp P ls next js A B N)(hb:Cd A B N js){k:Nat}(hk:k<4){e:bl}(he:fE s k e)(JR:∀i∈ls k,n0 i.aX∧(rx i.dI).isSome=true∧0<N i.dI):
 cQ (xN hp (some P.x) e) (λr=>match dw (ls k) e with
  |some i=>r.1=0∧ib s r.2 P (fb ls k (da (ls k) e)) next (js++[⟨.yZ (some P.x) i⟩]) (eM A (gA s i.aX) (-1)) (eM B (gu s i.aX) (-1)) (bump N i.dI (-1))
  |none=>r.1=16∧ib s r.2 P (fb ls k (da (ls k) e)) next js A B N):=by
 obtain⟨a0,o2,bC⟩:=h.st
 have iG:=h.kW.ok.gd hk
 unfold xN
 refine .cond (λag=>by cases ag) λ_=>.eq (a:=P.x) I (.eq bC (.bind (LX hs h.kW hk he) λao h1=>?_))
 obtain⟨i1,err,bQ⟩:=ao
 obtain⟨h1,ad⟩:=h1
 have g1:=h.xd ad
 simp only at h1 g1
 cases aW:dw (ls k) e with
 | none=>
   rw[aW]at h1
   have aS:err=16:=eG Prod.snd h1
   subst aS
   exact .cond (λ_=>.ret ⟨rfl,g1⟩) λag=>by simp at ag
 | some i=>
   rw[aW]at h1
   have av:i1=i:=eG Prod.fst h1
   have aS:err=0:=eG Prod.snd h1
   subst aS
   have av:=av.symm
   subst av
   obtain⟨hm,_⟩:=o7 aW
   obtain⟨aY,a6,jz⟩:=JR i hm
   obtain⟨j,aC⟩:=Ci.1 a6
   obtain⟨bX,c1,aJ⟩:=g1.st
   refine .cond (λag=>by simp at ag) λ_=>.eq (a:=P.x) I (.eq aJ (.gX (P:=λy=>lP P.m bQ y∧mA s y P.r P.m (eM A (gA s i.aX) (-1)) (eM B (gu s i.aX) (-1))) ?_ λaF ad=>?_))
   ·exact .bind (DK hs aG g1.iR (hb.a.mono (by omega)) (hb.b.mono (by omega)) ⟨⟨k,hk,(iG.ok.ok i hm).dr⟩,aY⟩ (.inr I)) λy aR=>.ret aR
   have g2:=g1.ref ad
   obtain⟨a2,c2,bx⟩:=g2.st
   have hq:N i.dI<100000:=by have:=hb.n i.dI;omega
   refine .eq bx (.gX (Zt hs g2.quo aC ⟨jz,hq⟩) λbg aB=>?_)
   have g3:=g2.Od aB.1 aB.2
   obtain⟨a3,eE,cB⟩:=g3.st
   exact .eq cB (.eq (Q1 hb.j _ _ _ _) (.any λq=>.eq I (.ret ⟨rfl,g3.NW q.1 q.2⟩)))
def ajp(hs:b7 s)(aG:jV s)(h:ib s hp P ls next js A B N)(hb:Cd A B N js){k:Nat}(hk:k<4){i:aH}(aq:kq s k i)(aY:n0 i.aX){j:Nat}(aC:rx i.dI=some j)(jz:0<N i.dI)(n:Int):
 cQ (Fl hp (some P.x) i n i.dI) (λr=>ib s r P (fb ls k (da (ls k) i.aX)) (max 1 n) js (eM A (gA s i.aX) (-1)) (eM B (gu s i.aX) (-1)) (bump N i.dI (-1))):=by
 obtain⟨a0,o2,bC⟩:=h.st
 unfold Fl
 refine .eq (a:=P.x) I (.eq bC (.bind (LX hs h.kW hk aq.dr) λao h1=>?_))
 have g1:=h.xd h1.2
 obtain⟨bX,c1,aJ⟩:=g1.st
 refine .eq aJ (.gX (WQ g1.kW n) λaF ad=>?_)
 have g2:=g1.xd ad
 obtain⟨a2,c2,bx⟩:=g2.st
 refine .eq bx (.gX (P:=λy=>lP P.m aF y∧mA s y P.r P.m (eM A (gA s i.aX) (-1)) (eM B (gu s i.aX) (-1))) ?_ λbg aB=>?_)
 ·exact .bind (DK hs aG g2.iR (hb.a.mono (by omega)) (hb.b.mono (by omega)) ⟨⟨k,hk,aq.dr⟩,aY⟩ (.inr I)) λy aR=>.ret aR
 have g3:=g2.ref aB
 obtain⟨a3,eE,cB⟩:=g3.st
 have hq:N i.dI<100000:=by have:=hb.n i.dI;omega
 exact .eq cB (.gX (Zt hs g3.quo aC ⟨jz,hq⟩) λbw aV=>.ret (g3.Od aV.1 aV.2))
def ajq(hs:b7 s)(aG:jV s)(h:ib s hp P ls next js A B N)(hb:Cd A B N js){k:Nat}(hk:k<4){i:aH}(aq:kq s k i)(aY:n0 i.aX)(lf:room s N i.dI=true)(bD:qX (ls k) i=true)(hlen:(ls k).length<900):
 cQ (Cm hp (some P.x) i) (λr=>ib s r P (fb ls k (ls k++[i])) next js (eM A (gA s i.aX) 1) (eM B (gu s i.aX) 1) (bump N i.dI 1)):=by
 obtain⟨a0,o2,bC⟩:=h.st
 unfold Cm
 refine .eq (a:=P.x) I (.eq bC (.bind (aiq hs h.kW hk aq hlen) λao h1=>?_))
 have g1:=h.xd h1.2
 unfold added at g1
 rw[bh bD]at g1
 obtain⟨bX,c1,aJ⟩:=g1.st
 refine .eq aJ (.gX (P:=λy=>lP P.m ao.2 y∧mA s y P.r P.m (eM A (gA s i.aX) 1) (eM B (gu s i.aX) 1)) ?_ λaF ad=>?_)
 ·exact .bind (DK hs aG g1.iR (hb.a.mono (by omega)) (hb.b.mono (by omega)) ⟨⟨k,hk,aq.dr⟩,aY⟩ (.inl I)) λy aR=>.ret aR
 have g2:=g1.ref ad
 obtain⟨a2,c2,bx⟩:=g2.st
 refine .eq bx (.gX (aaY hs g2.quo (λx=>by have:=hb.n x;omega) i.dI) λbg aB=>.ret ?_)
 rw[bh lf]at aB
 exact g2.Od aB.2.1 aB.2.2
end
section
variable{s:aZ}{y:cW}{ls:Nat->aa aH}{next:Int}
def akH{e:bl}(hlen:y.bN.length<=1000)(oS:∀i∈y.bN,i.aX.bP.length<=1000)(he:e.bP.length<=1000):a8 (xU y e) (λr=>r=jg (y.bN.find? λi=>fG i.aX e)):=by
 unfold xU;refine a8.loop y.bN.length (λj st=>st=(j:Int)∧((y.bN.take j).find? λi=>fG i.aX e)=none) (by omega) ⟨rfl,rfl⟩ (λj st aC hs=>?_) (λst hs=>?_)
 ·obtain⟨rfl,hs⟩:=hs;have hm:ax y.bN j∈y.bN:=by rw[dz _ aC];exact j0 _
  have xt:y.bN=(y.bN.take j++[ax y.bN j])++y.bN.drop (j+1):=by rw[<-mK _ aC,gw]
  refine .cond (λ_=>.idx I aC (.eq (X3 (oS _ hm) he) (.cond (λag=>.ret (.ret ?_)) λag=>.ret ⟨dB (by omega),?_⟩))) λag=>by simp at ag;omega
  ·have xp:y.bN.find? (λi=>fG i.aX e)=some (ax y.bN j):=by
    conv=>lhs;rw[xt]
    rw[FL,FL,hs];simp only[List.find?_cons,List.find?_nil,ag,Option.none_or,Option.some_or]
   rw[xp];rfl
  rw[mK _ aC,FL,hs,Ck (by rw[ag];simp)];rfl
 obtain⟨rfl,hs⟩:=hs;have ag:decide ((y.bN.length:Int)<(y.bN.length:Int))=false:=by simp
 rw[iD]at hs;exact⟨.inl (_,_),by rw[ag];rfl,.ret (by rw[hs];rfl)⟩
def RM(hs:b7 s)(h:j4 s y ls next)(an:nA s ls){k:Nat}(hk:k<4){e:bl}(he:fE s k e):xU y e=some (jg (dw (ls k) e)):=by
 refine a8.get ((akH (by have:=h.len an;omega) (λi aq=>(h.small hs an aq).1) (by have:=he.len;have:=(hs.fF hk).2.1;omega)).mono λr aG=>?_);rw[aG];congr 1;have aY:=h.dw hs an hk he;cases aW:y.bN.find? λi=>fG i.aX e with
 | none=>
   have:(y.bN.any λi=>fG i.aX e)=false:=by rw[wc];exact xL.1 aW
   rw[this]at aY
   cases bu:dw (ls k) e with
   |none=>rfl
   |some _=>rw[bu]at aY;cases aY
 | some i=>
   have h1:=O5 aW
   obtain⟨j,aC,aq,iW⟩:=h.dr an (Ch aW)
   have av:=(td.1 h1).1
   rw[iW.dr.fF,he.fF]at av
   have:j=k:=by omega
   subst this
   exact((an.gd j aC).RI aq h1).symm
def Zw{e:bl}(hlen:y.bN.length<=1000)(oS:∀i∈y.bN,i.aX.bP.length<=1000)(he:e.bP.length<=1000):CV y e=some {y with bN:=da y.bN e}:=by
 refine a8.get ?_;unfold CV;refine .bind (P:=λx=>x.2.2=da y.bN e) (a8.jJ y.bN.length (λj st=>st=((j:Int),da (y.bN.take j) e)) (by omega) I (λj st aC hs=>?_) (λst hs=>?_)) λx au=>.ret (by rw[au])
 ·subst hs;have hm:ax y.bN j∈y.bN:=by rw[dz _ aC];exact j0 _
  have hle:=LV (y.bN.take j) e;rw[e8]at hle;refine .cond (λ_=>.idx I aC (.eq (X3 (oS _ hm) he) (.bind (P:=λm=>m=da (y.bN.take (j+1)) e) (.cond (λag=>.eq (gz _ _ (by simp only[List.length_cons,List.length_nil];omega) (by omega)) (.ret ?_)) λag=>.ret ?_) λm hm=>.ret (by rw[hm,dB (by omega)])))) λag=>by simp at ag;omega
  ·rw[mK _ aC];unfold da;rw[mG,xI (by simpa using ag),List.filter_nil]
  rw[mK _ aC];unfold da;rw[mG,vb (by simpa using ag),List.filter_nil,ot]
 subst hs;refine .cond (λag=>by simp at ag) λ_=>.ret ?_;show da (List.take _ _) _=_;rw[iD]
def ait{s:aZ}{ls:Nat->aa aH}(an:nA s ls){k:Nat}(hk:k<4){e:bl}(he:fE s k e):da (c8 ls) e=c8 (fb ls k (da (ls k) e)):=by
 have key:∀j,j<4->da (ls j) e=fb ls k (da (ls k) e) j:=λj aC=>by
  by_cases av:j=k
  ·subst av;rw[jG]
  rw[kj av];refine sQ.2 λc ag=>?_;have h1:=((an.gd j aC).ok.ok c ag).dr.fF;have:fG c.aX e=false:=by
   rw[pN];intro ad;have:=(td.1 ad).1;rw[h1,he.fF]at this;omega
  rw[this];rfl
 unfold c8;rw[<-key 0 (by decide),<-key 1 (by decide),<-key 2 (by decide),<-key 3 (by decide)];unfold da;rw[mG,mG,mG]
def j4.da(h:j4 s y ls next)(an:nA s ls){k:Nat}(hk:k<4){e:bl}(he:fE s k e):j4 s {y with bN:=Go.Proofs.YtppgfphgdogpeaaGreat.da y.bN e} (fb ls k (Go.Proofs.YtppgfphgdogpeaaGreat.da (ls k) e)) next:=
 ⟨h.oT,h.num,h.vW.sublist Kv,by rw[<-ait an hk he];exact h.qd.filter _⟩
def nA.da(an:nA s ls){k:Nat}(e:bl):nA s (fb ls k (Go.Proofs.YtppgfphgdogpeaaGreat.da (ls k) e)):=by
 refine⟨λj aC=>?_,λj aC=>?_⟩
 ·by_cases av:j=k
  ·subst av;rw[jG];exact(an.gd j aC).da e
  rw[kj av];exact an.gd j aC
 by_cases av:j=k
 ·subst av;rw[jG];exact mg (LV _ _) (an.len j aC)
 rw[kj av];exact an.len j aC
def ajr(hs:b7 s)(h:j4 s y ls next)(an:nA s ls){k:Nat}(hk:k<4){e:bl}(he:fE s k e):
 a8 (xT y e) (λr=>match dw (ls k) e with |some i=>r.2.1=0∧j4 s r.2.2 (fb ls k (da (ls k) e)) next|none=>r.2.1=16∧r.2.2=y):=by
 unfold xT
 refine .eq (HK hs h.oT hk he) (.cond (λag=>by simp at ag;omega) λ_=>.eq (RM hs h an hk he) ?_)
 cases aW:dw (ls k) e with
 |none=>exact .cond (λ_=>.ret ⟨rfl,rfl⟩) λag=>by cases ag
 | some i=>
   refine .cond (λag=>by cases ag) λ_=>.eq (Zw (by have:=h.len an;omega) (λi aq=>(h.small hs an aq).1) (by have:=he.len;have:=(hs.fF hk).2.1;omega)) (.ret ⟨rfl,h.da an hk he⟩)
def ajs(hs:b7 s)(h:j4 s y ls next)(an:nA s ls){k:Nat}(hk:k<4){e:bl}(he:fE s k e):
 a8 (xS y e) (λr=>match dw (ls k) e with |some i=>r.2.1=0∧j4 s r.2.2 (fb ls k (da (ls k) e++[{aX:=e,b0:=i.b0,dI:=i.dI}])) next|none=>r.2.1=16∧r.2.2=y):=by
 unfold xS
 refine .eq (HK hs h.oT hk he) (.cond (λag=>by simp at ag;omega) λ_=>.eq (RM hs h an hk he) ?_)
 cases aW:dw (ls k) e with
 |none=>exact .cond (λ_=>.ret ⟨rfl,rfl⟩) λag=>by cases ag
 | some i=>
   refine .cond (λag=>by cases ag) λ_=>.eq (Zw (by have:=h.len an;omega) (λi aq=>(h.small hs an aq).1) (by have:=he.len;have:=(hs.fF hk).2.1;omega)) (.eq I ?_)
   have ad:=h.da an hk he
   refine .bind (YW hs ad (an.da e) hk (i:=⟨e,i.b0,i.dI⟩) ⟨he⟩) λbw aV=>.ret ⟨rfl,aV.1.trans h.oT,aV.2.1.trans h.num,aV.2.2.1,?_⟩
   have hp:=rm (ls:=fb ls k (da (ls k) e)) hk ({aX:=e,b0:=i.b0,dI:=i.dI}:aH)
   rw[jG,wA]at hp
   exact(aV.2.2.2.trans (ad.qd.append_right _)).trans hp
def ajt(hs:b7 s)(h:j4 s y ls next)(an:nA s ls){k:Nat}(hk:k<4){e:bl}(he:fE s k e)(gM:Int)(aM:0<=next∧next<1000000):
 a8 (CF y e gM) (λr=>if (dw (ls k) e).isSome=true then r.2.1=17 else if (ax s.bK k).ie<=((ls k).length:Int)then r.2.1=18
  else r.2.1=0∧j4 s r.2.2 (fb ls k (ls k++[{aX:=e,b0:=next,dI:=gM}])) (next+1)):=by
 have hlen:=h.len an
 have aq:kq s k {aX:=e,b0:=next,dI:=gM}:=⟨he⟩
 unfold CF
 refine .eq (HK hs h.oT hk he) (.cond (λag=>by simp at ag;omega) λ_=>.eq (RM hs h an hk he) ?_)
 rw[YS]
 refine .cond (λag=>.ret (by rw[bh ag])) λag=>?_
 rw[ag,he.fF,h.oT]
 refine .eq (P4 (by omega)) (.idx I (by rw[hs.lN];exact hk) ?_)
 have atc:=(P5 h an hk).length_eq
 rw[atc]
 refine .cond (λag=>.ret ?_) λag=>?_
 ·rw[bf (by simp),bh (by simpa using ag)]
 have ag: ¬(ax s.bK k).ie<=((ls k).length:Int):=by simpa using ag
 rw[h.num]
 refine(YW hs h an hk aq).bind λbw aV=>.ret ?_
 rw[bf (by simp),bf ag]
 obtain⟨g1,g2,g3,g4⟩:=aV
 refine⟨rfl,g1.trans h.oT,?_,g3,(g4.trans (h.qd.append_right _)).trans (rm hk _)⟩
 show bm (bw.ik+1)=next+1
 rw[g2,h.num,gQ] <;> omega
def gV(L:aa aH)(x:Int):Int:=((L.countP λi=>i.dI==x:Nat):Int)
def YY(x:Int)(an:y.bN.length<=1000):C6 y x=some (gV y.bN x):=by
 refine a8.get ?_;unfold C6;refine .bind (P:=λe=>e.1=gV y.bN x) (a8.jJ y.bN.length (λj st=>st=(gV (y.bN.take j) x,(j:Int))) (by omega) I (λj st aC hs=>?_) (λst hs=>?_)) λe he=>.ret he
 ·subst hs;have hle:(y.bN.take j).countP (λi=>i.dI==x)<=1000:=mg U3 (by rw[e8];omega);refine .cond (λ_=>.idx I aC (.bind (P:=λm=>m=gV (y.bN.take (j+1)) x) (.cond (λag=>.ret ?_) λag=>.ret ?_) λm hm=>.ret (by rw[hm,dB (by omega)]))) λag=>by simp at ag;omega
  ·rw[mK _ aC];unfold gV;rw[OM,Oy,ag];exact dB (by omega)
  rw[mK _ aC];unfold gV;rw[OM,Oy,ag];rfl
 subst hs;refine .cond (λag=>by simp at ag) λ_=>.ret ?_;show gV (List.take _ _) _=_;rw[iD]
def alK(hs:b7 s)(x:Int):Ha s x=some (o3 x):=by
 refine a8.get ?_;unfold Ha;refine(Ms hs).bind λao h1=>?_;rw[h1.D8,hs.D8];refine(Zh [1,2,7] x (by simp)).bind λr h=>.ret ?_;rcases h with⟨rfl,aM⟩|⟨k,hk,rfl,he⟩
 ·unfold o3 rx;simp only[dP,vd,vh,x5]at aM;rw[bf aM.1,bf aM.2.1,bf aM.2.2]
 unfold o3;rw[(AU hk).1 he]
def Zx(an:y.bN.length<=1000):GL y=some y:=by
 unfold GL;rw[gz _ _ (by simp;omega) (by omega)];rfl
def WT(hs:b7 s)(h:j4 s y ls next)(an:nA s ls){k:Nat}(hk:k<4){e:bl}(he:fE s k e)(gM:Int)(aM:0<=next∧next<1000000):
 a8 (x2 y e gM) (λr=>if (dw (ls k) e).isSome=true then r=(17,y)else if (ax s.bK k).ie<=((ls k).length:Int)then r=(18,y)
  else if room s (gV (c8 ls)) gM=true then r.1=0∧j4 s r.2 (fb ls k (ls k++[{aX:=e,b0:=next,dI:=gM}])) (next+1)else r=(19,y)):=by
 have hlen:=h.len an
 unfold x2
 refine .eq (Zx (by omega)) (.bind (ajt hs h an hk he gM aM) λaF ad=>?_)
 obtain⟨n,err,nO⟩:=aF
 by_cases aW:(dw (ls k) e).isSome=true
 ·rw[bh aW]at ad
  simp only at ad;subst ad
  exact .cond (λ_=>.ret (by rw[bh aW])) λag=>by simp at ag
 rw[bf aW]at ad
 by_cases bV:(ax s.bK k).ie<=((ls k).length:Int)
 ·rw[bh bV]at ad
  simp only at ad;subst ad
  exact .cond (λ_=>.ret (by rw[bf aW,bh bV])) λag=>by simp at ag
 rw[bf bV]at ad
 obtain⟨aS,ad⟩:=ad
 simp only at aS ad;subst aS
 refine .cond (λag=>by simp at ag) λ_=>?_
 rw[h.oT]
 have atd:gV y.bN=gV (c8 ls):=by funext x;unfold gV;rw[h.qd.countP_eq]
 refine .eq (alK hs gM) ?_
 rw[YY gM (by omega),atd]
 cases aG:rx gM with
 | none=>
   have hr:o3 gM= -1:=by unfold o3;rw[aG]
   have av:room s (gV (c8 ls)) gM=false:=by unfold room;rw[aG]
   rw[hr]
   exact .ret (by rw[bf aW,bf bV,av,bf (by simp)])
 | some j=>
   have aC:=A7 aG
   have hr:o3 gM=(j:Int):=by unfold o3;rw[aG]
   have hd:decide ((j:Int)<0)=false:=by simp
   rw[hr]
   simp only[hd]
   refine .eq (a:=gV (c8 ls) gM) I (.eq (a:=j) (by unfold b1;rw[bh I];exact kS (by rw[hs.ps];exact aC)) (.eq I (.cond (λag=>.ret ?_) λag=>.ret ?_)))
   ·rw[bf aW,bf bV,bf (by unfold room;rw[aG];simp only[r3,e2]at ag;simp;omega)]
   rw[bf aW,bf bV,bh (by unfold room;rw[aG];simp only[r3,nP]at ag;simp;omega)]
   exact⟨rfl,ad⟩
end
def jK(s:aZ)(L:aa aH)(t:cx):Int:=(((L.flatMap λi=>gA s i.aX).count t:Nat):Int)
def fX(s:aZ)(L:aa aH)(t:cx):Int:=(((L.flatMap λi=>gu s i.aX).count t:Nat):Int)
section
variable{s:aZ}{L L':aa aH}
def ya(h:L.Perm L'):jK s L=jK s L':=by funext t;unfold jK;rw[(h.flatMap_right _).count_eq]
def yb(h:L.Perm L'):fX s L=fX s L':=by funext t;unfold fX;rw[(h.flatMap_right _).count_eq]
def rk(h:L.Perm L'):gV L=gV L':=by funext x;unfold gV;rw[h.countP_eq]
def Ap{i:aH}:eM (jK s L) (gA s i.aX) 1=jK s (L++[i]):=by
 funext t;unfold jK eM;rw[OF,OR];simp
def Aq{i:aH}:eM (fX s L) (gu s i.aX) 1=fX s (L++[i]):=by
 funext t;unfold fX eM;rw[OF,OR];simp
def s4{i:aH}:bump (gV L) i.dI 1=gV (L++[i]):=by
 funext x;unfold gV bump;rw[OM,Oy];by_cases e:x=i.dI
 ·subst e;rw[bh I];simp
 rw[bf e,bf (by simpa using λh=>e h.symm)];simp
def Xm{A:cx->Int}{l:aa cx}:eM (eM A l 1) l (-1)=A:=by funext t;unfold eM;omega
def aiu{N:Int->Int}{x:Int}:bump (bump N x 1) x (-1)=N:=by
 funext y;unfold bump;by_cases e:y=x
 ·subst e;rw[bh I,bh I];omega
 rw[bf e,bf e]
def LA{i:aH}(h:(L'++[i]).Perm L):eM (jK s L) (gA s i.aX) (-1)=jK s L':=by rw[<-ya h,<-Ap,Xm]
def LB{i:aH}(h:(L'++[i]).Perm L):eM (fX s L) (gu s i.aX) (-1)=fX s L':=by rw[<-yb h,<-Aq,Xm]
def Xn{i:aH}(h:(L'++[i]).Perm L):bump (gV L) i.dI (-1)=gV L':=by rw[<-rk h,<-s4,aiu]
def Yc{i:aH}(h:i∈L):0<gV L i.dI:=by
 unfold gV;have:0<L.countP λj=>j.dI==i.dI:=List.countP_pos_iff.2 ⟨i,h,by simp⟩;omega
end
def nB(a b:Nat->aa aH):Prop:=∀k,k<4->(a k).Perm (b k)
def nB.refl{a:Nat->aa aH}:nB a a:=λ_ _=>.refl _
def nB.symm{a b:Nat->aa aH}(h:nB a b):nB b a:=λk hk=>(h k hk).symm
def nB.trans{a b c:Nat->aa aH}(h:nB a b)(k:nB b c):nB a c:=λj aC=>(h j aC).trans (k j aC)
structure iC(s:aZ)(ls:Nat->List aH)(next:Int)(y:cW):Prop where
 r:j4 s y ls next
 ok:nA s ls
 arg:∀k,k<4->∀i∈ls k,n0 i.aX∧(rx i.dI).isSome=true∧i.b0<next
 quo:∀x j,rx x=some j->gV (c8 ls) x<=(ax s.eK j).kg
 Ki:1<=next
def akI{s:aZ}{k:Nat}{l l':aa aH}(h:ia s k l)(p:l'.Perm l):ia s k l':=
 ⟨X6 h.ok p,h.key.perm p.symm λ{a b} Ub=>by rw[s9];exact Ub⟩
def iC.perm{s:aZ}{ls ls':Nat->aa aH}{next:Int}{y:cW}(h:iC s ls next y)(p:nB ls' ls):iC s ls' next y where
 r:=⟨h.r.oT,h.r.num,h.r.vW,h.r.qd.trans (As p.symm)⟩
 ok:=⟨λk hk=>akI (h.ok.gd k hk) (p k hk),λk hk=>by rw[(p k hk).length_eq];exact h.ok.len k hk⟩
 arg k hk i aq:=h.arg k hk i ((p k hk).mem_iff.1 aq)
 quo x j aC:=by rw[rk (As p)];exact h.quo x j aC
 Ki:=h.Ki
def iC.Nj{s:aZ}{ls:Nat->aa aH}{next:Int}{y:cW}(h:iC s ls next y):(c8 ls).length<=48:=by rw[<-h.r.qd.length_eq];exact h.r.len h.ok
def Au{α β:Type}{f:α->aa β}{n:Nat}(aW:∀x,(f x).length<=n):∀l:aa α,(l.flatMap f).length<=n*l.length
 |[]=>by simp
 | x::l=>by
   have:=Au aW l;have:=aW x;rw[List.flatMap_cons,gH,List.length_cons,Nat.mul_add];omega
def iC.Kj{s:aZ}(aG:jV s){ls:Nat->aa aH}{next:Int}{y:cW}(h:iC s ls next y){js:aa gn}(aC:js.length<=1000):Cd (jK s (c8 ls)) (fX s (c8 ls)) (gV (c8 ls)) js where
 a t:=by
   have h1:=Au (f:=λi:aH=>gA s i.aX) (n:=4) (λi=>DJ aG _) (c8 ls);have ad:=h.Nj;have aB:(List.flatMap (λi:aH=>gA s i.aX) (c8 ls)).count t<=_:=zE;unfold jK;omega
 b t:=by
   have h1:=Au (f:=λi:aH=>gu s i.aX) (n:=1) (λi=>by unfold gu;split <;> simp) (c8 ls);have ad:=h.Nj;have aB:(List.flatMap (λi:aH=>gu s i.aX) (c8 ls)).count t<=_:=zE;unfold fX;omega
 n x:=by
   have ad:=h.Nj;have aB:(c8 ls).countP (λi=>i.dI==x)<=_:=U3;unfold gV;omega
 j:=aC
abbrev jB(s:aZ)(hp:aL Cell)(P:sN)(ls:Nat->aa aH)(next:Int)(js:aa gn):Prop:=ib s hp P ls next js (jK s (c8 ls)) (fX s (c8 ls)) (gV (c8 ls))
inductive zf(s:aZ)(ji:Nat)(ls:Nat->List aH)(next:Int):gn->(Nat->List aH)->Int->Prop
 |ins {k:Nat} {i:aH} (hk:k<4) (aq:kq s k i) (aY:n0 i.aX) (aW:dw (ls k) i.aX=none):zf s ji ls next ⟨.yY (some ji) i next i.dI⟩ (fb ls k (ls k++[i])) (next+1)
 |mod {k:Nat} {i:aH} {e:bl} (hk:k<4) (aq:i∈ls k) (he:fE s k e) (aY:n0 e) (hs:fG i.aX e=true):zf s ji ls next ⟨.xk (some ji) i.aX⟩ (fb ls k (da (ls k) e++[{aX:=e,b0:=i.b0,dI:=i.dI}])) next
 |del {k:Nat} {i:aH} (hk:k<4) (aq:i∈ls k):zf s ji ls next ⟨.yZ (some ji) i⟩ (fb ls k (da (ls k) i.aX)) next
def YZ{l:aa aH}{e d:bl}(h:fG e d=true):da l e=da l d:=List.filter_congr λc _=>by
 congr 1;rw[kQ];exact⟨λg=>s6 g h,λg=>s6 g (by rw[s9];exact h)⟩
def WU{l l':aa aH}{e:bl}(p:l.Perm l'):(da l e).Perm (da l' e):=p.filter _
def Yd{s:aZ}{k:Nat}{l l':aa aH}(h:ia s k l')(p:l.Perm l')(e:bl):dw l e=dw l' e:=by
 cases aW:dw l e with
 | some i=>
   obtain⟨h1,ad⟩:=o7 aW
   exact(h.RI (p.mem_iff.1 h1) ad).symm
 | none=>
   cases bu:dw l' e with
   |none=>rfl
   | some i=>
     obtain⟨h1,ad⟩:=o7 bu
     rw[uc aW i (p.mem_iff.2 h1)]at ad;cases ad
section
variable{s:aZ}{hp:aL Cell}{P:sN}{ls ls' bI:Nat->aa aH}{next next':Int}{js:aa gn}{y nO:cW}{me:gn}
def ib.to{A B cV Kh:cx->Int}{N zw:Int->Int}(h:ib s hp P ls next js A B N)(aY:A=cV)(hb:B=Kh)(aM:N=zw):ib s hp P ls next js cV Kh zw:=by subst aY hb aM;exact h
def alL(hs:b7 s)(aG:jV s)(h:jB s hp P bI next' js)(aC:js.length<=1000)(hu:zf s P.x ls next me ls' next')(h1:iC s ls next y)(ad:iC s ls' next' nO)(p:nB bI ls'):
 cQ (PE hp me.AL) (λr=> ∃fP,jB s r P fP next js∧nB fP ls):=by
 have aB:=ad.perm p
 have hb:=aB.Kj aG aC
 cases hu with
 | @ins k i hk aq aY aW=>
   have sH:=p k hk
   rw[jG]at sH
   have xn:i∈bI k:=sH.mem_iff.2 (by simp)
   have ate:i∈c8 bI:=LW.2 ⟨k,hk,xn⟩
   obtain⟨j,NX⟩:=Ci.1 (aB.arg k hk i xn).2.1
   refine(ajp hs aG h hb hk aq aY NX (Yc ate) next).mono λr vU=>⟨fb bI k (da (bI k) i.aX),?_,?_⟩
   ·have sD:(c8 (fb bI k (da (bI k) i.aX))++[i]).Perm (c8 bI):=by
     have ba:=rm (ls:=fb bI k (da (bI k) i.aX)) hk i;rw[jG,wA]at ba;refine ba.trans (As λj aC=>?_);by_cases e:j=k
     ·subst e;rw[jG];exact yc (aB.ok.gd j hk) xn (oz _)
     rw[kj e]
    have au:max 1 next=next:=by have:=h1.Ki;omega
    rw[au]at vU
    exact vU.to (LA sD) (LB sD) (Xn sD)
   intro j aC
   by_cases e:j=k
   ·subst e
    rw[jG]
    have ba:=WU (e:=i.aX) sH
    rw[P6 (oz _),Md aW]at ba
    exact ba
   rw[kj e]
   have ba:=p j aC
   rw[kj e]at ba;exact ba
 | @mod k i e hk aq he aY tH=>
   have sH:=p k hk
   rw[jG]at sH
   have eo:=(h1.ok.gd k hk).ok.ok i aq
   have Nk:fG e i.aX=true:=by rw[s9];exact tH
   have xo:dw (bI k) i.aX=some {aX:=e,b0:=i.b0,dI:=i.dI}:=by
    rw[Yd (by have:=ad.ok.gd k hk;rw[jG]at this;exact this) sH];exact X8 (oz e) tH
   obtain⟨hm,_⟩:=o7 xo
   show cQ (Fm hp (some P.x) i.aX) _
   unfold Fm
   refine .bind (Xl hs aG h hb hk eo.dr (h1.arg k hk i aq).1 (λc ag=>(aB.arg k hk c ag).1) (by have:=aB.ok.len k hk;omega)) λao aR=>.ret ?_
   rw[xo]at aR
   obtain⟨_,_,bu⟩:=aR
   simp only at bu
   have sD:(c8 (fb bI k (da (bI k) i.aX))++[({aX:=e,b0:=i.b0,dI:=i.dI}:aH)]).Perm (c8 bI):=by
    have ba:=rm (ls:=fb bI k (da (bI k) i.aX)) hk ({aX:=e,b0:=i.b0,dI:=i.dI}:aH);rw[jG,wA]at ba;refine ba.trans (As λj aC=>?_);by_cases e:j=k
    ·subst e;rw[jG];exact yc (aB.ok.gd j hk) hm Nk
    rw[kj e]
   have NY:=rm (ls:=fb bI k (da (bI k) i.aX)) hk i
   rw[jG,wA]at NY
   refine⟨_,bu.to ?_ ?_ ?_,?_⟩
   ·have:=LA (s:=s) sD
    rw[this,Ap (i:=i)];exact ya NY
   ·have:=LB (s:=s) sD
    rw[this,Aq (i:=i)];exact yb NY
   ·rw[<-rk sD,<-rk NY,<-s4,<-s4]
   intro j aC
   by_cases av:j=k
   ·subst av
    rw[jG]
    have ba:=WU (e:=i.aX) sH
    rw[aip (oz e) tH,YZ Nk]at ba
    exact(ba.append_right _).trans (yc (h1.ok.gd j hk) aq (oz _))
   rw[kj av]
   have ba:=p j aC
   rw[kj av]at ba;exact ba
 | @del k i hk aq=>
   have sH:=p k hk
   rw[jG]at sH
   have eo:=(h1.ok.gd k hk).ok.ok i aq
   have sD:(c8 bI++[i]).Perm (c8 ls):=by
    refine(rm hk i).trans (As λj aC=>?_);by_cases e:j=k
    ·subst e;rw[jG];exact(sH.append_right _).trans (yc (h1.ok.gd j hk) aq (oz _))
    rw[kj e];have ba:=p j aC;rw[kj e]at ba;exact ba
   have bD:qX (bI k) i=true:=by
    have ba:=X7 (h1.ok.gd k hk) aq (oz i.aX) (oz i.aX) I;unfold qX j7 at ba⊢;rw[Yd ((h1.ok.gd k hk).da i.aX) sH,sH.any_eq];exact ba
   have lf:room s (gV (c8 bI)) i.dI=true:=by
    obtain⟨j,NX⟩:=Ci.1 (h1.arg k hk i aq).2.1;have ba:=h1.quo _ j NX;rw[<-rk sD,<-s4]at ba;unfold bump at ba;rw[bh I]at ba;unfold room;rw[NX];simp;omega
   show cQ (Cm hp (some P.x) i) _
   refine(ajq hs aG h hb hk eo (h1.arg k hk i aq).1 lf bD (by have:=aB.ok.len k hk;omega)).mono λr bu=>⟨fb bI k (bI k++[i]),bu.to ?_ ?_ ?_,?_⟩
   ·rw[Ap];exact ya (rm hk i)
   ·rw[Aq];exact yb (rm hk i)
   ·rw[s4];exact rk (rm hk i)
   intro j aC
   by_cases e:j=k
   ·subst e
    rw[jG]
    exact(sH.append_right _).trans (yc (h1.ok.gd j hk) aq (oz _))
   rw[kj e]
   have ba:=p j aC
   rw[kj e]at ba;exact ba
end
def aaZ{s:aZ}(hs:b7 s)(aG:jV s)(hp:aL Cell):cQ (Dm hp s) (λr=> ∃P:sN,r.1=some P.x∧jB s r.2 P (λ_=>[]) 1 []):=by
 have NZ:=hs.ps;unfold Dm;refine .bind (alG hs hp) λao h1=>?_;obtain⟨t,av,h1⟩:=h1;obtain⟨as3,bQ⟩:=ao;simp only at av h1;subst av;unfold Lw Lm;refine .bind (P:=λaF=> ∃m r,r≠m∧m∉eb bQ∧r∉eb bQ∧aF=(some r,(r,Cell.A8 ⟨s,⟨some m⟩⟩)::(m,Cell.tl [])::bQ)) (.mk λm hm=>.mk λr aG=>.ret ⟨m,r,?_,hm,?_,rfl⟩) λaF ad=>?_
 ·exact λe=>aG (by rw[e];exact jC)
 ·exact λh=>aG (gx _ h)
 obtain⟨m,r,Jl,hm,EM,rfl⟩:=ad;refine .bind (P:=λbg=> ∃q,q≠r∧q≠m∧q∉eb bQ∧bg=(some q,(q,Cell.tm {(default:jS)with nW:=s.eK})::(r,Cell.A8 ⟨s,⟨some m⟩⟩)::(m,Cell.tl [])::bQ)) (.eq (a:=s.eK) ?_ (.mk λq hq=>.ret ⟨q,?_,?_,?_,rfl⟩)) λbg aB=>?_
 ·unfold mQ;rw[bh ⟨by omega,by rw[NZ];decide,by rw[NZ];decide⟩,NZ];show some (List.take 3 s.eK)=_;rw[<-NZ,iD]
 ·exact λe=>hq (by rw[e];exact jC)
 ·exact λe=>hq (by rw[e];exact gx _ jC)
 ·exact λh=>hq (gx _ (gx _ h))
 obtain⟨q,atf,BU,jO,rfl⟩:=aB;refine .any λcH=>.mk λx au=>.ret ⟨⟨x,t,r,m,q⟩,rfl,?_⟩;simp only at au⊢;have atg:x≠q:=λe=>au (by rw[e];exact jC);have Tq:x≠r:=λe=>au (by rw[e];exact gx _ jC);have ath:x≠m:=λe=>au (by rw[e];exact gx _ (gx _ jC));have iF:x∉eb bQ:=λh=>au (gx _ (gx _ (gx _ h)));have og:∀z,E6 ⟨x,t,r,m,q⟩ z->z∉eb bQ:=λz bV=>by
  rcases bV with rfl|rfl|rfl|rfl
  ·exact iF
  ·exact EM
  ·exact hm
  exact jO
 have hold:∀z fo cB bx aJ,z∈eb bQ->pat ((x,fo)::(q,cB)::(r,bx)::(m,aJ)::bQ) z=pat bQ z:=λz fo cB bx aJ bV=>by
  rw[lq,bf (λe:x=z=>iF (by rw[e];exact bV)),lq,bf (λe:q=z=>jO (by rw[e];exact bV)),lq,bf (λe:r=z=>EM (by rw[e];exact bV)),lq,bf (λe:m=z=>hm (by rw[e];exact bV))]
 obtain⟨zv,fr,own,g1,g2,g3⟩:=h1.cell;have i1:=ki (wN g1);have i2:=ki (yg g2);have ii:∀k,k<4->∀z,own k z->z∈eb bQ:=λk hk z bV=>by obtain⟨_,_,bT⟩:=g3.has k hk;exact bT.pE z bV
 refine⟨⟨cH.1,cH.2,?_⟩,⟨⟨zv,fr,own,?_,?_,g3.congr (λz bV=>?_) λk hk z bV=>hold z _ _ _ _ (ii k hk z bV),⟨λh=>og _ h i1,λh=>og _ h i2⟩,λk hk z bV h=>og z h (ii k hk z bV)⟩,λz bV=>?_⟩,⟨?_,[],?_,.nil,λt=>?_⟩,⟨(default:jS).iM,?_,λj aC=>?_⟩⟩
 ·unfold hM;rw[lq,bh I]
 ·rw[Hy (hold t _ _ _ _ i1)];exact g1
 ·rw[Hz (hold zv _ _ _ _ i2)];exact g2
 ·exact gx _ (gx _ (gx _ (gx _ bV)))
 ·rcases bV with rfl|rfl|rfl|rfl
  ·exact jC
  ·exact gx _ (gx _ jC)
  ·exact gx _ (gx _ (gx _ jC))
  exact gx _ jC
 ·unfold qD;rw[lq,bf Tq,lq,bf atf,lq,bh I]
 ·unfold qE;rw[lq,bf ath,lq,bf BU,lq,bf Jl,lq,bh I]
 ·rw[bh ⟨rfl,rfl⟩];rfl
 ·unfold oE;rw[lq,bf atg,lq,bh I]
 show bE (default:Vector Int 6) j=0;have:j=0∨j=1∨j=2:=by omega
 rcases this with rfl|rfl|rfl <;> rfl
inductive qm(s:aZ)(ji:Nat):List gn->List cW->(Nat->List aH)->Int->Prop
 |nil {ls:Nat->List aH} {next:Int} {y:cW} (h:iC s ls next y):qm s ji [] [y] ls next
 |snoc {js:List gn} {ys:List cW} {ls EX ls':Nat->List aH} {next next':Int} {me:gn} {nO:cW} (h:qm s ji js ys ls next) (p:nB EX ls) (u:zf s ji EX next me ls' next') (cU:iC s ls' next' nO):
  qm s ji (js++[me]) (ys++[nO]) ls' next'
section
variable{s:aZ}{hp:aL Cell}{P:sN}{ls bI:Nat->aa aH}{next:Int}{js:aa gn}{ys:aa cW}{y:cW}{ji:Nat}
def qm.len(h:qm s ji js ys ls next):ys.length=js.length+1:=by
 induction h with
 |nil _=>rfl
 |snoc _ _ _ _ cg=>rw[gH,gH,cg];rfl
def qm.last(h:qm s ji js ys ls next):iC s ls next (ax ys js.length):=by
 cases h with
 |nil h=>exact h
 | snoc h p u cU=>
   rw[LI,bh (by rw[gH,h.len];rfl)]
   exact cU
def qm.back{me:gn}(h:qm s ji (js++[me]) ys ls next):∃N0 EX Oe,qm s ji js (ys.take (js.length+1)) N0 Oe∧nB EX N0∧zf s ji EX Oe me ls next:=by
 generalize aC:js++[me]=avh at h;cases h with
 |nil _=>exact absurd aC (by simp)
 | snoc h p u cU=>
   obtain⟨rfl,e⟩:=List.append_inj' aC I
   cases e
   refine⟨_,_,_,?_,p,u⟩
   rw[<-h.len,Gs];exact h
def alM(hs:b7 s)(aG:jV s)(h:jB s hp P bI next js)(aC:js.length<=1000)(c:qm s P.x js ys ls next)(p:nB bI ls)(mark:Int):
 cQ (FA hp (some P.x) mark) (λr=> ∃kX ls' next',jB s r P kX next' (js.take (max 0 mark).toNat)∧qm s P.x (js.take (max 0 mark).toNat) (ys.take ((max 0 mark).toNat+1)) ls' next'∧nB kX ls'):=by
 generalize aM:(max 0 mark).toNat=n
 have NG:max 0 mark=(n:Int):=by omega
 have hlen:=c.len
 unfold FA
 refine .bind (P:=λe=> ∃kX ls' next',jB s e.2 P kX next' (js.take n)∧qm s P.x (js.take n) (ys.take (n+1)) ls' next'∧nB kX ls') (cQ.loop (js.length-n) (λi st=> ∃kX ls' next',jB s st P kX next' (js.take (js.length-i))∧qm s P.x (js.take (js.length-i)) (ys.take (js.length-i+1)) ls' next'∧nB kX ls') (by omega) ⟨bI,ls,next,by rw[Nat.sub_zero,iD];exact h,by rw[Nat.sub_zero,<-hlen,iD,iD];exact c,p⟩ (λi st aq b5=>?_) λst b5=>?_) λe he=>.ret he
 ·obtain⟨kX,ls',next',g,gG,B2⟩:=b5
  obtain⟨a,b,b5⟩:=g.st
  have an:(js.take (js.length-i)).length=js.length-i:=by rw[e8];omega
  obtain⟨d,hd⟩:∃d,js.length-i=d+1:=⟨js.length-i-1,by omega⟩
  rw[hd]at g gG b5 an
  have hw:bm (((js.take (d+1)).length:Int)-1)=(d:Int):=by rw[an,gQ (by omega) (by omega)];omega
  refine .eq (a:=P.x) I (.eq b5 (.eq I (.cond (λ_=>?_) λag=>?_)))
  ·refine .idx (k:=d) hw (by rw[an];omega) (.idx (k:=d) hw (by rw[an];omega) (.eq I (.eq I ?_)))
   have adm:d<js.length:=by omega
   have ati:js.take (d+1)=js.take d++[ax js d]:=P7 adm
   have Uc:(js.take (d+1)).take d=js.take d:=by rw[q8,oq (by omega)]
   have NU:ax (js.take (d+1)) d=ax js d:=by rw[dz _ (by rw[an];omega),dz _ adm,KI]
   simp only[Uc,NU]
   rw[ati]at gG
   obtain⟨N0,EX,Oe,o2,adN,JU⟩:=gG.back
   have atj:(js.take d).length=d:=by rw[e8];omega
   rw[atj,q8,oq (by omega)]at o2
   have cb:=o2.last.perm adN
   refine .bind (alL hs aG (g.NW (js':=js.take d) a b) (by omega) JU cb gG.last B2) λaF ad=>.ret ?_
   obtain⟨fP,g2,bn⟩:=ad
   rw[show js.length-(i+1)=d by omega]
   exact⟨fP,N0,Oe,g2,o2,bn.trans adN⟩
  simp only[nP,an,NG]at ag
  omega
 obtain⟨kX,ls',next',g,gG,B2⟩:=b5
 obtain⟨a,b,b5⟩:=g.st
 refine .eq (a:=P.x) I (.eq b5 (.eq I (.cond (λag=>?_) λ_=>.ret ?_)))
 ·simp only[e2,e8,NG]at ag
  omega
 by_cases p8:n<=js.length
 ·rw[show js.length-(js.length-n)=n by omega]at g gG
  exact⟨kX,ls',next',g,gG,B2⟩
 rw[show js.length-(js.length-n)=js.length by omega,iD]at g gG
 have av:js.take n=js:=pL (by omega)
 have aS:ys.take (n+1)=ys:=pL (by omega)
 have cM:ys.take (js.length+1)=ys:=pL (by omega)
 rw[cM]at gG
 rw[av,aS]
 exact⟨kX,ls',next',g,gG,B2⟩
end
section
variable{s:aZ}{hp:aL Cell}{P:sN}{ls bI:Nat->aa aH}{next:Int}{js:aa gn}{ys:aa cW}{y:cW}{ji:Nat}
variable{A B:cx->Int}{N:Int->Int}
def Qo(hs:b7 s)(aR:y.gK=s){e:bl}(he:e.bG=9):tX y e=some (-1):=by
 refine a8.get ?_;unfold tX xZ;rw[aR,he];have an:=hs.lN;refine .bind (P:=λr=>r= -1) ((Ms hs).bind λr aG=>?_) λr aG=>.ret aG;rw[aG.tables];refine(Zh _ 9 (by rw[k1];omega)).bind λr aG=>.ret ?_;rcases aG with⟨rfl,_⟩|⟨k,hk,rfl,he⟩
 ·rfl
 rw[k1,an]at hk;rw[Ay _ (by omega),(hs.fF hk).1]at he;omega
def aiv(h:ib s hp P bI next js A B N){e:bl}(he:e.bG=9)(gM:Int):cQ (tT hp (some P.x) e gM) (λr=>r=(6,hp)):=by
 obtain⟨a0,o2,bC⟩:=h.st;unfold tT;refine .cond (λag=>by cases ag) λ_=>.eq (a:=P.x) I (.eq bC (.bind (P:=λr=>r=(0,6,hp)) ?_ λao h1=>?_))
 ·unfold CH;rw[he];exact .eq (LU h.kW.ok (.inr (by omega))) (.cond (λ_=>.ret I) λag=>by cases ag)
 subst h1;exact .cond (λ_=>.ret I) λag=>by simp at ag
def Y0(h:ib s hp P bI next js A B N){e:bl}(he:e.bG=9):cQ (ve hp (some P.t) e) (λr=>r=(default,6,hp)):=by
 unfold ve;rw[he];exact .eq (LU h.kW.ok (.inr (by omega))) (.cond (λ_=>.ret I) λag=>by cases ag)
def aiw(h:ib s hp P bI next js A B N){e:bl}(he:e.bG=9):cQ (xN hp (some P.x) e) (λr=>r=(6,hp)):=by
 obtain⟨a0,o2,bC⟩:=h.st;unfold xN;refine .cond (λag=>by cases ag) λ_=>.eq (a:=P.x) I (.eq bC (.bind (Y0 h he) λao h1=>?_));subst h1;exact .cond (λ_=>.ret I) λag=>by simp at ag
def aix(h:ib s hp P bI next js A B N){e:bl}(he:e.bG=9):cQ (xO hp (some P.x) e) (λr=>r=(6,hp)):=by
 obtain⟨a0,o2,bC⟩:=h.st;unfold xO zK;refine .cond (λag=>by cases ag) λ_=>.bind (P:=λr=>r.2.2=(6,hp)) (.eq (a:=P.x) I (.eq bC (.bind (P:=λr=>r.2=(6,hp)) ?_ λao h1=>?_))) λao h1=>?_
 ·unfold CI;refine .bind (Y0 h he) λao h1=>?_;subst h1;exact .cond (λ_=>.ret I) λag=>by simp at ag
 ·obtain⟨i,r⟩:=ao;simp only at h1;subst h1;exact .cond (λ_=>.ret I) λag=>by simp at ag
 obtain⟨i,k,r⟩:=ao;simp only at h1;subst h1;exact .cond (λ_=>.ret I) λag=>by simp at ag
def agX(hs:b7 s)(aR:y.gK=s)(an:y.bN.length<=1000){e:bl}(he:e.bG=9)(gM:Int):a8 (x2 y e gM) (λr=>r=(6,y)):=by
 unfold x2;refine .eq (Zx an) (.bind (P:=λr=>r.2.1=6) ?_ λaF ad=>?_)
 ·unfold CF;exact .eq (Qo hs aR he) (.cond (λ_=>.ret I) λag=>by cases ag)
 obtain⟨n,k,r⟩:=aF;simp only at ad;subst ad;exact .cond (λ_=>.ret I) λag=>by simp at ag
def agY(hs:b7 s)(aR:y.gK=s){e:bl}(he:e.bG=9):a8 (xS y e) (λr=>r.2=(6,y)):=by
 unfold xS;exact .eq (Qo hs aR he) (.cond (λ_=>.ret I) λag=>by cases ag)
def agZ(hs:b7 s)(aR:y.gK=s){e:bl}(he:e.bG=9):a8 (xT y e) (λr=>r.2=(6,y)):=by
 unfold xT;exact .eq (Qo hs aR he) (.cond (λ_=>.ret I) λag=>by cases ag)
def yN(s:aZ)(P:sN)(bI:Nat->aa aH)(next:Int)(js:aa gn)(y:cW)(a b:Int)(nO:cW)(hp':aL Cell):Prop:=
 a=b∧((b=0∧∃me kX next',jB s hp' P kX next' (js++[me])∧zf s P.x bI next me kX next'∧iC s kX next' nO∧next'<=next+1)∨(b≠0∧jB s hp' P bI next js∧nO=y))
def iC.N1(h:iC s bI next y){next':Int}(aM:next<=next'){nO:cW}{k:Nat}(hk:k<4){l:aa aH}(g:jB s hp P (fb bI k l) next' js)(aG:j4 s nO (fb bI k l) next')(an:l.length<=12)
 (aY:∀i∈l,n0 i.aX∧(rx i.dI).isSome=true∧i.b0<next') (hq:∀x j,rx x=some j->gV (c8 (fb bI k l)) x<=(ax s.eK j).kg):iC s (fb bI k l) next' nO:=by
 refine⟨aG,⟨λj aC=>g.kW.ok.gd aC,λj aC=>?_⟩,λj aC=>?_,hq,by have:=h.Ki;omega⟩
 ·by_cases e:j=k
  ·subst e;rw[jG];exact an
  rw[kj e];exact h.ok.len j aC
 by_cases e:j=k
 ·subst e;rw[jG];exact aY
 rw[kj e];exact λi aq=>⟨(h.arg j aC i aq).1,(h.arg j aC i aq).2.1,by have:=(h.arg j aC i aq).2.2;omega⟩
def aov(hs:b7 s)(aG:jV s)(h:jB s hp P bI next js)(cK:iC s bI next y)(aC:js.length<=1000)(aM:next<100000){k:Nat}(hk:k<4){e:bl}(he:fE s k e)(aY:n0 e)(gM:Int):
 cQ (aj.bind (tT hp (some P.x) e gM) λcA=>aj.bind (aj.of (x2 y e gM)) λdS=>aj.ret (cA,dS)) (λr=>yN s P bI next js y r.1.1 r.2.1 r.2.2 r.1.2):=by
 have mu:=cK.Ki
 have fm:=cK.ok.len k hk
 refine .bind (Yb hs aG h (cK.Kj aG aC) hk he aY gM (λi aq=>(cK.arg k hk i aq).2.2) (by omega) ⟨mu,by omega⟩) λcA db=>.gX (WT hs cK.r cK.ok hk he gM ⟨by omega,by omega⟩) λdS dE=>.ret ?_
 by_cases aW:(dw (bI k) e).isSome=true
 ·rw[bh aW]at db dE
  subst db dE
  exact⟨rfl,.inr ⟨by simp,h,rfl⟩⟩
 rw[bf aW]at db dE
 by_cases bV:(ax s.bK k).ie<=((bI k).length:Int)
 ·rw[bh bV]at db dE
  subst db dE
  exact⟨rfl,.inr ⟨by simp,h,rfl⟩⟩
 rw[bf bV]at db dE
 have ee:=(hs.size hk).2
 by_cases lf:room s (gV (c8 bI)) gM=true
 ·rw[bh lf]at db dE
  obtain⟨tQ,g8⟩:=db
  obtain⟨qj,Ce⟩:=dE
  have hp:=rm (ls:=bI) hk ({aX:=e,b0:=next,dI:=gM}:aH)
  have g:=g8.to (Ap.trans (ya hp)) (Aq.trans (yb hp)) (s4.trans (rk hp))
  have xo:dw (bI k) e=none:=by
   cases hq:dw (bI k) e with
   |none=>rfl
   |some _=>rw[hq]at aW;exact absurd I aW
  have EG:∃j,rx gM=some j∧gV (c8 bI) gM<(ax s.eK j).kg:=by
   unfold room at lf;split at lf
   ·rename_i j aC;exact⟨j,aC,xM lf⟩
   cases lf
  obtain⟨j,aC,hq⟩:=EG
  refine⟨tQ.trans qj.symm,.inl ⟨qj,_,_,_,g,.ins (i:=⟨e,next,gM⟩) hk ⟨he⟩ aY xo,cK.N1 (by omega) hk g Ce (by rw[gH];simp only[List.length_cons,List.length_nil];omega) (λi aq=>?_) (λx pI pA=>?_),xY _⟩⟩
  ·rcases cF.1 aq with aq|aq
   ·have:=cK.arg k hk i aq
    exact⟨this.1,this.2.1,by omega⟩
   rw[hT]at aq
   subst aq
   exact⟨aY,by rw[aC];rfl,by simp only;omega⟩
  rw[<-rk hp,<-s4]
  unfold bump
  by_cases av:x=gM
  ·subst av
   rw[bh I]
   rw[aC]at pA;cases pA
   simp only;omega
  rw[bf av];exact cK.quo x pI pA
 rw[bf lf]at db dE
 obtain⟨tQ,g8⟩:=db
 subst dE
 rw[P3]at g8
 exact⟨tQ,.inr ⟨by simp,g8,rfl⟩⟩
def aow(hs:b7 s)(aG:jV s)(h:jB s hp P bI next js)(cK:iC s bI next y)(aC:js.length<=1000){k:Nat}(hk:k<4){e:bl}(he:fE s k e)(aY:n0 e):
 cQ (aj.bind (xO hp (some P.x) e) λcA=>aj.bind (aj.of (xS y e)) λdS=>aj.ret (cA,dS)) (λr=>yN s P bI next js y r.1.1 r.2.2.1 r.2.2.2 r.1.2):=by
 have fm:=cK.ok.len k hk
 refine .bind (ajn hs aG h (cK.Kj aG aC) hk he aY (λi aq=>(cK.arg k hk i aq).1) (by omega)) λcA db=>.gX (ajs hs cK.r cK.ok hk he) λdS dE=>.ret ?_
 cases aW:dw (bI k) e with
 | none=>
   rw[aW]at db dE
   rw[Md aW,P3]at db
   exact⟨db.1.trans dE.1.symm,.inr ⟨by rw[dE.1];simp,db.2,dE.2⟩⟩
 | some i=>
   rw[aW]at db dE
   obtain⟨tQ,g8⟩:=db
   obtain⟨qj,Ce⟩:=dE
   obtain⟨hm,tH⟩:=o7 aW
   have iG:=cK.ok.gd k hk
   have bQ:(c8 (fb bI k (da (bI k) e))++[i]).Perm (c8 bI):=by
    have ba:=rm (ls:=fb bI k (da (bI k) e)) hk i;rw[jG,wA]at ba;refine ba.trans (As λj aC=>?_);by_cases av:j=k
    ·subst av;rw[jG];exact yc iG hm tH
    rw[kj av]
   have cZ:=rm (ls:=fb bI k (da (bI k) e)) hk ({aX:=e,b0:=i.b0,dI:=i.dI}:aH)
   rw[jG,wA]at cZ
   have jz:gV (c8 bI)=gV (c8 (fb bI k (da (bI k) e++[({aX:=e,b0:=i.b0,dI:=i.dI}:aH)]))):=by
    rw[<-rk bQ,<-rk cZ,<-s4,<-s4]
   have g:jB s cA.2 P (fb bI k (da (bI k) e++[{aX:=e,b0:=i.b0,dI:=i.dI}])) next (js++[⟨.xk (some P.x) i.aX⟩]):=g8.to (by rw[LA bQ];exact Ap.trans (ya cZ)) (by rw[LB bQ];exact Aq.trans (yb cZ)) jz
   have atk:=cK.arg k hk i hm
   refine⟨tQ.trans qj.symm,.inl ⟨qj,_,_,_,g,.mod hk hm he aY tH,cK.N1 (xY _) hk g Ce ?_ (λc ag=>?_) (λx j aC=>by rw[<-jz];exact cK.quo x j aC),by omega⟩⟩
   ·have:=(yc iG hm tH).length_eq
    rw[gH]at this⊢
    simp only[List.length_cons,List.length_nil]at this⊢
    omega
   rcases cF.1 ag with ag|ag
   ·exact cK.arg k hk c (nV.1 ag).1
   rw[hT]at ag
   subst ag
   exact⟨aY,atk.2⟩
def aox(hs:b7 s)(aG:jV s)(h:jB s hp P bI next js)(cK:iC s bI next y)(aC:js.length<=1000){k:Nat}(hk:k<4){e:bl}(he:fE s k e):
 cQ (aj.bind (xN hp (some P.x) e) λcA=>aj.bind (aj.of (xT y e)) λdS=>aj.ret (cA,dS)) (λr=>yN s P bI next js y r.1.1 r.2.2.1 r.2.2.2 r.1.2):=by
 have fm:=cK.ok.len k hk
 refine .bind (ajo hs aG h (cK.Kj aG aC) hk he λi aq=>⟨(cK.arg k hk i aq).1,(cK.arg k hk i aq).2.1,Yc (LW.2 ⟨k,hk,aq⟩)⟩) λcA db=>.gX (ajr hs cK.r cK.ok hk he) λdS dE=>.ret ?_
 cases aW:dw (bI k) e with
 | none=>
   rw[aW]at db dE
   rw[Md aW,P3]at db
   exact⟨db.1.trans dE.1.symm,.inr ⟨by rw[dE.1];simp,db.2,dE.2⟩⟩
 | some i=>
   rw[aW]at db dE
   obtain⟨tQ,g8⟩:=db
   obtain⟨qj,Ce⟩:=dE
   obtain⟨hm,tH⟩:=o7 aW
   have iG:=cK.ok.gd k hk
   have Nk:fG e i.aX=true:=by rw[s9];exact tH
   rw[YZ Nk]at g8 Ce
   have bQ:(c8 (fb bI k (da (bI k) i.aX))++[i]).Perm (c8 bI):=by
    have ba:=rm (ls:=fb bI k (da (bI k) i.aX)) hk i;rw[jG,wA]at ba;refine ba.trans (As λj aC=>?_);by_cases av:j=k
    ·subst av;rw[jG];exact yc iG hm (oz _)
    rw[kj av]
   have g:=g8.to (LA bQ) (LB bQ) (Xn bQ)
   refine⟨tQ.trans qj.symm,.inl ⟨qj,_,_,_,g,.del hk hm,cK.N1 (xY _) hk g Ce (mg (LV _ _) fm) (λc ag=>cK.arg k hk c (nV.1 ag).1) (λx j aC=>?_),by omega⟩⟩
   have:=cK.quo x j aC
   rw[<-rk bQ,<-s4]at this
   unfold bump at this
   by_cases av:x=i.dI
   ·rw[bh av,<-av]at this;omega
   rw[bf av]at this;exact this
def alN(hs:b7 s)(aG:jV s)(h:jB s hp P bI next js)(cK:iC s bI next y)(aC:js.length<=1000)(aM:next<100000)(c:dM)(ag:hc c):
 cQ (Ht hp (some P.x) y c) (λr=>r.1=true∧hc r.2.2.2.1∧yN s P bI next js y (if r.2.1=true then 0 else 1) (if r.2.1=true then 0 else 1) r.2.2.1 r.2.2.2.2):=by
 unfold Ht
 have auR:=cK.r.len cK.ok
 refine .gX (gO c 4 ag (by omega)) λao h1=>?_
 rw[cK.r.oT]
 refine .gX (a8.par (ah2 ao.2 ao.1 h1.1 hs) (ais ao.2 hs ao.1)) λaF ad=>?_
 obtain⟨⟨c2,bx,c4,_,oR⟩,pt⟩:=ad
 refine .bind (P:=λbg=>hc bg.2∧(bg.1=true->0<y.bN.length)) (.cond (λan=>?_) λ_=>.ret ⟨c2,λbT=>by cases bT⟩) λbg aB=>?_
 ·exact .of ((qu _ c2).mono λr aG=>⟨aG,λ_=>by simp at an;exact an⟩)
 refine .gX (P:=λm=>hc m.1∧∃k,k<4∧fE s k m.2∧n0 m.2) (.cond (λhb=>?_) λ_=>.ret ⟨aB.1,bx,c4,oR,pt⟩) λm1 bS=>?_
 ·simp only[gm]at hb
  have auS:=aB.2 hb.2
  refine .bind (gO _ _ aB.1 (by omega)) λkV vV=>.eq (wJ vV.2.1 vV.2.2.1) ?_
  have tF:kV.1.toNat<y.bN.length:=by have:=vV.2.1;have:=vV.2.2.1;omega
  obtain⟨UG,Ud,atl,JS⟩:=cK.r.dr cK.ok (r6 tF)
  have atm:=(cK.arg UG Ud _ atl).1
  refine .bind (P:=λm=> ∃k,k<4∧fE s k m∧n0 m) (.cond (λ_=>.eq I (.ret ⟨UG,Ud,?_,pt⟩)) λ_=>.ret ⟨UG,Ud,JS.dr,atm⟩) λm hm=>.ret ⟨vV.1,hm⟩
  exact⟨JS.dr.fF,JS.dr.len,JS.dr.xu,oR.args,JS.dr.pri⟩
 obtain⟨atn,k,hk,he,aY⟩:=bS
 refine .gX (gO _ 12 atn (by omega)) λcd ba=>.gX (P:=λm=>m.bG=9∨(fE s k m∧n0 m)) (.cond (λ_=>.ret (.inl I)) λ_=>.ret (.inr ⟨he,aY⟩)) λm2 c6=>?_
 refine .gX (gO _ 5 ba.1 (by omega)) λcj bq=>.gX (P:=λ_=>True) (.cond (λ_=>.ret lJ) λ_=>.bind (P:=λ_=>True) (.cond (λ_=>.ret lJ) λ_=>.ret lJ) λ_ _=>.ret lJ) λm3 _=>?_
 have fin:∀(a b:Int) (nO:cW) (hp':aL Cell) (gG:dM),hc gG->yN s P bI next js y a b nO hp'->(a==b)=true∧hc gG∧yN s P bI next js y (if (b==0)=true then 0 else 1) (if (b==0)=true then 0 else 1) nO hp':=λa b nO hp' gG nJ hd=>by
  refine⟨by simp[hd.1],nJ,rfl,?_⟩;by_cases e:b=0
  ·rw[bh (by simp[e])];rcases hd.2 with h1|h1
   ·exact .inl ⟨rfl,h1.2⟩
   exact absurd e h1.1
  rw[bf (by simp[e])];rcases hd.2 with h1|h1
  ·exact absurd h1.1 e
  exact .inr ⟨by simp,h1.2⟩
 refine .bind (P:=λm4=>hc m4.2.2.1∧yN s P bI next js y m4.1 m4.2.1 m4.2.2.2.1 m4.2.2.2.2) (.cond (λ_=>?_) λ_=>.bind (P:=λm5=>yN s P bI next js y m5.1 m5.2.1 m5.2.2.1 m5.2.2.2) (.cond (λ_=>?_) λ_=>?_) λm5 ba=>.ret ⟨bq.1,ba⟩) λm4 aV=>.ret (fin _ _ _ _ _ aV.1 aV.2)
 ·refine .gX (gO _ 5 bq.1 (by omega)) λcm c0=>.eq (wJ c0.2.1 (by simpa using c0.2.2.1)) ?_
  rcases c6 with c6|⟨c6,pt⟩
  ·refine .bind (aiv h c6 _) λcA db=>.gX (agX hs cK.r.oT (by omega) c6 _) λdS dE=>.ret ?_
   subst db dE
   exact⟨c0.1,rfl,.inr ⟨by simp,h,rfl⟩⟩
  have hd:=aov hs aG h cK aC aM hk c6 pt (ax ([1,1,2,7,5]:aa Int) cm.1.toNat)
  exact λQ xG=>hd (λr=>Q (r.1.1,r.2.1,cm.2,r.2.2,r.1.2)) λr aG=>xG _ ⟨c0.1,aG⟩
 ·rcases c6 with c6|⟨c6,pt⟩
  ·refine .bind (aix h c6) λcA db=>.gX (agY hs cK.r.oT c6) λdS dE=>.ret ?_
   obtain⟨z,dS⟩:=dS
   simp only at dE;subst db dE
   exact⟨rfl,.inr ⟨by simp,h,rfl⟩⟩
  have hd:=aow hs aG h cK aC hk c6 pt
  exact λQ xG=>hd (λr=>Q (r.1.1,r.2.2.1,r.2.2.2,r.1.2)) λr aG=>xG _ aG
 rcases c6 with c6|⟨c6,pt⟩
 ·refine .bind (aiw h c6) λcA db=>.gX (agZ hs cK.r.oT c6) λdS dE=>.ret ?_
  obtain⟨z,dS⟩:=dS
  simp only at dE;subst db dE
  exact⟨rfl,.inr ⟨by simp,h,rfl⟩⟩
 have hd:=aox hs aG h cK aC hk c6
 exact λQ xG=>hd (λr=>Q (r.1.1,r.2.2.1,r.2.2.2,r.1.2)) λr aG=>xG _ aG
end
section
variable{s:aZ}{hp:aL Cell}{P:sN}{ls bI:Nat->aa aH}{next:Int}{js:aa gn}{ys:aa cW}{y:cW}{ji:Nat}
def HL(h:jB s hp P bI next js):wb hp (some P.x)=some (some P.t):=by
 obtain⟨a,b,h1⟩:=h.st;refine a8.get ?_;unfold wb;exact .cond (λag=>by cases ag) λ_=>.eq rfl (.eq h1 (.ret rfl))
def Zy(h:jB s hp P bI next js):CE hp (some P.x)=some next:=by
 refine a8.get ?_;unfold CE;exact .eq (HL h) (.eq (akB h.kW.ok) (.ret I))
def aoy(hs:b7 s)(h:jB s hp P bI next js)(cK:iC s bI next y):cQ (GG hp (some P.x)) (λr=>r=(y.bN,hp)):=by
 unfold GG;refine .eq (HL h) (.bind (alJ hs h.kW.ok cK.r cK.ok) λr aG=>.ret ?_);subst aG;rfl
def alO(hs:b7 s)(h:jB s hp P bI next js):Gb hp (some P.x)=some [⟨1,gV (c8 bI) 1⟩,⟨2,gV (c8 bI) 2⟩,⟨7,gV (c8 bI) 7⟩]:=by
 obtain⟨a,b,h1⟩:=h.st;refine a8.get ?_;unfold Gb;exact .cond (λag=>by cases ag) λ_=>.eq rfl (.eq h1 ((aou hs h.quo).bind λr aG=>.ret aG))
def aa0(hs:b7 s)(aG:jV s):iC s (λ_=>[]) 1 ⟨s,[],1⟩:=by
 refine⟨⟨rfl,rfl,.nil,.refl _⟩,⟨λk hk=>⟨⟨λi aq=>by simp at aq,.nil,by simp⟩,.nil⟩,λk hk=>by simp⟩,λk hk i aq=>by simp at aq,λx j aC=>?_,by simp⟩;have:=aG.quo _ (r6 (show j<s.eK.length by rw[hs.ps];exact A7 aC));exact this
def Zz(hs:b7 s)(aG:jV s)(h:jB s hp P bI 1 [])(cK:iC s bI 1 y)(he:nB bI λ_=>[]):
 cQ (tT hp (some P.x) EW 1) (λr=>r.1=0∧∃me kX nO,jB s r.2 P kX 2 [me]∧zf s P.x bI 1 me kX 2∧iC s kX 2 nO):=by
 have p2:∀k,k<4->bI k=[]:=λk hk=>(he k hk).eq_nil
 have w3:c8 bI=[]:=by unfold c8;rw[p2 0 (by decide),p2 1 (by decide),p2 2 (by decide),p2 3 (by decide)];rfl
 have aW:dw (bI 0) EW=none:=by rw[p2 0 (by decide)];rfl
 have ee: ¬(ax s.bK 0).ie<=((bI 0).length:Int):=by
  have:=(hs.size (k:=0) (by decide)).1;rw[p2 0 (by decide)];simp;omega
 have lf:room s (gV (c8 bI)) 1=true:=by
  rw[w3];show decide ((0:Int)<(ax s.eK 0).kg)=true;rw[aG.all];decide
 have aM:(dw (bI 0) EW).isSome=false:=by rw[aW];rfl
 refine(Yb hs aG h (cK.Kj aG (by simp)) (k:=0) (by decide) (RK hs) (λbT=>by rcases bT with bT|bT <;> cases bT) 1 (λi aq=>by rw[p2 0 (by decide)]at aq;cases aq) (by rw[p2 0 (by decide)];decide) ⟨by omega,by omega⟩).mono λr db=>?_
 obtain⟨Ce,qj,dE⟩:=WT hs cK.r cK.ok (k:=0) (by decide) (RK hs) 1 ⟨by omega,by omega⟩
 rw[bf (by rw[aM];simp),bf ee,bh lf]at db dE
 obtain⟨tQ,g8⟩:=db
 have hp:=rm (ls:=bI) (k:=0) (by decide) ({aX:=EW,b0:=1,dI:=1}:aH)
 have g:=g8.to (Ap.trans (ya hp)) (Aq.trans (yb hp)) (s4.trans (rk hp))
 refine⟨tQ,_,_,_,g,.ins (k:=0) (i:=⟨EW,1,1⟩) (by decide) ⟨RK hs⟩ (λbT=>by rcases bT with bT|bT <;> cases bT) aW,cK.N1 (by omega) (by decide) g dE.2 (by rw[p2 0 (by decide)];simp) (λi aq=>?_) λx j aC=>?_⟩
 ·rw[p2 0 (by decide),List.nil_append,hT]at aq
  subst aq
  exact⟨λbT=>(by rcases bT with bT|bT <;> cases bT),rfl,by simp only;omega⟩
 rw[<-rk hp,<-s4,w3]
 unfold bump
 by_cases av:x=1
 ·subst av
  cases aC
  rw[bh I,aG.all];decide
 rw[bf av]
 have:=aG.quo _ (r6 (show j<s.eK.length by rw[hs.ps];exact A7 aC))
 exact this
def aiy(hp:aL Cell):cQ (Hl hp) (λr=>r.1=true):=by
 unfold Hl;refine .gX (QL [] 0 (by omega) (by omega)) λao h1=>.gX (a8.par (WI ao h1) (WR ao)) λaF ad=>?_;obtain⟨⟨hs,_⟩,aG⟩:=ad;refine .bind (aaZ hs aG hp) λbg aB=>?_;obtain⟨P,cM,g0⟩:=aB;obtain⟨auT,iQ⟩:=bg;simp only at cM g0;subst cM;refine .eq I ?_;have cb:=aa0 hs aG;refine .bind (Zz hs aG g0 cb .refl) λbw aV=>?_;obtain⟨eW,me,bI,nO,g1,Of,s1⟩:=aV;have c1:qm aF.1 P.x [me] [⟨aF.1,[],1⟩,nO] bI 2:=.snoc (js:=[]) (ys:=[⟨aF.1,[],1⟩]) (.nil cb) .refl Of s1;refine .bind (alM hs aG g1 (by simp) c1 .refl 0) λcd ba=>?_;obtain⟨fP,ls',rV,g2,c2,bn⟩:=ba;have g2:jB aF.1 cd P fP rV []:=g2;have c2:qm aF.1 P.x [] [⟨aF.1,[],1⟩] ls' rV:=c2;have cK:iC aF.1 ls' rV ⟨aF.1,[],1⟩:=c2.last;have hr:rV=1:=cK.r.num.symm;subst hr;have BC:nB ls' λ_=>[]:=by
  have h:=cK.r.qd;intro k hk;have p2:c8 ls'=[]:=h.symm.eq_nil;have:ls' k=[]:=by
   cases an:ls' k with
   |nil=>rfl
   | cons i r=>
     have:i∈c8 ls':=LW.2 ⟨k,hk,by rw[an];exact jC⟩
     rw[p2]at this;cases this
  rw[this]
 refine .bind (Zz hs aG g2 (cK.perm bn) (bn.trans BC)) λcj bq=>?_;obtain⟨l9,ato,auU,auV,g6,_,_⟩:=bq;obtain⟨atV,atW,atp⟩:=g6.st;rw[eW,l9];refine .eq (a:=P.x) I (.eq (a:=(⟨some P.t,some P.r,some P.q,[ato]⟩,atV,atW)) (by unfold b1;exact(bh (by rfl)).trans atp) (.eq (a:=(1:Int)) I (.eq (a:=(2:Int)) ?_ (.ret I))));unfold b1;exact(bh (by rfl)).trans (Zy g6)
end
def jR:cx->cx->Int:=jW (λx y=>eP x.bG y.bG) (jW (λx y=>eP x.fx y.fx) (λx y=>eP (gC x.cc) (gC y.cc)))
def vB:mF jR:=(tk.on λx:cx=>x.bG).jW ((tk.on λx:cx=>x.fx).jW (tk.on λx:cx=>gC x.cc))
def Q2{x y:cx}(h:jR x y=0):x=y:=by
 obtain⟨h1,ad⟩:=wD h;obtain⟨ad,aB⟩:=wD ad;have av:=k4.1 h1;have aS:=k4.1 ad;have cM:=AT (k4.1 aB);obtain⟨a,b,c⟩:=x;obtain⟨iI,b',gG⟩:=y;simp only at av aS cM;subst av aS cM;rfl
def aoz{x y z:cx}(h1:jR x y<0)(ad:jR y z<0):jR x z<0:=by
 have aB:=vB.oh x y z (by omega) (by omega);by_cases e:jR x z=0
 ·have:=Q2 e;subst this;have:=vB.neg x y;omega
 omega
def Y1:∀{xs ys:aa cx},xs.Pairwise (λa b=>jR a b<0)->ys.Pairwise (λa b=>jR a b<0)->(∀x,x∈xs↔x∈ys)->xs=ys
 |[],[],_,_,_=>rfl
 |[],y::t,_,_,h=>by have:=(h y).2 jC;cases this
 |x::r,[],_,_,h=>by have:=(h x).1 jC;cases this
 | x::r,y::t,h1,ad,h=>by
   obtain⟨bX,a2⟩:=kz.1 h1;obtain⟨dL,eF⟩:=kz.1 ad;have e:x=y:=by
    rcases dP.1 ((h x).1 jC)with e|au
    ·exact e
    rcases dP.1 ((h y).2 jC)with e|aR
    ·exact e.symm
    have g1:=bX y aR;have g2:=dL x au;have:=vB.neg x y;omega
   subst e;have hs:∀z,jR z z=0:=vB.self;rw[Y1 a2 eF λz=>⟨λbV=>?_,λbV=>?_⟩]
   ·rcases dP.1 ((h z).1 (gx _ bV))with e|aB
    ·subst e;have:=bX z bV;rw[hs]at this;omega
    exact aB
   rcases dP.1 ((h z).2 (gx _ bV))with e|aB
   ·subst e;have:=dL z bV;rw[hs]at this;omega
   exact aB
def aoA{l:aa Int}(an:l.length<=1000):Ho l=some (kU l):=by
 refine a8.get ?_;unfold Ho;refine .bind (P:=λe=>(∃q,e=.inl q∧kU l=0)∨∃q:Int×Int×Int×Bool×Bool,e=.inr q∧q.1=kU l)
  (a8.jJ l.length (λj st=>st=(j:Int)∧kU l=kU (l.drop j)) (by omega) ⟨rfl,rfl⟩ (λj st aC hs=>?_) (λst hs=>?_)) λe he=>?_
 ·obtain⟨rfl,hs⟩:=hs;rw[q4 aC]at hs;have hs:kU l=if l[j]=0 then kU (l.drop (j+1))else l[j]:=hs;refine .cond (λ_=>.idx I aC ?_) λag=>by simp at ag;omega
  rw[dz _ aC];refine .cond (λag=>.ret (.inr ⟨_,rfl,?_⟩)) λag=>.ret ⟨dB (by omega),?_⟩
  ·have:l[j]≠0:=by simpa using ag
   rw[hs,bf this]
  have:l[j]=0:=by simpa using ag
  rw[hs,bh this]
 ·obtain⟨rfl,hs⟩:=hs;refine .cond (λag=>by simp at ag) λ_=>.ret (.inl ⟨_,rfl,?_⟩);rw[hs,r2];rfl
 rcases he with⟨q,rfl,hq⟩|⟨q,rfl,hq⟩
 ·simp only[Sum.elim_inl];exact .ret hq.symm
 simp only[Sum.elim_inr];exact .ret hq
def alP(a b:hU):F0 a b=some (jR a.cX b.cX):=by
 unfold F0;rw[wQ,wQ,QZ];simp only[Option.bind_some];rw[aoA (by simp)];simp only[Option.bind_some,kU,jR,jW];congr 1;split
 ·split
  ·split
   ·rename_i h;exact h.symm
   rfl
  rfl
 rfl
structure xH(T:List cx)(N M:List Int)(A B:cx->Int):Prop where
 vW:T.Pairwise (λa b=>jR a b<0)
 mem:∀x,x∈T↔¬(A x=0∧B x=0)
 n:N=T.map A
 m:M=T.map B
def xH.uniq{T UH:aa cx}{N M zw adO:aa Int}{A B:cx->Int}(h:xH T N M A B)(k:xH UH zw adO A B):T=UH∧N=zw∧M=adO:=by
 have e:T=UH:=Y1 h.vW k.vW λx=>by rw[h.mem,k.mem]
 subst e;exact⟨rfl,h.n.trans k.n.symm,h.m.trans k.m.symm⟩
def Q3{α β:Type}[DecidableEq α]:∀{l:aa (α×β)} {x:α} {v:β},pJ l->(x,v)∈l->dG l x=some v
 | (k,w)::r,x,v,hk,h=>by
   obtain⟨h1,ad⟩:=kz.1 hk;show(if x=k then some w else dG r x)=some v;rcases dP.1 h with e|h
   ·cases e;exact bh I
   have:k≠x:=h1 (x,v) h;rw[bf (x4 this)];exact Q3 ad h
def ZA{s:aZ}{hp:aL Cell}{p m:Nat}{A B:cx->Int}(h:mA s hp p m A B)(hlen:∀kv,qE hp m=some kv->kv.length<=1000):
 cQ (CY hp (some p)) (λr=>r.2=hp∧r.1.length<=1000∧xH (r.1.map (·.cX)) (r.1.map (·.iE)) (r.1.map (·.iv)) A B):=by
 obtain⟨em,ad,kn,bu⟩:=h.map
 have sx:=hlen em ad
 let F:Nat->hU:=λq=>⟨(ax em q).1,(ax em q).2.rl,(ax em q).2.rj⟩
 have yG:∀vis,Met em.length vis->(∀j,j<em.length->j∈vis)->(vis.map F).Perm (em.map λx=>(⟨x.1,x.2.rl,x.2.rj⟩:hU)):=λvis bc aY=>by
  refine((bc.perm aY).map _).trans ?_;rw[show(List.range em.length).map F=((List.range em.length).map (λq=>ax em q)).map (λx=>(⟨x.1,x.2.rl,x.2.rj⟩:hU)) by rw[sV];rfl,Xi]
 unfold CY
 refine .cond (λag=>by cases ag) λ_=>.eq rfl (.eq h.cell (.eq (a:=m) I (.eq ad ?_)))
 refine .bind (P:=λe=>e.2.2.Perm (em.map λx=>(⟨x.1,x.2.rl,x.2.rj⟩:hU))) (cQ.loop em.length (λj st=> ∃vis,st=(vis,vis.map F)∧vis.length=j∧Met em.length vis) (by omega) ⟨[],rfl,rfl,.nil,by simp⟩ (λj st aC hs=>?_) (λst hs=>?_)) λe he=>?_
 ·obtain⟨vis,rfl,qT,bc⟩:=hs
  refine .next λo a6=>?_
  cases o with
  |none=>exact .cond (λag=>by cases ag) λ_=>.ret (yG vis bc a6)
  | some q=>
    refine .cond (λ_=>.eq I (.eq I (.eq (gz _ _ (by simp;omega) (by omega)) (.ret ⟨vis++[q],?_,by simp[qT],bc.more a6⟩)))) λag=>by cases ag
    rw[mI];rfl
 ·obtain⟨vis,rfl,qT,bc⟩:=hs
  refine .next λo a6=>?_
  cases o with
  |none=>exact .cond (λag=>by cases ag) λ_=>.ret (yG vis bc a6)
  |some q=>exact absurd (bc.full qT a6.1) a6.2
 have hle:=he.length_eq
 rw[k1]at hle
 refine .bind (cQ.wS (c:=λa b=>jR a.cX b.cX) ⟨λx y=>vB.neg _ _,λx y z=>vB.oh _ _ _⟩ (by omega) λa _ b _=>alP a b) λy aR=>.ret ?_
 have bZ:y.Perm (em.map λx=>(⟨x.1,x.2.rl,x.2.rj⟩:hU)):=aR.1.trans he
 have q1:(y.map (·.cX)).Perm (em.map (·.1)):=by
  have:=bZ.map (·.cX);rwa[sV]at this
 have hm:∀c∈y,∃x∈em,c=⟨x.1,x.2.rl,x.2.rj⟩:=λc ag=>by
  obtain⟨x,au,e⟩:=ic.1 (bZ.mem_iff.1 ag);exact⟨x,au,e.symm⟩
 have bc:∀x∈em,¬(A x.1=0∧B x.1=0)∧x.2=⟨A x.1,B x.1⟩:=λx au=>by
  have dE:=bu x.1;rw[Q3 kn au]at dE;split at dE
  ·cases dE
  rename_i bV;exact⟨bV,CA dE⟩
 have lR:(y.map (·.cX)).Nodup:=q1.nodup_iff.2 (Cs.2 kn)
 refine⟨rfl,(by have:=bZ.length_eq;rw[k1]at this;show y.length<=1000;omega),⟨?_,λx=>?_,?_,?_⟩⟩
 ·have db:(y.map (·.cX)).Pairwise (λa b=>jR a b<=0):=Cs.2 aR.2
  refine(db.and lR).imp λ{a b} Ub=>?_
  have:jR a b≠0:=λe=>Ub.2 (Q2 e)
  omega
 ·rw[q1.mem_iff,ic]
  constructor
  ·rintro ⟨z,bV,rfl⟩;exact(bc z bV).1
  intro au
  have dE:=bu x
  rw[bf au]at dE
  exact⟨_,Qk dE,rfl⟩
 ·rw[sV]
  refine Fu λc ag=>?_
  obtain⟨x,au,rfl⟩:=hm c ag
  exact eG k2.rl (bc x au).2
 rw[sV]
 refine Fu λc ag=>?_
 obtain⟨x,au,rfl⟩:=hm c ag
 exact eG k2.rj (bc x au).2
def ut(t:e3):cx:=⟨t.bG,t.fx,t.cc⟩
def RN{a b:e3}(h:ut a=ut b):a=b:=by
 obtain⟨x,y,z⟩:=a;obtain⟨avi,nO,avj⟩:=b;cases h;rfl
def aiz(a b:e3):Hb a b=some (decide (jR (ut a) (ut b)<0)):=by
 refine a8.get ?_;unfold Hb;have e:jR (ut a) (ut b)=if eP a.bG b.bG=0 then(if eP a.fx b.fx=0 then eP (gC a.cc) (gC b.cc)else eP a.fx b.fx)else eP a.bG b.bG:=rfl;rw[e];refine .cond (λag=>.ret ?_) λag=>.cond (λhd=>.ret ?_) λhd=>(H3 _ _).bind λr aG=>.ret ?_
 ·have ag:a.bG≠b.bG:=by simpa using ag
  rw[bf λh=>ag (k4.1 h),q7,Iy]
 ·have ag:a.bG=b.bG:=by simpa using ag
  have hd:a.fx≠b.fx:=by simpa using hd
  rw[bh (k4.2 ag),bf λh=>hd (k4.1 h),q7,Iy]
 have ag:a.bG=b.bG:=by simpa using ag
 have hd:a.fx=b.fx:=by simpa using hd
 rw[bh (k4.2 ag),bh (k4.2 hd),q7];exact aG.1
def sO(R:aa eY):aa cx:=R.map λc=>ut c.cX
def om(R:aa eY)(A B:cx->Int):Prop:=xH (sO R) (R.map (·.iE)) (R.map (·.iv)) A B
def aju{α:Type}{r:α->α->Prop}{a b:aa α}{x:α}(h:(a++b).Pairwise r)(h1:∀c∈a,r c x)(ad:∀c∈b,r x c):(a++x::b).Pairwise r:=by
 rw[wa]at h⊢;refine⟨h.1,kz.2 ⟨ad,h.2.1⟩,λc ag d hd=>?_⟩;rcases dP.1 hd with rfl|hd
 ·exact h1 c ag
 exact h.2.2 c ag d hd
def aiA{α:Type}[Inhabited α]{l:aa α}{i:Nat}(aq:i<l.length)(v:α):iw l i v=l.take i++v::l.drop (i+1):=by unfold iw;exact List.set_eq_take_append_cons_drop .. |>.trans (bh aq)
def aht{α:Type}[Inhabited α]{l:aa α}{i:Nat}(aq:i<l.length):l=l.take i++ax l i::l.drop (i+1):=by
 conv=>lhs;rw[<-gw i l]
 rw[q4 aq,dz _ aq]
def om.el{R:aa eY}{A B:cx->Int}(h:om R A B){c:eY}(ag:c∈R):c.iE=A (ut c.cX)∧c.iv=B (ut c.cX):=by
 have h1:=h.n;have ad:=h.m;unfold sO at h1 ad;rw[sV]at h1 ad;exact⟨KJ.1 h1 _ ag,KJ.1 ad _ ag⟩
def om.ins{a m b:aa eY}{A B:cx->Int}(h:om (a++m++b) A B){t:e3}{n p:Int}(Ue:n=1∧p=0∨n=0∧p=1)(e7:∀x,0<=A x∧A x<=100000)(eu:∀x,0<=B x∧B x<=100000)
 (hm:∀c∈m,c.cX=t) (h1:∀c∈a,jR (ut c.cX) (ut t)<0) (ad:∀c∈b,jR (ut t) (ut c.cX)<0):om (a++⟨t,A (ut t)+n,B (ut t)+p⟩::b) (nc A (ut t) n) (nc B (ut t) p):=by
 have hs:∀z,jR z z=0:=vB.self
 have mC:∀c∈a,ut c.cX≠ut t:=λc ag e=>by have:=h1 c ag;rw[e,hs]at this;omega
 have E5:∀c∈b,ut c.cX≠ut t:=λc ag e=>by have:=ad c ag;rw[e,hs]at this;omega
 have sx:∀c∈a++⟨t,A (ut t)+n,B (ut t)+p⟩::b,c.iE=nc A (ut t) n (ut c.cX)∧c.iv=nc B (ut t) p (ut c.cX):=λc ag=>by
  unfold nc;rcases cF.1 ag with ag|ag
  ·rw[bf (mC c ag),bf (mC c ag)];exact h.el (Fo _ (Fo _ ag))
  rcases dP.1 ag with rfl|ag
  ·rw[bh I,bh I];exact⟨rfl,rfl⟩
  rw[bf (E5 c ag),bf (E5 c ag)];exact h.el (Cl _ ag)
 refine⟨?_,λx=>?_,?_,?_⟩
 ·unfold sO
  rw[mI,nS]
  refine aju ?_ (λc ag=>?_) λc ag=>?_
  ·have aB:=h.vW
   unfold sO at aB
   rw[mI,mI]at aB
   exact aB.sublist ((List.sublist_append_left _ _).append (.refl _))
  ·obtain⟨d,hd,rfl⟩:=ic.1 ag;exact h1 d hd
  obtain⟨d,hd,rfl⟩:=ic.1 ag;exact ad d hd
 ·have hb:=e7 x
  have qP:=eu x
  have au:=h.mem x
  unfold sO at au⊢
  simp only[mI,nS,cF,dP]at au⊢
  by_cases e:x=ut t
  ·have av:nc A (ut t) n x=A x+n:=bh e
   have aS:nc B (ut t) p x=B x+p:=bh e
   rw[av,aS]
   exact⟨λ_=>by omega,λ_=>.inr (.inl e)⟩
  have av:nc A (ut t) n x=A x:=bf e
  have aS:nc B (ut t) p x=B x:=bf e
  rw[av,aS,<-au]
  constructor
  ·rintro (aB|aB|aB)
   ·exact .inl (.inl aB)
   ·exact absurd aB e
   exact .inr aB
  rintro ((aB|aB)|aB)
  ·exact .inl aB
  ·obtain⟨d,hd,eW⟩:=ic.1 aB
   rw[hm d hd]at eW;exact absurd eW.symm e
  exact .inr (.inr aB)
 ·unfold sO;rw[sV];exact Fu λc ag=>(sx c ag).1
 unfold sO;rw[sV];exact Fu λc ag=>(sx c ag).2
def ajv{α:Type}(l:aa α){k:Nat}(hk:k<=l.length):mQ l 0 (k:Int)=some (l.take k):=by
 unfold mQ;rw[bh ⟨by omega,by omega,by omega⟩];simp
def ajw{α:Type}(l:aa α){k:Nat}(hk:k<=l.length):mQ l (k:Int) (l.length:Int)=some (l.drop k):=by
 unfold mQ;rw[bh ⟨by omega,by omega,by omega⟩];simp only[Int.toNat_natCast,gl];rw[pL (by rw[ke];omega)]
def put_eq{R:aa eY}{A B:cx->Int}(h:om R A B)(t:e3){n p:Int}(Ue:n=1∧p=0∨n=0∧p=1)(hlen:R.length<=1000)(e7:∀x,0<=A x∧A x<=100000)(eu:∀x,0<=B x∧B x<=100000):
 a8 (Dp R t n p) (λvY=>vY.length<=R.length+1∧om vY (nc A (ut t) n) (nc B (ut t) p)):=by
 have adn:∀i j,i<j->j<R.length->jR (ut (ax R i).cX) (ut (ax R j).cX)<0:=λi j gh aC=>by
  have:=UP.1 (Cs.1 h.vW) i j (by omega) aC gh;rw[dz _ aC,dz _ (by omega:i<R.length)];exact this
 have Sx:∀i,i<=R.length->(∀q,q<i->jR (ut (ax R q).cX) (ut t)<0)->∀c∈R.take i,jR (ut c.cX) (ut t)<0:=λi aq hq c ag=>by
  obtain⟨q,jO,e⟩:=Kw ag;rw[e8]at jO;rw[KI]at e;have:=hq q (by omega);rw[dz _ (by omega:q<R.length),e]at this;exact this
 have aa1:∀i k,i<R.length->k<=R.length->(∀q,k<=q->q<R.length->jR (ut t) (ut (ax R q).cX)<0)->∀c∈R.drop k,jR (ut t) (ut c.cX)<0:=λi k _ hk hq c ag=>by
  obtain⟨q,jO,e⟩:=Kw ag;rw[ke]at jO;rw[List.getElem_drop]at e;have:=hq (k+q) (by omega) (by omega);rw[dz _ (by omega:k+q<R.length),e]at this;exact this
 unfold Dp
 refine .bind (P:=λe=> ∃i:Nat,e.1=(i:Int)∧i<=R.length∧(∀q,q<i->jR (ut (ax R q).cX) (ut t)<0)∧(i<R.length->¬jR (ut (ax R i).cX) (ut t)<0))
  (a8.jJ R.length (λj st=>st=(j:Int)∧∀q,q<j->jR (ut (ax R q).cX) (ut t)<0) (by omega) ⟨rfl,λq hq=>by omega⟩ (λj st aC hs=>?_) (λst hs=>?_)) λe he=>?_
 ·obtain⟨rfl,hs⟩:=hs
  have ag:decide ((j:Int)<(R.length:Int))=true:=by simpa using aC
  rw[ag]
  refine .eq (a:=j) (by unfold b1;rw[bh I];exact kS aC) (.eq (a:=decide (jR (ut (ax R j).cX) (ut t)<0)) (by unfold b1;rw[bh I];exact aiz _ _) ?_)
  refine .cond (λhb=>.ret ⟨dB (by omega),λq hq=>?_⟩) λhb=>.ret ⟨j,rfl,by omega,hs,λ_=>by simpa using hb⟩
  rcases Nat.lt_succ_iff_lt_or_eq.1 hq with h1|h1
  ·exact hs q h1
  subst h1;simpa using hb
 ·obtain⟨rfl,hs⟩:=hs
  have ag:decide ((R.length:Int)<(R.length:Int))=false:=by simp
  rw[ag]
  refine .eq (a:=default) (by unfold b1;rfl) (.eq (a:=default) (by unfold b1;rfl) (.cond (λhb=>by simp at hb) λ_=>.ret ⟨R.length,rfl,iS _,hs,λbT=>by omega⟩))
 obtain⟨i,Cf,aq,hP,gE⟩:=he
 rw[Cf]
 have new:(∀c∈R.drop i,jR (ut t) (ut c.cX)<0)->a8 ((mQ R 0 (i:Int)).bind λaF=>(eZ 48 ([]:aa eY) aF).bind λbg=>(eZ 48 bg [{cX:=t,iE:=n,iv:=p:eY}]).bind λbw=>(mQ R (i:Int) R.length).bind λcd=>(eZ 48 bw cd).bind λcj=>some cj) (λvY=>vY.length<=R.length+1∧om vY (nc A (ut t) n) (nc B (ut t) p)):=λhd=>by
  have fJ: ¬ut t∈sO R:=λhf=>by
   obtain⟨c,ag,e⟩:=ic.1 hf;rw[<-gw i R]at ag;rcases cF.1 ag with ag|ag
   ·have:=Sx i aq hP c ag;rw[e,vB.self]at this;omega
   have:=hd c ag;rw[e,vB.self]at this;omega
  have bC:A (ut t)=0∧B (ut t)=0:=Decidable.not_not.1 λbT=>fJ ((h.mem _).2 bT);have hF:om (R.take i++[]++R.drop i) A B:=by rw[ot,gw];exact h
  have:=hF.ins Ue e7 eu (λc ag=>by cases ag) (Sx i aq hP) hd;rw[bC.1,bC.2,Int.zero_add,Int.zero_add]at this;refine .eq (ajv R aq) (.eq (gz _ _ (by simp;omega) (by omega)) (.eq (gz _ _ (by simp;omega) (by omega)) (.eq (ajw R aq) (.eq (gz _ _ (by simp;omega) (by omega)) (.ret ⟨?_,?_⟩)))))
  ·simp;omega
  rw[List.nil_append,iJ];exact this
 by_cases iG:i<R.length
 ·have ag:decide ((i:Int)<(R.length:Int))=true:=by simpa using iG
  rw[ag]
  refine .eq (a:=i) (by unfold b1;rw[bh I];exact kS iG) (.eq I ?_)
  simp only[qp]
  have TO:=gE iG
  refine .cond (λbV=>?_) λbV=>?_
  ·have bV:(ax R i).cX=t:=by simpa using bV
   have tA:=e7 (ut t)
   have qP:=eu (ut t)
   have aM:=h.el (r6 iG)
   rw[bV]at aM
   have u1:bm ((ax R i).iE+n)=A (ut t)+n:=by rw[aM.1];exact gQ (by omega) (by omega)
   have B9:bm ((ax R i).iv+p)=B (ut t)+p:=by rw[aM.2];exact gQ (by omega) (by omega)
   refine .idx I iG (.idx I iG (.idx I iG (.eq I (.idx I (by unfold iw;simpa using iG) (.eq I (.ret ?_))))))
   have aS:iw (iw R i {ax R i with iE:=bm ((ax R i).iE+n)}) i {ax (iw R i {ax R i with iE:=bm ((ax R i).iE+n)}) i with iv:=bm ((ax R i).iv+p)} =R.take i++⟨t,A (ut t)+n,B (ut t)+p⟩::R.drop (i+1):=by
    rw[ail iG,bh I,u1,B9];have:iw (iw R i {ax R i with iE:=A (ut t)+n}) i { {ax R i with iE:=A (ut t)+n}with iv:=B (ut t)+p} =iw R i ⟨(ax R i).cX,A (ut t)+n,B (ut t)+p⟩:=by unfold iw;rw[List.set_set]
    rw[this,bV,aiA iG]
   rw[aS]
   have hF:om (R.take i++[ax R i]++R.drop (i+1)) A B:=by rw[iJ,List.singleton_append,<-aht iG];exact h
   refine⟨by rw[gH,e8,List.length_cons,ke];omega,hF.ins Ue e7 eu (λc ag=>by rw[hT.1 ag];exact bV) (Sx i aq hP) (aa1 i (i+1) iG (by omega) λq aB aV=>?_)⟩
   have:=adn i q (by omega) aV
   rw[bV]at this;exact this
  have bV:(ax R i).cX≠t:=by simpa using bV
  have acj:jR (ut t) (ut (ax R i).cX)<0:=by
   have aB:=vB.neg (ut t) (ut (ax R i).cX);have aV:jR (ut (ax R i).cX) (ut t)≠0:=λe=>bV (RN (Q2 e));omega
  refine new (aa1 i i iG (by omega) λq aB aV=>?_)
  rcases Nat.lt_or_eq_of_le aB with ba|ba
  ·exact aoz acj (adn i q ba aV)
  subst ba;exact acj
 have ag:decide ((i:Int)<(R.length:Int))=false:=by simp;omega
 rw[ag]
 refine .eq (a:=default) (by unfold b1;rfl) (.eq I (.cond (λhb=>by simp at hb) λ_=>new ?_))
 rw[Cj (by omega)];simp
def rt(t:cx):e3:=⟨t.bG,t.fx,t.cc⟩
def MX(t:cx):ut (rt t)=t:=rfl
def ahu{s:aZ}(aG:jV s){e:bl}(he:uT s e):Hi s e=some ((gA s e).map rt):=by
 refine a8.get ?_;unfold Hi;have an:=aG.ps;refine .bind (P:=λx=>x.2.2=(gA s e).map rt) (a8.jJ s.dj.length (λi st=>st=((i:Int),((s.dj.take i).flatMap (lz e)).map rt)) (by omega) I (λi st aq b5=>?_) λst b5=>?_) λx au=>.ret au
 ·subst b5;refine .cond (λ_=>.idx I aq ?_) λag=>by simp at ag;omega
  have uU:=aG.refs _ (r6 aq);have Ua:(((s.dj.take i).flatMap (lz e)).map rt).length<=4:=by rw[k1];exact mg (LY (Q0 e) _) (by rw[e8];omega)
  refine .bind (P:=λm=>m=((s.dj.take (i+1)).flatMap (lz e)).map rt) ?_ λm hm=>.ret (by rw[hm,dB (by omega)]);rw[Xj _ aq,mI];refine .cond (λag=>.ret ?_) λag=>.bind (P:=λm=>m=((s.dj.take i).flatMap (lz e)).map rt++(lz e (ax s.dj i)).map rt) (.cond (λaY=>?_) λaY=>.bind (P:=λm=>m=((s.dj.take i).flatMap (lz e)).map rt++(lz e (ax s.dj i)).map rt) (.cond (λhb=>?_) λhb=>.ret ?_) λm hm=>.ret hm) λm hm=>.ret hm
  ·unfold lz;rw[bf (by simpa using ag)];simp
  ·have bD:(ax s.dj i).bG=e.bG:=by simpa using ag
   have aY:(ax s.dj i).eJ=0:=by simpa using aY
   obtain⟨g1,g2⟩:=Zu he uU bD aY;rw[g1];refine .eq (a:=(ax s.dj i).fx.toNat) (kS g2) (.eq I (.eq (gz _ _ (by simp only[List.length_cons,List.length_nil];omega) (by omega)) (.ret ?_)));unfold lz;rw[bh bD,bh aY];rfl
  ·have bD:(ax s.dj i).bG=e.bG:=by simpa using ag
   have aY: ¬(ax s.dj i).eJ=0:=by simpa using aY
   have hb:(ax s.dj i).eJ=e.eJ:=by simpa using hb
   obtain⟨g1,g2⟩:=Zv he uU aY hb;rw[g1];refine .eq (a:=0) (kS (k:=0) g2) (.eq I (.eq (gz _ _ (by simp only[List.length_cons,List.length_nil];omega) (by omega)) (.ret ?_)));unfold lz;rw[bh bD,bf aY,bh hb,g1];rfl
  have bD:(ax s.dj i).bG=e.bG:=by simpa using ag
  have aY: ¬(ax s.dj i).eJ=0:=by simpa using aY
  have hb: ¬(ax s.dj i).eJ=e.eJ:=by simpa using hb
  unfold lz;rw[bh bD,bf aY,bf hb];simp
 subst b5;exact .cond (λag=>by simp at ag) λ_=>.ret (by show _=(gA s e).map rt;simp[gA])
def ago{s:aZ}(hs:b7 s)(aG:jV s){e:bl}(he:uT s e):GW s e=some ((gu s e).map rt):=by
 refine a8.get ?_;unfold GW;have an:=aG.ps;have hm:=he.aci hs;refine .bind (P:=λx=>x.2.2=(gu s e).map rt) (a8.jJ s.dj.length (λi st=>st=((i:Int),if e.bG=1∧i≠0 then [rt (tI e)]else [])) (by omega) (by simp) (λi st aq b5=>?_) λst b5=>?_) λx au=>.ret au
 ·subst b5;have uU:=aG.refs _ (r6 aq);have Ua:(if e.bG=1∧i≠0 then [rt (tI e)]else []).length<=1:=by split <;> simp
  refine .cond (λ_=>.idx I aq ?_) λag=>by simp at ag;omega
  rw[uU.1,uU.2.1];refine .cond (λag=>.ret ?_) λag=>.eq (a:=0) (kS (k:=0) (by omega)) (.eq I ?_)
  ·have ag:e.bG≠1:=by
    intro h;rw[h]at ag;simp at ag
   rw[dB (by omega),bf (λh=>ag h.1),bf (λh=>ag h.1)]
  have ag:e.bG=1:=by
   have:(1:Int)=e.bG:=by simpa using ag
   omega
  by_cases y8:i=0
  ·subst y8;rw[bf (by simp)];refine .bind (P:=λx=>x.1=false) (a8.jJ 0 (λj st=>st=(false,(j:Int))) (by omega) I (λj st aC _=>by omega) λst b5=>?_) λx au=>?_
   ·subst b5;exact .cond (λbT=>by simp at bT) λ_=>.ret I
   rw[au];refine .bind (P:=λm=>m=[rt (tI e)]) (.cond (λ_=>.eq (gz _ _ (by simp) (by omega)) (.ret I)) λbT=>by simp at bT) λm hm=>.ret ?_;rw[hm,bh ⟨ag,by omega⟩];rfl
  rw[bh ⟨ag,y8⟩];refine .bind (P:=λx=>x.1=true) (a8.jJ 1 (λj st=>st=(decide (j≠0),(j:Int))) (by omega) I (λj st aC b5=>?_) λst b5=>?_) λx au=>?_
  ·subst b5;have:j=0:=by omega
   subst this;refine .cond (λ_=>.idx (k:=0) I (by simp) (.ret ?_)) λbT=>by simp at bT
   have cM:ax [rt (tI e)] 0=rt (tI e):=rfl;rw[cM];have eW:rt (tI e)=⟨1,0,(ax e.bP 0).cc⟩:=rfl;rw[eW];simp[dB];exact dB (k:=0) (by omega)
  ·subst b5;exact .cond (λbT=>by simp at bT) λ_=>.ret I
  rw[au];refine .bind (P:=λm=>m=[rt (tI e)]) (.cond (λbT=>by simp at bT) λ_=>.ret I) λm hm=>.ret ?_;rw[hm,dB (by omega),bh ⟨ag,by omega⟩]
 subst b5;refine .cond (λag=>by simp at ag) λ_=>.ret ?_;show _=(gu s e).map rt;unfold gu;by_cases h:e.bG=1∧s.dj≠[]
 ·rw[bh h,bh ⟨h.1,by intro bC;exact h.2 (Fe.1 bC)⟩];rfl
 rw[bf h,bf (λbT=>h ⟨bT.1,λbC=>bT.2 (by rw[bC];rfl)⟩)];rfl
def Q4(s:aZ)(e:bl):(gu s e).length<=1:=by unfold gu;split <;> simp
def Ye{s:aZ}(aG:jV s)(L:aa aH)(t:cx):0<=jK s L t∧jK s L t<=4*L.length:=by
 have h1:=Au (f:=λi:aH=>gA s i.aX) (n:=4) (λi=>DJ aG _) L;have ad:=zE (a:=t) (l:=L.flatMap λi=>gA s i.aX);unfold jK;omega
def ajx{s:aZ}(L:aa aH)(t:cx):0<=fX s L t∧fX s L t<=L.length:=by
 have h1:=Au (f:=λi:aH=>gu s i.aX) (n:=1) (λi=>Q4 s _) L;have ad:=zE (a:=t) (l:=L.flatMap λi=>gu s i.aX);unfold fX;omega
def Q5{A:cx->Int}{l:aa cx}{m:Int}{n:Nat}(e7:∀t,0<=A t∧A t<=m)(an:l.length<=n)(t:cx):0<=eM A l 1 t∧eM A l 1 t<=m+n:=by
 have h1:=e7 t;have ad:=zE (a:=t) (l:=l);unfold eM;omega
def Yf{s:aZ}(hs:b7 s)(aG:jV s){L:aa aH}(ar:∀i∈L,uT s i.aX)(hlen:L.length<=100):
 a8 (Dt s (L.map (·.aX))) (λR=>R.length<=1000∧om R (jK s L) (fX s L)):=by
 unfold Dt
 have p2:om [] (jK s []) (fX s []):=⟨.nil,λx=>by simp[sO,jK,fX],rfl,rfl⟩
 have ack:(L.map (·.aX)).length=L.length:=k1 ..
 rw[ack]
 refine .bind (P:=λe=>e.2.2.length<=1000∧om e.2.2 (jK s L) (fX s L)) (a8.jJ L.length (λi st=>st.1=(i:Int)∧st.2.length<=5*i∧om st.2 (jK s (L.take i)) (fX s (L.take i))) (by omega) ⟨rfl,by simp,by simpa using p2⟩ (λi st aq b5=>?_) λst b5=>?_) λe he=>.ret he
 ·obtain⟨sL,R⟩:=st
  obtain⟨rfl,N2,hF⟩:=b5
  have aD:ax (L.map (·.aX)) i=(ax L i).aX:=by rw[dz _ (by rw[ack];exact aq),dz _ aq,pO]
  have ado:=ar _ (r6 aq)
  have Uc:L.take (i+1)=L.take i++[ax L i]:=by rw[Ct,o4 aq,dz _ aq];rfl
  have e7:∀t,0<=jK s (L.take i) t∧jK s (L.take i) t<=400:=λt=>by have:=Ye aG (L.take i) t;rw[e8]at this;omega
  have eu:∀t,0<=fX s (L.take i) t∧fX s (L.take i) t<=100:=λt=>by have:=ajx (s:=s) (L.take i) t;rw[e8]at this;omega
  have p8:=DJ aG (ax L i).aX
  have auW:=Q4 s (ax L i).aX
  refine .cond (λ_=>.idx I aq ?_) λag=>by simp at ag;omega
  rw[aD]
  refine .eq (ahu aG ado) ?_
  refine .bind (P:=λe=>e.2.2.length<=5*i+4∧om e.2.2 (eM (jK s (L.take i)) (gA s (ax L i).aX) 1) (fX s (L.take i))) (a8.jJ (gA s (ax L i).aX).length (λj st=>st.1=(j:Int)∧st.2.length<=5*i+j∧om st.2 (eM (jK s (L.take i)) ((gA s (ax L i).aX).take j) 1) (fX s (L.take i))) (by omega) ⟨rfl,by simpa using N2,by simpa[LZ]using hF⟩ (λj st aC b5=>?_) λst b5=>?_) λaS oR=>?_
  ·obtain⟨pI,zj⟩:=st
   obtain⟨rfl,nG,tB⟩:=b5
   have nG:zj.length<=_:=nG
   refine .cond (λ_=>.idx (k:=j) I (by simpa using aC) ?_) λag=>by simp at ag;omega
   have jY:ax ((gA s (ax L i).aX).map rt) j=rt (ax (gA s (ax L i).aX) j):=by rw[dz _ (by simpa using aC),dz _ aC,pO]
   rw[jY]
   refine(put_eq tB _ (.inl ⟨rfl,rfl⟩) (by simp only;omega) (λx=>?_) (λx=>?_)).bind λadt Bv=>.ret ⟨dB (by omega),by have:=Bv.1;simp only at this⊢;omega,?_⟩
   ·have:=Q5 (l:=(gA s (ax L i).aX).take j) (n:=4) e7 (by rw[e8];omega) x;omega
   ·have:=eu x;omega
   have:=Bv.2
   rw[MX,LK,L0]at this
   rw[Ct,o4 aC]
   rw[dz _ aC]at this
   exact this
  ·obtain⟨pI,zj⟩:=st
   obtain⟨rfl,nG,tB⟩:=b5
   have nG:zj.length<=_:=nG
   refine .cond (λag=>by simp at ag) λ_=>.ret ⟨by simp only at nG⊢;omega,?_⟩
   rwa[iD]at tB
  refine .eq (ago hs aG ado) ?_
  refine .bind (P:=λe=>e.2.2.length<=5*i+5∧om e.2.2 (eM (jK s (L.take i)) (gA s (ax L i).aX) 1) (eM (fX s (L.take i)) (gu s (ax L i).aX) 1)) (a8.jJ (gu s (ax L i).aX).length (λj st=>st.1=(j:Int)∧st.2.length<=5*i+4+j∧om st.2 (eM (jK s (L.take i)) (gA s (ax L i).aX) 1) (eM (fX s (L.take i)) ((gu s (ax L i).aX).take j) 1)) (by omega) ⟨rfl,by simpa using oR.1,by simpa[LZ]using oR.2⟩ (λj st aC b5=>?_) λst b5=>?_) λcM N3=>.ret ⟨dB (by omega),by have:=N3.1;simp only;omega,?_⟩
  ·obtain⟨pI,zj⟩:=st
   obtain⟨rfl,nG,tB⟩:=b5
   have nG:zj.length<=_:=nG
   refine .cond (λ_=>.idx (k:=j) I (by simpa using aC) ?_) λag=>by simp at ag;omega
   have jY:ax ((gu s (ax L i).aX).map rt) j=rt (ax (gu s (ax L i).aX) j):=by rw[dz _ (by simpa using aC),dz _ aC,pO]
   rw[jY]
   refine(put_eq tB _ (.inr ⟨rfl,rfl⟩) (by simp only;omega) (λx=>?_) (λx=>?_)).bind λadt Bv=>.ret ⟨dB (by omega),by have:=Bv.1;simp only at this⊢;omega,?_⟩
   ·have:=Q5 (l:=gA s (ax L i).aX) (n:=4) e7 p8 x;omega
   ·have:=Q5 (l:=(gu s (ax L i).aX).take j) (n:=1) eu (by rw[e8];omega) x;omega
   have:=Bv.2
   rw[MX,LK,L0]at this
   rw[Ct,o4 aC]
   rw[dz _ aC]at this
   exact this
  ·obtain⟨pI,zj⟩:=st
   obtain⟨rfl,nG,tB⟩:=b5
   have nG:zj.length<=_:=nG
   refine .cond (λag=>by simp at ag) λ_=>.ret ⟨by simp only at nG⊢;omega,?_⟩
   rwa[iD]at tB
  have:=N3.2
  rw[Ap,Aq,<-Uc]at this
  exact this
 obtain⟨sL,R⟩:=st
 obtain⟨rfl,N2,hF⟩:=b5
 refine .cond (λag=>by simp at ag) λ_=>.ret ⟨by simp only at N2⊢;omega,?_⟩
 rwa[iD]at hF
def ZB{α:Type}[DecidableEq α]:∀{l l':aa α},l.Nodup->(∀x∈l,x∈l')->l.length<=l'.length
 |[],_,_,_=>by simp
 | x::r,l',aM,hs=>by
   obtain⟨h1,ad⟩:=pP.1 aM;have au:=hs x jC;have aB:=ZB ad (l':=l'.erase x) λy aR=>(Va (λe=>h1 (by rw[<-e];exact aR))).2 (hs y (gx _ aR));have aV:=UR au;have ba:=U0 au;rw[List.length_cons];omega
section
variable{s:aZ}{hp:aL Cell}{P:sN}{bI:Nat->aa aH}{next:Int}{js:aa gn}{y:cW}
def iC.adp(h:iC s bI next y){i:aH}(aq:i∈y.bN):uT s i.aX:=by
 obtain⟨k,hk,mX,a6⟩:=h.r.dr h.ok aq;exact⟨⟨k,hk,a6.dr⟩,(h.arg k hk i mX).1⟩
def ZC(aG:jV s)(h:jB s hp P bI next js)(cK:iC s bI next y):∀kv,qE hp P.m=some kv->kv.length<=1000:=λkv vT=>by
 obtain⟨tD,h1,ad,aB⟩:=h.iR.map;rw[h1]at vT;cases vT;have aV:=ZB (l:=kv.map (·.1)) (l':=((c8 bI).flatMap λi=>gA s i.aX)++((c8 bI).flatMap λi=>gu s i.aX)) (Cs.2 ad) λt bD=>by
  obtain⟨x,au,rfl⟩:=ic.1 bD;have ba:=aB x.1;rw[Q3 ad au]at ba;split at ba
  ·cases ba
  rename_i bV;refine cF.2 (UN λfJ=>bV ?_);simp only[x5]at fJ;unfold jK fX;rw[Vm.2 fJ.1,Vm.2 fJ.2];exact⟨rfl,rfl⟩
 have ba:=Au (f:=λi:aH=>gA s i.aX) (n:=4) (λi=>DJ aG _) (c8 bI);have bq:=Au (f:=λi:aH=>gu s i.aX) (n:=1) (λi=>Q4 s _) (c8 bI);have c0:=cK.Nj;rw[k1,gH]at aV;omega
def ajy(aG:jV s)(h:jB s hp P bI next js)(cK:iC s bI next y):
 cQ (FR hp (some P.x)) (λr=>r.2=hp∧r.1.length<=1000∧xH (r.1.map (·.cX)) (r.1.map (·.iE)) (r.1.map (·.iv)) (jK s (c8 bI)) (fX s (c8 bI))):=by
 obtain⟨a,b,h1⟩:=h.st
 unfold FR
 exact .cond (λag=>by cases ag) λ_=>.eq rfl (.eq h1 (.bind (ZA h.iR (ZC aG h cK)) λr aG=>.ret aG))
def alQ(aG:jV s)(h:jB s hp P bI next js)(cK:iC s bI next y):
 cQ (Fz hp (some P.x)) (λr=>r.2=hp∧r.1.length<=1000∧∃T N M,xH T N M (jK s (c8 bI)) (fX s (c8 bI))∧r.1=T.filter λx=>decide (fX s (c8 bI) x=0)):=by
 obtain⟨a,b,h1⟩:=h.st
 unfold Fz KN
 refine .cond (λag=>by cases ag) λ_=>.eq rfl (.eq h1 (.bind (P:=λr=>r.2=hp∧r.1.length<=1000∧∃T N M,xH T N M (jK s (c8 bI)) (fX s (c8 bI))∧r.1=T.filter λx=>decide (fX s (c8 bI) x=0)) (.bind (ZA h.iR (ZC aG h cK)) λz bV=>?_) λr aG=>.ret aG))
 obtain⟨z,hp'⟩:=z
 obtain⟨rfl,y4,bV⟩:=bV
 simp only at bV y4
 have sx:∀c∈z,c.iE=jK s (c8 bI) c.cX∧c.iv=fX s (c8 bI) c.cX:=λc ag=>by
  have g1:=bV.n;have g2:=bV.m;rw[sV]at g1 g2;exact⟨KJ.1 g1 _ ag,KJ.1 g2 _ ag⟩
 have Te:∀c∈z,((decide (c.iE>0))&&(c.iv==0))=decide (fX s (c8 bI) c.cX=0):=λc ag=>by
  obtain⟨g1,g2⟩:=sx c ag;have g3:=(bV.mem c.cX).1 (ic.2 ⟨c,ag,rfl⟩);have g4:=Ye aG (c8 bI) c.cX;rw[g1,g2,kQ];simp only[gm,e2,ni];omega
 have kZ:((z.map (·.cX)).filter λx=>decide (fX s (c8 bI) x=0))=(z.filter λc=>decide (fX s (c8 bI) c.cX=0)).map (·.cX):=by rw[O4];rfl
 refine .gX (P:=λe=>e.2.2=(z.filter λc=>decide (fX s (c8 bI) c.cX=0)).map (·.cX)) (a8.jJ z.length (λi st=>st=((i:Int),((z.take i).filter λc=>decide (fX s (c8 bI) c.cX=0)).map (·.cX))) (by omega) I (λi st aq b5=>?_) λst b5=>?_) λe he=>.ret ⟨rfl,?_,_,_,_,bV,he.trans kZ.symm⟩
 ·subst b5
  have hle:(((z.take i).filter λc=>decide (fX s (c8 bI) c.cX=0)).map (·.cX)).length<=1000:=by
   rw[k1];exact mg (vc _ _) (by rw[e8];omega)
  refine .cond (λ_=>.idx I aq (.eq I ?_)) λag=>by simp at ag;omega
  rw[Te _ (r6 aq),mK _ aq,mG,mI]
  refine .bind (P:=λm=>m=((z.take i).filter λc=>decide (fX s (c8 bI) c.cX=0)).map (·.cX)++([ax z i].filter λc=>decide (fX s (c8 bI) c.cX=0)).map (·.cX)) (.cond (λag=>.eq (gz _ _ (by simp only[List.length_cons,List.length_nil];omega) (by omega)) (.ret ?_)) λag=>.ret ?_) λm hm=>.ret (by rw[hm,dB (by omega)])
  ·rw[xI (by simpa using ag)];rfl
  rw[vb (by simpa using ag)];simp
 ·subst b5
  refine .cond (λag=>by simp at ag) λ_=>.ret ?_
  show((z.take z.length).filter _).map _=_
  rw[iD]
 show e.2.2.length<=1000
 rw[he,k1];exact mg (vc _ _) y4
def Wm(an:y.bN.length<=1000):C5 y=some (y.bN.map (·.aX)):=by
 refine a8.get ?_;unfold C5;refine .bind (P:=λe=>e.2.2=y.bN.map (·.aX)) (a8.jJ y.bN.length (λi st=>st=((i:Int),(y.bN.take i).map (·.aX))) (by omega) I (λi st aq b5=>?_) λst b5=>?_) λe he=>.ret he
 ·subst b5;refine .cond (λ_=>.idx I aq (.eq (gz _ _ (by simp;omega) (by omega)) (.ret ?_))) λag=>by simp at ag;omega
  rw[dB (by omega),mK _ aq,mI];rfl
 subst b5;exact .cond (λag=>by simp at ag) λ_=>.ret (by show(y.bN.take _).map _=_;rw[iD])
def ag0(hs:b7 s)(aG:jV s)(cK:iC s bI next y):a8 (Hf y) (λR=>R.length<=1000∧om R (jK s (c8 bI)) (fX s (c8 bI))):=by
 have an:=cK.r.len cK.ok;unfold Hf;rw[cK.r.oT];refine .eq (Wm (by omega)) ((Yf hs aG (λi aq=>cK.adp aq) (by omega)).bind λR hF=>.ret ?_);rw[ya cK.r.qd,yb cK.r.qd]at hF;exact hF
def aiB(hs:b7 s)(aG:jV s)(cK:iC s bI next y):a8 (GY s (y.bN.map (·.aX))) (λD=>D.length<=1000∧∃T N M,xH T N M (jK s (c8 bI)) (fX s (c8 bI))∧D.map ut=T.filter λx=>decide (fX s (c8 bI) x=0)):=by
 have an:=cK.r.len cK.ok;unfold GY;refine(Yf hs aG (λi aq=>cK.adp aq) (by omega)).bind λz bV=>?_;rw[ya cK.r.qd,yb cK.r.qd]at bV;obtain⟨y4,bV⟩:=bV;have Te:∀c∈z,(c.iv==0)=decide (fX s (c8 bI) (ut c.cX)=0):=λc ag=>by
  rw[(bV.el ag).2];rfl
 have kZ:((sO z).filter λx=>decide (fX s (c8 bI) x=0))=(z.filter λc=>decide (fX s (c8 bI) (ut c.cX)=0)).map λc=>ut c.cX:=by unfold sO;rw[O4];rfl
 refine .bind (P:=λe=>e.2.2=(z.filter λc=>decide (fX s (c8 bI) (ut c.cX)=0)).map (·.cX)) (a8.jJ z.length (λi st=>st=((i:Int),((z.take i).filter λc=>decide (fX s (c8 bI) (ut c.cX)=0)).map (·.cX))) (by omega) I (λi st aq b5=>?_) λst b5=>?_) λe he=>.ret ⟨?_,_,_,_,bV,?_⟩
 ·subst b5;have hle:(((z.take i).filter λc=>decide (fX s (c8 bI) (ut c.cX)=0)).map (·.cX)).length<=1000:=by
   rw[k1];exact mg (vc _ _) (by rw[e8];omega)
  refine .cond (λ_=>.idx I aq ?_) λag=>by simp at ag;omega
  rw[Te _ (r6 aq),mK _ aq,mG,mI];refine .bind (P:=λm=>m=((z.take i).filter λc=>decide (fX s (c8 bI) (ut c.cX)=0)).map (·.cX)++([ax z i].filter λc=>decide (fX s (c8 bI) (ut c.cX)=0)).map (·.cX)) (.cond (λag=>.eq (gz _ _ (by simp only[List.length_cons,List.length_nil];omega) (by omega)) (.ret ?_)) λag=>.ret ?_) λm hm=>.ret (by rw[hm,dB (by omega)])
  ·rw[xI (by simpa using ag)];rfl
  rw[vb (by simpa using ag)];simp
 ·subst b5;refine .cond (λag=>by simp at ag) λ_=>.ret ?_;show((z.take z.length).filter _).map _=_;rw[iD]
 ·rw[he,k1];exact mg (vc _ _) y4
 rw[kZ,he,sV];rfl
end
section
variable{s:aZ}{hp:aL Cell}{P:sN}{bI:Nat->aa aH}{next:Int}{js:aa gn}{y:cW}
def akJ(hs:b7 s)(h:jB s hp P bI next js)(cK:iC s bI next y){x:Nat}(au:x<=5):cQ (F4 hp (some P.x) (x:Int)) (λr=>r=(xc y (x:Int),hp)):=by
 have b5:=h.kW.ok;unfold F4;refine .eq (HL h) (.bind (P:=λr=>r=(xc y (x:Int),hp)) ?_ λr aG=>.ret (by subst aG;rfl));by_cases mZ:1<=x∧x<=4
 ·obtain⟨k,rfl⟩:∃k,x=k+1:=⟨x-1,by omega⟩;have hk:k<4:=by omega
  intro Q xG;refine(X2 hs b5 (x:=k+1) (by omega) cK.ok.len) Q λao h1=>?_;obtain⟨a,hp'⟩:=ao;obtain⟨av,h1⟩:=h1;simp only at av h1;subst av;have iF:((k+1:Nat):Int)=(k:Int)+1:=by omega
  have q1:uu bI (k+1) (xc y ((k+1:Nat):Int)):=by
   unfold uu;rw[bf (by omega),iF];exact⟨P5 cK.r cK.ok hk,ajh cK.r _⟩
  obtain⟨g1,_⟩:=uu.same hs b5 (by omega) h1 q1;exact xG _ (by rw[g1])
 have BA:(x:Int)<1∨4<(x:Int):=by omega
 intro Q xG;refine(aji b5 BA) Q λao h1=>?_;subst h1;exact xG _ (by rw[akE cK.r cK.ok BA])
def ajz(hs:b7 s)(aG:jV s)(h:jB s hp P bI next js)(cK:iC s bI next y):cQ (Hs hp (some P.x) y) (λr=>r=(true,hp)):=by
 have hlen:=cK.r.len cK.ok;unfold Hs;refine .bind (aoy hs h cK) λao h1=>?_;subst h1;refine .eq (Lk (λi aq=>cK.r.small hs cK.ok aq) (show y.bN.length<=1000 by omega)) (.eq (a:=next) (by unfold b1;rw[bh (show(!true)=false from rfl)];exact Zy h) ?_);refine .cond (λag=>by rw[cK.r.num]at ag;simp at ag) λ_=>?_;refine .bind (P:=λe=> ∃q:Int×Bool×aL Cell,e=.inl q∧q.2.2=hp) (cQ.loop 6 (λx st=>st=((x:Int),hp)) (by omega) I (λx st au jx=>?_) (λst jx=>?_)) λav atq=>?_
 ·subst jx;refine .cond (λ_=>.bind (akJ hs h cK (by omega)) λbw aV=>?_) λag=>by simp at ag;omega
  subst aV;refine .eq (P4 (by omega)) (.eq (Lk (λi aq=>cK.r.small hs cK.ok (tV.1 aq).1) (mg (vc _ _) (by omega))) (.cond (λag=>by cases ag) λ_=>.ret (by rw[dB (by omega)])))
 ·subst jx;exact .cond (λag=>by simp at ag) λ_=>.ret ⟨_,rfl,rfl⟩
 obtain⟨q,rfl,hq⟩:=atq;simp only[Sum.elim_inl];rw[hq];refine .bind (ajy aG h cK) λcm c0=>?_;obtain⟨z,auX⟩:=cm;obtain⟨v7,y4,bV⟩:=c0;simp only at v7 y4 bV;subst v7;refine .bind (alQ aG h cK) λcA db=>?_;obtain⟨D,auY⟩:=cA;obtain⟨tQ,acO,T,N,M,q1,kZ⟩:=db;simp only at tQ acO kZ;subst tQ;refine .eq (alO hs h) (.gX (ag0 hs aG cK) λR hF=>.eq (Wm (by omega)) ?_);rw[cK.r.oT];refine .gX (aiB hs aG cK) λE7 Uf=>?_;obtain⟨N2,hF⟩:=hF;obtain⟨auq,avk,avl,avm,atr,Uf⟩:=Uf;obtain⟨Of,atX,adu⟩:=bV.uniq hF;obtain⟨v1,_,_⟩:=q1.uniq atr;have adq:D=E7.map ut:=by rw[kZ,Uf,v1]
 have att:z.length=R.length:=by have:=eG List.length Of;unfold sO at this;simpa using this
 have arz:D.length=E7.length:=by rw[adq,k1]
 have atu:∀i,i<z.length->(ax R i).cX=rt (ax z i).cX∧(ax z i).iE=(ax R i).iE∧(ax z i).iv=(ax R i).iv:=λi aq=>by
  have qR:i<R.length:=by omega
  rw[dz _ aq,dz _ qR];refine⟨RN ?_,?_,?_⟩
  ·have:=FC Of (by simpa using aq:i<(z.map (·.cX)).length);unfold sO at this;rw[pO,pO]at this;rw[MX];exact this.symm
  ·have:=FC atX (by simpa using aq:i<(z.map (·.iE)).length);rwa[pO,pO]at this
  have:=FC adu (by simpa using aq:i<(z.map (·.iv)).length);rwa[pO,pO]at this
 have atv:∀i,i<D.length->ax E7 i=rt (ax D i):=λi aq=>by
  have qR:i<E7.length:=by omega
  rw[dz _ aq,dz _ qR];refine RN ?_;have:=FC adq aq;rw[pO]at this;rw[MX];exact this.symm
 refine .eq I (.cond (λag=>?_) λ_=>?_)
 ·exfalso;rw[att,arz,hs.ps]at ag;simp at ag
 refine .gX (P:=λe=> ∃q,e=.inl q) (a8.jJ z.length (λi st=>st=(i:Int)) (by omega) I (λi st aq b5=>?_) λst b5=>?_) λaS oR=>?_
 ·subst b5;obtain⟨t1,t2,t3⟩:=atu i aq;have qR:i<R.length:=by omega
  refine .cond (λ_=>.idx I aq (.eq I (.idx I qR ?_))) λag=>by simp at ag;omega
  have qj:(⟨(ax z i).cX.bG,(ax z i).cX.fx,(ax z i).cX.cc⟩:e3)=(ax R i).cX:=by rw[t1];rfl
  simp only[qj,GV,Bool.not_true];refine .eq (a:=i) (by unfold b1;rw[bh I];exact kS qR) (.eq (a:=false) (by rw[t2];simp) (.eq (a:=i) (by unfold b1;rw[bh I];exact kS qR) (.cond (λag=>?_) λ_=>.ret (dB (by omega)))));rw[t3]at ag;simp at ag
 ·subst b5;exact .cond (λag=>by simp at ag) λ_=>.ret ⟨_,rfl⟩
 obtain⟨cH,rfl⟩:=oR;simp only[Sum.elim_inl];refine .gX (P:=λe=> ∃q,e=.inl q) (a8.jJ D.length (λi st=>st=(i:Int)) (by omega) I (λi st aq b5=>?_) λst b5=>?_) λcM N3=>?_
 ·subst b5;have qR:i<E7.length:=by omega
  refine .cond (λ_=>.idx I aq (.eq I (.idx I qR ?_))) λag=>by simp at ag;omega
  have qj:(⟨(ax D i).bG,(ax D i).fx,(ax D i).cc⟩:e3)=ax E7 i:=by rw[atv i aq];rfl
  exact .cond (λag=>by rw[qj]at ag;simp at ag) λ_=>.ret (dB (by omega))
 ·subst b5;exact .cond (λag=>by simp at ag) λ_=>.ret ⟨_,rfl⟩
 obtain⟨eI,rfl⟩:=N3;simp only[Sum.elim_inl];refine .gX (P:=λe=> ∃q,e=.inl q) (a8.jJ 3 (λi st=>st=(i:Int)) (by omega) I (λi st aq b5=>?_) λst b5=>?_) λeW atw=>?_
 ·subst b5;have qR:i<s.eK.length:=by rw[hs.ps];exact aq
  have T9:(ax s.eK i).b6=ax [1,2,7] i:=by
   have:=FC hs.D8 (by simpa using qR:i<(s.eK.map (·.b6)).length);rw[pO]at this;rw[dz _ qR,this,dz _ (by simpa using aq)]
  have hu:(ax [(⟨1,gV (c8 bI) 1⟩:jD),⟨2,gV (c8 bI) 2⟩,⟨7,gV (c8 bI) 7⟩] i).pb=ax [1,2,7] i∧(ax [(⟨1,gV (c8 bI) 1⟩:jD),⟨2,gV (c8 bI) 2⟩,⟨7,gV (c8 bI) 7⟩] i).wG=gV (c8 bI) (ax [1,2,7] i):=by
   have:i=0∨i=1∨i=2:=by omega
   rcases this with rfl|rfl|rfl <;> exact⟨rfl,rfl⟩
  refine .cond (λ_=>.idx I (by simpa using aq) (.idx I qR ?_)) λag=>by simp at ag;omega
  rw[hu.1,hu.2,T9];refine .eq (a:=gV y.bN (ax [1,2,7] i)) (by unfold b1;rw[bh (by simp)];exact YY _ (by omega)) (.eq I (.cond (λag=>?_) λ_=>.ret (dB (by omega))));rw[rk cK.r.qd]at ag;simp at ag
 ·subst b5;exact .cond (λag=>by simp at ag) λ_=>.ret ⟨_,rfl⟩
 obtain⟨hn,rfl⟩:=atw;simp only[Sum.elim_inl];exact .ret I
end
section
variable{s:aZ}{hp:aL Cell}{P:sN}{bI:Nat->aa aH}{next:Int}{js:aa gn}{y:cW}
def ajA(hs:b7 s)(h:jB s hp P bI next js){k:Nat}(hk:k<4)(q:Vector aN 4):FU hp (some P.x) ((k:Int)+1) q=some (jg (j9 s k (bI k) q)):=by
 refine a8.get ?_;unfold FU;exact .eq (HL h) (.eq (aio hs h.kW.ok hk q) (.ret I))
def alR(hs:b7 s)(h:jB s hp P bI next js){k:Nat}(hk:k<4){e:bl}(he:fE s k e):Gp hp (some P.x) e=some (jg (dw (bI k) e)):=by
 refine a8.get ?_;unfold Gp;exact .eq (HL h) (.eq (QX hs h.kW.ok hk he) (.ret I))
def aiC(hs:b7 s)(h:jB s hp P bI next js)(cK:iC s bI next y)(c:dM)(ag:hc c):a8 (Hk hp (some P.x) y c) (λr=>r.1=true):=by
 have hlen:=cK.r.len cK.ok;unfold Hk;refine .bind (P:=λe=> ∃a,e=.inl a) (a8.jJ y.bN.length (λj st=> ∃c,st=((j:Int),c)∧hc c) (by omega) ⟨c,rfl,ag⟩ (λj st aC b5=>?_) (λst b5=>?_)) λaS oR=>?_
 ·obtain⟨gG,rfl,nJ⟩:=b5;have hm:ax y.bN j∈y.bN:=r6 aC;obtain⟨k,hk,mX,a6⟩:=cK.r.dr cK.ok hm;have oS:=a6.small hs hk;refine .cond (λ_=>.idx I aC ?_) λag=>by simp at ag;omega
  refine(ah3 _ nJ).bind λatx aty=>(ahh _ _ (by omega)).bind λJT _=>?_;rw[a6.dr.fF];refine .eq (ajA hs h hk _) (.eq (ahs hs cK.r cK.ok hk _) (.eq (alR hs h hk a6.dr) ?_));have MT:fG (ax y.bN j).aX (ax y.bN j).aX=true:=oz _;rw[(cK.ok.gd k hk).RI mX MT];have hw:=aia hs hk (cK.ok.gd k hk).ok.eX.1 (λc=>mt s k JT c.aX);have hw:(jg (j9 s k (bI k) JT)).1.aX.bP.length<=1000∧(jg (j9 s k (bI k) JT)).1.aX.fM.length<=1000:=hw;have hb:((jg (j9 s k (bI k) JT)).2 !=(jg (j9 s k (bI k) JT)).2)=false:=by simp
  simp only[hb];refine .eq (a:=true) (by unfold b1;rw[bh I];exact P2 hw.1 hw.2) (.eq (a:=true) (show wu (ax y.bN j) (ax y.bN j)=some true from P2 oS.1 oS.2) (.cond (λag=>by cases ag) λ_=>.ret ⟨atx.2,by rw[dB (by omega)],aty⟩))
 ·obtain⟨gG,rfl,nJ⟩:=b5;exact .cond (λag=>by simp at ag) λ_=>.ret ⟨_,rfl⟩
 obtain⟨a,rfl⟩:=oR;simp only[Sum.elim_inl];exact .ret I
end
def akK(hp:aL Cell)(ab ai:aa (BitVec 8)):cQ (Gq hp ab ai) (λr=>r.1=true):=by
 unfold Gq;refine .gX (QL ab 120 (by omega) (by omega)) λao h1=>.gX (a8.par (WI ao h1) (WR ao)) λaF ad=>.gX (QL ai 220 (by omega) (by omega)) λbg aB=>?_;obtain⟨⟨hs,_⟩,aG⟩:=ad;refine .bind (aaZ hs aG hp) λbw aV=>?_;obtain⟨P,eW,g0⟩:=aV;obtain⟨auZ,vO⟩:=bw;simp only at eW g0;subst eW;refine .eq (a:=⟨aF.1,[],1⟩) I ?_;have cb:=aa0 hs aG;refine .bind (P:=λav=> ∃q:Int×Int×Bool×cW×dM×aL Cell,av=.inl q∧hc q.2.2.2.2.1∧∃bI next js,jB aF.1 q.2.2.2.2.2 P bI next js∧iC aF.1 bI next q.2.2.2.1)
  (cQ.loop 20 (λi st=>st.2.1=(i:Int)∧hc st.2.2.2.1∧∃bI next js,jB aF.1 st.2.2.2.2 P bI next js∧iC aF.1 bI next st.2.2.1∧st.1=(js.length:Int)∧js.length<=i∧next<=(i:Int)+1) (by omega) ⟨rfl,aB,_,_,_,g0,cb,rfl,by simp,by omega⟩ (λi st aq b5=>?_) (λst b5=>?_)) λav he=>?_
 ·obtain⟨n,sL,y,c,bQ⟩:=st;obtain⟨Cf,ag,bI,next,js,g,cK,cf,aC,aM⟩:=b5;simp only at Cf ag g cK cf;subst Cf cf;refine .b1 (P:=λ_=>True) (λ_=>XO _) λcj _=>.cond (λ_=>?_) λ_=>.ret ⟨_,rfl,ag,_,_,_,g,cK⟩;refine .bind (alN hs aG g cK (by omega) (by omega) c ag) λcm c0=>?_;obtain⟨v7,zh,_,c0⟩:=c0;have key:∃kX next' js',jB aF.1 cm.2.2.2.2 P kX next' js'∧iC aF.1 kX next' cm.2.2.1∧js'.length<=i+1∧next'<=(i:Int)+1+1∧(if cm.2.1=true then bm ((js.length:Int)+1)else(js.length:Int))=(js'.length:Int):=by
   rcases c0 with⟨bV,me,kX,next',ek,_,cv,pw⟩|⟨bV,ek,e'⟩
   ·have hb:cm.2.1=true:=by
     cases hb:cm.2.1 with
     |true=>rfl
     |false=>rw[hb]at bV;simp at bV
    exact⟨kX,next',_,ek,cv,by rw[gH];simp;omega,by omega,by rw[bh hb,gH,dB (by omega)];simp⟩
   have hb: ¬cm.2.1=true:=λhb=>by rw[bh hb]at bV;exact bV I
   exact⟨bI,next,js,ek,by rw[e'];exact cK,by omega,by omega,by rw[bf hb]⟩
  obtain⟨kX,next',js',ek,cv,pA,pw,em⟩:=key;refine .gX (P:=λm=>m=(js'.length:Int)) (.cond (λhb=>.ret ?_) λhb=>.ret ?_) λm1 bS=>?_
  ·rw[bh hb]at em;exact em
  ·rw[bf (by rw[hb];simp)]at em;exact em
  subst bS;rw[v7];refine .bind (P:=λr=>r=(true,cm.2.2.2.2)) (.cond (λ_=>ajz hs aG ek cv) λbT=>by simp at bT) λcA db=>?_;subst db;obtain⟨a,b,b5⟩:=ek.st;refine .eq (a:=P.x) I (.eq (a:=_) (show b1 false false (hM cm.2.2.2.2 P.x)=some _ from b5) (.eq (a:=(js'.length:Int)) I (.cond (λbT=>?_) λ_=>.ret ⟨dB (by omega),zh,kX,next',js',ek,cv,rfl,pA,pw⟩)));simp at bT
 ·obtain⟨n,sL,y,c,bQ⟩:=st;obtain⟨Cf,ag,bI,next,js,g,cK,cf,aC,aM⟩:=b5;simp only at Cf ag g cK;subst Cf;refine .b1 (P:=λ_=>True) (λ_=>XO _) λcj _=>.cond (λag=>by simp at ag) λ_=>.ret ⟨_,rfl,ag,_,_,_,g,cK⟩
 obtain⟨q,rfl,pC,bI,next,js,g,cK⟩:=he;simp only[Sum.elim_inl];refine .gX (aiC hs g cK _ pC) λiy sE=>?_;refine .bind (P:=λr=>r.1=true) (.cond (λ_=>aiy _) λbT=>by rw[sE]at bT;simp at bT) λh6 BR=>.ret ?_;rw[sE,BR];rfl
def ajB(ab ai:aa (BitVec 8)):Gq [] ab ai (λr=>r.1=true):=(akK [] ab ai).run
end Go.Proofs.YtppgfphgdogpeaaGreat
