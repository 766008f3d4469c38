/-
  What the programs compute, in plain Lean. Conditions: none.
-/
import Derived.Test.YtppgfphgdogpeaaGreatUp0
import Derived.Test.YtppgfphgdogpeaaGreatUl1
set_option linter.defProp false
set_option linter.unusedVariables false
set_option linter.unusedSimpArgs false
set_option maxRecDepth 100000
namespace Go.Proofs.YtppgfphgdogpeaaGreat
open Go Gv
def HC{hp hp':aL Cell}{p:Nat}(h:pat hp' p=pat hp p):jT hp' p=jT hp p:=by unfold jT;rw[h]
def HD{hp hp':aL Cell}{p:Nat}(h:pat hp' p=pat hp p):mU hp' p=mU hp p:=by unfold mU;rw[h]
def ajN{hp:aL Cell}{p:Nat}{k:Cell}{x:lI}(h:pat hp p=some k):jT (cJ hp p (.rH x)) p=some x:=by unfold jT;rw[te h]
def ajO{hp:aL Cell}{p:Nat}{k:Cell}{x:aa (Int×Ref)}(h:pat hp p=some k):mU (cJ hp p (.tv x)) p=some x:=by unfold mU;rw[te h]
structure tg(s:aZ)(hp:aL Cell)(p m:Nat)(fv:List (Int×Ref))(n:Nat)(ls:Nat->List aH)(own:Nat->Nat->Prop):Prop where
 has:∀k,k<n->∃q,dG fv ((k:Int)+1)=some (some q)∧lQ s k hp q (ls k) (own k)
 no:∀x:Int,x<1∨(n:Int)<x->dG fv x=none
 JV:∀k k',k<n->k'<n->k≠k'->∀q,own k q->¬own k' q
 out:∀k,k<n->¬own k p∧¬own k m
def tg.congr{s:aZ}{hp hp':aL Cell}{p m:Nat}{fv:aa (Int×Ref)}{n:Nat}{ls:Nat->aa aH}{own:Nat->Nat->Prop}(h:tg s hp p m fv n ls own)(hk:∀q,q∈eb hp->q∈eb hp')(aY:∀k,k<n->∀q,own k q->pat hp' q=pat hp q):tg s hp' p m fv n ls own:=
 ⟨λk ko=>by obtain⟨q,h1,ad⟩:=h.has k ko;exact⟨q,h1,ad.congr hk (aY k ko)⟩,h.no,h.JV,h.out⟩
structure rI(s:aZ)(hp:aL Cell)(p:Nat)(ls:Nat->List aH)(next:Int):Prop where
 cell:∃m fv own,jT hp p=some ⟨s,⟨some m⟩,next⟩∧mU hp m=some fv∧tg s hp p m fv 4 ls own
def fg(ls:Nat->aa aH)(k:Nat)(l:aa aH):Nat->aa aH:=λj=>if j=k then l else ls j
def L4{s:aZ}{hp:aL Cell}{p:Nat}{ls:Nat->aa aH}{next:Int}(h:rI s hp p ls next){k:Nat}(hk:k<4):∃q own,rf hp (some p) ((k:Int)+1)=some (some q)∧lQ s k hp q (ls k) own:=by
 obtain⟨m,fv,own,h1,ad,az⟩:=h.cell;obtain⟨q,aV,bc⟩:=az.has k hk;refine⟨q,own k,?_,bc⟩;refine ba.get ?_;unfold rf;refine .cond (λae=>by cases ae) λ_=>.eq rfl (.eq h1 (.eq rfl (.eq ad (.eq rfl (.ret ?_)))));rw[aV];rfl
def L5{s:aZ}{hp:aL Cell}{p:Nat}{ls:Nat->aa aH}{next:Int}(h:rI s hp p ls next){x:Int}(au:x<1∨4<x):rf hp (some p) x=some none:=by
 obtain⟨m,fv,own,h1,ad,az⟩:=h.cell;refine ba.get ?_;unfold rf;refine .cond (λae=>by cases ae) λ_=>.eq rfl (.eq h1 (.eq rfl (.eq ad (.eq rfl (.ret ?_)))));rw[az.no x (by omega)];rfl
def Q8{s:aZ}(hs:b7 s){hp:aL Cell}{p:Nat}{ls:Nat->aa aH}{next:Int}(h:rI s hp p ls next){k:Nat}(hk:k<4){e:bl}(he:fE s k e):xZ hp (some p) e=some (jh (dw (ls k) e)):=by
 obtain⟨q,own,h1,ad⟩:=L4 h hk;refine ba.get ?_;unfold xZ;rw[he.fF];exact .eq h1 (.eq (Q5 hs hk ad he) (.ret I))
def alc{s:aZ}(hs:b7 s){hp:aL Cell}{p:Nat}{ls:Nat->aa aH}{next:Int}(h:rI s hp p ls next){k:Nat}(hk:k<4):GZ hp (some p) ((k:Int)+1)=some (ax s.bL k).ij:=by
 obtain⟨m,fv,own,h1,ad,az⟩:=h.cell;refine ba.get ?_;unfold GZ;refine .eq I (.eq h1 ((PV hs hk).bind λao ar=>?_));subst ar;exact .idx I (by rw[hs.lP];exact hk) (.ret I)
def ald{s:aZ}{hp:aL Cell}{p:Nat}{ls:Nat->aa aH}{next:Int}(h:rI s hp p ls next):GW hp (some p)=some next:=by
 obtain⟨m,fv,own,h1,ad,az⟩:=h.cell;refine ba.get ?_;unfold GW;exact .cond (λae=>by cases ae) λ_=>.eq rfl (.eq h1 (.ret rfl))
def Zg(o:aD aH):(jh o).2=o.isSome:=by cases o <;> rfl
def tg.change{s:aZ}{hp hp':aL Cell}{p:Nat}{ls:Nat->aa aH}{next:Int}{m:Nat}{fv:aa (Int×Ref)}{own:Nat->Nat->Prop}(h1:jT hp p=some ⟨s,⟨some m⟩,next⟩)(ad:mU hp m=some fv)(az:tg s hp p m fv 4 ls own){k:Nat}(hk:k<4){q:Nat}(hq:dG fv ((k:Int)+1)=some (some q)){l:aa aH}{own':Nat->Prop}
 (au:lQ s k hp' q l own') (a6:∀x,own' x->own k x∨x∉eb hp) (rS:fr hp hp' (own k)):jT hp' p=some ⟨s,⟨some m⟩,next⟩∧mU hp' m=some fv∧tg s hp' p m fv 4 (fg ls k l) (λj=>if j=k then own' else own j):=by
 have l6:=kj (wQ h1)
 have h8:=kj (ym ad)
 have bA:=(az.out k hk).1
 have cC:=(az.out k hk).2
 refine⟨by rw[HC (rS.rest p l6 bA)];exact h1,by rw[HD (rS.rest m h8 cC)];exact ad,⟨λj aB=>?_,az.no,λj pE aB pw df x iE oe=>?_,λj aB=>?_⟩⟩
 ·by_cases e:j=k
  ·subst e
   refine⟨q,hq,?_⟩
   unfold fg
   rw[bh I,bh I];exact au
  obtain⟨oW,g1,g2⟩:=az.has j aB
  refine⟨oW,g1,?_⟩
  unfold fg
  rw[bf e,bf e]
  exact g2.mW rS λx au=>az.JV j k aB hk e x au
 ·have key:∀j,j<4->j≠k->own' x->¬own j x:=λj aB df aV bc=>by
   obtain⟨oW,g1,g2⟩:=az.has j aB;rcases a6 x aV with bq|bq
   ·exact az.JV j k aB hk df x bc bq
   exact bq (g2.pA x bc)
  by_cases e:j=k
  ·rw[bh e]at iE
   rw[bf (λe'=>df (e.trans e'.symm))]at oe
   exact key pE pw (λe'=>df (e.trans e'.symm)) iE oe
  rw[bf e]at iE
  by_cases e':pE=k
  ·rw[bh e']at oe;exact key j aB e oe iE
  rw[bf e']at oe;exact az.JV j pE aB pw df x iE oe
 by_cases e:j=k
 ·rw[bh e]
  refine⟨λh=>?_,λh=>?_⟩
  ·rcases a6 p h with aV|aV
   ·exact bA aV
   exact aV l6
  rcases a6 m h with aV|aV
  ·exact cC aV
  exact aV h8
 rw[bf e];exact az.out j aB
def ami{s:aZ}(hs:b7 s)(hp:aL Cell):cO (HB hp s) (λr=> ∃p,r.1=some p∧rI s r.2 p (λ_=>[]) 1):=by
 unfold HB;refine .mk λm hm=>.eq I (.mk λp bQ=>?_);simp only at bQ⊢;have nI:p≠m:=λe=>bQ (by rw[e];exact jC);have o0:jT ((p,Cell.rH ⟨s,⟨some m⟩,1⟩)::(m,Cell.tv [])::hp) p=some ⟨s,⟨some m⟩,1⟩:=by unfold jT;rw[lp,bh I]
 have d0:mU ((p,Cell.rH ⟨s,⟨some m⟩,1⟩)::(m,Cell.tv [])::hp) m=some []:=by unfold mU;rw[lp,bf nI,lp,bh I]
 refine .eq o0 ?_;simp only;refine .bind (P:=λar=> ∃fv own,jT ar.2.2 p=some ⟨s,⟨some m⟩,1⟩∧mU ar.2.2 m=some fv∧tg s ar.2.2 p m fv 4 (λ_=>[]) own)
  (cO.loop 4 (λi st=> ∃hp' fv own,st=((i:Int),hp')∧jT hp' p=some ⟨s,⟨some m⟩,1⟩∧mU hp' m=some fv∧tg s hp' p m fv i (λ_=>[]) own) (by omega) ⟨_,[],λ_ _=>False,rfl,o0,d0,⟨λk hk=>by omega,λ_ _=>rfl,λk k' hk=>by omega,λk hk=>by omega⟩⟩ (λi st aq b1=>?_) (λst b1=>?_)) λar h1=>.ret ⟨p,rfl,?_⟩
 ·obtain⟨hp',fv,own,rfl,g1,g2,g3⟩:=b1;have zb:=wQ g1;have JE:=ym g2;refine .cond (λ_=>.idx I (by rw[hs.lP];exact aq) (.eq g1 ?_)) λae=>by have:=hs.lP;simp at ae;omega
  rw[(hs.fF aq).1];refine .bind (amg hs aq hp') λao h1=>?_;obtain⟨q,e,au,hk⟩:=h1;obtain⟨atz,cZ⟩:=ao;simp only at e au hk;subst e;have aI:jT cZ p=some ⟨s,⟨some m⟩,1⟩:=by rw[HC (hk.rest p (kj zb) id)];exact g1
  have bu:mU cZ m=some fv:=by rw[HD (hk.rest m (kj JE) id)];exact g2
  have Nt:=ym bu;refine .eq (a:=()) (by unfold Je;rw[bh aI]) (.eq I (.eq bu (.eq I (.ret ?_))));have ES:m≠p:=λe=>by rw[e]at Nt;rw[wQ aI]at Nt;cases Nt
  have zc:∀x,x≠m->pat (cJ cZ m (Cell.tv (gP fv ((i:Int)+1) (some q)))) x=pat cZ x:=λx au=>nr au.symm;have hold:∀j,j<i->∀x,own j x->pat (cJ cZ m (Cell.tv (gP fv ((i:Int)+1) (some q)))) x=pat hp' x:=λj aB x au=>by
   obtain⟨oW,_,eF⟩:=g3.has j aB;rw[zc x λe=>(g3.out j aB).2 (e▸au)];exact hk.rest x (eF.pA x au) id
  have tz:∀x,oF Fj hp' cZ x->x∉eb hp':=λx au=>au.elim (λh=>h.elim) λh=>h.1;refine⟨_,gP fv ((i:Int)+1) (some q),λj=>if j=i then oF Fj hp' cZ else own j,by simp only[dA (show i<2^62 by omega)],by rw[HC (zc p ES.symm)];exact aI,ajO Nt,⟨λj aB=>?_,λx au=>?_,λj pE aB pw df x iE oe=>?_,λj aB=>?_⟩⟩
  ·by_cases e:j=i
   ·subst e;refine⟨q,by rw[wC,bh I],?_⟩;rw[bh I];exact au.congr (λx au=>by rw[sf];exact au) λx iE=>zc x λe=>tz x iE (e▸kj JE)
   obtain⟨oW,dM,eF⟩:=g3.has j (by omega);refine⟨oW,by rw[wC,bf (by omega)];exact dM,?_⟩;rw[bf e];exact eF.congr (λx au=>by rw[sf];exact hk.keys x au) (hold j (by omega))
  ·rw[wC,bf (by omega)];exact g3.no x (by omega)
  ·have key:∀j,j<i->oF Fj hp' cZ x->¬own j x:=λj aB h1 ad=>by
    obtain⟨oW,_,eF⟩:=g3.has j aB;exact tz x h1 (eF.pA x ad)
   by_cases e:j=i
   ·rw[bh e]at iE;rw[bf (λe'=>df (e.trans e'.symm))]at oe;exact key pE (by omega) iE oe
   rw[bf e]at iE;by_cases e':pE=i
   ·rw[bh e']at oe;exact key j (by omega) oe iE
   rw[bf e']at oe;exact g3.JV j pE (by omega) (by omega) df x iE oe
  by_cases e:j=i
  ·rw[bh e];exact⟨λh=>tz p h (kj zb),λh=>tz m h (kj JE)⟩
  rw[bf e];exact g3.out j (by omega)
 ·obtain⟨hp',fv,own,rfl,g1,g2,g3⟩:=b1;refine .cond (λae=>by have:=hs.lP;simp at ae;omega) λ_=>.ret ⟨fv,own,g1,g2,g3⟩
 obtain⟨fv,own,bX,a2,a3⟩:=h1;exact⟨m,fv,own,bX,a2,a3⟩
def ajP{l:aa aH}{e:bl}{i:aH}(h:dw l e=none)(aq:fG i.aX e=true):dw (l++[i]) e=some i:=by
 unfold dw at h⊢;rw[F7,h,Option.none_or];simp[aq]
def Fk:bl:= {(default:bl)with bF:=1,bP:=[({(default:cG)with gp:=true}:cG)],eL:=1}
def RU{s:aZ}(h:b7 s):fE s 0 Fk:=by
 refine⟨rfl,by rw[h.M7];rfl,λi aq=>?_,by decide,λ_=>rfl⟩;rw[h.M7]at aq⊢;have:i=0:=by have:i<1:=aq;omega
 subst this;show sm 1 (hK sK) {(default:cG)with gp:=true};have bC:∀j,ct ({(default:cG)with gp:=true}:cG).b6 j=false:=λj=>D3 j;exact⟨λh=>(by cases h),λ_=>rfl,λ_ j _ bb=>(by rw[bC]at bb;cases bb),λh=>(by cases h),λh=>(by cases h),IY,λh=>(by cases h),λ_=>rfl,λ_=>rfl,λh=>(by cases h),λh=>(by cases h),λh=>(by cases h),λ_=>rfl⟩
def jF{ls:Nat->aa aH}{k:Nat}{l:aa aH}:fg ls k l k=l:=by unfold fg;rw[bh I]
def kl{ls:Nat->aa aH}{k j:Nat}{l:aa aH}(h:j≠k):fg ls k l j=ls j:=by unfold fg;rw[bf h]
def L6(l:aa aH)(e:bl):(db l e).length<=l.length:=vj _ _
structure mI{α:Type}(f:α->α->Int):Prop where
 neg:∀x y,f x y<0↔0<f y x
 oi:∀x y z,f x y<=0->f y z<=0->f x z<=0
def mI.self{α:Type}{f:α->α->Int}(h:mI f)(x:α):f x x=0:=by have:=h.neg x x;omega
def mI.on{α β:Type}{f:β->β->Int}(h:mI f)(g:α->β):mI (λx y=>f (g x) (g y)):=⟨λx y=>h.neg _ _,λx y z=>h.oi _ _ _⟩
def mI.rev{α:Type}{f:α->α->Int}(h:mI f):mI (λx y=>f y x):=⟨λx y=>h.neg y x,λx y z h1 ad=>h.oi z y x ad h1⟩
def jW{α:Type}(f g:α->α->Int)(x y:α):Int:=if f x y=0 then g x y else f x y
def wH{α:Type}{f g:α->α->Int}{x y:α}(h:jW f g x y=0):f x y=0∧g x y=0:=by
 unfold jW at h;split at h
 ·rename_i e;exact⟨e,h⟩
 rename_i e;exact absurd h e
def mI.jW{α:Type}{f g:α->α->Int}(h:mI f)(k:mI g):mI (Go.Proofs.YtppgfphgdogpeaaGreat.jW f g)where
 neg x y:=by
  unfold Go.Proofs.YtppgfphgdogpeaaGreat.jW;have h1:=h.neg x y;have ad:=h.neg y x;by_cases e:f x y=0
  ·rw[bh e,bh (by omega)];exact k.neg x y
  rw[bf e,bf (by omega)];exact h1
 oi x y z:=by
  unfold Go.Proofs.YtppgfphgdogpeaaGreat.jW;intro h1 ad;have bX:f x y<=0:=by by_cases e:f x y=0 <;> simp[e]at h1 <;> omega
  have a2:f y z<=0:=by by_cases e:f y z=0 <;> simp[e]at ad <;> omega
  have a3:=h.oi x y z bX a2;by_cases e:f x z=0
  ·have zs:f z x<=0:=by have:=h.neg x z;have:=h.neg z x;omega
   have dM:=h.oi z x y zs bX;have eF:=h.oi y z x a2 zs;have c1:f y z=0:=by have:=h.neg y z;omega
   have c2:f x y=0:=by have:=h.neg x y;omega
   rw[bh c2]at h1;rw[bh c1]at ad;rw[bh e];exact k.oi x y z h1 ad
  rw[bf e];exact a3
def ID{x y:Int}:eP x y<0↔x<y:=by unfold eP;split <;> (try split) <;> omega
def Ex{x y:Int}:0<eP x y↔y<x:=by unfold eP;split <;> (try split) <;> omega
def k2{x y:Int}:eP x y=0↔x=y:=by unfold eP;split <;> (try split) <;> omega
def tp:mI eP:=⟨λx y=>by rw[ID,Ex],λx y z h1 ad=>by
 have a:= @Ex x y;have b:= @Ex y z;have c:= @Ex x z;omega⟩
def lc{α:Type}(g:α->α->Int):aa α->aa α->Int
 |[],[]=>0
 |[],_::_=> -1
 |_::_,[]=>1
 |a::r,b::t=>if g a b=0 then lc g r t else g a b
def ZQ{α:Type}{g:α->α->Int}(h:mI g):∀(x y:aa α),lc g x y<0↔0<lc g y x
 |[],[]=>by simp[lc]
 |[],_::_=>by simp[lc]
 |_::_,[]=>by simp[lc]
 | a::r,b::t=>by
   have h1:=h.neg a b;have ad:=h.neg b a;unfold lc;by_cases e:g a b=0
   ·rw[bh e,bh (by omega)];exact ZQ h r t
   rw[bf e,bf (by omega)];exact h1
def abn{α:Type}{g:α->α->Int}(h:mI g):∀(x y z:aa α),lc g x y<=0->lc g y z<=0->lc g x z<=0
 |[],_,[],_,_=>by simp[lc]
 |[],_,_::_,_,_=>by simp[lc]
 |_::_,[],_,h1,_=>by simp[lc]at h1
 |_::_,_::_,[],_,ad=>by simp[lc]at ad
 | a::r,b::t,c::u,h1,ad=>by
   unfold lc at h1 ad⊢;have bX:g a b<=0:=by by_cases e:g a b=0 <;> simp[e]at h1 <;> omega
   have a2:g b c<=0:=by by_cases e:g b c=0 <;> simp[e]at ad <;> omega
   have a3:=h.oi a b c bX a2;by_cases e:g a c=0
   ·have zs:g c a<=0:=by have:=h.neg a c;have:=h.neg c a;omega
    have dM:=h.oi c a b zs bX;have eF:=h.oi b c a a2 zs;have c1:g b c=0:=by have:=h.neg b c;omega
    have c2:g a b=0:=by have:=h.neg a b;omega
    rw[bh c2]at h1;rw[bh c1]at ad;rw[bh e];exact abn h r t u h1 ad
   rw[bf e];exact a3
def SI{α:Type}{g:α->α->Int}(h:mI g):mI (lc g):=⟨ZQ h,abn h⟩
def Q9{α:Type}{g:α->α->Int}(h:∀a b,g a b=0->a=b):∀{x y:aa α},lc g x y=0->x=y
 |[],[],_=>rfl
 |[],_::_,e=>by simp[lc]at e
 |_::_,[],e=>by simp[lc]at e
 | a::r,b::t,e=>by
   unfold lc at e;split at e
   ·rename_i ar;rw[h a b ar,Q9 h e]
   rename_i ar;exact absurd e ar
def gC(v:aN):Int:=((v.dZ.toNat*18446744073709551616+v.cI.toNat:Nat):Int)
def A5{x y:aN}(h:gC x=gC y):x=y:=by
 obtain⟨a,b⟩:=x;obtain⟨c,d⟩:=y;unfold gC at h;simp only at h;first
 | (have h1:=a.isLt;have ad:=b.isLt;have az:=c.isLt;have aV:=d.isLt
    have ar:a=c:=zI (by omega)
    have aS:b=d:=zI (by omega)
    rw[ar,aS])
def Ra(x y:aN):ri x y=some (eP (gC x) (gC y)):=by
 unfold ri;by_cases e:x=y
 ·subst e;simp only[G6,cond_true];rw[k2.2 I]
 simp only[e,PA,cond_false,Option.bind_some];have df:gC x≠gC y:=λh=>e (A5 h);have ca:((decide (x.dZ<y.dZ))||((x.dZ==y.dZ)&&(decide (x.cI<y.cI))))=decide (gC x<gC y):=by
  rw[kP];simp only[qn,gl,e5,nm,Aa];unfold gC;have h1:=x.dZ.isLt;have ad:=x.cI.isLt;have az:=y.dZ.isLt;have aV:=y.cI.isLt;constructor
  ·rintro (h|⟨h,cW⟩)
   ·omega
   rw[h];omega
  intro h;by_cases bW:x.dZ.toNat<y.dZ.toNat
  ·exact .inl bW
  have:x.dZ.toNat=y.dZ.toNat:=by omega
  exact .inr ⟨zI this,by omega⟩
 rw[ca];unfold eP;by_cases bb:gC x<gC y
 ·simp[bb]
 rw[sT bb,bf bb,bh (by omega)];rfl
def kT:aa Int->Int
 |[]=>0
 |a::r=>if a=0 then kT r else a
def XE{l:aa Int}(al:l.length<=1000):wA l=some (kT l):=by
 refine ba.get ?_;unfold wA;refine .bind (P:=λe=>(∃q,e=.inl q∧kT l=0)∨∃q:Int×Int×Int×Bool×Bool,e=.inr q∧q.1=kT l)
  (ba.jH l.length (λj st=>st=(j:Int)∧kT l=kT (l.drop j)) (by omega) ⟨rfl,rfl⟩ (λj st aB hs=>?_) (λst hs=>?_)) λe he=>?_
 ·obtain⟨rfl,hs⟩:=hs;rw[q7 aB]at hs;have hs:kT l=if l[j]=0 then kT (l.drop (j+1))else l[j]:=hs;refine .cond (λ_=>.idx I aB ?_) λae=>by simp at ae;omega
  rw[dh _ aB];refine .cond (λae=>.ret (.inr ⟨_,rfl,?_⟩)) λae=>.ret ⟨dA (by omega),?_⟩
  ·have:l[j]≠0:=by simpa using ae
   rw[hs,bf this]
  have:l[j]=0:=by simpa using ae
  rw[hs,bh this]
 ·obtain⟨rfl,hs⟩:=hs;refine .cond (λae=>by simp at ae) λ_=>.ret (.inl ⟨_,rfl,?_⟩);rw[hs,r8];rfl
 rcases he with⟨q,rfl,hq⟩|⟨q,rfl,hq⟩
 ·simp only[Sum.elim_inl];exact .ret hq.symm
 simp only[Sum.elim_inr];exact .ret hq
def afl{g:cG->cG->Int}{f:cG->cG->aD Int}(aW:∀a b,f a b=some (g a b)){xs ys:aa cG}(au:xs.length<=100000)(aT:ys.length<=100000):FA xs ys f=some (lc g xs ys):=by
 refine ba.get ?_;unfold FA;refine .bind (P:=λe=>(∃q,e=.inl q∧lc g xs ys=if xs.length<ys.length then -1 else 0)∨∃q:Int×Int×Int×Bool×Bool,e=.inr q∧q.1=lc g xs ys)
  (ba.jH xs.length (λj st=>st=(j:Int)∧j<=ys.length∧lc g xs ys=lc g (xs.drop j) (ys.drop j)) (by omega) ⟨rfl,by omega,rfl⟩ (λj st aB hs=>?_) (λst hs=>?_)) λe he=>?_
 ·obtain⟨rfl,B9,hs⟩:=hs;refine .cond (λ_=>.idx I aB (.cond (λae=>.ret (.inr ⟨_,rfl,?_⟩)) λae=>?_)) λae=>by simp at ae;omega
  ·have ae:ys.length<=j:=by simpa using ae
   rw[hs,q7 aB,zG ae];rfl
  have ca:j<ys.length:=by simpa using ae
  rw[q7 aB,q7 ca]at hs;refine .idx I ca (.eq (aW _ _) ?_);rw[dh _ aB,dh _ ca];have hs:lc g xs ys=if g xs[j] ys[j]=0 then lc g (xs.drop (j+1)) (ys.drop (j+1))else g xs[j] ys[j]:=hs;refine .cond (λae=>.ret (.inr ⟨_,rfl,?_⟩)) λae=>.ret ⟨dA (by omega),ca,?_⟩
  ·have:g xs[j] ys[j]≠0:=by simpa using ae
   rw[hs,bf this]
  have:g xs[j] ys[j]=0:=by simpa using ae
  rw[hs,bh this]
 ·obtain⟨rfl,B9,hs⟩:=hs;refine .cond (λae=>by simp at ae) λ_=>.ret (.inl ⟨_,rfl,?_⟩);rw[hs,r8];cases hd:ys.drop xs.length with
  | nil=>
    have:=Kz.1 hd
    rw[bf (by omega)];rfl
  | cons z u4=>
    have:ys.length-xs.length=u4.length+1:=by rw[<-ke,hd];rfl
    rw[bh (by omega)];rfl
 rcases he with⟨q,rfl,hq⟩|⟨q,rfl,hq⟩
 ·simp only[Sum.elim_inl];refine .cond (λae=>.ret ?_) λae=>.ret ?_
  ·rw[hq,bh (by simpa using ae)]
  rw[hq,bf (by simpa using ae)]
 simp only[Sum.elim_inr];exact .ret hq
def afm{g:aN->aN->Int}{f:aN->aN->aD Int}(aW:∀a b,f a b=some (g a b)){xs ys:aa aN}(au:xs.length<=100000)(aT:ys.length<=100000):FB xs ys f=some (lc g xs ys):=by
 refine ba.get ?_;unfold FB;refine .bind (P:=λe=>(∃q,e=.inl q∧lc g xs ys=if xs.length<ys.length then -1 else 0)∨∃q:Int×Int×Int×Bool×Bool,e=.inr q∧q.1=lc g xs ys)
  (ba.jH xs.length (λj st=>st=(j:Int)∧j<=ys.length∧lc g xs ys=lc g (xs.drop j) (ys.drop j)) (by omega) ⟨rfl,by omega,rfl⟩ (λj st aB hs=>?_) (λst hs=>?_)) λe he=>?_
 ·obtain⟨rfl,B9,hs⟩:=hs;refine .cond (λ_=>.idx I aB (.cond (λae=>.ret (.inr ⟨_,rfl,?_⟩)) λae=>?_)) λae=>by simp at ae;omega
  ·have ae:ys.length<=j:=by simpa using ae
   rw[hs,q7 aB,zG ae];rfl
  have ca:j<ys.length:=by simpa using ae
  rw[q7 aB,q7 ca]at hs;refine .idx I ca (.eq (aW _ _) ?_);rw[dh _ aB,dh _ ca];have hs:lc g xs ys=if g xs[j] ys[j]=0 then lc g (xs.drop (j+1)) (ys.drop (j+1))else g xs[j] ys[j]:=hs;refine .cond (λae=>.ret (.inr ⟨_,rfl,?_⟩)) λae=>.ret ⟨dA (by omega),ca,?_⟩
  ·have:g xs[j] ys[j]≠0:=by simpa using ae
   rw[hs,bf this]
  have:g xs[j] ys[j]=0:=by simpa using ae
  rw[hs,bh this]
 ·obtain⟨rfl,B9,hs⟩:=hs;refine .cond (λae=>by simp at ae) λ_=>.ret (.inl ⟨_,rfl,?_⟩);rw[hs,r8];cases hd:ys.drop xs.length with
  | nil=>
    have:=Kz.1 hd
    rw[bf (by omega)];rfl
  | cons z u4=>
    have:ys.length-xs.length=u4.length+1:=by rw[<-ke,hd];rfl
    rw[bh (by omega)];rfl
 rcases he with⟨q,rfl,hq⟩|⟨q,rfl,hq⟩
 ·simp only[Sum.elim_inl];refine .cond (λae=>.ret ?_) λae=>.ret ?_
  ·rw[hq,bh (by simpa using ae)]
  rw[hq,bf (by simpa using ae)]
 simp only[Sum.elim_inr];exact .ret hq
def nK(m:cG):Int:=if m.gp=true then 1 else 0
def amj(m:cG):Du m=some (nK m):=by
 unfold Du nK;cases m.gp <;> rfl
def ql:cG->cG->Int:=jW (λx y=>eP (nK x) (nK y)) (jW (λx y=>eP (gC x.b6) (gC y.b6)) (jW (λx y=>eP (gC x.hz) (gC y.hz)) (jW (λx y=>eP x.ep y.ep) (λx y=>eP (gC x.lq) (gC y.lq)))))
def SJ:mI ql:=(tp.on nK).jW ((tp.on λx:cG=>gC x.b6).jW ((tp.on λx:cG=>gC x.hz).jW ((tp.on λx:cG=>x.ep).jW (tp.on λx:cG=>gC x.lq))))
def Zh{x y:cG}(h:ql x y=0):x=y:=by
 obtain⟨h1,h⟩:=wH h;obtain⟨ad,h⟩:=wH h;obtain⟨az,h⟩:=wH h;obtain⟨aV,bc⟩:=wH h;refine Q3 ?_ (A5 (k2.1 ad)) (A5 (k2.1 az)) (k2.1 aV) (A5 (k2.1 bc));have:=k2.1 h1;unfold nK at this;cases au:x.gp <;> cases aT:y.gp <;> simp[au,aT]at this <;> rfl
def acK(a b c d e:Int):kT [a,b,c,d,e]=if a=0 then(if b=0 then(if c=0 then(if d=0 then e else d)else c)else b)else a:=by
 have:(if e=0 then 0 else e)=e:=by split <;> omega
 show(if a=0 then(if b=0 then(if c=0 then(if d=0 then(if e=0 then 0 else e)else d)else c)else b)else a)=_;rw[this]
def ahr(x y:cG):GA x y=some (ql x y):=by
 unfold GA;by_cases e:x=y
 ·subst e;simp only[G6,cond_true];rw[SJ.self]
 simp only[e,PA,cond_false,amj,wS,Ra,Option.bind_some];rw[XE (by simp),acK];rfl
def vh:bl->bl->Int:=jW (λx y=>eP x.bF y.bF) (jW (λx y=>eP y.gG x.gG) (jW (λx y=>lc ql x.bP y.bP) (jW (λx y=>eP x.eL y.eL) (λx y=>lc (λv w=>eP (gC v) (gC w)) x.fN y.fN))))
def ao2:mI vh:=(tp.on λx:bl=>x.bF).jW ((tp.on λx:bl=>x.gG).rev.jW (((SI SJ).on λx:bl=>x.bP).jW ((tp.on λx:bl=>x.eL).jW ((SI (tp.on gC)).on λx:bl=>x.fN))))
def abo{x y:bl}(h:vh x y=0):fG x y=true:=by
 obtain⟨h1,h⟩:=wH h;obtain⟨ad,h⟩:=wH h;obtain⟨az,h⟩:=wH h;exact tf.2 ⟨k2.1 h1,Q9 (λa b=>Zh) az,(k2.1 ad).symm⟩
def ale{x y:bl}(h1:x.bP.length<=1000)(ad:y.bP.length<=1000)(az:x.fN.length<=1000)(aV:y.fN.length<=1000):He x y=some (vh x y):=by
 unfold He;rw[wS,wS,wS,afl ahr (by omega) (by omega),afm Ra (by omega) (by omega)];simp only[Option.bind_some];rw[XE (by simp),acK];rfl
def aiW{α:Type}[Inhabited α]{xs:aa α}{k:Nat}{v:α}(hk:k<xs.length)(i:Nat):ax (ix xs k v) i=if i=k then v else ax xs i:=by
 unfold ax ix;by_cases e:i=k
 ·subst e;rw[bh I];simp[hk]
 rw[bf e];simp[xM (x8 e)]
def Qw{c:aH->aH->Int}(ae:mI c):∀{xs ys:aa aH},xs.Perm ys->xs.Pairwise (λa b=>c a b<=0)->ys.Pairwise (λa b=>c a b<=0)->(∀a∈xs,∀b∈xs,c a b=0->a=b)->xs=ys
 |[],ys,h,_,_,_=>h.nil_eq
 |x::r,[],h,_,_,_=>by have:=h.length_eq;simp at this
 | x::r,y::t,h,h1,ad,az=>by
   obtain⟨bX,a2⟩:=kz.1 h1;obtain⟨dM,eF⟩:=kz.1 ad;have e:x=y:=by
    have au:x∈y::t:=h.mem_iff.1 jC;have aT:y∈x::r:=h.mem_iff.2 jC;rcases dP.1 au with e|au
    ·exact e
    rcases dP.1 aT with e|sD
    ·exact e.symm
    refine az x jC y aT ?_;have g1:=bX y sD;have g2:=dM x au;have:=ae.neg x y;omega
   subst e;rw[Qw ae (List.perm_cons x |>.1 h) a2 eF λa aY b hb=>az a (gA _ aY) b (gA _ hb)]
def _root_.Gv.cO.next{β:Type}{n:Nat}{vis:aa Nat}{k:aD Nat->aj β}{P:β->Prop}(h:∀j,Cf n vis j->cO (k j) P):cO (aj.bind (aj.next n vis) k) P:=λQ hq j aB=>h j aB Q hq
def _root_.Gv.cO.wU{T:Type}{xs:aa T}{F:T->T->aD Int}{c:T->T->Int}(ae:zf c)(al:xs.length<4611686018427387904)(ku:∀a∈xs,∀b∈xs,F a b=some (c a b)):cO (aj.wU xs F) (λr=>r.Perm xs∧r.Pairwise (λa b=>c a b<=0)):=λQ hq=>⟨c,ae,al,ku,λys h1 ad=>hq ys ⟨h1,ad⟩⟩
structure Met(n:Nat)(vis:List Nat):Prop where
 one:vis.Nodup
 lt:∀q∈vis,q<n
def Met.more{n:Nat}{vis:aa Nat}{q:Nat}(h:Met n vis)(hq:q<n∧q∉vis):Met n (vis++[q]):=
 ⟨by rw[q8];exact⟨h.one,by simp,λa aY b hb e=>by rw[hx.1 hb]at e;exact hq.2 (e▸aY)⟩,λa aY=>by
  rcases cF.1 aY with aY|aY
  ·exact h.lt a aY
  rw[hx.1 aY];exact hq.1⟩
def Met.perm{n:Nat}{vis:aa Nat}(h:Met n vis)(aY:∀j,j<n->j∈vis):vis.Perm (List.range n):=
 (U8 h.one List.nodup_range).2 λa=>⟨λh1=>lH.2 (h.lt a h1),λh1=>aY a (lH.1 h1)⟩
def Met.full{n:Nat}{vis:aa Nat}(h:Met n vis)(al:vis.length=n){q:Nat}(hq:q<n):q∈vis:=by
 false_or_by_contra;rename_i fK;have h1:vis.Perm ((List.range n).filter λx=>decide (x∈vis)):=(U8 h.one (List.nodup_range.filter _)).2 λa=>by
  rw[tZ,lH,e5];exact⟨λh1=>⟨h.lt a h1,h1⟩,λh1=>h1.2⟩
 have ad:=h1.length_eq;have az:((List.range n).filter λx=>decide (x∈vis)).length<(List.range n).length:=List.length_filter_lt_length_iff_exists.2 ⟨q,lH.2 hq,by simpa using fK⟩;rw[List.length_range]at az;omega
def XF{α:Type}[Inhabited α](l:aa α):(List.range l.length).map (λq=>ax l q)=l:=by
 apply Gf
 ·simp
 intro i h1 ad;simp only[o4,OS];rw[dh _ ad]
def mC(a c:aH):Int:=vh a.aX c.aX
def Ei:mI mC:=ao2.on λi:aH=>i.aX
def ao3{s:aZ}(h:b7 s){k:Nat}(hk:k<4){hp:aL Cell}{p:Nat}{l:aa aH}{own:Nat->Prop}(au:lQ s k hp p l own)(hlen:l.length<=900):
 cO (Ag hp (some p)) (λr=>r.2=hp∧r.1.Perm l∧r.1.Pairwise (λa b=>mC a b<=0)):=by
 obtain⟨f,m,em,h1,ad,az,aV,bc,bq⟩:=au.cell
 have al:=au.gd.ok
 have sy:em.length=l.length:=by rw[bc.length_eq,kQ]
 have EK:∀q,q<em.length->(ax em q).2∈l:=λq hq=>by
  have hm:ax em q∈em:=by rw[dh _ hq];exact j0 _
  obtain⟨i,aq,e⟩:=ig.1 (bc.mem_iff.1 hm);rw[<-e];exact aq
 have yM:∀vis,Met em.length vis->(∀j,j<em.length->j∈vis)->(vis.map λq=>(ax em q).2).Perm l:=λvis bb aY=>by
  refine((bb.perm aY).map _).trans ?_;have:(List.range em.length).map (λq=>(ax em q).2)=em.map (·.2):=by
   rw[show(List.range em.length).map (λq=>(ax em q).2)=((List.range em.length).map (λq=>ax em q)).map (·.2) by rw[sV];rfl,XF]
  rw[this];refine(bc.map (·.2)).trans ?_;rw[sV,show((λx:Int×aH=>x.2) ∘ λi:aH=>(i.b0,i))=id from rfl,List.map_id]
 unfold Ag
 refine .cond (λae=>by cases ae) λ_=>.eq rfl (.eq h1 (.eq rfl (.eq ad ?_)))
 refine .bind (P:=λe=>e.2.2.Perm l) (cO.loop em.length (λj st=> ∃vis,st=(vis,vis.map λq=>(ax em q).2)∧vis.length=j∧Met em.length vis) (by omega) ⟨[],rfl,rfl,.nil,by simp⟩ (λj st aB hs=>?_) (λst hs=>?_)) λe he=>?_
 ·obtain⟨vis,rfl,qV,bb⟩:=hs
  refine .next λo a6=>?_
  cases o with
  |none=>exact .cond (λae=>by cases ae) λ_=>.ret (yM vis bb a6)
  | some q=>
    refine .cond (λ_=>.eq I (.eq (Eg h hk (al.ok _ (EK q a6.1))) (.eq (gq _ _ (by simp;omega) (by omega)) (.ret ⟨vis++[q],?_,by simp[qV],bb.more a6⟩)))) λae=>by cases ae
    rw[mh];rfl
 ·obtain⟨vis,rfl,qV,bb⟩:=hs
  refine .next λo a6=>?_
  cases o with
  |none=>exact .cond (λae=>by cases ae) λ_=>.ret (yM vis bb a6)
  |some q=>exact absurd (bb.full qV a6.1) a6.2
 have oR:∀a∈e.2.2,a.aX.bP.length<=1000∧a.aX.fN.length<=1000:=λa aY=>(al.ok a (he.mem_iff.1 aY)).small h hk
 have hle:=he.length_eq
 refine .bind (cO.wU (c:=mC) ⟨Ei.neg,Ei.oi⟩ (by omega) λa aY b hb=>?_) λbg aT=>.ret ⟨rfl,aT.1.trans he,aT.2⟩
 unfold KZ
 rw[ale (oR a aY).1 (oR b hb).1 (oR a aY).2 (oR b hb).2]
 rfl
def ajQ{s:aZ}{k:Nat}{l l' r lX:aa aH}(al:ic s k l)(hp:l.Perm l')(h1:r.Perm l)(ad:lX.Perm l')(s1:r.Pairwise (λa b=>mC a b<=0))(s2:lX.Pairwise (λa b=>mC a b<=0)):r=lX:=
 Qw Ei (h1.trans (hp.trans ad.symm)) s1 s2 λa aY b hb e=>al.uniq (h1.mem_iff.1 aY) (h1.mem_iff.1 hb) (abo e)
def Zi{α:Type}{b:α->α->Bool}(hb:uY b){q:α->Bool}:∀{l:aa α} {c:α},l.Pairwise (λx y=>b x y=true)->l.find? q=some c->∀d∈l,q d=true->d=c∨b c d=true
 |[],c,_,h,_,_,_=>by cases h
 | a::l,c,hs,h,d,hd,hq=>by
   obtain⟨h1,ad⟩:=kz.1 hs;by_cases pz:q a=true
   ·rw[FG pz]at h;cases h;rcases dP.1 hd with az|az
    ·exact .inl az
    exact .inr (h1 d az)
   rw[Cx pz]at h;rcases dP.1 hd with az|az
   ·rw[az]at hq;exact absurd hq pz
   exact Zi hb ad h d az hq
def ar7{s:aZ}{k:Nat}{l:aa aH}(al:kr s k l){p:Vector aN 4}{c:aH}(h:j8 s k l p=some c):∀d∈l,mt s k p d.aX=true->d=c∨eR s k c d=true:=λd hd hq=>
 Zi (ur s k) (HL (ur s k) al.zk) h d (ry.2 hd) hq
def ajR{s:aZ}{k:Nat}{l l':aa aH}(al:kr s k l)(kK:kr s k l')(hm:∀i,i∈l↔i∈l')(p:Vector aN 4):j8 s k l p=j8 s k l' p:=by
 cases e:j8 s k l p with
 | some c=>
   have hq:mt s k p c.aX=true:=by unfold j8 at e;exact Pb (p:=λc:aH=>mt s k p c.aX) e
   exact(Mj (ur s k) kK.zk ((hm c).1 (Ze e)) hq λd hd Ul=>ar7 al e d ((hm d).2 hd) Ul).symm
 | none=>
   refine(Q0 λd hd=>?_).symm
   unfold j8 at e
   have:=xO.1 e d (ry.2 ((hm d).2 hd))
   simpa using this
def uz(ls:Nat->aa aH)(x:Nat)(r:aa aH):Prop:=if x=0 then r=[]else r.Perm (ls (x-1))∧r.Pairwise (λa b=>mC a b<=0)
def Yp{s:aZ}(hs:b7 s){hp:aL Cell}{p:Nat}{ls:Nat->aa aH}{next:Int}(h:rI s hp p ls next){x:Nat}(au:x<=4)(al:∀k,k<4->(ls k).length<=12):
 cO (wu hp (some p) (x:Int)) (λr=>r.2=hp∧uz ls x r.1):=by
 unfold wu
 by_cases e:x=0
 ·subst e
  refine .eq (L5 h (by omega)) ?_
  unfold Ag
  exact .bind (P:=λr=>r=([],hp)) (.cond (λ_=>.ret I) λae=>by cases ae) λr aG=>.ret (by rw[aG];exact⟨rfl,by unfold uz;rw[bh I]⟩)
 obtain⟨k,rfl⟩:∃k,x=k+1:=⟨x-1,by omega⟩
 obtain⟨q,own,h1,ad⟩:=L4 h (show k<4 by omega)
 rw[show((k+1:Nat):Int)=(k:Int)+1 by omega]
 refine .eq h1 (.bind (ao3 hs (show k<4 by omega) ad (mi (al k (by omega)) (by omega))) λr aG=>.ret ⟨aG.1,?_⟩)
 unfold uz;rw[bf e];exact aG.2
def rI.gd{s:aZ}{hp:aL Cell}{p:Nat}{ls:Nat->aa aH}{next:Int}(h:rI s hp p ls next){k:Nat}(hk:k<4):ic s k (ls k):=by
 obtain⟨q,own,_,ad⟩:=L4 h hk;exact ad.gd
def uz.same{s:aZ}(hs:b7 s){hp:aL Cell}{p:Nat}{ls:Nat->aa aH}{next:Int}(h:rI s hp p ls next){x:Nat}(au:x<=4){a c:aa aH}(aY:uz ls x a)(ae:uz ls x c):a=c∧wy a a=some true:=by
 unfold uz at aY ae;by_cases e:x=0
 ·rw[bh e]at aY ae;rw[aY,ae];exact⟨rfl,Ly (λi aq=>by cases aq) (by simp)⟩
 rw[bf e]at aY ae;have iG:=h.gd (show x-1<4 by omega);refine⟨ajQ iG (.refl _) aY.1 ae.1 aY.2 ae.2,Ly (λi aq=>(iG.ok.ok i (aY.1.mem_iff.1 aq)).small hs (by omega)) ?_⟩;have:=aY.1.length_eq;have:=iG.ok.len;omega
def Qe{ls:Nat->aa aH}{k:Nat}:fg ls k (ls k)=ls:=by
 funext j;unfold fg;split
 ·rename_i e;rw[e]
 rfl
def lh(r c:Int):Prop:=(r<0↔c<0)∧(0<r↔0<c)
def lh.zero{r c:Int}(h:lh r c):r=0↔c=0:=by
 obtain⟨h1,ad⟩:=h;constructor
 ·intro e;have a: ¬c<0:=λx=>by have:=h1.2 x;omega
  have b: ¬0<c:=λx=>by have:=ad.2 x;omega
  omega
 intro e;have a: ¬r<0:=λx=>by have:=h1.1 x;omega
 have b: ¬0<r:=λx=>by have:=ad.1 x;omega
 omega
def lh.refl(r:Int):lh r r:=⟨Iff.rfl,Iff.rfl⟩
def MI{α:Type}{f g:α->α->Int}{x y:α}(h:f x y=0):jW f g x y=g x y:=by unfold jW;rw[bh h]
def MJ{α:Type}{f g:α->α->Int}{x y:α}(h:f x y≠0):jW f g x y=f x y:=by unfold jW;rw[bf h]
def amk{a b:aN}:l4 a b=true↔gC a<gC b:=by
 rw[H5];simp only[Aa];unfold gC;have h1:=a.dZ.isLt;have ad:=a.cI.isLt;have az:=b.dZ.isLt;have aV:=b.cI.isLt;constructor
 ·rintro (h|⟨h,cW⟩)
  ·omega
  rw[h];omega
 intro h;by_cases bW:a.dZ.toNat<b.dZ.toNat
 ·exact .inl bW
 have:a.dZ.toNat=b.dZ.toNat:=by omega
 exact .inr ⟨zI this,by omega⟩
def H7(a b:aN):ba (rk a b) (λr=>lh r (eP (gC a) (gC b))):=by
 refine(LF a b).mono λr aG=>?_;obtain⟨h1,ad⟩:=aG;rw[amk]at h1 ad;exact⟨by rw[ID];exact ad,by rw[Ex];exact h1⟩
def H8(a b:Int):sa a b=some (eP a b):=by
 unfold sa eP;by_cases h:a<b
 ·simp[h]
 by_cases ad:b<a
 ·simp[h,ad]
 simp[h,ad]
def aiX(x y:cG):ba (Ao x y) (λr=>lh r (ql x y)):=by
 unfold Ao ql;by_cases hv:x.gp=y.gp
 ·have z0:eP (nK x) (nK y)=0:=k2.2 (by unfold nK;rw[hv]);rw[show(x.gp !=y.gp)=false by simp[hv]];refine .cond (λae=>by simp at ae) λ_=>.cond (λae=>by cases ae) λ_=>?_;rw[MI (f:=λx y=>eP (nK x) (nK y)) z0];refine .cond (λae=>(H7 _ _).bind λr aG=>.ret ?_) λae=>?_
  ·rw[MJ]
   ·exact aG
   intro h;have:=A5 (k2.1 h);simp[this]at ae
  have ar:x.b6=y.b6:=by simpa using ae
  rw[MI (f:=λx y:cG=>eP (gC x.b6) (gC y.b6)) (show eP (gC x.b6) (gC y.b6)=0 by rw[ar];exact k2.2 I)];refine .cond (λae=>(H7 _ _).bind λr aG=>.ret ?_) λae=>?_
  ·rw[MJ]
   ·exact aG
   intro h;have:=A5 (k2.1 h);simp[this]at ae
  have aS:x.hz=y.hz:=by simpa using ae
  rw[MI (f:=λx y:cG=>eP (gC x.hz) (gC y.hz)) (show eP (gC x.hz) (gC y.hz)=0 by rw[aS];exact k2.2 I)];refine .cond (λae=>.eq (H8 _ _) (.ret ?_)) λae=>?_
  ·rw[MJ]
   ·exact lh.refl _
   intro h;have:=k2.1 h;simp[this]at ae
  have cE:x.ep=y.ep:=by simpa using ae
  rw[MI (f:=λx y:cG=>eP x.ep y.ep) (show eP x.ep y.ep=0 by rw[cE];exact k2.2 I)];exact(H7 _ _).bind λr aG=>.ret aG
 rw[show(x.gp !=y.gp)=true by simp[hv]];have hs:eP (nK x) (nK y)=if y.gp=true then -1 else 1:=by
  unfold nK eP;cases au:x.gp <;> cases aT:y.gp <;> simp_all
 have df:eP (nK x) (nK y)≠0:=by rw[hs];split <;> decide
 rw[MJ (f:=λx y=>eP (nK x) (nK y)) df];show ba _ (λr=>lh r (eP (nK x) (nK y)));rw[hs];refine .cond (λae=>.ret ?_) λae=>.cond (λ_=>.ret ?_) λae=>by cases ae
 ·rw[bh (by simpa using ae)];exact lh.refl _
 rw[bf (by simpa using ae)];exact lh.refl _
def Zj{α:Type}[Inhabited α]{g:α->α->Int}{f:α->α->aD Int}(aW:∀a b,ba (f a b) (λr=>lh r (g a b))){xs ys:aa α}(au:xs.length<=100000)(aT:ys.length<=100000):
 ba ((c8 (σ:=Int) (ε:=(Int×Bool)⊕(Int×Int×Int×Bool×Bool)) c3 (λs1=>
 cond ((decide (s1<(xs.length:Int)))&&(decide (s1<(ys.length:Int)))) (
  (idx xs.length s1).bind λaI=>
  (idx ys.length s1).bind λbu=>
  (f (ax xs aI) (ax ys bu)).bind λao=>
  cond (ao !=0) (
   some (.inr (Sum.inr (ao,s1,ao,(decide (s1<(xs.length:Int)))&&(decide (s1<(ys.length:Int))),ao !=0)))) (
   some (.inl (bm (s1+1))))) (
  some (.inr (Sum.inl (s1,(decide (s1<(xs.length:Int)))&&(decide (s1<(ys.length:Int)))))))) 0).bind λar=>
 Sum.elim (λar=>
  (sa (xs.length:Int) (ys.length:Int)).bind λaE=>
  some aE) (λar=>
 some ar.1) ar) (λr=>lh r (lc g xs ys)):=by
 refine .bind (P:=λe=>(∃q,e=.inl q∧lc g xs ys=eP (xs.length:Int) (ys.length:Int))∨∃q:Int×Int×Int×Bool×Bool,e=.inr q∧lh q.1 (lc g xs ys))
  (ba.jH (min xs.length ys.length) (λj st=>st=(j:Int)∧lc g xs ys=lc g (xs.drop j) (ys.drop j)) (by omega) ⟨rfl,rfl⟩ (λj st aB hs=>?_) (λst hs=>?_)) λe he=>?_
 ·obtain⟨rfl,hs⟩:=hs
  have Us:j<xs.length:=by omega
  have B9:j<ys.length:=by omega
  refine .cond (λ_=>?_) λae=>by
   rw[re (show(j:Int)<(xs.length:Int) by omega),re (show(j:Int)<(ys.length:Int) by omega)]at ae;cases ae
  rw[q7 Us,q7 B9]at hs
  refine .idx I Us (.idx I B9 ((aW _ _).bind λr aG=>?_))
  rw[dh _ Us,dh _ B9]at aG
  have hs:lc g xs ys=if g xs[j] ys[j]=0 then lc g (xs.drop (j+1)) (ys.drop (j+1))else g xs[j] ys[j]:=hs
  refine .cond (λae=>.ret (.inr ⟨_,rfl,?_⟩)) λae=>.ret ⟨dA (by omega),?_⟩
  ·have:r≠0:=by simpa using ae
   rw[hs,bf (λh=>this (aG.zero.2 h))];exact aG
  have:r=0:=by simpa using ae
  rw[hs,bh (aG.zero.1 this)]
 ·obtain⟨rfl,hs⟩:=hs
  refine .cond (λae=>by
   rw[gl,e5,e5]at ae;omega) λ_=>.ret (.inl ⟨_,rfl,?_⟩)
  rw[hs]
  rcases OX xs.length ys.length with h|h|h
  ·rw[show min xs.length ys.length=xs.length by omega,r8]
   cases hd:ys.drop xs.length with
   |nil=>have:=Kz.1 hd;omega
   | cons z u4=>
     unfold eP
     rw[bh (by omega)];rfl
  ·rw[show min xs.length ys.length=xs.length by omega,r8,h,r8,k2.2 I];rfl
  rw[show min xs.length ys.length=ys.length by omega,r8]
  cases hd:xs.drop ys.length with
  |nil=>have:=Kz.1 hd;omega
  | cons z u4=>
    unfold eP
    rw[bf (by omega),bh (by omega)];rfl
 rcases he with⟨q,rfl,hq⟩|⟨q,rfl,hq⟩
 ·simp only[Sum.elim_inl]
  refine .eq (H8 _ _) (.ret ?_)
  rw[hq];exact lh.refl _
 simp only[Sum.elim_inr]
 exact .ret hq
def WV{xs ys:aa cG}(au:xs.length<=1000)(aT:ys.length<=1000):ba (x4 xs ys) (λr=>lh r (lc ql xs ys)):=by
 unfold x4;exact Zj aiX (by omega) (by omega)
def ah1{xs ys:aa aN}(au:xs.length<=1000)(aT:ys.length<=1000):ba (Al xs ys) (λr=>lh r (lc (λv w=>eP (gC v) (gC w)) xs ys)):=by
 unfold Al;exact Zj H7 (by omega) (by omega)
def aiY{l:aa Int}(al:l.length<=1000):ba (c8 (σ:=Int) (ε:=(Int×Bool)⊕(Int×Int×Int×Bool×Bool)) c3 (λs1=>
 cond (decide (s1<(l.length:Int))) (
  (idx l.length s1).bind λaI=>
  cond ((ax l aI) !=0) (
   some (.inr (Sum.inr (ax l aI,ax l aI,s1,decide (s1<(l.length:Int)),(ax l aI) !=0)))) (
   some (.inl (bm (s1+1))))) (
  some (.inr (Sum.inl (s1,decide (s1<(l.length:Int))))))) 0) (λe=>(∃q,e=.inl q∧kT l=0)∨∃q:Int×Int×Int×Bool×Bool,e=.inr q∧q.1=kT l∧kT l≠0):=by
 refine ba.jH l.length (λj st=>st=(j:Int)∧kT l=kT (l.drop j)) (by omega) ⟨rfl,rfl⟩ (λj st aB hs=>?_) (λst hs=>?_)
 ·obtain⟨rfl,hs⟩:=hs
  rw[q7 aB]at hs
  have hs:kT l=if l[j]=0 then kT (l.drop (j+1))else l[j]:=hs
  refine .cond (λ_=>.idx I aB ?_) λae=>by simp at ae;omega
  rw[dh _ aB]
  refine .cond (λae=>.ret (.inr ⟨_,rfl,?_⟩)) λae=>.ret ⟨dA (by omega),?_⟩
  ·have:l[j]≠0:=by simpa using ae
   rw[hs,bf this];exact⟨rfl,this⟩
  have:l[j]=0:=by simpa using ae
  rw[hs,bh this]
 obtain⟨rfl,hs⟩:=hs
 refine .cond (λae=>by simp at ae) λ_=>.ret (.inl ⟨_,rfl,?_⟩)
 rw[hs,r8];rfl
def ar8(a b c d:Int):kT [a,b,c,d]=if a=0 then(if b=0 then(if c=0 then d else c)else b)else a:=by
 have hd:kT [d]=d:=by
  show(if d=0 then 0 else d)=d;split
  ·rename_i h;exact h.symm
  rfl
 show(if a=0 then(if b=0 then(if c=0 then kT [d]else c)else b)else a)=_;rw[hd]
def ao4{t p m zC a v f:Int}(hm:lh m zC)(aW:f=if t=0 then(if p=0 then(if m=0 then a else m)else p)else t):
 (f≠0->lh f (if t=0 then(if p=0 then(if zC=0 then(if a=0 then v else a)else zC)else p)else t))∧(f=0->(if t=0 then(if p=0 then(if zC=0 then(if a=0 then v else a)else zC)else p)else t)=v):=by
 have bU:=hm.zero
 by_cases bD:t=0
 ·rw[bh bD]at aW
  by_cases hp:p=0
  ·rw[bh hp]at aW
   by_cases bC:m=0
   ·rw[bh bC]at aW
    rw[bh bD,bh hp,bh (bU.1 bC)]
    by_cases aY:a=0
    ·rw[bh aY];exact⟨λh=>absurd (aW.trans aY) h,λ_=>rfl⟩
    rw[bf aY,aW];exact⟨λ_=>lh.refl _,λh=>absurd h aY⟩
   rw[bf bC]at aW
   rw[bh bD,bh hp,bf (λh=>bC (bU.2 h)),aW]
   exact⟨λ_=>hm,λh=>absurd h bC⟩
  rw[bf hp]at aW
  rw[bh bD,bf hp,aW]
  exact⟨λ_=>lh.refl _,λh=>absurd h hp⟩
 rw[bf bD]at aW
 rw[bf bD,aW]
 exact⟨λ_=>lh.refl _,λh=>absurd h bD⟩
def alf{x y:bl}(h1:x.bP.length<=1000)(ad:y.bP.length<=1000)(az:x.fN.length<=1000)(aV:y.fN.length<=1000):ba (wx x y) (λr=>lh r (vh x y)):=by
 unfold wx;refine .eq (H8 _ _) (.eq (H8 _ _) ((WV h1 ad).bind λbg atA=>.eq (H8 _ _) ((aiY (l:=[eP x.bF y.bF,eP y.gG x.gG,bg,eP x.eL y.eL]) (by simp)).bind λe he=>?_)));have atB:vh x y=if eP x.bF y.bF=0 then(if eP y.gG x.gG=0 then(if lc ql x.bP y.bP=0 then(if eP x.eL y.eL=0 then lc (λv w=>eP (gC v) (gC w)) x.fN y.fN else eP x.eL y.eL)else lc ql x.bP y.bP)else eP y.gG x.gG)else eP x.bF y.bF:=rfl;obtain⟨aI,bu⟩:=ao4 (v:=lc (λv w=>eP (gC v) (gC w)) x.fN y.fN) atA (ar8 (eP x.bF y.bF) (eP y.gG x.gG) bg (eP x.eL y.eL));rw[<-atB]at aI bu;rcases he with⟨q,rfl,bC⟩|⟨q,rfl,hq,bC⟩
 ·simp only[Sum.elim_inl];refine(ah1 az aV).bind λr aG=>.ret ?_;rw[bu bC];exact aG
 simp only[Sum.elim_inr];refine .ret ?_;rw[hq];exact aI bC
def Yq{x y:bl}(h1:x.bP.length<=1000)(ad:y.bP.length<=1000):Dy x y=some (fG x y):=by
 refine ba.get ?_;unfold Dy;refine .bV (P:=λr=>lh r (lc ql x.bP y.bP)) (λ_=>WV h1 ad) λr aG=>.eq I (.ret ?_);rw[kP,tf];simp only[gl,nm]at aG⊢;constructor
 ·rintro ⟨⟨ar,aS⟩,cE⟩;exact⟨ar,Q9 (λ_ _=>Zh) ((aG ⟨ar,aS⟩).zero.1 cE),aS⟩
 rintro ⟨ar,aS,cE⟩;exact⟨⟨ar,cE⟩,(aG ⟨ar,cE⟩).zero.2 (by rw[aS];exact(SI SJ).self _)⟩
def da(ls:Nat->aa aH):aa aH:=ls 0++ls 1++ls 2++ls 3
def L7{ls:Nat->aa aH}{i:aH}:i∈da ls↔∃k,k<4∧i∈ls k:=by
 unfold da;simp only[cF];constructor
 ·rintro (((h|h)|h)|h)
  ·exact⟨0,by decide,h⟩
  ·exact⟨1,by decide,h⟩
  ·exact⟨2,by decide,h⟩
  exact⟨3,by decide,h⟩
 rintro ⟨k,hk,h⟩;have:k=0∨k=1∨k=2∨k=3:=by omega
 rcases this with rfl|rfl|rfl|rfl
 ·exact .inl (.inl (.inl h))
 ·exact .inl (.inl (.inr h))
 ·exact .inl (.inr h)
 exact .inr h
def AG{ls ls':Nat->aa aH}(h:∀k,k<4->(ls k).Perm (ls' k)):(da ls).Perm (da ls'):=
 (((h 0 (by decide)).append (h 1 (by decide))).append (h 2 (by decide))).append (h 3 (by decide))
def rq{ls:Nat->aa aH}{k:Nat}(hk:k<4)(i:aH):(da ls++[i]).Perm (da (fg ls k (ls k++[i]))):=by
 unfold da;have c:∀a b d:aa aH,((a++b)++d).Perm (a++d++b):=λa b d=>by
  rw[iJ,iJ];exact OA _ nR
 have:k=0∨k=1∨k=2∨k=3:=by omega
 rcases this with rfl|rfl|rfl|rfl
 ·rw[jF,kl (by decide),kl (by decide),kl (by decide)];exact(c _ _ _).trans (((c _ _ _).trans ((c _ _ _).append_right _)).append_right _)
 ·rw[jF,kl (by decide),kl (by decide),kl (by decide),<-iJ (ls 0)];exact(c _ _ _).trans ((c _ _ _).append_right _)
 ·rw[jF,kl (by decide),kl (by decide),kl (by decide),<-iJ (ls 0++ls 1)];exact c _ _ _
 rw[jF,kl (by decide),kl (by decide),kl (by decide),iJ (ls 0++ls 1++ls 2)]
structure nC(s:aZ)(ls:Nat->List aH):Prop where
 gd:∀k,k<4->ic s k (ls k)
 len:∀k,k<4->(ls k).length<=12
structure j5(s:aZ)(y:cn)(ls:Nat->List aH)(next:Int):Prop where
 oS:y.gT=s
 num:y.h6=next
 wb:y.bE.Pairwise (λa b=>mC a b<=0)
 qd:y.bE.Perm (da ls)
def j5.len{s:aZ}{y:cn}{ls:Nat->aa aH}{next:Int}(h:j5 s y ls next)(al:nC s ls):y.bE.length<=48:=by
 rw[h.qd.length_eq];unfold da;have bC:=al.len 0 (by decide);have h1:=al.len 1 (by decide);have ad:=al.len 2 (by decide);have az:=al.len 3 (by decide);simp only[gJ];omega
def j5.mem{s:aZ}{y:cn}{ls:Nat->aa aH}{next:Int}(h:j5 s y ls next){i:aH}:i∈y.bE↔∃k,k<4∧i∈ls k:=by
 rw[h.qd.mem_iff,L7]
def j5.dp{s:aZ}{y:cn}{ls:Nat->aa aH}{next:Int}(h:j5 s y ls next)(al:nC s ls){i:aH}(aq:i∈y.bE):∃k,k<4∧i∈ls k∧kq s k i:=by
 obtain⟨k,hk,aq⟩:=h.mem.1 aq;exact⟨k,hk,aq,(al.gd k hk).ok.ok i aq⟩
def j5.small{s:aZ}(hs:b7 s){y:cn}{ls:Nat->aa aH}{next:Int}(h:j5 s y ls next)(al:nC s ls){i:aH}(aq:i∈y.bE):i.aX.bP.length<=1000∧i.aX.fN.length<=1000:=by
 obtain⟨k,hk,_,aq⟩:=h.dp al aq;exact aq.small hs hk
def j5.dw{s:aZ}(hs:b7 s){y:cn}{ls:Nat->aa aH}{next:Int}(h:j5 s y ls next)(al:nC s ls){k:Nat}(hk:k<4){e:bl}(he:fE s k e):(y.bE.any λi=>fG i.aX e)=(Go.Proofs.YtppgfphgdogpeaaGreat.dw (ls k) e).isSome:=by
 rw[kP,ot];constructor
 ·rintro ⟨i,aq,rR⟩;obtain⟨j,aB,gf,atC⟩:=h.dp al aq;have bD:=(tf.1 rR).1;rw[atC.dp.fF,he.fF]at bD;have:j=k:=by omega
  subst this;cases aW:Go.Proofs.YtppgfphgdogpeaaGreat.dw (ls j) e with
  |some _=>rfl
  |none=>rw[uh aW i gf]at rR;cases rR
 intro aW;obtain⟨i,aW⟩:=Cv.1 aW;obtain⟨aq,rR⟩:=o7 aW;exact⟨i,h.mem.2 ⟨k,hk,aq⟩,rR⟩
def xf(y:cn)(x:Int):aa aH:=y.bE.filter λi=>i.aX.bF==x
def Qf{y:cn}{x:Int}(hlen:y.bE.length<=1000):z6 y x=some (xf y x):=by
 refine ba.get ?_;unfold z6;refine .bind (P:=λe=>e.2.2=xf y x) (ba.jH y.bE.length (λj st=>st=((j:Int),(y.bE.take j).filter λi=>i.aX.bF==x)) (by omega) I (λj st aB hs=>?_) (λst hs=>?_)) λe he=>.ret he
 ·subst hs;have hle:=vj (λi:aH=>i.aX.bF==x) (y.bE.take j);rw[eZ]at hle;refine .cond (λ_=>.idx I aB (.bind (P:=λm=>m=(y.bE.take (j+1)).filter λi=>i.aX.bF==x) (.cond (λae=>.eq (gq _ _ (by simp only[List.length_cons,List.length_nil];omega) (by omega)) (.ret ?_)) λae=>.ret ?_) λm hm=>.ret ?_)) λae=>by simp at ae;omega
  ·rw[mM _ aB,mJ,show [ax y.bE j].filter (λi=>i.aX.bF==x)=[ax y.bE j]from by simp only[List.filter_cons,ae,lY,List.filter_nil]]
  ·rw[mM _ aB,mJ,show [ax y.bE j].filter (λi=>i.aX.bF==x)=[]from by rw[List.filter_cons,ae];rfl,ov]
  rw[hm,dA (by omega)]
 subst hs;refine .cond (λae=>by simp at ae) λ_=>.ret ?_;show List.filter _ (List.take _ _)=_;rw[iD];rfl
def Qg{s:aZ}{y:cn}{ls:Nat->aa aH}{next:Int}(h:j5 s y ls next)(al:nC s ls){k:Nat}(hk:k<4):(xf y ((k:Int)+1)).Perm (ls k):=by
 refine(h.qd.filter _).trans ?_;have key:∀j,j<4->(ls j).filter (λi=>i.aX.bF==(k:Int)+1)=if j=k then ls j else []:=λj aB=>by
  by_cases e:j=k
  ·subst e;rw[bh I];exact sQ.2 λc ae=>by rw[((al.gd j aB).ok.ok c ae).dp.fF];simp
  rw[bf e];exact Vi.2 λc ae=>by rw[((al.gd j aB).ok.ok c ae).dp.fF];simp;omega
 unfold da;rw[mJ,mJ,mJ,key 0 (by decide),key 1 (by decide),key 2 (by decide),key 3 (by decide)];have:k=0∨k=1∨k=2∨k=3:=by omega
 rcases this with rfl|rfl|rfl|rfl <;> simp
def alg{s:aZ}{y:cn}{ls:Nat->aa aH}{next:Int}(h:j5 s y ls next)(al:nC s ls){x:Int}(au:x<1∨4<x):xf y x=[]:=
 Vi.2 λc ae=>by
  obtain⟨k,hk,_,aq⟩:=h.dp al ae;rw[aq.dp.fF];simp;omega
def ajS{s:aZ}{y:cn}{ls:Nat->aa aH}{next:Int}(h:j5 s y ls next)(x:Int):(xf y x).Pairwise (λa b=>mC a b<=0):=h.wb.sublist KB
def ZR{a b:bl}:(a.bF<b.bF->vh a b<0)∧(b.bF<a.bF->0<vh a b):=by
 have h:vh a b=if eP a.bF b.bF=0 then _ else eP a.bF b.bF:=rfl;constructor
 ·intro ca;rw[h,bf (λbU=>by have:=k2.1 bU;omega)];exact ID.2 ca
 intro ca;rw[h,bf (λbU=>by have:=k2.1 bU;omega)];exact Ex.2 ca
def HO{s:aZ}(hs:b7 s){y:cn}(aT:y.gT=s){k:Nat}(hk:k<4){e:bl}(he:fE s k e):ub y e=some (k:Int):=by
 refine ba.get ?_;unfold ub;rw[aT,he.fF];exact(PW hs hk).bind λr aG=>.ret aG
def Zk{s:aZ}(hs:b7 s){y:cn}{ls:Nat->aa aH}{next:Int}(h:j5 s y ls next)(al:nC s ls){k:Nat}(hk:k<4){i:aH}(aq:kq s k i):
 ba (Dl y i) (λr=>r.gT=y.gT∧r.h6=y.h6∧r.bE.Pairwise (λa b=>mC a b<=0)∧r.bE.Perm (y.bE++[i])):=by
 have hlen:=h.len al
 unfold Dl
 refine .bind (P:=λe=> ∃n:Nat,n<=y.bE.length∧e.1=(n:Int)∧(∀a∈y.bE.take n,mC a i<=0)∧(∀aM:n<y.bE.length,0<mC (y.bE[n]) i))
  (ba.jH y.bE.length (λj st=>st=(j:Int)∧∀a∈y.bE.take j,mC a i<=0) (by omega) ⟨rfl,λa aY=>by simp at aY⟩ (λj st aB hs=>?_) (λst hs=>?_)) λe he=>?_
 ·obtain⟨rfl,b1⟩:=hs
  have hm:ax y.bE j∈y.bE:=by rw[dh _ aB];exact j0 _
  obtain⟨k',kJ,_,a6⟩:=h.dp al hm
  have q4:lh 1 1:=lh.refl 1
  refine .cond (λ_=>?_) λae=>by simp at ae;omega
  refine .idx I aB (.eq (HO hs h.oS kJ a6.dp) (.eq (HO hs h.oS hk aq.dp) ?_))
  refine .bV (P:=λc=>c=j) (λ_=>⟨j,kk aB,rfl⟩) λbu ad=>?_
  refine .bV (P:=λr=>lh r (mC (ax y.bE j) i)) (λae=>by
   rw[ad ae];exact alf (a6.small hs kJ).1 (aq.small hs hk).1 (a6.small hs kJ).2 (aq.small hs hk).2) λbg az=>?_
  have Be:((decide ((k':Int)>(k:Int)))||(((k':Int)==(k:Int))&&(decide (bg>0))))=decide (0<mC (ax y.bE j) i):=by
   obtain⟨t1,t2⟩:=ZR (a:=(ax y.bE j).aX) (b:=i.aX);rw[a6.dp.fF,aq.dp.fF]at t1 t2;have ni:mC (ax y.bE j) i=vh (ax y.bE j).aX i.aX:=rfl;rcases OX k' k with ca|heq|T9
   ·have:=t1 (by omega);rw[sT (show ¬(k':Int)>(k:Int) by omega),show((k':Int)==(k:Int))=false by simp;omega,sT (show ¬0<mC (ax y.bE j) i by rw[ni];omega)];rfl
   ·subst heq;have az:=az (by simp);rw[sT (show ¬(k':Int)>(k':Int) by omega),show((k':Int)==(k':Int))=true by simp,r9,qo];exact ra.2 az.2
   have:=t2 (by omega);rw[re (show(k':Int)>(k:Int) by omega),re (show 0<mC (ax y.bE j) i by rw[ni];exact this)];rfl
  rw[Be]
  refine .cond (λae=>.ret ⟨j,by omega,rfl,b1,λaM=>?_⟩) λae=>.ret ⟨dA (by omega),λa aY=>?_⟩
  ·rw[<-dh _ aM];exact xP ae
  rw[mM _ aB]at aY
  rcases cF.1 aY with aY|aY
  ·exact b1 a aY
  rw[hx.1 aY]
  have:=KI ae
  omega
 ·obtain⟨rfl,b1⟩:=hs
  exact .cond (λae=>by simp at ae) λ_=>.ret ⟨y.bE.length,iV _,rfl,b1,λaM=>absurd aM (Ac _)⟩
 obtain⟨ar,aS⟩:=e
 obtain⟨n,aM,rfl,hS,gE⟩:=he
 have iG:i=i:=rfl
 refine .eq (a:=y.bE.take n) (by unfold mR;rw[bh ⟨by omega,by omega,by omega⟩];simp) ?_
 refine .eq (gq _ _ (by simp;omega) (by omega)) (.eq (gq _ _ (by simp;omega) (by omega)) (.eq (a:=y.bE.drop n) (by unfold mR;rw[bh ⟨by omega,by omega,by omega⟩,pH (by simp)];rfl) (.eq (gq _ _ (by simp;omega) (by omega)) (.ret ?_))))
 simp only[List.nil_append]
 have xw:y.bE.Pairwise (λa b=>mC a b<=0):=h.wb
 refine⟨trivial,trivial,?_,?_⟩
 ·have n3:∀b∈y.bE.drop n,mC i b<=0:=λb hb=>by
   have p8:n<y.bE.length:=by
    rcases sW n y.bE.length with cW|cW
    ·exact cW
    rw[zG cW]at hb;cases hb
   have bC:=gE p8;have h1:mC i y.bE[n]<=0:=by have:=(Ei.neg i y.bE[n]).2 bC;omega
   have hd:y.bE.drop n=y.bE[n]::y.bE.drop (n+1):=q7 p8;rw[hd]at hb;rcases dP.1 hb with e|hb
   ·rw[e];exact h1
   have adS:=xw.sublist (List.drop_sublist n _);rw[hd]at adS;exact Ei.oi _ _ _ h1 ((kz.1 adS).1 b hb)
  have A1:=xw
  rw[<-gz n y.bE,wi]at A1
  rw[iJ,wi]
  refine⟨A1.1,?_,λa aY b hb=>?_⟩
  ·rw[List.singleton_append,kz]
   exact⟨n3,A1.2.1⟩
  rw[List.singleton_append]at hb
  rcases dP.1 hb with e|hb
  ·rw[e];exact hS a aY
  exact A1.2.2 a aY b hb
 rw[iJ]
 have ad:(y.bE.take n++(y.bE.drop n++[i]))=y.bE++[i]:=by rw[<-iJ,gz]
 rw[<-ad]
 exact OA _ nR
def ajT{s:aZ}{hp:aL Cell}{p:Nat}{ls:Nat->aa aH}{next:Int}(h:rI s hp p ls next){x:Int}(au:x<1∨4<x):cO (wu hp (some p) x) (λr=>r=([],hp)):=by
 unfold wu;refine .eq (L5 h au) ?_;unfold Ag;exact .bind (P:=λr=>r=([],hp)) (.cond (λ_=>.ret I) λae=>by cases ae) λr aG=>.ret (by rw[aG])
def I3(ls:Nat->aa aH):Nat->aa aH
 |0=>[]
 |k+1=>I3 ls k++ls k
def Yr{ls:Nat->aa aH}{i:aH}:∀{n},i∈I3 ls n->∃k,k<n∧i∈ls k
 |0,h=>by cases h
 | n+1,h=>by
   rcases cF.1 h with h|h
   ·obtain⟨k,hk,aq⟩:=Yr h;exact⟨k,by omega,aq⟩
   exact⟨n,by omega,h⟩
def Ys{ls:Nat->aa aH}(al:∀k,k<4->(ls k).length<=12):∀n,n<=4->(I3 ls n).length<=12*n
 |0,_=>iV 0
 | n+1,h=>by
   have:=Ys al n (by omega);have:=al n (by omega);unfold I3;rw[gJ];omega
def aml{s:aZ}(hs:b7 s){hp:aL Cell}{p:Nat}{ls:Nat->aa aH}{next:Int}{y:cn}(h:rI s hp p ls next)(aG:j5 s y ls next)(al:nC s ls):cO (G4 hp (some p)) (λr=>r=(y.bE,hp)):=by
 obtain⟨m,fv,own,h1,ad,az⟩:=h.cell;unfold G4;refine .cond (λae=>by cases ae) λ_=>.eq rfl (.eq h1 ?_);refine .bind (P:=λe=>e.2.2=(y.bE,hp)) (cO.loop 4 (λk st=> ∃out,st=((k:Int),out,hp)∧out.Perm (I3 ls k)∧out.Pairwise (λa b=>mC a b<=0)) (by decide) ⟨[],rfl,.refl _,.nil⟩ (λk st hk b1=>?_) (λst b1=>?_)) λe he=>.ret (by rw[he])
 ·obtain⟨out,rfl,bQ,Ut⟩:=b1;have Uu:=(hs.fF hk).1;have BX:=hs.lP;refine .cond (λ_=>?_) λae=>by simp only[nQ]at ae;omega
  refine .idx (k:=k) I (by show k<s.bL.length;omega) ?_;show cO (aj.bind (wu hp (some p) (ax s.bL k).cb) λao=>_) _;rw[Uu,show(k:Int)+1=((k+1:Nat):Int) by omega];refine .bind (Yp hs h (x:=k+1) (by omega) al.len) λao g=>?_;obtain⟨T,hp'⟩:=ao;obtain⟨ge,gt⟩:=g;simp only at ge gt;subst ge;unfold uz at gt;rw[bf (by omega)]at gt;have gt:T.Perm (ls k)∧T.Pairwise (λa b=>mC a b<=0):=gt;have Ce:=bQ.length_eq;have UN:=Ys al.len k (by omega);have aek:=gt.1.length_eq;have U0:=al.len k hk;refine .eq (gq _ _ (by simp only;omega) (by omega)) (.ret ⟨out++T,by rw[gN (by omega) (by omega)],bQ.append gt.1,?_⟩);rw[wi];refine⟨Ut,gt.2,λa aY b hb=>?_⟩;obtain⟨j,aB,aY⟩:=Yr (bQ.mem_iff.1 aY);have auk:=((al.gd j (by omega)).ok.ok a aY).dp.fF;have aul:=((al.gd k hk).ok.ok b (gt.1.mem_iff.1 hb)).dp.fF;have:=(ZR (a:=a.aX) (b:=b.aX)).1 (by rw[auk,aul];omega);show vh a.aX b.aX<=0;omega
 obtain⟨out,rfl,bQ,Ut⟩:=b1;have BX:=hs.lP;refine .cond (λae=>by simp only[e5]at ae;omega) λ_=>.ret ?_;have Tt:out.Perm y.bE:=bQ.trans aG.qd.symm;have:out=y.bE:=Qw Ei Tt Ut aG.wb λa aY b hb bU=>by
  obtain⟨j,aB,atD,atE⟩:=aG.dp al (Tt.mem_iff.1 aY);obtain⟨pE,pw,atF,atG⟩:=aG.dp al (Tt.mem_iff.1 hb);have tN:=abo (x:=a.aX) (y:=b.aX) bU;have bD:=(tf.1 tN).1;rw[atE.dp.fF,atG.dp.fF]at bD;have:j=pE:=by omega
  subst this;exact(al.gd j aB).uniq atD atF tN
 rw[this]
def Yt{s:aZ}{k:Nat}{l l':aa aH}(h:kr s k l)(p:l'.Perm l):kr s k l':=
 ⟨λi aq=>h.ok i (p.mem_iff.1 aq),(p.pairwise_iff λbW=>x8 bW).2 h.num,by rw[p.length_eq];exact h.len⟩
def aiZ{s:aZ}(hs:b7 s){hp:aL Cell}{p:Nat}{ls:Nat->aa aH}{next:Int}(h:rI s hp p ls next){k:Nat}(hk:k<4)(q:Vector aN 4):GH hp (some p) ((k:Int)+1) q=some (jh (j8 s k (ls k) q)):=by
 obtain⟨avJ,own,h1,ad⟩:=L4 h hk;refine ba.get ?_;unfold GH;exact .eq h1 (.eq (aiP hs hk ad q) (.ret I))
def ah2{s:aZ}(hs:b7 s){y:cn}{ls:Nat->aa aH}{next:Int}(aG:j5 s y ls next)(al:nC s ls){k:Nat}(hk:k<4)(q:Vector aN 4):Pg y ((k:Int)+1) q=some (jh (j8 s k (ls k) q)):=by
 have hlen:=aG.len al;have hp:=Qg aG al hk;have hS:=(al.gd k hk).ok;have ca:=Yt hS hp;refine ba.get ?_;unfold Pg;rw[aG.oS];refine .eq (Qf (by omega)) (.eq (ak8 hs hk ca q) (.ret ?_));show jh (j8 s k (xf y ((k:Int)+1)) q)=_;rw[ajR ca hS (λi=>hp.mem_iff)]
def wF{ls:Nat->aa aH}{k:Nat}{a b:aa aH}:fg (fg ls k a) k b=fg ls k b:=by
 funext j;unfold fg;split <;> rfl
def Mn{l:aa aH}{e:bl}(h:dw l e=none):db l e=l:=by
 unfold db;exact sQ.2 λc ae=>by rw[uh h c ae];rfl
def Qh{l:aa aH}{e:bl}{i:aH}(aq:fG i.aX e=true):db (l++[i]) e=db l e:=by
 unfold db;rw[mJ];simp[aq]
def yg{s:aZ}{k:Nat}{l:aa aH}(al:ic s k l){e:bl}{i:aH}(aq:i∈l)(hk:fG i.aX e=true):(db l e++[i]).Perm l:=by
 obtain⟨a,b,rfl⟩:=List.append_of_mem aq;have k6:=al.key;rw[wi]at k6;obtain⟨_,ad,az⟩:=k6;have aY:db a e=a:=sQ.2 λc ae=>by
  have aV:=az c ae i jC;have:fG c.aX e=false:=by
   rw[pJ];intro bc;rw[s6 bc (by rw[s9];exact hk)]at aV;cases aV
  rw[this];rfl
 have hb:db b e=b:=sQ.2 λc ae=>by
  have aV:=(kz.1 ad).1 c ae;have:fG c.aX e=false:=by
   rw[pJ];intro bc;rw[s6 hk (by rw[s9];exact bc)]at aV;cases aV
  rw[this];rfl
 have he:db (a++i::b) e=a++b:=by
  unfold db at aY hb⊢;rw[mJ,aY,vi (by rw[hk];simp),hb]
 rw[he,iJ];exact OA _ nR
def Yu{s:aZ}{k:Nat}{l:aa aH}(al:ic s k l){e:bl}{a i:aH}(aY:a∈l)(hk:fG a.aX e=true)(aq:fG i.aX e=true)(aM:i.b0=a.b0):qZ (db l e) i=true:=by
 have h1:dw (db l e) i.aX=none:=by
  cases aW:dw (db l e) i.aX with
  |none=>rfl
  | some c=>
    obtain⟨ae,JJ⟩:=o7 aW
    have:=(nW.1 ae).2
    rw[s6 JJ aq]at this;cases this
 have ad:j7 (db l e) i.b0=false:=by
  rw[pJ];intro bW;unfold j7 at bW;rw[ot]at bW;obtain⟨c,ae,aS⟩:=bW;obtain⟨g1,g2⟩:=nW.1 ae;have:c=a:=al.ok.uniq g1 aY (by rw[<-aM];simpa using aS);rw[this,hk]at g2;cases g2
 unfold qZ;rw[h1,ad];rfl
def Yv{l:aa aH}{e:bl}{i:aH}(aq:fG i.aX e=true){d:bl}(hd:fG d e=true):dw (db l e++[i]) d=some i:=by
 unfold dw;rw[F7];have h1:(db l e).find? (λc=>fG c.aX d)=none:=by
  rw[xO];intro c ae;have:=(nW.1 ae).2;intro ad;rw[s6 ad hd]at this;cases this
 have ad:fG i.aX d=true:=s6 aq (by rw[s9];exact hd);rw[h1];simp[ad]
def ai0{l:aa aH}{e:bl}{i:aH}(aq:fG i.aX e=true){d:bl}(hd:fG d e=true):db (db l e++[i]) d=db l e:=by
 rw[Qh (s6 aq (by rw[s9];exact hd))];exact sQ.2 λc ae=>by
  have:=(nW.1 ae).2;have az:fG c.aX d=false:=by
   rw[pJ];intro ad;rw[s6 ad hd]at this;cases this
  rw[az];rfl
structure r4(X:Nat->Prop)(hp hp':aL Cell):Prop where
 at_:∀q,X q->pat hp' q=pat hp q
 keys:∀q,q∈eb hp->q∈eb hp'
def r4.trans{X:Nat->Prop}{a b c:aL Cell}(h:r4 X a b)(k:r4 X b c):r4 X a c:=⟨λq hq=>(k.at_ q hq).trans (h.at_ q hq),λq hq=>k.keys q (h.keys q hq)⟩
structure kt(X:Nat->Prop)(s:aZ)(hp:aL Cell)(p:Nat)(ls:Nat->List aH)(next:Int):Prop where
 cell:∃m fv own,jT hp p=some ⟨s,⟨some m⟩,next⟩∧mU hp m=some fv∧tg s hp p m fv 4 ls own∧(¬X p∧¬X m)∧∀k,k<4->∀q,own k q->¬X q
 pA:∀q,X q->q∈eb hp
def kt.ok{X:Nat->Prop}{s:aZ}{hp:aL Cell}{p:Nat}{ls:Nat->aa aH}{next:Int}(h:kt X s hp p ls next):rI s hp p ls next:=by
 obtain⟨m,fv,own,h1,ad,az,_⟩:=h.cell;exact⟨m,fv,own,h1,ad,az⟩
def kt.off{X:Nat->Prop}{s:aZ}{hp hp':aL Cell}{p:Nat}{ls:Nat->aa aH}{next:Int}(h:kt X s hp p ls next)(ne:∀q,¬X q->pat hp' q=pat hp q)(hk:∀q,q∈eb hp->q∈eb hp'):kt X s hp' p ls next:=by
 obtain⟨m,fv,own,h1,ad,az,⟨aV,bc⟩,bq⟩:=h.cell;exact⟨⟨m,fv,own,by rw[HC (ne p aV)];exact h1,by rw[HD (ne m bc)];exact ad,az.congr hk λk hk x au=>ne x (bq k hk x au),⟨aV,bc⟩,bq⟩,
  λx au=>hk x (h.pA x au)⟩
def kt.change{X:Nat->Prop}{s:aZ}{hp hp':aL Cell}{p:Nat}{ls:Nat->aa aH}{next:Int}{m:Nat}{fv:aa (Int×Ref)}{own:Nat->Nat->Prop}(aq:∀q,X q->q∈eb hp)(h1:jT hp p=some ⟨s,⟨some m⟩,next⟩)(ad:mU hp m=some fv)(az:tg s hp p m fv 4 ls own)
 (aV: ¬X p∧¬X m) (bc:∀k,k<4->∀q,own k q->¬X q) {k:Nat} (hk:k<4) {q:Nat} (hq:dG fv ((k:Int)+1)=some (some q)) {l:aa aH} {own':Nat->Prop}
 (au:lQ s k hp' q l own') (a6:∀x,own' x->own k x∨x∉eb hp) (rS:fr hp hp' (own k)):kt X s hp' p (fg ls k l) next∧r4 X hp hp':=by
 obtain⟨g1,g2,g3⟩:=tg.change h1 ad az hk hq au a6 rS
 refine⟨⟨⟨m,fv,_,g1,g2,g3,aV,λj aB x iE oh=>?_⟩,λx iE=>rS.keys x (aq x iE)⟩,⟨λx iE=>rS.rest x (aq x iE) λh=>bc k hk x h iE,rS.keys⟩⟩
 by_cases e:j=k
 ·rw[bh e]at iE
  rcases a6 x iE with h|h
  ·exact bc k hk x h oh
  exact h (aq x oh)
 rw[bf e]at iE;exact bc j aB x iE oh
def kt.next'{X:Nat->Prop}{s:aZ}{hp:aL Cell}{p:Nat}{ls:Nat->aa aH}{next:Int}(h:kt X s hp p ls next)(n:Int){c:lI}(ae:jT hp p=some c):kt X s (cJ hp p (Cell.rH {c with oC:=n})) p ls n∧r4 X hp (cJ hp p (Cell.rH {c with oC:=n})):=by
 obtain⟨m,fv,own,h1,ad,az,aV,bc⟩:=h.cell;rw[h1]at ae;cases ae;have zb:=wQ h1;have nI:p≠m:=λe=>by rw[e,ym ad]at zb;cases zb
 exact⟨⟨⟨m,fv,own,ajN zb,by rw[HD (nr nI)];exact ad,az.congr (λq hq=>by rw[sf];exact hq) λk hk q hq=>nr λe=>(az.out k hk).1 (e▸hq),aV,bc⟩,λx au=>by rw[sf];exact h.pA x au⟩,
  ⟨λx au=>nr λe=>aV.1 (e▸au),λx au=>by rw[sf];exact au⟩⟩
def Qx{s:aZ}{hp:aL Cell}{p m:Nat}{fv:aa (Int×Ref)}{next:Int}(h1:jT hp p=some ⟨s,⟨some m⟩,next⟩)(ad:mU hp m=some fv){x:Int}{q:Nat}(aV:dG fv x=some (some q)):rf hp (some p) x=some (some q):=by
 refine ba.get ?_;unfold rf;refine .cond (λae=>by cases ae) λ_=>.eq rfl (.eq h1 (.eq rfl (.eq ad (.eq rfl (.ret ?_)))));rw[aV];rfl
def ajU{X:Nat->Prop}{s:aZ}(hs:b7 s){hp:aL Cell}{p:Nat}{ls:Nat->aa aH}{next:Int}(h:kt X s hp p ls next){k:Nat}(hk:k<4){e:bl}(he:fE s k e)(gI:Int)(EN:∀i∈ls k,i.b0<next)(hlen:(ls k).length<900)(aM:0<=next∧next<1000000):
 cO (C0 hp (some p) e gI) (λr=>
  if (dw (ls k) e).isSome=true then r=(0,17,hp)else if (ax s.bL k).ij<=((ls k).length:Int)then r=(0,18,hp)
  else r.1=next∧r.2.1=0∧kt X s r.2.2 p (fg ls k (ls k++[{aX:=e,b0:=next,dJ:=gI}])) (next+1)∧r4 X hp r.2.2):=by
 obtain⟨m,fv,own,h1,ad,az,oh,qh⟩:=h.cell
 obtain⟨q,aV,bc⟩:=az.has k hk
 unfold C0
 rw[he.fF]
 refine .eq (Qx h1 ad aV) (.cond (λae=>by cases ae) λ_=>.eq (Q5 hs hk bc he) ?_)
 rw[Zg]
 refine .cond (λae=>.ret (by rw[bh ae])) λae=>.eq (amf bc) (.eq (alc hs h.ok hk) (.cond (λee=>.ret ?_) λee=>?_))
 ·rw[bf (by rw[ae];simp),bh (by simpa using ee)]
 have ee: ¬(ax s.bL k).ij<=((ls k).length:Int):=by simpa using ee
 have aW:dw (ls k) e=none:=by
  cases aW:dw (ls k) e with
  |none=>rfl
  |some _=>rw[aW]at ae;cases ae
 have aq:kq s k ({aX:=e,b0:=next,dJ:=gI}:aH):=⟨he⟩
 have jz:j7 (ls k) next=false:=by
  unfold j7;rw[wk];intro c ob;have:=EN c ob;simp;omega
 have bD:qZ (ls k) ({aX:=e,b0:=next,dJ:=gI}:aH)=true:=by
  unfold qZ;simp only[aW,jz];rfl
 refine .eq I (.eq h1 (.eq I (.bind (RT hs hk bc aq hlen) λb3 bq=>?_)))
 obtain⟨_,g2,g3⟩:=bq
 obtain⟨b1,oR⟩:=kt.change h.pA h1 ad az oh qh hk aV g2 (λx au=>au.imp id λh=>h.1) g3
 unfold added at b1
 rw[bh bD]at b1
 obtain⟨sM,avg,own',bX,_⟩:=b1.cell
 refine .eq bX (.eq I (.ret ?_))
 rw[bf (by rw[ae];simp),bf ee]
 have hw:bm (next+1)=next+1:=gN (by omega) (by omega)
 have:=b1.next' (next+1) bX
 simp only[hw]
 exact⟨trivial,trivial,this.1,oR.trans this.2⟩
def L8{X:Nat->Prop}{s:aZ}(hs:b7 s){hp:aL Cell}{p:Nat}{ls:Nat->aa aH}{next:Int}(h:kt X s hp p ls next){k:Nat}(hk:k<4){e:bl}(he:fE s k e):
 cO (vl hp (some p) e) (λr=>(match dw (ls k) e with |some i=>(r.1,r.2.1)=(i,0)|none=>(r.1,r.2.1)=(default,16))∧kt X s r.2.2 p (fg ls k (db (ls k) e)) next∧r4 X hp r.2.2):=by
 obtain⟨m,fv,own,h1,ad,az,oh,qh⟩:=h.cell
 obtain⟨q,aV,bc⟩:=az.has k hk
 unfold vl
 rw[he.fF]
 refine .eq (Qx h1 ad aV) (.cond (λae=>by cases ae) λ_=>.bind (aiV hs hk bc he) λaE bq=>?_)
 obtain⟨g1,g2,g3⟩:=bq
 have b1:=kt.change h.pA h1 ad az oh qh hk aV g2 (λx au=>.inl au) g3
 have ar:aE.1=(jh (dw (ls k) e)).1:=eI Prod.fst g1
 have aS:aE.2.1=(jh (dw (ls k) e)).2:=eI Prod.snd g1
 cases aW:dw (ls k) e with
 | none=>
   rw[aW]at ar aS
   refine .cond (λ_=>.ret ⟨rfl,b1⟩) λae=>by rw[aS]at ae;cases ae
 | some i=>
   rw[aW]at ar aS
   refine .cond (λae=>by rw[aS]at ae;cases ae) λ_=>.ret ⟨?_,b1⟩
   rw[ar];rfl
def ajV{X:Nat->Prop}{s:aZ}(hs:b7 s){hp:aL Cell}{p:Nat}{ls:Nat->aa aH}{next:Int}(h:kt X s hp p ls next){k:Nat}(hk:k<4){e:bl}(he:fE s k e)(hlen:(ls k).length<900):
 cO (C2 hp (some p) e) (λr=>match dw (ls k) e with
  |some i=>r.1=i∧r.2.1=0∧kt X s r.2.2 p (fg ls k (db (ls k) e++[{aX:=e,b0:=i.b0,dJ:=i.dJ}])) next∧r4 X hp r.2.2
  |none=>r.2.1=16∧kt X s r.2.2 p (fg ls k (db (ls k) e)) next∧r4 X hp r.2.2):=by
 have iG:=h.ok.gd hk
 unfold C2
 refine .bind (L8 hs h hk he) λao h1=>?_
 obtain⟨a,err,bQ⟩:=ao
 obtain⟨g1,g2,gs⟩:=h1
 simp only at g1 g2 gs⊢
 cases aW:dw (ls k) e with
 | none=>
   rw[aW]at g1
   have aS:err=16:=eI Prod.snd g1
   subst aS
   exact .cond (λ_=>.ret ⟨rfl,g2,gs⟩) λae=>by simp at ae
 | some i=>
   rw[aW]at g1
   have ar:a=i:=eI Prod.fst g1
   have aS:err=0:=eI Prod.snd g1
   subst ar aS
   refine .cond (λae=>by simp at ae) λ_=>?_
   obtain⟨aY,atH⟩:=o7 aW
   obtain⟨m,fv,own,h1,ad,az,oh,qh⟩:=g2.cell
   obtain⟨q,aV,bc⟩:=az.has k hk
   rw[jF]at bc
   have aq:kq s k ({aX:=e,b0:=a.b0,dJ:=a.dJ}:aH):=⟨he⟩
   have bD:qZ (db (ls k) e) ({aX:=e,b0:=a.b0,dJ:=a.dJ}:aH)=true:=Yu iG aY atH (oB _) I
   refine .eq I (.eq h1 (.eq I (.eq ad (.eq (a:=some q) (by rw[he.fF,aV];rfl) (.eq I (.bind (RT hs hk bc aq (by have:=L6 (ls k) e;omega)) λaE bq=>.ret ?_))))))
   obtain⟨_,bu,cB⟩:=bq
   obtain⟨b1,oR⟩:=kt.change g2.pA h1 ad az oh qh hk aV bu (λx au=>au.imp id λh=>h.1) cB
   unfold added at b1
   rw[bh bD,wF]at b1
   exact⟨rfl,rfl,b1,gs.trans oR⟩
def ai1{X:Nat->Prop}{s:aZ}(hs:b7 s){hp:aL Cell}{p:Nat}{ls:Nat->aa aH}{next:Int}(h:kt X s hp p ls next){k:Nat}(hk:k<4){i:aH}(aq:kq s k i)(hlen:(ls k).length<900):
 cO (Gr hp (some p) i) (λr=>r.1=qZ (ls k) i∧kt X s r.2 p (fg ls k (added (ls k) i)) next∧r4 X hp r.2):=by
 obtain⟨m,fv,own,h1,ad,az,oh,qh⟩:=h.cell
 obtain⟨q,aV,bc⟩:=az.has k hk
 unfold Gr
 rw[aq.dp.fF]
 refine .eq (Qx h1 ad aV) (.bind (RT hs hk bc aq hlen) λbg bq=>.ret ⟨bq.1,?_⟩)
 exact kt.change h.pA h1 ad az oh qh hk aV bq.2.1 (λx au=>au.imp id λh=>h.1) bq.2.2
def Xc{X:Nat->Prop}{s:aZ}{hp:aL Cell}{p:Nat}{ls:Nat->aa aH}{next:Int}(h:kt X s hp p ls next)(n:Int):ba (CK hp (some p) n) (λr=>kt X s r p ls (max 1 n)∧r4 X hp r):=by
 obtain⟨m,fv,own,h1,_⟩:=h.cell;unfold CK;exact .bind (P:=λm=>kt X s m p ls (max 1 n)∧r4 X hp m) (.cond (λ_=>.eq I (.eq h1 (.eq I (.ret (h.next' _ h1))))) λae=>by cases ae) λm hm=>.ret hm
def jX{α:Type}(m:aD α)(P:α->Prop):Prop:=∀r,m=some r->P r
def jX.bind{α β:Type}{m:aD α}{f:α->aD β}{P:α->Prop}{Q:β->Prop}(h:jX m P)(k:∀r,P r->jX (f r) Q):jX (m.bind f) Q:=λr e=>by
 cases hm:m with
 |none=>rw[hm]at e;cases e
 |some a=>rw[hm]at e;exact k a (h a hm) r e
def jX.skip{α β:Type}{m:aD α}{f:α->aD β}{Q:β->Prop}(k:∀r,jX (f r) Q):jX (m.bind f) Q:=.bind (P:=λ_=>True) (λ_ _=>trivial) λr _=>k r
def jX.ret{α:Type}{a:α}{P:α->Prop}(h:P a):jX (some a) P:=λr e=>by cases e;exact h
def jX.eq{α β:Type}{a:α}{f:α->aD β}{Q:β->Prop}(k:jX (f a) Q):jX ((some a).bind f) Q:=k
def jX.cond{α:Type}{b:Bool}{m n:aD α}{P:α->Prop}(h1:b=true->jX m P)(ad:b=false->jX n P):jX (cond b m n) P:=by
 cases b
 ·exact ad I
 exact h1 I
def jX.bV{α:Type}[Inhabited α]{b w:Bool}{m:aD α}{P:α->Prop}(h:jX m P):jX (bV b w m) (λr=>b=w->P r):=λr e hb=>by
 unfold Gv.bV at e;rw[bh hb]at e;exact h r e
def jX.idx{n:Nat}{i:Int}:jX (idx n i) (λk=>(k:Int)=i∧k<n):=λk e=>by
 obtain⟨h1,ad⟩:=cK e;exact⟨by omega,h1⟩
def jX.loop{σ ε:Type}{body:σ->aD (σ⊕ε)}{P:ε->Prop}{n:Nat}{b9:σ}(gh:σ->Prop)(bC:gh b9)(hb:∀s,gh s->jX (body s) (λx=>match x with | .inl cq=>gh cq| .inr e=>P e)):jX (c8 n body b9) P:=by
 induction n generalizing b9 with
 |zero=>intro r e;cases e
 | succ n cj=>
   intro r e
   simp only[c8]at e
   cases hm:body b9 with
   |none=>rw[hm]at e;cases e
   | some x=>
     rw[hm]at e
     have:=hb b9 bC x hm
     cases x with
     |inl cq=>exact cj this r e
     |inr y=>cases e;exact this
def ba.par{α:Type}{m:aD α}{P Q:α->Prop}(h:ba m P)(k:jX m Q):ba m (λr=>P r∧Q r):=by
 obtain⟨r,h1,ad⟩:=h;exact⟨r,h1,ad,k r h1⟩
def Mo{α:Type}{b:Nat}{xs ys:aa α}:jX (eM b xs ys) (λr=>r=xs++ys):=λr e=>by
 unfold eM at e;split at e
 ·cases e;rfl
 cases e
def Yw(c:dx)(n:Int)(aM:0<n):jX (fU c n) (λr=>0<=r.1∧r.1<n):=by
 unfold fU;refine .skip λ_=>.cond (λ_=>.ret ⟨x2 0,aM⟩) λ_=>.bind .idx λk _=>.bind (P:=λy=>0<=y∧y<n) (λy e=>?_) λy aT=>.ret aT;unfold so at e;split at e
 ·cases e
 cases e;exact⟨O9 _ (by omega),FW _ aM⟩
def I4(s:aZ)(r:fD):Prop:=
 r.nq=1∧r.rr=0∧((r.bF=2∧r.eL=4∧r.wK=0)∨(r.bF=3∧r.eL=0∧r.e6=2∧(ax s.bL 2).cr.length=3)∨
   (r.bF=4∧r.eL=0∧r.e6=1∧(ax s.bL 3).cr.length=3)∨(r.bF=4∧r.eL=5∧r.wK=0))
structure jV(s:aZ):Prop where
 refs:∀r∈s.di,I4 s r
 pn:s.di.length<=4
 quo:∀x∈s.e0,0<=x.kh
 all:(ax s.e0 0).kh=40
def ai2(c:dx)(dB:aa cy):jX (z7 c dB) (λr=>(∀x∈r.1,0<=x.kh)∧(ax r.1 0).kh=40):=by
 unfold z7;refine .skip λ_=>.bind (Yw _ _ (by omega)) λaE ad=>.skip λbg=>.bind (Yw _ _ (by omega)) λbt aV=>?_;refine .bind (P:=λe=>0<=e.2.2.1.kh∧0<=e.2.2.2.2.2.1.kh∧e.2.2.2.2.2.2.2.1.kh=40) (.loop (λst=>0<=st.2.1.kh∧0<=st.2.2.2.2.1.kh∧st.2.2.2.2.2.2.1.kh=40) ⟨aV.1,?_,rfl⟩ λst b1=>?_) λe he=>.eq (.eq (.ret ⟨λx au=>?_,he.2.2⟩))
 ·simp only;rw[gN (by omega) (by omega)];omega
 ·refine .cond (λ_=>.skip λaI=>.skip λb3=>.skip λcd=>.skip λaS=>.eq (.skip λb4=>.skip λdH=>?_)) λ_=>.ret b1;refine .bind (P:=λm=>0<=m.2.1.kh) (.cond (λ_=>.skip λ_=>.skip λ_=>.eq (.skip λ_=>.ret b1.2.1)) λ_=>.ret b1.2.1) λm1 h1=>.skip λfH=>?_;exact .bind (P:=λm=>0<=m.2.1.kh) (.cond (λ_=>.skip λ_=>.skip λ_=>.eq (.skip λ_=>.ret b1.1)) λ_=>.ret b1.1) λm2 ad=>.ret ⟨ad,h1,b1.2.2⟩
 simp only[dP,vk,vo]at au;rcases au with rfl|rfl|rfl
 ·show 0<=e.2.2.2.2.2.2.2.1.kh;rw[he.2.2];decide
 ·exact he.2.1
 exact he.1
def Xd(c:dx):jX (xT c) (λr=>jV r.1):=by
 unfold xT;refine .skip λao=>.skip λaE=>.eq (.eq (.eq (.eq (.eq (.eq (.eq (.eq (.eq (.eq (.eq (.eq (.skip λbg=>.skip λbt=>.skip λb3=>.eq (.eq (.bind (ai2 _ _) λcd bq=>.eq (.skip λcA=>.skip λm1=>.skip λb4=>?_)))))))))))))));refine .bind (P:=λm2=>m2.1.bL=b3.1∧m2.1.e0=cd.1∧(m2.2=[]∨m2.2=[({(default:fD)with bF:=2,eL:=4,nq:=1}:fD)])) (.cond (λ_=>.eq (.bind Mo λy aT=>.ret ⟨rfl,rfl,.inr aT⟩)) λ_=>.ret ⟨rfl,rfl,.inl I⟩) λm2 ad=>?_;obtain⟨ar,aS,ad⟩:=ad;refine .skip λdH=>.bind (.bV .idx) λaI cQ=>?_;refine .bind (P:=λm3=>m3.1.bL=b3.1∧m3.1.e0=cd.1∧m3.2.length<=2∧∀s:aZ,s.bL=b3.1->∀r∈m3.2,I4 s r) (.cond (λae=>.eq (.bind Mo λy aT=>.ret ⟨ar,aS,?_,?_⟩)) λ_=>.ret ⟨ar,aS,?_,?_⟩) λm3 az=>?_
 ·subst aT;rcases ad with h|h <;> simp[h]
 ·subst aT;intro s hs r aG;simp only[gl,nm]at ae;have hk:=cQ ae.1;have hk:aI=2:=by omega
  subst hk;rw[ar,<-hs]at ae;simp only[cF,hx]at aG;rcases aG with aG|rfl
  ·rcases ad with h|h
   ·rw[h]at aG;cases aG
   rw[h,hx]at aG;subst aG;exact⟨rfl,rfl,.inl ⟨rfl,rfl,rfl⟩⟩
  exact⟨rfl,rfl,.inr (.inl ⟨rfl,rfl,rfl,by omega⟩)⟩
 ·rcases ad with h|h <;> simp[h]
 ·intro s hs r aG;rcases ad with h|h
  ·rw[h]at aG;cases aG
  rw[h,hx]at aG;subst aG;exact⟨rfl,rfl,.inl ⟨rfl,rfl,rfl⟩⟩
 obtain⟨cE,eK,aek,az⟩:=az;refine .skip λfH=>.bind (.bV .idx) λbu c0=>?_;refine .bind (P:=λm4=>m4.1.bL=b3.1∧m4.1.e0=cd.1∧m4.2.length<=4∧∀s:aZ,s.bL=b3.1->∀r∈m4.2,I4 s r) (.cond (λae=>.eq (.eq (.bind Mo λy aT=>.ret ⟨cE,eK,?_,?_⟩))) λ_=>.ret ⟨cE,eK,by simp only;omega,az⟩) λm4 aV=>?_
 ·subst aT;simp only[gJ,List.length_cons,List.length_nil];omega
 ·subst aT;intro s hs r aG;simp only[gl,nm]at ae;have hk:=c0 ae.1;have hk:bu=3:=by omega
  subst hk;rw[cE,<-hs]at ae;simp only[cF,dP,hx,vk,vo]at aG;rcases aG with aG|rfl|rfl
  ·exact az s hs r aG
  ·exact⟨rfl,rfl,.inr (.inr (.inl ⟨rfl,rfl,rfl,by omega⟩))⟩
  exact⟨rfl,rfl,.inr (.inr (.inr ⟨rfl,rfl,rfl⟩))⟩
 obtain⟨jY,ma,U0,aV⟩:=aV;exact .eq (.ret ⟨λr aG=>aV _ jY r aG,U0,λx au=>by simp only[ma]at au;exact bq.1 x au,by simp only[ma];exact bq.2⟩)
def n2(e:bl):Prop:=e.eL=4∨e.eL=5->1<=e.fN.length
def ag5{s:aZ}(h:b7 s){x:Int}:jX (Dp s x) (λa=>x=4∨x=5->1<=a.mO.length):=λr e au=>by
 have key:∀j:Nat,j<6->x=(j:Int)+1->r.mO.map (·.jG)=ax xc j:=λj aB aS=>by
  subst aS;obtain⟨lX,h1,ad⟩:=WQ h aB;rw[e]at h1;cases h1;rw[ad];exact(h.act aB).2
 rcases au with au|au
 ·have:=eI List.length (key 3 (by omega) (by omega));rw[kQ]at this;rw[this];decide
 have:=eI List.length (key 4 (by omega) (by omega));rw[kQ]at this;rw[this];decide
def ai3(c:dx){s:aZ}(h:b7 s)(x:Int):jX (z8 c s x) (λr=>n2 r.1):=by
 unfold z8;refine .skip λao=>.skip λaI=>.skip λar=>.skip λb3=>.skip λcB=>.eq (.bind (ag5 h) λcd bq=>?_);refine .bind (P:=λe=>e.2.2.1.eL=ax (ax s.bL aI).dY cB∧(1<=cd.mO.length->1<=e.2.2.2.1.length)) (.loop (λst=>st.2.1.eL=ax (ax s.bL aI).dY cB∧(st.1=0∨1<=st.2.2.1.length)) ⟨rfl,.inl I⟩ λst b1=>?_) λe he=>.eq (.ret λaY=>?_)
 ·refine .cond (λ_=>.skip λe2=>.skip λcA=>.eq (.skip λb4=>.bind Mo λdH dD=>.ret ⟨b1.1,.inr ?_⟩)) λae=>.ret ⟨b1.1,λal=>?_⟩
  ·subst dD;simp
  rcases b1.2 with bC|bC
  ·have:=KI ae;rw[bC]at this;omega
  exact bC
 simp only[he.1]at aY;exact he.2 (bq aY)
def rx(x:Int):aD Nat:=if x=1 then some 0 else if x=2 then some 1 else if x=7 then some 2 else none
def b7.la{s:aZ}(h:b7 s){j:Nat}(aB:j<3):(ax s.e0 j).cb=ax [1,2,7] j:=by
 have al:=h.pn;have:=h.Ew;have e:(s.e0.map (·.cb))[j]? =([1,2,7]:aa Int)[j]? :=by rw[this]
 rw[List.getElem?_map,o2 (show j<s.e0.length by omega),o2 (show j<([1,2,7]:aa Int).length from aB)]at e;rw[dh _ (show j<s.e0.length by omega),dh _ (show j<([1,2,7]:aa Int).length from aB)];exact CS e
def A6{x:Int}{j:Nat}(aB:j<3):ax [(1:Int),2,7] j=x↔rx x=some j:=by
 have h:j=0∨j=1∨j=2:=by omega
 unfold rx;rcases h with rfl|rfl|rfl
 ·show(1:Int)=x↔_;by_cases h1:x=1
  ·simp[h1]
  rw[bf h1];simp only[show ¬(1:Int)=x from λe=>h1 e.symm,false_iff];split
  ·simp
  split <;> simp
 ·show(2:Int)=x↔_;by_cases h1:x=2
  ·simp[h1]
  simp only[show ¬(2:Int)=x from λe=>h1 e.symm,false_iff,bf h1];split
  ·simp
  split <;> simp
 show(7:Int)=x↔_;by_cases h1:x=7
 ·simp[h1]
 simp only[show ¬(7:Int)=x from λe=>h1 e.symm,false_iff,bf h1];split
 ·simp
 split <;> simp
def Bh{x:Int}{j:Nat}(h:rx x=some j):j<3:=by
 unfold rx at h;split at h
 ·cases h;omega
 split at h
 ·cases h;omega
 split at h <;> cases h;omega
structure q0(s:aZ)(hp:aL Cell)(p:Nat)(N:Int->Int):Prop where
 cell:∃iT,oE hp p=some ⟨s.e0,iT⟩∧∀j,j<3->bG iT j=N (ax [1,2,7] j)
def ahs{hp hp':aL Cell}{p:Nat}(h:pat hp' p=pat hp p):oE hp' p=oE hp p:=by unfold oE;rw[h]
def ajW{hp:aL Cell}{p:Nat}{k:Cell}{x:jP}(h:pat hp p=some k):oE (cJ hp p (.tr x)) p=some x:=by unfold oE;rw[te h]
def q0.congr{s:aZ}{hp hp':aL Cell}{p:Nat}{N:Int->Int}(h:q0 s hp p N)(e:pat hp' p=pat hp p):q0 s hp' p N:=by
 obtain⟨iT,h1,ad⟩:=h.cell;exact⟨iT,by rw[ahs e];exact h1,ad⟩
def o1(x:Int):Int:=match rx x with |some j=>(j:Int)|none=> -1
def ZS{s:aZ}(hs:b7 s){hp:aL Cell}{p:Nat}{N:Int->Int}(h:q0 s hp p N)(x:Int):CT hp (some p) x=some (o1 x):=by
 obtain⟨iT,h1,ad⟩:=h.cell;have al:=hs.pn;refine ba.get ?_;unfold CT;refine .cond (λae=>by cases ae) λ_=>.eq rfl (.eq h1 (.bind (P:=λe=>e.1=o1 x) (ba.jH 3 (λi st=>st=(i:Int)∧∀j,j<i->rx x≠some j) (by omega) ⟨rfl,λj aB=>by omega⟩ (λi st aq b1=>?_) (λst b1=>?_)) λe he=>.ret he))
 ·obtain⟨rfl,aM⟩:=b1;refine ba.cond (λ_=>.idx I (by simp only;omega) (.cond (λae=>?_) λae=>?_)) λae=>by simp only[al]at ae;simp at ae;omega
  ·simp only[nm,hs.la aq]at ae;have:=(A6 aq).1 ae;exact .ret (by unfold o1;rw[this])
  refine .ret ⟨dA (by omega),λj aB e=>?_⟩;by_cases jK:j=i
  ·subst jK;rw[<-A6 aq,<-hs.la aq]at e;rw[e]at ae;simp at ae
  exact aM j (by omega) e
 obtain⟨rfl,aM⟩:=b1;refine ba.cond (λae=>by simp only[al]at ae;simp at ae) λ_=>.ret ?_;show(-1:Int)=o1 x;unfold o1;cases e:rx x with
 |none=>rfl
 |some j=>exact absurd e (aM j (Bh e))
def bump(N:Int->Int)(x:Int)(d:Int):Int->Int:=λy=>if y=x then N x+d else N y
def q0.bump{s:aZ}{hp:aL Cell}{p:Nat}{N:Int->Int}{iT:Vector Int 6}(h1:oE hp p=some ⟨s.e0,iT⟩)(ad:∀j,j<3->bG iT j=N (ax [1,2,7] j)){x:Int}{j:Nat}(aB:rx x=some j)(d:Int):
 q0 s (cJ hp p (Cell.tr ⟨s.e0,dK iT j (N x+d)⟩)) p (Go.Proofs.YtppgfphgdogpeaaGreat.bump N x d):=by
 refine⟨_,ajW (vx h1),λi aq=>?_⟩
 have avh:=Bh aB
 unfold Go.Proofs.YtppgfphgdogpeaaGreat.bump
 by_cases e:i=j
 ·subst e
  rw[jE _ _ (by omega),bh I,bh ((A6 aq).2 aB)]
 rw[jE _ _ (by omega),bf e,bf (λaS=>e (by have:=(A6 aq).1 aS;rw[aB]at this;cases this;rfl)),ad i aq]
def room(s:aZ)(N:Int->Int)(x:Int):Bool:=match rx x with |some j=>decide (N x<(ax s.e0 j).kh)|none=>false
def abp{s:aZ}(hs:b7 s){hp:aL Cell}{p:Nat}{N:Int->Int}(h:q0 s hp p N)(jz:∀x,0<=N x∧N x<100000)(x:Int):
 ba (C8 hp (some p) x) (λr=>if room s N x=true then r.1=true∧(∃c,r.2=cJ hp p c)∧q0 s r.2 p (bump N x 1)else r=(false,hp)):=by
 obtain⟨iT,h1,ad⟩:=h.cell
 have al:=hs.pn
 unfold C8
 refine .eq (ZS hs h x) ?_
 cases aG:rx x with
 | none=>
   have e:o1 x= -1:=by unfold o1;rw[aG]
   have aS:room s N x=false:=by unfold room;rw[aG]
   rw[e,aS]
   exact .ret I
 | some j=>
   have aB:=Bh aG
   have e:o1 x=(j:Int):=by unfold o1;rw[aG]
   have hv:bG iT j=N x:=by rw[ad j aB,(A6 aB).2 aG]
   rw[e]
   have hd:decide ((j:Int)<0)=false:=by simp
   simp only[hd]
   refine .eq (a:=p) I (.eq (a:=j) (by unfold bV;rw[bh I];exact kk (by omega)) (.eq (a:=⟨s.e0,iT⟩) (by unfold bV;rw[bh I];exact h1) (.eq (a:=p) I (.eq (a:=⟨s.e0,iT⟩) (by unfold bV;rw[bh I];exact h1)
    (.eq (a:=j) (by unfold bV;rw[bh I];exact kk (by simp only;omega)) (.eq I (.cond (λae=>?_) λae=>?_)))))))
   ·have aS:room s N x=false:=by unfold room;rw[aG];simp only[r9,e5,hv]at ae;simp;omega
    rw[aS];exact .ret I
   have aS:room s N x=true:=by unfold room;rw[aG];simp only[r9,nQ,hv]at ae;simp;omega
   rw[aS]
   refine .eq (a:=p) I (.idx I (by omega) (.eq h1 (.idx I (by omega) (.eq I (.ret ⟨rfl,⟨_,rfl⟩,?_⟩)))))
   have hw:bm (bG iT j+1)=N x+1:=by rw[hv];have:=jz x;exact gN (by omega) (by omega)
   simp only[hw]
   exact q0.bump h1 ad aG 1
def ZT{s:aZ}(hs:b7 s){hp:aL Cell}{p:Nat}{N:Int->Int}(h:q0 s hp p N){x:Int}{j:Nat}(aG:rx x=some j)(jz:0<N x∧N x<100000):
 ba (CU hp (some p) x) (λr=>(∃c,r.2=cJ hp p c)∧q0 s r.2 p (bump N x (-1))):=by
 obtain⟨iT,h1,ad⟩:=h.cell
 have aB:=Bh aG
 have e:o1 x=(j:Int):=by unfold o1;rw[aG]
 have hv:bG iT j=N x:=by rw[ad j aB,(A6 aB).2 aG]
 unfold CU
 refine .eq (ZS hs h x) ?_
 rw[e]
 have hd:decide ((j:Int)<0)=false:=by simp
 simp only[hd]
 refine .eq (a:=p) I (.eq (a:=j) (by unfold bV;rw[bh I];exact kk (by omega)) (.eq (a:=⟨s.e0,iT⟩) (by unfold bV;rw[bh I];exact h1) (.cond (λae=>?_) λae=>?_)))
 ·simp only[r9,nm,hv]at ae;omega
 refine .eq (a:=p) I (.idx I (by omega) (.eq h1 (.idx I (by omega) (.eq I (.ret ⟨⟨_,rfl⟩,?_⟩)))))
 have hw:bm (bG iT j-1)=N x+ -1:=by rw[hv];exact gN (by omega) (by omega)
 simp only[hw]
 exact q0.bump h1 ad aG (-1)
def ao5{s:aZ}(hs:b7 s){hp:aL Cell}{p:Nat}{N:Int->Int}(h:q0 s hp p N):ba (GL hp (some p)) (λr=>r=[⟨1,N 1⟩,⟨2,N 2⟩,⟨7,N 7⟩]):=by
 obtain⟨iT,h1,ad⟩:=h.cell;have al:=hs.pn;unfold GL;refine .cond (λae=>by cases ae) λ_=>.eq rfl (.eq h1 (.bind (P:=λe=>e.2.2=(List.range 3).map λj=>(⟨ax [1,2,7] j,N (ax [1,2,7] j)⟩:jQ)) (ba.jH 3 (λi st=>st=((i:Int),(List.range i).map λj=>(⟨ax [1,2,7] j,N (ax [1,2,7] j)⟩:jQ))) (by omega) I (λi st aq b1=>?_) (λst b1=>?_)) λe he=>.ret (by rw[he];rfl)))
 ·subst b1;refine ba.cond (λ_=>.idx I (by simp only;omega) (.idx I (by omega) (.eq I (.eq (gq _ _ (by simp;omega) (by omega)) (.ret ?_))))) λae=>by simp only[al]at ae;simp at ae;omega
  simp only;rw[dA (by omega),hs.la aq,ad i aq,Gs,mh];rfl
 subst b1;exact ba.cond (λae=>by simp only[al]at ae;simp at ae) λ_=>.ret I
def lA(e:bl)(r:fD):aa cx:=
 if r.bF=e.bF then(if r.eL=0 then [⟨r.nq,r.rr,(ax e.bP r.e6.toNat).b6⟩]else if r.eL=e.eL then [⟨r.nq,r.rr,ax e.fN r.wK.toNat⟩]else [])else []
def gB(s:aZ)(e:bl):aa cx:=s.di.flatMap (lA e)
def tO(e:bl):cx:=⟨1,0,(ax e.bP 0).b6⟩
def gx(s:aZ)(e:bl):aa cx:=if e.bF=1∧s.di≠[]then [tO e]else []
def uZ(s:aZ)(e:bl):Prop:=(∃k,k<4∧fE s k e)∧n2 e
def Rb(e:bl)(r:fD):(lA e r).length<=1:=by
 unfold lA;split
 ·split
  ·simp
  split <;> simp
 simp
def L9{α β:Type}{f:α->aa β}(aW:∀x,(f x).length<=1):∀l:aa α,(l.flatMap f).length<=l.length
 |[]=>by simp
 | x::l=>by
   have:=L9 aW l;have:=aW x;rw[List.flatMap_cons,gJ,List.length_cons];omega
def D6{s:aZ}(aG:jV s)(e:bl):(gB s e).length<=4:=mi (L9 (Rb e) _) aG.pn
def uZ.acL{s:aZ}(hs:b7 s){e:bl}(h:uZ s e):1<=e.bP.length∧e.bP.length<=1000:=by
 obtain⟨⟨k,hk,he⟩,_⟩:=h;have h1:=he.len;have ad:=(hs.fF hk).2.1;omega
def ZU{s:aZ}{e:bl}(h:uZ s e){r:fD}(aG:I4 s r)(bD:r.bF=e.bF)(aY:r.eL=0):r.e6=(r.e6.toNat:Int)∧r.e6.toNat<e.bP.length:=by
 obtain⟨⟨k,hk,he⟩,_⟩:=h;have h1:=he.len;have ad:=he.fF;rcases aG.2.2 with⟨_,g,_⟩|⟨g1,_,g2,g3⟩|⟨g1,_,g2,g3⟩|⟨_,g,_⟩
 ·omega
 ·have:k=2:=by omega
  subst this;rw[g2];exact⟨rfl,by rw[h1,g3];decide⟩
 ·have:k=3:=by omega
  subst this;rw[g2];exact⟨rfl,by rw[h1,g3];decide⟩
 omega
def ZV{s:aZ}{e:bl}(h:uZ s e){r:fD}(aG:I4 s r)(aY:r.eL≠0)(hb:r.eL=e.eL):r.wK=0∧0<e.fN.length:=by
 rcases aG.2.2 with⟨_,g,g2⟩|⟨_,g,_⟩|⟨_,g,_⟩|⟨_,g,g2⟩
 ·exact⟨g2,h.2 (.inl (by omega))⟩
 ·exact absurd g aY
 ·exact absurd g aY
 exact⟨g2,h.2 (.inr (by omega))⟩
def XG{α β:Type}[Inhabited α](f:α->aa β){l:aa α}{i:Nat}(aq:i<l.length):(l.take (i+1)).flatMap f=(l.take i).flatMap f++f (ax l i):=by
 rw[CI,o2 aq,dh _ aq,OK];simp
def sc{α:Type}[Inhabited α]{l:aa α}{i:Nat}(aq:i<l.length):ax l i∈l:=by rw[dh _ aq];exact j0 aq
def Xe{e:bl}{k:Nat}(hk:k<e.bP.length):DF e (k:Int)=some (ax e.bP k).b6:=by
 refine ba.get ?_;unfold DF;refine .cond (λae=>?_) λ_=>.idx I hk (.ret I);simp only[qn,e5]at ae;omega
def aht{e:bl}(hk:0<e.fN.length):Hc e 0=some (ax e.fN 0):=by
 refine ba.get ?_;unfold Hc;refine .cond (λae=>?_) λ_=>.idx (k:=0) I hk (.ret I);simp only[qn,e5]at ae;omega
def ajX{s:aZ}(aG:jV s){e:bl}(he:uZ s e):Hv s e=some (gB s e):=by
 refine ba.get ?_;unfold Hv;have al:=aG.pn;refine .bind (P:=λx=>x.2.2=gB s e) (ba.jH s.di.length (λi st=>st=((i:Int),(s.di.take i).flatMap (lA e))) (by omega) I (λi st aq b1=>?_) λst b1=>?_) λx au=>.ret au
 ·subst b1;refine .cond (λ_=>.idx I aq ?_) λae=>by simp at ae;omega
  have u0:=aG.refs _ (sc aq);have Uv:((s.di.take i).flatMap (lA e)).length<=4:=mi (L9 (Rb e) _) (by rw[eZ];omega);refine .bind (P:=λm=>m=(s.di.take (i+1)).flatMap (lA e)) ?_ λm hm=>.ret (by rw[hm,dA (by omega)]);rw[XG _ aq];refine .cond (λae=>.ret ?_) λae=>.bind (P:=λm=>m=(s.di.take i).flatMap (lA e)++lA e (ax s.di i)) (.cond (λaY=>?_) λaY=>.bind (P:=λm=>m=(s.di.take i).flatMap (lA e)++lA e (ax s.di i)) (.cond (λhb=>?_) λhb=>.ret ?_) λm hm=>.ret hm) λm hm=>.ret hm
  ·unfold lA;rw[bf (by simpa using ae)];simp
  ·have bD:(ax s.di i).bF=e.bF:=by simpa using ae
   have aY:(ax s.di i).eL=0:=by simpa using aY
   obtain⟨g1,g2⟩:=ZU he u0 bD aY;rw[g1];refine .eq (Xe g2) (.eq I (.eq (gq _ _ (by simp only[List.length_cons,List.length_nil];omega) (by omega)) (.ret ?_)));unfold lA;rw[bh bD,bh aY]
  ·have bD:(ax s.di i).bF=e.bF:=by simpa using ae
   have aY: ¬(ax s.di i).eL=0:=by simpa using aY
   have hb:(ax s.di i).eL=e.eL:=by simpa using hb
   obtain⟨g1,g2⟩:=ZV he u0 aY hb;rw[g1];refine .eq (aht g2) (.eq I (.eq (gq _ _ (by simp only[List.length_cons,List.length_nil];omega) (by omega)) (.ret ?_)));unfold lA;rw[bh bD,bf aY,bh hb,g1];rfl
  have bD:(ax s.di i).bF=e.bF:=by simpa using ae
  have aY: ¬(ax s.di i).eL=0:=by simpa using aY
  have hb: ¬(ax s.di i).eL=e.eL:=by simpa using hb
  unfold lA;rw[bh bD,bf aY,bf hb];simp
 subst b1;exact .cond (λae=>by simp at ae) λ_=>.ret (by show _=gB s e;simp[gB])
def alh{l:aa cx}(al:l.length<=1000)(x:cx):ba (FC l x) (λr=>r=decide (x∈l)):=by
 unfold FC Kw;refine .bind (P:=λy=>(0<=y)↔x∈l) ?_ λy aT=>.ret (by simp only[ge_iff_le,aT]);refine ba.loop l.length (λi st=>st=(i:Int)∧∀j,j<i->x≠ax l j) (by omega) ⟨rfl,λj aB=>by omega⟩ (λi st aq b1=>?_) λst b1=>?_
 ·obtain⟨rfl,aM⟩:=b1;refine .cond (λ_=>.idx I aq (.cond (λae=>.ret (.ret ?_)) λae=>.ret ⟨dA (by omega),λj aB=>?_⟩)) λae=>by simp at ae;omega
  ·exact⟨λ_=>by rw[xP ae];exact sc aq,λ_=>by simp only;omega⟩
  by_cases e:j=i
  ·subst e;exact KI ae
  exact aM j (by omega)
 obtain⟨rfl,aM⟩:=b1;have ae:decide ((l.length:Int)<(l.length:Int))=false:=by simp
 refine⟨.inl ((l.length:Int),false),by rw[ae];rfl,.ret ⟨λh=>by omega,λh=>?_⟩⟩;obtain⟨j,aB,e⟩:=KC h;exact absurd (by rw[dh _ aB,e]) (aM j aB)
def ahu{s:aZ}(hs:b7 s)(aG:jV s){e:bl}(he:uZ s e):Hd s e=some (gx s e):=by
 refine ba.get ?_;unfold Hd;have al:=aG.pn;have hm:=he.acL hs;refine .bind (P:=λx=>x.2.2=gx s e) (ba.jH s.di.length (λi st=>st=((i:Int),if e.bF=1∧i≠0 then [tO e]else [])) (by omega) (by simp) (λi st aq b1=>?_) λst b1=>?_) λx au=>.ret au
 ·subst b1;have u0:=aG.refs _ (sc aq);have Uv:(if e.bF=1∧i≠0 then [tO e]else []).length<=1:=by split <;> simp
  refine .cond (λ_=>.idx I aq ?_) λae=>by simp at ae;omega
  rw[u0.1,u0.2.1];refine .eq (Xe (k:=0) (by omega)) (.eq I (.bV (λ_=>alh (by simp only;omega) _) λy aT=>?_));refine .bind (P:=λm=>m=if e.bF=1∧i+1≠0 then [tO e]else []) (.cond (λae=>?_) λae=>.ret ?_) λm hm=>.ret (by rw[hm,dA (by omega)])
  ·simp only[gl,nm,r7]at ae;have aT:=aT (by simp[ae.1]);rw[ae.2]at aT;have:i=0:=by
    refine U9 λh=>?_;rw[bh ⟨ae.1.symm,h⟩]at aT;simp[tO]at aT
   subst this;refine .eq (gq _ _ (by simp) (by omega)) (.ret ?_);rw[bf (by simp),bh ⟨ae.1.symm,by omega⟩];rfl
  by_cases h1:e.bF=1
  ·have aT:=aT (by simp[h1]);simp only[h1,Gg,qo,KH]at ae;rw[ae]at aT;have zd:i≠0:=λh=>by rw[bf (by simp[h])]at aT;simp at aT
   rw[bh ⟨h1,zd⟩,bh ⟨h1,by omega⟩]
  rw[bf λh=>h1 h.1,bf λh=>h1 h.1]
 subst b1;refine .cond (λae=>by simp at ae) λ_=>.ret ?_;show _=gx s e;unfold gx;simp[FD]
structure lR(m:Nat)(hp hp':aL Cell):Prop where
 at_:∀q,q≠m->pat hp' q=pat hp q
 keys:∀q,q∈eb hp->q∈eb hp'
def lR.refl{m:Nat}{hp:aL Cell}:lR m hp hp:=⟨λ_ _=>rfl,λ_ h=>h⟩
def lR.trans{m:Nat}{a b c:aL Cell}(h:lR m a b)(k:lR m b c):lR m a c:=⟨λq hq=>(k.at_ q hq).trans (h.at_ q hq),λq hq=>k.keys q (h.keys q hq)⟩
def lR.up{m:Nat}{hp:aL Cell}{c:Cell}:lR m hp (cJ hp m c):=⟨λq hq=>nr λe=>hq e.symm,λq hq=>by rw[sf];exact hq⟩
def ahv{hp hp':aL Cell}{p:Nat}(h:pat hp' p=pat hp p):qF hp' p=qF hp p:=by unfold qF;rw[h]
def WW{hp hp':aL Cell}{p:Nat}(h:pat hp' p=pat hp p):qE hp' p=qE hp p:=by unfold qE;rw[h]
def Yx{hp:aL Cell}{p:Nat}{k:Cell}{x:aa (cx×k0)}(h:pat hp p=some k):qF (cJ hp p (.tq x)) p=some x:=by unfold qF;rw[te h]
structure mD(s:aZ)(hp:aL Cell)(p m:Nat)(A B:cx->Int):Prop where
 cell:qE hp p=some ⟨s,⟨some m⟩⟩
 map:∃kv,qF hp m=some kv∧pF kv∧∀t,dG kv t=if A t=0∧B t=0 then none else some ⟨A t,B t⟩
def mD.ne{s:aZ}{hp:aL Cell}{p m:Nat}{A B:cx->Int}(h:mD s hp p m A B):p≠m:=λe=>by
 obtain⟨kv,h1,_⟩:=h.map;have ad:=RV h.cell;rw[e,vz h1]at ad;cases ad
def mD.congr{s:aZ}{hp hp':aL Cell}{p m:Nat}{A B:cx->Int}(h:mD s hp p m A B)(h1:pat hp' p=pat hp p)(ad:pat hp' m=pat hp m):mD s hp' p m A B:=
 ⟨by rw[WW h1];exact h.cell,by obtain⟨kv,g1,g2⟩:=h.map;exact⟨kv,by rw[ahv ad];exact g1,g2⟩⟩
def nf(A:cx->Int)(t:cx)(n:Int):cx->Int:=λx=>if x=t then A x+n else A x
def sF(A:cx->Int)(k:Int):Prop:=∀t, -k<=A t∧A t<=k
def Zl{s:aZ}{hp:aL Cell}{p m:Nat}{A B:cx->Int}(h:mD s hp p m A B)(eX:sF A 200000)(eB:sF B 200000)(t:cx){n k:Int}(aM: -1<=n∧n<=1)(hk: -1<=k∧k<=1):
 ba (C9 hp (some p) t n k) (λr=>lR m hp r∧mD s r p m (nf A t n) (nf B t k)):=by
 obtain⟨kv,h1,ad,az⟩:=h.map
 unfold C9
 refine .eq (a:=p) I (.eq h.cell (.eq (a:=m) I (.eq h1 (.eq I (.eq I ?_)))))
 have hv:(dG kv t).getD default=(⟨A t,B t⟩:k0):=by
  rw[az];split
  ·rename_i bU;rw[bU.1,bU.2];rfl
  rfl
 rw[hv]
 have bX:=eX t
 have dM:=eB t
 have u9:bm (A t+n)=A t+n:=gN (by omega) (by omega)
 have Cl:bm (B t+k)=B t+k:=gN (by omega) (by omega)
 simp only[u9,Cl]
 have ae:∀c,qE (cJ hp m c) p=some ⟨s,⟨some m⟩⟩:=λc=>by rw[WW (nr h.ne.symm)];exact h.cell
 refine .cond (λbU=>?_) λbU=>?_
 ·have bU:=xP bU
  have bp:A t+n=0:=eI k0.rp bU
  have z2:B t+k=0:=eI k0.rm bU
  refine .eq (a:=p) I (.eq h.cell (.eq (a:=m) I (.eq h1 (.eq I (.ret ⟨.up,ae _,_,Yx (vz h1),ad.del,λx=>?_⟩)))))
  rw[DV ad,az]
  unfold nf
  by_cases e:x=t
  ·subst e;rw[bh I,bh I,bh I,bh ⟨bp,z2⟩]
  rw[bf e,bf e,bf e]
 have bU:=KI bU
 refine .eq (a:=p) I (.eq h.cell (.eq (a:=m) I (.eq h1 (.eq I (.ret ⟨.up,ae _,_,Yx (vz h1),ad.put,λx=>?_⟩)))))
 rw[wC,az]
 unfold nf
 by_cases e:x=t
 ·subst e;rw[bh I,bh I,bh I,bf λbW=>bU (by rw[bW.1,bW.2];rfl)]
 rw[bf e,bf e,bf e]
def eN(A:cx->Int)(l:aa cx)(n:Int):cx->Int:=λt=>A t+n*(l.count t:Int)
def Ma{A:cx->Int}{n:Int}:eN A [] n=A:=by funext t;simp[eN]
def LV{A:cx->Int}{l:aa cx}{x:cx}{n:Int}:nf (eN A l n) x n=eN A (l++[x]) n:=by
 funext t;unfold nf eN;rw[OW,List.count_singleton];by_cases e:t=x
 ·subst e;rw[bh I];simp only[Gg,lY];rw[Int.natCast_add,Int.mul_add];omega
 rw[bf e,bf (by simpa using λh=>e h.symm)];simp
def Mb{A:cx->Int}{x:cx}:nf A x 0=A:=by funext t;unfold nf;split <;> simp
def sF.mono{A:cx->Int}{k k':Int}(h:sF A k)(hk:k<=k'):sF A k':=λt=>by have:=h t;omega
def XH{A:cx->Int}{l:aa cx}{n k:Int}(h:sF A k)(al:l.length<=10)(aM:n=1∨n= -1):sF (eN A l n) (k+10):=λt=>by
 have h1:=h t;have ad:l.count t<=l.length:=zL;unfold eN;rcases aM with rfl|rfl <;> omega
def Qy{A:cx->Int}{l:aa cx}{n:Int}(h:sF A 100000)(al:l.length<=10)(aM:n=1∨n= -1):sF (eN A l n) 200000:=λt=>by
 have h1:=h t;have ad:l.count t<=l.length:=zL;unfold eN;rcases aM with rfl|rfl <;> omega
def Qi{α:Type}[Inhabited α]{l:aa α}{i:Nat}(aq:i<l.length):l.take (i+1)=l.take i++[ax l i]:=by
 rw[CI,o2 aq,dh _ aq];rfl
def D7{s:aZ}(hs:b7 s)(aG:jV s){hp:aL Cell}{p m:Nat}{A B:cx->Int}(h:mD s hp p m A B)(eX:sF A 100000)(eB:sF B 100000){e:bl}(he:uZ s e){n:Int}(aM:n=1∨n= -1):
 ba (Db hp (some p) e n) (λr=>lR m hp r∧mD s r p m (eN A (gB s e) n) (eN B (gx s e) n)):=by
 have al:=D6 aG e
 have nG:(gx s e).length<=1:=by unfold gx;split <;> simp
 have pr: -1<=n∧n<=1:=by omega
 unfold Db
 refine .cond (λae=>by cases ae) λ_=>.eq (a:=p) I (.eq h.cell (.eq (ajX aG he) ?_))
 refine .bind (P:=λx=>lR m hp x.2.2∧mD s x.2.2 p m (eN A (gB s e) n) B) (ba.jH (gB s e).length (λi st=>st.1=(i:Int)∧lR m hp st.2∧mD s st.2 p m (eN A ((gB s e).take i) n) B) (by omega) ⟨rfl,.refl,by rw[List.take_zero,Ma];exact h⟩ (λi st aq b1=>?_) λst b1=>?_) λx au=>?_
 ·obtain⟨sL,bQ⟩:=st;obtain⟨ar,bA,c1⟩:=b1
  simp only at ar bA c1;subst ar
  refine .cond (λ_=>.idx I aq (.bind (Zl c1 (Qy eX (by rw[eZ];omega) aM) (λt=>by have:=eB t;omega) _ pr (by omega)) λy aT=>.ret ⟨dA (by omega),bA.trans aT.1,?_⟩)) λae=>by simp at ae;omega
  have:=aT.2
  rw[LV,Mb,<-Qi aq]at this
  exact this
 ·obtain⟨sL,bQ⟩:=st;obtain⟨ar,bA,c1⟩:=b1
  simp only at ar bA c1;subst ar
  rw[iD]at c1
  exact .cond (λae=>by simp at ae) λ_=>.ret ⟨bA,c1⟩
 obtain⟨bA,c1⟩:=au
 refine .eq c1.cell (.eq (ahu hs aG he) ?_)
 refine .bind (P:=λz=>lR m hp z.2.2∧mD s z.2.2 p m (eN A (gB s e) n) (eN B (gx s e) n)) (ba.jH (gx s e).length (λi st=>st.1=(i:Int)∧lR m hp st.2∧mD s st.2 p m (eN A (gB s e) n) (eN B ((gx s e).take i) n)) (by omega) ⟨rfl,bA,by rw[List.take_zero,Ma];exact c1⟩ (λi st aq b1=>?_) λst b1=>?_) λz bU=>.ret bU
 ·obtain⟨sL,bQ⟩:=st;obtain⟨ar,cC,c2⟩:=b1
  simp only at ar cC c2;subst ar
  refine .cond (λ_=>.idx I aq (.bind (Zl c2 (Qy eX (by omega) aM) (Qy eB (by rw[eZ];omega) aM) _ (by omega) pr) λy aT=>.ret ⟨dA (by omega),cC.trans aT.1,?_⟩)) λae=>by simp at ae;omega
  have:=aT.2
  rw[LV,Mb,<-Qi aq]at this
  exact this
 obtain⟨sL,bQ⟩:=st;obtain⟨ar,cC,c2⟩:=b1
 simp only at ar cC c2;subst ar
 rw[iD]at c2
 exact .cond (λae=>by simp at ae) λ_=>.ret ⟨cC,c2⟩
def P5{hp hp':aL Cell}{p:Nat}(h:pat hp' p=pat hp p):hR hp' p=hR hp p:=by unfold hR;rw[h]
def ali{hp:aL Cell}{p:Nat}{k:Cell}{x:gn}{a:aD Nat}{c:Nat}(h:pat hp p=some k):hR (cJ hp p (.oM x a c)) p=some (x,a,c):=by unfold hR;rw[te h]
structure sN where
 x:Nat
 t:Nat
 r:Nat
 m:Nat
 q:Nat
def Fw(P:sN)(q:Nat):Prop:=q=P.x∨q=P.r∨q=P.m∨q=P.q
structure ie(s:aZ)(hp:aL Cell)(P:sN)(ls:Nat->List aH)(next:Int)(js:List gm)(A B:cx->Int)(N:Int->Int):Prop where
 st:∃k c,hR hp P.x=some (⟨some P.t,some P.r,some P.q,js⟩,k,c)
 kU:kt (Fw P) s hp P.t ls next
 iT:mD s hp P.r P.m A B
 quo:q0 s hp P.q N
section
variable{s:aZ}{hp hp':aL Cell}{P:sN}{ls ls':Nat->aa aH}{next next':Int}{js js':aa gm}{A B cU Kn:cx->Int}{N zD:Int->Int}
def ie.ne(h:ie s hp P ls next js A B N):(P.x≠P.r∧P.x≠P.m∧P.x≠P.q)∧P.r≠P.m∧P.r≠P.q∧P.m≠P.q:=by
 obtain⟨k,c,h1⟩:=h.st;obtain⟨kv,ad,_⟩:=h.iT.map;obtain⟨vb,az,_⟩:=h.quo.cell;have ar:=rA h1;have aS:=vz ad;have cE:=RV h.iT.cell;have eK:=vx az;refine⟨⟨λe=>?_,λe=>?_,λe=>?_⟩,λe=>?_,λe=>?_,λe=>?_⟩
 ·rw[e,cE]at ar;cases ar
 ·rw[e,aS]at ar;cases ar
 ·rw[e,eK]at ar;cases ar
 ·rw[e,aS]at cE;cases cE
 ·rw[e,eK]at cE;cases cE
 rw[e,eK]at aS;cases aS
def ie.xg(h:ie s hp P ls next js A B N)(k:kt (Fw P) s hp' P.t ls' next'∧r4 (Fw P) hp hp'):ie s hp' P ls' next' js A B N where
 st:=by obtain⟨a,c,h1⟩:=h.st;exact⟨a,c,by rw[P5 (k.2.at_ _ (.inl I))];exact h1⟩
 kU:=k.1
 iT:=h.iT.congr (k.2.at_ _ (.inr (.inl I))) (k.2.at_ _ (.inr (.inr (.inl I))))
 quo:=h.quo.congr (k.2.at_ _ (.inr (.inr (.inr I))))
def ie.only(h:ie s hp P ls next js A B N){q:Nat}(hq:Fw P q)(o:lR q hp hp'):kt (Fw P) s hp' P.t ls next:=h.kU.off (λx au=>o.at_ x λe=>au (e▸hq)) o.keys
def ie.ref(h:ie s hp P ls next js A B N)(k:lR P.m hp hp'∧mD s hp' P.r P.m cU Kn):ie s hp' P ls next js cU Kn N where
 st:=by obtain⟨a,c,h1⟩:=h.st;exact⟨a,c,by rw[P5 (k.1.at_ _ h.ne.1.2.1)];exact h1⟩
 kU:=h.only (.inr (.inr (.inl I))) k.1
 iT:=k.2
 quo:=h.quo.congr (k.1.at_ _ λe=>h.ne.2.2.2 e.symm)
def ie.Oi(h:ie s hp P ls next js A B N)(k:∃c,hp'=cJ hp P.q c)(bu:q0 s hp' P.q zD):ie s hp' P ls next js A B zD:=by
 obtain⟨c,rfl⟩:=k;have o:lR P.q hp (cJ hp P.q c):=.up;exact⟨by obtain⟨a,c,h1⟩:=h.st;exact⟨a,c,by rw[P5 (o.at_ _ h.ne.1.2.2)];exact h1⟩,h.only (.inr (.inr (.inr I))) o,
  h.iT.congr (o.at_ _ h.ne.2.2.1) (o.at_ _ h.ne.2.2.2),bu⟩
def ie.N0(h:ie s hp P ls next js A B N)(a:aD Nat)(c:Nat):ie s (cJ hp P.x (.oM ⟨some P.t,some P.r,some P.q,js'⟩ a c)) P ls next js' A B N:=by
 have o:lR P.x hp (cJ hp P.x (.oM ⟨some P.t,some P.r,some P.q,js'⟩ a c)):=.up;obtain⟨iI,gy,h1⟩:=h.st;exact⟨⟨a,c,ali (rA h1)⟩,h.only (.inl I) o,h.iT.congr (o.at_ _ h.ne.1.1.symm) (o.at_ _ h.ne.1.2.1.symm),h.quo.congr (o.at_ _ h.ne.1.2.2.symm)⟩
def Rc(h:js.length<=1000)(k:nA)(a b c:Ref):zN ⟨a,b,c,js⟩ k=some ⟨a,b,c,js++[⟨k⟩]⟩:=by
 unfold zN;rw[gq _ _ (by simp;omega) (by omega)];rfl
structure Cp(A B:cx->Int)(N:Int->Int)(js:List gm):Prop where
 a:sF A 1000
 b:sF B 1000
 n:∀x,0<=N x∧N x<1000
 j:js.length<=1000
def Yy(hs:b7 s)(aG:jV s)(h:ie s hp P ls next js A B N)(hb:Cp A B N js){k:Nat}(hk:k<4){e:bl}(he:fE s k e)(aY:n2 e)(gI:Int)(EN:∀i∈ls k,i.b0<next)(hlen:(ls k).length<900)(aM:1<=next∧next<1000000):
 cO (tX hp (some P.x) e gI) (λr=>
  if (dw (ls k) e).isSome=true then r=(17,hp)else if (ax s.bL k).ij<=((ls k).length:Int)then r=(18,hp)
  else if room s N gI=true then r.1=0∧ie s r.2 P (fg ls k (ls k++[{aX:=e,b0:=next,dJ:=gI}])) (next+1) (js++[⟨.y3 (some P.x) {aX:=e,b0:=next,dJ:=gI} next gI⟩]) (eN A (gB s e) 1) (eN B (gx s e) 1) (bump N gI 1)
  else r.1=19∧ie s r.2 P (fg ls k (ls k)) next js A B N):=by
 obtain⟨a0,o0,bC⟩:=h.st
 unfold tX
 refine .cond (λae=>by cases ae) λ_=>.eq (a:=P.x) I (.eq bC (.bind (ajU hs h.kU hk he gI EN hlen ⟨by omega,aM.2⟩) λao h1=>?_))
 by_cases aW:(dw (ls k) e).isSome=true
 ·rw[bh aW]at h1
  subst h1
  exact .cond (λ_=>.ret (by rw[bh aW])) λae=>by simp at ae
 rw[bf aW]at h1
 by_cases bU:(ax s.bL k).ij<=((ls k).length:Int)
 ·rw[bh bU]at h1
  subst h1
  exact .cond (λ_=>.ret (by rw[bf aW,bh bU])) λae=>by simp at ae
 rw[bf bU]at h1
 obtain⟨mF,err,bQ⟩:=ao
 obtain⟨ar,aS,b1,oR⟩:=h1
 simp only at ar aS b1 oR
 subst aS
 have ar:=ar.symm
 subst ar
 have g1:=h.xg ⟨b1,oR⟩
 refine .cond (λae=>by simp at ae) λ_=>?_
 have xt:dw (ls k) e=none:=by
  cases hq:dw (ls k) e with
  |none=>rfl
  |some _=>rw[hq]at aW;exact absurd I aW
 obtain⟨bX,c1,h1⟩:=g1.st
 have Ca:=Q8 hs g1.kU.ok hk he
 rw[jF,ajP xt (oB e)]at Ca
 replace Ca:xZ bQ (some P.t) e=some (({aX:=e,b0:=next,dJ:=gI}:aH),true):=Ca
 refine .eq (a:=P.x) I (.eq h1 (.eq Ca (.eq (a:=P.x) I (.eq h1 (.hc (abp hs g1.quo (λx=>by have:=hb.n x;omega) gI) λbg az=>?_)))))
 by_cases k9:room s N gI=true
 ·rw[bh k9]at az
  obtain⟨ok,cZ⟩:=bg
  obtain⟨cE,cB,eJ⟩:=az
  simp only at cE cB eJ
  subst cE
  have g2:=g1.Oi cB eJ
  obtain⟨a2,c2,ad⟩:=g2.st
  refine .cond (λae=>by cases ae) λ_=>.eq ad (.hc (P:=λcd=>lR P.m cZ cd∧mD s cd P.r P.m (eN A (gB s e) 1) (eN B (gx s e) 1)) ?_ λcd bq=>?_)
  ·exact .bind (D7 hs aG g2.iT (hb.a.mono (by omega)) (hb.b.mono (by omega)) ⟨⟨k,hk,he⟩,aY⟩ (.inl I)) λy aT=>.ret aT
  have g3:=g2.ref bq
  obtain⟨a3,eE,az⟩:=g3.st
  refine .eq az (.eq (Rc hb.j _ _ _ _) (.any λeA=>.eq I (.ret ?_)))
  rw[bf aW,bf bU,bh k9]
  exact⟨rfl,g3.N0 eA.1 eA.2⟩
 rw[bf k9]at az
 subst az
 refine .cond (λ_=>?_) λae=>by cases ae
 refine .eq h1 (.bind (L8 hs g1.kU hk he) λbt aV=>?_)
 obtain⟨i4,avK,vU⟩:=bt
 have g2:=g1.xg aV.2
 simp only at g2
 obtain⟨a2,c2,ad⟩:=g2.st
 refine .eq ad (.hc (Xc g2.kU next) λb3 bc=>.ret ?_)
 have g3:=g2.xg bc
 rw[bf aW,bf bU,bf k9]
 refine⟨rfl,?_⟩
 rw[wF,jF,Qh (oB e),Mn xt,show max 1 next=next by omega]at g3
 exact g3
def XI(hs:b7 s)(aG:jV s)(h:ie s hp P ls next js A B N)(hb:Cp A B N js){k:Nat}(hk:k<4){e:bl}(he:fE s k e)(aY:n2 e)(JW:∀i∈ls k,n2 i.aX)(hlen:(ls k).length<900):
 cO (zT hp (some P.x) e) (λr=>match dw (ls k) e with
  |some i=>r.1=i.aX∧r.2.2.1=0∧ie s r.2.2.2 P (fg ls k (db (ls k) e++[{aX:=e,b0:=i.b0,dJ:=i.dJ}])) next js (eN (eN A (gB s i.aX) (-1)) (gB s e) 1) (eN (eN B (gx s i.aX) (-1)) (gx s e) 1) N
  |none=>r.2.2.1=16∧ie s r.2.2.2 P (fg ls k (db (ls k) e)) next js A B N):=by
 obtain⟨a0,o0,bC⟩:=h.st
 have iG:=h.kU.ok.gd hk
 unfold zT
 refine .eq (a:=P.x) I (.eq bC (.bind (ajV hs h.kU hk he hlen) λao h1=>?_))
 obtain⟨i1,err,bQ⟩:=ao
 cases aW:dw (ls k) e with
 | none=>
   rw[aW]at h1
   obtain⟨ar,h1⟩:=h1
   simp only at ar h1;subst ar
   exact .cond (λ_=>.ret ⟨rfl,h.xg h1⟩) λae=>by simp at ae
 | some i=>
   rw[aW]at h1
   obtain⟨ar,aS,h1⟩:=h1
   simp only at ar aS h1;subst aS
   have ar:=ar.symm
   subst ar
   have g1:=h.xg h1
   obtain⟨bX,c1,aI⟩:=g1.st
   obtain⟨hm,NO⟩:=o7 aW
   have Ca:=Q8 hs g1.kU.ok hk he
   rw[jF,Yv (oB e) (oB e)]at Ca
   refine .cond (λae=>by simp at ae) λ_=>.eq (a:=P.x) I (.eq aI (.eq Ca (.eq (a:=P.x) I (.eq aI (.hc (P:=λy=>lR P.m bQ y∧mD s y P.r P.m (eN A (gB s i.aX) (-1)) (eN B (gx s i.aX) (-1))) ?_ λbg az=>?_)))))
   ·exact .bind (D7 hs aG g1.iT (hb.a.mono (by omega)) (hb.b.mono (by omega)) ⟨⟨k,hk,(iG.ok.ok i hm).dp⟩,JW i hm⟩ (.inr I)) λy aT=>.ret aT
   have g2:=g1.ref az
   obtain⟨a2,c2,bu⟩:=g2.st
   have avi:=D6 aG i.aX
   have nG:(gx s i.aX).length<=1:=by unfold gx;split <;> simp
   refine .eq bu (.hc (P:=λy=>lR P.m bg y∧mD s y P.r P.m (eN (eN A (gB s i.aX) (-1)) (gB s e) 1) (eN (eN B (gx s i.aX) (-1)) (gx s e) 1)) ?_ λbt aV=>.ret ⟨rfl,rfl,g2.ref aV⟩)
   exact .bind (D7 hs aG g2.iT ((XH hb.a (by omega) (.inr I)).mono (by omega)) ((XH hb.b (by omega) (.inr I)).mono (by omega)) ⟨⟨k,hk,he⟩,aY⟩ (.inl I)) λy aT=>.ret aT
def ajY(hs:b7 s)(aG:jV s)(h:ie s hp P ls next js A B N)(hb:Cp A B N js){k:Nat}(hk:k<4){e:bl}(he:fE s k e)(aY:n2 e)(JW:∀i∈ls k,n2 i.aX)(hlen:(ls k).length<900):
 cO (xR hp (some P.x) e) (λr=>match dw (ls k) e with
  |some i=>r.1=0∧ie s r.2 P (fg ls k (db (ls k) e++[{aX:=e,b0:=i.b0,dJ:=i.dJ}])) next (js++[⟨.xn (some P.x) i.aX⟩]) (eN (eN A (gB s i.aX) (-1)) (gB s e) 1) (eN (eN B (gx s i.aX) (-1)) (gx s e) 1) N
  |none=>r.1=16∧ie s r.2 P (fg ls k (db (ls k) e)) next js A B N):=by
 unfold xR
 refine .cond (λae=>by cases ae) λ_=>.bind (XI hs aG h hb hk he aY JW hlen) λao h1=>?_
 obtain⟨bA,mF,err,bQ⟩:=ao
 cases aW:dw (ls k) e with
 | none=>
   rw[aW]at h1
   obtain⟨ar,h1⟩:=h1
   simp only at ar h1;subst ar
   exact .cond (λ_=>.ret ⟨rfl,h1⟩) λae=>by simp at ae
 | some i=>
   rw[aW]at h1
   obtain⟨ar,aS,h1⟩:=h1
   simp only at ar aS h1;subst aS ar
   obtain⟨bX,c1,aI⟩:=h1.st
   exact .cond (λae=>by simp at ae) λ_=>.eq (a:=P.x) I (.eq aI (.eq (Rc hb.j _ _ _ _) (.any λq=>.eq I (.ret ⟨rfl,h1.N0 q.1 q.2⟩))))
def ajZ(hs:b7 s)(aG:jV s)(h:ie s hp P ls next js A B N)(hb:Cp A B N js){k:Nat}(hk:k<4){e:bl}(he:fE s k e)(JW:∀i∈ls k,n2 i.aX∧(rx i.dJ).isSome=true∧0<N i.dJ):
 cO (xQ hp (some P.x) e) (λr=>match dw (ls k) e with
  |some i=>r.1=0∧ie s r.2 P (fg ls k (db (ls k) e)) next (js++[⟨.y4 (some P.x) i⟩]) (eN A (gB s i.aX) (-1)) (eN B (gx s i.aX) (-1)) (bump N i.dJ (-1))
  |none=>r.1=16∧ie s r.2 P (fg ls k (db (ls k) e)) next js A B N):=by
 obtain⟨a0,o0,bC⟩:=h.st
 have iG:=h.kU.ok.gd hk
 unfold xQ
 refine .cond (λae=>by cases ae) λ_=>.eq (a:=P.x) I (.eq bC (.bind (L8 hs h.kU hk he) λao h1=>?_))
 obtain⟨i1,err,bQ⟩:=ao
 obtain⟨h1,ad⟩:=h1
 have g1:=h.xg ad
 simp only at h1 g1
 cases aW:dw (ls k) e with
 | none=>
   rw[aW]at h1
   have aS:err=16:=eI Prod.snd h1
   subst aS
   exact .cond (λ_=>.ret ⟨rfl,g1⟩) λae=>by simp at ae
 | some i=>
   rw[aW]at h1
   have ar:i1=i:=eI Prod.fst h1
   have aS:err=0:=eI Prod.snd h1
   subst aS
   have ar:=ar.symm
   subst ar
   obtain⟨hm,_⟩:=o7 aW
   obtain⟨aY,a6,jz⟩:=JW i hm
   obtain⟨j,aB⟩:=Cv.1 a6
   obtain⟨bX,c1,aI⟩:=g1.st
   refine .cond (λae=>by simp at ae) λ_=>.eq (a:=P.x) I (.eq aI (.hc (P:=λy=>lR P.m bQ y∧mD s y P.r P.m (eN A (gB s i.aX) (-1)) (eN B (gx s i.aX) (-1))) ?_ λaE ad=>?_))
   ·exact .bind (D7 hs aG g1.iT (hb.a.mono (by omega)) (hb.b.mono (by omega)) ⟨⟨k,hk,(iG.ok.ok i hm).dp⟩,aY⟩ (.inr I)) λy aT=>.ret aT
   have g2:=g1.ref ad
   obtain⟨a2,c2,bu⟩:=g2.st
   have hq:N i.dJ<100000:=by have:=hb.n i.dJ;omega
   refine .eq bu (.hc (ZT hs g2.quo aB ⟨jz,hq⟩) λbg az=>?_)
   have g3:=g2.Oi az.1 az.2
   obtain⟨a3,eE,cB⟩:=g3.st
   exact .eq cB (.eq (Rc hb.j _ _ _ _) (.any λq=>.eq I (.ret ⟨rfl,g3.N0 q.1 q.2⟩)))
def aj0(hs:b7 s)(aG:jV s)(h:ie s hp P ls next js A B N)(hb:Cp A B N js){k:Nat}(hk:k<4){i:aH}(aq:kq s k i)(aY:n2 i.aX){j:Nat}(aB:rx i.dJ=some j)(jz:0<N i.dJ)(n:Int):
 cO (FK hp (some P.x) i n i.dJ) (λr=>ie s r P (fg ls k (db (ls k) i.aX)) (max 1 n) js (eN A (gB s i.aX) (-1)) (eN B (gx s i.aX) (-1)) (bump N i.dJ (-1))):=by
 obtain⟨a0,o0,bC⟩:=h.st
 unfold FK
 refine .eq (a:=P.x) I (.eq bC (.bind (L8 hs h.kU hk aq.dp) λao h1=>?_))
 have g1:=h.xg h1.2
 obtain⟨bX,c1,aI⟩:=g1.st
 refine .eq aI (.hc (Xc g1.kU n) λaE ad=>?_)
 have g2:=g1.xg ad
 obtain⟨a2,c2,bu⟩:=g2.st
 refine .eq bu (.hc (P:=λy=>lR P.m aE y∧mD s y P.r P.m (eN A (gB s i.aX) (-1)) (eN B (gx s i.aX) (-1))) ?_ λbg az=>?_)
 ·exact .bind (D7 hs aG g2.iT (hb.a.mono (by omega)) (hb.b.mono (by omega)) ⟨⟨k,hk,aq.dp⟩,aY⟩ (.inr I)) λy aT=>.ret aT
 have g3:=g2.ref az
 obtain⟨a3,eE,cB⟩:=g3.st
 have hq:N i.dJ<100000:=by have:=hb.n i.dJ;omega
 exact .eq cB (.hc (ZT hs g3.quo aB ⟨jz,hq⟩) λbt aV=>.ret (g3.Oi aV.1 aV.2))
def aj1(hs:b7 s)(aG:jV s)(h:ie s hp P ls next js A B N)(hb:Cp A B N js){k:Nat}(hk:k<4){i:aH}(aq:kq s k i)(aY:n2 i.aX)(k9:room s N i.dJ=true)(bD:qZ (ls k) i=true)(hlen:(ls k).length<900):
 cO (Cz hp (some P.x) i) (λr=>ie s r P (fg ls k (ls k++[i])) next js (eN A (gB s i.aX) 1) (eN B (gx s i.aX) 1) (bump N i.dJ 1)):=by
 obtain⟨a0,o0,bC⟩:=h.st
 unfold Cz
 refine .eq (a:=P.x) I (.eq bC (.bind (ai1 hs h.kU hk aq hlen) λao h1=>?_))
 have g1:=h.xg h1.2
 unfold added at g1
 rw[bh bD]at g1
 obtain⟨bX,c1,aI⟩:=g1.st
 refine .eq aI (.hc (P:=λy=>lR P.m ao.2 y∧mD s y P.r P.m (eN A (gB s i.aX) 1) (eN B (gx s i.aX) 1)) ?_ λaE ad=>?_)
 ·exact .bind (D7 hs aG g1.iT (hb.a.mono (by omega)) (hb.b.mono (by omega)) ⟨⟨k,hk,aq.dp⟩,aY⟩ (.inl I)) λy aT=>.ret aT
 have g2:=g1.ref ad
 obtain⟨a2,c2,bu⟩:=g2.st
 refine .eq bu (.hc (abp hs g2.quo (λx=>by have:=hb.n x;omega) i.dJ) λbg az=>.ret ?_)
 rw[bh k9]at az
 exact g2.Oi az.2.1 az.2.2
end
section
variable{s:aZ}{y:cn}{ls:Nat->aa aH}{next:Int}
def alj{e:bl}(hlen:y.bE.length<=1000)(oR:∀i∈y.bE,i.aX.bP.length<=1000)(he:e.bP.length<=1000):ba (xY y e) (λr=>r=jh (y.bE.find? λi=>fG i.aX e)):=by
 unfold xY;refine ba.loop y.bE.length (λj st=>st=(j:Int)∧((y.bE.take j).find? λi=>fG i.aX e)=none) (by omega) ⟨rfl,rfl⟩ (λj st aB hs=>?_) (λst hs=>?_)
 ·obtain⟨rfl,hs⟩:=hs;have hm:ax y.bE j∈y.bE:=by rw[dh _ aB];exact j0 _
  have xw:y.bE=(y.bE.take j++[ax y.bE j])++y.bE.drop (j+1):=by rw[<-mM _ aB,gz]
  refine .cond (λ_=>.idx I aB (.eq (Yq (oR _ hm) he) (.cond (λae=>.ret (.ret ?_)) λae=>.ret ⟨dA (by omega),?_⟩))) λae=>by simp at ae;omega
  ·have xu:y.bE.find? (λi=>fG i.aX e)=some (ax y.bE j):=by
    conv=>lhs;rw[xw]
    rw[F7,F7,hs];simp only[List.find?_cons,List.find?_nil,ae,Option.none_or,Option.some_or]
   rw[xu];rfl
  rw[mM _ aB,F7,hs,Cx (by rw[ae];simp)];rfl
 obtain⟨rfl,hs⟩:=hs;have ae:decide ((y.bE.length:Int)<(y.bE.length:Int))=false:=by simp
 rw[iD]at hs;exact⟨.inl (_,_),by rw[ae];rfl,.ret (by rw[hs];rfl)⟩
def RW(hs:b7 s)(h:j5 s y ls next)(al:nC s ls){k:Nat}(hk:k<4){e:bl}(he:fE s k e):xY y e=some (jh (dw (ls k) e)):=by
 refine ba.get ((alj (by have:=h.len al;omega) (λi aq=>(h.small hs al aq).1) (by have:=he.len;have:=(hs.fF hk).2.1;omega)).mono λr aG=>?_);rw[aG];congr 1;have aY:=h.dw hs al hk he;cases aW:y.bE.find? λi=>fG i.aX e with
 | none=>
   have:(y.bE.any λi=>fG i.aX e)=false:=by rw[wk];exact xO.1 aW
   rw[this]at aY
   cases bz:dw (ls k) e with
   |none=>rfl
   |some _=>rw[bz]at aY;cases aY
 | some i=>
   have h1:=Pb aW
   obtain⟨j,aB,aq,iF⟩:=h.dp al (Cu aW)
   have ar:=(tf.1 h1).1
   rw[iF.dp.fF,he.fF]at ar
   have:j=k:=by omega
   subst this
   exact((al.gd j aB).RS aq h1).symm
def ZW{e:bl}(hlen:y.bE.length<=1000)(oR:∀i∈y.bE,i.aX.bP.length<=1000)(he:e.bP.length<=1000):Dh y e=some {y with bE:=db y.bE e}:=by
 refine ba.get ?_;unfold Dh;refine .bind (P:=λx=>x.2.2=db y.bE e) (ba.jH y.bE.length (λj st=>st=((j:Int),db (y.bE.take j) e)) (by omega) I (λj st aB hs=>?_) (λst hs=>?_)) λx au=>.ret (by rw[au])
 ·subst hs;have hm:ax y.bE j∈y.bE:=by rw[dh _ aB];exact j0 _
  have hle:=L6 (y.bE.take j) e;rw[eZ]at hle;refine .cond (λ_=>.idx I aB (.eq (Yq (oR _ hm) he) (.bind (P:=λm=>m=db (y.bE.take (j+1)) e) (.cond (λae=>.eq (gq _ _ (by simp only[List.length_cons,List.length_nil];omega) (by omega)) (.ret ?_)) λae=>.ret ?_) λm hm=>.ret (by rw[hm,dA (by omega)])))) λae=>by simp at ae;omega
  ·rw[mM _ aB];unfold db;rw[mJ,xL (by simpa using ae),List.filter_nil]
  rw[mM _ aB];unfold db;rw[mJ,vi (by simpa using ae),List.filter_nil,ov]
 subst hs;refine .cond (λae=>by simp at ae) λ_=>.ret ?_;show db (List.take _ _) _=_;rw[iD]
def ai4{s:aZ}{ls:Nat->aa aH}(al:nC s ls){k:Nat}(hk:k<4){e:bl}(he:fE s k e):db (da ls) e=da (fg ls k (db (ls k) e)):=by
 have key:∀j,j<4->db (ls j) e=fg ls k (db (ls k) e) j:=λj aB=>by
  by_cases ar:j=k
  ·subst ar;rw[jF]
  rw[kl ar];refine sQ.2 λc ae=>?_;have h1:=((al.gd j aB).ok.ok c ae).dp.fF;have:fG c.aX e=false:=by
   rw[pJ];intro ad;have:=(tf.1 ad).1;rw[h1,he.fF]at this;omega
  rw[this];rfl
 unfold da;rw[<-key 0 (by decide),<-key 1 (by decide),<-key 2 (by decide),<-key 3 (by decide)];unfold db;rw[mJ,mJ,mJ]
def j5.db(h:j5 s y ls next)(al:nC s ls){k:Nat}(hk:k<4){e:bl}(he:fE s k e):j5 s {y with bE:=Go.Proofs.YtppgfphgdogpeaaGreat.db y.bE e} (fg ls k (Go.Proofs.YtppgfphgdogpeaaGreat.db (ls k) e)) next:=
 ⟨h.oS,h.num,h.wb.sublist KB,by rw[<-ai4 al hk he];exact h.qd.filter _⟩
def nC.db(al:nC s ls){k:Nat}(e:bl):nC s (fg ls k (Go.Proofs.YtppgfphgdogpeaaGreat.db (ls k) e)):=by
 refine⟨λj aB=>?_,λj aB=>?_⟩
 ·by_cases ar:j=k
  ·subst ar;rw[jF];exact(al.gd j aB).db e
  rw[kl ar];exact al.gd j aB
 by_cases ar:j=k
 ·subst ar;rw[jF];exact mi (L6 _ _) (al.len j aB)
 rw[kl ar];exact al.len j aB
def aj2(hs:b7 s)(h:j5 s y ls next)(al:nC s ls){k:Nat}(hk:k<4){e:bl}(he:fE s k e):
 ba (xV y e) (λr=>match dw (ls k) e with |some i=>r.2.1=0∧j5 s r.2.2 (fg ls k (db (ls k) e)) next|none=>r.2.1=16∧r.2.2=y):=by
 unfold xV
 refine .eq (HO hs h.oS hk he) (.cond (λae=>by simp at ae;omega) λ_=>.eq (RW hs h al hk he) ?_)
 cases aW:dw (ls k) e with
 |none=>exact .cond (λ_=>.ret ⟨rfl,rfl⟩) λae=>by cases ae
 | some i=>
   refine .cond (λae=>by cases ae) λ_=>.eq (ZW (by have:=h.len al;omega) (λi aq=>(h.small hs al aq).1) (by have:=he.len;have:=(hs.fF hk).2.1;omega)) (.ret ⟨rfl,h.db al hk he⟩)
def aj3(hs:b7 s)(h:j5 s y ls next)(al:nC s ls){k:Nat}(hk:k<4){e:bl}(he:fE s k e):
 ba (xU y e) (λr=>match dw (ls k) e with |some i=>r.2.1=0∧j5 s r.2.2 (fg ls k (db (ls k) e++[{aX:=e,b0:=i.b0,dJ:=i.dJ}])) next|none=>r.2.1=16∧r.2.2=y):=by
 unfold xU
 refine .eq (HO hs h.oS hk he) (.cond (λae=>by simp at ae;omega) λ_=>.eq (RW hs h al hk he) ?_)
 cases aW:dw (ls k) e with
 |none=>exact .cond (λ_=>.ret ⟨rfl,rfl⟩) λae=>by cases ae
 | some i=>
   refine .cond (λae=>by cases ae) λ_=>.eq (ZW (by have:=h.len al;omega) (λi aq=>(h.small hs al aq).1) (by have:=he.len;have:=(hs.fF hk).2.1;omega)) (.eq I ?_)
   have ad:=h.db al hk he
   refine .bind (Zk hs ad (al.db e) hk (i:=⟨e,i.b0,i.dJ⟩) ⟨he⟩) λbt aV=>.ret ⟨rfl,aV.1.trans h.oS,aV.2.1.trans h.num,aV.2.2.1,?_⟩
   have hp:=rq (ls:=fg ls k (db (ls k) e)) hk ({aX:=e,b0:=i.b0,dJ:=i.dJ}:aH)
   rw[jF,wF]at hp
   exact(aV.2.2.2.trans (ad.qd.append_right _)).trans hp
def aj4(hs:b7 s)(h:j5 s y ls next)(al:nC s ls){k:Nat}(hk:k<4){e:bl}(he:fE s k e)(gI:Int)(aM:0<=next∧next<1000000):
 ba (CY y e gI) (λr=>if (dw (ls k) e).isSome=true then r.2.1=17 else if (ax s.bL k).ij<=((ls k).length:Int)then r.2.1=18
  else r.2.1=0∧j5 s r.2.2 (fg ls k (ls k++[{aX:=e,b0:=next,dJ:=gI}])) (next+1)):=by
 have hlen:=h.len al
 have aq:kq s k {aX:=e,b0:=next,dJ:=gI}:=⟨he⟩
 unfold CY
 refine .eq (HO hs h.oS hk he) (.cond (λae=>by simp at ae;omega) λ_=>.eq (RW hs h al hk he) ?_)
 rw[Zg]
 refine .cond (λae=>.ret (by rw[bh ae])) λae=>?_
 rw[ae,he.fF,h.oS]
 refine .eq (Qf (by omega)) (.idx I (by rw[hs.lP];exact hk) ?_)
 have atI:=(Qg h al hk).length_eq
 rw[atI]
 refine .cond (λae=>.ret ?_) λae=>?_
 ·rw[bf (by simp),bh (by simpa using ae)]
 have ae: ¬(ax s.bL k).ij<=((ls k).length:Int):=by simpa using ae
 rw[h.num]
 refine(Zk hs h al hk aq).bind λbt aV=>.ret ?_
 rw[bf (by simp),bf ae]
 obtain⟨g1,g2,g3,g4⟩:=aV
 refine⟨rfl,g1.trans h.oS,?_,g3,(g4.trans (h.qd.append_right _)).trans (rq hk _)⟩
 show bm (bt.h6+1)=next+1
 rw[g2,h.num,gN] <;> omega
def gS(L:aa aH)(x:Int):Int:=((L.countP λi=>i.dJ==x:Nat):Int)
def Zm(x:Int)(al:y.bE.length<=1000):Ai y x=some (gS y.bE x):=by
 refine ba.get ?_;unfold Ai;refine .bind (P:=λe=>e.1=gS y.bE x) (ba.jH y.bE.length (λj st=>st=(gS (y.bE.take j) x,(j:Int))) (by omega) I (λj st aB hs=>?_) (λst hs=>?_)) λe he=>.ret he
 ·subst hs;have hle:(y.bE.take j).countP (λi=>i.dJ==x)<=1000:=mi Vo (by rw[eZ];omega);refine .cond (λ_=>.idx I aB (.bind (P:=λm=>m=gS (y.bE.take (j+1)) x) (.cond (λae=>.ret ?_) λae=>.ret ?_) λm hm=>.ret (by rw[hm,dA (by omega)]))) λae=>by simp at ae;omega
  ·rw[mM _ aB];unfold gS;rw[OR,OD,ae];exact dA (by omega)
  rw[mM _ aB];unfold gS;rw[OR,OD,ae];rfl
 subst hs;refine .cond (λae=>by simp at ae) λ_=>.ret ?_;show gS (List.take _ _) _=_;rw[iD]
def amm(hs:b7 s)(x:Int):Hi s x=some (o1 x):=by
 refine ba.get ?_;unfold Hi;refine(ME hs).bind λao h1=>?_;rw[h1.Ew,hs.Ew];refine(ZH [1,2,7] x (by simp)).bind λr h=>.ret ?_;rcases h with⟨rfl,aM⟩|⟨k,hk,rfl,he⟩
 ·unfold o1 rx;simp only[dP,vk,vo,x9]at aM;rw[bf aM.1,bf aM.2.1,bf aM.2.2]
 unfold o1;rw[(A6 hk).1 he]
def RX(al:y.bE.length<=1000):xW y=some y:=by
 unfold xW;rw[gq _ _ (by simp;omega) (by omega)];rfl
def Xf(hs:b7 s)(h:j5 s y ls next)(al:nC s ls){k:Nat}(hk:k<4){e:bl}(he:fE s k e)(gI:Int)(aM:0<=next∧next<1000000):
 ba (x6 y e gI) (λr=>if (dw (ls k) e).isSome=true then r=(17,y)else if (ax s.bL k).ij<=((ls k).length:Int)then r=(18,y)
  else if room s (gS (da ls)) gI=true then r.1=0∧j5 s r.2 (fg ls k (ls k++[{aX:=e,b0:=next,dJ:=gI}])) (next+1)else r=(19,y)):=by
 have hlen:=h.len al
 unfold x6
 refine .eq (RX (by omega)) (.bind (aj4 hs h al hk he gI aM) λaE ad=>?_)
 obtain⟨n,err,nP⟩:=aE
 by_cases aW:(dw (ls k) e).isSome=true
 ·rw[bh aW]at ad
  simp only at ad;subst ad
  exact .cond (λ_=>.ret (by rw[bh aW])) λae=>by simp at ae
 rw[bf aW]at ad
 by_cases bU:(ax s.bL k).ij<=((ls k).length:Int)
 ·rw[bh bU]at ad
  simp only at ad;subst ad
  exact .cond (λ_=>.ret (by rw[bf aW,bh bU])) λae=>by simp at ae
 rw[bf bU]at ad
 obtain⟨aS,ad⟩:=ad
 simp only at aS ad;subst aS
 refine .cond (λae=>by simp at ae) λ_=>?_
 rw[h.oS]
 have atJ:gS y.bE=gS (da ls):=by funext x;unfold gS;rw[h.qd.countP_eq]
 refine .eq (amm hs gI) ?_
 rw[Zm gI (by omega),atJ]
 cases aG:rx gI with
 | none=>
   have hv:o1 gI= -1:=by unfold o1;rw[aG]
   have ar:room s (gS (da ls)) gI=false:=by unfold room;rw[aG]
   rw[hv]
   exact .ret (by rw[bf aW,bf bU,ar,bf (by simp)])
 | some j=>
   have aB:=Bh aG
   have hv:o1 gI=(j:Int):=by unfold o1;rw[aG]
   have hd:decide ((j:Int)<0)=false:=by simp
   rw[hv]
   simp only[hd]
   refine .eq (a:=gS (da ls) gI) I (.eq (a:=j) (by unfold bV;rw[bh I];exact kk (by rw[hs.pn];exact aB)) (.eq I (.cond (λae=>.ret ?_) λae=>.ret ?_)))
   ·rw[bf aW,bf bU,bf (by unfold room;rw[aG];simp only[r9,e5]at ae;simp;omega)]
   rw[bf aW,bf bU,bh (by unfold room;rw[aG];simp only[r9,nQ]at ae;simp;omega)]
   exact⟨rfl,ad⟩
end
def jI(s:aZ)(L:aa aH)(t:cx):Int:=(((L.flatMap λi=>gB s i.aX).count t:Nat):Int)
def fX(s:aZ)(L:aa aH)(t:cx):Int:=(((L.flatMap λi=>gx s i.aX).count t:Nat):Int)
section
variable{s:aZ}{L L':aa aH}
def ye(h:L.Perm L'):jI s L=jI s L':=by funext t;unfold jI;rw[(h.flatMap_right _).count_eq]
def yf(h:L.Perm L'):fX s L=fX s L':=by funext t;unfold fX;rw[(h.flatMap_right _).count_eq]
def rn(h:L.Perm L'):gS L=gS L':=by funext x;unfold gS;rw[h.countP_eq]
def AD{i:aH}:eN (jI s L) (gB s i.aX) 1=jI s (L++[i]):=by
 funext t;unfold jI eN;rw[OK,OW];simp
def AE{i:aH}:eN (fX s L) (gx s i.aX) 1=fX s (L++[i]):=by
 funext t;unfold fX eN;rw[OK,OW];simp
def s4{i:aH}:bump (gS L) i.dJ 1=gS (L++[i]):=by
 funext x;unfold gS bump;rw[OR,OD];by_cases e:x=i.dJ
 ·subst e;rw[bh I];simp
 rw[bf e,bf (by simpa using λh=>e h.symm)];simp
def XJ{A:cx->Int}{l:aa cx}:eN (eN A l 1) l (-1)=A:=by funext t;unfold eN;omega
def ai5{N:Int->Int}{x:Int}:bump (bump N x 1) x (-1)=N:=by
 funext y;unfold bump;by_cases e:y=x
 ·subst e;rw[bh I,bh I];omega
 rw[bf e,bf e]
def LL{i:aH}(h:(L'++[i]).Perm L):eN (jI s L) (gB s i.aX) (-1)=jI s L':=by rw[<-ye h,<-AD,XJ]
def LM{i:aH}(h:(L'++[i]).Perm L):eN (fX s L) (gx s i.aX) (-1)=fX s L':=by rw[<-yf h,<-AE,XJ]
def XK{i:aH}(h:(L'++[i]).Perm L):bump (gS L) i.dJ (-1)=gS L':=by rw[<-rn h,<-s4,ai5]
def Yz{i:aH}(h:i∈L):0<gS L i.dJ:=by
 unfold gS;have:0<L.countP λj=>j.dJ==i.dJ:=List.countP_pos_iff.2 ⟨i,h,by simp⟩;omega
end
def l1(a b:Nat->aa aH):Prop:=∀k,k<4->(a k).Perm (b k)
def l1.refl{a:Nat->aa aH}:l1 a a:=λ_ _=>.refl _
def l1.symm{a b:Nat->aa aH}(h:l1 a b):l1 b a:=λk hk=>(h k hk).symm
def l1.trans{a b c:Nat->aa aH}(h:l1 a b)(k:l1 b c):l1 a c:=λj aB=>(h j aB).trans (k j aB)
structure iC(s:aZ)(ls:Nat->List aH)(next:Int)(y:cn):Prop where
 r:j5 s y ls next
 ok:nC s ls
 arg:∀k,k<4->∀i∈ls k,n2 i.aX∧(rx i.dJ).isSome=true∧i.b0<next
 quo:∀x j,rx x=some j->gS (da ls) x<=(ax s.e0 j).kh
 Ko:1<=next
def alk{s:aZ}{k:Nat}{l l':aa aH}(h:ic s k l)(p:l'.Perm l):ic s k l':=
 ⟨Yt h.ok p,h.key.perm p.symm λ{a b} Uw=>by rw[s9];exact Uw⟩
def iC.perm{s:aZ}{ls ls':Nat->aa aH}{next:Int}{y:cn}(h:iC s ls next y)(p:l1 ls' ls):iC s ls' next y where
 r:=⟨h.r.oS,h.r.num,h.r.wb,h.r.qd.trans (AG p.symm)⟩
 ok:=⟨λk hk=>alk (h.ok.gd k hk) (p k hk),λk hk=>by rw[(p k hk).length_eq];exact h.ok.len k hk⟩
 arg k hk i aq:=h.arg k hk i ((p k hk).mem_iff.1 aq)
 quo x j aB:=by rw[rn (AG p)];exact h.quo x j aB
 Ko:=h.Ko
def iC.Nu{s:aZ}{ls:Nat->aa aH}{next:Int}{y:cn}(h:iC s ls next y):(da ls).length<=48:=by rw[<-h.r.qd.length_eq];exact h.r.len h.ok
def AH{α β:Type}{f:α->aa β}{n:Nat}(aW:∀x,(f x).length<=n):∀l:aa α,(l.flatMap f).length<=n*l.length
 |[]=>by simp
 | x::l=>by
   have:=AH aW l;have:=aW x;rw[List.flatMap_cons,gJ,List.length_cons,Nat.mul_add];omega
def iC.Kp{s:aZ}(aG:jV s){ls:Nat->aa aH}{next:Int}{y:cn}(h:iC s ls next y){js:aa gm}(aB:js.length<=1000):Cp (jI s (da ls)) (fX s (da ls)) (gS (da ls)) js where
 a t:=by
   have h1:=AH (f:=λi:aH=>gB s i.aX) (n:=4) (λi=>D6 aG _) (da ls);have ad:=h.Nu;have az:(List.flatMap (λi:aH=>gB s i.aX) (da ls)).count t<=_:=zL;unfold jI;omega
 b t:=by
   have h1:=AH (f:=λi:aH=>gx s i.aX) (n:=1) (λi=>by unfold gx;split <;> simp) (da ls);have ad:=h.Nu;have az:(List.flatMap (λi:aH=>gx s i.aX) (da ls)).count t<=_:=zL;unfold fX;omega
 n x:=by
   have ad:=h.Nu;have az:(da ls).countP (λi=>i.dJ==x)<=_:=Vo;unfold gS;omega
 j:=aB
abbrev jB(s:aZ)(hp:aL Cell)(P:sN)(ls:Nat->aa aH)(next:Int)(js:aa gm):Prop:=ie s hp P ls next js (jI s (da ls)) (fX s (da ls)) (gS (da ls))
inductive zl(s:aZ)(jj:Nat)(ls:Nat->List aH)(next:Int):gm->(Nat->List aH)->Int->Prop
 |ins {k:Nat} {i:aH} (hk:k<4) (aq:kq s k i) (aY:n2 i.aX) (aW:dw (ls k) i.aX=none):zl s jj ls next ⟨.y3 (some jj) i next i.dJ⟩ (fg ls k (ls k++[i])) (next+1)
 |mod {k:Nat} {i:aH} {e:bl} (hk:k<4) (aq:i∈ls k) (he:fE s k e) (aY:n2 e) (hs:fG i.aX e=true):zl s jj ls next ⟨.xn (some jj) i.aX⟩ (fg ls k (db (ls k) e++[{aX:=e,b0:=i.b0,dJ:=i.dJ}])) next
 |del {k:Nat} {i:aH} (hk:k<4) (aq:i∈ls k):zl s jj ls next ⟨.y4 (some jj) i⟩ (fg ls k (db (ls k) i.aX)) next
def Zn{l:aa aH}{e d:bl}(h:fG e d=true):db l e=db l d:=List.filter_congr λc _=>by
 congr 1;rw[kP];exact⟨λg=>s6 g h,λg=>s6 g (by rw[s9];exact h)⟩
def Xg{l l':aa aH}{e:bl}(p:l.Perm l'):(db l e).Perm (db l' e):=p.filter _
def YA{s:aZ}{k:Nat}{l l':aa aH}(h:ic s k l')(p:l.Perm l')(e:bl):dw l e=dw l' e:=by
 cases aW:dw l e with
 | some i=>
   obtain⟨h1,ad⟩:=o7 aW
   exact(h.RS (p.mem_iff.1 h1) ad).symm
 | none=>
   cases bz:dw l' e with
   |none=>rfl
   | some i=>
     obtain⟨h1,ad⟩:=o7 bz
     rw[uh aW i (p.mem_iff.2 h1)]at ad;cases ad
section
variable{s:aZ}{hp:aL Cell}{P:sN}{ls ls' bI:Nat->aa aH}{next next':Int}{js:aa gm}{y nP:cn}{mf:gm}
def ie.to{A B cU Kn:cx->Int}{N zD:Int->Int}(h:ie s hp P ls next js A B N)(aY:A=cU)(hb:B=Kn)(aM:N=zD):ie s hp P ls next js cU Kn zD:=by subst aY hb aM;exact h
def amn(hs:b7 s)(aG:jV s)(h:jB s hp P bI next' js)(aB:js.length<=1000)(hu:zl s P.x ls next mf ls' next')(h1:iC s ls next y)(ad:iC s ls' next' nP)(p:l1 bI ls'):
 cO (PN hp mf.AX) (λr=> ∃fQ,jB s r P fQ next js∧l1 fQ ls):=by
 have az:=ad.perm p
 have hb:=az.Kp aG aB
 cases hu with
 | @ins k i hk aq aY aW=>
   have sG:=p k hk
   rw[jF]at sG
   have xr:i∈bI k:=sG.mem_iff.2 (by simp)
   have atK:i∈da bI:=L7.2 ⟨k,hk,xr⟩
   obtain⟨j,N1⟩:=Cv.1 (az.arg k hk i xr).2.1
   refine(aj0 hs aG h hb hk aq aY N1 (Yz atK) next).mono λr v7=>⟨fg bI k (db (bI k) i.aX),?_,?_⟩
   ·have sE:(da (fg bI k (db (bI k) i.aX))++[i]).Perm (da bI):=by
     have bc:=rq (ls:=fg bI k (db (bI k) i.aX)) hk i;rw[jF,wF]at bc;refine bc.trans (AG λj aB=>?_);by_cases e:j=k
     ·subst e;rw[jF];exact yg (az.ok.gd j hk) xr (oB _)
     rw[kl e]
    have au:max 1 next=next:=by have:=h1.Ko;omega
    rw[au]at v7
    exact v7.to (LL sE) (LM sE) (XK sE)
   intro j aB
   by_cases e:j=k
   ·subst e
    rw[jF]
    have bc:=Xg (e:=i.aX) sG
    rw[Qh (oB _),Mn aW]at bc
    exact bc
   rw[kl e]
   have bc:=p j aB
   rw[kl e]at bc;exact bc
 | @mod k i e hk aq he aY tN=>
   have sG:=p k hk
   rw[jF]at sG
   have en:=(h1.ok.gd k hk).ok.ok i aq
   have Nv:fG e i.aX=true:=by rw[s9];exact tN
   have xt:dw (bI k) i.aX=some {aX:=e,b0:=i.b0,dJ:=i.dJ}:=by
    rw[YA (by have:=ad.ok.gd k hk;rw[jF]at this;exact this) sG];exact Yv (oB e) tN
   obtain⟨hm,_⟩:=o7 xt
   show cO (FL hp (some P.x) i.aX) _
   unfold FL
   refine .bind (XI hs aG h hb hk en.dp (h1.arg k hk i aq).1 (λc ae=>(az.arg k hk c ae).1) (by have:=az.ok.len k hk;omega)) λao aT=>.ret ?_
   rw[xt]at aT
   obtain⟨_,_,bz⟩:=aT
   simp only at bz
   have sE:(da (fg bI k (db (bI k) i.aX))++[({aX:=e,b0:=i.b0,dJ:=i.dJ}:aH)]).Perm (da bI):=by
    have bc:=rq (ls:=fg bI k (db (bI k) i.aX)) hk ({aX:=e,b0:=i.b0,dJ:=i.dJ}:aH);rw[jF,wF]at bc;refine bc.trans (AG λj aB=>?_);by_cases e:j=k
    ·subst e;rw[jF];exact yg (az.ok.gd j hk) hm Nv
    rw[kl e]
   have N2:=rq (ls:=fg bI k (db (bI k) i.aX)) hk i
   rw[jF,wF]at N2
   refine⟨_,bz.to ?_ ?_ ?_,?_⟩
   ·have:=LL (s:=s) sE
    rw[this,AD (i:=i)];exact ye N2
   ·have:=LM (s:=s) sE
    rw[this,AE (i:=i)];exact yf N2
   ·rw[<-rn sE,<-rn N2,<-s4,<-s4]
   intro j aB
   by_cases ar:j=k
   ·subst ar
    rw[jF]
    have bc:=Xg (e:=i.aX) sG
    rw[ai0 (oB e) tN,Zn Nv]at bc
    exact(bc.append_right _).trans (yg (h1.ok.gd j hk) aq (oB _))
   rw[kl ar]
   have bc:=p j aB
   rw[kl ar]at bc;exact bc
 | @del k i hk aq=>
   have sG:=p k hk
   rw[jF]at sG
   have en:=(h1.ok.gd k hk).ok.ok i aq
   have sE:(da bI++[i]).Perm (da ls):=by
    refine(rq hk i).trans (AG λj aB=>?_);by_cases e:j=k
    ·subst e;rw[jF];exact(sG.append_right _).trans (yg (h1.ok.gd j hk) aq (oB _))
    rw[kl e];have bc:=p j aB;rw[kl e]at bc;exact bc
   have bD:qZ (bI k) i=true:=by
    have bc:=Yu (h1.ok.gd k hk) aq (oB i.aX) (oB i.aX) I;unfold qZ j7 at bc⊢;rw[YA ((h1.ok.gd k hk).db i.aX) sG,sG.any_eq];exact bc
   have k9:room s (gS (da bI)) i.dJ=true:=by
    obtain⟨j,N1⟩:=Cv.1 (h1.arg k hk i aq).2.1;have bc:=h1.quo _ j N1;rw[<-rn sE,<-s4]at bc;unfold bump at bc;rw[bh I]at bc;unfold room;rw[N1];simp;omega
   show cO (Cz hp (some P.x) i) _
   refine(aj1 hs aG h hb hk en (h1.arg k hk i aq).1 k9 bD (by have:=az.ok.len k hk;omega)).mono λr bz=>⟨fg bI k (bI k++[i]),bz.to ?_ ?_ ?_,?_⟩
   ·rw[AD];exact ye (rq hk i)
   ·rw[AE];exact yf (rq hk i)
   ·rw[s4];exact rn (rq hk i)
   intro j aB
   by_cases e:j=k
   ·subst e
    rw[jF]
    exact(sG.append_right _).trans (yg (h1.ok.gd j hk) aq (oB _))
   rw[kl e]
   have bc:=p j aB
   rw[kl e]at bc;exact bc
end
def abq{s:aZ}(hs:b7 s)(aG:jV s)(hp:aL Cell):cO (DK hp s) (λr=> ∃P:sN,r.1=some P.x∧jB s r.2 P (λ_=>[]) 1 []):=by
 have N3:=hs.pn;unfold DK;refine .bind (ami hs hp) λao h1=>?_;obtain⟨t,ar,h1⟩:=h1;obtain⟨atz,bQ⟩:=ao;simp only at ar h1;subst ar;unfold LI LA;refine .bind (P:=λaE=> ∃m r,r≠m∧m∉eb bQ∧r∉eb bQ∧aE=(some r,(r,Cell.Bi ⟨s,⟨some m⟩⟩)::(m,Cell.tq [])::bQ)) (.mk λm hm=>.mk λr aG=>.ret ⟨m,r,?_,hm,?_,rfl⟩) λaE ad=>?_
 ·exact λe=>aG (by rw[e];exact jC)
 ·exact λh=>aG (gA _ h)
 obtain⟨m,r,Jq,hm,Fa,rfl⟩:=ad;refine .bind (P:=λbg=> ∃q,q≠r∧q≠m∧q∉eb bQ∧bg=(some q,(q,Cell.tr {(default:jP)with nX:=s.e0})::(r,Cell.Bi ⟨s,⟨some m⟩⟩)::(m,Cell.tq [])::bQ)) (.eq (a:=s.e0) ?_ (.mk λq hq=>.ret ⟨q,?_,?_,?_,rfl⟩)) λbg az=>?_
 ·unfold mR;rw[bh ⟨by omega,by rw[N3];decide,by rw[N3];decide⟩,N3];show some (List.take 3 s.e0)=_;rw[<-N3,iD]
 ·exact λe=>hq (by rw[e];exact jC)
 ·exact λe=>hq (by rw[e];exact gA _ jC)
 ·exact λh=>hq (gA _ (gA _ h))
 obtain⟨q,atL,B7,jL,rfl⟩:=az;refine .any λcH=>.mk λx au=>.ret ⟨⟨x,t,r,m,q⟩,rfl,?_⟩;simp only at au⊢;have atM:x≠q:=λe=>au (by rw[e];exact jC);have TL:x≠r:=λe=>au (by rw[e];exact gA _ jC);have atN:x≠m:=λe=>au (by rw[e];exact gA _ (gA _ jC));have iE:x∉eb bQ:=λh=>au (gA _ (gA _ (gA _ h)));have oh:∀z,Fw ⟨x,t,r,m,q⟩ z->z∉eb bQ:=λz bU=>by
  rcases bU with rfl|rfl|rfl|rfl
  ·exact iE
  ·exact Fa
  ·exact hm
  exact jL
 have hold:∀z e2 cB bu aI,z∈eb bQ->pat ((x,e2)::(q,cB)::(r,bu)::(m,aI)::bQ) z=pat bQ z:=λz e2 cB bu aI bU=>by
  rw[lp,bf (λe:x=z=>iE (by rw[e];exact bU)),lp,bf (λe:q=z=>jL (by rw[e];exact bU)),lp,bf (λe:r=z=>Fa (by rw[e];exact bU)),lp,bf (λe:m=z=>hm (by rw[e];exact bU))]
 obtain⟨zC,fv,own,g1,g2,g3⟩:=h1.cell;have i1:=kj (wQ g1);have i2:=kj (ym g2);have ii:∀k,k<4->∀z,own k z->z∈eb bQ:=λk hk z bU=>by obtain⟨_,_,bW⟩:=g3.has k hk;exact bW.pA z bU
 refine⟨⟨cH.1,cH.2,?_⟩,⟨⟨zC,fv,own,?_,?_,g3.congr (λz bU=>?_) λk hk z bU=>hold z _ _ _ _ (ii k hk z bU),⟨λh=>oh _ h i1,λh=>oh _ h i2⟩,λk hk z bU h=>oh z h (ii k hk z bU)⟩,λz bU=>?_⟩,⟨?_,[],?_,.nil,λt=>?_⟩,⟨(default:jP).iM,?_,λj aB=>?_⟩⟩
 ·unfold hR;rw[lp,bh I]
 ·rw[HC (hold t _ _ _ _ i1)];exact g1
 ·rw[HD (hold zC _ _ _ _ i2)];exact g2
 ·exact gA _ (gA _ (gA _ (gA _ bU)))
 ·rcases bU with rfl|rfl|rfl|rfl
  ·exact jC
  ·exact gA _ (gA _ jC)
  ·exact gA _ (gA _ (gA _ jC))
  exact gA _ jC
 ·unfold qE;rw[lp,bf TL,lp,bf atL,lp,bh I]
 ·unfold qF;rw[lp,bf atN,lp,bf B7,lp,bf Jq,lp,bh I]
 ·rw[bh ⟨rfl,rfl⟩];rfl
 ·unfold oE;rw[lp,bf atM,lp,bh I]
 show bG (default:Vector Int 6) j=0;have:j=0∨j=1∨j=2:=by omega
 rcases this with rfl|rfl|rfl <;> rfl
inductive oo(s:aZ)(jj:Nat):List gm->List cn->(Nat->List aH)->Int->Prop
 |nil {ls:Nat->List aH} {next:Int} {y:cn} (h:iC s ls next y):oo s jj [] [y] ls next
 |snoc {js:List gm} {ys:List cn} {ls Fl ls':Nat->List aH} {next next':Int} {mf:gm} {nP:cn} (h:oo s jj js ys ls next) (p:l1 Fl ls) (u:zl s jj Fl next mf ls' next') (cW:iC s ls' next' nP):
  oo s jj (js++[mf]) (ys++[nP]) ls' next'
section
variable{s:aZ}{hp:aL Cell}{P:sN}{ls bI:Nat->aa aH}{next:Int}{js:aa gm}{ys:aa cn}{y:cn}{jj:Nat}
def oo.len(h:oo s jj js ys ls next):ys.length=js.length+1:=by
 induction h with
 |nil _=>rfl
 |snoc _ _ _ _ cj=>rw[gJ,gJ,cj];rfl
def oo.last(h:oo s jj js ys ls next):iC s ls next (ax ys js.length):=by
 cases h with
 |nil h=>exact h
 | snoc h p u cW=>
   rw[LS,bh (by rw[gJ,h.len];rfl)]
   exact cW
def oo.back{mf:gm}(h:oo s jj (js++[mf]) ys ls next):∃N4 Fl Oj,oo s jj js (ys.take (js.length+1)) N4 Oj∧l1 Fl N4∧zl s jj Fl Oj mf ls next:=by
 generalize aB:js++[mf]=avL at h;cases h with
 |nil _=>exact absurd aB (by simp)
 | snoc h p u cW=>
   obtain⟨rfl,e⟩:=List.append_inj' aB I
   cases e
   refine⟨_,_,_,?_,p,u⟩
   rw[<-h.len,GJ];exact h
def ZX(hs:b7 s)(aG:jV s)(h:jB s hp P bI next js)(aB:js.length<=1000)(c:oo s P.x js ys ls next)(p:l1 bI ls)(mark:Int):
 cO (CE hp (some P.x) mark) (λr=> ∃j9 ls' next',jB s r P j9 next' (js.take (max 0 mark).toNat)∧oo s P.x (js.take (max 0 mark).toNat) (ys.take ((max 0 mark).toNat+1)) ls' next'∧l1 j9 ls'):=by
 generalize aM:(max 0 mark).toNat=n
 have E5:max 0 mark=(n:Int):=by omega
 have hlen:=c.len
 unfold CE
 refine .bind (P:=λe=> ∃j9 ls' next',jB s e.2 P j9 next' (js.take n)∧oo s P.x (js.take n) (ys.take (n+1)) ls' next'∧l1 j9 ls') (cO.loop (js.length-n) (λi st=> ∃j9 ls' next',jB s st P j9 next' (js.take (js.length-i))∧oo s P.x (js.take (js.length-i)) (ys.take (js.length-i+1)) ls' next'∧l1 j9 ls') (by omega) ⟨bI,ls,next,by rw[Nat.sub_zero,iD];exact h,by rw[Nat.sub_zero,<-hlen,iD,iD];exact c,p⟩ (λi st aq b1=>?_) λst b1=>?_) λe he=>.ret he
 ·obtain⟨j9,ls',next',g,gy,xG⟩:=b1
  obtain⟨a,b,b1⟩:=g.st
  have al:(js.take (js.length-i)).length=js.length-i:=by rw[eZ];omega
  obtain⟨d,hd⟩:∃d,js.length-i=d+1:=⟨js.length-i-1,by omega⟩
  rw[hd]at g gy b1 al
  have hw:bm (((js.take (d+1)).length:Int)-1)=(d:Int):=by rw[al,gN (by omega) (by omega)];omega
  refine .eq (a:=P.x) I (.eq b1 (.eq I (.cond (λ_=>?_) λae=>?_)))
  ·refine .idx (k:=d) hw (by rw[al];omega) (.idx (k:=d) hw (by rw[al];omega) (.eq I (.eq I ?_)))
   have adT:d<js.length:=by omega
   have atO:js.take (d+1)=js.take d++[ax js d]:=Qi adT
   have Ux:(js.take (d+1)).take d=js.take d:=by rw[rb,ou (by omega)]
   have NY:ax (js.take (d+1)) d=ax js d:=by rw[dh _ (by rw[al];omega),dh _ adT,F8]
   simp only[Ux,NY]
   rw[atO]at gy
   obtain⟨N4,Fl,Oj,o0,aem,J1⟩:=gy.back
   have atP:(js.take d).length=d:=by rw[eZ];omega
   rw[atP,rb,ou (by omega)]at o0
   have b9:=o0.last.perm aem
   refine .bind (amn hs aG (g.N0 (js':=js.take d) a b) (by omega) J1 b9 gy.last xG) λaE ad=>.ret ?_
   obtain⟨fQ,g2,bo⟩:=ad
   rw[show js.length-(i+1)=d by omega]
   exact⟨fQ,N4,Oj,g2,o0,bo.trans aem⟩
  simp only[nQ,al,E5]at ae
  omega
 obtain⟨j9,ls',next',g,gy,xG⟩:=b1
 obtain⟨a,b,b1⟩:=g.st
 refine .eq (a:=P.x) I (.eq b1 (.eq I (.cond (λae=>?_) λ_=>.ret ?_)))
 ·simp only[e5,eZ,E5]at ae
  omega
 by_cases p8:n<=js.length
 ·rw[show js.length-(js.length-n)=n by omega]at g gy
  exact⟨j9,ls',next',g,gy,xG⟩
 rw[show js.length-(js.length-n)=js.length by omega,iD]at g gy
 have ar:js.take n=js:=pH (by omega)
 have aS:ys.take (n+1)=ys:=pH (by omega)
 have cE:ys.take (js.length+1)=ys:=pH (by omega)
 rw[cE]at gy
 rw[ar,aS]
 exact⟨j9,ls',next',g,gy,xG⟩
end
section
variable{s:aZ}{hp:aL Cell}{P:sN}{ls bI:Nat->aa aH}{next:Int}{js:aa gm}{ys:aa cn}{y:cn}{jj:Nat}
variable{A B:cx->Int}{N:Int->Int}
def Qz(hs:b7 s)(aT:y.gT=s){e:bl}(he:e.bF=9):ub y e=some (-1):=by
 refine ba.get ?_;unfold ub x3;rw[aT,he];have al:=hs.lP;refine .bind (P:=λr=>r= -1) ((ME hs).bind λr aG=>?_) λr aG=>.ret aG;rw[aG.tables];refine(ZH _ 9 (by rw[kQ];omega)).bind λr aG=>.ret ?_;rcases aG with⟨rfl,_⟩|⟨k,hk,rfl,he⟩
 ·rfl
 rw[kQ,al]at hk;rw[AL _ (by omega),(hs.fF hk).1]at he;omega
def ai6(h:ie s hp P bI next js A B N){e:bl}(he:e.bF=9)(gI:Int):cO (tX hp (some P.x) e gI) (λr=>r=(6,hp)):=by
 obtain⟨a0,o0,bC⟩:=h.st;unfold tX;refine .cond (λae=>by cases ae) λ_=>.eq (a:=P.x) I (.eq bC (.bind (P:=λr=>r=(0,6,hp)) ?_ λao h1=>?_))
 ·unfold C0;rw[he];exact .eq (L5 h.kU.ok (.inr (by omega))) (.cond (λ_=>.ret I) λae=>by cases ae)
 subst h1;exact .cond (λ_=>.ret I) λae=>by simp at ae
def Zo(h:ie s hp P bI next js A B N){e:bl}(he:e.bF=9):cO (vl hp (some P.t) e) (λr=>r=(default,6,hp)):=by
 unfold vl;rw[he];exact .eq (L5 h.kU.ok (.inr (by omega))) (.cond (λ_=>.ret I) λae=>by cases ae)
def ai7(h:ie s hp P bI next js A B N){e:bl}(he:e.bF=9):cO (xQ hp (some P.x) e) (λr=>r=(6,hp)):=by
 obtain⟨a0,o0,bC⟩:=h.st;unfold xQ;refine .cond (λae=>by cases ae) λ_=>.eq (a:=P.x) I (.eq bC (.bind (Zo h he) λao h1=>?_));subst h1;exact .cond (λ_=>.ret I) λae=>by simp at ae
def ai8(h:ie s hp P bI next js A B N){e:bl}(he:e.bF=9):cO (xR hp (some P.x) e) (λr=>r=(6,hp)):=by
 obtain⟨a0,o0,bC⟩:=h.st;unfold xR zT;refine .cond (λae=>by cases ae) λ_=>.bind (P:=λr=>r.2.2=(6,hp)) (.eq (a:=P.x) I (.eq bC (.bind (P:=λr=>r.2=(6,hp)) ?_ λao h1=>?_))) λao h1=>?_
 ·unfold C2;refine .bind (Zo h he) λao h1=>?_;subst h1;exact .cond (λ_=>.ret I) λae=>by simp at ae
 ·obtain⟨i,r⟩:=ao;simp only at h1;subst h1;exact .cond (λ_=>.ret I) λae=>by simp at ae
 obtain⟨i,k,r⟩:=ao;simp only at h1;subst h1;exact .cond (λ_=>.ret I) λae=>by simp at ae
def ahw(hs:b7 s)(aT:y.gT=s)(al:y.bE.length<=1000){e:bl}(he:e.bF=9)(gI:Int):ba (x6 y e gI) (λr=>r=(6,y)):=by
 unfold x6;refine .eq (RX al) (.bind (P:=λr=>r.2.1=6) ?_ λaE ad=>?_)
 ·unfold CY;exact .eq (Qz hs aT he) (.cond (λ_=>.ret I) λae=>by cases ae)
 obtain⟨n,k,r⟩:=aE;simp only at ad;subst ad;exact .cond (λ_=>.ret I) λae=>by simp at ae
def ahx(hs:b7 s)(aT:y.gT=s){e:bl}(he:e.bF=9):ba (xU y e) (λr=>r.2=(6,y)):=by
 unfold xU;exact .eq (Qz hs aT he) (.cond (λ_=>.ret I) λae=>by cases ae)
def ahy(hs:b7 s)(aT:y.gT=s){e:bl}(he:e.bF=9):ba (xV y e) (λr=>r.2=(6,y)):=by
 unfold xV;exact .eq (Qz hs aT he) (.cond (λ_=>.ret I) λae=>by cases ae)
def yU(s:aZ)(P:sN)(bI:Nat->aa aH)(next:Int)(js:aa gm)(y:cn)(a b:Int)(nP:cn)(hp':aL Cell):Prop:=
 a=b∧((b=0∧∃mf j9 next',jB s hp' P j9 next' (js++[mf])∧zl s P.x bI next mf j9 next'∧iC s j9 next' nP∧next'<=next+1)∨(b≠0∧jB s hp' P bI next js∧nP=y))
def iC.N5(h:iC s bI next y){next':Int}(aM:next<=next'){nP:cn}{k:Nat}(hk:k<4){l:aa aH}(g:jB s hp P (fg bI k l) next' js)(aG:j5 s nP (fg bI k l) next')(al:l.length<=12)
 (aY:∀i∈l,n2 i.aX∧(rx i.dJ).isSome=true∧i.b0<next') (hq:∀x j,rx x=some j->gS (da (fg bI k l)) x<=(ax s.e0 j).kh):iC s (fg bI k l) next' nP:=by
 refine⟨aG,⟨λj aB=>g.kU.ok.gd aB,λj aB=>?_⟩,λj aB=>?_,hq,by have:=h.Ko;omega⟩
 ·by_cases e:j=k
  ·subst e;rw[jF];exact al
  rw[kl e];exact h.ok.len j aB
 by_cases e:j=k
 ·subst e;rw[jF];exact aY
 rw[kl e];exact λi aq=>⟨(h.arg j aB i aq).1,(h.arg j aB i aq).2.1,by have:=(h.arg j aB i aq).2.2;omega⟩
def ao6(hs:b7 s)(aG:jV s)(h:jB s hp P bI next js)(cL:iC s bI next y)(aB:js.length<=1000)(aM:next<100000){k:Nat}(hk:k<4){e:bl}(he:fE s k e)(aY:n2 e)(gI:Int):
 cO (aj.bind (tX hp (some P.x) e gI) λb4=>aj.bind (aj.of (x6 y e gI)) λdH=>aj.ret (b4,dH)) (λr=>yU s P bI next js y r.1.1 r.2.1 r.2.2 r.1.2):=by
 have mw:=cL.Ko
 have fo:=cL.ok.len k hk
 refine .bind (Yy hs aG h (cL.Kp aG aB) hk he aY gI (λi aq=>(cL.arg k hk i aq).2.2) (by omega) ⟨mw,by omega⟩) λb4 c9=>.hc (Xf hs cL.r cL.ok hk he gI ⟨by omega,by omega⟩) λdH dD=>.ret ?_
 by_cases aW:(dw (bI k) e).isSome=true
 ·rw[bh aW]at c9 dD
  subst c9 dD
  exact⟨rfl,.inr ⟨by simp,h,rfl⟩⟩
 rw[bf aW]at c9 dD
 by_cases bU:(ax s.bL k).ij<=((bI k).length:Int)
 ·rw[bh bU]at c9 dD
  subst c9 dD
  exact⟨rfl,.inr ⟨by simp,h,rfl⟩⟩
 rw[bf bU]at c9 dD
 have ee:=(hs.size hk).2
 by_cases k9:room s (gS (da bI)) gI=true
 ·rw[bh k9]at c9 dD
  obtain⟨r5,g8⟩:=c9
  obtain⟨qj,Cq⟩:=dD
  have hp:=rq (ls:=bI) hk ({aX:=e,b0:=next,dJ:=gI}:aH)
  have g:=g8.to (AD.trans (ye hp)) (AE.trans (yf hp)) (s4.trans (rn hp))
  have xt:dw (bI k) e=none:=by
   cases hq:dw (bI k) e with
   |none=>rfl
   |some _=>rw[hq]at aW;exact absurd I aW
  have E3:∃j,rx gI=some j∧gS (da bI) gI<(ax s.e0 j).kh:=by
   unfold room at k9;split at k9
   ·rename_i j aB;exact⟨j,aB,xP k9⟩
   cases k9
  obtain⟨j,aB,hq⟩:=E3
  refine⟨r5.trans qj.symm,.inl ⟨qj,_,_,_,g,.ins (i:=⟨e,next,gI⟩) hk ⟨he⟩ aY xt,cL.N5 (by omega) hk g Cq (by rw[gJ];simp only[List.length_cons,List.length_nil];omega) (λi aq=>?_) (λx pE pw=>?_),x2 _⟩⟩
  ·rcases cF.1 aq with aq|aq
   ·have:=cL.arg k hk i aq
    exact⟨this.1,this.2.1,by omega⟩
   rw[hx]at aq
   subst aq
   exact⟨aY,by rw[aB];rfl,by simp only;omega⟩
  rw[<-rn hp,<-s4]
  unfold bump
  by_cases ar:x=gI
  ·subst ar
   rw[bh I]
   rw[aB]at pw;cases pw
   simp only;omega
  rw[bf ar];exact cL.quo x pE pw
 rw[bf k9]at c9 dD
 obtain⟨r5,g8⟩:=c9
 subst dD
 rw[Qe]at g8
 exact⟨r5,.inr ⟨by simp,g8,rfl⟩⟩
def ao7(hs:b7 s)(aG:jV s)(h:jB s hp P bI next js)(cL:iC s bI next y)(aB:js.length<=1000){k:Nat}(hk:k<4){e:bl}(he:fE s k e)(aY:n2 e):
 cO (aj.bind (xR hp (some P.x) e) λb4=>aj.bind (aj.of (xU y e)) λdH=>aj.ret (b4,dH)) (λr=>yU s P bI next js y r.1.1 r.2.2.1 r.2.2.2 r.1.2):=by
 have fo:=cL.ok.len k hk
 refine .bind (ajY hs aG h (cL.Kp aG aB) hk he aY (λi aq=>(cL.arg k hk i aq).1) (by omega)) λb4 c9=>.hc (aj3 hs cL.r cL.ok hk he) λdH dD=>.ret ?_
 cases aW:dw (bI k) e with
 | none=>
   rw[aW]at c9 dD
   rw[Mn aW,Qe]at c9
   exact⟨c9.1.trans dD.1.symm,.inr ⟨by rw[dD.1];simp,c9.2,dD.2⟩⟩
 | some i=>
   rw[aW]at c9 dD
   obtain⟨r5,g8⟩:=c9
   obtain⟨qj,Cq⟩:=dD
   obtain⟨hm,tN⟩:=o7 aW
   have iG:=cL.ok.gd k hk
   have bQ:(da (fg bI k (db (bI k) e))++[i]).Perm (da bI):=by
    have bc:=rq (ls:=fg bI k (db (bI k) e)) hk i;rw[jF,wF]at bc;refine bc.trans (AG λj aB=>?_);by_cases ar:j=k
    ·subst ar;rw[jF];exact yg iG hm tN
    rw[kl ar]
   have cZ:=rq (ls:=fg bI k (db (bI k) e)) hk ({aX:=e,b0:=i.b0,dJ:=i.dJ}:aH)
   rw[jF,wF]at cZ
   have jz:gS (da bI)=gS (da (fg bI k (db (bI k) e++[({aX:=e,b0:=i.b0,dJ:=i.dJ}:aH)]))):=by
    rw[<-rn bQ,<-rn cZ,<-s4,<-s4]
   have g:jB s b4.2 P (fg bI k (db (bI k) e++[{aX:=e,b0:=i.b0,dJ:=i.dJ}])) next (js++[⟨.xn (some P.x) i.aX⟩]):=g8.to (by rw[LL bQ];exact AD.trans (ye cZ)) (by rw[LM bQ];exact AE.trans (yf cZ)) jz
   have atQ:=cL.arg k hk i hm
   refine⟨r5.trans qj.symm,.inl ⟨qj,_,_,_,g,.mod hk hm he aY tN,cL.N5 (x2 _) hk g Cq ?_ (λc ae=>?_) (λx j aB=>by rw[<-jz];exact cL.quo x j aB),by omega⟩⟩
   ·have:=(yg iG hm tN).length_eq
    rw[gJ]at this⊢
    simp only[List.length_cons,List.length_nil]at this⊢
    omega
   rcases cF.1 ae with ae|ae
   ·exact cL.arg k hk c (nW.1 ae).1
   rw[hx]at ae
   subst ae
   exact⟨aY,atQ.2⟩
def ao8(hs:b7 s)(aG:jV s)(h:jB s hp P bI next js)(cL:iC s bI next y)(aB:js.length<=1000){k:Nat}(hk:k<4){e:bl}(he:fE s k e):
 cO (aj.bind (xQ hp (some P.x) e) λb4=>aj.bind (aj.of (xV y e)) λdH=>aj.ret (b4,dH)) (λr=>yU s P bI next js y r.1.1 r.2.2.1 r.2.2.2 r.1.2):=by
 have fo:=cL.ok.len k hk
 refine .bind (ajZ hs aG h (cL.Kp aG aB) hk he λi aq=>⟨(cL.arg k hk i aq).1,(cL.arg k hk i aq).2.1,Yz (L7.2 ⟨k,hk,aq⟩)⟩) λb4 c9=>.hc (aj2 hs cL.r cL.ok hk he) λdH dD=>.ret ?_
 cases aW:dw (bI k) e with
 | none=>
   rw[aW]at c9 dD
   rw[Mn aW,Qe]at c9
   exact⟨c9.1.trans dD.1.symm,.inr ⟨by rw[dD.1];simp,c9.2,dD.2⟩⟩
 | some i=>
   rw[aW]at c9 dD
   obtain⟨r5,g8⟩:=c9
   obtain⟨qj,Cq⟩:=dD
   obtain⟨hm,tN⟩:=o7 aW
   have iG:=cL.ok.gd k hk
   have Nv:fG e i.aX=true:=by rw[s9];exact tN
   rw[Zn Nv]at g8 Cq
   have bQ:(da (fg bI k (db (bI k) i.aX))++[i]).Perm (da bI):=by
    have bc:=rq (ls:=fg bI k (db (bI k) i.aX)) hk i;rw[jF,wF]at bc;refine bc.trans (AG λj aB=>?_);by_cases ar:j=k
    ·subst ar;rw[jF];exact yg iG hm (oB _)
    rw[kl ar]
   have g:=g8.to (LL bQ) (LM bQ) (XK bQ)
   refine⟨r5.trans qj.symm,.inl ⟨qj,_,_,_,g,.del hk hm,cL.N5 (x2 _) hk g Cq (mi (L6 _ _) fo) (λc ae=>cL.arg k hk c (nW.1 ae).1) (λx j aB=>?_),by omega⟩⟩
   have:=cL.quo x j aB
   rw[<-rn bQ,<-s4]at this
   unfold bump at this
   by_cases ar:x=i.dJ
   ·rw[bh ar,<-ar]at this;omega
   rw[bf ar]at this;exact this
def amo(hs:b7 s)(aG:jV s)(h:jB s hp P bI next js)(cL:iC s bI next y)(aB:js.length<=1000)(aM:next<100000)(c:dx)(ae:gZ c):
 cO (Hx hp (some P.x) y c) (λr=>r.1=true∧gZ r.2.2.2.1∧yU s P bI next js y (if r.2.1=true then 0 else 1) (if r.2.1=true then 0 else 1) r.2.2.1 r.2.2.2.2):=by
 unfold Hx
 have adU:=cL.r.len cL.ok
 refine .hc (gL c 4 ae (by omega)) λao h1=>?_
 rw[cL.r.oS]
 refine .hc (ba.par (aiE ao.2 ao.1 h1.1 hs) (ai3 ao.2 hs ao.1)) λaE ad=>?_
 obtain⟨⟨c2,bu,c0,_,oQ⟩,po⟩:=ad
 refine .bind (P:=λbg=>gZ bg.2∧(bg.1=true->0<y.bE.length)) (.cond (λal=>?_) λ_=>.ret ⟨c2,λbW=>by cases bW⟩) λbg az=>?_
 ·exact .of ((qt _ c2).mono λr aG=>⟨aG,λ_=>by simp at al;exact al⟩)
 refine .hc (P:=λm=>gZ m.1∧∃k,k<4∧fE s k m.2∧n2 m.2) (.cond (λhb=>?_) λ_=>.ret ⟨az.1,bu,c0,oQ,po⟩) λm1 bR=>?_
 ·simp only[gl]at hb
  have avj:=az.2 hb.2
  refine .bind (gL _ _ az.1 (by omega)) λiX v8=>.eq (wM v8.2.1 v8.2.2.1) ?_
  have tL:iX.1.toNat<y.bE.length:=by have:=v8.2.1;have:=v8.2.2.1;omega
  obtain⟨U2,Uy,atS,JX⟩:=cL.r.dp cL.ok (sc tL)
  have atT:=(cL.arg U2 Uy _ atS).1
  refine .bind (P:=λm=> ∃k,k<4∧fE s k m∧n2 m) (.cond (λ_=>.eq I (.ret ⟨U2,Uy,?_,po⟩)) λ_=>.ret ⟨U2,Uy,JX.dp,atT⟩) λm hm=>.ret ⟨v8.1,hm⟩
  exact⟨JX.dp.fF,JX.dp.len,JX.dp.xx,oQ.args,JX.dp.pri⟩
 obtain⟨atU,k,hk,he,aY⟩:=bR
 refine .hc (gL _ 12 atU (by omega)) λb3 bc=>.hc (P:=λm=>m.bF=9∨(fE s k m∧n2 m)) (.cond (λ_=>.ret (.inl I)) λ_=>.ret (.inr ⟨he,aY⟩)) λm2 c6=>?_
 refine .hc (gL _ 5 bc.1 (by omega)) λcd bq=>.hc (P:=λ_=>True) (.cond (λ_=>.ret lL) λ_=>.bind (P:=λ_=>True) (.cond (λ_=>.ret lL) λ_=>.ret lL) λ_ _=>.ret lL) λm3 _=>?_
 have fin:∀(a b:Int) (nP:cn) (hp':aL Cell) (gy:dx),gZ gy->yU s P bI next js y a b nP hp'->(a==b)=true∧gZ gy∧yU s P bI next js y (if (b==0)=true then 0 else 1) (if (b==0)=true then 0 else 1) nP hp':=λa b nP hp' gy nJ hd=>by
  refine⟨by simp[hd.1],nJ,rfl,?_⟩;by_cases e:b=0
  ·rw[bh (by simp[e])];rcases hd.2 with h1|h1
   ·exact .inl ⟨rfl,h1.2⟩
   exact absurd e h1.1
  rw[bf (by simp[e])];rcases hd.2 with h1|h1
  ·exact absurd h1.1 e
  exact .inr ⟨by simp,h1.2⟩
 refine .bind (P:=λm4=>gZ m4.2.2.1∧yU s P bI next js y m4.1 m4.2.1 m4.2.2.2.1 m4.2.2.2.2) (.cond (λ_=>?_) λ_=>.bind (P:=λm5=>yU s P bI next js y m5.1 m5.2.1 m5.2.2.1 m5.2.2.2) (.cond (λ_=>?_) λ_=>?_) λm5 bc=>.ret ⟨bq.1,bc⟩) λm4 aV=>.ret (fin _ _ _ _ _ aV.1 aV.2)
 ·refine .hc (gL _ 5 bq.1 (by omega)) λcA c7=>.eq (wM c7.2.1 (by simpa using c7.2.2.1)) ?_
  rcases c6 with c6|⟨c6,po⟩
  ·refine .bind (ai6 h c6 _) λb4 c9=>.hc (ahw hs cL.r.oS (by omega) c6 _) λdH dD=>.ret ?_
   subst c9 dD
   exact⟨c7.1,rfl,.inr ⟨by simp,h,rfl⟩⟩
  have hd:=ao6 hs aG h cL aB aM hk c6 po (ax ([1,1,2,7,5]:aa Int) cA.1.toNat)
  exact λQ xJ=>hd (λr=>Q (r.1.1,r.2.1,cA.2,r.2.2,r.1.2)) λr aG=>xJ _ ⟨c7.1,aG⟩
 ·rcases c6 with c6|⟨c6,po⟩
  ·refine .bind (ai8 h c6) λb4 c9=>.hc (ahx hs cL.r.oS c6) λdH dD=>.ret ?_
   obtain⟨z,dH⟩:=dH
   simp only at dD;subst c9 dD
   exact⟨rfl,.inr ⟨by simp,h,rfl⟩⟩
  have hd:=ao7 hs aG h cL aB hk c6 po
  exact λQ xJ=>hd (λr=>Q (r.1.1,r.2.2.1,r.2.2.2,r.1.2)) λr aG=>xJ _ aG
 rcases c6 with c6|⟨c6,po⟩
 ·refine .bind (ai7 h c6) λb4 c9=>.hc (ahy hs cL.r.oS c6) λdH dD=>.ret ?_
  obtain⟨z,dH⟩:=dH
  simp only at dD;subst c9 dD
  exact⟨rfl,.inr ⟨by simp,h,rfl⟩⟩
 have hd:=ao8 hs aG h cL aB hk c6
 exact λQ xJ=>hd (λr=>Q (r.1.1,r.2.2.1,r.2.2.2,r.1.2)) λr aG=>xJ _ aG
end
section
variable{s:aZ}{hp:aL Cell}{P:sN}{ls bI:Nat->aa aH}{next:Int}{js:aa gm}{ys:aa cn}{y:cn}{jj:Nat}
def HP(h:jB s hp P bI next js):wj hp (some P.x)=some (some P.t):=by
 obtain⟨a,b,h1⟩:=h.st;refine ba.get ?_;unfold wj;exact .cond (λae=>by cases ae) λ_=>.eq rfl (.eq h1 (.ret rfl))
def ZY(h:jB s hp P bI next js):zY hp (some P.x)=some next:=by
 refine ba.get ?_;unfold zY;exact .eq (HP h) (.eq (ald h.kU.ok) (.ret I))
def ao9(hs:b7 s)(h:jB s hp P bI next js)(cL:iC s bI next y):cO (Dd hp (some P.x)) (λr=>r=(y.bE,hp)):=by
 unfold Dd;refine .eq (HP h) (.bind (aml hs h.kU.ok cL.r cL.ok) λr aG=>.ret ?_);subst aG;rfl
def amp(hs:b7 s)(h:jB s hp P bI next js):CW hp (some P.x)=some [⟨1,gS (da bI) 1⟩,⟨2,gS (da bI) 2⟩,⟨7,gS (da bI) 7⟩]:=by
 obtain⟨a,b,h1⟩:=h.st;refine ba.get ?_;unfold CW;exact .cond (λae=>by cases ae) λ_=>.eq rfl (.eq h1 ((ao5 hs h.quo).bind λr aG=>.ret aG))
def abr(hs:b7 s)(aG:jV s):iC s (λ_=>[]) 1 ⟨s,[],1⟩:=by
 refine⟨⟨rfl,rfl,.nil,.refl _⟩,⟨λk hk=>⟨⟨λi aq=>by simp at aq,.nil,by simp⟩,.nil⟩,λk hk=>by simp⟩,λk hk i aq=>by simp at aq,λx j aB=>?_,by simp⟩;have:=aG.quo _ (sc (show j<s.e0.length by rw[hs.pn];exact Bh aB));exact this
def ZZ(hs:b7 s)(aG:jV s)(h:jB s hp P bI 1 [])(cL:iC s bI 1 y)(he:l1 bI λ_=>[]):
 cO (tX hp (some P.x) Fk 1) (λr=>r.1=0∧∃mf j9 nP,jB s r.2 P j9 2 [mf]∧zl s P.x bI 1 mf j9 2∧iC s j9 2 nP):=by
 have p1:∀k,k<4->bI k=[]:=λk hk=>(he k hk).eq_nil
 have w6:da bI=[]:=by unfold da;rw[p1 0 (by decide),p1 1 (by decide),p1 2 (by decide),p1 3 (by decide)];rfl
 have aW:dw (bI 0) Fk=none:=by rw[p1 0 (by decide)];rfl
 have ee: ¬(ax s.bL 0).ij<=((bI 0).length:Int):=by
  have:=(hs.size (k:=0) (by decide)).1;rw[p1 0 (by decide)];simp;omega
 have k9:room s (gS (da bI)) 1=true:=by
  rw[w6];show decide ((0:Int)<(ax s.e0 0).kh)=true;rw[aG.all];decide
 have aM:(dw (bI 0) Fk).isSome=false:=by rw[aW];rfl
 refine(Yy hs aG h (cL.Kp aG (by simp)) (k:=0) (by decide) (RU hs) (λbW=>by rcases bW with bW|bW <;> cases bW) 1 (λi aq=>by rw[p1 0 (by decide)]at aq;cases aq) (by rw[p1 0 (by decide)];decide) ⟨by omega,by omega⟩).mono λr c9=>?_
 obtain⟨Cq,qj,dD⟩:=Xf hs cL.r cL.ok (k:=0) (by decide) (RU hs) 1 ⟨by omega,by omega⟩
 rw[bf (by rw[aM];simp),bf ee,bh k9]at c9 dD
 obtain⟨r5,g8⟩:=c9
 have hp:=rq (ls:=bI) (k:=0) (by decide) ({aX:=Fk,b0:=1,dJ:=1}:aH)
 have g:=g8.to (AD.trans (ye hp)) (AE.trans (yf hp)) (s4.trans (rn hp))
 refine⟨r5,_,_,_,g,.ins (k:=0) (i:=⟨Fk,1,1⟩) (by decide) ⟨RU hs⟩ (λbW=>by rcases bW with bW|bW <;> cases bW) aW,cL.N5 (by omega) (by decide) g dD.2 (by rw[p1 0 (by decide)];simp) (λi aq=>?_) λx j aB=>?_⟩
 ·rw[p1 0 (by decide),List.nil_append,hx]at aq
  subst aq
  exact⟨λbW=>(by rcases bW with bW|bW <;> cases bW),rfl,by simp only;omega⟩
 rw[<-rn hp,<-s4,w6]
 unfold bump
 by_cases ar:x=1
 ·subst ar
  cases aB
  rw[bh I,aG.all];decide
 rw[bf ar]
 have:=aG.quo _ (sc (show j<s.e0.length by rw[hs.pn];exact Bh aB))
 exact this
def ai9(hp:aL Cell):cO (Hr hp) (λr=>r.1=true):=by
 unfold Hr;refine .hc (QW [] 0 (by omega) (by omega)) λao h1=>.hc (ba.par (W5 ao h1) (Xd ao)) λaE ad=>?_;obtain⟨⟨hs,_⟩,aG⟩:=ad;refine .bind (abq hs aG hp) λbg az=>?_;obtain⟨P,cE,g0⟩:=az;obtain⟨avk,iS⟩:=bg;simp only at cE g0;subst cE;refine .eq I ?_;have b9:=abr hs aG;refine .bind (ZZ hs aG g0 b9 .refl) λbt aV=>?_;obtain⟨eK,mf,bI,nP,g1,Ol,s1⟩:=aV;have c1:oo aE.1 P.x [mf] [⟨aE.1,[],1⟩,nP] bI 2:=.snoc (js:=[]) (ys:=[⟨aE.1,[],1⟩]) (.nil b9) .refl Ol s1;refine .bind (ZX hs aG g1 (by simp) c1 .refl 0) λb3 bc=>?_;obtain⟨fQ,ls',r1,g2,c2,bo⟩:=bc;have g2:jB aE.1 b3 P fQ r1 []:=g2;have c2:oo aE.1 P.x [] [⟨aE.1,[],1⟩] ls' r1:=c2;have cL:iC aE.1 ls' r1 ⟨aE.1,[],1⟩:=c2.last;have hv:r1=1:=cL.r.num.symm;subst hv;have BO:l1 ls' λ_=>[]:=by
  have h:=cL.r.qd;intro k hk;have p1:da ls'=[]:=h.symm.eq_nil;have:ls' k=[]:=by
   cases al:ls' k with
   |nil=>rfl
   | cons i r=>
     have:i∈da ls':=L7.2 ⟨k,hk,by rw[al];exact jC⟩
     rw[p1]at this;cases this
  rw[this]
 refine .bind (ZZ hs aG g2 (cL.perm bo) (bo.trans BO)) λcd bq=>?_;obtain⟨ma,atV,avl,avm,g6,_,_⟩:=bq;obtain⟨aum,aun,atW⟩:=g6.st;rw[eK,ma];refine .eq (a:=P.x) I (.eq (a:=(⟨some P.t,some P.r,some P.q,[atV]⟩,aum,aun)) (by unfold bV;exact(bh (by rfl)).trans atW) (.eq (a:=(1:Int)) I (.eq (a:=(2:Int)) ?_ (.ret I))));unfold bV;exact(bh (by rfl)).trans (ZY g6)
end
def jO:cx->cx->Int:=jW (λx y=>eP x.bF y.bF) (jW (λx y=>eP x.e6 y.e6) (λx y=>eP (gC x.b6) (gC y.b6)))
def vI:mI jO:=(tp.on λx:cx=>x.bF).jW ((tp.on λx:cx=>x.e6).jW (tp.on λx:cx=>gC x.b6))
def Re{x y:cx}(h:jO x y=0):x=y:=by
 obtain⟨h1,ad⟩:=wH h;obtain⟨ad,az⟩:=wH ad;have ar:=k2.1 h1;have aS:=k2.1 ad;have cE:=A5 (k2.1 az);obtain⟨a,b,c⟩:=x;obtain⟨iI,b',gy⟩:=y;simp only at ar aS cE;subst ar aS cE;rfl
def apa{x y z:cx}(h1:jO x y<0)(ad:jO y z<0):jO x z<0:=by
 have az:=vI.oi x y z (by omega) (by omega);by_cases e:jO x z=0
 ·have:=Re e;subst this;have:=vI.neg x y;omega
 omega
def Zp:∀{xs ys:aa cx},xs.Pairwise (λa b=>jO a b<0)->ys.Pairwise (λa b=>jO a b<0)->(∀x,x∈xs↔x∈ys)->xs=ys
 |[],[],_,_,_=>rfl
 |[],y::t,_,_,h=>by have:=(h y).2 jC;cases this
 |x::r,[],_,_,h=>by have:=(h x).1 jC;cases this
 | x::r,y::t,h1,ad,h=>by
   obtain⟨bX,a2⟩:=kz.1 h1;obtain⟨dM,eF⟩:=kz.1 ad;have e:x=y:=by
    rcases dP.1 ((h x).1 jC)with e|au
    ·exact e
    rcases dP.1 ((h y).2 jC)with e|aT
    ·exact e.symm
    have g1:=bX y aT;have g2:=dM x au;have:=vI.neg x y;omega
   subst e;have hs:∀z,jO z z=0:=vI.self;rw[Zp a2 eF λz=>⟨λbU=>?_,λbU=>?_⟩]
   ·rcases dP.1 ((h z).1 (gA _ bU))with e|az
    ·subst e;have:=bX z bU;rw[hs]at this;omega
    exact az
   rcases dP.1 ((h z).2 (gA _ bU))with e|az
   ·subst e;have:=dM z bU;rw[hs]at this;omega
   exact az
def apb{l:aa Int}(al:l.length<=1000):Hu l=some (kT l):=by
 refine ba.get ?_;unfold Hu;refine .bind (P:=λe=>(∃q,e=.inl q∧kT l=0)∨∃q:Int×Int×Int×Bool×Bool,e=.inr q∧q.1=kT l)
  (ba.jH l.length (λj st=>st=(j:Int)∧kT l=kT (l.drop j)) (by omega) ⟨rfl,rfl⟩ (λj st aB hs=>?_) (λst hs=>?_)) λe he=>?_
 ·obtain⟨rfl,hs⟩:=hs;rw[q7 aB]at hs;have hs:kT l=if l[j]=0 then kT (l.drop (j+1))else l[j]:=hs;refine .cond (λ_=>.idx I aB ?_) λae=>by simp at ae;omega
  rw[dh _ aB];refine .cond (λae=>.ret (.inr ⟨_,rfl,?_⟩)) λae=>.ret ⟨dA (by omega),?_⟩
  ·have:l[j]≠0:=by simpa using ae
   rw[hs,bf this]
  have:l[j]=0:=by simpa using ae
  rw[hs,bh this]
 ·obtain⟨rfl,hs⟩:=hs;refine .cond (λae=>by simp at ae) λ_=>.ret (.inl ⟨_,rfl,?_⟩);rw[hs,r8];rfl
 rcases he with⟨q,rfl,hq⟩|⟨q,rfl,hq⟩
 ·simp only[Sum.elim_inl];exact .ret hq.symm
 simp only[Sum.elim_inr];exact .ret hq
def amq(a b:hW):Gk a b=some (jO a.cP b.cP):=by
 unfold Gk;rw[wS,wS,Ra];simp only[Option.bind_some];rw[apb (by simp)];simp only[Option.bind_some,kT,jO,jW];congr 1;split
 ·split
  ·split
   ·rename_i h;exact h.symm
   rfl
  rfl
 rfl
structure xK(T:List cx)(N M:List Int)(A B:cx->Int):Prop where
 wb:T.Pairwise (λa b=>jO a b<0)
 mem:∀x,x∈T↔¬(A x=0∧B x=0)
 n:N=T.map A
 m:M=T.map B
def xK.uniq{T U3:aa cx}{N M zD aen:aa Int}{A B:cx->Int}(h:xK T N M A B)(k:xK U3 zD aen A B):T=U3∧N=zD∧M=aen:=by
 have e:T=U3:=Zp h.wb k.wb λx=>by rw[h.mem,k.mem]
 subst e;exact⟨rfl,h.n.trans k.n.symm,h.m.trans k.m.symm⟩
def Rf{α β:Type}[DecidableEq α]:∀{l:aa (α×β)} {x:α} {v:β},pF l->(x,v)∈l->dG l x=some v
 | (k,w)::r,x,v,hk,h=>by
   obtain⟨h1,ad⟩:=kz.1 hk;show(if x=k then some w else dG r x)=some v;rcases dP.1 h with e|h
   ·cases e;exact bh I
   have:k≠x:=h1 (x,v) h;rw[bf (x8 this)];exact Rf ad h
def Z0{s:aZ}{hp:aL Cell}{p m:Nat}{A B:cx->Int}(h:mD s hp p m A B)(hlen:∀kv,qF hp m=some kv->kv.length<=1000):
 cO (Dk hp (some p)) (λr=>r.2=hp∧r.1.length<=1000∧xK (r.1.map (·.cP)) (r.1.map (·.ih)) (r.1.map (·.hy)) A B):=by
 obtain⟨em,ad,ko,bz⟩:=h.map
 have sy:=hlen em ad
 let F:Nat->hW:=λq=>⟨(ax em q).1,(ax em q).2.rp,(ax em q).2.rm⟩
 have yM:∀vis,Met em.length vis->(∀j,j<em.length->j∈vis)->(vis.map F).Perm (em.map λx=>(⟨x.1,x.2.rp,x.2.rm⟩:hW)):=λvis bb aY=>by
  refine((bb.perm aY).map _).trans ?_;rw[show(List.range em.length).map F=((List.range em.length).map (λq=>ax em q)).map (λx=>(⟨x.1,x.2.rp,x.2.rm⟩:hW)) by rw[sV];rfl,XF]
 unfold Dk
 refine .cond (λae=>by cases ae) λ_=>.eq rfl (.eq h.cell (.eq (a:=m) I (.eq ad ?_)))
 refine .bind (P:=λe=>e.2.2.Perm (em.map λx=>(⟨x.1,x.2.rp,x.2.rm⟩:hW))) (cO.loop em.length (λj st=> ∃vis,st=(vis,vis.map F)∧vis.length=j∧Met em.length vis) (by omega) ⟨[],rfl,rfl,.nil,by simp⟩ (λj st aB hs=>?_) (λst hs=>?_)) λe he=>?_
 ·obtain⟨vis,rfl,qV,bb⟩:=hs
  refine .next λo a6=>?_
  cases o with
  |none=>exact .cond (λae=>by cases ae) λ_=>.ret (yM vis bb a6)
  | some q=>
    refine .cond (λ_=>.eq I (.eq I (.eq (gq _ _ (by simp;omega) (by omega)) (.ret ⟨vis++[q],?_,by simp[qV],bb.more a6⟩)))) λae=>by cases ae
    rw[mh];rfl
 ·obtain⟨vis,rfl,qV,bb⟩:=hs
  refine .next λo a6=>?_
  cases o with
  |none=>exact .cond (λae=>by cases ae) λ_=>.ret (yM vis bb a6)
  |some q=>exact absurd (bb.full qV a6.1) a6.2
 have hle:=he.length_eq
 rw[kQ]at hle
 refine .bind (cO.wU (c:=λa b=>jO a.cP b.cP) ⟨λx y=>vI.neg _ _,λx y z=>vI.oi _ _ _⟩ (by omega) λa _ b _=>amq a b) λy aT=>.ret ?_
 have cc:y.Perm (em.map λx=>(⟨x.1,x.2.rp,x.2.rm⟩:hW)):=aT.1.trans he
 have q4:(y.map (·.cP)).Perm (em.map (·.1)):=by
  have:=cc.map (·.cP);rwa[sV]at this
 have hm:∀c∈y,∃x∈em,c=⟨x.1,x.2.rp,x.2.rm⟩:=λc ae=>by
  obtain⟨x,au,e⟩:=ig.1 (cc.mem_iff.1 ae);exact⟨x,au,e.symm⟩
 have bb:∀x∈em,¬(A x.1=0∧B x.1=0)∧x.2=⟨A x.1,B x.1⟩:=λx au=>by
  have dD:=bz x.1;rw[Rf ko au]at dD;split at dD
  ·cases dD
  rename_i bU;exact⟨bU,CS dD⟩
 have lU:(y.map (·.cP)).Nodup:=q4.nodup_iff.2 (CH.2 ko)
 refine⟨rfl,(by have:=cc.length_eq;rw[kQ]at this;show y.length<=1000;omega),⟨?_,λx=>?_,?_,?_⟩⟩
 ·have c9:(y.map (·.cP)).Pairwise (λa b=>jO a b<=0):=CH.2 aT.2
  refine(c9.and lU).imp λ{a b} Uw=>?_
  have:jO a b≠0:=λe=>Uw.2 (Re e)
  omega
 ·rw[q4.mem_iff,ig]
  constructor
  ·rintro ⟨z,bU,rfl⟩;exact(bb z bU).1
  intro au
  have dD:=bz x
  rw[bf au]at dD
  exact⟨_,Qv dD,rfl⟩
 ·rw[sV]
  refine FR λc ae=>?_
  obtain⟨x,au,rfl⟩:=hm c ae
  exact eI k0.rp (bb x au).2
 rw[sV]
 refine FR λc ae=>?_
 obtain⟨x,au,rfl⟩:=hm c ae
 exact eI k0.rm (bb x au).2
def ut(t:eT):cx:=⟨t.bF,t.e6,t.b6⟩
def RY{a b:eT}(h:ut a=ut b):a=b:=by
 obtain⟨x,y,z⟩:=a;obtain⟨avM,nP,avN⟩:=b;cases h;rfl
def aja(a b:eT):Hj a b=some (decide (jO (ut a) (ut b)<0)):=by
 refine ba.get ?_;unfold Hj;have e:jO (ut a) (ut b)=if eP a.bF b.bF=0 then(if eP a.e6 b.e6=0 then eP (gC a.b6) (gC b.b6)else eP a.e6 b.e6)else eP a.bF b.bF:=rfl;rw[e];refine .cond (λae=>.ret ?_) λae=>.cond (λhd=>.ret ?_) λhd=>(H7 _ _).bind λr aG=>.ret ?_
 ·have ae:a.bF≠b.bF:=by simpa using ae
  rw[bf λh=>ae (k2.1 h),ra,ID]
 ·have ae:a.bF=b.bF:=by simpa using ae
  have hd:a.e6≠b.e6:=by simpa using hd
  rw[bh (k2.2 ae),bf λh=>hd (k2.1 h),ra,ID]
 have ae:a.bF=b.bF:=by simpa using ae
 have hd:a.e6=b.e6:=by simpa using hd
 rw[bh (k2.2 ae),bh (k2.2 hd),ra];exact aG.1
def sO(R:aa eU):aa cx:=R.map λc=>ut c.cP
def oq(R:aa eU)(A B:cx->Int):Prop:=xK (sO R) (R.map (·.ih)) (R.map (·.hy)) A B
def aj5{α:Type}{r:α->α->Prop}{a b:aa α}{x:α}(h:(a++b).Pairwise r)(h1:∀c∈a,r c x)(ad:∀c∈b,r x c):(a++x::b).Pairwise r:=by
 rw[wi]at h⊢;refine⟨h.1,kz.2 ⟨ad,h.2.1⟩,λc ae d hd=>?_⟩;rcases dP.1 hd with rfl|hd
 ·exact h1 c ae
 exact h.2.2 c ae d hd
def ajb{α:Type}[Inhabited α]{l:aa α}{i:Nat}(aq:i<l.length)(v:α):ix l i v=l.take i++v::l.drop (i+1):=by unfold ix;exact List.set_eq_take_append_cons_drop .. |>.trans (bh aq)
def ah3{α:Type}[Inhabited α]{l:aa α}{i:Nat}(aq:i<l.length):l=l.take i++ax l i::l.drop (i+1):=by
 conv=>lhs;rw[<-gz i l]
 rw[q7 aq,dh _ aq]
def oq.el{R:aa eU}{A B:cx->Int}(h:oq R A B){c:eU}(ae:c∈R):c.ih=A (ut c.cP)∧c.hy=B (ut c.cP):=by
 have h1:=h.n;have ad:=h.m;unfold sO at h1 ad;rw[sV]at h1 ad;exact⟨KO.1 h1 _ ae,KO.1 ad _ ae⟩
def oq.ins{a m b:aa eU}{A B:cx->Int}(h:oq (a++m++b) A B){t:eT}{n p:Int}(Uz:n=1∧p=0∨n=0∧p=1)(eX:∀x,0<=A x∧A x<=100000)(eB:∀x,0<=B x∧B x<=100000)
 (hm:∀c∈m,c.cP=t) (h1:∀c∈a,jO (ut c.cP) (ut t)<0) (ad:∀c∈b,jO (ut t) (ut c.cP)<0):oq (a++⟨t,A (ut t)+n,B (ut t)+p⟩::b) (nf A (ut t) n) (nf B (ut t) p):=by
 have hs:∀z,jO z z=0:=vI.self
 have mF:∀c∈a,ut c.cP≠ut t:=λc ae e=>by have:=h1 c ae;rw[e,hs]at this;omega
 have Fv:∀c∈b,ut c.cP≠ut t:=λc ae e=>by have:=ad c ae;rw[e,hs]at this;omega
 have sy:∀c∈a++⟨t,A (ut t)+n,B (ut t)+p⟩::b,c.ih=nf A (ut t) n (ut c.cP)∧c.hy=nf B (ut t) p (ut c.cP):=λc ae=>by
  unfold nf;rcases cF.1 ae with ae|ae
  ·rw[bf (mF c ae),bf (mF c ae)];exact h.el (FM _ (FM _ ae))
  rcases dP.1 ae with rfl|ae
  ·rw[bh I,bh I];exact⟨rfl,rfl⟩
  rw[bf (Fv c ae),bf (Fv c ae)];exact h.el (Cy _ ae)
 refine⟨?_,λx=>?_,?_,?_⟩
 ·unfold sO
  rw[mh,nT]
  refine aj5 ?_ (λc ae=>?_) λc ae=>?_
  ·have az:=h.wb
   unfold sO at az
   rw[mh,mh]at az
   exact az.sublist ((List.sublist_append_left _ _).append (.refl _))
  ·obtain⟨d,hd,rfl⟩:=ig.1 ae;exact h1 d hd
  obtain⟨d,hd,rfl⟩:=ig.1 ae;exact ad d hd
 ·have hb:=eX x
  have qR:=eB x
  have au:=h.mem x
  unfold sO at au⊢
  simp only[mh,nT,cF,dP]at au⊢
  by_cases e:x=ut t
  ·have ar:nf A (ut t) n x=A x+n:=bh e
   have aS:nf B (ut t) p x=B x+p:=bh e
   rw[ar,aS]
   exact⟨λ_=>by omega,λ_=>.inr (.inl e)⟩
  have ar:nf A (ut t) n x=A x:=bf e
  have aS:nf B (ut t) p x=B x:=bf e
  rw[ar,aS,<-au]
  constructor
  ·rintro (az|az|az)
   ·exact .inl (.inl az)
   ·exact absurd az e
   exact .inr az
  rintro ((az|az)|az)
  ·exact .inl az
  ·obtain⟨d,hd,eK⟩:=ig.1 az
   rw[hm d hd]at eK;exact absurd eK.symm e
  exact .inr (.inr az)
 ·unfold sO;rw[sV];exact FR λc ae=>(sy c ae).1
 unfold sO;rw[sV];exact FR λc ae=>(sy c ae).2
def aj6{α:Type}(l:aa α){k:Nat}(hk:k<=l.length):mR l 0 (k:Int)=some (l.take k):=by
 unfold mR;rw[bh ⟨by omega,by omega,by omega⟩];simp
def aj7{α:Type}(l:aa α){k:Nat}(hk:k<=l.length):mR l (k:Int) (l.length:Int)=some (l.drop k):=by
 unfold mR;rw[bh ⟨by omega,by omega,by omega⟩];simp only[Int.toNat_natCast,gk];rw[pH (by rw[ke];omega)]
def put_eq{R:aa eU}{A B:cx->Int}(h:oq R A B)(t:eT){n p:Int}(Uz:n=1∧p=0∨n=0∧p=1)(hlen:R.length<=1000)(eX:∀x,0<=A x∧A x<=100000)(eB:∀x,0<=B x∧B x<=100000):
 ba (DM R t n p) (λwe=>we.length<=R.length+1∧oq we (nf A (ut t) n) (nf B (ut t) p)):=by
 have adV:∀i j,i<j->j<R.length->jO (ut (ax R i).cP) (ut (ax R j).cP)<0:=λi j gf aB=>by
  have:=Vb.1 (CH.1 h.wb) i j (by omega) aB gf;rw[dh _ aB,dh _ (by omega:i<R.length)];exact this
 have SK:∀i,i<=R.length->(∀q,q<i->jO (ut (ax R q).cP) (ut t)<0)->∀c∈R.take i,jO (ut c.cP) (ut t)<0:=λi aq hq c ae=>by
  obtain⟨q,jL,e⟩:=KC ae;rw[eZ]at jL;rw[F8]at e;have:=hq q (by omega);rw[dh _ (by omega:q<R.length),e]at this;exact this
 have abt:∀i k,i<R.length->k<=R.length->(∀q,k<=q->q<R.length->jO (ut t) (ut (ax R q).cP)<0)->∀c∈R.drop k,jO (ut t) (ut c.cP)<0:=λi k _ hk hq c ae=>by
  obtain⟨q,jL,e⟩:=KC ae;rw[ke]at jL;rw[List.getElem_drop]at e;have:=hq (k+q) (by omega) (by omega);rw[dh _ (by omega:k+q<R.length),e]at this;exact this
 unfold DM
 refine .bind (P:=λe=> ∃i:Nat,e.1=(i:Int)∧i<=R.length∧(∀q,q<i->jO (ut (ax R q).cP) (ut t)<0)∧(i<R.length->¬jO (ut (ax R i).cP) (ut t)<0))
  (ba.jH R.length (λj st=>st=(j:Int)∧∀q,q<j->jO (ut (ax R q).cP) (ut t)<0) (by omega) ⟨rfl,λq hq=>by omega⟩ (λj st aB hs=>?_) (λst hs=>?_)) λe he=>?_
 ·obtain⟨rfl,hs⟩:=hs
  have ae:decide ((j:Int)<(R.length:Int))=true:=by simpa using aB
  rw[ae]
  refine .eq (a:=j) (by unfold bV;rw[bh I];exact kk aB) (.eq (a:=decide (jO (ut (ax R j).cP) (ut t)<0)) (by unfold bV;rw[bh I];exact aja _ _) ?_)
  refine .cond (λhb=>.ret ⟨dA (by omega),λq hq=>?_⟩) λhb=>.ret ⟨j,rfl,by omega,hs,λ_=>by simpa using hb⟩
  rcases Nat.lt_succ_iff_lt_or_eq.1 hq with h1|h1
  ·exact hs q h1
  subst h1;simpa using hb
 ·obtain⟨rfl,hs⟩:=hs
  have ae:decide ((R.length:Int)<(R.length:Int))=false:=by simp
  rw[ae]
  refine .eq (a:=default) (by unfold bV;rfl) (.eq (a:=default) (by unfold bV;rfl) (.cond (λhb=>by simp at hb) λ_=>.ret ⟨R.length,rfl,iV _,hs,λbW=>by omega⟩))
 obtain⟨i,Cr,aq,hS,gE⟩:=he
 rw[Cr]
 have new:(∀c∈R.drop i,jO (ut t) (ut c.cP)<0)->ba ((mR R 0 (i:Int)).bind λaE=>(eM 48 ([]:aa eU) aE).bind λbg=>(eM 48 bg [{cP:=t,ih:=n,hy:=p:eU}]).bind λbt=>(mR R (i:Int) R.length).bind λb3=>(eM 48 bt b3).bind λcd=>some cd) (λwe=>we.length<=R.length+1∧oq we (nf A (ut t) n) (nf B (ut t) p)):=λhd=>by
  have fK: ¬ut t∈sO R:=λha=>by
   obtain⟨c,ae,e⟩:=ig.1 ha;rw[<-gz i R]at ae;rcases cF.1 ae with ae|ae
   ·have:=SK i aq hS c ae;rw[e,vI.self]at this;omega
   have:=hd c ae;rw[e,vI.self]at this;omega
  have bC:A (ut t)=0∧B (ut t)=0:=Decidable.not_not.1 λbW=>fK ((h.mem _).2 bW);have hJ:oq (R.take i++[]++R.drop i) A B:=by rw[ov,gz];exact h
  have:=hJ.ins Uz eX eB (λc ae=>by cases ae) (SK i aq hS) hd;rw[bC.1,bC.2,Int.zero_add,Int.zero_add]at this;refine .eq (aj6 R aq) (.eq (gq _ _ (by simp;omega) (by omega)) (.eq (gq _ _ (by simp;omega) (by omega)) (.eq (aj7 R aq) (.eq (gq _ _ (by simp;omega) (by omega)) (.ret ⟨?_,?_⟩)))))
  ·simp;omega
  rw[List.nil_append,iJ];exact this
 by_cases iG:i<R.length
 ·have ae:decide ((i:Int)<(R.length:Int))=true:=by simpa using iG
  rw[ae]
  refine .eq (a:=i) (by unfold bV;rw[bh I];exact kk iG) (.eq I ?_)
  simp only[qo]
  have T9:=gE iG
  refine .cond (λbU=>?_) λbU=>?_
  ·have bU:(ax R i).cP=t:=by simpa using bU
   have tG:=eX (ut t)
   have qR:=eB (ut t)
   have aM:=h.el (sc iG)
   rw[bU]at aM
   have u9:bm ((ax R i).ih+n)=A (ut t)+n:=by rw[aM.1];exact gN (by omega) (by omega)
   have Cl:bm ((ax R i).hy+p)=B (ut t)+p:=by rw[aM.2];exact gN (by omega) (by omega)
   refine .idx I iG (.idx I iG (.idx I iG (.eq I (.idx I (by unfold ix;simpa using iG) (.eq I (.ret ?_))))))
   have aS:ix (ix R i {ax R i with ih:=bm ((ax R i).ih+n)}) i {ax (ix R i {ax R i with ih:=bm ((ax R i).ih+n)}) i with hy:=bm ((ax R i).hy+p)} =R.take i++⟨t,A (ut t)+n,B (ut t)+p⟩::R.drop (i+1):=by
    rw[aiW iG,bh I,u9,Cl];have:ix (ix R i {ax R i with ih:=A (ut t)+n}) i { {ax R i with ih:=A (ut t)+n}with hy:=B (ut t)+p} =ix R i ⟨(ax R i).cP,A (ut t)+n,B (ut t)+p⟩:=by unfold ix;rw[List.set_set]
    rw[this,bU,ajb iG]
   rw[aS]
   have hJ:oq (R.take i++[ax R i]++R.drop (i+1)) A B:=by rw[iJ,List.singleton_append,<-ah3 iG];exact h
   refine⟨by rw[gJ,eZ,List.length_cons,ke];omega,hJ.ins Uz eX eB (λc ae=>by rw[hx.1 ae];exact bU) (SK i aq hS) (abt i (i+1) iG (by omega) λq az aV=>?_)⟩
   have:=adV i q (by omega) aV
   rw[bU]at this;exact this
  have bU:(ax R i).cP≠t:=by simpa using bU
  have acM:jO (ut t) (ut (ax R i).cP)<0:=by
   have az:=vI.neg (ut t) (ut (ax R i).cP);have aV:jO (ut (ax R i).cP) (ut t)≠0:=λe=>bU (RY (Re e));omega
  refine new (abt i i iG (by omega) λq az aV=>?_)
  rcases Nat.lt_or_eq_of_le az with bc|bc
  ·exact apa acM (adV i q bc aV)
  subst bc;exact acM
 have ae:decide ((i:Int)<(R.length:Int))=false:=by simp;omega
 rw[ae]
 refine .eq (a:=default) (by unfold bV;rfl) (.eq I (.cond (λhb=>by simp at hb) λ_=>new ?_))
 rw[Cw (by omega)];simp
def rt(t:cx):eT:=⟨t.bF,t.e6,t.b6⟩
def M8(t:cx):ut (rt t)=t:=rfl
def ah4{s:aZ}(aG:jV s){e:bl}(he:uZ s e):Hp s e=some ((gB s e).map rt):=by
 refine ba.get ?_;unfold Hp;have al:=aG.pn;refine .bind (P:=λx=>x.2.2=(gB s e).map rt) (ba.jH s.di.length (λi st=>st=((i:Int),((s.di.take i).flatMap (lA e)).map rt)) (by omega) I (λi st aq b1=>?_) λst b1=>?_) λx au=>.ret au
 ·subst b1;refine .cond (λ_=>.idx I aq ?_) λae=>by simp at ae;omega
  have u0:=aG.refs _ (sc aq);have Uv:(((s.di.take i).flatMap (lA e)).map rt).length<=4:=by rw[kQ];exact mi (L9 (Rb e) _) (by rw[eZ];omega)
  refine .bind (P:=λm=>m=((s.di.take (i+1)).flatMap (lA e)).map rt) ?_ λm hm=>.ret (by rw[hm,dA (by omega)]);rw[XG _ aq,mh];refine .cond (λae=>.ret ?_) λae=>.bind (P:=λm=>m=((s.di.take i).flatMap (lA e)).map rt++(lA e (ax s.di i)).map rt) (.cond (λaY=>?_) λaY=>.bind (P:=λm=>m=((s.di.take i).flatMap (lA e)).map rt++(lA e (ax s.di i)).map rt) (.cond (λhb=>?_) λhb=>.ret ?_) λm hm=>.ret hm) λm hm=>.ret hm
  ·unfold lA;rw[bf (by simpa using ae)];simp
  ·have bD:(ax s.di i).bF=e.bF:=by simpa using ae
   have aY:(ax s.di i).eL=0:=by simpa using aY
   obtain⟨g1,g2⟩:=ZU he u0 bD aY;rw[g1];refine .eq (a:=(ax s.di i).e6.toNat) (kk g2) (.eq I (.eq (gq _ _ (by simp only[List.length_cons,List.length_nil];omega) (by omega)) (.ret ?_)));unfold lA;rw[bh bD,bh aY];rfl
  ·have bD:(ax s.di i).bF=e.bF:=by simpa using ae
   have aY: ¬(ax s.di i).eL=0:=by simpa using aY
   have hb:(ax s.di i).eL=e.eL:=by simpa using hb
   obtain⟨g1,g2⟩:=ZV he u0 aY hb;rw[g1];refine .eq (a:=0) (kk (k:=0) g2) (.eq I (.eq (gq _ _ (by simp only[List.length_cons,List.length_nil];omega) (by omega)) (.ret ?_)));unfold lA;rw[bh bD,bf aY,bh hb,g1];rfl
  have bD:(ax s.di i).bF=e.bF:=by simpa using ae
  have aY: ¬(ax s.di i).eL=0:=by simpa using aY
  have hb: ¬(ax s.di i).eL=e.eL:=by simpa using hb
  unfold lA;rw[bh bD,bf aY,bf hb];simp
 subst b1;exact .cond (λae=>by simp at ae) λ_=>.ret (by show _=(gB s e).map rt;simp[gB])
def agX{s:aZ}(hs:b7 s)(aG:jV s){e:bl}(he:uZ s e):G7 s e=some ((gx s e).map rt):=by
 refine ba.get ?_;unfold G7;have al:=aG.pn;have hm:=he.acL hs;refine .bind (P:=λx=>x.2.2=(gx s e).map rt) (ba.jH s.di.length (λi st=>st=((i:Int),if e.bF=1∧i≠0 then [rt (tO e)]else [])) (by omega) (by simp) (λi st aq b1=>?_) λst b1=>?_) λx au=>.ret au
 ·subst b1;have u0:=aG.refs _ (sc aq);have Uv:(if e.bF=1∧i≠0 then [rt (tO e)]else []).length<=1:=by split <;> simp
  refine .cond (λ_=>.idx I aq ?_) λae=>by simp at ae;omega
  rw[u0.1,u0.2.1];refine .cond (λae=>.ret ?_) λae=>.eq (a:=0) (kk (k:=0) (by omega)) (.eq I ?_)
  ·have ae:e.bF≠1:=by
    intro h;rw[h]at ae;simp at ae
   rw[dA (by omega),bf (λh=>ae h.1),bf (λh=>ae h.1)]
  have ae:e.bF=1:=by
   have:(1:Int)=e.bF:=by simpa using ae
   omega
  by_cases zd:i=0
  ·subst zd;rw[bf (by simp)];refine .bind (P:=λx=>x.1=false) (ba.jH 0 (λj st=>st=(false,(j:Int))) (by omega) I (λj st aB _=>by omega) λst b1=>?_) λx au=>?_
   ·subst b1;exact .cond (λbW=>by simp at bW) λ_=>.ret I
   rw[au];refine .bind (P:=λm=>m=[rt (tO e)]) (.cond (λ_=>.eq (gq _ _ (by simp) (by omega)) (.ret I)) λbW=>by simp at bW) λm hm=>.ret ?_;rw[hm,bh ⟨ae,by omega⟩];rfl
  rw[bh ⟨ae,zd⟩];refine .bind (P:=λx=>x.1=true) (ba.jH 1 (λj st=>st=(decide (j≠0),(j:Int))) (by omega) I (λj st aB b1=>?_) λst b1=>?_) λx au=>?_
  ·subst b1;have:j=0:=by omega
   subst this;refine .cond (λ_=>.idx (k:=0) I (by simp) (.ret ?_)) λbW=>by simp at bW
   have cE:ax [rt (tO e)] 0=rt (tO e):=rfl;rw[cE];have eK:rt (tO e)=⟨1,0,(ax e.bP 0).b6⟩:=rfl;rw[eK];simp[dA];exact dA (k:=0) (by omega)
  ·subst b1;exact .cond (λbW=>by simp at bW) λ_=>.ret I
  rw[au];refine .bind (P:=λm=>m=[rt (tO e)]) (.cond (λbW=>by simp at bW) λ_=>.ret I) λm hm=>.ret ?_;rw[hm,dA (by omega),bh ⟨ae,by omega⟩]
 subst b1;refine .cond (λae=>by simp at ae) λ_=>.ret ?_;show _=(gx s e).map rt;unfold gx;by_cases h:e.bF=1∧s.di≠[]
 ·rw[bh h,bh ⟨h.1,by intro bC;exact h.2 (FD.1 bC)⟩];rfl
 rw[bf h,bf (λbW=>h ⟨bW.1,λbC=>bW.2 (by rw[bC];rfl)⟩)];rfl
def Rg(s:aZ)(e:bl):(gx s e).length<=1:=by unfold gx;split <;> simp
def YB{s:aZ}(aG:jV s)(L:aa aH)(t:cx):0<=jI s L t∧jI s L t<=4*L.length:=by
 have h1:=AH (f:=λi:aH=>gB s i.aX) (n:=4) (λi=>D6 aG _) L;have ad:=zL (a:=t) (l:=L.flatMap λi=>gB s i.aX);unfold jI;omega
def aj8{s:aZ}(L:aa aH)(t:cx):0<=fX s L t∧fX s L t<=L.length:=by
 have h1:=AH (f:=λi:aH=>gx s i.aX) (n:=1) (λi=>Rg s _) L;have ad:=zL (a:=t) (l:=L.flatMap λi=>gx s i.aX);unfold fX;omega
def Rh{A:cx->Int}{l:aa cx}{m:Int}{n:Nat}(eX:∀t,0<=A t∧A t<=m)(al:l.length<=n)(t:cx):0<=eN A l 1 t∧eN A l 1 t<=m+n:=by
 have h1:=eX t;have ad:=zL (a:=t) (l:=l);unfold eN;omega
def YC{s:aZ}(hs:b7 s)(aG:jV s){L:aa aH}(av:∀i∈L,uZ s i.aX)(hlen:L.length<=100):
 ba (Aw s (L.map (·.aX))) (λR=>R.length<=1000∧oq R (jI s L) (fX s L)):=by
 unfold Aw
 have p1:oq [] (jI s []) (fX s []):=⟨.nil,λx=>by simp[sO,jI,fX],rfl,rfl⟩
 have acN:(L.map (·.aX)).length=L.length:=kQ ..
 rw[acN]
 refine .bind (P:=λe=>e.2.2.length<=1000∧oq e.2.2 (jI s L) (fX s L)) (ba.jH L.length (λi st=>st.1=(i:Int)∧st.2.length<=5*i∧oq st.2 (jI s (L.take i)) (fX s (L.take i))) (by omega) ⟨rfl,by simp,by simpa using p1⟩ (λi st aq b1=>?_) λst b1=>?_) λe he=>.ret he
 ·obtain⟨sL,R⟩:=st
  obtain⟨rfl,N6,hJ⟩:=b1
  have aF:ax (L.map (·.aX)) i=(ax L i).aX:=by rw[dh _ (by rw[acN];exact aq),dh _ aq,o4]
  have adW:=av _ (sc aq)
  have Ux:L.take (i+1)=L.take i++[ax L i]:=by rw[CI,o2 aq,dh _ aq];rfl
  have eX:∀t,0<=jI s (L.take i) t∧jI s (L.take i) t<=400:=λt=>by have:=YB aG (L.take i) t;rw[eZ]at this;omega
  have eB:∀t,0<=fX s (L.take i) t∧fX s (L.take i) t<=100:=λt=>by have:=aj8 (s:=s) (L.take i) t;rw[eZ]at this;omega
  have p8:=D6 aG (ax L i).aX
  have avn:=Rg s (ax L i).aX
  refine .cond (λ_=>.idx I aq ?_) λae=>by simp at ae;omega
  rw[aF]
  refine .eq (ah4 aG adW) ?_
  refine .bind (P:=λe=>e.2.2.length<=5*i+4∧oq e.2.2 (eN (jI s (L.take i)) (gB s (ax L i).aX) 1) (fX s (L.take i))) (ba.jH (gB s (ax L i).aX).length (λj st=>st.1=(j:Int)∧st.2.length<=5*i+j∧oq st.2 (eN (jI s (L.take i)) ((gB s (ax L i).aX).take j) 1) (fX s (L.take i))) (by omega) ⟨rfl,by simpa using N6,by simpa[Ma]using hJ⟩ (λj st aB b1=>?_) λst b1=>?_) λaS oQ=>?_
  ·obtain⟨pE,zp⟩:=st
   obtain⟨rfl,nG,tH⟩:=b1
   have nG:zp.length<=_:=nG
   refine .cond (λ_=>.idx (k:=j) I (by simpa using aB) ?_) λae=>by simp at ae;omega
   have jY:ax ((gB s (ax L i).aX).map rt) j=rt (ax (gB s (ax L i).aX) j):=by rw[dh _ (by simpa using aB),dh _ aB,o4]
   rw[jY]
   refine(put_eq tH _ (.inl ⟨rfl,rfl⟩) (by simp only;omega) (λx=>?_) (λx=>?_)).bind λad1 BH=>.ret ⟨dA (by omega),by have:=BH.1;simp only at this⊢;omega,?_⟩
   ·have:=Rh (l:=(gB s (ax L i).aX).take j) (n:=4) eX (by rw[eZ];omega) x;omega
   ·have:=eB x;omega
   have:=BH.2
   rw[M8,LV,Mb]at this
   rw[CI,o2 aB]
   rw[dh _ aB]at this
   exact this
  ·obtain⟨pE,zp⟩:=st
   obtain⟨rfl,nG,tH⟩:=b1
   have nG:zp.length<=_:=nG
   refine .cond (λae=>by simp at ae) λ_=>.ret ⟨by simp only at nG⊢;omega,?_⟩
   rwa[iD]at tH
  refine .eq (agX hs aG adW) ?_
  refine .bind (P:=λe=>e.2.2.length<=5*i+5∧oq e.2.2 (eN (jI s (L.take i)) (gB s (ax L i).aX) 1) (eN (fX s (L.take i)) (gx s (ax L i).aX) 1)) (ba.jH (gx s (ax L i).aX).length (λj st=>st.1=(j:Int)∧st.2.length<=5*i+4+j∧oq st.2 (eN (jI s (L.take i)) (gB s (ax L i).aX) 1) (eN (fX s (L.take i)) ((gx s (ax L i).aX).take j) 1)) (by omega) ⟨rfl,by simpa using oQ.1,by simpa[Ma]using oQ.2⟩ (λj st aB b1=>?_) λst b1=>?_) λcE N7=>.ret ⟨dA (by omega),by have:=N7.1;simp only;omega,?_⟩
  ·obtain⟨pE,zp⟩:=st
   obtain⟨rfl,nG,tH⟩:=b1
   have nG:zp.length<=_:=nG
   refine .cond (λ_=>.idx (k:=j) I (by simpa using aB) ?_) λae=>by simp at ae;omega
   have jY:ax ((gx s (ax L i).aX).map rt) j=rt (ax (gx s (ax L i).aX) j):=by rw[dh _ (by simpa using aB),dh _ aB,o4]
   rw[jY]
   refine(put_eq tH _ (.inr ⟨rfl,rfl⟩) (by simp only;omega) (λx=>?_) (λx=>?_)).bind λad1 BH=>.ret ⟨dA (by omega),by have:=BH.1;simp only at this⊢;omega,?_⟩
   ·have:=Rh (l:=gB s (ax L i).aX) (n:=4) eX p8 x;omega
   ·have:=Rh (l:=(gx s (ax L i).aX).take j) (n:=1) eB (by rw[eZ];omega) x;omega
   have:=BH.2
   rw[M8,LV,Mb]at this
   rw[CI,o2 aB]
   rw[dh _ aB]at this
   exact this
  ·obtain⟨pE,zp⟩:=st
   obtain⟨rfl,nG,tH⟩:=b1
   have nG:zp.length<=_:=nG
   refine .cond (λae=>by simp at ae) λ_=>.ret ⟨by simp only at nG⊢;omega,?_⟩
   rwa[iD]at tH
  have:=N7.2
  rw[AD,AE,<-Ux]at this
  exact this
 obtain⟨sL,R⟩:=st
 obtain⟨rfl,N6,hJ⟩:=b1
 refine .cond (λae=>by simp at ae) λ_=>.ret ⟨by simp only at N6⊢;omega,?_⟩
 rwa[iD]at hJ
def Z1{α:Type}[DecidableEq α]:∀{l l':aa α},l.Nodup->(∀x∈l,x∈l')->l.length<=l'.length
 |[],_,_,_=>by simp
 | x::r,l',aM,hs=>by
   obtain⟨h1,ad⟩:=pK.1 aM;have au:=hs x jC;have az:=Z1 ad (l':=l'.erase x) λy aT=>(Vv (λe=>h1 (by rw[<-e];exact aT))).2 (hs y (gA _ aT));have aV:=Vd au;have bc:=Vl au;rw[List.length_cons];omega
section
variable{s:aZ}{hp:aL Cell}{P:sN}{bI:Nat->aa aH}{next:Int}{js:aa gm}{y:cn}
def iC.adX(h:iC s bI next y){i:aH}(aq:i∈y.bE):uZ s i.aX:=by
 obtain⟨k,hk,mZ,a6⟩:=h.r.dp h.ok aq;exact⟨⟨k,hk,a6.dp⟩,(h.arg k hk i mZ).1⟩
def Z2(aG:jV s)(h:jB s hp P bI next js)(cL:iC s bI next y):∀kv,qF hp P.m=some kv->kv.length<=1000:=λkv vZ=>by
 obtain⟨tJ,h1,ad,az⟩:=h.iT.map;rw[h1]at vZ;cases vZ;have aV:=Z1 (l:=kv.map (·.1)) (l':=((da bI).flatMap λi=>gB s i.aX)++((da bI).flatMap λi=>gx s i.aX)) (CH.2 ad) λt bD=>by
  obtain⟨x,au,rfl⟩:=ig.1 bD;have bc:=az x.1;rw[Rf ad au]at bc;split at bc
  ·cases bc
  rename_i bU;refine cF.2 (U9 λfK=>bU ?_);simp only[x9]at fK;unfold jI fX;rw[VI.2 fK.1,VI.2 fK.2];exact⟨rfl,rfl⟩
 have bc:=AH (f:=λi:aH=>gB s i.aX) (n:=4) (λi=>D6 aG _) (da bI);have bq:=AH (f:=λi:aH=>gx s i.aX) (n:=1) (λi=>Rg s _) (da bI);have c7:=cL.Nu;rw[kQ,gJ]at aV;omega
def aj9(aG:jV s)(h:jB s hp P bI next js)(cL:iC s bI next y):
 cO (CL hp (some P.x)) (λr=>r.2=hp∧r.1.length<=1000∧xK (r.1.map (·.cP)) (r.1.map (·.ih)) (r.1.map (·.hy)) (jI s (da bI)) (fX s (da bI))):=by
 obtain⟨a,b,h1⟩:=h.st
 unfold CL
 exact .cond (λae=>by cases ae) λ_=>.eq rfl (.eq h1 (.bind (Z0 h.iT (Z2 aG h cL)) λr aG=>.ret aG))
def amr(aG:jV s)(h:jB s hp P bI next js)(cL:iC s bI next y):
 cO (CD hp (some P.x)) (λr=>r.2=hp∧r.1.length<=1000∧∃T N M,xK T N M (jI s (da bI)) (fX s (da bI))∧r.1=T.filter λx=>decide (fX s (da bI) x=0)):=by
 obtain⟨a,b,h1⟩:=h.st
 unfold CD KS
 refine .cond (λae=>by cases ae) λ_=>.eq rfl (.eq h1 (.bind (P:=λr=>r.2=hp∧r.1.length<=1000∧∃T N M,xK T N M (jI s (da bI)) (fX s (da bI))∧r.1=T.filter λx=>decide (fX s (da bI) x=0)) (.bind (Z0 h.iT (Z2 aG h cL)) λz bU=>?_) λr aG=>.ret aG))
 obtain⟨z,hp'⟩:=z
 obtain⟨rfl,y9,bU⟩:=bU
 simp only at bU y9
 have sy:∀c∈z,c.ih=jI s (da bI) c.cP∧c.hy=fX s (da bI) c.cP:=λc ae=>by
  have g1:=bU.n;have g2:=bU.m;rw[sV]at g1 g2;exact⟨KO.1 g1 _ ae,KO.1 g2 _ ae⟩
 have Tu:∀c∈z,((decide (c.ih>0))&&(c.hy==0))=decide (fX s (da bI) c.cP=0):=λc ae=>by
  obtain⟨g1,g2⟩:=sy c ae;have g3:=(bU.mem c.cP).1 (ig.2 ⟨c,ae,rfl⟩);have g4:=YB aG (da bI) c.cP;rw[g1,g2,kP];simp only[gl,e5,nm];omega
 have kY:((z.map (·.cP)).filter λx=>decide (fX s (da bI) x=0))=(z.filter λc=>decide (fX s (da bI) c.cP=0)).map (·.cP):=by rw[Pa];rfl
 refine .hc (P:=λe=>e.2.2=(z.filter λc=>decide (fX s (da bI) c.cP=0)).map (·.cP)) (ba.jH z.length (λi st=>st=((i:Int),((z.take i).filter λc=>decide (fX s (da bI) c.cP=0)).map (·.cP))) (by omega) I (λi st aq b1=>?_) λst b1=>?_) λe he=>.ret ⟨rfl,?_,_,_,_,bU,he.trans kY.symm⟩
 ·subst b1
  have hle:(((z.take i).filter λc=>decide (fX s (da bI) c.cP=0)).map (·.cP)).length<=1000:=by
   rw[kQ];exact mi (vj _ _) (by rw[eZ];omega)
  refine .cond (λ_=>.idx I aq (.eq I ?_)) λae=>by simp at ae;omega
  rw[Tu _ (sc aq),mM _ aq,mJ,mh]
  refine .bind (P:=λm=>m=((z.take i).filter λc=>decide (fX s (da bI) c.cP=0)).map (·.cP)++([ax z i].filter λc=>decide (fX s (da bI) c.cP=0)).map (·.cP)) (.cond (λae=>.eq (gq _ _ (by simp only[List.length_cons,List.length_nil];omega) (by omega)) (.ret ?_)) λae=>.ret ?_) λm hm=>.ret (by rw[hm,dA (by omega)])
  ·rw[xL (by simpa using ae)];rfl
  rw[vi (by simpa using ae)];simp
 ·subst b1
  refine .cond (λae=>by simp at ae) λ_=>.ret ?_
  show((z.take z.length).filter _).map _=_
  rw[iD]
 show e.2.2.length<=1000
 rw[he,kQ];exact mi (vj _ _) y9
def WK(al:y.bE.length<=1000):Ln y=some (y.bE.map (·.aX)):=by
 refine ba.get ?_;unfold Ln;refine .bind (P:=λe=>e.2.2=y.bE.map (·.aX)) (ba.jH y.bE.length (λi st=>st=((i:Int),(y.bE.take i).map (·.aX))) (by omega) I (λi st aq b1=>?_) λst b1=>?_) λe he=>.ret he
 ·subst b1;refine .cond (λ_=>.idx I aq (.eq (gq _ _ (by simp;omega) (by omega)) (.ret ?_))) λae=>by simp at ae;omega
  rw[dA (by omega),mM _ aq,mh];rfl
 subst b1;exact .cond (λae=>by simp at ae) λ_=>.ret (by show(y.bE.take _).map _=_;rw[iD])
def ahz(hs:b7 s)(aG:jV s)(cL:iC s bI next y):ba (PI y) (λR=>R.length<=1000∧oq R (jI s (da bI)) (fX s (da bI))):=by
 have al:=cL.r.len cL.ok;unfold PI;rw[cL.r.oS];refine .eq (WK (by omega)) ((YC hs aG (λi aq=>cL.adX aq) (by omega)).bind λR hJ=>.ret ?_);rw[ye cL.r.qd,yf cL.r.qd]at hJ;exact hJ
def ajc(hs:b7 s)(aG:jV s)(cL:iC s bI next y):ba (Ds s (y.bE.map (·.aX))) (λD=>D.length<=1000∧∃T N M,xK T N M (jI s (da bI)) (fX s (da bI))∧D.map ut=T.filter λx=>decide (fX s (da bI) x=0)):=by
 have al:=cL.r.len cL.ok;unfold Ds;refine(YC hs aG (λi aq=>cL.adX aq) (by omega)).bind λz bU=>?_;rw[ye cL.r.qd,yf cL.r.qd]at bU;obtain⟨y9,bU⟩:=bU;have Tu:∀c∈z,(c.hy==0)=decide (fX s (da bI) (ut c.cP)=0):=λc ae=>by
  rw[(bU.el ae).2];rfl
 have kY:((sO z).filter λx=>decide (fX s (da bI) x=0))=(z.filter λc=>decide (fX s (da bI) (ut c.cP)=0)).map λc=>ut c.cP:=by unfold sO;rw[Pa];rfl
 refine .bind (P:=λe=>e.2.2=(z.filter λc=>decide (fX s (da bI) (ut c.cP)=0)).map (·.cP)) (ba.jH z.length (λi st=>st=((i:Int),((z.take i).filter λc=>decide (fX s (da bI) (ut c.cP)=0)).map (·.cP))) (by omega) I (λi st aq b1=>?_) λst b1=>?_) λe he=>.ret ⟨?_,_,_,_,bU,?_⟩
 ·subst b1;have hle:(((z.take i).filter λc=>decide (fX s (da bI) (ut c.cP)=0)).map (·.cP)).length<=1000:=by
   rw[kQ];exact mi (vj _ _) (by rw[eZ];omega)
  refine .cond (λ_=>.idx I aq ?_) λae=>by simp at ae;omega
  rw[Tu _ (sc aq),mM _ aq,mJ,mh];refine .bind (P:=λm=>m=((z.take i).filter λc=>decide (fX s (da bI) (ut c.cP)=0)).map (·.cP)++([ax z i].filter λc=>decide (fX s (da bI) (ut c.cP)=0)).map (·.cP)) (.cond (λae=>.eq (gq _ _ (by simp only[List.length_cons,List.length_nil];omega) (by omega)) (.ret ?_)) λae=>.ret ?_) λm hm=>.ret (by rw[hm,dA (by omega)])
  ·rw[xL (by simpa using ae)];rfl
  rw[vi (by simpa using ae)];simp
 ·subst b1;refine .cond (λae=>by simp at ae) λ_=>.ret ?_;show((z.take z.length).filter _).map _=_;rw[iD]
 ·rw[he,kQ];exact mi (vj _ _) y9
 rw[kY,he,sV];rfl
end
section
variable{s:aZ}{hp:aL Cell}{P:sN}{bI:Nat->aa aH}{next:Int}{js:aa gm}{y:cn}
def alm(hs:b7 s)(h:jB s hp P bI next js)(cL:iC s bI next y){x:Nat}(au:x<=5):cO (CR hp (some P.x) (x:Int)) (λr=>r=(xf y (x:Int),hp)):=by
 have b1:=h.kU.ok;unfold CR;refine .eq (HP h) (.bind (P:=λr=>r=(xf y (x:Int),hp)) ?_ λr aG=>.ret (by subst aG;rfl));by_cases nb:1<=x∧x<=4
 ·obtain⟨k,rfl⟩:∃k,x=k+1:=⟨x-1,by omega⟩;have hk:k<4:=by omega
  intro Q xJ;refine(Yp hs b1 (x:=k+1) (by omega) cL.ok.len) Q λao h1=>?_;obtain⟨a,hp'⟩:=ao;obtain⟨ar,h1⟩:=h1;simp only at ar h1;subst ar;have iE:((k+1:Nat):Int)=(k:Int)+1:=by omega
  have q4:uz bI (k+1) (xf y ((k+1:Nat):Int)):=by
   unfold uz;rw[bf (by omega),iE];exact⟨Qg cL.r cL.ok hk,ajS cL.r _⟩
  obtain⟨g1,_⟩:=uz.same hs b1 (by omega) h1 q4;exact xJ _ (by rw[g1])
 have BM:(x:Int)<1∨4<(x:Int):=by omega
 intro Q xJ;refine(ajT b1 BM) Q λao h1=>?_;subst h1;exact xJ _ (by rw[alg cL.r cL.ok BM])
def aka(hs:b7 s)(aG:jV s)(h:jB s hp P bI next js)(cL:iC s bI next y):cO (PO hp (some P.x) y) (λr=>r=(true,hp)):=by
 have hlen:=cL.r.len cL.ok;unfold PO;refine .bind (ao9 hs h cL) λao h1=>?_;subst h1;refine .eq (Ly (λi aq=>cL.r.small hs cL.ok aq) (show y.bE.length<=1000 by omega)) (.eq (a:=next) (by unfold bV;rw[bh (show(!true)=false from rfl)];exact ZY h) ?_);refine .cond (λae=>by rw[cL.r.num]at ae;simp at ae) λ_=>?_;refine .bind (P:=λe=> ∃q:Int×Bool×aL Cell,e=.inl q∧q.2.2=hp) (cO.loop 6 (λx st=>st=((x:Int),hp)) (by omega) I (λx st au jx=>?_) (λst jx=>?_)) λar atX=>?_
 ·subst jx;refine .cond (λ_=>.bind (alm hs h cL (by omega)) λbt aV=>?_) λae=>by simp at ae;omega
  subst aV;refine .eq (Qf (by omega)) (.eq (Ly (λi aq=>cL.r.small hs cL.ok (tZ.1 aq).1) (mi (vj _ _) (by omega))) (.cond (λae=>by cases ae) λ_=>.ret (by rw[dA (by omega)])))
 ·subst jx;exact .cond (λae=>by simp at ae) λ_=>.ret ⟨_,rfl,rfl⟩
 obtain⟨q,rfl,hq⟩:=atX;simp only[Sum.elim_inl];rw[hq];refine .bind (aj9 aG h cL) λcA c7=>?_;obtain⟨z,avo⟩:=cA;obtain⟨zA,y9,bU⟩:=c7;simp only at zA y9 bU;subst zA;refine .bind (amr aG h cL) λb4 c9=>?_;obtain⟨D,avp⟩:=b4;obtain⟨r5,adn,T,N,M,q4,kY⟩:=c9;simp only at r5 adn kY;subst r5;refine .eq (amp hs h) (.hc (ahz hs aG cL) λR hJ=>.eq (WK (by omega)) ?_);rw[cL.r.oS];refine .hc (ajc hs aG cL) λFx UA=>?_;obtain⟨N6,hJ⟩:=hJ;obtain⟨auT,avO,avP,avQ,atY,UA⟩:=UA;obtain⟨Ol,auo,ad2⟩:=bU.uniq hJ;obtain⟨v1,_,_⟩:=q4.uniq atY;have adY:D=Fx.map ut:=by rw[kY,UA,v1]
 have atZ:z.length=R.length:=by have:=eI List.length Ol;unfold sO at this;simpa using this
 have ar9:D.length=Fx.length:=by rw[adY,kQ]
 have at0:∀i,i<z.length->(ax R i).cP=rt (ax z i).cP∧(ax z i).ih=(ax R i).ih∧(ax z i).hy=(ax R i).hy:=λi aq=>by
  have qT:i<R.length:=by omega
  rw[dh _ aq,dh _ qT];refine⟨RY ?_,?_,?_⟩
  ·have:=FX Ol (by simpa using aq:i<(z.map (·.cP)).length);unfold sO at this;rw[o4,o4]at this;rw[M8];exact this.symm
  ·have:=FX auo (by simpa using aq:i<(z.map (·.ih)).length);rwa[o4,o4]at this
  have:=FX ad2 (by simpa using aq:i<(z.map (·.hy)).length);rwa[o4,o4]at this
 have at1:∀i,i<D.length->ax Fx i=rt (ax D i):=λi aq=>by
  have qT:i<Fx.length:=by omega
  rw[dh _ aq,dh _ qT];refine RY ?_;have:=FX adY aq;rw[o4]at this;rw[M8];exact this.symm
 refine .eq I (.cond (λae=>?_) λ_=>?_)
 ·exfalso;rw[atZ,ar9,hs.pn]at ae;simp at ae
 refine .hc (P:=λe=> ∃q,e=.inl q) (ba.jH z.length (λi st=>st=(i:Int)) (by omega) I (λi st aq b1=>?_) λst b1=>?_) λaS oQ=>?_
 ·subst b1;obtain⟨t1,t2,t3⟩:=at0 i aq;have qT:i<R.length:=by omega
  refine .cond (λ_=>.idx I aq (.eq I (.idx I qT ?_))) λae=>by simp at ae;omega
  have qj:(⟨(ax z i).cP.bF,(ax z i).cP.e6,(ax z i).cP.b6⟩:eT)=(ax R i).cP:=by rw[t1];rfl
  simp only[qj,G6,Bool.not_true];refine .eq (a:=i) (by unfold bV;rw[bh I];exact kk qT) (.eq (a:=false) (by rw[t2];simp) (.eq (a:=i) (by unfold bV;rw[bh I];exact kk qT) (.cond (λae=>?_) λ_=>.ret (dA (by omega)))));rw[t3]at ae;simp at ae
 ·subst b1;exact .cond (λae=>by simp at ae) λ_=>.ret ⟨_,rfl⟩
 obtain⟨cH,rfl⟩:=oQ;simp only[Sum.elim_inl];refine .hc (P:=λe=> ∃q,e=.inl q) (ba.jH D.length (λi st=>st=(i:Int)) (by omega) I (λi st aq b1=>?_) λst b1=>?_) λcE N7=>?_
 ·subst b1;have qT:i<Fx.length:=by omega
  refine .cond (λ_=>.idx I aq (.eq I (.idx I qT ?_))) λae=>by simp at ae;omega
  have qj:(⟨(ax D i).bF,(ax D i).e6,(ax D i).b6⟩:eT)=ax Fx i:=by rw[at1 i aq];rfl
  exact .cond (λae=>by rw[qj]at ae;simp at ae) λ_=>.ret (dA (by omega))
 ·subst b1;exact .cond (λae=>by simp at ae) λ_=>.ret ⟨_,rfl⟩
 obtain⟨eJ,rfl⟩:=N7;simp only[Sum.elim_inl];refine .hc (P:=λe=> ∃q,e=.inl q) (ba.jH 3 (λi st=>st=(i:Int)) (by omega) I (λi st aq b1=>?_) λst b1=>?_) λeK at2=>?_
 ·subst b1;have qT:i<s.e0.length:=by rw[hs.pn];exact aq
  have Uu:(ax s.e0 i).cb=ax [1,2,7] i:=by
   have:=FX hs.Ew (by simpa using qT:i<(s.e0.map (·.cb)).length);rw[o4]at this;rw[dh _ qT,this,dh _ (by simpa using aq)]
  have hu:(ax [(⟨1,gS (da bI) 1⟩:jQ),⟨2,gS (da bI) 2⟩,⟨7,gS (da bI) 7⟩] i).tb=ax [1,2,7] i∧(ax [(⟨1,gS (da bI) 1⟩:jQ),⟨2,gS (da bI) 2⟩,⟨7,gS (da bI) 7⟩] i).yj=gS (da bI) (ax [1,2,7] i):=by
   have:i=0∨i=1∨i=2:=by omega
   rcases this with rfl|rfl|rfl <;> exact⟨rfl,rfl⟩
  refine .cond (λ_=>.idx I (by simpa using aq) (.idx I qT ?_)) λae=>by simp at ae;omega
  rw[hu.1,hu.2,Uu];refine .eq (a:=gS y.bE (ax [1,2,7] i)) (by unfold bV;rw[bh (by simp)];exact Zm _ (by omega)) (.eq I (.cond (λae=>?_) λ_=>.ret (dA (by omega))));rw[rn cL.r.qd]at ae;simp at ae
 ·subst b1;exact .cond (λae=>by simp at ae) λ_=>.ret ⟨_,rfl⟩
 obtain⟨ht,rfl⟩:=at2;simp only[Sum.elim_inl];exact .ret I
end
section
variable{s:aZ}{hp:aL Cell}{P:sN}{bI:Nat->aa aH}{next:Int}{js:aa gm}{y:cn}
def akb(hs:b7 s)(h:jB s hp P bI next js){k:Nat}(hk:k<4)(q:Vector aN 4):CP hp (some P.x) ((k:Int)+1) q=some (jh (j8 s k (bI k) q)):=by
 refine ba.get ?_;unfold CP;exact .eq (HP h) (.eq (aiZ hs h.kU.ok hk q) (.ret I))
def ams(hs:b7 s)(h:jB s hp P bI next js){k:Nat}(hk:k<4){e:bl}(he:fE s k e):C1 hp (some P.x) e=some (jh (dw (bI k) e)):=by
 refine ba.get ?_;unfold C1;exact .eq (HP h) (.eq (Q8 hs h.kU.ok hk he) (.ret I))
def ajd(hs:b7 s)(h:jB s hp P bI next js)(cL:iC s bI next y)(c:dx)(ae:gZ c):ba (PJ hp (some P.x) y c) (λr=>r.1=true):=by
 have hlen:=cL.r.len cL.ok;unfold PJ;refine .bind (P:=λe=> ∃a,e=.inl a) (ba.jH y.bE.length (λj st=> ∃c,st=((j:Int),c)∧gZ c) (by omega) ⟨c,rfl,ae⟩ (λj st aB b1=>?_) (λst b1=>?_)) λaS oQ=>?_
 ·obtain⟨gy,rfl,nJ⟩:=b1;have hm:ax y.bE j∈y.bE:=sc aB;obtain⟨k,hk,mZ,a6⟩:=cL.r.dp cL.ok hm;have oR:=a6.small hs hk;refine .cond (λ_=>.idx I aB ?_) λae=>by simp at ae;omega
  refine(aiF _ nJ).bind λy5 UB=>(ahR _ _ (by omega)).bind λJY _=>?_;rw[a6.dp.fF];refine .eq (akb hs h hk _) (.eq (ah2 hs cL.r cL.ok hk _) (.eq (ams hs h hk a6.dp) ?_));have M4:fG (ax y.bE j).aX (ax y.bE j).aX=true:=oB _;rw[(cL.ok.gd k hk).RS mZ M4];have hw:=aiM hs hk (cL.ok.gd k hk).ok.eY.1 (λc=>mt s k JY c.aX);have hw:(jh (j8 s k (bI k) JY)).1.aX.bP.length<=1000∧(jh (j8 s k (bI k) JY)).1.aX.fN.length<=1000:=hw;have hb:((jh (j8 s k (bI k) JY)).2 !=(jh (j8 s k (bI k) JY)).2)=false:=by simp
  simp only[hb];refine .eq (a:=true) (by unfold bV;rw[bh I];exact Qd hw.1 hw.2) (.eq (a:=true) (show ud (ax y.bE j) (ax y.bE j)=some true from Qd oR.1 oR.2) (.cond (λae=>by cases ae) λ_=>.ret ⟨y5.2,by rw[dA (by omega)],UB⟩))
 ·obtain⟨gy,rfl,nJ⟩:=b1;exact .cond (λae=>by simp at ae) λ_=>.ret ⟨_,rfl⟩
 obtain⟨a,rfl⟩:=oQ;simp only[Sum.elim_inl];exact .ret I
def aln(x:gn):zO x=some (x.hM.length:Int):=rfl
end
def tP(ys:aa cn):aa (me cn):=ys.map λy=>⟨some y⟩
def Zq{ys:aa cn}{i:Nat}(aq:i<ys.length):(ax (tP ys) i).p=some (ax ys i):=by
 unfold tP;rw[dh _ (by simpa using aq),dh _ aq,o4]
def akc{ys:aa cn}{y:cn}:tP ys++[⟨some y⟩]=tP (ys++[y]):=by unfold tP;rw[mh];rfl
def Zr{ys:aa cn}:(tP ys).length=ys.length:=kQ ..
def alo(hp:aL Cell)(x:Ref)(y:cn):Lq hp x y=PO hp x y:=rfl
def akd(hp:aL Cell)(x:Ref)(y:cn)(c:dx):Lm hp x y c=PJ hp x y c:=rfl
def Z3{s:aZ}{bI:Nat->aa aH}{next:Int}{y:cn}(h:iC s bI next y):xW y=some y:=RX (by have:=h.r.len h.ok;omega)
def ah5(hp:aL Cell)(ab ai:aa (BitVec 8))(aR:BitVec 8):cO (F6 hp ab ai aR) (λr=>r.1=true):=by
 unfold F6;refine .hc (QW ab 120 (by omega) (by omega)) λao h1=>.hc (ba.par (W5 ao h1) (Xd ao)) λaE ad=>.hc (QW ai 220 (by omega) (by omega)) λbg az=>?_;obtain⟨⟨hs,_⟩,aG⟩:=ad;refine .bind (abq hs aG hp) λbt aV=>?_;obtain⟨P,eK,g0⟩:=aV;obtain⟨avq,vU⟩:=bt;simp only at eK g0;subst eK;have b9:=abr hs aG;refine .eq (a:=⟨aE.1,[],1⟩) I (.eq (Z3 b9) ?_);refine .bind (P:=λar=> ∃q:Int×Bool×aa (me cn)×cn×dx×aL Cell,ar=.inl q∧gZ q.2.2.2.2.1∧∃bI ls next js ys,jB aE.1 q.2.2.2.2.2 P bI next js∧oo aE.1 P.x js ys ls next∧l1 bI ls∧q.2.2.1=tP ys∧js.length<=16)
  (cO.loop 16 (λi st=>st.1=(i:Int)∧gZ st.2.2.2.1∧∃bI ls next js ys,jB aE.1 st.2.2.2.2 P bI next js∧oo aE.1 P.x js ys ls next∧l1 bI ls∧st.2.1=tP ys∧iC aE.1 bI next st.2.2.1∧js.length<=i∧next<=(i:Int)+1) (by omega) ⟨rfl,az,_,_,_,_,_,g0,.nil b9,.refl,rfl,b9,by simp,by omega⟩ (λi st aq b1=>?_) (λst b1=>?_)) λar he=>?_
 ·obtain⟨sL,u4,y,c,bQ⟩:=st;obtain⟨Cr,ae,bI,ls,next,js,ys,g,l7,hle,Cs,cL,aB,aM⟩:=b1;simp only at Cr ae g Cs cL;subst Cr Cs;have adU:=l7.len;refine .bV (P:=λ_=>True) (λ_=>Yb _) λcA _=>?_;refine .cond (λ_=>?_) λ_=>.ret ⟨_,rfl,ae,_,_,_,_,_,g,l7,hle,rfl,by omega⟩;refine .bind (amo hs aG g cL (by omega) (by omega) c ae) λb4 c9=>?_;obtain⟨r5,zn,_,c9⟩:=c9;rw[r5];refine .cond (λbW=>by cases bW) λ_=>?_;have key:∃j9 ls' next' js' JZ,jB aE.1 b4.2.2.2.2 P j9 next' js'∧oo aE.1 P.x js' JZ ls' next'∧l1 j9 ls'∧iC aE.1 j9 next' b4.2.2.1∧js'.length<=i+1∧next'<=(i:Int)+1+1∧(if b4.2.1=true then tP (ys++[b4.2.2.1])else tP ys)=tP JZ:=by
   rcases c9 with⟨bU,mf,j9,next',ed,aup,cq,pr⟩|⟨bU,ed,e'⟩
   ·have hb:b4.2.1=true:=by
     cases hb:b4.2.1 with
     |true=>rfl
     |false=>rw[hb]at bU;simp at bU
    exact⟨j9,j9,next',_,_,ed,l7.snoc hle aup cq,.refl,cq,by rw[gJ];simp;omega,by omega,by rw[bh hb]⟩
   have hb: ¬b4.2.1=true:=λhb=>by rw[bh hb]at bU;exact bU I
   exact⟨bI,ls,next,js,ys,ed,l7,hle,by rw[e'];exact cL,by omega,by omega,by rw[bf hb]⟩
  obtain⟨j9,ls',next',js',JZ,ed,asa,Bs,cq,pw,pr,em⟩:=key;refine .hc (P:=λm=>m=tP JZ) (.cond (λhb=>.eq (Z3 cq) (.eq (gq _ _ (by rw[Zr];simp;omega) (by omega)) (.ret ?_))) λhb=>.ret ?_) λm1 bR=>?_
  ·rw[bh hb]at em;rw[akc];exact em
  ·rw[bf (by rw[hb];simp)]at em;exact em
  subst bR;exact .ret ⟨dA (by omega),zn,j9,ls',next',js',JZ,ed,asa,Bs,rfl,cq,pw,pr⟩
 ·obtain⟨sL,u4,y,c,bQ⟩:=st;obtain⟨Cr,ae,bI,ls,next,js,ys,g,l7,hle,Cs,cL,aB,aM⟩:=b1;simp only at Cr ae g Cs cL;subst Cr Cs;refine .bV (P:=λ_=>True) (λ_=>Yb _) λcA _=>?_;exact .cond (λae=>by simp at ae) λ_=>.ret ⟨_,rfl,ae,_,_,_,_,_,g,l7,hle,rfl,by omega⟩
 obtain⟨q,rfl,py,bI,ls,next,js,ys,g,l7,hle,Cs,aB⟩:=he;simp only[Sum.elim_inl];rw[Cs,Zr];have adU:=l7.len;obtain⟨n,aM,J0⟩:∃n:Nat,so (aR.toNat:Int) (ys.length:Int)=some (n:Int)∧n<ys.length:=by
  refine⟨aR.toNat % ys.length,?_,Dt _ (by omega)⟩;unfold so;rw[bf (by omega),Int.tmod_eq_emod_of_nonneg (by omega)];rfl
 refine .eq aM (.bind (ZX hs aG g (by omega) l7 hle _) λhn zi=>?_);have E5:(max 0 (n:Int)).toNat=n:=by omega
 rw[E5]at zi;obtain⟨j9,ls',next',ed,gy,xG⟩:=zi;have BX:(js.take n).length=n:=by rw[eZ];omega
 have SL:=gy.last;rw[BX]at SL;have aT:ax (ys.take (n+1)) n=ax ys n:=by rw[dh _ (by rw[eZ];omega),dh _ J0,F8]
 rw[aT]at SL;have cq:=SL.perm xG;refine .eq (a:=n) (kk J0) (.eq (Zq J0) ?_);rw[alo];refine .bind (aka hs aG ed cq) λgv uX=>?_;subst uX;obtain⟨a,b,b1⟩:=ed.st;refine .eq (a:=P.x) I (.eq (a:=_) (show bV true true (hR hn P.x)=some _ from b1) (.eq (a:=(n:Int)) (show bV true true (zO _)=some (n:Int) by rw[aln];show some _=_;simp only[BX]) ?_));have hb:(true&&((n:Int)==(n:Int)))=true:=by simp
 simp only[hb];refine .eq (a:=n) (kk J0) (.eq (a:=ax ys n) (Zq J0) ?_);rw[akd];refine .bind (P:=λr=>r.1=true) (.cond (λ_=>.of (ajd hs ed cq _ py)) λbW=>by simp at bW) λrM B4=>?_;refine .bind (P:=λr=>r.1=true) (.cond (λ_=>ai9 _) λbW=>by rw[B4]at bW;simp at bW) λy5 UB=>.ret ?_;rw[B4,UB];rfl
def ahA(ab ai:aa (BitVec 8))(aR:BitVec 8):F6 [] ab ai aR (λr=>r.1=true):=(ah5 [] ab ai aR).run
end Go.Proofs.YtppgfphgdogpeaaGreat
