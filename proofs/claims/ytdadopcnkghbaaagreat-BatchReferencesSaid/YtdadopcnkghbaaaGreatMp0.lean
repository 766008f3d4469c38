/-
  What the programs compute, in plain Lean. Conditions: none.
-/
import Derived.Test.YtdadopcnkghbaaaGreatMl0
import Derived.Test.YtdadopcnkghbaaaGreatMd
import Derived.Test.YtdadopcnkghbaaaGreatMl1
set_option linter.defProp false
set_option linter.unusedVariables false
set_option linter.unusedSimpArgs false
set_option maxRecDepth 100000
namespace Gv
open Go
def Wr{σ ε:Type}{body:σ->aw (σ⊕ε)}{Q:ε->Prop}{s0:σ}(m:Nat)(fG:Nat->σ->Prop)
 (hm:m<2^80) (bu:fG 0 s0)
 (hs:∀k s,k<m->fG k s->(∃b0,body s=some (.inl b0)∧fG (k+1) b0)∨(∃e,body s=some (.inr e)∧Q e))
 (he:∀s,fG m s->∃e,body s=some (.inr e)∧Q e):∃e,di c9 body s0=some e∧Q e:=by
 have key:∀n k s,k<=m->m-k<n->fG k s->∃e,di n body s=some e∧Q e:=by
  intro n;induction n with
  |zero=>intro k s _ h;omega
  | succ n bJ=>
    intro k s hk aI ax
    by_cases Hw:k=m
    ·subst Hw
     obtain⟨e,h1,ad⟩:=he s ax
     exact⟨e,by simp[di,h1],ad⟩
    rcases hs k s (by omega) ax with⟨b0,h1,ad⟩|⟨e,h1,ad⟩
    ·obtain⟨e,ay,aR⟩:=bJ (k+1) b0 (by omega) (by omega) ad
     exact⟨e,by simp[di,h1,ay],aR⟩
    exact⟨e,by simp[di,h1],ad⟩
 exact key c9 0 s0 (by omega) (by unfold c9;omega) bu
def bN{β:Type}(m:aw β)(P:β->Prop):Prop:=∃r,m=some r∧P r
def bN.ret{β:Type}{P:β->Prop}{r:β}(h:P r):bN (some r) P:=⟨r,rfl,h⟩
def bN.bind{α β:Type}{m:aw α}{f:α->aw β}{P:α->Prop}{Q:β->Prop}(h:bN m P)(k:∀a,P a->bN (f a) Q):bN (m.bind f) Q:=by
 obtain⟨a,h1,ad⟩:=h;rw[h1];exact k a ad
def bN.eq{α β:Type}{m:aw α}{a:α}{f:α->aw β}{Q:β->Prop}(h:m=some a)(k:bN (f a) Q):bN (m.bind f) Q:=by
 rw[h];exact k
def bN.mono{β:Type}{m:aw β}{P Q:β->Prop}(h:bN m P)(k:∀a,P a->Q a):bN m Q:=by
 obtain⟨a,h1,ad⟩:=h;exact⟨a,h1,k a ad⟩
def bN.of_eq{β:Type}{m:aw β}{r:β}{P:β->Prop}(h:bN m P)(k:m=some r):P r:=by
 obtain⟨a,h1,ad⟩:=h;rw[k]at h1;cases h1;exact ad
def bN.cond{β:Type}{b:Bool}{m n:aw β}{P:β->Prop}(h1:b=true->bN m P)(ad:b=false->bN n P):bN (cond b m n) P:=by
 cases b
 ·exact ad I
 exact h1 I
def bN.cb{α β:Type}[Inhabited α]{b w:Bool}{m:aw α}{f:α->aw β}{P:α->Prop}{Q:β->Prop}(h:b=w->bN m P)(k:∀a,(b=w->P a)->bN (f a) Q):bN ((cb b w m).bind f) Q:=by
 unfold Gv.cb;by_cases hb:b=w
 ·rw[br hb];exact(h hb).bind λa a7=>k a λ_=>a7
 rw[bn hb];exact k default λh=>absurd h hb
def bN.loop{σ ε β:Type}{body:σ->aw (σ⊕ε)}{f:ε->aw β}{P:β->Prop}{s0:σ}(m:Nat)(fG:Nat->σ->Prop)
 (hm:m<2^80) (bu:fG 0 s0)
 (hs:∀k s,k<m->fG k s->bN (body s) (λx=>match x with | .inl b0=>fG (k+1) b0| .inr e=>bN (f e) P))
 (he:∀s,fG m s->∃e,body s=some (.inr e)∧bN (f e) P):bN ((di c9 body s0).bind f) P:=by
 obtain⟨e,h1,ad⟩:=Wr (Q:=λe=>bN (f e) P) m fG hm bu (λk s hk ax=>by
  obtain⟨r,h1,ad⟩:=hs k s hk ax;cases r with
  |inl b0=>exact .inl ⟨b0,h1,ad⟩
  |inr e=>exact .inr ⟨e,h1,ad⟩) he
 rw[h1];exact ad
def bN.qz{σ ε:Type}{body:σ->aw (σ⊕ε)}{P:ε->Prop}{s0:σ}(m:Nat)(fG:Nat->σ->Prop)
 (hm:m<2^80) (bu:fG 0 s0)
 (hs:∀k s,k<m->fG k s->bN (body s) (λx=>match x with | .inl b0=>fG (k+1) b0| .inr e=>P e))
 (he:∀s,fG m s->bN (body s) (λx=>match x with | .inl _=>False| .inr e=>P e)):bN (di c9 body s0) P:=by
 obtain⟨e,h1,ad⟩:=Wr (Q:=P) m fG hm bu (λk s hk ax=>by
  obtain⟨r,h1,ad⟩:=hs k s hk ax;cases r with
  |inl b0=>exact .inl ⟨b0,h1,ad⟩
  |inr e=>exact .inr ⟨e,h1,ad⟩) λs ax=>by
  obtain⟨r,h1,ad⟩:=he s ax;cases r with
  |inl b0=>exact ad.elim
  |inr e=>exact⟨e,h1,ad⟩
 exact⟨e,h1,ad⟩
def bN.idx{β:Type}{n:Nat}{i:Int}{k:Nat}{f:Nat->aw β}{Q:β->Prop}(ax:i=k)(hk:k<n)(h:bN (f k) Q):bN ((Gv.idx n i).bind f) Q:=by
 subst ax;have:Gv.idx n (k:Int)=some k:=by unfold Gv.idx;rw[br (by omega)];simp
 rw[this];exact h
def zz{α:Type}[Inhabited α]{n:Nat}(v:Vector α n){k:Nat}(x:α)(hk:k<n)(j:Nat):cu (dS v k x) j=if j=k then x else cu v j:=by
 unfold cu dS;by_cases h:j=k
 ·subst h;simp[hk]
 rw[bn h,Vector.getElem?_setIfInBounds_ne (by omega)]
def Ws{α:Type}[Inhabited α]{n:Nat}{v w:Vector α n}(h:∀j,j<n->cu v j=cu w j):v=w:=by
 apply Vector.ext;intro i ax;have:=h i ax;simpa[cu,ax]using this
def OH{α:Type}[Inhabited α]{n:Nat}(j:Nat):cu (default:Vector α n) j=default:=by
 show cu (Vector.replicate n default) j=default;unfold cu;by_cases h:j<n <;> simp[h]
def xv{n k:Nat}(h:k<n):idx n (k:Int)=some k:=by
 unfold idx;rw[br (by omega)];simp
def Kp{n:Nat}{i:Int}(h:0<=i)(cT:i<n):idx n i=some i.toNat:=by
 unfold idx;rw[br ⟨h,cT⟩]
def hl{k:Nat}(h:k<2^62):bo ((k:Int)+1)=((k+1:Nat):Int):=by
 rw[jr (by omega) (by omega)];simp
def Kq{k:Nat}(h:k<2^64):(BitVec.ofInt 64 (k:Int)).toNat=k:=by
 simp;omega
def ail(x:BitVec 64):((x&&&1#64)==1#64)=x.getLsbD 0:=by
 rw[BitVec.and_one_eq_setWidth_ofBool_getLsbD];cases x.getLsbD 0 <;> rfl
def xp{α β:Type}[Inhabited α][Inhabited β](f:α->β){l:aa α}{k:Nat}(hk:k<l.length):aB (l.map f) k=f (aB l k):=by
 rw[fQ l hk,fQ _ (by simpa using hk),Es]
def Ol{α:Type}[Inhabited α](l:aa α){k:Nat}(hk:k<l.length):l.take (k+1)=l.take k++[aB l k]:=by
 rw[Ei,qf hk,fQ l hk];rfl
def aim{α:Type}[Inhabited α]{xs:aa α}{p:α->Bool}{k:Nat}(hk:k<xs.length)(hp:p (aB xs k)=true)(aC:∀j,j<k->p (aB xs j)=false):xs.find? p=some (aB xs k):=by
 rw[List.find?_eq_some_iff_getElem];refine⟨hp,k,hk,(fQ xs hk).symm,λj wF=>?_⟩;have:=aC j wF;rw[fQ xs (by omega)]at this;simp[this]
def ain{α:Type}{xs:aa α}{p:α->Bool}(h:∀x∈xs,p x=false):xs.find? p=none:=
 Iw.2 λx al=>by simp[h x al]
end Gv
namespace Go.Proofs.YtdadopcnkghbaaaGreat
open Go Gv
def kb{α:Type}{b:Nat}(xs ys:aa α)(h:xs.length+ys.length<=1000000)(hb:b<=100000):eh b xs ys=some (xs++ys):=by
 unfold eh;rw[br];unfold maxLen;refine⟨pv (Nat.mul_le_mul h hb) (by omega),by omega⟩
def kM(c:fr):Prop:=0<=c.x1∧c.da.length<=1000
def PQ(l:aa (BitVec 8))(n:Int)(bu:0<=n)(h1:n<=1000):bN (xi l n) kM:=by
 unfold xi;refine .eq (a:=(l.drop 0).take ((min (l.length:Int) n).toNat-0)) ?_ (.ret ⟨NY 0,?_⟩)
 ·unfold s5;rw[br ⟨by omega,by omega,by omega⟩];rfl
 simp only[fy,ku];omega
def jV(c:fr)(n:Int)(ak:kM c)(aI:1<=n):bN (jo c n) (λr=>kM r.2∧0<=r.1∧r.1<n∧r.1<256):=by
 unfold jo I7;obtain⟨l,a⟩:=c;obtain⟨bu,h1⟩:=ak;simp only at bu h1;obtain⟨k,rfl⟩:=w0 bu;refine .eq I (.cond (λ_=>.ret ⟨⟨bu,h1⟩,by omega,by omega,by omega⟩) λh=>?_);simp only[TQ,T7,fM,mC]at h;have au:bo ((k:Int)+1)=((k+1:Nat):Int):=hl (by omega);simp only[au];have aW:bo (((k+1:Nat):Int)-1)=(k:Int):=by rw[jr (by omega) (by omega)];omega
 rw[aW];refine .idx I (by omega) (.eq (by unfold x2;rw[bn (by omega)]) (.ret ⟨⟨by simp only;omega,h1⟩,?_,?_,?_⟩))
 ·exact Int.tmod_nonneg _ (by omega)
 ·exact T9 _ (by omega)
 simp only;have ay:(aB l k).toNat<256:=(aB l k).isLt;obtain⟨m,rfl⟩:=w0 (show 0<=n by omega);have aR:(((aB l k).toNat:Int)).tmod m=(((aB l k).toNat % m:Nat):Int):=(Int.ofNat_tmod _ _).symm;have aX:=Nat.mod_le (aB l k).toNat m;omega
def qn(c:fr)(ak:kM c):bN (nR c) (λr=>kM r.2):=by
 unfold nR;exact .bind (jV c 2 ak (by omega)) λy h=>.ret h.1
def OW(c:fr)(ak:kM c):bN (ED c) (λr=>kM r.2∧r.1.length=3):=by
 unfold ED;refine .bind (jV c 4 ak (by omega)) λan h1=>?_;refine .eq (Kp h1.2.1 (by simpa using h1.2.2.1)) (.eq I (.eq I (.bind (qn _ h1.1) λaF ad=>?_)));refine .bind (P:=λm=>kM m.1) (.cond (λ_=>?_) (λ_=>.ret ad)) λm1 bW=>?_
 ·refine .bind (jV _ 2 ad (by omega)) λcG bh=>.eq I (.bind (jV _ 4 bh.1 (by omega)) λdF c5=>?_);exact .eq (Kp c5.2.1 (by simpa using c5.2.2.1)) (.eq I (.eq (kb _ _ (by simp) (by omega)) (.ret c5.1)))
 refine .bind (jV _ 4 bW (by omega)) λbd ay=>.eq (Kp ay.2.1 (by simpa using ay.2.2.1)) (.eq I (.eq I ?_));refine .bind (jV _ 3 ay.1 (by omega)) λbq aR=>?_;refine .bind (P:=λm=>kM m.1) (.cond (λ_=>?_) (λ_=>.ret aR.1)) λm2 dw=>.ret ⟨dw,rfl⟩;exact .bind (jV _ 3 aR.1 (by omega)) λbM aX=>.eq I (.ret aX.1)
def uG(a:e0):Int×aa Int:=(a.cd,a.lS.map (·.jX))
def GH:aa (Int×aa Int):=[(1,[]),(2,[]),(3,[16]),(4,[4]),(5,[4,12]),(6,[])]
def ahd{α β:Type}[Inhabited α](f:α->β)(l:aa α)(k:Nat)(x:α)(h:f x=f (aB l k)):(ft l k x).map f=l.map f:=by
 unfold ft;apply Er
 ·simp
 intro i h1 ad;simp only[kY,vk]at h1;simp only[Es,List.getElem_set];split
 ·rename_i e;subst e;rw[h,fQ l h1]
 rfl
def Cc{α β:Type}[Inhabited α](f:α->β){l:aa α}{k:Nat}{x:α}{r:aa β}(h:f x=f (aB l k))(ao:l.map f=r):(ft l k x).map f=r:=(ahd f l k x h).trans ao
def ON(c:fr)(ak:kM c):bN (vi c) (λr=>kM r.2∧r.1.map uG=GH):=by
 unfold vi;refine .eq I (.eq I (.eq I (.eq I (.eq I (.eq I (.eq I (.eq I (.eq I (.eq I (.eq I (.eq I (.eq I ?_))))))))))));refine .bind (jV _ 2 ak (by omega)) λan h1=>.eq I (.bind (jV _ 256 h1.1 (by omega)) λaF ad=>.eq I (.eq I (.eq I ?_)));refine .bind (qn _ ad.1) λbd ay=>?_;refine .bind (P:=λm=>m.map uG=GH) (.cond (λ_=>?_) (λ_=>.ret I)) λm1 bW=>?_
 ·exact .idx (k:=2) I (by simp) (.eq I (.ret (Cc uG I I)))
 refine .bind (qn _ ay) λbq aR=>.bind (P:=λm=>m.map uG=GH) (.cond (λ_=>?_) (λ_=>.ret bW)) λm2 dw=>.ret ⟨aR,dw⟩;have ao:m1.length=6:=by rw[<-kY (f:=uG),bW];rfl
 exact .idx (k:=4) I (by omega) (.eq I (.ret (Cc uG I bW)))
def q1:dn:= {bO:=ByteArray.mk #[97],iy:=4,cn:=1}
def yL:dn:= {bO:=ByteArray.mk #[100],iy:=7,cn:=2}
def ME:dn:= {bO:=ByteArray.mk #[109],iy:=3,cn:=1}
def H6:dn:= {bO:=ByteArray.mk #[101],iy:=6,cn:=3}
def HG:dn:= {bO:=ByteArray.mk #[97],iy:=4,cn:=3}
def Th:dn:= {bO:=ByteArray.mk #[98],iy:=5,cn:=1}
def H7:dn:= {bO:=ByteArray.mk #[102],iy:=8,cn:=4}
def Ti:dn:= {bO:=ByteArray.mk #[103],iy:=9,cn:=1}
def jZ(t:bU):Int×aa Int×aa dn:=(t.cd,t.dg,t.bQ)
def lW(b:Bool):aa dn:=if b then [yL,ME]else [yL]
def Ag(b:Bool):aa dn:=if b then [H6,HG,Th]else [H6,HG]
def Ah(b:Bool):aa dn:=if b then [H7,Ti,yL]else [H7]
def we(c7 dH gE:Bool):aa (Int×aa Int×aa dn):=
 [(1,[1,2,4],[q1]),(2,[1,2,3,4],lW c7),(3,[1,2,3,5,6],Ag dH),(4,[1,3,5],Ah gE)]
def OX(c:fr)(ak:kM c):bN (EE c) (λr=>kM r.2∧(∀x∈r.1.map (·.gH),2<=x∧x<=16)∧∃c7 dH gE,r.1.map jZ=we c7 dH gE):=by
 unfold EE;refine .eq I (.bind (jV _ 2 ak (by omega)) λan h1=>.bind (jV _ 5 h1.1 (by omega)) λaF ad=>.eq I (.eq I ?_));refine .bind (jV _ 6 ad.1 (by omega)) λbd ay=>.bind (qn _ ay.1) λbq aR=>?_;refine .bind (P:=λm=>(m.1.cd=2∧m.1.dg=[1,2,3,4]∧m.1.gH=bo (3+bd.1))∧∃b,m.2=lW b) (.cond (λ_=>?_) (λ_=>.ret ⟨⟨rfl,rfl,rfl⟩,false,rfl⟩)) λm1 bW=>?_
 ·exact .eq I (.eq (kb _ _ (by simp) (by omega)) (.ret ⟨⟨rfl,rfl,rfl⟩,true,rfl⟩))
 refine .eq I (.eq I (.bind (jV _ 6 aR (by omega)) λbM aX=>.bind (qn _ aX.1) λcG bh=>?_));refine .bind (P:=λm=>(m.1.cd=3∧m.1.dg=[1,2,3,5,6]∧m.1.gH=bo (4+bM.1))∧∃b,m.2=Ag b) (.cond (λ_=>?_) (λ_=>.ret ⟨⟨rfl,rfl,rfl⟩,false,rfl⟩)) λm2 dw=>?_
 ·exact .eq I (.eq (kb _ _ (by simp) (by omega)) (.ret ⟨⟨rfl,rfl,rfl⟩,true,rfl⟩))
 refine .eq I (.bind (jV _ 5 bh (by omega)) λdF c5=>.bind (qn _ c5.1) λdC dW=>?_);refine .bind (P:=λm=>(m.1.cd=4∧m.1.dg=[1,3,5]∧m.1.gH=bo (3+dF.1))∧∃b,m.2=Ah b) (.cond (λ_=>?_) (λ_=>.ret ⟨⟨rfl,rfl,rfl⟩,false,rfl⟩)) λm3 fE=>?_
 ·exact .eq I (.eq I (.eq (kb _ _ (by simp) (by omega)) (.ret ⟨⟨rfl,rfl,rfl⟩,true,rfl⟩)))
 refine .eq I (.eq I (.eq I (.eq I (.eq I ?_))));obtain⟨⟨bS,a2,a4⟩,c7,a3⟩:=bW;obtain⟨⟨c1,c2,hB⟩,dH,et⟩:=dw;obtain⟨⟨d1,d2,d4⟩,gE,d3⟩:=fE;refine bN.loop 4 (λk s=>s.1=(k:Int)∧s.2.1.map jZ=we c7 dH gE∧kM s.2.2∧s.2.1.map (·.gH)=[bo (2+aF.1),bo (3+bd.1),bo (4+bM.1),bo (3+dF.1)]) (by omega) ⟨rfl,?_,dW,?_⟩ (λk s hk ax=>?_) (λs ax=>?_)
 ·simp only[mb,Jk,jZ,bS,a2,a3,c1,c2,et,d1,d2,d3,we];rfl
 ·simp only[mb,Jk,a4,hB,d4]
 ·obtain⟨i,cM,H8⟩:=s;obtain⟨au,aW,cF,fv⟩:=ax;simp only at au aW cF fv;subst au;refine bN.cond (λ_=>?_) (λh=>by simp at h;omega);have ao:cM.length=4:=by rw[<-kY (f:=jZ),aW];rfl
  refine .idx I (by simpa using hk) (.bind (jV _ 3 cF (by omega)) λga fp=>.eq (Kp fp.2.1 ?_) (.idx I (by simp only;omega) (.eq I (.ret ⟨hl (by omega),?_,fp.1,?_⟩))))
  ·have nE:=fp.2.2.1;have:k=0∨k=1∨k=2∨k=3:=by omega
   rcases this with rfl|rfl|rfl|rfl <;> exact nE
  ·exact Cc jZ I aW
  exact Cc bU.gH I fv
 obtain⟨i,cM,H8⟩:=s;obtain⟨au,aW,cF,fv⟩:=ax;simp only at au aW cF fv;subst au;refine⟨_,rfl,?_⟩;refine .ret ⟨cF,λx al=>?_,c7,dH,gE,aW⟩;rw[fv]at al;have g2:=ad.2;have g3:=ay.2;have g5:=aX.2;have g7:=c5.2;simp only[dO,xa,xf]at al;rcases al with rfl|rfl|rfl|rfl <;> (rw[jr (by omega) (by omega)];omega)
def Xf(n:Nat)(h:n<=1000):wm (α:=Bool) 1 (n:Int)=some (List.replicate n default):=by
 unfold wm;rw[br ⟨by omega,by omega,by omega⟩];simp
def agv(c:fr)(cM:aa bU)(ak:kM c)(ao:cM.length<=1000)(hk:∀t∈cM,t.bQ.length<=1000):bN (sJ c cM) (λr=>kM r.2∧r.1.map (·.cd)=[1,2,7]):=by
 unfold sJ;refine .bind (jV _ 3 ak (by omega)) λan h1=>.bind (jV _ 6 h1.1 (by omega)) λaF ad=>.bind (jV _ 6 ad.1 (by omega)) λbd ay=>.bind (jV _ 4 ay.1 (by omega)) λbq aR=>?_;refine bN.loop cM.length (λk s=>s.1=(k:Int)∧kM s.2.2.2.1∧s.2.2.1.length<=k∧s.2.2.2.2.2.1.length<=k∧s.2.2.2.2.2.2.2.length<=k∧s.2.1.cd=7∧s.2.2.2.2.1.cd=2∧s.2.2.2.2.2.2.1.cd=1) (by omega) ⟨rfl,aR.1,by simp,by simp,by simp,rfl,rfl,rfl⟩ (λk s sq ax=>?_) (λs ax=>?_)
 ·obtain⟨i,iI,g1,H8,fg,g2,kV,g3⟩:=s;obtain⟨au,aW,cF,fv,jN,i1,i2,i3⟩:=ax;simp only at au aW cF fv jN i1 i2 i3;subst au;refine bN.cond (λ_=>?_) (λh=>by simp at h;omega);have aaq:(aB cM k).bQ.length<=1000:=hk _ (by rw[fQ cM sq];exact om sq);refine .idx I sq (.eq (Xf _ aaq) (.eq (Xf _ aaq) ?_));refine bN.loop (aB cM k).bQ.length (λj s=>s.1=(j:Int)∧s.2.1.length=(aB cM k).bQ.length∧s.2.2.1.length=(aB cM k).bQ.length∧kM s.2.2.2) (by omega) ⟨rfl,by simp,by simp,aW⟩ (λj s aC ax=>?_) (λs ax=>?_)
  ·obtain⟨i,c7,dH,St⟩:=s;obtain⟨f1,f2,f3,f4⟩:=ax;simp only at f1 f2 f3 f4;subst f1;refine bN.cond (λ_=>?_) (λh=>by simp at h;omega);exact .bind (jV _ 4 f4 (by omega)) λdF c5=>.idx I (by simp only;omega) (.idx I (by simp only;omega) (.ret ⟨hl (by omega),by simp[ft,f2],by simp[ft,f3],c5.1⟩))
  obtain⟨i,c7,dH,St⟩:=s;obtain⟨f1,f2,f3,f4⟩:=ax;simp only at f1 f2 f3 f4;subst f1;refine⟨_,by simp;rfl,?_⟩;refine .eq I (.eq (kb _ _ (by simp;omega) (by omega)) (.bind (jV _ 4 f4 (by omega)) λga fp=>?_));refine .bind (P:=λm=>kM m.1∧m.2.2.length<=k+1∧m.2.1.cd=2) (.cond (λ_=>?_) (λ_=>.ret ⟨fp.1,by simp only;omega,i2⟩)) λm1 bW=>?_
  ·exact .bind (jV _ 4 fp.1 (by omega)) λpT aqM=>.bind (qn _ aqM.1) λru Su=>.eq I (.eq (kb _ _ (by simp;omega) (by omega)) (.ret ⟨Su,by simp;omega,i2⟩))
  refine .bind (qn _ bW.1) λhh nE=>?_;refine .bind (P:=λm=>kM m.1∧m.2.2.length<=k+1∧m.2.1.cd=7) (.cond (λ_=>?_) (λ_=>.ret ⟨nE,by simp only;omega,i1⟩)) λm2 dw=>?_
  ·exact .bind (qn _ nE) λju A1=>.bind (qn _ A1) λkh wG=>.eq I (.eq (kb _ _ (by simp;omega) (by omega)) (.ret ⟨wG,by simp;omega,i1⟩))
  exact .ret ⟨hl (by omega),dw.1,dw.2.1,bW.2.1,by simp;omega,dw.2.2,bW.2.2,i3⟩
 obtain⟨i,iI,g1,H8,fg,g2,kV,g3⟩:=s;obtain⟨au,aW,cF,fv,jN,i1,i2,i3⟩:=ax;simp only at au aW cF fv jN i1 i2 i3;subst au;refine⟨_,by simp;rfl,?_⟩;exact .eq I (.eq I (.ret ⟨aW,by simp only[mb,Jk,i1,i2,i3]⟩))
def Ru:aa (Int×Int):=[(1,16),(2,16),(3,8),(4,4),(5,4),(6,8),(7,32),(8,12),(9,4)]
def Ai(f:ia):Int×Int:=(f.cd,f.jX)
structure c6(s:aS):Prop where
 fields:s.iL.map Ai=Ru
 headers:s.sQ.length=3
 ajr:s.ug.length=3
 aio:s.dg.map uG=GH
 tables:∃c7 dH gE,s.bH.map jZ=we c7 dH gE
 Q4:s.fj.map (·.cd)=[1,2,7]
 Y3:∀x∈s.bH.map (·.gH),2<=x∧x<=16
def c6.x9{s:aS}(h:c6 s):s.fj.length=3:=by rw[<-kY (f:=(·.cd)),h.Q4];rfl
def c6.GI{s:aS}(h:c6 s):s.iL.length=9:=by rw[<-kY (f:=Ai),h.fields];rfl
def c6.pO{s:aS}(h:c6 s):s.bH.length=4:=by obtain⟨c7,dH,gE,h1⟩:=h.tables;rw[<-kY (f:=jZ),h1];rfl
def Vz(c:fr)(ak:kM c):bN (qg c) (λr=>c6 r.1∧kM r.2):=by
 unfold qg;refine .bind (jV _ 8 ak (by omega)) λan h1=>.bind (jV _ 30 h1.1 (by omega)) λaF ad=>?_;refine .eq I (.eq I (.eq I (.eq I (.eq I (.eq I (.eq I (.eq I (.eq I (.eq I (.eq I (.eq I ?_)))))))))));refine .bind (OW _ ad.1) λbd ay=>.bind (ON _ ay.1) λbq aR=>.bind (OX _ aR.1) λbM aX=>.eq I (.eq I ?_);obtain⟨aqN,dK,c7,dH,gE,aX⟩:=aX;have ao:bM.1.length=4:=by rw[<-kY (f:=jZ),aX];rfl
 have al9:∀t∈bM.1,t.bQ.length<=1000:=λt bw=>by
  have bh:jZ t∈we c7 dH gE:=aX▸List.mem_map_of_mem bw;have c5:∀p∈we c7 dH gE,p.2.2.length<=1000:=by
   intro p hp;simp only[we,dO,xa,xf]at hp;rcases hp with rfl|rfl|rfl|rfl
   ·simp
   ·cases c7 <;> simp[lW]
   ·cases dH <;> simp[Ag]
   cases gE <;> simp[Ah]
  exact c5 _ bh
 refine .bind (agv _ _ aqN (by simp only;omega) al9) λcG bh=>.eq I (.bind (qn _ bh.1) λdF c5=>?_);let Inv (s:aS):Prop:=s.iL.map Ai=Ru∧s.sQ.length=3∧s.ug.length=3∧s.dg.map uG=GH∧s.bH=bM.1∧s.fj.map (·.cd)=[1,2,7];have hinv:∀(st:aa gF) (qc:aa eB) (s:aS),Inv s->Inv {s with q9:=st,dp:=qc}:=λst qc s h=>h;refine .bind (P:=λ_=>True) (.cond (λ_=>.eq (kb _ _ (by simp) (by omega)) (.ret r1)) (λ_=>.ret r1)) λm1 _=>?_;refine .bind (qn _ c5) λdC dW=>?_;refine .bind (P:=λm=>Inv m.1∧m.2.length<=10) (.cond (λ_=>.eq I (.eq (kb _ _ (by simp) (by omega)) (.ret ⟨⟨rfl,rfl,ay.2,aR.2,rfl,bh.2⟩,by simp⟩))) (λ_=>.ret ⟨⟨rfl,rfl,ay.2,aR.2,rfl,bh.2⟩,by simp⟩)) λm2 dw=>?_;refine .bind (qn _ dW) λga fp=>?_;refine .cb (P:=λ_=>True) (λ_=>⟨2,xv (k:=2) (by rw[dw.1.2.2.2.2.1];omega),trivial⟩) λaJ _=>?_;refine .bind (P:=λm=>Inv m.1∧m.2.length<=11) (.cond (λ_=>.eq I (.eq (kb _ _ (by have:=dw.2;simp;omega) (by omega)) (.ret ⟨dw.1,by have:=dw.2;simp;omega⟩))) (λ_=>.ret ⟨dw.1,by have:=dw.2;simp only;omega⟩)) λm3 fE=>?_;refine .bind (qn _ fp) λhh nE=>?_;refine .cb (P:=λ_=>True) (λ_=>⟨3,xv (k:=3) (by rw[fE.1.2.2.2.2.1];omega),trivial⟩) λbE _=>?_;refine .bind (P:=λm=>Inv m.1∧m.2.length<=13) (.cond (λ_=>.eq I (.eq I (.eq (kb _ _ (by have:=fE.2;simp;omega) (by omega)) (.ret ⟨fE.1,by have:=fE.2;simp;omega⟩)))) (λ_=>.ret ⟨fE.1,by have:=fE.2;simp only;omega⟩)) λm4 rn=>?_;obtain⟨⟨i1,i2,i3,i4,i5,i6⟩,_⟩:=rn;exact .eq I (.ret ⟨⟨i1,i2,i3,i4,⟨c7,dH,gE,by simp only[i5];exact aX⟩,i6,by simp only[i5];exact dK⟩,nE⟩)
def c6.size{s:aS}(h:c6 s){k:Nat}(hk:k<4):2<=(aB s.bH k).gH∧(aB s.bH k).gH<=16:=by
 have ao:=h.pO;exact h.Y3 _ (gY.2 ⟨_,by rw[fQ _ (by omega)];exact om _,rfl⟩)
def dx(v:aV)(i:Nat):Bool:=if i<64 then v.dA.getLsbD i else v.eR.getLsbD (i-64)
def XL{v w:aV}(h:∀j,j<128->dx v j=dx w j):v=w:=by
 cases v with |mk arK arL=>cases w with |mk arM wl=>
 have h1:arK=arM:=by
  apply Ty;intro i ax;have:=h (i+64) (by omega);simpa[dx,show ¬(i+64<64) by omega]using this
 have ad:arL=wl:=by
  apply Ty;intro i ax;have:=h i (by omega);simpa[dx,ax]using this
 rw[h1,ad]
def Xg(j:Nat):dx default j=false:=by
 unfold dx;split <;> exact TW
def GJ(x y:aV):aV:= {eR:=x.eR&&&y.eR,dA:=x.dA&&&y.dA}
def aby(x y:aV):aV:= {eR:=x.eR|||y.eR,dA:=x.dA|||y.dA}
def Rv(x y:aV):aV:= {eR:=x.eR ^^^ y.eR,dA:=x.dA ^^^ y.dA}
@[simp] theorem aip (x y:aV) (j:Nat):dx (GJ x y) j=(dx x j&&dx y j):=by unfold dx GJ;split <;> simp
@[simp] theorem ar2 (x y:aV) (j:Nat):dx (aby x y) j=(dx x j||dx y j):=by unfold dx aby;split <;> simp
@[simp] theorem aiq (x y:aV) (j:Nat):dx (Rv x y) j=(dx x j ^^ dx y j):=by unfold dx Rv;split <;> simp
def and_eq(x y:aV):B8 x y=some (GJ x y):=rfl
def xor_eq(x y:aV):Fo x y=some (Rv x y):=rfl
def Wt(v:aV)(n:Nat)(aI:n<2^62):bN (B3 v n) (λr=> ∀j,j<128->dx r j=dx v (j+n)):=by
 unfold B3;refine .cond (λh=>.ret λj aC=>?_) (λh=>.cond (λcT=>.eq I (.ret λj aC=>?_)) (λcT=>.eq I (.eq I (.ret λj aC=>?_))))
 ·have:n=0:=by simp at h;omega
  simp[this]
 ·simp only[fM]at cT;have au:bo ((n:Int)-64)=((n-64:Nat):Int):=by rw[jr (by omega) (by omega)];omega
  rw[au,Kq (by omega)];unfold dx;by_cases aC:j<64
  ·rw[br aC,bn (by omega)];simp only[MM];congr 1;omega
  rw[bn aC,bn (by omega)];rw[show(default:aV).eR=0#64 from rfl,TW,TP _ _ (by omega)]
 simp only[mC]at h cT;have au:bo (64-(n:Int))=((64-n:Nat):Int):=by rw[jr (by omega) (by omega)];omega
 rw[au,Kq (by omega),Kq (by omega)];unfold dx;by_cases aC:j<64
 ·rw[br aC];simp only[BitVec.getLsbD_or,MM,BitVec.getLsbD_shiftLeft];by_cases ay:j+n<64
  ·rw[br ay];have:j<64-n:=by omega
   simp[this,NR]
  rw[bn ay,TP _ (n+j) (by omega)];have: ¬(j<64-n):=by omega
  simp only[aC,this,N2,NT,zd,Bool.not_false,sL];congr 1;omega
 rw[bn aC,bn (by omega)];simp only[MM];congr 1;omega
def ajs(v:aV)(i:Int):bN (zt v i) (λr=>r=(decide (0<=i∧i<128)&&dx v i.toNat)):=by
 unfold zt;refine .cb (P:=λr=> ∀j,j<128->dx r j=dx v (j+i.toNat)) (λh=>?_) λy hy=>.eq I (.ret ?_)
 ·simp at h;obtain⟨n,rfl⟩:=w0 h.1;exact Wt v n (by omega)
 by_cases h:0<=i∧i<128
 ·have h1:(decide (i>=0)&&decide (i<128))=true:=by simp;omega
  rw[h1,ail];have:=hy h1 0 (by omega);rw[show dx y 0=y.dA.getLsbD 0 from rfl,h7]at this;rw[this,vo h]
 have h1:(decide (i>=0)&&decide (i<128))=false:=by simp;omega
 simp[h1,h]
def air(x y:aV):bN (Fo x y) (λr=> ∀j,j<128->dx r j=(dx x j ^^ dx y j)):=⟨_,xor_eq x y,λj _=>aiq x y j⟩
def Xh(n:Int):bN (xh n) (λr=> ∀j,j<128->dx r j=decide ((j:Int)<n)):=by
 unfold xh BZ;refine .eq I (.eq I ?_);have hm:bo (128-min (max 0 n) 128)=((128-min (max 0 n) 128).toNat:Int):=by rw[jr (by omega) (by omega)];omega
 rw[hm];refine(Wt _ _ (by omega)).bind λr aD=>.ret λj aC=>?_;rw[aD j aC];have ml:∀i,dx {eR:=18446744073709551615#64,dA:=18446744073709551615#64} i=decide (i<128):=by
  intro i;have aU:(18446744073709551615#64)=BitVec.allOnes 64:=by rfl
  unfold dx;simp only[aU,BitVec.getLsbD_allOnes];by_cases h:i<64
  ·simp[h];omega
  simp[h];omega
 rw[ml,decide_eq_decide];omega
def GK:aa Int:=[16,16,8,4,4,8,32,12,4]
def c6.Sv{s:aS}(h:c6 s){k:Nat}(hk:k<9):(aB s.iL k).cd=(k:Int)+1∧(aB s.iL k).jX=aB GK k:=by
 have h1:=xp Ai (l:=s.iL) (k:=k) (by rw[h.GI];exact hk);rw[h.fields]at h1;have ad:aB Ru k=((k:Int)+1,aB GK k):=by
  have:k=0∨k=1∨k=2∨k=3∨k=4∨k=5∨k=6∨k=7∨k=8:=by omega
  rcases this with rfl|rfl|rfl|rfl|rfl|rfl|rfl|rfl|rfl <;> rfl
 rw[ad]at h1;simp only[Ai,vp]at h1;exact⟨h1.1.symm,h1.2.symm⟩
def ta(key:dn):Prop:=∃j:Nat,j<9∧key.iy=(j:Int)+1∧1<=key.cn∧key.cn<=4∧4<=aB GK j∧aB GK j<=32∧(key.cn=2->j=6)
def yM(key:dn):Int:=aB GK (key.iy-1).toNat
def c6.lF{s:aS}(h:c6 s){k:Nat}(hk:k<4):(aB s.bH k).cd=(k:Int)+1∧
 (1<=(aB s.bH k).bQ.length∧(aB s.bH k).bQ.length<=3)∧(∀key∈(aB s.bH k).bQ,ta key)∧
 (1<=(aB s.bH k).dg.length∧(aB s.bH k).dg.length<=5)∧(∀a∈(aB s.bH k).dg,1<=a∧a<=6):=by
 obtain⟨c7,dH,gE,bw⟩:=h.tables
 have h1:=xp jZ (l:=s.bH) (k:=k) (by rw[h.pO];exact hk)
 rw[bw]at h1
 have ad:∀p:Int×aa Int×aa dn,p=jZ (aB s.bH k)->p.1=(k:Int)+1->(1<=p.2.2.length∧p.2.2.length<=3)->(∀key∈p.2.2,ta key)->
  (1<=p.2.1.length∧p.2.1.length<=5)->(∀a∈p.2.1,1<=a∧a<=6)->(aB s.bH k).cd=(k:Int)+1∧
  (1<=(aB s.bH k).bQ.length∧(aB s.bH k).bQ.length<=3)∧(∀key∈(aB s.bH k).bQ,ta key)∧
  (1<=(aB s.bH k).dg.length∧(aB s.bH k).dg.length<=5)∧(∀a∈(aB s.bH k).dg,1<=a∧a<=6):=by
  rintro p rfl a b c d e
  exact⟨a,b,c,d,e⟩
 have a0:(1<=([1,2,4]:aa Int).length∧([1,2,4]:aa Int).length<=5)∧∀a∈([1,2,4]:aa Int),1<=a∧a<=6:=by decide
 have bS:(1<=([1,2,3,4]:aa Int).length∧([1,2,3,4]:aa Int).length<=5)∧∀a∈([1,2,3,4]:aa Int),1<=a∧a<=6:=by decide
 have a2:(1<=([1,2,3,5,6]:aa Int).length∧([1,2,3,5,6]:aa Int).length<=5)∧∀a∈([1,2,3,5,6]:aa Int),1<=a∧a<=6:=by decide
 have a3:(1<=([1,3,5]:aa Int).length∧([1,3,5]:aa Int).length<=5)∧∀a∈([1,3,5]:aa Int),1<=a∧a<=6:=by decide
 have ama:ta q1:=⟨3,by decide,rfl,by decide,by decide,by decide,by decide,by decide⟩
 have XM:ta HG:=⟨3,by decide,rfl,by decide,by decide,by decide,by decide,by decide⟩
 have amb:ta Th:=⟨4,by decide,rfl,by decide,by decide,by decide,by decide,by decide⟩
 have Q5:ta yL:=⟨6,by decide,rfl,by decide,by decide,by decide,by decide,by decide⟩
 have amc:ta ME:=⟨2,by decide,rfl,by decide,by decide,by decide,by decide,by decide⟩
 have Y4:ta H6:=⟨5,by decide,rfl,by decide,by decide,by decide,by decide,by decide⟩
 have Y5:ta H7:=⟨7,by decide,rfl,by decide,by decide,by decide,by decide,by decide⟩
 have amd:ta Ti:=⟨8,by decide,rfl,by decide,by decide,by decide,by decide,by decide⟩
 have:k=0∨k=1∨k=2∨k=3:=by omega
 rcases this with rfl|rfl|rfl|rfl
 ·refine ad _ h1 I (show 1<= [q1].length∧[q1].length<=3 by decide) ?_ a0.1 a0.2
  intro key mn
  rcases gX.1 mn with rfl
  exact ama
 ·refine ad _ h1 I ?_ ?_ bS.1 bS.2
  ·show 1<=(lW c7).length∧(lW c7).length<=3
   cases c7 <;> decide
  intro key mn
  replace mn:key∈lW c7:=mn
  cases c7 <;> simp only[lW,dO,xa,xf,mc,ot,rK]at mn
  ·subst mn;exact Q5
  rcases mn with rfl|rfl;exact Q5;exact amc
 ·refine ad _ h1 I ?_ ?_ a2.1 a2.2
  ·show 1<=(Ag dH).length∧(Ag dH).length<=3
   cases dH <;> decide
  intro key mn
  replace mn:key∈Ag dH:=mn
  cases dH <;> simp only[Ag,dO,xa,xf,mc,ot,rK]at mn
  ·rcases mn with rfl|rfl;exact Y4;exact XM
  rcases mn with rfl|rfl|rfl;exact Y4;exact XM;exact amb
 refine ad _ h1 I ?_ ?_ a3.1 a3.2
 ·show 1<=(Ah gE).length∧(Ah gE).length<=3
  cases gE <;> decide
 intro key mn
 replace mn:key∈Ah gE:=mn
 cases gE <;> simp only[Ah,dO,xa,xf,mc,ot,rK]at mn
 ·subst mn;exact Y5
 rcases mn with rfl|rfl|rfl;exact Y5;exact amd;exact Q5
structure r3(kind b:Int)(m:ct):Prop where
 off:m.gz=false->m=default
 abz:kind=1->m.gz=true
 low:kind=1->∀j,j<128->dx m.bV j=true->(j:Int)<b
 asB:kind=3->∀j,j<128->dx m.iz j=true->(j:Int)<b
 asC:kind=3->∀j,j<128->dx m.bV j=true->dx m.iz j=true
 pre:0<=m.gh∧m.gh<=32
 abA:kind=2->m.gz=true->1<=m.gh
 abB:kind≠2->m.gh=0
 hx:kind≠3->m.iz=default
 asD:kind=3->m.gz=true->m.iz≠default
 asE:kind=4->m.gz=true->m.bV.eR=m.mf.eR∧m.bV.dA<=m.mf.dA
 Sw:kind=2->∀j,j<128->dx m.bV j=true->32-m.gh<=(j:Int)∧j<32
 Mp:kind≠4->m.mf=default
def LJ:(0:Int)<=0∧(0:Int)<=32:=⟨NY 0,by decide⟩
structure iB(s:aS)(k:Nat)(e:bp):Prop where
 lF:e.cw=(k:Int)+1
 len:e.ck.length=(aB s.bH k).bQ.length
 A2:∀i,i<(aB s.bH k).bQ.length->r3 (aB (aB s.bH k).bQ i).cn (yM (aB (aB s.bH k).bQ i)) (aB e.ck i)
 args:e.gu.length<=10
 pri:(∀i,i<(aB s.bH k).bQ.length->(aB (aB s.bH k).bQ i).cn<=2)->e.ka=0
def J8{α:Type}[Inhabited α](l:aa α)(x:α)(i:Nat):aB (l++[x]) i=if i=l.length then x else aB l i:=by
 unfold aB;by_cases h:i=l.length
 ·subst h;simp
 rw[bn h];rcases sN i l.length with h1|h1
 ·rw[Bk h1]
 rw[M3 (by simp;omega),M3 h1]
def hR{α:Type}(m:aw α)(P:α->Prop):Prop:=∀r,m=some r->P r
def hR.bind{α β:Type}{m:aw α}{f:α->aw β}{P:α->Prop}{Q:β->Prop}(h:hR m P)(k:∀r,P r->hR (f r) Q):hR (m.bind f) Q:=λr e=>by
 cases hm:m with
 |none=>rw[hm]at e;cases e
 |some a=>rw[hm]at e;exact k a (h a hm) r e
def hR.skip{α β:Type}{m:aw α}{f:α->aw β}{Q:β->Prop}(k:∀r,hR (f r) Q):hR (m.bind f) Q:=.bind (P:=λ_=>True) (λ_ _=>trivial) λr _=>k r
def hR.ret{α:Type}{a:α}{P:α->Prop}(h:P a):hR (some a) P:=λr e=>by cases e;exact h
def hR.eq{α β:Type}{a:α}{f:α->aw β}{Q:β->Prop}(k:hR (f a) Q):hR ((some a).bind f) Q:=k
def hR.cond{α:Type}{b:Bool}{m n:aw α}{P:α->Prop}(h1:b=true->hR m P)(ad:b=false->hR n P):hR (cond b m n) P:=by
 cases b
 ·exact ad I
 exact h1 I
def hR.cb{α:Type}[Inhabited α]{b w:Bool}{m:aw α}{P:α->Prop}(h:hR m P):hR (cb b w m) (λr=>b=w->P r):=λr e hb=>by
 unfold Gv.cb at e;rw[br hb]at e;exact h r e
def hR.idx{n:Nat}{i:Int}:hR (idx n i) (λk=>(k:Int)=i∧k<n):=λk e=>by
 obtain⟨h1,ad⟩:=cU e;exact⟨by omega,h1⟩
def hR.loop{σ ε:Type}{body:σ->aw (σ⊕ε)}{P:ε->Prop}{n:Nat}{s0:σ}(fG:σ->Prop)(bu:fG s0)(hb:∀s,fG s->hR (body s) (λx=>match x with | .inl b0=>fG b0| .inr e=>P e)):hR (di n body s0) P:=by
 induction n generalizing s0 with
 |zero=>intro r e;cases e
 | succ n bJ=>
   intro r e
   simp only[di]at e
   cases hm:body s0 with
   |none=>rw[hm]at e;cases e
   | some x=>
     rw[hm]at e
     have:=hb s0 bu x hm
     cases x with
     |inl b0=>exact bJ this r e
     |inr y=>cases e;exact this
def bN.par{α:Type}{m:aw α}{P Q:α->Prop}(h:bN m P)(k:hR m Q):bN m (λr=>P r∧Q r):=by
 obtain⟨r,h1,ad⟩:=h;exact⟨r,h1,ad,k r h1⟩
def FO{α:Type}{b:Nat}{xs ys:aa α}:hR (eh b xs ys) (λr=>r=xs++ys):=λr e=>by
 unfold eh at e;split at e
 ·cases e;rfl
 cases e
def Wu(c:fr)(n:Int)(aI:0<n):hR (jo c n) (λr=>0<=r.1∧r.1<n):=by
 unfold jo;refine .skip λ_=>.cond (λ_=>.ret ⟨NY 0,aI⟩) λ_=>.bind .idx λk _=>.bind (P:=λy=>0<=y∧y<n) (λy e=>?_) λy hy=>.ret hy;unfold x2 at e;split at e
 ·cases e
 cases e;exact⟨Int.tmod_nonneg _ (by omega),T9 _ aI⟩
def GL(s:aS)(r:eB):Prop:=
 r.nm=1∧r.uj=0∧((r.cw=2∧r.dP=4∧r.xr=0)∨(r.cw=3∧r.dP=0∧r.k3=2∧(aB s.bH 2).bQ.length=3)∨
   (r.cw=4∧r.dP=0∧r.k3=1∧(aB s.bH 3).bQ.length=3)∨(r.cw=4∧r.dP=5∧r.xr=0))
structure kf(s:aS):Prop where
 refs:∀r∈s.dp,GL s r
 x9:s.dp.length<=4
 quo:∀x∈s.fj,0<=x.kd
 all:(aB s.fj 0).kd=40
def agw(c:fr)(cM:aa bU):hR (sJ c cM) (λr=>(∀x∈r.1,0<=x.kd)∧(aB r.1 0).kd=40):=by
 unfold sJ;refine .skip λ_=>.bind (Wu _ _ (by omega)) λaF ad=>.skip λbd=>.bind (Wu _ _ (by omega)) λbq aR=>?_;refine .bind (P:=λe=>0<=e.2.2.1.kd∧0<=e.2.2.2.2.2.1.kd∧e.2.2.2.2.2.2.2.1.kd=40) (.loop (λst=>0<=st.2.1.kd∧0<=st.2.2.2.2.1.kd∧st.2.2.2.2.2.2.1.kd=40) ⟨aR.1,?_,rfl⟩ λst cD=>?_) λe he=>.eq (.eq (.ret ⟨λx al=>?_,he.2.2⟩))
 ·simp only;rw[jr (by omega) (by omega)];omega
 ·refine .cond (λ_=>.skip λaJ=>.skip λbM=>.skip λcG=>.skip λaW=>.eq (.skip λdC=>.skip λga=>?_)) λ_=>.ret cD;refine .bind (P:=λm=>0<=m.2.1.kd) (.cond (λ_=>.skip λ_=>.skip λ_=>.eq (.skip λ_=>.ret cD.2.1)) λ_=>.ret cD.2.1) λm1 h1=>.skip λhh=>?_;exact .bind (P:=λm=>0<=m.2.1.kd) (.cond (λ_=>.skip λ_=>.skip λ_=>.eq (.skip λ_=>.ret cD.1)) λ_=>.ret cD.1) λm2 ad=>.ret ⟨ad,h1,cD.2.2⟩
 simp only[dO,xa,xf]at al;rcases al with rfl|rfl|rfl
 ·show 0<=e.2.2.2.2.2.2.2.1.kd;rw[he.2.2];decide
 ·exact he.2.1
 exact he.1
def VA(c:fr):hR (qg c) (λr=>kf r.1):=by
 unfold qg;refine .skip λan=>.skip λaF=>.eq (.eq (.eq (.eq (.eq (.eq (.eq (.eq (.eq (.eq (.eq (.eq (.skip λbd=>.skip λbq=>.skip λbM=>.eq (.eq (.bind (agw _ _) λcG bh=>.eq (.skip λdF=>.skip λm1=>.skip λdC=>?_)))))))))))))));refine .bind (P:=λm2=>m2.1.bH=bM.1∧m2.1.fj=cG.1∧(m2.2=[]∨m2.2=[({(default:eB)with cw:=2,dP:=4,nm:=1}:eB)])) (.cond (λ_=>.eq (.bind FO λy hy=>.ret ⟨rfl,rfl,.inr hy⟩)) λ_=>.ret ⟨rfl,rfl,.inl I⟩) λm2 ad=>?_;obtain⟨au,aW,ad⟩:=ad;refine .skip λga=>.bind (.cb .idx) λaJ cQ=>?_;refine .bind (P:=λm3=>m3.1.bH=bM.1∧m3.1.fj=cG.1∧m3.2.length<=2∧∀s:aS,s.bH=bM.1->∀r∈m3.2,GL s r) (.cond (λak=>.eq (.bind FO λy hy=>.ret ⟨au,aW,?_,?_⟩)) λ_=>.ret ⟨au,aW,?_,?_⟩) λm3 ay=>?_
 ·subst hy;rcases ad with h|h <;> simp[h]
 ·subst hy;intro s hs r aD;simp only[gq,oT]at ak;have hk:=cQ ak.1;have hk:aJ=2:=by omega
  subst hk;rw[au,<-hs]at ak;simp only[ca,gX]at aD;rcases aD with aD|rfl
  ·rcases ad with h|h
   ·rw[h]at aD;cases aD
   rw[h,gX]at aD;subst aD;exact⟨rfl,rfl,.inl ⟨rfl,rfl,rfl⟩⟩
  exact⟨rfl,rfl,.inr (.inl ⟨rfl,rfl,rfl,by omega⟩)⟩
 ·rcases ad with h|h <;> simp[h]
 ·intro s hs r aD;rcases ad with h|h
  ·rw[h]at aD;cases aD
  rw[h,gX]at aD;subst aD;exact⟨rfl,rfl,.inl ⟨rfl,rfl,rfl⟩⟩
 obtain⟨cF,fv,arN,ay⟩:=ay;refine .skip λhh=>.bind (.cb .idx) λbE dJ=>?_;refine .bind (P:=λm4=>m4.1.bH=bM.1∧m4.1.fj=cG.1∧m4.2.length<=4∧∀s:aS,s.bH=bM.1->∀r∈m4.2,GL s r) (.cond (λak=>.eq (.eq (.bind FO λy hy=>.ret ⟨cF,fv,?_,?_⟩))) λ_=>.ret ⟨cF,fv,by simp only;omega,ay⟩) λm4 aR=>?_
 ·subst hy;simp only[fh,List.length_cons,List.length_nil];omega
 ·subst hy;intro s hs r aD;simp only[gq,oT]at ak;have hk:=dJ ak.1;have hk:bE=3:=by omega
  subst hk;rw[cF,<-hs]at ak;simp only[ca,dO,gX,xa,xf]at aD;rcases aD with aD|rfl|rfl
  ·exact ay s hs r aD
  ·exact⟨rfl,rfl,.inr (.inr (.inl ⟨rfl,rfl,rfl,by omega⟩))⟩
  exact⟨rfl,rfl,.inr (.inr (.inr ⟨rfl,rfl,rfl⟩))⟩
 obtain⟨jN,mx,arO,aR⟩:=aR;exact .eq (.ret ⟨λr aD=>aR _ jN r aD,arO,λx al=>by simp only[mx]at al;exact bh.1 x al,by simp only[mx];exact bh.2⟩)
def uH(e:bp):Prop:=e.dP=4∨e.dP=5->1<=e.gu.length
end Go.Proofs.YtdadopcnkghbaaaGreat
namespace Gv
open Go
def cv{α:Type}(m:ai α)(P:α->Prop):Prop:=∀Q:α->Prop,(∀r,P r->Q r)->m Q
def cv.run{α:Type}{m:ai α}{P:α->Prop}(h:cv m P):m P:=h P λ_ h=>h
def cv.ret{α:Type}{P:α->Prop}{x:α}(h:P x):cv (ai.ret x) P:=λQ k=>k x h
def cv.bind{α β:Type}{m:ai α}{f:α->ai β}{P:α->Prop}{tZ:β->Prop}(h:cv m P)(k:∀r,P r->cv (f r) tZ):cv (ai.bind m f) tZ:=λQ hq=>h _ λr aD=>k r aD Q hq
def cv.of{α:Type}{o:aw α}{P:α->Prop}(h:bN o P):cv (ai.of o) P:=λQ hq=>let⟨r,h1,ad⟩:=h; ⟨r,h1,hq r ad⟩
def cv.l2{α β:Type}{o:aw α}{f:α->ai β}{P:α->Prop}{tZ:β->Prop}(h:bN o P)(k:∀r,P r->cv (f r) tZ):cv (ai.bind (ai.of o) f) tZ:=.bind (.of h) k
def cv.eq{α β:Type}{o:aw α}{a:α}{f:α->ai β}{tZ:β->Prop}(h:o=some a)(k:cv (f a) tZ):cv (ai.bind (ai.of o) f) tZ:=λQ hq=>⟨a,h,k Q hq⟩
def cv.mono{α:Type}{m:ai α}{P tZ:α->Prop}(h:cv m P)(k:∀r,P r->tZ r):cv m tZ:=λQ hq=>h Q λr aD=>hq r (k r aD)
def cv.cond{α:Type}{b:Bool}{m n:ai α}{P:α->Prop}(h1:b=true->cv m P)(ad:b=false->cv n P):cv (cond b m n) P:=by
 cases b
 ·exact ad I
 exact h1 I
def cv.cb{α β:Type}[Inhabited α]{b w:Bool}{m:aw α}{f:α->ai β}{P:α->Prop}{Q:β->Prop}(h:b=w->bN m P)(k:∀a,(b=w->P a)->cv (f a) Q):cv (ai.bind (ai.of (cb b w m)) f) Q:=by
 unfold Gv.cb;by_cases hb:b=w
 ·rw[br hb];exact .l2 (h hb) λa a7=>k a λ_=>a7
 rw[bn hb];exact .eq I (k default λh=>absurd h hb)
def cv.idx{β:Type}{n:Nat}{i:Int}{k:Nat}{f:Nat->ai β}{Q:β->Prop}(ax:i=k)(hk:k<n)(h:cv (f k) Q):cv (ai.bind (ai.of (Gv.idx n i)) f) Q:=by
 subst ax;exact .eq (xv hk) h
def cv.mk{bC β:Type}{hp:aH bC}{c:bC}{f:Nat×aH bC->ai β}{P:β->Prop}(k:∀p,p∉dB hp->cv (f (p,(p,c)::hp)) P):cv (ai.bind (ai.mk hp c) f) P:=λQ hq=>λa a7=>by
 obtain⟨p,hp'⟩:=a;obtain⟨h1,ad⟩:=a7;simp only at h1 ad;subst ad;exact k p h1 Q hq
def cv.any{α β:Type}{f:α->ai β}{P:β->Prop}(k:∀x,cv (f x) P):cv (ai.bind (ai.any α) f) P:=λQ hq x=>k x Q hq
def cv.loop{σ ε:Type}{body:σ->ai (σ⊕ε)}{P:ε->Prop}{s0:σ}(m:Nat)(fG:Nat->σ->Prop)(hm:m<2^80)(bu:fG 0 s0)
 (hs:∀k s,k<m->fG k s->cv (body s) (λx=>match x with | .inl b0=>fG (k+1) b0| .inr e=>P e))
 (he:∀s,fG m s->cv (body s) (λx=>match x with | .inl _=>False| .inr e=>P e)):cv (nV c9 body s0) P:=by
 have key:∀n k s,k<=m->m-k<n->fG k s->cv (nV n body s) P:=by
  intro n;induction n with
  |zero=>intro k s _ h;omega
  | succ n bJ=>
    intro k s hk aI ax Q hq
    by_cases Hw:k=m
    ·subst Hw
     exact he s ax _ λr aD=>by
      cases r with
      |inl b0=>exact aD.elim
      |inr e=>exact hq e aD
    exact hs k s (by omega) ax _ λr aD=>by
     cases r with
     |inl b0=>exact bJ (k+1) b0 (by omega) (by omega) aD Q hq
     |inr e=>exact hq e aD
 exact key c9 0 s0 (by omega) (by unfold c9;omega) bu
def kJ{bC:Type}{hp:aH bC}{p q:Nat}{k:bC}:pat ((p,k)::hp) q=if p=q then some k else pat hp q:=rfl
def ahe{bC:Type}{hp:aH bC}{p:Nat}(h:p∉dB hp):pat hp p=none:=by
 cases e:pat hp p with
 |none=>rfl
 |some k=>exact absurd (jG e) h
def rX{bC:Type}{hp:aH bC}{p:Nat}{k k':bC}(h:pat hp p=some k'):pat (cr hp p k) p=some k:=by rw[FM,br I,h];rfl
def mE{bC:Type}{hp:aH bC}{p q:Nat}{k:bC}(h:p≠q):pat (cr hp p k) q=pat hp q:=by rw[FM,bn h]
def vx{α β:Type}[DecidableEq α]{l:aa (α×β)}{x y:α}{v:β}:dz (gj l x v) y=if y=x then some v else dz l y:=by
 induction l with
 | nil=>
   show(if y=x then some v else dz [] y)=_
   rfl
 | cons a r bJ=>
   obtain⟨k,w⟩:=a
   simp only[gj]
   by_cases h:x=k
   ·rw[br h]
    simp only[dz]
    by_cases ad:y=x
    ·simp[ad]
    simp[ad,show ¬y=k from λe=>ad (by rw[e,h])]
   rw[bn h]
   simp only[dz]
   by_cases ad:y=k
   ·subst ad;simp[show ¬y=x from λe=>h e.symm]
   rw[bn ad,bJ,bn ad]
end Gv
namespace Go.Proofs.YtdadopcnkghbaaaGreat
open Go Gv
def fx(b:Bool):Nat:=bif b then 1 else 0
def cS(hp:aH Cell):Ref->aa Bool->Ref
 |none,_=>none
 |some p,[]=>some p
 | some p,b::aZ=>match cK hp p with
   |none=>none
   |some c=>cS hp (cu c.du (fx b)) aZ
def ha{hp:aH Cell}{aZ:aa Bool}:cS hp none aZ=none:=by cases aZ <;> rfl
def qo{hp:aH Cell}{r:Ref}:cS hp r []=r:=by cases r <;> rfl
def ix{hp:aH Cell}{p:Nat}{c:eG}{b:Bool}{aZ:aa Bool}(h:cK hp p=some c):cS hp (some p) (b::aZ)=cS hp (cu c.du (fx b)) aZ:=by
 show(match cK hp p with |none=>none|some c=>cS hp (cu c.du (fx b)) aZ)=_;rw[h]
def oY{hp:aH Cell}:∀{r:Ref} {aZ cs:aa Bool},cS hp r (aZ++cs)=cS hp (cS hp r aZ) cs
 |none,aZ,cs=>by rw[ha,ha,ha]
 |some p,[],cs=>by rw[List.nil_append,qo]
 | some p,b::aZ,cs=>by
   cases e:cK hp p with
   | none=>
     have h1:∀xs,cS hp (some p) (b::xs)=none:=λxs=>by
      show(match cK hp p with |none=>none|some c=>cS hp (cu c.du (fx b)) xs)=_;rw[e]
     rw[List.cons_append,h1,h1,ha]
   |some c=>rw[List.cons_append,ix e,ix e,oY]
def VX{hp hp':aH Cell}:∀{r:Ref} {aZ:aa Bool},(∀p cs,cS hp r cs=some p->cK hp' p=cK hp p)->cS hp' r aZ=cS hp r aZ
 |none,aZ,_=>by rw[ha,ha]
 |some p,[],_=>rfl
 | some p,b::aZ,h=>by
   have bu:=h p [] I;show(match cK hp' p with |none=>none|some c=>cS hp' (cu c.du (fx b)) aZ)=(match cK hp p with |none=>none|some c=>cS hp (cu c.du (fx b)) aZ);rw[bu];cases e:cK hp p with
   |none=>rfl
   | some c=>
     refine VX λq cs hq=>h q (b::cs) ?_
     rw[ix e];exact hq
structure rf(hp:aH Cell)(root:Ref):Prop where
 reads:∀aZ p,cS hp root aZ=some p->∃c,cK hp p=some c
 inj:∀aZ cs p,cS hp root aZ=some p->cS hp root cs=some p->aZ=cs
 dep:∀aZ p,cS hp root aZ=some p->aZ.length<=32
def cont(hp:aH Cell)(root:Ref)(aZ:aa Bool):aw Int:=match cS hp root aZ with
 |none=>none
 | some p=>match cK hp p with
   |none=>none
   |some c=>bif c.gr then some c.kB else none
def lT{hp:aH Cell}{root:Ref}{aZ:aa Bool}{p:Nat}{c:eG}(h:cS hp root aZ=some p)(ak:cK hp p=some c):cont hp root aZ=bif c.gr then some c.kB else none:=by
 unfold cont;rw[h];simp only[ak]
def mI{hp:aH Cell}{root:Ref}{aZ:aa Bool}(h:cS hp root aZ=none):cont hp root aZ=none:=by
 unfold cont;rw[h]
def rT{hp:aH Cell}{p:Nat}{c:eG}:cK hp p=some c↔pat hp p=some (.gP c):=by
 refine⟨re,λh=>?_⟩;unfold cK;rw[h]
def vy{hp:aH Cell}{p:Nat}{c:gZ}:gi hp p=some c↔pat hp p=some (.k6 c):=by
 refine⟨xx,λh=>?_⟩;unfold gi;rw[h]
def zv{hp hp':aH Cell}{p:Nat}(h:pat hp' p=pat hp p):cK hp' p=cK hp p:=by unfold cK;rw[h]
def JR{hp hp':aH Cell}{p:Nat}(h:pat hp' p=pat hp p):gi hp' p=gi hp p:=by unfold gi;rw[h]
structure eQ(hp hp':aH Cell)(own:Nat->Prop):Prop where
 keys:∀q,q∈dB hp->q∈dB hp'
 rest:∀q,q∈dB hp->¬own q->pat hp' q=pat hp q
def eQ.refl{hp:aH Cell}{own:Nat->Prop}:eQ hp hp own:=⟨λ_ h=>h,λ_ _ _=>rfl⟩
def eQ.mk'{hp:aH Cell}{own:Nat->Prop}{a:Nat}{k:Cell}(a7:a∉dB hp):eQ hp ((a,k)::hp) own:=
 ⟨λq h=>gd _ h,λq h _=>by rw[kJ,bn (λe:a=q=>a7 (by rw[e];exact h))]⟩
def eQ.up{hp:aH Cell}{own:Nat->Prop}{p:Nat}{k:Cell}(hp':own p):eQ hp (cr hp p k) own:=
 ⟨λq h=>by rw[rb];exact h,λq h hq=>mE (λe:p=q=>hq (by rw[<-e];exact hp'))⟩
def eQ.trans{h1 ad ay:aH Cell}{own own':Nat->Prop}(a:eQ h1 ad own)(b:eQ ad ay own')(aU:∀q,q∈dB h1->own' q->own q):eQ h1 ay own:=
 ⟨λq h=>b.keys q (a.keys q h),λq h hq=>by rw[b.rest q (a.keys q h) λcT=>hq (aU q h cT),a.rest q h hq]⟩
def agx(b:Bool):cu (default:eG).du (fx b)=none:=by cases b <;> rfl
def VY{hp:aH Cell}{a:Nat}(h:cK hp a=some (default:eG)):∀aZ,cS hp (some a) aZ=if aZ=[]then some a else none
 |[]=>rfl
 |b::aZ=>by rw[ix h,agx,ha];rfl
def Po{hp hp':aH Cell}{root:Ref}{ws:aa Bool}{b:Bool}{p a:Nat}{c:eG}(bw:rf hp root)(hw:cS hp root ws=some p)(ak:cK hp p=some c)(aI:cu c.du (fx b)=none)(a7:cK hp a=none)
 (bL:cK hp' p=some {c with du:=dS c.du (fx b) (some a)}) (cN:cK hp' a=some default) (hG:∀q,q≠p->q≠a->cK hp' q=cK hp q):
 ∀(aZ us:aa Bool) (q:Nat),cS hp root us=some q->cS hp' (some q) aZ=if us++aZ=ws++[b]then some a else cS hp (some q) aZ
 | [],us,q,hu=>by
   have: ¬us++[]=ws++[b]:=λe=>by
    rw[ma]at e;rw[e,oY,hw,ix ak,aI,ha]at hu;cases hu
   rw[bn this];rfl
 | x::xs,us,q,hu=>by
   obtain⟨oM,p4⟩:=bw.reads us q hu;have rB:q≠a:=λe=>by rw[e,a7]at p4;cases p4
   by_cases HH:q=p
   ·subst HH;have Sx:=bw.inj us ws q hu hw;subst Sx;rw[ak]at p4;cases p4;rw[ix bL,ix ak];simp only;have b9:fx b<2:=by cases b <;> decide
    rw[zz _ _ b9];by_cases A3:x=b
    ·subst A3;rw[br I,aI,ha,VY cN];by_cases h:xs=[]
     ·subst h;rw[br I,br I]
     rw[bn h,bn λe=>h ?_];have:=Ik e;simpa using this
    have cX: ¬fx x=fx b:=λe=>A3 (by cases x <;> cases b <;> first|rfl|cases e);have e9: ¬us++x::xs=us++[b]:=λe=>A3 (by have:=Ik e;simpa using (List.cons.inj this).1);rw[bn cX,bn e9];cases e:cu c.du (fx x)with
    |none=>rw[ha,ha]
    | some og=>
      have oD:cS hp root (us++[x])=some og:=by rw[oY,hu,ix ak,e,qo]
      rw[Po bw hw ak aI a7 bL cN hG xs (us++[x]) og oD,jn,List.singleton_append,bn e9]
   have h1:cK hp' q=some oM:=by rw[hG q HH rB];exact p4
   rw[ix h1,ix p4];cases e:cu oM.du (fx x)with
   | none=>
     have e9: ¬us++x::xs=ws++[b]:=λaW=>by
      have aqO:cS hp root (us++[x])=none:=by rw[oY,hu,ix p4,e,ha]
      rcases List.eq_nil_or_concat xs with rfl|⟨ys,y,rfl⟩
      ·have:=(M0 aW I);subst this;rw[hu]at hw;cases hw;exact HH I
      have ay:us++x::ys=ws:=by
       have:(us++x::ys)++[y]=ws++[b]:=by simpa using aW
       exact M0 this I
      rw[<-ay,show us++x::ys=(us++[x])++ys by simp,oY,aqO,ha]at hw;cases hw
     rw[ha,ha,bn e9]
   | some og=>
     have oD:cS hp root (us++[x])=some og:=by rw[oY,hu,ix p4,e,qo]
     rw[Po bw hw ak aI a7 bL cN hG xs (us++[x]) og oD,jn,List.singleton_append]
def grow{hp hp':aH Cell}{r:Nat}{ws:aa Bool}(hd:ws.length<32){b:Bool}{p a:Nat}{c:eG}(bw:rf hp (some r))(hw:cS hp (some r) ws=some p)(ak:cK hp p=some c)(aI:cu c.du (fx b)=none)(a7:cK hp a=none)
 (bL:cK hp' p=some {c with du:=dS c.du (fx b) (some a)}) (cN:cK hp' a=some default) (hG:∀q,q≠p->q≠a->cK hp' q=cK hp q):
 rf hp' (some r)∧(∀aZ,cS hp' (some r) aZ=if aZ=ws++[b]then some a else cS hp (some r) aZ)∧∀aZ,cont hp' (some r) aZ=cont hp (some r) aZ:=by
 have aY:∀aZ,cS hp' (some r) aZ=if aZ=ws++[b]then some a else cS hp (some r) aZ:=λaZ=>Po bw hw ak aI a7 bL cN hG aZ [] r I
 have Mq:∀aZ,cS hp (some r) aZ≠some a:=λaZ h=>by
  obtain⟨c,h1⟩:=bw.reads aZ a h;rw[a7]at h1;cases h1
 have Sy:cS hp (some r) (ws++[b])=none:=by rw[oY,hw,ix ak,aI,ha]
 refine⟨⟨λaZ q h=>?_,λaZ cs q h1 ad=>?_,λaZ q h=>?_⟩,aY,λaZ=>?_⟩
 ·rw[aY]at h
  split at h
  ·cases h;exact⟨_,cN⟩
  obtain⟨jz,h1⟩:=bw.reads aZ q h
  by_cases e:q=p
  ·subst e;exact⟨_,bL⟩
  exact⟨jz,by rw[hG q e λaW=>Mq aZ (aW▸h)];exact h1⟩
 ·rw[aY]at h1 ad
  split at h1 <;> split at ad
  ·rename_i au aW;rw[au,aW]
  ·cases h1;exact absurd ad (Mq cs)
  ·cases ad;exact absurd h1 (Mq aZ)
  exact bw.inj aZ cs q h1 ad
 ·rw[aY]at h
  split at h
  ·rename_i e;rw[e];simp;omega
  exact bw.dep aZ q h
 by_cases e:aZ=ws++[b]
 ·subst e
  rw[mI Sy,lT (by rw[aY,br I]) cN];rfl
 have A4:cS hp' (some r) aZ=cS hp (some r) aZ:=by rw[aY,bn e]
 cases h:cS hp (some r) aZ with
 |none=>rw[mI h,mI (A4.trans h)]
 | some q=>
   obtain⟨jz,h1⟩:=bw.reads aZ q h
   by_cases eq:q=p
   ·subst eq
    rw[ak]at h1;cases h1
    rw[lT h ak,lT (A4.trans h) bL]
   rw[lT h h1,lT (A4.trans h) (by rw[hG q eq λaW=>Mq aZ (aW▸h)];exact h1)]
def FH{hp hp':aH Cell}{p:Nat}{c jz:eG}(ak:cK hp p=some c)(p5:cK hp' p=some jz)(he:jz.du=c.du)(h:∀q,q≠p->cK hp' q=cK hp q):∀(aZ:aa Bool) (r:Ref),cS hp' r aZ=cS hp r aZ
 |aZ,none=>by rw[ha,ha]
 |[],some q=>rfl
 | b::aZ,some q=>by
   by_cases e:q=p
   ·subst e;rw[ix ak,ix p5,he];exact FH ak p5 he h aZ _
   cases aW:cK hp q with
   | none=>
     show(match cK hp' q with |none=>none|some c=>cS hp' (cu c.du (fx b)) aZ)=(match cK hp q with |none=>none|some c=>cS hp (cu c.du (fx b)) aZ)
     rw[h q e,aW]
   |some d=>rw[ix aW,ix (by rw[h q e];exact aW)];exact FH ak p5 he h aZ _
def aar{hp hp':aH Cell}{root:Ref}{ws:aa Bool}{p:Nat}{c jz:eG}(bw:rf hp root)(hw:cS hp root ws=some p)(ak:cK hp p=some c)(p5:cK hp' p=some jz)(he:jz.du=c.du)(h:∀q,q≠p->cK hp' q=cK hp q):
 rf hp' root∧∀aZ,cont hp' root aZ=if aZ=ws then(bif jz.gr then some jz.kB else none)else cont hp root aZ:=by
 have aY:=FH ak p5 he h
 refine⟨⟨λaZ q hq=>?_,λaZ cs q h1 ad=>bw.inj aZ cs q (by rw[<-aY];exact h1) (by rw[<-aY];exact ad),λaZ q hq=>bw.dep aZ q (by rw[<-aY];exact hq)⟩,λaZ=>?_⟩
 ·rw[aY]at hq
  obtain⟨d,h1⟩:=bw.reads aZ q hq
  by_cases e:q=p
  ·subst e;exact⟨_,p5⟩
  exact⟨d,by rw[h q e];exact h1⟩
 by_cases e:aZ=ws
 ·subst e;rw[br I,lT (by rw[aY];exact hw) p5]
 rw[bn e]
 cases h1:cS hp root aZ with
 |none=>rw[mI h1,mI (by rw[aY];exact h1)]
 | some q=>
   obtain⟨d,ad⟩:=bw.reads aZ q h1
   have HH:q≠p:=λaW=>e (bw.inj aZ ws p (aW▸h1) hw)
   rw[lT h1 ad,lT (by rw[aY];exact h1) (by rw[h q HH];exact ad)]
def adV{xs:aa bU}{f:bU->aw Bool}{g:bU->Bool}(aY:∀x∈xs,f x=some (g x))(ao:xs.length<2^62):
 bN (DV xs f) (λr=>(r= -1∧∀x∈xs,g x=false)∨∃i:Nat,i<xs.length∧r=i∧g (aB xs i)=true∧∀j,j<i->g (aB xs j)=false):=by
 unfold DV
 refine bN.loop xs.length (λk s=>s=(k:Int)∧∀j,j<k->g (aB xs j)=false) (by omega) ⟨rfl,λj aC=>by omega⟩ (λk s hk ax=>?_) (λs ax=>?_)
 ·obtain⟨au,aW⟩:=ax;subst au
  refine bN.cond (λ_=>?_) (λh=>by simp at h;omega)
  refine .idx I hk (.eq (aY _ (by rw[fQ xs hk];exact om hk)) (.cond (λh=>.ret ?_) (λh=>.ret ⟨hl (by omega),λj aC=>?_⟩)))
  ·exact .ret (.inr ⟨k,hk,rfl,h,aW⟩)
  by_cases wF:j=k
  ·subst wF;exact h
  exact aW j (by omega)
 obtain⟨au,aW⟩:=ax;subst au
 refine⟨_,by simp;rfl,?_⟩
 refine .ret (.inl ⟨rfl,λx al=>?_⟩)
 obtain⟨j,aC,rfl⟩:=D3.1 al
 rw[<-fQ xs aC];exact aW j aC
def adW{xs:aa ia}{f:ia->aw Bool}{g:ia->Bool}(aY:∀x∈xs,f x=some (g x))(ao:xs.length<2^62):
 bN (DW xs f) (λr=>(r= -1∧∀x∈xs,g x=false)∨∃i:Nat,i<xs.length∧r=i∧g (aB xs i)=true∧∀j,j<i->g (aB xs j)=false):=by
 unfold DW
 refine bN.loop xs.length (λk s=>s=(k:Int)∧∀j,j<k->g (aB xs j)=false) (by omega) ⟨rfl,λj aC=>by omega⟩ (λk s hk ax=>?_) (λs ax=>?_)
 ·obtain⟨au,aW⟩:=ax;subst au
  refine bN.cond (λ_=>?_) (λh=>by simp at h;omega)
  refine .idx I hk (.eq (aY _ (by rw[fQ xs hk];exact om hk)) (.cond (λh=>.ret ?_) (λh=>.ret ⟨hl (by omega),λj aC=>?_⟩)))
  ·exact .ret (.inr ⟨k,hk,rfl,h,aW⟩)
  by_cases wF:j=k
  ·subst wF;exact h
  exact aW j (by omega)
 obtain⟨au,aW⟩:=ax;subst au
 refine⟨_,by simp;rfl,?_⟩
 refine .ret (.inl ⟨rfl,λx al=>?_⟩)
 obtain⟨j,aC,rfl⟩:=D3.1 al
 rw[<-fQ xs aC];exact aW j aC
def OO{s:aS}(h:c6 s){k:Nat}(hk:k<4):bN (ue s ((k:Int)+1)) (λr=>r=(k:Int)):=by
 unfold ue;refine(adV (g:=λt=>t.cd==(k:Int)+1) (λx al=>rfl) (by rw[h.pO];omega)).bind λr aD=>.ret ?_;have dJ:k<s.bH.length:=by rw[h.pO];exact hk
 rcases aD with⟨_,aD⟩|⟨i,h1,ad,ay,aR⟩
 ·have:=aD (aB s.bH k) (by rw[fQ _ dJ];exact om dJ);simp only[(h.lF hk).1,Et]at this;cases this
 have aX:=(h.lF (show i<4 by have:=h.pO;omega)).1;simp only[aX,oT]at ay;omega
def afw{s:aS}(h:c6 s){k:Nat}(hk:k<9):bN (zj s ((k:Int)+1)) (λr=>r=(k:Int)):=by
 unfold zj;refine(adW (g:=λt=>t.cd==(k:Int)+1) (λx al=>rfl) (by rw[h.GI];omega)).bind λr aD=>.ret ?_;have dJ:k<s.iL.length:=by rw[h.GI];exact hk
 rcases aD with⟨_,aD⟩|⟨i,h1,ad,ay,aR⟩
 ·have:=aD (aB s.iL k) (by rw[fQ _ dJ];exact om dJ);simp only[(h.Sv hk).1,Et]at this;cases this
 have aX:=(h.Sv (show i<9 by have:=h.GI;omega)).1;simp only[aX,oT]at ay;omega
def lead(n k:Int)(j:Nat):Bool:=decide ((j:Int)<n)&&decide (n-max 0 (min k n)<=(j:Int))
def afT(n k:Int)(bu:0<=n)(h1:n<=128):bN (BT n k) (λr=> ∀j,j<128->dx r j=lead n k j):=by
 unfold BT BZ;have e:min (max 0 n) 128=n:=by omega
 rw[e];have aW:bo (n-min (max 0 k) n)=n-min (max 0 k) n:=jr (by omega) (by omega);refine .eq I ((Xh n).bind λa a7=>?_);rw[aW];refine(Xh _).bind λb hb=>(air a b).bind λr aD=>.ret λj aC=>?_;rw[aD j aC,a7 j aC,hb j aC];unfold lead;by_cases p:(j:Int)<n
 ·rw[vo p];by_cases q:(j:Int)<n-min (max 0 k) n
  ·rw[vo q,za (by omega)];rfl
  rw[za q,vo (by omega)];rfl
 rw[za p,za (by omega)];rfl
def abC(a b:aV):Bool:=decide (a.eR<b.eR)||(a.eR==b.eR&&decide (a.dA<b.dA))
end Go.Proofs.YtdadopcnkghbaaaGreat
namespace Gv
structure wH{α:Type}(b:α->α->Bool):Prop where
 asymm:∀x y,b x y=true->b y x=false
 trans:∀x y z,b x y=true->b y z=true->b x z=true
def ins{α:Type}(b:α->α->Bool):aa α->α->aa α
 |[],x=>[x]
 |a::l,x=>if b a x=true then a::ins b l x else x::a::l
def iq{α:Type}(b:α->α->Bool)(l:aa α):aa α:=l.foldl (ins b) []
def lG{α:Type}(b:α->α->Bool):aa α->α->Nat
 |[],_=>0
 |a::l,x=>if b a x=true then lG b l x+1 else 0
def wI{α:Type}(b:α->α->Bool)(x y:α):Prop:=b x y=true∨b y x=true
variable{α:Type}{b:α->α->Bool}
def Wv(a:α)(l:aa α)(x:α):ins b (a::l) x=if b a x=true then a::ins b l x else x::a::l:=rfl
def Qj:∀{l:aa α} {x:α},lG b l x<=l.length
 |[],_=>iu _
 | a::l,x=>by
   have:=Qj (l:=l) (x:=x);unfold lG;split <;> simp <;> omega
def XN:∀(l:aa α) (x:α),ins b l x=l.take (lG b l x)++x::l.drop (lG b l x)
 |[],x=>rfl
 | a::l,x=>by
   unfold ins lG;split
   ·rw[XN l x];rfl
   rfl
def Pp:∀(l:aa α) (x:α),(ins b l x).Perm (x::l)
 |[],x=>IW _
 | a::l,x=>by
   unfold ins;split
   ·exact((Pp l x).cons a).trans (List.Perm.swap x a l)
   exact IW _
def ais{l:aa α}{x y:α}:y∈ins b l x↔y=x∨y∈l:=by
 rw[(Pp l x).mem_iff];simp
def Kr(l:aa α)(x:α):iq b (l++[x])=ins b (iq b l) x:=by
 simp[iq,List.foldl_append]
def PR(l:aa α):(iq b l).Perm l:=by
 have key:∀(l m:aa α),(l.foldl (ins b) m).Perm (m++l):=by
  intro l;induction l with
  |nil=>intro m;simp
  | cons a l bJ=>
    intro m
    refine(bJ (ins b m a)).trans ?_
    refine((Pp m a).append_right l).trans ?_
    exact(q5 (a:=a) (l₁:=m) (l₂:=l)).symm
 exact key l []
def xL{l:aa α}{y:α}:y∈iq b l↔y∈l:=(PR l).mem_iff
def ajt{l:aa α}:(iq b l).length=l.length:=(PR l).length_eq
def VB(hb:wH b):∀{l:aa α} {x:α},l.Pairwise (λx y=>b x y=true)->(∀a∈l,wI b a x)->(ins b l x).Pairwise (λx y=>b x y=true)
 |[],x,_,_=>by simp[ins]
 | a::l,x,hs,bw=>by
   obtain⟨h1,ad⟩:=nQ.1 hs;unfold ins;split
   ·rename_i u3;refine nQ.2 ⟨λc ak=>?_,VB hb ad λa a7=>bw a (by simp[a7])⟩;rcases ais.1 ak with rfl|ak
    ·exact u3
    exact h1 c ak
   rename_i u3;have HI:b x a=true:=(bw a (by simp)).resolve_left u3;refine nQ.2 ⟨λc ak=>?_,hs⟩;rcases dO.1 ak with rfl|ak
   ·exact HI
   exact hb.trans _ _ _ HI (h1 c ak)
def agy{l:aa α}{x:α}(h:∀c∈l,b c x=false):ins b l x=x::l:=by
 cases l with
 |nil=>rfl
 |cons a l=>unfold ins;rw[bn (by simp[h a (by simp)])]
def VC(hb:wH b){q:α->Bool}:∀{l:aa α} {x:α},l.Pairwise (λx y=>b x y=true)->(∀a∈l,wI b a x)->
 (ins b l x).filter q=if q x=true then ins b (l.filter q) x else l.filter q
 | [],x,_,_=>by
   show [x].filter q=if q x=true then [x]else [];by_cases hp:q x=true
   ·simp[hp]
   simp only[kX]at hp;simp[hp]
 | a::l,x,hs,bw=>by
   obtain⟨h1,ad⟩:=nQ.1 hs;have bJ:=VC hb (q:=q) (x:=x) ad λa a7=>bw a (by simp[a7]);rw[Wv];by_cases u3:b a x=true
   ·rw[br u3];by_cases rB:q a=true
    ·rw[Bl rB,Bl rB,bJ];by_cases hq:q x=true
     ·rw[br hq,br hq,Wv,br u3]
     rw[bn hq,bn hq]
    rw[w1 rB,w1 rB,bJ]
   rw[bn u3];have HI:b x a=true:=(bw a (by simp)).resolve_left u3;by_cases hq:q x=true
   ·rw[Bl hq,br hq,agy];intro c ak;have p5:=(sI.1 ak).1;refine hb.asymm _ _ ?_;rcases dO.1 p5 with rfl|p5
    ·exact HI
    exact hb.trans _ _ _ HI (h1 c p5)
   rw[w1 hq,bn hq]
def ya(b:α->α->Bool)(l:aa α):Prop:=l.Pairwise (wI b)
def wI.symm{x y:α}(h:wI b x y):wI b y x:=h.elim .inr .inl
def ya.snoc{l:aa α}{x:α}(h:ya b (l++[x])):ya b l∧∀a∈l,wI b a x:=by
 unfold ya at *;rw[Iq]at h;exact⟨h.1,λa a7=>h.2.2 a a7 x (by simp)⟩
def Ww{P:aa α->Prop}(bu:P [])(h1:∀l x,P l->P (l++[x]))(l:aa α):P l:=by
 have:∀r:aa α,P r.reverse:=by
  intro r;induction r with
  |nil=>exact bu
  |cons a r bJ=>rw[List.reverse_cons];exact h1 _ _ bJ
 have:=this l.reverse;rwa[List.reverse_reverse]at this
def Pc(hb:wH b){l:aa α}(h:ya b l):(iq b l).Pairwise (λx y=>b x y=true):=by
 induction l using Ww with
 |bu=>exact List.Pairwise.nil
 | h1 l x bJ=>
   obtain⟨h1,ad⟩:=h.snoc
   rw[Kr]
   exact VB hb (bJ h1) λa a7=>ad a (xL.1 a7)
def agz(hb:wH b){q:α->Bool}{l:aa α}(h:ya b l):(iq b l).filter q=iq b (l.filter q):=by
 induction l using Ww with
 |bu=>rfl
 | h1 l x bJ=>
   obtain⟨h1,ad⟩:=h.snoc
   rw[Kr,VC hb (Pc hb h1) λa a7=>ad a (xL.1 a7),bJ h1,vg]
   by_cases hq:q x=true
   ·rw[br hq,Bl hq,List.filter_nil,Kr]
   rw[bn hq,w1 hq,List.filter_nil,ma]
def Qk[Inhabited α](hb:wH b):∀{l:aa α} {x:α} {k:Nat},l.Pairwise (λx y=>b x y=true)->k<l.length->(b (aB l k) x=true↔k<lG b l x)
 |[],x,k,_,hk=>by simp at hk
 | a::l,x,k,hs,hk=>by
   obtain⟨h1,ad⟩:=nQ.1 hs;unfold lG;cases k with
   | zero=>
     have:aB (a::l) 0=a:=rfl
     rw[this]
     split <;> simp_all
   | succ k=>
     have k9:k<l.length:=by simpa using hk
     have he:aB (a::l) (k+1)=aB l k:=by rw[fQ _ hk,fQ _ k9];rfl
     rw[he,Qk hb ad k9]
     split
     ·omega
     rename_i u3
     constructor
     ·intro b9
      have aX:=(Qk hb ad k9).2 b9
      have bh:=h1 (aB l k) (by rw[fQ _ k9];exact om _)
      exact absurd (hb.trans _ _ _ bh aX) u3
     intro h;omega
end Gv
namespace Go.Proofs.YtdadopcnkghbaaaGreat
open Go Gv
def aeN{xs:aa dn}{f:dn->aw Bool}{g:dn->Bool}(aY:∀x∈xs,f x=some (g x))(ao:xs.length<2^62):
 bN (Bp xs f) (λr=>(r= -1∧∀x∈xs,g x=false)∨∃i:Nat,i<xs.length∧r=i∧g (aB xs i)=true∧∀j,j<i->g (aB xs j)=false):=by
 unfold Bp
 refine bN.loop xs.length (λk s=>s=(k:Int)∧∀j,j<k->g (aB xs j)=false) (by omega) ⟨rfl,λj aC=>by omega⟩ (λk s hk ax=>?_) (λs ax=>?_)
 ·obtain⟨au,aW⟩:=ax;subst au
  refine bN.cond (λ_=>?_) (λh=>by simp at h;omega)
  refine .idx I hk (.eq (aY _ (by rw[fQ xs hk];exact om hk)) (.cond (λh=>.ret ?_) (λh=>.ret ⟨hl (by omega),λj aC=>?_⟩)))
  ·exact .ret (.inr ⟨k,hk,rfl,h,aW⟩)
  by_cases wF:j=k
  ·subst wF;exact h
  exact aW j (by omega)
 obtain⟨au,aW⟩:=ax;subst au
 refine⟨_,by simp;rfl,?_⟩
 refine .ret (.inl ⟨rfl,λx al=>?_⟩)
 obtain⟨j,aC,rfl⟩:=D3.1 al
 rw[<-fQ xs aC];exact aW j aC
def _root_.Gv.bN.get{β:Type}{m:aw β}{v:β}(h:bN m (λr=>r=v)):m=some v:=by
 obtain⟨r,h1,rfl⟩:=h;exact h1
def aqP(kind b:Int)(m:ct)(x:aV):Bool:=
 if m.gz=false then true
 else if kind=1 then decide (x=m.bV)
 else if kind=2 then(List.range 128).all λj=> !lead b m.gh j||(dx x j==dx m.bV j)
 else if kind=3 then decide (GJ x m.iz=m.bV)
 else !abC x m.bV&& !abC m.mf x
def mt(s:aS)(k:Nat)(p:Vector aV 4)(e:bp):Bool:=
 (List.range (aB s.bH k).bQ.length).all λi=>aqP (aB (aB s.bH k).bQ i).cn (yM (aB (aB s.bH k).bQ i)) (aB e.ck i) (cu p i)
def agA{s:aS}(h:c6 s){k:Nat}(hk:k<4){e:bp}(he:e.cw=(k:Int)+1):zm s e=some (aB s.bH k,true):=by
 refine bN.get ?_;unfold zm;rw[he];refine(OO h hk).bind λr aD=>?_;subst aD;rw[show decide ((k:Int)<0)=false from za (by omega),cond_false];exact .idx I (by have:=h.pO;omega) (.ret I)
def wJ:aa dn->aa ct->Int
 |key::ks,m::ms=>if key.cn=2 then m.gh else wJ ks ms
 |_,_=>0
def XO:∀{ks:aa dn} {ms:aa ct} {i:Nat},ms.length=ks.length->i<ks.length->(aB ks i).cn=2->(∀j,j<i->(aB ks j).cn≠2)->wJ ks ms=(aB ms i).gh
 |[],_,i,_,ax,_,_=>by simp at ax
 |key::ks,[],i,ao,_,_,_=>by simp at ao
 | key::ks,m::ms,0,_,_,ad,_=>by
   have:(aB (key::ks) 0)=key:=rfl;rw[this]at ad;unfold wJ;rw[br ad];rfl
 | key::ks,m::ms,i+1,ao,ax,ad,aI=>by
   have bu:=aI 0 (by omega);have:(aB (key::ks) 0)=key:=rfl;rw[this]at bu;unfold wJ;rw[bn bu];have bF:∀{β:Type} [Inhabited β] (x:β) (l:aa β) (n:Nat),aB (x::l) (n+1)=aB l n:=λx l n=>by simp[aB]
   rw[bF]at ad⊢;exact XO (by simpa using ao) (by simpa using ax) ad λj aC=>by have:=aI (j+1) (by omega);rwa[bF]at this
def XP:∀{ks:aa dn} {ms:aa ct},(∀key∈ks,key.cn≠2)->wJ ks ms=0
 |[],_,_=>by unfold wJ;rfl
 |key::ks,[],_=>by unfold wJ;rfl
 | key::ks,m::ms,aI=>by
   unfold wJ;rw[bn (aI key (by simp))];exact XP λk hk=>aI k (by simp[hk])
def rG(s:aS)(k:Nat)(e:bp):Int:=wJ (aB s.bH k).bQ e.ck
def VD{s:aS}(h:c6 s){k:Nat}(hk:k<4){e:bp}(he:iB s k e):B1 s e=some (rG s k e):=by
 obtain⟨t1,⟨t2,t3⟩,t4,_⟩:=h.lF hk;have hm:=he.len;refine bN.get ?_;unfold B1 rG;refine .eq (agA h hk he.lF) ?_;simp only;refine(aeN (g:=λkey=>key.cn==2) (λx al=>rfl) (by omega)).bind λr aD=>.eq I ?_;rcases aD with⟨rfl,aD⟩|⟨i,h1,rfl,ay,aR⟩
 ·refine .cond (λ_=>.ret ?_) (λh=>by simp at h);rw[XP λkey mn=>by simpa using aD key mn]
 have cy:(!true||decide ((i:Int)<0)||decide ((i:Int)>=(e.ck.length:Int)))=false:=by simp;omega
 rw[cy,cond_false];refine .idx I (by omega) (.ret ?_);rw[XO hm h1 (by simpa using ay) λj aC=>by simpa using aR j aC]
def jl(s:aS)(k:Nat)(a c:aK):Bool:=
 decide (c.bb.ka<a.bb.ka∨(a.bb.ka=c.bb.ka∧(rG s k c.bb<rG s k a.bb∨(rG s k a.bb=rG s k c.bb∧c.cI<a.cI))))
def KP(s:aS)(k:Nat):wH (jl s k)where
 asymm x y h:=by
  unfold jl at *;rw[fM]at h;rw[mC];omega
 trans x y z h cT:=by
  unfold jl at *;rw[fM]at *;omega
def aju{s:aS}{k:Nat}{a c:aK}(h:a.cI≠c.cI):wI (jl s k) a c:=by
 unfold wI jl;rw[fM,fM];omega
def iJ(x y:Int):Int:=if x<y then -1 else if y<x then 1 else 0
def vN(x y:Int):qi x y=some (iJ x y):=by
 unfold qi Fa iJ;have:∀z:Int,(z !=z)=false:=λz=>by simp
 rw[this,this];simp only[Option.bind_some,cond_false];by_cases h1:x<y
 ·simp[h1]
 by_cases ad:y<x
 ·simp[h1,ad]
 simp[h1,ad]
def ahf(a c d:Int):vv [a,c,d]=some (if a≠0 then a else if c≠0 then c else d):=by
 refine bN.get ?_;unfold vv;refine bN.loop 3 (λi st=>st=(i:Int)∧∀j,j<i->aB [a,c,d] j=0) (by omega) ⟨rfl,λj aC=>by omega⟩ (λi st ax hs=>?_) (λst hs=>?_)
 ·obtain⟨rfl,hs⟩:=hs;refine .cond (λ_=>?_) (λh=>by simp at h;omega);refine .idx I (by simpa using ax) (.cond (λak=>.ret ?_) λak=>.ret ⟨hl (by omega),λj aC=>?_⟩)
  ·simp only[Sum.elim_inr];refine .ret ?_;have bu:=hs 0;have h1:=hs 1;rcases (show i=0∨i=1∨i=2 by omega)with rfl|rfl|rfl
   ·have:a≠0:=by simpa[aB]using ak
    rw[br this];rfl
   ·have:c≠0:=by simpa[aB]using ak
    have Sz:a=0:=by simpa[aB]using bu (by omega)
    rw[bn (by simpa using Sz),br this];rfl
   have Sz:a=0:=by simpa[aB]using bu (by omega)
   have aqQ:c=0:=by simpa[aB]using h1 (by omega)
   rw[bn (by simpa using Sz),bn (by simpa using aqQ)];rfl
  by_cases lg:j=i
  ·subst lg;simpa using ak
  exact hs j (by omega)
 obtain⟨rfl,hs⟩:=hs;refine⟨_,rfl,?_⟩;simp only[Sum.elim_inl];refine .ret ?_;have bu:a=0:=by simpa[aB]using hs 0 (by omega)
 have h1:c=0:=by simpa[aB]using hs 1 (by omega)
 have ad:d=0:=by simpa[aB]using hs 2 (by omega)
 simp[bu,h1,ad]
def VZ{s:aS}(h:c6 s){k:Nat}(hk:k<4){a c:aK}(a7:iB s k a.bb)(ak:iB s k c.bb):B4 s a c=some (jl s k a c):=by
 unfold B4 jl;rw[vN,Option.bind_some,VD h hk a7,Option.bind_some,VD h hk ak,Option.bind_some,vN,Option.bind_some,vN,Option.bind_some,ahf,Option.bind_some];congr 1;rw[decide_eq_decide];unfold iJ;split <;> split <;> (repeat' split) <;> omega
def acN{xs:aa aK}{f:aK->aw Bool}{g:aK->Bool}(aY:∀x∈xs,f x=some (g x))(ao:xs.length<2^62):
 bN (yZ xs f) (λr=>(r= -1∧∀x∈xs,g x=false)∨∃i:Nat,i<xs.length∧r=i∧g (aB xs i)=true∧∀j,j<i->g (aB xs j)=false):=by
 unfold yZ
 refine bN.loop xs.length (λk s=>s=(k:Int)∧∀j,j<k->g (aB xs j)=false) (by omega) ⟨rfl,λj aC=>by omega⟩ (λk s hk ax=>?_) (λs ax=>?_)
 ·obtain⟨au,aW⟩:=ax;subst au
  refine bN.cond (λ_=>?_) (λh=>by simp at h;omega)
  refine .idx I hk (.eq (aY _ (by rw[fQ xs hk];exact om hk)) (.cond (λh=>.ret ?_) (λh=>.ret ⟨hl (by omega),λj aC=>?_⟩)))
  ·exact .ret (.inr ⟨k,hk,rfl,h,aW⟩)
  by_cases wF:j=k
  ·subst wF;exact h
  exact aW j (by omega)
 obtain⟨au,aW⟩:=ax;subst au
 refine⟨_,by simp;rfl,?_⟩
 refine .ret (.inl ⟨rfl,λx al=>?_⟩)
 obtain⟨j,aC,rfl⟩:=D3.1 al
 rw[<-fQ xs aC];exact aW j aC
structure mv(s:aS)(k:Nat)(i:aK):Prop where
 fS:iB s k i.bb
def ait{i:aK}(h1:i.bb.ck.length<=1000)(ad:i.bb.gu.length<=1000):sP i=some i:=by
 unfold sP JP Iu Iv;rw[kb _ _ (by simp;omega) (by omega),kb _ _ (by simp;omega) (by omega)];rfl
def FX{s:aS}(h:c6 s){k:Nat}(hk:k<4){i:aK}(ax:mv s k i):sP i=some i:=by
 have h1:=ax.fS.len;have ad:=ax.fS.args;have ay:=(h.lF hk).2.1.2;exact ait (by omega) (by omega)
def kg(l:aa aK)(n:Int):Bool:=l.any λc=>c.cI==n
def Y6(x:ep)(n:Int)(ao:x.da.length<=1000):bN ((yZ x.da (λa0=>y7 a0 n)).bind λan=>some an) (λr=>(r= -1∧kg x.da n=false)∨∃i:Nat,i<x.da.length∧r=i∧(aB x.da i).cI=n∧kg x.da n=true∧∀j,j<i->(aB x.da j).cI≠n):=by
 refine(acN (g:=λc=>c.cI==n) (λc ak=>rfl) (by omega)).bind λr aD=>.ret ?_;rcases aD with⟨h1,ad⟩|⟨i,h1,ad,ay,aR⟩
 ·exact .inl ⟨h1,by unfold kg;rw[w7];exact λc ak=>by simp[ad c ak]⟩
 refine .inr ⟨i,h1,ad,by simpa using ay,?_,λj aC=>by simpa using aR j aC⟩;unfold kg;rw[oQ];exact⟨aB x.da i,by rw[fQ _ h1];exact om _,ay⟩
def ahg{s:aS}(h:c6 s){k:Nat}(hk:k<4){x:ep}(al:x.mF=s){a c:aK}(a7:mv s k a)(ak:mv s k c):
 bN (BA x a c) (λr=>r<0↔jl s k a c=true):=by
 unfold BA
 rw[al]
 refine .eq (VZ h hk a7.fS ak.fS) (.cond (λhb=>.ret ⟨λ_=>hb,λ_=>by omega⟩) λhb=>.eq (VZ h hk ak.fS a7.fS) (.cond (λ_=>.ret ?_) λ_=>.ret ?_))
 ·rw[hb];simp
 rw[hb];simp
def ajv{i j:Nat}(h:i+j<2^62):bo ((BitVec.ofInt 64 (bo ((i:Int)+(j:Int)))) >>> (1#64).toNat).toNat=(((i+j)/2:Nat):Int):=by
 rw[show(i:Int)+(j:Int)=((i+j:Nat):Int) by omega,jr (x:=((i+j:Nat):Int)) (by omega) (by omega)];have:((BitVec.ofInt 64 ((i+j:Nat):Int)) >>> (1#64).toNat).toNat=(i+j)/2:=by
  rw[Tv,Kq (by omega)];rw[show(1#64).toNat=1 from rfl,Tu,Nat.pow_one]
 rw[this,jr (by omega) (by omega)]
def agB{l:aa aK}{x:aK}{b:aK->aK->Bool}(hb:wH b)(hs:l.Pairwise (λx y=>b x y=true))(ao:l.length<=1000)
 {f:aK->aK->aw Int} (aY:∀a∈l,bN (f a x) (λr=>r<0↔b a x=true)):
 bN (DO l x f) (λr=>r.1=(lG b l x:Int)):=by
 unfold DO
 have ev:=Qj (b:=b) (l:=l) (x:=x)
 have C3:∀h,h<l.length->aB l h∈l:=λh b2=>by rw[fQ _ b2];exact om _
 have qF:∀q:Bool,bN ((cb (decide (((lG b l x:Nat):Int)<(l.length:Int))) true (idx l.length ((lG b l x:Nat):Int))).bind λbE=>
  (cb (decide (((lG b l x:Nat):Int)<(l.length:Int))) true (f (aB l bE) x)).bind λaF=>some (((lG b l x:Nat):Int),(decide (((lG b l x:Nat):Int)<(l.length:Int)))&&(aF==0))) (λr=>r.1=(lG b l x:Int)):=λ_=>by
  refine .cb (P:=λc=>c=lG b l x) (λh=>⟨_,xv (by simpa using h),rfl⟩) λbE ad=>.cb (P:=λ_=>True) (λh=>?_) λaF _=>.ret I
  rw[ad h]
  exact(aY _ (C3 _ (by simpa using h))).mono λ_ _=>trivial
 refine bN.loop l.length (λr st=> ∃i j:Nat,st=((i:Int),(j:Int))∧i<=lG b l x∧lG b l x<=j∧j<=l.length∧j-i<=l.length-r) (by omega) ⟨0,l.length,rfl,by omega,by omega,by omega,by omega⟩ (λr st aD cD=>?_) (λst cD=>?_)
 ·obtain⟨i,j,rfl,h1,ad,ay,aR⟩:=cD
  refine .cond (λak=>?_) λak=>.ret ?_
  ·have hI:i<j:=by simpa using ak
   rw[ajv (by omega)]
   have hm:(i+j)/2<l.length:=by omega
   refine .idx I hm ((aY _ (C3 _ hm)).bind λan bs=>?_)
   have b9:=Qk hb (x:=x) hs hm
   refine .bind (P:=λm=> ∃i j:Nat,m=((i:Int),(j:Int))∧i<=lG b l x∧lG b l x<=j∧j<=l.length∧j-i<=l.length-(r+1)) (.cond (λhy=>.eq I (.ret ?_)) λhy=>.ret ?_) λm hm=>.ret ?_
   ·have:=b9.1 (bs.1 (by simpa using hy))
    refine⟨(i+j)/2+1,j,?_,by omega,ad,ay,by omega⟩
    simp only[hl (show(i+j)/2<2^62 by omega)]
   ·have: ¬(i+j)/2<lG b l x:=λb2=>by
     have:=bs.2 (b9.2 b2);simp at hy;omega
    exact⟨i,(i+j)/2,rfl,h1,by omega,by omega,by omega⟩
   obtain⟨H9,va,rfl,aX⟩:=hm
   exact⟨H9,va,rfl,aX⟩
  have hI: ¬i<j:=by simpa using ak
  have:i=lG b l x:=by omega
  subst this
  exact qF true
 obtain⟨i,j,rfl,h1,ad,ay,aR⟩:=cD
 have hI:i=lG b l x:=by omega
 have ak:decide ((i:Int)<(j:Int))=false:=by simp;omega
 simp only[ak,cond_false]
 refine⟨_,rfl,?_⟩
 subst hI
 exact qF true
structure nK(s:aS)(k:Nat)(l:List aK):Prop where
 ok:∀i∈l,mv s k i
 num:l.Pairwise λa c=>a.cI≠c.cI
 len:l.length<=900
def nK.SA{s:aS}{k:Nat}{l:aa aK}(h:nK s k l):ya (jl s k) l:=h.num.imp λb2=>aju b2
def nK.iq{s:aS}{k:Nat}{l:aa aK}(h:nK s k l):(∀i∈iq (jl s k) l,mv s k i)∧(iq (jl s k) l).length<=900:=
 ⟨λi ax=>h.ok i (xL.1 ax),by rw[ajt];exact h.len⟩
def Ks{s:aS}{k:Nat}{l:aa aK}{n:Int}:kg (iq (jl s k) l) n=kg l n:=by
 unfold kg;rw[oo,oQ,oQ];exact⟨λ⟨c,h1,ad⟩=>⟨c,xL.1 h1,ad⟩,λ⟨c,h1,ad⟩=>⟨c,xL.2 h1,ad⟩⟩
def Xi{l:aa aK}{n:Int}(h:kg l n=false):∀c∈l,c.cI≠n:=λc ak=>by
 unfold kg at h;rw[w7]at h;simpa using h c ak
def nK.snoc{s:aS}{k:Nat}{l:aa aK}(h:nK s k l){i:aK}(ax:mv s k i)(aI:kg l i.cI=false)(ao:l.length<900):nK s k (l++[i])where
 ok c ak:=by
  rcases ca.1 ak with ak|ak
  ·exact h.ok c ak
  rw[gX.1 ak];exact ax
 num:=by
  rw[Iq];exact⟨h.num,by simp,λa a7 c ak=>by rw[gX.1 ak];exact Xi aI a a7⟩
 len:=by simp;omega
def vU(s:aS)(k:Nat)(l:aa aK):ep:= {mF:=s,da:=iq (jl s k) l}
def ajw{s:aS}(h:c6 s){k:Nat}(hk:k<4){l:aa aK}(ao:nK s k l){i:aK}(ax:mv s k i)(hlen:l.length<900):
 En (vU s k l) i=some (!kg l i.cI,if kg l i.cI=true then vU s k l else vU s k (l++[i])):=by
 refine bN.get ?_
 unfold En
 obtain⟨iI,fg⟩:=ao.iq
 refine .cb (λ_=>Y6 (vU s k l) _ (by show(iq _ l).length<=1000;omega)) λan h1=>?_
 have h1:=h1 I
 rw[sL]
 rcases h1 with⟨rfl,ad⟩|⟨j,ad,rfl,ay,aR,aX⟩
 ·have mu:kg l i.cI=false:=by rw[<-ad];exact Ks.symm
  refine .cond (λak=>by simp at ak) λ_=>?_
  refine(agB (b:=jl s k) (KP s k) (Pc (KP s k) ao.SA) (by omega) λa a7=>ahg h hk I (iI a a7) ax).bind λaF b5=>.eq (FX h hk ax) ?_
  rw[b5]
  unfold Ii
  have ev:=Qj (b:=jl s k) (l:=iq (jl s k) l) (x:=i)
  refine .eq (a:=iq (jl s k) (l++[i])) ?_ (.ret ?_)
  ·show Gx 88 (iq (jl s k) l) _ _=_
   unfold Gx
   have tq:maxLen=9223372036854775807:=rfl
   rw[br ⟨by omega,by omega,by simp,by simp <;> omega,by simp <;> omega⟩,Kr,XN]
   simp
  rw[mu];rfl
 have DA:kg l i.cI=true:=by rw[<-aR];exact Ks.symm
 refine .cond (λ_=>.ret ?_) λak=>by simp at ak <;> omega
 rw[DA];rfl
def afU{s:aS}(h:c6 s){k:Nat}(hk:k<4){l:aa aK}(ao:∀i∈l,mv s k i)(aI:l.length<=1000):B6 l=some l:=by
 refine bN.get ?_;unfold B6;refine bN.loop l.length (λi st=>st=((i:Int),l.take i)) (by omega) I (λi st ax hs=>?_) (λst hs=>?_)
 ·subst hs;refine .cond (λ_=>?_) (λak=>by simp at ak;omega);refine .idx I ax (.eq (FX h hk (ao _ (by rw[fQ _ ax];exact om _))) (.eq (kb _ _ (by simp;omega) (by omega)) (.ret ?_)));rw[hl (by omega),Ol l ax]
 subst hs;refine⟨_,by simp;rfl,.ret ?_⟩;simp
def ajx{s:aS}(h:c6 s){k:Nat}(hk:k<4){l:aa aK}(ao:nK s k l):Em (vU s k l)=some (iq (jl s k) l):=by
 unfold Em;obtain⟨iI,fg⟩:=ao.iq;show Option.bind (B6 (iq (jl s k) l)) _=_;rw[afU h hk iI (by omega)];rfl
def mv.small{s:aS}(h:c6 s){k:Nat}(hk:k<4){i:aK}(ax:mv s k i):i.bb.ck.length<=1000∧i.bb.gu.length<=1000:=by
 have h1:=ax.fS.len;have ad:=ax.fS.args;have ay:=(h.lF hk).2.1.2;exact⟨by omega,by omega⟩
def A5(o:aw aK):aK×Bool:=match o with |some c=>(c,true)|none=>(default,false)
structure kz(hp:aH Cell)(t:Nat)(g:List Bool->Option Int):Prop where
 ok:∃c,gi hp t=some c∧c.hn=32∧rf hp c.eU∧∀aZ,cont hp c.eU aZ=g aZ
def Own(hp:aH Cell)(t q:Nat):Prop:=q=t∨∃c aZ,gi hp t=some c∧cS hp c.eU aZ=some q
def eC(v:aV)(n:Nat):aa Bool:=(List.range n).map λi=>dx v (31-i)
def J0(v:aV)(n:Nat):eC v (n+1)=eC v n++[dx v (31-n)]:=by simp[eC,EA]
def VE(v:aV):eC v 0=[]:=rfl
def V0{hp:aH Cell}{t:Nat}{c:gZ}(ak:gi hp t=some c)(hb:c.hn=32){n:Nat}(aI:n<=32){v:aV}(ba:∀j,j<128->dx v j=true->lead 32 n j=true):
 BK hp (some t) v n=some true:=by
 refine bN.get ?_
 unfold BK
 have au:(Option.isSome (some t)&&decide ((n:Int)>=0))=true:=by simp
 have aW:decide ((n:Int)<=c.hn)=true:=by rw[hb];simp;omega
 refine .cb (P:=λr=>r=t) (λ_=>⟨t,rfl,rfl⟩) λbz h1=>?_
 rw[h1 au]
 refine .cb (P:=λr=>r=c) (λ_=>⟨c,ak,rfl⟩) λc1 ad=>?_
 rw[ad au]
 rw[au,aW]
 refine .cb (P:=λr=>r=t) (λ_=>⟨t,rfl,rfl⟩) λcc ay=>?_
 rw[ay I]
 refine .cb (P:=λr=>r=c) (λ_=>⟨c,ak,rfl⟩) λc2 aR=>?_
 rw[aR I,hb]
 refine .cb (λ_=>afT 32 n (by decide) (by decide)) λan aX=>?_
 refine .cb (P:=λr=>r=GJ v an) (λ_=>⟨_,and_eq v an,rfl⟩) λaF bh=>?_
 refine .eq I (.ret ?_)
 have:aF=v:=by
  rw[bh I];refine XL λj aC=>?_;rw[aip,aX I j aC];cases e:dx v j with
  |false=>rfl
  |true=>rw[ba j aC e];rfl
 rw[this];simp
def XQ{v:aV}{i:Nat}(ax:i<32):bN (zt v (bo ((bo ((32:Int)-1))-(i:Int)))) (λr=>r=dx v (31-i)):=by
 have e:bo ((bo ((32:Int)-1))-(i:Int))=((31-i:Nat):Int):=by
  rw[show bo ((32:Int)-1)=31 from by rw[jr (by decide) (by decide)];rfl,jr (by omega) (by omega)];omega
 rw[e];refine(ajs v _).mono λr aD=>?_;rw[aD];have:decide (0<=((31-i:Nat):Int)∧((31-i:Nat):Int)<128)=true:=by rw[fM];omega
 rw[this,zd];rfl
def XR(b:Bool):(cond b (some (1:Int)) (some 0))=some ((fx b:Nat):Int):=by cases b <;> rfl
def Y7{σ ε:Type}{hp:aH Cell}{t:Nat}{c:gZ}(ak:gi hp t=some c)(hb:c.hn=32)(v:aV){n:Nat}(aI:n<=32){step:Int->σ->aw (σ⊕ε)}{s0:σ}{P:σ⊕ε->Prop}(fG:Nat->σ->Prop)(bu:fG 0 s0)
 (hs:∀i s,i<n->fG i s->bN (step ((fx (dx v (31-i)):Nat):Int) s) (λr=>match r with | .inl b0=>fG (i+1) b0| .inr e=>P (.inr e))) (he:∀s,fG n s->P (.inl s)):bN (vj hp n v (some t) step s0) P:=by
 unfold vj
 refine bN.loop n (λi s=>s.1=(i:Int)∧fG i s.2) (by omega) ⟨rfl,bu⟩ (λi s ax fJ=>?_) (λs fJ=>?_)
 ·obtain⟨j,s⟩:=s;obtain⟨au,aW⟩:=fJ
  simp only at au aW;subst au
  refine bN.cond (λ_=>?_) (λh=>by simp at h;omega)
  refine .eq I (.eq ak ?_)
  rw[hb]
  refine(XQ (by omega)).bind λan h1=>.eq (XR an) ?_
  rw[h1]
  refine(hs i s ax aW).bind λr aD=>?_
  cases r with
  |inl b0=>exact .ret ⟨hl (by omega),aD⟩
  |inr e=>exact .ret (.ret aD)
 obtain⟨j,s⟩:=s;obtain⟨au,aW⟩:=fJ
 simp only at au aW;subst au
 refine⟨_,by simp;rfl,?_⟩
 exact .ret (he s aW)
def ame{σ ε:Type}{t:Nat}(v:aV){n:Nat}(aI:n<=32){hq:σ->aH Cell}{step:Int->σ->ai (σ⊕ε)}{s0:σ}{P:σ⊕ε->Prop}(fG:Nat->σ->Prop)(bu:fG 0 s0)(pn:∀i s,fG i s->∃c,gi (hq s) t=some c∧c.hn=32)
 (hs:∀i s,i<n->fG i s->cv (step ((fx (dx v (31-i)):Nat):Int) s) (λr=>match r with | .inl b0=>fG (i+1) b0| .inr e=>P (.inr e))) (he:∀s,fG n s->P (.inl s)):cv (zc n v (some t) hq step s0) P:=by
 unfold zc
 refine .bind (P:=λe=>match e with | .inl e=>P (.inl e.2.2)| .inr e=>P (.inr e.2.2.2.2.2.2)) (cv.loop n (λi s=>s.1=(i:Int)∧fG i s.2) (by omega) ⟨rfl,bu⟩ (λi s ax fJ=>?_) (λs fJ=>?_)) λe h=>?_
 ·obtain⟨j,s⟩:=s;obtain⟨au,aW⟩:=fJ
  simp only at au aW;subst au
  refine cv.cond (λ_=>?_) (λh=>by simp at h;omega)
  obtain⟨c,ak,hb⟩:=pn i s aW
  refine .eq I (.eq ak ?_)
  rw[hb]
  refine .l2 (XQ (by omega)) λan h1=>.eq (XR an) ?_
  rw[h1]
  refine .bind (hs i s ax aW) λr aD=>?_
  cases r with
  |inl b0=>exact .ret ⟨hl (by omega),aD⟩
  |inr e=>exact .ret aD
 ·obtain⟨j,s⟩:=s;obtain⟨au,aW⟩:=fJ
  simp only at au aW;subst au
  refine cv.cond (λh=>by simp at h) λ_=>.ret (he s aW)
 cases e with
 |inl e=>exact .ret h
 |inr e=>exact .ret h
def Wx{hp:aH Cell}{t:Nat}{c:gZ}(ak:gi hp t=some c)(hb:c.hn=32)(bw:rf hp c.eU){n:Nat}(aI:n<=32){v:aV}(ba:∀j,j<128->dx v j=true->lead 32 n j=true):
 BR hp (some t) v n=some (cS hp c.eU (eC v n)):=by
 refine bN.get ?_
 unfold BR
 refine .eq (V0 ak hb aI ba) (.cond (λh=>by cases h) λ_=>.eq rfl (.eq ak (.eq rfl ?_)))
 show bN (Option.bind (vj hp (n:Int) v (some t) _ _) _) _
 refine bN.bind (P:=λe:Ref⊕(Ref×Ref)=>e.elim (λs=>s=cS hp c.eU (eC v n)) (λq=>q.2=cS hp c.eU (eC v n))) (Y7 ak hb v aI (λi s=>s=cS hp c.eU (eC v i)) qo.symm (λi s ax hs=>?_) (λs hs=>hs)) λe he=>?_
 ·refine .cond (λh=>.ret ?_) λh=>?_
  ·rw[MP]at h
   have au:eC v n=eC v i++(eC v n).drop i:=by
    have:eC v i=(eC v n).take i:=by unfold eC;rw[<-List.map_take,List.take_range];congr 2;omega
    rw[this,gb]
   show(none:Ref)=_
   rw[au,oY,<-hs,h,ha]
  cases s with
  |none=>simp at h
  | some p=>
    obtain⟨c1,h1⟩:=bw.reads _ _ hs.symm
    refine .eq I (.idx I (by cases dx v (31-i) <;> decide) (.eq h1 (.ret ?_)))
    show cu c1.du _=_
    rw[J0,oY,<-hs,ix h1,qo]
 cases e with
 |inl s=>exact .ret he
 |inr q=>exact .ret he
def XS{hp:aH Cell}{t:Nat}{g:aa Bool->aw Int}(h:kz hp t g){n:Nat}(aI:n<=32){v:aV}(ba:∀j,j<128->dx v j=true->lead 32 n j=true):
 zk hp (some t) v n=some (match g (eC v n)with |none=>(0,false)|some id=>(id,true)):=by
 obtain⟨c,ak,hb,bw,bF⟩:=h.ok
 refine bN.get ?_
 unfold zk
 refine .eq (Wx ak hb bw aI ba) ?_
 rw[<-bF]
 cases e:cS hp c.eU (eC v n)with
 | none=>
   rw[mI e]
   refine .cb (P:=λ_=>True) (λh=>by cases h) λo _=>.cb (P:=λ_=>True) (λh=>by cases h) λo _=>.cond (λ_=>.ret rfl) λh=>by cases h
 | some p=>
   obtain⟨d,hd⟩:=bw.reads _ _ e
   rw[lT e hd]
   refine .cb (P:=λr=>r=p) (λ_=>⟨p,rfl,rfl⟩) λo h1=>?_
   rw[h1 I]
   refine .cb (P:=λr=>r=d) (λ_=>⟨d,hd,rfl⟩) λc1 ad=>?_
   rw[ad I]
   refine .cond (λh=>?_) λh=>?_
   ·have:d.gr=false:=by simpa using h
    rw[this];exact .ret I
   have:d.gr=true:=by simpa using h
   rw[this];exact .eq I (.eq hd (.ret I))
structure LK(kk hp:aH Cell)(t:Nat)(g:List Bool->Option Int)(r:Nat):Prop where
 cell:∃c,gi hp t=some c∧c.hn=32∧c.eU=some r
 tree:rf hp (some r)
 cont:∀aZ,cont hp (some r) aZ=g aZ
 keeps:eQ kk hp (Own kk t)
 own:∀aZ q,cS hp (some r) aZ=some q->Own kk t q∨q∉dB kk
def FA{hp:aH Cell}{a t:Nat}{k:Cell}(a7:a∉dB hp)(h:pat hp t=some k):a≠t:=λe=>a7 (e▸jG h)
def Wy{hp:aH Cell}{a:Nat}{x:eG}:cK ((a,.gP x)::hp) a=some x:=by rw[rT,kJ,br I]
def afV{hp:aH Cell}{a:Nat}(a7:a∉dB hp):cK hp a=none:=by unfold cK;rw[ahe a7]
def Ci{hp:aH Cell}{p:Nat}{k:Cell}{x:eG}(h:pat hp p=some k):cK (cr hp p (.gP x)) p=some x:=by rw[rT,rX h]
def xk{hp:aH Cell}{p q:Nat}{k:Cell}(h:p≠q):cK (cr hp p k) q=cK hp q:=zv (mE h)
def Vk{hp:aH Cell}{a q:Nat}{k:Cell}(h:a≠q):cK ((a,k)::hp) q=cK hp q:=zv (by rw[kJ,bn h])
def Wz{hp:aH Cell}{p:Nat}{k:Cell}{x:gZ}(h:pat hp p=some k):gi (cr hp p (.k6 x)) p=some x:=by rw[vy,rX h]
def JS{hp:aH Cell}{p q:Nat}{k:Cell}(h:p≠q):gi (cr hp p k) q=gi hp q:=JR (mE h)
def Vl{hp:aH Cell}{a q:Nat}{k:Cell}(h:a≠q):gi ((a,k)::hp) q=gi hp q:=JR (by rw[kJ,bn h])
def Ld{hp:aH Cell}{p t:Nat}{x:eG}{c:gZ}(h1:cK hp p=some x)(ad:gi hp t=some c):p≠t:=λe=>by
 subst e;rw[rT]at h1;rw[vy,h1]at ad;cases ad
def ajy{hp:aH Cell}{t:Nat}{g:aa Bool->aw Int}{c:gZ}(ak:gi hp t=some c)(hb:c.hn=32)(bw:rf hp c.eU)(bF:∀aZ,cont hp c.eU aZ=g aZ):
 cv (cond c.eU.isNone (
     ai.bind (ai.mk hp (Cell.gP (default:eG))) λa2=>
     ai.bind (ai.of (gi a2.2 t)) λyB=>
     ai.bind (ai.of (some (cr a2.2 t (Cell.k6 ({yB with eU:=(some a2.1:Ref)}:gZ))))) λqK=>
     ai.ret qK) (ai.ret hp)) (λbL=> ∃r,LK hp bL t g r):=by
 have hz:=vy.1 ak
 refine .cond (λh=>.mk λa a7=>?_) λh=>?_
 ·have aD:c.eU=none:=by rw[MP]at h;exact h
  have abD:=FA a7 hz
  have Di:gi ((a,Cell.gP default)::hp) t=some c:=by rw[Vl abD];exact ak
  refine .eq Di (.eq I (.ret ⟨a,?_⟩))
  have aI:cK (cr ((a,Cell.gP default)::hp) t (.k6 {c with eU:=some a})) a=some default:=by
   rw[xk abD.symm,Wy]
  have aY:=VY aI
  refine⟨⟨_,Wz (vy.1 Di),hb,rfl⟩,⟨λaZ p h1=>?_,λaZ cs p h1 ad=>?_,λaZ p h1=>?_⟩,λaZ=>?_,?_,λaZ q h1=>?_⟩
  ·rw[aY]at h1
   split at h1
   ·cases h1;exact⟨_,aI⟩
   cases h1
  ·rw[aY]at h1 ad
   split at h1 <;> split at ad
   ·rename_i au aW;rw[au,aW]
   ·cases ad
   ·cases h1
   cases h1
  ·rw[aY]at h1
   split at h1
   ·rename_i e;rw[e];exact q7 _
   cases h1
  ·rw[<-bF,aD,mI ha]
   by_cases e:aZ=[]
   ·rw[lT (by rw[aY,br e]) aI];rfl
   rw[mI (by rw[aY,bn e])]
  ·exact(eQ.mk' a7).trans (own':=λq=>q=t) (eQ.up (own:=λq=>q=t) I) λq _ h1=>.inl h1
  rw[aY]at h1
  split at h1
  ·cases h1;exact .inr a7
  cases h1
 cases aD:c.eU with
 |none=>rw[aD]at h;cases h
 | some r=>
   rw[aD]at bw bF
   exact .ret ⟨r,⟨c,ak,hb,aD⟩,bw,bF,.refl,λaZ q h1=>.inl (.inr ⟨c,aZ,ak,by rw[aD];exact h1⟩)⟩
def amf{hp:aH Cell}{t:Nat}{g:aa Bool->aw Int}(h:kz hp t g){n:Nat}(aI:n<=32){v:aV}(ba:∀j,j<128->dx v j=true->lead 32 n j=true)(id:Int)(e9:g (eC v n)=none):
 cv (BW hp (some t) v n id) (λr=>r.1=true∧kz r.2 t (λaZ=>if aZ=eC v n then some id else g aZ)∧eQ hp r.2 (Own hp t)∧∀q,Own r.2 t q->Own hp t q∨q∉dB hp):=by
 obtain⟨c,ak,hb,bw,bF⟩:=h.ok
 unfold BW
 refine .eq (V0 ak hb aI ba) (.cond (λh=>by cases h) λ_=>.eq (Wx ak hb bw aI ba) ?_)
 refine .cb (P:=λo=>cS hp c.eU (eC v n)=some o) (λh1=>?_) λbz h1=>?_
 ·cases e:cS hp c.eU (eC v n)with
  |none=>rw[e]at h1;cases h1
  |some p=>exact⟨p,rfl,rfl⟩
 refine .cb (P:=λd=>cK hp bz=some d) (λad=>?_) λc1 ad=>?_
 ·obtain⟨d,hd⟩:=bw.reads _ _ (h1 ad)
  exact⟨d,hd,hd⟩
 refine .cond (λay=>?_) λ_=>?_
 ·simp only[gq]at ay
  rw[<-bF,lT (h1 ay.1) (ad ay.1),ay.2]at e9
  cases e9
 refine .eq I (.eq ak (.bind (ajy ak hb bw bF) λm1 bW=>?_))
 obtain⟨r,bW⟩:=bW
 obtain⟨et,jf,asF,Sh⟩:=bW.cell
 refine .eq jf (.eq I ?_)
 show cv (ai.bind (zc (n:Int) v (some t) _ _ _) _) _
 refine .bind (P:=λe:(Ref×aH Cell)⊕Empty=> ∃p cN,e=.inl (some p,cN)∧cS cN (some r) (eC v n)=some p∧LK hp cN t g r) (ame v aI (λi s=> ∃p,s.1=some p∧cS s.2 (some r) (eC v i)=some p∧LK hp s.2 t g r) ⟨r,Sh,qo,bW⟩ (λi s ax=>?_) (λi s ax hs=>?_) (λs hs=>?_)) λe he=>?_
 ·obtain⟨p,_,_,hm⟩:=ax
  obtain⟨d,aR,aX,_⟩:=hm.cell
  exact⟨d,aR,aX⟩
 ·obtain⟨aqR,cN⟩:=s
  obtain⟨p,au,aW,hm⟩:=hs
  simp only at au aW hm
  subst au
  obtain⟨d,hd⟩:=hm.tree.reads _ _ aW
  have b9:fx (dx v (31-i))<2:=by cases dx v (31-i) <;> decide
  refine .eq I (.idx I b9 (.eq hd ?_))
  refine .bind (P:=λhG=> ∃q nN,cK hG p=some nN∧cu nN.du (fx (dx v (31-i)))=some q∧cS hG (some r) (eC v i)=some p∧LK hp hG t g r) (.cond (λbh=>.mk λa a7=>?_) λbh=>.ret ?_) λhG c5=>?_
  ·have tH:cu d.du (fx (dx v (31-i)))=none:=by rw[MP]at bh;exact bh
   have abE:=FA a7 (rT.1 hd)
   have j5:cK ((a,Cell.gP default)::cN) p=some d:=by rw[Vk abE];exact hd
   refine .idx I b9 (.eq j5 (.eq I (.ret ?_)))
   have ev:cK (cr ((a,Cell.gP default)::cN) p (.gP {d with du:=dS d.du (fx (dx v (31-i))) (some a)})) a=some default:=by
    rw[xk abE.symm,Wy]
   have cC:cK (cr ((a,Cell.gP default)::cN) p (.gP {d with du:=dS d.du (fx (dx v (31-i))) (some a)})) p=some {d with du:=dS d.du (fx (dx v (31-i))) (some a)}:=Ci (rT.1 j5)
   obtain⟨g1,g2,g3⟩:=grow (by unfold eC;simp;omega) hm.tree aW hd tH (afV a7) cC ev λq j8 qH=>by rw[xk j8.symm,Vk qH.symm]
   have yb:Own hp t p∨p∉dB hp:=hm.own _ _ aW
   refine⟨a,_,cC,by rw[zz _ _ b9,br I],by rw[g2,bn (λe=>by have:=ec List.length e;simp at this)];exact aW,?_,g1,λaZ=>by rw[g3,hm.cont],?_,λaZ q hq=>?_⟩
   ·obtain⟨d4,aR,aX,dW⟩:=hm.cell
    have hz:=Ld hd aR
    exact⟨d4,by rw[JS hz,Vl (FA a7 (vy.1 aR))];exact aR,aX,dW⟩
   ·refine hm.keeps.trans (own':=λq=>q=p) ((eQ.mk' a7).trans (own':=λq=>q=p) (eQ.up (own:=λq=>q=p) I) λq _ fp=>fp) λq hq fp=>?_
    subst fp
    exact yb.resolve_right λnE=>nE hq
   rw[g2]at hq
   split at hq
   ·cases hq;exact .inr λfp=>a7 (hm.keeps.keys _ fp)
   exact hm.own _ _ hq
  ·cases tH:cu d.du (fx (dx v (31-i)))with
   |none=>rw[tH]at bh;cases bh
   |some q=>exact⟨q,d,hd,tH,aW,hm⟩
  obtain⟨q,nN,dW,fp,nE,A1⟩:=c5
  refine .idx I b9 (.eq dW (.ret ⟨q,fp,?_,A1⟩))
  show cS hG (some r) (eC v (i+1))=some q
  rw[J0,oY,nE,ix dW,fp,qo]
 ·obtain⟨aqR,cN⟩:=s
  obtain⟨p,au,aW,hm⟩:=hs
  simp only at au aW hm
  subst au
  exact⟨p,cN,rfl,aW,hm⟩
 obtain⟨p,cN,rfl,aW,hm⟩:=he
 obtain⟨d,hd⟩:=hm.tree.reads _ _ aW
 have SB:=rT.1 hd
 refine .eq I (.eq hd (.eq I (.eq I ?_)))
 have j5:cK (cr cN p (.gP {d with gr:=true})) p=some {d with gr:=true}:=Ci SB
 refine .eq j5 (.eq I (.ret ?_))
 have AF:cK (cr (cr cN p (.gP {d with gr:=true})) p (.gP {d with gr:=true,kB:=id})) p=some {d with gr:=true,kB:=id}:=Ci (rT.1 j5)
 obtain⟨s1,s2⟩:=aar hm.tree aW hd AF I λq hq=>by rw[xk hq.symm,xk hq.symm]
 obtain⟨d4,aR,aX,dW⟩:=hm.cell
 have hz:=Ld hd aR
 have DA:gi (cr (cr cN p (.gP {d with gr:=true})) p (.gP {d with gr:=true,kB:=id})) t=some d4:=by rw[JS hz,JS hz];exact aR
 have yb:Own hp t p∨p∉dB hp:=hm.own _ _ aW
 refine⟨rfl,⟨d4,DA,aX,by rw[dW];exact s1,λaZ=>?_⟩,?_,λq hq=>?_⟩
 ·rw[dW,s2,hm.cont];rfl
 ·refine hm.keeps.trans (own':=λq=>q=p) ((eQ.up (own:=λq=>q=p) I).trans (own':=λq=>q=p) (eQ.up (own:=λq=>q=p) I) λq _ fp=>fp) λq hq fp=>?_
  subst fp
  exact yb.resolve_right λnE=>nE hq
 rcases hq with rfl|⟨jz,aZ,h1,ad⟩
 ·exact .inl (.inl I)
 rw[DA]at h1;cases h1
 rw[dW,FH hd AF I (λq hq=>by rw[xk hq.symm,xk hq.symm])]at ad
 exact hm.own _ _ ad
def enc:aw (Nat×Int)->Int×Int×Bool
 |none=>(0,0,false)
 |some (n,id)=>((n:Int),id,true)
def c6.Mr{s:aS}(h:c6 s):∃c7 dH gE,∀k,k<4->jZ (aB s.bH k)=aB (we c7 dH gE) k:=by
 obtain⟨c7,dH,gE,e⟩:=h.tables;refine⟨c7,dH,gE,λk hk=>?_⟩;rw[<-e,xp jZ (by rw[h.pO];exact hk)]
def zA(t:bU){r:Int×Int}(ks:aa dn)(hk:t.bQ=ks)(h:BY {(default:bU)with bQ:=ks} =some r):BY t=some r:=by
 subst hk;exact h
def q2(k:Nat):Int:=aB [1,2,3,3] k
def agC{s:aS}(h:c6 s){k:Nat}(hk:k<4):bN (BY (aB s.bH k)) (λr=>r.1=q2 k∧(k=1->r.2=0)):=by
 obtain⟨c7,dH,gE,e⟩:=h.Mr;have e:=e k hk;have gw:(aB s.bH k).bQ=(aB (we c7 dH gE) k).2.2:=ec (·.2.2) e;have:k=0∨k=1∨k=2∨k=3:=by omega
 rcases this with rfl|rfl|rfl|rfl
 ·exact⟨_,zA _ [q1] gw I,rfl,λh=>by simp at h⟩
 ·cases c7
  ·exact⟨_,zA _ [yL] gw I,rfl,λ_=>rfl⟩
  exact⟨_,zA _ [yL,ME] gw I,rfl,λ_=>rfl⟩
 ·cases dH
  ·exact⟨_,zA _ [H6,HG] gw I,rfl,λh=>by simp at h⟩
  exact⟨_,zA _ [H6,HG,Th] gw I,rfl,λh=>by simp at h⟩
 cases gE
 ·exact⟨_,zA _ [H7] gw I,rfl,λh=>by simp at h⟩
 exact⟨_,zA _ [H7,Ti,yL] gw I,rfl,λh=>by simp at h⟩
structure C9(s:aS)(k:Nat)(kk hp:aH Cell)(p:Nat):Prop where
 cell:∃c m,iO hp p=some c∧c.vI=q2 k∧c.vJ=((aB s.bH k).bQ.length:Int)∧c.oV=⟨some m⟩∧mj hp m=some []∧
  (k=0->∃q m2,c.nn=.pI ⟨some q⟩∧nW hp q=some ⟨⟨some m2⟩⟩∧nt hp m2=some []∧q∉dB kk∧m2∉dB kk)∧
  (k=1->∃m3,c.nn=.pJ ⟨0,32,⟨some m3⟩⟩∧lu hp m3=some []∧m3∉dB kk)∧
  (2<=k->∃q key cap,c.nn=.pK ⟨some q⟩∧rj hp q=some (({mF:=s,da:=[]}:ep),key,cap)∧q∉dB kk)∧
  p∉dB kk∧m∉dB kk∧(∀q,q∈dB kk->q∈dB hp)∧∀q,q∈dB kk->pat hp q=pat kk q
def amg{s:aS}(h:c6 s){k:Nat}(hk:k<4)(hp:aH Cell):cv (B9 hp s ((k:Int)+1)) (λr=> ∃p,r.1=some p∧C9 s k hp r.2 p):=by
 unfold B9;refine .l2 (OO h hk) λan au=>?_;subst au;refine .cond (λak=>by simp at ak;omega) λ_=>?_;refine .idx I (by rw[h.pO];exact hk) (.l2 (agC h hk) λaF ad=>.mk λm hm=>.eq I (.mk λp bL=>?_));obtain⟨Ia,key⟩:=aF;obtain⟨ad,ay⟩:=ad;simp only at ad ay bL;subst ad;have j7:p≠m:=λe=>by subst e;simp[dB]at bL
 have:k=0∨k=1∨2<=k:=by omega
 rcases this with rfl|rfl|dJ
 ·have e:(q2 0==1)=true:=rfl;simp only[e,cond_true];unfold JM;refine .bind (P:=λcN=>C9 s 0 hp cN p) (.bind (P:=λr=> ∃q m2,r=((some q:Ref),(q,Cell.CN ⟨⟨some m2⟩⟩)::(m2,Cell.qA [])::(p,_)::(m,Cell.lX [])::hp)∧m2∉dB ((p,_)::(m,Cell.lX [])::hp)∧q∉dB ((m2,Cell.qA [])::(p,_)::(m,Cell.lX [])::hp)) (.mk λm2 dw=>.mk λq hq=>.ret ⟨q,m2,rfl,dw,hq⟩) λbd aR=>?_) λcN aX=>.ret ⟨p,rfl,aX⟩;obtain⟨q,m2,rfl,dw,hq⟩:=aR;simp only[dB,mb,dO,zr]at dw hq bL;refine .eq (by simp[iO,pat,hq.1,hq.2,dw.1,hq.2.2.1,zp];rfl) (.eq I (.ret ?_));refine⟨{vI:=q2 0,vJ:=((aB s.bH 0).bQ.length:Int),nn:=.pI ⟨some q⟩,oV:=⟨some m⟩},m,?_,rfl,rfl,rfl,?_,?_,λak=>by simp at ak,λak=>by simp at ak,bL.2,hm,λx al=>by rw[rb];exact gd _ (gd _ (gd _ (gd _ al))),λx al=>?_⟩
  ·simp[iO,pat,cr,hq.1,hq.2,dw.1,hq.2.2.1]
  ·simp[mj,pat,cr,hq.1,hq.2,dw.1,hq.2.2.1,dw.2.1,bL.1]
  ·intro _;refine⟨q,m2,rfl,?_,?_,hq.2.2.2,dw.2.2⟩
   ·simp[nW,pat,cr,hq.1,hq.2,dw.1,hq.2.2.1,dw.2.1,bL.1]
   simp[nt,pat,cr,hq.1,hq.2,dw.1,hq.2.2.1,dw.2.1,bL.1]
  have kn:q≠x:=λe=>hq.2.2.2 (by rw[e];exact al);have sD:m2≠x:=λe=>dw.2.2 (by rw[e];exact al);have q3:p≠x:=λe=>bL.2 (by rw[e];exact al);have qd:m≠x:=λe=>hm (by rw[e];exact al);simp[FM,pat,kn,sD,q3,qd]
 ·have e:(q2 1==1)=false:=rfl;have aW:(q2 1==2)=true:=rfl;simp only[e,aW,cond_true,cond_false];have ay:=ay I;subst ay;obtain⟨t1,⟨t2,t3⟩,t4,_⟩:=h.lF hk;have aY:(aB (aB s.bH 1).bQ 0).iy=((6:Nat):Int)+1:=by
   obtain⟨c7,dH,gE,e⟩:=h.Mr;have e:=ec (·.2.2) (e 1 hk);show(aB (jZ (aB s.bH 1)).2.2 0).iy=_;rw[e];cases c7 <;> rfl
  refine .bind (P:=λcN=>C9 s 1 hp cN p) (.bind (P:=λcN=>C9 s 1 hp cN p) ?_ λ_ bh=>.ret bh) λcN aX=>.ret ⟨p,rfl,aX⟩;refine .idx (k:=0) I (by omega) ?_;simp only[aY];refine .l2 (afw h (show 6<9 by decide)) λbq fv=>?_;subst fv;refine .l2 (P:=λr=>r=32) (.cond (λ_=>.idx I (by rw[h.GI];decide) (.ret (h.Sv (show 6<9 by decide)).2)) (λak=>by simp at ak)) λb hb=>?_;subst hb;refine .mk λm3 fE=>?_;simp only[dB,mb,dO,zr]at fE bL;refine .eq I (.eq (by simp[iO,pat,fE.1];rfl) (.eq I (.ret ?_)));refine⟨{vI:=q2 1,vJ:=((aB s.bH 1).bQ.length:Int),nn:=.pJ ⟨0,32,⟨some m3⟩⟩,oV:=⟨some m⟩},m,?_,rfl,rfl,rfl,?_,λak=>by simp at ak,?_,λak=>by simp at ak,bL.2,hm,λx al=>by rw[rb];exact gd _ (gd _ (gd _ al)),λx al=>?_⟩
  ·simp[iO,pat,cr,fE.1]
  ·simp[mj,pat,cr,fE.1,fE.2.1,bL.1]
  ·intro _;refine⟨m3,rfl,?_,fE.2.2⟩;simp[lu,pat,cr,fE.1,fE.2.1,bL.1]
  have kn:m3≠x:=λe=>fE.2.2 (by rw[e];exact al);have q3:p≠x:=λe=>bL.2 (by rw[e];exact al);have qd:m≠x:=λe=>hm (by rw[e];exact al);simp[FM,pat,kn,q3,qd]
 have e:(q2 k==1)=false:=by
  have:k=2∨k=3:=by omega
  rcases this with rfl|rfl <;> rfl
 have aW:(q2 k==2)=false:=by
  have:k=2∨k=3:=by omega
  rcases this with rfl|rfl <;> rfl
 simp only[e,aW,cond_true,cond_false];refine .bind (P:=λcN=>C9 s k hp cN p) (.bind (P:=λcN=>C9 s k hp cN p) ?_ λ_ bh=>.ret bh) λcN aX=>.ret ⟨p,rfl,aX⟩;refine .eq I (.any λeZ=>.mk λq hq=>?_);simp only[dB,mb,dO,zr]at hq bL;refine .eq (by simp[iO,pat,hq.1];rfl) (.eq I (.ret ?_));refine⟨{vI:=q2 k,vJ:=((aB s.bH k).bQ.length:Int),nn:=.pK ⟨some q⟩,oV:=⟨some m⟩},m,?_,rfl,rfl,rfl,?_,λak=>by omega,λak=>by omega,λ_=>⟨q,eZ.1,eZ.2,rfl,?_,hq.2.2⟩,bL.2,hm,λx al=>by rw[rb];exact gd _ (gd _ (gd _ al)),λx al=>?_⟩
 ·simp[iO,pat,cr,hq.1]
 ·simp[mj,pat,cr,hq.1,hq.2.1,bL.1]
 ·simp[rj,pat,cr,hq.1]
 have kn:q≠x:=λe=>hq.2.2 (by rw[e];exact al);have q3:p≠x:=λe=>bL.2 (by rw[e];exact al);have qd:m≠x:=λe=>hm (by rw[e];exact al);simp[FM,pat,kn,q3,qd]
def WA{α:Type}{b:α->α->Bool}(hb:wH b){q:α->Bool}:∀{l:aa α} {c:α},l.Pairwise (λx y=>b x y=true)->c∈l->q c=true->(∀d∈l,q d=true->d=c∨b c d=true)->l.find? q=some c
 |[],c,_,ak,_,_=>by cases ak
 | a::l,c,hs,ak,hq,hd=>by
   obtain⟨h1,ad⟩:=nQ.1 hs;by_cases rB:q a=true
   ·rw[TD rB];rcases hd a (by simp) rB with h|h
    ·rw[h]
    rcases dO.1 ak with ay|ay
    ·rw[ay]
    have:=hb.asymm _ _ (h1 c ay);rw[this]at h;cases h
   rw[List.find?_cons_of_neg rB];rcases dO.1 ak with ay|ay
   ·rw[ay]at hq;exact absurd hq rB
   exact WA hb ad ay hq λd hd' aqS=>hd d (by simp[hd']) aqS
def aiu{α:Type}{b:α->α->Bool}(hb:wH b){q:α->Bool}{l:aa α}{c:α}(h:ya b l)(ak:c∈l)(hq:q c=true)(hd:∀d∈l,q d=true->d=c∨b c d=true):(iq b l).find? q=some c:=
 WA hb (Pc hb h) (xL.2 ak) hq λd hd'=>hd d (xL.1 hd')
def nK.uniq{s:aS}{k:Nat}:∀{l:aa aK},nK s k l->∀{a c:aK},a∈l->c∈l->a.cI=c.cI->a=c:=λ{l} h {a c} a7 ak e=>by
 have aI:=h.num;clear h;induction l with
 |nil=>cases a7
 | cons x l bJ=>
   obtain⟨h1,ad⟩:=nQ.1 aI
   rcases dO.1 a7 with g1|g1 <;> rcases dO.1 ak with g2|g2
   ·rw[g1,g2]
   ·rw[g1]at e;exact absurd e (h1 c g2)
   ·rw[g2]at e;exact absurd e.symm (h1 a g1)
   exact bJ g1 g2 ad
def c6.Gf{s:aS}(h:c6 s):(aB s.bH 0).bQ=[q1]:=by
 obtain⟨c7,dH,gE,e⟩:=h.Mr;exact ec (·.2.2) (e 0 (by decide))
def c6.Le{s:aS}(h:c6 s):∃b,(aB s.bH 1).bQ=lW b:=by
 obtain⟨c7,dH,gE,e⟩:=h.Mr;exact⟨c7,ec (·.2.2) (e 1 (by decide))⟩
def MF(s:aS)(k:Nat):Nat:=(aB s.bH k).bQ.length
def aiv{α:Type}[Inhabited α]{n:Nat}{f:Fin n->α}{j:Nat}(h:j<n):cu (Vector.ofFn f) j=f ⟨j,h⟩:=by unfold cu;simp[h]
def fe(e:bp):Vector aV 4:=Vector.ofFn λi=>if i.1<e.ck.length then(aB e.ck i.1).bV else default
def h6(p:Vector aV 4):Vector aV 4:=dS p 0 default
def Cj{e:bp}{j:Nat}(h:j<4):cu (fe e) j=if j<e.ck.length then(aB e.ck j).bV else default:=aiv h
def Xj{p:Vector aV 4}{j:Nat}:cu (h6 p) j=if j=0 then default else cu p j:=by unfold h6;rw[zz _ _ (by decide)]
def aas{v w:Vector aV 4}:v=w↔cu v 0=cu w 0∧cu v 1=cu w 1∧cu v 2=cu w 2∧cu v 3=cu w 3:=by
 refine⟨λh=>by rw[h];exact⟨rfl,rfl,rfl,rfl⟩,λ⟨bu,h1,ad,ay⟩=>Ws λj aC=>?_⟩;rcases (show j=0∨j=1∨j=2∨j=3 by omega)with rfl|rfl|rfl|rfl <;> assumption
def ahh{v w:aV}{n m:Nat}:eC v n=eC w m↔n=m∧∀i,i<n->dx v (31-i)=dx w (31-i):=by
 unfold eC;constructor
 ·intro h;have ao:=ec List.length h;simp only[kY,Bx]at ao;subst ao;refine⟨rfl,λi ax=>?_⟩;have:=ec (·[i]?) h;simpa[ax]using this
 rintro ⟨rfl,h⟩;exact D6 λi ax=>h i (lq.1 ax)
def lh(e:bp):aa Bool:=eC (aB e.ck 0).bV (aB e.ck 0).gh.toNat
def GM{s:aS}(h:c6 s){e:bp}(he:iB s 1 e):r3 2 32 (aB e.ck 0):=by
 have hm:=he.A2 0;obtain⟨b,hb⟩:=h.Le;rw[hb]at hm;cases b
 ·exact hm (by decide)
 exact hm (by decide)
def FY{k:Int}(bu:0<=k)(h1:k<=32){j:Nat}:lead 32 k j=true↔32-k<=(j:Int)∧j<32:=by
 unfold lead;rw[gq,fM,fM];omega
def aiw{m:ct}(hm:r3 2 32 m){v:aV}{n:Nat}(aI:n<=32):eC m.bV m.gh.toNat=eC v n↔m.gh=n∧∀j,j<128->lead 32 m.gh j=true->dx v j=dx m.bV j:=by
 have hp:=hm.pre;rw[ahh];constructor
 ·rintro ⟨h1,ad⟩;refine⟨by omega,λj aC ao=>?_⟩;rw[FY hp.1 hp.2]at ao;have:=ad (31-j) (by omega);rw[show 31-(31-j)=j by omega]at this;exact this.symm
 rintro ⟨h1,ad⟩;refine⟨by omega,λi ax=>?_⟩;exact(ad (31-i) (by omega) ((FY hp.1 hp.2).2 (by omega))).symm
def aat{s:aS}(h:c6 s){e:bp}(he:iB s 1 e):e.ka=0:=by
 refine he.pri λi ax=>?_;obtain⟨b,hb⟩:=h.Le;rw[hb]at ax⊢;cases b
 ·have:i=0:=by have:i<1:=ax;omega
  subst this;decide
 have:i=0∨i=1:=by have:i<2:=ax;omega
 rcases this with rfl|rfl <;> decide
def Own.iff{hp hp':aH Cell}{t:Nat}{c:gZ}(ak:gi hp t=some c)(h:∀q,Own hp t q->pat hp' q=pat hp q):gi hp' t=some c∧(∀aZ,cS hp' c.eU aZ=cS hp c.eU aZ)∧∀q,Own hp' t q↔Own hp t q:=by
 have h1:gi hp' t=some c:=by rw[JR (h t (.inl I))];exact ak
 have ad:∀aZ,cS hp' c.eU aZ=cS hp c.eU aZ:=λaZ=>VX λp cs hp=>zv (h p (.inr ⟨c,cs,ak,hp⟩));refine⟨h1,ad,λq=>⟨λhq=>?_,λhq=>?_⟩⟩
 ·rcases hq with rfl|⟨jz,aZ,g1,g2⟩
  ·exact .inl I
  rw[h1]at g1;cases g1;rw[ad]at g2;exact .inr ⟨c,aZ,ak,g2⟩
 rcases hq with rfl|⟨jz,aZ,g1,g2⟩
 ·exact .inl I
 rw[ak]at g1;cases g1;exact .inr ⟨c,aZ,h1,by rw[ad];exact g2⟩
def kz.congr{hp hp':aH Cell}{t:Nat}{g:aa Bool->aw Int}(h:kz hp t g)(a7:∀q,Own hp t q->pat hp' q=pat hp q):kz hp' t g∧∀q,Own hp' t q↔Own hp t q:=by
 obtain⟨c,ak,hb,bw,bF⟩:=h.ok;obtain⟨h1,ad,ay⟩:=Own.iff ak a7;refine⟨⟨⟨c,h1,hb,⟨λaZ p hp=>?_,λaZ cs p g1 g2=>?_,λaZ p g1=>bw.dep aZ p (by rw[<-ad];exact g1)⟩,λaZ=>?_⟩⟩,ay⟩
 ·rw[ad]at hp;obtain⟨d,hd⟩:=bw.reads aZ p hp;exact⟨d,by rw[zv (a7 p (.inr ⟨c,aZ,ak,hp⟩))];exact hd⟩
 ·rw[ad]at g1 g2;exact bw.inj aZ cs p g1 g2
 rw[<-bF];cases e:cS hp c.eU aZ with
 |none=>rw[mI e,mI (by rw[ad];exact e)]
 | some p=>
   obtain⟨d,hd⟩:=bw.reads aZ p e
   rw[lT e hd,lT (by rw[ad];exact e) (by rw[zv (a7 p (.inr ⟨c,aZ,ak,e⟩))];exact hd)]
def kz.zY{hp:aH Cell}{t:Nat}{g:aa Bool->aw Int}(h:kz hp t g){q:Nat}(hq:Own hp t q):q∈dB hp:=by
 obtain⟨c,ak,hb,bw,bF⟩:=h.ok;rcases hq with rfl|⟨jz,aZ,g1,g2⟩
 ·exact jG (vy.1 ak)
 rw[ak]at g1;cases g1;obtain⟨d,hd⟩:=bw.reads aZ q g2;exact jG (rT.1 hd)
def kz.KQ{hp:aH Cell}{t:Nat}{g:aa Bool->aw Int}(h:kz hp t g){q:Nat}(hq:Own hp t q):(∃c,pat hp q=some (.k6 c))∨∃c,pat hp q=some (.gP c):=by
 obtain⟨c,ak,hb,bw,bF⟩:=h.ok;rcases hq with rfl|⟨jz,aZ,g1,g2⟩
 ·exact .inl ⟨c,vy.1 ak⟩
 rw[ak]at g1;cases g1;obtain⟨d,hd⟩:=bw.reads aZ q g2;exact .inr ⟨d,rT.1 hd⟩
def ir(a c:bp):Bool:=decide (a.cw=c.cw∧a.ck=c.ck∧a.ka=c.ka)
def zZ{a c:bp}:ir a c=true↔a.cw=c.cw∧a.ck=c.ck∧a.ka=c.ka:=by unfold ir;rw[fM]
def FP(a:bp):ir a a=true:=zZ.2 ⟨rfl,rfl,rfl⟩
def PS(a c:bp):ir a c=ir c a:=by
 rw[oo,zZ,zZ];exact⟨λ⟨x,y,z⟩=>⟨x.symm,y.symm,z.symm⟩,λ⟨x,y,z⟩=>⟨x.symm,y.symm,z.symm⟩⟩
def WB{a c d:bp}(h1:ir a c=true)(ad:ir c d=true):ir a d=true:=by
 rw[zZ]at *;exact⟨h1.1.trans ad.1,h1.2.1.trans ad.2.1,h1.2.2.trans ad.2.2⟩
def Xk{a c:ct}(h1:a.gz=c.gz)(ad:a.bV=c.bV)(ay:a.iz=c.iz)(aR:a.gh=c.gh)(aX:a.mf=c.mf):a=c:=by
 cases a;cases c;simp_all
def Xl{b:Int}{m rH:ct}(h:r3 1 b m)(cT:r3 1 b rH)(e:m.bV=rH.bV):m=rH:=
 Xk (by rw[h.abz I,cT.abz I]) e (by rw[h.hx (by decide),cT.hx (by decide)]) (by rw[h.abB (by decide),cT.abB (by decide)]) (by rw[h.Mp (by decide),cT.Mp (by decide)])
def aix{m rH:ct}(h:r3 2 32 m)(cT:r3 2 32 rH)(e:eC m.bV m.gh.toNat=eC rH.bV rH.gh.toNat):m=rH:=by
 have hp:=h.pre;have hp':=cT.pre;obtain⟨n,aI⟩:=w0 hp'.1;rw[aI,Int.toNat_natCast]at e;obtain⟨au,aW⟩:=(aiw h (by omega)).1 e;have cF:m.gh=rH.gh:=by omega
 have aqT:m.gz=rH.gz:=by
  cases g1:m.gz <;> cases g2:rH.gz
  ·rfl
  ·have:=cT.abA I g2;have:=h.off g1;have bu:(default:ct).gh=0:=rfl;rw[this,bu]at cF;omega
  ·have:=h.abA I g1;have:=cT.off g2;have bu:(default:ct).gh=0:=rfl;rw[this,bu]at cF;omega
  rfl
 refine Xk aqT (XL λj aC=>?_) (by rw[h.hx (by decide),cT.hx (by decide)]) cF (by rw[h.Mp (by decide),cT.Mp (by decide)]);cases ao:lead 32 m.gh j with
 |true=>exact(aW j aC ao).symm
 | false=>
   have nF:dx m.bV j=false:=by
    rw[Bw];intro ba;have:=h.Sw I j aC ba;rw[(FY hp.1 hp.2).2 this]at ao;cases ao
   have sr:dx rH.bV j=false:=by
    rw[Bw];intro ba;have:=cT.Sw I j aC ba;rw[cF,(FY hp'.1 hp'.2).2 this]at ao;cases ao
   rw[nF,sr]
def LL{α:Type}[Inhabited α]{l:aa α}(h:l.length=1):l=[aB l 0]:=by
 match l,h with
 |[x],_=>rfl
def aau{α:Type}[Inhabited α]{l:aa α}(h:l.length=2):l=[aB l 0,aB l 1]:=by
 match l,h with
 |[x,y],_=>rfl
def HJ{s:aS}(h:c6 s){a c:bp}(a7:iB s 0 a)(ak:iB s 0 c):ir a c=true↔fe a=fe c:=by
 rw[zZ];have de:=a7.len;have lc:=ak.len;have Ib:=a7.A2 0;have wV:=ak.A2 0;have MG:=a7.pri;have MH:=ak.pri;rw[h.Gf]at de lc Ib wV MG MH;have hk:∀i,i<[q1].length->(aB [q1] i).cn<=2:=by decide
 refine⟨λ⟨h1,ad,ay⟩=>by unfold fe;rw[ad],λe=>⟨by rw[a7.lF,ak.lF],?_,by rw[MG hk,MH hk]⟩⟩;have hC:=(aas.1 e).1;rw[Cj (by decide),Cj (by decide),de,lc]at hC;have hC:(aB a.ck 0).bV=(aB c.ck 0).bV:=hC;rw[LL (l:=a.ck) de,LL (l:=c.ck) lc,Xl (Ib (by decide)) (wV (by decide)) hC]
def DB{s:aS}(h:c6 s){a c:bp}(a7:iB s 1 a)(ak:iB s 1 c):ir a c=true↔h6 (fe a)=h6 (fe c)∧lh a=lh c:=by
 rw[zZ];have de:=a7.len;have lc:=ak.len;have Ib:=a7.A2 1;have wV:=ak.A2 1;have MG:=aat h a7;have MH:=aat h ak;have m0:=GM h a7;have aqU:=GM h ak;obtain⟨b,hb⟩:=h.Le;rw[hb]at de lc Ib wV;refine⟨λ⟨h1,ad,ay⟩=>by unfold fe lh;rw[ad];exact⟨rfl,rfl⟩,λ⟨e,e'⟩=>⟨by rw[a7.lF,ak.lF],?_,by rw[MG,MH]⟩⟩;have bu:=aix m0 aqU e';cases b
 ·rw[LL (l:=a.ck) de,LL (l:=c.ck) lc,bu]
 have au:=(aas.1 e).2.1;rw[Xj,Xj,bn (by decide),bn (by decide),Cj (by decide),Cj (by decide),de,lc]at au;have au:(aB a.ck 1).bV=(aB c.ck 1).bV:=au;rw[aau (l:=a.ck) de,aau (l:=c.ck) lc,bu,Xl (Ib (by decide)) (wV (by decide)) au]
structure kr(s:aS)(k:Nat)(l:List aK):Prop where
 ok:nK s k l
 key:l.Pairwise λa c=>ir a.bb c.bb=false
def kr.uniq{s:aS}{k:Nat}{l:aa aK}(h:kr s k l){a c:aK}(a7:a∈l)(ak:c∈l)(e:ir a.bb c.bb=true):a=c:=by
 have aI:=h.key;clear h;induction l with
 |nil=>cases a7
 | cons x l bJ=>
   obtain⟨h1,ad⟩:=nQ.1 aI
   rcases dO.1 a7 with g1|g1 <;> rcases dO.1 ak with g2|g2
   ·rw[g1,g2]
   ·rw[g1,h1 c g2]at e;cases e
   ·rw[g2,PS,h1 a g1]at e;cases e
   exact bJ g1 g2 ad
def eT(l:aa aK)(e:bp):aw aK:=l.find? λi=>ir i.bb e
def zF{l:aa aK}{e:bp}{i:aK}(h:eT l e=some i):i∈l∧ir i.bb e=true:=by
 unfold eT at h;have ad:=List.find?_some h;exact⟨List.mem_of_find?_eq_some h,ad⟩
def xq{l:aa aK}{e:bp}(h:eT l e=none):∀i∈l,ir i.bb e=false:=λi ax=>by
 have:=Iw.1 h i ax;simpa using this
def nb(o:aw aK):Int×Bool:=match o with |some i=>(i.cI,true)|none=>(0,false)
def oN{α β:Type}(l:aa (α×β)):Prop:=l.Pairwise λa c=>a.1≠c.1
def WC{α β:Type}[DecidableEq α]:∀{l:aa (α×β)} {x:α} {v:β} {a:α×β},a∈gj l x v->a.1=x∨a∈l
 | [],x,v,a,h=>by
   have:a=(x,v):=by simpa[gj]using h
   rw[this];exact .inl I
 | (k,w)::r,x,v,a,h=>by
   unfold gj at h;split at h
   ·rcases dO.1 h with h|h
    ·rw[h];exact .inl I
    exact .inr (by simp[h])
   rcases dO.1 h with h|h
   ·exact .inr (by simp[h])
   exact(WC h).imp id λh=>gd _ h
def oN.put{α β:Type}[DecidableEq α]:∀{l:aa (α×β)} {x:α} {v:β},oN l->oN (gj l x v)
 |[],x,v,_=>by unfold gj oN;simp
 | (k,w)::r,x,v,h=>by
   obtain⟨h1,ad⟩:=nQ.1 h;unfold gj;split
   ·rename_i e;refine nQ.2 ⟨λa a7=>?_,ad⟩;have:=h1 a a7;rw[e];exact this
   rename_i e;refine nQ.2 ⟨λa a7=>?_,oN.put ad⟩;rcases WC a7 with g|g
   ·rw[g];exact λe'=>e e'.symm
   exact h1 a g
def WD{α β:Type}[DecidableEq α]:∀{l:aa (α×β)} {x:α} {a:α×β},a∈iC l x->a∈l
 |[],x,a,h=>by cases h
 | (k,w)::r,x,a,h=>by
   unfold iC at h;split at h
   ·exact gd _ h
   rcases dO.1 h with h|h
   ·simp[h]
   exact gd _ (WD h)
def oN.del{α β:Type}[DecidableEq α]:∀{l:aa (α×β)} {x:α},oN l->oN (iC l x)
 |[],x,_=>by unfold iC oN;exact .nil
 | (k,w)::r,x,h=>by
   obtain⟨h1,ad⟩:=nQ.1 h;unfold iC;split
   ·exact ad
   exact nQ.2 ⟨λa a7=>h1 a (WD a7),oN.del ad⟩
def Xm{α β:Type}[DecidableEq α]:∀{l:aa (α×β)} {x:α},(∀a∈l,a.1≠x)->dz l x=none
 |[],_,_=>rfl
 | (k,w)::r,x,h=>by
   unfold dz;rw[bn λe=>h (k,w) (by simp) e.symm,Xm λa a7=>h a (by simp[a7])]
def Cd{α β:Type}[DecidableEq α]:∀{l:aa (α×β)} {x y:α},oN l->dz (iC l x) y=if y=x then none else dz l y
 | [],x,y,_=>by
   show none=if y=x then none else none;split <;> rfl
 | (k,w)::r,x,y,h=>by
   obtain⟨h1,ad⟩:=nQ.1 h;unfold iC;by_cases e:x=k
   ·rw[br e];by_cases aW:y=x
    ·rw[br aW,aW,e];exact Xm λa a7=>(h1 a a7).symm
    rw[bn aW];show _=if y=k then _ else _;rw[bn (by rw[<-e];exact aW)]
   rw[bn e];show(if y=k then some w else dz (iC r x) y)=_;by_cases aW:y=k
   ·rw[br aW,bn (by rw[aW];exact λcF=>e cF.symm)];show _=if y=k then _ else _;rw[br aW]
   rw[bn aW,Cd ad];show _=if y=x then none else if y=k then _ else _;rw[bn aW]
structure Cw(s:aS)(hp:aH Cell)(q:Nat)(l:List aK)(own:Nat->Prop):Prop where
 ok:∃m em,nW hp q=some ⟨⟨some m⟩⟩∧nt hp m=some em∧own q∧own m∧(∀cY n,dz em cY=some n↔∃i∈l,fe i.bb=cY∧i.cI=n)∧oN em
structure o2(s:aS)(hp:aH Cell)(m:Nat)(l:List aK)(own:Nat->Prop):Prop where
 ok:∃em,lu hp m=some em∧own m∧
  (∀cY r,dz em cY=some r->∃t g,r=some t∧kz hp t g∧(∀q,Own hp t q->own q)∧∀aZ n,g aZ=some n↔∃i∈l,h6 (fe i.bb)=cY∧lh i.bb=aZ∧i.cI=n)∧
  (∀cY,dz em cY=none->∀i∈l,h6 (fe i.bb)≠cY)∧
  (∀cY lj t fI,dz em cY=some (some t)->dz em lj=some (some fI)->cY≠lj->∀q,Own hp t q->¬Own hp fI q)∧oN em
structure Cx(s:aS)(k:Nat)(hp:aH Cell)(q:Nat)(l:List aK)(own:Nat->Prop):Prop where
 ok:∃key cap,rj hp q=some (vU s k l,key,cap)∧own q
def tb(s:aS)(k:Nat)(hp:aH Cell)(f:h8)(l:aa aK)(own:Nat->Prop):Prop:=
 (k=0∧∃q,f=.pI ⟨some q⟩∧Cw s hp q l own)∨(k=1∧∃m,f=.pJ ⟨0,32,⟨some m⟩⟩∧o2 s hp m l own)∨(2<=k∧∃q,f=.pK ⟨some q⟩∧Cx s k hp q l own)
def OP{hp hp':aH Cell}{p:Nat}(h:pat hp' p=pat hp p):nW hp' p=nW hp p:=by unfold nW;rw[h]
def afx{hp hp':aH Cell}{p:Nat}(h:pat hp' p=pat hp p):nt hp' p=nt hp p:=by unfold nt;rw[h]
def JT{hp hp':aH Cell}{p:Nat}(h:pat hp' p=pat hp p):lu hp' p=lu hp p:=by unfold lu;rw[h]
def afy{hp hp':aH Cell}{p:Nat}(h:pat hp' p=pat hp p):rj hp' p=rj hp p:=by unfold rj;rw[h]
def afz{hp hp':aH Cell}{p:Nat}(h:pat hp' p=pat hp p):iO hp' p=iO hp p:=by unfold iO;rw[h]
def afA{hp hp':aH Cell}{p:Nat}(h:pat hp' p=pat hp p):mj hp' p=mj hp p:=by unfold mj;rw[h]
def tb.congr{s:aS}{k:Nat}{hp hp':aH Cell}{f:h8}{l:aa aK}{own:Nat->Prop}(h:tb s k hp f l own){own':Nat->Prop}(aU:∀q,q∈dB hp->own q->own' q)(a7:∀q,own q->pat hp' q=pat hp q):tb s k hp' f l own':=by
 rcases h with⟨rfl,q,rfl,h⟩|⟨rfl,m,rfl,h⟩|⟨hk,q,rfl,h⟩
 ·obtain⟨m,em,h1,ad,ay,aR,aX,jI⟩:=h.ok;refine .inl ⟨rfl,q,rfl,⟨m,em,by rw[OP (a7 q ay)];exact h1,by rw[afx (a7 m aR)];exact ad,aU q (jG (FZ h1)) ay,aU m (jG (ur ad)) aR,aX,jI⟩⟩
 ·obtain⟨em,h1,ad,ay,aR,aX,jI⟩:=h.ok;have key:∀cY r,dz em cY=some r->∃t g,r=some t∧kz hp t g∧kz hp' t g∧(∀q,Own hp t q->own q)∧(∀q,Own hp' t q↔Own hp t q)∧∀aZ n,g aZ=some n↔∃i∈l,h6 (fe i.bb)=cY∧lh i.bb=aZ∧i.cI=n:=λcY r aD=>by
   obtain⟨t,g,rfl,g1,g2,g3⟩:=ay cY r aD;obtain⟨g4,g5⟩:=g1.congr λq hq=>a7 q (g2 q hq);exact⟨t,g,rfl,g1,g4,g2,g5,g3⟩
  refine .inr (.inl ⟨rfl,m,rfl,⟨em,by rw[JT (a7 m ad)];exact h1,aU m (jG (o1 h1)) ad,λcY r aD=>?_,aR,λcY lj t fI bw A6 cX q hq=>?_,jI⟩⟩)
  ·obtain⟨t,g,rfl,g0,g1,g2,g3,g4⟩:=key cY r aD;exact⟨t,g,rfl,g1,λq hq=>aU q (g0.zY ((g3 q).1 hq)) (g2 q ((g3 q).1 hq)),g4⟩
  obtain⟨_,g,e,g0,g1,g2,g3,g4⟩:=key cY _ bw;obtain⟨_,dm,e',asG,aqV,aqW,aqX,asH⟩:=key lj _ A6;cases e;cases e';rw[aqX];exact aX cY lj t fI bw A6 cX q ((g3 q).1 hq)
 obtain⟨key,cap,h1,ad⟩:=h.ok;exact .inr (.inr ⟨hk,q,rfl,⟨key,cap,by rw[afy (a7 q ad)];exact h1,aU q (jG (zP h1)) ad⟩⟩)
def Kt{e:bp}(ao:e.ck.length<=4):xg e=some (fe e):=by
 refine bN.get ?_;unfold xg;refine .eq (a:=e.ck) (by unfold s5;rw[br ⟨by omega,by omega,by omega⟩,Int.toNat_zero,vn,Nat.sub_zero,sF (by omega)]) ?_;refine bN.loop e.ck.length (λi st=>st.1=(i:Int)∧∀j,j<4->cu st.2 j=if j<i then(aB e.ck j).bV else default) (by omega) ⟨rfl,λj aC=>by rw[OH];rfl⟩ (λi st ax hs=>?_) (λst hs=>?_)
 ·obtain⟨j,v⟩:=st;obtain⟨au,aW⟩:=hs;simp only at au aW;subst au;refine .cond (λ_=>?_) (λak=>by simp at ak;omega);refine .idx I ax (.idx I (by omega) (.ret ⟨hl (by omega),λj aC=>?_⟩));rw[zz _ _ (by omega)];by_cases lg:j=i
  ·rw[br lg,br (by omega),lg]
  rw[bn lg,aW j aC];by_cases h:j<i
  ·rw[br h,br (by omega)]
  rw[bn h,bn (by omega)]
 obtain⟨j,v⟩:=st;obtain⟨au,aW⟩:=hs;simp only at au aW;subst au;refine⟨_,by simp;rfl,.ret ?_⟩;exact Ws λj aC=>by rw[aW j aC,Cj aC]
def iB.LM{s:aS}(h:c6 s){k:Nat}(hk:k<4){e:bp}(he:iB s k e):e.ck.length<=4∧1<=e.ck.length:=by
 have:=(h.lF hk).2.1;rw[he.len];omega
def ahi{a c:aa ct}(ao:a.length<=1000):D7 a c=some (decide (a=c)):=by
 refine bN.get ?_;unfold D7;refine .cond (λh=>.ret ?_) λh=>?_
 ·have:a≠c:=λe=>by rw[e]at h;simp at h
  simp[this]
 have Dt:c.length=a.length:=by
  have:(a.length:Int)=c.length:=by simpa using h
  omega
 refine bN.loop a.length (λi st=>st=(i:Int)∧∀j,j<i->aB a j=aB c j) (by omega) ⟨rfl,λj aC=>by omega⟩ (λi st ax hs=>?_) (λst hs=>?_)
 ·obtain⟨rfl,hs⟩:=hs;refine .cond (λ_=>?_) (λak=>by simp at ak;omega);refine .idx I ax (.idx I (by omega) (.cond (λcX=>.ret ?_) λhe=>.ret ⟨hl (by omega),λj aC=>?_⟩))
  ·simp only[Sum.elim_inr];refine .ret ?_;have:a≠c:=λe=>by rw[e]at cX;simp at cX
   simp[this]
  by_cases lg:j=i
  ·subst lg;simpa using he
  exact hs j (by omega)
 obtain⟨rfl,hs⟩:=hs;refine⟨_,by simp;rfl,?_⟩;simp only[Sum.elim_inl];refine .ret ?_;have:a=c:=Er Dt.symm λj h1 ad=>by
  have:=hs j h1;rwa[fQ _ h1,fQ _ ad]at this
 simp[this]
def afW{a c:bp}(ao:a.ck.length<=1000):Fb a c=some (ir a c):=by
 refine bN.get ?_;unfold Fb ir;refine .cb (P:=λr=>r=decide (a.ck=c.ck)) (λ_=>⟨_,ahi ao,rfl⟩) λy hy=>.ret ?_;by_cases h:a.cw=c.cw
 ·rw[hy (by simpa using h)];rw[oo];simp[h]
 simp[h]
def amh{s:aS}(h:c6 s){hp:aH Cell}{q:Nat}{l:aa aK}{own:Nat->Prop}(hq:Cw s hp q l own)(ao:kr s 0 l){e:bp}(he:iB s 0 e):ET hp ⟨some q⟩ e=some (nb (eT l e)):=by
 obtain⟨m,em,h1,ad,_,_,aX,_⟩:=hq.ok;refine bN.get ?_;unfold ET BO;refine .eq (Kt (he.LM h (by decide)).1) ?_;have hm:dz em (fe e)=(eT l e).map (·.cI):=by
  cases aY:eT l e with
  | none=>
    cases bF:dz em (fe e)with
    |none=>rfl
    | some n=>
      obtain⟨i,ax,bh,_⟩:=(aX _ _).1 bF
      have:=xq aY i ax
      rw[(HJ h (ao.ok.ok i ax).fS he).2 bh]at this;cases this
  | some i=>
    obtain⟨ax,hk⟩:=zF aY
    exact(aX _ _).2 ⟨i,ax,(HJ h (ao.ok.ok i ax).fS he).1 hk,rfl⟩
 refine .eq (a:=nb (eT l e)) ?_ (.ret I);show(nW hp q).bind _=_;rw[h1];show(nt hp m).bind _=_;rw[ad];show some ((dz em (fe e)).getD default,(dz em (fe e)).isSome)=_;rw[hm];cases eT l e <;> rfl
def PT{s:aS}(h:c6 s){e:bp}(he:iB s 1 e)(m:eJ):y8 ⟨0,32,m⟩ e=some (h6 (fe e),(aB e.ck 0).bV,(aB e.ck 0).gh):=by
 have ao:=he.LM h (by decide);refine bN.get ?_;unfold y8 IE;refine .eq (Kt ao.1) (.eq (a:=(h6 (fe e),cu (fe e) 0)) I (.cond (λak=>by have ak:(0:Int)>=(e.ck.length:Int):=w8 ak;omega) λ_=>.idx (k:=0) I (by omega) (.ret ?_)));rw[Cj (by decide),br (by omega)]
def Pq{m:ct}(h:r3 2 32 m):∀j,j<128->dx m.bV j=true->lead 32 m.gh j=true:=λj aC ba=>
 (FY h.pre.1 h.pre.2).2 (h.Sw I j aC ba)
def ami{s:aS}(h:c6 s){hp:aH Cell}{m:Nat}{l:aa aK}{own:Nat->Prop}(hq:o2 s hp m l own)(ao:kr s 1 l){e:bp}(he:iB s 1 e):Ey hp ⟨0,32,⟨some m⟩⟩ e=some (nb (eT l e)):=by
 obtain⟨em,h1,_,ay,aR,_⟩:=hq.ok;have hZ:=GM h he;refine bN.get ?_;unfold Ey;refine .eq (PT h he _) (.eq I (.eq h1 (.eq I ?_)));obtain⟨n,aI⟩:=w0 hZ.pre.1;have GN:n<=32:=by have:=hZ.pre.2;omega
 have xS:=Pq hZ;refine .eq (a:=nb (eT l e)) ?_ (.ret I);simp only;cases aD:dz em (h6 (fe e))with
 | none=>
   have aY:eT l e=none:=by
    cases aY:eT l e with
    |none=>rfl
    | some i=>
      obtain⟨ax,hk⟩:=zF aY
      exact absurd ((DB h (ao.ok.ok i ax).fS he).1 hk).1 (aR _ aD i ax)
   rw[aY];rfl
 | some r=>
   obtain⟨t,g,rfl,g1,_,g3⟩:=ay _ _ aD
   have bF:g (lh e)=(eT l e).map (·.cI):=by
    cases aY:eT l e with
    | none=>
      cases SC:g (lh e)with
      |none=>rfl
      | some n=>
        obtain⟨i,ax,bh,c5,_⟩:=(g3 _ _).1 SC
        have:=xq aY i ax
        rw[(DB h (ao.ok.ok i ax).fS he).2 ⟨bh,c5⟩]at this;cases this
    | some i=>
      obtain⟨ax,hk⟩:=zF aY
      obtain⟨bh,c5⟩:=(DB h (ao.ok.ok i ax).fS he).1 hk
      exact(g3 _ _).2 ⟨i,ax,bh,c5,rfl⟩
   rw[aI]at xS⊢
   show zk hp (some t) _ (n:Int)=_
   rw[XS g1 GN xS]
   have hp':eC (aB e.ck 0).bV n=lh e:=by unfold lh;rw[aI];rfl
   rw[hp',bF]
   cases eT l e <;> rfl
def amj{s:aS}(h:c6 s){k:Nat}(hk:k<4){hp:aH Cell}{q:Nat}{l:aa aK}{own:Nat->Prop}(hq:Cx s k hp q l own)(ao:kr s k l){e:bp}(he:iB s k e):EW hp ⟨some q⟩ e=some (nb (eT l e)):=by
 obtain⟨key,cap,h1,_⟩:=hq.ok;refine bN.get ?_;unfold EW;refine .eq I (.eq h1 (.eq (ajx h hk ao.ok) ?_));obtain⟨iI,fg⟩:=ao.ok.iq;have aY:eT l e=(iq (jl s k) l).find? λi=>ir i.bb e:=by
  cases aY:eT l e with
  | none=>
    symm
    rw[Iw]
    intro x al
    rw[xq aY x (xL.1 al)];simp
  | some i=>
    obtain⟨ax,yp⟩:=zF aY
    exact(aiu (KP s k) ao.ok.SA ax yp λd hd aqY=>.inl (ao.uniq hd ax (WB aqY (by rw[PS];exact yp)))).symm
 rw[aY];refine bN.loop (iq (jl s k) l).length (λi st=>st=(i:Int)∧∀j,j<i->ir (aB (iq (jl s k) l) j).bb e=false) (by omega) ⟨rfl,λj aC=>by omega⟩ (λi st ax hs=>?_) (λst hs=>?_)
 ·obtain⟨rfl,hs⟩:=hs;refine .cond (λ_=>?_) (λak=>by simp at ak;omega);have hm:=iI (aB (iq (jl s k) l) i) (by rw[fQ _ ax];exact om _);refine .idx I ax (.eq (afW (hm.small h hk).1) (.cond (λak=>.ret ?_) λak=>.ret ⟨hl (by omega),λj aC=>?_⟩))
  ·simp only[Sum.elim_inr];refine .ret ?_;rw[aim (p:=λi=>ir i.bb e) ax ak hs];rfl
  by_cases lg:j=i
  ·subst lg;exact ak
  exact hs j (by omega)
 obtain⟨rfl,hs⟩:=hs;refine⟨_,by simp;rfl,?_⟩;simp only[Sum.elim_inl];refine .ret ?_;rw[ain λc ak=>?_]
 ·rfl
 obtain⟨j,aC,rfl⟩:=D3.1 ak;rw[<-fQ _ aC];exact hs j aC
def Y8{s:aS}(h:c6 s){k:Nat}(hk:k<4){hp:aH Cell}{f:h8}{l:aa aK}{own:Nat->Prop}(hq:tb s k hp f l own)(ao:kr s k l){e:bp}(he:iB s k e):IU hp f e=some (nb (eT l e)):=by
 rcases hq with⟨rfl,q,rfl,hq⟩|⟨rfl,m,rfl,hq⟩|⟨dJ,q,rfl,hq⟩
 ·exact amh h hq ao he
 ·exact ami h hq ao he
 exact amj h hk hq ao he
def nZ(own:Nat->Prop)(hp hp':aH Cell)(q:Nat):Prop:=own q∨(q∉dB hp∧q∈dB hp')
def WE{hp:aH Cell}{p:Nat}{k:Cell}{x:aa (Vector aV 4×Int)}(h:pat hp p=some k):nt (cr hp p (.qA x)) p=some x:=by unfold nt;rw[rX h]
def WG{hp:aH Cell}{p:Nat}{k:Cell}{x:aa (Vector aV 4×Ref)}(h:pat hp p=some k):lu (cr hp p (.n0 x)) p=some x:=by unfold lu;rw[rX h]
def apg{s:aS}(h:c6 s){hp:aH Cell}{q:Nat}{l:aa aK}{own:Nat->Prop}(hq:Cw s hp q l own)(ao:kr s 0 l){i:aK}(ax:mv s 0 i)(aY:eT l i.bb=none):
 bN (E0 hp ⟨some q⟩ i) (λhp'=>Cw s hp' q (l++[i]) (nZ own hp hp')∧eQ hp hp' own):=by
 obtain⟨m,em,h1,ad,ay,aR,aX,jI⟩:=hq.ok
 have e9:dz em (fe i.bb)=none:=by
  cases bF:dz em (fe i.bb)with
  |none=>rfl
  | some n=>
    obtain⟨c,ak,bh,_⟩:=(aX _ _).1 bF
    have:=xq aY c ak
    rw[(HJ h (ao.ok.ok c ak).fS ax.fS).2 bh]at this;cases this
 unfold E0 Jn
 refine .eq (Kt (ax.fS.LM h (by decide)).1) ?_
 refine .eq (a:=(true,cr hp m (Cell.qA (gj em (fe i.bb) i.cI)))) ?_ (.ret ?_)
 ·show(nW hp q).bind _=_
  rw[h1]
  show(nt hp m).bind _=_
  rw[ad]
  show cond (dz em (fe i.bb)).isSome _ _=_
  rw[e9]
  show(nW hp q).bind _=_
  rw[h1]
  show(nt hp m).bind _=_
  rw[ad];rfl
 have A7:q≠m:=λe=>by
  subst e;have:=FZ h1;rw[ur ad]at this;cases this
 refine⟨⟨m,_,by rw[OP (mE A7.symm)];exact h1,WE (ur ad),.inl ay,.inl aR,λcY n=>?_,jI.put⟩,.up aR⟩
 rw[vx]
 by_cases hz:cY=fe i.bb
 ·rw[br hz]
  constructor
  ·intro e
   cases e
   exact⟨i,by simp,hz.symm,rfl⟩
  rintro ⟨c,ak,bh,c5⟩
  rcases ca.1 ak with ak|ak
  ·have:=(aX _ _).2 ⟨c,ak,bh,c5⟩
   rw[hz,e9]at this;cases this
  rw[gX.1 ak]at c5;rw[c5]
 rw[bn hz,aX]
 constructor
 ·rintro ⟨c,ak,bh⟩;exact⟨c,by simp[ak],bh⟩
 rintro ⟨c,ak,bh,c5⟩
 rcases ca.1 ak with ak|ak
 ·exact⟨c,ak,bh,c5⟩
 rw[gX.1 ak]at bh;exact absurd bh.symm hz
def aph{s:aS}(h:c6 s){hp:aH Cell}{m:Nat}{l:aa aK}{own:Nat->Prop}(hq:o2 s hp m l own)(fu:∀q,own q->q∈dB hp)(ao:kr s 1 l){i:aK}(ax:mv s 1 i)(aY:eT l i.bb=none)
 {em:aa (Vector aV 4×Ref)} (ob:lu hp m=some em) {t:Nat} (bw:dz em (h6 (fe i.bb))=some (some t)):
 cv (BW hp (some t) (aB i.bb.ck 0).bV (aB i.bb.ck 0).gh i.cI) (λr=>o2 s r.2 m (l++[i]) (nZ own hp r.2)∧eQ hp r.2 own):=by
 obtain⟨aqZ,h1,ad,ay,aR,aX,jI⟩:=hq.ok
 rw[ob]at h1;cases h1
 have hZ:=GM h ax.fS
 obtain⟨fI,g,e,g1,g2,g3⟩:=ay _ _ bw
 cases e
 obtain⟨n,aI⟩:=w0 hZ.pre.1
 have GN:n<=32:=by have:=hZ.pre.2;omega
 have xS:=Pq hZ
 have hp':eC (aB i.bb.ck 0).bV n=lh i.bb:=by unfold lh;rw[aI];rfl
 have e9:g (lh i.bb)=none:=by
  cases SC:g (lh i.bb)with
  |none=>rfl
  | some n=>
    obtain⟨c,ak,bh,c5,_⟩:=(g3 _ _).1 SC
    have:=xq aY c ak
    rw[(DB h (ao.ok.ok c ak).fS ax.fS).2 ⟨bh,c5⟩]at this;cases this
 rw[aI]at xS⊢
 refine(amf g1 GN xS i.cI (by rw[hp'];exact e9)).mono λr aD=>?_
 obtain⟨_,iI,fg,kV⟩:=aD
 rw[hp']at iI
 have SD:∀q,Own hp t q->q≠m:=λq SE e=>by
  have:=o1 ob;rw[<-e]at this;rcases g1.KQ SE with⟨c,ak⟩|⟨c,ak⟩ <;> rw[ak]at this <;> cases this
 have j7:pat r.2 m=pat hp m:=fg.rest m (jG (o1 ob)) λhq=>SD m hq I
 have uz:∀cY fI,cY≠h6 (fe i.bb)->dz em cY=some (some fI)->∃dm,kz hp fI dm∧kz r.2 fI dm∧(∀q,Own hp fI q->own q)∧(∀q,Own r.2 fI q↔Own hp fI q)∧∀aZ n,dm aZ=some n↔∃i∈l,h6 (fe i.bb)=cY∧lh i.bb=aZ∧i.cI=n:=λcY fI cX aD=>by
  obtain⟨aq0,dm,e,bS,a2,a3⟩:=ay cY _ aD;cases e;obtain⟨c7,dH⟩:=bS.congr (hp':=r.2) λq hq=>fg.rest q (bS.zY hq) λlf=>aX _ _ _ _ bw aD cX.symm q lf hq;exact⟨dm,bS,c7,a2,dH,a3⟩
 have yb:∀q,Own r.2 t q->nZ own hp r.2 q:=λq hq=>by
  rcases kV q hq with bh|bh
  ·exact .inl (g2 q bh)
  exact .inr ⟨bh,iI.zY hq⟩
 refine⟨⟨em,by rw[JT j7];exact ob,.inl ad,λcY nM jL=>?_,λcY hz c ak=>?_,λcY lj t1 t2 ji lH cX q j8 qH=>?_,jI⟩,⟨fg.keys,λq hq e9=>fg.rest q hq λlf=>e9 (g2 q lf)⟩⟩
 ·by_cases hz:cY=h6 (fe i.bb)
  ·subst hz
   rw[bw]at jL;cases jL
   refine⟨t,_,rfl,iI,yb,λaZ wR=>?_⟩
   by_cases mw:aZ=lh i.bb
   ·simp only[br mw]
    constructor
    ·intro e;cases e
     exact⟨i,by simp,rfl,mw.symm,rfl⟩
    rintro ⟨c,ak,bh,c5,dW⟩
    rcases ca.1 ak with ak|ak
    ·have:=(g3 _ _).2 ⟨c,ak,bh,c5,dW⟩
     rw[mw,e9]at this;cases this
    rw[gX.1 ak]at dW;rw[dW]
   simp only[bn mw]
   rw[g3]
   constructor
   ·rintro ⟨c,ak,bh⟩;exact⟨c,by simp[ak],bh⟩
   rintro ⟨c,ak,bh,c5,dW⟩
   rcases ca.1 ak with ak|ak
   ·exact⟨c,ak,bh,c5,dW⟩
   rw[gX.1 ak]at c5;exact absurd c5.symm mw
  obtain⟨fI,dm,e,_⟩:=ay cY nM jL
  subst e
  obtain⟨A8,bS,a2,a3,a4,a5⟩:=uz cY fI hz jL
  refine⟨fI,A8,rfl,a2,λq hq=>.inl (a3 q ((a4 q).1 hq)),λaZ wR=>?_⟩
  rw[a5]
  constructor
  ·rintro ⟨c,ak,bh⟩;exact⟨c,by simp[ak],bh⟩
  rintro ⟨c,ak,bh,c5⟩
  rcases ca.1 ak with ak|ak
  ·exact⟨c,ak,bh,c5⟩
  rw[gX.1 ak]at bh;exact absurd bh.symm hz
 ·rcases ca.1 ak with ak|ak
  ·exact aR cY hz c ak
  rw[gX.1 ak]
  intro e
  rw[<-e,bw]at hz;cases hz
 
 have XT:∀cY fI,cY≠h6 (fe i.bb)->dz em cY=some (some fI)->∀q,Own r.2 t q->¬Own r.2 fI q:=λcY fI cX aD q hq lf=>by
  obtain⟨A8,bS,a2,a3,a4,a5⟩:=uz cY fI cX aD;have lf:=(a4 q).1 lf;rcases kV q hq with bh|bh
  ·exact aX _ _ _ _ bw aD cX.symm q bh lf
  exact bh (bS.zY lf)
 by_cases au:cY=h6 (fe i.bb)
 ·subst au
  rw[bw]at ji;cases ji
  exact XT lj t2 cX.symm lH q j8 qH
 by_cases aW:lj=h6 (fe i.bb)
 ·subst aW
  rw[bw]at lH;cases lH
  exact XT cY t1 au ji q qH j8
 obtain⟨_,_,_,_,a4,_⟩:=uz cY t1 au ji
 obtain⟨_,_,_,_,DL,_⟩:=uz lj t2 aW lH
 exact aX _ _ _ _ ji lH cX q ((a4 q).1 j8) ((DL q).1 qH)
def afa{own:Nat->Prop}{bu h1 ad:aH Cell}{q:Nat}(hk:∀q,q∈dB bu->q∈dB h1)(dJ:∀q,q∈dB h1->q∈dB ad)(h:nZ (nZ own bu h1) h1 ad q):nZ own bu ad q:=by
 rcases h with(h|⟨h,cT⟩)|⟨h,cT⟩
 ·exact .inl h
 ·exact .inr ⟨h,dJ q cT⟩
 exact .inr ⟨λay=>h (hk q ay),cT⟩
def o2.mono{s:aS}{hp:aH Cell}{m:Nat}{l:aa aK}{own own':Nat->Prop}(h:o2 s hp m l own)(aU:∀q,own q->own' q):o2 s hp m l own':=by
 obtain⟨em,h1,ad,ay,aR,aX,jI⟩:=h.ok;exact⟨em,h1,aU m ad,λcY r aD=>by obtain⟨t,g,e,a,b,c⟩:=ay cY r aD;exact⟨t,g,e,a,λq hq=>aU q (b q hq),c⟩,aR,aX,jI⟩
def eQ.grow{bu h1 ad:aH Cell}{own:Nat->Prop}(a:eQ bu h1 own)(b:eQ h1 ad (nZ own bu h1)):eQ bu ad own:=
 a.trans b λq hq h=>h.elim (λh=>h) λh=>absurd hq h.1
def api{s:aS}{hp:aH Cell}{m:Nat}{l:aa aK}{own:Nat->Prop}(hq:o2 s hp m l own)
 {em:aa (Vector aV 4×Ref)} (ob:lu hp m=some em) {cY:Vector aV 4} (e9:dz em cY=none) {a:Nat} (a7:a∉dB hp) {z:gZ} (cy:z.hn=32) (aD:z.eU=none):
 o2 s (cr ((a,Cell.k6 z)::hp) m (.n0 (gj em cY (some a)))) m l (nZ own hp (cr ((a,Cell.k6 z)::hp) m (.n0 (gj em cY (some a)))))∧eQ hp (cr ((a,Cell.k6 z)::hp) m (.n0 (gj em cY (some a)))) own∧
  lu (cr ((a,Cell.k6 z)::hp) m (.n0 (gj em cY (some a)))) m=some (gj em cY (some a)):=by
 obtain⟨aqZ,h1,ad,ay,aR,aX,jI⟩:=hq.ok
 rw[ob]at h1;cases h1
 have j7:=o1 ob
 have abF:=FA a7 j7
 have bW:pat ((a,Cell.k6 z)::hp) m=some (.n0 em):=by rw[kJ,bn abF];exact j7
 generalize cC:cr ((a,Cell.k6 z)::hp) m (.n0 (gj em cY (some a)))=bL
 have g1:lu bL m=some (gj em cY (some a)):=by rw[<-cC];exact WG bW
 have g2:pat bL a=some (.k6 z):=by rw[<-cC,mE abF.symm,kJ,br I]
 have g3:∀q,q≠m->q≠a->pat bL q=pat hp q:=λq A7 rB=>by rw[<-cC,mE A7.symm,kJ,bn rB.symm]
 have hk:eQ hp bL own:=by
  rw[<-cC];exact(eQ.mk' (own:=own) a7).trans (eQ.up ad) λq _ h=>h
 have abG:gi bL a=some z:=vy.2 g2
 have amk:kz bL a (λ_=>none):=⟨z,abG,cy,by rw[aD];exact⟨λaZ p h=>(by rw[ha]at h;cases h),λaZ cs p h _=>(by rw[ha]at h;cases h),λaZ p h=>(by rw[ha]at h;cases h)⟩,λaZ=>by rw[aD];exact mI ha⟩
 have Q6:∀q,Own bL a q->q=a:=λq sw=>by
  rcases sw with h|⟨c,aZ,bh,c5⟩
  ·exact h
  rw[abG]at bh;cases bh;rw[aD,ha]at c5;cases c5
 have hold:∀t g,kz hp t g->kz bL t g∧∀q,Own bL t q↔Own hp t q:=λt g bw=>bw.congr λq sw=>by
  refine g3 q (λe=>?_) λe=>a7 (by rw[<-e];exact bw.zY sw);rw[<-e]at j7;rcases bw.KQ sw with⟨c,ak⟩|⟨c,ak⟩ <;> rw[ak]at j7 <;> cases j7
 refine⟨⟨_,g1,.inl ad,λlj r jL=>?_,λlj jL=>?_,λSF Ms t1 t2 ji lH cX q j8 qH=>?_,jI.put⟩,hk,g1⟩
 ·rw[vx]at jL
  by_cases e:lj=cY
  ·rw[br e]at jL;cases jL
   exact⟨a,_,rfl,amk,λq sw=>by rw[Q6 q sw];exact .inr ⟨a7,jG g2⟩,λaZ n=>⟨λh=>(by cases h),λ⟨i,ax,bh,_⟩=>absurd (bh.trans e) (aR cY e9 i ax)⟩⟩
  rw[bn e]at jL
  obtain⟨t,g,rfl,bS,a2,a3⟩:=ay lj r jL
  obtain⟨c7,dH⟩:=hold t g bS
  exact⟨t,g,rfl,c7,λq sw=>.inl (a2 q ((dH q).1 sw)),a3⟩
 ·rw[vx]at jL
  by_cases e:lj=cY
  ·rw[br e]at jL;cases jL
  rw[bn e]at jL;exact aR lj jL
 rw[vx]at ji lH
 have al:∀lj fI,dz em lj=some (some fI)->∀q,q=a->¬Own bL fI q:=λlj fI A6 q e sw=>by
  obtain⟨t,g,e',bS,_⟩:=ay lj _ A6;cases e';have:=(hold fI g bS).2 q |>.1 sw;exact a7 (by rw[<-e];exact bS.zY this)
 by_cases au:SF=cY
 ·rw[br au]at ji;cases ji
  by_cases aW:Ms=cY
  ·exact cX (au.trans aW.symm)
  rw[bn aW]at lH
  exact al Ms t2 lH q (Q6 q j8) qH
 rw[bn au]at ji
 by_cases aW:Ms=cY
 ·rw[br aW]at lH;cases lH
  exact al SF t1 ji q (Q6 q qH) j8
 rw[bn aW]at lH
 obtain⟨t,g,e',bS,_⟩:=ay SF _ ji
 cases e'
 obtain⟨fI,dm,Sb,aq1,_⟩:=ay Ms _ lH
 cases Sb
 exact aX _ _ _ _ ji lH cX q (((hold _ _ bS).2 q).1 j8) (((hold _ _ aq1).2 q).1 qH)
def aml{s:aS}(h:c6 s){hp:aH Cell}{m:Nat}{l:aa aK}{own:Nat->Prop}(hq:o2 s hp m l own)(fu:∀q,own q->q∈dB hp)(ao:kr s 1 l){i:aK}(ax:mv s 1 i)(aY:eT l i.bb=none):
 cv (EI hp ⟨0,32,⟨some m⟩⟩ i) (λhp'=>o2 s hp' m (l++[i]) (nZ own hp hp')∧eQ hp hp' own):=by
 obtain⟨em,ob,ad,ay,aR,aX,_⟩:=hq.ok
 unfold EI
 refine .eq (PT h ax.fS _) (.eq I (.eq ob (.eq I ?_)))
 simp only
 refine .bind (P:=λm1=>o2 s m1 m l (nZ own hp m1)∧eQ hp m1 own∧∃SG t,lu m1 m=some SG∧dz SG (h6 (fe i.bb))=some (some t)) (.cond (λak=>?_) λak=>.ret ?_) λm1 bW=>?_
 ·have e9:dz em (h6 (fe i.bb))=none:=by
   cases bF:dz em (h6 (fe i.bb))with
   |none=>rfl
   | some r=>
     obtain⟨t,_,rfl,_⟩:=ay _ _ bF
     rw[bF]at ak;cases ak
  unfold JV
  refine .bind (P:=λr=> ∃a,a∉dB hp∧r=((some a:Ref),(a,Cell.k6 ({(default:gZ)with hn:=32}))::hp)) (.eq I (.mk λa a7=>.ret ⟨a,a7,rfl⟩)) λbd bh=>?_
  obtain⟨a,a7,rfl⟩:=bh
  have jf:lu ((a,Cell.k6 ({(default:gZ)with hn:=32}))::hp) m=some em:=(JT (hp:=hp) (by rw[kJ,bn (FA a7 (o1 ob))])).trans ob
  obtain⟨g1,g2,g3⟩:=api hq ob e9 a7 (z:= {(default:gZ)with hn:=32}) I I
  refine .eq jf (.eq I (.ret ⟨g1,g2,_,a,g3,by rw[vx,br I]⟩))
 ·cases bF:dz em (h6 (fe i.bb))with
  |none=>rw[bF]at ak;cases ak
  | some r=>
    obtain⟨t,_,rfl,_⟩:=ay _ _ bF
    exact⟨hq.mono λq hq=>.inl hq,.refl,em,t,ob,bF⟩
 obtain⟨g1,g2,SG,t,g3,g4⟩:=bW
 refine .eq g3 (.eq I ?_)
 simp only[g4]
 refine .bind (aph h g1 (λq hq=>hq.elim (λhq=>g2.keys q (fu q hq)) λhq=>hq.2) ao ax aY g3 g4) λr aD=>.ret ?_
 exact⟨aD.1.mono λq hq=>afa g2.keys aD.2.keys hq,g2.grow aD.2⟩
def WH{hp:aH Cell}{p:Nat}{k:Cell}{x:ep}{y:aw Nat}{n:Nat}(h:pat hp p=some k):rj (cr hp p (.uJ x y n)) p=some (x,y,n):=by unfold rj;rw[rX h]
def amm{s:aS}(h:c6 s){k:Nat}(hk:k<4){hp:aH Cell}{q:Nat}{l:aa aK}{own:Nat->Prop}(hq:Cx s k hp q l own)(ao:kr s k l){i:aK}(ax:mv s k i)(jx:kg l i.cI=false)(hlen:l.length<900):
 cv (E2 hp ⟨some q⟩ i) (λhp'=>Cx s k hp' q (l++[i]) (nZ own hp hp')∧eQ hp hp' own):=by
 obtain⟨key,cap,h1,ad⟩:=hq.ok
 unfold E2
 refine .eq I (.eq h1 (.eq (ajw h hk ao.ok ax hlen) (.any λaq=>.eq I (.ret ?_))))
 rw[jx]
 exact⟨⟨aq.1,aq.2,WH (zP h1),.inl ad⟩,.up ad⟩
def amn{s:aS}(h:c6 s){k:Nat}(hk:k<4){hp:aH Cell}{f:h8}{l:aa aK}{own:Nat->Prop}(hq:tb s k hp f l own)(fu:∀q,own q->q∈dB hp)(ao:kr s k l){i:aK}(ax:mv s k i)(aY:eT l i.bb=none)(jx:kg l i.cI=false)(hlen:l.length<900):
 cv (Nz hp f i) (λhp'=>tb s k hp' f (l++[i]) (nZ own hp hp')∧eQ hp hp' own):=by
 rcases hq with⟨rfl,q,rfl,hq⟩|⟨rfl,m,rfl,hq⟩|⟨dJ,q,rfl,hq⟩
 ·exact cv.of ((apg h hq ao ax aY).mono λhp' aD=>⟨.inl ⟨rfl,q,rfl,aD.1⟩,aD.2⟩)
 ·exact(aml h hq fu ao ax aY).mono λhp' aD=>⟨.inr (.inl ⟨rfl,m,rfl,aD.1⟩),aD.2⟩
 exact(amm h hk hq ao ax jx hlen).mono λhp' aD=>⟨.inr (.inr ⟨dJ,q,rfl,aD.1⟩),aD.2⟩
def Pr{α β:Type}[DecidableEq α]:∀{l:aa (α×β)} {x:α} {v:β},dz l x=some v->(x,v)∈l
 |[],_,_,h=>by cases h
 | (k,w)::r,x,v,h=>by
   unfold dz at h;split at h
   ·rename_i e;cases h;rw[e];simp
   exact gd _ (Pr h)
def Xn{α β:Type}[DecidableEq α]:∀{l:aa (α×β)} {x:α} {v:β},l.Pairwise (λa c=>a.1≠c.1)->(x,v)∈l->dz l x=some v
 |[],_,_,_,h=>by cases h
 | (k,w)::r,x,v,aI,h=>by
   obtain⟨h1,ad⟩:=nQ.1 aI;unfold dz;rcases dO.1 h with h|h
   ·cases h;rw[br I]
   rw[bn (λe=>h1 _ h e.symm),Xn ad h]
def WI{α β:Type}[DecidableEq α]:∀{l:aa (α×β)} {x:α} {v:β},dz l x=none->gj l x v=l++[(x,v)]
 |[],_,_,_=>rfl
 | (k,w)::r,x,v,h=>by
   unfold dz at h;split at h
   ·cases h
   rename_i e;show(if x=k then _ else _)=_;rw[bn e,WI h];rfl
def wg(em:aa (Int×aK))(l:aa aK):Prop:=em.Perm (l.map λi=>(i.cI,i))
def wg.get{s:aS}{k:Nat}{em:aa (Int×aK)}{l:aa aK}(h:wg em l)(ao:nK s k l)(n:Int)(i:aK):dz em n=some i↔i∈l∧i.cI=n:=by
 have hd:em.Pairwise (λa c=>a.1≠c.1):=by
  refine(h.pairwise_iff λb2=>zp b2).2 ?_;rw[Eg];exact ao.num.imp λb2=>b2
 have hm:(n,i)∈em↔i∈l∧i.cI=n:=by
  rw[h.mem_iff,gY];constructor
  ·rintro ⟨c,ak,e⟩;cases e;exact⟨ak,rfl⟩
  rintro ⟨ax,rfl⟩;exact⟨i,ax,rfl⟩
 rw[<-hm];exact⟨Pr,Xn hd⟩
def wg.no{s:aS}{k:Nat}{em:aa (Int×aK)}{l:aa aK}(h:wg em l)(ao:nK s k l)(n:Int):(dz em n).isSome=kg l n:=by
 rw[oo,MR];unfold kg;rw[oQ];constructor
 ·rintro ⟨i,ax⟩;obtain⟨h1,ad⟩:=(h.get ao n i).1 ax;exact⟨i,h1,by simpa using ad⟩
 rintro ⟨i,ax,ad⟩;exact⟨i,(h.get ao n i).2 ⟨ax,by simpa using ad⟩⟩
structure lC(s:aS)(k:Nat)(hp:aH Cell)(p:Nat)(l:List aK)(own:Nat->Prop):Prop where
 nP:kr s k l
 cell:∃f m em,iO hp p=some ⟨q2 k,(MF s k:Int),f,⟨some m⟩⟩∧mj hp m=some em∧own p∧own m∧wg em l∧tb s k hp f l (λq=>own q∧q≠m∧q≠p)
 pg:∀q,own q->q∈dB hp
def lC.congr{s:aS}{k:Nat}{hp hp':aH Cell}{p:Nat}{l:aa aK}{own:Nat->Prop}(h:lC s k hp p l own)(hk:∀q,q∈dB hp->q∈dB hp')(a7:∀q,own q->pat hp' q=pat hp q):lC s k hp' p l own:=by
 obtain⟨f,m,em,h1,ad,ay,aR,aX,bh⟩:=h.cell;exact⟨h.nP,⟨f,m,em,by rw[afz (a7 p ay)];exact h1,by rw[afA (a7 m aR)];exact ad,ay,aR,aX,bh.congr (λq _ hq=>hq) λq hq=>a7 q hq.1⟩,λq hq=>hk q (h.pg q hq)⟩
def lC.sc{s:aS}{k:Nat}{hp hp':aH Cell}{p:Nat}{l:aa aK}{own own':Nat->Prop}(h:lC s k hp p l own)(hk:eQ hp hp' own')(hd:∀q,own q->¬own' q):lC s k hp' p l own:=
 h.congr hk.keys λq hq=>hk.rest q (h.pg q hq) (hd q hq)
def entry_eq{s:aS}(h:c6 s){k:Nat}(hk:k<4){hp:aH Cell}{p:Nat}{l:aa aK}{own:Nat->Prop}(al:lC s k hp p l own){o:aw aK}(aU:∀i,o=some i->i∈l):EV hp (some p) (nb o).1 (nb o).2=some (A5 o):=by
 obtain⟨f,m,em,h1,ad,ay,aR,aX,bh⟩:=al.cell;refine bN.get ?_;unfold EV;cases o with
 |none=>exact .cond (λ_=>.ret I) λak=>by cases ak
 | some i=>
   have ax:=aU i I
   refine .cond (λak=>by cases ak) λ_=>.eq rfl (.eq h1 (.eq rfl (.eq ad (.eq rfl ?_))))
   have bF:dz em i.cI=some i:=(aX.get al.nP.ok _ _).2 ⟨ax,rfl⟩
   show bN (Option.bind (sP ((dz em i.cI).getD default)) _) _
   rw[bF]
   exact .eq (FX h hk (al.nP.ok.ok i ax)) (.ret I)
def PU{s:aS}(h:c6 s){k:Nat}(hk:k<4){hp:aH Cell}{p:Nat}{l:aa aK}{own:Nat->Prop}(al:lC s k hp p l own){e:bp}(he:iB s k e):ze hp (some p) e=some (A5 (eT l e)):=by
 obtain⟨f,m,em,h1,ad,ay,aR,aX,bh⟩:=al.cell;refine bN.get ?_;unfold ze;refine .cond (λak=>by cases ak) λ_=>.eq rfl (.eq h1 (.eq (Y8 h hk bh al.nP he) (.eq (entry_eq h hk al λi ax=>(zF ax).1) (.ret rfl))))
def ajz{s:aS}{k:Nat}{hp:aH Cell}{p:Nat}{l:aa aK}{own:Nat->Prop}(al:lC s k hp p l own):E4 hp (some p)=some (l.length:Int):=by
 obtain⟨f,m,em,h1,ad,ay,aR,aX,bh⟩:=al.cell;have ao:em.length=l.length:=by rw[aX.length_eq,kY]
 refine bN.get ?_;unfold E4;refine .cond (λak=>by cases ak) λ_=>.eq rfl (.eq h1 (.eq rfl (.eq ad ?_)));rw[ao];first|exact .ret I|exact .eq I (.ret I)
def lC.mono{s:aS}{k:Nat}{hp:aH Cell}{p:Nat}{l:aa aK}{own own':Nat->Prop}(h:lC s k hp p l own)(aU:∀q,own q->own' q)(ax:∀q,own' q->q∈dB hp):lC s k hp p l own':=by
 obtain⟨f,m,em,h1,ad,ay,aR,aX,bh⟩:=h.cell;exact⟨h.nP,⟨f,m,em,h1,ad,aU p ay,aU m aR,aX,bh.congr (λq _ hq=>⟨aU q hq.1,hq.2⟩) λq hq=>rfl⟩,ax⟩
def kr.nil{s:aS}{k:Nat}:kr s k []:=⟨⟨λi ax=>by(cases ax),.nil,by simp⟩,.nil⟩
def DC:Nat->Prop:=λ_=>False
def ajA{s:aS}(h:c6 s){k:Nat}(hk:k<4)(hp:aH Cell):cv (B9 hp s ((k:Int)+1)) (λr=> ∃p,r.1=some p∧lC s k r.2 p [] (nZ DC hp r.2)∧eQ hp r.2 DC):=by
 refine(amg h hk hp).mono λr aD=>?_;obtain⟨p,e,aD⟩:=aD;obtain⟨c,m,h1,ad,ay,aR,aX,bh,c5,dW,fp,nE,A1,wG⟩:=aD.cell;obtain⟨Ia,ks,f,cf⟩:=c;simp only at ad ay aR bh c5 dW;subst ad ay aR;have hm:=s3 aX;have hp':=zL h1;refine⟨p,e,⟨kr.nil,⟨f,m,[],h1,aX,.inr ⟨fp,jG hp'⟩,.inr ⟨nE,jG hm⟩,IW _,?_⟩,λq hq=>hq.elim (λh=>h.elim) λh=>h.2⟩,⟨A1,λq hq _=>wG q hq⟩⟩;have key:∀q c,pat r.2 q=some c->(∀x,c≠ .lX x)->(∀x,c≠ .pH x)->q∉dB hp->nZ DC hp r.2 q∧q≠m∧q≠p:=λq c ak kn sD aI=>
  ⟨.inr ⟨aI,jG ak⟩,λe=>by rw[e,hm]at ak;cases ak;exact kn _ I,λe=>by rw[e,hp']at ak;cases ak;exact sD _ I⟩
 have:k=0∨k=1∨2<=k:=by omega
 rcases this with rfl|rfl|dJ
 ·obtain⟨q,m2,rfl,g1,g2,g3,g4⟩:=bh I;exact .inl ⟨rfl,q,rfl,⟨m2,[],g1,g2,key q _ (FZ g1) (λ_ h=>by cases h) (λ_ h=>by cases h) g3,key m2 _ (ur g2) (λ_ h=>by cases h) (λ_ h=>by cases h) g4,λcY n=>⟨λh=>(by cases h),λ⟨i,ax,_⟩=>(by cases ax)⟩,.nil⟩⟩
 ·obtain⟨m3,rfl,g1,g2⟩:=c5 I;exact .inr (.inl ⟨rfl,m3,rfl,⟨[],g1,key m3 _ (o1 g1) (λ_ h=>by cases h) (λ_ h=>by cases h) g2,λcY r h=>(by cases h),λcY _ i ax=>(by cases ax),λcY lj t fI h=>(by cases h),.nil⟩⟩)
 obtain⟨q,Ic,cap,rfl,g1,g2⟩:=dW dJ;exact .inr (.inr ⟨dJ,q,rfl,⟨Ic,cap,g1,key q _ (zP g1) (λ_ h=>by cases h) (λ_ h=>by cases h) g2⟩⟩)
def kr.snoc{s:aS}{k:Nat}{l:aa aK}(h:kr s k l){i:aK}(ax:mv s k i)(aY:eT l i.bb=none)(aI:kg l i.cI=false)(ao:l.length<900):kr s k (l++[i])where
 ok:=h.ok.snoc ax aI ao
 key:=by
  rw[Iq];exact⟨h.key,by simp,λa a7 c ak=>by rw[gX.1 ak];exact xq aY a a7⟩
def ahj{hp:aH Cell}{p:Nat}{k:Cell}{x:aa (Int×aK)}(h:pat hp p=some k):mj (cr hp p (.lX x)) p=some x:=by unfold mj;rw[rX h]
def XU(o:aw aK):(nb o).2=o.isSome:=by cases o <;> rfl
def u4(l:aa aK)(i:aK):Bool:=(eT l i.bb).isNone&& !kg l i.cI
def added(l:aa aK)(i:aK):aa aK:=if u4 l i=true then l++[i]else l
def XV{s:aS}(h:c6 s){k:Nat}(hk:k<4){hp:aH Cell}{p:Nat}{l:aa aK}{own:Nat->Prop}(al:lC s k hp p l own){i:aK}(ax:mv s k i)(hlen:l.length<900):
 cv (zi hp (some p) i) (λr=>r.1=u4 l i∧lC s k r.2 p (added l i) (nZ own hp r.2)∧eQ hp r.2 own):=by
 obtain⟨f,m,em,h1,ad,ay,aR,aX,bh⟩:=al.cell
 have hm:=s3 ad
 have hp':=zL h1
 have j7:p≠m:=λe=>by rw[e,hm]at hp';cases hp'
 have e9:=aX.no al.nP.ok i.cI
 unfold zi
 refine .cond (λak=>by cases ak) λ_=>.eq rfl (.eq h1 (.eq rfl (.eq ad (.eq rfl (.eq rfl (.eq h1 (.eq (Y8 h hk bh al.nP ax.fS) (.cond (λak=>.ret ?_) λak=>?_))))))))
 ·rw[e9,XU,oq]at ak
  have bw:u4 l i=false:=by
   unfold u4;rcases ak with ak|ak
   ·cases aY:eT l i.bb with
    |none=>rw[aY]at ak;cases ak
    |some _=>rfl
   rw[ak];simp
  refine⟨bw.symm,?_,.refl⟩
  unfold added
  rw[bw]
  exact al.mono (λq hq=>.inl hq) λq hq=>hq.elim (al.pg q) λhq=>absurd hq.2 hq.1
 rw[e9,XU,TQ]at ak
 obtain⟨c1,c2⟩:=ak
 have aY:eT l i.bb=none:=by
  cases aY:eT l i.bb with
  |none=>rfl
  |some _=>rw[aY]at c1;cases c1
 have bw:u4 l i=true:=by unfold u4;rw[aY,c2];rfl
 have bF:dz em i.cI=none:=by
  cases bF:dz em i.cI with
  |none=>rfl
  |some _=>rw[bF,c2]at e9;cases e9
 have aq:pat (cr hp m (Cell.lX (gj em i.cI i))) p=some (.pH ⟨q2 k,(MF s k:Int),f,⟨some m⟩⟩):=by rw[mE j7.symm];exact hp'
 have f1:tb s k (cr hp m (Cell.lX (gj em i.cI i))) f l (λq=>own q∧q≠m∧q≠p):=bh.congr (λq _ hq=>hq) λq hq=>mE hq.2.1.symm
 refine .eq I (.eq h1 (.eq (FX h hk ax) (.eq I (.eq ad (.eq I (.eq (by unfold iO;rw[aq]) (.bind (amn h hk f1 (λq hq=>by rw[rb];exact al.pg q hq.1) al.nP ax aY c2 hlen) λhG aD=>.ret ⟨bw.symm,?_,?_⟩)))))))
 ·obtain⟨iI,fg⟩:=aD
  have bS:pat hG p=some (.pH ⟨q2 k,(MF s k:Int),f,⟨some m⟩⟩):=by rw[fg.rest p (jG aq) (λhq=>hq.2.2 I)];exact aq
  have a2:pat hG m=some (.lX (gj em i.cI i)):=by
   have:pat (cr hp m (Cell.lX (gj em i.cI i))) m=some (.lX (gj em i.cI i)):=rX hm;rw[fg.rest m (jG this) (λhq=>hq.2.1 I)];exact this
  unfold added
  rw[br bw]
  refine⟨al.nP.snoc ax aY c2 hlen,⟨f,m,_,by unfold iO;rw[bS],by unfold mj;rw[a2],.inl ay,.inl aR,?_,iI.congr (λq _ hq=>?_) λq _=>rfl⟩,λq hq=>?_⟩
  ·unfold wg
   rw[WI bF,vl]
   exact List.Perm.append_right _ aX
  ·rcases hq with hq|⟨g1,g2⟩
   ·exact⟨.inl hq.1,hq.2⟩
   rw[rb]at g1
   exact⟨.inr ⟨g1,g2⟩,λe=>g1 (e▸jG hm),λe=>g1 (e▸jG hp')⟩
  rcases hq with hq|hq
  ·exact fg.keys q (by rw[rb];exact al.pg q hq)
  exact hq.2
 exact(eQ.up (own:=own) aR).trans aD.2 λq _ hq=>hq.1
structure mA{α:Type}(f:α->α->Int):Prop where
 neg:∀x y,f x y<0↔0<f y x
 mz:∀x y z,f x y<=0->f y z<=0->f x z<=0
def mA.self{α:Type}{f:α->α->Int}(h:mA f)(x:α):f x x=0:=by have:=h.neg x x;omega
def mA.on{α β:Type}{f:β->β->Int}(h:mA f)(g:α->β):mA (λx y=>f (g x) (g y)):=⟨λx y=>h.neg _ _,λx y z=>h.mz _ _ _⟩
def mA.rev{α:Type}{f:α->α->Int}(h:mA f):mA (λx y=>f y x):=⟨λx y=>h.neg y x,λx y z h1 ad=>h.mz z y x ad h1⟩
def kl{α:Type}(f g:α->α->Int)(x y:α):Int:=if f x y=0 then g x y else f x y
def WJ{α:Type}{f g:α->α->Int}{x y:α}(h:kl f g x y=0):f x y=0∧g x y=0:=by
 unfold kl at h;split at h
 ·rename_i e;exact⟨e,h⟩
 rename_i e;exact absurd h e
def mA.kl{α:Type}{f g:α->α->Int}(h:mA f)(k:mA g):mA (Go.Proofs.YtdadopcnkghbaaaGreat.kl f g)where
 neg x y:=by
  unfold Go.Proofs.YtdadopcnkghbaaaGreat.kl;have h1:=h.neg x y;have ad:=h.neg y x;by_cases e:f x y=0
  ·rw[br e,br (by omega)];exact k.neg x y
  rw[bn e,bn (by omega)];exact h1
 mz x y z:=by
  unfold Go.Proofs.YtdadopcnkghbaaaGreat.kl;intro h1 ad;have bS:f x y<=0:=by by_cases e:f x y=0 <;> simp[e]at h1 <;> omega
  have a2:f y z<=0:=by by_cases e:f y z=0 <;> simp[e]at ad <;> omega
  have a3:=h.mz x y z bS a2;by_cases e:f x z=0
  ·have wQ:f z x<=0:=by have:=h.neg x z;have:=h.neg z x;omega
   have c7:=h.mz z x y wQ bS;have dH:=h.mz y z x a2 wQ;have c1:f y z=0:=by have:=h.neg y z;omega
   have c2:f x y=0:=by have:=h.neg x y;omega
   rw[br c2]at h1;rw[br c1]at ad;rw[br e];exact k.mz x y z h1 ad
  rw[bn e];exact a3
def amo{x y:Int}:iJ x y<0↔x<y:=by unfold iJ;split <;> (try split) <;> omega
def Lf{x y:Int}:0<iJ x y↔y<x:=by unfold iJ;split <;> (try split) <;> omega
def Ku{x y:Int}:iJ x y=0↔x=y:=by unfold iJ;split <;> (try split) <;> omega
def r4:mA iJ:=⟨λx y=>by rw[amo,Lf],λx y z h1 ad=>by
 have a:= @Lf x y;have b:= @Lf y z;have c:= @Lf x z;omega⟩
def lc{α:Type}(g:α->α->Int):aa α->aa α->Int
 |[],[]=>0
 |[],_::_=> -1
 |_::_,[]=>1
 |a::r,b::t=>if g a b=0 then lc g r t else g a b
def XW{α:Type}{g:α->α->Int}(h:mA g):∀(x y:aa α),lc g x y<0↔0<lc g y x
 |[],[]=>by simp[lc]
 |[],_::_=>by simp[lc]
 |_::_,[]=>by simp[lc]
 | a::r,b::t=>by
   have h1:=h.neg a b;have ad:=h.neg b a;unfold lc;by_cases e:g a b=0
   ·rw[br e,br (by omega)];exact XW h r t
   rw[bn e,bn (by omega)];exact h1
def Y9{α:Type}{g:α->α->Int}(h:mA g):∀(x y z:aa α),lc g x y<=0->lc g y z<=0->lc g x z<=0
 |[],_,[],_,_=>by simp[lc]
 |[],_,_::_,_,_=>by simp[lc]
 |_::_,[],_,h1,_=>by simp[lc]at h1
 |_::_,_::_,[],_,ad=>by simp[lc]at ad
 | a::r,b::t,c::u,h1,ad=>by
   unfold lc at h1 ad⊢;have bS:g a b<=0:=by by_cases e:g a b=0 <;> simp[e]at h1 <;> omega
   have a2:g b c<=0:=by by_cases e:g b c=0 <;> simp[e]at ad <;> omega
   have a3:=h.mz a b c bS a2;by_cases e:g a c=0
   ·have wQ:g c a<=0:=by have:=h.neg a c;have:=h.neg c a;omega
    have c7:=h.mz c a b wQ bS;have dH:=h.mz b c a a2 wQ;have c1:g b c=0:=by have:=h.neg b c;omega
    have c2:g a b=0:=by have:=h.neg a b;omega
    rw[br c2]at h1;rw[br c1]at ad;rw[br e];exact Y9 h r t u h1 ad
   rw[bn e];exact a3
def Za{α:Type}{g:α->α->Int}(h:mA g):mA (lc g):=⟨XW h,Y9 h⟩
def kt(v:aV):Int:=((v.eR.toNat*18446744073709551616+v.dA.toNat:Nat):Int)
def XX{x y:aV}(h:kt x=kt y):x=y:=by
 obtain⟨a,b⟩:=x;obtain⟨c,d⟩:=y;unfold kt at h;simp only at h;first
 | (have h1:=a.isLt;have ad:=b.isLt;have ay:=c.isLt;have aR:=d.isLt
    have au:a=c:=y0 (by omega)
    have aW:b=d:=y0 (by omega)
    rw[au,aW])
def PV(x y:aV):sO x y=some (iJ (kt x) (kt y)):=by
 unfold sO;by_cases e:x=y
 ·subst e;simp only[N2,cond_true];rw[Ku.2 I]
 simp only[e,NT,cond_false,Option.bind_some];have cX:kt x≠kt y:=λh=>e (XX h);have b9:((decide (x.eR<y.eR))||((x.eR==y.eR)&&(decide (x.dA<y.dA))))=decide (kt x<kt y):=by
  rw[oo];simp only[oq,gq,fM,oT,NA];unfold kt;have h1:=x.eR.isLt;have ad:=x.dA.isLt;have ay:=y.eR.isLt;have aR:=y.dA.isLt;constructor
  ·rintro (h|⟨h,cT⟩)
   ·omega
   rw[h];omega
  intro h;by_cases b2:x.eR.toNat<y.eR.toNat
  ·exact .inl b2
  have:x.eR.toNat=y.eR.toNat:=by omega
  exact .inr ⟨y0 this,by omega⟩
 rw[b9];unfold iJ;by_cases ba:kt x<kt y
 ·simp[ba]
 rw[za ba,bn ba,br (by omega)];rfl
def oz:aa Int->Int
 |[]=>0
 |a::r=>if a=0 then oz r else a
def V1{l:aa Int}(ao:l.length<=1000):vv l=some (oz l):=by
 refine bN.get ?_;unfold vv;refine .bind (P:=λe=>(∃q,e=.inl q∧oz l=0)∨∃q:Int×Int×Int×Bool×Bool,e=.inr q∧q.1=oz l)
  (bN.qz l.length (λj st=>st=(j:Int)∧oz l=oz (l.drop j)) (by omega) ⟨rfl,rfl⟩ (λj st aC hs=>?_) (λst hs=>?_)) λe he=>?_
 ·obtain⟨rfl,hs⟩:=hs;rw[vf aC]at hs;have hs:oz l=if l[j]=0 then oz (l.drop (j+1))else l[j]:=hs;refine .cond (λ_=>.idx I aC ?_) λak=>by simp at ak;omega
  rw[fQ _ aC];refine .cond (λak=>.ret (.inr ⟨_,rfl,?_⟩)) λak=>.ret ⟨hl (by omega),?_⟩
  ·have:l[j]≠0:=by simpa using ak
   rw[hs,bn this]
  have:l[j]=0:=by simpa using ak
  rw[hs,br this]
 ·obtain⟨rfl,hs⟩:=hs;refine .cond (λak=>by simp at ak) λ_=>.ret (.inl ⟨_,rfl,?_⟩);rw[hs,w9];rfl
 rcases he with⟨q,rfl,hq⟩|⟨q,rfl,hq⟩
 ·simp only[Sum.elim_inl];exact .ret hq.symm
 simp only[Sum.elim_inr];exact .ret hq
def adm{g:ct->ct->Int}{f:ct->ct->aw Int}(aY:∀a b,f a b=some (g a b)){xs ys:aa ct}(al:xs.length<=100000)(hy:ys.length<=100000):DR xs ys f=some (lc g xs ys):=by
 refine bN.get ?_;unfold DR;refine .bind (P:=λe=>(∃q,e=.inl q∧lc g xs ys=if xs.length<ys.length then -1 else 0)∨∃q:Int×Int×Int×Bool×Bool,e=.inr q∧q.1=lc g xs ys)
  (bN.qz xs.length (λj st=>st=(j:Int)∧j<=ys.length∧lc g xs ys=lc g (xs.drop j) (ys.drop j)) (by omega) ⟨rfl,by omega,rfl⟩ (λj st aC hs=>?_) (λst hs=>?_)) λe he=>?_
 ·obtain⟨rfl,SH,hs⟩:=hs;refine .cond (λ_=>.idx I aC (.cond (λak=>.ret (.inr ⟨_,rfl,?_⟩)) λak=>?_)) λak=>by simp at ak;omega
  ·have ak:ys.length<=j:=by simpa using ak
   rw[hs,vf aC,Bm ak];rfl
  have b9:j<ys.length:=by simpa using ak
  rw[vf aC,vf b9]at hs;refine .idx I b9 (.eq (aY _ _) ?_);rw[fQ _ aC,fQ _ b9];have hs:lc g xs ys=if g xs[j] ys[j]=0 then lc g (xs.drop (j+1)) (ys.drop (j+1))else g xs[j] ys[j]:=hs;refine .cond (λak=>.ret (.inr ⟨_,rfl,?_⟩)) λak=>.ret ⟨hl (by omega),b9,?_⟩
  ·have:g xs[j] ys[j]≠0:=by simpa using ak
   rw[hs,bn this]
  have:g xs[j] ys[j]=0:=by simpa using ak
  rw[hs,br this]
 ·obtain⟨rfl,SH,hs⟩:=hs;refine .cond (λak=>by simp at ak) λ_=>.ret (.inl ⟨_,rfl,?_⟩);rw[hs,w9];cases hd:ys.drop xs.length with
  | nil=>
    have:=TR.1 hd
    rw[bn (by omega)];rfl
  | cons z Bc=>
    have:ys.length-xs.length=Bc.length+1:=by rw[<-ku,hd];rfl
    rw[br (by omega)];rfl
 rcases he with⟨q,rfl,hq⟩|⟨q,rfl,hq⟩
 ·simp only[Sum.elim_inl];refine .cond (λak=>.ret ?_) λak=>.ret ?_
  ·rw[hq,br (by simpa using ak)]
  rw[hq,bn (by simpa using ak)]
 simp only[Sum.elim_inr];exact .ret hq
def adn{g:aV->aV->Int}{f:aV->aV->aw Int}(aY:∀a b,f a b=some (g a b)){xs ys:aa aV}(al:xs.length<=100000)(hy:ys.length<=100000):DS xs ys f=some (lc g xs ys):=by
 refine bN.get ?_;unfold DS;refine .bind (P:=λe=>(∃q,e=.inl q∧lc g xs ys=if xs.length<ys.length then -1 else 0)∨∃q:Int×Int×Int×Bool×Bool,e=.inr q∧q.1=lc g xs ys)
  (bN.qz xs.length (λj st=>st=(j:Int)∧j<=ys.length∧lc g xs ys=lc g (xs.drop j) (ys.drop j)) (by omega) ⟨rfl,by omega,rfl⟩ (λj st aC hs=>?_) (λst hs=>?_)) λe he=>?_
 ·obtain⟨rfl,SH,hs⟩:=hs;refine .cond (λ_=>.idx I aC (.cond (λak=>.ret (.inr ⟨_,rfl,?_⟩)) λak=>?_)) λak=>by simp at ak;omega
  ·have ak:ys.length<=j:=by simpa using ak
   rw[hs,vf aC,Bm ak];rfl
  have b9:j<ys.length:=by simpa using ak
  rw[vf aC,vf b9]at hs;refine .idx I b9 (.eq (aY _ _) ?_);rw[fQ _ aC,fQ _ b9];have hs:lc g xs ys=if g xs[j] ys[j]=0 then lc g (xs.drop (j+1)) (ys.drop (j+1))else g xs[j] ys[j]:=hs;refine .cond (λak=>.ret (.inr ⟨_,rfl,?_⟩)) λak=>.ret ⟨hl (by omega),b9,?_⟩
  ·have:g xs[j] ys[j]≠0:=by simpa using ak
   rw[hs,bn this]
  have:g xs[j] ys[j]=0:=by simpa using ak
  rw[hs,br this]
 ·obtain⟨rfl,SH,hs⟩:=hs;refine .cond (λak=>by simp at ak) λ_=>.ret (.inl ⟨_,rfl,?_⟩);rw[hs,w9];cases hd:ys.drop xs.length with
  | nil=>
    have:=TR.1 hd
    rw[bn (by omega)];rfl
  | cons z Bc=>
    have:ys.length-xs.length=Bc.length+1:=by rw[<-ku,hd];rfl
    rw[br (by omega)];rfl
 rcases he with⟨q,rfl,hq⟩|⟨q,rfl,hq⟩
 ·simp only[Sum.elim_inl];refine .cond (λak=>.ret ?_) λak=>.ret ?_
  ·rw[hq,br (by simpa using ak)]
  rw[hq,bn (by simpa using ak)]
 simp only[Sum.elim_inr];exact .ret hq
def HK(m:ct):Int:=if m.gz=true then 1 else 0
def ajB(m:ct):BU m=some (HK m):=by
 unfold BU HK;cases m.gz <;> rfl
def wV:ct->ct->Int:=kl (λx y=>iJ (HK x) (HK y)) (kl (λx y=>iJ (kt x.bV) (kt y.bV)) (kl (λx y=>iJ (kt x.iz) (kt y.iz)) (kl (λx y=>iJ x.gh y.gh) (λx y=>iJ (kt x.mf) (kt y.mf)))))
def Zb:mA wV:=(r4.on HK).kl ((r4.on λx:ct=>kt x.bV).kl ((r4.on λx:ct=>kt x.iz).kl ((r4.on λx:ct=>x.gh).kl (r4.on λx:ct=>kt x.mf))))
def aav(a b c d e:Int):oz [a,b,c,d,e]=if a=0 then(if b=0 then(if c=0 then(if d=0 then e else d)else c)else b)else a:=by
 have:(if e=0 then 0 else e)=e:=by split <;> omega
 show(if a=0 then(if b=0 then(if c=0 then(if d=0 then(if e=0 then 0 else e)else d)else c)else b)else a)=_;rw[this]
def afB(x y:ct):EG x y=some (wV x y):=by
 unfold EG;by_cases e:x=y
 ·subst e;simp only[N2,cond_true];rw[Zb.self]
 simp only[e,NT,cond_false,ajB,vN,PV,Option.bind_some];rw[V1 (by simp),aav];rfl
def Tj:bp->bp->Int:=kl (λx y=>iJ x.cw y.cw) (kl (λx y=>iJ y.ka x.ka) (kl (λx y=>lc wV x.ck y.ck) (kl (λx y=>iJ x.dP y.dP) (λx y=>lc (λv w=>iJ (kt v) (kt w)) x.gu y.gu))))
def amp:mA Tj:=(r4.on λx:bp=>x.cw).kl ((r4.on λx:bp=>x.ka).rev.kl (((Za Zb).on λx:bp=>x.ck).kl ((r4.on λx:bp=>x.dP).kl ((Za (r4.on kt)).on λx:bp=>x.gu))))
def aiy{x y:bp}(h1:x.ck.length<=1000)(ad:y.ck.length<=1000)(ay:x.gu.length<=1000)(aR:y.gu.length<=1000):Ff x y=some (Tj x y):=by
 unfold Ff;rw[vN,vN,vN,adm afB (by omega) (by omega),adn PV (by omega) (by omega)];simp only[Option.bind_some];rw[V1 (by simp),aav];rfl
def Ce{α:Type}[Inhabited α]{xs:aa α}{k:Nat}{v:α}(hk:k<xs.length)(i:Nat):aB (ft xs k v) i=if i=k then v else aB xs i:=by
 unfold aB ft;by_cases e:i=k
 ·subst e;rw[br I];simp[hk]
 rw[bn e];simp[w3 (zp e)]
def u5{α:Type}{m:aw α}{P:α->Prop}(h:bN m P):hR m P:=λr e=>by
 obtain⟨x,h1,ad⟩:=h;rw[e]at h1;cases h1;exact ad
structure uM(s:aS):Prop where
 jm:2<=s.nk∧s.nk<=9
 act:(aB s.dg 0).hD=ByteArray.mk #[]
 yy:(aB s.fj 0).dg=[1,2,3,4,5,6]
 yN:∃g1 g2 g3,(aB s.fj 0).jD=[⟨1,true,true,[true]⟩,g1,g2,g3]
def afh(c:fr):hR (vi c) (λr=>(aB r.1 0).hD=ByteArray.mk #[]):=by
 unfold vi;iterate 13 refine .eq ?_
 refine .skip λan=>.eq (.skip λaF=>.eq (.eq (.eq (.skip λbd=>?_))));refine .bind (P:=λm=>(aB m 0).hD=ByteArray.mk #[]) (.cond (λ_=>.bind .idx λk hk=>.eq (.ret ?_)) λ_=>.ret I) λm1 h1=>.skip λbq=>.bind (P:=λm=>(aB m 0).hD=ByteArray.mk #[]) (.cond (λ_=>.bind .idx λk hk=>.eq (.ret ?_)) λ_=>.ret h1) λm2 ad=>.ret ad
 ·have:k=2:=by omega
  subst this;rfl
 have:k=4:=by omega
 subst this;by_cases ao:4<m1.length
 ·rw[Ce ao,bn (by decide)];exact h1
 exact absurd hk.2 ao
def afX(c:fr)(ak:kM c)(cM:aa bU)(ao:cM.length=4)(mS:∀k,k<4->(aB cM k).bQ.length<=1000)(ax:(aB cM 0).cd=1)(hk:(aB cM 0).bQ.length=1):
 hR (sJ c cM) (λr=>(aB r.1 0).dg=[1,2,3,4,5,6]∧∃g1 g2 g3,(aB r.1 0).jD=[⟨1,true,true,[true]⟩,g1,g2,g3]):=by
 unfold sJ
 refine .skip λ_=>.skip λ_=>.skip λbd=>.skip λbq=>?_
 refine .bind (P:=λe=>e.2.2.2.2.2.2.2.1.dg=[1,2,3,4,5,6]∧∃g1 g2 g3,e.2.2.2.2.2.2.2.2=[⟨1,true,true,[true]⟩,g1,g2,g3]) (.loop (λst=>st.2.2.2.2.2.2.1.dg=[1,2,3,4,5,6]∧∃k:Nat,st.1=(k:Int)∧k<=4∧st.2.2.2.2.2.2.2.length=k∧(0<k->aB st.2.2.2.2.2.2.2 0=⟨1,true,true,[true]⟩)) ⟨rfl,0,rfl,by omega,rfl,λh=>absurd h (by decide)⟩ λst cD=>?_) λe he=>.eq (.eq (.ret he))
 obtain⟨i,iI,g1,H8,fg,g2,kV,g3⟩:=st
 obtain⟨a7,k,au,mo,tI,bF⟩:=cD
 simp only at a7 au tI bF;subst au
 refine .cond (λp6=>?_) λp6=>.ret ⟨a7,?_⟩
 ·have ih:k<4:=by simp only[fM]at p6;omega
  refine .bind .idx λaJ cQ=>?_
  have:aJ=k:=by omega
  subst this
  refine .bind (P:=λy:aa Bool=>y.length=(aB cM aJ).bQ.length) (λy e=>?_) λbM aX=>.skip λcG=>?_
  ·unfold wm at e
   split at e
   ·cases e;simp
   cases e
  refine .bind (P:=λe=> ∀x,x<bM.length->aB e.2.2.2.1 x=true∧e.2.2.2.1.length=bM.length) (.loop (λs2=>s2.2.2.1.length=bM.length∧∃j:Nat,s2.1=(j:Int)∧j<=bM.length∧∀x,x<j->aB s2.2.2.1 x=true) ⟨rfl,0,rfl,by omega,λx al=>absurd al (by omega)⟩ λs2 wo=>?_) λaW p7=>?_
  ·obtain⟨i2,c7,dH,St⟩:=s2
   obtain⟨hb,j,aW,aC,al⟩:=wo
   simp only at hb aW al;subst aW
   refine .cond (λp6=>?_) λp6=>.ret λx wA=>?_
   ·have wu:j<bM.length:=by simp only[fM]at p6;omega
    refine .skip λdF=>.bind .idx λbE dJ=>.skip λcP=>.ret ⟨by simp[ft,hb],j+1,?_,by omega,λx wA=>?_⟩
    ·have:=mS aJ ih
     exact hl (by omega)
    have:bE=j:=by omega
    subst this
    rw[Ce (by omega)]
    by_cases e:x=bE
    ·rw[br e]
    rw[bn e];exact al x (by omega)
   simp only[mC]at p6
   exact⟨al x (by omega),hb⟩
  refine .eq (.bind FO λdC dW=>.skip λga=>.skip λm1=>.skip λhh=>.skip λm2=>.ret ⟨a7,aJ+1,hl (by omega),by omega,?_,λ_=>?_⟩)
  ·subst dW;rw[fh,tI];rfl
  subst dW
  rw[J8]
  by_cases hC:aJ=0
  ·subst hC
   rw[br tI.symm]
   rw[hk]at aX
   obtain⟨bh,c5⟩:=p7 0 (by omega)
   rw[ax]
   rw[aX]at c5
   generalize aW.2.2.2.1=l at bh c5
   cases l with
   |nil=>cases c5
   | cons a t=>
     cases t with
     |nil=>have bh:a=true:=bh;rw[bh]
     |cons _ _=>cases c5
  rw[bn (show ¬(0=g3.length) by omega)]
  exact bF (by omega)
 simp only[mC]at p6
 have mo:k=4:=by omega
 have bu:=bF (by omega)
 show ∃a b c,g3=_
 rw[mo]at tI
 match g3,tI,bu with
 |[a,b,c,d],_,bu=>exact⟨b,c,d,by have bu:a=_:=bu;rw[bu]⟩
def afC(c:fr)(ak:kM c):hR (qg c) (λr=>uM r.1):=by
 unfold qg;refine .bind (u5 (jV _ 8 ak (by omega))) λan h1=>.bind (u5 (jV _ 30 h1.1 (by omega))) λaF ad=>?_;refine .eq (.eq (.eq (.eq (.eq (.eq (.eq (.eq (.eq (.eq (.eq (.eq ?_)))))))))));refine .bind (u5 (OW _ ad.1)) λbd ay=>.bind (u5 (bN.par (ON _ ay.1) (afh _))) λbq aR=>.bind (u5 (OX _ aR.1.1)) λbM aX=>.eq (.eq ?_);obtain⟨jk,_,c7,dH,gE,aX⟩:=aX;have ao:bM.1.length=4:=by rw[<-kY (f:=jZ),aX];rfl
 have mS:∀k,k<4->(aB bM.1 k).bQ.length<=1000:=λk hk=>by
  have bu:=xp jZ (l:=bM.1) (k:=k) (by omega);rw[aX]at bu;rw[<-show _=(aB bM.1 k).bQ from ec (·.2.2) bu];have:k=0∨k=1∨k=2∨k=3:=by omega
  cases c7 <;> cases dH <;> cases gE <;> rcases this with rfl|rfl|rfl|rfl <;> decide
 have bu:=xp jZ (l:=bM.1) (k:=0) (by omega);rw[aX]at bu;have ax:(aB bM.1 0).cd=1:=(ec (·.1) bu).symm;have sq:(aB bM.1 0).bQ=[q1]:=(ec (·.2.2) bu).symm;refine .bind (afX _ jk bM.1 ao mS ax (by rw[sq];rfl)) λcG bh=>.eq (.skip λdF=>.skip λm1=>.skip λdC=>?_);have HL:2<=bo (2+an.1)∧bo (2+an.1)<=9:=by
  have:=h1.2;rw[jr (by omega) (by omega)];omega
 refine .bind (P:=λm=>uM m.1) (.cond (λ_=>.eq (.skip λy=>.ret ⟨HL,aR.2,bh.1,bh.2⟩)) λ_=>.ret ⟨HL,aR.2,bh.1,bh.2⟩) λm2 ad=>.skip λga=>.skip λaJ=>?_;refine .bind (P:=λm=>uM m.1) (.cond (λ_=>.eq (.skip λy=>.ret ⟨ad.jm,ad.act,ad.yy,ad.yN⟩)) λ_=>.ret ad) λm3 ay=>.skip λhh=>.skip λbE=>?_;refine .bind (P:=λm=>uM m.1) (.cond (λ_=>.eq (.eq (.skip λy=>.ret ⟨ay.jm,ay.act,ay.yy,ay.yN⟩))) λ_=>.ret ay) λm4 aR=>.eq (.ret ⟨aR.jm,aR.act,aR.yy,aR.yN⟩)
def Tk(i:Nat):aV:= {(default:aV)with dA:=BitVec.ofInt 64 (i:Int)}
def mB(i:Nat):bp:= {(default:bp)with cw:=1,ck:=[({(default:ct)with gz:=true,bV:=Tk i}:ct)],dP:=1}
def ajC:∀w:Fin 16,∀j:Fin 128,dx (Tk w.1) j.1=true->(j.1:Int)<yM q1:=by decide +kernel
def Zc{s:aS}(h:c6 s){w:Nat}(hw:w<16):iB s 0 (mB w):=by
 refine⟨rfl,by rw[h.Gf];rfl,λi ax=>?_,by show 0<=10;decide,λ_=>rfl⟩;rw[h.Gf]at ax⊢;have:i=0:=by have:i<1:=ax;omega
 subst this;show r3 1 (yM q1) {(default:ct)with gz:=true,bV:=Tk w};exact⟨λh=>(by cases h),λ_=>rfl,λ_ j aC ba=>ajC ⟨w,hw⟩ ⟨j,aC⟩ ba,λh=>(by cases h),λh=>(by cases h),LJ,λh=>(by cases h),λ_=>rfl,λ_=>rfl,λh=>(by cases h),λh=>(by cases h),λh=>(by cases h),λ_=>rfl⟩
def aq2{α β:Type}{f:α->β}{l:aa α}{a b c d:β}(h:l.map f=[a,b,c,d]):∃w x y z,l=[w,x,y,z]∧f w=a:=by
 match l,h with
 |[w,x,y,z],h=>exact⟨w,x,y,z,rfl,by simp at h;exact h.1⟩
def aq3{α β:Type}{f:α->β}{l:aa α}{a b c d e g:β}(h:l.map f=[a,b,c,d,e,g]):∃u v w x y z,l=[u,v,w,x,y,z]∧f u=a:=by
 match l,h with
 |[u,v,w,x,y,z],h=>exact⟨u,v,w,x,y,z,rfl,by simp at h;exact h.1⟩
def abH{α β:Type}{f:α->β}{l:aa α}{a b c:β}(h:l.map f=[a,b,c]):∃u v w,l=[u,v,w]∧f u=a:=by
 match l,h with
 |[u,v,w],h=>exact⟨u,v,w,rfl,by simp at h;exact h.1⟩
def aq4{α β:Type}{f:α->β}{l:aa α}{a b c d aj aG cx MI h3:β}(h:l.map f=[a,b,c,d,aj,aG,cx,MI,h3]):∃u v w x an aF bd bq bM,l=[u,v,w,x,an,aF,bd,bq,bM]∧f u=a∧f v=b∧f w=c∧f x=d:=by
 match l,h with
 |[u,v,w,x,an,aF,bd,bq,bM],h=>exact⟨u,v,w,x,an,aF,bd,bq,bM,rfl,by simp at h;exact⟨h.1,h.2.1,h.2.2.1,h.2.2.2.1⟩⟩
def aq5(kn sD q3 qd:ByteArray)(f5 f6 f7 f8 f9:ia)(hd:aa lR)(st:aa eO)(yO:ByteArray)(tN:aa iX)(a2 a3 a4 a5 wW:e0)(yP:ByteArray)(yQ:Int)(yR:aa aV)(yS:Int)(t2 t3 t4:bU)
    (iJ:aa gF) (yT:ByteArray) (g1 g2 g3:eA) (yU:Int) (yV:Bool) (fg kV:dc) (qc:aa eB) (jm yW:Int):aS:=
 ⟨[⟨1,kn,16⟩,⟨2,sD,16⟩,⟨3,q3,8⟩,⟨4,qd,4⟩,f5,f6,f7,f8,f9],hd,st,[⟨1,yO,[],tN,ByteArray.mk #[]⟩,a2,a3,a4,a5,wW],[⟨1,yP,[q1],[1,2,4],yQ,yR,yS,ByteArray.mk #[]⟩,t2,t3,t4],iJ,
   [⟨1,yT,[⟨1,true,true,[true]⟩,g1,g2,g3],[1,2,3,4,5,6],yU,yV⟩,fg,kV],qc,jm,yW⟩
def XY{s:aS}(hs:c6 s)(hb:uM s)(bw:(aB s.bH 0).hD=ByteArray.mk #[]):∃kn sD q3 qd f5 f6 f7 f8 f9 hd st yO tN a2 a3 a4 a5 wW yP yQ yR yS t2 t3 t4 iJ yT g1 g2 g3 yU yV fg kV qc jm yW,
 s=aq5 kn sD q3 qd f5 f6 f7 f8 f9 hd st yO tN a2 a3 a4 a5 wW yP yQ yR yS t2 t3 t4 iJ yT g1 g2 g3 yU yV fg kV qc jm yW:=by
 obtain⟨fs,hd,st,aq6,cM,iJ,rs,qc,jm,yW⟩:=s
 obtain⟨h1,ad,ay,aR,⟨c7,dH,gE,aX⟩,bh,c5⟩:=hs
 obtain⟨aJ,bE,cP,g1,g2,g3,fm⟩:=hb
 simp only at h1 aR aX bh bE cP fm bw
 obtain⟨⟨i1,kn,tT⟩,⟨i2,sD,Bh⟩,⟨i3,q3,arP⟩,⟨i4,qd,arQ⟩,f5,f6,f7,f8,f9,rfl,au,aW,cF,fv⟩:=aq4 h1
 obtain⟨⟨arR,yO,ap,tN,wN⟩,a2,a3,a4,a5,wW,rfl,jN⟩:=aq3 aR
 obtain⟨⟨arS,yP,acb,aq7,yQ,yR,yS,mz⟩,t2,t3,t4,rfl,mx⟩:=aq2 aX
 obtain⟨⟨Tl,yT,rg,Tm,yU,yV⟩,fg,kV,rfl,DM⟩:=abH bh
 simp only[Ai,vp]at au aW cF fv
 simp only[uG,vp]at jN
 simp only[jZ,vp]at mx
 obtain⟨rfl,rfl⟩:=au
 obtain⟨rfl,rfl⟩:=aW
 obtain⟨rfl,rfl⟩:=cF
 obtain⟨rfl,rfl⟩:=fv
 obtain⟨rfl,jN⟩:=jN
 obtain⟨rfl,rfl,rfl⟩:=mx
 have jN:=T0.1 jN
 subst jN
 have bE:wN=_:=bE
 have cP:Tm=_:=cP
 have fm:rg=_:=fm
 have bw:mz=_:=bw
 have DM:Tl=_:=DM
 subst bE cP fm bw DM
 exact⟨kn,sD,q3,qd,f5,f6,f7,f8,f9,hd,st,yO,tN,a2,a3,a4,a5,wW,yP,yQ,yR,yS,t2,t3,t4,iJ,yT,g1,g2,g3,yU,yV,fg,kV,qc,jm,yW,rfl⟩
def aiz{P:Nat->Prop}(h:P 0∧P 1∧P 2∧P 3∧P 4∧P 5∧P 6∧P 7∧P 8∧P 9){i:Nat}(ax:i<10):P i:=by
 have:i=0∨i=1∨i=2∨i=3∨i=4∨i=5∨i=6∨i=7∨i=8∨i=9:=by omega
 rcases this with rfl|rfl|rfl|rfl|rfl|rfl|rfl|rfl|rfl|rfl
 ·exact h.1
 ·exact h.2.1
 ·exact h.2.2.1
 ·exact h.2.2.2.1
 ·exact h.2.2.2.2.1
 ·exact h.2.2.2.2.2.1
 ·exact h.2.2.2.2.2.2.1
 ·exact h.2.2.2.2.2.2.2.1
 ·exact h.2.2.2.2.2.2.2.2.1
 exact h.2.2.2.2.2.2.2.2.2
def afY{s:aS}(hs:c6 s)(hb:uM s)(bw:(aB s.bH 0).hD=ByteArray.mk #[]){i:Nat}(ax:i<10):oU s 1 ⟨1,mB i⟩=some 0:=by
 obtain⟨kn,sD,q3,qd,f5,f6,f7,f8,f9,hd,st,yO,tN,a2,a3,a4,a5,wW,yP,yQ,yR,yS,t2,t3,t4,iJ,yT,g1,g2,g3,yU,yV,fg,kV,qc,jm,yW,rfl⟩:=XY hs hb bw;refine aiz (P:=λi=>oU _ 1 ⟨1,mB i⟩=some 0) ⟨?_,?_,?_,?_,?_,?_,?_,?_,?_,?_⟩ ax <;> kernel_rfl
def afZ{s:aS}(hs:c6 s)(hb:uM s)(bw:(aB s.bH 0).hD=ByteArray.mk #[]):oU s 1 ⟨3,{mB 0 with dP:=0}⟩=some 0:=by
 obtain⟨kn,sD,q3,qd,f5,f6,f7,f8,f9,hd,st,yO,tN,a2,a3,a4,a5,wW,yP,yQ,yR,yS,t2,t3,t4,iJ,yT,g1,g2,g3,yU,yV,fg,kV,qc,jm,yW,rfl⟩:=XY hs hb bw;kernel_rfl
def PW{hp hp':aH Cell}{root:Ref}{ws:aa Bool}{b:Bool}{p q:Nat}{c oM:eG}(bw:rf hp root)(hw:cS hp root ws=some p)(ak:cK hp p=some c)(hq:cu c.du (fx b)=some q)(p4:cK hp q=some oM)(ao:∀x,cu oM.du (fx x)=none)
 (bL:cK hp' p=some {c with du:=dS c.du (fx b) none}) (hG:∀x,x≠p->cK hp' x=cK hp x):
 ∀(aZ us:aa Bool) (r:Nat),cS hp root us=some r->us≠ws++[b]->cS hp' (some r) aZ=if us++aZ=ws++[b]then none else cS hp (some r) aZ
 | [],us,r,hu,cX=>by
   rw[ma,bn cX];rfl
 | x::xs,us,r,hu,cX=>by
   obtain⟨MJ,wK⟩:=bw.reads us r hu;by_cases kO:r=p
   ·subst kO;have Sx:=bw.inj us ws r hu hw;subst Sx;rw[ak]at wK;cases wK;rw[ix bL,ix ak];simp only;have b9:fx b<2:=by cases b <;> decide
    rw[zz _ _ b9];by_cases A3:x=b
    ·subst A3;rw[br I,hq,ha];by_cases h:xs=[]
     ·subst h;rw[br I]
     have e9: ¬us++x::xs=us++[x]:=λe=>h (by have:=Ik e;simpa using this);rw[bn e9];cases xs with
     |nil=>exact absurd I h
     |cons y ys=>rw[ix p4,ao,ha]
    have aq8: ¬fx x=fx b:=λe=>A3 (by cases x <;> cases b <;> first|rfl|cases e);have e9:∀ys,¬us++x::ys=us++[b]:=λys e=>A3 (by have:=Ik e;simpa using (List.cons.inj this).1);rw[bn aq8,bn (e9 xs)];cases e:cu c.du (fx x)with
    |none=>rw[ha,ha]
    | some nM=>
      have oD:cS hp root (us++[x])=some nM:=by rw[oY,hu,ix ak,e,qo]
      rw[PW bw hw ak hq p4 ao bL hG xs (us++[x]) nM oD (e9 []),jn,List.singleton_append,bn (e9 xs)]
   have h1:cK hp' r=some MJ:=by rw[hG r kO];exact wK
   rw[ix h1,ix wK];have apj:us++[x]≠ws++[b]:=λe=>by
    have:=M0 e I;subst this;rw[hu]at hw;cases hw;exact kO I
   cases e:cu MJ.du (fx x)with
   |none=>rw[ha,ha];split <;> rfl
   | some nM=>
     have oD:cS hp root (us++[x])=some nM:=by rw[oY,hu,ix wK,e,qo]
     rw[PW bw hw ak hq p4 ao bL hG xs (us++[x]) nM oD apj,jn,List.singleton_append]
def cut{hp hp':aH Cell}{r:Nat}{ws:aa Bool}{b:Bool}{p q:Nat}{c oM:eG}(bw:rf hp (some r))(hw:cS hp (some r) ws=some p)(ak:cK hp p=some c)(hq:cu c.du (fx b)=some q)(p4:cK hp q=some oM)(ao:∀x,cu oM.du (fx x)=none)(hu:oM.gr=false)
 (bL:cK hp' p=some {c with du:=dS c.du (fx b) none}) (hG:∀x,x≠p->cK hp' x=cK hp x):
 rf hp' (some r)∧(∀aZ,cS hp' (some r) aZ=if aZ=ws++[b]then none else cS hp (some r) aZ)∧∀aZ,cont hp' (some r) aZ=cont hp (some r) aZ:=by
 have aY:∀aZ,cS hp' (some r) aZ=if aZ=ws++[b]then none else cS hp (some r) aZ:=λaZ=>PW bw hw ak hq p4 ao bL hG aZ [] r I (by simp)
 have Sy:cS hp (some r) (ws++[b])=some q:=by rw[oY,hw,ix ak,hq,qo]
 refine⟨⟨λaZ x h=>?_,λaZ cs x h1 ad=>?_,λaZ x h=>?_⟩,aY,λaZ=>?_⟩
 ·rw[aY]at h
  split at h
  ·cases h
  obtain⟨jz,h1⟩:=bw.reads aZ x h
  by_cases e:x=p
  ·subst e;exact⟨_,bL⟩
  exact⟨jz,by rw[hG x e];exact h1⟩
 ·rw[aY]at h1 ad
  split at h1 <;> split at ad
  ·cases h1
  ·cases h1
  ·cases ad
  exact bw.inj aZ cs x h1 ad
 ·rw[aY]at h
  split at h
  ·cases h
  exact bw.dep aZ x h
 by_cases e:aZ=ws++[b]
 ·subst e
  rw[mI (by rw[aY,br I]),lT Sy p4,hu];rfl
 have A4:cS hp' (some r) aZ=cS hp (some r) aZ:=by rw[aY,bn e]
 cases h:cS hp (some r) aZ with
 |none=>rw[mI h,mI (A4.trans h)]
 | some x=>
   obtain⟨jz,h1⟩:=bw.reads aZ x h
   by_cases eq:x=p
   ·subst eq
    rw[ak]at h1;cases h1
    rw[lT h ak,lT (A4.trans h) bL]
   rw[lT h h1,lT (A4.trans h) (by rw[hG x eq];exact h1)]
structure Rw(kk hp:aH Cell)(t:Nat)(g:List Bool->Option Int)(r:Nat):Prop where
 cell:∃c,gi hp t=some c∧c.hn=32∧c.eU=some r
 tree:rf hp (some r)
 cont:∀aZ,cont hp (some r) aZ=g aZ
 keeps:eQ kk hp (Own kk t)
 own:∀aZ q,cS hp (some r) aZ=some q->Own kk t q
def empty_eq{hp:aH Cell}{p:Nat}{c:eG}(h:cK hp p=some c):BP hp (some p)=some (!c.gr&&decide (c.du=default)):=by
 refine bN.get ?_;unfold BP;refine .eq I (.eq h ?_);refine .cb (P:=λr=>r=p) (λ_=>⟨p,rfl,rfl⟩) λo h1=>?_;refine .cb (P:=λr=>r=c) (λad=>⟨c,by rw[h1 ad];exact h,rfl⟩) λc2 ad=>.ret ?_;cases hu:c.gr with
 |true=>rfl
 |false=>rw[ad (by rw[hu];rfl)]
def agD(v:aV)(n:Nat):(eC v n).length=n:=by unfold eC;simp
def agE(v:aV){i n:Nat}(h:i<=n):eC v n=eC v i++(eC v n).drop i:=by
 have:eC v i=(eC v n).take i:=by unfold eC;rw[<-List.map_take,List.take_range];congr 2;omega
 rw[this,gb]
def Kv{hp:aH Cell}{r:Ref}{v:aV}{i n:Nat}(h:i<=n){p:Nat}(hp':cS hp r (eC v n)=some p):∃q,cS hp r (eC v i)=some q:=by
 rw[agE v h,oY]at hp';cases e:cS hp r (eC v i)with
 |none=>rw[e,ha]at hp';cases hp'
 |some q=>exact⟨q,rfl⟩
def agF{hp:aH Cell}{t:Nat}{g:aa Bool->aw Int}(h:kz hp t g){n:Nat}(aI:n<=32){v:aV}(ba:∀j,j<128->dx v j=true->lead 32 n j=true){id:Int}(bF:g (eC v n)=some id):
 bN (BL hp (some t) v n) (λr=>r.1=true∧kz r.2 t (λaZ=>if aZ=eC v n then none else g aZ)∧eQ hp r.2 (Own hp t)∧∀q,Own r.2 t q->Own hp t q):=by
 obtain⟨c,ak,hb,bw,SI⟩:=h.ok
 have apk:∃p,cS hp c.eU (eC v n)=some p:=by
  cases e:cS hp c.eU (eC v n)with
  |none=>rw[<-SI,mI e]at bF;cases bF
  |some p=>exact⟨p,rfl⟩
 obtain⟨wX,nH⟩:=apk
 have amq:∃r,c.eU=some r:=by
  obtain⟨q,hq⟩:=Kv (q7 n) nH;rw[VE,qo]at hq;exact⟨q,hq⟩
 obtain⟨r,aD⟩:=amq
 rw[aD]at bw SI nH
 unfold BL
 refine .eq (XS h aI ba) ?_
 rw[bF]
 refine .cond (λak=>by cases ak) λ_=>.eq rfl (.eq ak (.eq rfl ?_))
 rw[aD]
 show bN (Option.bind (vj hp (n:Int) v (some t) _ _) _) _
 refine bN.bind (P:=λe:(aa Int×aa Ref)⊕Empty=> ∃bits ph,e=.inl (bits,ph)∧ph.length=n+1∧bits.length=n∧(∀j,j<=n->aB ph j=cS hp (some r) (eC v j))∧∀j,j<n->aB bits j=((fx (dx v (31-j)):Nat):Int))
  (Y7 ak hb v aI (λi s=> ∃bits ph,s=(bits,ph)∧ph.length=i+1∧bits.length=i∧(∀j,j<=i->aB ph j=cS hp (some r) (eC v j))∧∀j,j<i->aB bits j=((fx (dx v (31-j)):Nat):Int)) ⟨[],[some r],rfl,rfl,rfl,λj aC=>?_,λj aC=>by omega⟩ (λi s ax hs=>?_) (λs hs=>?_)) λe he=>?_
 ·have:j=0:=by omega
  subst this
  rw[VE,qo];rfl
 ·obtain⟨bits,ph,rfl,h1,ad,ay,aR⟩:=hs
  obtain⟨q,hq⟩:=Kv (show i<=n by omega) nH
  obtain⟨d,hd⟩:=bw.reads _ _ hq
  have hw:bo ((ph.length:Int)-1)=(i:Int):=by rw[jr (by omega) (by omega)];omega
  simp only[hw]
  have b9:fx (dx v (31-i))<2:=by cases dx v (31-i) <;> decide
  refine .idx I (by omega) (.eq (a:=q) (by rw[ay i (iu _)];exact hq) (.idx I b9 (.eq hd (.eq (kb _ _ (by simp;omega) (by omega)) (.eq (kb _ _ (by simp;omega) (by omega)) (.ret ⟨_,_,rfl,by simp;omega,by simp;omega,λj aC=>?_,λj aC=>?_⟩))))))
  ·rw[J8]
   by_cases lg:j=ph.length
   ·rw[br lg,show j=i+1 by omega,J0,oY,hq,ix hd,qo]
   rw[bn lg];exact ay j (by omega)
  rw[J8]
  by_cases lg:j=bits.length
  ·rw[br lg,show j=i by omega]
  rw[bn lg];exact aR j (by omega)
 ·exact⟨s.1,s.2,by obtain⟨bits,ph,rfl,_⟩:=hs;rfl,by obtain⟨bits,ph,rfl,h⟩:=hs;exact h⟩
 obtain⟨bits,ph,rfl,h1,ad,ay,aR⟩:=he
 simp only[Sum.elim_inl]
 obtain⟨d,hd⟩:=bw.reads _ _ nH
 have SB:=rT.1 hd
 have j5:cK (cr hp wX (.gP {d with gr:=false})) wX=some {d with gr:=false}:=Ci SB
 refine .idx I (by omega) (.eq (a:=wX) (by rw[ay n (iu _)];exact nH) (.eq hd (.eq I (.eq j5 (.eq I ?_)))))
 generalize cC:cr (cr hp wX (.gP {d with gr:=false})) wX (.gP {d with gr:=false,kB:=0})=cN
 have hz:=Ld hd ak
 have AF:cK cN wX=some {d with gr:=false,kB:=0}:=by rw[<-cC];exact Ci (rT.1 j5)
 have Rx:∀q,q≠wX->pat cN q=pat hp q:=λq hq=>by rw[<-cC,mE hq.symm,mE hq.symm]
 obtain⟨s1,s2⟩:=aar bw nH hd AF I λq hq=>zv (Rx q hq)
 have acd:=FH hd AF I λq hq=>zv (Rx q hq)
 have aq9:gi cN t=some c:=by rw[JR (Rx t hz.symm)];exact ak
 have Zd:Own hp t wX:=.inr ⟨c,_,ak,by rw[aD];exact nH⟩
 have dJ:eQ hp cN (Own hp t):=by
  rw[<-cC];exact(eQ.up (own:=Own hp t) Zd).trans (eQ.up Zd) λq _ h=>h
 have m0:Rw hp cN t (λaZ=>if aZ=eC v n then none else g aZ) r:=⟨⟨c,aq9,hb,aD⟩,s1,λaZ=>by
  rw[s2];by_cases e:aZ=eC v n
  ·rw[br e];simp only[br e];rfl
  rw[bn e];simp only[bn e];exact SI aZ,dJ,λaZ q hq=>.inr ⟨c,aZ,ak,by rw[aD,<-acd];exact hq⟩⟩
 have yi:bo ((n:Int)-1)=(n:Int)-1:=jr (by omega) (by omega)
 rw[yi]
 refine bN.bind (P:=λaW=>Rw hp aW.2.2 t (λaZ=>if aZ=eC v n then none else g aZ) r) (bN.qz n (λi st=> ∃hq,st=((n:Int)-1-(i:Int),hq)∧Rw hp hq t (λaZ=>if aZ=eC v n then none else g aZ) r∧∀j,j+i<=n->cS hq (some r) (eC v j)=aB ph j) (by omega) ⟨cN,by simp,m0,λj aC=>by rw[acd,ay j (by omega)]⟩ (λi st ax hs=>?_) (λst hs=>?_)) λaW p7=>?_
 ·obtain⟨hq,rfl,hm,Ry⟩:=hs
  have au:(n:Int)-1-(i:Int)=((n-1-i:Nat):Int):=by omega
  have aW:bo ((n:Int)-1-(i:Int)+1)=((n-i:Nat):Int):=by rw[jr (by omega) (by omega)];omega
  have cF:bo ((n:Int)-1-(i:Int)-1)=(n:Int)-1-((i+1:Nat):Int):=by rw[jr (by omega) (by omega)];omega
  simp only[aW,cF]
  have wB:decide ((n:Int)-1-(i:Int)>=0)=true:=by rw[fM];omega
  simp only[wB]
  have j8:=Ry (n-i) (by omega)
  have wv:=Ry (n-1-i) (by omega)
  obtain⟨aj,h0⟩:=Kv (show n-i<=n by omega) nH
  obtain⟨ab,Ma⟩:=Kv (show n-1-i<=n by omega) nH
  rw[ay _ (by omega),h0]at j8
  rw[ay _ (by omega),Ma]at wv
  obtain⟨c1,dj⟩:=hm.tree.reads _ _ j8
  obtain⟨rI,p1⟩:=hm.tree.reads _ _ wv
  refine .cb (P:=λfm=>fm=n-i) (λ_=>⟨_,xv (by omega),rfl⟩) λfm mo=>?_
  rw[mo I]
  have Sg:aB ph (n-i)=some aj:=by rw[ay _ (by omega)];exact h0
  have ara:aB ph (n-1-i)=some ab:=by rw[ay _ (by omega)];exact Ma
  refine .cb (P:=λy=>y=(!c1.gr&&decide (c1.du=default))) (λ_=>⟨_,by rw[Sg];exact empty_eq dj,rfl⟩) λbM fY=>.cond (λcy=>?_) λcy=>.ret hm
  rw[zd,fY I,gq,vh,fM]at cy
  obtain⟨bg,z2⟩:=cy
  have b9:fx (dx v (31-(n-1-i)))<2:=by cases dx v (31-(n-1-i)) <;> decide
  have amr:eC v (n-i)=eC v (n-1-i)++[dx v (31-(n-1-i))]:=by rw[<-J0,show n-1-i+1=n-i by omega]
  have tH:cu rI.du (fx (dx v (31-(n-1-i))))=some aj:=by
   rw[amr,oY,wv,ix p1,qo]at j8;exact j8
  have kk:=rT.1 p1
  refine .idx au (by omega) (.idx au (by omega) (.eq ara (.idx (aR _ (by omega)) b9 (.eq p1 (.eq I (.ret ?_))))))
  obtain⟨g1,g2,g3⟩:=cut (hp':=cr hq ab (.gP {rI with du:=dS rI.du (fx (dx v (31-(n-1-i)))) none})) hm.tree wv p1 tH dj (λx=>by rw[z2,OH];rfl) bg (Ci kk) λx al=>xk al.symm
  obtain⟨jz,bS,a2,a3⟩:=hm.cell
  have ams:=hm.own _ _ wv
  refine⟨_,rfl,⟨⟨jz,by rw[JS (Ld p1 bS)];exact bS,a2,a3⟩,g1,λaZ=>by rw[g3];exact hm.cont aZ,hm.keeps.trans (eQ.up ams) λq _ h=>h,λaZ q mw=>?_⟩,λj aC=>?_⟩
  ·rw[g2]at mw
   split at mw
   ·cases mw
   exact hm.own aZ q mw
  rw[g2,bn (λe=>by have:=ec List.length e;simp only[fh,agD,List.length_singleton]at this;omega)]
  exact Ry j (by omega)
 ·obtain⟨hq,rfl,hm,_⟩:=hs
  have wB:decide ((n:Int)-1-(n:Int)>=0)=false:=by rw[mC];omega
  simp only[wB]
  refine .cb (P:=λ_=>True) (λak=>by cases ak) λ_ _=>.cb (P:=λ_=>True) (λak=>by cases ak) λ_ _=>.cond (λak=>by cases ak) λ_=>.ret hm
 obtain⟨jw,bS,a2,a3⟩:=p7.cell
 refine .eq bS ?_
 rw[a3]
 obtain⟨MJ,wK⟩:=p7.tree.reads [] r I
 refine .eq (empty_eq wK) (.bind (P:=λm1=>kz m1 t (λaZ=>if aZ=eC v n then none else g aZ)∧eQ hp m1 (Own hp t)∧∀q,Own m1 t q->Own hp t q) (.cond (λcy=>.eq I (.ret ?_)) λ_=>.ret ?_) λm1 bW=>.ret ⟨rfl,bW⟩)
 ·rw[gq,vh,fM]at cy
  obtain⟨bg,z2⟩:=cy
  have Mo:gi (cr aW.2.2 t (.k6 {jw with eU:=none})) t=some {jw with eU:=none}:=Wz (vy.1 bS)
  refine⟨⟨_,Mo,a2,⟨λaZ p h=>(by rw[ha]at h;cases h),λaZ cs p h=>(by rw[ha]at h;cases h),λaZ p h=>(by rw[ha]at h;cases h)⟩,λaZ=>?_⟩,p7.keeps.trans (eQ.up (own:=Own hp t) (.inl I)) λq _ h=>h,λq hq=>?_⟩
  ·rw[mI ha,<-p7.cont]
   cases aZ with
   |nil=>rw[lT (p:=r) I wK,bg];rfl
   |cons b aZ=>rw[mI];rw[ix wK,z2,OH];exact ha
  rcases hq with rfl|⟨jz,aZ,c7,dH⟩
  ·exact .inl I
  rw[Mo]at c7;cases c7
  rw[ha]at dH;cases dH
 refine⟨⟨jw,bS,a2,by rw[a3];exact p7.tree,λaZ=>by rw[a3];exact p7.cont aZ⟩,p7.keeps,λq hq=>?_⟩
 rcases hq with rfl|⟨jz,aZ,c7,dH⟩
 ·exact .inl I
 rw[bS]at c7;cases c7
 rw[a3]at dH
 exact p7.own aZ q dH
def lI(hp:aH Cell):Nat->Ref->aa Int
 |0,_=>[]
 |_+1,none=>[]
 | n+1,some p=>match cK hp p with
   |none=>[]
   |some c=>(bif c.gr then [c.kB]else [])++(lI hp n (cu c.du 0)++lI hp n (cu c.du 1))
def KR{hp:aH Cell}{n p:Nat}{c:eG}(h:cK hp p=some c):lI hp (n+1) (some p)=(bif c.gr then [c.kB]else [])++(lI hp n (cu c.du 0)++lI hp n (cu c.du 1)):=by
 show(match cK hp p with |none=>[]|some c=>_)=_;rw[h]
def vz{hp:aH Cell}{p:Nat}{c:eG}(h:cK hp p=some c)(b:Bool)(aZ:aa Bool):cont hp (some p) (b::aZ)=cont hp (cu c.du (fx b)) aZ:=by
 unfold cont;rw[ix h]
def zG{hp:aH Cell}:∀{n:Nat} {r:Ref} {id:Int},id∈lI hp n r->∃aZ,cont hp r aZ=some id
 |0,_,_,h=>by cases h
 |_+1,none,_,h=>by cases h
 | n+1,some p,id,h=>by
   cases ak:cK hp p with
   | none=>
     have:lI hp (n+1) (some p)=[]:=by
      show(match cK hp p with |none=>[]|some c=>_)=_;rw[ak]
     rw[this]at h;cases h
   | some c=>
     rw[KR ak]at h
     rcases ca.1 h with h|h
     ·refine⟨[],?_⟩
      rw[lT (p:=p) I ak]
      cases hu:c.gr with
      |true=>rw[hu]at h;rw[gX.1 h];rfl
      |false=>rw[hu]at h;cases h
     rcases ca.1 h with h|h
     ·obtain⟨aZ,mw⟩:=zG h
      exact⟨false::aZ,by rw[vz ak];exact mw⟩
     obtain⟨aZ,mw⟩:=zG h
     exact⟨true::aZ,by rw[vz ak];exact mw⟩
def WK{hp:aH Cell}:∀{n:Nat} {r:Ref} {id:Int} {aZ:aa Bool},aZ.length<n->cont hp r aZ=some id->id∈lI hp n r
 |0,_,_,_,ao,_=>by omega
 |n+1,none,id,aZ,_,h=>by rw[mI ha]at h;cases h
 | n+1,some p,id,aZ,ao,h=>by
   cases ak:cK hp p with
   | none=>
     exfalso
     cases aZ with
     | nil=>
       unfold cont at h
       have:cS hp (some p) []=some p:=rfl
       rw[this]at h
       simp only[ak]at h;cases h
     | cons b aZ=>
       have:cS hp (some p) (b::aZ)=none:=by
        show(match cK hp p with |none=>none|some c=>cS hp (cu c.du (fx b)) aZ)=none;rw[ak]
       rw[mI this]at h;cases h
   | some c=>
     rw[KR ak]
     cases aZ with
     | nil=>
       rw[lT (p:=p) I ak]at h
       cases hu:c.gr with
       | true=>
         rw[hu]at h
         have:c.kB=id:=by simpa using h
         rw[this];simp
       |false=>rw[hu]at h;cases h
     | cons b aZ=>
       rw[vz ak]at h
       have kN:aZ.length<n:=by simp at ao;omega
       have:=WK kN h
       cases b
       ·exact D0 _ (M8 _ this)
       exact D0 _ (D0 _ this)
def V2{hp:aH Cell}:∀{n:Nat} {r:Ref},(∀aZ cs id,cont hp r aZ=some id->cont hp r cs=some id->aZ=cs)->(lI hp n r).Nodup
 |0,_,_=>Nw
 |_+1,none,_=>Nw
 | n+1,some p,h=>by
   cases ak:cK hp p with
   | none=>
     have:lI hp (n+1) (some p)=[]:=by
      show(match cK hp p with |none=>[]|some c=>_)=_;rw[ak]
     rw[this];exact Nw
   | some c=>
     rw[KR ak]
     have hb:∀b,(lI hp n (cu c.du (fx b))).Nodup:=λb=>V2 λaZ cs id h1 ad=>by
      have:=h (b::aZ) (b::cs) id (by rw[vz ak];exact h1) (by rw[vz ak];exact ad);simpa using this
     rw[nd,nd]
     refine⟨by cases c.gr <;> simp,⟨hb false,hb true,λa a7 jz p5 e=>?_⟩,λa a7 jz p5 e=>?_⟩
     ·subst e
      obtain⟨aZ,h1⟩:=zG a7
      obtain⟨cs,ad⟩:=zG p5
      have:=h (false::aZ) (true::cs) a (by rw[vz ak];exact h1) (by rw[vz ak];exact ad)
      simp at this
     subst e
     cases hu:c.gr with
     |false=>rw[hu]at a7;cases a7
     | true=>
       rw[hu]at a7
       have a7:a=c.kB:=gX.1 a7
       have bu:cont hp (some p) []=some a:=by rw[lT (p:=p) I ak,hu,a7];rfl
       rcases ca.1 p5 with h1|h1
       ·obtain⟨aZ,h1⟩:=zG h1
        have:=h [] (false::aZ) a bu (by rw[vz ak];exact h1)
        cases this
       obtain⟨aZ,h1⟩:=zG h1
       have:=h [] (true::aZ) a bu (by rw[vz ak];exact h1)
       cases this
def WL:∀{l m:aa Int},l.Nodup->(∀x∈l,x∈m)->l.length<=m.length
 |[],m,_,_=>q7 _
 | x::l,m,aI,h=>by
   obtain⟨h1,ad⟩:=lQ.1 aI;have al:=h x (by simp);have:=WL (m:=m.erase x) ad λy hy=>(TS λe=>h1 (by rw[<-e];exact hy)).2 (h y (by simp[hy]));rw[Tx al]at this;have hp:=TG al;simp only[List.length_cons];omega
def agG(v:aV)(n:Int):bN (Fk v n) (λ_=>True):=by
 unfold Fk;exact .cond (λ_=>.ret r1) λ_=>.cond (λ_=>.eq I (.ret r1)) λ_=>.eq I (.eq I (.ret r1))
def PX{hp:aH Cell}{t:Nat}{c:gZ}(ak:gi hp t=some c):∀(d f:Nat) (r:Ref) (aG:aV) (cx:Int) (h3:aa e8),d<f->(∀aZ p,cS hp r aZ=some p->aZ.length<d)->(∀aZ p,cS hp r aZ=some p->∃c,cK hp p=some c)->h3.length+(lI hp d r).length<=20000->
 bN (y1 f hp (some t) r aG cx h3) (λo=>o.length=h3.length+(lI hp d r).length)
 |d,0,r,aG,cx,h3,aY,_,_,_=>by omega
 |0,f+1,none,aG,cx,h3,aY,hd,aD,ao=>⟨h3,rfl,rfl⟩
 |0,f+1,some p,aG,cx,h3,aY,hd,aD,ao=>by have:=hd [] p I;simp at this
 |d+1,f+1,none,aG,cx,h3,aY,hd,aD,ao=>⟨h3,rfl,rfl⟩
 | d+1,f+1,some p,aG,cx,h3,aY,hd,aD,ao=>by
   obtain⟨e,he⟩:=aD [] p I;rw[KR he]at ao⊢;simp only[fh]at ao⊢;have tH:∀b,(∀aZ q,cS hp (cu e.du (fx b)) aZ=some q->aZ.length<d)∧∀aZ q,cS hp (cu e.du (fx b)) aZ=some q->∃c,cK hp q=some c:=λb=>⟨λaZ q hq=>by
    have:=hd (b::aZ) q (by rw[ix he];exact hq);simp at this;omega,λaZ q hq=>aD (b::aZ) q (by rw[ix he];exact hq)⟩
   show bN (cond (some p:Ref).isNone (some h3) _) _;refine .cond (λak=>by cases ak) λ_=>?_;refine .bind (P:=λy=>y.length=h3.length+(bif e.gr then [e.kB]else []).length) ?_ λan bs=>?_
   ·unfold IF;refine .eq I (.eq he ?_);cases hu:e.gr with
    | true=>
      rw[hu]at ao
      simp only[cond_true,List.length_singleton]at ao
      refine .eq (a:=h3++[{bV:=aG,zC:=cx,cd:=e.kB}]) ?_ (.ret (by simp))
      show(eh 32 h3 _).bind _=_
      rw[kb _ _ (by simp;omega) (by omega)];rfl
    |false=>exact .eq I (.ret (by simp))
   refine .eq I (.eq he (.bind (PX ak d f _ aG (bo (cx+1)) an (by omega) (tH false).1 (tH false).2 (by rw[bs];show _+_+(lI hp d (cu e.du 0)).length<=_;omega)) λaF b5=>?_));have b5:aF.length=an.length+(lI hp d (cu e.du 0)).length:=b5;refine .eq I (.eq I (.eq ak (.bind (agG _ _) λbq _=>.eq I (.bind (PX ak d f _ _ (bo (cx+1)) aF (by omega) (tH true).1 (tH true).2 (by rw[b5,bs];show _+_+_+(lI hp d (cu e.du 1)).length<=_;omega)) λcG hr=>.ret ?_))));have hr:cG.length=aF.length+(lI hp d (cu e.du 1)).length:=hr;rw[hr,b5,bs];omega
def ajD{hp:aH Cell}{t:Nat}{g:aa Bool->aw Int}(h:kz hp t g)(ax:∀aZ cs id,g aZ=some id->g cs=some id->aZ=cs)(m:aa Int)(hm:∀aZ id,g aZ=some id->id∈m)(ao:m.length<=20000):bN (BV hp (some t)) (λr=>r=0->∀aZ,g aZ=none):=by
 obtain⟨c,ak,hb,bw,bF⟩:=h.ok;have aI:(lI hp 33 c.eU).Nodup:=V2 λaZ cs id h1 ad=>ax aZ cs id (by rw[<-bF];exact h1) (by rw[<-bF];exact ad);have hle:(lI hp 33 c.eU).length<=m.length:=WL aI λx al=>by
  obtain⟨aZ,mw⟩:=zG al;exact hm aZ x (by rw[<-bF];exact mw)
 unfold BV JA Io;refine .bind (P:=λy=>y.length=(lI hp 33 c.eU).length) (.bind (P:=λy=>y.length=(lI hp 33 c.eU).length) (.bind (P:=λy=>y.length=(lI hp 33 c.eU).length) (.cond (λ_=>.eq I (.eq ak ((show bN (M9 hp (some t) c.eU default 0 []) _ from PX ak 33 c9 c.eU default 0 [] (by unfold c9;omega) (λaZ p hp=>by have:=bw.dep aZ p hp;omega) bw.reads (by simp;omega)).bind λy hy=>.ret (by simpa using hy)))) λak=>by cases ak) λy hy=>.ret hy) λy hy=>.ret hy) λy hy=>.ret λbu aZ=>?_;have bu:(lI hp 33 c.eU).length=0:=by rw[<-hy];have:(y.length:Int)=0:=bu;omega
 cases arb:g aZ with
 |none=>rfl
 | some id=>
   have SJ:cont hp c.eU aZ=some id:=by rw[bF];exact arb
   have hlen:aZ.length<33:=by
    cases aY:cS hp c.eU aZ with
    |none=>rw[mI aY]at SJ;cases SJ
    |some p=>have:=bw.dep aZ p aY;omega
   have:=WK hlen SJ
   rw[DP bu]at this;cases this
def ahk(x:ep)(n:Int)(ao:x.da.length<=1000):bN (IA x n) (λr=>(r= -1∧kg x.da n=false)∨∃i:Nat,i<x.da.length∧r=i∧(aB x.da i).cI=n∧kg x.da n=true∧∀j,j<i->(aB x.da j).cI≠n):=Y6 x n ao
def aiA{l:aa aK}{n:Int}{i:Nat}(aI:l.Pairwise λa c=>a.cI≠c.cI)(ax:i<l.length)(h:(aB l i).cI=n):
 l.take i++l.drop (i+1)=l.filter (λc=>c.cI !=n):=by
 rw[fQ _ ax]at h
 have abI:l=l.take i++l[i]::l.drop (i+1):=by rw[MX,gb]
 rw[abI,Iq]at aI
 obtain⟨h1,ad,ay⟩:=aI
 obtain⟨aR,aX⟩:=nQ.1 ad
 conv=>rhs;rw[abI]
 rw[vg,w1 (by simp[h])]
 congr 1
 ·exact(y4.2 λc ak=>by have:=ay c ak l[i] ln;rw[h]at this;simpa using this).symm
 exact(y4.2 λc ak=>by have:=aR c ak;rw[h]at this;simp;exact λe=>this e.symm).symm
def nK.filter{s:aS}{k:Nat}{l:aa aK}(h:nK s k l)(q:aK->Bool):nK s k (l.filter q)where
 ok i ax:=h.ok i (sI.1 ax).1
 num:=h.num.sublist TY
 len:=pv (Bo _ _) h.len
def agH{s:aS}{k:Nat}{l:aa aK}(ao:nK s k l)(n:Int):
 D5 (vU s k l) n=some (kg l n,vU s k (l.filter λc=>c.cI !=n)):=by
 refine bN.get ?_
 unfold D5
 obtain⟨iI,fg⟩:=ao.iq
 refine(ahk (vU s k l) n (by show(iq _ l).length<=1000;omega)).bind λan h1=>?_
 rcases h1 with⟨rfl,ad⟩|⟨j,ad,rfl,ay,aR,aX⟩
 ·have mu:kg l n=false:=by rw[<-ad];exact Ks.symm
  refine .cond (λ_=>.ret ?_) λak=>by simp at ak
  rw[mu,y4.2 λc ak=>by simpa using Xi mu c ak]
 have DA:kg l n=true:=by rw[<-aR];exact Ks.symm
 refine .cond (λak=>by simp at ak;omega) λ_=>?_
 have aC:j<(iq (jl s k) l).length:=ad
 refine .eq (a:=iq (jl s k) (l.filter λc=>c.cI !=n)) ?_ (.ret ?_)
 ·show Gy (iq (jl s k) l) _ _=_
  unfold Gy
  rw[hl (by omega),br ⟨by omega,by omega,by omega⟩]
  have Sk:(iq (jl s k) l).Pairwise λa c=>a.cI≠c.cI:=((PR l).symm.pairwise_iff λb2=>λe=>b2 e.symm).1 ao.num
  rw[<-agz (KP s k) ao.SA,<-aiA Sk aC ay]
  simp
 rw[DA];rfl
def hQ(l:aa aK)(e:bp):aa aK:=l.filter λc=> !ir c.bb e
def ra{l:aa aK}{e:bp}{c:aK}:c∈hQ l e↔c∈l∧ir c.bb e=false:=by
 unfold hQ;rw[sI];simp
def kr.hQ{s:aS}{k:Nat}{l:aa aK}(h:kr s k l)(e:bp):kr s k (Go.Proofs.YtdadopcnkghbaaaGreat.hQ l e):=
 ⟨h.ok.filter _,h.key.sublist TY⟩
def Kg{s:aS}{k:Nat}{l:aa aK}(h:kr s k l){e:bp}{i:aK}(ax:i∈l)(hk:ir i.bb e=true):hQ l e=l.filter λc=>c.cI !=i.cI:=by
 unfold hQ;refine List.filter_congr λc ak=>?_;by_cases au:c=i
 ·rw[au,hk];simp
 have h1:ir c.bb e=false:=by
  rw[Bw];intro ad;exact au (h.uniq ak ax (WB ad (by rw[PS];exact hk)))
 have ad:c.cI≠i.cI:=λad=>au (h.ok.uniq ak ax ad);rw[h1];simp[ad]
def apl{s:aS}(h:c6 s){hp:aH Cell}{q:Nat}{l:aa aK}{own:Nat->Prop}(hq:Cw s hp q l own)(ao:kr s 0 l){i:aK}(ax:i∈l):
 bN (Ev hp ⟨some q⟩ i) (λhp'=>Cw s hp' q (hQ l i.bb) own∧eQ hp hp' own):=by
 obtain⟨m,em,h1,ad,ay,aR,aX,jI⟩:=hq.ok
 have hv:=(ao.ok.ok i ax).fS
 have bF:dz em (fe i.bb)=some i.cI:=(aX _ _).2 ⟨i,ax,rfl,rfl⟩
 unfold Ev IT BO
 refine .eq (Kt (hv.LM h (by decide)).1) ?_
 refine .eq (a:=(true,cr hp m (Cell.qA (iC em (fe i.bb))))) ?_ (.ret ?_)
 ·show((nW hp q).bind _).bind _=_
  rw[h1]
  show((nt hp m).bind _).bind _=_
  rw[ad]
  show cond (!(dz em (fe i.bb)).isSome) _ _=_
  rw[bF]
  show(nW hp q).bind _=_
  rw[h1]
  show(nt hp m).bind _=_
  rw[ad];rfl
 have A7:q≠m:=λe=>by
  subst e;have:=FZ h1;rw[ur ad]at this;cases this
 refine⟨⟨m,_,by rw[OP (mE A7.symm)];exact h1,WE (ur ad),ay,aR,λcY n=>?_,jI.del⟩,.up aR⟩
 rw[Cd jI]
 by_cases hz:cY=fe i.bb
 ·rw[br hz]
  refine⟨λe=>(by cases e),λ⟨c,ak,bh,c5⟩=>?_⟩
  obtain⟨g1,g2⟩:=ra.1 ak
  rw[(HJ h (ao.ok.ok c g1).fS hv).2 (bh.trans hz)]at g2;cases g2
 rw[bn hz,aX]
 constructor
 ·rintro ⟨c,ak,bh,c5⟩
  refine⟨c,ra.2 ⟨ak,?_⟩,bh,c5⟩
  rw[Bw];intro dW
  exact hz (by rw[<-bh];exact(HJ h (ao.ok.ok c ak).fS hv).1 dW)
 rintro ⟨c,ak,bh⟩
 exact⟨c,(ra.1 ak).1,bh⟩
def apm{s:aS}(h:c6 s){hp:aH Cell}{m:Nat}{l:aa aK}{own:Nat->Prop}(hq:o2 s hp m l own)(ao:kr s 1 l){i:aK}(ax:i∈l):
 bN (Ed hp ⟨0,32,⟨some m⟩⟩ i) (λhp'=>o2 s hp' m (hQ l i.bb) own∧eQ hp hp' own):=by
 obtain⟨em,ob,ad,ay,aR,aX,jI⟩:=hq.ok
 have hv:=(ao.ok.ok i ax).fS
 have hZ:=GM h hv
 have bw:∃t,dz em (h6 (fe i.bb))=some (some t):=by
  cases bF:dz em (h6 (fe i.bb))with
  |none=>exact absurd I (aR _ bF i ax)
  |some r=>obtain⟨t,g,rfl,_⟩:=ay _ _ bF;exact⟨t,rfl⟩
 obtain⟨t,bw⟩:=bw
 obtain⟨fI,g,e,g1,g2,g3⟩:=ay _ _ bw
 cases e
 obtain⟨n,aI⟩:=w0 hZ.pre.1
 have GN:n<=32:=by have:=hZ.pre.2;omega
 have xS:=Pq hZ
 have hp':eC (aB i.bb.ck 0).bV n=lh i.bb:=by unfold lh;rw[aI];rfl
 have arc:g (lh i.bb)=some i.cI:=(g3 _ _).2 ⟨i,ax,rfl,rfl,rfl⟩
 have abJ:∀c∈l,h6 (fe c.bb)=h6 (fe i.bb)->(ir c.bb i.bb=false↔lh c.bb≠lh i.bb):=λc ak al=>by
  rw[Bw,ne_eq,DB h (ao.ok.ok c ak).fS hv];exact⟨λh1 ad=>h1 ⟨al,ad⟩,λh1 ad=>h1 ad.2⟩
 have mU:∀c∈l,h6 (fe c.bb)≠h6 (fe i.bb)->ir c.bb i.bb=false:=λc ak al=>by
  rw[Bw,ne_eq,DB h (ao.ok.ok c ak).fS hv];exact λh1=>al h1.1
 unfold Ed
 refine .eq (PT h hv _) (.eq I (.eq ob (.eq I ?_)))
 simp only[bw]
 rw[aI]at xS⊢
 refine(show bN (BL hp (some t) (aB i.bb.ck 0).bV (n:Int)) _ from agF g1 GN xS (by rw[hp'];exact arc)).bind λaF aD=>?_
 obtain⟨_,iI,fg,kV⟩:=aD
 rw[hp']at iI
 obtain⟨asI,cN⟩:=aF
 simp only at iI fg kV⊢
 have SD:∀q,Own hp t q->q≠m:=λq SE e=>by
  have:=o1 ob;rw[<-e]at this;rcases g1.KQ SE with⟨c,ak⟩|⟨c,ak⟩ <;> rw[ak]at this <;> cases this
 have j7:pat cN m=pat hp m:=fg.rest m (jG (o1 ob)) λhq=>SD m hq I
 have Rz:lu cN m=some em:=by rw[JT j7];exact ob
 have GO:∀aZ wR,(if aZ=lh i.bb then none else g aZ)=some wR↔∃c∈hQ l i.bb,h6 (fe c.bb)=h6 (fe i.bb)∧lh c.bb=aZ∧c.cI=wR:=λaZ wR=>by
  by_cases mw:aZ=lh i.bb
  ·rw[br mw];refine⟨λe=>(by cases e),λ⟨c,ak,bh,c5,_⟩=>?_⟩;obtain⟨bS,a2⟩:=ra.1 ak;exact absurd (c5.trans mw) ((abJ c bS bh).1 a2)
  rw[bn mw,g3];constructor
  ·rintro ⟨c,ak,bh,c5,dW⟩;exact⟨c,ra.2 ⟨ak,(abJ c ak bh).2 λe=>mw (c5.symm.trans e)⟩,bh,c5,dW⟩
  rintro ⟨c,ak,bh⟩;exact⟨c,(ra.1 ak).1,bh⟩
 have uz:∀cY fI,cY≠h6 (fe i.bb)->dz em cY=some (some fI)->∃dm,kz hp fI dm∧kz cN fI dm∧(∀q,Own hp fI q->own q)∧(∀q,Own cN fI q↔Own hp fI q)∧∀aZ n,dm aZ=some n↔∃c∈hQ l i.bb,h6 (fe c.bb)=cY∧lh c.bb=aZ∧c.cI=n:=λcY fI cX aD=>by
  obtain⟨aq0,dm,e,bS,a2,a3⟩:=ay cY _ aD;cases e;obtain⟨c7,dH⟩:=bS.congr (hp':=cN) λq hq=>fg.rest q (bS.zY hq) λlf=>aX _ _ _ _ bw aD cX.symm q lf hq;refine⟨dm,bS,c7,a2,dH,λaZ n=>?_⟩;rw[a3];constructor
  ·rintro ⟨c,ak,bh,c5⟩;exact⟨c,ra.2 ⟨ak,mU c ak (by rw[bh];exact cX)⟩,bh,c5⟩
  rintro ⟨c,ak,bh⟩;exact⟨c,(ra.1 ak).1,bh⟩
 have dJ:eQ hp cN own:=⟨fg.keys,λq hq e9=>fg.rest q hq λlf=>e9 (g2 q lf)⟩
 have cC:o2 s cN m (hQ l i.bb) own:=by
  refine⟨em,Rz,ad,λcY nM jL=>?_,λcY hz c ak=>aR cY hz c (ra.1 ak).1,λcY lj t1 t2 ji lH cX q j8 qH=>?_,jI⟩
  ·by_cases hz:cY=h6 (fe i.bb)
   ·subst hz;rw[bw]at jL;cases jL;exact⟨t,_,rfl,iI,λq hq=>g2 q (kV q hq),GO⟩
   obtain⟨fI,dm,e,_⟩:=ay cY nM jL;subst e;obtain⟨A8,bS,a2,a3,a4,a5⟩:=uz cY fI hz jL;exact⟨fI,A8,rfl,a2,λq hq=>a3 q ((a4 q).1 hq),a5⟩
  have fu:∀cY t1,dz em cY=some (some t1)->∀q,Own cN t1 q->Own hp t1 q:=λcY t1 ji q j8=>by
   by_cases au:cY=h6 (fe i.bb)
   ·subst au;rw[bw]at ji;cases ji;exact kV q j8
   obtain⟨_,_,_,_,a4,_⟩:=uz cY t1 au ji;exact(a4 q).1 j8
  exact aX _ _ _ _ ji lH cX q (fu cY t1 ji q j8) (fu lj t2 lH q qH)
 refine .eq Rz (.eq I ?_)
 simp only[bw]
 refine(show bN (BV cN (some t)) _ from ajD iI (λaZ cs id h1 ad=>?_) (l.map (·.cI)) (λaZ id h1=>?_) (by rw[kY];have:=ao.ok.len;omega)).bind λbd bh=>?_
 ·obtain⟨c,ak,_,c7,dH⟩:=(GO _ _).1 h1
  obtain⟨d,hd,_,d1,d2⟩:=(GO _ _).1 ad
  have:=ao.ok.uniq (ra.1 ak).1 (ra.1 hd).1 (dH.trans d2.symm)
  rw[<-c7,<-d1,this]
 ·obtain⟨c,ak,_,c7,dH⟩:=(GO _ _).1 h1
  exact gY.2 ⟨c,(ra.1 ak).1,dH⟩
 refine .bind (P:=λhp'=>o2 s hp' m (hQ l i.bb) own∧eQ hp hp' own) (.cond (λcy=>.eq I (.ret ?_)) λ_=>.ret ⟨cC,dJ⟩) λm1 bW=>.ret bW
 have bh:=bh (by simpa using cy)
 have Da:=o1 Rz
 have RA:∀fI dm,kz cN fI dm->kz (cr cN m (Cell.n0 (iC em (h6 (fe i.bb))))) fI dm∧∀q,Own (cr cN m (Cell.n0 (iC em (h6 (fe i.bb))))) fI q↔Own cN fI q:=λfI dm A6=>A6.congr λq sw=>mE λe=>by
  rw[e]at Da;rcases A6.KQ sw with⟨c,ak⟩|⟨c,ak⟩ <;> rw[ak]at Da <;> cases Da
 refine⟨⟨_,WG Da,ad,λcY nM jL=>?_,λcY hz c ak=>?_,λcY lj t1 t2 ji lH cX q j8 qH=>?_,jI.del⟩,dJ.trans (eQ.up ad) λq _ hq=>hq⟩
 ·rw[Cd jI]at jL
  split at jL
  ·cases jL
  rename_i hz
  obtain⟨fI,dm,e,_⟩:=ay cY nM jL
  subst e
  obtain⟨A8,bS,a2,a3,a4,a5⟩:=uz cY fI hz jL
  obtain⟨c7,dH⟩:=RA fI A8 a2
  exact⟨fI,A8,rfl,c7,λq hq=>a3 q ((a4 q).1 ((dH q).1 hq)),a5⟩
 ·rw[Cd jI]at hz
  split at hz
  ·rename_i e
   intro al
   have:=(GO _ _).2 ⟨c,ak,al.trans e,rfl,rfl⟩
   rw[bh]at this;cases this
  exact aR cY hz c (ra.1 ak).1
 rw[Cd jI]at ji lH
 split at ji
 ·cases ji
 split at lH
 ·cases lH
 rename_i au aW
 obtain⟨aqV,bS,a2,a3,a4,_⟩:=uz cY t1 au ji
 obtain⟨aqW,c7,dH,gE,DL,_⟩:=uz lj t2 aW lH
 exact aX _ _ _ _ ji lH cX q ((a4 q).1 (((RA t1 _ a2).2 q).1 j8)) ((DL q).1 (((RA t2 _ dH).2 q).1 qH))
def srem{s:aS}{k:Nat}{hp:aH Cell}{q:Nat}{l:aa aK}{own:Nat->Prop}(hq:Cx s k hp q l own)(ao:kr s k l){i:aK}(ax:i∈l):
 cv (Ex hp ⟨some q⟩ i) (λhp'=>Cx s k hp' q (hQ l i.bb) own∧eQ hp hp' own):=by
 obtain⟨key,cap,h1,ad⟩:=hq.ok
 unfold Ex
 refine .eq I (.eq h1 (.eq (agH ao.ok _) (.any λaq=>.eq I (.ret ?_))))
 rw[Kg ao ax (FP _)]
 exact⟨⟨aq.1,aq.2,WH (zP h1),ad⟩,.up ad⟩
def apn{s:aS}(h:c6 s){k:Nat}{hp:aH Cell}{f:h8}{l:aa aK}{own:Nat->Prop}(hq:tb s k hp f l own)(ao:kr s k l){i:aK}(ax:i∈l):
 cv (Nl hp f i) (λhp'=>tb s k hp' f (hQ l i.bb) own∧eQ hp hp' own):=by
 rcases hq with⟨rfl,q,rfl,hq⟩|⟨rfl,m,rfl,hq⟩|⟨dJ,q,rfl,hq⟩
 ·exact cv.of ((apl h hq ao ax).mono λhp' aD=>⟨.inl ⟨rfl,q,rfl,aD.1⟩,aD.2⟩)
 ·exact cv.of ((apm h hq ao ax).mono λhp' aD=>⟨.inr (.inl ⟨rfl,m,rfl,aD.1⟩),aD.2⟩)
 exact(srem hq ao ax).mono λhp' aD=>⟨.inr (.inr ⟨dJ,q,rfl,aD.1⟩),aD.2⟩
def Vm{α β:Type}[DecidableEq α]:∀{l:aa (α×β)} {x:α},oN l->iC l x=l.filter λa=>decide (a.1≠x)
 |[],_,_=>rfl
 | (k,w)::r,x,h=>by
   obtain⟨h1,ad⟩:=nQ.1 h;unfold iC;by_cases e:x=k
   ·rw[br e,w1 (by simp[e])];exact(y4.2 λa a7=>by simpa using λe'=>h1 a a7 (by rw[<-e,e'])).symm
   rw[bn e,Bl (by simpa using λe'=>e e'.symm),Vm ad]
def wg.kT{s:aS}{k:Nat}{em:aa (Int×aK)}{l:aa aK}(h:wg em l)(ao:nK s k l):oN em:=by
 refine(h.pairwise_iff λb2=>zp b2).2 ?_;rw[Eg];exact ao.num.imp λb2=>b2
def agI{s:aS}(h:c6 s){k:Nat}(hk:k<4){hp:aH Cell}{p:Nat}{l:aa aK}{own:Nat->Prop}(al:lC s k hp p l own){e:bp}(he:iB s k e):
 cv (EJ hp (some p) e) (λr=>(r.1,r.2.1)=A5 (eT l e)∧lC s k r.2.2 p (hQ l e) own∧eQ hp r.2.2 own):=by
 obtain⟨f,m,em,h1,ad,ay,aR,aX,bh⟩:=al.cell
 have hm:=s3 ad
 have hp':=zL h1
 have j7:p≠m:=λe=>by rw[e,hm]at hp';cases hp'
 unfold EJ
 refine .eq (PU h hk al he) ?_
 refine .bind (P:=λm1=>lC s k m1 p (hQ l e) own∧eQ hp m1 own) (.cond (λak=>?_) λak=>.ret ?_) λm1 bW=>.ret ⟨rfl,bW⟩
 ·cases aY:eT l e with
  |none=>rw[aY]at ak;cases ak
  | some i=>
    obtain⟨ax,yp⟩:=zF aY
    have A9:hQ l i.bb=hQ l e:=by
     rw[Kg al.nP ax (FP _),Kg al.nP ax yp]
    refine .eq I (.eq h1 (.bind (apn h bh al.nP ax) λcN aD=>?_))
    obtain⟨iI,fg⟩:=aD
    have iI:tb s k cN f (hQ l i.bb) (λq=>own q∧q≠m∧q≠p):=iI
    rw[A9]at iI
    show cv (ai.bind (ai.of (iO cN p)) λc2=>ai.bind (ai.of c2.oV.p) λcc=>ai.bind (ai.of (mj cN cc)) λet=>ai.bind (ai.of (some (cr cN cc (Cell.lX (iC et i.cI))))) λbL=>ai.ret bL) _
    have bS:pat cN p=some (.pH ⟨q2 k,(MF s k:Int),f,⟨some m⟩⟩):=by rw[fg.rest p (jG hp') (λhq=>hq.2.2 I)];exact hp'
    have a2:pat cN m=some (.lX em):=by rw[fg.rest m (jG hm) (λhq=>hq.2.1 I)];exact hm
    refine .eq (by unfold iO;rw[bS]) (.eq I (.eq (by unfold mj;rw[a2]) (.eq I (.ret ?_))))
    have ard:eQ hp cN own:=⟨fg.keys,λq hq e9=>fg.rest q hq λh=>e9 h.1⟩
    have sq:eQ hp (cr cN m (Cell.lX (iC em i.cI))) own:=ard.trans (eQ.up (own:=own) aR) λq _ hq=>hq
    refine⟨⟨al.nP.hQ e,⟨f,m,_,by unfold iO;rw[mE j7.symm,bS],ahj a2,ay,aR,?_,iI.congr (λq _ hq=>hq) λq hq=>mE hq.2.1.symm⟩,λq hq=>sq.keys q (al.pg q hq)⟩,sq⟩
    unfold wg
    rw[Vm (aX.kT al.nP.ok),Kg al.nP ax yp]
    refine(aX.filter _).trans ?_
    rw[List.filter_map]
    have:((λa:Int×aK=>decide (a.1≠i.cI)) ∘ λc:aK=>(c.cI,c))=λc=>c.cI !=i.cI:=by
     funext c;show decide (c.cI≠i.cI)=_;by_cases e:c.cI=i.cI <;> simp[e]
    rw[this]
 have aY:eT l e=none:=by
  cases aY:eT l e with
  |none=>rfl
  |some i=>rw[aY]at ak;cases ak
 have:hQ l e=l:=by
  unfold hQ;exact y4.2 λc ak=>by rw[xq aY c ak];rfl
 rw[this]
 exact⟨al,.refl⟩
def V3{α:Type}{m:aw α}{d:α}(h:m.isSome=true):m=some (m.getD d):=by cases m with |none=>cases h|some _=>rfl
def DD:fr:=(xi ([]:aa (BitVec 8)) 0).getD default
def Ql:xi ([]:aa (BitVec 8)) 0=some DD:=V3 (by kernel_rfl)
def abK:aS×fr:=(qg DD).getD default
def KS:qg DD=some abK:=V3 (by kernel_rfl)
def sx:aS:=abK.1
def ajE:c6 sx:=((Vz DD ((PQ [] 0 (by decide) (by decide)).of_eq Ql)).of_eq KS).1
def apo(Ia:Nat):dn:= {bO:=ByteArray.mk #[97],iy:=4,cn:=(Ia:Int)}
def acb(Ia:Nat):aS:= {sx with bH:=ft sx.bH 0 ({(aB sx.bH 0)with bQ:=[apo Ia]}:bU)}
def wY(w:Nat):aV:= {(default:aV)with dA:=BitVec.ofNat 64 w}
def dR:Vector aV 4:=default
def rC(t:bU):eA:=⟨t.cd,true,true,t.bQ.map λ_=>true⟩
structure Db(s:aS):Prop where
 jm:2<=s.nk∧s.nk<=9
 act:(aB s.dg 0).hD=ByteArray.mk #[]∧(aB s.dg 3).hD=ByteArray.mk #[]
 yy:(aB s.fj 0).dg=[1,2,3,4,5,6]
 yN:∃g2 g3,(aB s.fj 0).jD=[rC (aB s.bH 0),rC (aB s.bH 1),g2,g3]
def afi(c:fr):hR (vi c) (λr=>(aB r.1 0).hD=ByteArray.mk #[]∧(aB r.1 3).hD=ByteArray.mk #[]):=by
 unfold vi;iterate 13 refine .eq ?_
 refine .skip λan=>.eq (.skip λaF=>.eq (.eq (.eq (.skip λbd=>?_))));refine .bind (P:=λm=>(aB m 0).hD=ByteArray.mk #[]∧(aB m 3).hD=ByteArray.mk #[]) (.cond (λ_=>.bind .idx λk hk=>.eq (.ret ?_)) λ_=>.ret ⟨rfl,rfl⟩) λm1 h1=>.skip λbq=>.bind (P:=λm=>(aB m 0).hD=ByteArray.mk #[]∧(aB m 3).hD=ByteArray.mk #[]) (.cond (λ_=>.bind .idx λk hk=>.eq (.ret ?_)) λ_=>.ret h1) λm2 ad=>.ret ad
 ·have:k=2:=by omega
  subst this;exact⟨rfl,rfl⟩
 have:k=4:=by omega
 subst this;by_cases ao:4<m1.length
 ·rw[Ce ao,Ce ao,bn (by decide),bn (by decide)];exact h1
 exact absurd hk.2 ao
def Ze:∀(l:aa Bool) (n:Nat),l.length=n->(∀x,x<n->aB l x=true)->l=List.replicate n true
 |[],n,h,_=>by cases h;rfl
 |a::t,0,h,_=>by cases h
 | a::t,n+1,h,al=>by
   have bu:a=true:=al 0 (by omega);rw[bu,Ze t n (by simpa using h) λx abe=>al (x+1) (by omega)];rfl
def af0(c:fr)(cM:aa bU)(ao:cM.length=4)(mS:∀k,k<4->(aB cM k).bQ.length<=1000):
 hR (sJ c cM) (λr=>(aB r.1 0).dg=[1,2,3,4,5,6]∧∃g2 g3,(aB r.1 0).jD=[rC (aB cM 0),rC (aB cM 1),g2,g3]):=by
 unfold sJ
 refine .skip λ_=>.skip λ_=>.skip λbd=>.skip λbq=>?_
 refine .bind (P:=λe=>e.2.2.2.2.2.2.2.1.dg=[1,2,3,4,5,6]∧∃g2 g3,e.2.2.2.2.2.2.2.2=[rC (aB cM 0),rC (aB cM 1),g2,g3]) (.loop (λst=>st.2.2.2.2.2.2.1.dg=[1,2,3,4,5,6]∧∃k:Nat,st.1=(k:Int)∧k<=4∧st.2.2.2.2.2.2.2.length=k∧∀j,j<k->aB st.2.2.2.2.2.2.2 j=rC (aB cM j)) ⟨rfl,0,rfl,by omega,rfl,λj h=>absurd h (by omega)⟩ λst cD=>?_) λe he=>.eq (.eq (.ret he))
 obtain⟨i,iI,g1,H8,fg,g2,kV,g3⟩:=st
 obtain⟨a7,k,au,mo,tI,bF⟩:=cD
 simp only at a7 au tI bF;subst au
 refine .cond (λp6=>?_) λp6=>.ret ⟨a7,?_⟩
 ·have ih:k<4:=by simp only[fM]at p6;omega
  refine .bind .idx λaJ cQ=>?_
  have:aJ=k:=by omega
  subst this
  refine .bind (P:=λy:aa Bool=>y.length=(aB cM aJ).bQ.length) (λy e=>?_) λbM aX=>.skip λcG=>?_
  ·unfold wm at e
   split at e
   ·cases e;simp
   cases e
  refine .bind (P:=λe=>e.2.2.2.1=List.replicate bM.length true) (.loop (λs2=>s2.2.2.1.length=bM.length∧∃j:Nat,s2.1=(j:Int)∧j<=bM.length∧∀x,x<j->aB s2.2.2.1 x=true) ⟨rfl,0,rfl,by omega,λx al=>absurd al (by omega)⟩ λs2 wo=>?_) λaW p7=>?_
  ·obtain⟨i2,c7,dH,St⟩:=s2
   obtain⟨hb,j,aW,aC,al⟩:=wo
   simp only at hb aW al;subst aW
   refine .cond (λp6=>?_) λp6=>.ret ?_
   ·have wu:j<bM.length:=by simp only[fM]at p6;omega
    refine .skip λdF=>.bind .idx λbE dJ=>.skip λcP=>.ret ⟨by simp[ft,hb],j+1,?_,by omega,λx wA=>?_⟩
    ·have:=mS aJ ih
     exact hl (by omega)
    have:bE=j:=by omega
    subst this
    rw[Ce (by omega)]
    by_cases e:x=bE
    ·rw[br e]
    rw[bn e];exact al x (by omega)
   simp only[mC]at p6
   exact Ze dH _ hb λx wA=>al x (by omega)
  refine .eq (.bind FO λdC dW=>.skip λga=>.skip λm1=>.skip λhh=>.skip λm2=>.ret ⟨a7,aJ+1,hl (by omega),by omega,?_,λj aC=>?_⟩)
  ·subst dW;rw[fh,tI];rfl
  subst dW
  rw[J8]
  by_cases hC:j=aJ
  ·subst hC
   rw[br tI.symm,p7,aX]
   unfold rC
   rw[List.map_const']
  rw[bn (show ¬(j=g3.length) by omega)]
  exact bF j (by omega)
 simp only[mC]at p6
 have mo:k=4:=by omega
 have bu:=bF 0 (by omega)
 have h1:=bF 1 (by omega)
 show ∃a b,g3=_
 rw[mo]at tI
 match g3,tI,bu,h1 with
 |[a,b,c,d],_,bu,h1=>exact⟨c,d,by have bu:a=_:=bu;have h1:b=_:=h1;rw[bu,h1]⟩
def afD(c:fr)(ak:kM c):hR (qg c) (λr=>Db r.1):=by
 unfold qg;refine .bind (u5 (jV _ 8 ak (by omega))) λan h1=>.bind (u5 (jV _ 30 h1.1 (by omega))) λaF ad=>?_;refine .eq (.eq (.eq (.eq (.eq (.eq (.eq (.eq (.eq (.eq (.eq (.eq ?_)))))))))));refine .bind (u5 (OW _ ad.1)) λbd ay=>.bind (u5 (bN.par (ON _ ay.1) (afi _))) λbq aR=>.bind (u5 (OX _ aR.1.1)) λbM aX=>.eq (.eq ?_);obtain⟨jk,_,c7,dH,gE,aX⟩:=aX;have ao:bM.1.length=4:=by rw[<-kY (f:=jZ),aX];rfl
 have mS:∀k,k<4->(aB bM.1 k).bQ.length<=1000:=λk hk=>by
  have bu:=xp jZ (l:=bM.1) (k:=k) (by omega);rw[aX]at bu;rw[<-show _=(aB bM.1 k).bQ from ec (·.2.2) bu];have:k=0∨k=1∨k=2∨k=3:=by omega
  cases c7 <;> cases dH <;> cases gE <;> rcases this with rfl|rfl|rfl|rfl <;> decide
 refine .bind (af0 _ bM.1 ao mS) λcG bh=>.eq (.skip λdF=>.skip λm1=>.skip λdC=>?_);have HL:2<=bo (2+an.1)∧bo (2+an.1)<=9:=by
  have:=h1.2;rw[jr (by omega) (by omega)];omega
 refine .bind (P:=λm=>Db m.1) (.cond (λ_=>.eq (.skip λy=>.ret ⟨HL,aR.2,bh.1,bh.2⟩)) λ_=>.ret ⟨HL,aR.2,bh.1,bh.2⟩) λm2 ad=>.skip λga=>.skip λaJ=>?_;refine .bind (P:=λm=>Db m.1) (.cond (λ_=>.eq (.skip λy=>.ret ⟨ad.jm,ad.act,ad.yy,ad.yN⟩)) λ_=>.ret ad) λm3 ay=>.skip λhh=>.skip λbE=>?_;refine .bind (P:=λm=>Db m.1) (.cond (λ_=>.eq (.eq (.skip λy=>.ret ⟨ay.jm,ay.act,ay.yy,ay.yN⟩))) λ_=>.ret ay) λm4 aR=>.eq (.ret ⟨aR.jm,aR.act,aR.yy,aR.yN⟩)
def h4(w:Nat):bp:= {(default:bp)with cw:=1,ck:=[({(default:ct)with gz:=true,bV:=wY w}:ct)],dP:=1}
def wZ(l:aa dn):aa ct:=l.map λk=>({(default:ct)with gz:=(k.cn==(1:Int))}:ct)
def iU(b:Bool)(w:Nat):bp:= {(default:bp)with cw:=2,dP:=4,gu:=[wY w],ck:=wZ (lW b)}
def gone(e:bp):bp:= {e with dP:=0,gu:=[]}
def ajF:∀w:Fin 16,∀j:Fin 128,dx (wY w.1) j.1=true->(j.1:Int)<yM q1:=by decide +kernel
def iB.gone{s:aS}{k:Nat}{e:bp}(h:iB s k e):iB s k (Go.Proofs.YtdadopcnkghbaaaGreat.gone e):=⟨h.lF,h.len,h.A2,by show 0<=10;decide,h.pri⟩
def Q7{s:aS}(h:c6 s){w:Nat}(hw:w<16):iB s 0 (h4 w):=by
 refine⟨rfl,by rw[h.Gf];rfl,λi ax=>?_,by show 0<=10;decide,λ_=>rfl⟩;rw[h.Gf]at ax⊢;have:i=0:=by have:i<1:=ax;omega
 subst this;show r3 1 (yM q1) {(default:ct)with gz:=true,bV:=wY w};exact⟨λh=>(by cases h),λ_=>rfl,λ_ j aC ba=>ajF ⟨w,hw⟩ ⟨j,aC⟩ ba,λh=>(by cases h),λh=>(by cases h),LJ,λh=>(by cases h),λ_=>rfl,λ_=>rfl,λh=>(by cases h),λh=>(by cases h),λh=>(by cases h),λ_=>rfl⟩
def aaw:r3 2 (yM yL) (default:ct):=by
 have bu:∀j,dx (default:ct).bV j=false:=λj=>Xg j;exact⟨λ_=>rfl,λh=>(by cases h),λh=>(by cases h),λh=>(by cases h),λh=>(by cases h),LJ,λ_ h=>(by cases h),λ_=>rfl,λ_=>rfl,λ_ h=>(by cases h),λh=>(by cases h),λ_ j _ ba=>(by rw[bu]at ba;cases ba),λ_=>rfl⟩
def apq:r3 1 (yM ME) {(default:ct)with gz:=true}:=by
 have bu:∀j,dx ({(default:ct)with gz:=true}:ct).bV j=false:=λj=>Xg j;exact⟨λh=>(by cases h),λ_=>rfl,λ_ j _ ba=>(by rw[bu]at ba;cases ba),λh=>(by cases h),λh=>(by cases h),LJ,λh=>(by cases h),λ_=>rfl,λ_=>rfl,λh=>(by cases h),λh=>(by cases h),λh=>(by cases h),λ_=>rfl⟩
def Q8{s:aS}{b:Bool}(h:(aB s.bH 1).bQ=lW b)(w:Nat):iB s 1 (iU b w):=by
 refine⟨rfl,by rw[h];show(wZ (lW b)).length=_;unfold wZ;rw[kY],λi ax=>?_,by show 1<=10;decide,λ_=>rfl⟩;rw[h]at ax⊢;cases b with
 | false=>
   have:i=0:=by have:i<1:=ax;omega
   subst this
   exact aaw
 | true=>
   have:i=0∨i=1:=by have:i<2:=ax;omega
   rcases this with rfl|rfl
   ·exact aaw
   exact apq
def apr{α β:Type}{f:α->β}{l:aa α}{a b c d aj aG cx MI h3:β}(h:l.map f=[a,b,c,d,aj,aG,cx,MI,h3]):∃u v w x an aF bd bq bM,l=[u,v,w,x,an,aF,bd,bq,bM]∧f u=a∧f v=b∧f w=c∧f x=d∧f an=aj∧f aF=aG∧f bd=cx∧f bq=MI∧f bM=h3:=by
 match l,h with
 |[u,v,w,x,an,aF,bd,bq,bM],h=>exact⟨u,v,w,x,an,aF,bd,bq,bM,rfl,by simpa using h⟩
def aps{α β:Type}{f:α->β}{l:aa α}{a b c d e g:β}(h:l.map f=[a,b,c,d,e,g]):∃u v w x y z,l=[u,v,w,x,y,z]∧f u=a∧f v=b∧f w=c∧f x=d:=by
 match l,h with
 |[u,v,w,x,y,z],h=>exact⟨u,v,w,x,y,z,rfl,by simp at h;exact⟨h.1,h.2.1,h.2.2.1,h.2.2.2.1⟩⟩
def apt{α β:Type}{f:α->β}{l:aa α}{a b c d:β}(h:l.map f=[a,b,c,d]):∃w x y z,l=[w,x,y,z]∧f w=a∧f x=b:=by
 match l,h with
 |[w,x,y,z],h=>exact⟨w,x,y,z,rfl,by simp at h;exact⟨h.1,h.2.1⟩⟩
def are{α β:Type}{f:α->β}{l:aa α}{a:β}(h:l.map f=[a]):∃w,l=[w]∧f w=a:=by
 match l,h with
 |[w],h=>exact⟨w,rfl,by simp at h;exact h⟩
def Dc(s:aS)(b:Bool)(w:Nat):Bool:=
 decide (oU s 1 ⟨1,h4 w⟩=some 0)&&decide (oU s 1 ⟨1,iU b w⟩=some 0)&&decide (oU s 1 ⟨3,gone (h4 w)⟩=some 0)&&decide (oU s 1 ⟨3,gone (iU b w)⟩=some 0)&&decide (B2 s (h4 w)=some true)
def abL{P:Nat->Prop}(h:(P 0∧P 1∧P 2∧P 3∧P 4∧P 5∧P 6∧P 7)∧P 8∧P 9∧P 10∧P 11∧P 12∧P 13∧P 14∧P 15){i:Nat}(ax:i<16):P i:=by
 obtain⟨⟨a0,bS,a2,a3,a4,a5,wW,as9⟩,wQ,c7,dH,gE,DL,ata,atb,atc⟩:=h;have:i=0∨i=1∨i=2∨i=3∨i=4∨i=5∨i=6∨i=7∨i=8∨i=9∨i=10∨i=11∨i=12∨i=13∨i=14∨i=15:=by omega
 rcases this with rfl|rfl|rfl|rfl|rfl|rfl|rfl|rfl|rfl|rfl|rfl|rfl|rfl|rfl|rfl|rfl <;> assumption
def aax{α:Type}{l:aa α}(h:l.length=3):∃u v w,l=[u,v,w]:=by
 match l,h with
 |[u,v,w],h=>exact⟨u,v,w,rfl⟩
def amt{s:aS}(hs:c6 s)(ak:Db s)(Mt:(aB s.bH 0).hD=ByteArray.mk #[])(ji:(aB s.bH 1).hD=ByteArray.mk #[]){b:Bool}(hb:(aB s.bH 1).bQ=lW b){w:Nat}(hw:w<16):Dc s b w=true:=by
 obtain⟨fs,hd,st,aq6,cM,iJ,rs,qc,jm,yW⟩:=s;obtain⟨h1,ad,ay,aR,⟨c7,dH,gE,aX⟩,bh,c5⟩:=hs;obtain⟨aJ,⟨bE,oF⟩,cP,g2,g3,fm⟩:=ak;simp only at h1 ad ay aR aX bh bE cP fm oF Mt ji hb;obtain⟨ek,j5,AF,rfl⟩:=aax ad;obtain⟨st1,st2,asJ,rfl⟩:=aax ay;obtain⟨⟨i1,kn,tT⟩,⟨i2,sD,Bh⟩,⟨i3,q3,arP⟩,⟨i4,qd,arQ⟩,⟨i5,atd,ate⟩,⟨i6,n6,atf⟩,⟨i7,n7,atg⟩,⟨i8,n8,ath⟩,⟨i9,arT,ati⟩,rfl,au,aW,cF,fv,jN,mx,DM,vd,HS⟩:=apr h1;obtain⟨⟨arR,yO,ap,tN,wN⟩,⟨bi,fx,atj,atk,atl⟩,⟨ci,qY,cp,yD,MJ⟩,⟨atm,vc,atn,ato,ab1⟩,a5,wW,rfl,f1,f2,f3,f4⟩:=aps aR;obtain⟨⟨arS,yP,acb,aq7,yQ,yR,yS,mz⟩,⟨atp,un,atq,asK,atr,att,atu,arU⟩,t3,t4,rfl,t1,t2⟩:=apt aX;obtain⟨⟨Tl,yT,rg,Tm,yU,yV⟩,fg,kV,rfl,iI⟩:=abH bh;simp only[Ai,vp]at au aW cF fv jN mx DM vd HS;simp only[uG,vp]at f1 f2 f3 f4;simp only[jZ,vp]at t1 t2;obtain⟨rfl,rfl⟩:=au;obtain⟨rfl,rfl⟩:=aW;obtain⟨rfl,rfl⟩:=cF;obtain⟨rfl,rfl⟩:=fv;obtain⟨rfl,rfl⟩:=jN;obtain⟨rfl,rfl⟩:=mx;obtain⟨rfl,rfl⟩:=DM;obtain⟨rfl,rfl⟩:=vd;obtain⟨rfl,rfl⟩:=HS;obtain⟨rfl,f1⟩:=f1;obtain⟨rfl,_⟩:=f2;obtain⟨rfl,_⟩:=f3;obtain⟨rfl,f4⟩:=f4;obtain⟨⟨wX,df⟩,rfl,eb⟩:=are f4;have f1:=T0.1 f1;subst f1;obtain⟨rfl,rfl,rfl⟩:=t1;obtain⟨rfl,rfl,rfl⟩:=t2;have eb:df=_:=eb;have bE:wN=_:=bE;have oF:ab1=_:=oF;have cP:Tm=_:=cP;have fm:rg=_:=fm;have Mt:mz=_:=Mt;have ji:arU=_:=ji;have iI:Tl=_:=iI;subst eb bE cP fm oF Mt ji iI;have hb:lW c7=lW b:=hb;have hb:c7=b:=by revert hb;cases c7 <;> cases b <;> decide
 subst hb;cases c7
 ·refine abL (P:=λw=>Dc _ _ w=true) ⟨⟨?_,?_,?_,?_,?_,?_,?_,?_⟩,?_,?_,?_,?_,?_,?_,?_,?_⟩ hw <;> kernel_rfl
 refine abL (P:=λw=>Dc _ _ w=true) ⟨⟨?_,?_,?_,?_,?_,?_,?_,?_⟩,?_,?_,?_,?_,?_,?_,?_,?_⟩ hw <;> kernel_rfl
def FI{s:aS}{b:Bool}{w:Nat}(h:Dc s b w=true):oU s 1 ⟨1,h4 w⟩=some 0∧oU s 1 ⟨1,iU b w⟩=some 0∧oU s 1 ⟨3,gone (h4 w)⟩=some 0∧oU s 1 ⟨3,gone (iU b w)⟩=some 0∧B2 s (h4 w)=some true:=by
 unfold Dc at h;simp only[gq,fM]at h;exact⟨h.1.1.1.1,h.1.1.1.2,h.1.1.2,h.1.2,h.2⟩
def Fs{hp hp':aH Cell}{p:Nat}(h:pat hp' p=pat hp p):ja hp' p=ja hp p:=by unfold ja;rw[h]
def Ft{hp hp':aH Cell}{p:Nat}(h:pat hp' p=pat hp p):mi hp' p=mi hp p:=by unfold mi;rw[h]
def ahl{hp:aH Cell}{p:Nat}{k:Cell}{x:k0}(h:pat hp p=some k):ja (cr hp p (.qE x)) p=some x:=by unfold ja;rw[rX h]
def ahm{hp:aH Cell}{p:Nat}{k:Cell}{x:aa (Int×Ref)}(h:pat hp p=some k):mi (cr hp p (.sg x)) p=some x:=by unfold mi;rw[rX h]
structure rY(s:aS)(hp:aH Cell)(p m:Nat)(e6:List (Int×Ref))(n:Nat)(ls:Nat->List aK)(own:Nat->Nat->Prop):Prop where
 has:∀k,k<n->∃q,dz e6 ((k:Int)+1)=some (some q)∧lC s k hp q (ls k) (own k)
 no:∀x:Int,x<1∨(n:Int)<x->dz e6 x=none
 HM:∀k k',k<n->k'<n->k≠k'->∀q,own k q->¬own k' q
 out:∀k,k<n->¬own k p∧¬own k m
def rY.congr{s:aS}{hp hp':aH Cell}{p m:Nat}{e6:aa (Int×Ref)}{n:Nat}{ls:Nat->aa aK}{own:Nat->Nat->Prop}(h:rY s hp p m e6 n ls own)(hk:∀q,q∈dB hp->q∈dB hp')(a7:∀k,k<n->∀q,own k q->pat hp' q=pat hp q):rY s hp' p m e6 n ls own:=
 ⟨λk jI=>by obtain⟨q,h1,ad⟩:=h.has k jI;exact⟨q,h1,ad.congr hk (a7 k jI)⟩,h.no,h.HM,h.out⟩
structure yc(s:aS)(hp:aH Cell)(p:Nat)(ls:Nat->List aK)(next:Int):Prop where
 cell:∃m e6 own,ja hp p=some ⟨s,⟨some m⟩,next⟩∧mi hp m=some e6∧rY s hp p m e6 4 ls own
def hX(ls:Nat->aa aK)(k:Nat)(l:aa aK):Nat->aa aK:=λj=>if j=k then l else ls j
def Ps{s:aS}{hp:aH Cell}{p:Nat}{ls:Nat->aa aK}{next:Int}(h:yc s hp p ls next){k:Nat}(hk:k<4):∃q own,sK hp (some p) ((k:Int)+1)=some (some q)∧lC s k hp q (ls k) own:=by
 obtain⟨m,e6,own,h1,ad,ay⟩:=h.cell;obtain⟨q,aR,aX⟩:=ay.has k hk;refine⟨q,own k,?_,aX⟩;refine bN.get ?_;unfold sK;refine .cond (λak=>by cases ak) λ_=>.eq rfl (.eq h1 (.eq rfl (.eq ad (.eq rfl (.ret ?_)))));rw[aR];rfl
def aiB{s:aS}(hs:c6 s){hp:aH Cell}{p:Nat}{ls:Nat->aa aK}{next:Int}(h:yc s hp p ls next){k:Nat}(hk:k<4){e:bp}(he:iB s k e):zf hp (some p) e=some (A5 (eT (ls k) e)):=by
 obtain⟨q,own,h1,ad⟩:=Ps h hk;refine bN.get ?_;unfold zf;rw[he.lF];exact .eq h1 (.eq (PU hs hk ad he) (.ret I))
def aiC{s:aS}(hs:c6 s){hp:aH Cell}{p:Nat}{ls:Nat->aa aK}{next:Int}(h:yc s hp p ls next){k:Nat}(hk:k<4):E1 hp (some p) ((k:Int)+1)=some (aB s.bH k).gH:=by
 obtain⟨m,e6,own,h1,ad,ay⟩:=h.cell;refine bN.get ?_;unfold E1;refine .eq I (.eq h1 ((OO hs hk).bind λan au=>?_));subst au;exact .idx I (by rw[hs.pO];exact hk) (.ret I)
def aiD{s:aS}{hp:aH Cell}{p:Nat}{ls:Nat->aa aK}{next:Int}(h:yc s hp p ls next):EY hp (some p)=some next:=by
 obtain⟨m,e6,own,h1,ad,ay⟩:=h.cell;refine bN.get ?_;unfold EY;exact .cond (λak=>by cases ak) λ_=>.eq rfl (.eq h1 (.ret rfl))
def aiE(o:aw aK):(A5 o).2=o.isSome:=by cases o <;> rfl
def rY.change{s:aS}{hp hp':aH Cell}{p:Nat}{ls:Nat->aa aK}{next:Int}{m:Nat}{e6:aa (Int×Ref)}{own:Nat->Nat->Prop}(h1:ja hp p=some ⟨s,⟨some m⟩,next⟩)(ad:mi hp m=some e6)(ay:rY s hp p m e6 4 ls own){k:Nat}(hk:k<4){q:Nat}(hq:dz e6 ((k:Int)+1)=some (some q)){l:aa aK}{own':Nat->Prop}
 (al:lC s k hp' q l own') (aU:∀x,own' x->own k x∨x∉dB hp) (qR:eQ hp hp' (own k)):ja hp' p=some ⟨s,⟨some m⟩,next⟩∧mi hp' m=some e6∧rY s hp' p m e6 4 (hX ls k l) (λj=>if j=k then own' else own j):=by
 have kk:=jG (vL h1)
 have hZ:=jG (xw ad)
 have bz:=(ay.out k hk).1
 have cc:=(ay.out k hk).2
 refine⟨by rw[Fs (qR.rest p kk bz)];exact h1,by rw[Ft (qR.rest m hZ cc)];exact ad,⟨λj aC=>?_,ay.no,λj va aC wD cX x h0 nI=>?_,λj aC=>?_⟩⟩
 ·by_cases e:j=k
  ·subst e
   refine⟨q,hq,?_⟩
   unfold hX
   rw[br I,br I];exact al
  obtain⟨og,g1,g2⟩:=ay.has j aC
  refine⟨og,g1,?_⟩
  unfold hX
  rw[bn e,bn e]
  exact g2.sc qR λx al=>ay.HM j k aC hk e x al
 ·have key:∀j,j<4->j≠k->own' x->¬own j x:=λj aC cX aR aX=>by
   obtain⟨og,g1,g2⟩:=ay.has j aC;rcases aU x aR with bh|bh
   ·exact ay.HM j k aC hk cX x aX bh
   exact bh (g2.pg x aX)
  by_cases e:j=k
  ·rw[br e]at h0
   rw[bn (λe'=>cX (e.trans e'.symm))]at nI
   exact key va wD (λe'=>cX (e.trans e'.symm)) h0 nI
  rw[bn e]at h0
  by_cases e':va=k
  ·rw[br e']at nI;exact key j aC e nI h0
  rw[bn e']at nI;exact ay.HM j va aC wD cX x h0 nI
 by_cases e:j=k
 ·rw[br e]
  refine⟨λh=>?_,λh=>?_⟩
  ·rcases aU p h with aR|aR
   ·exact bz aR
   exact aR kk
  rcases aU m h with aR|aR
  ·exact cc aR
  exact aR hZ
 rw[bn e];exact ay.out j aC
def ajG{s:aS}(hs:c6 s)(hp:aH Cell):cv (Fq hp s) (λr=> ∃p,r.1=some p∧yc s r.2 p (λ_=>[]) 1):=by
 unfold Fq;refine .mk λm hm=>.eq I (.mk λp bL=>?_);simp only at bL⊢;have j7:p≠m:=λe=>bL (by rw[e];exact ln);have rI:ja ((p,Cell.qE ⟨s,⟨some m⟩,1⟩)::(m,Cell.sg [])::hp) p=some ⟨s,⟨some m⟩,1⟩:=by unfold ja;rw[kJ,br I]
 have d0:mi ((p,Cell.qE ⟨s,⟨some m⟩,1⟩)::(m,Cell.sg [])::hp) m=some []:=by unfold mi;rw[kJ,bn j7,kJ,br I]
 refine .eq rI ?_;simp only;refine .bind (P:=λau=> ∃e6 own,ja au.2.2 p=some ⟨s,⟨some m⟩,1⟩∧mi au.2.2 m=some e6∧rY s au.2.2 p m e6 4 (λ_=>[]) own)
  (cv.loop 4 (λi st=> ∃hp' e6 own,st=((i:Int),hp')∧ja hp' p=some ⟨s,⟨some m⟩,1⟩∧mi hp' m=some e6∧rY s hp' p m e6 i (λ_=>[]) own) (by omega) ⟨_,[],λ_ _=>False,rfl,rI,d0,⟨λk hk=>by omega,λ_ _=>rfl,λk k' hk=>by omega,λk hk=>by omega⟩⟩ (λi st ax cD=>?_) (λst cD=>?_)) λau h1=>.ret ⟨p,rfl,?_⟩
 ·obtain⟨hp',e6,own,rfl,g1,g2,g3⟩:=cD;have yq:=vL g1;have Hv:=xw g2;refine .cond (λ_=>.idx I (by rw[hs.pO];exact ax) (.eq g1 ?_)) λak=>by have:=hs.pO;simp at ak;omega
  rw[(hs.lF ax).1];refine .bind (ajA hs ax hp') λan h1=>?_;obtain⟨q,e,al,hk⟩:=h1;obtain⟨arf,cN⟩:=an;simp only at e al hk;subst e;have aJ:ja cN p=some ⟨s,⟨some m⟩,1⟩:=by rw[Fs (hk.rest p (jG yq) id)];exact g1
  have bE:mi cN m=some e6:=by rw[Ft (hk.rest m (jG Hv) id)];exact g2
  have LN:=xw bE;refine .eq (a:=()) (by unfold G2;rw[br aJ]) (.eq I (.eq bE (.eq I (.ret ?_))));have Da:m≠p:=λe=>by rw[e]at LN;rw[vL aJ]at LN;cases LN
  have yr:∀x,x≠m->pat (cr cN m (Cell.sg (gj e6 ((i:Int)+1) (some q)))) x=pat cN x:=λx al=>mE al.symm;have hold:∀j,j<i->∀x,own j x->pat (cr cN m (Cell.sg (gj e6 ((i:Int)+1) (some q)))) x=pat hp' x:=λj aC x al=>by
   obtain⟨og,_,dH⟩:=g3.has j aC;rw[yr x λe=>(g3.out j aC).2 (e▸al)];exact hk.rest x (dH.pg x al) id
  have si:∀x,nZ DC hp' cN x->x∉dB hp':=λx al=>al.elim (λh=>h.elim) λh=>h.1;refine⟨_,gj e6 ((i:Int)+1) (some q),λj=>if j=i then nZ DC hp' cN else own j,by simp only[hl (show i<2^62 by omega)],by rw[Fs (yr p Da.symm)];exact aJ,ahm LN,⟨λj aC=>?_,λx al=>?_,λj va aC wD cX x h0 nI=>?_,λj aC=>?_⟩⟩
  ·by_cases e:j=i
   ·subst e;refine⟨q,by rw[vx,br I],?_⟩;rw[br I];exact al.congr (λx al=>by rw[rb];exact al) λx h0=>yr x λe=>si x h0 (e▸jG Hv)
   obtain⟨og,c7,dH⟩:=g3.has j (by omega);refine⟨og,by rw[vx,bn (by omega)];exact c7,?_⟩;rw[bn e];exact dH.congr (λx al=>by rw[rb];exact hk.keys x al) (hold j (by omega))
  ·rw[vx,bn (by omega)];exact g3.no x (by omega)
  ·have key:∀j,j<i->nZ DC hp' cN x->¬own j x:=λj aC h1 ad=>by
    obtain⟨og,_,dH⟩:=g3.has j aC;exact si x h1 (dH.pg x ad)
   by_cases e:j=i
   ·rw[br e]at h0;rw[bn (λe'=>cX (e.trans e'.symm))]at nI;exact key va (by omega) h0 nI
   rw[bn e]at h0;by_cases e':va=i
   ·rw[br e']at nI;exact key j (by omega) nI h0
   rw[bn e']at nI;exact g3.HM j va (by omega) (by omega) cX x h0 nI
  by_cases e:j=i
  ·rw[br e];exact⟨λh=>si p h (jG yq),λh=>si m h (jG Hv)⟩
  rw[bn e];exact g3.out j (by omega)
 ·obtain⟨hp',e6,own,rfl,g1,g2,g3⟩:=cD;refine .cond (λak=>by have:=hs.pO;simp at ak;omega) λ_=>.ret ⟨e6,own,g1,g2,g3⟩
 obtain⟨e6,own,bS,a2,a3⟩:=h1;exact⟨m,e6,own,bS,a2,a3⟩
def ahn{l:aa aK}{e:bp}{i:aK}(h:eT l e=none)(ax:ir i.bb e=true):eT (l++[i]) e=some i:=by
 unfold eT at h⊢;rw[List.find?_append,h,Option.none_or];simp[ax]
def vA{ls:Nat->aa aK}{k:Nat}{l:aa aK}:hX ls k l k=l:=by unfold hX;rw[br I]
def kK{ls:Nat->aa aK}{k j:Nat}{l:aa aK}(h:j≠k):hX ls k l j=ls j:=by unfold hX;rw[bn h]
def _root_.Gv.cv.next{β:Type}{n:Nat}{vis:aa Nat}{k:aw Nat->ai β}{P:β->Prop}(h:∀j,Bd n vis j->cv (k j) P):cv (ai.bind (ai.next n vis) k) P:=λQ hq j aC=>h j aC Q hq
def _root_.Gv.cv.vP{T:Type}{xs:aa T}{F:T->T->aw Int}{c:T->T->Int}(ak:yu c)(ao:xs.length<4611686018427387904)(lO:∀a∈xs,∀b∈xs,F a b=some (c a b)):cv (ai.vP xs F) (λr=>r.Perm xs∧r.Pairwise (λa b=>c a b<=0)):=λQ hq=>⟨c,ak,ao,lO,λys h1 ad=>hq ys ⟨h1,ad⟩⟩
structure Met(n:Nat)(vis:List Nat):Prop where
 one:vis.Nodup
 lt:∀q∈vis,q<n
def Met.more{n:Nat}{vis:aa Nat}{q:Nat}(h:Met n vis)(hq:q<n∧q∉vis):Met n (vis++[q]):=
 ⟨by rw[nd];exact⟨h.one,by simp,λa a7 b hb e=>by rw[gX.1 hb]at e;exact hq.2 (e▸a7)⟩,λa a7=>by
  rcases ca.1 a7 with a7|a7
  ·exact h.lt a a7
  rw[gX.1 a7];exact hq.1⟩
def Met.perm{n:Nat}{vis:aa Nat}(h:Met n vis)(a7:∀j,j<n->j∈vis):vis.Perm (List.range n):=
 (Ts h.one List.nodup_range).2 λa=>⟨λh1=>lq.2 (h.lt a h1),λh1=>a7 a (lq.1 h1)⟩
def Met.full{n:Nat}{vis:aa Nat}(h:Met n vis)(ao:vis.length=n){q:Nat}(hq:q<n):q∈vis:=by
 false_or_by_contra;rename_i e9;have h1:vis.Perm ((List.range n).filter λx=>decide (x∈vis)):=(Ts h.one (List.nodup_range.filter _)).2 λa=>by
  rw[sI,lq,fM];exact⟨λh1=>⟨h.lt a h1,h1⟩,λh1=>h1.2⟩
 have ad:=h1.length_eq;have ay:((List.range n).filter λx=>decide (x∈vis)).length<(List.range n).length:=List.length_filter_lt_length_iff_exists.2 ⟨q,lq.2 hq,by simpa using e9⟩;rw[Bx]at ay;omega
def V4{α:Type}[Inhabited α](l:aa α):(List.range l.length).map (λq=>aB l q)=l:=by
 apply Er
 ·simp
 intro i h1 ad;simp only[Es,Nh];rw[fQ _ ad]
def SK(a c:aK):Int:=Tj a.bb c.bb
def XZ:mA SK:=amp.on λi:aK=>i.bb
def amu{s:aS}(h:c6 s){k:Nat}(hk:k<4){hp:aH Cell}{p:Nat}{l:aa aK}{own:Nat->Prop}(al:lC s k hp p l own)(hlen:l.length<=900):
 cv (E7 hp (some p)) (λr=>r.2=hp∧r.1.Perm l∧r.1.Pairwise (λa b=>SK a b<=0)):=by
 obtain⟨f,m,em,h1,ad,ay,aR,aX,bh⟩:=al.cell
 have ao:=al.nP.ok
 have u0:em.length=l.length:=by rw[aX.length_eq,kY]
 have C5:∀q,q<em.length->(aB em q).2∈l:=λq hq=>by
  have hm:aB em q∈em:=by rw[fQ _ hq];exact om _
  obtain⟨i,ax,e⟩:=gY.1 (aX.mem_iff.1 hm);rw[<-e];exact ax
 have x4:∀vis,Met em.length vis->(∀j,j<em.length->j∈vis)->(vis.map λq=>(aB em q).2).Perm l:=λvis ba a7=>by
  refine((ba.perm a7).map _).trans ?_;have:(List.range em.length).map (λq=>(aB em q).2)=em.map (·.2):=by
   rw[show(List.range em.length).map (λq=>(aB em q).2)=((List.range em.length).map (λq=>aB em q)).map (·.2) by rw[xd];rfl,V4]
  rw[this];refine(aX.map (·.2)).trans ?_;rw[xd,show((λx:Int×aK=>x.2) ∘ λi:aK=>(i.cI,i))=id from rfl,List.map_id]
 unfold E7
 refine .cond (λak=>by cases ak) λ_=>.eq rfl (.eq h1 (.eq rfl (.eq ad ?_)))
 refine .bind (P:=λe=>e.2.2.Perm l) (cv.loop em.length (λj st=> ∃vis,st=(vis,vis.map λq=>(aB em q).2)∧vis.length=j∧Met em.length vis) (by omega) ⟨[],rfl,rfl,.nil,by simp⟩ (λj st aC hs=>?_) (λst hs=>?_)) λe he=>?_
 ·obtain⟨vis,rfl,ss,ba⟩:=hs
  refine .next λo aU=>?_
  cases o with
  |none=>exact .cond (λak=>by cases ak) λ_=>.ret (x4 vis ba aU)
  | some q=>
    refine .cond (λ_=>.eq I (.eq (FX h hk (ao.ok _ (C5 q aU.1))) (.eq (kb _ _ (by simp;omega) (by omega)) (.ret ⟨vis++[q],?_,by simp[ss],ba.more aU⟩)))) λak=>by cases ak
    rw[vl];rfl
 ·obtain⟨vis,rfl,ss,ba⟩:=hs
  refine .next λo aU=>?_
  cases o with
  |none=>exact .cond (λak=>by cases ak) λ_=>.ret (x4 vis ba aU)
  |some q=>exact absurd (ba.full ss aU.1) aU.2
 have wL:∀a∈e.2.2,a.bb.ck.length<=1000∧a.bb.gu.length<=1000:=λa a7=>(ao.ok a (he.mem_iff.1 a7)).small h hk
 have hle:=he.length_eq
 refine .bind (cv.vP (c:=SK) ⟨XZ.neg,XZ.mz⟩ (by omega) λa a7 b hb=>?_) λbd hy=>.ret ⟨rfl,hy.1.trans he,hy.2⟩
 unfold IN
 rw[aiy (wL a a7).1 (wL b hb).1 (wL a a7).2 (wL b hb).2]
 rfl
def yc.nP{s:aS}{hp:aH Cell}{p:Nat}{ls:Nat->aa aK}{next:Int}(h:yc s hp p ls next){k:Nat}(hk:k<4):kr s k (ls k):=by
 obtain⟨q,own,_,ad⟩:=Ps h hk;exact ad.nP
def c0(ls:Nat->aa aK):aa aK:=ls 0++ls 1++ls 2++ls 3
def aho{ls:Nat->aa aK}{i:aK}:i∈c0 ls↔∃k,k<4∧i∈ls k:=by
 unfold c0;simp only[ca];constructor
 ·rintro (((h|h)|h)|h)
  ·exact⟨0,by decide,h⟩
  ·exact⟨1,by decide,h⟩
  ·exact⟨2,by decide,h⟩
  exact⟨3,by decide,h⟩
 rintro ⟨k,hk,h⟩;have:k=0∨k=1∨k=2∨k=3:=by omega
 rcases this with rfl|rfl|rfl|rfl
 ·exact .inl (.inl (.inl h))
 ·exact .inl (.inl (.inr h))
 ·exact .inl (.inr h)
 exact .inr h
def WM{ls:Nat->aa aK}{k:Nat}(hk:k<4)(i:aK):(c0 ls++[i]).Perm (c0 (hX ls k (ls k++[i]))):=by
 unfold c0;have c:∀a b d:aa aK,((a++b)++d).Perm (a++d++b):=λa b d=>by
  rw[jn,jn];exact List.Perm.append_left _ nc
 have:k=0∨k=1∨k=2∨k=3:=by omega
 rcases this with rfl|rfl|rfl|rfl
 ·rw[vA,kK (by decide),kK (by decide),kK (by decide)];exact(c _ _ _).trans (((c _ _ _).trans ((c _ _ _).append_right _)).append_right _)
 ·rw[vA,kK (by decide),kK (by decide),kK (by decide),<-jn (ls 0)];exact(c _ _ _).trans ((c _ _ _).append_right _)
 ·rw[vA,kK (by decide),kK (by decide),kK (by decide),<-jn (ls 0++ls 1)];exact c _ _ _
 rw[vA,kK (by decide),kK (by decide),kK (by decide),jn (ls 0++ls 1++ls 2)]
def GP(ls:Nat->aa aK):Nat->aa aK
 |0=>[]
 |k+1=>GP ls k++ls k
def J9{ls:Nat->aa aK}{k:Nat}{a b:aa aK}:hX (hX ls k a) k b=hX ls k b:=by
 funext j;unfold hX;split <;> rfl
def aiF{l:aa aK}{e:bp}(h:eT l e=none):hQ l e=l:=by
 unfold hQ;exact y4.2 λc ak=>by rw[xq h c ak];rfl
def agJ{l:aa aK}{e:bp}{i:aK}(ax:ir i.bb e=true):hQ (l++[i]) e=hQ l e:=by
 unfold hQ;rw[vg];simp[ax]
structure sE(X:Nat->Prop)(hp hp':aH Cell):Prop where
 at_:∀q,X q->pat hp' q=pat hp q
 keys:∀q,q∈dB hp->q∈dB hp'
def sE.trans{X:Nat->Prop}{a b c:aH Cell}(h:sE X a b)(k:sE X b c):sE X a c:=⟨λq hq=>(k.at_ q hq).trans (h.at_ q hq),λq hq=>k.keys q (h.keys q hq)⟩
structure kP(X:Nat->Prop)(s:aS)(hp:aH Cell)(p:Nat)(ls:Nat->List aK)(next:Int):Prop where
 cell:∃m e6 own,ja hp p=some ⟨s,⟨some m⟩,next⟩∧mi hp m=some e6∧rY s hp p m e6 4 ls own∧(¬X p∧¬X m)∧∀k,k<4->∀q,own k q->¬X q
 pg:∀q,X q->q∈dB hp
def kP.ok{X:Nat->Prop}{s:aS}{hp:aH Cell}{p:Nat}{ls:Nat->aa aK}{next:Int}(h:kP X s hp p ls next):yc s hp p ls next:=by
 obtain⟨m,e6,own,h1,ad,ay,_⟩:=h.cell;exact⟨m,e6,own,h1,ad,ay⟩
def kP.off{X:Nat->Prop}{s:aS}{hp hp':aH Cell}{p:Nat}{ls:Nat->aa aK}{next:Int}(h:kP X s hp p ls next)(ne:∀q,¬X q->pat hp' q=pat hp q)(hk:∀q,q∈dB hp->q∈dB hp'):kP X s hp' p ls next:=by
 obtain⟨m,e6,own,h1,ad,ay,⟨aR,aX⟩,bh⟩:=h.cell;exact⟨⟨m,e6,own,by rw[Fs (ne p aR)];exact h1,by rw[Ft (ne m aX)];exact ad,ay.congr hk λk hk x al=>ne x (bh k hk x al),⟨aR,aX⟩,bh⟩,
  λx al=>hk x (h.pg x al)⟩
def kP.change{X:Nat->Prop}{s:aS}{hp hp':aH Cell}{p:Nat}{ls:Nat->aa aK}{next:Int}{m:Nat}{e6:aa (Int×Ref)}{own:Nat->Nat->Prop}(ax:∀q,X q->q∈dB hp)(h1:ja hp p=some ⟨s,⟨some m⟩,next⟩)(ad:mi hp m=some e6)(ay:rY s hp p m e6 4 ls own)
 (aR: ¬X p∧¬X m) (aX:∀k,k<4->∀q,own k q->¬X q) {k:Nat} (hk:k<4) {q:Nat} (hq:dz e6 ((k:Int)+1)=some (some q)) {l:aa aK} {own':Nat->Prop}
 (al:lC s k hp' q l own') (aU:∀x,own' x->own k x∨x∉dB hp) (qR:eQ hp hp' (own k)):kP X s hp' p (hX ls k l) next∧sE X hp hp':=by
 obtain⟨g1,g2,g3⟩:=rY.change h1 ad ay hk hq al aU qR
 refine⟨⟨⟨m,e6,_,g1,g2,g3,aR,λj aC x h0 oI=>?_⟩,λx h0=>qR.keys x (ax x h0)⟩,⟨λx h0=>qR.rest x (ax x h0) λh=>aX k hk x h h0,qR.keys⟩⟩
 by_cases e:j=k
 ·rw[br e]at h0
  rcases aU x h0 with h|h
  ·exact aX k hk x h oI
  exact h (ax x oI)
 rw[bn e]at h0;exact aX j aC x h0 oI
def kP.next'{X:Nat->Prop}{s:aS}{hp:aH Cell}{p:Nat}{ls:Nat->aa aK}{next:Int}(h:kP X s hp p ls next)(n:Int){c:k0}(ak:ja hp p=some c):kP X s (cr hp p (Cell.qE {c with nT:=n})) p ls n∧sE X hp (cr hp p (Cell.qE {c with nT:=n})):=by
 obtain⟨m,e6,own,h1,ad,ay,aR,aX⟩:=h.cell;rw[h1]at ak;cases ak;have yq:=vL h1;have j7:p≠m:=λe=>by rw[e,xw ad]at yq;cases yq
 exact⟨⟨⟨m,e6,own,ahl yq,by rw[Ft (mE j7)];exact ad,ay.congr (λq hq=>by rw[rb];exact hq) λk hk q hq=>mE λe=>(ay.out k hk).1 (e▸hq),aR,aX⟩,λx al=>by rw[rb];exact h.pg x al⟩,
  ⟨λx al=>mE λe=>aR.1 (e▸al),λx al=>by rw[rb];exact al⟩⟩
def Pt{s:aS}{hp:aH Cell}{p m:Nat}{e6:aa (Int×Ref)}{next:Int}(h1:ja hp p=some ⟨s,⟨some m⟩,next⟩)(ad:mi hp m=some e6){x:Int}{q:Nat}(aR:dz e6 x=some (some q)):sK hp (some p) x=some (some q):=by
 refine bN.get ?_;unfold sK;refine .cond (λak=>by cases ak) λ_=>.eq rfl (.eq h1 (.eq rfl (.eq ad (.eq rfl (.ret ?_)))));rw[aR];rfl
def ahp{X:Nat->Prop}{s:aS}(hs:c6 s){hp:aH Cell}{p:Nat}{ls:Nat->aa aK}{next:Int}(h:kP X s hp p ls next){k:Nat}(hk:k<4){e:bp}(he:iB s k e)(ps:Int)(x6:∀i∈ls k,i.cI<next)(hlen:(ls k).length<900)(aI:0<=next∧next<1000000):
 cv (EK hp (some p) e ps) (λr=>
  if (eT (ls k) e).isSome=true then r=(0,17,hp)else if (aB s.bH k).gH<=((ls k).length:Int)then r=(0,18,hp)
  else r.1=next∧r.2.1=0∧kP X s r.2.2 p (hX ls k (ls k++[{bb:=e,cI:=next,fV:=ps}])) (next+1)∧sE X hp r.2.2):=by
 obtain⟨m,e6,own,h1,ad,ay,oI,sy⟩:=h.cell
 obtain⟨q,aR,aX⟩:=ay.has k hk
 unfold EK
 rw[he.lF]
 refine .eq (Pt h1 ad aR) (.cond (λak=>by cases ak) λ_=>.eq (PU hs hk aX he) ?_)
 rw[aiE]
 refine .cond (λak=>.ret (by rw[br ak])) λak=>.eq (ajz aX) (.eq (aiC hs h.ok hk) (.cond (λdK=>.ret ?_) λdK=>?_))
 ·rw[bn (by rw[ak];simp),br (by simpa using dK)]
 have dK: ¬(aB s.bH k).gH<=((ls k).length:Int):=by simpa using dK
 have aY:eT (ls k) e=none:=by
  cases aY:eT (ls k) e with
  |none=>rfl
  |some _=>rw[aY]at ak;cases ak
 have ax:mv s k ({bb:=e,cI:=next,fV:=ps}:aK):=⟨he⟩
 have jx:kg (ls k) next=false:=by
  unfold kg;rw[w7];intro c kF;have:=x6 c kF;simp;omega
 have bw:u4 (ls k) ({bb:=e,cI:=next,fV:=ps}:aK)=true:=by
  unfold u4;simp only[aY,jx];rfl
 refine .eq I (.eq h1 (.eq I (.bind (XV hs hk aX ax hlen) λbM bh=>?_)))
 obtain⟨_,g2,g3⟩:=bh
 obtain⟨cD,wL⟩:=kP.change h.pg h1 ad ay oI sy hk aR g2 (λx al=>al.imp id λh=>h.1) g3
 unfold added at cD
 rw[br bw]at cD
 obtain⟨rH,asL,own',bS,_⟩:=cD.cell
 refine .eq bS (.eq I (.ret ?_))
 rw[bn (by rw[ak];simp),bn dK]
 have hw:bo (next+1)=next+1:=jr (by omega) (by omega)
 have:=cD.next' (next+1) bS
 simp only[hw]
 exact⟨trivial,trivial,this.1,wL.trans this.2⟩
def Pu{X:Nat->Prop}{s:aS}(hs:c6 s){hp:aH Cell}{p:Nat}{ls:Nat->aa aK}{next:Int}(h:kP X s hp p ls next){k:Nat}(hk:k<4){e:bp}(he:iB s k e):
 cv (xb hp (some p) e) (λr=>(match eT (ls k) e with |some i=>(r.1,r.2.1)=(i,0)|none=>(r.1,r.2.1)=(default,16))∧kP X s r.2.2 p (hX ls k (hQ (ls k) e)) next∧sE X hp r.2.2):=by
 obtain⟨m,e6,own,h1,ad,ay,oI,sy⟩:=h.cell
 obtain⟨q,aR,aX⟩:=ay.has k hk
 unfold xb
 rw[he.lF]
 refine .eq (Pt h1 ad aR) (.cond (λak=>by cases ak) λ_=>.bind (agI hs hk aX he) λaF bh=>?_)
 obtain⟨g1,g2,g3⟩:=bh
 have cD:=kP.change h.pg h1 ad ay oI sy hk aR g2 (λx al=>.inl al) g3
 have au:aF.1=(A5 (eT (ls k) e)).1:=ec Prod.fst g1
 have aW:aF.2.1=(A5 (eT (ls k) e)).2:=ec Prod.snd g1
 cases aY:eT (ls k) e with
 | none=>
   rw[aY]at au aW
   refine .cond (λ_=>.ret ⟨rfl,cD⟩) λak=>by rw[aW]at ak;cases ak
 | some i=>
   rw[aY]at au aW
   refine .cond (λak=>by rw[aW]at ak;cases ak) λ_=>.ret ⟨?_,cD⟩
   rw[au];rfl
def agK{X:Nat->Prop}{s:aS}(hs:c6 s){hp:aH Cell}{p:Nat}{ls:Nat->aa aK}{next:Int}(h:kP X s hp p ls next){k:Nat}(hk:k<4){i:aK}(ax:mv s k i)(hlen:(ls k).length<900):
 cv (Ez hp (some p) i) (λr=>r.1=u4 (ls k) i∧kP X s r.2 p (hX ls k (added (ls k) i)) next∧sE X hp r.2):=by
 obtain⟨m,e6,own,h1,ad,ay,oI,sy⟩:=h.cell
 obtain⟨q,aR,aX⟩:=ay.has k hk
 unfold Ez
 rw[ax.fS.lF]
 refine .eq (Pt h1 ad aR) (.bind (XV hs hk aX ax hlen) λbd bh=>.ret ⟨bh.1,?_⟩)
 exact kP.change h.pg h1 ad ay oI sy hk aR bh.2.1 (λx al=>al.imp id λh=>h.1) bh.2.2
def VF{X:Nat->Prop}{s:aS}{hp:aH Cell}{p:Nat}{ls:Nat->aa aK}{next:Int}(h:kP X s hp p ls next)(n:Int):bN (Bz hp (some p) n) (λr=>kP X s r p ls (max 1 n)∧sE X hp r):=by
 obtain⟨m,e6,own,h1,_⟩:=h.cell;unfold Bz;exact .bind (P:=λm=>kP X s m p ls (max 1 n)∧sE X hp m) (.cond (λ_=>.eq I (.eq h1 (.eq I (.ret (h.next' _ h1))))) λak=>by cases ak) λm hm=>.ret hm
def rx(x:Int):aw Nat:=if x=1 then some 0 else if x=2 then some 1 else if x=7 then some 2 else none
def c6.jh{s:aS}(h:c6 s){j:Nat}(aC:j<3):(aB s.fj j).cd=aB [1,2,7] j:=by
 have ao:=h.x9;have:=h.Q4;have e:(s.fj.map (·.cd))[j]? =([1,2,7]:aa Int)[j]? :=by rw[this]
 rw[Ef,qf (show j<s.fj.length by omega),qf (show j<([1,2,7]:aa Int).length from aC)]at e;rw[fQ _ (show j<s.fj.length by omega),fQ _ (show j<([1,2,7]:aa Int).length from aC)];exact uc e
def Cy{x:Int}{j:Nat}(aC:j<3):aB [(1:Int),2,7] j=x↔rx x=some j:=by
 have h:j=0∨j=1∨j=2:=by omega
 unfold rx;rcases h with rfl|rfl|rfl
 ·show(1:Int)=x↔_;by_cases h1:x=1
  ·simp[h1]
  rw[bn h1];simp only[show ¬(1:Int)=x from λe=>h1 e.symm,false_iff];split
  ·simp
  split <;> simp
 ·show(2:Int)=x↔_;by_cases h1:x=2
  ·simp[h1]
  simp only[show ¬(2:Int)=x from λe=>h1 e.symm,false_iff,bn h1];split
  ·simp
  split <;> simp
 show(7:Int)=x↔_;by_cases h1:x=7
 ·simp[h1]
 simp only[show ¬(7:Int)=x from λe=>h1 e.symm,false_iff,bn h1];split
 ·simp
 split <;> simp
def Lg{x:Int}{j:Nat}(h:rx x=some j):j<3:=by
 unfold rx at h;split at h
 ·cases h;omega
 split at h
 ·cases h;omega
 split at h <;> cases h;omega
structure qS(s:aS)(hp:aH Cell)(p:Nat)(N:Int->Int):Prop where
 cell:∃iQ,ox hp p=some ⟨s.fj,iQ⟩∧∀j,j<3->cu iQ j=N (aB [1,2,7] j)
def afE{hp hp':aH Cell}{p:Nat}(h:pat hp' p=pat hp p):ox hp' p=ox hp p:=by unfold ox;rw[h]
def ahq{hp:aH Cell}{p:Nat}{k:Cell}{x:iV}(h:pat hp p=some k):ox (cr hp p (.r8 x)) p=some x:=by unfold ox;rw[rX h]
def qS.congr{s:aS}{hp hp':aH Cell}{p:Nat}{N:Int->Int}(h:qS s hp p N)(e:pat hp' p=pat hp p):qS s hp' p N:=by
 obtain⟨iQ,h1,ad⟩:=h.cell;exact⟨iQ,by rw[afE e];exact h1,ad⟩
def ua(x:Int):Int:=match rx x with |some j=>(j:Int)|none=> -1
def X0{s:aS}(hs:c6 s){hp:aH Cell}{p:Nat}{N:Int->Int}(h:qS s hp p N)(x:Int):BD hp (some p) x=some (ua x):=by
 obtain⟨iQ,h1,ad⟩:=h.cell;have ao:=hs.x9;refine bN.get ?_;unfold BD;refine .cond (λak=>by cases ak) λ_=>.eq rfl (.eq h1 (.bind (P:=λe=>e.1=ua x) (bN.qz 3 (λi st=>st=(i:Int)∧∀j,j<i->rx x≠some j) (by omega) ⟨rfl,λj aC=>by omega⟩ (λi st ax cD=>?_) (λst cD=>?_)) λe he=>.ret he))
 ·obtain⟨rfl,aI⟩:=cD;refine bN.cond (λ_=>.idx I (by simp only;omega) (.cond (λak=>?_) λak=>?_)) λak=>by simp only[ao]at ak;simp at ak;omega
  ·simp only[oT,hs.jh ax]at ak;have:=(Cy ax).1 ak;exact .ret (by unfold ua;rw[this])
  refine .ret ⟨hl (by omega),λj aC e=>?_⟩;by_cases lg:j=i
  ·subst lg;rw[<-Cy ax,<-hs.jh ax]at e;rw[e]at ak;simp at ak
  exact aI j (by omega) e
 obtain⟨rfl,aI⟩:=cD;refine bN.cond (λak=>by simp only[ao]at ak;simp at ak) λ_=>.ret ?_;show(-1:Int)=ua x;unfold ua;cases e:rx x with
 |none=>rfl
 |some j=>exact absurd e (aI j (Lg e))
def bump(N:Int->Int)(x:Int)(d:Int):Int->Int:=λy=>if y=x then N x+d else N y
def qS.bump{s:aS}{hp:aH Cell}{p:Nat}{N:Int->Int}{iQ:Vector Int 6}(h1:ox hp p=some ⟨s.fj,iQ⟩)(ad:∀j,j<3->cu iQ j=N (aB [1,2,7] j)){x:Int}{j:Nat}(aC:rx x=some j)(d:Int):
 qS s (cr hp p (Cell.r8 ⟨s.fj,dS iQ j (N x+d)⟩)) p (Go.Proofs.YtdadopcnkghbaaaGreat.bump N x d):=by
 refine⟨_,ahq (uw h1),λi ax=>?_⟩
 have asM:=Lg aC
 unfold Go.Proofs.YtdadopcnkghbaaaGreat.bump
 by_cases e:i=j
 ·subst e
  rw[zz _ _ (by omega),br I,br ((Cy ax).2 aC)]
 rw[zz _ _ (by omega),bn e,bn (λaW=>e (by have:=(Cy ax).1 aW;rw[aC]at this;cases this;rfl)),ad i ax]
def room(s:aS)(N:Int->Int)(x:Int):Bool:=match rx x with |some j=>decide (N x<(aB s.fj j).kd)|none=>false
def Zf{s:aS}(hs:c6 s){hp:aH Cell}{p:Nat}{N:Int->Int}(h:qS s hp p N)(jx:∀x,0<=N x∧N x<100000)(x:Int):
 bN (BH hp (some p) x) (λr=>if room s N x=true then r.1=true∧(∃c,r.2=cr hp p c)∧qS s r.2 p (bump N x 1)else r=(false,hp)):=by
 obtain⟨iQ,h1,ad⟩:=h.cell
 have ao:=hs.x9
 unfold BH
 refine .eq (X0 hs h x) ?_
 cases aD:rx x with
 | none=>
   have e:ua x= -1:=by unfold ua;rw[aD]
   have aW:room s N x=false:=by unfold room;rw[aD]
   rw[e,aW]
   exact .ret I
 | some j=>
   have aC:=Lg aD
   have e:ua x=(j:Int):=by unfold ua;rw[aD]
   have hC:cu iQ j=N x:=by rw[ad j aC,(Cy aC).2 aD]
   rw[e]
   have hd:decide ((j:Int)<0)=false:=by simp
   simp only[hd]
   refine .eq (a:=p) I (.eq (a:=j) (by unfold cb;rw[br I];exact xv (by omega)) (.eq (a:=⟨s.fj,iQ⟩) (by unfold cb;rw[br I];exact h1) (.eq (a:=p) I (.eq (a:=⟨s.fj,iQ⟩) (by unfold cb;rw[br I];exact h1)
    (.eq (a:=j) (by unfold cb;rw[br I];exact xv (by simp only;omega)) (.eq I (.cond (λak=>?_) λak=>?_)))))))
   ·have aW:room s N x=false:=by unfold room;rw[aD];simp only[sL,fM,hC]at ak;simp;omega
    rw[aW];exact .ret I
   have aW:room s N x=true:=by unfold room;rw[aD];simp only[sL,mC,hC]at ak;simp;omega
   rw[aW]
   refine .eq (a:=p) I (.idx I (by omega) (.eq h1 (.idx I (by omega) (.eq I (.ret ⟨rfl,⟨_,rfl⟩,?_⟩)))))
   have hw:bo (cu iQ j+1)=N x+1:=by rw[hC];have:=jx x;exact jr (by omega) (by omega)
   simp only[hw]
   exact qS.bump h1 ad aD 1
def X1{s:aS}(hs:c6 s){hp:aH Cell}{p:Nat}{N:Int->Int}(h:qS s hp p N){x:Int}{j:Nat}(aD:rx x=some j)(jx:0<N x∧N x<100000):
 bN (BE hp (some p) x) (λr=>(∃c,r.2=cr hp p c)∧qS s r.2 p (bump N x (-1))):=by
 obtain⟨iQ,h1,ad⟩:=h.cell
 have aC:=Lg aD
 have e:ua x=(j:Int):=by unfold ua;rw[aD]
 have hC:cu iQ j=N x:=by rw[ad j aC,(Cy aC).2 aD]
 unfold BE
 refine .eq (X0 hs h x) ?_
 rw[e]
 have hd:decide ((j:Int)<0)=false:=by simp
 simp only[hd]
 refine .eq (a:=p) I (.eq (a:=j) (by unfold cb;rw[br I];exact xv (by omega)) (.eq (a:=⟨s.fj,iQ⟩) (by unfold cb;rw[br I];exact h1) (.cond (λak=>?_) λak=>?_)))
 ·simp only[sL,oT,hC]at ak;omega
 refine .eq (a:=p) I (.idx I (by omega) (.eq h1 (.idx I (by omega) (.eq I (.ret ⟨⟨_,rfl⟩,?_⟩)))))
 have hw:bo (cu iQ j-1)=N x+ -1:=by rw[hC];exact jr (by omega) (by omega)
 simp only[hw]
 exact qS.bump h1 ad aD (-1)
end Go.Proofs.YtdadopcnkghbaaaGreat
