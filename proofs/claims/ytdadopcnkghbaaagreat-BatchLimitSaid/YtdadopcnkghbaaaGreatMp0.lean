/-
  What the programs compute, in plain Lean. Conditions: none.
-/
import Derived.Test.YtdadopcnkghbaaaGreatMl0
import Derived.Test.YtdadopcnkghbaaaGreatMd
import Derived.Test.YtdadopcnkghbaaaGreatMl1
set_option linter.defProp false
set_option linter.unusedVariables false
set_option linter.unusedSimpArgs false
set_option maxRecDepth 100000
namespace Gv
open Go
def SE{σ ε:Type}{body:σ->av (σ⊕ε)}{Q:ε->Prop}{s0:σ}(m:Nat)(eX:Nat->σ->Prop)
 (hm:m<2^80) (bw:eX 0 s0)
 (hs:∀k s,k<m->eX k s->(∃b1,body s=some (.inl b1)∧eX (k+1) b1)∨(∃e,body s=some (.inr e)∧Q e))
 (he:∀s,eX m s->∃e,body s=some (.inr e)∧Q e):∃e,eh dW body s0=some e∧Q e:=by
 have key:∀n k s,k<=m->m-k<n->eX k s->∃e,eh n body s=some e∧Q e:=by
  intro n;induction n with
  |zero=>intro k s _ h;omega
  | succ n bN=>
    intro k s hk aG aw
    by_cases Ez:k=m
    ·subst Ez
     obtain⟨e,h1,ad⟩:=he s aw
     exact⟨e,by simp[eh,h1],ad⟩
    rcases hs k s (by omega) aw with⟨b1,h1,ad⟩|⟨e,h1,ad⟩
    ·obtain⟨e,ay,aN⟩:=bN (k+1) b1 (by omega) (by omega) ad
     exact⟨e,by simp[eh,h1,ay],aN⟩
    exact⟨e,by simp[eh,h1],ad⟩
 exact key dW 0 s0 (by omega) (by unfold dW;omega) bw
def bF{β:Type}(m:av β)(P:β->Prop):Prop:=∃r,m=some r∧P r
def bF.ret{β:Type}{P:β->Prop}{r:β}(h:P r):bF (some r) P:=⟨r,rfl,h⟩
def bF.bind{α β:Type}{m:av α}{f:α->av β}{P:α->Prop}{Q:β->Prop}(h:bF m P)(k:∀a,P a->bF (f a) Q):bF (m.bind f) Q:=by
 obtain⟨a,h1,ad⟩:=h;rw[h1];exact k a ad
def bF.eq{α β:Type}{m:av α}{a:α}{f:α->av β}{Q:β->Prop}(h:m=some a)(k:bF (f a) Q):bF (m.bind f) Q:=by
 rw[h];exact k
def bF.mono{β:Type}{m:av β}{P Q:β->Prop}(h:bF m P)(k:∀a,P a->Q a):bF m Q:=by
 obtain⟨a,h1,ad⟩:=h;exact⟨a,h1,k a ad⟩
def bF.of_eq{β:Type}{m:av β}{r:β}{P:β->Prop}(h:bF m P)(k:m=some r):P r:=by
 obtain⟨a,h1,ad⟩:=h;rw[k]at h1;cases h1;exact ad
def bF.cond{β:Type}{b:Bool}{m n:av β}{P:β->Prop}(h1:b=true->bF m P)(ad:b=false->bF n P):bF (cond b m n) P:=by
 cases b
 ·exact ad I
 exact h1 I
def bF.cj{α β:Type}[Inhabited α]{b w:Bool}{m:av α}{f:α->av β}{P:α->Prop}{Q:β->Prop}(h:b=w->bF m P)(k:∀a,(b=w->P a)->bF (f a) Q):bF ((cj b w m).bind f) Q:=by
 unfold Gv.cj;by_cases hb:b=w
 ·rw[bm hb];exact(h hb).bind λa a1=>k a λ_=>a1
 rw[bk hb];exact k default λh=>absurd h hb
def bF.loop{σ ε β:Type}{body:σ->av (σ⊕ε)}{f:ε->av β}{P:β->Prop}{s0:σ}(m:Nat)(eX:Nat->σ->Prop)
 (hm:m<2^80) (bw:eX 0 s0)
 (hs:∀k s,k<m->eX k s->bF (body s) (λx=>match x with | .inl b1=>eX (k+1) b1| .inr e=>bF (f e) P))
 (he:∀s,eX m s->∃e,body s=some (.inr e)∧bF (f e) P):bF ((eh dW body s0).bind f) P:=by
 obtain⟨e,h1,ad⟩:=SE (Q:=λe=>bF (f e) P) m eX hm bw (λk s hk aw=>by
  obtain⟨r,h1,ad⟩:=hs k s hk aw;cases r with
  |inl b1=>exact .inl ⟨b1,h1,ad⟩
  |inr e=>exact .inr ⟨e,h1,ad⟩) he
 rw[h1];exact ad
def bF.qn{σ ε:Type}{body:σ->av (σ⊕ε)}{P:ε->Prop}{s0:σ}(m:Nat)(eX:Nat->σ->Prop)
 (hm:m<2^80) (bw:eX 0 s0)
 (hs:∀k s,k<m->eX k s->bF (body s) (λx=>match x with | .inl b1=>eX (k+1) b1| .inr e=>P e))
 (he:∀s,eX m s->bF (body s) (λx=>match x with | .inl _=>False| .inr e=>P e)):bF (eh dW body s0) P:=by
 obtain⟨e,h1,ad⟩:=SE (Q:=P) m eX hm bw (λk s hk aw=>by
  obtain⟨r,h1,ad⟩:=hs k s hk aw;cases r with
  |inl b1=>exact .inl ⟨b1,h1,ad⟩
  |inr e=>exact .inr ⟨e,h1,ad⟩) λs aw=>by
  obtain⟨r,h1,ad⟩:=he s aw;cases r with
  |inl b1=>exact ad.elim
  |inr e=>exact⟨e,h1,ad⟩
 exact⟨e,h1,ad⟩
def bF.idx{β:Type}{n:Nat}{i:Int}{k:Nat}{f:Nat->av β}{Q:β->Prop}(aw:i=k)(hk:k<n)(h:bF (f k) Q):bF ((Gv.idx n i).bind f) Q:=by
 subst aw;have:Gv.idx n (k:Int)=some k:=by unfold Gv.idx;rw[bm (by omega)];simp
 rw[this];exact h
def w9{α:Type}[Inhabited α]{n:Nat}(v:Vector α n){k:Nat}(x:α)(hk:k<n)(j:Nat):b9 (iq v k x) j=if j=k then x else b9 v j:=by
 unfold b9 iq;by_cases h:j=k
 ·subst h;simp[hk]
 rw[bk h,Vector.getElem?_setIfInBounds_ne (by omega)]
def SF{α:Type}[Inhabited α]{n:Nat}{v w:Vector α n}(h:∀j,j<n->b9 v j=b9 w j):v=w:=by
 apply Vector.ext;intro i aw;have:=h i aw;simpa[b9,aw]using this
def Ld{α:Type}[Inhabited α]{n:Nat}(j:Nat):b9 (default:Vector α n) j=default:=by
 show b9 (Vector.replicate n default) j=default;unfold b9;by_cases h:j<n <;> simp[h]
def u7{n k:Nat}(h:k<n):idx n (k:Int)=some k:=by
 unfold idx;rw[bm (by omega)];simp
def Hl{n:Nat}{i:Int}(h:0<=i)(cC:i<n):idx n i=some i.toNat:=by
 unfold idx;rw[bm ⟨h,cC⟩]
def gY{k:Nat}(h:k<2^62):bz ((k:Int)+1)=((k+1:Nat):Int):=by
 rw[hr (by omega) (by omega)];simp
def Hm{k:Nat}(h:k<2^64):(BitVec.ofInt 64 (k:Int)).toNat=k:=by
 simp;omega
def adz(x:BitVec 64):((x&&&1#64)==1#64)=x.getLsbD 0:=by
 rw[BitVec.and_one_eq_setWidth_ofBool_getLsbD];cases x.getLsbD 0 <;> rfl
def CV{α β:Type}[Inhabited α][Inhabited β](f:α->β){l:aa α}{k:Nat}(hk:k<l.length):aF (l.map f) k=f (aF l k):=by
 rw[e2 l hk,e2 _ (by simpa using hk),y4]
def Ra{α:Type}[Inhabited α](l:aa α){k:Nat}(hk:k<l.length):l.take (k+1)=l.take k++[aF l k]:=by
 rw[Kb,oO hk,e2 l hk];rfl
def adA{α:Type}[Inhabited α]{xs:aa α}{p:α->Bool}{k:Nat}(hk:k<xs.length)(hp:p (aF xs k)=true)(aD:∀j,j<k->p (aF xs j)=false):xs.find? p=some (aF xs k):=by
 rw[List.find?_eq_some_iff_getElem];refine⟨hp,k,hk,(e2 xs hk).symm,λj ui=>?_⟩;have:=aD j ui;rw[e2 xs (by omega)]at this;simp[this]
def adB{α:Type}{xs:aa α}{p:α->Bool}(h:∀x∈xs,p x=false):xs.find? p=none:=
 FI.2 λx al=>by simp[h x al]
end Gv
namespace Go.Proofs.YtdadopcnkghbaaaGreat
open Go Gv
def iU{α:Type}{b:Nat}(xs ys:aa α)(h:xs.length+ys.length<=1000000)(hb:b<=100000):fv b xs ys=some (xs++ys):=by
 unfold fv;rw[bm];unfold maxLen;refine⟨oQ (Nat.mul_le_mul h hb) (by omega),by omega⟩
def jY(c:e6):Prop:=0<=c.vv∧c.cK.length<=1000
def Mb(l:aa (BitVec 8))(n:Int)(bw:0<=n)(h1:n<=1000):bF (uV l n) jY:=by
 unfold uV;refine .eq (a:=(l.drop 0).take ((min (l.length:Int) n).toNat-0)) ?_ (.ret ⟨KR 0,?_⟩)
 ·unfold ss;rw[bm ⟨by omega,by omega,by omega⟩];rfl
 simp only[fg,jh];omega
def jm(c:e6)(n:Int)(ak:jY c)(aG:1<=n):bF (h4 c n) (λr=>jY r.2∧0<=r.1∧r.1<n∧r.1<256):=by
 unfold h4 Gi;obtain⟨l,a⟩:=c;obtain⟨bw,h1⟩:=ak;simp only at bw h1;obtain⟨k,rfl⟩:=uH bw;refine .eq I (.cond (λ_=>.ret ⟨⟨bw,h1⟩,by omega,by omega,by omega⟩) λh=>?_);simp only[P6,Qj,fZ,mD]at h;have az:bz ((k:Int)+1)=((k+1:Nat):Int):=gY (by omega);simp only[az];have a8:bz (((k+1:Nat):Int)-1)=(k:Int):=by rw[hr (by omega) (by omega)];omega
 rw[a8];refine .idx I (by omega) (.eq (by unfold sK;rw[bk (by omega)]) (.ret ⟨⟨by simp only;omega,h1⟩,?_,?_,?_⟩))
 ·exact Kl _ (by omega)
 ·exact BA _ (by omega)
 simp only;have ay:(aF l k).toNat<256:=(aF l k).isLt;obtain⟨m,rfl⟩:=uH (show 0<=n by omega);have aN:(((aF l k).toNat:Int)).tmod m=(((aF l k).toNat % m:Nat):Int):=(Int.ofNat_tmod _ _).symm;have a6:=Nat.mod_le (aF l k).toNat m;omega
def oW(c:e6)(ak:jY c):bF (l9 c) (λr=>jY r.2):=by
 unfold l9;exact .bind (jm c 2 ak (by omega)) λy h=>.ret h.1
def RE(c:e6)(ak:jY c):bF (BY c) (λr=>jY r.2∧r.1.length=3):=by
 unfold BY;refine .bind (jm c 4 ak (by omega)) λan h1=>?_;refine .eq (Hl h1.2.1 (by simpa using h1.2.2.1)) (.eq I (.eq I (.bind (oW _ h1.1) λaH ad=>?_)));refine .bind (P:=λm=>jY m.1) (.cond (λ_=>?_) (λ_=>.ret ad)) λm1 b7=>?_
 ·refine .bind (jm _ 2 ad (by omega)) λcS bh=>.eq I (.bind (jm _ 4 bh.1 (by omega)) λdg cH=>?_);exact .eq (Hl cH.2.1 (by simpa using cH.2.2.1)) (.eq I (.eq (iU _ _ (by simp) (by omega)) (.ret cH.1)))
 refine .bind (jm _ 4 b7 (by omega)) λbf ay=>.eq (Hl ay.2.1 (by simpa using ay.2.2.1)) (.eq I (.eq I ?_));refine .bind (jm _ 3 ay.1 (by omega)) λbI aN=>?_;refine .bind (P:=λm=>jY m.1) (.cond (λ_=>?_) (λ_=>.ret aN.1)) λm2 dy=>.ret ⟨dy,rfl⟩;exact .bind (jm _ 3 aN.1 (by omega)) λbZ a6=>.eq I (.ret a6.1)
def tM(a:eD):Int×aa Int:=(a.b2,a.oU.map (·.iW))
def DJ:aa (Int×aa Int):=[(1,[]),(2,[]),(3,[16]),(4,[4]),(5,[4,12]),(6,[])]
def acu{α β:Type}[Inhabited α](f:α->β)(l:aa α)(k:Nat)(x:α)(h:f x=f (aF l k)):(fi l k x).map f=l.map f:=by
 unfold fi;apply BP
 ·simp
 intro i h1 ad;simp only[jO,sc]at h1;simp only[y4,List.getElem_set];split
 ·rename_i e;subst e;rw[h,e2 l h1]
 rfl
def zH{α β:Type}[Inhabited α](f:α->β){l:aa α}{k:Nat}{x:α}{r:aa β}(h:f x=f (aF l k))(ao:l.map f=r):(fi l k x).map f=r:=(acu f l k x h).trans ao
def Rp(c:e6)(ak:jY c):bF (wG c) (λr=>jY r.2∧r.1.map tM=DJ):=by
 unfold wG;refine .eq I (.eq I (.eq I (.eq I (.eq I (.eq I (.eq I (.eq I (.eq I (.eq I (.eq I (.eq I (.eq I ?_))))))))))));refine .bind (jm _ 2 ak (by omega)) λan h1=>.eq I (.bind (jm _ 256 h1.1 (by omega)) λaH ad=>.eq I (.eq I (.eq I ?_)));refine .bind (oW _ ad.1) λbf ay=>?_;refine .bind (P:=λm=>m.map tM=DJ) (.cond (λ_=>?_) (λ_=>.ret I)) λm1 b7=>?_
 ·exact .idx (k:=2) I (by simp) (.eq I (.ret (zH tM I I)))
 refine .bind (oW _ ay) λbI aN=>.bind (P:=λm=>m.map tM=DJ) (.cond (λ_=>?_) (λ_=>.ret b7)) λm2 dy=>.ret ⟨aN,dy⟩;have ao:m1.length=6:=by rw[<-jO (f:=tM),b7];rfl
 exact .idx (k:=4) I (by omega) (.eq I (.ret (zH tM I b7)))
def qQ:c3:= {cd:=ByteArray.mk #[97],hE:=4,du:=1}
def yE:c3:= {cd:=ByteArray.mk #[100],hE:=7,du:=2}
def Pu:c3:= {cd:=ByteArray.mk #[109],hE:=3,du:=1}
def Fk:c3:= {cd:=ByteArray.mk #[101],hE:=6,du:=3}
def EM:c3:= {cd:=ByteArray.mk #[97],hE:=4,du:=3}
def Pv:c3:= {cd:=ByteArray.mk #[98],hE:=5,du:=1}
def Fl:c3:= {cd:=ByteArray.mk #[102],hE:=8,du:=4}
def Pw:c3:= {cd:=ByteArray.mk #[103],hE:=9,du:=1}
def kb(t:bC):Int×aa Int×aa c3:=(t.b2,t.dD,t.ca)
def vo(b:Bool):aa c3:=if b then [yE,Pu]else [yE]
def xD(b:Bool):aa c3:=if b then [Fk,EM,Pv]else [Fk,EM]
def xE(b:Bool):aa c3:=if b then [Fl,Pw,yE]else [Fl]
def tV(cZ dA gF:Bool):aa (Int×aa Int×aa c3):=
 [(1,[1,2,4],[qQ]),(2,[1,2,3,4],vo cZ),(3,[1,2,3,5,6],xD dA),(4,[1,3,5],xE gF)]
def RF(c:e6)(ak:jY c):bF (BZ c) (λr=>jY r.2∧(∀x∈r.1.map (·.e3),2<=x∧x<=16)∧∃cZ dA gF,r.1.map kb=tV cZ dA gF):=by
 unfold BZ;refine .eq I (.bind (jm _ 2 ak (by omega)) λan h1=>.bind (jm _ 5 h1.1 (by omega)) λaH ad=>.eq I (.eq I ?_));refine .bind (jm _ 6 ad.1 (by omega)) λbf ay=>.bind (oW _ ay.1) λbI aN=>?_;refine .bind (P:=λm=>(m.1.b2=2∧m.1.dD=[1,2,3,4]∧m.1.e3=bz (3+bf.1))∧∃b,m.2=vo b) (.cond (λ_=>?_) (λ_=>.ret ⟨⟨rfl,rfl,rfl⟩,false,rfl⟩)) λm1 b7=>?_
 ·exact .eq I (.eq (iU _ _ (by simp) (by omega)) (.ret ⟨⟨rfl,rfl,rfl⟩,true,rfl⟩))
 refine .eq I (.eq I (.bind (jm _ 6 aN (by omega)) λbZ a6=>.bind (oW _ a6.1) λcS bh=>?_));refine .bind (P:=λm=>(m.1.b2=3∧m.1.dD=[1,2,3,5,6]∧m.1.e3=bz (4+bZ.1))∧∃b,m.2=xD b) (.cond (λ_=>?_) (λ_=>.ret ⟨⟨rfl,rfl,rfl⟩,false,rfl⟩)) λm2 dy=>?_
 ·exact .eq I (.eq (iU _ _ (by simp) (by omega)) (.ret ⟨⟨rfl,rfl,rfl⟩,true,rfl⟩))
 refine .eq I (.bind (jm _ 5 bh (by omega)) λdg cH=>.bind (oW _ cH.1) λeB ed=>?_);refine .bind (P:=λm=>(m.1.b2=4∧m.1.dD=[1,3,5]∧m.1.e3=bz (3+dg.1))∧∃b,m.2=xE b) (.cond (λ_=>?_) (λ_=>.ret ⟨⟨rfl,rfl,rfl⟩,false,rfl⟩)) λm3 fE=>?_
 ·exact .eq I (.eq I (.eq (iU _ _ (by simp) (by omega)) (.ret ⟨⟨rfl,rfl,rfl⟩,true,rfl⟩)))
 refine .eq I (.eq I (.eq I (.eq I (.eq I ?_))));obtain⟨⟨bK,a2,a4⟩,cZ,a3⟩:=b7;obtain⟨⟨c1,c2,gy⟩,dA,dM⟩:=dy;obtain⟨⟨d1,d2,d4⟩,gF,d3⟩:=fE;refine bF.loop 4 (λk s=>s.1=(k:Int)∧s.2.1.map kb=tV cZ dA gF∧jY s.2.2∧s.2.1.map (·.e3)=[bz (2+aH.1),bz (3+bf.1),bz (4+bZ.1),bz (3+dg.1)]) (by omega) ⟨rfl,?_,ed,?_⟩ (λk s hk aw=>?_) (λs aw=>?_)
 ·simp only[mJ,Gx,kb,bK,a2,a3,c1,c2,dM,d1,d2,d3,tV];rfl
 ·simp only[mJ,Gx,a4,gy,d4]
 ·obtain⟨i,cB,Jt⟩:=s;obtain⟨az,a8,dw,h2⟩:=aw;simp only at az a8 dw h2;subst az;refine bF.cond (λ_=>?_) (λh=>by simp at h;omega);have ao:cB.length=4:=by rw[<-jO (f:=kb),a8];rfl
  refine .idx I (by simpa using hk) (.bind (jm _ 3 dw (by omega)) λiD e5=>.eq (Hl e5.2.1 ?_) (.idx I (by simp only;omega) (.eq I (.ret ⟨gY (by omega),?_,e5.1,?_⟩))))
  ·have lS:=e5.2.2.1;have:k=0∨k=1∨k=2∨k=3:=by omega
   rcases this with rfl|rfl|rfl|rfl <;> exact lS
  ·exact zH kb I a8
  exact zH bC.e3 I h2
 obtain⟨i,cB,Jt⟩:=s;obtain⟨az,a8,dw,h2⟩:=aw;simp only at az a8 dw h2;subst az;refine⟨_,rfl,?_⟩;refine .ret ⟨dw,λx al=>?_,cZ,dA,gF,a8⟩;rw[h2]at al;have g2:=ad.2;have g3:=ay.2;have g5:=a6.2;have g7:=cH.2;simp only[dB,uL,uR]at al;rcases al with rfl|rfl|rfl|rfl <;> (rw[hr (by omega) (by omega)];omega)
def Tn(n:Nat)(h:n<=1000):vI (α:=Bool) 1 (n:Int)=some (List.replicate n default):=by
 unfold vI;rw[bm ⟨by omega,by omega,by omega⟩];simp
def abM(c:e6)(cB:aa bC)(ak:jY c)(ao:cB.length<=1000)(hk:∀t∈cB,t.ca.length<=1000):bF (ti c cB) (λr=>jY r.2∧r.1.map (·.b2)=[1,2,7]):=by
 unfold ti;refine .bind (jm _ 3 ak (by omega)) λan h1=>.bind (jm _ 6 h1.1 (by omega)) λaH ad=>.bind (jm _ 6 ad.1 (by omega)) λbf ay=>.bind (jm _ 4 ay.1 (by omega)) λbI aN=>?_;refine bF.loop cB.length (λk s=>s.1=(k:Int)∧jY s.2.2.2.1∧s.2.2.1.length<=k∧s.2.2.2.2.2.1.length<=k∧s.2.2.2.2.2.2.2.length<=k∧s.2.1.b2=7∧s.2.2.2.2.1.b2=2∧s.2.2.2.2.2.2.1.b2=1) (by omega) ⟨rfl,aN.1,by simp,by simp,by simp,rfl,rfl,rfl⟩ (λk s vV aw=>?_) (λs aw=>?_)
 ·obtain⟨i,iR,g1,Jt,eS,g2,ko,g3⟩:=s;obtain⟨az,a8,dw,h2,nf,i1,i2,i3⟩:=aw;simp only at az a8 dw h2 nf i1 i2 i3;subst az;refine bF.cond (λ_=>?_) (λh=>by simp at h;omega);have Wk:(aF cB k).ca.length<=1000:=hk _ (by rw[e2 cB vV];exact mH vV);refine .idx I vV (.eq (Tn _ Wk) (.eq (Tn _ Wk) ?_));refine bF.loop (aF cB k).ca.length (λj s=>s.1=(j:Int)∧s.2.1.length=(aF cB k).ca.length∧s.2.2.1.length=(aF cB k).ca.length∧jY s.2.2.2) (by omega) ⟨rfl,by simp,by simp,a8⟩ (λj s aD aw=>?_) (λs aw=>?_)
  ·obtain⟨i,cZ,dA,Xh⟩:=s;obtain⟨f1,f2,f3,f4⟩:=aw;simp only at f1 f2 f3 f4;subst f1;refine bF.cond (λ_=>?_) (λh=>by simp at h;omega);exact .bind (jm _ 4 f4 (by omega)) λdg cH=>.idx I (by simp only;omega) (.idx I (by simp only;omega) (.ret ⟨gY (by omega),by simp[fi,f2],by simp[fi,f3],cH.1⟩))
  obtain⟨i,cZ,dA,Xh⟩:=s;obtain⟨f1,f2,f3,f4⟩:=aw;simp only at f1 f2 f3 f4;subst f1;refine⟨_,by simp;rfl,?_⟩;refine .eq I (.eq (iU _ _ (by simp;omega) (by omega)) (.bind (jm _ 4 f4 (by omega)) λiD e5=>?_));refine .bind (P:=λm=>jY m.1∧m.2.2.length<=k+1∧m.2.1.b2=2) (.cond (λ_=>?_) (λ_=>.ret ⟨e5.1,by simp only;omega,i2⟩)) λm1 b7=>?_
  ·exact .bind (jm _ 4 e5.1 (by omega)) λmW ON=>.bind (oW _ ON.1) λxY alF=>.eq I (.eq (iU _ _ (by simp;omega) (by omega)) (.ret ⟨alF,by simp;omega,i2⟩))
  refine .bind (oW _ b7.1) λiy lS=>?_;refine .bind (P:=λm=>jY m.1∧m.2.2.length<=k+1∧m.2.1.b2=7) (.cond (λ_=>?_) (λ_=>.ret ⟨lS,by simp only;omega,i1⟩)) λm2 dy=>?_
  ·exact .bind (oW _ lS) λou EN=>.bind (oW _ EN) λkC EO=>.eq I (.eq (iU _ _ (by simp;omega) (by omega)) (.ret ⟨EO,by simp;omega,i1⟩))
  exact .ret ⟨gY (by omega),dy.1,dy.2.1,b7.2.1,by simp;omega,dy.2.2,b7.2.2,i3⟩
 obtain⟨i,iR,g1,Jt,eS,g2,ko,g3⟩:=s;obtain⟨az,a8,dw,h2,nf,i1,i2,i3⟩:=aw;simp only at az a8 dw h2 nf i1 i2 i3;subst az;refine⟨_,by simp;rfl,?_⟩;exact .eq I (.eq I (.ret ⟨a8,by simp only[mJ,Gx,i1,i2,i3]⟩))
def NY:aa (Int×Int):=[(1,16),(2,16),(3,8),(4,4),(5,4),(6,8),(7,32),(8,12),(9,4)]
def Ak(f:gV):Int×Int:=(f.b2,f.iW)
structure cQ(s:aR):Prop where
 fields:s.jl.map Ak=NY
 headers:s.w8.length=3
 aeE:s.zL.length=3
 adC:s.dD.map tM=DJ
 tables:∃cZ dA gF,s.bM.map kb=tV cZ dA gF
 Nr:s.fk.map (·.b2)=[1,2,7]
 ahd:∀x∈s.bM.map (·.e3),2<=x∧x<=16
def cQ.tW{s:aR}(h:cQ s):s.fk.length=3:=by rw[<-jO (f:=(·.b2)),h.Nr];rfl
def cQ.DK{s:aR}(h:cQ s):s.jl.length=9:=by rw[<-jO (f:=Ak),h.fields];rfl
def cQ.oo{s:aR}(h:cQ s):s.bM.length=4:=by obtain⟨cZ,dA,gF,h1⟩:=h.tables;rw[<-jO (f:=kb),h1];rfl
def RG(c:e6)(ak:jY c):bF (p7 c) (λr=>cQ r.1∧jY r.2):=by
 unfold p7;refine .bind (jm _ 8 ak (by omega)) λan h1=>.bind (jm _ 30 h1.1 (by omega)) λaH ad=>?_;refine .eq I (.eq I (.eq I (.eq I (.eq I (.eq I (.eq I (.eq I (.eq I (.eq I (.eq I (.eq I ?_)))))))))));refine .bind (RE _ ad.1) λbf ay=>.bind (Rp _ ay.1) λbI aN=>.bind (RF _ aN.1) λbZ a6=>.eq I (.eq I ?_);obtain⟨alG,da,cZ,dA,gF,a6⟩:=a6;have ao:bZ.1.length=4:=by rw[<-jO (f:=kb),a6];rfl
 have ahe:∀t∈bZ.1,t.ca.length<=1000:=λt bq=>by
  have bh:kb t∈tV cZ dA gF:=a6▸List.mem_map_of_mem bq;have cH:∀p∈tV cZ dA gF,p.2.2.length<=1000:=by
   intro p hp;simp only[tV,dB,uL,uR]at hp;rcases hp with rfl|rfl|rfl|rfl
   ·simp
   ·cases cZ <;> simp[vo]
   ·cases dA <;> simp[xD]
   cases gF <;> simp[xE]
  exact cH _ bh
 refine .bind (abM _ _ alG (by simp only;omega) ahe) λcS bh=>.eq I (.bind (oW _ bh.1) λdg cH=>?_);let Inv (s:aR):Prop:=s.jl.map Ak=NY∧s.w8.length=3∧s.zL.length=3∧s.dD.map tM=DJ∧s.bM=bZ.1∧s.fk.map (·.b2)=[1,2,7];have hinv:∀(st:aa fI) (py:aa ev) (s:aR),Inv s->Inv {s with pB:=st,eE:=py}:=λst py s h=>h;refine .bind (P:=λ_=>True) (.cond (λ_=>.eq (iU _ _ (by simp) (by omega)) (.ret q5)) (λ_=>.ret q5)) λm1 _=>?_;refine .bind (oW _ cH) λeB ed=>?_;refine .bind (P:=λm=>Inv m.1∧m.2.length<=10) (.cond (λ_=>.eq I (.eq (iU _ _ (by simp) (by omega)) (.ret ⟨⟨rfl,rfl,ay.2,aN.2,rfl,bh.2⟩,by simp⟩))) (λ_=>.ret ⟨⟨rfl,rfl,ay.2,aN.2,rfl,bh.2⟩,by simp⟩)) λm2 dy=>?_;refine .bind (oW _ ed) λiD e5=>?_;refine .cj (P:=λ_=>True) (λ_=>⟨2,u7 (k:=2) (by rw[dy.1.2.2.2.2.1];omega),trivial⟩) λaW _=>?_;refine .bind (P:=λm=>Inv m.1∧m.2.length<=11) (.cond (λ_=>.eq I (.eq (iU _ _ (by have:=dy.2;simp;omega) (by omega)) (.ret ⟨dy.1,by have:=dy.2;simp;omega⟩))) (λ_=>.ret ⟨dy.1,by have:=dy.2;simp only;omega⟩)) λm3 fE=>?_;refine .bind (oW _ e5) λiy lS=>?_;refine .cj (P:=λ_=>True) (λ_=>⟨3,u7 (k:=3) (by rw[fE.1.2.2.2.2.1];omega),trivial⟩) λbP _=>?_;refine .bind (P:=λm=>Inv m.1∧m.2.length<=13) (.cond (λ_=>.eq I (.eq I (.eq (iU _ _ (by have:=fE.2;simp;omega) (by omega)) (.ret ⟨fE.1,by have:=fE.2;simp;omega⟩)))) (λ_=>.ret ⟨fE.1,by have:=fE.2;simp only;omega⟩)) λm4 DZ=>?_;obtain⟨⟨i1,i2,i3,i4,i5,i6⟩,_⟩:=DZ;exact .eq I (.ret ⟨⟨i1,i2,i3,i4,⟨cZ,dA,gF,by simp only[i5];exact a6⟩,i6,by simp only[i5];exact da⟩,lS⟩)
def cQ.size{s:aR}(h:cQ s){k:Nat}(hk:k<4):2<=(aF s.bM k).e3∧(aF s.bM k).e3<=16:=by
 have ao:=h.oo;exact h.ahd _ (gH.2 ⟨_,by rw[e2 _ (by omega)];exact mH _,rfl⟩)
def adD(x:Int)(n:Int)(h1:1<=n)(ad:n<=1000000):bF (CG x n) (λr=>0<=r∧r<n):=by
 unfold CG;refine .cond (λh=>by simp at h;omega) λ_=>?_;have hm:∀y:Int,sK y n=some (y.tmod n):=λy=>by unfold sK;rw[bk (by omega)]
 refine .eq (hm _) ?_;have ay:=BA x (show 0<n by omega);have aN: -n<x.tmod n:=by
  have:=BA (-x) (show 0<n by omega);rw[Int.neg_tmod]at this;omega
 rw[hr (by omega) (by omega)];exact .eq (hm _) (.ret ⟨Kl _ (by omega),BA _ (by omega)⟩)
def de(v:aX)(i:Nat):Bool:=if i<64 then v.dp.getLsbD i else v.ey.getLsbD (i-64)
def TQ{v w:aX}(h:∀j,j<128->de v j=de w j):v=w:=by
 cases v with |mk amv amw=>cases w with |mk amx wl=>
 have h1:amv=amx:=by
  apply PQ;intro i aw;have:=h (i+64) (by omega);simpa[de,show ¬(i+64<64) by omega]using this
 have ad:amw=wl:=by
  apply PQ;intro i aw;have:=h i (by omega);simpa[de,aw]using this
 rw[h1,ad]
def DL(x y:aX):aX:= {ey:=x.ey&&&y.ey,dp:=x.dp&&&y.dp}
def Xi(x y:aX):aX:= {ey:=x.ey|||y.ey,dp:=x.dp|||y.dp}
def NZ(x y:aX):aX:= {ey:=x.ey ^^^ y.ey,dp:=x.dp ^^^ y.dp}
@[simp] theorem adE (x y:aX) (j:Nat):de (DL x y) j=(de x j&&de y j):=by unfold de DL;split <;> simp
@[simp] theorem amK (x y:aX) (j:Nat):de (Xi x y) j=(de x j||de y j):=by unfold de Xi;split <;> simp
@[simp] theorem adF (x y:aX) (j:Nat):de (NZ x y) j=(de x j ^^ de y j):=by unfold de NZ;split <;> simp
def and_eq(x y:aX):zD x y=some (DL x y):=rfl
def xor_eq(x y:aX):CH x y=some (NZ x y):=rfl
def SG(v:aX)(n:Nat)(aG:n<2^62):bF (zy v n) (λr=> ∀j,j<128->de r j=de v (j+n)):=by
 unfold zy;refine .cond (λh=>.ret λj aD=>?_) (λh=>.cond (λcC=>.eq I (.ret λj aD=>?_)) (λcC=>.eq I (.eq I (.ret λj aD=>?_))))
 ·have:n=0:=by simp at h;omega
  simp[this]
 ·simp only[fZ]at cC;have az:bz ((n:Int)-64)=((n-64:Nat):Int):=by rw[hr (by omega) (by omega)];omega
  rw[az,Hm (by omega)];unfold de;by_cases aD:j<64
  ·rw[bm aD,bk (by omega)];simp only[JB];congr 1;omega
  rw[bk aD,bk (by omega)];rw[show(default:aX).ey=0#64 from rfl,BitVec.getLsbD_zero,P5 _ _ (by omega)]
 simp only[mD]at h cC;have az:bz (64-(n:Int))=((64-n:Nat):Int):=by rw[hr (by omega) (by omega)];omega
 rw[az,Hm (by omega),Hm (by omega)];unfold de;by_cases aD:j<64
 ·rw[bm aD];simp only[BitVec.getLsbD_or,JB,BitVec.getLsbD_shiftLeft];by_cases ay:j+n<64
  ·rw[bm ay];have:j<64-n:=by omega
   simp[this,KL]
  rw[bk ay,P5 _ (n+j) (by omega)];have: ¬(j<64-n):=by omega
  simp only[aD,this,KU,KN,wM,Bool.not_false,tj];congr 1;omega
 rw[bk aD,bk (by omega)];simp only[JB];congr 1;omega
def aeF(v:aX)(i:Int):bF (w3 v i) (λr=>r=(decide (0<=i∧i<128)&&de v i.toNat)):=by
 unfold w3;refine .cj (P:=λr=> ∀j,j<128->de r j=de v (j+i.toNat)) (λh=>?_) λy hy=>.eq I (.ret ?_)
 ·simp at h;obtain⟨n,rfl⟩:=uH h.1;exact SG v n (by omega)
 by_cases h:0<=i∧i<128
 ·have h1:(decide (i>=0)&&decide (i<128))=true:=by simp;omega
  rw[h1,adz];have:=hy h1 0 (by omega);rw[show de y 0=y.dp.getLsbD 0 from rfl,iS]at this;rw[this,za h]
 have h1:(decide (i>=0)&&decide (i<128))=false:=by simp;omega
 simp[h1,h]
def adG(x y:aX):bF (CH x y) (λr=> ∀j,j<128->de r j=(de x j ^^ de y j)):=⟨_,xor_eq x y,λj _=>adF x y j⟩
def To(n:Int):bF (uU n) (λr=> ∀j,j<128->de r j=decide ((j:Int)<n)):=by
 unfold uU zu;refine .eq I (.eq I ?_);have hm:bz (128-min (max 0 n) 128)=((128-min (max 0 n) 128).toNat:Int):=by rw[hr (by omega) (by omega)];omega
 rw[hm];refine(SG _ _ (by omega)).bind λr aC=>.ret λj aD=>?_;rw[aC j aD];have oj:∀i,de {ey:=18446744073709551615#64,dp:=18446744073709551615#64} i=decide (i<128):=by
  intro i;have aS:(18446744073709551615#64)=BitVec.allOnes 64:=by rfl
  unfold de;simp only[aS,BitVec.getLsbD_allOnes];by_cases h:i<64
  ·simp[h];omega
  simp[h];omega
 rw[oj,decide_eq_decide];omega
def DM:aa Int:=[16,16,8,4,4,8,32,12,4]
def cQ.OO{s:aR}(h:cQ s){k:Nat}(hk:k<9):(aF s.jl k).b2=(k:Int)+1∧(aF s.jl k).iW=aF DM k:=by
 have h1:=CV Ak (l:=s.jl) (k:=k) (by rw[h.DK];exact hk);rw[h.fields]at h1;have ad:aF NY k=((k:Int)+1,aF DM k):=by
  have:k=0∨k=1∨k=2∨k=3∨k=4∨k=5∨k=6∨k=7∨k=8:=by omega
  rcases this with rfl|rfl|rfl|rfl|rfl|rfl|rfl|rfl|rfl <;> rfl
 rw[ad]at h1;simp only[Ak,zg]at h1;exact⟨h1.1.symm,h1.2.symm⟩
def rb(key:c3):Prop:=∃j:Nat,j<9∧key.hE=(j:Int)+1∧1<=key.du∧key.du<=4∧4<=aF DM j∧aF DM j<=32∧(key.du=2->j=6)
def Ju(key:c3):Int:=aF DM (key.hE-1).toNat
def cQ.k3{s:aR}(h:cQ s){k:Nat}(hk:k<4):(aF s.bM k).b2=(k:Int)+1∧
 (1<=(aF s.bM k).ca.length∧(aF s.bM k).ca.length<=3)∧(∀key∈(aF s.bM k).ca,rb key)∧
 (1<=(aF s.bM k).dD.length∧(aF s.bM k).dD.length<=5)∧(∀a∈(aF s.bM k).dD,1<=a∧a<=6):=by
 obtain⟨cZ,dA,gF,bq⟩:=h.tables
 have h1:=CV kb (l:=s.bM) (k:=k) (by rw[h.oo];exact hk)
 rw[bq]at h1
 have ad:∀p:Int×aa Int×aa c3,p=kb (aF s.bM k)->p.1=(k:Int)+1->(1<=p.2.2.length∧p.2.2.length<=3)->(∀key∈p.2.2,rb key)->
  (1<=p.2.1.length∧p.2.1.length<=5)->(∀a∈p.2.1,1<=a∧a<=6)->(aF s.bM k).b2=(k:Int)+1∧
  (1<=(aF s.bM k).ca.length∧(aF s.bM k).ca.length<=3)∧(∀key∈(aF s.bM k).ca,rb key)∧
  (1<=(aF s.bM k).dD.length∧(aF s.bM k).dD.length<=5)∧(∀a∈(aF s.bM k).dD,1<=a∧a<=6):=by
  rintro p rfl a b c d e
  exact⟨a,b,c,d,e⟩
 have a0:(1<=([1,2,4]:aa Int).length∧([1,2,4]:aa Int).length<=5)∧∀a∈([1,2,4]:aa Int),1<=a∧a<=6:=by decide
 have bK:(1<=([1,2,3,4]:aa Int).length∧([1,2,3,4]:aa Int).length<=5)∧∀a∈([1,2,3,4]:aa Int),1<=a∧a<=6:=by decide
 have a2:(1<=([1,2,3,5,6]:aa Int).length∧([1,2,3,5,6]:aa Int).length<=5)∧∀a∈([1,2,3,5,6]:aa Int),1<=a∧a<=6:=by decide
 have a3:(1<=([1,3,5]:aa Int).length∧([1,3,5]:aa Int).length<=5)∧∀a∈([1,3,5]:aa Int),1<=a∧a<=6:=by decide
 have ahf:rb qQ:=⟨3,by decide,rfl,by decide,by decide,by decide,by decide,by decide⟩
 have TR:rb EM:=⟨3,by decide,rfl,by decide,by decide,by decide,by decide,by decide⟩
 have ahg:rb Pv:=⟨4,by decide,rfl,by decide,by decide,by decide,by decide,by decide⟩
 have Ns:rb yE:=⟨6,by decide,rfl,by decide,by decide,by decide,by decide,by decide⟩
 have ahh:rb Pu:=⟨2,by decide,rfl,by decide,by decide,by decide,by decide,by decide⟩
 have U9:rb Fk:=⟨5,by decide,rfl,by decide,by decide,by decide,by decide,by decide⟩
 have Va:rb Fl:=⟨7,by decide,rfl,by decide,by decide,by decide,by decide,by decide⟩
 have ahi:rb Pw:=⟨8,by decide,rfl,by decide,by decide,by decide,by decide,by decide⟩
 have:k=0∨k=1∨k=2∨k=3:=by omega
 rcases this with rfl|rfl|rfl|rfl
 ·refine ad _ h1 I (show 1<= [qQ].length∧[qQ].length<=3 by decide) ?_ a0.1 a0.2
  intro key kX
  rcases gG.1 kX with rfl
  exact ahf
 ·refine ad _ h1 I ?_ ?_ bK.1 bK.2
  ·show 1<=(vo cZ).length∧(vo cZ).length<=3
   cases cZ <;> decide
  intro key kX
  replace kX:key∈vo cZ:=kX
  cases cZ <;> simp only[vo,dB,uL,uR,kO,mK,p4]at kX
  ·subst kX;exact Ns
  rcases kX with rfl|rfl;exact Ns;exact ahh
 ·refine ad _ h1 I ?_ ?_ a2.1 a2.2
  ·show 1<=(xD dA).length∧(xD dA).length<=3
   cases dA <;> decide
  intro key kX
  replace kX:key∈xD dA:=kX
  cases dA <;> simp only[xD,dB,uL,uR,kO,mK,p4]at kX
  ·rcases kX with rfl|rfl;exact U9;exact TR
  rcases kX with rfl|rfl|rfl;exact U9;exact TR;exact ahg
 refine ad _ h1 I ?_ ?_ a3.1 a3.2
 ·show 1<=(xE gF).length∧(xE gF).length<=3
  cases gF <;> decide
 intro key kX
 replace kX:key∈xE gF:=kX
 cases gF <;> simp only[xE,dB,uL,uR,kO,mK,p4]at kX
 ·subst kX;exact Va
 rcases kX with rfl|rfl|rfl;exact Va;exact ahi;exact Ns
structure tN(kind b:Int)(m:cJ):Prop where
 off:m.gX=false->m=default
 Xj:kind=1->m.gX=true
 low:kind=1->∀j,j<128->de m.b3 j=true->(j:Int)<b
 anq:kind=3->∀j,j<128->de m.hF j=true->(j:Int)<b
 anr:kind=3->∀j,j<128->de m.b3 j=true->de m.hF j=true
 pre:0<=m.ft∧m.ft<=32
 Xk:kind=2->m.gX=true->1<=m.ft
 Xl:kind≠2->m.ft=0
 gw:kind≠3->m.hF=default
 ans:kind=3->m.gX=true->m.hF≠default
 ant:kind=4->m.gX=true->m.b3.ey=m.lh.ey∧m.b3.dp<=m.lh.dp
 OP:kind=2->∀j,j<128->de m.b3 j=true->32-m.ft<=(j:Int)∧j<32
 Jd:kind≠4->m.lh=default
def akd:(0:Int)<=0∧(0:Int)<=32:=⟨KR 0,by decide⟩
structure jq(s:aR)(k:Nat)(e:bD):Prop where
 k3:e.cu=(k:Int)+1
 len:e.cm.length=(aF s.bM k).ca.length
 A2:∀i,i<(aF s.bM k).ca.length->tN (aF (aF s.bM k).ca i).du (Ju (aF (aF s.bM k).ca i)) (aF e.cm i)
 args:e.ho.length<=10
 pri:(∀i,i<(aF s.bM k).ca.length->(aF (aF s.bM k).ca i).du<=2)->e.jj=0
def LC{α:Type}[Inhabited α](l:aa α)(x:α)(i:Nat):aF (l++[x]) i=if i=l.length then x else aF l i:=by
 unfold aF;by_cases h:i=l.length
 ·subst h;simp
 rw[bk h];rcases wP i l.length with h1|h1
 ·rw[JD h1]
 rw[JQ (by simp;omega),JQ h1]
def hz{α:Type}(m:av α)(P:α->Prop):Prop:=∀r,m=some r->P r
def hz.bind{α β:Type}{m:av α}{f:α->av β}{P:α->Prop}{Q:β->Prop}(h:hz m P)(k:∀r,P r->hz (f r) Q):hz (m.bind f) Q:=λr e=>by
 cases hm:m with
 |none=>rw[hm]at e;cases e
 |some a=>rw[hm]at e;exact k a (h a hm) r e
def hz.skip{α β:Type}{m:av α}{f:α->av β}{Q:β->Prop}(k:∀r,hz (f r) Q):hz (m.bind f) Q:=.bind (P:=λ_=>True) (λ_ _=>trivial) λr _=>k r
def hz.ret{α:Type}{a:α}{P:α->Prop}(h:P a):hz (some a) P:=λr e=>by cases e;exact h
def hz.eq{α β:Type}{a:α}{f:α->av β}{Q:β->Prop}(k:hz (f a) Q):hz ((some a).bind f) Q:=k
def hz.cond{α:Type}{b:Bool}{m n:av α}{P:α->Prop}(h1:b=true->hz m P)(ad:b=false->hz n P):hz (cond b m n) P:=by
 cases b
 ·exact ad I
 exact h1 I
def hz.cj{α:Type}[Inhabited α]{b w:Bool}{m:av α}{P:α->Prop}(h:hz m P):hz (cj b w m) (λr=>b=w->P r):=λr e hb=>by
 unfold Gv.cj at e;rw[bm hb]at e;exact h r e
def hz.idx{n:Nat}{i:Int}:hz (idx n i) (λk=>(k:Int)=i∧k<n):=λk e=>by
 obtain⟨h1,ad⟩:=dt e;exact⟨by omega,h1⟩
def hz.loop{σ ε:Type}{body:σ->av (σ⊕ε)}{P:ε->Prop}{n:Nat}{s0:σ}(eX:σ->Prop)(bw:eX s0)(hb:∀s,eX s->hz (body s) (λx=>match x with | .inl b1=>eX b1| .inr e=>P e)):hz (eh n body s0) P:=by
 induction n generalizing s0 with
 |zero=>intro r e;cases e
 | succ n bN=>
   intro r e
   simp only[eh]at e
   cases hm:body s0 with
   |none=>rw[hm]at e;cases e
   | some x=>
     rw[hm]at e
     have:=hb s0 bw x hm
     cases x with
     |inl b1=>exact bN this r e
     |inr y=>cases e;exact this
def bF.par{α:Type}{m:av α}{P Q:α->Prop}(h:bF m P)(k:hz m Q):bF m (λr=>P r∧Q r):=by
 obtain⟨r,h1,ad⟩:=h;exact⟨r,h1,ad,k r h1⟩
def Hn{α:Type}{b:Nat}{xs ys:aa α}:hz (fv b xs ys) (λr=>r=xs++ys):=λr e=>by
 unfold fv at e;split at e
 ·cases e;rfl
 cases e
def SH(c:e6)(n:Int)(aG:0<n):hz (h4 c n) (λr=>0<=r.1∧r.1<n):=by
 unfold h4;refine .skip λ_=>.cond (λ_=>.ret ⟨KR 0,aG⟩) λ_=>.bind .idx λk _=>.bind (P:=λy=>0<=y∧y<n) (λy e=>?_) λy hy=>.ret hy;unfold sK at e;split at e
 ·cases e
 cases e;exact⟨Kl _ (by omega),BA _ aG⟩
def AA(s:aR)(r:ev):Prop:=
 r.nr=1∧r.sj=0∧((r.cu=2∧r.eg=4∧r.u4=0)∨(r.cu=3∧r.eg=0∧r.jU=2∧(aF s.bM 2).ca.length=3)∨
   (r.cu=4∧r.eg=0∧r.jU=1∧(aF s.bM 3).ca.length=3)∨(r.cu=4∧r.eg=5∧r.u4=0))
structure lO(s:aR):Prop where
 refs:∀r∈s.eE,AA s r
 tW:s.eE.length<=4
 quo:∀x∈s.fk,0<=x.jD
 all:(aF s.fk 0).jD=40
def abN(c:e6)(cB:aa bC):hz (ti c cB) (λr=>(∀x∈r.1,0<=x.jD)∧(aF r.1 0).jD=40):=by
 unfold ti;refine .skip λ_=>.bind (SH _ _ (by omega)) λaH ad=>.skip λbf=>.bind (SH _ _ (by omega)) λbI aN=>?_;refine .bind (P:=λe=>0<=e.2.2.1.jD∧0<=e.2.2.2.2.2.1.jD∧e.2.2.2.2.2.2.2.1.jD=40) (.loop (λst=>0<=st.2.1.jD∧0<=st.2.2.2.2.1.jD∧st.2.2.2.2.2.2.1.jD=40) ⟨aN.1,?_,rfl⟩ λst cU=>?_) λe he=>.eq (.eq (.ret ⟨λx al=>?_,he.2.2⟩))
 ·simp only;rw[hr (by omega) (by omega)];omega
 ·refine .cond (λ_=>.skip λaW=>.skip λbZ=>.skip λcS=>.skip λa8=>.eq (.skip λeB=>.skip λiD=>?_)) λ_=>.ret cU;refine .bind (P:=λm=>0<=m.2.1.jD) (.cond (λ_=>.skip λ_=>.skip λ_=>.eq (.skip λ_=>.ret cU.2.1)) λ_=>.ret cU.2.1) λm1 h1=>.skip λiy=>?_;exact .bind (P:=λm=>0<=m.2.1.jD) (.cond (λ_=>.skip λ_=>.skip λ_=>.eq (.skip λ_=>.ret cU.1)) λ_=>.ret cU.1) λm2 ad=>.ret ⟨ad,h1,cU.2.2⟩
 simp only[dB,uL,uR]at al;rcases al with rfl|rfl|rfl
 ·show 0<=e.2.2.2.2.2.2.2.1.jD;rw[he.2.2];decide
 ·exact he.2.1
 exact he.1
def RH(c:e6):hz (p7 c) (λr=>lO r.1):=by
 unfold p7;refine .skip λan=>.skip λaH=>.eq (.eq (.eq (.eq (.eq (.eq (.eq (.eq (.eq (.eq (.eq (.eq (.skip λbf=>.skip λbI=>.skip λbZ=>.eq (.eq (.bind (abN _ _) λcS bh=>.eq (.skip λdg=>.skip λm1=>.skip λeB=>?_)))))))))))))));refine .bind (P:=λm2=>m2.1.bM=bZ.1∧m2.1.fk=cS.1∧(m2.2=[]∨m2.2=[({(default:ev)with cu:=2,eg:=4,nr:=1}:ev)])) (.cond (λ_=>.eq (.bind Hn λy hy=>.ret ⟨rfl,rfl,.inr hy⟩)) λ_=>.ret ⟨rfl,rfl,.inl I⟩) λm2 ad=>?_;obtain⟨az,a8,ad⟩:=ad;refine .skip λiD=>.bind (.cj .idx) λaW dq=>?_;refine .bind (P:=λm3=>m3.1.bM=bZ.1∧m3.1.fk=cS.1∧m3.2.length<=2∧∀s:aR,s.bM=bZ.1->∀r∈m3.2,AA s r) (.cond (λak=>.eq (.bind Hn λy hy=>.ret ⟨az,a8,?_,?_⟩)) λ_=>.ret ⟨az,a8,?_,?_⟩) λm3 ay=>?_
 ·subst hy;rcases ad with h|h <;> simp[h]
 ·subst hy;intro s hs r aC;simp only[gJ,nV]at ak;have hk:=dq ak.1;have hk:aW=2:=by omega
  subst hk;rw[az,<-hs]at ak;simp only[bX,gG]at aC;rcases aC with aC|rfl
  ·rcases ad with h|h
   ·rw[h]at aC;cases aC
   rw[h,gG]at aC;subst aC;exact⟨rfl,rfl,.inl ⟨rfl,rfl,rfl⟩⟩
  exact⟨rfl,rfl,.inr (.inl ⟨rfl,rfl,rfl,by omega⟩)⟩
 ·rcases ad with h|h <;> simp[h]
 ·intro s hs r aC;rcases ad with h|h
  ·rw[h]at aC;cases aC
  rw[h,gG]at aC;subst aC;exact⟨rfl,rfl,.inl ⟨rfl,rfl,rfl⟩⟩
 obtain⟨dw,h2,anW,ay⟩:=ay;refine .skip λiy=>.bind (.cj .idx) λbP dI=>?_;refine .bind (P:=λm4=>m4.1.bM=bZ.1∧m4.1.fk=cS.1∧m4.2.length<=4∧∀s:aR,s.bM=bZ.1->∀r∈m4.2,AA s r) (.cond (λak=>.eq (.eq (.bind Hn λy hy=>.ret ⟨dw,h2,?_,?_⟩))) λ_=>.ret ⟨dw,h2,by simp only;omega,ay⟩) λm4 aN=>?_
 ·subst hy;simp only[fB,List.length_cons,List.length_nil];omega
 ·subst hy;intro s hs r aC;simp only[gJ,nV]at ak;have hk:=dI ak.1;have hk:bP=3:=by omega
  subst hk;rw[dw,<-hs]at ak;simp only[bX,dB,gG,uL,uR]at aC;rcases aC with aC|rfl|rfl
  ·exact ay s hs r aC
  ·exact⟨rfl,rfl,.inr (.inr (.inl ⟨rfl,rfl,rfl,by omega⟩))⟩
  exact⟨rfl,rfl,.inr (.inr (.inr ⟨rfl,rfl,rfl⟩))⟩
 obtain⟨nf,yx,amy,aN⟩:=aN;exact .eq (.ret ⟨λr aC=>aN _ nf r aC,amy,λx al=>by simp only[yx]at al;exact bh.1 x al,by simp only[yx];exact bh.2⟩)
def Ib(e:bD):Prop:=e.eg=4∨e.eg=5->1<=e.ho.length
end Go.Proofs.YtdadopcnkghbaaaGreat
namespace Gv
open Go
def cE{α:Type}(m:ah α)(P:α->Prop):Prop:=∀Q:α->Prop,(∀r,P r->Q r)->m Q
def cE.run{α:Type}{m:ah α}{P:α->Prop}(h:cE m P):m P:=h P λ_ h=>h
def cE.ret{α:Type}{P:α->Prop}{x:α}(h:P x):cE (ah.ret x) P:=λQ k=>k x h
def cE.bind{α β:Type}{m:ah α}{f:α->ah β}{P:α->Prop}{r7:β->Prop}(h:cE m P)(k:∀r,P r->cE (f r) r7):cE (ah.bind m f) r7:=λQ hq=>h _ λr aC=>k r aC Q hq
def cE.of{α:Type}{o:av α}{P:α->Prop}(h:bF o P):cE (ah.of o) P:=λQ hq=>let⟨r,h1,ad⟩:=h; ⟨r,h1,hq r ad⟩
def cE.oE{α β:Type}{o:av α}{f:α->ah β}{P:α->Prop}{r7:β->Prop}(h:bF o P)(k:∀r,P r->cE (f r) r7):cE (ah.bind (ah.of o) f) r7:=.bind (.of h) k
def cE.eq{α β:Type}{o:av α}{a:α}{f:α->ah β}{r7:β->Prop}(h:o=some a)(k:cE (f a) r7):cE (ah.bind (ah.of o) f) r7:=λQ hq=>⟨a,h,k Q hq⟩
def cE.mono{α:Type}{m:ah α}{P r7:α->Prop}(h:cE m P)(k:∀r,P r->r7 r):cE m r7:=λQ hq=>h Q λr aC=>hq r (k r aC)
def cE.cond{α:Type}{b:Bool}{m n:ah α}{P:α->Prop}(h1:b=true->cE m P)(ad:b=false->cE n P):cE (cond b m n) P:=by
 cases b
 ·exact ad I
 exact h1 I
def cE.cj{α β:Type}[Inhabited α]{b w:Bool}{m:av α}{f:α->ah β}{P:α->Prop}{Q:β->Prop}(h:b=w->bF m P)(k:∀a,(b=w->P a)->cE (f a) Q):cE (ah.bind (ah.of (cj b w m)) f) Q:=by
 unfold Gv.cj;by_cases hb:b=w
 ·rw[bm hb];exact .oE (h hb) λa a1=>k a λ_=>a1
 rw[bk hb];exact .eq I (k default λh=>absurd h hb)
def cE.idx{β:Type}{n:Nat}{i:Int}{k:Nat}{f:Nat->ah β}{Q:β->Prop}(aw:i=k)(hk:k<n)(h:cE (f k) Q):cE (ah.bind (ah.of (Gv.idx n i)) f) Q:=by
 subst aw;exact .eq (u7 hk) h
def cE.mk{bt β:Type}{hp:aE bt}{c:bt}{f:Nat×aE bt->ah β}{P:β->Prop}(k:∀p,p∉c6 hp->cE (f (p,(p,c)::hp)) P):cE (ah.bind (ah.mk hp c) f) P:=λQ hq=>λa a1=>by
 obtain⟨p,hp'⟩:=a;obtain⟨h1,ad⟩:=a1;simp only at h1 ad;subst ad;exact k p h1 Q hq
def cE.any{α β:Type}{f:α->ah β}{P:β->Prop}(k:∀x,cE (f x) P):cE (ah.bind (ah.any α) f) P:=λQ hq x=>k x Q hq
def cE.loop{σ ε:Type}{body:σ->ah (σ⊕ε)}{P:ε->Prop}{s0:σ}(m:Nat)(eX:Nat->σ->Prop)(hm:m<2^80)(bw:eX 0 s0)
 (hs:∀k s,k<m->eX k s->cE (body s) (λx=>match x with | .inl b1=>eX (k+1) b1| .inr e=>P e))
 (he:∀s,eX m s->cE (body s) (λx=>match x with | .inl _=>False| .inr e=>P e)):cE (mP dW body s0) P:=by
 have key:∀n k s,k<=m->m-k<n->eX k s->cE (mP n body s) P:=by
  intro n;induction n with
  |zero=>intro k s _ h;omega
  | succ n bN=>
    intro k s hk aG aw Q hq
    by_cases Ez:k=m
    ·subst Ez
     exact he s aw _ λr aC=>by
      cases r with
      |inl b1=>exact aC.elim
      |inr e=>exact hq e aC
    exact hs k s (by omega) aw _ λr aC=>by
     cases r with
     |inl b1=>exact bN (k+1) b1 (by omega) (by omega) aC Q hq
     |inr e=>exact hq e aC
 exact key dW 0 s0 (by omega) (by unfold dW;omega) bw
def jC{bt:Type}{hp:aE bt}{p q:Nat}{k:bt}:pat ((p,k)::hp) q=if p=q then some k else pat hp q:=rfl
def acv{bt:Type}{hp:aE bt}{p:Nat}(h:p∉c6 hp):pat hp p=none:=by
 cases e:pat hp p with
 |none=>rfl
 |some k=>exact absurd (il e) h
def qi{bt:Type}{hp:aE bt}{p:Nat}{k k':bt}(h:pat hp p=some k'):pat (bY hp p k) p=some k:=by rw[CY,bm I,h];rfl
def k8{bt:Type}{hp:aE bt}{p q:Nat}{k:bt}(h:p≠q):pat (bY hp p k) q=pat hp q:=by rw[CY,bk h]
def tp{α β:Type}[DecidableEq α]{l:aa (α×β)}{x y:α}{v:β}:c4 (fm l x v) y=if y=x then some v else c4 l y:=by
 induction l with
 | nil=>
   show(if y=x then some v else c4 [] y)=_
   rfl
 | cons a r bN=>
   obtain⟨k,w⟩:=a
   simp only[fm]
   by_cases h:x=k
   ·rw[bm h]
    simp only[c4]
    by_cases ad:y=x
    ·simp[ad]
    simp[ad,show ¬y=k from λe=>ad (by rw[e,h])]
   rw[bk h]
   simp only[c4]
   by_cases ad:y=k
   ·subst ad;simp[show ¬y=x from λe=>h e.symm]
   rw[bk ad,bN,bk ad]
end Gv
namespace Go.Proofs.YtdadopcnkghbaaaGreat
open Go Gv
def e0(b:Bool):Nat:=bif b then 1 else 0
def cA(hp:aE Cell):Ref->aa Bool->Ref
 |none,_=>none
 |some p,[]=>some p
 | some p,b::aT=>match cv hp p with
   |none=>none
   |some c=>cA hp (b9 c.cX (e0 b)) aT
def gb{hp:aE Cell}{aT:aa Bool}:cA hp none aT=none:=by cases aT <;> rfl
def oY{hp:aE Cell}{r:Ref}:cA hp r []=r:=by cases r <;> rfl
def hn{hp:aE Cell}{p:Nat}{c:dT}{b:Bool}{aT:aa Bool}(h:cv hp p=some c):cA hp (some p) (b::aT)=cA hp (b9 c.cX (e0 b)) aT:=by
 show(match cv hp p with |none=>none|some c=>cA hp (b9 c.cX (e0 b)) aT)=_;rw[h]
def nu{hp:aE Cell}:∀{r:Ref} {aT cs:aa Bool},cA hp r (aT++cs)=cA hp (cA hp r aT) cs
 |none,aT,cs=>by rw[gb,gb,gb]
 |some p,[],cs=>by rw[List.nil_append,oY]
 | some p,b::aT,cs=>by
   cases e:cv hp p with
   | none=>
     have h1:∀xs,cA hp (some p) (b::xs)=none:=λxs=>by
      show(match cv hp p with |none=>none|some c=>cA hp (b9 c.cX (e0 b)) xs)=_;rw[e]
     rw[List.cons_append,h1,h1,gb]
   |some c=>rw[List.cons_append,hn e,hn e,nu]
def R6{hp hp':aE Cell}:∀{r:Ref} {aT:aa Bool},(∀p cs,cA hp r cs=some p->cv hp' p=cv hp p)->cA hp' r aT=cA hp r aT
 |none,aT,_=>by rw[gb,gb]
 |some p,[],_=>rfl
 | some p,b::aT,h=>by
   have bw:=h p [] I;show(match cv hp' p with |none=>none|some c=>cA hp' (b9 c.cX (e0 b)) aT)=(match cv hp p with |none=>none|some c=>cA hp (b9 c.cX (e0 b)) aT);rw[bw];cases e:cv hp p with
   |none=>rfl
   | some c=>
     refine R6 λq cs hq=>h q (b::cs) ?_
     rw[hn e];exact hq
structure pG(hp:aE Cell)(root:Ref):Prop where
 reads:∀aT p,cA hp root aT=some p->∃c,cv hp p=some c
 inj:∀aT cs p,cA hp root aT=some p->cA hp root cs=some p->aT=cs
 dep:∀aT p,cA hp root aT=some p->aT.length<=32
def cont(hp:aE Cell)(root:Ref)(aT:aa Bool):av Int:=match cA hp root aT with
 |none=>none
 | some p=>match cv hp p with
   |none=>none
   |some c=>bif c.fx then some c.jr else none
def kx{hp:aE Cell}{root:Ref}{aT:aa Bool}{p:Nat}{c:dT}(h:cA hp root aT=some p)(ak:cv hp p=some c):cont hp root aT=bif c.fx then some c.jr else none:=by
 unfold cont;rw[h];simp only[ak]
def lf{hp:aE Cell}{root:Ref}{aT:aa Bool}(h:cA hp root aT=none):cont hp root aT=none:=by
 unfold cont;rw[h]
def qd{hp:aE Cell}{p:Nat}{c:dT}:cv hp p=some c↔pat hp p=some (.fT c):=by
 refine⟨pE,λh=>?_⟩;unfold cv;rw[h]
def tq{hp:aE Cell}{p:Nat}{c:ga}:fl hp p=some c↔pat hp p=some (.jX c):=by
 refine⟨va,λh=>?_⟩;unfold fl;rw[h]
def w5{hp hp':aE Cell}{p:Nat}(h:pat hp' p=pat hp p):cv hp' p=cv hp p:=by unfold cv;rw[h]
def GW{hp hp':aE Cell}{p:Nat}(h:pat hp' p=pat hp p):fl hp' p=fl hp p:=by unfold fl;rw[h]
structure ei(hp hp':aE Cell)(own:Nat->Prop):Prop where
 keys:∀q,q∈c6 hp->q∈c6 hp'
 rest:∀q,q∈c6 hp->¬own q->pat hp' q=pat hp q
def ei.refl{hp:aE Cell}{own:Nat->Prop}:ei hp hp own:=⟨λ_ h=>h,λ_ _ _=>rfl⟩
def ei.mk'{hp:aE Cell}{own:Nat->Prop}{a:Nat}{k:Cell}(a1:a∉c6 hp):ei hp ((a,k)::hp) own:=
 ⟨λq h=>fr _ h,λq h _=>by rw[jC,bk (λe:a=q=>a1 (by rw[e];exact h))]⟩
def ei.up{hp:aE Cell}{own:Nat->Prop}{p:Nat}{k:Cell}(hp':own p):ei hp (bY hp p k) own:=
 ⟨λq h=>by rw[pD];exact h,λq h hq=>k8 (λe:p=q=>hq (by rw[<-e];exact hp'))⟩
def ei.trans{h1 ad ay:aE Cell}{own own':Nat->Prop}(a:ei h1 ad own)(b:ei ad ay own')(aS:∀q,q∈c6 h1->own' q->own q):ei h1 ay own:=
 ⟨λq h=>b.keys q (a.keys q h),λq h hq=>by rw[b.rest q (a.keys q h) λcC=>hq (aS q h cC),a.rest q h hq]⟩
def abO(b:Bool):b9 (default:dT).cX (e0 b)=none:=by cases b <;> rfl
def R7{hp:aE Cell}{a:Nat}(h:cv hp a=some (default:dT)):∀aT,cA hp (some a) aT=if aT=[]then some a else none
 |[]=>rfl
 |b::aT=>by rw[hn h,abO,gb];rfl
def LO{hp hp':aE Cell}{root:Ref}{ws:aa Bool}{b:Bool}{p a:Nat}{c:dT}(bq:pG hp root)(hw:cA hp root ws=some p)(ak:cv hp p=some c)(aG:b9 c.cX (e0 b)=none)(a1:cv hp a=none)
 (bH:cv hp' p=some {c with cX:=iq c.cX (e0 b) (some a)}) (cw:cv hp' a=some default) (gC:∀q,q≠p->q≠a->cv hp' q=cv hp q):
 ∀(aT us:aa Bool) (q:Nat),cA hp root us=some q->cA hp' (some q) aT=if us++aT=ws++[b]then some a else cA hp (some q) aT
 | [],us,q,hu=>by
   have: ¬us++[]=ws++[b]:=λe=>by
    rw[l8]at e;rw[e,nu,hw,hn ak,aG,gb]at hu;cases hu
   rw[bk this];rfl
 | x::xs,us,q,hu=>by
   obtain⟨uC,oF⟩:=bq.reads us q hu;have pX:q≠a:=λe=>by rw[e,a1]at oF;cases oF
   by_cases EP:q=p
   ·subst EP;have OQ:=bq.inj us ws q hu hw;subst OQ;rw[ak]at oF;cases oF;rw[hn bH,hn ak];simp only;have bS:e0 b<2:=by cases b <;> decide
    rw[w9 _ _ bS];by_cases yl:x=b
    ·subst yl;rw[bm I,aG,gb,R7 cw];by_cases h:xs=[]
     ·subst h;rw[bm I,bm I]
     rw[bk h,bk λe=>h ?_];have:=Fw e;simpa using this
    have cR: ¬e0 x=e0 b:=λe=>yl (by cases x <;> cases b <;> first|rfl|cases e);have eP: ¬us++x::xs=us++[b]:=λe=>yl (by have:=Fw e;simpa using (List.cons.inj this).1);rw[bk cR,bk eP];cases e:b9 c.cX (e0 x)with
    |none=>rw[gb,gb]
    | some mz=>
      have mZ:cA hp root (us++[x])=some mz:=by rw[nu,hu,hn ak,e,oY]
      rw[LO bq hw ak aG a1 bH cw gC xs (us++[x]) mz mZ,h3,List.singleton_append,bk eP]
   have h1:cv hp' q=some uC:=by rw[gC q EP pX];exact oF
   rw[hn h1,hn oF];cases e:b9 uC.cX (e0 x)with
   | none=>
     have eP: ¬us++x::xs=ws++[b]:=λa8=>by
      have alH:cA hp root (us++[x])=none:=by rw[nu,hu,hn oF,e,gb]
      rcases List.eq_nil_or_concat xs with rfl|⟨ys,y,rfl⟩
      ·have:=(JO a8 I);subst this;rw[hu]at hw;cases hw;exact EP I
      have ay:us++x::ys=ws:=by
       have:(us++x::ys)++[y]=ws++[b]:=by simpa using a8
       exact JO this I
      rw[<-ay,show us++x::ys=(us++[x])++ys by simp,nu,alH,gb]at hw;cases hw
     rw[gb,gb,bk eP]
   | some mz=>
     have mZ:cA hp root (us++[x])=some mz:=by rw[nu,hu,hn oF,e,oY]
     rw[LO bq hw ak aG a1 bH cw gC xs (us++[x]) mz mZ,h3,List.singleton_append]
def grow{hp hp':aE Cell}{r:Nat}{ws:aa Bool}(hd:ws.length<32){b:Bool}{p a:Nat}{c:dT}(bq:pG hp (some r))(hw:cA hp (some r) ws=some p)(ak:cv hp p=some c)(aG:b9 c.cX (e0 b)=none)(a1:cv hp a=none)
 (bH:cv hp' p=some {c with cX:=iq c.cX (e0 b) (some a)}) (cw:cv hp' a=some default) (gC:∀q,q≠p->q≠a->cv hp' q=cv hp q):
 pG hp' (some r)∧(∀aT,cA hp' (some r) aT=if aT=ws++[b]then some a else cA hp (some r) aT)∧∀aT,cont hp' (some r) aT=cont hp (some r) aT:=by
 have aU:∀aT,cA hp' (some r) aT=if aT=ws++[b]then some a else cA hp (some r) aT:=λaT=>LO bq hw ak aG a1 bH cw gC aT [] r I
 have Je:∀aT,cA hp (some r) aT≠some a:=λaT h=>by
  obtain⟨c,h1⟩:=bq.reads aT a h;rw[a1]at h1;cases h1
 have OR:cA hp (some r) (ws++[b])=none:=by rw[nu,hw,hn ak,aG,gb]
 refine⟨⟨λaT q h=>?_,λaT cs q h1 ad=>?_,λaT q h=>?_⟩,aU,λaT=>?_⟩
 ·rw[aU]at h
  split at h
  ·cases h;exact⟨_,cw⟩
  obtain⟨ic,h1⟩:=bq.reads aT q h
  by_cases e:q=p
  ·subst e;exact⟨_,bH⟩
  exact⟨ic,by rw[gC q e λa8=>Je aT (a8▸h)];exact h1⟩
 ·rw[aU]at h1 ad
  split at h1 <;> split at ad
  ·rename_i az a8;rw[az,a8]
  ·cases h1;exact absurd ad (Je cs)
  ·cases ad;exact absurd h1 (Je aT)
  exact bq.inj aT cs q h1 ad
 ·rw[aU]at h
  split at h
  ·rename_i e;rw[e];simp;omega
  exact bq.dep aT q h
 by_cases e:aT=ws++[b]
 ·subst e
  rw[lf OR,kx (by rw[aU,bm I]) cw];rfl
 have ym:cA hp' (some r) aT=cA hp (some r) aT:=by rw[aU,bk e]
 cases h:cA hp (some r) aT with
 |none=>rw[lf h,lf (ym.trans h)]
 | some q=>
   obtain⟨ic,h1⟩:=bq.reads aT q h
   by_cases eq:q=p
   ·subst eq
    rw[ak]at h1;cases h1
    rw[kx h ak,kx (ym.trans h) bH]
   rw[kx h h1,kx (ym.trans h) (by rw[gC q eq λa8=>Je aT (a8▸h)];exact h1)]
def CW{hp hp':aE Cell}{p:Nat}{c ic:dT}(ak:cv hp p=some c)(oG:cv hp' p=some ic)(he:ic.cX=c.cX)(h:∀q,q≠p->cv hp' q=cv hp q):∀(aT:aa Bool) (r:Ref),cA hp' r aT=cA hp r aT
 |aT,none=>by rw[gb,gb]
 |[],some q=>rfl
 | b::aT,some q=>by
   by_cases e:q=p
   ·subst e;rw[hn ak,hn oG,he];exact CW ak oG he h aT _
   cases a8:cv hp q with
   | none=>
     show(match cv hp' q with |none=>none|some c=>cA hp' (b9 c.cX (e0 b)) aT)=(match cv hp q with |none=>none|some c=>cA hp (b9 c.cX (e0 b)) aT)
     rw[h q e,a8]
   |some d=>rw[hn a8,hn (by rw[h q e];exact a8)];exact CW ak oG he h aT _
def Wl{hp hp':aE Cell}{root:Ref}{ws:aa Bool}{p:Nat}{c ic:dT}(bq:pG hp root)(hw:cA hp root ws=some p)(ak:cv hp p=some c)(oG:cv hp' p=some ic)(he:ic.cX=c.cX)(h:∀q,q≠p->cv hp' q=cv hp q):
 pG hp' root∧∀aT,cont hp' root aT=if aT=ws then(bif ic.fx then some ic.jr else none)else cont hp root aT:=by
 have aU:=CW ak oG he h
 refine⟨⟨λaT q hq=>?_,λaT cs q h1 ad=>bq.inj aT cs q (by rw[<-aU];exact h1) (by rw[<-aU];exact ad),λaT q hq=>bq.dep aT q (by rw[<-aU];exact hq)⟩,λaT=>?_⟩
 ·rw[aU]at hq
  obtain⟨d,h1⟩:=bq.reads aT q hq
  by_cases e:q=p
  ·subst e;exact⟨_,oG⟩
  exact⟨d,by rw[h q e];exact h1⟩
 by_cases e:aT=ws
 ·subst e;rw[bm I,kx (by rw[aU];exact hw) oG]
 rw[bk e]
 cases h1:cA hp root aT with
 |none=>rw[lf h1,lf (by rw[aU];exact h1)]
 | some q=>
   obtain⟨d,ad⟩:=bq.reads aT q h1
   have EP:q≠p:=λa8=>e (bq.inj aT ws p (a8▸h1) hw)
   rw[kx h1 ad,kx (by rw[aU];exact h1) (by rw[h q EP];exact ad)]
def Zm{xs:aa bC}{f:bC->av Bool}{g:bC->Bool}(aU:∀x∈xs,f x=some (g x))(ao:xs.length<2^62):
 bF (Bm xs f) (λr=>(r= -1∧∀x∈xs,g x=false)∨∃i:Nat,i<xs.length∧r=i∧g (aF xs i)=true∧∀j,j<i->g (aF xs j)=false):=by
 unfold Bm
 refine bF.loop xs.length (λk s=>s=(k:Int)∧∀j,j<k->g (aF xs j)=false) (by omega) ⟨rfl,λj aD=>by omega⟩ (λk s hk aw=>?_) (λs aw=>?_)
 ·obtain⟨az,a8⟩:=aw;subst az
  refine bF.cond (λ_=>?_) (λh=>by simp at h;omega)
  refine .idx I hk (.eq (aU _ (by rw[e2 xs hk];exact mH hk)) (.cond (λh=>.ret ?_) (λh=>.ret ⟨gY (by omega),λj aD=>?_⟩)))
  ·exact .ret (.inr ⟨k,hk,rfl,h,a8⟩)
  by_cases ui:j=k
  ·subst ui;exact h
  exact a8 j (by omega)
 obtain⟨az,a8⟩:=aw;subst az
 refine⟨_,by simp;rfl,?_⟩
 refine .ret (.inl ⟨rfl,λx al=>?_⟩)
 obtain⟨j,aD,rfl⟩:=yX.1 al
 rw[<-e2 xs aD];exact a8 j aD
def Zn{xs:aa gV}{f:gV->av Bool}{g:gV->Bool}(aU:∀x∈xs,f x=some (g x))(ao:xs.length<2^62):
 bF (Bn xs f) (λr=>(r= -1∧∀x∈xs,g x=false)∨∃i:Nat,i<xs.length∧r=i∧g (aF xs i)=true∧∀j,j<i->g (aF xs j)=false):=by
 unfold Bn
 refine bF.loop xs.length (λk s=>s=(k:Int)∧∀j,j<k->g (aF xs j)=false) (by omega) ⟨rfl,λj aD=>by omega⟩ (λk s hk aw=>?_) (λs aw=>?_)
 ·obtain⟨az,a8⟩:=aw;subst az
  refine bF.cond (λ_=>?_) (λh=>by simp at h;omega)
  refine .idx I hk (.eq (aU _ (by rw[e2 xs hk];exact mH hk)) (.cond (λh=>.ret ?_) (λh=>.ret ⟨gY (by omega),λj aD=>?_⟩)))
  ·exact .ret (.inr ⟨k,hk,rfl,h,a8⟩)
  by_cases ui:j=k
  ·subst ui;exact h
  exact a8 j (by omega)
 obtain⟨az,a8⟩:=aw;subst az
 refine⟨_,by simp;rfl,?_⟩
 refine .ret (.inl ⟨rfl,λx al=>?_⟩)
 obtain⟨j,aD,rfl⟩:=yX.1 al
 rw[<-e2 xs aD];exact a8 j aD
def Li{s:aR}(h:cQ s){k:Nat}(hk:k<4):bF (sf s ((k:Int)+1)) (λr=>r=(k:Int)):=by
 unfold sf;refine(Zm (g:=λt=>t.b2==(k:Int)+1) (λx al=>rfl) (by rw[h.oo];omega)).bind λr aC=>.ret ?_;have dI:k<s.bM.length:=by rw[h.oo];exact hk
 rcases aC with⟨_,aC⟩|⟨i,h1,ad,ay,aN⟩
 ·have:=aC (aF s.bM k) (by rw[e2 _ dI];exact mH dI);simp only[(h.k3 hk).1,BQ]at this;cases this
 have a6:=(h.k3 (show i<4 by have:=h.oo;omega)).1;simp only[a6,nV]at ay;omega
def aaP{s:aR}(h:cQ s){k:Nat}(hk:k<9):bF (wU s ((k:Int)+1)) (λr=>r=(k:Int)):=by
 unfold wU;refine(Zn (g:=λt=>t.b2==(k:Int)+1) (λx al=>rfl) (by rw[h.DK];omega)).bind λr aC=>.ret ?_;have dI:k<s.jl.length:=by rw[h.DK];exact hk
 rcases aC with⟨_,aC⟩|⟨i,h1,ad,ay,aN⟩
 ·have:=aC (aF s.jl k) (by rw[e2 _ dI];exact mH dI);simp only[(h.OO hk).1,BQ]at this;cases this
 have a6:=(h.OO (show i<9 by have:=h.DK;omega)).1;simp only[a6,nV]at ay;omega
def lead(n k:Int)(j:Nat):Bool:=decide ((j:Int)<n)&&decide (n-max 0 (min k n)<=(j:Int))
def abb(n k:Int)(bw:0<=n)(h1:n<=128):bF (zp n k) (λr=> ∀j,j<128->de r j=lead n k j):=by
 unfold zp zu;have e:min (max 0 n) 128=n:=by omega
 rw[e];have a8:bz (n-min (max 0 k) n)=n-min (max 0 k) n:=hr (by omega) (by omega);refine .eq I ((To n).bind λa a1=>?_);rw[a8];refine(To _).bind λb hb=>(adG a b).bind λr aC=>.ret λj aD=>?_;rw[aC j aD,a1 j aD,hb j aD];unfold lead;by_cases p:(j:Int)<n
 ·rw[za p];by_cases q:(j:Int)<n-min (max 0 k) n
  ·rw[za q,wH (by omega)];rfl
  rw[wH q,za (by omega)];rfl
 rw[wH p,wH (by omega)];rfl
def Xm(a b:aX):Bool:=decide (a.ey<b.ey)||(a.ey==b.ey&&decide (a.dp<b.dp))
end Go.Proofs.YtdadopcnkghbaaaGreat
namespace Gv
structure uj{α:Type}(b:α->α->Bool):Prop where
 asymm:∀x y,b x y=true->b y x=false
 trans:∀x y z,b x y=true->b y z=true->b x z=true
def ins{α:Type}(b:α->α->Bool):aa α->α->aa α
 |[],x=>[x]
 |a::l,x=>if b a x=true then a::ins b l x else x::a::l
def hi{α:Type}(b:α->α->Bool)(l:aa α):aa α:=l.foldl (ins b) []
def kh{α:Type}(b:α->α->Bool):aa α->α->Nat
 |[],_=>0
 |a::l,x=>if b a x=true then kh b l x+1 else 0
def uk{α:Type}(b:α->α->Bool)(x y:α):Prop:=b x y=true∨b y x=true
variable{α:Type}{b:α->α->Bool}
def SI(a:α)(l:aa α)(x:α):ins b (a::l) x=if b a x=true then a::ins b l x else x::a::l:=rfl
def MH:∀{l:aa α} {x:α},kh b l x<=l.length
 |[],_=>h5 _
 | a::l,x=>by
   have:=MH (l:=l) (x:=x);unfold kh;split <;> simp <;> omega
def TS:∀(l:aa α) (x:α),ins b l x=l.take (kh b l x)++x::l.drop (kh b l x)
 |[],x=>rfl
 | a::l,x=>by
   unfold ins kh;split
   ·rw[TS l x];rfl
   rfl
def LP:∀(l:aa α) (x:α),(ins b l x).Perm (x::l)
 |[],x=>F8 _
 | a::l,x=>by
   unfold ins;split
   ·exact((LP l x).cons a).trans (List.Perm.swap x a l)
   exact F8 _
def adH{l:aa α}{x y:α}:y∈ins b l x↔y=x∨y∈l:=by
 rw[(LP l x).mem_iff];simp
def Ho(l:aa α)(x:α):hi b (l++[x])=ins b (hi b l) x:=by
 simp[hi,List.foldl_append]
def Mc(l:aa α):(hi b l).Perm l:=by
 have key:∀(l m:aa α),(l.foldl (ins b) m).Perm (m++l):=by
  intro l;induction l with
  |nil=>intro m;simp
  | cons a l bN=>
    intro m
    refine(bN (ins b m a)).trans ?_
    refine((LP m a).append_right l).trans ?_
    exact(p6 (a:=a) (l₁:=m) (l₂:=l)).symm
 exact key l []
def vj{l:aa α}{y:α}:y∈hi b l↔y∈l:=(Mc l).mem_iff
def aeG{l:aa α}:(hi b l).length=l.length:=(Mc l).length_eq
def RI(hb:uj b):∀{l:aa α} {x:α},l.Pairwise (λx y=>b x y=true)->(∀a∈l,uk b a x)->(ins b l x).Pairwise (λx y=>b x y=true)
 |[],x,_,_=>by simp[ins]
 | a::l,x,hs,bq=>by
   obtain⟨h1,ad⟩:=l6.1 hs;unfold ins;split
   ·rename_i s3;refine l6.2 ⟨λc ak=>?_,RI hb ad λa a1=>bq a (by simp[a1])⟩;rcases adH.1 ak with rfl|ak
    ·exact s3
    exact h1 c ak
   rename_i s3;have ER:b x a=true:=(bq a (by simp)).resolve_left s3;refine l6.2 ⟨λc ak=>?_,hs⟩;rcases dB.1 ak with rfl|ak
   ·exact ER
   exact hb.trans _ _ _ ER (h1 c ak)
def abP{l:aa α}{x:α}(h:∀c∈l,b c x=false):ins b l x=x::l:=by
 cases l with
 |nil=>rfl
 |cons a l=>unfold ins;rw[bk (by simp[h a (by simp)])]
def RJ(hb:uj b){q:α->Bool}:∀{l:aa α} {x:α},l.Pairwise (λx y=>b x y=true)->(∀a∈l,uk b a x)->
 (ins b l x).filter q=if q x=true then ins b (l.filter q) x else l.filter q
 | [],x,_,_=>by
   show [x].filter q=if q x=true then [x]else [];by_cases hp:q x=true
   ·simp[hp]
   simp only[kN]at hp;simp[hp]
 | a::l,x,hs,bq=>by
   obtain⟨h1,ad⟩:=l6.1 hs;have bN:=RJ hb (q:=q) (x:=x) ad λa a1=>bq a (by simp[a1]);rw[SI];by_cases s3:b a x=true
   ·rw[bm s3];by_cases pX:q a=true
    ·rw[yR pX,yR pX,bN];by_cases hq:q x=true
     ·rw[bm hq,bm hq,SI,bm s3]
     rw[bk hq,bk hq]
    rw[wo pX,wo pX,bN]
   rw[bk s3];have ER:b x a=true:=(bq a (by simp)).resolve_left s3;by_cases hq:q x=true
   ·rw[yR hq,bm hq,abP];intro c ak;have oG:=(sd.1 ak).1;refine hb.asymm _ _ ?_;rcases dB.1 oG with rfl|oG
    ·exact ER
    exact hb.trans _ _ _ ER (h1 c oG)
   rw[wo hq,bk hq]
def vB(b:α->α->Bool)(l:aa α):Prop:=l.Pairwise (uk b)
def uk.symm{x y:α}(h:uk b x y):uk b y x:=h.elim .inr .inl
def vB.snoc{l:aa α}{x:α}(h:vB b (l++[x])):vB b l∧∀a∈l,uk b a x:=by
 unfold vB at *;rw[FC]at h;exact⟨h.1,λa a1=>h.2.2 a a1 x (by simp)⟩
def SJ{P:aa α->Prop}(bw:P [])(h1:∀l x,P l->P (l++[x]))(l:aa α):P l:=by
 have:∀r:aa α,P r.reverse:=by
  intro r;induction r with
  |nil=>exact bw
  |cons a r bN=>rw[List.reverse_cons];exact h1 _ _ bN
 have:=this l.reverse;rwa[List.reverse_reverse]at this
def LD(hb:uj b){l:aa α}(h:vB b l):(hi b l).Pairwise (λx y=>b x y=true):=by
 induction l using SJ with
 |bw=>exact List.Pairwise.nil
 | h1 l x bN=>
   obtain⟨h1,ad⟩:=h.snoc
   rw[Ho]
   exact RI hb (bN h1) λa a1=>ad a (vj.1 a1)
def abQ(hb:uj b){q:α->Bool}{l:aa α}(h:vB b l):(hi b l).filter q=hi b (l.filter q):=by
 induction l using SJ with
 |bw=>rfl
 | h1 l x bN=>
   obtain⟨h1,ad⟩:=h.snoc
   rw[Ho,RJ hb (LD hb h1) λa a1=>ad a (vj.1 a1),bN h1,td]
   by_cases hq:q x=true
   ·rw[bm hq,yR hq,List.filter_nil,Ho]
   rw[bk hq,wo hq,List.filter_nil,l8]
def MI[Inhabited α](hb:uj b):∀{l:aa α} {x:α} {k:Nat},l.Pairwise (λx y=>b x y=true)->k<l.length->(b (aF l k) x=true↔k<kh b l x)
 |[],x,k,_,hk=>by simp at hk
 | a::l,x,k,hs,hk=>by
   obtain⟨h1,ad⟩:=l6.1 hs;unfold kh;cases k with
   | zero=>
     have:aF (a::l) 0=a:=rfl
     rw[this]
     split <;> simp_all
   | succ k=>
     have j0:k<l.length:=by simpa using hk
     have he:aF (a::l) (k+1)=aF l k:=by rw[e2 _ hk,e2 _ j0];rfl
     rw[he,MI hb ad j0]
     split
     ·omega
     rename_i s3
     constructor
     ·intro bS
      have a6:=(MI hb ad j0).2 bS
      have bh:=h1 (aF l k) (by rw[e2 _ j0];exact mH _)
      exact absurd (hb.trans _ _ _ bh a6) s3
     intro h;omega
end Gv
namespace Go.Proofs.YtdadopcnkghbaaaGreat
open Go Gv
def Z5{xs:aa c3}{f:c3->av Bool}{g:c3->Bool}(aU:∀x∈xs,f x=some (g x))(ao:xs.length<2^62):
 bF (yV xs f) (λr=>(r= -1∧∀x∈xs,g x=false)∨∃i:Nat,i<xs.length∧r=i∧g (aF xs i)=true∧∀j,j<i->g (aF xs j)=false):=by
 unfold yV
 refine bF.loop xs.length (λk s=>s=(k:Int)∧∀j,j<k->g (aF xs j)=false) (by omega) ⟨rfl,λj aD=>by omega⟩ (λk s hk aw=>?_) (λs aw=>?_)
 ·obtain⟨az,a8⟩:=aw;subst az
  refine bF.cond (λ_=>?_) (λh=>by simp at h;omega)
  refine .idx I hk (.eq (aU _ (by rw[e2 xs hk];exact mH hk)) (.cond (λh=>.ret ?_) (λh=>.ret ⟨gY (by omega),λj aD=>?_⟩)))
  ·exact .ret (.inr ⟨k,hk,rfl,h,a8⟩)
  by_cases ui:j=k
  ·subst ui;exact h
  exact a8 j (by omega)
 obtain⟨az,a8⟩:=aw;subst az
 refine⟨_,by simp;rfl,?_⟩
 refine .ret (.inl ⟨rfl,λx al=>?_⟩)
 obtain⟨j,aD,rfl⟩:=yX.1 al
 rw[<-e2 xs aD];exact a8 j aD
def _root_.Gv.bF.get{β:Type}{m:av β}{v:β}(h:bF m (λr=>r=v)):m=some v:=by
 obtain⟨r,h1,rfl⟩:=h;exact h1
def alI(kind b:Int)(m:cJ)(x:aX):Bool:=
 if m.gX=false then true
 else if kind=1 then decide (x=m.b3)
 else if kind=2 then(List.range 128).all λj=> !lead b m.ft j||(de x j==de m.b3 j)
 else if kind=3 then decide (DL x m.hF=m.b3)
 else !Xm x m.b3&& !Xm m.lh x
def mt(s:aR)(k:Nat)(p:Vector aX 4)(e:bD):Bool:=
 (List.range (aF s.bM k).ca.length).all λi=>alI (aF (aF s.bM k).ca i).du (Ju (aF (aF s.bM k).ca i)) (aF e.cm i) (b9 p i)
def abR{s:aR}(h:cQ s){k:Nat}(hk:k<4){e:bD}(he:e.cu=(k:Int)+1):wX s e=some (aF s.bM k,true):=by
 refine bF.get ?_;unfold wX;rw[he];refine(Li h hk).bind λr aC=>?_;subst aC;rw[show decide ((k:Int)<0)=false from wH (by omega),cond_false];exact .idx I (by have:=h.oo;omega) (.ret I)
def um:aa c3->aa cJ->Int
 |key::ks,m::ms=>if key.du=2 then m.ft else um ks ms
 |_,_=>0
def TT:∀{ks:aa c3} {ms:aa cJ} {i:Nat},ms.length=ks.length->i<ks.length->(aF ks i).du=2->(∀j,j<i->(aF ks j).du≠2)->um ks ms=(aF ms i).ft
 |[],_,i,_,aw,_,_=>by simp at aw
 |key::ks,[],i,ao,_,_,_=>by simp at ao
 | key::ks,m::ms,0,_,_,ad,_=>by
   have:(aF (key::ks) 0)=key:=rfl;rw[this]at ad;unfold um;rw[bm ad];rfl
 | key::ks,m::ms,i+1,ao,aw,ad,aG=>by
   have bw:=aG 0 (by omega);have:(aF (key::ks) 0)=key:=rfl;rw[this]at bw;unfold um;rw[bk bw];have bu:∀{β:Type} [Inhabited β] (x:β) (l:aa β) (n:Nat),aF (x::l) (n+1)=aF l n:=λx l n=>by simp[aF]
   rw[bu]at ad⊢;exact TT (by simpa using ao) (by simpa using aw) ad λj aD=>by have:=aG (j+1) (by omega);rwa[bu]at this
def TU:∀{ks:aa c3} {ms:aa cJ},(∀key∈ks,key.du≠2)->um ks ms=0
 |[],_,_=>by unfold um;rfl
 |key::ks,[],_=>by unfold um;rfl
 | key::ks,m::ms,aG=>by
   unfold um;rw[bk (aG key (by simp))];exact TU λk hk=>aG k (by simp[hk])
def p1(s:aR)(k:Nat)(e:bD):Int:=um (aF s.bM k).ca e.cm
def RK{s:aR}(h:cQ s){k:Nat}(hk:k<4){e:bD}(he:jq s k e):zw s e=some (p1 s k e):=by
 obtain⟨t1,⟨t2,t3⟩,t4,_⟩:=h.k3 hk;have hm:=he.len;refine bF.get ?_;unfold zw p1;refine .eq (abR h hk he.k3) ?_;simp only;refine(Z5 (g:=λkey=>key.du==2) (λx al=>rfl) (by omega)).bind λr aC=>.eq I ?_;rcases aC with⟨rfl,aC⟩|⟨i,h1,rfl,ay,aN⟩
 ·refine .cond (λ_=>.ret ?_) (λh=>by simp at h);rw[TU λkey kX=>by simpa using aC key kX]
 have b4:(!true||decide ((i:Int)<0)||decide ((i:Int)>=(e.cm.length:Int)))=false:=by simp;omega
 rw[b4,cond_false];refine .idx I (by omega) (.ret ?_);rw[TT hm h1 (by simpa using ay) λj aD=>by simpa using aN j aD]
def h0(s:aR)(k:Nat)(a c:aJ):Bool:=
 decide (c.bj.jj<a.bj.jj∨(a.bj.jj=c.bj.jj∧(p1 s k c.bj<p1 s k a.bj∨(p1 s k a.bj=p1 s k c.bj∧c.ct<a.ct))))
def HN(s:aR)(k:Nat):uj (h0 s k)where
 asymm x y h:=by
  unfold h0 at *;rw[fZ]at h;rw[mD];omega
 trans x y z h cC:=by
  unfold h0 at *;rw[fZ]at *;omega
def aeH{s:aR}{k:Nat}{a c:aJ}(h:a.ct≠c.ct):uk (h0 s k) a c:=by
 unfold uk h0;rw[fZ,fZ];omega
def hR(x y:Int):Int:=if x<y then -1 else if y<x then 1 else 0
def tG(x y:Int):oR x y=some (hR x y):=by
 unfold oR Cw hR;have:∀z:Int,(z !=z)=false:=λz=>by simp
 rw[this,this];simp only[Option.bind_some,cond_false];by_cases h1:x<y
 ·simp[h1]
 by_cases ad:y<x
 ·simp[h1,ad]
 simp[h1,ad]
def acw(a c d:Int):tm [a,c,d]=some (if a≠0 then a else if c≠0 then c else d):=by
 refine bF.get ?_;unfold tm;refine bF.loop 3 (λi st=>st=(i:Int)∧∀j,j<i->aF [a,c,d] j=0) (by omega) ⟨rfl,λj aD=>by omega⟩ (λi st aw hs=>?_) (λst hs=>?_)
 ·obtain⟨rfl,hs⟩:=hs;refine .cond (λ_=>?_) (λh=>by simp at h;omega);refine .idx I (by simpa using aw) (.cond (λak=>.ret ?_) λak=>.ret ⟨gY (by omega),λj aD=>?_⟩)
  ·simp only[Sum.elim_inr];refine .ret ?_;have bw:=hs 0;have h1:=hs 1;rcases (show i=0∨i=1∨i=2 by omega)with rfl|rfl|rfl
   ·have:a≠0:=by simpa[aF]using ak
    rw[bm this];rfl
   ·have:c≠0:=by simpa[aF]using ak
    have OS:a=0:=by simpa[aF]using bw (by omega)
    rw[bk (by simpa using OS),bm this];rfl
   have OS:a=0:=by simpa[aF]using bw (by omega)
   have alJ:c=0:=by simpa[aF]using h1 (by omega)
   rw[bk (by simpa using OS),bk (by simpa using alJ)];rfl
  by_cases j1:j=i
  ·subst j1;simpa using ak
  exact hs j (by omega)
 obtain⟨rfl,hs⟩:=hs;refine⟨_,rfl,?_⟩;simp only[Sum.elim_inl];refine .ret ?_;have bw:a=0:=by simpa[aF]using hs 0 (by omega)
 have h1:c=0:=by simpa[aF]using hs 1 (by omega)
 have ad:d=0:=by simpa[aF]using hs 2 (by omega)
 simp[bw,h1,ad]
def R8{s:aR}(h:cQ s){k:Nat}(hk:k<4){a c:aJ}(a1:jq s k a.bj)(ak:jq s k c.bj):zz s a c=some (h0 s k a c):=by
 unfold zz h0;rw[tG,Option.bind_some,RK h hk a1,Option.bind_some,RK h hk ak,Option.bind_some,tG,Option.bind_some,tG,Option.bind_some,acw,Option.bind_some];congr 1;rw[decide_eq_decide];unfold hR;split <;> split <;> (repeat' split) <;> omega
def Yp{xs:aa aJ}{f:aJ->av Bool}{g:aJ->Bool}(aU:∀x∈xs,f x=some (g x))(ao:xs.length<2^62):
 bF (wm xs f) (λr=>(r= -1∧∀x∈xs,g x=false)∨∃i:Nat,i<xs.length∧r=i∧g (aF xs i)=true∧∀j,j<i->g (aF xs j)=false):=by
 unfold wm
 refine bF.loop xs.length (λk s=>s=(k:Int)∧∀j,j<k->g (aF xs j)=false) (by omega) ⟨rfl,λj aD=>by omega⟩ (λk s hk aw=>?_) (λs aw=>?_)
 ·obtain⟨az,a8⟩:=aw;subst az
  refine bF.cond (λ_=>?_) (λh=>by simp at h;omega)
  refine .idx I hk (.eq (aU _ (by rw[e2 xs hk];exact mH hk)) (.cond (λh=>.ret ?_) (λh=>.ret ⟨gY (by omega),λj aD=>?_⟩)))
  ·exact .ret (.inr ⟨k,hk,rfl,h,a8⟩)
  by_cases ui:j=k
  ·subst ui;exact h
  exact a8 j (by omega)
 obtain⟨az,a8⟩:=aw;subst az
 refine⟨_,by simp;rfl,?_⟩
 refine .ret (.inl ⟨rfl,λx al=>?_⟩)
 obtain⟨j,aD,rfl⟩:=yX.1 al
 rw[<-e2 xs aD];exact a8 j aD
structure mu(s:aR)(k:Nat)(i:aJ):Prop where
 fA:jq s k i.bj
def adI{i:aJ}(h1:i.bj.cm.length<=1000)(ad:i.bj.ho.length<=1000):qX i=some i:=by
 unfold qX GV FG FH;rw[iU _ _ (by simp;omega) (by omega),iU _ _ (by simp;omega) (by omega)];rfl
def C8{s:aR}(h:cQ s){k:Nat}(hk:k<4){i:aJ}(aw:mu s k i):qX i=some i:=by
 have h1:=aw.fA.len;have ad:=aw.fA.args;have ay:=(h.k3 hk).2.1.2;exact adI (by omega) (by omega)
def iX(l:aa aJ)(n:Int):Bool:=l.any λc=>c.ct==n
def Vb(x:dH)(n:Int)(ao:x.cK.length<=1000):bF ((wm x.cK (λa0=>wz a0 n)).bind λan=>some an) (λr=>(r= -1∧iX x.cK n=false)∨∃i:Nat,i<x.cK.length∧r=i∧(aF x.cK i).ct=n∧iX x.cK n=true∧∀j,j<i->(aF x.cK j).ct≠n):=by
 refine(Yp (g:=λc=>c.ct==n) (λc ak=>rfl) (by omega)).bind λr aC=>.ret ?_;rcases aC with⟨h1,ad⟩|⟨i,h1,ad,ay,aN⟩
 ·exact .inl ⟨h1,by unfold iX;rw[uJ];exact λc ak=>by simp[ad c ak]⟩
 refine .inr ⟨i,h1,ad,by simpa using ay,?_,λj aD=>by simpa using aN j aD⟩;unfold iX;rw[nj];exact⟨aF x.cK i,by rw[e2 _ h1];exact mH _,ay⟩
def acx{s:aR}(h:cQ s){k:Nat}(hk:k<4){x:dH}(al:x.k9=s){a c:aJ}(a1:mu s k a)(ak:mu s k c):
 bF (y3 x a c) (λr=>r<0↔h0 s k a c=true):=by
 unfold y3
 rw[al]
 refine .eq (R8 h hk a1.fA ak.fA) (.cond (λhb=>.ret ⟨λ_=>hb,λ_=>by omega⟩) λhb=>.eq (R8 h hk ak.fA a1.fA) (.cond (λ_=>.ret ?_) λ_=>.ret ?_))
 ·rw[hb];simp
 rw[hb];simp
def aeI{i j:Nat}(h:i+j<2^62):bz ((BitVec.ofInt 64 (bz ((i:Int)+(j:Int)))) >>> (1#64).toNat).toNat=(((i+j)/2:Nat):Int):=by
 rw[show(i:Int)+(j:Int)=((i+j:Nat):Int) by omega,hr (x:=((i+j:Nat):Int)) (by omega) (by omega)];have:((BitVec.ofInt 64 ((i+j:Nat):Int)) >>> (1#64).toNat).toNat=(i+j)/2:=by
  rw[PN,Hm (by omega)];rw[show(1#64).toNat=1 from rfl,PM,Nat.pow_one]
 rw[this,hr (by omega) (by omega)]
def abS{l:aa aJ}{x:aJ}{b:aJ->aJ->Bool}(hb:uj b)(hs:l.Pairwise (λx y=>b x y=true))(ao:l.length<=1000)
 {f:aJ->aJ->av Int} (aU:∀a∈l,bF (f a x) (λr=>r<0↔b a x=true)):
 bF (Bi l x f) (λr=>r.1=(kh b l x:Int)):=by
 unfold Bi
 have eo:=MH (b:=b) (l:=l) (x:=x)
 have As:∀h,h<l.length->aF l h∈l:=λh ch=>by rw[e2 _ ch];exact mH _
 have o5:∀q:Bool,bF ((cj (decide (((kh b l x:Nat):Int)<(l.length:Int))) true (idx l.length ((kh b l x:Nat):Int))).bind λbP=>
  (cj (decide (((kh b l x:Nat):Int)<(l.length:Int))) true (f (aF l bP) x)).bind λaH=>some (((kh b l x:Nat):Int),(decide (((kh b l x:Nat):Int)<(l.length:Int)))&&(aH==0))) (λr=>r.1=(kh b l x:Int)):=λ_=>by
  refine .cj (P:=λc=>c=kh b l x) (λh=>⟨_,u7 (by simpa using h),rfl⟩) λbP ad=>.cj (P:=λ_=>True) (λh=>?_) λaH _=>.ret I
  rw[ad h]
  exact(aU _ (As _ (by simpa using h))).mono λ_ _=>trivial
 refine bF.loop l.length (λr st=> ∃i j:Nat,st=((i:Int),(j:Int))∧i<=kh b l x∧kh b l x<=j∧j<=l.length∧j-i<=l.length-r) (by omega) ⟨0,l.length,rfl,by omega,by omega,by omega,by omega⟩ (λr st aC cU=>?_) (λst cU=>?_)
 ·obtain⟨i,j,rfl,h1,ad,ay,aN⟩:=cU
  refine .cond (λak=>?_) λak=>.ret ?_
  ·have gD:i<j:=by simpa using ak
   rw[aeI (by omega)]
   have hm:(i+j)/2<l.length:=by omega
   refine .idx I hm ((aU _ (As _ hm)).bind λan bs=>?_)
   have bS:=MI hb (x:=x) hs hm
   refine .bind (P:=λm=> ∃i j:Nat,m=((i:Int),(j:Int))∧i<=kh b l x∧kh b l x<=j∧j<=l.length∧j-i<=l.length-(r+1)) (.cond (λhy=>.eq I (.ret ?_)) λhy=>.ret ?_) λm hm=>.ret ?_
   ·have:=bS.1 (bs.1 (by simpa using hy))
    refine⟨(i+j)/2+1,j,?_,by omega,ad,ay,by omega⟩
    simp only[gY (show(i+j)/2<2^62 by omega)]
   ·have: ¬(i+j)/2<kh b l x:=λch=>by
     have:=bs.2 (bS.2 ch);simp at hy;omega
    exact⟨i,(i+j)/2,rfl,h1,by omega,by omega,by omega⟩
   obtain⟨Fm,uD,rfl,a6⟩:=hm
   exact⟨Fm,uD,rfl,a6⟩
  have gD: ¬i<j:=by simpa using ak
  have:i=kh b l x:=by omega
  subst this
  exact o5 true
 obtain⟨i,j,rfl,h1,ad,ay,aN⟩:=cU
 have gD:i=kh b l x:=by omega
 have ak:decide ((i:Int)<(j:Int))=false:=by simp;omega
 simp only[ak,cond_false]
 refine⟨_,rfl,?_⟩
 subst gD
 exact o5 true
structure lZ(s:aR)(k:Nat)(l:List aJ):Prop where
 ok:∀i∈l,mu s k i
 num:l.Pairwise λa c=>a.ct≠c.ct
 len:l.length<=900
def lZ.OT{s:aR}{k:Nat}{l:aa aJ}(h:lZ s k l):vB (h0 s k) l:=h.num.imp λch=>aeH ch
def lZ.hi{s:aR}{k:Nat}{l:aa aJ}(h:lZ s k l):(∀i∈hi (h0 s k) l,mu s k i)∧(hi (h0 s k) l).length<=900:=
 ⟨λi aw=>h.ok i (vj.1 aw),by rw[aeG];exact h.len⟩
def Hp{s:aR}{k:Nat}{l:aa aJ}{n:Int}:iX (hi (h0 s k) l) n=iX l n:=by
 unfold iX;rw[mI,nj,nj];exact⟨λ⟨c,h1,ad⟩=>⟨c,vj.1 h1,ad⟩,λ⟨c,h1,ad⟩=>⟨c,vj.2 h1,ad⟩⟩
def Tp{l:aa aJ}{n:Int}(h:iX l n=false):∀c∈l,c.ct≠n:=λc ak=>by
 unfold iX at h;rw[uJ]at h;simpa using h c ak
def lZ.snoc{s:aR}{k:Nat}{l:aa aJ}(h:lZ s k l){i:aJ}(aw:mu s k i)(aG:iX l i.ct=false)(ao:l.length<900):lZ s k (l++[i])where
 ok c ak:=by
  rcases bX.1 ak with ak|ak
  ·exact h.ok c ak
  rw[gG.1 ak];exact aw
 num:=by
  rw[FC];exact⟨h.num,by simp,λa a1 c ak=>by rw[gG.1 ak];exact Tp aG a a1⟩
 len:=by simp;omega
def tO(s:aR)(k:Nat)(l:aa aJ):dH:= {k9:=s,cK:=hi (h0 s k) l}
def aeJ{s:aR}(h:cQ s){k:Nat}(hk:k<4){l:aa aJ}(ao:lZ s k l){i:aJ}(aw:mu s k i)(hlen:l.length<900):
 BM (tO s k l) i=some (!iX l i.ct,if iX l i.ct=true then tO s k l else tO s k (l++[i])):=by
 refine bF.get ?_
 unfold BM
 obtain⟨iR,eS⟩:=ao.hi
 refine .cj (λ_=>Vb (tO s k l) _ (by show(hi _ l).length<=1000;omega)) λan h1=>?_
 have h1:=h1 I
 rw[tj]
 rcases h1 with⟨rfl,ad⟩|⟨j,ad,rfl,ay,aN,a6⟩
 ·have k2:iX l i.ct=false:=by rw[<-ad];exact Hp.symm
  refine .cond (λak=>by simp at ak) λ_=>?_
  refine(abS (b:=h0 s k) (HN s k) (LD (HN s k) ao.OT) (by omega) λa a1=>acx h hk I (iR a a1) aw).bind λaH b5=>.eq (C8 h hk aw) ?_
  rw[b5]
  unfold Fu
  have eo:=MH (b:=h0 s k) (l:=hi (h0 s k) l) (x:=i)
  refine .eq (a:=hi (h0 s k) (l++[i])) ?_ (.ret ?_)
  ·show DC 88 (hi (h0 s k) l) _ _=_
   unfold DC
   have rD:maxLen=9223372036854775807:=rfl
   rw[bm ⟨by omega,by omega,by simp,by simp <;> omega,by simp <;> omega⟩,Ho,TS]
   simp
  rw[k2];rfl
 have A3:iX l i.ct=true:=by rw[<-aN];exact Hp.symm
 refine .cond (λ_=>.ret ?_) λak=>by simp at ak <;> omega
 rw[A3];rfl
def abc{s:aR}(h:cQ s){k:Nat}(hk:k<4){l:aa aJ}(ao:∀i∈l,mu s k i)(aG:l.length<=1000):zC l=some l:=by
 refine bF.get ?_;unfold zC;refine bF.loop l.length (λi st=>st=((i:Int),l.take i)) (by omega) I (λi st aw hs=>?_) (λst hs=>?_)
 ·subst hs;refine .cond (λ_=>?_) (λak=>by simp at ak;omega);refine .idx I aw (.eq (C8 h hk (ao _ (by rw[e2 _ aw];exact mH _))) (.eq (iU _ _ (by simp;omega) (by omega)) (.ret ?_)));rw[gY (by omega),Ra l aw]
 subst hs;refine⟨_,by simp;rfl,.ret ?_⟩;simp
def aeK{s:aR}(h:cQ s){k:Nat}(hk:k<4){l:aa aJ}(ao:lZ s k l):BL (tO s k l)=some (hi (h0 s k) l):=by
 unfold BL;obtain⟨iR,eS⟩:=ao.hi;show Option.bind (zC (hi (h0 s k) l)) _=_;rw[abc h hk iR (by omega)];rfl
def mu.small{s:aR}(h:cQ s){k:Nat}(hk:k<4){i:aJ}(aw:mu s k i):i.bj.cm.length<=1000∧i.bj.ho.length<=1000:=by
 have h1:=aw.fA.len;have ad:=aw.fA.args;have ay:=(h.k3 hk).2.1.2;exact⟨by omega,by omega⟩
def yn(o:av aJ):aJ×Bool:=match o with |some c=>(c,true)|none=>(default,false)
structure jn(hp:aE Cell)(t:Nat)(g:List Bool->Option Int):Prop where
 ok:∃c,fl hp t=some c∧c.gr=32∧pG hp c.ek∧∀aT,cont hp c.ek aT=g aT
def Own(hp:aE Cell)(t q:Nat):Prop:=q=t∨∃c aT,fl hp t=some c∧cA hp c.ek aT=some q
def dR(v:aX)(n:Nat):aa Bool:=(List.range n).map λi=>de v (31-i)
def G4(v:aX)(n:Nat):dR v (n+1)=dR v n++[de v (31-n)]:=by simp[dR,y6]
def RL(v:aX):dR v 0=[]:=rfl
def R9{hp:aE Cell}{t:Nat}{c:ga}(ak:fl hp t=some c)(hb:c.gr=32){n:Nat}(aG:n<=32){v:aX}(a7:∀j,j<128->de v j=true->lead 32 n j=true):
 zh hp (some t) v n=some true:=by
 refine bF.get ?_
 unfold zh
 have az:(Option.isSome (some t)&&decide ((n:Int)>=0))=true:=by simp
 have a8:decide ((n:Int)<=c.gr)=true:=by rw[hb];simp;omega
 refine .cj (P:=λr=>r=t) (λ_=>⟨t,rfl,rfl⟩) λbp h1=>?_
 rw[h1 az]
 refine .cj (P:=λr=>r=c) (λ_=>⟨c,ak,rfl⟩) λc1 ad=>?_
 rw[ad az]
 rw[az,a8]
 refine .cj (P:=λr=>r=t) (λ_=>⟨t,rfl,rfl⟩) λb6 ay=>?_
 rw[ay I]
 refine .cj (P:=λr=>r=c) (λ_=>⟨c,ak,rfl⟩) λc2 aN=>?_
 rw[aN I,hb]
 refine .cj (λ_=>abb 32 n (by decide) (by decide)) λan a6=>?_
 refine .cj (P:=λr=>r=DL v an) (λ_=>⟨_,and_eq v an,rfl⟩) λaH bh=>?_
 refine .eq I (.ret ?_)
 have:aH=v:=by
  rw[bh I];refine TQ λj aD=>?_;rw[adE,a6 I j aD];cases e:de v j with
  |false=>rfl
  |true=>rw[a7 j aD e];rfl
 rw[this];simp
def TV{v:aX}{i:Nat}(aw:i<32):bF (w3 v (bz ((bz ((32:Int)-1))-(i:Int)))) (λr=>r=de v (31-i)):=by
 have e:bz ((bz ((32:Int)-1))-(i:Int))=((31-i:Nat):Int):=by
  rw[show bz ((32:Int)-1)=31 from by rw[hr (by decide) (by decide)];rfl,hr (by omega) (by omega)];omega
 rw[e];refine(aeF v _).mono λr aC=>?_;rw[aC];have:decide (0<=((31-i:Nat):Int)∧((31-i:Nat):Int)<128)=true:=by rw[fZ];omega
 rw[this,wM];rfl
def TW(b:Bool):(cond b (some (1:Int)) (some 0))=some ((e0 b:Nat):Int):=by cases b <;> rfl
def Vc{σ ε:Type}{hp:aE Cell}{t:Nat}{c:ga}(ak:fl hp t=some c)(hb:c.gr=32)(v:aX){n:Nat}(aG:n<=32){step:Int->σ->av (σ⊕ε)}{s0:σ}{P:σ⊕ε->Prop}(eX:Nat->σ->Prop)(bw:eX 0 s0)
 (hs:∀i s,i<n->eX i s->bF (step ((e0 (de v (31-i)):Nat):Int) s) (λr=>match r with | .inl b1=>eX (i+1) b1| .inr e=>P (.inr e))) (he:∀s,eX n s->P (.inl s)):bF (te hp n v (some t) step s0) P:=by
 unfold te
 refine bF.loop n (λi s=>s.1=(i:Int)∧eX i s.2) (by omega) ⟨rfl,bw⟩ (λi s aw iA=>?_) (λs iA=>?_)
 ·obtain⟨j,s⟩:=s;obtain⟨az,a8⟩:=iA
  simp only at az a8;subst az
  refine bF.cond (λ_=>?_) (λh=>by simp at h;omega)
  refine .eq I (.eq ak ?_)
  rw[hb]
  refine(TV (by omega)).bind λan h1=>.eq (TW an) ?_
  rw[h1]
  refine(hs i s aw a8).bind λr aC=>?_
  cases r with
  |inl b1=>exact .ret ⟨gY (by omega),aC⟩
  |inr e=>exact .ret (.ret aC)
 obtain⟨j,s⟩:=s;obtain⟨az,a8⟩:=iA
 simp only at az a8;subst az
 refine⟨_,by simp;rfl,?_⟩
 exact .ret (he s a8)
def ahj{σ ε:Type}{t:Nat}(v:aX){n:Nat}(aG:n<=32){hq:σ->aE Cell}{step:Int->σ->ah (σ⊕ε)}{s0:σ}{P:σ⊕ε->Prop}(eX:Nat->σ->Prop)(bw:eX 0 s0)(nM:∀i s,eX i s->∃c,fl (hq s) t=some c∧c.gr=32)
 (hs:∀i s,i<n->eX i s->cE (step ((e0 (de v (31-i)):Nat):Int) s) (λr=>match r with | .inl b1=>eX (i+1) b1| .inr e=>P (.inr e))) (he:∀s,eX n s->P (.inl s)):cE (wJ n v (some t) hq step s0) P:=by
 unfold wJ
 refine .bind (P:=λe=>match e with | .inl e=>P (.inl e.2.2)| .inr e=>P (.inr e.2.2.2.2.2.2)) (cE.loop n (λi s=>s.1=(i:Int)∧eX i s.2) (by omega) ⟨rfl,bw⟩ (λi s aw iA=>?_) (λs iA=>?_)) λe h=>?_
 ·obtain⟨j,s⟩:=s;obtain⟨az,a8⟩:=iA
  simp only at az a8;subst az
  refine cE.cond (λ_=>?_) (λh=>by simp at h;omega)
  obtain⟨c,ak,hb⟩:=nM i s a8
  refine .eq I (.eq ak ?_)
  rw[hb]
  refine .oE (TV (by omega)) λan h1=>.eq (TW an) ?_
  rw[h1]
  refine .bind (hs i s aw a8) λr aC=>?_
  cases r with
  |inl b1=>exact .ret ⟨gY (by omega),aC⟩
  |inr e=>exact .ret aC
 ·obtain⟨j,s⟩:=s;obtain⟨az,a8⟩:=iA
  simp only at az a8;subst az
  refine cE.cond (λh=>by simp at h) λ_=>.ret (he s a8)
 cases e with
 |inl e=>exact .ret h
 |inr e=>exact .ret h
def SK{hp:aE Cell}{t:Nat}{c:ga}(ak:fl hp t=some c)(hb:c.gr=32)(bq:pG hp c.ek){n:Nat}(aG:n<=32){v:aX}(a7:∀j,j<128->de v j=true->lead 32 n j=true):
 zn hp (some t) v n=some (cA hp c.ek (dR v n)):=by
 refine bF.get ?_
 unfold zn
 refine .eq (R9 ak hb aG a7) (.cond (λh=>by cases h) λ_=>.eq rfl (.eq ak (.eq rfl ?_)))
 show bF (Option.bind (te hp (n:Int) v (some t) _ _) _) _
 refine bF.bind (P:=λe:Ref⊕(Ref×Ref)=>e.elim (λs=>s=cA hp c.ek (dR v n)) (λq=>q.2=cA hp c.ek (dR v n))) (Vc ak hb v aG (λi s=>s=cA hp c.ek (dR v i)) oY.symm (λi s aw hs=>?_) (λs hs=>hs)) λe he=>?_
 ·refine .cond (λh=>.ret ?_) λh=>?_
  ·rw[JE]at h
   have az:dR v n=dR v i++(dR v n).drop i:=by
    have:dR v i=(dR v n).take i:=by unfold dR;rw[<-List.map_take,List.take_range];congr 2;omega
    rw[this,fw]
   show(none:Ref)=_
   rw[az,nu,<-hs,h,gb]
  cases s with
  |none=>simp at h
  | some p=>
    obtain⟨c1,h1⟩:=bq.reads _ _ hs.symm
    refine .eq I (.idx I (by cases de v (31-i) <;> decide) (.eq h1 (.ret ?_)))
    show b9 c1.cX _=_
    rw[G4,nu,<-hs,hn h1,oY]
 cases e with
 |inl s=>exact .ret he
 |inr q=>exact .ret he
def TX{hp:aE Cell}{t:Nat}{g:aa Bool->av Int}(h:jn hp t g){n:Nat}(aG:n<=32){v:aX}(a7:∀j,j<128->de v j=true->lead 32 n j=true):
 wV hp (some t) v n=some (match g (dR v n)with |none=>(0,false)|some id=>(id,true)):=by
 obtain⟨c,ak,hb,bq,bu⟩:=h.ok
 refine bF.get ?_
 unfold wV
 refine .eq (SK ak hb bq aG a7) ?_
 rw[<-bu]
 cases e:cA hp c.ek (dR v n)with
 | none=>
   rw[lf e]
   refine .cj (P:=λ_=>True) (λh=>by cases h) λo _=>.cj (P:=λ_=>True) (λh=>by cases h) λo _=>.cond (λ_=>.ret rfl) λh=>by cases h
 | some p=>
   obtain⟨d,hd⟩:=bq.reads _ _ e
   rw[kx e hd]
   refine .cj (P:=λr=>r=p) (λ_=>⟨p,rfl,rfl⟩) λo h1=>?_
   rw[h1 I]
   refine .cj (P:=λr=>r=d) (λ_=>⟨d,hd,rfl⟩) λc1 ad=>?_
   rw[ad I]
   refine .cond (λh=>?_) λh=>?_
   ·have:d.fx=false:=by simpa using h
    rw[this];exact .ret I
   have:d.fx=true:=by simpa using h
   rw[this];exact .eq I (.eq hd (.ret I))
structure IB(ki hp:aE Cell)(t:Nat)(g:List Bool->Option Int)(r:Nat):Prop where
 cell:∃c,fl hp t=some c∧c.gr=32∧c.ek=some r
 tree:pG hp (some r)
 cont:∀aT,cont hp (some r) aT=g aT
 keeps:ei ki hp (Own ki t)
 own:∀aT q,cA hp (some r) aT=some q->Own ki t q∨q∉c6 ki
def CN{hp:aE Cell}{a t:Nat}{k:Cell}(a1:a∉c6 hp)(h:pat hp t=some k):a≠t:=λe=>a1 (e▸il h)
def SL{hp:aE Cell}{a:Nat}{x:dT}:cv ((a,.fT x)::hp) a=some x:=by rw[qd,jC,bm I]
def abd{hp:aE Cell}{a:Nat}(a1:a∉c6 hp):cv hp a=none:=by unfold cv;rw[acv a1]
def zN{hp:aE Cell}{p:Nat}{k:Cell}{x:dT}(h:pat hp p=some k):cv (bY hp p (.fT x)) p=some x:=by rw[qd,qi h]
def uX{hp:aE Cell}{p q:Nat}{k:Cell}(h:p≠q):cv (bY hp p k) q=cv hp q:=w5 (k8 h)
def Rq{hp:aE Cell}{a q:Nat}{k:Cell}(h:a≠q):cv ((a,k)::hp) q=cv hp q:=w5 (by rw[jC,bk h])
def SM{hp:aE Cell}{p:Nat}{k:Cell}{x:ga}(h:pat hp p=some k):fl (bY hp p (.jX x)) p=some x:=by rw[tq,qi h]
def GX{hp:aE Cell}{p q:Nat}{k:Cell}(h:p≠q):fl (bY hp p k) q=fl hp q:=GW (k8 h)
def Rr{hp:aE Cell}{a q:Nat}{k:Cell}(h:a≠q):fl ((a,k)::hp) q=fl hp q:=GW (by rw[jC,bk h])
def Ic{hp:aE Cell}{p t:Nat}{x:dT}{c:ga}(h1:cv hp p=some x)(ad:fl hp t=some c):p≠t:=λe=>by
 subst e;rw[qd]at h1;rw[tq,h1]at ad;cases ad
def aeL{hp:aE Cell}{t:Nat}{g:aa Bool->av Int}{c:ga}(ak:fl hp t=some c)(hb:c.gr=32)(bq:pG hp c.ek)(bu:∀aT,cont hp c.ek aT=g aT):
 cE (cond c.ek.isNone (
     ah.bind (ah.mk hp (Cell.fT (default:dT))) λa2=>
     ah.bind (ah.of (fl a2.2 t)) λvZ=>
     ah.bind (ah.of (some (bY a2.2 t (Cell.jX ({vZ with ek:=(some a2.1:Ref)}:ga))))) λow=>
     ah.ret ow) (ah.ret hp)) (λbH=> ∃r,IB hp bH t g r):=by
 have gx:=tq.1 ak
 refine .cond (λh=>.mk λa a1=>?_) λh=>?_
 ·have aC:c.ek=none:=by rw[JE]at h;exact h
  have Xn:=CN a1 gx
  have AM:fl ((a,Cell.fT default)::hp) t=some c:=by rw[Rr Xn];exact ak
  refine .eq AM (.eq I (.ret ⟨a,?_⟩))
  have aG:cv (bY ((a,Cell.fT default)::hp) t (.jX {c with ek:=some a})) a=some default:=by
   rw[uX Xn.symm,SL]
  have aU:=R7 aG
  refine⟨⟨_,SM (tq.1 AM),hb,rfl⟩,⟨λaT p h1=>?_,λaT cs p h1 ad=>?_,λaT p h1=>?_⟩,λaT=>?_,?_,λaT q h1=>?_⟩
  ·rw[aU]at h1
   split at h1
   ·cases h1;exact⟨_,aG⟩
   cases h1
  ·rw[aU]at h1 ad
   split at h1 <;> split at ad
   ·rename_i az a8;rw[az,a8]
   ·cases ad
   ·cases h1
   cases h1
  ·rw[aU]at h1
   split at h1
   ·rename_i e;rw[e];exact uO _
   cases h1
  ·rw[<-bu,aC,lf gb]
   by_cases e:aT=[]
   ·rw[kx (by rw[aU,bm e]) aG];rfl
   rw[lf (by rw[aU,bk e])]
  ·exact(ei.mk' a1).trans (own':=λq=>q=t) (ei.up (own:=λq=>q=t) I) λq _ h1=>.inl h1
  rw[aU]at h1
  split at h1
  ·cases h1;exact .inr a1
  cases h1
 cases aC:c.ek with
 |none=>rw[aC]at h;cases h
 | some r=>
   rw[aC]at bq bu
   exact .ret ⟨r,⟨c,ak,hb,aC⟩,bq,bu,.refl,λaT q h1=>.inl (.inr ⟨c,aT,ak,by rw[aC];exact h1⟩)⟩
def ahk{hp:aE Cell}{t:Nat}{g:aa Bool->av Int}(h:jn hp t g){n:Nat}(aG:n<=32){v:aX}(a7:∀j,j<128->de v j=true->lead 32 n j=true)(id:Int)(eP:g (dR v n)=none):
 cE (zr hp (some t) v n id) (λr=>r.1=true∧jn r.2 t (λaT=>if aT=dR v n then some id else g aT)∧ei hp r.2 (Own hp t)∧∀q,Own r.2 t q->Own hp t q∨q∉c6 hp):=by
 obtain⟨c,ak,hb,bq,bu⟩:=h.ok
 unfold zr
 refine .eq (R9 ak hb aG a7) (.cond (λh=>by cases h) λ_=>.eq (SK ak hb bq aG a7) ?_)
 refine .cj (P:=λo=>cA hp c.ek (dR v n)=some o) (λh1=>?_) λbp h1=>?_
 ·cases e:cA hp c.ek (dR v n)with
  |none=>rw[e]at h1;cases h1
  |some p=>exact⟨p,rfl,rfl⟩
 refine .cj (P:=λd=>cv hp bp=some d) (λad=>?_) λc1 ad=>?_
 ·obtain⟨d,hd⟩:=bq.reads _ _ (h1 ad)
  exact⟨d,hd,hd⟩
 refine .cond (λay=>?_) λ_=>?_
 ·simp only[gJ]at ay
  rw[<-bu,kx (h1 ay.1) (ad ay.1),ay.2]at eP
  cases eP
 refine .eq I (.eq ak (.bind (aeL ak hb bq bu) λm1 b7=>?_))
 obtain⟨r,b7⟩:=b7
 obtain⟨dM,jF,anu,OC⟩:=b7.cell
 refine .eq jF (.eq I ?_)
 show cE (ah.bind (wJ (n:Int) v (some t) _ _ _) _) _
 refine .bind (P:=λe:(Ref×aE Cell)⊕Empty=> ∃p cw,e=.inl (some p,cw)∧cA cw (some r) (dR v n)=some p∧IB hp cw t g r) (ahj v aG (λi s=> ∃p,s.1=some p∧cA s.2 (some r) (dR v i)=some p∧IB hp s.2 t g r) ⟨r,OC,oY,b7⟩ (λi s aw=>?_) (λi s aw hs=>?_) (λs hs=>?_)) λe he=>?_
 ·obtain⟨p,_,_,hm⟩:=aw
  obtain⟨d,aN,a6,_⟩:=hm.cell
  exact⟨d,aN,a6⟩
 ·obtain⟨alK,cw⟩:=s
  obtain⟨p,az,a8,hm⟩:=hs
  simp only at az a8 hm
  subst az
  obtain⟨d,hd⟩:=hm.tree.reads _ _ a8
  have bS:e0 (de v (31-i))<2:=by cases de v (31-i) <;> decide
  refine .eq I (.idx I bS (.eq hd ?_))
  refine .bind (P:=λgC=> ∃q l3,cv gC p=some l3∧b9 l3.cX (e0 (de v (31-i)))=some q∧cA gC (some r) (dR v i)=some p∧IB hp gC t g r) (.cond (λbh=>.mk λa a1=>?_) λbh=>.ret ?_) λgC cH=>?_
  ·have rP:b9 d.cX (e0 (de v (31-i)))=none:=by rw[JE]at bh;exact bh
   have Xo:=CN a1 (qd.1 hd)
   have iY:cv ((a,Cell.fT default)::cw) p=some d:=by rw[Rq Xo];exact hd
   refine .idx I bS (.eq iY (.eq I (.ret ?_)))
   have eo:cv (bY ((a,Cell.fT default)::cw) p (.fT {d with cX:=iq d.cX (e0 (de v (31-i))) (some a)})) a=some default:=by
    rw[uX Xo.symm,SL]
   have cb:cv (bY ((a,Cell.fT default)::cw) p (.fT {d with cX:=iq d.cX (e0 (de v (31-i))) (some a)})) p=some {d with cX:=iq d.cX (e0 (de v (31-i))) (some a)}:=zN (qd.1 iY)
   obtain⟨g1,g2,g3⟩:=grow (by unfold dR;simp;omega) hm.tree a8 hd rP (abd a1) cb eo λq iN pa=>by rw[uX iN.symm,Rq pa.symm]
   have AB:Own hp t p∨p∉c6 hp:=hm.own _ _ a8
   refine⟨a,_,cb,by rw[w9 _ _ bS,bm I],by rw[g2,bk (λe=>by have:=dF List.length e;simp at this)];exact a8,?_,g1,λaT=>by rw[g3,hm.cont],?_,λaT q hq=>?_⟩
   ·obtain⟨d4,aN,a6,ed⟩:=hm.cell
    have gx:=Ic hd aN
    exact⟨d4,by rw[GX gx,Rr (CN a1 (tq.1 aN))];exact aN,a6,ed⟩
   ·refine hm.keeps.trans (own':=λq=>q=p) ((ei.mk' a1).trans (own':=λq=>q=p) (ei.up (own:=λq=>q=p) I) λq _ e5=>e5) λq hq e5=>?_
    subst e5
    exact AB.resolve_right λlS=>lS hq
   rw[g2]at hq
   split at hq
   ·cases hq;exact .inr λe5=>a1 (hm.keeps.keys _ e5)
   exact hm.own _ _ hq
  ·cases rP:b9 d.cX (e0 (de v (31-i)))with
   |none=>rw[rP]at bh;cases bh
   |some q=>exact⟨q,d,hd,rP,a8,hm⟩
  obtain⟨q,l3,ed,e5,lS,EN⟩:=cH
  refine .idx I bS (.eq ed (.ret ⟨q,e5,?_,EN⟩))
  show cA gC (some r) (dR v (i+1))=some q
  rw[G4,nu,lS,hn ed,e5,oY]
 ·obtain⟨alK,cw⟩:=s
  obtain⟨p,az,a8,hm⟩:=hs
  simp only at az a8 hm
  subst az
  exact⟨p,cw,rfl,a8,hm⟩
 obtain⟨p,cw,rfl,a8,hm⟩:=he
 obtain⟨d,hd⟩:=hm.tree.reads _ _ a8
 have OU:=qd.1 hd
 refine .eq I (.eq hd (.eq I (.eq I ?_)))
 have iY:cv (bY cw p (.fT {d with fx:=true})) p=some {d with fx:=true}:=zN OU
 refine .eq iY (.eq I (.ret ?_))
 have AH:cv (bY (bY cw p (.fT {d with fx:=true})) p (.fT {d with fx:=true,jr:=id})) p=some {d with fx:=true,jr:=id}:=zN (qd.1 iY)
 obtain⟨s1,s2⟩:=Wl hm.tree a8 hd AH I λq hq=>by rw[uX hq.symm,uX hq.symm]
 obtain⟨d4,aN,a6,ed⟩:=hm.cell
 have gx:=Ic hd aN
 have A3:fl (bY (bY cw p (.fT {d with fx:=true})) p (.fT {d with fx:=true,jr:=id})) t=some d4:=by rw[GX gx,GX gx];exact aN
 have AB:Own hp t p∨p∉c6 hp:=hm.own _ _ a8
 refine⟨rfl,⟨d4,A3,a6,by rw[ed];exact s1,λaT=>?_⟩,?_,λq hq=>?_⟩
 ·rw[ed,s2,hm.cont];rfl
 ·refine hm.keeps.trans (own':=λq=>q=p) ((ei.up (own:=λq=>q=p) I).trans (own':=λq=>q=p) (ei.up (own:=λq=>q=p) I) λq _ e5=>e5) λq hq e5=>?_
  subst e5
  exact AB.resolve_right λlS=>lS hq
 rcases hq with rfl|⟨ic,aT,h1,ad⟩
 ·exact .inl (.inl I)
 rw[A3]at h1;cases h1
 rw[ed,CW hd AH I (λq hq=>by rw[uX hq.symm,uX hq.symm])]at ad
 exact hm.own _ _ ad
def enc:av (Nat×Int)->Int×Int×Bool
 |none=>(0,0,false)
 |some (n,id)=>((n:Int),id,true)
def cQ.Jf{s:aR}(h:cQ s):∃cZ dA gF,∀k,k<4->kb (aF s.bM k)=aF (tV cZ dA gF) k:=by
 obtain⟨cZ,dA,gF,e⟩:=h.tables;refine⟨cZ,dA,gF,λk hk=>?_⟩;rw[<-e,CV kb (by rw[h.oo];exact hk)]
def xa(t:bC){r:Int×Int}(ks:aa c3)(hk:t.ca=ks)(h:zt {(default:bC)with ca:=ks} =some r):zt t=some r:=by
 subst hk;exact h
def pz(k:Nat):Int:=aF [1,2,3,3] k
def abT{s:aR}(h:cQ s){k:Nat}(hk:k<4):bF (zt (aF s.bM k)) (λr=>r.1=pz k∧(k=1->r.2=0)):=by
 obtain⟨cZ,dA,gF,e⟩:=h.Jf;have e:=e k hk;have fz:(aF s.bM k).ca=(aF (tV cZ dA gF) k).2.2:=dF (·.2.2) e;have:k=0∨k=1∨k=2∨k=3:=by omega
 rcases this with rfl|rfl|rfl|rfl
 ·exact⟨_,xa _ [qQ] fz I,rfl,λh=>by simp at h⟩
 ·cases cZ
  ·exact⟨_,xa _ [yE] fz I,rfl,λ_=>rfl⟩
  exact⟨_,xa _ [yE,Pu] fz I,rfl,λ_=>rfl⟩
 ·cases dA
  ·exact⟨_,xa _ [Fk,EM] fz I,rfl,λh=>by simp at h⟩
  exact⟨_,xa _ [Fk,EM,Pv] fz I,rfl,λh=>by simp at h⟩
 cases gF
 ·exact⟨_,xa _ [Fl] fz I,rfl,λh=>by simp at h⟩
 exact⟨_,xa _ [Fl,Pw,yE] fz I,rfl,λh=>by simp at h⟩
structure AD(s:aR)(k:Nat)(ki hp:aE Cell)(p:Nat):Prop where
 cell:∃c m,hG hp p=some c∧c.tz=pz k∧c.tA=((aF s.bM k).ca.length:Int)∧c.nq=⟨some m⟩∧kU hp m=some []∧
  (k=0->∃q m2,c.lI=.od ⟨some q⟩∧mi hp q=some ⟨⟨some m2⟩⟩∧lK hp m2=some []∧q∉c6 ki∧m2∉c6 ki)∧
  (k=1->∃m3,c.lI=.oe ⟨0,32,⟨some m3⟩⟩∧ka hp m3=some []∧m3∉c6 ki)∧
  (2<=k->∃q key cap,c.lI=.og ⟨some q⟩∧pJ hp q=some (({k9:=s,cK:=[]}:dH),key,cap)∧q∉c6 ki)∧
  p∉c6 ki∧m∉c6 ki∧(∀q,q∈c6 ki->q∈c6 hp)∧∀q,q∈c6 ki->pat hp q=pat ki q
def ahl{s:aR}(h:cQ s){k:Nat}(hk:k<4)(hp:aE Cell):cE (zE hp s ((k:Int)+1)) (λr=> ∃p,r.1=some p∧AD s k hp r.2 p):=by
 unfold zE;refine .oE (Li h hk) λan az=>?_;subst az;refine .cond (λak=>by simp at ak;omega) λ_=>?_;refine .idx I (by rw[h.oo];exact hk) (.oE (abT h hk) λaH ad=>.mk λm hm=>.eq I (.mk λp bH=>?_));obtain⟨Fo,key⟩:=aH;obtain⟨ad,ay⟩:=ad;simp only at ad ay bH;subst ad;have lA:p≠m:=λe=>by subst e;simp[c6]at bH
 have:k=0∨k=1∨2<=k:=by omega
 rcases this with rfl|rfl|dI
 ·have e:(pz 0==1)=true:=rfl;simp only[e,cond_true];unfold GS;refine .bind (P:=λcw=>AD s 0 hp cw p) (.bind (P:=λr=> ∃q m2,r=((some q:Ref),(q,Cell.Al ⟨⟨some m2⟩⟩)::(m2,Cell.o2 [])::(p,_)::(m,Cell.kz [])::hp)∧m2∉c6 ((p,_)::(m,Cell.kz [])::hp)∧q∉c6 ((m2,Cell.o2 [])::(p,_)::(m,Cell.kz [])::hp)) (.mk λm2 dy=>.mk λq hq=>.ret ⟨q,m2,rfl,dy,hq⟩) λbf aN=>?_) λcw a6=>.ret ⟨p,rfl,a6⟩;obtain⟨q,m2,rfl,dy,hq⟩:=aN;simp only[c6,mJ,dB,w1]at dy hq bH;refine .eq (by simp[hG,pat,hq.1,hq.2,dy.1,hq.2.2.1,w0];rfl) (.eq I (.ret ?_));refine⟨{tz:=pz 0,tA:=((aF s.bM 0).ca.length:Int),lI:=.od ⟨some q⟩,nq:=⟨some m⟩},m,?_,rfl,rfl,rfl,?_,?_,λak=>by simp at ak,λak=>by simp at ak,bH.2,hm,λx al=>by rw[pD];exact fr _ (fr _ (fr _ (fr _ al))),λx al=>?_⟩
  ·simp[hG,pat,bY,hq.1,hq.2,dy.1,hq.2.2.1]
  ·simp[kU,pat,bY,hq.1,hq.2,dy.1,hq.2.2.1,dy.2.1,bH.1]
  ·intro _;refine⟨q,m2,rfl,?_,?_,hq.2.2.2,dy.2.2⟩
   ·simp[mi,pat,bY,hq.1,hq.2,dy.1,hq.2.2.1,dy.2.1,bH.1]
   simp[lK,pat,bY,hq.1,hq.2,dy.1,hq.2.2.1,dy.2.1,bH.1]
  have jy:q≠x:=λe=>hq.2.2.2 (by rw[e];exact al);have r8:m2≠x:=λe=>dy.2.2 (by rw[e];exact al);have p2:p≠x:=λe=>bH.2 (by rw[e];exact al);have pA:m≠x:=λe=>hm (by rw[e];exact al);simp[CY,pat,jy,r8,p2,pA]
 ·have e:(pz 1==1)=false:=rfl;have a8:(pz 1==2)=true:=rfl;simp only[e,a8,cond_true,cond_false];have ay:=ay I;subst ay;obtain⟨t1,⟨t2,t3⟩,t4,_⟩:=h.k3 hk;have aU:(aF (aF s.bM 1).ca 0).hE=((6:Nat):Int)+1:=by
   obtain⟨cZ,dA,gF,e⟩:=h.Jf;have e:=dF (·.2.2) (e 1 hk);show(aF (kb (aF s.bM 1)).2.2 0).hE=_;rw[e];cases cZ <;> rfl
  refine .bind (P:=λcw=>AD s 1 hp cw p) (.bind (P:=λcw=>AD s 1 hp cw p) ?_ λ_ bh=>.ret bh) λcw a6=>.ret ⟨p,rfl,a6⟩;refine .idx (k:=0) I (by omega) ?_;simp only[aU];refine .oE (aaP h (show 6<9 by decide)) λbI h2=>?_;subst h2;refine .oE (P:=λr=>r=32) (.cond (λ_=>.idx I (by rw[h.DK];decide) (.ret (h.OO (show 6<9 by decide)).2)) (λak=>by simp at ak)) λb hb=>?_;subst hb;refine .mk λm3 fE=>?_;simp only[c6,mJ,dB,w1]at fE bH;refine .eq I (.eq (by simp[hG,pat,fE.1];rfl) (.eq I (.ret ?_)));refine⟨{tz:=pz 1,tA:=((aF s.bM 1).ca.length:Int),lI:=.oe ⟨0,32,⟨some m3⟩⟩,nq:=⟨some m⟩},m,?_,rfl,rfl,rfl,?_,λak=>by simp at ak,?_,λak=>by simp at ak,bH.2,hm,λx al=>by rw[pD];exact fr _ (fr _ (fr _ al)),λx al=>?_⟩
  ·simp[hG,pat,bY,fE.1]
  ·simp[kU,pat,bY,fE.1,fE.2.1,bH.1]
  ·intro _;refine⟨m3,rfl,?_,fE.2.2⟩;simp[ka,pat,bY,fE.1,fE.2.1,bH.1]
  have jy:m3≠x:=λe=>fE.2.2 (by rw[e];exact al);have p2:p≠x:=λe=>bH.2 (by rw[e];exact al);have pA:m≠x:=λe=>hm (by rw[e];exact al);simp[CY,pat,jy,p2,pA]
 have e:(pz k==1)=false:=by
  have:k=2∨k=3:=by omega
  rcases this with rfl|rfl <;> rfl
 have a8:(pz k==2)=false:=by
  have:k=2∨k=3:=by omega
  rcases this with rfl|rfl <;> rfl
 simp only[e,a8,cond_true,cond_false];refine .bind (P:=λcw=>AD s k hp cw p) (.bind (P:=λcw=>AD s k hp cw p) ?_ λ_ bh=>.ret bh) λcw a6=>.ret ⟨p,rfl,a6⟩;refine .eq I (.any λgm=>.mk λq hq=>?_);simp only[c6,mJ,dB,w1]at hq bH;refine .eq (by simp[hG,pat,hq.1];rfl) (.eq I (.ret ?_));refine⟨{tz:=pz k,tA:=((aF s.bM k).ca.length:Int),lI:=.og ⟨some q⟩,nq:=⟨some m⟩},m,?_,rfl,rfl,rfl,?_,λak=>by omega,λak=>by omega,λ_=>⟨q,gm.1,gm.2,rfl,?_,hq.2.2⟩,bH.2,hm,λx al=>by rw[pD];exact fr _ (fr _ (fr _ al)),λx al=>?_⟩
 ·simp[hG,pat,bY,hq.1]
 ·simp[kU,pat,bY,hq.1,hq.2.1,bH.1]
 ·simp[pJ,pat,bY,hq.1]
 have jy:q≠x:=λe=>hq.2.2 (by rw[e];exact al);have p2:p≠x:=λe=>bH.2 (by rw[e];exact al);have pA:m≠x:=λe=>hm (by rw[e];exact al);simp[CY,pat,jy,p2,pA]
def SN{α:Type}{b:α->α->Bool}(hb:uj b){q:α->Bool}:∀{l:aa α} {c:α},l.Pairwise (λx y=>b x y=true)->c∈l->q c=true->(∀d∈l,q d=true->d=c∨b c d=true)->l.find? q=some c
 |[],c,_,ak,_,_=>by cases ak
 | a::l,c,hs,ak,hq,hd=>by
   obtain⟨h1,ad⟩:=l6.1 hs;by_cases pX:q a=true
   ·rw[List.find?_cons_of_pos pX];rcases hd a (by simp) pX with h|h
    ·rw[h]
    rcases dB.1 ak with ay|ay
    ·rw[ay]
    have:=hb.asymm _ _ (h1 c ay);rw[this]at h;cases h
   rw[List.find?_cons_of_neg pX];rcases dB.1 ak with ay|ay
   ·rw[ay]at hq;exact absurd hq pX
   exact SN hb ad ay hq λd hd' alL=>hd d (by simp[hd']) alL
def adJ{α:Type}{b:α->α->Bool}(hb:uj b){q:α->Bool}{l:aa α}{c:α}(h:vB b l)(ak:c∈l)(hq:q c=true)(hd:∀d∈l,q d=true->d=c∨b c d=true):(hi b l).find? q=some c:=
 SN hb (LD hb h) (vj.2 ak) hq λd hd'=>hd d (vj.1 hd')
def lZ.uniq{s:aR}{k:Nat}:∀{l:aa aJ},lZ s k l->∀{a c:aJ},a∈l->c∈l->a.ct=c.ct->a=c:=λ{l} h {a c} a1 ak e=>by
 have aG:=h.num;clear h;induction l with
 |nil=>cases a1
 | cons x l bN=>
   obtain⟨h1,ad⟩:=l6.1 aG
   rcases dB.1 a1 with g1|g1 <;> rcases dB.1 ak with g2|g2
   ·rw[g1,g2]
   ·rw[g1]at e;exact absurd e (h1 c g2)
   ·rw[g2]at e;exact absurd e.symm (h1 a g1)
   exact bN g1 g2 ad
def cQ.Nt{s:aR}(h:cQ s):(aF s.bM 0).ca=[qQ]:=by
 obtain⟨cZ,dA,gF,e⟩:=h.Jf;exact dF (·.2.2) (e 0 (by decide))
def cQ.Nu{s:aR}(h:cQ s):∃b,(aF s.bM 1).ca=vo b:=by
 obtain⟨cZ,dA,gF,e⟩:=h.Jf;exact⟨cZ,dF (·.2.2) (e 1 (by decide))⟩
def Jv(s:aR)(k:Nat):Nat:=(aF s.bM k).ca.length
def adK{α:Type}[Inhabited α]{n:Nat}{f:Fin n->α}{j:Nat}(h:j<n):b9 (Vector.ofFn f) j=f ⟨j,h⟩:=by unfold b9;simp[h]
def eJ(e:bD):Vector aX 4:=Vector.ofFn λi=>if i.1<e.cm.length then(aF e.cm i.1).b3 else default
def gS(p:Vector aX 4):Vector aX 4:=iq p 0 default
def zO{e:bD}{j:Nat}(h:j<4):b9 (eJ e) j=if j<e.cm.length then(aF e.cm j).b3 else default:=adK h
def Tq{p:Vector aX 4}{j:Nat}:b9 (gS p) j=if j=0 then default else b9 p j:=by unfold gS;rw[w9 _ _ (by decide)]
def Wm{v w:Vector aX 4}:v=w↔b9 v 0=b9 w 0∧b9 v 1=b9 w 1∧b9 v 2=b9 w 2∧b9 v 3=b9 w 3:=by
 refine⟨λh=>by rw[h];exact⟨rfl,rfl,rfl,rfl⟩,λ⟨bw,h1,ad,ay⟩=>SF λj aD=>?_⟩;rcases (show j=0∨j=1∨j=2∨j=3 by omega)with rfl|rfl|rfl|rfl <;> assumption
def acy{v w:aX}{n m:Nat}:dR v n=dR w m↔n=m∧∀i,i<n->de v (31-i)=de w (31-i):=by
 unfold dR;constructor
 ·intro h;have ao:=dF List.length h;simp only[jO,wD]at ao;subst ao;refine⟨rfl,λi aw=>?_⟩;have:=dF (·[i]?) h;simpa[aw]using this
 rintro ⟨rfl,h⟩;exact J1 λi aw=>h i (nn.1 aw)
def j2(e:bD):aa Bool:=dR (aF e.cm 0).b3 (aF e.cm 0).ft.toNat
def DN{s:aR}(h:cQ s){e:bD}(he:jq s 1 e):tN 2 32 (aF e.cm 0):=by
 have hm:=he.A2 0;obtain⟨b,hb⟩:=h.Nu;rw[hb]at hm;cases b
 ·exact hm (by decide)
 exact hm (by decide)
def C9{k:Int}(bw:0<=k)(h1:k<=32){j:Nat}:lead 32 k j=true↔32-k<=(j:Int)∧j<32:=by
 unfold lead;rw[gJ,fZ,fZ];omega
def adL{m:cJ}(hm:tN 2 32 m){v:aX}{n:Nat}(aG:n<=32):dR m.b3 m.ft.toNat=dR v n↔m.ft=n∧∀j,j<128->lead 32 m.ft j=true->de v j=de m.b3 j:=by
 have hp:=hm.pre;rw[acy];constructor
 ·rintro ⟨h1,ad⟩;refine⟨by omega,λj aD ao=>?_⟩;rw[C9 hp.1 hp.2]at ao;have:=ad (31-j) (by omega);rw[show 31-(31-j)=j by omega]at this;exact this.symm
 rintro ⟨h1,ad⟩;refine⟨by omega,λi aw=>?_⟩;exact(ad (31-i) (by omega) ((C9 hp.1 hp.2).2 (by omega))).symm
def Wn{s:aR}(h:cQ s){e:bD}(he:jq s 1 e):e.jj=0:=by
 refine he.pri λi aw=>?_;obtain⟨b,hb⟩:=h.Nu;rw[hb]at aw⊢;cases b
 ·have:i=0:=by have:i<1:=aw;omega
  subst this;decide
 have:i=0∨i=1:=by have:i<2:=aw;omega
 rcases this with rfl|rfl <;> decide
def Own.iff{hp hp':aE Cell}{t:Nat}{c:ga}(ak:fl hp t=some c)(h:∀q,Own hp t q->pat hp' q=pat hp q):fl hp' t=some c∧(∀aT,cA hp' c.ek aT=cA hp c.ek aT)∧∀q,Own hp' t q↔Own hp t q:=by
 have h1:fl hp' t=some c:=by rw[GW (h t (.inl I))];exact ak
 have ad:∀aT,cA hp' c.ek aT=cA hp c.ek aT:=λaT=>R6 λp cs hp=>w5 (h p (.inr ⟨c,cs,ak,hp⟩));refine⟨h1,ad,λq=>⟨λhq=>?_,λhq=>?_⟩⟩
 ·rcases hq with rfl|⟨ic,aT,g1,g2⟩
  ·exact .inl I
  rw[h1]at g1;cases g1;rw[ad]at g2;exact .inr ⟨c,aT,ak,g2⟩
 rcases hq with rfl|⟨ic,aT,g1,g2⟩
 ·exact .inl I
 rw[ak]at g1;cases g1;exact .inr ⟨c,aT,h1,by rw[ad];exact g2⟩
def jn.congr{hp hp':aE Cell}{t:Nat}{g:aa Bool->av Int}(h:jn hp t g)(a1:∀q,Own hp t q->pat hp' q=pat hp q):jn hp' t g∧∀q,Own hp' t q↔Own hp t q:=by
 obtain⟨c,ak,hb,bq,bu⟩:=h.ok;obtain⟨h1,ad,ay⟩:=Own.iff ak a1;refine⟨⟨⟨c,h1,hb,⟨λaT p hp=>?_,λaT cs p g1 g2=>?_,λaT p g1=>bq.dep aT p (by rw[<-ad];exact g1)⟩,λaT=>?_⟩⟩,ay⟩
 ·rw[ad]at hp;obtain⟨d,hd⟩:=bq.reads aT p hp;exact⟨d,by rw[w5 (a1 p (.inr ⟨c,aT,ak,hp⟩))];exact hd⟩
 ·rw[ad]at g1 g2;exact bq.inj aT cs p g1 g2
 rw[<-bu];cases e:cA hp c.ek aT with
 |none=>rw[lf e,lf (by rw[ad];exact e)]
 | some p=>
   obtain⟨d,hd⟩:=bq.reads aT p e
   rw[kx e hd,kx (by rw[ad];exact e) (by rw[w5 (a1 p (.inr ⟨c,aT,ak,e⟩))];exact hd)]
def jn.xu{hp:aE Cell}{t:Nat}{g:aa Bool->av Int}(h:jn hp t g){q:Nat}(hq:Own hp t q):q∈c6 hp:=by
 obtain⟨c,ak,hb,bq,bu⟩:=h.ok;rcases hq with rfl|⟨ic,aT,g1,g2⟩
 ·exact il (tq.1 ak)
 rw[ak]at g1;cases g1;obtain⟨d,hd⟩:=bq.reads aT q g2;exact il (qd.1 hd)
def jn.HO{hp:aE Cell}{t:Nat}{g:aa Bool->av Int}(h:jn hp t g){q:Nat}(hq:Own hp t q):(∃c,pat hp q=some (.jX c))∨∃c,pat hp q=some (.fT c):=by
 obtain⟨c,ak,hb,bq,bu⟩:=h.ok;rcases hq with rfl|⟨ic,aT,g1,g2⟩
 ·exact .inl ⟨c,tq.1 ak⟩
 rw[ak]at g1;cases g1;obtain⟨d,hd⟩:=bq.reads aT q g2;exact .inr ⟨d,qd.1 hd⟩
def ie(a c:bD):Bool:=decide (a.cu=c.cu∧a.cm=c.cm∧a.jj=c.jj)
def z7{a c:bD}:ie a c=true↔a.cu=c.cu∧a.cm=c.cm∧a.jj=c.jj:=by unfold ie;rw[fZ]
def Hq(a:bD):ie a a=true:=z7.2 ⟨rfl,rfl,rfl⟩
def Md(a c:bD):ie a c=ie c a:=by
 rw[mI,z7,z7];exact⟨λ⟨x,y,z⟩=>⟨x.symm,y.symm,z.symm⟩,λ⟨x,y,z⟩=>⟨x.symm,y.symm,z.symm⟩⟩
def SO{a c d:bD}(h1:ie a c=true)(ad:ie c d=true):ie a d=true:=by
 rw[z7]at *;exact⟨h1.1.trans ad.1,h1.2.1.trans ad.2.1,h1.2.2.trans ad.2.2⟩
def Tr{a c:cJ}(h1:a.gX=c.gX)(ad:a.b3=c.b3)(ay:a.hF=c.hF)(aN:a.ft=c.ft)(a6:a.lh=c.lh):a=c:=by
 cases a;cases c;simp_all
def Ts{b:Int}{m p3:cJ}(h:tN 1 b m)(cC:tN 1 b p3)(e:m.b3=p3.b3):m=p3:=
 Tr (by rw[h.Xj I,cC.Xj I]) e (by rw[h.gw (by decide),cC.gw (by decide)]) (by rw[h.Xl (by decide),cC.Xl (by decide)]) (by rw[h.Jd (by decide),cC.Jd (by decide)])
def adM{m p3:cJ}(h:tN 2 32 m)(cC:tN 2 32 p3)(e:dR m.b3 m.ft.toNat=dR p3.b3 p3.ft.toNat):m=p3:=by
 have hp:=h.pre;have hp':=cC.pre;obtain⟨n,aG⟩:=uH hp'.1;rw[aG,Int.toNat_natCast]at e;obtain⟨az,a8⟩:=(adL h (by omega)).1 e;have dw:m.ft=p3.ft:=by omega
 have alM:m.gX=p3.gX:=by
  cases g1:m.gX <;> cases g2:p3.gX
  ·rfl
  ·have:=cC.Xk I g2;have:=h.off g1;have bw:(default:cJ).ft=0:=rfl;rw[this,bw]at dw;omega
  ·have:=h.Xk I g1;have:=cC.off g2;have bw:(default:cJ).ft=0:=rfl;rw[this,bw]at dw;omega
  rfl
 refine Tr alM (TQ λj aD=>?_) (by rw[h.gw (by decide),cC.gw (by decide)]) dw (by rw[h.Jd (by decide),cC.Jd (by decide)]);cases ao:lead 32 m.ft j with
 |true=>exact(a8 j aD ao).symm
 | false=>
   have lT:de m.b3 j=false:=by
    rw[y1];intro a7;have:=h.OP I j aD a7;rw[(C9 hp.1 hp.2).2 this]at ao;cases ao
   have pV:de p3.b3 j=false:=by
    rw[y1];intro a7;have:=cC.OP I j aD a7;rw[dw,(C9 hp'.1 hp'.2).2 this]at ao;cases ao
   rw[lT,pV]
def IC{α:Type}[Inhabited α]{l:aa α}(h:l.length=1):l=[aF l 0]:=by
 match l,h with
 |[x],_=>rfl
def Wo{α:Type}[Inhabited α]{l:aa α}(h:l.length=2):l=[aF l 0,aF l 1]:=by
 match l,h with
 |[x,y],_=>rfl
def ES{s:aR}(h:cQ s){a c:bD}(a1:jq s 0 a)(ak:jq s 0 c):ie a c=true↔eJ a=eJ c:=by
 rw[z7];have dP:=a1.len;have lc:=ak.len;have Fp:=a1.A2 0;have uE:=ak.A2 0;have Jw:=a1.pri;have Jx:=ak.pri;rw[h.Nt]at dP lc Fp uE Jw Jx;have hk:∀i,i<[qQ].length->(aF [qQ] i).du<=2:=by decide
 refine⟨λ⟨h1,ad,ay⟩=>by unfold eJ;rw[ad],λe=>⟨by rw[a1.k3,ak.k3],?_,by rw[Jw hk,Jx hk]⟩⟩;have gn:=(Wm.1 e).1;rw[zO (by decide),zO (by decide),dP,lc]at gn;have gn:(aF a.cm 0).b3=(aF c.cm 0).b3:=gn;rw[IC (l:=a.cm) dP,IC (l:=c.cm) lc,Ts (Fp (by decide)) (uE (by decide)) gn]
def A4{s:aR}(h:cQ s){a c:bD}(a1:jq s 1 a)(ak:jq s 1 c):ie a c=true↔gS (eJ a)=gS (eJ c)∧j2 a=j2 c:=by
 rw[z7];have dP:=a1.len;have lc:=ak.len;have Fp:=a1.A2 1;have uE:=ak.A2 1;have Jw:=Wn h a1;have Jx:=Wn h ak;have m0:=DN h a1;have alN:=DN h ak;obtain⟨b,hb⟩:=h.Nu;rw[hb]at dP lc Fp uE;refine⟨λ⟨h1,ad,ay⟩=>by unfold eJ j2;rw[ad];exact⟨rfl,rfl⟩,λ⟨e,e'⟩=>⟨by rw[a1.k3,ak.k3],?_,by rw[Jw,Jx]⟩⟩;have bw:=adM m0 alN e';cases b
 ·rw[IC (l:=a.cm) dP,IC (l:=c.cm) lc,bw]
 have az:=(Wm.1 e).2.1;rw[Tq,Tq,bk (by decide),bk (by decide),zO (by decide),zO (by decide),dP,lc]at az;have az:(aF a.cm 1).b3=(aF c.cm 1).b3:=az;rw[Wo (l:=a.cm) dP,Wo (l:=c.cm) lc,bw,Ts (Fp (by decide)) (uE (by decide)) az]
structure jf(s:aR)(k:Nat)(l:List aJ):Prop where
 ok:lZ s k l
 key:l.Pairwise λa c=>ie a.bj c.bj=false
def jf.uniq{s:aR}{k:Nat}{l:aa aJ}(h:jf s k l){a c:aJ}(a1:a∈l)(ak:c∈l)(e:ie a.bj c.bj=true):a=c:=by
 have aG:=h.key;clear h;induction l with
 |nil=>cases a1
 | cons x l bN=>
   obtain⟨h1,ad⟩:=l6.1 aG
   rcases dB.1 a1 with g1|g1 <;> rcases dB.1 ak with g2|g2
   ·rw[g1,g2]
   ·rw[g1,h1 c g2]at e;cases e
   ·rw[g2,Md,h1 a g1]at e;cases e
   exact bN g1 g2 ad
def eK(l:aa aJ)(e:bD):av aJ:=l.find? λi=>ie i.bj e
def xh{l:aa aJ}{e:bD}{i:aJ}(h:eK l e=some i):i∈l∧ie i.bj e=true:=by
 unfold eK at h;have ad:=List.find?_some h;exact⟨List.mem_of_find?_eq_some h,ad⟩
def u2{l:aa aJ}{e:bD}(h:eK l e=none):∀i∈l,ie i.bj e=false:=λi aw=>by
 have:=FI.1 h i aw;simpa using this
def uF(o:av aJ):Int×Bool:=match o with |some i=>(i.ct,true)|none=>(0,false)
def nh{α β:Type}(l:aa (α×β)):Prop:=l.Pairwise λa c=>a.1≠c.1
def SP{α β:Type}[DecidableEq α]:∀{l:aa (α×β)} {x:α} {v:β} {a:α×β},a∈fm l x v->a.1=x∨a∈l
 | [],x,v,a,h=>by
   have:a=(x,v):=by simpa[fm]using h
   rw[this];exact .inl I
 | (k,w)::r,x,v,a,h=>by
   unfold fm at h;split at h
   ·rcases dB.1 h with h|h
    ·rw[h];exact .inl I
    exact .inr (by simp[h])
   rcases dB.1 h with h|h
   ·exact .inr (by simp[h])
   exact(SP h).imp id λh=>fr _ h
def nh.put{α β:Type}[DecidableEq α]:∀{l:aa (α×β)} {x:α} {v:β},nh l->nh (fm l x v)
 |[],x,v,_=>by unfold fm nh;simp
 | (k,w)::r,x,v,h=>by
   obtain⟨h1,ad⟩:=l6.1 h;unfold fm;split
   ·rename_i e;refine l6.2 ⟨λa a1=>?_,ad⟩;have:=h1 a a1;rw[e];exact this
   rename_i e;refine l6.2 ⟨λa a1=>?_,nh.put ad⟩;rcases SP a1 with g|g
   ·rw[g];exact λe'=>e e'.symm
   exact h1 a g
def SQ{α β:Type}[DecidableEq α]:∀{l:aa (α×β)} {x:α} {a:α×β},a∈hv l x->a∈l
 |[],x,a,h=>by cases h
 | (k,w)::r,x,a,h=>by
   unfold hv at h;split at h
   ·exact fr _ h
   rcases dB.1 h with h|h
   ·simp[h]
   exact fr _ (SQ h)
def nh.del{α β:Type}[DecidableEq α]:∀{l:aa (α×β)} {x:α},nh l->nh (hv l x)
 |[],x,_=>by unfold hv nh;exact .nil
 | (k,w)::r,x,h=>by
   obtain⟨h1,ad⟩:=l6.1 h;unfold hv;split
   ·exact ad
   exact l6.2 ⟨λa a1=>h1 a (SQ a1),nh.del ad⟩
def Tt{α β:Type}[DecidableEq α]:∀{l:aa (α×β)} {x:α},(∀a∈l,a.1≠x)->c4 l x=none
 |[],_,_=>rfl
 | (k,w)::r,x,h=>by
   unfold c4;rw[bk λe=>h (k,w) (by simp) e.symm,Tt λa a1=>h a (by simp[a1])]
def zI{α β:Type}[DecidableEq α]:∀{l:aa (α×β)} {x y:α},nh l->c4 (hv l x) y=if y=x then none else c4 l y
 | [],x,y,_=>by
   show none=if y=x then none else none;split <;> rfl
 | (k,w)::r,x,y,h=>by
   obtain⟨h1,ad⟩:=l6.1 h;unfold hv;by_cases e:x=k
   ·rw[bm e];by_cases a8:y=x
    ·rw[bm a8,a8,e];exact Tt λa a1=>(h1 a a1).symm
    rw[bk a8];show _=if y=k then _ else _;rw[bk (by rw[<-e];exact a8)]
   rw[bk e];show(if y=k then some w else c4 (hv r x) y)=_;by_cases a8:y=k
   ·rw[bm a8,bk (by rw[a8];exact λdw=>e dw.symm)];show _=if y=k then _ else _;rw[bm a8]
   rw[bk a8,zI ad];show _=if y=x then none else if y=k then _ else _;rw[bk a8]
structure z8(s:aR)(hp:aE Cell)(q:Nat)(l:List aJ)(own:Nat->Prop):Prop where
 ok:∃m em,mi hp q=some ⟨⟨some m⟩⟩∧lK hp m=some em∧own q∧own m∧(∀cF n,c4 em cF=some n↔∃i∈l,eJ i.bj=cF∧i.ct=n)∧nh em
structure ny(s:aR)(hp:aE Cell)(m:Nat)(l:List aJ)(own:Nat->Prop):Prop where
 ok:∃em,ka hp m=some em∧own m∧
  (∀cF r,c4 em cF=some r->∃t g,r=some t∧jn hp t g∧(∀q,Own hp t q->own q)∧∀aT n,g aT=some n↔∃i∈l,gS (eJ i.bj)=cF∧j2 i.bj=aT∧i.ct=n)∧
  (∀cF,c4 em cF=none->∀i∈l,gS (eJ i.bj)≠cF)∧
  (∀cF j3 t e1,c4 em cF=some (some t)->c4 em j3=some (some e1)->cF≠j3->∀q,Own hp t q->¬Own hp e1 q)∧nh em
structure Aa(s:aR)(k:Nat)(hp:aE Cell)(q:Nat)(l:List aJ)(own:Nat->Prop):Prop where
 ok:∃key cap,pJ hp q=some (tO s k l,key,cap)∧own q
def re(s:aR)(k:Nat)(hp:aE Cell)(f:gT)(l:aa aJ)(own:Nat->Prop):Prop:=
 (k=0∧∃q,f=.od ⟨some q⟩∧z8 s hp q l own)∨(k=1∧∃m,f=.oe ⟨0,32,⟨some m⟩⟩∧ny s hp m l own)∨(2<=k∧∃q,f=.og ⟨some q⟩∧Aa s k hp q l own)
def Lj{hp hp':aE Cell}{p:Nat}(h:pat hp' p=pat hp p):mi hp' p=mi hp p:=by unfold mi;rw[h]
def aaQ{hp hp':aE Cell}{p:Nat}(h:pat hp' p=pat hp p):lK hp' p=lK hp p:=by unfold lK;rw[h]
def GY{hp hp':aE Cell}{p:Nat}(h:pat hp' p=pat hp p):ka hp' p=ka hp p:=by unfold ka;rw[h]
def aaR{hp hp':aE Cell}{p:Nat}(h:pat hp' p=pat hp p):pJ hp' p=pJ hp p:=by unfold pJ;rw[h]
def aaS{hp hp':aE Cell}{p:Nat}(h:pat hp' p=pat hp p):hG hp' p=hG hp p:=by unfold hG;rw[h]
def aaT{hp hp':aE Cell}{p:Nat}(h:pat hp' p=pat hp p):kU hp' p=kU hp p:=by unfold kU;rw[h]
def re.congr{s:aR}{k:Nat}{hp hp':aE Cell}{f:gT}{l:aa aJ}{own:Nat->Prop}(h:re s k hp f l own){own':Nat->Prop}(aS:∀q,q∈c6 hp->own q->own' q)(a1:∀q,own q->pat hp' q=pat hp q):re s k hp' f l own':=by
 rcases h with⟨rfl,q,rfl,h⟩|⟨rfl,m,rfl,h⟩|⟨hk,q,rfl,h⟩
 ·obtain⟨m,em,h1,ad,ay,aN,a6,iz⟩:=h.ok;refine .inl ⟨rfl,q,rfl,⟨m,em,by rw[Lj (a1 q ay)];exact h1,by rw[aaQ (a1 m aN)];exact ad,aS q (il (Da h1)) ay,aS m (il (so ad)) aN,a6,iz⟩⟩
 ·obtain⟨em,h1,ad,ay,aN,a6,iz⟩:=h.ok;have key:∀cF r,c4 em cF=some r->∃t g,r=some t∧jn hp t g∧jn hp' t g∧(∀q,Own hp t q->own q)∧(∀q,Own hp' t q↔Own hp t q)∧∀aT n,g aT=some n↔∃i∈l,gS (eJ i.bj)=cF∧j2 i.bj=aT∧i.ct=n:=λcF r aC=>by
   obtain⟨t,g,rfl,g1,g2,g3⟩:=ay cF r aC;obtain⟨g4,g5⟩:=g1.congr λq hq=>a1 q (g2 q hq);exact⟨t,g,rfl,g1,g4,g2,g5,g3⟩
  refine .inr (.inl ⟨rfl,m,rfl,⟨em,by rw[GY (a1 m ad)];exact h1,aS m (il (nx h1)) ad,λcF r aC=>?_,aN,λcF j3 t e1 bq yo cR q hq=>?_,iz⟩⟩)
  ·obtain⟨t,g,rfl,g0,g1,g2,g3,g4⟩:=key cF r aC;exact⟨t,g,rfl,g1,λq hq=>aS q (g0.xu ((g3 q).1 hq)) (g2 q ((g3 q).1 hq)),g4⟩
  obtain⟨_,g,e,g0,g1,g2,g3,g4⟩:=key cF _ bq;obtain⟨_,dQ,e',anv,alO,alP,alQ,anw⟩:=key j3 _ yo;cases e;cases e';rw[alQ];exact a6 cF j3 t e1 bq yo cR q ((g3 q).1 hq)
 obtain⟨key,cap,h1,ad⟩:=h.ok;exact .inr (.inr ⟨hk,q,rfl,⟨key,cap,by rw[aaR (a1 q ad)];exact h1,aS q (il (xp h1)) ad⟩⟩)
def Hr{e:bD}(ao:e.cm.length<=4):uS e=some (eJ e):=by
 refine bF.get ?_;unfold uS;refine .eq (a:=e.cm) (by unfold ss;rw[bm ⟨by omega,by omega,by omega⟩,Int.toNat_zero,th,Nat.sub_zero,qS (by omega)]) ?_;refine bF.loop e.cm.length (λi st=>st.1=(i:Int)∧∀j,j<4->b9 st.2 j=if j<i then(aF e.cm j).b3 else default) (by omega) ⟨rfl,λj aD=>by rw[Ld];rfl⟩ (λi st aw hs=>?_) (λst hs=>?_)
 ·obtain⟨j,v⟩:=st;obtain⟨az,a8⟩:=hs;simp only at az a8;subst az;refine .cond (λ_=>?_) (λak=>by simp at ak;omega);refine .idx I aw (.idx I (by omega) (.ret ⟨gY (by omega),λj aD=>?_⟩));rw[w9 _ _ (by omega)];by_cases j1:j=i
  ·rw[bm j1,bm (by omega),j1]
  rw[bk j1,a8 j aD];by_cases h:j<i
  ·rw[bm h,bm (by omega)]
  rw[bk h,bk (by omega)]
 obtain⟨j,v⟩:=st;obtain⟨az,a8⟩:=hs;simp only at az a8;subst az;refine⟨_,by simp;rfl,.ret ?_⟩;exact SF λj aD=>by rw[a8 j aD,zO aD]
def jq.ID{s:aR}(h:cQ s){k:Nat}(hk:k<4){e:bD}(he:jq s k e):e.cm.length<=4∧1<=e.cm.length:=by
 have:=(h.k3 hk).2.1;rw[he.len];omega
def acz{a c:aa cJ}(ao:a.length<=1000):Bw a c=some (decide (a=c)):=by
 refine bF.get ?_;unfold Bw;refine .cond (λh=>.ret ?_) λh=>?_
 ·have:a≠c:=λe=>by rw[e]at h;simp at h
  simp[this]
 have EC:c.length=a.length:=by
  have:(a.length:Int)=c.length:=by simpa using h
  omega
 refine bF.loop a.length (λi st=>st=(i:Int)∧∀j,j<i->aF a j=aF c j) (by omega) ⟨rfl,λj aD=>by omega⟩ (λi st aw hs=>?_) (λst hs=>?_)
 ·obtain⟨rfl,hs⟩:=hs;refine .cond (λ_=>?_) (λak=>by simp at ak;omega);refine .idx I aw (.idx I (by omega) (.cond (λcR=>.ret ?_) λhe=>.ret ⟨gY (by omega),λj aD=>?_⟩))
  ·simp only[Sum.elim_inr];refine .ret ?_;have:a≠c:=λe=>by rw[e]at cR;simp at cR
   simp[this]
  by_cases j1:j=i
  ·subst j1;simpa using he
  exact hs j (by omega)
 obtain⟨rfl,hs⟩:=hs;refine⟨_,by simp;rfl,?_⟩;simp only[Sum.elim_inl];refine .ret ?_;have:a=c:=BP EC.symm λj h1 ad=>by
  have:=hs j h1;rwa[e2 _ h1,e2 _ ad]at this
 simp[this]
def abe{a c:bD}(ao:a.cm.length<=1000):Cx a c=some (ie a c):=by
 refine bF.get ?_;unfold Cx ie;refine .cj (P:=λr=>r=decide (a.cm=c.cm)) (λ_=>⟨_,acz ao,rfl⟩) λy hy=>.ret ?_;by_cases h:a.cu=c.cu
 ·rw[hy (by simpa using h)];rw[mI];simp[h]
 simp[h]
def ahm{s:aR}(h:cQ s){hp:aE Cell}{q:Nat}{l:aa aJ}{own:Nat->Prop}(hq:z8 s hp q l own)(ao:jf s 0 l){e:bD}(he:jq s 0 e):Cf hp ⟨some q⟩ e=some (uF (eK l e)):=by
 obtain⟨m,em,h1,ad,_,_,a6,_⟩:=hq.ok;refine bF.get ?_;unfold Cf zl;refine .eq (Hr (he.ID h (by decide)).1) ?_;have hm:c4 em (eJ e)=(eK l e).map (·.ct):=by
  cases aU:eK l e with
  | none=>
    cases bu:c4 em (eJ e)with
    |none=>rfl
    | some n=>
      obtain⟨i,aw,bh,_⟩:=(a6 _ _).1 bu
      have:=u2 aU i aw
      rw[(ES h (ao.ok.ok i aw).fA he).2 bh]at this;cases this
  | some i=>
    obtain⟨aw,hk⟩:=xh aU
    exact(a6 _ _).2 ⟨i,aw,(ES h (ao.ok.ok i aw).fA he).1 hk,rfl⟩
 refine .eq (a:=uF (eK l e)) ?_ (.ret I);show(mi hp q).bind _=_;rw[h1];show(lK hp m).bind _=_;rw[ad];show some ((c4 em (eJ e)).getD default,(c4 em (eJ e)).isSome)=_;rw[hm];cases eK l e <;> rfl
def Me{s:aR}(h:cQ s){e:bD}(he:jq s 1 e)(m:dZ):wA ⟨0,32,m⟩ e=some (gS (eJ e),(aF e.cm 0).b3,(aF e.cm 0).ft):=by
 have ao:=he.ID h (by decide);refine bF.get ?_;unfold wA FT;refine .eq (Hr ao.1) (.eq (a:=(gS (eJ e),b9 (eJ e) 0)) I (.cond (λak=>by have ak:(0:Int)>=(e.cm.length:Int):=wE ak;omega) λ_=>.idx (k:=0) I (by omega) (.ret ?_)));rw[zO (by decide),bm (by omega)]
def LQ{m:cJ}(h:tN 2 32 m):∀j,j<128->de m.b3 j=true->lead 32 m.ft j=true:=λj aD a7=>
 (C9 h.pre.1 h.pre.2).2 (h.OP I j aD a7)
def ahn{s:aR}(h:cQ s){hp:aE Cell}{m:Nat}{l:aa aJ}{own:Nat->Prop}(hq:ny s hp m l own)(ao:jf s 1 l){e:bD}(he:jq s 1 e):BV hp ⟨0,32,⟨some m⟩⟩ e=some (uF (eK l e)):=by
 obtain⟨em,h1,_,ay,aN,_⟩:=hq.ok;have gL:=DN h he;refine bF.get ?_;unfold BV;refine .eq (Me h he _) (.eq I (.eq h1 (.eq I ?_)));obtain⟨n,aG⟩:=uH gL.pre.1;have DO:n<=32:=by have:=gL.pre.2;omega
 have vp:=LQ gL;refine .eq (a:=uF (eK l e)) ?_ (.ret I);simp only;cases aC:c4 em (gS (eJ e))with
 | none=>
   have aU:eK l e=none:=by
    cases aU:eK l e with
    |none=>rfl
    | some i=>
      obtain⟨aw,hk⟩:=xh aU
      exact absurd ((A4 h (ao.ok.ok i aw).fA he).1 hk).1 (aN _ aC i aw)
   rw[aU];rfl
 | some r=>
   obtain⟨t,g,rfl,g1,_,g3⟩:=ay _ _ aC
   have bu:g (j2 e)=(eK l e).map (·.ct):=by
    cases aU:eK l e with
    | none=>
      cases OV:g (j2 e)with
      |none=>rfl
      | some n=>
        obtain⟨i,aw,bh,cH,_⟩:=(g3 _ _).1 OV
        have:=u2 aU i aw
        rw[(A4 h (ao.ok.ok i aw).fA he).2 ⟨bh,cH⟩]at this;cases this
    | some i=>
      obtain⟨aw,hk⟩:=xh aU
      obtain⟨bh,cH⟩:=(A4 h (ao.ok.ok i aw).fA he).1 hk
      exact(g3 _ _).2 ⟨i,aw,bh,cH,rfl⟩
   rw[aG]at vp⊢
   show wV hp (some t) _ (n:Int)=_
   rw[TX g1 DO vp]
   have hp':dR (aF e.cm 0).b3 n=j2 e:=by unfold j2;rw[aG];rfl
   rw[hp',bu]
   cases eK l e <;> rfl
def aho{s:aR}(h:cQ s){k:Nat}(hk:k<4){hp:aE Cell}{q:Nat}{l:aa aJ}{own:Nat->Prop}(hq:Aa s k hp q l own)(ao:jf s k l){e:bD}(he:jq s k e):Cg hp ⟨some q⟩ e=some (uF (eK l e)):=by
 obtain⟨key,cap,h1,_⟩:=hq.ok;refine bF.get ?_;unfold Cg;refine .eq I (.eq h1 (.eq (aeK h hk ao.ok) ?_));obtain⟨iR,eS⟩:=ao.ok.hi;have aU:eK l e=(hi (h0 s k) l).find? λi=>ie i.bj e:=by
  cases aU:eK l e with
  | none=>
    symm
    rw[FI]
    intro x al
    rw[u2 aU x (vj.1 al)];simp
  | some i=>
    obtain⟨aw,vN⟩:=xh aU
    exact(adJ (HN s k) ao.ok.OT aw vN λd hd alR=>.inl (ao.uniq hd aw (SO alR (by rw[Md];exact vN)))).symm
 rw[aU];refine bF.loop (hi (h0 s k) l).length (λi st=>st=(i:Int)∧∀j,j<i->ie (aF (hi (h0 s k) l) j).bj e=false) (by omega) ⟨rfl,λj aD=>by omega⟩ (λi st aw hs=>?_) (λst hs=>?_)
 ·obtain⟨rfl,hs⟩:=hs;refine .cond (λ_=>?_) (λak=>by simp at ak;omega);have hm:=iR (aF (hi (h0 s k) l) i) (by rw[e2 _ aw];exact mH _);refine .idx I aw (.eq (abe (hm.small h hk).1) (.cond (λak=>.ret ?_) λak=>.ret ⟨gY (by omega),λj aD=>?_⟩))
  ·simp only[Sum.elim_inr];refine .ret ?_;rw[adA (p:=λi=>ie i.bj e) aw ak hs];rfl
  by_cases j1:j=i
  ·subst j1;exact ak
  exact hs j (by omega)
 obtain⟨rfl,hs⟩:=hs;refine⟨_,by simp;rfl,?_⟩;simp only[Sum.elim_inl];refine .ret ?_;rw[adB λc ak=>?_]
 ·rfl
 obtain⟨j,aD,rfl⟩:=yX.1 ak;rw[<-e2 _ aD];exact hs j aD
def Vd{s:aR}(h:cQ s){k:Nat}(hk:k<4){hp:aE Cell}{f:gT}{l:aa aJ}{own:Nat->Prop}(hq:re s k hp f l own)(ao:jf s k l){e:bD}(he:jq s k e):F6 hp f e=some (uF (eK l e)):=by
 rcases hq with⟨rfl,q,rfl,hq⟩|⟨rfl,m,rfl,hq⟩|⟨dI,q,rfl,hq⟩
 ·exact ahm h hq ao he
 ·exact ahn h hq ao he
 exact aho h hk hq ao he
def mj(own:Nat->Prop)(hp hp':aE Cell)(q:Nat):Prop:=own q∨(q∉c6 hp∧q∈c6 hp')
def SR{hp:aE Cell}{p:Nat}{k:Cell}{x:aa (Vector aX 4×Int)}(h:pat hp p=some k):lK (bY hp p (.o2 x)) p=some x:=by unfold lK;rw[qi h]
def SS{hp:aE Cell}{p:Nat}{k:Cell}{x:aa (Vector aX 4×Ref)}(h:pat hp p=some k):ka (bY hp p (.ml x)) p=some x:=by unfold ka;rw[qi h]
def ake{s:aR}(h:cQ s){hp:aE Cell}{q:Nat}{l:aa aJ}{own:Nat->Prop}(hq:z8 s hp q l own)(ao:jf s 0 l){i:aJ}(aw:mu s 0 i)(aU:eK l i.bj=none):
 bF (Ck hp ⟨some q⟩ i) (λhp'=>z8 s hp' q (l++[i]) (mj own hp hp')∧ei hp hp' own):=by
 obtain⟨m,em,h1,ad,ay,aN,a6,iz⟩:=hq.ok
 have eP:c4 em (eJ i.bj)=none:=by
  cases bu:c4 em (eJ i.bj)with
  |none=>rfl
  | some n=>
    obtain⟨c,ak,bh,_⟩:=(a6 _ _).1 bu
    have:=u2 aU c ak
    rw[(ES h (ao.ok.ok c ak).fA aw.fA).2 bh]at this;cases this
 unfold Ck GB
 refine .eq (Hr (aw.fA.ID h (by decide)).1) ?_
 refine .eq (a:=(true,bY hp m (Cell.o2 (fm em (eJ i.bj) i.ct)))) ?_ (.ret ?_)
 ·show(mi hp q).bind _=_
  rw[h1]
  show(lK hp m).bind _=_
  rw[ad]
  show cond (c4 em (eJ i.bj)).isSome _ _=_
  rw[eP]
  show(mi hp q).bind _=_
  rw[h1]
  show(lK hp m).bind _=_
  rw[ad];rfl
 have yp:q≠m:=λe=>by
  subst e;have:=Da h1;rw[so ad]at this;cases this
 refine⟨⟨m,_,by rw[Lj (k8 yp.symm)];exact h1,SR (so ad),.inl ay,.inl aN,λcF n=>?_,iz.put⟩,.up aN⟩
 rw[tp]
 by_cases gx:cF=eJ i.bj
 ·rw[bm gx]
  constructor
  ·intro e
   cases e
   exact⟨i,by simp,gx.symm,rfl⟩
  rintro ⟨c,ak,bh,cH⟩
  rcases bX.1 ak with ak|ak
  ·have:=(a6 _ _).2 ⟨c,ak,bh,cH⟩
   rw[gx,eP]at this;cases this
  rw[gG.1 ak]at cH;rw[cH]
 rw[bk gx,a6]
 constructor
 ·rintro ⟨c,ak,bh⟩;exact⟨c,by simp[ak],bh⟩
 rintro ⟨c,ak,bh,cH⟩
 rcases bX.1 ak with ak|ak
 ·exact⟨c,ak,bh,cH⟩
 rw[gG.1 ak]at bh;exact absurd bh.symm gx
def akf{s:aR}(h:cQ s){hp:aE Cell}{m:Nat}{l:aa aJ}{own:Nat->Prop}(hq:ny s hp m l own)(fV:∀q,own q->q∈c6 hp)(ao:jf s 1 l){i:aJ}(aw:mu s 1 i)(aU:eK l i.bj=none)
 {em:aa (Vector aX 4×Ref)} (mv:ka hp m=some em) {t:Nat} (bq:c4 em (gS (eJ i.bj))=some (some t)):
 cE (zr hp (some t) (aF i.bj.cm 0).b3 (aF i.bj.cm 0).ft i.ct) (λr=>ny s r.2 m (l++[i]) (mj own hp r.2)∧ei hp r.2 own):=by
 obtain⟨alS,h1,ad,ay,aN,a6,iz⟩:=hq.ok
 rw[mv]at h1;cases h1
 have gL:=DN h aw.fA
 obtain⟨e1,g,e,g1,g2,g3⟩:=ay _ _ bq
 cases e
 obtain⟨n,aG⟩:=uH gL.pre.1
 have DO:n<=32:=by have:=gL.pre.2;omega
 have vp:=LQ gL
 have hp':dR (aF i.bj.cm 0).b3 n=j2 i.bj:=by unfold j2;rw[aG];rfl
 have eP:g (j2 i.bj)=none:=by
  cases OV:g (j2 i.bj)with
  |none=>rfl
  | some n=>
    obtain⟨c,ak,bh,cH,_⟩:=(g3 _ _).1 OV
    have:=u2 aU c ak
    rw[(A4 h (ao.ok.ok c ak).fA aw.fA).2 ⟨bh,cH⟩]at this;cases this
 rw[aG]at vp⊢
 refine(ahk g1 DO vp i.ct (by rw[hp'];exact eP)).mono λr aC=>?_
 obtain⟨_,iR,eS,ko⟩:=aC
 rw[hp']at iR
 have OW:∀q,Own hp t q->q≠m:=λq OX e=>by
  have:=nx mv;rw[<-e]at this;rcases g1.HO OX with⟨c,ak⟩|⟨c,ak⟩ <;> rw[ak]at this <;> cases this
 have lA:pat r.2 m=pat hp m:=eS.rest m (il (nx mv)) λhq=>OW m hq I
 have sw:∀cF e1,cF≠gS (eJ i.bj)->c4 em cF=some (some e1)->∃dQ,jn hp e1 dQ∧jn r.2 e1 dQ∧(∀q,Own hp e1 q->own q)∧(∀q,Own r.2 e1 q↔Own hp e1 q)∧∀aT n,dQ aT=some n↔∃i∈l,gS (eJ i.bj)=cF∧j2 i.bj=aT∧i.ct=n:=λcF e1 cR aC=>by
  obtain⟨alT,dQ,e,bK,a2,a3⟩:=ay cF _ aC;cases e;obtain⟨cZ,dA⟩:=bK.congr (hp':=r.2) λq hq=>eS.rest q (bK.xu hq) λoA=>a6 _ _ _ _ bq aC cR.symm q oA hq;exact⟨dQ,bK,cZ,a2,dA,a3⟩
 have AB:∀q,Own r.2 t q->mj own hp r.2 q:=λq hq=>by
  rcases ko q hq with bh|bh
  ·exact .inl (g2 q bh)
  exact .inr ⟨bh,iR.xu hq⟩
 refine⟨⟨em,by rw[GY lA];exact mv,.inl ad,λcF l1 iB=>?_,λcF gx c ak=>?_,λcF j3 t1 t2 jx kj cR q iN pa=>?_,iz⟩,⟨eS.keys,λq hq eP=>eS.rest q hq λoA=>eP (g2 q oA)⟩⟩
 ·by_cases gx:cF=gS (eJ i.bj)
  ·subst gx
   rw[bq]at iB;cases iB
   refine⟨t,_,rfl,iR,AB,λaT uw=>?_⟩
   by_cases k4:aT=j2 i.bj
   ·simp only[bm k4]
    constructor
    ·intro e;cases e
     exact⟨i,by simp,rfl,k4.symm,rfl⟩
    rintro ⟨c,ak,bh,cH,ed⟩
    rcases bX.1 ak with ak|ak
    ·have:=(g3 _ _).2 ⟨c,ak,bh,cH,ed⟩
     rw[k4,eP]at this;cases this
    rw[gG.1 ak]at ed;rw[ed]
   simp only[bk k4]
   rw[g3]
   constructor
   ·rintro ⟨c,ak,bh⟩;exact⟨c,by simp[ak],bh⟩
   rintro ⟨c,ak,bh,cH,ed⟩
   rcases bX.1 ak with ak|ak
   ·exact⟨c,ak,bh,cH,ed⟩
   rw[gG.1 ak]at cH;exact absurd cH.symm k4
  obtain⟨e1,dQ,e,_⟩:=ay cF l1 iB
  subst e
  obtain⟨yq,bK,a2,a3,a4,a5⟩:=sw cF e1 gx iB
  refine⟨e1,yq,rfl,a2,λq hq=>.inl (a3 q ((a4 q).1 hq)),λaT uw=>?_⟩
  rw[a5]
  constructor
  ·rintro ⟨c,ak,bh⟩;exact⟨c,by simp[ak],bh⟩
  rintro ⟨c,ak,bh,cH⟩
  rcases bX.1 ak with ak|ak
  ·exact⟨c,ak,bh,cH⟩
  rw[gG.1 ak]at bh;exact absurd bh.symm gx
 ·rcases bX.1 ak with ak|ak
  ·exact aN cF gx c ak
  rw[gG.1 ak]
  intro e
  rw[<-e,bq]at gx;cases gx
 
 have TY:∀cF e1,cF≠gS (eJ i.bj)->c4 em cF=some (some e1)->∀q,Own r.2 t q->¬Own r.2 e1 q:=λcF e1 cR aC q hq oA=>by
  obtain⟨yq,bK,a2,a3,a4,a5⟩:=sw cF e1 cR aC;have oA:=(a4 q).1 oA;rcases ko q hq with bh|bh
  ·exact a6 _ _ _ _ bq aC cR.symm q bh oA
  exact bh (bK.xu oA)
 by_cases az:cF=gS (eJ i.bj)
 ·subst az
  rw[bq]at jx;cases jx
  exact TY j3 t2 cR.symm kj q iN pa
 by_cases a8:j3=gS (eJ i.bj)
 ·subst a8
  rw[bq]at kj;cases kj
  exact TY cF t1 az jx q pa iN
 obtain⟨_,_,_,_,a4,_⟩:=sw cF t1 az jx
 obtain⟨_,_,_,_,Px,_⟩:=sw j3 t2 a8 kj
 exact a6 _ _ _ _ jx kj cR q ((a4 q).1 iN) ((Px q).1 pa)
def aap{own:Nat->Prop}{bw h1 ad:aE Cell}{q:Nat}(hk:∀q,q∈c6 bw->q∈c6 h1)(dI:∀q,q∈c6 h1->q∈c6 ad)(h:mj (mj own bw h1) h1 ad q):mj own bw ad q:=by
 rcases h with(h|⟨h,cC⟩)|⟨h,cC⟩
 ·exact .inl h
 ·exact .inr ⟨h,dI q cC⟩
 exact .inr ⟨λay=>h (hk q ay),cC⟩
def ny.mono{s:aR}{hp:aE Cell}{m:Nat}{l:aa aJ}{own own':Nat->Prop}(h:ny s hp m l own)(aS:∀q,own q->own' q):ny s hp m l own':=by
 obtain⟨em,h1,ad,ay,aN,a6,iz⟩:=h.ok;exact⟨em,h1,aS m ad,λcF r aC=>by obtain⟨t,g,e,a,b,c⟩:=ay cF r aC;exact⟨t,g,e,a,λq hq=>aS q (b q hq),c⟩,aN,a6,iz⟩
def ei.grow{bw h1 ad:aE Cell}{own:Nat->Prop}(a:ei bw h1 own)(b:ei h1 ad (mj own bw h1)):ei bw ad own:=
 a.trans b λq hq h=>h.elim (λh=>h) λh=>absurd hq h.1
def akg{s:aR}{hp:aE Cell}{m:Nat}{l:aa aJ}{own:Nat->Prop}(hq:ny s hp m l own)
 {em:aa (Vector aX 4×Ref)} (mv:ka hp m=some em) {cF:Vector aX 4} (eP:c4 em cF=none) {a:Nat} (a1:a∉c6 hp) {z:ga} (b4:z.gr=32) (aC:z.ek=none):
 ny s (bY ((a,Cell.jX z)::hp) m (.ml (fm em cF (some a)))) m l (mj own hp (bY ((a,Cell.jX z)::hp) m (.ml (fm em cF (some a)))))∧ei hp (bY ((a,Cell.jX z)::hp) m (.ml (fm em cF (some a)))) own∧
  ka (bY ((a,Cell.jX z)::hp) m (.ml (fm em cF (some a)))) m=some (fm em cF (some a)):=by
 obtain⟨alS,h1,ad,ay,aN,a6,iz⟩:=hq.ok
 rw[mv]at h1;cases h1
 have lA:=nx mv
 have Xp:=CN a1 lA
 have b7:pat ((a,Cell.jX z)::hp) m=some (.ml em):=by rw[jC,bk Xp];exact lA
 generalize cb:bY ((a,Cell.jX z)::hp) m (.ml (fm em cF (some a)))=bH
 have g1:ka bH m=some (fm em cF (some a)):=by rw[<-cb];exact SS b7
 have g2:pat bH a=some (.jX z):=by rw[<-cb,k8 Xp.symm,jC,bm I]
 have g3:∀q,q≠m->q≠a->pat bH q=pat hp q:=λq yp pX=>by rw[<-cb,k8 yp.symm,jC,bk pX.symm]
 have hk:ei hp bH own:=by
  rw[<-cb];exact(ei.mk' (own:=own) a1).trans (ei.up ad) λq _ h=>h
 have Xq:fl bH a=some z:=tq.2 g2
 have ahp:jn bH a (λ_=>none):=⟨z,Xq,b4,by rw[aC];exact⟨λaT p h=>(by rw[gb]at h;cases h),λaT cs p h _=>(by rw[gb]at h;cases h),λaT p h=>(by rw[gb]at h;cases h)⟩,λaT=>by rw[aC];exact lf gb⟩
 have Nv:∀q,Own bH a q->q=a:=λq qJ=>by
  rcases qJ with h|⟨c,aT,bh,cH⟩
  ·exact h
  rw[Xq]at bh;cases bh;rw[aC,gb]at cH;cases cH
 have hold:∀t g,jn hp t g->jn bH t g∧∀q,Own bH t q↔Own hp t q:=λt g bq=>bq.congr λq qJ=>by
  refine g3 q (λe=>?_) λe=>a1 (by rw[<-e];exact bq.xu qJ);rw[<-e]at lA;rcases bq.HO qJ with⟨c,ak⟩|⟨c,ak⟩ <;> rw[ak]at lA <;> cases lA
 refine⟨⟨_,g1,.inl ad,λj3 r iB=>?_,λj3 iB=>?_,λOY Jg t1 t2 jx kj cR q iN pa=>?_,iz.put⟩,hk,g1⟩
 ·rw[tp]at iB
  by_cases e:j3=cF
  ·rw[bm e]at iB;cases iB
   exact⟨a,_,rfl,ahp,λq qJ=>by rw[Nv q qJ];exact .inr ⟨a1,il g2⟩,λaT n=>⟨λh=>(by cases h),λ⟨i,aw,bh,_⟩=>absurd (bh.trans e) (aN cF eP i aw)⟩⟩
  rw[bk e]at iB
  obtain⟨t,g,rfl,bK,a2,a3⟩:=ay j3 r iB
  obtain⟨cZ,dA⟩:=hold t g bK
  exact⟨t,g,rfl,cZ,λq qJ=>.inl (a2 q ((dA q).1 qJ)),a3⟩
 ·rw[tp]at iB
  by_cases e:j3=cF
  ·rw[bm e]at iB;cases iB
  rw[bk e]at iB;exact aN j3 iB
 rw[tp]at jx kj
 have al:∀j3 e1,c4 em j3=some (some e1)->∀q,q=a->¬Own bH e1 q:=λj3 e1 yo q e qJ=>by
  obtain⟨t,g,e',bK,_⟩:=ay j3 _ yo;cases e';have:=(hold e1 g bK).2 q |>.1 qJ;exact a1 (by rw[<-e];exact bK.xu this)
 by_cases az:OY=cF
 ·rw[bm az]at jx;cases jx
  by_cases a8:Jg=cF
  ·exact cR (az.trans a8.symm)
  rw[bk a8]at kj
  exact al Jg t2 kj q (Nv q iN) pa
 rw[bk az]at jx
 by_cases a8:Jg=cF
 ·rw[bm a8]at kj;cases kj
  exact al OY t1 jx q (Nv q pa) iN
 rw[bk a8]at kj
 obtain⟨t,g,e',bK,_⟩:=ay OY _ jx
 cases e'
 obtain⟨e1,dQ,Ow,alU,_⟩:=ay Jg _ kj
 cases Ow
 exact a6 _ _ _ _ jx kj cR q (((hold _ _ bK).2 q).1 iN) (((hold _ _ alU).2 q).1 pa)
def ahq{s:aR}(h:cQ s){hp:aE Cell}{m:Nat}{l:aa aJ}{own:Nat->Prop}(hq:ny s hp m l own)(fV:∀q,own q->q∈c6 hp)(ao:jf s 1 l){i:aJ}(aw:mu s 1 i)(aU:eK l i.bj=none):
 cE (B4 hp ⟨0,32,⟨some m⟩⟩ i) (λhp'=>ny s hp' m (l++[i]) (mj own hp hp')∧ei hp hp' own):=by
 obtain⟨em,mv,ad,ay,aN,a6,_⟩:=hq.ok
 unfold B4
 refine .eq (Me h aw.fA _) (.eq I (.eq mv (.eq I ?_)))
 simp only
 refine .bind (P:=λm1=>ny s m1 m l (mj own hp m1)∧ei hp m1 own∧∃OZ t,ka m1 m=some OZ∧c4 OZ (gS (eJ i.bj))=some (some t)) (.cond (λak=>?_) λak=>.ret ?_) λm1 b7=>?_
 ·have eP:c4 em (gS (eJ i.bj))=none:=by
   cases bu:c4 em (gS (eJ i.bj))with
   |none=>rfl
   | some r=>
     obtain⟨t,_,rfl,_⟩:=ay _ _ bu
     rw[bu]at ak;cases ak
  unfold G0
  refine .bind (P:=λr=> ∃a,a∉c6 hp∧r=((some a:Ref),(a,Cell.jX ({(default:ga)with gr:=32}))::hp)) (.eq I (.mk λa a1=>.ret ⟨a,a1,rfl⟩)) λbf bh=>?_
  obtain⟨a,a1,rfl⟩:=bh
  have jF:ka ((a,Cell.jX ({(default:ga)with gr:=32}))::hp) m=some em:=(GY (hp:=hp) (by rw[jC,bk (CN a1 (nx mv))])).trans mv
  obtain⟨g1,g2,g3⟩:=akg hq mv eP a1 (z:= {(default:ga)with gr:=32}) I I
  refine .eq jF (.eq I (.ret ⟨g1,g2,_,a,g3,by rw[tp,bm I]⟩))
 ·cases bu:c4 em (gS (eJ i.bj))with
  |none=>rw[bu]at ak;cases ak
  | some r=>
    obtain⟨t,_,rfl,_⟩:=ay _ _ bu
    exact⟨hq.mono λq hq=>.inl hq,.refl,em,t,mv,bu⟩
 obtain⟨g1,g2,OZ,t,g3,g4⟩:=b7
 refine .eq g3 (.eq I ?_)
 simp only[g4]
 refine .bind (akf h g1 (λq hq=>hq.elim (λhq=>g2.keys q (fV q hq)) λhq=>hq.2) ao aw aU g3 g4) λr aC=>.ret ?_
 exact⟨aC.1.mono λq hq=>aap g2.keys aC.2.keys hq,g2.grow aC.2⟩
def SU{hp:aE Cell}{p:Nat}{k:Cell}{x:dH}{y:av Nat}{n:Nat}(h:pat hp p=some k):pJ (bY hp p (.sF x y n)) p=some (x,y,n):=by unfold pJ;rw[qi h]
def ahr{s:aR}(h:cQ s){k:Nat}(hk:k<4){hp:aE Cell}{q:Nat}{l:aa aJ}{own:Nat->Prop}(hq:Aa s k hp q l own)(ao:jf s k l){i:aJ}(aw:mu s k i)(iQ:iX l i.ct=false)(hlen:l.length<900):
 cE (Cm hp ⟨some q⟩ i) (λhp'=>Aa s k hp' q (l++[i]) (mj own hp hp')∧ei hp hp' own):=by
 obtain⟨key,cap,h1,ad⟩:=hq.ok
 unfold Cm
 refine .eq I (.eq h1 (.eq (aeJ h hk ao.ok aw hlen) (.any λau=>.eq I (.ret ?_))))
 rw[iQ]
 exact⟨⟨au.1,au.2,SU (xp h1),.inl ad⟩,.up ad⟩
def ahs{s:aR}(h:cQ s){k:Nat}(hk:k<4){hp:aE Cell}{f:gT}{l:aa aJ}{own:Nat->Prop}(hq:re s k hp f l own)(fV:∀q,own q->q∈c6 hp)(ao:jf s k l){i:aJ}(aw:mu s k i)(aU:eK l i.bj=none)(iQ:iX l i.ct=false)(hlen:l.length<900):
 cE (Kt hp f i) (λhp'=>re s k hp' f (l++[i]) (mj own hp hp')∧ei hp hp' own):=by
 rcases hq with⟨rfl,q,rfl,hq⟩|⟨rfl,m,rfl,hq⟩|⟨dI,q,rfl,hq⟩
 ·exact cE.of ((ake h hq ao aw aU).mono λhp' aC=>⟨.inl ⟨rfl,q,rfl,aC.1⟩,aC.2⟩)
 ·exact(ahq h hq fV ao aw aU).mono λhp' aC=>⟨.inr (.inl ⟨rfl,m,rfl,aC.1⟩),aC.2⟩
 exact(ahr h hk hq ao aw iQ hlen).mono λhp' aC=>⟨.inr (.inr ⟨dI,q,rfl,aC.1⟩),aC.2⟩
def LR{α β:Type}[DecidableEq α]:∀{l:aa (α×β)} {x:α} {v:β},c4 l x=some v->(x,v)∈l
 |[],_,_,h=>by cases h
 | (k,w)::r,x,v,h=>by
   unfold c4 at h;split at h
   ·rename_i e;cases h;rw[e];simp
   exact fr _ (LR h)
def Tu{α β:Type}[DecidableEq α]:∀{l:aa (α×β)} {x:α} {v:β},l.Pairwise (λa c=>a.1≠c.1)->(x,v)∈l->c4 l x=some v
 |[],_,_,_,h=>by cases h
 | (k,w)::r,x,v,aG,h=>by
   obtain⟨h1,ad⟩:=l6.1 aG;unfold c4;rcases dB.1 h with h|h
   ·cases h;rw[bm I]
   rw[bk (λe=>h1 _ h e.symm),Tu ad h]
def SV{α β:Type}[DecidableEq α]:∀{l:aa (α×β)} {x:α} {v:β},c4 l x=none->fm l x v=l++[(x,v)]
 |[],_,_,_=>rfl
 | (k,w)::r,x,v,h=>by
   unfold c4 at h;split at h
   ·cases h
   rename_i e;show(if x=k then _ else _)=_;rw[bk e,SV h];rfl
def tX(em:aa (Int×aJ))(l:aa aJ):Prop:=em.Perm (l.map λi=>(i.ct,i))
def tX.get{s:aR}{k:Nat}{em:aa (Int×aJ)}{l:aa aJ}(h:tX em l)(ao:lZ s k l)(n:Int)(i:aJ):c4 em n=some i↔i∈l∧i.ct=n:=by
 have hd:em.Pairwise (λa c=>a.1≠c.1):=by
  refine(h.pairwise_iff λch=>w0 ch).2 ?_;rw[BF];exact ao.num.imp λch=>ch
 have hm:(n,i)∈em↔i∈l∧i.ct=n:=by
  rw[h.mem_iff,gH];constructor
  ·rintro ⟨c,ak,e⟩;cases e;exact⟨ak,rfl⟩
  rintro ⟨aw,rfl⟩;exact⟨i,aw,rfl⟩
 rw[<-hm];exact⟨LR,Tu hd⟩
def tX.no{s:aR}{k:Nat}{em:aa (Int×aJ)}{l:aa aJ}(h:tX em l)(ao:lZ s k l)(n:Int):(c4 em n).isSome=iX l n:=by
 rw[mI,JG];unfold iX;rw[nj];constructor
 ·rintro ⟨i,aw⟩;obtain⟨h1,ad⟩:=(h.get ao n i).1 aw;exact⟨i,h1,by simpa using ad⟩
 rintro ⟨i,aw,ad⟩;exact⟨i,(h.get ao n i).2 ⟨aw,by simpa using ad⟩⟩
structure ke(s:aR)(k:Nat)(hp:aE Cell)(p:Nat)(l:List aJ)(own:Nat->Prop):Prop where
 l5:jf s k l
 cell:∃f m em,hG hp p=some ⟨pz k,(Jv s k:Int),f,⟨some m⟩⟩∧kU hp m=some em∧own p∧own m∧tX em l∧re s k hp f l (λq=>own q∧q≠m∧q≠p)
 oH:∀q,own q->q∈c6 hp
def ke.congr{s:aR}{k:Nat}{hp hp':aE Cell}{p:Nat}{l:aa aJ}{own:Nat->Prop}(h:ke s k hp p l own)(hk:∀q,q∈c6 hp->q∈c6 hp')(a1:∀q,own q->pat hp' q=pat hp q):ke s k hp' p l own:=by
 obtain⟨f,m,em,h1,ad,ay,aN,a6,bh⟩:=h.cell;exact⟨h.l5,⟨f,m,em,by rw[aaS (a1 p ay)];exact h1,by rw[aaT (a1 m aN)];exact ad,ay,aN,a6,bh.congr (λq _ hq=>hq) λq hq=>a1 q hq.1⟩,λq hq=>hk q (h.oH q hq)⟩
def ke.qs{s:aR}{k:Nat}{hp hp':aE Cell}{p:Nat}{l:aa aJ}{own own':Nat->Prop}(h:ke s k hp p l own)(hk:ei hp hp' own')(hd:∀q,own q->¬own' q):ke s k hp' p l own:=
 h.congr hk.keys λq hq=>hk.rest q (h.oH q hq) (hd q hq)
def entry_eq{s:aR}(h:cQ s){k:Nat}(hk:k<4){hp:aE Cell}{p:Nat}{l:aa aJ}{own:Nat->Prop}(al:ke s k hp p l own){o:av aJ}(aS:∀i,o=some i->i∈l):Ce hp (some p) (uF o).1 (uF o).2=some (yn o):=by
 obtain⟨f,m,em,h1,ad,ay,aN,a6,bh⟩:=al.cell;refine bF.get ?_;unfold Ce;cases o with
 |none=>exact .cond (λ_=>.ret I) λak=>by cases ak
 | some i=>
   have aw:=aS i I
   refine .cond (λak=>by cases ak) λ_=>.eq rfl (.eq h1 (.eq rfl (.eq ad (.eq rfl ?_))))
   have bu:c4 em i.ct=some i:=(a6.get al.l5.ok _ _).2 ⟨aw,rfl⟩
   show bF (Option.bind (qX ((c4 em i.ct).getD default)) _) _
   rw[bu]
   exact .eq (C8 h hk (al.l5.ok.ok i aw)) (.ret I)
def Mf{s:aR}(h:cQ s){k:Nat}(hk:k<4){hp:aE Cell}{p:Nat}{l:aa aJ}{own:Nat->Prop}(al:ke s k hp p l own){e:bD}(he:jq s k e):wN hp (some p) e=some (yn (eK l e)):=by
 obtain⟨f,m,em,h1,ad,ay,aN,a6,bh⟩:=al.cell;refine bF.get ?_;unfold wN;refine .cond (λak=>by cases ak) λ_=>.eq rfl (.eq h1 (.eq (Vd h hk bh al.l5 he) (.eq (entry_eq h hk al λi aw=>(xh aw).1) (.ret rfl))))
def aeM{s:aR}{k:Nat}{hp:aE Cell}{p:Nat}{l:aa aJ}{own:Nat->Prop}(al:ke s k hp p l own):Cp hp (some p)=some (l.length:Int):=by
 obtain⟨f,m,em,h1,ad,ay,aN,a6,bh⟩:=al.cell;have ao:em.length=l.length:=by rw[a6.length_eq,jO]
 refine bF.get ?_;unfold Cp;refine .cond (λak=>by cases ak) λ_=>.eq rfl (.eq h1 (.eq rfl (.eq ad ?_)));rw[ao];first|exact .ret I|exact .eq I (.ret I)
def ke.mono{s:aR}{k:Nat}{hp:aE Cell}{p:Nat}{l:aa aJ}{own own':Nat->Prop}(h:ke s k hp p l own)(aS:∀q,own q->own' q)(aw:∀q,own' q->q∈c6 hp):ke s k hp p l own':=by
 obtain⟨f,m,em,h1,ad,ay,aN,a6,bh⟩:=h.cell;exact⟨h.l5,⟨f,m,em,h1,ad,aS p ay,aS m aN,a6,bh.congr (λq _ hq=>⟨aS q hq.1,hq.2⟩) λq hq=>rfl⟩,aw⟩
def jf.nil{s:aR}{k:Nat}:jf s k []:=⟨⟨λi aw=>by(cases aw),.nil,by simp⟩,.nil⟩
def A5:Nat->Prop:=λ_=>False
def aeN{s:aR}(h:cQ s){k:Nat}(hk:k<4)(hp:aE Cell):cE (zE hp s ((k:Int)+1)) (λr=> ∃p,r.1=some p∧ke s k r.2 p [] (mj A5 hp r.2)∧ei hp r.2 A5):=by
 refine(ahl h hk hp).mono λr aC=>?_;obtain⟨p,e,aC⟩:=aC;obtain⟨c,m,h1,ad,ay,aN,a6,bh,cH,ed,e5,lS,EN,EO⟩:=aC.cell;obtain⟨Fo,ks,f,bU⟩:=c;simp only at ad ay aN bh cH ed;subst ad ay aN;have hm:=q3 a6;have hp':=xn h1;refine⟨p,e,⟨jf.nil,⟨f,m,[],h1,a6,.inr ⟨e5,il hp'⟩,.inr ⟨lS,il hm⟩,F8 _,?_⟩,λq hq=>hq.elim (λh=>h.elim) λh=>h.2⟩,⟨EN,λq hq _=>EO q hq⟩⟩;have key:∀q c,pat r.2 q=some c->(∀x,c≠ .kz x)->(∀x,c≠ .oc x)->q∉c6 hp->mj A5 hp r.2 q∧q≠m∧q≠p:=λq c ak jy r8 aG=>
  ⟨.inr ⟨aG,il ak⟩,λe=>by rw[e,hm]at ak;cases ak;exact jy _ I,λe=>by rw[e,hp']at ak;cases ak;exact r8 _ I⟩
 have:k=0∨k=1∨2<=k:=by omega
 rcases this with rfl|rfl|dI
 ·obtain⟨q,m2,rfl,g1,g2,g3,g4⟩:=bh I;exact .inl ⟨rfl,q,rfl,⟨m2,[],g1,g2,key q _ (Da g1) (λ_ h=>by cases h) (λ_ h=>by cases h) g3,key m2 _ (so g2) (λ_ h=>by cases h) (λ_ h=>by cases h) g4,λcF n=>⟨λh=>(by cases h),λ⟨i,aw,_⟩=>(by cases aw)⟩,.nil⟩⟩
 ·obtain⟨m3,rfl,g1,g2⟩:=cH I;exact .inr (.inl ⟨rfl,m3,rfl,⟨[],g1,key m3 _ (nx g1) (λ_ h=>by cases h) (λ_ h=>by cases h) g2,λcF r h=>(by cases h),λcF _ i aw=>(by cases aw),λcF j3 t e1 h=>(by cases h),.nil⟩⟩)
 obtain⟨q,amz,cap,rfl,g1,g2⟩:=ed dI;exact .inr (.inr ⟨dI,q,rfl,⟨amz,cap,g1,key q _ (xp g1) (λ_ h=>by cases h) (λ_ h=>by cases h) g2⟩⟩)
def jf.snoc{s:aR}{k:Nat}{l:aa aJ}(h:jf s k l){i:aJ}(aw:mu s k i)(aU:eK l i.bj=none)(aG:iX l i.ct=false)(ao:l.length<900):jf s k (l++[i])where
 ok:=h.ok.snoc aw aG ao
 key:=by
  rw[FC];exact⟨h.key,by simp,λa a1 c ak=>by rw[gG.1 ak];exact u2 aU a a1⟩
def acA{hp:aE Cell}{p:Nat}{k:Cell}{x:aa (Int×aJ)}(h:pat hp p=some k):kU (bY hp p (.kz x)) p=some x:=by unfold kU;rw[qi h]
def TZ(o:av aJ):(uF o).2=o.isSome:=by cases o <;> rfl
def vW(l:aa aJ)(i:aJ):Bool:=(eK l i.bj).isNone&& !iX l i.ct
def added(l:aa aJ)(i:aJ):aa aJ:=if vW l i=true then l++[i]else l
def aeO{s:aR}(h:cQ s){k:Nat}(hk:k<4){hp:aE Cell}{p:Nat}{l:aa aJ}{own:Nat->Prop}(al:ke s k hp p l own){i:aJ}(aw:mu s k i)(hlen:l.length<900):
 cE (wT hp (some p) i) (λr=>r.1=vW l i∧ke s k r.2 p (added l i) (mj own hp r.2)∧ei hp r.2 own):=by
 obtain⟨f,m,em,h1,ad,ay,aN,a6,bh⟩:=al.cell
 have hm:=q3 ad
 have hp':=xn h1
 have lA:p≠m:=λe=>by rw[e,hm]at hp';cases hp'
 have eP:=a6.no al.l5.ok i.ct
 unfold wT
 refine .cond (λak=>by cases ak) λ_=>.eq rfl (.eq h1 (.eq rfl (.eq ad (.eq rfl (.eq rfl (.eq h1 (.eq (Vd h hk bh al.l5 aw.fA) (.cond (λak=>.ret ?_) λak=>?_))))))))
 ·rw[eP,TZ,nT]at ak
  have bq:vW l i=false:=by
   unfold vW;rcases ak with ak|ak
   ·cases aU:eK l i.bj with
    |none=>rw[aU]at ak;cases ak
    |some _=>rfl
   rw[ak];simp
  refine⟨bq.symm,?_,.refl⟩
  unfold added
  rw[bq]
  exact al.mono (λq hq=>.inl hq) λq hq=>hq.elim (al.oH q) λhq=>absurd hq.2 hq.1
 rw[eP,TZ,P6]at ak
 obtain⟨c1,c2⟩:=ak
 have aU:eK l i.bj=none:=by
  cases aU:eK l i.bj with
  |none=>rfl
  |some _=>rw[aU]at c1;cases c1
 have bq:vW l i=true:=by unfold vW;rw[aU,c2];rfl
 have bu:c4 em i.ct=none:=by
  cases bu:c4 em i.ct with
  |none=>rfl
  |some _=>rw[bu,c2]at eP;cases eP
 have au:pat (bY hp m (Cell.kz (fm em i.ct i))) p=some (.oc ⟨pz k,(Jv s k:Int),f,⟨some m⟩⟩):=by rw[k8 lA.symm];exact hp'
 have f1:re s k (bY hp m (Cell.kz (fm em i.ct i))) f l (λq=>own q∧q≠m∧q≠p):=bh.congr (λq _ hq=>hq) λq hq=>k8 hq.2.1.symm
 refine .eq I (.eq h1 (.eq (C8 h hk aw) (.eq I (.eq ad (.eq I (.eq (by unfold hG;rw[au]) (.bind (ahs h hk f1 (λq hq=>by rw[pD];exact al.oH q hq.1) al.l5 aw aU c2 hlen) λgC aC=>.ret ⟨bq.symm,?_,?_⟩)))))))
 ·obtain⟨iR,eS⟩:=aC
  have bK:pat gC p=some (.oc ⟨pz k,(Jv s k:Int),f,⟨some m⟩⟩):=by rw[eS.rest p (il au) (λhq=>hq.2.2 I)];exact au
  have a2:pat gC m=some (.kz (fm em i.ct i)):=by
   have:pat (bY hp m (Cell.kz (fm em i.ct i))) m=some (.kz (fm em i.ct i)):=qi hm;rw[eS.rest m (il this) (λhq=>hq.2.1 I)];exact this
  unfold added
  rw[bm bq]
  refine⟨al.l5.snoc aw aU c2 hlen,⟨f,m,_,by unfold hG;rw[bK],by unfold kU;rw[a2],.inl ay,.inl aN,?_,iR.congr (λq _ hq=>?_) λq _=>rfl⟩,λq hq=>?_⟩
  ·unfold tX
   rw[SV bu,tf]
   exact List.Perm.append_right _ a6
  ·rcases hq with hq|⟨g1,g2⟩
   ·exact⟨.inl hq.1,hq.2⟩
   rw[pD]at g1
   exact⟨.inr ⟨g1,g2⟩,λe=>g1 (e▸il hm),λe=>g1 (e▸il hp')⟩
  rcases hq with hq|hq
  ·exact eS.keys q (by rw[pD];exact al.oH q hq)
  exact hq.2
 exact(ei.up (own:=own) aN).trans aC.2 λq _ hq=>hq.1
structure k5{α:Type}(f:α->α->Int):Prop where
 neg:∀x y,f x y<0↔0<f y x
 l2:∀x y z,f x y<=0->f y z<=0->f x z<=0
def k5.self{α:Type}{f:α->α->Int}(h:k5 f)(x:α):f x x=0:=by have:=h.neg x x;omega
def k5.on{α β:Type}{f:β->β->Int}(h:k5 f)(g:α->β):k5 (λx y=>f (g x) (g y)):=⟨λx y=>h.neg _ _,λx y z=>h.l2 _ _ _⟩
def k5.rev{α:Type}{f:α->α->Int}(h:k5 f):k5 (λx y=>f y x):=⟨λx y=>h.neg y x,λx y z h1 ad=>h.l2 z y x ad h1⟩
def jb{α:Type}(f g:α->α->Int)(x y:α):Int:=if f x y=0 then g x y else f x y
def SX{α:Type}{f g:α->α->Int}{x y:α}(h:jb f g x y=0):f x y=0∧g x y=0:=by
 unfold jb at h;split at h
 ·rename_i e;exact⟨e,h⟩
 rename_i e;exact absurd h e
def k5.jb{α:Type}{f g:α->α->Int}(h:k5 f)(k:k5 g):k5 (Go.Proofs.YtdadopcnkghbaaaGreat.jb f g)where
 neg x y:=by
  unfold Go.Proofs.YtdadopcnkghbaaaGreat.jb;have h1:=h.neg x y;have ad:=h.neg y x;by_cases e:f x y=0
  ·rw[bm e,bm (by omega)];exact k.neg x y
  rw[bk e,bk (by omega)];exact h1
 l2 x y z:=by
  unfold Go.Proofs.YtdadopcnkghbaaaGreat.jb;intro h1 ad;have bK:f x y<=0:=by by_cases e:f x y=0 <;> simp[e]at h1 <;> omega
  have a2:f y z<=0:=by by_cases e:f y z=0 <;> simp[e]at ad <;> omega
  have a3:=h.l2 x y z bK a2;by_cases e:f x z=0
  ·have v8:f z x<=0:=by have:=h.neg x z;have:=h.neg z x;omega
   have cZ:=h.l2 z x y v8 bK;have dA:=h.l2 y z x a2 v8;have c1:f y z=0:=by have:=h.neg y z;omega
   have c2:f x y=0:=by have:=h.neg x y;omega
   rw[bm c2]at h1;rw[bm c1]at ad;rw[bm e];exact k.l2 x y z h1 ad
  rw[bk e];exact a3
def aht{x y:Int}:hR x y<0↔x<y:=by unfold hR;split <;> (try split) <;> omega
def Ie{x y:Int}:0<hR x y↔y<x:=by unfold hR;split <;> (try split) <;> omega
def Hs{x y:Int}:hR x y=0↔x=y:=by unfold hR;split <;> (try split) <;> omega
def qo:k5 hR:=⟨λx y=>by rw[aht,Ie],λx y z h1 ad=>by
 have a:= @Ie x y;have b:= @Ie y z;have c:= @Ie x z;omega⟩
def lc{α:Type}(g:α->α->Int):aa α->aa α->Int
 |[],[]=>0
 |[],_::_=> -1
 |_::_,[]=>1
 |a::r,b::t=>if g a b=0 then lc g r t else g a b
def T0{α:Type}{g:α->α->Int}(h:k5 g):∀(x y:aa α),lc g x y<0↔0<lc g y x
 |[],[]=>by simp[lc]
 |[],_::_=>by simp[lc]
 |_::_,[]=>by simp[lc]
 | a::r,b::t=>by
   have h1:=h.neg a b;have ad:=h.neg b a;unfold lc;by_cases e:g a b=0
   ·rw[bm e,bm (by omega)];exact T0 h r t
   rw[bk e,bk (by omega)];exact h1
def Ve{α:Type}{g:α->α->Int}(h:k5 g):∀(x y z:aa α),lc g x y<=0->lc g y z<=0->lc g x z<=0
 |[],_,[],_,_=>by simp[lc]
 |[],_,_::_,_,_=>by simp[lc]
 |_::_,[],_,h1,_=>by simp[lc]at h1
 |_::_,_::_,[],_,ad=>by simp[lc]at ad
 | a::r,b::t,c::u,h1,ad=>by
   unfold lc at h1 ad⊢;have bK:g a b<=0:=by by_cases e:g a b=0 <;> simp[e]at h1 <;> omega
   have a2:g b c<=0:=by by_cases e:g b c=0 <;> simp[e]at ad <;> omega
   have a3:=h.l2 a b c bK a2;by_cases e:g a c=0
   ·have v8:g c a<=0:=by have:=h.neg a c;have:=h.neg c a;omega
    have cZ:=h.l2 c a b v8 bK;have dA:=h.l2 b c a a2 v8;have c1:g b c=0:=by have:=h.neg b c;omega
    have c2:g a b=0:=by have:=h.neg a b;omega
    rw[bm c2]at h1;rw[bm c1]at ad;rw[bm e];exact Ve h r t u h1 ad
   rw[bk e];exact a3
def Vf{α:Type}{g:α->α->Int}(h:k5 g):k5 (lc g):=⟨T0 h,Ve h⟩
def jg(v:aX):Int:=((v.ey.toNat*18446744073709551616+v.dp.toNat:Nat):Int)
def T1{x y:aX}(h:jg x=jg y):x=y:=by
 obtain⟨a,b⟩:=x;obtain⟨c,d⟩:=y;unfold jg at h;simp only at h;first
 | (have h1:=a.isLt;have ad:=b.isLt;have ay:=c.isLt;have aN:=d.isLt
    have az:a=c:=yU (by omega)
    have a8:b=d:=yU (by omega)
    rw[az,a8])
def Mg(x y:aX):qW x y=some (hR (jg x) (jg y)):=by
 unfold qW;by_cases e:x=y
 ·subst e;simp only[KU,cond_true];rw[Hs.2 I]
 simp only[e,KN,cond_false,Option.bind_some];have cR:jg x≠jg y:=λh=>e (T1 h);have bS:((decide (x.ey<y.ey))||((x.ey==y.ey)&&(decide (x.dp<y.dp))))=decide (jg x<jg y):=by
  rw[mI];simp only[nT,gJ,fZ,nV,Kv];unfold jg;have h1:=x.ey.isLt;have ad:=x.dp.isLt;have ay:=y.ey.isLt;have aN:=y.dp.isLt;constructor
  ·rintro (h|⟨h,cC⟩)
   ·omega
   rw[h];omega
  intro h;by_cases ch:x.ey.toNat<y.ey.toNat
  ·exact .inl ch
  have:x.ey.toNat=y.ey.toNat:=by omega
  exact .inr ⟨yU this,by omega⟩
 rw[bS];unfold hR;by_cases a7:jg x<jg y
 ·simp[a7]
 rw[wH a7,bk a7,bm (by omega)];rfl
def mT:aa Int->Int
 |[]=>0
 |a::r=>if a=0 then mT r else a
def Sa{l:aa Int}(ao:l.length<=1000):tm l=some (mT l):=by
 refine bF.get ?_;unfold tm;refine .bind (P:=λe=>(∃q,e=.inl q∧mT l=0)∨∃q:Int×Int×Int×Bool×Bool,e=.inr q∧q.1=mT l)
  (bF.qn l.length (λj st=>st=(j:Int)∧mT l=mT (l.drop j)) (by omega) ⟨rfl,rfl⟩ (λj st aD hs=>?_) (λst hs=>?_)) λe he=>?_
 ·obtain⟨rfl,hs⟩:=hs;rw[tc aD]at hs;have hs:mT l=if l[j]=0 then mT (l.drop (j+1))else l[j]:=hs;refine .cond (λ_=>.idx I aD ?_) λak=>by simp at ak;omega
  rw[e2 _ aD];refine .cond (λak=>.ret (.inr ⟨_,rfl,?_⟩)) λak=>.ret ⟨gY (by omega),?_⟩
  ·have:l[j]≠0:=by simpa using ak
   rw[hs,bk this]
  have:l[j]=0:=by simpa using ak
  rw[hs,bm this]
 ·obtain⟨rfl,hs⟩:=hs;refine .cond (λak=>by simp at ak) λ_=>.ret (.inl ⟨_,rfl,?_⟩);rw[hs,uK];rfl
 rcases he with⟨q,rfl,hq⟩|⟨q,rfl,hq⟩
 ·simp only[Sum.elim_inl];exact .ret hq.symm
 simp only[Sum.elim_inr];exact .ret hq
def YT{g:cJ->cJ->Int}{f:cJ->cJ->av Int}(aU:∀a b,f a b=some (g a b)){xs ys:aa cJ}(al:xs.length<=100000)(hy:ys.length<=100000):Bj xs ys f=some (lc g xs ys):=by
 refine bF.get ?_;unfold Bj;refine .bind (P:=λe=>(∃q,e=.inl q∧lc g xs ys=if xs.length<ys.length then -1 else 0)∨∃q:Int×Int×Int×Bool×Bool,e=.inr q∧q.1=lc g xs ys)
  (bF.qn xs.length (λj st=>st=(j:Int)∧j<=ys.length∧lc g xs ys=lc g (xs.drop j) (ys.drop j)) (by omega) ⟨rfl,by omega,rfl⟩ (λj st aD hs=>?_) (λst hs=>?_)) λe he=>?_
 ·obtain⟨rfl,O0,hs⟩:=hs;refine .cond (λ_=>.idx I aD (.cond (λak=>.ret (.inr ⟨_,rfl,?_⟩)) λak=>?_)) λak=>by simp at ak;omega
  ·have ak:ys.length<=j:=by simpa using ak
   rw[hs,tc aD,yS ak];rfl
  have bS:j<ys.length:=by simpa using ak
  rw[tc aD,tc bS]at hs;refine .idx I bS (.eq (aU _ _) ?_);rw[e2 _ aD,e2 _ bS];have hs:lc g xs ys=if g xs[j] ys[j]=0 then lc g (xs.drop (j+1)) (ys.drop (j+1))else g xs[j] ys[j]:=hs;refine .cond (λak=>.ret (.inr ⟨_,rfl,?_⟩)) λak=>.ret ⟨gY (by omega),bS,?_⟩
  ·have:g xs[j] ys[j]≠0:=by simpa using ak
   rw[hs,bk this]
  have:g xs[j] ys[j]=0:=by simpa using ak
  rw[hs,bm this]
 ·obtain⟨rfl,O0,hs⟩:=hs;refine .cond (λak=>by simp at ak) λ_=>.ret (.inl ⟨_,rfl,?_⟩);rw[hs,uK];cases hd:ys.drop xs.length with
  | nil=>
    have:=P7.1 hd
    rw[bk (by omega)];rfl
  | cons z yw=>
    have:ys.length-xs.length=yw.length+1:=by rw[<-jh,hd];rfl
    rw[bm (by omega)];rfl
 rcases he with⟨q,rfl,hq⟩|⟨q,rfl,hq⟩
 ·simp only[Sum.elim_inl];refine .cond (λak=>.ret ?_) λak=>.ret ?_
  ·rw[hq,bm (by simpa using ak)]
  rw[hq,bk (by simpa using ak)]
 simp only[Sum.elim_inr];exact .ret hq
def YU{g:aX->aX->Int}{f:aX->aX->av Int}(aU:∀a b,f a b=some (g a b)){xs ys:aa aX}(al:xs.length<=100000)(hy:ys.length<=100000):Bk xs ys f=some (lc g xs ys):=by
 refine bF.get ?_;unfold Bk;refine .bind (P:=λe=>(∃q,e=.inl q∧lc g xs ys=if xs.length<ys.length then -1 else 0)∨∃q:Int×Int×Int×Bool×Bool,e=.inr q∧q.1=lc g xs ys)
  (bF.qn xs.length (λj st=>st=(j:Int)∧j<=ys.length∧lc g xs ys=lc g (xs.drop j) (ys.drop j)) (by omega) ⟨rfl,by omega,rfl⟩ (λj st aD hs=>?_) (λst hs=>?_)) λe he=>?_
 ·obtain⟨rfl,O0,hs⟩:=hs;refine .cond (λ_=>.idx I aD (.cond (λak=>.ret (.inr ⟨_,rfl,?_⟩)) λak=>?_)) λak=>by simp at ak;omega
  ·have ak:ys.length<=j:=by simpa using ak
   rw[hs,tc aD,yS ak];rfl
  have bS:j<ys.length:=by simpa using ak
  rw[tc aD,tc bS]at hs;refine .idx I bS (.eq (aU _ _) ?_);rw[e2 _ aD,e2 _ bS];have hs:lc g xs ys=if g xs[j] ys[j]=0 then lc g (xs.drop (j+1)) (ys.drop (j+1))else g xs[j] ys[j]:=hs;refine .cond (λak=>.ret (.inr ⟨_,rfl,?_⟩)) λak=>.ret ⟨gY (by omega),bS,?_⟩
  ·have:g xs[j] ys[j]≠0:=by simpa using ak
   rw[hs,bk this]
  have:g xs[j] ys[j]=0:=by simpa using ak
  rw[hs,bm this]
 ·obtain⟨rfl,O0,hs⟩:=hs;refine .cond (λak=>by simp at ak) λ_=>.ret (.inl ⟨_,rfl,?_⟩);rw[hs,uK];cases hd:ys.drop xs.length with
  | nil=>
    have:=P7.1 hd
    rw[bk (by omega)];rfl
  | cons z yw=>
    have:ys.length-xs.length=yw.length+1:=by rw[<-jh,hd];rfl
    rw[bm (by omega)];rfl
 rcases he with⟨q,rfl,hq⟩|⟨q,rfl,hq⟩
 ·simp only[Sum.elim_inl];refine .cond (λak=>.ret ?_) λak=>.ret ?_
  ·rw[hq,bm (by simpa using ak)]
  rw[hq,bk (by simpa using ak)]
 simp only[Sum.elim_inr];exact .ret hq
def ET(m:cJ):Int:=if m.gX=true then 1 else 0
def aeP(m:cJ):zo m=some (ET m):=by
 unfold zo ET;cases m.gX <;> rfl
def uE:cJ->cJ->Int:=jb (λx y=>hR (ET x) (ET y)) (jb (λx y=>hR (jg x.b3) (jg y.b3)) (jb (λx y=>hR (jg x.hF) (jg y.hF)) (jb (λx y=>hR x.ft y.ft) (λx y=>hR (jg x.lh) (jg y.lh)))))
def Vg:k5 uE:=(qo.on ET).jb ((qo.on λx:cJ=>jg x.b3).jb ((qo.on λx:cJ=>jg x.hF).jb ((qo.on λx:cJ=>x.ft).jb (qo.on λx:cJ=>jg x.lh))))
def Wp(a b c d e:Int):mT [a,b,c,d,e]=if a=0 then(if b=0 then(if c=0 then(if d=0 then e else d)else c)else b)else a:=by
 have:(if e=0 then 0 else e)=e:=by split <;> omega
 show(if a=0 then(if b=0 then(if c=0 then(if d=0 then(if e=0 then 0 else e)else d)else c)else b)else a)=_;rw[this]
def aaU(x y:cJ):B2 x y=some (uE x y):=by
 unfold B2;by_cases e:x=y
 ·subst e;simp only[KU,cond_true];rw[Vg.self]
 simp only[e,KN,cond_false,aeP,tG,Mg,Option.bind_some];rw[Sa (by simp),Wp];rfl
def Py:bD->bD->Int:=jb (λx y=>hR x.cu y.cu) (jb (λx y=>hR y.jj x.jj) (jb (λx y=>lc uE x.cm y.cm) (jb (λx y=>hR x.eg y.eg) (λx y=>lc (λv w=>hR (jg v) (jg w)) x.ho y.ho))))
def ahu:k5 Py:=(qo.on λx:bD=>x.cu).jb ((qo.on λx:bD=>x.jj).rev.jb (((Vf Vg).on λx:bD=>x.cm).jb ((qo.on λx:bD=>x.eg).jb ((Vf (qo.on jg)).on λx:bD=>x.ho))))
def adN{x y:bD}(h1:x.cm.length<=1000)(ad:y.cm.length<=1000)(ay:x.ho.length<=1000)(aN:y.ho.length<=1000):CA x y=some (Py x y):=by
 unfold CA;rw[tG,tG,tG,YT aaU (by omega) (by omega),YU Mg (by omega) (by omega)];simp only[Option.bind_some];rw[Sa (by simp),Wp];rfl
def CO{α:Type}[Inhabited α]{xs:aa α}{k:Nat}{v:α}(hk:k<xs.length)(i:Nat):aF (fi xs k v) i=if i=k then v else aF xs i:=by
 unfold aF fi;by_cases e:i=k
 ·subst e;rw[bm I];simp[hk]
 rw[bk e];simp[uI (w0 e)]
def EU{α:Type}{m:av α}{P:α->Prop}(h:bF m P):hz m P:=λr e=>by
 obtain⟨x,h1,ad⟩:=h;rw[e]at h1;cases h1;exact ad
structure rr(s:aR):Prop where
 nP:2<=s.kP∧s.kP<=9
 act:(aF s.dD 0).iT=ByteArray.mk #[]
 Jh:(aF s.fk 0).dD=[1,2,3,4,5,6]
 Jy:∃g1 g2 g3,(aF s.fk 0).iV=[⟨1,true,true,[true]⟩,g1,g2,g3]
def aaB(c:e6):hz (wG c) (λr=>(aF r.1 0).iT=ByteArray.mk #[]):=by
 unfold wG;iterate 13 refine .eq ?_
 refine .skip λan=>.eq (.skip λaH=>.eq (.eq (.eq (.skip λbf=>?_))));refine .bind (P:=λm=>(aF m 0).iT=ByteArray.mk #[]) (.cond (λ_=>.bind .idx λk hk=>.eq (.ret ?_)) λ_=>.ret I) λm1 h1=>.skip λbI=>.bind (P:=λm=>(aF m 0).iT=ByteArray.mk #[]) (.cond (λ_=>.bind .idx λk hk=>.eq (.ret ?_)) λ_=>.ret h1) λm2 ad=>.ret ad
 ·have:k=2:=by omega
  subst this;rfl
 have:k=4:=by omega
 subst this;by_cases ao:4<m1.length
 ·rw[CO ao,bk (by decide)];exact h1
 exact absurd hk.2 ao
def abf(c:e6)(ak:jY c)(cB:aa bC)(ao:cB.length=4)(nK:∀k,k<4->(aF cB k).ca.length<=1000)(aw:(aF cB 0).b2=1)(hk:(aF cB 0).ca.length=1):
 hz (ti c cB) (λr=>(aF r.1 0).dD=[1,2,3,4,5,6]∧∃g1 g2 g3,(aF r.1 0).iV=[⟨1,true,true,[true]⟩,g1,g2,g3]):=by
 unfold ti
 refine .skip λ_=>.skip λ_=>.skip λbf=>.skip λbI=>?_
 refine .bind (P:=λe=>e.2.2.2.2.2.2.2.1.dD=[1,2,3,4,5,6]∧∃g1 g2 g3,e.2.2.2.2.2.2.2.2=[⟨1,true,true,[true]⟩,g1,g2,g3]) (.loop (λst=>st.2.2.2.2.2.2.1.dD=[1,2,3,4,5,6]∧∃k:Nat,st.1=(k:Int)∧k<=4∧st.2.2.2.2.2.2.2.length=k∧(0<k->aF st.2.2.2.2.2.2.2 0=⟨1,true,true,[true]⟩)) ⟨rfl,0,rfl,by omega,rfl,λh=>absurd h (by decide)⟩ λst cU=>?_) λe he=>.eq (.eq (.ret he))
 obtain⟨i,iR,g1,Jt,eS,g2,ko,g3⟩:=st
 obtain⟨a1,k,az,kZ,EV,bu⟩:=cU
 simp only at a1 az EV bu;subst az
 refine .cond (λyr=>?_) λyr=>.ret ⟨a1,?_⟩
 ·have jt:k<4:=by simp only[fZ]at yr;omega
  refine .bind .idx λaW dq=>?_
  have:aW=k:=by omega
  subst this
  refine .bind (P:=λy:aa Bool=>y.length=(aF cB aW).ca.length) (λy e=>?_) λbZ a6=>.skip λcS=>?_
  ·unfold vI at e
   split at e
   ·cases e;simp
   cases e
  refine .bind (P:=λe=> ∀x,x<bZ.length->aF e.2.2.2.1 x=true∧e.2.2.2.1.length=bZ.length) (.loop (λs2=>s2.2.2.1.length=bZ.length∧∃j:Nat,s2.1=(j:Int)∧j<=bZ.length∧∀x,x<j->aF s2.2.2.1 x=true) ⟨rfl,0,rfl,by omega,λx al=>absurd al (by omega)⟩ λs2 EE=>?_) λa8 s4=>?_
  ·obtain⟨i2,cZ,dA,Xh⟩:=s2
   obtain⟨hb,j,a8,aD,al⟩:=EE
   simp only at hb a8 al;subst a8
   refine .cond (λyr=>?_) λyr=>.ret λx x7=>?_
   ·have AW:j<bZ.length:=by simp only[fZ]at yr;omega
    refine .skip λdg=>.bind .idx λbP dI=>.skip λdc=>.ret ⟨by simp[fi,hb],j+1,?_,by omega,λx x7=>?_⟩
    ·have:=nK aW jt
     exact gY (by omega)
    have:bP=j:=by omega
    subst this
    rw[CO (by omega)]
    by_cases e:x=bP
    ·rw[bm e]
    rw[bk e];exact al x (by omega)
   simp only[mD]at yr
   exact⟨al x (by omega),hb⟩
  refine .eq (.bind Hn λeB ed=>.skip λiD=>.skip λm1=>.skip λiy=>.skip λm2=>.ret ⟨a1,aW+1,gY (by omega),by omega,?_,λ_=>?_⟩)
  ·subst ed;rw[fB,EV];rfl
  subst ed
  rw[LC]
  by_cases gn:aW=0
  ·subst gn
   rw[bm EV.symm]
   rw[hk]at a6
   obtain⟨bh,cH⟩:=s4 0 (by omega)
   rw[aw]
   rw[a6]at cH
   generalize a8.2.2.2.1=l at bh cH
   cases l with
   |nil=>cases cH
   | cons a t=>
     cases t with
     |nil=>have bh:a=true:=bh;rw[bh]
     |cons _ _=>cases cH
  rw[bk (show ¬(0=g3.length) by omega)]
  exact bu (by omega)
 simp only[mD]at yr
 have kZ:k=4:=by omega
 have bw:=bu (by omega)
 show ∃a b c,g3=_
 rw[kZ]at EV
 match g3,EV,bw with
 |[a,b,c,d],_,bw=>exact⟨b,c,d,by have bw:a=_:=bw;rw[bw]⟩
def Rs(c:e6)(ak:jY c):hz (p7 c) (λr=>rr r.1):=by
 unfold p7;refine .bind (EU (jm _ 8 ak (by omega))) λan h1=>.bind (EU (jm _ 30 h1.1 (by omega))) λaH ad=>?_;refine .eq (.eq (.eq (.eq (.eq (.eq (.eq (.eq (.eq (.eq (.eq (.eq ?_)))))))))));refine .bind (EU (RE _ ad.1)) λbf ay=>.bind (EU (bF.par (Rp _ ay.1) (aaB _))) λbI aN=>.bind (EU (RF _ aN.1.1)) λbZ a6=>.eq (.eq ?_);obtain⟨ia,_,cZ,dA,gF,a6⟩:=a6;have ao:bZ.1.length=4:=by rw[<-jO (f:=kb),a6];rfl
 have nK:∀k,k<4->(aF bZ.1 k).ca.length<=1000:=λk hk=>by
  have bw:=CV kb (l:=bZ.1) (k:=k) (by omega);rw[a6]at bw;rw[<-show _=(aF bZ.1 k).ca from dF (·.2.2) bw];have:k=0∨k=1∨k=2∨k=3:=by omega
  cases cZ <;> cases dA <;> cases gF <;> rcases this with rfl|rfl|rfl|rfl <;> decide
 have bw:=CV kb (l:=bZ.1) (k:=0) (by omega);rw[a6]at bw;have aw:(aF bZ.1 0).b2=1:=(dF (·.1) bw).symm;have vV:(aF bZ.1 0).ca=[qQ]:=(dF (·.2.2) bw).symm;refine .bind (abf _ ia bZ.1 ao nK aw (by rw[vV];rfl)) λcS bh=>.eq (.skip λdg=>.skip λm1=>.skip λeB=>?_);have Ji:2<=bz (2+an.1)∧bz (2+an.1)<=9:=by
  have:=h1.2;rw[hr (by omega) (by omega)];omega
 refine .bind (P:=λm=>rr m.1) (.cond (λ_=>.eq (.skip λy=>.ret ⟨Ji,aN.2,bh.1,bh.2⟩)) λ_=>.ret ⟨Ji,aN.2,bh.1,bh.2⟩) λm2 ad=>.skip λiD=>.skip λaW=>?_;refine .bind (P:=λm=>rr m.1) (.cond (λ_=>.eq (.skip λy=>.ret ⟨ad.nP,ad.act,ad.Jh,ad.Jy⟩)) λ_=>.ret ad) λm3 ay=>.skip λiy=>.skip λbP=>?_;refine .bind (P:=λm=>rr m.1) (.cond (λ_=>.eq (.eq (.skip λy=>.ret ⟨ay.nP,ay.act,ay.Jh,ay.Jy⟩))) λ_=>.ret ay) λm4 aN=>.eq (.ret ⟨aN.nP,aN.act,aN.Jh,aN.Jy⟩)
def Pz(i:Nat):aX:= {(default:aX)with dp:=BitVec.ofInt 64 (i:Int)}
def j7(i:Nat):bD:= {(default:bD)with cu:=1,cm:=[({(default:cJ)with gX:=true,b3:=Pz i}:cJ)],eg:=1}
def aeQ:∀w:Fin 16,∀j:Fin 128,de (Pz w.1) j.1=true->(j.1:Int)<Ju qQ:=by decide +kernel
def Vh{s:aR}(h:cQ s){w:Nat}(hw:w<16):jq s 0 (j7 w):=by
 refine⟨rfl,by rw[h.Nt];rfl,λi aw=>?_,by show 0<=10;decide,λ_=>rfl⟩;rw[h.Nt]at aw⊢;have:i=0:=by have:i<1:=aw;omega
 subst this;show tN 1 (Ju qQ) {(default:cJ)with gX:=true,b3:=Pz w};exact⟨λh=>(by cases h),λ_=>rfl,λ_ j aD a7=>aeQ ⟨w,hw⟩ ⟨j,aD⟩ a7,λh=>(by cases h),λh=>(by cases h),akd,λh=>(by cases h),λ_=>rfl,λ_=>rfl,λh=>(by cases h),λh=>(by cases h),λh=>(by cases h),λ_=>rfl⟩
def alV{α β:Type}{f:α->β}{l:aa α}{a b c d:β}(h:l.map f=[a,b,c,d]):∃w x y z,l=[w,x,y,z]∧f w=a:=by
 match l,h with
 |[w,x,y,z],h=>exact⟨w,x,y,z,rfl,by simp at h;exact h.1⟩
def alW{α β:Type}{f:α->β}{l:aa α}{a b c d e g:β}(h:l.map f=[a,b,c,d,e,g]):∃u v w x y z,l=[u,v,w,x,y,z]∧f u=a:=by
 match l,h with
 |[u,v,w,x,y,z],h=>exact⟨u,v,w,x,y,z,rfl,by simp at h;exact h.1⟩
def alX{α β:Type}{f:α->β}{l:aa α}{a b c:β}(h:l.map f=[a,b,c]):∃u v w,l=[u,v,w]∧f u=a:=by
 match l,h with
 |[u,v,w],h=>exact⟨u,v,w,rfl,by simp at h;exact h.1⟩
def alY{α β:Type}{f:α->β}{l:aa α}{a b c d aj aI cy amA hN:β}(h:l.map f=[a,b,c,d,aj,aI,cy,amA,hN]):∃u v w x an aH bf bI bZ,l=[u,v,w,x,an,aH,bf,bI,bZ]∧f u=a∧f v=b∧f w=c∧f x=d:=by
 match l,h with
 |[u,v,w,x,an,aH,bf,bI,bZ],h=>exact⟨u,v,w,x,an,aH,bf,bI,bZ,rfl,by simp at h;exact⟨h.1,h.2.1,h.2.2.1,h.2.2.2.1⟩⟩
def alZ(jy r8 p2 pA:ByteArray)(f5 f6 f7 f8 f9:gV)(hd:aa kr)(st:aa ee)(yF:ByteArray)(s8:aa hU)(a2 a3 a4 a5 yG:eD)(yH:ByteArray)(yI:Int)(yJ:aa aX)(yK:Int)(t2 t3 t4:bC)
    (hR:aa fI) (yL:ByteArray) (g1 g2 g3:dU) (yM:Int) (yN:Bool) (eS ko:cL) (py:aa ev) (nP yO:Int):aR:=
 ⟨[⟨1,jy,16⟩,⟨2,r8,16⟩,⟨3,p2,8⟩,⟨4,pA,4⟩,f5,f6,f7,f8,f9],hd,st,[⟨1,yF,[],s8,ByteArray.mk #[]⟩,a2,a3,a4,a5,yG],[⟨1,yH,[qQ],[1,2,4],yI,yJ,yK,ByteArray.mk #[]⟩,t2,t3,t4],hR,
   [⟨1,yL,[⟨1,true,true,[true]⟩,g1,g2,g3],[1,2,3,4,5,6],yM,yN⟩,eS,ko],py,nP,yO⟩
def T2{s:aR}(hs:cQ s)(hb:rr s)(bq:(aF s.bM 0).iT=ByteArray.mk #[]):∃jy r8 p2 pA f5 f6 f7 f8 f9 hd st yF s8 a2 a3 a4 a5 yG yH yI yJ yK t2 t3 t4 hR yL g1 g2 g3 yM yN eS ko py nP yO,
 s=alZ jy r8 p2 pA f5 f6 f7 f8 f9 hd st yF s8 a2 a3 a4 a5 yG yH yI yJ yK t2 t3 t4 hR yL g1 g2 g3 yM yN eS ko py nP yO:=by
 obtain⟨fs,hd,st,anx,cB,hR,rs,py,nP,yO⟩:=s
 obtain⟨h1,ad,ay,aN,⟨cZ,dA,gF,a6⟩,bh,cH⟩:=hs
 obtain⟨aW,bP,dc,g1,g2,g3,eW⟩:=hb
 simp only at h1 aN a6 bh bP dc eW bq
 obtain⟨⟨i1,jy,ta⟩,⟨i2,r8,Bf⟩,⟨i3,p2,anX⟩,⟨i4,pA,anY⟩,f5,f6,f7,f8,f9,rfl,az,a8,dw,h2⟩:=alY h1
 obtain⟨⟨anZ,yF,ap,s8,yv⟩,a2,a3,a4,a5,yG,rfl,nf⟩:=alW aN
 obtain⟨⟨an0,yH,amB,anz,yI,yJ,yK,l2⟩,t2,t3,t4,rfl,yx⟩:=alV a6
 obtain⟨⟨amC,yL,rg,amD,yM,yN⟩,eS,ko,rfl,PA⟩:=alX bh
 simp only[Ak,zg]at az a8 dw h2
 simp only[tM,zg]at nf
 simp only[kb,zg]at yx
 obtain⟨rfl,rfl⟩:=az
 obtain⟨rfl,rfl⟩:=a8
 obtain⟨rfl,rfl⟩:=dw
 obtain⟨rfl,rfl⟩:=h2
 obtain⟨rfl,nf⟩:=nf
 obtain⟨rfl,rfl,rfl⟩:=yx
 have nf:=List.map_eq_nil_iff.1 nf
 subst nf
 have bP:yv=_:=bP
 have dc:amD=_:=dc
 have eW:rg=_:=eW
 have bq:l2=_:=bq
 have PA:amC=_:=PA
 subst bP dc eW bq PA
 exact⟨jy,r8,p2,pA,f5,f6,f7,f8,f9,hd,st,yF,s8,a2,a3,a4,a5,yG,yH,yI,yJ,yK,t2,t3,t4,hR,yL,g1,g2,g3,yM,yN,eS,ko,py,nP,yO,rfl⟩
def adO{P:Nat->Prop}(h:P 0∧P 1∧P 2∧P 3∧P 4∧P 5∧P 6∧P 7∧P 8∧P 9){i:Nat}(aw:i<10):P i:=by
 have:i=0∨i=1∨i=2∨i=3∨i=4∨i=5∨i=6∨i=7∨i=8∨i=9:=by omega
 rcases this with rfl|rfl|rfl|rfl|rfl|rfl|rfl|rfl|rfl|rfl
 ·exact h.1
 ·exact h.2.1
 ·exact h.2.2.1
 ·exact h.2.2.2.1
 ·exact h.2.2.2.2.1
 ·exact h.2.2.2.2.2.1
 ·exact h.2.2.2.2.2.2.1
 ·exact h.2.2.2.2.2.2.2.1
 ·exact h.2.2.2.2.2.2.2.2.1
 exact h.2.2.2.2.2.2.2.2.2
def abg{s:aR}(hs:cQ s)(hb:rr s)(bq:(aF s.bM 0).iT=ByteArray.mk #[]){i:Nat}(aw:i<10):zx s 1 ⟨1,j7 i⟩=some 0:=by
 obtain⟨jy,r8,p2,pA,f5,f6,f7,f8,f9,hd,st,yF,s8,a2,a3,a4,a5,yG,yH,yI,yJ,yK,t2,t3,t4,hR,yL,g1,g2,g3,yM,yN,eS,ko,py,nP,yO,rfl⟩:=T2 hs hb bq;refine adO (P:=λi=>zx _ 1 ⟨1,j7 i⟩=some 0) ⟨?_,?_,?_,?_,?_,?_,?_,?_,?_,?_⟩ aw <;> kernel_rfl
def abh{s:aR}(hs:cQ s)(hb:rr s)(bq:(aF s.bM 0).iT=ByteArray.mk #[]):zx s 1 ⟨3,{j7 0 with eg:=0}⟩=some 0:=by
 obtain⟨jy,r8,p2,pA,f5,f6,f7,f8,f9,hd,st,yF,s8,a2,a3,a4,a5,yG,yH,yI,yJ,yK,t2,t3,t4,hR,yL,g1,g2,g3,yM,yN,eS,ko,py,nP,yO,rfl⟩:=T2 hs hb bq;kernel_rfl
def Mh{hp hp':aE Cell}{root:Ref}{ws:aa Bool}{b:Bool}{p q:Nat}{c uC:dT}(bq:pG hp root)(hw:cA hp root ws=some p)(ak:cv hp p=some c)(hq:b9 c.cX (e0 b)=some q)(oF:cv hp q=some uC)(ao:∀x,b9 uC.cX (e0 x)=none)
 (bH:cv hp' p=some {c with cX:=iq c.cX (e0 b) none}) (gC:∀x,x≠p->cv hp' x=cv hp x):
 ∀(aT us:aa Bool) (r:Nat),cA hp root us=some r->us≠ws++[b]->cA hp' (some r) aT=if us++aT=ws++[b]then none else cA hp (some r) aT
 | [],us,r,hu,cR=>by
   rw[l8,bk cR];rfl
 | x::xs,us,r,hu,cR=>by
   obtain⟨PB,uo⟩:=bq.reads us r hu;by_cases na:r=p
   ·subst na;have OQ:=bq.inj us ws r hu hw;subst OQ;rw[ak]at uo;cases uo;rw[hn bH,hn ak];simp only;have bS:e0 b<2:=by cases b <;> decide
    rw[w9 _ _ bS];by_cases yl:x=b
    ·subst yl;rw[bm I,hq,gb];by_cases h:xs=[]
     ·subst h;rw[bm I]
     have eP: ¬us++x::xs=us++[x]:=λe=>h (by have:=Fw e;simpa using this);rw[bk eP];cases xs with
     |nil=>exact absurd I h
     |cons y ys=>rw[hn oF,ao,gb]
    have al0: ¬e0 x=e0 b:=λe=>yl (by cases x <;> cases b <;> first|rfl|cases e);have eP:∀ys,¬us++x::ys=us++[b]:=λys e=>yl (by have:=Fw e;simpa using (List.cons.inj this).1);rw[bk al0,bk (eP xs)];cases e:b9 c.cX (e0 x)with
    |none=>rw[gb,gb]
    | some l1=>
      have mZ:cA hp root (us++[x])=some l1:=by rw[nu,hu,hn ak,e,oY]
      rw[Mh bq hw ak hq oF ao bH gC xs (us++[x]) l1 mZ (eP []),h3,List.singleton_append,bk (eP xs)]
   have h1:cv hp' r=some PB:=by rw[gC r na];exact uo
   rw[hn h1,hn uo];have akh:us++[x]≠ws++[b]:=λe=>by
    have:=JO e I;subst this;rw[hu]at hw;cases hw;exact na I
   cases e:b9 PB.cX (e0 x)with
   |none=>rw[gb,gb];split <;> rfl
   | some l1=>
     have mZ:cA hp root (us++[x])=some l1:=by rw[nu,hu,hn uo,e,oY]
     rw[Mh bq hw ak hq oF ao bH gC xs (us++[x]) l1 mZ akh,h3,List.singleton_append]
def cut{hp hp':aE Cell}{r:Nat}{ws:aa Bool}{b:Bool}{p q:Nat}{c uC:dT}(bq:pG hp (some r))(hw:cA hp (some r) ws=some p)(ak:cv hp p=some c)(hq:b9 c.cX (e0 b)=some q)(oF:cv hp q=some uC)(ao:∀x,b9 uC.cX (e0 x)=none)(hu:uC.fx=false)
 (bH:cv hp' p=some {c with cX:=iq c.cX (e0 b) none}) (gC:∀x,x≠p->cv hp' x=cv hp x):
 pG hp' (some r)∧(∀aT,cA hp' (some r) aT=if aT=ws++[b]then none else cA hp (some r) aT)∧∀aT,cont hp' (some r) aT=cont hp (some r) aT:=by
 have aU:∀aT,cA hp' (some r) aT=if aT=ws++[b]then none else cA hp (some r) aT:=λaT=>Mh bq hw ak hq oF ao bH gC aT [] r I (by simp)
 have OR:cA hp (some r) (ws++[b])=some q:=by rw[nu,hw,hn ak,hq,oY]
 refine⟨⟨λaT x h=>?_,λaT cs x h1 ad=>?_,λaT x h=>?_⟩,aU,λaT=>?_⟩
 ·rw[aU]at h
  split at h
  ·cases h
  obtain⟨ic,h1⟩:=bq.reads aT x h
  by_cases e:x=p
  ·subst e;exact⟨_,bH⟩
  exact⟨ic,by rw[gC x e];exact h1⟩
 ·rw[aU]at h1 ad
  split at h1 <;> split at ad
  ·cases h1
  ·cases h1
  ·cases ad
  exact bq.inj aT cs x h1 ad
 ·rw[aU]at h
  split at h
  ·cases h
  exact bq.dep aT x h
 by_cases e:aT=ws++[b]
 ·subst e
  rw[lf (by rw[aU,bm I]),kx OR oF,hu];rfl
 have ym:cA hp' (some r) aT=cA hp (some r) aT:=by rw[aU,bk e]
 cases h:cA hp (some r) aT with
 |none=>rw[lf h,lf (ym.trans h)]
 | some x=>
   obtain⟨ic,h1⟩:=bq.reads aT x h
   by_cases eq:x=p
   ·subst eq
    rw[ak]at h1;cases h1
    rw[kx h ak,kx (ym.trans h) bH]
   rw[kx h h1,kx (ym.trans h) (by rw[gC x eq];exact h1)]
structure N0(ki hp:aE Cell)(t:Nat)(g:List Bool->Option Int)(r:Nat):Prop where
 cell:∃c,fl hp t=some c∧c.gr=32∧c.ek=some r
 tree:pG hp (some r)
 cont:∀aT,cont hp (some r) aT=g aT
 keeps:ei ki hp (Own ki t)
 own:∀aT q,cA hp (some r) aT=some q->Own ki t q
def empty_eq{hp:aE Cell}{p:Nat}{c:dT}(h:cv hp p=some c):zk hp (some p)=some (!c.fx&&decide (c.cX=default)):=by
 refine bF.get ?_;unfold zk;refine .eq I (.eq h ?_);refine .cj (P:=λr=>r=p) (λ_=>⟨p,rfl,rfl⟩) λo h1=>?_;refine .cj (P:=λr=>r=c) (λad=>⟨c,by rw[h1 ad];exact h,rfl⟩) λc2 ad=>.ret ?_;cases hu:c.fx with
 |true=>rfl
 |false=>rw[ad (by rw[hu];rfl)]
def abU(v:aX)(n:Nat):(dR v n).length=n:=by unfold dR;simp
def abV(v:aX){i n:Nat}(h:i<=n):dR v n=dR v i++(dR v n).drop i:=by
 have:dR v i=(dR v n).take i:=by unfold dR;rw[<-List.map_take,List.take_range];congr 2;omega
 rw[this,fw]
def Ht{hp:aE Cell}{r:Ref}{v:aX}{i n:Nat}(h:i<=n){p:Nat}(hp':cA hp r (dR v n)=some p):∃q,cA hp r (dR v i)=some q:=by
 rw[abV v h,nu]at hp';cases e:cA hp r (dR v i)with
 |none=>rw[e,gb]at hp';cases hp'
 |some q=>exact⟨q,rfl⟩
def abW{hp:aE Cell}{t:Nat}{g:aa Bool->av Int}(h:jn hp t g){n:Nat}(aG:n<=32){v:aX}(a7:∀j,j<128->de v j=true->lead 32 n j=true){id:Int}(bu:g (dR v n)=some id):
 bF (zi hp (some t) v n) (λr=>r.1=true∧jn r.2 t (λaT=>if aT=dR v n then none else g aT)∧ei hp r.2 (Own hp t)∧∀q,Own r.2 t q->Own hp t q):=by
 obtain⟨c,ak,hb,bq,O1⟩:=h.ok
 have aki:∃p,cA hp c.ek (dR v n)=some p:=by
  cases e:cA hp c.ek (dR v n)with
  |none=>rw[<-O1,lf e]at bu;cases bu
  |some p=>exact⟨p,rfl⟩
 obtain⟨wj,lV⟩:=aki
 have ahv:∃r,c.ek=some r:=by
  obtain⟨q,hq⟩:=Ht (uO n) lV;rw[RL,oY]at hq;exact⟨q,hq⟩
 obtain⟨r,aC⟩:=ahv
 rw[aC]at bq O1 lV
 unfold zi
 refine .eq (TX h aG a7) ?_
 rw[bu]
 refine .cond (λak=>by cases ak) λ_=>.eq rfl (.eq ak (.eq rfl ?_))
 rw[aC]
 show bF (Option.bind (te hp (n:Int) v (some t) _ _) _) _
 refine bF.bind (P:=λe:(aa Int×aa Ref)⊕Empty=> ∃bits nL,e=.inl (bits,nL)∧nL.length=n+1∧bits.length=n∧(∀j,j<=n->aF nL j=cA hp (some r) (dR v j))∧∀j,j<n->aF bits j=((e0 (de v (31-j)):Nat):Int))
  (Vc ak hb v aG (λi s=> ∃bits nL,s=(bits,nL)∧nL.length=i+1∧bits.length=i∧(∀j,j<=i->aF nL j=cA hp (some r) (dR v j))∧∀j,j<i->aF bits j=((e0 (de v (31-j)):Nat):Int)) ⟨[],[some r],rfl,rfl,rfl,λj aD=>?_,λj aD=>by omega⟩ (λi s aw hs=>?_) (λs hs=>?_)) λe he=>?_
 ·have:j=0:=by omega
  subst this
  rw[RL,oY];rfl
 ·obtain⟨bits,nL,rfl,h1,ad,ay,aN⟩:=hs
  obtain⟨q,hq⟩:=Ht (show i<=n by omega) lV
  obtain⟨d,hd⟩:=bq.reads _ _ hq
  have hw:bz ((nL.length:Int)-1)=(i:Int):=by rw[hr (by omega) (by omega)];omega
  simp only[hw]
  have bS:e0 (de v (31-i))<2:=by cases de v (31-i) <;> decide
  refine .idx I (by omega) (.eq (a:=q) (by rw[ay i (h5 _)];exact hq) (.idx I bS (.eq hd (.eq (iU _ _ (by simp;omega) (by omega)) (.eq (iU _ _ (by simp;omega) (by omega)) (.ret ⟨_,_,rfl,by simp;omega,by simp;omega,λj aD=>?_,λj aD=>?_⟩))))))
  ·rw[LC]
   by_cases j1:j=nL.length
   ·rw[bm j1,show j=i+1 by omega,G4,nu,hq,hn hd,oY]
   rw[bk j1];exact ay j (by omega)
  rw[LC]
  by_cases j1:j=bits.length
  ·rw[bm j1,show j=i by omega]
  rw[bk j1];exact aN j (by omega)
 ·exact⟨s.1,s.2,by obtain⟨bits,nL,rfl,_⟩:=hs;rfl,by obtain⟨bits,nL,rfl,h⟩:=hs;exact h⟩
 obtain⟨bits,nL,rfl,h1,ad,ay,aN⟩:=he
 simp only[Sum.elim_inl]
 obtain⟨d,hd⟩:=bq.reads _ _ lV
 have OU:=qd.1 hd
 have iY:cv (bY hp wj (.fT {d with fx:=false})) wj=some {d with fx:=false}:=zN OU
 refine .idx I (by omega) (.eq (a:=wj) (by rw[ay n (h5 _)];exact lV) (.eq hd (.eq I (.eq iY (.eq I ?_)))))
 generalize cb:bY (bY hp wj (.fT {d with fx:=false})) wj (.fT {d with fx:=false,jr:=0})=cw
 have gx:=Ic hd ak
 have AH:cv cw wj=some {d with fx:=false,jr:=0}:=by rw[<-cb];exact zN (qd.1 iY)
 have N1:∀q,q≠wj->pat cw q=pat hp q:=λq hq=>by rw[<-cb,k8 hq.symm,k8 hq.symm]
 obtain⟨s1,s2⟩:=Wl bq lV hd AH I λq hq=>w5 (N1 q hq)
 have XT:=CW hd AH I λq hq=>w5 (N1 q hq)
 have al1:fl cw t=some c:=by rw[GW (N1 t gx.symm)];exact ak
 have Vi:Own hp t wj:=.inr ⟨c,_,ak,by rw[aC];exact lV⟩
 have dI:ei hp cw (Own hp t):=by
  rw[<-cb];exact(ei.up (own:=Own hp t) Vi).trans (ei.up Vi) λq _ h=>h
 have m0:N0 hp cw t (λaT=>if aT=dR v n then none else g aT) r:=⟨⟨c,al1,hb,aC⟩,s1,λaT=>by
  rw[s2];by_cases e:aT=dR v n
  ·rw[bm e];simp only[bm e];rfl
  rw[bk e];simp only[bk e];exact O1 aT,dI,λaT q hq=>.inr ⟨c,aT,ak,by rw[aC,<-XT];exact hq⟩⟩
 have vH:bz ((n:Int)-1)=(n:Int)-1:=hr (by omega) (by omega)
 rw[vH]
 refine bF.bind (P:=λa8=>N0 hp a8.2.2 t (λaT=>if aT=dR v n then none else g aT) r) (bF.qn n (λi st=> ∃hq,st=((n:Int)-1-(i:Int),hq)∧N0 hp hq t (λaT=>if aT=dR v n then none else g aT) r∧∀j,j+i<=n->cA hq (some r) (dR v j)=aF nL j) (by omega) ⟨cw,by simp,m0,λj aD=>by rw[XT,ay j (by omega)]⟩ (λi st aw hs=>?_) (λst hs=>?_)) λa8 s4=>?_
 ·obtain⟨hq,rfl,hm,N2⟩:=hs
  have az:(n:Int)-1-(i:Int)=((n-1-i:Nat):Int):=by omega
  have a8:bz ((n:Int)-1-(i:Int)+1)=((n-i:Nat):Int):=by rw[hr (by omega) (by omega)];omega
  have dw:bz ((n:Int)-1-(i:Int)-1)=(n:Int)-1-((i+1:Nat):Int):=by rw[hr (by omega) (by omega)];omega
  simp only[a8,dw]
  have uf:decide ((n:Int)-1-(i:Int)>=0)=true:=by rw[fZ];omega
  simp only[uf]
  have iN:=N2 (n-i) (by omega)
  have EW:=N2 (n-1-i) (by omega)
  obtain⟨aj,gM⟩:=Ht (show n-i<=n by omega) lV
  obtain⟨ab,IW⟩:=Ht (show n-1-i<=n by omega) lV
  rw[ay _ (by omega),gM]at iN
  rw[ay _ (by omega),IW]at EW
  obtain⟨c1,cY⟩:=hm.tree.reads _ _ iN
  obtain⟨uG,ue⟩:=hm.tree.reads _ _ EW
  refine .cj (P:=λeW=>eW=n-i) (λ_=>⟨_,u7 (by omega),rfl⟩) λeW kZ=>?_
  rw[kZ I]
  have OB:aF nL (n-i)=some aj:=by rw[ay _ (by omega)];exact gM
  have al2:aF nL (n-1-i)=some ab:=by rw[ay _ (by omega)];exact IW
  refine .cj (P:=λy=>y=(!c1.fx&&decide (c1.cX=default))) (λ_=>⟨_,by rw[OB];exact empty_eq cY,rfl⟩) λbZ hZ=>.cond (λb4=>?_) λb4=>.ret hm
  rw[wM,hZ I,gJ,wB,fZ]at b4
  obtain⟨br,z2⟩:=b4
  have bS:e0 (de v (31-(n-1-i)))<2:=by cases de v (31-(n-1-i)) <;> decide
  have ahw:dR v (n-i)=dR v (n-1-i)++[de v (31-(n-1-i))]:=by rw[<-G4,show n-1-i+1=n-i by omega]
  have rP:b9 uG.cX (e0 (de v (31-(n-1-i))))=some aj:=by
   rw[ahw,nu,EW,hn ue,oY]at iN;exact iN
  have ki:=qd.1 ue
  refine .idx az (by omega) (.idx az (by omega) (.eq al2 (.idx (aN _ (by omega)) bS (.eq ue (.eq I (.ret ?_))))))
  obtain⟨g1,g2,g3⟩:=cut (hp':=bY hq ab (.fT {uG with cX:=iq uG.cX (e0 (de v (31-(n-1-i)))) none})) hm.tree EW ue rP cY (λx=>by rw[z2,Ld];rfl) br (zN ki) λx al=>uX al.symm
  obtain⟨ic,bK,a2,a3⟩:=hm.cell
  have ahx:=hm.own _ _ EW
  refine⟨_,rfl,⟨⟨ic,by rw[GX (Ic ue bK)];exact bK,a2,a3⟩,g1,λaT=>by rw[g3];exact hm.cont aT,hm.keeps.trans (ei.up ahx) λq _ h=>h,λaT q k4=>?_⟩,λj aD=>?_⟩
  ·rw[g2]at k4
   split at k4
   ·cases k4
   exact hm.own aT q k4
  rw[g2,bk (λe=>by have:=dF List.length e;simp only[fB,abU,List.length_singleton]at this;omega)]
  exact N2 j (by omega)
 ·obtain⟨hq,rfl,hm,_⟩:=hs
  have uf:decide ((n:Int)-1-(n:Int)>=0)=false:=by rw[mD];omega
  simp only[uf]
  refine .cj (P:=λ_=>True) (λak=>by cases ak) λ_ _=>.cj (P:=λ_=>True) (λak=>by cases ak) λ_ _=>.cond (λak=>by cases ak) λ_=>.ret hm
 obtain⟨ib,bK,a2,a3⟩:=s4.cell
 refine .eq bK ?_
 rw[a3]
 obtain⟨PB,uo⟩:=s4.tree.reads [] r I
 refine .eq (empty_eq uo) (.bind (P:=λm1=>jn m1 t (λaT=>if aT=dR v n then none else g aT)∧ei hp m1 (Own hp t)∧∀q,Own m1 t q->Own hp t q) (.cond (λb4=>.eq I (.ret ?_)) λ_=>.ret ?_) λm1 b7=>.ret ⟨rfl,b7⟩)
 ·rw[gJ,wB,fZ]at b4
  obtain⟨br,z2⟩:=b4
  have Jb:fl (bY a8.2.2 t (.jX {ib with ek:=none})) t=some {ib with ek:=none}:=SM (tq.1 bK)
  refine⟨⟨_,Jb,a2,⟨λaT p h=>(by rw[gb]at h;cases h),λaT cs p h=>(by rw[gb]at h;cases h),λaT p h=>(by rw[gb]at h;cases h)⟩,λaT=>?_⟩,s4.keeps.trans (ei.up (own:=Own hp t) (.inl I)) λq _ h=>h,λq hq=>?_⟩
  ·rw[lf gb,<-s4.cont]
   cases aT with
   |nil=>rw[kx (p:=r) I uo,br];rfl
   |cons b aT=>rw[lf];rw[hn uo,z2,Ld];exact gb
  rcases hq with rfl|⟨ic,aT,cZ,dA⟩
  ·exact .inl I
  rw[Jb]at cZ;cases cZ
  rw[gb]at dA;cases dA
 refine⟨⟨ib,bK,a2,by rw[a3];exact s4.tree,λaT=>by rw[a3];exact s4.cont aT⟩,s4.keeps,λq hq=>?_⟩
 rcases hq with rfl|⟨ic,aT,cZ,dA⟩
 ·exact .inl I
 rw[bK]at cZ;cases cZ
 rw[a3]at dA
 exact s4.own aT q dA
def kk(hp:aE Cell):Nat->Ref->aa Int
 |0,_=>[]
 |_+1,none=>[]
 | n+1,some p=>match cv hp p with
   |none=>[]
   |some c=>(bif c.fx then [c.jr]else [])++(kk hp n (b9 c.cX 0)++kk hp n (b9 c.cX 1))
def HP{hp:aE Cell}{n p:Nat}{c:dT}(h:cv hp p=some c):kk hp (n+1) (some p)=(bif c.fx then [c.jr]else [])++(kk hp n (b9 c.cX 0)++kk hp n (b9 c.cX 1)):=by
 show(match cv hp p with |none=>[]|some c=>_)=_;rw[h]
def tr{hp:aE Cell}{p:Nat}{c:dT}(h:cv hp p=some c)(b:Bool)(aT:aa Bool):cont hp (some p) (b::aT)=cont hp (b9 c.cX (e0 b)) aT:=by
 unfold cont;rw[hn h]
def xi{hp:aE Cell}:∀{n:Nat} {r:Ref} {id:Int},id∈kk hp n r->∃aT,cont hp r aT=some id
 |0,_,_,h=>by cases h
 |_+1,none,_,h=>by cases h
 | n+1,some p,id,h=>by
   cases ak:cv hp p with
   | none=>
     have:kk hp (n+1) (some p)=[]:=by
      show(match cv hp p with |none=>[]|some c=>_)=_;rw[ak]
     rw[this]at h;cases h
   | some c=>
     rw[HP ak]at h
     rcases bX.1 h with h|h
     ·refine⟨[],?_⟩
      rw[kx (p:=p) I ak]
      cases hu:c.fx with
      |true=>rw[hu]at h;rw[gG.1 h];rfl
      |false=>rw[hu]at h;cases h
     rcases bX.1 h with h|h
     ·obtain⟨aT,k4⟩:=xi h
      exact⟨false::aT,by rw[tr ak];exact k4⟩
     obtain⟨aT,k4⟩:=xi h
     exact⟨true::aT,by rw[tr ak];exact k4⟩
def SY{hp:aE Cell}:∀{n:Nat} {r:Ref} {id:Int} {aT:aa Bool},aT.length<n->cont hp r aT=some id->id∈kk hp n r
 |0,_,_,_,ao,_=>by omega
 |n+1,none,id,aT,_,h=>by rw[lf gb]at h;cases h
 | n+1,some p,id,aT,ao,h=>by
   cases ak:cv hp p with
   | none=>
     exfalso
     cases aT with
     | nil=>
       unfold cont at h
       have:cA hp (some p) []=some p:=rfl
       rw[this]at h
       simp only[ak]at h;cases h
     | cons b aT=>
       have:cA hp (some p) (b::aT)=none:=by
        show(match cv hp p with |none=>none|some c=>cA hp (b9 c.cX (e0 b)) aT)=none;rw[ak]
       rw[lf this]at h;cases h
   | some c=>
     rw[HP ak]
     cases aT with
     | nil=>
       rw[kx (p:=p) I ak]at h
       cases hu:c.fx with
       | true=>
         rw[hu]at h
         have:c.jr=id:=by simpa using h
         rw[this];simp
       |false=>rw[hu]at h;cases h
     | cons b aT=>
       rw[tr ak]at h
       have jG:aT.length<n:=by simp at ao;omega
       have:=SY jG h
       cases b
       ·exact Br _ (JX _ this)
       exact Br _ (Br _ this)
def Sb{hp:aE Cell}:∀{n:Nat} {r:Ref},(∀aT cs id,cont hp r aT=some id->cont hp r cs=some id->aT=cs)->(kk hp n r).Nodup
 |0,_,_=>Kq
 |_+1,none,_=>Kq
 | n+1,some p,h=>by
   cases ak:cv hp p with
   | none=>
     have:kk hp (n+1) (some p)=[]:=by
      show(match cv hp p with |none=>[]|some c=>_)=_;rw[ak]
     rw[this];exact Kq
   | some c=>
     rw[HP ak]
     have hb:∀b,(kk hp n (b9 c.cX (e0 b))).Nodup:=λb=>Sb λaT cs id h1 ad=>by
      have:=h (b::aT) (b::cs) id (by rw[tr ak];exact h1) (by rw[tr ak];exact ad);simpa using this
     rw[nS,nS]
     refine⟨by cases c.fx <;> simp,⟨hb false,hb true,λa a1 ic oG e=>?_⟩,λa a1 ic oG e=>?_⟩
     ·subst e
      obtain⟨aT,h1⟩:=xi a1
      obtain⟨cs,ad⟩:=xi oG
      have:=h (false::aT) (true::cs) a (by rw[tr ak];exact h1) (by rw[tr ak];exact ad)
      simp at this
     subst e
     cases hu:c.fx with
     |false=>rw[hu]at a1;cases a1
     | true=>
       rw[hu]at a1
       have a1:a=c.jr:=gG.1 a1
       have bw:cont hp (some p) []=some a:=by rw[kx (p:=p) I ak,hu,a1];rfl
       rcases bX.1 oG with h1|h1
       ·obtain⟨aT,h1⟩:=xi h1
        have:=h [] (false::aT) a bw (by rw[tr ak];exact h1)
        cases this
       obtain⟨aT,h1⟩:=xi h1
       have:=h [] (true::aT) a bw (by rw[tr ak];exact h1)
       cases this
def SZ:∀{l m:aa Int},l.Nodup->(∀x∈l,x∈m)->l.length<=m.length
 |[],m,_,_=>uO _
 | x::l,m,aG,h=>by
   obtain⟨h1,ad⟩:=nm.1 aG;have al:=h x (by simp);have:=SZ (m:=m.erase x) ad λy hy=>(P8 λe=>h1 (by rw[<-e];exact hy)).2 (h y (by simp[hy]));rw[PO al]at this;have hp:=PW al;simp only[List.length_cons];omega
def abX(v:aX)(n:Int):bF (CC v n) (λ_=>True):=by
 unfold CC;exact .cond (λ_=>.ret q5) λ_=>.cond (λ_=>.eq I (.ret q5)) λ_=>.eq I (.eq I (.ret q5))
def Mi{hp:aE Cell}{t:Nat}{c:ga}(ak:fl hp t=some c):∀(d f:Nat) (r:Ref) (aI:aX) (cy:Int) (hN:aa eu),d<f->(∀aT p,cA hp r aT=some p->aT.length<d)->(∀aT p,cA hp r aT=some p->∃c,cv hp p=some c)->hN.length+(kk hp d r).length<=20000->
 bF (wu f hp (some t) r aI cy hN) (λo=>o.length=hN.length+(kk hp d r).length)
 |d,0,r,aI,cy,hN,aU,_,_,_=>by omega
 |0,f+1,none,aI,cy,hN,aU,hd,aC,ao=>⟨hN,rfl,rfl⟩
 |0,f+1,some p,aI,cy,hN,aU,hd,aC,ao=>by have:=hd [] p I;simp at this
 |d+1,f+1,none,aI,cy,hN,aU,hd,aC,ao=>⟨hN,rfl,rfl⟩
 | d+1,f+1,some p,aI,cy,hN,aU,hd,aC,ao=>by
   obtain⟨e,he⟩:=aC [] p I;rw[HP he]at ao⊢;simp only[fB]at ao⊢;have rP:∀b,(∀aT q,cA hp (b9 e.cX (e0 b)) aT=some q->aT.length<d)∧∀aT q,cA hp (b9 e.cX (e0 b)) aT=some q->∃c,cv hp q=some c:=λb=>⟨λaT q hq=>by
    have:=hd (b::aT) q (by rw[hn he];exact hq);simp at this;omega,λaT q hq=>aC (b::aT) q (by rw[hn he];exact hq)⟩
   show bF (cond (some p:Ref).isNone (some hN) _) _;refine .cond (λak=>by cases ak) λ_=>?_;refine .bind (P:=λy=>y.length=hN.length+(bif e.fx then [e.jr]else []).length) ?_ λan bs=>?_
   ·unfold FP;refine .eq I (.eq he ?_);cases hu:e.fx with
    | true=>
      rw[hu]at ao
      simp only[cond_true,List.length_singleton]at ao
      refine .eq (a:=hN++[{b3:=aI,xd:=cy,b2:=e.jr}]) ?_ (.ret (by simp))
      show(fv 32 hN _).bind _=_
      rw[iU _ _ (by simp;omega) (by omega)];rfl
    |false=>exact .eq I (.ret (by simp))
   refine .eq I (.eq he (.bind (Mi ak d f _ aI (bz (cy+1)) an (by omega) (rP false).1 (rP false).2 (by rw[bs];show _+_+(kk hp d (b9 e.cX 0)).length<=_;omega)) λaH b5=>?_));have b5:aH.length=an.length+(kk hp d (b9 e.cX 0)).length:=b5;refine .eq I (.eq I (.eq ak (.bind (abX _ _) λbI _=>.eq I (.bind (Mi ak d f _ _ (bz (cy+1)) aH (by omega) (rP true).1 (rP true).2 (by rw[b5,bs];show _+_+_+(kk hp d (b9 e.cX 1)).length<=_;omega)) λcS iw=>.ret ?_))));have iw:cS.length=aH.length+(kk hp d (b9 e.cX 1)).length:=iw;rw[iw,b5,bs];omega
def aeR{hp:aE Cell}{t:Nat}{g:aa Bool->av Int}(h:jn hp t g)(aw:∀aT cs id,g aT=some id->g cs=some id->aT=cs)(m:aa Int)(hm:∀aT id,g aT=some id->id∈m)(ao:m.length<=20000):bF (zq hp (some t)) (λr=>r=0->∀aT,g aT=none):=by
 obtain⟨c,ak,hb,bq,bu⟩:=h.ok;have aG:(kk hp 33 c.ek).Nodup:=Sb λaT cs id h1 ad=>aw aT cs id (by rw[<-bu];exact h1) (by rw[<-bu];exact ad);have hle:(kk hp 33 c.ek).length<=m.length:=SZ aG λx al=>by
  obtain⟨aT,k4⟩:=xi al;exact hm aT x (by rw[<-bu];exact k4)
 unfold zq GM FA;refine .bind (P:=λy=>y.length=(kk hp 33 c.ek).length) (.bind (P:=λy=>y.length=(kk hp 33 c.ek).length) (.bind (P:=λy=>y.length=(kk hp 33 c.ek).length) (.cond (λ_=>.eq I (.eq ak ((show bF (JZ hp (some t) c.ek default 0 []) _ from Mi ak 33 dW c.ek default 0 [] (by unfold dW;omega) (λaT p hp=>by have:=bq.dep aT p hp;omega) bq.reads (by simp;omega)).bind λy hy=>.ret (by simpa using hy)))) λak=>by cases ak) λy hy=>.ret hy) λy hy=>.ret hy) λy hy=>.ret λbw aT=>?_;have bw:(kk hp 33 c.ek).length=0:=by rw[<-hy];have:(y.length:Int)=0:=bw;omega
 cases al3:g aT with
 |none=>rfl
 | some id=>
   have O2:cont hp c.ek aT=some id:=by rw[bu];exact al3
   have hlen:aT.length<33:=by
    cases aU:cA hp c.ek aT with
    |none=>rw[lf aU]at O2;cases O2
    |some p=>have:=bq.dep aT p aU;omega
   have:=SY hlen O2
   rw[Ft bw]at this;cases this
def acB(x:dH)(n:Int)(ao:x.cK.length<=1000):bF (FN x n) (λr=>(r= -1∧iX x.cK n=false)∨∃i:Nat,i<x.cK.length∧r=i∧(aF x.cK i).ct=n∧iX x.cK n=true∧∀j,j<i->(aF x.cK j).ct≠n):=Vb x n ao
def adP{l:aa aJ}{n:Int}{i:Nat}(aG:l.Pairwise λa c=>a.ct≠c.ct)(aw:i<l.length)(h:(aF l i).ct=n):
 l.take i++l.drop (i+1)=l.filter (λc=>c.ct !=n):=by
 rw[e2 _ aw]at h
 have Xr:l=l.take i++l[i]::l.drop (i+1):=by rw[JL,fw]
 rw[Xr,FC]at aG
 obtain⟨h1,ad,ay⟩:=aG
 obtain⟨aN,a6⟩:=l6.1 ad
 conv=>rhs;rw[Xr]
 rw[td,wo (by simp[h])]
 congr 1
 ·exact(wx.2 λc ak=>by have:=ay c ak l[i] j8;rw[h]at this;simpa using this).symm
 exact(wx.2 λc ak=>by have:=aN c ak;rw[h]at this;simp;exact λe=>this e.symm).symm
def lZ.filter{s:aR}{k:Nat}{l:aa aJ}(h:lZ s k l)(q:aJ->Bool):lZ s k (l.filter q)where
 ok i aw:=h.ok i (sd.1 aw).1
 num:=h.num.sublist Qd
 len:=oQ (Bq _ _) h.len
def abY{s:aR}{k:Nat}{l:aa aJ}(ao:lZ s k l)(n:Int):
 Bu (tO s k l) n=some (iX l n,tO s k (l.filter λc=>c.ct !=n)):=by
 refine bF.get ?_
 unfold Bu
 obtain⟨iR,eS⟩:=ao.hi
 refine(acB (tO s k l) n (by show(hi _ l).length<=1000;omega)).bind λan h1=>?_
 rcases h1 with⟨rfl,ad⟩|⟨j,ad,rfl,ay,aN,a6⟩
 ·have k2:iX l n=false:=by rw[<-ad];exact Hp.symm
  refine .cond (λ_=>.ret ?_) λak=>by simp at ak
  rw[k2,wx.2 λc ak=>by simpa using Tp k2 c ak]
 have A3:iX l n=true:=by rw[<-aN];exact Hp.symm
 refine .cond (λak=>by simp at ak;omega) λ_=>?_
 have aD:j<(hi (h0 s k) l).length:=ad
 refine .eq (a:=hi (h0 s k) (l.filter λc=>c.ct !=n)) ?_ (.ret ?_)
 ·show DD (hi (h0 s k) l) _ _=_
  unfold DD
  rw[gY (by omega),bm ⟨by omega,by omega,by omega⟩]
  have OF:(hi (h0 s k) l).Pairwise λa c=>a.ct≠c.ct:=((Mc l).symm.pairwise_iff λch=>λe=>ch e.symm).1 ao.num
  rw[<-abQ (HN s k) ao.OT,<-adP OF aD ay]
  simp
 rw[A3];rfl
def hY(l:aa aJ)(e:bD):aa aJ:=l.filter λc=> !ie c.bj e
def pC{l:aa aJ}{e:bD}{c:aJ}:c∈hY l e↔c∈l∧ie c.bj e=false:=by
 unfold hY;rw[sd];simp
def jf.hY{s:aR}{k:Nat}{l:aa aJ}(h:jf s k l)(e:bD):jf s k (Go.Proofs.YtdadopcnkghbaaaGreat.hY l e):=
 ⟨h.ok.filter _,h.key.sublist Qd⟩
def Hc{s:aR}{k:Nat}{l:aa aJ}(h:jf s k l){e:bD}{i:aJ}(aw:i∈l)(hk:ie i.bj e=true):hY l e=l.filter λc=>c.ct !=i.ct:=by
 unfold hY;refine List.filter_congr λc ak=>?_;by_cases az:c=i
 ·rw[az,hk];simp
 have h1:ie c.bj e=false:=by
  rw[y1];intro ad;exact az (h.uniq ak aw (SO ad (by rw[Md];exact hk)))
 have ad:c.ct≠i.ct:=λad=>az (h.ok.uniq ak aw ad);rw[h1];simp[ad]
def akj{s:aR}(h:cQ s){hp:aE Cell}{q:Nat}{l:aa aJ}{own:Nat->Prop}(hq:z8 s hp q l own)(ao:jf s 0 l){i:aJ}(aw:i∈l):
 bF (BS hp ⟨some q⟩ i) (λhp'=>z8 s hp' q (hY l i.bj) own∧ei hp hp' own):=by
 obtain⟨m,em,h1,ad,ay,aN,a6,iz⟩:=hq.ok
 have gv:=(ao.ok.ok i aw).fA
 have bu:c4 em (eJ i.bj)=some i.ct:=(a6 _ _).2 ⟨i,aw,rfl,rfl⟩
 unfold BS F5 zl
 refine .eq (Hr (gv.ID h (by decide)).1) ?_
 refine .eq (a:=(true,bY hp m (Cell.o2 (hv em (eJ i.bj))))) ?_ (.ret ?_)
 ·show((mi hp q).bind _).bind _=_
  rw[h1]
  show((lK hp m).bind _).bind _=_
  rw[ad]
  show cond (!(c4 em (eJ i.bj)).isSome) _ _=_
  rw[bu]
  show(mi hp q).bind _=_
  rw[h1]
  show(lK hp m).bind _=_
  rw[ad];rfl
 have yp:q≠m:=λe=>by
  subst e;have:=Da h1;rw[so ad]at this;cases this
 refine⟨⟨m,_,by rw[Lj (k8 yp.symm)];exact h1,SR (so ad),ay,aN,λcF n=>?_,iz.del⟩,.up aN⟩
 rw[zI iz]
 by_cases gx:cF=eJ i.bj
 ·rw[bm gx]
  refine⟨λe=>(by cases e),λ⟨c,ak,bh,cH⟩=>?_⟩
  obtain⟨g1,g2⟩:=pC.1 ak
  rw[(ES h (ao.ok.ok c g1).fA gv).2 (bh.trans gx)]at g2;cases g2
 rw[bk gx,a6]
 constructor
 ·rintro ⟨c,ak,bh,cH⟩
  refine⟨c,pC.2 ⟨ak,?_⟩,bh,cH⟩
  rw[y1];intro ed
  exact gx (by rw[<-bh];exact(ES h (ao.ok.ok c ak).fA gv).1 ed)
 rintro ⟨c,ak,bh⟩
 exact⟨c,(pC.1 ak).1,bh⟩
def akk{s:aR}(h:cQ s){hp:aE Cell}{m:Nat}{l:aa aJ}{own:Nat->Prop}(hq:ny s hp m l own)(ao:jf s 1 l){i:aJ}(aw:i∈l):
 bF (BE hp ⟨0,32,⟨some m⟩⟩ i) (λhp'=>ny s hp' m (hY l i.bj) own∧ei hp hp' own):=by
 obtain⟨em,mv,ad,ay,aN,a6,iz⟩:=hq.ok
 have gv:=(ao.ok.ok i aw).fA
 have gL:=DN h gv
 have bq:∃t,c4 em (gS (eJ i.bj))=some (some t):=by
  cases bu:c4 em (gS (eJ i.bj))with
  |none=>exact absurd I (aN _ bu i aw)
  |some r=>obtain⟨t,g,rfl,_⟩:=ay _ _ bu;exact⟨t,rfl⟩
 obtain⟨t,bq⟩:=bq
 obtain⟨e1,g,e,g1,g2,g3⟩:=ay _ _ bq
 cases e
 obtain⟨n,aG⟩:=uH gL.pre.1
 have DO:n<=32:=by have:=gL.pre.2;omega
 have vp:=LQ gL
 have hp':dR (aF i.bj.cm 0).b3 n=j2 i.bj:=by unfold j2;rw[aG];rfl
 have al4:g (j2 i.bj)=some i.ct:=(g3 _ _).2 ⟨i,aw,rfl,rfl,rfl⟩
 have Xs:∀c∈l,gS (eJ c.bj)=gS (eJ i.bj)->(ie c.bj i.bj=false↔j2 c.bj≠j2 i.bj):=λc ak al=>by
  rw[y1,ne_eq,A4 h (ao.ok.ok c ak).fA gv];exact⟨λh1 ad=>h1 ⟨al,ad⟩,λh1 ad=>h1 ad.2⟩
 have lu:∀c∈l,gS (eJ c.bj)≠gS (eJ i.bj)->ie c.bj i.bj=false:=λc ak al=>by
  rw[y1,ne_eq,A4 h (ao.ok.ok c ak).fA gv];exact λh1=>al h1.1
 unfold BE
 refine .eq (Me h gv _) (.eq I (.eq mv (.eq I ?_)))
 simp only[bq]
 rw[aG]at vp⊢
 refine(show bF (zi hp (some t) (aF i.bj.cm 0).b3 (n:Int)) _ from abW g1 DO vp (by rw[hp'];exact al4)).bind λaH aC=>?_
 obtain⟨_,iR,eS,ko⟩:=aC
 rw[hp']at iR
 obtain⟨anA,cw⟩:=aH
 simp only at iR eS ko⊢
 have OW:∀q,Own hp t q->q≠m:=λq OX e=>by
  have:=nx mv;rw[<-e]at this;rcases g1.HO OX with⟨c,ak⟩|⟨c,ak⟩ <;> rw[ak]at this <;> cases this
 have lA:pat cw m=pat hp m:=eS.rest m (il (nx mv)) λhq=>OW m hq I
 have N3:ka cw m=some em:=by rw[GY lA];exact mv
 have DP:∀aT uw,(if aT=j2 i.bj then none else g aT)=some uw↔∃c∈hY l i.bj,gS (eJ c.bj)=gS (eJ i.bj)∧j2 c.bj=aT∧c.ct=uw:=λaT uw=>by
  by_cases k4:aT=j2 i.bj
  ·rw[bm k4];refine⟨λe=>(by cases e),λ⟨c,ak,bh,cH,_⟩=>?_⟩;obtain⟨bK,a2⟩:=pC.1 ak;exact absurd (cH.trans k4) ((Xs c bK bh).1 a2)
  rw[bk k4,g3];constructor
  ·rintro ⟨c,ak,bh,cH,ed⟩;exact⟨c,pC.2 ⟨ak,(Xs c ak bh).2 λe=>k4 (cH.symm.trans e)⟩,bh,cH,ed⟩
  rintro ⟨c,ak,bh⟩;exact⟨c,(pC.1 ak).1,bh⟩
 have sw:∀cF e1,cF≠gS (eJ i.bj)->c4 em cF=some (some e1)->∃dQ,jn hp e1 dQ∧jn cw e1 dQ∧(∀q,Own hp e1 q->own q)∧(∀q,Own cw e1 q↔Own hp e1 q)∧∀aT n,dQ aT=some n↔∃c∈hY l i.bj,gS (eJ c.bj)=cF∧j2 c.bj=aT∧c.ct=n:=λcF e1 cR aC=>by
  obtain⟨alT,dQ,e,bK,a2,a3⟩:=ay cF _ aC;cases e;obtain⟨cZ,dA⟩:=bK.congr (hp':=cw) λq hq=>eS.rest q (bK.xu hq) λoA=>a6 _ _ _ _ bq aC cR.symm q oA hq;refine⟨dQ,bK,cZ,a2,dA,λaT n=>?_⟩;rw[a3];constructor
  ·rintro ⟨c,ak,bh,cH⟩;exact⟨c,pC.2 ⟨ak,lu c ak (by rw[bh];exact cR)⟩,bh,cH⟩
  rintro ⟨c,ak,bh⟩;exact⟨c,(pC.1 ak).1,bh⟩
 have dI:ei hp cw own:=⟨eS.keys,λq hq eP=>eS.rest q hq λoA=>eP (g2 q oA)⟩
 have cb:ny s cw m (hY l i.bj) own:=by
  refine⟨em,N3,ad,λcF l1 iB=>?_,λcF gx c ak=>aN cF gx c (pC.1 ak).1,λcF j3 t1 t2 jx kj cR q iN pa=>?_,iz⟩
  ·by_cases gx:cF=gS (eJ i.bj)
   ·subst gx;rw[bq]at iB;cases iB;exact⟨t,_,rfl,iR,λq hq=>g2 q (ko q hq),DP⟩
   obtain⟨e1,dQ,e,_⟩:=ay cF l1 iB;subst e;obtain⟨yq,bK,a2,a3,a4,a5⟩:=sw cF e1 gx iB;exact⟨e1,yq,rfl,a2,λq hq=>a3 q ((a4 q).1 hq),a5⟩
  have fV:∀cF t1,c4 em cF=some (some t1)->∀q,Own cw t1 q->Own hp t1 q:=λcF t1 jx q iN=>by
   by_cases az:cF=gS (eJ i.bj)
   ·subst az;rw[bq]at jx;cases jx;exact ko q iN
   obtain⟨_,_,_,_,a4,_⟩:=sw cF t1 az jx;exact(a4 q).1 iN
  exact a6 _ _ _ _ jx kj cR q (fV cF t1 jx q iN) (fV j3 t2 kj q pa)
 refine .eq N3 (.eq I ?_)
 simp only[bq]
 refine(show bF (zq cw (some t)) _ from aeR iR (λaT cs id h1 ad=>?_) (l.map (·.ct)) (λaT id h1=>?_) (by rw[jO];have:=ao.ok.len;omega)).bind λbf bh=>?_
 ·obtain⟨c,ak,_,cZ,dA⟩:=(DP _ _).1 h1
  obtain⟨d,hd,_,d1,d2⟩:=(DP _ _).1 ad
  have:=ao.ok.uniq (pC.1 ak).1 (pC.1 hd).1 (dA.trans d2.symm)
  rw[<-cZ,<-d1,this]
 ·obtain⟨c,ak,_,cZ,dA⟩:=(DP _ _).1 h1
  exact gH.2 ⟨c,(pC.1 ak).1,dA⟩
 refine .bind (P:=λhp'=>ny s hp' m (hY l i.bj) own∧ei hp hp' own) (.cond (λb4=>.eq I (.ret ?_)) λ_=>.ret ⟨cb,dI⟩) λm1 b7=>.ret b7
 have bh:=bh (by simpa using b4)
 have AE:=nx N3
 have N4:∀e1 dQ,jn cw e1 dQ->jn (bY cw m (Cell.ml (hv em (gS (eJ i.bj))))) e1 dQ∧∀q,Own (bY cw m (Cell.ml (hv em (gS (eJ i.bj))))) e1 q↔Own cw e1 q:=λe1 dQ yo=>yo.congr λq qJ=>k8 λe=>by
  rw[e]at AE;rcases yo.HO qJ with⟨c,ak⟩|⟨c,ak⟩ <;> rw[ak]at AE <;> cases AE
 refine⟨⟨_,SS AE,ad,λcF l1 iB=>?_,λcF gx c ak=>?_,λcF j3 t1 t2 jx kj cR q iN pa=>?_,iz.del⟩,dI.trans (ei.up ad) λq _ hq=>hq⟩
 ·rw[zI iz]at iB
  split at iB
  ·cases iB
  rename_i gx
  obtain⟨e1,dQ,e,_⟩:=ay cF l1 iB
  subst e
  obtain⟨yq,bK,a2,a3,a4,a5⟩:=sw cF e1 gx iB
  obtain⟨cZ,dA⟩:=N4 e1 yq a2
  exact⟨e1,yq,rfl,cZ,λq hq=>a3 q ((a4 q).1 ((dA q).1 hq)),a5⟩
 ·rw[zI iz]at gx
  split at gx
  ·rename_i e
   intro al
   have:=(DP _ _).2 ⟨c,ak,al.trans e,rfl,rfl⟩
   rw[bh]at this;cases this
  exact aN cF gx c (pC.1 ak).1
 rw[zI iz]at jx kj
 split at jx
 ·cases jx
 split at kj
 ·cases kj
 rename_i az a8
 obtain⟨alO,bK,a2,a3,a4,_⟩:=sw cF t1 az jx
 obtain⟨alP,cZ,dA,gF,Px,_⟩:=sw j3 t2 a8 kj
 exact a6 _ _ _ _ jx kj cR q ((a4 q).1 (((N4 t1 _ a2).2 q).1 iN)) ((Px q).1 (((N4 t2 _ dA).2 q).1 pa))
def srem{s:aR}{k:Nat}{hp:aE Cell}{q:Nat}{l:aa aJ}{own:Nat->Prop}(hq:Aa s k hp q l own)(ao:jf s k l){i:aJ}(aw:i∈l):
 cE (BU hp ⟨some q⟩ i) (λhp'=>Aa s k hp' q (hY l i.bj) own∧ei hp hp' own):=by
 obtain⟨key,cap,h1,ad⟩:=hq.ok
 unfold BU
 refine .eq I (.eq h1 (.eq (abY ao.ok _) (.any λau=>.eq I (.ret ?_))))
 rw[Hc ao aw (Hq _)]
 exact⟨⟨au.1,au.2,SU (xp h1),ad⟩,.up ad⟩
def akl{s:aR}(h:cQ s){k:Nat}{hp:aE Cell}{f:gT}{l:aa aJ}{own:Nat->Prop}(hq:re s k hp f l own)(ao:jf s k l){i:aJ}(aw:i∈l):
 cE (Ke hp f i) (λhp'=>re s k hp' f (hY l i.bj) own∧ei hp hp' own):=by
 rcases hq with⟨rfl,q,rfl,hq⟩|⟨rfl,m,rfl,hq⟩|⟨dI,q,rfl,hq⟩
 ·exact cE.of ((akj h hq ao aw).mono λhp' aC=>⟨.inl ⟨rfl,q,rfl,aC.1⟩,aC.2⟩)
 ·exact cE.of ((akk h hq ao aw).mono λhp' aC=>⟨.inr (.inl ⟨rfl,m,rfl,aC.1⟩),aC.2⟩)
 exact(srem hq ao aw).mono λhp' aC=>⟨.inr (.inr ⟨dI,q,rfl,aC.1⟩),aC.2⟩
def Rt{α β:Type}[DecidableEq α]:∀{l:aa (α×β)} {x:α},nh l->hv l x=l.filter λa=>decide (a.1≠x)
 |[],_,_=>rfl
 | (k,w)::r,x,h=>by
   obtain⟨h1,ad⟩:=l6.1 h;unfold hv;by_cases e:x=k
   ·rw[bm e,wo (by simp[e])];exact(wx.2 λa a1=>by simpa using λe'=>h1 a a1 (by rw[<-e,e'])).symm
   rw[bk e,yR (by simpa using λe'=>e e'.symm),Rt ad]
def tX.jJ{s:aR}{k:Nat}{em:aa (Int×aJ)}{l:aa aJ}(h:tX em l)(ao:lZ s k l):nh em:=by
 refine(h.pairwise_iff λch=>w0 ch).2 ?_;rw[BF];exact ao.num.imp λch=>ch
def abZ{s:aR}(h:cQ s){k:Nat}(hk:k<4){hp:aE Cell}{p:Nat}{l:aa aJ}{own:Nat->Prop}(al:ke s k hp p l own){e:bD}(he:jq s k e):
 cE (B5 hp (some p) e) (λr=>(r.1,r.2.1)=yn (eK l e)∧ke s k r.2.2 p (hY l e) own∧ei hp r.2.2 own):=by
 obtain⟨f,m,em,h1,ad,ay,aN,a6,bh⟩:=al.cell
 have hm:=q3 ad
 have hp':=xn h1
 have lA:p≠m:=λe=>by rw[e,hm]at hp';cases hp'
 unfold B5
 refine .eq (Mf h hk al he) ?_
 refine .bind (P:=λm1=>ke s k m1 p (hY l e) own∧ei hp m1 own) (.cond (λak=>?_) λak=>.ret ?_) λm1 b7=>.ret ⟨rfl,b7⟩
 ·cases aU:eK l e with
  |none=>rw[aU]at ak;cases ak
  | some i=>
    obtain⟨aw,vN⟩:=xh aU
    have O3:hY l i.bj=hY l e:=by
     rw[Hc al.l5 aw (Hq _),Hc al.l5 aw vN]
    refine .eq I (.eq h1 (.bind (akl h bh al.l5 aw) λcw aC=>?_))
    obtain⟨iR,eS⟩:=aC
    have iR:re s k cw f (hY l i.bj) (λq=>own q∧q≠m∧q≠p):=iR
    rw[O3]at iR
    show cE (ah.bind (ah.of (hG cw p)) λc2=>ah.bind (ah.of c2.nq.p) λb6=>ah.bind (ah.of (kU cw b6)) λdM=>ah.bind (ah.of (some (bY cw b6 (Cell.kz (hv dM i.ct))))) λbH=>ah.ret bH) _
    have bK:pat cw p=some (.oc ⟨pz k,(Jv s k:Int),f,⟨some m⟩⟩):=by rw[eS.rest p (il hp') (λhq=>hq.2.2 I)];exact hp'
    have a2:pat cw m=some (.kz em):=by rw[eS.rest m (il hm) (λhq=>hq.2.1 I)];exact hm
    refine .eq (by unfold hG;rw[bK]) (.eq I (.eq (by unfold kU;rw[a2]) (.eq I (.ret ?_))))
    have al5:ei hp cw own:=⟨eS.keys,λq hq eP=>eS.rest q hq λh=>eP h.1⟩
    have vV:ei hp (bY cw m (Cell.kz (hv em i.ct))) own:=al5.trans (ei.up (own:=own) aN) λq _ hq=>hq
    refine⟨⟨al.l5.hY e,⟨f,m,_,by unfold hG;rw[k8 lA.symm,bK],acA a2,ay,aN,?_,iR.congr (λq _ hq=>hq) λq hq=>k8 hq.2.1.symm⟩,λq hq=>vV.keys q (al.oH q hq)⟩,vV⟩
    unfold tX
    rw[Rt (a6.jJ al.l5.ok),Hc al.l5 aw vN]
    refine(a6.filter _).trans ?_
    rw[List.filter_map]
    have:((λa:Int×aJ=>decide (a.1≠i.ct)) ∘ λc:aJ=>(c.ct,c))=λc=>c.ct !=i.ct:=by
     funext c;show decide (c.ct≠i.ct)=_;by_cases e:c.ct=i.ct <;> simp[e]
    rw[this]
 have aU:eK l e=none:=by
  cases aU:eK l e with
  |none=>rfl
  |some i=>rw[aU]at ak;cases ak
 have:hY l e=l:=by
  unfold hY;exact wx.2 λc ak=>by rw[u2 aU c ak];rfl
 rw[this]
 exact⟨al,.refl⟩
def CJ{hp hp':aE Cell}{p:Nat}(h:pat hp' p=pat hp p):hW hp' p=hW hp p:=by unfold hW;rw[h]
def CK{hp hp':aE Cell}{p:Nat}(h:pat hp' p=pat hp p):kT hp' p=kT hp p:=by unfold kT;rw[h]
def acC{hp:aE Cell}{p:Nat}{k:Cell}{x:jQ}(h:pat hp p=some k):hW (bY hp p (.o4 x)) p=some x:=by unfold hW;rw[qi h]
def acD{hp:aE Cell}{p:Nat}{k:Cell}{x:aa (Int×Ref)}(h:pat hp p=some k):kT (bY hp p (.qu x)) p=some x:=by unfold kT;rw[qi h]
structure qj(s:aR)(hp:aE Cell)(p m:Nat)(eC:List (Int×Ref))(n:Nat)(ls:Nat->List aJ)(own:Nat->Nat->Prop):Prop where
 has:∀k,k<n->∃q,c4 eC ((k:Int)+1)=some (some q)∧ke s k hp q (ls k) (own k)
 no:∀x:Int,x<1∨(n:Int)<x->c4 eC x=none
 EX:∀k k',k<n->k'<n->k≠k'->∀q,own k q->¬own k' q
 out:∀k,k<n->¬own k p∧¬own k m
def qj.congr{s:aR}{hp hp':aE Cell}{p m:Nat}{eC:aa (Int×Ref)}{n:Nat}{ls:Nat->aa aJ}{own:Nat->Nat->Prop}(h:qj s hp p m eC n ls own)(hk:∀q,q∈c6 hp->q∈c6 hp')(a1:∀k,k<n->∀q,own k q->pat hp' q=pat hp q):qj s hp' p m eC n ls own:=
 ⟨λk iz=>by obtain⟨q,h1,ad⟩:=h.has k iz;exact⟨q,h1,ad.congr hk (a1 k iz)⟩,h.no,h.EX,h.out⟩
structure vC(s:aR)(hp:aE Cell)(p:Nat)(ls:Nat->List aJ)(next:Int):Prop where
 cell:∃m eC own,hW hp p=some ⟨s,⟨some m⟩,next⟩∧kT hp m=some eC∧qj s hp p m eC 4 ls own
def kf(ls:Nat->aa aJ)(k:Nat)(l:aa aJ):Nat->aa aJ:=λj=>if j=k then l else ls j
def LS{s:aR}{hp:aE Cell}{p:Nat}{ls:Nat->aa aJ}{next:Int}(h:vC s hp p ls next){k:Nat}(hk:k<4):∃q own,qV hp (some p) ((k:Int)+1)=some (some q)∧ke s k hp q (ls k) own:=by
 obtain⟨m,eC,own,h1,ad,ay⟩:=h.cell;obtain⟨q,aN,a6⟩:=ay.has k hk;refine⟨q,own k,?_,a6⟩;refine bF.get ?_;unfold qV;refine .cond (λak=>by cases ak) λ_=>.eq rfl (.eq h1 (.eq rfl (.eq ad (.eq rfl (.ret ?_)))));rw[aN];rfl
def adQ{s:aR}(hs:cQ s){hp:aE Cell}{p:Nat}{ls:Nat->aa aJ}{next:Int}(h:vC s hp p ls next){k:Nat}(hk:k<4){e:bD}(he:jq s k e):wO hp (some p) e=some (yn (eK (ls k) e)):=by
 obtain⟨q,own,h1,ad⟩:=LS h hk;refine bF.get ?_;unfold wO;rw[he.k3];exact .eq h1 (.eq (Mf hs hk ad he) (.ret I))
def adR{s:aR}(hs:cQ s){hp:aE Cell}{p:Nat}{ls:Nat->aa aJ}{next:Int}(h:vC s hp p ls next){k:Nat}(hk:k<4):Cl hp (some p) ((k:Int)+1)=some (aF s.bM k).e3:=by
 obtain⟨m,eC,own,h1,ad,ay⟩:=h.cell;refine bF.get ?_;unfold Cl;refine .eq I (.eq h1 ((Li hs hk).bind λan az=>?_));subst az;exact .idx I (by rw[hs.oo];exact hk) (.ret I)
def adS{s:aR}{hp:aE Cell}{p:Nat}{ls:Nat->aa aJ}{next:Int}(h:vC s hp p ls next):Ci hp (some p)=some next:=by
 obtain⟨m,eC,own,h1,ad,ay⟩:=h.cell;refine bF.get ?_;unfold Ci;exact .cond (λak=>by cases ak) λ_=>.eq rfl (.eq h1 (.ret rfl))
def adT(o:av aJ):(yn o).2=o.isSome:=by cases o <;> rfl
def qj.change{s:aR}{hp hp':aE Cell}{p:Nat}{ls:Nat->aa aJ}{next:Int}{m:Nat}{eC:aa (Int×Ref)}{own:Nat->Nat->Prop}(h1:hW hp p=some ⟨s,⟨some m⟩,next⟩)(ad:kT hp m=some eC)(ay:qj s hp p m eC 4 ls own){k:Nat}(hk:k<4){q:Nat}(hq:c4 eC ((k:Int)+1)=some (some q)){l:aa aJ}{own':Nat->Prop}
 (al:ke s k hp' q l own') (aS:∀x,own' x->own k x∨x∉c6 hp) (pf:ei hp hp' (own k)):hW hp' p=some ⟨s,⟨some m⟩,next⟩∧kT hp' m=some eC∧qj s hp' p m eC 4 (kf ls k l) (λj=>if j=k then own' else own j):=by
 have ki:=il (tF h1)
 have gL:=il (u9 ad)
 have bp:=(ay.out k hk).1
 have b6:=(ay.out k hk).2
 refine⟨by rw[CJ (pf.rest p ki bp)];exact h1,by rw[CK (pf.rest m gL b6)];exact ad,⟨λj aD=>?_,ay.no,λj uD aD ye cR x gM lX=>?_,λj aD=>?_⟩⟩
 ·by_cases e:j=k
  ·subst e
   refine⟨q,hq,?_⟩
   unfold kf
   rw[bm I,bm I];exact al
  obtain⟨mz,g1,g2⟩:=ay.has j aD
  refine⟨mz,g1,?_⟩
  unfold kf
  rw[bk e,bk e]
  exact g2.qs pf λx al=>ay.EX j k aD hk e x al
 ·have key:∀j,j<4->j≠k->own' x->¬own j x:=λj aD cR aN a6=>by
   obtain⟨mz,g1,g2⟩:=ay.has j aD;rcases aS x aN with bh|bh
   ·exact ay.EX j k aD hk cR x a6 bh
   exact bh (g2.oH x a6)
  by_cases e:j=k
  ·rw[bm e]at gM
   rw[bk (λe'=>cR (e.trans e'.symm))]at lX
   exact key uD ye (λe'=>cR (e.trans e'.symm)) gM lX
  rw[bk e]at gM
  by_cases e':uD=k
  ·rw[bm e']at lX;exact key j aD e lX gM
  rw[bk e']at lX;exact ay.EX j uD aD ye cR x gM lX
 by_cases e:j=k
 ·rw[bm e]
  refine⟨λh=>?_,λh=>?_⟩
  ·rcases aS p h with aN|aN
   ·exact bp aN
   exact aN ki
  rcases aS m h with aN|aN
  ·exact b6 aN
  exact aN gL
 rw[bk e];exact ay.out j aD
def aeS{s:aR}(hs:cQ s)(hp:aE Cell):cE (CI hp s) (λr=> ∃p,r.1=some p∧vC s r.2 p (λ_=>[]) 1):=by
 unfold CI;refine .mk λm hm=>.eq I (.mk λp bH=>?_);simp only at bH⊢;have lA:p≠m:=λe=>bH (by rw[e];exact j8);have uG:hW ((p,Cell.o4 ⟨s,⟨some m⟩,1⟩)::(m,Cell.qu [])::hp) p=some ⟨s,⟨some m⟩,1⟩:=by unfold hW;rw[jC,bm I]
 have d0:kT ((p,Cell.o4 ⟨s,⟨some m⟩,1⟩)::(m,Cell.qu [])::hp) m=some []:=by unfold kT;rw[jC,bk lA,jC,bm I]
 refine .eq uG ?_;simp only;refine .bind (P:=λaz=> ∃eC own,hW az.2.2 p=some ⟨s,⟨some m⟩,1⟩∧kT az.2.2 m=some eC∧qj s az.2.2 p m eC 4 (λ_=>[]) own)
  (cE.loop 4 (λi st=> ∃hp' eC own,st=((i:Int),hp')∧hW hp' p=some ⟨s,⟨some m⟩,1⟩∧kT hp' m=some eC∧qj s hp' p m eC i (λ_=>[]) own) (by omega) ⟨_,[],λ_ _=>False,rfl,uG,d0,⟨λk hk=>by omega,λ_ _=>rfl,λk k' hk=>by omega,λk hk=>by omega⟩⟩ (λi st aw cU=>?_) (λst cU=>?_)) λaz h1=>.ret ⟨p,rfl,?_⟩
 ·obtain⟨hp',eC,own,rfl,g1,g2,g3⟩:=cU;have vO:=tF g1;have Ey:=u9 g2;refine .cond (λ_=>.idx I (by rw[hs.oo];exact aw) (.eq g1 ?_)) λak=>by have:=hs.oo;simp at ak;omega
  rw[(hs.k3 aw).1];refine .bind (aeN hs aw hp') λan h1=>?_;obtain⟨q,e,al,hk⟩:=h1;obtain⟨al6,cw⟩:=an;simp only at e al hk;subst e;have aW:hW cw p=some ⟨s,⟨some m⟩,1⟩:=by rw[CJ (hk.rest p (il vO) id)];exact g1
  have bP:kT cw m=some eC:=by rw[CK (hk.rest m (il Ey) id)];exact g2
  have IE:=u9 bP;refine .eq (a:=()) (by unfold D7;rw[bm aW]) (.eq I (.eq bP (.eq I (.ret ?_))));have AE:m≠p:=λe=>by rw[e]at IE;rw[tF aW]at IE;cases IE
  have vP:∀x,x≠m->pat (bY cw m (Cell.qu (fm eC ((i:Int)+1) (some q)))) x=pat cw x:=λx al=>k8 al.symm;have hold:∀j,j<i->∀x,own j x->pat (bY cw m (Cell.qu (fm eC ((i:Int)+1) (some q)))) x=pat hp' x:=λj aD x al=>by
   obtain⟨mz,_,dA⟩:=g3.has j aD;rw[vP x λe=>(g3.out j aD).2 (e▸al)];exact hk.rest x (dA.oH x al) id
  have qw:∀x,mj A5 hp' cw x->x∉c6 hp':=λx al=>al.elim (λh=>h.elim) λh=>h.1;refine⟨_,fm eC ((i:Int)+1) (some q),λj=>if j=i then mj A5 hp' cw else own j,by simp only[gY (show i<2^62 by omega)],by rw[CJ (vP p AE.symm)];exact aW,acD IE,⟨λj aD=>?_,λx al=>?_,λj uD aD ye cR x gM lX=>?_,λj aD=>?_⟩⟩
  ·by_cases e:j=i
   ·subst e;refine⟨q,by rw[tp,bm I],?_⟩;rw[bm I];exact al.congr (λx al=>by rw[pD];exact al) λx gM=>vP x λe=>qw x gM (e▸il Ey)
   obtain⟨mz,cZ,dA⟩:=g3.has j (by omega);refine⟨mz,by rw[tp,bk (by omega)];exact cZ,?_⟩;rw[bk e];exact dA.congr (λx al=>by rw[pD];exact hk.keys x al) (hold j (by omega))
  ·rw[tp,bk (by omega)];exact g3.no x (by omega)
  ·have key:∀j,j<i->mj A5 hp' cw x->¬own j x:=λj aD h1 ad=>by
    obtain⟨mz,_,dA⟩:=g3.has j aD;exact qw x h1 (dA.oH x ad)
   by_cases e:j=i
   ·rw[bm e]at gM;rw[bk (λe'=>cR (e.trans e'.symm))]at lX;exact key uD (by omega) gM lX
   rw[bk e]at gM;by_cases e':uD=i
   ·rw[bm e']at lX;exact key j (by omega) lX gM
   rw[bk e']at lX;exact g3.EX j uD (by omega) (by omega) cR x gM lX
  by_cases e:j=i
  ·rw[bm e];exact⟨λh=>qw p h (il vO),λh=>qw m h (il Ey)⟩
  rw[bk e];exact g3.out j (by omega)
 ·obtain⟨hp',eC,own,rfl,g1,g2,g3⟩:=cU;refine .cond (λak=>by have:=hs.oo;simp at ak;omega) λ_=>.ret ⟨eC,own,g1,g2,g3⟩
 obtain⟨eC,own,bK,a2,a3⟩:=h1;exact⟨m,eC,own,bK,a2,a3⟩
def acE{l:aa aJ}{e:bD}{i:aJ}(h:eK l e=none)(aw:ie i.bj e=true):eK (l++[i]) e=some i:=by
 unfold eK at h⊢;rw[List.find?_append,h,Option.none_or];simp[aw]
def xb{ls:Nat->aa aJ}{k:Nat}{l:aa aJ}:kf ls k l k=l:=by unfold kf;rw[bm I]
def nv{ls:Nat->aa aJ}{k j:Nat}{l:aa aJ}(h:j≠k):kf ls k l j=ls j:=by unfold kf;rw[bk h]
def _root_.Gv.cE.next{β:Type}{n:Nat}{vis:aa Nat}{k:av Nat->ah β}{P:β->Prop}(h:∀j,yz n vis j->cE (k j) P):cE (ah.bind (ah.next n vis) k) P:=λQ hq j aD=>h j aD Q hq
def _root_.Gv.cE.tI{T:Type}{xs:aa T}{F:T->T->av Int}{c:T->T->Int}(ak:vR c)(ao:xs.length<4611686018427387904)(kp:∀a∈xs,∀b∈xs,F a b=some (c a b)):cE (ah.tI xs F) (λr=>r.Perm xs∧r.Pairwise (λa b=>c a b<=0)):=λQ hq=>⟨c,ak,ao,kp,λys h1 ad=>hq ys ⟨h1,ad⟩⟩
structure Met(n:Nat)(vis:List Nat):Prop where
 one:vis.Nodup
 lt:∀q∈vis,q<n
def Met.more{n:Nat}{vis:aa Nat}{q:Nat}(h:Met n vis)(hq:q<n∧q∉vis):Met n (vis++[q]):=
 ⟨by rw[nS];exact⟨h.one,by simp,λa a1 b hb e=>by rw[gG.1 hb]at e;exact hq.2 (e▸a1)⟩,λa a1=>by
  rcases bX.1 a1 with a1|a1
  ·exact h.lt a a1
  rw[gG.1 a1];exact hq.1⟩
def Met.perm{n:Nat}{vis:aa Nat}(h:Met n vis)(a1:∀j,j<n->j∈vis):vis.Perm (List.range n):=
 (PJ h.one List.nodup_range).2 λa=>⟨λh1=>nn.2 (h.lt a h1),λh1=>a1 a (nn.1 h1)⟩
def Met.full{n:Nat}{vis:aa Nat}(h:Met n vis)(ao:vis.length=n){q:Nat}(hq:q<n):q∈vis:=by
 false_or_by_contra;rename_i eP;have h1:vis.Perm ((List.range n).filter λx=>decide (x∈vis)):=(PJ h.one (List.nodup_range.filter _)).2 λa=>by
  rw[sd,nn,fZ];exact⟨λh1=>⟨h.lt a h1,h1⟩,λh1=>h1.2⟩
 have ad:=h1.length_eq;have ay:((List.range n).filter λx=>decide (x∈vis)).length<(List.range n).length:=List.length_filter_lt_length_iff_exists.2 ⟨q,nn.2 hq,by simpa using eP⟩;rw[wD]at ay;omega
def Sc{α:Type}[Inhabited α](l:aa α):(List.range l.length).map (λq=>aF l q)=l:=by
 apply BP
 ·simp
 intro i h1 ad;simp only[y4,FJ];rw[e2 _ ad]
def O4(a c:aJ):Int:=Py a.bj c.bj
def T3:k5 O4:=ahu.on λi:aJ=>i.bj
def ahy{s:aR}(h:cQ s){k:Nat}(hk:k<4){hp:aE Cell}{p:Nat}{l:aa aJ}{own:Nat->Prop}(al:ke s k hp p l own)(hlen:l.length<=900):
 cE (Cs hp (some p)) (λr=>r.2=hp∧r.1.Perm l∧r.1.Pairwise (λa b=>O4 a b<=0)):=by
 obtain⟨f,m,em,h1,ad,ay,aN,a6,bh⟩:=al.cell
 have ao:=al.l5.ok
 have sX:em.length=l.length:=by rw[a6.length_eq,jO]
 have Av:∀q,q<em.length->(aF em q).2∈l:=λq hq=>by
  have hm:aF em q∈em:=by rw[e2 _ hq];exact mH _
  obtain⟨i,aw,e⟩:=gH.1 (a6.mem_iff.1 hm);rw[<-e];exact aw
 have vw:∀vis,Met em.length vis->(∀j,j<em.length->j∈vis)->(vis.map λq=>(aF em q).2).Perm l:=λvis a7 a1=>by
  refine((a7.perm a1).map _).trans ?_;have:(List.range em.length).map (λq=>(aF em q).2)=em.map (·.2):=by
   rw[show(List.range em.length).map (λq=>(aF em q).2)=((List.range em.length).map (λq=>aF em q)).map (·.2) by rw[uN];rfl,Sc]
  rw[this];refine(a6.map (·.2)).trans ?_;rw[uN,show((λx:Int×aJ=>x.2) ∘ λi:aJ=>(i.ct,i))=id from rfl,List.map_id]
 unfold Cs
 refine .cond (λak=>by cases ak) λ_=>.eq rfl (.eq h1 (.eq rfl (.eq ad ?_)))
 refine .bind (P:=λe=>e.2.2.Perm l) (cE.loop em.length (λj st=> ∃vis,st=(vis,vis.map λq=>(aF em q).2)∧vis.length=j∧Met em.length vis) (by omega) ⟨[],rfl,rfl,.nil,by simp⟩ (λj st aD hs=>?_) (λst hs=>?_)) λe he=>?_
 ·obtain⟨vis,rfl,qG,a7⟩:=hs
  refine .next λo aS=>?_
  cases o with
  |none=>exact .cond (λak=>by cases ak) λ_=>.ret (vw vis a7 aS)
  | some q=>
    refine .cond (λ_=>.eq I (.eq (C8 h hk (ao.ok _ (Av q aS.1))) (.eq (iU _ _ (by simp;omega) (by omega)) (.ret ⟨vis++[q],?_,by simp[qG],a7.more aS⟩)))) λak=>by cases ak
    rw[tf];rfl
 ·obtain⟨vis,rfl,qG,a7⟩:=hs
  refine .next λo aS=>?_
  cases o with
  |none=>exact .cond (λak=>by cases ak) λ_=>.ret (vw vis a7 aS)
  |some q=>exact absurd (a7.full qG aS.1) aS.2
 have uq:∀a∈e.2.2,a.bj.cm.length<=1000∧a.bj.ho.length<=1000:=λa a1=>(ao.ok a (he.mem_iff.1 a1)).small h hk
 have hle:=he.length_eq
 refine .bind (cE.tI (c:=O4) ⟨T3.neg,T3.l2⟩ (by omega) λa a1 b hb=>?_) λbf hy=>.ret ⟨rfl,hy.1.trans he,hy.2⟩
 unfold F1
 rw[adN (uq a a1).1 (uq b hb).1 (uq a a1).2 (uq b hb).2]
 rfl
def vC.l5{s:aR}{hp:aE Cell}{p:Nat}{ls:Nat->aa aJ}{next:Int}(h:vC s hp p ls next){k:Nat}(hk:k<4):jf s k (ls k):=by
 obtain⟨q,own,_,ad⟩:=LS h hk;exact ad.l5
def eF(ls:Nat->aa aJ):aa aJ:=ls 0++ls 1++ls 2++ls 3
def acF{ls:Nat->aa aJ}{k:Nat}(hk:k<4)(i:aJ):(eF ls++[i]).Perm (eF (kf ls k (ls k++[i]))):=by
 unfold eF;have c:∀a b d:aa aJ,((a++b)++d).Perm (a++d++b):=λa b d=>by
  rw[h3,h3];exact List.Perm.append_left _ mF
 have:k=0∨k=1∨k=2∨k=3:=by omega
 rcases this with rfl|rfl|rfl|rfl
 ·rw[xb,nv (by decide),nv (by decide),nv (by decide)];exact(c _ _ _).trans (((c _ _ _).trans ((c _ _ _).append_right _)).append_right _)
 ·rw[xb,nv (by decide),nv (by decide),nv (by decide),<-h3 (ls 0)];exact(c _ _ _).trans ((c _ _ _).append_right _)
 ·rw[xb,nv (by decide),nv (by decide),nv (by decide),<-h3 (ls 0++ls 1)];exact c _ _ _
 rw[xb,nv (by decide),nv (by decide),nv (by decide),h3 (ls 0++ls 1++ls 2)]
def DQ(ls:Nat->aa aJ):Nat->aa aJ
 |0=>[]
 |k+1=>DQ ls k++ls k
def LF{ls:Nat->aa aJ}{k:Nat}{a b:aa aJ}:kf (kf ls k a) k b=kf ls k b:=by
 funext j;unfold kf;split <;> rfl
def adU{l:aa aJ}{e:bD}(h:eK l e=none):hY l e=l:=by
 unfold hY;exact wx.2 λc ak=>by rw[u2 h c ak];rfl
def ab0{l:aa aJ}{e:bD}{i:aJ}(aw:ie i.bj e=true):hY (l++[i]) e=hY l e:=by
 unfold hY;rw[td];simp[aw]
structure r9(X:Nat->Prop)(hp hp':aE Cell):Prop where
 at_:∀q,X q->pat hp' q=pat hp q
 keys:∀q,q∈c6 hp->q∈c6 hp'
def r9.trans{X:Nat->Prop}{a b c:aE Cell}(h:r9 X a b)(k:r9 X b c):r9 X a c:=⟨λq hq=>(k.at_ q hq).trans (h.at_ q hq),λq hq=>k.keys q (h.keys q hq)⟩
structure kG(X:Nat->Prop)(s:aR)(hp:aE Cell)(p:Nat)(ls:Nat->List aJ)(next:Int):Prop where
 cell:∃m eC own,hW hp p=some ⟨s,⟨some m⟩,next⟩∧kT hp m=some eC∧qj s hp p m eC 4 ls own∧(¬X p∧¬X m)∧∀k,k<4->∀q,own k q->¬X q
 oH:∀q,X q->q∈c6 hp
def kG.ok{X:Nat->Prop}{s:aR}{hp:aE Cell}{p:Nat}{ls:Nat->aa aJ}{next:Int}(h:kG X s hp p ls next):vC s hp p ls next:=by
 obtain⟨m,eC,own,h1,ad,ay,_⟩:=h.cell;exact⟨m,eC,own,h1,ad,ay⟩
def kG.off{X:Nat->Prop}{s:aR}{hp hp':aE Cell}{p:Nat}{ls:Nat->aa aJ}{next:Int}(h:kG X s hp p ls next)(ne:∀q,¬X q->pat hp' q=pat hp q)(hk:∀q,q∈c6 hp->q∈c6 hp'):kG X s hp' p ls next:=by
 obtain⟨m,eC,own,h1,ad,ay,⟨aN,a6⟩,bh⟩:=h.cell;exact⟨⟨m,eC,own,by rw[CJ (ne p aN)];exact h1,by rw[CK (ne m a6)];exact ad,ay.congr hk λk hk x al=>ne x (bh k hk x al),⟨aN,a6⟩,bh⟩,
  λx al=>hk x (h.oH x al)⟩
def kG.change{X:Nat->Prop}{s:aR}{hp hp':aE Cell}{p:Nat}{ls:Nat->aa aJ}{next:Int}{m:Nat}{eC:aa (Int×Ref)}{own:Nat->Nat->Prop}(aw:∀q,X q->q∈c6 hp)(h1:hW hp p=some ⟨s,⟨some m⟩,next⟩)(ad:kT hp m=some eC)(ay:qj s hp p m eC 4 ls own)
 (aN: ¬X p∧¬X m) (a6:∀k,k<4->∀q,own k q->¬X q) {k:Nat} (hk:k<4) {q:Nat} (hq:c4 eC ((k:Int)+1)=some (some q)) {l:aa aJ} {own':Nat->Prop}
 (al:ke s k hp' q l own') (aS:∀x,own' x->own k x∨x∉c6 hp) (pf:ei hp hp' (own k)):kG X s hp' p (kf ls k l) next∧r9 X hp hp':=by
 obtain⟨g1,g2,g3⟩:=qj.change h1 ad ay hk hq al aS pf
 refine⟨⟨⟨m,eC,_,g1,g2,g3,aN,λj aD x gM oL=>?_⟩,λx gM=>pf.keys x (aw x gM)⟩,⟨λx gM=>pf.rest x (aw x gM) λh=>a6 k hk x h gM,pf.keys⟩⟩
 by_cases e:j=k
 ·rw[bm e]at gM
  rcases aS x gM with h|h
  ·exact a6 k hk x h oL
  exact h (aw x oL)
 rw[bk e]at gM;exact a6 j aD x gM oL
def kG.next'{X:Nat->Prop}{s:aR}{hp:aE Cell}{p:Nat}{ls:Nat->aa aJ}{next:Int}(h:kG X s hp p ls next)(n:Int){c:jQ}(ak:hW hp p=some c):kG X s (bY hp p (Cell.o4 {c with me:=n})) p ls n∧r9 X hp (bY hp p (Cell.o4 {c with me:=n})):=by
 obtain⟨m,eC,own,h1,ad,ay,aN,a6⟩:=h.cell;rw[h1]at ak;cases ak;have vO:=tF h1;have lA:p≠m:=λe=>by rw[e,u9 ad]at vO;cases vO
 exact⟨⟨⟨m,eC,own,acC vO,by rw[CK (k8 lA)];exact ad,ay.congr (λq hq=>by rw[pD];exact hq) λk hk q hq=>k8 λe=>(ay.out k hk).1 (e▸hq),aN,a6⟩,λx al=>by rw[pD];exact h.oH x al⟩,
  ⟨λx al=>k8 λe=>aN.1 (e▸al),λx al=>by rw[pD];exact al⟩⟩
def S0{s:aR}{hp:aE Cell}{p m:Nat}{eC:aa (Int×Ref)}{next:Int}(h1:hW hp p=some ⟨s,⟨some m⟩,next⟩)(ad:kT hp m=some eC){x:Int}{q:Nat}(aN:c4 eC x=some (some q)):qV hp (some p) x=some (some q):=by
 refine bF.get ?_;unfold qV;refine .cond (λak=>by cases ak) λ_=>.eq rfl (.eq h1 (.eq rfl (.eq ad (.eq rfl (.ret ?_)))));rw[aN];rfl
def acG{X:Nat->Prop}{s:aR}(hs:cQ s){hp:aE Cell}{p:Nat}{ls:Nat->aa aJ}{next:Int}(h:kG X s hp p ls next){k:Nat}(hk:k<4){e:bD}(he:jq s k e)(nQ:Int)(Ay:∀i∈ls k,i.ct<next)(hlen:(ls k).length<900)(aG:0<=next∧next<1000000):
 cE (B6 hp (some p) e nQ) (λr=>
  if (eK (ls k) e).isSome=true then r=(0,17,hp)else if (aF s.bM k).e3<=((ls k).length:Int)then r=(0,18,hp)
  else r.1=next∧r.2.1=0∧kG X s r.2.2 p (kf ls k (ls k++[{bj:=e,ct:=next,ik:=nQ}])) (next+1)∧r9 X hp r.2.2):=by
 obtain⟨m,eC,own,h1,ad,ay,oL,s6⟩:=h.cell
 obtain⟨q,aN,a6⟩:=ay.has k hk
 unfold B6
 rw[he.k3]
 refine .eq (S0 h1 ad aN) (.cond (λak=>by cases ak) λ_=>.eq (Mf hs hk a6 he) ?_)
 rw[adT]
 refine .cond (λak=>.ret (by rw[bm ak])) λak=>.eq (aeM a6) (.eq (adR hs h.ok hk) (.cond (λda=>.ret ?_) λda=>?_))
 ·rw[bk (by rw[ak];simp),bm (by simpa using da)]
 have da: ¬(aF s.bM k).e3<=((ls k).length:Int):=by simpa using da
 have aU:eK (ls k) e=none:=by
  cases aU:eK (ls k) e with
  |none=>rfl
  |some _=>rw[aU]at ak;cases ak
 have aw:mu s k ({bj:=e,ct:=next,ik:=nQ}:aJ):=⟨he⟩
 have iQ:iX (ls k) next=false:=by
  unfold iX;rw[uJ];intro c lv;have:=Ay c lv;simp;omega
 have bq:vW (ls k) ({bj:=e,ct:=next,ik:=nQ}:aJ)=true:=by
  unfold vW;simp only[aU,iQ];rfl
 refine .eq I (.eq h1 (.eq I (.bind (aeO hs hk a6 aw hlen) λbZ bh=>?_)))
 obtain⟨_,g2,g3⟩:=bh
 obtain⟨cU,uq⟩:=kG.change h.oH h1 ad ay oL s6 hk aN g2 (λx al=>al.imp id λh=>h.1) g3
 unfold added at cU
 rw[bm bq]at cU
 obtain⟨p3,anB,own',bK,_⟩:=cU.cell
 refine .eq bK (.eq I (.ret ?_))
 rw[bk (by rw[ak];simp),bk da]
 have hw:bz (next+1)=next+1:=hr (by omega) (by omega)
 have:=cU.next' (next+1) bK
 simp only[hw]
 exact⟨trivial,trivial,this.1,uq.trans this.2⟩
def S1{X:Nat->Prop}{s:aR}(hs:cQ s){hp:aE Cell}{p:Nat}{ls:Nat->aa aJ}{next:Int}(h:kG X s hp p ls next){k:Nat}(hk:k<4){e:bD}(he:jq s k e):
 cE (uM hp (some p) e) (λr=>(match eK (ls k) e with |some i=>(r.1,r.2.1)=(i,0)|none=>(r.1,r.2.1)=(default,16))∧kG X s r.2.2 p (kf ls k (hY (ls k) e)) next∧r9 X hp r.2.2):=by
 obtain⟨m,eC,own,h1,ad,ay,oL,s6⟩:=h.cell
 obtain⟨q,aN,a6⟩:=ay.has k hk
 unfold uM
 rw[he.k3]
 refine .eq (S0 h1 ad aN) (.cond (λak=>by cases ak) λ_=>.bind (abZ hs hk a6 he) λaH bh=>?_)
 obtain⟨g1,g2,g3⟩:=bh
 have cU:=kG.change h.oH h1 ad ay oL s6 hk aN g2 (λx al=>.inl al) g3
 have az:aH.1=(yn (eK (ls k) e)).1:=dF Prod.fst g1
 have a8:aH.2.1=(yn (eK (ls k) e)).2:=dF Prod.snd g1
 cases aU:eK (ls k) e with
 | none=>
   rw[aU]at az a8
   refine .cond (λ_=>.ret ⟨rfl,cU⟩) λak=>by rw[a8]at ak;cases ak
 | some i=>
   rw[aU]at az a8
   refine .cond (λak=>by rw[a8]at ak;cases ak) λ_=>.ret ⟨?_,cU⟩
   rw[az];rfl
def abi{X:Nat->Prop}{s:aR}{hp:aE Cell}{p:Nat}{ls:Nat->aa aJ}{next:Int}(h:kG X s hp p ls next)(n:Int):bF (y2 hp (some p) n) (λr=>kG X s r p ls (max 1 n)∧r9 X hp r):=by
 obtain⟨m,eC,own,h1,_⟩:=h.cell;unfold y2;exact .bind (P:=λm=>kG X s m p ls (max 1 n)∧r9 X hp m) (.cond (λ_=>.eq I (.eq h1 (.eq I (.ret (h.next' _ h1))))) λak=>by cases ak) λm hm=>.ret hm
def rx(x:Int):av Nat:=if x=1 then some 0 else if x=2 then some 1 else if x=7 then some 2 else none
def cQ.jH{s:aR}(h:cQ s){j:Nat}(aD:j<3):(aF s.fk j).b2=aF [1,2,7] j:=by
 have ao:=h.tW;have:=h.Nr;have e:(s.fk.map (·.b2))[j]? =([1,2,7]:aa Int)[j]? :=by rw[this]
 rw[List.getElem?_map,oO (show j<s.fk.length by omega),oO (show j<([1,2,7]:aa Int).length from aD)]at e;rw[e2 _ (show j<s.fk.length by omega),e2 _ (show j<([1,2,7]:aa Int).length from aD)];exact y7 e
def Ab{x:Int}{j:Nat}(aD:j<3):aF [(1:Int),2,7] j=x↔rx x=some j:=by
 have h:j=0∨j=1∨j=2:=by omega
 unfold rx;rcases h with rfl|rfl|rfl
 ·show(1:Int)=x↔_;by_cases h1:x=1
  ·simp[h1]
  rw[bk h1];simp only[show ¬(1:Int)=x from λe=>h1 e.symm,false_iff];split
  ·simp
  split <;> simp
 ·show(2:Int)=x↔_;by_cases h1:x=2
  ·simp[h1]
  simp only[show ¬(2:Int)=x from λe=>h1 e.symm,false_iff,bk h1];split
  ·simp
  split <;> simp
 show(7:Int)=x↔_;by_cases h1:x=7
 ·simp[h1]
 simp only[show ¬(7:Int)=x from λe=>h1 e.symm,false_iff,bk h1];split
 ·simp
 split <;> simp
def Ig{x:Int}{j:Nat}(h:rx x=some j):j<3:=by
 unfold rx at h;split at h
 ·cases h;omega
 split at h
 ·cases h;omega
 split at h <;> cases h;omega
structure pg(s:aR)(hp:aE Cell)(p:Nat)(N:Int->Int):Prop where
 cell:∃h8,mQ hp p=some ⟨s.fk,h8⟩∧∀j,j<3->b9 h8 j=N (aF [1,2,7] j)
def aaV{hp hp':aE Cell}{p:Nat}(h:pat hp' p=pat hp p):mQ hp' p=mQ hp p:=by unfold mQ;rw[h]
def acH{hp:aE Cell}{p:Nat}{k:Cell}{x:hS}(h:pat hp p=some k):mQ (bY hp p (.qq x)) p=some x:=by unfold mQ;rw[qi h]
def pg.congr{s:aR}{hp hp':aE Cell}{p:Nat}{N:Int->Int}(h:pg s hp p N)(e:pat hp' p=pat hp p):pg s hp' p N:=by
 obtain⟨h8,h1,ad⟩:=h.cell;exact⟨h8,by rw[aaV e];exact h1,ad⟩
def sa(x:Int):Int:=match rx x with |some j=>(j:Int)|none=> -1
def T4{s:aR}(hs:cQ s){hp:aE Cell}{p:Nat}{N:Int->Int}(h:pg s hp p N)(x:Int):y8 hp (some p) x=some (sa x):=by
 obtain⟨h8,h1,ad⟩:=h.cell;have ao:=hs.tW;refine bF.get ?_;unfold y8;refine .cond (λak=>by cases ak) λ_=>.eq rfl (.eq h1 (.bind (P:=λe=>e.1=sa x) (bF.qn 3 (λi st=>st=(i:Int)∧∀j,j<i->rx x≠some j) (by omega) ⟨rfl,λj aD=>by omega⟩ (λi st aw cU=>?_) (λst cU=>?_)) λe he=>.ret he))
 ·obtain⟨rfl,aG⟩:=cU;refine bF.cond (λ_=>.idx I (by simp only;omega) (.cond (λak=>?_) λak=>?_)) λak=>by simp only[ao]at ak;simp at ak;omega
  ·simp only[nV,hs.jH aw]at ak;have:=(Ab aw).1 ak;exact .ret (by unfold sa;rw[this])
  refine .ret ⟨gY (by omega),λj aD e=>?_⟩;by_cases j1:j=i
  ·subst j1;rw[<-Ab aw,<-hs.jH aw]at e;rw[e]at ak;simp at ak
  exact aG j (by omega) e
 obtain⟨rfl,aG⟩:=cU;refine bF.cond (λak=>by simp only[ao]at ak;simp at ak) λ_=>.ret ?_;show(-1:Int)=sa x;unfold sa;cases e:rx x with
 |none=>rfl
 |some j=>exact absurd e (aG j (Ig e))
def bump(N:Int->Int)(x:Int)(d:Int):Int->Int:=λy=>if y=x then N x+d else N y
def pg.bump{s:aR}{hp:aE Cell}{p:Nat}{N:Int->Int}{h8:Vector Int 6}(h1:mQ hp p=some ⟨s.fk,h8⟩)(ad:∀j,j<3->b9 h8 j=N (aF [1,2,7] j)){x:Int}{j:Nat}(aD:rx x=some j)(d:Int):
 pg s (bY hp p (Cell.qq ⟨s.fk,iq h8 j (N x+d)⟩)) p (Go.Proofs.YtdadopcnkghbaaaGreat.bump N x d):=by
 refine⟨_,acH (sm h1),λi aw=>?_⟩
 have anC:=Ig aD
 unfold Go.Proofs.YtdadopcnkghbaaaGreat.bump
 by_cases e:i=j
 ·subst e
  rw[w9 _ _ (by omega),bm I,bm ((Ab aw).2 aD)]
 rw[w9 _ _ (by omega),bk e,bk (λa8=>e (by have:=(Ab aw).1 a8;rw[aD]at this;cases this;rfl)),ad i aw]
def room(s:aR)(N:Int->Int)(x:Int):Bool:=match rx x with |some j=>decide (N x<(aF s.fk j).jD)|none=>false
def ahz{s:aR}(hs:cQ s){hp:aE Cell}{p:Nat}{N:Int->Int}(h:pg s hp p N)(iQ:∀x,0<=N x∧N x<100000)(x:Int):
 bF (zd hp (some p) x) (λr=>if room s N x=true then r.1=true∧(∃c,r.2=bY hp p c)∧pg s r.2 p (bump N x 1)else r=(false,hp)):=by
 obtain⟨h8,h1,ad⟩:=h.cell
 have ao:=hs.tW
 unfold zd
 refine .eq (T4 hs h x) ?_
 cases aC:rx x with
 | none=>
   have e:sa x= -1:=by unfold sa;rw[aC]
   have a8:room s N x=false:=by unfold room;rw[aC]
   rw[e,a8]
   exact .ret I
 | some j=>
   have aD:=Ig aC
   have e:sa x=(j:Int):=by unfold sa;rw[aC]
   have gn:b9 h8 j=N x:=by rw[ad j aD,(Ab aD).2 aC]
   rw[e]
   have hd:decide ((j:Int)<0)=false:=by simp
   simp only[hd]
   refine .eq (a:=p) I (.eq (a:=j) (by unfold cj;rw[bm I];exact u7 (by omega)) (.eq (a:=⟨s.fk,h8⟩) (by unfold cj;rw[bm I];exact h1) (.eq (a:=p) I (.eq (a:=⟨s.fk,h8⟩) (by unfold cj;rw[bm I];exact h1)
    (.eq (a:=j) (by unfold cj;rw[bm I];exact u7 (by simp only;omega)) (.eq I (.cond (λak=>?_) λak=>?_)))))))
   ·have a8:room s N x=false:=by unfold room;rw[aC];simp only[tj,fZ,gn]at ak;simp;omega
    rw[a8];exact .ret I
   have a8:room s N x=true:=by unfold room;rw[aC];simp only[tj,mD,gn]at ak;simp;omega
   rw[a8]
   refine .eq (a:=p) I (.idx I (by omega) (.eq h1 (.idx I (by omega) (.eq I (.ret ⟨rfl,⟨_,rfl⟩,?_⟩)))))
   have hw:bz (b9 h8 j+1)=N x+1:=by rw[gn];have:=iQ x;exact hr (by omega) (by omega)
   simp only[hw]
   exact pg.bump h1 ad aC 1
def aeT{s:aR}(hs:cQ s){hp:aE Cell}{p:Nat}{N:Int->Int}(h:pg s hp p N){x:Int}{j:Nat}(aC:rx x=some j)(iQ:0<N x∧N x<100000):
 bF (y9 hp (some p) x) (λr=>(∃c,r.2=bY hp p c)∧pg s r.2 p (bump N x (-1))):=by
 obtain⟨h8,h1,ad⟩:=h.cell
 have aD:=Ig aC
 have e:sa x=(j:Int):=by unfold sa;rw[aC]
 have gn:b9 h8 j=N x:=by rw[ad j aD,(Ab aD).2 aC]
 unfold y9
 refine .eq (T4 hs h x) ?_
 rw[e]
 have hd:decide ((j:Int)<0)=false:=by simp
 simp only[hd]
 refine .eq (a:=p) I (.eq (a:=j) (by unfold cj;rw[bm I];exact u7 (by omega)) (.eq (a:=⟨s.fk,h8⟩) (by unfold cj;rw[bm I];exact h1) (.cond (λak=>?_) λak=>?_)))
 ·simp only[tj,nV,gn]at ak;omega
 refine .eq (a:=p) I (.idx I (by omega) (.eq h1 (.idx I (by omega) (.eq I (.ret ⟨⟨_,rfl⟩,?_⟩)))))
 have hw:bz (b9 h8 j-1)=N x+ -1:=by rw[gn];exact hr (by omega) (by omega)
 simp only[hw]
 exact pg.bump h1 ad aC (-1)
def oI(e:bD)(r:ev):aa b8:=
 if r.cu=e.cu then(if r.eg=0 then [⟨r.nr,r.sj,(aF e.cm r.jU.toNat).b3⟩]else if r.eg=e.eg then [⟨r.nr,r.sj,aF e.ho r.u4.toNat⟩]else [])else []
def iO(s:aR)(e:bD):aa b8:=s.eE.flatMap (oI e)
def EY(e:bD):b8:=⟨1,0,(aF e.cm 0).b3⟩
def j4(s:aR)(e:bD):aa b8:=if e.cu=1∧s.eE≠[]then [EY e]else []
def yt(s:aR)(e:bD):Prop:=(∃k,k<4∧jq s k e)∧Ib e
def Tv(e:bD)(r:ev):(oI e r).length<=1:=by
 unfold oI;split
 ·split
  ·simp
  split <;> simp
 simp
def LU{α β:Type}{f:α->aa β}(aU:∀x,(f x).length<=1):∀l:aa α,(l.flatMap f).length<=l.length
 |[]=>by simp
 | x::l=>by
   have:=LU aU l;have:=aU x;rw[List.flatMap_cons,fB,List.length_cons];omega
def Hu{s:aR}(aC:lO s)(e:bD):(iO s e).length<=4:=oQ (LU (Tv e) _) aC.tW
def yt.akm{s:aR}(hs:cQ s){e:bD}(h:yt s e):1<=e.cm.length∧e.cm.length<=1000:=by
 obtain⟨⟨k,hk,he⟩,_⟩:=h;have h1:=he.len;have ad:=(hs.k3 hk).2.1;omega
def aeU{s:aR}{e:bD}(h:yt s e){r:ev}(aC:AA s r)(bq:r.cu=e.cu)(a1:r.eg=0):r.jU=(r.jU.toNat:Int)∧r.jU.toNat<e.cm.length:=by
 obtain⟨⟨k,hk,he⟩,_⟩:=h;have h1:=he.len;have ad:=he.k3;rcases aC.2.2 with⟨_,g,_⟩|⟨g1,_,g2,g3⟩|⟨g1,_,g2,g3⟩|⟨_,g,_⟩
 ·omega
 ·have:k=2:=by omega
  subst this;rw[g2];exact⟨rfl,by rw[h1,g3];decide⟩
 ·have:k=3:=by omega
  subst this;rw[g2];exact⟨rfl,by rw[h1,g3];decide⟩
 omega
def aeV{s:aR}{e:bD}(h:yt s e){r:ev}(aC:AA s r)(a1:r.eg≠0)(hb:r.eg=e.eg):r.u4=0∧0<e.ho.length:=by
 rcases aC.2.2 with⟨_,g,g2⟩|⟨_,g,_⟩|⟨_,g,_⟩|⟨_,g,g2⟩
 ·exact⟨g2,h.2 (.inl (by omega))⟩
 ·exact absurd g a1
 ·exact absurd g a1
 exact⟨g2,h.2 (.inr (by omega))⟩
def ab1{α β:Type}[Inhabited α](f:α->aa β){l:aa α}{i:Nat}(aw:i<l.length):(l.take (i+1)).flatMap f=(l.take i).flatMap f++f (aF l i):=by
 rw[Kb,oO aw,e2 _ aw,J0];simp
def Hd{α:Type}[Inhabited α]{l:aa α}{i:Nat}(aw:i<l.length):aF l i∈l:=by rw[e2 _ aw];exact mH aw
def RM{e:bD}{k:Nat}(hk:k<e.cm.length):zv e (k:Int)=some (aF e.cm k).b3:=by
 refine bF.get ?_;unfold zv;refine .cond (λak=>?_) λ_=>.idx I hk (.ret I);simp only[nT,fZ]at ak;omega
def aaW{e:bD}(hk:0<e.ho.length):Cy e 0=some (aF e.ho 0):=by
 refine bF.get ?_;unfold Cy;refine .cond (λak=>?_) λ_=>.idx (k:=0) I hk (.ret I);simp only[nT,fZ]at ak;omega
def acI{s:aR}(aC:lO s){e:bD}(he:yt s e):CE s e=some (iO s e):=by
 refine bF.get ?_;unfold CE;have ao:=aC.tW;refine .bind (P:=λx=>x.2.2=iO s e) (bF.qn s.eE.length (λi st=>st=((i:Int),(s.eE.take i).flatMap (oI e))) (by omega) I (λi st aw cU=>?_) λst cU=>?_) λx al=>.ret al
 ·subst cU;refine .cond (λ_=>.idx I aw ?_) λak=>by simp at ak;omega
  have EZ:=aC.refs _ (Hd aw);have al7:((s.eE.take i).flatMap (oI e)).length<=4:=oQ (LU (Tv e) _) (by rw[fg];omega);refine .bind (P:=λm=>m=(s.eE.take (i+1)).flatMap (oI e)) ?_ λm hm=>.ret (by rw[hm,gY (by omega)]);rw[ab1 _ aw];refine .cond (λak=>.ret ?_) λak=>.bind (P:=λm=>m=(s.eE.take i).flatMap (oI e)++oI e (aF s.eE i)) (.cond (λa1=>?_) λa1=>.bind (P:=λm=>m=(s.eE.take i).flatMap (oI e)++oI e (aF s.eE i)) (.cond (λhb=>?_) λhb=>.ret ?_) λm hm=>.ret hm) λm hm=>.ret hm
  ·unfold oI;rw[bk (by simpa using ak)];simp
  ·have bq:(aF s.eE i).cu=e.cu:=by simpa using ak
   have a1:(aF s.eE i).eg=0:=by simpa using a1
   obtain⟨g1,g2⟩:=aeU he EZ bq a1;rw[g1];refine .eq (RM g2) (.eq I (.eq (iU _ _ (by simp only[List.length_cons,List.length_nil];omega) (by omega)) (.ret ?_)));unfold oI;rw[bm bq,bm a1]
  ·have bq:(aF s.eE i).cu=e.cu:=by simpa using ak
   have a1: ¬(aF s.eE i).eg=0:=by simpa using a1
   have hb:(aF s.eE i).eg=e.eg:=by simpa using hb
   obtain⟨g1,g2⟩:=aeV he EZ a1 hb;rw[g1];refine .eq (aaW g2) (.eq I (.eq (iU _ _ (by simp only[List.length_cons,List.length_nil];omega) (by omega)) (.ret ?_)));unfold oI;rw[bm bq,bk a1,bm hb,g1];rfl
  have bq:(aF s.eE i).cu=e.cu:=by simpa using ak
  have a1: ¬(aF s.eE i).eg=0:=by simpa using a1
  have hb: ¬(aF s.eE i).eg=e.eg:=by simpa using hb
  unfold oI;rw[bm bq,bk a1,bk hb];simp
 subst cU;exact .cond (λak=>by simp at ak) λ_=>.ret (by show _=iO s e;simp[iO])
def adV{l:aa b8}(ao:l.length<=1000)(x:b8):bF (Bl l x) (λr=>r=decide (x∈l)):=by
 unfold Bl Fz;refine .bind (P:=λy=>(0<=y)↔x∈l) ?_ λy hy=>.ret (by simp only[ge_iff_le,hy]);refine bF.loop l.length (λi st=>st=(i:Int)∧∀j,j<i->x≠aF l j) (by omega) ⟨rfl,λj aD=>by omega⟩ (λi st aw cU=>?_) λst cU=>?_
 ·obtain⟨rfl,aG⟩:=cU;refine .cond (λ_=>.idx I aw (.cond (λak=>.ret (.ret ?_)) λak=>.ret ⟨gY (by omega),λj aD=>?_⟩)) λak=>by simp at ak;omega
  ·exact⟨λ_=>by rw[wE ak];exact Hd aw,λ_=>by simp only;omega⟩
  by_cases e:j=i
  ·subst e;exact Qp ak
  exact aG j (by omega)
 obtain⟨rfl,aG⟩:=cU;have ak:decide ((l.length:Int)<(l.length:Int))=false:=by simp
 refine⟨.inl ((l.length:Int),false),by rw[ak];rfl,.ret ⟨λh=>by omega,λh=>?_⟩⟩;obtain⟨j,aD,e⟩:=Qe h;exact absurd (by rw[e2 _ aD,e]) (aG j aD)
def aaX{s:aR}(hs:cQ s)(aC:lO s){e:bD}(he:yt s e):Cz s e=some (j4 s e):=by
 refine bF.get ?_;unfold Cz;have ao:=aC.tW;have hm:=he.akm hs;refine .bind (P:=λx=>x.2.2=j4 s e) (bF.qn s.eE.length (λi st=>st=((i:Int),if e.cu=1∧i≠0 then [EY e]else [])) (by omega) (by simp) (λi st aw cU=>?_) λst cU=>?_) λx al=>.ret al
 ·subst cU;have EZ:=aC.refs _ (Hd aw);have al7:(if e.cu=1∧i≠0 then [EY e]else []).length<=1:=by split <;> simp
  refine .cond (λ_=>.idx I aw ?_) λak=>by simp at ak;omega
  rw[EZ.1,EZ.2.1];refine .eq (RM (k:=0) (by omega)) (.eq I (.cj (λ_=>adV (by simp only;omega) _) λy hy=>?_));refine .bind (P:=λm=>m=if e.cu=1∧i+1≠0 then [EY e]else []) (.cond (λak=>?_) λak=>.ret ?_) λm hm=>.ret (by rw[hm,gY (by omega)])
  ·simp only[gJ,nV,wB]at ak;have hy:=hy (by simp[ak.1]);rw[ak.2]at hy;have:i=0:=by
    refine PK λh=>?_;rw[bm ⟨ak.1.symm,h⟩]at hy;simp[EY]at hy
   subst this;refine .eq (iU _ _ (by simp) (by omega)) (.ret ?_);rw[bk (by simp),bm ⟨ak.1.symm,by omega⟩];rfl
  by_cases h1:e.cu=1
  ·have hy:=hy (by simp[h1]);simp only[h1,BQ,wM,Qj]at ak;rw[ak]at hy;have ED:i≠0:=λh=>by rw[bk (by simp[h])]at hy;simp at hy
   rw[bm ⟨h1,ED⟩,bm ⟨h1,by omega⟩]
  rw[bk λh=>h1 h.1,bk λh=>h1 h.1]
 subst cU;refine .cond (λak=>by simp at ak) λ_=>.ret ?_;show _=j4 s e;unfold j4;simp[Fx]
structure lp(m:Nat)(hp hp':aE Cell):Prop where
 at_:∀q,q≠m->pat hp' q=pat hp q
 keys:∀q,q∈c6 hp->q∈c6 hp'
def lp.refl{m:Nat}{hp:aE Cell}:lp m hp hp:=⟨λ_ _=>rfl,λ_ h=>h⟩
def lp.trans{m:Nat}{a b c:aE Cell}(h:lp m a b)(k:lp m b c):lp m a c:=⟨λq hq=>(k.at_ q hq).trans (h.at_ q hq),λq hq=>k.keys q (h.keys q hq)⟩
def lp.up{m:Nat}{hp:aE Cell}{c:Cell}:lp m hp (bY hp m c):=⟨λq hq=>k8 λe=>hq e.symm,λq hq=>by rw[pD];exact hq⟩
def aaY{hp hp':aE Cell}{p:Nat}(h:pat hp' p=pat hp p):ob hp' p=ob hp p:=by unfold ob;rw[h]
def Ru{hp hp':aE Cell}{p:Nat}(h:pat hp' p=pat hp p):oa hp' p=oa hp p:=by unfold oa;rw[h]
def S2{hp:aE Cell}{p:Nat}{k:Cell}{x:aa (b8×ji)}(h:pat hp p=some k):ob (bY hp p (.qp x)) p=some x:=by unfold ob;rw[qi h]
structure mw(s:aR)(hp:aE Cell)(p m:Nat)(A B:b8->Int):Prop where
 cell:oa hp p=some ⟨s,⟨some m⟩⟩
 map:∃kv,ob hp m=some kv∧nh kv∧∀t,c4 kv t=if A t=0∧B t=0 then none else some ⟨A t,B t⟩
def mw.ne{s:aR}{hp:aE Cell}{p m:Nat}{A B:b8->Int}(h:mw s hp p m A B):p≠m:=λe=>by
 obtain⟨kv,h1,_⟩:=h.map;have ad:=MJ h.cell;rw[e,sr h1]at ad;cases ad
def mw.congr{s:aR}{hp hp':aE Cell}{p m:Nat}{A B:b8->Int}(h:mw s hp p m A B)(h1:pat hp' p=pat hp p)(ad:pat hp' m=pat hp m):mw s hp' p m A B:=
 ⟨by rw[Ru h1];exact h.cell,by obtain⟨kv,g1,g2⟩:=h.map;exact⟨kv,by rw[aaY ad];exact g1,g2⟩⟩
def vX(A:b8->Int)(t:b8)(n:Int):b8->Int:=λx=>if x=t then A x+n else A x
def rQ(A:b8->Int)(k:Int):Prop:=∀t, -k<=A t∧A t<=k
def Tw{s:aR}{hp:aE Cell}{p m:Nat}{A B:b8->Int}(h:mw s hp p m A B)(eo:rQ A 200000)(ec:rQ B 200000)(t:b8){n k:Int}(aG: -1<=n∧n<=1)(hk: -1<=k∧k<=1):
 bF (ze hp (some p) t n k) (λr=>lp m hp r∧mw s r p m (vX A t n) (vX B t k)):=by
 obtain⟨kv,h1,ad,ay⟩:=h.map
 unfold ze
 refine .eq (a:=p) I (.eq h.cell (.eq (a:=m) I (.eq h1 (.eq I (.eq I ?_)))))
 have gn:(c4 kv t).getD default=(⟨A t,B t⟩:ji):=by
  rw[ay];split
  ·rename_i b4;rw[b4.1,b4.2];rfl
  rfl
 rw[gn]
 have bK:=eo t
 have cZ:=ec t
 have ta:bz (A t+n)=A t+n:=hr (by omega) (by omega)
 have Bf:bz (B t+k)=B t+k:=hr (by omega) (by omega)
 simp only[ta,Bf]
 have ak:∀c,oa (bY hp m c) p=some ⟨s,⟨some m⟩⟩:=λc=>by rw[Ru (k8 h.ne.symm)];exact h.cell
 refine .cond (λb4=>?_) λb4=>?_
 ·have b4:=wE b4
  have br:A t+n=0:=dF ji.oV b4
  have z2:B t+k=0:=dF ji.oT b4
  refine .eq (a:=p) I (.eq h.cell (.eq (a:=m) I (.eq h1 (.eq I (.ret ⟨.up,ak _,_,S2 (sr h1),ad.del,λx=>?_⟩)))))
  rw[zI ad,ay]
  unfold vX
  by_cases e:x=t
  ·subst e;rw[bm I,bm I,bm I,bm ⟨br,z2⟩]
  rw[bk e,bk e,bk e]
 have b4:=Qp b4
 refine .eq (a:=p) I (.eq h.cell (.eq (a:=m) I (.eq h1 (.eq I (.ret ⟨.up,ak _,_,S2 (sr h1),ad.put,λx=>?_⟩)))))
 rw[tp,ay]
 unfold vX
 by_cases e:x=t
 ·subst e;rw[bm I,bm I,bm I,bk λch=>b4 (by rw[ch.1,ch.2];rfl)]
 rw[bk e,bk e,bk e]
def hL(A:b8->Int)(l:aa b8)(n:Int):b8->Int:=λt=>A t+n*(l.count t:Int)
def S3{A:b8->Int}{n:Int}:hL A [] n=A:=by funext t;simp[hL]
def Sd{A:b8->Int}{l:aa b8}{x:b8}{n:Int}:vX (hL A l n) x n=hL A (l++[x]) n:=by
 funext t;unfold vX hL;rw[Ka,List.count_singleton];by_cases e:t=x
 ·subst e;rw[bm I];simp only[BQ,kO];rw[Int.natCast_add,Int.mul_add];omega
 rw[bk e,bk (by simpa using λh=>e h.symm)];simp
def S4{A:b8->Int}{x:b8}:vX A x 0=A:=by funext t;unfold vX;split <;> simp
def rQ.mono{A:b8->Int}{k k':Int}(h:rQ A k)(hk:k<=k'):rQ A k':=λt=>by have:=h t;omega
def LV{A:b8->Int}{l:aa b8}{n:Int}(h:rQ A 100000)(ao:l.length<=10)(aG:n=1∨n= -1):rQ (hL A l n) 200000:=λt=>by
 have h1:=h t;have ad:l.count t<=l.length:=FB;unfold hL;rcases aG with rfl|rfl <;> omega
def Se{α:Type}[Inhabited α]{l:aa α}{i:Nat}(aw:i<l.length):l.take (i+1)=l.take i++[aF l i]:=by
 rw[Kb,oO aw,e2 _ aw];rfl
def Tx{s:aR}(hs:cQ s)(aC:lO s){hp:aE Cell}{p m:Nat}{A B:b8->Int}(h:mw s hp p m A B)(eo:rQ A 100000)(ec:rQ B 100000){e:bD}(he:yt s e){n:Int}(aG:n=1∨n= -1):
 bF (zf hp (some p) e n) (λr=>lp m hp r∧mw s r p m (hL A (iO s e) n) (hL B (j4 s e) n)):=by
 have ao:=Hu aC e
 have EC:(j4 s e).length<=1:=by unfold j4;split <;> simp
 have pc: -1<=n∧n<=1:=by omega
 unfold zf
 refine .cond (λak=>by cases ak) λ_=>.eq (a:=p) I (.eq h.cell (.eq (acI aC he) ?_))
 refine .bind (P:=λx=>lp m hp x.2.2∧mw s x.2.2 p m (hL A (iO s e) n) B) (bF.qn (iO s e).length (λi st=>st.1=(i:Int)∧lp m hp st.2∧mw s st.2 p m (hL A ((iO s e).take i) n) B) (by omega) ⟨rfl,.refl,by rw[List.take_zero,S3];exact h⟩ (λi st aw cU=>?_) λst cU=>?_) λx al=>?_
 ·obtain⟨Fm,bH⟩:=st;obtain⟨az,bp,c1⟩:=cU
  simp only at az bp c1;subst az
  refine .cond (λ_=>.idx I aw (.bind (Tw c1 (LV eo (by rw[fg];omega) aG) (λt=>by have:=ec t;omega) _ pc (by omega)) λy hy=>.ret ⟨gY (by omega),bp.trans hy.1,?_⟩)) λak=>by simp at ak;omega
  have:=hy.2
  rw[Sd,S4,<-Se aw]at this
  exact this
 ·obtain⟨Fm,bH⟩:=st;obtain⟨az,bp,c1⟩:=cU
  simp only at az bp c1;subst az
  rw[l7]at c1
  exact .cond (λak=>by simp at ak) λ_=>.ret ⟨bp,c1⟩
 obtain⟨bp,c1⟩:=al
 refine .eq c1.cell (.eq (aaX hs aC he) ?_)
 refine .bind (P:=λz=>lp m hp z.2.2∧mw s z.2.2 p m (hL A (iO s e) n) (hL B (j4 s e) n)) (bF.qn (j4 s e).length (λi st=>st.1=(i:Int)∧lp m hp st.2∧mw s st.2 p m (hL A (iO s e) n) (hL B ((j4 s e).take i) n)) (by omega) ⟨rfl,bp,by rw[List.take_zero,S3];exact c1⟩ (λi st aw cU=>?_) λst cU=>?_) λz b4=>.ret b4
 ·obtain⟨Fm,bH⟩:=st;obtain⟨az,b6,c2⟩:=cU
  simp only at az b6 c2;subst az
  refine .cond (λ_=>.idx I aw (.bind (Tw c2 (LV eo (by omega) aG) (LV ec (by rw[fg];omega) aG) _ (by omega) pc) λy hy=>.ret ⟨gY (by omega),b6.trans hy.1,?_⟩)) λak=>by simp at ak;omega
  have:=hy.2
  rw[Sd,S4,<-Se aw]at this
  exact this
 obtain⟨Fm,bH⟩:=st;obtain⟨az,b6,c2⟩:=cU
 simp only at az b6 c2;subst az
 rw[l7]at c2
 exact .cond (λak=>by simp at ak) λ_=>.ret ⟨b6,c2⟩
end Go.Proofs.YtdadopcnkghbaaaGreat
