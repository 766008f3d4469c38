/-
  What the programs compute, in plain Lean. Conditions: none.
-/
import Derived.Test.YtdadopcnkghbaaaGreatMp0
set_option linter.defProp false
set_option linter.unusedVariables false
set_option linter.unusedSimpArgs false
set_option maxRecDepth 100000
namespace Go.Proofs.YtdadopcnkghbaaaGreat
open Go Gv
def Lq{hp hp':aE Cell}{p:Nat}(h:pat hp' p=pat hp p):gh hp' p=gh hp p:=by unfold gh;rw[h]
def adW{hp:aE Cell}{p:Nat}{k:Cell}{x:et}{a:av Nat}{c:Nat}(h:pat hp p=some k):gh (bY hp p (.iZ x a c)) p=some (x,a,c):=by unfold gh;rw[qi h]
structure sb where
 x:Nat
 t:Nat
 r:Nat
 m:Nat
 q:Nat
def Bh(P:sb)(q:Nat):Prop:=q=P.x∨q=P.r∨q=P.m∨q=P.q
structure jA(s:aR)(hp:aE Cell)(P:sb)(ls:Nat->List aJ)(next:Int)(cc:List fh)(A B:b8->Int)(N:Int->Int):Prop where
 st:∃k c,gh hp P.x=some (⟨some P.t,some P.r,some P.q,cc⟩,k,c)
 oz:kG (Bh P) s hp P.t ls next
 h8:mw s hp P.r P.m A B
 quo:pg s hp P.q N
section
variable{s:aR}{hp hp':aE Cell}{P:sb}{ls ls':Nat->aa aJ}{next next':Int}{cc ph:aa fh}{A B cg Fq:b8->Int}{N Fs:Int->Int}
def jA.ne(h:jA s hp P ls next cc A B N):(P.x≠P.r∧P.x≠P.m∧P.x≠P.q)∧P.r≠P.m∧P.r≠P.q∧P.m≠P.q:=by
 obtain⟨k,c,h1⟩:=h.st;obtain⟨kv,ad,_⟩:=h.h8.map;obtain⟨rZ,ay,_⟩:=h.quo.cell;have az:=n9 h1;have a8:=sr ad;have dw:=MJ h.h8.cell;have h2:=sm ay;refine⟨⟨λe=>?_,λe=>?_,λe=>?_⟩,λe=>?_,λe=>?_,λe=>?_⟩
 ·rw[e,dw]at az;cases az
 ·rw[e,a8]at az;cases az
 ·rw[e,h2]at az;cases az
 ·rw[e,a8]at dw;cases dw
 ·rw[e,h2]at dw;cases dw
 rw[e,h2]at a8;cases a8
def jA.IF(h:jA s hp P ls next cc A B N)(k:kG (Bh P) s hp' P.t ls' next'∧r9 (Bh P) hp hp'):jA s hp' P ls' next' cc A B N where
 st:=by obtain⟨a,c,h1⟩:=h.st;exact⟨a,c,by rw[Lq (k.2.at_ _ (.inl I))];exact h1⟩
 oz:=k.1
 h8:=h.h8.congr (k.2.at_ _ (.inr (.inl I))) (k.2.at_ _ (.inr (.inr (.inl I))))
 quo:=h.quo.congr (k.2.at_ _ (.inr (.inr (.inr I))))
def jA.only(h:jA s hp P ls next cc A B N){q:Nat}(hq:Bh P q)(o:lp q hp hp'):kG (Bh P) s hp' P.t ls next:=h.oz.off (λx al=>o.at_ x λe=>al (e▸hq)) o.keys
def jA.ref(h:jA s hp P ls next cc A B N)(k:lp P.m hp hp'∧mw s hp' P.r P.m cg Fq):jA s hp' P ls next cc cg Fq N where
 st:=by obtain⟨a,c,h1⟩:=h.st;exact⟨a,c,by rw[Lq (k.1.at_ _ h.ne.1.2.1)];exact h1⟩
 oz:=h.only (.inr (.inr (.inl I))) k.1
 h8:=k.2
 quo:=h.quo.congr (k.1.at_ _ λe=>h.ne.2.2.2 e.symm)
def jA.XU(h:jA s hp P ls next cc A B N)(k:∃c,hp'=bY hp P.q c)(bP:pg s hp' P.q Fs):jA s hp' P ls next cc A B Fs:=by
 obtain⟨c,rfl⟩:=k;have o:lp P.q hp (bY hp P.q c):=.up;exact⟨by obtain⟨a,c,h1⟩:=h.st;exact⟨a,c,by rw[Lq (o.at_ _ h.ne.1.2.2)];exact h1⟩,h.only (.inr (.inr (.inr I))) o,
  h.h8.congr (o.at_ _ h.ne.2.2.1) (o.at_ _ h.ne.2.2.2),bP⟩
def jA.O5(h:jA s hp P ls next cc A B N)(a:av Nat)(c:Nat):jA s (bY hp P.x (.iZ ⟨some P.t,some P.r,some P.q,ph⟩ a c)) P ls next ph A B N:=by
 have o:lp P.x hp (bY hp P.x (.iZ ⟨some P.t,some P.r,some P.q,ph⟩ a c)):=.up;obtain⟨gQ,ic,h1⟩:=h.st;exact⟨⟨a,c,adW (n9 h1)⟩,h.only (.inl I) o,h.h8.congr (o.at_ _ h.ne.1.1.symm) (o.at_ _ h.ne.1.2.1.symm),h.quo.congr (o.at_ _ h.ne.1.2.2.symm)⟩
def Ty(h:cc.length<=1000)(k:ln)(a b c:Ref):wy ⟨a,b,c,cc⟩ k=some ⟨a,b,c,cc++[⟨k⟩]⟩:=by
 unfold wy;rw[iU _ _ (by simp;omega) (by omega)];rfl
structure PC(A B:b8->Int)(N:Int->Int)(cc:List fh):Prop where
 a:rQ A 1000
 b:rQ B 1000
 n:∀x,0<=N x∧N x<1000
 j:cc.length<=1000
def acJ(hs:cQ s)(aC:lO s)(h:jA s hp P ls next cc A B N)(hb:PC A B N cc){k:Nat}(hk:k<4){e:bD}(he:jq s k e)(a1:Ib e)(nQ:Int)(Ay:∀i∈ls k,i.ct<next)(hlen:(ls k).length<900)(aG:1<=next∧next<1000000):
 cE (BN hp (some P.x) e nQ) (λr=>
  if (eK (ls k) e).isSome=true then r=(17,hp)else if (aF s.bM k).e3<=((ls k).length:Int)then r=(18,hp)
  else if room s N nQ=true then r.1=0∧jA s r.2 P (kf ls k (ls k++[{bj:=e,ct:=next,ik:=nQ}])) (next+1) (cc++[⟨.x4 (some P.x) {bj:=e,ct:=next,ik:=nQ} next nQ⟩]) (hL A (iO s e) 1) (hL B (j4 s e) 1) (bump N nQ 1)
  else r.1=19∧jA s r.2 P (kf ls k (ls k)) next cc A B N):=by
 obtain⟨a0,uG,bw⟩:=h.st
 unfold BN
 refine .cond (λak=>by cases ak) λ_=>.eq (a:=P.x) I (.eq bw (.bind (acG hs h.oz hk he nQ Ay hlen ⟨by omega,aG.2⟩) λan h1=>?_))
 by_cases aU:(eK (ls k) e).isSome=true
 ·rw[bm aU]at h1
  subst h1
  exact .cond (λ_=>.ret (by rw[bm aU])) λak=>by simp at ak
 rw[bk aU]at h1
 by_cases b4:(aF s.bM k).e3<=((ls k).length:Int)
 ·rw[bm b4]at h1
  subst h1
  exact .cond (λ_=>.ret (by rw[bk aU,bm b4])) λak=>by simp at ak
 rw[bk b4]at h1
 obtain⟨jy,err,bH⟩:=an
 obtain⟨az,a8,cU,uq⟩:=h1
 simp only at az a8 cU uq
 subst a8
 have az:=az.symm
 subst az
 have g1:=h.IF ⟨cU,uq⟩
 refine .cond (λak=>by simp at ak) λ_=>?_
 have I5:eK (ls k) e=none:=by
  cases hq:eK (ls k) e with
  |none=>rfl
  |some _=>rw[hq]at aU;exact absurd I aU
 obtain⟨bK,c1,h1⟩:=g1.st
 have Jj:=adQ hs g1.oz.ok hk he
 rw[xb,acE I5 (Hq e)]at Jj
 replace Jj:wO bH (some P.t) e=some (({bj:=e,ct:=next,ik:=nQ}:aJ),true):=Jj
 refine .eq (a:=P.x) I (.eq h1 (.eq Jj (.eq (a:=P.x) I (.eq h1 (.oE (ahz hs g1.quo (λx=>by have:=hb.n x;omega) nQ) λbf ay=>?_)))))
 by_cases oy:room s N nQ=true
 ·rw[bm oy]at ay
  obtain⟨ok,cw⟩:=bf
  obtain⟨dw,dc,gm⟩:=ay
  simp only at dw dc gm
  subst dw
  have g2:=g1.XU dc gm
  obtain⟨a2,c2,ad⟩:=g2.st
  refine .cond (λak=>by cases ak) λ_=>.eq ad (.oE (P:=λcS=>lp P.m cw cS∧mw s cS P.r P.m (hL A (iO s e) 1) (hL B (j4 s e) 1)) ?_ λcS bh=>?_)
  ·exact .bind (Tx hs aC g2.h8 (hb.a.mono (by omega)) (hb.b.mono (by omega)) ⟨⟨k,hk,he⟩,a1⟩ (.inl I)) λy hy=>.ret hy
  have g3:=g2.ref bh
  obtain⟨a3,dM,ay⟩:=g3.st
  refine .eq ay (.eq (Ty hb.j _ _ _ _) (.any λiC=>.eq I (.ret ?_)))
  rw[bk aU,bk b4,bm oy]
  exact⟨rfl,g3.O5 iC.1 iC.2⟩
 rw[bk oy]at ay
 subst ay
 refine .cond (λ_=>?_) λak=>by cases ak
 refine .eq h1 (.bind (S1 hs g1.oz hk he) λbI aN=>?_)
 obtain⟨i4,an1,ow⟩:=bI
 have g2:=g1.IF aN.2
 simp only at g2
 obtain⟨a2,c2,ad⟩:=g2.st
 refine .eq ad (.oE (abi g2.oz next) λbZ a6=>.ret ?_)
 have g3:=g2.IF a6
 rw[bk aU,bk b4,bk oy]
 refine⟨rfl,?_⟩
 rw[LF,xb,ab0 (Hq e),adU I5,show max 1 next=next by omega]at g3
 exact g3
def acK(hs:cQ s)(aC:lO s)(h:jA s hp P ls next cc A B N)(hb:PC A B N cc){k:Nat}(hk:k<4){e:bD}(he:jq s k e)(al8:∀i∈ls k,Ib i.bj∧(rx i.ik).isSome=true∧0<N i.ik):
 cE (BO hp (some P.x) e) (λr=>match eK (ls k) e with
  |some i=>r.1=0∧jA s r.2 P (kf ls k (hY (ls k) e)) next (cc++[⟨.x5 (some P.x) i⟩]) (hL A (iO s i.bj) (-1)) (hL B (j4 s i.bj) (-1)) (bump N i.ik (-1))
  |none=>r.1=16∧jA s r.2 P (kf ls k (hY (ls k) e)) next cc A B N):=by
 obtain⟨a0,uG,bw⟩:=h.st
 have uh:=h.oz.ok.l5 hk
 unfold BO
 refine .cond (λak=>by cases ak) λ_=>.eq (a:=P.x) I (.eq bw (.bind (S1 hs h.oz hk he) λan h1=>?_))
 obtain⟨i1,err,bH⟩:=an
 obtain⟨h1,ad⟩:=h1
 have g1:=h.IF ad
 simp only at h1 g1
 cases aU:eK (ls k) e with
 | none=>
   rw[aU]at h1
   have a8:err=16:=dF Prod.snd h1
   subst a8
   exact .cond (λ_=>.ret ⟨rfl,g1⟩) λak=>by simp at ak
 | some i=>
   rw[aU]at h1
   have az:i1=i:=dF Prod.fst h1
   have a8:err=0:=dF Prod.snd h1
   subst a8
   have az:=az.symm
   subst az
   obtain⟨hm,_⟩:=xh aU
   obtain⟨a1,aS,iQ⟩:=al8 i hm
   obtain⟨j,aD⟩:=JG.1 aS
   obtain⟨bK,c1,aW⟩:=g1.st
   refine .cond (λak=>by simp at ak) λ_=>.eq (a:=P.x) I (.eq aW (.oE (P:=λy=>lp P.m bH y∧mw s y P.r P.m (hL A (iO s i.bj) (-1)) (hL B (j4 s i.bj) (-1))) ?_ λaH ad=>?_))
   ·exact .bind (Tx hs aC g1.h8 (hb.a.mono (by omega)) (hb.b.mono (by omega)) ⟨⟨k,hk,(uh.ok.ok i hm).fA⟩,a1⟩ (.inr I)) λy hy=>.ret hy
   have g2:=g1.ref ad
   obtain⟨a2,c2,bP⟩:=g2.st
   have hq:N i.ik<100000:=by have:=hb.n i.ik;omega
   refine .eq bP (.oE (aeT hs g2.quo aD ⟨iQ,hq⟩) λbf ay=>?_)
   have g3:=g2.XU ay.1 ay.2
   obtain⟨a3,dM,dc⟩:=g3.st
   exact .eq dc (.eq (Ty hb.j _ _ _ _) (.any λq=>.eq I (.ret ⟨rfl,g3.O5 q.1 q.2⟩)))
end
section
variable{s:aR}{ls:Nat->aa aJ}{next:Int}
def nD(L:aa aJ)(x:Int):Int:=((L.countP λi=>i.ik==x:Nat):Int)
end
def ll(s:aR)(L:aa aJ)(t:b8):Int:=(((L.flatMap λi=>iO s i.bj).count t:Nat):Int)
def jE(s:aR)(L:aa aJ)(t:b8):Int:=(((L.flatMap λi=>j4 s i.bj).count t:Nat):Int)
section
variable{s:aR}{L L':aa aJ}
def RN(h:L.Perm L'):ll s L=ll s L':=by funext t;unfold ll;rw[(h.flatMap_right _).count_eq]
def RO(h:L.Perm L'):jE s L=jE s L':=by funext t;unfold jE;rw[(h.flatMap_right _).count_eq]
def Sf(h:L.Perm L'):nD L=nD L':=by funext x;unfold nD;rw[h.countP_eq]
def RP{i:aJ}:hL (ll s L) (iO s i.bj) 1=ll s (L++[i]):=by
 funext t;unfold ll hL;rw[J0,Ka];simp
def RQ{i:aJ}:hL (jE s L) (j4 s i.bj) 1=jE s (L++[i]):=by
 funext t;unfold jE hL;rw[J0,Ka];simp
def Sg{i:aJ}:bump (nD L) i.ik 1=nD (L++[i]):=by
 funext x;unfold nD bump;rw[List.countP_append,List.countP_singleton];by_cases e:x=i.ik
 ·subst e;rw[bm I];simp
 rw[bk e,bk (by simpa using λh=>e h.symm)];simp
def Sh{A:b8->Int}{l:aa b8}:hL (hL A l 1) l (-1)=A:=by funext t;unfold hL;omega
def ab2{N:Int->Int}{x:Int}:bump (bump N x 1) x (-1)=N:=by
 funext y;unfold bump;by_cases e:y=x
 ·subst e;rw[bm I,bm I];omega
 rw[bk e,bk e]
def abj{i:aJ}(h:(L'++[i]).Perm L):hL (ll s L) (iO s i.bj) (-1)=ll s L':=by rw[<-RN h,<-RP,Sh]
def abk{i:aJ}(h:(L'++[i]).Perm L):hL (jE s L) (j4 s i.bj) (-1)=jE s L':=by rw[<-RO h,<-RQ,Sh]
def ab3{i:aJ}(h:(L'++[i]).Perm L):bump (nD L) i.ik (-1)=nD L':=by rw[<-Sf h,<-Sg,ab2]
end
def N5(a b:Nat->aa aJ):Prop:=∀k,k<4->(a k).Perm (b k)
def N5.symm{a b:Nat->aa aJ}(h:N5 a b):N5 b a:=λk hk=>(h k hk).symm
def zJ{α β:Type}{f:α->aa β}{n:Nat}(aU:∀x,(f x).length<=n):∀l:aa α,(l.flatMap f).length<=n*l.length
 |[]=>by simp
 | x::l=>by
   have:=zJ aU l;have:=aU x;rw[List.flatMap_cons,fB,List.length_cons,Nat.mul_add];omega
def Vj{s:aR}(aC:lO s){ls:Nat->aa aJ}{cc:aa fh}(ad:(eF ls).length<=48)(aD:cc.length<=1000):PC (ll s (eF ls)) (jE s (eF ls)) (nD (eF ls)) cc where
 a t:=by
   have h1:=zJ (f:=λi:aJ=>iO s i.bj) (n:=4) (λi=>Hu aC _) (eF ls);have ay:(List.flatMap (λi:aJ=>iO s i.bj) (eF ls)).count t<=_:=FB;unfold ll;omega
 b t:=by
   have h1:=zJ (f:=λi:aJ=>j4 s i.bj) (n:=1) (λi=>by unfold j4;split <;> simp) (eF ls);have ay:(List.flatMap (λi:aJ=>j4 s i.bj) (eF ls)).count t<=_:=FB;unfold jE;omega
 n x:=by
   have ay:(eF ls).countP (λi=>i.ik==x)<=_:=PY;unfold nD;omega
 j:=aD
abbrev mC(s:aR)(hp:aE Cell)(P:sb)(ls:Nat->aa aJ)(next:Int)(cc:aa fh):Prop:=jA s hp P ls next cc (ll s (eF ls)) (jE s (eF ls)) (nD (eF ls))
section
variable{s:aR}{hp:aE Cell}{P:sb}{ls ls' dP:Nat->aa aJ}{next next':Int}{cc:aa fh}{E5:fh}
def jA.to{A B cg Fq:b8->Int}{N Fs:Int->Int}(h:jA s hp P ls next cc A B N)(a1:A=cg)(hb:B=Fq)(aG:N=Fs):jA s hp P ls next cc cg Fq Fs:=by subst a1 hb aG;exact h
end
def Vk{s:aR}(hs:cQ s)(aC:lO s)(hp:aE Cell):cE (wZ hp s) (λr=> ∃P:sb,r.1=some P.x∧mC s r.2 P (λ_=>[]) 1 []):=by
 have Jk:=hs.tW;unfold wZ;refine .bind (aeS hs hp) λan h1=>?_;obtain⟨t,az,h1⟩:=h1;obtain⟨al6,bH⟩:=an;simp only at az h1;subst az;unfold GZ GU;refine .bind (P:=λaH=> ∃m r,r≠m∧m∉c6 bH∧r∉c6 bH∧aH=(some r,(r,Cell.xF ⟨s,⟨some m⟩⟩)::(m,Cell.qp [])::bH)) (.mk λm hm=>.mk λr aC=>.ret ⟨m,r,?_,hm,?_,rfl⟩) λaH ad=>?_
 ·exact λe=>aC (by rw[e];exact j8)
 ·exact λh=>aC (fr _ h)
 obtain⟨m,r,Ek,hm,AV,rfl⟩:=ad;refine .bind (P:=λbf=> ∃q,q≠r∧q≠m∧q∉c6 bH∧bf=(some q,(q,Cell.qq {(default:hS)with n0:=s.fk})::(r,Cell.xF ⟨s,⟨some m⟩⟩)::(m,Cell.qp [])::bH)) (.eq (a:=s.fk) ?_ (.mk λq hq=>.ret ⟨q,?_,?_,?_,rfl⟩)) λbf ay=>?_
 ·unfold ss;rw[bm ⟨by omega,by rw[Jk];decide,by rw[Jk];decide⟩,Jk];show some (List.take 3 s.fk)=_;rw[<-Jk,l7]
 ·exact λe=>hq (by rw[e];exact j8)
 ·exact λe=>hq (by rw[e];exact fr _ j8)
 ·exact λh=>hq (fr _ (fr _ h))
 obtain⟨q,al9,yp,iN,rfl⟩:=ay;refine .any λcD=>.mk λx al=>.ret ⟨⟨x,t,r,m,q⟩,rfl,?_⟩;simp only at al⊢;have ama:x≠q:=λe=>al (by rw[e];exact j8);have Oi:x≠r:=λe=>al (by rw[e];exact fr _ j8);have amb:x≠m:=λe=>al (by rw[e];exact fr _ (fr _ j8));have gM:x∉c6 bH:=λh=>al (fr _ (fr _ (fr _ h)));have oL:∀z,Bh ⟨x,t,r,m,q⟩ z->z∉c6 bH:=λz b4=>by
  rcases b4 with rfl|rfl|rfl|rfl
  ·exact gM
  ·exact AV
  ·exact hm
  exact iN
 have hold:∀z eW dc bP aW,z∈c6 bH->pat ((x,eW)::(q,dc)::(r,bP)::(m,aW)::bH) z=pat bH z:=λz eW dc bP aW b4=>by
  rw[jC,bk (λe:x=z=>gM (by rw[e];exact b4)),jC,bk (λe:q=z=>iN (by rw[e];exact b4)),jC,bk (λe:r=z=>AV (by rw[e];exact b4)),jC,bk (λe:m=z=>hm (by rw[e];exact b4))]
 obtain⟨XV,eC,own,g1,g2,g3⟩:=h1.cell;have i1:=il (tF g1);have i2:=il (u9 g2);have ii:∀k,k<4->∀z,own k z->z∈c6 bH:=λk hk z b4=>by obtain⟨_,_,ch⟩:=g3.has k hk;exact ch.oH z b4
 refine⟨⟨cD.1,cD.2,?_⟩,⟨⟨XV,eC,own,?_,?_,g3.congr (λz b4=>?_) λk hk z b4=>hold z _ _ _ _ (ii k hk z b4),⟨λh=>oL _ h i1,λh=>oL _ h i2⟩,λk hk z b4 h=>oL z h (ii k hk z b4)⟩,λz b4=>?_⟩,⟨?_,[],?_,.nil,λt=>?_⟩,⟨(default:hS).gK,?_,λj aD=>?_⟩⟩
 ·unfold gh;rw[jC,bm I]
 ·rw[CJ (hold t _ _ _ _ i1)];exact g1
 ·rw[CK (hold XV _ _ _ _ i2)];exact g2
 ·exact fr _ (fr _ (fr _ (fr _ b4)))
 ·rcases b4 with rfl|rfl|rfl|rfl
  ·exact j8
  ·exact fr _ (fr _ j8)
  ·exact fr _ (fr _ (fr _ j8))
  exact fr _ j8
 ·unfold oa;rw[jC,bk Oi,jC,bk al9,jC,bm I]
 ·unfold ob;rw[jC,bk amb,jC,bk yp,jC,bk Ek,jC,bm I]
 ·rw[bm ⟨rfl,rfl⟩];rfl
 ·unfold mQ;rw[jC,bk ama,jC,bm I]
 show b9 (default:Vector Int 6) j=0;have:j=0∨j=1∨j=2:=by omega
 rcases this with rfl|rfl|rfl <;> rfl
section
variable{s:aR}{hp:aE Cell}{P:sb}{ls dP:Nat->aa aJ}{next:Int}{cc:aa fh}{p1:Nat}
end
section
variable{s:aR}{hp:aE Cell}{P:sb}{ls dP:Nat->aa aJ}{next:Int}{cc:aa fh}{p1:Nat}
variable{A B:b8->Int}{N:Int->Int}
end
section
variable{s:aR}{hp:aE Cell}{P:sb}{ls dP:Nat->aa aJ}{next:Int}{cc:aa fh}{p1:Nat}
def Si(h:mC s hp P dP next cc):y0 hp (some P.x)=some (some P.t):=by
 obtain⟨a,b,h1⟩:=h.st;refine bF.get ?_;unfold y0;exact .cond (λak=>by cases ak) λ_=>.eq rfl (.eq h1 (.ret rfl))
def aeW(h:mC s hp P dP next cc):BX hp (some P.x)=some next:=by
 refine bF.get ?_;unfold BX;exact .eq (Si h) (.eq (adS h.oz.ok) (.ret I))
end
def wk:b8->b8->Int:=jb (λx y=>hR x.cu y.cu) (jb (λx y=>hR x.jU y.jU) (λx y=>hR (jg x.b3) (jg y.b3)))
def Vl:k5 wk:=(qo.on λx:b8=>x.cu).jb ((qo.on λx:b8=>x.jU).jb (qo.on λx:b8=>jg x.b3))
def adX{x y:b8}(h:wk x y=0):x=y:=by
 obtain⟨h1,ad⟩:=SX h;obtain⟨ad,ay⟩:=SX ad;have az:=Hs.1 h1;have a8:=Hs.1 ad;have dw:=T1 (Hs.1 ay);obtain⟨a,b,c⟩:=x;obtain⟨gQ,b',ic⟩:=y;simp only at az a8 dw;subst az a8 dw;rfl
def ahA{l:aa Int}(ao:l.length<=1000):CD l=some (mT l):=by
 refine bF.get ?_;unfold CD;refine .bind (P:=λe=>(∃q,e=.inl q∧mT l=0)∨∃q:Int×Int×Int×Bool×Bool,e=.inr q∧q.1=mT l)
  (bF.qn l.length (λj st=>st=(j:Int)∧mT l=mT (l.drop j)) (by omega) ⟨rfl,rfl⟩ (λj st aD hs=>?_) (λst hs=>?_)) λe he=>?_
 ·obtain⟨rfl,hs⟩:=hs;rw[tc aD]at hs;have hs:mT l=if l[j]=0 then mT (l.drop (j+1))else l[j]:=hs;refine .cond (λ_=>.idx I aD ?_) λak=>by simp at ak;omega
  rw[e2 _ aD];refine .cond (λak=>.ret (.inr ⟨_,rfl,?_⟩)) λak=>.ret ⟨gY (by omega),?_⟩
  ·have:l[j]≠0:=by simpa using ak
   rw[hs,bk this]
  have:l[j]=0:=by simpa using ak
  rw[hs,bm this]
 ·obtain⟨rfl,hs⟩:=hs;refine .cond (λak=>by simp at ak) λ_=>.ret (.inl ⟨_,rfl,?_⟩);rw[hs,uK];rfl
 rcases he with⟨q,rfl,hq⟩|⟨q,rfl,hq⟩
 ·simp only[Sum.elim_inl];exact .ret hq.symm
 simp only[Sum.elim_inr];exact .ret hq
def aeX(a b:hj):BT a b=some (wk a.gq b.gq):=by
 unfold BT;rw[tG,tG,Mg];simp only[Option.bind_some];rw[ahA (by simp)];simp only[Option.bind_some,mT,wk,jb];congr 1;split
 ·split
  ·split
   ·rename_i h;exact h.symm
   rfl
  rfl
 rfl
structure PD(T:List b8)(N M:List Int)(A B:b8->Int):Prop where
 anD:T.Pairwise (λa b=>wk a b<0)
 mem:∀x,x∈T↔¬(A x=0∧B x=0)
 n:N=T.map A
 m:M=T.map B
def Mj{α β:Type}[DecidableEq α]:∀{l:aa (α×β)} {x:α} {v:β},nh l->(x,v)∈l->c4 l x=some v
 | (k,w)::r,x,v,hk,h=>by
   obtain⟨h1,ad⟩:=l6.1 hk;show(if x=k then some w else c4 r x)=some v;rcases dB.1 h with e|h
   ·cases e;exact bm I
   have:k≠x:=h1 (x,v) h;rw[bk (w0 this)];exact Mj ad h
def aeY{s:aR}{hp:aE Cell}{p m:Nat}{A B:b8->Int}(h:mw s hp p m A B)(hlen:∀kv,ob hp m=some kv->kv.length<=1000):
 cE (Cq hp (some p)) (λr=>r.2=hp∧r.1.length<=1000∧PD (r.1.map (·.gq)) (r.1.map (·.u1)) (r.1.map (·.uZ)) A B):=by
 obtain⟨em,ad,iz,bu⟩:=h.map
 have sX:=hlen em ad
 let F:Nat->hj:=λq=>⟨(aF em q).1,(aF em q).2.oV,(aF em q).2.oT⟩
 have vw:∀vis,Met em.length vis->(∀j,j<em.length->j∈vis)->(vis.map F).Perm (em.map λx=>(⟨x.1,x.2.oV,x.2.oT⟩:hj)):=λvis a7 a1=>by
  refine((a7.perm a1).map _).trans ?_;rw[show(List.range em.length).map F=((List.range em.length).map (λq=>aF em q)).map (λx=>(⟨x.1,x.2.oV,x.2.oT⟩:hj)) by rw[uN];rfl,Sc]
 unfold Cq
 refine .cond (λak=>by cases ak) λ_=>.eq rfl (.eq h.cell (.eq (a:=m) I (.eq ad ?_)))
 refine .bind (P:=λe=>e.2.2.Perm (em.map λx=>(⟨x.1,x.2.oV,x.2.oT⟩:hj))) (cE.loop em.length (λj st=> ∃vis,st=(vis,vis.map F)∧vis.length=j∧Met em.length vis) (by omega) ⟨[],rfl,rfl,.nil,by simp⟩ (λj st aD hs=>?_) (λst hs=>?_)) λe he=>?_
 ·obtain⟨vis,rfl,qG,a7⟩:=hs
  refine .next λo aS=>?_
  cases o with
  |none=>exact .cond (λak=>by cases ak) λ_=>.ret (vw vis a7 aS)
  | some q=>
    refine .cond (λ_=>.eq I (.eq I (.eq (iU _ _ (by simp;omega) (by omega)) (.ret ⟨vis++[q],?_,by simp[qG],a7.more aS⟩)))) λak=>by cases ak
    rw[tf];rfl
 ·obtain⟨vis,rfl,qG,a7⟩:=hs
  refine .next λo aS=>?_
  cases o with
  |none=>exact .cond (λak=>by cases ak) λ_=>.ret (vw vis a7 aS)
  |some q=>exact absurd (a7.full qG aS.1) aS.2
 have hle:=he.length_eq
 rw[jO]at hle
 refine .bind (cE.tI (c:=λa b=>wk a.gq b.gq) ⟨λx y=>Vl.neg _ _,λx y z=>Vl.l2 _ _ _⟩ (by omega) λa _ b _=>aeX a b) λy hy=>.ret ?_
 have cb:y.Perm (em.map λx=>(⟨x.1,x.2.oV,x.2.oT⟩:hj)):=hy.1.trans he
 have rV:(y.map (·.gq)).Perm (em.map (·.1)):=by
  have:=cb.map (·.gq);rwa[uN]at this
 have hm:∀c∈y,∃x∈em,c=⟨x.1,x.2.oV,x.2.oT⟩:=λc ak=>by
  obtain⟨x,al,e⟩:=gH.1 (cb.mem_iff.1 ak);exact⟨x,al,e.symm⟩
 have a7:∀x∈em,¬(A x.1=0∧B x.1=0)∧x.2=⟨A x.1,B x.1⟩:=λx al=>by
  have e5:=bu x.1;rw[Mj iz al]at e5;split at e5
  ·cases e5
  rename_i b4;exact⟨b4,y7 e5⟩
 have jv:(y.map (·.gq)).Nodup:=rV.nodup_iff.2 (BF.2 iz)
 refine⟨rfl,(by have:=cb.length_eq;rw[jO]at this;show y.length<=1000;omega),⟨?_,λx=>?_,?_,?_⟩⟩
 ·have ed:(y.map (·.gq)).Pairwise (λa b=>wk a b<=0):=BF.2 hy.2
  refine(ed.and jv).imp λ{a b} amc=>?_
  have:wk a b≠0:=λe=>amc.2 (adX e)
  omega
 ·rw[rV.mem_iff,gH]
  constructor
  ·rintro ⟨z,b4,rfl⟩;exact(a7 z b4).1
  intro al
  have e5:=bu x
  rw[bk al]at e5
  exact⟨_,LR e5,rfl⟩
 ·rw[uN]
  refine J1 λc ak=>?_
  obtain⟨x,al,rfl⟩:=hm c ak
  exact dF ji.oV (a7 x al).2
 rw[uN]
 refine J1 λc ak=>?_
 obtain⟨x,al,rfl⟩:=hm c ak
 exact dF ji.oT (a7 x al).2
def adY(s:aR)(e:bD):(j4 s e).length<=1:=by unfold j4;split <;> simp
def acL{s:aR}(aC:lO s)(L:aa aJ)(t:b8):0<=ll s L t∧ll s L t<=4*L.length:=by
 have h1:=zJ (f:=λi:aJ=>iO s i.bj) (n:=4) (λi=>Hu aC _) L;have ad:=FB (a:=t) (l:=L.flatMap λi=>iO s i.bj);unfold ll;omega
def T5{α:Type}[DecidableEq α]:∀{l l':aa α},l.Nodup->(∀x∈l,x∈l')->l.length<=l'.length
 |[],_,_,_=>by simp
 | x::r,l',aG,hs=>by
   obtain⟨h1,ad⟩:=nm.1 aG;have al:=hs x j8;have ay:=T5 ad (l':=l'.erase x) λy hy=>(P8 (λe=>h1 (by rw[<-e];exact hy))).2 (hs y (fr _ hy));have aN:=PO al;have a6:=PW al;rw[List.length_cons];omega
section
variable{s:aR}{hp:aE Cell}{P:sb}{dP:Nat->aa aJ}{next:Int}{cc:aa fh}
def aeZ(aC:lO s)(h:mC s hp P dP next cc)(cH:(eF dP).length<=48):∀kv,ob hp P.m=some kv->kv.length<=1000:=λkv sZ=>by
 obtain⟨qI,h1,ad,ay⟩:=h.h8.map;rw[h1]at sZ;cases sZ;have aN:=T5 (l:=kv.map (·.1)) (l':=((eF dP).flatMap λi=>iO s i.bj)++((eF dP).flatMap λi=>j4 s i.bj)) (BF.2 ad) λt bq=>by
  obtain⟨x,al,rfl⟩:=gH.1 bq;have a6:=ay x.1;rw[Mj ad al]at a6;split at a6
  ·cases a6
  rename_i b4;refine bX.2 (PK λeP=>b4 ?_);simp only[w1]at eP;unfold ll jE;rw[Qm.2 eP.1,Qm.2 eP.2];exact⟨rfl,rfl⟩
 have a6:=zJ (f:=λi:aJ=>iO s i.bj) (n:=4) (λi=>Hu aC _) (eF dP);have bh:=zJ (f:=λi:aJ=>j4 s i.bj) (n:=1) (λi=>adY s _) (eF dP);rw[jO,fB]at aN;omega
def ae0(aC:lO s)(h:mC s hp P dP next cc)(r1:(eF dP).length<=48):
 cE (Bz hp (some P.x)) (λr=>r.2=hp∧r.1.length<=1000∧∃T N M,PD T N M (ll s (eF dP)) (jE s (eF dP))∧r.1=T.filter λx=>decide (jE s (eF dP) x=0)):=by
 obtain⟨a,b,h1⟩:=h.st
 unfold Bz FU
 refine .cond (λak=>by cases ak) λ_=>.eq rfl (.eq h1 (.bind (P:=λr=>r.2=hp∧r.1.length<=1000∧∃T N M,PD T N M (ll s (eF dP)) (jE s (eF dP))∧r.1=T.filter λx=>decide (jE s (eF dP) x=0)) (.bind (aeY h.h8 (aeZ aC h r1)) λz b4=>?_) λr aC=>.ret aC))
 obtain⟨z,hp'⟩:=z
 obtain⟨rfl,I0,b4⟩:=b4
 simp only at b4 I0
 have sX:∀c∈z,c.u1=ll s (eF dP) c.gq∧c.uZ=jE s (eF dP) c.gq:=λc ak=>by
  have g1:=b4.n;have g2:=b4.m;rw[uN]at g1 g2;exact⟨List.map_inj_left.1 g1 _ ak,List.map_inj_left.1 g2 _ ak⟩
 have akn:∀c∈z,((decide (c.u1>0))&&(c.uZ==0))=decide (jE s (eF dP) c.gq=0):=λc ak=>by
  obtain⟨g1,g2⟩:=sX c ak;have g3:=(b4.mem c.gq).1 (gH.2 ⟨c,ak,rfl⟩);have g4:=acL aC (eF dP) c.gq;rw[g1,g2,mI];simp only[gJ,fZ,nV];omega
 have kJ:((z.map (·.gq)).filter λx=>decide (jE s (eF dP) x=0))=(z.filter λc=>decide (jE s (eF dP) c.gq=0)).map (·.gq):=by rw[List.filter_map];rfl
 refine .oE (P:=λe=>e.2.2=(z.filter λc=>decide (jE s (eF dP) c.gq=0)).map (·.gq)) (bF.qn z.length (λi st=>st=((i:Int),((z.take i).filter λc=>decide (jE s (eF dP) c.gq=0)).map (·.gq))) (by omega) I (λi st aw cU=>?_) λst cU=>?_) λe he=>.ret ⟨rfl,?_,_,_,_,b4,he.trans kJ.symm⟩
 ·subst cU
  have hle:(((z.take i).filter λc=>decide (jE s (eF dP) c.gq=0)).map (·.gq)).length<=1000:=by
   rw[jO];exact oQ (Bq _ _) (by rw[fg];omega)
  refine .cond (λ_=>.idx I aw (.eq I ?_)) λak=>by simp at ak;omega
  rw[akn _ (Hd aw),Ra _ aw,td,tf]
  refine .bind (P:=λm=>m=((z.take i).filter λc=>decide (jE s (eF dP) c.gq=0)).map (·.gq)++([aF z i].filter λc=>decide (jE s (eF dP) c.gq=0)).map (·.gq)) (.cond (λak=>.eq (iU _ _ (by simp only[List.length_cons,List.length_nil];omega) (by omega)) (.ret ?_)) λak=>.ret ?_) λm hm=>.ret (by rw[hm,gY (by omega)])
  ·rw[yR (by simpa using ak)];rfl
  rw[wo (by simpa using ak)];simp
 ·subst cU
  refine .cond (λak=>by simp at ak) λ_=>.ret ?_
  show((z.take z.length).filter _).map _=_
  rw[l7]
 show e.2.2.length<=1000
 rw[he,jO];exact oQ (Bq _ _) I0
end
def Sj{α:Type}{m:av α}{d:α}(h:m.isSome=true):m=some (m.getD d):=by cases m with |none=>cases h|some _=>rfl
def A6:e6:=(uV ([]:aa (BitVec 8)) 0).getD default
def MK:uV ([]:aa (BitVec 8)) 0=some A6:=Sj (by kernel_rfl)
def Xt:aR×e6:=(p7 A6).getD default
def HQ:p7 A6=some Xt:=Sj (by kernel_rfl)
def qK:aR:=Xt.1
def ae1:cQ qK:=((RG A6 ((Mb [] 0 (by decide) (by decide)).of_eq MK)).of_eq HQ).1
def ako(Fo:Nat):c3:= {cd:=ByteArray.mk #[97],hE:=4,du:=(Fo:Int)}
def amB(Fo:Nat):aR:= {qK with bM:=fi qK.bM 0 ({(aF qK.bM 0)with ca:=[ako Fo]}:bC)}
def dk:Vector aX 4:=default
def qz(i:Nat):aJ:= {bj:=j7 i,ct:=(i:Int)+1,ik:=1}
def gO(n:Nat):Nat->aa aJ:=kf (λ_=>[]) 0 ((List.range n).map qz)
def S5:gO 0=λ_=>[]:=by funext j;unfold gO kf;split <;> rfl
def sx(n:Nat):gO n 0=(List.range n).map qz:=xb
def C0(n:Nat):eF (gO n)=(List.range n).map qz:=by
 unfold eF;rw[sx,show gO n 1=[]from nv (by decide),show gO n 2=[]from nv (by decide),show gO n 3=[]from nv (by decide),l8,l8,l8]
def zP(n:Nat):(eF (gO n)).length=n:=by rw[C0,jO,wD]
def acM(n:Nat):kf (gO n) 0 (gO n 0++[qz n])=gO (n+1):=by
 rw[sx];unfold gO;rw[LF,y6,tf];rfl
def amd:∀a b:Fin 16,ie (j7 a.1) (j7 b.1)=decide (a.1=b.1):=by decide +kernel
def Hv{n:Nat}{i:aJ}(h:i∈(List.range n).map qz):∃j,j<n∧i=qz j:=by
 obtain⟨j,h1,ad⟩:=gH.1 h;exact⟨j,nn.1 h1,ad.symm⟩
def akp{n:Nat}(h:n<16):eK (gO n 0) (j7 n)=none:=by
 rw[sx];unfold eK;refine FI.2 λi aw=>?_;obtain⟨j,aD,rfl⟩:=Hv aw;rw[show ie (qz j).bj (j7 n)=decide (j=n)from amd ⟨j,by omega⟩ ⟨n,h⟩];simp;omega
def Wq(i:Nat):Ib (j7 i):=λh=>by rcases h with h|h <;> cases h
section
variable{s:aR}{hp:aE Cell}{P:sb}{dP:Nat->aa aJ}{next:Int}{cc:aa fh}
def akq(aC:lO s)(i:Nat):iO s (j7 i)=[]:=by
 unfold iO;refine PR.2 λr yd=>?_;have h:=aC.refs r yd;unfold oI;rw[bk];intro ch;have bq:r.cu=(1:Int):=ch;rcases h.2.2 with h|h|h|h <;> (have:=h.1;omega)
def Vm(hs:cQ s)(aC:lO s)(hb:rr s)(bq:(aF s.bM 0).iT=ByteArray.mk #[]){i:Nat}(aw:i<10)(b4:(i:Int)<(aF s.bM 0).e3)(h:mC s hp P (gO i) ((i:Int)+1) cc)(aD:cc.length<=i):
 cE (uQ hp (some P.x) s 1 ⟨1,j7 i⟩) (λr=>r.1=0∧∃ph,ph.length<=i+1∧mC s r.2 P (gO (i+1)) ((i:Int)+1+1) ph):=by
 have lv:=zP i
 have AB:nD (eF (gO i)) 1<=(i:Int):=by
  have ay:(eF (gO i)).countP (λi=>i.ik==1)<=_:=PY;unfold nD;omega
 have oy:room s (nD (eF (gO i))) 1=true:=by
  show decide (nD (eF (gO i)) 1<(aF s.fk 0).jD)=true;rw[aC.all];exact za (by omega)
 unfold uQ
 refine .eq (abg hs hb bq aw) (.cond (λak=>by cases ak) λ_=>.cond (λ_=>.bind (acJ hs aC h (Vj aC (by omega) (by omega)) (k:=0) (by decide) (Vh hs (by omega)) (Wq i) 1 (λx al=>?_) (by rw[sx,jO,wD];omega) ⟨by omega,by omega⟩) λr ed=>.ret ?_) λak=>by cases ak)
 ·rw[sx]at al
  obtain⟨j,aD,rfl⟩:=Hv al
  show(j:Int)+1<i+1
  omega
 rw[bk (by rw[akp (by omega)];simp),bk (by rw[sx,jO,wD];omega),bm oy]at ed
 obtain⟨PE,g8⟩:=ed
 have hp:=acF (ls:=gO i) (k:=0) (by decide) (qz i)
 have g:=g8.to (RP.trans (RN hp)) (RQ.trans (RO hp)) (Sg.trans (Sf hp))
 rw[show({bj:=j7 i,ct:=(i:Int)+1,ik:=1}:aJ)=qz i from rfl,acM]at g
 exact⟨PE,_,by rw[fB];simp;omega,g⟩
def ahB(hs:cQ s)(aC:lO s)(hb:rr s)(bq:(aF s.bM 0).iT=ByteArray.mk #[])(h:mC s hp P (gO 1) 2 cc)(aD:cc.length<=1):
 cE (uQ hp (some P.x) s 1 ⟨3,{j7 0 with eg:=0}⟩) (λr=>r.1=0∧∃ph,ph.length<=2∧mC s r.2 P (gO 0) 2 ph):=by
 have gn:=Vh hs (w:=0) (by decide)
 unfold uQ
 refine .eq (abh hs hb bq) (.cond (λak=>by cases ak) λ_=>.cond (λak=>by cases ak) λ_=>.cond (λak=>by cases ak) λ_=>.bind (acK hs aC h (Vj aC (by rw[zP];decide) (by omega)) (k:=0) (by decide) (e:= {j7 0 with eg:=0}) ⟨gn.k3,gn.len,gn.A2,gn.args,gn.pri⟩ λx al=>?_) λr ed=>.ret ?_)
 ·rw[sx]at al
  obtain⟨j,aD,rfl⟩:=Hv al
  refine⟨Wq j,rfl,?_⟩
  rw[C0]
  show(0:Int)<nD ((List.range 1).map qz) 1
  decide
 rw[show eK (gO 1 0) {j7 0 with eg:=0} =some (qz 0) by rw[sx];kernel_rfl]at ed
 obtain⟨PE,g8⟩:=ed
 have O3:hY (gO 1 0) {j7 0 with eg:=0} =[]:=by rw[sx];kernel_rfl
 rw[O3]at g8
 have ao:kf (gO 1) 0 []=gO 0:=by unfold gO;rw[LF];rfl
 rw[ao]at g8
 have bH:(eF (gO 0)++[qz 0]).Perm (eF (gO 1)):=by rw[C0,C0];exact .refl _
 exact⟨PE,_,by rw[fB];simp;omega,g8.to (abj bH) (abk bH) (ab3 bH)⟩
def Tz(aC:lO s){l:aa ih}(dP:Nat->Nat->aa aJ)(yP:Nat->Int)(ao:(l.length:Int)<=s.kP)(e5:s.kP<=9)(h:mC s hp P (dP 0) (yP 0) [])
 (step:∀i hp' cc,i<l.length->cc.length<=i->mC s hp' P (dP i) (yP i) cc->cE (uQ hp' (some P.x) s 1 (aF l i)) (λr=>r.1=0∧∃ph,ph.length<=i+1∧mC s r.2 P (dP (i+1)) (yP (i+1)) ph))
 (aG:(eF (dP l.length)).length<=48) (hd:∀i∈eF (dP l.length),iO s i.bj=[]):
 cE (uT hp (some P.x) s 1 l) (λr=>r.1=0∧r.2.1=0∧mC s r.2.2 P (dP l.length) (yP l.length) []):=by
 obtain⟨a0,uG,bw⟩:=h.st
 unfold uT
 refine .cond (λak=>by simp only[fZ]at ak;omega) λ_=>.eq (a:=P.x) I (.eq bw (.eq (a:=0) I ?_))
 refine .bind (P:=λe=> ∃q:Int×Bool×aE Cell,e=.inl q∧∃cc,mC s q.2.2 P (dP l.length) (yP l.length) cc) (cE.loop l.length (λi st=>st.1=(i:Int)∧∃cc,cc.length<=i∧mC s st.2 P (dP i) (yP i) cc) (by omega) ⟨rfl,[],h5 0,h⟩ (λi st aw cU=>?_) λst cU=>?_) λe he=>?_
 ·obtain⟨x,hp'⟩:=st
  obtain⟨az,cc,aD,g⟩:=cU
  simp only at az g;subst az
  refine .cond (λ_=>.idx I aw (.bind (step i hp' cc aw aD g) λy hy=>?_)) λak=>by simp only[mD]at ak;omega
  obtain⟨a8,ph,ye,dQ⟩:=hy
  rw[a8]
  exact .cond (λak=>by cases ak) λ_=>.ret ⟨gY (by omega),ph,ye,dQ⟩
 ·obtain⟨x,hp'⟩:=st
  obtain⟨az,cc,aD,g⟩:=cU
  simp only at az g;subst az
  exact .cond (λak=>by simp at ak) λ_=>.ret ⟨_,rfl,cc,g⟩
 obtain⟨q,rfl,cc,g⟩:=he
 simp only[Sum.elim_inl]
 refine .bind (ae0 aC g aG) λbf ay=>?_
 obtain⟨bf,hp'⟩:=bf
 obtain⟨rfl,_,T,N,M,rV,dw⟩:=ay
 simp only at dw
 have eo:∀t,ll s (eF (dP l.length)) t=0:=λt=>by
  unfold ll;rw[PR.2 hd];rfl
 have h2:bf=[]:=by
  rw[dw];refine List.filter_eq_nil_iff.2 λt bq hb=>?_;exact(rV.mem t).1 bq ⟨eo t,wE hb⟩
 subst h2
 obtain⟨bK,c1,h1⟩:=g.st
 refine .cond (λak=>by cases ak) λ_=>.bind (P:=λr=>mC s r P (dP l.length) (yP l.length) []) ?_ λr aC=>.ret ⟨rfl,rfl,aC⟩
 unfold zj
 exact .cond (λak=>by cases ak) λ_=>.eq (a:=P.x) I (.eq h1 (.eq I (.any λq=>.eq I (.ret (g.O5 q.1 q.2)))))
def Mk(hs:cQ s)(h:mC s hp P dP next cc)(ao:∀k,k<4->(dP k).length<=48):cE (wL hp (some P.x)) (λr=>r.2=hp∧r.1.length=(eF dP).length):=by
 unfold wL;refine .eq (Si h) (.bind (P:=λr=>r.2=hp∧r.1.length=(eF dP).length) ?_ λr aC=>.ret aC);have cU:=h.oz.ok;obtain⟨m,eC,own,h1,ad,ay⟩:=cU.cell;unfold GC;refine .cond (λak=>by cases ak) λ_=>.eq rfl (.eq h1 ?_);refine .bind (P:=λe=>e.2.2.2=hp∧e.2.2.1.length=(DQ dP 4).length) (cE.loop 4 (λk st=> ∃out,st=((k:Int),out,hp)∧out.length=(DQ dP k).length∧out.length<=48*k) (by decide) ⟨[],rfl,rfl,by simp⟩ (λk st hk N6=>?_) (λst N6=>?_)) λe he=>.ret ⟨he.1,?_⟩
 ·obtain⟨out,rfl,bH,cw⟩:=N6;have ame:=(hs.k3 hk).1;have yf:=hs.oo;refine .cond (λ_=>?_) λak=>by simp only[mD]at ak;omega
  refine .idx (k:=k) I (by show k<s.bM.length;omega) ?_;show cE (ah.bind (Ch hp (some P.t) (aF s.bM k).b2) λan=>_) _;rw[ame];obtain⟨q,nQ,g1,g2⟩:=LS cU hk;have eI:=ao k hk;unfold Ch;refine .bind (P:=λr=>r.2=hp∧r.1.length=(dP k).length) (.eq g1 (.bind (ahy hs hk g2 (by omega)) λr aC=>.ret ⟨aC.1,aC.2.1.length_eq⟩)) λan bs=>?_;obtain⟨T,hp'⟩:=an;obtain⟨az,a8⟩:=bs;simp only at az a8;subst az;refine .eq (iU _ _ (by simp only;omega) (by omega)) (.ret ⟨_,by rw[gY (by omega)],?_,?_⟩)
  ·rw[fB];unfold DQ;rw[fB];simp only;omega
  rw[fB];simp only;omega
 ·obtain⟨out,rfl,bH,_⟩:=N6;have yf:=hs.oo;refine .cond (λak=>?_) λ_=>.ret ⟨rfl,bH⟩;have ak:decide ((4:Int)<(s.bM.length:Int))=true:=ak;rw[yf]at ak;cases ak
 rw[he.2];unfold eF;simp[DQ]
end
def ML(n:Nat)(h:n<=48):∀k,k<4->(gO n k).length<=48:=λk hk=>by
 by_cases e:k=0
 ·subst e;rw[sx,jO,wD];exact h
 rw[show gO n k=[]from nv e];simp
def T6{s:aR}(aC:lO s)(n:Nat):∀i∈eF (gO n),iO s i.bj=[]:=λi aw=>by
 rw[C0]at aw;obtain⟨j,_,rfl⟩:=Hv aw;exact akq aC j
def Sk(hp:aE Cell):cE (zA hp) (λr=>r.1=true):=by
 have ue:=(Mb [] 0 (by decide) (by decide)).of_eq MK;have hs:cQ qK:=ae1;have aC:lO qK:=RH A6 _ HQ;have hb:rr qK:=Rs A6 ue _ HQ;have bq:(aF qK.bM 0).iT=ByteArray.mk #[]:=by kernel_rfl
 have b4:(2:Int)<=(aF qK.bM 0).e3:=by decide +kernel
 unfold zA;refine .eq MK (.eq HQ ?_);show cE (ah.bind (wZ hp qK) _) _;refine .bind (Vk hs aC hp) λbf ay=>?_;obtain⟨P,dw,g0⟩:=ay;obtain⟨anE,gC⟩:=bf;simp only at dw g0;subst dw;refine .eq (a:=j7 0) (by kernel_rfl) (.eq (a:=(⟨3,{j7 0 with eg:=0}⟩:ih)) I ?_);rw[<-S5]at g0;show cE (ah.bind (uT gC (some P.x) qK 1 [⟨1,j7 0⟩,⟨3,{j7 0 with eg:=0}⟩]) _) _;refine .bind (Tz aC (λi=>gO (if i=1 then 1 else 0)) (λi=>if i=0 then 1 else 2) hb.nP.1 hb.nP.2 g0 (λi hp' cc aw aD g=>?_) (by decide) (T6 aC _)) λbI aN=>?_
 ·have:i=0∨i=1:=by have:i<2:=aw;omega
  rcases this with rfl|rfl
  ·exact Vm hs aC hb bq (i:=0) (by decide) (by omega) g aD
  exact ahB hs aC hb bq g aD
 obtain⟨pA,eW,ow⟩:=bI;obtain⟨az,a8,g4⟩:=aN;simp only at az a8;subst az a8;have g4:mC qK ow P (gO 0) 2 []:=g4;obtain⟨a4,gy,aN⟩:=g4.st;refine .bind (P:=λr=>r.2=ow∧r.1.length=0) (.cond (λ_=>(Mk hs g4 (ML 0 (by decide))).mono λr aC=>⟨aC.1,aC.2.trans (zP 0)⟩) λak=>by cases ak) λbZ a6=>?_;obtain⟨amE,anF⟩:=bZ;obtain⟨rfl,a6⟩:=a6;have a6:amE=[]:=Ft a6;subst a6;exact .eq (a:=(2:Int)) (show cj true true _=_ from(bm I).trans (aeW g4)) (.eq (a:=true) I (.eq (a:=P.x) I (.eq (a:=_) (show cj true true _=some _ from(bm I).trans aN) (.eq (a:=(0:Int)) I (.ret I)))))
def aaC(hp:aE Cell)(ab:aa (BitVec 8))(aj:Int):cE (Cn hp ab aj) (λr=>r.1=true):=by
 unfold Cn;refine .oE (Mb ab 120 (by omega) (by omega)) λan h1=>.oE (bF.par (bF.par (RG an h1) (RH an)) (Rs an h1)) λaH ad=>?_;obtain⟨⟨⟨k1,_⟩,E0⟩,E1⟩:=ad;obtain⟨s0,c2⟩:=aH;simp only at k1 E0 E1⊢;have yf:=k1.oo;refine .eq (a:=s0.bM) (iU _ _ (by simp only[List.length_nil];omega) (by omega)) (.idx (k:=0) I (by omega) (.eq I (.idx (k:=0) I (by unfold fi;rw[sc];omega) (.eq I ?_))));generalize rV:fi (fi s0.bM 0 ({(aF s0.bM 0)with iT:=ByteArray.mk #[]}:bC)) 0 ({(aF (fi s0.bM 0 ({(aF s0.bM 0)with iT:=ByteArray.mk #[]}:bC)) 0)with e3:=16}:bC)=T;have bu:∀k,aF T k=if k=0 then({(aF s0.bM 0)with iT:=ByteArray.mk #[],e3:=16}:bC)else aF s0.bM k:=λk=>by
  rw[<-rV,CO (by unfold fi;rw[sc];omega)];by_cases e:k=0
  ·rw[bm e,bm e,CO (by omega),bm I]
  rw[bk e,bk e,CO (by omega),bk e]
 generalize r1:({s0 with bM:=T}:aR)=S;have Xu:S.bM=T:=by rw[<-r1]
 have da:(aF S.bM 0).e3=16:=by rw[Xu,bu,bm I]
 have bq:(aF S.bM 0).iT=ByteArray.mk #[]:=by rw[Xu,bu,bm I]
 have Xv:T.map kb=s0.bM.map kb:=by
  rw[<-rV];exact zH kb I (zH kb I I)
 have hs:cQ S:=by
  rw[<-r1];refine⟨k1.fields,k1.headers,k1.aeE,k1.adC,?_,k1.Nr,λx al=>?_⟩
  ·obtain⟨cZ,dA,gF,e⟩:=k1.tables;exact⟨cZ,dA,gF,Xv.trans e⟩
  obtain⟨t,hm,rfl⟩:=gH.1 al;have hm:t∈T:=hm;obtain⟨k,hk,e⟩:=yX.1 hm;have e:t=aF T k:=by rw[e2 _ hk];exact e.symm
  have nK:k<4:=by
   have:T.length=4:=by rw[<-jO (f:=kb),Xv,jO,yf]
   omega
  rw[e,bu];by_cases gn:k=0
  ·rw[bm gn];exact⟨by show(2:Int)<=16;decide,by show(16:Int)<=16;decide⟩
  rw[bk gn];exact k1.size nK
 have aC:lO S:=by
  rw[<-r1];refine⟨λr yd=>?_,E0.tW,E0.quo,E0.all⟩;have h:=E0.refs r yd;unfold AA at h⊢;simp only[bu];exact h
 have hb:rr S:=by rw[<-r1];exact⟨E1.nP,E1.act,E1.Jh,E1.Jy⟩
 have Ji:s0.kP=S.kP:=by rw[<-r1]
 rw[Ji];refine .bind (Vk hs aC hp) λbI aN=>?_;obtain⟨P,h2,g0⟩:=aN;obtain⟨anG,ow⟩:=bI;simp only at h2 g0;subst h2;rw[<-S5]at g0;obtain⟨d,hd,dJ⟩:=adD aj 3 (by omega) (by omega);have hm:=hb.nP;obtain⟨n,aG⟩:∃n:Nat,bz (bz (S.kP-1)+d)=(n:Int):=⟨(S.kP-1+d).toNat,by rw[hr (x:=S.kP-1) (by omega) (by omega),hr (by omega) (by omega)];omega⟩;have pV:(n:Int)<=S.kP+1:=by
  rw[<-aG,hr (x:=S.kP-1) (by omega) (by omega),hr (by omega) (by omega)];omega
 refine .oE (P:=λe=>e.2.2=(List.range n).map λi=>(⟨1,j7 i⟩:ih)) (bF.qn n (λi st=>st=((i:Int),(List.range i).map λi=>(⟨1,j7 i⟩:ih))) (by omega) I (λi st aw cU=>?_) λst cU=>?_) λe he=>?_
 ·subst cU;refine .eq hd ?_;rw[aG];refine .cond (λ_=>.eq I (.eq I (.eq I (.eq (iU _ _ (by simp;omega) (by omega)) (.ret ?_))))) λak=>by simp only[mD]at ak;omega
  rw[gY (by omega),y6,tf];rfl
 ·subst cU;refine .eq hd ?_;rw[aG];exact .cond (λak=>by simp at ak) λ_=>.ret I
 obtain⟨i1,cZ,l⟩:=e;simp only at he;subst he;have yu:((List.range n).map λi=>(⟨1,j7 i⟩:ih)).length=n:=by rw[jO,wD]
 refine .eq I ?_;simp only[yu];by_cases hle:(n:Int)<=S.kP
 ·refine .bind (Tz aC (λi=>gO i) (λi=>(i:Int)+1) (by rw[yu];exact hle) hb.nP.2 (by simpa using g0) (λi hp' cc aw aD g=>?_) (by rw[zP,yu];omega) (T6 aC _)) λdg cH=>?_
  ·rw[yu]at aw;rw[e2 _ (by rw[yu];exact aw),y4,FJ];exact Vm hs aC hb bq (by omega) (by rw[da];omega) g aD
  obtain⟨n7,an2,amf⟩:=dg;obtain⟨az,a8,g7⟩:=cH;simp only at az a8;subst az a8;rw[yu]at g7;refine .cond (λak=>by simp only[fZ]at ak;omega) λ_=>?_;refine .bind (P:=λr=>r.2=amf∧r.1.length=n) (.cond (λ_=>(Mk hs g7 (ML n (by omega))).mono λr aC=>⟨aC.1,aC.2.trans (zP n)⟩) λak=>by cases ak) λkC EO=>?_;rw[EO.2];refine .bind (P:=λr=>r.1=true) (.cond (λ_=>Sk _) λak=>by simp at ak) λmW ON=>.eq I (.ret ?_);rw[ON];simp
 refine .bind (P:=λr=>r=(0,24,ow)) ?_ λdg cH=>?_
 ·unfold uT;exact .cond (λ_=>.ret I) λak=>by rw[yu]at ak;simp only[mD]at ak;omega
 subst cH;refine .cond (λ_=>?_) λak=>by simp only[mD]at ak;omega
 refine .bind (P:=λr=>r.2=ow∧r.1.length=0) (.cond (λ_=>(Mk hs g0 (ML 0 (by decide))).mono λr aC=>⟨aC.1,aC.2.trans (zP 0)⟩) λak=>by cases ak) λeB ed=>?_;rw[ed.2];refine .bind (P:=λr=>r.1=true) (.cond (λ_=>Sk _) λak=>by simp at ak) λiy lS=>.eq I (.ret ?_);rw[lS];rfl
def aaq(ab:aa (BitVec 8))(aj:Int):Cn [] ab aj (λr=>r.1=true):=(aaC [] ab aj).run
end Go.Proofs.YtdadopcnkghbaaaGreat
