/-
  What the programs compute, in plain Lean. Conditions: none.
-/
import Derived.Test.YtlkieppifclacaaGreatMp0
import Derived.Test.YtlkieppifclacaaGreatMd
set_option linter.defProp false
set_option linter.unusedVariables false
set_option linter.unusedSimpArgs false
set_option maxRecDepth 100000
namespace Go.Proofs.YtlkieppifclacaaGreat
open Go Gv
def rx(x:Int):aA Nat:=if x=1 then some 0 else if x=2 then some 1 else if x=7 then some 2 else none
def cA.kj{s:aD}(h:cA s){j:Nat}(aC:j<3):(av s.cG j).b1=av [1,2,7] j:=by
 have ao:=h.oe;have:=h.ye;have e:(s.cG.map (·.b1))[j]? =([1,2,7]:aa Int)[j]? :=by rw[this]
 rw[Po,pa (show j<s.cG.length by omega),pa (show j<([1,2,7]:aa Int).length from aC)]at e;rw[dp _ (show j<s.cG.length by omega),dp _ (show j<([1,2,7]:aa Int).length from aC)];exact xr e
def Ba{x:Int}{j:Nat}(aC:j<3):av [(1:Int),2,7] j=x↔rx x=some j:=by
 have h:j=0∨j=1∨j=2:=by omega
 unfold rx;rcases h with rfl|rfl|rfl
 ·show(1:Int)=x↔_;by_cases h1:x=1
  ·simp[h1]
  rw[bf h1];simp only[show ¬(1:Int)=x from λe=>h1 e.symm,false_iff];split
  ·simp
  split <;> simp
 ·show(2:Int)=x↔_;by_cases h1:x=2
  ·simp[h1]
  simp only[show ¬(2:Int)=x from λe=>h1 e.symm,false_iff,bf h1];split
  ·simp
  split <;> simp
 show(7:Int)=x↔_;by_cases h1:x=7
 ·simp[h1]
 simp only[show ¬(7:Int)=x from λe=>h1 e.symm,false_iff,bf h1];split
 ·simp
 split <;> simp
def Nr{x:Int}{j:Nat}(h:rx x=some j):j<3:=by
 unfold rx at h;split at h
 ·cases h;omega
 split at h
 ·cases h;omega
 split at h <;> cases h;omega
structure q9(s:aD)(hp:aL Cell)(p:Nat)(N:Int->Int):Prop where
 cell:∃jy,oP hp p=some ⟨s.cG,jy⟩∧∀j,j<3->ck jy j=N (av [1,2,7] j)
def ag9{hp hp':aL Cell}{p:Nat}(h:pat hp' p=pat hp p):oP hp' p=oP hp p:=by unfold oP;rw[h]
def ajj{hp:aL Cell}{p:Nat}{k:Cell}{x:jo}(h:pat hp p=some k):oP (cF hp p (.sA x)) p=some x:=by unfold oP;rw[sr h]
def q9.congr{s:aD}{hp hp':aL Cell}{p:Nat}{N:Int->Int}(h:q9 s hp p N)(e:pat hp' p=pat hp p):q9 s hp' p N:=by
 obtain⟨jy,h1,ae⟩:=h.cell;exact⟨jy,by rw[ag9 e];exact h1,ae⟩
def qD(x:Int):Int:=match rx x with |some j=>(j:Int)|none=> -1
def ZA{s:aD}(hs:cA s){hp:aL Cell}{p:Nat}{N:Int->Int}(h:q9 s hp p N)(x:Int):C1 hp (some p) x=some (qD x):=by
 obtain⟨jy,h1,ae⟩:=h.cell;have ao:=hs.oe;refine bd.get ?_;unfold C1;refine .cond (λak=>by cases ak) λ_=>.eq rfl (.eq h1 (.bind (P:=λe=>e.1=qD x) (bd.l4 3 (λi st=>st=(i:Int)∧∀j,j<i->rx x≠some j) (by omega) ⟨rfl,λj aC=>by omega⟩ (λi st au cv=>?_) (λst cv=>?_)) λe he=>.ret he))
 ·obtain⟨rfl,aM⟩:=cv;refine bd.cond (λ_=>.idx I (by simp only;omega) (.cond (λak=>?_) λak=>?_)) λak=>by simp only[ao]at ak;simp at ak;omega
  ·simp only[nv,hs.kj au]at ak;have:=(Ba au).1 ak;exact .ret (by unfold qD;rw[this])
  refine .ret ⟨dS (by omega),λj aC e=>?_⟩;by_cases lj:j=i
  ·subst lj;rw[<-Ba au,<-hs.kj au]at e;rw[e]at ak;simp at ak
  exact aM j (by omega) e
 obtain⟨rfl,aM⟩:=cv;refine bd.cond (λak=>by simp only[ao]at ak;simp at ak) λ_=>.ret ?_;show(-1:Int)=qD x;unfold qD;cases e:rx x with
 |none=>rfl
 |some j=>exact absurd e (aM j (Nr e))
def bump(N:Int->Int)(x:Int)(d:Int):Int->Int:=λy=>if y=x then N x+d else N y
def q9.bump{s:aD}{hp:aL Cell}{p:Nat}{N:Int->Int}{jy:Vector Int 6}(h1:oP hp p=some ⟨s.cG,jy⟩)(ae:∀j,j<3->ck jy j=N (av [1,2,7] j)){x:Int}{j:Nat}(aC:rx x=some j)(d:Int):
 q9 s (cF hp p (Cell.sA ⟨s.cG,eh jy j (N x+d)⟩)) p (Go.Proofs.YtlkieppifclacaaGreat.bump N x d):=by
 refine⟨_,ajj (uR h1),λi au=>?_⟩
 have au3:=Nr aC
 unfold Go.Proofs.YtlkieppifclacaaGreat.bump
 by_cases e:i=j
 ·subst e
  rw[jG _ _ (by omega),bk I,bk ((Ba au).2 aC)]
 rw[jG _ _ (by omega),bf e,bf (λaK=>e (by have:=(Ba au).1 aK;rw[aC]at this;cases this;rfl)),ae i au]
def room(s:aD)(N:Int->Int)(x:Int):Bool:=match rx x with |some j=>decide (N x<(av s.cG j).kz)|none=>false
def apf{s:aD}(hs:cA s){hp:aL Cell}{p:Nat}{N:Int->Int}(h:q9 s hp p N)(kc:∀x,0<=N x∧N x<100000)(x:Int):
 bd (C5 hp (some p) x) (λr=>if room s N x=true then r.1=true∧(∃c,r.2=cF hp p c)∧q9 s r.2 p (bump N x 1)else r=(false,hp)):=by
 obtain⟨jy,h1,ae⟩:=h.cell
 have ao:=hs.oe
 unfold C5
 refine .eq (ZA hs h x) ?_
 cases aE:rx x with
 | none=>
   have e:qD x= -1:=by unfold qD;rw[aE]
   have aK:room s N x=false:=by unfold room;rw[aE]
   rw[e,aK]
   exact .ret I
 | some j=>
   have aC:=Nr aE
   have e:qD x=(j:Int):=by unfold qD;rw[aE]
   have fo:ck jy j=N x:=by rw[ae j aC,(Ba aC).2 aE]
   rw[e]
   have hd:decide ((j:Int)<0)=false:=by simp
   simp only[hd]
   refine .eq (a:=p) I (.eq (a:=j) (by unfold b4;rw[bk I];exact pr (by omega)) (.eq (a:=⟨s.cG,jy⟩) (by unfold b4;rw[bk I];exact h1) (.eq (a:=p) I (.eq (a:=⟨s.cG,jy⟩) (by unfold b4;rw[bk I];exact h1)
    (.eq (a:=j) (by unfold b4;rw[bk I];exact pr (by simp only;omega)) (.eq I (.cond (λak=>?_) λak=>?_)))))))
   ·have aK:room s N x=false:=by unfold room;rw[aE];simp only[vN,fk,fo]at ak;simp;omega
    rw[aK];exact .ret I
   have aK:room s N x=true:=by unfold room;rw[aE];simp only[vN,nr,fo]at ak;simp;omega
   rw[aK]
   refine .eq (a:=p) I (.idx I (by omega) (.eq h1 (.idx I (by omega) (.eq I (.ret ⟨rfl,⟨_,rfl⟩,?_⟩)))))
   have hw:bu (ck jy j+1)=N x+1:=by rw[fo];have:=kc x;exact hX (by omega) (by omega)
   simp only[hw]
   exact q9.bump h1 ae aE 1
def alS{s:aD}(hs:cA s){hp:aL Cell}{p:Nat}{N:Int->Int}(h:q9 s hp p N){x:Int}{j:Nat}(aE:rx x=some j)(kc:0<N x∧N x<100000):
 bd (C2 hp (some p) x) (λr=>(∃c,r.2=cF hp p c)∧q9 s r.2 p (bump N x (-1))):=by
 obtain⟨jy,h1,ae⟩:=h.cell
 have aC:=Nr aE
 have e:qD x=(j:Int):=by unfold qD;rw[aE]
 have fo:ck jy j=N x:=by rw[ae j aC,(Ba aC).2 aE]
 unfold C2
 refine .eq (ZA hs h x) ?_
 rw[e]
 have hd:decide ((j:Int)<0)=false:=by simp
 simp only[hd]
 refine .eq (a:=p) I (.eq (a:=j) (by unfold b4;rw[bk I];exact pr (by omega)) (.eq (a:=⟨s.cG,jy⟩) (by unfold b4;rw[bk I];exact h1) (.cond (λak=>?_) λak=>?_)))
 ·simp only[vN,nv,fo]at ak;omega
 refine .eq (a:=p) I (.idx I (by omega) (.eq h1 (.idx I (by omega) (.eq I (.ret ⟨⟨_,rfl⟩,?_⟩)))))
 have hw:bu (ck jy j-1)=N x+ -1:=by rw[fo];exact hX (by omega) (by omega)
 simp only[hw]
 exact q9.bump h1 ae aE (-1)
def qx(e:aO)(r:cY):aa cN:=
 if r.ct=e.ct then(if r.cq=0 then [⟨r.pn,r.uK,(av e.bs r.k9.toNat).cw⟩]else if r.cq=e.cq then [⟨r.pn,r.uK,av e.c3 r.xN.toNat⟩]else [])else []
def jM(s:aD)(e:aO):aa cN:=s.cV.flatMap (qx e)
def J9(e:aO):cN:=⟨1,0,(av e.bs 0).cw⟩
def lp(s:aD)(e:aO):aa cN:=if e.ct=1∧s.cV≠[]then [J9 e]else []
def Cu(s:aD)(e:aO):Prop:=(∃k,k<4∧gu s k e)∧oa e
def YX(e:aO)(r:cY):(qx e r).length<=1:=by
 unfold qx;split
 ·split
  ·simp
  split <;> simp
 simp
def QW{α β:Type}{f:α->aa β}(aW:∀x,(f x).length<=1):∀l:aa α,(l.flatMap f).length<=l.length
 |[]=>by simp
 | x::l=>by
   have:=QW aW l;have:=aW x;rw[List.flatMap_cons,gj,List.length_cons];omega
def Mz{s:aD}(aE:kL s)(e:aO):(jM s e).length<=4:=qH (QW (YX e) _) aE.oe
def Cu.arG{s:aD}(hs:cA s){e:aO}(h:Cu s e):1<=e.bs.length∧e.bs.length<=1000:=by
 obtain⟨⟨k,hk,he⟩,_⟩:=h;have h1:=he.len;have ae:=(hs.fK hk).2.1;omega
def alT{s:aD}{e:aO}(h:Cu s e){r:cY}(aE:Ja s r)(bE:r.ct=e.ct)(aY:r.cq=0):r.k9=(r.k9.toNat:Int)∧r.k9.toNat<e.bs.length:=by
 obtain⟨⟨k,hk,he⟩,_⟩:=h;have h1:=he.len;have ae:=he.fK;rcases aE.2.2 with⟨_,g,_⟩|⟨g1,_,g2,g3⟩|⟨g1,_,g2,g3⟩|⟨_,g,_⟩
 ·omega
 ·have:k=2:=by omega
  subst this;rw[g2];exact⟨rfl,by rw[h1,g3];decide⟩
 ·have:k=3:=by omega
  subst this;rw[g2];exact⟨rfl,by rw[h1,g3];decide⟩
 omega
def alU{s:aD}{e:aO}(h:Cu s e){r:cY}(aE:Ja s r)(aY:r.cq≠0)(hb:r.cq=e.cq):r.xN=0∧0<e.c3.length:=by
 rcases aE.2.2 with⟨_,g,g2⟩|⟨_,g,_⟩|⟨_,g,_⟩|⟨_,g,g2⟩
 ·exact⟨g2,h.2 (.inl (by omega))⟩
 ·exact absurd g aY
 ·exact absurd g aY
 exact⟨g2,h.2 (.inr (by omega))⟩
def aiv{α β:Type}[Inhabited α](f:α->aa β){l:aa α}{i:Nat}(au:i<l.length):(l.take (i+1)).flatMap f=(l.take i).flatMap f++f (av l i):=by
 rw[Pp,pa au,dp _ au,KP];simp
def Mh{α:Type}[Inhabited α]{l:aa α}{i:Nat}(au:i<l.length):av l i∈l:=by rw[dp _ au];exact gI au
def W8{e:aO}{k:Nat}(hk:k<e.bs.length):DA e (k:Int)=some (av e.bs k).cw:=by
 refine bd.get ?_;unfold DA;refine .cond (λak=>?_) λ_=>.idx I hk (.ret I);simp only[nW,fk]at ak;omega
def aha{e:aO}(hk:0<e.c3.length):G7 e 0=some (av e.c3 0):=by
 refine bd.get ?_;unfold G7;refine .cond (λak=>?_) λ_=>.idx (k:=0) I hk (.ret I);simp only[nW,fk]at ak;omega
def ajk{s:aD}(aE:kL s){e:aO}(he:Cu s e):Hu s e=some (jM s e):=by
 refine bd.get ?_;unfold Hu;have ao:=aE.oe;refine .bind (P:=λx=>x.2.2=jM s e) (bd.l4 s.cV.length (λi st=>st=((i:Int),(s.cV.take i).flatMap (qx e))) (by omega) I (λi st au cv=>?_) λst cv=>?_) λx an=>.ret an
 ·subst cv;refine .cond (λ_=>.idx I au ?_) λak=>by simp at ak;omega
  have w7:=aE.refs _ (Mh au);have atj:((s.cV.take i).flatMap (qx e)).length<=4:=qH (QW (YX e) _) (by rw[fT];omega);refine .bind (P:=λm=>m=(s.cV.take (i+1)).flatMap (qx e)) ?_ λm hm=>.ret (by rw[hm,dS (by omega)]);rw[aiv _ au];refine .cond (λak=>.ret ?_) λak=>.bind (P:=λm=>m=(s.cV.take i).flatMap (qx e)++qx e (av s.cV i)) (.cond (λaY=>?_) λaY=>.bind (P:=λm=>m=(s.cV.take i).flatMap (qx e)++qx e (av s.cV i)) (.cond (λhb=>?_) λhb=>.ret ?_) λm hm=>.ret hm) λm hm=>.ret hm
  ·unfold qx;rw[bf (by simpa using ak)];simp
  ·have bE:(av s.cV i).ct=e.ct:=by simpa using ak
   have aY:(av s.cV i).cq=0:=by simpa using aY
   obtain⟨g1,g2⟩:=alT he w7 bE aY;rw[g1];refine .eq (W8 g2) (.eq I (.eq (fN _ _ (by simp only[List.length_cons,List.length_nil];omega) (by omega)) (.ret ?_)));unfold qx;rw[bk bE,bk aY]
  ·have bE:(av s.cV i).ct=e.ct:=by simpa using ak
   have aY: ¬(av s.cV i).cq=0:=by simpa using aY
   have hb:(av s.cV i).cq=e.cq:=by simpa using hb
   obtain⟨g1,g2⟩:=alU he w7 aY hb;rw[g1];refine .eq (aha g2) (.eq I (.eq (fN _ _ (by simp only[List.length_cons,List.length_nil];omega) (by omega)) (.ret ?_)));unfold qx;rw[bk bE,bf aY,bk hb,g1];rfl
  have bE:(av s.cV i).ct=e.ct:=by simpa using ak
  have aY: ¬(av s.cV i).cq=0:=by simpa using aY
  have hb: ¬(av s.cV i).cq=e.cq:=by simpa using hb
  unfold qx;rw[bk bE,bf aY,bf hb];simp
 subst cv;exact .cond (λak=>by simp at ak) λ_=>.ret (by show _=jM s e;simp[jM])
def akR{l:aa cN}(ao:l.length<=1000)(x:cN):bd (FG l x) (λr=>r=decide (x∈l)):=by
 unfold FG KK;refine .bind (P:=λy=>(0<=y)↔x∈l) ?_ λy hy=>.ret (by simp only[ge_iff_le,hy]);refine bd.loop l.length (λi st=>st=(i:Int)∧∀j,j<i->x≠av l j) (by omega) ⟨rfl,λj aC=>by omega⟩ (λi st au cv=>?_) λst cv=>?_
 ·obtain⟨rfl,aM⟩:=cv;refine .cond (λ_=>.idx I au (.cond (λak=>.ret (.ret ?_)) λak=>.ret ⟨dS (by omega),λj aC=>?_⟩)) λak=>by simp at ak;omega
  ·exact⟨λ_=>by rw[vI ak];exact Mh au,λ_=>by simp only;omega⟩
  by_cases e:j=i
  ·subst e;exact Pm ak
  exact aM j (by omega)
 obtain⟨rfl,aM⟩:=cv;have ak:decide ((l.length:Int)<(l.length:Int))=false:=by simp
 refine⟨.inl ((l.length:Int),false),by rw[ak];rfl,.ret ⟨λh=>by omega,λh=>?_⟩⟩;obtain⟨j,aC,e⟩:=Vp h;exact absurd (by rw[dp _ aC,e]) (aM j aC)
def ahb{s:aD}(hs:cA s)(aE:kL s){e:aO}(he:Cu s e):Ha s e=some (lp s e):=by
 refine bd.get ?_;unfold Ha;have ao:=aE.oe;have hm:=he.arG hs;refine .bind (P:=λx=>x.2.2=lp s e) (bd.l4 s.cV.length (λi st=>st=((i:Int),if e.ct=1∧i≠0 then [J9 e]else [])) (by omega) (by simp) (λi st au cv=>?_) λst cv=>?_) λx an=>.ret an
 ·subst cv;have w7:=aE.refs _ (Mh au);have atj:(if e.ct=1∧i≠0 then [J9 e]else []).length<=1:=by split <;> simp
  refine .cond (λ_=>.idx I au ?_) λak=>by simp at ak;omega
  rw[w7.1,w7.2.1];refine .eq (W8 (k:=0) (by omega)) (.eq I (.b4 (λ_=>akR (by simp only;omega) _) λy hy=>?_));refine .bind (P:=λm=>m=if e.ct=1∧i+1≠0 then [J9 e]else []) (.cond (λak=>?_) λak=>.ret ?_) λm hm=>.ret (by rw[hm,dS (by omega)])
  ·simp only[gq,nv,zq]at ak;have hy:=hy (by simp[ak.1]);rw[ak.2]at hy;have:i=0:=by
    refine OS λh=>?_;rw[bk ⟨ak.1.symm,h⟩]at hy;simp[J9]at hy
   subst this;refine .eq (fN _ _ (by simp) (by omega)) (.ret ?_);rw[bf (by simp),bk ⟨ak.1.symm,by omega⟩];rfl
  by_cases h1:e.ct=1
  ·have hy:=hy (by simp[h1]);simp only[h1,Ge,vO,Vx]at ak;rw[ak]at hy;have JT:i≠0:=λh=>by rw[bf (by simp[h])]at hy;simp at hy
   rw[bk ⟨h1,JT⟩,bk ⟨h1,by omega⟩]
  rw[bf λh=>h1 h.1,bf λh=>h1 h.1]
 subst cv;refine .cond (λak=>by simp at ak) λ_=>.ret ?_;show _=lp s e;unfold lp;simp[KJ]
structure nc(m:Nat)(hp hp':aL Cell):Prop where
 at_:∀q,q≠m->pat hp' q=pat hp q
 keys:∀q,q∈da hp->q∈da hp'
def nc.refl{m:Nat}{hp:aL Cell}:nc m hp hp:=⟨λ_ _=>rfl,λ_ h=>h⟩
def nc.trans{m:Nat}{a b c:aL Cell}(h:nc m a b)(k:nc m b c):nc m a c:=⟨λq hq=>(k.at_ q hq).trans (h.at_ q hq),λq hq=>k.keys q (h.keys q hq)⟩
def nc.up{m:Nat}{hp:aL Cell}{c:Cell}:nc m hp (cF hp m c):=⟨λq hq=>mP λe=>hq e.symm,λq hq=>by rw[qN];exact hq⟩
def ahc{hp hp':aL Cell}{p:Nat}(h:pat hp' p=pat hp p):qb hp' p=qb hp p:=by unfold qb;rw[h]
def WL{hp hp':aL Cell}{p:Nat}(h:pat hp' p=pat hp p):qa hp' p=qa hp p:=by unfold qa;rw[h]
def Yo{hp:aL Cell}{p:Nat}{k:Cell}{x:aa (cN×kx)}(h:pat hp p=some k):qb (cF hp p (.sy x)) p=some x:=by unfold qb;rw[sr h]
structure oq(s:aD)(hp:aL Cell)(p m:Nat)(A B:cN->Int):Prop where
 cell:qa hp p=some ⟨s,⟨some m⟩⟩
 map:∃kv,qb hp m=some kv∧o7 kv∧∀t,dO kv t=if A t=0∧B t=0 then none else some ⟨A t,B t⟩
def oq.ne{s:aD}{hp:aL Cell}{p m:Nat}{A B:cN->Int}(h:oq s hp p m A B):p≠m:=λe=>by
 obtain⟨kv,h1,_⟩:=h.map;have ae:=RU h.cell;rw[e,uU h1]at ae;cases ae
def oq.congr{s:aD}{hp hp':aL Cell}{p m:Nat}{A B:cN->Int}(h:oq s hp p m A B)(h1:pat hp' p=pat hp p)(ae:pat hp' m=pat hp m):oq s hp' p m A B:=
 ⟨by rw[WL h1];exact h.cell,by obtain⟨kv,g1,g2⟩:=h.map;exact⟨kv,by rw[ahc ae];exact g1,g2⟩⟩
def yX(A:cN->Int)(t:cN)(n:Int):cN->Int:=λx=>if x=t then A x+n else A x
def tX(A:cN->Int)(k:Int):Prop:=∀t, -k<=A t∧A t<=k
def YY{s:aD}{hp:aL Cell}{p m:Nat}{A B:cN->Int}(h:oq s hp p m A B)(eB:tX A 200000)(cI:tX B 200000)(t:cN){n k:Int}(aM: -1<=n∧n<=1)(hk: -1<=k∧k<=1):
 bd (C6 hp (some p) t n k) (λr=>nc m hp r∧oq s r p m (yX A t n) (yX B t k)):=by
 obtain⟨kv,h1,ae,az⟩:=h.map
 unfold C6
 refine .eq (a:=p) I (.eq h.cell (.eq (a:=m) I (.eq h1 (.eq I (.eq I ?_)))))
 have fo:(dO kv t).getD default=(⟨A t,B t⟩:kx):=by
  rw[az];split
  ·rename_i b2;rw[b2.1,b2.2];rfl
  rfl
 rw[fo]
 have bZ:=eB t
 have dD:=cI t
 have lQ:bu (A t+n)=A t+n:=hX (by omega) (by omega)
 have mn:bu (B t+k)=B t+k:=hX (by omega) (by omega)
 simp only[lQ,mn]
 have ak:∀c,qa (cF hp m c) p=some ⟨s,⟨some m⟩⟩:=λc=>by rw[WL (mP h.ne.symm)];exact h.cell
 refine .cond (λb2=>?_) λb2=>?_
 ·have b2:=vI b2
  have bz:A t+n=0:=ev kx.qL b2
  have z2:B t+k=0:=ev kx.qK b2
  refine .eq (a:=p) I (.eq h.cell (.eq (a:=m) I (.eq h1 (.eq I (.ret ⟨.up,ak _,_,Yo (uU h1),ae.del,λx=>?_⟩)))))
  rw[DO ae,az]
  unfold yX
  by_cases e:x=t
  ·subst e;rw[bk I,bk I,bk I,bk ⟨bz,z2⟩]
  rw[bf e,bf e,bf e]
 have b2:=Pm b2
 refine .eq (a:=p) I (.eq h.cell (.eq (a:=m) I (.eq h1 (.eq I (.ret ⟨.up,ak _,_,Yo (uU h1),ae.put,λx=>?_⟩)))))
 rw[vY,az]
 unfold yX
 by_cases e:x=t
 ·subst e;rw[bk I,bk I,bk I,bf λcB=>b2 (by rw[cB.1,cB.2];rfl)]
 rw[bf e,bf e,bf e]
def je(A:cN->Int)(l:aa cN)(n:Int):cN->Int:=λt=>A t+n*(l.count t:Int)
def Yp{A:cN->Int}{n:Int}:je A [] n=A:=by funext t;simp[je]
def XA{A:cN->Int}{l:aa cN}{x:cN}{n:Int}:yX (je A l n) x n=je A (l++[x]) n:=by
 funext t;unfold yX je;rw[Pn,List.count_singleton];by_cases e:t=x
 ·subst e;rw[bk I];simp only[Ge,lY];rw[Int.natCast_add,Int.mul_add];omega
 rw[bf e,bf (by simpa using λh=>e h.symm)];simp
def Yq{A:cN->Int}{x:cN}:yX A x 0=A:=by funext t;unfold yX;split <;> simp
def tX.mono{A:cN->Int}{k k':Int}(h:tX A k)(hk:k<=k'):tX A k':=λt=>by have:=h t;omega
def QX{A:cN->Int}{l:aa cN}{n:Int}(h:tX A 100000)(ao:l.length<=10)(aM:n=1∨n= -1):tX (je A l n) 200000:=λt=>by
 have h1:=h t;have ae:l.count t<=l.length:=KM;unfold je;rcases aM with rfl|rfl <;> omega
def XB{α:Type}[Inhabited α]{l:aa α}{i:Nat}(au:i<l.length):l.take (i+1)=l.take i++[av l i]:=by
 rw[Pp,pa au,dp _ au];rfl
def YZ{s:aD}(hs:cA s)(aE:kL s){hp:aL Cell}{p m:Nat}{A B:cN->Int}(h:oq s hp p m A B)(eB:tX A 100000)(cI:tX B 100000){e:aO}(he:Cu s e){n:Int}(aM:n=1∨n= -1):
 bd (C7 hp (some p) e n) (λr=>nc m hp r∧oq s r p m (je A (jM s e) n) (je B (lp s e) n)):=by
 have ao:=Mz aE e
 have sP:(lp s e).length<=1:=by unfold lp;split <;> simp
 have q5: -1<=n∧n<=1:=by omega
 unfold C7
 refine .cond (λak=>by cases ak) λ_=>.eq (a:=p) I (.eq h.cell (.eq (ajk aE he) ?_))
 refine .bind (P:=λx=>nc m hp x.2.2∧oq s x.2.2 p m (je A (jM s e) n) B) (bd.l4 (jM s e).length (λi st=>st.1=(i:Int)∧nc m hp st.2∧oq s st.2 p m (je A ((jM s e).take i) n) B) (by omega) ⟨rfl,.refl,by rw[List.take_zero,Yp];exact h⟩ (λi st au cv=>?_) λst cv=>?_) λx an=>?_
 ·obtain⟨xj,bT⟩:=st;obtain⟨ar,bO,c1⟩:=cv
  simp only at ar bO c1;subst ar
  refine .cond (λ_=>.idx I au (.bind (YY c1 (QX eB (by rw[fT];omega) aM) (λt=>by have:=cI t;omega) _ q5 (by omega)) λy hy=>.ret ⟨dS (by omega),bO.trans hy.1,?_⟩)) λak=>by simp at ak;omega
  have:=hy.2
  rw[XA,Yq,<-XB au]at this
  exact this
 ·obtain⟨xj,bT⟩:=st;obtain⟨ar,bO,c1⟩:=cv
  simp only at ar bO c1;subst ar
  rw[k4]at c1
  exact .cond (λak=>by simp at ak) λ_=>.ret ⟨bO,c1⟩
 obtain⟨bO,c1⟩:=an
 refine .eq c1.cell (.eq (ahb hs aE he) ?_)
 refine .bind (P:=λz=>nc m hp z.2.2∧oq s z.2.2 p m (je A (jM s e) n) (je B (lp s e) n)) (bd.l4 (lp s e).length (λi st=>st.1=(i:Int)∧nc m hp st.2∧oq s st.2 p m (je A (jM s e) n) (je B ((lp s e).take i) n)) (by omega) ⟨rfl,bO,by rw[List.take_zero,Yp];exact c1⟩ (λi st au cv=>?_) λst cv=>?_) λz b2=>.ret b2
 ·obtain⟨xj,bT⟩:=st;obtain⟨ar,cL,c2⟩:=cv
  simp only at ar cL c2;subst ar
  refine .cond (λ_=>.idx I au (.bind (YY c2 (QX eB (by omega) aM) (QX cI (by rw[fT];omega) aM) _ (by omega) q5) λy hy=>.ret ⟨dS (by omega),cL.trans hy.1,?_⟩)) λak=>by simp at ak;omega
  have:=hy.2
  rw[XA,Yq,<-XB au]at this
  exact this
 obtain⟨xj,bT⟩:=st;obtain⟨ar,cL,c2⟩:=cv
 simp only at ar cL c2;subst ar
 rw[k4]at c2
 exact .cond (λak=>by simp at ak) λ_=>.ret ⟨cL,c2⟩
def LW{hp hp':aL Cell}{p:Nat}(h:pat hp' p=pat hp p):hK hp' p=hK hp p:=by unfold hK;rw[h]
def ajl{hp:aL Cell}{p:Nat}{k:Cell}{x:fc}{a:aA Nat}{c:Nat}(h:pat hp p=some k):hK (cF hp p (.mZ x a c)) p=some (x,a,c):=by unfold hK;rw[sr h]
structure lV where
 x:Nat
 t:Nat
 r:Nat
 m:Nat
 q:Nat
 y:Nat->Prop:=λ_=>False
 f:Nat->Option Cell:=λ_=>none
def zc(P:lV)(q:Nat):Prop:=q=P.x∨q=P.r∨q=P.m∨q=P.q∨P.y q
structure kr(s:aD)(hp:aL Cell)(P:lV)(ls:Nat->List aS)(next:Int)(cn:List fw)(A B:cN->Int)(N:Int->Int):Prop where
 st:∃k c,hK hp P.x=some (⟨some P.t,some P.r,some P.q,cn⟩,k,c)
 nI:mf (zc P) s hp P.t ls next
 jy:oq s hp P.r P.m A B
 quo:q9 s hp P.q N
 qy:∀q,P.y q->pat hp q=P.f q∧q≠P.x∧q≠P.r∧q≠P.m∧q≠P.q
section
variable{s:aD}{hp hp':aL Cell}{P:lV}{ls ls':Nat->aa aS}{next next':Int}{cn tY:aa fw}{A B cR Kw:cN->Int}{N Kx:Int->Int}
def kr.ne(h:kr s hp P ls next cn A B N):(P.x≠P.r∧P.x≠P.m∧P.x≠P.q)∧P.r≠P.m∧P.r≠P.q∧P.m≠P.q:=by
 obtain⟨k,c,h1⟩:=h.st;obtain⟨kv,ae,_⟩:=h.jy.map;obtain⟨o6,az,_⟩:=h.quo.cell;have ar:=qQ h1;have aK:=uU ae;have cr:=RU h.jy.cell;have e4:=uR az;refine⟨⟨λe=>?_,λe=>?_,λe=>?_⟩,λe=>?_,λe=>?_,λe=>?_⟩
 ·rw[e,cr]at ar;cases ar
 ·rw[e,aK]at ar;cases ar
 ·rw[e,e4]at ar;cases ar
 ·rw[e,aK]at cr;cases cr
 ·rw[e,e4]at cr;cases cr
 rw[e,e4]at aK;cases aK
def kr.NV(h:kr s hp P ls next cn A B N)(k:mf (zc P) s hp' P.t ls' next'∧ur (zc P) hp hp'):kr s hp' P ls' next' cn A B N where
 st:=by obtain⟨a,c,h1⟩:=h.st;exact⟨a,c,by rw[LW (k.2.at_ _ (.inl I))];exact h1⟩
 nI:=k.1
 jy:=h.jy.congr (k.2.at_ _ (.inr (.inl I))) (k.2.at_ _ (.inr (.inr (.inl I))))
 quo:=h.quo.congr (k.2.at_ _ (.inr (.inr (.inr (.inl I)))))
 qy q hq:=⟨(k.2.at_ _ (.inr (.inr (.inr (.inr hq))))).trans (h.qy q hq).1,(h.qy q hq).2⟩
def kr.only(h:kr s hp P ls next cn A B N){q:Nat}(hq:zc P q)(o:nc q hp hp'):mf (zc P) s hp' P.t ls next:=h.nI.off (λx an=>o.at_ x λe=>an (e▸hq)) o.keys
def kr.ref(h:kr s hp P ls next cn A B N)(k:nc P.m hp hp'∧oq s hp' P.r P.m cR Kw):kr s hp' P ls next cn cR Kw N where
 st:=by obtain⟨a,c,h1⟩:=h.st;exact⟨a,c,by rw[LW (k.1.at_ _ h.ne.1.2.1)];exact h1⟩
 nI:=h.only (.inr (.inr (.inl I))) k.1
 jy:=k.2
 quo:=h.quo.congr (k.1.at_ _ λe=>h.ne.2.2.2 e.symm)
 qy q hq:=⟨(k.1.at_ _ (h.qy q hq).2.2.2.1).trans (h.qy q hq).1,(h.qy q hq).2⟩
def kr.adH(h:kr s hp P ls next cn A B N)(k:∃c,hp'=cF hp P.q c)(bD:q9 s hp' P.q Kx):kr s hp' P ls next cn A B Kx:=by
 obtain⟨c,rfl⟩:=k;have o:nc P.q hp (cF hp P.q c):=.up;exact⟨by obtain⟨a,c,h1⟩:=h.st;exact⟨a,c,by rw[LW (o.at_ _ h.ne.1.2.2)];exact h1⟩,h.only (.inr (.inr (.inr (.inl I)))) o,
  h.jy.congr (o.at_ _ h.ne.2.2.1) (o.at_ _ h.ne.2.2.2),bD,λq hq=>⟨(o.at_ _ (h.qy q hq).2.2.2.2).trans (h.qy q hq).1,(h.qy q hq).2⟩⟩
def kr.Ox(h:kr s hp P ls next cn A B N)(a:aA Nat)(c:Nat):kr s (cF hp P.x (.mZ ⟨some P.t,some P.r,some P.q,tY⟩ a c)) P ls next tY A B N:=by
 have o:nc P.x hp (cF hp P.x (.mZ ⟨some P.t,some P.r,some P.q,tY⟩ a c)):=.up;obtain⟨iw,jP,h1⟩:=h.st;exact⟨⟨a,c,ajl (qQ h1)⟩,h.only (.inl I) o,h.jy.congr (o.at_ _ h.ne.1.1.symm) (o.at_ _ h.ne.1.2.1.symm),h.quo.congr (o.at_ _ h.ne.1.2.2.symm),λq hq=>⟨(o.at_ _ (h.qy q hq).2.1).trans (h.qy q hq).1,(h.qy q hq).2⟩⟩
def Y0(h:cn.length<=1000)(k:na)(a b c:Ref):zk ⟨a,b,c,cn⟩ k=some ⟨a,b,c,cn++[⟨k⟩]⟩:=by
 unfold zk;rw[fN _ _ (by simp;omega) (by omega)];rfl
structure UL(A B:cN->Int)(N:Int->Int)(cn:List fw):Prop where
 a:tX A 1000
 b:tX B 1000
 n:∀x,0<=N x∧N x<1000
 j:cn.length<=1000
def QY(hs:cA s)(aE:kL s)(h:kr s hp P ls next cn A B N)(hb:UL A B N cn){k:Nat}(hk:k<4){e:aO}(he:gu s k e)(aY:oa e)(qC:Int)(yr:∀i∈ls k,i.cU<next)(hlen:(ls k).length<900)(aM:1<=next∧next<1000000):
 cM (Gb hp (some P.x) e qC) (λr=>
  if (eH (ls k) e).isSome=true then r=(17,hp)else if (av s.bh k).ht<=((ls k).length:Int)then r=(18,hp)
  else if room s N qC=true then r.1=0∧kr s r.2 P (gX ls k (ls k++[{bl:=e,cU:=next,ij:=qC}])) (next+1) (cn++[⟨.yl (some P.x) {bl:=e,cU:=next,ij:=qC} next qC⟩]) (je A (jM s e) 1) (je B (lp s e) 1) (bump N qC 1)
  else r.1=19∧kr s r.2 P (gX ls k (ls k)) next cn A B N):=by
 obtain⟨a0,vB,bJ⟩:=h.st
 unfold Gb
 refine .cond (λak=>by cases ak) λ_=>.eq (a:=P.x) I (.eq bJ (.bind (aji hs h.nI hk he qC yr hlen ⟨by omega,aM.2⟩) λal h1=>?_))
 by_cases aW:(eH (ls k) e).isSome=true
 ·rw[bk aW]at h1
  subst h1
  exact .cond (λ_=>.ret (by rw[bk aW])) λak=>by simp at ak
 rw[bf aW]at h1
 by_cases b2:(av s.bh k).ht<=((ls k).length:Int)
 ·rw[bk b2]at h1
  subst h1
  exact .cond (λ_=>.ret (by rw[bf aW,bk b2])) λak=>by simp at ak
 rw[bf b2]at h1
 obtain⟨gG,err,bT⟩:=al
 obtain⟨ar,aK,cv,w6⟩:=h1
 simp only at ar aK cv w6
 subst aK
 have ar:=ar.symm
 subst ar
 have g1:=h.NV ⟨cv,w6⟩
 refine .cond (λak=>by simp at ak) λ_=>?_
 have Of:eH (ls k) e=none:=by
  cases hq:eH (ls k) e with
  |none=>rfl
  |some _=>rw[hq]at aW;exact absurd I aW
 obtain⟨bZ,c1,h1⟩:=g1.st
 have Oy:=akL hs g1.nI.ok hk he
 rw[z7,ajg Of (Mv e)]at Oy
 replace Oy:zF bT (some P.t) e=some (({bl:=e,cU:=next,ij:=qC}:aS),true):=Oy
 refine .eq (a:=P.x) I (.eq h1 (.eq Oy (.eq (a:=P.x) I (.eq h1 (.kk (apf hs g1.quo (λx=>by have:=hb.n x;omega) qC) λbm az=>?_)))))
 by_cases oZ:room s N qC=true
 ·rw[bk oZ]at az
  obtain⟨ok,cQ⟩:=bm
  obtain⟨cr,cf,dM⟩:=az
  simp only at cr cf dM
  subst cr
  have g2:=g1.adH cf dM
  obtain⟨a2,c2,ae⟩:=g2.st
  refine .cond (λak=>by cases ak) λ_=>.eq ae (.kk (P:=λb8=>nc P.m cQ b8∧oq s b8 P.r P.m (je A (jM s e) 1) (je B (lp s e) 1)) ?_ λb8 bp=>?_)
  ·exact .bind (YZ hs aE g2.jy (hb.a.mono (by omega)) (hb.b.mono (by omega)) ⟨⟨k,hk,he⟩,aY⟩ (.inl I)) λy hy=>.ret hy
  have g3:=g2.ref bp
  obtain⟨a3,ej,az⟩:=g3.st
  refine .eq az (.eq (Y0 hb.j _ _ _ _) (.any λfm=>.eq I (.ret ?_)))
  rw[bf aW,bf b2,bk oZ]
  exact⟨rfl,g3.Ox fm.1 fm.2⟩
 rw[bf oZ]at az
 subst az
 refine .cond (λ_=>?_) λak=>by cases ak
 refine .eq h1 (.bind (Ym hs g1.nI hk he) λbG aQ=>?_)
 obtain⟨i4,avw,sJ⟩:=bG
 have g2:=g1.NV aQ.2
 simp only at g2
 obtain⟨a2,c2,ae⟩:=g2.st
 refine .eq ae (.kk (ahz g2.nI next) λbR a7=>.ret ?_)
 have g3:=g2.NV a7
 rw[bf aW,bf b2,bf oZ]
 refine⟨rfl,?_⟩
 rw[Xy,z7,ait (Mv e),akQ Of,show max 1 next=next by omega]at g3
 exact g3
def ajm(hs:cA s)(aE:kL s)(h:kr s hp P ls next cn A B N)(hb:UL A B N cn){k:Nat}(hk:k<4){e:aO}(he:gu s k e)(atk:∀i∈ls k,oa i.bl∧(rx i.ij).isSome=true∧0<N i.ij):
 cM (Gc hp (some P.x) e) (λr=>match eH (ls k) e with
  |some i=>r.1=0∧kr s r.2 P (gX ls k (iS (ls k) e)) next (cn++[⟨.ym (some P.x) i⟩]) (je A (jM s i.bl) (-1)) (je B (lp s i.bl) (-1)) (bump N i.ij (-1))
  |none=>r.1=16∧kr s r.2 P (gX ls k (iS (ls k) e)) next cn A B N):=by
 obtain⟨a0,vB,bJ⟩:=h.st
 have tQ:=h.nI.ok.mJ hk
 unfold Gc
 refine .cond (λak=>by cases ak) λ_=>.eq (a:=P.x) I (.eq bJ (.bind (Ym hs h.nI hk he) λal h1=>?_))
 obtain⟨i1,err,bT⟩:=al
 obtain⟨h1,ae⟩:=h1
 have g1:=h.NV ae
 simp only at h1 g1
 cases aW:eH (ls k) e with
 | none=>
   rw[aW]at h1
   have aK:err=16:=ev Prod.snd h1
   subst aK
   exact .cond (λ_=>.ret ⟨rfl,g1⟩) λak=>by simp at ak
 | some i=>
   rw[aW]at h1
   have ar:i1=i:=ev Prod.fst h1
   have aK:err=0:=ev Prod.snd h1
   subst aK
   have ar:=ar.symm
   subst ar
   obtain⟨hm,_⟩:=Af aW
   obtain⟨aY,a8,kc⟩:=atk i hm
   obtain⟨j,aC⟩:=OV.1 a8
   obtain⟨bZ,c1,aR⟩:=g1.st
   refine .cond (λak=>by simp at ak) λ_=>.eq (a:=P.x) I (.eq aR (.kk (P:=λy=>nc P.m bT y∧oq s y P.r P.m (je A (jM s i.bl) (-1)) (je B (lp s i.bl) (-1))) ?_ λaF ae=>?_))
   ·exact .bind (YZ hs aE g1.jy (hb.a.mono (by omega)) (hb.b.mono (by omega)) ⟨⟨k,hk,(tQ.ok.ok i hm).gf⟩,aY⟩ (.inr I)) λy hy=>.ret hy
   have g2:=g1.ref ae
   obtain⟨a2,c2,bD⟩:=g2.st
   have hq:N i.ij<100000:=by have:=hb.n i.ij;omega
   refine .eq bD (.kk (alS hs g2.quo aC ⟨kc,hq⟩) λbm az=>?_)
   have g3:=g2.adH az.1 az.2
   obtain⟨a3,ej,cf⟩:=g3.st
   exact .eq cf (.eq (Y0 hb.j _ _ _ _) (.any λq=>.eq I (.ret ⟨rfl,g3.Ox q.1 q.2⟩)))
end
section
variable{s:aD}{ls:Nat->aa aS}{next:Int}
def mx(L:aa aS)(x:Int):Int:=((L.countP λi=>i.ij==x:Nat):Int)
def alV(hs:cA s)(x:Int):He s x=some (qD x):=by
 refine bd.get ?_;unfold He;refine(alF hs).bind λal h1=>?_;rw[h1.ye,hs.ye];refine(alG [1,2,7] x (by simp)).bind λr h=>.ret ?_;rcases h with⟨rfl,aM⟩|⟨k,hk,rfl,he⟩
 ·unfold qD rx;simp only[dW,rr,rz,xG]at aM;rw[bf aM.1,bf aM.2.1,bf aM.2.2]
 unfold qD;rw[(Ba hk).1 he]
end
def l5(s:aD)(L:aa aS)(t:cN):Int:=(((L.flatMap λi=>jM s i.bl).count t:Nat):Int)
def kC(s:aD)(L:aa aS)(t:cN):Int:=(((L.flatMap λi=>lp s i.bl).count t:Nat):Int)
section
variable{s:aD}{L L':aa aS}
def Qm(h:L.Perm L'):l5 s L=l5 s L':=by funext t;unfold l5;rw[(h.flatMap_right _).count_eq]
def Qn(h:L.Perm L'):kC s L=kC s L':=by funext t;unfold kC;rw[(h.flatMap_right _).count_eq]
def QC(h:L.Perm L'):mx L=mx L':=by funext x;unfold mx;rw[h.countP_eq]
def Qo{i:aS}:je (l5 s L) (jM s i.bl) 1=l5 s (L++[i]):=by
 funext t;unfold l5 je;rw[KP,Pn];simp
def Qp{i:aS}:je (kC s L) (lp s i.bl) 1=kC s (L++[i]):=by
 funext t;unfold kC je;rw[KP,Pn];simp
def QD{i:aS}:bump (mx L) i.ij 1=mx (L++[i]):=by
 funext x;unfold mx bump;rw[List.countP_append,List.countP_singleton];by_cases e:x=i.ij
 ·subst e;rw[bk I];simp
 rw[bf e,bf (by simpa using λh=>e h.symm)];simp
def XC{A:cN->Int}{l:aa cN}:je (je A l 1) l (-1)=A:=by funext t;unfold je;omega
def aiw{N:Int->Int}{x:Int}:bump (bump N x 1) x (-1)=N:=by
 funext y;unfold bump;by_cases e:y=x
 ·subst e;rw[bk I,bk I];omega
 rw[bf e,bf e]
def ahA{i:aS}(h:(L'++[i]).Perm L):je (l5 s L) (jM s i.bl) (-1)=l5 s L':=by rw[<-Qm h,<-Qo,XC]
def ahB{i:aS}(h:(L'++[i]).Perm L):je (kC s L) (lp s i.bl) (-1)=kC s L':=by rw[<-Qn h,<-Qp,XC]
def aix{i:aS}(h:(L'++[i]).Perm L):bump (mx L) i.ij (-1)=mx L':=by rw[<-QC h,<-QD,aiw]
def ajn{i:aS}(h:i∈L):0<mx L i.ij:=by
 unfold mx;have:0<L.countP λj=>j.ij==i.ij:=List.countP_pos_iff.2 ⟨i,h,by simp⟩;omega
end
def Ti(a b:Nat->aa aS):Prop:=∀k,k<4->(a k).Perm (b k)
def Ti.symm{a b:Nat->aa aS}(h:Ti a b):Ti b a:=λk hk=>(h k hk).symm
def DP{α β:Type}{f:α->aa β}{n:Nat}(aW:∀x,(f x).length<=n):∀l:aa α,(l.flatMap f).length<=n*l.length
 |[]=>by simp
 | x::l=>by
   have:=DP aW l;have:=aW x;rw[List.flatMap_cons,gj,List.length_cons,Nat.mul_add];omega
def Ns{s:aD}(aE:kL s){ls:Nat->aa aS}{cn:aa fw}(ae:(eb ls).length<=48)(aC:cn.length<=1000):UL (l5 s (eb ls)) (kC s (eb ls)) (mx (eb ls)) cn where
 a t:=by
   have h1:=DP (f:=λi:aS=>jM s i.bl) (n:=4) (λi=>Mz aE _) (eb ls);have az:(List.flatMap (λi:aS=>jM s i.bl) (eb ls)).count t<=_:=KM;unfold l5;omega
 b t:=by
   have h1:=DP (f:=λi:aS=>lp s i.bl) (n:=1) (λi=>by unfold lp;split <;> simp) (eb ls);have az:(List.flatMap (λi:aS=>lp s i.bl) (eb ls)).count t<=_:=KM;unfold kC;omega
 n x:=by
   have az:(eb ls).countP (λi=>i.ij==x)<=_:=O2;unfold mx;omega
 j:=aC
abbrev fG(s:aD)(hp:aL Cell)(P:lV)(ls:Nat->aa aS)(next:Int)(cn:aa fw):Prop:=kr s hp P ls next cn (l5 s (eb ls)) (kC s (eb ls)) (mx (eb ls))
section
variable{s:aD}{hp:aL Cell}{P:lV}{ls ls' c6:Nat->aa aS}{next next':Int}{cn:aa fw}{ou:fw}
def kr.to{A B cR Kw:cN->Int}{N Kx:Int->Int}(h:kr s hp P ls next cn A B N)(aY:A=cR)(hb:B=Kw)(aM:N=Kx):kr s hp P ls next cn cR Kw Kx:=by subst aY hb aM;exact h
end
def ZB{s:aD}(hs:cA s)(aE:kL s)(hp:aL Cell){Y:Nat->Prop}(mi:∀q,Y q->q∈da hp):cM (ta hp s) (λr=> ∃P:lV,r.1=some P.x∧fG s r.2 P (λ_=>[]) 1 []∧P.y=Y∧P.f=pat hp∧er hp r.2 r1):=by
 have Fa:=hs.oe;unfold ta;refine .bind (akO hs hp) λal h1=>?_;obtain⟨t,adI,eS,own,ar,⟨g1,g2,g3⟩,mC,atl,h3,atm⟩:=h1;obtain⟨ati,bT⟩:=al;simp only at ar g1 g2 g3 mC;subst ar;unfold LX LQ;refine .bind (P:=λaF=> ∃m r,r≠m∧m∉da bT∧r∉da bT∧aF=(some r,(r,Cell.BI ⟨s,⟨some m⟩⟩)::(m,Cell.sy [])::bT)) (.mk λm hm=>.mk λr aE=>.ret ⟨m,r,?_,hm,?_,rfl⟩) λaF ae=>?_
 ·exact λe=>aE (by rw[e];exact kt)
 ·exact λh=>aE (fM _ h)
 obtain⟨m,r,JB,hm,tS,rfl⟩:=ae;refine .bind (P:=λbm=> ∃q,q≠r∧q≠m∧q∉da bT∧bm=(some q,(q,Cell.sA {(default:jo)with p2:=s.cG})::(r,Cell.BI ⟨s,⟨some m⟩⟩)::(m,Cell.sy [])::bT)) (.eq (a:=s.cG) ?_ (.mk λq hq=>.ret ⟨q,?_,?_,?_,rfl⟩)) λbm az=>?_
 ·unfold so;rw[bk ⟨by omega,by rw[Fa];decide,by rw[Fa];decide⟩,Fa];show some (List.take 3 s.cG)=_;rw[<-Fa,k4]
 ·exact λe=>hq (by rw[e];exact kt)
 ·exact λe=>hq (by rw[e];exact fM _ kt)
 ·exact λh=>hq (fM _ (fM _ h))
 obtain⟨q,atn,Cs,jY,rfl⟩:=az;refine .any λb9=>.mk λx an=>.ret ⟨⟨x,t,r,m,q,Y,pat hp⟩,rfl,?_⟩;simp only at an⊢;have ato:x≠q:=λe=>an (by rw[e];exact kt);have Ts:x≠r:=λe=>an (by rw[e];exact fM _ kt);have atp:x≠m:=λe=>an (by rw[e];exact fM _ (fM _ kt));have gR:x∉da bT:=λh=>an (fM _ (fM _ (fM _ h)));have adb:∀z,Y z->z∈da bT:=λz b2=>mC.keys z (mi z b2);have hold:∀z c0 cf bD aR,z∈da bT->pat ((x,c0)::(q,cf)::(r,bD)::(m,aR)::bT) z=pat bT z:=λz c0 cf bD aR b2=>by
  rw[kV,bf (λe:x=z=>gR (by rw[e];exact b2)),kV,bf (λe:q=z=>jY (by rw[e];exact b2)),kV,bf (λe:r=z=>tS (by rw[e];exact b2)),kV,bf (λe:m=z=>hm (by rw[e];exact b2))]
 have i1:=js (uT g1);have i2:=js (wi g2);have ii:∀k,k<4->∀z,own k z->z∈da bT:=λk hk z b2=>by obtain⟨_,_,cB⟩:=g3.has k hk;exact cB.nO z b2
 have nQ:∀z,zc ⟨x,t,r,m,q,Y,pat hp⟩ z->(z∈da bT->z∈da hp):=λz b2 en=>by
  rcases b2 with rfl|rfl|rfl|rfl|b2
  ·exact absurd en gR
  ·exact absurd en tS
  ·exact absurd en hm
  ·exact absurd en jY
  exact mi z b2
 have SG:∀z c0 cf bD aR,z∈da bT->z∈da ((x,c0)::(q,cf)::(r,bD)::(m,aR)::bT):=λz _ _ _ _ b2=>fM _ (fM _ (fM _ (fM _ b2)));refine⟨⟨⟨b9.1,b9.2,?_⟩,⟨⟨adI,eS,own,?_,?_,g3.congr (λz b2=>?_) λk hk z b2=>hold z _ _ _ _ (ii k hk z b2),⟨λh=>atl (nQ _ h i1),λh=>h3 (nQ _ h i2)⟩,λk hk z b2 h=>atm k hk z b2 (nQ z h (ii k hk z b2))⟩,λz b2=>?_⟩,⟨?_,[],?_,.nil,λt=>?_⟩,⟨(default:jo).ig,?_,λj aC=>?_⟩,λz b2=>?_⟩,trivial,trivial,⟨λz b2=>SG z _ _ _ _ (mC.keys z b2),λz b2 _=>(hold z _ _ _ _ (mC.keys z b2)).trans (mC.rest z b2 id)⟩⟩
 ·unfold hK;rw[kV,bk I]
 ·rw[DL (hold t _ _ _ _ i1)];exact g1
 ·rw[DM (hold adI _ _ _ _ i2)];exact g2
 ·exact SG z _ _ _ _ b2
 ·rcases b2 with rfl|rfl|rfl|rfl|b2
  ·exact kt
  ·exact fM _ (fM _ kt)
  ·exact fM _ (fM _ (fM _ kt))
  ·exact fM _ kt
  exact SG z _ _ _ _ (adb z b2)
 ·unfold qa;rw[kV,bf Ts,kV,bf atn,kV,bk I]
 ·unfold qb;rw[kV,bf atp,kV,bf Cs,kV,bf JB,kV,bk I]
 ·rw[bk ⟨rfl,rfl⟩];rfl
 ·unfold oP;rw[kV,bf ato,kV,bk I]
 ·show ck (default:Vector Int 6) j=0;have:j=0∨j=1∨j=2:=by omega
  rcases this with rfl|rfl|rfl <;> rfl
 have h1:=adb z b2;exact⟨(hold z _ _ _ _ h1).trans (mC.rest z (mi z b2) id),λe:z=x=>gR (e▸h1),λe:z=r=>tS (e▸h1),λe:z=m=>hm (e▸h1),λe:z=q=>jY (e▸h1)⟩
def aa6{s:aD}(hs:cA s)(aE:kL s)(hp:aL Cell):cM (ta hp s) (λr=> ∃P:lV,r.1=some P.x∧fG s r.2 P (λ_=>[]) 1 []):=
 (ZB hs aE hp (Y:=λ_=>False) λ_ h=>h.elim).mono λr ⟨P,e,h,_⟩=>⟨P,e,h⟩
section
variable{s:aD}{hp:aL Cell}{P:lV}{ls c6:Nat->aa aS}{next:Int}{cn:aa fw}{r6:Nat}
end
section
variable{s:aD}{hp hp':aL Cell}{P sZ uu:lV}{ls hg gi:Nat->aa aS}{next gG h6:Int}{cn pM avx:aa fw}{A B:cN->Int}{N:Int->Int}
def yx(s:aD)(hp:aL Cell)(P:lV)(ls:Nat->aa aS)(next:Int)(cn:aa fw)(Z:Nat->Prop):Prop:=
 ∀(hp':aL Cell) (Y:Nat->Prop),(∀q,Z q->pat hp' q=pat hp q∧q∈da hp')->(∀q,Y q->q∈da hp'∧¬Z q)->fG s hp' {P with y:=Y,f:=pat hp'} ls next cn
def kr.Tj(h:fG s hp P ls next cn):∃Z:Nat->Prop,(∀q,Z q->q∈da hp∧¬P.y q)∧yx s hp P ls next cn Z:=by
 obtain⟨m,eS,own,h1,ae,az,⟨aQ,a7⟩,bp⟩:=h.nI.cell;have dm:=h.ne;have fQ:∀k,k<4->∀q,own k q->q∈da hp:=λk hk q hq=>by obtain⟨_,_,g⟩:=az.has k hk;exact g.nO q hq
 refine⟨λq=>(q=P.x∨q=P.r∨q=P.m∨q=P.q)∨q=P.t∨q=m∨∃k,k<4∧own k q,λq hq=>?_,λhp' Y s3 mi=>?_⟩
 ·rcases hq with hq|rfl|rfl|⟨k,hk,hq⟩
  ·refine⟨h.nI.nO q ?_,λhy=>?_⟩
   ·rcases hq with h|h|h|h
    ·exact .inl h
    ·exact .inr (.inl h)
    ·exact .inr (.inr (.inl h))
    exact .inr (.inr (.inr (.inl h)))
   obtain⟨_,a,b,c,d⟩:=h.qy q hy;rcases hq with h|h|h|h
   ·exact a h
   ·exact b h
   ·exact c h
   exact d h
  ·exact⟨js (uT h1),λhy=>aQ (.inr (.inr (.inr (.inr hy))))⟩
  ·exact⟨js (wi ae),λhy=>a7 (.inr (.inr (.inr (.inr hy))))⟩
  exact⟨fQ k hk q hq,λhy=>bp k hk q hq (.inr (.inr (.inr (.inr hy))))⟩
 have nQ:∀q,zc {P with y:=Y,f:=pat hp'} q->zc P q∨Y q:=λq hq=>by
  rcases hq with h|h|h|h|h
  ·exact .inl (.inl h)
  ·exact .inl (.inr (.inl h))
  ·exact .inl (.inr (.inr (.inl h)))
  ·exact .inl (.inr (.inr (.inr (.inl h))))
  exact .inr h
 obtain⟨a,c,an⟩:=h.st;refine⟨⟨a,c,?_⟩,⟨⟨m,eS,own,?_,?_,az.H5 (λk hk q hq=>(s3 q (.inr (.inr (.inr ⟨k,hk,hq⟩)))).2) λk hk q hq=>(s3 q (.inr (.inr (.inr ⟨k,hk,hq⟩)))).1,⟨λg=>?_,λg=>?_⟩,λk hk q hq g=>?_⟩,λq hq=>?_⟩,h.jy.congr (s3 _ (.inl (.inr (.inl I)))).1 (s3 _ (.inl (.inr (.inr (.inl I))))).1,h.quo.congr (s3 _ (.inl (.inr (.inr (.inr I))))).1,λq hq=>⟨rfl,?_⟩⟩
 ·rw[LW (s3 _ (.inl (.inl I))).1];exact an
 ·rw[DL (s3 _ (.inr (.inl I))).1];exact h1
 ·rw[DM (s3 _ (.inr (.inr (.inl I)))).1];exact ae
 ·exact(nQ _ g).elim aQ λhy=>(mi _ hy).2 (.inr (.inl I))
 ·exact(nQ _ g).elim a7 λhy=>(mi _ hy).2 (.inr (.inr (.inl I)))
 ·exact(nQ _ g).elim (bp k hk q hq) λhy=>(mi _ hy).2 (.inr (.inr (.inr ⟨k,hk,hq⟩)))
 ·rcases hq with h|h|h|h|h
  ·exact(s3 q (.inl (.inl h))).2
  ·exact(s3 q (.inl (.inr (.inl h)))).2
  ·exact(s3 q (.inl (.inr (.inr (.inl h))))).2
  ·exact(s3 q (.inl (.inr (.inr (.inr h))))).2
  exact(mi q h).1
 have cO:=(mi q hq).2;exact⟨λe=>cO (.inl (.inl e)),λe=>cO (.inl (.inr (.inl e))),λe=>cO (.inl (.inr (.inr (.inl e)))),λe=>cO (.inl (.inr (.inr (.inr e))))⟩
structure oD(s:aD)(hp:aL Cell)(a6 br:Nat)(hg:Nat->List aS)(gG:Int)(gi:Nat->List aS)(h6:Int):Prop where
 h:∃sZ uu:lV,sZ.x=a6∧uu.x=br∧∃Ky sa:Nat->Prop,(∀q,Ky q->q∈da hp∧¬sa q)∧(∀q,sa q->q∈da hp)∧yx s hp sZ hg gG [] Ky∧yx s hp uu gi h6 [] sa
def oD.swap{a6 br:Nat}(h:oD s hp a6 br hg gG gi h6):oD s hp br a6 gi h6 hg gG:=by
 obtain⟨sZ,uu,ar,aK,Ky,sa,a,b,c,d⟩:=h.h;exact⟨uu,sZ,aK,ar,sa,Ky,λq hq=>⟨b q hq,λh=>(a q h).2 hq⟩,λq hq=>(a q hq).1,d,c⟩
def yx.at4{Z:Nat->Prop}(h:yx s hp P ls next cn Z)(b2:∀q,Z q->q∈da hp)(Y:Nat->Prop)(mi:∀q,Y q->q∈da hp∧¬Z q):fG s hp {P with y:=Y,f:=pat hp} ls next cn:=h hp Y (λq hq=>⟨rfl,b2 q hq⟩) mi
def yx.to{Z:Nat->Prop}(h:yx s hp P ls next cn Z)(hq:∀q,Z q->pat hp' q=pat hp q):yx s hp' P ls next cn Z:=λcQ Y a b=>h cQ Y (λq b2=>⟨(a q b2).1.trans (hq q b2),(a q b2).2⟩) b
def oD.one{a6 br:Nat}(h:oD s hp a6 br hg gG gi h6):∃P:lV,P.x=a6∧fG s hp P hg gG []∧∀(hp':aL Cell) (l':Nat->aa aS) (r3:Int),fG s hp' P l' r3 []->oD s hp' a6 br l' r3 gi h6:=by
 obtain⟨sZ,uu,ar,aK,Ky,sa,a,b,c,d⟩:=h.h;refine⟨{sZ with y:=sa,f:=pat hp},ar,c.at4 (λq hq=>(a q hq).1) sa λq hq=>⟨b q hq,λh=>(a q h).2 hq⟩,λhp' l' r3 g=>?_⟩;obtain⟨Z,g1,g2⟩:=g.Tj;have aW:=λq hq=>(g.qy q hq).1;have hk:∀q,sa q->q∈da hp':=λq hq=>g.nI.nO q (.inr (.inr (.inr (.inr hq))));exact⟨{sZ with y:=sa,f:=pat hp},uu,ar,aK,Z,sa,g1,hk,g2,d.to aW⟩
end
def alW{s:aD}(hs:cA s)(aE:kL s)(hp:aL Cell){β:Type}{k:Ref×aL Cell->Ref×aL Cell->ah β}{Q:β->Prop}(h:∀a6 br bT cQ,oD s cQ a6 br (λ_=>[]) 1 (λ_=>[]) 1->cM (k (some a6,bT) (some br,cQ)) Q):
 cM (ah.bind (ta hp s) λa=>ah.bind (ta a.2 s) λb=>k a b) Q:=by
 refine .bind (aa6 hs aE hp) λa aY=>?_
 obtain⟨sZ,ar,h1⟩:=aY
 obtain⟨bZ,bT⟩:=a
 simp only at ar h1
 subst ar
 obtain⟨Z,g1,g2⟩:=h1.Tj
 refine .bind (ZB hs aE bT (Y:=Z) λq hq=>(g1 q hq).1) λb hb=>?_
 obtain⟨uu,aK,ae,hy,aW,hk⟩:=hb
 obtain⟨dD,cQ⟩:=b
 simp only at aK ae hk
 subst aK
 obtain⟨sa,g3,g4⟩:=ae.Tj
 exact h sZ.x uu.x bT cQ ⟨sZ,uu,rfl,rfl,Z,sa,λq hq=>⟨hk.keys q (g1 q hq).1,λh=>(g3 q h).2 (by rw[hy];exact hq)⟩,λq hq=>(g3 q hq).1,g2.to λq hq=>hk.rest q (g1 q hq).1 id,g4⟩
def Wb{xs:aa dE}{f:dE->aA Bool}{g:dE->Bool}(aW:∀x∈xs,f x=some (g x))(ao:xs.length<2^62):
 bd (FJ xs f) (λr=>(r= -1∧∀x∈xs,g x=false)∨∃i:Nat,i<xs.length∧r=i∧g (av xs i)=true∧∀j,j<i->g (av xs j)=false):=by
 unfold FJ
 refine bd.loop xs.length (λk s=>s=(k:Int)∧∀j,j<k->g (av xs j)=false) (by omega) ⟨rfl,λj aC=>by omega⟩ (λk s hk au=>?_) (λs au=>?_)
 ·obtain⟨ar,aK⟩:=au;subst ar
  refine bd.cond (λ_=>?_) (λh=>by simp at h;omega)
  refine .idx I hk (.eq (aW _ (by rw[dp xs hk];exact gI hk)) (.cond (λh=>.ret ?_) (λh=>.ret ⟨dS (by omega),λj aC=>?_⟩)))
  ·exact .ret (.inr ⟨k,hk,rfl,h,aK⟩)
  by_cases kT:j=k
  ·subst kT;exact h
  exact aK j (by omega)
 obtain⟨ar,aK⟩:=au;subst ar
 refine⟨_,by simp;rfl,?_⟩
 refine .ret (.inl ⟨rfl,λx an=>?_⟩)
 obtain⟨j,aC,rfl⟩:=rn.1 an
 rw[<-dp xs aC];exact aK j aC
def ae0{xs:aa df}{f:df->aA Bool}{g:df->Bool}(aW:∀x∈xs,f x=some (g x))(ao:xs.length<2^62):
 bd (FF xs f) (λr=>(r= -1∧∀x∈xs,g x=false)∨∃i:Nat,i<xs.length∧r=i∧g (av xs i)=true∧∀j,j<i->g (av xs j)=false):=by
 unfold FF
 refine bd.loop xs.length (λk s=>s=(k:Int)∧∀j,j<k->g (av xs j)=false) (by omega) ⟨rfl,λj aC=>by omega⟩ (λk s hk au=>?_) (λs au=>?_)
 ·obtain⟨ar,aK⟩:=au;subst ar
  refine bd.cond (λ_=>?_) (λh=>by simp at h;omega)
  refine .idx I hk (.eq (aW _ (by rw[dp xs hk];exact gI hk)) (.cond (λh=>.ret ?_) (λh=>.ret ⟨dS (by omega),λj aC=>?_⟩)))
  ·exact .ret (.inr ⟨k,hk,rfl,h,aK⟩)
  by_cases kT:j=k
  ·subst kT;exact h
  exact aK j (by omega)
 obtain⟨ar,aK⟩:=au;subst ar
 refine⟨_,by simp;rfl,?_⟩
 refine .ret (.inl ⟨rfl,λx an=>?_⟩)
 obtain⟨j,aC,rfl⟩:=rn.1 an
 rw[<-dp xs aC];exact aK j aC
def We{xs:aa c9}{f:c9->aA Bool}{g:c9->Bool}(aW:∀x∈xs,f x=some (g x))(ao:xs.length<2^62):
 bd (FL xs f) (λr=>(r= -1∧∀x∈xs,g x=false)∨∃i:Nat,i<xs.length∧r=i∧g (av xs i)=true∧∀j,j<i->g (av xs j)=false):=by
 unfold FL
 refine bd.loop xs.length (λk s=>s=(k:Int)∧∀j,j<k->g (av xs j)=false) (by omega) ⟨rfl,λj aC=>by omega⟩ (λk s hk au=>?_) (λs au=>?_)
 ·obtain⟨ar,aK⟩:=au;subst ar
  refine bd.cond (λ_=>?_) (λh=>by simp at h;omega)
  refine .idx I hk (.eq (aW _ (by rw[dp xs hk];exact gI hk)) (.cond (λh=>.ret ?_) (λh=>.ret ⟨dS (by omega),λj aC=>?_⟩)))
  ·exact .ret (.inr ⟨k,hk,rfl,h,aK⟩)
  by_cases kT:j=k
  ·subst kT;exact h
  exact aK j (by omega)
 obtain⟨ar,aK⟩:=au;subst ar
 refine⟨_,by simp;rfl,?_⟩
 refine .ret (.inl ⟨rfl,λx an=>?_⟩)
 obtain⟨j,aC,rfl⟩:=rn.1 an
 rw[<-dp xs aC];exact aK j aC
def ajo{s:ByteArray}{n:Nat}(h:n<s.size):bd (IX s (n:Int)) (λ_=>True):=by
 unfold IX;rw[bk (by omega),Int.toNat_natCast,getElem?_pos s n h];exact⟨_,rfl,trivial⟩
def xR{n:Nat}{k:Nat}(h:k<n):bd (Gv.idx n (k:Int)) (λr=>r=k):=by
 unfold Gv.idx;rw[bk (by omega)];exact⟨_,rfl,by simp⟩
def XD(x:BitVec 64):bd (Di x) (λ_=>True):=by
 unfold Di;refine .bind (P:=λ_=>True) (.cond (λ_=>.ret cZ) λ_=>.ret cZ) λm1 _=>.bind (P:=λ_=>True) (.cond (λ_=>.ret cZ) λ_=>.ret cZ) λm2 _=>.bind (P:=λ_=>True) (.cond (λ_=>.ret cZ) λ_=>.ret cZ) λm3 _=>(ajo ?_).bind λ_ _=>.ret cZ;exact rp (m3.1.setWidth 8).isLt (by decide)
def ajp(x:aV):bd (Hz x) (λ_=>True):=by
 unfold Hz;exact .cond (λ_=>(XD _).bind λ_ _=>.ret cZ) λ_=>(XD _).bind λ_ _=>.ret cZ
def Mi(x:aV)(n:Int):bd (xE x n) (λ_=>True):=by
 unfold xE;exact(ajp x).bind λ_ _=>.ret cZ
def ahC(m:bN)(k:Int):bd (Hf m k) (λ_=>True):=by
 unfold Hf LL;refine .cond (λ_=>.ret cZ) λ_=>.bind (P:=λ_=>True) ?_ λ_ _=>.ret cZ;refine .eq I (.bind (P:=λ_=>True) (.cond (λ_=>.ret cZ) λ_=>?_) λ_ _=>.ret cZ);refine .bind (P:=λ_=>True) (.cond (λ_=>.ret cZ) λ_=>?_) λ_ _=>.ret cZ;exact .bind (P:=λ_=>True) (.cond (λ_=>.ret cZ) λ_=>.ret cZ) λ_ _=>.ret cZ
def ahD(m:bN)(k b:Int)(bJ:0<=b)(h1:b<=128):bd (Hi m k b) (λ_=>True):=by
 unfold Hi;refine(Mi _ _).bind λal _=>.b4 (P:=λ_=>True) (λ_=>Mi _ _) λaF _=>.b4 (P:=λ_=>True) (λ_=>Mi _ _) λbm _=>.cond (λ_=>.ret cZ) λ_=>.cond (λ_=>?_) λ_=>.cond (λ_=>?_) λ_=>.cond (λ_=>?_) λ_=>.ret cZ
 ·exact .b4 (λ_=>W1 _ _ bJ h1) λbG _=>.b4 (λ_=>YO _ _) λbR _=>.eq I (.ret cZ)
 ·exact .b4 (λ_=>YO _ _) λb8 _=>.eq I (.ret cZ)
 exact .b4 (λ_=>Ms _) λde _=>.eq I ((ag1 _ _).bind λeu _=>.ret cZ)
def agr(l:aa Int)(x:Int)(ao:l.length<2^30):bd (Da l x) (λ_=>True):=by
 unfold Da;refine bd.loop l.length (λk s=>s=(k:Int)) (by omega) I (λk s hk au=>?_) λs au=>?_
 ·subst au;refine .cond (λ_=>.idx I hk (.cond (λ_=>.ret (.ret cZ)) λ_=>.ret (dS (by omega)))) λh=>by simp at h;omega
 subst au;refine⟨_,by simp;rfl,?_⟩;exact .ret cZ
def P3(l:aa Int)(x:Int)(ao:l.length<2^30):bd (vJ l x) (λ_=>True):=by
 unfold vJ;exact(agr l x ao).bind λ_ _=>.ret cZ
structure og(s:aD):Prop where
 lW:∀r∈s.cG,r.fU.length<2^30∧r.bK.length<2^30
 lR:∀t∈s.bh,t.jS=ByteArray.mk #[]
 w9:∀a∈s.bK,a.jS=ByteArray.mk #[]
section
variable{s:aD}{k:Nat}{e:aO}
def apg{key:dz}(h:oR key):0<=rk key∧rk key<=128:=by
 obtain⟨j,aC,aW,_,_,h1,ae,_⟩:=h;rw[aaY aW];omega
def agA(hs:cA s)(hk:k<4)(he:gu s k e):bd (G2 s e) (λ_=>True):=by
 unfold G2;have ov:=(hs.fK hk).2.2.1;have ao:=(hs.fK hk).2.1;have aM:=he.len;refine .eq (QB hs hk he.fK) (.cond (λh=>by simp at h) λ_=>.cond (λ_=>.ret cZ) λ_=>?_);refine bd.loop e.bs.length (λk s=>s=(k:Int)) (by omega) I (λj st aC au=>?_) λst au=>?_
 ·subst au;have kT:j<(av s.bh k).bY.length:=by omega
  have kJ:oR (av (av s.bh k).bY j):=ov _ (by rw[dp _ kT];exact gI _);refine .cond (λ_=>.idx I aC (.idx I kT ((ahC _ _).bind λaF _=>.cond (λ_=>.ret (.ret cZ)) λ_=>?_))) λh=>by simp at h;omega
  refine .b4 (λ_=>xR kT) λcf az=>.b4 (λ_=>xR kT) λc0 aQ=>?_;refine .b4 (P:=λr=>0<=r∧r<=128) (λh=>by rw[aQ h];exact⟨_,ahv hs kJ,apg kJ⟩) λbm a7=>?_;exact .b4 (P:=λ_=>True) (λh=>ahD _ _ _ (a7 h).1 (a7 h).2) λbG _=>.cond (λ_=>.ret (.ret cZ)) λ_=>.ret (dS (by omega))
 subst au;refine⟨_,by simp;rfl,?_⟩;refine .bind (P:=λ_=>True) ?_ λbR _=>.bind (P:=λ_=>True) (.cond (λ_=>.ret cZ) λ_=>.ret cZ) λm1 _=>.cond (λ_=>.ret cZ) λ_=>.ret cZ;unfold LH KH;exact .bind (P:=λ_=>True) ((Wi (g:=λkey=>key.c7==3||key.c7==4) (λx an=>rfl) (by show(av s.bh k).bY.length<_;omega)).bind λ_ _=>.ret cZ) λ_ _=>.ret cZ
def Qq(hs:cA s)(r:Int):bd (uC s r) (λy=>y<0∨∃i:Nat,i<s.cG.length∧y=i):=by
 unfold uC;have ao:=hs.oe;refine(We (g:=λt=>t.b1==r) (λ_ _=>rfl) (by omega)).bind λy hy=>.ret ?_;rcases hy with⟨h1,_⟩|⟨i,h1,ae,_⟩
 ·exact .inl (by omega)
 exact .inr ⟨i,h1,ae⟩
def WM(hs:cA s)(aE:og s)(r t:Int):bd (uB s r t) (λ_=>True):=by
 unfold uB;refine(Qq hs r).bind λal h1=>.cond (λ_=>.ret cZ) λh=>?_;rcases h1 with h1|⟨i,h1,rfl⟩
 ·simp at h;omega
 have bH:=(aE.lW (av s.cG i) (by rw[dp _ h1];exact gI _)).1;refine .idx I h1 ((Wb (g:=λg=>g.ct==t) (λ_ _=>rfl) (by omega)).bind λaF ae=>.cond (λ_=>.ret cZ) λh=>?_);rcases ae with⟨ae,_⟩|⟨j,ae,rfl,_⟩
 ·simp at h;omega
 exact .idx I h1 (.idx I ae (.ret cZ))
def ajq(hs:cA s)(aE:og s)(r a:Int):bd (xF s r a) (λ_=>True):=by
 unfold xF;refine(Qq hs r).bind λal h1=>?_;rcases h1 with h1|⟨i,h1,rfl⟩
 ·exact .b4 (P:=λ_=>True) (λh=>by simp at h;omega) λ_ _=>.b4 (P:=λ_=>True) (λh=>by simp at h;omega) λ_ _=>.ret cZ
 have bH:=(aE.lW (av s.cG i) (by rw[dp _ h1];exact gI _)).2;exact .b4 (λ_=>xR h1) λaR ae=>.b4 (λh=>P3 _ _ (by rw[ae h];exact bH)) λ_ _=>.ret cZ
def ahd(g:dE)(n:Nat):bd (xy g (n:Int)) (λ_=>True):=by
 unfold xy;exact .b4 (λh=>xR (by simp at h;omega)) λ_ _=>.ret cZ
def Wz(hs:cA s)(r:Int):bd (Dn s r) (λy=>y<0∨∃i:Nat,i<s.bK.length∧y=i):=by
 unfold Dn;have ao:=hs.EC;refine(ae0 (g:=λt=>t.b1==r) (λ_ _=>rfl) (by omega)).bind λy hy=>.ret ?_;rcases hy with⟨h1,_⟩|⟨i,h1,ae,_⟩
 ·exact .inl (by omega)
 exact .inr ⟨i,h1,ae⟩
def agd(hs:cA s)(hk:k<4)(he:gu s k e):bd (GH s e) (λ_=>True):=by
 unfold GH;have aY:=he.args;have ao:=(hs.fK hk).2.2.2.1;refine .eq (QB hs hk he.fK) ((Wz hs _).bind λaF ae=>.b4 (λ_=>P3 _ _ (by show(av s.bh k).bK.length<_;omega)) λbm az=>.cond (λ_=>.ret cZ) λh=>?_);rcases ae with ae|⟨i,ae,rfl⟩
 ·simp at h;omega
 refine .idx I ae (.eq I (.cond (λ_=>.ret cZ) λhp=>?_));have hp:e.c3.length=(av s.bK i).iC.length:=by simp at hp;omega
 refine bd.loop e.c3.length (λk s=>s=(k:Int)) (by omega) I (λj st aC au=>?_) λst au=>?_
 ·subst au;exact .cond (λ_=>.idx I aC (.idx I (by omega) ((Mi _ _).bind λbG _=>.cond (λ_=>.ret (.ret cZ)) λ_=>.ret (dS (by omega))))) λh=>by simp at h;omega
 subst au;refine⟨_,by simp;rfl,?_⟩;exact .ret cZ
def aiy(hs:cA s)(aE:og s)(r:Int)(ao:e.bs.length<2^30):bd (zC s r e) (λ_=>True):=by
 unfold zC;refine(WM hs aE _ _).bind λal _=>?_;refine bd.loop e.bs.length (λk s=>s=(k:Int)) (by omega) I (λj st aC au=>?_) λst au=>?_
 ·subst au;refine .cond (λ_=>.idx I aC (.b4 (P:=λ_=>True) (λ_=>ahd _ _) λaF _=>.cond (λ_=>.ret (.ret cZ)) λ_=>.ret (dS (by omega)))) λh=>by simp at h;omega
 subst au;refine⟨_,by simp;rfl,?_⟩;exact .ret cZ
def XE{l:aa (ko _ Int)}(ao:l.length<2^30)(h:∀x∈l,bd x.r (λ_=>True)):bd (zN l) (λ_=>True):=by
 unfold zN;refine bd.loop l.length (λk s=>s=(k:Int)) (by omega) I (λj st aC au=>?_) λst au=>?_
 ·subst au;refine .cond (λ_=>.idx I aC ((h _ (by rw[dp _ aC];exact gI _)).bind λal _=>.cond (λ_=>.ret (.ret cZ)) λ_=>.ret (dS (by omega)))) λh=>by simp at h;omega
 subst au;refine⟨_,by simp;rfl,?_⟩;exact .ret cZ
def z1{x:ko _ Bool}(c:Int)(h:bd x.r (λ_=>True)):bd (ux x c) (λ_=>True):=by
 unfold ux;exact h.bind λ_ _=>.cond (λ_=>.ret cZ) λ_=>.ret cZ
def ajr{α:Type}(l:aa α){k:Nat}(hk:k<=l.length):so l 0 (k:Int)=some (l.take k):=by
 unfold so;rw[bk ⟨by omega,by omega,by omega⟩];simp
def agl(n:Int):bd (GN n) (λr=>r.length<=2):=by
 unfold GN;refine .cond (λ_=>.ret (by simp)) λ_=>.cond (λ_=>.eq I (.ret (by simp))) λ_=>.cond (λ_=>.eq I (.ret (by simp))) λ_=>.cond (λ_=>.ret (by simp)) λ_=>.ret (by simp)
def Wu(t:bw)(ao:t.bY.length<=1000):bd (Dk t) (λr=>1<=r.length∧r.length<=2*t.bY.length+1):=by
 unfold Dk;refine bd.loop t.bY.length (λk s=>s.1=(k:Int)∧s.2.length<=2*k) (by omega) ⟨rfl,by simp⟩ (λj st aC au=>?_) λst au=>?_
 ·obtain⟨a,l⟩:=st;obtain⟨h1,ae⟩:=au;simp only at h1 ae;subst h1;refine .cond (λ_=>.idx I aC ((agl _).bind λal az=>?_)) λh=>by simp at h;omega
  refine bd.loop al.length (λk s=>s.1=(k:Int)∧s.2.length=l.length+k) (by omega) ⟨rfl,by simp⟩ (λi st au aQ=>?_) λst aQ=>?_
  ·obtain⟨a,l'⟩:=st;obtain⟨h1,a7⟩:=aQ;simp only at h1 a7;subst h1;exact .cond (λ_=>.idx I au (.eq I (.eq (fN _ _ (by simp;omega) (by omega)) (.ret ⟨dS (by omega),by simp;omega⟩)))) λh=>by simp at h;omega
  obtain⟨a,l'⟩:=st;obtain⟨h1,a7⟩:=aQ;simp only at h1 a7;subst h1;refine⟨_,by simp;rfl,?_⟩;exact .ret ⟨dS (by omega),by simp;omega⟩
 obtain⟨a,l⟩:=st;obtain⟨h1,ae⟩:=au;simp only at h1 ae;subst h1;refine⟨_,by simp;rfl,?_⟩;exact .eq I (.eq (fN _ _ (by simp;omega) (by omega)) (.ret ⟨by simp,by simp;omega⟩))
def aiz(m:bN)(a:ByteArray)(b:Int):bd (Hr m a b) (λ_=>True):=by
 unfold Hr Dr uF;exact .eq I (.cond (λ_=>.eq I (.ret cZ)) λ_=>.cond (λ_=>.ret cZ) λ_=>.cond (λ_=>.cond (λ_=>(Ms _).bind λ_ _=>.ret cZ) λ_=>.ret cZ) λ_=>.ret cZ)
def ahe(hs:cA s){key:dz}(hk:oR key):bd (Hm s key.ih) (λ_=>True):=by
 obtain⟨j,aC,aW,_⟩:=hk;unfold Hm;rw[aW];refine(Qd hs aC).bind λr aE=>.cond (λ_=>.ret cZ) λ_=>?_;subst aE;exact .idx I (by have:=hs.wL;omega) (.ret cZ)
def ajs(hs:cA s)(hk:k<4)(ao:e.bs.length<2^30):bd (HB s (av s.bh k) e) (λ_=>True):=by
 unfold HB;have ov:=(hs.fK hk).2.2.1;have aM:=(hs.fK hk).2.1;refine bd.loop (av s.bh k).bY.length (λk s=>s.1=(k:Int)∧s.2.length<=3*k) (by omega) ⟨rfl,by simp⟩ (λj st aC au=>?_) λst au=>?_
 ·obtain⟨a,l⟩:=st;obtain⟨h1,ae⟩:=au;simp only at h1 ae;subst h1;have kJ:oR (av (av s.bh k).bY j):=ov _ (by rw[dp _ aC];exact gI _);refine .cond (λ_=>.idx I aC (.bind (P:=λ_=>True) (.cond (λh=>.idx I (by simp at h;omega) (.ret cZ)) λ_=>.ret cZ) λm1 _=>.eq I ((Wu _ (by simp)).bind λal az=>?_))) λh=>by simp at h;omega
  have aQ:al.length<=3:=by have:=az.2;simpa using this
  have a7:bu ((al.length:Int)-1)=((al.length-1:Nat):Int):=by rw[hX] <;> omega
  rw[a7];refine .eq (ajr _ (by omega)) ?_;refine bd.loop (al.take (al.length-1)).length (λk s=>s.1=(k:Int)∧s.2.length=l.length+k) (by simp;omega) ⟨rfl,by simp⟩ (λi st au bp=>?_) λst bp=>?_
  ·obtain⟨a,l'⟩:=st;obtain⟨h1,cO⟩:=bp;simp only at h1 cO;subst h1;have dJ:=au;simp at dJ;exact .cond (λ_=>.idx I au ((ahe hs kJ).bind λbm _=>(aiz _ _ _).bind λbG _=>.eq I (.eq (fN _ _ (by simp;omega) (by omega)) (.ret ⟨dS (by omega),by simp;omega⟩)))) λh=>by simp at h;omega
  obtain⟨a,l'⟩:=st;obtain⟨h1,cO⟩:=bp;simp only at h1 cO;subst h1;refine⟨_,by simp only[C9,vQ,cond_false];rfl,?_⟩;have dJ:(al.take (al.length-1)).length<=2:=by simp;omega
  exact .ret ⟨dS (by omega),by simp only;omega⟩
 obtain⟨a,l⟩:=st;obtain⟨h1,ae⟩:=au;simp only at h1 ae;subst h1;refine⟨_,by simp only[C9,vQ,cond_false];rfl,?_⟩;unfold Dr uF;exact .eq I (.eq I (.eq (fN _ _ (by simp;omega) (by omega)) (.ret cZ)))
def Ws(a:df)(ao:a.iC.length<=1000):bd (Db a) (λr=>r.length<=a.iC.length):=by
 unfold Db;refine bd.loop a.iC.length (λk s=>s.1=(k:Int)∧s.2.length<=k) (by omega) ⟨rfl,by simp⟩ (λj st aC au=>?_) λst au=>?_
 ·obtain⟨b,l⟩:=st;obtain⟨h1,ae⟩:=au;simp only at h1 ae;subst h1;exact .cond (λ_=>.idx I aC (.eq I (.eq (fN _ _ (by simp;omega) (by omega)) (.ret ⟨dS (by omega),by simp;omega⟩)))) λh=>by simp at h;omega
 obtain⟨b,l⟩:=st;obtain⟨h1,ae⟩:=au;simp only at h1 ae;subst h1;refine⟨_,by simp;rfl,?_⟩;exact .ret ae
def agB(a:df)(x:aa aV)(ao:a.iC.length<=1000):bd (G8 a x) (λ_=>True):=by
 unfold G8;refine(Ws a ao).bind λal hy=>?_;refine bd.loop al.length (λk s=>s.1=(k:Int)∧s.2.length<=k) (by omega) ⟨rfl,by simp⟩ (λj st aC au=>?_) λst au=>?_
 ·obtain⟨b,l⟩:=st;obtain⟨h1,ae⟩:=au;simp only at h1 ae;subst h1;refine .cond (λ_=>.idx I aC (.eq I (.bind (P:=λ_=>True) (.cond (λh=>.idx I (by simp at h;omega) (.ret cZ)) λ_=>.ret cZ) λm1 _=>?_))) λh=>by simp at h;omega
  exact .eq (fN _ _ (by simp;omega) (by omega)) (.ret ⟨dS (by omega),by simp;omega⟩)
 obtain⟨b,l⟩:=st;obtain⟨h1,ae⟩:=au;simp only at h1 ae;subst h1;refine⟨_,by simp;rfl,?_⟩;exact .ret cZ
def WN(x:ByteArray)(l:aa iX)(h:x=ByteArray.mk #[]):bd (G4 x l) (λr=>r.2=0∧∀b,bd (Hv r.1 b) (λr=>r=true)):=by
 subst h;exact⟨_,rfl,rfl,λb=>⟨_,rfl,by simp⟩⟩
def ahE(hs:cA s)(aE:og s)(hk:k<4)(he:gu s k e):bd (Ho s e) (λ_=>True):=by
 unfold Ho;have aM:=(hs.fK hk).2.1;have mb:k<s.bh.length:=by rw[hs.lC];exact hk
 have pI:e.bs.length<2^30:=by have:=he.len;omega
 rw[he.fK];refine(DK hs hk).bind λr tS=>.cond (λ_=>.ret cZ) λ_=>?_;subst tS;refine .idx I mb (.idx I mb ((Wu _ (by omega)).bind λaF _=>(WN _ _ (aE.lR _ (by rw[dp _ mb];exact gI _))).bind λbm az=>?_));refine .b4 (λ_=>xR mb) λcf aQ=>.b4 (P:=λ_=>True) (λh=>by rw[aQ h];exact ajs hs hk pI) λbG _=>.b4 (λ_=>az.2 _) λbR a7=>.cond (λ_=>.ret cZ) λ_=>.cond (λ_=>.ret cZ) λ_=>?_;refine(Wz hs _).bind λb8 bp=>.cond (λ_=>.ret cZ) λh=>?_;rcases bp with bp|⟨i,bp,rfl⟩
 ·simp at h;omega
 have hp:(av s.bK i).iC.length<=1000:=by
  have cO:=td qc (l:=s.bK) (k:=i) bp;rw[hs.DY]at cO;have dJ:∀j,j<6->(av BV j).2.length<=1000:=by decide
  have e5:=dJ i (by have:=hs.EC;omega);rw[cO]at e5;simpa[qc]using e5
 refine .idx I bp (.idx I bp ((Ws _ hp).bind λde _=>(WN _ _ (aE.w9 _ (by rw[dp _ bp];exact gI _))).bind λeu dJ=>?_));exact .b4 (λ_=>xR bp) λka e5=>.b4 (P:=λ_=>True) (λh=>by rw[e5 h];exact agB _ _ hp) λfy _=>.b4 (λ_=>dJ.2 _) λgZ _=>.ret cZ
def BX(s:aD)(r:Int)(e:aO):aA Int:=
 zN [⟨ux ⟨zA s r⟩ 21⟩,⟨ux ⟨zz s e⟩ 6⟩,⟨ux ⟨zB s r e⟩ 21⟩,⟨zD s e⟩,⟨ux ⟨zC s r e⟩ 21⟩]
def ajt(hs:cA s)(aE:og s)(hk:k<4)(he:gu s k e)(r:Int):bd (BX s r e) (λ_=>True):=by
 unfold BX;have pI:e.bs.length<2^30:=by have:=he.len;have:=(hs.fK hk).2.1;omega
 refine XE (by simp) λx an=>?_;simp only[dW,rr,rz]at an;rcases an with rfl|rfl|rfl|rfl|rfl
 ·refine z1 _ ?_;show bd (zA s r) _;unfold zA;exact(Qq hs r).bind λ_ _=>.ret cZ
 ·refine z1 _ ?_;show bd (zz s e) _;unfold zz;rw[he.fK];exact(DK hs hk).bind λ_ _=>.ret cZ
 ·refine z1 _ ?_;show bd (zB s r e) _;unfold zB;exact(WM hs aE _ _).bind λ_ _=>.ret cZ
 ·show bd (zD s e) _;unfold zD;exact(agA hs hk he).bind λ_ _=>.ret cZ
 exact z1 _ (aiy hs aE r pI)
def ahF(hs:cA s)(aE:og s)(hk:k<4)(r:Int)(u:iN)(he:gu s k u.bl):bd (ph s r u) (λ_=>True):=by
 unfold ph;refine .eq I (.eq I (.eq I (.eq I (.eq I ((ajt hs aE hk he r).bind λbR _=>.cond (λ_=>.ret cZ) λ_=>.eq I (.cond (λ_=>.ret cZ) λ_=>.cond (λ_=>.ret cZ) λ_=>.eq I (.eq I (.eq I (.bind (P:=λ_=>True) (XE (by simp) λx an=>?_) λ_ _=>.ret cZ)))))))));simp only[dW,rr,rz]at an;have mb:k<s.bh.length:=by rw[hs.lC];exact hk
 rcases an with rfl|rfl|rfl|rfl
 ·refine z1 _ ?_;show bd (Dc s u.bl) _;unfold Dc;rw[he.fK];refine(DK hs hk).bind λr tS=>?_;subst tS;exact .idx I mb ((P3 _ _ (by have:=(hs.fK hk).2.2.2.1;omega)).bind λ_ _=>.ret cZ)
 ·refine z1 _ ?_;show bd (Dd s r u.bl) _;unfold Dd;exact(ajq hs aE _ _).bind λ_ _=>.ret cZ
 ·show bd (Df s u.bl) _;unfold Df;exact(agd hs hk he).bind λ_ _=>.ret cZ
 refine z1 _ ?_;show bd (Dg s u.bl) _;unfold Dg;exact(ahE hs aE hk he).bind λ_ _=>.ret cZ
def ahG{r:Int}{u:iN}(h:ph s r u=some 0)(hd:u.c7≠3):ph s r {c7:=3,bl:= {u.bl with cq:=0,c3:=[]}} =some 0:=by
 have h1:BX s r u.bl=some 0:=by
  unfold ph at h;change (BX s r u.bl).bind _=_ at h;cases aW:BX s r u.bl with
  |none=>rw[aW]at h;cases h
  | some y=>
    rw[aW]at h
    by_cases hy:y=0
    ·rw[hy]
    simp only[Option.bind_some]at h
    rw[show(y !=0)=true by simpa using hy,cond_true]at h
    exact h
 have ae:BX s r {u.bl with cq:=0,c3:=[]} =some 0:=h1;unfold ph;show(BX s r {u.bl with cq:=0,c3:=[]}).bind _=_;rw[ae];rfl
end
def Ka{α:Type}{m:aA α}{P:α->Prop}(h:bd m P):hB m P:=λr e=>by
 obtain⟨x,h1,ae⟩:=h;rw[e]at h1;cases h1;exact ae
structure wP(s:aD):Prop where
 o8:2<=s.rA∧s.rA<=9
 act:(av s.bK 0).jS=ByteArray.mk #[]
 Ug:(av s.cG 0).bK=[1,2,3,4,5,6]
 lW:∃g1 g2 g3,(av s.cG 0).fU=[⟨1,true,true,[true]⟩,g1,g2,g3]
def agC(c:ea):hB (zv c) (λr=>(av r.1 0).jS=ByteArray.mk #[]):=by
 unfold zv;iterate 13 refine .eq ?_
 refine .skip λal=>.eq (.skip λaF=>.eq (.eq (.eq (.skip λbm=>?_))));refine .bind (P:=λm=>(av m 0).jS=ByteArray.mk #[]) (.cond (λ_=>.bind .idx λk hk=>.eq (.ret ?_)) λ_=>.ret I) λm1 h1=>.skip λbG=>.bind (P:=λm=>(av m 0).jS=ByteArray.mk #[]) (.cond (λ_=>.bind .idx λk hk=>.eq (.ret ?_)) λ_=>.ret h1) λm2 ae=>.ret ae
 ·have:k=2:=by omega
  subst this;rfl
 have:k=4:=by omega
 subst this;by_cases ao:4<m1.length
 ·rw[Ma ao,bf (by decide)];exact h1
 exact absurd hk.2 ao
def ahH(c:ea)(ak:iI c)(cx:aa bw)(ao:cx.length=4)(mb:∀k,k<4->(av cx k).bY.length<=1000)(au:(av cx 0).b1=1)(hk:(av cx 0).bY.length=1):
 hB (s8 c cx) (λr=>(av r.1 0).bK=[1,2,3,4,5,6]∧∃g1 g2 g3,(av r.1 0).fU=[⟨1,true,true,[true]⟩,g1,g2,g3]):=by
 unfold s8
 refine .skip λ_=>.skip λ_=>.skip λbm=>.skip λbG=>?_
 refine .bind (P:=λe=>e.2.2.2.2.2.2.2.1.bK=[1,2,3,4,5,6]∧∃g1 g2 g3,e.2.2.2.2.2.2.2.2=[⟨1,true,true,[true]⟩,g1,g2,g3]) (.loop (λst=>st.2.2.2.2.2.2.1.bK=[1,2,3,4,5,6]∧∃k:Nat,st.1=(k:Int)∧k<=4∧st.2.2.2.2.2.2.2.length=k∧(0<k->av st.2.2.2.2.2.2.2 0=⟨1,true,true,[true]⟩)) ⟨rfl,0,rfl,by omega,rfl,λh=>absurd h (by decide)⟩ λst cv=>?_) λe he=>.eq (.eq (.ret he))
 obtain⟨i,ke,g1,Fm,fz,g2,mj,g3⟩:=st
 obtain⟨aY,k,ar,iq,Fb,bH⟩:=cv
 simp only at aY ar Fb bH;subst ar
 refine .cond (λpL=>?_) λpL=>.ret ⟨aY,?_⟩
 ·have hM:k<4:=by simp only[fk]at pL;omega
  refine .bind .idx λaR dg=>?_
  have:aR=k:=by omega
  subst this
  refine .bind (P:=λy:aa Bool=>y.length=(av cx aR).bY.length) (λy e=>?_) λbR a7=>.skip λb8=>?_
  ·unfold wW at e
   split at e
   ·cases e;simp
   cases e
  refine .bind (P:=λe=> ∀x,x<bR.length->av e.2.2.2.1 x=true∧e.2.2.2.1.length=bR.length) (.loop (λs2=>s2.2.2.1.length=bR.length∧∃j:Nat,s2.1=(j:Int)∧j<=bR.length∧∀x,x<j->av s2.2.2.1 x=true) ⟨rfl,0,rfl,by omega,λx an=>absurd an (by omega)⟩ λs2 JV=>?_) λaK me=>?_
  ·obtain⟨i2,dD,eg,ac0⟩:=s2
   obtain⟨hb,j,aK,aC,an⟩:=JV
   simp only at hb aK an;subst aK
   refine .cond (λpL=>?_) λpL=>.ret λx Ca=>?_
   ·have E0:j<bR.length:=by simp only[fk]at pL;omega
    refine .skip λde=>.bind .idx λbD dh=>.skip λcf=>.ret ⟨by simp[dr,hb],j+1,?_,by omega,λx Ca=>?_⟩
    ·have:=mb aR hM
     exact dS (by omega)
    have:bD=j:=by omega
    subst this
    rw[Ma (by omega)]
    by_cases e:x=bD
    ·rw[bk e]
    rw[bf e];exact an x (by omega)
   simp only[nr]at pL
   exact⟨an x (by omega),hb⟩
  refine .eq (.bind xQ λeu dJ=>.skip λfy=>.skip λm1=>.skip λgZ=>.skip λm2=>.ret ⟨aY,aR+1,dS (by omega),by omega,?_,λ_=>?_⟩)
  ·subst dJ;rw[gj,Fb];rfl
  subst dJ
  rw[L8]
  by_cases fo:aR=0
  ·subst fo
   rw[bk Fb.symm]
   rw[hk]at a7
   obtain⟨bp,cO⟩:=me 0 (by omega)
   rw[au]
   rw[a7]at cO
   generalize aK.2.2.2.1=l at bp cO
   cases l with
   |nil=>cases cO
   | cons a t=>
     cases t with
     |nil=>have bp:a=true:=bp;rw[bp]
     |cons _ _=>cases cO
  rw[bf (show ¬(0=g3.length) by omega)]
  exact bH (by omega)
 simp only[nr]at pL
 have iq:k=4:=by omega
 have bJ:=bH (by omega)
 show ∃a b c,g3=_
 rw[iq]at Fb
 match g3,Fb,bJ with
 |[a,b,c,d],_,bJ=>exact⟨b,c,d,by have bJ:a=_:=bJ;rw[bJ]⟩
def WO(c:ea)(ak:iI c):hB (pU c) (λr=>wP r.1):=by
 unfold pU;refine .bind (Ka (gU _ 8 ak (by omega))) λal h1=>.bind (Ka (gU _ 30 h1.1 (by omega))) λaF ae=>?_;refine .eq (.eq (.eq (.eq (.eq (.eq (.eq (.eq (.eq (.eq (.eq (.eq ?_)))))))))));refine .bind (Ka (WZ _ ae.1)) λbm az=>.bind (Ka (bd.par (WG _ az.1) (agC _))) λbG aQ=>.bind (Ka (W0 _ aQ.1.1)) λbR a7=>.eq (.eq ?_);obtain⟨jN,_,dD,eg,hV,a7⟩:=a7;have ao:bR.1.length=4:=by rw[<-kf (f:=nE),a7];rfl
 have mb:∀k,k<4->(av bR.1 k).bY.length<=1000:=λk hk=>by
  have bJ:=td nE (l:=bR.1) (k:=k) (by omega);rw[a7]at bJ;rw[<-show _=(av bR.1 k).bY from ev (·.2.2) bJ];have:k=0∨k=1∨k=2∨k=3:=by omega
  cases dD <;> cases eg <;> cases hV <;> rcases this with rfl|rfl|rfl|rfl <;> decide
 have bJ:=td nE (l:=bR.1) (k:=0) (by omega);rw[a7]at bJ;have au:(av bR.1 0).b1=1:=(ev (·.1) bJ).symm;have sQ:(av bR.1 0).bY=[sX]:=(ev (·.2.2) bJ).symm;refine .bind (ahH _ jN bR.1 ao mb au (by rw[sQ];rfl)) λb8 bp=>.eq (.skip λde=>.skip λm1=>.skip λeu=>?_);have ade:2<=bu (2+al.1)∧bu (2+al.1)<=9:=by
  have:=h1.2;rw[hX (by omega) (by omega)];omega
 refine .bind (P:=λm=>wP m.1) (.cond (λ_=>.eq (.skip λy=>.ret ⟨ade,aQ.2,bp.1,bp.2⟩)) λ_=>.ret ⟨ade,aQ.2,bp.1,bp.2⟩) λm2 ae=>.skip λfy=>.skip λaR=>?_;refine .bind (P:=λm=>wP m.1) (.cond (λ_=>.eq (.skip λy=>.ret ⟨ae.o8,ae.act,ae.Ug,ae.lW⟩)) λ_=>.ret ae) λm3 az=>.skip λgZ=>.skip λbD=>?_;refine .bind (P:=λm=>wP m.1) (.cond (λ_=>.eq (.eq (.skip λy=>.ret ⟨az.o8,az.act,az.Ug,az.lW⟩))) λ_=>.ret az) λm4 aQ=>.eq (.ret ⟨aQ.o8,aQ.act,aQ.Ug,aQ.lW⟩)
def UM(i:Nat):aV:= {(default:aV)with c5:=BitVec.ofInt 64 (i:Int)}
def nq(i:Nat):aO:= {(default:aO)with ct:=1,bs:=[({(default:bN)with gl:=true,cw:=UM i}:bN)],cq:=1}
def alX:∀w:Fin 16,∀j:Fin 128,cT (UM w.1) j.1=true->(j.1:Int)<rk sX:=by decide +kernel
def aph{s:aD}(h:cA s){w:Nat}(hw:w<16):gu s 0 (nq w):=by
 refine⟨rfl,by rw[h.SD];rfl,λi au=>?_,by show 0<=10;decide,λ_=>rfl⟩;rw[h.SD]at au⊢;have:i=0:=by have:i<1:=au;omega
 subst this;show rJ 1 (rk sX) {(default:bN)with gl:=true,cw:=UM w};exact⟨λh=>(by cases h),λ_=>rfl,λ_ j aC ba=>alX ⟨w,hw⟩ ⟨j,aC⟩ ba,λh=>(by cases h),λh=>(by cases h),I6,λh=>(by cases h),λ_=>rfl,λ_=>rfl,λh=>(by cases h),λh=>(by cases h),λh=>(by cases h),λ_=>rfl⟩
def atq{α β:Type}{f:α->β}{l:aa α}{a b c d:β}(h:l.map f=[a,b,c,d]):∃w x y z,l=[w,x,y,z]∧f w=a:=by
 match l,h with
 |[w,x,y,z],h=>exact⟨w,x,y,z,rfl,by simp at h;exact h.1⟩
def atr{α β:Type}{f:α->β}{l:aa α}{a b c d e g:β}(h:l.map f=[a,b,c,d,e,g]):∃u v w x y z,l=[u,v,w,x,y,z]∧f u=a:=by
 match l,h with
 |[u,v,w,x,y,z],h=>exact⟨u,v,w,x,y,z,rfl,by simp at h;exact h.1⟩
def att{α β:Type}{f:α->β}{l:aa α}{a b c:β}(h:l.map f=[a,b,c]):∃u v w,l=[u,v,w]∧f u=a:=by
 match l,h with
 |[u,v,w],h=>exact⟨u,v,w,rfl,by simp at h;exact h.1⟩
def atu{α β:Type}{f:α->β}{l:aa α}{a b c d ai aG b5 at5 jk:β}(h:l.map f=[a,b,c,d,ai,aG,b5,at5,jk]):∃u v w x al aF bm bG bR,l=[u,v,w,x,al,aF,bm,bG,bR]∧f u=a∧f v=b∧f w=c∧f x=d:=by
 match l,h with
 |[u,v,w,x,al,aF,bm,bG,bR],h=>exact⟨u,v,w,x,al,aF,bm,bG,bR,rfl,by simp at h;exact⟨h.1,h.2.1,h.2.2.1,h.2.2.2.1⟩⟩
def atv(gG h6 sY r7:ByteArray)(f5 f6 f7 f8 f9:iB)(hd:aa lZ)(st:aa e0)(Fp:ByteArray)(xa:aa jq)(a2 a3 a4 a5 Fq:df)(Fs:ByteArray)(Ft:Int)(Fu:aa aV)(Fv:Int)(t2 t3 t4:bw)
    (jD:aa gK) (Fw:ByteArray) (g1 g2 g3:dE) (Fx:Int) (Fy:Bool) (fz mj:c9) (o5:aa cY) (o8 Fz:Int):aD:=
 ⟨[⟨1,gG,16⟩,⟨2,h6,16⟩,⟨3,sY,8⟩,⟨4,r7,4⟩,f5,f6,f7,f8,f9],hd,st,[⟨1,Fp,[],xa,ByteArray.mk #[]⟩,a2,a3,a4,a5,Fq],[⟨1,Fs,[sX],[1,2,4],Ft,Fu,Fv,ByteArray.mk #[]⟩,t2,t3,t4],jD,
   [⟨1,Fw,[⟨1,true,true,[true]⟩,g1,g2,g3],[1,2,3,4,5,6],Fx,Fy⟩,fz,mj],o5,o8,Fz⟩
def alY{s:aD}(hs:cA s)(hb:wP s)(bE:(av s.bh 0).jS=ByteArray.mk #[]):∃gG h6 sY r7 f5 f6 f7 f8 f9 hd st Fp xa a2 a3 a4 a5 Fq Fs Ft Fu Fv t2 t3 t4 jD Fw g1 g2 g3 Fx Fy fz mj o5 o8 Fz,
 s=atv gG h6 sY r7 f5 f6 f7 f8 f9 hd st Fp xa a2 a3 a4 a5 Fq Fs Ft Fu Fv t2 t3 t4 jD Fw g1 g2 g3 Fx Fy fz mj o5 o8 Fz:=by
 obtain⟨fs,hd,st,au4,cx,jD,rs,o5,o8,Fz⟩:=s
 obtain⟨h1,ae,az,aQ,⟨dD,eg,hV,a7⟩,bp,cO⟩:=hs
 obtain⟨aR,bD,cf,g1,g2,g3,c0⟩:=hb
 simp only at h1 aQ a7 bp bD cf c0 bE
 obtain⟨⟨i1,gG,lQ⟩,⟨i2,h6,mn⟩,⟨i3,sY,avy⟩,⟨i4,r7,avz⟩,f5,f6,f7,f8,f9,rfl,ar,aK,cr,e4⟩:=atu h1
 obtain⟨⟨avA,Fp,ap,xa,w9⟩,a2,a3,a4,a5,Fq,rfl,hT⟩:=atr aQ
 obtain⟨⟨avB,Fs,at6,au5,Ft,Fu,Fv,lR⟩,t2,t3,t4,rfl,lq⟩:=atq a7
 obtain⟨⟨at7,Fw,rg,at8,Fx,Fy⟩,fz,mj,rfl,xk⟩:=att bp
 simp only[Ep,zy]at ar aK cr e4
 simp only[qc,zy]at hT
 simp only[nE,zy]at lq
 obtain⟨rfl,rfl⟩:=ar
 obtain⟨rfl,rfl⟩:=aK
 obtain⟨rfl,rfl⟩:=cr
 obtain⟨rfl,rfl⟩:=e4
 obtain⟨rfl,hT⟩:=hT
 obtain⟨rfl,rfl,rfl⟩:=lq
 have hT:=List.map_eq_nil_iff.1 hT
 subst hT
 have bD:w9=_:=bD
 have cf:at8=_:=cf
 have c0:rg=_:=c0
 have bE:lR=_:=bE
 have xk:at7=_:=xk
 subst bD cf c0 bE xk
 exact⟨gG,h6,sY,r7,f5,f6,f7,f8,f9,hd,st,Fp,xa,a2,a3,a4,a5,Fq,Fs,Ft,Fu,Fv,t2,t3,t4,jD,Fw,g1,g2,g3,Fx,Fy,fz,mj,o5,o8,Fz,rfl⟩
def akS{P:Nat->Prop}(h:P 0∧P 1∧P 2∧P 3∧P 4∧P 5∧P 6∧P 7∧P 8∧P 9){i:Nat}(au:i<10):P i:=by
 have:i=0∨i=1∨i=2∨i=3∨i=4∨i=5∨i=6∨i=7∨i=8∨i=9:=by omega
 rcases this with rfl|rfl|rfl|rfl|rfl|rfl|rfl|rfl|rfl|rfl
 ·exact h.1
 ·exact h.2.1
 ·exact h.2.2.1
 ·exact h.2.2.2.1
 ·exact h.2.2.2.2.1
 ·exact h.2.2.2.2.2.1
 ·exact h.2.2.2.2.2.2.1
 ·exact h.2.2.2.2.2.2.2.1
 ·exact h.2.2.2.2.2.2.2.2.1
 exact h.2.2.2.2.2.2.2.2.2
def ahI{s:aD}(hs:cA s)(hb:wP s)(bE:(av s.bh 0).jS=ByteArray.mk #[]){i:Nat}(au:i<10):ph s 1 ⟨1,nq i⟩=some 0:=by
 obtain⟨gG,h6,sY,r7,f5,f6,f7,f8,f9,hd,st,Fp,xa,a2,a3,a4,a5,Fq,Fs,Ft,Fu,Fv,t2,t3,t4,jD,Fw,g1,g2,g3,Fx,Fy,fz,mj,o5,o8,Fz,rfl⟩:=alY hs hb bE;refine akS (P:=λi=>ph _ 1 ⟨1,nq i⟩=some 0) ⟨?_,?_,?_,?_,?_,?_,?_,?_,?_,?_⟩ au <;> kernel_rfl
def XF{α:Type}{m:aA α}{d:α}(h:m.isSome=true):m=some (m.getD d):=by cases m with |none=>cases h|some _=>rfl
def Cv:ea:=(uE ([]:aa (BitVec 8)) 0).getD default
def MR:uE ([]:aa (BitVec 8)) 0=some Cv:=XF (by kernel_rfl)
def adf:aD×ea:=(pU Cv).getD default
def H6:pU Cv=some adf:=XF (by kernel_rfl)
def mF:aD:=adf.1
def alZ:cA mF:=((Ql Cv ((DX [] 0 (by decide) (by decide)).of_eq MR)).of_eq H6).1
def arH(Ku:Nat):dz:= {cP:=ByteArray.mk #[97],ih:=4,c7:=(Ku:Int)}
def at6(Ku:Nat):aD:= {mF with bh:=dr mF.bh 0 ({(av mF.bh 0)with bY:=[arH Ku]}:bw)}
def ed:Vector aV 4:=default
section
variable{s:aD}{hp:aL Cell}{P:lV}{ls c6:Nat->aa aS}{next:Int}{cn:aa fw}{r6:Nat}
variable{A B:cN->Int}{N:Int->Int}
end
section
variable{s:aD}{hp:aL Cell}{P:lV}{ls c6:Nat->aa aS}{next:Int}{cn:aa fw}{r6:Nat}
def aiA(h:fG s hp P c6 next cn):F1 hp (some P.x)=some (some P.t):=by
 obtain⟨a,b,h1⟩:=h.st;refine bd.get ?_;unfold F1;exact .cond (λak=>by cases ak) λ_=>.eq rfl (.eq h1 (.ret rfl))
end
def zd:cN->cN->Int:=kl (λx y=>jD x.ct y.ct) (kl (λx y=>jD x.k9 y.k9) (λx y=>jD (kq x.cw) (kq y.cw)))
def aa7:lv zd:=(sx.on λx:cN=>x.ct).kl ((sx.on λx:cN=>x.k9).kl (sx.on λx:cN=>kq x.cw))
def akT{x y:cN}(h:zd x y=0):x=y:=by
 obtain⟨h1,ae⟩:=uI h;obtain⟨ae,az⟩:=uI ae;have ar:=rD.1 h1;have aK:=rD.1 ae;have cr:=D8 (rD.1 az);obtain⟨a,b,c⟩:=x;obtain⟨iw,b',jP⟩:=y;simp only at ar aK cr;subst ar aK cr;rfl
def api{l:aa Int}(ao:l.length<=1000):Ht l=some (oV l):=by
 refine bd.get ?_;unfold Ht;refine .bind (P:=λe=>(∃q,e=.inl q∧oV l=0)∨∃q:Int×Int×Int×Bool×Bool,e=.inr q∧q.1=oV l)
  (bd.l4 l.length (λj st=>st=(j:Int)∧oV l=oV (l.drop j)) (by omega) ⟨rfl,rfl⟩ (λj st aC hs=>?_) (λst hs=>?_)) λe he=>?_
 ·obtain⟨rfl,hs⟩:=hs;rw[vE aC]at hs;have hs:oV l=if l[j]=0 then oV (l.drop (j+1))else l[j]:=hs;refine .cond (λ_=>.idx I aC ?_) λak=>by simp at ak;omega
  rw[dp _ aC];refine .cond (λak=>.ret (.inr ⟨_,rfl,?_⟩)) λak=>.ret ⟨dS (by omega),?_⟩
  ·have:l[j]≠0:=by simpa using ak
   rw[hs,bf this]
  have:l[j]=0:=by simpa using ak
  rw[hs,bk this]
 ·obtain⟨rfl,hs⟩:=hs;refine .cond (λak=>by simp at ak) λ_=>.ret (.inl ⟨_,rfl,?_⟩);rw[hs,xq];rfl
 rcases he with⟨q,rfl,hq⟩|⟨q,rfl,hq⟩
 ·simp only[Sum.elim_inl];exact .ret hq.symm
 simp only[Sum.elim_inr];exact .ret hq
def al0(a b:iM):Gh a b=some (zd a.hE b.hE):=by
 unfold Gh;rw[wo,wo,Rn];simp only[Option.bind_some];rw[api (by simp)];simp only[Option.bind_some,oV,zd,kl];congr 1;split
 ·split
  ·split
   ·rename_i h;exact h.symm
   rfl
  rfl
 rfl
structure UN(T:List cN)(N M:List Int)(A B:cN->Int):Prop where
 au6:T.Pairwise (λa b=>zd a b<0)
 mem:∀x,x∈T↔¬(A x=0∧B x=0)
 n:N=T.map A
 m:M=T.map B
def Ro{α β:Type}[DecidableEq α]:∀{l:aa (α×β)} {x:α} {v:β},o7 l->(x,v)∈l->dO l x=some v
 | (k,w)::r,x,v,hk,h=>by
   obtain⟨h1,ae⟩:=mK.1 hk;show(if x=k then some w else dO r x)=some v;rcases dW.1 h with e|h
   ·cases e;exact bk I
   have:k≠x:=h1 (x,v) h;rw[bf (zQ this)];exact Ro ae h
def al1{s:aD}{hp:aL Cell}{p m:Nat}{A B:cN->Int}(h:oq s hp p m A B)(hlen:∀kv,qb hp m=some kv->kv.length<=1000):
 cM (GW hp (some p)) (λr=>r.2=hp∧r.1.length<=1000∧UN (r.1.map (·.hE)) (r.1.map (·.xM)) (r.1.map (·.xJ)) A B):=by
 obtain⟨em,ae,jh,bH⟩:=h.map
 have tL:=hlen em ae
 let F:Nat->iM:=λq=>⟨(av em q).1,(av em q).2.qL,(av em q).2.qK⟩
 have yo:∀vis,Met em.length vis->(∀j,j<em.length->j∈vis)->(vis.map F).Perm (em.map λx=>(⟨x.1,x.2.qL,x.2.qK⟩:iM)):=λvis ba aY=>by
  refine((ba.perm aY).map _).trans ?_;rw[show(List.range em.length).map F=((List.range em.length).map (λq=>av em q)).map (λx=>(⟨x.1,x.2.qL,x.2.qK⟩:iM)) by rw[uy];rfl,Xx]
 unfold GW
 refine .cond (λak=>by cases ak) λ_=>.eq rfl (.eq h.cell (.eq (a:=m) I (.eq ae ?_)))
 refine .bind (P:=λe=>e.2.2.Perm (em.map λx=>(⟨x.1,x.2.qL,x.2.qK⟩:iM))) (cM.loop em.length (λj st=> ∃vis,st=(vis,vis.map F)∧vis.length=j∧Met em.length vis) (by omega) ⟨[],rfl,rfl,.nil,by simp⟩ (λj st aC hs=>?_) (λst hs=>?_)) λe he=>?_
 ·obtain⟨vis,rfl,sM,ba⟩:=hs
  refine .next λo a8=>?_
  cases o with
  |none=>exact .cond (λak=>by cases ak) λ_=>.ret (yo vis ba a8)
  | some q=>
    refine .cond (λ_=>.eq I (.eq I (.eq (fN _ _ (by simp;omega) (by omega)) (.ret ⟨vis++[q],?_,by simp[sM],ba.more a8⟩)))) λak=>by cases ak
    rw[pT];rfl
 ·obtain⟨vis,rfl,sM,ba⟩:=hs
  refine .next λo a8=>?_
  cases o with
  |none=>exact .cond (λak=>by cases ak) λ_=>.ret (yo vis ba a8)
  |some q=>exact absurd (ba.full sM a8.1) a8.2
 have hle:=he.length_eq
 rw[kf]at hle
 refine .bind (cM.wA (c:=λa b=>zd a.hE b.hE) ⟨λx y=>aa7.neg _ _,λx y z=>aa7.lR _ _ _⟩ (by omega) λa _ b _=>al0 a b) λy hy=>.ret ?_
 have cJ:y.Perm (em.map λx=>(⟨x.1,x.2.qL,x.2.qK⟩:iM)):=hy.1.trans he
 have ud:(y.map (·.hE)).Perm (em.map (·.1)):=by
  have:=cJ.map (·.hE);rwa[uy]at this
 have hm:∀c∈y,∃x∈em,c=⟨x.1,x.2.qL,x.2.qK⟩:=λc ak=>by
  obtain⟨x,an,e⟩:=gJ.1 (cJ.mem_iff.1 ak);exact⟨x,an,e.symm⟩
 have ba:∀x∈em,¬(A x.1=0∧B x.1=0)∧x.2=⟨A x.1,B x.1⟩:=λx an=>by
  have e5:=bH x.1;rw[Ro jh an]at e5;split at e5
  ·cases e5
  rename_i b2;exact⟨b2,xr e5⟩
 have kQ:(y.map (·.hE)).Nodup:=ud.nodup_iff.2 (F4.2 jh)
 refine⟨rfl,(by have:=cJ.length_eq;rw[kf]at this;show y.length<=1000;omega),⟨?_,λx=>?_,?_,?_⟩⟩
 ·have dJ:(y.map (·.hE)).Pairwise (λa b=>zd a b<=0):=F4.2 hy.2
  refine(dJ.and kQ).imp λ{a b} Uh=>?_
  have:zd a b≠0:=λe=>Uh.2 (akT e)
  omega
 ·rw[ud.mem_iff,gJ]
  constructor
  ·rintro ⟨z,b2,rfl⟩;exact(ba z b2).1
  intro an
  have e5:=bH x
  rw[bf an]at e5
  exact⟨_,QT e5,rfl⟩
 ·rw[uy]
  refine KQ λc ak=>?_
  obtain⟨x,an,rfl⟩:=hm c ak
  exact ev kx.qL (ba x an).2
 rw[uy]
 refine KQ λc ak=>?_
 obtain⟨x,an,rfl⟩:=hm c ak
 exact ev kx.qK (ba x an).2
def akU(s:aD)(e:aO):(lp s e).length<=1:=by unfold lp;split <;> simp
def aju{s:aD}(aE:kL s)(L:aa aS)(t:cN):0<=l5 s L t∧l5 s L t<=4*L.length:=by
 have h1:=DP (f:=λi:aS=>jM s i.bl) (n:=4) (λi=>Mz aE _) L;have ae:=KM (a:=t) (l:=L.flatMap λi=>jM s i.bl);unfold l5;omega
def ZC{α:Type}[DecidableEq α]:∀{l l':aa α},l.Nodup->(∀x∈l,x∈l')->l.length<=l'.length
 |[],_,_,_=>by simp
 | x::r,l',aM,hs=>by
   obtain⟨h1,ae⟩:=pf.1 aM;have an:=hs x kt;have az:=ZC ae (l':=l'.erase x) λy hy=>(Vj (λe=>h1 (by rw[<-e];exact hy))).2 (hs y (fM _ hy));have aQ:=U0 an;have a7:=U8 an;rw[List.length_cons];omega
section
variable{s:aD}{hp:aL Cell}{P:lV}{c6:Nat->aa aS}{next:Int}{cn:aa fw}
def al2(aE:kL s)(h:fG s hp P c6 next cn)(cO:(eb c6).length<=48):∀kv,qb hp P.m=some kv->kv.length<=1000:=λkv vu=>by
 obtain⟨sO,h1,ae,az⟩:=h.jy.map;rw[h1]at vu;cases vu;have aQ:=ZC (l:=kv.map (·.1)) (l':=((eb c6).flatMap λi=>jM s i.bl)++((eb c6).flatMap λi=>lp s i.bl)) (F4.2 ae) λt bE=>by
  obtain⟨x,an,rfl⟩:=gJ.1 bE;have a7:=az x.1;rw[Ro ae an]at a7;split at a7
  ·cases a7
  rename_i b2;refine cz.2 (OS λfb=>b2 ?_);simp only[xG]at fb;unfold l5 kC;rw[VA.2 fb.1,VA.2 fb.2];exact⟨rfl,rfl⟩
 have a7:=DP (f:=λi:aS=>jM s i.bl) (n:=4) (λi=>Mz aE _) (eb c6);have bp:=DP (f:=λi:aS=>lp s i.bl) (n:=1) (λi=>akU s _) (eb c6);rw[kf,gj]at aQ;omega
def ZD(aE:kL s)(h:fG s hp P c6 next cn)(lT:(eb c6).length<=48):
 cM (zl hp (some P.x)) (λr=>r.2=hp∧r.1.length<=1000∧∃T N M,UN T N M (l5 s (eb c6)) (kC s (eb c6))∧r.1=T.filter λx=>decide (kC s (eb c6) x=0)):=by
 obtain⟨a,b,h1⟩:=h.st
 unfold zl K2
 refine .cond (λak=>by cases ak) λ_=>.eq rfl (.eq h1 (.bind (P:=λr=>r.2=hp∧r.1.length<=1000∧∃T N M,UN T N M (l5 s (eb c6)) (kC s (eb c6))∧r.1=T.filter λx=>decide (kC s (eb c6) x=0)) (.bind (al1 h.jy (al2 aE h lT)) λz b2=>?_) λr aE=>.ret aE))
 obtain⟨z,hp'⟩:=z
 obtain⟨rfl,Jv,b2⟩:=b2
 simp only at b2 Jv
 have tL:∀c∈z,c.xM=l5 s (eb c6) c.hE∧c.xJ=kC s (eb c6) c.hE:=λc ak=>by
  have g1:=b2.n;have g2:=b2.m;rw[uy]at g1 g2;exact⟨List.map_inj_left.1 g1 _ ak,List.map_inj_left.1 g2 _ ak⟩
 have arI:∀c∈z,((decide (c.xM>0))&&(c.xJ==0))=decide (kC s (eb c6) c.hE=0):=λc ak=>by
  obtain⟨g1,g2⟩:=tL c ak;have g3:=(b2.mem c.hE).1 (gJ.2 ⟨c,ak,rfl⟩);have g4:=aju aE (eb c6) c.hE;rw[g1,g2,oG];simp only[gq,fk,nv];omega
 have ml:((z.map (·.hE)).filter λx=>decide (kC s (eb c6) x=0))=(z.filter λc=>decide (kC s (eb c6) c.hE=0)).map (·.hE):=by rw[List.filter_map];rfl
 refine .kk (P:=λe=>e.2.2=(z.filter λc=>decide (kC s (eb c6) c.hE=0)).map (·.hE)) (bd.l4 z.length (λi st=>st=((i:Int),((z.take i).filter λc=>decide (kC s (eb c6) c.hE=0)).map (·.hE))) (by omega) I (λi st au cv=>?_) λst cv=>?_) λe he=>.ret ⟨rfl,?_,_,_,_,b2,he.trans ml.symm⟩
 ·subst cv
  have hle:(((z.take i).filter λc=>decide (kC s (eb c6) c.hE=0)).map (·.hE)).length<=1000:=by
   rw[kf];exact qH (FO _ _) (by rw[fT];omega)
  refine .cond (λ_=>.idx I au (.eq I ?_)) λak=>by simp at ak;omega
  rw[arI _ (Mh au),xB _ au,uv,pT]
  refine .bind (P:=λm=>m=((z.take i).filter λc=>decide (kC s (eb c6) c.hE=0)).map (·.hE)++([av z i].filter λc=>decide (kC s (eb c6) c.hE=0)).map (·.hE)) (.cond (λak=>.eq (fN _ _ (by simp only[List.length_cons,List.length_nil];omega) (by omega)) (.ret ?_)) λak=>.ret ?_) λm hm=>.ret (by rw[hm,dS (by omega)])
  ·rw[CK (by simpa using ak)];rfl
  rw[zf (by simpa using ak)];simp
 ·subst cv
  refine .cond (λak=>by simp at ak) λ_=>.ret ?_
  show((z.take z.length).filter _).map _=_
  rw[k4]
 show e.2.2.length<=1000
 rw[he,kf];exact qH (FO _ _) Jv
end
def wQ(i:Nat):aS:= {bl:=nq i,cU:=(i:Int)+1,ij:=1}
def j9(n:Nat):Nat->aa aS:=gX (λ_=>[]) 0 ((List.range n).map wQ)
def ajv:j9 0=λ_=>[]:=by funext j;unfold j9 gX;split <;> rfl
def Bb(n:Nat):j9 n 0=(List.range n).map wQ:=z7
def Y1(n:Nat):eb (j9 n)=(List.range n).map wQ:=by
 unfold eb;rw[Bb,show j9 n 1=[]from oK (by decide),show j9 n 2=[]from oK (by decide),show j9 n 3=[]from oK (by decide),mM,mM,mM]
def ajw(n:Nat):(eb (j9 n)).length=n:=by rw[Y1,kf,CV]
def ajx(n:Nat):gX (j9 n) 0 (j9 n 0++[wQ n])=j9 (n+1):=by
 rw[Bb];unfold j9;rw[Xy,CZ,pT];rfl
def atw:∀a b:Fin 16,iW (nq a.1) (nq b.1)=decide (a.1=b.1):=by decide +kernel
def Rp{n:Nat}{i:aS}(h:i∈(List.range n).map wQ):∃j,j<n∧i=wQ j:=by
 obtain⟨j,h1,ae⟩:=gJ.1 h;exact⟨j,nX.1 h1,ae.symm⟩
def arJ{n:Nat}(h:n<16):eH (j9 n 0) (nq n)=none:=by
 rw[Bb];unfold eH;refine zm.2 λi au=>?_;obtain⟨j,aC,rfl⟩:=Rp au;rw[show iW (wQ j).bl (nq n)=decide (j=n)from atw ⟨j,by omega⟩ ⟨n,h⟩];simp;omega
def arK(i:Nat):oa (nq i):=λh=>by rcases h with h|h <;> cases h
section
variable{s:aD}{hp:aL Cell}{P:lV}{c6:Nat->aa aS}{next:Int}{cn:aa fw}
def arL(aE:kL s)(i:Nat):jM s (nq i)=[]:=by
 unfold jM;refine OW.2 λr JI=>?_;have h:=aE.refs r JI;unfold qx;rw[bf];intro cB;have bE:r.ct=(1:Int):=cB;rcases h.2.2 with h|h|h|h <;> (have:=h.1;omega)
def apj(hs:cA s)(aE:kL s)(hb:wP s)(bE:(av s.bh 0).jS=ByteArray.mk #[]){i:Nat}(au:i<10)(b2:(i:Int)<(av s.bh 0).ht)(h:fG s hp P (j9 i) ((i:Int)+1) cn)(aC:cn.length<=i):
 cM (pY hp (some P.x) s 1 ⟨1,nq i⟩) (λr=>r.1=0∧∃tY,tY.length<=i+1∧fG s r.2 P (j9 (i+1)) ((i:Int)+1+1) tY):=by
 have lh:=ajw i
 have BW:mx (eb (j9 i)) 1<=(i:Int):=by
  have az:(eb (j9 i)).countP (λi=>i.ij==1)<=_:=O2;unfold mx;omega
 have oZ:room s (mx (eb (j9 i))) 1=true:=by
  show decide (mx (eb (j9 i)) 1<(av s.cG 0).kz)=true;rw[aE.all];exact pV (by omega)
 unfold pY
 refine .eq (ahI hs hb bE au) (.cond (λak=>by cases ak) λ_=>.cond (λ_=>.bind (QY hs aE h (Ns aE (by omega) (by omega)) (k:=0) (by decide) (aph hs (by omega)) (arK i) 1 (λx an=>?_) (by rw[Bb,kf,CV];omega) ⟨by omega,by omega⟩) λr dJ=>.ret ?_) λak=>by cases ak)
 ·rw[Bb]at an
  obtain⟨j,aC,rfl⟩:=Rp an
  show(j:Int)+1<i+1
  omega
 rw[bf (by rw[arJ (by omega)];simp),bf (by rw[Bb,kf,CV];omega),bk oZ]at dJ
 obtain⟨Kz,g8⟩:=dJ
 have hp:=Mg (ls:=j9 i) (k:=0) (by decide) (wQ i)
 have g:=g8.to (Qo.trans (Qm hp)) (Qp.trans (Qn hp)) (QD.trans (QC hp))
 rw[show({bl:=nq i,cU:=(i:Int)+1,ij:=1}:aS)=wQ i from rfl,ajx]at g
 exact⟨Kz,_,by rw[gj];simp;omega,g⟩
def akV(aE:kL s){l:aa iN}(c6:Nat->Nat->aa aS)(nU:Nat->Int)(ao:(l.length:Int)<=s.rA)(e5:s.rA<=9)(h:fG s hp P (c6 0) (nU 0) [])
 (step:∀i hp' cn,i<l.length->cn.length<=i->fG s hp' P (c6 i) (nU i) cn->cM (pY hp' (some P.x) s 1 (av l i)) (λr=>r.1=0∧∃tY,tY.length<=i+1∧fG s r.2 P (c6 (i+1)) (nU (i+1)) tY))
 (aM:(eb (c6 l.length)).length<=48) (hd:∀i∈eb (c6 l.length),jM s i.bl=[]):
 cM (nw hp (some P.x) s 1 l) (λr=>r.1=0∧r.2.1=0∧fG s r.2.2 P (c6 l.length) (nU l.length) []):=by
 obtain⟨a0,vB,bJ⟩:=h.st
 unfold nw
 refine .cond (λak=>by simp only[fk]at ak;omega) λ_=>.eq (a:=P.x) I (.eq bJ (.eq (a:=0) I ?_))
 refine .bind (P:=λe=> ∃q:Int×Bool×aL Cell,e=.inl q∧∃cn,fG s q.2.2 P (c6 l.length) (nU l.length) cn) (cM.loop l.length (λi st=>st.1=(i:Int)∧∃cn,cn.length<=i∧fG s st.2 P (c6 i) (nU i) cn) (by omega) ⟨rfl,[],jF 0,h⟩ (λi st au cv=>?_) λst cv=>?_) λe he=>?_
 ·obtain⟨x,hp'⟩:=st
  obtain⟨ar,cn,aC,g⟩:=cv
  simp only at ar g;subst ar
  refine .cond (λ_=>.idx I au (.bind (step i hp' cn au aC g) λy hy=>?_)) λak=>by simp only[nr]at ak;omega
  obtain⟨aK,tY,Cg,dY⟩:=hy
  rw[aK]
  exact .cond (λak=>by cases ak) λ_=>.ret ⟨dS (by omega),tY,Cg,dY⟩
 ·obtain⟨x,hp'⟩:=st
  obtain⟨ar,cn,aC,g⟩:=cv
  simp only at ar g;subst ar
  exact .cond (λak=>by simp at ak) λ_=>.ret ⟨_,rfl,cn,g⟩
 obtain⟨q,rfl,cn,g⟩:=he
 simp only[Sum.elim_inl]
 refine .bind (ZD aE g aM) λbm az=>?_
 obtain⟨bm,hp'⟩:=bm
 obtain⟨rfl,_,T,N,M,ud,cr⟩:=az
 simp only at cr
 have eB:∀t,l5 s (eb (c6 l.length)) t=0:=λt=>by
  unfold l5;rw[OW.2 hd];rfl
 have e4:bm=[]:=by
  rw[cr];refine U5.2 λt bE hb=>?_;exact(ud.mem t).1 bE ⟨eB t,vI hb⟩
 subst e4
 obtain⟨bZ,c1,h1⟩:=g.st
 refine .cond (λak=>by cases ak) λ_=>.bind (P:=λr=>fG s r P (c6 l.length) (nU l.length) []) ?_ λr aE=>.ret ⟨rfl,rfl,aE⟩
 unfold xw
 exact .cond (λak=>by cases ak) λ_=>.eq (a:=P.x) I (.eq h1 (.eq I (.any λq=>.eq I (.ret (g.Ox q.1 q.2)))))
end
def al3{s:aD}(aE:kL s)(n:Nat):∀i∈eb (j9 n),jM s i.bl=[]:=λi au=>by
 rw[Y1]at au;obtain⟨j,_,rfl⟩:=Rp au;exact arL aE j
section
variable{s:aD}{hp:aL Cell}{P:lV}{ls c6:Nat->aa aS}{next:Int}{cn:aa fw}
def arM(hs:cA s)(aE:kL s){k:Nat}(hk:k<4){e:aO}(iU:ph s 1 ⟨1,e⟩=some 0)(he:gu s k e)(aY:oa e)(aW:eH (ls k) e=none)(b2:((ls k).length:Int)<(av s.bh k).ht)
 (lh:(eb ls).length<=10) (aM:1<=next∧next<=100) (yr:∀i∈ls k,i.cU<next) (h:fG s hp P ls next cn) (aC:cn.length<=10):
 cM (pY hp (some P.x) s 1 ⟨1,e⟩) (λr=>r.1=0∧fG s r.2 P (gX ls k (ls k++[⟨e,next,1⟩])) (next+1) (cn++[⟨.yl (some P.x) ⟨e,next,1⟩ next 1⟩])):=by
 have BW:mx (eb ls) 1<=10:=by
  have az:(eb ls).countP (λi=>i.ij==1)<=_:=O2;unfold mx;omega
 have oZ:room s (mx (eb ls)) 1=true:=by
  show decide (mx (eb ls) 1<(av s.cG 0).kz)=true;rw[aE.all];exact pV (by omega)
 have fh:(ls k).length<=10:=by
  have:k=0∨k=1∨k=2∨k=3:=by omega
  unfold eb at lh;simp only[gj]at lh;rcases this with rfl|rfl|rfl|rfl <;> omega
 unfold pY
 refine .eq iU (.cond (λak=>by cases ak) λ_=>.cond (λ_=>.bind (QY hs aE h (Ns aE (by omega) (by omega)) hk he aY 1 yr (by omega) ⟨by omega,by omega⟩) λr dJ=>.ret ?_) λak=>by cases ak)
 rw[bf (by rw[aW];simp),bf (by omega),bk oZ]at dJ
 obtain⟨Kz,g8⟩:=dJ
 have hp:=Mg (ls:=ls) hk (⟨e,next,1⟩:aS)
 exact⟨Kz,g8.to (Qo.trans (Qm hp)) (Qp.trans (Qn hp)) (QD.trans (QC hp))⟩
def arN(hs:cA s)(aE:kL s){k:Nat}(hk:k<4){e:aO}{i:aS}(iU:ph s 1 ⟨3,e⟩=some 0)(he:gu s k e)(aW:eH (ls k) e=some i)(ao:∀j∈ls k,oa j.bl∧j.ij=1)
 (lh:(eb ls).length<=10) {l':aa aS} (Ud:iS (ls k) e=l') (lk:(eb (gX ls k l')++[i]).Perm (eb ls)) (h:fG s hp P ls next cn) (aC:cn.length<=10):
 cM (pY hp (some P.x) s 1 ⟨3,e⟩) (λr=>r.1=0∧fG s r.2 P (gX ls k l') next (cn++[⟨.ym (some P.x) i⟩])):=by
 subst Ud
 unfold pY
 refine .eq iU (.cond (λak=>by cases ak) λ_=>.cond (λak=>by cases ak) λ_=>.cond (λak=>by cases ak) λ_=>.bind (ajm hs aE h (Ns aE (by omega) (by omega)) hk he λx an=>?_) λr dJ=>.ret ?_)
 ·obtain⟨h1,ae⟩:=ao x an
  exact⟨h1,by rw[ae];rfl,ajn (ajh.2 ⟨k,hk,an⟩)⟩
 rw[aW]at dJ
 obtain⟨Kz,g8⟩:=dJ
 exact⟨Kz,g8.to (ahA lk) (ahB lk) (aix lk)⟩
def al4(aE:kL s)(h:fG s hp P c6 next cn)(aM:(eb c6).length<=10):cM (zl hp (some P.x)) (λr=>r.2=hp∧(r.1=[]↔∀t,l5 s (eb c6) t≠0->kC s (eb c6) t≠0)):=by
 refine(ZD aE h (by omega)).mono λr ⟨h1,_,T,N,M,ud,cr⟩=>⟨h1,?_⟩;rw[cr,U5];constructor
 ·intro cB t eB cI;exact cB t ((ud.mem t).2 λak=>eB ak.1) (pV cI)
 intro cB t bE cI;have cI:=vI cI;exact(ud.mem t).1 bE ⟨OS λeB=>cB t eB cI,cI⟩
end
section
variable{s:aD}{b:Bool}{w:Nat}{hp:aL Cell}{P:lV}
end
section
variable{s:aD}{hp:aL Cell}{P:lV}{ls c6:Nat->aa aS}{next:Int}{cn:aa fw}
def al5(h:fG s hp P c6 next []):cM (FY hp (some P.x) 0) (λr=>fG s r P c6 next []):=by
 unfold FY;refine .bind (P:=λe=>fG s e.2 P c6 next []) (cM.loop 0 (λi st=>fG s st P c6 next []) (by decide) h (λi st au cv=>by omega) λst g=>?_) λe he=>.ret he;obtain⟨a,b,cv⟩:=g.st;exact .eq (a:=P.x) I (.eq cv (.eq (a:=(0:Int)) I (.cond (λak=>by cases ak) λ_=>.ret g)))
def al6(aE:kL s)(w7:s.cV=[])(h:fG s hp P c6 next cn)(aM:(eb c6).length<=10):cM (zl hp (some P.x)) (λr=>r.2=hp∧r.1=[]):=by
 refine(al4 aE h aM).mono λr ⟨h1,ae⟩=>⟨h1,ae.2 λt bE=>?_⟩;exfalso;apply bE;unfold l5;have:(eb c6).flatMap (λi=>jM s i.bl)=[]:=by
  rw[OW];intro i _;unfold jM;rw[w7];rfl
 rw[this];rfl
def Y2(aE:kL s)(w7:s.cV=[]){u:iN}{fu:Nat->aa aS}{qB:Int}{G:Prop}(ae:2<=s.rA)(h:fG s hp P c6 next [])(ao:(eb c6).length<=10)
 (step:cM (pY hp (some P.x) s 1 u) (λr=>(r.1=0∧G∧∃ou,fG s r.2 P fu qB [ou])∨(r.1≠0∧¬G∧fG s r.2 P c6 next [])))
 (aM:G->(eb fu).length<=10):
 cM (nw hp (some P.x) s 1 [u]) (λr=>(r.2.1=0∧G∧fG s r.2.2 P fu qB [])∨(r.2.1≠0∧¬G∧fG s r.2.2 P c6 next [])):=by
 obtain⟨a0,vB,bJ⟩:=h.st
 unfold nw
 refine .cond (λak=>by have ak:decide ((1:Int)>s.rA)=true:=ak;simp only[fk]at ak;omega) λ_=>.eq (a:=P.x) I (.eq bJ (.eq (a:=0) I ?_))
 refine .bind (P:=λe=>(∃q:Int×Bool×aL Cell,e=.inl q∧G∧∃ou,fG s q.2.2 P fu qB [ou])∨(∃q:Int×Int×Int×Int×Bool×Bool×aL Cell×Int,e=.inr q∧q.2.2.2.2.2.2.2≠0∧¬G∧fG s q.2.2.2.2.2.2.1 P c6 next [])) (cM.loop 1 (λi st=>st.1=(i:Int)∧if i=0 then st.2=hp else G∧∃ou,fG s st.2 P fu qB [ou]) (by decide) ⟨rfl,rfl⟩ (λi st au cv=>?_) λst cv=>?_) λe he=>?_
 ·obtain⟨x,hp'⟩:=st
  have:i=0:=by omega
  subst this
  obtain⟨ar,aK⟩:=cv
  have ar:x=0:=ar
  have aK:hp'=hp:=aK
  subst ar aK
  refine .cond (λ_=>.idx (k:=0) I (by show 0<1;decide) (.bind step λy hy=>?_)) λak=>by cases ak
  rcases hy with⟨aK,dY,ou,g⟩|⟨aK,dY,g⟩
  ·rw[aK]
   exact .cond (λak=>by cases ak) λ_=>.ret ⟨rfl,dY,ou,g⟩
  exact .cond (λ_=>.ret (.inr ⟨_,rfl,aK,dY,g⟩)) λak=>by simp at ak;exact absurd ak aK
 ·obtain⟨x,hp'⟩:=st
  obtain⟨ar,dY,g⟩:=cv
  have ar:x=1:=ar
  subst ar
  exact .cond (λak=>by cases ak) λ_=>.ret (.inl ⟨_,rfl,dY,g⟩)
 rcases he with⟨q,rfl,dY,ou,g⟩|⟨q,rfl,aK,dY,g⟩
 ·simp only[Sum.elim_inl]
  refine .bind (al6 aE w7 g (aM dY)) λbm az=>?_
  obtain⟨bm,hp'⟩:=bm
  obtain⟨e4,hT⟩:=az
  simp only at e4 hT
  subst e4 hT
  obtain⟨bZ,c1,h1⟩:=g.st
  refine .cond (λak=>by cases ak) λ_=>.bind (P:=λr=>fG s r P fu qB []) ?_ λr aE=>.ret (.inl ⟨rfl,dY,aE⟩)
  unfold xw
  exact .cond (λak=>by cases ak) λ_=>.eq (a:=P.x) I (.eq h1 (.eq I (.any λq=>.eq I (.ret (g.Ox q.1 q.2)))))
 simp only[Sum.elim_inr]
 refine .bind (P:=λr=>fG s r P c6 next []) ?_ λr aE=>.ret (.inr ⟨aK,dY,aE⟩)
 unfold xw
 exact .cond (λ_=>.bind (al5 g) λr aE=>.ret aE) λak=>by simp at ak;exact absurd ak aK
end
structure EG(s:aD):Prop where
 hs:cA s
 aE:kL s
 oy:og s
 o5:s.cV=[]
 sz:∀k,k<4->(av s.bh k).ht=64
 o8:2<=s.rA
structure s4(ls:Nat->List aS)(next:Int)(n:Nat):Prop where
 num:1<=next∧next<=1+n
 low:∀k,k<4->∀i∈ls k,i.cU<next∧oa i.bl∧i.ij=1
 len:(eb ls).length<=n
def Rq{ls:Nat->aa aS}{k:Nat}(hk:k<4):(ls k).length<=(eb ls).length:=by
 have:k=0∨k=1∨k=2∨k=3:=by omega
 unfold eb;simp only[gj];rcases this with rfl|rfl|rfl|rfl <;> omega
def aiB{l:aa aS}{e:aO}{i:aS}(h:eH l e=none)(au:iW i.bl e=true):eH (l++[i]) e=some i:=by
 unfold eH at h⊢;rw[List.find?_append,h];simp[au]
def ahJ{l:aa aS}{e:aO}{i:aS}(h:eH l e=none)(au:iW i.bl e=true):iS (l++[i]) e=l:=by
 unfold iS;rw[uv,xm.2 λc ak=>by rw[wb h c ak];rfl];simp[au]
def Y3(ls:Nat->aa aS)(k:Nat)(l:aa aS):gX ls k l k=l:=by unfold gX;rw[bk I]
def XG(ls:Nat->aa aS)(k:Nat)(l:aa aS):gX (gX ls k l) k (ls k)=ls:=by
 funext j;unfold gX;by_cases h:j=k
 ·rw[bk h,h]
 rw[bf h,bf h]
def Ins(s:aD)(l:aa aS)(e:aO):Prop:=ph s 1 ⟨1,e⟩=some 0∧eH l e=none
section
variable{s:aD}{hp:aL Cell}{P:lV}{ls gi:Nat->aa aS}{next h6:Int}{k n:Nat}{e:aO}
def s4.ins(w:s4 ls next n)(hk:k<4)(aY:oa e):s4 (gX ls k (ls k++[⟨e,next,1⟩])) (next+1) (n+1)where
 num:=by have:=w.num;omega
 low j aC i au:=by
  unfold gX at au;by_cases h:j=k
  ·rw[bk h]at au;rcases cz.1 au with au|au
   ·have:=w.low k hk i au;exact⟨by omega,this.2⟩
   rw[hi.1 au];exact⟨by show next<next+1;omega,aY,rfl⟩
  rw[bf h]at au;have:=w.low j aC i au;exact⟨by omega,this.2⟩
 len:=by
  rw[<-(Mg hk _).length_eq,gj];have:=w.len;simp only[List.length_cons,List.length_nil];omega
def s4.mono{m:Nat}{nU:Int}(w:s4 ls next n)(h1:next<=nU)(ae:nU<=1+m)(az:n<=m):s4 ls nU m where
 num:=by have:=w.num;omega
 low j aC i au:=by have:=w.low j aC i au;exact⟨by omega,this.2⟩
 len:=by have:=w.len;omega
def apk(cI:EG s)(hk:k<4)(he:gu s k e)(aY:oa e)(w:s4 ls next n)(aM:n<=9)(h:fG s hp P ls next []):
 cM (pY hp (some P.x) s 1 ⟨1,e⟩) (λr=>(r.1=0∧Ins s (ls k) e∧∃ou,fG s r.2 P (gX ls k (ls k++[⟨e,next,1⟩])) (next+1) [ou])∨(r.1≠0∧¬Ins s (ls k) e∧fG s r.2 P ls next [])):=by
 have hw:=w.num
 have ao:=w.len
 have fh:=Rq (ls:=ls) hk
 have dR:=cI.sz k hk
 by_cases iU:ph s 1 ⟨1,e⟩=some 0
 ·by_cases aW:eH (ls k) e=none
  ·exact(arM cI.hs cI.aE hk iU he aY aW (by omega) (by omega) ⟨by omega,by omega⟩ (λi au=>(w.low k hk i au).1) h (by simp)).mono λr aE=>.inl ⟨aE.1,⟨iU,aW⟩,_,aE.2⟩
  unfold pY
  refine .eq iU (.cond (λak=>by cases ak) λ_=>.cond (λ_=>.bind (QY cI.hs cI.aE h (Ns cI.aE (by omega) (by simp)) hk he aY 1 (λi au=>(w.low k hk i au).1) (by omega) ⟨by omega,by omega⟩) λr dJ=>.ret ?_) λak=>by cases ak)
  rw[bk (by cases e5:eH (ls k) e with
   |none=>exact absurd e5 aW
   |some i=>rfl)]at dJ
  subst dJ
  exact .inr ⟨by show(17:Int)≠0;decide,λh=>aW h.2,h⟩
 obtain⟨c,ak,_⟩:=ahF cI.hs cI.oy hk 1 ⟨1,e⟩ he
 have q6:c≠0:=λbJ=>iU (by rw[ak,bJ])
 unfold pY
 exact .eq ak (.cond (λ_=>.ret (.inr ⟨q6,λh=>iU h.1,h⟩)) λak=>by simp at ak;exact absurd ak q6)
def apl{nU:Int}(cI:EG s)(hk:k<4)(he:gu s k e)(aY:oa e)(w:s4 ls next n)(aM:n<=9)(au:Ins s (ls k) e)(h:fG s hp P (gX ls k (ls k++[⟨e,next,1⟩])) nU []):
 cM (pY hp (some P.x) s 1 ⟨3,{e with cq:=0,c3:=[]}⟩) (λr=>r.1=0∧∃ou,fG s r.2 P ls nU [ou]):=by
 have mn:=w.ins hk aY
 have hz:ph s 1 ⟨3,{e with cq:=0,c3:=[]}⟩=some 0:=ahG (u:=⟨1,e⟩) au.1 (by show(1:Int)≠3;decide)
 have hd:iW e {e with cq:=0,c3:=[]} =true:=A9.2 ⟨rfl,rfl,rfl⟩
 have aW:eH (ls k) {e with cq:=0,c3:=[]} =none:=au.2
 refine(arN cI.hs cI.aE hk (e:= {e with cq:=0,c3:=[]}) (i:=⟨e,next,1⟩) (l':=ls k) hz ⟨he.fK,he.len,he.yV,by simp,he.pri⟩ (by rw[Y3];exact aiB aW hd) (λj aC=>(mn.low k hk j aC).2) (by have:=mn.len;omega) (by rw[Y3];exact ahJ aW hd) (by rw[XG];exact Mg hk _) h (by simp)).mono λr aE=>⟨aE.1,?_⟩
 have ae:=aE.2
 rw[XG]at ae
 exact⟨_,ae⟩
def ZE{a6 br:Nat}(cI:EG s)(hk:k<4)(he:gu s k e)(aY:oa e)(w:s4 ls next n)(aM:n<=9)(h:oD s hp a6 br ls next gi h6):
 cM (nw hp (some a6) s 1 [⟨1,e⟩]) (λr=>(r.2.1=0∧Ins s (ls k) e∧oD s r.2.2 a6 br (gX ls k (ls k++[⟨e,next,1⟩])) (next+1) gi h6)∨(r.2.1≠0∧¬Ins s (ls k) e∧oD s r.2.2 a6 br ls next gi h6)):=by
 obtain⟨P,rfl,g,dh⟩:=h.one
 have ao:=w.len
 exact(Y2 cI.aE cI.o5 cI.o8 g (by omega) (apk cI hk he aY w aM g) (λ_=>by have:=(w.ins hk aY).len;omega)).mono λr aE=>aE.elim (λa=>.inl ⟨a.1,a.2.1,dh _ _ _ a.2.2⟩) λa=>.inr ⟨a.1,a.2.1,dh _ _ _ a.2.2⟩
def ZF{a6 br:Nat}{nU:Int}(cI:EG s)(hk:k<4)(he:gu s k e)(aY:oa e)(w:s4 ls next n)(aM:n<=9)(au:Ins s (ls k) e)(h:oD s hp a6 br (gX ls k (ls k++[⟨e,next,1⟩])) nU gi h6):
 cM (nw hp (some a6) s 1 [⟨3,{e with cq:=0,c3:=[]}⟩]) (λr=>oD s r.2.2 a6 br ls nU gi h6):=by
 obtain⟨P,rfl,g,dh⟩:=h.one
 have ao:=(w.ins hk aY).len
 refine(Y2 (G:=True) cI.aE cI.o5 cI.o8 g (by omega) ((apl cI hk he aY w aM au g).mono λr aE=>.inl ⟨aE.1,trivial,aE.2⟩) (λ_=>by have:=w.len;omega)).mono λr aE=>aE.elim (λa=>dh _ _ _ a.2.2) λa=>absurd cZ a.2.1
end
def k2:aa Int:=[1,2,7]
def HU{α:Type}[Inhabited α]{l:aa α}{g:α->Bool}{i:Nat}(au:i<l.length)(h1:g (av l i)=true)(ae:∀j,j<i->g (av l j)=false):l.find? g=some (av l i):=by
 rw[UO];refine⟨h1,i,au,(dp _ au).symm,λj aC=>?_⟩;rw[<-dp _ (by omega),ae j aC];rfl
section
variable{s:aD}{j:Nat}
def MA(hs:cA s){i:Nat}(au:i<3):(av s.cG i).b1=av k2 i:=by
 have h:=td (λx:c9=>x.b1) (l:=s.cG) (k:=i) (by rw[hs.oe];exact au);rw[hs.ye]at h;exact h.symm
def ZG:∀i j:Nat,i<3->j<3->av k2 i=av k2 j->i=j:=by
 intro i j au aC h;have h1:i=0∨i=1∨i=2:=by omega
 have ae:j=0∨j=1∨j=2:=by omega
 rcases h1 with rfl|rfl|rfl <;> rcases ae with rfl|rfl|rfl <;> first|rfl|(exact absurd h (by decide))
def QE(hs:cA s)(aC:j<3):uC s (av k2 j)=some (j:Int):=by
 refine bd.get ?_;unfold uC;have ao:=hs.oe;refine(We (g:=λt=>t.b1==av k2 j) (λ_ _=>rfl) (by omega)).bind λy hy=>.ret ?_;rcases hy with⟨_,ae⟩|⟨i,h1,ae,az,_⟩
 ·have:=ae (av s.cG j) (by rw[dp _ (by omega)];exact gI _);rw[MA hs aC]at this;simp at this
 rw[MA hs (by omega)]at az;rw[ae,ZG i j (by omega) aC (by simpa using az)]
def lW(s:aD)(j:Nat)(t:Int):aA dE:=(av s.cG j).fU.find? λg=>g.ct==t
def vw(o:aA dE):dE×Bool:=match o with |some g=>(g,true)|none=>(default,false)
def KA(aE:og s)(hs:cA s)(aC:j<3):(av s.cG j).fU.length<2^30∧(av s.cG j).bK.length<2^30:=aE.lW _ (by rw[dp _ (by rw[hs.oe];exact aC)];exact gI _)
def W9(hs:cA s)(aE:og s)(aC:j<3)(t:Int):uB s (av k2 j) t=some (vw (lW s j t)):=by
 refine bd.get ?_;unfold uB;have ao:=hs.oe;refine .eq (QE hs aC) (.cond (λh=>by simp at h;omega) λ_=>.idx I (by omega) ?_);refine(Wb (g:=λg=>g.ct==t) (λ_ _=>rfl) (by have:=(KA aE hs aC).1;omega)).bind λy hy=>?_;rcases hy with⟨rfl,ae⟩|⟨i,h1,rfl,az,aQ⟩
 ·refine .cond (λ_=>.ret ?_) λh=>by cases h
  have:lW s j t=none:=zm.2 λx an=>by rw[ae x an];simp
  rw[this];rfl
 refine .cond (λh=>by simp at h;omega) λ_=>.idx I (by omega) (.idx I h1 (.ret ?_));have:lW s j t=some _:=HU h1 az aQ;rw[this];rfl
def ahf(hs:cA s)(aE:og s)(aC:j<3)(t:Int):Hl s (av k2 j) t=some (vw (lW s j t)):=by
 refine bd.get ?_;unfold Hl;have ao:=hs.oe;have hq:qD (av k2 j)=(j:Int):=by
  have:j=0∨j=1∨j=2:=by omega
  rcases this with rfl|rfl|rfl <;> rfl
 refine .eq (alV hs _) ?_;rw[hq];refine .cond (λh=>by simp at h;omega) λ_=>.idx I (by omega) ?_;refine bd.loop (av s.cG j).fU.length (λk st=>st=(k:Int)∧∀i,i<k->((av (av s.cG j).fU i).ct==t)=false) (by have:=(KA aE hs aC).1;omega) ⟨rfl,λi au=>by omega⟩ (λk st hk au=>?_) λst au=>?_
 ·obtain⟨rfl,ae⟩:=au;refine .cond (λ_=>.idx I hk (.cond (λh=>.ret ?_) λh=>.ret ⟨dS (by have:=(KA aE hs aC).1;omega),λi au=>?_⟩)) λh=>by simp at h;omega
  ·refine .ret ?_;have:lW s j t=some _:=HU hk h ae;rw[this];rfl
  by_cases e:i=k
  ·rw[e];exact h
  exact ae i (by omega)
 obtain⟨rfl,ae⟩:=au;refine⟨_,by simp only[C9,vQ,cond_false];rfl,?_⟩;refine .ret ?_;have:lW s j t=none:=zm.2 λx an=>by
  obtain⟨i,au,rfl⟩:=rn.1 an;have:=ae i au;rw[dp _ au]at this;rw[this];simp
 rw[this];rfl
def age(l:aa Int)(x:Int)(ao:l.length<2^30):vJ l x=some (decide (x∈l)):=by
 refine bd.get ?_;unfold vJ Da;refine .bind (P:=λr=>decide (r>=0)=decide (x∈l)) ?_ λr aE=>.ret aE;refine bd.loop l.length (λk s=>s=(k:Int)∧∀i,i<k->x≠av l i) (by omega) ⟨rfl,λi au=>by omega⟩ (λk s hk au=>?_) λs au=>?_
 ·obtain⟨rfl,ae⟩:=au;refine .cond (λ_=>.idx I hk (.cond (λh=>.ret ?_) λh=>.ret ⟨dS (by omega),λi au=>?_⟩)) λh=>by simp at h;omega
  ·refine .ret ?_;rw[zu];exact⟨λ_=>by rw[show x=av l k by simpa using h,dp _ hk];exact gI _,λ_=>by simp only;omega⟩
  by_cases e:i=k
  ·rw[e];simpa using h
  exact ae i (by omega)
 obtain⟨rfl,ae⟩:=au;refine⟨_,by simp only[C9,vQ,cond_false];rfl,?_⟩;refine .ret ?_;rw[zu];refine⟨λh=>by omega,λh=>?_⟩;obtain⟨i,au,e⟩:=rn.1 h;exact absurd (by rw[dp _ au];exact e.symm) (ae i au)
def akW(hs:cA s)(aE:og s)(aC:j<3)(a:Int):xF s (av k2 j) a=some (decide (a∈(av s.cG j).bK)):=by
 refine bd.get ?_;unfold xF;have ao:=hs.oe;refine .eq (QE hs aC) (.b4 (λ_=>xR (by omega)) λaR h1=>?_);rw[h1 (pV (by omega))];refine .b4 (P:=λr=>r=decide (a∈(av s.cG j).bK)) (λ_=>⟨_,age _ _ (KA aE hs aC).2,rfl⟩) λy ae=>.ret ?_;rw[ae (pV (by omega)),pV (show(j:Int)>=0 by omega)];rfl
def Qf(hs:cA s)(aE:og s)(aC:j<3)(t:Int):uA s (av k2 j) t=some ((vw (lW s j t)).2&&(vw (lW s j t)).1.sn):=by
 unfold uA;rw[W9 hs aE aC];rfl
def vis(g:dE)(i:Nat):Bool:=decide (i<g.bY.length)&&av g.bY i
def ahK(g:dE)(i:Nat):xy g (i:Int)=some (vis g i):=by
 refine bd.get ?_;unfold xy;refine .b4 (λh=>xR (n:=g.bY.length) (k:=i) (by simp at h;omega)) λaR h1=>.ret ?_;unfold vis;by_cases h:i<g.bY.length
 ·rw[h1 (pV (by omega)),pV (by omega:(i:Int)<(g.bY.length:Int)),pV h]
 rw[ru (by omega: ¬(i:Int)<(g.bY.length:Int)),ru h];rfl
end
def DQ{α:Type}[Inhabited α]{xs:aa α}{k:Nat}{v:α}(hk:k<xs.length)(i:Nat):av (dr xs k v) i=if i=k then v else av xs i:=by
 unfold av dr;by_cases h:i=k
 ·subst h;simp[hk]
 rw[bf h,vG (by omega)]
def QF{α:Type}[Inhabited α]{l m:aa α}(h:l.length=m.length)(ae:∀i,i<l.length->av l i=av m i):l=m:=
 zt h λi az aQ=>by
  have:=ae i az;rwa[dp _ az,dp _ aQ]at this
def yY(g:dE)(a:Bool)(e:aO):aO:=
 {e with bs:=(List.range e.bs.length).map λi=>if vis g i=true then av e.bs i else default,cq:=if a=true then e.cq else 0,c3:=if a=true then e.c3 else []}
section
variable{s:aD}{j:Nat}
def aiC{e:aO}(h1:e.bs.length<=1000)(ae:e.c3.length<=1000):G9 e=some e:=by
 unfold G9 xn CR;rw[fN [] e.bs (by simpa using by omega) (by omega),fN [] e.c3 (by simpa using by omega) (by omega)];rfl
def z8(hs:cA s)(aE:og s)(aC:j<3){e:aO}(h1:e.bs.length<=1000)(ae:e.c3.length<=1000):
 vV s (av k2 j) e=some (yY (vw (lW s j e.ct)).1 (decide (e.cq∈(av s.cG j).bK)) e):=by
 refine bd.get ?_
 unfold vV
 refine .eq (W9 hs aE aC _) (.eq (aiC h1 ae) ?_)
 generalize (vw (lW s j e.ct)).1=g
 refine .bind (P:=λr=>r.2.2=(List.range e.bs.length).map λi=>if vis g i=true then av e.bs i else default) (bd.l4 e.bs.length (λk st=>st.1=(k:Int)∧st.2.length=e.bs.length∧∀c,c<e.bs.length->av st.2 c=if c<k then(if vis g c=true then av e.bs c else default)else av e.bs c) (by omega) ⟨rfl,rfl,λc ak=>by rw[bf (by omega)]⟩ (λk st hk au=>?_) λst au=>?_) λar Cw=>?_
 ·obtain⟨a,ms⟩:=st;obtain⟨az,aQ,a7⟩:=au;simp only at az aQ a7;subst az
  refine .cond (λ_=>.eq (ahK _ _) (.bind (P:=λm=>m.length=e.bs.length∧∀c,c<e.bs.length->av m c=if c<k+1 then(if vis g c=true then av e.bs c else default)else av e.bs c) (.cond (λh=>.idx I (by show k<ms.length;omega) (.ret ⟨by simp[dr,aQ],λc ak=>?_⟩)) λh=>.ret ⟨aQ,λc ak=>?_⟩) λm hm=>.ret ⟨dS (by omega),hm.1,hm.2⟩)) λh=>by simp at h;omega
  ·rw[DQ (by show k<ms.length;omega)]
   by_cases fo:c=k
   ·subst fo
    rw[bk I,bk (show c<c+1 by omega),bf (by simpa using h)]
   rw[bf fo,a7 c ak]
   by_cases aK:c<k
   ·rw[bk aK,bk (show c<k+1 by omega)]
   rw[bf aK,bf (show ¬c<k+1 by omega)]
  simp only;rw[a7 c ak]
  by_cases fo:c=k
  ·subst fo
   rw[bf (show ¬c<c by omega),bk (show c<c+1 by omega),bk (by simpa using h)]
  by_cases aK:c<k
  ·rw[bk aK,bk (show c<k+1 by omega)]
  rw[bf aK,bf (show ¬c<k+1 by omega)]
 ·obtain⟨a,ms⟩:=st;obtain⟨az,aQ,a7⟩:=au;simp only at az aQ a7;subst az
  refine .cond (λh=>by simp at h) λ_=>.ret ?_
  refine QF (by simp[aQ]) λi au=>?_
  simp only at au
  rw[a7 i (by omega),bk (by omega)]
  unfold av
  rw[Po,List.getElem?_range (by omega)]
  rfl
 refine .eq (akW hs aE aC _) ?_
 rw[Cw]
 by_cases aY:e.cq∈(av s.cG j).bK
 ·rw[pV aY];exact⟨_,rfl,rfl⟩
 rw[ru aY];exact⟨_,rfl,rfl⟩
def ZH{g:dE}{a b:Bool}{e f:aO}(h1:e.ct=f.ct)(ae:e.ep=f.ep)(az:e.bs.length=f.bs.length)(aQ:∀i,i<e.bs.length->vis g i=true->av e.bs i=av f.bs i)(a7:a=b)(bp:a=true->e.cq=f.cq∧e.c3=f.c3):yY g a e=yY g b f:=by
 subst a7;have hm:(List.range e.bs.length).map (λi=>if vis g i=true then av e.bs i else default)=(List.range f.bs.length).map (λi=>if vis g i=true then av f.bs i else default):=by
  rw[<-az];refine KQ λi au=>?_;by_cases ba:vis g i=true
  ·rw[bk ba,bk ba,aQ i (nX.1 au) ba]
  rw[bf ba,bf ba]
 have aY:(if a=true then e.cq else 0)=(if a=true then f.cq else 0)∧(if a=true then e.c3 else [])=(if a=true then f.c3 else []):=by
  by_cases h:a=true
  ·rw[bk h,bk h,bk h,bk h];exact bp h
  rw[bf h,bf h,bf h,bf h];exact⟨rfl,rfl⟩
 unfold yY;rw[hm,aY.1,aY.2,h1,ae]
end
def aca(s:aD):Prop:=∀j,j<3->∀k:Nat,k<4->∀g,lW s j ((k:Int)+1)=some g->g.bY.length=(av s.bh k).bY.length
section
variable{s:aD}{j k:Nat}
def ahL(hs:cA s)(aE:og s)(bH:aca s)(aC:j<3)(hk:k<4){e b:aO}(he:gu s k e)(hb:gu s k b)(atx:oa e)(Ui:oa b):
 bd (Hh s (av k2 j) e b) (λf=>gu s k f∧oa f∧(uA s (av k2 j) ((k:Int)+1)=some true->vV s (av k2 j) e=vV s (av k2 j) f)):=by
 have mb:=(hs.fK hk).2.1
 have tL:=he.len
 have sK:=hb.len
 have Fa:=hs.oe
 unfold Hh
 refine .eq (ahf hs aE aC _) ?_
 rw[he.fK]
 have iK:=Qf hs aE aC ((k:Int)+1)
 cases Kb:lW s j ((k:Int)+1)with
 | none=>
   rw[Kb]at iK
   exact .cond (λ_=>.ret ⟨hb,Ui,λh=>by rw[iK]at h;cases h⟩) λh=>by cases h
 | some g=>
   rw[Kb]at iK
   have Fb:=bH j aC k hk g Kb
   show bd (cond (!g.sn) _ _) _
   refine .cond (λh=>.ret ⟨hb,Ui,λae=>by rw[iK]at ae;simp[vw]at ae;simp[ae]at h⟩) λ_=>.eq (fN [] b.bs (by simpa using by omega) (by omega)) ?_
   refine .bind (P:=λr=>r.2.2.length=b.bs.length∧∀c,c<b.bs.length->av r.2.2 c=if av g.bY c=true then av e.bs c else av b.bs c) (bd.l4 b.bs.length (λi st=>st.1=(i:Int)∧st.2.length=b.bs.length∧∀c,c<b.bs.length->av st.2 c=if c<i then(if av g.bY c=true then av e.bs c else av b.bs c)else av b.bs c) (by omega) ⟨rfl,rfl,λc ak=>by rw[bf (by omega)];rfl⟩ (λi st au cv=>?_) λst cv=>?_) λar Cw=>?_
   ·obtain⟨a,ms⟩:=st;obtain⟨az,aQ,a7⟩:=cv;simp only at az aQ a7;subst az
    refine .cond (λ_=>.idx I (by show i<g.bY.length;omega) (.bind (P:=λm=>m.length=b.bs.length∧∀c,c<b.bs.length->av m c=if c<i+1 then(if av g.bY c=true then av e.bs c else av b.bs c)else av b.bs c) (.cond (λh=>.idx I (by omega) (.idx I (by show i<ms.length;omega) (.ret ⟨by simp[dr,aQ],λc ak=>?_⟩))) λh=>.ret ⟨aQ,λc ak=>?_⟩) λm hm=>.ret ⟨dS (by omega),hm.1,hm.2⟩)) λh=>by simp at h;omega
    ·have h:av g.bY i=true:=h
     rw[DQ (by show i<ms.length;omega)]
     by_cases fo:c=i
     ·subst fo
      rw[bk I,bk (show c<c+1 by omega),bk h]
     rw[bf fo,a7 c ak]
     by_cases aK:c<i
     ·rw[bk aK,bk (show c<i+1 by omega)]
     rw[bf aK,bf (show ¬c<i+1 by omega)]
    have h:av g.bY i=false:=h
    simp only;rw[a7 c ak]
    by_cases fo:c=i
    ·subst fo
     rw[bf (show ¬c<c by omega),bk (show c<c+1 by omega),bf (by rw[h];simp)]
    by_cases aK:c<i
    ·rw[bk aK,bk (show c<i+1 by omega)]
    rw[bf aK,bf (show ¬c<i+1 by omega)]
   ·obtain⟨a,ms⟩:=st;obtain⟨az,aQ,a7⟩:=cv;simp only at az aQ a7;subst az
    refine .cond (λh=>by simp at h) λ_=>.ret ⟨aQ,λc ak=>?_⟩
    simp only;rw[a7 c ak,bk ak]
   obtain⟨pI,adg⟩:=Cw
   have au7:∀h:Bool,∃x:aO,x=(if h=true then {b with ep:=e.ep,bs:=[],cq:=e.cq,c3:=e.c3}else {b with ep:=e.ep,bs:=[]}):=λh=>⟨_,rfl⟩
   refine .bind (P:=λr=> ∃h:Bool,(r.2.2=if h=true then {b with ep:=e.ep,bs:=[],cq:=e.cq,c3:=e.c3}else {b with ep:=e.ep,bs:=[]})∧(h=true↔e.cq∈(av s.cG j).bK∨b.cq∈(av s.cG j).bK)) (bd.l4 s.cG.length (λi st=>st.1=(i:Int)∧∃h:Bool,(st.2=if h=true then {b with ep:=e.ep,bs:=[],cq:=e.cq,c3:=e.c3}else {b with ep:=e.ep,bs:=[]})∧(h=true↔j<i∧(e.cq∈(av s.cG j).bK∨b.cq∈(av s.cG j).bK))) (by omega) ⟨rfl,false,by simp,by simp⟩ (λi st au cv=>?_) λst cv=>?_) λaK me=>?_
   ·obtain⟨a,x⟩:=st;obtain⟨az,h,aQ,a7⟩:=cv;simp only at az aQ;subst az
    have aty:=(KA aE hs (j:=i) (by omega)).2
    have Oz:(av s.cG i).b1=av k2 j↔i=j:=⟨λh=>ZG i j (by omega) aC (by rw[<-MA hs (by omega)];exact h),λh=>by rw[h];exact MA hs aC⟩
    refine .cond (λ_=>.idx I au ?_) λh=>by simp at h;omega
    refine bd.loop (av s.cG i).bK.length (λc st=>st.1=(c:Int)∧∃h:Bool,(st.2=if h=true then {b with ep:=e.ep,bs:=[],cq:=e.cq,c3:=e.c3}else {b with ep:=e.ep,bs:=[]})∧(h=true↔(j<i∧(e.cq∈(av s.cG j).bK∨b.cq∈(av s.cG j).bK))∨(i=j∧∃d,d<c∧(av (av s.cG i).bK d=e.cq∨av (av s.cG i).bK d=b.cq)))) (by omega) ⟨rfl,h,aQ,?_⟩ (λc st ak cv=>?_) λst cv=>?_
    ·rw[a7];exact⟨.inl,λh=>h.elim id λ⟨_,d,hd,_⟩=>by omega⟩
    ·obtain⟨a,x⟩:=st;obtain⟨az,h,aQ,a7⟩:=cv;simp only at az aQ;subst az
     refine .cond (λ_=>.idx I ak (.eq I (.bind (P:=λm=> ∃h:Bool,(m=if h=true then {b with ep:=e.ep,bs:=[],cq:=e.cq,c3:=e.c3}else {b with ep:=e.ep,bs:=[]})∧(h=true↔(j<i∧(e.cq∈(av s.cG j).bK∨b.cq∈(av s.cG j).bK))∨(i=j∧∃d,d<c+1∧(av (av s.cG i).bK d=e.cq∨av (av s.cG i).bK d=b.cq)))) (.cond (λb2=>.eq I (.ret ⟨true,?_,?_⟩)) λb2=>.ret ⟨h,aQ,?_⟩) λm hm=>.ret ⟨dS (by omega),hm⟩))) λh=>by simp at h;omega
     ·rw[aQ,bk I]
      by_cases cB:h=true
      ·rw[bk cB]
      rw[bf cB]
     ·simp only[gq,nW,nv]at b2
      exact⟨λ_=>.inr ⟨Oz.1 b2.1,c,by omega,b2.2⟩,λ_=>rfl⟩
     rw[a7]
     refine⟨λh=>h.elim .inl λ⟨h1,d,ae,az⟩=>.inr ⟨h1,d,by omega,az⟩,λh=>h.elim .inl λ⟨h1,d,ae,az⟩=>.inr ⟨h1,d,?_,az⟩⟩
     by_cases hd:d=c
     ·exfalso
      subst hd
      have:((((av s.cG i).b1)==(av k2 j))&&(((av ((av s.cG i).bK) d)==e.cq)||((av ((av s.cG i).bK) d)==b.cq)))=true:=by
       simp only[gq,nW,nv];exact⟨Oz.2 h1,az⟩
      rw[this]at b2;cases b2
     omega
    obtain⟨a,x⟩:=st;obtain⟨az,h,aQ,a7⟩:=cv;simp only at az aQ;subst az
    refine⟨_,by simp only[C9,vQ,cond_false];rfl,?_⟩
    refine .ret ⟨dS (by omega),h,aQ,?_⟩
    rw[a7]
    have hm:∀z:Int,z∈(av s.cG i).bK↔∃d,d<(av s.cG i).bK.length∧av (av s.cG i).bK d=z:=λz=>by
     rw[rn];exact⟨λ⟨d,hd,h⟩=>⟨d,hd,by rw[dp _ hd];exact h⟩,λ⟨d,hd,h⟩=>⟨d,hd,by rw[<-dp _ hd];exact h⟩⟩
    constructor
    ·rintro (⟨h1,ae⟩|⟨h1,d,ae,az⟩)
     ·exact⟨by omega,ae⟩
     subst h1
     exact⟨by omega,az.elim (λh=>.inl ((hm _).2 ⟨d,ae,h⟩)) λh=>.inr ((hm _).2 ⟨d,ae,h⟩)⟩
    rintro ⟨h1,ae⟩
    by_cases gP:i=j
    ·subst gP
     rcases ae with ae|ae
     ·obtain⟨d,az,aQ⟩:=(hm _).1 ae
      exact .inr ⟨rfl,d,az,.inl aQ⟩
     obtain⟨d,az,aQ⟩:=(hm _).1 ae
     exact .inr ⟨rfl,d,az,.inr aQ⟩
    exact .inl ⟨by omega,ae⟩
   ·obtain⟨a,x⟩:=st;obtain⟨az,h,aQ,a7⟩:=cv;simp only at az aQ;subst az
    refine .cond (λh=>by simp at h) λ_=>.ret ⟨h,aQ,?_⟩
    rw[a7,Fa]
    exact⟨λh=>h.2,λh=>⟨aC,h⟩⟩
   obtain⟨h,aQ,a7⟩:=me
   refine .ret ?_
   rw[aQ]
   have acb:∀i,i<(av s.bh k).bY.length->rJ (av (av s.bh k).bY i).c7 (rk (av (av s.bh k).bY i)) (av ar.2.2 i):=λi au=>by
    rw[adg i (by omega)];by_cases Ow:av g.bY i=true
    ·rw[bk Ow];exact he.yV i au
    rw[bf Ow];exact hb.yV i au
   have acd:∀i,i<e.bs.length->vis g i=true->av e.bs i=av ar.2.2 i:=λi au ba=>by
    have:av g.bY i=true:=by unfold vis at ba;simp at ba;exact ba.2
    rw[adg i (by omega),bk this]
   by_cases cB:h=true
   ·rw[bk cB]
    refine⟨⟨hb.fK,by simp only;omega,acb,he.args,he.pri⟩,atx,λ_=>?_⟩
    rw[z8 hs aE aC (by omega) (by have:=he.args;omega),z8 hs aE aC (by simp only;omega) (by have:=he.args;simp only;omega)]
    congr 1
    simp only[he.fK,hb.fK,Kb]
    exact ZH he.fK I (by simp only;omega) acd I λ_=>⟨rfl,rfl⟩
   rw[bf cB]
   have fb:=λan=>cB (a7.2 an)
   refine⟨⟨hb.fK,by simp only;omega,acb,hb.args,he.pri⟩,Ui,λ_=>?_⟩
   rw[z8 hs aE aC (by omega) (by have:=he.args;omega),z8 hs aE aC (by simp only;omega) (by have:=hb.args;simp only;omega)]
   congr 1
   simp only[he.fK,hb.fK,Kb]
   refine ZH he.fK I (by simp only;omega) acd ?_ λh=>absurd (.inl (vI h)) fb
   rw[ru λh=>fb (.inl h),ru λh=>fb (.inr h)]
end
def Uj(s:aD)(r:Int)(k:Nat)(e f:aO):Prop:=uA s r ((k:Int)+1)=some true->vV s r e=vV s r f
def KB(s:aD)(r:Int)(hg gi:Nat->aa aS):Prop:=
 ∀k,k<4->(hg k).length=(gi k).length∧∀i,i<(hg k).length->Uj s r k (av (hg k) i).bl (av (gi k) i).bl
section
variable{s:aD}{r:Int}{hp:aL Cell}{a6 br:Nat}{hg gi:Nat->aa aS}{gG h6:Int}{k n:Nat}{e f:aO}
def Y4{α:Type}[Inhabited α](l:aa α)(x:α)(i:Nat):av (l++[x]) i=if i=l.length then x else av l i:=by
 unfold av;by_cases h:i=l.length
 ·subst h;simp
 rw[bf h];rcases uz i l.length with h1|h1
 ·rw[KG h1]
 rw[FN (by simp;omega),FN h1]
def KB.snoc(h:KB s r hg gi)(hk:k<4){a b:aS}(hp:Uj s r k a.bl b.bl):KB s r (gX hg k (hg k++[a])) (gX gi k (gi k++[b])):=λj aC=>by
 unfold gX;by_cases kT:j=k
 ·subst kT;rw[bk I,bk I];obtain⟨h1,ae⟩:=h j aC;refine⟨by simp[h1],λi au=>?_⟩;rw[Y4,Y4];simp only[gj,List.length_cons,List.length_nil]at au;by_cases fo:i=(hg j).length
  ·rw[bk fo,bk (by omega)];exact hp
  rw[bf fo,bf (by omega)];exact ae i (by omega)
 rw[bf kT,bf kT];exact h j aC
def OA(s:aD)(r:Int)(a6 br:Nat)(n:Nat)(hp:aL Cell):Prop:=
 ∃hg gG gi h6,oD s hp a6 br hg gG gi h6∧s4 hg gG n∧s4 gi h6 n∧KB s r hg gi
def ahM{β:Type}{Q:β->Prop}{cont:aL Cell->ah β}(cI:EG s)(aM:n<=9)(hk:k<4)(he:gu s k e)(aY:oa e)(aW:gu s k f)(Uk:oa f)(arO:Uj s r k e f)(h:OA s r a6 br n hp)
 (K:∀hp',OA s r a6 br (n+1) hp'->cM (cont hp') Q):
 cM (ah.bind (nw hp (some a6) s 1 [{c7:=1,bl:=e:iN}]) λjK=>
  ah.bind (ah.of (some s)) λnd=>
  ah.bind (nw jK.2.2 (some br) nd 1 [{c7:=1,bl:=f:iN}]) λj8=>
  ah.bind (ah.of (some (({({e with cq:=0}:aO)with c3:=([]:aa aV)}:aO)))) λz12=>
  ah.bind (ah.of (some (({({f with cq:=0}:aO)with c3:=([]:aa aV)}:aO)))) λkN=>
  ah.bind (cond ((jK.2.1==0)&&(j8.2.1 !=0)) (
    ah.bind (ah.of (some s)) λpG=>
    ah.bind (nw j8.2.2 (some a6) pG 1 [{c7:=3,bl:=z12:iN}]) λB7=>
    ah.ret B7.2.2) (
    ah.ret j8.2.2)) λm2=>
  ah.bind (cond ((j8.2.1==0)&&(jK.2.1 !=0)) (
    ah.bind (ah.of (some s)) λmz=>
    ah.bind (nw m2 (some br) mz 1 [{c7:=3,bl:=kN:iN}]) λq0=>
    ah.ret q0.2.2) (
    ah.ret m2)) λm3=>cont m3) Q:=by
 obtain⟨hg,gG,gi,h6,T,lQ,mn,rh⟩:=h
 have dD:=lQ.num
 have eg:=mn.num
 refine .bind (ZE cI hk he aY lQ aM T) λjK E6=>.eq I ?_
 have key:∀(m1:Nat->aa aS) (ai:Int),oD s jK.2.2 a6 br m1 ai gi h6->cM (nw jK.2.2 (some br) s 1 [⟨1,f⟩]) (λr=>(r.2.1=0∧Ins s (gi k) f∧oD s r.2.2 a6 br m1 ai (gX gi k (gi k++[⟨f,h6,1⟩])) (h6+1))∨(r.2.1≠0∧oD s r.2.2 a6 br m1 ai gi h6)):=λm1 ai g=>
  (ZE cI hk aW Uk mn aM g.swap).mono λr aE=>aE.elim (λa=>.inl ⟨a.1,a.2.1,a.2.2.swap⟩) λa=>.inr ⟨a.1,a.2.2.swap⟩
 rcases E6 with⟨bZ,a2,a3⟩|⟨bZ,a2,a3⟩
 ·refine .bind (key _ _ a3) λj8 yU=>.eq I (.eq I ?_)
  rw[bZ]
  rcases yU with⟨c1,c2,ej⟩|⟨c1,ej⟩
  ·rw[c1]
   refine .bind (P:=λm=>m=j8.2.2) (.cond (λh=>by cases h) λ_=>.ret rfl) λm2 aK=>.bind (P:=λm=>m=j8.2.2) (.cond (λh=>by cases h) λ_=>.ret aK) λm3 cr=>?_
   rw[cr]
   exact K _ ⟨_,_,_,_,ej,lQ.ins hk aY,mn.ins hk Uk,rh.snoc hk arO⟩
  have Ul:(j8.2.1==0)=false:=by simpa using c1
  refine .bind (P:=λm=>oD s m a6 br hg (gG+1) gi h6) (.cond (λ_=>.eq I (.bind (ZF (e:=e) cI hk he aY lQ aM a2 ej) λB7 Um=>.ret Um)) λh=>by simp[c1]at h) λm2 aK=>.bind (P:=λm=>m=m2) (.cond (λh=>by rw[Ul]at h;cases h) λ_=>.ret rfl) λm3 cr=>?_
  rw[cr]
  exact K _ ⟨_,_,_,_,aK,lQ.mono (by omega) (by omega) (by omega),mn.mono (by omega) (by omega) (by omega),rh⟩
 have Ov:(jK.2.1==0)=false:=by simpa using bZ
 refine .bind (key _ _ a3) λj8 yU=>.eq I (.eq I ?_)
 rcases yU with⟨c1,c2,ej⟩|⟨c1,ej⟩
 ·refine .bind (P:=λm=>m=j8.2.2) (.cond (λh=>by rw[Ov]at h;cases h) λ_=>.ret rfl) λm2 aK=>?_
  rw[aK]
  refine .bind (P:=λm=>oD s m br a6 gi (h6+1) hg gG) (.cond (λ_=>.eq I (.bind (ZF (e:=f) cI hk aW Uk mn aM c2 ej.swap) λB7 Um=>.ret Um)) λh=>by simp[bZ,c1]at h) λm3 cr=>?_
  exact K _ ⟨_,_,_,_,cr.swap,lQ.mono (by omega) (by omega) (by omega),mn.mono (by omega) (by omega) (by omega),rh⟩
 have Ul:(j8.2.1==0)=false:=by simpa using c1
 refine .bind (P:=λm=>m=j8.2.2) (.cond (λh=>by rw[Ov]at h;cases h) λ_=>.ret rfl) λm2 aK=>.bind (P:=λm=>m=j8.2.2) (.cond (λh=>by rw[Ul]at h;cases h) λ_=>.ret aK) λm3 cr=>?_
 rw[cr]
 exact K _ ⟨_,_,_,_,ej,lQ.mono (by omega) (by omega) (by omega),mn.mono (by omega) (by omega) (by omega),rh⟩
end
def Y5{b:Nat}{n:Int}:hB (wW (α:=Bool) b n) (λr=>(r.length:Int)=n):=λr h=>by
 obtain⟨h1,_,_,ae⟩:=XR h;rw[<-ae,CN];omega
def OL(cx:aa bw)(l:aa dE):Prop:=∀g∈l,∃t∈cx,g.ct=t.b1∧g.bY.length=t.bY.length
def rm(cx:aa bw)(n:Int)(R:c9)(l:aa dE):Prop:=R.bK.length<=6∧(l.length:Int)<=n∧OL cx l
def rm.snoc{cx:aa bw}{n:Int}{R CA:c9}{l:aa dE}(h:rm cx n R l){t:bw}(bE:t∈cx){g:dE}(h1:g.ct=t.b1)(ae:g.bY.length=t.bY.length)(iK:CA.bK=R.bK):rm cx (n+1) CA (l++[g]):=
 ⟨by rw[iK];exact h.1,by have:=h.2.1;simp only[gj,List.length_cons,List.length_nil];omega,λx an=>by
  rcases cz.1 an with an|an
  ·exact h.2.2 x an
  rw[hi.1 an];exact⟨t,bE,h1,ae⟩⟩
def rm.mono{cx:aa bw}{n:Int}{R:c9}{l:aa dE}(h:rm cx n R l):rm cx (n+1) R l:=⟨h.1,by have:=h.2.1;omega,h.2.2⟩
def ahN(c:ea)(cx:aa bw)(au8:cx.length<=1000):hB (s8 c cx) (λr=> ∀x∈r.1,OL cx x.fU∧x.fU.length<=1000∧x.bK.length<=6):=by
 unfold s8;refine .skip λ_=>.skip λaF=>.skip λbm=>.skip λbG=>?_;refine .bind (P:=λe=>rm cx 1000 e.2.2.1 e.2.2.2.1∧rm cx 1000 e.2.2.2.2.2.1 e.2.2.2.2.2.2.1∧rm cx 1000 e.2.2.2.2.2.2.2.1 e.2.2.2.2.2.2.2.2) (.loop (λst=>(0<=st.1∧st.1<=1000)∧rm cx st.1 st.2.1 st.2.2.1∧rm cx st.1 st.2.2.2.2.1 st.2.2.2.2.2.1∧rm cx st.1 st.2.2.2.2.2.2.1 st.2.2.2.2.2.2.2) ⟨⟨by simp,by simp⟩,⟨by simp,by simp,λg bH=>by cases bH⟩,⟨by simp,by simp,λg bH=>by cases bH⟩,⟨by simp,by simp,λg bH=>by cases bH⟩⟩ λst cv=>?_) λe he=>.eq (.eq (.ret λx an=>?_))
 ·obtain⟨hb,h1,ae,az⟩:=cv;refine .cond (λak=>.bind .idx λaR dg=>.bind Y5 λbR a7=>.bind Y5 λb8 bp=>?_) λ_=>.ret ⟨⟨h1.1,by have:=h1.2.1;simp only;omega,h1.2.2⟩,⟨ae.1,by have:=ae.2.1;simp only;omega,ae.2.2⟩,⟨az.1,by have:=az.2.1;simp only;omega,az.2.2⟩⟩;simp only[fk]at ak;have bE:av cx aR∈cx:=by rw[dp _ dg.2];exact gI _
  refine .bind (P:=λe=>e.2.2.1.length=(av cx aR).bY.length∧e.2.2.2.1.length=(av cx aR).bY.length) (.loop (λst=>st.2.1.length=(av cx aR).bY.length∧st.2.2.1.length=(av cx aR).bY.length) ⟨by simp only;omega,by simp only;omega⟩ λst cv=>.cond (λ_=>.skip λ_=>.skip λ_=>.skip λ_=>.ret ⟨by simp only[dr,pe];exact cv.1,by simp only[dr,pe];exact cv.2⟩) λ_=>.ret cv) λaK me=>.eq (.bind xQ λeu dJ=>.skip λfy=>?_);have hw:bu (st.1+1)=st.1+1:=by rw[hX] <;> omega
  refine .bind (P:=λm=>rm cx (st.1+1) m.2.1 m.2.2) (.cond (λ_=>.skip λ_=>.skip λ_=>.eq (.bind xQ λy hy=>.ret ?_)) λ_=>.ret ae.mono) λm1 cc=>.skip λgZ=>.bind (P:=λm=>rm cx (st.1+1) m.2.1 m.2.2) (.cond (λ_=>.skip λ_=>.skip λ_=>.eq (.bind xQ λy hy=>.ret ?_)) λ_=>.ret h1.mono) λm2 dG=>.ret ?_
  ·simp only;rw[hy];exact ae.snoc bE I me.1 I
  ·simp only;rw[hy];exact h1.snoc bE I me.2 I
  simp only;rw[hw,dJ];exact⟨⟨by omega,by omega⟩,dG,cc,az.snoc bE I me.2 I⟩
 obtain⟨h1,ae,az⟩:=he;simp only[dW,rr,rz]at an;rcases an with rfl|rfl|rfl
 ·exact⟨az.2.2,by have:=az.2.1;simp only;omega,az.1⟩
 ·exact⟨ae.2.2,by have:=ae.2.1;simp only;omega,ae.1⟩
 exact⟨h1.2.2,by have:=h1.2.1;simp only;omega,h1.1⟩
structure Jb(s:aD):Prop where
 vC:∀x∈s.cG,OL s.bh x.fU∧x.fU.length<=1000∧x.bK.length<=6
def WQ(c:ea)(ak:iI c):hB (pU c) (λr=>Jb r.1):=by
 intro r aE;have hs:=((Ql c ak).of_eq aE).1;have JU:=hs.lC;have key:hB (pU c) (λr=>r.1.bh.length<=1000->Jb r.1):=by
  unfold pU;refine .skip λal=>.skip λaF=>.eq (.eq (.eq (.eq (.eq (.eq (.eq (.eq (.eq (.eq (.eq (.eq (.skip λbm=>.skip λbG=>.skip λbR=>.eq (.eq ?_)))))))))))));refine .bind (P:=λb8=>bR.1.length<=1000->∀x∈b8.1,OL bR.1 x.fU∧x.fU.length<=1000∧x.bK.length<=6) (λr aE ao=>ahN _ _ ao r aE) λb8 bp=>.eq (.skip λde=>.skip λm1=>.skip λeu=>?_);refine .bind (P:=λm=>m.1.bh=bR.1∧m.1.cG=b8.1) (.cond (λ_=>.eq (.skip λy=>.ret ⟨rfl,rfl⟩)) λ_=>.ret ⟨rfl,rfl⟩) λm2 aK=>.skip λfy=>.skip λaR=>?_;refine .bind (P:=λm=>m.1.bh=bR.1∧m.1.cG=b8.1) (.cond (λ_=>.eq (.skip λy=>.ret ⟨aK.1,aK.2⟩)) λ_=>.ret aK) λm3 cr=>.skip λgZ=>.skip λbD=>?_;refine .bind (P:=λm=>m.1.bh=bR.1∧m.1.cG=b8.1) (.cond (λ_=>.eq (.eq (.skip λy=>.ret ⟨cr.1,cr.2⟩))) λ_=>.ret cr) λm4 e4=>.eq (.ret λao=>⟨?_⟩);simp only[e4.1,e4.2]at ao⊢;exact bp ao
 exact key r aE (by omega)
def yZ(t:bw):bw:= {t with jS:=ByteArray.mk #[],ht:=64}
def Fc(a:df):df:= {a with jS:=ByteArray.mk #[]}
def Kc(s:aD):aD:= {s with cV:=[],bh:=s.bh.map yZ,bK:=s.bK.map Fc}
section
variable{s:aD}
def ZI(hs:cA s){k:Nat}(hk:k<4):av (Kc s).bh k=yZ (av s.bh k):=(td yZ (l:=s.bh) (k:=k) (by rw[hs.lC];exact hk))
def apm(hs:cA s):cA (Kc s)where
 fields:=hs.fields
 headers:=hs.headers
 MN:=hs.MN
 DY:=by
  show(s.bK.map Fc).map qc=_;rw[uy];exact hs.DY
 tables:=by
  obtain⟨dD,eg,hV,h⟩:=hs.tables;refine⟨dD,eg,hV,?_⟩;show(s.bh.map yZ).map nE=_;rw[uy];exact h
 ye:=hs.ye
 aoT x an:=by
  obtain⟨t,bE,rfl⟩:=gJ.1 an;obtain⟨fv,_,rfl⟩:=gJ.1 bE;exact⟨by show(2:Int)<=64;decide,by show(64:Int)<=64;decide⟩
def apn(hs:cA s)(aE:kL s)(hb:wP s)(bH:Jb s):EG (Kc s)where
 hs:=apm hs
 aE:=⟨λr h=>(by cases h),vS 4,aE.quo,aE.all⟩
 oy:=⟨λr h=>by have:=bH.vC r h;omega,λt h=>by obtain⟨fv,_,rfl⟩:=gJ.1 h;rfl,λa h=>by obtain⟨fv,_,rfl⟩:=gJ.1 h;rfl⟩
 o5:=rfl
 sz k hk:=by rw[ZI hs hk];rfl
 o8:=hb.o8.1
def apo(hs:cA s)(bH:Jb s):aca (Kc s):=λj aC k hk g h=>by
 have h1:g∈(av s.cG j).fU:=UU h;have ae:g.ct=(k:Int)+1:=by simpa using List.find?_some h
 obtain⟨t,bE,ar,aK⟩:=(bH.vC _ (by rw[dp _ (by rw[hs.oe];exact aC)];exact gI _)).1 g h1;obtain⟨i,au,rfl⟩:=rn.1 bE;have ac5:i<4:=by rw[<-hs.lC];exact au
 have cr:=(hs.fK ac5).1;rw[dp _ au]at cr;have:i=k:=by omega
 subst this;rw[ZI hs hk,aK];show _=(av s.bh i).bY.length;rw[dp _ au]
end
def ajy{f:aO->aO->aA Int}{c:aO->aO->Int}(ak:lv c){xs:aa aO}(hlen:xs.length<=1000)(aW:∀a∈xs,∀b∈xs,f a b=some (c a b)):
 bd (FB xs 0 (xs.length:Int) f) (λr=>r.Perm xs∧r2 c r xs.length):=by
 unfold FB
 refine .bind (P:=λe=>e.2.2.Perm xs∧r2 c e.2.2 xs.length) (bd.l4 (xs.length-1) (λj st=> ∃ys,st=(((j+1:Nat):Int),ys)∧ys.Perm xs∧r2 c ys (j+1)) (by omega) ⟨xs,rfl,.refl _,λp q h1 ae=>by omega⟩ (λj st aC hs=>?_) (λst hs=>?_)) λe he=>.ret he
 ·obtain⟨ys,rfl,hp,hs⟩:=hs
  refine .cond (λ_=>?_) λak=>by simp at ak;omega
  refine .bind (P:=λe=>e.2.2.Perm xs∧r2 c e.2.2 (j+2)) (bd.l4 (j+1) (λa st=> ∃nR,st=(((j+1-a:Nat):Int),nR)∧nR.Perm xs∧Fo c nR (j+1-a) (j+1)) (by omega) ⟨ys,rfl,hp,λp q h1 ae az=>hs p q h1 (by omega)⟩ (λa st aY hs=>?_) (λst hs=>?_)) λe he=>.ret ⟨e.2.2,by rw[dS (by omega)],he.1,he.2⟩
  ·obtain⟨nR,rfl,b2,hm⟩:=hs
   have Jv:=b2.length_eq
   generalize hb:j+1-a=b at hm
   have oW:1<=b:=by omega
   have sK:b<nR.length:=by omega
   have NW:b-1<nR.length:=by omega
   have hd:decide ((b:Int)>0)=true:=by rw[fk];omega
   have fQ:∀i,i<nR.length->av nR i∈xs:=λi au=>b2.mem_iff.1 (by rw[dp _ au];exact gI _)
   refine .b4 (P:=λk=>k=b) (λ_=>⟨_,pr sK,rfl⟩) λaR ar=>.b4 (P:=λk=>k=b-1) (λ_=>⟨b-1,by rw[My oW (by omega)];exact pr NW,rfl⟩) λbD aK=>?_
   rw[ar hd,aK hd]
   refine .b4 (P:=λy=>y=c (av nR b) (av nR (b-1))) (λ_=>⟨_,aW _ (fQ _ sK) _ (fQ _ NW),rfl⟩) λal cr=>?_
   rw[cr hd]
   refine .cond (λpL=>?_) λpL=>.ret ⟨b2,hm.stop ak (by omega) (.inr ?_)⟩
   ·rw[gq,fk,fk]at pL
    refine .eq (a:=b-1) (by rw[My oW (by omega)];exact pr NW) (.idx I sK (.idx I sK (.eq (a:=b-1) (by rw[My oW (by omega)];exact pr (by unfold dr;rw[pe];exact NW)) (.ret ⟨_,?_,(swap_perm sK).trans b2,?_⟩))))
    ·rw[My oW (by omega),show j+1-(a+1)=b-1 by omega]
    rw[show j+1-(a+1)=b-1 by omega]
    exact hm.swap (by omega) oW (by omega) pL.2
   rw[hd,vO,nr]at pL
   omega
  obtain⟨nR,rfl,b2,hm⟩:=hs
  have hd:decide (((j+1-(j+1):Nat):Int)>0)=false:=by rw[nr];omega
  refine .b4 (P:=λ_=>True) (λh=>by rw[hd]at h;cases h) λaR _=>.b4 (P:=λ_=>True) (λh=>by rw[hd]at h;cases h) λbD _=>.b4 (P:=λ_=>True) (λh=>by rw[hd]at h;cases h) λal _=>.cond (λpL=>by rw[hd]at pL;cases pL) λpL=>.ret ⟨b2,hm.stop ak (by omega) (.inl (by omega))⟩
 obtain⟨ys,rfl,hp,hs⟩:=hs
 refine .cond (λak=>by simp at ak;omega) λ_=>.ret ⟨hp,λp q h1 ae=>hs p q h1 (by omega)⟩
def XH{c:aO->aO->Int}(ak:lv c):∀{xs ys:aa aO},xs.Perm ys->xs.Pairwise (λa b=>c a b<=0)->ys.Pairwise (λa b=>c a b<=0)->(∀a∈xs,∀b∈xs,c a b=0->a=b)->xs=ys
 |[],ys,h,_,_,_=>h.nil_eq
 |x::r,[],h,_,_,_=>by have:=h.length_eq;simp at this
 | x::r,y::t,h,h1,ae,az=>by
   obtain⟨bZ,a2⟩:=mK.1 h1;obtain⟨dD,eg⟩:=mK.1 ae;have e:x=y:=by
    have an:x∈y::t:=h.mem_iff.1 kt;have hy:y∈x::r:=h.mem_iff.2 kt;rcases dW.1 an with e|an
    ·exact e
    rcases dW.1 hy with e|rX
    ·exact e.symm
    refine az x kt y hy ?_;have g1:=bZ y rX;have g2:=dD x an;have:=ak.neg x y;omega
   subst e;rw[XH ak (List.perm_cons x |>.1 h) a2 eg λa aY b hb=>az a (fM _ aY) b (fM _ hb)]
def r2.atz{c:aO->aO->Int}{ys:aa aO}(h:r2 c ys ys.length):ys.Pairwise (λa b=>c a b<=0):=by
 rw[UX];intro i j au aC gP;have:=h i j gP aC;rw[dp _ au,dp _ aC]at this;exact this
def akX{x y:aO}(h:r9 x y=0):x=y:=by
 obtain⟨h1,h⟩:=uI h;obtain⟨ae,h⟩:=uI h;obtain⟨az,h⟩:=uI h;obtain⟨aQ,a7⟩:=uI h;have ar:=rD.1 h1;have aK:=rD.1 ae;have cr:=Rm (λa b=>akP) az;have e4:=rD.1 aQ;have hT:=Rm (λa b Uh=>D8 (rD.1 Uh)) a7;obtain⟨bZ,a2,a3,a4,a5⟩:=x;obtain⟨dD,eg,hV,Kt,avC⟩:=y;simp only at ar aK cr e4 hT;subst ar aK cr e4 hT;rfl
def ajz{xs:aa aO}(ao:xs.length<=12)(h:∀a∈xs,a.bs.length<=1000∧a.c3.length<=1000):
 bd (F2 xs C8) (λr=>r.Perm xs∧r2 r9 r xs.length):=by
 unfold F2 KT
 have bJ:e8 72 ([]:aa aO) xs=some xs:=fN [] xs (by simp only[List.length_nil];omega) (by omega)
 rw[bJ]
 refine .eq (a:=xs) I (.bind (P:=λr=>r.Perm xs∧r2 r9 r xs.length) (QV ?_) λr aE=>.ret aE)
 have aW:∀a∈xs,∀b∈xs,C8 a b=some (r9 a b):=λa aY b hb=>by
  unfold C8;rw[YW (h a aY).1 (h b hb).1 (h a aY).2 (h b hb).2];rfl
 unfold KC
 refine .bind (P:=λr=>r.length=xs.length∧r.Perm xs∧r2 r9 r xs.length) (QV ?_) λr aE=>.ret aE
 unfold KD
 refine .bind (P:=λ_=>True) (bd.l4 0 (λ_ _=>True) (by omega) cZ (λa st aY hs=>by omega) λst hs=>.cond (λh=>by simp at h;omega) λ_=>.ret cZ) λar _=>?_
 refine .bind (P:=λr=>r.length=xs.length∧r.Perm xs∧r2 r9 r xs.length) (QV ((ajy IB (by omega) aW).mono λr aE=>⟨aE.1.length_eq,aE.1.length_eq,aE⟩)) λal h1=>?_
 exact .bind (P:=λ_=>True) (bd.l4 0 (λ_ _=>True) (by omega) cZ (λa st aY hs=>by omega) λst hs=>.cond (λh=>by simp at h;omega) λ_=>.ret cZ) λaK _=>.ret ⟨h1.1,h1⟩
section
variable{s:aD}{hp:aL Cell}{P:lV}{c6:Nat->aa aS}{next:Int}{cn:aa fw}{k j n:Nat}
def y0(s:aD)(j:Nat)(e:aO):aO:=yY (vw (lW s j e.ct)).1 (decide (e.cq∈(av s.cG j).bK)) e
def akY(hs:cA s)(h:fG s hp P c6 next cn)(hk:k<4)(ao:(c6 k).length<=48):cM (Gk hp (some P.x) ((k:Int)+1)) (λr=>r.2=hp∧r.1.Perm (c6 k)):=by
 unfold Gk;refine .eq (aiA h) (.bind (P:=λr=>r.2=hp∧r.1.Perm (c6 k)) ?_ λr aE=>.ret aE);obtain⟨q,own,h1,ae⟩:=QU h.nI.ok hk;unfold Lp;exact .eq h1 (.bind (ape hs hk ae (by omega)) λr aE=>.ret ⟨aE.1,aE.2.1⟩)
def Y6(g:dE)(a:Bool){e:aO}(h1:e.bs.length<=1000)(ae:e.c3.length<=1000):(yY g a e).bs.length<=1000∧(yY g a e).c3.length<=1000:=by
 unfold yY;refine⟨by simpa using h1,?_⟩;cases a
 ·simp
 simpa using ae
def al7(lT:cA s)(y1:og s)(aC:j<3)(h:fG s hp P c6 next cn)(hk:k<4)(ao:(c6 k).length<=12):cM (DI hp (some P.x) s (av k2 j) ((k:Int)+1)) (λr=>r.2=hp∧r.1.Perm ((c6 k).map λi=>y0 s j i.bl)∧r2 r9 r.1 r.1.length):=by
 unfold DI;have tQ:=h.nI.ok.mJ hk;refine .bind (akY lT h hk (by omega)) λal h1=>?_;obtain⟨al,hp'⟩:=al;obtain⟨ar,h1⟩:=h1;simp only at ar h1;subst ar;have hlen:=h1.length_eq;have tA:∀i∈al,i.bl.bs.length<=1000∧i.bl.c3.length<=1000:=λi au=>by
  have ae:=(tQ.ok.ok i (h1.mem_iff.1 au)).gf;have:=ae.len;have:=ae.args;have:=(lT.fK hk).2.1;omega
 refine .kk (P:=λe=>e.2.2=al.map λi=>y0 s j i.bl) (bd.l4 al.length (λc st=>st=((c:Int),(al.take c).map λi=>y0 s j i.bl)) (by omega) I (λc st ak cv=>?_) λst cv=>?_) λar Cw=>?_
 ·subst cv;have hm:av al c∈al:=by rw[dp _ ak];exact gI _
  refine .cond (λ_=>.idx I ak (.eq (z8 lT y1 aC (tA _ hm).1 (tA _ hm).2) (.eq (fN _ _ (by simp;omega) (by omega)) (.ret ?_)))) λh=>by simp at h;omega
  rw[dS (by omega),List.take_add_one,pa ak,pT,dp _ ak];rfl
 ·subst cv;exact .cond (λh=>by simp at h) λ_=>.ret (by simp)
 rw[Cw];refine .kk (ajz (by simp;omega) λa aY=>?_) λbG aQ=>?_
 ·obtain⟨i,au,rfl⟩:=gJ.1 aY;exact Y6 _ _ (tA i au).1 (tA i au).2
 have a7:bG.length<=12:=by rw[aQ.1.length_eq];simp;omega
 refine .kk (P:=λe=>e.2.2=bG) (bd.l4 bG.length (λc st=>st=((c:Int),bG.take c)) (by omega) I (λc st ak cv=>?_) λst cv=>?_) λaK me=>.ret ⟨rfl,?_⟩
 ·subst cv;refine .cond (λ_=>.idx I ak (.eq (fN _ _ (by simp;omega) (by omega)) (.ret ?_))) λh=>by simp at h;omega
  rw[dS (by omega),List.take_add_one,pa ak,dp _ ak];rfl
 ·subst cv;exact .cond (λh=>by simp at h) λ_=>.ret (by simp)
 simp only;rw[me];exact⟨aQ.1.trans (h1.map _),by rw[aQ.1.length_eq];exact aQ.2⟩
end
def canon(xs:aa aO):aa aO:=xs.mergeSort λa b=>decide (r9 a b<=0)
def ajA{xs ys:aa aO}(h:ys.Perm xs)(hs:r2 r9 ys ys.length):ys=canon xs:=by
 refine XH IB (h.trans (Vq xs _).symm) hs.atz ?_ λa _ b _=>akX;have:=List.pairwise_mergeSort (le:=λa b=>decide (r9 a b<=0)) (λa b c h1 ae=>by
  simp only[fk]at h1 ae⊢;exact IB.lR a b c h1 ae) (λa b=>by
  have h1:=IB.neg a b;simp only[nW,fk];omega) xs
 exact this.imp λh=>by simpa using h
def Cx(s:aD)(j k:Nat):Bool:=(vw (lW s j ((k:Int)+1))).2&&(vw (lW s j ((k:Int)+1))).1.sn
def o9(s:aD)(j:Nat)(c6:Nat->aa aS)(n:Nat):aa aO:=
 (List.range n).flatMap λk=>if Cx s j k=true then canon ((c6 k).map λi=>y0 s j i.bl)else []
section
variable{s:aD}{hp:aL Cell}{P:lV}{c6:Nat->aa aS}{next:Int}{cn:aa fw}{k j n:Nat}
def wh:o9 s j c6 (n+1)=o9 s j c6 n++(if Cx s j n=true then canon ((c6 n).map λi=>y0 s j i.bl)else []):=by
 unfold o9;rw[CZ,KP];simp
def aiD(xs:aa aO):(canon xs).length=xs.length:=List.length_mergeSort _
def ZJ(ao:∀k,k<4->(c6 k).length<=12)(aM:n<=4):(o9 s j c6 n).length<=12*n:=by
 induction n with
 |zero=>simp[o9]
 | succ n b6=>
   have:=b6 (by omega)
   rw[wh,gj]
   split
   ·rw[aiD,kf];have:=ao n (by omega);omega
   simp;omega
def QG(lT:cA s)(y1:og s)(aC:j<3)(h:fG s hp P c6 next cn)(ao:∀k,k<4->(c6 k).length<=12):cM (xA hp (some P.x) s (av k2 j) 0) (λr=>r=(o9 s j c6 4,0,hp)):=by
 unfold xA;have JU:=lT.lC;refine .eq (QE lT aC) (.cond (λh=>by simp at h;omega) λ_=>.eq (a:=default) I (.cond (λh=>by cases h) λ_=>.eq (a:=default) I (.cond (λh=>by cases h) λ_=>.cond (λh=>by cases h) λ_=>?_)));refine .bind (P:=λe=>e.2.2.1=o9 s j c6 4∧e.2.2.2=hp) (cM.loop 4 (λk st=>st=((k:Int),o9 s j c6 k,hp)) (by decide) I (λk st hk cv=>?_) λst cv=>?_) λe he=>.ret ?_
 ·subst cv;have Oz:=(lT.fK hk).1;refine .cond (λ_=>.idx (k:=k) I (by show k<s.bh.length;omega) ?_) λh=>by simp only[nr]at h;omega
  show cM (ah.bind (ah.of (uA s (av k2 j) (av s.bh k).b1)) λbR=>_) _;rw[Oz];refine .eq (Qf lT y1 aC _) (.bind (P:=λm=>m=(o9 s j c6 (k+1),hp)) (.cond (λak=>?_) λak=>.ret ?_) λm1 hm=>?_)
  ·refine .bind (al7 lT y1 aC h hk (ao k hk)) λb8 bp=>?_;obtain⟨b8,hp'⟩:=b8;obtain⟨ar,bp,cO⟩:=bp;simp only at ar bp cO;subst ar;have au9:=ZJ (s:=s) (j:=j) ao (n:=k) (by omega);have sP:=bp.length_eq;have ava:=ao k hk;rw[kf]at sP;refine .eq (fN _ _ (by simp only;omega) (by omega)) (.ret ?_);rw[wh,bk (show Cx s j k=true from ak),ajA bp cO]
  ·rw[wh,bf (by rw[show Cx s j k=false from ak];simp),mM]
  rw[hm];exact .ret (by rw[dS (by omega)])
 ·subst cv;exact .cond (λh=>by simp only[fk]at h;omega) λ_=>.ret ⟨rfl,rfl⟩
 rw[he.1,he.2]
def apq{hg gi:Nat->aa aS}(lT:cA s)(y1:og s)(aC:j<3)(h1:∀k,k<4->∀i∈hg k,i.bl.bs.length<=1000∧i.bl.c3.length<=1000)(ae:∀k,k<4->∀i∈gi k,i.bl.bs.length<=1000∧i.bl.c3.length<=1000)(h:KB s (av k2 j) hg gi)(aM:n<=4):o9 s j hg n=o9 s j gi n:=by
 induction n with
 |zero=>rfl
 | succ n b6=>
   rw[wh,wh,b6 (by omega)]
   by_cases aE:Cx s j n=true
   ·rw[bk aE,bk aE]
    obtain⟨a,b⟩:=h n (by omega)
    have:((hg n).map λi=>y0 s j i.bl)=(gi n).map λi=>y0 s j i.bl:=by
     refine zt (by simp[a]) λi B9 Jo=>?_;simp only[kf]at B9 Jo;simp only[CY];have az:=b i B9 ((Qf lT y1 aC _).trans (ev some aE));rw[dp _ B9,dp _ Jo]at az;have g1:=h1 n (by omega) _ (gI B9);have g2:=ae n (by omega) _ (gI Jo);rw[z8 lT y1 aC g1.1 g1.2,z8 lT y1 aC g2.1 g2.2]at az;exact xr az
    rw[this]
   rw[bf aE,bf aE]
end
def ajB{l:aa aO}(ao:l.length<=1000)(h:∀a∈l,a.bs.length<=1000∧a.c3.length<=1000):zL l l=some true:=by
 have:bd (zL l l) (λr=>r=true):=by
  unfold zL;refine .cond (λh=>by simp at h) λ_=>bd.loop l.length (λk s=>s=(k:Int)) (by omega) I (λk s hk au=>?_) λs au=>?_
  ·subst au;have hm:av l k∈l:=by rw[dp _ hk];exact gI _
   refine .cond (λ_=>.idx I hk (.idx I hk (.eq (a:=true) ?_ (.cond (λh=>by cases h) λ_=>.ret (dS (by omega)))))) λh=>by simp at h;omega
   unfold zR;rw[Xt (h _ hm).1 (h _ hm).2];rfl
  subst au;refine⟨_,by simp only[C9,vQ,cond_false];rfl,?_⟩;exact .ret I
 obtain⟨r,aE,e⟩:=this;rw[aE,e]
section
variable{s:aD}{c6:Nat->aa aS}{j n:Nat}
def al8(h:∀k,k<4->∀i∈c6 k,i.bl.bs.length<=1000∧i.bl.c3.length<=1000)(aM:n<=4):∀a∈o9 s j c6 n,a.bs.length<=1000∧a.c3.length<=1000:=λa aY=>by
 unfold o9 at aY;obtain⟨k,hk,aY⟩:=List.mem_flatMap.1 aY;have hk:=nX.1 hk;by_cases aE:Cx s j k=true
 ·rw[bk aE]at aY;have aY:=(Vq _ _).mem_iff.1 aY;obtain⟨i,au,rfl⟩:=gJ.1 aY;exact Y6 _ _ (h k (by omega) i au).1 (h k (by omega) i au).2
 rw[bf aE]at aY;cases aY
end
def arP:og mF:=by
 have q6:=(DX [] 0 (by decide) (by decide)).of_eq MR;have bH:Jb mF:=WQ Cv q6 _ H6;have h1:mF.bh.all (λt=>t.jS.data.toList.isEmpty)=true:=by decide +kernel
 have ae:mF.bK.all (λt=>t.jS.data.toList.isEmpty)=true:=by decide +kernel
 have az:∀b:ByteArray,b.data.toList.isEmpty=true->b=ByteArray.mk #[]:=λb h=>by
  obtain⟨⟨l⟩⟩:=b;cases l with
  |nil=>rfl
  |cons a r=>cases h
 exact⟨λr h=>by have:=bH.vC r h;omega,λt bE=>az _ (ns.1 h1 t bE),λt bE=>az _ (ns.1 ae t bE)⟩
def arQ:o9 mF 0 (j9 1) 4=[nq 0]:=by
 have fo:o9 mF 0 (j9 1) 0=[]:=rfl;rw[wh,wh,wh,wh,fo];have h:∀k,0<k->j9 1 k=[]:=λk hk=>oK (by omega);have aE:Cx mF 0 0=true:=by decide +kernel
 have aM:canon []=[]:=by unfold canon;exact List.mergeSort_nil
 have S7:(j9 1 0).map (λi=>y0 mF 0 i.bl)=[nq 0]:=by kernel_rfl
 rw[h 1 (by decide),h 2 (by decide),h 3 (by decide),bk aE,S7];simp only[GS,aM,ite_self,mM,List.nil_append];unfold canon;exact List.mergeSort_singleton _
def aiE(hp:aL Cell):cM (Hq hp) (λr=>r.1=true):=by
 have q6:=(DX [] 0 (by decide) (by decide)).of_eq MR;have hs:cA mF:=alZ;have aE:kL mF:=W7 Cv _ H6;have hb:wP mF:=WO Cv q6 _ H6;have bE:(av mF.bh 0).jS=ByteArray.mk #[]:=by kernel_rfl
 have b2:(2:Int)<=(av mF.bh 0).ht:=by decide +kernel
 unfold Hq;refine .eq MR (.eq H6 ?_);show cM (ah.bind (ta hp mF) _) _;refine .bind (aa6 hs aE hp) λbm az=>?_;obtain⟨P,cr,g0⟩:=az;obtain⟨avb,hz⟩:=bm;simp only at cr g0;subst cr;refine .eq (a:=nq 0) (by kernel_rfl) ?_;rw[<-ajv]at g0;show cM (ah.bind (nw hz (some P.x) mF 1 [⟨1,nq 0⟩]) _) _;refine .bind (akV aE (λi=>j9 i) (λi=>if i=0 then 1 else 2) (by have:=hb.o8.1;show(1:Int)<=_;omega) hb.o8.2 g0 (λi hp' cn au aC g=>?_) (by decide) (al3 aE _)) λbG aQ=>?_
 ·have:i=0:=by have:i<1:=au;omega
  subst this;exact apj hs aE hb bE (i:=0) (by decide) (by omega) g aC
 obtain⟨r7,c0,sJ⟩:=bG;obtain⟨ar,aK,g4⟩:=aQ;simp only at ar aK;subst ar aK;have g4:fG mF sJ P (j9 1) 2 []:=g4;show cM (ah.bind (xA sJ (some P.x) mF (av k2 0) 0) _) _;refine .bind (QG hs arP (by decide) g4 λk hk=>?_) λbR a7=>?_
 ·by_cases e:k=0
  ·subst e;rw[Bb,kf,CV];decide
  rw[show j9 1 k=[]from oK e];simp
 subst a7;rw[arQ];have hm:(nq 0).bs.length<=1000∧(nq 0).c3.length<=1000:=by decide +kernel
 refine .eq (a:=0) I (.eq (a:=true) ?_ (.ret I));show b4 true true (zR (nq 0) (nq 0))=_;unfold zR;rw[Xt hm.1 hm.2];rfl
def ahg(hp:aL Cell)(ab ai aG:aa (BitVec 8))(b5:Bool):cM (GZ hp ab ai aG b5) (λr=>r.1=true):=by
 unfold GZ;refine .kk (DX ab 120 (by omega) (by omega)) λal h1=>.kk (bd.par (bd.par (bd.par (Ql al h1) (W7 al)) (WO al h1)) (WQ al h1)) λaF ae=>.kk (DX ai 150 (by omega) (by omega)) λbm az=>.kk (DX aG 150 (by omega) (by omega)) λbG aQ=>?_;obtain⟨⟨⟨⟨oX,_⟩,adh⟩,adi⟩,Un⟩:=ae;obtain⟨s0,c2⟩:=aF;simp only at oX adh adi Un⊢;have JU:=oX.lC;have aty:=oX.EC;refine .eq (a:=s0.bh) (fN _ _ (by simp only[List.length_nil];omega) (by omega)) (.eq (a:=s0.bK) (fN _ _ (by simp only[List.length_nil];omega) (by omega)) ?_);refine .kk (P:=λe=>e.2.2=s0.bh.map yZ) (bd.l4 s0.bh.length (λk st=>st.1=(k:Int)∧st.2.length=s0.bh.length∧∀c,c<s0.bh.length->av st.2 c=if c<k then yZ (av s0.bh c)else av s0.bh c) (by omega) ⟨rfl,rfl,λc ak=>by rw[bf (by omega)]⟩ (λk st hk cv=>?_) λst cv=>?_) λar Cw=>.kk (P:=λe=>e.2.2=s0.bK.map Fc) (bd.l4 s0.bK.length (λk st=>st.1=(k:Int)∧st.2.length=s0.bK.length∧∀c,c<s0.bK.length->av st.2 c=if c<k then Fc (av s0.bK c)else av s0.bK c) (by omega) ⟨rfl,rfl,λc ak=>by rw[bf (by omega)]⟩ (λk st hk cv=>?_) λst cv=>?_) λaK me=>?_
 ·obtain⟨a,T⟩:=st;obtain⟨g1,g2,g3⟩:=cv;simp only at g1 g2 g3;subst g1;refine .cond (λ_=>.idx I (by show k<T.length;omega) (.eq I (.idx I (by simp only[dr,pe];omega) (.ret ⟨dS (by omega),by simp only[dr,pe];exact g2,λc ak=>?_⟩)))) λh=>by simp at h;omega
  have ao:k<(dr T k ({(av T k)with jS:=ByteArray.mk #[]}:bw)).length:=by simp only[dr,pe];omega
  have sP:k<T.length:=by omega
  simp only;rw[DQ ao,DQ sP,DQ sP,bk I];by_cases fo:c=k
  ·subst fo;rw[bk I,bk (by omega),g3 c ak,bf (by omega)];rfl
  rw[bf fo,bf fo,g3 c ak];by_cases aK:c<k
  ·rw[bk aK,bk (by omega)]
  rw[bf aK,bf (by omega)]
 ·obtain⟨a,T⟩:=st;obtain⟨g1,g2,g3⟩:=cv;simp only at g1 g2 g3;subst g1;refine .cond (λh=>by simp at h) λ_=>.ret (QF (by simp[g2]) λi au=>?_);simp only at au;rw[g3 i (by omega),bk (by omega)];exact(td yZ (by omega)).symm
 ·obtain⟨a,T⟩:=st;obtain⟨g1,g2,g3⟩:=cv;simp only at g1 g2 g3;subst g1;refine .cond (λ_=>.idx I (by show k<T.length;omega) (.eq I (.ret ⟨dS (by omega),by simp only[dr,pe];exact g2,λc ak=>?_⟩))) λh=>by simp at h;omega
  have sP:k<T.length:=by omega
  simp only;rw[DQ sP];by_cases fo:c=k
  ·subst fo;rw[bk I,bk (by omega),g3 c ak,bf (by omega)];rfl
  rw[bf fo,g3 c ak];by_cases aK:c<k
  ·rw[bk aK,bk (by omega)]
  rw[bf aK,bf (by omega)]
 ·obtain⟨a,T⟩:=st;obtain⟨g1,g2,g3⟩:=cv;simp only at g1 g2 g3;subst g1;refine .cond (λh=>by simp at h) λ_=>.ret (QF (by simp[g2]) λi au=>?_);simp only at au;rw[g3 i (by omega),bk (by omega)];exact(td Fc (by omega)).symm
 refine .kk (P:=λm=> ∃j,j<3∧m=av k2 j) (.cond (λ_=>.ret ⟨2,by decide,rfl⟩) λ_=>.ret ⟨1,by decide,rfl⟩) λm1 cc=>.eq I (.eq I ?_);obtain⟨j,aC,rfl⟩:=cc;rw[Cw,me];have cI:=apn oX adh adi Un;have adJ:=apo oX Un;generalize lT:({({({({s0 with cV:=([]:aa cY)}:aD)with bh:=[]}:aD)with bK:=s0.bK.map Fc}:aD)with bh:=s0.bh.map yZ}:aD)=S;have lT:Kc s0=S:=lT;rw[lT]at cI adJ;refine alW cI.hs cI.aE hp λa6 br bT cQ T=>?_;refine .bind (P:=λe=>OA S (av k2 j) a6 br 10 e.2.2.2.2) (cM.loop 10 (λn st=>st.1=(n:Int)∧iI st.2.1∧iI st.2.2.1∧OA S (av k2 j) a6 br n st.2.2.2) (by decide) ⟨rfl,aQ,az,_,_,_,_,T,⟨by omega,λk hk i au=>(by cases au),by simp[eb]⟩,⟨by omega,λk hk i au=>(by cases au),by simp[eb]⟩,λk hk=>⟨rfl,λi au=>(by cases au)⟩⟩ (λn st aM cv=>?_) λst cv=>?_) λcr atA=>.eq rfl ?_
 ·obtain⟨i,d,c,hp'⟩:=st;obtain⟨g1,CE,gc,FA⟩:=cv;simp only at g1 CE gc FA;subst g1;refine .kk (P:=λ_=>True) ?_ λfy _=>.cond (λ_=>?_) λ_=>.ret ?_
  ·unfold Gv.b4;split
   ·exact ai9 c
   exact⟨_,rfl,trivial⟩
  ·refine .kk (gU _ 4 gc (by omega)) λgZ mA=>.eq I (.kk (bd.par (Xq _ gZ.1 mA.1 cI.hs) (Xz _ cI.hs _)) λjf sR=>.eq I (.eq I (.kk (bd.par (Xq _ gZ.1 CE cI.hs) (Xz _ cI.hs _)) λjW Co=>?_)));obtain⟨⟨dF,k,hk,hm,he⟩,aY⟩:=sR;obtain⟨⟨eP,bD,dh,dG,me⟩,tC⟩:=Co;have fo:bD=k:=by rw[hm]at dG;have:=xr dG;omega
   subst fo;refine .kk (ahL cI.hs cI.oy adJ aC hk he me aY tC) λjg rZ=>.eq I ?_;exact ahM cI (by omega) hk he aY rZ.1 rZ.2.1 rZ.2.2 FA λcQ h=>.ret ⟨dS (by omega),eP,dF,h⟩
  obtain⟨hg,gG,gi,h6,OM,lQ,mn,rh⟩:=FA;have:=lQ.num;have:=mn.num;exact⟨hg,gG,gi,h6,OM,lQ.mono (by omega) (by omega) (by omega),mn.mono (by omega) (by omega) (by omega),rh⟩
 ·obtain⟨i,d,c,hp'⟩:=st;obtain⟨g1,CE,gc,FA⟩:=cv;simp only at g1 CE gc FA;subst g1;exact .eq (a:=default) I (.cond (λh=>by cases h) λ_=>.ret FA)
 obtain⟨hg,gG,gi,h6,OM,lQ,mn,rh⟩:=atA;have dF:∀k,k<4->(hg k).length<=12:=λk hk=>by have:=Rq (ls:=hg) hk;have:=lQ.len;omega
 have eP:∀k,k<4->(gi k).length<=12:=λk hk=>by have:=Rq (ls:=gi) hk;have:=mn.len;omega
 obtain⟨sZ,TD,g1,_⟩:=OM.one;obtain⟨uu,TE,g2,_⟩:=OM.swap.one;have tA:∀{P:lV} {c6:Nat->aa aS} {nU:Int},fG S cr.2.2.2.2 P c6 nU []->∀k,k<4->∀i∈c6 k,i.bl.bs.length<=1000∧i.bl.c3.length<=1000:=λg k hk i au=>by
  have ae:=((g.nI.ok.mJ hk).ok.ok i au).gf;have:=ae.len;have:=ae.args;have:=(cI.hs.fK hk).2.1;omega
 have he:=apq (n:=4) cI.hs cI.oy aC (tA g1) (tA g2) rh (by decide);have Su:zL (o9 S j hg 4) (o9 S j gi 4)=some true:=by
  rw[<-he];exact ajB (by have:=ZJ (s:=S) (j:=j) dF (n:=4) (by decide);omega) (al8 (tA g1) (by decide))
 rw[<-TD,<-TE];refine .bind (QG cI.hs cI.oy aC g1 dF) λyJ atB=>.eq I ?_;subst atB;refine .bind (QG cI.hs cI.oy aC g2 eP) λwV atC=>?_;subst atC;refine .eq (a:=true) (show b4 true true _=_ from(bk I).trans Su) (.bind (P:=λr=>r.1=true) (.cond (λ_=>aiE _) λh=>by cases h) λER atD=>.ret (by simp[atD]))
def agD(ab ai aG:aa (BitVec 8))(b5:Bool):GZ [] ab ai aG b5 (λr=>r.1=true):=(ahg [] ab ai aG b5).run
end Go.Proofs.YtlkieppifclacaaGreat
