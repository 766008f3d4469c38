/-
  What the programs compute, in plain Lean. Conditions: none.
-/
import Derived.Test.YtdadopcnkghbaaaGreatMp0
set_option linter.defProp false
set_option linter.unusedVariables false
set_option linter.unusedSimpArgs false
set_option maxRecDepth 100000
namespace Go.Proofs.YtdadopcnkghbaaaGreat
open Go Gv
def p8(e:bp)(r:eB):aa cz:=
 if r.cw=e.cw then(if r.dP=0 then [⟨r.nm,r.uj,(aB e.ck r.k3.toNat).bV⟩]else if r.dP=e.dP then [⟨r.nm,r.uj,aB e.gu r.xr.toNat⟩]else [])else []
def gK(s:aS)(e:bp):aa cz:=s.dp.flatMap (p8 e)
def HN(e:bp):cz:=⟨1,0,(aB e.ck 0).bV⟩
def hK(s:aS)(e:bp):aa cz:=if e.cw=1∧s.dp≠[]then [HN e]else []
def Ba(s:aS)(e:bp):Prop:=(∃k,k<4∧iB s k e)∧uH e
def Xo(e:bp)(r:eB):(p8 e r).length<=1:=by
 unfold p8;split
 ·split
  ·simp
  split <;> simp
 simp
def Pv{α β:Type}{f:α->aa β}(aY:∀x,(f x).length<=1):∀l:aa α,(l.flatMap f).length<=l.length
 |[]=>by simp
 | x::l=>by
   have:=Pv aY l;have:=aY x;rw[List.flatMap_cons,fh,List.length_cons];omega
def Kw{s:aS}(aD:kf s)(e:bp):(gK s e).length<=4:=pv (Pv (Xo e) _) aD.x9
def Ba.apu{s:aS}(hs:c6 s){e:bp}(h:Ba s e):1<=e.ck.length∧e.ck.length<=1000:=by
 obtain⟨⟨k,hk,he⟩,_⟩:=h;have h1:=he.len;have ad:=(hs.lF hk).2.1;omega
def ajH{s:aS}{e:bp}(h:Ba s e){r:eB}(aD:GL s r)(bw:r.cw=e.cw)(a7:r.dP=0):r.k3=(r.k3.toNat:Int)∧r.k3.toNat<e.ck.length:=by
 obtain⟨⟨k,hk,he⟩,_⟩:=h;have h1:=he.len;have ad:=he.lF;rcases aD.2.2 with⟨_,g,_⟩|⟨g1,_,g2,g3⟩|⟨g1,_,g2,g3⟩|⟨_,g,_⟩
 ·omega
 ·have:k=2:=by omega
  subst this;rw[g2];exact⟨rfl,by rw[h1,g3];decide⟩
 ·have:k=3:=by omega
  subst this;rw[g2];exact⟨rfl,by rw[h1,g3];decide⟩
 omega
def ajI{s:aS}{e:bp}(h:Ba s e){r:eB}(aD:GL s r)(a7:r.dP≠0)(hb:r.dP=e.dP):r.xr=0∧0<e.gu.length:=by
 rcases aD.2.2 with⟨_,g,g2⟩|⟨_,g,_⟩|⟨_,g,_⟩|⟨_,g,g2⟩
 ·exact⟨g2,h.2 (.inl (by omega))⟩
 ·exact absurd g a7
 ·exact absurd g a7
 exact⟨g2,h.2 (.inr (by omega))⟩
def agL{α β:Type}[Inhabited α](f:α->aa β){l:aa α}{i:Nat}(ax:i<l.length):(l.take (i+1)).flatMap f=(l.take i).flatMap f++f (aB l i):=by
 rw[Ei,qf ax,fQ _ ax,Na];simp
def Kh{α:Type}[Inhabited α]{l:aa α}{i:Nat}(ax:i<l.length):aB l i∈l:=by rw[fQ _ ax];exact om ax
def VG{e:bp}{k:Nat}(hk:k<e.ck.length):B0 e (k:Int)=some (aB e.ck k).bV:=by
 refine bN.get ?_;unfold B0;refine .cond (λak=>?_) λ_=>.idx I hk (.ret I);simp only[oq,fM]at ak;omega
def afF{e:bp}(hk:0<e.gu.length):Fc e 0=some (aB e.gu 0):=by
 refine bN.get ?_;unfold Fc;refine .cond (λak=>?_) λ_=>.idx (k:=0) I hk (.ret I);simp only[oq,fM]at ak;omega
def ahr{s:aS}(aD:kf s){e:bp}(he:Ba s e):Fl s e=some (gK s e):=by
 refine bN.get ?_;unfold Fl;have ao:=aD.x9;refine .bind (P:=λx=>x.2.2=gK s e) (bN.qz s.dp.length (λi st=>st=((i:Int),(s.dp.take i).flatMap (p8 e))) (by omega) I (λi st ax cD=>?_) λst cD=>?_) λx al=>.ret al
 ·subst cD;refine .cond (λ_=>.idx I ax ?_) λak=>by simp at ak;omega
  have HO:=aD.refs _ (Kh ax);have arh:((s.dp.take i).flatMap (p8 e)).length<=4:=pv (Pv (Xo e) _) (by rw[fy];omega);refine .bind (P:=λm=>m=(s.dp.take (i+1)).flatMap (p8 e)) ?_ λm hm=>.ret (by rw[hm,hl (by omega)]);rw[agL _ ax];refine .cond (λak=>.ret ?_) λak=>.bind (P:=λm=>m=(s.dp.take i).flatMap (p8 e)++p8 e (aB s.dp i)) (.cond (λa7=>?_) λa7=>.bind (P:=λm=>m=(s.dp.take i).flatMap (p8 e)++p8 e (aB s.dp i)) (.cond (λhb=>?_) λhb=>.ret ?_) λm hm=>.ret hm) λm hm=>.ret hm
  ·unfold p8;rw[bn (by simpa using ak)];simp
  ·have bw:(aB s.dp i).cw=e.cw:=by simpa using ak
   have a7:(aB s.dp i).dP=0:=by simpa using a7
   obtain⟨g1,g2⟩:=ajH he HO bw a7;rw[g1];refine .eq (VG g2) (.eq I (.eq (kb _ _ (by simp only[List.length_cons,List.length_nil];omega) (by omega)) (.ret ?_)));unfold p8;rw[br bw,br a7]
  ·have bw:(aB s.dp i).cw=e.cw:=by simpa using ak
   have a7: ¬(aB s.dp i).dP=0:=by simpa using a7
   have hb:(aB s.dp i).dP=e.dP:=by simpa using hb
   obtain⟨g1,g2⟩:=ajI he HO a7 hb;rw[g1];refine .eq (afF g2) (.eq I (.eq (kb _ _ (by simp only[List.length_cons,List.length_nil];omega) (by omega)) (.ret ?_)));unfold p8;rw[br bw,bn a7,br hb,g1];rfl
  have bw:(aB s.dp i).cw=e.cw:=by simpa using ak
  have a7: ¬(aB s.dp i).dP=0:=by simpa using a7
  have hb: ¬(aB s.dp i).dP=e.dP:=by simpa using hb
  unfold p8;rw[br bw,bn a7,bn hb];simp
 subst cD;exact .cond (λak=>by simp at ak) λ_=>.ret (by show _=gK s e;simp[gK])
def aiG{l:aa cz}(ao:l.length<=1000)(x:cz):bN (DT l x) (λr=>r=decide (x∈l)):=by
 unfold DT Im;refine .bind (P:=λy=>(0<=y)↔x∈l) ?_ λy hy=>.ret (by simp only[ge_iff_le,hy]);refine bN.loop l.length (λi st=>st=(i:Int)∧∀j,j<i->x≠aB l j) (by omega) ⟨rfl,λj aC=>by omega⟩ (λi st ax cD=>?_) λst cD=>?_
 ·obtain⟨rfl,aI⟩:=cD;refine .cond (λ_=>.idx I ax (.cond (λak=>.ret (.ret ?_)) λak=>.ret ⟨hl (by omega),λj aC=>?_⟩)) λak=>by simp at ak;omega
  ·exact⟨λ_=>by rw[w8 ak];exact Kh ax,λ_=>by simp only;omega⟩
  by_cases e:j=i
  ·subst e;exact Ue ak
  exact aI j (by omega)
 obtain⟨rfl,aI⟩:=cD;have ak:decide ((l.length:Int)<(l.length:Int))=false:=by simp
 refine⟨.inl ((l.length:Int),false),by rw[ak];rfl,.ret ⟨λh=>by omega,λh=>?_⟩⟩;obtain⟨j,aC,e⟩:=TZ h;exact absurd (by rw[fQ _ aC,e]) (aI j aC)
def afG{s:aS}(hs:c6 s)(aD:kf s){e:bp}(he:Ba s e):Fe s e=some (hK s e):=by
 refine bN.get ?_;unfold Fe;have ao:=aD.x9;have hm:=he.apu hs;refine .bind (P:=λx=>x.2.2=hK s e) (bN.qz s.dp.length (λi st=>st=((i:Int),if e.cw=1∧i≠0 then [HN e]else [])) (by omega) (by simp) (λi st ax cD=>?_) λst cD=>?_) λx al=>.ret al
 ·subst cD;have HO:=aD.refs _ (Kh ax);have arh:(if e.cw=1∧i≠0 then [HN e]else []).length<=1:=by split <;> simp
  refine .cond (λ_=>.idx I ax ?_) λak=>by simp at ak;omega
  rw[HO.1,HO.2.1];refine .eq (VG (k:=0) (by omega)) (.eq I (.cb (λ_=>aiG (by simp only;omega) _) λy hy=>?_));refine .bind (P:=λm=>m=if e.cw=1∧i+1≠0 then [HN e]else []) (.cond (λak=>?_) λak=>.ret ?_) λm hm=>.ret (by rw[hm,hl (by omega)])
  ·simp only[gq,oT,vh]at ak;have hy:=hy (by simp[ak.1]);rw[ak.2]at hy;have:i=0:=by
    refine MO λh=>?_;rw[br ⟨ak.1.symm,h⟩]at hy;simp[HN]at hy
   subst this;refine .eq (kb _ _ (by simp) (by omega)) (.ret ?_);rw[bn (by simp),br ⟨ak.1.symm,by omega⟩];rfl
  by_cases h1:e.cw=1
  ·have hy:=hy (by simp[h1]);simp only[h1,Et,zd,T7]at ak;rw[ak]at hy;have AO:i≠0:=λh=>by rw[bn (by simp[h])]at hy;simp at hy
   rw[br ⟨h1,AO⟩,br ⟨h1,by omega⟩]
  rw[bn λh=>h1 h.1,bn λh=>h1 h.1]
 subst cD;refine .cond (λak=>by simp at ak) λ_=>.ret ?_;show _=hK s e;unfold hK;simp[DU]
structure lZ(m:Nat)(hp hp':aH Cell):Prop where
 at_:∀q,q≠m->pat hp' q=pat hp q
 keys:∀q,q∈dB hp->q∈dB hp'
def lZ.refl{m:Nat}{hp:aH Cell}:lZ m hp hp:=⟨λ_ _=>rfl,λ_ h=>h⟩
def lZ.trans{m:Nat}{a b c:aH Cell}(h:lZ m a b)(k:lZ m b c):lZ m a c:=⟨λq hq=>(k.at_ q hq).trans (h.at_ q hq),λq hq=>k.keys q (h.keys q hq)⟩
def lZ.up{m:Nat}{hp:aH Cell}{c:Cell}:lZ m hp (cr hp m c):=⟨λq hq=>mE λe=>hq e.symm,λq hq=>by rw[rb];exact hq⟩
def afH{hp hp':aH Cell}{p:Nat}(h:pat hp' p=pat hp p):pG hp' p=pG hp p:=by unfold pG;rw[h]
def Vn{hp hp':aH Cell}{p:Nat}(h:pat hp' p=pat hp p):pF hp' p=pF hp p:=by unfold pF;rw[h]
def WN{hp:aH Cell}{p:Nat}{k:Cell}{x:aa (cz×kx)}(h:pat hp p=some k):pG (cr hp p (.r7 x)) p=some x:=by unfold pG;rw[rX h]
structure mY(s:aS)(hp:aH Cell)(p m:Nat)(A B:cz->Int):Prop where
 cell:pF hp p=some ⟨s,⟨some m⟩⟩
 map:∃kv,pG hp m=some kv∧oN kv∧∀t,dz kv t=if A t=0∧B t=0 then none else some ⟨A t,B t⟩
def mY.ne{s:aS}{hp:aH Cell}{p m:Nat}{A B:cz->Int}(h:mY s hp p m A B):p≠m:=λe=>by
 obtain⟨kv,h1,_⟩:=h.map;have ad:=Qm h.cell;rw[e,uv h1]at ad;cases ad
def mY.congr{s:aS}{hp hp':aH Cell}{p m:Nat}{A B:cz->Int}(h:mY s hp p m A B)(h1:pat hp' p=pat hp p)(ad:pat hp' m=pat hp m):mY s hp' p m A B:=
 ⟨by rw[Vn h1];exact h.cell,by obtain⟨kv,g1,g2⟩:=h.map;exact⟨kv,by rw[afH ad];exact g1,g2⟩⟩
def yz(A:cz->Int)(t:cz)(n:Int):cz->Int:=λx=>if x=t then A x+n else A x
def tJ(A:cz->Int)(k:Int):Prop:=∀t, -k<=A t∧A t<=k
def Xp{s:aS}{hp:aH Cell}{p m:Nat}{A B:cz->Int}(h:mY s hp p m A B)(ev:tJ A 200000)(dE:tJ B 200000)(t:cz){n k:Int}(aI: -1<=n∧n<=1)(hk: -1<=k∧k<=1):
 bN (BG hp (some p) t n k) (λr=>lZ m hp r∧mY s r p m (yz A t n) (yz B t k)):=by
 obtain⟨kv,h1,ad,ay⟩:=h.map
 unfold BG
 refine .eq (a:=p) I (.eq h.cell (.eq (a:=m) I (.eq h1 (.eq I (.eq I ?_)))))
 have hC:(dz kv t).getD default=(⟨A t,B t⟩:kx):=by
  rw[ay];split
  ·rename_i cy;rw[cy.1,cy.2];rfl
  rfl
 rw[hC]
 have bS:=ev t
 have c7:=dE t
 have tT:bo (A t+n)=A t+n:=jr (by omega) (by omega)
 have Bh:bo (B t+k)=B t+k:=jr (by omega) (by omega)
 simp only[tT,Bh]
 have ak:∀c,pF (cr hp m c) p=some ⟨s,⟨some m⟩⟩:=λc=>by rw[Vn (mE h.ne.symm)];exact h.cell
 refine .cond (λcy=>?_) λcy=>?_
 ·have cy:=w8 cy
  have bg:A t+n=0:=ec kx.ql cy
  have z2:B t+k=0:=ec kx.qk cy
  refine .eq (a:=p) I (.eq h.cell (.eq (a:=m) I (.eq h1 (.eq I (.ret ⟨.up,ak _,_,WN (uv h1),ad.del,λx=>?_⟩)))))
  rw[Cd ad,ay]
  unfold yz
  by_cases e:x=t
  ·subst e;rw[br I,br I,br I,br ⟨bg,z2⟩]
  rw[bn e,bn e,bn e]
 have cy:=Ue cy
 refine .eq (a:=p) I (.eq h.cell (.eq (a:=m) I (.eq h1 (.eq I (.ret ⟨.up,ak _,_,WN (uv h1),ad.put,λx=>?_⟩)))))
 rw[vx,ay]
 unfold yz
 by_cases e:x=t
 ·subst e;rw[br I,br I,br I,bn λb2=>cy (by rw[b2.1,b2.2];rfl)]
 rw[bn e,bn e,bn e]
def gT(A:cz->Int)(l:aa cz)(n:Int):cz->Int:=λt=>A t+n*(l.count t:Int)
def WO{A:cz->Int}{n:Int}:gT A [] n=A:=by funext t;simp[gT]
def V5{A:cz->Int}{l:aa cz}{x:cz}{n:Int}:yz (gT A l n) x n=gT A (l++[x]) n:=by
 funext t;unfold yz gT;rw[Ni,List.count_singleton];by_cases e:t=x
 ·subst e;rw[br I];simp only[Et,mc];rw[Int.natCast_add,Int.mul_add];omega
 rw[bn e,bn (by simpa using λh=>e h.symm)];simp
def WQ{A:cz->Int}{x:cz}:yz A x 0=A:=by funext t;unfold yz;split <;> simp
def tJ.mono{A:cz->Int}{k k':Int}(h:tJ A k)(hk:k<=k'):tJ A k':=λt=>by have:=h t;omega
def Pw{A:cz->Int}{l:aa cz}{n:Int}(h:tJ A 100000)(ao:l.length<=10)(aI:n=1∨n= -1):tJ (gT A l n) 200000:=λt=>by
 have h1:=h t;have ad:l.count t<=l.length:=Ip;unfold gT;rcases aI with rfl|rfl <;> omega
def V6{α:Type}[Inhabited α]{l:aa α}{i:Nat}(ax:i<l.length):l.take (i+1)=l.take i++[aB l i]:=by
 rw[Ei,qf ax,fQ _ ax];rfl
def Kx{s:aS}(hs:c6 s)(aD:kf s){hp:aH Cell}{p m:Nat}{A B:cz->Int}(h:mY s hp p m A B)(ev:tJ A 100000)(dE:tJ B 100000){e:bp}(he:Ba s e){n:Int}(aI:n=1∨n= -1):
 bN (BI hp (some p) e n) (λr=>lZ m hp r∧mY s r p m (gT A (gK s e) n) (gT B (hK s e) n)):=by
 have ao:=Kw aD e
 have Dt:(hK s e).length<=1:=by unfold hK;split <;> simp
 have qN: -1<=n∧n<=1:=by omega
 unfold BI
 refine .cond (λak=>by cases ak) λ_=>.eq (a:=p) I (.eq h.cell (.eq (ahr aD he) ?_))
 refine .bind (P:=λx=>lZ m hp x.2.2∧mY s x.2.2 p m (gT A (gK s e) n) B) (bN.qz (gK s e).length (λi st=>st.1=(i:Int)∧lZ m hp st.2∧mY s st.2 p m (gT A ((gK s e).take i) n) B) (by omega) ⟨rfl,.refl,by rw[List.take_zero,WO];exact h⟩ (λi st ax cD=>?_) λst cD=>?_) λx al=>?_
 ·obtain⟨H9,bL⟩:=st;obtain⟨au,bz,c1⟩:=cD
  simp only at au bz c1;subst au
  refine .cond (λ_=>.idx I ax (.bind (Xp c1 (Pw ev (by rw[fy];omega) aI) (λt=>by have:=dE t;omega) _ qN (by omega)) λy hy=>.ret ⟨hl (by omega),bz.trans hy.1,?_⟩)) λak=>by simp at ak;omega
  have:=hy.2
  rw[V5,WQ,<-V6 ax]at this
  exact this
 ·obtain⟨H9,bL⟩:=st;obtain⟨au,bz,c1⟩:=cD
  simp only at au bz c1;subst au
  rw[nf]at c1
  exact .cond (λak=>by simp at ak) λ_=>.ret ⟨bz,c1⟩
 obtain⟨bz,c1⟩:=al
 refine .eq c1.cell (.eq (afG hs aD he) ?_)
 refine .bind (P:=λz=>lZ m hp z.2.2∧mY s z.2.2 p m (gT A (gK s e) n) (gT B (hK s e) n)) (bN.qz (hK s e).length (λi st=>st.1=(i:Int)∧lZ m hp st.2∧mY s st.2 p m (gT A (gK s e) n) (gT B ((hK s e).take i) n)) (by omega) ⟨rfl,bz,by rw[List.take_zero,WO];exact c1⟩ (λi st ax cD=>?_) λst cD=>?_) λz cy=>.ret cy
 ·obtain⟨H9,bL⟩:=st;obtain⟨au,cc,c2⟩:=cD
  simp only at au cc c2;subst au
  refine .cond (λ_=>.idx I ax (.bind (Xp c2 (Pw ev (by omega) aI) (Pw dE (by rw[fy];omega) aI) _ (by omega) qN) λy hy=>.ret ⟨hl (by omega),cc.trans hy.1,?_⟩)) λak=>by simp at ak;omega
  have:=hy.2
  rw[V5,WQ,<-V6 ax]at this
  exact this
 obtain⟨H9,bL⟩:=st;obtain⟨au,cc,c2⟩:=cD
 simp only at au cc c2;subst au
 rw[nf]at c2
 exact .cond (λak=>by simp at ak) λ_=>.ret ⟨cc,c2⟩
def OY{hp hp':aH Cell}{p:Nat}(h:pat hp' p=pat hp p):gQ hp' p=gQ hp p:=by unfold gQ;rw[h]
def aiH{hp:aH Cell}{p:Nat}{k:Cell}{x:e7}{a:aw Nat}{c:Nat}(h:pat hp p=some k):gQ (cr hp p (.kj x a c)) p=some (x,a,c):=by unfold gQ;rw[rX h]
structure rJ where
 x:Nat
 t:Nat
 r:Nat
 m:Nat
 q:Nat
def DN(P:rJ)(q:Nat):Prop:=q=P.x∨q=P.r∨q=P.m∨q=P.q
structure jA(s:aS)(hp:aH Cell)(P:rJ)(ls:Nat->List aK)(next:Int)(bT:List fb)(A B:cz->Int)(N:Int->Int):Prop where
 st:∃k c,gQ hp P.x=some (⟨some P.t,some P.r,some P.q,bT⟩,k,c)
 jJ:kP (DN P) s hp P.t ls next
 iQ:mY s hp P.r P.m A B
 quo:qS s hp P.q N
section
variable{s:aS}{hp hp':aH Cell}{P:rJ}{ls ls':Nat->aa aK}{next next':Int}{bT js':aa fb}{A B cE Ie:cz->Int}{N Ig:Int->Int}
def jA.ne(h:jA s hp P ls next bT A B N):(P.x≠P.r∧P.x≠P.m∧P.x≠P.q)∧P.r≠P.m∧P.r≠P.q∧P.m≠P.q:=by
 obtain⟨k,c,h1⟩:=h.st;obtain⟨kv,ad,_⟩:=h.iQ.map;obtain⟨qY,ay,_⟩:=h.quo.cell;have au:=o4 h1;have aW:=uv ad;have cF:=Qm h.iQ.cell;have fv:=uw ay;refine⟨⟨λe=>?_,λe=>?_,λe=>?_⟩,λe=>?_,λe=>?_,λe=>?_⟩
 ·rw[e,cF]at au;cases au
 ·rw[e,aW]at au;cases au
 ·rw[e,fv]at au;cases au
 ·rw[e,aW]at cF;cases cF
 ·rw[e,fv]at cF;cases cF
 rw[e,fv]at aW;cases aW
def jA.Aw(h:jA s hp P ls next bT A B N)(k:kP (DN P) s hp' P.t ls' next'∧sE (DN P) hp hp'):jA s hp' P ls' next' bT A B N where
 st:=by obtain⟨a,c,h1⟩:=h.st;exact⟨a,c,by rw[OY (k.2.at_ _ (.inl I))];exact h1⟩
 jJ:=k.1
 iQ:=h.iQ.congr (k.2.at_ _ (.inr (.inl I))) (k.2.at_ _ (.inr (.inr (.inl I))))
 quo:=h.quo.congr (k.2.at_ _ (.inr (.inr (.inr I))))
def jA.only(h:jA s hp P ls next bT A B N){q:Nat}(hq:DN P q)(o:lZ q hp hp'):kP (DN P) s hp' P.t ls next:=h.jJ.off (λx al=>o.at_ x λe=>al (e▸hq)) o.keys
def jA.ref(h:jA s hp P ls next bT A B N)(k:lZ P.m hp hp'∧mY s hp' P.r P.m cE Ie):jA s hp' P ls next bT cE Ie N where
 st:=by obtain⟨a,c,h1⟩:=h.st;exact⟨a,c,by rw[OY (k.1.at_ _ h.ne.1.2.1)];exact h1⟩
 jJ:=h.only (.inr (.inr (.inl I))) k.1
 iQ:=k.2
 quo:=h.quo.congr (k.1.at_ _ λe=>h.ne.2.2.2 e.symm)
def jA.MK(h:jA s hp P ls next bT A B N)(k:∃c,hp'=cr hp P.q c)(bE:qS s hp' P.q Ig):jA s hp' P ls next bT A B Ig:=by
 obtain⟨c,rfl⟩:=k;have o:lZ P.q hp (cr hp P.q c):=.up;exact⟨by obtain⟨a,c,h1⟩:=h.st;exact⟨a,c,by rw[OY (o.at_ _ h.ne.1.2.2)];exact h1⟩,h.only (.inr (.inr (.inr I))) o,
  h.iQ.congr (o.at_ _ h.ne.2.2.1) (o.at_ _ h.ne.2.2.2),bE⟩
def jA.HP(h:jA s hp P ls next bT A B N)(a:aw Nat)(c:Nat):jA s (cr hp P.x (.kj ⟨some P.t,some P.r,some P.q,js'⟩ a c)) P ls next js' A B N:=by
 have o:lZ P.x hp (cr hp P.x (.kj ⟨some P.t,some P.r,some P.q,js'⟩ a c)):=.up;obtain⟨hL,jz,h1⟩:=h.st;exact⟨⟨a,c,aiH (o4 h1)⟩,h.only (.inl I) o,h.iQ.congr (o.at_ _ h.ne.1.1.symm) (o.at_ _ h.ne.1.2.1.symm),h.quo.congr (o.at_ _ h.ne.1.2.2.symm)⟩
def Xq(h:bT.length<=1000)(k:mP)(a b c:Ref):y5 ⟨a,b,c,bT⟩ k=some ⟨a,b,c,bT++[⟨k⟩]⟩:=by
 unfold y5;rw[kb _ _ (by simp;omega) (by omega)];rfl
structure Ih(A B:cz->Int)(N:Int->Int)(bT:List fb):Prop where
 a:tJ A 1000
 b:tJ B 1000
 n:∀x,0<=N x∧N x<1000
 j:bT.length<=1000
def WR(hs:c6 s)(aD:kf s)(h:jA s hp P ls next bT A B N)(hb:Ih A B N bT){k:Nat}(hk:k<4){e:bp}(he:iB s k e)(a7:uH e)(ps:Int)(x6:∀i∈ls k,i.cI<next)(hlen:(ls k).length<900)(aI:1<=next∧next<1000000):
 cv (Eo hp (some P.x) e ps) (λr=>
  if (eT (ls k) e).isSome=true then r=(17,hp)else if (aB s.bH k).gH<=((ls k).length:Int)then r=(18,hp)
  else if room s N ps=true then r.1=0∧jA s r.2 P (hX ls k (ls k++[{bb:=e,cI:=next,fV:=ps}])) (next+1) (bT++[⟨.tr (some P.x) {bb:=e,cI:=next,fV:=ps} next ps⟩]) (gT A (gK s e) 1) (gT B (hK s e) 1) (bump N ps 1)
  else r.1=19∧jA s r.2 P (hX ls k (ls k)) next bT A B N):=by
 obtain⟨a0,rI,bu⟩:=h.st
 unfold Eo
 refine .cond (λak=>by cases ak) λ_=>.eq (a:=P.x) I (.eq bu (.bind (ahp hs h.jJ hk he ps x6 hlen ⟨by omega,aI.2⟩) λan h1=>?_))
 by_cases aY:(eT (ls k) e).isSome=true
 ·rw[br aY]at h1
  subst h1
  exact .cond (λ_=>.ret (by rw[br aY])) λak=>by simp at ak
 rw[bn aY]at h1
 by_cases cy:(aB s.bH k).gH<=((ls k).length:Int)
 ·rw[br cy]at h1
  subst h1
  exact .cond (λ_=>.ret (by rw[bn aY,br cy])) λak=>by simp at ak
 rw[bn cy]at h1
 obtain⟨kn,err,bL⟩:=an
 obtain⟨au,aW,cD,wL⟩:=h1
 simp only at au aW cD wL
 subst aW
 have au:=au.symm
 subst au
 have g1:=h.Aw ⟨cD,wL⟩
 refine .cond (λak=>by simp at ak) λ_=>?_
 have Mi:eT (ls k) e=none:=by
  cases hq:eT (ls k) e with
  |none=>rfl
  |some _=>rw[hq]at aY;exact absurd I aY
 obtain⟨bS,c1,h1⟩:=g1.st
 have Mu:=aiB hs g1.jJ.ok hk he
 rw[vA,ahn Mi (FP e)]at Mu
 replace Mu:zf bL (some P.t) e=some (({bb:=e,cI:=next,fV:=ps}:aK),true):=Mu
 refine .eq (a:=P.x) I (.eq h1 (.eq Mu (.eq (a:=P.x) I (.eq h1 (.l2 (Zf hs g1.quo (λx=>by have:=hb.n x;omega) ps) λbd ay=>?_)))))
 by_cases mr:room s N ps=true
 ·rw[br mr]at ay
  obtain⟨ok,cN⟩:=bd
  obtain⟨cF,cP,eZ⟩:=ay
  simp only at cF cP eZ
  subst cF
  have g2:=g1.MK cP eZ
  obtain⟨a2,c2,ad⟩:=g2.st
  refine .cond (λak=>by cases ak) λ_=>.eq ad (.l2 (P:=λcG=>lZ P.m cN cG∧mY s cG P.r P.m (gT A (gK s e) 1) (gT B (hK s e) 1)) ?_ λcG bh=>?_)
  ·exact .bind (Kx hs aD g2.iQ (hb.a.mono (by omega)) (hb.b.mono (by omega)) ⟨⟨k,hk,he⟩,a7⟩ (.inl I)) λy hy=>.ret hy
  have g3:=g2.ref bh
  obtain⟨a3,et,ay⟩:=g3.st
  refine .eq ay (.eq (Xq hb.j _ _ _ _) (.any λfT=>.eq I (.ret ?_)))
  rw[bn aY,bn cy,br mr]
  exact⟨rfl,g3.HP fT.1 fT.2⟩
 rw[bn mr]at ay
 subst ay
 refine .cond (λ_=>?_) λak=>by cases ak
 refine .eq h1 (.bind (Pu hs g1.jJ hk he) λbq aR=>?_)
 obtain⟨i4,atv,qK⟩:=bq
 have g2:=g1.Aw aR.2
 simp only at g2
 obtain⟨a2,c2,ad⟩:=g2.st
 refine .eq ad (.l2 (VF g2.jJ next) λbM aX=>.ret ?_)
 have g3:=g2.Aw aX
 rw[bn aY,bn cy,bn mr]
 refine⟨rfl,?_⟩
 rw[J9,vA,agJ (FP e),aiF Mi,show max 1 next=next by omega]at g3
 exact g3
def WS(hs:c6 s)(aD:kf s)(h:jA s hp P ls next bT A B N)(hb:Ih A B N bT){k:Nat}(hk:k<4){e:bp}(he:iB s k e)(ari:∀i∈ls k,uH i.bb∧(rx i.fV).isSome=true∧0<N i.fV):
 cv (Ep hp (some P.x) e) (λr=>match eT (ls k) e with
  |some i=>r.1=0∧jA s r.2 P (hX ls k (hQ (ls k) e)) next (bT++[⟨.ts (some P.x) i⟩]) (gT A (gK s i.bb) (-1)) (gT B (hK s i.bb) (-1)) (bump N i.fV (-1))
  |none=>r.1=16∧jA s r.2 P (hX ls k (hQ (ls k) e)) next bT A B N):=by
 obtain⟨a0,rI,bu⟩:=h.st
 have wE:=h.jJ.ok.nP hk
 unfold Ep
 refine .cond (λak=>by cases ak) λ_=>.eq (a:=P.x) I (.eq bu (.bind (Pu hs h.jJ hk he) λan h1=>?_))
 obtain⟨i1,err,bL⟩:=an
 obtain⟨h1,ad⟩:=h1
 have g1:=h.Aw ad
 simp only at h1 g1
 cases aY:eT (ls k) e with
 | none=>
   rw[aY]at h1
   have aW:err=16:=ec Prod.snd h1
   subst aW
   exact .cond (λ_=>.ret ⟨rfl,g1⟩) λak=>by simp at ak
 | some i=>
   rw[aY]at h1
   have au:i1=i:=ec Prod.fst h1
   have aW:err=0:=ec Prod.snd h1
   subst aW
   have au:=au.symm
   subst au
   obtain⟨hm,_⟩:=zF aY
   obtain⟨a7,aU,jx⟩:=ari i hm
   obtain⟨j,aC⟩:=MR.1 aU
   obtain⟨bS,c1,aJ⟩:=g1.st
   refine .cond (λak=>by simp at ak) λ_=>.eq (a:=P.x) I (.eq aJ (.l2 (P:=λy=>lZ P.m bL y∧mY s y P.r P.m (gT A (gK s i.bb) (-1)) (gT B (hK s i.bb) (-1))) ?_ λaF ad=>?_))
   ·exact .bind (Kx hs aD g1.iQ (hb.a.mono (by omega)) (hb.b.mono (by omega)) ⟨⟨k,hk,(wE.ok.ok i hm).fS⟩,a7⟩ (.inr I)) λy hy=>.ret hy
   have g2:=g1.ref ad
   obtain⟨a2,c2,bE⟩:=g2.st
   have hq:N i.fV<100000:=by have:=hb.n i.fV;omega
   refine .eq bE (.l2 (X1 hs g2.quo aC ⟨jx,hq⟩) λbd ay=>?_)
   have g3:=g2.MK ay.1 ay.2
   obtain⟨a3,et,cP⟩:=g3.st
   exact .eq cP (.eq (Xq hb.j _ _ _ _) (.any λq=>.eq I (.ret ⟨rfl,g3.HP q.1 q.2⟩)))
def ahs(hs:c6 s)(aD:kf s)(h:jA s hp P ls next bT A B N)(hb:Ih A B N bT){k:Nat}(hk:k<4){i:aK}(ax:mv s k i)(a7:uH i.bb){j:Nat}(aC:rx i.fV=some j)(jx:0<N i.fV)(n:Int):
 cv (Bq hp (some P.x) i n i.fV) (λr=>jA s r P (hX ls k (hQ (ls k) i.bb)) (max 1 n) bT (gT A (gK s i.bb) (-1)) (gT B (hK s i.bb) (-1)) (bump N i.fV (-1))):=by
 obtain⟨a0,rI,bu⟩:=h.st
 unfold Bq
 refine .eq (a:=P.x) I (.eq bu (.bind (Pu hs h.jJ hk ax.fS) λan h1=>?_))
 have g1:=h.Aw h1.2
 obtain⟨bS,c1,aJ⟩:=g1.st
 refine .eq aJ (.l2 (VF g1.jJ n) λaF ad=>?_)
 have g2:=g1.Aw ad
 obtain⟨a2,c2,bE⟩:=g2.st
 refine .eq bE (.l2 (P:=λy=>lZ P.m aF y∧mY s y P.r P.m (gT A (gK s i.bb) (-1)) (gT B (hK s i.bb) (-1))) ?_ λbd ay=>?_)
 ·exact .bind (Kx hs aD g2.iQ (hb.a.mono (by omega)) (hb.b.mono (by omega)) ⟨⟨k,hk,ax.fS⟩,a7⟩ (.inr I)) λy hy=>.ret hy
 have g3:=g2.ref ay
 obtain⟨a3,et,cP⟩:=g3.st
 have hq:N i.fV<100000:=by have:=hb.n i.fV;omega
 exact .eq cP (.l2 (X1 hs g3.quo aC ⟨jx,hq⟩) λbq aR=>.ret (g3.MK aR.1 aR.2))
def aht(hs:c6 s)(aD:kf s)(h:jA s hp P ls next bT A B N)(hb:Ih A B N bT){k:Nat}(hk:k<4){i:aK}(ax:mv s k i)(a7:uH i.bb)(mr:room s N i.fV=true)(bw:u4 (ls k) i=true)(hlen:(ls k).length<900):
 cv (Br hp (some P.x) i) (λr=>jA s r P (hX ls k (ls k++[i])) next bT (gT A (gK s i.bb) 1) (gT B (hK s i.bb) 1) (bump N i.fV 1)):=by
 obtain⟨a0,rI,bu⟩:=h.st
 unfold Br
 refine .eq (a:=P.x) I (.eq bu (.bind (agK hs h.jJ hk ax hlen) λan h1=>?_))
 have g1:=h.Aw h1.2
 unfold added at g1
 rw[br bw]at g1
 obtain⟨bS,c1,aJ⟩:=g1.st
 refine .eq aJ (.l2 (P:=λy=>lZ P.m an.2 y∧mY s y P.r P.m (gT A (gK s i.bb) 1) (gT B (hK s i.bb) 1)) ?_ λaF ad=>?_)
 ·exact .bind (Kx hs aD g1.iQ (hb.a.mono (by omega)) (hb.b.mono (by omega)) ⟨⟨k,hk,ax.fS⟩,a7⟩ (.inl I)) λy hy=>.ret hy
 have g2:=g1.ref ad
 obtain⟨a2,c2,bE⟩:=g2.st
 refine .eq bE (.l2 (Zf hs g2.quo (λx=>by have:=hb.n x;omega) i.fV) λbd ay=>.ret ?_)
 rw[br mr]at ay
 exact g2.MK ay.2.1 ay.2.2
end
section
variable{s:aS}{ls:Nat->aa aK}{next:Int}
def kD(L:aa aK)(x:Int):Int:=((L.countP λi=>i.fV==x:Nat):Int)
end
def jb(s:aS)(L:aa aK)(t:cz):Int:=(((L.flatMap λi=>gK s i.bb).count t:Nat):Int)
def ie(s:aS)(L:aa aK)(t:cz):Int:=(((L.flatMap λi=>hK s i.bb).count t:Nat):Int)
section
variable{s:aS}{L L':aa aK}
def J1(h:L.Perm L'):jb s L=jb s L':=by funext t;unfold jb;rw[(h.flatMap_right _).count_eq]
def J2(h:L.Perm L'):ie s L=ie s L':=by funext t;unfold ie;rw[(h.flatMap_right _).count_eq]
def Ka(h:L.Perm L'):kD L=kD L':=by funext x;unfold kD;rw[h.countP_eq]
def J3{i:aK}:gT (jb s L) (gK s i.bb) 1=jb s (L++[i]):=by
 funext t;unfold jb gT;rw[Na,Ni];simp
def J4{i:aK}:gT (ie s L) (hK s i.bb) 1=ie s (L++[i]):=by
 funext t;unfold ie gT;rw[Na,Ni];simp
def Kb{i:aK}:bump (kD L) i.fV 1=kD (L++[i]):=by
 funext x;unfold kD bump;rw[List.countP_append,List.countP_singleton];by_cases e:x=i.fV
 ·subst e;rw[br I];simp
 rw[bn e,bn (by simpa using λh=>e h.symm)];simp
def V7{A:cz->Int}{l:aa cz}:gT (gT A l 1) l (-1)=A:=by funext t;unfold gT;omega
def agM{N:Int->Int}{x:Int}:bump (bump N x 1) x (-1)=N:=by
 funext y;unfold bump;by_cases e:y=x
 ·subst e;rw[br I,br I];omega
 rw[bn e,bn e]
def OZ{i:aK}(h:(L'++[i]).Perm L):gT (jb s L) (gK s i.bb) (-1)=jb s L':=by rw[<-J1 h,<-J3,V7]
def O0{i:aK}(h:(L'++[i]).Perm L):gT (ie s L) (hK s i.bb) (-1)=ie s L':=by rw[<-J2 h,<-J4,V7]
def Pd{i:aK}(h:(L'++[i]).Perm L):bump (kD L) i.fV (-1)=kD L':=by rw[<-Ka h,<-Kb,agM]
def WT{i:aK}(h:i∈L):0<kD L i.fV:=by
 unfold kD;have:0<L.countP λj=>j.fV==i.fV:=List.countP_pos_iff.2 ⟨i,h,by simp⟩;omega
end
def RB(a b:Nat->aa aK):Prop:=∀k,k<4->(a k).Perm (b k)
def RB.symm{a b:Nat->aa aK}(h:RB a b):RB b a:=λk hk=>(h k hk).symm
def Cf{α β:Type}{f:α->aa β}{n:Nat}(aY:∀x,(f x).length<=n):∀l:aa α,(l.flatMap f).length<=n*l.length
 |[]=>by simp
 | x::l=>by
   have:=Cf aY l;have:=aY x;rw[List.flatMap_cons,fh,List.length_cons,Nat.mul_add];omega
def CM{s:aS}(aD:kf s){ls:Nat->aa aK}{bT:aa fb}(ad:(c0 ls).length<=48)(aC:bT.length<=1000):Ih (jb s (c0 ls)) (ie s (c0 ls)) (kD (c0 ls)) bT where
 a t:=by
   have h1:=Cf (f:=λi:aK=>gK s i.bb) (n:=4) (λi=>Kw aD _) (c0 ls);have ay:(List.flatMap (λi:aK=>gK s i.bb) (c0 ls)).count t<=_:=Ip;unfold jb;omega
 b t:=by
   have h1:=Cf (f:=λi:aK=>hK s i.bb) (n:=1) (λi=>by unfold hK;split <;> simp) (c0 ls);have ay:(List.flatMap (λi:aK=>hK s i.bb) (c0 ls)).count t<=_:=Ip;unfold ie;omega
 n x:=by
   have ay:(c0 ls).countP (λi=>i.fV==x)<=_:=Il;unfold kD;omega
 j:=aC
abbrev ew(s:aS)(hp:aH Cell)(P:rJ)(ls:Nat->aa aK)(next:Int)(bT:aa fb):Prop:=jA s hp P ls next bT (jb s (c0 ls)) (ie s (c0 ls)) (kD (c0 ls))
section
variable{s:aS}{hp:aH Cell}{P:rJ}{ls ls' de:Nat->aa aK}{next next':Int}{bT:aa fb}{ch:fb}
def jA.to{A B cE Ie:cz->Int}{N Ig:Int->Int}(h:jA s hp P ls next bT A B N)(a7:A=cE)(hb:B=Ie)(aI:N=Ig):jA s hp P ls next bT cE Ie Ig:=by subst a7 hb aI;exact h
end
def Zg{s:aS}(hs:c6 s)(aD:kf s)(hp:aH Cell):cv (zo hp s) (λr=> ∃P:rJ,r.1=some P.x∧ew s r.2 P (λ_=>[]) 1 []):=by
 have Mv:=hs.x9;unfold zo;refine .bind (ajG hs hp) λan h1=>?_;obtain⟨t,au,h1⟩:=h1;obtain⟨arf,bL⟩:=an;simp only at au h1;subst au;unfold JU JN;refine .bind (P:=λaF=> ∃m r,r≠m∧m∉dB bL∧r∉dB bL∧aF=(some r,(r,Cell.Aj ⟨s,⟨some m⟩⟩)::(m,Cell.r7 [])::bL)) (.mk λm hm=>.mk λr aD=>.ret ⟨m,r,?_,hm,?_,rfl⟩) λaF ad=>?_
 ·exact λe=>aD (by rw[e];exact ln)
 ·exact λh=>aD (gd _ h)
 obtain⟨m,r,Hj,hm,Dv,rfl⟩:=ad;refine .bind (P:=λbd=> ∃q,q≠r∧q≠m∧q∉dB bL∧bd=(some q,(q,Cell.r8 {(default:iV)with pA:=s.fj})::(r,Cell.Aj ⟨s,⟨some m⟩⟩)::(m,Cell.r7 [])::bL)) (.eq (a:=s.fj) ?_ (.mk λq hq=>.ret ⟨q,?_,?_,?_,rfl⟩)) λbd ay=>?_
 ·unfold s5;rw[br ⟨by omega,by rw[Mv];decide,by rw[Mv];decide⟩,Mv];show some (List.take 3 s.fj)=_;rw[<-Mv,nf]
 ·exact λe=>hq (by rw[e];exact ln)
 ·exact λe=>hq (by rw[e];exact gd _ ln)
 ·exact λh=>hq (gd _ (gd _ h))
 obtain⟨q,arj,A7,j8,rfl⟩:=ay;refine .any λcA=>.mk λx al=>.ret ⟨⟨x,t,r,m,q⟩,rfl,?_⟩;simp only at al⊢;have RY:x≠q:=λe=>al (by rw[e];exact ln);have R1:x≠r:=λe=>al (by rw[e];exact gd _ ln);have ark:x≠m:=λe=>al (by rw[e];exact gd _ (gd _ ln));have h0:x∉dB bL:=λh=>al (gd _ (gd _ (gd _ h)));have oI:∀z,DN ⟨x,t,r,m,q⟩ z->z∉dB bL:=λz cy=>by
  rcases cy with rfl|rfl|rfl|rfl
  ·exact h0
  ·exact Dv
  ·exact hm
  exact j8
 have hold:∀z fm cP bE aJ,z∈dB bL->pat ((x,fm)::(q,cP)::(r,bE)::(m,aJ)::bL) z=pat bL z:=λz fm cP bE aJ cy=>by
  rw[kJ,bn (λe:x=z=>h0 (by rw[e];exact cy)),kJ,bn (λe:q=z=>j8 (by rw[e];exact cy)),kJ,bn (λe:r=z=>Dv (by rw[e];exact cy)),kJ,bn (λe:m=z=>hm (by rw[e];exact cy))]
 obtain⟨ace,e6,own,g1,g2,g3⟩:=h1.cell;have i1:=jG (vL g1);have i2:=jG (xw g2);have ii:∀k,k<4->∀z,own k z->z∈dB bL:=λk hk z cy=>by obtain⟨_,_,b2⟩:=g3.has k hk;exact b2.pg z cy
 refine⟨⟨cA.1,cA.2,?_⟩,⟨⟨ace,e6,own,?_,?_,g3.congr (λz cy=>?_) λk hk z cy=>hold z _ _ _ _ (ii k hk z cy),⟨λh=>oI _ h i1,λh=>oI _ h i2⟩,λk hk z cy h=>oI z h (ii k hk z cy)⟩,λz cy=>?_⟩,⟨?_,[],?_,.nil,λt=>?_⟩,⟨(default:iV).hT,?_,λj aC=>?_⟩⟩
 ·unfold gQ;rw[kJ,br I]
 ·rw[Fs (hold t _ _ _ _ i1)];exact g1
 ·rw[Ft (hold ace _ _ _ _ i2)];exact g2
 ·exact gd _ (gd _ (gd _ (gd _ cy)))
 ·rcases cy with rfl|rfl|rfl|rfl
  ·exact ln
  ·exact gd _ (gd _ ln)
  ·exact gd _ (gd _ (gd _ ln))
  exact gd _ ln
 ·unfold pF;rw[kJ,bn R1,kJ,bn arj,kJ,br I]
 ·unfold pG;rw[kJ,bn ark,kJ,bn A7,kJ,bn Hj,kJ,br I]
 ·rw[br ⟨rfl,rfl⟩];rfl
 ·unfold ox;rw[kJ,bn RY,kJ,br I]
 show cu (default:Vector Int 6) j=0;have:j=0∨j=1∨j=2:=by omega
 rcases this with rfl|rfl|rfl <;> rfl
section
variable{s:aS}{hp:aH Cell}{P:rJ}{ls de:Nat->aa aK}{next:Int}{bT:aa fb}{rG:Nat}
end
section
variable{s:aS}{hp:aH Cell}{P:rJ}{ls de:Nat->aa aK}{next:Int}{bT:aa fb}{rG:Nat}
variable{A B:cz->Int}{N:Int->Int}
end
section
variable{s:aS}{hp:aH Cell}{P:rJ}{ls de:Nat->aa aK}{next:Int}{bT:aa fb}{rG:Nat}
def V8(h:ew s hp P de next bT):Bu hp (some P.x)=some (some P.t):=by
 obtain⟨a,b,h1⟩:=h.st;refine bN.get ?_;unfold Bu;exact .cond (λak=>by cases ak) λ_=>.eq rfl (.eq h1 (.ret rfl))
def ajJ(h:ew s hp P de next bT):EC hp (some P.x)=some next:=by
 refine bN.get ?_;unfold EC;exact .eq (V8 h) (.eq (aiD h.jJ.ok) (.ret I))
end
def yX:cz->cz->Int:=kl (λx y=>iJ x.cw y.cw) (kl (λx y=>iJ x.k3 y.k3) (λx y=>iJ (kt x.bV) (kt y.bV)))
def Zh:mA yX:=(r4.on λx:cz=>x.cw).kl ((r4.on λx:cz=>x.k3).kl (r4.on λx:cz=>kt x.bV))
def aiI{x y:cz}(h:yX x y=0):x=y:=by
 obtain⟨h1,ad⟩:=WJ h;obtain⟨ad,ay⟩:=WJ ad;have au:=Ku.1 h1;have aW:=Ku.1 ad;have cF:=XX (Ku.1 ay);obtain⟨a,b,c⟩:=x;obtain⟨hL,b',jz⟩:=y;simp only at au aW cF;subst au aW cF;rfl
def amv{l:aa Int}(ao:l.length<=1000):Fj l=some (oz l):=by
 refine bN.get ?_;unfold Fj;refine .bind (P:=λe=>(∃q,e=.inl q∧oz l=0)∨∃q:Int×Int×Int×Bool×Bool,e=.inr q∧q.1=oz l)
  (bN.qz l.length (λj st=>st=(j:Int)∧oz l=oz (l.drop j)) (by omega) ⟨rfl,rfl⟩ (λj st aC hs=>?_) (λst hs=>?_)) λe he=>?_
 ·obtain⟨rfl,hs⟩:=hs;rw[vf aC]at hs;have hs:oz l=if l[j]=0 then oz (l.drop (j+1))else l[j]:=hs;refine .cond (λ_=>.idx I aC ?_) λak=>by simp at ak;omega
  rw[fQ _ aC];refine .cond (λak=>.ret (.inr ⟨_,rfl,?_⟩)) λak=>.ret ⟨hl (by omega),?_⟩
  ·have:l[j]≠0:=by simpa using ak
   rw[hs,bn this]
  have:l[j]=0:=by simpa using ak
  rw[hs,br this]
 ·obtain⟨rfl,hs⟩:=hs;refine .cond (λak=>by simp at ak) λ_=>.ret (.inl ⟨_,rfl,?_⟩);rw[hs,w9];rfl
 rcases he with⟨q,rfl,hq⟩|⟨q,rfl,hq⟩
 ·simp only[Sum.elim_inl];exact .ret hq.symm
 simp only[Sum.elim_inr];exact .ret hq
def ajK(a b:iv):Ew a b=some (yX a.hj b.hj):=by
 unfold Ew;rw[vN,vN,PV];simp only[Option.bind_some];rw[amv (by simp)];simp only[Option.bind_some,oz,yX,kl];congr 1;split
 ·split
  ·split
   ·rename_i h;exact h.symm
   rfl
  rfl
 rfl
structure Tn(T:List cz)(N M:List Int)(A B:cz->Int):Prop where
 asN:T.Pairwise (λa b=>yX a b<0)
 mem:∀x,x∈T↔¬(A x=0∧B x=0)
 n:N=T.map A
 m:M=T.map B
def PY{α β:Type}[DecidableEq α]:∀{l:aa (α×β)} {x:α} {v:β},oN l->(x,v)∈l->dz l x=some v
 | (k,w)::r,x,v,hk,h=>by
   obtain⟨h1,ad⟩:=nQ.1 hk;show(if x=k then some w else dz r x)=some v;rcases dO.1 h with e|h
   ·cases e;exact br I
   have:k≠x:=h1 (x,v) h;rw[bn (zp this)];exact PY ad h
def ajL{s:aS}{hp:aH Cell}{p m:Nat}{A B:cz->Int}(h:mY s hp p m A B)(hlen:∀kv,pG hp m=some kv->kv.length<=1000):
 cv (E5 hp (some p)) (λr=>r.2=hp∧r.1.length<=1000∧Tn (r.1.map (·.hj)) (r.1.map (·.xo)) (r.1.map (·.xm)) A B):=by
 obtain⟨em,ad,jI,bF⟩:=h.map
 have u0:=hlen em ad
 let F:Nat->iv:=λq=>⟨(aB em q).1,(aB em q).2.ql,(aB em q).2.qk⟩
 have x4:∀vis,Met em.length vis->(∀j,j<em.length->j∈vis)->(vis.map F).Perm (em.map λx=>(⟨x.1,x.2.ql,x.2.qk⟩:iv)):=λvis ba a7=>by
  refine((ba.perm a7).map _).trans ?_;rw[show(List.range em.length).map F=((List.range em.length).map (λq=>aB em q)).map (λx=>(⟨x.1,x.2.ql,x.2.qk⟩:iv)) by rw[xd];rfl,V4]
 unfold E5
 refine .cond (λak=>by cases ak) λ_=>.eq rfl (.eq h.cell (.eq (a:=m) I (.eq ad ?_)))
 refine .bind (P:=λe=>e.2.2.Perm (em.map λx=>(⟨x.1,x.2.ql,x.2.qk⟩:iv))) (cv.loop em.length (λj st=> ∃vis,st=(vis,vis.map F)∧vis.length=j∧Met em.length vis) (by omega) ⟨[],rfl,rfl,.nil,by simp⟩ (λj st aC hs=>?_) (λst hs=>?_)) λe he=>?_
 ·obtain⟨vis,rfl,ss,ba⟩:=hs
  refine .next λo aU=>?_
  cases o with
  |none=>exact .cond (λak=>by cases ak) λ_=>.ret (x4 vis ba aU)
  | some q=>
    refine .cond (λ_=>.eq I (.eq I (.eq (kb _ _ (by simp;omega) (by omega)) (.ret ⟨vis++[q],?_,by simp[ss],ba.more aU⟩)))) λak=>by cases ak
    rw[vl];rfl
 ·obtain⟨vis,rfl,ss,ba⟩:=hs
  refine .next λo aU=>?_
  cases o with
  |none=>exact .cond (λak=>by cases ak) λ_=>.ret (x4 vis ba aU)
  |some q=>exact absurd (ba.full ss aU.1) aU.2
 have hle:=he.length_eq
 rw[kY]at hle
 refine .bind (cv.vP (c:=λa b=>yX a.hj b.hj) ⟨λx y=>Zh.neg _ _,λx y z=>Zh.mz _ _ _⟩ (by omega) λa _ b _=>ajK a b) λy hy=>.ret ?_
 have cC:y.Perm (em.map λx=>(⟨x.1,x.2.ql,x.2.qk⟩:iv)):=hy.1.trans he
 have tO:(y.map (·.hj)).Perm (em.map (·.1)):=by
  have:=cC.map (·.hj);rwa[xd]at this
 have hm:∀c∈y,∃x∈em,c=⟨x.1,x.2.ql,x.2.qk⟩:=λc ak=>by
  obtain⟨x,al,e⟩:=gY.1 (cC.mem_iff.1 ak);exact⟨x,al,e.symm⟩
 have ba:∀x∈em,¬(A x.1=0∧B x.1=0)∧x.2=⟨A x.1,B x.1⟩:=λx al=>by
  have fp:=bF x.1;rw[PY jI al]at fp;split at fp
  ·cases fp
  rename_i cy;exact⟨cy,uc fp⟩
 have ij:(y.map (·.hj)).Nodup:=tO.nodup_iff.2 (Eg.2 jI)
 refine⟨rfl,(by have:=cC.length_eq;rw[kY]at this;show y.length<=1000;omega),⟨?_,λx=>?_,?_,?_⟩⟩
 ·have dW:(y.map (·.hj)).Pairwise (λa b=>yX a b<=0):=Eg.2 hy.2
  refine(dW.and ij).imp λ{a b} arl=>?_
  have:yX a b≠0:=λe=>arl.2 (aiI e)
  omega
 ·rw[tO.mem_iff,gY]
  constructor
  ·rintro ⟨z,cy,rfl⟩;exact(ba z cy).1
  intro al
  have fp:=bF x
  rw[bn al]at fp
  exact⟨_,Pr fp,rfl⟩
 ·rw[xd]
  refine D6 λc ak=>?_
  obtain⟨x,al,rfl⟩:=hm c ak
  exact ec kx.ql (ba x al).2
 rw[xd]
 refine D6 λc ak=>?_
 obtain⟨x,al,rfl⟩:=hm c ak
 exact ec kx.qk (ba x al).2
def aiJ(s:aS)(e:bp):(hK s e).length<=1:=by unfold hK;split <;> simp
def ahu{s:aS}(aD:kf s)(L:aa aK)(t:cz):0<=jb s L t∧jb s L t<=4*L.length:=by
 have h1:=Cf (f:=λi:aK=>gK s i.bb) (n:=4) (λi=>Kw aD _) L;have ad:=Ip (a:=t) (l:=L.flatMap λi=>gK s i.bb);unfold jb;omega
def X2{α:Type}[DecidableEq α]:∀{l l':aa α},l.Nodup->(∀x∈l,x∈l')->l.length<=l'.length
 |[],_,_,_=>by simp
 | x::r,l',aI,hs=>by
   obtain⟨h1,ad⟩:=lQ.1 aI;have al:=hs x ln;have ay:=X2 ad (l':=l'.erase x) λy hy=>(TS (λe=>h1 (by rw[<-e];exact hy))).2 (hs y (gd _ hy));have aR:=Tx al;have aX:=TG al;rw[List.length_cons];omega
section
variable{s:aS}{hp:aH Cell}{P:rJ}{de:Nat->aa aK}{next:Int}{bT:aa fb}
def ajM(aD:kf s)(h:ew s hp P de next bT)(c5:(c0 de).length<=48):∀kv,pG hp P.m=some kv->kv.length<=1000:=λkv u2=>by
 obtain⟨sv,h1,ad,ay⟩:=h.iQ.map;rw[h1]at u2;cases u2;have aR:=X2 (l:=kv.map (·.1)) (l':=((c0 de).flatMap λi=>gK s i.bb)++((c0 de).flatMap λi=>hK s i.bb)) (Eg.2 ad) λt bw=>by
  obtain⟨x,al,rfl⟩:=gY.1 bw;have aX:=ay x.1;rw[PY ad al]at aX;split at aX
  ·cases aX
  rename_i cy;refine ca.2 (MO λe9=>cy ?_);simp only[zr]at e9;unfold jb ie;rw[Ub.2 e9.1,Ub.2 e9.2];exact⟨rfl,rfl⟩
 have aX:=Cf (f:=λi:aK=>gK s i.bb) (n:=4) (λi=>Kw aD _) (c0 de);have bh:=Cf (f:=λi:aK=>hK s i.bb) (n:=1) (λi=>aiJ s _) (c0 de);rw[kY,fh]at aR;omega
def X3(aD:kf s)(h:ew s hp P de next bT)(rD:(c0 de).length<=48):
 cv (y6 hp (some P.x)) (λr=>r.2=hp∧r.1.length<=1000∧∃T N M,Tn T N M (jb s (c0 de)) (ie s (c0 de))∧r.1=T.filter λx=>decide (ie s (c0 de) x=0)):=by
 obtain⟨a,b,h1⟩:=h.st
 unfold y6 IG
 refine .cond (λak=>by cases ak) λ_=>.eq rfl (.eq h1 (.bind (P:=λr=>r.2=hp∧r.1.length<=1000∧∃T N M,Tn T N M (jb s (c0 de)) (ie s (c0 de))∧r.1=T.filter λx=>decide (ie s (c0 de) x=0)) (.bind (ajL h.iQ (ajM aD h rD)) λz cy=>?_) λr aD=>.ret aD))
 obtain⟨z,hp'⟩:=z
 obtain⟨rfl,Md,cy⟩:=cy
 simp only at cy Md
 have u0:∀c∈z,c.xo=jb s (c0 de) c.hj∧c.xm=ie s (c0 de) c.hj:=λc ak=>by
  have g1:=cy.n;have g2:=cy.m;rw[xd]at g1 g2;exact⟨List.map_inj_left.1 g1 _ ak,List.map_inj_left.1 g2 _ ak⟩
 have apv:∀c∈z,((decide (c.xo>0))&&(c.xm==0))=decide (ie s (c0 de) c.hj=0):=λc ak=>by
  obtain⟨g1,g2⟩:=u0 c ak;have g3:=(cy.mem c.hj).1 (gY.2 ⟨c,ak,rfl⟩);have g4:=ahu aD (c0 de) c.hj;rw[g1,g2,oo];simp only[gq,fM,oT];omega
 have l5:((z.map (·.hj)).filter λx=>decide (ie s (c0 de) x=0))=(z.filter λc=>decide (ie s (c0 de) c.hj=0)).map (·.hj):=by rw[List.filter_map];rfl
 refine .l2 (P:=λe=>e.2.2=(z.filter λc=>decide (ie s (c0 de) c.hj=0)).map (·.hj)) (bN.qz z.length (λi st=>st=((i:Int),((z.take i).filter λc=>decide (ie s (c0 de) c.hj=0)).map (·.hj))) (by omega) I (λi st ax cD=>?_) λst cD=>?_) λe he=>.ret ⟨rfl,?_,_,_,_,cy,he.trans l5.symm⟩
 ·subst cD
  have hle:(((z.take i).filter λc=>decide (ie s (c0 de) c.hj=0)).map (·.hj)).length<=1000:=by
   rw[kY];exact pv (Bo _ _) (by rw[fy];omega)
  refine .cond (λ_=>.idx I ax (.eq I ?_)) λak=>by simp at ak;omega
  rw[apv _ (Kh ax),Ol _ ax,vg,vl]
  refine .bind (P:=λm=>m=((z.take i).filter λc=>decide (ie s (c0 de) c.hj=0)).map (·.hj)++([aB z i].filter λc=>decide (ie s (c0 de) c.hj=0)).map (·.hj)) (.cond (λak=>.eq (kb _ _ (by simp only[List.length_cons,List.length_nil];omega) (by omega)) (.ret ?_)) λak=>.ret ?_) λm hm=>.ret (by rw[hm,hl (by omega)])
  ·rw[Bl (by simpa using ak)];rfl
  rw[w1 (by simpa using ak)];simp
 ·subst cD
  refine .cond (λak=>by simp at ak) λ_=>.ret ?_
  show((z.take z.length).filter _).map _=_
  rw[nf]
 show e.2.2.length<=1000
 rw[he,kY];exact pv (Bo _ _) Md
end
def sl(i:Nat):aK:= {bb:=mB i,cI:=(i:Int)+1,fV:=1}
def ik(n:Nat):Nat->aa aK:=hX (λ_=>[]) 0 ((List.range n).map sl)
def ahv:ik 0=λ_=>[]:=by funext j;unfold ik hX;split <;> rfl
def uA(n:Nat):ik n 0=(List.range n).map sl:=vA
def FQ(n:Nat):c0 (ik n)=(List.range n).map sl:=by
 unfold c0;rw[uA,show ik n 1=[]from kK (by decide),show ik n 2=[]from kK (by decide),show ik n 3=[]from kK (by decide),ma,ma,ma]
def Px(n:Nat):(c0 (ik n)).length=n:=by rw[FQ,kY,Bx]
def ahw(n:Nat):hX (ik n) 0 (ik n 0++[sl n])=ik (n+1):=by
 rw[uA];unfold ik;rw[J9,EA,vl];rfl
def arn:∀a b:Fin 16,ir (mB a.1) (mB b.1)=decide (a.1=b.1):=by decide +kernel
def Ky{n:Nat}{i:aK}(h:i∈(List.range n).map sl):∃j,j<n∧i=sl j:=by
 obtain⟨j,h1,ad⟩:=gY.1 h;exact⟨j,lq.1 h1,ad.symm⟩
def apw{n:Nat}(h:n<16):eT (ik n 0) (mB n)=none:=by
 rw[uA];unfold eT;refine Iw.2 λi ax=>?_;obtain⟨j,aC,rfl⟩:=Ky ax;rw[show ir (sl j).bb (mB n)=decide (j=n)from arn ⟨j,by omega⟩ ⟨n,h⟩];simp;omega
def aay(i:Nat):uH (mB i):=λh=>by rcases h with h|h <;> cases h
section
variable{s:aS}{hp:aH Cell}{P:rJ}{de:Nat->aa aK}{next:Int}{bT:aa fb}
def apx(aD:kf s)(i:Nat):gK s (mB i)=[]:=by
 unfold gK;refine Tz.2 λr AU=>?_;have h:=aD.refs r AU;unfold p8;rw[bn];intro b2;have bw:r.cw=(1:Int):=b2;rcases h.2.2 with h|h|h|h <;> (have:=h.1;omega)
def amw(hs:c6 s)(aD:kf s)(hb:uM s)(bw:(aB s.bH 0).hD=ByteArray.mk #[]){i:Nat}(ax:i<10)(cy:(i:Int)<(aB s.bH 0).gH)(h:ew s hp P (ik i) ((i:Int)+1) bT)(aC:bT.length<=i):
 cv (ni hp (some P.x) s 1 ⟨1,mB i⟩) (λr=>r.1=0∧∃js',js'.length<=i+1∧ew s r.2 P (ik (i+1)) ((i:Int)+1+1) js'):=by
 have kF:=Px i
 have yb:kD (c0 (ik i)) 1<=(i:Int):=by
  have ay:(c0 (ik i)).countP (λi=>i.fV==1)<=_:=Il;unfold kD;omega
 have mr:room s (kD (c0 (ik i))) 1=true:=by
  show decide (kD (c0 (ik i)) 1<(aB s.fj 0).kd)=true;rw[aD.all];exact vo (by omega)
 unfold ni
 refine .eq (afY hs hb bw ax) (.cond (λak=>by cases ak) λ_=>.cond (λ_=>.bind (WR hs aD h (CM aD (by omega) (by omega)) (k:=0) (by decide) (Zc hs (by omega)) (aay i) 1 (λx al=>?_) (by rw[uA,kY,Bx];omega) ⟨by omega,by omega⟩) λr dW=>.ret ?_) λak=>by cases ak)
 ·rw[uA]at al
  obtain⟨j,aC,rfl⟩:=Ky al
  show(j:Int)+1<i+1
  omega
 rw[bn (by rw[apw (by omega)];simp),bn (by rw[uA,kY,Bx];omega),br mr]at dW
 obtain⟨vd,g8⟩:=dW
 have hp:=WM (ls:=ik i) (k:=0) (by decide) (sl i)
 have g:=g8.to (J3.trans (J1 hp)) (J4.trans (J2 hp)) (Kb.trans (Ka hp))
 rw[show({bb:=mB i,cI:=(i:Int)+1,fV:=1}:aK)=sl i from rfl,ahw]at g
 exact⟨vd,_,by rw[fh];simp;omega,g⟩
def amx(hs:c6 s)(aD:kf s)(hb:uM s)(bw:(aB s.bH 0).hD=ByteArray.mk #[])(h:ew s hp P (ik 1) 2 bT)(aC:bT.length<=1):
 cv (ni hp (some P.x) s 1 ⟨3,{mB 0 with dP:=0}⟩) (λr=>r.1=0∧∃js',js'.length<=2∧ew s r.2 P (ik 0) 2 js'):=by
 have hC:=Zc hs (w:=0) (by decide)
 unfold ni
 refine .eq (afZ hs hb bw) (.cond (λak=>by cases ak) λ_=>.cond (λak=>by cases ak) λ_=>.cond (λak=>by cases ak) λ_=>.bind (WS hs aD h (CM aD (by rw[Px];decide) (by omega)) (k:=0) (by decide) (e:= {mB 0 with dP:=0}) ⟨hC.lF,hC.len,hC.A2,hC.args,hC.pri⟩ λx al=>?_) λr dW=>.ret ?_)
 ·rw[uA]at al
  obtain⟨j,aC,rfl⟩:=Ky al
  refine⟨aay j,rfl,?_⟩
  rw[FQ]
  show(0:Int)<kD ((List.range 1).map sl) 1
  decide
 rw[show eT (ik 1 0) {mB 0 with dP:=0} =some (sl 0) by rw[uA];kernel_rfl]at dW
 obtain⟨vd,g8⟩:=dW
 have A9:hQ (ik 1 0) {mB 0 with dP:=0} =[]:=by rw[uA];kernel_rfl
 rw[A9]at g8
 have ao:hX (ik 1) 0 []=ik 0:=by unfold ik;rw[J9];rfl
 rw[ao]at g8
 have bL:(c0 (ik 0)++[sl 0]).Perm (c0 (ik 1)):=by rw[FQ,FQ];exact .refl _
 exact⟨vd,_,by rw[fh];simp;omega,g8.to (OZ bL) (O0 bL) (Pd bL)⟩
def aiK(aD:kf s){l:aa cB}(de:Nat->Nat->aa aK)(qe:Nat->Int)(ao:(l.length:Int)<=s.nk)(fp:s.nk<=9)(h:ew s hp P (de 0) (qe 0) [])
 (step:∀i hp' bT,i<l.length->bT.length<=i->ew s hp' P (de i) (qe i) bT->cv (ni hp' (some P.x) s 1 (aB l i)) (λr=>r.1=0∧∃js',js'.length<=i+1∧ew s r.2 P (de (i+1)) (qe (i+1)) js'))
 (aI:(c0 (de l.length)).length<=48) (hd:∀i∈c0 (de l.length),gK s i.bb=[]):
 cv (rR hp (some P.x) s 1 l) (λr=>r.1=0∧r.2.1=0∧ew s r.2.2 P (de l.length) (qe l.length) []):=by
 obtain⟨a0,rI,bu⟩:=h.st
 unfold rR
 refine .cond (λak=>by simp only[fM]at ak;omega) λ_=>.eq (a:=P.x) I (.eq bu (.eq (a:=0) I ?_))
 refine .bind (P:=λe=> ∃q:Int×Bool×aH Cell,e=.inl q∧∃bT,ew s q.2.2 P (de l.length) (qe l.length) bT) (cv.loop l.length (λi st=>st.1=(i:Int)∧∃bT,bT.length<=i∧ew s st.2 P (de i) (qe i) bT) (by omega) ⟨rfl,[],iu 0,h⟩ (λi st ax cD=>?_) λst cD=>?_) λe he=>?_
 ·obtain⟨x,hp'⟩:=st
  obtain⟨au,bT,aC,g⟩:=cD
  simp only at au g;subst au
  refine .cond (λ_=>.idx I ax (.bind (step i hp' bT ax aC g) λy hy=>?_)) λak=>by simp only[mC]at ak;omega
  obtain⟨aW,js',wD,dm⟩:=hy
  rw[aW]
  exact .cond (λak=>by cases ak) λ_=>.ret ⟨hl (by omega),js',wD,dm⟩
 ·obtain⟨x,hp'⟩:=st
  obtain⟨au,bT,aC,g⟩:=cD
  simp only at au g;subst au
  exact .cond (λak=>by simp at ak) λ_=>.ret ⟨_,rfl,bT,g⟩
 obtain⟨q,rfl,bT,g⟩:=he
 simp only[Sum.elim_inl]
 refine .bind (X3 aD g aI) λbd ay=>?_
 obtain⟨bd,hp'⟩:=bd
 obtain⟨rfl,_,T,N,M,tO,cF⟩:=ay
 simp only at cF
 have ev:∀t,jb s (c0 (de l.length)) t=0:=λt=>by
  unfold jb;rw[Tz.2 hd];rfl
 have fv:bd=[]:=by
  rw[cF];refine MW.2 λt bw hb=>?_;exact(tO.mem t).1 bw ⟨ev t,w8 hb⟩
 subst fv
 obtain⟨bS,c1,h1⟩:=g.st
 refine .cond (λak=>by cases ak) λ_=>.bind (P:=λr=>ew s r P (de l.length) (qe l.length) []) ?_ λr aD=>.ret ⟨rfl,rfl,aD⟩
 unfold sM
 exact .cond (λak=>by cases ak) λ_=>.eq (a:=P.x) I (.eq h1 (.eq I (.any λq=>.eq I (.ret (g.HP q.1 q.2)))))
def Xr(hs:c6 s)(h:ew s hp P de next bT)(ao:∀k,k<4->(de k).length<=48):cv (BJ hp (some P.x)) (λr=>r.2=hp∧r.1.length=(c0 de).length):=by
 unfold BJ;refine .eq (V8 h) (.bind (P:=λr=>r.2=hp∧r.1.length=(c0 de).length) ?_ λr aD=>.ret aD);have cD:=h.jJ.ok;obtain⟨m,e6,own,h1,ad,ay⟩:=cD.cell;unfold Jr;refine .cond (λak=>by cases ak) λ_=>.eq rfl (.eq h1 ?_);refine .bind (P:=λe=>e.2.2.2=hp∧e.2.2.1.length=(GP de 4).length) (cv.loop 4 (λk st=> ∃out,st=((k:Int),out,hp)∧out.length=(GP de k).length∧out.length<=48*k) (by decide) ⟨[],rfl,rfl,by simp⟩ (λk st hk RC=>?_) (λst RC=>?_)) λe he=>.ret ⟨he.1,?_⟩
 ·obtain⟨out,rfl,bL,cN⟩:=RC;have aro:=(hs.lF hk).1;have AV:=hs.pO;refine .cond (λ_=>?_) λak=>by simp only[mC]at ak;omega
  refine .idx (k:=k) I (by show k<s.bH.length;omega) ?_;show cv (ai.bind (EX hp (some P.t) (aB s.bH k).cd) λan=>_) _;rw[aro];obtain⟨q,ps,g1,g2⟩:=Ps cD hk;have en:=ao k hk;unfold EX;refine .bind (P:=λr=>r.2=hp∧r.1.length=(de k).length) (.eq g1 (.bind (amu hs hk g2 (by omega)) λr aD=>.ret ⟨aD.1,aD.2.1.length_eq⟩)) λan bs=>?_;obtain⟨T,hp'⟩:=an;obtain⟨au,aW⟩:=bs;simp only at au aW;subst au;refine .eq (kb _ _ (by simp only;omega) (by omega)) (.ret ⟨_,by rw[hl (by omega)],?_,?_⟩)
  ·rw[fh];unfold GP;rw[fh];simp only;omega
  rw[fh];simp only;omega
 ·obtain⟨out,rfl,bL,_⟩:=RC;have AV:=hs.pO;refine .cond (λak=>?_) λ_=>.ret ⟨rfl,bL⟩;have ak:decide ((4:Int)<(s.bH.length:Int))=true:=ak;rw[AV]at ak;cases ak
 rw[he.2];unfold c0;simp[GP]
end
def ajN(n:Nat)(h:n<=48):∀k,k<4->(ik n k).length<=48:=λk hk=>by
 by_cases e:k=0
 ·subst e;rw[uA,kY,Bx];exact h
 rw[show ik n k=[]from kK e];simp
def ajO{s:aS}(aD:kf s)(n:Nat):∀i∈c0 (ik n),gK s i.bb=[]:=λi ax=>by
 rw[FQ]at ax;obtain⟨j,_,rfl⟩:=Ky ax;exact apx aD j
def agN(hp:aH Cell):cv (Fi hp) (λr=>r.1=true):=by
 have p1:=(PQ [] 0 (by decide) (by decide)).of_eq Ql;have hs:c6 sx:=ajE;have aD:kf sx:=VA DD _ KS;have hb:uM sx:=afC DD p1 _ KS;have bw:(aB sx.bH 0).hD=ByteArray.mk #[]:=by kernel_rfl
 have cy:(2:Int)<=(aB sx.bH 0).gH:=by decide +kernel
 unfold Fi;refine .eq Ql (.eq KS ?_);show cv (ai.bind (zo hp sx) _) _;refine .bind (Zg hs aD hp) λbd ay=>?_;obtain⟨P,cF,g0⟩:=ay;obtain⟨asO,hG⟩:=bd;simp only at cF g0;subst cF;refine .eq (a:=mB 0) (by kernel_rfl) (.eq (a:=(⟨3,{mB 0 with dP:=0}⟩:cB)) I ?_);rw[<-ahv]at g0;show cv (ai.bind (rR hG (some P.x) sx 1 [⟨1,mB 0⟩,⟨3,{mB 0 with dP:=0}⟩]) _) _;refine .bind (aiK aD (λi=>ik (if i=1 then 1 else 0)) (λi=>if i=0 then 1 else 2) hb.jm.1 hb.jm.2 g0 (λi hp' bT ax aC g=>?_) (by decide) (ajO aD _)) λbq aR=>?_
 ·have:i=0∨i=1:=by have:i<2:=ax;omega
  rcases this with rfl|rfl
  ·exact amw hs aD hb bw (i:=0) (by decide) (by omega) g aC
  exact amx hs aD hb bw g aC
 obtain⟨qd,fm,qK⟩:=bq;obtain⟨au,aW,g4⟩:=aR;simp only at au aW;subst au aW;have g4:ew sx qK P (ik 0) 2 []:=g4;obtain⟨a4,hB,aR⟩:=g4.st;refine .bind (P:=λr=>r.2=qK∧r.1.length=0) (.cond (λ_=>(Xr hs g4 (ajN 0 (by decide))).mono λr aD=>⟨aD.1,aD.2.trans (Px 0)⟩) λak=>by cases ak) λbM aX=>?_;obtain⟨arV,asP⟩:=bM;obtain⟨rfl,aX⟩:=aX;have aX:arV=[]:=DP aX;subst aX;exact .eq (a:=(2:Int)) (show cb true true _=_ from(br I).trans (ajJ g4)) (.eq (a:=true) I (.eq (a:=P.x) I (.eq (a:=_) (show cb true true _=some _ from(br I).trans aR) (.eq (a:=(0:Int)) I (.ret I)))))
section
variable{s:aS}{hp:aH Cell}{P:rJ}{ls de:Nat->aa aK}{next:Int}{bT:aa fb}
def aaz(hs:c6 s)(aD:kf s){k:Nat}(hk:k<4){e:bp}(kk:oU s 1 ⟨1,e⟩=some 0)(he:iB s k e)(a7:uH e)(aY:eT (ls k) e=none)(cy:((ls k).length:Int)<(aB s.bH k).gH)
 (kF:(c0 ls).length<=10) (aI:1<=next∧next<=100) (x6:∀i∈ls k,i.cI<next) (h:ew s hp P ls next bT) (aC:bT.length<=10):
 cv (ni hp (some P.x) s 1 ⟨1,e⟩) (λr=>r.1=0∧ew s r.2 P (hX ls k (ls k++[⟨e,next,1⟩])) (next+1) (bT++[⟨.tr (some P.x) ⟨e,next,1⟩ next 1⟩])):=by
 have yb:kD (c0 ls) 1<=10:=by
  have ay:(c0 ls).countP (λi=>i.fV==1)<=_:=Il;unfold kD;omega
 have mr:room s (kD (c0 ls)) 1=true:=by
  show decide (kD (c0 ls) 1<(aB s.fj 0).kd)=true;rw[aD.all];exact vo (by omega)
 have en:(ls k).length<=10:=by
  have:k=0∨k=1∨k=2∨k=3:=by omega
  unfold c0 at kF;simp only[fh]at kF;rcases this with rfl|rfl|rfl|rfl <;> omega
 unfold ni
 refine .eq kk (.cond (λak=>by cases ak) λ_=>.cond (λ_=>.bind (WR hs aD h (CM aD (by omega) (by omega)) hk he a7 1 x6 (by omega) ⟨by omega,by omega⟩) λr dW=>.ret ?_) λak=>by cases ak)
 rw[bn (by rw[aY];simp),bn (by omega),br mr]at dW
 obtain⟨vd,g8⟩:=dW
 have hp:=WM (ls:=ls) hk (⟨e,next,1⟩:aK)
 exact⟨vd,g8.to (J3.trans (J1 hp)) (J4.trans (J2 hp)) (Kb.trans (Ka hp))⟩
def aaA(hs:c6 s)(aD:kf s){k:Nat}(hk:k<4){e:bp}{i:aK}(kk:oU s 1 ⟨3,e⟩=some 0)(he:iB s k e)(aY:eT (ls k) e=some i)(ao:∀j∈ls k,uH j.bb∧j.fV=1)
 (kF:(c0 ls).length<=10) {l':aa aK} (A9:hQ (ls k) e=l') (j7:(c0 (hX ls k l')++[i]).Perm (c0 ls)) (h:ew s hp P ls next bT) (aC:bT.length<=10):
 cv (ni hp (some P.x) s 1 ⟨3,e⟩) (λr=>r.1=0∧ew s r.2 P (hX ls k l') next (bT++[⟨.ts (some P.x) i⟩])):=by
 subst A9
 unfold ni
 refine .eq kk (.cond (λak=>by cases ak) λ_=>.cond (λak=>by cases ak) λ_=>.cond (λak=>by cases ak) λ_=>.bind (WS hs aD h (CM aD (by omega) (by omega)) hk he λx al=>?_) λr dW=>.ret ?_)
 ·obtain⟨h1,ad⟩:=ao x al
  exact⟨h1,by rw[ad];rfl,WT (aho.2 ⟨k,hk,al⟩)⟩
 rw[aY]at dW
 obtain⟨vd,g8⟩:=dW
 exact⟨vd,g8.to (OZ j7) (O0 j7) (Pd j7)⟩
def X4(aD:kf s)(h:ew s hp P de next bT)(aI:(c0 de).length<=10):cv (y6 hp (some P.x)) (λr=>r.2=hp∧(r.1=[]↔∀t,jb s (c0 de) t≠0->ie s (c0 de) t≠0)):=by
 refine(X3 aD h (by omega)).mono λr ⟨h1,_,T,N,M,tO,cF⟩=>⟨h1,?_⟩;rw[cF,MW];constructor
 ·intro b2 t ev dE;exact b2 t ((tO.mem t).2 λak=>ev ak.1) (vo dE)
 intro b2 t bw dE;have dE:=w8 dE;exact(tO.mem t).1 bw ⟨MO λev=>b2 t ev dE,dE⟩
def Kz(aD:kf s){l:aa cB}(de:Nat->Nat->aa aK)(qe:Nat->Int)(ao:(l.length:Int)<=s.nk)(fp:s.nk<=9)(h:ew s hp P (de 0) (qe 0) [])
 (step:∀i hp' bT,i<l.length->bT.length<=i->ew s hp' P (de i) (qe i) bT->cv (ni hp' (some P.x) s 1 (aB l i)) (λr=>r.1=0∧∃js',js'.length<=i+1∧ew s r.2 P (de (i+1)) (qe (i+1)) js'))
 (aI:(c0 (de l.length)).length<=10) (hd:∀t,jb s (c0 (de l.length)) t≠0->ie s (c0 (de l.length)) t≠0):
 cv (vt hp (some P.x) s 1 l) (λr=>r.1=0∧r.2.1=0∧ew s r.2.2 P (de l.length) (qe l.length) []):=by
 obtain⟨a0,rI,bu⟩:=h.st
 unfold vt
 refine .cond (λak=>by simp only[fM]at ak;omega) λ_=>.eq (a:=P.x) I (.eq bu (.eq (a:=0) I ?_))
 refine .bind (P:=λe=> ∃q:Int×Bool×aH Cell,e=.inl q∧∃bT,ew s q.2.2 P (de l.length) (qe l.length) bT) (cv.loop l.length (λi st=>st.1=(i:Int)∧∃bT,bT.length<=i∧ew s st.2 P (de i) (qe i) bT) (by omega) ⟨rfl,[],iu 0,h⟩ (λi st ax cD=>?_) λst cD=>?_) λe he=>?_
 ·obtain⟨x,hp'⟩:=st
  obtain⟨au,bT,aC,g⟩:=cD
  simp only at au g;subst au
  refine .cond (λ_=>.idx I ax (.bind (step i hp' bT ax aC g) λy hy=>?_)) λak=>by simp only[mC]at ak;omega
  obtain⟨aW,js',wD,dm⟩:=hy
  rw[aW]
  exact .cond (λak=>by cases ak) λ_=>.ret ⟨hl (by omega),js',wD,dm⟩
 ·obtain⟨x,hp'⟩:=st
  obtain⟨au,bT,aC,g⟩:=cD
  simp only at au g;subst au
  exact .cond (λak=>by simp at ak) λ_=>.ret ⟨_,rfl,bT,g⟩
 obtain⟨q,rfl,bT,g⟩:=he
 simp only[Sum.elim_inl]
 refine .bind (X4 aD g aI) λbd ay=>?_
 obtain⟨bd,hp'⟩:=bd
 obtain⟨rfl,cF⟩:=ay
 simp only at cF
 have fv:bd=[]:=cF.2 hd
 subst fv
 obtain⟨bS,c1,h1⟩:=g.st
 refine .cond (λak=>by cases ak) λ_=>.bind (P:=λr=>ew s r P (de l.length) (qe l.length) []) ?_ λr aD=>.ret ⟨rfl,rfl,aD⟩
 unfold sM
 exact .cond (λak=>by cases ak) λ_=>.eq (a:=P.x) I (.eq h1 (.eq I (.any λq=>.eq I (.ret (g.HP q.1 q.2)))))
def ajP{ch:fb}(h:ew s hp P de next [ch]){lb:Nat->aa aK}{nb:Int}(hu:∀hp',ew s hp' P de next []->cv (JL hp' ch.xA) (λr=>ew s r P lb nb [])):
 cv (Ea hp (some P.x) 0) (λr=>ew s r P lb nb []):=by
 unfold Ea
 refine .bind (P:=λe=>ew s e.2 P lb nb []) (cv.loop 1 (λi st=>if i=0 then ew s st P de next [ch]else ew s st P lb nb []) (by decide) h (λi st ax cD=>?_) λst cD=>?_) λe he=>.ret he
 ·have:i=0:=by omega
  subst this
  have g:ew s st P de next [ch]:=cD
  obtain⟨a,b,cD⟩:=g.st
  refine .eq (a:=P.x) I (.eq cD (.eq (a:=(1:Int)) I (.cond (λ_=>?_) λak=>by cases ak)))
  have hw:bo (((([ch]:aa fb).length:Nat):Int)-1)=((0:Nat):Int):=by rw[jr] <;> simp
  refine .idx (k:=0) hw (Nat.succ_pos 0) (.idx (k:=0) hw (Nat.succ_pos _) (.eq I (.eq I (.bind (hu _ (g.HP (js':=[]) a b)) λaF ad=>.ret ad))))
 have g:ew s st P lb nb []:=cD
 obtain⟨a,b,cD⟩:=g.st
 exact .eq (a:=P.x) I (.eq cD (.eq (a:=(0:Int)) I (.cond (λak=>by cases ak) λ_=>.ret g)))
def Xs(aD:kf s){u:cB}{lb:Nat->aa aK}{nb:Int}{ch:fb}(ad:2<=s.nk)(h:ew s hp P de next [])
 (step:cv (ni hp (some P.x) s 1 u) (λr=>r.1=0∧ew s r.2 P lb nb [ch]))
 (aI:(c0 lb).length<=10) (hd:∃t,jb s (c0 lb) t≠0∧ie s (c0 lb) t=0) (hu:∀hp',ew s hp' P lb nb []->cv (JL hp' ch.xA) (λr=>ew s r P de next [])):
 cv (rR hp (some P.x) s 1 [u]) (λr=>r.1=1∧r.2.1=20∧ew s r.2.2 P de next []):=by
 obtain⟨a0,rI,bu⟩:=h.st
 unfold rR
 refine .cond (λak=>by have ak:decide ((1:Int)>s.nk)=true:=ak;simp only[fM]at ak;omega) λ_=>.eq (a:=P.x) I (.eq bu (.eq (a:=0) I ?_))
 refine .bind (P:=λe=> ∃q:Int×Bool×aH Cell,e=.inl q∧ew s q.2.2 P lb nb [ch]) (cv.loop 1 (λi st=>st.1=(i:Int)∧if i=0 then st.2=hp else ew s st.2 P lb nb [ch]) (by decide) ⟨rfl,rfl⟩ (λi st ax cD=>?_) λst cD=>?_) λe he=>?_
 ·obtain⟨x,hp'⟩:=st
  have:i=0:=by omega
  subst this
  obtain⟨au,aW⟩:=cD
  have au:x=0:=au
  have aW:hp'=hp:=aW
  subst au aW
  refine .cond (λ_=>.idx (k:=0) I (by show 0<1;decide) (.bind step λy hy=>?_)) λak=>by cases ak
  obtain⟨aW,dm⟩:=hy
  rw[aW]
  exact .cond (λak=>by cases ak) λ_=>.ret ⟨rfl,dm⟩
 ·obtain⟨x,hp'⟩:=st
  obtain⟨au,g⟩:=cD
  have au:x=1:=au
  subst au
  exact .cond (λak=>by cases ak) λ_=>.ret ⟨_,rfl,g⟩
 obtain⟨q,rfl,g⟩:=he
 simp only[Sum.elim_inl]
 refine .bind (X4 aD g aI) λbd ay=>?_
 obtain⟨bd,hp'⟩:=bd
 obtain⟨rfl,cF⟩:=ay
 simp only at cF
 have fv:bd≠[]:=λe=>by
  obtain⟨t,h1,ad⟩:=hd;exact cF.1 e t h1 ad
 have hlen:0<bd.length:=List.length_pos_iff.2 fv
 refine .cond (λ_=>.bind (P:=λr=>ew s r P de next []) ?_ λr aD=>.ret ⟨rfl,rfl,aD⟩) λak=>by simp only[mC]at ak;omega
 unfold sM
 exact .cond (λ_=>.bind (ajP g hu) λr aD=>.ret aD) λak=>by cases ak
end
def eF(x y:aa aK):Nat->aa aK:=hX (hX (λ_=>[]) 0 x) 1 y
def r5(x y:aa aK):eF x y 0=x:=(kK (by decide)).trans vA
def uI(x y:aa aK):eF x y 1=y:=vA
def ow(x y:aa aK):c0 (eF x y)=x++y:=by
 unfold c0;rw[r5,uI,show eF x y 2=[]from(kK (by decide)).trans (kK (by decide)),show eF x y 3=[]from(kK (by decide)).trans (kK (by decide)),ma,ma]
def KT(x y z:aa aK):hX (eF x y) 0 z=eF z y:=by
 funext j;unfold eF hX;by_cases e:j=0
 ·subst e;rfl
 rw[bn e];split
 ·rfl
 rfl
def KU(x y z:aa aK):hX (eF x y) 1 z=eF x z:=J9
def aiL:eF [] []=λ_=>[]:=by
 funext j;unfold eF hX;split
 ·rfl
 split <;> rfl
def SL:eB:= {(default:eB)with cw:=2,dP:=4,nm:=1}
structure iF(s:aS)(b:Bool)(w:Nat):Prop where
 hs:c6 s
 aD:kf s
 jm:2<=s.nk∧s.nk<=9
 refs:s.dp=[SL]
 pm:Dc s b w=true
 Ic:(aB s.bH 1).bQ=lW b
 hw:w<16
def HQ(w:Nat):cz:=⟨1,0,wY w⟩
def jQ(p:Int)(w:Nat):aK:=⟨h4 w,p,1⟩
def fU(b:Bool)(q:Int)(w:Nat):aK:=⟨iU b w,q,1⟩
def aaB{i:aK}{e:bp}(h:ir i.bb e=true):eT [i] e=some i:=by unfold eT;rw[TD (p:=λi:aK=>ir i.bb e) h]
def Q9{i:aK}{e:bp}(h:ir i.bb e=true):hQ [i] e=[]:=by unfold hQ;rw[w1 (by rw[h];simp)];rfl
def KA(e:bp):ir e (gone e)=true:=zZ.2 ⟨rfl,rfl,rfl⟩
def RD(w:Nat):uH (h4 w):=λh=>by rcases h with h|h <;> cases h
def RE(b:Bool)(w:Nat):uH (iU b w):=λ_=>iu 1
section
variable{s:aS}{b:Bool}{w:Nat}{hp:aH Cell}{P:rJ}
def iF.arW(h:iF s b w):gK s (h4 w)=[]:=by unfold gK;rw[h.refs];rfl
def iF.acf(h:iF s b w):gK s (iU b w)=[HQ w]:=by unfold gK;rw[h.refs];rfl
def iF.arX(h:iF s b w):hK s (h4 w)=[HQ w]:=by unfold hK;rw[h.refs,br ⟨rfl,by simp⟩];rfl
def iF.acg(h:iF s b w):hK s (iU b w)=[]:=by unfold hK;rw[bn (λb2=>by cases b2.1)]
def iF.aaC(h:iF s b w)(p q:Int)(t:cz):jb s ([jQ p w]++[fU b q w]) t=(([HQ w].count t:Nat):Int):=by
 unfold jb;rw[show(List.flatMap (λi:aK=>gK s i.bb) ([jQ p w]++[fU b q w]))=gK s (h4 w)++(gK s (iU b w)++[])from rfl,h.arW,h.acf];rfl
def iF.aaD(h:iF s b w)(p q:Int)(t:cz):ie s ([jQ p w]++[fU b q w]) t=(([HQ w].count t:Nat):Int):=by
 unfold ie;rw[show(List.flatMap (λi:aK=>hK s i.bb) ([jQ p w]++[fU b q w]))=hK s (h4 w)++(hK s (iU b w)++[])from rfl,h.arX,h.acg];rfl
def iF.aaE(h:iF s b w)(q:Int):∃t,jb s ([]++[fU b q w]) t≠0∧ie s ([]++[fU b q w]) t=0:=by
 refine⟨HQ w,?_,?_⟩
 ·unfold jb;rw[show(List.flatMap (λi:aK=>gK s i.bb) ([]++[fU b q w]))=gK s (iU b w)++[]from rfl,h.acf];simp
 unfold ie;rw[show(List.flatMap (λi:aK=>hK s i.bb) ([]++[fU b q w]))=hK s (iU b w)++[]from rfl,h.acg];simp
def iF.sz(h:iF s b w){k:Nat}(hk:k<4):(0:Int)<(aB s.bH k).gH:=by have:=(h.hs.size hk).1;omega
def r6(x y:aa aK)(al:x.length<=1)(hy:y.length<=1):(c0 (eF x y)).length<=10:=by rw[ow,fh];omega
def iF.aaF(h:iF s b w){y:aa aK}{n:Int}{bT:aa fb}(hy:y.length<=1)(aI:1<=n∧n<=100)(aC:bT.length<=10)(g:ew s hp P (eF [] y) n bT):
 cv (ni hp (some P.x) s 1 ⟨1,h4 w⟩) (λr=>r.1=0∧ew s r.2 P (eF [jQ n w] y) (n+1) (bT++[⟨.tr (some P.x) (jQ n w) n 1⟩])):=by
 have h1:=aaz h.hs h.aD (k:=0) (by decide) (FI h.pm).1 (Q7 h.hs h.hw) (RD w) (by rw[r5];rfl) (by rw[r5];exact h.sz (by decide)) (r6 _ _ (by simp) hy) aI (λi ax=>by rw[r5]at ax;cases ax) g aC
 rw[r5,KT]at h1
 exact h1
def iF.RF(h:iF s b w){x:aa aK}{n:Int}{bT:aa fb}(al:x.length<=1)(aI:1<=n∧n<=100)(aC:bT.length<=10)(g:ew s hp P (eF x []) n bT):
 cv (ni hp (some P.x) s 1 ⟨1,iU b w⟩) (λr=>r.1=0∧ew s r.2 P (eF x [fU b n w]) (n+1) (bT++[⟨.tr (some P.x) (fU b n w) n 1⟩])):=by
 have h1:=aaz h.hs h.aD (k:=1) (by decide) (FI h.pm).2.1 (Q8 h.Ic w) (RE b w) (by rw[uI];rfl) (by rw[uI];exact h.sz (by decide)) (r6 _ _ al (by simp)) aI (λi ax=>by rw[uI]at ax;cases ax) g aC
 rw[uI,KU]at h1
 exact h1
def iF.RG(h:iF s b w){y:aa aK}{p n:Int}{bT:aa fb}(hy:y.length<=1)(aC:bT.length<=10)(g:ew s hp P (eF [jQ p w] y) n bT):
 cv (ni hp (some P.x) s 1 ⟨3,gone (h4 w)⟩) (λr=>r.1=0∧ew s r.2 P (eF [] y) n (bT++[⟨.ts (some P.x) (jQ p w)⟩])):=by
 have h1:=aaA h.hs h.aD (k:=0) (by decide) (i:=jQ p w) (l':=[]) (FI h.pm).2.2.1 (Q7 h.hs h.hw).gone (by rw[r5];exact aaB (KA _)) (λj aC=>by rw[r5]at aC;rw[gX.1 aC];exact⟨RD w,rfl⟩) (r6 _ _ (by simp) hy) (by rw[r5];exact Q9 (KA _)) (by rw[KT,ow,ow];exact nc) g aC
 rw[KT]at h1
 exact h1
def iF.aaG(h:iF s b w){x:aa aK}{q n:Int}{bT:aa fb}(al:x.length<=1)(aC:bT.length<=10)(g:ew s hp P (eF x [fU b q w]) n bT):
 cv (ni hp (some P.x) s 1 ⟨3,gone (iU b w)⟩) (λr=>r.1=0∧ew s r.2 P (eF x []) n (bT++[⟨.ts (some P.x) (fU b q w)⟩])):=by
 have h1:=aaA h.hs h.aD (k:=1) (by decide) (i:=fU b q w) (l':=[]) (FI h.pm).2.2.2.1 (Q8 h.Ic w).gone (by rw[uI];exact aaB (KA _)) (λj aC=>by rw[uI]at aC;rw[gX.1 aC];exact⟨RE b w,rfl⟩) (r6 _ _ al (by simp)) (by rw[uI];exact Q9 (KA _)) (by rw[KU,ow,ow,ma]) g aC
 rw[KU]at h1
 exact h1
def iF.c7(h:iF s b w)(g:ew s hp P (eF [] []) 1 []):cv (rR hp (some P.x) s 1 [⟨1,iU b w⟩]) (λr=>r.1=1∧r.2.1=20∧ew s r.2.2 P (eF [] []) 1 []):=by
 refine Xs h.aD (lb:=eF [] [fU b 1 w]) (nb:=2) (ch:=⟨.tr (some P.x) (fU b 1 w) 1 1⟩) h.jm.1 g (h.RF (by simp) ⟨by omega,by omega⟩ (by simp) g) (r6 _ _ (by simp) (by simp)) (by rw[ow];exact h.aaE 1) λhp' dm=>?_;have hm:fU b 1 w∈c0 (eF [] [fU b 1 w]):=by rw[ow];simp
 have kF:=r6 [] [fU b 1 w] (by simp) (by simp);show cv (Bq hp' (some P.x) (fU b 1 w) 1 (fU b 1 w).fV) _;refine(ahs h.hs h.aD dm (CM h.aD (by omega) (by simp)) (k:=1) (by decide) (i:=fU b 1 w) ⟨Q8 h.Ic w⟩ (RE b w) (j:=0) I (WT hm) 1).mono λr g2=>?_;have A9:hQ (eF [] [fU b 1 w] 1) (fU b 1 w).bb=[]:=by rw[uI];exact Q9 (FP _)
 rw[A9,KU]at g2;have bL:(c0 (eF [] [])++[fU b 1 w]).Perm (c0 (eF [] [fU b 1 w])):=by rw[ow,ow];exact .refl _
 exact g2.to (OZ bL) (O0 bL) (Pd bL)
def iF.dH(h:iF s b w)(nx:Bool)(g:ew s hp P (eF [] []) 1 []):
 cv (vt hp (some P.x) s 1 (if nx=true then [⟨1,h4 w⟩,⟨1,iU b w⟩]else [⟨1,iU b w⟩,⟨1,h4 w⟩])) (λr=>r.1=0∧r.2.1=0∧ew s r.2.2 P (eF [jQ (if nx=true then 1 else 2) w] [fU b (if nx=true then 2 else 1) w]) 3 []):=by
 cases nx with
 | true=>
   refine Kz h.aD (l:=[⟨1,h4 w⟩,⟨1,iU b w⟩]) (λi=>if i=0 then eF [] []else if i=1 then eF [jQ 1 w] []else eF [jQ 1 w] [fU b 2 w]) (λi=>(i:Int)+1) h.jm.1 h.jm.2 g (λi hp' bT ax aC dm=>?_) (r6 _ _ (by simp) (by simp)) (λt=>?_)
   ·have:i=0∨i=1:=by have:i<2:=ax;omega
    rcases this with rfl|rfl
    ·exact(h.aaF (by simp) ⟨by decide,by decide⟩ (by omega) dm).mono λr aD=>⟨aD.1,_,by rw[fh,List.length_singleton];omega,aD.2⟩
    exact(h.RF (by simp) ⟨by decide,by decide⟩ (by omega) dm).mono λr aD=>⟨aD.1,_,by rw[fh,List.length_singleton];omega,aD.2⟩
   show jb s (c0 (eF [jQ 1 w] [fU b 2 w])) t≠0->ie s (c0 (eF [jQ 1 w] [fU b 2 w])) t≠0
   rw[ow,h.aaC,h.aaD];exact λh=>h
 | false=>
   refine Kz h.aD (l:=[⟨1,iU b w⟩,⟨1,h4 w⟩]) (λi=>if i=0 then eF [] []else if i=1 then eF [] [fU b 1 w]else eF [jQ 2 w] [fU b 1 w]) (λi=>(i:Int)+1) h.jm.1 h.jm.2 g (λi hp' bT ax aC dm=>?_) (r6 _ _ (by simp) (by simp)) (λt=>?_)
   ·have:i=0∨i=1:=by have:i<2:=ax;omega
    rcases this with rfl|rfl
    ·exact(h.RF (by simp) ⟨by decide,by decide⟩ (by omega) dm).mono λr aD=>⟨aD.1,_,by rw[fh,List.length_singleton];omega,aD.2⟩
    exact(h.aaF (by simp) ⟨by decide,by decide⟩ (by omega) dm).mono λr aD=>⟨aD.1,_,by rw[fh,List.length_singleton];omega,aD.2⟩
   show jb s (c0 (eF [jQ 2 w] [fU b 1 w])) t≠0->ie s (c0 (eF [jQ 2 w] [fU b 1 w])) t≠0
   rw[ow,h.aaC,h.aaD];exact λh=>h
def iF.gE(h:iF s b w){p q:Int}(g:ew s hp P (eF [jQ p w] [fU b q w]) 3 []):cv (rR hp (some P.x) s 1 [⟨3,gone (h4 w)⟩]) (λr=>r.1=1∧r.2.1=20∧ew s r.2.2 P (eF [jQ p w] [fU b q w]) 3 []):=by
 refine Xs h.aD (lb:=eF [] [fU b q w]) (nb:=3) (ch:=⟨.ts (some P.x) (jQ p w)⟩) h.jm.1 g (h.RG (by simp) (by simp) g) (r6 _ _ (by simp) (by simp)) (by rw[ow];exact h.aaE q) λhp' dm=>?_;have kF:=r6 [] [fU b q w] (by simp) (by simp);show cv (Br hp' (some P.x) (jQ p w)) _;have yb:kD (c0 (eF [] [fU b q w])) 1<=10:=by
  have ay:(c0 (eF [] [fU b q w])).countP (λi=>i.fV==1)<=_:=Il;unfold kD;omega
 have mr:room s (kD (c0 (eF [] [fU b q w]))) (jQ p w).fV=true:=by
  show decide (kD (c0 (eF [] [fU b q w])) 1<(aB s.fj 0).kd)=true;rw[h.aD.all];exact vo (by omega)
 refine(aht h.hs h.aD dm (CM h.aD (by omega) (by simp)) (k:=0) (by decide) (i:=jQ p w) ⟨Q7 h.hs h.hw⟩ (RD w) mr (by rw[r5];rfl) (by rw[r5];decide)).mono λr g2=>?_;rw[r5,KT]at g2;have bL:(c0 (eF [] [fU b q w])++[jQ p w]).Perm (c0 (eF [jQ p w] [fU b q w])):=by rw[ow,ow];exact nc
 exact g2.to (J3.trans (J1 bL)) (J4.trans (J2 bL)) (Kb.trans (Ka bL))
def iF.DL(h:iF s b w)(nx:Bool){p q:Int}(g:ew s hp P (eF [jQ p w] [fU b q w]) 3 []):
 cv (vt hp (some P.x) s 1 (if nx=true then [⟨3,gone (h4 w)⟩,⟨3,gone (iU b w)⟩]else [⟨3,gone (iU b w)⟩,⟨3,gone (h4 w)⟩])) (λr=>r.1=0∧r.2.1=0∧ew s r.2.2 P (eF [] []) 3 []):=by
 cases nx with
 | true=>
   refine Kz h.aD (l:=[⟨3,gone (h4 w)⟩,⟨3,gone (iU b w)⟩]) (λi=>if i=0 then eF [jQ p w] [fU b q w]else if i=1 then eF [] [fU b q w]else eF [] []) (λi=>3) h.jm.1 h.jm.2 g (λi hp' bT ax aC dm=>?_) (r6 _ _ (by simp) (by simp)) (λt=>?_)
   ·have:i=0∨i=1:=by have:i<2:=ax;omega
    rcases this with rfl|rfl
    ·exact(h.RG (by simp) (by omega) dm).mono λr aD=>⟨aD.1,_,by rw[fh,List.length_singleton];omega,aD.2⟩
    exact(h.aaG (by simp) (by omega) dm).mono λr aD=>⟨aD.1,_,by rw[fh,List.length_singleton];omega,aD.2⟩
   show jb s (c0 (eF [] [])) t≠0->_
   rw[ow];exact λh=>absurd I h
 | false=>
   refine Kz h.aD (l:=[⟨3,gone (iU b w)⟩,⟨3,gone (h4 w)⟩]) (λi=>if i=0 then eF [jQ p w] [fU b q w]else if i=1 then eF [jQ p w] []else eF [] []) (λi=>3) h.jm.1 h.jm.2 g (λi hp' bT ax aC dm=>?_) (r6 _ _ (by simp) (by simp)) (λt=>?_)
   ·have:i=0∨i=1:=by have:i<2:=ax;omega
    rcases this with rfl|rfl
    ·exact(h.aaG (by simp) (by omega) dm).mono λr aD=>⟨aD.1,_,by rw[fh,List.length_singleton];omega,aD.2⟩
    exact(h.RG (by simp) (by omega) dm).mono λr aD=>⟨aD.1,_,by rw[fh,List.length_singleton];omega,aD.2⟩
   show jb s (c0 (eF [] [])) t≠0->_
   rw[ow];exact λh=>absurd I h
end
def aeO(hp:aH Cell)(ab:aa (BitVec 8))(aj:BitVec 8)(aG:Bool):cv (Ee hp ab aj aG) (λr=>r.1=true):=by
 unfold Ee;refine .l2 (PQ ab 120 (by omega) (by omega)) λan h1=>.l2 (bN.par (bN.par (Vz an h1) (VA an)) (afD an h1)) λaF ad=>?_;obtain⟨⟨⟨jg,_⟩,SM⟩,p1⟩:=ad;obtain⟨s0,c2⟩:=aF;simp only at jg SM p1⊢;have AV:=jg.pO;refine .eq (a:=SL) I (.eq (a:=s0.bH) (kb _ _ (by simp only[List.length_nil];omega) (by omega)) ?_);refine .l2 (P:=λe=>e.2.2.length=4∧e.2.2.map jZ=s0.bH.map jZ∧e.2.2.map (·.gH)=s0.bH.map (·.gH)∧∀j,j<4->(aB e.2.2 j).hD=ByteArray.mk #[])
  (bN.qz 4 (λi st=>st.1=(i:Int)∧st.2.length=4∧st.2.map jZ=s0.bH.map jZ∧st.2.map (·.gH)=s0.bH.map (·.gH)∧∀j,j<i->(aB st.2 j).hD=ByteArray.mk #[]) (by decide) ⟨rfl,AV,rfl,rfl,λj aC=>absurd aC (by omega)⟩ (λi st ax cD=>?_) λst cD=>?_) λau arp=>?_
 ·obtain⟨x,T⟩:=st;obtain⟨au,g1,g2,g3,g4⟩:=cD;simp only at au g1 g2 g3 g4;subst au;refine .cond (λ_=>.idx I (by simp only;omega) (.eq I (.ret ⟨hl (by omega),?_,?_,?_,λj aC=>?_⟩))) λak=>by simp only[mC]at ak;omega
  ·unfold ft;rw[vk];exact g1
  ·exact Cc jZ I g2
  ·exact Cc (λx:bU=>x.gH) I g3
  rw[Ce (by show i<T.length;omega)];by_cases e:j=i
  ·rw[br e]
  rw[bn e];exact g4 j (by omega)
 ·obtain⟨x,T⟩:=st;obtain⟨au,g1,g2,g3,g4⟩:=cD;simp only at au g1 g2 g3 g4;subst au;exact .cond (λak=>by simp only[fM]at ak;omega) λ_=>.ret ⟨g1,g2,g3,g4⟩
 obtain⟨i1,c7,T⟩:=au;obtain⟨arq,SN,abM,SO⟩:=arp;simp only at arq SN abM SO⊢;obtain⟨w,hw,ba⟩:∃w,w<16∧(aj % 16#8).setWidth 64=BitVec.ofNat 64 w:=⟨(aj % 16#8).toNat,by rw[BitVec.toNat_umod];exact BS _ (by decide),(BitVec.ofNat_toNat _ _).symm⟩;generalize rD:({({s0 with dp:=[SL]}:aS)with bH:=T}:aS)=S;have SP:S.bH=T:=by rw[<-rD]
 have hs:c6 S:=by
  rw[<-rD];refine⟨jg.fields,jg.headers,jg.ajr,jg.aio,?_,jg.Q4,λx al=>jg.Y3 x (by rw[<-abM];exact al)⟩;obtain⟨bS,a2,a3,e⟩:=jg.tables;exact⟨bS,a2,a3,SN.trans e⟩
 have aD:kf S:=by
  rw[<-rD];exact⟨λr AU=>by rw[gX.1 AU];exact⟨rfl,rfl,.inl ⟨rfl,rfl,rfl⟩⟩,by show 1<=4;decide,SM.quo,SM.all⟩
 have uV:∀k,k<4->rC (aB T k)=rC (aB s0.bH k):=λk hk=>by
  have au:=xp jZ (l:=T) (k:=k) (by omega);have aW:=xp jZ (l:=s0.bH) (k:=k) (by omega);rw[SN,aW]at au;unfold rC;rw[show(aB T k).cd=(aB s0.bH k).cd from(ec (·.1) au).symm,show(aB T k).bQ=(aB s0.bH k).bQ from(ec (·.2.2) au).symm]
 have ak:Db S:=by
  rw[<-rD];refine⟨p1.jm,p1.act,p1.yy,?_⟩;obtain⟨g2,g3,e⟩:=p1.yN;refine⟨g2,g3,e.trans ?_⟩;show _=[rC (aB T 0),rC (aB T 1),g2,g3];rw[uV 0 (by decide),uV 1 (by decide)]
 obtain⟨b,SQ⟩:=hs.Le;have R:iF S b w:=⟨hs,aD,ak.jm,by rw[<-rD],amt hs ak (by rw[SP];exact SO 0 (by decide)) (by rw[SP];exact SO 1 (by decide)) SQ hw,SQ,hw⟩;have ars:(aB T 1).bQ=lW b:=by rw[<-SP];exact SQ
 refine .eq I (.bind (Zg hs aD hp) λbq aR=>?_);obtain⟨P,fv,g0⟩:=aR;obtain⟨asQ,qK⟩:=bq;simp only at fv g0;subst fv;rw[<-aiL]at g0;have hu:CH aj (16#8)=some (aj % 16#8):=by unfold CH;rw[bn (by decide)]
 refine .eq hu (.eq (a:=wY w) (by rw[ba];rfl) (.eq I (.eq (a:=h4 w) I (.eq hu (.eq (a:=wY w) (by rw[ba];rfl) (.idx (k:=1) I (by omega) ?_))))));simp only[ars];refine .l2 (P:=λe=>e.2.2=(({(default:bp)with cw:=2,dP:=4,gu:=[wY w]}:bp),wZ (lW b))) (bN.qz (lW b).length (λi st=>st=((i:Int),({(default:bp)with cw:=2,dP:=4,gu:=[wY w]}:bp),wZ ((lW b).take i))) (by cases b <;> decide) I (λi st ax cD=>?_) λst cD=>?_) λaW p7=>?_
 ·subst cD;have Dt:(lW b).length<=2:=by cases b <;> decide
  refine .cond (λ_=>.idx I ax (.eq I (.eq (kb _ _ (by show(wZ _).length+1<=_;unfold wZ;rw[kY,fy];omega) (by omega)) (.ret ?_)))) λak=>by simp only[mC]at ak;omega
  rw[hl (by omega),Ol _ ax];unfold wZ;rw[vl];rfl
 ·subst cD;exact .cond (λak=>by simp at ak) λ_=>.ret (by show(_,wZ ((lW b).take (lW b).length))=_;rw[nf])
 obtain⟨i2,dH,aW⟩:=aW;simp only at p7;subst p7;refine .eq (a:=(⟨1,iU b w⟩:cB)) I (.eq I (.idx (k:=1) I (by show 1<3;decide) ?_));show cv (ai.bind (rR qK (some P.x) S 1 [⟨1,iU b w⟩]) _) _;refine .bind (R.c7 g0) λdC dW=>?_;obtain⟨n8,oG,asR⟩:=dC;obtain⟨aq,cA,g8⟩:=dW;simp only at aq cA g8;subst aq cA;refine .eq (a:=if aG=true then [⟨1,h4 w⟩,⟨1,iU b w⟩]else [⟨1,iU b w⟩,⟨1,h4 w⟩]) (by cases aG <;> rfl) (.eq I (.bind (R.dH aG g8) λga fp=>?_));obtain⟨arT,oH,asS⟩:=ga;obtain⟨aq,cA,g9⟩:=fp;simp only at aq cA g9;subst aq cA;refine .eq I (.eq (a:=gone (h4 w)) I (.bind (R.gE g9) λhh nE=>?_));obtain⟨n10,qL,asm⟩:=hh;obtain⟨aq,cA,g10⟩:=nE;simp only at aq cA g10;subst aq cA;refine .l2 (P:=λe=>e.2.2=if aG=true then [⟨3,gone (h4 w)⟩,⟨3,gone (iU b w)⟩]else [⟨3,gone (iU b w)⟩,⟨3,gone (h4 w)⟩]) ?_ λcF abN=>?_
 ·have key:∀u v:cB,bN (di (σ:=Int×(aa cB)) (ε:=(Int×Bool×(aa cB))) c9 (λdD=>
  cond (decide (dD.1<(([u,v]:aa cB).length:Int))) (
   (idx dD.2.length dD.1).bind λiS=>
   (idx ((ft dD.2 iS ({(aB dD.2 iS)with cn:=3}:cB)).length) dD.1).bind λoG=>
   (some (ft (ft dD.2 iS ({(aB dD.2 iS)with cn:=3}:cB)) oG ({(aB (ft dD.2 iS ({(aB dD.2 iS)with cn:=3}:cB)) oG)with bb:=({(aB (ft dD.2 iS ({(aB dD.2 iS)with cn:=3}:cB)) oG).bb with dP:=0}:bp)}:cB))).bind λk7=>
   (idx k7.length dD.1).bind λoH=>
   (some (ft k7 oH ({(aB k7 oH)with bb:=({(aB k7 oH).bb with gu:=([]:aa aV)}:bp)}:cB))).bind λz17=>
   some (.inl (bo (dD.1+1),z17))) (
   some (.inr (dD.1,decide (dD.1<(([u,v]:aa cB).length:Int)),dD.2)))) (0,[u,v])) (λe=>e.2.2=[⟨3,gone u.bb⟩,⟨3,gone v.bb⟩]):=λu v=>by
   refine bN.qz 2 (λi st=>st=((i:Int),if i=0 then [u,v]else if i=1 then [⟨3,gone u.bb⟩,v]else [⟨3,gone u.bb⟩,⟨3,gone v.bb⟩])) (by decide) I (λi st ax cD=>?_) λst cD=>?_
   ·have:i=0∨i=1:=by omega
    rcases this with rfl|rfl
    ·subst cD;exact⟨_,rfl,rfl⟩
    subst cD;exact⟨_,rfl,rfl⟩
   subst cD;exact⟨_,rfl,rfl⟩
  cases aG
  ·exact key ⟨1,iU b w⟩ ⟨1,h4 w⟩
  exact key ⟨1,h4 w⟩ ⟨1,iU b w⟩
 obtain⟨i3,gE,arN⟩:=cF;simp only at abN;subst abN;refine .eq I (.bind (R.DL aG g10) λju A1=>?_);obtain⟨n11,AN,apy⟩:=ju;obtain⟨aq,cA,g11⟩:=A1;simp only at aq cA g11;subst aq cA;refine .eq (a:=true) I ?_;refine .bind (P:=λr=>r.2=apy∧r.1.length=0) (.cond (λ_=>(Xr hs g11 (λk hk=>?_)).mono λr aD=>⟨aD.1,by rw[aD.2,ow];rfl⟩) λak=>by cases ak) λkh wG=>?_
 ·have:k=0∨k=1∨k=2∨k=3:=by omega
  rcases this with rfl|rfl|rfl|rfl
  ·rw[r5];decide
  ·rw[uI];decide
  ·rw[show eF [] [] 2=[]from(kK (by decide)).trans (kK (by decide))];decide
  rw[show eF [] [] 3=[]from(kK (by decide)).trans (kK (by decide))];decide
 obtain⟨art,asn⟩:=kh;obtain⟨rfl,wG⟩:=wG;have wG:art=[]:=DP wG;subst wG;refine .eq (a:=true) (show cb true true _=_ from(br I).trans (FI R.pm).2.2.2.2) ?_;refine .bind (P:=λr=>r.1=true) (.cond (λ_=>agN _) λak=>by cases ak) λru Su=>.eq rfl (.ret ?_);rw[Su];rfl
def aet(ab:aa (BitVec 8))(aj:BitVec 8)(aG:Bool):Ee [] ab aj aG (λr=>r.1=true):=(aeO [] ab aj aG).run
end Go.Proofs.YtdadopcnkghbaaaGreat
