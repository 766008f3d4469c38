/-
  Each function meets its functional program. Conditions: none.
-/
import Derived.Test.YtmcjlfmeoehcmaaGreatMc0
import Derived.Test.YtmcjlfmeoehcmaaGreatMc1
import Derived.Test.YtmcjlfmeoehcmaaGreatMc3
import Derived.Test.YtmcjlfmeoehcmaaGreatMc4
set_option linter.defProp false
set_option linter.unusedVariables false
set_option linter.unusedSimpArgs false
set_option maxRecDepth 100000
set_option maxHeartbeats 2000000
namespace Go.Proofs.YtmcjlfmeoehcmaaGreat
open Go Gv Go.Proofs.Tryz
open J renaming of->t,bq->S
open True renaming intro->u
open ag renaming bV->w,aq->a9
open Sum renaming elim->y,elim_inl->Z,elim_inr->a5
open af renaming aO->T,fa->a8,mo->bi,rj->bm
open aa renaming eh->U,ez->V,aO->W,nil->be,DS->bv,nI->bK,DU->bL
open List renaming length->X
open en renaming ez->Y,to->bx
open Go.Exit renaming exit->a6,ret->a'
open bn renaming ak->bd
open fe renaming md->bu
attribute [local irreducible] aa ar af aZ aN dr dP dV J.of J.ptr J.eq J.cond J.bO
def afU{C p c l d}(h:Ck C p c=some d):k3 prog 26 [S l,t p,t c] l C (J.bO [t d.1,t d.2.1]) d.2.2:=by
 unfold Ck at h;refine bd λH I=>?_;refine ay (λh=>?_);refine W 0 o (aj h λK D h=>cy 1 .i (T8 D) λf=>?_);refine ay ?_;refine aj h λA B h=>?_;refine eC (aY:=bG) (aX:=bG) B [] (λm j=>[(0,S l),(1,t p),(2,t c),(8,S f),(22,t c),(23,t (X c:Int)),(24,t m.1)]) (λm j=>[(1,a7 f m.2)]) (λa=>y (λa=>a6 0) (λa=>a') a) (λa j=>y (λa=>[(0,S l),(2,t c),(8,S f)]) (λa=>[(6,t a.1),(7,t a.2.1)]) a) (λa j=>y (λa=>[(1,a7 f a)]) (λa=>[(1,a7 f a.2.2)]) a) () (λm d h j=>?_) λj=>?_
 ·refine ay (λbB M N h=>?_);refine W 2 o (aj h λO E h=>cy 1 .i (agt E) λP=>?_);refine go2 (λh=>?_) (λh=>?_)
  ·refine T 2 o (T 2 o ?_);cases h;exact ej () 1
  refine T 2 o (T 2 o ?_);cases h;exact eE () 1
 rcases A with A|A
 ·simp only[Z]at h;refine af.j3 (af.next (ar.seq (ar.seq (aj h λF G h=>aj h λQ ab h=>er [0,2,8] ?_))));refine ar.dj 2 (az 38 [] [] _::az 39 [0] [] _::az 40 [1] [] _::az 41 [2] [1] _::az 42 [] [] _::az 43 [4] [1] (t F)::az 44 [3,5] [] _::az 45 [6] [] _::az 46 [7] [] _::[]) (dC ?_ hg) (λac=>?_)
  ·intro aq br aD aA av dQ;exact aa.fs (eg.call [1] .i (afj G) ⟨ae (aA _ _ o),u⟩ o ⟨(av 1 _ o o),u⟩ o) o o o (be (af.fin (dv []) o o))
  refine af.dY ?_;refine e4 ?_;exact go
 simp only[a5]at h;exact go
def afA{c l m p A B}(h:uw c l m p A B):k4 prog 43 [t l,t m,t p,t A] c B:=by
 unfold uw at h;refine bd λF G=>?_;refine abr (λd f a j h=>?_) (λd f a j h=>?_) (λd f a j h=>?_) (λd f a j h=>?_)
 ·exact a8 (⟨⟨(a,c),h⟩,()⟩: {r // _}×_) (fv 2) o o (dO o)
 ·refine V 2 0 o .i (ade h) o o ⟨ae o,ae o,ae o,u⟩ o λ⟨⟨C,h⟩,H⟩=>?_;refine U ?_;refine ay ?_;exact a8 (⟨⟨(C.1,C.2),h⟩,()⟩: {r // _}×_) (fv 2) o o (dO o)
 ·refine V 2 0 o .i (adg h) o o ⟨ae o,ae o,u⟩ o λ⟨⟨D,h⟩,I⟩=>?_;refine U ?_;refine ay ?_;exact a8 (⟨⟨(D.1,D.2),h⟩,()⟩: {r // _}×_) (fv 2) o o (dO o)
 refine V 2 0 o .i (adf h) o o ⟨ae o,ae o,u⟩ o λ⟨⟨E,h⟩,K⟩=>?_;refine U ?_;refine bI (bC (ar.ret ?_));exact a8 (⟨⟨(E.1,E.2),h⟩,()⟩: {r // _}×_) (fv 2) o o (dO o)
def J3{A D E B c F}(h:px A D E B c F):bn prog 14 [t D,t E,t B,t c] ([]++bc A) (aX:= {r:Int×Int×(aL Cell) // F r}×bG) (λm=>J.bO [t m.1.1.1,t m.1.1.2.1]) (λm=>[]++bc m.1.1.2.2):=by
 unfold px at h;refine bn.ofM func14 o ntmps14 o λQ ab=>?_;refine go2 (λp G C h=>?_) (λp G C h=>?_)
 ·exact af.Hn (bi (⟨⟨(0,24,A),h⟩,()⟩: {r // _}×_) (fv 3) o o (dO o) (mU (i:=0) Ml o o))
 refine w h λac H h=>w h λad I h=>w h λah K h=>aa.fs (eg.obj 3 o (pE I) .i (Np K) o ⟨jI (ae o) H,u⟩) o o o ?_;refine ay λM=>?_;refine aT (L0 (f:=40) (us:=[.pointer (some ⟨C,0,none⟩),.pointer (some ⟨p,0,none⟩),.pointer (some ⟨M,0,none⟩)]) ⟨ae o,ae o,ae o,u⟩) ?_;refine aa.defer o (ae o) ?_;refine ay ?_;refine wV (bb:=Int×(aL Cell)) (bp:=(aL Cell)⊕(Int×(aL Cell)×Int)) (aY:=bG) (aX:=bG) h 4 [9] (λj d=>[(2,t B),(3,t c),(4,S p),(5,S G),(22,t c),(23,t (X c:Int)),(24,t j.1)]) (λj d=>[]) (λj d=>bc j.2) (λa=>y (λa=>a6 0) (λa=>a') a) (λa d=>y (λa=>[(3,t c),(4,S p)]) (λa=>[(8,t a.1)]) a) (λa d=>y (λa=>[]) (λa=>[(1,a7 C a.2.2)]) a) (λa d=>y (λa=>bc a) (λa=>bc a.2.1) a) () (λj ai h d=>?_) (λl h d=>?_)
 ·refine go2 (λbB aj ak h=>?_) (λh=>?_)
  ·refine V 5 0 o .i (afA h) o o ⟨ae o,ae o,ae o,ae o,u⟩ o λ⟨⟨al,h⟩,am⟩=>?_;refine U ?_;refine go2 (λh=>?_) (λh=>?_)
   ·exact bm h () 1 o (by simp) o .all
   exact af.uL h () 1 o .all
  exact bm h () 0 o (by simp) o .all
 rcases l with l|l
 ·simp only[Z]at h;refine ay ?_;refine V 4 0 o .i (acM h) o o ⟨ae o,u⟩ o λ⟨⟨an,h⟩,ao⟩=>?_;refine U ?_;refine go2 (λh=>?_) (λh=>?_)
  ·refine T 0 o (T 3 o (T 2 o (af.Rr 4 3 o o .i (Oi (a9 h)) o o λ⟨⟨N,h⟩,_⟩=>?_)));refine af.eh ?_;exact bi (⟨⟨((X c:Int),20,N),h⟩,()⟩: {r // _}×_) (fv 4) o o (dO o) (mU (i:=0) Ml o o)
  refine T 0 o (T 3 o (T 2 o (af.Rr 4 3 o o .i (Oi (a9 h)) o o λ⟨⟨O,h⟩,_⟩=>?_)));refine af.eh ?_;exact bi (⟨⟨(0,0,O),h⟩,()⟩: {r // _}×_) (fv 4) o o (dO o) (mU (i:=0) Ml o o)
 simp only[a5]at h;refine af.km (af.ret (T 0 o (T 3 o (T 2 o (af.Rr 4 3 o o .i (Oi (a9 h)) o o λ⟨⟨P,h⟩,_⟩=>?_)))));refine af.eh ?_;exact bi (⟨⟨(l.1,l.2.2,P),h⟩,()⟩: {r // _}×_) (fv 4) o o (dO o) (mU (i:=0) Ml o o)
def Uv{E j p a F}(h:Ca E j p F):bn prog 12 [t j,S a] ([a7 a p]++bc E) (aX:= {r:Ref×cR×dB×(aL Cell) // F r}×Nat) (λd=>J.bO [t d.1.1.1,S d.2]) (λd=>[a7 a d.1.1.2.2.1,a7 d.2 d.1.1.2.1]++bc d.1.1.2.2.2):=by
 unfold Ca at h;refine bd λP Q=>?_;refine bl (hT λA=>?_);refine aT (cc nk) ?_;refine aT (cc (CT (.pointer none))) (fl ?_);obtain⟨G,H,I⟩:=ag.ex h;refine er [1,2,4,5] ?_;refine ar.tL mixed [1,3] [(0,10,t j),(2,12,t j)] ?_;refine bu [] [0,2] [1] ⟨?_,u⟩;refine gf.of (aP:=[]) (λx:Subtype G=>[(11,t x.1.1)]) (λx=>[]) (λx=>(a7 A j::a7 a p::bc x.1.2)) (λ⟨m,B⟩=>?_) (λab K cH ac aA k=>?_)
 ·have h:=I m B;refine bu [0] [2] [3] ⟨gf.tail [2,1,0] ?_,u⟩;refine aa.dY ?_;refine aa.le (br:=[(1,S a),(2,S A),(4,t (none:Ref)),(5,J.eq (.pointer none)),(11,t m.1),(12,t j)]) .all (w h λad M h=>cy 0 .i (ago M) λC=>?_);refine ay ?_;refine wV (aY:=bG) (aX:=bG) h 3 [6,7] (λc f=>[(1,S a),(2,S A),(8,t c.1)]) (λc f=>[(0,a7 C c.2.1),(2,a7 a c.2.2.1)]) (λc f=>bc c.2.2.2) (λl=>a6 0) (λl f=>[]) (λl f=>[(0,a7 C l.1),(2,a7 a l.2.1)]) (λl f=>bc l.2.2) () (λc ah h f=>?_) (λD h f=>?_)
  ·refine ay ?_;refine w h λai N h=>e1 (λax=>aZ.Rh (z:=(c.2.2.1:dB)) 2 17 o (R5 ax) o Gt (fP .i (adF (dT N ax)) ⟨ae o,u⟩)) ?_;refine go2 (λh=>?_) (λh=>?_)
   ·refine W 0 o (W 2 o (bK (Y 3 2 o .i (Uq (a9 h)) o o ⟨ae o,ae o,cU 4,u⟩) o o o λ⟨⟨aj,h⟩,ak⟩=>?_));refine U ?_;refine ay ?_;refine V 3 0 o .i (J3 h) o o ⟨ae o,ae o,cU 1,ae o,u⟩ o λ⟨⟨al,h⟩,am⟩=>?_;refine U ?_;refine ay ?_;refine W 1 o (w h λan O h=>cy 1 .i (afU O) λao=>?_);refine ay ?_;exact T 2 o (T 1 o (af.uL h () 0 o .all))
   exact bm h () 0 o (by simp) o .all
  refine ay ?_;exact T 0 o (T 2 o (bi (⟨⟨(m.1,D.1,D.2.1,D.2.2),h⟩,C⟩: {r // _}×_) (.cons_cons _ (.cons_cons _ (.cons _ (.refl _)))) o o (dO o) (dO o)))
 cases K;refine V 2 0 o .i (UJ H) o o ⟨ae (aA o),u⟩ o λ⟨⟨m,B⟩,_⟩=>?_;refine U (be ?_);exact k ⟨m,B⟩
def UL{c d}(h:Cl c d):k4 prog 15 [] c d:=by
 unfold Cl at h;refine bd λM N=>?_;refine ay ?_;refine w h λO l h=>cy 0 .i (Kg l) λm=>?_;refine W 0 o (w h λf p h=>cy 1 .i (TR p) λP=>?_);refine ay λA=>?_;refine V 2 0 o .i (UJ (a9 h)) o o ⟨ae o,u⟩ o λ⟨⟨Q,h⟩,ab⟩=>?_;refine U ?_;refine ay λj ac B C ad ah h=>?_;refine V 4 0 o .i (J3 h) o o ⟨ae o,ae o,cU 1,ae o,u⟩ o λ⟨⟨ai,h⟩,aj⟩=>?_;refine U ?_;refine ay ?_;refine bv (aY:=bG) h (λa=>t a.1) (λa g=>(a7 C ({j with dR:=0}:bg)::a7 B j::a7 A f.1::a7 m f.2::bc a.2)) () o o o o o o (λax hm=>by refine bx ?_ (Y 4 0 o .i (N2 hm) o o ?_);exact λ_=>rfl;exact⟨ba o ax,u⟩) λD ak h=>?_;refine ay ?_;refine w h λal E h=>bL (λax=>eg.iC 4 o .i (NS (dT E ax)) ⟨ba o ax,u⟩) o o o o o ?_;refine ay λF am h=>?_;refine w h λan G h=>w h λao H h=>w h λI K h=>bL (λax=>eg.obj 4 o (pE (dT H ax)) .i (Np (dT K ax)) o ⟨jI (ba o ax) (dT G ax),u⟩) o o o o o ?_;refine ay ?_;exact a8 (⟨⟨(F&&(I==0),D.2),h⟩,()⟩: {r // _}×_) (fv 4) o o (dO o)
def aeh{N O H P}(h:Fj N O H P):k4 prog 3 [t O,t H] N P:=by
 unfold Fj at h;refine bd λaG aH=>?_;refine ay ?_;refine w h λaI ab h=>cy 0 .i (Kg ab) λA=>?_;refine W 0 o (w h λa ac h=>cy 1 .i (TR ac) λaJ=>?_);refine bJ ?_;refine w h λaL ad h=>cy 0 .i (Kg ad) λm=>?_;refine ay λl=>?_;refine W 1 o (bK (Y 3 1 o .i (Uv (a9 h)) o o ⟨ae o,ae o,u⟩) o o o λ⟨⟨c,h⟩,p⟩=>?_);refine U ?_;refine ay ?_;refine w h λah ai h=>?_;obtain⟨aj,ak,am⟩:=ag.ex h;refine er [1,4,5,6,7,8] ?_;refine ar.tL mixed [2,3,8] [(0,31,t ({a.1 with dh:=([]:R fz)}:aU)),(1,32,t H)] ?_;refine bu [] [0,1] [2] ⟨?_,u⟩;refine gf.of (aP:=[]) (λx:Nat=>[(33,S x)]) (λx=>[]) (λx=>(a7 x ah::a7 m c.2.2.1::a7 p c.2.1::a7 l ({a.1 with dh:=([]:R fz)}:aU)::a7 A a.2::bc c.2.2.2)) (λB=>?_) (λan K cH ao aA k=>?_)
 ·refine bu [1] [0] [3] ⟨?_,u⟩
  ·refine gf.of (aP:=[4,5,6,7]) (λx:Nat×(Subtype aj)=>[(34,J.bO [t x.2.1.1,S x.1])]) (λx=>[(4,30,J.bO [t x.2.1.1,S x.1]),(5,35,t x.2.1.1),(6,36,S x.1),(7,9,t x.2.1.1)]) (λx=>(a7 B x.2.1.2.2.1::a7 x.1 x.2.1.2.1::a7 m c.2.2.1::a7 p c.2.1::a7 l ({a.1 with dh:=([]:R fz)}:aU)::a7 A a.2::bc x.2.1.2.2.2)) (λ⟨C,⟨j,M⟩⟩=>?_) (λan K cH ao aA k=>?_)
   ·have h:=am j M;refine bu [1,0] [4,5,6,7] [8] ⟨gf.tail [7,6,5,4,3,2,1,0] ?_,u⟩;refine aa.dY ?_;refine aa.le (br:=[(1,t H),(4,t false),(5,S l),(6,S m),(7,t c.1),(8,S p),(9,t j.1),(36,S C)]) .all ?_;refine ay ?_;refine W 3 o (W 3 o (bK (Y 6 2 o .i (Uq (a9 h)) o o ⟨ae o,ae o,ae o,u⟩) o o o λ⟨⟨D,h⟩,aM⟩=>?_));refine U ?_;refine ay ?_;refine V 6 0 o .i (J3 h) o o ⟨ae o,ae o,cU 1,ae o,u⟩ o λ⟨⟨I,h⟩,aN⟩=>?_;refine U ?_;refine ay ?_;refine wV (aY:=bG) (aX:=bG) h 6 [] (λF E=>[(5,S l),(7,t c.1),(9,t j.1),(12,t I.1),(13,t I.2.1),(49,t D.1),(50,t (X D.1:Int)),(51,t F.1)]) (λF E=>[]) (λF E=>bc F.2) (λd=>y (λd=>a6 0) (λd=>a') d) (λd E=>y (λd=>[(7,t c.1),(9,t j.1),(13,t I.2.1)]) (λd=>[(4,t d.1)]) d) (λd E=>[]) (λd E=>y (λd=>bc d) (λd=>bc d.2) d) () (λF aO h E=>?_) (λG h E=>?_)
    ·refine go2 (λbB aR ap h=>?_) (λh=>?_)
     ·refine V 7 0 o .i (J3 h) o o ⟨ae o,ae o,cU 1,ae o,u⟩ o λ⟨⟨aS,h⟩,aT⟩=>?_;refine U ?_;refine go2 (λh=>?_) (λh=>?_)
      ·refine bv (aY:=bG) h (λf=>t f.1) (λf g=>(a7 ap (al D.1 bB:eQ)::a7 m D.2.1::a7 p c.2.1::a7 B j.2.2.1::a7 C j.2.1::a7 l ({a.1 with dh:=([]:R fz)}:aU)::a7 A a.2::bc f.2)) () o o o o o o (λax hm=>by refine bx ?_ (Y 7 0 o .i (UL hm) o o ?_);exact λ_=>rfl;exact trivial) λaV aW h=>?_;refine ay ?_;exact bm h () 1 o (by simp) o (.same o .nil)
      exact af.uL h () 1 o .all
     exact bm h () 0 o (by simp) o .all
    rcases G with G|G
    ·simp only[Z]at h;refine ay ?_;refine bv (aY:=bG) h (λf=>t f.1) (λf g=>(a7 m D.2.1::a7 p c.2.1::a7 B j.2.2.1::a7 C j.2.1::a7 l ({a.1 with dh:=([]:R fz)}:aU)::a7 A a.2::bc f.2)) () o o o o o o (λax hm=>by refine bx ?_ (Y 6 0 o .i (N2 hm) o o ?_);exact λ_=>rfl;exact⟨ba o ax,u⟩) λaZ a0 h=>?_;refine jY cN ?_;refine bv (aY:=bG) h (λf=>t f.1) (λf g=>(a7 m D.2.1::a7 p c.2.1::a7 B j.2.2.1::a7 C j.2.1::a7 l ({a.1 with dh:=([]:R fz)}:aU)::a7 A a.2::bc f.2)) () o o o o o o (λax hm=>by refine bx ?_ (Y 6 0 o .i (N2 hm) o o ?_);exact λ_=>rfl;exact⟨ba o ax,u⟩) λa1 a2 h=>?_;refine ay λau a3 h=>?_;refine w h λaw aB h=>bL (λax=>eg.iC 6 o .i (NS (dT aB ax)) ⟨ba o ax,u⟩) o o o o o (jY cN ?_);refine w h λaC aE h=>bL (λax=>eg.iC 6 o .i (NS (dT aE ax)) ⟨ba o ax,u⟩) o o o o o ?_;refine ay ?_;refine bv (aY:=bG) h (λf=>t f.1) (λf g=>(a7 m D.2.1::a7 p c.2.1::a7 B j.2.2.1::a7 C j.2.1::a7 l ({a.1 with dh:=([]:R fz)}:aU)::a7 A a.2::bc f.2)) () o o o o o o (λax hm=>by refine bx ?_ (Y 6 0 o .i (UL hm) o o ?_);exact λ_=>rfl;exact trivial) λQ a4 h=>?_;refine ay ?_;exact a8 (⟨⟨((((I.2.1==0)&&au)&&(aw==aC))&&Q.1,Q.2),h⟩,()⟩: {r // _}×_) (fv 6) o o (dO o)
    simp only[a5]at h;exact af.km (af.ret (a8 (⟨⟨(G.1,G.2),h⟩,()⟩: {r // _}×_) (fv 6) o o (dO o)))
   cases K;refine bK (Y 5 1 o .i (Uv ak) o o ⟨ae (aA o),ae (aA o),u⟩) o o o λ⟨⟨j,M⟩,C⟩=>?_;refine U (be ?_);exact k (C,⟨j,M⟩)
 cases K;refine aa.kG (dJ:=[]) (b9:=(a7 m c.2.2.1::a7 p c.2.1::a7 l ({a.1 with dh:=([]:R fz)}:aU)::a7 A a.2::bc c.2.2.2)) .i (Kg ai) ⟨ae (aA o),cU 220,u⟩ o λB=>be ?_
 exact k B
end Go.Proofs.YtmcjlfmeoehcmaaGreat
