/-
  Each function meets its functional program. Conditions: none.
-/
import Derived.Test.YtmcjlfmeoehcmaaGreatMc1
import Derived.Test.YtmcjlfmeoehcmaaGreatMc0
import Derived.Test.YtmcjlfmeoehcmaaGreatMd
set_option linter.defProp false
set_option linter.unusedVariables false
set_option linter.unusedSimpArgs false
set_option maxRecDepth 100000
set_option maxHeartbeats 2000000
namespace Go.Proofs.YtmcjlfmeoehcmaaGreat
open Go Gv Go.Proofs.Tryz
open J renaming of->t,ptr->Z,eq->bx,bq->bZ,bO->ca
open List renaming length->u
open True renaming intro->w
open Option renaming some->y,bind_some->b4,none->cp
open Sum renaming elim->S,elim_inl->T,elim_inr->U
open aa renaming nil->V,own->cb,store->cn,eh->co,aO->cs,fs->cI,share->c1,ez->c5,nI->c6,dY->dR
open Go.Exit renaming exit->X,ret->dk
open aG renaming id->Y,idx->b8
open ar renaming ef->a',ret->bv,block->b1,seq->b3,skip->cd,gX->cr,dW->c3,vk->c8,kS->c9,Da->dl,exit->ds,dj->dE,pf->dL
open af renaming aO->bu,next->bY,fin->b5,ret->b',dY->ce,hb->cq,fa->ct,place->cv,kI->cA,j3->cO,mq->c2,km->c4,exit->dt,jV->dN
open bn renaming ak->bP
open Decidable renaming decide->bQ
open Inhabited renaming default->b2
open cf renaming ak->ci
open ag renaming bV->cl
open Bool renaming true->c0
open eg renaming iC->c7,call->dm
open _root_.ByteArray renaming mk->c'
open en renaming ez->dK
attribute [local irreducible] aa ar af aZ aN dr dP dV J.of J.ptr J.eq J.cond J.bO
instance:dd prog 263 _ _ _ Ka t t t:=.j (h:=λE ab r h W A=>by
 refine ay λac I=>?_;refine aT (cc (look_nil (au:=cQ))) (eG ?_);refine cb (au:=cQ) 138 (aT (cc h7) ?_);refine ay ?_;refine aj h λad p h=>?_;refine eC (aY:=bN) (aX:=bN) p [] (λl a=>[(3,bZ I),(5,bx (aH a.1 (u l.2) a.2)),(9,t E.dh),(10,t (u E.dh:Int)),(11,t l.1)]) (λl a=>[(0,⟨a.1,.row 138 l.2 a.2⟩)]) (λm=>X 0) (λm a=>[(5,bx (aH a.1 (u m) a.2))]) (λm a=>[(0,⟨a.1,.row 138 m a.2⟩)]) (cp,0) (λl r h a=>?_) λa=>?_
 ·refine go2 (λbB ag ah h=>?_) (λh=>?_)
  ·refine aj h λF B h=>?_;refine hs (aY:=bN) [3,9,10,11] (λd=>[(5,bx (aH d.1 (u F) d.2))]) (λd=>[(1,⟨d.1,.row 138 F d.2⟩)]) (λd=>?_) (λhm c=>?_) λhm c=>?_
   ·refine ay ?_;cases h;exact eE (d.1,d.2) 1
   ·have h:=da c B;refine cd ?_;cases h;exact cL 0 (hm (a.1,a.2))
   have h:=db c B;refine ay ?_;refine aj h λG C h=>?_;refine hs (aY:=bN) [3,9,10,11] (λf=>[(5,bx (aH f.1 (u G) f.2))]) (λf=>[(1,⟨f.1,.row 138 G f.2⟩)]) (λf=>?_) (λhm c=>?_) λhm c=>?_
   ·cases h;exact cL 0 (hm (f.1,f.2))
   ·have h:=da c C;refine aj h λai ak h=>aj h λal am h=>a' 11 ?_;refine aj h λan K h=>eM 1 underlying101 Dh LU K λM N=>?_;refine bI (V ?_);cases h;exact cL 0 (hm (M,N))
   have h:=db c C;refine ay ?_;refine aj h λH D h=>?_;refine hs (aY:=bN) [3,9,10,11] (λj=>[(5,bx (aH j.1 (u H) j.2))]) (λj=>[(1,⟨j.1,.row 138 H j.2⟩)]) (λj=>?_) (λhm c=>?_) λhm c=>?_
   ·cases h;exact cL 0 (hm (j.1,j.2))
   ·have h:=da c D;refine aj h λao ap h=>aj h λaw aB h=>a' 11 ?_;refine aj h λaC O h=>eM 1 underlying101 Dh LU O λP Q=>?_;refine bI (V ?_);cases h;exact cL 0 (hm (P,Q))
   have h:=db c D;refine cd ?_;cases h;exact cL 0 (hm (a.1,a.2))
  cases h;exact ej (a.1,a.2) 0
 refine ay ?_;exact cq (au:=cQ) 0 [4,5,56] ⟨rfl,rfl,rfl,w⟩ o go)
def ack{a c d}(h:D8 a c=y d):cf prog 308 [t a,t c] (t d):=by
 unfold D8 at h;refine ci λf j=>?_;exact go
def TT{c d f a}(h:BJ c d f=y a):iW prog 144 [t d,t f] c (t a.1) a.2:=by
 unfold BJ at h;refine bP λG H=>?_;refine bl (bI (eG ?_));refine bJ ?_;refine bJ ?_;refine aj h λI B h=>cI (c7 0 o .i (TS B) ⟨ae o,ae o,w⟩) o o o (bI (fl (bl ?_)));refine bJ ?_;refine cH kj ?_;refine bJ ?_;refine jY cN ?_;refine jY cN ?_;refine aj h λK C h=>e1 (λax=>fp (jI (ba o ax) (dT C ax))) ?_;refine jY (bM CN.fd) ?_;refine aj h λbB j h=>e1 (λax=>hp Di (ba o ax) (ba o ax) (cz (dT j ax))) ?_;refine aj h λM D h=>e1 (λax=>oN (((Y jE).comp yW).comp (b8 6 bB (cz (dT j ax)).1)) bz (ba o ax) (je (n:=0) o (uQ (dT D ax)) o) o o) ?_;refine AO ir ?_;refine wW (bC ?_);refine fR h (λh=>?_) λh=>?_
 ·refine bl (bI (bC (bv (b' ?_))));cases h;exact ct () (.refl _) o o (dO o)
 refine gE (b3 (aj h λN l h=>aj h λdi m h=>aj h λE p h=>aj h λfm A h=>cr mixed 10 (rg 20 10) [[],[],[0],[2],[1,3],[4],[5],[0],[7],[1,8]] [_,_,_,_,_,_,_,_,_,_] ⟨dG,dG,ed λav=>fp (jI (ae o) l),H1 (bM CN.fd),ed λav=>hp Di (ae o) (ae o) (cz m),ed λav=>oN (((Y jE).comp yW).comp (b8 6 di (cz m).1)) bz (ae o) (oZ (λi e q=>av i e q o) (je (n:=0) o (uQ p) o)) o o,jB sw,ed λav=>fp (jI (ae o) l),H1 (bM CN.fd),ed λav=>hp Di (ae o) (ae o) (cz A),w⟩ ?_));refine aj h λO F h=>aa.pC 0 o (((Y jE).comp yW).comp (b8 6 fm (cz A).1)) (v:=(aV ((cu E.kC di)-1):Int)) bz (ae o) (ae o) (uQ p) o o o o (dz F) (eG (bI (bC (bv ?_))));cases h;exact ct () (.refl _) o o (dO o)
instance:dd prog 51 _ _ _ zJ t t t:=.j (h:=λa c r h W A=>by
 refine ay λd f j h=>?_;refine aT (GL (k:=5) underlying187 j5 (ae o) (cU 5) ⟨by decide,rfl⟩) ?_;exact go)
instance abm:dd prog 54 _ _ _ xw t t t:=.j (h:=λa c d h f j=>by
 refine ay λl m p h=>?_;refine aT (GL (k:=4) underlying187 j5 (ae o) (cU 4) ⟨by decide,rfl⟩) ?_;exact go)
instance:dd prog 270 _ _ _ FQ t t t:=.j (h:=λa c r h W A=>by
 refine ay λd f j h=>?_;refine aT (GL (k:=0) underlying187 j5 (ae o) (cU 0) ⟨by decide,rfl⟩) ?_;exact go)
instance:ew prog 216 _ _ Ga t t:=.j (h:=λl r h W A=>by
 refine ay λm j=>?_;refine aj h λp d h=>?_;refine eC (aY:=bG) (aX:=bG) d [2,3] (λc a=>[(0,t l),(4,t c.1)]) (λc a=>[(0,a7 j c.2)]) (λf=>X 0) (λf a=>[]) (λf a=>[(0,a7 j f)]) () (λc r h a=>?_) λa=>?_
 ·exact go
 exact go)
instance:ew prog 224 _ _ Oy t t:=.j (h:=λa r h W A=>by
 exact go)
instance aaG:ew prog 317 _ _ UB t t:=.j (h:=λf j h m p=>by
 refine ay λd A h=>?_;refine aj h λa c h=>?_;refine gw c [] (cG 0 (t f) (cG 5 (t d) (cG 6 (t (u d:Int)) (cD.cF [7])))) (S (gx 0) h4) (S (λ_=>[]) (cD.cF [2])) (λB j h=>?_) ?_
 ·refine ay (λbB C h=>?_);refine aj h λD l h=>e1 (λax=>pA underlying9 (ba o ax) .none (.some (ba o ax)) (dT l ax)) ?_;refine jY cN ?_;refine e1 (λax=>lq underlying9 (ba o ax) (ba o ax)) ?_;exact go
 rcases a with a|a
 ·simp only[T]at h;exact go
 simp only[U]at h;exact go)
instance:ew prog 355 _ _ UR t t:=.j (h:=λc r h W A=>by
 refine bl (bI (eG ?_));refine bJ ?_;refine aT (wa (ae o) (jJ 97 o)) ?_;refine bJ ?_;refine jY cN ?_;refine e1 (λax=>wb (ba o ax) (jJ 122 o)) ?_;refine HF ?_;refine bJ ?_;refine jY cN ?_;refine e1 (λax=>wa (ba o ax) (jJ 48 o)) ?_;refine jY cN ?_;refine aa.jr (λax=>cN (ae o)) o o o o o (aa.jr (λax=>wb (ba o ax) (jJ 57 o)) o o o o o (e1 (λax=>mR (ba o ax) (ae o) (λh=>⟨ax,h⟩)) ?_));refine aj h λd a h=>jO a (oY (ae o) (ae o) (λh=>h)) ?_;refine bJ ?_;refine jY cN ?_;refine e1 (λax=>Lj (ba o ax) (jJ 95 o)) ?_;refine wW ?_;refine bI (bC (bv ?_));cases h;exact lQ)
instance:dd prog 376 _ _ _ xF t t t:=.j (h:=λd f r h W A=>by
 refine ay λj=>?_;refine aj h λl a h=>?_;refine gw a [0,4] (cD.cF [1]) (gx 0) (cD.cF [1]) (λm r h=>?_) ?_
 ·refine ay (λbB p h=>?_);refine aj h λB c h=>aT (vW underlying59 bz (ae o) .none (.some (ae o)) c) ?_;exact go
 exact go)
instance aaH:ew prog 357 _ _ OF t t:=.j (h:=λa c h d f=>by
 refine ay ?_;refine aT (wa (ae o) (jJ 48 o)) ?_;refine ay ?_;refine e1 (λax=>wb (ba o ax) (jJ 57 o)) ?_;refine go2 (λh=>?_) (λh=>?_)
 ·refine aT (Ak (ae o) (jJ 48 o)) ?_;exact go
 refine aT (wa (ae o) (jJ 97 o)) ?_;refine ay ?_;refine e1 (λax=>wb (ba o ax) (jJ 102 o)) ?_;refine ay (λh=>?_);refine aT (Ak (ae o) (jJ 97 o)) ?_;exact go)
instance:dd prog 384 _ _ _ CC t t t:=.j (h:=λa c r h W A=>by
 exact go)
instance:dd prog 378 _ _ _ JC t t t:=.j (h:=λd f r h W A=>by
 refine ay (λh=>?_);refine aj h λa c h=>?_;refine gw c [] (cG 0 (t d) (cG 1 (t f) (cD.cF [5]))) (S (gx 0) h4) (S (λ_=>[]) (cD.cF [4])) (λj r h=>?_) ?_
 ·refine ay (λh=>?_);refine aj h λbB l h=>aj h λdi m h=>a' 9 ?_;refine ay (λh=>?_);refine aj h λfm p h=>aj h λiw B h=>a' 9 ?_;exact go
 rcases a with a|a
 ·simp only[T]at h;exact go
 simp only[U]at h;exact go)
def afS{f:gz}(h:OG=y f):cf prog 380 [] (t f):=by
 unfold OG at h;refine ci λD E=>?_;refine bl (iL Q1 λF=>eG ?_);refine aj h λl m h=>jO m (cc (fA (c' #[51,52,48,50,56,50,51,54,54,57,50,48,57,51,56,52,54,51,52,54,51,51,55,52,54,48,55,52,51,49,55,54,56,50,49,49,52,53,54]))) (eG ?_);refine cb (au:=Int) 3 (aT (cc h7) ?_);refine ay ?_;refine aj h λG j h=>?_;refine eC (aY:=bN) (aX:=bN) j [0] (λc a=>[(1,t l),(2,bx (aH a.1 (u c.2) a.2)),(3,t c.1)]) (λc a=>[(0,⟨a.1,.row 3 c.2 a.2⟩)]) (λd=>X 0) (λd a=>[(2,bx (aH a.1 (u d) a.2))]) (λd a=>[(0,⟨a.1,.row 3 d a.2⟩)]) (cp,0) (λc f h a=>?_) λa=>?_
 ·refine go2 (λh=>?_) (λh=>?_)
  ·refine aj h λH p h=>aT (sr underlying9 (ae o) (ae o) p) ?_;refine aT (Ak (ae o) (jJ 48 o)) ?_;refine ay ?_;refine aj h λI A h=>eM 0 underlying59 bz my A λB C=>?_;refine ay ?_;cases h;exact eE (B,C) 0
  cases h;exact ej (a.1,a.2) 0
 refine ay ?_;exact aa.hb (au:=Int) 0 [19,2] ⟨rfl,rfl,w⟩ o go
def IL{a j f c d l}(h:xh a j=y l):bn prog 382 [bZ f,t j] [⟨y f,.bF ({a with bL:=[]}:bf) [(3,aH c (u a.bL) d)]⟩,⟨c,.row 375 a.bL d⟩] (aX:=bG) (λm=>t l) (λm=>[⟨y f,.bF ({a with bL:=[]}:bf) [(3,aH c (u a.bL) d)]⟩,⟨c,.row 375 a.bL d⟩]):=by
 unfold xh at h;refine bP λC D=>?_;refine ay ?_;refine aj h λbB p h=>aj h λE A h=>aj h λdi B h=>?_;refine cr mixed 46 (rg 5 46) [[],[0],[1],[2],[3],[4],[5],[5,6],[5,7],[5,8],[5],[5,10],[5,11],[5,12],[5,13],[5,9,14],[5,15],[16],[17],[17,18],[17,19],[17,20],[17],[17,22],[17,23],[17,24],[17,21,25],[17,26],[17,27],[17,28],[17,29],[30],[31],[31,32],[31,33],[31,34],[31],[31,36],[31,37],[31,38],[31,35,39],[31,40],[31,41],[31],[31,42,43],[31,44]] [_,_,_,_,_,_,_,_,_,_,_,_,_,_,_,_,_,_,_,_,_,_,_,_,_,_,_,_,_,_,_,_,_,_,_,_,_,_,_,_,_,_,_,_,_,_] ⟨dG,H1 fp,H1 (bM PQ.fd),ed λav=>ho (i:=0) ((Y bf).comp xj) hv (ae o) (av _ _ o o) o o (by rfl),H1 lr,dG,bD λaD av=>λax=>cN (ae o),bD λaD av=>λax=>fp (ba o ax),bD λaD av=>λax=>bM xP.fd (ba o ax),bD λaD av=>λax=>ho (i:=0) ((Y bf).comp kv) bz (ba o ax) (av _ _ o o) o o (by rfl),bD λaD av=>λax=>cN (ae o),bD λaD av=>λax=>fp (ba o ax),bD λaD av=>λax=>bM CO.fd (ba o ax),bD λaD av=>λax=>ho (i:=0) ((Y bf).comp uo) yg (ba o ax) (av _ _ o o) o o (by rfl),bD λaD av=>λax=>mT underlying376 (ba o ax),bD λaD av=>λax=>kj (ba o ax) (ba o ax),ed λav=>mR (ae o) (ae o) (λh=>h),dG,bD λaD av=>λax=>cN (ae o),bD λaD av=>λax=>fp (ba o ax),bD λaD av=>λax=>bM CO.fd (ba o ax),bD λaD av=>λax=>ho (i:=0) ((Y bf).comp uo) yg (ba o ax) (av _ _ o o) o o (by rfl),bD λaD av=>λax=>cN (ae o),bD λaD av=>λax=>fp (ba o ax),bD λaD av=>λax=>bM xP.fd (ba o ax),bD λaD av=>λax=>ho (i:=0) ((Y bf).comp kv) bz (ba o ax) (av _ _ o o) o o (by rfl),bD λaD av=>λax=>jy (k:=bB) underlying376 qt (ba o ax) (ba o ax) (cz (dT p ax)),bD λaD av=>λax=>oV BH KY.fd (ba o ax) o o,bD λaD av=>λax=>hn bz (ba o ax),bD λaD av=>λax=>ir (ba o ax) (cU 3),vm A λaD av=>mR (ae o) (ae o) (λh=>h),dG,bD λaD av=>λax=>cN (ae o),bD λaD av=>λax=>fp (ba o ax),bD λaD av=>λax=>bM CO.fd (ba o ax),bD λaD av=>λax=>ho (i:=0) ((Y bf).comp uo) yg (ba o ax) (av _ _ o o) o o (by rfl),bD λaD av=>λax=>cN (ae o),bD λaD av=>λax=>fp (ba o ax),bD λaD av=>λax=>bM xP.fd (ba o ax),bD λaD av=>λax=>ho (i:=0) ((Y bf).comp kv) bz (ba o ax) (av _ _ o o) o o (by rfl),bD λaD av=>λax=>jy (k:=di) underlying376 qt (ba o ax) (ba o ax) (cz (dT B ax)),bD λaD av=>λax=>oV EK KZ.fd (ba o ax) o o,bD λaD av=>λax=>hn gR (ba o ax),bD λaD av=>λax=>cN (ae o),bD λaD av=>λax=>lq underlying9 (ba o ax) (ba o ax),ed λav=>mR (ae o) (ae o) (λh=>h),w⟩ ?_;refine bI (bC (bv ?_));refine bu 1 o (bu 1 o ?_);cases h;exact ff ()
instance:ew prog 271 _ _ OU t t:=.j (h:=λj r h W A=>by
 refine ay λd=>?_;refine aj h λa c h=>?_;refine gw c [] (cG 1 (bZ d) (cD.cF [3])) (S (gx 0) h4) (S (λ_=>[]) (cD.cF [2])) (λl r h=>?_) ?_
 ·refine ay (λm p h=>?_);refine aj h λbB f h=>aT (GL (k:=bB) underlying315 hv (ae o) (ae o) (cz f)) ?_;exact go
 rcases a with a|a
 ·simp only[T]at h;exact go
 simp only[U]at h;exact go)
instance aaI:ew prog 318 _ _ US t t:=.j (h:=λc d h j l=>by
 refine ay ?_;refine aj h λm a h=>?_;refine gw a [] (cG 0 (t c) (cD.cF [3])) (gx 0) (cD.cF [3]) (λp d h=>?_) ?_
 ·refine ay ?_;refine aj h λA f h=>e1 (λax=>sr underlying9 (ba o ax) (ba o ax) (dT f ax)) ?_;exact go
 exact go)
instance aaJ:ew prog 356 _ _ tk t t:=.j (h:=λD m h E F=>by
 refine bl (iL Q1 λG=>eG ?_);refine bJ ?_;refine cH kj ?_;refine bI (eG ?_);refine cb (au:=Int) 3 (aT (cc h7) (fl (b1 ?_)));refine aj h λH f h=>?_;refine eC (aY:=bN) (aX:=bN) f [2,3] (λc a=>[(0,t c.1),(4,bx (aH a.1 (u c.2) a.2))]) (λc a=>[(0,⟨a.1,.row 3 c.2 a.2⟩)]) (λd=>X 0) (λd a=>[(4,bx (aH a.1 (u d) a.2))]) (λd a=>[(0,⟨a.1,.row 3 d a.2⟩)]) (cp,0) (λc m h a=>?_) λa=>?_
 ·refine go2 (λI K h=>?_) (λh=>?_)
  ·refine aj h λp j h=>?_;refine fg [0,2,3,4] (cD.cF [5] p) [] ?_ (λhm l=>?_) λhm l=>?_
   ·refine ay ?_;refine aj h λM A h=>eM 0 underlying59 bz my A λB C=>?_;refine ay λN O h=>?_;cases h;exact eE (B,C) 0
   ·have h:=da l j;exact go
   have h:=db l j;exact go
  cases h;exact ej (a.1,a.2) 0
 refine ay ?_;exact aa.hb (au:=Int) 0 [23,4] ⟨rfl,rfl,w⟩ o go)
instance:dd prog 377 _ _ _ Kb t t t:=.j (h:=λj l r h W A=>by
 refine bl (aT (cc (look_nil (au:=Int))) (eG ?_));refine cb (au:=Int) 3 (aT (cc h7) ?_);refine ay ?_;refine aj h λE f h=>?_;refine eC (aY:=bN) (aX:=bN) f [] (λc a=>[(0,t j),(1,t l),(5,bx (aH a.1 (u c.2.2) a.2)),(6,t c.1),(7,t c.2.1)]) (λc a=>[(0,⟨a.1,.row 3 c.2.2 a.2⟩)]) (λd=>X 0) (λd a=>[(5,bx (aH a.1 (u d) a.2))]) (λd a=>[(0,⟨a.1,.row 3 d a.2⟩)]) (cp,0) (λc r h a=>?_) λa=>?_
 ·refine go2 (λm p F G H I K M h=>?_) (λm p h=>?_)
  ·refine aj h λN B h=>eM 0 underlying59 bz my B λC D=>?_;refine ay λO P h=>?_;cases h;exact eE (C,D) 0
  cases h;exact ej (a.1,a.2) 0
 refine ay ?_;exact cq (au:=Int) 0 [4,5,35] ⟨rfl,rfl,rfl,w⟩ o go)
instance:dd prog 379 _ _ _ F5 t t t:=.j (h:=λm p r h W A=>by
 refine bl (aT (cc (look_nil (au:=Int))) (eG ?_));refine cb (au:=Int) 3 (aT (cc h7) ?_);refine ay ?_;refine aj h λF f h=>?_;refine eC (aY:=bN) (aX:=bN) f [] (λc a=>[(0,t m),(1,t p),(5,bx (aH a.1 (u c.2.2) a.2)),(6,t c.1),(10,t (u m:Int)),(11,t c.2.1)]) (λc a=>[(0,⟨a.1,.row 3 c.2.2 a.2⟩)]) (λd=>X 0) (λd a=>[(5,bx (aH a.1 (u d) a.2))]) (λd a=>[(0,⟨a.1,.row 3 d a.2⟩)]) (cp,0) (λc r h a=>?_) λa=>?_
 ·refine go2 (λh=>?_) (λh=>?_)
  ·refine aj h λbB G h=>aj h λH I h=>a' 10 ?_;refine ay ?_;refine aj h λB j h=>?_;refine fg [0,1,5,10,11] (cD.cF [6,8] B) [] ?_ (λhm l=>?_) λhm l=>?_
   ·refine ay ?_;refine aj h λK C h=>eM 0 underlying59 bz my C λD E=>?_;refine ay ?_;cases h;exact eE (D,E) 0
   ·have h:=da l j;exact go
   have h:=db l j;exact go
  cases h;exact ej (a.1,a.2) 0
 refine ay ?_;exact cq (au:=Int) 0 [4,5,33] ⟨rfl,rfl,rfl,w⟩ o go)
instance:ew prog 365 _ _ Gj t t:=.j (h:=λa r h W A=>by
 exact go)
def vx{d m l f j a}(h:qR d m=y a):bn prog 361 [bZ l,t m] [⟨y l,.bF ({d with bL:=[]}:bf) [(3,aH f (u d.bL) j)]⟩,⟨f,.row 375 d.bL j⟩] (aX:=bN) (λc=>t a.1) (λc=>[⟨y l,.bF ({a.2 with bL:=[]}:bf) [(3,aH c.1 (u a.2.bL) c.2)]⟩,⟨c.1,.row 375 a.2.bL c.2⟩]):=by
 unfold qR at h;refine bP λB C=>?_;refine ay ?_;refine aj h λD p h=>cI (dm [0,1] .i (IL p) ⟨ae o,ae o,w⟩ o ⟨rfl,rfl,w⟩ o) o o o ?_;refine go2 (λh=>?_) (λh=>?_)
 ·refine bu 1 o (bu 1 o ?_);cases h;exact ff (f,j)
 refine qC 0 kv bz ?_;refine ay ?_;refine aj h λE A h=>aa.lp (i:=0) ((Y bf).comp kv) bz (ae o) (ae o) o o (dz A) (by rfl) ?_;refine ay ?_;refine af.gQ ((Y bf).comp kL) 0 0 o o o (bu 1 o (bu 1 o ?_));cases h;exact ff (f,j)
instance Mf:dd prog 403 _ _ _ Gb t t t:=.j (h:=λA B l h C D=>by
 refine ay λE F G H m p I j h=>?_;refine aj h λK d h=>?_;refine eC (aY:=bG) (aX:=bG) d [4,6] (λc a=>[(1,t p),(5,bZ m),(7,t c.1)]) (λc a=>[(0,a7 j c.2)]) (λf=>X 0) (λf a=>[]) (λf a=>[(0,a7 j f)]) () (λc l h a=>?_) λa=>?_
 ·exact go
 exact go)
instance aaK:ew prog 203 _ _ zx t t:=.j (h:=λj l h B C=>by
 refine bl (hT λD=>?_);refine aT (cc (look_nil (au:=fY))) (eG ?_);refine cb (au:=fY) 354 (aT (cc h7) ?_);refine ay ?_;refine aj h λE f h=>?_;refine eC (aY:=bN) (aX:=bN) f [] (λc a=>[(3,bx (aH a.1 (u c.2) a.2)),(7,t j.e2),(8,t (u j.e2:Int)),(9,t c.1)]) (λc a=>[(0,⟨a.1,.row 354 c.2 a.2⟩)]) (λd=>X 0) (λd a=>[(3,bx (aH a.1 (u d) a.2))]) (λd a=>[(0,⟨a.1,.row 354 d a.2⟩)]) (cp,0) (λc l h a=>?_) λa=>?_
 ·refine go2 (λbB F G H I h=>?_) (λh=>?_)
  ·refine aj h λK m h=>eM 1 underlying293 G7 QP m λp A=>?_;refine ay ?_;cases h;exact eE (p,A) 1
  cases h;exact ej (a.1,a.2) 0
 refine ay ?_;exact cq (au:=fY) 0 [2,3,20] ⟨rfl,rfl,rfl,w⟩ o go)
def Fc{a c d f}(h:qX a c d=y f):iW prog 149 [t c,t d] a (t f) a:=by
 unfold qX at h;refine bP λA B=>?_;refine bl (aT (cc nk) ?_);refine go2 (λh=>?_) (λC D E F h=>?_)
 ·refine aT (cc nk) ?_;exact go
 refine aj h λG j h=>aj h λH l h=>aj h λm p h=>aT (uI (r:=m) underlying183 AN Ze (kQ (ae o) j) (ae o) (je (n:=0) o (wj l) o) (dz p)) ?_;exact go
instance:ew prog 428 _ _ zM t t:=.j (h:=λp r h W A=>by
 refine ay λB C j=>?_;refine aj h λl m h=>aT (vW underlying45 tB (ae o) .none (.some (ae o)) m) ?_;refine ay ?_;refine aj h λD d h=>?_;refine eC (aY:=bG) (aX:=bG) d [2,3] (λc a=>[(12,t l),(13,t (u l:Int)),(14,t c.1)]) (λc a=>[(0,a7 j c.2)]) (λf=>X 0) (λf a=>[]) (λf a=>[(0,a7 j f)]) () (λc r h a=>?_) λa=>?_
 ·exact go
 exact go)
def Ui{a f j c}(h:BY a f j=y c):iW prog 427 [t f,t j] a (ca [t c.1,t c.2]) a:=by
 unfold BY at h;refine bP λA B=>?_;refine ay (λC h=>?_);refine aj h λD E h=>aj h λF G h=>aj h λH l h=>aj h λI m h=>aj h λd p h=>er [0,1,3,4,5,8,9] ?_;refine dE 1 (az 11 [] [] _::az 12 [0] [] _::az 13 [1] [] _::az 14 [2] [] _::az 15 [] [0] _::az 16 [3,4] [] (ca [t (d.getD b2),t d.isSome])::az 10 [5] [] _::az 17 [6] [] _::az 18 [6] [] _::az 6 [7] [] _::az 7 [8] [] _::[]) (dC ?_ hg) (λK=>?_)
 ·intro aq br aD aA av dQ;refine aT (Pv (r:=d) underlying317 LW my (kQ (ae (aA _ _ o)) l) (ae (aA _ _ o)) (je (n:=1) (dQ.trans o) (uR m) o) (dz p)) (V ?_);exact b5 (dv []) o o
 refine ce ?_;refine e4 ?_;exact go
instance:dd prog 437 _ _ _ ND t t (λr=>ca [t r.1,t r.2]):=.j (h:=λf a r h W A=>by
 refine ay λj l c d bB m p di B h=>?_;refine er [0,1,2,3,4,5,6,7,8,9,10,11,12,13,14] ?_;refine c8 5 (az 15 [] [3] _::az 16 [] [0] _::fL [0] [2] [2] (λaq=>a7 c ((fC a di (b2:aW)):ck aW 4))::fL [1] [1] [1] (λaq=>a7 d ((cu a bB):aW))::[]) (λC=>?_);refine ce ?_;refine e4 ?_;exact go)
def Ov{c d j a}(h:FH c d j=y a):cf prog 445 [t c,t d,t j] (J.jn 449 [Z a.1,Z a.2.1,Z a.2.2]):=by
 unfold FH at h;refine ci λl m=>?_;refine ay λp A B=>?_;refine aT (cc (CT .nilFunc)) (eG ?_);refine c1 0 5 o o (c1 1 4 o o (c1 2 3 o o (aT (LX (f:=449) (dF:=[Z j,Z d,Z c]) ⟨ae o,ae o,ae o,w⟩) ?_)));exact go
instance:ew prog 235 _ _ Ns t t:=.j (h:=λd r h W A=>by
 refine bl (aT (cc (look_nil (au:=cJ))) ?_);refine ay ?_;refine aT (Zf underlying45 (ae o)) (bC ?_);refine ar.Zg (ae o) (λa=>?_) ?_
 ·subst a;replace h:=VI h;subst h;have h:y ([]:R cJ)=y []:=rfl;refine bl (aT (cc (look_nil (au:=cJ))) (bC (bv (b' ?_))));replace h:=dz h;exact lQ
 refine gE (bl (aa.ry (au:=cJ) underlying45 tB Dc o o (.nil) o λf=>bJ ?_));refine aj h λj c h=>eM 0 underlying45 tB Dc c λl m=>?_;refine bI (bC (bv ?_));exact cq (au:=cJ) 0 [2,7] ⟨rfl,rfl,w⟩ o go)
instance:ew prog 236 _ _ Nt t t:=.j (h:=λd r h W A=>by
 refine bl (aT (cc (look_nil (au:=aW))) ?_);refine ay ?_;refine aT (Zf underlying46 (ae o)) (bC ?_);refine ar.Zg (ae o) (λa=>?_) ?_
 ·subst a;replace h:=VI h;subst h;have h:y ([]:R aW)=y []:=rfl;refine bl (aT (cc (look_nil (au:=aW))) (bC (bv (b' ?_))));replace h:=dz h;exact lQ
 refine gE (bl (aa.ry (au:=aW) underlying46 e3 mS o o (.nil) o λf=>bJ ?_));refine aj h λj c h=>eM 0 underlying46 e3 mS c λl m=>?_;refine bI (bC (bv ?_));exact cq (au:=aW) 0 [2,7] ⟨rfl,rfl,w⟩ o go)
instance:dd prog 467 _ _ _ Ix t t t:=.j (h:=λd f r h W A=>by
 refine ay (λh=>?_);refine aj h λa c h=>?_;refine gw c [] (cG 0 (t d) (cG 1 (t f) (cG 12 (t (u d:Int)) (cD.cF [13])))) (S (gx 0) h4) (S (λ_=>[]) (cD.cF [4])) (λj r h=>?_) ?_
 ·refine ay (λh=>?_);refine aj h λbB l h=>aj h λdi m h=>a' 9 ?_;exact go
 rcases a with a|a
 ·simp only[T]at h;exact go
 simp only[U]at h;exact go)
def ae0{a c d}(h:FA a c=y d):iW prog 206 [t c] a (t d) a:=by
 unfold FA at h;refine bP λl m=>?_;refine ay (λp A B C h=>?_);refine aj h λD f h=>aj h λE j h=>aT (aj2 underlying250 (kQ (ae o) f) (je (n:=0) o (tu j) o)) ?_;exact go
def ae1{j l a c d}(h:Jn j l a c=y d):iW prog 429 [t l,t a,t c] j (t d.1) d.2:=by
 unfold Jn at h;refine bP λF G=>?_;refine ay (λH h=>?_);refine aj h λI K h=>aj h λM N h=>aj h λO m h=>aj h λP p h=>aj h λf A h=>er [0,1,2,4,6,9,10] ?_;refine dE 1 (az 12 [] [] _::az 13 [0] [] _::az 14 [1] [] _::az 15 [2] [] _::az 16 [] [0] _::az 17 [3,4] [] (ca [t (f.getD b2),t f.isSome])::az 11 [5] [] _::az 18 [6] [] _::az 19 [6] [] _::az 7 [7] [] _::az 8 [8] [] _::[]) (dC ?_ hg) (λQ=>?_)
 ·intro aq br aD aA av dQ;refine aT (Pv (r:=f) underlying317 LW my (kQ (ae (aA _ _ o)) m) (ae (aA _ _ o)) (je (n:=1) (dQ.trans o) (uR p) o) (dz A)) (V ?_);exact b5 (dv []) o o
 refine ce ?_;refine e4 ?_;refine ay (λh=>?_);refine aj h λab ac h=>aj h λad ag h=>a' 6 ?_;refine aj h λah B h=>aj h λC D h=>aj h λai E h=>aa.Dd (ng:=Cell.qw (fB C a c)) 1 o (by first|exact .inl o|exact .inr o) underlying317 LW (kQ (ae o) B) (ae o) (ae o) (uR D) o o o (dz E) ?_;exact go
def agX{d a f}(h:Kr d a f):k4 prog 439 [t a] d f:=by
 unfold Kr at h;refine bP λp A=>?_;refine bl (aT (cc nk) (eG ?_));refine bJ ?_;refine cH LO ?_;refine cH Zh ?_;refine cl h λj l h=>jO l (iI (b:=({(b2:h6)with iB:=min (max 1 a) 128}:h6)) o anp anq (.cons Fe o (ae o) o (.nil))) ?_;refine aa.yp 0 o (Cell.lz j) (λ_=>rfl) (ae o) o λc m=>?_;replace h:=ag.oM h c m;refine bI (bC (bv ?_));exact ct (⟨⟨((y c.1:Ref),c.2),h⟩,()⟩: {r // _}×_) (.refl _) o o (dO o)
def Tz{a c d}(h:y0 a c=y d):cf prog 477 [t a,Z c] (t d):=by
 unfold y0 at h;refine ci λf j=>?_;exact go
def SP{a c d}(h:yU a c=y d):cf prog 476 [t a,J.nE prog c] (t d):=by
 unfold yU at h;refine ci λm p=>?_;refine ay ?_;refine aj h λf j h=>?_;refine gw j [] (cG 0 (t a) (cG 1 (J.nE prog c) (cG 7 (t (u a:Int)) (cD.cF [8])))) (S (gx 0) h4) (S (λ_=>[]) (cD.cF [4])) (λA d h=>?_) ?_
 ·refine ay (λbB B h=>?_);refine aj h λC l h=>aT (Ac (ae o) (ae o) l) ?_;exact go
 rcases f with f|f
 ·simp only[T]at h;exact go
 simp only[U]at h;exact go
def aca{c l m a}(h:D4 c l m=y a):cf prog 471 [t c,t l,J.wS prog m] (ca [t a.1,t a.2]):=by
 unfold D4 at h;refine ci λF G=>?_;refine ay λH=>?_;refine aj h λp d h=>?_;refine gw d [0,2,4,8] (cD.cF [9,10]) (gx 0) (cD.cF [9]) (λI a h=>?_) ?_
 ·refine ay (λh=>?_);refine aj h λbB A h=>aj h λK B h=>cr mixed 8 (rg 24 8) [[],[],[],[1,2],[3],[],[0,4,5],[6]] [_,_,_,_,_,_,_,_] ⟨dG,dG,dG,R0 A underlying53 fK,H1 (hn fK),pR 0 fK,ed λav=>KC (ae o) (ae o) (ae o) B,jB kj,w⟩ (bC ?_);refine aj h λC f h=>?_;refine fg [0,2,4,8] (cD.cF [9,10] C) [] ?_ (λhm j=>?_) λhm j=>?_
  ·exact go
  ·have h:=da j f;exact go
  have h:=db j f;exact go
 refine cO (bY (b3 (aj h λdi M h=>aj h λD E h=>er [0,2,4,8,9] ?_)));refine dE 1 (az 35 [] [] _::az 36 [] [] _::az 37 [] [] _::az 38 [1,2] [] _::az 39 [3] [] _::az 40 [4] [] _::az 41 [4] [] _::az 42 [4] [] _::az 43 [4,6,7] [] _::az 44 [4,8] [] _::az 45 [4] [0] _::az 46 [4,5,9,10] [] (J.cond ((bQ (p<(u c:Int)))=c0) (t D))::az 47 [4,11] [] _::az 48 [4,12] [] _::az 6 [0] [] _::az 7 [13] [] _::[]) (dC ?_ hg) (λN=>?_)
 ·exact fb.q (aaL o o o o (λaq=>rfl) λaq br aD aA av ax=>KC (ba (aA _ _ o) ax) (ba (aA _ _ o) ax) (ba (aA _ _ o) ax) (dT E ax))
 refine ce ?_;refine e4 ?_;exact go
instance:ew prog 231 _ _ JD t t:=.j (h:=λa r h W A=>by
 exact go)
def aeH{a c}(h:Of a=y c):cf prog 484 [t a] (t c):=by
 unfold Of at h;refine ci λd f=>?_;exact go
instance aaM:ew prog 238 _ _ xD t t:=.j (h:=λd f h j l=>by
 refine ay ?_;refine aj h λa c h=>?_;refine gw c [] (cG 5 (t d) (cG 6 (t (u d:Int)) (cD.cF [7]))) (S (gx 0) h4) (S (λ_=>[]) (cD.cF [2])) (λm f h=>?_) ?_
 ·exact go
 rcases a with a|a
 ·simp only[T]at h;exact go
 simp only[U]at h;exact go)
def afk{A f j}(h:FR A f=y j):cf prog 204 [t A,t f] (t j):=by
 unfold FR at h;refine ci λH I=>?_;refine bl (hT λK=>?_);refine aT (cc (look_nil (au:=h5))) (eG ?_);refine cb (au:=h5) 369 (aT (cc h7) ?_);refine ay λB M h=>?_;refine aj h λN l h=>?_;refine eC (aY:=bN) (aX:=bN) l [] (λc a=>[(1,t f),(5,bx (aH a.1 (u c.2) a.2)),(10,t B),(11,t (u B:Int)),(12,t c.1)]) (λc a=>[(0,⟨a.1,.row 369 c.2 a.2⟩)]) (λd=>X 0) (λd a=>[(5,bx (aH a.1 (u d) a.2))]) (λd a=>[(0,⟨a.1,.row 369 d a.2⟩)]) (cp,0) (λc j h a=>?_) λa=>?_
 ·refine go2 (λbB O P Q ab C h=>?_) (λh=>?_)
  ·refine aj h λD m h=>?_;refine fg [1,5,8,10,11,12] [] [(0,a7 C D)] ?_ (λhm p=>?_) λhm p=>?_
   ·refine ay ?_;refine aj h λac E h=>eM 2 underlying296 LQ QV E λF G=>?_;refine ay ?_;cases h;exact eE (F,G) 2
   ·have h:=da p m;exact go
   have h:=db p m;exact go
  cases h;exact ej (a.1,a.2) 0
 refine ay ?_;exact cq (au:=h5) 0 [4,5,34] ⟨rfl,rfl,rfl,w⟩ o go
def aeb{a d f c}(h:Ff a d f=y c):iW prog 423 [t d,t f] a (ca [t c.1,t c.2]) a:=by
 unfold Ff at h;refine bP λm p=>?_;refine ay λA B=>?_;refine aj h λC D h=>aj h λj l h=>er [0,1,2,3] ?_;refine dE 2 (az 6 [] [] _::az 7 [0] [1] _::az 8 [] [0] _::az 9 [2] [] _::az 10 [1,3] [] (ca [t j.1,t j.2])::az 11 [4] [] _::az 12 [4] [] _::az 4 [5] [] _::az 5 [6] [] _::[]) (dC ?_ hg) (λE=>?_)
 ·intro aq br aD aA av dQ;exact cI (c7 2 (dQ.trans o) .i (Ui l) ⟨ae (aA _ _ o),ae (aA _ _ o),w⟩) o o o (V (b5 (dv []) o o))
 refine ce ?_;refine e4 ?_;exact go
instance:dd prog 435 _ _ _ Br t t (λr=>ca [t r.1,t r.2.1,t r.2.2]):=.j (h:=λf j r h W A=>by
 refine ay λl m c d=>?_;refine aj h λp B h=>aj h λa C h=>c9 2 (er [0,1,2,3,4,5,6] ?_);refine c8 6 (az 10 [] [3] _::az 11 [] [2] _::az 12 [1] [] _::az 13 [0,2] [] _::az 9 [3] [] _::az 14 [4] [] _::az 15 [4] [] _::mY 7 [] 4 7 _::mY 8 [] 5 8 _::fL [5,7] [4] [4] (λaq=>a7 ((aq 7 0).getD 0) a.1)::fL [6,8] [5] [5] (λaq=>a7 ((aq 8 0).getD 0) a.2)::[]) (λD=>?_);refine ce ?_;refine e4 ?_;refine bu 4 o (bu 5 o (go2 (λh=>?_) (λh=>?_)))
 ·refine er [0,1,2,3,4,5,7,8,9,10,11,12,13,14,15,16,17,18,19,20,21] ?_;refine c8 6 (az 22 [] [1] _::az 23 [] [0] _::fL [0] [3] [3] (λaq=>a7 c a.1)::fL [1] [2] [2] (λaq=>a7 d a.2)::az 6 [] [] _::[]) (λE=>?_);refine ce ?_;refine e4 (bY (bv (b' ?_)));cases h;exact af.pM o (rG 3 LY) (rG 2 e3) (hd o)
 refine aj h λbB F h=>er [0,1,2,3,4,5,7,8,9,10,11,12,13,14,15,16,17,18,19,20,21] ?_;refine c8 6 (az 24 [] [1] _::az 25 [] [0] _::az 26 [] [] _::az 27 [2] [4] _::az 28 [] [] _::az 29 [4] [5] _::az 30 [3,5] [] _::az 31 [6] [] _::az 32 [7] [] _::fL [0] [3] [3] (λaq=>a7 c a.1)::fL [1] [2] [2] (λaq=>a7 d a.2)::az 6 [8] [] _::[]) (λG=>?_);refine ce ?_;refine e4 (bY (bv ?_));cases h;exact af.pM o (rG 3 LY) (rG 2 e3) (hd o))
instance Mg:dd prog 450 _ _ _ Cw t t t:=.j (h:=λa c d h f j=>by
 refine ay λl m p h=>?_;refine e1 (λax=>CM nj Xv ki o (ba o ax) o o) ?_;exact go)
instance:ew prog 186 _ _ OV t t:=.j (h:=λc r h W A=>by
 refine ay λd f=>?_;refine aj h λj l h=>aj h λm p h=>a' 7 ?_;refine wT 1 xg ys ?_;refine cP (bM wk.fd) ?_;refine aj h λB a h=>?_;refine rF 1 um u7 (ax:=by exact a) ?_;exact go)
instance:dd prog 462 _ _ _ JE t t t:=.j (h:=λa c r h W A=>by
 exact go)
def aeI{a c d f}(h:Fs a c d=y f):iW prog 425 [t c,t d] a (ca []) f:=by
 unfold Fs at h;refine bP λl m=>?_;refine ay λp A=>?_;refine aj h λB C h=>a' 7 ?_;refine aj h λD j h=>c5 2 0 o .i (ae1 j) o o ⟨ae o,ae o,ae o,w⟩ o λE=>co (V ?_);exact cA go
def adq{c a d}(h:NN c a=y d):cf prog 469 [Z c,t a] (t d):=by
 unfold NN at h;refine ci λl m=>?_;refine ay λp=>?_;refine aT (aj3 underlying262 (ae o)) (bC ?_);refine dl (ae o) o (ay ?_);refine c1 0 3 o o (aT (Al (F:=(λf=>y0 f a)) (dF:=[Z a]) .i ⟨ae o,w⟩ (λ_ _ h=>Tz h)) ?_);refine aj h λA j h=>hU .i (SP j) ?_;exact go
instance Dw:dd prog 177 _ _ _ qY t t t:=.j (h:=λa c d h f j=>by
 exact go)
def T5{c d f a}(h:BM c d f=y a):iW prog 137 [t d,t f] c (t a.1) a.2:=by
 unfold BM at h;refine bP λM N=>?_;refine bl (bI (eG ?_));refine bJ ?_;refine bJ ?_;refine aj h λO B h=>cI (c7 0 o .i (TS B) ⟨ae o,ae o,w⟩) o o o (bI (fl (b3 ?_)));refine aj h λP C h=>aj h λbB j h=>aj h λQ D h=>aj h λab E h=>aj h λac F h=>aj h λdi G h=>aj h λad H h=>cr mixed 19 (rg 9 19) [[],[0],[1],[2],[2],[2,3],[2,5],[2,4,6],[2,7],[2],[2,9],[2,10],[2,11],[2],[2,12,13],[2,14],[2,15],[2,8,16],[2,17]] [_,_,_,_,_,_,_,_,_,_,_,_,_,_,_,_,_,_,_] ⟨dG,jB kj,dG,bD λaD av=>λax=>cN (ae o),bD λaD av=>λax=>cN (ae o),bD λaD av=>λax=>fp (jI (ba o ax) (dT C ax)),bD λaD av=>λax=>bM CN.fd (ba o ax),bD λaD av=>λax=>hp Di (ba o ax) (ba o ax) (cz (dT j ax)),bD λaD av=>λax=>oN (((Y jE).comp yW).comp (b8 6 bB (cz (dT j ax)).1)) bz (ba o ax) (oZ (λi e q=>av i e q o) (je (n:=0) o (uQ (dT D ax)) o)) o o,bD λaD av=>λax=>cN (ae o),bD λaD av=>λax=>fp (jI (ba o ax) (dT E ax)),bD λaD av=>λax=>bM aj4.fd (ba o ax),bD λaD av=>λax=>oN ((Y jE).comp No) L9 (ba o ax) (oZ (λi e q=>av i e q o) (je (n:=0) o (uQ (dT F ax)) o)) o o,bD λaD av=>λax=>cN (ae o),bD λaD av=>λax=>jy (k:=di) underlying29 yq (ba o ax) (ba o ax) (cz (dT G ax)),bD λaD av=>λax=>oV E7 alo.fd (ba o ax) o o,bD λaD av=>λax=>hn bz (ba o ax),bD λaD av=>λax=>G8 (ba o ax) (ba o ax),vm H λaD av=>oY (ae o) (ae o) (λh=>h),w⟩ (bC ?_);refine fR h (λh=>?_) λh=>?_
 ·refine bl (bI (bC (bv (b' ?_))));cases h;exact ct () (.refl _) o o (dO o)
 refine gE (b3 (aj h λag l h=>aj h λfm m h=>aj h λI p h=>aj h λiw A h=>cr mixed 10 (rg 28 10) [[],[],[0],[2],[1,3],[4],[5],[0],[7],[1,8]] [_,_,_,_,_,_,_,_,_,_] ⟨dG,dG,ed λav=>fp (jI (ae o) l),H1 (bM CN.fd),ed λav=>hp Di (ae o) (ae o) (cz m),ed λav=>oN (((Y jE).comp yW).comp (b8 6 fm (cz m).1)) bz (ae o) (oZ (λi e q=>av i e q o) (je (n:=0) o (uQ p) o)) o o,jB hc,ed λav=>fp (jI (ae o) l),H1 (bM CN.fd),ed λav=>hp Di (ae o) (ae o) (cz A),w⟩ ?_));refine aj h λah K h=>aa.pC 0 o (((Y jE).comp yW).comp (b8 6 iw (cz A).1)) (v:=(aV ((cu I.kC fm)+1):Int)) bz (ae o) (ae o) (uQ p) o o o o (dz K) (eG (bI (bC (bv ?_))));cases h;exact ct () (.refl _) o o (dO o)
def adL{d f a c}(h:I4 d f a=y c):iW prog 430 [t f,t a] d (t c.1) c.2:=by
 unfold I4 at h;refine bP λB C=>?_;refine ay λD=>?_;refine aj h λE j h=>cI (c7 1 o .i (Ui j) ⟨ae o,ae o,w⟩) o o o ?_;refine ay (λh=>?_);refine aj h λF G h=>aj h λH I h=>a' 5 ?_;refine aj h λK l h=>aj h λm p h=>aj h λM A h=>aa.LR (ng:=Cell.qw (iT m a)) 1 o underlying317 LW (kQ (ae o) l) (ae o) (uR p) o o o (dz A) ?_;exact go
def acB(D:Nat):∀(a:aL Cell) (C:Ref) (c:Ref) (d:aW) (f:Int) (j:R fX) (l:Nat) (m:aw Nat) (p:Nat) (A:(R fX)),yV D a C c d f j=y A->bn prog 453 [t C,t c,t d,t f,t (⟨452,y [.pointer (y ⟨l,0,cp⟩)]⟩:Raw)] ([⟨y l,.bF ([]:R fX) [(0,aH m (u j) p)]⟩,⟨m,.row 542 j p⟩]++bc a) (aX:=bN) (λB=>ca []) (λB=>[⟨y l,.bF ([]:R fX) [(0,aH B.1 (u A) B.2)]⟩,⟨B.1,.row 542 A B.2⟩]++bc a):=by
 induction D with
 |zero=>intro a C c d f j l m p A h;simp[yV]at h
 | succ D E=>
   intro a C c d f j l m p A h
   simp only[yV]at h
   refine bP λad ag=>?_
   refine go2 (λI h=>?_) (λI h=>?_)
   ·refine bu 2 o (bu 2 o ?_)
    cases h
    exact c2 (m,p) (.cons_cons _ (.cons_cons _ (.cons _ (.refl _)))) o o
   refine cs 2 o (cs 2 o (aj h λah K h=>c6 (en.aqo (dF:=[t (c:Ref),t (d:aW),t (f:Int)]) 3 2 o .i (CH (ae o)) (ac4 K) o o ⟨ae o,ae o,ae o,w⟩) o o o λai=>co (fl ?_)))
   refine aj h λak F h=>aj h λal G h=>?_
   refine cr mixed 10 (rg 17 10) [[],[],[1],[2],[3],[4],[],[],[7],[]] [_,_,_,_,_,_,_,_,_,_] ⟨dG,dG,ed λav=>fp (jI (ae o) F),H1 (bM KX.fd),ed λav=>hp Q2 (ae o) (cU 0) ⟨by decide,rfl⟩,ed λav=>oN (((Y fJ).comp Bq).comp (b8 2 0 (⟨by decide,rfl⟩:0<2∧(0:Int)=0).1)) jW (ae o) (oZ (λi e q=>av i e q o) (je (n:=3) o (rl G) o)) o o,pR 2 e3,dG,jB hc,dG,w⟩ ?_
   refine aj h λam M h=>c6 (dK 3 2 o .i (E _ _ _ _ _ _ _ _ _ _ M) o o ⟨ae o,ae o,ae o,ae o,ae o,w⟩) o o o λan=>co (bC ?_)
   refine aj h λao N h=>aj h λap O h=>aj h λau P h=>aj h λay Q h=>aj h λaB ab h=>?_
   refine cr mixed 20 (rg 28 20) [[],[],[1],[2],[3],[4],[],[],[],[8],[9],[10],[11],[],[12,13],[7,14],[6,15],[],[17],[]] [_,_,_,_,_,_,_,_,_,_,_,_,_,_,_,_,_,_,_,_] ⟨dG,dG,ed λav=>fp (jI (ae o) F),H1 (bM KX.fd),ed λav=>hp Q2 (ae o) (cU 1) ⟨by decide,rfl⟩,ed λav=>oN (((Y fJ).comp Bq).comp (b8 2 1 (⟨by decide,rfl⟩:1<2∧(1:Int)=1).1)) jW (ae o) (oZ (λi e q=>av i e q o) (je (n:=3) o (rl G) o)) o o,pR 2 e3,ed λav=>fP L6.dj (L6.m _ _ N) ⟨nW 1 o,w⟩,dG,ed λav=>fp (jI (ae o) O),H1 (bM PR.fd),ed λav=>oN ((Y h6).comp Fe) bz (ae o) (oZ (λi e q=>av i e q o) (je (n:=3) o (xW P) o)) o o,jB sw,dG,jB sw,jZ aaE.dj (aaE.m _ _ _ Q),jZ aaF.dj (aaF.m _ _ _ ab),dG,jB hc,dG,w⟩ ?_
   refine aj h λaC ac h=>c6 (dK 3 2 o .i (E _ _ _ _ _ _ _ _ _ _ ac) o o ⟨ae o,ae o,ae o,ae o,ae o,w⟩) o o o λH=>co (V ?_)
   refine cA (bu 1 o (bu 1 o ?_))
   cases h
   exact c2 (H.1,H.2) (.cons_cons _ (.cons_cons _ (.cons _ (.refl _)))) o o
def acJ{c l m p A d f B C j}(h:Nj c l m p A d=y j):bn prog 453 [t l,t m,t p,t A,t (⟨452,y [.pointer (y ⟨f,0,cp⟩)]⟩:Raw)] ([⟨y f,.bF ([]:R fX) [(0,aH B (u d) C)]⟩,⟨B,.row 542 d C⟩]++bc c) (aX:=bN) (λa=>ca []) (λa=>[⟨y f,.bF ([]:R fX) [(0,aH a.1 (u j) a.2)]⟩,⟨a.1,.row 542 j a.2⟩]++bc c):=acB bX c l m p A d f B C j h
def acT{a c j d f l}(h:IC a c=y l):bn prog 469 [bZ j,t c] [⟨y j,.bF ({a with cw:=[]}:fT) [(10,aH d (u a.cw) f)]⟩,⟨d,.row 70 a.cw f⟩] (aX:=bG) (λm=>t l) (λm=>[⟨y j,.bF ({a with cw:=[]}:fT) [(10,aH d (u a.cw) f)]⟩,⟨d,.row 70 a.cw f⟩]):=by
 unfold IC at h;refine bP λB C=>?_;refine ay λD=>?_;refine aT (Li underlying262 (ae o)) (bC ?_);refine dl (ae o) o (ay ?_);refine aT (fG (i:=1) (q:=0) sJ (ae o) o o) ?_;refine c1 0 3 o o (aT (Al (F:=(λp=>y0 p c)) (dF:=[Z c]) .i ⟨ae o,w⟩ (λ_ _ h=>Tz h)) ?_);refine aj h λE A h=>aT (aZ.Hl (au:=aJ) 2 10 o o tm (fP .i (SP A) ⟨ae o,ae o,w⟩)) ?_;refine bI (bC (bv ?_));refine bu 2 o (bu 2 o ?_);cases h;exact ff ()
instance:dd prog 269 _ _ _ Kl t t t:=.j (h:=λI K r h W A=>by
 refine bl (hT λM=>?_);refine hT λN=>?_;refine iL mS λO=>fl ?_;refine aj h λB C h=>aj h λD E h=>c9 2 (er [0,1,2,3,4] ?_);refine dL mixed (az 8 [] [2] _::az 9 [0] [] _::az 10 [] [1] _::az 11 [2] [] _::⟨y 5,[],[3],[3],λaq=>bZ ((aq 4 0).getD 0),λaq _=>a7 ((aq 4 0).getD 0) (b2:ck aI 128)⟩::⟨y 6,[],[4],[4],λaq=>bZ ((aq 5 0).getD 0),λaq _=>a7 ((aq 5 0).getD 0) (b2:ck aI 128)⟩::fL [1,4] [3] [3] (λaq=>a7 ((aq 4 0).getD 0) B)::fL [3,5] [4] [4] (λaq=>a7 ((aq 5 0).getD 0) D)::[]) ⟨vd 2 e3,eF λaA av=>fP sE.dj (sE.m _ _ C) ⟨ae (aA _ _ o),w⟩,vd 1 e3,eF λaA av=>fP sE.dj (sE.m _ _ E) ⟨ae (aA _ _ o),w⟩,?_,?_,?_,?_,w⟩ λd=>?_
 ·intro aq br aD aA av;refine iL Db λF=>V ?_;exact cv 3 (av 3 _ o o) (b5 (dv [y F]) o o)
 ·intro aq br aD aA av;refine iL Db λG=>V ?_;exact cv 4 (av 4 _ o o) (b5 (dv [y G]) o o)
 ·intro aq br aD aA av;refine cn (i:=3) (Y (ck aI 128)) ye (ae (aA _ _ o)) (ae (aA _ _ o)) (av 3 _ o o) o o (V ?_);exact b5 (dv []) o o
 ·intro aq br aD aA av;refine cn (i:=4) (Y (ck aI 128)) ye (ae (aA _ _ o)) (ae (aA _ _ o)) (av 4 _ o o) o o (V ?_);exact b5 (dv []) o o
 refine ce ?_;refine e4 ?_;refine bu 3 o (bu 4 o (bY (b3 (bl (bJ (bC (b1 ?_)))))));refine aj h λP f h=>?_;refine eC (aY:=bG) (aX:=bG) f [4,5] (λc a=>[(6,bZ ((d 5 0).getD 0)),(12,t c.1)]) (λc a=>[(1,a7 ((d 4 0).getD 0) c.2)]) (λj=>X 0) (λj a=>[]) (λj a=>[(1,a7 ((d 4 0).getD 0) j)]) () (λc r h a=>?_) λa=>?_
 ·refine bl (cH kj (fl ?_));refine fR h (λh=>?_) λh=>?_
  ·refine gE (b3 (b1 (bl (bJ ?_))));refine bI (bC (c3 ?_));refine bJ ?_;refine bJ ?_;refine aj h λbB l h=>aT (hp wB (ae o) (ae o) (cz l)) ?_;refine jz 1 ((Y (ck aI 128)).comp (b8 128 bB (cz l).1)) hv ?_;refine bJ ?_;refine jY cN ?_;refine aj h λdi m h=>e1 (λax=>hp wB (ae o) (ba o ax) (cz (dT m ax))) ?_;refine e1 (λax=>iq (i:=0) ((Y (ck aI 128)).comp (b8 128 di (cz (dT m ax)).1)) hv (ba o ax) o o o) ?_;refine HF ?_;refine aj h λfm p h=>aT (hp wB (ae o) (ae o) (cz p)) ?_;refine wT 1 ((Y (ck aI 128)).comp (b8 128 fm (cz p).1)) hv (V ?_);refine dN (bY (c3 (cH hc ?_)));refine bJ (V ?_);cases h;exact eE () 0
  refine ds (dt ?_);cases h;exact ej () 0
 refine cO (bY (bl (j6 1 ye ?_)));refine aj h λQ H h=>hU L4.dj (L4.m _ _ H) ?_;refine oc 2 e3 (bC (bv ?_));cases h;exact af.Ds o (rG 2 e3))
instance:dd prog 218 _ _ _ JF t t t:=.j (h:=λm p r h W A=>by
 refine ay λB j l C h=>?_;refine aj h λD d h=>?_;refine eC (aY:=bG) (aX:=bG) d [4,5] (λc a=>[(0,t l),(6,t c.1)]) (λc a=>[(0,a7 j c.2)]) (λf=>X 0) (λf a=>[]) (λf a=>[(0,a7 j f)]) () (λc r h a=>?_) λa=>?_
 ·exact go
 exact go)
instance:dd prog 162 _ _ _ te t t t:=.j (h:=λF G r h W A=>by
 refine bl (hT λH=>?_);refine hT λI=>?_;refine bI (fl ?_);refine aj h λm p h=>aj h λB C h=>c9 2 (er [0,1,2,3,4] ?_);refine dL mixed (az 8 [] [1] _::az 9 [0] [] _::az 10 [] [0] _::az 11 [2] [] _::⟨y 5,[],[2],[2],λaq=>bZ ((aq 4 0).getD 0),λaq _=>a7 ((aq 4 0).getD 0) (b2:ck aI 128)⟩::⟨y 6,[],[3],[3],λaq=>bZ ((aq 5 0).getD 0),λaq _=>a7 ((aq 5 0).getD 0) (b2:ck aI 128)⟩::fL [1,4] [2] [2] (λaq=>a7 ((aq 4 0).getD 0) m)::fL [3,5] [3] [3] (λaq=>a7 ((aq 5 0).getD 0) B)::[]) ⟨vd 1 e3,eF λaA av=>fP sE.dj (sE.m _ _ p) ⟨ae (aA _ _ o),w⟩,vd 0 e3,eF λaA av=>fP sE.dj (sE.m _ _ C) ⟨ae (aA _ _ o),w⟩,?_,?_,?_,?_,w⟩ λd=>?_
 ·intro aq br aD aA av;refine iL Db λD=>V ?_;exact cv 2 (av 2 _ o o) (b5 (dv [y D]) o o)
 ·intro aq br aD aA av;refine iL Db λE=>V ?_;exact cv 3 (av 3 _ o o) (b5 (dv [y E]) o o)
 ·intro aq br aD aA av;refine cn (i:=2) (Y (ck aI 128)) ye (ae (aA _ _ o)) (ae (aA _ _ o)) (av 2 _ o o) o o (V ?_);exact b5 (dv []) o o
 ·intro aq br aD aA av;refine cn (i:=3) (Y (ck aI 128)) ye (ae (aA _ _ o)) (ae (aA _ _ o)) (av 3 _ o o) o o (V ?_);exact b5 (dv []) o o
 refine ce ?_;refine e4 ?_;refine bu 2 o (bu 3 o (bY (b3 (bl (bI (bC (b1 ?_)))))));refine aj h λa c h=>?_;refine gw c [] (cG 5 (bZ ((d 4 0).getD 0)) (cG 6 (bZ ((d 5 0).getD 0)) (cD.cF [7]))) (S (gx 0) h4) (S (λ_=>[]) (cD.cF [4])) (λK r h=>?_) ?_
 ·refine b3 (bl (bJ ?_));refine cH G8 (bC ?_);refine fR h (λh=>?_) λh=>?_
  ·refine gE (b3 (b1 (b3 (aj h λbB f h=>aj h λdi j h=>cr mixed 7 (rg 16 7) [[],[0],[1],[],[3],[4],[2,5]] [_,_,_,_,_,_,_] ⟨dG,ed λav=>hp wB (ae o) (ae o) (cz f),iM 1 ((Y (ck aI 128)).comp (b8 128 bB (cz f).1)) hv,dG,ed λav=>hp wB (ae o) (ae o) (cz j),iM 0 ((Y (ck aI 128)).comp (b8 128 di (cz j).1)) hv,jB (Zl underlying4),w⟩ (bC ?_)))));refine fR h (λh=>?_) λh=>?_
   ·refine b3 (bl (bJ ?_));refine aj h λfm l h=>aT (hp wB (ae o) (ae o) (cz l)) ?_;refine jz 0 ((Y (ck aI 128)).comp (b8 128 fm (cz l).1)) hv (bC ?_);refine fR h (λh=>?_) λh=>?_
    ·refine bl (bI (bC (bv (b' ?_))));refine c4 (b' ?_);cases h;exact ej () 0
    refine gE (bl (bI (bC (bv ?_))));refine c4 (b' ?_);cases h;exact ej () 0
   refine cd (dN (bY (c3 (bJ ?_))));refine cH sw ?_;refine bI (V ?_);cases h;exact eE () 0
  refine ds (dt ?_);cases h;exact ej () 0
 rcases a with a|a
 ·simp only[T]at h;refine cO (bY (bl (bI (bC (bv ?_)))));cases h;exact lQ
 simp only[U]at h;refine c4 (b' ?_);cases h;exact lQ)
instance aaN:dd prog 155 _ _ _ FI t t t:=.j (h:=λa c d h f j=>by
 refine ay λl m p h=>?_;refine aT (GL (k:=3) underlying187 j5 (ae o) (cU 3) ⟨by decide,rfl⟩) ?_;exact go)
def acK{d m f j l a}(h:Ep d m=y a):bn prog 465 [bZ f,t m] [⟨y f,.bF ({d with cw:=[]}:fT) [(10,aH j (u d.cw) l)]⟩,⟨j,.row 70 d.cw l⟩] (aX:=bN) (λc=>t a.1) (λc=>[⟨y f,.bF ({a.2 with cw:=[]}:fT) [(10,aH c.1 (u a.2.cw) c.2)]⟩,⟨c.1,.row 70 a.2.cw c.2⟩]):=by
 unfold Ep at h;refine bP λC D=>?_;refine ay ?_;refine aj h λE A h=>cI (dm [0,1] .i (acT A) ⟨ae o,ae o,w⟩ o ⟨rfl,rfl,w⟩ o) o o o ?_;refine go2 (λh=>?_) (λh=>?_)
 ·refine bu 1 o (bu 1 o ?_);cases h;exact ff (j,l)
 refine aT (fG (i:=0) (q:=0) sJ (ae o) o o) ?_;refine ay ?_;refine cs 1 o (aj h λF B h=>cy 1 .i (ace B) λp=>?_);refine ay ?_;refine aa.h8 (i:=1) ((Y fT).comp BK) sJ (ae o) (ae o) hy o o o o ?_;refine ay ?_;refine bu 0 o (bu 1 o ?_);cases h;exact ff (p.1,p.2)
instance:dd prog 265 _ _ _ JG t t t:=.j (h:=λp I r h W A=>by
 refine ay λK C=>?_;refine aT (cc (look_nil (au:=cQ))) (eG ?_);refine cb (au:=cQ) 138 (aT (cc h7) ?_);refine ay ?_;refine aj h λM j h=>?_;refine eC (aY:=bN) (aX:=bN) j [] (λd a=>[(3,bZ C),(5,bx (aH a.1 (u d.2) a.2)),(10,t p.dh),(11,t (u p.dh:Int)),(12,t d.1)]) (λd a=>[(0,⟨a.1,.row 138 d.2 a.2⟩)]) (λf=>X 0) (λf a=>[(5,bx (aH a.1 (u f) a.2))]) (λf a=>[(0,⟨a.1,.row 138 f a.2⟩)]) (cp,0) (λd r h a=>?_) λa=>?_
 ·refine go2 (λbB N O h=>?_) (λh=>?_)
  ·refine aj h λP Q h=>aj h λD ab h=>c9 1 (er [3,5,7,10,11,12,13,14,15] ?_);refine c8 5 (az 16 [] [] _::az 17 [0] [0] _::az 18 [] [] _::az 19 [2] [0] _::az 20 [] [2] _::az 21 [] [] _::az 22 [5] [0] _::az 23 [4,6] [] _::az 24 [1,3,7] [] _::mY 8 [] 4 9 _::fL [8,9] [4] [4] (λaq=>a7 ((aq 9 0).getD 0) D)::[]) (λac=>?_);refine ce ?_;refine e4 ?_;refine bu 4 o (ay ?_);refine aj h λad E h=>e1 (λax=>aZ.abn 31 o ax (aZ.Hl (au:=cQ) 2 31 o o Gt (fP .i (ack (dT E ax)) ⟨ae o,ba o ax,w⟩))) ?_;refine ay ?_;refine aj h λB l h=>?_;refine hs (aY:=bN) [3,10,11,12] (λc=>[(5,bx (aH c.1 (u B) c.2))]) (λc=>[(2,⟨c.1,.row 138 B c.2⟩)]) (λc=>?_) (λhm m=>?_) λhm m=>?_
   ·refine ay ?_;cases h;exact eE (c.1,c.2) 2
   ·have h:=da m l;refine ay ?_;refine aj h λag F h=>eM 2 underlying101 Dh LU F λG H=>?_;refine bI (V ?_);cases h;exact cL 0 (hm (G,H))
   have h:=db m l;refine cd ?_;cases h;exact cL 0 (hm (a.1,a.2))
  cases h;exact ej (a.1,a.2) 0
 refine ay ?_;exact cq (au:=cQ) 0 [4,5,41] ⟨rfl,rfl,rfl,w⟩ o go)
def adr{a c d}(h:EL a c=y d):cf prog 175 [t a,t c] (t d):=by
 unfold EL at h;refine ci λf j=>?_;refine ay λl m=>?_;refine aj h λp A h=>aj h λB C h=>aj h λD E h=>aj h λF G h=>a' 23 ?_;exact go
instance:jg prog 86 _ _ _ _ JY t t t (λr=>ca [t r.1,t r.2]):=.j (h:=λl B m r h W A=>by
 refine ay (λC p D E bB F h=>?_);refine aj h λd f h=>?_;refine eC (aY:=bG) (aX:=bG) f [6] (λj c=>[(2,t m),(22,t ((al l.eo bB).iH)),(23,t (u ((al l.eo bB).iH):Int)),(24,t j)]) (λj c=>[]) (λa=>S (λa=>X 0) (λa=>dk) a) (λa c=>S (λa=>[]) (λa=>[(7,t a.1)]) a) (λa c=>S (λa=>[]) (λa=>[(0,a7 p a.2)]) a) () (λj r h c=>?_) λc=>?_
 ·exact go
 rcases d with d|d
 ·simp only[T]at h;exact go
 simp only[U]at h;exact go)
instance:dd prog 219 _ _ _ OP t t t:=.j (h:=λa c r h W A=>by
 refine ay λd=>?_;refine aj h λf j h=>aj h λbB l h=>a' 8 ?_;exact go)
instance:dd prog 217 _ _ _ xz t t t:=.j (h:=λa c r h W A=>by
 refine ay λd f=>?_;refine aj h λj l h=>a' 5 ?_;exact go)
instance:jg prog 89 _ _ _ _ OW t t t t:=.j (h:=λa c d r h W A=>by
 refine ay λf=>?_;refine aj h λj l h=>aj h λbB m h=>aj h λp B h=>a' 10 ?_;exact go)
instance:dd prog 220 _ _ _ Kc t t t:=.j (h:=λa c r h W A=>by
 exact go)
instance:dd prog 223 _ _ _ Kd t t t:=.j (h:=λa c r h W A=>by
 exact go)
instance Mh:dd prog 358 _ _ _ vO t t t:=.j (h:=λl m p h A B=>by
 refine AM (λa c d h=>?_) (λa c d f j h=>?_) (λa c d f j h=>?_)
 ·refine aj h λC D h=>aj h λE F h=>a' 8 ?_;exact go
 ·refine aj h λG H h=>aj h λI K h=>a' 8 ?_;exact go
 refine aj h λM N h=>aj h λO P h=>a' 8 ?_;exact go)
instance Mi:jg prog 404 _ _ _ _ Gk t t t t:=.j (h:=λj l m p h A B=>by
 refine ay λC D E=>?_;refine aj h λF a h=>aj h λG c h=>aj h λH d h=>aj h λI f h=>cr mixed 7 (rg 7 7) [[],[0],[],[2],[],[1,3,4],[5]] [_,_,_,_,_,_,_] ⟨pR 2 e3,jZ sE.dj (sE.m _ _ a),pR 1 e3,jZ sE.dj (sE.m _ _ c),dG,jZ .i (agp d),jZ L4.dj (L4.m _ _ f),w⟩ ?_;exact go)
def acr{m A a B C f}(h:Eg m A=y f):bn prog 399 [bZ a,t A] [⟨y a,.bF ({m with bL:=[]}:bf) [(3,aH B (u m.bL) C)]⟩,⟨B,.row 375 m.bL C⟩] (aX:=bN) (λj=>t f.1) (λj=>[⟨y a,.bF ({f.2 with bL:=[]}:bf) [(3,aH j.1 (u f.2.bL) j.2)]⟩,⟨j.1,.row 375 f.2.bL j.2⟩]):=by
 unfold Eg at h;refine bP λQ ab=>?_;refine ay ?_;refine cs 1 o (cs 1 o (aj h λD F h=>cy 2 .i (vx F) λd=>?_));refine go2 (λac ad h=>?_) (λh=>?_)
 ·refine cs 1 o (cs 1 o (aj h λag G h=>cy 2 .i (rX G) λE=>?_));refine ay ?_;refine bu 1 o (bu 1 o ?_);cases h;exact ff (E.1,E.2)
 refine aj h λbB H h=>aj h λah I h=>?_;refine cr mixed 24 (rg 12 24) [[],[0],[1],[2],[],[4],[5],[6],[7],[3,8],[9],[10],[10,11],[10,12],[10,13],[10],[10,15],[10,16],[10,17],[10,14,18],[10,19],[10,20],[10,21],[10,22]] [_,_,_,_,_,_,_,_,_,_,_,_,_,_,_,_,_,_,_,_,_,_,_,_] ⟨dG,H1 fp,H1 (bM xP.fd),ed λav=>ho (i:=0) ((Y bf).comp kv) bz (ae o) (av _ _ o o) o o (by rfl),dG,H1 fp,H1 (bM CO.fd),ed λav=>ho (i:=0) ((Y bf).comp uo) yg (ae o) (av _ _ o o) o o (by rfl),H1 (mT underlying376),jB ir,dG,bD λaD av=>λax=>cN (ae o),bD λaD av=>λax=>fp (ba o ax),bD λaD av=>λax=>bM CO.fd (ba o ax),bD λaD av=>λax=>ho (i:=0) ((Y bf).comp uo) yg (ba o ax) (av _ _ o o) o o (by rfl),bD λaD av=>λax=>cN (ae o),bD λaD av=>λax=>fp (ba o ax),bD λaD av=>λax=>bM xP.fd (ba o ax),bD λaD av=>λax=>ho (i:=0) ((Y bf).comp kv) bz (ba o ax) (av _ _ o o) o o (by rfl),bD λaD av=>λax=>jy (k:=bB) underlying376 qt (ba o ax) (ba o ax) (cz (dT H ax)),bD λaD av=>λax=>oV BH KY.fd (ba o ax) o o,bD λaD av=>λax=>hn bz (ba o ax),bD λaD av=>λax=>Av (ba o ax) (cU 2),vm I λaD av=>oY (ae o) (ae o) (λh=>h),w⟩ ?_;refine go2 (λh=>?_) (λh=>?_)
 ·refine aj h λai K h=>aa.lp (i:=0) ((Y bf).comp xj) hv (ae o) (gU c0) o o (dz K) (by rfl) ?_;refine ay ?_;refine af.gQ ((Y bf).comp kL) 0 0 o o o (bu 1 o (bu 1 o ?_));cases h;exact ff (d.1,d.2)
 refine qC 0 kv bz ?_;refine ay ?_;refine aj h λc M h=>aa.lp (i:=0) ((Y bf).comp kv) bz (ae o) (ae o) o o (dz M) (by rfl) ?_;refine fl (aj h λfm ak h=>aj h λN am h=>aj h λl O h=>er [0,1] ?_);refine ar.tL mixed [15] [(0,46,bZ a),(1,47,t A),(2,48,bZ a),(3,49,bZ a),(4,50,J.jC a uo),(5,51,t c.cw),(6,52,bZ a),(7,53,bZ a),(8,54,J.jC a kv),(9,55,t c.du),(10,56,t (aV (c.du-1))),(11,57,Z (al c.cw fm)),(12,58,Z ((al c.cw fm).ia)),(13,59,t ((al c.cw fm).ia)),(14,60,t N)] ?_;refine fe.md [] [0,1,2,3,4,5,6,7,8,9,10,11,12,13,14] [15] ⟨?_,w⟩;refine gf.of (aP:=[16]) (λx:bN=>[(61,t l.1)]) (λx=>[(16,4,t l.1)]) (λx=>[⟨y a,.bF ({l.2 with bL:=[]}:bf) [(3,aH x.1 (u l.2.bL) x.2)]⟩,⟨x.1,.row 375 l.2.bL x.2⟩]) (λp=>?_) (λan P cH ao aA k=>?_)
 ·refine fe.abo [14,13,12,11,10,9,8,7,6,5,4,3,2,1,0] [16] ?_;refine ce ?_;refine abp [0,1,4] (bY (bv ?_));refine bu 1 o (bu 1 o ?_);cases h;exact ff (p.1,p.2)
 cases P;refine aa.gQ ((Y bf).comp kL) 0 0 o o o (cs 1 o (cs 1 o (aa.kG (dJ:=[⟨y a,.bF ({c with bL:=[]}:bf) [(3,aH d.1 (u D.2.bL) d.2)]⟩,⟨d.1,.row 375 D.2.bL d.2⟩]) (b9:=[]) .i (rX O) ⟨ae (aA o),ae (aA o),w⟩ o λp=>V ?_)))
 exact k p
instance:dd prog 274 _ _ _ JZ t t (λr=>ca [t r.1,t r.2]):=.j (h:=λa f r h W A=>by
 refine ay ?_;refine aj h λc d h=>?_;refine gw d [] (cG 0 (t a) (cG 1 (t f) (cG 9 (t a) (cG 10 (t (u a:Int)) (cD.cF [11]))))) (S (gx 0) h4) (S (λ_=>[(0,t a)]) (cD.cF [4,5])) (λj r h=>?_) ?_
 ·exact go
 rcases c with c|c
 ·simp only[T]at h;exact go
 simp only[U]at h;exact go)
def Fg{a c d f}(h:vE a c=y f):k3 prog 168 [bZ d,t c] d a (t f) a:=by
 unfold vE at h;refine bP λj l=>?_;refine ay λm=>?_;refine aj h λp A h=>a' 7 ?_;exact go
instance:dd prog 92 _ _ _ Ci t t t:=.j (h:=λa c r h W A=>by
 exact go)
instance:dd prog 94 _ _ _ Ce t t t:=.j (h:=λd f r h W A=>by
 refine ay ?_;refine aj h λa c h=>?_;refine gw c [] (cG 0 (t d) (cG 1 (t f) (cD.cF [5]))) (S (gx 0) h4) (S (λ_=>[(0,t d),(1,t f)]) (cD.cF [4])) (λj r h=>?_) ?_
 ·refine ay (λh=>?_);refine aj h λbB l h=>aj h λdi m h=>aj h λp B h=>a' 9 ?_;exact go
 rcases a with a|a
 ·simp only[T]at h;exact go
 simp only[U]at h;exact go)
def afw{a c d}(h:F1 a c=y d):cf prog 228 [t a,t c] (t d):=by
 unfold F1 at h;refine ci λf j=>?_;exact go
def adM{a c d}(h:EX a c=y d):cf prog 240 [t a,t c] (t d):=by
 unfold EX at h;refine ci λf j=>?_;refine ay (λl m h=>?_);refine aj h λp A h=>aj h λB C h=>aj h λD E h=>aj h λF G h=>aj h λH I h=>aj h λK M h=>aj h λN O h=>aj h λP Q h=>a' 27 ?_;exact go
def adN{d:Int}{j:aW}{l:Ref}:GW prog 449 [Z d,Z j,Z l] (λP:Int=>t P) (λ{m p} E C F=>zl (bb:=m) (bp:=p) d j l E C F):=by
 refine GW.of func449 o ntmps449 o ?_;intro m p K A M E al Q C F ab N h am an D ac;replace h:zl d j l E C F N:=h;unfold zl at h;refine ay ?_;refine ar.Yo (bb:=Int×(m)) (bp:=(Int×aI×(m))⊕(Int×Int×Int×aI×aI×aI×(p))) (aY:=K) (aX:=K) h (λf c=>[(0,bx D),(1,Z d),(2,Z j),(3,Z l),(7,t d),(8,t f.1)]) (λf c=>(A f.2 c)) (λa=>S (λa=>X 0) (λa=>dk) a) (λa c=>S (λa=>[(0,bx D),(1,Z d),(2,Z j),(3,Z l),(7,t d),(8,t a.1),(9,t a.2.1)]) (λa=>[(0,bx D),(1,Z d),(2,Z j),(3,Z l),(5,t a.1),(6,t a.2.1),(7,t d),(8,t a.2.2.1),(9,t a.2.2.2.1),(19,t a.2.2.2.2.1),(23,t a.2.2.2.2.2.1)]) a) (λa c=>S (λa=>(A a.2.2 c)) (λa=>(M a.2.2.2.2.2.2 c)) a) ab o .all (λf N h c=>?_) (λB h c=>?_)
 ·refine go2 (λh=>?_) (λh=>?_)
  ·refine cl h λao ad h=>cl h λap ah h=>cl h λai aj h=>cr mixed 9 (rg 11 9) [[],[],[1],[2],[3],[4],[],[5,6],[0,7]] [_,_,_,_,_,_,_,_,_] ⟨H1 (hn e3),H1 (hn Zn),ed λav=>fp (jI (ae o) ad),H1 (bM PR.fd),ed λav=>oN ((Y h6).comp Fe) bz (ae o) (oZ (λi e q=>av i e q o) (Zo (eJ:=A) (s:=f.2) (g:=c) 0 o Q (xW ah) o)) o o,jB sw,dG,jB sw,jZ Mg.dj (Mg.m _ _ _ aj),w⟩ (bC ?_);refine cl h λak G h=>?_;refine ar.bs (aY:=bG) (λO=>[(0,bx D),(1,Z d),(2,Z j),(3,Z l),(5,t f.1),(6,t ak),(7,t d),(8,t f.1),(9,t (bQ (f.1<d))),(19,t ai)]) (λO=>(A f.2 c)) (ae o) (λO=>?_) (λhm H=>?_) (λhm H=>?_)
   ·refine ay ?_;refine aa.alp (dJ:=[]) (eJ:=A) (js:=M) (step:=C) (s:=f.2) (jr:=c) o ac o (ae o) h o (λau h I=>?_) (λaw h I=>?_)
    ·simp only[T]at h;refine dR ?_;refine cP lr (bC ?_);refine dl (ae o) (by first|rfl|(rw[ax];rfl)) ?_;refine ay ?_;exact af.uL h I 0 o .all
    simp only[U]at h;refine dR ?_;refine cP lr (bC ?_);refine ar.Q0 (ae o) (by first|rfl|(rw[ax];rfl)) ?_;exact bv (c4 (b' (af.rj h I 0 o (by simp) o .all)))
   ·have h:=da H G;exact go
   have h:=db H G;exact go
  exact af.rj h c 0 o (by simp) o .all
 rcases B with B|B
 ·simp only[T]at h;exact cO (cA (c2 (⟨⟨(.inl B.2.2:m⊕p),h⟩,c⟩: {r // _}×_) (.refl _) o o))
 simp only[U]at h;exact c4 (c2 (⟨⟨(.inr B.2.2.2.2.2.2:m⊕p),h⟩,c⟩: {r // _}×_) (.refl _) o o)
def TP{B:aL Cell}{d:Int}{j:aW}{l:Ref}:GX prog 449 [Z d,Z j,Z l] B (λP:Int=>t P) (λ{p C} =>vB (bb:=p) (bp:=C) B d j l):=by
 refine GX.of func449 o ntmps449 o ?_;intro p C I m K an Q M ab ac N h ao ap A ad;replace h:vB B d j l M ab=y N:=h;unfold vB at h;refine ay ?_;refine aj h λD E h=>ar.LZ (bb:=Int×(p)) (bp:=(Int×aI×(p))⊕(Int×Int×Int×aI×aI×aI×(C))) (aY:=I) (aX:=I) E (λf c=>[(0,bx A),(1,Z d),(2,Z j),(3,Z l),(7,t d),(8,t f.1)]) (λf c=>(m f.2 c)) (λa=>S (λa=>X 0) (λa=>dk) a) (λa c=>S (λa=>[(0,bx A),(1,Z d),(2,Z j),(3,Z l),(7,t d),(8,t a.1),(9,t a.2.1)]) (λa=>[(0,bx A),(1,Z d),(2,Z j),(3,Z l),(5,t a.1),(6,t a.2.1),(7,t d),(8,t a.2.2.1),(9,t a.2.2.2.1),(19,t a.2.2.2.2.1),(23,t a.2.2.2.2.2.1)]) a) (λa c=>S (λa=>(m a.2.2 c)) (λa=>(K a.2.2.2.2.2.2 c)) a) ac o .all (λf N h c=>?_) (λc=>?_)
 ·refine go2 (λh=>?_) (λh=>?_)
  ·refine aj h λau ag h=>aj h λaw ah h=>aj h λai ak h=>cr mixed 9 (rg 11 9) [[],[],[1],[2],[3],[4],[],[5,6],[0,7]] [_,_,_,_,_,_,_,_,_] ⟨H1 (hn e3),H1 (hn Zn),ed λav=>fp (jI (ae o) ag),H1 (bM PR.fd),ed λav=>oN ((Y h6).comp Fe) bz (ae o) (oZ (λi e q=>av i e q o) (anw (eJ:=m) (s:=f.2) (g:=c) 0 o Q (xW ah) o)) o o,jB sw,dG,jB sw,jZ Mg.dj (Mg.m _ _ _ ak),w⟩ (bC ?_);refine aj h λal F h=>ar.bs (aY:=bG) (λO=>[(0,bx A),(1,Z d),(2,Z j),(3,Z l),(5,t f.1),(6,t al),(7,t d),(8,t f.1),(9,t (bQ (f.1<d))),(19,t ai)]) (λO=>(m f.2 c)) (ae o) (λO=>?_) (λhm G=>?_) (λhm G=>?_)
   ·refine ay ?_;refine aj h λaB am h=>aa.yield (dJ:=[]) (eJ:=m) (js:=K) (step:=M) (s:=f.2) (jr:=c) o ad o (ae o) am o (λaC aF H=>?_) (λaE aF H=>?_)
    ·subst aF;simp only[T]at h;refine dR ?_;refine cP lr (bC ?_);refine dl (ae o) (by first|rfl|(rw[ax];rfl)) ?_;refine ay ?_;cases h;exact eE H 0
    subst aF;simp only[U]at h;refine dR ?_;refine cP lr (bC ?_);refine ar.Q0 (ae o) (by first|rfl|(rw[ax];rfl)) ?_;refine bv (c4 (b' ?_));cases h;exact ej H 0
   ·have h:=da G F;exact go
   have h:=db G F;exact go
  cases h;exact ej c 0
 rcases D with D|D
 ·simp only[T]at h;refine cO (cA ?_);cases h;exact c2 c (.refl _) o o
 simp only[U]at h;refine c4 ?_;cases h;exact c2 c (.refl _) o o
instance:ew prog 213 _ _ uv t t:=.j (h:=λa r h W A=>by
 exact go)
def aeJ{a c d f}(h:Ft a c d=y f):iW prog 207 [t c,t d] a (t f) a:=by
 unfold Ft at h;refine bP λj l=>?_;refine ay ?_;refine aj h λm p h=>aj h λA B h=>aj h λC D h=>aj h λbB E h=>a' 14 ?_;exact go
def ads{a c d f}(h:EM a c d=y f):iW prog 426 [t c,t d] a (ca []) f:=by
 unfold EM at h;refine bP λl m=>?_;refine ay λp A=>?_;refine aj h λB C h=>a' 5 ?_;refine aj h λD j h=>c5 2 0 o .i (adL j) o o ⟨ae o,ae o,w⟩ o λE=>co (V ?_);exact cA go
def acC{d A j f K0 K1 l}(h:Im d A j=y l):bn prog 451 [t A,t (⟨452,y [.pointer (y ⟨f,0,cp⟩)]⟩:Raw)] ([⟨y f,.bF ([]:R fX) [(0,aH K0 (u j) K1)]⟩,⟨K0,.row 542 j K1⟩]++bc d) (aX:=bN) (λc=>ca []) (λc=>[⟨y f,.bF ([]:R fX) [(0,aH c.1 (u l) c.2)]⟩,⟨c.1,.row 542 l c.2⟩]++bc d):=by
 unfold Im at h;refine bP λE F=>?_;refine ay ?_;refine aj h λB m h=>?_;refine vc (aY:=bN) 2 [] (λa=>[]) (λa=>[(0,⟨y f,.bF ([]:R fX) [(0,aH a.1 (u B) a.2)]⟩),(1,⟨a.1,.row 542 B a.2⟩)]) (λa=>bc d) (λa=>?_) (λhm p=>?_) (λhm p=>?_)
 ·refine cA (bu 1 o (bu 1 o ?_));cases h;exact c2 (a.1,a.2) (.cons_cons _ (.cons_cons _ (.refl _))) o o
 ·have h:=da p m;refine ay λG H I K h=>?_;refine aj h λM D h=>c6 (dK 2 2 o .i (acJ D) o o ⟨ae o,ae o,ae o,cU 0,ae o,w⟩) o o o λC=>co (V ?_);cases h;exact cL 0 (hm (C.1,C.2))
 have h:=db p m;refine cd ?_;cases h;exact cL 0 (hm (K0,K1))
def Ua{a c d f j}(h:BT a c d f=y j):iW prog 446 [t c,t d,t f] a (t j) a:=by
 unfold BT at h;refine bP λl m=>?_;refine ay λp=>?_;refine aj h λA B h=>aj h λC D h=>aj h λE F h=>aj h λG H h=>aj h λI K h=>aj h λM N h=>aj h λO P h=>a' 26 ?_;exact go
def af4{c f j m}(h:Co c=y m):bn prog 466 [bx (aH f (u c) j)] [⟨f,.row 70 c j⟩] (aX:=bG) (λB=>t m) (λB=>[⟨f,.row 70 c j⟩]):=by
 unfold Co at h;refine bP λF G=>?_;refine bl (aT (cc (look_nil (au:=aJ))) (eG ?_));refine cb (au:=aJ) 70 (aT (cc h7) ?_);refine ay ?_;refine aT (nv (i:=1) underlying53 (ae o) o o) ?_;refine bJ (bC (b1 ?_));refine aj h λH p h=>?_;refine eC (aY:=bN) (aX:=bN) p [] (λd a=>[(3,bx (aH a.1 (u d.2) a.2)),(6,bx (aH f (u c) j)),(7,t (u c:Int)),(8,t d.1)]) (λd a=>[(0,⟨a.1,.row 70 d.2 a.2⟩)]) (λl=>X 0) (λl a=>[(3,bx (aH a.1 (u l) a.2))]) (λl a=>[(0,⟨a.1,.row 70 l a.2⟩)]) (cp,0) (λd m h a=>?_) λa=>?_
 ·refine go2 (λh=>?_) (λh=>?_)
  ·refine aj h λbB A h=>aT (jx (i:=1) underlying53 fK (ae o) (ae o) o (cz A)) ?_;refine aT (mh (i:=1) (k:=bB) (Y aJ) fK (ae o) o (cz A).1 o o) ?_;refine ay λI K M h=>?_;refine aj h λN C h=>eM 1 underlying53 fK ly C λD E=>?_;refine ay ?_;cases h;exact eE (D,E) 1
  cases h;exact ej (a.1,a.2) 0
 refine ay ?_;exact cq (au:=aJ) 0 [2,3,18] ⟨rfl,rfl,rfl,w⟩ o go
def aec{a d f j c}(h:Fh a d f j=y c):iW prog 232 [t d,t f,t j] a (ca [t c.1,t c.2]) a:=by
 unfold Fh at h;refine bP λB C=>?_;refine ay (λD E F G H h=>?_);refine aj h λI l h=>aj h λK m h=>aj h λp A h=>aT (uI (r:=p) underlying250 AN ly (kQ (ae o) l) (ae o) (je (n:=1) o (tu m) o) (dz A)) ?_;exact go
instance:dd prog 482 _ _ _ F2 t t t:=.j (h:=λc d r h W A=>by
 refine ay λf j l m p h=>?_;refine aj h λB a h=>aT (fP .i (S9 a) ⟨ae o,Ws .i (λ_ _=>aeH),w⟩) ?_;exact go)
def afl{a c d}(h:JH a c=y d):iW prog 448 [t c] a (t d) a:=by
 unfold JH at h;refine bP λp A=>?_;refine bl (aT (cc (look_nil (au:=fX))) (eG ?_));refine aa.pB (z:=(b2:R fX)) [0] aj5 anA o λj=>cb (au:=fX) 542 ?_;refine ay ?_;refine aT (L0 (f:=452) (us:=[.pointer (y ⟨j,0,cp⟩)]) ⟨ae o,w⟩) ?_;refine aa.gQ (aY:=fX) (et:=([]:R fX)) (Y (R fX)) 1 0 o o o (cs 0 o (cs 1 o (aj h λl m h=>c6 (dK 2 2 o .i (acC (K0:=cp) (K1:=0) m) o o ⟨ae o,ae o,w⟩) o o o λB=>co (eG ?_))));refine aT (fG (i:=0) (q:=0) (b7:=R fX) (aY:=fX) QW (ae o) o o) ?_;refine bI (bC (bv ?_));exact af.yh (b7:=R fX) (aY:=fX) (et:=l) (Y (R fX)) 0 1 0 2 o o o o o o o (af.qq 0 o go)
def adt{d a c f}(h:EN d a c f):AQ prog 460 [t a,t c] d f:=by
 unfold EN at h;refine bP λF G=>?_;refine ay λl m=>?_;refine cl h λH p h=>cl h λI A h=>cl h λB C h=>c6 (en.obj 2 (λq:aw Nat×Nat=>Cell.u6 B.2 q.1 q.2) o (Ao A) .i (acK C) o (λ_=>rfl) ⟨jI (ae o) p,ae o,w⟩) o o o λD=>?_;replace h:=ag.any_bind h D;refine cl h λj E h=>?_;refine aa.qE (mC:=(a7 m c::a7 l a::bc j)) (by rw[<-dz E];rfl) ?_;exact V (cA (c2 (⟨⟨j,h⟩,()⟩: {r // _}×_) (fv 2) o o))
def T6{C A D B l}(h:BN C A D B=y l):iW prog 211 [t A,t D,t B] C (ca []) l:=by
 unfold BN at h;refine bP λI K=>?_;refine ay (λM h=>?_);refine aj h λN O h=>aj h λP Q h=>aj h λE ab h=>a' 8 (bC (b1 ?_));refine aj h λac a h=>?_;refine yB (bb:=Int×(aL Cell)) (bp:=(aL Cell)) (aY:=bG) (aX:=bG) a 1 [0,2,4] (λf c=>[(17,t E),(18,t (u E:Int)),(19,t f.1)]) (λf c=>[]) (λf c=>bc f.2) (λm=>X 0) (λm c=>[]) (λm c=>[]) (λm c=>bc m) () (λf l h c=>?_) (λc=>?_)
 ·refine ay (λbB ad ag h=>?_);refine aj h λah G h=>c5 2 0 o .i (T4 G) o o ⟨ae o,ae o,ae o,cU 0,w⟩ o λai=>co ?_;exact go
 refine cO (bY (b3 (aj h λak al h=>aj h λF am h=>a' 8 (bC (b1 ?_)))));refine aj h λan a h=>?_;refine yB (bb:=Int×(aL Cell)) (bp:=(aL Cell)) (aY:=bG) (aX:=bG) a 1 [] (λj d=>[(0,t A),(2,t B),(33,t F),(34,t (u F:Int)),(35,t j.1)]) (λj d=>[]) (λj d=>bc j.2) (λp=>X 2) (λp d=>[]) (λp d=>[]) (λp d=>bc p) () (λj l h d=>?_) (λd=>?_)
 ·refine ay (λdi ao ap h=>?_);refine aj h λau H h=>c5 2 0 o .i (T4 H) o o ⟨ae o,ae o,cU 0,ae o,w⟩ o λaw=>co ?_;exact go
 exact cO (cA go)
def ae2{d C D}(h:FB d C D):k4 prog 100 [t C] d D:=by
 unfold FB at h;refine bP λQ ab=>?_;refine bl (aT (cc (look_nil (au:=jh))) (fl (bl ?_)));refine bJ ?_;refine aT (CI underlying121 (ae o)) (bC ?_);refine My h (λh=>?_) λh=>?_
 ·refine bl (aT (cc (look_nil (au:=jh))) (bC (bv (b' ?_))));exact ct (⟨⟨(([]:R jh),d),h⟩,()⟩: {r // _}×_) (.refl _) o o (dO o)
 refine gE (bl (cb (au:=jh) 140 (aT (cc h7) ?_)));refine ay λac ad ah ai h=>?_;refine cl h λj H h=>cl h λp A h=>aa.Yp (au:=cQ) (b7:=kN) (jt:=p) 1 o underlying199 (kQ (ae o) H) (uP A) o o λB l m E=>bC (b1 ?_);refine wV (aY:=bN) (aX:=bN) h 2 [] (λc a=>[(3,bx (aH a.1 (u c.2) a.2)),(12,bZ B)]) (λc a=>[(0,⟨y B,.is (mZ j l m c.1)⟩),(1,⟨a.1,.row 140 c.2 a.2⟩)]) (λc a=>nF j (.map l m) (bc d)) (λf=>X 0) (λf a=>[(3,bx (aH a.1 (u f.2) a.2))]) (λf a=>[(0,⟨y B,.is (mZ j l m f.1)⟩),(1,⟨a.1,.row 140 f.2 a.2⟩)]) (λf a=>nF j (.map l m) (bc d)) (cp,0) (λc aj h a=>?_) (λak h a=>?_)
 ·refine bl (aa.Zq (jt:=p) 0 (ae o) o (Ll 2 o (uP A) o) E o λI F=>?_);replace h:=ag.VJ h I F;refine aT (Yq (ae o)) ?_;refine go2 (λh=>?_) (λh=>?_)
  ·refine cl h λbB K h=>aT (Wt (jt:=p) (sN:=c.1) 0 (ae o) o (Ll 2 o (uP A) o) E F K) ?_;refine ay λal am an ao h=>?_;refine cl h λap M h=>eM 3 underlying133 Zr anD M λN O=>?_;refine bI (V ?_);exact dN (af.uL h (N,O) 2 o .all)
  exact af.rj h (a.1,a.2) 0 o (by simp) o (.same o .nil)
 refine ay ?_;refine cs 1 o (c6 (en.kG 1 .i (acj h) o o ⟨ae o,Wu .i (λ_ _ _ h=>adr h),w⟩) o o o λ⟨P,G,h⟩=>?_);refine co ?_;refine aa.hL 3 o G (aa.hL 27 o G (ay ?_));exact af.Dj 2 o (cq (au:=jh) 0 [2,3,27,29] ⟨rfl,rfl,rfl,rfl,w⟩ o (ct (⟨⟨(P,d),h⟩,()⟩: {r // _}×_) (fv 2) o o (dO o)))
def aiI{c:R fY}{p:Nat}(aQ:u c<=1000):∀(l d a:Nat),a+l=u c->l<d->
 cj (bb:=Int×(aL Cell)) (bp:=(aL Cell)) d (λj=>
 cond (bQ (j.1<(u c:Int))) (
  (idx (u c) j.1).bind λbB=>
  (yi j.2 p).bind λB=>
  (y (cS j.2 p (Cell.tF (fB B (al c bB) c0)))).bind λC=>
  y (.inl (aV (j.1+1),C))) (
  y (.inr j.2))) ((a:Int),[(p,Cell.tF ((c.take a).foldl (λf x=>fB f x c0) []))])=y [(p,Cell.tF (c.foldl (λf x=>fB f x c0) []))]:=by
 intro l
 induction l with
 | zero=>
   intro d a h hm
   obtain⟨d,rfl⟩:∃k,d=k+1:=⟨d-1,by omega⟩
   have:a=u c:=by omega
   subst this
   unfold cj
   simp
 | succ l D=>
   intro d a h hm
   obtain⟨d,rfl⟩:∃k,d=k+1:=⟨d-1,by omega⟩
   have m:a<u c:=by omega
   have E:bQ ((a:Int)<(u c:Int))=c0:=xl (by omega)
   have F:idx (u c) (a:Int)=y a:=by unfold idx;rw[bT (by omega)];simp
   have G:aV ((a:Int)+1)=((a+1:Nat):Int):=by rw[eU (by omega) (by omega)];omega
   have H:(c.take (a+1)).foldl (λf x=>fB f x c0) []=fB ((c.take a).foldl (λf x=>fB f x c0) []) (al c a) c0:=by
    rw[List.take_succ_eq_append_getElem m,Ez,dI c m];rfl
   have A:=D d (a+1) (by omega) (by omega)
   rw[H]at A
   unfold cj
   simp only[E,cond_true,F,b4,yi,pat,l7,cS,G]
   exact A
def aiJ{c d E}(h:JQ c d=y E):JW [] c d (λq=>(q.1,q.2.1)=E):=by
 unfold JQ at h;split at h;case isFalse=>cases h
 rename_i aQ;unfold JW;rintro ⟨A,an⟩ ⟨_,ax⟩;simp only at ax;subst ax;have M:=aiI (p:=A) aQ (u d) bX 0 (by omega) (by unfold bX;omega);refine⟨_,M,?_⟩;obtain⟨⟨⟩,N,j⟩:=xb.1 h;obtain⟨F,O,G,rfl⟩:=VK (P:=λ(_:bG) (F:bG⊕(Int×Int))=> ∃G,F=Sum.inl G) (yH:=λf=>
  cond (bQ (f<(u c:Int))) (
   (idx (u c) f).bind λdi=>
   (bs (((al c di).cm)==3) c0 (yi [(A,Cell.tF (d.foldl (λQ x=>fB Q x c0) []))] A)).bind λab=>
   (bs (((al c di).cm)==3) c0 (y ((dU ab ({bW:=(al c di).bW,eY:=(al c di).eY:fY})).getD b2))).bind λac=>
   cond ((((al c di).cm)==3)&&(!ac)) (
    y (.inr (Sum.inr (f,6)))) (
    (J6 c f).bind λad=>
    cond (!ad) (
     y (.inr (Sum.inr (f,12)))) (
     y (.inl (aV (f+1)))))) (
   y (.inr (Sum.inl ())))) (λag B a=>by
  cases l:bQ (ag<(u c:Int))with
  |false=>rw[l]at a;cases a;exact .inr ⟨_,_,rfl,rfl,_,rfl⟩
  | true=>
    simp only[l,cond_true]at a⊢
    obtain⟨k,ah,a⟩:=xb.1 a
    simp only[ah,b4]at a⊢
    have H:=Wv ({bW:=(al c k).bW,eY:=(al c k).eY:fY}) d []
    simp only[dU,Option.getD_none,N0]at H
    cases I:((al c k).cm==3)with
    | false=>
      simp only[I,Bool.false_and,cond_false,bs,b4,qP,nV]at a⊢
      obtain⟨C,D,a⟩:=xb.1 a
      simp only[D,b4]at a⊢
      cases C with
      |false=>cases a
      |true=>cases a;exact .inl ⟨_,rfl,rfl⟩
    | true=>
      have aq:(b2:aI)=false:=rfl
      simp only[I,tb,bs,b4,yi,pat,l7,aq,H]at a⊢
      cases K:(d.any λai=>decide (({bW:=(al c k).bW,eY:=(al c k).eY:fY})=ai))with
      |false=>rw[K]at a;cases a
      | true=>
        simp only[K,Bool.not_true,cond_false]at a⊢
        obtain⟨C,D,a⟩:=xb.1 a
        simp only[D,b4]at a⊢
        cases C with
        |false=>cases a
        |true=>cases a;exact .inl ⟨_,rfl,rfl⟩) _ _ _ N
 refine⟨_,O,?_⟩;simp only[T];cases l:bQ (aV ((u c:Int)-1)<0)with
 |true=>rw[l]at j;cases j
 | false=>
   rw[l]at j
   simp only[cond_false]at j⊢
   obtain⟨k,aj,ak⟩:=xb.1 j
   obtain⟨B,am,m⟩:=xb.1 ak
   refine⟨k,aj,B,am,?_⟩
   cases a:(B.kR !=2)with
   |true=>rw[a]at m;cases m
   |false=>rw[a]at m⊢;exact dz m
def afx{d f c}(h:JQ d f=y c):cf prog 254 [t d,t f] (ca [t c.1,t c.2]):=
 bn.flat (afR (aiJ h)) λa=>by
  have j:(a.1.1.1,a.1.1.2.1)=c:=a.1.2;have l:a.1.1.1=c.1:=eO Prod.fst j;have m:a.1.1.2.1=c.2:=eO Prod.snd j;show ca [t a.1.1.1,t a.1.1.2.1]=_;rw[l,m]
instance:jg prog 303 _ _ _ _ Ks t t t (λr=>ca [t r.1,t r.2]):=.j (h:=λa c d r h W A=>by
 refine ay λf j=>?_;refine aT (cc Lk) ?_;refine bI (fl (bl ?_));refine bJ (bC (b1 (bl ?_)));refine cH ir ?_;refine bI (bC ?_);refine fR h (λh=>?_) λh=>?_
 ·refine ay λl m h=>?_;refine aT (mn underlying365 o (ae o) (λ_ _ _ h=>Gu h)) ?_;exact go
 refine bl (cH ir ?_);refine bI (bC ?_);refine fR h (λh=>?_) λh=>?_
 ·refine ay λp B h=>?_;refine aT (mn underlying365 o (ae o) (λ_ _ _ h=>Gu h)) ?_;exact go
 refine R4 (λC D h=>?_) (λE F h=>?_) (λG H h=>?_) (λI K h=>?_) (λM N h=>?_) (λh=>?_)
 ·refine aT (mn underlying365 o (ae o) (λ_ _ _ h=>Gu h)) ?_;exact go
 ·refine aT (mn underlying358 o (ae o) (λ_ _ _ h=>sj h)) ?_;exact go
 ·refine aT (mn underlying358 o (ae o) (λ_ _ _ h=>sj h)) ?_;exact go
 ·refine aT (mn underlying358 o (ae o) (λ_ _ _ h=>sj h)) ?_;exact go
 ·refine aT (mn underlying358 o (ae o) (λ_ _ _ h=>sj h)) ?_;exact go
 refine aT (cc Lk) ?_;exact go)
def Un{a C c D m}(h:B3 a C c D=y m):iW prog 443 [t C,t c,t D] a (t m) a:=by
 unfold B3 at h;refine bn.ofM func443 o ntmps443 o λI K=>?_;refine ay λp A=>?_;refine aj h λM F h=>cI (c7 2 o .i (Ua F) ⟨ae o,ae o,ae o,w⟩) o o o (cP lr (bC ?_));refine fR h (λh=>?_) λh=>?_
 ·refine bl (cn (i:=0) (Y Ref) jW (ae o) nk o o o (bC (bv (b' ?_))));cases h;exact af.Hn (ct () (fv 2) o o (mU (i:=0) jW o o))
 refine ay λN O P Q B h=>?_;refine aj h λab G h=>hU .i (Ov G) (bC (b1 ?_));refine aj h λac j h=>?_;refine VL (aC:=a) (aY:=bG) (g0:=()) (eJ:=λd f=>(a7 B d::a7 A (b2:Ref)::a7 p c::bc a)) (js:=λl f=>(a7 B l.1::a7 A l.2::a7 p c::bc a)) (λd f=>[a7 B d,a7 A (b2:Ref),a7 p c]) (λl=>.ret) o .i o TP j (λ_ _=>rfl) o o (λad d m h f ag ah ai ak E al H=>?_) (λd aF f E=>?_) (λl aF f E=>?_)
 ·refine c3 (bI (V ?_));refine af.begin 0 o H (b1 (b3 (bl ?_)));refine j6 2 jW ?_;refine aT (CI underlying527 (ae o)) (bC ?_);refine fR h (λh=>?_) λh=>?_
  ·refine bl (cn (i:=3) (Y Ref) jW (ae o) nk o o o ?_);refine ay ?_;cases h;exact af.alq () 0 o o o
  refine ay λam an bB ao ap au h=>?_;cases h;exact af.abq () 0 o
 ·clear j;subst aF;simp only[T]at h;refine af.eh ?_;refine ay ?_;cases h;refine af.Mj 0 o o ?_;exact ct () (fv 4) o o (mU (i:=2) jW o o)
 clear j;subst aF;simp only[U]at h;refine bv (af.eh ?_);refine c4 (b' ?_);cases h;refine af.Mj 0 o o ?_;exact ct () (fv 4) o o (mU (i:=2) jW o o)
def ac6{a f c d j}(h:EH a=y j):bn prog 461 [bZ f] [⟨y f,.bF ({a with cw:=[]}:fT) [(10,aH c (u a.cw) d)]⟩,⟨c,.row 70 a.cw d⟩] (aX:=bG) (λl=>t j) (λl=>[⟨y f,.bF ({a with cw:=[]}:fT) [(10,aH c (u a.cw) d)]⟩,⟨c,.row 70 a.cw d⟩]):=by
 unfold EH at h;refine bP λp A=>?_;refine bl (aT (cc (look_nil (au:=aJ))) ?_);refine ay ?_;refine aT (Li underlying262 (ae o)) (bC ?_);refine dl (ae o) o (ay ?_);refine aT (fG (i:=0) (q:=0) sJ (ae o) o o) ?_;refine aj h λB m h=>cI (dm [1] .i (af4 m) ⟨ae o,w⟩ o ⟨rfl,w⟩ o) o o o (bI (bC (bv ?_)));refine bu 1 o (bu 1 o ?_);cases h;exact ff ()
instance:jg prog 153 _ _ _ _ JI t t t t:=.j (h:=λa c d r h W A=>by
 refine ay λf j=>?_;refine aj h λbB l h=>aj h λm p h=>a' 8 ?_;exact go)
instance:jg prog 152 _ _ _ _ Jo t t t t:=.j (h:=λD E F r h W A=>by
 refine go2 (λa c d f j l m p B C h=>?_) (λa c d f j l m p B C G H h=>?_)
 ·refine aj h λI K h=>aj h λM N h=>a' 18 ?_;exact go
 refine e1 (λax=>oY (ba o ax) (ae o) (λh=>⟨ax,h⟩)) ?_;exact go)
instance:dd prog 156 _ _ _ JJ t t t:=.j (h:=λd f r h W A=>by
 refine ay (λj h=>?_);refine aj h λa c h=>?_;refine gw c [] (cG 1 (t f) (cG 14 (t d.e2) (cG 15 (t (u d.e2:Int)) (cD.cF [16])))) (S (gx 0) h4) (S (λ_=>[]) (cD.cF [4])) (λl r h=>?_) ?_
 ·refine ay (λbB m p h=>?_);refine aj h λdi B h=>aj h λC D h=>a' 8 ?_;exact go
 rcases a with a|a
 ·simp only[T]at h;exact go
 simp only[U]at h;exact go)
def af5{K p M B}(h:Gc K p M=y B):cf prog 159 [t K,t p,t M] (t B):=by
 unfold Gc at h;refine ci λaJ aL=>?_;refine ay λab aM aN=>?_;refine aT (cc (look_nil (au:=gj))) (eG ?_);refine cb (au:=gj) 313 (aT (cc h7) ?_);refine ay ?_;refine aj h λaO C h=>?_;refine eC (aY:=bN) (aX:=bN) C [5] (λm c=>[(3,bZ ab),(7,bx (aH c.1 (u m.2) c.2)),(13,t p.bS),(14,t (u p.bS:Int)),(15,t m.1)]) (λm c=>[(0,⟨c.1,.row 313 m.2 c.2⟩)]) (λA=>X 0) (λA c=>[(7,bx (aH c.1 (u A) c.2))]) (λA c=>[(0,⟨c.1,.row 313 A c.2⟩)]) (cp,0) (λm B h c=>?_) λc=>?_
 ·refine go2 (λbB aR aS ac h=>?_) (λh=>?_)
  ·refine aj h λad D h=>?_;refine fg [3,5,7,9,10,13,14,15] [] [(0,a7 ac ad)] ?_ (λhm a=>?_) λhm a=>?_
   ·refine ay λag=>?_;refine aj h λah E h=>?_;refine fg [3,5,7,9,10,11,13,14,15] [] [(0,a7 ag ah)] ?_ (λhm a=>?_) λhm a=>?_
    ·refine ay ?_;refine aj h λN F h=>?_;refine hs (aY:=bN) [3,5,13,14,15] (λd=>[(7,bx (aH d.1 (u N) d.2))]) (λd=>[(3,⟨d.1,.row 313 N d.2⟩)]) (λd=>?_) (λhm a=>?_) λhm a=>?_
     ·refine ay ?_;cases h;exact eE (d.1,d.2) 3
     ·have h:=da a F;refine ay λaU aV aW aZ h=>?_;refine aj h λa0 ai h=>eM 3 underlying243 Ax Dg ai λak al=>?_;refine bI (V ?_);cases h;exact cL 0 (hm (ak,al))
     have h:=db a F;refine ay ?_;refine aj h λO G h=>?_;refine hs (aY:=bN) [3,5,13,14,15] (λf=>[(7,bx (aH f.1 (u O) f.2))]) (λf=>[(3,⟨f.1,.row 313 O f.2⟩)]) (λf=>?_) (λhm a=>?_) λhm a=>?_
     ·cases h;exact cL 0 (hm (f.1,f.2))
     ·have h:=da a G;refine aj h λa1 a2 h=>aj h λa3 a4 h=>aj h λa5 a6 h=>a' 13 ?_;refine aj h λa8 am h=>eM 3 underlying243 Ax Dg am λan ao=>?_;refine bI (V ?_);cases h;exact cL 0 (hm (an,ao))
     have h:=db a G;refine ay ?_;refine aj h λP H h=>?_;refine hs (aY:=bN) [3,5,13,14,15] (λj=>[(7,bx (aH j.1 (u P) j.2))]) (λj=>[(3,⟨j.1,.row 313 P j.2⟩)]) (λj=>?_) (λhm a=>?_) λhm a=>?_
     ·cases h;exact cL 0 (hm (j.1,j.2))
     ·have h:=da a H;refine ay λa9 a_ bb bc h=>?_;refine aj h λbd ap h=>eM 3 underlying243 Ax Dg ap λaw aB=>?_;refine bI (V ?_);cases h;exact cL 0 (hm (aw,aB))
     have h:=db a H;refine ay ?_;refine aj h λQ I h=>?_;refine hs (aY:=bN) [3,5,13,14,15] (λl=>[(7,bx (aH l.1 (u Q) l.2))]) (λl=>[(3,⟨l.1,.row 313 Q l.2⟩)]) (λl=>?_) (λhm a=>?_) λhm a=>?_
     ·cases h;exact cL 0 (hm (l.1,l.2))
     ·have h:=da a I;refine ay λbe bf bg bh h=>?_;refine aj h λbi aC h=>eM 3 underlying243 Ax Dg aC λaE aG=>?_;refine bI (V ?_);cases h;exact cL 0 (hm (aE,aG))
     have h:=db a I;refine cd ?_;cases h;exact cL 0 (hm (c.1,c.2))
    ·have h:=da a E;exact go
    have h:=db a E;exact go
   ·have h:=da a D;exact go
   have h:=db a D;exact go
  cases h;exact ej (c.1,c.2) 0
 refine ay λbj bk bm bn h=>?_;refine aj h λbo aI h=>eM 0 underlying243 Ax Dg aI λbp bq=>?_;refine bI (bC (bv ?_));exact cq (au:=gj) 0 [6,108] ⟨rfl,rfl,w⟩ o go
instance aaO:dd prog 363 _ _ _ Gl t t t:=.j (h:=λa c d h f j=>by
 refine ay λl m p=>?_;refine aj h λA B h=>aj h λC D h=>a' 4 ?_;exact go)
instance:jg prog 478 _ _ _ _ F6 t t t t:=.j (h:=λa c d r h W A=>by
 refine ay λf j l=>?_;refine aj h λm p h=>aj h λB C h=>aj h λD E h=>aj h λF G h=>aj h λH I h=>aj h λK M h=>a' 24 ?_;exact go)
def afm{a c d}(h:B6 a c=y d):iW prog 442 [t c] a (t d) a:=by
 unfold B6 at h;refine bP λj l=>?_;refine ay ?_;refine aj h λm f h=>cI (c7 0 o .i (afl f) ⟨ae o,w⟩) o o o ?_;exact go
def On{a c d f}(h:FC a c d=y f):iW prog 140 [t c,t d] a (ca []) f:=by
 unfold FC at h;refine bP λl m=>?_;refine ay λp=>?_;refine aj h λA j h=>c5 1 0 o .i (T6 j) o o ⟨ae o,ae o,cU 1,w⟩ o λB=>co (V ?_);exact cA go
def NV{a c d f}(h:EY a c d=y f):iW prog 143 [t c,t d] a (ca []) f:=by
 unfold EY at h;refine bP λl m=>?_;refine ay λp=>?_;refine aj h λA j h=>c5 1 0 o .i (T6 j) o o ⟨ae o,ae o,cU (-1),w⟩ o λB=>co (V ?_);exact cA go
def ac7{A B C}(h:IM A B C):k4 prog 82 [t B] A C:=by
 unfold IM at h;refine bP λK M=>?_;refine bl (aT (cc (look_nil (au:=cQ))) (eG ?_));refine cb (au:=cQ) 138 (aT (cc h7) ?_);refine ay ?_;refine c5 1 0 o .i (ae2 h) o o ⟨ae o,w⟩ o λ⟨⟨d,h⟩,N⟩=>?_;refine co ?_;refine ay ?_;refine cl h λE l h=>?_;refine yB (bb:=Int×(R cQ)) (bp:=(R cQ)) (aY:=bN) (aX:=bN) l 1 [] (λf a=>[(3,bx (aH a.1 (u f.2) a.2)),(7,t d.1),(8,t (u d.1:Int)),(9,t f.1)]) (λf a=>[(0,⟨a.1,.row 138 f.2 a.2⟩)]) (λf a=>bc d.2) (λj=>X 0) (λj a=>[(3,bx (aH a.1 (u j) a.2))]) (λj a=>[(0,⟨a.1,.row 138 j a.2⟩)]) (λj a=>bc d.2) (cp,0) (λf F h a=>?_) (λa=>?_)
 ·refine go2 (λbB O P Q ab h=>?_) (λh=>?_)
  ·refine aj h λD m h=>?_;refine vc (aY:=bN) 2 [7,8,9] (λc=>[(3,bx (aH c.1 (u D) c.2))]) (λc=>[(1,⟨c.1,.row 138 D c.2⟩)]) (λc=>bc d.2) (λc=>?_) (λhm p=>?_) (λhm p=>?_)
   ·refine ay ?_;cases h;exact eE (c.1,c.2) 1
   ·have h:=da p m;refine ay ?_;refine aj h λac G h=>eM 1 underlying101 Dh LU G λH I=>?_;refine bI (V ?_);cases h;exact cL 0 (hm (H,I))
   have h:=db p m;refine cd ?_;cases h;exact cL 0 (hm (a.1,a.2))
  cases h;exact ej (a.1,a.2) 0
 refine ay ?_;exact cq (au:=cQ) 0 [2,3,27] ⟨rfl,rfl,rfl,w⟩ o (ct (⟨⟨(E,d.2),h⟩,()⟩: {F // _}×_) (fv 1) o o (dO o))
instance:dd prog 87 _ _ _ Jx t t t:=.j (h:=λd m r h W A=>by
 refine ay (λl f p B bB C j D E h=>?_);refine aj h λa c h=>?_;refine gw c [] (cG 2 (bZ l) (cG 3 (bZ f) (cG 6 (bZ j) (cG 29 (t ((al d.bK bB).bS)) (cG 30 (t (u ((al d.bK bB).bS):Int)) (cD.cF [31])))))) (S (gx 0) h4) (S (λ_=>[(3,bZ f),(6,bZ j)]) (cD.cF [4])) (λF r h=>?_) ?_
 ·refine ay (λdi G H h=>?_);refine aj h λfm I h=>aj h λK M h=>a' 8 ?_;refine ay (λh=>?_);refine aj h λiw N h=>aj h λO P h=>aj h λQ ab h=>a' 13 ?_;exact go
 rcases a with a|a
 ·simp only[T]at h;refine cO (bY (b3 (b3 (aj h λac ad h=>aj h λag ah h=>a' 16 ?_))));exact go
 simp only[U]at h;exact go)
instance:dd prog 90 _ _ _ Jd t t t:=.j (h:=λa l r h W A=>by
 refine ay (λf j m p bB B h=>?_);refine aj h λc d h=>?_;refine gw d [] (cG 2 (bZ f) (cG 3 (bZ j) (cG 20 (t ((al a.bK bB).cM)) (cG 21 (t (u ((al a.bK bB).cM):Int)) (cD.cF [22]))))) (S (gx 0) h4) (S (λ_=>[]) (cD.cF [4])) (λC r h=>?_) ?_
 ·refine ay (λdi D h=>?_);refine aj h λE F h=>aj h λfm G h=>c9 1 (er [2,3,7,20,21,22,23,24,25,26,27,28,29] ?_);refine c8 3 (az 30 [] [] _::az 31 [0] [1] _::az 32 [] [1] _::az 33 [] [] _::az 34 [2,3] [] _::az 35 [1,4] [] _::az 36 [5] [] _::mY 8 [] 2 7 _::fL [6,7] [2] [2] (λaq=>a7 ((aq 7 0).getD 0) (al a.cM fm:eP))::[]) (λH=>?_);refine ce ?_;refine e4 ?_;exact bu 2 o go
 rcases c with c|c
 ·simp only[T]at h;exact go
 simp only[U]at h;exact go)
def Ur{a c d}(h:zG a c=y d):cf prog 325 [t a,t c] (t d):=by
 unfold zG at h;refine ci λf j=>?_;exact go
instance:dd prog 325 _ _ _ zG t t t:=
 ⟨⟨_,func325,rfl,by kernel_rfl⟩,λ_ _ _ h=>Ur h⟩
instance:ew prog 398 _ _ J0 t t:=.j (h:=λai r h W A=>by
 refine bl (iL mS λak=>eG ?_);refine bI (fl (bl ?_));refine bJ ?_;refine cP (C0 underlying9) ?_;refine cH oU ?_;refine bJ ?_;refine jY cN ?_;refine aj h λal E h=>e1 (λax=>pA underlying9 (ba o ax) .none (.some (cU 2)) (dT E ax)) ?_;refine e1 (λax=>lq underlying9 (ba o ax) (fA (c' #[48,120]))) ?_;refine aj h λam F h=>jO F (mR (ae o) (ae o) (λh=>h)) (bC ?_);refine aj h λf j h=>?_;refine fg [2] (cD.cF [0,3] f) [] ?_ (λhm a=>?_) λhm a=>?_
 ·refine bY (bl (iL mS λC=>fl (bl ?_)))
  refine bI (bC (b1 ?_));refine aj h λan l h=>?_;refine eC (aY:=bG) (aX:=bG) l [2,4] (λd c=>[(0,t f.1),(3,t f.2),(5,t d.1)]) (λd c=>[(0,a7 C d.2)]) (λm=>X 0) (λm c=>[]) (λm c=>[(0,a7 C m)]) () (λd r h c=>?_) λc=>?_
  ·refine b3 (bl (bJ ?_));refine bJ ?_;refine cP (C0 underlying9) ?_;refine cH kj (bC ?_);refine fR h (λh=>?_) λh=>?_
   ·refine gE (b3 (b1 (b3 (aj h λG H h=>aj h λI K h=>c9 2 (er [0,2,3,4,5,19,20,21,22] ?_)))));refine dL mixed (az 25 [] [0] _::az 26 [0] [] _::az 27 [] [0] _::az 28 [2] [] _::⟨y 6,[],[2],[2],λaq=>bZ ((aq 4 0).getD 0),λaq _=>a7 ((aq 4 0).getD 0) (b2:aW)⟩::⟨y 7,[],[3],[3],λaq=>bZ ((aq 5 0).getD 0),λaq _=>a7 ((aq 5 0).getD 0) (b2:aW)⟩::fL [1,4] [2] [2] (λaq=>a7 ((aq 4 0).getD 0) G)::fL [3,5] [3] [3] (λaq=>a7 ((aq 5 0).getD 0) I)::[]) ⟨vd 0 e3,eF λaA av=>fP Mf.dj (Mf.m _ _ _ H) ⟨ae (aA _ _ o),cU 3,w⟩,vd 0 e3,eF λaA av=>fP Mf.dj (Mf.m _ _ _ K) ⟨ae (aA _ _ o),cU 1,w⟩,?_,?_,?_,?_,w⟩ λM=>?_
    ·intro aq br aD aA av;refine iL mS λN=>V ?_;exact cv 2 (av 2 _ o o) (b5 (dv [y N]) o o)
    ·intro aq br aD aA av;refine iL mS λO=>V ?_;exact cv 3 (av 3 _ o o) (b5 (dv [y O]) o o)
    ·intro aq br aD aA av;refine cn (i:=2) (Y aW) e3 (ae (aA _ _ o)) (ae (aA _ _ o)) (av 2 _ o o) o o (V ?_);exact b5 (dv []) o o
    ·intro aq br aD aA av;refine cn (i:=3) (Y aW) e3 (ae (aA _ _ o)) (ae (aA _ _ o)) (av 3 _ o o) o o (V ?_);exact b5 (dv []) o o
    refine ce ?_;refine e4 ?_;refine bu 2 o (bu 3 o (bY (b3 (bl (bJ ?_)))));refine cH ir (bC ?_);refine aj h λP p h=>?_;refine fg [0,2,3,4,5,6,7] [] [(0,a7 ((M 5 0).getD 0) P)] ?_ (λhm a=>?_) λhm a=>?_
    ·refine bY (bl (bJ ?_))
     refine bJ ?_;refine aj h λao Q h=>aT (sr underlying9 (ae o) (ae o) Q) ?_;refine aT (Ak (ae o) (jJ 48 o)) ?_;refine cP (KU underlying5 underlying103) ?_;refine bI (fl (bl ?_));refine bJ ?_;refine bJ ?_;refine aj h λap ab h=>aT (sr underlying9 (ae o) (ae o) ab) ?_;refine aT (wa (ae o) (jJ 97 o)) (bC ?_);refine aj h λD B h=>?_;refine fg [0,2,3,4,5,6,7] (cD.cF [8] D) [] ?_ (λhm a=>?_) λhm a=>?_
     ·refine bY (c3 (j6 1 e3 ?_))
      refine j6 0 e3 ?_;refine aj h λau ac h=>hU Mi.dj (Mi.m _ _ _ _ ac) ?_;refine bJ ?_;refine qB wA mS ({(b2:aW)with df:=D}:aW) (o9 nj .nil) ?_;refine aj h λaw ad h=>hU Mi.dj (Mi.m _ _ _ _ ad) ?_;refine oc 2 e3 (V ?_);refine dN (bY (c3 (bJ ?_)));refine cH hc ?_;refine bI (V ?_);cases h;exact eE () 2
     ·have h:=da a B;refine c3 (bJ ?_);refine bJ ?_;refine aj h λay ag h=>aT (sr underlying9 (ae o) (ae o) ag) ?_;refine aT (Ak (ae o) (jJ 97 o)) ?_;refine cP (KU underlying5 underlying103) ?_;refine aT (PO (ae o) (nW 10 o)) ?_;refine bI (V ?_);cases h;exact cL 0 (hm ())
     have h:=db a B;refine cd ?_;cases h;exact cL 0 (hm ())
    ·have h:=da a p;refine c3 (j6 1 e3 ?_);refine oc 0 e3 (V ?_);cases h;exact cL 0 (hm ())
    have h:=db a p;refine cd ?_;cases h;exact cL 0 (hm ())
   refine ds (dt ?_);cases h;exact ej () 0
  refine cO (bY (bl (j6 0 e3 ?_)));refine oc 1 e3 (bC (bv ?_));cases h;exact af.Ds o (rG 1 e3)
 ·have h:=da a j;refine aj h λaB ah h=>er [0,2,9,10,11,12,13,14,15,16] ?_;refine dL mixed (az 17 [] [] _::az 18 [0] [] _::az 3 [] [] _::az 0 [0,1,2] [] _::[]) ⟨gM,eF λaA av=>pA underlying9 (ae (aA _ _ o)) (.some (cU 2)) .none ah,eF λaA av=>cc (cU 16),eF λaA av=>cc (ae (aA _ _ o)),w⟩ λaC=>?_;refine ce ?_;refine e4 ?_;cases h;exact cL 0 (hm ())
 have h:=db a j;refine cd ?_;cases h;exact cL 0 (hm ()))
instance:ew prog 364 _ _ Gd t t:=.j (h:=λC r h W A=>by
 refine ay λD E F G p H I d h=>?_;refine aj h λK f h=>?_;refine eC (aY:=bG) (aX:=bG) f [2,4] (λc a=>[(3,bZ p),(5,t c.1)]) (λc a=>[(0,a7 d c.2)]) (λj=>X 0) (λj a=>[]) (λj a=>[(0,a7 d j)]) () (λc r h a=>?_) λa=>?_
 ·refine ay (λM N bB O h=>?_);refine aj h λB l h=>?_;refine fg [2,3,4,5] [] [(0,a7 d B)] ?_ (λhm m=>?_) λhm m=>?_
  ·exact go
  ·have h:=da m l;refine aj h λP Q h=>aj h λab ac h=>a' 3 ?_;exact go
  have h:=db m l;exact go
 exact go)
instance:dd prog 55 _ _ _ zH t t t:=.j (h:=λd f r h W A=>by
 refine ay ?_;refine aj h λa c h=>?_;refine gw c [] (cG 0 (t d) (cG 1 (t f) (cD.cF [5]))) (S (gx 0) h4) (S (λ_=>[(0,t d),(1,t f)]) (cD.cF [4])) (λj r h=>?_) ?_
 ·refine ay (λh=>?_);refine aj h λbB l h=>aj h λdi m h=>aj h λp B h=>a' 9 ?_;exact go
 rcases a with a|a
 ·simp only[T]at h;exact go
 simp only[U]at h;exact go)
end Go.Proofs.YtmcjlfmeoehcmaaGreat
