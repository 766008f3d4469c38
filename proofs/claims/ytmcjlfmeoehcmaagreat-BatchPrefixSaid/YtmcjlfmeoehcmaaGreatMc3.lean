/-
  Each function meets its functional program. Conditions: none.
-/
import Derived.Test.YtmcjlfmeoehcmaaGreatMc1
import Derived.Test.YtmcjlfmeoehcmaaGreatMc2
import Derived.Test.YtmcjlfmeoehcmaaGreatMc0
import Derived.Test.YtmcjlfmeoehcmaaGreatMd
set_option linter.defProp false
set_option linter.unusedVariables false
set_option linter.unusedSimpArgs false
set_option maxRecDepth 100000
set_option maxHeartbeats 2000000
namespace Go.Proofs.YtmcjlfmeoehcmaaGreat
open Go Gv Go.Proofs.Tryz
open List renaming length->t,replicate->bZ
open J renaming of->u,eq->a',bq->b',bO->cM
open True renaming intro->w
open Option renaming some->y,none->cv
open aa renaming aO->S,nil->U,v->Z,fs->cd,own->c0,app->c1,lp->c3,gQ->c4,pC->c7,eh->c9,ez->dt,h8->dF,ry->d1,L1->d3
open aG renaming id->V
open af renaming aO->X,next->Y,fin->bY,dY->cp,fa->ct,hL->cI,ret->c8,place->df,gQ->dh,jV->dm,kI->dE,hb->d2
open ar renaming seq->bW,dW->ce,ret->cq,skip->cr,gX->cs,block->cA,dj->c2,cond->c',kS->dk,some->dL,ef->d0
open _root_.ByteArray renaming mk->b1
open Go.Exit renaming exit->b2,ret->c6
open ag renaming bV->b4
open Sum renaming elim->b5,elim_inl->ci,elim_inr->co
open Inhabited renaming default->ca
open bn renaming ak->cb
open eg renaming call->cl,iC->c5
open fb renaming q->cn
open h0 renaming jr->cO
open Bool renaming false->dl
open cf renaming ak->ds
open fe renaming md->dR
attribute [local irreducible] aa ar af aZ aN dr dP dV J.of J.ptr J.eq J.cond J.bO
def acU{B:bf->aw (Int×bf)}(K:wm B){a:bf}{f:Nat}{l:aw Nat}{m:Nat}{c:Int×bf}(h:EA B a=y c):bn prog 396 [b' f] [⟨y f,.bF ({a with bL:=[]}:bf) [(3,aH l (t a.bL) m)]⟩,⟨l,.row 375 a.bL m⟩] (aX:=bN) (λd=>u c.1) (λd=>[⟨y f,.bF ({c.2 with bL:=[]}:bf) [(3,aH d.1 (t c.2.bL) d.2)]⟩,⟨d.1,.row 375 c.2.bL d.2⟩]):=by
 unfold EA at h;refine cb λaC aE=>?_;refine ay ?_;refine cs mixed 16 (rg 5 16) [[],[0],[1],[2],[3],[4],[4,5],[4,6],[4,7],[4],[4,9],[4,10],[4,11],[4,12],[4,8,13],[4,14]] [_,_,_,_,_,_,_,_,_,_,_,_,_,_,_,_] ⟨dG,H1 fp,H1 (bM PQ.fd),ed λav=>ho (i:=0) ((V bf).comp xj) hv (ae o) (av _ _ o o) o o (by rfl),dG,bD λaD av=>λax=>cN (ae o),bD λaD av=>λax=>fp (ba o ax),bD λaD av=>λax=>bM xP.fd (ba o ax),bD λaD av=>λax=>ho (i:=0) ((V bf).comp kv) bz (ba o ax) (av _ _ o o) o o (by rfl),bD λaD av=>λax=>cN (ae o),bD λaD av=>λax=>fp (ba o ax),bD λaD av=>λax=>bM CO.fd (ba o ax),bD λaD av=>λax=>ho (i:=0) ((V bf).comp uo) yg (ba o ax) (av _ _ o o) o o (by rfl),bD λaD av=>λax=>mT underlying376 (ba o ax),bD λaD av=>λax=>ir (ba o ax) (ba o ax),ed λav=>oY (ae o) (ae o) (λh=>h),w⟩ ?_;refine go2 (λh=>?_) (λh=>?_)
 ·refine aj h λaI M h=>c3 (i:=0) ((V bf).comp xj) hv (ae o) (gU true) o o (dz M) (by rfl) ?_;refine ay ?_;refine dh ((V bf).comp kL) 0 0 o o o (X 1 o (X 1 o ?_));cases h;exact ff (l,m)
 refine aj h λbB aJ h=>dk 1 (er [0,2,5,6,7,8,9,10,11,12,13,14,15,16,17,18,19,20] ?_);refine c2 3 (az 24 [] [] _::az 25 [0] [] _::az 26 [1] [] _::az 27 [2] [0] (u a.cw)::az 28 [] [] _::az 29 [4] [] _::az 30 [5] [] _::az 31 [6] [0] (u a.du)::az 32 [3,7] [] _::az 33 [8] [] _::mY 3 [] 2 10 _::fL [9,10] [2] [2] (λaq=>a7 ((aq 10 0).getD 0) (al a.cw bB:fI))::[]) (dC ?_ (dC ?_ hg)) (λaL=>?_)
 ·exact cn (iV λaq br aD aA av=>ho (i:=0) ((V bf).comp uo) yg (ae (aA _ _ o)) (av 0 _ o o) o o (by rfl))
 ·exact cn (iV λaq br aD aA av=>ho (i:=0) ((V bf).comp kv) bz (ae (aA _ _ o)) (av 0 _ o o) o o (by rfl))
 refine cp ?_;refine e4 ?_;refine X 2 o (go2 (λh=>?_) (λh=>?_))
 ·refine qC 1 kv bz ?_;refine ay ?_;refine aj h λaM N h=>c3 (i:=1) ((V bf).comp kv) bz (ae o) (ae o) o o (dz N) (by rfl) ?_;refine ay λaN aO aR aS h=>?_;refine c4 ((V bf).comp kL) 1 0 o o o (S 2 o (S 2 o (aj h λaT O h=>cy 2 .i (rX O) λC=>?_)));refine ay ?_;refine X 1 o (X 1 o ?_);cases h;exact ff (C.1,C.2)
 refine e1 (λax=>lq underlying9 (ba o ax) (fA (b1 #[116,114,117,101]))) ?_;refine go2 (λP Q h=>?_) (λP Q h=>?_)
 ·refine qC 1 kv bz ?_;refine ay ?_;refine aj h λaU ab h=>c3 (i:=1) ((V bf).comp kv) bz (ae o) (ae o) o o (dz ab) (by rfl) ?_;refine ay λaV aW h=>?_;refine c4 ((V bf).comp kL) 1 0 o o o (S 2 o (S 2 o (aj h λaY ac h=>cy 2 .i (rX ac) λD=>?_)));refine ay ?_;refine X 1 o (X 1 o ?_);cases h;exact ff (D.1,D.2)
 refine e1 (λax=>lq underlying9 (ba o ax) (fA (b1 #[102,97,108,115,101]))) ?_;refine AM (λE F h=>?_) (λE F h=>?_) (λE F h=>?_)
 ·refine qC 1 kv bz ?_;refine ay ?_;refine aj h λaZ ad h=>c3 (i:=1) ((V bf).comp kv) bz (ae o) (ae o) o o (dz ad) (by rfl) ?_;refine ay ?_;refine c4 ((V bf).comp kL) 1 0 o o o (S 2 o (S 2 o (aj h λa0 ag h=>cy 2 .i (rX ag) λG=>?_)));refine ay ?_;refine X 1 o (X 1 o ?_);cases h;exact ff (G.1,G.2)
 ·refine qC 1 kv bz ?_;refine ay ?_;refine aj h λa1 ah h=>c3 (i:=1) ((V bf).comp kv) bz (ae o) (ae o) o o (dz ah) (by rfl) ?_;refine ay ?_;refine c4 ((V bf).comp kL) 1 0 o o o (S 2 o (S 2 o (aj h λa2 ai h=>cy 2 .i (acr ai) λH=>?_)));refine ay ?_;refine X 1 o (X 1 o ?_);cases h;exact ff (H.1,H.2)
 refine S 2 o (S 2 o (aj h λa3 ak h=>cy 2 .i (vx ak) λI=>?_));refine go2 (λh=>?_) (λh=>?_)
 ·refine S 1 o (S 1 o (aj h λa4 am h=>cy 2 .i (K _ _ _ _ _ am) λa5=>?_));refine ay ?_;refine S 1 o (S 1 o (aj h λan ao h=>cy 2 .i (vx ao) λj=>?_));refine cP lr (bC ?_);refine aj h λap p h=>?_;refine fg [4] [] [(0,⟨y f,.bF ap [(3,aH j.1 (t an.2.bL) j.2)]⟩)] ?_ (λhm A=>?_) λhm A=>?_
  ·refine ay ?_;refine dh ((V bf).comp kL) 0 0 o o o (X 1 o (X 1 o ?_));cases h;exact ff (j.1,j.2)
  ·have h:=da A p;refine ay ?_;refine aj h λa6 au h=>c3 (i:=0) ((V bf).comp xj) hv (ae o) (gU true) o o (dz au) (by rfl) ?_;exact go
  have h:=db A p;exact go
 refine aj h λa8 aB h=>c3 (i:=0) ((V bf).comp xj) hv (ae o) (gU true) o o (dz aB) (by rfl) ?_;refine ay ?_;refine dh ((V bf).comp kL) 0 0 o o o (X 1 o (X 1 o ?_));cases h;exact ff (I.1,I.2)
def afn{d G f H c I}(h:B7 d G f H c I):k4 prog 440 [u G,u f,u H,u c] d I:=by
 unfold B7 at h;refine bn.ofM func440 o ntmps440 o λaN aO=>?_;refine ay λB=>?_;refine b4 h λaR O h=>cd (c5 1 o .i (Ua O) ⟨ae o,ae o,ae o,w⟩) o o o ?_;refine go2 (λh=>?_) (λh=>?_)
 ·exact af.Hn (ct (⟨⟨(dl,d),h⟩,()⟩: {r // _}×_) (fv 1) o o (dO o))
 refine b4 h λaS P h=>cd (c5 1 o .i (Un P) ⟨ae o,ae o,ae o,w⟩) o o o ?_;refine go2 (λQ ab ac ad h=>?_) (λQ ab ac ad aT aU aV aW h=>?_)
 ·exact af.Hn (ct (⟨⟨(dl,d),h⟩,()⟩: {r // _}×_) (fv 1) o o (dO o))
 refine DG (aY:=bG) h 1 [0,1,2,3,5,8,9,16,28,33] (λm C=>[]) (λm C=>[]) (λm C=>bc m) (λm C h=>?_) (λhm D h=>?_) (λhm D h=>?_)
 ·refine ay λaX aZ p h=>?_;refine b4 h λa0 ah h=>hU .i (Ov ah) (bC (cA ?_));refine ahC (bb:=Ref×(aL Cell)) (bp:=Empty) (aY:=bG) (g0:=()) (eJ:=λa j=>(a7 p a.1::a7 B f::bc a.2)) (js:=λl j=>Empty.elim l) (iD:=λa=>a.2) (λa j=>[a7 p a.1,a7 B f]) (λl=>Empty.elim l) o .i o adN h (λ_ _=>rfl) o o (λa1 a a2 h j a3 a4 a5 a6 E a8 ai=>?_) (λa h j E=>?_) (λl h j E=>?_)
  ·refine ce (bI (U ?_));refine af.begin 0 o ai ?_;refine ay λa9 a_ bB bd be bf h=>?_;refine DG (aY:=bG) h 4 [0,1,2,3,5,8,9,10,11,16,28,33,46,47,54] (λA F=>[]) (λA F=>[]) (λA F=>bc A) (λA F h=>?_) (λhm D h=>?_) (λhm D h=>?_)
   ·refine ay λdi bg bh bi h=>?_;exact af.aqp h () 0 o
   ·refine ce (j6 2 jW ?_);refine bJ ?_;refine qB Zv Zw (ca:fJ) .nil ?_;refine aa.yp 4 o (Cell.iK (ca:fJ)) (λ_=>rfl) (ae o) o λK aj=>?_;replace h:=ag.oM h K aj;refine ay λfm ak h=>?_;refine b4 h λbj al h=>b4 h λam an h=>c7 4 o (((V fJ).comp Bq).comp (aG.idx 2 fm (cz ak).1)) (v:=(y K.1:Ref)) jW (ae o) (ae o) (rl al) o o o o (dz an) (U ?_);exact cL 0 (hm am () h)
   exact cr (cL 0 (hm a.2 () h))
  ·simp only[ci]at h;refine af.eh ?_;refine dm (Y (bW (b4 h λM bk h=>b4 h λbm ao h=>b4 h λap au h=>er [3,8,10] ?_)));refine ar.tL mixed [5,6] [(0,68,u a.1),(1,69,u a.1),(2,70,u c),(3,71,b' M),(4,72,J.jC M Fb)] ?_;refine dR [] [0,1,2,3,4] [5] ⟨?_,w⟩;refine gf.of (aP:=[]) (λx:bG=>[]) (λx=>[]) (λx=>(⟨y E,.gL⟩::a7 p a.1::a7 B f::bc ap)) (λ_=>?_) (λbo aw cH bq aA k=>?_)
   ·refine dR [4,3,0] [1,2] [6] ⟨gf.tail [5,4,3,2,1,0] ?_,w⟩;refine aa.dY ?_;refine aa.le (br:=[(3,u c),(8,u dl),(10,b' p),(69,u a.1),(70,u c)]) .all ?_;refine ay λbs bt h=>?_;refine b4 h λbu aB h=>b4 h λaC aE h=>c7 3 o ((V fJ).comp Jm) (v:=c) bz (ae o) (ae o) (rl aB) o o o o (dz aE) ?_;refine ay ?_;refine af.Mj 0 o o ?_;exact ct (⟨⟨(true,aC),h⟩,()⟩: {r // _}×_) (fv 3) o o (dO o)
   cases aw;exact c7 3 o ((V fJ).comp Fb) (v:=true) hv (ae (aA o)) (gU true) (rl ao) o o o o (dz au) (U (k ()))
  exact Empty.elim l
 ·refine ce (bJ ?_);refine qB Zv Zw (ca:fJ) .nil ?_;refine aa.yp 1 o (Cell.iK (ca:fJ)) (λ_=>rfl) (ae o) o λN aH=>?_;replace h:=ag.oM h N aH;refine ay ?_;refine b4 h λbv aI h=>b4 h λaJ aM h=>c7 1 o ((V h6).comp Je) (v:=(y N.1:Ref)) jW (ae o) (ae o) (xW aI) o o o o (dz aM) (U ?_);exact cL 0 (hm aJ () h)
 exact cr (cL 0 (hm d () h))
def ac8{a c d f}(h:Bx a c d=y f):cf prog 470 [J.ptr a,u c,u d] (u f):=by
 unfold Bx at h;refine ds λj l=>?_;refine ay λm p=>?_;refine aj h λA B h=>d0 7 ?_;refine ay (λh=>?_);refine aj h λC D h=>d0 7 ?_;exact go
def acM{a c d}(h:Bl a c d):k4 prog 44 [u c] a d:=by
 unfold Bl at h;refine cb λj l=>?_;refine bl (aT (cc (look_nil (au:=cQ))) ?_);refine go2 (λh=>?_) (λm p A B h=>?_)
 ·refine aT (cc (look_nil (au:=cQ))) (bC (cq (c8 ?_)));exact ct (⟨⟨(([]:R cQ),a),h⟩,()⟩: {r // _}×_) (.refl _) o o (dO o)
 refine dt 0 0 o .i (ac7 h) o o ⟨ae o,w⟩ o λ⟨⟨f,h⟩,C⟩=>?_;refine c9 ?_;refine bI (bC (cq ?_));exact ct (⟨⟨(f.1,f.2),h⟩,()⟩: {r // _}×_) (.refl _) o o (dO o)
instance:ew prog 359 _ _ UT u u:=.j (h:=λd r h W A=>by
 refine ay λf=>?_;refine aj h λj a h=>aj h λl c h=>cs mixed 9 (rg 3 9) [[],[0],[1],[2],[3],[3],[3,4,5],[3,6],[3,7]] [_,_,_,_,_,_,_,_,_] ⟨H1 (bM aj6.fd),iM 0 TU hv,H1 lr,dG,bD λaD av=>λax=>iq (i:=0) (V gz) Q7 (ae o) (av _ _ o o) o o,bD λaD av=>λax=>fP .i (afS (dT a ax)) bo,bD λaD av=>λax=>fP .i (Ur (dT c ax)) ⟨ba o ax,ba o ax,w⟩,bD λaD av=>λax=>kj (ba o ax) (cU 0),ed λav=>mR (ae o) (ae o) (λh=>h),w⟩ ?_;exact go)
def acL{p:bf->aw (Int×bf)}(C:wm p)(m:Nat):∀(c:bf) (d:Nat) (j:aw Nat) (l:Nat) (a:Int×bf),yX p m c=y a->bn prog 393 [b' d] [⟨y d,.bF ({c with bL:=[]}:bf) [(3,aH j (t c.bL) l)]⟩,⟨j,.row 375 c.bL l⟩] (aX:=bN) (λf=>u a.1) (λf=>[⟨y d,.bF ({a.2 with bL:=[]}:bf) [(3,aH f.1 (t a.2.bL) f.2)]⟩,⟨f.1,.row 375 a.2.bL f.2⟩]):=by
 induction m with
 |zero=>intro c d j l a h;simp[yX]at h
 | succ m D=>
   intro c d j l a h
   simp only[yX]at h
   refine cb λI K=>?_
   refine ay ?_
   refine S 1 o (S 1 o (aj h λM E h=>cy 2 .i (vx E) λN=>?_))
   refine go2 (λh=>?_) (λh=>?_)
   ·refine S 1 o (S 1 o (aj h λO F h=>cy 2 .i (acU C F) λA=>?_))
    refine ay ?_
    refine X 1 o (X 1 o ?_)
    cases h
    exact ff (A.1,A.2)
   refine S 1 o (S 1 o (aj h λP G h=>cy 2 .i (D _ _ _ _ _ G) λQ=>?_))
   refine ay λab ac h=>?_
   refine S 1 o (S 1 o (aj h λad H h=>cy 2 .i (rX H) λB=>?_))
   refine bI (bC (cq ?_))
   refine X 1 o (X 1 o ?_)
   cases h
   exact ff (B.1,B.2)
def Tm{m:bf->aw (Int×bf)}(p:wm m){c:bf}{f:Nat}{j:aw Nat}{l:Nat}{a:Int×bf}(h:Iy m c=y a):bn prog 393 [b' f] [⟨y f,.bF ({c with bL:=[]}:bf) [(3,aH j (t c.bL) l)]⟩,⟨j,.row 375 c.bL l⟩] (aX:=bN) (λd=>u a.1) (λd=>[⟨y f,.bF ({a.2 with bL:=[]}:bf) [(3,aH d.1 (t a.2.bL) d.2)]⟩,⟨d.1,.row 375 a.2.bL d.2⟩]):=acL p bX c f j l a h
def UC{p A B C d f l}(h:Cj p A B C=y l):bn prog 172 [a' (aH d (t p) f),u A,u B,u C] [⟨d,.row 143 p f⟩] (aX:=bN) (λj=>a' (aH j.1 (t l) j.2)) (λj=>[⟨j.1,.row 143 l j.2⟩]):=by
 unfold Cj at h;refine cb λaE aI=>?_;refine bl (hT λaJ=>?_);refine c0 (au:=gr) 143 (aT (cc h7) ?_);refine ay ?_;refine aj h λaL D h=>?_;refine gw D [0,2,3,5] (cD.cF [9]) (gx 0) (cD.cF [9]) (λaM l h=>?_) ?_
 ·refine bW (bW (aj h λbB F h=>aj h λaN ab h=>cs mixed 13 (rg 10 13) [[],[],[1],[0,2],[3],[4],[4],[4,5,6],[4,7],[4,8],[4],[4,9,10],[4,11]] [_,_,_,_,_,_,_,_,_,_,_,_,_] ⟨dG,dG,ed λav=>nv (i:=2) underlying135 (ae o) o (av _ _ o o),jB kj,dG,bD λaD av=>λax=>cN (ae o),bD λaD av=>λax=>cN (ae o),bD λaD av=>λax=>jx (i:=2) underlying135 qu (ba o ax) (ba o ax) (av _ _ o o) (cz (dT F ax)),bD λaD av=>λax=>bM XD.fd (ba o ax),bD λaD av=>λax=>mh (i:=2) (k:=bB) ((V gr).comp ID) rr (ba o ax) (av _ _ o o) (cz (dT F ax)).1 o o,bD λaD av=>λax=>iq (i:=1) (V fN) rr (ae o) (av _ _ o o) o o,bD λaD av=>λax=>fP .i (afw (dT ab ax)) ⟨ba o ax,ba o ax,w⟩,ed λav=>mR (ae o) (ae o) (λh=>h),w⟩ ?_));exact go
 refine af.j3 (Y (bW (bW (aj h λdi G h=>aj h λaO ac h=>cs mixed 13 (rg 25 13) [[],[],[1],[0,2],[3],[4],[4],[4,5,6],[4,7],[4,8],[4],[4,9,10],[4,11]] [_,_,_,_,_,_,_,_,_,_,_,_,_] ⟨dG,dG,ed λav=>nv (i:=2) underlying135 (ae o) o (av _ _ o o),jB kj,dG,bD λaD av=>λax=>cN (ae o),bD λaD av=>λax=>cN (ae o),bD λaD av=>λax=>jx (i:=2) underlying135 qu (ba o ax) (ba o ax) (av _ _ o o) (cz (dT G ax)),bD λaD av=>λax=>bM XD.fd (ba o ax),bD λaD av=>λax=>mh (i:=2) (k:=di) ((V gr).comp ID) rr (ba o ax) (av _ _ o o) (cz (dT G ax)).1 o o,bD λaD av=>λax=>iq (i:=1) (V fN) rr (ae o) (av _ _ o o) o o,bD λaD av=>λax=>Q9 Yr o (by kernel_rfl) o (ba o ax) (ba o ax),vm ac λaD av=>mR (ae o) (ae o) (λh=>h),w⟩ ?_))));refine go2 (λh=>?_) (λh=>?_)
 ·refine aj h λfm H h=>aj h λiw I h=>aj h λlG K h=>aj h λM a h=>aj h λnd N h=>aj h λad c h=>er [0,2,3,5,9,25,26,27,28,29,30,31,32,33,34,35,36,37] ?_;refine ar.pf mixed (az 38 [] [] _::az 39 [] [] _::az 40 [] [] _::az 41 [] [] _::az 42 [] [] _::az 43 [] [] _::az 44 [4,5] [2] _::az 45 [6] [] _::az 46 [7] [2] _::az 47 [] [] _::az 48 [8,9] [] _::az 49 [] [] _::az 50 [] [] _::az 51 [11,12] [2] _::az 52 [13] [] _::az 53 [13,14] [2] _::az 54 [] [] _::az 55 [15,16] [] _::az 56 [0,1] [2] _::az 57 [18] [] _::fL [6,8,10,13,15,18,19] [2] [2] (λaq=>⟨d,.row 143 M f⟩)::az 58 [2,3,20] [2] _::az 59 [21] [] _::fL [6,8,13,15,17,18,20,21,22] [2] [2] (λaq=>⟨d,.row 143 ad f⟩)::[]) ⟨gM,gM,gM,gM,gM,gM,eF λaA av=>jx (i:=2) underlying135 qu (ae (aA _ _ o)) (ae (aA _ _ o)) (av 2 _ o o) (cz H),hI (bM XE.fd),eF λaA av=>mh (i:=2) (k:=fm) ((V gr).comp IE) bz (ae (aA _ _ o)) (av 2 _ o o) (cz H).1 o o,gM,abS hc,gM,gM,eF λaA av=>jx (i:=2) underlying135 qu (ae (aA _ _ o)) (ae (aA _ _ o)) (av 2 _ o o) (cz I),hI (bM XF.fd),eF λaA av=>mh (i:=2) (k:=iw) ((V gr).comp Iq) bz (ae (aA _ _ o)) (av 2 _ o o) (cz I).1 o o,gM,abS hc,eF λaA av=>jx (i:=2) underlying135 qu (ae (aA _ _ o)) (ae (aA _ _ o)) (av 2 _ o o) (cz K),hI (bM XE.fd),?_,eF λaA av=>jx (i:=2) underlying135 qu (aiK (m:=t M) (iA (dz a)) (ae (aA _ _ o))) (ae (aA _ _ o)) (av 2 _ o o) (cz N),hI (bM XF.fd),?_,w⟩ λaR=>?_
  ·intro aq br aD aA av;refine aa.uJ (i:=2) ((V gr).comp IE) bz (ae (aA _ _ o)) (ae (aA _ _ o)) (av 2 _ o o) (cz K).1 o (dz a) (U ?_);exact bY (dv []) o o
  ·intro aq br aD aA av;refine aa.uJ (i:=2) ((V gr).comp Iq) bz (ae (aA _ _ o)) (ae (aA _ _ o)) (av 2 _ o o) (cz N).1 o (dz c) (U ?_);exact bY (dv []) o o
  refine cp ?_;refine cI 0 o (iA (dz a)) (cI 26 o (iA (dz a)) (cI 38 o (iA (dz a)) (cI 40 o (iA (dz a)) (cI 42 o (iA (dz a)) (cI 49 o (iA (dz a)) (cI 0 o (iA (dz c)) (cI 26 o (iA (dz c)) (cI 38 o (iA (dz c)) (cI 40 o (iA (dz c)) (cI 42 o (iA (dz c)) (cI 49 o (iA (dz c)) (e4 ?_))))))))))));refine ay ?_;refine X 2 o ?_;cases h;exact ff (d,f)
 refine ar.hb (au:=gr) 2 [0,26] ⟨rfl,rfl,w⟩ o (aj h λaS ag h=>aj h λO ah h=>aj h λP ai h=>aj h λaU ak h=>aj h λE al h=>dk 1 (er [0,2,3,5,9,25,26,27,28,29,30,31,34,35,36,37] ?_));refine ar.pf mixed (⟨y 61,[],[3],[3],λaq=>a' (aH (aq 0 0) (t ([]:R gr)) 0),λaq _=>⟨(aq 0 0),.row 143 ([]:R gr) 0⟩⟩::az 62 [] [] _::az 63 [] [] _::az 64 [1,2] [] _::⟨y 65,[0,3],[3],[3],λaq=>a' (aH (aq 4 0) (t O) ((aq 4 1).getD 0)),λaq _=>⟨(aq 4 0),.row 143 O ((aq 4 1).getD 0)⟩⟩::az 66 [] [1] _::az 67 [] [] _::az 68 [] [] _::az 69 [5,6,7] [] _::az 70 [8] [] _::⟨y 71,[0,4,9],[3],[3],λaq=>a' (aH (aq 10 0) (t P) ((aq 10 1).getD 0)),λaq _=>⟨(aq 10 0),.row 143 P ((aq 10 1).getD 0)⟩⟩::az 72 [] [] _::az 73 [] [] _::az 74 [11,12] [] _::⟨y 75,[0,4,10,13],[3],[3],λaq=>a' (aH (aq 14 0) (t E) ((aq 14 1).getD 0)),λaq _=>⟨(aq 14 0),.row 143 E ((aq 14 1).getD 0)⟩⟩::⟨y 8,[14],[],[],λaq=>a' (aH (aq 14 0) (t E) ((aq 14 1).getD 0)),λ_ _=>⟨cv,.dead⟩⟩::[]) ⟨?_,gM,gM,eF λaA av=>vW underlying135 qu (ae (aA _ _ o)) .none (.some (ae (aA _ _ o))) ag,?_,vd 1 rr,gM,gM,eF λaA av=>iI (b:= {dN:=A,j2:=B,ka:=C:gr}) o anO Dk (.cons ID o (ae (aA _ _ o)) o (.cons IE o (ae (aA _ _ o)) o (.cons Iq o (ae (aA _ _ o)) o (.nil)))),eF λaA av=>tx underlying135 qu Dk o o (.cons (by simp) (ae (aA _ _ o)) (.nil)),?_,gM,gM,eF λaA av=>vW underlying135 qu (ae (aA _ _ o)) (.some (ae (aA _ _ o))) .none ak,?_,?_,w⟩ λQ=>?_
 ·intro aq br aD aA av;exact d1 (au:=gr) underlying135 qu Dk o o (.nil) o λam=>U (df 3 (av 3 _ o o) (bY (dv [am]) o o))
 ·intro aq br aD aA av;refine c1 (i:=3) underlying135 qu Dk (bytes:=48) (by kernel_rfl) (ae (aA _ _ o)) (av 3 _ o o) (ae (aA _ _ o)) ah o λan ao=>?_;exact U (bY (dv [an,y ao]) o o)
 ·intro aq br aD aA av;refine c1 (i:=3) underlying135 qu Dk (bytes:=48) (by kernel_rfl) (ae (aA _ _ o)) (av 3 _ o o) (ae (aA _ _ o)) ai o λap aw=>?_;exact U (bY (dv [ap,y aw]) o o)
 ·intro aq br aD aA av;refine c1 (i:=3) underlying135 qu Dk (bytes:=48) (by kernel_rfl) (ae (aA _ _ o)) (av 3 _ o o) (ae (aA _ _ o)) al o λaB aC=>?_;exact U (bY (dv [aB,y aC]) o o)
 ·intro aq br aD aA av;refine aT (cc (ae (aA _ _ o))) (U ?_);exact bY (dv []) o o
 refine cp ?_;refine e4 ?_;refine X 3 o (Y (cq (X 0 o ?_)));cases h;exact ff ((Q 14 0),((Q 14 1).getD 0))
instance:dd prog 189 _ _ _ JK u u u:=.j (h:=λm p r h W A=>by
 refine ay λB C=>?_;refine aj h λD a h=>aj h λE c h=>aj h λF d h=>aj h λG f h=>aj h λH j h=>aj h λI l h=>?_;refine cs mixed 27 (rg 5 27) [[],[0],[],[2],[1,3],[],[5],[],[7],[6,8],[],[10],[],[12],[11,13],[],[15],[],[17],[16,18],[],[20],[],[22],[21,23],[4,9,14,19,24],[25]] [_,_,_,_,_,_,_,_,_,_,_,_,_,_,_,_,_,_,_,_,_,_,_,_,_,_,_] ⟨H1 (bM C1.fd),iM 1 xk bz,H1 (bM C1.fd),iM 0 xk bz,jZ Dw.dj (Dw.m _ _ _ a),H1 (bM GU.fd),iM 0 Bp bz,H1 (bM GU.fd),iM 1 Bp bz,jZ Dw.dj (Dw.m _ _ _ c),H1 (bM CY.fd),iM 1 xg ys,H1 (bM CY.fd),iM 0 xg ys,ed λav=>fP .i (acf d) ⟨ae o,ae o,Ww .i (λ_ _ _=>adM),w⟩,H1 (bM uM.fd),iM 1 s5 bz,H1 (bM uM.fd),iM 0 s5 bz,jZ Dw.dj (Dw.m _ _ _ f),H1 (bM wk.fd),iM 1 um u7,H1 (bM wk.fd),iM 0 um u7,ed λav=>fP .i (acg j) ⟨ae o,ae o,Ww .i (λ_ _ _=>Up),w⟩,ed λav=>tx underlying59 bz my o o (.cons (by simp) (ae o) (.cons (by simp) (ae o) (.cons (by simp) (ae o) (.cons (by simp) (ae o) (.cons (by simp) (ae o) (.nil)))))),jZ aaM.dj (aaM.m _ _ l),w⟩ ?_;exact go)
def afb(B:Nat):∀(l:R dw) (m:Int) (c:R gj) (d:gz),se B l m c=y d->cf prog 326 [u l,u m,u c] (u d):=by
 induction B with
 |zero=>intro l m c d h;simp[se]at h
 | succ B f=>
   intro l m c d h
   simp only[se]at h
   refine ds λP Q=>?_
   refine abr (λp bB C A h=>?_) (λp bB C A h=>?_) (λp bB C A h=>?_) (λp bB C A h=>?_)
   ·refine aj h λab G h=>hU .i (f _ _ _ _ G) ?_
    exact go
   ·refine aj h λac H h=>aj h λad I h=>aj h λag K h=>cs mixed 11 (rg 31 11) [[],[],[1],[],[0,2,3],[],[],[6],[],[5,7,8],[4,9]] [_,_,_,_,_,_,_,_,_,_,_] ⟨dG,H1 (bM PS.fd),iM 0 Jp bz,dG,jZ .i (f _ _ _ _ H),dG,H1 (bM PT.fd),iM 0 Jq bz,dG,jZ .i (f _ _ _ _ I),jZ Mh.dj (Mh.m _ _ _ K),w⟩ ?_
    exact go
   ·refine aj h λah M h=>aj h λai N h=>aj h λak O h=>cs mixed 11 (rg 44 11) [[],[],[1],[],[0,2,3],[],[],[6],[],[5,7,8],[4,9]] [_,_,_,_,_,_,_,_,_,_,_] ⟨dG,H1 (bM PS.fd),iM 0 Jp bz,dG,jZ .i (f _ _ _ _ M),dG,H1 (bM PT.fd),iM 0 Jq bz,dG,jZ .i (f _ _ _ _ N),jZ aaO.dj (aaO.m _ _ _ O),w⟩ ?_
    exact go
   refine aj h λD E h=>?_
   refine eC (aY:=bG) (aX:=bG) E [6] (λF j=>[(7,b' A),(55,u c),(56,u (t c:Int)),(57,u F)]) (λF j=>[]) (λa=>b5 (λa=>b2 1) (λa=>c6) a) (λa j=>[]) (λa j=>b5 (λa=>[]) (λa=>[(1,a7 p a)]) a) () (λF d h j=>?_) λj=>?_
   ·refine ay (λdi al am h=>?_)
    refine aT (lq underlying9 (ae o) (ae o)) ?_
    refine ay ?_
    refine e1 (λax=>lq underlying9 (ba o ax) (ba o ax)) ?_
    exact go
   rcases D with D|D
   ·simp only[ci]at h
    exact go
   simp only[co]at h
   exact go
def afo{a c d f}(h:FT a c d=y f):cf prog 326 [u a,u c,u d] (u f):=afb bX a c d f h
instance:jg prog 326 _ _ _ _ FT u u u u:=
 ⟨⟨_,func326,rfl,by kernel_rfl⟩,λ_ _ _ _ h=>afo h⟩
instance:dd prog 20 _ _ _ FU u u u:=.j (h:=λa c r h W A=>by
 exact go)
def Us{f j a}(h:vL f j=y a):cf prog 56 [u f,u j] (u a):=by
 unfold vL at h;refine ds λD E=>?_;refine ay λl m=>?_;refine aj h λp F h=>aj h λA G h=>aj h λB H h=>aj h λC I h=>d0 23 (bC (cA ?_));refine aj h λc d h=>?_;refine gw d [] (cG 2 (b' l) (cG 3 (b' m) (cG 27 (u ([p,A,B,C])) (cG 28 (u ([p,A,B,C].length:Int)) (cD.cF [29]))))) (b5 (gx 0) h4) (b5 (λ_=>[(2,b' l),(3,b' m)]) (cD.cF [4])) (λK a h=>?_) ?_
 ·exact go
 rcases c with c|c
 ·simp only[ci]at h;exact go
 simp only[co]at h;exact go
instance:dd prog 56 _ _ _ vL u u u:=
 ⟨⟨_,func56,rfl,by kernel_rfl⟩,λ_ _ _ h=>Us h⟩
instance:dd prog 99 _ _ _ Km u u u:=.j (h:=λN D r h W A=>by
 refine bl (hT λI=>?_);refine aT (cc (look_nil (au:=gr))) (eG ?_);refine c0 (au:=gr) 143 (aT (cc h7) ?_);refine ay ?_;refine aj h λO f h=>?_;refine eC (aY:=bN) (aX:=bN) f [] (λj a=>[(2,b' I),(5,a' (aH a.1 (t j.2) a.2)),(12,u D),(13,u (t D:Int)),(14,u j.1)]) (λj a=>[(0,⟨a.1,.row 143 j.2 a.2⟩)]) (λp=>b2 0) (λp a=>[(5,a' (aH a.1 (t p) a.2))]) (λp a=>[(0,⟨a.1,.row 143 p a.2⟩)]) (cv,0) (λj r h a=>?_) λa=>?_
 ·refine go2 (λbB P Q E ab h=>?_) (λh=>?_)
  ·refine aj h λac f h=>?_;refine eC (aY:=bN) (aX:=bN) f [2,7,12,13,14] (λl c=>[(5,a' (aH c.1 (t l.2) c.2)),(20,u E),(21,u (t E:Int)),(22,u l.1)]) (λl c=>[(1,⟨c.1,.row 143 l.2 c.2⟩)]) (λB=>b2 2) (λB c=>[(5,a' (aH c.1 (t B) c.2))]) (λB c=>[(1,⟨c.1,.row 143 B c.2⟩)]) (a.1,a.2) (λl r h c=>?_) λc=>?_
   ·refine go2 (λdi ad ag h=>?_) (λh=>?_)
    ·refine S 2 o (aj h λah K h=>cy 1 .i (UC K) λF=>?_);refine ay ?_;refine X 2 o (X 2 o ?_);cases h;exact eE (F.1,F.2) 1
    cases h;exact ej (c.1,c.2) 0
   refine ay λG ai h=>?_;refine aj h λak f h=>?_;refine eC (aY:=bN) (aX:=bN) f [2,12,13,14] (λm d=>[(5,a' (aH d.1 (t m.2) d.2)),(32,u G),(33,u (t G:Int)),(34,u m.1)]) (λm d=>[(1,⟨d.1,.row 143 m.2 d.2⟩)]) (λC=>b2 4) (λC d=>[(5,a' (aH d.1 (t C) d.2))]) (λC d=>[(1,⟨d.1,.row 143 C d.2⟩)]) (c.1,c.2) (λm r h d=>?_) λd=>?_
   ·refine go2 (λfm al am h=>?_) (λh=>?_)
    ·refine S 2 o (aj h λan M h=>cy 1 .i (UC M) λH=>?_);refine ay ?_;refine X 2 o (X 2 o ?_);cases h;exact eE (H.1,H.2) 1
    cases h;exact ej (d.1,d.2) 0
   refine ay ?_;cases h;exact eE (d.1,d.2) 1
  cases h;exact ej (a.1,a.2) 0
 refine ay ?_;exact d2 (au:=gr) 0 [4,5,43] ⟨rfl,rfl,rfl,w⟩ o go)
def adu{a c d}(h:IY a c=y d):cf prog 215 [u a,u c] (u d):=by
 unfold IY at h;refine ds λf j=>?_;exact go
def afy(p:Nat):∀(f:R dw) (j:Int) (l:R gj) (m:aI),oF p f j l=y m->cf prog 275 [u f,u j,u l] (u m):=by
 induction p with
 |zero=>intro f j l m h;simp[oF]at h
 | succ p a=>
   intro f j l m h
   simp only[oF]at h
   refine ds λO P=>?_
   refine R4 (λbB c d h=>?_) (λbB c d h=>?_) (λbB c d h=>?_) (λbB c d h=>?_) (λbB c d di A B C h=>?_) (λbB c d di A B C h=>?_)
   ·refine aj h λQ D h=>hU .i (a _ _ _ _ D) ?_
    exact go
   ·refine aj h λab E h=>hU .i (a _ _ _ _ E) ?_
    refine ay ?_
    refine aj h λac F h=>e1 (λax=>fP .i (a _ _ _ _ (dT F ax)) ⟨ba o ax,ba o ax,ba o ax,w⟩) ?_
    exact go
   ·refine aj h λad G h=>hU .i (a _ _ _ _ G) ?_
    refine ay ?_
    refine aj h λag H h=>e1 (λax=>fP .i (a _ _ _ _ (dT H ax)) ⟨ba o ax,ba o ax,ba o ax,w⟩) ?_
    exact go
   ·refine aj h λah I h=>hU .i (a _ _ _ _ I) ?_
    refine ay ?_
    refine aj h λai K h=>e1 (λax=>fP .i (a _ _ _ _ (dT K ax)) ⟨ba o ax,ba o ax,ba o ax,w⟩) ?_
    exact go
   ·refine aj h λak M h=>aj h λal N h=>cs mixed 15 (rg 79 15) [[],[],[1],[],[0,2,3],[],[],[6],[],[5,7,8],[4,9],[],[11],[12],[10,13]] [_,_,_,_,_,_,_,_,_,_,_,_,_,_,_] ⟨dG,H1 (bM PS.fd),iM 0 Jp bz,dG,jZ .i (a _ _ _ _ M),dG,H1 (bM PT.fd),iM 0 Jq bz,dG,jZ .i (a _ _ _ _ N),jB (Ra underlying4),H1 (bM aj7.fd),iM 0 Ub bz,jB ir,jB (Ra underlying4),w⟩ ?_
    exact go
   refine aj h λam an h=>aj h λao ap h=>aj h λau aw h=>d0 11 ?_
   exact go
def afT{a c d f}(h:OH a c d=y f):cf prog 275 [u a,u c,u d] (u f):=afy bX a c d f h
instance:jg prog 275 _ _ _ _ OH u u u u:=
 ⟨⟨_,func275,rfl,by kernel_rfl⟩,λ_ _ _ _ h=>afT h⟩
def Og{c p A f}(h:xr c p=y f):k3 prog 53 [b' A,u p] A c (cM [u f.1,u f.2]) c:=by
 unfold xr at h;refine cb λD E=>?_;refine ay λB C=>?_;refine aj h λj l h=>?_;refine eC (aY:=bG) (aX:=bG) l [4] (λm d=>[(3,b' B),(11,u c.b8),(12,u (t c.b8:Int)),(13,u m)]) (λm d=>[]) (λa=>b5 (λa=>b2 0) (λa=>c6) a) (λa d=>b5 (λa=>[]) (λa=>[(5,u a.1)]) a) (λa d=>b5 (λa=>[]) (λa=>[(0,a7 C a.2)]) a) () (λm f h d=>?_) λd=>?_
 ·exact go
 rcases j with j|j
 ·simp only[ci]at h;exact go
 simp only[co]at h;exact go
def Uj{c m d f}(h:BZ c m=y f):k3 prog 170 [b' d,u m] d c (cM []) f:=by
 unfold BZ at h;refine cb λal am=>?_;refine ay λan=>?_;refine aj h λao l h=>?_;refine gw l [0,3] (cD.cF [4]) (gx 0) (cD.cF [4]) (λap f h=>?_) ?_
 ·refine ay (λh=>?_);refine aj h λbB aw h=>aj h λB C h=>aj h λD E h=>er [0,3,4,7,8,9,10,11,12,13] ?_;refine c2 2 (az 14 [] [] _::az 15 [] [] _::az 16 [1] [] _::az 17 [2] [] _::az 18 [3] [1] _::az 19 [] [] _::az 20 [4,5] [] _::az 21 [6] [] _::az 22 [7] [] _::az 23 [0,8] [1] (u B)::az 24 [] [] _::az 25 [] [] _::az 26 [11] [0] _::az 27 [10,12] [1] (u D)::az 5 [9] [] _::az 6 [13] [] _::[]) (dC ?_ (dC ?_ hg)) (λaB=>?_)
  ·intro aq br aD aA av dQ;exact cd (cl [1] .i (Fg C) ⟨ae (aA _ _ o),ae (aA _ _ o),w⟩ o ⟨(av 1 _ o o),w⟩ o) o o o (U (bY (dv []) o o))
  ·intro aq br aD aA av dQ;exact cd (cl [1] .i (Fg E) ⟨ae (aA _ _ o),ae (aA _ _ o),w⟩ o ⟨(av 1 _ o o),w⟩ o) o o o (U (bY (dv []) o o))
  refine cp ?_;refine e4 (Y (bW (bW ?_)));refine aj h λdi F h=>aj h λaC G h=>cs mixed 22 (rg 28 22) [[],[],[0,1],[2],[3],[3],[3,4,5],[3,6],[7],[7,8],[7,9],[7,10],[7],[7,11,12],[7,13],[7,14],[7],[7,16],[7,15,17],[7,18],[3,7,19],[3,20]] [_,_,_,_,_,_,_,_,_,_,_,_,_,_,_,_,_,_,_,_,_,_] ⟨dG,dG,jB oU,dG,bD λaD av=>λax=>cN (ae o),bD λaD av=>λax=>cN (ae o),bD λaD av=>λax=>ir (ba o ax) (ba o ax),bD λaD av=>λax=>cN (ba o ax),λaD av=>cO (λax=>cN (ae o)) o o o,λaD av=>cO (λax=>fp (ba o ax)) o o o,λaD av=>cO (λax=>bM alr.fd (ba o ax)) o o o,λaD av=>cO (λax=>iq (i:=1) ((V cR).comp Fp) sJ (ba o ax) (av _ _ o o) o o) o o o,λaD av=>cO (λax=>cN (ae o)) o o o,λaD av=>cO (λax=>jy (k:=di) underlying53 fK (ba o ax) (ba o ax) (cz (dT F (xl ax)))) o o o,λaD av=>cO (λax=>oV Eu Qv.fd (ba o ax) o o) o o o,λaD av=>cO (λax=>hn lM (ba o ax)) o o o,λaD av=>cO (λax=>bM Qv.fd (ae o)) o o o,λaD av=>cO (λax=>iq (i:=0) ((V aJ).comp Eu) lM (ba o ax) (av _ _ o o) o o) o o o,λaD av=>cO (λax=>fP .i (Us (dT G (xl ax))) ⟨ba o ax,ba o ax,w⟩) o o o,λaD av=>cO (λax=>oU (ba o ax) (cU 0)) o o o,bD λaD av=>λax=>mR (ba o ax) (ae o) (λh=>⟨ax,h⟩),ed λav=>oY (ae o) (ae o) (λh=>h),w⟩ ?_;exact go
 refine af.j3 (Y (aj h λH I h=>aj h λp K h=>aj h λA M h=>aj h λN O h=>aj h λa P h=>dk 1 (er [0,3,4] ?_)));refine c2 3 (az 52 [] [] _::⟨y 53,[],[2],[2],λaq=>a' (aH (aq 1 0) (t ([]:R aJ)) 0),λaq _=>⟨(aq 1 0),.row 70 ([]:R aJ) 0⟩⟩::az 54 [] [] _::az 55 [2] [] _::az 56 [3] [] _::az 57 [4] [1] _::az 58 [] [] _::az 59 [5,6] [] (u H)::⟨y 60,[1,7],[2],[2],λaq=>a' (aH (aq 8 0) (t p) ((aq 8 1).getD 0)),λaq _=>⟨(aq 8 0),.row 70 p ((aq 8 1).getD 0)⟩⟩::az 61 [] [0] _::az 62 [9] [] _::⟨y 63,[1,8,10],[2],[2],λaq=>a' (aH (aq 11 0) (t A) ((aq 11 1).getD 0)),λaq _=>⟨(aq 11 0),.row 70 A ((aq 11 1).getD 0)⟩⟩::az 64 [] [] _::az 65 [12] [] _::az 66 [13] [] _::az 67 [14] [1] _::az 68 [] [] _::az 69 [15,16] [] (u N)::⟨y 70,[1,8,11,17],[2],[2],λaq=>a' (aH (aq 18 0) (t a) ((aq 18 1).getD 0)),λaq _=>⟨(aq 18 0),.row 70 a ((aq 18 1).getD 0)⟩⟩::az 71 [0] [] _::az 72 [19] [] _::⟨cv,[1,5,8,11,15,18,20],[1,2],[1,2],λ_=>J.any,λaq Q=>bif Nat.beq Q 1 then(a7 d ({c with b8:=a}:cR))else⟨cv,.dead⟩⟩::[]) (dC ?_ (dC ?_ (dC ?_ (dC ?_ (dC ?_ (dC ?_ (dC ?_ hg))))))) (λaE=>?_)
 ·intro aq br aD aA av dQ;exact d1 (au:=aJ) underlying53 fK ly o o (.nil) o λab=>U (df 2 (av 2 _ o o) (bY (dv [ab]) o o))
 ·exact cn (iV λaq br aD aA av=>vW underlying53 fK (ae (aA _ _ o)) .none (.some (ae (aA _ _ o))) I)
 ·intro aq br aD aA av dQ;refine c1 (i:=2) underlying53 fK ly (bytes:=88) (by kernel_rfl) (ae (aA _ _ o)) (av 2 _ o o) (ae (aA _ _ o)) K o λac ad=>?_;exact U (bY (dv [ac,y ad]) o o)
 ·intro aq br aD aA av dQ;refine c1 (i:=2) underlying53 fK ly (bytes:=88) (by kernel_rfl) (ae (aA _ _ o)) (av 2 _ o o) (ae (aA _ _ o)) M o λag ah=>?_;exact U (bY (dv [ag,y ah]) o o)
 ·exact cn (iV λaq br aD aA av=>vW underlying53 fK (ae (aA _ _ o)) (.some (ae (aA _ _ o))) .none O)
 ·intro aq br aD aA av dQ;refine c1 (i:=2) underlying53 fK ly (bytes:=88) (by kernel_rfl) (ae (aA _ _ o)) (av 2 _ o o) (ae (aA _ _ o)) P o λai ak=>?_;exact U (bY (dv [ai,y ak]) o o)
 ·intro aq br aD aA av dQ;refine aa.aj8 (i:=1) (j:=2) (xs:=a) (et:=({c with b8:=a}:cR)) ((V cR).comp Fp) sJ (aA _ _ o) o (aA _ _ o) (av 1 _ o o) (av 2 _ o o) o o o (U ?_);exact bY (dv []) o o
 refine cp ?_;refine e4 ?_;exact X 2 o (dE go)
instance aaP:ew prog 319 _ _ Ut u (λd=>cM [u d.1,u d.2]):=.j (h:=λac d h ad ag=>by
 refine ay λG=>?_;refine aj h λah H h=>e1 (λax=>pA underlying9 (ba o ax) .none (.some (cU 2)) (dT H ax)) ?_;refine e1 (λax=>lq underlying9 (ba o ax) (fA (b1 #[48,120]))) ?_;refine aj h λai I h=>jO I (mR (ae o) (ae o) (λh=>h)) (bC ?_);refine aj h λm B h=>?_;refine fg [2] (cD.cF [0,4] m) [] ?_ (λhm C=>?_) λhm C=>?_
 ·refine ay λak al f h=>?_;refine aj h λD c h=>?_;refine eC (aY:=bG) (aX:=bG) c [2] (λp j=>[(0,u m.1),(4,u m.2),(5,b' f),(6,u p.1)]) (λp j=>[(0,a7 f p.2)]) (λa=>b5 (λa=>b2 0) (λa=>c6) a) (λa j=>b5 (λa=>[(0,u m.1),(5,b' f)]) (λa=>[(3,u a.1)]) a) (λa j=>b5 (λa=>[(0,a7 f a)]) (λa=>[(0,a7 f a.2.1),(1,a7 G a.2.2)]) a) () (λp d h j=>?_) λj=>?_
  ·refine ay (λh=>?_);refine aj h λam K h=>aT (sr underlying9 (ae o) (ae o) K) ?_;refine ay (λan ao ap au F h=>?_);refine aj h λaw c h=>?_;refine eC (aY:=bG) (aX:=bG) c [0,2,4,5,6,7] (λA l=>[(8,u A.1)]) (λA l=>[(0,a7 F A.2)]) (λE=>b2 2) (λE l=>[]) (λE l=>[(0,a7 F E)]) () (λA d h l=>?_) λl=>?_
   ·exact go
   refine af.j3 (Y (bW (aj h λaB M h=>aj h λaC N h=>aj h λaE O h=>aj h λaG P h=>cs mixed 7 (rg 42 7) [[],[],[],[1,2],[3],[4],[0,5]] [_,_,_,_,_,_,_] ⟨pR 0 Q7,dG,dG,ed λav=>sr underlying9 (ae o) (ae o) M,jZ aaH.dj (aaH.m _ _ N),jZ aaJ.dj (aaJ.m _ _ O),jZ Mh.dj (Mh.m _ _ _ P),w⟩ ?_)));exact go
  rcases D with D|D
  ·simp only[ci]at h;refine ay ?_;refine aT (QT underlying9 (ae o) (fA (b1 #[]))) ?_;exact go
  simp only[co]at h;exact go
 ·have h:=da C B;refine aj h λQ ab h=>er [0,2,3,9,10,11,12,13,14,15,16] ?_;refine c2 1 (az 17 [] [] _::az 18 [0] [] (u Q)::az 4 [] [] _::az 0 [0,1,2] [] _::[]) (dC ?_ hg) (λaH=>?_)
  ·exact cn (iV λaq br aD aA av=>pA underlying9 (ae (aA _ _ o)) (.some (cU 2)) .none ab)
  refine cp ?_;refine e4 ?_;exact go
 have h:=db C B;exact go)
def TJ{C:bf->aw (Int×bf)}(D:wm C){m:bf}{c:Nat}{E:aw Nat}{F:Nat}{d:Int×bf}(h:By C m=y d):bn prog 389 [b' c] [⟨y c,.bF ({m with bL:=[]}:bf) [(3,aH E (t m.bL) F)]⟩,⟨E,.row 375 m.bL F⟩] (aX:=bN) (λl=>u d.1) (λl=>[⟨y c,.bF ({d.2 with bL:=[]}:bf) [(3,aH l.1 (t d.2.bL) l.2)]⟩,⟨l.1,.row 375 d.2.bL l.2⟩]):=by
 unfold By at h;refine cb λac ad=>?_;refine ay ?_;refine S 1 o (S 1 o (aj h λag I h=>cy 2 .i (Tm D I) λG=>?_));refine ay ?_;refine aj h λah p h=>?_;refine eC (aY:=bN) (aX:=bN) p [] (λf a=>[(0,b' c),(3,u f.1)]) (λf a=>[(0,⟨y c,.bF f.2.1 [(3,aH a.1 (t f.2.2) a.2)]⟩),(1,⟨a.1,.row 375 f.2.2 a.2⟩)]) (λj=>b2 0) (λj a=>[(3,u j.1)]) (λj a=>[(0,⟨y c,.bF j.2.1 [(3,aH a.1 (t j.2.2) a.2)]⟩),(1,⟨a.1,.row 375 j.2.2 a.2⟩)]) (G.1,G.2) (λf d h a=>?_) λa=>?_
 ·refine bW (bl (bJ ?_));refine c4 ((V bf).comp kL) 0 0 o o o (aj h λai K h=>cd (cl [0,1] .i (IL K) ⟨ae o,fA (b1 #[43]),w⟩ o ⟨rfl,rfl,w⟩ o) o o o ?_);refine ay ?_;refine aj h λak M h=>aa.DU (λax=>cl [0,1] .i (IL (dT M ax)) ⟨ba o ax,fA (b1 #[45]),w⟩ o ⟨rfl,rfl,w⟩ o) o o o o o ?_;refine go2 (λh=>?_) (λh=>?_)
  ·refine aj h λal N h=>cd (cl [0,1] .i (IL N) ⟨ae o,fA (b1 #[45]),w⟩ o ⟨rfl,rfl,w⟩ o) o o o (bC (aj h λO A h=>?_));refine fg [0,3] (cD.cF [4] O) [] ?_ (λhm B=>?_) λhm B=>?_
   ·refine ay ?_;refine qC 0 kv bz ?_;refine ay ?_;refine aj h λam P h=>c3 (i:=0) ((V bf).comp kv) bz (ae o) (ae o) o o (dz P) (by rfl) ?_;refine ay ?_;refine c4 ((V bf).comp kL) 0 0 o o o (S 1 o (S 1 o (aj h λan Q h=>cy 2 .i (Tm D Q) λao=>?_)));refine ay λap au h=>?_;refine S 1 o (S 1 o (aj h λaB ab h=>cy 2 .i (rX ab) λH=>?_));refine bI (U ?_);refine dm ?_;cases h;exact eE (H.1,H.2) 0
   ·have h:=da B A;exact go
   have h:=db B A;exact go
  cases h;exact ej (a.1,a.2) 0
 refine ay ?_;refine dh ((V bf).comp kL) 0 0 o o o (X 1 o (X 1 o ?_));cases h;exact ff (a.1,a.2)
instance:dd prog 222 _ _ _ OI u u u:=.j (h:=λa c r h W A=>by
 exact go)
def adO{d f j a c}(h:EZ d f j=y c):k3 prog 167 [b' a,u f,u j] a d (cM [u c.1,u c.2.1]) c.2.2:=by
 unfold EZ at h;refine cb λD E=>?_;refine ay λF=>?_;refine aj h λG l h=>cd (cl [1] .i (Fg l) ⟨ae o,ae o,w⟩ o ⟨rfl,w⟩ o) o o o ?_;refine ay (λh=>?_);refine aj h λH m h=>cd (cl [1] .i (Og m) ⟨ae o,ae o,w⟩ o ⟨rfl,w⟩ o) o o o ?_;refine ay (λI h=>?_);refine aj h λp A h=>aj h λbB K h=>er [0,1,2,4,6,7,8,9,10,11,12,13,14,15,16,17,18,19,20,21,22] ?_;refine c2 3 (az 23 [] [] _::az 24 [] [] _::az 25 [1] [1] _::az 26 [0,2] [2] (u p)::az 27 [3] [] _::az 28 [] [] _::az 29 [5] [] _::az 30 [6] [] _::az 31 [7] [] _::az 32 [8] [2] _::az 33 [] [] _::az 34 [9,10] [] _::az 35 [11] [] _::az 36 [12] [] _::az 37 [4,13] [] _::[]) (dC ?_ hg) (λM=>?_)
 ·intro aq br aD aA av dQ;exact cd (cl [2] .i (ad9 A) ⟨ae (aA _ _ o),ae (aA _ _ o),w⟩ o ⟨(av 2 _ o o),w⟩ o) o o o (U (bY (dv []) o o))
 refine cp ?_;refine e4 ?_;refine ay (λh=>?_);refine aj h λB C h=>er [0,1,2,4,6,7,8,9,10,11,12,13,14,15,16,17,18,19,20,21,22,23,24,25,26,27,28,29,30,31,32,33,34,35,36,37] ?_;refine c2 3 (az 38 [] [] _::az 39 [] [1] _::az 40 [] [] _::az 41 [2] [] _::az 42 [3] [] _::az 43 [4] [2] _::az 44 [] [] _::az 45 [1,5,6] [] _::⟨y 46,[0,5,7],[2],[2],λ_=>cM [],λaq _=>a7 a B⟩::[]) (dC ?_ hg) (λN=>?_)
 ·intro aq br aD aA av dQ;exact S 2 (av 2 _ o o) (aa.kG (dJ:=[a7 a d]) (b9:=aD.eraseIdx 2) .i (Uj C) ⟨ae (aA _ _ o),ae (aA _ _ o),w⟩ o λO=>U (af.back 2 (av 2 _ o o) (bY (dv []) o o)))
 refine cp ?_;refine e4 ?_;exact go
instance:ew prog 252 _ _ UU u (λr=>cM [u r.1,u r.2.1,u r.2.2]):=.j (h:=λl r h W A=>by
 refine bl (aT (cc (look_nil (au:=gP))) ?_);refine ay ?_;refine ar.scope (bW (bl (bJ ?_)));refine cP (C0 underlying9) ?_;refine cH oU (bC ?_);refine fR h (λh=>?_) λh=>?_
 ·refine bl (aT (cc (look_nil (au:=gP))) ?_);refine ay ?_;refine af.Hm ?_;cases h;exact af.pM o (hd o) (hd o) (hd o)
 refine gE (bl (c0 (au:=gP) 400 (aT (cc h7) ?_)));refine ay ?_;refine ar.label (Y (bW (cA (aj h λf j h=>?_))));refine eC (aY:=bN) (aX:=bN) j [] (λd a=>[(0,u l),(5,a' (aH a.1 (t d.2) a.2)),(6,u d.1)]) (λd a=>[(0,⟨a.1,.row 400 d.2 a.2⟩)]) (λc=>b5 (λc=>b2 0) (λc=>c6) c) (λc a=>b5 (λc=>[(5,a' (aH a.1 (t c) a.2))]) (λc=>[(2,u c.1),(3,u c.2.1),(4,u c.2.2.1)]) c) (λc a=>b5 (λc=>[(0,⟨a.1,.row 400 c a.2⟩)]) (λc=>[(0,⟨a.1,.row 400 c.2.2.2 a.2⟩)]) c) (cv,0) (λd r h a=>?_) λa=>?_
 ·refine go2 (λh=>?_) (λh=>?_)
  ·refine aj h λah m h=>aT (pA underlying9 (ae o) (.some (ae o)) .none m) ?_;refine go2 (λp B h=>?_) (λp B ai ak al am an h=>?_)
   ·cases h;exact eE (a.1,a.2) 0
   refine aT (QT underlying9 (ae o) (fA (b1 #[]))) (bC ?_);refine fR h (λh=>?_) λh=>?_
   ·refine bl (bJ ?_);refine cP (bM GK.fd) ?_;refine aj h λao C h=>?_;refine rF 0 BG bz (ax:=by exact C) ?_;refine ay ?_;refine aj h λap D h=>aT (sr underlying9 (ae o) (cU 0) D) ?_;refine aj h λaw E h=>hU aap.dj (aap.m _ _ E) ?_;refine cP lr (bC ?_);refine fR h (λh=>?_) λh=>?_
    ·refine bl (cP (bM GK.fd) ?_);refine aj h λaB F h=>?_;refine rF 0 BG bz (ax:=by exact F) ?_;refine go2 (λG H I h=>?_) (λG H I h=>?_)
     ·refine aT (cc (look_nil (au:=gP))) ?_;refine ay ?_;cases h;exact ej (a.1,a.2) 2
     refine aT (lq underlying9 (ae o) (fA (b1 #[]))) ?_;refine go2 (λh=>?_) (λh=>?_)
     ·refine aT (cc (look_nil (au:=gP))) ?_;refine ay ?_;cases h;exact ej (a.1,a.2) 2
     refine aj h λaC K h=>eM 2 underlying347 wD Rb K λM N=>?_;refine ay ?_;cases h;exact eE (M,N) 2
    refine ay ?_;refine aT (lq underlying9 (ae o) (fA (b1 #[]))) ?_;refine go2 (λh=>?_) (λh=>?_)
    ·refine aT (cc (look_nil (au:=gP))) ?_;refine ay ?_;cases h;exact ej (a.1,a.2) 1
    refine aj h λaE O h=>eM 1 underlying347 wD Rb O λP Q=>?_;refine ay ?_;cases h;exact eE (P,Q) 1
   refine ay ?_;refine aj h λaG ab h=>jO ab (lq underlying9 (ae o) (fA (b1 #[]))) ?_;refine go2 (λh=>?_) (λh=>?_)
   ·refine aT (cc (look_nil (au:=gP))) ?_;refine ay ?_;cases h;exact ej (a.1,a.2) 1
   refine aj h λaI ac h=>eM 1 underlying347 wD Rb ac λad ag=>?_;refine ay λaJ aL h=>?_;cases h;exact eE (ad,ag) 1
  cases h;exact ej (a.1,a.2) 0
 rcases f with f|f
 ·simp only[ci]at h;refine ay ?_;refine af.Hm (d2 (au:=gP) 0 [2,5,63] ⟨rfl,rfl,rfl,w⟩ o ?_);cases h;exact af.pM o (hd o) (hd o) (hd o)
 simp only[co]at h;refine af.km (c8 (af.Hm ?_));cases h;exact af.pM o (hd o) (hd o) (hd o))
def acu{a f m p c}(h:Nb a=y c):bn prog 400 [b' f] [⟨y f,.bF ({a with b3:=[]}:bw) [(2,aH m (t a.b3) p)]⟩,⟨m,.row 346 a.b3 p⟩] (aX:=bN) (λd=>u c.1) (λd=>[⟨y f,.bF ({c.2 with b3:=[]}:bw) [(2,aH d.1 (t c.2.b3) d.2)]⟩,⟨d.1,.row 346 c.2.b3 d.2⟩]):=by
 unfold Nb at h;refine cb λF G=>?_;refine ay ?_;refine aj h λbB H h=>aj h λB I h=>dk 1 (er [0,2] ?_);refine c2 3 (az 8 [] [] _::az 9 [0] [] _::az 10 [1] [] _::az 11 [2] [0] (u a.cw)::az 12 [] [] _::az 13 [4] [] _::az 14 [5] [] _::az 15 [6] [0] (u a.du)::az 16 [3,7] [] _::az 17 [8] [] _::az 18 [9] [] _::az 19 [10] [] _::az 7 [11] [] _::az 20 [12] [] _::az 21 [12] [] _::mY 3 [] 2 15 _::fL [13,15] [2] [2] (λaq=>a7 ((aq 15 0).getD 0) B.1)::az 4 [14] [] _::[]) (dC ?_ (dC ?_ hg)) (λK=>?_)
 ·exact cn (iV λaq br aD aA av=>ho (i:=0) ((V bw).comp s8) uU (ae (aA _ _ o)) (av 0 _ o o) o o (by rfl))
 ·exact cn (iV λaq br aD aA av=>ho (i:=0) ((V bw).comp nU) bz (ae (aA _ _ o)) (av 0 _ o o) o o (by rfl))
 refine cp ?_;refine e4 ?_;refine X 2 o (ay ?_);refine aj h λM j h=>?_;refine fg [0,3] [] [] ?_ (λhm l=>?_) λhm l=>?_
 ·refine ay ?_;refine qC 1 nU bz ?_;refine ay ?_;refine aj h λN C h=>c3 (i:=1) ((V bw).comp nU) bz (ae o) (ae o) o o (dz C) (by rfl) ?_;refine ay λO P Q ab ac h=>?_;refine c4 ((V bw).comp mG) 2 0 o o o (S 3 o (S 3 o (aj h λad D h=>cy 2 .i (ui D) λA=>?_)));refine bI (bC (cq ?_));refine X 1 o (X 1 o ?_);cases h;exact ff (A.1,A.2)
 ·have h:=da l j;refine ce (bJ ?_);refine aj h λag E h=>cd (cl [1,2] .i (Iv E) ⟨ae o,w⟩ o ⟨rfl,rfl,w⟩ o) o o o ?_;exact go
 have h:=db l j;exact go
def acN{B:bw->aw (Int×bw)}(M:wo B){j:bw}{l:Nat}{C:aw Nat}{D:Nat}{d:Int×bw}(h:Nu B j=y d):bn prog 397 [b' l] [⟨y l,.bF ({j with b3:=[]}:bw) [(2,aH C (t j.b3) D)]⟩,⟨C,.row 346 j.b3 D⟩] (aX:=bN) (λf=>u d.1) (λf=>[⟨y l,.bF ({d.2 with b3:=[]}:bw) [(2,aH f.1 (t d.2.b3) f.2)]⟩,⟨f.1,.row 346 d.2.b3 f.2⟩]):=by
 unfold Nu at h;refine cb λau aB=>?_;refine ay ?_;refine S 1 o (S 1 o (aj h λaC N h=>cy 2 .i (vv N) λaE=>?_));refine go2 (λh=>?_) (λh=>?_)
 ·refine S 1 o (S 1 o (aj h λaI O h=>cy 2 .i (M _ _ _ _ _ O) λaJ=>?_));refine ay ?_;refine S 1 o (S 1 o (aj h λaL P h=>cy 2 .i (vv P) λE=>?_));refine cP lr (bC ?_);refine aj h λaM p h=>?_;refine fg [3] [] [] ?_ (λhm a=>?_) λhm a=>?_
  ·refine ay ?_;refine X 1 o (X 1 o ?_);cases h;exact ff (E.1,E.2)
  ·have h:=da a p;refine ce (bJ ?_);refine aj h λaN Q h=>cd (cl [0,1] .i (Iv Q) ⟨ae o,w⟩ o ⟨rfl,rfl,w⟩ o) o o o ?_;exact go
  have h:=db a p;exact go
 refine aj h λbB ab h=>aj h λaO ac h=>?_;refine cs mixed 24 (rg 18 24) [[],[0],[1],[2],[],[4],[5],[6],[7],[3,8],[9],[10],[10,11],[10,12],[10,13],[10],[10,15],[10,16],[10,17],[10,14,18],[10,19],[10,20],[10,21],[10,22]] [_,_,_,_,_,_,_,_,_,_,_,_,_,_,_,_,_,_,_,_,_,_,_,_] ⟨dG,H1 fp,H1 (bM xN.fd),ed λav=>ho (i:=0) ((V bw).comp nU) bz (ae o) (av _ _ o o) o o (by rfl),dG,H1 fp,H1 (bM xO.fd),ed λav=>ho (i:=0) ((V bw).comp s8) uU (ae o) (av _ _ o o) o o (by rfl),H1 (mT underlying347),jB kj,dG,bD λaD av=>λax=>cN (ae o),bD λaD av=>λax=>fp (ba o ax),bD λaD av=>λax=>bM xO.fd (ba o ax),bD λaD av=>λax=>ho (i:=0) ((V bw).comp s8) uU (ba o ax) (av _ _ o o) o o (by rfl),bD λaD av=>λax=>cN (ae o),bD λaD av=>λax=>fp (ba o ax),bD λaD av=>λax=>bM xN.fd (ba o ax),bD λaD av=>λax=>ho (i:=0) ((V bw).comp nU) bz (ba o ax) (av _ _ o o) o o (by rfl),bD λaD av=>λax=>jy (k:=bB) underlying347 wD (ba o ax) (ba o ax) (cz (dT ab ax)),bD λaD av=>λax=>oV BG GK.fd (ba o ax) o o,bD λaD av=>λax=>hn bz (ba o ax),bD λaD av=>λax=>ir (ba o ax) (cU 1),vm ac λaD av=>mR (ae o) (ae o) (λh=>h),w⟩ ?_;refine go2 (λh=>?_) (λh=>?_)
 ·refine S 1 o (S 1 o (aj h λaR ad h=>cy 2 .i (acu ad) λF=>?_));refine ay ?_;refine X 1 o (X 1 o ?_);cases h;exact ff (F.1,F.2)
 refine S 1 o (S 1 o (aj h λaS ag h=>cy 2 .i (Tl ag) λaT=>?_));refine go2 (λah ai ak h=>?_) (λah ai ak aU aV al h=>?_)
 ·refine S 2 o (S 2 o (aj h λaW am h=>cy 2 .i (ui am) λG=>?_));refine ay ?_;refine X 1 o (X 1 o ?_);cases h;exact ff (G.1,G.2)
 refine S 3 o (S 3 o (aj h λaZ an h=>cy 2 .i (vv an) λH=>bC ?_));refine aj h λm A h=>?_;refine hs (aY:=bN) [0,7] (λc=>[]) (λc=>[(0,⟨y l,.bF m.1 [(2,aH c.1 (t m.2.1) c.2)]⟩),(1,⟨c.1,.row 346 m.2.1 c.2⟩),(2,a7 al m.2.2)]) (λc=>?_) (λhm a=>?_) λhm a=>?_
 ·refine ay ?_;refine c4 ((V bw).comp mG) 0 0 o o o (S 1 o (S 1 o (aj h λa0 ao h=>cy 2 .i (ui ao) λI=>?_)));refine bI (bC (cq ?_));refine X 1 o (X 1 o ?_);cases h;exact ff (I.1,I.2)
 ·have h:=da a A;refine ce (bJ ?_);refine S 1 o (S 1 o (aj h λa1 ap h=>cy 2 .i (Tl ap) λK=>?_));refine ay ?_;cases h;exact cL 0 (hm (K.1,K.2))
 have h:=db a A;refine cr ?_;cases h;exact cL 0 (hm (H.1,H.2))
instance:jg prog 259 _ _ _ _ JR u u u u:=.j (h:=λG H I r h W A=>by
 refine bl (aT (cc Lk) ?_);refine R4 (λa c d f j l K M h=>?_) (λa c d f j l N O h=>?_) (λa c d f j l h=>?_) (λa c d f j l h=>?_) (λa c d f j l h=>?_) (λa c d f j l h=>?_)
 ·refine aT (mn underlying358 o (ae o) (λ_ _ _ h=>sj h)) ?_;exact go
 ·refine aT (mn underlying358 o (ae o) (λ_ _ _ h=>sj h)) ?_;exact go
 ·refine aj h λP m h=>aT (wF (vA m) ⟨(ae o),w⟩) ?_;refine cP lr ?_;refine aT (mn underlying358 o (ae o) (λ_ _ _ h=>sj h)) ?_;exact go
 ·refine aj h λQ p h=>aT (wF (vA p) ⟨(ae o),w⟩) ?_;refine ay ?_;refine aj h λab B h=>e1 (λax=>wF (vA (dT B ax)) ⟨(ba o ax),w⟩) ?_;refine HF ?_;refine aT (mn underlying358 o (ae o) (λ_ _ _ h=>sj h)) ?_;exact go
 ·refine aj h λac C h=>aT (wF (vA C) ⟨(ae o),w⟩) ?_;refine ay ?_;refine aj h λad D h=>e1 (λax=>wF (vA (dT D ax)) ⟨(ba o ax),w⟩) ?_;refine wW ?_;refine aT (mn underlying358 o (ae o) (λ_ _ _ h=>sj h)) ?_;exact go
 refine aj h λag E h=>aT (wF (vA E) ⟨(ae o),w⟩) ?_;refine ay ?_;refine aj h λah F h=>e1 (λax=>wF (vA (dT F ax)) ⟨(ba o ax),w⟩) ?_;refine wW ?_;refine aT (mn underlying358 o (ae o) (λ_ _ _ h=>sj h)) ?_;exact go)
def Uu{a d f j c}(h:zI a d f j=y c):iW prog 436 [u d,u f,u j] a (cM [u c.1,u c.2]) a:=by
 unfold zI at h;refine cb λm p=>?_;refine ay λA=>?_;refine aj h λB l h=>cd (c5 1 o .i (Un l) ⟨ae o,ae o,ae o,w⟩) o o o ?_;exact go
def aed{d p A f}(h:Fi d p A=y f):iW prog 457 [u p,u A] d (cM [u f.1,u f.2]) d:=by
 unfold Fi at h;refine cb λG H=>?_;refine ay λI C=>?_;refine aj h λK D h=>aj h λM E h=>aj h λB F h=>cd (eg.obj 2 o (Ao E) .i (ac6 F) o ⟨jI (ae o) D,w⟩) o o o ?_;refine ay ?_;refine aj h λl m h=>?_;refine yB (bb:=Int) (bp:=bG⊕(Int×aI)) (aY:=bG) (aX:=bG) m 2 [] (λj c=>[(3,b' C),(10,u B),(11,u (t B:Int)),(12,u j)]) (λj c=>[]) (λj c=>bc d) (λa=>b5 (λa=>b2 0) (λa=>c6) a) (λa c=>b5 (λa=>[]) (λa=>[(4,u a.1),(5,u a.2)]) a) (λa c=>[]) (λa c=>b5 (λa=>bc d) (λa=>bc d) a) () (λj f h c=>?_) (λc=>?_)
 ·exact go
 rcases l with l|l
 ·simp only[ci]at h;exact go
 simp only[co]at h;exact go
def Uc{f B C l}(h:BU f B=y l):k3 prog 169 [b' C,u B] C f (cM []) l:=by
 unfold BU at h;refine cb λI K=>?_;refine bl (hT λE=>eG ?_);refine c0 (au:=aJ) 70 (aT (cc h7) ?_);refine ay ?_;refine aj h λM m h=>?_;refine eC (aY:=bN) (aX:=bN) m [0] (λd a=>[(3,b' E),(4,a' (aH a.1 (t d.2) a.2)),(10,u f.b8),(11,u (t f.b8:Int)),(12,u d.1)]) (λd a=>[(0,⟨a.1,.row 70 d.2 a.2⟩)]) (λj=>b2 0) (λj a=>[(4,a' (aH a.1 (t j) a.2))]) (λj a=>[(0,⟨a.1,.row 70 j a.2⟩)]) (cv,0) (λd l h a=>?_) λa=>?_
 ·refine go2 (λbB N O P Q h=>?_) (λh=>?_)
  ·refine aj h λD p h=>?_;refine hs (aY:=bN) [0,3,10,11,12] (λc=>[(4,a' (aH c.1 (t D) c.2))]) (λc=>[(1,⟨c.1,.row 70 D c.2⟩)]) (λc=>?_) (λhm A=>?_) λhm A=>?_
   ·refine ay ?_;cases h;exact eE (c.1,c.2) 1
   ·have h:=da A p;refine ay ?_;refine aj h λab F h=>eM 1 underlying53 fK ly F λG H=>?_;refine bI (U ?_);cases h;exact cL 0 (hm (G,H))
   have h:=db A p;refine cr ?_;cases h;exact cL 0 (hm (a.1,a.2))
  cases h;exact ej (a.1,a.2) 0
 refine ay ?_;refine aa.hb (au:=aJ) 0 [27,4] ⟨rfl,rfl,w⟩ o (wT 2 Fp sJ (U ?_));exact dE go
instance:dd prog 62 _ _ _ Jy u u u:=.j (h:=λF G r h W A=>by
 refine bl (hT λH=>?_);refine aT (cc (look_nil (au:=fN))) (eG ?_);refine c0 (au:=fN) 141 (aT (cc h7) ?_);refine ay λp I h=>?_;refine aj h λK j h=>?_;refine eC (aY:=bN) (aX:=bN) j [] (λd a=>[(5,a' (aH a.1 (t d.2) a.2)),(10,u p),(11,u (t p:Int)),(12,u d.1)]) (λd a=>[(0,⟨a.1,.row 141 d.2 a.2⟩)]) (λf=>b2 0) (λf a=>[(5,a' (aH a.1 (t f) a.2))]) (λf a=>[(0,⟨a.1,.row 141 f a.2⟩)]) (cv,0) (λd r h a=>?_) λa=>?_
 ·refine go2 (λbB M N h=>?_) (λh=>?_)
  ·refine aj h λB l h=>?_;refine hs (aY:=bN) [10,11,12] (λc=>[(5,a' (aH c.1 (t B) c.2))]) (λc=>[(1,⟨c.1,.row 141 B c.2⟩)]) (λc=>?_) (λhm m=>?_) λhm m=>?_
   ·refine ay ?_;cases h;exact eE (c.1,c.2) 1
   ·have h:=da m l;refine ay ?_;refine aj h λO C h=>eM 1 underlying130 rr LF C λD E=>?_;refine bI (U ?_);cases h;exact cL 0 (hm (D,E))
   have h:=db m l;refine cr ?_;cases h;exact cL 0 (hm (a.1,a.2))
  cases h;exact ej (a.1,a.2) 0
 refine ay ?_;exact d2 (au:=fN) 0 [4,5,25] ⟨rfl,rfl,rfl,w⟩ o go)
def ae3{d C D}(h:B0 d C D):k4 prog 150 [u C] d D:=by
 unfold B0 at h;refine cb λQ ab=>?_;refine bl (aT (cc (look_nil (au:=aJ))) (fl (bl ?_)));refine bJ ?_;refine aT (CI underlying197 (ae o)) (bC ?_);refine My h (λh=>?_) λh=>?_
 ·refine bl (aT (cc (look_nil (au:=aJ))) (bC (cq (c8 ?_))));exact ct (⟨⟨(([]:R aJ),d),h⟩,()⟩: {r // _}×_) (.refl _) o o (dO o)
 refine gE (bl (c0 (au:=aJ) 70 (aT (cc h7) ?_)));refine ay λac ad ah ai h=>?_;refine b4 h λj H h=>b4 h λp A h=>aa.Yp (au:=Int) (b7:=aJ) (jt:=p) 1 o underlying250 (kQ (ae o) H) (tu A) o o λB l m E=>bC (cA ?_);refine wV (aY:=bN) (aX:=bN) h 2 [] (λc a=>[(3,a' (aH a.1 (t c.2) a.2)),(12,b' B)]) (λc a=>[(0,⟨y B,.is (mZ j l m c.1)⟩),(1,⟨a.1,.row 70 c.2 a.2⟩)]) (λc a=>nF j (.map l m) (bc d)) (λf=>b2 0) (λf a=>[(3,a' (aH a.1 (t f.2) a.2))]) (λf a=>[(0,⟨y B,.is (mZ j l m f.1)⟩),(1,⟨a.1,.row 70 f.2 a.2⟩)]) (λf a=>nF j (.map l m) (bc d)) (cv,0) (λc aj h a=>?_) (λak h a=>?_)
 ·refine bl (aa.Zq (jt:=p) 0 (ae o) o (Ll 2 o (tu A) o) E o λI F=>?_);replace h:=ag.VJ h I F;refine aT (Yq (ae o)) ?_;refine go2 (λh=>?_) (λh=>?_)
  ·refine b4 h λbB K h=>aT (Wt (jt:=p) (sN:=c.1) 0 (ae o) o (Ll 2 o (tu A) o) E F K) ?_;refine ay λal am an h=>?_;refine b4 h λao M h=>eM 2 underlying53 fK ly M λN O=>?_;refine bI (U ?_);exact dm (af.uL h (N,O) 1 o .all)
  exact af.rj h (a.1,a.2) 0 o (by simp) o (.same o .nil)
 refine ay ?_;refine S 1 o (aa.nI (en.kG 1 .i (acd h) o o ⟨ae o,Wu .i (λ_ _ _ h=>adu h),w⟩) o o o λ⟨P,G,h⟩=>?_);refine c9 ?_;refine aa.hL 3 o G (aa.hL 22 o G (ay ?_));exact af.Dj 2 o (d2 (au:=aJ) 0 [2,3,22,24] ⟨rfl,rfl,rfl,rfl,w⟩ o (ct (⟨⟨(P,d),h⟩,()⟩: {r // _}×_) (fv 2) o o (dO o)))
instance:dd prog 21 _ _ _ OQ u u u:=.j (h:=λa c r h W A=>by
 exact go)
def acD{p:bw->aw (Int×bw)}(C:wo p)(m:Nat):∀(c:bw) (d:Nat) (j:aw Nat) (l:Nat) (a:Int×bw),Ei p m c=y a->bn prog 394 [b' d] [⟨y d,.bF ({c with b3:=[]}:bw) [(2,aH j (t c.b3) l)]⟩,⟨j,.row 346 c.b3 l⟩] (aX:=bN) (λf=>u a.1) (λf=>[⟨y d,.bF ({a.2 with b3:=[]}:bw) [(2,aH f.1 (t a.2.b3) f.2)]⟩,⟨f.1,.row 346 a.2.b3 f.2⟩]):=by
 induction m with
 |zero=>intro c d j l a h;simp[Ei]at h
 | succ m D=>
   intro c d j l a h
   simp only[Ei]at h
   refine cb λM N=>?_
   refine ay ?_
   refine S 1 o (S 1 o (aj h λO E h=>cy 2 .i (vv E) λP=>?_))
   refine go2 (λh=>?_) (λh=>?_)
   ·refine S 1 o (S 1 o (aj h λF G h=>cy 2 .i (D _ _ _ _ _ G) λQ=>?_))
    refine aj h λab H h=>jO H (iI (b:=({(ca:de)with cm:=4,fr:=F.1}:de)) o Ay wE (.cons sc o (cU 4) o (.cons ur o (ae o) o (.nil)))) ?_
    refine S 1 o (S 1 o (aj h λac I h=>cy 2 .i (ui I) λA=>?_))
    refine ay ?_
    refine X 1 o (X 1 o ?_)
    cases h
    exact ff (A.1,A.2)
   refine S 1 o (S 1 o (aj h λad K h=>cy 2 .i (acN C K) λB=>?_))
   refine bI (bC (cq ?_))
   refine X 1 o (X 1 o ?_)
   cases h
   exact ff (B.1,B.2)
def Tf{m:bw->aw (Int×bw)}(p:wo m){c:bw}{f:Nat}{j:aw Nat}{l:Nat}{a:Int×bw}(h:Nk m c=y a):bn prog 394 [b' f] [⟨y f,.bF ({c with b3:=[]}:bw) [(2,aH j (t c.b3) l)]⟩,⟨j,.row 346 c.b3 l⟩] (aX:=bN) (λd=>u a.1) (λd=>[⟨y f,.bF ({a.2 with b3:=[]}:bw) [(2,aH d.1 (t a.2.b3) d.2)]⟩,⟨d.1,.row 346 a.2.b3 d.2⟩]):=acD p bX c f j l a h
def acb{a c:R aJ}{ag:Int}{ai aj:aw Nat}{d C:Nat}{Q:R aJ}(h:Ig a ag c=y Q):bn prog 472 [a' (aH ai (t a) d),u ag,a' (aH aj (t c) C)] [⟨ai,.row 70 a d⟩,⟨aj,.row 70 c C⟩] (aX:=(aw Nat×Nat)) (λD=>a' (aH D.1 (t Q) D.2)) (λD=>[⟨D.1,.row 70 Q D.2⟩]):=by
 unfold Ig at h;obtain⟨k,rfl,E,ak,al,ay,rfl⟩:=ahD h;refine cb λK M=>?_;refine bW (ce (Z (cc h7) o o o (U (Y (bW (ce (Z (cN (ae o)) o o o (Z (cN (ae o)) o o o (Z (GC (i:=0) (xs:=a) underlying53 fK (ae o) o (.some (ae o)) .none o o ⟨E,jT _⟩) o o o (U (Y (bW (ce (Z (cN (ae o)) o o o (Z (nv (i:=1) (xs:=c) underlying53 (ae o) o o) o o o (Z (cc (ae o)) o o o (U (Y ?_))))))))))))))))));refine bW (bW (ce (Z (cN (ae o)) o o o (Z (ir (ae o) (cU 0)) o o o (U (Y (c' (ae o) (λF=>?_) (λ_=>?_))))))))
 ·exfalso;simp only[l1]at F;omega
 refine cr (Y (bW (ce (Z (cN (ae o)) o o o (Z (nv (i:=0) (xs:=a) underlying53 (ae o) o o) o o o (Z (cc (ae o)) o o o (U (Y (bW (bW (ce (Z (cN (ae o)) o o o (Z (cN (ae o)) o o o (Z (ir (ae o) (ae o)) o o o (U (Y ?_))))))))))))))));refine c' (ae o) (λF=>?_) (λF=>?_)
 ·have am:k=t a:=by simp only[l1]at F;omega
  subst am;refine bW (ce (Z (cN (ae o)) o o o (aa.hb (au:=aJ) 1 [2,13] ⟨rfl,rfl,w⟩ o (Z (cN (ae o)) o o o (c1 (i:=0) (xs:=a) (ek:=c) (r:=a++c) underlying53 fK ly (by kernel_rfl) (ae o) o (ae o) (by unfold dA;rw[bT ⟨al,ay⟩]) o λaB l=>?_)))));refine Z (cc (ae o)) o o o (U (Y (cq ?_)));have aF:a.take (t a)++c++a.drop (t a)=a++c:=by simp
  rw[aF];repeat (apply c8)
  exact ct (aB,l) (.cons_cons _ (r0 _)) o o (dO o)
 have am:k<t a:=by simp only[Ip]at F;omega
 refine cr (Y (dL (i:=0) (xs:=a) o (by omega) λf aC aU aW=>?_));subst aC;refine dL (i:=1) (xs:=c) o (by omega) λq aE aY aZ=>?_;subst aE;refine ar.apart o λaG=>bW (bW (ce (Z (cN (ae o)) o o o (Z (cN (ae o)) o o o (Z (hc (ae o) (ae o)) o o o (Z (cN (ae o)) o o o (Z (als underlying53 (ae o)) o o o (Z (oU (ae o) (ae o)) o o o (U (Y ?_))))))))));have O:aV ((t a:Int)+(t c:Int))=((t a+t c:Nat):Int):=by
  have an:maxLen=9223372036854775807:=rfl;rw[eU (by omega) (by omega)];simp
 refine c' (ae o) (λG=>?_) (λG=>?_)
 ·have ao:d<t a+t c:=by rw[O]at G;simp only[ik]at G;omega
  have an:maxLen=9223372036854775807:=rfl;have aI:aV (aV ((t a:Int)+(t c:Int))-(k:Int))=((t a+t c-k:Nat):Int):=by
   rw[O,eU (by omega) (by omega)];omega
  refine bW (ce (Z (cN (ae o)) o o o (Z (cN (ae o)) o o o (Z (GC (i:=0) (xs:=a) underlying53 fK (ae o) o .none (.some (ae o)) o o ⟨zC _,E⟩) o o o (Z (cN (ae o)) o o o (Z (cN (ae o)) o o o (Z (hc (ae o) (ae o)) o o o (Z (cN (ae o)) o o o (Z (sw (ae o) (ae o)) o o o ?_)))))))));refine aa.aqt (i:=0) (m:=k) (k:=t a+t c-k) (xs:=a) (z:=(ca:aJ)) underlying53 underlying3 fK ly (by rfl) (by kernel_rfl) (ae o) (by rw[<-aI];exact ae o) o E (by omega) (by omega) (by rw[show k+(t a+t c-k)=t a+t c by omega];exact al) (by omega) o λA l=>?_;refine Z (cc (ae o)) o o o (U (Y ?_));have aL:t (a.take k++bZ (t a+t c-k) (ca:aJ))=t a+t c:=by simp;omega
  refine dL (i:=0) (xs:=a.take k++bZ (t a+t c-k) (ca:aJ)) o (by omega) λa0 a1 aM a2=>?_;rw[aL]at aM;refine bW (ce (Z (cN (ae o)) o o o (Z (cN (ae o)) o o o (Z (vT (au:=aJ) (m:=k) (h:=k+(t a+t c-k)) underlying53 fK (ae o) (.some (ae o)) .none o o ⟨by omega,by omega⟩) o o o ?_))));refine Z (cN (ae o)) o o o (d3 (i:=0) (p:=A) (off:=k*ah.size aJ) (Dx:=k+(t a+t c-k)-k) (Ho:=l-k) (N:=t c) (gY:=c) (T:=70) underlying53 fK (by rw[<-PU (by omega)];exact ae o) (XG (i:=2) (ae o) o ak) (qU (by omega)) o o (λM K ab ac h B=>Pw (by omega) h B) ?_);refine U (Y ?_);have aN:(a.take k++bZ (t a+t c-k) (ca:aJ)).take k++c++(a.take k++bZ (t a+t c-k) (ca:aJ)).drop (k+t c)=a.take k++c++bZ (t a-k) (ca:aJ):=by
   have H:t (a.take k)=k:=by rw[oz];omega
   rw[IZ H,List.drop_append,H,Ed (by omega),List.nil_append,List.drop_replicate];congr 2;omega
  have P:aV ((k:Int)+(t c:Int))=((k+t c:Nat):Int):=by rw[eU (by omega) (by omega)];simp
  refine bW (ar.le (br:=[(0,a' (aH (y f) (t a) d)),(1,u (k:Int)),(7,u (t c:Int)),(9,a' (aH (y A) (k+(t a+t c-k)) l))]) .all ?_);refine ar.MG mixed (az 46 [] [] (a' (aH (y A) (k+(t a+t c-k)) l))::az 47 [] [] (u (k:Int))::az 48 [] [] (u (t c:Int))::az 49 [1,2] [] (u (aV ((k:Int)+(t c:Int))))::az 50 [0,3] [] (a' (jf (y A) (k+t c) ((k+(t a+t c-k))-(k+t c)) l (ah.size aJ)))::az 51 [] [] (a' (aH (y f) (t a) d))::az 52 [] [] (u (k:Int))::az 53 [5,6] [] (a' (jf (y f) k (t a-k) d (ah.size aJ)))::⟨y 54,[4,7],[0,1],[0],λ_=>u ((t ((a.drop k).take (t a-k)):Nat):Int),λ_ _=>⟨y A,.row 70 ((a.take k++c++bZ (t a-k) (ca:aJ)).take (k+t c)++(a.drop k).take (t a-k)++(a.take k++c++bZ (t a-k) (ca:aJ)).drop (k+t c+t ((a.drop k).take (t a-k)))) l⟩⟩::[]) [0,1,7,9] ⟨?_,?_,?_,?_,?_,?_,?_,?_,?_,w⟩ λaq=>?_
  ·exact jL o o o λaq br aD aA av=>cN (ae (aA _ _ o))
  ·exact jL o o o λaq br aD aA av=>cN (ae (aA _ _ o))
  ·exact jL o o o λaq br aD aA av=>cN (ae (aA _ _ o))
  ·exact jL o o o λaq br aD aA av=>hc (ae (aA _ _ o)) (ae (aA _ _ o))
  ·exact jL o o o λaq br aD aA av=>vT (au:=aJ) (m:=k+t c) (h:=(k+(t a+t c-k))) underlying53 fK (ae (aA _ _ o)) (.some (ae (aA _ _ o))) .none P o ⟨by omega,by omega⟩
  ·exact jL o o o λaq br aD aA av=>cN (ae (aA _ _ o))
  ·exact jL o o o λaq br aD aA av=>cN (ae (aA _ _ o))
  ·exact jL o o o λaq br aD aA av=>vT (au:=aJ) (m:=k) (h:=t a) underlying53 fK (ae (aA _ _ o)) (.some (ae (aA _ _ o))) .none o o ⟨by omega,by omega⟩
  ·intro aq br aD aA av;have I:=av 0 _ o o;rw[aN]at I;refine d3 (i:=0) (p:=A) (off:=(k+t c)*ah.size aJ) (T:=70) (gY:=(a.drop k).take (t a-k)) (N:=t a-k) (Dx:=(k+(t a+t c-k))-(k+t c)) (Ho:=l-(k+t c)) underlying53 fK (by rw[<-PU (p:=A) (dK:=k+t c) (cap:=l) (size:=ah.size aJ) (by omega)];exact ae (aA _ _ o)) (K2 (i:=1) (ae (aA _ _ o)) (av 1 _ o o) (by omega) (by omega)) (by rw[show((a.drop k).take (t a-k)).length=t a-k by simp];exact qU (by omega)) I o (λM K ab ac h B=>Pw (by simp;omega) h B) ?_;exact U (bY (dv []) o o)
  have aO:((a.take k++c++bZ (t a-k) (ca:aJ)).take (k+t c)++(a.drop k).take (t a-k)++(a.take k++c++bZ (t a-k) (ca:aJ)).drop (k+t c+t ((a.drop k).take (t a-k))))=a.take k++c++a.drop k:=by
   have H:t (a.take k++c)=k+t c:=by simp;omega
   have aR:(a.drop k).take (t a-k)=a.drop k:=rS (by simp);have aS:(a.take k++c++bZ (t a-k) (ca:aJ)).drop (k+t c+t (a.drop k))=[]:=Ed (by rw[lI,H,Na,qT];omega);rw[aR,IZ H,aS,qe]
  refine cp ?_;rw[aO];refine af.le (br:=[(9,a' (aH (y A) (k+(t a+t c-k)) l))]) (.same o .nil) (Y (bW (ce (Z (cN (ae o)) o o o (Z (cc (ae o)) o o o (U (Y (cq ?_))))))));have ad:k+(t a+t c-k)=t (a.take k++c++a.drop k):=by simp;omega
  rw[ad];repeat (apply c8)
  exact ct (y A,l) (.cons_cons _ (r0 _)) o o (dO o)
 have ao:t a+t c<=d:=by rw[O]at G;simp only[qb]at G;omega
 have an:maxLen=9223372036854775807:=rfl;have P:aV ((k:Int)+(t c:Int))=((k+t c:Nat):Int):=by rw[eU (by omega) (by omega)];simp
 refine cr (Y (bW (ce (Z (cN (ae o)) o o o (Z (cN (ae o)) o o o (Z (cN (ae o)) o o o (Z (hc (ae o) (ae o)) o o o (Z (vT (au:=aJ) (m:=0) (h:=t a+t c) underlying53 fK (ae o) .none (.some (ae o)) o O ⟨by omega,by omega⟩) o o o ?_))))))));refine Z (cc (ae o)) o o o (U (Y (bW (bW (ce (Z (cN (ae o)) o o o (Z (cN (ae o)) o o o (Z (cN (ae o)) o o o (Z (cN (ae o)) o o o (Z (hc (ae o) (ae o)) o o o (Z (vT (au:=aJ) (p:=f) (n:=t a+t c) (cap:=d) (m:=k+t c) (h:=t a+t c) underlying53 fK (Lm (size:=ah.size aJ) (ae o)) (.some (ae o)) .none P o ⟨by omega,by omega⟩) o o o ?_)))))))))));refine Z (anY (au:=aJ) (p:=f) (q:=q) (T:=70) (Sv:=70) (xs:=a) (gY:=c) (cap:=d) (aaQ:=C) (i:=0) (j:=1) (Sw:=4) (by kernel_rfl) func479 (by kernel_rfl) (by kernel_rfl) (by kernel_rfl) (by kernel_rfl) underlying53 fK (ae o) (Qw (p:=f) (dK:=k+t c) (cap:=d) (size:=ah.size aJ) (by omega) (ae o)) o o aG (by omega)) o o o ?_;refine Z (lr (ae o)) o o o (U (Y (c' (ae o) (λ_=>?_) (λaT=>by cases aT))));have a3:(t a+t c-0)=t a+t c:=by omega
 have ap:(a.drop k).take (t a-k)=a.drop k:=rS (by simp);refine bW (ar.le (br:=[(0,a' (jf (y f) 0 (t a+t c-0) d (ah.size aJ))),(1,u (k:Int)),(2,a' (aH (y q) (t c) C)),(7,u (t c:Int))]) .all ?_);refine ar.MG mixed (az 69 [] [] (a' (jf (y f) 0 (t a+t c-0) d (ah.size aJ)))::az 70 [] [] (u (k:Int))::az 71 [] [] (u (t c:Int))::az 72 [1,2] [] (u (aV ((k:Int)+(t c:Int))))::az 73 [0,3] [] (a' (jf (y f) (k+t c) (t a+t c-(k+t c)) d (ah.size aJ)))::az 74 [] [] (a' (jf (y f) 0 (t a+t c-0) d (ah.size aJ)))::az 75 [] [] (u (k:Int))::az 76 [5,6] [] (a' (jf (y f) k (t a+t c-k) d (ah.size aJ)))::⟨y 77,[4,7],[0],[0],λ_=>u ((t ((a.drop k).take (t a-k)):Nat):Int),λ_ _=>⟨y f,.Mz 70 a k (t c) d⟩⟩::[]) [0,1,2,7] ⟨?_,?_,?_,?_,?_,?_,?_,?_,?_,w⟩ λaq=>?_
 ·exact jL o o o λaq br aD aA av=>cN (ae (aA _ _ o))
 ·exact jL o o o λaq br aD aA av=>cN (ae (aA _ _ o))
 ·exact jL o o o λaq br aD aA av=>cN (ae (aA _ _ o))
 ·exact jL o o o λaq br aD aA av=>hc (ae (aA _ _ o)) (ae (aA _ _ o))
 ·exact jL o o o λaq br aD aA av=>vT (au:=aJ) (n:=t a+t c) (m:=k+t c) (h:=t a+t c) underlying53 fK (Lm (size:=ah.size aJ) (ae (aA _ _ o))) (.some (ae (aA _ _ o))) .none P o ⟨by omega,by omega⟩
 ·exact jL o o o λaq br aD aA av=>cN (ae (aA _ _ o))
 ·exact jL o o o λaq br aD aA av=>cN (ae (aA _ _ o))
 ·exact jL o o o λaq br aD aA av=>vT (au:=aJ) (n:=t a+t c) (m:=k) (h:=t a+t c) underlying53 fK (Lm (size:=ah.size aJ) (ae (aA _ _ o))) (.some (ae (aA _ _ o))) .none o o ⟨by omega,by omega⟩
 ·intro aq br aD aA av;have I:=av 0 _ o o;refine d3 (i:=0) (p:=f) (off:=(k+t c)*ah.size aJ) (T:=70) (gY:=(a.drop k).take (t a-k)) (N:=t a+t c-k) (Dx:=t a+t c-(k+t c)) (Ho:=d-(k+t c)) (iv:=.Mz 70 a k (t c) d) underlying53 fK (Qw (p:=f) (dK:=k+t c) (cap:=d) (size:=ah.size aJ) (by omega) (ae (aA _ _ o))) (K2 (i:=0) (ae (aA _ _ o)) I (by omega) (by omega)) (by rw[ap];rw[show(a.drop k).length=t a+t c-(k+t c) by simp;omega];exact NF (by omega)) I o (λM K ab ac h B=>aj9 E ao h (by rw[<-ap];exact B)) ?_;exact U (bY (dv []) o o)
 refine cp ?_;refine af.le (br:=[(0,a' (jf (y f) 0 (t a+t c-0) d (ah.size aJ))),(1,u (k:Int)),(2,a' (aH (y q) (t c) C))]) .all (Y (bW (ce (Z (cN (ae o)) o o o (Z (cN (ae o)) o o o ?_)))));refine Z (vT (au:=aJ) (n:=t a+t c) (m:=k) (h:=t a+t c) underlying53 fK (Lm (size:=ah.size aJ) (ae o)) (.some (ae o)) .none o o ⟨by omega,by omega⟩) o o o ?_;refine Z (cN (ae o)) o o o (d3 (i:=0) (p:=f) (off:=k*ah.size aJ) (Dx:=t a+t c-k) (Ho:=d-k) (N:=t c) (gY:=c) (T:=70) (iv:=.row 70 (a.take k++c++a.drop k) d) underlying53 fK (Qw (p:=f) (dK:=k) (cap:=d) (size:=ah.size aJ) (by omega) (ae o)) (XG (i:=1) (ae o) o ak) (qU (by omega)) o o (λM K ab ac h B=>aiL E h B) ?_);refine U (Y (bW (ce (Z (cN (ae o)) o o o (Z (cc (ae o)) o o o (U (Y (cq ?_))))))));have ad:t a+t c-0=t (a.take k++c++a.drop k):=by simp;omega
 rw[CD,ad];repeat (apply c8)
 exact ct (y f,d) (.cons_cons _ (r0 _)) o o (dO o)
def adv{a d f c}(h:EO a d f=y c):iW prog 431 [u d,u f] a (cM [u c.1,u c.2]) a:=by
 unfold EO at h;refine cb λC D=>?_;refine ay λE F G H I K h=>?_;refine aj h λM m h=>aj h λN p h=>aj h λj A h=>aj h λl B h=>er [0,1,2,3,6,7,8,9,10,11,12,13,14,15] ?_;refine c2 4 (az 16 [] [] _::az 17 [0] [3] _::az 18 [] [1] _::az 19 [1,2] [] (u j)::az 20 [] [0] _::az 21 [] [] _::az 22 [3,4,5] [] (cM [u l.1,u l.2])::az 23 [6] [] _::az 24 [6] [] _::az 4 [7] [] _::az 5 [8] [] _::[]) (dC ?_ (dC ?_ hg)) (λO=>?_)
 ·intro aq br aD aA av dQ;refine aT (uI (r:=j) underlying259 Az Hc (kQ (ae (aA _ _ o)) m) (ae (aA _ _ o)) (je (n:=4) (dQ.trans o) (oR p) o) (dz A)) (U ?_);exact bY (dv []) o o
 ·intro aq br aD aA av dQ;exact cd (c5 4 (dQ.trans o) .i (Uu B) ⟨ae (aA _ _ o),ae (aA _ _ o),ae (aA _ _ o),w⟩) o o o (U (bY (dv []) o o))
 refine cp ?_;refine e4 ?_;exact go
def adP{l a m C}(h:E0 l a m C):AQ prog 433 [u a,u m] l C:=by
 unfold E0 at h;refine cb λal am=>?_;refine ay λf D c an E F h=>?_;refine b4 h λao p h=>b4 h λap G h=>b4 h λH I h=>aT (uI (r:=H) underlying259 Az Hc (kQ (ae o) p) (ae o) (je (n:=4) o (oR G) o) (dz I)) ?_;refine aT (CI underlying517 (ae o)) (bC ?_);refine DG (aY:=bG) h 4 [2,3,4,5,6] (λj A=>[]) (λj A=>[]) (λj A=>bc j) (λj A h=>?_) (λhm K h=>?_) (λhm K h=>?_)
 ·refine Y (b4 h λau M h=>b4 h λN O h=>cs mixed 8 (rg 26 8) [[],[0],[],[1,2],[],[],[],[6]] [_,_,_,_,_,_,_,_] ⟨H1 (bM XH.fd),iM 3 Eo Rf,pR 1 LY,ed λav=>uI (r:=N) underlying259 Az Hc (kQ (ae o) p) (ae o) (oZ (λi e q=>av i e q o) (je (n:=4) o (oR M) o)) (dz O),pR 0 e3,dG,H1 (bM Yt.fd),iM 2 Ir bz,w⟩ ?_)
  refine dt 4 0 o .i (afn h) o o ⟨ae o,ae o,ae o,ae o,w⟩ o λ⟨⟨P,h⟩,aw⟩=>?_;refine c9 (U ?_);exact dE (af.mq (⟨⟨P.2,h⟩,()⟩: {r // _}×_) (fv 4) o o)
 ·obtain⟨Q,ab,ac⟩:=ag.ex h;refine er [2,3,4,5,6] ?_;refine ar.tL mixed [5,6] [(0,20,J.jC f Eo),(1,21,u a.uG),(2,22,u c.1),(3,23,J.jC f Nq),(4,24,u a.iB)] ?_;refine dR [] [0,1,2,3,4] [5] ⟨?_,w⟩;refine gf.of (aP:=[]) (λx:Subtype Q=>[(25,u x.1.1)]) (λx=>[]) (λx=>(a7 F c.2.1::a7 E c.1::a7 D m::a7 f a::bc x.1.2)) (λ⟨d,B⟩=>?_) (λaB ad cH aC aA k=>?_)
  ·have h:=ac d B;refine dR [4,3] [0,1,2] [6] ⟨gf.tail [5,4,3,2,1,0] ?_,w⟩;refine aa.dY ?_;refine aa.le (br:=[(2,b' f),(3,b' D),(4,b' E),(5,b' F),(6,u c.2.2),(21,u a.uG),(22,u c.1),(25,u d.1)]) .all (b4 h λah ai h=>b4 h λaj ak h=>?_);refine aa.Dd (ng:=Cell.nz (fB ah c.1 d.1)) 4 o (by first|exact .inl o|exact .inr o) underlying259 Az (kQ (ae o) p) (ae o) (ae o) (oR ai) o o o (dz ak) ?_;exact U (cL 0 (hm aj () h))
  cases ad;refine dt 4 0 o .i (agX ab) o o ⟨ae (aA o),w⟩ o λ⟨⟨d,B⟩,_⟩=>?_;refine c9 (U ?_);exact k ⟨d,B⟩
 exact cr (cL 0 (hm l () h))
def ac9{a p l c d f}(h:EI a p=y f):bn prog 464 [b' l,u p] [⟨y l,.bF ({a with cw:=[]}:fT) [(10,aH c (t a.cw) d)]⟩,⟨c,.row 70 a.cw d⟩] (aX:=bN) (λj=>u f.1) (λj=>[⟨y l,.bF ({f.2 with cw:=[]}:fT) [(10,aH j.1 (t f.2.cw) j.2)]⟩,⟨j.1,.row 70 f.2.cw j.2⟩]):=by
 unfold EI at h;refine cb λP Q=>?_;refine ay λab=>?_;refine aT (Li underlying262 (ae o)) ?_;refine ay ?_;refine aj h λac D h=>e1 (λax=>aZ.an1 (b7:=fT) (aY:=aJ) (et:=a) ((V fT).comp BK) 1 2 0 o o o o o o tm (aZ.ZB 1 o tm (aZ.Rh (z:=(a:fT)) 1 11 o (R5 ax) o tm (fP .i (adq (dT D ax)) ⟨ae o,ba o ax,w⟩)))) ?_;refine go2 (λh=>?_) (λh=>?_)
 ·refine X 2 o (X 2 o ?_);cases h;exact ff (c,d)
 refine aT (an2 (ae o)) ?_;refine bI (fl ?_);refine aj h λA E h=>er [0,1,3,4,5,8,9,10,11,12,13,14,15,16,17,18] ?_;refine c2 3 (az 20 [] [] _::az 21 [0] [] _::az 22 [1] [] _::az 23 [2] [1] (a' (aH c (t a.cw) d))::az 24 [] [0] _::az 25 [] [] _::az 26 [3,4,5] [1,2] (cM [u A.1,u A.2])::az 19 [6] [] _::az 27 [7] [] _::az 28 [7] [] _::az 6 [8] [] _::az 7 [9] [] _::[]) (dC ?_ (dC ?_ hg)) (λad=>?_)
 ·exact cn (iV λaq br aD aA av=>fG (i:=1) (q:=0) sJ (ae (aA _ _ o)) (av 1 _ o o) o)
 ·exact cn (iV λaq br aD aA av=>aZ.alu (b7:=fT) (aY:=aJ) (et:=a) ((V fT).comp BK) 1 2 0 23 o (av 1 _ o o) (av 2 _ o o) o o o (aA _ _ o) (Pc tm Gt) (aZ.ZB 1 (R6 (abt o (av 1 _ o o))) (Pc tm Gt) (aZ.alv (F:=(λG H=>Bx a G H)) 1 25 (aA _ _ o) (R6 (R6 (abt o (av 1 _ o o)))) .i (λ_ _ _ h=>ac8 h) (Pc tm Gt) (fP .i (aca E) ⟨ae o,ae (aA _ _ o),ae o,w⟩))))
 refine cp ?_;refine e4 (Y (bW ?_));refine aj h λB ag h=>aj h λm I h=>dk 1 (er [0,1,3,4,5,6,7,8,9,10,11,12,13,14,15,16,17,18,19,20,21,22,23,24,25,26,27,28] ?_);refine c2 4 (az 29 [] [] _::az 30 [] [] _::az 31 [1] [] _::az 32 [2] [] _::az 33 [3] [1] (a' (aH c (t a.cw) d))::az 34 [] [] _::az 35 [] [0] _::az 36 [6] [] _::⟨y 37,[7],[3],[3],λaq=>a' (aH (aq 8 0) [B].length 1),λaq _=>⟨(aq 8 0),.row 70 ([B]:R aJ) 1⟩⟩::⟨y 38,[4,5,8],[2,3],[2,3],λaq=>a' (aH (aq 9 0) (t m) ((aq 9 1).getD 0)),λaq K=>bif Nat.beq K 2 then⟨(aq 9 0),.row 70 m ((aq 9 1).getD 0)⟩else⟨cv,.dead⟩⟩::az 39 [0] [] _::az 40 [10] [] _::fL [4,9,11] [1] [1] (λaq=>⟨y l,.bF ({a with cw:=[]}:fT) [(10,aH (aq 9 0) (t m) ((aq 9 1).getD 0))]⟩)::[]) (dC ?_ (dC ?_ (dC ?_ (dC ?_ hg)))) (λC=>?_)
 ·exact cn (iV λaq br aD aA av=>fG (i:=1) (q:=0) sJ (ae (aA _ _ o)) (av 1 _ o o) o)
 ·intro aq br aD aA av dQ;refine d1 (au:=aJ) underlying53 fK ly o o (.cons (by simp) (ae (aA _ _ o)) (.nil)) o λM=>?_;exact U (df 3 (av 3 _ o o) (bY (dv [M]) o o))
 ·intro aq br aD aA av dQ;refine aa.alw (λq=>⟨q.1,.row 70 m q.2⟩) 2 3 .i (acb I) ⟨ae (aA _ _ o),ae (aA _ _ o),ae (aA _ _ o),w⟩ o (av 2 _ o o) (av 3 _ o o) (λ_=>rfl) o λ⟨N,O⟩=>?_;exact U (bY (dv [N,y O]) o o)
 ·intro aq br aD aA av dQ;refine dF (i:=1) ((V fT).comp BK) sJ (ae (aA _ _ o)) (ae (aA _ _ o)) hy (av 1 _ o o) o o o (U ?_);exact bY (dv []) o o
 refine cp ?_;refine e4 ?_;refine X 3 o (ay ?_);refine X 3 o (X 3 o ?_);cases h;exact ff ((C 9 0),((C 9 1).getD 0))
def aeK{A M B N l}(h:BV A M B N=y l):iW prog 441 [u M,u B,u N] A (u l.1) l.2:=by
 unfold BV at h;refine bn.ofM func441 o ntmps441 o λa9 a_=>?_;refine ay λO=>?_;refine aj h λbd ai h=>cd (c5 1 o .i (Uu ai) ⟨ae o,ae o,ae o,w⟩) o o o (bJ ?_);refine pQ ?_;refine pQ ?_;refine bI ?_;refine bI (eG ?_);refine bJ ?_;refine cP lr (bC ?_);refine fR h (λh=>?_) λh=>?_
 ·refine ay ?_;cases h;exact af.Hn (ct () (fv 1) o o (dO o))
 refine gE (bl (bJ ?_));refine aj h λbe ak h=>aT (fp (jI (ae o) ak)) ?_;refine cP (bM aka.fd) ?_;refine aj h λbf am h=>aT (oN ((V h6).comp Je) jW (ae o) (je (n:=1) o (xW am) o) o o) ?_;refine d1 (au:=Ref) underlying537 jW ZC o o (.cons (by simp) (ae o) (.nil)) o λan=>?_;refine aa.pB [0] akb an6 o λD=>c0 (au:=Ref) 527 (aa.pB [0] alx aqu o λE=>c0 (au:=Int) 3 (dF (i:=3) (V (R Ref)) yj (ae o) (ae o) hy o o o o (c0 (au:=Int) 3 (dF (i:=2) (V (R Int)) j5 (ae o) h7 hy o o o o ?_))));refine ay ?_;refine aj h λbg ao h=>hU .i (Ov ao) (bC (cA ?_));refine aj h λbh d h=>?_;refine VL (aC:=A) (aY:=bN×bN) (g0:=((cv,0),(an,1))) (eJ:=λc a=>(⟨a.1.1,.row 3 c.1 a.1.2⟩::⟨cv,.row 3 ([]:R Int) 0⟩::⟨y E,.bF ([]:R Int) [(0,aH a.1.1 (t c.1) a.1.2)]⟩::⟨cv,.row 527 ([]:R Ref) 0⟩::⟨y D,.bF ([]:R Ref) [(0,aH a.2.1 (t c.2) a.2.2)]⟩::⟨a.2.1,.row 527 c.2 a.2.2⟩::a7 O B::bc A)) (js:=λm a=>Empty.elim m) (λc a=>[⟨a.1.1,.row 3 c.1 a.1.2⟩,⟨cv,.row 3 ([]:R Int) 0⟩,⟨y E,.bF ([]:R Int) [(0,aH a.1.1 (t c.1) a.1.2)]⟩,⟨cv,.row 527 ([]:R Ref) 0⟩,⟨y D,.bF ([]:R Ref) [(0,aH a.2.1 (t c.2) a.2.2)]⟩,⟨a.2.1,.row 527 c.2 a.2.2⟩,a7 O B]) (λm=>Empty.elim m) o .i o TP d (λ_ _=>rfl) o o (λbi c l h a bj bk bm bo P bq ap=>?_) (λc aF a P=>?_) (λm aF a P=>?_)
 ·refine ce (bI (U ?_));refine af.begin 0 o ap (cA ?_);refine aj h λbB Q h=>aj h λbs bt h=>aj h λdi bu h=>aj h λbv bw h=>aj h λF aw h=>aj h λG aB h=>er [0,1,2,4,6,7,8,9,10,11,14,15,16,17,18,19,20,21,22,23,24,25,26,28,29,30,31,32] ?_;refine c2 9 (az 33 [] [6] (a' (aH a.2.1 (t c.2) a.2.2))::az 34 [] [6] (a' (aH a.2.1 (t c.2) a.2.2))::az 35 [] [6] (a' (aH a.2.1 (t c.2) a.2.2))::az 36 [2] [7] (u (t c.2:Int))::az 37 [3] [] _::az 38 [1,3,4] [7] (a' (.pointer (y ⟨a.2.1.getD 0,bB*1,cv⟩)))::az 39 [3,5] [7] (u (al c.2 bB))::az 40 [] [] _::az 41 [3,5,6] [] _::az 42 [3,5,6,8] [] _::az 43 [3,5,6,7,9] [] _::az 44 [3,5,6,10] [] _::az 45 [3,5,6,11] [] _::⟨y 46,[0,3,5,6,12],[7],[7],λaq=>a' (aH (aq 13 0) (t F) ((aq 13 1).getD 0)),λaq _=>⟨(aq 13 0),.row 527 F ((aq 13 1).getD 0)⟩⟩::az 47 [] [4] (a' (aH a.1.1 (t c.1) a.1.2))::az 48 [] [] _::az 49 [15] [] _::⟨y 50,[14,16],[2],[2],λaq=>a' (aH (aq 17 0) (t G) ((aq 17 1).getD 0)),λaq _=>⟨(aq 17 0),.row 3 G ((aq 17 1).getD 0)⟩⟩::fL [0,1,2,13] [6] [6] (λaq=>⟨y D,.bF ([]:R Ref) [(0,aH (aq 13 0) (t F) ((aq 13 1).getD 0))]⟩)::fL [14,17] [4] [4] (λaq=>⟨y E,.bF ([]:R Int) [(0,aH (aq 17 0) (t G) ((aq 17 1).getD 0))]⟩)::[]) (dC ?_ (dC ?_ (dC ?_ (dC ?_ (dC ?_ (dC ?_ (dC ?_ (dC ?_ (dC ?_ (dC ?_ (dC ?_ hg))))))))))) (λC=>?_)
  ·exact cn (iV λaq br aD aA av=>fG (i:=6) (q:=0) yj (ae (aA _ _ o)) (av 6 _ o o) o)
  ·exact cn (iV λaq br aD aA av=>fG (i:=6) (q:=0) yj (ae (aA _ _ o)) (av 6 _ o o) o)
  ·exact cn (iV λaq br aD aA av=>fG (i:=6) (q:=0) yj (ae (aA _ _ o)) (av 6 _ o o) o)
  ·exact cn (iV λaq br aD aA av=>nv (i:=7) underlying537 (ae (aA _ _ o)) o (av 7 _ o o))
  ·exact cn (iV λaq br aD aA av=>jx (i:=7) underlying537 jW (ae (aA _ _ o)) (ae (aA _ _ o)) (av 7 _ o o) (cz Q))
  ·exact cn (iV λaq br aD aA av=>mh (i:=7) (k:=bB) (V Ref) jW (ae (aA _ _ o)) (av 7 _ o o) (cz Q).1 o o)
  ·intro aq br aD aA av dQ;refine c1 (i:=7) underlying537 jW ZC (bytes:=8) (by kernel_rfl) (ae (aA _ _ o)) (av 7 _ o o) (ae (aA _ _ o)) aw o λaE aJ=>?_;exact U (bY (dv [aE,y aJ]) o o)
  ·exact cn (iV λaq br aD aA av=>fG (i:=4) (q:=0) j5 (ae (aA _ _ o)) (av 4 _ o o) o)
  ·intro aq br aD aA av dQ;refine c1 (i:=2) underlying59 bz my (bytes:=8) (by kernel_rfl) (ae (aA _ _ o)) (av 2 _ o o) (ae (aA _ _ o)) aB o λaM aN=>?_;exact U (bY (dv [aM,y aN]) o o)
  ·intro aq br aD aA av dQ;refine dF (i:=6) (V (R Ref)) yj (ae (aA _ _ o)) (ae (aA _ _ o)) hy (av 6 _ o o) o o o (U ?_);exact bY (dv []) o o
  ·intro aq br aD aA av dQ;refine dF (i:=4) (V (R Int)) j5 (ae (aA _ _ o)) (ae (aA _ _ o)) hy (av 4 _ o o) o o o (U ?_);exact bY (dv []) o o
  refine cp ?_;refine e4 ?_;refine dm ?_;cases h;exact af.abq (((C 17 0),((C 17 1).getD 0)),((C 13 0),((C 13 1).getD 0))) 0 o
 ·clear d;subst aF;simp only[ci]at h;refine af.eh ?_;refine dm (Y (bl (aT (fG (i:=5) (q:=0) yj (ae o) o o) ?_)));refine bJ ?_;refine aj h λfm ab h=>aT (jx (i:=6) underlying537 jW (ae o) (ae o) o (cz ab)) ?_;refine aT (mh (i:=6) (k:=fm) (V Ref) jW (ae o) o (cz ab).1 o o) ?_;refine ay λbx bA h=>?_;refine aj h λbD aO h=>aj h λbE aR h=>c7 8 o ((V fJ).comp Fb) (v:=dl) hv (ae o) (gU dl) (rl aO) o o o o (dz aR) ?_;refine ay ?_;refine aj h λbF aS h=>aj h λbH aU h=>c7 8 o ((V fJ).comp Jm) (v:=(0:Int)) bz (ae o) (cU 0) (rl aS) o o o o (dz aU) ?_;refine ay ?_;refine aj h λbK d h=>?_;refine yB (bb:=Int×(aL Cell)) (bp:=(Int×aI×(aL Cell))) (aY:=bG) (aX:=bG) d 8 [0,1,2,4,6,8,9,10,12,22,31] (λp f=>[(13,u p.1)]) (λp f=>[]) (λp f=>bc p.2) (λj=>b2 2) (λj f=>[(13,u j.1),(72,u j.2.1)]) (λj f=>[]) (λj f=>bc j.2.2) () (λp l h f=>?_) (λf=>?_)
  ·refine ay ?_;refine e1 (λax=>fG (i:=5) (q:=0) yj (ae o) o o) ?_;refine ay ?_;refine aj h λiw ac h=>e1 (λax=>jx (i:=6) underlying537 jW (ba o ax) (ba o ax) o (cz (dT ac ax))) ?_;refine e1 (λax=>mh (i:=6) (k:=iw) (V Ref) jW (ba o ax) o (cz (dT ac ax)).1 o o) ?_;refine aj h λbL aV h=>aa.DU (λax=>c5 8 o .i (Uh (dT aV ax)) ⟨ba o ax,w⟩) o o o o o ?_;refine ay (λh=>?_);refine aj h λaW ad h=>aj h λaZ ag h=>aj h λbO a0 h=>er [0,1,2,4,6,8,9,10,12,13,22,31,63,64,65,66,67,68,69,70,71,72] ?_;refine ar.abT 10 8 mixed (az 75 [] [5] _::az 76 [] [] _::az 77 [0,1] [6] _::az 78 [2] [6] _::az 79 [] [3] _::az 80 [] [] _::az 81 [4,5] [1] _::az 82 [6] [1] _::az 83 [3] [] _::az 84 [8] [] _::[]) ⟨cn (eF λaA av=>fG (i:=5) (q:=0) yj (ae (aA _ _ o)) (av 5 _ o o) o),cn gM,cn (eF λaA av=>jx (i:=6) underlying537 jW (ae (aA _ _ o)) (ae (aA _ _ o)) (av 6 _ o o) (cz ad)),cn (eF λaA av=>mh (i:=6) (k:=aW) (V Ref) jW (ae (aA _ _ o)) (av 6 _ o o) (cz ad).1 o o),cn (eF λaA av=>fG (i:=3) (q:=0) j5 (ae (aA _ _ o)) (av 3 _ o o) o),cn gM,cn (eF λaA av=>jx (i:=1) underlying59 bz (ae (aA _ _ o)) (ae (aA _ _ o)) (av 1 _ o o) (cz ag)),cn (eF λaA av=>mh (i:=1) (k:=aZ) (V Int) bz (ae (aA _ _ o)) (av 1 _ o o) (cz ag).1 o o),cn (eF λaA av=>fp (jI (ae (aA _ _ o)) a0)),cn (hI (bM KX.fd)),w⟩ λbP=>?_;refine aa.dY ?_;refine abu ?_;refine aj h λa1 ah h=>aT (hp Q2 (ae o) (ae o) (cz ah)) ?_;refine aj h λbQ a2 h=>aj h λbR a3 h=>c7 8 o (((V fJ).comp Bq).comp (aG.idx 2 a1 (cz ah).1)) (v:=(cv:Ref)) jW (ae o) nk (rl a2) o o o o (dz a3) ?_;exact go
  refine ay λbS a4 h=>?_;refine aj h λbT a5 h=>cd (c5 8 o .i (Uh a5) ⟨ae o,w⟩) o o o (bC (aj h λa6 H h=>?_));refine vc (aY:=bG) 8 [0,1,2,4,6,8,9,10,12,13,22,31,72,90] (λI=>[]) (λI=>[]) (λI=>bc a6) (λI=>?_) (λhm K=>?_) (λhm K=>?_)
  ·refine ay ?_;cases h;refine af.Mj 0 o o ?_;exact ct () (fv 8) o o (dO o)
  ·have h:=da K H;refine ay ?_;refine aj h λbU a8 h=>c7 8 o ((V h6).comp Je) (v:=(cv:Ref)) jW (ae o) nk (xW a4) o o o o (dz a8) ?_;exact go
  have h:=db K H;exact go
 exact Empty.elim m
def adQ{c d f a}(h:xm c d=y a):k3 prog 97 [b' f,u d] f c (cM [u a.1,u a.2.1]) a.2.2:=by
 unfold xm at h;refine cb λA B=>?_;refine ay λC D=>?_;refine aj h λE j h=>cd (cl [2] .i (Fg j) ⟨ae o,ae o,w⟩ o ⟨rfl,w⟩ o) o o o ?_;refine ay (λh=>?_);refine aj h λF l h=>cd (cl [2] .i (Og l) ⟨ae o,ae o,w⟩ o ⟨rfl,w⟩ o) o o o ?_;refine ay (λG h=>?_);refine S 3 o (aj h λH m h=>cy 1 .i (Uc m) λI=>?_);refine ay λK M h=>?_;refine S 0 o (aj h λN p h=>cy 1 .i (Uj p) λO=>?_);exact go
def adR{c d f a}(h:xn c d=y a):k3 prog 98 [b' f,u d] f c (cM [u a.1,u a.2.1]) a.2.2:=by
 unfold xn at h;refine cb λp A=>?_;refine ay λB C=>?_;refine aj h λD j h=>cd (cl [2] .i (Fg j) ⟨ae o,ae o,w⟩ o ⟨rfl,w⟩ o) o o o ?_;refine ay (λh=>?_);refine aj h λE l h=>cd (cl [2] .i (Og l) ⟨ae o,ae o,w⟩ o ⟨rfl,w⟩ o) o o o ?_;refine ay (λF h=>?_);refine S 3 o (aj h λG m h=>cy 1 .i (Uc m) λH=>?_);exact go
def aee{a c d f}(h:xq a c d f):k4 prog 83 [u c,u d] a f:=by
 unfold xq at h;refine cb λm p=>?_;refine bl (aT (cc (look_nil (au:=aJ))) ?_);refine ay ?_;refine b4 h λA l h=>cd (c5 0 o .i (Fc l) ⟨ae o,ae o,w⟩) o o o (dt 0 0 o .i (ae3 h) o o ⟨ae o,w⟩ o λ⟨⟨j,h⟩,B⟩=>?_);refine c9 ?_;refine bI (bC (cq ?_));exact ct (⟨⟨(j.1,j.2),h⟩,()⟩: {r // _}×_) (.refl _) o o (dO o)
instance:dd prog 45 _ _ _ Ke u u u:=.j (h:=λa c r h W A=>by
 exact go)
def TA{A:bw->aw (Int×bw)}(B:wo A){m:bw}{d:Nat}{C:aw Nat}{D:Nat}{f:Int×bw}(h:IF A m=y f):bn prog 390 [b' d] [⟨y d,.bF ({m with b3:=[]}:bw) [(2,aH C (t m.b3) D)]⟩,⟨C,.row 346 m.b3 D⟩] (aX:=bN) (λl=>u f.1) (λl=>[⟨y d,.bF ({f.2 with b3:=[]}:bw) [(2,aH l.1 (t f.2.b3) l.2)]⟩,⟨l.1,.row 346 f.2.b3 l.2⟩]):=by
 unfold IF at h;refine cb λab ac=>?_;refine ay ?_;refine S 1 o (S 1 o (aj h λad G h=>cy 2 .i (Tf B G) λag=>?_));refine ay ?_;refine aj h λah H h=>hU .i (UK H) ?_;refine S 1 o (S 1 o (aj h λai I h=>cy 2 .i (M8 I) λE=>?_));refine bI (bC (cA ?_));refine aj h λak p h=>?_;refine eC (aY:=bN) (aX:=bN) p [] (λc a=>[(0,b' d),(3,u c.1),(4,u c.2.1)]) (λc a=>[(0,⟨y d,.bF c.2.2.1 [(2,aH a.1 (t c.2.2.2) a.2)]⟩),(1,⟨a.1,.row 346 c.2.2.2 a.2⟩)]) (λj=>b2 0) (λj a=>[(3,u j.1)]) (λj a=>[(0,⟨y d,.bF j.2.1 [(2,aH a.1 (t j.2.2) a.2)]⟩),(1,⟨a.1,.row 346 j.2.2 a.2⟩)]) (E.1,E.2) (λc f h a=>?_) λa=>?_
 ·refine go2 (λh=>?_) (λh=>?_)
  ·refine c4 ((V bw).comp mG) 0 0 o o o (S 1 o (S 1 o (aj h λK M h=>cy 2 .i (Tf B M) λal=>?_)));refine aj h λam N h=>jO N (iI (b:=({(ca:de)with cm:=c.2.1,fr:=c.1,gm:=K.1}:de)) o Ay wE (.cons sc o (ae o) o (.cons ur o (ae o) o (.cons vG o (ae o) o (.nil))))) ?_;refine S 1 o (S 1 o (aj h λan O h=>cy 2 .i (ui O) λao=>?_));refine ay ?_;refine aj h λap P h=>hU .i (UK P) ?_;refine S 1 o (S 1 o (aj h λau Q h=>cy 2 .i (M8 Q) λF=>?_));refine bI (U ?_);cases h;exact eE (F.1,F.2) 0
  cases h;exact ej (a.1,a.2) 0
 refine ay ?_;refine dh ((V bw).comp mG) 0 0 o o o (X 1 o (X 1 o ?_));cases h;exact ff (a.1,a.2)
def TV{c d j f}(h:I5 c d j=y f):nZ prog "matchguard/index.find" (u d) [u j] ([]++bc c) (aX:=bG) (fun _=>cM [u f.1,u f.2]) (fun _=>[]++bc c):=by
 cases d with
 |nil=>cases h
 |qx l=>exact nZ.of (jP.rI (by kernel_rfl) underlying258 o .i) (λm p A a=>Pd a) (aeb h)
 |qy l=>exact nZ.of (jP.rI (by kernel_rfl) underlying261 o .i) (λm p A a=>Pe a) (adv h)
 |qz l=>exact nZ.of (jP.rI (by kernel_rfl) underlying265 o .i) (λm p A a=>Pf a) (aed h)
def aeL{d a c f}(h:Fu d a c f):AQ prog 459 [u a,u c] d f:=by
 unfold Fu at h;refine cb λF G=>?_;refine ay λl m=>?_;refine b4 h λH p h=>b4 h λI A h=>b4 h λB C h=>aa.nI (en.obj 2 (λq:aw Nat×Nat=>Cell.u6 B.2 q.1 q.2) o (Ao A) .i (ac9 C) o (λ_=>rfl) ⟨jI (ae o) p,ae o,w⟩) o o o λD=>?_;replace h:=ag.any_bind h D;refine b4 h λj E h=>?_;refine aa.qE (mC:=(a7 m c::a7 l a::bc j)) (by rw[<-dz E];rfl) ?_;exact U (dE (af.mq (⟨⟨j,h⟩,()⟩: {r // _}×_) (fv 2) o o))
def acV{j l m p}(h:EB j l m=y p):iW prog 434 [u l,u m] j (cM []) p:=by
 unfold EB at h;refine cb λO P=>?_;refine ay λQ ab B ac ad ag h=>?_;refine aj h λah a h=>aj h λai C h=>aj h λD E h=>cs mixed 6 (rg 15 6) [[],[0],[],[1,2],[],[]] [_,_,_,_,_,_] ⟨H1 (bM XH.fd),iM 3 Eo Rf,pR 1 LY,ed λav=>uI (r:=D) underlying259 Az Hc (kQ (ae o) a) (ae o) (oZ (λi e q=>av i e q o) (je (n:=4) o (oR C) o)) (dz E),pR 0 e3,dG,w⟩ ?_;refine aj h λak F h=>dt 4 0 o .i (aeK F) o o ⟨ae o,ae o,ae o,w⟩ o λal=>c9 ?_;refine ay ?_;refine aj h λG A h=>aj h λH I h=>aT (uI (r:=H) underlying259 Az Hc (kQ (ae o) a) (ae o) (je (n:=4) o (oR A) o) (dz I)) ?_;refine aj h λam K h=>cd (c5 4 o .i (afm K) ⟨ae o,w⟩) o o o (cH ir (bC ?_));refine aj h λM c h=>?_;refine vc (aY:=bG) 4 [] (λd=>[]) (λd=>[]) (λd=>bc M) (λd=>?_) (λhm f=>?_) (λhm f=>?_)
 ·exact dE go
 ·have h:=da f c;refine ay ?_;refine aj h λan N h=>aa.LR (ng:=Cell.nz (iT G B.1)) 4 o underlying259 Az (kQ (ae o) a) (ae o) (oR A) o o o (dz N) ?_;exact go
 have h:=db f c;exact go
end Go.Proofs.YtmcjlfmeoehcmaaGreat
