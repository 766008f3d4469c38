/-
  Each function meets its functional program. Conditions: none.
-/
import Derived.Test.YtmcjlfmeoehcmaaGreatMd
set_option linter.defProp false
set_option linter.unusedVariables false
set_option linter.unusedSimpArgs false
set_option maxRecDepth 100000
set_option maxHeartbeats 2000000
namespace Go.Proofs.YtmcjlfmeoehcmaaGreat
open Go Gv Go.Proofs.Tryz
open List renaming length->t,append->c'
open J renaming of->u,eq->b1,ptr->cd,bq->ce,nE->c3,bO->d0
open Option renaming some->w,none->cp
open _root_.ByteArray renaming mk->y
open Sum renaming elim->S,elim_inl->Z,elim_inr->a'
open aG renaming id->T,idx->dk
open aa renaming nil->U,aO->V,own->b',h8->cr,share->ct,hL->cv,kG->c2,mv->c5,uJ->c6,pB->c7,uK->c8,qq->c9,lp->du,CU->dE,yp->dK,ry->dR
open Inhabited renaming default->X
open True renaming intro->Y
open af renaming fin->b3,aO->cb,next->ci,back->co,dY->c0,hL->c1,fa->dt,hb->dL
open Go.Exit renaming exit->b4
open cf renaming ak->b5
open ar renaming skip->b8,dW->cn,ret->cq,block->cs,dj->dl,ef->ds,seq->dN
open bn renaming ak->ca
open Decidable renaming decide->cl
open ag renaming bV->cm,oM->cI
open fb renaming q->c4
open Bool renaming true->dm
attribute [local irreducible] aa ar af aZ aN dr dP dV J.of J.ptr J.eq J.cond J.bO
def Kg{c d f}(h:uz c d=w f):bn prog 10 [u c,u d] [] (aX:=Nat) (λa=>ce a) (λa=>[a7 a f]):=by
 unfold uz at h;refine ca λm n=>?_;refine bl (aT (cc (CT (.pointer cp))) ?_);refine ay ?_;refine aj h λp j h=>aT (vW underlying22 abj (ae o) .none (.some (ae o)) j) ?_;refine ay λl=>?_;refine cb 0 o ?_;cases h;exact ff l
def aet{a c d}(h:Jh a=w d):k3 prog 24 [ce c] c a (u d) a:=by
 unfold Jh at h;refine ca λf j=>?_;refine ay ?_;refine ds 10 ?_;exact go
def ad2{a c d}(h:I8 a c=w d):cf prog 111 [u a,cd c] (u d):=by
 unfold I8 at h;refine b5 λf j=>?_;exact go
def acm{a c d}(h:D9 a c=w d):cf prog 110 [u a,c3 prog c] (u d):=by
 unfold D9 at h;refine b5 λm n=>?_;refine ay ?_;refine aj h λf j h=>?_;refine gw j [] (cG 0 (u a) (cG 1 (c3 prog c) (cG 7 (u (t a:Int)) (cD.cF [8])))) (S (gx 0) h4) (S (λ_=>[]) (cD.cF [4])) (λp d h=>?_) ?_
 ·refine ay (λbB r h=>?_);refine aj h λA l h=>aT (Ac (ae o) (ae o) l) ?_;exact go
 rcases f with f|f
 ·simp only[Z]at h;exact go
 simp only[a']at h;exact go
instance:ew prog 163 _ _ FV u (λr=>d0 [u r.1,u r.2]):=.j (h:=λj r h W A=>by
 refine ay λn=>?_;refine aj h λp c h=>?_;refine gw c [] (cG 9 (u j.bS) (cG 10 (u (t j.bS:Int)) (cD.cF [4,5,11]))) (gx 0) (cD.cF [4,5]) (λB r h=>?_) ?_
 ·refine ay (λbB C D h=>?_);refine aj h λl d h=>?_;refine fg [9,10,11] (cD.cF [4,5] l) [] ?_ (λhm a=>?_) λhm a=>?_
  ·exact go
  ·have h:=da a d;exact go
  have h:=db a d;refine ay ?_;refine aj h λm f h=>?_;refine fg [9,10,11] (cD.cF [4,5] m) [] ?_ (λhm a=>?_) λhm a=>?_
  ·exact go
  ·have h:=da a f;exact go
  have h:=db a f;exact go
 exact go)
def agm{d f}(h:Kh d f):k4 prog 164 [] d f:=by
 unfold Kh at h;refine ca λm n=>?_;refine bl (aT (cc nk) (eG ?_));refine dE (au:=ck aW 4) (b7:=Int) 0 o (Cell.qw ([]:R ((ck aW 4)×Int))) (λ_=>rfl) o λa j=>?_;replace h:=cI h a j;refine qB amw amx {uS:=(⟨w a.1⟩:gb):sh} (o9 TQ .nil) ?_;refine dK 0 o (Cell.Dr ({uS:=(⟨w a.1⟩:gb):sh})) (λ_=>rfl) (ae o) o λc l=>?_;replace h:=cI h c l;refine bI (bC (cq ?_));exact dt (⟨⟨((w c.1:Ref),c.2),h⟩,()⟩: {r // _}×_) (.refl _) o o (dO o)
def ad3{a c d}(h:I9 a c=w d):cf prog 227 [u a,cd c] (u d):=by
 unfold I9 at h;refine b5 λf j=>?_;exact go
def acn{a c d}(h:Ea a c=w d):cf prog 226 [u a,c3 prog c] (u d):=by
 unfold Ea at h;refine b5 λm n=>?_;refine ay ?_;refine aj h λf j h=>?_;refine gw j [] (cG 0 (u a) (cG 1 (c3 prog c) (cG 7 (u (t a:Int)) (cD.cF [8])))) (S (gx 0) h4) (S (λ_=>[]) (cD.cF [4])) (λp d h=>?_) ?_
 ·refine ay (λbB r h=>?_);refine aj h λA l h=>aT (Ac (ae o) (ae o) l) ?_;exact go
 rcases f with f|f
 ·simp only[Z]at h;exact go
 simp only[a']at h;exact go
def aeW{d c}(h:Ol d=w c):bn prog 166 [u d] [] (aX:=Nat×bN) (λa=>ce a.1) (λa=>[⟨w a.1,.bF ({c with cw:=[]}:fT) [(10,aH a.2.1 (t c.cw) a.2.2)]⟩,⟨a.2.1,.row 70 c.cw a.2.2⟩]):=by
 unfold Ol at h;refine ca λj l=>?_;refine bl (hT λm=>?_);refine aT (cc nk) (eG ?_);refine j6 0 n5 ?_;refine aT (rf (b:=({(X:fT)with mO:=d}:fT)) [10] aiF o amy amz (.cons Th o (ae o) o (by rfl) (.nil))) ?_;refine b' (au:=aJ) 70 (aa.RF (ae o) o λf=>bI (bC (cq ?_)));refine af.gQ ((T fT).comp BK) 0 0 o o o (cb 1 o (cb 1 o ?_));cases h;exact ff (f,(cp,0))
def agW{f a j}(h:Kq f a j):k4 prog 58 [u a] f j:=by
 unfold Kq at h;refine ca λn p=>?_;refine bl (hT λA=>?_);refine aT (cc nk) ?_;refine ay ?_;refine dE (au:=cQ) (b7:=kN) 1 o (Cell.sD ([]:R (cQ×kN))) (λ_=>rfl) o λc l=>?_;replace h:=cI h c l;refine qB amA amB {mO:=a,kC:=(⟨w c.1⟩:gb):qh} (o9 Tr (o9 Ts .nil)) ?_;refine dK 1 o (Cell.AE ({mO:=a,kC:=(⟨w c.1⟩:gb):qh})) (λ_=>rfl) (ae o) o λd m=>?_;replace h:=cI h d m;refine bI (bC (cq ?_));exact dt (⟨⟨((w d.1:Ref),d.2),h⟩,()⟩: {r // _}×_) (fv 1) o o (dO o)
def agn{c d f}(h:Ki c d f):k4 prog 59 [u d] c f:=by
 unfold Ki at h;refine ca λn p=>?_;refine bl (hT λA=>?_);refine aT (cc nk) ?_;refine ay ?_;refine cm h λj l h=>aT (vW underlying29 yq (ae o) .none (.some (ae o)) l) ?_;refine qB amC amD ({(X:jE)with qk:=j}:jE) (o9 No .nil) ?_;refine dK 1 o (Cell.uZ ({(X:jE)with qk:=j}:jE)) (λ_=>rfl) (ae o) o λa m=>?_;replace h:=cI h a m;refine bI (bC (cq ?_));exact dt (⟨⟨((w a.1:Ref),a.2),h⟩,()⟩: {r // _}×_) (fv 1) o o (dO o)
def ago{c d}(h:OS c=w d):bn prog 23 [u c] [] (aX:=Nat) (λa=>ce a) (λa=>[a7 a d]):=by
 unfold OS at h;refine ca λj l=>?_;refine bl (hT λm=>?_);refine aT (cc (CT (.pointer cp))) ?_;refine ay λn p f h=>?_;refine cb 0 o ?_;cases h;exact ff f
def adF{a c}(h:NR a=w c):cf prog 24 [cd a] (u c):=by
 unfold NR at h;refine b5 λd f=>?_;refine ay ?_;refine ds 10 ?_;exact go
instance aak:dd prog 104 _ _ _ Gf u u u:=.j (h:=λa c d h f j=>by
 exact go)
instance:dd prog 182 _ _ _ JN u u u:=.j (h:=λd f r h W A=>by
 refine ay λj=>?_;refine aj h λa c h=>?_;refine gw c [] (cG 1 (u f) (cG 8 (u d.gu) (cG 9 (u (t d.gu:Int)) (cD.cF [10])))) (S (gx 0) h4) (S (λ_=>[]) (cD.cF [4])) (λl r h=>?_) ?_
 ·exact go
 rcases a with a|a
 ·simp only[Z]at h;exact go
 simp only[a']at h;exact go)
instance aal:dd prog 107 _ _ _ Ct u u u:=.j (h:=λa c d h f j=>by
 exact go)
instance aam:dd prog 183 _ _ _ OM u u u:=.j (h:=λa c d h f j=>by
 exact go)
instance:dd prog 84 _ _ _ vN u u u:=.j (h:=λd f r h W A=>by
 refine ay ?_;refine aj h λa c h=>?_;refine gw c [] (cG 1 (u f) (cG 7 (u d) (cG 8 (u (t d:Int)) (cD.cF [9])))) (S (gx 0) h4) (S (λ_=>[]) (cD.cF [4])) (λj r h=>?_) ?_
 ·exact go
 rcases a with a|a
 ·simp only[Z]at h;exact go
 simp only[a']at h;exact go)
instance:dd prog 151 _ _ _ J4 u u u:=.j (h:=λp B r h W A=>by
 refine ay (λC D E c h=>?_);refine aj h λl d h=>?_;refine fg [2,5] [] [(0,a7 c l)] ?_ (λhm a=>?_) λhm a=>?_
 ·exact go
 ·have h:=da a d;exact go
 have h:=db a d;refine ay ?_;refine aj h λm f h=>?_;refine fg [2,5] [] [(0,a7 c m)] ?_ (λhm a=>?_) λhm a=>?_
 ·exact go
 ·have h:=da a f;exact go
 have h:=db a f;refine ay ?_;refine aj h λn j h=>?_;refine fg [2,5] [] [(0,a7 c n)] ?_ (λhm a=>?_) λhm a=>?_
 ·exact go
 ·have h:=da a j;exact go
 have h:=db a j;exact go)
instance aan:ew prog 267 _ _ uy u u:=.j (h:=λa c h d f=>by
 exact go)
instance L4:ew prog 268 _ _ xE u u:=.j (h:=λE p h F G=>by
 refine ay λr H d=>?_;refine aj h λI j h=>?_;refine eC (aY:=bG) (aX:=bG) j [2,3] (λf c=>[(1,ce r),(4,u f.1)]) (λf c=>[(0,a7 d f.2)]) (λl=>b4 0) (λl c=>[]) (λl c=>[(0,a7 d l)]) () (λf p h c=>?_) λc=>?_
 ·refine ay (λbB K h=>?_);refine aj h λA m h=>?_;refine fg [1,2,3,4] [] [(0,a7 d A)] ?_ (λhm a=>?_) λhm a=>?_
  ·refine ay λdi L h=>?_;refine aj h λB n h=>?_;refine fg [1,2,3,4] [] [(0,a7 d B)] ?_ (λhm a=>?_) λhm a=>?_
   ·exact go
   ·have h:=da a n;refine cn (cP (bM PM.fd) ?_);refine jz 0 xu ki ?_;refine bJ ?_;refine cP (CV underlying3 underlying209) ?_;refine aT (PN (nW 1 o) (ae o)) ?_;refine cH Qq ?_;refine cP (bM PM.fd) ?_;refine aj h λM C h=>?_;refine rF 0 xu ki (ax:=by exact C) ?_;exact go
   have h:=db a n;exact go
  ·have h:=da a m;refine cn (cP (bM KT.fd) ?_);refine jz 0 nj ki ?_;refine bJ ?_;refine cP (CV underlying3 underlying209) ?_;refine aT (PN (nW 1 o) (ae o)) ?_;refine cH Qq ?_;refine cP (bM KT.fd) ?_;refine aj h λN D h=>?_;refine rF 0 nj ki (ax:=by exact D) ?_;exact go
  have h:=db a m;exact go
 exact go)
instance sE:ew prog 225 _ _ si u u:=.j (h:=λr l h A B=>by
 refine ay λm C c=>?_;refine aj h λD f h=>?_;refine eC (aY:=bG) (aX:=bG) f [2,3] (λd a=>[(1,ce m),(4,u d.1)]) (λd a=>[(0,a7 c d.2)]) (λj=>b4 0) (λj a=>[]) (λj a=>[(0,a7 c j)]) () (λd l h a=>?_) λa=>?_
 ·refine ay (λh=>?_);refine aj h λbB E h=>aj h λn F h=>aj h λdi G h=>aj h λp H h=>er [1,2,3,4,5,6] ?_;refine ar.vk 3 (az 9 [] [] _::az 10 [] [] _::az 11 [1] [] _::az 12 [] [] _::az 13 [3] [2] _::az 14 [] [] _::az 15 [5] [] _::az 16 [4,6] [] _::az 17 [7] [] _::az 18 [8] [] _::az 19 [] [] _::az 20 [10] [2] _::az 21 [] [] _::az 22 [12] [] _::az 23 [11,13] [] _::az 24 [14] [] _::az 25 [15] [] _::az 26 [0] [] _::fL [9,17] [0] [0] (λaq=>a7 c n)::az 27 [2] [] _::fL [16,18,19] [0] [0] (λaq=>a7 c p)::[]) (λI=>?_);refine c0 ?_;refine e4 ?_;exact go
 exact go)
instance:ew prog 154 _ _ Jz u u:=.j (h:=λd r h W A=>by
 refine ay λf=>?_;refine aj h λa c h=>?_;refine gw c [] (cG 6 (u d.bS) (cG 7 (u (t d.bS:Int)) (cD.cF [8]))) (S (gx 0) h4) (S (λ_=>[]) (cD.cF [2])) (λj r h=>?_) ?_
 ·exact go
 rcases a with a|a
 ·simp only[Z]at h;exact go
 simp only[a']at h;exact go)
instance:dd prog 88 _ _ _ Gp u u u:=.j (h:=λd f r h W A=>by
 refine ay ?_;refine aj h λa c h=>?_;refine gw c [] (cG 1 (u f) (cG 7 (u d) (cG 8 (u (t d:Int)) (cD.cF [9])))) (S (gx 0) h4) (S (λ_=>[]) (cD.cF [4])) (λj r h=>?_) ?_
 ·exact go
 rcases a with a|a
 ·simp only[Z]at h;exact go
 simp only[a']at h;exact go)
def aeX{n r}(h:Fx n=w r):cf prog 158 [u n] (u r):=by
 unfold Fx at h;refine b5 λai ak=>?_;refine bl (hT λal=>?_);refine aT (cc (look_nil (au:=gJ))) (eG ?_);refine b' (au:=gJ) 311 (aT (cc h7) ?_);refine ay ?_;refine aj h λam A h=>?_;refine eC (aY:=bN) (aX:=bN) A [] (λm a=>[(3,b1 (aH a.1 (t m.2) a.2)),(7,u n.bS),(8,u (t n.bS:Int)),(9,u m.1)]) (λm a=>[(0,⟨a.1,.row 311 m.2 a.2⟩)]) (λp=>b4 0) (λp a=>[(3,b1 (aH a.1 (t p) a.2))]) (λp a=>[(0,⟨a.1,.row 311 p a.2⟩)]) (cp,0) (λm r h a=>?_) λa=>?_
 ·refine go2 (λbB an ao h=>?_) (λh=>?_)
  ·refine aj h λF B h=>?_;refine hs (aY:=bN) [7,8,9] (λd=>[(3,b1 (aH d.1 (t F) d.2))]) (λd=>[(1,⟨d.1,.row 311 F d.2⟩)]) (λd=>?_) (λhm c=>?_) λhm c=>?_
   ·refine ay ?_;cases h;exact eE (d.1,d.2) 1
   ·have h:=da c B;refine ay λap aw aB aC h=>?_;refine aj h λaE K h=>eM 1 underlying241 Au C9 K λL M=>?_;refine bI (U ?_);cases h;exact cL 0 (hm (L,M))
   have h:=db c B;refine ay ?_;refine aj h λG C h=>?_;refine hs (aY:=bN) [7,8,9] (λf=>[(3,b1 (aH f.1 (t G) f.2))]) (λf=>[(1,⟨f.1,.row 311 G f.2⟩)]) (λf=>?_) (λhm c=>?_) λhm c=>?_
   ·cases h;exact cL 0 (hm (f.1,f.2))
   ·have h:=da c C;refine ay λaG aI aJ aK h=>?_;refine aj h λaL N h=>eM 1 underlying241 Au C9 N λO P=>?_;refine bI (U ?_);cases h;exact cL 0 (hm (O,P))
   have h:=db c C;refine ay ?_;refine aj h λH D h=>?_;refine hs (aY:=bN) [7,8,9] (λj=>[(3,b1 (aH j.1 (t H) j.2))]) (λj=>[(1,⟨j.1,.row 311 H j.2⟩)]) (λj=>?_) (λhm c=>?_) λhm c=>?_
   ·cases h;exact cL 0 (hm (j.1,j.2))
   ·have h:=da c D;refine ay λaM aN aO aP h=>?_;refine aj h λaR Q h=>eM 1 underlying241 Au C9 Q λR ab=>?_;refine bI (U ?_);cases h;exact cL 0 (hm (R,ab))
   have h:=db c D;refine ay ?_;refine aj h λI E h=>?_;refine hs (aY:=bN) [7,8,9] (λl=>[(3,b1 (aH l.1 (t I) l.2))]) (λl=>[(1,⟨l.1,.row 311 I l.2⟩)]) (λl=>?_) (λhm c=>?_) λhm c=>?_
   ·cases h;exact cL 0 (hm (l.1,l.2))
   ·have h:=da c E;refine ay λaS aU aV aW h=>?_;refine aj h λaZ ac h=>eM 1 underlying241 Au C9 ac λad ag=>?_;refine bI (U ?_);cases h;exact cL 0 (hm (ad,ag))
   have h:=db c E;refine b8 ?_;cases h;exact cL 0 (hm (a.1,a.2))
  cases h;exact ej (a.1,a.2) 0
 refine ay λa0 a1 h=>?_;refine aj h λa2 ah h=>eM 0 underlying241 Au C9 ah λa3 a4=>?_;refine bI (bC (cq ?_));exact dL (au:=gJ) 0 [2,63] ⟨rfl,rfl,Y⟩ o go
def afP{B D}(h:F3 B=w D):cf prog 321 [u B] (u D):=by
 unfold F3 at h;refine b5 λao ap=>?_;refine ay ?_;refine aj h λak am h=>?_;refine aa.RZ underlying59 bz my o (by kernel_rfl) (ae o) (ae o) am o λan=>?_;refine ay ?_;refine aj h λK E h=>?_;refine eC (aY:=bN) (aX:=bN) E [0] (λa c=>[(3,b1 (aH c.1 (t a.2) c.2)),(9,u B),(10,u (t B:Int)),(11,u a.1)]) (λa c=>[(0,⟨c.1,.row 3 a.2 c.2⟩)]) (λC=>b4 0) (λC c=>[(3,b1 (aH c.1 (t C) c.2))]) (λC c=>[(0,⟨c.1,.row 3 C c.2⟩)]) (an,t ak) (λa D h c=>?_) λc=>?_
 ·refine go2 (λbB au aw h=>?_) (λh=>?_)
  ·refine aj h λL F h=>?_;refine hs (aY:=bN) [0,9,10,11] (λn=>[(3,b1 (aH n.1 (t L) n.2))]) (λn=>[(1,⟨n.1,.row 3 L n.2⟩)]) (λn=>?_) (λhm j=>?_) λhm j=>?_
   ·refine ay ?_;cases h;exact eE (n.1,n.2) 1
   ·have h:=da j F;refine b8 ?_;cases h;exact cL 0 (hm (c.1,c.2))
   have h:=db j F;refine ay ?_;refine aj h λM G h=>?_;refine hs (aY:=bN) [0,9,10,11] (λp=>[(3,b1 (aH p.1 (t M) p.2))]) (λp=>[(1,⟨p.1,.row 3 M p.2⟩)]) (λp=>?_) (λhm j=>?_) λhm j=>?_
   ·cases h;exact cL 0 (hm (p.1,p.2))
   ·have h:=da j G;refine ay ?_;refine aj h λdi N h=>aT (jx (i:=1) (k:=di) (xs:=(a.2:R Int)) underlying59 bz (ae o) (ae o) o (cz N)) ?_;refine aT (mh (i:=1) (k:=di) (T Int) (r:=(al a.2 di)) bz (ae o) o (cz N).1 o o) ?_;refine cH hc ?_;refine aj h λfm O h=>aT (jx (i:=1) (k:=fm) (xs:=(a.2:R Int)) underlying59 bz (ae o) (ae o) o (cz O)) ?_;refine c6 (i:=1) (k:=fm) (T Int) (v:=(aV (1+(al a.2 di)):Int)) (r:=(eZ a.2 fm (aV (1+(al a.2 di))):R Int)) bz (ae o) (ae o) o (cz O).1 o o (cv (m:=t (eZ a.2 fm (aV (1+(al a.2 di))))) 3 o (iA o) (cv (m:=t (eZ a.2 fm (aV (1+(al a.2 di))))) 38 o (iA o) (cv (m:=t (eZ a.2 fm (aV (1+(al a.2 di))))) 40 o (iA o) (U ?_))));cases h;exact cL 0 (hm (c.1,c.2))
   have h:=db j G;refine ay ?_;refine aj h λP H h=>?_;refine hs (aY:=bN) [0,9,10,11] (λA=>[(3,b1 (aH A.1 (t P) A.2))]) (λA=>[(1,⟨A.1,.row 3 P A.2⟩)]) (λA=>?_) (λhm j=>?_) λhm j=>?_
   ·cases h;exact cL 0 (hm (A.1,A.2))
   ·have h:=da j H;refine aj h λiw Q h=>aj h λlG ab h=>aj h λnd ac h=>er [0,3,4,5,9,10,11,12,13,14,15,30,31,32,33,34,35,36,37,47,48,49,50] ?_;refine dl 2 (az 51 [] [] _::az 52 [] [] _::az 53 [] [] _::az 54 [] [] _::az 55 [3] [0] _::az 56 [2,4] [1] (b1 (.pointer (w ⟨c.1.getD 0,iw*1,cp⟩)))::az 57 [5] [1] (u (al a.2 iw))::az 58 [] [] _::az 59 [] [] _::az 60 [8] [0] _::az 61 [7,9] [1] (b1 (.pointer (w ⟨c.1.getD 0,lG*1,cp⟩)))::az 62 [10] [1] (u (al a.2 lG))::az 63 [11] [] _::az 64 [6,12] [] _::az 65 [0,1] [1] (b1 (.pointer (w ⟨c.1.getD 0,nd*1,cp⟩)))::fL [5,6,10,11,13,14] [1] [1] (λaq=>⟨c.1,.row 3 (eZ a.2 nd (max (al a.2 iw) (aV (1+(al a.2 lG)))):R Int) c.2⟩)::[]) (dC ?_ (dC ?_ (dC ?_ (dC ?_ (dC ?_ (dC ?_ hg)))))) (λaB=>?_)
    ·exact c4 (iV λaq br aD aA av=>jx (i:=1) (k:=iw) (xs:=(a.2:R Int)) underlying59 bz (ae (aA _ _ o)) (ae (aA _ _ o)) (av 1 _ o o) (cz Q))
    ·exact c4 (iV λaq br aD aA av=>mh (i:=1) (k:=iw) (T Int) (r:=(al a.2 iw)) bz (ae (aA _ _ o)) (av 1 _ o o) (cz Q).1 o o)
    ·exact c4 (iV λaq br aD aA av=>jx (i:=1) (k:=lG) (xs:=(a.2:R Int)) underlying59 bz (ae (aA _ _ o)) (ae (aA _ _ o)) (av 1 _ o o) (cz ab))
    ·exact c4 (iV λaq br aD aA av=>mh (i:=1) (k:=lG) (T Int) (r:=(al a.2 lG)) bz (ae (aA _ _ o)) (av 1 _ o o) (cz ab).1 o o)
    ·exact c4 (iV λaq br aD aA av=>jx (i:=1) (k:=nd) (xs:=(a.2:R Int)) underlying59 bz (ae (aA _ _ o)) (ae (aA _ _ o)) (av 1 _ o o) (cz ac))
    ·intro aq br aD aA av dQ;refine c6 (i:=1) (k:=nd) (T Int) (v:=(max (al a.2 iw) (aV (1+(al a.2 lG))):Int)) (r:=(eZ a.2 nd (max (al a.2 iw) (aV (1+(al a.2 lG)))):R Int)) bz (ae (aA _ _ o)) (ae (aA _ _ o)) (av 1 _ o o) (cz ac).1 o o (U ?_);exact b3 (dv []) o o
    refine c0 ?_;refine c1 (m:=t (eZ a.2 nd (max (al a.2 iw) (aV (1+(al a.2 lG)))))) 3 o (iA o) (c1 (m:=t (eZ a.2 nd (max (al a.2 iw) (aV (1+(al a.2 lG)))))) 51 o (iA o) (c1 (m:=t (eZ a.2 nd (max (al a.2 iw) (aV (1+(al a.2 lG)))))) 53 o (iA o) (c1 (m:=t (eZ a.2 nd (max (al a.2 iw) (aV (1+(al a.2 lG)))))) 58 o (iA o) (e4 ?_))));cases h;exact cL 0 (hm (c.1,c.2))
   have h:=db j H;refine aj h λd ad h=>aj h λf ag h=>aj h λl ah h=>er [0,3,4,5,9,10,11,12,13,14,15,30,31,32,33,34,35,36,37,47,48,49,50] ?_;refine dl 2 (az 16 [] [] _::az 17 [] [] _::az 18 [] [] _::az 19 [] [] _::az 20 [3] [0] _::az 21 [2,4] [1] (b1 (.pointer (w ⟨c.1.getD 0,d*1,cp⟩)))::az 22 [5] [1] (u (al a.2 d))::az 23 [] [] _::az 24 [] [] _::az 25 [8] [0] _::az 26 [7,9] [1] (b1 (.pointer (w ⟨c.1.getD 0,f*1,cp⟩)))::az 27 [10] [1] (u (al a.2 f))::az 28 [6,11] [] _::az 29 [0,1] [1] (b1 (.pointer (w ⟨c.1.getD 0,l*1,cp⟩)))::fL [5,6,10,11,12,13] [1] [1] (λaq=>⟨c.1,.row 3 (eZ a.2 l (max (al a.2 d) (al a.2 f)):R Int) c.2⟩)::[]) (dC ?_ (dC ?_ (dC ?_ (dC ?_ (dC ?_ (dC ?_ hg)))))) (λaC=>?_)
   ·exact c4 (iV λaq br aD aA av=>jx (i:=1) (k:=d) (xs:=(a.2:R Int)) underlying59 bz (ae (aA _ _ o)) (ae (aA _ _ o)) (av 1 _ o o) (cz ad))
   ·exact c4 (iV λaq br aD aA av=>mh (i:=1) (k:=d) (T Int) (r:=(al a.2 d)) bz (ae (aA _ _ o)) (av 1 _ o o) (cz ad).1 o o)
   ·exact c4 (iV λaq br aD aA av=>jx (i:=1) (k:=f) (xs:=(a.2:R Int)) underlying59 bz (ae (aA _ _ o)) (ae (aA _ _ o)) (av 1 _ o o) (cz ag))
   ·exact c4 (iV λaq br aD aA av=>mh (i:=1) (k:=f) (T Int) (r:=(al a.2 f)) bz (ae (aA _ _ o)) (av 1 _ o o) (cz ag).1 o o)
   ·exact c4 (iV λaq br aD aA av=>jx (i:=1) (k:=l) (xs:=(a.2:R Int)) underlying59 bz (ae (aA _ _ o)) (ae (aA _ _ o)) (av 1 _ o o) (cz ah))
   ·intro aq br aD aA av dQ;refine c6 (i:=1) (k:=l) (T Int) (v:=(max (al a.2 d) (al a.2 f):Int)) (r:=(eZ a.2 l (max (al a.2 d) (al a.2 f)):R Int)) bz (ae (aA _ _ o)) (ae (aA _ _ o)) (av 1 _ o o) (cz ah).1 o o (U ?_);exact b3 (dv []) o o
   refine c0 ?_;refine c1 (m:=t (eZ a.2 l (max (al a.2 d) (al a.2 f)))) 3 o (iA o) (c1 (m:=t (eZ a.2 l (max (al a.2 d) (al a.2 f)))) 16 o (iA o) (c1 (m:=t (eZ a.2 l (max (al a.2 d) (al a.2 f)))) 18 o (iA o) (c1 (m:=t (eZ a.2 l (max (al a.2 d) (al a.2 f)))) 23 o (iA o) (e4 ?_))));cases h;exact cL 0 (hm (c.1,c.2))
  cases h;exact ej (c.1,c.2) 0
 refine ay (λh=>?_);refine aj h λI ai h=>aT (jx (i:=0) (k:=I) (xs:=(K:R Int)) underlying59 bz (ae o) (ae o) o (cz ai)) ?_;refine aT (mh (i:=0) (k:=I) (T Int) (r:=(al K I)) bz (ae o) o (cz ai).1 o o) ?_;exact go
instance:ew prog 323 _ _ Cc u u:=.j (h:=λB r h W A=>by
 refine ay λC=>?_;refine aj h λl c h=>?_;refine fg [] (cD.cF [5] l) [] ?_ (λhm a=>?_) λhm a=>?_
 ·exact go
 ·have h:=da a c;exact go
 have h:=db a c;refine ay ?_;refine aj h λm d h=>?_;refine fg [] (cD.cF [5] m) [] ?_ (λhm a=>?_) λhm a=>?_
 ·exact go
 ·have h:=da a d;exact go
 have h:=db a d;refine ay ?_;refine aj h λn f h=>?_;refine fg [] (cD.cF [5] n) [] ?_ (λhm a=>?_) λhm a=>?_
 ·exact go
 ·have h:=da a f;exact go
 have h:=db a f;refine ay ?_;refine aj h λp j h=>?_;refine fg [] (cD.cF [5] p) [] ?_ (λhm a=>?_) λhm a=>?_
 ·exact go
 ·have h:=da a j;exact go
 have h:=db a j;exact go)
instance:dd prog 173 _ _ _ Ju u u u:=.j (h:=λn K r h W A=>by
 refine ay λL C=>?_;refine aT (cc (look_nil (au:=fN))) (eG ?_);refine b' (au:=fN) 141 (aT (cc h7) ?_);refine ay ?_;refine aj h λM d h=>?_;refine eC (aY:=bN) (aX:=bN) d [] (λf a=>[(3,ce C),(5,b1 (aH a.1 (t f.2) a.2)),(13,u n.dh),(14,u (t n.dh:Int)),(15,u f.1)]) (λf a=>[(0,⟨a.1,.row 141 f.2 a.2⟩)]) (λj=>b4 0) (λj a=>[(5,b1 (aH a.1 (t j) a.2))]) (λj a=>[(0,⟨a.1,.row 141 j a.2⟩)]) (cp,0) (λf r h a=>?_) λa=>?_
 ·refine AM (λbB D E h=>?_) (λbB D E h=>?_) (λh=>?_)
  ·cases h;exact eE (a.1,a.2) 1
  ·refine aj h λdi N h=>aj h λF O h=>ar.kS 1 (er [3,5,7,13,14,15,16,17,18,19,20,21,22,23] ?_);refine ar.vk 5 (az 24 [] [] _::az 25 [0] [0] _::az 26 [] [] _::az 27 [2] [0] _::az 28 [] [] _::az 29 [4] [2] _::az 30 [] [] _::az 31 [6] [0] _::az 32 [5,7] [] _::az 33 [8] [] _::az 34 [9] [] _::az 35 [1,3,10] [] _::mY 8 [] 4 12 _::fL [11,12] [4] [4] (λaq=>a7 ((aq 12 0).getD 0) F)::[]) (λP=>?_);refine c0 ?_;refine e4 ?_;refine cb 4 o (ay ?_);refine aT (nv (i:=2) underlying130 (ae o) o o) ?_;refine bJ (bC (cs ?_));refine aj h λQ d h=>?_;refine gw d [3,5,8,13,14,15] (cG 36 (b1 (aH a.1 (t f.2) a.2)) (cG 37 (u (t f.2:Int)) (cD.cF [9,38]))) (gx 2) (cD.cF [9]) (λR r h=>?_) ?_
   ·refine ay (λh=>?_);refine aj h λfm p h=>aT (jx (i:=2) underlying130 rr (ae o) (ae o) o (cz p)) ?_;refine aT (mh (i:=2) (k:=fm) (T fN) rr (ae o) o (cz p).1 o o) ?_;exact go
   refine ay ?_;refine aj h λB l h=>?_;refine hs (aY:=bN) [3,13,14,15] (λc=>[(5,b1 (aH c.1 (t B) c.2))]) (λc=>[(2,⟨c.1,.row 141 B c.2⟩)]) (λc=>?_) (λhm m=>?_) λhm m=>?_
   ·refine ay ?_;cases h;exact eE (c.1,c.2) 2
   ·have h:=da m l;refine ay ?_;refine aj h λab G h=>eM 2 underlying130 rr LF G λH I=>?_;refine bI (U ?_);cases h;exact cL 0 (hm (H,I))
   have h:=db m l;refine b8 ?_;cases h;exact cL 0 (hm (a.1,a.2))
  cases h;exact ej (a.1,a.2) 0
 refine ay ?_;exact dL (au:=fN) 0 [4,5,56] ⟨rfl,rfl,rfl,Y⟩ o go)
def Tt{a c d}(h:Bo a c=w d):iW prog 46 [u c] a (u d) a:=by
 unfold Bo at h;refine ca λf j=>?_;refine bl (aT (cc nk) ?_);refine ay (λh=>?_);refine aT (cc nk) ?_;exact go
def VE:Go.Shelf.Ren:=⟨λ|6=>214|15=>230|14=>266|28=>284|29=>285|20=>309|21=>310|22=>311|23=>312|24=>313|25=>314|26=>315|27=>316|46=>352|47=>328|48=>329|49=>353|50=>354|57=>375|n=>n,λ|22=>53|24=>70|25=>303|3=>3|39=>209|0=>0|53=>391|55=>103|4=>4|46=>385|45=>384|50=>327|5=>5|9=>9|66=>438|70=>442|76=>474|77=>248|n=>n,λ|n=>n⟩
def amE:Go.Proofs.SlLaysF0.n6 prog VE:= {
 mixed:=by kernel_rfl
 f6:=⟨f214.name,by decide,func214.trans (eO w (by kernel_rfl))⟩
 f14:=⟨f266.name,by decide,func266.trans (eO w (by kernel_rfl))⟩
 f15:=func230.trans (eO w (by kernel_rfl))
 f20:=⟨f309.name,by decide,func309.trans (eO w (by kernel_rfl))⟩
 f21:=⟨f310.name,by decide,func310.trans (eO w (by kernel_rfl))⟩
 f22:=⟨f311.name,by decide,func311.trans (eO w (by kernel_rfl))⟩
 f23:=⟨f312.name,by decide,func312.trans (eO w (by kernel_rfl))⟩
 f24:=⟨f313.name,by decide,func313.trans (eO w (by kernel_rfl))⟩
 f25:=⟨f314.name,by decide,func314.trans (eO w (by kernel_rfl))⟩
 f26:=⟨f315.name,by decide,func315.trans (eO w (by kernel_rfl))⟩
 f27:=⟨f316.name,by decide,func316.trans (eO w (by kernel_rfl))⟩
 f28:=func284.trans (eO w (by kernel_rfl))
 f29:=func285.trans (eO w (by kernel_rfl))
 f46:=⟨f352.name,by decide,func352.trans (eO w (by kernel_rfl))⟩
 f47:=func328.trans (eO w (by kernel_rfl))
 f48:=func329.trans (eO w (by kernel_rfl))
 f49:=⟨f353.name,by decide,func353.trans (eO w (by kernel_rfl))⟩
 f50:=⟨f354.name,by decide,func354.trans (eO w (by kernel_rfl))⟩
 f57:=⟨f375.name,by decide,func375.trans (eO w (by kernel_rfl))⟩
 t0:=underlying0
 a0:=isAgg0
 z0:=sizeOf0
 v0:=zeroValue0
 t3:=underlying3
 a3:=isAgg3
 z3:=sizeOf3
 v3:=zeroValue3
 t4:=underlying4
 a4:=isAgg4
 z4:=sizeOf4
 v4:=zeroValue4
 t5:=underlying5
 a5:=isAgg5
 z5:=sizeOf5
 v5:=zeroValue5
 t9:=underlying9
 a9:=isAgg9
 z9:=sizeOf9
 v9:=zeroValue9
 t22:=underlying53
 a22:=isAgg53
 z22:=sizeOf53
 v22:=zeroValue53
 t25:=underlying303
 a25:=isAgg303
 z25:=sizeOf303
 v25:=zeroValue303
 t39:=underlying209
 a39:=isAgg209
 z39:=sizeOf209
 v39:=zeroValue209
 t45:=underlying384
 a45:=isAgg384
 z45:=sizeOf384
 v45:=zeroValue384
 t46:=underlying385
 a46:=isAgg385
 z46:=sizeOf385
 v46:=zeroValue385
 t50:=underlying327
 a50:=isAgg327
 z50:=sizeOf327
 v50:=zeroValue327
 t53:=underlying391
 a53:=isAgg391
 z53:=sizeOf391
 v53:=zeroValue391
 t55:=underlying103
 a55:=isAgg103
 z55:=sizeOf103
 v55:=zeroValue103
 t66:=underlying438
 a66:=isAgg438
 z66:=sizeOf438
 v66:=zeroValue438
 t70:=underlying442
 a70:=isAgg442
 z70:=sizeOf442
 v70:=zeroValue442
 t76:=underlying474
 a76:=isAgg474
 z76:=sizeOf474
 v76:=zeroValue474
 t77:=underlying248
 a77:=isAgg248
 z77:=sizeOf248
 v77:=zeroValue248}
def acd{a f j}(h:ag.wx a f j){c:aw Nat}{d:Nat}:bn prog 214 [.eq (aH c (t a) d),.HD prog f] [⟨c,.row 70 a d⟩] (aX:= {r:R aJ // t a=t r∧j r}) (λ_=>.bO []) (λl=>[⟨c,.row 70 l.1 d⟩]):=YZ (gS:=VE) amE (λ_=>by kernel_rfl) (λ_=>by kernel_rfl) o h
def acf{a c d f}(h:D5 a c d=w f):cf prog 239 [u a,u c,J.wS prog d] (u f):=by
 unfold D5 at h;refine b5 λn p=>?_;refine ay ?_;refine aj h λj l h=>?_;refine gw l [] (cG 0 (u a) (cG 1 (u c) (cG 2 (J.wS prog d) (cG 11 (u a) (cG 12 (u (t a:Int)) (cD.cF [13])))))) (S (gx 0) h4) (S (λ_=>[(0,u a),(1,u c)]) (cD.cF [6])) (λr f h=>?_) ?_
 ·refine ay (λbB A B di C D h=>?_);refine aj h λE m h=>aT (KC (ae o) (ae o) (ae o) m) ?_;exact go
 rcases j with j|j
 ·simp only[Z]at h;exact go
 simp only[a']at h;exact go
def acg{a c d f}(h:D6 a c d=w f):cf prog 241 [u a,u c,J.wS prog d] (u f):=by
 unfold D6 at h;refine b5 λn p=>?_;refine ay ?_;refine aj h λj l h=>?_;refine gw l [] (cG 0 (u a) (cG 1 (u c) (cG 2 (J.wS prog d) (cG 11 (u a) (cG 12 (u (t a:Int)) (cD.cF [13])))))) (S (gx 0) h4) (S (λ_=>[(0,u a),(1,u c)]) (cD.cF [6])) (λr f h=>?_) ?_
 ·refine ay (λbB A B di C D h=>?_);refine aj h λE m h=>aT (KC (ae o) (ae o) (ae o) m) ?_;exact go
 rcases j with j|j
 ·simp only[Z]at h;exact go
 simp only[a']at h;exact go
instance:ew prog 288 _ _ FK u u:=.j (h:=λa r h W A=>by
 exact go)
def aeu{a c d}(h:Fl a c=w d):iW prog 48 [u c] a (u d) a:=by
 unfold Fl at h;refine ca λf j=>?_;exact go
instance aao:dd prog 106 _ _ _ FE u u u:=.j (h:=λl m n h r A=>by
 refine ay λB p=>?_;refine aj h λd f h=>?_;refine eC (aY:=bG) (aX:=bG) f [4] (λj c=>[(1,u m),(8,u l.cM),(9,u (t l.cM:Int)),(10,u j)]) (λj c=>[]) (λa=>S (λa=>b4 0) (λa=>Exit.ret) a) (λa c=>[]) (λa c=>S (λa=>[]) (λa=>[(0,a7 p a)]) a) () (λj n h c=>?_) λc=>?_
 ·exact go
 rcases d with d|d
 ·simp only[Z]at h;exact go
 simp only[a']at h;exact go)
def Np{a f c d j}(h:Er a=w j):bn prog 27 [ce f] [⟨w f,.bF ({a with gT:=[]}:gG) [(3,aH c (t a.gT) d)]⟩,⟨c,.row 180 a.gT d⟩] (aX:=bG) (λl=>u j) (λl=>[⟨w f,.bF ({a with gT:=[]}:gG) [(3,aH c (t a.gT) d)]⟩,⟨c,.row 180 a.gT d⟩]):=by
 unfold Er at h;refine ca λm n=>?_;refine ay ?_;refine aT (Li underlying36 (ae o)) (bC ?_);refine ar.Da (ae o) o (ay ?_);refine aT (fG (i:=0) (q:=0) wy (ae o) o o) ?_;refine aT (nv (i:=1) underlying125 (ae o) o o) ?_;refine bI (bC (cq ?_));refine cb 1 o (cb 1 o ?_);cases h;exact ff ()
def aev{a c d}(h:Ji a c=w d):cf prog 109 [u a,cd c] (u d):=by
 unfold Ji at h;refine b5 λf j=>?_;exact go
def acq{a c d}(h:Ee a c=w d):cf prog 108 [u a,c3 prog c] (u d):=by
 unfold Ee at h;refine b5 λm n=>?_;refine ay ?_;refine aj h λf j h=>?_;refine gw j [] (cG 0 (u a) (cG 1 (c3 prog c) (cG 7 (u (t a:Int)) (cD.cF [8])))) (S (gx 0) h4) (S (λ_=>[]) (cD.cF [4])) (λp d h=>?_) ?_
 ·refine ay (λbB r h=>?_);refine aj h λA l h=>aT (Ac (ae o) (ae o) l) ?_;exact go
 rcases f with f|f
 ·simp only[Z]at h;exact go
 simp only[a']at h;exact go
def ad4{a c d}(h:Ja a c=w d):cf prog 185 [u a,cd c] (u d):=by
 unfold Ja at h;refine b5 λf j=>?_;exact go
def aco{a c d}(h:Eb a c=w d):cf prog 184 [u a,c3 prog c] (u d):=by
 unfold Eb at h;refine b5 λm n=>?_;refine ay ?_;refine aj h λf j h=>?_;refine gw j [] (cG 0 (u a) (cG 1 (c3 prog c) (cG 7 (u (t a:Int)) (cD.cF [8])))) (S (gx 0) h4) (S (λ_=>[]) (cD.cF [4])) (λp d h=>?_) ?_
 ·refine ay (λbB r h=>?_);refine aj h λA l h=>aT (Ac (ae o) (ae o) l) ?_;exact go
 rcases f with f|f
 ·simp only[Z]at h;exact go
 simp only[a']at h;exact go
instance:dd prog 121 _ _ _ JA u u u:=.j (h:=λa c r h W A=>by
 exact go)
def aew{a c d}(h:uq a c=w d):cf prog 190 [cd a,cd c] (u d):=by
 unfold uq at h;refine b5 λj l=>?_;refine ay ?_;refine aj h λm f h=>aT (Xs (ae o) f) ?_;exact go
instance:dd prog 242 _ _ _ ON u u u:=.j (h:=λp B r h W A=>by
 refine ay λC D E F c h=>?_;refine aj h λl d h=>?_;refine fg [4,5] [] [(0,a7 c l)] ?_ (λhm a=>?_) λhm a=>?_
 ·exact go
 ·have h:=da a d;exact go
 have h:=db a d;refine ay ?_;refine aj h λm f h=>?_;refine fg [4,5] [] [(0,a7 c m)] ?_ (λhm a=>?_) λhm a=>?_
 ·exact go
 ·have h:=da a f;exact go
 have h:=db a f;refine ay ?_;refine aj h λn j h=>?_;refine fg [4,5] [] [(0,a7 c n)] ?_ (λhm a=>?_) λhm a=>?_
 ·exact go
 ·have h:=da a j;exact go
 have h:=db a j;exact go)
instance:ew prog 285 _ _ Fy u u:=.j (h:=λp r h W A=>by
 refine ay ?_;refine aj h λj c h=>?_;refine fg [] (cD.cF [0,2] j) [] ?_ (λhm a=>?_) λhm a=>?_
 ·refine ay ?_;refine aj h λl d h=>?_;refine fg [] (cD.cF [0,2] l) [] ?_ (λhm a=>?_) λhm a=>?_
  ·refine ay ?_;refine aj h λm f h=>?_;refine fg [] (cD.cF [0,2] m) [] ?_ (λhm a=>?_) λhm a=>?_
   ·refine ay ?_;refine cP (ajL underlying103 underlying5) ?_;refine aj h λB n h=>aT (ajM underlying9 (fA (y (List.toArray (c' (c' [0,1,2,2,3,3,3,3,4,4,4,4,4,4,4,4,5,5,5,5,5,5,5,5,5,5,5,5,5,5,5,5,6,6,6,6,6,6,6,6,6,6,6,6,6,6,6,6,6,6,6,6,6,6,6,6,6,6,6,6,6,6,6,6] [7,7,7,7,7,7,7,7,7,7,7,7,7,7,7,7,7,7,7,7,7,7,7,7,7,7,7,7,7,7,7,7,7,7,7,7,7,7,7,7,7,7,7,7,7,7,7,7,7,7,7,7,7,7,7,7,7,7,7,7,7,7,7,7]) (c' [8,8,8,8,8,8,8,8,8,8,8,8,8,8,8,8,8,8,8,8,8,8,8,8,8,8,8,8,8,8,8,8,8,8,8,8,8,8,8,8,8,8,8,8,8,8,8,8,8,8,8,8,8,8,8,8,8,8,8,8,8,8,8,8] [8,8,8,8,8,8,8,8,8,8,8,8,8,8,8,8,8,8,8,8,8,8,8,8,8,8,8,8,8,8,8,8,8,8,8,8,8,8,8,8,8,8,8,8,8,8,8,8,8,8,8,8,8,8,8,8,8,8,8,8,8,8,8,8]))))) (ae o) n) ?_;exact go
   ·have h:=da a f;exact go
   have h:=db a f;exact go
  ·have h:=da a d;exact go
  have h:=db a d;exact go
 ·have h:=da a c;exact go
 have h:=db a c;exact go)
instance:ew prog 289 _ _ FW u u:=.j (h:=λa r h W A=>by
 exact go)
instance:dd prog 291 _ _ _ F4 u u u:=.j (h:=λa c r h W A=>by
 exact go)
instance:dd prog 290 _ _ _ Kj u u u:=.j (h:=λa c r h W A=>by
 exact go)
instance:dd prog 243 _ _ _ Cu u u u:=.j (h:=λa c r h W A=>by
 exact go)
def Up{a c d}(h:qZ a c=w d):cf prog 178 [u a,u c] (u d):=by
 unfold qZ at h;refine b5 λf j=>?_;refine ay (λl m h=>?_);refine e1 (λax=>mR (ba o ax) (ae o) (λh=>⟨ax,h⟩)) ?_;exact go
instance:dd prog 178 _ _ _ qZ u u u:=
 ⟨⟨_,func178,rfl,by kernel_rfl⟩,λ_ _ _ h=>Up h⟩
def S9{a c d}(h:Bi a c=w d):cf prog 292 [u a,c3 prog c] (u d):=by
 unfold Bi at h;refine b5 λm n=>?_;refine ay ?_;refine aj h λf j h=>?_;refine gw j [] (cG 0 (u a) (cG 1 (c3 prog c) (cG 7 (u (t a:Int)) (cD.cF [8])))) (S (gx 0) h4) (S (λ_=>[]) (cD.cF [4])) (λp d h=>?_) ?_
 ·refine ay (λbB r h=>?_);refine aj h λA l h=>aT (Ac (ae o) (ae o) l) ?_;exact go
 rcases f with f|f
 ·simp only[Z]at h;exact go
 simp only[a']at h;exact go
def aex{a c}(h:Oa a=w c):cf prog 247 [u a] (u c):=by
 unfold Oa at h;refine b5 λd f=>?_;exact go
instance:ew prog 122 _ _ Cf u u:=.j (h:=λd r h W A=>by
 refine ay ?_;refine aj h λa c h=>?_;refine gw c [] (cG 6 (u d) (cG 7 (u (t d:Int)) (cD.cF [8]))) (S (gx 0) h4) (S (λ_=>[]) (cD.cF [2])) (λj r h=>?_) ?_
 ·refine ay (λbB l h=>?_);refine aj h λm f h=>aT (Xs (ae o) f) ?_;exact go
 rcases a with a|a
 ·simp only[Z]at h;exact go
 simp only[a']at h;exact go)
instance:dd prog 196 _ _ _ Jj u u u:=.j (h:=λd f r h W A=>by
 refine ay ?_;refine aj h λa c h=>?_;refine gw c [] (cG 0 (u d) (cG 1 (u f) (cG 7 (u (t d:Int)) (cD.cF [8])))) (S (gx 0) h4) (S (λ_=>[]) (cD.cF [4])) (λj r h=>?_) ?_
 ·exact go
 rcases a with a|a
 ·simp only[Z]at h;exact go
 simp only[a']at h;exact go)
def adG{a c d}(h:I1 a c=w d):cf prog 249 [u a,cd c] (u d):=by
 unfold I1 at h;refine b5 λf j=>?_;exact go
def ach{a c d}(h:D7 a c=w d):cf prog 248 [u a,c3 prog c] (u d):=by
 unfold D7 at h;refine b5 λm n=>?_;refine ay ?_;refine aj h λf j h=>?_;refine gw j [] (cG 0 (u a) (cG 1 (c3 prog c) (cG 7 (u (t a:Int)) (cD.cF [8])))) (S (gx 0) h4) (S (λ_=>[]) (cD.cF [4])) (λp d h=>?_) ?_
 ·refine ay (λbB r h=>?_);refine aj h λA l h=>aT (Ac (ae o) (ae o) l) ?_;exact go
 rcases f with f|f
 ·simp only[Z]at h;exact go
 simp only[a']at h;exact go
instance:ew prog 255 _ _ Jk u u:=.j (h:=λa r h W A=>by
 refine bl (aT (cc (look_nil (au:=cC))) ?_);refine ay (λh=>?_);refine aT (cc (look_nil (au:=cC))) ?_;exact go)
instance L6:ew prog 251 _ _ xH u u:=.j (h:=λa c h d f=>by
 exact go)
instance:dd prog 333 _ _ _ MZ u u u:=.j (h:=λc d r h W A=>by
 refine ay ?_;refine aj h λf a h=>e1 (λax=>pA underlying9 (ba o ax) .none (.some (ba o ax)) (dT a ax)) ?_;refine jY cN ?_;refine e1 (λax=>lq underlying9 (ba o ax) (ba o ax)) ?_;exact go)
def afh{a:(R cC)}(h:Ox=w a):cf prog 334 [] (u a):=by
 unfold Ox at h;refine b5 λc d=>?_;refine bl (aT (cc (look_nil (au:=cC))) ?_);exact go
instance aap:ew prog 296 _ _ Oz u u:=.j (h:=λa c h d f=>by
 refine ay ?_;refine aT (wa (ae o) (jJ 97 o)) ?_;refine ay ?_;refine e1 (λax=>wb (ba o ax) (jJ 122 o)) ?_;exact go)
instance:dd prog 337 _ _ _ Ux u u u:=.j (h:=λl m r h W A=>by
 refine ay ?_;refine aT (wa (ae o) (jJ 48 o)) ?_;refine ay ?_;refine e1 (λax=>wb (ba o ax) (jJ 57 o)) ?_;refine ay ?_;refine aj h λf c h=>?_;refine fg [1] (cD.cF [5] f) [] ?_ (λhm a=>?_) λhm a=>?_
 ·exact go
 ·have h:=da a c;refine cn (bJ ?_);refine aT (Ak (ae o) (jJ 48 o)) ?_;refine cP (KU underlying5 underlying103) ?_;exact go
 have h:=db a c;refine bl (bJ ?_);refine aT (wa (ae o) (jJ 97 o)) ?_;refine ay ?_;refine e1 (λax=>wb (ba o ax) (jJ 102 o)) ?_;refine ay ?_;refine aj h λj d h=>?_;refine fg [1] (cD.cF [5] j) [] ?_ (λhm a=>?_) λhm a=>?_
 ·exact go
 ·have h:=da a d;refine cn (bJ ?_);refine aT (Ak (ae o) (jJ 97 o)) ?_;refine cP (KU underlying5 underlying103) ?_;exact go
 have h:=db a d;exact go)
instance:dd prog 369 _ _ _ Ue u u (λr=>d0 [u r.1,u r.2]):=.j (h:=λa c r h W A=>by
 refine ay ?_;refine cH GI ?_;refine ay ?_;refine cH GI ?_;refine ay λd f j l m n h=>?_;refine cH GI ?_;refine ay ?_;refine cH GI ?_;refine ay λp B h=>?_;refine cH GI ?_;exact go)
instance:ew prog 339 _ _ OA u (λr=>d0 [u r.1,u r.2]):=.j (h:=λa r h W A=>by
 refine bl (hT λc=>?_);refine iL mS λd=>?_;refine bI (fl (bl ?_));refine cP (bM vX.fd) ?_;refine aT (hp wz (ae o) (cU 2) ⟨by decide,rfl⟩) ?_;refine jz 1 (((T eL).comp rV).comp (dk 3 2 (⟨by decide,rfl⟩:2<3∧(2:Int)=2).1)) ki ?_;refine aT (Xt (ae o) (nW 0 o)) (bC ?_);refine fR h (λh=>?_) λh=>?_
 ·refine bl (qB wA mS (X:aW) .nil ?_);refine oc 0 e3 ?_;refine bI (bC (cq (af.ret ?_)));cases h;exact af.RG o (rG 0 e3) (hd o)
 refine gE (bl (cP (bM vX.fd) ?_));refine aT (hp wz (ae o) (cU 1) ⟨by decide,rfl⟩) ?_;refine jz 1 (((T eL).comp rV).comp (dk 3 1 (⟨by decide,rfl⟩:1<3∧(1:Int)=1).1)) ki ?_;refine cP (bM vX.fd) ?_;refine aT (hp wz (ae o) (cU 0) ⟨by decide,rfl⟩) ?_;refine jz 1 (((T eL).comp rV).comp (dk 3 0 (⟨by decide,rfl⟩:0<3∧(0:Int)=0).1)) ki ?_;refine qB wA mS {ep:=cu a.kE 1,df:=cu a.kE 0:aW} (o9 xu (o9 nj .nil)) ?_;refine oc 0 e3 ?_;refine bI (bC (cq ?_));cases h;exact af.RG o (rG 0 e3) (hd o))
def hj{c d f a}(h:gi c d=w a):k3 prog 25 [ce f,u d] f c (u a.1) a.2:=by
 unfold gi at h;refine ca λl m=>?_;refine ay ?_;refine aj h λn j h=>aa.fs (eg.call [0] .i (aet j) ⟨ae o,Y⟩ o ⟨rfl,Y⟩ o) o o o ?_;refine ay (λh=>?_);refine aj h λbB p h=>aj h λr A h=>ds 14 ?_;exact go
instance abk:dd prog 73 _ _ _ vK u u u:=.j (h:=λf a j h l m=>by
 refine ay λn p=>?_;refine ct 0 3 o o (aT (Al (F:=(λc=>I8 c a)) (dF:=[cd a]) .i ⟨ae o,Y⟩ (λ_ _ h=>ad2 h)) ?_);refine aj h λr d h=>hU .i (acm d) ?_;exact go)
instance:dd prog 165 _ _ _ B4 u u u:=.j (h:=λf a r h W A=>by
 refine ay λj l=>?_;refine ct 0 3 o o (aT (Al (F:=(λc=>I9 c a)) (dF:=[cd a]) .i ⟨ae o,Y⟩ (λ_ _ h=>ad3 h)) ?_);refine aj h λm d h=>hU .i (acn d) ?_;exact go)
instance:dd prog 72 _ _ _ Cd u u u:=.j (h:=λf a r h W A=>by
 refine ay λj l=>?_;refine ct 0 3 o o (aT (Al (F:=(λc=>Ji c a)) (dF:=[cd a]) .i ⟨ae o,Y⟩ (λ_ _ h=>aev h)) ?_);refine aj h λm d h=>hU .i (acq d) ?_;exact go)
instance L7:dd prog 123 _ _ _ xy u u u:=.j (h:=λa c d h f j=>by
 refine ay λl m=>?_;refine aT (cc (CT .nilFunc)) (eG ?_);refine ct (au:=kr prog aI) 1 2 o o (ct (au:=Int) 0 3 o o (aT (uT (F:=uq a c) (dF:=[cd a,cd c]) .i ⟨ae o,ae o,Y⟩ (λ_ h=>aew h)) ?_));exact go)
instance aar:dd prog 192 _ _ _ JO u u u:=.j (h:=λa c d h f j=>by
 refine ay (λl h=>?_);refine aj h λm n h=>ds 5 ?_;exact go)
instance:ew prog 250 _ _ Kk u u:=.j (h:=λa r h W A=>by
 exact go)
instance:ew prog 245 _ _ zN u u:=.j (h:=λa r h W A=>by
 exact go)
def aci{a c d}(h:Ii a c=w d):cf prog 246 [u a,c3 prog c] (u d):=by
 unfold Ii at h;refine b5 λj l=>?_;refine ay ?_;refine aj h λm f h=>hU .i (S9 f) ?_;exact go
instance:dd prog 128 _ _ _ BE u u u:=.j (h:=λa c r h W A=>by
 exact go)
instance aas:dd prog 197 _ _ _ FF u u u:=.j (h:=λf a j h l m=>by
 refine ay λn p=>?_;refine ct 0 3 o o (aT (Al (F:=(λc=>I1 c a)) (dF:=[cd a]) .i ⟨ae o,Y⟩ (λ_ _ h=>adG h)) ?_);refine aj h λr d h=>hU .i (ach d) ?_;exact go)
instance aat:ew prog 200 _ _ zB u u:=.j (h:=λn p h F G=>by
 refine bl (hT λH=>?_);refine aT (cc (look_nil (au:=fY))) (eG ?_);refine b' (au:=fY) 354 (aT (cc h7) ?_);refine ay ?_;refine aj h λI d h=>?_;refine eC (aY:=bN) (aX:=bN) d [] (λf a=>[(3,b1 (aH a.1 (t f.2) a.2)),(9,u n.bS),(10,u (t n.bS:Int)),(11,u f.1)]) (λf a=>[(0,⟨a.1,.row 354 f.2 a.2⟩)]) (λl=>b4 0) (λl a=>[(3,b1 (aH a.1 (t l) a.2))]) (λl a=>[(0,⟨a.1,.row 354 l a.2⟩)]) (cp,0) (λf p h a=>?_) λa=>?_
 ·refine go2 (λbB K A r L h=>?_) (λh=>?_)
  ·refine aj h λM d h=>?_;refine eC (aY:=bN) (aX:=bN) d [9,10,11] (λj c=>[(3,b1 (aH c.1 (t j.2) c.2)),(5,ce A),(17,u r),(18,u (t r:Int)),(19,u j.1)]) (λj c=>[(1,⟨c.1,.row 354 j.2 c.2⟩)]) (λm=>b4 2) (λm c=>[(3,b1 (aH c.1 (t m) c.2))]) (λm c=>[(1,⟨c.1,.row 354 m c.2⟩)]) (a.1,a.2) (λj p h c=>?_) λc=>?_
   ·refine go2 (λdi N O P h=>?_) (λh=>?_)
    ·refine aj h λQ B h=>eM 1 underlying293 G7 QP B λC D=>?_;refine ay ?_;cases h;exact eE (C,D) 0
    cases h;exact ej (c.1,c.2) 0
   refine ay ?_;cases h;exact eE (c.1,c.2) 1
  cases h;exact ej (a.1,a.2) 0
 refine ay λR ab h=>?_;refine aj h λac E h=>eM 0 underlying293 G7 QP E λad ag=>?_;refine bI (bC (cq ?_));exact dL (au:=fY) 0 [2,35] ⟨rfl,rfl,Y⟩ o go)
instance:dd prog 293 _ _ _ NY u u u:=.j (h:=λa c r h W A=>by
 exact go)
instance:ew prog 335 _ _ UP u u:=.j (h:=λa r h W A=>by
 refine ay λc d h=>?_;refine e1 (λax=>wa (ba o ax) (jJ 48 o)) ?_;refine ay ?_;refine aa.jr (λax=>wb (ba o ax) (jJ 57 o)) o o o o o (e1 (λax=>mR (ba o ax) (ae o) (λh=>⟨ax,h⟩)) ?_);refine ay ?_;refine e1 (λax=>Lj (ba o ax) (jJ 95 o)) ?_;exact go)
instance:dd prog 368 _ _ _ SO u u (λr=>d0 [u r.1,u r.2]):=.j (h:=λc d r h W A=>by
 refine ay (λf j h=>?_);refine aj h λl a h=>aT (pA underlying9 (ae o) (.some (ae o)) .none a) ?_;exact go)
def agp{f j A m l}(h:Gg f j A m=w l):cf prog 405 [u f,u j,u A,u m] (u l):=by
 unfold Gg at h;refine b5 λM N=>?_;refine bl (hT λF=>?_);refine hT λG=>?_;refine iL Db λO=>eG ?_;refine iL Db λB=>fl (bl ?_);refine bI (bC (cs ?_));refine aj h λP a h=>?_;refine eC (aY:=bG) (aX:=bG) a [8,9] (λc d=>[(2,u c.1),(3,u m),(4,ce F),(5,ce G),(10,u c.2.1)]) (λc d=>[(0,a7 B c.2.2)]) (λn=>b4 0) (λn d=>[]) (λn d=>[(0,a7 B n)]) () (λc l h d=>?_) λd=>?_
 ·refine dN (bl (bJ ?_));refine bJ ?_;refine aj h λQ H h=>hU aan.dj (aan.m _ _ H) ?_;refine cH kj (bC ?_);refine fR h (λh=>?_) λh=>?_
  ·refine gE (dN (cs (bl (bI (fl (dN ?_))))));refine aj h λbB C h=>aj h λdi D h=>?_;refine ar.gX mixed 10 (rg 20 10) [[],[0],[1],[],[3],[4],[],[2,5,6],[7],[]] [_,_,_,_,_,_,_,_,_,_] ⟨dG,ed λav=>hp wB (ae o) (ae o) (cz C),iM 3 ((T (ck aI 128)).comp (dk 128 bB (cz C).1)) hv,dG,ed λav=>hp wB (ae o) (ae o) (cz D),iM 2 ((T (ck aI 128)).comp (dk 128 di (cz D).1)) hv,dG,ed λav=>tx underlying176 hv Mx o o (.cons (by simp) (ae o) (.cons (by simp) (ae o) (.cons (by simp) (ae o) (.nil)))),H1 (mT underlying176),dG,Y⟩ ?_;refine bC (cs (aj h λR a h=>?_));refine gw a [3,4,5,8,9,10] (cG 27 (u ([cu f bB,cu j di,c.1])) (cG 28 (u ([cu f bB,cu j di,c.1].length:Int)) (cD.cF [11,29]))) (gx 2) (cD.cF [11]) (λab l h=>?_) ?_
   ·refine bl (cH kj (fl ?_));refine fR h (λh=>?_) λh=>?_
    ·refine gE (dN (cs (bl (aj h λfm I h=>DF I underlying176 hv ?_))));refine cP (hn hv) ?_;refine bI (eG ?_);refine bJ (bC ?_);refine aj h λK p h=>?_;refine fg [3,4,5,8,9,10,27,28,29] (cD.cF [11] K) [] ?_ (λhm r=>?_) λhm r=>?_
     ·refine af.jV (ci (cn (cH hc ?_)));refine bJ (U ?_);cases h;exact eE () 0
     ·have h:=da r p;refine cn (bJ ?_);refine cH hc ?_;refine bI (U ?_);cases h;exact cL 0 (hm ())
     have h:=db r p;refine b8 ?_;cases h;exact cL 0 (hm ())
    refine ar.exit (af.exit ?_);cases h;exact ej () 0
   refine af.j3 (ci (cn (bJ ?_)));refine bJ ?_;refine aj h λac L h=>aT (Y1 (ae o) (cU 2) (VF L)) ?_;refine cH ir ?_;refine bJ ?_;refine cH oU ?_;refine aj h λiw E h=>aT (hp wB (ae o) (ae o) (cz E)) ?_;refine wT 0 ((T (ck aI 128)).comp (dk 128 iw (cz E).1)) hv ?_;refine bI (U ?_);refine af.jV (ci (cn (bJ ?_)));refine cH hc ?_;refine bI (U ?_);cases h;exact eE () 0
  refine ar.exit (af.exit ?_);cases h;exact ej () 0
 refine af.j3 (ci (bl (j6 0 ye ?_)));refine oc 1 ye (bC (cq ?_));cases h;exact af.Ds o (rG 1 ye)
instance:jg prog 322 _ _ _ _ OO u u u u:=.j (h:=λH I p r h W A=>by
 refine ay λB=>?_;refine aj h λbB K h=>aj h λL M h=>aj h λdi N h=>aj h λO P h=>ds 12 ?_;refine ay ?_;refine aj h λC c h=>?_;refine fg [2,4,7,8,24] (cD.cF [25] C) [] ?_ (λhm a=>?_) λhm a=>?_
 ·refine go2 (λh=>?_) (λh=>?_)
  ·refine aj h λd f h=>?_;refine gw f [] (cG 4 (ce B) (cG 30 (u p) (cG 31 (u (t p:Int)) (cD.cF [32])))) (S (gx 1) h4) (S (λ_=>[]) (cD.cF [6])) (λQ r h=>?_) ?_
   ·exact go
   rcases d with d|d
   ·simp only[Z]at h;exact go
   simp only[a']at h;exact go
  refine aj h λD j h=>?_;refine fg [7,8,24] (cD.cF [50] D) [] ?_ (λhm a=>?_) λhm a=>?_
  ·refine ay (λh=>?_);refine aj h λE l h=>?_;refine fg [7,8] (cD.cF [56] E) [] ?_ (λhm a=>?_) λhm a=>?_
   ·refine ci (aj h λF m h=>?_)
    refine fg [] (cD.cF [7,8] F) [] ?_ (λhm a=>?_) λhm a=>?_
    ·exact go
    ·have h:=da a m;exact go
    have h:=db a m;exact go
   ·have h:=da a l;exact go
   have h:=db a l;refine ay ?_;refine aj h λG n h=>?_;refine fg [7,8] (cD.cF [56] G) [] ?_ (λhm a=>?_) λhm a=>?_
   ·exact go
   ·have h:=da a n;exact go
   have h:=db a n;exact go
  ·have h:=da a j;exact go
  have h:=db a j;exact go
 ·have h:=da a c;exact go
 have h:=db a c;exact go)
def NS{a c d}(h:ze a c=w d):iW prog 18 [u c] a (u d) a:=by
 unfold ze at h;refine ca λl m=>?_;refine ay ?_;refine aj h λn f h=>aa.fs (eg.iC 0 o .i (Tt f) ⟨ae o,Y⟩) o o o (aj h λp j h=>aa.fs (eg.iC 0 o .i (aeu j) ⟨ae o,Y⟩) o o o ?_);exact go
def pw{c d a}(h:lj c=w a):k3 prog 39 [ce d] d c (u a.1) a.2:=by
 unfold lj at h;refine ca λj l=>?_;refine ay ?_;refine V 0 o (aj h λm f h=>cy 1 .i (hj f) λn=>?_);exact go
def adH{r a f}(h:EU r=w f):k3 prog 35 [ce a] a r (u f.1) f.2:=by
 unfold EU at h;refine ca λak am=>?_;refine bl (aT (cc (look_nil (au:=hl))) ?_);refine ay ?_;refine V 0 o (aj h λan F h=>cy 1 .i (hj F) λao=>?_);refine aj h λbB G h=>DF G underlying59 bz ?_;refine cP (hn bz) ?_;refine aT (rf (b:=({(X:hl)with cA:=1,ln:=1,xL:=4,kP:=al ([0,0,65535,3]:R Int) bB}:hl)) [3] Xu o amO Y2 (.cons Uf o (cU 1) o (by rfl) (.cons TM o (cU 1) o (by rfl) (.cons TN o (cU 4) o (by rfl) (.cons TE o (ae o) o (by rfl) (.nil)))))) ?_;refine b' (au:=kO) 161 (c7 [3] Xu Y2 o λA=>b' (au:=kO) 161 (c8 (i:=1) Y3 (ae o) (ae o) o (eG (aT (iI (b:=({(X:aW)with df:=1#64}:aW)) o wA mS (.cons nj o (nW 1 o) o (.nil))) ?_))));refine aT (iI (b:=({(X:aW)with df:=15#64}:aW)) o wA mS (.cons nj o (nW 15 o) o (.nil))) ?_;refine aj h λH I h=>jO I (iI (b:= {b2:=({(X:aW)with df:=1#64}:aW),fZ:=({(X:aW)with df:=15#64}:aW),wc:=2:kO}) o Y4 LG (.cons NZ o (ae o) o (.cons Ob o (ae o) o (.cons Oc o (cU 2) o (.nil))))) ?_;refine aT (iI (b:=({(X:aW)with df:=2#64}:aW)) o wA mS (.cons nj o (nW 2 o) o (.nil))) ?_;refine aT (iI (b:=({(X:aW)with df:=3#64}:aW)) o wA mS (.cons nj o (nW 3 o) o (.nil))) ?_;refine aj h λK L h=>jO L (iI (b:= {b2:=({(X:aW)with df:=2#64}:aW),fZ:=({(X:aW)with df:=3#64}:aW),wc:=3:kO}) o Y4 LG (.cons NZ o (ae o) o (.cons Ob o (ae o) o (.cons Oc o (cU 3) o (.nil))))) ?_;refine dR (au:=kO) underlying157 QQ LG o o (.cons (by simp) (ae o) (.cons (by simp) (ae o) (.nil))) o λB=>?_;refine cP (bM ajN.fd) ?_;refine cr (i:=2) ((T hl).comp I2) LH (ae o) (ae o) hy o o o o ?_;refine ay ?_;refine V 4 o (aj h λM N h=>cy 1 .i (pw N) λap=>bC ?_);refine aj h λj l h=>?_;refine hs (aY:=bN) [0,3,4] (λd=>[]) (λd=>[(0,a7 a j.1),(1,⟨d.1,.row 161 j.2 d.2⟩),(3,⟨w A,.bF ({({(X:hl)with cA:=1,ln:=1,xL:=4,kP:=al ([0,0,65535,3]:R Int) bB}:hl)with Ah:=[]}:hl) [(3,aH d.1 (t j.2) d.2)]⟩)]) (λd=>?_) (λhm c=>?_) λhm c=>?_
 ·refine ay ?_;refine V 0 o (aj h λaw O h=>cy 1 .i (hj O) λaB=>?_);refine ay λdi aC aE aI aJ aK aL P h=>?_;refine V 2 o (aj h λaM Q h=>cy 1 .i (hj Q) λaN=>?_);refine cH ir (bC ?_);refine aj h λC m h=>?_;refine fg [4,5,6] [] [(0,a7 a C.1),(1,a7 P C.2)] ?_ (λhm c=>?_) λhm c=>?_
  ·exact ci (bl (c5 ((T hl).comp I2) 5 3 0 o o o o o o (c9 5 o go)))
  ·have h:=da c m;refine ay ?_;refine V 0 o (aj h λaO ab h=>cy 1 .i (hj ab) λaP=>?_);exact go
  have h:=db c m;exact go
 ·have h:=da c l;refine aj h λn ac h=>aj h λaR aS h=>aj h λD ad h=>aj h λfm aU h=>aj h λaV aX h=>aj h λp ag h=>er [0,2,3,4,7,8,9,10,11,12,13,14,15,16,17,18,19,20,21,22,23] ?_;refine dl 5 (az 24 [] [] _::az 25 [0] [3] (b1 (aH B [H,K].length 2))::az 26 [] [] _::⟨w 27,[2],[0],[0],λ_=>u n.1,λaq _=>a7 a n.2⟩::az 28 [3] [] _::az 29 [4] [] _::az 30 [5] [] _::az 31 [] [] _::az 32 [] [] _::az 33 [] [] _::⟨w 34,[3,9],[0],[0],λ_=>u D.1,λaq _=>a7 a D.2⟩::az 35 [8,10] [] _::az 36 [11] [] _::az 37 [6,7,12] [] _::az 38 [13] [] _::⟨w 39,[1,14],[1],[1],λaq=>b1 (aH (aq 15 0) (t p) ((aq 15 1).getD 0)),λaq _=>⟨(aq 15 0),.row 161 p ((aq 15 1).getD 0)⟩⟩::az 40 [] [] _::fL [1,15,16] [3] [3] (λaq=>⟨w A,.bF ({({(X:hl)with cA:=1,ln:=1,xL:=4,kP:=al ([0,0,65535,3]:R Int) bB}:hl)with Ah:=[]}:hl) [(3,aH (aq 15 0) (t p) ((aq 15 1).getD 0))]⟩)::[]) (dC ?_ (dC ?_ (dC ?_ (dC ?_ (dC ?_ hg))))) (λE=>?_)
  ·exact c4 (iV λaq br aD aA av=>fG (i:=3) (q:=0) LH (ae (aA _ _ o)) (av 3 _ o o) o)
  ·intro aq br aD aA av dQ;exact V 0 (av 0 _ o o) (c2 (dJ:=[a7 a M.2]) (b9:=aD.eraseIdx 0) .i (hj ac) ⟨ae (aA _ _ o),cU 2,Y⟩ o λaZ=>U (co 0 (av 0 _ o o) (b3 (dv []) o o)))
  ·intro aq br aD aA av dQ;exact V 0 (av 0 _ o o) (c2 (dJ:=[a7 a n.2]) (b9:=aD.eraseIdx 0) .i (hj ad) ⟨ae (aA _ _ o),cU 4,Y⟩ o λa0=>U (co 0 (av 0 _ o o) (b3 (dv []) o o)))
  ·intro aq br aD aA av dQ;refine aa.app (i:=1) underlying157 QQ LG (bytes:=40) (by kernel_rfl) (ae (aA _ _ o)) (av 1 _ o o) (ae (aA _ _ o)) ag o λah ai=>?_;exact U (b3 (dv [ah,w ai]) o o)
  ·intro aq br aD aA av dQ;refine cr (i:=3) ((T hl).comp I2) LH (ae (aA _ _ o)) (ae (aA _ _ o)) hy (av 3 _ o o) o o o (U ?_);exact b3 (dv []) o o
  refine c0 ?_;refine e4 ?_;cases h;exact cL 0 (hm ((E 15 0),((E 15 1).getD 0)))
 have h:=db c l;refine b8 ?_;cases h;exact cL 0 (hm (B,2))
def adn{l d m}(h:vz l=w m):k3 prog 36 [ce d] d l (u m.1) m.2:=by
 unfold vz at h;refine ca λad ag=>?_;refine bl (aT (cc (look_nil (au:=eP))) ?_);refine ay λah=>?_;refine aj h λn ai h=>aj h λp ak h=>aj h λal am h=>aj h λan ao h=>aj h λr ap h=>aj h λaw aB h=>aj h λaC aE h=>aj h λA aI h=>aj h λaJ aK h=>aj h λaL aM h=>aj h λaN aO h=>aj h λaP aR h=>aj h λB aS h=>aj h λC O h=>aj h λaU aV h=>aj h λH P h=>aj h λaW aX h=>aj h λaZ a0 h=>aj h λD a1 h=>ar.kS 1 ?_;refine er [0,2,3,5] ?_;refine dl 3 (az 6 [] [] _::az 7 [] [] _::az 8 [1] [] _::az 9 [2] [] _::az 10 [] [] _::az 11 [4] [] _::az 12 [] [0] _::az 13 [6] [] _::az 14 [7] [] _::az 15 [5,8] [] _::az 16 [] [] _::az 17 [10] [] _::az 18 [] [0] _::az 19 [12] [] _::az 20 [] [] _::az 21 [14] [] _::az 22 [13,15] [] _::az 23 [11,16] [] _::az 24 [] [] _::az 25 [] [] _::az 26 [18,19] [] _::az 27 [] [] _::az 28 [] [0] _::az 29 [22] [] _::az 30 [] [] _::az 31 [24] [] _::az 32 [21,23,25] [] _::az 33 [20,26] [] _::az 34 [] [] _::⟨w 35,[28],[1],[1],λ_=>u C.1,λaq _=>a7 d C.2⟩::az 36 [29] [] _::az 37 [30] [] _::az 38 [] [] _::⟨w 39,[29,32],[1],[1],λ_=>u H.1,λaq _=>a7 d H.2⟩::az 40 [33] [] _::az 41 [34] [] _::az 42 [35] [] _::az 43 [36] [] _::az 44 [31,37] [] _::az 45 [38] [] _::⟨w 46,[0,3,9,17,27,39],[2],[2],λaq=>b1 (aH (aq 40 0) [n,p,r,A,B,D].length 6),λaq _=>⟨(aq 40 0),.row 167 ([n,p,r,A,B,D]:R eP) 6⟩⟩::⟨w 4,[40],[],[],λaq=>b1 (aH (aq 40 0) [n,p,r,A,B,D].length 6),λ_ _=>⟨cp,.dead⟩⟩::[]) (dC ?_ (dC ?_ (dC ?_ (dC ?_ hg)))) (λI=>?_)
 ·intro aq br aD aA av dQ;exact V 1 (av 1 _ o o) (c2 (dJ:=[a7 d l]) (b9:=aD.eraseIdx 1) .i (hj O) ⟨ae (aA _ _ o),cU 2,Y⟩ o λa2=>U (co 1 (av 1 _ o o) (b3 (dv []) o o)))
 ·intro aq br aD aA av dQ;exact V 1 (av 1 _ o o) (c2 (dJ:=[a7 d C.2]) (b9:=aD.eraseIdx 1) .i (hj P) ⟨ae (aA _ _ o),cU 256,Y⟩ o λa3=>U (co 1 (av 1 _ o o) (b3 (dv []) o o)))
 ·intro aq br aD aA av dQ;refine dR (au:=eP) underlying26 qs amP o o (.cons (by simp) (ae (aA _ _ o)) (.cons (by simp) (ae (aA _ _ o)) (.cons (by simp) (ae (aA _ _ o)) (.cons (by simp) (ae (aA _ _ o)) (.cons (by simp) (ae (aA _ _ o)) (.cons (by simp) (ae (aA _ _ o)) (.nil))))))) o λQ=>?_;exact U (af.place 2 (av 2 _ o o) (b3 (dv [Q]) o o))
 ·intro aq br aD aA av dQ;refine aT (cc (ae (aA _ _ o))) (U ?_);exact b3 (dv []) o o
 refine c0 ?_;refine e4 ?_;refine cb 2 o (ay ?_);refine V 2 o (aj h λa4 ab h=>cy 1 .i (pw ab) λa5=>bC ?_);refine aj h λK E h=>?_;refine hs (aY:=bN) [0] (λa=>[(4,b1 (aH a.1 (t K) a.2))]) (λa=>[(1,⟨a.1,.row 167 K a.2⟩)]) (λa=>?_) (λhm c=>?_) λhm c=>?_
 ·refine ay ?_;refine V 0 o (aj h λa6 ac h=>cy 1 .i (pw ac) λa8=>bC ?_);refine aj h λL F h=>?_;refine hs (aY:=bN) [] (λf=>[(4,b1 (aH f.1 (t L) f.2))]) (λf=>[(1,⟨f.1,.row 167 L f.2⟩)]) (λf=>?_) (λhm c=>?_) λhm c=>?_
  ·refine ay ?_;exact dL (au:=eP) 1 [2,4,57] ⟨rfl,rfl,rfl,Y⟩ o go
  ·have h:=da c F;refine cn (bJ ?_);refine aj h λbB M h=>aT (jx (i:=1) underlying26 qs (ae o) (cU 4) o (cz M)) ?_;refine cP (bM KV.fd) ?_;refine aj h λa9 G h=>c6 (i:=1) ((T eP).comp Ef) gR (ae o) (fA (y #[120,32,60,32,121,32,124,124,32,120,32,61,61,32,49,53])) o (cz M).1 o (dz G) (cv 4 o (iA (dz G)) (cv 54 o (iA (dz G)) (U ?_)));cases h;exact cL 0 (hm (a.1,a.2))
  have h:=db c F;refine b8 ?_;cases h;exact cL 0 (hm (a.1,a.2))
 ·have h:=da c E;refine cn (bJ ?_);refine aj h λdi N h=>aT (jx (i:=1) underlying26 qs (ae o) (cU 2) o (cz N)) ?_;refine cP (bM KV.fd) ?_;refine aj h λa_ j h=>c6 (i:=1) ((T eP).comp Ef) gR (ae o) (fA (y #[112,111,114,116,32,33,61,32,48])) o (cz N).1 o (dz j) (cv 4 o (iA (dz j)) (cv 46 o (iA (dz j)) (cv 49 o (iA (dz j)) (U ?_))));cases h;exact cL 0 (hm ((I 40 0),6))
 have h:=db c E;refine b8 ?_;cases h;exact cL 0 (hm ((I 40 0),6))
def adI{H d B}(h:zf H=w B):k3 prog 37 [ce d] d H (u B.1) B.2:=by
 unfold zf at h;refine ca λbd be=>?_;refine bl (aT (cc (look_nil (au:=dc))) ?_);refine ay λL bf h=>?_;refine V 0 o (aj h λM N h=>cy 1 .i (hj N) λbg=>?_);refine ay ?_;refine V 0 o (aj h λO P h=>cy 1 .i (hj P) λbh=>?_);refine cH hc ?_;refine aj h λQ ab h=>jO ab (iI (b:=({(X:dc)with cA:=1,bW:=y #[112,111,114,116,115],bS:=[L],cM:=([1,2,4]:R Int),kP:=aV (1+M.1),gA:=aV (2+O.1)}:dc)) o L8 tE (.cons xv o (cU 1) o (.cons Jb o (fA (y #[112,111,114,116,115])) o (.cons oC o (ae o) o (.cons zc o (ae o) o (.cons II o (ae o) o (.cons E6 o (ae o) o (.nil)))))))) ?_;refine iL tE λbi=>?_;refine oc 0 kl (eG ?_);refine aj h λbj ac h=>jO ac (iI (b:= {bW:=y #[100],im:=7,cO:=2:eu}) o LI tA (.cons Fz o (fA (y #[100])) o (.cons Fm o (cU 7) o (.cons vJ o (cU 2) o (.nil))))) ?_;refine dR (au:=eu) underlying62 pG tA o o (.cons (by simp) (ae o) (.nil)) o λad=>?_;refine ay ?_;refine V 2 o (aj h λag ah h=>cy 1 .i (hj ah) λbk=>?_);refine cH hc ?_;refine aT (rf (b:=({(X:dc)with cA:=2,bW:=y #[114,111,117,116,101,115],cM:=([1,2,3,4]:R Int),kP:=2,gA:=aV (3+ag.1)}:dc)) [] Qr o L8 tE (.cons xv o (cU 2) o (by rfl) (.cons Jb o (fA (y #[114,111,117,116,101,115])) o (by rfl) (.hole oC o (ae o) hy o o (.cons zc o (ae o) o (by rfl) (.cons II o (cU 2) o (by rfl) (.cons E6 o (ae o) o (by rfl) (.nil)))))))) ?_;refine c7 [2] Qs tE o λai=>b' (au:=eu) 173 (c8 (i:=1) kl (ae o) (ae o) o ?_);refine ay ?_;refine V 2 o (aj h λbm ak h=>cy 1 .i (pw ak) λbo=>bC ?_);refine aj h λn C h=>?_;refine hs (aY:=bN) [0,3,4] (λj=>[]) (λj=>[(2,⟨w ai,.bF n.1 [(2,aH j.1 (t n.2) j.2)]⟩),(3,⟨j.1,.row 173 n.2 j.2⟩)]) (λj=>?_) (λhm c=>?_) λhm c=>?_
 ·refine ci (bl (aj h λbp al h=>jO al (iI (b:= {bW:=y #[101],im:=6,cO:=3:eu}) o LI tA (.cons Fz o (fA (y #[101])) o (.cons Fm o (cU 6) o (.cons vJ o (cU 3) o (.nil))))) ?_))
  refine aj h λbq am h=>jO am (iI (b:= {bW:=y #[97],im:=4,cO:=3:eu}) o LI tA (.cons Fz o (fA (y #[97])) o (.cons Fm o (cU 4) o (.cons vJ o (cU 3) o (.nil))))) ?_;refine dR (au:=eu) underlying62 pG tA o o (.cons (by simp) (ae o) (.cons (by simp) (ae o) (.nil))) o λan=>?_;refine ay ?_;refine V 1 o (aj h λao ap h=>cy 1 .i (hj ap) λbs=>?_);refine cH hc ?_;refine aT (rf (b:=({(X:dc)with cA:=3,bW:=y #[97,99,108],cM:=([1,2,3,5,6]:R Int),kP:=1,gA:=aV (4+ao.1)}:dc)) [] Qr o L8 tE (.cons xv o (cU 3) o (by rfl) (.cons Jb o (fA (y #[97,99,108])) o (by rfl) (.hole oC o (ae o) hy o o (.cons zc o (ae o) o (by rfl) (.cons II o (cU 1) o (by rfl) (.cons E6 o (ae o) o (by rfl) (.nil)))))))) ?_;refine c7 [2] Qs tE o λaw=>b' (au:=eu) 173 (c8 (i:=1) kl (ae o) (ae o) o ?_);refine ay ?_;refine V 2 o (aj h λbt aB h=>cy 1 .i (pw aB) λbu=>bC ?_);refine aj h λp D h=>?_;refine hs (aY:=bN) [0,3,4,5] (λl=>[]) (λl=>[(2,⟨w aw,.bF p.1 [(2,aH l.1 (t p.2) l.2)]⟩),(3,⟨l.1,.row 173 p.2 l.2⟩)]) (λl=>?_) (λhm c=>?_) λhm c=>?_
  ·refine ci (bl (aj h λbv aC h=>jO aC (iI (b:= {bW:=y #[102],im:=8,cO:=4:eu}) o LI tA (.cons Fz o (fA (y #[102])) o (.cons Fm o (cU 8) o (.cons vJ o (cU 4) o (.nil))))) ?_))
   refine dR (au:=eu) underlying62 pG tA o o (.cons (by simp) (ae o) (.nil)) o λaE=>?_;refine ay ?_;refine V 1 o (aj h λaI aJ h=>cy 1 .i (hj aJ) λbw=>?_);refine cH hc ?_;refine aT (rf (b:=({(X:dc)with cA:=4,bW:=y #[115,112,97,110,115],cM:=([1,3,5]:R Int),kP:=3,Cg:=[({(X:aW)with df:=7#64}:aW)],gA:=aV (3+aI.1)}:dc)) [] Qr o L8 tE (.cons xv o (cU 4) o (by rfl) (.cons Jb o (fA (y #[115,112,97,110,115])) o (by rfl) (.hole oC o (ae o) hy o o (.cons zc o (ae o) o (by rfl) (.cons II o (cU 3) o (by rfl) (.cons acz o (ae o) o (by rfl) (.cons E6 o (ae o) o (by rfl) (.nil))))))))) ?_;refine c7 [2] Qs tE o λaK=>b' (au:=eu) 173 (c8 (i:=1) kl (ae o) (ae o) o ?_);refine ay ?_;refine V 2 o (aj h λbx aL h=>cy 1 .i (pw aL) λbz=>bC ?_);refine aj h λr E h=>?_;refine hs (aY:=bN) [0,3,4,5,6] (λm=>[]) (λm=>[(2,⟨w aK,.bF r.1 [(2,aH m.1 (t r.2) m.2)]⟩),(3,⟨m.1,.row 173 r.2 m.2⟩)]) (λm=>?_) (λhm c=>?_) λhm c=>?_
   ·refine ci (bl (j6 10 kl ?_))
    refine c5 ((T dc).comp oC) 8 9 0 o o o o o o (c9 8 o (j6 8 kl ?_));refine c5 ((T dc).comp oC) 5 6 0 o o o o o o (c9 5 o (j6 5 kl ?_));refine c5 ((T dc).comp oC) 2 3 0 o o o o o o (c9 2 o (j6 2 kl ?_));refine aj h λaM aN h=>aa.aav (au:=dc) (MF:=[Q,({n.1 with bS:=n.2}:dc),({p.1 with bS:=p.2}:dc),({r.1 with bS:=r.2}:dc)]) underlying27 kl tE o o (.cons (by simp) (ae o) (.cons (by simp) (ae o) (.cons (by simp) (ae o) (.cons (by simp) (ae o) (.nil))))) (dz aN) o λaO=>?_;refine ay λaP bA aR bD aS bE aU bF h=>?_;refine aT (nv (i:=0) underlying27 (ae o) o o) ?_;refine bJ (bC (cs ?_));refine aj h λbG F h=>?_;refine eC (aY:=bN) (aX:=bN) F [] (λf a=>[(0,ce d),(7,b1 (aH a.1 (t f.2.1) a.2)),(8,u ([aP,aR,aS,aU])),(80,u (t aM:Int)),(81,u f.1)]) (λf a=>[(0,⟨a.1,.row 64 f.2.1 a.2⟩),(1,a7 d f.2.2)]) (λA=>b4 0) (λA a=>[(7,b1 (aH a.1 (t A.1) a.2))]) (λA a=>[(0,⟨a.1,.row 64 A.1 a.2⟩),(1,a7 d A.2)]) (aO,4) (λf B h a=>?_) λa=>?_
    ·refine go2 (λh=>?_) (λh=>?_)
     ·refine aj h λbB aZ h=>aj h λI a0 h=>aj h λdi a1 h=>aj h λfm K h=>aj h λa2 G h=>er [0,7,8,9,80,81,82,83] ?_;refine ar.pf mixed (az 84 [] [] _::az 85 [] [] _::az 86 [] [] _::az 87 [] [] _::az 88 [2,3] [] _::az 89 [4] [] _::az 90 [] [] _::⟨w 91,[6],[1],[1],λ_=>u I.1,λaq _=>a7 d I.2⟩::az 92 [5,7] [] _::az 93 [8] [] _::az 94 [0,1] [0] _::az 95 [10] [] _::fL [9,10,11] [0] [0] (λaq=>⟨a.1,.row 64 a2 a.2⟩)::[]) ⟨gM,gM,gM,gM,eF λaA av=>jy (k:=bB) underlying175 QR (ae (aA _ _ o)) (ae (aA _ _ o)) (cz aZ),hI (hn QR),gM,?_,eF λaA av=>jy (k:=di) underlying174 gR (ae (aA _ _ o)) (ae (aA _ _ o)) (cz a1),hI (hn gR),eF λaA av=>jx (i:=0) underlying27 kl (ae (aA _ _ o)) (ae (aA _ _ o)) (av 0 _ o o) (cz K),hI (bM Qt.fd),?_,Y⟩ λbH=>?_
      ·intro aq br aD aA av;refine V 1 (av 1 _ o o) (c2 (dJ:=[a7 d f.2.2]) (b9:=aD.eraseIdx 1) .i (hj a0) ⟨ae (aA _ _ o),cU 3,Y⟩ o λbI=>U (co 1 (av 1 _ o o) ?_));exact b3 (dv []) o o
      ·intro aq br aD aA av;refine c6 (i:=0) ((T dc).comp Il) gR (ae (aA _ _ o)) (ae (aA _ _ o)) (av 0 _ o o) (cz K).1 o (dz G) (U ?_);exact b3 (dv []) o o
      refine c0 ?_;refine c1 7 o (iA (dz G)) (c1 84 o (iA (dz G)) (e4 ?_));refine ay ?_;cases h;exact eE (a.1,a.2) 0
     cases h;exact ej (a.1,a.2) 0
    refine ay ?_;exact dL (au:=dc) 0 [2,7,97] ⟨rfl,rfl,rfl,Y⟩ o go
   ·have h:=da c E;refine cn (cP (bM ts.fd) ?_);refine aT (fG (i:=2) (q:=0) sF (ae o) o o) ?_;refine ay λbK bL bO bP h=>?_;refine aj h λbQ a3 h=>eM 3 underlying62 pG tA a3 λa4 a5=>?_;refine cP (bM ts.fd) ?_;refine cr (i:=2) ((T dc).comp oC) sF (ae o) (ae o) hy o o o o (U ?_);cases h;exact cL 0 (hm (a4,a5))
   have h:=db c E;refine b8 ?_;cases h;exact cL 0 (hm (aE,1))
  ·have h:=da c D;refine cn (cP (bM ts.fd) ?_);refine aT (fG (i:=2) (q:=0) sF (ae o) o o) ?_;refine ay λbR bT h=>?_;refine aj h λbU a6 h=>eM 3 underlying62 pG tA a6 λa8 a9=>?_;refine cP (bM ts.fd) ?_;refine cr (i:=2) ((T dc).comp oC) sF (ae o) (ae o) hy o o o o (U ?_);cases h;exact cL 0 (hm (a8,a9))
  have h:=db c D;refine b8 ?_;cases h;exact cL 0 (hm (an,2))
 ·have h:=da c C;refine cn (cP (bM ts.fd) ?_);refine aT (fG (i:=2) (q:=0) sF (ae o) o o) ?_;refine ay λbV bX h=>?_;refine aj h λbY a_ h=>eM 3 underlying62 pG tA a_ λbb bc=>?_;refine cP (bM ts.fd) ?_;refine cr (i:=2) ((T dc).comp oC) sF (ae o) (ae o) hy o o o o (U ?_);cases h;exact cL 0 (hm (bb,bc))
 have h:=db c C;refine b8 ?_;cases h;exact cL 0 (hm (ad,1))
def ad5{ac F f E}(h:s9 ac F=w E):k3 prog 38 [ce f,u F] f ac (u E.1) E.2:=by
 unfold s9 at h;refine ca λbf bg=>?_;refine bl (aT (cc (look_nil (au:=dX))) (eG ?_));refine HE ([1,2,3,4,5,6]:R Int) underlying59 bz my ?_;refine aT (rf (b:=({(X:dX)with cA:=1,bW:=y #[97,108,108],cM:=([1,2,3,4,5,6]:R Int),jw:=40,GJ:=dm}:dX)) [2] CW o RH Dt (.cons Jv o (cU 1) o (by rfl) (.cons Od o (fA (y #[97,108,108])) o (by rfl) (.cons IV o (ae o) o (by rfl) (.cons E7 o (cU 40) o (by rfl) (.cons ad6 o (gU dm) o (by rfl) (.nil))))))) ?_;refine b' (au:=eR) 178 (c7 (z:=(X:dX)) [2] CW Dt o λad=>b' (au:=eR) 178 (c8 (i:=1) yq (ae o) (ae o) o ?_));refine ay ?_;refine V 3 o (aj h λaw aB h=>cy 1 .i (hj aB) λbh=>?_);refine ay ?_;refine V 0 o (aj h λaC aE h=>cy 1 .i (hj aE) λbi=>?_);refine cH hc ?_;refine aT (rf (b:=({(X:dX)with cA:=2,bW:=y #[115,111,109,101],cM:=([1,2,aV (3+aw.1)]:R Int),jw:=aV (1+aC.1)}:dX)) [2] CW o RH Dt (.cons Jv o (cU 2) o (by rfl) (.cons Od o (fA (y #[115,111,109,101])) o (by rfl) (.cons IV o (ae o) o (by rfl) (.cons E7 o (ae o) o (by rfl) (.nil)))))) ?_;refine b' (au:=eR) 178 (c7 (z:=(X:dX)) [2] CW Dt o λG=>b' (au:=eR) 178 (c8 (i:=1) yq (ae o) (ae o) o ?_));refine ay ?_;refine V 3 o (aj h λaJ aK h=>cy 1 .i (hj aK) λbj=>?_);refine ay ?_;refine V 0 o (aj h λaL aM h=>cy 1 .i (hj aM) λbk=>?_);refine aT (rf (b:=({(X:dX)with cA:=7,bW:=y #[102,101,119],cM:=[aV (1+aJ.1)],jw:=aL.1}:dX)) [2] CW o RH Dt (.cons Jv o (cU 7) o (by rfl) (.cons Od o (fA (y #[102,101,119])) o (by rfl) (.cons IV o (ae o) o (by rfl) (.cons E7 o (ae o) o (by rfl) (.nil)))))) ?_;refine b' (au:=eR) 178 (c7 (z:=(X:dX)) [2] CW Dt o λH=>b' (au:=eR) 178 (c8 (i:=1) yq (ae o) (ae o) o ?_));refine ay ?_;refine aj h λD A h=>?_;refine eC (aY:=bN×bN×bN) (aX:=bN×bN×bN) A [5,6,7] (λd a=>[(0,ce f),(30,u F),(31,u (t F:Int)),(32,u d.1)]) (λd a=>[(1,⟨w H,.bF d.2.1 [(2,aH a.1.1 (t d.2.2.1) a.1.2)]⟩),(2,⟨a.1.1,.row 178 d.2.2.1 a.1.2⟩),(3,a7 f d.2.2.2.1),(5,⟨w G,.bF d.2.2.2.2.1 [(2,aH a.2.1.1 (t d.2.2.2.2.2.1) a.2.1.2)]⟩),(6,⟨a.2.1.1,.row 178 d.2.2.2.2.2.1 a.2.1.2⟩),(8,⟨w ad,.bF d.2.2.2.2.2.2.1 [(2,aH a.2.2.1 (t d.2.2.2.2.2.2.2) a.2.2.2)]⟩),(9,⟨a.2.2.1,.row 178 d.2.2.2.2.2.2.2 a.2.2.2⟩)]) (λl=>b4 0) (λl a=>[]) (λl a=>[(1,⟨w H,.bF l.1 [(2,aH a.1.1 (t l.2.1) a.1.2)]⟩),(2,⟨a.1.1,.row 178 l.2.1 a.1.2⟩),(3,a7 f l.2.2.1),(5,⟨w G,.bF l.2.2.2.1 [(2,aH a.2.1.1 (t l.2.2.2.2.1) a.2.1.2)]⟩),(6,⟨a.2.1.1,.row 178 l.2.2.2.2.1 a.2.1.2⟩),(8,⟨w ad,.bF l.2.2.2.2.2.1 [(2,aH a.2.2.1 (t l.2.2.2.2.2.2) a.2.2.2)]⟩),(9,⟨a.2.2.1,.row 178 l.2.2.2.2.2.2 a.2.2.2⟩)]) ((cp,0),(cp,0),(cp,0)) (λd E h a=>?_) λa=>?_
 ·refine go2 (λbB bm bo h=>?_) (λh=>?_)
  ·refine aj h λag aN h=>aa.RZ underlying176 hv Mx o (by kernel_rfl) (ae o) (ae o) aN o λaO=>?_;refine ay ?_;refine aj h λaP aR h=>aa.RZ underlying176 hv Mx o (by kernel_rfl) (ae o) (ae o) aR o λaS=>?_;refine ay ?_;refine aT (nv (i:=1) underlying176 (ae o) o o) ?_;refine bJ (bC (cs ?_));refine aj h λbp A h=>?_;refine eC (aY:=bN×bN) (aX:=bN×bN) A [0,5,6,7,9,30,31,32] (λj c=>[(10,b1 (aH c.2.1 (t j.2.2.1) c.2.2)),(11,b1 (aH c.1.1 (t j.2.1) c.1.2)),(45,u (t ag:Int)),(46,u j.1)]) (λj c=>[(0,⟨c.1.1,.row 4 j.2.1 c.1.2⟩),(1,⟨c.2.1,.row 4 j.2.2.1 c.2.2⟩),(6,a7 f j.2.2.2)]) (λB=>b4 2) (λB c=>[(10,b1 (aH c.2.1 (t B.2.1) c.2.2)),(11,b1 (aH c.1.1 (t B.1) c.1.2))]) (λB c=>[(0,⟨c.1.1,.row 4 B.1 c.1.2⟩),(1,⟨c.2.1,.row 4 B.2.1 c.2.2⟩),(6,a7 f B.2.2)]) ((aS,t aP),(aO,t ag)) (λj E h c=>?_) λc=>?_
   ·refine go2 (λh=>?_) (λh=>?_)
    ·refine V 6 o (aj h λI aU h=>cy 1 .i (hj aU) λbq=>?_);refine cH oU ?_;refine aj h λdi ah h=>aT (jx (i:=2) (k:=di) (xs:=(j.2.2.1:R aI)) underlying176 hv (ae o) (ae o) o (cz ah)) ?_;refine c6 (i:=2) (k:=di) (T aI) (v:=dm) (r:=(eZ j.2.2.1 di dm:R aI)) hv (ae o) (gU dm) o (cz ah).1 o o (cv (m:=t (eZ j.2.2.1 di dm)) 10 o (iA o) (cv (m:=t (eZ j.2.2.1 di dm)) 49 o (iA o) (aj h λfm ai h=>aT (jx (i:=1) (k:=fm) (xs:=(j.2.1:R aI)) underlying176 hv (ae o) (ae o) o (cz ai)) ?_)));refine c6 (i:=1) (k:=fm) (T aI) (v:=(cl (I.1>0):aI)) (r:=(eZ j.2.1 fm (cl (I.1>0)):R aI)) hv (ae o) (ae o) o (cz ai).1 o o (cv (m:=t (eZ j.2.1 fm (cl (I.1>0)))) 11 o (iA o) (cv (m:=t (eZ j.2.1 fm (cl (I.1>0)))) 51 o (iA o) ?_));refine ay ?_;refine cb 6 o (cb 6 o (cb 6 o (cb 6 o (cb 6 o (cb 6 o ?_)))));cases h;exact eE ((c.1.1,c.1.2),(c.2.1,c.2.2)) 0
    cases h;exact ej ((c.1.1,c.1.2),(c.2.1,c.2.2)) 0
   refine ay ?_;refine aT (fG (i:=11) (q:=0) (b7:=dX) (aY:=eR) AF (ae o) o o) ?_;refine ay ?_;refine aa.hb (au:=aI) 1 [63,10] ⟨rfl,rfl,Y⟩ o (ay λbs bt h=>?_);refine aj h λaW aZ h=>eM 12 underlying66 LJ QS aZ λak al=>?_;refine cP (bM alg.fd) ?_;refine cr (i:=11) (aY:=eR) (et:=({d.2.2.2.2.2.2.1 with iH:=[]}:dX)) (pb:=[(2,aH ak (t aW) al)]) ((T dX).comp zg) AF (ae o) (ae o) hy o o o o ?_;refine ay ?_;refine V 6 o (aj h λa0 a1 h=>cy 1 .i (hj a1) λbu=>?_);refine cH oU (bC ?_);refine ar.freeze (au:=aI) 1 11 o o (aj h λK O h=>?_);refine hs (aY:=bN) [0,5,6,7,9,10,30,31,32] (λn=>[]) (λn=>[(0,a7 f K.1),(8,⟨w G,.bF K.2.1 [(2,aH n.1 (t K.2.2) n.2)]⟩),(9,⟨n.1,.row 178 K.2.2 n.2⟩)]) (λn=>?_) (λhm C=>?_) λhm C=>?_
   ·refine ci (bl (bJ ?_))
    refine V 0 o (aj h λa2 a3 h=>cy 1 .i (pw a3) λbv=>bC ?_);refine aj h λL P h=>?_;refine hs (aY:=bN) [0,5,6,7,30,31,32] (λp=>[]) (λp=>[(0,a7 f L.1),(5,⟨w H,.bF L.2.1 [(2,aH p.1 (t L.2.2) p.2)]⟩),(6,⟨p.1,.row 178 L.2.2 p.2⟩)]) (λp=>?_) (λhm C=>?_) λhm C=>?_
    ·refine ay ?_;refine cb 6 o (cb 6 o (cb 6 o (cb 6 o (cb 6 o (cb 6 o ?_)))));cases h;exact eE ((p.1,p.2),(n.1,n.2),(ak,al)) 3
    ·have h:=da C P;refine aj h λQ a4 h=>aj h λam a5 h=>aj h λbw bx h=>aj h λM a6 h=>er [0,5,6,7,9,10,30,31,32,85,86] ?_;refine dl 13 (az 87 [] [] _::az 88 [0] [5] (b1 (aH a.1.1 (t d.2.2.1) a.1.2))::az 89 [] [] _::az 90 [2] [3] _::az 91 [] [] _::⟨w 92,[4],[0],[0],λ_=>u Q.1,λaq _=>a7 f Q.2⟩::az 93 [] [] _::⟨w 94,[5,6],[0],[0],λ_=>u am.1,λaq _=>a7 f am.2⟩::az 95 [] [] _::az 96 [3,5,7,8] [] _::az 97 [9] [] _::⟨w 98,[1,10],[6],[6],λaq=>b1 (aH (aq 11 0) (t M) ((aq 11 1).getD 0)),λaq _=>⟨(aq 11 0),.row 178 M ((aq 11 1).getD 0)⟩⟩::az 99 [] [] _::fL [1,11,12] [5] [5] (λaq=>⟨w H,.bF ({d.2.1 with iH:=[]}:dX) [(2,aH (aq 11 0) (t M) ((aq 11 1).getD 0))]⟩)::[]) (dC ?_ (dC ?_ (dC ?_ (dC ?_ (dC ?_ hg))))) (λan=>?_)
     ·exact c4 (iV λaq br aD aA av=>fG (i:=5) (q:=0) (b7:=dX) (aY:=eR) AF (ae (aA _ _ o)) (av 5 _ o o) o)
     ·intro aq br aD aA av dQ;exact V 0 (av 0 _ o o) (c2 (dJ:=[a7 f a2.2]) (b9:=aD.eraseIdx 0) .i (pw a4) ⟨ae (aA _ _ o),Y⟩ o λbA=>U (co 0 (av 0 _ o o) (b3 (dv []) o o)))
     ·intro aq br aD aA av dQ;refine V 0 (av 0 _ o o) (c2 (dJ:=[a7 f Q.2]) (b9:=aD.eraseIdx 0) .i (pw a5) ⟨ae (aA _ _ o),Y⟩ o λbD=>U (co 0 (av 0 _ o o) ?_));exact b3 (dv []) o o
     ·intro aq br aD aA av dQ;refine aa.app (i:=6) underlying66 LJ QS (bytes:=40) (by kernel_rfl) (ae (aA _ _ o)) (av 6 _ o o) (ae (aA _ _ o)) a6 o λa8 a9=>?_;exact U (b3 (dv [a8,w a9]) o o)
     ·intro aq br aD aA av dQ;refine cr (i:=5) (aY:=eR) (et:=({d.2.1 with iH:=[]}:dX)) (pb:=[(2,aH (aq 11 0) (t M) ((aq 11 1).getD 0))]) ((T dX).comp zg) AF (ae (aA _ _ o)) (ae (aA _ _ o)) hy (av 5 _ o o) o o o (U ?_);exact b3 (dv []) o o
     refine c0 ?_;refine e4 ?_;cases h;exact cL 0 (hm ((an 11 0),((an 11 1).getD 0)))
    have h:=db C P;refine b8 ?_;cases h;exact cL 0 (hm (a.1.1,a.1.2))
   ·have h:=da C O;refine aj h λab a_ h=>aj h λao bb h=>aj h λbE bF h=>aj h λN bc h=>er [0,5,6,7,9,10,11,30,31,32,59,61,62,63,64,65,66,67,68,69,70] ?_;refine dl 13 (az 71 [] [] _::az 72 [0] [8] (b1 (aH a.2.1.1 (t d.2.2.2.2.2.1) a.2.1.2))::az 73 [] [] _::az 74 [2] [3] _::az 75 [] [] _::⟨w 76,[4],[0],[0],λ_=>u ab.1,λaq _=>a7 f ab.2⟩::az 77 [5] [] _::az 78 [] [] _::⟨w 79,[5,7],[0],[0],λ_=>u ao.1,λaq _=>a7 f ao.2⟩::az 80 [] [] _::az 81 [3,6,8,9] [] _::az 82 [10] [] _::⟨w 83,[1,11],[9],[9],λaq=>b1 (aH (aq 12 0) (t N) ((aq 12 1).getD 0)),λaq _=>⟨(aq 12 0),.row 178 N ((aq 12 1).getD 0)⟩⟩::az 84 [] [] _::fL [1,12,13] [8] [8] (λaq=>⟨w G,.bF ({d.2.2.2.2.1 with iH:=[]}:dX) [(2,aH (aq 12 0) (t N) ((aq 12 1).getD 0))]⟩)::[]) (dC ?_ (dC ?_ (dC ?_ (dC ?_ (dC ?_ hg))))) (λap=>?_)
    ·exact c4 (iV λaq br aD aA av=>fG (i:=8) (q:=0) (b7:=dX) (aY:=eR) AF (ae (aA _ _ o)) (av 8 _ o o) o)
    ·intro aq br aD aA av dQ;exact V 0 (av 0 _ o o) (c2 (dJ:=[a7 f a0.2]) (b9:=aD.eraseIdx 0) .i (hj a_) ⟨ae (aA _ _ o),cU 4,Y⟩ o λbG=>U (co 0 (av 0 _ o o) (b3 (dv []) o o)))
    ·intro aq br aD aA av dQ;exact V 0 (av 0 _ o o) (c2 (dJ:=[a7 f ab.2]) (b9:=aD.eraseIdx 0) .i (pw bb) ⟨ae (aA _ _ o),Y⟩ o λbH=>U (co 0 (av 0 _ o o) (b3 (dv []) o o)))
    ·intro aq br aD aA av dQ;refine aa.app (i:=9) underlying66 LJ QS (bytes:=40) (by kernel_rfl) (ae (aA _ _ o)) (av 9 _ o o) (ae (aA _ _ o)) bc o λbd be=>?_;exact U (b3 (dv [bd,w be]) o o)
    ·intro aq br aD aA av dQ;refine cr (i:=8) (aY:=eR) (et:=({d.2.2.2.2.1 with iH:=[]}:dX)) (pb:=[(2,aH (aq 12 0) (t N) ((aq 12 1).getD 0))]) ((T dX).comp zg) AF (ae (aA _ _ o)) (ae (aA _ _ o)) hy (av 8 _ o o) o o o (U ?_);exact b3 (dv []) o o
    refine c0 ?_;refine e4 ?_;cases h;exact cL 0 (hm ((ap 12 0),((ap 12 1).getD 0)))
   have h:=db C O;refine b8 ?_;cases h;exact cL 0 (hm (a.2.1.1,a.2.1.2))
  cases h;exact ej ((a.1.1,a.1.2),(a.2.1.1,a.2.1.2),(a.2.2.1,a.2.2.2)) 0
 refine af.j3 (ci (bl (c5 (b7:=dX) (aY:=eR) (et:=({D.2.2.2.2.2.1 with iH:=D.2.2.2.2.2.2}:dX)) ((T dX).comp zg) 8 9 0 o o o o o o (c9 8 o (j6 8 yq ?_)))));refine c5 (b7:=dX) (aY:=eR) (et:=({D.2.2.2.1 with iH:=D.2.2.2.2.1}:dX)) ((T dX).comp zg) 5 6 0 o o o o o o (c9 5 o (j6 5 yq ?_));exact c5 (b7:=dX) (aY:=eR) (et:=({D.1 with iH:=D.2.1}:dX)) ((T dX).comp zg) 1 2 0 o o o o o o (c9 1 o go)
def TR{F G n}(h:oB F=w n):k3 prog 11 [ce G] G F (u n.1) n.2:=by
 unfold oB at h;refine ca λaO aP=>?_;refine ay λaR=>?_;refine V 1 o (aj h λH I h=>cy 1 .i (hj I) λaS=>?_);refine ay ?_;refine V 0 o (aj h λK L h=>cy 1 .i (hj L) λaW=>?_);refine cH hc ?_;refine aT (rf (b:=({(X:aU)with kB:=aV (2+H.1),GB:=aV (12+K.1)}:aU)) [5,7] Wq o ap8 aaw (.cons Ti o (ae o) o (by rfl) (.cons ac3 o (ae o) o (by rfl) (.nil)))) ?_;refine b' (au:=iz) 96 (b' (au:=fz) 98 (c7 [5,7] Wq aaw o λm=>b' (au:=iz) 96 (b' (au:=fz) 98 (c8 (i:=2) n5 (ae o) (ae o) o ?_))));refine ay λaX aZ a0 a1 a2 a3 a4 a5 a6 a8 a9 a_ bb bc bd be h=>?_;refine aj h λbf M h=>du (i:=2) ((T aU).comp TF) aax (ae o) (ae o) o o (dz M) (by rfl) ?_;refine ay λbg bh bi bj bk bm h=>?_;refine du (i:=2) ((T aU).comp Tu) aay (ae o) (ae o) o o o (by rfl) ?_;refine ay ?_;refine V 5 o (aj h λbo N h=>cy 1 .i (adH N) λbp=>?_);refine bJ ?_;refine V 0 o (aj h λbq O h=>cy 1 .i (adn O) λbs=>?_);refine bJ ?_;refine V 0 o (aj h λbt P h=>cy 1 .i (adI P) λbu=>?_);refine cP (bM alh.fd) ?_;refine aj h λbv Q h=>du (i:=3) ((T aU).comp TG) aaz (ae o) (ae o) o o (dz Q) (by rfl) ?_;refine cP (bM Am.fd) ?_;refine du (i:=3) ((T aU).comp xe) yr (ae o) (ae o) o o o (by rfl) ?_;refine cP (bM we.fd) ?_;refine aj h λab ac h=>du (i:=3) ((T aU).comp qS) rz (ae o) (ae o) o o (dz ac) (by rfl) ?_;refine ay ?_;refine qC 3 qS rz ?_;refine V 0 o (aj h λad ag h=>cy 1 .i (ad5 ag) λbw=>?_);refine cP (bM ali.fd) ?_;refine du (i:=3) ((T aU).comp TO) L9 (ae o) (ae o) o o o (by rfl) ?_;refine eG (qB Ma Du {bZ:=1,ln:=1:iz} (o9 EV (o9 NL .nil)) ?_);refine qB Ma Du {bZ:=2,ln:=2:iz} (o9 EV (o9 NL .nil)) ?_;refine qB Ma Du ({(X:iz)with bZ:=3}:iz) (o9 EV .nil) ?_;refine qB Ma Du {bZ:=4,ln:=3:iz} (o9 EV (o9 NL .nil)) ?_;refine aj h λbx ah h=>aa.aav (au:=iz) (MF:=[{bZ:=1,ln:=1:iz},{bZ:=2,ln:=2:iz},({(X:iz)with bZ:=3}:iz),{bZ:=4,ln:=3:iz}]) underlying28 RI Du o o (.cons (by simp) (ae o) (.cons (by simp) (ae o) (.cons (by simp) (ae o) (.cons (by simp) (ae o) (.nil))))) (dz ah) o λai=>?_;refine cP (bM Qu.fd) ?_;refine cr (i:=4) ((T aU).comp IJ) Mb (ae o) (ae o) hy o o o o ?_;refine ay ?_;refine V 1 o (aj h λbz ak h=>cy 1 .i (pw ak) λbA=>bC ?_);refine aj h λl p h=>?_;refine hs (aY:=bN) [0,2,3] (λc=>[]) (λc=>[(1,⟨c.1,.row 96 l c.2⟩),(4,⟨w m,.bF ({({ab with eo:=ad.1}:aU)with xM:=[]}:aU) [(5,aH c.1 (t l) c.2),(7,aH cp (t ([]:R fz)) 0)]⟩)]) (λc=>?_) (λhm a=>?_) λhm a=>?_
 ·refine ay ?_;refine V 0 o (aj h λbD al h=>cy 1 .i (pw al) λbE=>bC ?_);refine aj h λr A h=>?_;refine hs (aY:=bN) [0,2,3] (λd=>[]) (λd=>[(4,⟨w m,.bF r.1 [(5,aH c.1 (t l) c.2),(7,aH d.1 (t r.2) d.2)]⟩),(5,⟨d.1,.row 98 r.2 d.2⟩)]) (λd=>?_) (λhm a=>?_) λhm a=>?_
  ·refine ay ?_;refine V 0 o (aj h λbF am h=>cy 1 .i (pw am) λbG=>?_);refine ay ?_;refine e1 (λax=>ho (i:=4) ((T aU).comp qS) rz (ba o ax) o o o (by rfl)) ?_;refine ay λbB bH h=>?_;refine aj h λB C h=>?_;refine hs (aY:=bN) [0,2,3] (λf=>[]) (λf=>[(4,⟨w m,.bF B.1 [(5,aH c.1 (t l) c.2),(7,aH f.1 (t B.2) f.2)]⟩),(5,⟨f.1,.row 98 B.2 f.2⟩)]) (λf=>?_) (λhm a=>?_) λhm a=>?_
   ·refine ay ?_;refine V 0 o (aj h λbI an h=>cy 1 .i (pw an) λbK=>?_);refine ay ?_;refine e1 (λax=>ho (i:=4) ((T aU).comp qS) rz (ba o ax) o o o (by rfl)) ?_;refine ay λdi bL h=>?_;refine aj h λD E h=>?_;refine hs (aY:=bN) [2,3] (λj=>[]) (λj=>[(4,⟨w m,.bF D.1 [(5,aH c.1 (t l) c.2),(7,aH j.1 (t D.2) j.2)]⟩),(5,⟨j.1,.row 98 D.2 j.2⟩)]) (λj=>?_) (λhm a=>?_) λhm a=>?_
    ·exact ci (bl (c5 ((T aU).comp IJ) 4 1 0 o o o o o o (c5 ((T aU).comp EW) 4 5 0 o o o o o o (c9 4 o go))))
    ·have h:=da a E;refine cn (cP (bM CX.fd) ?_);refine aT (fG (i:=4) (q:=1) AG (ae o) o o) ?_;refine ay λbO bP bQ bR h=>?_;refine aj h λbS ao h=>eM 5 underlying30 Mc RJ ao λap aw=>?_;refine cP (bM CX.fd) ?_;refine cr (i:=4) ((T aU).comp EW) AG (ae o) (ae o) hy o o o o (U ?_);cases h;exact cL 0 (hm (ap,aw))
    have h:=db a E;refine b8 ?_;cases h;exact cL 0 (hm (f.1,f.2))
   ·have h:=da a C;refine cn (cP (bM CX.fd) ?_);refine aT (fG (i:=4) (q:=1) AG (ae o) o o) ?_;refine ay λbT bU h=>?_;refine aj h λbV aB h=>eM 5 underlying30 Mc RJ aB λaC aE=>?_;refine cP (bM CX.fd) ?_;refine cr (i:=4) ((T aU).comp EW) AG (ae o) (ae o) hy o o o o (U ?_);cases h;exact cL 0 (hm (aC,aE))
   have h:=db a C;refine b8 ?_;cases h;exact cL 0 (hm (d.1,d.2))
  ·have h:=da a A;refine cn (cP (bM CX.fd) ?_);refine aT (fG (i:=4) (q:=1) AG (ae o) o o) ?_;refine ay λbW bX h=>?_;refine aj h λbY aI h=>eM 5 underlying30 Mc RJ aI λaJ aK=>?_;refine cP (bM CX.fd) ?_;refine cr (i:=4) ((T aU).comp EW) AG (ae o) (ae o) hy o o o o (U ?_);cases h;exact cL 0 (hm (aJ,aK))
  have h:=db a A;refine b8 ?_;cases h;exact cL 0 (hm (cp,0))
 ·have h:=da a p;refine cn (cP (bM Qu.fd) ?_);refine aT (fG (i:=4) (q:=0) Mb (ae o) o o) ?_;refine ay ?_;refine aj h λb0 aL h=>eM 1 underlying28 RI Du aL λaM aN=>?_;refine cP (bM Qu.fd) ?_;refine cr (i:=4) ((T aU).comp IJ) Mb (ae o) (ae o) hy o o o o (U ?_);cases h;exact cL 0 (hm (aM,aN))
 have h:=db a p;refine b8 ?_;cases h;exact cL 0 (hm (ai,4))
def agq{j l D E}(h:Cv j l D E):k4 prog 95 [u l,u D] j E:=by
 unfold Cv at h;refine ca λaI aK=>?_;refine bl (hT λaL=>?_);refine aT (cc nk) ?_;refine go2 (λL M h=>?_) (λL M bB aM aN F aO h=>?_)
 ·refine aT (cc nk) (bC (cq (af.ret ?_)));exact dt (⟨⟨((cp:Ref),j),h⟩,()⟩: {r // _}×_) (fv 1) o o (dO o)
 refine dE (au:=Int) (b7:=aJ) 2 o (Cell.lv ([]:R (Int×aJ))) (λ_=>rfl) o λG N=>?_;replace h:=cI h G N;refine cm h λO P h=>jO P (iI (b:=({(X:kz)with wg:=F.1,wi:=(t ((al l.bK bB).bS):Int),oG:=(⟨w G.1⟩:gb)}:kz)) o amQ amR (.cons ado o (ae o) o (.cons adp o (ae o) o (.cons Tj o (ae o) o (.nil))))) ?_;refine dK 2 o (Cell.sG O) (λ_=>rfl) (ae o) o λm Q=>?_;replace h:=cI h m Q;refine ay ?_;refine DG (aY:=bG) h 2 [9] (λc n=>[]) (λc n=>[]) (λc n=>bc c) (λc n h=>?_) (λhm a h=>?_) (λhm a h=>?_)
 ·refine ay ?_;exact dt (⟨⟨((w m.1:Ref),c),h⟩,()⟩: {r // _}×_) (fv 2) o o (dO o)
 ·refine cn (bJ ?_);refine aa.ez 2 0 o .i (agm h) o o bo o λ⟨⟨H,h⟩,aP⟩=>?_;refine aa.eh ?_;refine qB amT amU {wU:=H.1:qf} (o9 T0 .nil) ?_;refine aT (mn underlying258 o (ae o) (λ_ _ _ h=>ahv h)) ?_;refine ay ?_;refine cm h λaR ab h=>cm h λac ad h=>aa.pC 2 o ((T kz).comp IA) (v:=((jF.qx ({wU:=H.1:qf})):jF)) LK (ae o) (ae o) (An ab) o o o o (dz ad) (U ?_);exact cL 0 (hm ac () h)
 refine ay ?_;refine DG (aY:=bG) h 2 [9] (λd p=>[]) (λd p=>[]) (λd p=>bc d) (λd p h=>?_) (λhm a h=>?_) (λhm a h=>?_)
 ·exact cL 0 (hm d () h)
 ·refine ay ?_;refine cm h λdi aS h=>cm h λaU aV h=>ds 8 ?_;refine ay ?_;refine cm h λI A h=>?_;refine vc (aY:=bG) 2 [8,9] (λB=>[(10,u I)]) (λB=>[]) (λB=>bc m.2) (λB=>?_) (λhm a=>?_) (λhm a=>?_)
  ·refine ay ?_;refine dE (au:=ck aW 4) (b7:=Ref) 2 o (Cell.nz ([]:R ((ck aW 4)×Ref))) (λ_=>rfl) o λK ah=>?_;replace h:=cI h K ah;refine cm h λai aj h=>jO aj (iI (b:= {wC:=F.2,iB:=I,uG:=(⟨w K.1⟩:gb):lZ}) o amV amW (.cons Tv o (ae o) o (.cons Nq o (ae o) o (.cons Eo o (ae o) o (.nil))))) ?_;refine aT (mn underlying261 o (ae o) (λ_ _ _ h=>ahw h)) ?_;refine ay ?_;refine cm h λaX ak h=>cm h λam an h=>aa.pC 2 o ((T kz).comp IA) (v:=((jF.qy ai):jF)) LK (ae o) (ae o) (An ak) o o o o (dz an) (U ?_);exact cL 0 (hm am () h)
  ·have h:=da a A;exact go
  have h:=db a A;exact go
 refine ay ?_;refine cm h λao ap h=>cy 0 .i (aeW ap) λf=>?_;refine aa.Y5 4 2 (Cell.u6 ao f.2.1 f.2.2) o o o o jS λC aw aB=>?_;replace h:=cI (h (f.2.1,f.2.2)) C aw;refine aa.Y6 37 o aB (qB amY amZ {cw:=(w C.1:Ref):qg} (o9 T1 .nil) ?_);refine aT (mn underlying265 o (ae o) (λ_ _ _ h=>ahx h)) ?_;refine ay ?_;refine cm h λaZ aC h=>cm h λaE aH h=>aa.pC 2 o ((T kz).comp IA) (v:=((jF.qz ({cw:=(w C.1:Ref):qg})):jF)) LK (ae o) (ae o) (An aC) o o o o (dz aH) (U ?_);exact cL 0 (hm aE () h)
def ad7{f j l a c}(h:E8 f j l=w c):k3 prog 105 [ce a,u j,u l] a f (u c.1) c.2:=by
 unfold E8 at h;refine ca λad ag=>?_;refine ay λah ai ak B am h=>?_;refine V 3 o (aj h λan C h=>cy 1 .i (hj C) λao=>?_);refine ay ?_;refine V 0 o (aj h λap D h=>cy 1 .i (hj D) λau=>?_);refine ay λaw aB h=>?_;refine V 0 o (aj h λE F h=>cy 1 .i (hj F) λaC=>?_);refine AM (λm n d p r h=>?_) (λm n d p r h=>?_) (λm n d p r h=>?_)
 ·refine V 1 o (aj h λaE G h=>cy 1 .i (hj G) λaG=>?_);refine ay (λh=>?_);refine V 0 o (aj h λH I h=>cy 1 .i (hj I) λaH=>?_);refine ay ?_;refine V 0 o (aj h λaI K h=>cy 1 .i (hj K) λaJ=>?_);refine ay λbB aK h=>?_;refine aj h λL M h=>aj h λN O h=>aj h λaL P h=>ar.gX mixed 10 (rg 51 10) [[],[],[1],[],[],[3,4],[5],[2,6],[7],[0,8]] [_,_,_,_,_,_,_,_,_,_] ⟨dG,H1 (bM KT.fd),iM 1 nj ki,dG,dG,jZ aam.dj (aam.m _ _ _ M),ed λav=>CM nj Xv ki o (ae o) o o,jB Xw,vm O λaD av=>iI (b:=({(X:aW)with df:=d.df&&&L.df}:aW)) o wA mS (.cons nj o (ae o) o (.nil)),vm P λaD av=>iI (b:=({(X:cJ)with fO:=dm,eT:=al [B,8,16,1,aV (1+H.1)] bB,b2:=N}:cJ)) o am0 Dc (.cons EF o (gU dm) o (.cons IW o (ae o) o (.cons I3 o (ae o) o (.nil)))),Y⟩ ?_;exact go
 ·refine V 1 o (aj h λaM Q h=>cy 1 .i (hj Q) λaN=>?_);refine ay ?_;refine V 0 o (aj h λaO R h=>cy 1 .i (hj R) λaP=>?_);exact go
 refine aj h λA ab h=>aj h λaR aS h=>er [0,1,2,4,5,6,7,8,12,13,14,15,16,17,18,19,20,21,22,23,24,25,26,27,28,29,30,31,32,33,36,37,61,62,85,86] ?_;refine dl 5 (az 87 [] [] _::az 88 [0] [0] _::az 89 [] [] _::⟨w 90,[2],[1],[1],λ_=>u A.1,λaq _=>a7 a A.2⟩::az 91 [3] [] _::az 92 [1,4] [] _::az 93 [] [] _::az 94 [6] [] _::az 95 [7] [] _::az 96 [8] [] _::az 97 [5,9] [] _::az 11 [10] [] _::[]) (dC ?_ hg) (λaT=>?_)
 ·intro aq br aD aA av dQ;exact V 1 (av 1 _ o o) (c2 (dJ:=[a7 a E.2]) (b9:=aD.eraseIdx 1) .i (hj ab) ⟨ae (aA _ _ o),cU 256,Y⟩ o λaU=>U (co 1 (av 1 _ o o) (b3 (dv []) o o)))
 refine c0 ?_;refine e4 (ci (bl ?_));refine bJ ?_;refine V 1 o (aj h λaX ac h=>cy 1 .i (hj ac) λaY=>?_);refine ay ?_;refine e1 (λax=>mR (ba o ax) (ae o) (λh=>⟨ax,h⟩)) ?_;exact go
def aey{a c d}(h:zq a c=w d):cf prog 118 [cd a,cd c] (u d):=by
 unfold zq at h;refine b5 λf j=>?_;exact go
instance:jg prog 112 _ _ _ _ FL u u u (λr=>d0 [u r.1,u r.2]):=.j (h:=λf j a r h W A=>by
 refine ay (λl m n p B bB C h=>?_);refine ct 1 5 o o (aT (Al (F:=(λc=>Ja c a)) (dF:=[cd a]) .i ⟨ae o,Y⟩ (λ_ _ h=>ad4 h)) ?_);refine aj h λD d h=>hU .i (aco d) ?_;exact go)
def aez{a c d}(h:zt a c=w d):cf prog 124 [cd a,cd c] (u d):=by
 unfold zt at h;refine b5 λf j=>?_;exact go
instance aaA:dd prog 191 _ _ _ Ch u u (λa=>d0 [u a.1,u a.2]):=.j (h:=λc d a h f j=>by
 exact go)
def aft{a c d}(h:FX a c=w d):cf prog 194 [u a,u c] (u d):=by
 unfold FX at h;refine b5 λf j=>?_;exact go
def agr{B l C}(h:Gh B l C):k4 prog 57 [u l] B C:=by
 unfold Gh at h;refine ca λad ah=>?_;refine bl (hT λA=>?_);refine aT (cc nk) ?_;refine ay ?_;refine dE (au:=Int) (b7:=Ref) 1 o (Cell.sH ([]:R (Int×Ref))) (λ_=>rfl) o λD G=>?_;replace h:=cI h D G;refine cm h λH I h=>jO I (iI (b:= {jH:=l,uC:=(⟨w D.1⟩:gb),pD:=1:ll}) o am3 am4 (.cons Tw o (ae o) o (.cons IB o (ae o) o (.cons IX o (cU 1) o (.nil))))) ?_;refine dK 1 o (Cell.sI H) (λ_=>rfl) (ae o) o λf K=>?_;replace h:=cI h f K;refine ay λa ai h=>?_;refine wV (aY:=bG) (aX:=bG) h 1 [3] (λc d=>[(1,ce A),(14,u a.jH.bK),(15,u (t a.jH.bK:Int)),(16,u c.1)]) (λc d=>[]) (λc d=>bc c.2) (λm=>b4 0) (λm d=>[]) (λm d=>[]) (λm d=>bc m) () (λc aj h d=>?_) (λL h d=>?_)
 ·refine go2 (λbB ak n h=>?_) (λh=>?_)
  ·refine cm h λE am h=>?_;obtain⟨M,N,F⟩:=ag.ex h;refine er [1,3,5,14,15,16,17,18,19] ?_;refine ar.tL mixed [9,10] [(0,20,u (w f.1:Ref)),(1,21,ce f.1),(2,22,J.jC f.1 IB),(3,23,u E.uC),(4,24,J.jC n xv),(5,25,u ((al a.jH.bK bB).cA)),(6,26,u l),(7,27,J.jC n xv),(8,28,u ((al a.jH.bK bB).cA))] ?_;refine fe.md [] [0,1,2,3,4,5,6,7,8] [9] ⟨?_,Y⟩;refine gf.of (aP:=[]) (λx:Subtype M=>[(29,u x.1.1)]) (λx=>[]) (λx=>(a7 n (al a.jH.bK bB:dc)::a7 A l::bc x.1.2)) (λ⟨j,p⟩=>?_) (λan O cH ao aA k=>?_)
   ·have ap:=ag.arU (F j p);have h:=F j p;replace h:=ag.aqd h;refine fe.md [8,7,6] [0,1,2,3,4,5] [10] ⟨gf.tail [9,8,7,6,5,4,3,2,1,0] ?_,Y⟩;refine aa.dY ?_;refine aa.le (br:=[(1,ce A),(3,u (w f.1:Ref)),(5,ce n),(14,u a.jH.bK),(15,u (t a.jH.bK:Int)),(16,u c.1),(17,u (cl (c.1<(t a.jH.bK:Int)))),(18,cd (al a.jH.bK bB)),(19,u (al a.jH.bK bB)),(23,u E.uC),(25,u ((al a.jH.bK bB).cA)),(29,u j.1)]) .all (cm h λaw P h=>cm h λQ ab h=>cm h λaB ac h=>?_);refine aa.Dd (ng:=Cell.sH (fB Q ((al a.jH.bK bB).cA) j.1)) 2 o (by first|exact .inl o|exact .inr o) underlying183 AN (kQ (ae o) P) (ae o) (ae o) (wj ab) o o o (dz ac) ?_;refine ay ?_;exact af.uL h () 1 o .all
   cases O;refine aa.ez 2 0 o .i (agq N) o o ⟨ae (aA o),ae (aA o),Y⟩ o λ⟨⟨j,p⟩,_⟩=>?_;refine aa.eh (U ?_);exact k ⟨j,p⟩
  exact af.rj h () 0 o (by simp) o (.same o .nil)
 refine ay ?_;exact dt (⟨⟨((w f.1:Ref),L),h⟩,()⟩: {r // _}×_) (fv 1) o o (dO o)
end Go.Proofs.YtmcjlfmeoehcmaaGreat
