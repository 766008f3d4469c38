/-
  Each function meets its functional program. Conditions: none.
-/
import Derived.Test.YtmcjlfmeoehcmaaGreatMc1
import Derived.Test.YtmcjlfmeoehcmaaGreatMc2
import Derived.Test.YtmcjlfmeoehcmaaGreatMc3
import Derived.Test.YtmcjlfmeoehcmaaGreatMc0
set_option linter.defProp false
set_option linter.unusedVariables false
set_option linter.unusedSimpArgs false
set_option maxRecDepth 100000
set_option maxHeartbeats 2000000
namespace Go.Proofs.YtmcjlfmeoehcmaaGreat
open Go Gv Go.Proofs.Tryz
open J renaming of->t,bq->V,ptr->a',bO->bx,eq->cA,jC->c6
open True renaming intro->u
open List renaming length->w
open ag renaming bV->y,any_bind->cq
open aa renaming aO->S,nil->T,eh->bm,ez->bp,fs->bP,share->bW,gQ->cl,own->c4,qE->c5,store->dk,h8->ds,dY->dJ,nI->dN
open Option renaming some->U,none->b4
open Inhabited renaming default->X
open aG renaming id->Y
open af renaming aO->Z,ret->bv,fa->b1,next->b5,dY->ca,fin->cd,mo->cn,jV->co,pM->cs,km->cv,gQ->c0,mq->df,kI->dm
open ar renaming ret->be,seq->bi,ef->bS,gX->cI,block->cM,dj->c1,dW->c2,skip->c8,tL->dK
open bn renaming ak->bu
open fe renaming md->bQ,cut->c7
open Go.Exit renaming exit->bY
open Sum renaming elim->bZ,elim_inl->ce,elim_inr->ci
open Decidable renaming decide->b8
open gf renaming of->b',to->cr,tail->dE
open eg renaming iC->cb,jn->dt
open Nat renaming le_of_lt_succ->c3
open nZ renaming of->c9
open jP renaming rI->c'
open _root_.ByteArray renaming mk->dh
open en renaming obj->dl
open fb renaming q->du
attribute [local irreducible] aa ar af aZ aN dr dP dV J.of J.ptr J.eq J.cond J.bO
def acE{B:bf->aw (Int×bf)}(C:wm B){m:bf}{d:Nat}{D:aw Nat}{E:Nat}{f:Int×bf}(h:Ej B m=U f):bn prog 387 [V d] [⟨U d,.bF ({m with bL:=[]}:bf) [(3,aH D (w m.bL) E)]⟩,⟨D,.row 375 m.bL E⟩] (aX:=bN) (λl=>t f.1) (λl=>[⟨U d,.bF ({f.2 with bL:=[]}:bf) [(3,aH l.1 (w f.2.bL) l.2)]⟩,⟨l.1,.row 375 f.2.bL l.2⟩]):=by
 unfold Ej at h;refine bu λQ ab=>?_;refine ay ?_;refine S 1 o (S 1 o (aj h λF M h=>cy 2 .i (TJ C M) λG=>?_));refine ay λH ac h=>?_;refine aj h λp A h=>?_;refine eC (aY:=bN) (aX:=bN) A [] (λj a=>[(0,V d),(3,t F.1),(9,t H),(10,t (w H:Int)),(11,t j.1)]) (λj a=>[(0,⟨U d,.bF j.2.1 [(3,aH a.1 (w j.2.2) a.2)]⟩),(1,⟨a.1,.row 375 j.2.2 a.2⟩)]) (λc=>bZ (λc=>bY 0) (λc=>Exit.ret) c) (λc a=>bZ (λc=>[(3,t F.1)]) (λc=>[(2,t c.1)]) c) (λc a=>bZ (λc=>[(0,⟨U d,.bF c.1 [(3,aH a.1 (w c.2) a.2)]⟩),(1,⟨a.1,.row 375 c.2 a.2⟩)]) (λc=>[(0,⟨U d,.bF c.2.1 [(3,aH a.1 (w c.2.2) a.2)]⟩),(1,⟨a.1,.row 375 c.2.2 a.2⟩)]) c) (G.1,G.2) (λj f h a=>?_) λa=>?_
 ·refine go2 (λbB ad h=>?_) (λh=>?_)
  ·refine cl ((Y bf).comp kL) 0 0 o o o (S 1 o (S 1 o (aj h λag N h=>cy 2 .i (vx N) λI=>?_)));refine go2 (λh=>?_) (λh=>?_)
   ·refine S 1 o (S 1 o (aj h λah O h=>cy 2 .i (TJ C O) λai=>?_));refine ay λak al h=>?_;refine S 1 o (S 1 o (aj h λam P h=>cy 2 .i (rX P) λK=>?_));refine ay ?_;cases h;exact ej (K.1,K.2) 0
   cases h;exact eE (I.1,I.2) 0
  cases h;exact ej (a.1,a.2) 0
 rcases p with p|p
 ·simp only[ce]at h;refine ay ?_;refine c0 ((Y bf).comp kL) 0 0 o o o (Z 1 o (Z 1 o ?_));cases h;exact ff (a.1,a.2)
 simp only[ci]at h;refine cv (bv (c0 ((Y bf).comp kL) 0 0 o o o (Z 1 o (Z 1 o ?_))));cases h;exact ff (a.1,a.2)
def afz{a d f j c}(h:xA a d f=U c):k3 prog 96 [V j,t d,t f] j a (t c.1) c.2:=by
 unfold xA at h;refine bu λC D=>?_;refine ay λE=>?_;refine S 1 o (aj h λF l h=>cy 1 .i (T8 l) λG=>?_);refine ay ?_;refine S 1 o (aj h λH m h=>cy 1 .i (adO m) λI=>?_);refine ay (λp K h=>?_);refine aj h λA B h=>aj h λbB M h=>aj h λN O h=>er [0,1,2,4,6,7,8,9,10,11,12,13,14,15,16,17,18,19,20,21,23,24,25,26,27,28] ?_;refine c1 3 (az 29 [] [] _::az 30 [0] [] _::az 31 [1] [] _::az 32 [2] [] _::az 33 [2] [] _::az 34 [2,3,4] [1] (J.cond ((b8 (p<0))=false) (t A))::az 35 [2] [] _::az 36 [2,6] [] _::az 37 [2,7] [] _::az 38 [2,8] [] _::az 39 [2,9] [1] _::az 40 [2] [] _::az 41 [2,10,11] [] _::az 42 [2,12] [] _::az 43 [2,13] [] _::az 44 [2,5,14] [] _::az 45 [2,15] [] _::[]) (dC ?_ hg) (λP=>?_)
 ·exact du (aaL o o o o (λaq=>rfl) λaq br aD aA av ax=>aZ.Rh (z:=(a:cR)) 1 32 (aA _ _ o) (R5 ax) (av 1 _ o o) tm (fP .i (afi (dT B ax)) ⟨ae o,ba (aA _ _ o) ax,u⟩))
 refine ca ?_;refine e4 ?_;exact go
def ae4{f j l}(h:B1 f j l):k4 prog 47 [t j] f l:=by
 unfold B1 at h;refine bu λD E=>?_;refine bl (aT (cc (look_nil (au:=aJ))) (fl (bl ?_)));refine bJ ?_;refine aT (CI underlying109 (ae o)) (bC ?_);refine My h (λh=>?_) λh=>?_
 ·refine bl (aT (cc (look_nil (au:=aJ))) (bC (be (bv ?_))));exact b1 (⟨⟨(([]:R aJ),f),h⟩,()⟩: {r // _}×_) (.refl _) o o (dO o)
 refine gE (bl (c4 (au:=aJ) 70 (aT (cc h7) ?_)));refine ay λF G m H h=>?_;refine wV (aY:=bN) (aX:=bN) h 1 [] (λc a=>[(0,t j),(3,cA (aH a.1 (w c.2.1) a.2)),(12,t m.jH.bK),(13,t (w m.jH.bK:Int)),(14,t c.1)]) (λc a=>[(0,⟨a.1,.row 70 c.2.1 a.2⟩)]) (λc a=>bc c.2.2) (λd=>bY 0) (λd a=>[(3,cA (aH a.1 (w d.1) a.2))]) (λd a=>[(0,⟨a.1,.row 70 d.1 a.2⟩)]) (λd a=>bc d.2) (b4,0) (λc I h a=>?_) (λp h a=>?_)
 ·refine go2 (λbB K M h=>?_) (λh=>?_)
  ·refine bp 2 0 o .i (aee h) o o ⟨ae o,ae o,u⟩ o λ⟨⟨N,h⟩,O⟩=>?_;refine bm ?_;refine y h λP A h=>eM 1 underlying53 fK ly A λB C=>?_;refine ay ?_;exact af.uL h (B,C) 1 o .all
  exact af.rj h (a.1,a.2) 0 o (by simp) o (.same o .nil)
 refine ay ?_;exact af.hb (au:=aJ) 0 [2,3,25] ⟨rfl,rfl,rfl,u⟩ o (b1 (⟨⟨(p.1,p.2),h⟩,()⟩: {r // _}×_) (fv 1) o o (dO o))
instance:dd prog 16 _ _ _ JL t t t:=.j (h:=λd f r h W A=>by
 refine ay (λh=>?_);refine aj h λa c h=>?_;refine gw c [] (cG 0 (t d) (cG 1 (t f) (cG 12 (t (w d:Int)) (cD.cF [13])))) (bZ (gx 0) h4) (bZ (λ_=>[]) (cD.cF [4])) (λj r h=>?_) ?_
 ·refine ay (λh=>?_);refine aj h λbB l h=>aj h λdi m h=>aj h λp B h=>bS 10 ?_;exact go
 rcases a with a|a
 ·simp only[ce]at h;exact go
 simp only[ci]at h;exact go)
def acv{A:bw->aw (Int×bw)}(B:wo A){f:bw}{j:Nat}{C:aw Nat}{D:Nat}{c:Int×bw}(h:Nc A f=U c):bn prog 388 [V j] [⟨U j,.bF ({f with b3:=[]}:bw) [(2,aH C (w f.b3) D)]⟩,⟨C,.row 346 f.b3 D⟩] (aX:=bN) (λd=>t c.1) (λd=>[⟨U j,.bF ({c.2 with b3:=[]}:bw) [(2,aH d.1 (w c.2.b3) d.2)]⟩,⟨d.1,.row 346 c.2.b3 d.2⟩]):=by
 unfold Nc at h;refine bu λab ac=>?_;refine ay ?_;refine S 1 o (S 1 o (aj h λG H h=>cy 2 .i (TA B H) λad=>?_));refine ay ?_;refine aj h λag I h=>hU .i (aeY I) ?_;refine S 1 o (S 1 o (aj h λK M h=>cy 2 .i (M8 M) λE=>?_));refine ay ?_;refine aj h λl m h=>?_;refine hs (aY:=bN) [] (λa=>[(3,t l.1)]) (λa=>[(0,⟨U j,.bF l.2.1 [(2,aH a.1 (w l.2.2) a.2)]⟩),(1,⟨a.1,.row 346 l.2.2 a.2⟩)]) (λa=>?_) (λhm p=>?_) λhm p=>?_
 ·refine ay ?_;refine c0 ((Y bw).comp mG) 0 0 o o o (Z 1 o (Z 1 o ?_));cases h;exact ff (a.1,a.2)
 ·have h:=da p m;refine ay ?_;refine S 1 o (S 1 o (aj h λN O h=>cy 2 .i (TA B O) λah=>?_));refine aj h λai P h=>jO P (iI (b:=({(X:de)with cm:=K.1,fr:=G.1,gm:=N.1}:de)) o Ay wE (.cons sc o (ae o) o (.cons ur o (ae o) o (.cons vG o (ae o) o (.nil))))) ?_;refine S 1 o (S 1 o (aj h λak Q h=>cy 2 .i (ui Q) λF=>?_));refine bI (T ?_);cases h;exact cL 0 (hm (F.1,F.2))
 have h:=db p m;refine c8 ?_;cases h;exact cL 0 (hm (E.1,E.2))
def Oh{a d f c}(h:zy a d f=U c):iW prog 205 [t d,t f] a (bx [t c.1,t c.2]) a:=by
 unfold zy at h;refine bu λp A=>?_;refine ay (λB C h=>?_);refine aj h λD E h=>aj h λF G h=>aj h λj l h=>er [0,1,3,4,5,8,9] ?_;refine c1 2 (az 12 [] [] _::az 13 [0] [] _::az 14 [1] [] _::az 15 [2] [] _::az 16 [] [1] _::az 17 [3,4] [] (bx [t j.1,t j.2])::az 11 [5] [] _::az 18 [6] [] _::az 19 [6] [] _::az 6 [7] [] _::az 7 [8] [] _::[]) (dC ?_ hg) (λH=>?_)
 ·intro aq br aD aA av dQ;refine bP (eg.Hp 2 (dQ.trans o) (TV l) ⟨ae (aA _ _ o),ae (aA _ _ o),u⟩) o o o (T ?_);exact cd (dv []) o o
 refine ca ?_;refine e4 ?_;refine ay ?_;refine aj h λI m h=>bP (cb 2 o .i (aec m) ⟨ae o,ae o,ae o,u⟩) o o o ?_;exact go
def aef{j d l m}(h:N1 j d l m):nZ prog "matchguard/index.put" (t d) [t l] ([]++bc j) (aX:= {f:(aL Cell) // m f}×bG) (fun c=>bx []) (fun c=>[]++bc c.1.1):=by
 cases d with
 |nil=>exact h.elim
 | qx p=>
   obtain⟨f,D,E⟩:=h
   exact c9 (c' (by kernel_rfl) underlying258 o .i) (λA B C a=>Pd a) (bn.map (λc=>(⟨f,E⟩,c)) (λ_=>rfl) (λ_=>rfl) (aeI D))
 |qy p=>exact c9 (c' (by kernel_rfl) underlying261 o .i) (λA B C a=>Pe a) (adP h)
 |qz p=>exact c9 (c' (by kernel_rfl) underlying265 o .i) (λA B C a=>Pf a) (aeL h)
def ada{m f p A}(h:NG m f p A):nZ prog "matchguard/index.remove" (t f) [t p] ([]++bc m) (aX:= {c:(aL Cell) // A c}×bG) (fun a=>bx []) (fun a=>[]++bc a.1.1):=by
 cases f with
 |nil=>exact h.elim
 | qx B=>
   obtain⟨c,j,l⟩:=h
   exact c9 (c' (by kernel_rfl) underlying258 o .i) (λC D E d=>Pd d) (bn.map (λa=>(⟨c,l⟩,a)) (λ_=>rfl) (λ_=>rfl) (ads j))
 | qy B=>
   obtain⟨c,j,l⟩:=h
   exact c9 (c' (by kernel_rfl) underlying261 o .i) (λC D E d=>Pe d) (bn.map (λa=>(⟨c,l⟩,a)) (λ_=>rfl) (λ_=>rfl) (acV j))
 |qz B=>exact c9 (c' (by kernel_rfl) underlying265 o .i) (λC D E d=>Pf d) (adt h)
def acW{p:bf->aw (Int×bf)}(C:wm p)(m:Nat):∀(c:bf) (d:Nat) (j:aw Nat) (l:Nat) (a:Int×bf),za p m c=U a->bn prog 385 [V d] [⟨U d,.bF ({c with bL:=[]}:bf) [(3,aH j (w c.bL) l)]⟩,⟨j,.row 375 c.bL l⟩] (aX:=bN) (λf=>t a.1) (λf=>[⟨U d,.bF ({a.2 with bL:=[]}:bf) [(3,aH f.1 (w a.2.bL) f.2)]⟩,⟨f.1,.row 375 a.2.bL f.2⟩]):=by
 induction m with
 |zero=>intro c d j l a h;simp[za]at h
 | succ m D=>
   intro c d j l a h
   simp only[za]at h
   refine bu λI K=>?_
   refine ay ?_
   refine S 1 o (S 1 o (aj h λM E h=>cy 2 .i (vx E) λN=>?_))
   refine go2 (λh=>?_) (λh=>?_)
   ·refine S 1 o (S 1 o (aj h λO F h=>cy 2 .i (acE C F) λA=>?_))
    refine ay ?_
    refine Z 1 o (Z 1 o ?_)
    cases h
    exact ff (A.1,A.2)
   refine S 1 o (S 1 o (aj h λP G h=>cy 2 .i (D _ _ _ _ _ G) λQ=>?_))
   refine ay λab ac h=>?_
   refine S 1 o (S 1 o (aj h λad H h=>cy 2 .i (rX H) λB=>?_))
   refine bI (bC (be ?_))
   refine Z 1 o (Z 1 o ?_)
   cases h
   exact ff (B.1,B.2)
def TK{m:bf->aw (Int×bf)}(p:wm m){c:bf}{f:Nat}{j:aw Nat}{l:Nat}{a:Int×bf}(h:IN m c=U a):bn prog 385 [V f] [⟨U f,.bF ({c with bL:=[]}:bf) [(3,aH j (w c.bL) l)]⟩,⟨j,.row 375 c.bL l⟩] (aX:=bN) (λd=>t a.1) (λd=>[⟨U f,.bF ({a.2 with bL:=[]}:bf) [(3,aH d.1 (w a.2.bL) d.2)]⟩,⟨d.1,.row 375 a.2.bL d.2⟩]):=acW p bX c f j l a h
def N2{a c d}(h:tc a c d):k4 prog 17 [t c] a d:=by
 unfold tc at h;refine bu λl m=>?_;refine bl (aT (cc (look_nil (au:=aJ))) ?_);refine ay ?_;refine y h λp j h=>bP (cb 0 o .i (Tt j) ⟨ae o,u⟩) o o o ?_;refine bp 0 0 o .i (ae4 h) o o ⟨ae o,u⟩ o λ⟨⟨f,h⟩,A⟩=>?_;refine bm ?_;refine bI (bC (be ?_));exact b1 (⟨⟨(f.1,f.2),h⟩,()⟩: {r // _}×_) (.refl _) o o (dO o)
def acO{p:bw->aw (Int×bw)}(C:wo p)(m:Nat):∀(c:bw) (d:Nat) (j:aw Nat) (l:Nat) (a:Int×bw),Ev p m c=U a->bn prog 386 [V d] [⟨U d,.bF ({c with b3:=[]}:bw) [(2,aH j (w c.b3) l)]⟩,⟨j,.row 346 c.b3 l⟩] (aX:=bN) (λf=>t a.1) (λf=>[⟨U d,.bF ({a.2 with b3:=[]}:bw) [(2,aH f.1 (w a.2.b3) f.2)]⟩,⟨f.1,.row 346 a.2.b3 f.2⟩]):=by
 induction m with
 |zero=>intro c d j l a h;simp[Ev]at h
 | succ m D=>
   intro c d j l a h
   simp only[Ev]at h
   refine bu λM N=>?_
   refine ay ?_
   refine S 1 o (S 1 o (aj h λO E h=>cy 2 .i (vv E) λP=>?_))
   refine go2 (λh=>?_) (λh=>?_)
   ·refine S 1 o (S 1 o (aj h λF G h=>cy 2 .i (D _ _ _ _ _ G) λQ=>?_))
    refine aj h λab H h=>jO H (iI (b:=({(X:de)with cm:=5,fr:=F.1}:de)) o Ay wE (.cons sc o (cU 5) o (.cons ur o (ae o) o (.nil)))) ?_
    refine S 1 o (S 1 o (aj h λac I h=>cy 2 .i (ui I) λA=>?_))
    refine ay ?_
    refine Z 1 o (Z 1 o ?_)
    cases h
    exact ff (A.1,A.2)
   refine S 1 o (S 1 o (aj h λad K h=>cy 2 .i (acv C K) λB=>?_))
   refine bI (bC (be ?_))
   refine Z 1 o (Z 1 o ?_)
   cases h
   exact ff (B.1,B.2)
def TB{m:bw->aw (Int×bw)}(p:wo m){c:bw}{f:Nat}{j:aw Nat}{l:Nat}{a:Int×bw}(h:Ny m c=U a):bn prog 386 [V f] [⟨U f,.bF ({c with b3:=[]}:bw) [(2,aH j (w c.b3) l)]⟩,⟨j,.row 346 c.b3 l⟩] (aX:=bN) (λd=>t a.1) (λd=>[⟨U f,.bF ({a.2 with b3:=[]}:bw) [(2,aH d.1 (w a.2.b3) d.2)]⟩,⟨d.1,.row 346 a.2.b3 d.2⟩]):=acO p bX c f j l a h
def Oo{a f d j}(h:zD a f d j):k4 prog 208 [t f,t d] a j:=by
 unfold zD at h;refine bu λK M=>?_;refine go2 (λm h=>?_) (λm h=>?_)
 ·exact b1 (⟨⟨(false,a),h⟩,()⟩: {r // _}×_) (fv 1) o o (dO o)
 refine y h λN O h=>y h λP Q h=>y h λab p h=>y h λac A h=>y h λc B h=>ar.G9 1 1 (er [0,1,3,4,9,10] ?_);refine c1 2 (az 12 [] [] _::az 13 [0] [] _::az 14 [1] [] _::az 15 [2] [] _::az 16 [] [] _::az 17 [4] [0] _::az 18 [3,5] [] (bx [t (c.getD X),t c.isSome])::az 11 [6] [] _::az 19 [7] [] _::az 20 [7] [] _::mY 5 [] 1 10 _::fL [8,10] [1] [1] (λaq=>a7 ((aq 10 0).getD 0) (c.getD X:aJ))::az 6 [9] [] _::[]) (dC ?_ hg) (λad=>?_)
 ·intro aq br aD aA av dQ;refine aT (Pv (r:=c) underlying250 AN ly (kQ (ae (aA _ _ o)) p) (ae (aA _ _ o)) (je (n:=2) (dQ.trans o) (tu A) o) (dz B)) (T ?_);exact cd (dv []) o o
 refine ca ?_;refine e4 ?_;refine Z 1 o (b5 (bi (bi (y h λah ai h=>y h λaj ak h=>y h λl C h=>er [0,1,3,4,5,6,9,10,11,12,13,14,15,16,17,18,19,20] ?_))));refine c1 2 (az 22 [] [] _::az 23 [0] [] _::az 24 [1] [] _::az 25 [2] [] _::az 26 [] [] _::az 27 [4] [1] _::az 28 [3,5] [] (bx [t l.1,t l.2])::az 21 [6] [] _::az 29 [7] [] _::az 30 [7] [] _::az 7 [8] [] _::az 8 [9] [] _::[]) (dC ?_ hg) (λal=>?_)
 ·intro aq br aD aA av dQ;refine bP (eg.Hp 2 (dQ.trans o) (TV C) ⟨ae (aA _ _ o),ae (aA _ _ o),u⟩) o o o (T ?_);exact cd (dv []) o o
 refine ca ?_;refine e4 ?_;refine go2 (λh=>?_) (λh=>?_)
 ·exact b1 (⟨⟨(false,a),h⟩,()⟩: {r // _}×_) (fv 2) o o (dO o)
 refine y h λam an h=>y h λao ap h=>y h λD au h=>bS 8 ?_;refine y h λaw E h=>y h λF G h=>y h λaB H h=>aa.Dd (ng:=Cell.lv (fB F d.ct D)) 2 o (by first|exact .inl o|exact .inr o) underlying250 AN (kQ (ae o) E) (ae o) (ae o) (tu G) o o o (dz H) ?_;refine fl (y h λaC aE h=>bS 5 ?_);refine aa.Hp 2 0 o (aef h) o o ⟨ae o,ae o,u⟩ o λ⟨⟨I,h⟩,aG⟩=>?_;refine bm ?_;refine ay ?_;exact b1 (⟨⟨(true,I),h⟩,()⟩: {r // _}×_) (fv 2) o o (dO o)
def Ud{a f j c}(h:zz a f j=U c):iW prog 136 [t f,t j] a (bx [t c.1,t c.2]) a:=by
 unfold zz at h;refine bu λB C=>?_;refine ay λD l=>?_;refine aj h λm p h=>aj h λd A h=>er [0,1,3,4] ?_;refine c1 2 (az 6 [] [] _::az 7 [] [] _::az 8 [1] [1] _::az 9 [0,2] [] (t m)::az 10 [] [1] _::az 11 [3,4] [] (bx [t d.1,t d.2])::az 12 [5] [] _::az 13 [5] [] _::fL [6] [0] [0] (λaq=>a7 l d.1)::az 5 [7] [] _::[]) (dC ?_ (dC ?_ hg)) (λE=>?_)
 ·intro aq br aD aA av dQ;exact bP (cb 2 (dQ.trans o) .i (Fc p) ⟨ae (aA _ _ o),ae (aA _ _ o),u⟩) o o o (T (cd (dv []) o o))
 ·intro aq br aD aA av dQ;exact bP (cb 2 (dQ.trans o) .i (Oh A) ⟨ae (aA _ _ o),ae (aA _ _ o),u⟩) o o o (T (cd (dv []) o o))
 refine ca ?_;refine e4 ?_;exact go
def adS{d l m p}(h:E1 d l m p):bn prog 210 [t l,t m] ([]++bc d) (aX:= {r:aJ×aI×(aL Cell) // p r}×bG) (λc=>bx [t c.1.1.1,t c.1.1.2.1]) (λc=>[]++bc c.1.1.2.2):=by
 unfold E1 at h;refine bu λH I=>?_;refine ay λK M=>?_;refine y h λf A h=>bP (cb 2 o .i (Oh A) ⟨ae o,ae o,u⟩) o o o ?_;refine ay λN=>?_;refine DG (aY:=bG) h 3 [4,6,7] (λa j=>[]) (λa j=>[]) (λa j=>bc a) (λa j h=>?_) (λhm B h=>?_) (λhm B h=>?_)
 ·refine ay ?_;exact cn (⟨⟨(f.1,f.2,a),h⟩,()⟩: {r // _}×_) (fv 3) o o (mU (i:=1) fK o o) (dO o)
 ·refine bi (y h λO P h=>y h λQ ab h=>bS 5 ?_);refine aa.Hp 3 0 o (ada h) o o ⟨ae o,ae o,u⟩ o λ⟨⟨ac,h⟩,ad⟩=>?_;refine bm (bC ?_);refine y h λah ai h=>bS 6 ?_;refine y h λaj C h=>y h λD E h=>y h λF G h=>aa.LR (ng:=Cell.lv (iT D f.1.ct)) 3 o underlying250 AN (kQ (ae o) C) (ae o) (tu E) o o o (dz G) (T ?_);exact cL 0 (hm F () h)
 exact c8 (cL 0 (hm d () h))
def TL{A:bf->aw (Int×bf)}(B:wm A){m:bf}{c:Nat}{C:aw Nat}{D:Nat}{d:Int×bf}(h:Bz A m=U d):bn prog 381 [V c] [⟨U c,.bF ({m with bL:=[]}:bf) [(3,aH C (w m.bL) D)]⟩,⟨C,.row 375 m.bL D⟩] (aX:=bN) (λl=>t d.1) (λl=>[⟨U c,.bF ({d.2 with bL:=[]}:bf) [(3,aH l.1 (w d.2.bL) l.2)]⟩,⟨l.1,.row 375 d.2.bL l.2⟩]):=by
 unfold Bz at h;refine bu λN O=>?_;refine ay ?_;refine S 1 o (S 1 o (aj h λP H h=>cy 2 .i (TK B H) λE=>?_));refine ay ?_;refine aj h λQ p h=>?_;refine eC (aY:=bN) (aX:=bN) p [] (λf a=>[(0,V c),(3,t f.1)]) (λf a=>[(0,⟨U c,.bF f.2.1 [(3,aH a.1 (w f.2.2) a.2)]⟩),(1,⟨a.1,.row 375 f.2.2 a.2⟩)]) (λj=>bY 0) (λj a=>[(3,t j.1)]) (λj a=>[(0,⟨U c,.bF j.2.1 [(3,aH a.1 (w j.2.2) a.2)]⟩),(1,⟨a.1,.row 375 j.2.2 a.2⟩)]) (E.1,E.2) (λf d h a=>?_) λa=>?_
 ·refine bi (bl (bJ ?_));refine cl ((Y bf).comp kL) 0 0 o o o (S 1 o (S 1 o (aj h λab I h=>cy 2 .i (vx I) λF=>?_)));refine go2 (λh=>?_) (λh=>?_)
  ·refine S 1 o (S 1 o (aj h λac K h=>cy 2 .i (TK B K) λad=>?_));refine ay λag ah h=>?_;refine S 1 o (S 1 o (aj h λai M h=>cy 2 .i (rX M) λG=>?_));refine bI (T ?_);refine co ?_;cases h;exact eE (G.1,G.2) 0
  cases h;exact ej (F.1,F.2) 0
 refine ay ?_;refine c0 ((Y bf).comp kL) 0 0 o o o (Z 1 o (Z 1 o ?_));cases h;exact ff (a.1,a.2)
def TC{A:bw->aw (Int×bw)}(B:wo A){m:bw}{d:Nat}{C:aw Nat}{D:Nat}{f:Int×bw}(h:IG A m=U f):bn prog 383 [V d] [⟨U d,.bF ({m with b3:=[]}:bw) [(2,aH C (w m.b3) D)]⟩,⟨C,.row 346 m.b3 D⟩] (aX:=bN) (λl=>t f.1) (λl=>[⟨U d,.bF ({f.2 with b3:=[]}:bw) [(2,aH l.1 (w f.2.b3) l.2)]⟩,⟨l.1,.row 346 f.2.b3 l.2⟩]):=by
 unfold IG at h;refine bu λP Q=>?_;refine ay ?_;refine S 1 o (S 1 o (aj h λab H h=>cy 2 .i (TB B H) λE=>?_));refine ay ?_;refine aj h λac p h=>?_;refine eC (aY:=bN) (aX:=bN) p [] (λc a=>[(0,V d),(3,t c.1)]) (λc a=>[(0,⟨U d,.bF c.2.1 [(2,aH a.1 (w c.2.2) a.2)]⟩),(1,⟨a.1,.row 346 c.2.2 a.2⟩)]) (λj=>bY 0) (λj a=>[(3,t j.1)]) (λj a=>[(0,⟨U d,.bF j.2.1 [(2,aH a.1 (w j.2.2) a.2)]⟩),(1,⟨a.1,.row 346 j.2.2 a.2⟩)]) (E.1,E.2) (λc f h a=>?_) λa=>?_
 ·refine bi (bl (bJ ?_));refine cl ((Y bw).comp mG) 0 0 o o o (S 1 o (S 1 o (aj h λad I h=>cy 2 .i (vv I) λF=>?_)));refine go2 (λh=>?_) (λh=>?_)
  ·refine S 1 o (S 1 o (aj h λK M h=>cy 2 .i (TB B M) λag=>?_));refine aj h λah N h=>jO N (iI (b:=({(X:de)with cm:=14,fr:=c.1,gm:=K.1}:de)) o Ay wE (.cons sc o (cU 14) o (.cons ur o (ae o) o (.cons vG o (ae o) o (.nil))))) ?_;refine S 1 o (S 1 o (aj h λai O h=>cy 2 .i (ui O) λG=>?_));refine bI (T ?_);refine co ?_;cases h;exact eE (G.1,G.2) 0
  cases h;exact ej (F.1,F.2) 0
 refine ay ?_;refine c0 ((Y bw).comp mG) 0 0 o o o (Z 1 o (Z 1 o ?_));cases h;exact ff (a.1,a.2)
def TW{a d f j l}(h:E2 a d f j l):bn prog 135 [t d,t f,t j] ([]++bc a) (aX:= {r:Int×Int×(aL Cell) // l r}×bG) (λc=>bx [t c.1.1.1,t c.1.1.2.1]) (λc=>[]++bc c.1.1.2.2):=by
 unfold E2 at h;refine bu λM N=>?_;refine ay λO=>?_;refine y h λP m h=>bP (cb 1 o .i (Fc m) ⟨ae o,ae o,u⟩) o o o ?_;refine go2 (λh=>?_) (λh=>?_)
 ·exact cn (⟨⟨(0,6,a),h⟩,()⟩: {r // _}×_) (fv 1) o o (dO o) (dO o)
 refine y h λQ p h=>bP (cb 1 o .i (Oh p) ⟨ae o,ae o,u⟩) o o o ?_;refine go2 (λA h=>?_) (λA h=>?_)
 ·exact cn (⟨⟨(0,17,a),h⟩,()⟩: {r // _}×_) (fv 2) o o (dO o) (dO o)
 refine y h λB C h=>y h λD E h=>er [0,1,2,4,6,7,8,9,10,12,13,14,15,16,17,18,19,20,21,22,23,24] ?_;refine c1 2 (az 25 [] [] _::az 26 [0] [] (t B)::az 27 [] [] _::az 28 [] [] _::az 29 [3] [1] _::az 30 [2,4] [] (t D)::az 31 [1,5] [] _::[]) (dC ?_ (dC ?_ hg)) (λab=>?_)
 ·intro aq br aD aA av dQ;exact bP (cb 2 (dQ.trans o) .i (ae0 C) ⟨ae (aA _ _ o),u⟩) o o o (T (cd (dv []) o o))
 ·intro aq br aD aA av dQ;exact bP (cb 2 (dQ.trans o) .i (aeJ E) ⟨ae (aA _ _ o),ae (aA _ _ o),u⟩) o o o (T (cd (dv []) o o))
 refine ca ?_;refine e4 ?_;refine go2 (λh=>?_) (λac ad F ah ai aj h=>?_)
 ·exact cn (⟨⟨(0,18,a),h⟩,()⟩: {r // _}×_) (fv 2) o o (dO o) (dO o)
 refine bp 2 0 o .i (Oo h) o o ⟨ae o,ae o,u⟩ o λ⟨⟨ak,h⟩,al⟩=>?_;refine bm ?_;refine ay λG H h=>?_;refine y h λI K h=>aa.pC 2 o ((Y ll).comp IX) (v:=(aV (G.pD+1):Int)) bz (ae o) (ae o) (uO H) o o o o (dz K) ?_;refine ay ?_;exact cn (⟨⟨(F.pD,0,I),h⟩,()⟩: {r // _}×_) (fv 2) o o (dO o) (dO o)
def E4{c f j l}(h:xo c f j l):bn prog 138 [t f,t j] ([]++bc c) (aX:= {r:aJ×Int×(aL Cell) // l r}×bG) (λa=>bx [t a.1.1.1,t a.1.1.2.1]) (λa=>[]++bc a.1.1.2.2):=by
 unfold xo at h;refine bu λA B=>?_;refine ay λC D=>?_;refine y h λE m h=>bP (cb 2 o .i (Fc m) ⟨ae o,ae o,u⟩) o o o ?_;refine go2 (λh=>?_) (λh=>?_)
 ·exact cn (⟨⟨((X:aJ),6,c),h⟩,()⟩: {r // _}×_) (fv 2) o o (mU (i:=0) fK o o) (dO o)
 refine bp 2 0 o .i (adS h) o o ⟨ae o,ae o,u⟩ o λ⟨⟨d,h⟩,F⟩=>?_;refine bm ?_;refine go2 (λp h=>?_) (λp h=>?_)
 ·exact cn (⟨⟨((X:aJ),16,d.2.2),h⟩,()⟩: {r // _}×_) (fv 3) o o (mU (i:=1) fK o o) (dO o)
 exact cn (⟨⟨(d.1,0,d.2.2),h⟩,()⟩: {r // _}×_) (fv 3) o o (mU (i:=1) fK o o) (dO o)
def adw{a c d f}(h:EP a c d f):k4 prog 148 [t c,t d] a f:=by
 unfold EP at h;refine bu λp A=>?_;refine ay λB=>?_;refine y h λl m h=>er [0,1,3,4] ?_;refine ar.abT 6 1 mixed (az 5 [] [] _::az 6 [] [] _::az 7 [1] [] _::az 8 [2] [0] _::az 9 [0,3] [] (t l)::az 10 [] [0] _::[]) ⟨du gM,du (hI (bM Qv.fd)),du (hI (bM C1.fd)),du (qD 0 (Eu.comp xk) bz),?_,du (vd 0 fK),u⟩ λC=>?_
 ·intro aq br aD aA av dQ;exact bP (cb 1 (dQ.trans o) .i (Fc m) ⟨ae (aA _ _ o),ae (aA _ _ o),u⟩) o o o (T (cd (dv []) o o))
 refine dJ ?_;refine abu ?_;refine bp 1 0 o .i (Oo h) o o ⟨ae o,ae o,u⟩ o λ⟨⟨j,h⟩,D⟩=>?_;refine bm ?_;refine bI (bC (be ?_));exact b1 (⟨⟨(j.1,j.2),h⟩,()⟩: {r // _}×_) (fv 1) o o (dO o)
def adx{A:bf->aw (Int×bf)}(B:wm A){m:bf}{c:Nat}{C:aw Nat}{D:Nat}{d:Int×bf}(h:ER A m=U d):bn prog 360 [V c] [⟨U c,.bF ({m with bL:=[]}:bf) [(3,aH C (w m.bL) D)]⟩,⟨C,.row 375 m.bL D⟩] (aX:=bN) (λl=>t d.1) (λl=>[⟨U c,.bF ({d.2 with bL:=[]}:bf) [(3,aH l.1 (w d.2.bL) l.2)]⟩,⟨l.1,.row 375 d.2.bL l.2⟩]):=by
 unfold ER at h;refine bu λN O=>?_;refine ay ?_;refine S 1 o (S 1 o (aj h λP H h=>cy 2 .i (TL B H) λE=>?_));refine ay ?_;refine aj h λQ p h=>?_;refine eC (aY:=bN) (aX:=bN) p [] (λf a=>[(0,V c),(3,t f.1)]) (λf a=>[(0,⟨U c,.bF f.2.1 [(3,aH a.1 (w f.2.2) a.2)]⟩),(1,⟨a.1,.row 375 f.2.2 a.2⟩)]) (λj=>bY 0) (λj a=>[(3,t j.1)]) (λj a=>[(0,⟨U c,.bF j.2.1 [(3,aH a.1 (w j.2.2) a.2)]⟩),(1,⟨a.1,.row 375 j.2.2 a.2⟩)]) (E.1,E.2) (λf d h a=>?_) λa=>?_
 ·refine bi (bl (bJ ?_));refine cl ((Y bf).comp kL) 0 0 o o o (S 1 o (S 1 o (aj h λab I h=>cy 2 .i (vx I) λF=>?_)));refine go2 (λh=>?_) (λh=>?_)
  ·refine S 1 o (S 1 o (aj h λac K h=>cy 2 .i (TL B K) λad=>?_));refine ay λag ah h=>?_;refine S 1 o (S 1 o (aj h λai M h=>cy 2 .i (rX M) λG=>?_));refine bI (T ?_);refine co ?_;cases h;exact eE (G.1,G.2) 0
  cases h;exact ej (F.1,F.2) 0
 refine ay ?_;refine c0 ((Y bf).comp kL) 0 0 o o o (Z 1 o (Z 1 o ?_));cases h;exact ff (a.1,a.2)
def adb{A:bw->aw (Int×bw)}(B:wo A){m:bw}{d:Nat}{C:aw Nat}{D:Nat}{f:Int×bw}(h:NH A m=U f):bn prog 371 [V d] [⟨U d,.bF ({m with b3:=[]}:bw) [(2,aH C (w m.b3) D)]⟩,⟨C,.row 346 m.b3 D⟩] (aX:=bN) (λl=>t f.1) (λl=>[⟨U d,.bF ({f.2 with b3:=[]}:bw) [(2,aH l.1 (w f.2.b3) l.2)]⟩,⟨l.1,.row 346 f.2.b3 l.2⟩]):=by
 unfold NH at h;refine bu λP Q=>?_;refine ay ?_;refine S 1 o (S 1 o (aj h λab H h=>cy 2 .i (TC B H) λE=>?_));refine ay ?_;refine aj h λac p h=>?_;refine eC (aY:=bN) (aX:=bN) p [] (λc a=>[(0,V d),(3,t c.1)]) (λc a=>[(0,⟨U d,.bF c.2.1 [(2,aH a.1 (w c.2.2) a.2)]⟩),(1,⟨a.1,.row 346 c.2.2 a.2⟩)]) (λj=>bY 0) (λj a=>[(3,t j.1)]) (λj a=>[(0,⟨U d,.bF j.2.1 [(2,aH a.1 (w j.2.2) a.2)]⟩),(1,⟨a.1,.row 346 j.2.2 a.2⟩)]) (E.1,E.2) (λc f h a=>?_) λa=>?_
 ·refine bi (bl (bJ ?_));refine cl ((Y bw).comp mG) 0 0 o o o (S 1 o (S 1 o (aj h λad I h=>cy 2 .i (vv I) λF=>?_)));refine go2 (λh=>?_) (λh=>?_)
  ·refine S 1 o (S 1 o (aj h λK M h=>cy 2 .i (TC B M) λag=>?_));refine aj h λah N h=>jO N (iI (b:=({(X:de)with cm:=15,fr:=c.1,gm:=K.1}:de)) o Ay wE (.cons sc o (cU 15) o (.cons ur o (ae o) o (.cons vG o (ae o) o (.nil))))) ?_;refine S 1 o (S 1 o (aj h λai O h=>cy 2 .i (ui O) λG=>?_));refine bI (T ?_);refine co ?_;cases h;exact eE (G.1,G.2) 0
  cases h;exact ej (F.1,F.2) 0
 refine ay ?_;refine c0 ((Y bw).comp mG) 0 0 o o o (Z 1 o (Z 1 o ?_));cases h;exact ff (a.1,a.2)
def ade{D d j l I}(h:BA D d j l I):k4 prog 79 [t d,t j,t l] D I:=by
 unfold BA at h;refine bu λap au=>?_;refine go2 (λA m B h=>?_) (λA m B h=>?_)
 ·exact b1 (⟨⟨(6,D),h⟩,()⟩: {r // _}×_) (fv 3) o o (dO o)
 refine y h λK aB h=>y h λP aC h=>?_;obtain⟨E,M,Q⟩:=ag.ex h;refine er [3,4,5,6] ?_;refine dK mixed [6,10,11,12] [(0,14,t d),(1,15,V K),(2,16,c6 K Es),(3,17,t P.1.mi),(4,18,t j),(5,19,t l)] ?_;refine c7 (aY:=(Subtype E)×Nat) (AR:=[6,10]) (λg=>[(7,13,bx [t g.1.1.1,t g.1.1.2.1]),(8,21,t g.1.1.1),(9,22,t g.1.1.2.1)]) (λg=>[(20,bx [t g.1.1.1,t g.1.1.2.1]),(7,V g.2),(3,V A),(4,V m),(5,V B),(6,t (0:Int))]) (λg=>(a7 g.2 (X:Int)::a7 B l::a7 m j::a7 A d::bc g.1.1.2.2)) (λ⟨⟨a,C⟩,p⟩=>?_) λN=>?_
 ·refine bQ [5,4,3,2,1,0] [7,8,9] [11] ⟨?_,u⟩
  ·refine b' (aP:=[]) (λx:bG=>[]) (λx=>[]) (λx=>(a7 p a.1::a7 B l::a7 m j::a7 A d::bc a.2.2)) (λ_=>?_) (λF c cH G aA k=>?_)
   ·have h:=Q a C;refine bQ [8,7,5,4,3,2,1,0] [9] [12] ⟨dE [11,10,9,8,7,6,5,4,3,2,1,0] ?_,u⟩;refine dJ ?_;refine aa.le (br:=[(3,V A),(4,V m),(5,V B),(6,t (0:Int)),(7,V p),(22,t a.2.1)]) .all ?_;refine go2 (λh=>?_) (λh=>?_)
    ·exact b1 (⟨⟨(a.2.1,a.2.2),h⟩,()⟩: {r // _}×_) (fv 4) o o (dO o)
    refine y h λaE aH h=>y h λaI aJ h=>y h λH ab h=>ar.G9 1 4 (er [3,4,5,6,7,8,22,23,24] ?_);refine c1 5 (az 27 [] [3] _::az 28 [0] [] _::az 29 [1] [] _::az 30 [2] [] _::az 31 [] [2] _::az 32 [3,4] [] (bx [t H.1,t H.2])::az 26 [5] [] _::az 33 [6] [] _::az 34 [6] [] _::mY 9 [] 4 9 _::fL [7,9] [4] [4] (λaq=>a7 ((aq 9 0).getD 0) H.1)::az 10 [8] [] _::[]) (dC ?_ hg) (λaL=>?_)
    ·intro aq br aD aA av dQ;exact bP (cb 5 (dQ.trans o) .i (Ud ab) ⟨ae (aA _ _ o),ae (aA _ _ o),u⟩) o o o (T (cd (dv []) o o))
    refine ca ?_;refine e4 ?_;refine Z 4 o (b5 (bi (bi (y h λaM ac h=>y h λaN aO h=>bS 5 ?_))));refine y h λaR ad h=>bp 5 0 o .i (T5 ad) o o ⟨ae o,ae o,u⟩ o λaS=>bm ?_;refine go2 (λh=>?_) (λh=>?_)
    ·refine y h λaU aV h=>bS 6 ?_;refine bp 5 0 o .i (E4 h) o o ⟨ae o,ae o,u⟩ o λ⟨⟨aW,h⟩,aX⟩=>?_;refine bm (fl ?_);refine y h λaZ a0 h=>bS 5 ?_;refine y h λah ai h=>bp 5 0 o .i (TI ai) o o ⟨ae o,ae o,u⟩ o λa1=>bm ?_;refine ay ?_;exact b1 (⟨⟨(19,ah),h⟩,()⟩: {r // _}×_) (fv 5) o o (dO o)
    refine y h λa2 a3 h=>bS 6 ?_;refine y h λa4 aj h=>bp 5 0 o .i (On aj) o o ⟨ae o,ae o,u⟩ o λa5=>bm ?_;refine ay ?_;refine bW 4 3 o o (bW 0 9 o o (bW 1 7 o o (bW 2 5 o o (aT (Qx (LX (f:=142) (dF:=[a' d,a' H.1,a' a.1,a' l]) ⟨ae o,ae o,ae o,ae o,u⟩) (λ_ _ _ h=>akc h)) ?_))));refine y h λa6 ak h=>y h λal am h=>dN (dl 5 (λq:aw Nat×Nat=>Cell.mw al q.1 q.2) o (pE ak) .i (Nr am) o (λ_=>rfl) ⟨jI (ae o) ac,ae o,u⟩) o o o λan=>?_;replace h:=cq h an;refine y h λO ao h=>c5 (mC:=(⟨b4,.dead⟩::⟨b4,.dead⟩::⟨b4,.dead⟩::a7 m j::⟨b4,.dead⟩::bc O)) (by rw[<-dz ao];rfl) ?_;refine ay ?_;exact b1 (⟨⟨(0,O),h⟩,()⟩: {r // _}×_) (fv 5) o o (dO o)
   cases c;refine dk (i:=0) (Y Int) bz (ae (aA o)) (ae (aA o)) o o o (T ?_);exact k ()
 refine bQ [] [0,1,2,3,4,5] [6,10] ⟨?_,?_,u⟩
 ·refine b' (aP:=[7,8,9]) (λx:Subtype E=>[(20,bx [t x.1.1,t x.1.2.1])]) (λx=>[(7,13,bx [t x.1.1,t x.1.2.1]),(8,21,t x.1.1),(9,22,t x.1.2.1)]) (λx=>(a7 B l::a7 m j::a7 A d::bc x.1.2.2)) (λ⟨a,C⟩=>?_) (λF c cH G aA k=>?_)
  ·refine bQ [5,4,3,2,1,0] [7,8,9] [10] ⟨?_,u⟩
   ·refine cr [] (λx:Nat=>[(7,V x)]) (λx:Nat=>N (⟨a,C⟩,x)) (λF c cH G aA k=>?_);cases c;refine iL my λp=>T ?_;exact k p
  cases c;refine bp 3 0 o .i (TW M) o o ⟨ae (aA o),ae (aA o),ae (aA o),u⟩ o λ⟨⟨a,C⟩,_⟩=>?_;refine bm (T ?_);exact k ⟨a,C⟩
 refine b' (aP:=[]) (λx:Nat=>[(7,V x)]) (λx=>[]) (λx=>(a7 x (X:Int)::a7 B l::a7 m j::a7 A d::bc D)) (λp=>?_) (λF c cH G aA k=>?_)
 ·refine bQ [] [0,1,2,3,4,5] [6] ⟨?_,u⟩
  ·refine cr [7,8,9] (λx:Subtype E=>[(20,bx [t x.1.1,t x.1.2.1])]) (λx:Subtype E=>N (x,p)) (λF c cH G aA k=>?_);cases c;refine bp 4 0 o .i (TW M) o o ⟨ae (aA o),ae (aA o),ae (aA o),u⟩ o λ⟨⟨a,C⟩,_⟩=>?_;refine bm (T ?_);exact k ⟨a,C⟩
 cases c;refine iL my λp=>T ?_;exact k p
def TX{f j d l}(h:E5 f j d l):bn prog 212 [t j,t d] ([]++bc f) (aX:= {r:aJ×Int×(aL Cell) // l r}×bG) (λc=>bx [t c.1.1.1,t c.1.1.2.1]) (λc=>[]++bc c.1.1.2.2):=by
 unfold E5 at h;refine bu λH I=>?_;refine ay λK M=>?_;refine bp 2 0 o .i (E4 h) o o ⟨ae o,ae o,u⟩ o λ⟨⟨a,h⟩,N⟩=>?_;refine bm ?_;refine go2 (λm h=>?_) (λm h=>?_)
 ·exact cn (⟨⟨((X:aJ),a.2.1,a.2.2),h⟩,()⟩: {r // _}×_) (fv 3) o o (mU (i:=1) fK o o) (dO o)
 refine y h λO p h=>y h λP A h=>y h λQ B h=>y h λab C h=>y h λD E h=>y h λac F h=>cI mixed 13 (rg 18 13) [[],[0],[1],[2],[],[4],[3,5],[],[],[8],[],[10],[7,9,11]] [_,_,_,_,_,_,_,_,_,_,_,_,_] ⟨dG,ed λav=>fp (jI (ae o) p),H1 (bM akd.fd),ed λav=>oN ((Y ll).comp IB) ZO (ae o) (oZ (λi e q=>av i e q o) (je (n:=3) o (uO A) o)) o o,H1 (bM C1.fd),iM 2 xk bz,ed λav=>uI (r:=D) underlying183 AN Ze (kQ (ae o) B) (ae o) (oZ (λi e q=>av i e q o) (je (n:=3) o (wj C) o)) (dz E),pR 2 lM,H1 (bM Yt.fd),iM 0 Ir bz,H1 (bM aly.fd),iM 0 Nv bz,vm F λaD av=>iI (b:= {aS:=d,ct:=a.1.ct,dL:=a.1.dL:aJ}) o aqy ly (.cons Eu o (ae o) o (.cons Ir o (ae o) o (.cons Nv o (ae o) o (.nil)))),u⟩ ?_;refine bp 3 0 o .i (Oo h) o o ⟨ae o,ae o,u⟩ o λ⟨⟨G,h⟩,ad⟩=>?_;refine bm ?_;refine ay ?_;exact cn (⟨⟨(a.1,0,G.2),h⟩,()⟩: {r // _}×_) (fv 3) o o (mU (i:=1) fK o o) (dO o)
def adf{B d j F}(h:BB B d j F):k4 prog 81 [t d,t j] B F:=by
 unfold BB at h;refine bu λaj ak=>?_;refine go2 (λp l h=>?_) (λp l h=>?_)
 ·exact b1 (⟨⟨(6,B),h⟩,()⟩: {r // _}×_) (fv 2) o o (dO o)
 refine y h λG al h=>y h λM am h=>?_;obtain⟨C,H,N⟩:=ag.ex h;refine er [2,3,4] ?_;refine dK mixed [5,9,10,11] [(0,10,t d),(1,11,V G),(2,12,c6 G Es),(3,13,t M.1.mi),(4,14,t j)] ?_;refine c7 (aY:=(Subtype C)×Nat) (AR:=[5,9]) (λg=>[(6,9,bx [t g.1.1.1,t g.1.1.2.1]),(7,16,t g.1.1.1),(8,17,t g.1.1.2.1)]) (λg=>[(15,bx [t g.1.1.1,t g.1.1.2.1]),(5,V g.2),(2,V p),(3,V l),(4,t (0:Int))]) (λg=>(a7 g.2 (X:aJ)::a7 l j::a7 p d::bc g.1.1.2.2)) (λ⟨⟨a,A⟩,m⟩=>?_) λI=>?_
 ·refine bQ [4,3,2,1,0] [6,7,8] [10] ⟨?_,u⟩
  ·refine b' (aP:=[]) (λx:bG=>[]) (λx=>[]) (λx=>(a7 m a.1::a7 l j::a7 p d::bc a.2.2)) (λ_=>?_) (λD c cH E aA k=>?_)
   ·have h:=N a A;refine bQ [7,6,4,3,2,1,0] [8] [11] ⟨dE [10,9,8,7,6,5,4,3,2,1,0] ?_,u⟩;refine dJ ?_;refine aa.le (br:=[(2,V p),(3,V l),(4,t (0:Int)),(5,V m),(17,t a.2.1)]) .all ?_;refine go2 (λh=>?_) (λh=>?_)
    ·exact b1 (⟨⟨(a.2.1,a.2.2),h⟩,()⟩: {r // _}×_) (fv 3) o o (dO o)
    refine y h λan O h=>y h λao ap h=>bS 6 ?_;refine y h λau P h=>bp 3 0 o .i (NV P) o o ⟨ae o,ae o,u⟩ o λaB=>bm (fl ?_);refine y h λaC aE h=>bS 6 ?_;refine y h λaH Q h=>bp 3 0 o .i (TT Q) o o ⟨ae o,ae o,u⟩ o λaI=>bm ?_;refine ay ?_;refine bW 2 2 o o (bW 0 5 o o (aT (Qx (LX (f:=147) (dF:=[a' d,a' a.1]) ⟨ae o,ae o,u⟩) (λ_ _ _ h=>ake h)) ?_));refine y h λaL ab h=>y h λac ad h=>dN (dl 3 (λq:aw Nat×Nat=>Cell.mw ac q.1 q.2) o (pE ab) .i (Nr ad) o (λ_=>rfl) ⟨jI (ae o) O,ae o,u⟩) o o o λah=>?_;replace h:=cq h ah;refine y h λK ai h=>c5 (mC:=(⟨b4,.dead⟩::a7 l j::⟨b4,.dead⟩::bc K)) (by rw[<-dz ai];rfl) ?_;refine ay ?_;exact b1 (⟨⟨(0,K),h⟩,()⟩: {r // _}×_) (fv 3) o o (dO o)
   cases c;refine dk (i:=0) (Y aJ) fK (ae (aA o)) (ae (aA o)) o o o (T ?_);exact k ()
 refine bQ [] [0,1,2,3,4] [5,9] ⟨?_,?_,u⟩
 ·refine b' (aP:=[6,7,8]) (λx:Subtype C=>[(15,bx [t x.1.1,t x.1.2.1])]) (λx=>[(6,9,bx [t x.1.1,t x.1.2.1]),(7,16,t x.1.1),(8,17,t x.1.2.1)]) (λx=>(a7 l j::a7 p d::bc x.1.2.2)) (λ⟨a,A⟩=>?_) (λD c cH E aA k=>?_)
  ·refine bQ [4,3,2,1,0] [6,7,8] [9] ⟨?_,u⟩
   ·refine cr [] (λx:Nat=>[(5,V x)]) (λx:Nat=>I (⟨a,A⟩,x)) (λD c cH E aA k=>?_);cases c;refine iL ly λm=>T ?_;exact k m
  cases c;refine bp 2 0 o .i (E4 H) o o ⟨ae (aA o),ae (aA o),u⟩ o λ⟨⟨a,A⟩,_⟩=>?_;refine bm (T ?_);exact k ⟨a,A⟩
 refine b' (aP:=[]) (λx:Nat=>[(5,V x)]) (λx=>[]) (λx=>(a7 x (X:aJ)::a7 l j::a7 p d::bc B)) (λm=>?_) (λD c cH E aA k=>?_)
 ·refine bQ [] [0,1,2,3,4] [5] ⟨?_,u⟩
  ·refine cr [6,7,8] (λx:Subtype C=>[(15,bx [t x.1.1,t x.1.2.1])]) (λx:Subtype C=>I (x,m)) (λD c cH E aA k=>?_);cases c;refine bp 3 0 o .i (E4 H) o o ⟨ae (aA o),ae (aA o),u⟩ o λ⟨⟨a,A⟩,_⟩=>?_;refine bm (T ?_);exact k ⟨a,A⟩
 cases c;refine iL ly λm=>T ?_;exact k m
def acF{a c d f j l}(h:Ek a c d f j l):AQ prog 142 [a' c,a' d,a' f,a' j] a l:=by
 unfold Ek at h;refine bu λC D=>?_;refine bi (y h λE F h=>y h λG H h=>bS 6 ?_);refine bp 0 0 o .i (E4 h) o o ⟨ae o,ae o,u⟩ o λ⟨⟨I,h⟩,K⟩=>?_;refine bm (fl ?_);refine y h λM N h=>bS 5 ?_;refine y h λO m h=>bp 0 0 o .i (TI m) o o ⟨ae o,ae o,u⟩ o λP=>bm (fl ?_);refine y h λQ ab h=>bS 6 ?_;refine y h λac p h=>bp 0 0 o .i (NV p) o o ⟨ae o,ae o,u⟩ o λad=>bm (bC ?_);refine y h λah ai h=>bS 5 ?_;refine y h λA B h=>bp 0 0 o .i (TT B) o o ⟨ae o,ae o,u⟩ o λaj=>bm (T ?_);exact dm (df (⟨⟨A.2,h⟩,()⟩: {r // _}×_) (.refl _) o o)
def acG{a c d f}(h:Bj a c d f):AQ prog 147 [a' c,a' d] a f:=by
 unfold Bj at h;refine bu λp A=>?_;refine bi (y h λB C h=>y h λD E h=>bS 5 ?_);refine bp 0 0 o .i (adw h) o o ⟨ae o,ae o,u⟩ o λ⟨⟨F,h⟩,G⟩=>?_;refine bm (fl ?_);refine y h λH I h=>bS 6 ?_;refine y h λK j h=>bp 0 0 o .i (On j) o o ⟨ae o,ae o,u⟩ o λM=>bm (bC ?_);refine y h λN O h=>bS 6 ?_;refine y h λl m h=>bp 0 0 o .i (T5 m) o o ⟨ae o,ae o,u⟩ o λP=>bm (T ?_);exact dm (df (⟨⟨l.2,h⟩,()⟩: {r // _}×_) (.refl _) o o)
def acw(m:Nat):∀(c:bf) (d:Nat) (j:aw Nat) (l:Nat) (a:Int×bf),vu m c=U a->bn prog 320 [V d] [⟨U d,.bF ({c with bL:=[]}:bf) [(3,aH j (w c.bL) l)]⟩,⟨j,.row 375 c.bL l⟩] (aX:=bN) (λf=>t a.1) (λf=>[⟨U d,.bF ({a.2 with bL:=[]}:bf) [(3,aH f.1 (w a.2.bL) f.2)]⟩,⟨f.1,.row 375 a.2.bL f.2⟩]):=by
 induction m with
 |zero=>intro c d j l a h;simp[vu]at h
 | succ m p=>
   intro c d j l a h
   simp only[vu]at h
   refine bu λG H=>?_
   refine ay ?_
   refine S 1 o (S 1 o (aj h λI C h=>cy 2 .i (adx p C) λK=>?_))
   refine ay ?_
   refine S 1 o (S 1 o (aj h λM D h=>cy 2 .i (vx D) λA=>?_))
   refine go2 (λh=>?_) (λh=>?_)
   ·refine Z 1 o (Z 1 o ?_)
    cases h
    exact ff (A.1,A.2)
   refine S 1 o (S 1 o (aj h λN E h=>cy 2 .i (p _ _ _ _ _ E) λO=>?_))
   refine ay λP Q h=>?_
   refine S 1 o (S 1 o (aj h λab F h=>cy 2 .i (rX F) λB=>?_))
   refine bI (bC (be ?_))
   refine Z 1 o (Z 1 o ?_)
   cases h
   exact ff (B.1,B.2)
def acH{c f j l a}(h:Ta c=U a):bn prog 320 [V f] [⟨U f,.bF ({c with bL:=[]}:bf) [(3,aH j (w c.bL) l)]⟩,⟨j,.row 375 c.bL l⟩] (aX:=bN) (λd=>t a.1) (λd=>[⟨U f,.bF ({a.2 with bL:=[]}:bf) [(3,aH d.1 (w a.2.bL) d.2)]⟩,⟨d.1,.row 375 a.2.bL d.2⟩]):=acw bX c f j l a h
def acp(A:Nat):∀(d:bw) (f:Nat) (l:aw Nat) (m:Nat) (c:Int×bw),Bg A d=U c->bn prog 341 [V f] [⟨U f,.bF ({d with b3:=[]}:bw) [(2,aH l (w d.b3) m)]⟩,⟨l,.row 346 d.b3 m⟩] (aX:=bN) (λj=>t c.1) (λj=>[⟨U f,.bF ({c.2 with b3:=[]}:bw) [(2,aH j.1 (w c.2.b3) j.2)]⟩,⟨j.1,.row 346 c.2.b3 j.2⟩]):=by
 induction A with
 |zero=>intro d f l m c h;simp[Bg]at h
 | succ A D=>
   intro d f l m c h
   simp only[Bg]at h
   refine bu λP Q=>?_
   refine ay ?_
   refine S 1 o (S 1 o (aj h λG H h=>cy 2 .i (adb D H) λab=>?_))
   refine ay ?_
   refine S 1 o (S 1 o (aj h λac I h=>cy 2 .i (vv I) λE=>bC ?_))
   refine aj h λp B h=>?_
   refine hs (aY:=bN) [] (λa=>[(3,t p.1)]) (λa=>[(0,⟨U f,.bF p.2.1 [(2,aH a.1 (w p.2.2) a.2)]⟩),(1,⟨a.1,.row 346 p.2.2 a.2⟩)]) (λa=>?_) (λhm C=>?_) λhm C=>?_
   ·refine ay ?_
    refine c0 ((Y bw).comp mG) 0 0 o o o (Z 1 o (Z 1 o ?_))
    cases h
    exact ff (a.1,a.2)
   ·have h:=da C B
    refine ay ?_
    refine S 1 o (S 1 o (aj h λK M h=>cy 2 .i (D _ _ _ _ _ M) λad=>?_))
    refine aj h λag N h=>jO N (iI (b:=({(X:de)with cm:=16,fr:=G.1,gm:=K.1}:de)) o Ay wE (.cons sc o (cU 16) o (.cons ur o (ae o) o (.cons vG o (ae o) o (.nil))))) ?_
    refine S 1 o (S 1 o (aj h λah O h=>cy 2 .i (ui O) λF=>?_))
    refine bI (T ?_)
    cases h
    exact cL 0 (hm (F.1,F.2))
   have h:=db C B
   refine c8 ?_
   cases h
   exact cL 0 (hm (E.1,E.2))
def acx{c f j l a}(h:S1 c=U a):bn prog 341 [V f] [⟨U f,.bF ({c with b3:=[]}:bw) [(2,aH j (w c.b3) l)]⟩,⟨j,.row 346 c.b3 l⟩] (aX:=bN) (λd=>t a.1) (λd=>[⟨U f,.bF ({a.2 with b3:=[]}:bw) [(2,aH d.1 (w a.2.b3) d.2)]⟩,⟨d.1,.row 346 a.2.b3 d.2⟩]):=acp bX c f j l a h
def TD{G A f H}(h:Bs G A f H):bn prog 145 [t A,t f] ([]++bc G) (aX:= {r:bg×bg×Int×(aL Cell) // H r}×bG) (λB=>bx [t B.1.1.1,t B.1.1.2.1,t B.1.1.2.2.1]) (λB=>[]++bc B.1.1.2.2.2):=by
 unfold Bs at h;refine bu λad ah=>?_;refine ay λp j l=>?_;refine y h λI ai h=>y h λN aj h=>?_;obtain⟨D,K,O⟩:=ag.ex h;refine er [0,3,4,5,6] ?_;refine dK mixed [5,9,10,11] [(0,11,t A),(1,12,V I),(2,13,c6 I Es),(3,14,t N.1.mi),(4,15,t f)] ?_;refine c7 (aY:=(Subtype D)×Nat) (AR:=[5,9]) (λg=>[(6,10,bx [t g.1.1.1,t g.1.1.2.1]),(7,17,t g.1.1.1),(8,18,t g.1.1.2.1)]) (λg=>[(16,bx [t g.1.1.1,t g.1.1.2.1]),(7,V g.2),(0,t A),(3,V p),(4,V j),(5,V l),(6,t (0:Int))]) (λg=>(a7 g.2 (X:aJ)::a7 l (X:bg)::a7 j (X:bg)::a7 p f::bc g.1.1.2.2)) (λ⟨⟨a,m⟩,d⟩=>?_) λM=>?_
 ·refine bQ [4,3,2,1,0] [6,7,8] [10] ⟨?_,u⟩
  ·refine b' (aP:=[]) (λx:bG=>[]) (λx=>[]) (λx=>(a7 d a.1::a7 l (X:bg)::a7 j (X:bg)::a7 p f::bc a.2.2)) (λ_=>?_) (λE c cH F aA k=>?_)
   ·have h:=O a m;refine bQ [7,6,4,3,2,1,0] [8] [11] ⟨dE [10,9,8,7,6,5,4,3,2,1,0] ?_,u⟩;refine dJ ?_;refine aa.le (br:=[(0,t A),(3,V p),(4,V j),(5,V l),(6,t (0:Int)),(7,V d),(18,t a.2.1)]) .all ?_;refine go2 (λh=>?_) (λh=>?_)
    ·exact af.ZQ (⟨⟨((X:bg),(X:bg),a.2.1,a.2.2),h⟩,()⟩: {r // _}×_) (fv 4) o o (mU (i:=2) lM o o) (mU (i:=1) lM o o) (dO o)
    refine y h λak al h=>y h λam an h=>y h λC P h=>ar.G9 1 4 (er [0,3,4,5,6,7,18,19,20] ?_);refine c1 5 (az 25 [] [] _::az 26 [0] [] _::az 27 [1] [] _::az 28 [2] [] _::az 29 [] [3] _::az 30 [3,4] [] (bx [t C.1,t C.2])::az 24 [5] [] _::az 31 [6] [] _::az 32 [6] [] _::mY 8 [] 4 9 _::fL [7,9] [4] [4] (λaq=>a7 ((aq 9 0).getD 0) C.1)::az 9 [8] [] _::[]) (dC ?_ hg) (λao=>?_)
    ·intro aq br aD aA av dQ;exact bP (cb 5 (dQ.trans o) .i (Ud P) ⟨ae (aA _ _ o),ae (aA _ _ o),u⟩) o o o (T (cd (dv []) o o))
    refine ca ?_;refine e4 ?_;refine Z 4 o (b5 (bi (y h λap au h=>y h λaw aB h=>bS 6 ?_)));refine y h λaC Q h=>bp 5 0 o .i (NV Q) o o ⟨ae o,ae o,u⟩ o λaE=>bm (fl ?_);refine y h λaH aI h=>bS 6 ?_;refine y h λab ac h=>bp 5 0 o .i (On ac) o o ⟨ae o,ae o,u⟩ o λaM=>bm (fl ?_);refine er [0,3,4,5,7,8,9,18,19,20,24,25,26,27,28,29,30,31,32,33,34,35,36,37,38,39,40,41,42,43,44,45,46] ?_;refine ar.vk 5 (az 47 [] [] _::az 48 [0] [1] _::az 49 [] [] _::az 50 [2] [0] _::fL [1] [3] [3] (λaq=>a7 j a.1.aS)::fL [3] [2] [2] (λaq=>a7 l C.1.aS)::az 6 [] [] _::[]) (λaN=>?_);refine ca ?_;refine e4 (b5 (be ?_));exact af.ZQ (⟨⟨(a.1.aS,C.1.aS,0,ab),h⟩,()⟩: {r // _}×_) (fv 5) o o (mU (i:=3) lM o o) (mU (i:=2) lM o o) (dO o)
   cases c;refine dk (i:=0) (Y aJ) fK (ae (aA o)) (ae (aA o)) o o o (T ?_);exact k ()
 refine bQ [] [0,1,2,3,4] [5,9] ⟨?_,?_,u⟩
 ·refine b' (aP:=[6,7,8]) (λx:Subtype D=>[(16,bx [t x.1.1,t x.1.2.1])]) (λx=>[(6,10,bx [t x.1.1,t x.1.2.1]),(7,17,t x.1.1),(8,18,t x.1.2.1)]) (λx=>(a7 l (X:bg)::a7 j (X:bg)::a7 p f::bc x.1.2.2)) (λ⟨a,m⟩=>?_) (λE c cH F aA k=>?_)
  ·refine bQ [4,3,2,1,0] [6,7,8] [9] ⟨?_,u⟩
   ·refine cr [] (λx:Nat=>[(7,V x)]) (λx:Nat=>M (⟨a,m⟩,x)) (λE c cH F aA k=>?_);cases c;refine iL ly λd=>T ?_;exact k d
  cases c;refine bp 3 0 o .i (TX K) o o ⟨ae (aA o),ae (aA o),u⟩ o λ⟨⟨a,m⟩,_⟩=>?_;refine bm (T ?_);exact k ⟨a,m⟩
 refine b' (aP:=[]) (λx:Nat=>[(7,V x)]) (λx=>[]) (λx=>(a7 x (X:aJ)::a7 l (X:bg)::a7 j (X:bg)::a7 p f::bc G)) (λd=>?_) (λE c cH F aA k=>?_)
 ·refine bQ [] [0,1,2,3,4] [5] ⟨?_,u⟩
  ·refine cr [6,7,8] (λx:Subtype D=>[(16,bx [t x.1.1,t x.1.2.1])]) (λx:Subtype D=>M (x,d)) (λE c cH F aA k=>?_);cases c;refine bp 4 0 o .i (TX K) o o ⟨ae (aA o),ae (aA o),u⟩ o λ⟨⟨a,m⟩,_⟩=>?_;refine bm (T ?_);exact k ⟨a,m⟩
 cases c;refine iL ly λd=>T ?_;exact k d
instance:ew prog 273 _ _ J1 t (λr=>bx [t r.1,t r.2.1,t r.2.2]):=.j (h:=λa r h W A=>by
 refine bl (aT (cc (look_nil (au:=dw))) ?_);refine bI ?_;refine bI (eG ?_);refine bJ ?_;refine aT (rf (b:=({(X:bf)with cw:=a}:bf)) [3] akf o aom aon (.cons uo o (ae o) o (by rfl) (.nil))) ?_;refine c4 (au:=dw) 375 (aa.RF (ae o) o λj=>bI (eG ?_));refine bJ ?_;refine cl ((Y bf).comp kL) 0 0 o o o (S 1 o (S 1 o (aj h λc d h=>cy 2 .i (acH d) λl=>fl (bl ?_))));refine bJ ?_;refine cP fp ?_;refine cP (bM PQ.fd) ?_;refine qC 0 xj hv ?_;refine bJ ?_;refine jY cN ?_;refine jY fp ?_;refine jY (bM xP.fd) ?_;refine e1 (λax=>ho (i:=0) ((Y bf).comp kv) bz (ba o ax) o o o (by rfl)) ?_;refine jY cN ?_;refine jY (mT underlying376) ?_;refine AO kj ?_;refine wW (bC ?_);refine fR h (λh=>?_) λh=>?_
 ·refine bi (er [0,5,6,7,8,9,10,11,12,13,14,15,16,17,18,19,20,21,22,23] ?_);refine ar.pf mixed (az 24 [] [] _::az 25 [0] [] _::az 26 [1] [] _::az 27 [2] [0] _::az 2 [] [] _::az 3 [3] [] _::az 4 [] [] _::[]) ⟨gM,hI fp,hI (bM xP.fd),eF λaA av=>ho (i:=0) ((Y bf).comp kv) bz (ae (aA _ _ o)) (av 0 _ o o) o o (by rfl),eF λaA av=>cc (look_nil (au:=dw)),eF λaA av=>cc (ae (aA _ _ o)),eF λaA av=>cc (cU 10),u⟩ λm=>?_;refine ca ?_;refine e4 (b5 (be (bv ?_)));cases h;exact cs o (hd o) (hd o) (hd o)
 refine gE (bi (bl (bJ ?_)));refine cP fp ?_;refine cP (bM PV.fd) ?_;refine aT (fG (i:=0) (q:=0) Aw (ae o) o o) ?_;refine aT (nv (i:=1) underlying306 (ae o) o o) ?_;refine cH oU ?_;refine bJ ?_;refine jY cN ?_;refine jY fp ?_;refine jY (bM PV.fd) ?_;refine e1 (λax=>fG (i:=0) (q:=0) Aw (ba o ax) o o) ?_;refine aj h λp f h=>e1 (λax=>aZ.abn 38 o ax (aZ.Hl (au:=dw) 1 38 o o tm (fP .i (afP (dT f ax)) ⟨ae o,u⟩))) ?_;refine AO oU ?_;refine wW (bC ?_);refine fR h (λh=>?_) λh=>?_
 ·refine bl (aT (cc (look_nil (au:=dw))) ?_);refine bI ?_;refine bI (bC (be (bv ?_)));cases h;exact cs o (hd o) (hd o) (hd o)
 refine gE (bl (bJ ?_));refine cP fp ?_;refine cP (bM PV.fd) ?_;refine aT (fG (i:=0) (q:=0) Aw (ae o) o o) ?_;refine bI ?_;refine bI ?_;refine bI (bC (be ?_));refine af.yh (b7:=bf) (aY:=dw) (et:=c.2) ((Y bf).comp kL) 0 1 0 2 o o o o o o o (af.qq 0 o ?_);cases h;exact cs o (hd o) (hd o) (hd o))
def ae5{a c}(h:Oq a=U c):cf prog 298 [t a] (bx [t c.1,t c.2.1,t c.2.2]):=by
 unfold Oq at h;refine cf.ofM func298 o ntmps298 o λD E=>?_;refine ay λl m p=>?_;refine aT (L0 (f:=340) (us:=[.pointer (U ⟨l,0,b4⟩),.pointer (U ⟨m,0,b4⟩),.pointer (U ⟨p,0,b4⟩)]) ⟨ae o,ae o,ae o,u⟩) ?_;refine aa.defer o (ae o) (eG ?_);refine bJ ?_;refine aT (rf (b:=({(X:bw)with cw:=a}:bw)) [2] XI o aop ZS (.cons s8 o (ae o) o (by rfl) (.nil))) ?_;refine c4 (au:=de) 346 (aa.pB (z:=(X:bw)) [2] XI ZS o λF=>c4 (au:=de) 346 (aa.uK (i:=1) aoq (ae o) (ae o) o (eG (cl (aY:=de) (et:=({({(X:bw)with cw:=a}:bw)with b3:=[]}:bw)) ((Y bw).comp mG) 1 0 o o o (S 2 o (S 2 o (aj h λA B h=>cy 2 .i (acx B) λG=>?_)))))));refine ay ?_;refine qC 0 nU bz ?_;refine ay ?_;refine aj h λH d h=>?_;refine fg [2,3,4,5] [] [] ?_ (λhm j=>?_) λhm j=>?_
 ·refine b5 (bl (cP (bM akg.fd) ?_))
  refine aT (fG (i:=0) (q:=0) (b7:=bw) (aY:=de) De (ae o) o o) ?_;refine aa.yh (b7:=bw) (aY:=de) (et:=A.2) ((Y bw).comp mG) 0 1 0 17 o o o o o o o (aa.qq 0 o (ay ?_));refine af.aqz o .i akh ?_;cases h;exact cs o (rG 5 De) (rG 4 bz) (rG 3 hv)
 ·have h:=da j d;refine c2 (aj h λI C h=>bP (eg.call [0,1] .i (Iv C) ⟨ae o,u⟩ o ⟨rfl,rfl,u⟩ o) o o o ?_);exact go
 have h:=db j d;exact go
def adg{c d j l}(h:BC c d j l):k4 prog 80 [t d,t j] c l:=by
 unfold BC at h;refine bu λK M=>?_;refine go2 (λB m h=>?_) (λB m h=>?_)
 ·exact b1 (⟨⟨(6,c),h⟩,()⟩: {r // _}×_) (fv 2) o o (dO o)
 refine bp 2 0 o .i (TD h) o o ⟨ae o,ae o,u⟩ o λ⟨⟨a,h⟩,N⟩=>?_;refine bm ?_;refine go2 (λC p h=>?_) (λC p h=>?_)
 ·exact b1 (⟨⟨(a.2.2.1,a.2.2.2),h⟩,()⟩: {r // _}×_) (fv 4) o o (dO o)
 refine bW 3 2 o o (bW 1 5 o o (aT (Qx (LX (f:=146) (dF:=[a' d,a' a.1]) ⟨ae o,ae o,u⟩) (λ_ _ _ h=>aki h)) ?_));refine y h λO D h=>y h λP E h=>y h λF G h=>dN (dl 4 (λq:aw Nat×Nat=>Cell.mw F q.1 q.2) o (pE E) .i (Nr G) o (λ_=>rfl) ⟨jI (ae o) D,ae o,u⟩) o o o λH=>?_;replace h:=cq h H;refine y h λA I h=>c5 (mC:=(a7 p a.2.1::⟨b4,.dead⟩::a7 m j::⟨b4,.dead⟩::bc A)) (by rw[<-dz I];rfl) ?_;refine ay ?_;exact b1 (⟨⟨(0,A),h⟩,()⟩: {r // _}×_) (fv 4) o o (dO o)
def acI{a c d f}(h:El a c d f):AQ prog 146 [a' c,a' d] a f:=by
 unfold El at h;refine bu λl m=>?_;refine ay ?_;refine bp 0 0 o .i (TD h) o o ⟨ae o,ae o,u⟩ o λ⟨⟨j,h⟩,p⟩=>?_;refine bm (T ?_);exact dm (df (⟨⟨j.2.2.2,h⟩,()⟩: {r // _}×_) (.refl _) o o)
def UW{a H O}(h:zP a H=U O):cf prog 201 [t a,t H] (t O):=by
 unfold zP at h;refine cf.ak λa6 a8=>?_;refine bl (bI (eG ?_));refine aa.pB (z:=(X:R dg)) [0] akj aos o λj=>c4 (au:=dg) 357 (eG (aT (L0 (f:=256) (us:=[.pointer (U ⟨j,0,b4⟩)]) ⟨ae o,u⟩) ?_));refine ay ?_;refine aj h λa9 P h=>?_;refine eC (aY:=bN) (aX:=bN) P [0,6] (λd c=>[(1,t H),(5,V j),(10,t a),(11,t (w a:Int)),(12,t d.1)]) (λd c=>[(0,⟨c.1,.row 357 d.2.1 c.2⟩),(1,⟨U j,.bF d.2.2 [(0,aH c.1 (w d.2.1) c.2)]⟩)]) (λI=>bY 0) (λI c=>[]) (λI c=>[(0,⟨c.1,.row 357 I.1 c.2⟩),(1,⟨U j,.bF I.2 [(0,aH c.1 (w I.1) c.2)]⟩)]) (b4,0) (λd O h c=>?_) λc=>?_
 ·refine go2 (λbB a_ l h=>?_) (λh=>?_)
  ·refine aj h λQ ab h=>?_;refine hs (aY:=bN) [0,1,5,6,10,11,12] (λA=>[]) (λA=>[(1,⟨A.1,.row 357 Q.1 A.2⟩),(2,⟨U j,.bF Q.2 [(0,aH A.1 (w Q.1) A.2)]⟩)]) (λA=>?_) (λhm p=>?_) λhm p=>?_
   ·refine ay ?_;cases h;exact eE (A.1,A.2) 1
   ·have h:=da p ab;refine aj h λak aN h=>?_;refine cI mixed 7 (rg 34 7) [[],[],[1],[2],[3],[4],[5]] [_,_,_,_,_,_,_] ⟨ed λav=>fG (i:=2) (q:=0) (b7:=R dg) (aY:=dg) sv (ae o) (av _ _ o o) o,H1 (bM XJ.fd),iM 0 NI e3,jZ aaB.dj (aaB.m _ _ aN),ed λav=>iI (b:= {qF:=ak:l2}) o ZU LM (.cons N3 o (ae o) o (.nil)),ed λav=>mn underlying365 o (ae o) (λ_ _ _ h=>Gu h),ed λav=>tx (r:=[(dg.pL ({qF:=ak:l2}))]) underlying355 uV AA o o (.cons (by simp) (ae o) (.nil)),u⟩ ?_;refine aj h λaO aR h=>eM 1 underlying355 uV AA aR λam an=>?_;refine ds (i:=2) (aY:=dg) (et:=([]:R dg)) (pb:=[(0,aH am (w aO) an)]) (Y (R dg)) sv (ae o) (ae o) hy o o o o (T ?_);cases h;exact cL 0 (hm (am,an))
   have h:=db p ab;refine ay ?_;refine aj h λac ad h=>?_;refine hs (aY:=bN) [0,1,5,6,10,11,12] (λB=>[]) (λB=>[(1,⟨B.1,.row 357 ac.1 B.2⟩),(2,⟨U j,.bF ac.2 [(0,aH B.1 (w ac.1) B.2)]⟩)]) (λB=>?_) (λhm p=>?_) λhm p=>?_
   ·cases h;exact cL 0 (hm (B.1,B.2))
   ·have h:=da p ad;refine aj h λaS aU h=>?_;refine cI mixed 7 (rg 44 7) [[],[],[1],[],[2,3],[4],[5]] [_,_,_,_,_,_,_] ⟨ed λav=>fG (i:=2) (q:=0) (b7:=R dg) (aY:=dg) sv (ae o) (av _ _ o o) o,H1 (bM XJ.fd),iM 0 NI e3,ed λav=>fP L6.dj (L6.m _ _ aU) ⟨nW 1 o,u⟩,jB (Q9 wq o (by kernel_rfl) o),ed λav=>mn underlying358 o (ae o) (λ_ _ _ h=>sj h),ed λav=>tx (r:=[(dg.lN (b8 ((al a bB).b2=aS)))]) underlying355 uV AA o o (.cons (by simp) (ae o) (.nil)),u⟩ ?_;refine aj h λaW aZ h=>eM 1 underlying355 uV AA aZ λao ap=>?_;refine ds (i:=2) (aY:=dg) (et:=([]:R dg)) (pb:=[(0,aH ao (w aW) ap)]) (Y (R dg)) sv (ae o) (ae o) hy o o o o (T ?_);cases h;exact cL 0 (hm (ao,ap))
   have h:=db p ad;refine ay ?_;refine aj h λag ah h=>?_;refine hs (aY:=bN) [0,1,5,6,10,11,12] (λC=>[]) (λC=>[(1,⟨C.1,.row 357 ag.1 C.2⟩),(2,⟨U j,.bF ag.2 [(0,aH C.1 (w ag.1) C.2)]⟩)]) (λC=>?_) (λhm p=>?_) λhm p=>?_
   ·cases h;exact cL 0 (hm (C.1,C.2))
   ·have h:=da p ah;refine aj h λaB a0 h=>?_;refine cI mixed 7 (rg 54 7) [[],[],[],[1,2],[3],[4],[5]] [_,_,_,_,_,_,_] ⟨ed λav=>fG (i:=2) (q:=0) (b7:=R dg) (aY:=dg) sv (ae o) (av _ _ o o) o,pR 0 Df,dG,jZ aaC.dj (aaC.m _ _ _ a0),ed λav=>iI (b:= {qF:=aB:l2}) o ZU LM (.cons N3 o (ae o) o (.nil)),ed λav=>mn underlying365 o (ae o) (λ_ _ _ h=>Gu h),ed λav=>tx (r:=[(dg.pL ({qF:=aB:l2}))]) underlying355 uV AA o o (.cons (by simp) (ae o) (.nil)),u⟩ ?_;refine aj h λa1 a2 h=>eM 1 underlying355 uV AA a2 λaC aE=>?_;refine ds (i:=2) (aY:=dg) (et:=([]:R dg)) (pb:=[(0,aH aC (w a1) aE)]) (Y (R dg)) sv (ae o) (ae o) hy o o o o (T ?_);cases h;exact cL 0 (hm (aC,aE))
   have h:=db p ah;refine aj h λM aI h=>aj h λai aJ h=>aj h λN bb h=>aj h λK a3 h=>er [0,1,5,6,8,10,11,12,13,14,15,16,17,32,33,42,43,52,53] ?_;refine dK mixed [0,6,10,13,14] [(1,19,c6 l sc),(2,20,t ((al a bB).cm)),(3,21,t (⟨256,U [.pointer (U ⟨j,0,b4⟩)]⟩:Raw)),(4,22,c6 l ur),(5,23,t ((al a bB).fr)),(7,25,t (⟨256,U [.pointer (U ⟨j,0,b4⟩)]⟩:Raw)),(8,26,c6 l vG),(9,27,t ((al a bB).gm))] ?_;refine c7 (aY:=bG) (AR:=[0,6,10]) (λg=>[(1,19,c6 l sc),(2,20,t ((al a bB).cm)),(11,29,t N),(12,30,t ([N]))]) (λg=>[(18,cA (aH c.1 (w d.2.1) c.2)),(24,t M),(28,t ai),(0,t a),(1,t H),(5,V j),(6,t (⟨256,U [.pointer (U ⟨j,0,b4⟩)]⟩:Raw)),(8,V l),(10,t a),(11,t (w a:Int)),(12,t d.1),(13,t (b8 (d.1<(w a:Int)))),(14,a' (al a bB)),(15,t (al a bB)),(16,cA (.pointer (U ⟨l,0+0,b4⟩))),(17,t ((al a bB).cm)),(32,t (((al a bB).cm)==1)),(33,t (((al a bB).cm)==1)),(42,t (((al a bB).cm)==2)),(43,t (((al a bB).cm)==2)),(52,t (((al a bB).cm)==3)),(53,t (((al a bB).cm)==3))]) (λg=>[a7 l (al a bB:de),⟨c.1,.row 357 d.2.1 c.2⟩,⟨U j,.bF ([]:R dg) [(0,aH c.1 (w d.2.1) c.2)]⟩]) (λ_=>?_) λaL=>?_
   ·refine bQ [9,8,7,5,4,3] [1,2,11,12] [13] ⟨?_,u⟩
    ·refine b' (aP:=[]) (λx:(aw Nat)×Nat=>[(31,cA (aH x.1 (w K) x.2))]) (λx=>[]) (λx=>[a7 l (al a bB:de),⟨x.1,.row 357 K x.2⟩,⟨U j,.bF ([]:R dg) [(0,aH c.1 (w d.2.1) c.2)]⟩]) (λ⟨F,G⟩=>?_) (λD m cH E aA k=>?_)
     ·refine bQ [12,11,9,8,7,5,4,3,2,1] [] [14] ⟨?_,u⟩
      ·refine b' (aP:=[]) (λx:bG=>[]) (λx=>[]) (λx=>[a7 l (al a bB:de),⟨F,.row 357 K G⟩,⟨U j,.bF ([]:R dg) [(0,aH F (w K) G)]⟩]) (λ_=>?_) (λD m cH E aA k=>?_)
       ·refine fe.abo [12,11,9,8,7,5,4,3,2,1] [] ?_;refine ca ?_;refine abp [0,1,5,6,8,10,11,12,13,14,15,16,17,32,33,42,43,52,53] ?_;cases h;exact cL 0 (hm (F,G))
       cases m;refine ds (i:=2) (aY:=dg) (et:=([]:R dg)) (pb:=[(0,aH F (w K) G)]) (Y (R dg)) sv (ae (aA o)) (ae (aA o)) hy o o o o (T ?_);exact k ()
     cases m;refine aa.app (i:=1) underlying355 uV AA (bytes:=16) (by kernel_rfl) (ae (aA o)) o (ae (aA o)) a3 o λF G=>?_;exact T (k (F,G))
   refine c7 (aY:=bG) (AR:=[0,6]) (λg=>[(1,19,c6 l sc),(2,20,t ((al a bB).cm)),(7,25,t (⟨256,U [.pointer (U ⟨j,0,b4⟩)]⟩:Raw)),(8,26,c6 l vG),(9,27,t ((al a bB).gm))]) (λg=>[(18,cA (aH c.1 (w d.2.1) c.2)),(24,t M),(0,t a),(1,t H),(5,V j),(6,t (⟨256,U [.pointer (U ⟨j,0,b4⟩)]⟩:Raw)),(8,V l),(10,t a),(11,t (w a:Int)),(12,t d.1),(13,t (b8 (d.1<(w a:Int)))),(14,a' (al a bB)),(15,t (al a bB)),(16,cA (.pointer (U ⟨l,0+0,b4⟩))),(17,t ((al a bB).cm)),(32,t (((al a bB).cm)==1)),(33,t (((al a bB).cm)==1)),(42,t (((al a bB).cm)==2)),(43,t (((al a bB).cm)==2)),(52,t (((al a bB).cm)==3)),(53,t (((al a bB).cm)==3))]) (λg=>[a7 l (al a bB:de),⟨c.1,.row 357 d.2.1 c.2⟩,⟨U j,.bF ([]:R dg) [(0,aH c.1 (w d.2.1) c.2)]⟩]) (λ_=>?_) λaM=>?_
   ·refine bQ [5,4,3] [1,2,7,8,9] [10] ⟨?_,u⟩
    ·refine cr [11,12] (λx:bG=>[(28,t ai)]) (λx:bG=>aL ()) (λD m cH E aA k=>?_);cases m;refine bP (dt (dF:=[t ((al a bB).gm:Int)]) [2,1] .i (CH (ae (aA o))) (E9 aJ) ⟨ae (aA o),u⟩ o ⟨rfl,rfl,u⟩ o) o o o (T ?_);exact k ()
   refine bQ [] [1,2,3,4,5,7,8,9] [0,6] ⟨?_,?_,u⟩
   ·refine b' (aP:=[]) (λx:bG=>[(18,cA (aH c.1 (w d.2.1) c.2))]) (λx=>[]) (λx=>[a7 l (al a bB:de),⟨c.1,.row 357 d.2.1 c.2⟩,⟨U j,.bF d.2.2 [(0,aH c.1 (w d.2.1) c.2)]⟩]) (λ_=>?_) (λD m cH E aA k=>?_)
    ·refine bQ [] [1,2,3,4,5,7,8,9] [6] ⟨?_,u⟩
     ·refine cr [] (λx:bG=>[(24,t M)]) (λx:bG=>aM ()) (λD m cH E aA k=>?_);cases m;refine cl (aY:=dg) (et:=([]:R dg)) (Y (R dg)) 2 0 o o o (bP (dt (dF:=[t ((al a bB).fr:Int)]) [2,1] .i (CH (ae (aA o))) (E9 aI) ⟨ae (aA o),u⟩ o ⟨rfl,rfl,u⟩ o) o o o (T ?_));exact k ()
    cases m;refine aT (fG (i:=2) (q:=0) (b7:=R dg) (aY:=dg) sv (ae (aA o)) o o) (T ?_);exact k ()
   refine b' (aP:=[]) (λx:bG=>[(24,t M)]) (λx=>[]) (λx=>[a7 l (al a bB:de),⟨c.1,.row 357 d.2.1 c.2⟩,⟨U j,.bF ([]:R dg) [(0,aH c.1 (w d.2.1) c.2)]⟩]) (λ_=>?_) (λD m cH E aA k=>?_)
   ·refine bQ [5,4,3] [1,2,7,8,9] [0,10] ⟨?_,?_,u⟩
    ·refine cr [] (λx:bG=>[(18,cA (aH c.1 (w d.2.1) c.2))]) (λx:bG=>aM ()) (λD m cH E aA k=>?_);cases m;refine aT (fG (i:=2) (q:=0) (b7:=R dg) (aY:=dg) sv (ae (aA o)) o o) (T ?_);exact k ()
    refine b' (aP:=[11,12]) (λx:bG=>[(28,t ai)]) (λx=>[(11,29,t N),(12,30,t ([N]))]) (λx=>[a7 l (al a bB:de),⟨c.1,.row 357 d.2.1 c.2⟩,⟨U j,.bF ([]:R dg) [(0,aH c.1 (w d.2.1) c.2)]⟩]) (λ_=>?_) (λD m cH E aA k=>?_)
    ·refine bQ [9,8,7,5,4,3] [1,2,11,12] [0] ⟨?_,u⟩
     ·refine cr [] (λx:bG=>[(18,cA (aH c.1 (w d.2.1) c.2))]) (λx:bG=>aL ()) (λD m cH E aA k=>?_);cases m;refine aT (fG (i:=2) (q:=0) (b7:=R dg) (aY:=dg) sv (ae (aA o)) o o) (T ?_);exact k ()
    cases m;refine bP (dt (dF:=[t ((al a bB).gm:Int)]) [2,1] .i (CH (ae (aA o))) (E9 aJ) ⟨ae (aA o),u⟩ o ⟨rfl,rfl,u⟩ o) o o o (T ?_);exact k ()
   cases m;refine cl (aY:=dg) (et:=([]:R dg)) (Y (R dg)) 2 0 o o o (bP (dt (dF:=[t ((al a bB).fr:Int)]) [2,1] .i (CH (ae (aA o))) (E9 aI) ⟨ae (aA o),u⟩ o ⟨rfl,rfl,u⟩ o) o o o (T ?_));exact k ()
  cases h;exact ej (c.1,c.2) 0
 refine ay ?_;refine cl (aY:=dg) (et:=([]:R dg)) (Y (R dg)) 1 0 o o o (aj h λbc a4 h=>bP (dt (dF:=[t (aV ((w a:Int)-1):Int)]) [1,0] .i (CH (ae o)) (E9 a4) ⟨ae o,u⟩ o ⟨rfl,rfl,u⟩ o) o o o (aj h λbd a5 h=>aT (wF (vA a5) ⟨(ae o),u⟩) ?_));exact go
instance:ew prog 272 _ _ Kf t (λr=>bx [t r.1,t r.2.1,t r.2.2]):=.j (h:=λl r h W A=>by
 refine bl (aT (cc (look_nil (au:=fI))) ?_);refine bI ?_;refine bI (fl (bl ?_));refine bJ ?_;refine cP (C0 underlying9) ?_;refine cH oU (bC ?_);refine fR h (λh=>?_) λh=>?_
 ·refine bl (aT (cc (look_nil (au:=fI))) ?_);refine bI ?_;refine bI (bC (be (bv ?_)));cases h;exact cs o (hd o) (hd o) (hd o)
 refine gE (bl (c4 (au:=fI) 424 (aT (cc h7) (fl (bl ?_)))));refine bI (bC (cM ?_));refine aj h λf j h=>?_;refine eC (aY:=bN) (aX:=bN) j [] (λd a=>[(0,t l),(5,cA (aH a.1 (w d.2) a.2)),(6,t d.1)]) (λd a=>[(0,⟨a.1,.row 424 d.2 a.2⟩)]) (λc=>bZ (λc=>bY 0) (λc=>Exit.ret) c) (λc a=>bZ (λc=>[(5,cA (aH a.1 (w c) a.2))]) (λc=>[(2,t c.1),(3,t c.2.1),(4,t c.2.2.1)]) c) (λc a=>bZ (λc=>[(0,⟨a.1,.row 424 c a.2⟩)]) (λc=>[(0,⟨a.1,.row 424 c.2.2.2 a.2⟩)]) c) (b4,0) (λd r h a=>?_) λa=>?_
 ·refine bi (bl (bJ ?_));refine bJ ?_;refine cP (C0 underlying9) ?_;refine cH kj (bC ?_);refine fR h (λh=>?_) λh=>?_
  ·refine gE (cM (bi (bl (bJ ?_))));refine bJ ?_;refine aj h λaw m h=>aT (sr underlying9 (ae o) (ae o) m) ?_;refine aT (Lj (ae o) (jJ 32 o)) (bC ?_);refine fR h (λh=>?_) λh=>?_
   ·refine bl (bJ ?_);refine cH hc ?_;refine bI (bC (ar.exit (af.exit (af.j3 ?_))));cases h;exact eE (a.1,a.2) 0
   refine gE (bl (bJ ?_));refine aj h λp B h=>jO B (iI (b:=({(X:fI)with cO:=3,rA:=d.1}:fI)) o aot yl (.cons BH o (cU 3) o (.cons aeg o (ae o) o (.nil)))) ?_;refine iL yl λay=>?_;refine oc 0 qt (eG ?_);refine bJ ?_;refine bJ ?_;refine aj h λaB C h=>aT (pA underlying9 (ae o) (.some (ae o)) .none C) ?_;refine aj h λaC D h=>hU aaG.dj (aaG.m _ _ D) ?_;refine bI (fl (bl ?_));refine bJ ?_;refine bJ ?_;refine aj h λaE E h=>aT (pA underlying9 (ae o) (.some (ae o)) .none E) ?_;refine aj h λaG F h=>hU aaI.dj (aaI.m _ _ F) ?_;refine bI (eG ?_);refine bJ ?_;refine cH oU (bC ?_);refine fR h (λh=>?_) λh=>?_
   ·refine bl (bJ ?_);refine cP (bM KY.fd) ?_;refine wT 0 BH bz ?_;refine bI (fl (bl ?_));refine bJ ?_;refine bJ ?_;refine aj h λaI G h=>aT (sr underlying9 (ae o) (ae o) G) ?_;refine aT (Lj (ae o) (jJ 95 o)) (bC ?_);refine fR h (λh=>?_) λh=>?_
    ·refine bl (bJ ?_);refine aT (cc (look_nil (au:=fI))) ?_;refine bI ?_;refine bI (bC (be (bv (bv ?_))));refine cv ?_;cases h;exact ej (a.1,a.2) 1
    refine gE (bl (bJ ?_));refine bJ ?_;refine aj h λaJ H h=>aT (sr underlying9 (ae o) (ae o) H) ?_;refine aT (wb (ae o) (jJ 57 o)) (bC ?_);refine fR h (λh=>?_) λh=>?_
    ·refine bl (cP (bM KY.fd) ?_);refine wT 0 BH bz (eG ?_);refine bJ ?_;refine bJ ?_;refine bJ ?_;refine bJ ?_;refine cH hc ?_;refine aj h λaL I h=>aT (pA underlying9 (ae o) (.some (ae o)) (.some (ae o)) I) ?_;refine aj h λaM K h=>hU aaP.dj (aaP.m _ _ K) ?_;refine bJ ?_;refine pQ ?_;refine pQ ?_;refine iL Q1 λaN=>?_;refine oc 0 Q7 ?_;refine bI (eG ?_);refine bJ ?_;refine cP lr (bC ?_);refine fR h (λh=>?_) λh=>?_
     ·refine bl (bJ ?_);refine aT (cc (look_nil (au:=fI))) ?_;refine bI ?_;refine bI (bC (be (bv ?_)));refine cv ?_;cases h;exact ej (a.1,a.2) 2
     refine gE (bi (bl (bJ ?_)));refine cH ir (bC ?_);refine fR h (λh=>?_) λh=>?_
     ·refine bl (bJ ?_);refine aT (cc (look_nil (au:=fI))) ?_;refine bI ?_;refine bI (bC (be (bv ?_)));refine cv ?_;cases h;exact ej (a.1,a.2) 2
     refine gE (bl (bJ ?_));refine bJ ?_;refine bJ ?_;refine bJ ?_;refine cH hc ?_;refine aj h λaO M h=>aT (pA underlying9 (ae o) (.some (ae o)) (.some (ae o)) M) ?_;refine cP (bM KZ.fd) ?_;refine aj h λN O h=>?_;refine rF 1 EK gR (ax:=by exact O) ?_;refine bC (c2 (bJ ?_));refine j6 1 qt ?_;refine HE [N] underlying376 qt yl ?_;refine aj h λaR P h=>eM 2 underlying376 qt yl P λQ ab=>?_;refine bJ ?_;refine bJ ?_;refine cH hc ?_;refine bI ?_;refine bI (T ?_);refine co ?_;cases h;exact eE (Q,ab) 2
    refine gE (bi (bl (bJ ?_)));refine cH ir (bC ?_);refine fR h (λh=>?_) λh=>?_
    ·refine bl (bJ ?_);refine aT (cc (look_nil (au:=fI))) ?_;refine bI ?_;refine bI (bC (be (bv ?_)));refine cv ?_;cases h;exact ej (a.1,a.2) 1
    refine gE (bl (bJ ?_));refine bJ ?_;refine bJ ?_;refine bJ ?_;refine cH hc ?_;refine aj h λaS ac h=>aT (pA underlying9 (ae o) (.some (ae o)) (.some (ae o)) ac) ?_;refine cP (bM KZ.fd) ?_;refine aj h λad ag h=>?_;refine rF 0 EK gR (ax:=by exact ag) ?_;refine bC (c2 (bJ ?_));refine j6 0 qt ?_;refine HE [ad] underlying376 qt yl ?_;refine aj h λaU ah h=>eM 1 underlying376 qt yl ah λai ak=>?_;refine bJ ?_;refine bJ ?_;refine cH hc ?_;refine bI ?_;refine bI (T ?_);refine co ?_;cases h;exact eE (ai,ak) 1
   refine gE (bi (bl (bJ ?_)));refine cH ir (bC ?_);refine fR h (λh=>?_) λh=>?_
   ·refine bl (bJ ?_);refine aT (cc (look_nil (au:=fI))) ?_;refine bI ?_;refine bI (bC (be (bv ?_)));refine cv ?_;cases h;exact ej (a.1,a.2) 1
   refine gE (bl (bJ ?_));refine bJ ?_;refine bJ ?_;refine bJ ?_;refine cH hc ?_;refine aj h λal am h=>aT (pA underlying9 (ae o) (.some (ae o)) (.some (ae o)) am) ?_;refine cP (bM KZ.fd) ?_;refine wT 0 EK gR (bC (c2 ?_));refine bJ ?_;refine j6 0 qt ?_;refine HE [({p with ia:=al}:fI)] underlying376 qt yl ?_;refine aj h λaV an h=>eM 1 underlying376 qt yl an λao ap=>?_;refine bJ ?_;refine bJ ?_;refine cH hc ?_;refine bI ?_;refine bI (T ?_);refine co ?_;cases h;exact eE (ao,ap) 1
  refine ar.exit (af.exit ?_);cases h;exact ej (a.1,a.2) 0
 rcases f with f|f
 ·simp only[ce]at h;refine af.j3 (b5 (bl (bJ ?_)));refine bI ?_;refine bI ?_;refine bI (bC (be ?_));refine af.hb (au:=fI) 0 [2,5,79] ⟨rfl,rfl,rfl,u⟩ o ?_;cases h;exact cs o (hd o) (hd o) (hd o)
 simp only[ci]at h;refine cv (bv ?_);cases h;exact cs o (hd o) (hd o) (hd o))
instance:dd prog 221 _ _ _ B8 t t (λr=>bx [t r.1,t r.2]):=.j (h:=λj l r h W A=>by
 refine bl (aT (cc (look_nil (au:=dw))) ?_);refine ay ?_;refine aT (lq underlying9 (ae o) (fA (dh #[]))) ?_;refine AM (λa c h=>?_) (λa c d f h=>?_) (λa c d f m p h=>?_)
 ·refine aT (cc (look_nil (au:=dw))) ?_;exact go
 ·refine aT (cc (look_nil (au:=dw))) ?_;exact go
 refine aT (cc (look_nil (au:=dw))) ?_;exact go)
instance:ew prog 253 _ _ UD t (λr=>bx [t r.1,t r.2.1,t r.2.2]):=.j (h:=λd r h W A=>by
 refine bl (aT (cc (look_nil (au:=de))) ?_);refine bI ?_;refine bI (eG ?_);refine bJ ?_;refine aj h λf a h=>hU .i (ae5 a) ?_;refine bJ ?_;refine pQ ?_;refine pQ ?_;refine pQ ?_;refine bI ?_;refine bI ?_;refine bI (fl (cM (bl ?_)));refine bJ ?_;refine cP lr ?_;refine bI (bC ?_);refine fR h (λh=>?_) λh=>?_
 ·refine bl (bJ ?_);refine aT (cc (look_nil (au:=de))) ?_;refine bI ?_;refine bI (bC (be ?_));refine cv (bv ?_);cases h;exact cs o (hd o) (hd o) (hd o)
 refine bl (bJ ?_);refine cP (mT underlying290) ?_;refine cH oU ?_;refine bJ ?_;refine jY cN ?_;refine aj h λj c h=>e1 (λax=>fP .i (afu (dT c ax)) ⟨ba o ax,u⟩) ?_;refine AO oU ?_;refine wW ?_;refine bI (bC ?_);refine fR h (λh=>?_) λh=>?_
 ·refine bl (aT (cc (look_nil (au:=de))) ?_);refine bI ?_;refine bI (bC (be ?_));refine cv (bv ?_);cases h;exact cs o (hd o) (hd o) (hd o)
 refine c8 (co (b5 (bl (bJ ?_))));refine bI ?_;refine bI ?_;refine bI (bC (be ?_));cases h;exact cs o (hd o) (hd o) (hd o))
def af6{d c f}(h:OR d c f):xX prog (t c) [] ([]++bc d) (aX:= {r:(aL Cell) // f r}×bG) (λ_=>.bO []) (λB=>[]++bc B.1.1):=by
 cases c with
 |nil=>exact h.elim
 |yt j l C D=>exact xX.of .i (λm p A a=>akk a) (acF h)
 |wL j l=>exact xX.of .i (λm p A a=>akl a) (acI h)
 |yu j l=>exact xX.of .i (λm p A a=>akm a) (acG h)
def UX{a c d f}(h:Cp a c d=U f):cf prog 157 [t a,t c,t d] (t f):=by
 unfold Cp at h;refine cf.ak λj l=>?_;exact go
instance Mk:dd prog 199 _ _ _ B9 t t (λa=>bx [t a.1,t a.2]):=.j (h:=λm p a h A B=>by
 refine bl (aT (cc (look_nil (au:=de))) ?_);refine ay ?_;refine aT (lq underlying9 (ae o) (fA (dh #[]))) ?_;refine AM (λc d h=>?_) (λc d f j h=>?_) (λc d f j h=>?_)
 ·refine aT (cc (look_nil (au:=de))) ?_;exact go
 ·refine aT (cc (look_nil (au:=de))) ?_;exact go
 refine aj h λC l h=>hU .i (afx l) ?_;refine ay (λh=>?_);refine aT (cc (look_nil (au:=de))) ?_;exact go)
def acP{B l p C}(h:Bm B l p C):AQ prog 41 [t l,t p] B C:=by
 unfold Bm at h;refine bu λQ ab=>?_;refine cM (wV (aY:=bG) (aX:=bG) h 0 [] (λd c=>[(0,t l),(1,t p)]) (λd c=>[]) (λd c=>bc d) (λj=>bY 0) (λj c=>[]) (λj c=>[]) (λj c=>bc j) () (λd ac h c=>?_) (λF h c=>?_))
 ·refine bi (bl (bJ ?_));refine y h λad G h=>y h λa f h=>y h λah H h=>bP (eg.obj 0 o (pE f) .i (Np H) o ⟨jI (ae o) G,u⟩) o o o ?_;refine go2 (λh=>?_) (λh=>?_)
  ·refine aa.Qy 0 o (pE f) o λai I=>aT (fG (i:=0) (q:=0) wy (ae o) o o) ?_;refine aT (nv (i:=1) underlying125 (ae o) o o) ?_;refine ay ?_;refine aa.Rq (Cell.mw a.1 a.2.1 a.2.2) 2 2 I o o o (c5 (mC:=(bc d)) (by rw[Wx (pE f)];rfl) ?_);refine ay ?_;refine aa.Qy 0 o (pE f) o λaj K=>aT (fG (i:=0) (q:=0) wy (ae o) o o) ?_;refine bJ ?_;refine y h λbB D h=>aT (jx (i:=1) underlying125 LS (ae o) (ae o) o (cz D)) ?_;refine cP (bM akn.fd) ?_;refine aT (mh (i:=1) (k:=bB) ((Y gq).comp Tn) abv (ae o) o (cz D).1 o o) ?_;refine bI ?_;refine aa.Rq (Cell.mw a.1 a.2.1 a.2.2) 2 2 K o o o (c5 (mC:=(bc d)) (by rw[Wx (pE f)];rfl) ?_);refine ay ?_;refine aa.Qy 0 o (pE f) o λak M=>aT (fG (i:=0) (q:=0) wy (ae o) o o) ?_;refine bJ ?_;refine y h λdi A h=>aT (GC (i:=1) (xs:=(a.1.gT:R gq)) (m:=0) (n:=di) underlying125 LS (ae o) o .none (.some (ae o)) o (cz A).2 ⟨zC _,c3 (cz A).1⟩) ?_;refine y h λE N h=>aa.aoA (i:=1) (n:=di) (xs:=(a.1.gT:R gq)) (r:=E) 31 o o (c3 (cz A).1) (dz N) ?_;refine ay ?_;refine ds (i:=0) ((Y gG).comp Eh) wy (ae o) (ae o) hy o o o o (y h λO P h=>aa.Rq (Cell.mw ({a.1 with gT:=E}:gG) a.2.1 a.2.2) 2 2 M o o o ?_);refine c5 (mC:=(bc O)) (by rw[<-dz P];rfl) ?_;refine bC (c2 (bJ ?_));refine aa.arX 0 0 o (af6 h) o o ⟨ae o,u⟩ o λ⟨⟨al,h⟩,am⟩=>?_;refine bm (T ?_);exact co (af.uL h () 0 o .all)
  exact af.rj h () 0 o (by simp) o .nil
 exact af.j3 (dm (df (⟨⟨F,h⟩,()⟩: {r // _}×_) (.refl _) o o))
instance:dd prog 91 _ _ _ JS t t t:=.j (h:=λH I r h W A=>by
 refine bl (hT λK=>?_);refine hT λM=>?_;refine bI (eG ?_);refine j6 1 n5 ?_;refine cP (bM C1.fd) ?_;refine jz 0 xk bz ?_;refine aj h λN a h=>hU abm.dj (abm.m _ _ _ a) ?_;refine bI (fl (bi ?_));refine aj h λbB c h=>aj h λdi d h=>aj h λO f h=>aj h λfm j h=>aj h λP l h=>aj h λQ m h=>cI mixed 26 (rg 11 26) [[],[0],[1],[2],[2,3],[2],[2,4,5],[2,6],[2,7],[2],[2,9],[2],[2,10,11],[2,12],[2,13],[2],[2],[2,16],[2],[2,17,18],[2,19],[2],[2,15,20,21],[2,8,14,22],[2,23],[2,24]] [_,_,_,_,_,_,_,_,_,_,_,_,_,_,_,_,_,_,_,_,_,_,_,_,_,_] ⟨dG,jB kj,dG,bD λaD av=>λax=>bM we.fd (ae o),bD λaD av=>λax=>iq (i:=1) ((Y aU).comp qS) rz (ba o ax) (av _ _ o o) o o,bD λaD av=>λax=>cN (ae o),bD λaD av=>λax=>jy (k:=bB) underlying27 kl (ba o ax) (ba o ax) (cz (dT c ax)),bD λaD av=>λax=>oV Il Qt.fd (ba o ax) o o,bD λaD av=>λax=>hn gR (ba o ax),bD λaD av=>λax=>bM we.fd (ae o),bD λaD av=>λax=>iq (i:=1) ((Y aU).comp qS) rz (ba o ax) (av _ _ o o) o o,bD λaD av=>λax=>cN (ae o),bD λaD av=>λax=>jy (k:=di) underlying27 kl (ba o ax) (ba o ax) (cz (dT d ax)),bD λaD av=>λax=>hn kl (ba o ax),bD λaD av=>λax=>fP .i (aeX (dT f ax)) ⟨ba o ax,u⟩,bD λaD av=>λax=>iq (i:=1) (Y aU) n5 (ae o) (av _ _ o o) o o,bD λaD av=>λax=>bM we.fd (ae o),bD λaD av=>λax=>iq (i:=1) ((Y aU).comp qS) rz (ba o ax) (av _ _ o o) o o,bD λaD av=>λax=>cN (ae o),bD λaD av=>λax=>jy (k:=fm) underlying27 kl (ba o ax) (ba o ax) (cz (dT j ax)),bD λaD av=>λax=>hn kl (ba o ax),bD λaD av=>λax=>iq (i:=0) (Y bg) lM (ae o) (av _ _ o o) o o,bD λaD av=>λax=>fP .i (af5 (dT l ax)) ⟨ba o ax,ba o ax,ba o ax,u⟩,bD λaD av=>λax=>fP .i (UX (dT m ax)) ⟨ba o ax,ba o ax,ba o ax,u⟩,bD λaD av=>λax=>lr (ba o ax),ed λav=>oY (ae o) (ae o) (λh=>h),u⟩ (bC ?_);refine fR h (λh=>?_) λh=>?_
 ·refine bl (bI (bC (be (bv ?_))));cases h;exact lQ
 refine gE (bi (bl (cP (bM uM.fd) ?_)));refine jz 0 s5 bz ?_;refine cH ir (bC ?_);refine fR h (λh=>?_) λh=>?_
 ·refine bl (bI (bC (be (bv ?_))));cases h;exact lQ
 refine gE (bl (j6 1 n5 ?_));refine cP (bM uM.fd) ?_;refine jz 0 s5 bz ?_;refine aj h λab p h=>hU aaN.dj (aaN.m _ _ _ p) ?_;refine bI (fl ?_);refine aj h λiw B h=>aj h λlG C h=>aj h λac D h=>aj h λnd E h=>aj h λad F h=>aj h λag G h=>cI mixed 25 (rg 44 25) [[],[0],[1],[2],[2,3],[2],[2,4,5],[2,6],[2,7],[2],[2,9],[2],[2,10,11],[2,12],[2,13],[2],[2,15],[2],[2,16,17],[2,18],[2],[2,20],[2,19,21],[2,8,14,22],[2,23]] [_,_,_,_,_,_,_,_,_,_,_,_,_,_,_,_,_,_,_,_,_,_,_,_,_] ⟨dG,jB G8,dG,bD λaD av=>λax=>bM Am.fd (ae o),bD λaD av=>λax=>iq (i:=1) ((Y aU).comp xe) yr (ba o ax) (av _ _ o o) o o,bD λaD av=>λax=>cN (ae o),bD λaD av=>λax=>jy (k:=iw) underlying26 qs (ba o ax) (ba o ax) (cz (dT B ax)),bD λaD av=>λax=>oV Ef KV.fd (ba o ax) o o,bD λaD av=>λax=>hn gR (ba o ax),bD λaD av=>λax=>bM Am.fd (ae o),bD λaD av=>λax=>iq (i:=1) ((Y aU).comp xe) yr (ba o ax) (av _ _ o o) o o,bD λaD av=>λax=>cN (ae o),bD λaD av=>λax=>jy (k:=lG) underlying26 qs (ba o ax) (ba o ax) (cz (dT C ax)),bD λaD av=>λax=>hn qs (ba o ax),bD λaD av=>λax=>fP .i (aeG (dT D ax)) ⟨ba o ax,u⟩,bD λaD av=>λax=>bM Am.fd (ae o),bD λaD av=>λax=>iq (i:=1) ((Y aU).comp xe) yr (ba o ax) (av _ _ o o) o o,bD λaD av=>λax=>cN (ae o),bD λaD av=>λax=>jy (k:=nd) underlying26 qs (ba o ax) (ba o ax) (cz (dT E ax)),bD λaD av=>λax=>hn qs (ba o ax),bD λaD av=>λax=>bM wk.fd (ae o),bD λaD av=>λax=>iq (i:=0) ((Y bg).comp um) u7 (ba o ax) (av _ _ o o) o o,bD λaD av=>λax=>fP .i (afa (dT F ax)) ⟨ba o ax,ba o ax,u⟩,bD λaD av=>λax=>fP .i (UX (dT G ax)) ⟨ba o ax,ba o ax,ba o ax,u⟩,ed λav=>mR (ae o) (ae o) (λh=>h),u⟩ ?_;refine bI (bC (be ?_));cases h;exact lQ)
instance:dd prog 134 _ _ _ J2 t t t:=.j (h:=λK M r h W A=>by
 refine bl (hT λN=>?_);refine hT λO=>?_;refine bI (eG ?_);refine j6 1 n5 ?_;refine cP (bM C1.fd) ?_;refine jz 0 xk bz ?_;refine aj h λP a h=>hU abk.dj (abk.m _ _ _ a) ?_;refine bI (fl (bl ?_));refine bJ ?_;refine cH kj (bC ?_);refine fR h (λh=>?_) λh=>?_
 ·refine bl (bI (bC (be (bv ?_))));cases h;exact lQ
 refine gE (bi (aj h λbB c h=>aj h λdi d h=>aj h λQ f h=>aj h λab j h=>er [0,1,2,3,4,5,8,9,10,11,12,13] ?_));refine ar.pf mixed (az 15 [] [] _::az 16 [0] [1] _::az 17 [] [] _::az 18 [1,2] [] _::az 19 [3] [] _::az 20 [4] [] _::az 21 [] [] _::az 22 [6] [1] _::az 23 [] [] _::az 24 [7,8] [] _::az 25 [9] [] _::az 26 [10] [] _::az 27 [5,11] [] _::az 14 [12] [] _::az 28 [13] [] _::az 29 [13] [] _::az 6 [14] [] _::az 7 [15] [] _::[]) ⟨hI (bM we.fd),qD 1 qS rz,gM,eF λaA av=>jy (k:=bB) underlying27 kl (ae (aA _ _ o)) (ae (aA _ _ o)) (cz c),eF λaA av=>oV Il Qt.fd (ae (aA _ _ o)) o o,hI (hn gR),hI (bM we.fd),qD 1 qS rz,gM,eF λaA av=>jy (k:=di) underlying27 kl (ae (aA _ _ o)) (ae (aA _ _ o)) (cz d),hI (hn kl),eF λaA av=>fP aat.dj (aat.m _ _ f) ⟨ae (aA _ _ o),u⟩,eF λaA av=>fP Mk.dj (Mk.m _ _ _ j) ⟨ae (aA _ _ o),ae (aA _ _ o),u⟩,gM,eF λaA av=>yf (ae (aA _ _ o)) o,eF λaA av=>yf (ae (aA _ _ o)) o,eF λaA av=>cc (ae (aA _ _ o)),eF λaA av=>cc (ae (aA _ _ o)),u⟩ λac=>?_;refine ca ?_;refine e4 (b5 (bi (bi ?_)));refine aj h λfm l h=>aj h λad m h=>aj h λag p h=>cI mixed 15 (rg 30 15) [[],[0],[1],[2],[2],[2],[2,5],[2],[2,6,7],[2,8],[2],[2,4,9,10],[2,3,11],[2,12],[2,13]] [_,_,_,_,_,_,_,_,_,_,_,_,_,_,_] ⟨dG,jB Av,dG,bD λaD av=>λax=>cN (ae o),bD λaD av=>λax=>iq (i:=1) (Y aU) n5 (ae o) (av _ _ o o) o o,bD λaD av=>λax=>bM we.fd (ae o),bD λaD av=>λax=>iq (i:=1) ((Y aU).comp qS) rz (ba o ax) (av _ _ o o) o o,bD λaD av=>λax=>cN (ae o),bD λaD av=>λax=>jy (k:=fm) underlying27 kl (ba o ax) (ba o ax) (cz (dT l ax)),bD λaD av=>λax=>hn kl (ba o ax),bD λaD av=>λax=>iq (i:=0) (Y bg) lM (ae o) (av _ _ o o) o o,bD λaD av=>λax=>fP .i (ags (dT m ax)) ⟨ba o ax,ba o ax,ba o ax,u⟩,bD λaD av=>λax=>fP .i (UW (dT p ax)) ⟨ba o ax,ba o ax,u⟩,bD λaD av=>λax=>lr (ba o ax),ed λav=>oY (ae o) (ae o) (λh=>h),u⟩ (bC ?_);refine fR h (λh=>?_) λh=>?_
 ·refine bl (bI (bC (be (bv ?_))));cases h;exact lQ
 refine gE (bi (bl (cP (bM uM.fd) ?_)));refine jz 0 s5 bz ?_;refine cH ir (bC ?_);refine fR h (λh=>?_) λh=>?_
 ·refine bl (bI (bC (be (bv ?_))));cases h;exact lQ
 refine gE (bl (j6 1 n5 ?_));refine cP (bM uM.fd) ?_;refine jz 0 s5 bz ?_;refine aj h λah B h=>hU aas.dj (aas.m _ _ _ B) ?_;refine bI (fl (bl ?_));refine bJ ?_;refine cH kj (bC ?_);refine fR h (λh=>?_) λh=>?_
 ·refine bl (bI (bC (be (bv ?_))));cases h;exact lQ
 refine gE (bi (aj h λiw C h=>aj h λlG D h=>aj h λai E h=>aj h λak F h=>er [0,1,2,3,4,5,8,9,10,11,12,13,14,15,16,17,18,19,20,21,22,23,24,25,26,27,28,29,30,31,32,33,34,35,36,37,38,39,40,41,42,43,44,45,46,47,48,49,50,51,52,53] ?_));refine ar.pf mixed (az 55 [] [] _::az 56 [0] [1] _::az 57 [] [] _::az 58 [1,2] [] _::az 59 [3] [] _::az 60 [4] [] _::az 61 [] [] _::az 62 [6] [1] _::az 63 [] [] _::az 64 [7,8] [] _::az 65 [9] [] _::az 66 [10] [] _::az 67 [5,11] [] _::az 54 [12] [] _::az 68 [13] [] _::az 69 [13] [] _::az 6 [14] [] _::az 7 [15] [] _::[]) ⟨hI (bM Am.fd),qD 1 xe yr,gM,eF λaA av=>jy (k:=iw) underlying26 qs (ae (aA _ _ o)) (ae (aA _ _ o)) (cz C),eF λaA av=>oV Ef KV.fd (ae (aA _ _ o)) o o,hI (hn gR),hI (bM Am.fd),qD 1 xe yr,gM,eF λaA av=>jy (k:=lG) underlying26 qs (ae (aA _ _ o)) (ae (aA _ _ o)) (cz D),hI (hn qs),eF λaA av=>fP aaK.dj (aaK.m _ _ E) ⟨ae (aA _ _ o),u⟩,eF λaA av=>fP Mk.dj (Mk.m _ _ _ F) ⟨ae (aA _ _ o),ae (aA _ _ o),u⟩,gM,eF λaA av=>yf (ae (aA _ _ o)) o,eF λaA av=>yf (ae (aA _ _ o)) o,eF λaA av=>cc (ae (aA _ _ o)),eF λaA av=>cc (ae (aA _ _ o)),u⟩ λal=>?_;refine ca ?_;refine e4 (b5 (bi ?_));refine aj h λnd G h=>aj h λam H h=>aj h λan I h=>cI mixed 14 (rg 70 14) [[],[0],[1],[2],[2],[2,4],[2],[2,5,6],[2,7],[2],[2,9],[2,8,10],[2,3,11],[2,12]] [_,_,_,_,_,_,_,_,_,_,_,_,_,_] ⟨dG,jB ir,dG,bD λaD av=>λax=>cN (ae o),bD λaD av=>λax=>bM Am.fd (ae o),bD λaD av=>λax=>iq (i:=1) ((Y aU).comp xe) yr (ba o ax) (av _ _ o o) o o,bD λaD av=>λax=>cN (ae o),bD λaD av=>λax=>jy (k:=nd) underlying26 qs (ba o ax) (ba o ax) (cz (dT G ax)),bD λaD av=>λax=>hn qs (ba o ax),bD λaD av=>λax=>bM wk.fd (ae o),bD λaD av=>λax=>iq (i:=0) ((Y bg).comp um) u7 (ba o ax) (av _ _ o o) o o,bD λaD av=>λax=>fP .i (afk (dT H ax)) ⟨ba o ax,ba o ax,u⟩,bD λaD av=>λax=>fP .i (UW (dT I ax)) ⟨ba o ax,ba o ax,u⟩,ed λav=>mR (ae o) (ae o) (λh=>h),u⟩ ?_;refine bI (bC (be ?_));cases h;exact lQ)
def Oi{m a c d f j l p}(h:xt m a c d p):C2 prog 40 [V f,V j,V l] ([a7 f a,a7 j c,a7 l d]++bc m) (aX:= {r:(aL Cell) // p r}×bG) (λB=>[a7 f a,a7 j c,a7 l d]++bc B.1.1):=by
 unfold xt at h;refine C2.of func40 o ntmps40 o λK M=>?_;refine go2 (λh=>?_) (λh=>?_)
 ·refine bp 3 0 o .i (acP (ag.aq h)) o o ⟨ae o,ae o,u⟩ o λ⟨⟨C,h⟩,N⟩=>?_;refine bm (bC (be (bv ?_)));exact Z 2 o (Z 2 o (Z 2 o (df (⟨⟨C,h⟩,()⟩: {r // _}×_) (.cons_cons _ (.cons_cons _ (.cons_cons _ (.refl _)))) o o)))
 refine y h λO D h=>y h λP E h=>y h λF G h=>dN (dl 3 (λq:aw Nat×Nat=>Cell.mw F q.1 q.2) o (pE E) .i (acA G) o (λ_=>rfl) ⟨jI (ae o) D,u⟩) o o o λH=>?_;replace h:=cq h H;refine y h λA I h=>c5 (mC:=(a7 f a::a7 j c::a7 l d::bc A)) (by rw[<-dz I];rfl) ?_;exact T (dm (Z 2 o (Z 2 o (Z 2 o (df (⟨⟨A,h⟩,()⟩: {r // _}×_) (.cons_cons _ (.cons_cons _ (.cons_cons _ (.refl _)))) o o)))))
instance abw:jg prog 52 _ _ _ _ zK t t t t:=.j (h:=λC d f A h D E=>by
 refine ay (λj l m F G p H I K B M N h=>?_);refine aj h λa c h=>?_;refine gw c [] (cG 1 (t d) (cG 3 (V j) (cG 5 (V l) (cG 7 (V m) (cG 8 (t p) (cG 9 (V B) (cG 49 (t f.aS.cp) (cG 50 (t (w f.aS.cp:Int)) (cD.cF [51]))))))))) (bZ (gx 0) h4) (bZ (λ_=>[(1,t d),(3,V j),(5,V l),(7,V m),(8,t p)]) (cD.cF [6])) (λO A h=>?_) ?_
 ·exact go
 rcases a with a|a
 ·simp only[ce]at h;refine ay ?_;refine e1 (λax=>oY (ba o ax) (ae o) (λh=>⟨ax,h⟩)) ?_;refine ay (λP Q h=>?_);refine aj h λfm ab h=>aj h λac ad h=>bS 10 ?_;exact go
 simp only[ci]at h;exact go)
def aeM{a c d}(h:BW a c=U d):cf prog 133 [a' a,a' c] (t d):=by
 unfold BW at h;refine cf.ak λf j=>?_;exact go
def agt{l m p c d}(h:Gm l m p=U d):k3 prog 61 [V c,t m,t p] c l (t d.1) d.2:=by
 unfold Gm at h;refine bu λG H=>?_;refine bl (hT λI=>?_);refine bI (fl (bi ?_));refine aj h λK C h=>cI mixed 7 (rg 9 7) [[],[0],[1],[2],[],[],[3,4,5]] [_,_,_,_,_,_,_] ⟨dG,H1 fp,H1 (bM alz.fd),iM 1 Oe n5,dG,pR 0 RL,jZ abw.dj (abw.m _ _ _ _ C),u⟩ ?_;refine bI (eG ?_);refine bJ ?_;refine cH Av (bC ?_);refine fR h (λh=>?_) λh=>?_
 ·refine bl (bJ ?_);refine bI (bC (be (bv ?_)));refine Z 1 o ?_;cases h;exact ff ()
 refine gE (bl (bI (fl (bl ?_))));refine cP (bM alA.fd) ?_;refine jz 0 TY bz (bC (cM (bl ?_)));refine cH ir ?_;refine bI (bC ?_);refine aj h λA f h=>?_;refine fg [] [(8,t A.1)] [(1,a7 c A.2)] ?_ (λhm a=>?_) λhm a=>?_
 ·refine co (b5 (bl (bJ ?_)));refine bI (bC (be ?_));refine Z 1 o ?_;cases h;exact ff ()
 ·have h:=da a f;refine c2 (bJ ?_);refine cP (bM GV.fd) ?_;refine jz 0 BF lM ?_;refine bJ ?_;refine S 1 o (aj h λM D h=>cy 1 .i (afz D) λN=>?_);refine bI (T ?_);refine Z 1 o ?_;cases h;exact cL 0 (hm ())
 have h:=db a f;refine bl (cH ir ?_);refine bI (bC ?_);refine aj h λB j h=>?_;refine fg [] [(8,t B.1)] [(1,a7 c B.2)] ?_ (λhm a=>?_) λhm a=>?_
 ·cases h;exact cL 0 (hm ())
 ·have h:=da a j;refine c2 (bJ ?_);refine cP (bM GV.fd) ?_;refine jz 0 BF lM ?_;refine S 1 o (aj h λO E h=>cy 1 .i (adQ E) λP=>?_);refine bJ ?_;refine pQ ?_;refine pQ ?_;refine bI (T ?_);refine Z 1 o ?_;cases h;exact cL 0 (hm ())
 have h:=db a j;refine c2 (bJ ?_);refine cP (bM GV.fd) ?_;refine jz 0 BF lM ?_;refine S 1 o (aj h λQ F h=>cy 1 .i (adR F) λab=>?_);refine bJ ?_;refine pQ ?_;refine pQ ?_;refine bI (T ?_);refine Z 1 o ?_;cases h;exact cL 0 (hm ())
instance:jg prog 78 _ _ _ _ tg t t t t:=.j (h:=λa d c r h W A=>by
 refine ay λl m p B=>?_;refine bW (au:=aU) 3 3 o o (bW (au:=bg) 0 7 o o (aT (uT (F:=zq a c.aS) (dF:=[a' a,a' c.aS]) .i ⟨ae o,ae o,u⟩ (λ_ h=>aey h)) ?_));refine ay ?_;refine bW (au:=Int) 2 4 o o (aT (uT (F:=zu a d c.aS) (dF:=[a' a,a' d,a' c.aS]) .i ⟨ae o,ae o,ae o,u⟩ (λ_ h=>aeB h)) ?_);refine ay ?_;refine aT (uT (F:=zv a d c.aS) (dF:=[a' a,a' d,a' c.aS]) .i ⟨ae o,ae o,ae o,u⟩ (λ_ h=>aeC h)) ?_;refine ay ?_;refine aT (uT (F:=zt a d) (dF:=[a' a,a' d]) .i ⟨ae o,ae o,u⟩ (λ_ h=>aez h)) ?_;refine ay λC D E G H I h=>?_;refine aT (uT (F:=zw a c.aS) (dF:=[a' a,a' c.aS]) .i ⟨ae o,ae o,u⟩ (λ_ h=>aeF h)) ?_;refine ay (λK M N O P Q h=>?_);refine e1 (λax=>oY (ba o ax) (ae o) (λh=>⟨ax,h⟩)) ?_;refine ay (λab ac h=>?_);refine aT (uT (F:=BP a c.aS) (dF:=[a' a,a' c.aS]) .i ⟨ae o,ae o,u⟩ (λ_ h=>aeA h)) ?_;refine aj h λad f h=>hU L7.dj (L7.m _ _ _ f) ?_;refine aT (uT (F:=BQ a d c.aS) (dF:=[a' a,a' d,a' c.aS]) .i ⟨ae o,ae o,ae o,u⟩ (λ_ h=>aeD h)) ?_;refine aj h λag j h=>hU L7.dj (L7.m _ _ _ j) ?_;refine aT (uT (F:=BR a c.aS) (dF:=[a' a,a' c.aS]) .i ⟨ae o,ae o,u⟩ (λ_ h=>aeE h)) ?_;refine aT (uT (F:=BW a c.aS) (dF:=[a' a,a' c.aS]) .i ⟨ae o,ae o,u⟩ (λ_ h=>aeM h)) ?_;exact go)
end Go.Proofs.YtmcjlfmeoehcmaaGreat
